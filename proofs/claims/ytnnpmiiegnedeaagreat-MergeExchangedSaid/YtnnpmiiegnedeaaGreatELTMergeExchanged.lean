/- What carries a law of the program to its statement. Printed by law.py. -/
import Derived.Test.YtnnpmiiegnedeaaGreatJ7
import Derived.Test.YtnnpmiiegnedeaaGreatJ4
import Derived.Test.YtnnpmiiegnedeaaGreatRows
import Derived.Test.YtnnpmiiegnedeaaGreatJ5
set_option maxHeartbeats 4000000
set_option linter.unusedSimpArgs false
set_option linter.unusedVariables false
open Nat (reduceEqDiff reduceLT reduceLeDiff reduceMul reduceAdd reduceSub)
open Go.IntKind (i64)
open Go.Proofs.Tryz
namespace Go.Proofs.YtnnpmiiegnedeaaGreat
open Go.cv
open Go.ChangeShapes Go.WideShapes Go.ChangeAt Go.RowKit
variable{w:World}{H:Type}{enc:TypeId×Value->H}
set_option maxRecDepth 100000 in
theorem zg:Tryz.prog.funcNamed Rows.mergeExchangedRow.func=some 3:=by kernel_rfl
set_option maxRecDepth 100000 in
theorem yw:(laidOutB Tryz.prog)=true:=by kernel_rfl
set_option maxRecDepth 100000 in
theorem yx:(mapsRowed Tryz.prog)=true:=by kernel_rfl
set_option maxRecDepth 100000 in
theorem yy:(Rows.mergeExchangedRow.inPlace == Tryz.prog.inPlace 3)=true:=by kernel_rfl
set_option maxRecDepth 100000 in
theorem yz:(Rows.mergeExchangedRow.unfollowed == Tryz.prog.unfollowed 3)=true:=by kernel_rfl
set_option maxRecDepth 100000 in
theorem yA:(Rows.mergeExchangedRow.recurses == Tryz.prog.recurses 3)=true:=by kernel_rfl
set_option maxRecDepth 100000 in
theorem yB:(Rows.mergeExchangedRow.named == Tryz.prog.varsNamed 3)=true:=by kernel_rfl
set_option maxRecDepth 100000 in
theorem yC:(Rows.mergeExchangedRow.plainKeys == Tryz.prog.plainKeys)=true:=by kernel_rfl
set_option maxRecDepth 100000 in
theorem yD:(Tryz.prog.stopsHeard)=true:=by kernel_rfl
set_option maxRecDepth 100000 in
theorem yE:(Tryz.prog.mayEnter)=true:=by kernel_rfl
set_option maxRecDepth 100000 in
theorem yF:(Rows.mergeExchangedRow.lifted == Tryz.prog.liftsFinal)=true:=by kernel_rfl
set_option maxRecDepth 100000 in
theorem xH:(Tryz.prog.make == some Rows.mergeExchangedRow.make)=true:=by kernel_rfl
set_option maxRecDepth 100000 in
theorem zh:joinedFacts Tryz.prog 3 Tryz.f3 Rows.mergeExchangedSpec Rows.mergeExchangedRow=true:=by unfold joinedFacts;rw[yw,yx,yy,yz,yA,yB,yC,yD,yE,yF,xH];kernel_rfl
set_option maxRecDepth 100000 in
theorem aa8(l:∀ (a0:bS),Cl a0->eV a0=some true):Rows.MergeExchangedSaid :=
 OpenClaim.holds_of_wide 3 Tryz.f3 rfl rfl rfl rfl rfl rfl rfl ⟨rfl,rfl,rfl,rfl,rfl⟩ rfl rfl rfl rfl rfl zg func3 zh
  (b6 (by kernel_rfl)) (by unfold Func.isWrapper;first|(rw[if_pos (by decide +kernel)];kernel_rfl)|(rw[if_neg (by decide +kernel)];exact⟨rfl,rfl⟩))
  (λos started H enc _=>WD (C:=checked) (α:=bS×Unit) (e:=λx=>[.agg (eR x.1)]) (G:=λx=>Cl x.1/\True) (s:=Rows.mergeExchangedSpec) (conds:=Rows.mergeExchangedRow.domain) (by kernel_rfl) aCo started (by kernel_rfl) func3
   (ChangeSpec.witness6 (enc:=enc) (C:=checked) false ⟨#[],#[.agg #[.slice none 0 0,.slice none 0 0,.slice none 0 0,.slice none 0 0,.slice none 0 0,.slice none 0 0,.slice none 0 0]],[]⟩ 8 (by kernel_rfl) (by kernel_rfl) (by kernel_rfl) (by kernel_rfl))
   rfl underlying4 rfl (λds hl=>by match ds,hl with | [d0],_=>exact⟨rfl,rfl,rfl⟩) (λW=>by
   rw[params3];exact (.cons (show y9 Tryz.prog W enc 27 (λx:bS=>.agg (eR x)) Cl from y9.struct underlying27 d27 (by kernel_rfl) (b6 (by kernel_rfl)))
   .nil)) (λx h=>rH x.1 true (l x.1 h.1)))
end Go.Proofs.YtnnpmiiegnedeaaGreat
