/- What carries a law of the program to its statement. Printed by law.py. -/
import Derived.Test.YtjhkgjlmiolfoaaGreatK7
import Derived.Test.YtjhkgjlmiolfoaaGreatK4
import Derived.Test.YtjhkgjlmiolfoaaGreatRows
import Derived.Test.YtjhkgjlmiolfoaaGreatK5
set_option maxHeartbeats 4000000
set_option linter.unusedSimpArgs false
set_option linter.unusedVariables false
open Nat (reduceEqDiff reduceLT reduceLeDiff reduceMul reduceAdd reduceSub)
open Go.IntKind (i64)
open Go.Proofs.Tryz
namespace Go.Proofs.YtjhkgjlmiolfoaaGreat
open Go.cq
open Go.ChangeShapes Go.WideShapes Go.ChangeAt Go.RowKit
variable{w:World}{H:Type}{enc:TypeId×Value->H}
set_option maxRecDepth 100000 in
theorem aaK:Tryz.prog.funcNamed Rows.mergeRebasedRow.func=some 5:=by kernel_rfl
set_option maxRecDepth 100000 in
theorem aac:(laidOutB Tryz.prog)=true:=by kernel_rfl
set_option maxRecDepth 100000 in
theorem aad:(mapsRowed Tryz.prog)=true:=by kernel_rfl
set_option maxRecDepth 100000 in
theorem aae:(Rows.mergeRebasedRow.inPlace == Tryz.prog.inPlace 5)=true:=by kernel_rfl
set_option maxRecDepth 100000 in
theorem aaf:(Rows.mergeRebasedRow.unfollowed == Tryz.prog.unfollowed 5)=true:=by kernel_rfl
set_option maxRecDepth 100000 in
theorem aag:(Rows.mergeRebasedRow.recurses == Tryz.prog.recurses 5)=true:=by kernel_rfl
set_option maxRecDepth 100000 in
theorem aah:(Rows.mergeRebasedRow.named == Tryz.prog.varsNamed 5)=true:=by kernel_rfl
set_option maxRecDepth 100000 in
theorem aai:(Rows.mergeRebasedRow.plainKeys == Tryz.prog.plainKeys)=true:=by kernel_rfl
set_option maxRecDepth 100000 in
theorem aaj:(Tryz.prog.stopsHeard)=true:=by kernel_rfl
set_option maxRecDepth 100000 in
theorem aak:(Tryz.prog.mayEnter)=true:=by kernel_rfl
set_option maxRecDepth 100000 in
theorem aal:(Rows.mergeRebasedRow.lifted == Tryz.prog.liftsFinal)=true:=by kernel_rfl
set_option maxRecDepth 100000 in
theorem yG:(Tryz.prog.make == some Rows.mergeRebasedRow.make)=true:=by kernel_rfl
set_option maxRecDepth 100000 in
theorem aaL:joinedFacts Tryz.prog 5 f5 Rows.mergeRebasedSpec Rows.mergeRebasedRow=true:=by unfold joinedFacts;rw[aac,aad,aae,aaf,aag,aah,aai,aaj,aak,aal,yG];kernel_rfl
set_option maxRecDepth 100000 in
theorem ac1(l:∀ (a0:bQ),G27 a0->fu a0=some true):Rows.MergeRebasedSaid :=
 OpenClaim.holds_of_wide 5 f5 rfl rfl rfl rfl rfl rfl rfl ⟨rfl,rfl,rfl,rfl,rfl⟩ rfl rfl rfl rfl rfl aaK func5 aaL
  (cm (by kernel_rfl)) (by unfold Func.isWrapper;first|(rw[if_pos (by decide +kernel)];kernel_rfl)|(rw[if_neg (by decide +kernel)];exact⟨rfl,rfl⟩))
  (λos started H enc _=>axA (C:=checked) (α:=bQ×Unit) (e:=λx=>[.agg (eF x.1)]) (G:=λx=>G27 x.1/\True) (s:=Rows.mergeRebasedSpec) (conds:=Rows.mergeRebasedRow.domain) (by kernel_rfl) aBm started (by kernel_rfl) func5
   (ChangeSpec.witness6 (enc:=enc) (C:=checked) false ⟨#[],#[.agg #[.slice none 0 0,.slice none 0 0,.slice none 0 0,.slice none 0 0,.slice none 0 0,.slice none 0 0,.slice none 0 0]],[]⟩ 8 (by kernel_rfl) (by kernel_rfl) (by kernel_rfl) (by kernel_rfl))
   rfl underlying4 rfl (λds hl=>by match ds,hl with | [d0],_=>exact⟨rfl,rfl,rfl⟩) (λW=>by
   rw[params5];exact (.cons (show ajp Tryz.prog W enc 27 (λx:bQ=>.agg (eF x)) G27 from ajp.struct underlying27 d27 (by kernel_rfl) (cm (by kernel_rfl)))
   .nil)) (λx h=>rM x.1 true (l x.1 h.1)))
end Go.Proofs.YtjhkgjlmiolfoaaGreat
