/- What carries a law of the program to its statement. Printed by law.py. -/
import Derived.Test.YteambpeibacfpaaGreatJ7
import Derived.Test.YteambpeibacfpaaGreatJ4
import Derived.Test.YteambpeibacfpaaGreatRows
import Derived.Test.YteambpeibacfpaaGreatJ5
set_option maxHeartbeats 4000000
set_option linter.unusedSimpArgs false
set_option linter.unusedVariables false
open Nat (reduceEqDiff reduceLT reduceLeDiff reduceMul reduceAdd reduceSub)
open Go.IntKind (i64)
open Go.Proofs.Tryz
namespace Go.Proofs.YteambpeibacfpaaGreat
open Go.b7
open Go.ChangeShapes Go.WideShapes Go.ChangeAt Go.RowKit
variable{w:World}{H:Type}{enc:TypeId×Value->H}
set_option maxRecDepth 100000 in
theorem acY:Tryz.prog.funcNamed Rows.versionLeadsRow.func=some 6:=by kernel_rfl
set_option maxRecDepth 100000 in
theorem ab2:(laidOutB Tryz.prog)=true:=by kernel_rfl
set_option maxRecDepth 100000 in
theorem ab3:(mapsRowed Tryz.prog)=true:=by kernel_rfl
set_option maxRecDepth 100000 in
theorem ab4:(Rows.versionLeadsRow.inPlace == Tryz.prog.inPlace 6)=true:=by kernel_rfl
set_option maxRecDepth 100000 in
theorem ab5:(Rows.versionLeadsRow.unfollowed == Tryz.prog.unfollowed 6)=true:=by kernel_rfl
set_option maxRecDepth 100000 in
theorem ab6:(Rows.versionLeadsRow.recurses == Tryz.prog.recurses 6)=true:=by kernel_rfl
set_option maxRecDepth 100000 in
theorem ab7:(Rows.versionLeadsRow.named == Tryz.prog.varsNamed 6)=true:=by kernel_rfl
set_option maxRecDepth 100000 in
theorem ab8:(Rows.versionLeadsRow.plainKeys == Tryz.prog.plainKeys)=true:=by kernel_rfl
set_option maxRecDepth 100000 in
theorem ab9:(Tryz.prog.stopsHeard)=true:=by kernel_rfl
set_option maxRecDepth 100000 in
theorem acd:(Tryz.prog.mayEnter)=true:=by kernel_rfl
set_option maxRecDepth 100000 in
theorem ace:(Rows.versionLeadsRow.lifted == Tryz.prog.liftsFinal)=true:=by kernel_rfl
set_option maxRecDepth 100000 in
theorem aaX:(Tryz.prog.make == some Rows.versionLeadsRow.make)=true:=by kernel_rfl
set_option maxRecDepth 100000 in
theorem acZ:joinedFacts Tryz.prog 6 Tryz.f6 Rows.versionLeadsSpec Rows.versionLeadsRow=true:=by unfold joinedFacts;rw[ab2,ab3,ab4,ab5,ab6,ab7,ab8,ab9,acd,ace,aaX];kernel_rfl
set_option maxRecDepth 100000 in
theorem ae7(l:∀ (a0:bC) (a1:List eB),G66 a0->G62 a1->fG a0 a1=some true):Rows.VersionLeadsSaid :=
 OpenClaim.holds_of_wide 6 Tryz.f6 rfl rfl rfl rfl rfl rfl rfl ⟨rfl,rfl,rfl,rfl,rfl⟩ rfl rfl rfl rfl rfl acY func6 acZ
  (bX (by kernel_rfl)) (by unfold Func.isWrapper;first|(rw[if_pos (by decide +kernel)];kernel_rfl)|(rw[if_neg (by decide +kernel)];exact⟨rfl,rfl⟩))
  (λos started H enc _=>abq (C:=checked) (α:=bC×(List eB)×Unit) (e:=λx=>[.agg (cQ x.1),.aL (x.2.1.map dw)]) (G:=λx=>G66 x.1/\G62 x.2.1/\True) (s:=Rows.versionLeadsSpec) (conds:=Rows.versionLeadsRow.domain) (by kernel_rfl) aeS started (by kernel_rfl) func6
   (ChangeSpec.witness6 (enc:=enc) (C:=checked) false ⟨#[],#[.agg #[.slice none 0 0,.slice none 0 0,.slice none 0 0,.slice none 0 0],.slice none 0 0],[]⟩ 8 (by kernel_rfl) (by kernel_rfl) (by kernel_rfl) (by kernel_rfl))
   rfl underlying4 rfl (λds hl=>by match ds,hl with | [d0,d1],_=>exact⟨rfl,rfl,rfl⟩) (λW=>by
   rw[params6];exact (.cons (show pM Tryz.prog W enc 66 (λx:bC=>.agg (cQ x)) G66 from pM.struct underlying66 d66 (by kernel_rfl) (bX (by kernel_rfl)))
   (.cons (show pM Tryz.prog W enc 62 (λx:List eB=>.aL (x.map dw)) G62 from pM.one (abp underlying62) d62 (by kernel_rfl) (bX (by kernel_rfl)))
   .nil))) (λx h=>sX x.1 x.2.1 true (l x.1 x.2.1 h.1 h.2.1)))
end Go.Proofs.YteambpeibacfpaaGreat
