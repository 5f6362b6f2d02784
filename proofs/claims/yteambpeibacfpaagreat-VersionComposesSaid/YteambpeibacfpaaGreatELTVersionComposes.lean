/- What carries a law of the program to its statement. Printed by law.py. -/
import Derived.Test.YteambpeibacfpaaGreatJ7
import Derived.Test.YteambpeibacfpaaGreatJ4
import Derived.Test.YteambpeibacfpaaGreatRows
import Derived.Test.YteambpeibacfpaaGreatJ5
set_option maxHeartbeats 4000000
set_option linter.unusedSimpArgs false
set_option linter.unusedVariables false
open Nat (reduceEqDiff reduceLT reduceLeDiff reduceMul reduceAdd reduceSub)
open Go.IntKind (i64)
open Go.Proofs.Tryz
namespace Go.Proofs.YteambpeibacfpaaGreat
open Go.b7
open Go.ChangeShapes Go.WideShapes Go.ChangeAt Go.RowKit
variable{w:World}{H:Type}{enc:TypeId×Value->H}
set_option maxRecDepth 100000 in
theorem aaw:Tryz.prog.funcNamed Rows.versionComposesRow.func=some 7:=by kernel_rfl
set_option maxRecDepth 100000 in
theorem yR:(laidOutB Tryz.prog)=true:=by kernel_rfl
set_option maxRecDepth 100000 in
theorem yS:(mapsRowed Tryz.prog)=true:=by kernel_rfl
set_option maxRecDepth 100000 in
theorem yT:(Rows.versionComposesRow.inPlace == Tryz.prog.inPlace 7)=true:=by kernel_rfl
set_option maxRecDepth 100000 in
theorem yU:(Rows.versionComposesRow.unfollowed == Tryz.prog.unfollowed 7)=true:=by kernel_rfl
set_option maxRecDepth 100000 in
theorem yV:(Rows.versionComposesRow.recurses == Tryz.prog.recurses 7)=true:=by kernel_rfl
set_option maxRecDepth 100000 in
theorem yW:(Rows.versionComposesRow.named == Tryz.prog.varsNamed 7)=true:=by kernel_rfl
set_option maxRecDepth 100000 in
theorem yX:(Rows.versionComposesRow.plainKeys == Tryz.prog.plainKeys)=true:=by kernel_rfl
set_option maxRecDepth 100000 in
theorem yY:(Tryz.prog.stopsHeard)=true:=by kernel_rfl
set_option maxRecDepth 100000 in
theorem yZ:(Tryz.prog.mayEnter)=true:=by kernel_rfl
set_option maxRecDepth 100000 in
theorem y2:(Rows.versionComposesRow.lifted == Tryz.prog.liftsFinal)=true:=by kernel_rfl
set_option maxRecDepth 100000 in
theorem xT:(Tryz.prog.make == some Rows.versionComposesRow.make)=true:=by kernel_rfl
set_option maxRecDepth 100000 in
theorem aax:joinedFacts Tryz.prog 7 f7 Rows.versionComposesSpec Rows.versionComposesRow=true:=by unfold joinedFacts;rw[yR,yS,yT,yU,yV,yW,yX,yY,yZ,y2,xT];kernel_rfl
set_option maxRecDepth 100000 in
theorem acf(l:∀ (a0:bC) (a1:List eB) (a2:List eB),G66 a0->G62 a1->G62 a2->eR a0 a1 a2=some true):Rows.VersionComposesSaid :=
 OpenClaim.holds_of_wide 7 f7 rfl rfl rfl rfl rfl rfl rfl ⟨rfl,rfl,rfl,rfl,rfl⟩ rfl rfl rfl rfl rfl aaw func7 aax
  (bX (by kernel_rfl)) (by unfold Func.isWrapper;first|(rw[if_pos (by decide +kernel)];kernel_rfl)|(rw[if_neg (by decide +kernel)];exact⟨rfl,rfl⟩))
  (λos started H enc _=>abq (C:=checked) (α:=bC×(List eB)×(List eB)×Unit) (e:=λx=>[.agg (cQ x.1),.aL (x.2.1.map dw),.aL (x.2.2.1.map dw)]) (G:=λx=>G66 x.1/\G62 x.2.1/\G62 x.2.2.1/\True) (s:=Rows.versionComposesSpec) (conds:=Rows.versionComposesRow.domain) (by kernel_rfl) aeS started (by kernel_rfl) func7
   (ChangeSpec.witness6 (enc:=enc) (C:=checked) false ⟨#[],#[.agg #[.slice none 0 0,.slice none 0 0,.slice none 0 0,.slice none 0 0],.slice none 0 0,.slice none 0 0],[]⟩ 8 (by kernel_rfl) (by kernel_rfl) (by kernel_rfl) (by kernel_rfl))
   rfl underlying4 rfl (λds hl=>by match ds,hl with | [d0,d1,d2],_=>exact⟨rfl,rfl,rfl⟩) (λW=>by
   rw[params7];exact (.cons (show pM Tryz.prog W enc 66 (λx:bC=>.agg (cQ x)) G66 from pM.struct underlying66 d66 (by kernel_rfl) (bX (by kernel_rfl)))
   (.cons (show pM Tryz.prog W enc 62 (λx:List eB=>.aL (x.map dw)) G62 from pM.one (abp underlying62) d62 (by kernel_rfl) (bX (by kernel_rfl)))
   (.cons (show pM Tryz.prog W enc 62 (λx:List eB=>.aL (x.map dw)) G62 from pM.one (abp underlying62) d62 (by kernel_rfl) (bX (by kernel_rfl)))
   .nil)))) (λx h=>qI x.1 x.2.1 x.2.2.1 true (l x.1 x.2.1 x.2.2.1 h.1 h.2.1 h.2.2.1)))
end Go.Proofs.YteambpeibacfpaaGreat
