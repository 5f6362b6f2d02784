/- What carries a law of the program to its statement. Printed by law.py. -/
import Derived.Test.YteambpeibacfpaaGreatJ7
import Derived.Test.YteambpeibacfpaaGreatJ4
import Derived.Test.YteambpeibacfpaaGreatRows
import Derived.Test.YteambpeibacfpaaGreatJ5
set_option maxHeartbeats 4000000
set_option linter.unusedSimpArgs false
set_option linter.unusedVariables false
open Nat (reduceEqDiff reduceLT reduceLeDiff reduceMul reduceAdd reduceSub)
open Go.IntKind (i64)
open Go.Proofs.Tryz
namespace Go.Proofs.YteambpeibacfpaaGreat
open Go.b7
open Go.ChangeShapes Go.WideShapes Go.ChangeAt Go.RowKit
variable{w:World}{H:Type}{enc:TypeId×Value->H}
set_option maxRecDepth 100000 in
theorem aaV:Tryz.prog.funcNamed Rows.versionComposeRow.func=some 5:=by kernel_rfl
set_option maxRecDepth 100000 in
theorem aam:(laidOutB Tryz.prog)=true:=by kernel_rfl
set_option maxRecDepth 100000 in
theorem aan:(mapsRowed Tryz.prog)=true:=by kernel_rfl
set_option maxRecDepth 100000 in
theorem aao:(Rows.versionComposeRow.inPlace == Tryz.prog.inPlace 5)=true:=by kernel_rfl
set_option maxRecDepth 100000 in
theorem aap:(Rows.versionComposeRow.unfollowed == Tryz.prog.unfollowed 5)=true:=by kernel_rfl
set_option maxRecDepth 100000 in
theorem aaq:(Rows.versionComposeRow.recurses == Tryz.prog.recurses 5)=true:=by kernel_rfl
set_option maxRecDepth 100000 in
theorem aar:(Rows.versionComposeRow.named == Tryz.prog.varsNamed 5)=true:=by kernel_rfl
set_option maxRecDepth 100000 in
theorem aas:(Rows.versionComposeRow.plainKeys == Tryz.prog.plainKeys)=true:=by kernel_rfl
set_option maxRecDepth 100000 in
theorem aat:(Tryz.prog.stopsHeard)=true:=by kernel_rfl
set_option maxRecDepth 100000 in
theorem aau:(Tryz.prog.mayEnter)=true:=by kernel_rfl
set_option maxRecDepth 100000 in
theorem aav:(Rows.versionComposeRow.lifted == Tryz.prog.liftsFinal)=true:=by kernel_rfl
set_option maxRecDepth 100000 in
theorem yQ:(Tryz.prog.make == some Rows.versionComposeRow.make)=true:=by kernel_rfl
set_option maxRecDepth 100000 in
theorem aaW:joinedFacts Tryz.prog 5 f5 Rows.versionComposeSpec Rows.versionComposeRow=true:=by unfold joinedFacts;rw[aam,aan,aao,aap,aaq,aar,aas,aat,aau,aav,yQ];kernel_rfl
set_option maxRecDepth 100000 in
theorem acX(l:∀ (a0:Types) (a1:ay) (a2:eF),G25 a0->G34 a1->G55 a2->eY a0 a1 a2=some true):Rows.VersionComposeSaid :=
 OpenClaim.holds_of_wide 5 f5 rfl rfl rfl rfl rfl rfl rfl ⟨rfl,rfl,rfl,rfl,rfl⟩ rfl rfl rfl rfl rfl aaV func5 aaW
  (bX (by kernel_rfl)) (by unfold Func.isWrapper;first|(rw[if_pos (by decide +kernel)];kernel_rfl)|(rw[if_neg (by decide +kernel)];exact⟨rfl,rfl⟩))
  (λos started H enc _=>abq (C:=checked) (α:=Types×ay×eF×Unit) (e:=λx=>[.agg [.aL (x.1.nodes.map aB),.aL (x.1.ah.map aC)],.agg (az x.2.1),.agg (gX x.2.2.1)]) (G:=λx=>G25 x.1/\G34 x.2.1/\G55 x.2.2.1/\True) (s:=Rows.versionComposeSpec) (conds:=Rows.versionComposeRow.domain) (by kernel_rfl) aeS started (by kernel_rfl) func5
   (ChangeSpec.witness6 (enc:=enc) (C:=checked) false ⟨#[],#[.agg #[.slice none 0 0,.slice none 0 0],.agg #[.slice none 0 0,.slice none 0 0,.slice none 0 0,.slice none 0 0,.slice none 0 0,.int .i64 0],.agg #[.slice none 0 0,.slice none 0 0,.slice none 0 0,.slice none 0 0,.slice none 0 0,.int .i64 0,.int .i64 0,.slice none 0 0,.slice none 0 0,.slice none 0 0,.slice none 0 0,.slice none 0 0,.int .i64 0,.int .i64 0]],[]⟩ 8 (by kernel_rfl) (by kernel_rfl) (by kernel_rfl) (by kernel_rfl))
   rfl underlying4 rfl (λds hl=>by match ds,hl with | [d0,d1,d2],_=>exact⟨rfl,rfl,rfl⟩) (λW=>by
   rw[params5];exact (.cons (show pM Tryz.prog W enc 25 (λx:Types=>.agg [.aL (x.nodes.map aB),.aL (x.ah.map aC)]) G25 from pM.struct underlying25 d25 (by kernel_rfl) (bX (by kernel_rfl)))
   (.cons (show pM Tryz.prog W enc 34 (λx:ay=>.agg (az x)) G34 from pM.struct underlying34 d34 (by kernel_rfl) (bX (by kernel_rfl)))
   (.cons (show pM Tryz.prog W enc 55 (λx:eF=>.agg (gX x)) G55 from pM.struct underlying55 d55 (by kernel_rfl) (bX (by kernel_rfl)))
   .nil)))) (λx h=>rR x.1 x.2.1 x.2.2.1 true (l x.1 x.2.1 x.2.2.1 h.1 h.2.1 h.2.2.1)))
end Go.Proofs.YteambpeibacfpaaGreat
