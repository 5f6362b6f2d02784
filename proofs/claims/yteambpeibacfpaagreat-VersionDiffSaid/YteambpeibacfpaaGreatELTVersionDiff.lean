/- What carries a law of the program to its statement. Printed by law.py. -/
import Derived.Test.YteambpeibacfpaaGreatJ7
import Derived.Test.YteambpeibacfpaaGreatJ4
import Derived.Test.YteambpeibacfpaaGreatRows
import Derived.Test.YteambpeibacfpaaGreatJ5
set_option maxHeartbeats 4000000
set_option linter.unusedSimpArgs false
set_option linter.unusedVariables false
open Nat (reduceEqDiff reduceLT reduceLeDiff reduceMul reduceAdd reduceSub)
open Go.IntKind (i64)
open Go.Proofs.Tryz
namespace Go.Proofs.YteambpeibacfpaaGreat
open Go.b7
open Go.ChangeShapes Go.WideShapes Go.ChangeAt Go.RowKit
variable{w:World}{H:Type}{enc:TypeId×Value->H}
set_option maxRecDepth 100000 in
theorem ad2:Tryz.prog.funcNamed Rows.versionDiffRow.func=some 4:=by kernel_rfl
set_option maxRecDepth 100000 in
theorem acN:(laidOutB Tryz.prog)=true:=by kernel_rfl
set_option maxRecDepth 100000 in
theorem acO:(mapsRowed Tryz.prog)=true:=by kernel_rfl
set_option maxRecDepth 100000 in
theorem acP:(Rows.versionDiffRow.inPlace == Tryz.prog.inPlace 4)=true:=by kernel_rfl
set_option maxRecDepth 100000 in
theorem acQ:(Rows.versionDiffRow.unfollowed == Tryz.prog.unfollowed 4)=true:=by kernel_rfl
set_option maxRecDepth 100000 in
theorem acR:(Rows.versionDiffRow.recurses == Tryz.prog.recurses 4)=true:=by kernel_rfl
set_option maxRecDepth 100000 in
theorem acS:(Rows.versionDiffRow.named == Tryz.prog.varsNamed 4)=true:=by kernel_rfl
set_option maxRecDepth 100000 in
theorem acT:(Rows.versionDiffRow.plainKeys == Tryz.prog.plainKeys)=true:=by kernel_rfl
set_option maxRecDepth 100000 in
theorem acU:(Tryz.prog.stopsHeard)=true:=by kernel_rfl
set_option maxRecDepth 100000 in
theorem acV:(Tryz.prog.mayEnter)=true:=by kernel_rfl
set_option maxRecDepth 100000 in
theorem acW:(Rows.versionDiffRow.lifted == Tryz.prog.liftsFinal)=true:=by kernel_rfl
set_option maxRecDepth 100000 in
theorem ab1:(Tryz.prog.make == some Rows.versionDiffRow.make)=true:=by kernel_rfl
set_option maxRecDepth 100000 in
theorem ad3:joinedFacts Tryz.prog 4 Tryz.f4 Rows.versionDiffSpec Rows.versionDiffRow=true:=by unfold joinedFacts;rw[acN,acO,acP,acQ,acR,acS,acT,acU,acV,acW,ab1];kernel_rfl
set_option maxRecDepth 100000 in
theorem afU(l:∀ (a0:Types) (a1:ay) (a2:ay),G25 a0->G34 a1->G34 a2->fK a0 a1 a2=some true):Rows.VersionDiffSaid :=
 OpenClaim.holds_of_wide 4 Tryz.f4 rfl rfl rfl rfl rfl rfl rfl ⟨rfl,rfl,rfl,rfl,rfl⟩ rfl rfl rfl rfl rfl ad2 func4 ad3
  (bX (by kernel_rfl)) (by unfold Func.isWrapper;first|(rw[if_pos (by decide +kernel)];kernel_rfl)|(rw[if_neg (by decide +kernel)];exact⟨rfl,rfl⟩))
  (λos started H enc _=>abq (C:=checked) (α:=Types×ay×ay×Unit) (e:=λx=>[.agg [.aL (x.1.nodes.map aB),.aL (x.1.ah.map aC)],.agg (az x.2.1),.agg (az x.2.2.1)]) (G:=λx=>G25 x.1/\G34 x.2.1/\G34 x.2.2.1/\True) (s:=Rows.versionDiffSpec) (conds:=Rows.versionDiffRow.domain) (by kernel_rfl) aeS started (by kernel_rfl) func4
   (ChangeSpec.witness6 (enc:=enc) (C:=checked) false ⟨#[],#[.agg #[.slice none 0 0,.slice none 0 0],.agg #[.slice none 0 0,.slice none 0 0,.slice none 0 0,.slice none 0 0,.slice none 0 0,.int .i64 0],.agg #[.slice none 0 0,.slice none 0 0,.slice none 0 0,.slice none 0 0,.slice none 0 0,.int .i64 0]],[]⟩ 8 (by kernel_rfl) (by kernel_rfl) (by kernel_rfl) (by kernel_rfl))
   rfl underlying4 rfl (λds hl=>by match ds,hl with | [d0,d1,d2],_=>exact⟨rfl,rfl,rfl⟩) (λW=>by
   rw[params4];exact (.cons (show pM Tryz.prog W enc 25 (λx:Types=>.agg [.aL (x.nodes.map aB),.aL (x.ah.map aC)]) G25 from pM.struct underlying25 d25 (by kernel_rfl) (bX (by kernel_rfl)))
   (.cons (show pM Tryz.prog W enc 34 (λx:ay=>.agg (az x)) G34 from pM.struct underlying34 d34 (by kernel_rfl) (bX (by kernel_rfl)))
   (.cons (show pM Tryz.prog W enc 34 (λx:ay=>.agg (az x)) G34 from pM.struct underlying34 d34 (by kernel_rfl) (bX (by kernel_rfl)))
   .nil)))) (λx h=>tW x.1 x.2.1 x.2.2.1 true (l x.1 x.2.1 x.2.2.1 h.1 h.2.1 h.2.2.1)))
end Go.Proofs.YteambpeibacfpaaGreat
