/- What carries a law of the program to its statement. Printed by law.py. -/
import Derived.Test.YteambpeibacfpaaGreatJ7
import Derived.Test.YteambpeibacfpaaGreatJ4
import Derived.Test.YteambpeibacfpaaGreatRows
import Derived.Test.YteambpeibacfpaaGreatJ5
set_option maxHeartbeats 4000000
set_option linter.unusedSimpArgs false
set_option linter.unusedVariables false
open Nat (reduceEqDiff reduceLT reduceLeDiff reduceMul reduceAdd reduceSub)
open Go.IntKind (i64)
open Go.Proofs.Tryz
namespace Go.Proofs.YteambpeibacfpaaGreat
open Go.b7
open Go.ChangeShapes Go.WideShapes Go.ChangeAt Go.RowKit
variable{w:World}{H:Type}{enc:TypeId×Value->H}
set_option maxRecDepth 100000 in
theorem acL:Tryz.prog.funcNamed Rows.versionValidRow.func=some 3:=by kernel_rfl
set_option maxRecDepth 100000 in
theorem abR:(laidOutB Tryz.prog)=true:=by kernel_rfl
set_option maxRecDepth 100000 in
theorem abS:(mapsRowed Tryz.prog)=true:=by kernel_rfl
set_option maxRecDepth 100000 in
theorem abT:(Rows.versionValidRow.inPlace == Tryz.prog.inPlace 3)=true:=by kernel_rfl
set_option maxRecDepth 100000 in
theorem abU:(Rows.versionValidRow.unfollowed == Tryz.prog.unfollowed 3)=true:=by kernel_rfl
set_option maxRecDepth 100000 in
theorem abV:(Rows.versionValidRow.recurses == Tryz.prog.recurses 3)=true:=by kernel_rfl
set_option maxRecDepth 100000 in
theorem abW:(Rows.versionValidRow.named == Tryz.prog.varsNamed 3)=true:=by kernel_rfl
set_option maxRecDepth 100000 in
theorem abX:(Rows.versionValidRow.plainKeys == Tryz.prog.plainKeys)=true:=by kernel_rfl
set_option maxRecDepth 100000 in
theorem abY:(Tryz.prog.stopsHeard)=true:=by kernel_rfl
set_option maxRecDepth 100000 in
theorem abZ:(Tryz.prog.mayEnter)=true:=by kernel_rfl
set_option maxRecDepth 100000 in
theorem ab0:(Rows.versionValidRow.lifted == Tryz.prog.liftsFinal)=true:=by kernel_rfl
set_option maxRecDepth 100000 in
theorem aaU:(Tryz.prog.make == some Rows.versionValidRow.make)=true:=by kernel_rfl
set_option maxRecDepth 100000 in
theorem acM:joinedFacts Tryz.prog 3 Tryz.f3 Rows.versionValidSpec Rows.versionValidRow=true:=by unfold joinedFacts;rw[abR,abS,abT,abU,abV,abW,abX,abY,abZ,ab0,aaU];kernel_rfl
set_option maxRecDepth 100000 in
theorem ae6(l:∀ (a0:Types) (a1:ay),G25 a0->G34 a1->fD a0 a1=some true):Rows.VersionValidSaid :=
 OpenClaim.holds_of_wide 3 Tryz.f3 rfl rfl rfl rfl rfl rfl rfl ⟨rfl,rfl,rfl,rfl,rfl⟩ rfl rfl rfl rfl rfl acL func3 acM
  (bX (by kernel_rfl)) (by unfold Func.isWrapper;first|(rw[if_pos (by decide +kernel)];kernel_rfl)|(rw[if_neg (by decide +kernel)];exact⟨rfl,rfl⟩))
  (λos started H enc _=>abq (C:=checked) (α:=Types×ay×Unit) (e:=λx=>[.agg [.aL (x.1.nodes.map aB),.aL (x.1.ah.map aC)],.agg (az x.2.1)]) (G:=λx=>G25 x.1/\G34 x.2.1/\True) (s:=Rows.versionValidSpec) (conds:=Rows.versionValidRow.domain) (by kernel_rfl) aeS started (by kernel_rfl) func3
   (ChangeSpec.witness6 (enc:=enc) (C:=checked) false ⟨#[],#[.agg #[.slice none 0 0,.slice none 0 0],.agg #[.slice none 0 0,.slice none 0 0,.slice none 0 0,.slice none 0 0,.slice none 0 0,.int .i64 0]],[]⟩ 8 (by kernel_rfl) (by kernel_rfl) (by kernel_rfl) (by kernel_rfl))
   rfl underlying4 rfl (λds hl=>by match ds,hl with | [d0,d1],_=>exact⟨rfl,rfl,rfl⟩) (λW=>by
   rw[params3];exact (.cons (show pM Tryz.prog W enc 25 (λx:Types=>.agg [.aL (x.nodes.map aB),.aL (x.ah.map aC)]) G25 from pM.struct underlying25 d25 (by kernel_rfl) (bX (by kernel_rfl)))
   (.cons (show pM Tryz.prog W enc 34 (λx:ay=>.agg (az x)) G34 from pM.struct underlying34 d34 (by kernel_rfl) (bX (by kernel_rfl)))
   .nil))) (λx h=>sY x.1 x.2.1 true (l x.1 x.2.1 h.1 h.2.1)))
end Go.Proofs.YteambpeibacfpaaGreat
