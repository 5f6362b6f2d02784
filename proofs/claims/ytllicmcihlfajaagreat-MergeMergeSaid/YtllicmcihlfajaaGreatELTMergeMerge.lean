/- What carries a law of the program to its statement. Printed by law.py. -/
import Derived.Test.YtllicmcihlfajaaGreatJ7
import Derived.Test.YtllicmcihlfajaaGreatJ4
import Derived.Test.YtllicmcihlfajaaGreatRows
import Derived.Test.YtllicmcihlfajaaGreatJ6
import Derived.Test.YtllicmcihlfajaaGreatJ5
set_option maxHeartbeats 4000000
set_option linter.unusedSimpArgs false
set_option linter.unusedVariables false
open Nat (reduceEqDiff reduceLT reduceLeDiff reduceMul reduceAdd reduceSub)
open Go.Proofs.Tryz
namespace Go.Proofs.YtllicmcihlfajaaGreat
open Go.cE
open Go.ChangeShapes Go.WideShapes Go.ChangeAt Go.RowKit
variable {w:World} {H:Type} {enc:TypeId×Value->H}
set_option maxRecDepth 100000 in
theorem ack:Tryz.prog.funcNamed Rows.mergeMergeRow.func=some 4:=by kernel_rfl
set_option maxRecDepth 100000 in
theorem aa4:(laidOutB Tryz.prog)=true:=by kernel_rfl
set_option maxRecDepth 100000 in
theorem aa5:(mapsRowed Tryz.prog)=true:=by kernel_rfl
set_option maxRecDepth 100000 in
theorem aa6:(Rows.mergeMergeRow.inPlace == Tryz.prog.inPlace 4)=true:=by kernel_rfl
set_option maxRecDepth 100000 in
theorem aa7:(Rows.mergeMergeRow.unfollowed == Tryz.prog.unfollowed 4)=true:=by kernel_rfl
set_option maxRecDepth 100000 in
theorem aa8:(Rows.mergeMergeRow.recurses == Tryz.prog.recurses 4)=true:=by kernel_rfl
set_option maxRecDepth 100000 in
theorem aa9:(Rows.mergeMergeRow.named == Tryz.prog.varsNamed 4)=true:=by kernel_rfl
set_option maxRecDepth 100000 in
theorem aba:(Rows.mergeMergeRow.plainKeys == Tryz.prog.plainKeys)=true:=by kernel_rfl
set_option maxRecDepth 100000 in
theorem abb:(Tryz.prog.stopsHeard)=true:=by kernel_rfl
set_option maxRecDepth 100000 in
theorem abc:(Tryz.prog.mayEnter)=true:=by kernel_rfl
set_option maxRecDepth 100000 in
theorem abd:(Rows.mergeMergeRow.lifted == Tryz.prog.liftsFinal)=true:=by kernel_rfl
set_option maxRecDepth 100000 in
theorem zk:(Tryz.prog.make == some Rows.mergeMergeRow.make)=true:=by kernel_rfl
set_option maxRecDepth 100000 in
theorem acm:joinedFacts Tryz.prog 4 Tryz.f4 Rows.mergeMergeSpec Rows.mergeMergeRow=true:=by unfold joinedFacts; rw[aa4,aa5,aa6,aa7,aa8,aa9,aba,abb,abc,abd,zk]; kernel_rfl
set_option maxRecDepth 100000 in
theorem ad1 (l:∀ (a0:Types) (a1:aZ),G25 a0->G42 a1->fq a0 a1=some true):Rows.MergeMergeSaid :=
 OpenClaim.holds_of_wide 4 Tryz.f4 rfl rfl rfl rfl rfl rfl rfl ⟨rfl,rfl,rfl,rfl,rfl⟩ rfl rfl rfl rfl rfl ack func4 acm
  (of_decide_eq_true (by kernel_rfl)) (by unfold Func.isWrapper; first | (rw[if_pos (by decide +kernel)]; kernel_rfl) | (rw[if_neg (by decide +kernel)]; exact⟨rfl,rfl⟩))
  (λos started H enc _=>aeW (C:=checked) (α:=Types×aZ×Unit) (e:=λx=>[.agg [.aU (x.1.nodes.map aJ),.aU (x.1.au.map aK)],.agg (bN x.2.1)]) (G:=λx=>G25 x.1/\G42 x.2.1/\True) (s:=Rows.mergeMergeSpec) (conds:=Rows.mergeMergeRow.domain) (by kernel_rfl) aiI started (by kernel_rfl) func4
   (ChangeSpec.witness6 (enc:=enc) (C:=checked) false ⟨#[],#[.agg #[.slice none 0 0,.slice none 0 0],.agg #[.slice none 0 0,.slice none 0 0,.slice none 0 0,.slice none 0 0,.slice none 0 0,.int .i64 0,.slice none 0 0,.slice none 0 0,.slice none 0 0,.slice none 0 0,.slice none 0 0,.int .i64 0,.int .i64 0,.slice none 0 0,.slice none 0 0,.slice none 0 0,.slice none 0 0,.slice none 0 0,.int .i64 0,.int .i64 0]],[]⟩ 8 (by kernel_rfl) (by kernel_rfl) (by kernel_rfl) (by kernel_rfl))
   rfl underlying4 rfl (λds hl=>by match ds,hl with | [d0,d1],_=>exact⟨rfl,rfl,rfl⟩) (λW=>by
   rw[params4]; exact (.cons (show we Tryz.prog W enc 25 (λx:Types=>.agg [.aU (x.nodes.map aJ),.aU (x.au.map aK)]) G25 from we.struct underlying25 d25 (by kernel_rfl) (of_decide_eq_true (by kernel_rfl)))
   (.cons (show we Tryz.prog W enc 42 (λx:aZ=>.agg (bN x)) G42 from we.struct underlying42 d42 (by kernel_rfl) (of_decide_eq_true (by kernel_rfl)))
   .nil))) (λx h=>rV x.1 x.2.1 true (l x.1 x.2.1 h.1 h.2.1)))
end Go.Proofs.YtllicmcihlfajaaGreat
