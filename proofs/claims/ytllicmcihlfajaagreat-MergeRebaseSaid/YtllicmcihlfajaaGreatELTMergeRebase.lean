/- What carries a law of the program to its statement. Printed by law.py. -/
import Derived.Test.YtllicmcihlfajaaGreatJ7
import Derived.Test.YtllicmcihlfajaaGreatJ4
import Derived.Test.YtllicmcihlfajaaGreatRows
import Derived.Test.YtllicmcihlfajaaGreatJ6
import Derived.Test.YtllicmcihlfajaaGreatJ5
set_option maxHeartbeats 4000000
set_option linter.unusedSimpArgs false
set_option linter.unusedVariables false
open Nat (reduceEqDiff reduceLT reduceLeDiff reduceMul reduceAdd reduceSub)
open Go.Proofs.Tryz
namespace Go.Proofs.YtllicmcihlfajaaGreat
open Go.cE
open Go.ChangeShapes Go.WideShapes Go.ChangeAt Go.RowKit
variable {w:World} {H:Type} {enc:TypeId×Value->H}
set_option maxRecDepth 100000 in
theorem abe:Tryz.prog.funcNamed Rows.mergeRebaseRow.func=some 6:=by kernel_rfl
set_option maxRecDepth 100000 in
theorem zl:(laidOutB Tryz.prog)=true:=by kernel_rfl
set_option maxRecDepth 100000 in
theorem zm:(mapsRowed Tryz.prog)=true:=by kernel_rfl
set_option maxRecDepth 100000 in
theorem zn:(Rows.mergeRebaseRow.inPlace == Tryz.prog.inPlace 6)=true:=by kernel_rfl
set_option maxRecDepth 100000 in
theorem zo:(Rows.mergeRebaseRow.unfollowed == Tryz.prog.unfollowed 6)=true:=by kernel_rfl
set_option maxRecDepth 100000 in
theorem zp:(Rows.mergeRebaseRow.recurses == Tryz.prog.recurses 6)=true:=by kernel_rfl
set_option maxRecDepth 100000 in
theorem zq:(Rows.mergeRebaseRow.named == Tryz.prog.varsNamed 6)=true:=by kernel_rfl
set_option maxRecDepth 100000 in
theorem zu:(Rows.mergeRebaseRow.plainKeys == Tryz.prog.plainKeys)=true:=by kernel_rfl
set_option maxRecDepth 100000 in
theorem zv:(Tryz.prog.stopsHeard)=true:=by kernel_rfl
set_option maxRecDepth 100000 in
theorem zw:(Tryz.prog.mayEnter)=true:=by kernel_rfl
set_option maxRecDepth 100000 in
theorem zx:(Rows.mergeRebaseRow.lifted == Tryz.prog.liftsFinal)=true:=by kernel_rfl
set_option maxRecDepth 100000 in
theorem yW:(Tryz.prog.make == some Rows.mergeRebaseRow.make)=true:=by kernel_rfl
set_option maxRecDepth 100000 in
theorem abf:joinedFacts Tryz.prog 6 Tryz.f6 Rows.mergeRebaseSpec Rows.mergeRebaseRow=true:=by unfold joinedFacts; rw[zl,zm,zn,zo,zp,zq,zu,zv,zw,zx,yW]; kernel_rfl
set_option maxRecDepth 100000 in
theorem adg (l:∀ (a0:Types) (a1:aZ),G25 a0->G42 a1->eV a0 a1=some true):Rows.MergeRebaseSaid :=
 OpenClaim.holds_of_wide 6 Tryz.f6 rfl rfl rfl rfl rfl rfl rfl ⟨rfl,rfl,rfl,rfl,rfl⟩ rfl rfl rfl rfl rfl abe func6 abf
  (of_decide_eq_true (by kernel_rfl)) (by unfold Func.isWrapper; first | (rw[if_pos (by decide +kernel)]; kernel_rfl) | (rw[if_neg (by decide +kernel)]; exact⟨rfl,rfl⟩))
  (λos started H enc _=>aeW (C:=checked) (α:=Types×aZ×Unit) (e:=λx=>[.agg [.aU (x.1.nodes.map aJ),.aU (x.1.au.map aK)],.agg (bN x.2.1)]) (G:=λx=>G25 x.1/\G42 x.2.1/\True) (s:=Rows.mergeRebaseSpec) (conds:=Rows.mergeRebaseRow.domain) (by kernel_rfl) aiI started (by kernel_rfl) func6
   (ChangeSpec.witness6 (enc:=enc) (C:=checked) false ⟨#[],#[.agg #[.slice none 0 0,.slice none 0 0],.agg #[.slice none 0 0,.slice none 0 0,.slice none 0 0,.slice none 0 0,.slice none 0 0,.int .i64 0,.slice none 0 0,.slice none 0 0,.slice none 0 0,.slice none 0 0,.slice none 0 0,.int .i64 0,.int .i64 0,.slice none 0 0,.slice none 0 0,.slice none 0 0,.slice none 0 0,.slice none 0 0,.int .i64 0,.int .i64 0]],[]⟩ 8 (by kernel_rfl) (by kernel_rfl) (by kernel_rfl) (by kernel_rfl))
   rfl underlying4 rfl (λds hl=>by match ds,hl with | [d0,d1],_=>exact⟨rfl,rfl,rfl⟩) (λW=>by
   rw[params6]; exact (.cons (show we Tryz.prog W enc 25 (λx:Types=>.agg [.aU (x.nodes.map aJ),.aU (x.au.map aK)]) G25 from we.struct underlying25 d25 (by kernel_rfl) (of_decide_eq_true (by kernel_rfl)))
   (.cons (show we Tryz.prog W enc 42 (λx:aZ=>.agg (bN x)) G42 from we.struct underlying42 d42 (by kernel_rfl) (of_decide_eq_true (by kernel_rfl)))
   .nil))) (λx h=>rE x.1 x.2.1 true (l x.1 x.2.1 h.1 h.2.1)))
end Go.Proofs.YtllicmcihlfajaaGreat
