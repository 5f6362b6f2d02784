/- What carries a law of the program to its statement. Printed by law.py. -/
import Derived.Test.YtldllhbhnpjlcaaGreatJ7
import Derived.Test.YtldllhbhnpjlcaaGreatJ4
import Derived.Test.YtldllhbhnpjlcaaGreatRows
import Derived.Test.YtldllhbhnpjlcaaGreatJ5
set_option maxHeartbeats 4000000
set_option linter.unusedSimpArgs false
set_option linter.unusedVariables false
open Nat (reduceEqDiff reduceLT reduceLeDiff reduceMul reduceAdd reduceSub)
open Go.IntKind (i64)
open Go.Proofs.Tryz
namespace Go.Proofs.YtldllhbhnpjlcaaGreat
open Go.bP
open Go.ChangeShapes Go.WideShapes Go.ChangeAt Go.RowKit
variable{w:World}{H:Type}{enc:TypeId×Value->H}
set_option maxRecDepth 100000 in
theorem aav:Tryz.prog.funcNamed Rows.parallelUnionRow.func=some 4:=by kernel_rfl
set_option maxRecDepth 100000 in
theorem y2:(laidOutB Tryz.prog)=true:=by kernel_rfl
set_option maxRecDepth 100000 in
theorem y3:(mapsRowed Tryz.prog)=true:=by kernel_rfl
set_option maxRecDepth 100000 in
theorem y4:(Rows.parallelUnionRow.inPlace == Tryz.prog.inPlace 4)=true:=by kernel_rfl
set_option maxRecDepth 100000 in
theorem y5:(Rows.parallelUnionRow.unfollowed == Tryz.prog.unfollowed 4)=true:=by kernel_rfl
set_option maxRecDepth 100000 in
theorem y6:(Rows.parallelUnionRow.recurses == Tryz.prog.recurses 4)=true:=by kernel_rfl
set_option maxRecDepth 100000 in
theorem y7:(Rows.parallelUnionRow.named == Tryz.prog.varsNamed 4)=true:=by kernel_rfl
set_option maxRecDepth 100000 in
theorem y8:(Rows.parallelUnionRow.plainKeys == Tryz.prog.plainKeys)=true:=by kernel_rfl
set_option maxRecDepth 100000 in
theorem y9:(Tryz.prog.stopsHeard)=true:=by kernel_rfl
set_option maxRecDepth 100000 in
theorem za:(Tryz.prog.mayEnter)=true:=by kernel_rfl
set_option maxRecDepth 100000 in
theorem zb:(Rows.parallelUnionRow.lifted == Tryz.prog.liftsFinal)=true:=by kernel_rfl
set_option maxRecDepth 100000 in
theorem yy:(Tryz.prog.make == some Rows.parallelUnionRow.make)=true:=by kernel_rfl
set_option maxRecDepth 100000 in
theorem aaw:joinedFacts Tryz.prog 4 Tryz.f4 Rows.parallelUnionSpec Rows.parallelUnionRow=true:=by unfold joinedFacts;rw[y2,y3,y4,y5,y6,y7,y8,y9,za,zb,yy];kernel_rfl
set_option maxRecDepth 100000 in
theorem abQ(l:∀ (a0:Types) (a1:aF) (a2:aF),G33 a0->G62 a1->G62 a2->dS a0 a1 a2=some true):Rows.ParallelUnionSaid :=
 OpenClaim.holds_of_wide 4 Tryz.f4 rfl rfl rfl rfl rfl rfl rfl ⟨rfl,rfl,rfl,rfl,rfl⟩ rfl rfl rfl rfl rfl aav func4 aaw
  (bY (by kernel_rfl)) (by unfold Func.isWrapper;first|(rw[if_pos (by decide +kernel)];kernel_rfl)|(rw[if_neg (by decide +kernel)];exact⟨rfl,rfl⟩))
  (λos started H enc _=>alK (C:=checked) (α:=Types×aF×aF×Unit) (e:=λx=>[.agg [.aE (x.1.nodes.map az),.aE (x.1.ag.map aA)],.agg (aQ x.2.1),.agg (aQ x.2.2.1)]) (G:=λx=>G33 x.1/\G62 x.2.1/\G62 x.2.2.1/\True) (s:=Rows.parallelUnionSpec) (conds:=Rows.parallelUnionRow.domain) (by kernel_rfl) apV started (by kernel_rfl) func4
   (ChangeSpec.witness6 (enc:=enc) (C:=checked) false ⟨#[],#[.agg #[.slice none 0 0,.slice none 0 0],.agg #[.string ⟨#[]⟩,.slice none 0 0,.slice none 0 0,.slice none 0 0,.int .i64 0,.slice none 0 0,.slice none 0 0,.slice none 0 0,.slice none 0 0,.int .i64 0,.slice none 0 0,.slice none 0 0,.slice none 0 0,.slice none 0 0,.slice none 0 0,.bool false,.int .i64 0,.slice none 0 0,.slice none 0 0,.slice none 0 0,.slice none 0 0,.slice none 0 0,.slice none 0 0,.int .i64 0,.slice none 0 0],.agg #[.string ⟨#[]⟩,.slice none 0 0,.slice none 0 0,.slice none 0 0,.int .i64 0,.slice none 0 0,.slice none 0 0,.slice none 0 0,.slice none 0 0,.int .i64 0,.slice none 0 0,.slice none 0 0,.slice none 0 0,.slice none 0 0,.slice none 0 0,.bool false,.int .i64 0,.slice none 0 0,.slice none 0 0,.slice none 0 0,.slice none 0 0,.slice none 0 0,.slice none 0 0,.int .i64 0,.slice none 0 0]],[]⟩ 8 (by kernel_rfl) (by kernel_rfl) (by kernel_rfl) (by kernel_rfl))
   rfl underlying4 rfl (λds hl=>by match ds,hl with | [d0,d1,d2],_=>exact⟨rfl,rfl,rfl⟩) (λW=>by
   rw[params4];exact (.cons (show xE Tryz.prog W enc 33 (λx:Types=>.agg [.aE (x.nodes.map az),.aE (x.ag.map aA)]) G33 from xE.struct underlying33 d33 (by kernel_rfl) (bY (by kernel_rfl)))
   (.cons (show xE Tryz.prog W enc 62 (λx:aF=>.agg (aQ x)) G62 from xE.struct underlying62 d62 (by kernel_rfl) (bY (by kernel_rfl)))
   (.cons (show xE Tryz.prog W enc 62 (λx:aF=>.agg (aQ x)) G62 from xE.struct underlying62 d62 (by kernel_rfl) (bY (by kernel_rfl)))
   .nil)))) (λx h=>qh x.1 x.2.1 x.2.2.1 true (l x.1 x.2.1 x.2.2.1 h.1 h.2.1 h.2.2.1)))
end Go.Proofs.YtldllhbhnpjlcaaGreat
