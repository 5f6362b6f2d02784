/- What carries a law of the program to its statement. Printed by law.py. -/
import Derived.Test.YtldllhbhnpjlcaaGreatJ7
import Derived.Test.YtldllhbhnpjlcaaGreatJ4
import Derived.Test.YtldllhbhnpjlcaaGreatRows
import Derived.Test.YtldllhbhnpjlcaaGreatJ5
set_option maxHeartbeats 4000000
set_option linter.unusedSimpArgs false
set_option linter.unusedVariables false
open Nat (reduceEqDiff reduceLT reduceLeDiff reduceMul reduceAdd reduceSub)
open Go.IntKind (i64)
open Go.Proofs.Tryz
namespace Go.Proofs.YtldllhbhnpjlcaaGreat
open Go.bP
open Go.ChangeShapes Go.WideShapes Go.ChangeAt Go.RowKit
variable{w:World}{H:Type}{enc:TypeId×Value->H}
set_option maxRecDepth 100000 in
theorem uY:Tryz.prog.funcNamed Rows.parallelAmalgamateRow.func=some 5:=by kernel_rfl
set_option maxRecDepth 100000 in
theorem uD:(laidOutB Tryz.prog)=true:=by kernel_rfl
set_option maxRecDepth 100000 in
theorem uE:(mapsRowed Tryz.prog)=true:=by kernel_rfl
set_option maxRecDepth 100000 in
theorem uF:(Rows.parallelAmalgamateRow.inPlace == Tryz.prog.inPlace 5)=true:=by kernel_rfl
set_option maxRecDepth 100000 in
theorem uG:(Rows.parallelAmalgamateRow.unfollowed == Tryz.prog.unfollowed 5)=true:=by kernel_rfl
set_option maxRecDepth 100000 in
theorem uH:(Rows.parallelAmalgamateRow.recurses == Tryz.prog.recurses 5)=true:=by kernel_rfl
set_option maxRecDepth 100000 in
theorem uI:(Rows.parallelAmalgamateRow.named == Tryz.prog.varsNamed 5)=true:=by kernel_rfl
set_option maxRecDepth 100000 in
theorem uJ:(Rows.parallelAmalgamateRow.plainKeys == Tryz.prog.plainKeys)=true:=by kernel_rfl
set_option maxRecDepth 100000 in
theorem uK:(Tryz.prog.stopsHeard)=true:=by kernel_rfl
set_option maxRecDepth 100000 in
theorem uL:(Tryz.prog.mayEnter)=true:=by kernel_rfl
set_option maxRecDepth 100000 in
theorem uM:(Rows.parallelAmalgamateRow.lifted == Tryz.prog.liftsFinal)=true:=by kernel_rfl
set_option maxRecDepth 100000 in
theorem sY:(Tryz.prog.make == some Rows.parallelAmalgamateRow.make)=true:=by kernel_rfl
set_option maxRecDepth 100000 in
theorem uZ:joinedFacts Tryz.prog 5 f5 Rows.parallelAmalgamateSpec Rows.parallelAmalgamateRow=true:=by unfold joinedFacts;rw[uD,uE,uF,uG,uH,uI,uJ,uK,uL,uM,sY];kernel_rfl
set_option maxRecDepth 100000 in
theorem xe(l:∀ (a0:Types) (a1:dB) (a2:cM),G33 a0->G71 a1->G73 a2->cX a0 a1 a2=some true):Rows.ParallelAmalgamateSaid :=
 OpenClaim.holds_of_wide 5 f5 rfl rfl rfl rfl rfl rfl rfl ⟨rfl,rfl,rfl,rfl,rfl⟩ rfl rfl rfl rfl rfl uY func5 uZ
  (bY (by kernel_rfl)) (by unfold Func.isWrapper;first|(rw[if_pos (by decide +kernel)];kernel_rfl)|(rw[if_neg (by decide +kernel)];exact⟨rfl,rfl⟩))
  (λos started H enc _=>alK (C:=checked) (α:=Types×dB×cM×Unit) (e:=λx=>[.agg [.aE (x.1.nodes.map az),.aE (x.1.ag.map aA)],.agg (iE x.2.1),.agg (kR x.2.2.1)]) (G:=λx=>G33 x.1/\G71 x.2.1/\G73 x.2.2.1/\True) (s:=Rows.parallelAmalgamateSpec) (conds:=Rows.parallelAmalgamateRow.domain) (by kernel_rfl) apV started (by kernel_rfl) func5
   (ChangeSpec.witness6 (enc:=enc) (C:=checked) false ⟨#[],#[.agg #[.slice none 0 0,.slice none 0 0],.agg #[.string ⟨#[]⟩,.slice none 0 0,.slice none 0 0,.slice none 0 0,.int .i64 0,.slice none 0 0,.slice none 0 0,.slice none 0 0,.slice none 0 0,.int .i64 0,.slice none 0 0,.slice none 0 0,.slice none 0 0,.slice none 0 0,.slice none 0 0,.bool false,.int .i64 0,.slice none 0 0,.slice none 0 0,.slice none 0 0,.slice none 0 0,.slice none 0 0,.slice none 0 0,.int .i64 0,.slice none 0 0,.string ⟨#[]⟩,.slice none 0 0,.slice none 0 0,.slice none 0 0,.int .i64 0,.slice none 0 0,.slice none 0 0,.slice none 0 0,.slice none 0 0,.int .i64 0,.slice none 0 0,.slice none 0 0,.slice none 0 0,.slice none 0 0,.slice none 0 0,.bool false,.int .i64 0,.slice none 0 0,.slice none 0 0,.slice none 0 0,.slice none 0 0,.slice none 0 0,.slice none 0 0,.int .i64 0,.slice none 0 0],.agg #[.slice none 0 0,.slice none 0 0,.slice none 0 0,.slice none 0 0,.slice none 0 0,.slice none 0 0]],[]⟩ 8 (by kernel_rfl) (by kernel_rfl) (by kernel_rfl) (by kernel_rfl))
   rfl underlying4 rfl (λds hl=>by match ds,hl with | [d0,d1,d2],_=>exact⟨rfl,rfl,rfl⟩) (λW=>by
   rw[params5];exact (.cons (show xE Tryz.prog W enc 33 (λx:Types=>.agg [.aE (x.nodes.map az),.aE (x.ag.map aA)]) G33 from xE.struct underlying33 d33 (by kernel_rfl) (bY (by kernel_rfl)))
   (.cons (show xE Tryz.prog W enc 71 (λx:dB=>.agg (iE x)) G71 from xE.struct underlying71 d71 (by kernel_rfl) (bY (by kernel_rfl)))
   (.cons (show xE Tryz.prog W enc 73 (λx:cM=>.agg (kR x)) G73 from xE.struct underlying73 d73 (by kernel_rfl) (bY (by kernel_rfl)))
   .nil)))) (λx h=>oe x.1 x.2.1 x.2.2.1 true (l x.1 x.2.1 x.2.2.1 h.1 h.2.1 h.2.2.1)))
end Go.Proofs.YtldllhbhnpjlcaaGreat
