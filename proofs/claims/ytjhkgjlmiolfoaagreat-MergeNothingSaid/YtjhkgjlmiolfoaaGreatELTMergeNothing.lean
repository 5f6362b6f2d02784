/- What carries a law of the program to its statement. Printed by law.py. -/
import Derived.Test.YtjhkgjlmiolfoaaGreatJ7
import Derived.Test.YtjhkgjlmiolfoaaGreatJ4
import Derived.Test.YtjhkgjlmiolfoaaGreatRows
import Derived.Test.YtjhkgjlmiolfoaaGreatJ5
set_option maxHeartbeats 4000000
set_option linter.unusedSimpArgs false
set_option linter.unusedVariables false
open Nat (reduceEqDiff reduceLT reduceLeDiff reduceMul reduceAdd reduceSub)
open Go.IntKind (i64)
open Go.Proofs.Tryz
namespace Go.Proofs.YtjhkgjlmiolfoaaGreat
open Go.cr
open Go.ChangeShapes Go.WideShapes Go.ChangeAt Go.RowKit
variable{w:World}{H:Type}{enc:TypeId×Value->H}
set_option maxRecDepth 100000 in
theorem aaz:Tryz.prog.funcNamed Rows.mergeNothingRow.func=some 4:=by kernel_rfl
set_option maxRecDepth 100000 in
theorem zM:(laidOutB Tryz.prog)=true:=by kernel_rfl
set_option maxRecDepth 100000 in
theorem zS:(mapsRowed Tryz.prog)=true:=by kernel_rfl
set_option maxRecDepth 100000 in
theorem zY:(Rows.mergeNothingRow.inPlace == Tryz.prog.inPlace 4)=true:=by kernel_rfl
set_option maxRecDepth 100000 in
theorem zZ:(Rows.mergeNothingRow.unfollowed == Tryz.prog.unfollowed 4)=true:=by kernel_rfl
set_option maxRecDepth 100000 in
theorem z6:(Rows.mergeNothingRow.recurses == Tryz.prog.recurses 4)=true:=by kernel_rfl
set_option maxRecDepth 100000 in
theorem z7:(Rows.mergeNothingRow.named == Tryz.prog.varsNamed 4)=true:=by kernel_rfl
set_option maxRecDepth 100000 in
theorem z8:(Rows.mergeNothingRow.plainKeys == Tryz.prog.plainKeys)=true:=by kernel_rfl
set_option maxRecDepth 100000 in
theorem aaa:(Tryz.prog.stopsHeard)=true:=by kernel_rfl
set_option maxRecDepth 100000 in
theorem aab:(Tryz.prog.mayEnter)=true:=by kernel_rfl
set_option maxRecDepth 100000 in
theorem aac:(Rows.mergeNothingRow.lifted == Tryz.prog.liftsFinal)=true:=by kernel_rfl
set_option maxRecDepth 100000 in
theorem yA:(Tryz.prog.make == some Rows.mergeNothingRow.make)=true:=by kernel_rfl
set_option maxRecDepth 100000 in
theorem aaA:joinedFacts Tryz.prog 4 Tryz.f4 Rows.mergeNothingSpec Rows.mergeNothingRow=true:=by unfold joinedFacts;rw[zM,zS,zY,zZ,z6,z7,z8,aaa,aab,aac,yA];kernel_rfl
set_option maxRecDepth 100000 in
theorem acJ(l:∀ (a0:bQ),G27 a0->fu a0=some true):Rows.MergeNothingSaid :=
 OpenClaim.holds_of_wide 4 Tryz.f4 rfl rfl rfl rfl rfl rfl rfl ⟨rfl,rfl,rfl,rfl,rfl⟩ rfl rfl rfl rfl rfl aaz func4 aaA
  (cu (by kernel_rfl)) (by unfold Func.isWrapper;first|(rw[if_pos (by decide +kernel)];kernel_rfl)|(rw[if_neg (by decide +kernel)];exact⟨rfl,rfl⟩))
  (λos started H enc _=>axo (C:=checked) (α:=bQ×Unit) (e:=λx=>[.agg (ew x.1)]) (G:=λx=>G27 x.1/\True) (s:=Rows.mergeNothingSpec) (conds:=Rows.mergeNothingRow.domain) (by kernel_rfl) aBk started (by kernel_rfl) func4
   (ChangeSpec.witness6 (enc:=enc) (C:=checked) false ⟨#[],#[.agg #[.slice none 0 0,.slice none 0 0,.slice none 0 0,.slice none 0 0,.slice none 0 0,.slice none 0 0,.slice none 0 0]],[]⟩ 8 (by kernel_rfl) (by kernel_rfl) (by kernel_rfl) (by kernel_rfl))
   rfl underlying4 rfl (λds hl=>by match ds,hl with | [d0],_=>exact⟨rfl,rfl,rfl⟩) (λW=>by
   rw[params4];exact (.cons (show ajc Tryz.prog W enc 27 (λx:bQ=>.agg (ew x)) G27 from ajc.struct underlying27 d27 (by kernel_rfl) (cu (by kernel_rfl)))
   .nil)) (λx h=>rM x.1 true (l x.1 h.1)))
end Go.Proofs.YtjhkgjlmiolfoaaGreat
