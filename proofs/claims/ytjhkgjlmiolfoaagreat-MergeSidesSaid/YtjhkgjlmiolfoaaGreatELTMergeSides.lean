/- The lift. -/
import Derived.Test.YtjhkgjlmiolfoaaGreatL7
import Derived.Test.YtjhkgjlmiolfoaaGreatL4
import Derived.Test.YtjhkgjlmiolfoaaGreatRows
import Derived.Test.YtjhkgjlmiolfoaaGreatL5
set_option maxHeartbeats 4000000
set_option maxRecDepth 100000
set_option linter.unusedVariables false
open Go.Proofs.Tryz
namespace Go.Proofs.YtjhkgjlmiolfoaaGreat
open Go.cv
open Go.ChangeShapes Go.WideShapes Go.ChangeAt Go.RowKit
variable{w:World}{H:Type}{enc:TypeId×Value->H}
theorem ac5:Tryz.prog.funcNamed Rows.mergeSidesRow.func=some 6:=by kernel_rfl
theorem abJ:(laidOutB Tryz.prog)=true:=by kernel_rfl
theorem abK:(mapsRowed Tryz.prog)=true:=by kernel_rfl
theorem abL:(Rows.mergeSidesRow.inPlace == Tryz.prog.inPlace 6)=true:=by kernel_rfl
theorem abM:(Rows.mergeSidesRow.unfollowed == Tryz.prog.unfollowed 6)=true:=by kernel_rfl
theorem abN:(Rows.mergeSidesRow.recurses == Tryz.prog.recurses 6)=true:=by kernel_rfl
theorem abO:(Rows.mergeSidesRow.named == Tryz.prog.varsNamed 6)=true:=by kernel_rfl
theorem abP:(Rows.mergeSidesRow.plainKeys == Tryz.prog.plainKeys)=true:=by kernel_rfl
theorem abQ:(Tryz.prog.stopsHeard)=true:=by kernel_rfl
theorem abR:(Tryz.prog.mayEnter)=true:=by kernel_rfl
theorem abS:(Rows.mergeSidesRow.lifted == Tryz.prog.liftsFinal)=true:=by kernel_rfl
theorem aaF:(Tryz.prog.make == some Rows.mergeSidesRow.make)=true:=by kernel_rfl
theorem ac6:joinedFacts Tryz.prog 6 Tryz.f6 Rows.mergeSidesSpec Rows.mergeSidesRow=true:=by unfold joinedFacts;rw[abJ,abK,abL,abM,abN,abO,abP,abQ,abR,abS,aaF];kernel_rfl
theorem aeW(l:∀ (a0:bT) (a1:Bool),G27 a0->G4 a1->gd a0 a1=some true):Rows.MergeSidesSaid :=
 OpenClaim.holds_of_wide 6 Tryz.f6 rfl rfl rfl rfl rfl rfl rfl ⟨rfl,rfl,rfl,rfl,rfl⟩ rfl rfl rfl rfl rfl ac5 func6 ac6
  (ct (by kernel_rfl)) (by unfold Func.isWrapper;first|(rw[if_pos (by decide +kernel)];kernel_rfl)|(rw[if_neg (by decide +kernel)];exact⟨rfl,rfl⟩))
  (λos started H enc _=>ax5 (C:=checked) (α:=bT×Bool×Unit) (e:=λx=>[.agg (eL x.1),.val (.bool x.2.1)]) (G:=λx=>G27 x.1/\G4 x.2.1/\True) (s:=Rows.mergeSidesSpec) (conds:=Rows.mergeSidesRow.domain) (by kernel_rfl) aB7 started (by kernel_rfl) func6
   (ChangeSpec.witness6 (enc:=enc) (C:=checked) false ⟨#[],#[.agg #[.slice none 0 0,.slice none 0 0,.slice none 0 0,.slice none 0 0,.slice none 0 0,.slice none 0 0,.slice none 0 0],.bool false],[]⟩ 8 (by kernel_rfl) (by kernel_rfl) (by kernel_rfl) (by kernel_rfl))
   rfl underlying4 rfl (λds hl=>by match ds,hl with | [d0,d1],_=>exact⟨rfl,rfl,rfl⟩) (λW=>by
   rw[params6];exact (.cons (show afT Tryz.prog W enc 27 (λx:bT=>.agg (eL x)) G27 from afT.struct underlying27 d27 (by kernel_rfl) (ct (by kernel_rfl)))
   (.cons (show afT Tryz.prog W enc 4 (λx:Bool=>.val (.bool x)) G4 from afT.one (apf underlying4) d4 (by kernel_rfl) (ct (by kernel_rfl)))
   .nil))) (λx h=>tA x.1 x.2.1 true (l x.1 x.2.1 h.1 h.2.1)))
end Go.Proofs.YtjhkgjlmiolfoaaGreat
