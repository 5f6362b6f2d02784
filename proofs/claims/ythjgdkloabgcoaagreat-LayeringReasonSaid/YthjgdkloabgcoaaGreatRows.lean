/-
  NARROWER THAN 'FOR EVERY INPUT', by the rows' own cells (each row's printed sentence says how): LayeringReason: loops · LayeringCheckReason: loops · LayeringFind: loops · LayeringCheck: loops.
  DERIVED. THE GIVEN ROWS OF THIS SEAT. 5 by the template 'for every input the law returns true; each argument reads behind the call as it read before'; 0 by the template 'total and deterministic' (their statements: YthjgdkloabgcoaaGreatTotals.lean).
  GIVEN WITH THE SEED: the statements are not yours to turn. If you find one false, say at which input.
  Laid BY PROGRAM, IN A SANDBOX (cutbox-rows.mjs): the forced cells as the released guide's own fill.sh prints them over the translation 20ee699bfabf59eb… (all of the seat's roots in one cut). By AI agents, Wed Nov 11 2026. No macro, syntax, notation, axiom, sorry.
-/
import Derived.Test.YthjgdkloabgcoaaGreatChecked
import GoSem.Claim
import GoSem.ClaimJoined
import GoSem.ClaimMapViews
import Derived.JoinedTies
import Derived.KernelRfl
namespace Go.Proofs.YthjgdkloabgcoaaGreat
/- THE CELL 'sum', in the pinned program and in every row, IS THE sha256 OF THE DUMP (.gsa) THAT YthjgdkloabgcoaaGreatProg.lean LOADS. Nothing in Lean hashes anything: it is a label: what it is worth is what the hold of that sum in a sandbox is worth. -/
noncomputable def Tryz.pinned : Pinned := { name := "ythjgdkloabgcoaagreat", sum := "20ee699bfabf59ebb47b27218e34b4acd05cf4c35183ece45e0d0eacb34717dc", checked := Tryz.checked }
namespace Rows
def none {H : Type} : Left H := { results := [], args := [] }

/-- 'scarfjointlaw40.LayeringReason': WHATEVER THE INPUT: true; the input reads as it did. -/
def layeringReasonSpec : ChangeSpec := { name := "layeringReason", fn := fun _ => fun
  | [d1, d2] => { results := [.lit (.bool true)], args := [d1, d2] }
  | _ => none }
def layeringReasonRow : OpenClaim := { program := "ythjgdkloabgcoaagreat", sum := "20ee699bfabf59ebb47b27218e34b4acd05cf4c35183ece45e0d0eacb34717dc", func := "scarfjoint/scarfjointlaw40.LayeringReason", spec := "layeringReason", inPlace := ["internal/bytealg.IndexByteString"], unfollowed := true, recurses := true, loops := true, apart := false }
def LayeringReasonSaid : Prop := layeringReasonRow.holds Tryz.pinned (OpenSpec.ofChange layeringReasonSpec)

/-- ITS FALSE NEIGHBOUR: 'it returns false'. Refute it at one input. -/
def layeringReasonWrong : ChangeSpec := { name := "layeringReason", fn := fun _ => fun
  | [d1, d2] => { results := [.lit (.bool false)], args := [d1, d2] }
  | _ => none }
def LayeringReasonWrongFalsely : Prop := layeringReasonRow.holds Tryz.pinned (OpenSpec.ofChange layeringReasonWrong)

/-- 'scarfjointlaw40.LayeringCheckReason': WHATEVER THE INPUT: true; the input reads as it did. -/
def layeringCheckReasonSpec : ChangeSpec := { name := "layeringCheckReason", fn := fun _ => fun
  | [d1, d2, d3] => { results := [.lit (.bool true)], args := [d1, d2, d3] }
  | _ => none }
def layeringCheckReasonRow : OpenClaim := { program := "ythjgdkloabgcoaagreat", sum := "20ee699bfabf59ebb47b27218e34b4acd05cf4c35183ece45e0d0eacb34717dc", func := "scarfjoint/scarfjointlaw40.LayeringCheckReason", spec := "layeringCheckReason", inPlace := ["internal/bytealg.IndexByteString"], unfollowed := true, recurses := true, loops := true, apart := false }
def LayeringCheckReasonSaid : Prop := layeringCheckReasonRow.holds Tryz.pinned (OpenSpec.ofChange layeringCheckReasonSpec)

/-- ITS FALSE NEIGHBOUR: 'it returns false'. Refute it at one input. -/
def layeringCheckReasonWrong : ChangeSpec := { name := "layeringCheckReason", fn := fun _ => fun
  | [d1, d2, d3] => { results := [.lit (.bool false)], args := [d1, d2, d3] }
  | _ => none }
def LayeringCheckReasonWrongFalsely : Prop := layeringCheckReasonRow.holds Tryz.pinned (OpenSpec.ofChange layeringCheckReasonWrong)

/-- 'scarfjointlaw40.LayeringFind': WHATEVER THE INPUT: true; the input reads as it did. -/
def layeringFindSpec : ChangeSpec := { name := "layeringFind", fn := fun _ => fun
  | [d1, d2] => { results := [.lit (.bool true)], args := [d1, d2] }
  | _ => none }
def layeringFindRow : OpenClaim := { program := "ythjgdkloabgcoaagreat", sum := "20ee699bfabf59ebb47b27218e34b4acd05cf4c35183ece45e0d0eacb34717dc", func := "scarfjoint/scarfjointlaw40.LayeringFind", spec := "layeringFind", inPlace := ["internal/bytealg.IndexByteString"], unfollowed := true, recurses := true, loops := true, apart := false }
def LayeringFindSaid : Prop := layeringFindRow.holds Tryz.pinned (OpenSpec.ofChange layeringFindSpec)

/-- ITS FALSE NEIGHBOUR: 'it returns false'. Refute it at one input. -/
def layeringFindWrong : ChangeSpec := { name := "layeringFind", fn := fun _ => fun
  | [d1, d2] => { results := [.lit (.bool false)], args := [d1, d2] }
  | _ => none }
def LayeringFindWrongFalsely : Prop := layeringFindRow.holds Tryz.pinned (OpenSpec.ofChange layeringFindWrong)

/-- 'scarfjointlaw40.LayeringCheck': WHATEVER THE INPUT: true; the input reads as it did. -/
def layeringCheckSpec : ChangeSpec := { name := "layeringCheck", fn := fun _ => fun
  | [d1, d2, d3] => { results := [.lit (.bool true)], args := [d1, d2, d3] }
  | _ => none }
def layeringCheckRow : OpenClaim := { program := "ythjgdkloabgcoaagreat", sum := "20ee699bfabf59ebb47b27218e34b4acd05cf4c35183ece45e0d0eacb34717dc", func := "scarfjoint/scarfjointlaw40.LayeringCheck", spec := "layeringCheck", inPlace := ["internal/bytealg.IndexByteString"], unfollowed := true, recurses := true, loops := true, apart := false }
def LayeringCheckSaid : Prop := layeringCheckRow.holds Tryz.pinned (OpenSpec.ofChange layeringCheckSpec)

/-- ITS FALSE NEIGHBOUR: 'it returns false'. Refute it at one input. -/
def layeringCheckWrong : ChangeSpec := { name := "layeringCheck", fn := fun _ => fun
  | [d1, d2, d3] => { results := [.lit (.bool false)], args := [d1, d2, d3] }
  | _ => none }
def LayeringCheckWrongFalsely : Prop := layeringCheckRow.holds Tryz.pinned (OpenSpec.ofChange layeringCheckWrong)

/-- 'scarfjointlaw40.LayeringRaised': WHATEVER THE INPUT: true; the input reads as it did. -/
def layeringRaisedSpec : ChangeSpec := { name := "layeringRaised", fn := fun _ => fun
  | [d1, d2] => { results := [.lit (.bool true)], args := [d1, d2] }
  | _ => none }
def layeringRaisedRow : OpenClaim := { program := "ythjgdkloabgcoaagreat", sum := "20ee699bfabf59ebb47b27218e34b4acd05cf4c35183ece45e0d0eacb34717dc", func := "scarfjoint/scarfjointlaw40.LayeringRaised", spec := "layeringRaised", inPlace := ["internal/bytealg.IndexByteString"], unfollowed := true, recurses := true, apart := false }
def LayeringRaisedSaid : Prop := layeringRaisedRow.holds Tryz.pinned (OpenSpec.ofChange layeringRaisedSpec)

/-- ITS FALSE NEIGHBOUR: 'it returns false'. Refute it at one input. -/
def layeringRaisedWrong : ChangeSpec := { name := "layeringRaised", fn := fun _ => fun
  | [d1, d2] => { results := [.lit (.bool false)], args := [d1, d2] }
  | _ => none }
def LayeringRaisedWrongFalsely : Prop := layeringRaisedRow.holds Tryz.pinned (OpenSpec.ofChange layeringRaisedWrong)

/- THE SECOND FORM. 'bulk': how many values and letters a reading holds, each counted each time it is reached (what is shared counts as often as it is met; a slice's spare places count too). A statement '..UptoSaid' is the law's where the arguments, and the package variables that the reading takes, are together of bulk at most 1048576: NARROWER than '..Said'. Prove '..Said' where nothing that the law and all that it calls make is longer than what came in: it says more and counts as full. Else prove '..UptoSaid'. A law counts once. -/
mutual
def uptoBulk {H : Type} : DataW H → Nat
  | .lit (.string bytes) => bytes.length + 1
  | .lit _ => 1
  | .nil => 1
  | .ptr d => uptoBulk d + 1
  | .slice elems spare => uptoBulkAll elems + uptoBulkAll spare + 1
  | .agg parts => uptoBulkAll parts + 1
  | .iface _ d => uptoBulk d + 1
  | .map entries => uptoBulkEntries entries + 1
  | .held _ => 1
def uptoBulkAll {H : Type} : List (DataW H) → Nat
  | [] => 0
  | d :: r => uptoBulk d + uptoBulkAll r
def uptoBulkEntries {H : Type} : List (Lit × DataW H) → Nat
  | [] => 0
  | x :: r => uptoBulkEntry x + uptoBulkEntries r
def uptoBulkEntry {H : Type} : Lit × DataW H → Nat
  | (.string bytes, d) => bytes.length + uptoBulk d + 1
  | (_, d) => uptoBulk d + 1
 end
def uptoSmall : (H : Type) → List (DataW H) → Bool := fun _ ds => decide (uptoBulkAll ds ≤ 1048576)
def OpenSpec.upto (s : _root_.Go.ChangeSpec) : _root_.Go.OpenSpec := { _root_.Go.OpenSpec.ofChange s with cond := some uptoSmall }

/-- 'scarfjointlaw40.LayeringReason', WHERE WHAT IT READS IS OF BULK AT MOST 1048576: true; the input reads as it did. -/
def layeringReasonUptoRow : OpenClaim := { program := "ythjgdkloabgcoaagreat", sum := "20ee699bfabf59ebb47b27218e34b4acd05cf4c35183ece45e0d0eacb34717dc", func := "scarfjoint/scarfjointlaw40.LayeringReason", spec := "layeringReason", inPlace := ["internal/bytealg.IndexByteString"], unfollowed := true, recurses := true, loops := true, apart := false, narrowed := true }
def LayeringReasonUptoSaid : Prop := layeringReasonUptoRow.holds Tryz.pinned (OpenSpec.upto layeringReasonSpec)

/-- 'scarfjointlaw40.LayeringCheckReason', WHERE WHAT IT READS IS OF BULK AT MOST 1048576: true; the input reads as it did. -/
def layeringCheckReasonUptoRow : OpenClaim := { program := "ythjgdkloabgcoaagreat", sum := "20ee699bfabf59ebb47b27218e34b4acd05cf4c35183ece45e0d0eacb34717dc", func := "scarfjoint/scarfjointlaw40.LayeringCheckReason", spec := "layeringCheckReason", inPlace := ["internal/bytealg.IndexByteString"], unfollowed := true, recurses := true, loops := true, apart := false, narrowed := true }
def LayeringCheckReasonUptoSaid : Prop := layeringCheckReasonUptoRow.holds Tryz.pinned (OpenSpec.upto layeringCheckReasonSpec)

/-- 'scarfjointlaw40.LayeringFind', WHERE WHAT IT READS IS OF BULK AT MOST 1048576: true; the input reads as it did. -/
def layeringFindUptoRow : OpenClaim := { program := "ythjgdkloabgcoaagreat", sum := "20ee699bfabf59ebb47b27218e34b4acd05cf4c35183ece45e0d0eacb34717dc", func := "scarfjoint/scarfjointlaw40.LayeringFind", spec := "layeringFind", inPlace := ["internal/bytealg.IndexByteString"], unfollowed := true, recurses := true, loops := true, apart := false, narrowed := true }
def LayeringFindUptoSaid : Prop := layeringFindUptoRow.holds Tryz.pinned (OpenSpec.upto layeringFindSpec)

/-- 'scarfjointlaw40.LayeringCheck', WHERE WHAT IT READS IS OF BULK AT MOST 1048576: true; the input reads as it did. -/
def layeringCheckUptoRow : OpenClaim := { program := "ythjgdkloabgcoaagreat", sum := "20ee699bfabf59ebb47b27218e34b4acd05cf4c35183ece45e0d0eacb34717dc", func := "scarfjoint/scarfjointlaw40.LayeringCheck", spec := "layeringCheck", inPlace := ["internal/bytealg.IndexByteString"], unfollowed := true, recurses := true, loops := true, apart := false, narrowed := true }
def LayeringCheckUptoSaid : Prop := layeringCheckUptoRow.holds Tryz.pinned (OpenSpec.upto layeringCheckSpec)

/-- 'scarfjointlaw40.LayeringRaised', WHERE WHAT IT READS IS OF BULK AT MOST 1048576: true; the input reads as it did. -/
def layeringRaisedUptoRow : OpenClaim := { program := "ythjgdkloabgcoaagreat", sum := "20ee699bfabf59ebb47b27218e34b4acd05cf4c35183ece45e0d0eacb34717dc", func := "scarfjoint/scarfjointlaw40.LayeringRaised", spec := "layeringRaised", inPlace := ["internal/bytealg.IndexByteString"], unfollowed := true, recurses := true, apart := false, narrowed := true }
def LayeringRaisedUptoSaid : Prop := layeringRaisedUptoRow.holds Tryz.pinned (OpenSpec.upto layeringRaisedSpec)

end Rows
end Go.Proofs.YthjgdkloabgcoaaGreat
