/-
  No cell of these rows narrows 'for every input' (looked for: loops, veiled, ifaces, maps, wideKeys, modest, calm, conditions, laid).
  DERIVED. THE GIVEN ROWS OF THIS SEAT. 2 by the template 'for every input the law returns true; each argument reads behind the call as it read before'; 0 by the template 'total and deterministic' (their statements: YtnnpmiiegnedeaaGreatTotals.lean).
  GIVEN WITH THE SEED: the statements are not yours to turn. If you find one false, say at which input.
  Laid BY PROGRAM, IN A SANDBOX (cutbox-rows.mjs): the forced cells as the released guide's own fill.sh prints them over the translation 4f2ba7e5cc4f08ca… (all of the seat's roots in one cut). By AI agents, Wed Nov 11 2026. No macro, syntax, notation, axiom, sorry.
-/
import Derived.Test.YtnnpmiiegnedeaaGreatChecked
import GoSem.Claim
import GoSem.ClaimJoined
import GoSem.ClaimMapViews
import Derived.JoinedTies
import Derived.KernelRfl
namespace Go.Proofs.YtnnpmiiegnedeaaGreat
/- THE CELL 'sum', in the pinned program and in every row, IS THE sha256 OF THE DUMP (.gsa) THAT YtnnpmiiegnedeaaGreatProg.lean LOADS. Nothing in Lean hashes anything: it is a label: what it is worth is what the hold of that sum in a sandbox is worth. -/
noncomputable def Tryz.pinned : Pinned := { name := "ytnnpmiiegnedeaagreat", sum := "4f2ba7e5cc4f08ca4410240812f66139622dba24d3b2af331b164ac74be2c6e5", checked := Tryz.checked }
namespace Rows
def none {H : Type} : Left H := { results := [], args := [] }

/-- 'scarfjointlaw57.MergeExchanged': WHATEVER THE INPUT: true; the input reads as it did. -/
def mergeExchangedSpec : ChangeSpec := { name := "mergeExchanged", fn := fun _ => fun
  | [d] => { results := [.lit (.bool true)], args := [d] }
  | _ => none }
def mergeExchangedRow : OpenClaim := { program := "ytnnpmiiegnedeaagreat", sum := "4f2ba7e5cc4f08ca4410240812f66139622dba24d3b2af331b164ac74be2c6e5", func := "scarfjoint/scarfjointlaw57.MergeExchanged", spec := "mergeExchanged", inPlace := ["internal/bytealg.IndexByteString"], unfollowed := true, recurses := true, apart := false }
def MergeExchangedSaid : Prop := mergeExchangedRow.holds Tryz.pinned (OpenSpec.ofChange mergeExchangedSpec)

/-- ITS FALSE NEIGHBOUR: 'it returns false'. Refute it at one input. -/
def mergeExchangedWrong : ChangeSpec := { name := "mergeExchanged", fn := fun _ => fun
  | [d] => { results := [.lit (.bool false)], args := [d] }
  | _ => none }
def MergeExchangedWrongFalsely : Prop := mergeExchangedRow.holds Tryz.pinned (OpenSpec.ofChange mergeExchangedWrong)

/-- 'scarfjointlaw40.LayeringRaised': WHATEVER THE INPUT: true; the input reads as it did. -/
def layeringRaisedSpec : ChangeSpec := { name := "layeringRaised", fn := fun _ => fun
  | [d1, d2] => { results := [.lit (.bool true)], args := [d1, d2] }
  | _ => none }
def layeringRaisedRow : OpenClaim := { program := "ytnnpmiiegnedeaagreat", sum := "4f2ba7e5cc4f08ca4410240812f66139622dba24d3b2af331b164ac74be2c6e5", func := "scarfjoint/scarfjointlaw40.LayeringRaised", spec := "layeringRaised", inPlace := ["internal/bytealg.IndexByteString"], unfollowed := true, recurses := true, apart := false }
def LayeringRaisedSaid : Prop := layeringRaisedRow.holds Tryz.pinned (OpenSpec.ofChange layeringRaisedSpec)

/-- ITS FALSE NEIGHBOUR: 'it returns false'. Refute it at one input. -/
def layeringRaisedWrong : ChangeSpec := { name := "layeringRaised", fn := fun _ => fun
  | [d1, d2] => { results := [.lit (.bool false)], args := [d1, d2] }
  | _ => none }
def LayeringRaisedWrongFalsely : Prop := layeringRaisedRow.holds Tryz.pinned (OpenSpec.ofChange layeringRaisedWrong)

/- THE SECOND FORM. 'bulk': how many values and letters a reading holds, each counted each time it is reached (what is shared counts as often as it is met; a slice's spare places count too). A statement '..UptoSaid' is the law's where the arguments, and the package variables that the reading takes, are together of bulk at most 1048576: NARROWER than '..Said'. Prove '..Said' where nothing that the law and all that it calls make is longer than what came in: it says more and counts as full. Else prove '..UptoSaid'. A law counts once. -/
mutual
def uptoBulk {H : Type} : DataW H → Nat
  | .lit (.string bytes) => bytes.length + 1
  | .lit _ => 1
  | .nil => 1
  | .ptr d => uptoBulk d + 1
  | .slice elems spare => uptoBulkAll elems + uptoBulkAll spare + 1
  | .agg parts => uptoBulkAll parts + 1
  | .iface _ d => uptoBulk d + 1
  | .map entries => uptoBulkEntries entries + 1
  | .held _ => 1
def uptoBulkAll {H : Type} : List (DataW H) → Nat
  | [] => 0
  | d :: r => uptoBulk d + uptoBulkAll r
def uptoBulkEntries {H : Type} : List (Lit × DataW H) → Nat
  | [] => 0
  | x :: r => uptoBulkEntry x + uptoBulkEntries r
def uptoBulkEntry {H : Type} : Lit × DataW H → Nat
  | (.string bytes, d) => bytes.length + uptoBulk d + 1
  | (_, d) => uptoBulk d + 1
 end
def uptoSmall : (H : Type) → List (DataW H) → Bool := fun _ ds => decide (uptoBulkAll ds ≤ 1048576)
def OpenSpec.upto (s : _root_.Go.ChangeSpec) : _root_.Go.OpenSpec := { _root_.Go.OpenSpec.ofChange s with cond := some uptoSmall }

/-- 'scarfjointlaw57.MergeExchanged', WHERE WHAT IT READS IS OF BULK AT MOST 1048576: true; the input reads as it did. -/
def mergeExchangedUptoRow : OpenClaim := { program := "ytnnpmiiegnedeaagreat", sum := "4f2ba7e5cc4f08ca4410240812f66139622dba24d3b2af331b164ac74be2c6e5", func := "scarfjoint/scarfjointlaw57.MergeExchanged", spec := "mergeExchanged", inPlace := ["internal/bytealg.IndexByteString"], unfollowed := true, recurses := true, apart := false, narrowed := true }
def MergeExchangedUptoSaid : Prop := mergeExchangedUptoRow.holds Tryz.pinned (OpenSpec.upto mergeExchangedSpec)

/-- 'scarfjointlaw40.LayeringRaised', WHERE WHAT IT READS IS OF BULK AT MOST 1048576: true; the input reads as it did. -/
def layeringRaisedUptoRow : OpenClaim := { program := "ytnnpmiiegnedeaagreat", sum := "4f2ba7e5cc4f08ca4410240812f66139622dba24d3b2af331b164ac74be2c6e5", func := "scarfjoint/scarfjointlaw40.LayeringRaised", spec := "layeringRaised", inPlace := ["internal/bytealg.IndexByteString"], unfollowed := true, recurses := true, apart := false, narrowed := true }
def LayeringRaisedUptoSaid : Prop := layeringRaisedUptoRow.holds Tryz.pinned (OpenSpec.upto layeringRaisedSpec)

end Rows
end Go.Proofs.YtnnpmiiegnedeaaGreat
