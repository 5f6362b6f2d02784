/-
  No cell of these rows narrows 'for every input' (looked for: loops, veiled, ifaces, maps, wideKeys, modest, calm, conditions, laid).
  DERIVED. THE GIVEN ROWS OF THIS SEAT. 7 by the template 'for every input the law returns true; each argument reads behind the call as it read before'; 0 by the template 'total and deterministic' (their statements: YtllicmcihlfajaaGreatTotals.lean).
  GIVEN WITH THE SEED: the statements are not yours to turn. If you find one false, say at which input.
  Laid BY PROGRAM, IN A SANDBOX (cutbox-rows.mjs): the forced cells as the released guide's own fill.sh prints them over the translation 337a54b570952a96… (all of the seat's roots in one cut). By AI agents, Wed Nov 11 2026. No macro, syntax, notation, axiom, sorry.
-/
import Derived.Test.YtllicmcihlfajaaGreatChecked
import GoSem.Claim
import GoSem.ClaimJoined
import GoSem.ClaimMapViews
import Derived.JoinedTies
import Derived.KernelRfl
namespace Go.Proofs.YtllicmcihlfajaaGreat
/- THE CELL 'sum', in the pinned program and in every row, IS THE sha256 OF THE DUMP (.gsa) THAT YtllicmcihlfajaaGreatProg.lean LOADS. Nothing in Lean hashes anything: it is a label: what it is worth is what the hold of that sum in a sandbox is worth. -/
noncomputable def Tryz.pinned : Pinned := { name := "ytllicmcihlfajaagreat", sum := "337a54b570952a9606aa5206e6ae78dd73dba97a412b70efec6f924eeab3cb4a", checked := Tryz.checked }
namespace Rows
def none {H : Type} : Left H := { results := [], args := [] }

/-- 'scarfjointlaw57.MergeConflicts': WHATEVER THE INPUT: true; the input reads as it did. -/
def mergeConflictsSpec : ChangeSpec := { name := "mergeConflicts", fn := fun _ => fun
  | [d1, d2] => { results := [.lit (.bool true)], args := [d1, d2] }
  | _ => none }
def mergeConflictsRow : OpenClaim := { program := "ytllicmcihlfajaagreat", sum := "337a54b570952a9606aa5206e6ae78dd73dba97a412b70efec6f924eeab3cb4a", func := "scarfjoint/scarfjointlaw57.MergeConflicts", spec := "mergeConflicts", inPlace := ["internal/bytealg.IndexByteString"], unfollowed := true, recurses := true, apart := false }
def MergeConflictsSaid : Prop := mergeConflictsRow.holds Tryz.pinned (OpenSpec.ofChange mergeConflictsSpec)

/-- ITS FALSE NEIGHBOUR: 'it returns false'. Refute it at one input. -/
def mergeConflictsWrong : ChangeSpec := { name := "mergeConflicts", fn := fun _ => fun
  | [d1, d2] => { results := [.lit (.bool false)], args := [d1, d2] }
  | _ => none }
def MergeConflictsWrongFalsely : Prop := mergeConflictsRow.holds Tryz.pinned (OpenSpec.ofChange mergeConflictsWrong)

/-- 'scarfjointlaw57.MergeMerge': WHATEVER THE INPUT: true; the input reads as it did. -/
def mergeMergeSpec : ChangeSpec := { name := "mergeMerge", fn := fun _ => fun
  | [d1, d2] => { results := [.lit (.bool true)], args := [d1, d2] }
  | _ => none }
def mergeMergeRow : OpenClaim := { program := "ytllicmcihlfajaagreat", sum := "337a54b570952a9606aa5206e6ae78dd73dba97a412b70efec6f924eeab3cb4a", func := "scarfjoint/scarfjointlaw57.MergeMerge", spec := "mergeMerge", inPlace := ["internal/bytealg.IndexByteString"], unfollowed := true, recurses := true, apart := false }
def MergeMergeSaid : Prop := mergeMergeRow.holds Tryz.pinned (OpenSpec.ofChange mergeMergeSpec)

/-- ITS FALSE NEIGHBOUR: 'it returns false'. Refute it at one input. -/
def mergeMergeWrong : ChangeSpec := { name := "mergeMerge", fn := fun _ => fun
  | [d1, d2] => { results := [.lit (.bool false)], args := [d1, d2] }
  | _ => none }
def MergeMergeWrongFalsely : Prop := mergeMergeRow.holds Tryz.pinned (OpenSpec.ofChange mergeMergeWrong)

/-- 'scarfjointlaw57.MergeExchanged': WHATEVER THE INPUT: true; the input reads as it did. -/
def mergeExchangedSpec : ChangeSpec := { name := "mergeExchanged", fn := fun _ => fun
  | [d] => { results := [.lit (.bool true)], args := [d] }
  | _ => none }
def mergeExchangedRow : OpenClaim := { program := "ytllicmcihlfajaagreat", sum := "337a54b570952a9606aa5206e6ae78dd73dba97a412b70efec6f924eeab3cb4a", func := "scarfjoint/scarfjointlaw57.MergeExchanged", spec := "mergeExchanged", inPlace := ["internal/bytealg.IndexByteString"], unfollowed := true, recurses := true, apart := false }
def MergeExchangedSaid : Prop := mergeExchangedRow.holds Tryz.pinned (OpenSpec.ofChange mergeExchangedSpec)

/-- ITS FALSE NEIGHBOUR: 'it returns false'. Refute it at one input. -/
def mergeExchangedWrong : ChangeSpec := { name := "mergeExchanged", fn := fun _ => fun
  | [d] => { results := [.lit (.bool false)], args := [d] }
  | _ => none }
def MergeExchangedWrongFalsely : Prop := mergeExchangedRow.holds Tryz.pinned (OpenSpec.ofChange mergeExchangedWrong)

/-- 'scarfjointlaw57.MergeRebase': WHATEVER THE INPUT: true; the input reads as it did. -/
def mergeRebaseSpec : ChangeSpec := { name := "mergeRebase", fn := fun _ => fun
  | [d1, d2] => { results := [.lit (.bool true)], args := [d1, d2] }
  | _ => none }
def mergeRebaseRow : OpenClaim := { program := "ytllicmcihlfajaagreat", sum := "337a54b570952a9606aa5206e6ae78dd73dba97a412b70efec6f924eeab3cb4a", func := "scarfjoint/scarfjointlaw57.MergeRebase", spec := "mergeRebase", inPlace := ["internal/bytealg.IndexByteString"], unfollowed := true, recurses := true, apart := false }
def MergeRebaseSaid : Prop := mergeRebaseRow.holds Tryz.pinned (OpenSpec.ofChange mergeRebaseSpec)

/-- ITS FALSE NEIGHBOUR: 'it returns false'. Refute it at one input. -/
def mergeRebaseWrong : ChangeSpec := { name := "mergeRebase", fn := fun _ => fun
  | [d1, d2] => { results := [.lit (.bool false)], args := [d1, d2] }
  | _ => none }
def MergeRebaseWrongFalsely : Prop := mergeRebaseRow.holds Tryz.pinned (OpenSpec.ofChange mergeRebaseWrong)

/-- 'scarfjointlaw57.MergeNothing': WHATEVER THE INPUT: true; the input reads as it did. -/
def mergeNothingSpec : ChangeSpec := { name := "mergeNothing", fn := fun _ => fun
  | [d] => { results := [.lit (.bool true)], args := [d] }
  | _ => none }
def mergeNothingRow : OpenClaim := { program := "ytllicmcihlfajaagreat", sum := "337a54b570952a9606aa5206e6ae78dd73dba97a412b70efec6f924eeab3cb4a", func := "scarfjoint/scarfjointlaw57.MergeNothing", spec := "mergeNothing", inPlace := ["internal/bytealg.IndexByteString"], unfollowed := true, recurses := true, apart := false }
def MergeNothingSaid : Prop := mergeNothingRow.holds Tryz.pinned (OpenSpec.ofChange mergeNothingSpec)

/-- ITS FALSE NEIGHBOUR: 'it returns false'. Refute it at one input. -/
def mergeNothingWrong : ChangeSpec := { name := "mergeNothing", fn := fun _ => fun
  | [d] => { results := [.lit (.bool false)], args := [d] }
  | _ => none }
def MergeNothingWrongFalsely : Prop := mergeNothingRow.holds Tryz.pinned (OpenSpec.ofChange mergeNothingWrong)

/-- 'scarfjointlaw57.MergeRebased': WHATEVER THE INPUT: true; the input reads as it did. -/
def mergeRebasedSpec : ChangeSpec := { name := "mergeRebased", fn := fun _ => fun
  | [d] => { results := [.lit (.bool true)], args := [d] }
  | _ => none }
def mergeRebasedRow : OpenClaim := { program := "ytllicmcihlfajaagreat", sum := "337a54b570952a9606aa5206e6ae78dd73dba97a412b70efec6f924eeab3cb4a", func := "scarfjoint/scarfjointlaw57.MergeRebased", spec := "mergeRebased", inPlace := ["internal/bytealg.IndexByteString"], unfollowed := true, recurses := true, apart := false }
def MergeRebasedSaid : Prop := mergeRebasedRow.holds Tryz.pinned (OpenSpec.ofChange mergeRebasedSpec)

/-- ITS FALSE NEIGHBOUR: 'it returns false'. Refute it at one input. -/
def mergeRebasedWrong : ChangeSpec := { name := "mergeRebased", fn := fun _ => fun
  | [d] => { results := [.lit (.bool false)], args := [d] }
  | _ => none }
def MergeRebasedWrongFalsely : Prop := mergeRebasedRow.holds Tryz.pinned (OpenSpec.ofChange mergeRebasedWrong)

/-- 'scarfjointlaw57.MergeSides': WHATEVER THE INPUT: true; the input reads as it did. -/
def mergeSidesSpec : ChangeSpec := { name := "mergeSides", fn := fun _ => fun
  | [d1, d2] => { results := [.lit (.bool true)], args := [d1, d2] }
  | _ => none }
def mergeSidesRow : OpenClaim := { program := "ytllicmcihlfajaagreat", sum := "337a54b570952a9606aa5206e6ae78dd73dba97a412b70efec6f924eeab3cb4a", func := "scarfjoint/scarfjointlaw57.MergeSides", spec := "mergeSides", inPlace := ["internal/bytealg.IndexByteString"], unfollowed := true, recurses := true, apart := false }
def MergeSidesSaid : Prop := mergeSidesRow.holds Tryz.pinned (OpenSpec.ofChange mergeSidesSpec)

/-- ITS FALSE NEIGHBOUR: 'it returns false'. Refute it at one input. -/
def mergeSidesWrong : ChangeSpec := { name := "mergeSides", fn := fun _ => fun
  | [d1, d2] => { results := [.lit (.bool false)], args := [d1, d2] }
  | _ => none }
def MergeSidesWrongFalsely : Prop := mergeSidesRow.holds Tryz.pinned (OpenSpec.ofChange mergeSidesWrong)

/- THE SECOND FORM. 'bulk': how many values and letters a reading holds, each counted each time it is reached (what is shared counts as often as it is met; a slice's spare places count too). A statement '..UptoSaid' is the law's where the arguments, and the package variables that the reading takes, are together of bulk at most 1048576: NARROWER than '..Said'. Prove '..Said' where nothing that the law and all that it calls make is longer than what came in: it says more and counts as full. Else prove '..UptoSaid'. A law counts once. -/
mutual
def uptoBulk {H : Type} : DataW H → Nat
  | .lit (.string bytes) => bytes.length + 1
  | .lit _ => 1
  | .nil => 1
  | .ptr d => uptoBulk d + 1
  | .slice elems spare => uptoBulkAll elems + uptoBulkAll spare + 1
  | .agg parts => uptoBulkAll parts + 1
  | .iface _ d => uptoBulk d + 1
  | .map entries => uptoBulkEntries entries + 1
  | .held _ => 1
def uptoBulkAll {H : Type} : List (DataW H) → Nat
  | [] => 0
  | d :: r => uptoBulk d + uptoBulkAll r
def uptoBulkEntries {H : Type} : List (Lit × DataW H) → Nat
  | [] => 0
  | x :: r => uptoBulkEntry x + uptoBulkEntries r
def uptoBulkEntry {H : Type} : Lit × DataW H → Nat
  | (.string bytes, d) => bytes.length + uptoBulk d + 1
  | (_, d) => uptoBulk d + 1
 end
def uptoSmall : (H : Type) → List (DataW H) → Bool := fun _ ds => decide (uptoBulkAll ds ≤ 1048576)
def OpenSpec.upto (s : _root_.Go.ChangeSpec) : _root_.Go.OpenSpec := { _root_.Go.OpenSpec.ofChange s with cond := some uptoSmall }

/-- 'scarfjointlaw57.MergeConflicts', WHERE WHAT IT READS IS OF BULK AT MOST 1048576: true; the input reads as it did. -/
def mergeConflictsUptoRow : OpenClaim := { program := "ytllicmcihlfajaagreat", sum := "337a54b570952a9606aa5206e6ae78dd73dba97a412b70efec6f924eeab3cb4a", func := "scarfjoint/scarfjointlaw57.MergeConflicts", spec := "mergeConflicts", inPlace := ["internal/bytealg.IndexByteString"], unfollowed := true, recurses := true, apart := false, narrowed := true }
def MergeConflictsUptoSaid : Prop := mergeConflictsUptoRow.holds Tryz.pinned (OpenSpec.upto mergeConflictsSpec)

/-- 'scarfjointlaw57.MergeMerge', WHERE WHAT IT READS IS OF BULK AT MOST 1048576: true; the input reads as it did. -/
def mergeMergeUptoRow : OpenClaim := { program := "ytllicmcihlfajaagreat", sum := "337a54b570952a9606aa5206e6ae78dd73dba97a412b70efec6f924eeab3cb4a", func := "scarfjoint/scarfjointlaw57.MergeMerge", spec := "mergeMerge", inPlace := ["internal/bytealg.IndexByteString"], unfollowed := true, recurses := true, apart := false, narrowed := true }
def MergeMergeUptoSaid : Prop := mergeMergeUptoRow.holds Tryz.pinned (OpenSpec.upto mergeMergeSpec)

/-- 'scarfjointlaw57.MergeExchanged', WHERE WHAT IT READS IS OF BULK AT MOST 1048576: true; the input reads as it did. -/
def mergeExchangedUptoRow : OpenClaim := { program := "ytllicmcihlfajaagreat", sum := "337a54b570952a9606aa5206e6ae78dd73dba97a412b70efec6f924eeab3cb4a", func := "scarfjoint/scarfjointlaw57.MergeExchanged", spec := "mergeExchanged", inPlace := ["internal/bytealg.IndexByteString"], unfollowed := true, recurses := true, apart := false, narrowed := true }
def MergeExchangedUptoSaid : Prop := mergeExchangedUptoRow.holds Tryz.pinned (OpenSpec.upto mergeExchangedSpec)

/-- 'scarfjointlaw57.MergeRebase', WHERE WHAT IT READS IS OF BULK AT MOST 1048576: true; the input reads as it did. -/
def mergeRebaseUptoRow : OpenClaim := { program := "ytllicmcihlfajaagreat", sum := "337a54b570952a9606aa5206e6ae78dd73dba97a412b70efec6f924eeab3cb4a", func := "scarfjoint/scarfjointlaw57.MergeRebase", spec := "mergeRebase", inPlace := ["internal/bytealg.IndexByteString"], unfollowed := true, recurses := true, apart := false, narrowed := true }
def MergeRebaseUptoSaid : Prop := mergeRebaseUptoRow.holds Tryz.pinned (OpenSpec.upto mergeRebaseSpec)

/-- 'scarfjointlaw57.MergeNothing', WHERE WHAT IT READS IS OF BULK AT MOST 1048576: true; the input reads as it did. -/
def mergeNothingUptoRow : OpenClaim := { program := "ytllicmcihlfajaagreat", sum := "337a54b570952a9606aa5206e6ae78dd73dba97a412b70efec6f924eeab3cb4a", func := "scarfjoint/scarfjointlaw57.MergeNothing", spec := "mergeNothing", inPlace := ["internal/bytealg.IndexByteString"], unfollowed := true, recurses := true, apart := false, narrowed := true }
def MergeNothingUptoSaid : Prop := mergeNothingUptoRow.holds Tryz.pinned (OpenSpec.upto mergeNothingSpec)

/-- 'scarfjointlaw57.MergeRebased', WHERE WHAT IT READS IS OF BULK AT MOST 1048576: true; the input reads as it did. -/
def mergeRebasedUptoRow : OpenClaim := { program := "ytllicmcihlfajaagreat", sum := "337a54b570952a9606aa5206e6ae78dd73dba97a412b70efec6f924eeab3cb4a", func := "scarfjoint/scarfjointlaw57.MergeRebased", spec := "mergeRebased", inPlace := ["internal/bytealg.IndexByteString"], unfollowed := true, recurses := true, apart := false, narrowed := true }
def MergeRebasedUptoSaid : Prop := mergeRebasedUptoRow.holds Tryz.pinned (OpenSpec.upto mergeRebasedSpec)

/-- 'scarfjointlaw57.MergeSides', WHERE WHAT IT READS IS OF BULK AT MOST 1048576: true; the input reads as it did. -/
def mergeSidesUptoRow : OpenClaim := { program := "ytllicmcihlfajaagreat", sum := "337a54b570952a9606aa5206e6ae78dd73dba97a412b70efec6f924eeab3cb4a", func := "scarfjoint/scarfjointlaw57.MergeSides", spec := "mergeSides", inPlace := ["internal/bytealg.IndexByteString"], unfollowed := true, recurses := true, apart := false, narrowed := true }
def MergeSidesUptoSaid : Prop := mergeSidesUptoRow.holds Tryz.pinned (OpenSpec.upto mergeSidesSpec)

end Rows
end Go.Proofs.YtllicmcihlfajaaGreat
