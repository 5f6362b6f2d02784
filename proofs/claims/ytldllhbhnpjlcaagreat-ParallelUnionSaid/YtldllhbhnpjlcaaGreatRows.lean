/-
  NARROWER THAN 'FOR EVERY INPUT', by the rows' own cells (each row's printed sentence says how): ParallelUnion: loops · ParallelAmalgamate: loops.
  DERIVED. THE GIVEN ROWS OF THIS SEAT. 4 by the template 'for every input the law returns true; each argument reads behind the call as it read before'; 0 by the template 'total and deterministic' (their statements: YtldllhbhnpjlcaaGreatTotals.lean).
  GIVEN WITH THE SEED: the statements are not yours to turn. If you find one false, say at which input.
  Laid BY PROGRAM, IN A SANDBOX (cutbox-rows.mjs): the forced cells as the released guide's own fill.sh prints them over the translation 4024eb48258c6490… (all of the seat's roots in one cut). By AI agents, Wed Nov 11 2026. No macro, syntax, notation, axiom, sorry.
-/
import Derived.Test.YtldllhbhnpjlcaaGreatChecked
import GoSem.Claim
import GoSem.ClaimJoined
import GoSem.ClaimMapViews
import Derived.JoinedTies
import Derived.KernelRfl
namespace Go.Proofs.YtldllhbhnpjlcaaGreat
/- THE CELL 'sum', in the pinned program and in every row, IS THE sha256 OF THE DUMP (.gsa) THAT YtldllhbhnpjlcaaGreatProg.lean LOADS. Nothing in Lean hashes anything: it is a label: what it is worth is what the hold of that sum in a sandbox is worth. -/
noncomputable def Tryz.pinned : Pinned := { name := "ytldllhbhnpjlcaagreat", sum := "4024eb48258c6490edd287862495b790f6ebf74d5edf3d7705efb24c6ae48ec7", checked := Tryz.checked }
namespace Rows
def none {H : Type} : Left H := { results := [], args := [] }

/-- 'scarfjointlaw40.LayeringRaised': WHATEVER THE INPUT: true; the input reads as it did. -/
def layeringRaisedSpec : ChangeSpec := { name := "layeringRaised", fn := fun _ => fun
  | [d1, d2] => { results := [.lit (.bool true)], args := [d1, d2] }
  | _ => none }
def layeringRaisedRow : OpenClaim := { program := "ytldllhbhnpjlcaagreat", sum := "4024eb48258c6490edd287862495b790f6ebf74d5edf3d7705efb24c6ae48ec7", func := "scarfjoint/scarfjointlaw40.LayeringRaised", spec := "layeringRaised", inPlace := ["internal/bytealg.IndexByteString"], unfollowed := true, recurses := true, plainKeys := false, apart := false }
def LayeringRaisedSaid : Prop := layeringRaisedRow.holds Tryz.pinned (OpenSpec.ofChange layeringRaisedSpec)

/-- ITS FALSE NEIGHBOUR: 'it returns false'. Refute it at one input. -/
def layeringRaisedWrong : ChangeSpec := { name := "layeringRaised", fn := fun _ => fun
  | [d1, d2] => { results := [.lit (.bool false)], args := [d1, d2] }
  | _ => none }
def LayeringRaisedWrongFalsely : Prop := layeringRaisedRow.holds Tryz.pinned (OpenSpec.ofChange layeringRaisedWrong)

/-- 'scarfjointlaw31.ParallelUnion': WHATEVER THE INPUT: true; the input reads as it did. -/
def parallelUnionSpec : ChangeSpec := { name := "parallelUnion", fn := fun _ => fun
  | [d1, d2, d3] => { results := [.lit (.bool true)], args := [d1, d2, d3] }
  | _ => none }
def parallelUnionRow : OpenClaim := { program := "ytldllhbhnpjlcaagreat", sum := "4024eb48258c6490edd287862495b790f6ebf74d5edf3d7705efb24c6ae48ec7", func := "scarfjoint/scarfjointlaw31.ParallelUnion", spec := "parallelUnion", inPlace := ["internal/bytealg.IndexByteString", "math/bits.Add64"], unfollowed := true, recurses := true, loops := true, plainKeys := false, apart := false }
def ParallelUnionSaid : Prop := parallelUnionRow.holds Tryz.pinned (OpenSpec.ofChange parallelUnionSpec)

/-- ITS FALSE NEIGHBOUR: 'it returns false'. Refute it at one input. -/
def parallelUnionWrong : ChangeSpec := { name := "parallelUnion", fn := fun _ => fun
  | [d1, d2, d3] => { results := [.lit (.bool false)], args := [d1, d2, d3] }
  | _ => none }
def ParallelUnionWrongFalsely : Prop := parallelUnionRow.holds Tryz.pinned (OpenSpec.ofChange parallelUnionWrong)

/-- 'scarfjointlaw31.ParallelAmalgamate': WHATEVER THE INPUT: true; the input reads as it did. -/
def parallelAmalgamateSpec : ChangeSpec := { name := "parallelAmalgamate", fn := fun _ => fun
  | [d1, d2, d3] => { results := [.lit (.bool true)], args := [d1, d2, d3] }
  | _ => none }
def parallelAmalgamateRow : OpenClaim := { program := "ytldllhbhnpjlcaagreat", sum := "4024eb48258c6490edd287862495b790f6ebf74d5edf3d7705efb24c6ae48ec7", func := "scarfjoint/scarfjointlaw31.ParallelAmalgamate", spec := "parallelAmalgamate", inPlace := ["internal/bytealg.IndexByteString", "math/bits.Add64"], unfollowed := true, recurses := true, loops := true, plainKeys := false, apart := false }
def ParallelAmalgamateSaid : Prop := parallelAmalgamateRow.holds Tryz.pinned (OpenSpec.ofChange parallelAmalgamateSpec)

/-- ITS FALSE NEIGHBOUR: 'it returns false'. Refute it at one input. -/
def parallelAmalgamateWrong : ChangeSpec := { name := "parallelAmalgamate", fn := fun _ => fun
  | [d1, d2, d3] => { results := [.lit (.bool false)], args := [d1, d2, d3] }
  | _ => none }
def ParallelAmalgamateWrongFalsely : Prop := parallelAmalgamateRow.holds Tryz.pinned (OpenSpec.ofChange parallelAmalgamateWrong)

/-- 'scarfjointlaw31.ParallelDisjoint': WHATEVER THE INPUT: true; the input reads as it did. -/
def parallelDisjointSpec : ChangeSpec := { name := "parallelDisjoint", fn := fun _ => fun
  | [d] => { results := [.lit (.bool true)], args := [d] }
  | _ => none }
def parallelDisjointRow : OpenClaim := { program := "ytldllhbhnpjlcaagreat", sum := "4024eb48258c6490edd287862495b790f6ebf74d5edf3d7705efb24c6ae48ec7", func := "scarfjoint/scarfjointlaw31.ParallelDisjoint", spec := "parallelDisjoint", inPlace := ["internal/bytealg.IndexByteString", "math/bits.Add64"], unfollowed := true, recurses := true, plainKeys := false, apart := false }
def ParallelDisjointSaid : Prop := parallelDisjointRow.holds Tryz.pinned (OpenSpec.ofChange parallelDisjointSpec)

/-- ITS FALSE NEIGHBOUR: 'it returns false'. Refute it at one input. -/
def parallelDisjointWrong : ChangeSpec := { name := "parallelDisjoint", fn := fun _ => fun
  | [d] => { results := [.lit (.bool false)], args := [d] }
  | _ => none }
def ParallelDisjointWrongFalsely : Prop := parallelDisjointRow.holds Tryz.pinned (OpenSpec.ofChange parallelDisjointWrong)

/- THE SECOND FORM. 'bulk': how many values and letters a reading holds, each counted each time it is reached (what is shared counts as often as it is met; a slice's spare places count too). A statement '..UptoSaid' is the law's where the arguments, and the package variables that the reading takes, are together of bulk at most 1048576: NARROWER than '..Said'. Prove '..Said' where nothing that the law and all that it calls make is longer than what came in: it says more and counts as full. Else prove '..UptoSaid'. A law counts once. -/
mutual
def uptoBulk {H : Type} : DataW H → Nat
  | .lit (.string bytes) => bytes.length + 1
  | .lit _ => 1
  | .nil => 1
  | .ptr d => uptoBulk d + 1
  | .slice elems spare => uptoBulkAll elems + uptoBulkAll spare + 1
  | .agg parts => uptoBulkAll parts + 1
  | .iface _ d => uptoBulk d + 1
  | .map entries => uptoBulkEntries entries + 1
  | .held _ => 1
def uptoBulkAll {H : Type} : List (DataW H) → Nat
  | [] => 0
  | d :: r => uptoBulk d + uptoBulkAll r
def uptoBulkEntries {H : Type} : List (Lit × DataW H) → Nat
  | [] => 0
  | x :: r => uptoBulkEntry x + uptoBulkEntries r
def uptoBulkEntry {H : Type} : Lit × DataW H → Nat
  | (.string bytes, d) => bytes.length + uptoBulk d + 1
  | (_, d) => uptoBulk d + 1
 end
def uptoSmall : (H : Type) → List (DataW H) → Bool := fun _ ds => decide (uptoBulkAll ds ≤ 1048576)
def OpenSpec.upto (s : _root_.Go.ChangeSpec) : _root_.Go.OpenSpec := { _root_.Go.OpenSpec.ofChange s with cond := some uptoSmall }

/-- 'scarfjointlaw40.LayeringRaised', WHERE WHAT IT READS IS OF BULK AT MOST 1048576: true; the input reads as it did. -/
def layeringRaisedUptoRow : OpenClaim := { program := "ytldllhbhnpjlcaagreat", sum := "4024eb48258c6490edd287862495b790f6ebf74d5edf3d7705efb24c6ae48ec7", func := "scarfjoint/scarfjointlaw40.LayeringRaised", spec := "layeringRaised", inPlace := ["internal/bytealg.IndexByteString"], unfollowed := true, recurses := true, plainKeys := false, apart := false, narrowed := true }
def LayeringRaisedUptoSaid : Prop := layeringRaisedUptoRow.holds Tryz.pinned (OpenSpec.upto layeringRaisedSpec)

/-- 'scarfjointlaw31.ParallelUnion', WHERE WHAT IT READS IS OF BULK AT MOST 1048576: true; the input reads as it did. -/
def parallelUnionUptoRow : OpenClaim := { program := "ytldllhbhnpjlcaagreat", sum := "4024eb48258c6490edd287862495b790f6ebf74d5edf3d7705efb24c6ae48ec7", func := "scarfjoint/scarfjointlaw31.ParallelUnion", spec := "parallelUnion", inPlace := ["internal/bytealg.IndexByteString", "math/bits.Add64"], unfollowed := true, recurses := true, loops := true, plainKeys := false, apart := false, narrowed := true }
def ParallelUnionUptoSaid : Prop := parallelUnionUptoRow.holds Tryz.pinned (OpenSpec.upto parallelUnionSpec)

/-- 'scarfjointlaw31.ParallelAmalgamate', WHERE WHAT IT READS IS OF BULK AT MOST 1048576: true; the input reads as it did. -/
def parallelAmalgamateUptoRow : OpenClaim := { program := "ytldllhbhnpjlcaagreat", sum := "4024eb48258c6490edd287862495b790f6ebf74d5edf3d7705efb24c6ae48ec7", func := "scarfjoint/scarfjointlaw31.ParallelAmalgamate", spec := "parallelAmalgamate", inPlace := ["internal/bytealg.IndexByteString", "math/bits.Add64"], unfollowed := true, recurses := true, loops := true, plainKeys := false, apart := false, narrowed := true }
def ParallelAmalgamateUptoSaid : Prop := parallelAmalgamateUptoRow.holds Tryz.pinned (OpenSpec.upto parallelAmalgamateSpec)

/-- 'scarfjointlaw31.ParallelDisjoint', WHERE WHAT IT READS IS OF BULK AT MOST 1048576: true; the input reads as it did. -/
def parallelDisjointUptoRow : OpenClaim := { program := "ytldllhbhnpjlcaagreat", sum := "4024eb48258c6490edd287862495b790f6ebf74d5edf3d7705efb24c6ae48ec7", func := "scarfjoint/scarfjointlaw31.ParallelDisjoint", spec := "parallelDisjoint", inPlace := ["internal/bytealg.IndexByteString", "math/bits.Add64"], unfollowed := true, recurses := true, plainKeys := false, apart := false, narrowed := true }
def ParallelDisjointUptoSaid : Prop := parallelDisjointUptoRow.holds Tryz.pinned (OpenSpec.upto parallelDisjointSpec)

end Rows
end Go.Proofs.YtldllhbhnpjlcaaGreat
