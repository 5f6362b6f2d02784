/-
  No cell of these rows narrows 'for every input' (looked for: loops, veiled, ifaces, maps, wideKeys, modest, calm, conditions, laid).
  DERIVED. THE GIVEN ROWS OF THIS SEAT. 5 by the template 'for every input the law returns true; each argument reads behind the call as it read before'; 0 by the template 'total and deterministic' (their statements: YteambpeibacfpaaGreatTotals.lean).
  GIVEN WITH THE SEED: the statements are not yours to turn. If you find one false, say at which input.
  Laid BY PROGRAM, IN A SANDBOX (cutbox-rows.mjs): the forced cells as the released guide's own fill.sh prints them over the translation bafcbc2c93fb8fda… (all of the seat's roots in one cut). By AI agents, Wed Nov 11 2026. No macro, syntax, notation, axiom, sorry.
-/
import Derived.Test.YteambpeibacfpaaGreatChecked
import GoSem.Claim
import GoSem.ClaimJoined
import GoSem.ClaimMapViews
import Derived.JoinedTies
import Derived.KernelRfl
namespace Go.Proofs.YteambpeibacfpaaGreat
/- THE CELL 'sum', in the pinned program and in every row, IS THE sha256 OF THE DUMP (.gsa) THAT YteambpeibacfpaaGreatProg.lean LOADS. Nothing in Lean hashes anything: it is a label: what it is worth is what the hold of that sum in a sandbox is worth. -/
noncomputable def Tryz.pinned : Pinned := { name := "yteambpeibacfpaagreat", sum := "bafcbc2c93fb8fda2d55189b337672296f25eb7103bd1f625ca2b3b5f0ed1e53", checked := Tryz.checked }
namespace Rows
def none {H : Type} : Left H := { results := [], args := [] }

/-- 'scarfjointlaw56.VersionValid': WHATEVER THE INPUT: true; the input reads as it did. -/
def versionValidSpec : ChangeSpec := { name := "versionValid", fn := fun _ => fun
  | [d1, d2] => { results := [.lit (.bool true)], args := [d1, d2] }
  | _ => none }
def versionValidRow : OpenClaim := { program := "yteambpeibacfpaagreat", sum := "bafcbc2c93fb8fda2d55189b337672296f25eb7103bd1f625ca2b3b5f0ed1e53", func := "scarfjoint/scarfjointlaw56.VersionValid", spec := "versionValid", inPlace := ["internal/bytealg.IndexByteString", "math/bits.Add64"], unfollowed := true, recurses := true, plainKeys := false, apart := false }
def VersionValidSaid : Prop := versionValidRow.holds Tryz.pinned (OpenSpec.ofChange versionValidSpec)

/-- ITS FALSE NEIGHBOUR: 'it returns false'. Refute it at one input. -/
def versionValidWrong : ChangeSpec := { name := "versionValid", fn := fun _ => fun
  | [d1, d2] => { results := [.lit (.bool false)], args := [d1, d2] }
  | _ => none }
def VersionValidWrongFalsely : Prop := versionValidRow.holds Tryz.pinned (OpenSpec.ofChange versionValidWrong)

/-- 'scarfjointlaw56.VersionDiff': WHATEVER THE INPUT: true; the input reads as it did. -/
def versionDiffSpec : ChangeSpec := { name := "versionDiff", fn := fun _ => fun
  | [d1, d2, d3] => { results := [.lit (.bool true)], args := [d1, d2, d3] }
  | _ => none }
def versionDiffRow : OpenClaim := { program := "yteambpeibacfpaagreat", sum := "bafcbc2c93fb8fda2d55189b337672296f25eb7103bd1f625ca2b3b5f0ed1e53", func := "scarfjoint/scarfjointlaw56.VersionDiff", spec := "versionDiff", inPlace := ["internal/bytealg.IndexByteString", "math/bits.Add64"], unfollowed := true, recurses := true, plainKeys := false, apart := false }
def VersionDiffSaid : Prop := versionDiffRow.holds Tryz.pinned (OpenSpec.ofChange versionDiffSpec)

/-- ITS FALSE NEIGHBOUR: 'it returns false'. Refute it at one input. -/
def versionDiffWrong : ChangeSpec := { name := "versionDiff", fn := fun _ => fun
  | [d1, d2, d3] => { results := [.lit (.bool false)], args := [d1, d2, d3] }
  | _ => none }
def VersionDiffWrongFalsely : Prop := versionDiffRow.holds Tryz.pinned (OpenSpec.ofChange versionDiffWrong)

/-- 'scarfjointlaw56.VersionCompose': WHATEVER THE INPUT: true; the input reads as it did. -/
def versionComposeSpec : ChangeSpec := { name := "versionCompose", fn := fun _ => fun
  | [d1, d2, d3] => { results := [.lit (.bool true)], args := [d1, d2, d3] }
  | _ => none }
def versionComposeRow : OpenClaim := { program := "yteambpeibacfpaagreat", sum := "bafcbc2c93fb8fda2d55189b337672296f25eb7103bd1f625ca2b3b5f0ed1e53", func := "scarfjoint/scarfjointlaw56.VersionCompose", spec := "versionCompose", inPlace := ["internal/bytealg.IndexByteString", "math/bits.Add64"], unfollowed := true, recurses := true, plainKeys := false, apart := false }
def VersionComposeSaid : Prop := versionComposeRow.holds Tryz.pinned (OpenSpec.ofChange versionComposeSpec)

/-- ITS FALSE NEIGHBOUR: 'it returns false'. Refute it at one input. -/
def versionComposeWrong : ChangeSpec := { name := "versionCompose", fn := fun _ => fun
  | [d1, d2, d3] => { results := [.lit (.bool false)], args := [d1, d2, d3] }
  | _ => none }
def VersionComposeWrongFalsely : Prop := versionComposeRow.holds Tryz.pinned (OpenSpec.ofChange versionComposeWrong)

/-- 'scarfjointlaw56.VersionLeads': WHATEVER THE INPUT: true; the input reads as it did. -/
def versionLeadsSpec : ChangeSpec := { name := "versionLeads", fn := fun _ => fun
  | [d1, d2] => { results := [.lit (.bool true)], args := [d1, d2] }
  | _ => none }
def versionLeadsRow : OpenClaim := { program := "yteambpeibacfpaagreat", sum := "bafcbc2c93fb8fda2d55189b337672296f25eb7103bd1f625ca2b3b5f0ed1e53", func := "scarfjoint/scarfjointlaw56.VersionLeads", spec := "versionLeads", inPlace := ["internal/bytealg.IndexByteString", "math/bits.Add64"], unfollowed := true, recurses := true, plainKeys := false, apart := false }
def VersionLeadsSaid : Prop := versionLeadsRow.holds Tryz.pinned (OpenSpec.ofChange versionLeadsSpec)

/-- ITS FALSE NEIGHBOUR: 'it returns false'. Refute it at one input. -/
def versionLeadsWrong : ChangeSpec := { name := "versionLeads", fn := fun _ => fun
  | [d1, d2] => { results := [.lit (.bool false)], args := [d1, d2] }
  | _ => none }
def VersionLeadsWrongFalsely : Prop := versionLeadsRow.holds Tryz.pinned (OpenSpec.ofChange versionLeadsWrong)

/-- 'scarfjointlaw56.VersionComposes': WHATEVER THE INPUT: true; the input reads as it did. -/
def versionComposesSpec : ChangeSpec := { name := "versionComposes", fn := fun _ => fun
  | [d1, d2, d3] => { results := [.lit (.bool true)], args := [d1, d2, d3] }
  | _ => none }
def versionComposesRow : OpenClaim := { program := "yteambpeibacfpaagreat", sum := "bafcbc2c93fb8fda2d55189b337672296f25eb7103bd1f625ca2b3b5f0ed1e53", func := "scarfjoint/scarfjointlaw56.VersionComposes", spec := "versionComposes", inPlace := ["internal/bytealg.IndexByteString", "math/bits.Add64"], unfollowed := true, recurses := true, plainKeys := false, apart := false }
def VersionComposesSaid : Prop := versionComposesRow.holds Tryz.pinned (OpenSpec.ofChange versionComposesSpec)

/-- ITS FALSE NEIGHBOUR: 'it returns false'. Refute it at one input. -/
def versionComposesWrong : ChangeSpec := { name := "versionComposes", fn := fun _ => fun
  | [d1, d2, d3] => { results := [.lit (.bool false)], args := [d1, d2, d3] }
  | _ => none }
def VersionComposesWrongFalsely : Prop := versionComposesRow.holds Tryz.pinned (OpenSpec.ofChange versionComposesWrong)

/- THE SECOND FORM. 'bulk': how many values and letters a reading holds, each counted each time it is reached (what is shared counts as often as it is met; a slice's spare places count too). A statement '..UptoSaid' is the law's where the arguments, and the package variables that the reading takes, are together of bulk at most 1048576: NARROWER than '..Said'. Prove '..Said' where nothing that the law and all that it calls make is longer than what came in: it says more and counts as full. Else prove '..UptoSaid'. A law counts once. -/
mutual
def uptoBulk {H : Type} : DataW H → Nat
  | .lit (.string bytes) => bytes.length + 1
  | .lit _ => 1
  | .nil => 1
  | .ptr d => uptoBulk d + 1
  | .slice elems spare => uptoBulkAll elems + uptoBulkAll spare + 1
  | .agg parts => uptoBulkAll parts + 1
  | .iface _ d => uptoBulk d + 1
  | .map entries => uptoBulkEntries entries + 1
  | .held _ => 1
def uptoBulkAll {H : Type} : List (DataW H) → Nat
  | [] => 0
  | d :: r => uptoBulk d + uptoBulkAll r
def uptoBulkEntries {H : Type} : List (Lit × DataW H) → Nat
  | [] => 0
  | x :: r => uptoBulkEntry x + uptoBulkEntries r
def uptoBulkEntry {H : Type} : Lit × DataW H → Nat
  | (.string bytes, d) => bytes.length + uptoBulk d + 1
  | (_, d) => uptoBulk d + 1
 end
def uptoSmall : (H : Type) → List (DataW H) → Bool := fun _ ds => decide (uptoBulkAll ds ≤ 1048576)
def OpenSpec.upto (s : _root_.Go.ChangeSpec) : _root_.Go.OpenSpec := { _root_.Go.OpenSpec.ofChange s with cond := some uptoSmall }

/-- 'scarfjointlaw56.VersionValid', WHERE WHAT IT READS IS OF BULK AT MOST 1048576: true; the input reads as it did. -/
def versionValidUptoRow : OpenClaim := { program := "yteambpeibacfpaagreat", sum := "bafcbc2c93fb8fda2d55189b337672296f25eb7103bd1f625ca2b3b5f0ed1e53", func := "scarfjoint/scarfjointlaw56.VersionValid", spec := "versionValid", inPlace := ["internal/bytealg.IndexByteString", "math/bits.Add64"], unfollowed := true, recurses := true, plainKeys := false, apart := false, narrowed := true }
def VersionValidUptoSaid : Prop := versionValidUptoRow.holds Tryz.pinned (OpenSpec.upto versionValidSpec)

/-- 'scarfjointlaw56.VersionDiff', WHERE WHAT IT READS IS OF BULK AT MOST 1048576: true; the input reads as it did. -/
def versionDiffUptoRow : OpenClaim := { program := "yteambpeibacfpaagreat", sum := "bafcbc2c93fb8fda2d55189b337672296f25eb7103bd1f625ca2b3b5f0ed1e53", func := "scarfjoint/scarfjointlaw56.VersionDiff", spec := "versionDiff", inPlace := ["internal/bytealg.IndexByteString", "math/bits.Add64"], unfollowed := true, recurses := true, plainKeys := false, apart := false, narrowed := true }
def VersionDiffUptoSaid : Prop := versionDiffUptoRow.holds Tryz.pinned (OpenSpec.upto versionDiffSpec)

/-- 'scarfjointlaw56.VersionCompose', WHERE WHAT IT READS IS OF BULK AT MOST 1048576: true; the input reads as it did. -/
def versionComposeUptoRow : OpenClaim := { program := "yteambpeibacfpaagreat", sum := "bafcbc2c93fb8fda2d55189b337672296f25eb7103bd1f625ca2b3b5f0ed1e53", func := "scarfjoint/scarfjointlaw56.VersionCompose", spec := "versionCompose", inPlace := ["internal/bytealg.IndexByteString", "math/bits.Add64"], unfollowed := true, recurses := true, plainKeys := false, apart := false, narrowed := true }
def VersionComposeUptoSaid : Prop := versionComposeUptoRow.holds Tryz.pinned (OpenSpec.upto versionComposeSpec)

/-- 'scarfjointlaw56.VersionLeads', WHERE WHAT IT READS IS OF BULK AT MOST 1048576: true; the input reads as it did. -/
def versionLeadsUptoRow : OpenClaim := { program := "yteambpeibacfpaagreat", sum := "bafcbc2c93fb8fda2d55189b337672296f25eb7103bd1f625ca2b3b5f0ed1e53", func := "scarfjoint/scarfjointlaw56.VersionLeads", spec := "versionLeads", inPlace := ["internal/bytealg.IndexByteString", "math/bits.Add64"], unfollowed := true, recurses := true, plainKeys := false, apart := false, narrowed := true }
def VersionLeadsUptoSaid : Prop := versionLeadsUptoRow.holds Tryz.pinned (OpenSpec.upto versionLeadsSpec)

/-- 'scarfjointlaw56.VersionComposes', WHERE WHAT IT READS IS OF BULK AT MOST 1048576: true; the input reads as it did. -/
def versionComposesUptoRow : OpenClaim := { program := "yteambpeibacfpaagreat", sum := "bafcbc2c93fb8fda2d55189b337672296f25eb7103bd1f625ca2b3b5f0ed1e53", func := "scarfjoint/scarfjointlaw56.VersionComposes", spec := "versionComposes", inPlace := ["internal/bytealg.IndexByteString", "math/bits.Add64"], unfollowed := true, recurses := true, plainKeys := false, apart := false, narrowed := true }
def VersionComposesUptoSaid : Prop := versionComposesUptoRow.holds Tryz.pinned (OpenSpec.upto versionComposesSpec)

end Rows
end Go.Proofs.YteambpeibacfpaaGreat
