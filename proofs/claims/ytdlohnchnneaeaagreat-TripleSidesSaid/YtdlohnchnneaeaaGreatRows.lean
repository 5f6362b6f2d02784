/-
  No cell of these rows narrows 'for every input' (looked for: loops, veiled, ifaces, maps, wideKeys, modest, calm, conditions, laid).
  DERIVED. THE GIVEN ROWS OF THIS SEAT. 6 by the template 'for every input the law returns true; each argument reads behind the call as it read before'; 0 by the template 'total and deterministic' (their statements: YtdlohnchnneaeaaGreatTotals.lean).
  GIVEN WITH THE SEED: the statements are not yours to turn. If you find one false, say at which input.
  Laid BY PROGRAM, IN A SANDBOX (cutbox-rows.mjs): the forced cells as the released guide's own fill.sh prints them over the translation 9944ddf890083aaa… (all of the seat's roots in one cut). By AI agents, Wed Nov 11 2026. No macro, syntax, notation, axiom, sorry.
-/
import Derived.Test.YtdlohnchnneaeaaGreatChecked
import GoSem.Claim
import GoSem.ClaimJoined
import GoSem.ClaimMapViews
import Derived.JoinedTies
import Derived.KernelRfl
namespace Go.Proofs.YtdlohnchnneaeaaGreat
/- THE CELL 'sum', in the pinned program and in every row, IS THE sha256 OF THE DUMP (.gsa) THAT YtdlohnchnneaeaaGreatProg.lean LOADS. Nothing in Lean hashes anything: it is a label: what it is worth is what the hold of that sum in a sandbox is worth. -/
noncomputable def Tryz.pinned : Pinned := { name := "ytdlohnchnneaeaagreat", sum := "9944ddf890083aaa60df694b37ee85e6a42c30c2e2f56df37e1b9fac9bf3f1ee", checked := Tryz.checked }
namespace Rows
def none {H : Type} : Left H := { results := [], args := [] }

/-- 'scarfjointlaw52.TripleLinks': WHATEVER THE INPUT: true; the input reads as it did. -/
def tripleLinksSpec : ChangeSpec := { name := "tripleLinks", fn := fun _ => fun
  | [d1, d2] => { results := [.lit (.bool true)], args := [d1, d2] }
  | _ => none }
def tripleLinksRow : OpenClaim := { program := "ytdlohnchnneaeaagreat", sum := "9944ddf890083aaa60df694b37ee85e6a42c30c2e2f56df37e1b9fac9bf3f1ee", func := "scarfjoint/scarfjointlaw52.TripleLinks", spec := "tripleLinks", inPlace := ["internal/bytealg.IndexByteString"], unfollowed := true, recurses := true, apart := false }
def TripleLinksSaid : Prop := tripleLinksRow.holds Tryz.pinned (OpenSpec.ofChange tripleLinksSpec)

/-- ITS FALSE NEIGHBOUR: 'it returns false'. Refute it at one input. -/
def tripleLinksWrong : ChangeSpec := { name := "tripleLinks", fn := fun _ => fun
  | [d1, d2] => { results := [.lit (.bool false)], args := [d1, d2] }
  | _ => none }
def TripleLinksWrongFalsely : Prop := tripleLinksRow.holds Tryz.pinned (OpenSpec.ofChange tripleLinksWrong)

/-- 'scarfjointlaw52.TripleSwap': WHATEVER THE INPUT: true; the input reads as it did. -/
def tripleSwapSpec : ChangeSpec := { name := "tripleSwap", fn := fun _ => fun
  | [d] => { results := [.lit (.bool true)], args := [d] }
  | _ => none }
def tripleSwapRow : OpenClaim := { program := "ytdlohnchnneaeaagreat", sum := "9944ddf890083aaa60df694b37ee85e6a42c30c2e2f56df37e1b9fac9bf3f1ee", func := "scarfjoint/scarfjointlaw52.TripleSwap", spec := "tripleSwap", inPlace := ["internal/bytealg.IndexByteString"], unfollowed := true, recurses := true, apart := false }
def TripleSwapSaid : Prop := tripleSwapRow.holds Tryz.pinned (OpenSpec.ofChange tripleSwapSpec)

/-- ITS FALSE NEIGHBOUR: 'it returns false'. Refute it at one input. -/
def tripleSwapWrong : ChangeSpec := { name := "tripleSwap", fn := fun _ => fun
  | [d] => { results := [.lit (.bool false)], args := [d] }
  | _ => none }
def TripleSwapWrongFalsely : Prop := tripleSwapRow.holds Tryz.pinned (OpenSpec.ofChange tripleSwapWrong)

/-- 'scarfjointlaw52.TriplePair': WHATEVER THE INPUT: true; the input reads as it did. -/
def triplePairSpec : ChangeSpec := { name := "triplePair", fn := fun _ => fun
  | [d1, d2, d3] => { results := [.lit (.bool true)], args := [d1, d2, d3] }
  | _ => none }
def triplePairRow : OpenClaim := { program := "ytdlohnchnneaeaagreat", sum := "9944ddf890083aaa60df694b37ee85e6a42c30c2e2f56df37e1b9fac9bf3f1ee", func := "scarfjoint/scarfjointlaw52.TriplePair", spec := "triplePair", inPlace := ["internal/bytealg.IndexByteString"], unfollowed := true, recurses := true, apart := false }
def TriplePairSaid : Prop := triplePairRow.holds Tryz.pinned (OpenSpec.ofChange triplePairSpec)

/-- ITS FALSE NEIGHBOUR: 'it returns false'. Refute it at one input. -/
def triplePairWrong : ChangeSpec := { name := "triplePair", fn := fun _ => fun
  | [d1, d2, d3] => { results := [.lit (.bool false)], args := [d1, d2, d3] }
  | _ => none }
def TriplePairWrongFalsely : Prop := triplePairRow.holds Tryz.pinned (OpenSpec.ofChange triplePairWrong)

/-- 'scarfjointlaw52.TripleSide': WHATEVER THE INPUT: true; the input reads as it did. -/
def tripleSideSpec : ChangeSpec := { name := "tripleSide", fn := fun _ => fun
  | [d1, d2, d3] => { results := [.lit (.bool true)], args := [d1, d2, d3] }
  | _ => none }
def tripleSideRow : OpenClaim := { program := "ytdlohnchnneaeaagreat", sum := "9944ddf890083aaa60df694b37ee85e6a42c30c2e2f56df37e1b9fac9bf3f1ee", func := "scarfjoint/scarfjointlaw52.TripleSide", spec := "tripleSide", inPlace := ["internal/bytealg.IndexByteString"], unfollowed := true, recurses := true, apart := false }
def TripleSideSaid : Prop := tripleSideRow.holds Tryz.pinned (OpenSpec.ofChange tripleSideSpec)

/-- ITS FALSE NEIGHBOUR: 'it returns false'. Refute it at one input. -/
def tripleSideWrong : ChangeSpec := { name := "tripleSide", fn := fun _ => fun
  | [d1, d2, d3] => { results := [.lit (.bool false)], args := [d1, d2, d3] }
  | _ => none }
def TripleSideWrongFalsely : Prop := tripleSideRow.holds Tryz.pinned (OpenSpec.ofChange tripleSideWrong)

/-- 'scarfjointlaw52.TripleTurned': WHATEVER THE INPUT: true; the input reads as it did. -/
def tripleTurnedSpec : ChangeSpec := { name := "tripleTurned", fn := fun _ => fun
  | [d] => { results := [.lit (.bool true)], args := [d] }
  | _ => none }
def tripleTurnedRow : OpenClaim := { program := "ytdlohnchnneaeaagreat", sum := "9944ddf890083aaa60df694b37ee85e6a42c30c2e2f56df37e1b9fac9bf3f1ee", func := "scarfjoint/scarfjointlaw52.TripleTurned", spec := "tripleTurned", inPlace := ["internal/bytealg.IndexByteString"], unfollowed := true, recurses := true, apart := false }
def TripleTurnedSaid : Prop := tripleTurnedRow.holds Tryz.pinned (OpenSpec.ofChange tripleTurnedSpec)

/-- ITS FALSE NEIGHBOUR: 'it returns false'. Refute it at one input. -/
def tripleTurnedWrong : ChangeSpec := { name := "tripleTurned", fn := fun _ => fun
  | [d] => { results := [.lit (.bool false)], args := [d] }
  | _ => none }
def TripleTurnedWrongFalsely : Prop := tripleTurnedRow.holds Tryz.pinned (OpenSpec.ofChange tripleTurnedWrong)

/-- 'scarfjointlaw52.TripleSides': WHATEVER THE INPUT: true; the input reads as it did. -/
def tripleSidesSpec : ChangeSpec := { name := "tripleSides", fn := fun _ => fun
  | [d1, d2] => { results := [.lit (.bool true)], args := [d1, d2] }
  | _ => none }
def tripleSidesRow : OpenClaim := { program := "ytdlohnchnneaeaagreat", sum := "9944ddf890083aaa60df694b37ee85e6a42c30c2e2f56df37e1b9fac9bf3f1ee", func := "scarfjoint/scarfjointlaw52.TripleSides", spec := "tripleSides", inPlace := ["internal/bytealg.IndexByteString"], unfollowed := true, recurses := true, apart := false }
def TripleSidesSaid : Prop := tripleSidesRow.holds Tryz.pinned (OpenSpec.ofChange tripleSidesSpec)

/-- ITS FALSE NEIGHBOUR: 'it returns false'. Refute it at one input. -/
def tripleSidesWrong : ChangeSpec := { name := "tripleSides", fn := fun _ => fun
  | [d1, d2] => { results := [.lit (.bool false)], args := [d1, d2] }
  | _ => none }
def TripleSidesWrongFalsely : Prop := tripleSidesRow.holds Tryz.pinned (OpenSpec.ofChange tripleSidesWrong)

/- THE SECOND FORM. 'bulk': how many values and letters a reading holds, each counted each time it is reached (what is shared counts as often as it is met; a slice's spare places count too). A statement '..UptoSaid' is the law's where the arguments, and the package variables that the reading takes, are together of bulk at most 1048576: NARROWER than '..Said'. Prove '..Said' where nothing that the law and all that it calls make is longer than what came in: it says more and counts as full. Else prove '..UptoSaid'. A law counts once. -/
mutual
def uptoBulk {H : Type} : DataW H → Nat
  | .lit (.string bytes) => bytes.length + 1
  | .lit _ => 1
  | .nil => 1
  | .ptr d => uptoBulk d + 1
  | .slice elems spare => uptoBulkAll elems + uptoBulkAll spare + 1
  | .agg parts => uptoBulkAll parts + 1
  | .iface _ d => uptoBulk d + 1
  | .map entries => uptoBulkEntries entries + 1
  | .held _ => 1
def uptoBulkAll {H : Type} : List (DataW H) → Nat
  | [] => 0
  | d :: r => uptoBulk d + uptoBulkAll r
def uptoBulkEntries {H : Type} : List (Lit × DataW H) → Nat
  | [] => 0
  | x :: r => uptoBulkEntry x + uptoBulkEntries r
def uptoBulkEntry {H : Type} : Lit × DataW H → Nat
  | (.string bytes, d) => bytes.length + uptoBulk d + 1
  | (_, d) => uptoBulk d + 1
 end
def uptoSmall : (H : Type) → List (DataW H) → Bool := fun _ ds => decide (uptoBulkAll ds ≤ 1048576)
def OpenSpec.upto (s : _root_.Go.ChangeSpec) : _root_.Go.OpenSpec := { _root_.Go.OpenSpec.ofChange s with cond := some uptoSmall }

/-- 'scarfjointlaw52.TripleLinks', WHERE WHAT IT READS IS OF BULK AT MOST 1048576: true; the input reads as it did. -/
def tripleLinksUptoRow : OpenClaim := { program := "ytdlohnchnneaeaagreat", sum := "9944ddf890083aaa60df694b37ee85e6a42c30c2e2f56df37e1b9fac9bf3f1ee", func := "scarfjoint/scarfjointlaw52.TripleLinks", spec := "tripleLinks", inPlace := ["internal/bytealg.IndexByteString"], unfollowed := true, recurses := true, apart := false, narrowed := true }
def TripleLinksUptoSaid : Prop := tripleLinksUptoRow.holds Tryz.pinned (OpenSpec.upto tripleLinksSpec)

/-- 'scarfjointlaw52.TripleSwap', WHERE WHAT IT READS IS OF BULK AT MOST 1048576: true; the input reads as it did. -/
def tripleSwapUptoRow : OpenClaim := { program := "ytdlohnchnneaeaagreat", sum := "9944ddf890083aaa60df694b37ee85e6a42c30c2e2f56df37e1b9fac9bf3f1ee", func := "scarfjoint/scarfjointlaw52.TripleSwap", spec := "tripleSwap", inPlace := ["internal/bytealg.IndexByteString"], unfollowed := true, recurses := true, apart := false, narrowed := true }
def TripleSwapUptoSaid : Prop := tripleSwapUptoRow.holds Tryz.pinned (OpenSpec.upto tripleSwapSpec)

/-- 'scarfjointlaw52.TriplePair', WHERE WHAT IT READS IS OF BULK AT MOST 1048576: true; the input reads as it did. -/
def triplePairUptoRow : OpenClaim := { program := "ytdlohnchnneaeaagreat", sum := "9944ddf890083aaa60df694b37ee85e6a42c30c2e2f56df37e1b9fac9bf3f1ee", func := "scarfjoint/scarfjointlaw52.TriplePair", spec := "triplePair", inPlace := ["internal/bytealg.IndexByteString"], unfollowed := true, recurses := true, apart := false, narrowed := true }
def TriplePairUptoSaid : Prop := triplePairUptoRow.holds Tryz.pinned (OpenSpec.upto triplePairSpec)

/-- 'scarfjointlaw52.TripleSide', WHERE WHAT IT READS IS OF BULK AT MOST 1048576: true; the input reads as it did. -/
def tripleSideUptoRow : OpenClaim := { program := "ytdlohnchnneaeaagreat", sum := "9944ddf890083aaa60df694b37ee85e6a42c30c2e2f56df37e1b9fac9bf3f1ee", func := "scarfjoint/scarfjointlaw52.TripleSide", spec := "tripleSide", inPlace := ["internal/bytealg.IndexByteString"], unfollowed := true, recurses := true, apart := false, narrowed := true }
def TripleSideUptoSaid : Prop := tripleSideUptoRow.holds Tryz.pinned (OpenSpec.upto tripleSideSpec)

/-- 'scarfjointlaw52.TripleTurned', WHERE WHAT IT READS IS OF BULK AT MOST 1048576: true; the input reads as it did. -/
def tripleTurnedUptoRow : OpenClaim := { program := "ytdlohnchnneaeaagreat", sum := "9944ddf890083aaa60df694b37ee85e6a42c30c2e2f56df37e1b9fac9bf3f1ee", func := "scarfjoint/scarfjointlaw52.TripleTurned", spec := "tripleTurned", inPlace := ["internal/bytealg.IndexByteString"], unfollowed := true, recurses := true, apart := false, narrowed := true }
def TripleTurnedUptoSaid : Prop := tripleTurnedUptoRow.holds Tryz.pinned (OpenSpec.upto tripleTurnedSpec)

/-- 'scarfjointlaw52.TripleSides', WHERE WHAT IT READS IS OF BULK AT MOST 1048576: true; the input reads as it did. -/
def tripleSidesUptoRow : OpenClaim := { program := "ytdlohnchnneaeaagreat", sum := "9944ddf890083aaa60df694b37ee85e6a42c30c2e2f56df37e1b9fac9bf3f1ee", func := "scarfjoint/scarfjointlaw52.TripleSides", spec := "tripleSides", inPlace := ["internal/bytealg.IndexByteString"], unfollowed := true, recurses := true, apart := false, narrowed := true }
def TripleSidesUptoSaid : Prop := tripleSidesUptoRow.holds Tryz.pinned (OpenSpec.upto tripleSidesSpec)

end Rows
end Go.Proofs.YtdlohnchnneaeaaGreat
