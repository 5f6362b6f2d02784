/- Diff returns the patch between any two tracked hosts, or the specified error.
Conditions: none. -/
import Derived.Test.YteambpeibacfpaaGreatJ8
import Derived.Test.YteambpeibacfpaaGreatELTVersionDiff
set_option maxHeartbeats 4000000
set_option linter.unusedSimpArgs false
set_option linter.unusedVariables false
open Nat (reduceEqDiff reduceLT reduceLeDiff reduceMul reduceAdd reduceSub)
open Go.IntKind (i64)
namespace Go.Proofs.YteambpeibacfpaaGreat
open Go.b7
theorem versionDiff_holds:Rows.VersionDiffSaid:=afU λt a b h1 h2 h3=>ajl t a b (aiV h1) (ae5 h2) (ae5 h3)
end Go.Proofs.YteambpeibacfpaaGreat
