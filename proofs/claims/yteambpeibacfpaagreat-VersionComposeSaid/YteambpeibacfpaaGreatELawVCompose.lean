/- Compose returns the patch that does what any two patches do, or the specified error; it leads to where both lead.
Conditions: none. -/
import Derived.Test.YteambpeibacfpaaGreatJ8
import Derived.Test.YteambpeibacfpaaGreatELTVersionCompose
set_option maxHeartbeats 4000000
set_option linter.unusedSimpArgs false
set_option linter.unusedVariables false
open Nat (reduceEqDiff reduceLT reduceLeDiff reduceMul reduceAdd reduceSub)
open Go.IntKind (i64)
namespace Go.Proofs.YteambpeibacfpaaGreat
open Go.b7
theorem versionCompose_holds:Rows.VersionComposeSaid:=acX λt a x h1 h2 _=>afT t a x (aiV h1) (ae5 h2)
end Go.Proofs.YteambpeibacfpaaGreat
