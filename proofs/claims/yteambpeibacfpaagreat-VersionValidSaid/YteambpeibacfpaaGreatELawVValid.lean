/- New returns the tracked host of any host, and Valid the error of any tracked host, or the specified errors.
Conditions: none. -/
import Derived.Test.YteambpeibacfpaaGreatJ8
import Derived.Test.YteambpeibacfpaaGreatELTVersionValid
set_option maxHeartbeats 4000000
set_option linter.unusedSimpArgs false
set_option linter.unusedVariables false
open Nat (reduceEqDiff reduceLT reduceLeDiff reduceMul reduceAdd reduceSub)
open Go.IntKind (i64)
namespace Go.Proofs.YteambpeibacfpaaGreat
open Go.b7
theorem versionValid_holds:Rows.VersionValidSaid:=ae6 λt x h1 h2=>aiR t x (aiV h1) (ae5 h2)
end Go.Proofs.YteambpeibacfpaaGreat
