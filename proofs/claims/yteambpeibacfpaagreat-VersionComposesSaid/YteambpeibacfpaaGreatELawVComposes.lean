/- The composition of the patches from a to b and from b to c is the patch from a to c, and composing with the inverse gives the patch that changes nothing.
Conditions: none. -/
import Derived.Test.YteambpeibacfpaaGreatJ8
import Derived.Test.YteambpeibacfpaaGreatELTVersionComposes
set_option maxHeartbeats 4000000
set_option linter.unusedSimpArgs false
set_option linter.unusedVariables false
open Nat (reduceEqDiff reduceLT reduceLeDiff reduceMul reduceAdd reduceSub)
open Go.IntKind (i64)
namespace Go.Proofs.YteambpeibacfpaaGreat
open Go.b7
theorem versionComposes_holds:Rows.VersionComposesSaid:=acf λd l m h1 h2 h3=>ae4 (akC h1) (okC h2) (okC h3)
end Go.Proofs.YteambpeibacfpaaGreat
