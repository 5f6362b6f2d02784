/- The patch from a to b fits a, and the state after it is b; the inverse leads back, and is the patch from b to a.
Conditions: none. -/
import Derived.Test.YteambpeibacfpaaGreatJ8
import Derived.Test.YteambpeibacfpaaGreatELTVersionLeads
set_option maxHeartbeats 4000000
set_option linter.unusedSimpArgs false
set_option linter.unusedVariables false
open Nat (reduceEqDiff reduceLT reduceLeDiff reduceMul reduceAdd reduceSub)
open Go.IntKind (i64)
namespace Go.Proofs.YteambpeibacfpaaGreat
open Go.b7
theorem versionLeads_holds:Rows.VersionLeadsSaid:=ae7 λd l h1 h2=>aiT (akC h1) (okC h2)
end Go.Proofs.YteambpeibacfpaaGreat
