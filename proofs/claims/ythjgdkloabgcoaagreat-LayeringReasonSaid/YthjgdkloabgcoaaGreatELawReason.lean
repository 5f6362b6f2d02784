/- LayeringReason returns true whatever the input, and the input reads as it did. No condition. -/
import Derived.Test.YthjgdkloabgcoaaGreatJ7
set_option maxHeartbeats 4000000
set_option linter.unusedSimpArgs false
set_option linter.unusedVariables false
open Nat (reduceEqDiff reduceLT reduceLeDiff reduceMul reduceAdd reduceSub)
namespace Go.Proofs.YthjgdkloabgcoaaGreat
open Go.Abs

theorem layeringReason_holds:Rows.LayeringReasonSaid:=zqu fun t rules h1 h2=>ztl t rules (typesFit h1) fun r hr=>ruleFit (h2.1 r hr)
#print axioms layeringReason_holds
end Go.Proofs.YthjgdkloabgcoaaGreat
