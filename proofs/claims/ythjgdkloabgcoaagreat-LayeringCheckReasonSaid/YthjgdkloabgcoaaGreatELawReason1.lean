/- LayeringCheckReason returns true whatever the input, and the input reads as it did. No condition. -/
import Derived.Test.YthjgdkloabgcoaaGreatJ7
set_option maxHeartbeats 4000000
set_option linter.unusedSimpArgs false
set_option linter.unusedVariables false
open Nat (reduceEqDiff reduceLT reduceLeDiff reduceMul reduceAdd reduceSub)
namespace Go.Proofs.YthjgdkloabgcoaaGreat
open Go.Abs

theorem layeringCheckReason_holds:Rows.LayeringCheckReasonSaid:=zmm fun t rules l h1 h2 _=>zoo t rules l (typesFit h1) fun r hr=>ruleFit (h2.1 r hr)
#print axioms layeringCheckReason_holds
end Go.Proofs.YthjgdkloabgcoaaGreat
