/- MergeNothing returns true whatever the input, and the input reads as it did. No condition. -/
import Derived.Test.YtjhkgjlmiolfoaaGreatJ8
import Derived.Test.YtjhkgjlmiolfoaaGreatELTMergeNothing
set_option maxHeartbeats 4000000
set_option linter.unusedSimpArgs false
set_option linter.unusedVariables false
open Nat (reduceEqDiff reduceLT reduceLeDiff reduceMul reduceAdd reduceSub)
open Go.IntKind (i64)
namespace Go.Proofs.YtjhkgjlmiolfoaaGreat
open Go.cr
theorem mergeNothing_holds:Rows.MergeNothingSaid:=acJ λd h=>agt (azI h)
#print axioms mergeNothing_holds
end Go.Proofs.YtjhkgjlmiolfoaaGreat
