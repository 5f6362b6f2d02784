/- MergeRebased returns true whatever the input, and the input reads as it did. No condition. -/
import Derived.Test.YtjhkgjlmiolfoaaGreatK8
import Derived.Test.YtjhkgjlmiolfoaaGreatELTMergeRebased
set_option maxHeartbeats 4000000
set_option linter.unusedSimpArgs false
set_option linter.unusedVariables false
open Nat (reduceEqDiff reduceLT reduceLeDiff reduceMul reduceAdd reduceSub)
open Go.IntKind (i64)
namespace Go.Proofs.YtjhkgjlmiolfoaaGreat
open Go.cq
theorem mergeRebased_holds:Rows.MergeRebasedSaid:=ac1 λd h=>agJ (azK h)
#print axioms mergeRebased_holds
end Go.Proofs.YtjhkgjlmiolfoaaGreat
