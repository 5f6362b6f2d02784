/- MergeExchanged returns true whatever the input, and the input reads as it did. No condition. -/
import Derived.Test.YtnnpmiiegnedeaaGreatJ8
import Derived.Test.YtnnpmiiegnedeaaGreatELTMergeExchanged
set_option maxHeartbeats 4000000
set_option linter.unusedSimpArgs false
set_option linter.unusedVariables false
open Nat (reduceEqDiff reduceLT reduceLeDiff reduceMul reduceAdd reduceSub)
open Go.IntKind (i64)
namespace Go.Proofs.YtnnpmiiegnedeaaGreat
open Go.cv
theorem mergeExchanged_holds:Rows.MergeExchangedSaid:=aa8 λd h=>aet (aAl h)
#print axioms mergeExchanged_holds
end Go.Proofs.YtnnpmiiegnedeaaGreat
