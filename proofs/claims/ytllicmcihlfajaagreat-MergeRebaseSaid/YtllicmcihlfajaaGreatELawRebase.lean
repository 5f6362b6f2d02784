/- MergeRebase returns true whatever the input, and the input reads as it did. No condition. -/
import Derived.Test.YtllicmcihlfajaaGreatJ8
import Derived.Test.YtllicmcihlfajaaGreatJ7
import Derived.Test.YtllicmcihlfajaaGreatELTMergeRebase
set_option maxHeartbeats 4000000
set_option linter.unusedSimpArgs false
set_option linter.unusedVariables false
open Nat (reduceEqDiff reduceLT reduceLeDiff reduceMul reduceAdd reduceSub)
namespace Go.Proofs.YtllicmcihlfajaaGreat
open Go.cE
theorem mergeRebase_holds:Rows.MergeRebaseSaid:=adg λt x h1 h2=>agi t x (aBc h1 h2)
#print axioms mergeRebase_holds
end Go.Proofs.YtllicmcihlfajaaGreat
