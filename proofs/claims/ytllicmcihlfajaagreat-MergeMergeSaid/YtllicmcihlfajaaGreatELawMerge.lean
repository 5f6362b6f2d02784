/- MergeMerge returns true whatever the input, and the input reads as it did. No condition. -/
import Derived.Test.YtllicmcihlfajaaGreatJ7
import Derived.Test.YtllicmcihlfajaaGreatELTMergeMerge
set_option maxHeartbeats 4000000
set_option linter.unusedSimpArgs false
set_option linter.unusedVariables false
open Nat (reduceEqDiff reduceLT reduceLeDiff reduceMul reduceAdd reduceSub)
namespace Go.Proofs.YtllicmcihlfajaaGreat
open Go.cE
theorem mergeMerge_holds:Rows.MergeMergeSaid:=ad1 λt x h1 h2=>aiR t x (aBc h1 h2)
#print axioms mergeMerge_holds
end Go.Proofs.YtllicmcihlfajaaGreat
