/- LayeringFind returns true whatever the input, and the input reads as it did. No condition. -/
import Derived.Test.YtimojjnmmlhijaaGreatJ7
set_option linter.unusedSimpArgs false
set_option linter.unusedVariables false
open Nat (reduceEqDiff reduceLT reduceLeDiff reduceMul reduceAdd reduceSub)
namespace Go.Proofs.YtimojjnmmlhijaaGreat
open Go.Abs

theorem layeringFind_holds:Rows.LayeringFindSaid:=zrb fun t rules h1 h2=>ztw t rules (typesFit h1) fun r hr=>ruleFit (h2.1 r hr)
#print axioms layeringFind_holds
end Go.Proofs.YtimojjnmmlhijaaGreat
