/- LayeringCheck returns true whatever the input, and the input reads as it did. No condition. -/
import Derived.Test.YtimojjnmmlhijaaGreatJ7
set_option linter.unusedSimpArgs false
set_option linter.unusedVariables false
open Nat (reduceEqDiff reduceLT reduceLeDiff reduceMul reduceAdd reduceSub)
namespace Go.Proofs.YtimojjnmmlhijaaGreat
open Go.Abs

theorem layeringCheck_holds:Rows.LayeringCheckSaid:=zqr fun t rules L h1 h2 h3=>zss t rules L (typesFit h1) (fun r hr=>ruleFit (h2.1 r hr)) (layerFit h3)
#print axioms layeringCheck_holds
end Go.Proofs.YtimojjnmmlhijaaGreat
