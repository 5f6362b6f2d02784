/- Union returns the union of any two rules, or the specified error; without one it is a rule.
Conditions: none. -/
import Derived.Test.YtldllhbhnpjlcaaGreatJ8
import Derived.Test.YtldllhbhnpjlcaaGreatELTParallelUnion
set_option maxHeartbeats 4000000
set_option linter.unusedSimpArgs false
set_option linter.unusedVariables false
open Nat (reduceEqDiff reduceLT reduceLeDiff reduceMul reduceAdd reduceSub)
open Go.IntKind (i64)
namespace Go.Proofs.YtldllhbhnpjlcaaGreat
open Go.bP
theorem parallelUnion_holds:Rows.ParallelUnionSaid:=abQ λt a b h1 h2 h3=>aez t a b (amM h1) (aeM h2) (aeM h3)
end Go.Proofs.YtldllhbhnpjlcaaGreat
