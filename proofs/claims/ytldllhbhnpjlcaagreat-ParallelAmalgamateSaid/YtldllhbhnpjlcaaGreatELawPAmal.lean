/- Amalgamate returns the amalgamated rule over any overlap of any two rules, or the specified error; without one it is a rule.
Conditions: none. -/
import Derived.Test.YtldllhbhnpjlcaaGreatJ8
import Derived.Test.YtldllhbhnpjlcaaGreatELTParallelAmalgamate
set_option maxHeartbeats 4000000
set_option linter.unusedSimpArgs false
set_option linter.unusedVariables false
open Nat (reduceEqDiff reduceLT reduceLeDiff reduceMul reduceAdd reduceSub)
open Go.IntKind (i64)
namespace Go.Proofs.YtldllhbhnpjlcaaGreat
open Go.bP
theorem parallelAmalgamate_holds:Rows.ParallelAmalgamateSaid:=xe λt x o h1 h2 h3=>aau t x o (amM h1) (aeM h2.1) (aeM h2.2.1) (azr h3)
end Go.Proofs.YtldllhbhnpjlcaaGreat
