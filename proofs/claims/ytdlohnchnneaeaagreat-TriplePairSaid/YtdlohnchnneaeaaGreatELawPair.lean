/- TriplePair returns true whatever the input, and the input reads as it did. No condition. -/
import Derived.Test.YtdlohnchnneaeaaGreatJ5
set_option linter.unusedSimpArgs false
set_option linter.unusedVariables false
open Nat (reduceEqDiff reduceLT reduceLeDiff reduceMul reduceAdd reduceSub)
namespace Go.Proofs.YtdlohnchnneaeaaGreat
open Go.Abs

theorem tripleCase {c : T_scarfjointlaw52_Case} (h : G30 c) : FitT c.t ∧ SmallS c.s := by
  have hr : reachBytes ≤ 1125899906842624 := by decide
  obtain ⟨h1, h2, _⟩ := h
  exact ⟨⟨fun n hn => Nat.le_trans (h1.1.1 n hn).2.2.2.1.2 hr⟩, Nat.le_trans h2.1.2 hr, Nat.le_trans h2.2.1.2 hr⟩
theorem triplePair_holds : Rows.TriplePairSaid := lift_TriplePair fun c a b h _ _ => l_TriplePair c (tripleCase h).1 (tripleCase h).2 a b
#print axioms triplePair_holds
end Go.Proofs.YtdlohnchnneaeaaGreat
