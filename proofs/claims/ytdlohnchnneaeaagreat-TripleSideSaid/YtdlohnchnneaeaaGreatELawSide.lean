/- TripleSide returns true whatever the input, and the input reads as it did. No condition. -/
import Derived.Test.YtdlohnchnneaeaaGreatJ5
import Derived.Test.YtdlohnchnneaeaaGreatJ6
set_option linter.unusedSimpArgs false
set_option linter.unusedVariables false
open Nat (reduceEqDiff reduceLT reduceLeDiff reduceMul reduceAdd reduceSub)
namespace Go.Proofs.YtdlohnchnneaeaaGreat
open Go.Abs
open Go.ChangeShapes Go.WideShapes Go.ChangeAt Go.RowKit

set_option maxRecDepth 100000 in
theorem tripleSide_lifted (os : Os) (started : os.Started) (H : Type) (enc : TypeId × Value → H) :
    ReturnsInHanded {} Go.Proofs.Tryz.checked os 6 .any (Rows.tripleSideSpec.pre6 enc Go.Proofs.Tryz.prog Go.Proofs.Tryz.f6 Rows.tripleSideRow.domain false) (Rows.tripleSideSpec.post enc Go.Proofs.Tryz.prog Go.Proofs.Tryz.f6 false true false false) := by
  refine returnsInHanded_of_change_sized (C := Go.Proofs.Tryz.checked) ownP started (by kernel_rfl) Go.Proofs.Tryz.func6
    (ChangeSpec.witness6 (enc := enc) (C := Go.Proofs.Tryz.checked) false ⟨#[], #[.agg #[.slice none 0 0, .slice none 0 0, .slice none 0 0, .slice none 0 0], .agg #[.slice none 0 0, .slice none 0 0, .slice none 0 0], .int .i64 0], []⟩ 8 (by kernel_rfl) (by kernel_rfl) (by kernel_rfl) (by kernel_rfl)) ?_
  intro W base args ds gs before hval0 hW _ hz0 _
  have hval : ∀ (j : Nat) t v, Go.Proofs.Tryz.f6.params[j]? = some t → args[j]? = some v → Value.okWide Go.Proofs.Tryz.prog W .any base t v := hval0
  have hW' := hW
  obtain ⟨p, q, hA0, hV, rfl, hfz, hnd⟩ := hW
  have hA : DataW.TrodAll enc Go.Proofs.Tryz.prog W 0 (fun _ => true) true Go.Proofs.Tryz.f6.params.toList args.toList ds p := hA0
  have hz : (DataW.weightsEach Go.Proofs.Tryz.prog (Go.Proofs.Tryz.f6.params.toList ++ Rows.tripleSideSpec.plain.varTypes Go.Proofs.Tryz.prog) (ds ++ gs)).all (· ≤ reachBytes) = true := hz0
  rw [Go.Proofs.Tryz.params6] at hA hval hz
  obtain ⟨v0, v1, v2, d0, d1, d2, p0, p1, p2, rfl, rfl, rfl, h0, h1, h3⟩ := trodAll_three hA
  obtain ⟨rfl, rfl⟩ := trodVars_none hV
  obtain ⟨c, c1, c2⟩ := arg_agg Go.Proofs.Tryz.underlying30 decCase (hval 0 30 v0 rfl rfl) h0 (light_of hz (j := 0) rfl rfl)
  obtain ⟨h, _, h2⟩ := arg_agg Go.Proofs.Tryz.underlying36 decHost (hval 1 36 v1 rfl rfl) h1 (light_of hz (j := 1) rfl rfl)
  obtain ⟨k1, k2⟩ := fit_of c1
  obtain ⟨n, rfl, _, _, _⟩ := open_int Go.Proofs.Tryz.underlying3 (hval 2 3 v2 rfl rfl) h3
  clear hA0 hval0 hz0
  simp only [List.append_nil] at hW'
  have hlt : ∀ x ∈ p0 ++ p1 ++ p2, x.block < W.heap.size := fun x hx => hW'.lt x hx
  refine ((TripleSide_ok c.1 k1 c.2 k2 h n).2 (snap W) W [v0, v1, .int .i64 n] (snap_inW W) ⟨rfl, fun j u x hu hx => ?_⟩).mono ?_
  · match j with
    | 0 => simp at hu hx; subst hu hx; exact c2
    | 1 => simp at hu hx; subst hu hx; exact h2
    | 2 => simp at hu hx; subst hu hx; exact .val _ rfl
    | j + 3 => simp at hu
  rintro e W' ⟨v, r, I', rfl, rfl, hv, bel, _⟩
  have hvb := vr_bool hv
  subst hvb
  refine ⟨_, rfl, ?_⟩
  refine ⟨_, _, _, [], p0 ++ p1 ++ p2, [], hW', trodAll_mk1 (shut_bool Go.Proofs.Tryz.underlying4 _), ?_, rfl, bel.frame _, fun h => by cases h⟩
  have hlast := trodAll_mk3 (Below.trod laidP (by kernel_rfl) (of_decide_eq_true (by kernel_rfl)) h0 bel fun x hx => hlt x (List.mem_append_left _ (List.mem_append_left _ hx))) (Below.trod laidP (by kernel_rfl) (of_decide_eq_true (by kernel_rfl)) h1 bel fun x hx => hlt x (List.mem_append_left _ (List.mem_append_right _ hx))) (Below.trod laidP (by kernel_rfl) (of_decide_eq_true (by kernel_rfl)) h3 bel fun x hx => hlt x (List.mem_append_right _ hx))
  rw [← List.append_assoc] at hlast
  exact hlast

theorem tripleSide_holds : Rows.TripleSideSaid :=
  OpenClaim.holds_of_wide 6 Go.Proofs.Tryz.f6 rfl rfl rfl rfl rfl rfl rfl ⟨rfl, rfl, rfl, rfl, rfl⟩ rfl rfl rfl rfl rfl (by kernel_rfl) Go.Proofs.Tryz.func6 (by kernel_rfl)
    (of_decide_eq_true (by kernel_rfl)) (by unfold Func.isWrapper; first | (rw [if_pos (by decide +kernel)]; kernel_rfl) | (rw [if_neg (by decide +kernel)]; exact ⟨rfl, rfl⟩))
    (fun os started H enc _ => tripleSide_lifted os started H enc)
#print axioms tripleSide_holds
end Go.Proofs.YtdlohnchnneaeaaGreat
