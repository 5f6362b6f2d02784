/- TripleLinks returns true whatever the input, and the input reads as it did. No condition. -/
import Derived.Test.YtdlohnchnneaeaaGreatJ6
set_option linter.unusedSimpArgs false
set_option linter.unusedVariables false
namespace Go.Proofs.YtdlohnchnneaeaaGreat
open Go.Abs
open Go.ChangeShapes Go.WideShapes Go.ChangeAt Go.RowKit

set_option maxRecDepth 100000 in
theorem tripleLinks_lifted (os : Os) (started : os.Started) (H : Type) (enc : TypeId × Value → H) :
    ReturnsInHanded {} Go.Proofs.Tryz.checked os 3 .any (Rows.tripleLinksSpec.pre6 enc Go.Proofs.Tryz.prog Go.Proofs.Tryz.f3 Rows.tripleLinksRow.domain false) (Rows.tripleLinksSpec.post enc Go.Proofs.Tryz.prog Go.Proofs.Tryz.f3 false true false false) := by
  refine returnsInHanded_of_change_sized (C := Go.Proofs.Tryz.checked) ownP started (by kernel_rfl) Go.Proofs.Tryz.func3
    (ChangeSpec.witness6 (enc := enc) (C := Go.Proofs.Tryz.checked) false ⟨#[], #[.agg #[.slice none 0 0, .slice none 0 0, .slice none 0 0, .slice none 0 0], .agg #[.slice none 0 0, .slice none 0 0, .slice none 0 0]], []⟩ 8 (by kernel_rfl) (by kernel_rfl) (by kernel_rfl) (by kernel_rfl)) ?_
  intro W base args ds gs before hval0 hW _ hz0 _
  have hval : ∀ (j : Nat) t v, Go.Proofs.Tryz.f3.params[j]? = some t → args[j]? = some v → Value.okWide Go.Proofs.Tryz.prog W .any base t v := hval0
  have hW' := hW
  obtain ⟨p, q, hA0, hV, rfl, hfz, hnd⟩ := hW
  have hA : DataW.TrodAll enc Go.Proofs.Tryz.prog W 0 (fun _ => true) true Go.Proofs.Tryz.f3.params.toList args.toList ds p := hA0
  have hz : (DataW.weightsEach Go.Proofs.Tryz.prog (Go.Proofs.Tryz.f3.params.toList ++ Rows.tripleLinksSpec.plain.varTypes Go.Proofs.Tryz.prog) (ds ++ gs)).all (· ≤ reachBytes) = true := hz0
  rw [Go.Proofs.Tryz.params3] at hA hval hz
  obtain ⟨v0, v1, d0, d1, p0, p1, rfl, rfl, rfl, h0, h1⟩ := trodAll_two hA
  obtain ⟨rfl, rfl⟩ := trodVars_none hV
  obtain ⟨c, c1, c2⟩ := arg_agg Go.Proofs.Tryz.underlying30 decCase (hval 0 30 v0 rfl rfl) h0 (light_of hz (j := 0) rfl rfl)
  obtain ⟨h, _, h2⟩ := arg_agg Go.Proofs.Tryz.underlying36 decHost (hval 1 36 v1 rfl rfl) h1 (light_of hz (j := 1) rfl rfl)
  obtain ⟨k1, k2⟩ := fit_of c1
  clear hA0 hval0 hz0
  simp only [List.append_nil] at hW'
  have hlt : ∀ x ∈ p0 ++ p1, x.block < W.heap.size := fun x hx => hW'.lt x hx
  refine ((TripleLinks_ok c.1 k1 c.2 k2 h).2 (snap W) W [v0, v1] (snap_inW W) ⟨rfl, fun j u x hu hx => ?_⟩).mono ?_
  · match j with
    | 0 => simp at hu hx; subst hu hx; exact c2
    | 1 => simp at hu hx; subst hu hx; exact h2
    | j + 2 => simp at hu
  rintro e W' ⟨v, r, I', rfl, rfl, hv, bel, _⟩
  have hvb := vr_bool hv
  subst hvb
  refine ⟨_, rfl, ?_⟩
  refine ⟨_, _, _, [], p0 ++ p1, [], hW', trodAll_mk1 (shut_bool Go.Proofs.Tryz.underlying4 _), ?_, rfl, bel.frame _, fun h => by cases h⟩
  exact trodAll_mk2 (Below.trod laidP (by kernel_rfl) (of_decide_eq_true (by kernel_rfl)) h0 bel fun x hx => hlt x (List.mem_append_left _ hx)) (Below.trod laidP (by kernel_rfl) (of_decide_eq_true (by kernel_rfl)) h1 bel fun x hx => hlt x (List.mem_append_right _ hx))

theorem tripleLinks_holds : Rows.TripleLinksSaid :=
  OpenClaim.holds_of_wide 3 Go.Proofs.Tryz.f3 rfl rfl rfl rfl rfl rfl rfl ⟨rfl, rfl, rfl, rfl, rfl⟩ rfl rfl rfl rfl rfl (by kernel_rfl) Go.Proofs.Tryz.func3 (by kernel_rfl)
    (of_decide_eq_true (by kernel_rfl)) (by unfold Func.isWrapper; first | (rw [if_pos (by decide +kernel)]; kernel_rfl) | (rw [if_neg (by decide +kernel)]; exact ⟨rfl, rfl⟩))
    (fun os started H enc _ => tripleLinks_lifted os started H enc)
#print axioms tripleLinks_holds
end Go.Proofs.YtdlohnchnneaeaaGreat
