/- Joined texts, part 4: lemmas for the statement. No condition. -/
import Derived.Test.YtdlohnchnneaeaaGreatJ3
set_option linter.unusedSimpArgs false
set_option linter.unusedVariables false
/- The reference's names, continued. -/
namespace Go.Proofs.YtdlohnchnneaeaaGreat
open Go.Abs

theorem letter_digit {n : Int} (h : letterB n = true) : digitB n = false := by
  unfold letterB digitB at *
  simp at *
  omega
theorem one_ok (s : ByteArray) (hl : s.size ≤ 1000000) (h0 : 0 < s.size) : CallV Go.Proofs.Tryz.prog 160 [.val (.string s), .val (.int .i64 0)] (fun r =>
    ∃ (k n e : Int) (u : ByteArray), r = .tup [.agg [.val (.int .i64 k), .val (.string u), .val (.int .i64 0)], .val (.int .i64 n), .val (.int .i64 e)] ∧ ((e = 0 ∧ k = 1 ∧ n = s.size) ↔ nameB s = true)) := by
  have h0' : (0 : Int) < s.size := by omega
  refine callV_of_cw [] Ty.mixed Go.Proofs.Tryz.func160 rfl (by kernel_rfl) (by simp [Go.Proofs.Tryz.ntmps160]) ?_; rw [Go.Proofs.Tryz.ntmps160, Go.Proofs.Tryz.results160]
  simp -implicitDefEqProofs only [go_sem, Nat.reduceEqDiff, Nat.reduceLT, Nat.reduceLeDiff, Nat.reduceMul, Nat.reduceAdd, reduceIte, reduceCtorEq, Nat.le_refl, Nat.not_lt_zero, Nat.zero_le, Nat.zero_lt_succ, decide_true, decide_false, Nat.reduceBEq, Nat.reduceSub, Int.reduceToNat, Bool.not_not, exists_eq', ← List.map_take, ← List.map_drop]
  refine ⟨⟨by decide, h0'⟩, ?_⟩
  refine call_go (rletter_ok (sbyte s 0)) (by simp -implicitDefEqProofs only [go_sem, Nat.reduceEqDiff, Nat.reduceLT, Nat.reduceLeDiff, Nat.reduceMul, Nat.reduceAdd, reduceIte, reduceCtorEq, Nat.le_refl, Nat.not_lt_zero, Nat.zero_le, Nat.zero_lt_succ, decide_true, decide_false, Nat.reduceBEq, Nat.reduceSub, Int.reduceToNat, Bool.not_not, exists_eq', ← List.map_take, ← List.map_drop] <;> rfl) (scal rfl) ?_
  simp -implicitDefEqProofs only [go_sem, Nat.reduceEqDiff, Nat.reduceLT, Nat.reduceLeDiff, Nat.reduceMul, Nat.reduceAdd, reduceIte, reduceCtorEq, Nat.le_refl, Nat.not_lt_zero, Nat.zero_le, Nat.zero_lt_succ, decide_true, decide_false, Nat.reduceBEq, Nat.reduceSub, Int.reduceToNat, Bool.not_not, exists_eq', ← List.map_take, ← List.map_drop]
  refine walkG_splitN (fun h1 => ?_) (fun h1 => ?_) <;> simp -implicitDefEqProofs only [go_sem, Nat.reduceEqDiff, Nat.reduceLT, Nat.reduceLeDiff, Nat.reduceMul, Nat.reduceAdd, reduceIte, reduceCtorEq, Nat.le_refl, Nat.not_lt_zero, Nat.zero_le, Nat.zero_lt_succ, decide_true, decide_false, Nat.reduceBEq, Nat.reduceSub, Int.reduceToNat, Bool.not_not, exists_eq', ← List.map_take, ← List.map_drop, h1]
  · have hd := letter_digit h1
    refine call_go (rdigit_ok (sbyte s 0)) (by simp -implicitDefEqProofs only [go_sem, Nat.reduceEqDiff, Nat.reduceLT, Nat.reduceLeDiff, Nat.reduceMul, Nat.reduceAdd, reduceIte, reduceCtorEq, Nat.le_refl, Nat.not_lt_zero, Nat.zero_le, Nat.zero_lt_succ, decide_true, decide_false, Nat.reduceBEq, Nat.reduceSub, Int.reduceToNat, Bool.not_not, exists_eq', ← List.map_take, ← List.map_drop] <;> rfl) (scal rfl) ?_
    simp -implicitDefEqProofs only [go_sem, Nat.reduceEqDiff, Nat.reduceLT, Nat.reduceLeDiff, Nat.reduceMul, Nat.reduceAdd, reduceIte, reduceCtorEq, Nat.le_refl, Nat.not_lt_zero, Nat.zero_le, Nat.zero_lt_succ, decide_true, decide_false, Nat.reduceBEq, Nat.reduceSub, Int.reduceToNat, Bool.not_not, exists_eq', ← List.map_take, ← List.map_drop, hd]
    refine call_go (rrun_ok s hl false) (by simp -implicitDefEqProofs only [go_sem, Nat.reduceEqDiff, Nat.reduceLT, Nat.reduceLeDiff, Nat.reduceMul, Nat.reduceAdd, reduceIte, reduceCtorEq, Nat.le_refl, Nat.not_lt_zero, Nat.zero_le, Nat.zero_lt_succ, decide_true, decide_false, Nat.reduceBEq, Nat.reduceSub, Int.reduceToNat, Bool.not_not, exists_eq', ← List.map_take, ← List.map_drop] <;> rfl) (scal rfl) ?_
    simp -implicitDefEqProofs only [go_sem, Nat.reduceEqDiff, Nat.reduceLT, Nat.reduceLeDiff, Nat.reduceMul, Nat.reduceAdd, reduceIte, reduceCtorEq, Nat.le_refl, Nat.not_lt_zero, Nat.zero_le, Nat.zero_lt_succ, decide_true, decide_false, Nat.reduceBEq, Nat.reduceSub, Int.reduceToNat, Bool.not_not, exists_eq', ← List.map_take, ← List.map_drop, rpartB_false]
    refine call_go (rdigit_ok (sbyte s 0)) (by simp -implicitDefEqProofs only [go_sem, Nat.reduceEqDiff, Nat.reduceLT, Nat.reduceLeDiff, Nat.reduceMul, Nat.reduceAdd, reduceIte, reduceCtorEq, Nat.le_refl, Nat.not_lt_zero, Nat.zero_le, Nat.zero_lt_succ, decide_true, decide_false, Nat.reduceBEq, Nat.reduceSub, Int.reduceToNat, Bool.not_not, exists_eq', ← List.map_take, ← List.map_drop] <;> rfl) (scal rfl) ?_
    simp -implicitDefEqProofs only [go_sem, Nat.reduceEqDiff, Nat.reduceLT, Nat.reduceLeDiff, Nat.reduceMul, Nat.reduceAdd, reduceIte, reduceCtorEq, Nat.le_refl, Nat.not_lt_zero, Nat.zero_le, Nat.zero_lt_succ, decide_true, decide_false, Nat.reduceBEq, Nat.reduceSub, Int.reduceToNat, Bool.not_not, exists_eq', ← List.map_take, ← List.map_drop, hd]
    refine condC_split (fun h2 => ?_) (fun h2 => ?_) <;> simp -implicitDefEqProofs only [go_sem, Nat.reduceEqDiff, Nat.reduceLT, Nat.reduceLeDiff, Nat.reduceMul, Nat.reduceAdd, reduceIte, reduceCtorEq, Nat.le_refl, Nat.not_lt_zero, Nat.zero_le, Nat.zero_lt_succ, decide_true, decide_false, Nat.reduceBEq, Nat.reduceSub, Int.reduceToNat, Bool.not_not, exists_eq', ← List.map_take, ← List.map_drop]
    · have hd' := of_decide_eq_true h2
      refine ⟨_, _, _, _, ⟨⟨rfl, rfl⟩, rfl, rfl⟩, ?_⟩
      rw [nameB_iff]
      constructor
      · rintro ⟨h, _⟩; omega
      · rintro ⟨_, _, h3, h4⟩; omega
    · have hd' := of_decide_eq_false h2
      have hr := runF_le partB s 0
      have hw : IntKind.i64.wrap (0 + (runF partB s 0 : Int)) = runF partB s 0 := by rw [IntWalk.i64_in _ (by omega)]; omega
      rw [hw]
      refine ⟨⟨by omega, by omega, by omega⟩, _, _, _, _, ⟨⟨rfl, rfl⟩, rfl, rfl⟩, ?_⟩
      rw [nameB_iff]
      constructor
      · rintro ⟨_, _, h⟩; exact ⟨by omega, h1, by omega, by omega⟩
      · rintro ⟨_, _, h3, h4⟩; exact ⟨rfl, rfl, by omega⟩
  · have hn : nameB s = false := by simp [nameB, h1]
    rw [hn]
    refine call_go (rdigit_ok (sbyte s 0)) (by simp -implicitDefEqProofs only [go_sem, Nat.reduceEqDiff, Nat.reduceLT, Nat.reduceLeDiff, Nat.reduceMul, Nat.reduceAdd, reduceIte, reduceCtorEq, Nat.le_refl, Nat.not_lt_zero, Nat.zero_le, Nat.zero_lt_succ, decide_true, decide_false, Nat.reduceBEq, Nat.reduceSub, Int.reduceToNat, Bool.not_not, exists_eq', ← List.map_take, ← List.map_drop] <;> rfl) (scal rfl) ?_
    simp -implicitDefEqProofs only [go_sem, Nat.reduceEqDiff, Nat.reduceLT, Nat.reduceLeDiff, Nat.reduceMul, Nat.reduceAdd, reduceIte, reduceCtorEq, Nat.le_refl, Nat.not_lt_zero, Nat.zero_le, Nat.zero_lt_succ, decide_true, decide_false, Nat.reduceBEq, Nat.reduceSub, Int.reduceToNat, Bool.not_not, exists_eq', ← List.map_take, ← List.map_drop]
    refine condC_split (fun h2 => ?_) (fun h2 => ?_) <;> simp -implicitDefEqProofs only [go_sem, Nat.reduceEqDiff, Nat.reduceLT, Nat.reduceLeDiff, Nat.reduceMul, Nat.reduceAdd, reduceIte, reduceCtorEq, Nat.le_refl, Nat.not_lt_zero, Nat.zero_le, Nat.zero_lt_succ, decide_true, decide_false, Nat.reduceBEq, Nat.reduceSub, Int.reduceToNat, Bool.not_not, exists_eq', ← List.map_take, ← List.map_drop]
    · refine call_go (rdigit_ok (sbyte s 0)) (by simp -implicitDefEqProofs only [go_sem, Nat.reduceEqDiff, Nat.reduceLT, Nat.reduceLeDiff, Nat.reduceMul, Nat.reduceAdd, reduceIte, reduceCtorEq, Nat.le_refl, Nat.not_lt_zero, Nat.zero_le, Nat.zero_lt_succ, decide_true, decide_false, Nat.reduceBEq, Nat.reduceSub, Int.reduceToNat, Bool.not_not, exists_eq', ← List.map_take, ← List.map_drop] <;> rfl) (scal rfl) ?_
      simp -implicitDefEqProofs only [go_sem, Nat.reduceEqDiff, Nat.reduceLT, Nat.reduceLeDiff, Nat.reduceMul, Nat.reduceAdd, reduceIte, reduceCtorEq, Nat.le_refl, Nat.not_lt_zero, Nat.zero_le, Nat.zero_lt_succ, decide_true, decide_false, Nat.reduceBEq, Nat.reduceSub, Int.reduceToNat, Bool.not_not, exists_eq', ← List.map_take, ← List.map_drop, h2]
      refine call_go (rrun_ok s hl true) (by simp -implicitDefEqProofs only [go_sem, Nat.reduceEqDiff, Nat.reduceLT, Nat.reduceLeDiff, Nat.reduceMul, Nat.reduceAdd, reduceIte, reduceCtorEq, Nat.le_refl, Nat.not_lt_zero, Nat.zero_le, Nat.zero_lt_succ, decide_true, decide_false, Nat.reduceBEq, Nat.reduceSub, Int.reduceToNat, Bool.not_not, exists_eq', ← List.map_take, ← List.map_drop] <;> rfl) (scal rfl) ?_
      simp -implicitDefEqProofs only [go_sem, Nat.reduceEqDiff, Nat.reduceLT, Nat.reduceLeDiff, Nat.reduceMul, Nat.reduceAdd, reduceIte, reduceCtorEq, Nat.le_refl, Nat.not_lt_zero, Nat.zero_le, Nat.zero_lt_succ, decide_true, decide_false, Nat.reduceBEq, Nat.reduceSub, Int.reduceToNat, Bool.not_not, exists_eq', ← List.map_take, ← List.map_drop]
      refine call_go (rdigit_ok (sbyte s 0)) (by simp -implicitDefEqProofs only [go_sem, Nat.reduceEqDiff, Nat.reduceLT, Nat.reduceLeDiff, Nat.reduceMul, Nat.reduceAdd, reduceIte, reduceCtorEq, Nat.le_refl, Nat.not_lt_zero, Nat.zero_le, Nat.zero_lt_succ, decide_true, decide_false, Nat.reduceBEq, Nat.reduceSub, Int.reduceToNat, Bool.not_not, exists_eq', ← List.map_take, ← List.map_drop] <;> rfl) (scal rfl) ?_
      simp -implicitDefEqProofs only [go_sem, Nat.reduceEqDiff, Nat.reduceLT, Nat.reduceLeDiff, Nat.reduceMul, Nat.reduceAdd, reduceIte, reduceCtorEq, Nat.le_refl, Nat.not_lt_zero, Nat.zero_le, Nat.zero_lt_succ, decide_true, decide_false, Nat.reduceBEq, Nat.reduceSub, Int.reduceToNat, Bool.not_not, exists_eq', ← List.map_take, ← List.map_drop, h2]
      have hr := runF_le (rpartB true) s 0
      generalize runF (rpartB true) s 0 = m at hr
      have hw : IntKind.i64.wrap (0 + (m : Int)) = m := by rw [IntWalk.i64_in _ (by omega)]; omega
      refine condC_split (fun h2 => ?_) (fun h2 => ?_) <;> simp -implicitDefEqProofs only [go_sem, Nat.reduceEqDiff, Nat.reduceLT, Nat.reduceLeDiff, Nat.reduceMul, Nat.reduceAdd, reduceIte, reduceCtorEq, Nat.le_refl, Nat.not_lt_zero, Nat.zero_le, Nat.zero_lt_succ, decide_true, decide_false, Nat.reduceBEq, Nat.reduceSub, Int.reduceToNat, Bool.not_not, exists_eq', ← List.map_take, ← List.map_drop, hw]
      · exact ⟨_, _, _, _, ⟨⟨rfl, rfl⟩, rfl, rfl⟩, by simp⟩
      · exact ⟨by omega, _, _, _, _, ⟨⟨rfl, rfl⟩, rfl, rfl⟩, by simp⟩
    · refine condC_split (fun h3 => ?_) (fun h3 => ?_) <;> simp -implicitDefEqProofs only [go_sem, Nat.reduceEqDiff, Nat.reduceLT, Nat.reduceLeDiff, Nat.reduceMul, Nat.reduceAdd, reduceIte, reduceCtorEq, Nat.le_refl, Nat.not_lt_zero, Nat.zero_le, Nat.zero_lt_succ, decide_true, decide_false, Nat.reduceBEq, Nat.reduceSub, Int.reduceToNat, Bool.not_not, exists_eq', ← List.map_take, ← List.map_drop]
      · refine call_rel (rquoted_ok s hl) (by simp -implicitDefEqProofs only [go_sem, Nat.reduceEqDiff, Nat.reduceLT, Nat.reduceLeDiff, Nat.reduceMul, Nat.reduceAdd, reduceIte, reduceCtorEq, Nat.le_refl, Nat.not_lt_zero, Nat.zero_le, Nat.zero_lt_succ, decide_true, decide_false, Nat.reduceBEq, Nat.reduceSub, Int.reduceToNat, Bool.not_not, exists_eq', ← List.map_take, ← List.map_drop] <;> rfl) ?_
        rintro r ⟨n, rfl, hr⟩
        refine ⟨scal rfl, ?_⟩
        simp -implicitDefEqProofs only [go_sem, Nat.reduceEqDiff, Nat.reduceLT, Nat.reduceLeDiff, Nat.reduceMul, Nat.reduceAdd, reduceIte, reduceCtorEq, Nat.le_refl, Nat.not_lt_zero, Nat.zero_le, Nat.zero_lt_succ, decide_true, decide_false, Nat.reduceBEq, Nat.reduceSub, Int.reduceToNat, Bool.not_not, exists_eq', ← List.map_take, ← List.map_drop]
        refine condC_split (fun h4 => ?_) (fun h4 => ?_) <;> simp -implicitDefEqProofs only [go_sem, Nat.reduceEqDiff, Nat.reduceLT, Nat.reduceLeDiff, Nat.reduceMul, Nat.reduceAdd, reduceIte, reduceCtorEq, Nat.le_refl, Nat.not_lt_zero, Nat.zero_le, Nat.zero_lt_succ, decide_true, decide_false, Nat.reduceBEq, Nat.reduceSub, Int.reduceToNat, Bool.not_not, exists_eq', ← List.map_take, ← List.map_drop]
        · exact ⟨_, _, _, _, ⟨⟨rfl, rfl⟩, rfl, rfl⟩, by simp⟩
        · have h5 : 2 ≤ n ∧ n ≤ s.size := by
            have := of_decide_eq_false h4
            omega
          refine condC_split (fun h6 => ?_) (fun h6 => ?_) <;> simp -implicitDefEqProofs only [go_sem, Nat.reduceEqDiff, Nat.reduceLT, Nat.reduceLeDiff, Nat.reduceMul, Nat.reduceAdd, reduceIte, reduceCtorEq, Nat.le_refl, Nat.not_lt_zero, Nat.zero_le, Nat.zero_lt_succ, decide_true, decide_false, Nat.reduceBEq, Nat.reduceSub, Int.reduceToNat, Bool.not_not, exists_eq', ← List.map_take, ← List.map_drop]
          · exact ⟨_, _, _, _, ⟨⟨rfl, rfl⟩, rfl, rfl⟩, by simp⟩
          · have w1 : IntKind.i64.wrap (0 + 1) = 1 := by rfl
            have w2 : IntKind.i64.wrap (0 + (n : Int)) = n := by rw [IntWalk.i64_in _ (by omega)]; omega
            have w3 : IntKind.i64.wrap ((n : Int) - 1) = n - 1 := by rw [IntWalk.i64_in _ (by omega)]
            simp only [w1, w2, w3]
            exact ⟨by omega, _, _, _, _, ⟨⟨rfl, rfl⟩, rfl, rfl⟩, by simp⟩
      · refine call_go (signs_ok) (by simp -implicitDefEqProofs only [go_sem, Nat.reduceEqDiff, Nat.reduceLT, Nat.reduceLeDiff, Nat.reduceMul, Nat.reduceAdd, reduceIte, reduceCtorEq, Nat.le_refl, Nat.not_lt_zero, Nat.zero_le, Nat.zero_lt_succ, decide_true, decide_false, Nat.reduceBEq, Nat.reduceSub, Int.reduceToNat, Bool.not_not, exists_eq', ← List.map_take, ← List.map_drop] <;> rfl) (pers) ?_
        simp -implicitDefEqProofs only [go_sem, Nat.reduceEqDiff, Nat.reduceLT, Nat.reduceLeDiff, Nat.reduceMul, Nat.reduceAdd, reduceIte, reduceCtorEq, Nat.le_refl, Nat.not_lt_zero, Nat.zero_le, Nat.zero_lt_succ, decide_true, decide_false, Nat.reduceBEq, Nat.reduceSub, Int.reduceToNat, Bool.not_not, exists_eq', ← List.map_take, ← List.map_drop]
        refine loop_rule (σ := Nat) (fun x => (upd (upd (upd (upd (upd env0 0 (.p (.val (.string s)))) 1 (.p (.val (.int .i64 0)))) 4 (.ptr 4 0)) 12 (.p (.lst (signL.map encS)))) 13 (.p (.val (.int .i64 x)))))
          (fun x => (hset heap0 4 (.box [.p (.val (.int .i64 0)), .p (.val (.string ⟨#[]⟩)), .p (.val (.int .i64 0))]))) (fun x => x ≤ signL.length) (fun x => signL.length - x) 0 (Nat.zero_le _) (weak_mk (by repeat (first | exact sub_env0 _ | refine sub_upd ?_ (by first | rfl | simp [upd]))) (by repeat (first | exact hsub0 _ | refine hsub_hset ?_ (by first | rfl | simp [hset]))) (by repeat (first | exact ids_env0 _ | refine ids_upd ?_ (by simp [idsOk, idsOkL, hset]))) (by repeat (first | exact boxIds0 _ | refine boxIds_row ?_ | refine boxIds_shut ?_ | refine boxIds_box ?_ (by simp [idsOk, idsOkL, hset]))) (by repeat (first | exact keep0 _ | refine keep_low (by decide) ?_ | refine keep_high (by simp [hset]) ?_))) ?_
        rintro x hx
        simp -implicitDefEqProofs only [go_sem, Nat.reduceEqDiff, Nat.reduceLT, Nat.reduceLeDiff, Nat.reduceMul, Nat.reduceAdd, reduceIte, reduceCtorEq, Nat.le_refl, Nat.not_lt_zero, Nat.zero_le, Nat.zero_lt_succ, decide_true, decide_false, Nat.reduceBEq, Nat.reduceSub, Int.reduceToNat, Bool.not_not, exists_eq', ← List.map_take, ← List.map_drop]
        refine condC_split (fun hc => ?_) (fun hc => ?_)
        · have hlt : x < signL.length := by simpa using hc
          simp -implicitDefEqProofs only [go_sem, Nat.reduceEqDiff, Nat.reduceLT, Nat.reduceLeDiff, Nat.reduceMul, Nat.reduceAdd, reduceIte, reduceCtorEq, Nat.le_refl, Nat.not_lt_zero, Nat.zero_le, Nat.zero_lt_succ, decide_true, decide_false, Nat.reduceBEq, Nat.reduceSub, Int.reduceToNat, Bool.not_not, exists_eq', ← List.map_take, ← List.map_drop]
          refine draw_txt [.q, .q, .q, .q, .q, .q, .q, .q, .q, .q, .q, .q, .q, .q, .q, .q, .q, .q, .q, .q, .q, .q, .q, .q, .q, .q, .q] (by kernel_rfl) ?_
          simp -implicitDefEqProofs only [go_sem, Nat.reduceEqDiff, Nat.reduceLT, Nat.reduceLeDiff, Nat.reduceMul, Nat.reduceAdd, reduceIte, reduceCtorEq, Nat.le_refl, Nat.not_lt_zero, Nat.zero_le, Nat.zero_lt_succ, decide_true, decide_false, Nat.reduceBEq, Nat.reduceSub, Int.reduceToNat, Bool.not_not, exists_eq', ← List.map_take, ← List.map_drop, getD_map encS hlt, encS, hlt, List.length_map]
          have hu : (signL.getD x default).size ≤ 2 := by
            have : ∀ u ∈ signL, u.size ≤ 2 := by decide
            exact this _ (by simp [hlt])
          have hw : IntKind.i64.wrap (0 + ((signL.getD x default).size : Int)) = (signL.getD x default).size := by rw [IntWalk.i64_in _ (by omega)]; omega
          refine walkDG_split (fun h4 => ?_) (fun h4 => ?_)
          · rw [hw] at h4
            have h5 := of_decide_eq_true h4
            simp -implicitDefEqProofs only [go_sem, Nat.reduceEqDiff, Nat.reduceLT, Nat.reduceLeDiff, Nat.reduceMul, Nat.reduceAdd, reduceIte, reduceCtorEq, Nat.le_refl, Nat.not_lt_zero, Nat.zero_le, Nat.zero_lt_succ, decide_true, decide_false, Nat.reduceBEq, Nat.reduceSub, Int.reduceToNat, Bool.not_not, exists_eq', ← List.map_take, ← List.map_drop, hw, h4, h5, getD_map encS hlt, encS, hlt, List.length_map]
            refine ⟨by omega, ?_⟩
            refine condC_split (fun h6 => ?_) (fun h6 => ?_) <;> simp -implicitDefEqProofs only [go_sem, Nat.reduceEqDiff, Nat.reduceLT, Nat.reduceLeDiff, Nat.reduceMul, Nat.reduceAdd, reduceIte, reduceCtorEq, Nat.le_refl, Nat.not_lt_zero, Nat.zero_le, Nat.zero_lt_succ, decide_true, decide_false, Nat.reduceBEq, Nat.reduceSub, Int.reduceToNat, Bool.not_not, exists_eq', ← List.map_take, ← List.map_drop]
            · refine draw_txt [.p, .p, .p, .p, .p, .p, .p, .p, .p, .p, .w, .q, .q] (by kernel_rfl) ?_
              simp -implicitDefEqProofs only [go_sem, Nat.reduceEqDiff, Nat.reduceLT, Nat.reduceLeDiff, Nat.reduceMul, Nat.reduceAdd, reduceIte, reduceCtorEq, Nat.le_refl, Nat.not_lt_zero, Nat.zero_le, Nat.zero_lt_succ, decide_true, decide_false, Nat.reduceBEq, Nat.reduceSub, Int.reduceToNat, Bool.not_not, exists_eq', ← List.map_take, ← List.map_drop, getD_map encS hlt, encS, hlt, List.length_map]
              exact ⟨_, _, _, _, ⟨⟨rfl, rfl⟩, rfl, rfl⟩, by simp⟩
            · rw [wrap_succ hlt (by decide)]
              exact loopN_mk (x + 1) hlt (by omega) (weak_mk (by repeat (first | exact sub_env0 _ | refine sub_upd ?_ (by first | rfl | simp [upd]))) (by repeat (first | exact hsub0 _ | refine hsub_hset ?_ (by first | rfl | simp [hset]))) (by repeat (first | exact ids_env0 _ | refine ids_upd ?_ (by simp [idsOk, idsOkL, hset]))) (by repeat (first | exact boxIds0 _ | refine boxIds_row ?_ | refine boxIds_shut ?_ | refine boxIds_box ?_ (by simp [idsOk, idsOkL, hset]))) (by repeat (first | exact keep0 _ | refine keep_low (by decide) ?_ | refine keep_high (by simp [hset]) ?_)))
          · rw [hw] at h4
            simp -implicitDefEqProofs only [go_sem, Nat.reduceEqDiff, Nat.reduceLT, Nat.reduceLeDiff, Nat.reduceMul, Nat.reduceAdd, reduceIte, reduceCtorEq, Nat.le_refl, Nat.not_lt_zero, Nat.zero_le, Nat.zero_lt_succ, decide_true, decide_false, Nat.reduceBEq, Nat.reduceSub, Int.reduceToNat, Bool.not_not, exists_eq', ← List.map_take, ← List.map_drop, h4, hw]
            rw [wrap_succ hlt (by decide)]
            exact loopN_mk (x + 1) hlt (by omega) (weak_mk (by repeat (first | exact sub_env0 _ | refine sub_upd ?_ (by first | rfl | simp [upd]))) (by repeat (first | exact hsub0 _ | refine hsub_hset ?_ (by first | rfl | simp [hset]))) (by repeat (first | exact ids_env0 _ | refine ids_upd ?_ (by simp [idsOk, idsOkL, hset]))) (by repeat (first | exact boxIds0 _ | refine boxIds_row ?_ | refine boxIds_shut ?_ | refine boxIds_box ?_ (by simp [idsOk, idsOkL, hset]))) (by repeat (first | exact keep0 _ | refine keep_low (by decide) ?_ | refine keep_high (by simp [hset]) ?_)))
        · simp -implicitDefEqProofs only [go_sem, Nat.reduceEqDiff, Nat.reduceLT, Nat.reduceLeDiff, Nat.reduceMul, Nat.reduceAdd, reduceIte, reduceCtorEq, Nat.le_refl, Nat.not_lt_zero, Nat.zero_le, Nat.zero_lt_succ, decide_true, decide_false, Nat.reduceBEq, Nat.reduceSub, Int.reduceToNat, Bool.not_not, exists_eq', ← List.map_take, ← List.map_drop]
          exact ⟨_, _, _, _, ⟨⟨rfl, rfl⟩, rfl, rfl⟩, by simp⟩
theorem text_ok (s : ByteArray) : CallV Go.Proofs.Tryz.prog 159 [.agg [.val (.int .i64 1), .val (.string s), .val (.int .i64 0)]] (fun r => r = .val (.string s)) := by
  refine callV_of_cw [] Ty.mixed Go.Proofs.Tryz.func159 rfl (by kernel_rfl) (by simp [Go.Proofs.Tryz.ntmps159]) ?_; rw [Go.Proofs.Tryz.ntmps159, Go.Proofs.Tryz.results159]
  simp -implicitDefEqProofs only [go_sem, Nat.reduceEqDiff, Nat.reduceLT, Nat.reduceLeDiff, Nat.reduceMul, Nat.reduceAdd, reduceIte, reduceCtorEq, Nat.le_refl, Nat.not_lt_zero, Nat.zero_le, Nat.zero_lt_succ, decide_true, decide_false, Nat.reduceBEq, Nat.reduceSub, Int.reduceToNat, Bool.not_not, exists_eq', ← List.map_take, ← List.map_drop, Int.reduceEq]
theorem right_ok (s : ByteArray) (hl : s.size ≤ 1000000) : CallV Go.Proofs.Tryz.prog 147 [.agg [.val (.int .i64 1), .val (.string s), .val (.int .i64 0)]] (fun r => r = .val (.bool (nameB s))) := by
  refine callV_of_cw [] Ty.mixed Go.Proofs.Tryz.func147 rfl (by kernel_rfl) (by simp [Go.Proofs.Tryz.ntmps147]) ?_; rw [Go.Proofs.Tryz.ntmps147, Go.Proofs.Tryz.results147]
  simp -implicitDefEqProofs only [go_sem, Nat.reduceEqDiff, Nat.reduceLT, Nat.reduceLeDiff, Nat.reduceMul, Nat.reduceAdd, reduceIte, reduceCtorEq, Nat.le_refl, Nat.not_lt_zero, Nat.zero_le, Nat.zero_lt_succ, decide_true, decide_false, Nat.reduceBEq, Nat.reduceSub, Int.reduceToNat, Bool.not_not, exists_eq', ← List.map_take, ← List.map_drop]
  refine call_go (text_ok s) (by simp -implicitDefEqProofs only [go_sem, Nat.reduceEqDiff, Nat.reduceLT, Nat.reduceLeDiff, Nat.reduceMul, Nat.reduceAdd, reduceIte, reduceCtorEq, Nat.le_refl, Nat.not_lt_zero, Nat.zero_le, Nat.zero_lt_succ, decide_true, decide_false, Nat.reduceBEq, Nat.reduceSub, Int.reduceToNat, Bool.not_not, exists_eq', ← List.map_take, ← List.map_drop] <;> rfl) (scal rfl) ?_
  simp -implicitDefEqProofs only [go_sem, Nat.reduceEqDiff, Nat.reduceLT, Nat.reduceLeDiff, Nat.reduceMul, Nat.reduceAdd, reduceIte, reduceCtorEq, Nat.le_refl, Nat.not_lt_zero, Nat.zero_le, Nat.zero_lt_succ, decide_true, decide_false, Nat.reduceBEq, Nat.reduceSub, Int.reduceToNat, Bool.not_not, exists_eq', ← List.map_take, ← List.map_drop, Int.reduceEq]
  refine condC_split (fun hc => ?_) (fun hc => ?_) <;> simp -implicitDefEqProofs only [go_sem, Nat.reduceEqDiff, Nat.reduceLT, Nat.reduceLeDiff, Nat.reduceMul, Nat.reduceAdd, reduceIte, reduceCtorEq, Nat.le_refl, Nat.not_lt_zero, Nat.zero_le, Nat.zero_lt_succ, decide_true, decide_false, Nat.reduceBEq, Nat.reduceSub, Int.reduceToNat, Bool.not_not, exists_eq', ← List.map_take, ← List.map_drop]
  · have he : s = ⟨#[]⟩ := of_decide_eq_true hc
    rw [he]; try rfl
  · have he : s ≠ ⟨#[]⟩ := of_decide_eq_false hc
    have h0 : 0 < s.size := by
      rcases Nat.eq_zero_or_pos s.size with h | h
      · exact absurd (ByteArray.ext (Array.eq_empty_of_size_eq_zero h)) he
      · exact h
    refine call_rel (one_ok s hl h0) (by simp -implicitDefEqProofs only [go_sem, Nat.reduceEqDiff, Nat.reduceLT, Nat.reduceLeDiff, Nat.reduceMul, Nat.reduceAdd, reduceIte, reduceCtorEq, Nat.le_refl, Nat.not_lt_zero, Nat.zero_le, Nat.zero_lt_succ, decide_true, decide_false, Nat.reduceBEq, Nat.reduceSub, Int.reduceToNat, Bool.not_not, exists_eq', ← List.map_take, ← List.map_drop] <;> rfl) ?_
    rintro r ⟨k, n, e, u, rfl, hiff⟩
    refine ⟨scal rfl, ?_⟩
    have hn : nameB s = ((decide (e = 0) && decide (n = s.size)) && decide (k = 1)) := by
      rw [Bool.eq_iff_iff, ← hiff]
      simp only [Bool.and_eq_true, decide_eq_true_eq, and_assoc]
      constructor
      · rintro ⟨h1, h2, h3⟩; exact ⟨h1, h3, h2⟩
      · rintro ⟨h1, h2, h3⟩; exact ⟨h1, h3, h2⟩
    rw [hn]
    simp -implicitDefEqProofs only [go_sem, Nat.reduceEqDiff, Nat.reduceLT, Nat.reduceLeDiff, Nat.reduceMul, Nat.reduceAdd, reduceIte, reduceCtorEq, Nat.le_refl, Nat.not_lt_zero, Nat.zero_le, Nat.zero_lt_succ, decide_true, decide_false, Nat.reduceBEq, Nat.reduceSub, Int.reduceToNat, Bool.not_not, exists_eq', ← List.map_take, ← List.map_drop]
    refine walkG_split (fun h => ?_) (fun h => ?_) <;> simp -implicitDefEqProofs only [go_sem, Nat.reduceEqDiff, Nat.reduceLT, Nat.reduceLeDiff, Nat.reduceMul, Nat.reduceAdd, reduceIte, reduceCtorEq, Nat.le_refl, Nat.not_lt_zero, Nat.zero_le, Nat.zero_lt_succ, decide_true, decide_false, Nat.reduceBEq, Nat.reduceSub, Int.reduceToNat, Bool.not_not, exists_eq', ← List.map_take, ← List.map_drop, h]
    refine walkG_split (fun h' => ?_) (fun h' => ?_) <;> simp -implicitDefEqProofs only [go_sem, Nat.reduceEqDiff, Nat.reduceLT, Nat.reduceLeDiff, Nat.reduceMul, Nat.reduceAdd, reduceIte, reduceCtorEq, Nat.le_refl, Nat.not_lt_zero, Nat.zero_le, Nat.zero_lt_succ, decide_true, decide_false, Nat.reduceBEq, Nat.reduceSub, Int.reduceToNat, Bool.not_not, exists_eq', ← List.map_take, ← List.map_drop, h, h']
theorem rIsName_ok (s : ByteArray) (hl : s.size ≤ 1000000) : CallV Go.Proofs.Tryz.prog 127 [.val (.string s)] (fun r => r = .val (.bool (nameB s))) := by
  refine callV_of_cw [] Ty.mixed Go.Proofs.Tryz.func127 rfl (by kernel_rfl) (by simp [Go.Proofs.Tryz.ntmps127]) ?_; rw [Go.Proofs.Tryz.ntmps127, Go.Proofs.Tryz.results127]
  simp -implicitDefEqProofs only [go_sem, Nat.reduceEqDiff, Nat.reduceLT, Nat.reduceLeDiff, Nat.reduceMul, Nat.reduceAdd, reduceIte, reduceCtorEq, Nat.le_refl, Nat.not_lt_zero, Nat.zero_le, Nat.zero_lt_succ, decide_true, decide_false, Nat.reduceBEq, Nat.reduceSub, Int.reduceToNat, Bool.not_not, exists_eq', ← List.map_take, ← List.map_drop]
  refine call_go (right_ok s hl) (by simp -implicitDefEqProofs only [go_sem, Nat.reduceEqDiff, Nat.reduceLT, Nat.reduceLeDiff, Nat.reduceMul, Nat.reduceAdd, reduceIte, reduceCtorEq, Nat.le_refl, Nat.not_lt_zero, Nat.zero_le, Nat.zero_lt_succ, decide_true, decide_false, Nat.reduceBEq, Nat.reduceSub, Int.reduceToNat, Bool.not_not, exists_eq', ← List.map_take, ← List.map_drop] <;> rfl) (scal rfl) ?_
  simp -implicitDefEqProofs only [go_sem, Nat.reduceEqDiff, Nat.reduceLT, Nat.reduceLeDiff, Nat.reduceMul, Nat.reduceAdd, reduceIte, reduceCtorEq, Nat.le_refl, Nat.not_lt_zero, Nat.zero_le, Nat.zero_lt_succ, decide_true, decide_false, Nat.reduceBEq, Nat.reduceSub, Int.reduceToNat, Bool.not_not, exists_eq', ← List.map_take, ← List.map_drop]

end Go.Proofs.YtdlohnchnneaeaaGreat
/- Package types: attributes. -/
namespace Go.Proofs.YtdlohnchnneaeaaGreat
open Go.Abs

/-- As small as the statements ask of type graphs. -/
structure FewT (t : Types) : Prop where
  nodes : t.nodes.length ≤ 20
  edges : t.edges.length ≤ 30
  attrs : ∀ n ∈ t.nodes, n.attrs.length ≤ 30
  name : ∀ n ∈ t.nodes, n.name.size ≤ 40
  aname : ∀ n ∈ t.nodes, ∀ a ∈ n.attrs, a.name.size ≤ 40
  names : ∀ n ∈ t.nodes, ∀ a ∈ n.attrs, a.names.length ≤ 25
  word : ∀ n ∈ t.nodes, ∀ a ∈ n.attrs, ∀ s ∈ a.names, s.size ≤ 40
  ename : ∀ e ∈ t.edges, e.name.size ≤ 40

/-- The parents of the first nodes are earlier ones. -/
def ParOk (t : Types) (n : Nat) : Prop := ∀ j, j < n → -1 ≤ (t.nodes.getD j default).parent ∧ (t.nodes.getD j default).parent < j

def attrsK (t : Types) : Nat → Nat → List Attr
  | 0, _ => []
  | k + 1, a => (if 0 ≤ (t.nodes.getD a default).parent then attrsK t k (t.nodes.getD a default).parent.toNat else []) ++ (t.nodes.getD a default).attrs
def attrsAt (t : Types) (a : Nat) : List Attr := attrsK t (a + 1) a

theorem attrsK_fuel {t : Types} : ∀ (k k' a : Nat), ParOk t (a + 1) → a < k → a < k' → attrsK t k a = attrsK t k' a
  | 0, _, _, _, h, _ => by omega
  | _ + 1, 0, _, _, _, h => by omega
  | k + 1, k' + 1, a, hp, h, h' => by
    unfold attrsK
    split
    · rename_i h0
      have hq := hp a (by omega)
      rw [attrsK_fuel k k' (t.nodes.getD a default).parent.toNat (fun j hj => hp j (by omega)) (by omega) (by omega)]
    · rfl
theorem attrsAt_eq {t : Types} {a : Nat} (hp : ParOk t (a + 1)) : attrsAt t a = (if 0 ≤ (t.nodes.getD a default).parent then attrsAt t (t.nodes.getD a default).parent.toNat else []) ++ (t.nodes.getD a default).attrs := by
  conv => lhs; unfold attrsAt attrsK
  split
  · rename_i h0
    have hq := hp a (by omega)
    unfold attrsAt
    rw [attrsK_fuel a ((t.nodes.getD a default).parent.toNat + 1) _ (fun j hj => hp j (by omega)) (by omega) (by omega)]
  · rfl
theorem getD_mem {α : Type} [Inhabited α] {l : List α} {a : Nat} (ha : a < l.length) : l.getD a default ∈ l := by
  have : l.getD a default = l[a] := by simp [ha]
  rw [this]; exact List.getElem_mem _
theorem attrsK_len {t : Types} (hf : FewT t) : ∀ (k a : Nat), a < t.nodes.length → ParOk t (a + 1) → (attrsK t k a).length ≤ k * 30
  | 0, _, _, _ => by simp [attrsK]
  | k + 1, a, ha, hp => by
    unfold attrsK
    have h1 : (t.nodes.getD a default).attrs.length ≤ 30 := hf.attrs _ (getD_mem ha)
    have hq := hp a (by omega)
    rw [List.length_append]
    generalize hlx : (t.nodes.getD a default).attrs.length = lx at h1 ⊢
    split
    · have := attrsK_len hf k (t.nodes.getD a default).parent.toNat (by omega) (fun j hj => hp j (by omega))
      omega
    · simp; omega
theorem attrsAt_len {t : Types} (hf : FewT t) {a : Nat} (ha : a < t.nodes.length) (hp : ParOk t (a + 1)) : (attrsAt t a).length ≤ 600 := by
  have := attrsK_len hf (a + 1) a ha hp
  have := hf.nodes
  unfold attrsAt
  omega
theorem attrsK_mem {t : Types} (hf : FewT t) : ∀ (k a : Nat), a < t.nodes.length → ParOk t (a + 1) → ∀ x ∈ attrsK t k a, ∃ n ∈ t.nodes, x ∈ n.attrs
  | 0, _, _, _, x, hx => by simp [attrsK] at hx
  | k + 1, a, ha, hp, x, hx => by
    unfold attrsK at hx
    have hq := hp a (by omega)
    rcases List.mem_append.1 hx with h | h
    · split at h
      · exact attrsK_mem hf k (t.nodes.getD a default).parent.toNat (by omega) (fun j hj => hp j (by omega)) x h
      · cases h
    · exact ⟨_, getD_mem ha, h⟩
theorem enc_len4 (l : List Attr) : ∀ x ∈ l.map encAttr, x.length = 4 := by
  intro x hx
  obtain ⟨a, _, rfl⟩ := List.mem_map.1 hx
  rfl

theorem attrs_ok (t : Types) (hf : FewT t) : ∀ (a : Nat), a < t.nodes.length → ParOk t (a + 1) → CallF Go.Proofs.Tryz.prog 121 [encTypes t, .val (.int .i64 a)] (fun r => r = .row 107 4 ((attrsAt t a).map encAttr)) := by
  intro a
  induction a using Nat.strongRecOn with
  | _ a ih =>
    intro ha hp
    have hq := hp a (by omega)
    have h1 := hf.attrs _ (getD_mem ha)
    have hlen := attrsAt_len hf ha hp
    refine callF_of_cw [25] Ty.mixed Go.Proofs.Tryz.func121 rfl (by kernel_rfl) (by simp [Go.Proofs.Tryz.ntmps121]) ?_; rw [Go.Proofs.Tryz.ntmps121, Go.Proofs.Tryz.results121]
    
    simp -implicitDefEqProofs only [go_sem, Nat.reduceEqDiff, Nat.reduceLT, Nat.reduceLeDiff, Nat.reduceMul, Nat.reduceAdd, reduceIte, reduceCtorEq, Nat.le_refl, Nat.not_lt_zero, Nat.zero_le, Nat.zero_lt_succ, decide_true, decide_false, Nat.reduceBEq, Nat.reduceSub, Int.reduceToNat, Bool.not_not, exists_eq', ← List.map_take, ← List.map_drop, encTypes, getD_map encNode ha, ha, encNode]
    refine condC_split (fun h0 => ?_) (fun h0 => ?_) <;> simp -implicitDefEqProofs only [go_sem, Nat.reduceEqDiff, Nat.reduceLT, Nat.reduceLeDiff, Nat.reduceMul, Nat.reduceAdd, reduceIte, reduceCtorEq, Nat.le_refl, Nat.not_lt_zero, Nat.zero_le, Nat.zero_lt_succ, decide_true, decide_false, Nat.reduceBEq, Nat.reduceSub, Int.reduceToNat, Bool.not_not, exists_eq', ← List.map_take, ← List.map_drop, getD_map encNode ha, ha, encNode]
    · have h0' := of_decide_eq_true h0
      obtain ⟨q, hqq⟩ : ∃ q : Nat, (t.nodes.getD a default).parent = q := ⟨_, (Int.toNat_of_nonneg h0').symm⟩
      have hqa : q < a := by have := hq.2; rw [hqq] at this; omega
      rw [hqq]
      refine callf_go 17 (ih q hqa (by omega) (fun j hj => hp j (by omega))) (by simp -implicitDefEqProofs only [go_sem, Nat.reduceEqDiff, Nat.reduceLT, Nat.reduceLeDiff, Nat.reduceMul, Nat.reduceAdd, reduceIte, reduceCtorEq, Nat.le_refl, Nat.not_lt_zero, Nat.zero_le, Nat.zero_lt_succ, decide_true, decide_false, Nat.reduceBEq, Nat.reduceSub, Int.reduceToNat, Bool.not_not, exists_eq', ← List.map_take, ← List.map_drop, getD_map encNode ha, ha, encNode] <;> rfl) (persF) (by simp -implicitDefEqProofs only [go_sem, Nat.reduceEqDiff, Nat.reduceLT, Nat.reduceLeDiff, Nat.reduceMul, Nat.reduceAdd, reduceIte, reduceCtorEq, Nat.le_refl, Nat.not_lt_zero, Nat.zero_le, Nat.zero_lt_succ, decide_true, decide_false, Nat.reduceBEq, Nat.reduceSub, Int.reduceToNat, Bool.not_not, exists_eq', ← List.map_take, ← List.map_drop, getD_map encNode ha, ha, encNode]) ?_
      simp -implicitDefEqProofs only [go_sem, Nat.reduceEqDiff, Nat.reduceLT, Nat.reduceLeDiff, Nat.reduceMul, Nat.reduceAdd, reduceIte, reduceCtorEq, Nat.le_refl, Nat.not_lt_zero, Nat.zero_le, Nat.zero_lt_succ, decide_true, decide_false, Nat.reduceBEq, Nat.reduceSub, Int.reduceToNat, Bool.not_not, exists_eq', ← List.map_take, ← List.map_drop, getD_map encNode ha, ha, encNode]
      have e : attrsAt t a = attrsAt t q ++ (t.nodes.getD a default).attrs := by
        rw [attrsAt_eq hp, if_pos h0', hqq]; try rfl
      rw [e, List.length_append] at hlen
      exact ⟨⟨by omega, enc_len4 _⟩, by decide, _, .refl _, by rw [e, List.map_append]⟩
    · have h0' := of_decide_eq_false h0
      have e : attrsAt t a = (t.nodes.getD a default).attrs := by
        rw [attrsAt_eq hp, if_neg h0']; try rfl
      exact ⟨⟨by omega, enc_len4 _⟩, by decide, _, .refl _, by rw [e]⟩
end Go.Proofs.YtdlohnchnneaeaaGreat
/- Package types: errors of names, attributes, nodes and edges. -/
namespace Go.Proofs.YtdlohnchnneaeaaGreat
open Go.Abs

/-- The first place from s on, below n, at which f is not zero. -/
def firstI (f : Nat → Int) (s n : Nat) : Option Nat := (List.range' s (n - s)).find? fun i => decide (f i ≠ 0)
def firstE (f : Nat → Int) (s n : Nat) : Int := match firstI f s n with
  | some k => f k
  | none => 0
theorem firstI_at {f : Nat → Int} {s n k : Nat} (hs : s ≤ k) (hk : k < n) (h0 : ∀ j, s ≤ j → j < k → f j = 0) (h1 : f k ≠ 0) : firstI f s n = some k := by
  unfold firstI
  rw [List.find?_range'_eq_some]
  refine ⟨by simpa using h1, by simp [List.mem_range'_1]; omega, fun j hj1 hj2 => by simpa using h0 j hj1 hj2⟩
theorem firstI_none {f : Nat → Int} {s n : Nat} (h0 : ∀ j, s ≤ j → j < n → f j = 0) : firstI f s n = none := by
  unfold firstI
  rw [List.find?_eq_none]
  intro j hj
  rw [List.mem_range'_1] at hj
  have := h0 j hj.1 (by omega)
  simpa using this
theorem firstE_at {f : Nat → Int} {s n k : Nat} (hs : s ≤ k) (hk : k < n) (h0 : ∀ j, s ≤ j → j < k → f j = 0) (h1 : f k ≠ 0) : firstE f s n = f k := by
  unfold firstE
  rw [firstI_at hs hk h0 h1]
theorem firstE_none {f : Nat → Int} {s n : Nat} (h0 : ∀ j, s ≤ j → j < n → f j = 0) : firstE f s n = 0 := by
  unfold firstE
  rw [firstI_none h0]

theorem firstE_at0 {f : Nat → Int} {n k : Nat} (hk : k < n) (h0 : ∀ j, j < k → f j = 0) (h1 : f k ≠ 0) : firstE f 0 n = f k := firstE_at (Nat.zero_le _) hk (fun j _ => h0 j) h1
theorem firstE_none0 {f : Nat → Int} {n : Nat} (h0 : ∀ j, j < n → f j = 0) : firstE f 0 n = 0 := firstE_none fun j _ => h0 j
theorem all_succ {f : Nat → Int} {x : Nat} (h : ∀ j, j < x → f j = 0) (hx : f x = 0) : ∀ j, j < x + 1 → f j = 0 := fun j hj => by
  rcases Nat.lt_succ_iff_lt_or_eq.1 hj with h' | h'
  · exact h j h'
  · rw [h']; exact hx

def nameE (l : List ByteArray) (i : Nat) : Int := if nameB (l.getD i default) = false then 2 else if (l.take i).any (fun x => decide (l.getD i default = x)) = true then 5 else 0
def namesE (l : List ByteArray) : Int := if 20 < l.length then 3 else firstE (nameE l) 0 l.length

theorem names_ok (l : List ByteArray) (hl : l.length ≤ 25) (hw : ∀ s ∈ l, s.size ≤ 40) : CallV Go.Proofs.Tryz.prog 145 [.lst (l.map encS)] (fun r => r = .val (.int .i64 (namesE l))) := by
  unfold namesE
  refine callV_of_cw [] Ty.mixed Go.Proofs.Tryz.func145 rfl (by kernel_rfl) (by simp [Go.Proofs.Tryz.ntmps145]) ?_; rw [Go.Proofs.Tryz.ntmps145, Go.Proofs.Tryz.results145]
  simp -implicitDefEqProofs only [go_sem, Nat.reduceEqDiff, Nat.reduceLT, Nat.reduceLeDiff, Nat.reduceMul, Nat.reduceAdd, reduceIte, reduceCtorEq, Nat.le_refl, Nat.not_lt_zero, Nat.zero_le, Nat.zero_lt_succ, decide_true, decide_false, Nat.reduceBEq, Nat.reduceSub, Int.reduceToNat, Bool.not_not, exists_eq', ← List.map_take, ← List.map_drop]
  refine condC_split (fun h0 => ?_) (fun h0 => ?_) <;> simp -implicitDefEqProofs only [go_sem, Nat.reduceEqDiff, Nat.reduceLT, Nat.reduceLeDiff, Nat.reduceMul, Nat.reduceAdd, reduceIte, reduceCtorEq, Nat.le_refl, Nat.not_lt_zero, Nat.zero_le, Nat.zero_lt_succ, decide_true, decide_false, Nat.reduceBEq, Nat.reduceSub, Int.reduceToNat, Bool.not_not, exists_eq', ← List.map_take, ← List.map_drop]
  · have h0' : 20 < l.length := by have := of_decide_eq_true h0; omega
    rw [if_pos h0']
  · have h0' : ¬ 20 < l.length := by have := of_decide_eq_false h0; omega
    rw [if_neg h0']
    refine loop_rule (σ := Nat) (fun x => (upd (upd (upd (upd env0 0 (.p (.lst (l.map encS)))) 8 (.p (.lst (l.map encS)))) 9 (.p (.val (.int .i64 l.length)))) 10 (.p (.val (.int .i64 x))))) (fun x => heap0)
      (fun x => x ≤ l.length ∧ ∀ j, j < x → nameE l j = 0) (fun x => l.length - x) 0 ⟨Nat.zero_le _, fun j hj => absurd hj (Nat.not_lt_zero j)⟩ (weak_mk (by repeat (first | exact sub_env0 _ | refine sub_upd ?_ (by first | rfl | simp [upd]))) (by repeat (first | exact hsub0 _ | refine hsub_hset ?_ (by first | rfl | simp [hset]))) (by repeat (first | exact ids_env0 _ | refine ids_upd ?_ (by simp [idsOk, idsOkL, hset]))) (by repeat (first | exact boxIds0 _ | refine boxIds_row ?_ | refine boxIds_shut ?_ | refine boxIds_box ?_ (by simp [idsOk, idsOkL, hset]))) (by repeat (first | exact keep0 _ | refine keep_low (by decide) ?_ | refine keep_high (by simp [hset]) ?_))) ?_
    rintro x ⟨hx, hq⟩
    simp -implicitDefEqProofs only [go_sem, Nat.reduceEqDiff, Nat.reduceLT, Nat.reduceLeDiff, Nat.reduceMul, Nat.reduceAdd, reduceIte, reduceCtorEq, Nat.le_refl, Nat.not_lt_zero, Nat.zero_le, Nat.zero_lt_succ, decide_true, decide_false, Nat.reduceBEq, Nat.reduceSub, Int.reduceToNat, Bool.not_not, exists_eq', ← List.map_take, ← List.map_drop]
    refine condC_split (fun hc => ?_) (fun hc => ?_)
    · have hlt : x < l.length := by simpa using hc
      
      simp -implicitDefEqProofs only [go_sem, Nat.reduceEqDiff, Nat.reduceLT, Nat.reduceLeDiff, Nat.reduceMul, Nat.reduceAdd, reduceIte, reduceCtorEq, Nat.le_refl, Nat.not_lt_zero, Nat.zero_le, Nat.zero_lt_succ, decide_true, decide_false, Nat.reduceBEq, Nat.reduceSub, Int.reduceToNat, Bool.not_not, exists_eq', ← List.map_take, ← List.map_drop, getD_map encS hlt, hlt, encS]
      refine call_go (isName_ok (l.getD x default) (Nat.le_trans (hw _ (getD_mem hlt)) (by decide))) (by simp -implicitDefEqProofs only [go_sem, Nat.reduceEqDiff, Nat.reduceLT, Nat.reduceLeDiff, Nat.reduceMul, Nat.reduceAdd, reduceIte, reduceCtorEq, Nat.le_refl, Nat.not_lt_zero, Nat.zero_le, Nat.zero_lt_succ, decide_true, decide_false, Nat.reduceBEq, Nat.reduceSub, Int.reduceToNat, Bool.not_not, exists_eq', ← List.map_take, ← List.map_drop, getD_map encS hlt, hlt, encS] <;> rfl) (scal rfl) ?_
      simp -implicitDefEqProofs only [go_sem, Nat.reduceEqDiff, Nat.reduceLT, Nat.reduceLeDiff, Nat.reduceMul, Nat.reduceAdd, reduceIte, reduceCtorEq, Nat.le_refl, Nat.not_lt_zero, Nat.zero_le, Nat.zero_lt_succ, decide_true, decide_false, Nat.reduceBEq, Nat.reduceSub, Int.reduceToNat, Bool.not_not, exists_eq', ← List.map_take, ← List.map_drop, getD_map encS hlt, hlt, encS]
      refine condC_splitN (fun h1 => ?_) (fun h1 => ?_) <;> simp -implicitDefEqProofs only [go_sem, Nat.reduceEqDiff, Nat.reduceLT, Nat.reduceLeDiff, Nat.reduceMul, Nat.reduceAdd, reduceIte, reduceCtorEq, Nat.le_refl, Nat.not_lt_zero, Nat.zero_le, Nat.zero_lt_succ, decide_true, decide_false, Nat.reduceBEq, Nat.reduceSub, Int.reduceToNat, Bool.not_not, exists_eq', ← List.map_take, ← List.map_drop, getD_map encS hlt, hlt, encS]
      · refine ⟨⟨⟨by omega, by omega⟩, fun x hx => by obtain ⟨a, _, rfl⟩ := List.mem_map.1 hx; rfl⟩, ?_⟩
        refine call_go (has_str (l.take x) (l.getD x default) (by simp; omega)) (by simp -implicitDefEqProofs only [go_sem, Nat.reduceEqDiff, Nat.reduceLT, Nat.reduceLeDiff, Nat.reduceMul, Nat.reduceAdd, reduceIte, reduceCtorEq, Nat.le_refl, Nat.not_lt_zero, Nat.zero_le, Nat.zero_lt_succ, decide_true, decide_false, Nat.reduceBEq, Nat.reduceSub, Int.reduceToNat, Bool.not_not, exists_eq', ← List.map_take, ← List.map_drop, getD_map encS hlt, hlt, encS] <;> rfl) (scal rfl) ?_
        simp -implicitDefEqProofs only [go_sem, Nat.reduceEqDiff, Nat.reduceLT, Nat.reduceLeDiff, Nat.reduceMul, Nat.reduceAdd, reduceIte, reduceCtorEq, Nat.le_refl, Nat.not_lt_zero, Nat.zero_le, Nat.zero_lt_succ, decide_true, decide_false, Nat.reduceBEq, Nat.reduceSub, Int.reduceToNat, Bool.not_not, exists_eq', ← List.map_take, ← List.map_drop, getD_map encS hlt, hlt, encS]
        refine condC_split (fun h2 => ?_) (fun h2 => ?_) <;> simp -implicitDefEqProofs only [go_sem, Nat.reduceEqDiff, Nat.reduceLT, Nat.reduceLeDiff, Nat.reduceMul, Nat.reduceAdd, reduceIte, reduceCtorEq, Nat.le_refl, Nat.not_lt_zero, Nat.zero_le, Nat.zero_lt_succ, decide_true, decide_false, Nat.reduceBEq, Nat.reduceSub, Int.reduceToNat, Bool.not_not, exists_eq', ← List.map_take, ← List.map_drop, getD_map encS hlt, hlt, encS]
        · have : nameE l x = 5 := by unfold nameE; rw [if_neg (by rw [h1]; decide), if_pos h2]
          rw [firstE_at0 hlt hq (by rw [this]; decide), this]
        · have : nameE l x = 0 := by unfold nameE; rw [if_neg (by rw [h1]; decide), if_neg (by rw [h2]; decide)]
          exact loopN_mk (x + 1) ⟨hlt, all_succ hq this⟩ (by omega) (by rw [wrap_succ hlt (by omega)]; exact (weak_mk (by repeat (first | exact sub_env0 _ | refine sub_upd ?_ (by first | rfl | simp [upd]))) (by repeat (first | exact hsub0 _ | refine hsub_hset ?_ (by first | rfl | simp [hset]))) (by repeat (first | exact ids_env0 _ | refine ids_upd ?_ (by simp [idsOk, idsOkL, hset]))) (by repeat (first | exact boxIds0 _ | refine boxIds_row ?_ | refine boxIds_shut ?_ | refine boxIds_box ?_ (by simp [idsOk, idsOkL, hset]))) (by repeat (first | exact keep0 _ | refine keep_low (by decide) ?_ | refine keep_high (by simp [hset]) ?_))))
      · have : nameE l x = 2 := by unfold nameE; rw [if_pos h1]
        rw [firstE_at0 hlt hq (by rw [this]; decide), this]
    · have hge : l.length ≤ x := by simpa using hc
      simp -implicitDefEqProofs only [go_sem, Nat.reduceEqDiff, Nat.reduceLT, Nat.reduceLeDiff, Nat.reduceMul, Nat.reduceAdd, reduceIte, reduceCtorEq, Nat.le_refl, Nat.not_lt_zero, Nat.zero_le, Nat.zero_lt_succ, decide_true, decide_false, Nat.reduceBEq, Nat.reduceSub, Int.reduceToNat, Bool.not_not, exists_eq', ← List.map_take, ← List.map_drop]
      rw [firstE_none0 fun j hj => hq j (by omega)]
end Go.Proofs.YtdlohnchnneaeaaGreat
/- Package types: errors of attributes. -/
namespace Go.Proofs.YtdlohnchnneaeaaGreat
open Go.Abs

theorem attribute1_ok (x y : Attr) : CallV Go.Proofs.Tryz.prog 144 [.agg (encAttr y), .eptr (encAttr x) 0] (fun r => r = .val (.bool (decide (y.name = x.name)))) := by
  refine callV_of_cw [] Ty.mixed Go.Proofs.Tryz.func144 rfl (by kernel_rfl) (by simp [Go.Proofs.Tryz.ntmps144]) ?_; rw [Go.Proofs.Tryz.ntmps144, Go.Proofs.Tryz.results144]
  simp -implicitDefEqProofs only [go_sem, Nat.reduceEqDiff, Nat.reduceLT, Nat.reduceLeDiff, Nat.reduceMul, Nat.reduceAdd, reduceIte, reduceCtorEq, Nat.le_refl, Nat.not_lt_zero, Nat.zero_le, Nat.zero_lt_succ, decide_true, decide_false, Nat.reduceBEq, Nat.reduceSub, Int.reduceToNat, Bool.not_not, exists_eq', ← List.map_take, ← List.map_drop, encAttr, encStrs]
theorem node1_ok (x y : NodeT) : CallV Go.Proofs.Tryz.prog 120 [.agg (encNode y), .eptr (encNode x) 0] (fun r => r = .val (.bool (decide (y.name = x.name)))) := by
  refine callV_of_cw [] Ty.mixed Go.Proofs.Tryz.func120 rfl (by kernel_rfl) (by simp [Go.Proofs.Tryz.ntmps120]) ?_; rw [Go.Proofs.Tryz.ntmps120, Go.Proofs.Tryz.results120]
  simp -implicitDefEqProofs only [go_sem, Nat.reduceEqDiff, Nat.reduceLT, Nat.reduceLeDiff, Nat.reduceMul, Nat.reduceAdd, reduceIte, reduceCtorEq, Nat.le_refl, Nat.not_lt_zero, Nat.zero_le, Nat.zero_lt_succ, decide_true, decide_false, Nat.reduceBEq, Nat.reduceSub, Int.reduceToNat, Bool.not_not, exists_eq', ← List.map_take, ← List.map_drop, encNode, encStrs]
theorem edge2_ok (x y : EdgeT) : CallV Go.Proofs.Tryz.prog 125 [.agg (encEdgeT y), .eptr (encEdgeT x) 0] (fun r => r = .val (.bool (decide (y.name = x.name)))) := by
  refine callV_of_cw [] Ty.mixed Go.Proofs.Tryz.func125 rfl (by kernel_rfl) (by simp [Go.Proofs.Tryz.ntmps125]) ?_; rw [Go.Proofs.Tryz.ntmps125, Go.Proofs.Tryz.results125]
  simp -implicitDefEqProofs only [go_sem, Nat.reduceEqDiff, Nat.reduceLT, Nat.reduceLeDiff, Nat.reduceMul, Nat.reduceAdd, reduceIte, reduceCtorEq, Nat.le_refl, Nat.not_lt_zero, Nat.zero_le, Nat.zero_lt_succ, decide_true, decide_false, Nat.reduceBEq, Nat.reduceSub, Int.reduceToNat, Bool.not_not, exists_eq', ← List.map_take, ← List.map_drop, encEdgeT, encStrs]

structure FewA (x : Attr) : Prop where
  name : x.name.size ≤ 40
  names : x.names.length ≤ 25
  word : ∀ s ∈ x.names, s.size ≤ 40

def rangeB (x : Attr) : Bool := if 0 < x.names.length then decide (x.low = 0) && decide (x.high = (x.names.length : Int) - 1) else (decide (-1000000 ≤ x.low) && decide (x.low ≤ x.high)) && decide (x.high ≤ 1000000)
theorem rangeB_iff (x : Attr) : rangeB x = true ↔ (0 < x.names.length ∧ x.low = 0 ∧ x.high = (x.names.length : Int) - 1) ∨ (x.names.length = 0 ∧ -1000000 ≤ x.low ∧ x.low ≤ x.high ∧ x.high ≤ 1000000) := by
  unfold rangeB
  split
  · simp only [Bool.and_eq_true, decide_eq_true_eq]; omega
  · simp only [Bool.and_eq_true, decide_eq_true_eq]; omega
def attrE (x : Attr) : Int := if namesE x.names ≠ 0 then namesE x.names else if rangeB x = true then 0 else 6
def attrX (before : List Attr) (x : Attr) : Int := if nameB x.name = false then 2 else if before.any (fun y => decide (y.name = x.name)) = true then 5 else attrE x

theorem attribute_ok (x : Attr) (before : List Attr) (hx : FewA x) (hb : before.length ≤ 10000) : CallV Go.Proofs.Tryz.prog 122 [.agg (encAttr x), .lst (before.map encAttr)] (fun r => r = .val (.int .i64 (attrX before x))) := by
  have hn := hx.names
  refine callV_of_cw [] Ty.mixed Go.Proofs.Tryz.func122 rfl (by kernel_rfl) (by simp [Go.Proofs.Tryz.ntmps122]) ?_; rw [Go.Proofs.Tryz.ntmps122, Go.Proofs.Tryz.results122]
  
  simp -implicitDefEqProofs only [go_sem, Nat.reduceEqDiff, Nat.reduceLT, Nat.reduceLeDiff, Nat.reduceMul, Nat.reduceAdd, reduceIte, reduceCtorEq, Nat.le_refl, Nat.not_lt_zero, Nat.zero_le, Nat.zero_lt_succ, decide_true, decide_false, Nat.reduceBEq, Nat.reduceSub, Int.reduceToNat, Bool.not_not, exists_eq', ← List.map_take, ← List.map_drop, encAttr, encStrs]
  refine call_go (isName_ok x.name (Nat.le_trans hx.name (by decide))) (by simp -implicitDefEqProofs only [go_sem, Nat.reduceEqDiff, Nat.reduceLT, Nat.reduceLeDiff, Nat.reduceMul, Nat.reduceAdd, reduceIte, reduceCtorEq, Nat.le_refl, Nat.not_lt_zero, Nat.zero_le, Nat.zero_lt_succ, decide_true, decide_false, Nat.reduceBEq, Nat.reduceSub, Int.reduceToNat, Bool.not_not, exists_eq', ← List.map_take, ← List.map_drop, encAttr, encStrs] <;> rfl) (scal rfl) ?_
  simp -implicitDefEqProofs only [go_sem, Nat.reduceEqDiff, Nat.reduceLT, Nat.reduceLeDiff, Nat.reduceMul, Nat.reduceAdd, reduceIte, reduceCtorEq, Nat.le_refl, Nat.not_lt_zero, Nat.zero_le, Nat.zero_lt_succ, decide_true, decide_false, Nat.reduceBEq, Nat.reduceSub, Int.reduceToNat, Bool.not_not, exists_eq', ← List.map_take, ← List.map_drop, encAttr, encStrs]
  refine condC_splitN (fun h1 => ?_) (fun h1 => ?_) <;> simp -implicitDefEqProofs only [go_sem, Nat.reduceEqDiff, Nat.reduceLT, Nat.reduceLeDiff, Nat.reduceMul, Nat.reduceAdd, reduceIte, reduceCtorEq, Nat.le_refl, Nat.not_lt_zero, Nat.zero_le, Nat.zero_lt_succ, decide_true, decide_false, Nat.reduceBEq, Nat.reduceSub, Int.reduceToNat, Bool.not_not, exists_eq', ← List.map_take, ← List.map_drop, encAttr, encStrs]
  · refine call_go (contains_attr (fun y => decide (y.name = x.name)) before (by omega) _ [] [.eptr (encAttr x) 0] (fun y _ => attribute1_ok x y)) (by simp -implicitDefEqProofs only [go_sem, Nat.reduceEqDiff, Nat.reduceLT, Nat.reduceLeDiff, Nat.reduceMul, Nat.reduceAdd, reduceIte, reduceCtorEq, Nat.le_refl, Nat.not_lt_zero, Nat.zero_le, Nat.zero_lt_succ, decide_true, decide_false, Nat.reduceBEq, Nat.reduceSub, Int.reduceToNat, Bool.not_not, exists_eq', ← List.map_take, ← List.map_drop, encAttr, encStrs] <;> rfl) (scal rfl) ?_
    simp -implicitDefEqProofs only [go_sem, Nat.reduceEqDiff, Nat.reduceLT, Nat.reduceLeDiff, Nat.reduceMul, Nat.reduceAdd, reduceIte, reduceCtorEq, Nat.le_refl, Nat.not_lt_zero, Nat.zero_le, Nat.zero_lt_succ, decide_true, decide_false, Nat.reduceBEq, Nat.reduceSub, Int.reduceToNat, Bool.not_not, exists_eq', ← List.map_take, ← List.map_drop, encAttr, encStrs]
    refine condC_split (fun h2 => ?_) (fun h2 => ?_) <;> simp -implicitDefEqProofs only [go_sem, Nat.reduceEqDiff, Nat.reduceLT, Nat.reduceLeDiff, Nat.reduceMul, Nat.reduceAdd, reduceIte, reduceCtorEq, Nat.le_refl, Nat.not_lt_zero, Nat.zero_le, Nat.zero_lt_succ, decide_true, decide_false, Nat.reduceBEq, Nat.reduceSub, Int.reduceToNat, Bool.not_not, exists_eq', ← List.map_take, ← List.map_drop, encAttr, encStrs]
    · unfold attrX; rw [if_neg (by rw [h1]; decide), if_pos h2]
    · have e : attrX before x = attrE x := by unfold attrX; rw [if_neg (by rw [h1]; decide), if_neg (by rw [h2]; decide)]
      rw [e]
      refine call_go (names_ok x.names hx.names hx.word) (by simp -implicitDefEqProofs only [go_sem, Nat.reduceEqDiff, Nat.reduceLT, Nat.reduceLeDiff, Nat.reduceMul, Nat.reduceAdd, reduceIte, reduceCtorEq, Nat.le_refl, Nat.not_lt_zero, Nat.zero_le, Nat.zero_lt_succ, decide_true, decide_false, Nat.reduceBEq, Nat.reduceSub, Int.reduceToNat, Bool.not_not, exists_eq', ← List.map_take, ← List.map_drop, encAttr, encStrs] <;> rfl) (scal rfl) ?_
      simp -implicitDefEqProofs only [go_sem, Nat.reduceEqDiff, Nat.reduceLT, Nat.reduceLeDiff, Nat.reduceMul, Nat.reduceAdd, reduceIte, reduceCtorEq, Nat.le_refl, Nat.not_lt_zero, Nat.zero_le, Nat.zero_lt_succ, decide_true, decide_false, Nat.reduceBEq, Nat.reduceSub, Int.reduceToNat, Bool.not_not, exists_eq', ← List.map_take, ← List.map_drop, encAttr, encStrs]
      refine condC_splitN (fun h3 => ?_) (fun h3 => ?_) <;> simp -implicitDefEqProofs only [go_sem, Nat.reduceEqDiff, Nat.reduceLT, Nat.reduceLeDiff, Nat.reduceMul, Nat.reduceAdd, reduceIte, reduceCtorEq, Nat.le_refl, Nat.not_lt_zero, Nat.zero_le, Nat.zero_lt_succ, decide_true, decide_false, Nat.reduceBEq, Nat.reduceSub, Int.reduceToNat, Bool.not_not, exists_eq', ← List.map_take, ← List.map_drop, encAttr, encStrs]
      · have h3' := of_decide_eq_true h3
        have e2 : attrE x = if rangeB x = true then 0 else 6 := by unfold attrE; rw [if_neg (by rw [h3']; decide)]
        rw [e2]
        have hw : IntKind.i64.wrap ((x.names.length : Int) - 1) = (x.names.length : Int) - 1 := IntWalk.i64_in _ (by omega)
        repeat' first | done | (refine walkG_splitN (fun h => ?_) (fun h => ?_) <;> try simp -implicitDefEqProofs only [go_sem, Nat.reduceEqDiff, Nat.reduceLT, Nat.reduceLeDiff, Nat.reduceMul, Nat.reduceAdd, reduceIte, reduceCtorEq, Nat.le_refl, Nat.not_lt_zero, Nat.zero_le, Nat.zero_lt_succ, decide_true, decide_false, Nat.reduceBEq, Nat.reduceSub, Int.reduceToNat, Bool.not_not, exists_eq', ← List.map_take, ← List.map_drop, h, hw, encAttr, encStrs]) | (refine walkG_split (fun h => ?_) (fun h => ?_) <;> try simp -implicitDefEqProofs only [go_sem, Nat.reduceEqDiff, Nat.reduceLT, Nat.reduceLeDiff, Nat.reduceMul, Nat.reduceAdd, reduceIte, reduceCtorEq, Nat.le_refl, Nat.not_lt_zero, Nat.zero_le, Nat.zero_lt_succ, decide_true, decide_false, Nat.reduceBEq, Nat.reduceSub, Int.reduceToNat, Bool.not_not, exists_eq', ← List.map_take, ← List.map_drop, h, hw, encAttr, encStrs]) | (refine condC_splitN (fun h => ?_) (fun h => ?_) <;> try simp -implicitDefEqProofs only [go_sem, Nat.reduceEqDiff, Nat.reduceLT, Nat.reduceLeDiff, Nat.reduceMul, Nat.reduceAdd, reduceIte, reduceCtorEq, Nat.le_refl, Nat.not_lt_zero, Nat.zero_le, Nat.zero_lt_succ, decide_true, decide_false, Nat.reduceBEq, Nat.reduceSub, Int.reduceToNat, Bool.not_not, exists_eq', ← List.map_take, ← List.map_drop, h, hw, encAttr, encStrs]) | (refine condC_split (fun h => ?_) (fun h => ?_) <;> try simp -implicitDefEqProofs only [go_sem, Nat.reduceEqDiff, Nat.reduceLT, Nat.reduceLeDiff, Nat.reduceMul, Nat.reduceAdd, reduceIte, reduceCtorEq, Nat.le_refl, Nat.not_lt_zero, Nat.zero_le, Nat.zero_lt_succ, decide_true, decide_false, Nat.reduceBEq, Nat.reduceSub, Int.reduceToNat, Bool.not_not, exists_eq', ← List.map_take, ← List.map_drop, h, hw, encAttr, encStrs])
        all_goals
          simp only [Bool.not_eq_true', Bool.not_eq_false', decide_eq_true_eq, decide_eq_false_iff_not, Decidable.not_not] at *
          split <;> rename_i hr <;> rw [rangeB_iff] at hr <;> omega
      · have h3' := of_decide_eq_false h3
        unfold attrE; rw [if_pos h3']
  · unfold attrX; rw [if_pos h1]
theorem FewT.fewA {t : Types} (hf : FewT t) {a : Nat} (ha : a < t.nodes.length) (hp : ParOk t (a + 1)) {x : Attr} (hx : x ∈ attrsAt t a) : FewA x := by
  obtain ⟨n, hn, h⟩ := attrsK_mem hf _ a ha hp x hx
  exact ⟨hf.aname n hn x h, hf.names n hn x h, hf.word n hn x h⟩

def nodeE (t : Types) (i : Nat) : Int :=
  if nameB (t.nodes.getD i default).name = false then 2
  else if (t.nodes.take i).any (fun y => decide (y.name = (t.nodes.getD i default).name)) = true then 5
  else if ¬ (-1 ≤ (t.nodes.getD i default).parent ∧ (t.nodes.getD i default).parent < i) then 6
  else if 4 < (t.nodes.getD i default).attrs.length then 3
  else if 8 < (attrsAt t i).length then 3
  else firstE (fun k => attrX ((attrsAt t i).take k) ((attrsAt t i).getD k default)) ((attrsAt t i).length - (t.nodes.getD i default).attrs.length) (attrsAt t i).length

theorem nodeE_par {t : Types} {i : Nat} (h : nodeE t i = 0) : -1 ≤ (t.nodes.getD i default).parent ∧ (t.nodes.getD i default).parent < i := by
  unfold nodeE at h
  split at h
  · cases h
  · split at h
    · cases h
    · split at h
      · cases h
      · rename_i h1; exact Decidable.of_not_not h1

theorem node_ok (t : Types) (hf : FewT t) (i : Nat) (hi : i < t.nodes.length) (hp : ParOk t i) : CallV Go.Proofs.Tryz.prog 94 [encTypes t, .val (.int .i64 i)] (fun r => r = .val (.int .i64 (nodeE t i))) := by
  have hn := hf.nodes
  have hl1 := hf.attrs _ (getD_mem hi)
  refine callV_of_cw [] Ty.mixed Go.Proofs.Tryz.func94 rfl (by kernel_rfl) (by simp [Go.Proofs.Tryz.ntmps94]) ?_; rw [Go.Proofs.Tryz.ntmps94, Go.Proofs.Tryz.results94]
  
  simp -implicitDefEqProofs only [go_sem, Nat.reduceEqDiff, Nat.reduceLT, Nat.reduceLeDiff, Nat.reduceMul, Nat.reduceAdd, reduceIte, reduceCtorEq, Nat.le_refl, Nat.not_lt_zero, Nat.zero_le, Nat.zero_lt_succ, decide_true, decide_false, Nat.reduceBEq, Nat.reduceSub, Int.reduceToNat, Bool.not_not, exists_eq', ← List.map_take, ← List.map_drop, encTypes, getD_map encNode hi, hi, encNode]
  refine call_go (isName_ok (t.nodes.getD i default).name (Nat.le_trans (hf.name _ (getD_mem hi)) (by decide))) (by simp -implicitDefEqProofs only [go_sem, Nat.reduceEqDiff, Nat.reduceLT, Nat.reduceLeDiff, Nat.reduceMul, Nat.reduceAdd, reduceIte, reduceCtorEq, Nat.le_refl, Nat.not_lt_zero, Nat.zero_le, Nat.zero_lt_succ, decide_true, decide_false, Nat.reduceBEq, Nat.reduceSub, Int.reduceToNat, Bool.not_not, exists_eq', ← List.map_take, ← List.map_drop, encTypes, getD_map encNode hi, hi, encNode] <;> rfl) (scal rfl) ?_
  simp -implicitDefEqProofs only [go_sem, Nat.reduceEqDiff, Nat.reduceLT, Nat.reduceLeDiff, Nat.reduceMul, Nat.reduceAdd, reduceIte, reduceCtorEq, Nat.le_refl, Nat.not_lt_zero, Nat.zero_le, Nat.zero_lt_succ, decide_true, decide_false, Nat.reduceBEq, Nat.reduceSub, Int.reduceToNat, Bool.not_not, exists_eq', ← List.map_take, ← List.map_drop, encTypes, getD_map encNode hi, hi, encNode]
  refine condC_splitN (fun h1 => ?_) (fun h1 => ?_) <;> simp -implicitDefEqProofs only [go_sem, Nat.reduceEqDiff, Nat.reduceLT, Nat.reduceLeDiff, Nat.reduceMul, Nat.reduceAdd, reduceIte, reduceCtorEq, Nat.le_refl, Nat.not_lt_zero, Nat.zero_le, Nat.zero_lt_succ, decide_true, decide_false, Nat.reduceBEq, Nat.reduceSub, Int.reduceToNat, Bool.not_not, exists_eq', ← List.map_take, ← List.map_drop, encTypes, getD_map encNode hi, hi, encNode]
  · refine ⟨⟨⟨by omega, by omega⟩, fun x hx => by obtain ⟨a, _, rfl⟩ := List.mem_map.1 hx; rfl⟩, ?_⟩
    refine call_go (contains_node (fun y => decide (y.name = (t.nodes.getD i default).name)) (t.nodes.take i) (by simp; omega) _ [] [.eptr (encNode (t.nodes.getD i default)) 0] (fun y _ => node1_ok _ y)) (by simp -implicitDefEqProofs only [go_sem, Nat.reduceEqDiff, Nat.reduceLT, Nat.reduceLeDiff, Nat.reduceMul, Nat.reduceAdd, reduceIte, reduceCtorEq, Nat.le_refl, Nat.not_lt_zero, Nat.zero_le, Nat.zero_lt_succ, decide_true, decide_false, Nat.reduceBEq, Nat.reduceSub, Int.reduceToNat, Bool.not_not, exists_eq', ← List.map_take, ← List.map_drop, encTypes, getD_map encNode hi, hi, encNode] <;> rfl) (scal rfl) ?_
    simp -implicitDefEqProofs only [go_sem, Nat.reduceEqDiff, Nat.reduceLT, Nat.reduceLeDiff, Nat.reduceMul, Nat.reduceAdd, reduceIte, reduceCtorEq, Nat.le_refl, Nat.not_lt_zero, Nat.zero_le, Nat.zero_lt_succ, decide_true, decide_false, Nat.reduceBEq, Nat.reduceSub, Int.reduceToNat, Bool.not_not, exists_eq', ← List.map_take, ← List.map_drop, encTypes, getD_map encNode hi, hi, encNode]
    refine condC_split (fun h2 => ?_) (fun h2 => ?_) <;> simp -implicitDefEqProofs only [go_sem, Nat.reduceEqDiff, Nat.reduceLT, Nat.reduceLeDiff, Nat.reduceMul, Nat.reduceAdd, reduceIte, reduceCtorEq, Nat.le_refl, Nat.not_lt_zero, Nat.zero_le, Nat.zero_lt_succ, decide_true, decide_false, Nat.reduceBEq, Nat.reduceSub, Int.reduceToNat, Bool.not_not, exists_eq', ← List.map_take, ← List.map_drop, encTypes, getD_map encNode hi, hi, encNode]
    · unfold nodeE; rw [if_neg (by rw [h1]; decide), if_pos h2]
    · have e1 : nodeE t i = if ¬ (-1 ≤ (t.nodes.getD i default).parent ∧ (t.nodes.getD i default).parent < i) then 6
          else if 4 < (t.nodes.getD i default).attrs.length then 3 else if 8 < (attrsAt t i).length then 3
          else firstE (fun k => attrX ((attrsAt t i).take k) ((attrsAt t i).getD k default)) ((attrsAt t i).length - (t.nodes.getD i default).attrs.length) (attrsAt t i).length := by
        unfold nodeE; rw [if_neg (by rw [h1]; decide), if_neg (by rw [h2]; decide)]
      rw [e1]
      clear e1
      refine walkG_splitN (fun h3 => ?_) (fun h3 => ?_) <;> simp -implicitDefEqProofs only [go_sem, Nat.reduceEqDiff, Nat.reduceLT, Nat.reduceLeDiff, Nat.reduceMul, Nat.reduceAdd, reduceIte, reduceCtorEq, Nat.le_refl, Nat.not_lt_zero, Nat.zero_le, Nat.zero_lt_succ, decide_true, decide_false, Nat.reduceBEq, Nat.reduceSub, Int.reduceToNat, Bool.not_not, exists_eq', ← List.map_take, ← List.map_drop, h3, encTypes, getD_map encNode hi, hi, encNode]
      · have h3' := of_decide_eq_true h3
        rw [if_pos (by omega)]
      · have h3' := of_decide_eq_false h3
        refine condC_split (fun h4 => ?_) (fun h4 => ?_) <;> simp -implicitDefEqProofs only [go_sem, Nat.reduceEqDiff, Nat.reduceLT, Nat.reduceLeDiff, Nat.reduceMul, Nat.reduceAdd, reduceIte, reduceCtorEq, Nat.le_refl, Nat.not_lt_zero, Nat.zero_le, Nat.zero_lt_succ, decide_true, decide_false, Nat.reduceBEq, Nat.reduceSub, Int.reduceToNat, Bool.not_not, exists_eq', ← List.map_take, ← List.map_drop, encTypes, getD_map encNode hi, hi, encNode]
        · have h4' := of_decide_eq_true h4
          rw [if_pos (by omega)]
        · have h4' := of_decide_eq_false h4
          rw [if_neg (by omega)]
          refine condC_split (fun h5 => ?_) (fun h5 => ?_) <;> simp -implicitDefEqProofs only [go_sem, Nat.reduceEqDiff, Nat.reduceLT, Nat.reduceLeDiff, Nat.reduceMul, Nat.reduceAdd, reduceIte, reduceCtorEq, Nat.le_refl, Nat.not_lt_zero, Nat.zero_le, Nat.zero_lt_succ, decide_true, decide_false, Nat.reduceBEq, Nat.reduceSub, Int.reduceToNat, Bool.not_not, exists_eq', ← List.map_take, ← List.map_drop, encTypes, getD_map encNode hi, hi, encNode]
          · have h5' := of_decide_eq_true h5
            rw [if_pos (by omega)]
          · have h5' := of_decide_eq_false h5
            rw [if_neg (by omega)]
            have hp' : ParOk t (i + 1) := fun j hj => by
              rcases Nat.lt_succ_iff_lt_or_eq.1 hj with h | h
              · exact hp j h
              · subst h; omega
            have hlen := attrsAt_len hf hi hp'
            have hat : (t.nodes.getD i default).attrs.length ≤ (attrsAt t i).length := by
              rw [attrsAt_eq hp', List.length_append]; omega
            generalize hs : (attrsAt t i).length - (t.nodes.getD i default).attrs.length = s
            have hw : IntKind.i64.wrap (((attrsAt t i).length : Int) - ((t.nodes.getD i default).attrs.length : Int)) = s := by rw [IntWalk.i64_in _ (by omega)]; omega
            refine call_go ((attrs_ok t hf i hi hp').toL) (by simp -implicitDefEqProofs only [go_sem, Nat.reduceEqDiff, Nat.reduceLT, Nat.reduceLeDiff, Nat.reduceMul, Nat.reduceAdd, reduceIte, reduceCtorEq, Nat.le_refl, Nat.not_lt_zero, Nat.zero_le, Nat.zero_lt_succ, decide_true, decide_false, Nat.reduceBEq, Nat.reduceSub, Int.reduceToNat, Bool.not_not, exists_eq', ← List.map_take, ← List.map_drop, encTypes, getD_map encNode hi, hi, encNode] <;> rfl) (pers) ?_
            simp -implicitDefEqProofs only [go_sem, Nat.reduceEqDiff, Nat.reduceLT, Nat.reduceLeDiff, Nat.reduceMul, Nat.reduceAdd, reduceIte, reduceCtorEq, Nat.le_refl, Nat.not_lt_zero, Nat.zero_le, Nat.zero_lt_succ, decide_true, decide_false, Nat.reduceBEq, Nat.reduceSub, Int.reduceToNat, Bool.not_not, exists_eq', ← List.map_take, ← List.map_drop, encTypes, getD_map encNode hi, hi, encNode]
            refine condC_split (fun h6 => ?_) (fun h6 => ?_) <;> simp -implicitDefEqProofs only [go_sem, Nat.reduceEqDiff, Nat.reduceLT, Nat.reduceLeDiff, Nat.reduceMul, Nat.reduceAdd, reduceIte, reduceCtorEq, Nat.le_refl, Nat.not_lt_zero, Nat.zero_le, Nat.zero_lt_succ, decide_true, decide_false, Nat.reduceBEq, Nat.reduceSub, Int.reduceToNat, Bool.not_not, exists_eq', ← List.map_take, ← List.map_drop, encTypes, getD_map encNode hi, hi, encNode]
            · have h6' := of_decide_eq_true h6
              rw [if_pos (by omega)]
            · have h6' := of_decide_eq_false h6
              rw [if_neg (by omega), hw]
              generalize hf' : (fun k => attrX ((attrsAt t i).take k) ((attrsAt t i).getD k default)) = f
              refine loop_rule (σ := Nat) (fun x => (upd (upd (upd (upd (upd env0 1 (.p (.val (.int .i64 i)))) 2 (.ptr 2 0)) 5 (.ptr 5 0)) 6 (.p (.lst ((attrsAt t i).map encAttr)))) 7 (.p (.val (.int .i64 x)))))
                (fun x => (hset (hset heap0 2 (.box [.p (.lst (t.nodes.map encNode)), .p (.lst (t.edges.map encEdgeT))])) 5 (.box [.p (.val (.string (t.nodes.getD i default).name)), .p (.val (.int .i64 (t.nodes.getD i default).parent)), .p (.val (.bool (t.nodes.getD i default).abs)), .p (.lst ((t.nodes.getD i default).attrs.map encAttr))])))
                (fun x => (s ≤ x ∧ x ≤ (attrsAt t i).length) ∧ ∀ j, s ≤ j → j < x → f j = 0) (fun x => (attrsAt t i).length - x) s ⟨⟨Nat.le_refl _, by omega⟩, fun j hj hj' => absurd hj' (by omega)⟩ (weak_mk (by repeat (first | exact sub_env0 _ | refine sub_upd ?_ (by first | rfl | simp [upd]))) (by repeat (first | exact hsub0 _ | refine hsub_hset ?_ (by first | rfl | simp [hset]))) (by repeat (first | exact ids_env0 _ | refine ids_upd ?_ (by simp [idsOk, idsOkL, hset]))) (by repeat (first | exact boxIds0 _ | refine boxIds_row ?_ | refine boxIds_shut ?_ | refine boxIds_box ?_ (by simp [idsOk, idsOkL, hset]))) (by repeat (first | exact keep0 _ | refine keep_low (by decide) ?_ | refine keep_high (by simp [hset]) ?_))) ?_
              rintro x ⟨⟨hsx, hx⟩, hq⟩
              simp -implicitDefEqProofs only [go_sem, Nat.reduceEqDiff, Nat.reduceLT, Nat.reduceLeDiff, Nat.reduceMul, Nat.reduceAdd, reduceIte, reduceCtorEq, Nat.le_refl, Nat.not_lt_zero, Nat.zero_le, Nat.zero_lt_succ, decide_true, decide_false, Nat.reduceBEq, Nat.reduceSub, Int.reduceToNat, Bool.not_not, exists_eq', ← List.map_take, ← List.map_drop, encTypes, getD_map encNode hi, hi, encNode]
              refine condC_split (fun hc => ?_) (fun hc => ?_)
              · have hlt : x < (attrsAt t i).length := by have := of_decide_eq_true hc; omega
                
                simp -implicitDefEqProofs only [go_sem, Nat.reduceEqDiff, Nat.reduceLT, Nat.reduceLeDiff, Nat.reduceMul, Nat.reduceAdd, reduceIte, reduceCtorEq, Nat.le_refl, Nat.not_lt_zero, Nat.zero_le, Nat.zero_lt_succ, decide_true, decide_false, Nat.reduceBEq, Nat.reduceSub, Int.reduceToNat, Bool.not_not, exists_eq', ← List.map_take, ← List.map_drop, encTypes, getD_map encNode hi, hi, encNode, getD_map encAttr hlt, hlt, encAttr]
                refine draw_txt [.q, .q, .q, .q, .q, .q, .q, .q, .q] (by kernel_rfl) ?_
                simp -implicitDefEqProofs only [go_sem, Nat.reduceEqDiff, Nat.reduceLT, Nat.reduceLeDiff, Nat.reduceMul, Nat.reduceAdd, reduceIte, reduceCtorEq, Nat.le_refl, Nat.not_lt_zero, Nat.zero_le, Nat.zero_lt_succ, decide_true, decide_false, Nat.reduceBEq, Nat.reduceSub, Int.reduceToNat, Bool.not_not, exists_eq', ← List.map_take, ← List.map_drop, encTypes, getD_map encNode hi, hi, encNode, getD_map encAttr hlt, hlt, encAttr]
                refine ⟨⟨⟨by omega, by omega⟩, enc_len4 _⟩, ?_⟩
                refine calld_go (attribute_ok ((attrsAt t i).getD x default) ((attrsAt t i).take x) (hf.fewA hi hp' (getD_mem hlt)) (by simp; omega)) (by simp -implicitDefEqProofs only [go_sem, Nat.reduceEqDiff, Nat.reduceLT, Nat.reduceLeDiff, Nat.reduceMul, Nat.reduceAdd, reduceIte, reduceCtorEq, Nat.le_refl, Nat.not_lt_zero, Nat.zero_le, Nat.zero_lt_succ, decide_true, decide_false, Nat.reduceBEq, Nat.reduceSub, Int.reduceToNat, Bool.not_not, exists_eq', ← List.map_take, ← List.map_drop, encTypes, getD_map encNode hi, hi, encNode, getD_map encAttr hlt, hlt, encAttr] <;> rfl) (scal rfl) ?_
                simp -implicitDefEqProofs only [go_sem, Nat.reduceEqDiff, Nat.reduceLT, Nat.reduceLeDiff, Nat.reduceMul, Nat.reduceAdd, reduceIte, reduceCtorEq, Nat.le_refl, Nat.not_lt_zero, Nat.zero_le, Nat.zero_lt_succ, decide_true, decide_false, Nat.reduceBEq, Nat.reduceSub, Int.reduceToNat, Bool.not_not, exists_eq', ← List.map_take, ← List.map_drop, encTypes, getD_map encNode hi, hi, encNode, getD_map encAttr hlt, hlt, encAttr]
                have e : f x = attrX ((attrsAt t i).take x) ((attrsAt t i).getD x default) := by rw [← hf']
                rw [← e]
                refine condC_splitN (fun h7 => ?_) (fun h7 => ?_) <;> simp -implicitDefEqProofs only [go_sem, Nat.reduceEqDiff, Nat.reduceLT, Nat.reduceLeDiff, Nat.reduceMul, Nat.reduceAdd, reduceIte, reduceCtorEq, Nat.le_refl, Nat.not_lt_zero, Nat.zero_le, Nat.zero_lt_succ, decide_true, decide_false, Nat.reduceBEq, Nat.reduceSub, Int.reduceToNat, Bool.not_not, exists_eq', ← List.map_take, ← List.map_drop, encTypes, getD_map encNode hi, hi, encNode, getD_map encAttr hlt, hlt, encAttr]
                · have h7' := of_decide_eq_true h7
                  exact loopN_mk (x + 1) ⟨⟨by omega, hlt⟩, fun j hj hj' => by
                    rcases Nat.lt_succ_iff_lt_or_eq.1 hj' with h | h
                    · exact hq j hj h
                    · rw [h]; exact h7'⟩ (by omega) (by rw [wrap_succ hlt (by omega)]; exact (weak_mk (by repeat (first | exact sub_env0 _ | refine sub_upd ?_ (by first | rfl | simp [upd]))) (by repeat (first | exact hsub0 _ | refine hsub_hset ?_ (by first | rfl | simp [hset]))) (by repeat (first | exact ids_env0 _ | refine ids_upd ?_ (by simp [idsOk, idsOkL, hset]))) (by repeat (first | exact boxIds0 _ | refine boxIds_row ?_ | refine boxIds_shut ?_ | refine boxIds_box ?_ (by simp [idsOk, idsOkL, hset]))) (by repeat (first | exact keep0 _ | refine keep_low (by decide) ?_ | refine keep_high (by simp [hset]) ?_))))
                · have h7' := of_decide_eq_false h7
                  rw [firstE_at hsx hlt hq h7']
              · have hge : (attrsAt t i).length ≤ x := by have := of_decide_eq_false hc; omega
                simp -implicitDefEqProofs only [go_sem, Nat.reduceEqDiff, Nat.reduceLT, Nat.reduceLeDiff, Nat.reduceMul, Nat.reduceAdd, reduceIte, reduceCtorEq, Nat.le_refl, Nat.not_lt_zero, Nat.zero_le, Nat.zero_lt_succ, decide_true, decide_false, Nat.reduceBEq, Nat.reduceSub, Int.reduceToNat, Bool.not_not, exists_eq', ← List.map_take, ← List.map_drop, encTypes, getD_map encNode hi, hi, encNode]
                rw [firstE_none fun j hj hj' => hq j hj (by omega)]
  · unfold nodeE; rw [if_pos h1]
end Go.Proofs.YtdlohnchnneaeaaGreat
/- Package types: errors of edges, and of type graphs. -/
namespace Go.Proofs.YtdlohnchnneaeaaGreat
open Go.Abs

def inB (t : Types) (n : Int) : Bool := decide (0 ≤ n) && decide (n < t.nodes.length)
theorem inside_ok (t : Types) (n : Int) : CallV Go.Proofs.Tryz.prog 123 [.val (.int .i64 n), .eptr [.lst (t.nodes.map encNode), .lst (t.edges.map encEdgeT)] 0] (fun r => r = .val (.bool (inB t n))) := by
  unfold inB
  refine callV_of_cw [] Ty.mixed Go.Proofs.Tryz.func123 rfl (by kernel_rfl) (by simp [Go.Proofs.Tryz.ntmps123]) ?_; rw [Go.Proofs.Tryz.ntmps123, Go.Proofs.Tryz.results123]
  simp -implicitDefEqProofs only [go_sem, Nat.reduceEqDiff, Nat.reduceLT, Nat.reduceLeDiff, Nat.reduceMul, Nat.reduceAdd, reduceIte, reduceCtorEq, Nat.le_refl, Nat.not_lt_zero, Nat.zero_le, Nat.zero_lt_succ, decide_true, decide_false, Nat.reduceBEq, Nat.reduceSub, Int.reduceToNat, Bool.not_not, exists_eq', ← List.map_take, ← List.map_drop]
  repeat' first | done | (refine walkG_splitN (fun h => ?_) (fun h => ?_) <;> try simp -implicitDefEqProofs only [go_sem, Nat.reduceEqDiff, Nat.reduceLT, Nat.reduceLeDiff, Nat.reduceMul, Nat.reduceAdd, reduceIte, reduceCtorEq, Nat.le_refl, Nat.not_lt_zero, Nat.zero_le, Nat.zero_lt_succ, decide_true, decide_false, Nat.reduceBEq, Nat.reduceSub, Int.reduceToNat, Bool.not_not, exists_eq', ← List.map_take, ← List.map_drop, h]) | (refine walkG_split (fun h => ?_) (fun h => ?_) <;> try simp -implicitDefEqProofs only [go_sem, Nat.reduceEqDiff, Nat.reduceLT, Nat.reduceLeDiff, Nat.reduceMul, Nat.reduceAdd, reduceIte, reduceCtorEq, Nat.le_refl, Nat.not_lt_zero, Nat.zero_le, Nat.zero_lt_succ, decide_true, decide_false, Nat.reduceBEq, Nat.reduceSub, Int.reduceToNat, Bool.not_not, exists_eq', ← List.map_take, ← List.map_drop, h]) | (refine condC_splitN (fun h => ?_) (fun h => ?_) <;> try simp -implicitDefEqProofs only [go_sem, Nat.reduceEqDiff, Nat.reduceLT, Nat.reduceLeDiff, Nat.reduceMul, Nat.reduceAdd, reduceIte, reduceCtorEq, Nat.le_refl, Nat.not_lt_zero, Nat.zero_le, Nat.zero_lt_succ, decide_true, decide_false, Nat.reduceBEq, Nat.reduceSub, Int.reduceToNat, Bool.not_not, exists_eq', ← List.map_take, ← List.map_drop, h]) | (refine condC_split (fun h => ?_) (fun h => ?_) <;> try simp -implicitDefEqProofs only [go_sem, Nat.reduceEqDiff, Nat.reduceLT, Nat.reduceLeDiff, Nat.reduceMul, Nat.reduceAdd, reduceIte, reduceCtorEq, Nat.le_refl, Nat.not_lt_zero, Nat.zero_le, Nat.zero_lt_succ, decide_true, decide_false, Nat.reduceBEq, Nat.reduceSub, Int.reduceToNat, Bool.not_not, exists_eq', ← List.map_take, ← List.map_drop, h])

def edgeE (t : Types) (i : Nat) : Int :=
  if nameB (t.edges.getD i default).name = false then 2
  else if (t.edges.take i).any (fun y => decide (y.name = (t.edges.getD i default).name)) = true then 5
  else if ((inB t (t.edges.getD i default).src && inB t (t.edges.getD i default).dst) && (boundB (t.edges.getD i default).outLow (t.edges.getD i default).outHigh && boundB (t.edges.getD i default).inLow (t.edges.getD i default).inHigh)) = true then 0 else 6

theorem edge_ok (t : Types) (hf : FewT t) (i : Nat) (hi : i < t.edges.length) : CallV Go.Proofs.Tryz.prog 95 [encTypes t, .val (.int .i64 i)] (fun r => r = .val (.int .i64 (edgeE t i))) := by
  have hn := hf.edges
  refine callV_of_cw [] Ty.mixed Go.Proofs.Tryz.func95 rfl (by kernel_rfl) (by simp [Go.Proofs.Tryz.ntmps95]) ?_; rw [Go.Proofs.Tryz.ntmps95, Go.Proofs.Tryz.results95]
  
  simp -implicitDefEqProofs only [go_sem, Nat.reduceEqDiff, Nat.reduceLT, Nat.reduceLeDiff, Nat.reduceMul, Nat.reduceAdd, reduceIte, reduceCtorEq, Nat.le_refl, Nat.not_lt_zero, Nat.zero_le, Nat.zero_lt_succ, decide_true, decide_false, Nat.reduceBEq, Nat.reduceSub, Int.reduceToNat, Bool.not_not, exists_eq', ← List.map_take, ← List.map_drop, encTypes, getD_map encEdgeT hi, hi, encEdgeT]
  refine call_go (isName_ok (t.edges.getD i default).name (Nat.le_trans (hf.ename _ (getD_mem hi)) (by decide))) (by simp -implicitDefEqProofs only [go_sem, Nat.reduceEqDiff, Nat.reduceLT, Nat.reduceLeDiff, Nat.reduceMul, Nat.reduceAdd, reduceIte, reduceCtorEq, Nat.le_refl, Nat.not_lt_zero, Nat.zero_le, Nat.zero_lt_succ, decide_true, decide_false, Nat.reduceBEq, Nat.reduceSub, Int.reduceToNat, Bool.not_not, exists_eq', ← List.map_take, ← List.map_drop, encTypes, getD_map encEdgeT hi, hi, encEdgeT] <;> rfl) (scal rfl) ?_
  simp -implicitDefEqProofs only [go_sem, Nat.reduceEqDiff, Nat.reduceLT, Nat.reduceLeDiff, Nat.reduceMul, Nat.reduceAdd, reduceIte, reduceCtorEq, Nat.le_refl, Nat.not_lt_zero, Nat.zero_le, Nat.zero_lt_succ, decide_true, decide_false, Nat.reduceBEq, Nat.reduceSub, Int.reduceToNat, Bool.not_not, exists_eq', ← List.map_take, ← List.map_drop, encTypes, getD_map encEdgeT hi, hi, encEdgeT]
  refine condC_splitN (fun h1 => ?_) (fun h1 => ?_) <;> simp -implicitDefEqProofs only [go_sem, Nat.reduceEqDiff, Nat.reduceLT, Nat.reduceLeDiff, Nat.reduceMul, Nat.reduceAdd, reduceIte, reduceCtorEq, Nat.le_refl, Nat.not_lt_zero, Nat.zero_le, Nat.zero_lt_succ, decide_true, decide_false, Nat.reduceBEq, Nat.reduceSub, Int.reduceToNat, Bool.not_not, exists_eq', ← List.map_take, ← List.map_drop, encTypes, getD_map encEdgeT hi, hi, encEdgeT]
  · refine ⟨⟨⟨by omega, by omega⟩, fun x hx => by obtain ⟨a, _, rfl⟩ := List.mem_map.1 hx; rfl⟩, ?_⟩
    refine call_go (contains_edget (fun y => decide (y.name = (t.edges.getD i default).name)) (t.edges.take i) (by simp; omega) _ [] [.eptr (encEdgeT (t.edges.getD i default)) 0] (fun y _ => edge2_ok _ y)) (by simp -implicitDefEqProofs only [go_sem, Nat.reduceEqDiff, Nat.reduceLT, Nat.reduceLeDiff, Nat.reduceMul, Nat.reduceAdd, reduceIte, reduceCtorEq, Nat.le_refl, Nat.not_lt_zero, Nat.zero_le, Nat.zero_lt_succ, decide_true, decide_false, Nat.reduceBEq, Nat.reduceSub, Int.reduceToNat, Bool.not_not, exists_eq', ← List.map_take, ← List.map_drop, encTypes, getD_map encEdgeT hi, hi, encEdgeT] <;> rfl) (scal rfl) ?_
    simp -implicitDefEqProofs only [go_sem, Nat.reduceEqDiff, Nat.reduceLT, Nat.reduceLeDiff, Nat.reduceMul, Nat.reduceAdd, reduceIte, reduceCtorEq, Nat.le_refl, Nat.not_lt_zero, Nat.zero_le, Nat.zero_lt_succ, decide_true, decide_false, Nat.reduceBEq, Nat.reduceSub, Int.reduceToNat, Bool.not_not, exists_eq', ← List.map_take, ← List.map_drop, encTypes, getD_map encEdgeT hi, hi, encEdgeT]
    refine condC_split (fun h2 => ?_) (fun h2 => ?_) <;> simp -implicitDefEqProofs only [go_sem, Nat.reduceEqDiff, Nat.reduceLT, Nat.reduceLeDiff, Nat.reduceMul, Nat.reduceAdd, reduceIte, reduceCtorEq, Nat.le_refl, Nat.not_lt_zero, Nat.zero_le, Nat.zero_lt_succ, decide_true, decide_false, Nat.reduceBEq, Nat.reduceSub, Int.reduceToNat, Bool.not_not, exists_eq', ← List.map_take, ← List.map_drop, encTypes, getD_map encEdgeT hi, hi, encEdgeT]
    · unfold edgeE; rw [if_neg (by rw [h1]; decide), if_pos h2]
    · have e1 : edgeE t i = if ((inB t (t.edges.getD i default).src && inB t (t.edges.getD i default).dst) && (boundB (t.edges.getD i default).outLow (t.edges.getD i default).outHigh && boundB (t.edges.getD i default).inLow (t.edges.getD i default).inHigh)) = true then 0 else 6 := by
        unfold edgeE; rw [if_neg (by rw [h1]; decide), if_neg (by rw [h2]; decide)]
      rw [e1]
      clear e1
      refine call_go (inside_ok t (t.edges.getD i default).src) (by simp -implicitDefEqProofs only [go_sem, Nat.reduceEqDiff, Nat.reduceLT, Nat.reduceLeDiff, Nat.reduceMul, Nat.reduceAdd, reduceIte, reduceCtorEq, Nat.le_refl, Nat.not_lt_zero, Nat.zero_le, Nat.zero_lt_succ, decide_true, decide_false, Nat.reduceBEq, Nat.reduceSub, Int.reduceToNat, Bool.not_not, exists_eq', ← List.map_take, ← List.map_drop, encTypes, getD_map encEdgeT hi, hi, encEdgeT] <;> rfl) (scal rfl) ?_
      simp -implicitDefEqProofs only [go_sem, Nat.reduceEqDiff, Nat.reduceLT, Nat.reduceLeDiff, Nat.reduceMul, Nat.reduceAdd, reduceIte, reduceCtorEq, Nat.le_refl, Nat.not_lt_zero, Nat.zero_le, Nat.zero_lt_succ, decide_true, decide_false, Nat.reduceBEq, Nat.reduceSub, Int.reduceToNat, Bool.not_not, exists_eq', ← List.map_take, ← List.map_drop, encTypes, getD_map encEdgeT hi, hi, encEdgeT]
      refine walkG_split (fun h3 => ?_) (fun h3 => ?_) <;> simp -implicitDefEqProofs only [go_sem, Nat.reduceEqDiff, Nat.reduceLT, Nat.reduceLeDiff, Nat.reduceMul, Nat.reduceAdd, reduceIte, reduceCtorEq, Nat.le_refl, Nat.not_lt_zero, Nat.zero_le, Nat.zero_lt_succ, decide_true, decide_false, Nat.reduceBEq, Nat.reduceSub, Int.reduceToNat, Bool.not_not, exists_eq', ← List.map_take, ← List.map_drop, h3, encTypes, getD_map encEdgeT hi, hi, encEdgeT]
      refine call_go (inside_ok t (t.edges.getD i default).dst) (by simp -implicitDefEqProofs only [go_sem, Nat.reduceEqDiff, Nat.reduceLT, Nat.reduceLeDiff, Nat.reduceMul, Nat.reduceAdd, reduceIte, reduceCtorEq, Nat.le_refl, Nat.not_lt_zero, Nat.zero_le, Nat.zero_lt_succ, decide_true, decide_false, Nat.reduceBEq, Nat.reduceSub, Int.reduceToNat, Bool.not_not, exists_eq', ← List.map_take, ← List.map_drop, encTypes, getD_map encEdgeT hi, hi, encEdgeT] <;> rfl) (scal rfl) ?_
      simp -implicitDefEqProofs only [go_sem, Nat.reduceEqDiff, Nat.reduceLT, Nat.reduceLeDiff, Nat.reduceMul, Nat.reduceAdd, reduceIte, reduceCtorEq, Nat.le_refl, Nat.not_lt_zero, Nat.zero_le, Nat.zero_lt_succ, decide_true, decide_false, Nat.reduceBEq, Nat.reduceSub, Int.reduceToNat, Bool.not_not, exists_eq', ← List.map_take, ← List.map_drop, h3, encTypes, getD_map encEdgeT hi, hi, encEdgeT]
      refine condC_splitN (fun h4 => ?_) (fun h4 => ?_) <;> simp -implicitDefEqProofs only [go_sem, Nat.reduceEqDiff, Nat.reduceLT, Nat.reduceLeDiff, Nat.reduceMul, Nat.reduceAdd, reduceIte, reduceCtorEq, Nat.le_refl, Nat.not_lt_zero, Nat.zero_le, Nat.zero_lt_succ, decide_true, decide_false, Nat.reduceBEq, Nat.reduceSub, Int.reduceToNat, Bool.not_not, exists_eq', ← List.map_take, ← List.map_drop, h4, encTypes, getD_map encEdgeT hi, hi, encEdgeT]
      refine call_go (bounded_ok (t.edges.getD i default).outLow (t.edges.getD i default).outHigh) (by simp -implicitDefEqProofs only [go_sem, Nat.reduceEqDiff, Nat.reduceLT, Nat.reduceLeDiff, Nat.reduceMul, Nat.reduceAdd, reduceIte, reduceCtorEq, Nat.le_refl, Nat.not_lt_zero, Nat.zero_le, Nat.zero_lt_succ, decide_true, decide_false, Nat.reduceBEq, Nat.reduceSub, Int.reduceToNat, Bool.not_not, exists_eq', ← List.map_take, ← List.map_drop, encTypes, getD_map encEdgeT hi, hi, encEdgeT] <;> rfl) (scal rfl) ?_
      simp -implicitDefEqProofs only [go_sem, Nat.reduceEqDiff, Nat.reduceLT, Nat.reduceLeDiff, Nat.reduceMul, Nat.reduceAdd, reduceIte, reduceCtorEq, Nat.le_refl, Nat.not_lt_zero, Nat.zero_le, Nat.zero_lt_succ, decide_true, decide_false, Nat.reduceBEq, Nat.reduceSub, Int.reduceToNat, Bool.not_not, exists_eq', ← List.map_take, ← List.map_drop, encTypes, getD_map encEdgeT hi, hi, encEdgeT]
      refine walkG_split (fun h5 => ?_) (fun h5 => ?_) <;> simp -implicitDefEqProofs only [go_sem, Nat.reduceEqDiff, Nat.reduceLT, Nat.reduceLeDiff, Nat.reduceMul, Nat.reduceAdd, reduceIte, reduceCtorEq, Nat.le_refl, Nat.not_lt_zero, Nat.zero_le, Nat.zero_lt_succ, decide_true, decide_false, Nat.reduceBEq, Nat.reduceSub, Int.reduceToNat, Bool.not_not, exists_eq', ← List.map_take, ← List.map_drop, h5, encTypes, getD_map encEdgeT hi, hi, encEdgeT]
      refine call_go (bounded_ok (t.edges.getD i default).inLow (t.edges.getD i default).inHigh) (by simp -implicitDefEqProofs only [go_sem, Nat.reduceEqDiff, Nat.reduceLT, Nat.reduceLeDiff, Nat.reduceMul, Nat.reduceAdd, reduceIte, reduceCtorEq, Nat.le_refl, Nat.not_lt_zero, Nat.zero_le, Nat.zero_lt_succ, decide_true, decide_false, Nat.reduceBEq, Nat.reduceSub, Int.reduceToNat, Bool.not_not, exists_eq', ← List.map_take, ← List.map_drop, encTypes, getD_map encEdgeT hi, hi, encEdgeT] <;> rfl) (scal rfl) ?_
      simp -implicitDefEqProofs only [go_sem, Nat.reduceEqDiff, Nat.reduceLT, Nat.reduceLeDiff, Nat.reduceMul, Nat.reduceAdd, reduceIte, reduceCtorEq, Nat.le_refl, Nat.not_lt_zero, Nat.zero_le, Nat.zero_lt_succ, decide_true, decide_false, Nat.reduceBEq, Nat.reduceSub, Int.reduceToNat, Bool.not_not, exists_eq', ← List.map_take, ← List.map_drop, encTypes, getD_map encEdgeT hi, hi, encEdgeT]
      refine condC_splitN (fun h6 => ?_) (fun h6 => ?_) <;> simp -implicitDefEqProofs only [go_sem, Nat.reduceEqDiff, Nat.reduceLT, Nat.reduceLeDiff, Nat.reduceMul, Nat.reduceAdd, reduceIte, reduceCtorEq, Nat.le_refl, Nat.not_lt_zero, Nat.zero_le, Nat.zero_lt_succ, decide_true, decide_false, Nat.reduceBEq, Nat.reduceSub, Int.reduceToNat, Bool.not_not, exists_eq', ← List.map_take, ← List.map_drop, h6, encTypes, getD_map encEdgeT hi, hi, encEdgeT]
  · unfold edgeE; rw [if_pos h1]

/-- The name that the error of a type graph is about, and the error. -/
def validT (t : Types) : ByteArray × Int :=
  if t.nodes.length = 0 then (⟨#[]⟩, 7)
  else if 12 < t.nodes.length ∨ 20 < t.edges.length then (⟨#[]⟩, 3)
  else match firstI (nodeE t) 0 t.nodes.length with
    | some k => ((t.nodes.getD k default).name, nodeE t k)
    | none => match firstI (edgeE t) 0 t.edges.length with
      | some k => ((t.edges.getD k default).name, edgeE t k)
      | none => (⟨#[]⟩, 0)

theorem parOk_of {t : Types} {n : Nat} (h : ∀ j, j < n → nodeE t j = 0) : ParOk t n := fun j hj => nodeE_par (h j hj)

theorem valid_ok (t : Types) (hf : FewT t) : CallV Go.Proofs.Tryz.prog 64 [encTypes t] (fun r => r = .tup [.val (.string (validT t).1), .val (.int .i64 (validT t).2)]) := by
  have hn := hf.nodes
  have hm := hf.edges
  refine callV_of_cw [] Ty.mixed Go.Proofs.Tryz.func64 rfl (by kernel_rfl) (by simp [Go.Proofs.Tryz.ntmps64]) ?_; rw [Go.Proofs.Tryz.ntmps64, Go.Proofs.Tryz.results64]
  
  simp -implicitDefEqProofs only [go_sem, Nat.reduceEqDiff, Nat.reduceLT, Nat.reduceLeDiff, Nat.reduceMul, Nat.reduceAdd, reduceIte, reduceCtorEq, Nat.le_refl, Nat.not_lt_zero, Nat.zero_le, Nat.zero_lt_succ, decide_true, decide_false, Nat.reduceBEq, Nat.reduceSub, Int.reduceToNat, Bool.not_not, exists_eq', ← List.map_take, ← List.map_drop, encTypes]
  refine condC_split (fun h1 => ?_) (fun h1 => ?_) <;> simp -implicitDefEqProofs only [go_sem, Nat.reduceEqDiff, Nat.reduceLT, Nat.reduceLeDiff, Nat.reduceMul, Nat.reduceAdd, reduceIte, reduceCtorEq, Nat.le_refl, Nat.not_lt_zero, Nat.zero_le, Nat.zero_lt_succ, decide_true, decide_false, Nat.reduceBEq, Nat.reduceSub, Int.reduceToNat, Bool.not_not, exists_eq', ← List.map_take, ← List.map_drop, encTypes]
  · have h1' := of_decide_eq_true h1
    unfold validT; rw [if_pos (by omega)]
    exact ⟨rfl, rfl⟩
  · have h1' := of_decide_eq_false h1
    have hN : t.nodes.length ≠ 0 := by omega
    have big : 12 < t.nodes.length ∨ 20 < t.edges.length → validT t = (⟨#[]⟩, 3) := fun h => by unfold validT; rw [if_neg hN, if_pos h]
    refine walkG_splitN (fun h2 => ?_) (fun h2 => ?_) <;> simp -implicitDefEqProofs only [go_sem, Nat.reduceEqDiff, Nat.reduceLT, Nat.reduceLeDiff, Nat.reduceMul, Nat.reduceAdd, reduceIte, reduceCtorEq, Nat.le_refl, Nat.not_lt_zero, Nat.zero_le, Nat.zero_lt_succ, decide_true, decide_false, Nat.reduceBEq, Nat.reduceSub, Int.reduceToNat, Bool.not_not, exists_eq', ← List.map_take, ← List.map_drop, h2, encTypes]
    · have h2' := of_decide_eq_true h2
      rw [big (by omega)]
      exact ⟨rfl, rfl⟩
    · have h2' := of_decide_eq_false h2
      refine condC_split (fun h3 => ?_) (fun h3 => ?_) <;> simp -implicitDefEqProofs only [go_sem, Nat.reduceEqDiff, Nat.reduceLT, Nat.reduceLeDiff, Nat.reduceMul, Nat.reduceAdd, reduceIte, reduceCtorEq, Nat.le_refl, Nat.not_lt_zero, Nat.zero_le, Nat.zero_lt_succ, decide_true, decide_false, Nat.reduceBEq, Nat.reduceSub, Int.reduceToNat, Bool.not_not, exists_eq', ← List.map_take, ← List.map_drop, encTypes]
      · have h3' := of_decide_eq_true h3
        rw [big (by omega)]
        exact ⟨rfl, rfl⟩
      · have h3' := of_decide_eq_false h3
        have hV : validT t = match firstI (nodeE t) 0 t.nodes.length with
            | some k => ((t.nodes.getD k default).name, nodeE t k)
            | none => match firstI (edgeE t) 0 t.edges.length with
              | some k => ((t.edges.getD k default).name, edgeE t k)
              | none => (⟨#[]⟩, 0) := by unfold validT; rw [if_neg hN, if_neg (by omega)]
        clear big
        refine loop_rule (σ := Nat) (fun x => (upd (upd (upd (upd env0 1 (.ptr 1 0)) 27 (.p (.lst (t.nodes.map encNode)))) 28 (.p (.val (.int .i64 t.nodes.length)))) 29 (.p (.val (.int .i64 x)))))
          (fun x => (hset heap0 1 (.box [.p (.lst (t.nodes.map encNode)), .p (.lst (t.edges.map encEdgeT))])))
          (fun x => x ≤ t.nodes.length ∧ ∀ j, j < x → nodeE t j = 0) (fun x => t.nodes.length - x) 0 ⟨Nat.zero_le _, fun j hj => absurd hj (Nat.not_lt_zero j)⟩ (weak_mk (by repeat (first | exact sub_env0 _ | refine sub_upd ?_ (by first | rfl | simp [upd]))) (by repeat (first | exact hsub0 _ | refine hsub_hset ?_ (by first | rfl | simp [hset]))) (by repeat (first | exact ids_env0 _ | refine ids_upd ?_ (by simp [idsOk, idsOkL, hset]))) (by repeat (first | exact boxIds0 _ | refine boxIds_row ?_ | refine boxIds_shut ?_ | refine boxIds_box ?_ (by simp [idsOk, idsOkL, hset]))) (by repeat (first | exact keep0 _ | refine keep_low (by decide) ?_ | refine keep_high (by simp [hset]) ?_))) ?_
        rintro x ⟨hx, hq⟩
        simp -implicitDefEqProofs only [go_sem, Nat.reduceEqDiff, Nat.reduceLT, Nat.reduceLeDiff, Nat.reduceMul, Nat.reduceAdd, reduceIte, reduceCtorEq, Nat.le_refl, Nat.not_lt_zero, Nat.zero_le, Nat.zero_lt_succ, decide_true, decide_false, Nat.reduceBEq, Nat.reduceSub, Int.reduceToNat, Bool.not_not, exists_eq', ← List.map_take, ← List.map_drop, encTypes]
        refine condC_split (fun hc => ?_) (fun hc => ?_)
        · have hlt : x < t.nodes.length := by simpa using hc
          
          simp -implicitDefEqProofs only [go_sem, Nat.reduceEqDiff, Nat.reduceLT, Nat.reduceLeDiff, Nat.reduceMul, Nat.reduceAdd, reduceIte, reduceCtorEq, Nat.le_refl, Nat.not_lt_zero, Nat.zero_le, Nat.zero_lt_succ, decide_true, decide_false, Nat.reduceBEq, Nat.reduceSub, Int.reduceToNat, Bool.not_not, exists_eq', ← List.map_take, ← List.map_drop, encTypes, getD_map encNode hlt, hlt, encNode]
          refine call_go (node_ok t hf x hlt (parOk_of hq)) (by simp -implicitDefEqProofs only [go_sem, Nat.reduceEqDiff, Nat.reduceLT, Nat.reduceLeDiff, Nat.reduceMul, Nat.reduceAdd, reduceIte, reduceCtorEq, Nat.le_refl, Nat.not_lt_zero, Nat.zero_le, Nat.zero_lt_succ, decide_true, decide_false, Nat.reduceBEq, Nat.reduceSub, Int.reduceToNat, Bool.not_not, exists_eq', ← List.map_take, ← List.map_drop, encTypes, getD_map encNode hlt, hlt, encNode] <;> rfl) (scal rfl) ?_
          simp -implicitDefEqProofs only [go_sem, Nat.reduceEqDiff, Nat.reduceLT, Nat.reduceLeDiff, Nat.reduceMul, Nat.reduceAdd, reduceIte, reduceCtorEq, Nat.le_refl, Nat.not_lt_zero, Nat.zero_le, Nat.zero_lt_succ, decide_true, decide_false, Nat.reduceBEq, Nat.reduceSub, Int.reduceToNat, Bool.not_not, exists_eq', ← List.map_take, ← List.map_drop, encTypes, getD_map encNode hlt, hlt, encNode]
          refine condC_splitN (fun h4 => ?_) (fun h4 => ?_) <;> simp -implicitDefEqProofs only [go_sem, Nat.reduceEqDiff, Nat.reduceLT, Nat.reduceLeDiff, Nat.reduceMul, Nat.reduceAdd, reduceIte, reduceCtorEq, Nat.le_refl, Nat.not_lt_zero, Nat.zero_le, Nat.zero_lt_succ, decide_true, decide_false, Nat.reduceBEq, Nat.reduceSub, Int.reduceToNat, Bool.not_not, exists_eq', ← List.map_take, ← List.map_drop, encTypes, getD_map encNode hlt, hlt, encNode]
          · have h4' := of_decide_eq_true h4
            exact loopN_mk (x + 1) ⟨hlt, all_succ hq h4'⟩ (by omega) (by rw [wrap_succ hlt (by omega)]; exact (weak_mk (by repeat (first | exact sub_env0 _ | refine sub_upd ?_ (by first | rfl | simp [upd]))) (by repeat (first | exact hsub0 _ | refine hsub_hset ?_ (by first | rfl | simp [hset]))) (by repeat (first | exact ids_env0 _ | refine ids_upd ?_ (by simp [idsOk, idsOkL, hset]))) (by repeat (first | exact boxIds0 _ | refine boxIds_row ?_ | refine boxIds_shut ?_ | refine boxIds_box ?_ (by simp [idsOk, idsOkL, hset]))) (by repeat (first | exact keep0 _ | refine keep_low (by decide) ?_ | refine keep_high (by simp [hset]) ?_))))
          · have h4' := of_decide_eq_false h4
            rw [hV, firstI_at (Nat.zero_le _) hlt (fun j _ => hq j) h4']
            exact ⟨rfl, rfl⟩
        · have hge : t.nodes.length ≤ x := by simpa using hc
          have hN0 : firstI (nodeE t) 0 t.nodes.length = none := firstI_none fun j _ hj => hq j (by omega)
          rw [hN0] at hV
          simp only [] at hV
          simp -implicitDefEqProofs only [go_sem, Nat.reduceEqDiff, Nat.reduceLT, Nat.reduceLeDiff, Nat.reduceMul, Nat.reduceAdd, reduceIte, reduceCtorEq, Nat.le_refl, Nat.not_lt_zero, Nat.zero_le, Nat.zero_lt_succ, decide_true, decide_false, Nat.reduceBEq, Nat.reduceSub, Int.reduceToNat, Bool.not_not, exists_eq', ← List.map_take, ← List.map_drop, encTypes]
          refine loop_rule (σ := Nat) (fun x => (upd (upd (upd (upd env0 1 (.ptr 1 0)) 44 (.p (.lst (t.edges.map encEdgeT)))) 45 (.p (.val (.int .i64 t.edges.length)))) 46 (.p (.val (.int .i64 x)))))
            (fun x => (hset heap0 1 (.box [.p (.lst (t.nodes.map encNode)), .p (.lst (t.edges.map encEdgeT))])))
            (fun x => x ≤ t.edges.length ∧ ∀ j, j < x → edgeE t j = 0) (fun x => t.edges.length - x) 0 ⟨Nat.zero_le _, fun j hj => absurd hj (Nat.not_lt_zero j)⟩ (weak_mk (by repeat (first | exact sub_env0 _ | refine sub_upd ?_ (by first | rfl | simp [upd]))) (by repeat (first | exact hsub0 _ | refine hsub_hset ?_ (by first | rfl | simp [hset]))) (by repeat (first | exact ids_env0 _ | refine ids_upd ?_ (by simp [idsOk, idsOkL, hset]))) (by repeat (first | exact boxIds0 _ | refine boxIds_row ?_ | refine boxIds_shut ?_ | refine boxIds_box ?_ (by simp [idsOk, idsOkL, hset]))) (by repeat (first | exact keep0 _ | refine keep_low (by decide) ?_ | refine keep_high (by simp [hset]) ?_))) ?_
          rintro y ⟨hy, hq'⟩
          simp -implicitDefEqProofs only [go_sem, Nat.reduceEqDiff, Nat.reduceLT, Nat.reduceLeDiff, Nat.reduceMul, Nat.reduceAdd, reduceIte, reduceCtorEq, Nat.le_refl, Nat.not_lt_zero, Nat.zero_le, Nat.zero_lt_succ, decide_true, decide_false, Nat.reduceBEq, Nat.reduceSub, Int.reduceToNat, Bool.not_not, exists_eq', ← List.map_take, ← List.map_drop, encTypes]
          refine condC_split (fun hc' => ?_) (fun hc' => ?_)
          · have hlt : y < t.edges.length := by simpa using hc'
            
            simp -implicitDefEqProofs only [go_sem, Nat.reduceEqDiff, Nat.reduceLT, Nat.reduceLeDiff, Nat.reduceMul, Nat.reduceAdd, reduceIte, reduceCtorEq, Nat.le_refl, Nat.not_lt_zero, Nat.zero_le, Nat.zero_lt_succ, decide_true, decide_false, Nat.reduceBEq, Nat.reduceSub, Int.reduceToNat, Bool.not_not, exists_eq', ← List.map_take, ← List.map_drop, encTypes, getD_map encEdgeT hlt, hlt, encEdgeT]
            refine call_go (edge_ok t hf y hlt) (by simp -implicitDefEqProofs only [go_sem, Nat.reduceEqDiff, Nat.reduceLT, Nat.reduceLeDiff, Nat.reduceMul, Nat.reduceAdd, reduceIte, reduceCtorEq, Nat.le_refl, Nat.not_lt_zero, Nat.zero_le, Nat.zero_lt_succ, decide_true, decide_false, Nat.reduceBEq, Nat.reduceSub, Int.reduceToNat, Bool.not_not, exists_eq', ← List.map_take, ← List.map_drop, encTypes, getD_map encEdgeT hlt, hlt, encEdgeT] <;> rfl) (scal rfl) ?_
            simp -implicitDefEqProofs only [go_sem, Nat.reduceEqDiff, Nat.reduceLT, Nat.reduceLeDiff, Nat.reduceMul, Nat.reduceAdd, reduceIte, reduceCtorEq, Nat.le_refl, Nat.not_lt_zero, Nat.zero_le, Nat.zero_lt_succ, decide_true, decide_false, Nat.reduceBEq, Nat.reduceSub, Int.reduceToNat, Bool.not_not, exists_eq', ← List.map_take, ← List.map_drop, encTypes, getD_map encEdgeT hlt, hlt, encEdgeT]
            refine condC_splitN (fun h4 => ?_) (fun h4 => ?_) <;> simp -implicitDefEqProofs only [go_sem, Nat.reduceEqDiff, Nat.reduceLT, Nat.reduceLeDiff, Nat.reduceMul, Nat.reduceAdd, reduceIte, reduceCtorEq, Nat.le_refl, Nat.not_lt_zero, Nat.zero_le, Nat.zero_lt_succ, decide_true, decide_false, Nat.reduceBEq, Nat.reduceSub, Int.reduceToNat, Bool.not_not, exists_eq', ← List.map_take, ← List.map_drop, encTypes, getD_map encEdgeT hlt, hlt, encEdgeT]
            · have h4' := of_decide_eq_true h4
              exact loopN_mk (y + 1) ⟨hlt, all_succ hq' h4'⟩ (by omega) (by rw [wrap_succ hlt (by omega)]; exact (weak_mk (by repeat (first | exact sub_env0 _ | refine sub_upd ?_ (by first | rfl | simp [upd]))) (by repeat (first | exact hsub0 _ | refine hsub_hset ?_ (by first | rfl | simp [hset]))) (by repeat (first | exact ids_env0 _ | refine ids_upd ?_ (by simp [idsOk, idsOkL, hset]))) (by repeat (first | exact boxIds0 _ | refine boxIds_row ?_ | refine boxIds_shut ?_ | refine boxIds_box ?_ (by simp [idsOk, idsOkL, hset]))) (by repeat (first | exact keep0 _ | refine keep_low (by decide) ?_ | refine keep_high (by simp [hset]) ?_))))
            · have h4' := of_decide_eq_false h4
              rw [hV, firstI_at (Nat.zero_le _) hlt (fun j _ => hq' j) h4']
              exact ⟨rfl, rfl⟩
          · have hge : t.edges.length ≤ y := by simpa using hc'
            simp -implicitDefEqProofs only [go_sem, Nat.reduceEqDiff, Nat.reduceLT, Nat.reduceLeDiff, Nat.reduceMul, Nat.reduceAdd, reduceIte, reduceCtorEq, Nat.le_refl, Nat.not_lt_zero, Nat.zero_le, Nat.zero_lt_succ, decide_true, decide_false, Nat.reduceBEq, Nat.reduceSub, Int.reduceToNat, Bool.not_not, exists_eq', ← List.map_take, ← List.map_drop, encTypes]
            rw [hV, firstI_none fun j _ hj => hq' j (by omega)]
            exact ⟨rfl, rfl⟩
end Go.Proofs.YtdlohnchnneaeaaGreat
/- The reference of layer 4: errors. -/
namespace Go.Proofs.YtdlohnchnneaeaaGreat
open Go.Abs

theorem take_any_true {α : Type} [Inhabited α] {p : α → Bool} {l : List α} {x j : Nat} (hj : j < x) (hx : x ≤ l.length) (h : p (l.getD j default) = true) : (l.take x).any p = true := by
  have hjl : j < l.length := by omega
  refine List.any_eq_true.2 ⟨l[j], List.mem_iff_getElem.2 ⟨j, by simp; omega, by simp⟩, ?_⟩
  simpa [hjl] using h
theorem take_any_false {α : Type} [Inhabited α] {p : α → Bool} {l : List α} {x : Nat} (hx : x ≤ l.length) (h : ∀ j, j < x → p (l.getD j default) = false) : (l.take x).any p = false := by
  rw [List.any_eq_false]
  intro a ha
  obtain ⟨j, hj, rfl⟩ := List.mem_iff_getElem.1 ha
  simp only [List.length_take] at hj
  have := h j (by omega)
  have hjl : j < l.length := by omega
  simpa [hjl] using this
theorem dec_comm {α : Type} [DecidableEq α] {a b : α} {c : Bool} (h : decide (a = b) = c) : decide (b = a) = c := by
  rw [← h]; simp [eq_comm]
theorem all_succB {p : Nat → Bool} {x : Nat} (h : ∀ j, j < x → p j = false) (hx : p x = false) : ∀ j, j < x + 1 → p j = false := fun j hj => by
  rcases Nat.lt_succ_iff_lt_or_eq.1 hj with h' | h'
  · exact h j h'
  · rw [h']; exact hx

theorem rnames_ok (l : List ByteArray) (hl : l.length ≤ 25) (hw : ∀ s ∈ l, s.size ≤ 40) : CallV Go.Proofs.Tryz.prog 148 [.lst (l.map encS)] (fun r => r = .val (.int .i64 (namesE l))) := by
  unfold namesE
  refine callV_of_cw [] Ty.mixed Go.Proofs.Tryz.func148 rfl (by kernel_rfl) (by simp [Go.Proofs.Tryz.ntmps148]) ?_; rw [Go.Proofs.Tryz.ntmps148, Go.Proofs.Tryz.results148]
  simp -implicitDefEqProofs only [go_sem, Nat.reduceEqDiff, Nat.reduceLT, Nat.reduceLeDiff, Nat.reduceMul, Nat.reduceAdd, reduceIte, reduceCtorEq, Nat.le_refl, Nat.not_lt_zero, Nat.zero_le, Nat.zero_lt_succ, decide_true, decide_false, Nat.reduceBEq, Nat.reduceSub, Int.reduceToNat, Bool.not_not, exists_eq', ← List.map_take, ← List.map_drop]
  refine condC_split (fun h0 => ?_) (fun h0 => ?_) <;> simp -implicitDefEqProofs only [go_sem, Nat.reduceEqDiff, Nat.reduceLT, Nat.reduceLeDiff, Nat.reduceMul, Nat.reduceAdd, reduceIte, reduceCtorEq, Nat.le_refl, Nat.not_lt_zero, Nat.zero_le, Nat.zero_lt_succ, decide_true, decide_false, Nat.reduceBEq, Nat.reduceSub, Int.reduceToNat, Bool.not_not, exists_eq', ← List.map_take, ← List.map_drop]
  · have h0' : 20 < l.length := by have := of_decide_eq_true h0; omega
    rw [if_pos h0']
  · have h0' : ¬ 20 < l.length := by have := of_decide_eq_false h0; omega
    rw [if_neg h0']
    refine loop_rule (σ := Nat) (fun x => (upd (upd env0 0 (.p (.lst (l.map encS)))) 3 (.p (.val (.int .i64 x))))) (fun x => heap0)
      (fun x => x ≤ l.length ∧ ∀ j, j < x → nameE l j = 0) (fun x => l.length - x) 0 ⟨Nat.zero_le _, fun j hj => absurd hj (Nat.not_lt_zero j)⟩ (weak_mk (by repeat (first | exact sub_env0 _ | refine sub_upd ?_ (by first | rfl | simp [upd]))) (by repeat (first | exact hsub0 _ | refine hsub_hset ?_ (by first | rfl | simp [hset]))) (by repeat (first | exact ids_env0 _ | refine ids_upd ?_ (by simp [idsOk, idsOkL, hset]))) (by repeat (first | exact boxIds0 _ | refine boxIds_row ?_ | refine boxIds_shut ?_ | refine boxIds_box ?_ (by simp [idsOk, idsOkL, hset]))) (by repeat (first | exact keep0 _ | refine keep_low (by decide) ?_ | refine keep_high (by simp [hset]) ?_))) ?_
    rintro x ⟨hx, hq⟩
    simp -implicitDefEqProofs only [go_sem, Nat.reduceEqDiff, Nat.reduceLT, Nat.reduceLeDiff, Nat.reduceMul, Nat.reduceAdd, reduceIte, reduceCtorEq, Nat.le_refl, Nat.not_lt_zero, Nat.zero_le, Nat.zero_lt_succ, decide_true, decide_false, Nat.reduceBEq, Nat.reduceSub, Int.reduceToNat, Bool.not_not, exists_eq', ← List.map_take, ← List.map_drop]
    refine condC_split (fun hc => ?_) (fun hc => ?_)
    · have hlt : x < l.length := by simpa using hc
      
      simp -implicitDefEqProofs only [go_sem, Nat.reduceEqDiff, Nat.reduceLT, Nat.reduceLeDiff, Nat.reduceMul, Nat.reduceAdd, reduceIte, reduceCtorEq, Nat.le_refl, Nat.not_lt_zero, Nat.zero_le, Nat.zero_lt_succ, decide_true, decide_false, Nat.reduceBEq, Nat.reduceSub, Int.reduceToNat, Bool.not_not, exists_eq', ← List.map_take, ← List.map_drop, getD_map encS hlt, hlt, encS]
      refine call_go (rIsName_ok (l.getD x default) (Nat.le_trans (hw _ (getD_mem hlt)) (by decide))) (by simp -implicitDefEqProofs only [go_sem, Nat.reduceEqDiff, Nat.reduceLT, Nat.reduceLeDiff, Nat.reduceMul, Nat.reduceAdd, reduceIte, reduceCtorEq, Nat.le_refl, Nat.not_lt_zero, Nat.zero_le, Nat.zero_lt_succ, decide_true, decide_false, Nat.reduceBEq, Nat.reduceSub, Int.reduceToNat, Bool.not_not, exists_eq', ← List.map_take, ← List.map_drop, getD_map encS hlt, hlt, encS] <;> rfl) (scal rfl) ?_
      simp -implicitDefEqProofs only [go_sem, Nat.reduceEqDiff, Nat.reduceLT, Nat.reduceLeDiff, Nat.reduceMul, Nat.reduceAdd, reduceIte, reduceCtorEq, Nat.le_refl, Nat.not_lt_zero, Nat.zero_le, Nat.zero_lt_succ, decide_true, decide_false, Nat.reduceBEq, Nat.reduceSub, Int.reduceToNat, Bool.not_not, exists_eq', ← List.map_take, ← List.map_drop, getD_map encS hlt, hlt, encS]
      refine condC_splitN (fun h1 => ?_) (fun h1 => ?_) <;> simp -implicitDefEqProofs only [go_sem, Nat.reduceEqDiff, Nat.reduceLT, Nat.reduceLeDiff, Nat.reduceMul, Nat.reduceAdd, reduceIte, reduceCtorEq, Nat.le_refl, Nat.not_lt_zero, Nat.zero_le, Nat.zero_lt_succ, decide_true, decide_false, Nat.reduceBEq, Nat.reduceSub, Int.reduceToNat, Bool.not_not, exists_eq', ← List.map_take, ← List.map_drop, getD_map encS hlt, hlt, encS]
      · refine loop_rule (σ := Nat) (fun y => (upd (upd (upd env0 0 (.p (.lst (l.map encS)))) 3 (.p (.val (.int .i64 x)))) 4 (.p (.val (.int .i64 y))))) (fun _ => heap0)
          (fun y => y ≤ x ∧ ∀ j, j < y → decide (l.getD x default = l.getD j default) = false) (fun y => x - y) 0 ⟨Nat.zero_le _, fun j hj => absurd hj (Nat.not_lt_zero j)⟩ (weak_mk (by repeat (first | exact sub_env0 _ | refine sub_upd ?_ (by first | rfl | simp [upd]))) (by repeat (first | exact hsub0 _ | refine hsub_hset ?_ (by first | rfl | simp [hset]))) (by repeat (first | exact ids_env0 _ | refine ids_upd ?_ (by simp [idsOk, idsOkL, hset]))) (by repeat (first | exact boxIds0 _ | refine boxIds_row ?_ | refine boxIds_shut ?_ | refine boxIds_box ?_ (by simp [idsOk, idsOkL, hset]))) (by repeat (first | exact keep0 _ | refine keep_low (by decide) ?_ | refine keep_high (by simp [hset]) ?_))) ?_
        rintro y ⟨hy, hqy⟩
        simp -implicitDefEqProofs only [go_sem, Nat.reduceEqDiff, Nat.reduceLT, Nat.reduceLeDiff, Nat.reduceMul, Nat.reduceAdd, reduceIte, reduceCtorEq, Nat.le_refl, Nat.not_lt_zero, Nat.zero_le, Nat.zero_lt_succ, decide_true, decide_false, Nat.reduceBEq, Nat.reduceSub, Int.reduceToNat, Bool.not_not, exists_eq', ← List.map_take, ← List.map_drop, getD_map encS hlt, hlt, encS]
        refine condC_split (fun hc' => ?_) (fun hc' => ?_)
        · have hlty : y < x := by simpa using hc'
          have hltl : y < l.length := by omega
          
          simp -implicitDefEqProofs only [go_sem, Nat.reduceEqDiff, Nat.reduceLT, Nat.reduceLeDiff, Nat.reduceMul, Nat.reduceAdd, reduceIte, reduceCtorEq, Nat.le_refl, Nat.not_lt_zero, Nat.zero_le, Nat.zero_lt_succ, decide_true, decide_false, Nat.reduceBEq, Nat.reduceSub, Int.reduceToNat, Bool.not_not, exists_eq', ← List.map_take, ← List.map_drop, getD_map encS hlt, hlt, encS, getD_map encS hltl, hltl]
          refine draw_txt [.q, .q, .q, .q, .q, .q, .q, .q, .q] (by kernel_rfl) ?_
          simp -implicitDefEqProofs only [go_sem, Nat.reduceEqDiff, Nat.reduceLT, Nat.reduceLeDiff, Nat.reduceMul, Nat.reduceAdd, reduceIte, reduceCtorEq, Nat.le_refl, Nat.not_lt_zero, Nat.zero_le, Nat.zero_lt_succ, decide_true, decide_false, Nat.reduceBEq, Nat.reduceSub, Int.reduceToNat, Bool.not_not, exists_eq', ← List.map_take, ← List.map_drop, getD_map encS hlt, hlt, encS, getD_map encS hltl, hltl]
          refine condC_split (fun h2 => ?_) (fun h2 => ?_) <;> simp -implicitDefEqProofs only [go_sem, Nat.reduceEqDiff, Nat.reduceLT, Nat.reduceLeDiff, Nat.reduceMul, Nat.reduceAdd, reduceIte, reduceCtorEq, Nat.le_refl, Nat.not_lt_zero, Nat.zero_le, Nat.zero_lt_succ, decide_true, decide_false, Nat.reduceBEq, Nat.reduceSub, Int.reduceToNat, Bool.not_not, exists_eq', ← List.map_take, ← List.map_drop, getD_map encS hlt, hlt, encS, getD_map encS hltl, hltl]
          · have : nameE l x = 5 := by
              unfold nameE; rw [if_neg (by rw [h1]; decide), if_pos (take_any_true hlty hx (dec_comm h2))]
            rw [firstE_at0 hlt hq (by rw [this]; decide), this]
          · exact loopN_mk (y + 1) ⟨hlty, all_succB hqy (dec_comm h2)⟩ (by omega) (by rw [wrap_succ hlty (by omega)]; exact (weak_mk (by repeat (first | exact sub_env0 _ | refine sub_upd ?_ (by first | rfl | simp [upd]))) (by repeat (first | exact hsub0 _ | refine hsub_hset ?_ (by first | rfl | simp [hset]))) (by repeat (first | exact ids_env0 _ | refine ids_upd ?_ (by simp [idsOk, idsOkL, hset]))) (by repeat (first | exact boxIds0 _ | refine boxIds_row ?_ | refine boxIds_shut ?_ | refine boxIds_box ?_ (by simp [idsOk, idsOkL, hset]))) (by repeat (first | exact keep0 _ | refine keep_low (by decide) ?_ | refine keep_high (by simp [hset]) ?_))))
        · have hge : x ≤ y := by simpa using hc'
          simp -implicitDefEqProofs only [go_sem, Nat.reduceEqDiff, Nat.reduceLT, Nat.reduceLeDiff, Nat.reduceMul, Nat.reduceAdd, reduceIte, reduceCtorEq, Nat.le_refl, Nat.not_lt_zero, Nat.zero_le, Nat.zero_lt_succ, decide_true, decide_false, Nat.reduceBEq, Nat.reduceSub, Int.reduceToNat, Bool.not_not, exists_eq', ← List.map_take, ← List.map_drop, getD_map encS hlt, hlt, encS]
          have : nameE l x = 0 := by
            unfold nameE; rw [if_neg (by rw [h1]; decide), if_neg (by rw [take_any_false (p := fun z => decide (l.getD x default = z)) hx fun j hj => hqy j (by omega)]; decide)]
          exact loopN_mk (x + 1) ⟨hlt, all_succ hq this⟩ (by omega) (by rw [wrap_succ hlt (by omega)]; exact (weak_mk (by repeat (first | exact sub_env0 _ | refine sub_upd ?_ (by first | rfl | simp [upd]))) (by repeat (first | exact hsub0 _ | refine hsub_hset ?_ (by first | rfl | simp [hset]))) (by repeat (first | exact ids_env0 _ | refine ids_upd ?_ (by simp [idsOk, idsOkL, hset]))) (by repeat (first | exact boxIds0 _ | refine boxIds_row ?_ | refine boxIds_shut ?_ | refine boxIds_box ?_ (by simp [idsOk, idsOkL, hset]))) (by repeat (first | exact keep0 _ | refine keep_low (by decide) ?_ | refine keep_high (by simp [hset]) ?_))))
      · have : nameE l x = 2 := by unfold nameE; rw [if_pos h1]
        rw [firstE_at0 hlt hq (by rw [this]; decide), this]
    · have hge : l.length ≤ x := by simpa using hc
      simp -implicitDefEqProofs only [go_sem, Nat.reduceEqDiff, Nat.reduceLT, Nat.reduceLeDiff, Nat.reduceMul, Nat.reduceAdd, reduceIte, reduceCtorEq, Nat.le_refl, Nat.not_lt_zero, Nat.zero_le, Nat.zero_lt_succ, decide_true, decide_false, Nat.reduceBEq, Nat.reduceSub, Int.reduceToNat, Bool.not_not, exists_eq', ← List.map_take, ← List.map_drop]
      rw [firstE_none0 fun j hj => hq j (by omega)]

theorem rattribute_ok (x : Attr) (hx : FewA x) : CallV Go.Proofs.Tryz.prog 128 [.agg (encAttr x)] (fun r => r = .val (.int .i64 (attrE x))) := by
  have hn := hx.names
  refine callV_of_cw [] Ty.mixed Go.Proofs.Tryz.func128 rfl (by kernel_rfl) (by simp [Go.Proofs.Tryz.ntmps128]) ?_; rw [Go.Proofs.Tryz.ntmps128, Go.Proofs.Tryz.results128]
  
  simp -implicitDefEqProofs only [go_sem, Nat.reduceEqDiff, Nat.reduceLT, Nat.reduceLeDiff, Nat.reduceMul, Nat.reduceAdd, reduceIte, reduceCtorEq, Nat.le_refl, Nat.not_lt_zero, Nat.zero_le, Nat.zero_lt_succ, decide_true, decide_false, Nat.reduceBEq, Nat.reduceSub, Int.reduceToNat, Bool.not_not, exists_eq', ← List.map_take, ← List.map_drop, encAttr, encStrs]
  have hw : IntKind.i64.wrap ((x.names.length : Int) - 1) = (x.names.length : Int) - 1 := IntWalk.i64_in _ (by omega)
  have hnil : x.names.length = 0 → namesE x.names = 0 := fun h => by
    have : x.names = [] := List.length_eq_zero_iff.1 h
    rw [this]; try rfl
  refine condC_split (fun h1 => ?_) (fun h1 => ?_) <;> simp -implicitDefEqProofs only [go_sem, Nat.reduceEqDiff, Nat.reduceLT, Nat.reduceLeDiff, Nat.reduceMul, Nat.reduceAdd, reduceIte, reduceCtorEq, Nat.le_refl, Nat.not_lt_zero, Nat.zero_le, Nat.zero_lt_succ, decide_true, decide_false, Nat.reduceBEq, Nat.reduceSub, Int.reduceToNat, Bool.not_not, exists_eq', ← List.map_take, ← List.map_drop, encAttr, encStrs]
  · have h1' := of_decide_eq_true h1
    have e : attrE x = if rangeB x = true then 0 else 6 := by unfold attrE; rw [if_neg (by rw [hnil (by omega)]; decide)]
    rw [e]
    refine call_go (in_ok x.low (-1000000) 1000000) (by simp -implicitDefEqProofs only [go_sem, Nat.reduceEqDiff, Nat.reduceLT, Nat.reduceLeDiff, Nat.reduceMul, Nat.reduceAdd, reduceIte, reduceCtorEq, Nat.le_refl, Nat.not_lt_zero, Nat.zero_le, Nat.zero_lt_succ, decide_true, decide_false, Nat.reduceBEq, Nat.reduceSub, Int.reduceToNat, Bool.not_not, exists_eq', ← List.map_take, ← List.map_drop, encAttr, encStrs] <;> rfl) (scal rfl) ?_
    simp -implicitDefEqProofs only [go_sem, Nat.reduceEqDiff, Nat.reduceLT, Nat.reduceLeDiff, Nat.reduceMul, Nat.reduceAdd, reduceIte, reduceCtorEq, Nat.le_refl, Nat.not_lt_zero, Nat.zero_le, Nat.zero_lt_succ, decide_true, decide_false, Nat.reduceBEq, Nat.reduceSub, Int.reduceToNat, Bool.not_not, exists_eq', ← List.map_take, ← List.map_drop, encAttr, encStrs]
    refine walkG_split (fun h2 => ?_) (fun h2 => ?_) <;> simp -implicitDefEqProofs only [go_sem, Nat.reduceEqDiff, Nat.reduceLT, Nat.reduceLeDiff, Nat.reduceMul, Nat.reduceAdd, reduceIte, reduceCtorEq, Nat.le_refl, Nat.not_lt_zero, Nat.zero_le, Nat.zero_lt_succ, decide_true, decide_false, Nat.reduceBEq, Nat.reduceSub, Int.reduceToNat, Bool.not_not, exists_eq', ← List.map_take, ← List.map_drop, h2, encAttr, encStrs]
    · refine call_go (in_ok x.high x.low 1000000) (by simp -implicitDefEqProofs only [go_sem, Nat.reduceEqDiff, Nat.reduceLT, Nat.reduceLeDiff, Nat.reduceMul, Nat.reduceAdd, reduceIte, reduceCtorEq, Nat.le_refl, Nat.not_lt_zero, Nat.zero_le, Nat.zero_lt_succ, decide_true, decide_false, Nat.reduceBEq, Nat.reduceSub, Int.reduceToNat, Bool.not_not, exists_eq', ← List.map_take, ← List.map_drop, encAttr, encStrs] <;> rfl) (scal rfl) ?_
      simp -implicitDefEqProofs only [go_sem, Nat.reduceEqDiff, Nat.reduceLT, Nat.reduceLeDiff, Nat.reduceMul, Nat.reduceAdd, reduceIte, reduceCtorEq, Nat.le_refl, Nat.not_lt_zero, Nat.zero_le, Nat.zero_lt_succ, decide_true, decide_false, Nat.reduceBEq, Nat.reduceSub, Int.reduceToNat, Bool.not_not, exists_eq', ← List.map_take, ← List.map_drop, encAttr, encStrs]
      refine condC_splitN (fun h3 => ?_) (fun h3 => ?_) <;> simp -implicitDefEqProofs only [go_sem, Nat.reduceEqDiff, Nat.reduceLT, Nat.reduceLeDiff, Nat.reduceMul, Nat.reduceAdd, reduceIte, reduceCtorEq, Nat.le_refl, Nat.not_lt_zero, Nat.zero_le, Nat.zero_lt_succ, decide_true, decide_false, Nat.reduceBEq, Nat.reduceSub, Int.reduceToNat, Bool.not_not, exists_eq', ← List.map_take, ← List.map_drop, encAttr, encStrs]
      all_goals
        simp only [Bool.and_eq_true, Bool.and_eq_false_iff] at *
        simp only [Bool.not_eq_true', Bool.not_eq_false', decide_eq_true_eq, decide_eq_false_iff_not, Decidable.not_not] at *
        split <;> rename_i hr <;> rw [rangeB_iff] at hr <;> omega
    · simp only [Bool.and_eq_true, Bool.and_eq_false_iff] at *
      simp only [Bool.not_eq_true', Bool.not_eq_false', decide_eq_true_eq, decide_eq_false_iff_not, Decidable.not_not] at *
      split <;> rename_i hr <;> rw [rangeB_iff] at hr <;> omega
  · have h1' := of_decide_eq_false h1
    refine call_go (rnames_ok x.names hx.names hx.word) (by simp -implicitDefEqProofs only [go_sem, Nat.reduceEqDiff, Nat.reduceLT, Nat.reduceLeDiff, Nat.reduceMul, Nat.reduceAdd, reduceIte, reduceCtorEq, Nat.le_refl, Nat.not_lt_zero, Nat.zero_le, Nat.zero_lt_succ, decide_true, decide_false, Nat.reduceBEq, Nat.reduceSub, Int.reduceToNat, Bool.not_not, exists_eq', ← List.map_take, ← List.map_drop, encAttr, encStrs] <;> rfl) (scal rfl) ?_
    simp -implicitDefEqProofs only [go_sem, Nat.reduceEqDiff, Nat.reduceLT, Nat.reduceLeDiff, Nat.reduceMul, Nat.reduceAdd, reduceIte, reduceCtorEq, Nat.le_refl, Nat.not_lt_zero, Nat.zero_le, Nat.zero_lt_succ, decide_true, decide_false, Nat.reduceBEq, Nat.reduceSub, Int.reduceToNat, Bool.not_not, exists_eq', ← List.map_take, ← List.map_drop, encAttr, encStrs]
    refine condC_splitN (fun h3 => ?_) (fun h3 => ?_) <;> simp -implicitDefEqProofs only [go_sem, Nat.reduceEqDiff, Nat.reduceLT, Nat.reduceLeDiff, Nat.reduceMul, Nat.reduceAdd, reduceIte, reduceCtorEq, Nat.le_refl, Nat.not_lt_zero, Nat.zero_le, Nat.zero_lt_succ, decide_true, decide_false, Nat.reduceBEq, Nat.reduceSub, Int.reduceToNat, Bool.not_not, exists_eq', ← List.map_take, ← List.map_drop, encAttr, encStrs]
    · have h3' := of_decide_eq_true h3
      have e2 : attrE x = if rangeB x = true then 0 else 6 := by unfold attrE; rw [if_neg (by rw [h3']; decide)]
      rw [e2]
      repeat' first | done | (refine walkG_splitN (fun h => ?_) (fun h => ?_) <;> try simp -implicitDefEqProofs only [go_sem, Nat.reduceEqDiff, Nat.reduceLT, Nat.reduceLeDiff, Nat.reduceMul, Nat.reduceAdd, reduceIte, reduceCtorEq, Nat.le_refl, Nat.not_lt_zero, Nat.zero_le, Nat.zero_lt_succ, decide_true, decide_false, Nat.reduceBEq, Nat.reduceSub, Int.reduceToNat, Bool.not_not, exists_eq', ← List.map_take, ← List.map_drop, h, hw, encAttr, encStrs]) | (refine walkG_split (fun h => ?_) (fun h => ?_) <;> try simp -implicitDefEqProofs only [go_sem, Nat.reduceEqDiff, Nat.reduceLT, Nat.reduceLeDiff, Nat.reduceMul, Nat.reduceAdd, reduceIte, reduceCtorEq, Nat.le_refl, Nat.not_lt_zero, Nat.zero_le, Nat.zero_lt_succ, decide_true, decide_false, Nat.reduceBEq, Nat.reduceSub, Int.reduceToNat, Bool.not_not, exists_eq', ← List.map_take, ← List.map_drop, h, hw, encAttr, encStrs]) | (refine condC_splitN (fun h => ?_) (fun h => ?_) <;> try simp -implicitDefEqProofs only [go_sem, Nat.reduceEqDiff, Nat.reduceLT, Nat.reduceLeDiff, Nat.reduceMul, Nat.reduceAdd, reduceIte, reduceCtorEq, Nat.le_refl, Nat.not_lt_zero, Nat.zero_le, Nat.zero_lt_succ, decide_true, decide_false, Nat.reduceBEq, Nat.reduceSub, Int.reduceToNat, Bool.not_not, exists_eq', ← List.map_take, ← List.map_drop, h, hw, encAttr, encStrs]) | (refine condC_split (fun h => ?_) (fun h => ?_) <;> try simp -implicitDefEqProofs only [go_sem, Nat.reduceEqDiff, Nat.reduceLT, Nat.reduceLeDiff, Nat.reduceMul, Nat.reduceAdd, reduceIte, reduceCtorEq, Nat.le_refl, Nat.not_lt_zero, Nat.zero_le, Nat.zero_lt_succ, decide_true, decide_false, Nat.reduceBEq, Nat.reduceSub, Int.reduceToNat, Bool.not_not, exists_eq', ← List.map_take, ← List.map_drop, h, hw, encAttr, encStrs])
      all_goals
        simp only [Bool.not_eq_true', Bool.not_eq_false', decide_eq_true_eq, decide_eq_false_iff_not, Decidable.not_not] at *
        split <;> rename_i hr <;> rw [rangeB_iff] at hr <;> omega
    · have h3' := of_decide_eq_false h3
      unfold attrE; rw [if_pos h3']
end Go.Proofs.YtdlohnchnneaeaaGreat
/- The reference of layer 4: node types. -/
namespace Go.Proofs.YtdlohnchnneaeaaGreat
open Go.Abs

def attrsI (t : Types) (a : Int) : List Attr := if a < 0 then [] else attrsAt t a.toNat

theorem rattrs_neg (t : Types) (a : Int) (ha : a < 0) : CallF Go.Proofs.Tryz.prog 81 [encTypes t, .val (.int .i64 a)] (fun r => r = .row 107 4 []) := by
  refine callF_of_cw [7] Ty.mixed Go.Proofs.Tryz.func81 rfl (by kernel_rfl) (by simp [Go.Proofs.Tryz.ntmps81]) ?_; rw [Go.Proofs.Tryz.ntmps81, Go.Proofs.Tryz.results81]
  simp -implicitDefEqProofs only [go_sem, Nat.reduceEqDiff, Nat.reduceLT, Nat.reduceLeDiff, Nat.reduceMul, Nat.reduceAdd, reduceIte, reduceCtorEq, Nat.le_refl, Nat.not_lt_zero, Nat.zero_le, Nat.zero_lt_succ, decide_true, decide_false, Nat.reduceBEq, Nat.reduceSub, Int.reduceToNat, Bool.not_not, exists_eq', ← List.map_take, ← List.map_drop, encTypes]
  refine condC_split (fun h0 => ?_) (fun h0 => ?_) <;> simp -implicitDefEqProofs only [go_sem, Nat.reduceEqDiff, Nat.reduceLT, Nat.reduceLeDiff, Nat.reduceMul, Nat.reduceAdd, reduceIte, reduceCtorEq, Nat.le_refl, Nat.not_lt_zero, Nat.zero_le, Nat.zero_lt_succ, decide_true, decide_false, Nat.reduceBEq, Nat.reduceSub, Int.reduceToNat, Bool.not_not, exists_eq', ← List.map_take, ← List.map_drop]
  · exact ⟨by decide, _, .nil _ _ (by decide), rfl⟩
  · have := of_decide_eq_false h0
    omega

theorem rattrs_ok (t : Types) (hf : FewT t) : ∀ (a : Nat), a < t.nodes.length → ParOk t (a + 1) → CallF Go.Proofs.Tryz.prog 81 [encTypes t, .val (.int .i64 a)] (fun r => r = .row 107 4 ((attrsAt t a).map encAttr)) := by
  intro a
  induction a using Nat.strongRecOn with
  | _ a ih =>
    intro ha hp
    have hq := hp a (by omega)
    have h1 := hf.attrs _ (getD_mem ha)
    have hlen := attrsAt_len hf ha hp
    have hrec : CallF Go.Proofs.Tryz.prog 81 [encTypes t, .val (.int .i64 (t.nodes.getD a default).parent)] (fun r => r = .row 107 4 ((attrsI t (t.nodes.getD a default).parent).map encAttr)) := by
      by_cases h0 : (t.nodes.getD a default).parent < 0
      · have := rattrs_neg t _ h0
        unfold attrsI; rw [if_pos h0]; exact this
      · obtain ⟨q, hqq⟩ : ∃ q : Nat, (t.nodes.getD a default).parent = q := ⟨_, (Int.toNat_of_nonneg (by omega)).symm⟩
        unfold attrsI
        rw [if_neg h0, hqq, Int.toNat_natCast]
        have hqa : q < a := by have := hq.2; rw [hqq] at this; omega
        exact ih q hqa (by omega) (fun j hj => hp j (by omega))
    have e : attrsAt t a = attrsI t (t.nodes.getD a default).parent ++ (t.nodes.getD a default).attrs := by
      rw [attrsAt_eq hp]
      unfold attrsI
      by_cases h0 : (t.nodes.getD a default).parent < 0
      · rw [if_pos h0, if_neg (by omega)]
      · rw [if_neg h0, if_pos (by omega)]
    rw [e, List.length_append] at hlen
    rw [e]
    refine callF_of_cw [7] Ty.mixed Go.Proofs.Tryz.func81 rfl (by kernel_rfl) (by simp [Go.Proofs.Tryz.ntmps81]) ?_; rw [Go.Proofs.Tryz.ntmps81, Go.Proofs.Tryz.results81]
    
    simp -implicitDefEqProofs only [go_sem, Nat.reduceEqDiff, Nat.reduceLT, Nat.reduceLeDiff, Nat.reduceMul, Nat.reduceAdd, reduceIte, reduceCtorEq, Nat.le_refl, Nat.not_lt_zero, Nat.zero_le, Nat.zero_lt_succ, decide_true, decide_false, Nat.reduceBEq, Nat.reduceSub, Int.reduceToNat, Bool.not_not, exists_eq', ← List.map_take, ← List.map_drop, encTypes, getD_map encNode ha, ha, encNode]
    refine condC_split (fun h0 => ?_) (fun h0 => ?_) <;> simp -implicitDefEqProofs only [go_sem, Nat.reduceEqDiff, Nat.reduceLT, Nat.reduceLeDiff, Nat.reduceMul, Nat.reduceAdd, reduceIte, reduceCtorEq, Nat.le_refl, Nat.not_lt_zero, Nat.zero_le, Nat.zero_lt_succ, decide_true, decide_false, Nat.reduceBEq, Nat.reduceSub, Int.reduceToNat, Bool.not_not, exists_eq', ← List.map_take, ← List.map_drop, getD_map encNode ha, ha, encNode]
    · have := of_decide_eq_true h0
      omega
    · refine draw_my [(1, .q), (2, .q), (3, .q), (4, .q), (5, .q), (6, .q), (7, .q), (8, .q), (10, .b), (11, .b), (12, .b), (13, .b), (14, .b), (15, .b), (0, .w), (9, .w), (16, .w), (17, .q)] (by kernel_rfl) ?_
      simp -implicitDefEqProofs only [go_sem, Nat.reduceEqDiff, Nat.reduceLT, Nat.reduceLeDiff, Nat.reduceMul, Nat.reduceAdd, reduceIte, reduceCtorEq, Nat.le_refl, Nat.not_lt_zero, Nat.zero_le, Nat.zero_lt_succ, decide_true, decide_false, Nat.reduceBEq, Nat.reduceSub, Int.reduceToNat, Bool.not_not, exists_eq', ← List.map_take, ← List.map_drop, getD_map encNode ha, ha, encNode]
      refine calld_go (hrec.toL) (by simp -implicitDefEqProofs only [go_sem, Nat.reduceEqDiff, Nat.reduceLT, Nat.reduceLeDiff, Nat.reduceMul, Nat.reduceAdd, reduceIte, reduceCtorEq, Nat.le_refl, Nat.not_lt_zero, Nat.zero_le, Nat.zero_lt_succ, decide_true, decide_false, Nat.reduceBEq, Nat.reduceSub, Int.reduceToNat, Bool.not_not, exists_eq', ← List.map_take, ← List.map_drop, getD_map encNode ha, ha, encNode] <;> rfl) (pers) ?_
      simp -implicitDefEqProofs only [go_sem, Nat.reduceEqDiff, Nat.reduceLT, Nat.reduceLeDiff, Nat.reduceMul, Nat.reduceAdd, reduceIte, reduceCtorEq, Nat.le_refl, Nat.not_lt_zero, Nat.zero_le, Nat.zero_lt_succ, decide_true, decide_false, Nat.reduceBEq, Nat.reduceSub, Int.reduceToNat, Bool.not_not, exists_eq', ← List.map_take, ← List.map_drop, getD_map encNode ha, ha, encNode]
      exact ⟨⟨by omega, enc_len4 _⟩, ⟨by omega, enc_len4 _⟩, by decide, _, .refl _, by rw [List.map_append]⟩

theorem rnode_ok (t : Types) (hf : FewT t) (i : Nat) (hi : i < t.nodes.length) (hp : ParOk t i) : CallV Go.Proofs.Tryz.prog 96 [encTypes t, .val (.int .i64 i)] (fun r => r = .val (.int .i64 (nodeE t i))) := by
  have hn := hf.nodes
  have hl1 := hf.attrs _ (getD_mem hi)
  refine callV_of_cw [] Ty.mixed Go.Proofs.Tryz.func96 rfl (by kernel_rfl) (by simp [Go.Proofs.Tryz.ntmps96]) ?_; rw [Go.Proofs.Tryz.ntmps96, Go.Proofs.Tryz.results96]
  
  simp -implicitDefEqProofs only [go_sem, Nat.reduceEqDiff, Nat.reduceLT, Nat.reduceLeDiff, Nat.reduceMul, Nat.reduceAdd, reduceIte, reduceCtorEq, Nat.le_refl, Nat.not_lt_zero, Nat.zero_le, Nat.zero_lt_succ, decide_true, decide_false, Nat.reduceBEq, Nat.reduceSub, Int.reduceToNat, Bool.not_not, exists_eq', ← List.map_take, ← List.map_drop, encTypes, getD_map encNode hi, hi, encNode]
  refine call_go (rIsName_ok (t.nodes.getD i default).name (Nat.le_trans (hf.name _ (getD_mem hi)) (by decide))) (by simp -implicitDefEqProofs only [go_sem, Nat.reduceEqDiff, Nat.reduceLT, Nat.reduceLeDiff, Nat.reduceMul, Nat.reduceAdd, reduceIte, reduceCtorEq, Nat.le_refl, Nat.not_lt_zero, Nat.zero_le, Nat.zero_lt_succ, decide_true, decide_false, Nat.reduceBEq, Nat.reduceSub, Int.reduceToNat, Bool.not_not, exists_eq', ← List.map_take, ← List.map_drop, encTypes, getD_map encNode hi, hi, encNode] <;> rfl) (scal rfl) ?_
  simp -implicitDefEqProofs only [go_sem, Nat.reduceEqDiff, Nat.reduceLT, Nat.reduceLeDiff, Nat.reduceMul, Nat.reduceAdd, reduceIte, reduceCtorEq, Nat.le_refl, Nat.not_lt_zero, Nat.zero_le, Nat.zero_lt_succ, decide_true, decide_false, Nat.reduceBEq, Nat.reduceSub, Int.reduceToNat, Bool.not_not, exists_eq', ← List.map_take, ← List.map_drop, encTypes, getD_map encNode hi, hi, encNode]
  refine condC_splitN (fun h1 => ?_) (fun h1 => ?_) <;> simp -implicitDefEqProofs only [go_sem, Nat.reduceEqDiff, Nat.reduceLT, Nat.reduceLeDiff, Nat.reduceMul, Nat.reduceAdd, reduceIte, reduceCtorEq, Nat.le_refl, Nat.not_lt_zero, Nat.zero_le, Nat.zero_lt_succ, decide_true, decide_false, Nat.reduceBEq, Nat.reduceSub, Int.reduceToNat, Bool.not_not, exists_eq', ← List.map_take, ← List.map_drop, encTypes, getD_map encNode hi, hi, encNode]
  · refine loop_rule (σ := Nat) (fun x => (upd (upd (upd (upd env0 1 (.p (.val (.int .i64 i)))) 2 (.ptr 2 0)) 5 (.ptr 5 0)) 6 (.p (.val (.int .i64 x)))))
      (fun x => (hset (hset heap0 2 (.box [.p (.lst (t.nodes.map encNode)), .p (.lst (t.edges.map encEdgeT))])) 5 (.box [.p (.val (.string (t.nodes.getD i default).name)), .p (.val (.int .i64 (t.nodes.getD i default).parent)), .p (.val (.bool (t.nodes.getD i default).abs)), .p (.lst ((t.nodes.getD i default).attrs.map encAttr))])))
      (fun x => x ≤ i ∧ ∀ j, j < x → decide ((t.nodes.getD j default).name = (t.nodes.getD i default).name) = false) (fun x => i - x) 0 ⟨Nat.zero_le _, fun j hj => absurd hj (Nat.not_lt_zero j)⟩ (weak_mk (by repeat (first | exact sub_env0 _ | refine sub_upd ?_ (by first | rfl | simp [upd]))) (by repeat (first | exact hsub0 _ | refine hsub_hset ?_ (by first | rfl | simp [hset]))) (by repeat (first | exact ids_env0 _ | refine ids_upd ?_ (by simp [idsOk, idsOkL, hset]))) (by repeat (first | exact boxIds0 _ | refine boxIds_row ?_ | refine boxIds_shut ?_ | refine boxIds_box ?_ (by simp [idsOk, idsOkL, hset]))) (by repeat (first | exact keep0 _ | refine keep_low (by decide) ?_ | refine keep_high (by simp [hset]) ?_))) ?_
    rintro x ⟨hx, hqx⟩
    simp -implicitDefEqProofs only [go_sem, Nat.reduceEqDiff, Nat.reduceLT, Nat.reduceLeDiff, Nat.reduceMul, Nat.reduceAdd, reduceIte, reduceCtorEq, Nat.le_refl, Nat.not_lt_zero, Nat.zero_le, Nat.zero_lt_succ, decide_true, decide_false, Nat.reduceBEq, Nat.reduceSub, Int.reduceToNat, Bool.not_not, exists_eq', ← List.map_take, ← List.map_drop, encTypes, getD_map encNode hi, hi, encNode]
    refine condC_split (fun hc => ?_) (fun hc => ?_)
    · have hltx : x < i := by simpa using hc
      have hxl : x < t.nodes.length := by omega
      
      simp -implicitDefEqProofs only [go_sem, Nat.reduceEqDiff, Nat.reduceLT, Nat.reduceLeDiff, Nat.reduceMul, Nat.reduceAdd, reduceIte, reduceCtorEq, Nat.le_refl, Nat.not_lt_zero, Nat.zero_le, Nat.zero_lt_succ, decide_true, decide_false, Nat.reduceBEq, Nat.reduceSub, Int.reduceToNat, Bool.not_not, exists_eq', ← List.map_take, ← List.map_drop, encTypes, getD_map encNode hi, hi, encNode, getD_map encNode hxl, hxl]
      refine draw_txt [.q, .q, .q, .q, .q, .q, .q, .q, .q] (by kernel_rfl) ?_
      simp -implicitDefEqProofs only [go_sem, Nat.reduceEqDiff, Nat.reduceLT, Nat.reduceLeDiff, Nat.reduceMul, Nat.reduceAdd, reduceIte, reduceCtorEq, Nat.le_refl, Nat.not_lt_zero, Nat.zero_le, Nat.zero_lt_succ, decide_true, decide_false, Nat.reduceBEq, Nat.reduceSub, Int.reduceToNat, Bool.not_not, exists_eq', ← List.map_take, ← List.map_drop, encTypes, getD_map encNode hi, hi, encNode, getD_map encNode hxl, hxl]
      refine condC_split (fun h2 => ?_) (fun h2 => ?_) <;> simp -implicitDefEqProofs only [go_sem, Nat.reduceEqDiff, Nat.reduceLT, Nat.reduceLeDiff, Nat.reduceMul, Nat.reduceAdd, reduceIte, reduceCtorEq, Nat.le_refl, Nat.not_lt_zero, Nat.zero_le, Nat.zero_lt_succ, decide_true, decide_false, Nat.reduceBEq, Nat.reduceSub, Int.reduceToNat, Bool.not_not, exists_eq', ← List.map_take, ← List.map_drop, encTypes, getD_map encNode hi, hi, encNode, getD_map encNode hxl, hxl]
      · have : nodeE t i = 5 := by
          unfold nodeE; rw [if_neg (by rw [h1]; decide), if_pos (take_any_true (p := fun y : NodeT => decide (y.name = (t.nodes.getD i default).name)) hltx (by omega) h2)]
        rw [this]
      · exact loopN_mk (x + 1) ⟨hltx, all_succB hqx h2⟩ (by omega) (by rw [wrap_succ hltx (by omega)]; exact (weak_mk (by repeat (first | exact sub_env0 _ | refine sub_upd ?_ (by first | rfl | simp [upd]))) (by repeat (first | exact hsub0 _ | refine hsub_hset ?_ (by first | rfl | simp [hset]))) (by repeat (first | exact ids_env0 _ | refine ids_upd ?_ (by simp [idsOk, idsOkL, hset]))) (by repeat (first | exact boxIds0 _ | refine boxIds_row ?_ | refine boxIds_shut ?_ | refine boxIds_box ?_ (by simp [idsOk, idsOkL, hset]))) (by repeat (first | exact keep0 _ | refine keep_low (by decide) ?_ | refine keep_high (by simp [hset]) ?_))))
    · have hge : i ≤ x := by simpa using hc
      have hany := take_any_false (p := fun y : NodeT => decide (y.name = (t.nodes.getD i default).name)) (Nat.le_of_lt hi) fun j hj => hqx j (by omega)
      have e1 : nodeE t i = if ¬ (-1 ≤ (t.nodes.getD i default).parent ∧ (t.nodes.getD i default).parent < i) then 6
          else if 4 < (t.nodes.getD i default).attrs.length then 3 else if 8 < (attrsAt t i).length then 3
          else firstE (fun k => attrX ((attrsAt t i).take k) ((attrsAt t i).getD k default)) ((attrsAt t i).length - (t.nodes.getD i default).attrs.length) (attrsAt t i).length := by
        unfold nodeE; rw [if_neg (by rw [h1]; decide), if_neg (by rw [hany]; decide)]
      rw [e1]
      clear e1
      have hwi : IntKind.i64.wrap ((i : Int) - 1) = (i : Int) - 1 := IntWalk.i64_in _ (by omega)
      simp -implicitDefEqProofs only [go_sem, Nat.reduceEqDiff, Nat.reduceLT, Nat.reduceLeDiff, Nat.reduceMul, Nat.reduceAdd, reduceIte, reduceCtorEq, Nat.le_refl, Nat.not_lt_zero, Nat.zero_le, Nat.zero_lt_succ, decide_true, decide_false, Nat.reduceBEq, Nat.reduceSub, Int.reduceToNat, Bool.not_not, exists_eq', ← List.map_take, ← List.map_drop, hwi, encTypes, getD_map encNode hi, hi, encNode]
      refine call_go (in_ok (t.nodes.getD i default).parent (-1) (i - 1)) (by simp -implicitDefEqProofs only [go_sem, Nat.reduceEqDiff, Nat.reduceLT, Nat.reduceLeDiff, Nat.reduceMul, Nat.reduceAdd, reduceIte, reduceCtorEq, Nat.le_refl, Nat.not_lt_zero, Nat.zero_le, Nat.zero_lt_succ, decide_true, decide_false, Nat.reduceBEq, Nat.reduceSub, Int.reduceToNat, Bool.not_not, exists_eq', ← List.map_take, ← List.map_drop, encTypes, getD_map encNode hi, hi, encNode] <;> rfl) (scal rfl) ?_
      simp -implicitDefEqProofs only [go_sem, Nat.reduceEqDiff, Nat.reduceLT, Nat.reduceLeDiff, Nat.reduceMul, Nat.reduceAdd, reduceIte, reduceCtorEq, Nat.le_refl, Nat.not_lt_zero, Nat.zero_le, Nat.zero_lt_succ, decide_true, decide_false, Nat.reduceBEq, Nat.reduceSub, Int.reduceToNat, Bool.not_not, exists_eq', ← List.map_take, ← List.map_drop, encTypes, getD_map encNode hi, hi, encNode]
      refine condC_splitN (fun h3 => ?_) (fun h3 => ?_) <;> simp -implicitDefEqProofs only [go_sem, Nat.reduceEqDiff, Nat.reduceLT, Nat.reduceLeDiff, Nat.reduceMul, Nat.reduceAdd, reduceIte, reduceCtorEq, Nat.le_refl, Nat.not_lt_zero, Nat.zero_le, Nat.zero_lt_succ, decide_true, decide_false, Nat.reduceBEq, Nat.reduceSub, Int.reduceToNat, Bool.not_not, exists_eq', ← List.map_take, ← List.map_drop, encTypes, getD_map encNode hi, hi, encNode]
      · simp only [Bool.and_eq_true, decide_eq_true_eq] at h3
        rw [if_neg (by omega)]
        have hp' : ParOk t (i + 1) := fun j hj => by
          rcases Nat.lt_succ_iff_lt_or_eq.1 hj with h | h
          · exact hp j h
          · subst h; omega
        have hlen := attrsAt_len hf hi hp'
        have hat : (t.nodes.getD i default).attrs.length ≤ (attrsAt t i).length := by
          rw [attrsAt_eq hp', List.length_append]; omega
        generalize hs : (attrsAt t i).length - (t.nodes.getD i default).attrs.length = s
        have hw : IntKind.i64.wrap (((attrsAt t i).length : Int) - ((t.nodes.getD i default).attrs.length : Int)) = s := by rw [IntWalk.i64_in _ (by omega)]; omega
        refine call_go ((rattrs_ok t hf i hi hp').toL) (by simp -implicitDefEqProofs only [go_sem, Nat.reduceEqDiff, Nat.reduceLT, Nat.reduceLeDiff, Nat.reduceMul, Nat.reduceAdd, reduceIte, reduceCtorEq, Nat.le_refl, Nat.not_lt_zero, Nat.zero_le, Nat.zero_lt_succ, decide_true, decide_false, Nat.reduceBEq, Nat.reduceSub, Int.reduceToNat, Bool.not_not, exists_eq', ← List.map_take, ← List.map_drop, encTypes, getD_map encNode hi, hi, encNode] <;> rfl) (pers) ?_
        simp -implicitDefEqProofs only [go_sem, Nat.reduceEqDiff, Nat.reduceLT, Nat.reduceLeDiff, Nat.reduceMul, Nat.reduceAdd, reduceIte, reduceCtorEq, Nat.le_refl, Nat.not_lt_zero, Nat.zero_le, Nat.zero_lt_succ, decide_true, decide_false, Nat.reduceBEq, Nat.reduceSub, Int.reduceToNat, Bool.not_not, exists_eq', ← List.map_take, ← List.map_drop, encTypes, getD_map encNode hi, hi, encNode]
        refine walkG_splitN (fun h5 => ?_) (fun h5 => ?_) <;> simp -implicitDefEqProofs only [go_sem, Nat.reduceEqDiff, Nat.reduceLT, Nat.reduceLeDiff, Nat.reduceMul, Nat.reduceAdd, reduceIte, reduceCtorEq, Nat.le_refl, Nat.not_lt_zero, Nat.zero_le, Nat.zero_lt_succ, decide_true, decide_false, Nat.reduceBEq, Nat.reduceSub, Int.reduceToNat, Bool.not_not, exists_eq', ← List.map_take, ← List.map_drop, h5, encTypes, getD_map encNode hi, hi, encNode]
        · have h5' := of_decide_eq_true h5
          rw [if_pos (by omega)]
        · have h5' := of_decide_eq_false h5
          rw [if_neg (by omega)]
          refine condC_split (fun h6 => ?_) (fun h6 => ?_) <;> simp -implicitDefEqProofs only [go_sem, Nat.reduceEqDiff, Nat.reduceLT, Nat.reduceLeDiff, Nat.reduceMul, Nat.reduceAdd, reduceIte, reduceCtorEq, Nat.le_refl, Nat.not_lt_zero, Nat.zero_le, Nat.zero_lt_succ, decide_true, decide_false, Nat.reduceBEq, Nat.reduceSub, Int.reduceToNat, Bool.not_not, exists_eq', ← List.map_take, ← List.map_drop, encTypes, getD_map encNode hi, hi, encNode]
          · have h6' := of_decide_eq_true h6
            rw [if_pos (by omega)]
          · have h6' := of_decide_eq_false h6
            rw [if_neg (by omega), hw]
            generalize hf' : (fun k => attrX ((attrsAt t i).take k) ((attrsAt t i).getD k default)) = f
            refine loop_rule (σ := Nat) (fun x => (upd (upd (upd (upd (upd env0 1 (.p (.val (.int .i64 i)))) 2 (.ptr 2 0)) 5 (.ptr 5 0)) 7 (.p (.lst ((attrsAt t i).map encAttr)))) 8 (.p (.val (.int .i64 x)))))
              (fun x => (hset (hset heap0 2 (.box [.p (.lst (t.nodes.map encNode)), .p (.lst (t.edges.map encEdgeT))])) 5 (.box [.p (.val (.string (t.nodes.getD i default).name)), .p (.val (.int .i64 (t.nodes.getD i default).parent)), .p (.val (.bool (t.nodes.getD i default).abs)), .p (.lst ((t.nodes.getD i default).attrs.map encAttr))])))
              (fun x => (s ≤ x ∧ x ≤ (attrsAt t i).length) ∧ ∀ j, s ≤ j → j < x → f j = 0) (fun x => (attrsAt t i).length - x) s ⟨⟨Nat.le_refl _, by omega⟩, fun j hj hj' => absurd hj' (by omega)⟩ (weak_mk (by repeat (first | exact sub_env0 _ | refine sub_upd ?_ (by first | rfl | simp [upd]))) (by repeat (first | exact hsub0 _ | refine hsub_hset ?_ (by first | rfl | simp [hset]))) (by repeat (first | exact ids_env0 _ | refine ids_upd ?_ (by simp [idsOk, idsOkL, hset]))) (by repeat (first | exact boxIds0 _ | refine boxIds_row ?_ | refine boxIds_shut ?_ | refine boxIds_box ?_ (by simp [idsOk, idsOkL, hset]))) (by repeat (first | exact keep0 _ | refine keep_low (by decide) ?_ | refine keep_high (by simp [hset]) ?_))) ?_
            rintro x ⟨⟨hsx, hx⟩, hq⟩
            simp -implicitDefEqProofs only [go_sem, Nat.reduceEqDiff, Nat.reduceLT, Nat.reduceLeDiff, Nat.reduceMul, Nat.reduceAdd, reduceIte, reduceCtorEq, Nat.le_refl, Nat.not_lt_zero, Nat.zero_le, Nat.zero_lt_succ, decide_true, decide_false, Nat.reduceBEq, Nat.reduceSub, Int.reduceToNat, Bool.not_not, exists_eq', ← List.map_take, ← List.map_drop, encTypes, getD_map encNode hi, hi, encNode]
            refine condC_split (fun hc => ?_) (fun hc => ?_)
            · have hlt : x < (attrsAt t i).length := by have := of_decide_eq_true hc; omega
              have hA := hf.fewA hi hp' (getD_mem hlt)
              have e : f x = attrX ((attrsAt t i).take x) ((attrsAt t i).getD x default) := by rw [← hf']
              
              simp -implicitDefEqProofs only [go_sem, Nat.reduceEqDiff, Nat.reduceLT, Nat.reduceLeDiff, Nat.reduceMul, Nat.reduceAdd, reduceIte, reduceCtorEq, Nat.le_refl, Nat.not_lt_zero, Nat.zero_le, Nat.zero_lt_succ, decide_true, decide_false, Nat.reduceBEq, Nat.reduceSub, Int.reduceToNat, Bool.not_not, exists_eq', ← List.map_take, ← List.map_drop, encTypes, getD_map encNode hi, hi, encNode, getD_map encAttr hlt, hlt, encAttr]
              refine call_go (rIsName_ok ((attrsAt t i).getD x default).name (Nat.le_trans hA.name (by decide))) (by simp -implicitDefEqProofs only [go_sem, Nat.reduceEqDiff, Nat.reduceLT, Nat.reduceLeDiff, Nat.reduceMul, Nat.reduceAdd, reduceIte, reduceCtorEq, Nat.le_refl, Nat.not_lt_zero, Nat.zero_le, Nat.zero_lt_succ, decide_true, decide_false, Nat.reduceBEq, Nat.reduceSub, Int.reduceToNat, Bool.not_not, exists_eq', ← List.map_take, ← List.map_drop, encTypes, getD_map encNode hi, hi, encNode, getD_map encAttr hlt, hlt, encAttr] <;> rfl) (scal rfl) ?_
              simp -implicitDefEqProofs only [go_sem, Nat.reduceEqDiff, Nat.reduceLT, Nat.reduceLeDiff, Nat.reduceMul, Nat.reduceAdd, reduceIte, reduceCtorEq, Nat.le_refl, Nat.not_lt_zero, Nat.zero_le, Nat.zero_lt_succ, decide_true, decide_false, Nat.reduceBEq, Nat.reduceSub, Int.reduceToNat, Bool.not_not, exists_eq', ← List.map_take, ← List.map_drop, encTypes, getD_map encNode hi, hi, encNode, getD_map encAttr hlt, hlt, encAttr]
              refine condC_splitN (fun h7 => ?_) (fun h7 => ?_) <;> simp -implicitDefEqProofs only [go_sem, Nat.reduceEqDiff, Nat.reduceLT, Nat.reduceLeDiff, Nat.reduceMul, Nat.reduceAdd, reduceIte, reduceCtorEq, Nat.le_refl, Nat.not_lt_zero, Nat.zero_le, Nat.zero_lt_succ, decide_true, decide_false, Nat.reduceBEq, Nat.reduceSub, Int.reduceToNat, Bool.not_not, exists_eq', ← List.map_take, ← List.map_drop, encTypes, getD_map encNode hi, hi, encNode, getD_map encAttr hlt, hlt, encAttr]
              · refine loop_rule (σ := Nat) (fun y => (upd (upd (upd (upd (upd (upd env0 1 (.p (.val (.int .i64 i)))) 2 (.ptr 2 0)) 5 (.ptr 5 0)) 7 (.p (.lst ((attrsAt t i).map encAttr)))) 8 (.p (.val (.int .i64 x)))) 9 (.p (.val (.int .i64 y)))))
                  (fun x => (hset (hset heap0 2 (.box [.p (.lst (t.nodes.map encNode)), .p (.lst (t.edges.map encEdgeT))])) 5 (.box [.p (.val (.string (t.nodes.getD i default).name)), .p (.val (.int .i64 (t.nodes.getD i default).parent)), .p (.val (.bool (t.nodes.getD i default).abs)), .p (.lst ((t.nodes.getD i default).attrs.map encAttr))])))
                  (fun y => y ≤ x ∧ ∀ j, j < y → decide (((attrsAt t i).getD j default).name = ((attrsAt t i).getD x default).name) = false) (fun y => x - y) 0 ⟨Nat.zero_le _, fun j hj => absurd hj (Nat.not_lt_zero j)⟩ (weak_mk (by repeat (first | exact sub_env0 _ | refine sub_upd ?_ (by first | rfl | simp [upd]))) (by repeat (first | exact hsub0 _ | refine hsub_hset ?_ (by first | rfl | simp [hset]))) (by repeat (first | exact ids_env0 _ | refine ids_upd ?_ (by simp [idsOk, idsOkL, hset]))) (by repeat (first | exact boxIds0 _ | refine boxIds_row ?_ | refine boxIds_shut ?_ | refine boxIds_box ?_ (by simp [idsOk, idsOkL, hset]))) (by repeat (first | exact keep0 _ | refine keep_low (by decide) ?_ | refine keep_high (by simp [hset]) ?_))) ?_
                rintro y ⟨hy, hqy⟩
                simp -implicitDefEqProofs only [go_sem, Nat.reduceEqDiff, Nat.reduceLT, Nat.reduceLeDiff, Nat.reduceMul, Nat.reduceAdd, reduceIte, reduceCtorEq, Nat.le_refl, Nat.not_lt_zero, Nat.zero_le, Nat.zero_lt_succ, decide_true, decide_false, Nat.reduceBEq, Nat.reduceSub, Int.reduceToNat, Bool.not_not, exists_eq', ← List.map_take, ← List.map_drop, encTypes, getD_map encNode hi, hi, encNode, getD_map encAttr hlt, hlt, encAttr]
                refine condC_split (fun hc' => ?_) (fun hc' => ?_)
                · have hlty : y < x := by simpa using hc'
                  have hltl : y < (attrsAt t i).length := by omega
                  
                  simp -implicitDefEqProofs only [go_sem, Nat.reduceEqDiff, Nat.reduceLT, Nat.reduceLeDiff, Nat.reduceMul, Nat.reduceAdd, reduceIte, reduceCtorEq, Nat.le_refl, Nat.not_lt_zero, Nat.zero_le, Nat.zero_lt_succ, decide_true, decide_false, Nat.reduceBEq, Nat.reduceSub, Int.reduceToNat, Bool.not_not, exists_eq', ← List.map_take, ← List.map_drop, encTypes, getD_map encNode hi, hi, encNode, getD_map encAttr hlt, hlt, encAttr, getD_map encAttr hltl, hltl]
                  refine draw_txt [.q, .q, .q, .q, .q, .q, .q, .q, .q, .q, .q] (by kernel_rfl) ?_
                  simp -implicitDefEqProofs only [go_sem, Nat.reduceEqDiff, Nat.reduceLT, Nat.reduceLeDiff, Nat.reduceMul, Nat.reduceAdd, reduceIte, reduceCtorEq, Nat.le_refl, Nat.not_lt_zero, Nat.zero_le, Nat.zero_lt_succ, decide_true, decide_false, Nat.reduceBEq, Nat.reduceSub, Int.reduceToNat, Bool.not_not, exists_eq', ← List.map_take, ← List.map_drop, encTypes, getD_map encNode hi, hi, encNode, getD_map encAttr hlt, hlt, encAttr, getD_map encAttr hltl, hltl]
                  refine condC_split (fun h8 => ?_) (fun h8 => ?_) <;> simp -implicitDefEqProofs only [go_sem, Nat.reduceEqDiff, Nat.reduceLT, Nat.reduceLeDiff, Nat.reduceMul, Nat.reduceAdd, reduceIte, reduceCtorEq, Nat.le_refl, Nat.not_lt_zero, Nat.zero_le, Nat.zero_lt_succ, decide_true, decide_false, Nat.reduceBEq, Nat.reduceSub, Int.reduceToNat, Bool.not_not, exists_eq', ← List.map_take, ← List.map_drop, encTypes, getD_map encNode hi, hi, encNode, getD_map encAttr hlt, hlt, encAttr, getD_map encAttr hltl, hltl]
                  · have e5 : f x = 5 := by
                      rw [e]; unfold attrX
                      rw [if_neg (by rw [h7]; decide), if_pos (take_any_true (p := fun z : Attr => decide (z.name = ((attrsAt t i).getD x default).name)) hlty hx h8)]
                    rw [firstE_at hsx hlt hq (by rw [e5]; decide), e5]
                  · exact loopN_mk (y + 1) ⟨hlty, all_succB hqy h8⟩ (by omega) (by rw [wrap_succ hlty (by omega)]; exact (weak_mk (by repeat (first | exact sub_env0 _ | refine sub_upd ?_ (by first | rfl | simp [upd]))) (by repeat (first | exact hsub0 _ | refine hsub_hset ?_ (by first | rfl | simp [hset]))) (by repeat (first | exact ids_env0 _ | refine ids_upd ?_ (by simp [idsOk, idsOkL, hset]))) (by repeat (first | exact boxIds0 _ | refine boxIds_row ?_ | refine boxIds_shut ?_ | refine boxIds_box ?_ (by simp [idsOk, idsOkL, hset]))) (by repeat (first | exact keep0 _ | refine keep_low (by decide) ?_ | refine keep_high (by simp [hset]) ?_))))
                · have hge' : x ≤ y := by simpa using hc'
                  have e6 : f x = attrE ((attrsAt t i).getD x default) := by
                    rw [e]; unfold attrX
                    rw [if_neg (by rw [h7]; decide), if_neg (by rw [take_any_false (p := fun z : Attr => decide (z.name = ((attrsAt t i).getD x default).name)) hx fun j hj => hqy j (by omega)]; decide)]
                  simp -implicitDefEqProofs only [go_sem, Nat.reduceEqDiff, Nat.reduceLT, Nat.reduceLeDiff, Nat.reduceMul, Nat.reduceAdd, reduceIte, reduceCtorEq, Nat.le_refl, Nat.not_lt_zero, Nat.zero_le, Nat.zero_lt_succ, decide_true, decide_false, Nat.reduceBEq, Nat.reduceSub, Int.reduceToNat, Bool.not_not, exists_eq', ← List.map_take, ← List.map_drop, encTypes, getD_map encNode hi, hi, encNode, getD_map encAttr hlt, hlt, encAttr]
                  refine call_go (rattribute_ok ((attrsAt t i).getD x default) hA) (by simp -implicitDefEqProofs only [go_sem, Nat.reduceEqDiff, Nat.reduceLT, Nat.reduceLeDiff, Nat.reduceMul, Nat.reduceAdd, reduceIte, reduceCtorEq, Nat.le_refl, Nat.not_lt_zero, Nat.zero_le, Nat.zero_lt_succ, decide_true, decide_false, Nat.reduceBEq, Nat.reduceSub, Int.reduceToNat, Bool.not_not, exists_eq', ← List.map_take, ← List.map_drop, encTypes, getD_map encNode hi, hi, encNode, getD_map encAttr hlt, hlt, encAttr] <;> rfl) (scal rfl) ?_
                  simp -implicitDefEqProofs only [go_sem, Nat.reduceEqDiff, Nat.reduceLT, Nat.reduceLeDiff, Nat.reduceMul, Nat.reduceAdd, reduceIte, reduceCtorEq, Nat.le_refl, Nat.not_lt_zero, Nat.zero_le, Nat.zero_lt_succ, decide_true, decide_false, Nat.reduceBEq, Nat.reduceSub, Int.reduceToNat, Bool.not_not, exists_eq', ← List.map_take, ← List.map_drop, encTypes, getD_map encNode hi, hi, encNode, getD_map encAttr hlt, hlt, encAttr]
                  rw [← e6]
                  refine condC_splitN (fun h9 => ?_) (fun h9 => ?_) <;> simp -implicitDefEqProofs only [go_sem, Nat.reduceEqDiff, Nat.reduceLT, Nat.reduceLeDiff, Nat.reduceMul, Nat.reduceAdd, reduceIte, reduceCtorEq, Nat.le_refl, Nat.not_lt_zero, Nat.zero_le, Nat.zero_lt_succ, decide_true, decide_false, Nat.reduceBEq, Nat.reduceSub, Int.reduceToNat, Bool.not_not, exists_eq', ← List.map_take, ← List.map_drop, encTypes, getD_map encNode hi, hi, encNode, getD_map encAttr hlt, hlt, encAttr]
                  · have h9' := of_decide_eq_true h9
                    exact loopN_mk (x + 1) ⟨⟨by omega, hlt⟩, fun j hj hj' => by
                      rcases Nat.lt_succ_iff_lt_or_eq.1 hj' with h | h
                      · exact hq j hj h
                      · rw [h]; exact h9'⟩ (by omega) (by rw [wrap_succ hlt (by omega)]; exact (weak_mk (by repeat (first | exact sub_env0 _ | refine sub_upd ?_ (by first | rfl | simp [upd]))) (by repeat (first | exact hsub0 _ | refine hsub_hset ?_ (by first | rfl | simp [hset]))) (by repeat (first | exact ids_env0 _ | refine ids_upd ?_ (by simp [idsOk, idsOkL, hset]))) (by repeat (first | exact boxIds0 _ | refine boxIds_row ?_ | refine boxIds_shut ?_ | refine boxIds_box ?_ (by simp [idsOk, idsOkL, hset]))) (by repeat (first | exact keep0 _ | refine keep_low (by decide) ?_ | refine keep_high (by simp [hset]) ?_))))
                  · have h9' := of_decide_eq_false h9
                    rw [firstE_at hsx hlt hq h9']
              · have e2 : f x = 2 := by rw [e]; unfold attrX; rw [if_pos h7]
                rw [firstE_at hsx hlt hq (by rw [e2]; decide), e2]
            · have hge : (attrsAt t i).length ≤ x := by have := of_decide_eq_false hc; omega
              simp -implicitDefEqProofs only [go_sem, Nat.reduceEqDiff, Nat.reduceLT, Nat.reduceLeDiff, Nat.reduceMul, Nat.reduceAdd, reduceIte, reduceCtorEq, Nat.le_refl, Nat.not_lt_zero, Nat.zero_le, Nat.zero_lt_succ, decide_true, decide_false, Nat.reduceBEq, Nat.reduceSub, Int.reduceToNat, Bool.not_not, exists_eq', ← List.map_take, ← List.map_drop, encTypes, getD_map encNode hi, hi, encNode]
              rw [firstE_none fun j hj hj' => hq j hj (by omega)]
      · simp only [Bool.and_eq_false_iff, decide_eq_false_iff_not] at h3
        rw [if_pos (by omega)]
  · unfold nodeE; rw [if_pos h1]
end Go.Proofs.YtdlohnchnneaeaaGreat
/- slices.Reverse. -/
namespace Go.Proofs.YtdlohnchnneaeaaGreat
open Go.Abs

def revS (l : List Int) (i : Nat) : List Int := (List.range l.length).map fun k => if k < i ∨ l.length - 1 - i < k then l.getD (l.length - 1 - k) default else l.getD k default
theorem revS_len (l : List Int) (i : Nat) : (revS l i).length = l.length := by simp [revS]
theorem revS_zero (l : List Int) : revS l 0 = l := by
  apply List.ext_getElem
  · simp [revS]
  · intro k h1 h2
    simp only [revS, List.getElem_map, List.getElem_range, Nat.not_lt_zero, false_or, Nat.sub_zero]
    rw [if_neg (by omega)]
    simp [h2]
theorem revS_end (l : List Int) (i : Nat) (h : l.length ≤ 2 * i + 1) : revS l i = l.reverse := by
  apply List.ext_getElem
  · simp [revS]
  · intro k h1 h2
    have hk : k < l.length := by simpa using h2
    simp only [revS, List.getElem_map, List.getElem_range, List.getElem_reverse]
    have h3 : l.length - 1 - k < l.length := by omega
    split
    · simp [h3]
    · have e : k = l.length - 1 - k := by omega
      have : l[l.length - 1 - k] = l[k] := by congr 1; omega
      rw [this]; simp [hk]
theorem revS_at (l : List Int) (i k : Nat) (hk : k < l.length) : (revS l i).getD k default = if k < i ∨ l.length - 1 - i < k then l.getD (l.length - 1 - k) default else l.getD k default := by
  simp only [revS, List.getD_eq_getElem?_getD, List.getElem?_map, List.getElem?_range hk, Option.map_some, Option.getD_some]
theorem revS_succ (l : List Int) (i : Nat) (h : 2 * i + 1 < l.length) : ((revS l i).set i (l.getD (l.length - 1 - i) default)).set (l.length - 1 - i) (l.getD i default) = revS l (i + 1) := by
  apply List.ext_getElem
  · simp [revS]
  · intro k h1 h2
    have hk : k < l.length := by simpa [revS] using h2
    simp only [List.getElem_set, revS, List.getElem_map, List.getElem_range]
    split
    · rename_i e
      rw [if_pos (by omega)]
      congr 1; omega
    · split
      · rename_i e
        rw [if_pos (by omega), e]
      · by_cases h3 : k < i ∨ l.length - 1 - i < k
        · rw [if_pos h3, if_pos (by omega)]
        · rw [if_neg h3, if_neg (by omega)]

theorem map_set_encI (l : List Int) (k : Nat) (y : Int) : (l.map encI).set k [PV.val (.int .i64 y)] = (l.set k y).map encI := by rw [List.map_set]; try rfl

theorem reverse_ok (l : List Int) (hl : l.length ≤ 1000000) (v : Nat) : CallM Go.Proofs.Tryz.prog 155 v 3 1 (l.map encI) [] (fun a c => a = .tup [] ∧ c = some (.row v 3 1 (l.reverse.map encI))) := by
  refine callM_of_cw [] Ty.mixed Go.Proofs.Tryz.func155 rfl (by kernel_rfl) (by simp [Go.Proofs.Tryz.ntmps155]) ?_; rw [Go.Proofs.Tryz.ntmps155, Go.Proofs.Tryz.results155]
  simp -implicitDefEqProofs only [go_sem, Nat.reduceEqDiff, Nat.reduceLT, Nat.reduceLeDiff, Nat.reduceMul, Nat.reduceAdd, reduceIte, reduceCtorEq, Nat.le_refl, Nat.not_lt_zero, Nat.zero_le, Nat.zero_lt_succ, decide_true, decide_false, Nat.reduceBEq, Nat.reduceSub, Int.reduceToNat, Bool.not_not, exists_eq', ← List.map_take, ← List.map_drop]
  have hw : IntKind.i64.wrap ((l.length : Int) - 1) = (l.length : Int) - 1 := IntWalk.i64_in _ (by omega)
  rw [hw]
  refine loop_rule (σ := Nat) (fun x => (upd (upd (upd env0 0 (.row 1000000 v)) 2 (.p (.val (.int .i64 x)))) 3 (.p (.val (.int .i64 ((l.length : Int) - 1 - x)))))) (fun x => (hset heap0 1000000 (.row v 3 1 ((revS l x).map encI))))
    (fun x => 2 * x ≤ l.length + 1) (fun x => l.length - 2 * x) 0 (by omega) ?_ ?_
  · rw [revS_zero]
    exact (weak_mk (by repeat (first | exact sub_env0 _ | refine sub_upd ?_ (by first | rfl | simp [upd]))) (by repeat (first | exact hsub0 _ | refine hsub_hset ?_ (by first | rfl | simp [hset]))) (by repeat (first | exact ids_env0 _ | refine ids_upd ?_ (by simp [idsOk, idsOkL, hset]))) (by repeat (first | exact boxIds0 _ | refine boxIds_row ?_ | refine boxIds_shut ?_ | refine boxIds_box ?_ (by simp [idsOk, idsOkL, hset]))) (by repeat (first | exact keep0 _ | refine keep_low (by decide) ?_ | refine keep_high (by simp [hset]) ?_)))
  rintro x hx
  simp -implicitDefEqProofs only [go_sem, Nat.reduceEqDiff, Nat.reduceLT, Nat.reduceLeDiff, Nat.reduceMul, Nat.reduceAdd, reduceIte, reduceCtorEq, Nat.le_refl, Nat.not_lt_zero, Nat.zero_le, Nat.zero_lt_succ, decide_true, decide_false, Nat.reduceBEq, Nat.reduceSub, Int.reduceToNat, Bool.not_not, exists_eq', ← List.map_take, ← List.map_drop]
  refine condC_split (fun hc => ?_) (fun hc => ?_)
  · have hc' := of_decide_eq_true hc
    have hx1 : x < l.length := by omega
    have hj1 : ((l.length : Int) - 1 - x).toNat = l.length - 1 - x := by omega
    have hj2 : l.length - 1 - x < l.length := by omega
    have hlx : x < (revS l x).length := by rw [revS_len]; exact hx1
    have hlj : l.length - 1 - x < (revS l x).length := by rw [revS_len]; exact hj2
    have hv1 : (revS l x).getD (l.length - 1 - x) default = l.getD (l.length - 1 - x) default := by rw [revS_at l x _ hj2, if_neg (by omega)]
    have hv2 : (revS l x).getD x default = l.getD x default := by rw [revS_at l x _ hx1, if_neg (by omega)]
    have hlj' : l.length - 1 - x < ((revS l x).set x (l.getD (l.length - 1 - x) default)).length := by rw [List.length_set]; exact hlj
    
    
    simp -implicitDefEqProofs only [go_sem, Nat.reduceEqDiff, Nat.reduceLT, Nat.reduceLeDiff, Nat.reduceMul, Nat.reduceAdd, reduceIte, reduceCtorEq, Nat.le_refl, Nat.not_lt_zero, Nat.zero_le, Nat.zero_lt_succ, decide_true, decide_false, Nat.reduceBEq, Nat.reduceSub, Int.reduceToNat, Bool.not_not, exists_eq', ← List.map_take, ← List.map_drop, hv1, hv2, map_set_encI, getD_map encI hlj', hj1, getD_map encI hlx, getD_map encI hlj, encI, revS_len, List.length_set]
    refine draw_txt [.q, .q, .p, .p, .q, .q, .q, .q, .q, .q, .q, .q, .q, .w, .q, .w] (by kernel_rfl) ?_
    simp -implicitDefEqProofs only [go_sem, Nat.reduceEqDiff, Nat.reduceLT, Nat.reduceLeDiff, Nat.reduceMul, Nat.reduceAdd, reduceIte, reduceCtorEq, Nat.le_refl, Nat.not_lt_zero, Nat.zero_le, Nat.zero_lt_succ, decide_true, decide_false, Nat.reduceBEq, Nat.reduceSub, Int.reduceToNat, Bool.not_not, exists_eq', ← List.map_take, ← List.map_drop, hv1, hv2, map_set_encI, getD_map encI hlj', hj1, getD_map encI hlx, getD_map encI hlj, encI, revS_len, List.length_set]
    refine ⟨by omega, hj2, hx1, hx1, hx1, hx1, by omega, hj2, ?_⟩
    rw [revS_succ l x (by omega), wrap_succ (show x < l.length from hx1) (by omega)]
    have hw2 : IntKind.i64.wrap ((l.length : Int) - 1 - x - 1) = (l.length : Int) - 1 - ((x + 1 : Nat) : Int) := by rw [IntWalk.i64_in _ (by omega)]; omega
    rw [hw2]
    exact loopN_mk (x + 1) (by omega) (by omega) (weak_mk (by repeat (first | exact sub_env0 _ | refine sub_upd ?_ (by first | rfl | simp [upd]))) (by repeat (first | exact hsub0 _ | refine hsub_hset ?_ (by first | rfl | simp [hset]))) (by repeat (first | exact ids_env0 _ | refine ids_upd ?_ (by simp [idsOk, idsOkL, hset]))) (by repeat (first | exact boxIds0 _ | refine boxIds_row ?_ | refine boxIds_shut ?_ | refine boxIds_box ?_ (by simp [idsOk, idsOkL, hset]))) (by repeat (first | exact keep0 _ | refine keep_low (by decide) ?_ | refine keep_high (by simp [hset]) ?_)))
  · have hc' := of_decide_eq_false hc
    simp -implicitDefEqProofs only [go_sem, Nat.reduceEqDiff, Nat.reduceLT, Nat.reduceLeDiff, Nat.reduceMul, Nat.reduceAdd, reduceIte, reduceCtorEq, Nat.le_refl, Nat.not_lt_zero, Nat.zero_le, Nat.zero_lt_succ, decide_true, decide_false, Nat.reduceBEq, Nat.reduceSub, Int.reduceToNat, Bool.not_not, exists_eq', ← List.map_take, ← List.map_drop]
    rw [revS_end l x (by omega)]
end Go.Proofs.YtdlohnchnneaeaaGreat
/- slices.Clone. -/
namespace Go.Proofs.YtdlohnchnneaeaaGreat
open Go.Abs

theorem len_encI (l : List Int) : ∀ x ∈ l.map encI, x.length = 1 := by
  intro x hx
  obtain ⟨a, _, rfl⟩ := List.mem_map.1 hx
  rfl
theorem clone_int (l : List Int) (hl : l.length ≤ 1000000) : CallF Go.Proofs.Tryz.prog 46 [.lst (l.map encI)] (fun r => r = .row 3 1 (l.map encI)) := by
  by_cases h0 : l = []
  · subst h0
    refine CallF.lst_nil (by kernel_rfl) fun ao cap => ?_
    refine callF_of_cw [5] Ty.mixed Go.Proofs.Tryz.func46 rfl (by kernel_rfl) (by simp [Go.Proofs.Tryz.ntmps46]) ?_; rw [Go.Proofs.Tryz.ntmps46, Go.Proofs.Tryz.results46]
    simp -implicitDefEqProofs only [go_sem, Nat.reduceEqDiff, Nat.reduceLT, Nat.reduceLeDiff, Nat.reduceMul, Nat.reduceAdd, reduceIte, reduceCtorEq, Nat.le_refl, Nat.not_lt_zero, Nat.zero_le, Nat.zero_lt_succ, decide_true, decide_false, Nat.reduceBEq, Nat.reduceSub, Int.reduceToNat, Bool.not_not, exists_eq', ← List.map_take, ← List.map_drop]
    cases ao with
    | none =>
      simp -implicitDefEqProofs only [go_sem, Nat.reduceEqDiff, Nat.reduceLT, Nat.reduceLeDiff, Nat.reduceMul, Nat.reduceAdd, reduceIte, reduceCtorEq, Nat.le_refl, Nat.not_lt_zero, Nat.zero_le, Nat.zero_lt_succ, decide_true, decide_false, Nat.reduceBEq, Nat.reduceSub, Int.reduceToNat, Bool.not_not, exists_eq', ← List.map_take, ← List.map_drop]
      exact ⟨by decide, _, .nil _ _ (by decide), rfl⟩
    | some a =>
      simp -implicitDefEqProofs only [go_sem, Nat.reduceEqDiff, Nat.reduceLT, Nat.reduceLeDiff, Nat.reduceMul, Nat.reduceAdd, reduceIte, reduceCtorEq, Nat.le_refl, Nat.not_lt_zero, Nat.zero_le, Nat.zero_lt_succ, decide_true, decide_false, Nat.reduceBEq, Nat.reduceSub, Int.reduceToNat, Bool.not_not, exists_eq', ← List.map_take, ← List.map_drop]
      exact ⟨fun _ h => h.elim, by decide, _, .refl _, rfl⟩
  · have hne : l.map encI ≠ [] := by simpa using h0
    refine callF_of_cw [5] Ty.mixed Go.Proofs.Tryz.func46 rfl (by kernel_rfl) (by simp [Go.Proofs.Tryz.ntmps46]) ?_; rw [Go.Proofs.Tryz.ntmps46, Go.Proofs.Tryz.results46]
    simp -implicitDefEqProofs only [go_sem, Nat.reduceEqDiff, Nat.reduceLT, Nat.reduceLeDiff, Nat.reduceMul, Nat.reduceAdd, reduceIte, reduceCtorEq, Nat.le_refl, Nat.not_lt_zero, Nat.zero_le, Nat.zero_lt_succ, decide_true, decide_false, Nat.reduceBEq, Nat.reduceSub, Int.reduceToNat, Bool.not_not, exists_eq', ← List.map_take, ← List.map_drop, hne]
    exact ⟨⟨by omega, len_encI l⟩, by decide, _, .refl _, rfl⟩
theorem len_encS (l : List ByteArray) : ∀ x ∈ l.map encS, x.length = 1 := by
  intro x hx
  obtain ⟨a, _, rfl⟩ := List.mem_map.1 hx
  rfl
theorem clone_str (l : List ByteArray) (hl : l.length ≤ 1000000) : CallF Go.Proofs.Tryz.prog 136 [.lst (l.map encS)] (fun r => r = .row 9 1 (l.map encS)) := by
  by_cases h0 : l = []
  · subst h0
    refine CallF.lst_nil (by kernel_rfl) fun ao cap => ?_
    refine callF_of_cw [5] Ty.mixed Go.Proofs.Tryz.func136 rfl (by kernel_rfl) (by simp [Go.Proofs.Tryz.ntmps136]) ?_; rw [Go.Proofs.Tryz.ntmps136, Go.Proofs.Tryz.results136]
    simp -implicitDefEqProofs only [go_sem, Nat.reduceEqDiff, Nat.reduceLT, Nat.reduceLeDiff, Nat.reduceMul, Nat.reduceAdd, reduceIte, reduceCtorEq, Nat.le_refl, Nat.not_lt_zero, Nat.zero_le, Nat.zero_lt_succ, decide_true, decide_false, Nat.reduceBEq, Nat.reduceSub, Int.reduceToNat, Bool.not_not, exists_eq', ← List.map_take, ← List.map_drop]
    cases ao with
    | none =>
      simp -implicitDefEqProofs only [go_sem, Nat.reduceEqDiff, Nat.reduceLT, Nat.reduceLeDiff, Nat.reduceMul, Nat.reduceAdd, reduceIte, reduceCtorEq, Nat.le_refl, Nat.not_lt_zero, Nat.zero_le, Nat.zero_lt_succ, decide_true, decide_false, Nat.reduceBEq, Nat.reduceSub, Int.reduceToNat, Bool.not_not, exists_eq', ← List.map_take, ← List.map_drop]
      exact ⟨by decide, _, .nil _ _ (by decide), rfl⟩
    | some a =>
      simp -implicitDefEqProofs only [go_sem, Nat.reduceEqDiff, Nat.reduceLT, Nat.reduceLeDiff, Nat.reduceMul, Nat.reduceAdd, reduceIte, reduceCtorEq, Nat.le_refl, Nat.not_lt_zero, Nat.zero_le, Nat.zero_lt_succ, decide_true, decide_false, Nat.reduceBEq, Nat.reduceSub, Int.reduceToNat, Bool.not_not, exists_eq', ← List.map_take, ← List.map_drop]
      exact ⟨fun _ h => h.elim, by decide, _, .refl _, rfl⟩
  · have hne : l.map encS ≠ [] := by simpa using h0
    refine callF_of_cw [5] Ty.mixed Go.Proofs.Tryz.func136 rfl (by kernel_rfl) (by simp [Go.Proofs.Tryz.ntmps136]) ?_; rw [Go.Proofs.Tryz.ntmps136, Go.Proofs.Tryz.results136]
    simp -implicitDefEqProofs only [go_sem, Nat.reduceEqDiff, Nat.reduceLT, Nat.reduceLeDiff, Nat.reduceMul, Nat.reduceAdd, reduceIte, reduceCtorEq, Nat.le_refl, Nat.not_lt_zero, Nat.zero_le, Nat.zero_lt_succ, decide_true, decide_false, Nat.reduceBEq, Nat.reduceSub, Int.reduceToNat, Bool.not_not, exists_eq', ← List.map_take, ← List.map_drop, hne]
    exact ⟨⟨by omega, len_encS l⟩, by decide, _, .refl _, rfl⟩
theorem len_encEdge (l : List Edge) : ∀ x ∈ l.map encEdge, x.length = 3 := by
  intro x hx
  obtain ⟨a, _, rfl⟩ := List.mem_map.1 hx
  rfl
theorem clone_edge (l : List Edge) (hl : l.length ≤ 1000000) : CallF Go.Proofs.Tryz.prog 44 [.lst (l.map encEdge)] (fun r => r = .row 73 3 (l.map encEdge)) := by
  by_cases h0 : l = []
  · subst h0
    refine CallF.lst_nil (by kernel_rfl) fun ao cap => ?_
    refine callF_of_cw [5] Ty.mixed Go.Proofs.Tryz.func44 rfl (by kernel_rfl) (by simp [Go.Proofs.Tryz.ntmps44]) ?_; rw [Go.Proofs.Tryz.ntmps44, Go.Proofs.Tryz.results44]
    simp -implicitDefEqProofs only [go_sem, Nat.reduceEqDiff, Nat.reduceLT, Nat.reduceLeDiff, Nat.reduceMul, Nat.reduceAdd, reduceIte, reduceCtorEq, Nat.le_refl, Nat.not_lt_zero, Nat.zero_le, Nat.zero_lt_succ, decide_true, decide_false, Nat.reduceBEq, Nat.reduceSub, Int.reduceToNat, Bool.not_not, exists_eq', ← List.map_take, ← List.map_drop]
    cases ao with
    | none =>
      simp -implicitDefEqProofs only [go_sem, Nat.reduceEqDiff, Nat.reduceLT, Nat.reduceLeDiff, Nat.reduceMul, Nat.reduceAdd, reduceIte, reduceCtorEq, Nat.le_refl, Nat.not_lt_zero, Nat.zero_le, Nat.zero_lt_succ, decide_true, decide_false, Nat.reduceBEq, Nat.reduceSub, Int.reduceToNat, Bool.not_not, exists_eq', ← List.map_take, ← List.map_drop]
      exact ⟨by decide, _, .nil _ _ (by decide), rfl⟩
    | some a =>
      simp -implicitDefEqProofs only [go_sem, Nat.reduceEqDiff, Nat.reduceLT, Nat.reduceLeDiff, Nat.reduceMul, Nat.reduceAdd, reduceIte, reduceCtorEq, Nat.le_refl, Nat.not_lt_zero, Nat.zero_le, Nat.zero_lt_succ, decide_true, decide_false, Nat.reduceBEq, Nat.reduceSub, Int.reduceToNat, Bool.not_not, exists_eq', ← List.map_take, ← List.map_drop]
      exact ⟨fun _ h => h.elim, by decide, _, .refl _, rfl⟩
  · have hne : l.map encEdge ≠ [] := by simpa using h0
    refine callF_of_cw [5] Ty.mixed Go.Proofs.Tryz.func44 rfl (by kernel_rfl) (by simp [Go.Proofs.Tryz.ntmps44]) ?_; rw [Go.Proofs.Tryz.ntmps44, Go.Proofs.Tryz.results44]
    simp -implicitDefEqProofs only [go_sem, Nat.reduceEqDiff, Nat.reduceLT, Nat.reduceLeDiff, Nat.reduceMul, Nat.reduceAdd, reduceIte, reduceCtorEq, Nat.le_refl, Nat.not_lt_zero, Nat.zero_le, Nat.zero_lt_succ, decide_true, decide_false, Nat.reduceBEq, Nat.reduceSub, Int.reduceToNat, Bool.not_not, exists_eq', ← List.map_take, ← List.map_drop, hne]
    exact ⟨⟨by omega, len_encEdge l⟩, by decide, _, .refl _, rfl⟩
end Go.Proofs.YtdlohnchnneaeaaGreat
/- The reference of layer 4: edge types, type graphs. -/
namespace Go.Proofs.YtdlohnchnneaeaaGreat
open Go.Abs

theorem redge_ok (t : Types) (hf : FewT t) (i : Nat) (hi : i < t.edges.length) : CallV Go.Proofs.Tryz.prog 97 [encTypes t, .val (.int .i64 i)] (fun r => r = .val (.int .i64 (edgeE t i))) := by
  have hn := hf.edges
  have hn' := hf.nodes
  refine callV_of_cw [] Ty.mixed Go.Proofs.Tryz.func97 rfl (by kernel_rfl) (by simp [Go.Proofs.Tryz.ntmps97]) ?_; rw [Go.Proofs.Tryz.ntmps97, Go.Proofs.Tryz.results97]
  
  simp -implicitDefEqProofs only [go_sem, Nat.reduceEqDiff, Nat.reduceLT, Nat.reduceLeDiff, Nat.reduceMul, Nat.reduceAdd, reduceIte, reduceCtorEq, Nat.le_refl, Nat.not_lt_zero, Nat.zero_le, Nat.zero_lt_succ, decide_true, decide_false, Nat.reduceBEq, Nat.reduceSub, Int.reduceToNat, Bool.not_not, exists_eq', ← List.map_take, ← List.map_drop, encTypes, getD_map encEdgeT hi, hi, encEdgeT]
  refine call_go (rIsName_ok (t.edges.getD i default).name (Nat.le_trans (hf.ename _ (getD_mem hi)) (by decide))) (by simp -implicitDefEqProofs only [go_sem, Nat.reduceEqDiff, Nat.reduceLT, Nat.reduceLeDiff, Nat.reduceMul, Nat.reduceAdd, reduceIte, reduceCtorEq, Nat.le_refl, Nat.not_lt_zero, Nat.zero_le, Nat.zero_lt_succ, decide_true, decide_false, Nat.reduceBEq, Nat.reduceSub, Int.reduceToNat, Bool.not_not, exists_eq', ← List.map_take, ← List.map_drop, encTypes, getD_map encEdgeT hi, hi, encEdgeT] <;> rfl) (scal rfl) ?_
  simp -implicitDefEqProofs only [go_sem, Nat.reduceEqDiff, Nat.reduceLT, Nat.reduceLeDiff, Nat.reduceMul, Nat.reduceAdd, reduceIte, reduceCtorEq, Nat.le_refl, Nat.not_lt_zero, Nat.zero_le, Nat.zero_lt_succ, decide_true, decide_false, Nat.reduceBEq, Nat.reduceSub, Int.reduceToNat, Bool.not_not, exists_eq', ← List.map_take, ← List.map_drop, encTypes, getD_map encEdgeT hi, hi, encEdgeT]
  refine condC_splitN (fun h1 => ?_) (fun h1 => ?_) <;> simp -implicitDefEqProofs only [go_sem, Nat.reduceEqDiff, Nat.reduceLT, Nat.reduceLeDiff, Nat.reduceMul, Nat.reduceAdd, reduceIte, reduceCtorEq, Nat.le_refl, Nat.not_lt_zero, Nat.zero_le, Nat.zero_lt_succ, decide_true, decide_false, Nat.reduceBEq, Nat.reduceSub, Int.reduceToNat, Bool.not_not, exists_eq', ← List.map_take, ← List.map_drop, encTypes, getD_map encEdgeT hi, hi, encEdgeT]
  · refine loop_rule (σ := Nat) (fun x => (upd (upd (upd (upd env0 1 (.p (.val (.int .i64 i)))) 2 (.ptr 2 0)) 5 (.ptr 5 0)) 6 (.p (.val (.int .i64 x)))))
      (fun x => (hset (hset heap0 2 (.box [.p (.lst (t.nodes.map encNode)), .p (.lst (t.edges.map encEdgeT))])) 5 (.box [.p (.val (.string (t.edges.getD i default).name)), .p (.val (.int .i64 (t.edges.getD i default).src)), .p (.val (.int .i64 (t.edges.getD i default).dst)), .p (.val (.int .i64 (t.edges.getD i default).outLow)), .p (.val (.int .i64 (t.edges.getD i default).outHigh)), .p (.val (.int .i64 (t.edges.getD i default).inLow)), .p (.val (.int .i64 (t.edges.getD i default).inHigh))])))
      (fun x => x ≤ i ∧ ∀ j, j < x → decide ((t.edges.getD j default).name = (t.edges.getD i default).name) = false) (fun x => i - x) 0 ⟨Nat.zero_le _, fun j hj => absurd hj (Nat.not_lt_zero j)⟩ (weak_mk (by repeat (first | exact sub_env0 _ | refine sub_upd ?_ (by first | rfl | simp [upd]))) (by repeat (first | exact hsub0 _ | refine hsub_hset ?_ (by first | rfl | simp [hset]))) (by repeat (first | exact ids_env0 _ | refine ids_upd ?_ (by simp [idsOk, idsOkL, hset]))) (by repeat (first | exact boxIds0 _ | refine boxIds_row ?_ | refine boxIds_shut ?_ | refine boxIds_box ?_ (by simp [idsOk, idsOkL, hset]))) (by repeat (first | exact keep0 _ | refine keep_low (by decide) ?_ | refine keep_high (by simp [hset]) ?_))) ?_
    rintro x ⟨hx, hqx⟩
    simp -implicitDefEqProofs only [go_sem, Nat.reduceEqDiff, Nat.reduceLT, Nat.reduceLeDiff, Nat.reduceMul, Nat.reduceAdd, reduceIte, reduceCtorEq, Nat.le_refl, Nat.not_lt_zero, Nat.zero_le, Nat.zero_lt_succ, decide_true, decide_false, Nat.reduceBEq, Nat.reduceSub, Int.reduceToNat, Bool.not_not, exists_eq', ← List.map_take, ← List.map_drop, encTypes, getD_map encEdgeT hi, hi, encEdgeT]
    refine condC_split (fun hc => ?_) (fun hc => ?_)
    · have hltx : x < i := by simpa using hc
      have hxl : x < t.edges.length := by omega
      
      simp -implicitDefEqProofs only [go_sem, Nat.reduceEqDiff, Nat.reduceLT, Nat.reduceLeDiff, Nat.reduceMul, Nat.reduceAdd, reduceIte, reduceCtorEq, Nat.le_refl, Nat.not_lt_zero, Nat.zero_le, Nat.zero_lt_succ, decide_true, decide_false, Nat.reduceBEq, Nat.reduceSub, Int.reduceToNat, Bool.not_not, exists_eq', ← List.map_take, ← List.map_drop, encTypes, getD_map encEdgeT hi, hi, encEdgeT, getD_map encEdgeT hxl, hxl]
      refine draw_txt [.q, .q, .q, .q, .q, .q, .q, .q, .q] (by kernel_rfl) ?_
      simp -implicitDefEqProofs only [go_sem, Nat.reduceEqDiff, Nat.reduceLT, Nat.reduceLeDiff, Nat.reduceMul, Nat.reduceAdd, reduceIte, reduceCtorEq, Nat.le_refl, Nat.not_lt_zero, Nat.zero_le, Nat.zero_lt_succ, decide_true, decide_false, Nat.reduceBEq, Nat.reduceSub, Int.reduceToNat, Bool.not_not, exists_eq', ← List.map_take, ← List.map_drop, encTypes, getD_map encEdgeT hi, hi, encEdgeT, getD_map encEdgeT hxl, hxl]
      refine condC_split (fun h2 => ?_) (fun h2 => ?_) <;> simp -implicitDefEqProofs only [go_sem, Nat.reduceEqDiff, Nat.reduceLT, Nat.reduceLeDiff, Nat.reduceMul, Nat.reduceAdd, reduceIte, reduceCtorEq, Nat.le_refl, Nat.not_lt_zero, Nat.zero_le, Nat.zero_lt_succ, decide_true, decide_false, Nat.reduceBEq, Nat.reduceSub, Int.reduceToNat, Bool.not_not, exists_eq', ← List.map_take, ← List.map_drop, encTypes, getD_map encEdgeT hi, hi, encEdgeT, getD_map encEdgeT hxl, hxl]
      · have : edgeE t i = 5 := by
          unfold edgeE; rw [if_neg (by rw [h1]; decide), if_pos (take_any_true (p := fun y : EdgeT => decide (y.name = (t.edges.getD i default).name)) hltx (by omega) h2)]
        rw [this]
      · exact loopN_mk (x + 1) ⟨hltx, all_succB hqx h2⟩ (by omega) (by rw [wrap_succ hltx (by omega)]; exact (weak_mk (by repeat (first | exact sub_env0 _ | refine sub_upd ?_ (by first | rfl | simp [upd]))) (by repeat (first | exact hsub0 _ | refine hsub_hset ?_ (by first | rfl | simp [hset]))) (by repeat (first | exact ids_env0 _ | refine ids_upd ?_ (by simp [idsOk, idsOkL, hset]))) (by repeat (first | exact boxIds0 _ | refine boxIds_row ?_ | refine boxIds_shut ?_ | refine boxIds_box ?_ (by simp [idsOk, idsOkL, hset]))) (by repeat (first | exact keep0 _ | refine keep_low (by decide) ?_ | refine keep_high (by simp [hset]) ?_))))
    · have hge : i ≤ x := by simpa using hc
      have hany := take_any_false (p := fun y : EdgeT => decide (y.name = (t.edges.getD i default).name)) (Nat.le_of_lt hi) fun j hj => hqx j (by omega)
      have e1 : edgeE t i = if ((inB t (t.edges.getD i default).src && inB t (t.edges.getD i default).dst) && (boundB (t.edges.getD i default).outLow (t.edges.getD i default).outHigh && boundB (t.edges.getD i default).inLow (t.edges.getD i default).inHigh)) = true then 0 else 6 := by
        unfold edgeE; rw [if_neg (by rw [h1]; decide), if_neg (by rw [hany]; decide)]
      rw [e1]
      clear e1
      have hw : IntKind.i64.wrap ((t.nodes.length : Int) - 1) = (t.nodes.length : Int) - 1 := IntWalk.i64_in _ (by omega)
      have hin : ∀ n : Int, (decide (0 ≤ n) && decide (n ≤ (t.nodes.length : Int) - 1)) = inB t n := fun n => by
        unfold inB
        congr 1
        rw [decide_eq_decide]
        omega
      
      simp -implicitDefEqProofs only [go_sem, Nat.reduceEqDiff, Nat.reduceLT, Nat.reduceLeDiff, Nat.reduceMul, Nat.reduceAdd, reduceIte, reduceCtorEq, Nat.le_refl, Nat.not_lt_zero, Nat.zero_le, Nat.zero_lt_succ, decide_true, decide_false, Nat.reduceBEq, Nat.reduceSub, Int.reduceToNat, Bool.not_not, exists_eq', ← List.map_take, ← List.map_drop, encTypes, getD_map encEdgeT hi, hi, encEdgeT, hw]
      refine call_go (in_ok (t.edges.getD i default).src 0 ((t.nodes.length : Int) - 1)) (by simp -implicitDefEqProofs only [go_sem, Nat.reduceEqDiff, Nat.reduceLT, Nat.reduceLeDiff, Nat.reduceMul, Nat.reduceAdd, reduceIte, reduceCtorEq, Nat.le_refl, Nat.not_lt_zero, Nat.zero_le, Nat.zero_lt_succ, decide_true, decide_false, Nat.reduceBEq, Nat.reduceSub, Int.reduceToNat, Bool.not_not, exists_eq', ← List.map_take, ← List.map_drop, encTypes, getD_map encEdgeT hi, hi, encEdgeT, hw] <;> rfl) (scal rfl) ?_
      simp -implicitDefEqProofs only [go_sem, Nat.reduceEqDiff, Nat.reduceLT, Nat.reduceLeDiff, Nat.reduceMul, Nat.reduceAdd, reduceIte, reduceCtorEq, Nat.le_refl, Nat.not_lt_zero, Nat.zero_le, Nat.zero_lt_succ, decide_true, decide_false, Nat.reduceBEq, Nat.reduceSub, Int.reduceToNat, Bool.not_not, exists_eq', ← List.map_take, ← List.map_drop, hin, encTypes, getD_map encEdgeT hi, hi, encEdgeT, hw]
      refine walkG_split (fun h3 => ?_) (fun h3 => ?_) <;> simp -implicitDefEqProofs only [go_sem, Nat.reduceEqDiff, Nat.reduceLT, Nat.reduceLeDiff, Nat.reduceMul, Nat.reduceAdd, reduceIte, reduceCtorEq, Nat.le_refl, Nat.not_lt_zero, Nat.zero_le, Nat.zero_lt_succ, decide_true, decide_false, Nat.reduceBEq, Nat.reduceSub, Int.reduceToNat, Bool.not_not, exists_eq', ← List.map_take, ← List.map_drop, h3, encTypes, getD_map encEdgeT hi, hi, encEdgeT, hw]
      refine call_go (in_ok (t.edges.getD i default).dst 0 ((t.nodes.length : Int) - 1)) (by simp -implicitDefEqProofs only [go_sem, Nat.reduceEqDiff, Nat.reduceLT, Nat.reduceLeDiff, Nat.reduceMul, Nat.reduceAdd, reduceIte, reduceCtorEq, Nat.le_refl, Nat.not_lt_zero, Nat.zero_le, Nat.zero_lt_succ, decide_true, decide_false, Nat.reduceBEq, Nat.reduceSub, Int.reduceToNat, Bool.not_not, exists_eq', ← List.map_take, ← List.map_drop, encTypes, getD_map encEdgeT hi, hi, encEdgeT, hw] <;> rfl) (scal rfl) ?_
      simp -implicitDefEqProofs only [go_sem, Nat.reduceEqDiff, Nat.reduceLT, Nat.reduceLeDiff, Nat.reduceMul, Nat.reduceAdd, reduceIte, reduceCtorEq, Nat.le_refl, Nat.not_lt_zero, Nat.zero_le, Nat.zero_lt_succ, decide_true, decide_false, Nat.reduceBEq, Nat.reduceSub, Int.reduceToNat, Bool.not_not, exists_eq', ← List.map_take, ← List.map_drop, hin, h3, encTypes, getD_map encEdgeT hi, hi, encEdgeT, hw]
      refine walkG_split (fun h4 => ?_) (fun h4 => ?_) <;> simp -implicitDefEqProofs only [go_sem, Nat.reduceEqDiff, Nat.reduceLT, Nat.reduceLeDiff, Nat.reduceMul, Nat.reduceAdd, reduceIte, reduceCtorEq, Nat.le_refl, Nat.not_lt_zero, Nat.zero_le, Nat.zero_lt_succ, decide_true, decide_false, Nat.reduceBEq, Nat.reduceSub, Int.reduceToNat, Bool.not_not, exists_eq', ← List.map_take, ← List.map_drop, h4, encTypes, getD_map encEdgeT hi, hi, encEdgeT, hw]
      refine call_go (bound_ok (t.edges.getD i default).outLow (t.edges.getD i default).outHigh) (by simp -implicitDefEqProofs only [go_sem, Nat.reduceEqDiff, Nat.reduceLT, Nat.reduceLeDiff, Nat.reduceMul, Nat.reduceAdd, reduceIte, reduceCtorEq, Nat.le_refl, Nat.not_lt_zero, Nat.zero_le, Nat.zero_lt_succ, decide_true, decide_false, Nat.reduceBEq, Nat.reduceSub, Int.reduceToNat, Bool.not_not, exists_eq', ← List.map_take, ← List.map_drop, encTypes, getD_map encEdgeT hi, hi, encEdgeT, hw] <;> rfl) (scal rfl) ?_
      simp -implicitDefEqProofs only [go_sem, Nat.reduceEqDiff, Nat.reduceLT, Nat.reduceLeDiff, Nat.reduceMul, Nat.reduceAdd, reduceIte, reduceCtorEq, Nat.le_refl, Nat.not_lt_zero, Nat.zero_le, Nat.zero_lt_succ, decide_true, decide_false, Nat.reduceBEq, Nat.reduceSub, Int.reduceToNat, Bool.not_not, exists_eq', ← List.map_take, ← List.map_drop, encTypes, getD_map encEdgeT hi, hi, encEdgeT, hw]
      refine walkG_split (fun h5 => ?_) (fun h5 => ?_) <;> simp -implicitDefEqProofs only [go_sem, Nat.reduceEqDiff, Nat.reduceLT, Nat.reduceLeDiff, Nat.reduceMul, Nat.reduceAdd, reduceIte, reduceCtorEq, Nat.le_refl, Nat.not_lt_zero, Nat.zero_le, Nat.zero_lt_succ, decide_true, decide_false, Nat.reduceBEq, Nat.reduceSub, Int.reduceToNat, Bool.not_not, exists_eq', ← List.map_take, ← List.map_drop, h5, encTypes, getD_map encEdgeT hi, hi, encEdgeT, hw]
      refine call_go (bound_ok (t.edges.getD i default).inLow (t.edges.getD i default).inHigh) (by simp -implicitDefEqProofs only [go_sem, Nat.reduceEqDiff, Nat.reduceLT, Nat.reduceLeDiff, Nat.reduceMul, Nat.reduceAdd, reduceIte, reduceCtorEq, Nat.le_refl, Nat.not_lt_zero, Nat.zero_le, Nat.zero_lt_succ, decide_true, decide_false, Nat.reduceBEq, Nat.reduceSub, Int.reduceToNat, Bool.not_not, exists_eq', ← List.map_take, ← List.map_drop, encTypes, getD_map encEdgeT hi, hi, encEdgeT, hw] <;> rfl) (scal rfl) ?_
      simp -implicitDefEqProofs only [go_sem, Nat.reduceEqDiff, Nat.reduceLT, Nat.reduceLeDiff, Nat.reduceMul, Nat.reduceAdd, reduceIte, reduceCtorEq, Nat.le_refl, Nat.not_lt_zero, Nat.zero_le, Nat.zero_lt_succ, decide_true, decide_false, Nat.reduceBEq, Nat.reduceSub, Int.reduceToNat, Bool.not_not, exists_eq', ← List.map_take, ← List.map_drop, encTypes, getD_map encEdgeT hi, hi, encEdgeT, hw]
      refine condC_splitN (fun h6 => ?_) (fun h6 => ?_) <;> simp -implicitDefEqProofs only [go_sem, Nat.reduceEqDiff, Nat.reduceLT, Nat.reduceLeDiff, Nat.reduceMul, Nat.reduceAdd, reduceIte, reduceCtorEq, Nat.le_refl, Nat.not_lt_zero, Nat.zero_le, Nat.zero_lt_succ, decide_true, decide_false, Nat.reduceBEq, Nat.reduceSub, Int.reduceToNat, Bool.not_not, exists_eq', ← List.map_take, ← List.map_drop, h6, encTypes, getD_map encEdgeT hi, hi, encEdgeT, hw]
  · unfold edgeE; rw [if_pos h1]

theorem rvalid_ok (t : Types) (hf : FewT t) : CallV Go.Proofs.Tryz.prog 67 [encTypes t] (fun r => r = .tup [.val (.string (validT t).1), .val (.int .i64 (validT t).2)]) := by
  have hn := hf.nodes
  have hm := hf.edges
  refine callV_of_cw [] Ty.mixed Go.Proofs.Tryz.func67 rfl (by kernel_rfl) (by simp [Go.Proofs.Tryz.ntmps67]) ?_; rw [Go.Proofs.Tryz.ntmps67, Go.Proofs.Tryz.results67]
  
  simp -implicitDefEqProofs only [go_sem, Nat.reduceEqDiff, Nat.reduceLT, Nat.reduceLeDiff, Nat.reduceMul, Nat.reduceAdd, reduceIte, reduceCtorEq, Nat.le_refl, Nat.not_lt_zero, Nat.zero_le, Nat.zero_lt_succ, decide_true, decide_false, Nat.reduceBEq, Nat.reduceSub, Int.reduceToNat, Bool.not_not, exists_eq', ← List.map_take, ← List.map_drop, encTypes]
  refine condC_split (fun h1 => ?_) (fun h1 => ?_) <;> simp -implicitDefEqProofs only [go_sem, Nat.reduceEqDiff, Nat.reduceLT, Nat.reduceLeDiff, Nat.reduceMul, Nat.reduceAdd, reduceIte, reduceCtorEq, Nat.le_refl, Nat.not_lt_zero, Nat.zero_le, Nat.zero_lt_succ, decide_true, decide_false, Nat.reduceBEq, Nat.reduceSub, Int.reduceToNat, Bool.not_not, exists_eq', ← List.map_take, ← List.map_drop, encTypes]
  · have h1' := of_decide_eq_true h1
    unfold validT; rw [if_pos (by omega)]
    exact ⟨rfl, rfl⟩
  · have h1' := of_decide_eq_false h1
    have hN : t.nodes.length ≠ 0 := by omega
    have big : 12 < t.nodes.length ∨ 20 < t.edges.length → validT t = (⟨#[]⟩, 3) := fun h => by unfold validT; rw [if_neg hN, if_pos h]
    refine walkG_splitN (fun h2 => ?_) (fun h2 => ?_) <;> simp -implicitDefEqProofs only [go_sem, Nat.reduceEqDiff, Nat.reduceLT, Nat.reduceLeDiff, Nat.reduceMul, Nat.reduceAdd, reduceIte, reduceCtorEq, Nat.le_refl, Nat.not_lt_zero, Nat.zero_le, Nat.zero_lt_succ, decide_true, decide_false, Nat.reduceBEq, Nat.reduceSub, Int.reduceToNat, Bool.not_not, exists_eq', ← List.map_take, ← List.map_drop, h2, encTypes]
    · have h2' := of_decide_eq_true h2
      rw [big (by omega)]
      exact ⟨rfl, rfl⟩
    · have h2' := of_decide_eq_false h2
      refine condC_split (fun h3 => ?_) (fun h3 => ?_) <;> simp -implicitDefEqProofs only [go_sem, Nat.reduceEqDiff, Nat.reduceLT, Nat.reduceLeDiff, Nat.reduceMul, Nat.reduceAdd, reduceIte, reduceCtorEq, Nat.le_refl, Nat.not_lt_zero, Nat.zero_le, Nat.zero_lt_succ, decide_true, decide_false, Nat.reduceBEq, Nat.reduceSub, Int.reduceToNat, Bool.not_not, exists_eq', ← List.map_take, ← List.map_drop, encTypes]
      · have h3' := of_decide_eq_true h3
        rw [big (by omega)]
        exact ⟨rfl, rfl⟩
      · have h3' := of_decide_eq_false h3
        have hV : validT t = match firstI (nodeE t) 0 t.nodes.length with
            | some k => ((t.nodes.getD k default).name, nodeE t k)
            | none => match firstI (edgeE t) 0 t.edges.length with
              | some k => ((t.edges.getD k default).name, edgeE t k)
              | none => (⟨#[]⟩, 0) := by unfold validT; rw [if_neg hN, if_neg (by omega)]; try rfl
        clear big
        refine loop_rule (σ := Nat) (fun x => (upd (upd env0 1 (.ptr 1 0)) 4 (.p (.val (.int .i64 x)))))
          (fun x => (hset heap0 1 (.box [.p (.lst (t.nodes.map encNode)), .p (.lst (t.edges.map encEdgeT))])))
          (fun x => x ≤ t.nodes.length ∧ ∀ j, j < x → nodeE t j = 0) (fun x => t.nodes.length - x) 0 ⟨Nat.zero_le _, fun j hj => absurd hj (Nat.not_lt_zero j)⟩ (weak_mk (by repeat (first | exact sub_env0 _ | refine sub_upd ?_ (by first | rfl | simp [upd]))) (by repeat (first | exact hsub0 _ | refine hsub_hset ?_ (by first | rfl | simp [hset]))) (by repeat (first | exact ids_env0 _ | refine ids_upd ?_ (by simp [idsOk, idsOkL, hset]))) (by repeat (first | exact boxIds0 _ | refine boxIds_row ?_ | refine boxIds_shut ?_ | refine boxIds_box ?_ (by simp [idsOk, idsOkL, hset]))) (by repeat (first | exact keep0 _ | refine keep_low (by decide) ?_ | refine keep_high (by simp [hset]) ?_))) ?_
        rintro x ⟨hx, hq⟩
        simp -implicitDefEqProofs only [go_sem, Nat.reduceEqDiff, Nat.reduceLT, Nat.reduceLeDiff, Nat.reduceMul, Nat.reduceAdd, reduceIte, reduceCtorEq, Nat.le_refl, Nat.not_lt_zero, Nat.zero_le, Nat.zero_lt_succ, decide_true, decide_false, Nat.reduceBEq, Nat.reduceSub, Int.reduceToNat, Bool.not_not, exists_eq', ← List.map_take, ← List.map_drop, encTypes]
        refine condC_split (fun hc => ?_) (fun hc => ?_)
        · have hlt : x < t.nodes.length := by simpa using hc
          
          simp -implicitDefEqProofs only [go_sem, Nat.reduceEqDiff, Nat.reduceLT, Nat.reduceLeDiff, Nat.reduceMul, Nat.reduceAdd, reduceIte, reduceCtorEq, Nat.le_refl, Nat.not_lt_zero, Nat.zero_le, Nat.zero_lt_succ, decide_true, decide_false, Nat.reduceBEq, Nat.reduceSub, Int.reduceToNat, Bool.not_not, exists_eq', ← List.map_take, ← List.map_drop, encTypes, getD_map encNode hlt, hlt, encNode]
          refine call_go (rnode_ok t hf x hlt (parOk_of hq)) (by simp -implicitDefEqProofs only [go_sem, Nat.reduceEqDiff, Nat.reduceLT, Nat.reduceLeDiff, Nat.reduceMul, Nat.reduceAdd, reduceIte, reduceCtorEq, Nat.le_refl, Nat.not_lt_zero, Nat.zero_le, Nat.zero_lt_succ, decide_true, decide_false, Nat.reduceBEq, Nat.reduceSub, Int.reduceToNat, Bool.not_not, exists_eq', ← List.map_take, ← List.map_drop, encTypes, getD_map encNode hlt, hlt, encNode] <;> rfl) (scal rfl) ?_
          simp -implicitDefEqProofs only [go_sem, Nat.reduceEqDiff, Nat.reduceLT, Nat.reduceLeDiff, Nat.reduceMul, Nat.reduceAdd, reduceIte, reduceCtorEq, Nat.le_refl, Nat.not_lt_zero, Nat.zero_le, Nat.zero_lt_succ, decide_true, decide_false, Nat.reduceBEq, Nat.reduceSub, Int.reduceToNat, Bool.not_not, exists_eq', ← List.map_take, ← List.map_drop, encTypes, getD_map encNode hlt, hlt, encNode]
          refine condC_splitN (fun h4 => ?_) (fun h4 => ?_) <;> simp -implicitDefEqProofs only [go_sem, Nat.reduceEqDiff, Nat.reduceLT, Nat.reduceLeDiff, Nat.reduceMul, Nat.reduceAdd, reduceIte, reduceCtorEq, Nat.le_refl, Nat.not_lt_zero, Nat.zero_le, Nat.zero_lt_succ, decide_true, decide_false, Nat.reduceBEq, Nat.reduceSub, Int.reduceToNat, Bool.not_not, exists_eq', ← List.map_take, ← List.map_drop, encTypes, getD_map encNode hlt, hlt, encNode]
          · have h4' := of_decide_eq_true h4
            exact loopN_mk (x + 1) ⟨hlt, all_succ hq h4'⟩ (by omega) (by rw [wrap_succ hlt (by omega)]; exact (weak_mk (by repeat (first | exact sub_env0 _ | refine sub_upd ?_ (by first | rfl | simp [upd]))) (by repeat (first | exact hsub0 _ | refine hsub_hset ?_ (by first | rfl | simp [hset]))) (by repeat (first | exact ids_env0 _ | refine ids_upd ?_ (by simp [idsOk, idsOkL, hset]))) (by repeat (first | exact boxIds0 _ | refine boxIds_row ?_ | refine boxIds_shut ?_ | refine boxIds_box ?_ (by simp [idsOk, idsOkL, hset]))) (by repeat (first | exact keep0 _ | refine keep_low (by decide) ?_ | refine keep_high (by simp [hset]) ?_))))
          · have h4' := of_decide_eq_false h4
            rw [hV, firstI_at (Nat.zero_le _) hlt (fun j _ => hq j) h4']
            exact ⟨rfl, rfl⟩
        · have hge : t.nodes.length ≤ x := by simpa using hc
          have hN0 : firstI (nodeE t) 0 t.nodes.length = none := firstI_none fun j _ hj => hq j (by omega)
          rw [hN0] at hV
          simp only [] at hV
          simp -implicitDefEqProofs only [go_sem, Nat.reduceEqDiff, Nat.reduceLT, Nat.reduceLeDiff, Nat.reduceMul, Nat.reduceAdd, reduceIte, reduceCtorEq, Nat.le_refl, Nat.not_lt_zero, Nat.zero_le, Nat.zero_lt_succ, decide_true, decide_false, Nat.reduceBEq, Nat.reduceSub, Int.reduceToNat, Bool.not_not, exists_eq', ← List.map_take, ← List.map_drop, encTypes]
          refine loop_rule (σ := Nat) (fun x => (upd (upd env0 1 (.ptr 1 0)) 6 (.p (.val (.int .i64 x)))))
            (fun x => (hset heap0 1 (.box [.p (.lst (t.nodes.map encNode)), .p (.lst (t.edges.map encEdgeT))])))
            (fun x => x ≤ t.edges.length ∧ ∀ j, j < x → edgeE t j = 0) (fun x => t.edges.length - x) 0 ⟨Nat.zero_le _, fun j hj => absurd hj (Nat.not_lt_zero j)⟩ (weak_mk (by repeat (first | exact sub_env0 _ | refine sub_upd ?_ (by first | rfl | simp [upd]))) (by repeat (first | exact hsub0 _ | refine hsub_hset ?_ (by first | rfl | simp [hset]))) (by repeat (first | exact ids_env0 _ | refine ids_upd ?_ (by simp [idsOk, idsOkL, hset]))) (by repeat (first | exact boxIds0 _ | refine boxIds_row ?_ | refine boxIds_shut ?_ | refine boxIds_box ?_ (by simp [idsOk, idsOkL, hset]))) (by repeat (first | exact keep0 _ | refine keep_low (by decide) ?_ | refine keep_high (by simp [hset]) ?_))) ?_
          rintro y ⟨hy, hq'⟩
          simp -implicitDefEqProofs only [go_sem, Nat.reduceEqDiff, Nat.reduceLT, Nat.reduceLeDiff, Nat.reduceMul, Nat.reduceAdd, reduceIte, reduceCtorEq, Nat.le_refl, Nat.not_lt_zero, Nat.zero_le, Nat.zero_lt_succ, decide_true, decide_false, Nat.reduceBEq, Nat.reduceSub, Int.reduceToNat, Bool.not_not, exists_eq', ← List.map_take, ← List.map_drop, encTypes]
          refine condC_split (fun hc' => ?_) (fun hc' => ?_)
          · have hlt : y < t.edges.length := by simpa using hc'
            
            simp -implicitDefEqProofs only [go_sem, Nat.reduceEqDiff, Nat.reduceLT, Nat.reduceLeDiff, Nat.reduceMul, Nat.reduceAdd, reduceIte, reduceCtorEq, Nat.le_refl, Nat.not_lt_zero, Nat.zero_le, Nat.zero_lt_succ, decide_true, decide_false, Nat.reduceBEq, Nat.reduceSub, Int.reduceToNat, Bool.not_not, exists_eq', ← List.map_take, ← List.map_drop, encTypes, getD_map encEdgeT hlt, hlt, encEdgeT]
            refine call_go (redge_ok t hf y hlt) (by simp -implicitDefEqProofs only [go_sem, Nat.reduceEqDiff, Nat.reduceLT, Nat.reduceLeDiff, Nat.reduceMul, Nat.reduceAdd, reduceIte, reduceCtorEq, Nat.le_refl, Nat.not_lt_zero, Nat.zero_le, Nat.zero_lt_succ, decide_true, decide_false, Nat.reduceBEq, Nat.reduceSub, Int.reduceToNat, Bool.not_not, exists_eq', ← List.map_take, ← List.map_drop, encTypes, getD_map encEdgeT hlt, hlt, encEdgeT] <;> rfl) (scal rfl) ?_
            simp -implicitDefEqProofs only [go_sem, Nat.reduceEqDiff, Nat.reduceLT, Nat.reduceLeDiff, Nat.reduceMul, Nat.reduceAdd, reduceIte, reduceCtorEq, Nat.le_refl, Nat.not_lt_zero, Nat.zero_le, Nat.zero_lt_succ, decide_true, decide_false, Nat.reduceBEq, Nat.reduceSub, Int.reduceToNat, Bool.not_not, exists_eq', ← List.map_take, ← List.map_drop, encTypes, getD_map encEdgeT hlt, hlt, encEdgeT]
            refine condC_splitN (fun h4 => ?_) (fun h4 => ?_) <;> simp -implicitDefEqProofs only [go_sem, Nat.reduceEqDiff, Nat.reduceLT, Nat.reduceLeDiff, Nat.reduceMul, Nat.reduceAdd, reduceIte, reduceCtorEq, Nat.le_refl, Nat.not_lt_zero, Nat.zero_le, Nat.zero_lt_succ, decide_true, decide_false, Nat.reduceBEq, Nat.reduceSub, Int.reduceToNat, Bool.not_not, exists_eq', ← List.map_take, ← List.map_drop, encTypes, getD_map encEdgeT hlt, hlt, encEdgeT]
            · have h4' := of_decide_eq_true h4
              exact loopN_mk (y + 1) ⟨hlt, all_succ hq' h4'⟩ (by omega) (by rw [wrap_succ hlt (by omega)]; exact (weak_mk (by repeat (first | exact sub_env0 _ | refine sub_upd ?_ (by first | rfl | simp [upd]))) (by repeat (first | exact hsub0 _ | refine hsub_hset ?_ (by first | rfl | simp [hset]))) (by repeat (first | exact ids_env0 _ | refine ids_upd ?_ (by simp [idsOk, idsOkL, hset]))) (by repeat (first | exact boxIds0 _ | refine boxIds_row ?_ | refine boxIds_shut ?_ | refine boxIds_box ?_ (by simp [idsOk, idsOkL, hset]))) (by repeat (first | exact keep0 _ | refine keep_low (by decide) ?_ | refine keep_high (by simp [hset]) ?_))))
            · have h4' := of_decide_eq_false h4
              rw [hV, firstI_at (Nat.zero_le _) hlt (fun j _ => hq' j) h4']
              exact ⟨rfl, rfl⟩
          · have hge : t.edges.length ≤ y := by simpa using hc'
            simp -implicitDefEqProofs only [go_sem, Nat.reduceEqDiff, Nat.reduceLT, Nat.reduceLeDiff, Nat.reduceMul, Nat.reduceAdd, reduceIte, reduceCtorEq, Nat.le_refl, Nat.not_lt_zero, Nat.zero_le, Nat.zero_lt_succ, decide_true, decide_false, Nat.reduceBEq, Nat.reduceSub, Int.reduceToNat, Bool.not_not, exists_eq', ← List.map_take, ← List.map_drop, encTypes]
            rw [hV, firstI_none fun j _ hj => hq' j (by omega)]
            exact ⟨rfl, rfl⟩
end Go.Proofs.YtdlohnchnneaeaaGreat
/- Supertypes. -/
namespace Go.Proofs.YtdlohnchnneaeaaGreat
open Go.Abs

theorem firstI_some {f : Nat → Int} {s n k : Nat} (h : firstI f s n = some k) : f k ≠ 0 := by
  unfold firstI at h
  have := List.find?_some h
  simpa using this
theorem firstI_all {f : Nat → Int} {n : Nat} (h : firstI f 0 n = none) : ∀ j, j < n → f j = 0 := by
  intro j hj
  unfold firstI at h
  rw [List.find?_eq_none] at h
  have := h j (by rw [List.mem_range'_1]; omega)
  simpa using this

/-- A type graph without an error. -/
structure OkT (t : Types) : Prop where
  few : FewT t
  pos : 0 < t.nodes.length
  n12 : t.nodes.length ≤ 12
  m20 : t.edges.length ≤ 20
  node : ∀ j, j < t.nodes.length → nodeE t j = 0
  edge : ∀ j, j < t.edges.length → edgeE t j = 0
theorem okTypes {t : Types} (hf : FewT t) (h : (validT t).2 = 0) : OkT t := by
  unfold validT at h
  split at h
  · cases h
  · split at h
    · cases h
    · split at h
      · rename_i hk; exact absurd h (firstI_some hk)
      · split at h
        · rename_i hk; exact absurd h (firstI_some hk)
        · rename_i h1 h2 _ h3 _ h4
          exact ⟨hf, by omega, by omega, by omega, firstI_all h3, firstI_all h4⟩
theorem OkT.par {t : Types} (h : OkT t) : ParOk t t.nodes.length := parOk_of h.node
theorem OkT.par' {t : Types} (h : OkT t) {a : Nat} (ha : a < t.nodes.length) : ParOk t (a + 1) := fun j hj => h.par j (by omega)
theorem OkT.ends {t : Types} (h : OkT t) {i : Nat} (hi : i < t.edges.length) : inB t (t.edges.getD i default).src = true ∧ inB t (t.edges.getD i default).dst = true := by
  have := h.edge i hi
  unfold edgeE at this
  split at this
  · cases this
  · split at this
    · cases this
    · split at this
      · rename_i h1
        simp only [Bool.and_eq_true] at h1
        exact h1.1
      · cases this
theorem inB_iff {t : Types} {n : Int} : inB t n = true ↔ 0 ≤ n ∧ n < t.nodes.length := by
  unfold inB; simp only [Bool.and_eq_true, decide_eq_true_eq]

def upK (t : Types) : Nat → Int → List Int
  | 0, _ => []
  | k + 1, a => if a < 0 then [] else a :: upK t k (t.nodes.getD a.toNat default).parent
def upL (t : Types) (a : Int) : List Int := upK t (a.toNat + 1) a
/-- Is a type another one or a subtype of it? -/
def isB (t : Types) (a b : Int) : Bool := (upL t a).any fun x => decide (x = b)

theorem upL_neg {t : Types} {a : Int} (h : a < 0) : upL t a = [] := by unfold upL upK; rw [if_pos h]
theorem upK_fuel {t : Types} : ∀ (k k' : Nat) (a : Int), (∀ j : Nat, (j : Int) ≤ a → -1 ≤ (t.nodes.getD j default).parent ∧ (t.nodes.getD j default).parent < j) → a < k → a < k' → 0 < k → 0 < k' → upK t k a = upK t k' a
  | 0, _, _, _, _, _, h, _ => by omega
  | _ + 1, 0, _, _, _, _, _, h => by omega
  | k + 1, k' + 1, a, hp, h, h', _, _ => by
    unfold upK
    split
    · rfl
    · rename_i h0
      have hq := hp a.toNat (by omega)
      congr 1
      cases k with
      | zero =>
        cases k' with
        | zero => rfl
        | succ k' =>
          have : (t.nodes.getD a.toNat default).parent < 0 := by omega
          unfold upK; rw [if_pos this]
      | succ k =>
        cases k' with
        | zero =>
          have : (t.nodes.getD a.toNat default).parent < 0 := by omega
          unfold upK; rw [if_pos this]
        | succ k' => exact upK_fuel (k + 1) (k' + 1) _ (fun j hj => hp j (by omega)) (by omega) (by omega) (by omega) (by omega)
theorem upL_succ {t : Types} {a : Nat} (hp : ParOk t (a + 1)) : upL t a = (a : Int) :: upL t (t.nodes.getD a default).parent := by
  have hq := hp a (by omega)
  have e : upL t a = (a : Int) :: upK t a (t.nodes.getD a default).parent := by
    unfold upL
    rw [Int.toNat_natCast]
    conv => lhs; unfold upK
    rw [if_neg (by omega), Int.toNat_natCast]
  rw [e]
  congr 1
  by_cases h0 : (t.nodes.getD a default).parent < 0
  · rw [upL_neg h0]
    cases a with
    | zero => rfl
    | succ a => unfold upK; rw [if_pos h0]
  · unfold upL
    exact upK_fuel _ _ _ (fun j hj => hp j (by omega)) (by omega) (by omega) (by omega) (by omega)
theorem isB_neg {t : Types} {a b : Int} (h : a < 0) : isB t a b = false := by unfold isB; rw [upL_neg h]; try rfl
theorem isB_succ {t : Types} {a : Nat} (hp : ParOk t (a + 1)) (b : Int) : isB t a b = (decide ((a : Int) = b) || isB t (t.nodes.getD a default).parent b) := by
  unfold isB; rw [upL_succ hp]; try rfl

def givenT (t : Types) (l : List Int) : Int := if (validT t).2 ≠ 0 then (validT t).2 else if l.any (fun a => !inB t a) = true then 6 else 0

theorem rbelow_ok (t : Types) (b : Int) (hb : 0 ≤ b) (hf : FewT t) : ∀ (n : Nat) (a : Int), a < n → -1 ≤ a → a < t.nodes.length → ParOk t t.nodes.length → CallV Go.Proofs.Tryz.prog 83 [encTypes t, .val (.int .i64 a), .val (.int .i64 b)] (fun r => r = .val (.bool (isB t a b))) := by
  intro n
  induction n with
  | zero =>
    intro a hn ha hl hp
    rw [isB_neg (by omega)]
    refine callV_of_cw [] Ty.mixed Go.Proofs.Tryz.func83 rfl (by kernel_rfl) (by simp [Go.Proofs.Tryz.ntmps83]) ?_; rw [Go.Proofs.Tryz.ntmps83, Go.Proofs.Tryz.results83]
    simp -implicitDefEqProofs only [go_sem, Nat.reduceEqDiff, Nat.reduceLT, Nat.reduceLeDiff, Nat.reduceMul, Nat.reduceAdd, reduceIte, reduceCtorEq, Nat.le_refl, Nat.not_lt_zero, Nat.zero_le, Nat.zero_lt_succ, decide_true, decide_false, Nat.reduceBEq, Nat.reduceSub, Int.reduceToNat, Bool.not_not, exists_eq', ← List.map_take, ← List.map_drop, encTypes]
    refine draw_txt [.q, .q, .q, .q, .q, .q, .q, .q, .q, .q, .q, .q, .q, .q, .q, .q, .q, .q, .q] (by kernel_rfl) ?_
    simp -implicitDefEqProofs only [go_sem, Nat.reduceEqDiff, Nat.reduceLT, Nat.reduceLeDiff, Nat.reduceMul, Nat.reduceAdd, reduceIte, reduceCtorEq, Nat.le_refl, Nat.not_lt_zero, Nat.zero_le, Nat.zero_lt_succ, decide_true, decide_false, Nat.reduceBEq, Nat.reduceSub, Int.reduceToNat, Bool.not_not, exists_eq', ← List.map_take, ← List.map_drop]
    refine walkDG_splitN (fun h1 => ?_) (fun h1 => ?_) <;> simp -implicitDefEqProofs only [go_sem, Nat.reduceEqDiff, Nat.reduceLT, Nat.reduceLeDiff, Nat.reduceMul, Nat.reduceAdd, reduceIte, reduceCtorEq, Nat.le_refl, Nat.not_lt_zero, Nat.zero_le, Nat.zero_lt_succ, decide_true, decide_false, Nat.reduceBEq, Nat.reduceSub, Int.reduceToNat, Bool.not_not, exists_eq', ← List.map_take, ← List.map_drop, h1]
    · have := of_decide_eq_true h1; omega
    · refine walkDG_split (fun h2 => ?_) (fun h2 => ?_) <;> simp -implicitDefEqProofs only [go_sem, Nat.reduceEqDiff, Nat.reduceLT, Nat.reduceLeDiff, Nat.reduceMul, Nat.reduceAdd, reduceIte, reduceCtorEq, Nat.le_refl, Nat.not_lt_zero, Nat.zero_le, Nat.zero_lt_succ, decide_true, decide_false, Nat.reduceBEq, Nat.reduceSub, Int.reduceToNat, Bool.not_not, exists_eq', ← List.map_take, ← List.map_drop, h1, h2]
      have := of_decide_eq_true h2; omega
  | succ n ih =>
    intro a hn ha hl hp
    refine callV_of_cw [] Ty.mixed Go.Proofs.Tryz.func83 rfl (by kernel_rfl) (by simp [Go.Proofs.Tryz.ntmps83]) ?_; rw [Go.Proofs.Tryz.ntmps83, Go.Proofs.Tryz.results83]
    
    simp -implicitDefEqProofs only [go_sem, Nat.reduceEqDiff, Nat.reduceLT, Nat.reduceLeDiff, Nat.reduceMul, Nat.reduceAdd, reduceIte, reduceCtorEq, Nat.le_refl, Nat.not_lt_zero, Nat.zero_le, Nat.zero_lt_succ, decide_true, decide_false, Nat.reduceBEq, Nat.reduceSub, Int.reduceToNat, Bool.not_not, exists_eq', ← List.map_take, ← List.map_drop, encTypes]
    refine draw_txt [.q, .q, .q, .q, .q, .q, .q, .q, .q, .q, .q, .q, .q, .q, .q, .q, .q, .q, .q] (by kernel_rfl) ?_
    simp -implicitDefEqProofs only [go_sem, Nat.reduceEqDiff, Nat.reduceLT, Nat.reduceLeDiff, Nat.reduceMul, Nat.reduceAdd, reduceIte, reduceCtorEq, Nat.le_refl, Nat.not_lt_zero, Nat.zero_le, Nat.zero_lt_succ, decide_true, decide_false, Nat.reduceBEq, Nat.reduceSub, Int.reduceToNat, Bool.not_not, exists_eq', ← List.map_take, ← List.map_drop, encTypes]
    refine walkDG_splitN (fun h1 => ?_) (fun h1 => ?_) <;> simp -implicitDefEqProofs only [go_sem, Nat.reduceEqDiff, Nat.reduceLT, Nat.reduceLeDiff, Nat.reduceMul, Nat.reduceAdd, reduceIte, reduceCtorEq, Nat.le_refl, Nat.not_lt_zero, Nat.zero_le, Nat.zero_lt_succ, decide_true, decide_false, Nat.reduceBEq, Nat.reduceSub, Int.reduceToNat, Bool.not_not, exists_eq', ← List.map_take, ← List.map_drop, h1, encTypes]
    · have h1' := of_decide_eq_true h1
      subst h1'
      obtain ⟨q, rfl⟩ : ∃ q : Nat, a = q := ⟨_, (Int.toNat_of_nonneg hb).symm⟩
      rw [isB_succ (fun j hj => hp j (by omega))]
      simp
    · have h1' := of_decide_eq_false h1
      refine walkDG_split (fun h2 => ?_) (fun h2 => ?_) <;> simp -implicitDefEqProofs only [go_sem, Nat.reduceEqDiff, Nat.reduceLT, Nat.reduceLeDiff, Nat.reduceMul, Nat.reduceAdd, reduceIte, reduceCtorEq, Nat.le_refl, Nat.not_lt_zero, Nat.zero_le, Nat.zero_lt_succ, decide_true, decide_false, Nat.reduceBEq, Nat.reduceSub, Int.reduceToNat, Bool.not_not, exists_eq', ← List.map_take, ← List.map_drop, h1, h2, encTypes]
      · have h2' := of_decide_eq_true h2
        obtain ⟨q, rfl⟩ : ∃ q : Nat, a = q := ⟨_, (Int.toNat_of_nonneg h2').symm⟩
        have hq : q < t.nodes.length := by omega
        have hpq := hp q hq
        
        simp -implicitDefEqProofs only [go_sem, Nat.reduceEqDiff, Nat.reduceLT, Nat.reduceLeDiff, Nat.reduceMul, Nat.reduceAdd, reduceIte, reduceCtorEq, Nat.le_refl, Nat.not_lt_zero, Nat.zero_le, Nat.zero_lt_succ, decide_true, decide_false, Nat.reduceBEq, Nat.reduceSub, Int.reduceToNat, Bool.not_not, exists_eq', ← List.map_take, ← List.map_drop, encTypes, getD_map encNode hq, hq, encNode]
        refine calld_go (ih (t.nodes.getD q default).parent (by omega) hpq.1 (by omega) hp) (by simp -implicitDefEqProofs only [go_sem, Nat.reduceEqDiff, Nat.reduceLT, Nat.reduceLeDiff, Nat.reduceMul, Nat.reduceAdd, reduceIte, reduceCtorEq, Nat.le_refl, Nat.not_lt_zero, Nat.zero_le, Nat.zero_lt_succ, decide_true, decide_false, Nat.reduceBEq, Nat.reduceSub, Int.reduceToNat, Bool.not_not, exists_eq', ← List.map_take, ← List.map_drop, encTypes, getD_map encNode hq, hq, encNode] <;> rfl) (scal rfl) ?_
        simp -implicitDefEqProofs only [go_sem, Nat.reduceEqDiff, Nat.reduceLT, Nat.reduceLeDiff, Nat.reduceMul, Nat.reduceAdd, reduceIte, reduceCtorEq, Nat.le_refl, Nat.not_lt_zero, Nat.zero_le, Nat.zero_lt_succ, decide_true, decide_false, Nat.reduceBEq, Nat.reduceSub, Int.reduceToNat, Bool.not_not, exists_eq', ← List.map_take, ← List.map_drop, h1, h2, encTypes, getD_map encNode hq, hq, encNode]
        rw [isB_succ (fun j hj => hp j (by omega)), h1, Bool.false_or]
      · have h2' := of_decide_eq_false h2
        rw [isB_neg (by omega)]
end Go.Proofs.YtdlohnchnneaeaaGreat
/- Package types and its reference: given, Attrs, Fits. -/
namespace Go.Proofs.YtdlohnchnneaeaaGreat
open Go.Abs

theorem given1_ok (t : Types) (n : Int) : CallV Go.Proofs.Tryz.prog 137 [.val (.int .i64 n), .eptr [.lst (t.nodes.map encNode), .lst (t.edges.map encEdgeT)] 0] (fun r => r = .val (.bool (!inB t n))) := by
  refine callV_of_cw [] Ty.mixed Go.Proofs.Tryz.func137 rfl (by kernel_rfl) (by simp [Go.Proofs.Tryz.ntmps137]) ?_; rw [Go.Proofs.Tryz.ntmps137, Go.Proofs.Tryz.results137]
  simp -implicitDefEqProofs only [go_sem, Nat.reduceEqDiff, Nat.reduceLT, Nat.reduceLeDiff, Nat.reduceMul, Nat.reduceAdd, reduceIte, reduceCtorEq, Nat.le_refl, Nat.not_lt_zero, Nat.zero_le, Nat.zero_lt_succ, decide_true, decide_false, Nat.reduceBEq, Nat.reduceSub, Int.reduceToNat, Bool.not_not, exists_eq', ← List.map_take, ← List.map_drop]
  unfold inB
  repeat' first | done | (refine walkG_splitN (fun h => ?_) (fun h => ?_) <;> try simp -implicitDefEqProofs only [go_sem, Nat.reduceEqDiff, Nat.reduceLT, Nat.reduceLeDiff, Nat.reduceMul, Nat.reduceAdd, reduceIte, reduceCtorEq, Nat.le_refl, Nat.not_lt_zero, Nat.zero_le, Nat.zero_lt_succ, decide_true, decide_false, Nat.reduceBEq, Nat.reduceSub, Int.reduceToNat, Bool.not_not, exists_eq', ← List.map_take, ← List.map_drop, h]) | (refine walkG_split (fun h => ?_) (fun h => ?_) <;> try simp -implicitDefEqProofs only [go_sem, Nat.reduceEqDiff, Nat.reduceLT, Nat.reduceLeDiff, Nat.reduceMul, Nat.reduceAdd, reduceIte, reduceCtorEq, Nat.le_refl, Nat.not_lt_zero, Nat.zero_le, Nat.zero_lt_succ, decide_true, decide_false, Nat.reduceBEq, Nat.reduceSub, Int.reduceToNat, Bool.not_not, exists_eq', ← List.map_take, ← List.map_drop, h]) | (refine condC_splitN (fun h => ?_) (fun h => ?_) <;> try simp -implicitDefEqProofs only [go_sem, Nat.reduceEqDiff, Nat.reduceLT, Nat.reduceLeDiff, Nat.reduceMul, Nat.reduceAdd, reduceIte, reduceCtorEq, Nat.le_refl, Nat.not_lt_zero, Nat.zero_le, Nat.zero_lt_succ, decide_true, decide_false, Nat.reduceBEq, Nat.reduceSub, Int.reduceToNat, Bool.not_not, exists_eq', ← List.map_take, ← List.map_drop, h]) | (refine condC_split (fun h => ?_) (fun h => ?_) <;> try simp -implicitDefEqProofs only [go_sem, Nat.reduceEqDiff, Nat.reduceLT, Nat.reduceLeDiff, Nat.reduceMul, Nat.reduceAdd, reduceIte, reduceCtorEq, Nat.le_refl, Nat.not_lt_zero, Nat.zero_le, Nat.zero_lt_succ, decide_true, decide_false, Nat.reduceBEq, Nat.reduceSub, Int.reduceToNat, Bool.not_not, exists_eq', ← List.map_take, ← List.map_drop, h])
  all_goals (simp only [decide_eq_true_eq, decide_eq_false_iff_not, Bool.not_eq_true', Bool.not_eq_false'] at *; rw [Bool.eq_iff_iff]; simp only [Bool.not_eq_true', Bool.not_eq_false', Bool.and_eq_true, Bool.or_eq_true, Bool.and_eq_false_iff, Bool.or_eq_false_iff, decide_eq_true_eq, decide_eq_false_iff_not, Bool.false_eq_true, true_iff, iff_true, false_iff, iff_false]; omega)
theorem given_ok (t : Types) (hf : FewT t) (l : List Int) (hl : l.length ≤ 1000000) : CallV Go.Proofs.Tryz.prog 109 [encTypes t, .lst (l.map encI)] (fun r => r = .val (.int .i64 (givenT t l))) := by
  unfold givenT
  refine callV_of_cw [] Ty.mixed Go.Proofs.Tryz.func109 rfl (by kernel_rfl) (by simp [Go.Proofs.Tryz.ntmps109]) ?_; rw [Go.Proofs.Tryz.ntmps109, Go.Proofs.Tryz.results109]
  
  simp -implicitDefEqProofs only [go_sem, Nat.reduceEqDiff, Nat.reduceLT, Nat.reduceLeDiff, Nat.reduceMul, Nat.reduceAdd, reduceIte, reduceCtorEq, Nat.le_refl, Nat.not_lt_zero, Nat.zero_le, Nat.zero_lt_succ, decide_true, decide_false, Nat.reduceBEq, Nat.reduceSub, Int.reduceToNat, Bool.not_not, exists_eq', ← List.map_take, ← List.map_drop, encTypes]
  refine call_go (valid_ok t hf) (by simp -implicitDefEqProofs only [go_sem, Nat.reduceEqDiff, Nat.reduceLT, Nat.reduceLeDiff, Nat.reduceMul, Nat.reduceAdd, reduceIte, reduceCtorEq, Nat.le_refl, Nat.not_lt_zero, Nat.zero_le, Nat.zero_lt_succ, decide_true, decide_false, Nat.reduceBEq, Nat.reduceSub, Int.reduceToNat, Bool.not_not, exists_eq', ← List.map_take, ← List.map_drop, encTypes] <;> rfl) (scal rfl) ?_
  simp -implicitDefEqProofs only [go_sem, Nat.reduceEqDiff, Nat.reduceLT, Nat.reduceLeDiff, Nat.reduceMul, Nat.reduceAdd, reduceIte, reduceCtorEq, Nat.le_refl, Nat.not_lt_zero, Nat.zero_le, Nat.zero_lt_succ, decide_true, decide_false, Nat.reduceBEq, Nat.reduceSub, Int.reduceToNat, Bool.not_not, exists_eq', ← List.map_take, ← List.map_drop, encTypes]
  refine condC_splitN (fun h1 => ?_) (fun h1 => ?_) <;> simp -implicitDefEqProofs only [go_sem, Nat.reduceEqDiff, Nat.reduceLT, Nat.reduceLeDiff, Nat.reduceMul, Nat.reduceAdd, reduceIte, reduceCtorEq, Nat.le_refl, Nat.not_lt_zero, Nat.zero_le, Nat.zero_lt_succ, decide_true, decide_false, Nat.reduceBEq, Nat.reduceSub, Int.reduceToNat, Bool.not_not, exists_eq', ← List.map_take, ← List.map_drop, encTypes]
  · have h1' := of_decide_eq_true h1
    rw [if_neg (by rw [h1']; decide)]
    refine call_go (contains_int (fun a => !inB t a) l hl _ [] [.eptr [.lst (t.nodes.map encNode), .lst (t.edges.map encEdgeT)] 0] (fun y _ => given1_ok t y)) (by simp -implicitDefEqProofs only [go_sem, Nat.reduceEqDiff, Nat.reduceLT, Nat.reduceLeDiff, Nat.reduceMul, Nat.reduceAdd, reduceIte, reduceCtorEq, Nat.le_refl, Nat.not_lt_zero, Nat.zero_le, Nat.zero_lt_succ, decide_true, decide_false, Nat.reduceBEq, Nat.reduceSub, Int.reduceToNat, Bool.not_not, exists_eq', ← List.map_take, ← List.map_drop, encTypes] <;> rfl) (scal rfl) ?_
    simp -implicitDefEqProofs only [go_sem, Nat.reduceEqDiff, Nat.reduceLT, Nat.reduceLeDiff, Nat.reduceMul, Nat.reduceAdd, reduceIte, reduceCtorEq, Nat.le_refl, Nat.not_lt_zero, Nat.zero_le, Nat.zero_lt_succ, decide_true, decide_false, Nat.reduceBEq, Nat.reduceSub, Int.reduceToNat, Bool.not_not, exists_eq', ← List.map_take, ← List.map_drop, encTypes]
    refine condC_split (fun h2 => ?_) (fun h2 => ?_) <;> simp -implicitDefEqProofs only [go_sem, Nat.reduceEqDiff, Nat.reduceLT, Nat.reduceLeDiff, Nat.reduceMul, Nat.reduceAdd, reduceIte, reduceCtorEq, Nat.le_refl, Nat.not_lt_zero, Nat.zero_le, Nat.zero_lt_succ, decide_true, decide_false, Nat.reduceBEq, Nat.reduceSub, Int.reduceToNat, Bool.not_not, exists_eq', ← List.map_take, ← List.map_drop, encTypes]
    · rw [if_pos h2]
    · rw [if_neg (by rw [h2]; decide)]
  · have h1' := of_decide_eq_false h1
    rw [if_pos h1']
theorem rgiven_ok (t : Types) (hf : FewT t) (a b : Int) : CallV Go.Proofs.Tryz.prog 80 [encTypes t, .val (.int .i64 a), .val (.int .i64 b)] (fun r => r = .val (.int .i64 (givenT t [a, b]))) := by
  have hn' := hf.nodes
  have hw : IntKind.i64.wrap ((t.nodes.length : Int) - 1) = (t.nodes.length : Int) - 1 := IntWalk.i64_in _ (by omega)
  have hin : ∀ n : Int, (decide (0 ≤ n) && decide (n ≤ (t.nodes.length : Int) - 1)) = inB t n := fun n => by
    unfold inB
    congr 1
    rw [decide_eq_decide]
    omega
  unfold givenT
  refine callV_of_cw [] Ty.mixed Go.Proofs.Tryz.func80 rfl (by kernel_rfl) (by simp [Go.Proofs.Tryz.ntmps80]) ?_; rw [Go.Proofs.Tryz.ntmps80, Go.Proofs.Tryz.results80]
  
  simp -implicitDefEqProofs only [go_sem, Nat.reduceEqDiff, Nat.reduceLT, Nat.reduceLeDiff, Nat.reduceMul, Nat.reduceAdd, reduceIte, reduceCtorEq, Nat.le_refl, Nat.not_lt_zero, Nat.zero_le, Nat.zero_lt_succ, decide_true, decide_false, Nat.reduceBEq, Nat.reduceSub, Int.reduceToNat, Bool.not_not, exists_eq', ← List.map_take, ← List.map_drop, encTypes]
  refine call_go (rvalid_ok t hf) (by simp -implicitDefEqProofs only [go_sem, Nat.reduceEqDiff, Nat.reduceLT, Nat.reduceLeDiff, Nat.reduceMul, Nat.reduceAdd, reduceIte, reduceCtorEq, Nat.le_refl, Nat.not_lt_zero, Nat.zero_le, Nat.zero_lt_succ, decide_true, decide_false, Nat.reduceBEq, Nat.reduceSub, Int.reduceToNat, Bool.not_not, exists_eq', ← List.map_take, ← List.map_drop, encTypes] <;> rfl) (scal rfl) ?_
  simp -implicitDefEqProofs only [go_sem, Nat.reduceEqDiff, Nat.reduceLT, Nat.reduceLeDiff, Nat.reduceMul, Nat.reduceAdd, reduceIte, reduceCtorEq, Nat.le_refl, Nat.not_lt_zero, Nat.zero_le, Nat.zero_lt_succ, decide_true, decide_false, Nat.reduceBEq, Nat.reduceSub, Int.reduceToNat, Bool.not_not, exists_eq', ← List.map_take, ← List.map_drop, encTypes]
  refine condC_splitN (fun h1 => ?_) (fun h1 => ?_) <;> simp -implicitDefEqProofs only [go_sem, Nat.reduceEqDiff, Nat.reduceLT, Nat.reduceLeDiff, Nat.reduceMul, Nat.reduceAdd, reduceIte, reduceCtorEq, Nat.le_refl, Nat.not_lt_zero, Nat.zero_le, Nat.zero_lt_succ, decide_true, decide_false, Nat.reduceBEq, Nat.reduceSub, Int.reduceToNat, Bool.not_not, exists_eq', ← List.map_take, ← List.map_drop, encTypes]
  · have h1' := of_decide_eq_true h1
    rw [if_neg (by rw [h1']; decide)]
    simp -implicitDefEqProofs only [go_sem, Nat.reduceEqDiff, Nat.reduceLT, Nat.reduceLeDiff, Nat.reduceMul, Nat.reduceAdd, reduceIte, reduceCtorEq, Nat.le_refl, Nat.not_lt_zero, Nat.zero_le, Nat.zero_lt_succ, decide_true, decide_false, Nat.reduceBEq, Nat.reduceSub, Int.reduceToNat, Bool.not_not, exists_eq', ← List.map_take, ← List.map_drop, hw, encTypes]
    refine call_go (in_ok a 0 ((t.nodes.length : Int) - 1)) (by simp -implicitDefEqProofs only [go_sem, Nat.reduceEqDiff, Nat.reduceLT, Nat.reduceLeDiff, Nat.reduceMul, Nat.reduceAdd, reduceIte, reduceCtorEq, Nat.le_refl, Nat.not_lt_zero, Nat.zero_le, Nat.zero_lt_succ, decide_true, decide_false, Nat.reduceBEq, Nat.reduceSub, Int.reduceToNat, Bool.not_not, exists_eq', ← List.map_take, ← List.map_drop, encTypes] <;> rfl) (scal rfl) ?_
    simp -implicitDefEqProofs only [go_sem, Nat.reduceEqDiff, Nat.reduceLT, Nat.reduceLeDiff, Nat.reduceMul, Nat.reduceAdd, reduceIte, reduceCtorEq, Nat.le_refl, Nat.not_lt_zero, Nat.zero_le, Nat.zero_lt_succ, decide_true, decide_false, Nat.reduceBEq, Nat.reduceSub, Int.reduceToNat, Bool.not_not, exists_eq', ← List.map_take, ← List.map_drop, hin, encTypes]
    refine walkG_split (fun h2 => ?_) (fun h2 => ?_) <;> simp -implicitDefEqProofs only [go_sem, Nat.reduceEqDiff, Nat.reduceLT, Nat.reduceLeDiff, Nat.reduceMul, Nat.reduceAdd, reduceIte, reduceCtorEq, Nat.le_refl, Nat.not_lt_zero, Nat.zero_le, Nat.zero_lt_succ, decide_true, decide_false, Nat.reduceBEq, Nat.reduceSub, Int.reduceToNat, Bool.not_not, exists_eq', ← List.map_take, ← List.map_drop, h2, hw, encTypes]
    case refine_2 => simp [h2]
    refine call_go (in_ok b 0 ((t.nodes.length : Int) - 1)) (by simp -implicitDefEqProofs only [go_sem, Nat.reduceEqDiff, Nat.reduceLT, Nat.reduceLeDiff, Nat.reduceMul, Nat.reduceAdd, reduceIte, reduceCtorEq, Nat.le_refl, Nat.not_lt_zero, Nat.zero_le, Nat.zero_lt_succ, decide_true, decide_false, Nat.reduceBEq, Nat.reduceSub, Int.reduceToNat, Bool.not_not, exists_eq', ← List.map_take, ← List.map_drop, encTypes] <;> rfl) (scal rfl) ?_
    simp -implicitDefEqProofs only [go_sem, Nat.reduceEqDiff, Nat.reduceLT, Nat.reduceLeDiff, Nat.reduceMul, Nat.reduceAdd, reduceIte, reduceCtorEq, Nat.le_refl, Nat.not_lt_zero, Nat.zero_le, Nat.zero_lt_succ, decide_true, decide_false, Nat.reduceBEq, Nat.reduceSub, Int.reduceToNat, Bool.not_not, exists_eq', ← List.map_take, ← List.map_drop, hin, encTypes]
    refine condC_splitN (fun h3 => ?_) (fun h3 => ?_) <;> simp -implicitDefEqProofs only [go_sem, Nat.reduceEqDiff, Nat.reduceLT, Nat.reduceLeDiff, Nat.reduceMul, Nat.reduceAdd, reduceIte, reduceCtorEq, Nat.le_refl, Nat.not_lt_zero, Nat.zero_le, Nat.zero_lt_succ, decide_true, decide_false, Nat.reduceBEq, Nat.reduceSub, Int.reduceToNat, Bool.not_not, exists_eq', ← List.map_take, ← List.map_drop, h3, encTypes]
    all_goals simp [h2, h3]
  · have h1' := of_decide_eq_false h1
    rw [if_pos h1']

theorem line_ok (t : Types) (ht : OkT t) (a : Nat) (ha : a < t.nodes.length) : CallV Go.Proofs.Tryz.prog 139 [encTypes t, .val (.int .i64 a)] (fun r => r = .lst ((upL t a).reverse.map encI)) := by
  have hn := ht.n12
  refine callV_of_cw [] Ty.mixed Go.Proofs.Tryz.func139 rfl (by kernel_rfl) (by simp [Go.Proofs.Tryz.ntmps139]) ?_; rw [Go.Proofs.Tryz.ntmps139, Go.Proofs.Tryz.results139]
  simp -implicitDefEqProofs only [go_sem, Nat.reduceEqDiff, Nat.reduceLT, Nat.reduceLeDiff, Nat.reduceMul, Nat.reduceAdd, reduceIte, reduceCtorEq, Nat.le_refl, Nat.not_lt_zero, Nat.zero_le, Nat.zero_lt_succ, decide_true, decide_false, Nat.reduceBEq, Nat.reduceSub, Int.reduceToNat, Bool.not_not, exists_eq', ← List.map_take, ← List.map_drop, encTypes]
  refine loop_rule (σ := Int × List Int × Nat) (fun x => (upd (upd (upd env0 1 (.p (.val (.int .i64 x.1)))) 2 (.ptr 2 0)) 5 (.row 5 x.2.2)))
    (fun x => (hset (hset heap0 2 (.box [.p (.lst (t.nodes.map encNode)), .p (.lst (t.edges.map encEdgeT))])) 5 (.row x.2.2 3 1 (x.2.1.map encI))))
    (fun x => (-1 ≤ x.1 ∧ x.1 < t.nodes.length ∧ x.2.1.length + (x.1 + 1).toNat ≤ 20) ∧ x.2.1 ++ upL t x.1 = upL t a) (fun x => (x.1 + 1).toNat) ((a : Int), [], 0) ⟨⟨by omega, by omega, by simp; omega⟩, by simp⟩
    ((weak_nil 5 5 3 1 rfl rfl (by decide)).trans (weak_mk (by repeat (first | exact sub_env0 _ | refine sub_upd ?_ (by first | rfl | simp [upd]))) (by repeat (first | exact hsub0 _ | refine hsub_hset ?_ (by first | rfl | simp [hset]))) (by repeat (first | exact ids_env0 _ | refine ids_upd ?_ (by simp [idsOk, idsOkL, hset]))) (by repeat (first | exact boxIds0 _ | refine boxIds_row ?_ | refine boxIds_shut ?_ | refine boxIds_box ?_ (by simp [idsOk, idsOkL, hset]))) (by repeat (first | exact keep0 _ | refine keep_low (by decide) ?_ | refine keep_high (by simp [hset]) ?_)))) ?_
  rintro ⟨c, acc, v⟩ ⟨⟨h1, h2, h3⟩, h4⟩
  simp only at h1 h2 h3 h4
  simp -implicitDefEqProofs only [go_sem, Nat.reduceEqDiff, Nat.reduceLT, Nat.reduceLeDiff, Nat.reduceMul, Nat.reduceAdd, reduceIte, reduceCtorEq, Nat.le_refl, Nat.not_lt_zero, Nat.zero_le, Nat.zero_lt_succ, decide_true, decide_false, Nat.reduceBEq, Nat.reduceSub, Int.reduceToNat, Bool.not_not, exists_eq', ← List.map_take, ← List.map_drop]
  refine condC_split (fun hc => ?_) (fun hc => ?_)
  · have hc' := of_decide_eq_true hc
    obtain ⟨q, rfl⟩ : ∃ q : Nat, c = q := ⟨_, (Int.toNat_of_nonneg hc').symm⟩
    have hq : q < t.nodes.length := by omega
    have hpq := ht.par q hq
    
    simp -implicitDefEqProofs only [go_sem, Nat.reduceEqDiff, Nat.reduceLT, Nat.reduceLeDiff, Nat.reduceMul, Nat.reduceAdd, reduceIte, reduceCtorEq, Nat.le_refl, Nat.not_lt_zero, Nat.zero_le, Nat.zero_lt_succ, decide_true, decide_false, Nat.reduceBEq, Nat.reduceSub, Int.reduceToNat, Bool.not_not, exists_eq', ← List.map_take, ← List.map_drop, getD_map encNode hq, hq, encNode]
    refine ⟨by omega, ?_⟩
    rw [upL_succ (ht.par' hq)] at h4
    generalize (t.nodes.getD q default).parent = par at hpq h4 ⊢
    refine loopN_mk (par, acc ++ [(q : Int)], v + 1) ⟨⟨by dsimp only; omega, by dsimp only; omega, by simp only [List.length_append, List.length_cons, List.length_nil]; omega⟩, ?_⟩ (by dsimp only; omega) ?_
    · rw [← h4, List.append_assoc]; try rfl
    · rw [List.map_append]
      exact (weak_mk (by repeat (first | exact sub_env0 _ | refine sub_upd ?_ (by first | rfl | simp [upd]))) (by repeat (first | exact hsub0 _ | refine hsub_hset ?_ (by first | rfl | simp [hset]))) (by repeat (first | exact ids_env0 _ | refine ids_upd ?_ (by simp [idsOk, idsOkL, hset]))) (by repeat (first | exact boxIds0 _ | refine boxIds_row ?_ | refine boxIds_shut ?_ | refine boxIds_box ?_ (by simp [idsOk, idsOkL, hset]))) (by repeat (first | exact keep0 _ | refine keep_low (by decide) ?_ | refine keep_high (by simp [hset]) ?_)))
  · have hc' := of_decide_eq_false hc
    rw [upL_neg (by omega), List.append_nil] at h4
    subst h4
    simp -implicitDefEqProofs only [go_sem, Nat.reduceEqDiff, Nat.reduceLT, Nat.reduceLeDiff, Nat.reduceMul, Nat.reduceAdd, reduceIte, reduceCtorEq, Nat.le_refl, Nat.not_lt_zero, Nat.zero_le, Nat.zero_lt_succ, decide_true, decide_false, Nat.reduceBEq, Nat.reduceSub, Int.reduceToNat, Bool.not_not, exists_eq', ← List.map_take, ← List.map_drop]
    refine callm_go (reverse_ok (upL t a) (by omega) v) (by simp -implicitDefEqProofs only [go_sem, Nat.reduceEqDiff, Nat.reduceLT, Nat.reduceLeDiff, Nat.reduceMul, Nat.reduceAdd, reduceIte, reduceCtorEq, Nat.le_refl, Nat.not_lt_zero, Nat.zero_le, Nat.zero_lt_succ, decide_true, decide_false, Nat.reduceBEq, Nat.reduceSub, Int.reduceToNat, Bool.not_not, exists_eq', ← List.map_take, ← List.map_drop] <;> rfl) (by simp -implicitDefEqProofs only [go_sem, Nat.reduceEqDiff, Nat.reduceLT, Nat.reduceLeDiff, Nat.reduceMul, Nat.reduceAdd, reduceIte, reduceCtorEq, Nat.le_refl, Nat.not_lt_zero, Nat.zero_le, Nat.zero_lt_succ, decide_true, decide_false, Nat.reduceBEq, Nat.reduceSub, Int.reduceToNat, Bool.not_not, exists_eq', ← List.map_take, ← List.map_drop] <;> rfl) (by simp -implicitDefEqProofs only [go_sem, Nat.reduceEqDiff, Nat.reduceLT, Nat.reduceLeDiff, Nat.reduceMul, Nat.reduceAdd, reduceIte, reduceCtorEq, Nat.le_refl, Nat.not_lt_zero, Nat.zero_le, Nat.zero_lt_succ, decide_true, decide_false, Nat.reduceBEq, Nat.reduceSub, Int.reduceToNat, Bool.not_not, exists_eq', ← List.map_take, ← List.map_drop] <;> rfl) (fun h => by cases h) ?_
    simp -implicitDefEqProofs only [go_sem, Nat.reduceEqDiff, Nat.reduceLT, Nat.reduceLeDiff, Nat.reduceMul, Nat.reduceAdd, reduceIte, reduceCtorEq, Nat.le_refl, Nat.not_lt_zero, Nat.zero_le, Nat.zero_lt_succ, decide_true, decide_false, Nat.reduceBEq, Nat.reduceSub, Int.reduceToNat, Bool.not_not, exists_eq', ← List.map_take, ← List.map_drop]
theorem is_ok' (t : Types) (ht : OkT t) (a : Nat) (ha : a < t.nodes.length) (b : Int) : CallV Go.Proofs.Tryz.prog 110 [encTypes t, .val (.int .i64 a), .val (.int .i64 b)] (fun r => r = .val (.bool (isB t a b))) := by
  have hl : ∀ n : Int, -1 ≤ n → n < t.nodes.length → (upL t n).length ≤ n.toNat + 1 := by
    intro n h1 h2
    have : ∀ (k : Nat) (n : Int), (upK t k n).length ≤ k := by
      intro k
      induction k with
      | zero => intro n; simp [upK]
      | succ k ih =>
        intro n
        unfold upK
        split
        · simp
        · simp only [List.length_cons]; exact Nat.succ_le_succ (ih _)
    exact this _ _
  have hla := hl a (by omega) (by omega)
  have hn := ht.n12
  refine callV_of_cw [] Ty.mixed Go.Proofs.Tryz.func110 rfl (by kernel_rfl) (by simp [Go.Proofs.Tryz.ntmps110]) ?_; rw [Go.Proofs.Tryz.ntmps110, Go.Proofs.Tryz.results110]
  simp -implicitDefEqProofs only [go_sem, Nat.reduceEqDiff, Nat.reduceLT, Nat.reduceLeDiff, Nat.reduceMul, Nat.reduceAdd, reduceIte, reduceCtorEq, Nat.le_refl, Nat.not_lt_zero, Nat.zero_le, Nat.zero_lt_succ, decide_true, decide_false, Nat.reduceBEq, Nat.reduceSub, Int.reduceToNat, Bool.not_not, exists_eq', ← List.map_take, ← List.map_drop, encTypes]
  refine call_go (line_ok t ht a ha) (by simp -implicitDefEqProofs only [go_sem, Nat.reduceEqDiff, Nat.reduceLT, Nat.reduceLeDiff, Nat.reduceMul, Nat.reduceAdd, reduceIte, reduceCtorEq, Nat.le_refl, Nat.not_lt_zero, Nat.zero_le, Nat.zero_lt_succ, decide_true, decide_false, Nat.reduceBEq, Nat.reduceSub, Int.reduceToNat, Bool.not_not, exists_eq', ← List.map_take, ← List.map_drop] <;> rfl) (pers) ?_
  simp -implicitDefEqProofs only [go_sem, Nat.reduceEqDiff, Nat.reduceLT, Nat.reduceLeDiff, Nat.reduceMul, Nat.reduceAdd, reduceIte, reduceCtorEq, Nat.le_refl, Nat.not_lt_zero, Nat.zero_le, Nat.zero_lt_succ, decide_true, decide_false, Nat.reduceBEq, Nat.reduceSub, Int.reduceToNat, Bool.not_not, exists_eq', ← List.map_take, ← List.map_drop]
  refine call_go (has_int ((upL t a).reverse) b (by simp; omega)) (by simp -implicitDefEqProofs only [go_sem, Nat.reduceEqDiff, Nat.reduceLT, Nat.reduceLeDiff, Nat.reduceMul, Nat.reduceAdd, reduceIte, reduceCtorEq, Nat.le_refl, Nat.not_lt_zero, Nat.zero_le, Nat.zero_lt_succ, decide_true, decide_false, Nat.reduceBEq, Nat.reduceSub, Int.reduceToNat, Bool.not_not, exists_eq', ← List.map_take, ← List.map_drop] <;> rfl) (scal rfl) ?_
  simp -implicitDefEqProofs only [go_sem, Nat.reduceEqDiff, Nat.reduceLT, Nat.reduceLeDiff, Nat.reduceMul, Nat.reduceAdd, reduceIte, reduceCtorEq, Nat.le_refl, Nat.not_lt_zero, Nat.zero_le, Nat.zero_lt_succ, decide_true, decide_false, Nat.reduceBEq, Nat.reduceSub, Int.reduceToNat, Bool.not_not, exists_eq', ← List.map_take, ← List.map_drop]
  unfold isB
  rw [Bool.eq_iff_iff]
  simp only [List.any_eq_true, List.mem_reverse, decide_eq_true_eq]
  constructor
  · rintro ⟨x, h1, h2⟩; exact ⟨x, h1, h2.symm⟩
  · rintro ⟨x, h1, h2⟩; exact ⟨x, h1, h2.symm⟩
end Go.Proofs.YtdlohnchnneaeaaGreat
