/- Joined texts, part 4: lemmas for the statement. No condition. -/
import Derived.Test.YtdlohnchnneaeaaGreatJ3
import Derived.Test.YtdlohnchnneaeaaGreatJ2
set_option linter.unusedSimpArgs false
set_option linter.unusedVariables false
open Nat (reduceEqDiff reduceLT reduceLeDiff reduceMul reduceAdd reduceSub)
/- The reference of layer 4: edge types, type graphs. -/
namespace Go.Proofs.YtdlohnchnneaeaaGreat
open Go.Abs

theorem redge_ok (t : Types) (hf : FewT t) (i : Nat) (hi : i < t.edges.length) : CallV Go.Proofs.Tryz.prog 97 [encTypes t, .val (.int .i64 i)] (fun r => r = .val (.int .i64 (edgeE t i))) := by
  have hn := hf.edges
  have hn' := hf.nodes
  refine callV_of_cw [] Ty.mixed Go.Proofs.Tryz.func97 rfl (by kernel_rfl) (by simp [Go.Proofs.Tryz.ntmps97]) ?_; rw [Go.Proofs.Tryz.ntmps97, Go.Proofs.Tryz.results97]
  
  simp -implicitDefEqProofs only [go_sem, reduceEqDiff, reduceLT, reduceLeDiff, reduceMul, reduceAdd, reduceIte, reduceCtorEq, Nat.reduceBEq, reduceSub, Int.reduceToNat, encTypes, getD_map encEdgeT hi, hi, encEdgeT]
  refine call_go (rIsName_ok (t.edges.getD i default).name (Nat.le_trans (hf.ename _ (getD_mem hi)) (by decide))) (by simp -implicitDefEqProofs only [go_sem, reduceEqDiff, reduceLT, reduceLeDiff, reduceMul, reduceAdd, reduceIte, reduceCtorEq, Nat.reduceBEq, reduceSub, Int.reduceToNat, encTypes, getD_map encEdgeT hi, hi, encEdgeT] <;> rfl) (scal rfl) ?_
  simp -implicitDefEqProofs only [go_sem, reduceEqDiff, reduceLT, reduceLeDiff, reduceMul, reduceAdd, reduceIte, reduceCtorEq, Nat.reduceBEq, reduceSub, Int.reduceToNat, encTypes, getD_map encEdgeT hi, hi, encEdgeT]
  refine condC_splitN (fun h1 => ?_) (fun h1 => ?_) <;> simp -implicitDefEqProofs only [go_sem, reduceEqDiff, reduceLT, reduceLeDiff, reduceMul, reduceAdd, reduceIte, reduceCtorEq, Nat.reduceBEq, reduceSub, Int.reduceToNat, encTypes, getD_map encEdgeT hi, hi, encEdgeT]
  · refine loop_rule (σ := Nat) (fun x => (upd (upd (upd (upd env0 1 (.p (.val (.int .i64 i)))) 2 (.ptr 2 0)) 5 (.ptr 5 0)) 6 (.p (.val (.int .i64 x)))))
      (fun x => (hset (hset heap0 2 (.box [.p (.lst (t.nodes.map encNode)), .p (.lst (t.edges.map encEdgeT))])) 5 (.box [.p (.val (.string (t.edges.getD i default).name)), .p (.val (.int .i64 (t.edges.getD i default).src)), .p (.val (.int .i64 (t.edges.getD i default).dst)), .p (.val (.int .i64 (t.edges.getD i default).outLow)), .p (.val (.int .i64 (t.edges.getD i default).outHigh)), .p (.val (.int .i64 (t.edges.getD i default).inLow)), .p (.val (.int .i64 (t.edges.getD i default).inHigh))])))
      (fun x => x ≤ i ∧ ∀ j, j < x → decide ((t.edges.getD j default).name = (t.edges.getD i default).name) = false) (fun x => i - x) 0 ⟨Nat.zero_le _, fun j hj => absurd hj (Nat.not_lt_zero j)⟩ (weak_mk (by repeat (first | exact sub_env0 _ | refine sub_upd ?_ (by first | rfl | simp [upd]))) (by repeat (first | exact hsub0 _ | refine hsub_hset ?_ (by first | rfl | simp [hset]))) (by repeat (first | exact ids_env0 _ | refine ids_upd ?_ (by simp [idsOk, idsOkL, hset]))) (by repeat (first | exact boxIds0 _ | refine boxIds_row ?_ | refine boxIds_shut ?_ | refine boxIds_box ?_ (by simp [idsOk, idsOkL, hset]))) (by repeat (first | exact keep0 _ | refine keep_low (by decide) ?_ | refine keep_high (by simp [hset]) ?_))) ?_
    rintro x ⟨hx, hqx⟩
    simp -implicitDefEqProofs only [go_sem, reduceEqDiff, reduceLT, reduceLeDiff, reduceMul, reduceAdd, reduceIte, reduceCtorEq, Nat.reduceBEq, reduceSub, Int.reduceToNat, encTypes, getD_map encEdgeT hi, hi, encEdgeT]
    refine condC_split (fun hc => ?_) (fun hc => ?_)
    · have hltx : x < i := by simpa using hc
      have hxl : x < t.edges.length := by omega
      
      simp -implicitDefEqProofs only [go_sem, reduceEqDiff, reduceLT, reduceLeDiff, reduceMul, reduceAdd, reduceIte, reduceCtorEq, Nat.reduceBEq, reduceSub, Int.reduceToNat, encTypes, getD_map encEdgeT hi, hi, encEdgeT, getD_map encEdgeT hxl, hxl]
      refine draw_txt [.q, .q, .q, .q, .q, .q, .q, .q, .q] (by kernel_rfl) ?_
      simp -implicitDefEqProofs only [go_sem, reduceEqDiff, reduceLT, reduceLeDiff, reduceMul, reduceAdd, reduceIte, reduceCtorEq, Nat.reduceBEq, reduceSub, Int.reduceToNat, encTypes, getD_map encEdgeT hi, hi, encEdgeT, getD_map encEdgeT hxl, hxl]
      refine condC_split (fun h2 => ?_) (fun h2 => ?_) <;> simp -implicitDefEqProofs only [go_sem, reduceEqDiff, reduceLT, reduceLeDiff, reduceMul, reduceAdd, reduceIte, reduceCtorEq, Nat.reduceBEq, reduceSub, Int.reduceToNat, encTypes, getD_map encEdgeT hi, hi, encEdgeT, getD_map encEdgeT hxl, hxl]
      · have : edgeE t i = 5 := by
          unfold edgeE; rw [if_neg (by rw [h1]; decide), if_pos (take_any_true (p := fun y : EdgeT => decide (y.name = (t.edges.getD i default).name)) hltx (by omega) h2)]
        rw [this]
      · exact loopN_mk (x + 1) ⟨hltx, all_succB hqx h2⟩ (by omega) (by rw [wrap_succ hltx (by omega)]; exact (weak_mk (by repeat (first | exact sub_env0 _ | refine sub_upd ?_ (by first | rfl | simp [upd]))) (by repeat (first | exact hsub0 _ | refine hsub_hset ?_ (by first | rfl | simp [hset]))) (by repeat (first | exact ids_env0 _ | refine ids_upd ?_ (by simp [idsOk, idsOkL, hset]))) (by repeat (first | exact boxIds0 _ | refine boxIds_row ?_ | refine boxIds_shut ?_ | refine boxIds_box ?_ (by simp [idsOk, idsOkL, hset]))) (by repeat (first | exact keep0 _ | refine keep_low (by decide) ?_ | refine keep_high (by simp [hset]) ?_))))
    · have hge : i ≤ x := by simpa using hc
      have hany := take_any_false (p := fun y : EdgeT => decide (y.name = (t.edges.getD i default).name)) (Nat.le_of_lt hi) fun j hj => hqx j (by omega)
      have e1 : edgeE t i = if ((inB t (t.edges.getD i default).src && inB t (t.edges.getD i default).dst) && (boundB (t.edges.getD i default).outLow (t.edges.getD i default).outHigh && boundB (t.edges.getD i default).inLow (t.edges.getD i default).inHigh)) = true then 0 else 6 := by
        unfold edgeE; rw [if_neg (by rw [h1]; decide), if_neg (by rw [hany]; decide)]
      rw [e1]
      clear e1
      have hw : IntKind.i64.wrap ((t.nodes.length : Int) - 1) = (t.nodes.length : Int) - 1 := IntWalk.i64_in _ (by omega)
      have hin : ∀ n : Int, (decide (0 ≤ n) && decide (n ≤ (t.nodes.length : Int) - 1)) = inB t n := fun n => by
        unfold inB
        congr 1
        rw [decide_eq_decide]
        omega
      
      simp -implicitDefEqProofs only [go_sem, reduceEqDiff, reduceLT, reduceLeDiff, reduceMul, reduceAdd, reduceIte, reduceCtorEq, Nat.reduceBEq, reduceSub, Int.reduceToNat, encTypes, getD_map encEdgeT hi, hi, encEdgeT, hw]
      refine call_go (in_ok (t.edges.getD i default).src 0 ((t.nodes.length : Int) - 1)) (by simp -implicitDefEqProofs only [go_sem, reduceEqDiff, reduceLT, reduceLeDiff, reduceMul, reduceAdd, reduceIte, reduceCtorEq, Nat.reduceBEq, reduceSub, Int.reduceToNat, encTypes, getD_map encEdgeT hi, hi, encEdgeT, hw] <;> rfl) (scal rfl) ?_
      simp -implicitDefEqProofs only [go_sem, reduceEqDiff, reduceLT, reduceLeDiff, reduceMul, reduceAdd, reduceIte, reduceCtorEq, Nat.reduceBEq, reduceSub, Int.reduceToNat, hin, encTypes, getD_map encEdgeT hi, hi, encEdgeT, hw]
      refine walkG_split (fun h3 => ?_) (fun h3 => ?_) <;> simp -implicitDefEqProofs only [go_sem, reduceEqDiff, reduceLT, reduceLeDiff, reduceMul, reduceAdd, reduceIte, reduceCtorEq, Nat.reduceBEq, reduceSub, Int.reduceToNat, h3, encTypes, getD_map encEdgeT hi, hi, encEdgeT, hw]
      refine call_go (in_ok (t.edges.getD i default).dst 0 ((t.nodes.length : Int) - 1)) (by simp -implicitDefEqProofs only [go_sem, reduceEqDiff, reduceLT, reduceLeDiff, reduceMul, reduceAdd, reduceIte, reduceCtorEq, Nat.reduceBEq, reduceSub, Int.reduceToNat, encTypes, getD_map encEdgeT hi, hi, encEdgeT, hw] <;> rfl) (scal rfl) ?_
      simp -implicitDefEqProofs only [go_sem, reduceEqDiff, reduceLT, reduceLeDiff, reduceMul, reduceAdd, reduceIte, reduceCtorEq, Nat.reduceBEq, reduceSub, Int.reduceToNat, hin, h3, encTypes, getD_map encEdgeT hi, hi, encEdgeT, hw]
      refine walkG_split (fun h4 => ?_) (fun h4 => ?_) <;> simp -implicitDefEqProofs only [go_sem, reduceEqDiff, reduceLT, reduceLeDiff, reduceMul, reduceAdd, reduceIte, reduceCtorEq, Nat.reduceBEq, reduceSub, Int.reduceToNat, h4, encTypes, getD_map encEdgeT hi, hi, encEdgeT, hw]
      refine call_go (bound_ok (t.edges.getD i default).outLow (t.edges.getD i default).outHigh) (by simp -implicitDefEqProofs only [go_sem, reduceEqDiff, reduceLT, reduceLeDiff, reduceMul, reduceAdd, reduceIte, reduceCtorEq, Nat.reduceBEq, reduceSub, Int.reduceToNat, encTypes, getD_map encEdgeT hi, hi, encEdgeT, hw] <;> rfl) (scal rfl) ?_
      simp -implicitDefEqProofs only [go_sem, reduceEqDiff, reduceLT, reduceLeDiff, reduceMul, reduceAdd, reduceIte, reduceCtorEq, Nat.reduceBEq, reduceSub, Int.reduceToNat, encTypes, getD_map encEdgeT hi, hi, encEdgeT, hw]
      refine walkG_split (fun h5 => ?_) (fun h5 => ?_) <;> simp -implicitDefEqProofs only [go_sem, reduceEqDiff, reduceLT, reduceLeDiff, reduceMul, reduceAdd, reduceIte, reduceCtorEq, Nat.reduceBEq, reduceSub, Int.reduceToNat, h5, encTypes, getD_map encEdgeT hi, hi, encEdgeT, hw]
      refine call_go (bound_ok (t.edges.getD i default).inLow (t.edges.getD i default).inHigh) (by simp -implicitDefEqProofs only [go_sem, reduceEqDiff, reduceLT, reduceLeDiff, reduceMul, reduceAdd, reduceIte, reduceCtorEq, Nat.reduceBEq, reduceSub, Int.reduceToNat, encTypes, getD_map encEdgeT hi, hi, encEdgeT, hw] <;> rfl) (scal rfl) ?_
      simp -implicitDefEqProofs only [go_sem, reduceEqDiff, reduceLT, reduceLeDiff, reduceMul, reduceAdd, reduceIte, reduceCtorEq, Nat.reduceBEq, reduceSub, Int.reduceToNat, encTypes, getD_map encEdgeT hi, hi, encEdgeT, hw]
      refine condC_splitN (fun h6 => ?_) (fun h6 => ?_) <;> simp -implicitDefEqProofs only [go_sem, reduceEqDiff, reduceLT, reduceLeDiff, reduceMul, reduceAdd, reduceIte, reduceCtorEq, Nat.reduceBEq, reduceSub, Int.reduceToNat, h6, encTypes, getD_map encEdgeT hi, hi, encEdgeT, hw]
  · unfold edgeE; rw [if_pos h1]

theorem rvalid_ok (t : Types) (hf : FewT t) : CallV Go.Proofs.Tryz.prog 67 [encTypes t] (fun r => r = .tup [.val (.string (validT t).1), .val (.int .i64 (validT t).2)]) := by
  have hn := hf.nodes
  have hm := hf.edges
  refine callV_of_cw [] Ty.mixed Go.Proofs.Tryz.func67 rfl (by kernel_rfl) (by simp [Go.Proofs.Tryz.ntmps67]) ?_; rw [Go.Proofs.Tryz.ntmps67, Go.Proofs.Tryz.results67]
  
  simp -implicitDefEqProofs only [go_sem, reduceEqDiff, reduceLT, reduceLeDiff, reduceMul, reduceAdd, reduceIte, reduceCtorEq, Nat.reduceBEq, reduceSub, Int.reduceToNat, encTypes]
  refine condC_split (fun h1 => ?_) (fun h1 => ?_) <;> simp -implicitDefEqProofs only [go_sem, reduceEqDiff, reduceLT, reduceLeDiff, reduceMul, reduceAdd, reduceIte, reduceCtorEq, Nat.reduceBEq, reduceSub, Int.reduceToNat, encTypes]
  · have h1' := of_decide_eq_true h1
    unfold validT; rw [if_pos (by omega)]
    exact ⟨rfl, rfl⟩
  · have h1' := of_decide_eq_false h1
    have hN : t.nodes.length ≠ 0 := by omega
    have big : 12 < t.nodes.length ∨ 20 < t.edges.length → validT t = (⟨#[]⟩, 3) := fun h => by unfold validT; rw [if_neg hN, if_pos h]
    refine walkG_splitN (fun h2 => ?_) (fun h2 => ?_) <;> simp -implicitDefEqProofs only [go_sem, reduceEqDiff, reduceLT, reduceLeDiff, reduceMul, reduceAdd, reduceIte, reduceCtorEq, Nat.reduceBEq, reduceSub, Int.reduceToNat, h2, encTypes]
    · have h2' := of_decide_eq_true h2
      rw [big (by omega)]
      exact ⟨rfl, rfl⟩
    · have h2' := of_decide_eq_false h2
      refine condC_split (fun h3 => ?_) (fun h3 => ?_) <;> simp -implicitDefEqProofs only [go_sem, reduceEqDiff, reduceLT, reduceLeDiff, reduceMul, reduceAdd, reduceIte, reduceCtorEq, Nat.reduceBEq, reduceSub, Int.reduceToNat, encTypes]
      · have h3' := of_decide_eq_true h3
        rw [big (by omega)]
        exact ⟨rfl, rfl⟩
      · have h3' := of_decide_eq_false h3
        have hV : validT t = match firstI (nodeE t) 0 t.nodes.length with
            | some k => ((t.nodes.getD k default).name, nodeE t k)
            | none => match firstI (edgeE t) 0 t.edges.length with
              | some k => ((t.edges.getD k default).name, edgeE t k)
              | none => (⟨#[]⟩, 0) := by unfold validT; rw [if_neg hN, if_neg (by omega)]; try rfl
        clear big
        refine loop_rule (σ := Nat) (fun x => (upd (upd env0 1 (.ptr 1 0)) 4 (.p (.val (.int .i64 x)))))
          (fun x => (hset heap0 1 (.box [.p (.lst (t.nodes.map encNode)), .p (.lst (t.edges.map encEdgeT))])))
          (fun x => x ≤ t.nodes.length ∧ ∀ j, j < x → nodeE t j = 0) (fun x => t.nodes.length - x) 0 ⟨Nat.zero_le _, fun j hj => absurd hj (Nat.not_lt_zero j)⟩ (weak_mk (by repeat (first | exact sub_env0 _ | refine sub_upd ?_ (by first | rfl | simp [upd]))) (by repeat (first | exact hsub0 _ | refine hsub_hset ?_ (by first | rfl | simp [hset]))) (by repeat (first | exact ids_env0 _ | refine ids_upd ?_ (by simp [idsOk, idsOkL, hset]))) (by repeat (first | exact boxIds0 _ | refine boxIds_row ?_ | refine boxIds_shut ?_ | refine boxIds_box ?_ (by simp [idsOk, idsOkL, hset]))) (by repeat (first | exact keep0 _ | refine keep_low (by decide) ?_ | refine keep_high (by simp [hset]) ?_))) ?_
        rintro x ⟨hx, hq⟩
        simp -implicitDefEqProofs only [go_sem, reduceEqDiff, reduceLT, reduceLeDiff, reduceMul, reduceAdd, reduceIte, reduceCtorEq, Nat.reduceBEq, reduceSub, Int.reduceToNat, encTypes]
        refine condC_split (fun hc => ?_) (fun hc => ?_)
        · have hlt : x < t.nodes.length := by simpa using hc
          
          simp -implicitDefEqProofs only [go_sem, reduceEqDiff, reduceLT, reduceLeDiff, reduceMul, reduceAdd, reduceIte, reduceCtorEq, Nat.reduceBEq, reduceSub, Int.reduceToNat, encTypes, getD_map encNode hlt, hlt, encNode]
          refine call_go (rnode_ok t hf x hlt (parOk_of hq)) (by simp -implicitDefEqProofs only [go_sem, reduceEqDiff, reduceLT, reduceLeDiff, reduceMul, reduceAdd, reduceIte, reduceCtorEq, Nat.reduceBEq, reduceSub, Int.reduceToNat, encTypes, getD_map encNode hlt, hlt, encNode] <;> rfl) (scal rfl) ?_
          simp -implicitDefEqProofs only [go_sem, reduceEqDiff, reduceLT, reduceLeDiff, reduceMul, reduceAdd, reduceIte, reduceCtorEq, Nat.reduceBEq, reduceSub, Int.reduceToNat, encTypes, getD_map encNode hlt, hlt, encNode]
          refine condC_splitN (fun h4 => ?_) (fun h4 => ?_) <;> simp -implicitDefEqProofs only [go_sem, reduceEqDiff, reduceLT, reduceLeDiff, reduceMul, reduceAdd, reduceIte, reduceCtorEq, Nat.reduceBEq, reduceSub, Int.reduceToNat, encTypes, getD_map encNode hlt, hlt, encNode]
          · have h4' := of_decide_eq_true h4
            exact loopN_mk (x + 1) ⟨hlt, all_succ hq h4'⟩ (by omega) (by rw [wrap_succ hlt (by omega)]; exact (weak_mk (by repeat (first | exact sub_env0 _ | refine sub_upd ?_ (by first | rfl | simp [upd]))) (by repeat (first | exact hsub0 _ | refine hsub_hset ?_ (by first | rfl | simp [hset]))) (by repeat (first | exact ids_env0 _ | refine ids_upd ?_ (by simp [idsOk, idsOkL, hset]))) (by repeat (first | exact boxIds0 _ | refine boxIds_row ?_ | refine boxIds_shut ?_ | refine boxIds_box ?_ (by simp [idsOk, idsOkL, hset]))) (by repeat (first | exact keep0 _ | refine keep_low (by decide) ?_ | refine keep_high (by simp [hset]) ?_))))
          · have h4' := of_decide_eq_false h4
            rw [hV, firstI_at (Nat.zero_le _) hlt (fun j _ => hq j) h4']
            exact ⟨rfl, rfl⟩
        · have hge : t.nodes.length ≤ x := by simpa using hc
          have hN0 : firstI (nodeE t) 0 t.nodes.length = none := firstI_none fun j _ hj => hq j (by omega)
          rw [hN0] at hV
          simp only [] at hV
          simp -implicitDefEqProofs only [go_sem, reduceEqDiff, reduceLT, reduceLeDiff, reduceMul, reduceAdd, reduceIte, reduceCtorEq, Nat.reduceBEq, reduceSub, Int.reduceToNat, encTypes]
          refine loop_rule (σ := Nat) (fun x => (upd (upd env0 1 (.ptr 1 0)) 6 (.p (.val (.int .i64 x)))))
            (fun x => (hset heap0 1 (.box [.p (.lst (t.nodes.map encNode)), .p (.lst (t.edges.map encEdgeT))])))
            (fun x => x ≤ t.edges.length ∧ ∀ j, j < x → edgeE t j = 0) (fun x => t.edges.length - x) 0 ⟨Nat.zero_le _, fun j hj => absurd hj (Nat.not_lt_zero j)⟩ (weak_mk (by repeat (first | exact sub_env0 _ | refine sub_upd ?_ (by first | rfl | simp [upd]))) (by repeat (first | exact hsub0 _ | refine hsub_hset ?_ (by first | rfl | simp [hset]))) (by repeat (first | exact ids_env0 _ | refine ids_upd ?_ (by simp [idsOk, idsOkL, hset]))) (by repeat (first | exact boxIds0 _ | refine boxIds_row ?_ | refine boxIds_shut ?_ | refine boxIds_box ?_ (by simp [idsOk, idsOkL, hset]))) (by repeat (first | exact keep0 _ | refine keep_low (by decide) ?_ | refine keep_high (by simp [hset]) ?_))) ?_
          rintro y ⟨hy, hq'⟩
          simp -implicitDefEqProofs only [go_sem, reduceEqDiff, reduceLT, reduceLeDiff, reduceMul, reduceAdd, reduceIte, reduceCtorEq, Nat.reduceBEq, reduceSub, Int.reduceToNat, encTypes]
          refine condC_split (fun hc' => ?_) (fun hc' => ?_)
          · have hlt : y < t.edges.length := by simpa using hc'
            
            simp -implicitDefEqProofs only [go_sem, reduceEqDiff, reduceLT, reduceLeDiff, reduceMul, reduceAdd, reduceIte, reduceCtorEq, Nat.reduceBEq, reduceSub, Int.reduceToNat, encTypes, getD_map encEdgeT hlt, hlt, encEdgeT]
            refine call_go (redge_ok t hf y hlt) (by simp -implicitDefEqProofs only [go_sem, reduceEqDiff, reduceLT, reduceLeDiff, reduceMul, reduceAdd, reduceIte, reduceCtorEq, Nat.reduceBEq, reduceSub, Int.reduceToNat, encTypes, getD_map encEdgeT hlt, hlt, encEdgeT] <;> rfl) (scal rfl) ?_
            simp -implicitDefEqProofs only [go_sem, reduceEqDiff, reduceLT, reduceLeDiff, reduceMul, reduceAdd, reduceIte, reduceCtorEq, Nat.reduceBEq, reduceSub, Int.reduceToNat, encTypes, getD_map encEdgeT hlt, hlt, encEdgeT]
            refine condC_splitN (fun h4 => ?_) (fun h4 => ?_) <;> simp -implicitDefEqProofs only [go_sem, reduceEqDiff, reduceLT, reduceLeDiff, reduceMul, reduceAdd, reduceIte, reduceCtorEq, Nat.reduceBEq, reduceSub, Int.reduceToNat, encTypes, getD_map encEdgeT hlt, hlt, encEdgeT]
            · have h4' := of_decide_eq_true h4
              exact loopN_mk (y + 1) ⟨hlt, all_succ hq' h4'⟩ (by omega) (by rw [wrap_succ hlt (by omega)]; exact (weak_mk (by repeat (first | exact sub_env0 _ | refine sub_upd ?_ (by first | rfl | simp [upd]))) (by repeat (first | exact hsub0 _ | refine hsub_hset ?_ (by first | rfl | simp [hset]))) (by repeat (first | exact ids_env0 _ | refine ids_upd ?_ (by simp [idsOk, idsOkL, hset]))) (by repeat (first | exact boxIds0 _ | refine boxIds_row ?_ | refine boxIds_shut ?_ | refine boxIds_box ?_ (by simp [idsOk, idsOkL, hset]))) (by repeat (first | exact keep0 _ | refine keep_low (by decide) ?_ | refine keep_high (by simp [hset]) ?_))))
            · have h4' := of_decide_eq_false h4
              rw [hV, firstI_at (Nat.zero_le _) hlt (fun j _ => hq' j) h4']
              exact ⟨rfl, rfl⟩
          · have hge : t.edges.length ≤ y := by simpa using hc'
            simp -implicitDefEqProofs only [go_sem, reduceEqDiff, reduceLT, reduceLeDiff, reduceMul, reduceAdd, reduceIte, reduceCtorEq, Nat.reduceBEq, reduceSub, Int.reduceToNat, encTypes]
            rw [hV, firstI_none fun j _ hj => hq' j (by omega)]
            exact ⟨rfl, rfl⟩
end Go.Proofs.YtdlohnchnneaeaaGreat
/- Supertypes. -/
namespace Go.Proofs.YtdlohnchnneaeaaGreat
open Go.Abs

theorem firstI_some {f : Nat → Int} {s n k : Nat} (h : firstI f s n = some k) : f k ≠ 0 := by
  unfold firstI at h
  have := List.find?_some h
  simpa using this
theorem firstI_all {f : Nat → Int} {n : Nat} (h : firstI f 0 n = none) : ∀ j, j < n → f j = 0 := by
  intro j hj
  unfold firstI at h
  rw [List.find?_eq_none] at h
  have := h j (by rw [List.mem_range'_1]; omega)
  simpa using this

structure OkT (t : Types) : Prop where
  few : FewT t
  pos : 0 < t.nodes.length
  n12 : t.nodes.length ≤ 12
  m20 : t.edges.length ≤ 20
  node : ∀ j, j < t.nodes.length → nodeE t j = 0
  edge : ∀ j, j < t.edges.length → edgeE t j = 0
theorem okTypes {t : Types} (hf : FewT t) (h : (validT t).2 = 0) : OkT t := by
  unfold validT at h
  split at h
  · cases h
  · split at h
    · cases h
    · split at h
      · rename_i hk; exact absurd h (firstI_some hk)
      · split at h
        · rename_i hk; exact absurd h (firstI_some hk)
        · rename_i h1 h2 _ h3 _ h4
          exact ⟨hf, by omega, by omega, by omega, firstI_all h3, firstI_all h4⟩
theorem OkT.par {t : Types} (h : OkT t) : ParOk t t.nodes.length := parOk_of h.node
theorem OkT.par' {t : Types} (h : OkT t) {a : Nat} (ha : a < t.nodes.length) : ParOk t (a + 1) := fun j hj => h.par j (by omega)
theorem OkT.ends {t : Types} (h : OkT t) {i : Nat} (hi : i < t.edges.length) : inB t (t.edges.getD i default).src = true ∧ inB t (t.edges.getD i default).dst = true := by
  have := h.edge i hi
  unfold edgeE at this
  split at this
  · cases this
  · split at this
    · cases this
    · split at this
      · rename_i h1
        simp only [Bool.and_eq_true] at h1
        exact h1.1
      · cases this
theorem inB_iff {t : Types} {n : Int} : inB t n = true ↔ 0 ≤ n ∧ n < t.nodes.length := by
  unfold inB; simp only [Bool.and_eq_true, decide_eq_true_eq]

def upK (t : Types) : Nat → Int → List Int
  | 0, _ => []
  | k + 1, a => if a < 0 then [] else a :: upK t k (t.nodes.getD a.toNat default).parent
def upL (t : Types) (a : Int) : List Int := upK t (a.toNat + 1) a
def isB (t : Types) (a b : Int) : Bool := (upL t a).any fun x => decide (x = b)

theorem upL_neg {t : Types} {a : Int} (h : a < 0) : upL t a = [] := by unfold upL upK; rw [if_pos h]
theorem upK_fuel {t : Types} : ∀ (k k' : Nat) (a : Int), (∀ j : Nat, (j : Int) ≤ a → -1 ≤ (t.nodes.getD j default).parent ∧ (t.nodes.getD j default).parent < j) → a < k → a < k' → 0 < k → 0 < k' → upK t k a = upK t k' a
  | 0, _, _, _, _, _, h, _ => by omega
  | _ + 1, 0, _, _, _, _, _, h => by omega
  | k + 1, k' + 1, a, hp, h, h', _, _ => by
    unfold upK
    split
    · rfl
    · rename_i h0
      have hq := hp a.toNat (by omega)
      congr 1
      cases k with
      | zero =>
        cases k' with
        | zero => rfl
        | succ k' =>
          have : (t.nodes.getD a.toNat default).parent < 0 := by omega
          unfold upK; rw [if_pos this]
      | succ k =>
        cases k' with
        | zero =>
          have : (t.nodes.getD a.toNat default).parent < 0 := by omega
          unfold upK; rw [if_pos this]
        | succ k' => exact upK_fuel (k + 1) (k' + 1) _ (fun j hj => hp j (by omega)) (by omega) (by omega) (by omega) (by omega)
theorem upL_succ {t : Types} {a : Nat} (hp : ParOk t (a + 1)) : upL t a = (a : Int) :: upL t (t.nodes.getD a default).parent := by
  have hq := hp a (by omega)
  have e : upL t a = (a : Int) :: upK t a (t.nodes.getD a default).parent := by
    unfold upL
    rw [Int.toNat_natCast]
    conv => lhs; unfold upK
    rw [if_neg (by omega), Int.toNat_natCast]
  rw [e]
  congr 1
  by_cases h0 : (t.nodes.getD a default).parent < 0
  · rw [upL_neg h0]
    cases a with
    | zero => rfl
    | succ a => unfold upK; rw [if_pos h0]
  · unfold upL
    exact upK_fuel _ _ _ (fun j hj => hp j (by omega)) (by omega) (by omega) (by omega) (by omega)
theorem isB_neg {t : Types} {a b : Int} (h : a < 0) : isB t a b = false := by unfold isB; rw [upL_neg h]; try rfl
theorem isB_succ {t : Types} {a : Nat} (hp : ParOk t (a + 1)) (b : Int) : isB t a b = (decide ((a : Int) = b) || isB t (t.nodes.getD a default).parent b) := by
  unfold isB; rw [upL_succ hp]; try rfl

def givenT (t : Types) (l : List Int) : Int := if (validT t).2 ≠ 0 then (validT t).2 else if l.any (fun a => !inB t a) = true then 6 else 0

theorem rbelow_ok (t : Types) (b : Int) (hb : 0 ≤ b) (hf : FewT t) : ∀ (n : Nat) (a : Int), a < n → -1 ≤ a → a < t.nodes.length → ParOk t t.nodes.length → CallV Go.Proofs.Tryz.prog 83 [encTypes t, .val (.int .i64 a), .val (.int .i64 b)] (fun r => r = .val (.bool (isB t a b))) := by
  intro n
  induction n with
  | zero =>
    intro a hn ha hl hp
    rw [isB_neg (by omega)]
    refine callV_of_cw [] Ty.mixed Go.Proofs.Tryz.func83 rfl (by kernel_rfl) (by simp [Go.Proofs.Tryz.ntmps83]) ?_; rw [Go.Proofs.Tryz.ntmps83, Go.Proofs.Tryz.results83]
    simp -implicitDefEqProofs only [go_sem, reduceEqDiff, reduceLT, reduceLeDiff, reduceMul, reduceAdd, reduceIte, reduceCtorEq, Nat.reduceBEq, reduceSub, Int.reduceToNat, encTypes]
    refine draw_txt [.q, .q, .q, .q, .q, .q, .q, .q, .q, .q, .q, .q, .q, .q, .q, .q, .q, .q, .q] (by kernel_rfl) ?_
    simp -implicitDefEqProofs only [go_sem, reduceEqDiff, reduceLT, reduceLeDiff, reduceMul, reduceAdd, reduceIte, reduceCtorEq, Nat.reduceBEq, reduceSub, Int.reduceToNat]
    refine walkDG_splitN (fun h1 => ?_) (fun h1 => ?_) <;> simp -implicitDefEqProofs only [go_sem, reduceEqDiff, reduceLT, reduceLeDiff, reduceMul, reduceAdd, reduceIte, reduceCtorEq, Nat.reduceBEq, reduceSub, Int.reduceToNat, h1]
    · have := of_decide_eq_true h1; omega
    · refine walkDG_split (fun h2 => ?_) (fun h2 => ?_) <;> simp -implicitDefEqProofs only [go_sem, reduceEqDiff, reduceLT, reduceLeDiff, reduceMul, reduceAdd, reduceIte, reduceCtorEq, Nat.reduceBEq, reduceSub, Int.reduceToNat, h1, h2]
      have := of_decide_eq_true h2; omega
  | succ n ih =>
    intro a hn ha hl hp
    refine callV_of_cw [] Ty.mixed Go.Proofs.Tryz.func83 rfl (by kernel_rfl) (by simp [Go.Proofs.Tryz.ntmps83]) ?_; rw [Go.Proofs.Tryz.ntmps83, Go.Proofs.Tryz.results83]
    
    simp -implicitDefEqProofs only [go_sem, reduceEqDiff, reduceLT, reduceLeDiff, reduceMul, reduceAdd, reduceIte, reduceCtorEq, Nat.reduceBEq, reduceSub, Int.reduceToNat, encTypes]
    refine draw_txt [.q, .q, .q, .q, .q, .q, .q, .q, .q, .q, .q, .q, .q, .q, .q, .q, .q, .q, .q] (by kernel_rfl) ?_
    simp -implicitDefEqProofs only [go_sem, reduceEqDiff, reduceLT, reduceLeDiff, reduceMul, reduceAdd, reduceIte, reduceCtorEq, Nat.reduceBEq, reduceSub, Int.reduceToNat, encTypes]
    refine walkDG_splitN (fun h1 => ?_) (fun h1 => ?_) <;> simp -implicitDefEqProofs only [go_sem, reduceEqDiff, reduceLT, reduceLeDiff, reduceMul, reduceAdd, reduceIte, reduceCtorEq, Nat.reduceBEq, reduceSub, Int.reduceToNat, h1, encTypes]
    · have h1' := of_decide_eq_true h1
      subst h1'
      obtain ⟨q, rfl⟩ : ∃ q : Nat, a = q := ⟨_, (Int.toNat_of_nonneg hb).symm⟩
      rw [isB_succ (fun j hj => hp j (by omega))]
      simp
    · have h1' := of_decide_eq_false h1
      refine walkDG_split (fun h2 => ?_) (fun h2 => ?_) <;> simp -implicitDefEqProofs only [go_sem, reduceEqDiff, reduceLT, reduceLeDiff, reduceMul, reduceAdd, reduceIte, reduceCtorEq, Nat.reduceBEq, reduceSub, Int.reduceToNat, h1, h2, encTypes]
      · have h2' := of_decide_eq_true h2
        obtain ⟨q, rfl⟩ : ∃ q : Nat, a = q := ⟨_, (Int.toNat_of_nonneg h2').symm⟩
        have hq : q < t.nodes.length := by omega
        have hpq := hp q hq
        
        simp -implicitDefEqProofs only [go_sem, reduceEqDiff, reduceLT, reduceLeDiff, reduceMul, reduceAdd, reduceIte, reduceCtorEq, Nat.reduceBEq, reduceSub, Int.reduceToNat, encTypes, getD_map encNode hq, hq, encNode]
        refine calld_go (ih (t.nodes.getD q default).parent (by omega) hpq.1 (by omega) hp) (by simp -implicitDefEqProofs only [go_sem, reduceEqDiff, reduceLT, reduceLeDiff, reduceMul, reduceAdd, reduceIte, reduceCtorEq, Nat.reduceBEq, reduceSub, Int.reduceToNat, encTypes, getD_map encNode hq, hq, encNode] <;> rfl) (scal rfl) ?_
        simp -implicitDefEqProofs only [go_sem, reduceEqDiff, reduceLT, reduceLeDiff, reduceMul, reduceAdd, reduceIte, reduceCtorEq, Nat.reduceBEq, reduceSub, Int.reduceToNat, h1, h2, encTypes, getD_map encNode hq, hq, encNode]
        rw [isB_succ (fun j hj => hp j (by omega)), h1, Bool.false_or]
      · have h2' := of_decide_eq_false h2
        rw [isB_neg (by omega)]
end Go.Proofs.YtdlohnchnneaeaaGreat
/- Package types and its reference: given, Attrs, Fits. -/
namespace Go.Proofs.YtdlohnchnneaeaaGreat
open Go.Abs

theorem given1_ok (t : Types) (n : Int) : CallV Go.Proofs.Tryz.prog 137 [.val (.int .i64 n), .eptr [.lst (t.nodes.map encNode), .lst (t.edges.map encEdgeT)] 0] (fun r => r = .val (.bool (!inB t n))) := by
  refine callV_of_cw [] Ty.mixed Go.Proofs.Tryz.func137 rfl (by kernel_rfl) (by simp [Go.Proofs.Tryz.ntmps137]) ?_; rw [Go.Proofs.Tryz.ntmps137, Go.Proofs.Tryz.results137]
  simp -implicitDefEqProofs only [go_sem, reduceEqDiff, reduceLT, reduceLeDiff, reduceMul, reduceAdd, reduceIte, reduceCtorEq, Nat.reduceBEq, reduceSub, Int.reduceToNat]
  unfold inB
  repeat' first | done | (refine walkG_splitN (fun h => ?_) (fun h => ?_) <;> try simp -implicitDefEqProofs only [go_sem, reduceEqDiff, reduceLT, reduceLeDiff, reduceMul, reduceAdd, reduceIte, reduceCtorEq, Nat.reduceBEq, reduceSub, Int.reduceToNat, h]) | (refine walkG_split (fun h => ?_) (fun h => ?_) <;> try simp -implicitDefEqProofs only [go_sem, reduceEqDiff, reduceLT, reduceLeDiff, reduceMul, reduceAdd, reduceIte, reduceCtorEq, Nat.reduceBEq, reduceSub, Int.reduceToNat, h]) | (refine condC_splitN (fun h => ?_) (fun h => ?_) <;> try simp -implicitDefEqProofs only [go_sem, reduceEqDiff, reduceLT, reduceLeDiff, reduceMul, reduceAdd, reduceIte, reduceCtorEq, Nat.reduceBEq, reduceSub, Int.reduceToNat, h]) | (refine condC_split (fun h => ?_) (fun h => ?_) <;> try simp -implicitDefEqProofs only [go_sem, reduceEqDiff, reduceLT, reduceLeDiff, reduceMul, reduceAdd, reduceIte, reduceCtorEq, Nat.reduceBEq, reduceSub, Int.reduceToNat, h])
  all_goals (simp only [decide_eq_true_eq, decide_eq_false_iff_not, Bool.not_eq_true', Bool.not_eq_false'] at *; rw [Bool.eq_iff_iff]; simp only [Bool.not_eq_true', Bool.not_eq_false', Bool.and_eq_true, Bool.or_eq_true, Bool.and_eq_false_iff, Bool.or_eq_false_iff, decide_eq_true_eq, decide_eq_false_iff_not, Bool.false_eq_true, true_iff, iff_true, false_iff, iff_false]; omega)
theorem given_ok (t : Types) (hf : FewT t) (l : List Int) (hl : l.length ≤ 1000000) : CallV Go.Proofs.Tryz.prog 109 [encTypes t, .lst (l.map encI)] (fun r => r = .val (.int .i64 (givenT t l))) := by
  unfold givenT
  refine callV_of_cw [] Ty.mixed Go.Proofs.Tryz.func109 rfl (by kernel_rfl) (by simp [Go.Proofs.Tryz.ntmps109]) ?_; rw [Go.Proofs.Tryz.ntmps109, Go.Proofs.Tryz.results109]
  
  simp -implicitDefEqProofs only [go_sem, reduceEqDiff, reduceLT, reduceLeDiff, reduceMul, reduceAdd, reduceIte, reduceCtorEq, Nat.reduceBEq, reduceSub, Int.reduceToNat, encTypes]
  refine call_go (valid_ok t hf) (by simp -implicitDefEqProofs only [go_sem, reduceEqDiff, reduceLT, reduceLeDiff, reduceMul, reduceAdd, reduceIte, reduceCtorEq, Nat.reduceBEq, reduceSub, Int.reduceToNat, encTypes] <;> rfl) (scal rfl) ?_
  simp -implicitDefEqProofs only [go_sem, reduceEqDiff, reduceLT, reduceLeDiff, reduceMul, reduceAdd, reduceIte, reduceCtorEq, Nat.reduceBEq, reduceSub, Int.reduceToNat, encTypes]
  refine condC_splitN (fun h1 => ?_) (fun h1 => ?_) <;> simp -implicitDefEqProofs only [go_sem, reduceEqDiff, reduceLT, reduceLeDiff, reduceMul, reduceAdd, reduceIte, reduceCtorEq, Nat.reduceBEq, reduceSub, Int.reduceToNat, encTypes]
  · have h1' := of_decide_eq_true h1
    rw [if_neg (by rw [h1']; decide)]
    refine call_go (contains_int (fun a => !inB t a) l hl _ [] [.eptr [.lst (t.nodes.map encNode), .lst (t.edges.map encEdgeT)] 0] (fun y _ => given1_ok t y)) (by simp -implicitDefEqProofs only [go_sem, reduceEqDiff, reduceLT, reduceLeDiff, reduceMul, reduceAdd, reduceIte, reduceCtorEq, Nat.reduceBEq, reduceSub, Int.reduceToNat, encTypes] <;> rfl) (scal rfl) ?_
    simp -implicitDefEqProofs only [go_sem, reduceEqDiff, reduceLT, reduceLeDiff, reduceMul, reduceAdd, reduceIte, reduceCtorEq, Nat.reduceBEq, reduceSub, Int.reduceToNat, encTypes]
    refine condC_split (fun h2 => ?_) (fun h2 => ?_) <;> simp -implicitDefEqProofs only [go_sem, reduceEqDiff, reduceLT, reduceLeDiff, reduceMul, reduceAdd, reduceIte, reduceCtorEq, Nat.reduceBEq, reduceSub, Int.reduceToNat, encTypes]
    · rw [if_pos h2]
    · rw [if_neg (by rw [h2]; decide)]
  · have h1' := of_decide_eq_false h1
    rw [if_pos h1']
theorem rgiven_ok (t : Types) (hf : FewT t) (a b : Int) : CallV Go.Proofs.Tryz.prog 80 [encTypes t, .val (.int .i64 a), .val (.int .i64 b)] (fun r => r = .val (.int .i64 (givenT t [a, b]))) := by
  have hn' := hf.nodes
  have hw : IntKind.i64.wrap ((t.nodes.length : Int) - 1) = (t.nodes.length : Int) - 1 := IntWalk.i64_in _ (by omega)
  have hin : ∀ n : Int, (decide (0 ≤ n) && decide (n ≤ (t.nodes.length : Int) - 1)) = inB t n := fun n => by
    unfold inB
    congr 1
    rw [decide_eq_decide]
    omega
  unfold givenT
  refine callV_of_cw [] Ty.mixed Go.Proofs.Tryz.func80 rfl (by kernel_rfl) (by simp [Go.Proofs.Tryz.ntmps80]) ?_; rw [Go.Proofs.Tryz.ntmps80, Go.Proofs.Tryz.results80]
  
  simp -implicitDefEqProofs only [go_sem, reduceEqDiff, reduceLT, reduceLeDiff, reduceMul, reduceAdd, reduceIte, reduceCtorEq, Nat.reduceBEq, reduceSub, Int.reduceToNat, encTypes]
  refine call_go (rvalid_ok t hf) (by simp -implicitDefEqProofs only [go_sem, reduceEqDiff, reduceLT, reduceLeDiff, reduceMul, reduceAdd, reduceIte, reduceCtorEq, Nat.reduceBEq, reduceSub, Int.reduceToNat, encTypes] <;> rfl) (scal rfl) ?_
  simp -implicitDefEqProofs only [go_sem, reduceEqDiff, reduceLT, reduceLeDiff, reduceMul, reduceAdd, reduceIte, reduceCtorEq, Nat.reduceBEq, reduceSub, Int.reduceToNat, encTypes]
  refine condC_splitN (fun h1 => ?_) (fun h1 => ?_) <;> simp -implicitDefEqProofs only [go_sem, reduceEqDiff, reduceLT, reduceLeDiff, reduceMul, reduceAdd, reduceIte, reduceCtorEq, Nat.reduceBEq, reduceSub, Int.reduceToNat, encTypes]
  · have h1' := of_decide_eq_true h1
    rw [if_neg (by rw [h1']; decide)]
    simp -implicitDefEqProofs only [go_sem, reduceEqDiff, reduceLT, reduceLeDiff, reduceMul, reduceAdd, reduceIte, reduceCtorEq, Nat.reduceBEq, reduceSub, Int.reduceToNat, hw, encTypes]
    refine call_go (in_ok a 0 ((t.nodes.length : Int) - 1)) (by simp -implicitDefEqProofs only [go_sem, reduceEqDiff, reduceLT, reduceLeDiff, reduceMul, reduceAdd, reduceIte, reduceCtorEq, Nat.reduceBEq, reduceSub, Int.reduceToNat, encTypes] <;> rfl) (scal rfl) ?_
    simp -implicitDefEqProofs only [go_sem, reduceEqDiff, reduceLT, reduceLeDiff, reduceMul, reduceAdd, reduceIte, reduceCtorEq, Nat.reduceBEq, reduceSub, Int.reduceToNat, hin, encTypes]
    refine walkG_split (fun h2 => ?_) (fun h2 => ?_) <;> simp -implicitDefEqProofs only [go_sem, reduceEqDiff, reduceLT, reduceLeDiff, reduceMul, reduceAdd, reduceIte, reduceCtorEq, Nat.reduceBEq, reduceSub, Int.reduceToNat, h2, hw, encTypes]
    case refine_2 => simp [h2]
    refine call_go (in_ok b 0 ((t.nodes.length : Int) - 1)) (by simp -implicitDefEqProofs only [go_sem, reduceEqDiff, reduceLT, reduceLeDiff, reduceMul, reduceAdd, reduceIte, reduceCtorEq, Nat.reduceBEq, reduceSub, Int.reduceToNat, encTypes] <;> rfl) (scal rfl) ?_
    simp -implicitDefEqProofs only [go_sem, reduceEqDiff, reduceLT, reduceLeDiff, reduceMul, reduceAdd, reduceIte, reduceCtorEq, Nat.reduceBEq, reduceSub, Int.reduceToNat, hin, encTypes]
    refine condC_splitN (fun h3 => ?_) (fun h3 => ?_) <;> simp -implicitDefEqProofs only [go_sem, reduceEqDiff, reduceLT, reduceLeDiff, reduceMul, reduceAdd, reduceIte, reduceCtorEq, Nat.reduceBEq, reduceSub, Int.reduceToNat, h3, encTypes]
    all_goals simp [h2, h3]
  · have h1' := of_decide_eq_false h1
    rw [if_pos h1']

theorem line_ok (t : Types) (ht : OkT t) (a : Nat) (ha : a < t.nodes.length) : CallV Go.Proofs.Tryz.prog 139 [encTypes t, .val (.int .i64 a)] (fun r => r = .lst ((upL t a).reverse.map encI)) := by
  have hn := ht.n12
  refine callV_of_cw [] Ty.mixed Go.Proofs.Tryz.func139 rfl (by kernel_rfl) (by simp [Go.Proofs.Tryz.ntmps139]) ?_; rw [Go.Proofs.Tryz.ntmps139, Go.Proofs.Tryz.results139]
  simp -implicitDefEqProofs only [go_sem, reduceEqDiff, reduceLT, reduceLeDiff, reduceMul, reduceAdd, reduceIte, reduceCtorEq, Nat.reduceBEq, reduceSub, Int.reduceToNat, encTypes]
  refine loop_rule (σ := Int × List Int × Nat) (fun x => (upd (upd (upd env0 1 (.p (.val (.int .i64 x.1)))) 2 (.ptr 2 0)) 5 (.row 5 x.2.2)))
    (fun x => (hset (hset heap0 2 (.box [.p (.lst (t.nodes.map encNode)), .p (.lst (t.edges.map encEdgeT))])) 5 (.row x.2.2 3 1 (x.2.1.map encI))))
    (fun x => (-1 ≤ x.1 ∧ x.1 < t.nodes.length ∧ x.2.1.length + (x.1 + 1).toNat ≤ 20) ∧ x.2.1 ++ upL t x.1 = upL t a) (fun x => (x.1 + 1).toNat) ((a : Int), [], 0) ⟨⟨by omega, by omega, by simp; omega⟩, by simp⟩
    ((weak_nil 5 5 3 1 rfl rfl (by decide)).trans (weak_mk (by repeat (first | exact sub_env0 _ | refine sub_upd ?_ (by first | rfl | simp [upd]))) (by repeat (first | exact hsub0 _ | refine hsub_hset ?_ (by first | rfl | simp [hset]))) (by repeat (first | exact ids_env0 _ | refine ids_upd ?_ (by simp [idsOk, idsOkL, hset]))) (by repeat (first | exact boxIds0 _ | refine boxIds_row ?_ | refine boxIds_shut ?_ | refine boxIds_box ?_ (by simp [idsOk, idsOkL, hset]))) (by repeat (first | exact keep0 _ | refine keep_low (by decide) ?_ | refine keep_high (by simp [hset]) ?_)))) ?_
  rintro ⟨c, acc, v⟩ ⟨⟨h1, h2, h3⟩, h4⟩
  simp only at h1 h2 h3 h4
  simp -implicitDefEqProofs only [go_sem, reduceEqDiff, reduceLT, reduceLeDiff, reduceMul, reduceAdd, reduceIte, reduceCtorEq, Nat.reduceBEq, reduceSub, Int.reduceToNat]
  refine condC_split (fun hc => ?_) (fun hc => ?_)
  · have hc' := of_decide_eq_true hc
    obtain ⟨q, rfl⟩ : ∃ q : Nat, c = q := ⟨_, (Int.toNat_of_nonneg hc').symm⟩
    have hq : q < t.nodes.length := by omega
    have hpq := ht.par q hq
    
    simp -implicitDefEqProofs only [go_sem, reduceEqDiff, reduceLT, reduceLeDiff, reduceMul, reduceAdd, reduceIte, reduceCtorEq, Nat.reduceBEq, reduceSub, Int.reduceToNat, getD_map encNode hq, hq, encNode]
    refine ⟨by omega, ?_⟩
    rw [upL_succ (ht.par' hq)] at h4
    generalize (t.nodes.getD q default).parent = par at hpq h4 ⊢
    refine loopN_mk (par, acc ++ [(q : Int)], v + 1) ⟨⟨by dsimp only; omega, by dsimp only; omega, by simp only [List.length_append, List.length_cons, List.length_nil]; omega⟩, ?_⟩ (by dsimp only; omega) ?_
    · rw [← h4, List.append_assoc]; try rfl
    · rw [List.map_append]
      exact (weak_mk (by repeat (first | exact sub_env0 _ | refine sub_upd ?_ (by first | rfl | simp [upd]))) (by repeat (first | exact hsub0 _ | refine hsub_hset ?_ (by first | rfl | simp [hset]))) (by repeat (first | exact ids_env0 _ | refine ids_upd ?_ (by simp [idsOk, idsOkL, hset]))) (by repeat (first | exact boxIds0 _ | refine boxIds_row ?_ | refine boxIds_shut ?_ | refine boxIds_box ?_ (by simp [idsOk, idsOkL, hset]))) (by repeat (first | exact keep0 _ | refine keep_low (by decide) ?_ | refine keep_high (by simp [hset]) ?_)))
  · have hc' := of_decide_eq_false hc
    rw [upL_neg (by omega), List.append_nil] at h4
    subst h4
    simp -implicitDefEqProofs only [go_sem, reduceEqDiff, reduceLT, reduceLeDiff, reduceMul, reduceAdd, reduceIte, reduceCtorEq, Nat.reduceBEq, reduceSub, Int.reduceToNat]
    refine callm_go (reverse_ok (upL t a) (by omega) v) (by simp -implicitDefEqProofs only [go_sem, reduceEqDiff, reduceLT, reduceLeDiff, reduceMul, reduceAdd, reduceIte, reduceCtorEq, Nat.reduceBEq, reduceSub, Int.reduceToNat] <;> rfl) (by simp -implicitDefEqProofs only [go_sem, reduceEqDiff, reduceLT, reduceLeDiff, reduceMul, reduceAdd, reduceIte, reduceCtorEq, Nat.reduceBEq, reduceSub, Int.reduceToNat] <;> rfl) (by simp -implicitDefEqProofs only [go_sem, reduceEqDiff, reduceLT, reduceLeDiff, reduceMul, reduceAdd, reduceIte, reduceCtorEq, Nat.reduceBEq, reduceSub, Int.reduceToNat] <;> rfl) (fun h => by cases h) ?_
    simp -implicitDefEqProofs only [go_sem, reduceEqDiff, reduceLT, reduceLeDiff, reduceMul, reduceAdd, reduceIte, reduceCtorEq, Nat.reduceBEq, reduceSub, Int.reduceToNat]
theorem is_ok' (t : Types) (ht : OkT t) (a : Nat) (ha : a < t.nodes.length) (b : Int) : CallV Go.Proofs.Tryz.prog 110 [encTypes t, .val (.int .i64 a), .val (.int .i64 b)] (fun r => r = .val (.bool (isB t a b))) := by
  have hl : ∀ n : Int, -1 ≤ n → n < t.nodes.length → (upL t n).length ≤ n.toNat + 1 := by
    intro n h1 h2
    have : ∀ (k : Nat) (n : Int), (upK t k n).length ≤ k := by
      intro k
      induction k with
      | zero => intro n; simp [upK]
      | succ k ih =>
        intro n
        unfold upK
        split
        · simp
        · simp only [List.length_cons]; exact Nat.succ_le_succ (ih _)
    exact this _ _
  have hla := hl a (by omega) (by omega)
  have hn := ht.n12
  refine callV_of_cw [] Ty.mixed Go.Proofs.Tryz.func110 rfl (by kernel_rfl) (by simp [Go.Proofs.Tryz.ntmps110]) ?_; rw [Go.Proofs.Tryz.ntmps110, Go.Proofs.Tryz.results110]
  simp -implicitDefEqProofs only [go_sem, reduceEqDiff, reduceLT, reduceLeDiff, reduceMul, reduceAdd, reduceIte, reduceCtorEq, Nat.reduceBEq, reduceSub, Int.reduceToNat, encTypes]
  refine call_go (line_ok t ht a ha) (by simp -implicitDefEqProofs only [go_sem, reduceEqDiff, reduceLT, reduceLeDiff, reduceMul, reduceAdd, reduceIte, reduceCtorEq, Nat.reduceBEq, reduceSub, Int.reduceToNat] <;> rfl) (pers) ?_
  simp -implicitDefEqProofs only [go_sem, reduceEqDiff, reduceLT, reduceLeDiff, reduceMul, reduceAdd, reduceIte, reduceCtorEq, Nat.reduceBEq, reduceSub, Int.reduceToNat]
  refine call_go (has_int ((upL t a).reverse) b (by simp; omega)) (by simp -implicitDefEqProofs only [go_sem, reduceEqDiff, reduceLT, reduceLeDiff, reduceMul, reduceAdd, reduceIte, reduceCtorEq, Nat.reduceBEq, reduceSub, Int.reduceToNat] <;> rfl) (scal rfl) ?_
  simp -implicitDefEqProofs only [go_sem, reduceEqDiff, reduceLT, reduceLeDiff, reduceMul, reduceAdd, reduceIte, reduceCtorEq, Nat.reduceBEq, reduceSub, Int.reduceToNat]
  unfold isB
  rw [Bool.eq_iff_iff]
  simp only [List.any_eq_true, List.mem_reverse, decide_eq_true_eq]
  constructor
  · rintro ⟨x, h1, h2⟩; exact ⟨x, h1, h2.symm⟩
  · rintro ⟨x, h1, h2⟩; exact ⟨x, h1, h2.symm⟩
end Go.Proofs.YtdlohnchnneaeaaGreat
/- Fits and Attrs of layer 4. -/
namespace Go.Proofs.YtdlohnchnneaeaaGreat
open Go.Abs

theorem givenT_ok {t : Types} {a b : Int} (hf : FewT t) (h : givenT t [a, b] = 0) : OkT t ∧ (0 ≤ a ∧ a < t.nodes.length) ∧ (0 ≤ b ∧ b < t.nodes.length) := by
  unfold givenT at h
  split at h
  · rename_i h1; exact absurd h h1
  · rename_i h1
    split at h
    · cases h
    · rename_i h2
      refine ⟨okTypes hf (Decidable.of_not_not h1), ?_⟩
      simp only [List.any_cons, List.any_nil, Bool.or_false, Bool.or_eq_true, Bool.not_eq_true', not_or, Bool.not_eq_false] at h2
      exact ⟨inB_iff.1 h2.1, inB_iff.1 h2.2⟩

def fitsT (t : Types) (e a b : Int) : Bool := decide (givenT t [a, b] = 0) && ((decide (0 ≤ e) && decide (e < t.edges.length)) && (isB t a (t.edges.getD e.toNat default).src && isB t b (t.edges.getD e.toNat default).dst))

theorem fits_ok (t : Types) (hf : FewT t) (e a b : Int) : CallV Go.Proofs.Tryz.prog 77 [encTypes t, .val (.int .i64 e), .val (.int .i64 a), .val (.int .i64 b)] (fun r => r = .val (.bool (fitsT t e a b))) := by
  refine callV_of_cw [] Ty.mixed Go.Proofs.Tryz.func77 rfl (by kernel_rfl) (by simp [Go.Proofs.Tryz.ntmps77]) ?_; rw [Go.Proofs.Tryz.ntmps77, Go.Proofs.Tryz.results77]
  
  simp -implicitDefEqProofs only [go_sem, reduceEqDiff, reduceLT, reduceLeDiff, reduceMul, reduceAdd, reduceIte, reduceCtorEq, Nat.reduceBEq, reduceSub, Int.reduceToNat, encTypes]
  refine call_go (given_ok t hf [a, b] (by simp)) (by simp -implicitDefEqProofs only [go_sem, reduceEqDiff, reduceLT, reduceLeDiff, reduceMul, reduceAdd, reduceIte, reduceCtorEq, Nat.reduceBEq, reduceSub, Int.reduceToNat, encTypes] <;> rfl) (scal rfl) ?_
  simp -implicitDefEqProofs only [go_sem, reduceEqDiff, reduceLT, reduceLeDiff, reduceMul, reduceAdd, reduceIte, reduceCtorEq, Nat.reduceBEq, reduceSub, Int.reduceToNat, encTypes]
  refine walkG_split (fun h1 => ?_) (fun h1 => ?_) <;> simp -implicitDefEqProofs only [go_sem, reduceEqDiff, reduceLT, reduceLeDiff, reduceMul, reduceAdd, reduceIte, reduceCtorEq, Nat.reduceBEq, reduceSub, Int.reduceToNat, h1, encTypes]
  · have h1' := of_decide_eq_true h1
    obtain ⟨ht, ha, hb⟩ := givenT_ok hf h1'
    refine walkG_splitN (fun h2 => ?_) (fun h2 => ?_) <;> simp -implicitDefEqProofs only [go_sem, reduceEqDiff, reduceLT, reduceLeDiff, reduceMul, reduceAdd, reduceIte, reduceCtorEq, Nat.reduceBEq, reduceSub, Int.reduceToNat, h1, h2, encTypes]
    · have h2' := of_decide_eq_true h2
      unfold fitsT
      rw [decide_eq_false (show ¬ 0 ≤ e by omega)]
      simp
    · have h2' := of_decide_eq_false h2
      refine condC_split (fun h3 => ?_) (fun h3 => ?_) <;> simp -implicitDefEqProofs only [go_sem, reduceEqDiff, reduceLT, reduceLeDiff, reduceMul, reduceAdd, reduceIte, reduceCtorEq, Nat.reduceBEq, reduceSub, Int.reduceToNat, h1, h2, h3, encTypes]
      · have h3' := of_decide_eq_true h3
        unfold fitsT
        rw [decide_eq_false (show ¬ e < t.edges.length by omega)]
        simp
      · have h3' := of_decide_eq_false h3
        obtain ⟨k, rfl⟩ : ∃ k : Nat, e = k := ⟨_, (Int.toNat_of_nonneg (by omega)).symm⟩
        obtain ⟨x, rfl⟩ : ∃ k : Nat, a = k := ⟨_, (Int.toNat_of_nonneg ha.1).symm⟩
        obtain ⟨y, rfl⟩ : ∃ k : Nat, b = k := ⟨_, (Int.toNat_of_nonneg hb.1).symm⟩
        have hk : k < t.edges.length := by omega
        have e0 : fitsT t k x y = (isB t x (t.edges.getD k default).src && isB t y (t.edges.getD k default).dst) := by
          unfold fitsT
          rw [h1, decide_eq_true (show (0 : Int) ≤ k by omega), decide_eq_true (show (k : Int) < t.edges.length by omega)]
          simp
        rw [e0]
        
        refine draw_txt [.q, .q, .q, .q, .q, .q, .q, .q, .q, .q, .q, .q, .q, .q, .q, .q, .q, .q, .q, .q, .q] (by kernel_rfl) ?_
        simp -implicitDefEqProofs only [go_sem, reduceEqDiff, reduceLT, reduceLeDiff, reduceMul, reduceAdd, reduceIte, reduceCtorEq, Nat.reduceBEq, reduceSub, Int.reduceToNat, encTypes, getD_map encEdgeT hk, hk, encEdgeT]
        refine calld_go (is_ok' t ht x (by omega) (t.edges.getD k default).src) (by simp -implicitDefEqProofs only [go_sem, reduceEqDiff, reduceLT, reduceLeDiff, reduceMul, reduceAdd, reduceIte, reduceCtorEq, Nat.reduceBEq, reduceSub, Int.reduceToNat, encTypes, getD_map encEdgeT hk, hk, encEdgeT] <;> rfl) (scal rfl) ?_
        simp -implicitDefEqProofs only [go_sem, reduceEqDiff, reduceLT, reduceLeDiff, reduceMul, reduceAdd, reduceIte, reduceCtorEq, Nat.reduceBEq, reduceSub, Int.reduceToNat, encTypes, getD_map encEdgeT hk, hk, encEdgeT]
        refine walkDG_split (fun h4 => ?_) (fun h4 => ?_) <;> simp -implicitDefEqProofs only [go_sem, reduceEqDiff, reduceLT, reduceLeDiff, reduceMul, reduceAdd, reduceIte, reduceCtorEq, Nat.reduceBEq, reduceSub, Int.reduceToNat, h4, encTypes, getD_map encEdgeT hk, hk, encEdgeT]
        refine calld_go (is_ok' t ht y (by omega) (t.edges.getD k default).dst) (by simp -implicitDefEqProofs only [go_sem, reduceEqDiff, reduceLT, reduceLeDiff, reduceMul, reduceAdd, reduceIte, reduceCtorEq, Nat.reduceBEq, reduceSub, Int.reduceToNat, encTypes, getD_map encEdgeT hk, hk, encEdgeT] <;> rfl) (scal rfl) ?_
        simp -implicitDefEqProofs only [go_sem, reduceEqDiff, reduceLT, reduceLeDiff, reduceMul, reduceAdd, reduceIte, reduceCtorEq, Nat.reduceBEq, reduceSub, Int.reduceToNat, h4, encTypes, getD_map encEdgeT hk, hk, encEdgeT]
  · unfold fitsT; rw [h1]; try rfl

theorem rfits_ok (t : Types) (hf : FewT t) (e a b : Int) : CallV Go.Proofs.Tryz.prog 59 [encTypes t, .val (.int .i64 e), .val (.int .i64 a), .val (.int .i64 b)] (fun r => r = .val (.bool (fitsT t e a b))) := by
  have hm := hf.edges
  have hw : IntKind.i64.wrap ((t.edges.length : Int) - 1) = (t.edges.length : Int) - 1 := IntWalk.i64_in _ (by omega)
  refine callV_of_cw [] Ty.mixed Go.Proofs.Tryz.func59 rfl (by kernel_rfl) (by simp [Go.Proofs.Tryz.ntmps59]) ?_; rw [Go.Proofs.Tryz.ntmps59, Go.Proofs.Tryz.results59]
  
  simp -implicitDefEqProofs only [go_sem, reduceEqDiff, reduceLT, reduceLeDiff, reduceMul, reduceAdd, reduceIte, reduceCtorEq, Nat.reduceBEq, reduceSub, Int.reduceToNat, encTypes]
  refine call_go (rgiven_ok t hf a b) (by simp -implicitDefEqProofs only [go_sem, reduceEqDiff, reduceLT, reduceLeDiff, reduceMul, reduceAdd, reduceIte, reduceCtorEq, Nat.reduceBEq, reduceSub, Int.reduceToNat, encTypes] <;> rfl) (scal rfl) ?_
  simp -implicitDefEqProofs only [go_sem, reduceEqDiff, reduceLT, reduceLeDiff, reduceMul, reduceAdd, reduceIte, reduceCtorEq, Nat.reduceBEq, reduceSub, Int.reduceToNat, encTypes]
  refine walkG_split (fun h1 => ?_) (fun h1 => ?_) <;> simp -implicitDefEqProofs only [go_sem, reduceEqDiff, reduceLT, reduceLeDiff, reduceMul, reduceAdd, reduceIte, reduceCtorEq, Nat.reduceBEq, reduceSub, Int.reduceToNat, h1, encTypes]
  · have h1' := of_decide_eq_true h1
    obtain ⟨ht, ha, hb⟩ := givenT_ok hf h1'
    simp -implicitDefEqProofs only [go_sem, reduceEqDiff, reduceLT, reduceLeDiff, reduceMul, reduceAdd, reduceIte, reduceCtorEq, Nat.reduceBEq, reduceSub, Int.reduceToNat, hw, encTypes]
    refine call_go (in_ok e 0 ((t.edges.length : Int) - 1)) (by simp -implicitDefEqProofs only [go_sem, reduceEqDiff, reduceLT, reduceLeDiff, reduceMul, reduceAdd, reduceIte, reduceCtorEq, Nat.reduceBEq, reduceSub, Int.reduceToNat, encTypes] <;> rfl) (scal rfl) ?_
    simp -implicitDefEqProofs only [go_sem, reduceEqDiff, reduceLT, reduceLeDiff, reduceMul, reduceAdd, reduceIte, reduceCtorEq, Nat.reduceBEq, reduceSub, Int.reduceToNat, h1, encTypes]
    refine condC_splitN (fun h2 => ?_) (fun h2 => ?_) <;> simp -implicitDefEqProofs only [go_sem, reduceEqDiff, reduceLT, reduceLeDiff, reduceMul, reduceAdd, reduceIte, reduceCtorEq, Nat.reduceBEq, reduceSub, Int.reduceToNat, h1, h2, encTypes]
    · have h2' : 0 ≤ e ∧ e ≤ (t.edges.length : Int) - 1 := by simpa only [Bool.and_eq_true, decide_eq_true_eq] using h2
      obtain ⟨k, rfl⟩ : ∃ k : Nat, e = k := ⟨_, (Int.toNat_of_nonneg (by omega)).symm⟩
      obtain ⟨x, rfl⟩ : ∃ k : Nat, a = k := ⟨_, (Int.toNat_of_nonneg ha.1).symm⟩
      obtain ⟨y, rfl⟩ : ∃ k : Nat, b = k := ⟨_, (Int.toNat_of_nonneg hb.1).symm⟩
      have hk : k < t.edges.length := by omega
      have e0 : fitsT t k x y = (isB t x (t.edges.getD k default).src && isB t y (t.edges.getD k default).dst) := by
        unfold fitsT
        rw [h1, decide_eq_true (show (0 : Int) ≤ k by omega), decide_eq_true (show (k : Int) < t.edges.length by omega)]
        simp
      rw [e0]
      have hends := ht.ends hk
      rw [inB_iff, inB_iff] at hends
      
      refine draw_txt [.q, .q, .q, .q, .q, .q, .q, .q, .q, .q, .q, .q, .q, .q, .q, .q, .q, .q, .q, .q, .q] (by kernel_rfl) ?_
      simp -implicitDefEqProofs only [go_sem, reduceEqDiff, reduceLT, reduceLeDiff, reduceMul, reduceAdd, reduceIte, reduceCtorEq, Nat.reduceBEq, reduceSub, Int.reduceToNat, encTypes, getD_map encEdgeT hk, hk, encEdgeT]
      refine calld_go (rbelow_ok t (t.edges.getD k default).src hends.1.1 hf t.nodes.length x (by omega) (by omega) (by omega) ht.par) (by simp -implicitDefEqProofs only [go_sem, reduceEqDiff, reduceLT, reduceLeDiff, reduceMul, reduceAdd, reduceIte, reduceCtorEq, Nat.reduceBEq, reduceSub, Int.reduceToNat, encTypes, getD_map encEdgeT hk, hk, encEdgeT] <;> rfl) (scal rfl) ?_
      simp -implicitDefEqProofs only [go_sem, reduceEqDiff, reduceLT, reduceLeDiff, reduceMul, reduceAdd, reduceIte, reduceCtorEq, Nat.reduceBEq, reduceSub, Int.reduceToNat, encTypes, getD_map encEdgeT hk, hk, encEdgeT]
      refine walkDG_split (fun h4 => ?_) (fun h4 => ?_) <;> simp -implicitDefEqProofs only [go_sem, reduceEqDiff, reduceLT, reduceLeDiff, reduceMul, reduceAdd, reduceIte, reduceCtorEq, Nat.reduceBEq, reduceSub, Int.reduceToNat, h4, encTypes, getD_map encEdgeT hk, hk, encEdgeT]
      refine calld_go (rbelow_ok t (t.edges.getD k default).dst hends.2.1 hf t.nodes.length y (by omega) (by omega) (by omega) ht.par) (by simp -implicitDefEqProofs only [go_sem, reduceEqDiff, reduceLT, reduceLeDiff, reduceMul, reduceAdd, reduceIte, reduceCtorEq, Nat.reduceBEq, reduceSub, Int.reduceToNat, encTypes, getD_map encEdgeT hk, hk, encEdgeT] <;> rfl) (scal rfl) ?_
      simp -implicitDefEqProofs only [go_sem, reduceEqDiff, reduceLT, reduceLeDiff, reduceMul, reduceAdd, reduceIte, reduceCtorEq, Nat.reduceBEq, reduceSub, Int.reduceToNat, h4, encTypes, getD_map encEdgeT hk, hk, encEdgeT]
    · unfold fitsT
      rw [h1]
      by_cases h0 : 0 ≤ e
      · have : ¬ e < t.edges.length := by
          rw [decide_eq_true h0, Bool.true_and] at h2
          have := of_decide_eq_false h2
          omega
        rw [decide_eq_false this]; simp
      · rw [decide_eq_false h0]; simp
  · unfold fitsT; rw [h1]; try rfl

theorem take_app {α : Type} [Inhabited α] (f : α → List PV) {l : List α} {x : Nat} (h : x < l.length) : (l.take x).map f ++ [f (l.getD x default)] = (l.take (x + 1)).map f := by
  rw [take_succ_getD h, List.map_append]; try rfl
theorem set_encAttr (l : List Attr) {x : Nat} (hx : x < l.length) : (l.map encAttr).set x [.val (.string (l.getD x default).name), .val (.int .i64 (l.getD x default).low), .val (.int .i64 (l.getD x default).high), .lst ((l.getD x default).names.map encS)] = l.map encAttr := by
  have : [PV.val (.string (l.getD x default).name), .val (.int .i64 (l.getD x default).low), .val (.int .i64 (l.getD x default).high), .lst ((l.getD x default).names.map encS)] = encAttr (l.getD x default) := rfl
  rw [this, ← List.map_set]
  congr 1
  have h2 : l.getD x default = l[x] := by simp [hx]
  rw [h2]
  simp

theorem OkT.valid {t : Types} (ht : OkT t) : (validT t).2 = 0 := by
  unfold validT
  rw [if_neg (by have := ht.pos; omega), if_neg (by have := ht.n12; have := ht.m20; omega), firstI_none fun j _ hj => ht.node j hj]
  simp only []
  rw [firstI_none fun j _ hj => ht.edge j hj]
theorem OkT.given {t : Types} (ht : OkT t) {l : List Int} (hl : ∀ a ∈ l, 0 ≤ a ∧ a < t.nodes.length) : givenT t l = 0 := by
  unfold givenT
  rw [if_neg (by rw [ht.valid]; decide), if_neg]
  simp only [List.any_eq_true, Bool.not_eq_true', not_exists, not_and, Bool.not_eq_false]
  exact fun a ha => inB_iff.2 (hl a ha)
theorem attrsE_ok (t : Types) (ht : OkT t) (a : Nat) (ha : a < t.nodes.length) : CallV Go.Proofs.Tryz.prog 108 [encTypes t, .val (.int .i64 a)] (fun r => r = .tup [.lst ((attrsAt t a).map encAttr), .val (.int .i64 0)]) := by
  have hlen := attrsAt_len ht.few ha (ht.par' ha)
  have hg : givenT t [(a : Int)] = 0 := ht.given (by simp; omega)
  refine callV_of_cw [] Ty.mixed Go.Proofs.Tryz.func108 rfl (by kernel_rfl) (by simp [Go.Proofs.Tryz.ntmps108]) ?_; rw [Go.Proofs.Tryz.ntmps108, Go.Proofs.Tryz.results108]
  simp -implicitDefEqProofs only [go_sem, reduceEqDiff, reduceLT, reduceLeDiff, reduceMul, reduceAdd, reduceIte, reduceCtorEq, Nat.reduceBEq, reduceSub, Int.reduceToNat, encTypes]
  refine call_go (given_ok t ht.few [(a : Int)] (by simp)) (by simp -implicitDefEqProofs only [go_sem, reduceEqDiff, reduceLT, reduceLeDiff, reduceMul, reduceAdd, reduceIte, reduceCtorEq, Nat.reduceBEq, reduceSub, Int.reduceToNat] <;> rfl) (scal rfl) ?_
  simp -implicitDefEqProofs only [go_sem, reduceEqDiff, reduceLT, reduceLeDiff, reduceMul, reduceAdd, reduceIte, reduceCtorEq, Nat.reduceBEq, reduceSub, Int.reduceToNat, hg]
  refine callf_go 18 (attrs_ok t ht.few a ha (ht.par' ha)) (by simp -implicitDefEqProofs only [go_sem, reduceEqDiff, reduceLT, reduceLeDiff, reduceMul, reduceAdd, reduceIte, reduceCtorEq, Nat.reduceBEq, reduceSub, Int.reduceToNat] <;> rfl) (persF) (by simp -implicitDefEqProofs only [go_sem, reduceEqDiff, reduceLT, reduceLeDiff, reduceMul, reduceAdd, reduceIte, reduceCtorEq, Nat.reduceBEq, reduceSub, Int.reduceToNat]) ?_
  simp -implicitDefEqProofs only [go_sem, reduceEqDiff, reduceLT, reduceLeDiff, reduceMul, reduceAdd, reduceIte, reduceCtorEq, Nat.reduceBEq, reduceSub, Int.reduceToNat]
  refine loop_rule (σ := Nat) (fun x => (upd (upd (upd env0 7 (.row 18 0)) 20 (.p (.val (.int .i64 (attrsAt t a).length)))) 21 (.p (.val (.int .i64 x)))))
    (fun x => (hset heap0 18 (.row 0 107 4 ((attrsAt t a).map encAttr))))
    (fun x => x ≤ (attrsAt t a).length) (fun x => (attrsAt t a).length - x) 0 (Nat.zero_le _) (weak_mk (by repeat (first | exact sub_env0 _ | refine sub_upd ?_ (by first | rfl | simp [upd]))) (by repeat (first | exact hsub0 _ | refine hsub_hset ?_ (by first | rfl | simp [hset]))) (by repeat (first | exact ids_env0 _ | refine ids_upd ?_ (by simp [idsOk, idsOkL, hset]))) (by repeat (first | exact boxIds0 _ | refine boxIds_row ?_ | refine boxIds_shut ?_ | refine boxIds_box ?_ (by simp [idsOk, idsOkL, hset]))) (by repeat (first | exact keep0 _ | refine keep_low (by decide) ?_ | refine keep_high (by simp [hset]) ?_))) ?_
  rintro x hx
  simp -implicitDefEqProofs only [go_sem, reduceEqDiff, reduceLT, reduceLeDiff, reduceMul, reduceAdd, reduceIte, reduceCtorEq, Nat.reduceBEq, reduceSub, Int.reduceToNat]
  refine condC_split (fun hc => ?_) (fun hc => ?_)
  · have hlt : x < (attrsAt t a).length := by simpa using hc
    have hA := ht.few.fewA ha (ht.par' ha) (getD_mem hlt)
    have hn := hA.names
    
    simp -implicitDefEqProofs only [go_sem, reduceEqDiff, reduceLT, reduceLeDiff, reduceMul, reduceAdd, reduceIte, reduceCtorEq, Nat.reduceBEq, reduceSub, Int.reduceToNat, getD_map encAttr hlt, hlt, encAttr, encStrs]
    refine call_go ((clone_str (((attrsAt t a).getD x default).names) (by omega)).toL) (by simp -implicitDefEqProofs only [go_sem, reduceEqDiff, reduceLT, reduceLeDiff, reduceMul, reduceAdd, reduceIte, reduceCtorEq, Nat.reduceBEq, reduceSub, Int.reduceToNat, getD_map encAttr hlt, hlt, encAttr, encStrs] <;> rfl) (pers) ?_
    simp -implicitDefEqProofs only [go_sem, reduceEqDiff, reduceLT, reduceLeDiff, reduceMul, reduceAdd, reduceIte, reduceCtorEq, Nat.reduceBEq, reduceSub, Int.reduceToNat, getD_map encAttr hlt, hlt, encAttr, encStrs]
    rw [set_encAttr _ hlt]
    exact loopN_mk (x + 1) hlt (by omega) (by rw [wrap_succ hlt (by omega)]; exact (weak_mk (by repeat (first | exact sub_env0 _ | refine sub_upd ?_ (by first | rfl | simp [upd]))) (by repeat (first | exact hsub0 _ | refine hsub_hset ?_ (by first | rfl | simp [hset]))) (by repeat (first | exact ids_env0 _ | refine ids_upd ?_ (by simp [idsOk, idsOkL, hset]))) (by repeat (first | exact boxIds0 _ | refine boxIds_row ?_ | refine boxIds_shut ?_ | refine boxIds_box ?_ (by simp [idsOk, idsOkL, hset]))) (by repeat (first | exact keep0 _ | refine keep_low (by decide) ?_ | refine keep_high (by simp [hset]) ?_))))
  · simp -implicitDefEqProofs only [go_sem, reduceEqDiff, reduceLT, reduceLeDiff, reduceMul, reduceAdd, reduceIte, reduceCtorEq, Nat.reduceBEq, reduceSub, Int.reduceToNat]
theorem rattrsE_ok (t : Types) (ht : OkT t) (a : Nat) (ha : a < t.nodes.length) : CallV Go.Proofs.Tryz.prog 58 [encTypes t, .val (.int .i64 a)] (fun r => r = .tup [.lst ((attrsAt t a).map encAttr), .val (.int .i64 0)]) := by
  have hlen := attrsAt_len ht.few ha (ht.par' ha)
  have hg : givenT t [(a : Int), (a : Int)] = 0 := ht.given (by simp; omega)
  refine callV_of_cw [] Ty.mixed Go.Proofs.Tryz.func58 rfl (by kernel_rfl) (by simp [Go.Proofs.Tryz.ntmps58]) ?_; rw [Go.Proofs.Tryz.ntmps58, Go.Proofs.Tryz.results58]
  simp -implicitDefEqProofs only [go_sem, reduceEqDiff, reduceLT, reduceLeDiff, reduceMul, reduceAdd, reduceIte, reduceCtorEq, Nat.reduceBEq, reduceSub, Int.reduceToNat, encTypes]
  refine call_go (rgiven_ok t ht.few (a : Int) (a : Int)) (by simp -implicitDefEqProofs only [go_sem, reduceEqDiff, reduceLT, reduceLeDiff, reduceMul, reduceAdd, reduceIte, reduceCtorEq, Nat.reduceBEq, reduceSub, Int.reduceToNat] <;> rfl) (scal rfl) ?_
  simp -implicitDefEqProofs only [go_sem, reduceEqDiff, reduceLT, reduceLeDiff, reduceMul, reduceAdd, reduceIte, reduceCtorEq, Nat.reduceBEq, reduceSub, Int.reduceToNat, hg]
  refine call_go ((rattrs_ok t ht.few a ha (ht.par' ha)).toL) (by simp -implicitDefEqProofs only [go_sem, reduceEqDiff, reduceLT, reduceLeDiff, reduceMul, reduceAdd, reduceIte, reduceCtorEq, Nat.reduceBEq, reduceSub, Int.reduceToNat] <;> rfl) (pers) ?_
  simp -implicitDefEqProofs only [go_sem, reduceEqDiff, reduceLT, reduceLeDiff, reduceMul, reduceAdd, reduceIte, reduceCtorEq, Nat.reduceBEq, reduceSub, Int.reduceToNat]
  refine loop_rule (σ := Nat) (fun x => (upd (upd (upd env0 7 (.row 7 x)) 8 (.p (.lst ((attrsAt t a).map encAttr)))) 9 (.p (.val (.int .i64 x)))))
    (fun x => (hset heap0 7 (.row x 107 4 (((attrsAt t a).take x).map encAttr))))
    (fun x => x ≤ (attrsAt t a).length) (fun x => (attrsAt t a).length - x) 0 (Nat.zero_le _) ((weak_nil 7 7 107 4 rfl rfl (by decide)).trans (weak_mk (by repeat (first | exact sub_env0 _ | refine sub_upd ?_ (by first | rfl | simp [upd]))) (by repeat (first | exact hsub0 _ | refine hsub_hset ?_ (by first | rfl | simp [hset]))) (by repeat (first | exact ids_env0 _ | refine ids_upd ?_ (by simp [idsOk, idsOkL, hset]))) (by repeat (first | exact boxIds0 _ | refine boxIds_row ?_ | refine boxIds_shut ?_ | refine boxIds_box ?_ (by simp [idsOk, idsOkL, hset]))) (by repeat (first | exact keep0 _ | refine keep_low (by decide) ?_ | refine keep_high (by simp [hset]) ?_)))) ?_
  rintro x hx
  simp -implicitDefEqProofs only [go_sem, reduceEqDiff, reduceLT, reduceLeDiff, reduceMul, reduceAdd, reduceIte, reduceCtorEq, Nat.reduceBEq, reduceSub, Int.reduceToNat]
  refine condC_split (fun hc => ?_) (fun hc => ?_)
  · have hlt : x < (attrsAt t a).length := by simpa using hc
    have hA := ht.few.fewA ha (ht.par' ha) (getD_mem hlt)
    have hn := hA.names
    
    simp -implicitDefEqProofs only [go_sem, reduceEqDiff, reduceLT, reduceLeDiff, reduceMul, reduceAdd, reduceIte, reduceCtorEq, Nat.reduceBEq, reduceSub, Int.reduceToNat, getD_map encAttr hlt, hlt, encAttr, encStrs]
    have e := take_app encAttr hlt
    simp only [encAttr, encStrs] at e
    rw [e]
    refine ⟨⟨by omega, len_encS _⟩, by simp; omega, ?_⟩
    exact loopN_mk (x + 1) hlt (by omega) (by rw [wrap_succ hlt (by omega)]; exact (weak_mk (by repeat (first | exact sub_env0 _ | refine sub_upd ?_ (by first | rfl | simp [upd]))) (by repeat (first | exact hsub0 _ | refine hsub_hset ?_ (by first | rfl | simp [hset]))) (by repeat (first | exact ids_env0 _ | refine ids_upd ?_ (by simp [idsOk, idsOkL, hset]))) (by repeat (first | exact boxIds0 _ | refine boxIds_row ?_ | refine boxIds_shut ?_ | refine boxIds_box ?_ (by simp [idsOk, idsOkL, hset]))) (by repeat (first | exact keep0 _ | refine keep_low (by decide) ?_ | refine keep_high (by simp [hset]) ?_))))
  · have hge : (attrsAt t a).length ≤ x := by simpa using hc
    simp -implicitDefEqProofs only [go_sem, reduceEqDiff, reduceLT, reduceLeDiff, reduceMul, reduceAdd, reduceIte, reduceCtorEq, Nat.reduceBEq, reduceSub, Int.reduceToNat]
    rw [List.take_of_length_le hge]
end Go.Proofs.YtdlohnchnneaeaaGreat
/- Layer 5: errors of graphs. -/
namespace Go.Proofs.YtdlohnchnneaeaaGreat
open Go.Abs

structure FewG (g : Graph) : Prop where
  nodes : g.nodes.length ≤ 45
  edges : g.edges.length ≤ 90

def kindB (n : Int) : Bool := decide (0 ≤ n) && decide (n ≤ 99)
def edgeB (n : Nat) (e : Edge) : Bool := (kindB e.type && (decide (0 ≤ e.src) && decide (e.src ≤ (n : Int) - 1))) && (decide (0 ≤ e.dst) && decide (e.dst ≤ (n : Int) - 1))
def validG (g : Graph) : Int := if 40 < g.nodes.length ∨ 80 < g.edges.length then 3 else if g.nodes.any (fun n => !kindB n) = true then 6 else if g.edges.any (fun e => !edgeB g.nodes.length e) = true then 6 else 0

structure OkG (g : Graph) : Prop where
  nodes : g.nodes.length ≤ 40
  edges : g.edges.length ≤ 80
  kind : ∀ i, i < g.nodes.length → 0 ≤ g.nodes.getD i default ∧ g.nodes.getD i default ≤ 99
  edge : ∀ i, i < g.edges.length → (0 ≤ (g.edges.getD i default).type ∧ (g.edges.getD i default).type ≤ 99) ∧ (0 ≤ (g.edges.getD i default).src ∧ (g.edges.getD i default).src < g.nodes.length) ∧ (0 ≤ (g.edges.getD i default).dst ∧ (g.edges.getD i default).dst < g.nodes.length)
theorem okG {g : Graph} (h : validG g = 0) : OkG g := by
  unfold validG at h
  split at h
  · cases h
  · split at h
    · cases h
    · split at h
      · cases h
      · rename_i h1 h2 h3
        simp only [List.any_eq_true, not_exists, not_and, Bool.not_eq_true', Bool.not_eq_false] at h2 h3
        refine ⟨by omega, by omega, fun i hi => ?_, fun i hi => ?_⟩
        · have := h2 _ (getD_mem hi)
          simpa only [kindB, Bool.and_eq_true, decide_eq_true_eq] using this
        · have := h3 _ (getD_mem hi)
          simp only [edgeB, kindB, Bool.and_eq_true, decide_eq_true_eq] at this
          omega

theorem gfits_ok (e : Edge) (n : Nat) (hn : n ≤ 45) : CallV Go.Proofs.Tryz.prog 107 [.agg (encEdge e), .val (.int .i64 n)] (fun r => r = .val (.bool (edgeB n e))) := by
  have hw : IntKind.i64.wrap ((n : Int) - 1) = (n : Int) - 1 := IntWalk.i64_in _ (by omega)
  unfold edgeB
  refine callV_of_cw [] Ty.mixed Go.Proofs.Tryz.func107 rfl (by kernel_rfl) (by simp [Go.Proofs.Tryz.ntmps107]) ?_; rw [Go.Proofs.Tryz.ntmps107, Go.Proofs.Tryz.results107]
  
  simp -implicitDefEqProofs only [go_sem, reduceEqDiff, reduceLT, reduceLeDiff, reduceMul, reduceAdd, reduceIte, reduceCtorEq, Nat.reduceBEq, reduceSub, Int.reduceToNat, encEdge, hw]
  refine call_go (within_ok e.type 99) (by simp -implicitDefEqProofs only [go_sem, reduceEqDiff, reduceLT, reduceLeDiff, reduceMul, reduceAdd, reduceIte, reduceCtorEq, Nat.reduceBEq, reduceSub, Int.reduceToNat, encEdge, hw] <;> rfl) (scal rfl) ?_
  simp -implicitDefEqProofs only [go_sem, reduceEqDiff, reduceLT, reduceLeDiff, reduceMul, reduceAdd, reduceIte, reduceCtorEq, Nat.reduceBEq, reduceSub, Int.reduceToNat, encEdge, hw]
  have hk : (decide (0 ≤ e.type) && decide (e.type ≤ 99)) = kindB e.type := rfl
  rw [hk]
  refine walkG_split (fun h1 => ?_) (fun h1 => ?_) <;> simp -implicitDefEqProofs only [go_sem, reduceEqDiff, reduceLT, reduceLeDiff, reduceMul, reduceAdd, reduceIte, reduceCtorEq, Nat.reduceBEq, reduceSub, Int.reduceToNat, h1, encEdge, hw]
  refine call_go (within_ok e.src ((n : Int) - 1)) (by simp -implicitDefEqProofs only [go_sem, reduceEqDiff, reduceLT, reduceLeDiff, reduceMul, reduceAdd, reduceIte, reduceCtorEq, Nat.reduceBEq, reduceSub, Int.reduceToNat, encEdge, hw] <;> rfl) (scal rfl) ?_
  simp -implicitDefEqProofs only [go_sem, reduceEqDiff, reduceLT, reduceLeDiff, reduceMul, reduceAdd, reduceIte, reduceCtorEq, Nat.reduceBEq, reduceSub, Int.reduceToNat, encEdge, hw]
  generalize (decide (0 ≤ e.src) && decide (e.src ≤ (n : Int) - 1)) = b1
  refine walkG_split (fun h2 => ?_) (fun h2 => ?_) <;> simp -implicitDefEqProofs only [go_sem, reduceEqDiff, reduceLT, reduceLeDiff, reduceMul, reduceAdd, reduceIte, reduceCtorEq, Nat.reduceBEq, reduceSub, Int.reduceToNat, h2, encEdge, hw]
  refine call_go (within_ok e.dst ((n : Int) - 1)) (by simp -implicitDefEqProofs only [go_sem, reduceEqDiff, reduceLT, reduceLeDiff, reduceMul, reduceAdd, reduceIte, reduceCtorEq, Nat.reduceBEq, reduceSub, Int.reduceToNat, encEdge, hw] <;> rfl) (scal rfl) ?_
  simp -implicitDefEqProofs only [go_sem, reduceEqDiff, reduceLT, reduceLeDiff, reduceMul, reduceAdd, reduceIte, reduceCtorEq, Nat.reduceBEq, reduceSub, Int.reduceToNat, encEdge, hw]
theorem gvalid1_ok (n : Int) : CallV Go.Proofs.Tryz.prog 103 [.val (.int .i64 n)] (fun r => r = .val (.bool (!kindB n))) := by
  unfold kindB
  refine callV_of_cw [] Ty.mixed Go.Proofs.Tryz.func103 rfl (by kernel_rfl) (by simp [Go.Proofs.Tryz.ntmps103]) ?_; rw [Go.Proofs.Tryz.ntmps103, Go.Proofs.Tryz.results103]
  simp -implicitDefEqProofs only [go_sem, reduceEqDiff, reduceLT, reduceLeDiff, reduceMul, reduceAdd, reduceIte, reduceCtorEq, Nat.reduceBEq, reduceSub, Int.reduceToNat]
  refine call_go (within_ok n 99) (by simp -implicitDefEqProofs only [go_sem, reduceEqDiff, reduceLT, reduceLeDiff, reduceMul, reduceAdd, reduceIte, reduceCtorEq, Nat.reduceBEq, reduceSub, Int.reduceToNat] <;> rfl) (scal rfl) ?_
  simp -implicitDefEqProofs only [go_sem, reduceEqDiff, reduceLT, reduceLeDiff, reduceMul, reduceAdd, reduceIte, reduceCtorEq, Nat.reduceBEq, reduceSub, Int.reduceToNat]
theorem gvalid2_ok (g : Graph) (hg : FewG g) (e : Edge) : CallV Go.Proofs.Tryz.prog 106 [.agg (encEdge e), .eptr [encInts g.nodes, .lst (g.edges.map encEdge)] 0] (fun r => r = .val (.bool (!edgeB g.nodes.length e))) := by
  refine callV_of_cw [] Ty.mixed Go.Proofs.Tryz.func106 rfl (by kernel_rfl) (by simp [Go.Proofs.Tryz.ntmps106]) ?_; rw [Go.Proofs.Tryz.ntmps106, Go.Proofs.Tryz.results106]
  simp -implicitDefEqProofs only [go_sem, reduceEqDiff, reduceLT, reduceLeDiff, reduceMul, reduceAdd, reduceIte, reduceCtorEq, Nat.reduceBEq, reduceSub, Int.reduceToNat, encEdge, encInts]
  refine call_go (gfits_ok e g.nodes.length hg.nodes) (by simp -implicitDefEqProofs only [go_sem, reduceEqDiff, reduceLT, reduceLeDiff, reduceMul, reduceAdd, reduceIte, reduceCtorEq, Nat.reduceBEq, reduceSub, Int.reduceToNat] <;> rfl) (scal rfl) ?_
  simp -implicitDefEqProofs only [go_sem, reduceEqDiff, reduceLT, reduceLeDiff, reduceMul, reduceAdd, reduceIte, reduceCtorEq, Nat.reduceBEq, reduceSub, Int.reduceToNat]
theorem gvalid_ok (g : Graph) (hg : FewG g) : CallV Go.Proofs.Tryz.prog 75 [encGraph g] (fun r => r = .val (.int .i64 (validG g))) := by
  have h1 := hg.nodes
  have h2 := hg.edges
  unfold validG
  refine callV_of_cw [] Ty.mixed Go.Proofs.Tryz.func75 rfl (by kernel_rfl) (by simp [Go.Proofs.Tryz.ntmps75]) ?_; rw [Go.Proofs.Tryz.ntmps75, Go.Proofs.Tryz.results75]
  
  simp -implicitDefEqProofs only [go_sem, reduceEqDiff, reduceLT, reduceLeDiff, reduceMul, reduceAdd, reduceIte, reduceCtorEq, Nat.reduceBEq, reduceSub, Int.reduceToNat, encGraph, encInts]
  refine walkG_splitN (fun h3 => ?_) (fun h3 => ?_) <;> simp -implicitDefEqProofs only [go_sem, reduceEqDiff, reduceLT, reduceLeDiff, reduceMul, reduceAdd, reduceIte, reduceCtorEq, Nat.reduceBEq, reduceSub, Int.reduceToNat, h3, encGraph, encInts]
  · have h3' := of_decide_eq_true h3
    rw [if_pos (by omega)]
  · have h3' := of_decide_eq_false h3
    refine condC_split (fun h4 => ?_) (fun h4 => ?_) <;> simp -implicitDefEqProofs only [go_sem, reduceEqDiff, reduceLT, reduceLeDiff, reduceMul, reduceAdd, reduceIte, reduceCtorEq, Nat.reduceBEq, reduceSub, Int.reduceToNat, encGraph, encInts]
    · have h4' := of_decide_eq_true h4
      rw [if_pos (by omega)]
    · have h4' := of_decide_eq_false h4
      rw [if_neg (by omega)]
      refine call_go (contains_int (fun n => !kindB n) g.nodes (by omega) _ [] [] (fun y _ => gvalid1_ok y)) (by simp -implicitDefEqProofs only [go_sem, reduceEqDiff, reduceLT, reduceLeDiff, reduceMul, reduceAdd, reduceIte, reduceCtorEq, Nat.reduceBEq, reduceSub, Int.reduceToNat, encGraph, encInts] <;> rfl) (scal rfl) ?_
      simp -implicitDefEqProofs only [go_sem, reduceEqDiff, reduceLT, reduceLeDiff, reduceMul, reduceAdd, reduceIte, reduceCtorEq, Nat.reduceBEq, reduceSub, Int.reduceToNat, encGraph, encInts]
      refine condC_split (fun h5 => ?_) (fun h5 => ?_) <;> simp -implicitDefEqProofs only [go_sem, reduceEqDiff, reduceLT, reduceLeDiff, reduceMul, reduceAdd, reduceIte, reduceCtorEq, Nat.reduceBEq, reduceSub, Int.reduceToNat, encGraph, encInts]
      · rw [if_pos h5]
      · rw [if_neg (by rw [h5]; decide)]
        refine call_go (contains_edge (fun e => !edgeB g.nodes.length e) g.edges (by omega) _ [] [.eptr [encInts g.nodes, .lst (g.edges.map encEdge)] 0] (fun y _ => gvalid2_ok g hg y)) (by simp -implicitDefEqProofs only [go_sem, reduceEqDiff, reduceLT, reduceLeDiff, reduceMul, reduceAdd, reduceIte, reduceCtorEq, Nat.reduceBEq, reduceSub, Int.reduceToNat, encGraph, encInts] <;> rfl) (scal rfl) ?_
        simp -implicitDefEqProofs only [go_sem, reduceEqDiff, reduceLT, reduceLeDiff, reduceMul, reduceAdd, reduceIte, reduceCtorEq, Nat.reduceBEq, reduceSub, Int.reduceToNat, encGraph, encInts]
        refine condC_split (fun h6 => ?_) (fun h6 => ?_) <;> simp -implicitDefEqProofs only [go_sem, reduceEqDiff, reduceLT, reduceLeDiff, reduceMul, reduceAdd, reduceIte, reduceCtorEq, Nat.reduceBEq, reduceSub, Int.reduceToNat, encGraph, encInts]
        · rw [if_pos h6]
        · rw [if_neg (by rw [h6]; decide)]

theorem rkind_ok (n : Int) : CallV Go.Proofs.Tryz.prog 111 [.val (.int .i64 n)] (fun r => r = .val (.bool (kindB n))) := by
  unfold kindB
  refine callV_of_cw [] Ty.mixed Go.Proofs.Tryz.func111 rfl (by kernel_rfl) (by simp [Go.Proofs.Tryz.ntmps111]) ?_; rw [Go.Proofs.Tryz.ntmps111, Go.Proofs.Tryz.results111]
  simp -implicitDefEqProofs only [go_sem, reduceEqDiff, reduceLT, reduceLeDiff, reduceMul, reduceAdd, reduceIte, reduceCtorEq, Nat.reduceBEq, reduceSub, Int.reduceToNat]
  repeat' first | done | (refine walkG_splitN (fun h => ?_) (fun h => ?_) <;> try simp -implicitDefEqProofs only [go_sem, reduceEqDiff, reduceLT, reduceLeDiff, reduceMul, reduceAdd, reduceIte, reduceCtorEq, Nat.reduceBEq, reduceSub, Int.reduceToNat, h]) | (refine walkG_split (fun h => ?_) (fun h => ?_) <;> try simp -implicitDefEqProofs only [go_sem, reduceEqDiff, reduceLT, reduceLeDiff, reduceMul, reduceAdd, reduceIte, reduceCtorEq, Nat.reduceBEq, reduceSub, Int.reduceToNat, h]) | (refine condC_splitN (fun h => ?_) (fun h => ?_) <;> try simp -implicitDefEqProofs only [go_sem, reduceEqDiff, reduceLT, reduceLeDiff, reduceMul, reduceAdd, reduceIte, reduceCtorEq, Nat.reduceBEq, reduceSub, Int.reduceToNat, h]) | (refine condC_split (fun h => ?_) (fun h => ?_) <;> try simp -implicitDefEqProofs only [go_sem, reduceEqDiff, reduceLT, reduceLeDiff, reduceMul, reduceAdd, reduceIte, reduceCtorEq, Nat.reduceBEq, reduceSub, Int.reduceToNat, h])
theorem rright_ok (e : Edge) (n : Nat) : CallV Go.Proofs.Tryz.prog 112 [.agg (encEdge e), .val (.int .i64 n)] (fun r => r = .val (.bool (edgeB n e))) := by
  refine callV_of_cw [] Ty.mixed Go.Proofs.Tryz.func112 rfl (by kernel_rfl) (by simp [Go.Proofs.Tryz.ntmps112]) ?_; rw [Go.Proofs.Tryz.ntmps112, Go.Proofs.Tryz.results112]
  
  simp -implicitDefEqProofs only [go_sem, reduceEqDiff, reduceLT, reduceLeDiff, reduceMul, reduceAdd, reduceIte, reduceCtorEq, Nat.reduceBEq, reduceSub, Int.reduceToNat, encEdge]
  refine call_go (rkind_ok e.type) (by simp -implicitDefEqProofs only [go_sem, reduceEqDiff, reduceLT, reduceLeDiff, reduceMul, reduceAdd, reduceIte, reduceCtorEq, Nat.reduceBEq, reduceSub, Int.reduceToNat, encEdge] <;> rfl) (scal rfl) ?_
  simp -implicitDefEqProofs only [go_sem, reduceEqDiff, reduceLT, reduceLeDiff, reduceMul, reduceAdd, reduceIte, reduceCtorEq, Nat.reduceBEq, reduceSub, Int.reduceToNat, encEdge]
  refine walkG_split (fun h1 => ?_) (fun h1 => ?_) <;> simp -implicitDefEqProofs only [go_sem, reduceEqDiff, reduceLT, reduceLeDiff, reduceMul, reduceAdd, reduceIte, reduceCtorEq, Nat.reduceBEq, reduceSub, Int.reduceToNat, h1, encEdge]
  · have e0 : edgeB n e = ((decide (0 ≤ e.src) && decide (e.src ≤ (n : Int) - 1)) && (decide (0 ≤ e.dst) && decide (e.dst ≤ (n : Int) - 1))) := by unfold edgeB; rw [h1, Bool.true_and]
    rw [e0]
    repeat' first | done | (refine walkG_splitN (fun h => ?_) (fun h => ?_) <;> try simp -implicitDefEqProofs only [go_sem, reduceEqDiff, reduceLT, reduceLeDiff, reduceMul, reduceAdd, reduceIte, reduceCtorEq, Nat.reduceBEq, reduceSub, Int.reduceToNat, h, h1, encEdge]) | (refine walkG_split (fun h => ?_) (fun h => ?_) <;> try simp -implicitDefEqProofs only [go_sem, reduceEqDiff, reduceLT, reduceLeDiff, reduceMul, reduceAdd, reduceIte, reduceCtorEq, Nat.reduceBEq, reduceSub, Int.reduceToNat, h, h1, encEdge]) | (refine condC_splitN (fun h => ?_) (fun h => ?_) <;> try simp -implicitDefEqProofs only [go_sem, reduceEqDiff, reduceLT, reduceLeDiff, reduceMul, reduceAdd, reduceIte, reduceCtorEq, Nat.reduceBEq, reduceSub, Int.reduceToNat, h, h1, encEdge]) | (refine condC_split (fun h => ?_) (fun h => ?_) <;> try simp -implicitDefEqProofs only [go_sem, reduceEqDiff, reduceLT, reduceLeDiff, reduceMul, reduceAdd, reduceIte, reduceCtorEq, Nat.reduceBEq, reduceSub, Int.reduceToNat, h, h1, encEdge])
    all_goals (simp only [decide_eq_true_eq, decide_eq_false_iff_not, Bool.not_eq_true', Bool.not_eq_false'] at *; rw [Bool.eq_iff_iff]; simp only [Bool.not_eq_true', Bool.not_eq_false', Bool.and_eq_true, Bool.or_eq_true, Bool.and_eq_false_iff, Bool.or_eq_false_iff, decide_eq_true_eq, decide_eq_false_iff_not, Bool.false_eq_true, true_iff, iff_true, false_iff, iff_false]; omega)
  · unfold edgeB; rw [h1]; try rfl

theorem any_true {α : Type} [Inhabited α] {p : α → Bool} {l : List α} {j : Nat} (hj : j < l.length) (h : p (l.getD j default) = true) : l.any p = true := List.any_eq_true.2 ⟨_, getD_mem hj, h⟩
theorem any_false {α : Type} [Inhabited α] {p : α → Bool} {l : List α} (h : ∀ j, j < l.length → p (l.getD j default) = false) : l.any p = false := by
  rw [← List.take_length (l := l)]
  exact take_any_false (Nat.le_refl _) h

theorem rgvalid_ok (g : Graph) (hg : FewG g) : CallV Go.Proofs.Tryz.prog 78 [encGraph g] (fun r => r = .val (.int .i64 (validG g))) := by
  have h1 := hg.nodes
  have h2 := hg.edges
  unfold validG
  refine callV_of_cw [] Ty.mixed Go.Proofs.Tryz.func78 rfl (by kernel_rfl) (by simp [Go.Proofs.Tryz.ntmps78]) ?_; rw [Go.Proofs.Tryz.ntmps78, Go.Proofs.Tryz.results78]
  
  simp -implicitDefEqProofs only [go_sem, reduceEqDiff, reduceLT, reduceLeDiff, reduceMul, reduceAdd, reduceIte, reduceCtorEq, Nat.reduceBEq, reduceSub, Int.reduceToNat, encGraph, encInts]
  refine walkG_splitN (fun h3 => ?_) (fun h3 => ?_) <;> simp -implicitDefEqProofs only [go_sem, reduceEqDiff, reduceLT, reduceLeDiff, reduceMul, reduceAdd, reduceIte, reduceCtorEq, Nat.reduceBEq, reduceSub, Int.reduceToNat, h3, encGraph, encInts]
  · have h3' := of_decide_eq_true h3
    rw [if_pos (by omega)]
  · have h3' := of_decide_eq_false h3
    refine condC_split (fun h4 => ?_) (fun h4 => ?_) <;> simp -implicitDefEqProofs only [go_sem, reduceEqDiff, reduceLT, reduceLeDiff, reduceMul, reduceAdd, reduceIte, reduceCtorEq, Nat.reduceBEq, reduceSub, Int.reduceToNat, encGraph, encInts]
    · have h4' := of_decide_eq_true h4
      rw [if_pos (by omega)]
    · have h4' := of_decide_eq_false h4
      rw [if_neg (by omega)]
      refine loop_rule (σ := Nat) (fun x => (upd (upd env0 1 (.ptr 1 0)) 3 (.p (.val (.int .i64 x)))))
        (fun x => (hset heap0 1 (.box [.p (.lst (g.nodes.map encI)), .p (.lst (g.edges.map encEdge))])))
        (fun x => x ≤ g.nodes.length ∧ ∀ j, j < x → (!kindB (g.nodes.getD j default)) = false) (fun x => g.nodes.length - x) 0 ⟨Nat.zero_le _, fun j hj => absurd hj (Nat.not_lt_zero j)⟩ (weak_mk (by repeat (first | exact sub_env0 _ | refine sub_upd ?_ (by first | rfl | simp [upd]))) (by repeat (first | exact hsub0 _ | refine hsub_hset ?_ (by first | rfl | simp [hset]))) (by repeat (first | exact ids_env0 _ | refine ids_upd ?_ (by simp [idsOk, idsOkL, hset]))) (by repeat (first | exact boxIds0 _ | refine boxIds_row ?_ | refine boxIds_shut ?_ | refine boxIds_box ?_ (by simp [idsOk, idsOkL, hset]))) (by repeat (first | exact keep0 _ | refine keep_low (by decide) ?_ | refine keep_high (by simp [hset]) ?_))) ?_
      rintro x ⟨hx, hq⟩
      simp -implicitDefEqProofs only [go_sem, reduceEqDiff, reduceLT, reduceLeDiff, reduceMul, reduceAdd, reduceIte, reduceCtorEq, Nat.reduceBEq, reduceSub, Int.reduceToNat, encGraph, encInts]
      refine condC_split (fun hc => ?_) (fun hc => ?_)
      · have hlt : x < g.nodes.length := by simpa using hc
        
        simp -implicitDefEqProofs only [go_sem, reduceEqDiff, reduceLT, reduceLeDiff, reduceMul, reduceAdd, reduceIte, reduceCtorEq, Nat.reduceBEq, reduceSub, Int.reduceToNat, encGraph, encInts, getD_map encI hlt, hlt, encI]
        refine call_go (rkind_ok (g.nodes.getD x default)) (by simp -implicitDefEqProofs only [go_sem, reduceEqDiff, reduceLT, reduceLeDiff, reduceMul, reduceAdd, reduceIte, reduceCtorEq, Nat.reduceBEq, reduceSub, Int.reduceToNat, encGraph, encInts, getD_map encI hlt, hlt, encI] <;> rfl) (scal rfl) ?_
        simp -implicitDefEqProofs only [go_sem, reduceEqDiff, reduceLT, reduceLeDiff, reduceMul, reduceAdd, reduceIte, reduceCtorEq, Nat.reduceBEq, reduceSub, Int.reduceToNat, encGraph, encInts, getD_map encI hlt, hlt, encI]
        refine condC_splitN (fun h5 => ?_) (fun h5 => ?_) <;> simp -implicitDefEqProofs only [go_sem, reduceEqDiff, reduceLT, reduceLeDiff, reduceMul, reduceAdd, reduceIte, reduceCtorEq, Nat.reduceBEq, reduceSub, Int.reduceToNat, encGraph, encInts, getD_map encI hlt, hlt, encI]
        · exact loopN_mk (x + 1) ⟨hlt, all_succB (p := fun j => !kindB (g.nodes.getD j default)) (fun j hj => by have := hq j hj; simpa using this) (by rw [h5]; rfl)⟩ (by omega) (by rw [wrap_succ hlt (by omega)]; exact (weak_mk (by repeat (first | exact sub_env0 _ | refine sub_upd ?_ (by first | rfl | simp [upd]))) (by repeat (first | exact hsub0 _ | refine hsub_hset ?_ (by first | rfl | simp [hset]))) (by repeat (first | exact ids_env0 _ | refine ids_upd ?_ (by simp [idsOk, idsOkL, hset]))) (by repeat (first | exact boxIds0 _ | refine boxIds_row ?_ | refine boxIds_shut ?_ | refine boxIds_box ?_ (by simp [idsOk, idsOkL, hset]))) (by repeat (first | exact keep0 _ | refine keep_low (by decide) ?_ | refine keep_high (by simp [hset]) ?_))))
        · rw [if_pos (any_true (p := fun n => !kindB n) hlt (by rw [h5]; rfl))]
      · have hge : g.nodes.length ≤ x := by simpa using hc
        rw [if_neg (by rw [any_false (p := fun n => !kindB n) fun j hj => hq j (by omega)]; decide)]
        simp -implicitDefEqProofs only [go_sem, reduceEqDiff, reduceLT, reduceLeDiff, reduceMul, reduceAdd, reduceIte, reduceCtorEq, Nat.reduceBEq, reduceSub, Int.reduceToNat, encGraph, encInts]
        refine loop_rule (σ := Nat) (fun x => (upd (upd env0 1 (.ptr 1 0)) 4 (.p (.val (.int .i64 x)))))
          (fun x => (hset heap0 1 (.box [.p (.lst (g.nodes.map encI)), .p (.lst (g.edges.map encEdge))])))
          (fun x => x ≤ g.edges.length ∧ ∀ j, j < x → (!edgeB g.nodes.length (g.edges.getD j default)) = false) (fun x => g.edges.length - x) 0 ⟨Nat.zero_le _, fun j hj => absurd hj (Nat.not_lt_zero j)⟩ (weak_mk (by repeat (first | exact sub_env0 _ | refine sub_upd ?_ (by first | rfl | simp [upd]))) (by repeat (first | exact hsub0 _ | refine hsub_hset ?_ (by first | rfl | simp [hset]))) (by repeat (first | exact ids_env0 _ | refine ids_upd ?_ (by simp [idsOk, idsOkL, hset]))) (by repeat (first | exact boxIds0 _ | refine boxIds_row ?_ | refine boxIds_shut ?_ | refine boxIds_box ?_ (by simp [idsOk, idsOkL, hset]))) (by repeat (first | exact keep0 _ | refine keep_low (by decide) ?_ | refine keep_high (by simp [hset]) ?_))) ?_
        rintro y ⟨hy, hq'⟩
        simp -implicitDefEqProofs only [go_sem, reduceEqDiff, reduceLT, reduceLeDiff, reduceMul, reduceAdd, reduceIte, reduceCtorEq, Nat.reduceBEq, reduceSub, Int.reduceToNat, encGraph, encInts]
        refine condC_split (fun hc' => ?_) (fun hc' => ?_)
        · have hlt : y < g.edges.length := by simpa using hc'
          
          simp -implicitDefEqProofs only [go_sem, reduceEqDiff, reduceLT, reduceLeDiff, reduceMul, reduceAdd, reduceIte, reduceCtorEq, Nat.reduceBEq, reduceSub, Int.reduceToNat, encGraph, encInts, getD_map encEdge hlt, hlt, encEdge]
          refine draw_txt [.q, .q, .q, .q, .q, .q, .q, .q, .q, .q] (by kernel_rfl) ?_
          simp -implicitDefEqProofs only [go_sem, reduceEqDiff, reduceLT, reduceLeDiff, reduceMul, reduceAdd, reduceIte, reduceCtorEq, Nat.reduceBEq, reduceSub, Int.reduceToNat, encGraph, encInts, getD_map encEdge hlt, hlt, encEdge]
          refine calld_go (rright_ok (g.edges.getD y default) g.nodes.length) (by simp -implicitDefEqProofs only [go_sem, reduceEqDiff, reduceLT, reduceLeDiff, reduceMul, reduceAdd, reduceIte, reduceCtorEq, Nat.reduceBEq, reduceSub, Int.reduceToNat, encGraph, encInts, getD_map encEdge hlt, hlt, encEdge] <;> rfl) (scal rfl) ?_
          simp -implicitDefEqProofs only [go_sem, reduceEqDiff, reduceLT, reduceLeDiff, reduceMul, reduceAdd, reduceIte, reduceCtorEq, Nat.reduceBEq, reduceSub, Int.reduceToNat, encGraph, encInts, getD_map encEdge hlt, hlt, encEdge]
          refine condC_splitN (fun h5 => ?_) (fun h5 => ?_) <;> simp -implicitDefEqProofs only [go_sem, reduceEqDiff, reduceLT, reduceLeDiff, reduceMul, reduceAdd, reduceIte, reduceCtorEq, Nat.reduceBEq, reduceSub, Int.reduceToNat, encGraph, encInts, getD_map encEdge hlt, hlt, encEdge]
          · exact loopN_mk (y + 1) ⟨hlt, all_succB (p := fun j => !edgeB g.nodes.length (g.edges.getD j default)) (fun j hj => by have := hq' j hj; simpa using this) (by rw [h5]; rfl)⟩ (by omega) (by rw [wrap_succ hlt (by omega)]; exact (weak_mk (by repeat (first | exact sub_env0 _ | refine sub_upd ?_ (by first | rfl | simp [upd]))) (by repeat (first | exact hsub0 _ | refine hsub_hset ?_ (by first | rfl | simp [hset]))) (by repeat (first | exact ids_env0 _ | refine ids_upd ?_ (by simp [idsOk, idsOkL, hset]))) (by repeat (first | exact boxIds0 _ | refine boxIds_row ?_ | refine boxIds_shut ?_ | refine boxIds_box ?_ (by simp [idsOk, idsOkL, hset]))) (by repeat (first | exact keep0 _ | refine keep_low (by decide) ?_ | refine keep_high (by simp [hset]) ?_))))
          · rw [if_pos (any_true (p := fun e => !edgeB g.nodes.length e) hlt (by rw [h5]; rfl))]
        · have hge' : g.edges.length ≤ y := by simpa using hc'
          rw [if_neg (by rw [any_false (p := fun e => !edgeB g.nodes.length e) fun j hj => hq' j (by omega)]; decide)]
          simp -implicitDefEqProofs only [go_sem, reduceEqDiff, reduceLT, reduceLeDiff, reduceMul, reduceAdd, reduceIte, reduceCtorEq, Nat.reduceBEq, reduceSub, Int.reduceToNat, encGraph, encInts]
end Go.Proofs.YtdlohnchnneaeaaGreat
/- Layer 15: errors of hosts. -/
namespace Go.Proofs.YtdlohnchnneaeaaGreat
open Go.Abs

structure FewH (h : Host) : Prop where
  graph : FewG h.graph
  values : h.values.length ≤ 45
  row : ∀ l ∈ h.values, l.length ≤ 12

def valueE (t : Types) (kind : Nat) (values : List Int) (k : Nat) : Int := if values.getD k default < ((attrsAt t kind).getD k default).low ∨ ((attrsAt t kind).getD k default).high < values.getD k default then 6 else 0
def nodeH (t : Types) (kind : Int) (values : List Int) : Int :=
  if (t.nodes.length : Int) ≤ kind then 6
  else if (t.nodes.getD kind.toNat default).abs = true then 13
  else if values.length ≠ (attrsAt t kind.toNat).length then 20
  else firstE (valueE t kind.toNat values) 0 values.length
def edgeH (t : Types) (h : Host) (i : Nat) : Int :=
  if (t.edges.length : Int) ≤ (h.graph.edges.getD i default).type then 6
  else if fitsT t (h.graph.edges.getD i default).type (h.graph.nodes.getD (h.graph.edges.getD i default).src.toNat default) (h.graph.nodes.getD (h.graph.edges.getD i default).dst.toNat default) = true then 0 else 13
def validH (t : Types) (h : Host) : Int × Int :=
  if (validT t).2 ≠ 0 then (-1, (validT t).2)
  else if validG h.graph ≠ 0 then (-1, validG h.graph)
  else if h.values.length ≠ h.graph.nodes.length then (-1, 20)
  else match firstI (fun i => nodeH t (h.graph.nodes.getD i default) (h.values.getD i default)) 0 h.graph.nodes.length with
    | some k => ((k : Int), nodeH t (h.graph.nodes.getD k default) (h.values.getD k default))
    | none => match firstI (edgeH t h) 0 h.graph.edges.length with
      | some k => ((k : Int), edgeH t h k)
      | none => (-1, 0)

theorem hnode_ok (t : Types) (ht : OkT t) (kind : Int) (hk : 0 ≤ kind) (values : List Int) (hv : values.length ≤ 1000) : CallV Go.Proofs.Tryz.prog 76 [encTypes t, .val (.int .i64 kind), .lst (values.map encI)] (fun r => r = .val (.int .i64 (nodeH t kind values))) := by
  obtain ⟨k, rfl⟩ : ∃ k : Nat, kind = k := ⟨_, (Int.toNat_of_nonneg hk).symm⟩
  refine callV_of_cw [] Ty.mixed Go.Proofs.Tryz.func76 rfl (by kernel_rfl) (by simp [Go.Proofs.Tryz.ntmps76]) ?_; rw [Go.Proofs.Tryz.ntmps76, Go.Proofs.Tryz.results76]
  
  simp -implicitDefEqProofs only [go_sem, reduceEqDiff, reduceLT, reduceLeDiff, reduceMul, reduceAdd, reduceIte, reduceCtorEq, Nat.reduceBEq, reduceSub, Int.reduceToNat, encTypes]
  refine condC_split (fun h1 => ?_) (fun h1 => ?_) <;> simp -implicitDefEqProofs only [go_sem, reduceEqDiff, reduceLT, reduceLeDiff, reduceMul, reduceAdd, reduceIte, reduceCtorEq, Nat.reduceBEq, reduceSub, Int.reduceToNat, encTypes]
  · have h1' := of_decide_eq_true h1
    unfold nodeH; rw [if_pos (by omega)]
  · have h1' := of_decide_eq_false h1
    have hkl : k < t.nodes.length := by omega
    have hlen := attrsAt_len ht.few hkl (ht.par' hkl)
    have e0 : nodeH t k values = if (t.nodes.getD k default).abs = true then 13 else if values.length ≠ (attrsAt t k).length then 20 else firstE (valueE t k values) 0 values.length := by
      unfold nodeH; rw [if_neg (by omega), Int.toNat_natCast]
    rw [e0]
    clear e0
    
    simp -implicitDefEqProofs only [go_sem, reduceEqDiff, reduceLT, reduceLeDiff, reduceMul, reduceAdd, reduceIte, reduceCtorEq, Nat.reduceBEq, reduceSub, Int.reduceToNat, encTypes, getD_map encNode hkl, hkl, encNode]
    refine condC_split (fun h2 => ?_) (fun h2 => ?_) <;> simp -implicitDefEqProofs only [go_sem, reduceEqDiff, reduceLT, reduceLeDiff, reduceMul, reduceAdd, reduceIte, reduceCtorEq, Nat.reduceBEq, reduceSub, Int.reduceToNat, encTypes, getD_map encNode hkl, hkl, encNode]
    · rw [if_pos h2]
    · rw [if_neg (by rw [h2]; decide)]
      refine call_go (attrsE_ok t ht k hkl) (by simp -implicitDefEqProofs only [go_sem, reduceEqDiff, reduceLT, reduceLeDiff, reduceMul, reduceAdd, reduceIte, reduceCtorEq, Nat.reduceBEq, reduceSub, Int.reduceToNat, encTypes, getD_map encNode hkl, hkl, encNode] <;> rfl) (pers) ?_
      simp -implicitDefEqProofs only [go_sem, reduceEqDiff, reduceLT, reduceLeDiff, reduceMul, reduceAdd, reduceIte, reduceCtorEq, Nat.reduceBEq, reduceSub, Int.reduceToNat, encTypes, getD_map encNode hkl, hkl, encNode]
      refine condC_splitN (fun h3 => ?_) (fun h3 => ?_) <;> simp -implicitDefEqProofs only [go_sem, reduceEqDiff, reduceLT, reduceLeDiff, reduceMul, reduceAdd, reduceIte, reduceCtorEq, Nat.reduceBEq, reduceSub, Int.reduceToNat, encTypes, getD_map encNode hkl, hkl, encNode]
      · have h3' := of_decide_eq_true h3
        have hvl : values.length = (attrsAt t k).length := by omega
        rw [if_neg (by omega)]
        refine loop_rule (σ := Nat) (fun x => (upd (upd (upd (upd env0 2 (.p (.lst (values.map encI)))) 33 (.p (.lst ((attrsAt t k).map encAttr)))) 34 (.p (.val (.int .i64 (attrsAt t k).length)))) 35 (.p (.val (.int .i64 x))))) (fun x => heap0)
          (fun x => x ≤ values.length ∧ ∀ j, j < x → valueE t k values j = 0) (fun x => values.length - x) 0 ⟨Nat.zero_le _, fun j hj => absurd hj (Nat.not_lt_zero j)⟩ (weak_mk (by repeat (first | exact sub_env0 _ | refine sub_upd ?_ (by first | rfl | simp [upd]))) (by repeat (first | exact hsub0 _ | refine hsub_hset ?_ (by first | rfl | simp [hset]))) (by repeat (first | exact ids_env0 _ | refine ids_upd ?_ (by simp [idsOk, idsOkL, hset]))) (by repeat (first | exact boxIds0 _ | refine boxIds_row ?_ | refine boxIds_shut ?_ | refine boxIds_box ?_ (by simp [idsOk, idsOkL, hset]))) (by repeat (first | exact keep0 _ | refine keep_low (by decide) ?_ | refine keep_high (by simp [hset]) ?_))) ?_
        rintro x ⟨hx, hq⟩
        simp -implicitDefEqProofs only [go_sem, reduceEqDiff, reduceLT, reduceLeDiff, reduceMul, reduceAdd, reduceIte, reduceCtorEq, Nat.reduceBEq, reduceSub, Int.reduceToNat, encTypes, getD_map encNode hkl, hkl, encNode]
        refine condC_split (fun hc => ?_) (fun hc => ?_)
        · have hlt : x < (attrsAt t k).length := by simpa using hc
          have hltv : x < values.length := by omega
          
          simp -implicitDefEqProofs only [go_sem, reduceEqDiff, reduceLT, reduceLeDiff, reduceMul, reduceAdd, reduceIte, reduceCtorEq, Nat.reduceBEq, reduceSub, Int.reduceToNat, encTypes, getD_map encNode hkl, hkl, encNode, getD_map encAttr hlt, hlt, encAttr, encStrs, getD_map encI hltv, hltv, encI]
          refine draw_txt [.q, .q, .q, .q, .q, .q, .q, .q, .q, .q, .q, .q, .q, .q, .q, .q] (by kernel_rfl) ?_
          simp -implicitDefEqProofs only [go_sem, reduceEqDiff, reduceLT, reduceLeDiff, reduceMul, reduceAdd, reduceIte, reduceCtorEq, Nat.reduceBEq, reduceSub, Int.reduceToNat, encTypes, getD_map encNode hkl, hkl, encNode, getD_map encAttr hlt, hlt, encAttr, encStrs, getD_map encI hltv, hltv, encI]
          have bad : ∀ p : Prop, valueE t k values x = 6 → p = p → (6 : Int) = firstE (valueE t k values) 0 values.length := fun p e _ => by rw [firstE_at0 hltv hq (by rw [e]; decide), e]
          refine walkDG_splitN (fun h4 => ?_) (fun h4 => ?_) <;> simp -implicitDefEqProofs only [go_sem, reduceEqDiff, reduceLT, reduceLeDiff, reduceMul, reduceAdd, reduceIte, reduceCtorEq, Nat.reduceBEq, reduceSub, Int.reduceToNat, h4, encTypes, getD_map encNode hkl, hkl, encNode, getD_map encAttr hlt, hlt, encAttr, encStrs, getD_map encI hltv, hltv, encI]
          · have h4' := of_decide_eq_true h4
            exact bad True (by unfold valueE; rw [if_pos (.inl h4')]) rfl
          · have h4' := of_decide_eq_false h4
            refine condC_split (fun h5 => ?_) (fun h5 => ?_) <;> simp -implicitDefEqProofs only [go_sem, reduceEqDiff, reduceLT, reduceLeDiff, reduceMul, reduceAdd, reduceIte, reduceCtorEq, Nat.reduceBEq, reduceSub, Int.reduceToNat, h5, encTypes, getD_map encNode hkl, hkl, encNode, getD_map encAttr hlt, hlt, encAttr, encStrs, getD_map encI hltv, hltv, encI]
            · have h5' := of_decide_eq_true h5
              exact bad True (by unfold valueE; rw [if_pos (.inr h5')]) rfl
            · have h5' := of_decide_eq_false h5
              have e : valueE t k values x = 0 := by unfold valueE; rw [if_neg (by omega)]
              exact loopN_mk (x + 1) ⟨hltv, all_succ hq e⟩ (by omega) (by rw [wrap_succ hltv (by omega)]; exact (weak_mk (by repeat (first | exact sub_env0 _ | refine sub_upd ?_ (by first | rfl | simp [upd]))) (by repeat (first | exact hsub0 _ | refine hsub_hset ?_ (by first | rfl | simp [hset]))) (by repeat (first | exact ids_env0 _ | refine ids_upd ?_ (by simp [idsOk, idsOkL, hset]))) (by repeat (first | exact boxIds0 _ | refine boxIds_row ?_ | refine boxIds_shut ?_ | refine boxIds_box ?_ (by simp [idsOk, idsOkL, hset]))) (by repeat (first | exact keep0 _ | refine keep_low (by decide) ?_ | refine keep_high (by simp [hset]) ?_))))
        · have hge : (attrsAt t k).length ≤ x := by simpa using hc
          simp -implicitDefEqProofs only [go_sem, reduceEqDiff, reduceLT, reduceLeDiff, reduceMul, reduceAdd, reduceIte, reduceCtorEq, Nat.reduceBEq, reduceSub, Int.reduceToNat, encTypes, getD_map encNode hkl, hkl, encNode]
          rw [firstE_none0 fun j hj => hq j (by omega)]
      · have h3' := of_decide_eq_false h3
        rw [if_pos (by omega)]

theorem rhnode_ok (t : Types) (ht : OkT t) (kind : Int) (hk : 0 ≤ kind) (values : List Int) (hv : values.length ≤ 1000) : CallV Go.Proofs.Tryz.prog 79 [encTypes t, .val (.int .i64 kind), .lst (values.map encI)] (fun r => r = .val (.int .i64 (nodeH t kind values))) := by
  obtain ⟨k, rfl⟩ : ∃ k : Nat, kind = k := ⟨_, (Int.toNat_of_nonneg hk).symm⟩
  refine callV_of_cw [] Ty.mixed Go.Proofs.Tryz.func79 rfl (by kernel_rfl) (by simp [Go.Proofs.Tryz.ntmps79]) ?_; rw [Go.Proofs.Tryz.ntmps79, Go.Proofs.Tryz.results79]
  
  simp -implicitDefEqProofs only [go_sem, reduceEqDiff, reduceLT, reduceLeDiff, reduceMul, reduceAdd, reduceIte, reduceCtorEq, Nat.reduceBEq, reduceSub, Int.reduceToNat, encTypes]
  refine condC_split (fun h1 => ?_) (fun h1 => ?_) <;> simp -implicitDefEqProofs only [go_sem, reduceEqDiff, reduceLT, reduceLeDiff, reduceMul, reduceAdd, reduceIte, reduceCtorEq, Nat.reduceBEq, reduceSub, Int.reduceToNat, encTypes]
  · have h1' := of_decide_eq_true h1
    unfold nodeH; rw [if_pos (by omega)]
  · have h1' := of_decide_eq_false h1
    have hkl : k < t.nodes.length := by omega
    have hlen := attrsAt_len ht.few hkl (ht.par' hkl)
    have e0 : nodeH t k values = if (t.nodes.getD k default).abs = true then 13 else if values.length ≠ (attrsAt t k).length then 20 else firstE (valueE t k values) 0 values.length := by
      unfold nodeH; rw [if_neg (by omega), Int.toNat_natCast]
    rw [e0]
    clear e0
    
    simp -implicitDefEqProofs only [go_sem, reduceEqDiff, reduceLT, reduceLeDiff, reduceMul, reduceAdd, reduceIte, reduceCtorEq, Nat.reduceBEq, reduceSub, Int.reduceToNat, encTypes, getD_map encNode hkl, hkl, encNode]
    refine condC_split (fun h2 => ?_) (fun h2 => ?_) <;> simp -implicitDefEqProofs only [go_sem, reduceEqDiff, reduceLT, reduceLeDiff, reduceMul, reduceAdd, reduceIte, reduceCtorEq, Nat.reduceBEq, reduceSub, Int.reduceToNat, encTypes, getD_map encNode hkl, hkl, encNode]
    · rw [if_pos h2]
    · rw [if_neg (by rw [h2]; decide)]
      refine call_go (rattrsE_ok t ht k hkl) (by simp -implicitDefEqProofs only [go_sem, reduceEqDiff, reduceLT, reduceLeDiff, reduceMul, reduceAdd, reduceIte, reduceCtorEq, Nat.reduceBEq, reduceSub, Int.reduceToNat, encTypes, getD_map encNode hkl, hkl, encNode] <;> rfl) (pers) ?_
      simp -implicitDefEqProofs only [go_sem, reduceEqDiff, reduceLT, reduceLeDiff, reduceMul, reduceAdd, reduceIte, reduceCtorEq, Nat.reduceBEq, reduceSub, Int.reduceToNat, encTypes, getD_map encNode hkl, hkl, encNode]
      refine condC_splitN (fun h3 => ?_) (fun h3 => ?_) <;> simp -implicitDefEqProofs only [go_sem, reduceEqDiff, reduceLT, reduceLeDiff, reduceMul, reduceAdd, reduceIte, reduceCtorEq, Nat.reduceBEq, reduceSub, Int.reduceToNat, encTypes, getD_map encNode hkl, hkl, encNode]
      · have h3' := of_decide_eq_true h3
        have hvl : values.length = (attrsAt t k).length := by omega
        rw [if_neg (by omega)]
        refine loop_rule (σ := Nat) (fun x => (upd (upd (upd env0 2 (.p (.lst (values.map encI)))) 7 (.p (.lst ((attrsAt t k).map encAttr)))) 9 (.p (.val (.int .i64 x))))) (fun x => heap0)
          (fun x => x ≤ values.length ∧ ∀ j, j < x → valueE t k values j = 0) (fun x => values.length - x) 0 ⟨Nat.zero_le _, fun j hj => absurd hj (Nat.not_lt_zero j)⟩ (weak_mk (by repeat (first | exact sub_env0 _ | refine sub_upd ?_ (by first | rfl | simp [upd]))) (by repeat (first | exact hsub0 _ | refine hsub_hset ?_ (by first | rfl | simp [hset]))) (by repeat (first | exact ids_env0 _ | refine ids_upd ?_ (by simp [idsOk, idsOkL, hset]))) (by repeat (first | exact boxIds0 _ | refine boxIds_row ?_ | refine boxIds_shut ?_ | refine boxIds_box ?_ (by simp [idsOk, idsOkL, hset]))) (by repeat (first | exact keep0 _ | refine keep_low (by decide) ?_ | refine keep_high (by simp [hset]) ?_))) ?_
        rintro x ⟨hx, hq⟩
        simp -implicitDefEqProofs only [go_sem, reduceEqDiff, reduceLT, reduceLeDiff, reduceMul, reduceAdd, reduceIte, reduceCtorEq, Nat.reduceBEq, reduceSub, Int.reduceToNat, encTypes, getD_map encNode hkl, hkl, encNode]
        refine condC_split (fun hc => ?_) (fun hc => ?_)
        · have hlt : x < (attrsAt t k).length := by simpa using hc
          have hltv : x < values.length := by omega
          
          simp -implicitDefEqProofs only [go_sem, reduceEqDiff, reduceLT, reduceLeDiff, reduceMul, reduceAdd, reduceIte, reduceCtorEq, Nat.reduceBEq, reduceSub, Int.reduceToNat, encTypes, getD_map encNode hkl, hkl, encNode, getD_map encAttr hlt, hlt, encAttr, encStrs, getD_map encI hltv, hltv, encI]
          refine draw_txt [.q, .q, .q, .q, .q, .q, .q, .q, .q, .q, .q, .q, .q, .q, .q, .q, .q, .q, .q, .q, .q, .q] (by kernel_rfl) ?_
          simp -implicitDefEqProofs only [go_sem, reduceEqDiff, reduceLT, reduceLeDiff, reduceMul, reduceAdd, reduceIte, reduceCtorEq, Nat.reduceBEq, reduceSub, Int.reduceToNat, encTypes, getD_map encNode hkl, hkl, encNode, getD_map encAttr hlt, hlt, encAttr, encStrs, getD_map encI hltv, hltv, encI]
          have bad : ∀ p : Prop, valueE t k values x = 6 → p = p → (6 : Int) = firstE (valueE t k values) 0 values.length := fun p e _ => by rw [firstE_at0 hltv hq (by rw [e]; decide), e]
          refine walkDG_splitN (fun h4 => ?_) (fun h4 => ?_) <;> simp -implicitDefEqProofs only [go_sem, reduceEqDiff, reduceLT, reduceLeDiff, reduceMul, reduceAdd, reduceIte, reduceCtorEq, Nat.reduceBEq, reduceSub, Int.reduceToNat, h4, encTypes, getD_map encNode hkl, hkl, encNode, getD_map encAttr hlt, hlt, encAttr, encStrs, getD_map encI hltv, hltv, encI]
          · have h4' := of_decide_eq_true h4
            exact bad True (by unfold valueE; rw [if_pos (.inl h4')]) rfl
          · have h4' := of_decide_eq_false h4
            refine condC_split (fun h5 => ?_) (fun h5 => ?_) <;> simp -implicitDefEqProofs only [go_sem, reduceEqDiff, reduceLT, reduceLeDiff, reduceMul, reduceAdd, reduceIte, reduceCtorEq, Nat.reduceBEq, reduceSub, Int.reduceToNat, h5, encTypes, getD_map encNode hkl, hkl, encNode, getD_map encAttr hlt, hlt, encAttr, encStrs, getD_map encI hltv, hltv, encI]
            · have h5' := of_decide_eq_true h5
              exact bad True (by unfold valueE; rw [if_pos (.inr h5')]) rfl
            · have h5' := of_decide_eq_false h5
              have e : valueE t k values x = 0 := by unfold valueE; rw [if_neg (by omega)]
              exact loopN_mk (x + 1) ⟨hltv, all_succ hq e⟩ (by omega) (by rw [wrap_succ hltv (by omega)]; exact (weak_mk (by repeat (first | exact sub_env0 _ | refine sub_upd ?_ (by first | rfl | simp [upd]))) (by repeat (first | exact hsub0 _ | refine hsub_hset ?_ (by first | rfl | simp [hset]))) (by repeat (first | exact ids_env0 _ | refine ids_upd ?_ (by simp [idsOk, idsOkL, hset]))) (by repeat (first | exact boxIds0 _ | refine boxIds_row ?_ | refine boxIds_shut ?_ | refine boxIds_box ?_ (by simp [idsOk, idsOkL, hset]))) (by repeat (first | exact keep0 _ | refine keep_low (by decide) ?_ | refine keep_high (by simp [hset]) ?_))))
        · have hge : (attrsAt t k).length ≤ x := by simpa using hc
          simp -implicitDefEqProofs only [go_sem, reduceEqDiff, reduceLT, reduceLeDiff, reduceMul, reduceAdd, reduceIte, reduceCtorEq, Nat.reduceBEq, reduceSub, Int.reduceToNat, encTypes, getD_map encNode hkl, hkl, encNode]
          rw [firstE_none0 fun j hj => hq j (by omega)]
      · have h3' := of_decide_eq_false h3
        rw [if_pos (by omega)]
end Go.Proofs.YtdlohnchnneaeaaGreat
/- Layer 15: errors of hosts, the whole. -/
namespace Go.Proofs.YtdlohnchnneaeaaGreat
open Go.Abs

theorem hvalid_ok (t : Types) (hf : FewT t) (h : Host) (hh : FewH h) : CallV Go.Proofs.Tryz.prog 54 [encTypes t, encHost h] (fun r => r = .tup [.val (.int .i64 (validH t h).1), .val (.int .i64 (validH t h).2)]) := by
  have hg1 := hh.graph.nodes
  have hg2 := hh.graph.edges
  have hv := hh.values
  refine callV_of_cw [] Ty.mixed Go.Proofs.Tryz.func54 rfl (by kernel_rfl) (by simp [Go.Proofs.Tryz.ntmps54]) ?_; rw [Go.Proofs.Tryz.ntmps54, Go.Proofs.Tryz.results54]
  
  simp -implicitDefEqProofs only [go_sem, reduceEqDiff, reduceLT, reduceLeDiff, reduceMul, reduceAdd, reduceIte, reduceCtorEq, Nat.reduceBEq, reduceSub, Int.reduceToNat, encTypes, encHost, encInts]
  refine call_go (valid_ok t hf) (by simp -implicitDefEqProofs only [go_sem, reduceEqDiff, reduceLT, reduceLeDiff, reduceMul, reduceAdd, reduceIte, reduceCtorEq, Nat.reduceBEq, reduceSub, Int.reduceToNat, encTypes, encHost, encInts] <;> rfl) (scal rfl) ?_
  simp -implicitDefEqProofs only [go_sem, reduceEqDiff, reduceLT, reduceLeDiff, reduceMul, reduceAdd, reduceIte, reduceCtorEq, Nat.reduceBEq, reduceSub, Int.reduceToNat, encTypes, encHost, encInts]
  refine condC_splitN (fun h1 => ?_) (fun h1 => ?_) <;> simp -implicitDefEqProofs only [go_sem, reduceEqDiff, reduceLT, reduceLeDiff, reduceMul, reduceAdd, reduceIte, reduceCtorEq, Nat.reduceBEq, reduceSub, Int.reduceToNat, encTypes, encHost, encInts]
  · have h1' := of_decide_eq_true h1
    have ht := okTypes hf h1'
    have e1 : validH t h = if validG h.graph ≠ 0 then (-1, validG h.graph)
        else if h.values.length ≠ h.graph.nodes.length then (-1, 20)
        else match firstI (fun i => nodeH t (h.graph.nodes.getD i default) (h.values.getD i default)) 0 h.graph.nodes.length with
          | some k => ((k : Int), nodeH t (h.graph.nodes.getD k default) (h.values.getD k default))
          | none => match firstI (edgeH t h) 0 h.graph.edges.length with
            | some k => ((k : Int), edgeH t h k)
            | none => (-1, 0) := by
      unfold validH; rw [if_neg (by rw [h1']; decide)]
      try rfl
    rw [e1]
    refine call_go (gvalid_ok h.graph hh.graph) (by simp -implicitDefEqProofs only [go_sem, reduceEqDiff, reduceLT, reduceLeDiff, reduceMul, reduceAdd, reduceIte, reduceCtorEq, Nat.reduceBEq, reduceSub, Int.reduceToNat, encTypes, encHost, encInts] <;> rfl) (scal rfl) ?_
    simp -implicitDefEqProofs only [go_sem, reduceEqDiff, reduceLT, reduceLeDiff, reduceMul, reduceAdd, reduceIte, reduceCtorEq, Nat.reduceBEq, reduceSub, Int.reduceToNat, encTypes, encHost, encInts]
    refine condC_splitN (fun h2 => ?_) (fun h2 => ?_) <;> simp -implicitDefEqProofs only [go_sem, reduceEqDiff, reduceLT, reduceLeDiff, reduceMul, reduceAdd, reduceIte, reduceCtorEq, Nat.reduceBEq, reduceSub, Int.reduceToNat, encTypes, encHost, encInts]
    · have h2' := of_decide_eq_true h2
      have hg := okG h2'
      rw [if_neg (by rw [h2']; decide)]
      refine condC_splitN (fun h3 => ?_) (fun h3 => ?_) <;> simp -implicitDefEqProofs only [go_sem, reduceEqDiff, reduceLT, reduceLeDiff, reduceMul, reduceAdd, reduceIte, reduceCtorEq, Nat.reduceBEq, reduceSub, Int.reduceToNat, encTypes, encHost, encInts]
      · have h3' := of_decide_eq_true h3
        have hvl : h.values.length = h.graph.nodes.length := by omega
        rw [if_neg (by omega)]
        generalize hF : (fun i => nodeH t (h.graph.nodes.getD i default) (h.values.getD i default)) = f
        refine loop_rule (σ := Nat) (fun x => (upd (upd (upd (upd (upd env0 2 (.ptr 2 0)) 3 (.ptr 3 0)) 38 (.p (.lst (h.graph.nodes.map encI)))) 39 (.p (.val (.int .i64 h.graph.nodes.length)))) 40 (.p (.val (.int .i64 x)))))
          (fun x => (hset (hset heap0 2 (.box [.p (.lst (t.nodes.map encNode)), .p (.lst (t.edges.map encEdgeT))])) 3 (.box [.p (.lst (h.graph.nodes.map encI)), .p (.lst (h.graph.edges.map encEdge)), .p (.lst (h.values.map encRow))])))
          (fun x => x ≤ h.graph.nodes.length ∧ ∀ j, j < x → f j = 0) (fun x => h.graph.nodes.length - x) 0 ⟨Nat.zero_le _, fun j hj => absurd hj (Nat.not_lt_zero j)⟩ (weak_mk (by repeat (first | exact sub_env0 _ | refine sub_upd ?_ (by first | rfl | simp [upd]))) (by repeat (first | exact hsub0 _ | refine hsub_hset ?_ (by first | rfl | simp [hset]))) (by repeat (first | exact ids_env0 _ | refine ids_upd ?_ (by simp [idsOk, idsOkL, hset]))) (by repeat (first | exact boxIds0 _ | refine boxIds_row ?_ | refine boxIds_shut ?_ | refine boxIds_box ?_ (by simp [idsOk, idsOkL, hset]))) (by repeat (first | exact keep0 _ | refine keep_low (by decide) ?_ | refine keep_high (by simp [hset]) ?_))) ?_
        rintro x ⟨hx, hq⟩
        simp -implicitDefEqProofs only [go_sem, reduceEqDiff, reduceLT, reduceLeDiff, reduceMul, reduceAdd, reduceIte, reduceCtorEq, Nat.reduceBEq, reduceSub, Int.reduceToNat, encTypes, encHost, encInts]
        refine condC_split (fun hc => ?_) (fun hc => ?_)
        · have hlt : x < h.graph.nodes.length := by simpa using hc
          have hltv : x < h.values.length := by omega
          have hr := hh.row _ (getD_mem hltv)
          
          simp -implicitDefEqProofs only [go_sem, reduceEqDiff, reduceLT, reduceLeDiff, reduceMul, reduceAdd, reduceIte, reduceCtorEq, Nat.reduceBEq, reduceSub, Int.reduceToNat, encTypes, encHost, encInts, getD_map encI hlt, hlt, encI, getD_map encRow hltv, hltv, encRow]
          refine draw_txt [.q, .q, .q, .q, .q, .q, .q, .q, .q] (by kernel_rfl) ?_
          simp -implicitDefEqProofs only [go_sem, reduceEqDiff, reduceLT, reduceLeDiff, reduceMul, reduceAdd, reduceIte, reduceCtorEq, Nat.reduceBEq, reduceSub, Int.reduceToNat, encTypes, encHost, encInts, getD_map encI hlt, hlt, encI, getD_map encRow hltv, hltv, encRow]
          refine calld_go (hnode_ok t ht (h.graph.nodes.getD x default) (hg.kind x hlt).1 (h.values.getD x default) (by omega)) (by simp -implicitDefEqProofs only [go_sem, reduceEqDiff, reduceLT, reduceLeDiff, reduceMul, reduceAdd, reduceIte, reduceCtorEq, Nat.reduceBEq, reduceSub, Int.reduceToNat, encTypes, encHost, encInts, getD_map encI hlt, hlt, encI, getD_map encRow hltv, hltv, encRow] <;> rfl) (scal rfl) ?_
          simp -implicitDefEqProofs only [go_sem, reduceEqDiff, reduceLT, reduceLeDiff, reduceMul, reduceAdd, reduceIte, reduceCtorEq, Nat.reduceBEq, reduceSub, Int.reduceToNat, encTypes, encHost, encInts, getD_map encI hlt, hlt, encI, getD_map encRow hltv, hltv, encRow]
          have e : f x = nodeH t (h.graph.nodes.getD x default) (h.values.getD x default) := by rw [← hF]
          refine condC_splitN (fun h4 => ?_) (fun h4 => ?_) <;> simp -implicitDefEqProofs only [go_sem, reduceEqDiff, reduceLT, reduceLeDiff, reduceMul, reduceAdd, reduceIte, reduceCtorEq, Nat.reduceBEq, reduceSub, Int.reduceToNat, encTypes, encHost, encInts, getD_map encI hlt, hlt, encI, getD_map encRow hltv, hltv, encRow]
          · have h4' := of_decide_eq_true h4
            exact loopN_mk (x + 1) ⟨hlt, all_succ hq (e.trans h4')⟩ (by omega) (by rw [wrap_succ hlt (by omega)]; exact (weak_mk (by repeat (first | exact sub_env0 _ | refine sub_upd ?_ (by first | rfl | simp [upd]))) (by repeat (first | exact hsub0 _ | refine hsub_hset ?_ (by first | rfl | simp [hset]))) (by repeat (first | exact ids_env0 _ | refine ids_upd ?_ (by simp [idsOk, idsOkL, hset]))) (by repeat (first | exact boxIds0 _ | refine boxIds_row ?_ | refine boxIds_shut ?_ | refine boxIds_box ?_ (by simp [idsOk, idsOkL, hset]))) (by repeat (first | exact keep0 _ | refine keep_low (by decide) ?_ | refine keep_high (by simp [hset]) ?_))))
          · have h4' := of_decide_eq_false h4
            rw [firstI_at (Nat.zero_le _) hlt (fun j _ => hq j) (by rw [e]; exact h4')]
            exact ⟨rfl, rfl⟩
        · have hge : h.graph.nodes.length ≤ x := by simpa using hc
          rw [firstI_none fun j _ hj => hq j (by omega)]
          simp -implicitDefEqProofs only [go_sem, reduceEqDiff, reduceLT, reduceLeDiff, reduceMul, reduceAdd, reduceIte, reduceCtorEq, Nat.reduceBEq, reduceSub, Int.reduceToNat, encTypes, encHost, encInts]
          refine loop_rule (σ := Nat) (fun x => (upd (upd (upd (upd (upd env0 2 (.ptr 2 0)) 3 (.ptr 3 0)) 60 (.p (.lst (h.graph.edges.map encEdge)))) 61 (.p (.val (.int .i64 h.graph.edges.length)))) 62 (.p (.val (.int .i64 x)))))
            (fun x => (hset (hset heap0 2 (.box [.p (.lst (t.nodes.map encNode)), .p (.lst (t.edges.map encEdgeT))])) 3 (.box [.p (.lst (h.graph.nodes.map encI)), .p (.lst (h.graph.edges.map encEdge)), .p (.lst (h.values.map encRow))])))
            (fun x => x ≤ h.graph.edges.length ∧ ∀ j, j < x → edgeH t h j = 0) (fun x => h.graph.edges.length - x) 0 ⟨Nat.zero_le _, fun j hj => absurd hj (Nat.not_lt_zero j)⟩ (weak_mk (by repeat (first | exact sub_env0 _ | refine sub_upd ?_ (by first | rfl | simp [upd]))) (by repeat (first | exact hsub0 _ | refine hsub_hset ?_ (by first | rfl | simp [hset]))) (by repeat (first | exact ids_env0 _ | refine ids_upd ?_ (by simp [idsOk, idsOkL, hset]))) (by repeat (first | exact boxIds0 _ | refine boxIds_row ?_ | refine boxIds_shut ?_ | refine boxIds_box ?_ (by simp [idsOk, idsOkL, hset]))) (by repeat (first | exact keep0 _ | refine keep_low (by decide) ?_ | refine keep_high (by simp [hset]) ?_))) ?_
          rintro y ⟨hy, hq'⟩
          simp -implicitDefEqProofs only [go_sem, reduceEqDiff, reduceLT, reduceLeDiff, reduceMul, reduceAdd, reduceIte, reduceCtorEq, Nat.reduceBEq, reduceSub, Int.reduceToNat, encTypes, encHost, encInts]
          refine condC_split (fun hc' => ?_) (fun hc' => ?_)
          · have hlt : y < h.graph.edges.length := by simpa using hc'
            have hE := hg.edge y hlt
            obtain ⟨a, ha⟩ : ∃ k : Nat, (h.graph.edges.getD y default).src = k := ⟨_, (Int.toNat_of_nonneg hE.2.1.1).symm⟩
            obtain ⟨b, hb⟩ : ∃ k : Nat, (h.graph.edges.getD y default).dst = k := ⟨_, (Int.toNat_of_nonneg hE.2.2.1).symm⟩
            have hal : a < h.graph.nodes.length := by have := hE.2.1.2; rw [ha] at this; omega
            have hbl : b < h.graph.nodes.length := by have := hE.2.2.2; rw [hb] at this; omega
            have e0 : edgeH t h y = if (t.edges.length : Int) ≤ (h.graph.edges.getD y default).type then 6 else if fitsT t (h.graph.edges.getD y default).type (h.graph.nodes.getD a default) (h.graph.nodes.getD b default) = true then 0 else 13 := by
              unfold edgeH; rw [ha, hb, Int.toNat_natCast, Int.toNat_natCast]
            
            simp -implicitDefEqProofs only [go_sem, reduceEqDiff, reduceLT, reduceLeDiff, reduceMul, reduceAdd, reduceIte, reduceCtorEq, Nat.reduceBEq, reduceSub, Int.reduceToNat, encTypes, encHost, encInts, getD_map encEdge hlt, hlt, encEdge, ha, hb]
            refine condC_split (fun h5 => ?_) (fun h5 => ?_) <;> simp -implicitDefEqProofs only [go_sem, reduceEqDiff, reduceLT, reduceLeDiff, reduceMul, reduceAdd, reduceIte, reduceCtorEq, Nat.reduceBEq, reduceSub, Int.reduceToNat, encTypes, encHost, encInts, getD_map encEdge hlt, hlt, encEdge, ha, hb]
            · have h5' := of_decide_eq_true h5
              have e6 : edgeH t h y = 6 := by rw [e0, if_pos h5']
              rw [firstI_at (Nat.zero_le _) hlt (fun j _ => hq' j) (by rw [e6]; decide)]
              simp only [e6]
              first | exact ⟨rfl, rfl⟩ | exact ⟨trivial, trivial⟩ | exact ⟨rfl, trivial⟩ | exact ⟨trivial, rfl⟩
            · have h5' := of_decide_eq_false h5
              rw [if_neg h5'] at e0
              refine draw_txt [.q, .q, .q, .q, .q, .q, .q, .q, .q, .q, .q, .q, .q, .q, .q, .q, .q, .q, .q] (by kernel_rfl) ?_
              simp -implicitDefEqProofs only [go_sem, reduceEqDiff, reduceLT, reduceLeDiff, reduceMul, reduceAdd, reduceIte, reduceCtorEq, Nat.reduceBEq, reduceSub, Int.reduceToNat, getD_map encI hal, hal, getD_map encI hbl, hbl, encI, encTypes, encHost, encInts, getD_map encEdge hlt, hlt, encEdge, ha, hb]
              refine calld_go (fits_ok t hf (h.graph.edges.getD y default).type (h.graph.nodes.getD a default) (h.graph.nodes.getD b default)) (by simp -implicitDefEqProofs only [go_sem, reduceEqDiff, reduceLT, reduceLeDiff, reduceMul, reduceAdd, reduceIte, reduceCtorEq, Nat.reduceBEq, reduceSub, Int.reduceToNat, encTypes, encHost, encInts, getD_map encEdge hlt, hlt, encEdge, ha, hb] <;> rfl) (scal rfl) ?_
              simp -implicitDefEqProofs only [go_sem, reduceEqDiff, reduceLT, reduceLeDiff, reduceMul, reduceAdd, reduceIte, reduceCtorEq, Nat.reduceBEq, reduceSub, Int.reduceToNat, encTypes, encHost, encInts, getD_map encEdge hlt, hlt, encEdge, ha, hb]
              refine condC_splitN (fun h6 => ?_) (fun h6 => ?_) <;> simp -implicitDefEqProofs only [go_sem, reduceEqDiff, reduceLT, reduceLeDiff, reduceMul, reduceAdd, reduceIte, reduceCtorEq, Nat.reduceBEq, reduceSub, Int.reduceToNat, encTypes, encHost, encInts, getD_map encEdge hlt, hlt, encEdge, ha, hb]
              · rw [if_pos h6] at e0
                exact loopN_mk (y + 1) ⟨hlt, all_succ hq' e0⟩ (by omega) (by rw [wrap_succ hlt (by omega)]; exact (weak_mk (by repeat (first | exact sub_env0 _ | refine sub_upd ?_ (by first | rfl | simp [upd]))) (by repeat (first | exact hsub0 _ | refine hsub_hset ?_ (by first | rfl | simp [hset]))) (by repeat (first | exact ids_env0 _ | refine ids_upd ?_ (by simp [idsOk, idsOkL, hset]))) (by repeat (first | exact boxIds0 _ | refine boxIds_row ?_ | refine boxIds_shut ?_ | refine boxIds_box ?_ (by simp [idsOk, idsOkL, hset]))) (by repeat (first | exact keep0 _ | refine keep_low (by decide) ?_ | refine keep_high (by simp [hset]) ?_))))
              · rw [if_neg (by rw [h6]; decide)] at e0
                rw [firstI_at (Nat.zero_le _) hlt (fun j _ => hq' j) (by rw [e0]; decide)]
                simp only [e0]
                first | exact ⟨rfl, rfl⟩ | exact ⟨trivial, trivial⟩ | exact ⟨rfl, trivial⟩ | exact ⟨trivial, rfl⟩
          · have hge' : h.graph.edges.length ≤ y := by simpa using hc'
            simp -implicitDefEqProofs only [go_sem, reduceEqDiff, reduceLT, reduceLeDiff, reduceMul, reduceAdd, reduceIte, reduceCtorEq, Nat.reduceBEq, reduceSub, Int.reduceToNat, encTypes, encHost, encInts]
            rw [firstI_none fun j _ hj => hq' j (by omega)]
            exact ⟨rfl, rfl⟩
      · have h3' := of_decide_eq_false h3
        rw [if_pos (by omega)]
        exact ⟨rfl, rfl⟩
    · have h2' := of_decide_eq_false h2
      rw [if_pos h2']
      exact ⟨rfl, rfl⟩
  · have h1' := of_decide_eq_false h1
    unfold validH; rw [if_pos h1']
    exact ⟨rfl, rfl⟩
theorem rhvalid_ok (t : Types) (hf : FewT t) (h : Host) (hh : FewH h) : CallV Go.Proofs.Tryz.prog 55 [encTypes t, encHost h] (fun r => r = .tup [.val (.int .i64 (validH t h).1), .val (.int .i64 (validH t h).2)]) := by
  have hg1 := hh.graph.nodes
  have hg2 := hh.graph.edges
  have hv := hh.values
  refine callV_of_cw [] Ty.mixed Go.Proofs.Tryz.func55 rfl (by kernel_rfl) (by simp [Go.Proofs.Tryz.ntmps55]) ?_; rw [Go.Proofs.Tryz.ntmps55, Go.Proofs.Tryz.results55]
  
  simp -implicitDefEqProofs only [go_sem, reduceEqDiff, reduceLT, reduceLeDiff, reduceMul, reduceAdd, reduceIte, reduceCtorEq, Nat.reduceBEq, reduceSub, Int.reduceToNat, encTypes, encHost, encInts]
  refine call_go (rvalid_ok t hf) (by simp -implicitDefEqProofs only [go_sem, reduceEqDiff, reduceLT, reduceLeDiff, reduceMul, reduceAdd, reduceIte, reduceCtorEq, Nat.reduceBEq, reduceSub, Int.reduceToNat, encTypes, encHost, encInts] <;> rfl) (scal rfl) ?_
  simp -implicitDefEqProofs only [go_sem, reduceEqDiff, reduceLT, reduceLeDiff, reduceMul, reduceAdd, reduceIte, reduceCtorEq, Nat.reduceBEq, reduceSub, Int.reduceToNat, encTypes, encHost, encInts]
  refine condC_splitN (fun h1 => ?_) (fun h1 => ?_) <;> simp -implicitDefEqProofs only [go_sem, reduceEqDiff, reduceLT, reduceLeDiff, reduceMul, reduceAdd, reduceIte, reduceCtorEq, Nat.reduceBEq, reduceSub, Int.reduceToNat, encTypes, encHost, encInts]
  · have h1' := of_decide_eq_true h1
    have ht := okTypes hf h1'
    have e1 : validH t h = if validG h.graph ≠ 0 then (-1, validG h.graph)
        else if h.values.length ≠ h.graph.nodes.length then (-1, 20)
        else match firstI (fun i => nodeH t (h.graph.nodes.getD i default) (h.values.getD i default)) 0 h.graph.nodes.length with
          | some k => ((k : Int), nodeH t (h.graph.nodes.getD k default) (h.values.getD k default))
          | none => match firstI (edgeH t h) 0 h.graph.edges.length with
            | some k => ((k : Int), edgeH t h k)
            | none => (-1, 0) := by
      unfold validH; rw [if_neg (by rw [h1']; decide)]
      try rfl
    rw [e1]
    refine call_go (rgvalid_ok h.graph hh.graph) (by simp -implicitDefEqProofs only [go_sem, reduceEqDiff, reduceLT, reduceLeDiff, reduceMul, reduceAdd, reduceIte, reduceCtorEq, Nat.reduceBEq, reduceSub, Int.reduceToNat, encTypes, encHost, encInts] <;> rfl) (scal rfl) ?_
    simp -implicitDefEqProofs only [go_sem, reduceEqDiff, reduceLT, reduceLeDiff, reduceMul, reduceAdd, reduceIte, reduceCtorEq, Nat.reduceBEq, reduceSub, Int.reduceToNat, encTypes, encHost, encInts]
    refine condC_splitN (fun h2 => ?_) (fun h2 => ?_) <;> simp -implicitDefEqProofs only [go_sem, reduceEqDiff, reduceLT, reduceLeDiff, reduceMul, reduceAdd, reduceIte, reduceCtorEq, Nat.reduceBEq, reduceSub, Int.reduceToNat, encTypes, encHost, encInts]
    · have h2' := of_decide_eq_true h2
      have hg := okG h2'
      rw [if_neg (by rw [h2']; decide)]
      refine condC_splitN (fun h3 => ?_) (fun h3 => ?_) <;> simp -implicitDefEqProofs only [go_sem, reduceEqDiff, reduceLT, reduceLeDiff, reduceMul, reduceAdd, reduceIte, reduceCtorEq, Nat.reduceBEq, reduceSub, Int.reduceToNat, encTypes, encHost, encInts]
      · have h3' := of_decide_eq_true h3
        have hvl : h.values.length = h.graph.nodes.length := by omega
        rw [if_neg (by omega)]
        generalize hF : (fun i => nodeH t (h.graph.nodes.getD i default) (h.values.getD i default)) = f
        refine loop_rule (σ := Nat) (fun x => (upd (upd (upd env0 2 (.ptr 2 0)) 3 (.ptr 3 0)) 9 (.p (.val (.int .i64 x)))))
          (fun x => (hset (hset heap0 2 (.box [.p (.lst (t.nodes.map encNode)), .p (.lst (t.edges.map encEdgeT))])) 3 (.box [.p (.lst (h.graph.nodes.map encI)), .p (.lst (h.graph.edges.map encEdge)), .p (.lst (h.values.map encRow))])))
          (fun x => x ≤ h.graph.nodes.length ∧ ∀ j, j < x → f j = 0) (fun x => h.graph.nodes.length - x) 0 ⟨Nat.zero_le _, fun j hj => absurd hj (Nat.not_lt_zero j)⟩ (weak_mk (by repeat (first | exact sub_env0 _ | refine sub_upd ?_ (by first | rfl | simp [upd]))) (by repeat (first | exact hsub0 _ | refine hsub_hset ?_ (by first | rfl | simp [hset]))) (by repeat (first | exact ids_env0 _ | refine ids_upd ?_ (by simp [idsOk, idsOkL, hset]))) (by repeat (first | exact boxIds0 _ | refine boxIds_row ?_ | refine boxIds_shut ?_ | refine boxIds_box ?_ (by simp [idsOk, idsOkL, hset]))) (by repeat (first | exact keep0 _ | refine keep_low (by decide) ?_ | refine keep_high (by simp [hset]) ?_))) ?_
        rintro x ⟨hx, hq⟩
        simp -implicitDefEqProofs only [go_sem, reduceEqDiff, reduceLT, reduceLeDiff, reduceMul, reduceAdd, reduceIte, reduceCtorEq, Nat.reduceBEq, reduceSub, Int.reduceToNat, encTypes, encHost, encInts]
        refine condC_split (fun hc => ?_) (fun hc => ?_)
        · have hlt : x < h.graph.nodes.length := by simpa using hc
          have hltv : x < h.values.length := by omega
          have hr := hh.row _ (getD_mem hltv)
          
          simp -implicitDefEqProofs only [go_sem, reduceEqDiff, reduceLT, reduceLeDiff, reduceMul, reduceAdd, reduceIte, reduceCtorEq, Nat.reduceBEq, reduceSub, Int.reduceToNat, encTypes, encHost, encInts, getD_map encI hlt, hlt, encI, getD_map encRow hltv, hltv, encRow]
          refine draw_txt [.q, .q, .q, .q, .q, .q, .q, .q, .q, .q, .q, .q, .q, .q] (by kernel_rfl) ?_
          simp -implicitDefEqProofs only [go_sem, reduceEqDiff, reduceLT, reduceLeDiff, reduceMul, reduceAdd, reduceIte, reduceCtorEq, Nat.reduceBEq, reduceSub, Int.reduceToNat, encTypes, encHost, encInts, getD_map encI hlt, hlt, encI, getD_map encRow hltv, hltv, encRow]
          refine calld_go (rhnode_ok t ht (h.graph.nodes.getD x default) (hg.kind x hlt).1 (h.values.getD x default) (by omega)) (by simp -implicitDefEqProofs only [go_sem, reduceEqDiff, reduceLT, reduceLeDiff, reduceMul, reduceAdd, reduceIte, reduceCtorEq, Nat.reduceBEq, reduceSub, Int.reduceToNat, encTypes, encHost, encInts, getD_map encI hlt, hlt, encI, getD_map encRow hltv, hltv, encRow] <;> rfl) (scal rfl) ?_
          simp -implicitDefEqProofs only [go_sem, reduceEqDiff, reduceLT, reduceLeDiff, reduceMul, reduceAdd, reduceIte, reduceCtorEq, Nat.reduceBEq, reduceSub, Int.reduceToNat, encTypes, encHost, encInts, getD_map encI hlt, hlt, encI, getD_map encRow hltv, hltv, encRow]
          have e : f x = nodeH t (h.graph.nodes.getD x default) (h.values.getD x default) := by rw [← hF]
          refine condC_splitN (fun h4 => ?_) (fun h4 => ?_) <;> simp -implicitDefEqProofs only [go_sem, reduceEqDiff, reduceLT, reduceLeDiff, reduceMul, reduceAdd, reduceIte, reduceCtorEq, Nat.reduceBEq, reduceSub, Int.reduceToNat, encTypes, encHost, encInts, getD_map encI hlt, hlt, encI, getD_map encRow hltv, hltv, encRow]
          · have h4' := of_decide_eq_true h4
            exact loopN_mk (x + 1) ⟨hlt, all_succ hq (e.trans h4')⟩ (by omega) (by rw [wrap_succ hlt (by omega)]; exact (weak_mk (by repeat (first | exact sub_env0 _ | refine sub_upd ?_ (by first | rfl | simp [upd]))) (by repeat (first | exact hsub0 _ | refine hsub_hset ?_ (by first | rfl | simp [hset]))) (by repeat (first | exact ids_env0 _ | refine ids_upd ?_ (by simp [idsOk, idsOkL, hset]))) (by repeat (first | exact boxIds0 _ | refine boxIds_row ?_ | refine boxIds_shut ?_ | refine boxIds_box ?_ (by simp [idsOk, idsOkL, hset]))) (by repeat (first | exact keep0 _ | refine keep_low (by decide) ?_ | refine keep_high (by simp [hset]) ?_))))
          · have h4' := of_decide_eq_false h4
            rw [firstI_at (Nat.zero_le _) hlt (fun j _ => hq j) (by rw [e]; exact h4')]
            exact ⟨rfl, rfl⟩
        · have hge : h.graph.nodes.length ≤ x := by simpa using hc
          rw [firstI_none fun j _ hj => hq j (by omega)]
          simp -implicitDefEqProofs only [go_sem, reduceEqDiff, reduceLT, reduceLeDiff, reduceMul, reduceAdd, reduceIte, reduceCtorEq, Nat.reduceBEq, reduceSub, Int.reduceToNat, encTypes, encHost, encInts]
          refine loop_rule (σ := Nat) (fun x => (upd (upd (upd env0 2 (.ptr 2 0)) 3 (.ptr 3 0)) 11 (.p (.val (.int .i64 x)))))
            (fun x => (hset (hset heap0 2 (.box [.p (.lst (t.nodes.map encNode)), .p (.lst (t.edges.map encEdgeT))])) 3 (.box [.p (.lst (h.graph.nodes.map encI)), .p (.lst (h.graph.edges.map encEdge)), .p (.lst (h.values.map encRow))])))
            (fun x => x ≤ h.graph.edges.length ∧ ∀ j, j < x → edgeH t h j = 0) (fun x => h.graph.edges.length - x) 0 ⟨Nat.zero_le _, fun j hj => absurd hj (Nat.not_lt_zero j)⟩ (weak_mk (by repeat (first | exact sub_env0 _ | refine sub_upd ?_ (by first | rfl | simp [upd]))) (by repeat (first | exact hsub0 _ | refine hsub_hset ?_ (by first | rfl | simp [hset]))) (by repeat (first | exact ids_env0 _ | refine ids_upd ?_ (by simp [idsOk, idsOkL, hset]))) (by repeat (first | exact boxIds0 _ | refine boxIds_row ?_ | refine boxIds_shut ?_ | refine boxIds_box ?_ (by simp [idsOk, idsOkL, hset]))) (by repeat (first | exact keep0 _ | refine keep_low (by decide) ?_ | refine keep_high (by simp [hset]) ?_))) ?_
          rintro y ⟨hy, hq'⟩
          simp -implicitDefEqProofs only [go_sem, reduceEqDiff, reduceLT, reduceLeDiff, reduceMul, reduceAdd, reduceIte, reduceCtorEq, Nat.reduceBEq, reduceSub, Int.reduceToNat, encTypes, encHost, encInts]
          refine condC_split (fun hc' => ?_) (fun hc' => ?_)
          · have hlt : y < h.graph.edges.length := by simpa using hc'
            have hE := hg.edge y hlt
            obtain ⟨a, ha⟩ : ∃ k : Nat, (h.graph.edges.getD y default).src = k := ⟨_, (Int.toNat_of_nonneg hE.2.1.1).symm⟩
            obtain ⟨b, hb⟩ : ∃ k : Nat, (h.graph.edges.getD y default).dst = k := ⟨_, (Int.toNat_of_nonneg hE.2.2.1).symm⟩
            have hal : a < h.graph.nodes.length := by have := hE.2.1.2; rw [ha] at this; omega
            have hbl : b < h.graph.nodes.length := by have := hE.2.2.2; rw [hb] at this; omega
            have e0 : edgeH t h y = if (t.edges.length : Int) ≤ (h.graph.edges.getD y default).type then 6 else if fitsT t (h.graph.edges.getD y default).type (h.graph.nodes.getD a default) (h.graph.nodes.getD b default) = true then 0 else 13 := by
              unfold edgeH; rw [ha, hb, Int.toNat_natCast, Int.toNat_natCast]
            
            simp -implicitDefEqProofs only [go_sem, reduceEqDiff, reduceLT, reduceLeDiff, reduceMul, reduceAdd, reduceIte, reduceCtorEq, Nat.reduceBEq, reduceSub, Int.reduceToNat, encTypes, encHost, encInts, getD_map encEdge hlt, hlt, encEdge, ha, hb]
            refine condC_split (fun h5 => ?_) (fun h5 => ?_) <;> simp -implicitDefEqProofs only [go_sem, reduceEqDiff, reduceLT, reduceLeDiff, reduceMul, reduceAdd, reduceIte, reduceCtorEq, Nat.reduceBEq, reduceSub, Int.reduceToNat, encTypes, encHost, encInts, getD_map encEdge hlt, hlt, encEdge, ha, hb]
            · have h5' := of_decide_eq_true h5
              have e6 : edgeH t h y = 6 := by rw [e0, if_pos h5']
              rw [firstI_at (Nat.zero_le _) hlt (fun j _ => hq' j) (by rw [e6]; decide)]
              simp only [e6]
              first | exact ⟨rfl, rfl⟩ | exact ⟨trivial, trivial⟩ | exact ⟨rfl, trivial⟩ | exact ⟨trivial, rfl⟩
            · have h5' := of_decide_eq_false h5
              rw [if_neg h5'] at e0
              refine draw_txt [.q, .q, .q, .q, .q, .q, .q, .q, .q, .q, .q, .q, .q, .q, .q, .q, .q, .q, .q] (by kernel_rfl) ?_
              simp -implicitDefEqProofs only [go_sem, reduceEqDiff, reduceLT, reduceLeDiff, reduceMul, reduceAdd, reduceIte, reduceCtorEq, Nat.reduceBEq, reduceSub, Int.reduceToNat, getD_map encI hal, hal, getD_map encI hbl, hbl, encI, encTypes, encHost, encInts, getD_map encEdge hlt, hlt, encEdge, ha, hb]
              refine calld_go (rfits_ok t hf (h.graph.edges.getD y default).type (h.graph.nodes.getD a default) (h.graph.nodes.getD b default)) (by simp -implicitDefEqProofs only [go_sem, reduceEqDiff, reduceLT, reduceLeDiff, reduceMul, reduceAdd, reduceIte, reduceCtorEq, Nat.reduceBEq, reduceSub, Int.reduceToNat, encTypes, encHost, encInts, getD_map encEdge hlt, hlt, encEdge, ha, hb] <;> rfl) (scal rfl) ?_
              simp -implicitDefEqProofs only [go_sem, reduceEqDiff, reduceLT, reduceLeDiff, reduceMul, reduceAdd, reduceIte, reduceCtorEq, Nat.reduceBEq, reduceSub, Int.reduceToNat, encTypes, encHost, encInts, getD_map encEdge hlt, hlt, encEdge, ha, hb]
              refine condC_splitN (fun h6 => ?_) (fun h6 => ?_) <;> simp -implicitDefEqProofs only [go_sem, reduceEqDiff, reduceLT, reduceLeDiff, reduceMul, reduceAdd, reduceIte, reduceCtorEq, Nat.reduceBEq, reduceSub, Int.reduceToNat, encTypes, encHost, encInts, getD_map encEdge hlt, hlt, encEdge, ha, hb]
              · rw [if_pos h6] at e0
                exact loopN_mk (y + 1) ⟨hlt, all_succ hq' e0⟩ (by omega) (by rw [wrap_succ hlt (by omega)]; exact (weak_mk (by repeat (first | exact sub_env0 _ | refine sub_upd ?_ (by first | rfl | simp [upd]))) (by repeat (first | exact hsub0 _ | refine hsub_hset ?_ (by first | rfl | simp [hset]))) (by repeat (first | exact ids_env0 _ | refine ids_upd ?_ (by simp [idsOk, idsOkL, hset]))) (by repeat (first | exact boxIds0 _ | refine boxIds_row ?_ | refine boxIds_shut ?_ | refine boxIds_box ?_ (by simp [idsOk, idsOkL, hset]))) (by repeat (first | exact keep0 _ | refine keep_low (by decide) ?_ | refine keep_high (by simp [hset]) ?_))))
              · rw [if_neg (by rw [h6]; decide)] at e0
                rw [firstI_at (Nat.zero_le _) hlt (fun j _ => hq' j) (by rw [e0]; decide)]
                simp only [e0]
                first | exact ⟨rfl, rfl⟩ | exact ⟨trivial, trivial⟩ | exact ⟨rfl, trivial⟩ | exact ⟨trivial, rfl⟩
          · have hge' : h.graph.edges.length ≤ y := by simpa using hc'
            simp -implicitDefEqProofs only [go_sem, reduceEqDiff, reduceLT, reduceLeDiff, reduceMul, reduceAdd, reduceIte, reduceCtorEq, Nat.reduceBEq, reduceSub, Int.reduceToNat, encTypes, encHost, encInts]
            rw [firstI_none fun j _ hj => hq' j (by omega)]
            exact ⟨rfl, rfl⟩
      · have h3' := of_decide_eq_false h3
        rw [if_pos (by omega)]
        exact ⟨rfl, rfl⟩
    · have h2' := of_decide_eq_false h2
      rw [if_pos h2']
      exact ⟨rfl, rfl⟩
  · have h1' := of_decide_eq_false h1
    unfold validH; rw [if_pos h1']
    exact ⟨rfl, rfl⟩
end Go.Proofs.YtdlohnchnneaeaaGreat
/- Layer 52: errors of sorts and of triples. -/
namespace Go.Proofs.YtdlohnchnneaeaaGreat
open Go.Abs

def FewS (s : Sorts) : Prop := s.nodes.length + s.edges.length ≤ 50
def sortB (n : Int) : Bool := decide (1 ≤ n) && decide (n ≤ 3)
def sortNE (t : Types) (s : Sorts) (i : Nat) : Int :=
  if sortB (s.nodes.getD i default) = false then 6
  else if 0 ≤ (t.nodes.getD i default).parent ∧ s.nodes.getD (t.nodes.getD i default).parent.toNat default ≠ s.nodes.getD i default then 13 else 0
def sortEE (t : Types) (s : Sorts) (i : Nat) : Int :=
  if sortB (s.edges.getD i default) = false then 6
  else if s.nodes.getD (t.edges.getD i default).src.toNat default ≠ s.edges.getD i default ∨ ((s.nodes.getD (t.edges.getD i default).dst.toNat default = s.edges.getD i default) ↔ s.edges.getD i default = 2) then 13 else 0
def sortsE (t : Types) (s : Sorts) : Int :=
  if (validT t).2 ≠ 0 then (validT t).2
  else if s.nodes.length ≠ t.nodes.length ∨ s.edges.length ≠ t.edges.length then 20
  else if firstE (sortNE t s) 0 t.nodes.length ≠ 0 then firstE (sortNE t s) 0 t.nodes.length
  else firstE (sortEE t s) 0 t.edges.length
def validTr (t : Types) (s : Sorts) (h : Host) : Int := if sortsE t s ≠ 0 then sortsE t s else (validH t h).2

theorem edgeS_ok (t : Types) (ht : OkT t) (s : Sorts) (hs : FewS s) (hn : s.nodes.length = t.nodes.length) (hm : s.edges.length = t.edges.length) (i : Nat) (hi : i < t.edges.length) :
    CallV Go.Proofs.Tryz.prog 66 [encTypes t, encSorts s, .val (.int .i64 i)] (fun r => r = .val (.int .i64 (sortEE t s i))) := by
  have hi' : i < s.edges.length := by omega
  have hE := ht.ends hi
  rw [inB_iff, inB_iff] at hE
  obtain ⟨a, ha⟩ : ∃ k : Nat, (t.edges.getD i default).src = k := ⟨_, (Int.toNat_of_nonneg hE.1.1).symm⟩
  obtain ⟨b, hb⟩ : ∃ k : Nat, (t.edges.getD i default).dst = k := ⟨_, (Int.toNat_of_nonneg hE.2.1).symm⟩
  have hal : a < s.nodes.length := by have := hE.1.2; rw [ha] at this; omega
  have hbl : b < s.nodes.length := by have := hE.2.2; rw [hb] at this; omega
  have e0 : sortEE t s i = if sortB (s.edges.getD i default) = false then 6 else if s.nodes.getD a default ≠ s.edges.getD i default ∨ ((s.nodes.getD b default = s.edges.getD i default) ↔ s.edges.getD i default = 2) then 13 else 0 := by
    unfold sortEE; rw [ha, hb, Int.toNat_natCast, Int.toNat_natCast]
  rw [e0]
  refine callV_of_cw [] Ty.mixed Go.Proofs.Tryz.func66 rfl (by kernel_rfl) (by simp [Go.Proofs.Tryz.ntmps66]) ?_; rw [Go.Proofs.Tryz.ntmps66, Go.Proofs.Tryz.results66]
  
  simp -implicitDefEqProofs only [go_sem, reduceEqDiff, reduceLT, reduceLeDiff, reduceMul, reduceAdd, reduceIte, reduceCtorEq, Nat.reduceBEq, reduceSub, Int.reduceToNat, encTypes, encSorts, encInts, getD_map encEdgeT hi, hi, encEdgeT, getD_map encI hi', hi', encI, ha, hb]
  refine call_go (is_ok (s.edges.getD i default)) (by simp -implicitDefEqProofs only [go_sem, reduceEqDiff, reduceLT, reduceLeDiff, reduceMul, reduceAdd, reduceIte, reduceCtorEq, Nat.reduceBEq, reduceSub, Int.reduceToNat, encTypes, encSorts, encInts, getD_map encEdgeT hi, hi, encEdgeT, getD_map encI hi', hi', encI, ha, hb] <;> rfl) (scal rfl) ?_
  simp -implicitDefEqProofs only [go_sem, reduceEqDiff, reduceLT, reduceLeDiff, reduceMul, reduceAdd, reduceIte, reduceCtorEq, Nat.reduceBEq, reduceSub, Int.reduceToNat, encTypes, encSorts, encInts, getD_map encEdgeT hi, hi, encEdgeT, getD_map encI hi', hi', encI, ha, hb]
  have hk : (decide (1 ≤ s.edges.getD i default) && decide (s.edges.getD i default ≤ 3)) = sortB (s.edges.getD i default) := rfl
  rw [hk]
  refine condC_splitN (fun h1 => ?_) (fun h1 => ?_) <;> simp -implicitDefEqProofs only [go_sem, reduceEqDiff, reduceLT, reduceLeDiff, reduceMul, reduceAdd, reduceIte, reduceCtorEq, Nat.reduceBEq, reduceSub, Int.reduceToNat, encTypes, encSorts, encInts, getD_map encEdgeT hi, hi, encEdgeT, getD_map encI hi', hi', encI, ha, hb]
  · rw [if_neg (by rw [h1]; decide)]
    refine draw_txt [.q, .q, .q, .q, .q, .q, .q, .q, .q, .q, .q, .q, .q, .q, .q, .q, .q, .q, .q, .q, .q, .q] (by kernel_rfl) ?_
    simp -implicitDefEqProofs only [go_sem, reduceEqDiff, reduceLT, reduceLeDiff, reduceMul, reduceAdd, reduceIte, reduceCtorEq, Nat.reduceBEq, reduceSub, Int.reduceToNat, getD_map encI hal, hal, getD_map encI hbl, hbl, encTypes, encSorts, encInts, getD_map encEdgeT hi, hi, encEdgeT, getD_map encI hi', hi', encI, ha, hb]
    refine walkG_split (fun h2 => ?_) (fun h2 => ?_) <;> simp -implicitDefEqProofs only [go_sem, reduceEqDiff, reduceLT, reduceLeDiff, reduceMul, reduceAdd, reduceIte, reduceCtorEq, Nat.reduceBEq, reduceSub, Int.reduceToNat, h2, encTypes, encSorts, encInts, getD_map encEdgeT hi, hi, encEdgeT, getD_map encI hi', hi', encI, ha, hb]
    · have h2' := of_decide_eq_true h2
      refine condC_split (fun h3 => ?_) (fun h3 => ?_) <;> simp -implicitDefEqProofs only [go_sem, reduceEqDiff, reduceLT, reduceLeDiff, reduceMul, reduceAdd, reduceIte, reduceCtorEq, Nat.reduceBEq, reduceSub, Int.reduceToNat, encTypes, encSorts, encInts, getD_map encEdgeT hi, hi, encEdgeT, getD_map encI hi', hi', encI, ha, hb]
      · rw [beq_iff_eq, decide_eq_decide] at h3
        rw [if_pos (.inr h3)]
      · have h3' : ¬ (s.nodes.getD b default = s.edges.getD i default ↔ s.edges.getD i default = 2) := by
          intro h
          have h7 : decide (s.nodes.getD b default = s.edges.getD i default) = decide (s.edges.getD i default = 2) := decide_eq_decide.mpr h
          rw [h7] at h3
          simp at h3
        rw [if_neg (by rintro (h | h); exact h h2'; exact h3' h)]
    · have h2' := of_decide_eq_false h2
      rw [if_pos (.inl h2')]
  · rw [if_pos h1]

theorem sorts_ok (t : Types) (hf : FewT t) (s : Sorts) (hs : FewS s) : CallV Go.Proofs.Tryz.prog 37 [encTypes t, encSorts s] (fun r => r = .val (.int .i64 (sortsE t s))) := by
  have hs' : s.nodes.length + s.edges.length ≤ 50 := hs
  refine callV_of_cw [] Ty.mixed Go.Proofs.Tryz.func37 rfl (by kernel_rfl) (by simp [Go.Proofs.Tryz.ntmps37]) ?_; rw [Go.Proofs.Tryz.ntmps37, Go.Proofs.Tryz.results37]
  
  simp -implicitDefEqProofs only [go_sem, reduceEqDiff, reduceLT, reduceLeDiff, reduceMul, reduceAdd, reduceIte, reduceCtorEq, Nat.reduceBEq, reduceSub, Int.reduceToNat, encTypes, encSorts, encInts]
  refine call_go (valid_ok t hf) (by simp -implicitDefEqProofs only [go_sem, reduceEqDiff, reduceLT, reduceLeDiff, reduceMul, reduceAdd, reduceIte, reduceCtorEq, Nat.reduceBEq, reduceSub, Int.reduceToNat, encTypes, encSorts, encInts] <;> rfl) (scal rfl) ?_
  simp -implicitDefEqProofs only [go_sem, reduceEqDiff, reduceLT, reduceLeDiff, reduceMul, reduceAdd, reduceIte, reduceCtorEq, Nat.reduceBEq, reduceSub, Int.reduceToNat, encTypes, encSorts, encInts]
  refine condC_splitN (fun h1 => ?_) (fun h1 => ?_) <;> simp -implicitDefEqProofs only [go_sem, reduceEqDiff, reduceLT, reduceLeDiff, reduceMul, reduceAdd, reduceIte, reduceCtorEq, Nat.reduceBEq, reduceSub, Int.reduceToNat, encTypes, encSorts, encInts]
  · have h1' := of_decide_eq_true h1
    have ht := okTypes hf h1'
    have e0 : sortsE t s = if s.nodes.length ≠ t.nodes.length ∨ s.edges.length ≠ t.edges.length then 20
        else if firstE (sortNE t s) 0 t.nodes.length ≠ 0 then firstE (sortNE t s) 0 t.nodes.length
        else firstE (sortEE t s) 0 t.edges.length := by unfold sortsE; rw [if_neg (by rw [h1']; decide)]
    rw [e0]
    clear e0
    refine walkG_split (fun h2 => ?_) (fun h2 => ?_) <;> simp -implicitDefEqProofs only [go_sem, reduceEqDiff, reduceLT, reduceLeDiff, reduceMul, reduceAdd, reduceIte, reduceCtorEq, Nat.reduceBEq, reduceSub, Int.reduceToNat, h2, encTypes, encSorts, encInts]
    · have h2' := of_decide_eq_true h2
      have hn : s.nodes.length = t.nodes.length := by omega
      refine condC_splitN (fun h3 => ?_) (fun h3 => ?_) <;> simp -implicitDefEqProofs only [go_sem, reduceEqDiff, reduceLT, reduceLeDiff, reduceMul, reduceAdd, reduceIte, reduceCtorEq, Nat.reduceBEq, reduceSub, Int.reduceToNat, encTypes, encSorts, encInts]
      · have h3' := of_decide_eq_true h3
        have hm : s.edges.length = t.edges.length := by omega
        rw [if_neg (by omega)]
        refine loop_rule (σ := Nat) (fun x => (upd (upd (upd (upd (upd env0 2 (.ptr 2 0)) 3 (.ptr 3 0)) 37 (.p (.lst (s.nodes.map encI)))) 38 (.p (.val (.int .i64 s.nodes.length)))) 39 (.p (.val (.int .i64 x)))))
          (fun x => (hset (hset heap0 2 (.box [.p (.lst (t.nodes.map encNode)), .p (.lst (t.edges.map encEdgeT))])) 3 (.box [.p (.lst (s.nodes.map encI)), .p (.lst (s.edges.map encI))])))
          (fun x => x ≤ t.nodes.length ∧ ∀ j, j < x → sortNE t s j = 0) (fun x => t.nodes.length - x) 0 ⟨Nat.zero_le _, fun j hj => absurd hj (Nat.not_lt_zero j)⟩ (weak_mk (by repeat (first | exact sub_env0 _ | refine sub_upd ?_ (by first | rfl | simp [upd]))) (by repeat (first | exact hsub0 _ | refine hsub_hset ?_ (by first | rfl | simp [hset]))) (by repeat (first | exact ids_env0 _ | refine ids_upd ?_ (by simp [idsOk, idsOkL, hset]))) (by repeat (first | exact boxIds0 _ | refine boxIds_row ?_ | refine boxIds_shut ?_ | refine boxIds_box ?_ (by simp [idsOk, idsOkL, hset]))) (by repeat (first | exact keep0 _ | refine keep_low (by decide) ?_ | refine keep_high (by simp [hset]) ?_))) ?_
        rintro x ⟨hx, hq⟩
        simp -implicitDefEqProofs only [go_sem, reduceEqDiff, reduceLT, reduceLeDiff, reduceMul, reduceAdd, reduceIte, reduceCtorEq, Nat.reduceBEq, reduceSub, Int.reduceToNat, encTypes, encSorts, encInts]
        refine condC_split (fun hc => ?_) (fun hc => ?_)
        · have hlt' : x < s.nodes.length := by simpa using hc
          have hlt : x < t.nodes.length := by omega
          have hpx := ht.par x hlt
          have bad : sortNE t s x ≠ 0 → sortNE t s x = if firstE (sortNE t s) 0 t.nodes.length ≠ 0 then firstE (sortNE t s) 0 t.nodes.length else firstE (sortEE t s) 0 t.edges.length := fun h => by
            rw [firstE_at0 hlt hq h, if_pos h]
          
          simp -implicitDefEqProofs only [go_sem, reduceEqDiff, reduceLT, reduceLeDiff, reduceMul, reduceAdd, reduceIte, reduceCtorEq, Nat.reduceBEq, reduceSub, Int.reduceToNat, encTypes, encSorts, encInts, getD_map encNode hlt, hlt, encNode, getD_map encI hlt', hlt', encI]
          refine call_go (is_ok (s.nodes.getD x default)) (by simp -implicitDefEqProofs only [go_sem, reduceEqDiff, reduceLT, reduceLeDiff, reduceMul, reduceAdd, reduceIte, reduceCtorEq, Nat.reduceBEq, reduceSub, Int.reduceToNat, encTypes, encSorts, encInts, getD_map encNode hlt, hlt, encNode, getD_map encI hlt', hlt', encI] <;> rfl) (scal rfl) ?_
          simp -implicitDefEqProofs only [go_sem, reduceEqDiff, reduceLT, reduceLeDiff, reduceMul, reduceAdd, reduceIte, reduceCtorEq, Nat.reduceBEq, reduceSub, Int.reduceToNat, encTypes, encSorts, encInts, getD_map encNode hlt, hlt, encNode, getD_map encI hlt', hlt', encI]
          have hk : (decide (1 ≤ s.nodes.getD x default) && decide (s.nodes.getD x default ≤ 3)) = sortB (s.nodes.getD x default) := rfl
          rw [hk]
          refine condC_splitN (fun h4 => ?_) (fun h4 => ?_) <;> simp -implicitDefEqProofs only [go_sem, reduceEqDiff, reduceLT, reduceLeDiff, reduceMul, reduceAdd, reduceIte, reduceCtorEq, Nat.reduceBEq, reduceSub, Int.reduceToNat, encTypes, encSorts, encInts, getD_map encNode hlt, hlt, encNode, getD_map encI hlt', hlt', encI]
          · refine walkG_split (fun h5 => ?_) (fun h5 => ?_) <;> simp -implicitDefEqProofs only [go_sem, reduceEqDiff, reduceLT, reduceLeDiff, reduceMul, reduceAdd, reduceIte, reduceCtorEq, Nat.reduceBEq, reduceSub, Int.reduceToNat, h5, encTypes, encSorts, encInts, getD_map encNode hlt, hlt, encNode, getD_map encI hlt', hlt', encI]
            · have h5' := of_decide_eq_true h5
              obtain ⟨q, hqq⟩ : ∃ q : Nat, (t.nodes.getD x default).parent = q := ⟨_, (Int.toNat_of_nonneg h5').symm⟩
              have hqs : q < s.nodes.length := by have := hpx.2; rw [hqq] at this; omega
              have e1 : sortNE t s x = if s.nodes.getD q default ≠ s.nodes.getD x default then 13 else 0 := by
                unfold sortNE; rw [if_neg (by rw [h4]; decide), hqq, Int.toNat_natCast]
                by_cases h : s.nodes.getD q default = s.nodes.getD x default
                · rw [if_neg (by rintro ⟨_, h'⟩; exact h' h), if_neg (fun h' => h' h)]
                · rw [if_pos ⟨by omega, h⟩, if_pos h]
              simp -implicitDefEqProofs only [go_sem, reduceEqDiff, reduceLT, reduceLeDiff, reduceMul, reduceAdd, reduceIte, reduceCtorEq, Nat.reduceBEq, reduceSub, Int.reduceToNat, hqq, getD_map encI hqs, hqs, encTypes, encSorts, encInts, getD_map encNode hlt, hlt, encNode, getD_map encI hlt', hlt', encI]
              refine condC_splitN (fun h6 => ?_) (fun h6 => ?_) <;> simp -implicitDefEqProofs only [go_sem, reduceEqDiff, reduceLT, reduceLeDiff, reduceMul, reduceAdd, reduceIte, reduceCtorEq, Nat.reduceBEq, reduceSub, Int.reduceToNat, encTypes, encSorts, encInts, getD_map encNode hlt, hlt, encNode, getD_map encI hlt', hlt', encI]
              · have h6' := of_decide_eq_true h6
                rw [if_neg (fun h => h h6')] at e1
                exact loopN_mk (x + 1) ⟨hlt, all_succ hq e1⟩ (by omega) (by rw [wrap_succ hlt (by omega)]; exact (weak_mk (by repeat (first | exact sub_env0 _ | refine sub_upd ?_ (by first | rfl | simp [upd]))) (by repeat (first | exact hsub0 _ | refine hsub_hset ?_ (by first | rfl | simp [hset]))) (by repeat (first | exact ids_env0 _ | refine ids_upd ?_ (by simp [idsOk, idsOkL, hset]))) (by repeat (first | exact boxIds0 _ | refine boxIds_row ?_ | refine boxIds_shut ?_ | refine boxIds_box ?_ (by simp [idsOk, idsOkL, hset]))) (by repeat (first | exact keep0 _ | refine keep_low (by decide) ?_ | refine keep_high (by simp [hset]) ?_))))
              · have h6' := of_decide_eq_false h6
                rw [if_pos h6'] at e1
                rw [← bad (by rw [e1]; decide), e1]
            · have h5' := of_decide_eq_false h5
              have e1 : sortNE t s x = 0 := by unfold sortNE; rw [if_neg (by rw [h4]; decide), if_neg (fun h => h5' h.1)]
              exact loopN_mk (x + 1) ⟨hlt, all_succ hq e1⟩ (by omega) (by rw [wrap_succ hlt (by omega)]; exact (weak_mk (by repeat (first | exact sub_env0 _ | refine sub_upd ?_ (by first | rfl | simp [upd]))) (by repeat (first | exact hsub0 _ | refine hsub_hset ?_ (by first | rfl | simp [hset]))) (by repeat (first | exact ids_env0 _ | refine ids_upd ?_ (by simp [idsOk, idsOkL, hset]))) (by repeat (first | exact boxIds0 _ | refine boxIds_row ?_ | refine boxIds_shut ?_ | refine boxIds_box ?_ (by simp [idsOk, idsOkL, hset]))) (by repeat (first | exact keep0 _ | refine keep_low (by decide) ?_ | refine keep_high (by simp [hset]) ?_))))
          · have e1 : sortNE t s x = 6 := by unfold sortNE; rw [if_pos h4]
            rw [← bad (by rw [e1]; decide), e1]
        · have hge : t.nodes.length ≤ x := by have := of_decide_eq_false hc; omega
          rw [firstE_none0 fun j hj => hq j (by omega), if_neg (by decide)]
          simp -implicitDefEqProofs only [go_sem, reduceEqDiff, reduceLT, reduceLeDiff, reduceMul, reduceAdd, reduceIte, reduceCtorEq, Nat.reduceBEq, reduceSub, Int.reduceToNat, encTypes, encSorts, encInts]
          refine loop_rule (σ := Nat) (fun x => (upd (upd (upd (upd env0 2 (.ptr 2 0)) 3 (.ptr 3 0)) 67 (.p (.val (.int .i64 s.edges.length)))) 68 (.p (.val (.int .i64 x)))))
            (fun x => (hset (hset heap0 2 (.box [.p (.lst (t.nodes.map encNode)), .p (.lst (t.edges.map encEdgeT))])) 3 (.box [.p (.lst (s.nodes.map encI)), .p (.lst (s.edges.map encI))])))
            (fun x => x ≤ t.edges.length ∧ ∀ j, j < x → sortEE t s j = 0) (fun x => t.edges.length - x) 0 ⟨Nat.zero_le _, fun j hj => absurd hj (Nat.not_lt_zero j)⟩ (weak_mk (by repeat (first | exact sub_env0 _ | refine sub_upd ?_ (by first | rfl | simp [upd]))) (by repeat (first | exact hsub0 _ | refine hsub_hset ?_ (by first | rfl | simp [hset]))) (by repeat (first | exact ids_env0 _ | refine ids_upd ?_ (by simp [idsOk, idsOkL, hset]))) (by repeat (first | exact boxIds0 _ | refine boxIds_row ?_ | refine boxIds_shut ?_ | refine boxIds_box ?_ (by simp [idsOk, idsOkL, hset]))) (by repeat (first | exact keep0 _ | refine keep_low (by decide) ?_ | refine keep_high (by simp [hset]) ?_))) ?_
          rintro y ⟨hy, hq'⟩
          simp -implicitDefEqProofs only [go_sem, reduceEqDiff, reduceLT, reduceLeDiff, reduceMul, reduceAdd, reduceIte, reduceCtorEq, Nat.reduceBEq, reduceSub, Int.reduceToNat, encTypes, encSorts, encInts]
          refine condC_split (fun hc' => ?_) (fun hc' => ?_)
          · have hlt : y < t.edges.length := by have := of_decide_eq_true hc'; omega
            simp -implicitDefEqProofs only [go_sem, reduceEqDiff, reduceLT, reduceLeDiff, reduceMul, reduceAdd, reduceIte, reduceCtorEq, Nat.reduceBEq, reduceSub, Int.reduceToNat, encTypes, encSorts, encInts]
            refine call_go (edgeS_ok t ht s hs hn hm y hlt) (by simp -implicitDefEqProofs only [go_sem, reduceEqDiff, reduceLT, reduceLeDiff, reduceMul, reduceAdd, reduceIte, reduceCtorEq, Nat.reduceBEq, reduceSub, Int.reduceToNat, encTypes, encSorts, encInts] <;> rfl) (scal rfl) ?_
            simp -implicitDefEqProofs only [go_sem, reduceEqDiff, reduceLT, reduceLeDiff, reduceMul, reduceAdd, reduceIte, reduceCtorEq, Nat.reduceBEq, reduceSub, Int.reduceToNat, encTypes, encSorts, encInts]
            refine condC_splitN (fun h6 => ?_) (fun h6 => ?_) <;> simp -implicitDefEqProofs only [go_sem, reduceEqDiff, reduceLT, reduceLeDiff, reduceMul, reduceAdd, reduceIte, reduceCtorEq, Nat.reduceBEq, reduceSub, Int.reduceToNat, encTypes, encSorts, encInts]
            · have h6' := of_decide_eq_true h6
              exact loopN_mk (y + 1) ⟨hlt, all_succ hq' h6'⟩ (by omega) (by rw [wrap_succ hlt (by omega)]; exact (weak_mk (by repeat (first | exact sub_env0 _ | refine sub_upd ?_ (by first | rfl | simp [upd]))) (by repeat (first | exact hsub0 _ | refine hsub_hset ?_ (by first | rfl | simp [hset]))) (by repeat (first | exact ids_env0 _ | refine ids_upd ?_ (by simp [idsOk, idsOkL, hset]))) (by repeat (first | exact boxIds0 _ | refine boxIds_row ?_ | refine boxIds_shut ?_ | refine boxIds_box ?_ (by simp [idsOk, idsOkL, hset]))) (by repeat (first | exact keep0 _ | refine keep_low (by decide) ?_ | refine keep_high (by simp [hset]) ?_))))
            · have h6' := of_decide_eq_false h6
              rw [firstE_at0 hlt hq' h6']
          · have hge' : t.edges.length ≤ y := by have := of_decide_eq_false hc'; omega
            simp -implicitDefEqProofs only [go_sem, reduceEqDiff, reduceLT, reduceLeDiff, reduceMul, reduceAdd, reduceIte, reduceCtorEq, Nat.reduceBEq, reduceSub, Int.reduceToNat, encTypes, encSorts, encInts]
            rw [firstE_none0 fun j hj => hq' j (by omega)]
      · have h3' := of_decide_eq_false h3
        rw [if_pos (by omega)]
    · have h2' := of_decide_eq_false h2
      rw [if_pos (by omega)]
  · have h1' := of_decide_eq_false h1
    unfold sortsE; rw [if_pos h1']

theorem trvalid_ok (t : Types) (hf : FewT t) (s : Sorts) (hs : FewS s) (h : Host) (hh : FewH h) : CallV Go.Proofs.Tryz.prog 22 [encTypes t, encSorts s, encHost h] (fun r => r = .val (.int .i64 (validTr t s h))) := by
  refine callV_of_cw [] Ty.mixed Go.Proofs.Tryz.func22 rfl (by kernel_rfl) (by simp [Go.Proofs.Tryz.ntmps22]) ?_; rw [Go.Proofs.Tryz.ntmps22, Go.Proofs.Tryz.results22]
  
  simp -implicitDefEqProofs only [go_sem, reduceEqDiff, reduceLT, reduceLeDiff, reduceMul, reduceAdd, reduceIte, reduceCtorEq, Nat.reduceBEq, reduceSub, Int.reduceToNat, encTypes, encSorts, encHost, encInts]
  refine call_go (sorts_ok t hf s hs) (by simp -implicitDefEqProofs only [go_sem, reduceEqDiff, reduceLT, reduceLeDiff, reduceMul, reduceAdd, reduceIte, reduceCtorEq, Nat.reduceBEq, reduceSub, Int.reduceToNat, encTypes, encSorts, encHost, encInts] <;> rfl) (scal rfl) ?_
  simp -implicitDefEqProofs only [go_sem, reduceEqDiff, reduceLT, reduceLeDiff, reduceMul, reduceAdd, reduceIte, reduceCtorEq, Nat.reduceBEq, reduceSub, Int.reduceToNat, encTypes, encSorts, encHost, encInts]
  refine condC_splitN (fun h1 => ?_) (fun h1 => ?_) <;> simp -implicitDefEqProofs only [go_sem, reduceEqDiff, reduceLT, reduceLeDiff, reduceMul, reduceAdd, reduceIte, reduceCtorEq, Nat.reduceBEq, reduceSub, Int.reduceToNat, encTypes, encSorts, encHost, encInts]
  · have h1' := of_decide_eq_true h1
    refine call_go (hvalid_ok t hf h hh) (by simp -implicitDefEqProofs only [go_sem, reduceEqDiff, reduceLT, reduceLeDiff, reduceMul, reduceAdd, reduceIte, reduceCtorEq, Nat.reduceBEq, reduceSub, Int.reduceToNat, encTypes, encSorts, encHost, encInts] <;> rfl) (scal rfl) ?_
    simp -implicitDefEqProofs only [go_sem, reduceEqDiff, reduceLT, reduceLeDiff, reduceMul, reduceAdd, reduceIte, reduceCtorEq, Nat.reduceBEq, reduceSub, Int.reduceToNat, encTypes, encSorts, encHost, encInts]
    unfold validTr; rw [if_neg (by rw [h1']; decide)]
  · have h1' := of_decide_eq_false h1
    unfold validTr; rw [if_pos h1']
end Go.Proofs.YtdlohnchnneaeaaGreat
/- Layer 52's reference: errors of sorts and of triples. -/
namespace Go.Proofs.YtdlohnchnneaeaaGreat
open Go.Abs

end Go.Proofs.YtdlohnchnneaeaaGreat
/- The bounds of the statements. -/
namespace Go.Proofs.YtdlohnchnneaeaaGreat
open Go.Abs

structure FitT (t : Types) : Prop where
  attrs : ∀ n ∈ t.nodes, n.attrs.length ≤ 1125899906842624

theorem mem_getD {α : Type} [Inhabited α] {l : List α} {x : α} (h : x ∈ l) : ∃ j, j < l.length ∧ l.getD j default = x := by
  obtain ⟨j, hj, rfl⟩ := List.mem_iff_getElem.1 h
  exact ⟨j, hj, by simp [hj]⟩
theorem all_succP {p : Nat → Prop} {x : Nat} (h : ∀ j, j < x → p j) (hx : p x) : ∀ j, j < x + 1 → p j := fun j hj => by
  rcases Nat.lt_succ_iff_lt_or_eq.1 hj with h' | h'
  · exact h j h'
  · rw [h']; exact hx

end Go.Proofs.YtdlohnchnneaeaaGreat
/- Layer 52: Swap, and its reference. -/
namespace Go.Proofs.YtdlohnchnneaeaaGreat
open Go.Abs

def turn1 (n : Int) : Int := IntKind.i64.wrap (4 - n)
def turnL (l : List Int) : List Int := l.map turn1
def turnS (s : Sorts) : Sorts := ⟨turnL s.nodes, turnL s.edges⟩
def swapX (t : Types) (s : Sorts) : Sorts × Int := if sortsE t s ≠ 0 then (⟨[], []⟩, sortsE t s) else (turnS s, 0)
def midL (l : List Int) (x : Nat) : List Int := (l.take x).map turn1 ++ l.drop x
theorem midL_zero (l : List Int) : midL l 0 = l := by simp [midL]
theorem midL_end (l : List Int) (x : Nat) (h : l.length ≤ x) : midL l x = turnL l := by simp [midL, turnL, List.take_of_length_le h, List.drop_eq_nil_of_le h]
theorem midL_len (l : List Int) (x : Nat) (h : x ≤ l.length) : (midL l x).length = l.length := by simp [midL]; omega
theorem midL_at (l : List Int) (x : Nat) (h : x < l.length) : (midL l x).getD x default = l.getD x default := by
  have h1 : ((l.take x).map turn1).length = x := by simp; omega
  unfold midL
  rw [List.getD_eq_getElem?_getD, List.getElem?_append_right (by omega), h1, Nat.sub_self]
  simp [h]
theorem midL_succ (l : List Int) (x : Nat) (h : x < l.length) : (midL l x).set x (turn1 (l.getD x default)) = midL l (x + 1) := by
  have h1 : ((l.take x).map turn1).length = x := by simp; omega
  unfold midL
  rw [List.set_append_right _ _ (by omega), h1, Nat.sub_self, take_succ_getD h, List.map_append, List.append_assoc]
  congr 1
  have h2 : l.getD x default = l[x] := by simp [h]
  rw [List.drop_eq_getElem_cons h, h2]
  try rfl

theorem swapped_ok (l : List Int) (hl : l.length ≤ 1000000) : CallF Go.Proofs.Tryz.prog 38 [encInts l] (fun r => r = .row 3 1 ((turnL l).map encI)) := by
  refine callF_of_cw [] Ty.mixed Go.Proofs.Tryz.func38 rfl (by kernel_rfl) (by simp [Go.Proofs.Tryz.ntmps38]) ?_; rw [Go.Proofs.Tryz.ntmps38, Go.Proofs.Tryz.results38]
  simp -implicitDefEqProofs only [go_sem, reduceEqDiff, reduceLT, reduceLeDiff, reduceMul, reduceAdd, reduceIte, reduceCtorEq, Nat.reduceBEq, reduceSub, Int.reduceToNat, encInts]
  refine callf_go 100 (clone_int l hl) (by simp -implicitDefEqProofs only [go_sem, reduceEqDiff, reduceLT, reduceLeDiff, reduceMul, reduceAdd, reduceIte, reduceCtorEq, Nat.reduceBEq, reduceSub, Int.reduceToNat] <;> rfl) (persF) (by simp -implicitDefEqProofs only [go_sem, reduceEqDiff, reduceLT, reduceLeDiff, reduceMul, reduceAdd, reduceIte, reduceCtorEq, Nat.reduceBEq, reduceSub, Int.reduceToNat]) ?_
  simp -implicitDefEqProofs only [go_sem, reduceEqDiff, reduceLT, reduceLeDiff, reduceMul, reduceAdd, reduceIte, reduceCtorEq, Nat.reduceBEq, reduceSub, Int.reduceToNat]
  refine loop_rule (σ := Nat) (fun x => (upd (upd (upd (upd env0 3 (.row 100 0)) 8 (.row 100 0)) 9 (.p (.val (.int .i64 l.length)))) 10 (.p (.val (.int .i64 x))))) (fun x => (hset heap0 100 (.row 0 3 1 ((midL l x).map encI))))
    (fun x => x ≤ l.length) (fun x => l.length - x) 0 (Nat.zero_le _) ?_ ?_
  · rw [midL_zero]
    exact (weak_mk (by repeat (first | exact sub_env0 _ | refine sub_upd ?_ (by first | rfl | simp [upd]))) (by repeat (first | exact hsub0 _ | refine hsub_hset ?_ (by first | rfl | simp [hset]))) (by repeat (first | exact ids_env0 _ | refine ids_upd ?_ (by simp [idsOk, idsOkL, hset]))) (by repeat (first | exact boxIds0 _ | refine boxIds_row ?_ | refine boxIds_shut ?_ | refine boxIds_box ?_ (by simp [idsOk, idsOkL, hset]))) (by repeat (first | exact keep0 _ | refine keep_low (by decide) ?_ | refine keep_high (by simp [hset]) ?_)))
  rintro x hx
  simp -implicitDefEqProofs only [go_sem, reduceEqDiff, reduceLT, reduceLeDiff, reduceMul, reduceAdd, reduceIte, reduceCtorEq, Nat.reduceBEq, reduceSub, Int.reduceToNat]
  refine condC_split (fun hc => ?_) (fun hc => ?_)
  · have hc' := of_decide_eq_true hc
    have hx1 : x < l.length := by omega
    have hlx : x < (midL l x).length := by rw [midL_len l x hx]; exact hx1
    
    simp -implicitDefEqProofs only [go_sem, reduceEqDiff, reduceLT, reduceLeDiff, reduceMul, reduceAdd, reduceIte, reduceCtorEq, Nat.reduceBEq, reduceSub, Int.reduceToNat, midL_len l x hx, midL_at l x hx1, getD_map encI hlx, encI, map_set_encI]
    have hs := midL_succ l x hx1
    unfold turn1 at hs
    rw [hs]
    exact ⟨hx1, hx1, hx1, hx1, loopN_mk (x + 1) hx1 (by omega) (by rw [wrap_succ hx1 (by omega)]; exact (weak_mk (by repeat (first | exact sub_env0 _ | refine sub_upd ?_ (by first | rfl | simp [upd]))) (by repeat (first | exact hsub0 _ | refine hsub_hset ?_ (by first | rfl | simp [hset]))) (by repeat (first | exact ids_env0 _ | refine ids_upd ?_ (by simp [idsOk, idsOkL, hset]))) (by repeat (first | exact boxIds0 _ | refine boxIds_row ?_ | refine boxIds_shut ?_ | refine boxIds_box ?_ (by simp [idsOk, idsOkL, hset]))) (by repeat (first | exact keep0 _ | refine keep_low (by decide) ?_ | refine keep_high (by simp [hset]) ?_))))⟩
  · have hc' := of_decide_eq_false hc
    simp -implicitDefEqProofs only [go_sem, reduceEqDiff, reduceLT, reduceLeDiff, reduceMul, reduceAdd, reduceIte, reduceCtorEq, Nat.reduceBEq, reduceSub, Int.reduceToNat]
    rw [midL_end l x (by omega)]
    exact ⟨by decide, _, .refl _, rfl⟩

instance : DecidableEq Sorts := fun a b => decidable_of_iff (a.nodes = b.nodes ∧ a.edges = b.edges) (by cases a; cases b; simp)
theorem swapLe (t : Types) (s : Sorts) {k : FuncId} {args : List PV} (h : CallV Go.Proofs.Tryz.prog k args (fun r => (sortsE t s = 0 ∧ r = .tup [.agg [.lst ((turnL s.nodes).map encI), .lst ((turnL s.edges).map encI)], .val (.int .i64 0)]) ∨
    (sortsE t s ≠ 0 ∧ r = .tup [.agg [.val (.slice none 0 0), .val (.slice none 0 0)], .val (.int .i64 (sortsE t s))]))) : CallV Go.Proofs.Tryz.prog k args (fun r => r = .tup [encSorts (swapX t s).1, .val (.int .i64 (swapX t s).2)]) := by
  refine h.le ?_
  rintro r (⟨h1, rfl⟩ | ⟨h1, rfl⟩)
  · unfold swapX; rw [if_neg (by rw [h1]; decide)]
    exact ⟨_, PLe.refl _, rfl⟩
  · unfold swapX; rw [if_pos h1]
    exact ⟨.tup [.agg [.lst [], .lst []], .val (.int .i64 (sortsE t s))], .tup ⟨.agg ⟨.nil, .nil, trivial⟩, .refl _, trivial⟩, rfl⟩
theorem swap_ok (t : Types) (hf : FewT t) (s : Sorts) (hs : FewS s) : CallV Go.Proofs.Tryz.prog 14 [encTypes t, encSorts s] (fun r => r = .tup [encSorts (swapX t s).1, .val (.int .i64 (swapX t s).2)]) := by
  refine swapLe t s ?_
  have hs' : s.nodes.length + s.edges.length ≤ 50 := hs
  refine callV_of_cw [] Ty.mixed Go.Proofs.Tryz.func14 rfl (by kernel_rfl) (by simp [Go.Proofs.Tryz.ntmps14]) ?_; rw [Go.Proofs.Tryz.ntmps14, Go.Proofs.Tryz.results14]
  
  simp -implicitDefEqProofs only [go_sem, reduceEqDiff, reduceLT, reduceLeDiff, reduceMul, reduceAdd, reduceIte, reduceCtorEq, Nat.reduceBEq, reduceSub, Int.reduceToNat, encTypes, encSorts, encInts]
  refine call_go (sorts_ok t hf s hs) (by simp -implicitDefEqProofs only [go_sem, reduceEqDiff, reduceLT, reduceLeDiff, reduceMul, reduceAdd, reduceIte, reduceCtorEq, Nat.reduceBEq, reduceSub, Int.reduceToNat, encTypes, encSorts, encInts] <;> rfl) (scal rfl) ?_
  simp -implicitDefEqProofs only [go_sem, reduceEqDiff, reduceLT, reduceLeDiff, reduceMul, reduceAdd, reduceIte, reduceCtorEq, Nat.reduceBEq, reduceSub, Int.reduceToNat, encTypes, encSorts, encInts]
  refine condC_splitN (fun h1 => ?_) (fun h1 => ?_) <;> simp -implicitDefEqProofs only [go_sem, reduceEqDiff, reduceLT, reduceLeDiff, reduceMul, reduceAdd, reduceIte, reduceCtorEq, Nat.reduceBEq, reduceSub, Int.reduceToNat, encTypes, encSorts, encInts]
  · have h1' := of_decide_eq_true h1
    refine draw_txt [.q, .q, .q, .q, .q, .q, .q, .w, .w] (by kernel_rfl) ?_
    simp -implicitDefEqProofs only [go_sem, reduceEqDiff, reduceLT, reduceLeDiff, reduceMul, reduceAdd, reduceIte, reduceCtorEq, Nat.reduceBEq, reduceSub, Int.reduceToNat, encTypes, encSorts, encInts]
    refine calld_go ((swapped_ok s.nodes (by omega)).toL) (by simp -implicitDefEqProofs only [go_sem, reduceEqDiff, reduceLT, reduceLeDiff, reduceMul, reduceAdd, reduceIte, reduceCtorEq, Nat.reduceBEq, reduceSub, Int.reduceToNat, encTypes, encSorts, encInts] <;> rfl) (pers) ?_
    simp -implicitDefEqProofs only [go_sem, reduceEqDiff, reduceLT, reduceLeDiff, reduceMul, reduceAdd, reduceIte, reduceCtorEq, Nat.reduceBEq, reduceSub, Int.reduceToNat, encTypes, encSorts, encInts]
    refine calld_go ((swapped_ok s.edges (by omega)).toL) (by simp -implicitDefEqProofs only [go_sem, reduceEqDiff, reduceLT, reduceLeDiff, reduceMul, reduceAdd, reduceIte, reduceCtorEq, Nat.reduceBEq, reduceSub, Int.reduceToNat, encTypes, encSorts, encInts] <;> rfl) (pers) ?_
    simp -implicitDefEqProofs only [go_sem, reduceEqDiff, reduceLT, reduceLeDiff, reduceMul, reduceAdd, reduceIte, reduceCtorEq, Nat.reduceBEq, reduceSub, Int.reduceToNat, encTypes, encSorts, encInts]
    simp [h1']
  · have h1' := of_decide_eq_false h1
    simp [h1']

end Go.Proofs.YtdlohnchnneaeaaGreat
/- Layer 52: what Links uses: pairs in lists, sorts of nodes, the order of pairs. -/
namespace Go.Proofs.YtdlohnchnneaeaaGreat
open Go.Abs

def pEq (x y : GPair) : Bool := decide (x.a = y.a) && decide (x.b = y.b)
theorem pEq_iff {x y : GPair} : pEq x y = true ↔ x = y := by cases x; cases y; simp [pEq]
instance : DecidableEq GPair := fun x y => decidable_of_iff (pEq x y = true) pEq_iff

theorem ix_pair (l : List GPair) (y : GPair) (hl : l.length ≤ 1000000) :
    CallV Go.Proofs.Tryz.prog 60 [.lst (l.map encPair), .agg (encPair y)] (fun r => r = .val (.int .i64 (idxOf (pEq y) l))) := by
  refine callV_of_cw [] Ty.mixed Go.Proofs.Tryz.func60 rfl (by kernel_rfl) (by simp [Go.Proofs.Tryz.ntmps60]) ?_; rw [Go.Proofs.Tryz.ntmps60, Go.Proofs.Tryz.results60]
  simp -implicitDefEqProofs only [go_sem, reduceEqDiff, reduceLT, reduceLeDiff, reduceMul, reduceAdd, reduceIte, reduceCtorEq, Nat.reduceBEq, reduceSub, Int.reduceToNat, encPair]
  refine loop_rule (σ := Nat) (fun x => (upd (upd (upd (upd env0 0 (.p (.lst (l.map encPair)))) 3 (.ptr 3 0)) 7 (.p (.val (.int .i64 l.length)))) 8 (.p (.val (.int .i64 x))))) (fun x => (hset heap0 3 (.box [.p (.val (.int .i64 y.a)), .p (.val (.int .i64 y.b))])))
    (fun x => x ≤ l.length ∧ ∀ j, j < x → pEq y (l.getD j default) = false) (fun x => l.length - x) 0 ⟨Nat.zero_le _, fun j hj => absurd hj (Nat.not_lt_zero j)⟩ (weak_mk (by repeat (first | exact sub_env0 _ | refine sub_upd ?_ (by first | rfl | simp [upd]))) (by repeat (first | exact hsub0 _ | refine hsub_hset ?_ (by first | rfl | simp [hset]))) (by repeat (first | exact ids_env0 _ | refine ids_upd ?_ (by simp [idsOk, idsOkL, hset]))) (by repeat (first | exact boxIds0 _ | refine boxIds_row ?_ | refine boxIds_shut ?_ | refine boxIds_box ?_ (by simp [idsOk, idsOkL, hset]))) (by repeat (first | exact keep0 _ | refine keep_low (by decide) ?_ | refine keep_high (by simp [hset]) ?_))) ?_
  rintro x ⟨hx, hq⟩
  simp -implicitDefEqProofs only [go_sem, reduceEqDiff, reduceLT, reduceLeDiff, reduceMul, reduceAdd, reduceIte, reduceCtorEq, Nat.reduceBEq, reduceSub, Int.reduceToNat]
  refine condC_split (fun hc => ?_) (fun hc => ?_)
  · have hlt : x < l.length := by simpa using hc
    simp -implicitDefEqProofs only [go_sem, reduceEqDiff, reduceLT, reduceLeDiff, reduceMul, reduceAdd, reduceIte, reduceCtorEq, Nat.reduceBEq, reduceSub, Int.reduceToNat, getD_map encPair hlt, hlt, encPair]
    refine draw_txt [.q, .q, .q, .q, .q, .q] (by kernel_rfl) ?_
    simp -implicitDefEqProofs only [go_sem, reduceEqDiff, reduceLT, reduceLeDiff, reduceMul, reduceAdd, reduceIte, reduceCtorEq, Nat.reduceBEq, reduceSub, Int.reduceToNat, getD_map encPair hlt, hlt, encPair]
    have hk : (decide (y.a = (l.getD x default).a) && decide (y.b = (l.getD x default).b)) = pEq y (l.getD x default) := rfl
    rw [hk]
    refine condC_split (fun hb => ?_) (fun hb => ?_) <;> simp -implicitDefEqProofs only [go_sem, reduceEqDiff, reduceLT, reduceLeDiff, reduceMul, reduceAdd, reduceIte, reduceCtorEq, Nat.reduceBEq, reduceSub, Int.reduceToNat]
    · exact (idxOf_at (p := pEq y) hlt hq hb).symm
    · exact loopN_mk (x + 1) ⟨hlt, all_succB hq hb⟩ (by omega) (by rw [wrap_succ hlt (by omega)]; exact (weak_mk (by repeat (first | exact sub_env0 _ | refine sub_upd ?_ (by first | rfl | simp [upd]))) (by repeat (first | exact hsub0 _ | refine hsub_hset ?_ (by first | rfl | simp [hset]))) (by repeat (first | exact ids_env0 _ | refine ids_upd ?_ (by simp [idsOk, idsOkL, hset]))) (by repeat (first | exact boxIds0 _ | refine boxIds_row ?_ | refine boxIds_shut ?_ | refine boxIds_box ?_ (by simp [idsOk, idsOkL, hset]))) (by repeat (first | exact keep0 _ | refine keep_low (by decide) ?_ | refine keep_high (by simp [hset]) ?_))))
  · have hge : l.length ≤ x := by simpa using hc
    simp -implicitDefEqProofs only [go_sem, reduceEqDiff, reduceLT, reduceLeDiff, reduceMul, reduceAdd, reduceIte, reduceCtorEq, Nat.reduceBEq, reduceSub, Int.reduceToNat, hc]
    rw [idxOf_none fun j hj => hq j (by omega)]
theorem has_pair (l : List GPair) (y : GPair) (hl : l.length ≤ 1000000) :
    CallV Go.Proofs.Tryz.prog 27 [.lst (l.map encPair), .agg (encPair y)] (fun r => r = .val (.bool (l.any (pEq y)))) := by
  refine callV_of_cw [] Ty.mixed Go.Proofs.Tryz.func27 rfl (by kernel_rfl) (by simp [Go.Proofs.Tryz.ntmps27]) ?_; rw [Go.Proofs.Tryz.ntmps27, Go.Proofs.Tryz.results27]
  simp -implicitDefEqProofs only [go_sem, reduceEqDiff, reduceLT, reduceLeDiff, reduceMul, reduceAdd, reduceIte, reduceCtorEq, Nat.reduceBEq, reduceSub, Int.reduceToNat, encPair]
  refine call_go (ix_pair l y hl) (by simp -implicitDefEqProofs only [go_sem, reduceEqDiff, reduceLT, reduceLeDiff, reduceMul, reduceAdd, reduceIte, reduceCtorEq, Nat.reduceBEq, reduceSub, Int.reduceToNat] <;> rfl) (scal rfl) ?_
  simp -implicitDefEqProofs only [go_sem, reduceEqDiff, reduceLT, reduceLeDiff, reduceMul, reduceAdd, reduceIte, reduceCtorEq, Nat.reduceBEq, reduceSub, Int.reduceToNat]
  exact idxOf_any

theorem equal_pair (a b : List GPair) (ha : a.length ≤ 1000000) : CallV Go.Proofs.Tryz.prog 13 [.lst (a.map encPair), .lst (b.map encPair)] (fun r => r = .val (.bool (decide (a = b)))) := by
  refine callV_of_cw [] Ty.mixed Go.Proofs.Tryz.func13 rfl (by kernel_rfl) (by simp [Go.Proofs.Tryz.ntmps13]) ?_; rw [Go.Proofs.Tryz.ntmps13, Go.Proofs.Tryz.results13]
  simp -implicitDefEqProofs only [go_sem, reduceEqDiff, reduceLT, reduceLeDiff, reduceMul, reduceAdd, reduceIte, reduceCtorEq, Nat.reduceBEq, reduceSub, Int.reduceToNat]
  refine condC_splitN (fun h1 => ?_) (fun h1 => ?_) <;> simp -implicitDefEqProofs only [go_sem, reduceEqDiff, reduceLT, reduceLeDiff, reduceMul, reduceAdd, reduceIte, reduceCtorEq, Nat.reduceBEq, reduceSub, Int.reduceToNat]
  · have h1' := of_decide_eq_true h1
    have he : a.length = b.length := by omega
    refine loop_rule (σ := Nat) (fun x => (upd (upd (upd (upd env0 0 (.p (.lst (a.map encPair)))) 1 (.p (.lst (b.map encPair)))) 12 (.p (.val (.int .i64 a.length)))) 13 (.p (.val (.int .i64 x)))))
      (fun x => heap0)
      (fun x => x ≤ a.length ∧ ∀ j, j < x → a.getD j default = b.getD j default) (fun x => a.length - x) 0 ⟨Nat.zero_le _, fun j hj => absurd hj (Nat.not_lt_zero j)⟩ (weak_mk (by repeat (first | exact sub_env0 _ | refine sub_upd ?_ (by first | rfl | simp [upd]))) (by repeat (first | exact hsub0 _ | refine hsub_hset ?_ (by first | rfl | simp [hset]))) (by repeat (first | exact ids_env0 _ | refine ids_upd ?_ (by simp [idsOk, idsOkL, hset]))) (by repeat (first | exact boxIds0 _ | refine boxIds_row ?_ | refine boxIds_shut ?_ | refine boxIds_box ?_ (by simp [idsOk, idsOkL, hset]))) (by repeat (first | exact keep0 _ | refine keep_low (by decide) ?_ | refine keep_high (by simp [hset]) ?_))) ?_
    rintro x ⟨hx, hq⟩
    simp -implicitDefEqProofs only [go_sem, reduceEqDiff, reduceLT, reduceLeDiff, reduceMul, reduceAdd, reduceIte, reduceCtorEq, Nat.reduceBEq, reduceSub, Int.reduceToNat]
    refine condC_split (fun hc => ?_) (fun hc => ?_)
    · have hc' := of_decide_eq_true hc
      have hx1 : x < a.length := by omega
      have hx2 : x < b.length := by omega
      
      simp -implicitDefEqProofs only [go_sem, reduceEqDiff, reduceLT, reduceLeDiff, reduceMul, reduceAdd, reduceIte, reduceCtorEq, Nat.reduceBEq, reduceSub, Int.reduceToNat, getD_map encPair hx1, getD_map encPair hx2, hx1, hx2, encPair]
      refine draw_txt [.q, .q, .q, .q, .q, .q, .q, .q, .q] (by kernel_rfl) ?_
      simp -implicitDefEqProofs only [go_sem, reduceEqDiff, reduceLT, reduceLeDiff, reduceMul, reduceAdd, reduceIte, reduceCtorEq, Nat.reduceBEq, reduceSub, Int.reduceToNat, getD_map encPair hx1, getD_map encPair hx2, hx1, hx2, encPair]
      have hk : (decide ((a.getD x default).a = (b.getD x default).a) && decide ((a.getD x default).b = (b.getD x default).b)) = pEq (a.getD x default) (b.getD x default) := rfl
      rw [hk]
      refine condC_splitN (fun h2 => ?_) (fun h2 => ?_) <;> simp -implicitDefEqProofs only [go_sem, reduceEqDiff, reduceLT, reduceLeDiff, reduceMul, reduceAdd, reduceIte, reduceCtorEq, Nat.reduceBEq, reduceSub, Int.reduceToNat, getD_map encPair hx1, getD_map encPair hx2, hx1, hx2, encPair]
      · exact loopN_mk (x + 1) ⟨hx1, all_succP hq (pEq_iff.1 h2)⟩ (by omega) (by rw [wrap_succ hx1 (by omega)]; exact (weak_mk (by repeat (first | exact sub_env0 _ | refine sub_upd ?_ (by first | rfl | simp [upd]))) (by repeat (first | exact hsub0 _ | refine hsub_hset ?_ (by first | rfl | simp [hset]))) (by repeat (first | exact ids_env0 _ | refine ids_upd ?_ (by simp [idsOk, idsOkL, hset]))) (by repeat (first | exact boxIds0 _ | refine boxIds_row ?_ | refine boxIds_shut ?_ | refine boxIds_box ?_ (by simp [idsOk, idsOkL, hset]))) (by repeat (first | exact keep0 _ | refine keep_low (by decide) ?_ | refine keep_high (by simp [hset]) ?_))))
      · have : a ≠ b := fun h => by rw [h, pEq_iff.2 rfl] at h2; cases h2
        simp [this]
    · have hc' := of_decide_eq_false hc
      simp -implicitDefEqProofs only [go_sem, reduceEqDiff, reduceLT, reduceLeDiff, reduceMul, reduceAdd, reduceIte, reduceCtorEq, Nat.reduceBEq, reduceSub, Int.reduceToNat]
      have : a = b := by
        apply List.ext_getElem he
        intro k hk1 hk2
        have := hq k (by omega)
        simpa [hk1, hk2] using this
      simp [this]
  · have h1' := of_decide_eq_false h1
    have : a ≠ b := fun h => h1' (by rw [h])
    simp [this]

theorem link1_ok (s : Sorts) (ns : List Int) (es : List Edge) (i k : Nat) (hi : i < ns.length) (hk : ns.getD i default = k) (hks : k < s.nodes.length) :
    CallV Go.Proofs.Tryz.prog 32 [.val (.int .i64 i), .eptr [.lst (s.nodes.map encI), .lst (s.edges.map encI)] 0, .eptr [.lst (ns.map encI), .lst (es.map encEdge)] 0] (fun r => r = .val (.int .i64 (s.nodes.getD k default))) := by
  refine callV_of_cw [] Ty.mixed Go.Proofs.Tryz.func32 rfl (by kernel_rfl) (by simp [Go.Proofs.Tryz.ntmps32]) ?_; rw [Go.Proofs.Tryz.ntmps32, Go.Proofs.Tryz.results32]
  
  simp -implicitDefEqProofs only [go_sem, reduceEqDiff, reduceLT, reduceLeDiff, reduceMul, reduceAdd, reduceIte, reduceCtorEq, Nat.reduceBEq, reduceSub, Int.reduceToNat, getD_map encI hi, hi, getD_map encI hks, hks, encI, hk]
  refine draw_txt [.q, .q, .q, .q, .q, .q, .q, .q, .q, .q] (by kernel_rfl) ?_
  simp -implicitDefEqProofs only [go_sem, reduceEqDiff, reduceLT, reduceLeDiff, reduceMul, reduceAdd, reduceIte, reduceCtorEq, Nat.reduceBEq, reduceSub, Int.reduceToNat, getD_map encI hi, hi, getD_map encI hks, hks, encI, hk]

def cmpP (x y : GPair) : Int := if x.a = y.a then IntKind.i64.wrap (x.b - y.b) else IntKind.i64.wrap (x.a - y.a)
end Go.Proofs.YtdlohnchnneaeaaGreat
/- Layer 52's reference: Part. -/
namespace Go.Proofs.YtdlohnchnneaeaaGreat
open Go.Abs

structure Part where
  nodes : List Int
  edges : List Int
def encPart (p : Part) : PV := .agg [encInts p.nodes, encInts p.edges]
def inR (n : Int) (k : Nat) : Prop := 0 ≤ n ∧ n < k
structure OkTr (s : Sorts) (g : Graph) : Prop where
  nodes : g.nodes.length ≤ 40
  edges : g.edges.length ≤ 80
  kind : ∀ i, i < g.nodes.length → inR (g.nodes.getD i default) s.nodes.length
  type : ∀ i, i < g.edges.length → inR (g.edges.getD i default).type s.edges.length
  src : ∀ i, i < g.edges.length → inR (g.edges.getD i default).src g.nodes.length
  dst : ∀ i, i < g.edges.length → inR (g.edges.getD i default).dst g.nodes.length
def nodeS (s : Sorts) (g : Graph) (i : Nat) : Int := s.nodes.getD (g.nodes.getD i default).toNat default
def edgeS (s : Sorts) (g : Graph) (i : Nat) : Int := s.edges.getD (g.edges.getD i default).type.toNat default
def pick (p : Nat → Bool) (n : Nat) : List Int := ((List.range n).filter p).map Int.ofNat
theorem pick_succ (p : Nat → Bool) (n : Nat) : pick p (n + 1) = if p n = true then pick p n ++ [(n : Int)] else pick p n := by
  unfold pick
  rw [List.range_succ, List.filter_append, List.map_append]
  cases h : p n <;> simp [h]
theorem pick_zero (p : Nat → Bool) : pick p 0 = [] := rfl
theorem pick_len (p : Nat → Bool) (n : Nat) : (pick p n).length ≤ n := by
  have := List.length_filter_le p (List.range n)
  simpa [pick] using this
def partX (s : Sorts) (g : Graph) (k : Int) : Part := ⟨pick (fun i => decide (nodeS s g i = k)) g.nodes.length, pick (fun i => decide (edgeS s g i = k)) g.edges.length⟩

theorem Part_ok (s : Sorts) (g : Graph) (h : OkTr s g) (k : Int) : CallV Go.Proofs.Tryz.prog 35 [encSorts s, encGraph g, .val (.int .i64 k)] (fun r => r = encPart (partX s g k)) := by
  have hgn := h.nodes
  have hge := h.edges
  refine callV_of_cw [32, 57] Ty.mixed Go.Proofs.Tryz.func35 rfl (by kernel_rfl) (by simp [Go.Proofs.Tryz.ntmps35]) ?_; rw [Go.Proofs.Tryz.ntmps35, Go.Proofs.Tryz.results35]
  
  simp -implicitDefEqProofs only [go_sem, reduceEqDiff, reduceLT, reduceLeDiff, reduceMul, reduceAdd, reduceIte, reduceCtorEq, Nat.reduceBEq, reduceSub, Int.reduceToNat, encSorts, encGraph, encInts]
  refine loop_rule (σ := Nat × Nat) (fun x => (upd (upd (upd (upd (upd (upd env0 2 (.p (.val (.int .i64 k)))) 3 (.ptr 3 0)) 4 (.ptr 4 0)) 6 (.ptr 6 0)) 7 (.ptr 7 0)) 8 (.p (.val (.int .i64 x.1)))))
    (fun x => (hset (hset (hset (hset (hset heap0 3 (.box [.p (.lst (s.nodes.map encI)), .p (.lst (s.edges.map encI))])) 4 (.box [.p (.lst (g.nodes.map encI)), .p (.lst (g.edges.map encEdge))])) 6 (.box [.p (.val (.slice none 0 0)), .p (.val (.slice none 0 0))])) 32 (.row x.2 3 1 ((pick (fun i => decide (nodeS s g i = k)) x.1).map encI))) 7 (.box [.row 32 x.2, .p (.val (.slice none 0 0))])))
    (fun x => x.1 ≤ g.nodes.length) (fun x => g.nodes.length - x.1) (0, 0) (Nat.zero_le _) ((weak_nilbox 7 0 32 3 1 _ rfl rfl rfl (by decide)).trans (by rw [pick_zero]; exact (weak_mk (by repeat (first | exact sub_env0 _ | refine sub_upd ?_ (by first | rfl | simp [upd]))) (by repeat (first | exact hsub0 _ | refine hsub_hset ?_ (by first | rfl | simp [hset]))) (by repeat (first | exact ids_env0 _ | refine ids_upd ?_ (by simp [idsOk, idsOkL, hset]))) (by repeat (first | exact boxIds0 _ | refine boxIds_row ?_ | refine boxIds_shut ?_ | refine boxIds_box ?_ (by simp [idsOk, idsOkL, hset]))) (by repeat (first | exact keep0 _ | refine keep_low (by decide) ?_ | refine keep_high (by simp [hset]) ?_))))) ?_
  rintro ⟨x, v⟩ hx
  simp only at hx
  simp -implicitDefEqProofs only [go_sem, reduceEqDiff, reduceLT, reduceLeDiff, reduceMul, reduceAdd, reduceIte, reduceCtorEq, Nat.reduceBEq, reduceSub, Int.reduceToNat, encSorts, encGraph, encInts]
  refine condC_split (fun hc => ?_) (fun hc => ?_)
  · have hx1 : x < g.nodes.length := by have := of_decide_eq_true hc; omega
    obtain ⟨q, hq⟩ : ∃ q : Nat, g.nodes.getD x default = q := ⟨_, (Int.toNat_of_nonneg (h.kind x hx1).1).symm⟩
    have hqs : q < s.nodes.length := by have := (h.kind x hx1).2; rw [hq] at this; omega
    have hS : nodeS s g x = s.nodes.getD q default := by unfold nodeS; rw [hq, Int.toNat_natCast]
    have hP := pick_succ (fun i => decide (nodeS s g i = k)) x
    have hL := pick_len (fun i => decide (nodeS s g i = k)) x
    rw [hS] at hP
    
    simp -implicitDefEqProofs only [go_sem, reduceEqDiff, reduceLT, reduceLeDiff, reduceMul, reduceAdd, reduceIte, reduceCtorEq, Nat.reduceBEq, reduceSub, Int.reduceToNat, encSorts, encGraph, encInts, getD_map encI hx1, hx1, encI, hq, getD_map encI hqs, hqs]
    refine draw_txt [.q, .q, .q, .q, .q, .q, .q, .q, .q, .q, .q] (by kernel_rfl) ?_
    simp -implicitDefEqProofs only [go_sem, reduceEqDiff, reduceLT, reduceLeDiff, reduceMul, reduceAdd, reduceIte, reduceCtorEq, Nat.reduceBEq, reduceSub, Int.reduceToNat, encSorts, encGraph, encInts, getD_map encI hx1, hx1, encI, hq, getD_map encI hqs, hqs]
    refine condC_split (fun h1 => ?_) (fun h1 => ?_) <;> simp -implicitDefEqProofs only [go_sem, reduceEqDiff, reduceLT, reduceLeDiff, reduceMul, reduceAdd, reduceIte, reduceCtorEq, Nat.reduceBEq, reduceSub, Int.reduceToNat, encSorts, encGraph, encInts, getD_map encI hx1, hx1, encI, hq, getD_map encI hqs, hqs]
    · rw [if_pos h1] at hP
      refine ⟨by omega, loopN_mk (x + 1, v + 1) hx1 (by dsimp only; omega) ?_⟩
      rw [wrap_succ hx1 (by omega), hP, List.map_append]
      exact (weak_mk (by repeat (first | exact sub_env0 _ | refine sub_upd ?_ (by first | rfl | simp [upd]))) (by repeat (first | exact hsub0 _ | refine hsub_hset ?_ (by first | rfl | simp [hset]))) (by repeat (first | exact ids_env0 _ | refine ids_upd ?_ (by simp [idsOk, idsOkL, hset]))) (by repeat (first | exact boxIds0 _ | refine boxIds_row ?_ | refine boxIds_shut ?_ | refine boxIds_box ?_ (by simp [idsOk, idsOkL, hset]))) (by repeat (first | exact keep0 _ | refine keep_low (by decide) ?_ | refine keep_high (by simp [hset]) ?_)))
    · rw [if_neg (by rw [h1]; decide)] at hP
      refine loopN_mk (x + 1, v) hx1 (by dsimp only; omega) ?_
      rw [wrap_succ hx1 (by omega), hP]
      exact (weak_mk (by repeat (first | exact sub_env0 _ | refine sub_upd ?_ (by first | rfl | simp [upd]))) (by repeat (first | exact hsub0 _ | refine hsub_hset ?_ (by first | rfl | simp [hset]))) (by repeat (first | exact ids_env0 _ | refine ids_upd ?_ (by simp [idsOk, idsOkL, hset]))) (by repeat (first | exact boxIds0 _ | refine boxIds_row ?_ | refine boxIds_shut ?_ | refine boxIds_box ?_ (by simp [idsOk, idsOkL, hset]))) (by repeat (first | exact keep0 _ | refine keep_low (by decide) ?_ | refine keep_high (by simp [hset]) ?_)))
  · have hge : g.nodes.length ≤ x := by have := of_decide_eq_false hc; omega
    have hxe : x = g.nodes.length := by omega
    subst hxe
    simp -implicitDefEqProofs only [go_sem, reduceEqDiff, reduceLT, reduceLeDiff, reduceMul, reduceAdd, reduceIte, reduceCtorEq, Nat.reduceBEq, reduceSub, Int.reduceToNat, encSorts, encGraph, encInts]
    refine loop_rule (σ := Nat × Nat) (fun x => (upd (upd (upd (upd (upd (upd env0 2 (.p (.val (.int .i64 k)))) 3 (.ptr 3 0)) 4 (.ptr 4 0)) 6 (.ptr 6 0)) 7 (.ptr 7 0)) 9 (.p (.val (.int .i64 x.1)))))
      (fun x => (hset (hset (hset (hset (hset (hset heap0 3 (.box [.p (.lst (s.nodes.map encI)), .p (.lst (s.edges.map encI))])) 4 (.box [.p (.lst (g.nodes.map encI)), .p (.lst (g.edges.map encEdge))])) 6 (.box [.p (.val (.slice none 0 0)), .p (.val (.slice none 0 0))])) 32 (.row v 3 1 ((pick (fun i => decide (nodeS s g i = k)) g.nodes.length).map encI))) 57 (.row x.2 3 1 ((pick (fun i => decide (edgeS s g i = k)) x.1).map encI))) 7 (.box [.row 32 v, .row 57 x.2])))
      (fun x => x.1 ≤ g.edges.length) (fun x => g.edges.length - x.1) (0, 0) (Nat.zero_le _) ((weak_nilbox 7 1 57 3 1 _ rfl rfl rfl (by decide)).trans (by rw [pick_zero]; exact (weak_mk (by repeat (first | exact sub_env0 _ | refine sub_upd ?_ (by first | rfl | simp [upd]))) (by repeat (first | exact hsub0 _ | refine hsub_hset ?_ (by first | rfl | simp [hset]))) (by repeat (first | exact ids_env0 _ | refine ids_upd ?_ (by simp [idsOk, idsOkL, hset]))) (by repeat (first | exact boxIds0 _ | refine boxIds_row ?_ | refine boxIds_shut ?_ | refine boxIds_box ?_ (by simp [idsOk, idsOkL, hset]))) (by repeat (first | exact keep0 _ | refine keep_low (by decide) ?_ | refine keep_high (by simp [hset]) ?_))))) ?_
    rintro ⟨x, u⟩ hx
    simp only at hx
    simp -implicitDefEqProofs only [go_sem, reduceEqDiff, reduceLT, reduceLeDiff, reduceMul, reduceAdd, reduceIte, reduceCtorEq, Nat.reduceBEq, reduceSub, Int.reduceToNat, encSorts, encGraph, encInts]
    refine condC_split (fun hc => ?_) (fun hc => ?_)
    · have hx1 : x < g.edges.length := by have := of_decide_eq_true hc; omega
      obtain ⟨q, hq⟩ : ∃ q : Nat, (g.edges.getD x default).type = q := ⟨_, (Int.toNat_of_nonneg (h.type x hx1).1).symm⟩
      have hqs : q < s.edges.length := by have := (h.type x hx1).2; rw [hq] at this; omega
      have hS : edgeS s g x = s.edges.getD q default := by unfold edgeS; rw [hq, Int.toNat_natCast]
      have hP := pick_succ (fun i => decide (edgeS s g i = k)) x
      have hL := pick_len (fun i => decide (edgeS s g i = k)) x
      rw [hS] at hP
      
      simp -implicitDefEqProofs only [go_sem, reduceEqDiff, reduceLT, reduceLeDiff, reduceMul, reduceAdd, reduceIte, reduceCtorEq, Nat.reduceBEq, reduceSub, Int.reduceToNat, encSorts, encGraph, encInts, getD_map encEdge hx1, hx1, encEdge, hq, getD_map encI hqs, hqs, encI]
      refine draw_txt [.q, .q, .q, .q, .q, .q, .q, .q, .q, .q, .q, .q] (by kernel_rfl) ?_
      simp -implicitDefEqProofs only [go_sem, reduceEqDiff, reduceLT, reduceLeDiff, reduceMul, reduceAdd, reduceIte, reduceCtorEq, Nat.reduceBEq, reduceSub, Int.reduceToNat, encSorts, encGraph, encInts, getD_map encEdge hx1, hx1, encEdge, hq, getD_map encI hqs, hqs, encI]
      refine condC_split (fun h1 => ?_) (fun h1 => ?_) <;> simp -implicitDefEqProofs only [go_sem, reduceEqDiff, reduceLT, reduceLeDiff, reduceMul, reduceAdd, reduceIte, reduceCtorEq, Nat.reduceBEq, reduceSub, Int.reduceToNat, encSorts, encGraph, encInts, getD_map encEdge hx1, hx1, encEdge, hq, getD_map encI hqs, hqs, encI]
      · rw [if_pos h1] at hP
        refine ⟨by omega, loopN_mk (x + 1, u + 1) hx1 (by dsimp only; omega) ?_⟩
        rw [wrap_succ hx1 (by omega), hP, List.map_append]
        exact (weak_mk (by repeat (first | exact sub_env0 _ | refine sub_upd ?_ (by first | rfl | simp [upd]))) (by repeat (first | exact hsub0 _ | refine hsub_hset ?_ (by first | rfl | simp [hset]))) (by repeat (first | exact ids_env0 _ | refine ids_upd ?_ (by simp [idsOk, idsOkL, hset]))) (by repeat (first | exact boxIds0 _ | refine boxIds_row ?_ | refine boxIds_shut ?_ | refine boxIds_box ?_ (by simp [idsOk, idsOkL, hset]))) (by repeat (first | exact keep0 _ | refine keep_low (by decide) ?_ | refine keep_high (by simp [hset]) ?_)))
      · rw [if_neg (by rw [h1]; decide)] at hP
        refine loopN_mk (x + 1, u) hx1 (by dsimp only; omega) ?_
        rw [wrap_succ hx1 (by omega), hP]
        exact (weak_mk (by repeat (first | exact sub_env0 _ | refine sub_upd ?_ (by first | rfl | simp [upd]))) (by repeat (first | exact hsub0 _ | refine hsub_hset ?_ (by first | rfl | simp [hset]))) (by repeat (first | exact ids_env0 _ | refine ids_upd ?_ (by simp [idsOk, idsOkL, hset]))) (by repeat (first | exact boxIds0 _ | refine boxIds_row ?_ | refine boxIds_shut ?_ | refine boxIds_box ?_ (by simp [idsOk, idsOkL, hset]))) (by repeat (first | exact keep0 _ | refine keep_low (by decide) ?_ | refine keep_high (by simp [hset]) ?_)))
    · have hge : g.edges.length ≤ x := by have := of_decide_eq_false hc; omega
      have hxe : x = g.edges.length := by omega
      subst hxe
      simp -implicitDefEqProofs only [go_sem, reduceEqDiff, reduceLT, reduceLeDiff, reduceMul, reduceAdd, reduceIte, reduceCtorEq, Nat.reduceBEq, reduceSub, Int.reduceToNat, encSorts, encGraph, encInts]
      rfl
end Go.Proofs.YtdlohnchnneaeaaGreat
/- Layer 52: the links, as the reference lists them. -/
namespace Go.Proofs.YtdlohnchnneaeaaGreat
open Go.Abs

def leadsB (g : Graph) (a b : Int) : Bool := g.edges.any fun e => decide (e.src = a) && decide (e.dst = b)
def midB (g : Graph) (a b m : Int) : Bool := leadsB g m a && leadsB g m b
def linkB (g : Graph) (M : List Int) (a b : Int) : Bool := M.any (midB g a b)
def linkR (g : Graph) (M T : List Int) (a : Int) : List GPair := (T.filter (linkB g M a)).map (GPair.mk a)
def linksL (g : Graph) (S M T : List Int) : List GPair := S.flatMap (linkR g M T)
def linksR (s : Sorts) (g : Graph) : List GPair := linksL g (partX s g 1).nodes (partX s g 2).nodes (partX s g 3).nodes
def linksE (t : Types) (s : Sorts) (h : Host) : List GPair × Int := if validTr t s h ≠ 0 then ([], validTr t s h) else (linksR s h.graph, 0)

theorem linkR_len (g : Graph) (M T : List Int) (a : Int) : (linkR g M T a).length ≤ T.length := by
  unfold linkR
  rw [List.length_map]
  exact List.length_filter_le _ _
theorem linksL_len (g : Graph) (S M T : List Int) : (linksL g S M T).length ≤ S.length * T.length := by
  unfold linksL
  induction S with
  | nil => simp
  | cons a r ih =>
    rw [List.flatMap_cons, List.length_append, List.length_cons, Nat.succ_mul]
    have := linkR_len g M T a
    omega
end Go.Proofs.YtdlohnchnneaeaaGreat
/- The plain law of Links: the sorted list of the pairs that the edges give is the reference's list. -/
namespace Go.Proofs.YtdlohnchnneaeaaGreat
open Go.Abs

def nodeI (s : Sorts) (g : Graph) (n : Int) : Int := nodeS s g n.toNat
def condB (s : Sorts) (g : Graph) (x y : Edge) : Bool := ((decide (x.src = y.src) && decide (nodeI s g x.src = 2)) && decide (nodeI s g x.dst = 1)) && decide (nodeI s g y.dst = 3)
def ltP (p q : GPair) : Prop := p.a < q.a ∨ (p.a = q.a ∧ p.b < q.b)

theorem mem_pick {p : Nat → Bool} {n : Nat} {x : Int} : x ∈ pick p n ↔ ∃ i, i < n ∧ p i = true ∧ x = i := by
  unfold pick
  simp only [List.mem_map, List.mem_filter, List.mem_range]
  constructor
  · rintro ⟨i, ⟨h1, h2⟩, rfl⟩; exact ⟨i, h1, h2, rfl⟩
  · rintro ⟨i, h1, h2, rfl⟩; exact ⟨i, ⟨h1, h2⟩, rfl⟩
theorem pick_sorted (p : Nat → Bool) (n : Nat) : (pick p n).Pairwise (· < ·) := by
  unfold pick
  rw [List.pairwise_map]
  refine (List.pairwise_lt_range.filter p).imp ?_
  intro a b h
  exact Int.ofNat_lt.2 h
theorem linksL_sorted (g : Graph) (S M T : List Int) (hS : S.Pairwise (· < ·)) (hT : T.Pairwise (· < ·)) : (linksL g S M T).Pairwise ltP := by
  unfold linksL
  rw [List.pairwise_flatMap]
  refine ⟨fun a _ => ?_, hS.imp fun {a b} h x hx y hy => ?_⟩
  · unfold linkR
    rw [List.pairwise_map]
    exact (hT.filter _).imp fun h => .inr ⟨rfl, h⟩
  · unfold linkR at hx hy
    obtain ⟨_, _, rfl⟩ := List.mem_map.1 hx
    obtain ⟨_, _, rfl⟩ := List.mem_map.1 hy
    exact .inl h

theorem leadsB_iff {g : Graph} {a b : Int} : leadsB g a b = true ↔ ∃ e ∈ g.edges, e.src = a ∧ e.dst = b := by
  simp [leadsB]
theorem ends_of {s : Sorts} {g : Graph} (ho : OkTr s g) {e : Edge} (he : e ∈ g.edges) : inR e.src g.nodes.length ∧ inR e.dst g.nodes.length := by
  obtain ⟨i, hi, rfl⟩ := mem_getD he
  exact ⟨ho.src i hi, ho.dst i hi⟩
theorem mem_part {s : Sorts} {g : Graph} {k x : Int} : x ∈ (partX s g k).nodes ↔ inR x g.nodes.length ∧ nodeI s g x = k := by
  show x ∈ pick _ _ ↔ _
  rw [mem_pick]
  constructor
  · rintro ⟨i, h1, h2, rfl⟩
    exact ⟨⟨by omega, by omega⟩, by unfold nodeI; rw [Int.toNat_natCast]; exact of_decide_eq_true h2⟩
  · rintro ⟨⟨h1, h2⟩, h3⟩
    exact ⟨x.toNat, by omega, decide_eq_true h3, by omega⟩
theorem mem_linksR {s : Sorts} {g : Graph} (ho : OkTr s g) {p : GPair} : p ∈ linksR s g ↔ ∃ x ∈ g.edges, ∃ y ∈ g.edges, condB s g x y = true ∧ p = ⟨x.dst, y.dst⟩ := by
  unfold linksR linksL linkR
  simp only [List.mem_flatMap, List.mem_map, List.mem_filter, linkB, List.any_eq_true, midB, Bool.and_eq_true, leadsB_iff, mem_part, condB, decide_eq_true_eq]
  constructor
  · rintro ⟨a, ⟨_, ha⟩, b, ⟨⟨_, hb⟩, m, ⟨_, hm⟩, ⟨x, hx, hx1, hx2⟩, y, hy, hy1, hy2⟩, rfl⟩
    exact ⟨x, hx, y, hy, ⟨⟨⟨by rw [hx1, hy1], by rw [hx1]; exact hm⟩, by rw [hx2]; exact ha⟩, by rw [hy2]; exact hb⟩, by rw [hx2, hy2]⟩
  · rintro ⟨x, hx, y, hy, ⟨⟨⟨h1, h2⟩, h3⟩, h4⟩, rfl⟩
    exact ⟨x.dst, ⟨(ends_of ho hx).2, h3⟩, y.dst, ⟨⟨(ends_of ho hy).2, h4⟩, x.src, ⟨(ends_of ho hx).1, h2⟩, ⟨x, hx, rfl, rfl⟩, y, hy, h1.symm, rfl⟩, rfl⟩

def okP (p : GPair) : Prop := (0 ≤ p.a ∧ p.a < 1000000) ∧ (0 ≤ p.b ∧ p.b < 1000000)
abbrev SP := { p : GPair // okP p }
instance : Inhabited SP := ⟨⟨⟨0, 0⟩, by unfold okP; simp⟩⟩
def cmpS (x y : SP) : Int := cmpP x.1 y.1
theorem cmpS_lt (x y : SP) : cmpS x y < 0 ↔ ltP x.1 y.1 := by
  obtain ⟨⟨a, b⟩, h⟩ := x
  obtain ⟨⟨c, d⟩, h'⟩ := y
  unfold okP at h h'
  simp only at h h'
  unfold cmpS cmpP ltP
  simp only
  split
  · rw [IntWalk.i64_in _ (by omega)]; omega
  · rw [IntWalk.i64_in _ (by omega)]; omega
theorem ltP_total {p q : GPair} (h1 : ¬ ltP p q) (h2 : ¬ ltP q p) : p = q := by
  obtain ⟨a, b⟩ := p
  obtain ⟨c, d⟩ := q
  unfold ltP at h1 h2
  simp only at h1 h2
  have e1 : a = c := by omega
  have e2 : b = d := by omega
  rw [e1, e2]

theorem sort_links {s : Sorts} {g : Graph} (ho : OkTr s g) (d : List SP) (hn : (d.map (·.1)).Nodup) (hm : ∀ p, p ∈ d.map (·.1) ↔ ∃ x ∈ g.edges, ∃ y ∈ g.edges, condB s g x y = true ∧ p = ⟨x.dst, y.dst⟩)
    (r : SP → SP → Bool) (hr : ∀ x y, r x y = true ↔ ¬ ltP y.1 x.1) : (d.mergeSort r).map (·.1) = linksR s g := by
  have hsort : (linksR s g).Pairwise ltP := linksL_sorted g _ _ _ (pick_sorted _ _) (pick_sorted _ _)
  have hnodup : (linksR s g).Nodup := by
    rw [List.nodup_iff_pairwise_ne]
    refine hsort.imp fun {p q} h e => ?_
    subst e
    unfold ltP at h
    omega
  refine List.Perm.eq_of_pairwise (le := fun p q => ¬ ltP q p) (fun p q _ _ h1 h2 => ltP_total h2 h1) ?_ ?_ ?_
  · rw [List.pairwise_map]
    refine (List.pairwise_mergeSort (fun x y z h1 h2 => ?_) (fun x y => ?_) d).imp fun h => (hr _ _).1 h
    · rw [hr] at *
      unfold ltP at *
      omega
    · rw [Bool.or_eq_true, hr, hr]
      unfold ltP
      omega
  · refine hsort.imp fun {p q} h h' => ?_
    unfold ltP at h h'
    omega
  · have h1 : ((d.mergeSort r).map (·.1)).Perm (d.map (·.1)) := (List.mergeSort_perm d r).map _
    refine h1.trans ((List.perm_ext_iff_of_nodup hn hnodup).2 fun p => ?_)
    rw [hm, mem_linksR ho]
end Go.Proofs.YtdlohnchnneaeaaGreat
/- slices.SortFunc at pairs. -/
namespace Go.Proofs
open Go.Shelf Go.RowKit Go.Lib Go.Sort
theorem YtdlohnchnneaeaaGreat.cmp_raw (x y : YtdlohnchnneaeaaGreat.GPair) (W : World) : Calls Go.Proofs.Tryz.prog 34 #[.agg #[.int .i64 x.a, .int .i64 x.b], .agg #[.int .i64 y.a, .int .i64 y.b]] W fun e w' => e = .returned (.int .i64 (YtdlohnchnneaeaaGreat.cmpP x y)) ∧ ∃ q os', w' = grow (W.drewN q) os' := by
  have hw : ∀ n, IntKind.i64.wrap n = wrap64 n := fun n => by unfold wrap64; rw [IntKind.wrap_i64]
  by_cases h : x.a = y.a
  all_goals
    have hd : (x.a != y.a) = !decide (x.a = y.a) := rfl
    simp only [h, decide_true, decide_false, Bool.not_true, Bool.not_false] at hd
  · have e0 : YtdlohnchnneaeaaGreat.cmpP x y = IntKind.i64.wrap (x.b - y.b) := by unfold YtdlohnchnneaeaaGreat.cmpP; rw [if_pos h]
    rw [e0, hw]
    go_enter Go.Proofs.Tryz.func34, Go.Proofs.Tryz.ntmps34
    go_wp2
    go_ret
    exact ⟨rfl, 0, _, by rw [alloc_eq_grow, alloc_eq_grow, grow_grow]; rfl⟩
  · have e0 : YtdlohnchnneaeaaGreat.cmpP x y = IntKind.i64.wrap (x.a - y.a) := by unfold YtdlohnchnneaeaaGreat.cmpP; rw [if_neg h]
    rw [e0, hw]
    go_enter Go.Proofs.Tryz.func34, Go.Proofs.Tryz.ntmps34
    go_wp2
    go_ret
    exact ⟨rfl, 0, _, by rw [alloc_eq_grow, alloc_eq_grow, grow_grow]; rfl⟩

theorem YtdlohnchnneaeaaGreat.sortPair_ok (d : List YtdlohnchnneaeaaGreat.SP) (hd : d.length ≤ 1000000) (v : Nat) : Go.Abs.CallM Go.Proofs.Tryz.prog 33 v 45 2 (d.map fun x => YtdlohnchnneaeaaGreat.encPair x.1) [.clo (.func 34) [] []]
    (fun a c => a = .tup [] ∧ c = some (.row v 45 2 ((d.mergeSort fun x y => !(ltOf YtdlohnchnneaeaaGreat.cmpS) y x).map fun x => YtdlohnchnneaeaaGreat.encPair x.1))) := by
  have eg : ∀ args w, (callFunc 34 args).run Go.Proofs.Tryz.prog w = .ok (.enter 34 args) w := enters_of Go.Proofs.Tryz.func34 (by kernel_rfl) rfl
  have hlt : ∀ x y : YtdlohnchnneaeaaGreat.SP, ltOf YtdlohnchnneaeaaGreat.cmpS x y = true ↔ YtdlohnchnneaeaaGreat.ltP x.1 y.1 := fun x y => by unfold ltOf; rw [decide_eq_true_iff, YtdlohnchnneaeaaGreat.cmpS_lt]
  have hlf : ∀ x y : YtdlohnchnneaeaaGreat.SP, ltOf YtdlohnchnneaeaaGreat.cmpS x y = false ↔ ¬ YtdlohnchnneaeaaGreat.ltP x.1 y.1 := fun x y => by rw [← hlt]; simp
  have h := Go.SortM.callM_sortFunc YtdlohnchnneaeaaGreat.sortPair 2 (by decide) Go.Proofs.Tryz.isAgg45 Go.Proofs.Tryz.sizeOf45 (fun x : YtdlohnchnneaeaaGreat.SP => [Value.int .i64 x.1.a, Value.int .i64 x.1.b]) (fun _ => rfl) (fun x v hv => by simp at hv; rcases hv with rfl | rfl <;> rfl) YtdlohnchnneaeaaGreat.cmpS
    { irrefl := fun x => by rw [hlf]; unfold YtdlohnchnneaeaaGreat.ltP; omega
      trans := fun x y z h1 h2 => by rw [hlt] at *; unfold YtdlohnchnneaeaaGreat.ltP at *; omega
      ntrans := fun x y z h1 h2 => by rw [hlf] at *; unfold YtdlohnchnneaeaaGreat.ltP at *; omega }
    (fun x y h1 h2 => by rw [hlf] at *; exact Subtype.ext (YtdlohnchnneaeaaGreat.ltP_total h1 h2)) 34 eg (fun x y W => YtdlohnchnneaeaaGreat.cmp_raw x.1 y.1 W) (by kernel_rfl) d (by omega) v 45
  exact h
end Go.Proofs
/- Layer 52: what Links' loops keep. -/
namespace Go.Proofs.YtdlohnchnneaeaaGreat
open Go.Abs

theorem okTr {t : Types} {s : Sorts} {h : Host} (hv : validTr t s h = 0) : OkTr s h.graph := by
  unfold validTr at hv
  split at hv
  · rename_i h1; exact absurd hv h1
  rename_i h1
  have h1 : sortsE t s = 0 := by simpa using h1
  unfold sortsE at h1
  split at h1
  · rename_i h2; exact absurd h1 h2
  split at h1
  · cases h1
  rename_i hl
  have hn : s.nodes.length = t.nodes.length := by omega
  have hm : s.edges.length = t.edges.length := by omega
  unfold validH at hv
  split at hv
  · rename_i h2; exact absurd hv h2
  split at hv
  · rename_i h2; exact absurd hv h2
  rename_i hg
  have hG := okG (by simpa using hg : validG h.graph = 0)
  split at hv
  · cases hv
  split at hv
  · rename_i k hk
    exact absurd hv (firstI_some hk)
  rename_i hk
  split at hv
  · rename_i k hk
    exact absurd hv (firstI_some hk)
  rename_i he
  refine ⟨hG.nodes, hG.edges, fun i hi => ⟨(hG.kind i hi).1, ?_⟩, fun i hi => ⟨(hG.edge i hi).1.1, ?_⟩, fun i hi => (hG.edge i hi).2.1, fun i hi => (hG.edge i hi).2.2⟩
  · have := firstI_all hk i hi
    unfold nodeH at this
    split at this
    · cases this
    · omega
  · have := firstI_all he i hi
    unfold edgeH at this
    split at this
    · cases this
    · omega

def pairOf (x y : Edge) : GPair := ⟨x.dst, y.dst⟩
structure Inv (s : Sorts) (g : Graph) (out : List GPair) (i k : Nat) : Prop where
  nodup : out.Nodup
  mem : ∀ p, p ∈ out ↔ ∃ a b, (a < i ∧ b < g.edges.length ∨ a = i ∧ b < k) ∧ condB s g (g.edges.getD a default) (g.edges.getD b default) = true ∧ p = pairOf (g.edges.getD a default) (g.edges.getD b default)
  len : out.length ≤ i * 80 + k

theorem Inv.zero (s : Sorts) (g : Graph) : Inv s g [] 0 0 := ⟨List.nodup_nil, fun p => by simp, by simp⟩
theorem Inv.skip {s : Sorts} {g : Graph} {out : List GPair} {i k : Nat} (h : Inv s g out i k) (hc : condB s g (g.edges.getD i default) (g.edges.getD k default) = false ∨ pairOf (g.edges.getD i default) (g.edges.getD k default) ∈ out) : Inv s g out i (k + 1) := by
  refine ⟨h.nodup, fun p => ?_, by have := h.len; omega⟩
  rw [h.mem]
  constructor
  · rintro ⟨a, b, h1, h2⟩
    exact ⟨a, b, by omega, h2⟩
  · rintro ⟨a, b, h1, h2, rfl⟩
    by_cases hab : a = i ∧ b = k
    · obtain ⟨rfl, rfl⟩ := hab
      rcases hc with hc | hc
      · rw [hc] at h2; cases h2
      · exact (h.mem _).1 hc
    · exact ⟨a, b, by omega, h2, rfl⟩
theorem Inv.add {s : Sorts} {g : Graph} {out : List GPair} {i k : Nat} (h : Inv s g out i k) (hc : condB s g (g.edges.getD i default) (g.edges.getD k default) = true) (hn : pairOf (g.edges.getD i default) (g.edges.getD k default) ∉ out) :
    Inv s g (out ++ [pairOf (g.edges.getD i default) (g.edges.getD k default)]) i (k + 1) := by
  refine ⟨?_, fun p => ?_, by have := h.len; simp; omega⟩
  · rw [List.nodup_append]
    refine ⟨h.nodup, by simp, fun a ha b hb => ?_⟩
    have : b = pairOf (g.edges.getD i default) (g.edges.getD k default) := by simpa using hb
    subst this
    intro e
    subst e
    exact hn ha
  · rw [List.mem_append, h.mem, List.mem_singleton]
    constructor
    · rintro (⟨a, b, h1, h2⟩ | rfl)
      · exact ⟨a, b, by omega, h2⟩
      · exact ⟨i, k, by omega, hc, rfl⟩
    · rintro ⟨a, b, h1, h2, rfl⟩
      by_cases hab : a = i ∧ b = k
      · obtain ⟨rfl, rfl⟩ := hab
        exact .inr rfl
      · exact .inl ⟨a, b, by omega, h2, rfl⟩
theorem Inv.next {s : Sorts} {g : Graph} {out : List GPair} {i : Nat} (hl : g.edges.length ≤ 80) (h : Inv s g out i g.edges.length) : Inv s g out (i + 1) 0 := by
  refine ⟨h.nodup, fun p => ?_, by have := h.len; rw [Nat.succ_mul]; omega⟩
  rw [h.mem]
  constructor
  · rintro ⟨a, b, h1, h2⟩
    exact ⟨a, b, by omega, h2⟩
  · rintro ⟨a, b, h1, h2⟩
    exact ⟨a, b, by omega, h2⟩
theorem Inv.done {s : Sorts} {g : Graph} {out : List GPair} (h : Inv s g out g.edges.length 0) (p : GPair) : p ∈ out ↔ ∃ x ∈ g.edges, ∃ y ∈ g.edges, condB s g x y = true ∧ p = ⟨x.dst, y.dst⟩ := by
  rw [h.mem]
  constructor
  · rintro ⟨a, b, h1, h2, rfl⟩
    exact ⟨_, getD_mem (by omega), _, getD_mem (by omega), h2, rfl⟩
  · rintro ⟨x, hx, y, hy, h2, rfl⟩
    obtain ⟨a, ha, rfl⟩ := mem_getD hx
    obtain ⟨b, hb, rfl⟩ := mem_getD hy
    exact ⟨a, b, by omega, h2, rfl⟩
end Go.Proofs.YtdlohnchnneaeaaGreat
/- Layer 52's reference: Links. -/
namespace Go.Proofs.YtdlohnchnneaeaaGreat
open Go.Abs

end Go.Proofs.YtdlohnchnneaeaaGreat
/- Layer 52: Links. -/
namespace Go.Proofs.YtdlohnchnneaeaaGreat
open Go.Abs

theorem link1' {s : Sorts} {g : Graph} (ho : OkTr s g) (n : Int) (hn : inR n g.nodes.length) :
    CallV Go.Proofs.Tryz.prog 32 [.val (.int .i64 n), .eptr [.lst (s.nodes.map encI), .lst (s.edges.map encI)] 0, .eptr [.lst (g.nodes.map encI), .lst (g.edges.map encEdge)] 0] (fun r => r = .val (.int .i64 (nodeI s g n))) := by
  obtain ⟨i, rfl⟩ : ∃ i : Nat, n = i := ⟨_, (Int.toNat_of_nonneg hn.1).symm⟩
  have hi : i < g.nodes.length := by have := hn.2; omega
  obtain ⟨k, hk⟩ : ∃ k : Nat, g.nodes.getD i default = k := ⟨_, (Int.toNat_of_nonneg (ho.kind i hi).1).symm⟩
  have hks : k < s.nodes.length := by have := (ho.kind i hi).2; rw [hk] at this; omega
  have h := link1_ok s g.nodes g.edges i k hi hk hks
  have e : nodeI s g i = s.nodes.getD k default := by unfold nodeI nodeS; rw [Int.toNat_natCast, hk, Int.toNat_natCast]
  rw [e]
  exact h

theorem sort_out {s : Sorts} {g : Graph} (ho : OkTr s g) {out : List GPair} (h : Inv s g out g.edges.length 0) (v : Nat) : CallM Go.Proofs.Tryz.prog 33 v 45 2 (out.map encPair) [.clo (.func 34) [] []]
    (fun a c => a = .tup [] ∧ c = some (.row v 45 2 ((linksR s g).map encPair))) := by
  have hn := ho.nodes
  have hok : ∀ p, p ∈ out → okP p := fun p hp => by
    obtain ⟨x, hx, y, hy, _, rfl⟩ := (h.done p).1 hp
    have h1 := (ends_of ho hx).2
    have h2 := (ends_of ho hy).2
    unfold inR at h1 h2
    unfold okP
    simp only
    omega
  have e1 : (out.pmap (fun p hp => (⟨p, hp⟩ : SP)) hok).map (·.1) = out := by
    rw [List.map_pmap]
    simp
  have e2 : ∀ l : List SP, l.map (fun x => encPair x.1) = (l.map (·.1)).map encPair := fun l => by rw [List.map_map]; try rfl
  have hl : (out.pmap (fun p hp => (⟨p, hp⟩ : SP)) hok).length ≤ 1000000 := by
    rw [List.length_pmap]
    have := h.len
    have := ho.edges
    omega
  have hs := sortPair_ok (out.pmap (fun p hp => (⟨p, hp⟩ : SP)) hok) hl v
  rw [e2, e2, e1, sort_links ho _ (by rw [e1]; exact h.nodup) (by rw [e1]; exact h.done) _ (fun x y => by
    rw [Bool.not_eq_true', Go.Proofs.ltOf, decide_eq_false_iff_not, cmpS_lt])] at hs
  exact hs

set_option maxHeartbeats 4000000 in
theorem Links_ok (t : Types) (hf : FewT t) (s : Sorts) (hs : FewS s) (h : Host) (hh : FewH h) :
    CallV Go.Proofs.Tryz.prog 11 [encTypes t, encSorts s, encHost h] (fun r => r = .tup [.lst ((linksE t s h).1.map encPair), .val (.int .i64 (linksE t s h).2)]) := by
  refine CallV.le (Q := fun r => (validTr t s h = 0 ∧ r = .tup [.lst ((linksR s h.graph).map encPair), .val (.int .i64 0)]) ∨ (validTr t s h ≠ 0 ∧ r = .tup [.val (.slice none 0 0), .val (.int .i64 (validTr t s h))])) ?_ ?_
  case refine_2 =>
    rintro r (⟨h1, rfl⟩ | ⟨h1, rfl⟩)
    · unfold linksE; rw [if_neg (by rw [h1]; decide)]
      exact ⟨_, PLe.refl _, rfl⟩
    · unfold linksE; rw [if_pos h1]
      exact ⟨.tup [.lst [], .val (.int .i64 (validTr t s h))], .tup ⟨.nil, .refl _, trivial⟩, rfl⟩
  refine callV_of_cw [81] Ty.mixed Go.Proofs.Tryz.func11 rfl (by kernel_rfl) (by simp [Go.Proofs.Tryz.ntmps11]) ?_; rw [Go.Proofs.Tryz.ntmps11, Go.Proofs.Tryz.results11]
  
  simp -implicitDefEqProofs only [go_sem, reduceEqDiff, reduceLT, reduceLeDiff, reduceMul, reduceAdd, reduceIte, reduceCtorEq, Nat.reduceBEq, reduceSub, Int.reduceToNat, encTypes, encSorts, encHost, encInts]
  refine call_go (trvalid_ok t hf s hs h hh) (by simp -implicitDefEqProofs only [go_sem, reduceEqDiff, reduceLT, reduceLeDiff, reduceMul, reduceAdd, reduceIte, reduceCtorEq, Nat.reduceBEq, reduceSub, Int.reduceToNat, encTypes, encSorts, encHost, encInts] <;> rfl) (scal rfl) ?_
  simp -implicitDefEqProofs only [go_sem, reduceEqDiff, reduceLT, reduceLeDiff, reduceMul, reduceAdd, reduceIte, reduceCtorEq, Nat.reduceBEq, reduceSub, Int.reduceToNat, encTypes, encSorts, encHost, encInts]
  refine condC_splitN (fun h1 => ?_) (fun h1 => ?_) <;> simp -implicitDefEqProofs only [go_sem, reduceEqDiff, reduceLT, reduceLeDiff, reduceMul, reduceAdd, reduceIte, reduceCtorEq, Nat.reduceBEq, reduceSub, Int.reduceToNat, encTypes, encSorts, encHost, encInts]
  case refine_2 =>
    have h1' := of_decide_eq_false h1
    simp [h1']
  have h1' := of_decide_eq_true h1
  have ho := okTr h1'
  have hgn := ho.nodes
  have hge := ho.edges
  refine loop_rule (σ := Nat × Nat × List GPair) (fun x => (upd (upd (upd (upd (upd (upd (upd env0 4 (.ptr 4 0)) 9 (.ptr 9 0)) 10 (.clo (.func 32) [] [.ptr 4 0, .ptr 9 0])) 11 (.row 11 x.2.1)) 28 (.p (.lst (h.graph.edges.map encEdge)))) 29 (.p (.val (.int .i64 h.graph.edges.length)))) 30 (.p (.val (.int .i64 x.1)))))
    (fun x => (hset (hset (hset heap0 4 (.box [.p (.lst (s.nodes.map encI)), .p (.lst (s.edges.map encI))])) 9 (.box [.p (.lst (h.graph.nodes.map encI)), .p (.lst (h.graph.edges.map encEdge))])) 11 (.row x.2.1 45 2 (x.2.2.map encPair))))
    (fun x => x.1 ≤ h.graph.edges.length ∧ Inv s h.graph x.2.2 x.1 0) (fun x => h.graph.edges.length - x.1) (0, 0, []) ⟨Nat.zero_le _, Inv.zero _ _⟩ ((weak_nil 11 11 45 2 rfl rfl (by decide)).trans (weak_mk (by repeat (first | exact sub_env0 _ | refine sub_upd ?_ (by first | rfl | simp [upd]))) (by repeat (first | exact hsub0 _ | refine hsub_hset ?_ (by first | rfl | simp [hset]))) (by repeat (first | exact ids_env0 _ | refine ids_upd ?_ (by simp [idsOk, idsOkL, hset]))) (by repeat (first | exact boxIds0 _ | refine boxIds_row ?_ | refine boxIds_shut ?_ | refine boxIds_box ?_ (by simp [idsOk, idsOkL, hset]))) (by repeat (first | exact keep0 _ | refine keep_low (by decide) ?_ | refine keep_high (by simp [hset]) ?_)))) ?_
  rintro ⟨x, v, out⟩ ⟨hx, hI⟩
  simp only at hx hI
  simp -implicitDefEqProofs only [go_sem, reduceEqDiff, reduceLT, reduceLeDiff, reduceMul, reduceAdd, reduceIte, reduceCtorEq, Nat.reduceBEq, reduceSub, Int.reduceToNat, encTypes, encSorts, encHost, encInts]
  refine condC_split (fun hc => ?_) (fun hc => ?_)
  · have hx1 : x < h.graph.edges.length := by have := of_decide_eq_true hc; omega
    
    simp -implicitDefEqProofs only [go_sem, reduceEqDiff, reduceLT, reduceLeDiff, reduceMul, reduceAdd, reduceIte, reduceCtorEq, Nat.reduceBEq, reduceSub, Int.reduceToNat, encTypes, encSorts, encHost, encInts, getD_map encEdge hx1, hx1, encEdge]
    refine loop_rule (σ := Nat × Nat × List GPair) (fun y => (upd (upd (upd (upd (upd (upd (upd (upd (upd (upd (upd env0 4 (.ptr 4 0)) 9 (.ptr 9 0)) 10 (.clo (.func 32) [] [.ptr 4 0, .ptr 9 0])) 11 (.row 11 y.2.1)) 28 (.p (.lst (h.graph.edges.map encEdge)))) 29 (.p (.val (.int .i64 h.graph.edges.length)))) 30 (.p (.val (.int .i64 x)))) 13 (.ptr 13 0)) 35 (.p (.lst (h.graph.edges.map encEdge)))) 36 (.p (.val (.int .i64 h.graph.edges.length)))) 37 (.p (.val (.int .i64 y.1)))))
      (fun y => (hset (hset (hset (hset heap0 4 (.box [.p (.lst (s.nodes.map encI)), .p (.lst (s.edges.map encI))])) 9 (.box [.p (.lst (h.graph.nodes.map encI)), .p (.lst (h.graph.edges.map encEdge))])) 13 (.box [.p (.val (.int .i64 (h.graph.edges.getD x default).type)), .p (.val (.int .i64 (h.graph.edges.getD x default).src)), .p (.val (.int .i64 (h.graph.edges.getD x default).dst))])) 11 (.row y.2.1 45 2 (y.2.2.map encPair))))
      (fun y => y.1 ≤ h.graph.edges.length ∧ Inv s h.graph y.2.2 x y.1) (fun y => h.graph.edges.length - y.1) (0, v, out) ⟨Nat.zero_le _, hI⟩ (weak_mk (by repeat (first | exact sub_env0 _ | refine sub_upd ?_ (by first | rfl | simp [upd]))) (by repeat (first | exact hsub0 _ | refine hsub_hset ?_ (by first | rfl | simp [hset]))) (by repeat (first | exact ids_env0 _ | refine ids_upd ?_ (by simp [idsOk, idsOkL, hset]))) (by repeat (first | exact boxIds0 _ | refine boxIds_row ?_ | refine boxIds_shut ?_ | refine boxIds_box ?_ (by simp [idsOk, idsOkL, hset]))) (by repeat (first | exact keep0 _ | refine keep_low (by decide) ?_ | refine keep_high (by simp [hset]) ?_))) ?_
    clear hI
    rintro ⟨y, v, out⟩ ⟨hy, hI⟩
    simp only at hy hI
    simp -implicitDefEqProofs only [go_sem, reduceEqDiff, reduceLT, reduceLeDiff, reduceMul, reduceAdd, reduceIte, reduceCtorEq, Nat.reduceBEq, reduceSub, Int.reduceToNat, encTypes, encSorts, encHost, encInts, getD_map encEdge hx1, hx1, encEdge]
    refine condC_split (fun hc2 => ?_) (fun hc2 => ?_)
    · have hy1 : y < h.graph.edges.length := by have := of_decide_eq_true hc2; omega
      
      simp -implicitDefEqProofs only [go_sem, reduceEqDiff, reduceLT, reduceLeDiff, reduceMul, reduceAdd, reduceIte, reduceCtorEq, Nat.reduceBEq, reduceSub, Int.reduceToNat, encTypes, encSorts, encHost, encInts, getD_map encEdge hx1, hx1, encEdge, getD_map encEdge hy1, hy1]
      have he1 := ends_of ho (getD_mem hx1)
      have he2 := ends_of ho (getD_mem hy1)
      have hcb : condB s h.graph (h.graph.edges.getD x default) (h.graph.edges.getD y default) = (((decide ((h.graph.edges.getD x default).src = (h.graph.edges.getD y default).src) && decide (nodeI s h.graph (h.graph.edges.getD x default).src = 2)) && decide (nodeI s h.graph (h.graph.edges.getD x default).dst = 1)) && decide (nodeI s h.graph (h.graph.edges.getD y default).dst = 3)) := rfl
      have stay : condB s h.graph (h.graph.edges.getD x default) (h.graph.edges.getD y default) = false → Inv s h.graph out x (y + 1) := fun hb => hI.skip (.inl hb)
      refine walkG_split (fun g1 => ?_) (fun g1 => ?_) <;> simp -implicitDefEqProofs only [go_sem, reduceEqDiff, reduceLT, reduceLeDiff, reduceMul, reduceAdd, reduceIte, reduceCtorEq, Nat.reduceBEq, reduceSub, Int.reduceToNat, g1, encTypes, encSorts, encHost, encInts, getD_map encEdge hx1, hx1, encEdge, getD_map encEdge hy1, hy1]
      case refine_2 =>
        exact loopN_mk (y + 1, v, out) ⟨hy1, stay (by rw [hcb, g1]; rfl)⟩ (by dsimp only; omega) (by rw [wrap_succ hy1 (by omega)]; exact (weak_mk (by repeat (first | exact sub_env0 _ | refine sub_upd ?_ (by first | rfl | simp [upd]))) (by repeat (first | exact hsub0 _ | refine hsub_hset ?_ (by first | rfl | simp [hset]))) (by repeat (first | exact ids_env0 _ | refine ids_upd ?_ (by simp [idsOk, idsOkL, hset]))) (by repeat (first | exact boxIds0 _ | refine boxIds_row ?_ | refine boxIds_shut ?_ | refine boxIds_box ?_ (by simp [idsOk, idsOkL, hset]))) (by repeat (first | exact keep0 _ | refine keep_low (by decide) ?_ | refine keep_high (by simp [hset]) ?_))))
      refine call_go (link1' ho _ he1.1) (by simp -implicitDefEqProofs only [go_sem, reduceEqDiff, reduceLT, reduceLeDiff, reduceMul, reduceAdd, reduceIte, reduceCtorEq, Nat.reduceBEq, reduceSub, Int.reduceToNat, encTypes, encSorts, encHost, encInts, getD_map encEdge hx1, hx1, encEdge, getD_map encEdge hy1, hy1] <;> rfl) (scal rfl) ?_
      simp -implicitDefEqProofs only [go_sem, reduceEqDiff, reduceLT, reduceLeDiff, reduceMul, reduceAdd, reduceIte, reduceCtorEq, Nat.reduceBEq, reduceSub, Int.reduceToNat, g1, encTypes, encSorts, encHost, encInts, getD_map encEdge hx1, hx1, encEdge, getD_map encEdge hy1, hy1]
      refine walkG_split (fun g2 => ?_) (fun g2 => ?_) <;> simp -implicitDefEqProofs only [go_sem, reduceEqDiff, reduceLT, reduceLeDiff, reduceMul, reduceAdd, reduceIte, reduceCtorEq, Nat.reduceBEq, reduceSub, Int.reduceToNat, g1, g2, encTypes, encSorts, encHost, encInts, getD_map encEdge hx1, hx1, encEdge, getD_map encEdge hy1, hy1]
      case refine_2 =>
        exact loopN_mk (y + 1, v, out) ⟨hy1, stay (by rw [hcb, g1, g2]; rfl)⟩ (by dsimp only; omega) (by rw [wrap_succ hy1 (by omega)]; exact (weak_mk (by repeat (first | exact sub_env0 _ | refine sub_upd ?_ (by first | rfl | simp [upd]))) (by repeat (first | exact hsub0 _ | refine hsub_hset ?_ (by first | rfl | simp [hset]))) (by repeat (first | exact ids_env0 _ | refine ids_upd ?_ (by simp [idsOk, idsOkL, hset]))) (by repeat (first | exact boxIds0 _ | refine boxIds_row ?_ | refine boxIds_shut ?_ | refine boxIds_box ?_ (by simp [idsOk, idsOkL, hset]))) (by repeat (first | exact keep0 _ | refine keep_low (by decide) ?_ | refine keep_high (by simp [hset]) ?_))))
      refine call_go (link1' ho _ he1.2) (by simp -implicitDefEqProofs only [go_sem, reduceEqDiff, reduceLT, reduceLeDiff, reduceMul, reduceAdd, reduceIte, reduceCtorEq, Nat.reduceBEq, reduceSub, Int.reduceToNat, encTypes, encSorts, encHost, encInts, getD_map encEdge hx1, hx1, encEdge, getD_map encEdge hy1, hy1] <;> rfl) (scal rfl) ?_
      simp -implicitDefEqProofs only [go_sem, reduceEqDiff, reduceLT, reduceLeDiff, reduceMul, reduceAdd, reduceIte, reduceCtorEq, Nat.reduceBEq, reduceSub, Int.reduceToNat, g1, g2, encTypes, encSorts, encHost, encInts, getD_map encEdge hx1, hx1, encEdge, getD_map encEdge hy1, hy1]
      refine walkG_split (fun g3 => ?_) (fun g3 => ?_) <;> simp -implicitDefEqProofs only [go_sem, reduceEqDiff, reduceLT, reduceLeDiff, reduceMul, reduceAdd, reduceIte, reduceCtorEq, Nat.reduceBEq, reduceSub, Int.reduceToNat, g1, g2, g3, encTypes, encSorts, encHost, encInts, getD_map encEdge hx1, hx1, encEdge, getD_map encEdge hy1, hy1]
      case refine_2 =>
        exact loopN_mk (y + 1, v, out) ⟨hy1, stay (by rw [hcb, g1, g2, g3]; rfl)⟩ (by dsimp only; omega) (by rw [wrap_succ hy1 (by omega)]; exact (weak_mk (by repeat (first | exact sub_env0 _ | refine sub_upd ?_ (by first | rfl | simp [upd]))) (by repeat (first | exact hsub0 _ | refine hsub_hset ?_ (by first | rfl | simp [hset]))) (by repeat (first | exact ids_env0 _ | refine ids_upd ?_ (by simp [idsOk, idsOkL, hset]))) (by repeat (first | exact boxIds0 _ | refine boxIds_row ?_ | refine boxIds_shut ?_ | refine boxIds_box ?_ (by simp [idsOk, idsOkL, hset]))) (by repeat (first | exact keep0 _ | refine keep_low (by decide) ?_ | refine keep_high (by simp [hset]) ?_))))
      refine call_go (link1' ho _ he2.2) (by simp -implicitDefEqProofs only [go_sem, reduceEqDiff, reduceLT, reduceLeDiff, reduceMul, reduceAdd, reduceIte, reduceCtorEq, Nat.reduceBEq, reduceSub, Int.reduceToNat, encTypes, encSorts, encHost, encInts, getD_map encEdge hx1, hx1, encEdge, getD_map encEdge hy1, hy1] <;> rfl) (scal rfl) ?_
      simp -implicitDefEqProofs only [go_sem, reduceEqDiff, reduceLT, reduceLeDiff, reduceMul, reduceAdd, reduceIte, reduceCtorEq, Nat.reduceBEq, reduceSub, Int.reduceToNat, g1, g2, g3, encTypes, encSorts, encHost, encInts, getD_map encEdge hx1, hx1, encEdge, getD_map encEdge hy1, hy1]
      refine walkG_split (fun g4 => ?_) (fun g4 => ?_) <;> simp -implicitDefEqProofs only [go_sem, reduceEqDiff, reduceLT, reduceLeDiff, reduceMul, reduceAdd, reduceIte, reduceCtorEq, Nat.reduceBEq, reduceSub, Int.reduceToNat, g1, g2, g3, g4, encTypes, encSorts, encHost, encInts, getD_map encEdge hx1, hx1, encEdge, getD_map encEdge hy1, hy1]
      case refine_2 =>
        exact loopN_mk (y + 1, v, out) ⟨hy1, stay (by rw [hcb, g1, g2, g3, g4]; rfl)⟩ (by dsimp only; omega) (by rw [wrap_succ hy1 (by omega)]; exact (weak_mk (by repeat (first | exact sub_env0 _ | refine sub_upd ?_ (by first | rfl | simp [upd]))) (by repeat (first | exact hsub0 _ | refine hsub_hset ?_ (by first | rfl | simp [hset]))) (by repeat (first | exact ids_env0 _ | refine ids_upd ?_ (by simp [idsOk, idsOkL, hset]))) (by repeat (first | exact boxIds0 _ | refine boxIds_row ?_ | refine boxIds_shut ?_ | refine boxIds_box ?_ (by simp [idsOk, idsOkL, hset]))) (by repeat (first | exact keep0 _ | refine keep_low (by decide) ?_ | refine keep_high (by simp [hset]) ?_))))
      have hlen := hI.len
      refine call_go (has_pair out (pairOf (h.graph.edges.getD x default) (h.graph.edges.getD y default)) (by omega)) (by simp -implicitDefEqProofs only [go_sem, reduceEqDiff, reduceLT, reduceLeDiff, reduceMul, reduceAdd, reduceIte, reduceCtorEq, Nat.reduceBEq, reduceSub, Int.reduceToNat, encTypes, encSorts, encHost, encInts, getD_map encEdge hx1, hx1, encEdge, getD_map encEdge hy1, hy1] <;> rfl) (scal rfl) ?_
      have hany : out.any (pEq (pairOf (h.graph.edges.getD x default) (h.graph.edges.getD y default))) = true ↔ pairOf (h.graph.edges.getD x default) (h.graph.edges.getD y default) ∈ out := by
        rw [List.any_eq_true]
        constructor
        · rintro ⟨q, hq, e⟩
          rw [pEq_iff] at e
          rw [e]; exact hq
        · intro hq
          exact ⟨_, hq, pEq_iff.2 rfl⟩
      generalize hanyb : out.any (pEq (pairOf (h.graph.edges.getD x default) (h.graph.edges.getD y default))) = hb at hany
      simp -implicitDefEqProofs only [go_sem, reduceEqDiff, reduceLT, reduceLeDiff, reduceMul, reduceAdd, reduceIte, reduceCtorEq, Nat.reduceBEq, reduceSub, Int.reduceToNat, encTypes, encSorts, encHost, encInts, getD_map encEdge hx1, hx1, encEdge, getD_map encEdge hy1, hy1]
      refine condC_splitN (fun g5 => ?_) (fun g5 => ?_) <;> simp -implicitDefEqProofs only [go_sem, reduceEqDiff, reduceLT, reduceLeDiff, reduceMul, reduceAdd, reduceIte, reduceCtorEq, Nat.reduceBEq, reduceSub, Int.reduceToNat, encTypes, encSorts, encHost, encInts, getD_map encEdge hx1, hx1, encEdge, getD_map encEdge hy1, hy1]
      · exact loopN_mk (y + 1, v, out) ⟨hy1, hI.skip (.inr (hany.1 g5))⟩ (by dsimp only; omega) (by rw [wrap_succ hy1 (by omega)]; exact (weak_mk (by repeat (first | exact sub_env0 _ | refine sub_upd ?_ (by first | rfl | simp [upd]))) (by repeat (first | exact hsub0 _ | refine hsub_hset ?_ (by first | rfl | simp [hset]))) (by repeat (first | exact ids_env0 _ | refine ids_upd ?_ (by simp [idsOk, idsOkL, hset]))) (by repeat (first | exact boxIds0 _ | refine boxIds_row ?_ | refine boxIds_shut ?_ | refine boxIds_box ?_ (by simp [idsOk, idsOkL, hset]))) (by repeat (first | exact keep0 _ | refine keep_low (by decide) ?_ | refine keep_high (by simp [hset]) ?_))))
      · have hcat : out.map encPair ++ [[PV.val (.int .i64 (h.graph.edges.getD x default).dst), PV.val (.int .i64 (h.graph.edges.getD y default).dst)]] = (out ++ [pairOf (h.graph.edges.getD x default) (h.graph.edges.getD y default)]).map encPair := by
          rw [List.map_append]
          try rfl
        rw [hcat]
        exact ⟨by omega, loopN_mk (y + 1, v + 1, _) ⟨hy1, hI.add (by rw [hcb, g1, g2, g3, g4]; rfl) (fun hm => by rw [hany.2 hm] at g5; cases g5)⟩ (by dsimp only; omega) (by rw [wrap_succ hy1 (by omega)]; exact (weak_mk (by repeat (first | exact sub_env0 _ | refine sub_upd ?_ (by first | rfl | simp [upd]))) (by repeat (first | exact hsub0 _ | refine hsub_hset ?_ (by first | rfl | simp [hset]))) (by repeat (first | exact ids_env0 _ | refine ids_upd ?_ (by simp [idsOk, idsOkL, hset]))) (by repeat (first | exact boxIds0 _ | refine boxIds_row ?_ | refine boxIds_shut ?_ | refine boxIds_box ?_ (by simp [idsOk, idsOkL, hset]))) (by repeat (first | exact keep0 _ | refine keep_low (by decide) ?_ | refine keep_high (by simp [hset]) ?_))))⟩
    · have hye : y = h.graph.edges.length := by have := of_decide_eq_false hc2; omega
      subst hye
      simp -implicitDefEqProofs only [go_sem, reduceEqDiff, reduceLT, reduceLeDiff, reduceMul, reduceAdd, reduceIte, reduceCtorEq, Nat.reduceBEq, reduceSub, Int.reduceToNat, encTypes, encSorts, encHost, encInts, getD_map encEdge hx1, hx1, encEdge]
      refine loopN_mk (x + 1, v, out) ⟨hx1, hI.next hge⟩ (by dsimp only; omega) ?_
      rw [wrap_succ hx1 (by omega)]
      exact (weak_mk (by repeat (first | exact sub_env0 _ | refine sub_upd ?_ (by first | rfl | simp [upd]))) (by repeat (first | exact hsub0 _ | refine hsub_hset ?_ (by first | rfl | simp [hset]))) (by repeat (first | exact ids_env0 _ | refine ids_upd ?_ (by simp [idsOk, idsOkL, hset]))) (by repeat (first | exact boxIds0 _ | refine boxIds_row ?_ | refine boxIds_shut ?_ | refine boxIds_box ?_ (by simp [idsOk, idsOkL, hset]))) (by repeat (first | exact keep0 _ | refine keep_low (by decide) ?_ | refine keep_high (by simp [hset]) ?_)))
  · have hxe : x = h.graph.edges.length := by have := of_decide_eq_false hc; omega
    subst hxe
    simp -implicitDefEqProofs only [go_sem, reduceEqDiff, reduceLT, reduceLeDiff, reduceMul, reduceAdd, reduceIte, reduceCtorEq, Nat.reduceBEq, reduceSub, Int.reduceToNat, encTypes, encSorts, encHost, encInts]
    refine callm_go (sort_out ho hI v) (by simp -implicitDefEqProofs only [go_sem, reduceEqDiff, reduceLT, reduceLeDiff, reduceMul, reduceAdd, reduceIte, reduceCtorEq, Nat.reduceBEq, reduceSub, Int.reduceToNat, encTypes, encSorts, encHost, encInts] <;> rfl) (by simp -implicitDefEqProofs only [go_sem, reduceEqDiff, reduceLT, reduceLeDiff, reduceMul, reduceAdd, reduceIte, reduceCtorEq, Nat.reduceBEq, reduceSub, Int.reduceToNat, encTypes, encSorts, encHost, encInts] <;> rfl) (by simp -implicitDefEqProofs only [go_sem, reduceEqDiff, reduceLT, reduceLeDiff, reduceMul, reduceAdd, reduceIte, reduceCtorEq, Nat.reduceBEq, reduceSub, Int.reduceToNat, encTypes, encSorts, encHost, encInts] <;> rfl) (fun h => by cases h) ?_
    simp -implicitDefEqProofs only [go_sem, reduceEqDiff, reduceLT, reduceLeDiff, reduceMul, reduceAdd, reduceIte, reduceCtorEq, Nat.reduceBEq, reduceSub, Int.reduceToNat, encTypes, encSorts, encHost, encInts]
    simp [h1']
end Go.Proofs.YtdlohnchnneaeaaGreat
/- Layer 52's statements: the example. -/
namespace Go.Proofs.YtdlohnchnneaeaaGreat
open Go.Abs

def exE (name : ByteArray) (a b : Int) : EdgeT := ⟨name, a, b, 0, -1, 0, -1⟩
theorem edgeX_ok (name : ByteArray) (a b : Int) : CallV Go.Proofs.Tryz.prog 56 [.val (.string name), .val (.int .i64 a), .val (.int .i64 b)] (fun r => r = .agg (encEdgeT (exE name a b))) := by
  refine callV_of_cw [] Ty.mixed Go.Proofs.Tryz.func56 rfl (by kernel_rfl) (by simp [Go.Proofs.Tryz.ntmps56]) ?_; rw [Go.Proofs.Tryz.ntmps56, Go.Proofs.Tryz.results56]
  simp -implicitDefEqProofs only [go_sem, reduceEqDiff, reduceLT, reduceLeDiff, reduceMul, reduceAdd, reduceIte, reduceCtorEq, Nat.reduceBEq, reduceSub, Int.reduceToNat]
  rfl

def exT : Types := ⟨[⟨⟨#[67, 108, 97, 115, 115]⟩, -1, false, []⟩, ⟨⟨#[65, 116, 116, 114, 105, 98, 117, 116, 101]⟩, -1, false, []⟩, ⟨⟨#[84, 97, 98, 108, 101]⟩, -1, false, []⟩, ⟨⟨#[67, 111, 108, 117, 109, 110]⟩, -1, false, []⟩, ⟨⟨#[77, 97, 112]⟩, -1, false, []⟩],
  [exE ⟨#[104, 97, 115]⟩ 0 1, exE ⟨#[119, 105, 116, 104]⟩ 2 3, exE ⟨#[111, 102, 67, 108, 97, 115, 115]⟩ 4 0, exE ⟨#[111, 102, 65, 116, 116, 114, 105, 98, 117, 116, 101]⟩ 4 1, exE ⟨#[116, 111, 84, 97, 98, 108, 101]⟩ 4 2, exE ⟨#[116, 111, 67, 111, 108, 117, 109, 110]⟩ 4 3]⟩
def exS : Sorts := ⟨[1, 1, 3, 3, 2], [1, 3, 2, 2, 2, 2]⟩
def exH : Host := ⟨⟨[0, 2, 4], [⟨2, 2, 0⟩, ⟨4, 2, 1⟩]⟩, [[], [], []]⟩

def exNodes : List (List PV) := [[.val (.string ⟨#[67, 108, 97, 115, 115]⟩), .val (.int .i64 (-1)), .val (.bool false), .val (.slice none 0 0)], [.val (.string ⟨#[65, 116, 116, 114, 105, 98, 117, 116, 101]⟩), .val (.int .i64 (-1)), .val (.bool false), .val (.slice none 0 0)], [.val (.string ⟨#[84, 97, 98, 108, 101]⟩), .val (.int .i64 (-1)), .val (.bool false), .val (.slice none 0 0)], [.val (.string ⟨#[67, 111, 108, 117, 109, 110]⟩), .val (.int .i64 (-1)), .val (.bool false), .val (.slice none 0 0)], [.val (.string ⟨#[77, 97, 112]⟩), .val (.int .i64 (-1)), .val (.bool false), .val (.slice none 0 0)]]
theorem exNodes_le : PLe (.lst exNodes) (.lst (exT.nodes.map encNode)) := .lst rfl ⟨.refl _, .refl _, .refl _, .nil, .refl _, .refl _, .refl _, .nil, .refl _, .refl _, .refl _, .nil, .refl _, .refl _, .refl _, .nil, .refl _, .refl _, .refl _, .nil, trivial⟩

theorem Example_ok : CallV Go.Proofs.Tryz.prog 25 [] (fun r => r = .tup [encTypes exT, encSorts exS]) := by
  refine CallV.le (Q := fun r => r = .tup [.agg [.lst exNodes, .lst (exT.edges.map encEdgeT)], encSorts exS]) ?_ ?_
  case refine_2 =>
    rintro r rfl
    exact ⟨.tup [.agg [.lst (exT.nodes.map encNode), .lst (exT.edges.map encEdgeT)], encSorts exS], .tup ⟨.agg ⟨exNodes_le, .refl _, trivial⟩, .refl _, trivial⟩, rfl⟩
  refine callV_of_cw [] Ty.mixed Go.Proofs.Tryz.func25 rfl (by kernel_rfl) (by simp [Go.Proofs.Tryz.ntmps25]) ?_; rw [Go.Proofs.Tryz.ntmps25, Go.Proofs.Tryz.results25]
  
  simp -implicitDefEqProofs only [go_sem, reduceEqDiff, reduceLT, reduceLeDiff, reduceMul, reduceAdd, reduceIte, reduceCtorEq, Nat.reduceBEq, reduceSub, Int.reduceToNat, encEdgeT, exE]
  refine call_go (edgeX_ok _ _ _) (by simp -implicitDefEqProofs only [go_sem, reduceEqDiff, reduceLT, reduceLeDiff, reduceMul, reduceAdd, reduceIte, reduceCtorEq, Nat.reduceBEq, reduceSub, Int.reduceToNat, encEdgeT, exE] <;> rfl) (scal rfl) ?_
  simp -implicitDefEqProofs only [go_sem, reduceEqDiff, reduceLT, reduceLeDiff, reduceMul, reduceAdd, reduceIte, reduceCtorEq, Nat.reduceBEq, reduceSub, Int.reduceToNat, encEdgeT, exE]
  refine call_go (edgeX_ok _ _ _) (by simp -implicitDefEqProofs only [go_sem, reduceEqDiff, reduceLT, reduceLeDiff, reduceMul, reduceAdd, reduceIte, reduceCtorEq, Nat.reduceBEq, reduceSub, Int.reduceToNat, encEdgeT, exE] <;> rfl) (scal rfl) ?_
  simp -implicitDefEqProofs only [go_sem, reduceEqDiff, reduceLT, reduceLeDiff, reduceMul, reduceAdd, reduceIte, reduceCtorEq, Nat.reduceBEq, reduceSub, Int.reduceToNat, encEdgeT, exE]
  refine call_go (edgeX_ok _ _ _) (by simp -implicitDefEqProofs only [go_sem, reduceEqDiff, reduceLT, reduceLeDiff, reduceMul, reduceAdd, reduceIte, reduceCtorEq, Nat.reduceBEq, reduceSub, Int.reduceToNat, encEdgeT, exE] <;> rfl) (scal rfl) ?_
  simp -implicitDefEqProofs only [go_sem, reduceEqDiff, reduceLT, reduceLeDiff, reduceMul, reduceAdd, reduceIte, reduceCtorEq, Nat.reduceBEq, reduceSub, Int.reduceToNat, encEdgeT, exE]
  refine call_go (edgeX_ok _ _ _) (by simp -implicitDefEqProofs only [go_sem, reduceEqDiff, reduceLT, reduceLeDiff, reduceMul, reduceAdd, reduceIte, reduceCtorEq, Nat.reduceBEq, reduceSub, Int.reduceToNat, encEdgeT, exE] <;> rfl) (scal rfl) ?_
  simp -implicitDefEqProofs only [go_sem, reduceEqDiff, reduceLT, reduceLeDiff, reduceMul, reduceAdd, reduceIte, reduceCtorEq, Nat.reduceBEq, reduceSub, Int.reduceToNat, encEdgeT, exE]
  refine call_go (edgeX_ok _ _ _) (by simp -implicitDefEqProofs only [go_sem, reduceEqDiff, reduceLT, reduceLeDiff, reduceMul, reduceAdd, reduceIte, reduceCtorEq, Nat.reduceBEq, reduceSub, Int.reduceToNat, encEdgeT, exE] <;> rfl) (scal rfl) ?_
  simp -implicitDefEqProofs only [go_sem, reduceEqDiff, reduceLT, reduceLeDiff, reduceMul, reduceAdd, reduceIte, reduceCtorEq, Nat.reduceBEq, reduceSub, Int.reduceToNat, encEdgeT, exE]
  refine call_go (edgeX_ok _ _ _) (by simp -implicitDefEqProofs only [go_sem, reduceEqDiff, reduceLT, reduceLeDiff, reduceMul, reduceAdd, reduceIte, reduceCtorEq, Nat.reduceBEq, reduceSub, Int.reduceToNat, encEdgeT, exE] <;> rfl) (scal rfl) ?_
  simp -implicitDefEqProofs only [go_sem, reduceEqDiff, reduceLT, reduceLeDiff, reduceMul, reduceAdd, reduceIte, reduceCtorEq, Nat.reduceBEq, reduceSub, Int.reduceToNat, encEdgeT, exE]
  exact ⟨⟨rfl, rfl⟩, rfl⟩

def exPair : GPair := ⟨0, 1⟩
def exHraw : PV := .agg [.lst [[.val (.int .i64 0)], [.val (.int .i64 2)], [.val (.int .i64 4)]], .lst [[.val (.int .i64 2), .val (.int .i64 2), .val (.int .i64 0)], [.val (.int .i64 4), .val (.int .i64 2), .val (.int .i64 1)]], .lst [[.val (.slice none 0 0)], [.val (.slice none 0 0)], [.val (.slice none 0 0)]]]
theorem exH_le : PLe exHraw (encHost exH) := .agg ⟨.refl _, .refl _, .lst rfl ⟨.nil, .nil, .nil, trivial⟩, trivial⟩
theorem exFew : FewT exT ∧ FewS exS ∧ FewH exH :=
  ⟨⟨by decide, by decide, by decide, by decide, by decide, by decide, by decide, by decide⟩, by unfold FewS; decide, ⟨⟨by decide, by decide⟩, by decide, by decide⟩⟩
theorem exLinks : linksE exT exS exH = ([exPair], 0) := by
  kernel_rfl
theorem awake_ok : CallV Go.Proofs.Tryz.prog 9 [] (fun r => r = .val (.bool true)) := by
  refine callV_of_cw [] Ty.mixed Go.Proofs.Tryz.func9 rfl (by kernel_rfl) (by simp [Go.Proofs.Tryz.ntmps9]) ?_; rw [Go.Proofs.Tryz.ntmps9, Go.Proofs.Tryz.results9]
  simp -implicitDefEqProofs only [go_sem, reduceEqDiff, reduceLT, reduceLeDiff, reduceMul, reduceAdd, reduceIte, reduceCtorEq, Nat.reduceBEq, reduceSub, Int.reduceToNat]
  have hL := (Links_ok exT exFew.1 exS exFew.2.1 exH exFew.2.2).args (ps' := [encTypes exT, encSorts exS, exHraw]) ⟨.refl _, .refl _, exH_le, trivial⟩
  rw [exLinks] at hL
  refine call_go (Example_ok) (by simp -implicitDefEqProofs only [go_sem, reduceEqDiff, reduceLT, reduceLeDiff, reduceMul, reduceAdd, reduceIte, reduceCtorEq, Nat.reduceBEq, reduceSub, Int.reduceToNat] <;> rfl) (pers) ?_
  
  simp -implicitDefEqProofs only [go_sem, reduceEqDiff, reduceLT, reduceLeDiff, reduceMul, reduceAdd, reduceIte, reduceCtorEq, Nat.reduceBEq, reduceSub, Int.reduceToNat, encTypes, encSorts, encInts]
  unfold encTypes encSorts encInts exHraw at hL
  refine call_go (hL) (by simp -implicitDefEqProofs only [go_sem, reduceEqDiff, reduceLT, reduceLeDiff, reduceMul, reduceAdd, reduceIte, reduceCtorEq, Nat.reduceBEq, reduceSub, Int.reduceToNat, encTypes, encSorts, encInts] <;> rfl) (pers) ?_
  simp -implicitDefEqProofs only [go_sem, reduceEqDiff, reduceLT, reduceLeDiff, reduceMul, reduceAdd, reduceIte, reduceCtorEq, Nat.reduceBEq, reduceSub, Int.reduceToNat, encTypes, encSorts, encInts]
  refine call_go (equal_pair [exPair] [exPair] (by decide)) (by simp -implicitDefEqProofs only [go_sem, reduceEqDiff, reduceLT, reduceLeDiff, reduceMul, reduceAdd, reduceIte, reduceCtorEq, Nat.reduceBEq, reduceSub, Int.reduceToNat, encTypes, encSorts, encInts] <;> rfl) (scal rfl) ?_
  simp -implicitDefEqProofs only [go_sem, reduceEqDiff, reduceLT, reduceLeDiff, reduceMul, reduceAdd, reduceIte, reduceCtorEq, Nat.reduceBEq, reduceSub, Int.reduceToNat, encTypes, encSorts, encInts]
end Go.Proofs.YtdlohnchnneaeaaGreat
/- Layer 52's statements: TripleLinks, TripleSwap, as calls on plain data. -/
namespace Go.Proofs.YtdlohnchnneaeaaGreat
open Go.Abs

theorem linksL_le (s : Sorts) (g : Graph) (h : OkTr s g) : (linksR s g).length ≤ 1000000 := by
  have h1 : (partX s g 1).nodes.length ≤ 40 := Nat.le_trans (pick_len _ _) h.nodes
  have h3 : (partX s g 3).nodes.length ≤ 40 := Nat.le_trans (pick_len _ _) h.nodes
  have h2 := linksL_len g (partX s g 1).nodes (partX s g 2).nodes (partX s g 3).nodes
  have h4 := Nat.mul_le_mul h1 h3
  show (linksL g (partX s g 1).nodes (partX s g 2).nodes (partX s g 3).nodes).length ≤ 1000000
  omega
theorem firstE_zero {f : Nat → Int} {n : Nat} (h : firstE f 0 n = 0) : ∀ j, j < n → f j = 0 := by
  unfold firstE at h
  cases hk : firstI f 0 n with
  | none => exact firstI_all hk
  | some k => rw [hk] at h; exact absurd h (firstI_some hk)
end Go.Proofs.YtdlohnchnneaeaaGreat
/- Functions that stand for code: steps that keep the function and the walk together. Program-independent. -/
namespace Go.Abs
open Go.RowKit

def chk {α : Type} (p : Prop) [Decidable p] (x : Option α) : Option α := if p then x else none
def thn {α β : Type} (x : Option α) (k : α → Option β) : Option β := match x with
  | some a => k a
  | none => none
def atZ {α : Type} (l : List α) (i : Int) : Option α := if 0 ≤ i then l[i.toNat]? else none
theorem chk_s {α : Type} {p : Prop} [Decidable p] {x : Option α} {r : α} (h : chk p x = some r) : p ∧ x = some r := by
  unfold chk at h
  split at h
  · exact ⟨by assumption, h⟩
  · cases h
theorem thn_s {α β : Type} {x : Option α} {k : α → Option β} {r : β} (h : thn x k = some r) : ∃ a, x = some a ∧ k a = some r := by
  unfold thn at h
  split at h
  · exact ⟨_, rfl, h⟩
  · cases h
theorem cond_t {α : Type} {b : Bool} {x y : Option α} {r : α} (h : cond b x y = some r) (hb : b = true) : x = some r := by subst hb; exact h
theorem cond_f {α : Type} {b : Bool} {x y : Option α} {r : α} (h : cond b x y = some r) (hb : b = false) : y = some r := by subst hb; exact h
theorem idx_s {α β : Type} {l : List α} {i : Nat} {k : α → Option β} {r : β} (f : α → List PV) (h : thn l[i]? k = some r) : ∃ a, i < l.length ∧ (l.map f).getD i [] = f a ∧ l[i]? = some a ∧ k a = some r := by
  obtain ⟨a, h1, h2⟩ := thn_s h
  exact ⟨a, (List.getElem?_eq_some_iff.1 h1).1, by simp [h1], h1, h2⟩
theorem atZ_s {α β : Type} {l : List α} {i : Int} {k : α → Option β} {r : β} (f : α → List PV) (h : thn (atZ l i) k = some r) :
    ∃ a, 0 ≤ i ∧ i < (l.length : Int) ∧ (l.map f).getD i.toNat [] = f a ∧ atZ l i = some a ∧ k a = some r := by
  obtain ⟨a, h1, h2⟩ := thn_s h
  have h1' := h1
  unfold atZ at h1
  split at h1
  · rename_i h0
    have := (List.getElem?_eq_some_iff.1 h1).1
    exact ⟨a, h0, by omega, by simp [h1], h1', h2⟩
  · cases h1
theorem map_len {α : Type} {f : α → List PV} {n : Nat} (h : ∀ a, (f a).length = n) (l : List α) : ∀ x ∈ l.map f, x.length = n := by
  intro x hx
  obtain ⟨a, _, rfl⟩ := List.mem_map.1 hx
  exact h a
theorem map_take' {α β : Type} (f : α → β) (l : List α) (n : Nat) : (l.map f).take n = (l.take n).map f := (List.map_take ..).symm
theorem map_drop' {α β : Type} (f : α → β) (l : List α) (n : Nat) : (l.map f).drop n = (l.drop n).map f := (List.map_drop ..).symm
theorem map_app' {α β : Type} (f : α → β) (l m : List α) : l.map f ++ m.map f = (l ++ m).map f := (List.map_append ..).symm
theorem map_apps {α β : Type} (f : α → β) (l m : List α) {c : List β} (h : m.map f = c) : l.map f ++ c = (l ++ m).map f := by rw [List.map_append, h]
attribute [go_sem] map_take' map_drop' map_app' List.take_length List.length_set List.length_replicate List.set_cons_zero List.set_cons_succ Nat.le_refl Nat.not_lt_zero Nat.zero_le Nat.zero_lt_succ decide_true decide_false Bool.not_not

/-! ### nil read as an empty list -/
mutual
def pleP : PV → PV → Prop
  | .val (.slice none 0 0), .lst es => es = []
  | .emp, .lst es => es = []
  | .agg a, .agg b => pleL a b
  | .tup a, .tup b => pleL a b
  | a, b => a = b
def pleL : List PV → List PV → Prop
  | [], [] => True
  | a :: r, b :: s => pleP a b ∧ pleL r s
  | _, _ => False
end
mutual
theorem pleP_ok : ∀ (a b : PV), pleP a b → PLe a b := by
  intro a b h
  unfold pleP at h
  split at h
  · subst h; exact .nil
  · subst h; exact .emp
  · exact .agg (pleL_ok _ _ h)
  · exact .tup (pleL_ok _ _ h)
  · subst h; exact .refl _
theorem pleL_ok : ∀ (a b : List PV), pleL a b → PLes a b
  | [], [], _ => trivial
  | a :: r, b :: s, h => ⟨pleP_ok a b (by unfold pleL at h; exact h.1), pleL_ok r s (by unfold pleL at h; exact h.2)⟩
  | [], _ :: _, h => by unfold pleL at h; exact h
  | _ :: _, [], h => by unfold pleL at h; exact h
end
theorem CallV.ple {P : Program} {f : FuncId} {args : List PV} {t : PV} (h : CallV P f args (fun v => pleP v t)) : CallV P f args (fun v => v = t) :=
  h.le fun r hr => ⟨t, pleP_ok r t hr, rfl⟩
mutual
def rleP : RV → RV → Prop
  | .p (.val (.slice none 0 0)), .row _ sz es => es = [] ∧ 0 < sz
  | .p (.val (.slice none 0 0)), .p (.lst es) => es = []
  | .agg a, .agg b => rleL a b
  | .tup a, .tup b => rleL a b
  | .p (.agg a), .agg b => rleX a b
  | a, b => a = b
def rleL : List RV → List RV → Prop
  | [], [] => True
  | a :: r, b :: s => rleP a b ∧ rleL r s
  | _, _ => False
def rleX : List PV → List RV → Prop
  | [], [] => True
  | a :: r, b :: s => rleP (.p a) b ∧ rleX r s
  | _, _ => False
end

theorem RVR.nilRow {w : World} {B : Nat} {J : Mem} {u : Value} {bs : List Nat} (e : TypeId) {sz : Nat} (hsz : 0 < sz) (h : RVR w B J u (.p (.val (.slice none 0 0))) bs) : RVR w B J u (.row e sz []) bs :=
  (RLe.nil e sz hsz).sound h
theorem RVR.nilLst {w : World} {B : Nat} {J : Mem} {u : Value} {bs : List Nat} (h : RVR w B J u (.p (.val (.slice none 0 0))) bs) : RVR w B J u (.p (.lst [])) bs := RLe.nilp.sound h
def RLs (w : World) (B : Nat) (J : Mem) (us : List Value) (rs : List RV) (bs : List (List Nat)) : Prop :=
  us.length = rs.length ∧ us.length = bs.length ∧ ∀ (j : Nat) u r b, us[j]? = some u → rs[j]? = some r → bs[j]? = some b → RVR w B J u r b
theorem RLs.cons {w : World} {B : Nat} {J : Mem} {u : Value} {us : List Value} {r r' : RV} {rs rs' : List RV} {b : List Nat} {bs : List (List Nat)} (h : RLs w B J (u :: us) (r :: rs) (b :: bs))
    (h1 : RVR w B J u r b → RVR w B J u r' b) (h2 : RLs w B J us rs bs → RLs w B J us rs' bs) : RLs w B J (u :: us) (r' :: rs') (b :: bs) := by
  obtain ⟨a1, a2, a3⟩ := h
  obtain ⟨c1, c2, c3⟩ := h2 ⟨by simpa using a1, by simpa using a2, fun j u r b hu hr hb => a3 (j + 1) u r b (by simpa using hu) (by simpa using hr) (by simpa using hb)⟩
  refine ⟨by simpa using c1, by simpa using c2, fun j u r b hu hr hb => ?_⟩
  cases j with
  | zero => simp at hu hr hb; subst hu hr hb; exact h1 (a3 0 _ _ _ rfl rfl rfl)
  | succ j => exact c3 j u r b (by simpa using hu) (by simpa using hr) (by simpa using hb)
mutual
theorem rleP_ok : ∀ (r t : RV), rleP r t → ∀ {w : World} {B : Nat} {J : Mem} {u : Value} {bs : List Nat}, RVR w B J u r bs → RVR w B J u t bs := by
  intro r t h w B J u bs hr
  unfold rleP at h
  split at h
  · obtain ⟨rfl, h2⟩ := h; exact hr.nilRow _ h2
  · subst h; exact hr.nilLst
  · cases hr with
    | agg us rs bs q1 q2 q3 q4 =>
      obtain ⟨c1, c2, c3⟩ := rleL_ok _ _ h (w := w) (B := B) (J := J) ⟨q1, q2, q3⟩
      exact .agg us _ bs c1 c2 c3 q4
  · cases hr with
    | tup us rs bs q1 q2 q3 =>
      obtain ⟨c1, c2, c3⟩ := rleL_ok _ _ h (w := w) (B := B) (J := J) ⟨q1, q2, q3⟩
      exact .tup us _ bs c1 c2 c3
  · cases hr with
    | p u x hx =>
      cases hx with
      | agg us cs q1 q2 q3 =>
        obtain ⟨c1, c2, c3⟩ := rleX_ok _ _ h (w := w) (B := B) (J := J) (us := us) ⟨q1, q2⟩
        have : ((us.map fun _ => ([] : List Nat))).flatten = [] := by simp
        have h2 := RVR.agg us _ (us.map fun _ => []) c1 c2 c3 q3
        rw [this] at h2
        exact h2
  · subst h; exact hr
termination_by r t => SizeOf.sizeOf t
theorem rleL_ok : ∀ (a b : List RV), rleL a b → ∀ {w : World} {B : Nat} {J : Mem} {us : List Value} {bs : List (List Nat)}, RLs w B J us a bs → RLs w B J us b bs
  | [], [], _, _, _, _, _, _, h => h
  | [], _ :: _, h, _, _, _, _, _, _ => by unfold rleL at h; exact h.elim
  | _ :: _, [], h, _, _, _, _, _, _ => by unfold rleL at h; exact h.elim
  | a :: r, b :: s, h, w, B, J, us, bs, hr => by
    unfold rleL at h
    match us, bs, hr with
    | u :: us, c :: bs, hr => exact hr.cons (rleP_ok a b h.1) (rleL_ok r s h.2)
    | [], _, hr => have := hr.1; simp at this
    | _ :: _, [], hr => have := hr.2.1; simp at this
termination_by a b => SizeOf.sizeOf b
theorem rleX_ok : ∀ (a : List PV) (b : List RV), rleX a b → ∀ {w : World} {B : Nat} {J : Mem} {us : List Value}, VRs J us a → RLs w B J us b (us.map fun _ => [])
  | [], [], _, _, _, _, us, h => by
    have h1 : us = [] := by have := h.1; simpa using this
    subst h1
    exact ⟨rfl, rfl, fun j u r b hu => by simp at hu⟩
  | [], _ :: _, h, _, _, _, _, _ => by unfold rleX at h; exact h.elim
  | _ :: _, [], h, _, _, _, _, _ => by unfold rleX at h; exact h.elim
  | a :: r, b :: s, h, w, B, J, us, hr => by
    unfold rleX at h
    match us, hr with
    | u :: us, hr =>
      have ih := rleX_ok r s h.2 (w := w) (B := B) (J := J) (us := us) ⟨by have := hr.1; simpa using this, fun j u c hu hc => hr.2 (j + 1) u c (by simpa using hu) (by simpa using hc)⟩
      have h1 := rleP_ok (.p a) b h.1 (w := w) (B := B) (.p u a (hr.2 0 u a rfl rfl))
      refine ⟨by simpa using ih.1, by simp, fun j u r b hu hr hb => ?_⟩
      cases j with
      | zero => simp at hu hr hb; subst hu hr hb; exact h1
      | succ j => exact ih.2.2 j u r b (by simpa using hu) (by simpa using hr) (by simpa using hb)
    | [], hr => have := hr.1; simp at this
termination_by a b => SizeOf.sizeOf b
end
theorem CallF.rle {P : Program} {f : FuncId} {args : List PV} {t : RV} (h : CallF P f args (fun v => rleP v t)) : CallF P f args (fun v => v = t) :=
  ⟨h.1, fun I w vs hI hv => (h.2 I w vs hI hv).mono fun _ _ ⟨v, r, bs, I', h1, h2, h3, h4⟩ => ⟨v, t, bs, I', h1, rfl, rleP_ok r t h2 h3, h4⟩⟩

theorem pleP_agg (a b : List PV) : pleP (.agg a) (.agg b) = pleL a b := by simp only [pleP]
theorem pleP_tup (a b : List PV) : pleP (.tup a) (.tup b) = pleL a b := by simp only [pleP]
theorem pleP_nil (es : List (List PV)) : pleP (.val (.slice none 0 0)) (.lst es) = (es = []) := by simp only [pleP]
theorem pleP_emp (es : List (List PV)) : pleP .emp (.lst es) = (es = []) := by simp only [pleP]
theorem pleP_lst (a b : List (List PV)) : pleP (.lst a) (.lst b) = (a = b) := by simp only [pleP, PV.lst.injEq]
theorem pleP_val (a b : Value) : pleP (.val a) (.val b) = (a = b) := by
  unfold pleP
  split <;> first | (rename_i h _; cases h; done) | (rename_i h; cases h; done) | simp_all
theorem pleL_nil : pleL [] [] = True := by simp only [pleL]
theorem pleL_cons (a b : PV) (r s : List PV) : pleL (a :: r) (b :: s) = (pleP a b ∧ pleL r s) := by simp only [pleL]
theorem rleP_agg (a b : List RV) : rleP (.agg a) (.agg b) = rleL a b := by simp only [rleP]
theorem rleP_tup (a b : List RV) : rleP (.tup a) (.tup b) = rleL a b := by simp only [rleP]
theorem rleP_pagg (a : List PV) (b : List RV) : rleP (.p (.agg a)) (.agg b) = rleX a b := by simp only [rleP]
theorem rleP_nilRow (e : TypeId) (sz : Nat) (es : List (List PV)) : rleP (.p (.val (.slice none 0 0))) (.row e sz es) = (es = [] ∧ 0 < sz) := by simp only [rleP]
theorem rleP_nilLst (es : List (List PV)) : rleP (.p (.val (.slice none 0 0))) (.p (.lst es)) = (es = []) := by simp only [rleP]
theorem rleP_row (e e' : TypeId) (sz sz' : Nat) (es es' : List (List PV)) : rleP (.row e sz es) (.row e' sz' es') = (e = e' ∧ sz = sz' ∧ es = es') := by simp only [rleP, RV.row.injEq]
theorem rleP_val (a b : Value) : rleP (.p (.val a)) (.p (.val b)) = (a = b) := by
  unfold rleP
  split <;> first | (rename_i h _; cases h; done) | (rename_i h; cases h; done) | simp_all
theorem rleP_lst (a b : List (List PV)) : rleP (.p (.lst a)) (.p (.lst b)) = (a = b) := by simp only [rleP, RV.p.injEq, PV.lst.injEq]
theorem rleL_nil : rleL [] [] = True := by simp only [rleL]
theorem rleL_cons (a b : RV) (r s : List RV) : rleL (a :: r) (b :: s) = (rleP a b ∧ rleL r s) := by simp only [rleL]
theorem rleX_nil : rleX [] [] = True := by simp only [rleX]
theorem rleX_cons (a : PV) (b : RV) (r : List PV) (s : List RV) : rleX (a :: r) (b :: s) = (rleP (.p a) b ∧ rleX r s) := by simp only [rleX]
attribute [go_sem] pleP_agg pleP_tup pleP_nil pleP_emp pleP_lst pleP_val pleL_nil pleL_cons rleP_agg rleP_tup rleP_pagg rleP_nilRow rleP_nilLst rleP_row rleP_val rleP_lst rleL_nil rleL_cons rleX_nil rleX_cons

/-! ### Loops -/
section
variable {σ O : Type}
def forN (f : Nat → σ → (σ → Option O) → (σ → Option O) → Option O) : Nat → Nat → σ → (σ → Option O) → Option O
  | 0, _, s, K => K s
  | k + 1, i, s, K => f i s (fun s' => forN f k (i + 1) s' K) K
def iter (f : σ → (σ → Option O) → (σ → Option O) → Option O) : Nat → σ → (σ → Option O) → Option O
  | 0, _, _ => none
  | k + 1, s, K => f s (fun s' => iter f k s' K) K
end
def fuel : Nat := 4611686018427387904

section
variable {P : Program} {N : Nat} {own : List Nat} {σ γ O : Type} {c : Code} {K : Kont} {env : Env} {H : AHeap}
def loopG (R : Env → AHeap → Prop) (K : Kont) : Kont := fun e env H => match e with
  | .normal => R env H
  | e => K e env H
theorem loopG_normal {R : Env → AHeap → Prop} : loopG R K .normal env H = R env H := rfl
theorem loopG_exit {R : Env → AHeap → Prop} {id : Nat} : loopG R K (.exit id) env H = K (.exit id) env H := rfl
theorem loopG_ret {R : Env → AHeap → Prop} : loopG R K .ret env H = K .ret env H := rfl
attribute [go_sem] loopG_normal loopG_exit loopG_ret

def nextG (inv : σ × γ → Env) (invH : σ × γ → AHeap) (Nx : σ → Prop) (e : Env) (H : AHeap) : Prop := ∃ s' g, Nx s' ∧ Weak e H (inv (s', g)) (invH (s', g))
theorem nextG_mk {inv : σ × γ → Env} {invH : σ × γ → AHeap} {Nx : σ → Prop} {e : Env} {H : AHeap} (s' : σ) (g : γ) (h : Nx s') (hw : Weak e H (inv (s', g)) (invH (s', g))) : nextG inv invH Nx e H := ⟨s', g, h, hw⟩
theorem loopG_eq {R R' : Env → AHeap → Prop} (h : ∀ e H, R e H ↔ R' e H) : loopG R K = (fun z e' H' => match z with
    | .normal => R' e' H'
    | z => K z e' H') := by
  funext z e' H'
  cases z <;> first | rfl | exact propext (h e' H')

theorem iter_loop {f : σ → (σ → Option O) → (σ → Option O) → Option O} {Kf : σ → Option O} {r : O} (inv : σ × γ → Env) (invH : σ × γ → AHeap) (g0 : γ) {k : Nat} {s : σ} (h : iter f k s Kf = some r)
    (hw : Weak env H (inv (s, g0)) (invH (s, g0)))
    (hr : ∀ s g (nxt : σ → Option O) (Nx : σ → Prop), (∀ s', nxt s' = some r → Nx s') → f s nxt Kf = some r → cw P N own c (loopG (nextG inv invH Nx) K) (inv (s, g)) (invH (s, g))) : loopC P N own c K env H := by
  refine ⟨fun n e H => ∃ s g, iter f n s Kf = some r ∧ e = inv (s, g) ∧ H = invH (s, g), ⟨k, _, _, ⟨s, g0, h, rfl, rfl⟩, hw⟩, ?_⟩
  rintro n e H ⟨s, g, hs, rfl, rfl⟩
  cases n with
  | zero => cases hs
  | succ n =>
    have := hr s g _ (fun s' => ∃ m, m < n + 1 ∧ iter f m s' Kf = some r) (fun s' h' => ⟨n, Nat.lt_succ_self n, h'⟩) hs
    rw [loopG_eq (R' := fun e' H' => ∃ m e2 H2, m < n + 1 ∧ (∃ s g, iter f m s Kf = some r ∧ e2 = inv (s, g) ∧ H2 = invH (s, g)) ∧ Weak e' H' e2 H2)] at this
    · exact this
    · intro e' H'
      constructor
      · rintro ⟨s', g', ⟨m, h1, h2⟩, h3⟩
        exact ⟨m, _, _, h1, ⟨s', g', h2, rfl, rfl⟩, h3⟩
      · rintro ⟨m, e2, H2, h1, ⟨s', g', h2, rfl, rfl⟩, h3⟩
        exact ⟨s', g', ⟨m, h1, h2⟩, h3⟩

theorem forN_loop {f : Nat → σ → (σ → Option O) → (σ → Option O) → Option O} {Kf : σ → Option O} {r : O} (inv : (Nat × σ) × γ → Env) (invH : (Nat × σ) × γ → AHeap) (g0 : γ) {n i : Nat} {s : σ} (h : forN f (n - i) i s Kf = some r)
    (hw : Weak env H (inv ((i, s), g0)) (invH ((i, s), g0)))
    (hr : ∀ j s g (nxt : σ → Option O) (Nx : Nat × σ → Prop), j < n → (∀ s', nxt s' = some r → Nx (j + 1, s')) → f j s nxt Kf = some r → cw P N own c (loopG (nextG inv invH Nx) K) (inv ((j, s), g)) (invH ((j, s), g)))
    (he : ∀ j s g (Nx : Nat × σ → Prop), n ≤ j → Kf s = some r → cw P N own c (loopG (nextG inv invH Nx) K) (inv ((j, s), g)) (invH ((j, s), g))) : loopC P N own c K env H := by
  refine ⟨fun m e H => ∃ (x : Nat × σ) (g : γ), (n - x.1 = m ∧ forN f (n - x.1) x.1 x.2 Kf = some r) ∧ e = inv (x, g) ∧ H = invH (x, g), ⟨n - i, _, _, ⟨(i, s), g0, ⟨rfl, h⟩, rfl, rfl⟩, hw⟩, ?_⟩
  rintro m e H ⟨⟨j, s⟩, g, ⟨hm, hs⟩, rfl, rfl⟩
  have key : ∀ R : Nat × σ → Prop, (∀ x, R x ↔ n - x.1 < m ∧ forN f (n - x.1) x.1 x.2 Kf = some r) → ∀ e' H', nextG inv invH R e' H' ↔ ∃ m' e2 H2, m' < m ∧ (∃ (x : Nat × σ) (g : γ), (n - x.1 = m' ∧ forN f (n - x.1) x.1 x.2 Kf = some r) ∧ e2 = inv (x, g) ∧ H2 = invH (x, g)) ∧ Weak e' H' e2 H2 := by
    intro R hR e' H'
    constructor
    · rintro ⟨x, g', h1, h3⟩
      obtain ⟨h1, h2⟩ := (hR x).1 h1
      exact ⟨_, _, _, h1, ⟨x, g', ⟨rfl, h2⟩, rfl, rfl⟩, h3⟩
    · rintro ⟨m', e2, H2, h1, ⟨x, g', ⟨h4, h2⟩, rfl, rfl⟩, h3⟩
      exact ⟨x, g', (hR x).2 ⟨by omega, h2⟩, h3⟩
  simp only at hm hs
  by_cases hj : j < n
  · obtain ⟨k, hk⟩ : ∃ k, n - j = k + 1 := ⟨n - j - 1, by omega⟩
    have hk' : n - (j + 1) = k := by omega
    rw [hk] at hs
    have := hr j s g _ (fun x => n - x.1 < m ∧ forN f (n - x.1) x.1 x.2 Kf = some r) hj (fun s' h' => ⟨by simp only; omega, by simp only [hk']; exact h'⟩) hs
    rw [loopG_eq (key _ fun x => Iff.rfl)] at this
    exact this
  · have h0 : n - j = 0 := by omega
    rw [h0] at hs
    have := he j s g (fun x => n - x.1 < m ∧ forN f (n - x.1) x.1 x.2 Kf = some r) (by omega) hs
    rw [loopG_eq (key _ fun x => Iff.rfl)] at this
    exact this
end

theorem iter_go {P : Program} {N : Nat} {own : List Nat} {σ γ O : Type} {c : Code} {K : Kont} {env : Env} {H : AHeap} {f : σ → (σ → Option O) → (σ → Option O) → Option O} {Kf : σ → Option O} {r : O} (inv : σ × γ → Env) (invH : σ × γ → AHeap) (g0 : γ) {k : Nat} {s : σ} (h : iter f k s Kf = some r)
    (hw : Weak env H (inv (s, g0)) (invH (s, g0)))
    (hr : ∀ s g (nxt : σ → Option O) (R : Env → AHeap → Prop), (∀ s' g' {e H}, nxt s' = some r → Weak e H (inv (s', g')) (invH (s', g')) → R e H) → f s nxt Kf = some r → cw P N own c (loopG R K) (inv (s, g)) (invH (s, g))) : loopC P N own c K env H :=
  iter_loop inv invH g0 h hw fun s g nxt Nx hN hf => hr s g nxt _ (fun s' g' _ _ h1 h2 => nextG_mk s' g' (hN s' h1) h2) hf
theorem forN_go {P : Program} {N : Nat} {own : List Nat} {σ γ O : Type} {c : Code} {K : Kont} {env : Env} {H : AHeap} {f : Nat → σ → (σ → Option O) → (σ → Option O) → Option O} {Kf : σ → Option O} {r : O} (inv : (Nat × σ) × γ → Env) (invH : (Nat × σ) × γ → AHeap) (g0 : γ) {n i : Nat} {s : σ} (h : forN f (n - i) i s Kf = some r)
    (hw : Weak env H (inv ((i, s), g0)) (invH ((i, s), g0)))
    (hr : ∀ j s g (nxt : σ → Option O) (R : Env → AHeap → Prop), j < n → (∀ s' g' {e H}, nxt s' = some r → Weak e H (inv ((j + 1, s'), g')) (invH ((j + 1, s'), g')) → R e H) → f j s nxt Kf = some r → cw P N own c (loopG R K) (inv ((j, s), g)) (invH ((j, s), g)))
    (he : ∀ j s g (R : Env → AHeap → Prop), n ≤ j → Kf s = some r → cw P N own c (loopG R K) (inv ((j, s), g)) (invH ((j, s), g))) : loopC P N own c K env H :=
  forN_loop inv invH g0 h hw (fun j s g nxt Nx hj hN hf => hr j s g nxt _ hj (fun s' g' _ _ h1 h2 => nextG_mk (j + 1, s') g' (hN s' h1) h2) hf) (fun j s g Nx hj hk => he j s g _ hj hk)

/-! ### Arguments that are nil -/
section
variable {P : Program} {env : Env} {H : AHeap} {o : Oper} {W : Env → AHeap → Prop} {k : FuncId} {ps ps' : List PV} {b : Bool}
theorem CallF.args {f : FuncId} {ps ps' : List PV} {Q : RV → Prop} (h : CallF P f ps Q) (hp : PLes ps' ps) : CallF P f ps' Q :=
  ⟨h.1, fun I w vs hI hv => h.2 I w vs hI (hp.vrs hv)⟩
theorem callG {x : PV} (c : CallV P k ps fun r => r = x) (he : callPs o (ev env) H = some (k, ps', b)) (hp : pleL ps' ps) (hb : b = true → x.scalar = true)
    (hW : W (putA env o.dst (.p x)) H) : callK P o W env H := call_go (c.args (pleL_ok _ _ hp)) he hb hW
theorem calldG {x : PV} (c : CallV P k ps fun r => r = x) (he : callPs o (ev env) H = some (k, ps', b)) (hp : pleL ps' ps) (hb : b = true → x.scalar = true)
    (hW : W (putA env o.dst (.p x)) H) : callD P o W env H := calld_go (c.args (pleL_ok _ _ hp)) he hb hW
end

/-! ### Arrays -/
section
variable {P : Program} {t : TypeId} {kk : IntKind} {n : Int} {H : AHeap}
def idxA (a : Option (Nat × TypeId)) (f : TypeId → Option Nat) (n : Int) (mk : Nat → AV) (H : AHeap) : Option (Prop × AV × AHeap) := match a with
  | some (len, e) => (match f e with
    | some sz => some (0 ≤ n ∧ n < len, mk (n.toNat * sz), H)
    | none => none)
  | none => none
theorem indexM_eptr {cs : List PV} {off : Nat} : indexM P t (.p (.eptr cs off)) (.p (.val (.int kk n))) H = idxA (arrOf P t) (tySize P) n (fun o => .p (.eptr cs (off + o))) H := by
  unfold indexM indexP idxA up3
  cases arrOf P t with
  | none => rfl
  | some r => obtain ⟨len, e⟩ := r; simp only; cases tySize P e <;> rfl
theorem indexM_ptr {id off : Nat} : indexM P t (.ptr id off) (.p (.val (.int kk n))) H = idxA (arrOf P t) (tySize P) n (fun o => .ptr id (off + o)) H := by
  unfold indexM indexP idxA up3
  cases arrOf P t with
  | none => rfl
  | some r => obtain ⟨len, e⟩ := r; simp only; cases tySize P e <;> rfl
theorem idxA_some {len : Nat} {e : TypeId} {f : TypeId → Option Nat} {mk : Nat → AV} : idxA (some (len, e)) f n mk H = (match f e with
    | some sz => some (0 ≤ n ∧ n < len, mk (n.toNat * sz), H)
    | none => none) := rfl
attribute [go_sem] indexM_eptr indexM_ptr idxA_some
end
/-! ### Forgetting, with lists -/
mutual
def subA : AV → AV → Prop
  | .p a, .p b => pleP a b
  | .agg a, .agg b => subAL a b
  | .tup a, .tup b => subAL a b
  | a, b => a = b
def subAL : List AV → List AV → Prop
  | [], [] => True
  | a :: r, b :: s => subA a b ∧ subAL r s
  | _, _ => False
end
theorem subA_p (a b : PV) : subA (.p a) (.p b) = pleP a b := by simp only [subA]
theorem subA_row (i v j u : Nat) : subA (.row i v) (.row j u) = (i = j ∧ v = u) := by simp only [subA, AV.row.injEq]
theorem subA_ptr (i v j u : Nat) : subA (.ptr i v) (.ptr j u) = (i = j ∧ v = u) := by simp only [subA, AV.ptr.injEq]
theorem subA_clo (f g : Fn) (a b c d : List AV) : subA (.clo f a b) (.clo g c d) = (f = g ∧ a = c ∧ b = d) := by simp only [subA, AV.clo.injEq]
theorem subA_rptr (i v j o i' v' j' o' : Nat) : subA (.rptr i v j o) (.rptr i' v' j' o') = (i = i' ∧ v = v' ∧ j = j' ∧ o = o') := by simp only [subA, AV.rptr.injEq]
theorem subA_agg (a b : List AV) : subA (.agg a) (.agg b) = subAL a b := by simp only [subA]
theorem subA_tup (a b : List AV) : subA (.tup a) (.tup b) = subAL a b := by simp only [subA]
theorem subAL_nil : subAL [] [] = True := by simp only [subAL]
theorem subAL_cons (a b : AV) (r s : List AV) : subAL (a :: r) (b :: s) = (subA a b ∧ subAL r s) := by simp only [subAL]

theorem subAL_get : ∀ {as' bs : List AV}, subAL as' bs → as'.length = bs.length ∧ ∀ (j : Nat) a b, as'[j]? = some a → bs[j]? = some b → subA a b
  | [], [], _ => ⟨rfl, fun j a b h => by simp at h⟩
  | a :: r, b :: s, h => by
    unfold subAL at h
    obtain ⟨h1, h2⟩ := subAL_get h.2
    refine ⟨by simp [h1], fun j x y hx hy => ?_⟩
    cases j with
    | zero => simp at hx hy; subst hx hy; exact h.1
    | succ j => exact h2 j x y (by simpa using hx) (by simpa using hy)
  | [], _ :: _, h => by unfold subAL at h; exact h.elim
  | _ :: _, [], h => by unfold subAL at h; exact h.elim

theorem subA_ok {I : Mem} {L : LocMap} {u : Value} {a : AV} (h : AVR I L u a) : ∀ {b : AV}, subA a b → AVR I L u b := by
  induction h with
  | p u x h =>
    intro b hb
    unfold subA at hb
    split at hb
    · rename_i e; cases e; exact .p _ _ (pleP_ok _ _ hb _ _ h)
    · rename_i e; cases e
    · rename_i e; cases e
    · subst hb; exact .p _ _ h
  | agg us cs hl hv hone ih =>
    intro b hb
    unfold subA at hb
    split at hb
    · rename_i e; cases e
    · rename_i e; cases e
      obtain ⟨q1, q2⟩ := subAL_get hb
      refine .agg us _ (hl.trans q1) (fun j u c hu hc => ?_) hone
      obtain ⟨a, ha⟩ : ∃ a, cs[j]? = some a := by
        have hj : j < us.length := (List.getElem?_eq_some_iff.1 hu).1
        exact ⟨cs[j]'(by omega), by simp [hl ▸ hj]⟩
      exact ih j u a hu ha (q2 j a c ha hc)
    · rename_i e; cases e
    · subst hb; exact .agg us cs hl hv hone
  | tup us cs hl hv ih =>
    intro b hb
    unfold subA at hb
    split at hb
    · rename_i e; cases e
    · rename_i e; cases e
    · rename_i e; cases e
      obtain ⟨q1, q2⟩ := subAL_get hb
      refine .tup us _ (hl.trans q1) (fun j u c hu hc => ?_)
      obtain ⟨a, ha⟩ : ∃ a, cs[j]? = some a := by
        have hj : j < us.length := (List.getElem?_eq_some_iff.1 hu).1
        exact ⟨cs[j]'(by omega), by simp [hl ▸ hj]⟩
      exact ih j u a hu ha (q2 j a c ha hc)
    · subst hb; exact .tup us cs hl hv
  | row u id ver v hdr sz hl hle h h1 =>
    intro b hb
    unfold subA at hb
    subst hb
    exact .row u id ver v hdr sz hl hle h h1
  | ptr id b' off hl =>
    intro b hb
    unfold subA at hb
    subst hb
    exact .ptr id b' off hl
  | rptr u id ver v i off hdr sz hl hle h h1 =>
    intro b hb
    unfold subA at hb
    subst hb
    exact .rptr u id ver v i off hdr sz hl hle h h1
  | clo fn us vs fs cs hl hl' hv hv' =>
    intro b hb
    unfold subA at hb
    subst hb
    exact .clo fn us vs fs cs hl hl' hv hv'
  | dead u =>
    intro b hb
    unfold subA at hb
    subst hb
    exact .dead u

def envL : List (Nat × AV) → Env
  | [] => env0
  | (d, v) :: r => upd (envL r) d v
def heapL : List (Nat × Chunk) → AHeap
  | [] => heap0
  | (d, c) :: r => hset (heapL r) d c
theorem envL_nil : envL [] = env0 := rfl
theorem envL_cons (d : Nat) (v : AV) (r : List (Nat × AV)) : envL ((d, v) :: r) = upd (envL r) d v := rfl
theorem heapL_nil : heapL [] = heap0 := rfl
theorem heapL_cons (d : Nat) (c : Chunk) (r : List (Nat × Chunk)) : heapL ((d, c) :: r) = hset (heapL r) d c := rfl
def subE (e : Env) : List (Nat × AV) → Prop
  | [] => True
  | (d, v) :: r => subA (e d) v ∧ subE e r
def subC : Option Chunk → Chunk → Prop
  | some (.box cs), .box ds => subAL cs ds
  | some c, d => c = d
  | none, _ => False
def subH (H : AHeap) : List (Nat × Chunk) → Prop
  | [] => True
  | (d, c) :: r => subC (H d) c ∧ subH H r
def idsE (G : AHeap) : List (Nat × AV) → Prop
  | [] => True
  | (_, v) :: r => idsOk G v ∧ idsE G r
def idsC (G : AHeap) : List (Nat × Chunk) → Prop
  | [] => True
  | (_, .box cs) :: r => idsOkL G cs ∧ idsC G r
  | _ :: r => idsC G r
theorem subE_nil (e : Env) : subE e [] = True := rfl
theorem subE_cons (e : Env) (d : Nat) (v : AV) (r : List (Nat × AV)) : subE e ((d, v) :: r) = (subA (e d) v ∧ subE e r) := rfl
theorem subC_box (cs ds : List AV) : subC (some (.box cs)) (.box ds) = subAL cs ds := rfl
theorem subC_row (v : Nat) (e : TypeId) (sz : Nat) (es : List (List PV)) (v' : Nat) (e' : TypeId) (sz' : Nat) (es' : List (List PV)) : subC (some (.row v e sz es)) (.row v' e' sz' es') = (v = v' ∧ e = e' ∧ sz = sz' ∧ es = es') := by
  simp only [subC, Chunk.row.injEq]
theorem subC_shut (v : Nat) (es : List (List PV)) (v' : Nat) (es' : List (List PV)) : subC (some (.shut v es)) (.shut v' es') = (v = v' ∧ es = es') := by
  simp only [subC, Chunk.shut.injEq]
theorem subH_nil (H : AHeap) : subH H [] = True := rfl
theorem subH_cons (H : AHeap) (d : Nat) (c : Chunk) (r : List (Nat × Chunk)) : subH H ((d, c) :: r) = (subC (H d) c ∧ subH H r) := rfl
theorem idsE_nil (G : AHeap) : idsE G [] = True := rfl
theorem idsE_cons (G : AHeap) (d : Nat) (v : AV) (r : List (Nat × AV)) : idsE G ((d, v) :: r) = (idsOk G v ∧ idsE G r) := rfl
theorem idsC_nil (G : AHeap) : idsC G [] = True := rfl
theorem idsC_box (G : AHeap) (d : Nat) (cs : List AV) (r : List (Nat × Chunk)) : idsC G ((d, .box cs) :: r) = (idsOkL G cs ∧ idsC G r) := rfl
theorem idsC_row (G : AHeap) (d : Nat) (v : Nat) (e : TypeId) (sz : Nat) (es : List (List PV)) (r : List (Nat × Chunk)) : idsC G ((d, .row v e sz es) :: r) = idsC G r := rfl
theorem idsC_shut (G : AHeap) (d : Nat) (v : Nat) (es : List (List PV)) (r : List (Nat × Chunk)) : idsC G ((d, .shut v es) :: r) = idsC G r := rfl
theorem idsOk_p (G : AHeap) (x : PV) : idsOk G (.p x) = True := by simp only [idsOk]
theorem idsOk_row (G : AHeap) (i v : Nat) : idsOk G (.row i v) = (G i ≠ none) := by simp only [idsOk]
theorem idsOk_ptr (G : AHeap) (i v : Nat) : idsOk G (.ptr i v) = (G i ≠ none) := by simp only [idsOk]
theorem idsOk_rptr (G : AHeap) (i v j o : Nat) : idsOk G (.rptr i v j o) = (G i ≠ none) := by simp only [idsOk]
theorem idsOk_agg (G : AHeap) (cs : List AV) : idsOk G (.agg cs) = idsOkL G cs := by simp only [idsOk]
theorem idsOk_tup (G : AHeap) (cs : List AV) : idsOk G (.tup cs) = idsOkL G cs := by simp only [idsOk]
theorem idsOk_clo (G : AHeap) (f : Fn) (fs cs : List AV) : idsOk G (.clo f fs cs) = (idsOkL G fs ∧ idsOkL G cs) := by simp only [idsOk]
theorem idsOkL_nil (G : AHeap) : idsOkL G [] = True := by simp only [idsOkL]
theorem idsOkL_cons (G : AHeap) (a : AV) (r : List AV) : idsOkL G (a :: r) = (idsOk G a ∧ idsOkL G r) := by simp only [idsOkL]
theorem keep0' (H' : AHeap) : KeepHigh heap0 H' = True := eq_true (keep0 H')
theorem keepLow' {H H' : AHeap} {i : Nat} {c : Chunk} (hi : i < 1000000) : KeepHigh (hset H i c) H' = KeepHigh H H' := by
  refine propext ⟨fun h j hj hn => h j hj ?_, keep_low hi⟩
  unfold hset
  rw [if_neg (by omega)]
  exact hn
theorem keepHigh' {H H' : AHeap} {i : Nat} {c : Chunk} (hi : 1000000 ≤ i) : KeepHigh (hset H i c) H' = (H' i ≠ none ∧ KeepHigh H H') := by
  refine propext ⟨fun h => ⟨h i hi (by unfold hset; rw [if_pos rfl]; simp), fun j hj hn => h j hj ?_⟩, fun h => keep_high h.1 h.2⟩
  unfold hset
  split
  · simp
  · exact hn
attribute [go_sem] subA_p subA_row subA_ptr subA_clo subA_rptr subA_agg subA_tup subAL_nil subAL_cons envL_nil envL_cons heapL_nil heapL_cons subE_nil subE_cons subC_box subC_row subC_shut subH_nil subH_cons idsE_nil idsE_cons idsC_nil idsC_box idsC_row idsC_shut
  idsOk_p idsOk_row idsOk_ptr idsOk_rptr idsOk_agg idsOk_tup idsOk_clo idsOkL_nil idsOkL_cons keep0' keepLow' keepHigh'

theorem subE_at {e : Env} : ∀ {l : List (Nat × AV)}, subE e l → ∀ t, envL l t = .dead ∨ subA (e t) (envL l t)
  | [], _, t => .inl rfl
  | (d, v) :: r, h, t => by
    unfold envL upd
    split
    · rename_i ht; subst ht; exact .inr h.1
    · exact subE_at h.2 t
theorem subH_at {H : AHeap} : ∀ {l : List (Nat × Chunk)}, subH H l → ∀ i c', heapL l i = some c' → ∃ c, H i = some c ∧ subC (some c) c'
  | [], _, i, c', h => by cases h
  | (d, v) :: r, h, i, c', hi => by
    unfold heapL hset at hi
    split at hi
    · rename_i ht
      subst ht
      simp only [Option.some.injEq] at hi
      subst hi
      have h1 := h.1
      cases hH : H i with
      | none => rw [hH] at h1; exact h1.elim
      | some c => rw [hH] at h1; exact ⟨c, rfl, h1⟩
    · exact subH_at h.2 i c' hi
theorem idsE_at {G : AHeap} : ∀ {l : List (Nat × AV)}, idsE G l → EnvIds (envL l) G
  | [], _, t => trivial
  | (d, v) :: r, h, t => by
    unfold envL upd
    split
    · exact h.1
    · exact idsE_at h.2 t
theorem idsC_at {G : AHeap} : ∀ {l : List (Nat × Chunk)}, idsC G l → BoxIds (heapL l) G
  | [], _, i, cs, h => by cases h
  | (d, c) :: r, h, i, cs, hi => by
    have hr : idsC G r := by
      cases c with
      | box cs => exact h.2
      | row => exact h
      | shut => exact h
    unfold heapL hset at hi
    split at hi
    · simp only [Option.some.injEq] at hi
      subst hi
      exact h.1
    · exact idsC_at hr i cs hi

theorem weakL {e : Env} {H : AHeap} {l : List (Nat × AV)} {hl : List (Nat × Chunk)} (h : subE e l ∧ subH H hl ∧ idsE (heapL hl) l ∧ idsC (heapL hl) hl ∧ KeepHigh H (heapL hl)) : Weak e H (envL l) (heapL hl) := fun C I L tm w hs => by
  obtain ⟨h1, h2, h3, h4, h5⟩ := h
  have w0 : Weak e H e H := Weak.refl _ _
  refine ⟨I, L.to (heapL hl), ?_⟩
  exact
  { below := hs.below
    mem := hs.mem
    memC := hs.memC
    memN := hs.memN
    frame := hs.frame
    loc := fun i => by
      cases hi : C.L0 i with
      | none => trivial
      | some l0 =>
        have h0 := hs.loc i
        rw [hi] at h0
        have hL : L i ≠ none := by
          cases l0 with
          | box b => intro e; rw [e] at h0; cases h0
          | row v hdr sz =>
            obtain ⟨_, _, h0, _⟩ := h0
            intro e; rw [e] at h0; cases h0
        have hH : H i ≠ none := by
          cases hLi : L i with
          | none => exact absurd hLi hL
          | some l =>
            obtain ⟨c, hc⟩ := hs.dom i l hLi
            rw [hc]; simp
        have e := to_some (L := L) (h5 i (C.hL0 i l0 hi) hH)
        rw [e]
        exact h0
    blkF := fun id l b hl hb => hs.blkF id l b (to_eq hl).1 hb
    size := hs.size
    env := fun t => by
      rcases subE_at h1 t with h | h
      · rw [h]; exact .dead _
      · exact (subA_ok (hs.env t) h).to (idsE_at h3 t)
    dom := fun id l hl => (to_eq hl).2
    chunk := fun id ch hch => by
      obtain ⟨c, hc1, hc2⟩ := subH_at h2 id ch hch
      have hc := hs.chunk id c hc1
      have hid : L.to (heapL hl) id = L id := to_some (by rw [hch]; simp)
      cases c with
      | box cs =>
        cases ch with
        | box ds =>
          have hq : subAL cs ds := hc2
          obtain ⟨q1, q2⟩ := subAL_get hq
          obtain ⟨b, arr, e, g1, g2, g3, g4, g5, g6⟩ := hc
          refine ⟨b, arr, e, hid.trans g1, g2, g3.trans q1, fun j u c hu hc => ?_, g5, g6⟩
          obtain ⟨a, ha⟩ : ∃ a, cs[j]? = some a := by
            have hj : j < arr.size := (Array.getElem?_eq_some_iff.1 hu).1
            exact ⟨cs[j]'(by omega), by simp [g3 ▸ hj]⟩
          exact (subA_ok (g4 j u a hu ha) (q2 j a c ha hc)).to (idsOkL_get (idsC_at h4 id ds hch) j c hc)
        | row => cases hc2
        | shut => cases hc2
      | row ver e sz es =>
        have hq : Chunk.row ver e sz es = ch := by cases ch <;> exact hc2
        subst hq
        obtain ⟨hdr, us, g1, g2⟩ := hc
        exact ⟨hdr, us, hid.trans g1, g2⟩
      | shut ver es =>
        have hq : Chunk.shut ver es = ch := by cases ch <;> exact hc2
        subst hq
        obtain ⟨hdr, sz, g1, g2⟩ := hc
        exact ⟨hdr, sz, hid.trans g1, g2⟩
    blkB := fun id l b hl hb => hs.blkB id l b (to_eq hl).1 hb
    apart := fun i j li lj b hi hj hbi hbj => hs.apart i j li lj b (to_eq hi).1 (to_eq hj).1 hbi hbj }
mutual
theorem pleP_refl : ∀ a : PV, pleP a a
  | .agg a => by rw [pleP_agg]; exact pleL_refl a
  | .tup a => by rw [pleP_tup]; exact pleL_refl a
  | .val v => by rw [pleP_val]
  | .lst a => by rw [pleP_lst]
  | .emp => by simp only [pleP]
  | .eptr _ _ => by simp only [pleP]
  | .clo _ _ _ => by simp only [pleP]
theorem pleL_refl : ∀ a : List PV, pleL a a
  | [] => by unfold pleL; trivial
  | a :: r => by unfold pleL; exact ⟨pleP_refl a, pleL_refl r⟩
end

theorem stPtr_app {env : Env} {d : Option Tmp} {t : TypeId} {pos : String} {af : Array Edge} {g : Option (Nat × Bool)} (a : Nat) (s : Operand) (t1 t2 : TypeId) :
    stPtr ⟨d, .call ⟨.builtin .append, #[.tmp a, s], #[t1, t2]⟩, t, pos, af, g⟩ env = ((∃ v, env a = .row a v) ∧ ∃ x, ev env s = .p x) := rfl
theorem ex_row (i j v : Nat) : (∃ u, AV.row i v = .row j u) = (i = j) := by
  apply propext
  constructor
  · rintro ⟨u, h⟩; cases h; rfl
  · rintro rfl; exact ⟨v, rfl⟩
theorem ex_p (x : PV) : (∃ y, AV.p x = .p y) = True := eq_true ⟨x, rfl⟩
attribute [go_sem] stPtr_app ex_row ex_p exists_eq'
section
variable {P : Program} {env : Env} {H : AHeap} {o : Oper} {W : Env → AHeap → Prop} {k : FuncId} {ps ps' : List PV} {b : Bool}
theorem callfG (id : Nat) {r : RV} (c : CallF P k ps fun x => x = r) (he : callPs o (ev env) H = some (k, ps', b)) (hp : pleL ps' ps) (hb : b = true → r.flat = true)
    (hf : freeN H id ((placeA id r).2 - id)) (hW : W (putA env o.dst (placeA id r).1) (placeH id H r)) : callK P o W env H := callf_go id (c.args (pleL_ok _ _ hp)) he hb hf hW
theorem callfGs (ids : List Nat) (id : Nat) {r : RV} (c : CallF P k ps fun x => x = r) (he : callPs o (ev env) (sealIds ids H) = some (k, ps', b)) (hp : pleL ps' ps) (hb : b = true → r.flat = true)
    (hf : freeN (sealIds ids H) id ((placeA id r).2 - id)) (hW : W (putA env o.dst (placeA id r).1) (placeH id (sealIds ids H) r)) : callK P o W env H := callf_shut ids id (c.args (pleL_ok _ _ hp)) he hb hf hW
end
noncomputable def giv {α : Type} (p : Prop) (x : α) : Option α := open Classical in if p then some x else none
theorem giv_s {α : Type} {p : Prop} {x r : α} (h : giv p x = some r) : p ∧ x = r := by
  unfold giv at h
  split at h
  · exact ⟨by assumption, by simpa using h⟩
  · cases h
end Go.Abs
