/- Joined texts, part 5: lemmas for the statement. No condition. -/
import Derived.Test.YtdlohnchnneaeaaGreatJ4
import Derived.Test.YtdlohnchnneaeaaGreatJ2
import Derived.ProofKit
import Derived.SizedLaws
import Derived.Carry
import Derived.Test.YtdlohnchnneaeaaGreatRows
set_option linter.unusedSimpArgs false
set_option linter.unusedVariables false
open Nat (reduceEqDiff reduceLT reduceLeDiff reduceMul reduceAdd reduceSub)
/- Layer 52's reference: Links. -/
namespace Go.Proofs.YtdlohnchnneaeaaGreat
open Go.Abs

theorem leads_ok' (g : Graph) (he : g.edges.length ≤ 1000000) (a b : Int) : CallV Go.Proofs.Tryz.prog 36 [.agg [.lst (g.nodes.map encI), .lst (g.edges.map encEdge)], .val (.int .i64 a), .val (.int .i64 b)] (fun r => r = .val (.bool (leadsB g a b))) :=
  leads_ok g.nodes g.edges he a b

set_option maxHeartbeats 4000000 in
theorem RLinks_ok (t : Types) (hf : FewT t) (s : Sorts) (hs : FewS s) (h : Host) (hh : FewH h) (hok : validTr t s h = 0 → OkTr s h.graph) :
    CallV Go.Proofs.Tryz.prog 12 [encTypes t, encSorts s, encHost h] (fun r => r = .tup [.lst ((linksE t s h).1.map encPair), .val (.int .i64 (linksE t s h).2)]) := by
  refine CallV.le (Q := fun r => (validTr t s h = 0 ∧ r = .tup [.lst ((linksR s h.graph).map encPair), .val (.int .i64 0)]) ∨ (validTr t s h ≠ 0 ∧ r = .tup [.val (.slice none 0 0), .val (.int .i64 (validTr t s h))])) ?_ ?_
  case refine_2 =>
    rintro r (⟨h1, rfl⟩ | ⟨h1, rfl⟩)
    · unfold linksE; rw [if_neg (by rw [h1]; decide)]
      exact ⟨_, PLe.refl _, rfl⟩
    · unfold linksE; rw [if_pos h1]
      exact ⟨.tup [.lst [], .val (.int .i64 (validTr t s h))], .tup ⟨.nil, .refl _, trivial⟩, rfl⟩
  refine callV_of_cw [102] Ty.mixed Go.Proofs.Tryz.func12 rfl (by kernel_rfl) (by simp [Go.Proofs.Tryz.ntmps12]) ?_; rw [Go.Proofs.Tryz.ntmps12, Go.Proofs.Tryz.results12]
  
  simp -implicitDefEqProofs only [go_sem, reduceEqDiff, reduceLT, reduceLeDiff, reduceMul, reduceAdd, reduceIte, reduceCtorEq, Nat.reduceBEq, reduceSub, Int.reduceToNat, encTypes, encSorts, encHost, encInts]
  refine call_go (rtrvalid_ok t hf s hs h hh) (by simp -implicitDefEqProofs only [go_sem, reduceEqDiff, reduceLT, reduceLeDiff, reduceMul, reduceAdd, reduceIte, reduceCtorEq, Nat.reduceBEq, reduceSub, Int.reduceToNat, encTypes, encSorts, encHost, encInts] <;> rfl) (scal rfl) ?_
  simp -implicitDefEqProofs only [go_sem, reduceEqDiff, reduceLT, reduceLeDiff, reduceMul, reduceAdd, reduceIte, reduceCtorEq, Nat.reduceBEq, reduceSub, Int.reduceToNat, encTypes, encSorts, encHost, encInts]
  refine condC_splitN (fun h1 => ?_) (fun h1 => ?_) <;> simp -implicitDefEqProofs only [go_sem, reduceEqDiff, reduceLT, reduceLeDiff, reduceMul, reduceAdd, reduceIte, reduceCtorEq, Nat.reduceBEq, reduceSub, Int.reduceToNat, encTypes, encSorts, encHost, encInts]
  case refine_2 =>
    have h1' := of_decide_eq_false h1
    simp [h1']
  have h1' := of_decide_eq_true h1
  have ho := hok h1'
  have hgn := ho.nodes
  have hge := ho.edges
  refine draw_txt [.o, .o, .o, .o, .o, .o, .o, .o, .o, .o, .o, .o, .w, .w, .w, .s, .s, .s] (by kernel_rfl) ?_
  simp -implicitDefEqProofs only [go_sem, reduceEqDiff, reduceLT, reduceLeDiff, reduceMul, reduceAdd, reduceIte, reduceCtorEq, Nat.reduceBEq, reduceSub, Int.reduceToNat, encTypes, encSorts, encHost, encInts]
  have hP := fun k => Part_ok s h.graph ho k
  unfold encSorts encGraph encInts encPart encInts at hP
  refine callo_go (hP 1) (by simp -implicitDefEqProofs only [go_sem, reduceEqDiff, reduceLT, reduceLeDiff, reduceMul, reduceAdd, reduceIte, reduceCtorEq, Nat.reduceBEq, reduceSub, Int.reduceToNat, encTypes, encSorts, encHost, encInts] <;> rfl) (pers) ?_
  simp -implicitDefEqProofs only [go_sem, reduceEqDiff, reduceLT, reduceLeDiff, reduceMul, reduceAdd, reduceIte, reduceCtorEq, Nat.reduceBEq, reduceSub, Int.reduceToNat, encTypes, encSorts, encHost, encInts]
  refine callo_go (hP 2) (by simp -implicitDefEqProofs only [go_sem, reduceEqDiff, reduceLT, reduceLeDiff, reduceMul, reduceAdd, reduceIte, reduceCtorEq, Nat.reduceBEq, reduceSub, Int.reduceToNat, encTypes, encSorts, encHost, encInts] <;> rfl) (pers) ?_
  simp -implicitDefEqProofs only [go_sem, reduceEqDiff, reduceLT, reduceLeDiff, reduceMul, reduceAdd, reduceIte, reduceCtorEq, Nat.reduceBEq, reduceSub, Int.reduceToNat, encTypes, encSorts, encHost, encInts]
  refine callo_go (hP 3) (by simp -implicitDefEqProofs only [go_sem, reduceEqDiff, reduceLT, reduceLeDiff, reduceMul, reduceAdd, reduceIte, reduceCtorEq, Nat.reduceBEq, reduceSub, Int.reduceToNat, encTypes, encSorts, encHost, encInts] <;> rfl) (pers) ?_
  simp -implicitDefEqProofs only [go_sem, reduceEqDiff, reduceLT, reduceLeDiff, reduceMul, reduceAdd, reduceIte, reduceCtorEq, Nat.reduceBEq, reduceSub, Int.reduceToNat, encTypes, encSorts, encHost, encInts]
  have hS : (partX s h.graph 1).nodes.length ≤ 40 := Nat.le_trans (pick_len _ _) hgn
  have hM : (partX s h.graph 2).nodes.length ≤ 40 := Nat.le_trans (pick_len _ _) hgn
  have hT : (partX s h.graph 3).nodes.length ≤ 40 := Nat.le_trans (pick_len _ _) hgn
  have hlR : linksR s h.graph = linksL h.graph (partX s h.graph 1).nodes (partX s h.graph 2).nodes (partX s h.graph 3).nodes := rfl
  rw [hlR]
  clear hlR hP
  have hbig : ∀ S' : List Int, S'.length ≤ 40 → (linksL h.graph S' (partX s h.graph 2).nodes (partX s h.graph 3).nodes).length ≤ 1600 := fun S' h' =>
    Nat.le_trans (linksL_len _ _ _ _) (Nat.mul_le_mul h' hT)
  have hbig2 : ∀ (T' : List Int) (a : Int), T'.length ≤ 40 → (linkR h.graph (partX s h.graph 2).nodes T' a).length ≤ 40 := fun T' a h' => Nat.le_trans (linkR_len _ _ _ _) h'
  generalize (partX s h.graph 1).edges = S', (partX s h.graph 2).edges = M', (partX s h.graph 3).edges = T'
  generalize (partX s h.graph 1).nodes = S, (partX s h.graph 2).nodes = M, (partX s h.graph 3).nodes = T at *
  refine loop_rule (σ := Nat × Nat) (fun x => (upd (upd (upd (upd (upd (upd env0 5 (.ptr 5 0)) 9 (.row 9 x.2)) 10 (.ptr 10 0)) 11 (.ptr 11 0)) 12 (.ptr 12 0)) 13 (.p (.val (.int .i64 x.1)))))
    (fun x => (hset (hset (hset (hset (hset heap0 5 (.box [.p (.lst (h.graph.nodes.map encI)), .p (.lst (h.graph.edges.map encEdge)), .p (.lst (h.values.map encRow))])) 10 (.box [.p (.lst (S.map encI)), .p (.lst (S'.map encI))])) 11 (.box [.p (.lst (M.map encI)), .p (.lst (M'.map encI))])) 12 (.box [.p (.lst (T.map encI)), .p (.lst (T'.map encI))])) 9 (.row x.2 45 2 ((linksL h.graph (S.take x.1) M T).map encPair))))
    (fun x => x.1 ≤ S.length) (fun x => S.length - x.1) (0, 0) (Nat.zero_le _) ((weak_nil 9 9 45 2 rfl rfl (by decide)).trans (weak_mk (by repeat (first | exact sub_env0 _ | refine sub_upd ?_ (by first | rfl | simp [upd]))) (by repeat (first | exact hsub0 _ | refine hsub_hset ?_ (by first | rfl | simp [hset]))) (by repeat (first | exact ids_env0 _ | refine ids_upd ?_ (by simp [idsOk, idsOkL, hset]))) (by repeat (first | exact boxIds0 _ | refine boxIds_row ?_ | refine boxIds_shut ?_ | refine boxIds_box ?_ (by simp [idsOk, idsOkL, hset]))) (by repeat (first | exact keep0 _ | refine keep_low (by decide) ?_ | refine keep_high (by simp [hset]) ?_)))) ?_
  rintro ⟨x, v⟩ hx
  simp only at hx
  simp -implicitDefEqProofs only [go_sem, reduceEqDiff, reduceLT, reduceLeDiff, reduceMul, reduceAdd, reduceIte, reduceCtorEq, Nat.reduceBEq, reduceSub, Int.reduceToNat, encTypes, encSorts, encHost, encInts]
  refine condC_split (fun hc => ?_) (fun hc => ?_)
  · have hx1 : x < S.length := by have := of_decide_eq_true hc; omega
    have hbx := hbig (S.take x) (by rw [List.length_take]; omega)
    simp -implicitDefEqProofs only [go_sem, reduceEqDiff, reduceLT, reduceLeDiff, reduceMul, reduceAdd, reduceIte, reduceCtorEq, Nat.reduceBEq, reduceSub, Int.reduceToNat, encTypes, encSorts, encHost, encInts]
    refine loop_rule (σ := Nat × Nat) (fun y => (upd (upd (upd (upd (upd (upd (upd env0 5 (.ptr 5 0)) 9 (.row 9 y.2)) 10 (.ptr 10 0)) 11 (.ptr 11 0)) 12 (.ptr 12 0)) 13 (.p (.val (.int .i64 x)))) 14 (.p (.val (.int .i64 y.1)))))
      (fun y => (hset (hset (hset (hset (hset heap0 5 (.box [.p (.lst (h.graph.nodes.map encI)), .p (.lst (h.graph.edges.map encEdge)), .p (.lst (h.values.map encRow))])) 10 (.box [.p (.lst (S.map encI)), .p (.lst (S'.map encI))])) 11 (.box [.p (.lst (M.map encI)), .p (.lst (M'.map encI))])) 12 (.box [.p (.lst (T.map encI)), .p (.lst (T'.map encI))])) 9 (.row y.2 45 2 ((linksL h.graph (S.take x) M T ++ linkR h.graph M (T.take y.1) (S.getD x default)).map encPair))))
      (fun y => y.1 ≤ T.length) (fun y => T.length - y.1) (0, v) (Nat.zero_le _) (by rw [show linkR h.graph M (T.take 0) (S.getD x default) = [] from rfl, List.append_nil]; exact (weak_mk (by repeat (first | exact sub_env0 _ | refine sub_upd ?_ (by first | rfl | simp [upd]))) (by repeat (first | exact hsub0 _ | refine hsub_hset ?_ (by first | rfl | simp [hset]))) (by repeat (first | exact ids_env0 _ | refine ids_upd ?_ (by simp [idsOk, idsOkL, hset]))) (by repeat (first | exact boxIds0 _ | refine boxIds_row ?_ | refine boxIds_shut ?_ | refine boxIds_box ?_ (by simp [idsOk, idsOkL, hset]))) (by repeat (first | exact keep0 _ | refine keep_low (by decide) ?_ | refine keep_high (by simp [hset]) ?_)))) ?_
    rintro ⟨y, u⟩ hy
    simp only at hy
    simp -implicitDefEqProofs only [go_sem, reduceEqDiff, reduceLT, reduceLeDiff, reduceMul, reduceAdd, reduceIte, reduceCtorEq, Nat.reduceBEq, reduceSub, Int.reduceToNat, encTypes, encSorts, encHost, encInts]
    refine condC_split (fun hc2 => ?_) (fun hc2 => ?_)
    · have hy1 : y < T.length := by have := of_decide_eq_true hc2; omega
      have hby := hbig2 (T.take y) (S.getD x default) (by rw [List.length_take]; omega)
      have hR := linkR_succ h.graph M T (S.getD x default) y hy1
      simp -implicitDefEqProofs only [go_sem, reduceEqDiff, reduceLT, reduceLeDiff, reduceMul, reduceAdd, reduceIte, reduceCtorEq, Nat.reduceBEq, reduceSub, Int.reduceToNat, encTypes, encSorts, encHost, encInts]
      refine loop_rule (σ := Nat) (fun z => (upd (upd (upd (upd (upd (upd (upd (upd (upd env0 5 (.ptr 5 0)) 9 (.row 9 u)) 10 (.ptr 10 0)) 11 (.ptr 11 0)) 12 (.ptr 12 0)) 13 (.p (.val (.int .i64 x)))) 14 (.p (.val (.int .i64 y)))) 15 (.p (.val (.bool ((M.take z).any (midB h.graph (S.getD x default) (T.getD y default))))))) 16 (.p (.val (.int .i64 z)))))
        (fun z => (hset (hset (hset (hset (hset heap0 5 (.box [.p (.lst (h.graph.nodes.map encI)), .p (.lst (h.graph.edges.map encEdge)), .p (.lst (h.values.map encRow))])) 10 (.box [.p (.lst (S.map encI)), .p (.lst (S'.map encI))])) 11 (.box [.p (.lst (M.map encI)), .p (.lst (M'.map encI))])) 12 (.box [.p (.lst (T.map encI)), .p (.lst (T'.map encI))])) 9 (.row u 45 2 ((linksL h.graph (S.take x) M T ++ linkR h.graph M (T.take y) (S.getD x default)).map encPair))))
        (fun z => z ≤ M.length) (fun z => M.length - z) 0 (Nat.zero_le _) (weak_mk (by repeat (first | exact sub_env0 _ | refine sub_upd ?_ (by first | rfl | simp [upd]))) (by repeat (first | exact hsub0 _ | refine hsub_hset ?_ (by first | rfl | simp [hset]))) (by repeat (first | exact ids_env0 _ | refine ids_upd ?_ (by simp [idsOk, idsOkL, hset]))) (by repeat (first | exact boxIds0 _ | refine boxIds_row ?_ | refine boxIds_shut ?_ | refine boxIds_box ?_ (by simp [idsOk, idsOkL, hset]))) (by repeat (first | exact keep0 _ | refine keep_low (by decide) ?_ | refine keep_high (by simp [hset]) ?_))) ?_
      rintro z hz
      simp -implicitDefEqProofs only [go_sem, reduceEqDiff, reduceLT, reduceLeDiff, reduceMul, reduceAdd, reduceIte, reduceCtorEq, Nat.reduceBEq, reduceSub, Int.reduceToNat, encTypes, encSorts, encHost, encInts]
      refine condC_split (fun hc3 => ?_) (fun hc3 => ?_)
      · have hz1 : z < M.length := by have := of_decide_eq_true hc3; omega
        have hA := any_take_succ (midB h.graph (S.getD x default) (T.getD y default)) M z hz1
        
        cases hb : (M.take z).any (midB h.graph (S.getD x default) (T.getD y default)) with
        | true =>
          rw [hb, Bool.true_or] at hA
          simp -implicitDefEqProofs only [go_sem, reduceEqDiff, reduceLT, reduceLeDiff, reduceMul, reduceAdd, reduceIte, reduceCtorEq, Nat.reduceBEq, reduceSub, Int.reduceToNat, hb, encTypes, encSorts, encHost, encInts, getD_map encI hx1, hx1, getD_map encI hy1, hy1, getD_map encI hz1, hz1, encI]
          refine draw_txt [.q, .q, .q, .q, .q, .q, .q, .q, .q, .q, .q, .q, .q, .q, .q, .q, .q, .q, .q, .q, .q, .q, .q, .q, .q, .q, .q, .q, .q, .q, .q, .q] (by kernel_rfl) ?_
          simp -implicitDefEqProofs only [go_sem, reduceEqDiff, reduceLT, reduceLeDiff, reduceMul, reduceAdd, reduceIte, reduceCtorEq, Nat.reduceBEq, reduceSub, Int.reduceToNat, hb, encTypes, encSorts, encHost, encInts, getD_map encI hx1, hx1, getD_map encI hy1, hy1, getD_map encI hz1, hz1, encI]
          refine loopN_mk (z + 1) hz1 (by omega) ?_
          rw [wrap_succ hz1 (by omega), hA]
          exact (weak_mk (by repeat (first | exact sub_env0 _ | refine sub_upd ?_ (by first | rfl | simp [upd]))) (by repeat (first | exact hsub0 _ | refine hsub_hset ?_ (by first | rfl | simp [hset]))) (by repeat (first | exact ids_env0 _ | refine ids_upd ?_ (by simp [idsOk, idsOkL, hset]))) (by repeat (first | exact boxIds0 _ | refine boxIds_row ?_ | refine boxIds_shut ?_ | refine boxIds_box ?_ (by simp [idsOk, idsOkL, hset]))) (by repeat (first | exact keep0 _ | refine keep_low (by decide) ?_ | refine keep_high (by simp [hset]) ?_)))
        | false =>
          rw [hb, Bool.false_or] at hA
          simp -implicitDefEqProofs only [go_sem, reduceEqDiff, reduceLT, reduceLeDiff, reduceMul, reduceAdd, reduceIte, reduceCtorEq, Nat.reduceBEq, reduceSub, Int.reduceToNat, hb, encTypes, encSorts, encHost, encInts, getD_map encI hx1, hx1, getD_map encI hy1, hy1, getD_map encI hz1, hz1, encI]
          refine draw_txt [.q, .q, .q, .q, .q, .q, .q, .q, .q, .q, .q, .q, .q, .q, .q, .q, .q, .q, .q, .q, .q, .q, .q, .q, .q, .q, .q, .q, .q, .q, .q, .q] (by kernel_rfl) ?_
          simp -implicitDefEqProofs only [go_sem, reduceEqDiff, reduceLT, reduceLeDiff, reduceMul, reduceAdd, reduceIte, reduceCtorEq, Nat.reduceBEq, reduceSub, Int.reduceToNat, hb, encTypes, encSorts, encHost, encInts, getD_map encI hx1, hx1, getD_map encI hy1, hy1, getD_map encI hz1, hz1, encI]
          refine calld_go (leads_ok' h.graph (by omega) (M.getD z default) (S.getD x default)) (by simp -implicitDefEqProofs only [go_sem, reduceEqDiff, reduceLT, reduceLeDiff, reduceMul, reduceAdd, reduceIte, reduceCtorEq, Nat.reduceBEq, reduceSub, Int.reduceToNat, encTypes, encSorts, encHost, encInts, getD_map encI hx1, hx1, getD_map encI hy1, hy1, getD_map encI hz1, hz1, encI] <;> rfl) (scal rfl) ?_
          simp -implicitDefEqProofs only [go_sem, reduceEqDiff, reduceLT, reduceLeDiff, reduceMul, reduceAdd, reduceIte, reduceCtorEq, Nat.reduceBEq, reduceSub, Int.reduceToNat, hb, encTypes, encSorts, encHost, encInts, getD_map encI hx1, hx1, getD_map encI hy1, hy1, getD_map encI hz1, hz1, encI]
          cases hl : leadsB h.graph (M.getD z default) (S.getD x default) with
          | false =>
            have hm : midB h.graph (S.getD x default) (T.getD y default) (M.getD z default) = false := by unfold midB; rw [hl, Bool.false_and]
            rw [hm] at hA
            simp -implicitDefEqProofs only [go_sem, reduceEqDiff, reduceLT, reduceLeDiff, reduceMul, reduceAdd, reduceIte, reduceCtorEq, Nat.reduceBEq, reduceSub, Int.reduceToNat, hb, hl, encTypes, encSorts, encHost, encInts, getD_map encI hx1, hx1, getD_map encI hy1, hy1, getD_map encI hz1, hz1, encI]
            refine loopN_mk (z + 1) hz1 (by omega) ?_
            rw [wrap_succ hz1 (by omega), hA]
            exact (weak_mk (by repeat (first | exact sub_env0 _ | refine sub_upd ?_ (by first | rfl | simp [upd]))) (by repeat (first | exact hsub0 _ | refine hsub_hset ?_ (by first | rfl | simp [hset]))) (by repeat (first | exact ids_env0 _ | refine ids_upd ?_ (by simp [idsOk, idsOkL, hset]))) (by repeat (first | exact boxIds0 _ | refine boxIds_row ?_ | refine boxIds_shut ?_ | refine boxIds_box ?_ (by simp [idsOk, idsOkL, hset]))) (by repeat (first | exact keep0 _ | refine keep_low (by decide) ?_ | refine keep_high (by simp [hset]) ?_)))
          | true =>
            have hm : midB h.graph (S.getD x default) (T.getD y default) (M.getD z default) = leadsB h.graph (M.getD z default) (T.getD y default) := by unfold midB; rw [hl, Bool.true_and]
            rw [hm] at hA
            simp -implicitDefEqProofs only [go_sem, reduceEqDiff, reduceLT, reduceLeDiff, reduceMul, reduceAdd, reduceIte, reduceCtorEq, Nat.reduceBEq, reduceSub, Int.reduceToNat, hb, hl, encTypes, encSorts, encHost, encInts, getD_map encI hx1, hx1, getD_map encI hy1, hy1, getD_map encI hz1, hz1, encI]
            refine calld_go (leads_ok' h.graph (by omega) (M.getD z default) (T.getD y default)) (by simp -implicitDefEqProofs only [go_sem, reduceEqDiff, reduceLT, reduceLeDiff, reduceMul, reduceAdd, reduceIte, reduceCtorEq, Nat.reduceBEq, reduceSub, Int.reduceToNat, encTypes, encSorts, encHost, encInts, getD_map encI hx1, hx1, getD_map encI hy1, hy1, getD_map encI hz1, hz1, encI] <;> rfl) (scal rfl) ?_
            simp -implicitDefEqProofs only [go_sem, reduceEqDiff, reduceLT, reduceLeDiff, reduceMul, reduceAdd, reduceIte, reduceCtorEq, Nat.reduceBEq, reduceSub, Int.reduceToNat, hb, hl, encTypes, encSorts, encHost, encInts, getD_map encI hx1, hx1, getD_map encI hy1, hy1, getD_map encI hz1, hz1, encI]
            refine loopN_mk (z + 1) hz1 (by omega) ?_
            rw [wrap_succ hz1 (by omega), hA]
            exact (weak_mk (by repeat (first | exact sub_env0 _ | refine sub_upd ?_ (by first | rfl | simp [upd]))) (by repeat (first | exact hsub0 _ | refine hsub_hset ?_ (by first | rfl | simp [hset]))) (by repeat (first | exact ids_env0 _ | refine ids_upd ?_ (by simp [idsOk, idsOkL, hset]))) (by repeat (first | exact boxIds0 _ | refine boxIds_row ?_ | refine boxIds_shut ?_ | refine boxIds_box ?_ (by simp [idsOk, idsOkL, hset]))) (by repeat (first | exact keep0 _ | refine keep_low (by decide) ?_ | refine keep_high (by simp [hset]) ?_)))
      · have hz0 : M.length ≤ z := by have := of_decide_eq_false hc3; omega
        have hze : M.take z = M := List.take_of_length_le hz0
        rw [hze]
        have hk : M.any (midB h.graph (S.getD x default) (T.getD y default)) = linkB h.graph M (S.getD x default) (T.getD y default) := rfl
        rw [hk]
        simp -implicitDefEqProofs only [go_sem, reduceEqDiff, reduceLT, reduceLeDiff, reduceMul, reduceAdd, reduceIte, reduceCtorEq, Nat.reduceBEq, reduceSub, Int.reduceToNat, encTypes, encSorts, encHost, encInts]
        refine condC_split (fun h5 => ?_) (fun h5 => ?_) <;> simp -implicitDefEqProofs only [go_sem, reduceEqDiff, reduceLT, reduceLeDiff, reduceMul, reduceAdd, reduceIte, reduceCtorEq, Nat.reduceBEq, reduceSub, Int.reduceToNat, encTypes, encSorts, encHost, encInts]
        · rw [if_pos h5] at hR
          
          refine draw_txt [.p, .p, .b, .p, .p, .b, .p, .b, .p, .p, .b, .p, .w, .w, .q] (by kernel_rfl) ?_
          simp -implicitDefEqProofs only [go_sem, reduceEqDiff, reduceLT, reduceLeDiff, reduceMul, reduceAdd, reduceIte, reduceCtorEq, Nat.reduceBEq, reduceSub, Int.reduceToNat, encTypes, encSorts, encHost, encInts, getD_map encI hx1, hx1, getD_map encI hy1, hy1, encI]
          have hcat : List.map encPair (linksL h.graph (S.take x) M T ++ linkR h.graph M (T.take y) (S.getD x default)) ++ [[PV.val (.int .i64 (S.getD x default)), PV.val (.int .i64 (T.getD y default))]]
              = (linksL h.graph (S.take x) M T ++ linkR h.graph M (T.take (y + 1)) (S.getD x default)).map encPair := by
            rw [hR, ← List.append_assoc, List.map_append (l₁ := linksL h.graph (S.take x) M T ++ linkR h.graph M (T.take y) (S.getD x default))]
            try rfl
          refine ⟨by omega, loopN_mk (y + 1, u + 1) hy1 (by dsimp only; omega) ?_⟩
          rw [wrap_succ hy1 (by omega), hcat]
          exact (weak_mk (by repeat (first | exact sub_env0 _ | refine sub_upd ?_ (by first | rfl | simp [upd]))) (by repeat (first | exact hsub0 _ | refine hsub_hset ?_ (by first | rfl | simp [hset]))) (by repeat (first | exact ids_env0 _ | refine ids_upd ?_ (by simp [idsOk, idsOkL, hset]))) (by repeat (first | exact boxIds0 _ | refine boxIds_row ?_ | refine boxIds_shut ?_ | refine boxIds_box ?_ (by simp [idsOk, idsOkL, hset]))) (by repeat (first | exact keep0 _ | refine keep_low (by decide) ?_ | refine keep_high (by simp [hset]) ?_)))
        · rw [if_neg (by rw [h5]; decide)] at hR
          refine loopN_mk (y + 1, u) hy1 (by dsimp only; omega) ?_
          rw [wrap_succ hy1 (by omega), hR]
          exact (weak_mk (by repeat (first | exact sub_env0 _ | refine sub_upd ?_ (by first | rfl | simp [upd]))) (by repeat (first | exact hsub0 _ | refine hsub_hset ?_ (by first | rfl | simp [hset]))) (by repeat (first | exact ids_env0 _ | refine ids_upd ?_ (by simp [idsOk, idsOkL, hset]))) (by repeat (first | exact boxIds0 _ | refine boxIds_row ?_ | refine boxIds_shut ?_ | refine boxIds_box ?_ (by simp [idsOk, idsOkL, hset]))) (by repeat (first | exact keep0 _ | refine keep_low (by decide) ?_ | refine keep_high (by simp [hset]) ?_)))
    · have hy0 : T.length ≤ y := by have := of_decide_eq_false hc2; omega
      have hye : T.take y = T := List.take_of_length_le hy0
      simp -implicitDefEqProofs only [go_sem, reduceEqDiff, reduceLT, reduceLeDiff, reduceMul, reduceAdd, reduceIte, reduceCtorEq, Nat.reduceBEq, reduceSub, Int.reduceToNat, encTypes, encSorts, encHost, encInts]
      refine loopN_mk (x + 1, u) hx1 (by dsimp only; omega) ?_
      rw [wrap_succ hx1 (by omega), linksL_succ h.graph S M T x hx1, hye]
      exact (weak_mk (by repeat (first | exact sub_env0 _ | refine sub_upd ?_ (by first | rfl | simp [upd]))) (by repeat (first | exact hsub0 _ | refine hsub_hset ?_ (by first | rfl | simp [hset]))) (by repeat (first | exact ids_env0 _ | refine ids_upd ?_ (by simp [idsOk, idsOkL, hset]))) (by repeat (first | exact boxIds0 _ | refine boxIds_row ?_ | refine boxIds_shut ?_ | refine boxIds_box ?_ (by simp [idsOk, idsOkL, hset]))) (by repeat (first | exact keep0 _ | refine keep_low (by decide) ?_ | refine keep_high (by simp [hset]) ?_)))
  · have hx0 : S.length ≤ x := by have := of_decide_eq_false hc; omega
    simp -implicitDefEqProofs only [go_sem, reduceEqDiff, reduceLT, reduceLeDiff, reduceMul, reduceAdd, reduceIte, reduceCtorEq, Nat.reduceBEq, reduceSub, Int.reduceToNat, encTypes, encSorts, encHost, encInts]
    rw [List.take_of_length_le hx0]
    simp [h1']
end Go.Proofs.YtdlohnchnneaeaaGreat
/- Layer 52: Links. -/
namespace Go.Proofs.YtdlohnchnneaeaaGreat
open Go.Abs

theorem link1' {s : Sorts} {g : Graph} (ho : OkTr s g) (n : Int) (hn : inR n g.nodes.length) :
    CallV Go.Proofs.Tryz.prog 32 [.val (.int .i64 n), .eptr [.lst (s.nodes.map encI), .lst (s.edges.map encI)] 0, .eptr [.lst (g.nodes.map encI), .lst (g.edges.map encEdge)] 0] (fun r => r = .val (.int .i64 (nodeI s g n))) := by
  obtain ⟨i, rfl⟩ : ∃ i : Nat, n = i := ⟨_, (Int.toNat_of_nonneg hn.1).symm⟩
  have hi : i < g.nodes.length := by have := hn.2; omega
  obtain ⟨k, hk⟩ : ∃ k : Nat, g.nodes.getD i default = k := ⟨_, (Int.toNat_of_nonneg (ho.kind i hi).1).symm⟩
  have hks : k < s.nodes.length := by have := (ho.kind i hi).2; rw [hk] at this; omega
  have h := link1_ok s g.nodes g.edges i k hi hk hks
  have e : nodeI s g i = s.nodes.getD k default := by unfold nodeI nodeS; rw [Int.toNat_natCast, hk, Int.toNat_natCast]
  rw [e]
  exact h

theorem sort_out {s : Sorts} {g : Graph} (ho : OkTr s g) {out : List GPair} (h : Inv s g out g.edges.length 0) (v : Nat) : CallM Go.Proofs.Tryz.prog 33 v 45 2 (out.map encPair) [.clo (.func 34) [] []]
    (fun a c => a = .tup [] ∧ c = some (.row v 45 2 ((linksR s g).map encPair))) := by
  have hn := ho.nodes
  have hok : ∀ p, p ∈ out → okP p := fun p hp => by
    obtain ⟨x, hx, y, hy, _, rfl⟩ := (h.done p).1 hp
    have h1 := (ends_of ho hx).2
    have h2 := (ends_of ho hy).2
    unfold inR at h1 h2
    unfold okP
    simp only
    omega
  have e1 : (out.pmap (fun p hp => (⟨p, hp⟩ : SP)) hok).map (·.1) = out := by
    rw [List.map_pmap]
    simp
  have e2 : ∀ l : List SP, l.map (fun x => encPair x.1) = (l.map (·.1)).map encPair := fun l => by rw [List.map_map]; try rfl
  have hl : (out.pmap (fun p hp => (⟨p, hp⟩ : SP)) hok).length ≤ 1000000 := by
    rw [List.length_pmap]
    have := h.len
    have := ho.edges
    omega
  have hs := sortPair_ok (out.pmap (fun p hp => (⟨p, hp⟩ : SP)) hok) hl v
  rw [e2, e2, e1, sort_links ho _ (by rw [e1]; exact h.nodup) (by rw [e1]; exact h.done) _ (fun x y => by
    rw [Bool.not_eq_true', Go.Proofs.ltOf, decide_eq_false_iff_not, cmpS_lt])] at hs
  exact hs

set_option maxHeartbeats 4000000 in
theorem Links_ok (t : Types) (hf : FewT t) (s : Sorts) (hs : FewS s) (h : Host) (hh : FewH h) :
    CallV Go.Proofs.Tryz.prog 11 [encTypes t, encSorts s, encHost h] (fun r => r = .tup [.lst ((linksE t s h).1.map encPair), .val (.int .i64 (linksE t s h).2)]) := by
  refine CallV.le (Q := fun r => (validTr t s h = 0 ∧ r = .tup [.lst ((linksR s h.graph).map encPair), .val (.int .i64 0)]) ∨ (validTr t s h ≠ 0 ∧ r = .tup [.val (.slice none 0 0), .val (.int .i64 (validTr t s h))])) ?_ ?_
  case refine_2 =>
    rintro r (⟨h1, rfl⟩ | ⟨h1, rfl⟩)
    · unfold linksE; rw [if_neg (by rw [h1]; decide)]
      exact ⟨_, PLe.refl _, rfl⟩
    · unfold linksE; rw [if_pos h1]
      exact ⟨.tup [.lst [], .val (.int .i64 (validTr t s h))], .tup ⟨.nil, .refl _, trivial⟩, rfl⟩
  refine callV_of_cw [81] Ty.mixed Go.Proofs.Tryz.func11 rfl (by kernel_rfl) (by simp [Go.Proofs.Tryz.ntmps11]) ?_; rw [Go.Proofs.Tryz.ntmps11, Go.Proofs.Tryz.results11]
  
  simp -implicitDefEqProofs only [go_sem, reduceEqDiff, reduceLT, reduceLeDiff, reduceMul, reduceAdd, reduceIte, reduceCtorEq, Nat.reduceBEq, reduceSub, Int.reduceToNat, encTypes, encSorts, encHost, encInts]
  refine call_go (trvalid_ok t hf s hs h hh) (by simp -implicitDefEqProofs only [go_sem, reduceEqDiff, reduceLT, reduceLeDiff, reduceMul, reduceAdd, reduceIte, reduceCtorEq, Nat.reduceBEq, reduceSub, Int.reduceToNat, encTypes, encSorts, encHost, encInts] <;> rfl) (scal rfl) ?_
  simp -implicitDefEqProofs only [go_sem, reduceEqDiff, reduceLT, reduceLeDiff, reduceMul, reduceAdd, reduceIte, reduceCtorEq, Nat.reduceBEq, reduceSub, Int.reduceToNat, encTypes, encSorts, encHost, encInts]
  refine condC_splitN (fun h1 => ?_) (fun h1 => ?_) <;> simp -implicitDefEqProofs only [go_sem, reduceEqDiff, reduceLT, reduceLeDiff, reduceMul, reduceAdd, reduceIte, reduceCtorEq, Nat.reduceBEq, reduceSub, Int.reduceToNat, encTypes, encSorts, encHost, encInts]
  case refine_2 =>
    have h1' := of_decide_eq_false h1
    simp [h1']
  have h1' := of_decide_eq_true h1
  have ho := okTr h1'
  have hgn := ho.nodes
  have hge := ho.edges
  refine loop_rule (σ := Nat × Nat × List GPair) (fun x => (upd (upd (upd (upd (upd (upd (upd env0 4 (.ptr 4 0)) 9 (.ptr 9 0)) 10 (.clo (.func 32) [] [.ptr 4 0, .ptr 9 0])) 11 (.row 11 x.2.1)) 28 (.p (.lst (h.graph.edges.map encEdge)))) 29 (.p (.val (.int .i64 h.graph.edges.length)))) 30 (.p (.val (.int .i64 x.1)))))
    (fun x => (hset (hset (hset heap0 4 (.box [.p (.lst (s.nodes.map encI)), .p (.lst (s.edges.map encI))])) 9 (.box [.p (.lst (h.graph.nodes.map encI)), .p (.lst (h.graph.edges.map encEdge))])) 11 (.row x.2.1 45 2 (x.2.2.map encPair))))
    (fun x => x.1 ≤ h.graph.edges.length ∧ Inv s h.graph x.2.2 x.1 0) (fun x => h.graph.edges.length - x.1) (0, 0, []) ⟨Nat.zero_le _, Inv.zero _ _⟩ ((weak_nil 11 11 45 2 rfl rfl (by decide)).trans (weak_mk (by repeat (first | exact sub_env0 _ | refine sub_upd ?_ (by first | rfl | simp [upd]))) (by repeat (first | exact hsub0 _ | refine hsub_hset ?_ (by first | rfl | simp [hset]))) (by repeat (first | exact ids_env0 _ | refine ids_upd ?_ (by simp [idsOk, idsOkL, hset]))) (by repeat (first | exact boxIds0 _ | refine boxIds_row ?_ | refine boxIds_shut ?_ | refine boxIds_box ?_ (by simp [idsOk, idsOkL, hset]))) (by repeat (first | exact keep0 _ | refine keep_low (by decide) ?_ | refine keep_high (by simp [hset]) ?_)))) ?_
  rintro ⟨x, v, out⟩ ⟨hx, hI⟩
  simp only at hx hI
  simp -implicitDefEqProofs only [go_sem, reduceEqDiff, reduceLT, reduceLeDiff, reduceMul, reduceAdd, reduceIte, reduceCtorEq, Nat.reduceBEq, reduceSub, Int.reduceToNat, encTypes, encSorts, encHost, encInts]
  refine condC_split (fun hc => ?_) (fun hc => ?_)
  · have hx1 : x < h.graph.edges.length := by have := of_decide_eq_true hc; omega
    
    simp -implicitDefEqProofs only [go_sem, reduceEqDiff, reduceLT, reduceLeDiff, reduceMul, reduceAdd, reduceIte, reduceCtorEq, Nat.reduceBEq, reduceSub, Int.reduceToNat, encTypes, encSorts, encHost, encInts, getD_map encEdge hx1, hx1, encEdge]
    refine loop_rule (σ := Nat × Nat × List GPair) (fun y => (upd (upd (upd (upd (upd (upd (upd (upd (upd (upd (upd env0 4 (.ptr 4 0)) 9 (.ptr 9 0)) 10 (.clo (.func 32) [] [.ptr 4 0, .ptr 9 0])) 11 (.row 11 y.2.1)) 28 (.p (.lst (h.graph.edges.map encEdge)))) 29 (.p (.val (.int .i64 h.graph.edges.length)))) 30 (.p (.val (.int .i64 x)))) 13 (.ptr 13 0)) 35 (.p (.lst (h.graph.edges.map encEdge)))) 36 (.p (.val (.int .i64 h.graph.edges.length)))) 37 (.p (.val (.int .i64 y.1)))))
      (fun y => (hset (hset (hset (hset heap0 4 (.box [.p (.lst (s.nodes.map encI)), .p (.lst (s.edges.map encI))])) 9 (.box [.p (.lst (h.graph.nodes.map encI)), .p (.lst (h.graph.edges.map encEdge))])) 13 (.box [.p (.val (.int .i64 (h.graph.edges.getD x default).type)), .p (.val (.int .i64 (h.graph.edges.getD x default).src)), .p (.val (.int .i64 (h.graph.edges.getD x default).dst))])) 11 (.row y.2.1 45 2 (y.2.2.map encPair))))
      (fun y => y.1 ≤ h.graph.edges.length ∧ Inv s h.graph y.2.2 x y.1) (fun y => h.graph.edges.length - y.1) (0, v, out) ⟨Nat.zero_le _, hI⟩ (weak_mk (by repeat (first | exact sub_env0 _ | refine sub_upd ?_ (by first | rfl | simp [upd]))) (by repeat (first | exact hsub0 _ | refine hsub_hset ?_ (by first | rfl | simp [hset]))) (by repeat (first | exact ids_env0 _ | refine ids_upd ?_ (by simp [idsOk, idsOkL, hset]))) (by repeat (first | exact boxIds0 _ | refine boxIds_row ?_ | refine boxIds_shut ?_ | refine boxIds_box ?_ (by simp [idsOk, idsOkL, hset]))) (by repeat (first | exact keep0 _ | refine keep_low (by decide) ?_ | refine keep_high (by simp [hset]) ?_))) ?_
    clear hI
    rintro ⟨y, v, out⟩ ⟨hy, hI⟩
    simp only at hy hI
    simp -implicitDefEqProofs only [go_sem, reduceEqDiff, reduceLT, reduceLeDiff, reduceMul, reduceAdd, reduceIte, reduceCtorEq, Nat.reduceBEq, reduceSub, Int.reduceToNat, encTypes, encSorts, encHost, encInts, getD_map encEdge hx1, hx1, encEdge]
    refine condC_split (fun hc2 => ?_) (fun hc2 => ?_)
    · have hy1 : y < h.graph.edges.length := by have := of_decide_eq_true hc2; omega
      
      simp -implicitDefEqProofs only [go_sem, reduceEqDiff, reduceLT, reduceLeDiff, reduceMul, reduceAdd, reduceIte, reduceCtorEq, Nat.reduceBEq, reduceSub, Int.reduceToNat, encTypes, encSorts, encHost, encInts, getD_map encEdge hx1, hx1, encEdge, getD_map encEdge hy1, hy1]
      have he1 := ends_of ho (getD_mem hx1)
      have he2 := ends_of ho (getD_mem hy1)
      have hcb : condB s h.graph (h.graph.edges.getD x default) (h.graph.edges.getD y default) = (((decide ((h.graph.edges.getD x default).src = (h.graph.edges.getD y default).src) && decide (nodeI s h.graph (h.graph.edges.getD x default).src = 2)) && decide (nodeI s h.graph (h.graph.edges.getD x default).dst = 1)) && decide (nodeI s h.graph (h.graph.edges.getD y default).dst = 3)) := rfl
      have stay : condB s h.graph (h.graph.edges.getD x default) (h.graph.edges.getD y default) = false → Inv s h.graph out x (y + 1) := fun hb => hI.skip (.inl hb)
      refine walkG_split (fun g1 => ?_) (fun g1 => ?_) <;> simp -implicitDefEqProofs only [go_sem, reduceEqDiff, reduceLT, reduceLeDiff, reduceMul, reduceAdd, reduceIte, reduceCtorEq, Nat.reduceBEq, reduceSub, Int.reduceToNat, g1, encTypes, encSorts, encHost, encInts, getD_map encEdge hx1, hx1, encEdge, getD_map encEdge hy1, hy1]
      case refine_2 =>
        exact loopN_mk (y + 1, v, out) ⟨hy1, stay (by rw [hcb, g1]; rfl)⟩ (by dsimp only; omega) (by rw [wrap_succ hy1 (by omega)]; exact (weak_mk (by repeat (first | exact sub_env0 _ | refine sub_upd ?_ (by first | rfl | simp [upd]))) (by repeat (first | exact hsub0 _ | refine hsub_hset ?_ (by first | rfl | simp [hset]))) (by repeat (first | exact ids_env0 _ | refine ids_upd ?_ (by simp [idsOk, idsOkL, hset]))) (by repeat (first | exact boxIds0 _ | refine boxIds_row ?_ | refine boxIds_shut ?_ | refine boxIds_box ?_ (by simp [idsOk, idsOkL, hset]))) (by repeat (first | exact keep0 _ | refine keep_low (by decide) ?_ | refine keep_high (by simp [hset]) ?_))))
      refine call_go (link1' ho _ he1.1) (by simp -implicitDefEqProofs only [go_sem, reduceEqDiff, reduceLT, reduceLeDiff, reduceMul, reduceAdd, reduceIte, reduceCtorEq, Nat.reduceBEq, reduceSub, Int.reduceToNat, encTypes, encSorts, encHost, encInts, getD_map encEdge hx1, hx1, encEdge, getD_map encEdge hy1, hy1] <;> rfl) (scal rfl) ?_
      simp -implicitDefEqProofs only [go_sem, reduceEqDiff, reduceLT, reduceLeDiff, reduceMul, reduceAdd, reduceIte, reduceCtorEq, Nat.reduceBEq, reduceSub, Int.reduceToNat, g1, encTypes, encSorts, encHost, encInts, getD_map encEdge hx1, hx1, encEdge, getD_map encEdge hy1, hy1]
      refine walkG_split (fun g2 => ?_) (fun g2 => ?_) <;> simp -implicitDefEqProofs only [go_sem, reduceEqDiff, reduceLT, reduceLeDiff, reduceMul, reduceAdd, reduceIte, reduceCtorEq, Nat.reduceBEq, reduceSub, Int.reduceToNat, g1, g2, encTypes, encSorts, encHost, encInts, getD_map encEdge hx1, hx1, encEdge, getD_map encEdge hy1, hy1]
      case refine_2 =>
        exact loopN_mk (y + 1, v, out) ⟨hy1, stay (by rw [hcb, g1, g2]; rfl)⟩ (by dsimp only; omega) (by rw [wrap_succ hy1 (by omega)]; exact (weak_mk (by repeat (first | exact sub_env0 _ | refine sub_upd ?_ (by first | rfl | simp [upd]))) (by repeat (first | exact hsub0 _ | refine hsub_hset ?_ (by first | rfl | simp [hset]))) (by repeat (first | exact ids_env0 _ | refine ids_upd ?_ (by simp [idsOk, idsOkL, hset]))) (by repeat (first | exact boxIds0 _ | refine boxIds_row ?_ | refine boxIds_shut ?_ | refine boxIds_box ?_ (by simp [idsOk, idsOkL, hset]))) (by repeat (first | exact keep0 _ | refine keep_low (by decide) ?_ | refine keep_high (by simp [hset]) ?_))))
      refine call_go (link1' ho _ he1.2) (by simp -implicitDefEqProofs only [go_sem, reduceEqDiff, reduceLT, reduceLeDiff, reduceMul, reduceAdd, reduceIte, reduceCtorEq, Nat.reduceBEq, reduceSub, Int.reduceToNat, encTypes, encSorts, encHost, encInts, getD_map encEdge hx1, hx1, encEdge, getD_map encEdge hy1, hy1] <;> rfl) (scal rfl) ?_
      simp -implicitDefEqProofs only [go_sem, reduceEqDiff, reduceLT, reduceLeDiff, reduceMul, reduceAdd, reduceIte, reduceCtorEq, Nat.reduceBEq, reduceSub, Int.reduceToNat, g1, g2, encTypes, encSorts, encHost, encInts, getD_map encEdge hx1, hx1, encEdge, getD_map encEdge hy1, hy1]
      refine walkG_split (fun g3 => ?_) (fun g3 => ?_) <;> simp -implicitDefEqProofs only [go_sem, reduceEqDiff, reduceLT, reduceLeDiff, reduceMul, reduceAdd, reduceIte, reduceCtorEq, Nat.reduceBEq, reduceSub, Int.reduceToNat, g1, g2, g3, encTypes, encSorts, encHost, encInts, getD_map encEdge hx1, hx1, encEdge, getD_map encEdge hy1, hy1]
      case refine_2 =>
        exact loopN_mk (y + 1, v, out) ⟨hy1, stay (by rw [hcb, g1, g2, g3]; rfl)⟩ (by dsimp only; omega) (by rw [wrap_succ hy1 (by omega)]; exact (weak_mk (by repeat (first | exact sub_env0 _ | refine sub_upd ?_ (by first | rfl | simp [upd]))) (by repeat (first | exact hsub0 _ | refine hsub_hset ?_ (by first | rfl | simp [hset]))) (by repeat (first | exact ids_env0 _ | refine ids_upd ?_ (by simp [idsOk, idsOkL, hset]))) (by repeat (first | exact boxIds0 _ | refine boxIds_row ?_ | refine boxIds_shut ?_ | refine boxIds_box ?_ (by simp [idsOk, idsOkL, hset]))) (by repeat (first | exact keep0 _ | refine keep_low (by decide) ?_ | refine keep_high (by simp [hset]) ?_))))
      refine call_go (link1' ho _ he2.2) (by simp -implicitDefEqProofs only [go_sem, reduceEqDiff, reduceLT, reduceLeDiff, reduceMul, reduceAdd, reduceIte, reduceCtorEq, Nat.reduceBEq, reduceSub, Int.reduceToNat, encTypes, encSorts, encHost, encInts, getD_map encEdge hx1, hx1, encEdge, getD_map encEdge hy1, hy1] <;> rfl) (scal rfl) ?_
      simp -implicitDefEqProofs only [go_sem, reduceEqDiff, reduceLT, reduceLeDiff, reduceMul, reduceAdd, reduceIte, reduceCtorEq, Nat.reduceBEq, reduceSub, Int.reduceToNat, g1, g2, g3, encTypes, encSorts, encHost, encInts, getD_map encEdge hx1, hx1, encEdge, getD_map encEdge hy1, hy1]
      refine walkG_split (fun g4 => ?_) (fun g4 => ?_) <;> simp -implicitDefEqProofs only [go_sem, reduceEqDiff, reduceLT, reduceLeDiff, reduceMul, reduceAdd, reduceIte, reduceCtorEq, Nat.reduceBEq, reduceSub, Int.reduceToNat, g1, g2, g3, g4, encTypes, encSorts, encHost, encInts, getD_map encEdge hx1, hx1, encEdge, getD_map encEdge hy1, hy1]
      case refine_2 =>
        exact loopN_mk (y + 1, v, out) ⟨hy1, stay (by rw [hcb, g1, g2, g3, g4]; rfl)⟩ (by dsimp only; omega) (by rw [wrap_succ hy1 (by omega)]; exact (weak_mk (by repeat (first | exact sub_env0 _ | refine sub_upd ?_ (by first | rfl | simp [upd]))) (by repeat (first | exact hsub0 _ | refine hsub_hset ?_ (by first | rfl | simp [hset]))) (by repeat (first | exact ids_env0 _ | refine ids_upd ?_ (by simp [idsOk, idsOkL, hset]))) (by repeat (first | exact boxIds0 _ | refine boxIds_row ?_ | refine boxIds_shut ?_ | refine boxIds_box ?_ (by simp [idsOk, idsOkL, hset]))) (by repeat (first | exact keep0 _ | refine keep_low (by decide) ?_ | refine keep_high (by simp [hset]) ?_))))
      have hlen := hI.len
      refine call_go (has_pair out (pairOf (h.graph.edges.getD x default) (h.graph.edges.getD y default)) (by omega)) (by simp -implicitDefEqProofs only [go_sem, reduceEqDiff, reduceLT, reduceLeDiff, reduceMul, reduceAdd, reduceIte, reduceCtorEq, Nat.reduceBEq, reduceSub, Int.reduceToNat, encTypes, encSorts, encHost, encInts, getD_map encEdge hx1, hx1, encEdge, getD_map encEdge hy1, hy1] <;> rfl) (scal rfl) ?_
      have hany : out.any (pEq (pairOf (h.graph.edges.getD x default) (h.graph.edges.getD y default))) = true ↔ pairOf (h.graph.edges.getD x default) (h.graph.edges.getD y default) ∈ out := by
        rw [List.any_eq_true]
        constructor
        · rintro ⟨q, hq, e⟩
          rw [pEq_iff] at e
          rw [e]; exact hq
        · intro hq
          exact ⟨_, hq, pEq_iff.2 rfl⟩
      generalize hanyb : out.any (pEq (pairOf (h.graph.edges.getD x default) (h.graph.edges.getD y default))) = hb at hany
      simp -implicitDefEqProofs only [go_sem, reduceEqDiff, reduceLT, reduceLeDiff, reduceMul, reduceAdd, reduceIte, reduceCtorEq, Nat.reduceBEq, reduceSub, Int.reduceToNat, encTypes, encSorts, encHost, encInts, getD_map encEdge hx1, hx1, encEdge, getD_map encEdge hy1, hy1]
      refine condC_splitN (fun g5 => ?_) (fun g5 => ?_) <;> simp -implicitDefEqProofs only [go_sem, reduceEqDiff, reduceLT, reduceLeDiff, reduceMul, reduceAdd, reduceIte, reduceCtorEq, Nat.reduceBEq, reduceSub, Int.reduceToNat, encTypes, encSorts, encHost, encInts, getD_map encEdge hx1, hx1, encEdge, getD_map encEdge hy1, hy1]
      · exact loopN_mk (y + 1, v, out) ⟨hy1, hI.skip (.inr (hany.1 g5))⟩ (by dsimp only; omega) (by rw [wrap_succ hy1 (by omega)]; exact (weak_mk (by repeat (first | exact sub_env0 _ | refine sub_upd ?_ (by first | rfl | simp [upd]))) (by repeat (first | exact hsub0 _ | refine hsub_hset ?_ (by first | rfl | simp [hset]))) (by repeat (first | exact ids_env0 _ | refine ids_upd ?_ (by simp [idsOk, idsOkL, hset]))) (by repeat (first | exact boxIds0 _ | refine boxIds_row ?_ | refine boxIds_shut ?_ | refine boxIds_box ?_ (by simp [idsOk, idsOkL, hset]))) (by repeat (first | exact keep0 _ | refine keep_low (by decide) ?_ | refine keep_high (by simp [hset]) ?_))))
      · have hcat : out.map encPair ++ [[PV.val (.int .i64 (h.graph.edges.getD x default).dst), PV.val (.int .i64 (h.graph.edges.getD y default).dst)]] = (out ++ [pairOf (h.graph.edges.getD x default) (h.graph.edges.getD y default)]).map encPair := by
          rw [List.map_append]
          try rfl
        rw [hcat]
        exact ⟨by omega, loopN_mk (y + 1, v + 1, _) ⟨hy1, hI.add (by rw [hcb, g1, g2, g3, g4]; rfl) (fun hm => by rw [hany.2 hm] at g5; cases g5)⟩ (by dsimp only; omega) (by rw [wrap_succ hy1 (by omega)]; exact (weak_mk (by repeat (first | exact sub_env0 _ | refine sub_upd ?_ (by first | rfl | simp [upd]))) (by repeat (first | exact hsub0 _ | refine hsub_hset ?_ (by first | rfl | simp [hset]))) (by repeat (first | exact ids_env0 _ | refine ids_upd ?_ (by simp [idsOk, idsOkL, hset]))) (by repeat (first | exact boxIds0 _ | refine boxIds_row ?_ | refine boxIds_shut ?_ | refine boxIds_box ?_ (by simp [idsOk, idsOkL, hset]))) (by repeat (first | exact keep0 _ | refine keep_low (by decide) ?_ | refine keep_high (by simp [hset]) ?_))))⟩
    · have hye : y = h.graph.edges.length := by have := of_decide_eq_false hc2; omega
      subst hye
      simp -implicitDefEqProofs only [go_sem, reduceEqDiff, reduceLT, reduceLeDiff, reduceMul, reduceAdd, reduceIte, reduceCtorEq, Nat.reduceBEq, reduceSub, Int.reduceToNat, encTypes, encSorts, encHost, encInts, getD_map encEdge hx1, hx1, encEdge]
      refine loopN_mk (x + 1, v, out) ⟨hx1, hI.next hge⟩ (by dsimp only; omega) ?_
      rw [wrap_succ hx1 (by omega)]
      exact (weak_mk (by repeat (first | exact sub_env0 _ | refine sub_upd ?_ (by first | rfl | simp [upd]))) (by repeat (first | exact hsub0 _ | refine hsub_hset ?_ (by first | rfl | simp [hset]))) (by repeat (first | exact ids_env0 _ | refine ids_upd ?_ (by simp [idsOk, idsOkL, hset]))) (by repeat (first | exact boxIds0 _ | refine boxIds_row ?_ | refine boxIds_shut ?_ | refine boxIds_box ?_ (by simp [idsOk, idsOkL, hset]))) (by repeat (first | exact keep0 _ | refine keep_low (by decide) ?_ | refine keep_high (by simp [hset]) ?_)))
  · have hxe : x = h.graph.edges.length := by have := of_decide_eq_false hc; omega
    subst hxe
    simp -implicitDefEqProofs only [go_sem, reduceEqDiff, reduceLT, reduceLeDiff, reduceMul, reduceAdd, reduceIte, reduceCtorEq, Nat.reduceBEq, reduceSub, Int.reduceToNat, encTypes, encSorts, encHost, encInts]
    refine callm_go (sort_out ho hI v) (by simp -implicitDefEqProofs only [go_sem, reduceEqDiff, reduceLT, reduceLeDiff, reduceMul, reduceAdd, reduceIte, reduceCtorEq, Nat.reduceBEq, reduceSub, Int.reduceToNat, encTypes, encSorts, encHost, encInts] <;> rfl) (by simp -implicitDefEqProofs only [go_sem, reduceEqDiff, reduceLT, reduceLeDiff, reduceMul, reduceAdd, reduceIte, reduceCtorEq, Nat.reduceBEq, reduceSub, Int.reduceToNat, encTypes, encSorts, encHost, encInts] <;> rfl) (by simp -implicitDefEqProofs only [go_sem, reduceEqDiff, reduceLT, reduceLeDiff, reduceMul, reduceAdd, reduceIte, reduceCtorEq, Nat.reduceBEq, reduceSub, Int.reduceToNat, encTypes, encSorts, encHost, encInts] <;> rfl) (fun h => by cases h) ?_
    simp -implicitDefEqProofs only [go_sem, reduceEqDiff, reduceLT, reduceLeDiff, reduceMul, reduceAdd, reduceIte, reduceCtorEq, Nat.reduceBEq, reduceSub, Int.reduceToNat, encTypes, encSorts, encHost, encInts]
    simp [h1']
end Go.Proofs.YtdlohnchnneaeaaGreat
/- Layer 52's statements: the example. -/
namespace Go.Proofs.YtdlohnchnneaeaaGreat
open Go.Abs

theorem fewL_ok (t : Types) (hm : FitT t) (s : Sorts) (hs : s.nodes.length ≤ 1125899906842624 ∧ s.edges.length ≤ 1125899906842624) (h : Host) :
    CallV Go.Proofs.Tryz.prog 10 [encTypes t, encSorts s, encHost h] (fun r => ∃ b : Bool, r = .val (.bool b) ∧ (b = true → FewT t ∧ FewS s ∧ FewH h)) := by
  refine callV_of_cw [] Ty.mixed Go.Proofs.Tryz.func10 rfl (by kernel_rfl) (by simp [Go.Proofs.Tryz.ntmps10]) ?_; rw [Go.Proofs.Tryz.ntmps10, Go.Proofs.Tryz.results10]
  
  simp -implicitDefEqProofs only [go_sem, reduceEqDiff, reduceLT, reduceLeDiff, reduceMul, reduceAdd, reduceIte, reduceCtorEq, Nat.reduceBEq, reduceSub, Int.reduceToNat, encTypes, encSorts, encHost, encInts]
  refine call_rel (few04_ok t hm) (by simp -implicitDefEqProofs only [go_sem, reduceEqDiff, reduceLT, reduceLeDiff, reduceMul, reduceAdd, reduceIte, reduceCtorEq, Nat.reduceBEq, reduceSub, Int.reduceToNat, encTypes, encSorts, encHost, encInts] <;> rfl) ?_
  rintro r ⟨b1, rfl, h1⟩
  refine ⟨scal rfl, ?_⟩
  simp -implicitDefEqProofs only [go_sem, reduceEqDiff, reduceLT, reduceLeDiff, reduceMul, reduceAdd, reduceIte, reduceCtorEq, Nat.reduceBEq, reduceSub, Int.reduceToNat, encTypes, encSorts, encHost, encInts]
  refine walkG_split (fun g1 => ?_) (fun g1 => ?_) <;> simp -implicitDefEqProofs only [go_sem, reduceEqDiff, reduceLT, reduceLeDiff, reduceMul, reduceAdd, reduceIte, reduceCtorEq, Nat.reduceBEq, reduceSub, Int.reduceToNat, g1, encTypes, encSorts, encHost, encInts]
  · refine call_rel (fewS_ok s hs) (by simp -implicitDefEqProofs only [go_sem, reduceEqDiff, reduceLT, reduceLeDiff, reduceMul, reduceAdd, reduceIte, reduceCtorEq, Nat.reduceBEq, reduceSub, Int.reduceToNat, encTypes, encSorts, encHost, encInts] <;> rfl) ?_
    rintro r ⟨b2, rfl, h2⟩
    refine ⟨scal rfl, ?_⟩
    simp -implicitDefEqProofs only [go_sem, reduceEqDiff, reduceLT, reduceLeDiff, reduceMul, reduceAdd, reduceIte, reduceCtorEq, Nat.reduceBEq, reduceSub, Int.reduceToNat, g1, encTypes, encSorts, encHost, encInts]
    refine walkG_split (fun g2 => ?_) (fun g2 => ?_) <;> simp -implicitDefEqProofs only [go_sem, reduceEqDiff, reduceLT, reduceLeDiff, reduceMul, reduceAdd, reduceIte, reduceCtorEq, Nat.reduceBEq, reduceSub, Int.reduceToNat, g1, g2, encTypes, encSorts, encHost, encInts]
    · refine call_rel (fewH_ok h) (by simp -implicitDefEqProofs only [go_sem, reduceEqDiff, reduceLT, reduceLeDiff, reduceMul, reduceAdd, reduceIte, reduceCtorEq, Nat.reduceBEq, reduceSub, Int.reduceToNat, encTypes, encSorts, encHost, encInts] <;> rfl) ?_
      rintro r ⟨b3, rfl, h3⟩
      refine ⟨scal rfl, ?_⟩
      simp -implicitDefEqProofs only [go_sem, reduceEqDiff, reduceLT, reduceLeDiff, reduceMul, reduceAdd, reduceIte, reduceCtorEq, Nat.reduceBEq, reduceSub, Int.reduceToNat, g1, g2, encTypes, encSorts, encHost, encInts]
      exact ⟨b3, rfl, fun hb => ⟨h1 g1, h2 g2, h3 hb⟩⟩
    · exact ⟨false, rfl, by simp⟩
  · exact ⟨false, rfl, by simp⟩

def exE (name : ByteArray) (a b : Int) : EdgeT := ⟨name, a, b, 0, -1, 0, -1⟩
theorem edgeX_ok (name : ByteArray) (a b : Int) : CallV Go.Proofs.Tryz.prog 56 [.val (.string name), .val (.int .i64 a), .val (.int .i64 b)] (fun r => r = .agg (encEdgeT (exE name a b))) := by
  refine callV_of_cw [] Ty.mixed Go.Proofs.Tryz.func56 rfl (by kernel_rfl) (by simp [Go.Proofs.Tryz.ntmps56]) ?_; rw [Go.Proofs.Tryz.ntmps56, Go.Proofs.Tryz.results56]
  simp -implicitDefEqProofs only [go_sem, reduceEqDiff, reduceLT, reduceLeDiff, reduceMul, reduceAdd, reduceIte, reduceCtorEq, Nat.reduceBEq, reduceSub, Int.reduceToNat]
  rfl

def exT : Types := ⟨[⟨⟨#[67, 108, 97, 115, 115]⟩, -1, false, []⟩, ⟨⟨#[65, 116, 116, 114, 105, 98, 117, 116, 101]⟩, -1, false, []⟩, ⟨⟨#[84, 97, 98, 108, 101]⟩, -1, false, []⟩, ⟨⟨#[67, 111, 108, 117, 109, 110]⟩, -1, false, []⟩, ⟨⟨#[77, 97, 112]⟩, -1, false, []⟩],
  [exE ⟨#[104, 97, 115]⟩ 0 1, exE ⟨#[119, 105, 116, 104]⟩ 2 3, exE ⟨#[111, 102, 67, 108, 97, 115, 115]⟩ 4 0, exE ⟨#[111, 102, 65, 116, 116, 114, 105, 98, 117, 116, 101]⟩ 4 1, exE ⟨#[116, 111, 84, 97, 98, 108, 101]⟩ 4 2, exE ⟨#[116, 111, 67, 111, 108, 117, 109, 110]⟩ 4 3]⟩
def exS : Sorts := ⟨[1, 1, 3, 3, 2], [1, 3, 2, 2, 2, 2]⟩
def exH : Host := ⟨⟨[0, 2, 4], [⟨2, 2, 0⟩, ⟨4, 2, 1⟩]⟩, [[], [], []]⟩

def exNodes : List (List PV) := [[.val (.string ⟨#[67, 108, 97, 115, 115]⟩), .val (.int .i64 (-1)), .val (.bool false), .val (.slice none 0 0)], [.val (.string ⟨#[65, 116, 116, 114, 105, 98, 117, 116, 101]⟩), .val (.int .i64 (-1)), .val (.bool false), .val (.slice none 0 0)], [.val (.string ⟨#[84, 97, 98, 108, 101]⟩), .val (.int .i64 (-1)), .val (.bool false), .val (.slice none 0 0)], [.val (.string ⟨#[67, 111, 108, 117, 109, 110]⟩), .val (.int .i64 (-1)), .val (.bool false), .val (.slice none 0 0)], [.val (.string ⟨#[77, 97, 112]⟩), .val (.int .i64 (-1)), .val (.bool false), .val (.slice none 0 0)]]
theorem exNodes_le : PLe (.lst exNodes) (.lst (exT.nodes.map encNode)) := .lst rfl ⟨.refl _, .refl _, .refl _, .nil, .refl _, .refl _, .refl _, .nil, .refl _, .refl _, .refl _, .nil, .refl _, .refl _, .refl _, .nil, .refl _, .refl _, .refl _, .nil, trivial⟩

theorem Example_ok : CallV Go.Proofs.Tryz.prog 25 [] (fun r => r = .tup [encTypes exT, encSorts exS]) := by
  refine CallV.le (Q := fun r => r = .tup [.agg [.lst exNodes, .lst (exT.edges.map encEdgeT)], encSorts exS]) ?_ ?_
  case refine_2 =>
    rintro r rfl
    exact ⟨.tup [.agg [.lst (exT.nodes.map encNode), .lst (exT.edges.map encEdgeT)], encSorts exS], .tup ⟨.agg ⟨exNodes_le, .refl _, trivial⟩, .refl _, trivial⟩, rfl⟩
  refine callV_of_cw [] Ty.mixed Go.Proofs.Tryz.func25 rfl (by kernel_rfl) (by simp [Go.Proofs.Tryz.ntmps25]) ?_; rw [Go.Proofs.Tryz.ntmps25, Go.Proofs.Tryz.results25]
  
  simp -implicitDefEqProofs only [go_sem, reduceEqDiff, reduceLT, reduceLeDiff, reduceMul, reduceAdd, reduceIte, reduceCtorEq, Nat.reduceBEq, reduceSub, Int.reduceToNat, encEdgeT, exE]
  refine call_go (edgeX_ok _ _ _) (by simp -implicitDefEqProofs only [go_sem, reduceEqDiff, reduceLT, reduceLeDiff, reduceMul, reduceAdd, reduceIte, reduceCtorEq, Nat.reduceBEq, reduceSub, Int.reduceToNat, encEdgeT, exE] <;> rfl) (scal rfl) ?_
  simp -implicitDefEqProofs only [go_sem, reduceEqDiff, reduceLT, reduceLeDiff, reduceMul, reduceAdd, reduceIte, reduceCtorEq, Nat.reduceBEq, reduceSub, Int.reduceToNat, encEdgeT, exE]
  refine call_go (edgeX_ok _ _ _) (by simp -implicitDefEqProofs only [go_sem, reduceEqDiff, reduceLT, reduceLeDiff, reduceMul, reduceAdd, reduceIte, reduceCtorEq, Nat.reduceBEq, reduceSub, Int.reduceToNat, encEdgeT, exE] <;> rfl) (scal rfl) ?_
  simp -implicitDefEqProofs only [go_sem, reduceEqDiff, reduceLT, reduceLeDiff, reduceMul, reduceAdd, reduceIte, reduceCtorEq, Nat.reduceBEq, reduceSub, Int.reduceToNat, encEdgeT, exE]
  refine call_go (edgeX_ok _ _ _) (by simp -implicitDefEqProofs only [go_sem, reduceEqDiff, reduceLT, reduceLeDiff, reduceMul, reduceAdd, reduceIte, reduceCtorEq, Nat.reduceBEq, reduceSub, Int.reduceToNat, encEdgeT, exE] <;> rfl) (scal rfl) ?_
  simp -implicitDefEqProofs only [go_sem, reduceEqDiff, reduceLT, reduceLeDiff, reduceMul, reduceAdd, reduceIte, reduceCtorEq, Nat.reduceBEq, reduceSub, Int.reduceToNat, encEdgeT, exE]
  refine call_go (edgeX_ok _ _ _) (by simp -implicitDefEqProofs only [go_sem, reduceEqDiff, reduceLT, reduceLeDiff, reduceMul, reduceAdd, reduceIte, reduceCtorEq, Nat.reduceBEq, reduceSub, Int.reduceToNat, encEdgeT, exE] <;> rfl) (scal rfl) ?_
  simp -implicitDefEqProofs only [go_sem, reduceEqDiff, reduceLT, reduceLeDiff, reduceMul, reduceAdd, reduceIte, reduceCtorEq, Nat.reduceBEq, reduceSub, Int.reduceToNat, encEdgeT, exE]
  refine call_go (edgeX_ok _ _ _) (by simp -implicitDefEqProofs only [go_sem, reduceEqDiff, reduceLT, reduceLeDiff, reduceMul, reduceAdd, reduceIte, reduceCtorEq, Nat.reduceBEq, reduceSub, Int.reduceToNat, encEdgeT, exE] <;> rfl) (scal rfl) ?_
  simp -implicitDefEqProofs only [go_sem, reduceEqDiff, reduceLT, reduceLeDiff, reduceMul, reduceAdd, reduceIte, reduceCtorEq, Nat.reduceBEq, reduceSub, Int.reduceToNat, encEdgeT, exE]
  refine call_go (edgeX_ok _ _ _) (by simp -implicitDefEqProofs only [go_sem, reduceEqDiff, reduceLT, reduceLeDiff, reduceMul, reduceAdd, reduceIte, reduceCtorEq, Nat.reduceBEq, reduceSub, Int.reduceToNat, encEdgeT, exE] <;> rfl) (scal rfl) ?_
  simp -implicitDefEqProofs only [go_sem, reduceEqDiff, reduceLT, reduceLeDiff, reduceMul, reduceAdd, reduceIte, reduceCtorEq, Nat.reduceBEq, reduceSub, Int.reduceToNat, encEdgeT, exE]
  exact ⟨⟨rfl, rfl⟩, rfl⟩

def exPair : GPair := ⟨0, 1⟩
def exHraw : PV := .agg [.lst [[.val (.int .i64 0)], [.val (.int .i64 2)], [.val (.int .i64 4)]], .lst [[.val (.int .i64 2), .val (.int .i64 2), .val (.int .i64 0)], [.val (.int .i64 4), .val (.int .i64 2), .val (.int .i64 1)]], .lst [[.val (.slice none 0 0)], [.val (.slice none 0 0)], [.val (.slice none 0 0)]]]
theorem exH_le : PLe exHraw (encHost exH) := .agg ⟨.refl _, .refl _, .lst rfl ⟨.nil, .nil, .nil, trivial⟩, trivial⟩
theorem exFew : FewT exT ∧ FewS exS ∧ FewH exH :=
  ⟨⟨by decide, by decide, by decide, by decide, by decide, by decide, by decide, by decide⟩, by unfold FewS; decide, ⟨⟨by decide, by decide⟩, by decide, by decide⟩⟩
theorem exLinks : linksE exT exS exH = ([exPair], 0) := by
  kernel_rfl
theorem awake_ok : CallV Go.Proofs.Tryz.prog 9 [] (fun r => r = .val (.bool true)) := by
  refine callV_of_cw [] Ty.mixed Go.Proofs.Tryz.func9 rfl (by kernel_rfl) (by simp [Go.Proofs.Tryz.ntmps9]) ?_; rw [Go.Proofs.Tryz.ntmps9, Go.Proofs.Tryz.results9]
  simp -implicitDefEqProofs only [go_sem, reduceEqDiff, reduceLT, reduceLeDiff, reduceMul, reduceAdd, reduceIte, reduceCtorEq, Nat.reduceBEq, reduceSub, Int.reduceToNat]
  have hL := (Links_ok exT exFew.1 exS exFew.2.1 exH exFew.2.2).args (ps' := [encTypes exT, encSorts exS, exHraw]) ⟨.refl _, .refl _, exH_le, trivial⟩
  rw [exLinks] at hL
  refine call_go (Example_ok) (by simp -implicitDefEqProofs only [go_sem, reduceEqDiff, reduceLT, reduceLeDiff, reduceMul, reduceAdd, reduceIte, reduceCtorEq, Nat.reduceBEq, reduceSub, Int.reduceToNat] <;> rfl) (pers) ?_
  
  simp -implicitDefEqProofs only [go_sem, reduceEqDiff, reduceLT, reduceLeDiff, reduceMul, reduceAdd, reduceIte, reduceCtorEq, Nat.reduceBEq, reduceSub, Int.reduceToNat, encTypes, encSorts, encInts]
  unfold encTypes encSorts encInts exHraw at hL
  refine call_go (hL) (by simp -implicitDefEqProofs only [go_sem, reduceEqDiff, reduceLT, reduceLeDiff, reduceMul, reduceAdd, reduceIte, reduceCtorEq, Nat.reduceBEq, reduceSub, Int.reduceToNat, encTypes, encSorts, encInts] <;> rfl) (pers) ?_
  simp -implicitDefEqProofs only [go_sem, reduceEqDiff, reduceLT, reduceLeDiff, reduceMul, reduceAdd, reduceIte, reduceCtorEq, Nat.reduceBEq, reduceSub, Int.reduceToNat, encTypes, encSorts, encInts]
  refine call_go (equal_pair [exPair] [exPair] (by decide)) (by simp -implicitDefEqProofs only [go_sem, reduceEqDiff, reduceLT, reduceLeDiff, reduceMul, reduceAdd, reduceIte, reduceCtorEq, Nat.reduceBEq, reduceSub, Int.reduceToNat, encTypes, encSorts, encInts] <;> rfl) (scal rfl) ?_
  simp -implicitDefEqProofs only [go_sem, reduceEqDiff, reduceLT, reduceLeDiff, reduceMul, reduceAdd, reduceIte, reduceCtorEq, Nat.reduceBEq, reduceSub, Int.reduceToNat, encTypes, encSorts, encInts]
end Go.Proofs.YtdlohnchnneaeaaGreat
/- Layer 52's statements: TripleLinks, TripleSwap, as calls on plain data. -/
namespace Go.Proofs.YtdlohnchnneaeaaGreat
open Go.Abs

def encCase (t : Types) (s : Sorts) : PV := .agg [.lst (t.nodes.map encNode), .lst (t.edges.map encEdgeT), .lst (s.nodes.map encI), .lst (s.edges.map encI)]
def SmallS (s : Sorts) : Prop := s.nodes.length ≤ 1125899906842624 ∧ s.edges.length ≤ 1125899906842624

theorem linksL_le (s : Sorts) (g : Graph) (h : OkTr s g) : (linksR s g).length ≤ 1000000 := by
  have h1 : (partX s g 1).nodes.length ≤ 40 := Nat.le_trans (pick_len _ _) h.nodes
  have h3 : (partX s g 3).nodes.length ≤ 40 := Nat.le_trans (pick_len _ _) h.nodes
  have h2 := linksL_len g (partX s g 1).nodes (partX s g 2).nodes (partX s g 3).nodes
  have h4 := Nat.mul_le_mul h1 h3
  show (linksL g (partX s g 1).nodes (partX s g 2).nodes (partX s g 3).nodes).length ≤ 1000000
  omega
theorem linksE_le (t : Types) (s : Sorts) (h : Host) : (linksE t s h).1.length ≤ 1000000 := by
  unfold linksE
  split
  · simp
  · rename_i hv
    exact linksL_le s h.graph (okTr (by simpa using hv))

theorem TripleLinks_ok (t : Types) (hm : FitT t) (s : Sorts) (hs : SmallS s) (h : Host) : CallV Go.Proofs.Tryz.prog 3 [encCase t s, encHost h] (fun r => r = .val (.bool true)) := by
  refine callV_of_cw [] Ty.mixed Go.Proofs.Tryz.func3 rfl (by kernel_rfl) (by simp [Go.Proofs.Tryz.ntmps3]) ?_; rw [Go.Proofs.Tryz.ntmps3, Go.Proofs.Tryz.results3]
  
  simp -implicitDefEqProofs only [go_sem, reduceEqDiff, reduceLT, reduceLeDiff, reduceMul, reduceAdd, reduceIte, reduceCtorEq, Nat.reduceBEq, reduceSub, Int.reduceToNat, encCase, encTypes, encSorts, encHost, encInts]
  refine call_go (awake_ok) (by simp -implicitDefEqProofs only [go_sem, reduceEqDiff, reduceLT, reduceLeDiff, reduceMul, reduceAdd, reduceIte, reduceCtorEq, Nat.reduceBEq, reduceSub, Int.reduceToNat, encCase, encTypes, encSorts, encHost, encInts] <;> rfl) (scal rfl) ?_
  simp -implicitDefEqProofs only [go_sem, reduceEqDiff, reduceLT, reduceLeDiff, reduceMul, reduceAdd, reduceIte, reduceCtorEq, Nat.reduceBEq, reduceSub, Int.reduceToNat, encCase, encTypes, encSorts, encHost, encInts]
  refine call_rel (fewL_ok t hm s hs h) (by simp -implicitDefEqProofs only [go_sem, reduceEqDiff, reduceLT, reduceLeDiff, reduceMul, reduceAdd, reduceIte, reduceCtorEq, Nat.reduceBEq, reduceSub, Int.reduceToNat, encCase, encTypes, encSorts, encHost, encInts] <;> rfl) ?_
  rintro r ⟨b, rfl, hb⟩
  refine ⟨scal rfl, ?_⟩
  simp -implicitDefEqProofs only [go_sem, reduceEqDiff, reduceLT, reduceLeDiff, reduceMul, reduceAdd, reduceIte, reduceCtorEq, Nat.reduceBEq, reduceSub, Int.reduceToNat, encCase, encTypes, encSorts, encHost, encInts]
  refine condC_splitN (fun h1 => ?_) (fun h1 => ?_) <;> simp -implicitDefEqProofs only [go_sem, reduceEqDiff, reduceLT, reduceLeDiff, reduceMul, reduceAdd, reduceIte, reduceCtorEq, Nat.reduceBEq, reduceSub, Int.reduceToNat, encCase, encTypes, encSorts, encHost, encInts]
  · obtain ⟨hf, hS, hh⟩ := hb h1
    refine call_go (Links_ok t hf s hS h hh) (by simp -implicitDefEqProofs only [go_sem, reduceEqDiff, reduceLT, reduceLeDiff, reduceMul, reduceAdd, reduceIte, reduceCtorEq, Nat.reduceBEq, reduceSub, Int.reduceToNat, encCase, encTypes, encSorts, encHost, encInts] <;> rfl) (pers) ?_
    simp -implicitDefEqProofs only [go_sem, reduceEqDiff, reduceLT, reduceLeDiff, reduceMul, reduceAdd, reduceIte, reduceCtorEq, Nat.reduceBEq, reduceSub, Int.reduceToNat, encCase, encTypes, encSorts, encHost, encInts]
    refine call_go (RLinks_ok t hf s hS h hh okTr) (by simp -implicitDefEqProofs only [go_sem, reduceEqDiff, reduceLT, reduceLeDiff, reduceMul, reduceAdd, reduceIte, reduceCtorEq, Nat.reduceBEq, reduceSub, Int.reduceToNat, encCase, encTypes, encSorts, encHost, encInts] <;> rfl) (pers) ?_
    simp -implicitDefEqProofs only [go_sem, reduceEqDiff, reduceLT, reduceLeDiff, reduceMul, reduceAdd, reduceIte, reduceCtorEq, Nat.reduceBEq, reduceSub, Int.reduceToNat, encCase, encTypes, encSorts, encHost, encInts]
    refine call_go (equal_pair (linksE t s h).1 (linksE t s h).1 (linksE_le t s h)) (by simp -implicitDefEqProofs only [go_sem, reduceEqDiff, reduceLT, reduceLeDiff, reduceMul, reduceAdd, reduceIte, reduceCtorEq, Nat.reduceBEq, reduceSub, Int.reduceToNat, encCase, encTypes, encSorts, encHost, encInts] <;> rfl) (scal rfl) ?_
    simp -implicitDefEqProofs only [go_sem, reduceEqDiff, reduceLT, reduceLeDiff, reduceMul, reduceAdd, reduceIte, reduceCtorEq, Nat.reduceBEq, reduceSub, Int.reduceToNat, encCase, encTypes, encSorts, encHost, encInts]
  · refine call_go (awake_ok) (by simp -implicitDefEqProofs only [go_sem, reduceEqDiff, reduceLT, reduceLeDiff, reduceMul, reduceAdd, reduceIte, reduceCtorEq, Nat.reduceBEq, reduceSub, Int.reduceToNat, encCase, encTypes, encSorts, encHost, encInts] <;> rfl) (scal rfl) ?_
    simp -implicitDefEqProofs only [go_sem, reduceEqDiff, reduceLT, reduceLeDiff, reduceMul, reduceAdd, reduceIte, reduceCtorEq, Nat.reduceBEq, reduceSub, Int.reduceToNat, encCase, encTypes, encSorts, encHost, encInts]

theorem turn1_turn1 {n : Int} (h : 1 ≤ n ∧ n ≤ 3) : turn1 (turn1 n) = n := by
  unfold turn1
  rw [IntWalk.i64_in (4 - n) (by omega), IntWalk.i64_in _ (by omega)]
  omega

theorem firstE_zero {f : Nat → Int} {n : Nat} (h : firstE f 0 n = 0) : ∀ j, j < n → f j = 0 := by
  unfold firstE at h
  cases hk : firstI f 0 n with
  | none => exact firstI_all hk
  | some k => rw [hk] at h; exact absurd h (firstI_some hk)
theorem sortB_iff {n : Int} : sortB n = true ↔ 1 ≤ n ∧ n ≤ 3 := by simp [sortB]
theorem turn1_eq {n : Int} (h : 1 ≤ n ∧ n ≤ 3) : turn1 n = 4 - n := by
  unfold turn1
  rw [IntWalk.i64_in (4 - n) (by omega)]
theorem turnL_at (l : List Int) {i : Nat} (h : i < l.length) : (turnL l).getD i default = turn1 (l.getD i default) := by simp [turnL, h]
theorem turnL_len (l : List Int) : (turnL l).length = l.length := by simp [turnL]

theorem swap_back {t : Types} {s : Sorts} (hf : FewT t) (h : sortsE t s = 0) : sortsE t (turnS s) = 0 ∧ turnS (turnS s) = s := by
  unfold sortsE at h
  split at h
  · rename_i h1; exact absurd h h1
  rename_i h1
  have ht := okTypes hf (by simpa using h1)
  split at h
  · cases h
  rename_i h2
  have hn : s.nodes.length = t.nodes.length := by omega
  have hm : s.edges.length = t.edges.length := by omega
  split at h
  · rename_i h3; exact absurd h h3
  rename_i h3
  have hN := firstE_zero (by simpa using h3 : firstE (sortNE t s) 0 t.nodes.length = 0)
  have hE := firstE_zero h
  have bn : ∀ i, i < s.nodes.length → 1 ≤ s.nodes.getD i default ∧ s.nodes.getD i default ≤ 3 := fun i hi => by
    have := hN i (by omega)
    unfold sortNE at this
    split at this
    · cases this
    · rename_i hb
      exact sortB_iff.1 (by simpa using hb)
  have be : ∀ i, i < s.edges.length → 1 ≤ s.edges.getD i default ∧ s.edges.getD i default ≤ 3 := fun i hi => by
    have := hE i (by omega)
    unfold sortEE at this
    split at this
    · cases this
    · rename_i hb
      exact sortB_iff.1 (by simpa using hb)
  have tn : ∀ i, i < s.nodes.length → (turnS s).nodes.getD i default = 4 - s.nodes.getD i default := fun i hi => by
    show (turnL s.nodes).getD i default = _
    rw [turnL_at _ hi, turn1_eq (bn i hi)]
  have te : ∀ i, i < s.edges.length → (turnS s).edges.getD i default = 4 - s.edges.getD i default := fun i hi => by
    show (turnL s.edges).getD i default = _
    rw [turnL_at _ hi, turn1_eq (be i hi)]
  have ln : (turnS s).nodes.length = s.nodes.length := turnL_len _
  have le : (turnS s).edges.length = s.edges.length := turnL_len _
  constructor
  · unfold sortsE
    rw [if_neg h1, if_neg (by rw [ln, le]; exact h2)]
    have z1 : firstE (sortNE t (turnS s)) 0 t.nodes.length = 0 := firstE_none0 fun j hj => by
      have h0 := hN j hj
      have b := bn j (by omega)
      have hp := ht.par j hj
      unfold sortNE at h0 ⊢
      rw [if_neg (by rw [sortB_iff.2 b]; decide)] at h0
      rw [tn j (by omega), if_neg (by rw [sortB_iff.2 (by omega)]; decide)]
      split
      · rename_i hc
        have hlt : (t.nodes.getD j default).parent.toNat < s.nodes.length := by omega
        rw [tn _ hlt] at hc
        rw [if_pos ⟨hc.1, fun e => hc.2 (by rw [e])⟩] at h0
        exact h0
      · rfl
    rw [if_neg (by rw [z1]; decide)]
    exact firstE_none0 fun j hj => by
      have h0 := hE j hj
      have b := be j (by omega)
      have hends := ht.ends hj
      rw [inB_iff, inB_iff] at hends
      have l1 : (t.edges.getD j default).src.toNat < s.nodes.length := by omega
      have l2 : (t.edges.getD j default).dst.toNat < s.nodes.length := by omega
      have b2 := bn _ l2
      unfold sortEE at h0 ⊢
      rw [if_neg (by rw [sortB_iff.2 b]; decide)] at h0
      rw [te j (by omega), tn _ l1, tn _ l2, if_neg (by rw [sortB_iff.2 (by omega)]; decide)]
      split at h0
      · cases h0
      · rename_i hc
        rw [if_neg]
        omega
  · have tt : ∀ l : List Int, (∀ i, i < l.length → 1 ≤ l.getD i default ∧ l.getD i default ≤ 3) → turnL (turnL l) = l := fun l hl => by
      apply List.ext_getElem
      · rw [turnL_len, turnL_len]
      · intro i i1 i2
        have := turn1_turn1 (hl i i2)
        simpa [turnL, i2] using this
    unfold turnS
    rw [tt _ bn, tt _ be]

theorem TripleSwap_ok (t : Types) (hm : FitT t) (s : Sorts) (hs : SmallS s) : CallV Go.Proofs.Tryz.prog 4 [encCase t s] (fun r => r = .val (.bool true)) := by
  refine callV_of_cw [] Ty.mixed Go.Proofs.Tryz.func4 rfl (by kernel_rfl) (by simp [Go.Proofs.Tryz.ntmps4]) ?_; rw [Go.Proofs.Tryz.ntmps4, Go.Proofs.Tryz.results4]
  
  simp -implicitDefEqProofs only [go_sem, reduceEqDiff, reduceLT, reduceLeDiff, reduceMul, reduceAdd, reduceIte, reduceCtorEq, Nat.reduceBEq, reduceSub, Int.reduceToNat, encCase, encTypes, encSorts, encHost, encInts]
  refine call_go (awake_ok) (by simp -implicitDefEqProofs only [go_sem, reduceEqDiff, reduceLT, reduceLeDiff, reduceMul, reduceAdd, reduceIte, reduceCtorEq, Nat.reduceBEq, reduceSub, Int.reduceToNat, encCase, encTypes, encSorts, encHost, encInts] <;> rfl) (scal rfl) ?_
  simp -implicitDefEqProofs only [go_sem, reduceEqDiff, reduceLT, reduceLeDiff, reduceMul, reduceAdd, reduceIte, reduceCtorEq, Nat.reduceBEq, reduceSub, Int.reduceToNat, encCase, encTypes, encSorts, encHost, encInts]
  have hFL := (fewL_ok t hm s hs ⟨⟨[], []⟩, []⟩).args (ps' := [encTypes t, encSorts s, .agg [.val (.slice none 0 0), .val (.slice none 0 0), .val (.slice none 0 0)]]) ⟨.refl _, .refl _, .agg ⟨.nil, .nil, .nil, trivial⟩, trivial⟩
  refine call_rel hFL (by simp -implicitDefEqProofs only [go_sem, reduceEqDiff, reduceLT, reduceLeDiff, reduceMul, reduceAdd, reduceIte, reduceCtorEq, Nat.reduceBEq, reduceSub, Int.reduceToNat, encCase, encTypes, encSorts, encHost, encInts] <;> rfl) ?_
  rintro r ⟨b, rfl, hb⟩
  refine ⟨scal rfl, ?_⟩
  simp -implicitDefEqProofs only [go_sem, reduceEqDiff, reduceLT, reduceLeDiff, reduceMul, reduceAdd, reduceIte, reduceCtorEq, Nat.reduceBEq, reduceSub, Int.reduceToNat, encCase, encTypes, encSorts, encHost, encInts]
  refine condC_splitN (fun h1 => ?_) (fun h1 => ?_) <;> simp -implicitDefEqProofs only [go_sem, reduceEqDiff, reduceLT, reduceLeDiff, reduceMul, reduceAdd, reduceIte, reduceCtorEq, Nat.reduceBEq, reduceSub, Int.reduceToNat, encCase, encTypes, encSorts, encHost, encInts]
  · obtain ⟨hf, hS, hh⟩ := hb h1
    refine call_go (swap_ok t hf s hS) (by simp -implicitDefEqProofs only [go_sem, reduceEqDiff, reduceLT, reduceLeDiff, reduceMul, reduceAdd, reduceIte, reduceCtorEq, Nat.reduceBEq, reduceSub, Int.reduceToNat, encCase, encTypes, encSorts, encHost, encInts] <;> rfl) (pers) ?_
    simp -implicitDefEqProofs only [go_sem, reduceEqDiff, reduceLT, reduceLeDiff, reduceMul, reduceAdd, reduceIte, reduceCtorEq, Nat.reduceBEq, reduceSub, Int.reduceToNat, encCase, encTypes, encSorts, encHost, encInts]
    refine call_go (rswap_ok t hf s hS) (by simp -implicitDefEqProofs only [go_sem, reduceEqDiff, reduceLT, reduceLeDiff, reduceMul, reduceAdd, reduceIte, reduceCtorEq, Nat.reduceBEq, reduceSub, Int.reduceToNat, encCase, encTypes, encSorts, encHost, encInts] <;> rfl) (pers) ?_
    simp -implicitDefEqProofs only [go_sem, reduceEqDiff, reduceLT, reduceLeDiff, reduceMul, reduceAdd, reduceIte, reduceCtorEq, Nat.reduceBEq, reduceSub, Int.reduceToNat, encCase, encTypes, encSorts, encHost, encInts]
    have hle : (swapX t s).1.nodes.length ≤ 1000000 ∧ (swapX t s).1.edges.length ≤ 1000000 := by
      have hS' : s.nodes.length + s.edges.length ≤ 50 := hS
      unfold swapX
      split
      · exact ⟨Nat.zero_le _, Nat.zero_le _⟩
      · exact ⟨by show (turnL s.nodes).length ≤ _; rw [turnL_len]; omega, by show (turnL s.edges).length ≤ _; rw [turnL_len]; omega⟩
    refine call_go (same_ok (swapX t s).1 (swapX t s).1 hle) (by simp -implicitDefEqProofs only [go_sem, reduceEqDiff, reduceLT, reduceLeDiff, reduceMul, reduceAdd, reduceIte, reduceCtorEq, Nat.reduceBEq, reduceSub, Int.reduceToNat, encCase, encTypes, encSorts, encHost, encInts] <;> rfl) (scal rfl) ?_
    simp -implicitDefEqProofs only [go_sem, reduceEqDiff, reduceLT, reduceLeDiff, reduceMul, reduceAdd, reduceIte, reduceCtorEq, Nat.reduceBEq, reduceSub, Int.reduceToNat, encCase, encTypes, encSorts, encHost, encInts]
    refine condC_splitN (fun h2 => ?_) (fun h2 => ?_) <;> simp -implicitDefEqProofs only [go_sem, reduceEqDiff, reduceLT, reduceLeDiff, reduceMul, reduceAdd, reduceIte, reduceCtorEq, Nat.reduceBEq, reduceSub, Int.reduceToNat, encCase, encTypes, encSorts, encHost, encInts]
    · have h2' := of_decide_eq_true h2
      have hz : sortsE t s = 0 := by
        unfold swapX at h2'
        split at h2'
        · rename_i hne; exact absurd h2' hne
        · rename_i hne; simpa using hne
      have e1 : (swapX t s).1 = turnS s := by unfold swapX; rw [if_neg (by rw [hz]; decide)]
      obtain ⟨hz2, hb2⟩ := swap_back hf hz
      have hS' : s.nodes.length + s.edges.length ≤ 50 := hS
      have hS2 : FewS (swapX t s).1 := by
        rw [e1]
        show (turnL s.nodes).length + (turnL s.edges).length ≤ 50
        rw [turnL_len, turnL_len]
        exact hS'
      have e3 : swapX t (swapX t s).1 = (s, 0) := by
        rw [e1]
        unfold swapX
        rw [if_neg (by rw [hz2]; decide), hb2]
      have hc := swap_ok t hf (swapX t s).1 hS2
      rw [e3] at hc
      refine call_go (hc) (by simp -implicitDefEqProofs only [go_sem, reduceEqDiff, reduceLT, reduceLeDiff, reduceMul, reduceAdd, reduceIte, reduceCtorEq, Nat.reduceBEq, reduceSub, Int.reduceToNat, encCase, encTypes, encSorts, encHost, encInts] <;> rfl) (pers) ?_
      simp -implicitDefEqProofs only [go_sem, reduceEqDiff, reduceLT, reduceLeDiff, reduceMul, reduceAdd, reduceIte, reduceCtorEq, Nat.reduceBEq, reduceSub, Int.reduceToNat, encCase, encTypes, encSorts, encHost, encInts]
      refine call_go (same_ok s s ⟨by omega, by omega⟩) (by simp -implicitDefEqProofs only [go_sem, reduceEqDiff, reduceLT, reduceLeDiff, reduceMul, reduceAdd, reduceIte, reduceCtorEq, Nat.reduceBEq, reduceSub, Int.reduceToNat, encCase, encTypes, encSorts, encHost, encInts] <;> rfl) (scal rfl) ?_
      simp -implicitDefEqProofs only [go_sem, reduceEqDiff, reduceLT, reduceLeDiff, reduceMul, reduceAdd, reduceIte, reduceCtorEq, Nat.reduceBEq, reduceSub, Int.reduceToNat, encCase, encTypes, encSorts, encHost, encInts]
    · refine call_go (same_ok (swapX t s).1 (swapX t s).1 hle) (by simp -implicitDefEqProofs only [go_sem, reduceEqDiff, reduceLT, reduceLeDiff, reduceMul, reduceAdd, reduceIte, reduceCtorEq, Nat.reduceBEq, reduceSub, Int.reduceToNat, encCase, encTypes, encSorts, encHost, encInts] <;> rfl) (scal rfl) ?_
      simp -implicitDefEqProofs only [go_sem, reduceEqDiff, reduceLT, reduceLeDiff, reduceMul, reduceAdd, reduceIte, reduceCtorEq, Nat.reduceBEq, reduceSub, Int.reduceToNat, encCase, encTypes, encSorts, encHost, encInts]
  · refine call_go (awake_ok) (by simp -implicitDefEqProofs only [go_sem, reduceEqDiff, reduceLT, reduceLeDiff, reduceMul, reduceAdd, reduceIte, reduceCtorEq, Nat.reduceBEq, reduceSub, Int.reduceToNat, encCase, encTypes, encSorts, encHost, encInts] <;> rfl) (scal rfl) ?_
    simp -implicitDefEqProofs only [go_sem, reduceEqDiff, reduceLT, reduceLeDiff, reduceMul, reduceAdd, reduceIte, reduceCtorEq, Nat.reduceBEq, reduceSub, Int.reduceToNat, encCase, encTypes, encSorts, encHost, encInts]
end Go.Proofs.YtdlohnchnneaeaaGreat
/- The statements' arguments as plain data. -/
namespace Go.Proofs.YtdlohnchnneaeaaGreat
open Go.Abs

variable {w : World} {H : Type} {enc : TypeId × Value → H}

theorem decInt : Dec Go.Proofs.Tryz.prog w enc 3 1 encI (fun _ => True) := .int Go.Proofs.Tryz.underlying3
theorem decStr : Dec Go.Proofs.Tryz.prog w enc 9 1 encS (fun _ => True) := .str Go.Proofs.Tryz.underlying9
theorem decBool : Dec Go.Proofs.Tryz.prog w enc 4 1 (fun b : Bool => [.val (.bool b)]) (fun _ => True) := .bool Go.Proofs.Tryz.underlying4
theorem decInts : Dec Go.Proofs.Tryz.prog w enc 26 1 (fun l : List Int => [.lst (l.map encI)]) (fun l => l.length ≤ reachBytes) :=
  (Dec.slice Go.Proofs.Tryz.underlying26 (by kernel_rfl) (by decide) (of_decide_eq_true (by kernel_rfl)) decInt).map id id (fun _ => rfl) (fun _ => rfl) (fun _ h => h.2)
theorem decStrs : Dec Go.Proofs.Tryz.prog w enc 105 1 (fun l : List ByteArray => [.lst (l.map encS)]) (fun _ => True) :=
  (Dec.slice Go.Proofs.Tryz.underlying105 (by kernel_rfl) (by decide) (of_decide_eq_true (by kernel_rfl)) decStr).map id id (fun _ => rfl) (fun _ => rfl) (fun _ _ => trivial)
theorem decAttr : Dec Go.Proofs.Tryz.prog w enc 107 4 encAttr (fun _ => True) :=
  (Dec.struct Go.Proofs.Tryz.underlying107 (by kernel_rfl) (.cons rfl (by kernel_rfl) decStr (.cons rfl (by kernel_rfl) decInt (.cons rfl (by kernel_rfl) decInt (.cons rfl (by kernel_rfl) decStrs (.nil _)))))).map
    (fun x => ⟨x.1, x.2.1, x.2.2.1, x.2.2.2.1⟩) (fun a => (a.name, a.low, a.high, a.names, ())) (fun _ => rfl) (fun _ => rfl) (fun _ _ => trivial)
theorem decAttrs : Dec Go.Proofs.Tryz.prog w enc 95 1 (fun l : List Attr => [.lst (l.map encAttr)]) (fun l => l.length ≤ reachBytes) :=
  (Dec.slice Go.Proofs.Tryz.underlying95 (by kernel_rfl) (by decide) (of_decide_eq_true (by kernel_rfl)) decAttr).map id id (fun _ => rfl) (fun _ => rfl) (fun _ h => h.2)
theorem decNode : Dec Go.Proofs.Tryz.prog w enc 97 4 encNode (fun n => n.attrs.length ≤ reachBytes) :=
  (Dec.struct Go.Proofs.Tryz.underlying97 (by kernel_rfl) (.cons rfl (by kernel_rfl) decStr (.cons rfl (by kernel_rfl) decInt (.cons rfl (by kernel_rfl) decBool (.cons rfl (by kernel_rfl) decAttrs (.nil _)))))).map
    (fun x => ⟨x.1, x.2.1, x.2.2.1, x.2.2.2.1⟩) (fun a => (a.name, a.parent, a.abs, a.attrs, ())) (fun _ => rfl) (fun _ => rfl) (fun _ h => h.2.2.2.1)
theorem decNodes : Dec Go.Proofs.Tryz.prog w enc 22 1 (fun l : List NodeT => [.lst (l.map encNode)]) (fun l => ∀ n ∈ l, n.attrs.length ≤ reachBytes) :=
  (Dec.slice Go.Proofs.Tryz.underlying22 (by kernel_rfl) (by decide) (of_decide_eq_true (by kernel_rfl)) decNode).map id id (fun _ => rfl) (fun _ => rfl) (fun _ h => h.1)
theorem decEdgeT : Dec Go.Proofs.Tryz.prog w enc 99 7 encEdgeT (fun _ => True) :=
  (Dec.struct Go.Proofs.Tryz.underlying99 (by kernel_rfl) (.cons rfl (by kernel_rfl) decStr (.cons rfl (by kernel_rfl) decInt (.cons rfl (by kernel_rfl) decInt (.cons rfl (by kernel_rfl) decInt (.cons rfl (by kernel_rfl) decInt (.cons rfl (by kernel_rfl) decInt (.cons rfl (by kernel_rfl) decInt (.nil _))))))))).map
    (fun x => ⟨x.1, x.2.1, x.2.2.1, x.2.2.2.1, x.2.2.2.2.1, x.2.2.2.2.2.1, x.2.2.2.2.2.2.1⟩) (fun a => (a.name, a.src, a.dst, a.outLow, a.outHigh, a.inLow, a.inHigh, ())) (fun _ => rfl) (fun _ => rfl) (fun _ _ => trivial)
theorem decEdgeTs : Dec Go.Proofs.Tryz.prog w enc 23 1 (fun l : List EdgeT => [.lst (l.map encEdgeT)]) (fun _ => True) :=
  (Dec.slice Go.Proofs.Tryz.underlying23 (by kernel_rfl) (by decide) (of_decide_eq_true (by kernel_rfl)) decEdgeT).map id id (fun _ => rfl) (fun _ => rfl) (fun _ _ => trivial)
theorem decTypes : Dec Go.Proofs.Tryz.prog w enc 25 2 (fun t : Types => [.lst (t.nodes.map encNode), .lst (t.edges.map encEdgeT)]) (fun t => ∀ n ∈ t.nodes, n.attrs.length ≤ reachBytes) :=
  (Dec.struct Go.Proofs.Tryz.underlying25 (by kernel_rfl) (.cons rfl (by kernel_rfl) decNodes (.cons rfl (by kernel_rfl) decEdgeTs (.nil _)))).map
    (fun x => ⟨x.1, x.2.1⟩) (fun a => (a.nodes, a.edges, ())) (fun _ => rfl) (fun _ => rfl) (fun _ h => h.1)
theorem decSorts : Dec Go.Proofs.Tryz.prog w enc 28 2 (fun s : Sorts => [.lst (s.nodes.map encI), .lst (s.edges.map encI)]) (fun s => s.nodes.length ≤ reachBytes ∧ s.edges.length ≤ reachBytes) :=
  (Dec.struct Go.Proofs.Tryz.underlying28 (by kernel_rfl) (.cons rfl (by kernel_rfl) decInts (.cons rfl (by kernel_rfl) decInts (.nil _)))).map
    (fun x => ⟨x.1, x.2.1⟩) (fun a => (a.nodes, a.edges, ())) (fun _ => rfl) (fun _ => rfl) (fun _ h => ⟨h.1, h.2.1⟩)
theorem decEdge : Dec Go.Proofs.Tryz.prog w enc 73 3 encEdge (fun _ => True) :=
  (Dec.struct Go.Proofs.Tryz.underlying73 (by kernel_rfl) (.cons rfl (by kernel_rfl) decInt (.cons rfl (by kernel_rfl) decInt (.cons rfl (by kernel_rfl) decInt (.nil _))))).map
    (fun x => ⟨x.1, x.2.1, x.2.2.1⟩) (fun a => (a.type, a.src, a.dst, ())) (fun _ => rfl) (fun _ => rfl) (fun _ _ => trivial)
theorem decEdges : Dec Go.Proofs.Tryz.prog w enc 31 1 (fun l : List Edge => [.lst (l.map encEdge)]) (fun _ => True) :=
  (Dec.slice Go.Proofs.Tryz.underlying31 (by kernel_rfl) (by decide) (of_decide_eq_true (by kernel_rfl)) decEdge).map id id (fun _ => rfl) (fun _ => rfl) (fun _ _ => trivial)
theorem decGraph : Dec Go.Proofs.Tryz.prog w enc 33 2 (fun g : Graph => [.lst (g.nodes.map encI), .lst (g.edges.map encEdge)]) (fun _ => True) :=
  (Dec.struct Go.Proofs.Tryz.underlying33 (by kernel_rfl) (.cons rfl (by kernel_rfl) decInts (.cons rfl (by kernel_rfl) decEdges (.nil _)))).map
    (fun x => ⟨x.1, x.2.1⟩) (fun a => (a.nodes, a.edges, ())) (fun _ => rfl) (fun _ => rfl) (fun _ _ => trivial)
theorem decRows : Dec Go.Proofs.Tryz.prog w enc 34 1 (fun l : List (List Int) => [.lst (l.map encRow)]) (fun _ => True) :=
  (Dec.slice Go.Proofs.Tryz.underlying34 (by kernel_rfl) (by decide) (of_decide_eq_true (by kernel_rfl)) decInts).map id id (fun _ => rfl) (fun _ => rfl) (fun _ _ => trivial)
theorem decHost : Dec Go.Proofs.Tryz.prog w enc 36 3 (fun h : Host => [.lst (h.graph.nodes.map encI), .lst (h.graph.edges.map encEdge), .lst (h.values.map encRow)]) (fun _ => True) :=
  (Dec.struct Go.Proofs.Tryz.underlying36 (by kernel_rfl) (.cons rfl (by kernel_rfl) decGraph (.cons rfl (by kernel_rfl) decRows (.nil _)))).map
    (fun x => ⟨x.1, x.2.1⟩) (fun a => (a.graph, a.values, ())) (fun _ => rfl) (fun _ => rfl) (fun _ _ => trivial)
theorem decCase : Dec Go.Proofs.Tryz.prog w enc 30 4 (fun c : Types × Sorts => [.lst (c.1.nodes.map encNode), .lst (c.1.edges.map encEdgeT), .lst (c.2.nodes.map encI), .lst (c.2.edges.map encI)]) (fun c => (∀ n ∈ c.1.nodes, n.attrs.length ≤ reachBytes) ∧ (c.2.nodes.length ≤ reachBytes ∧ c.2.edges.length ≤ reachBytes)) :=
  (Dec.struct Go.Proofs.Tryz.underlying30 (by kernel_rfl) (.cons rfl (by kernel_rfl) decTypes (.cons rfl (by kernel_rfl) decSorts (.nil _)))).map
    (fun x => (x.1, x.2.1)) (fun a => (a.1, a.2, ())) (fun _ => rfl) (fun _ => rfl) (fun _ h => ⟨h.1, h.2.1⟩)
end Go.Proofs.YtdlohnchnneaeaaGreat
/- Layer 52's statements: what all proofs of them use. -/
namespace Go.Proofs.YtdlohnchnneaeaaGreat
open Go.Abs
open Go.ChangeShapes Go.WideShapes Go.ChangeAt Go.RowKit

theorem ownP : ownKnob Go.Proofs.Tryz.prog.godebug = none := by kernel_rfl
theorem laidP : laidOutB Go.Proofs.Tryz.prog = true := by kernel_rfl

set_option maxRecDepth 100000 in
theorem arg_agg {W : World} {H : Type} {enc : TypeId × Value → H} {α : Type} {t : TypeId} {fs : Array Field} {sz b0 : Nat} {e : α → List PV} {G : α → Prop} {v : Value} {d : DataW H} {ps : List MemPlace} {sp : Nat → Bool} {hd : Bool} (ht : Go.Proofs.Tryz.prog.underlying t = some (.struct fs)) (hdec : Dec Go.Proofs.Tryz.prog W enc t sz e G)
    (hval : Value.okWide Go.Proofs.Tryz.prog W .any b0 t v) (h : DataW.Trod enc Go.Proofs.Tryz.prog W 0 sp hd t v d ps) (hw : Light Go.Proofs.Tryz.prog t d) : ∃ a, G a ∧ VR (snap W) v (.agg (e a)) := by
  unfold Value.okWide at hval
  rw [ht] at hval
  obtain ⟨cs, rfl, _⟩ := hval
  obtain ⟨fuel, hf⟩ := h
  obtain ⟨a, h1, h2⟩ := hdec.dec sp hd fuel _ _ hf hw
  refine ⟨a, h1, ?_⟩
  have : VR (snap W) (.agg (cs.toList).toArray) (.agg (e a)) := .agg cs.toList (e a) h2.1 h2.2.1 h2.2.2
  simpa using this

theorem vr_bool {I : Mem} {v : Value} {b : Bool} (h : VR I v (.val (.bool b))) : v = .bool b := by
  cases h
  rfl

theorem light_of {H : Type} {ts : List TypeId} {ds : List (DataW H)} (h : (DataW.weightsEach Go.Proofs.Tryz.prog ts ds).all (· ≤ reachBytes) = true) {j : Nat} {t : TypeId} {d : DataW H} (ht : ts[j]? = some t) (hd : ds[j]? = some d) : Light Go.Proofs.Tryz.prog t d := fun n hn => by
  have := List.all_eq_true.1 h n (DataW.weights_mem_each ht hd n hn)
  simpa using this

theorem fit_of {c : Types × Sorts} (h : (∀ n ∈ c.1.nodes, n.attrs.length ≤ reachBytes) ∧ (c.2.nodes.length ≤ reachBytes ∧ c.2.edges.length ≤ reachBytes)) : FitT c.1 ∧ SmallS c.2 := by
  have hr : reachBytes ≤ 1125899906842624 := by decide
  exact ⟨⟨fun n hn => Nat.le_trans (h.1 n hn) hr⟩, Nat.le_trans h.2.1 hr, Nat.le_trans h.2.2 hr⟩

end Go.Proofs.YtdlohnchnneaeaaGreat
/- Functions that stand for code: steps that keep the function and the walk together. Program-independent. -/
namespace Go.Abs
open Go.RowKit

def chk {α : Type} (p : Prop) [Decidable p] (x : Option α) : Option α := if p then x else none
def thn {α β : Type} (x : Option α) (k : α → Option β) : Option β := match x with
  | some a => k a
  | none => none
def atZ {α : Type} (l : List α) (i : Int) : Option α := if 0 ≤ i then l[i.toNat]? else none
theorem chk_s {α : Type} {p : Prop} [Decidable p] {x : Option α} {r : α} (h : chk p x = some r) : p ∧ x = some r := by
  unfold chk at h
  split at h
  · exact ⟨by assumption, h⟩
  · cases h
theorem thn_s {α β : Type} {x : Option α} {k : α → Option β} {r : β} (h : thn x k = some r) : ∃ a, x = some a ∧ k a = some r := by
  unfold thn at h
  split at h
  · exact ⟨_, rfl, h⟩
  · cases h
theorem cond_t {α : Type} {b : Bool} {x y : Option α} {r : α} (h : cond b x y = some r) (hb : b = true) : x = some r := by subst hb; exact h
theorem cond_f {α : Type} {b : Bool} {x y : Option α} {r : α} (h : cond b x y = some r) (hb : b = false) : y = some r := by subst hb; exact h
theorem idx_s {α β : Type} {l : List α} {i : Nat} {k : α → Option β} {r : β} (f : α → List PV) (h : thn l[i]? k = some r) : ∃ a, i < l.length ∧ (l.map f).getD i [] = f a ∧ l[i]? = some a ∧ k a = some r := by
  obtain ⟨a, h1, h2⟩ := thn_s h
  exact ⟨a, (List.getElem?_eq_some_iff.1 h1).1, by simp [h1], h1, h2⟩
theorem atZ_s {α β : Type} {l : List α} {i : Int} {k : α → Option β} {r : β} (f : α → List PV) (h : thn (atZ l i) k = some r) :
    ∃ a, 0 ≤ i ∧ i < (l.length : Int) ∧ (l.map f).getD i.toNat [] = f a ∧ atZ l i = some a ∧ k a = some r := by
  obtain ⟨a, h1, h2⟩ := thn_s h
  have h1' := h1
  unfold atZ at h1
  split at h1
  · rename_i h0
    have := (List.getElem?_eq_some_iff.1 h1).1
    exact ⟨a, h0, by omega, by simp [h1], h1', h2⟩
  · cases h1
theorem map_len {α : Type} {f : α → List PV} {n : Nat} (h : ∀ a, (f a).length = n) (l : List α) : ∀ x ∈ l.map f, x.length = n := by
  intro x hx
  obtain ⟨a, _, rfl⟩ := List.mem_map.1 hx
  exact h a
theorem map_val {α : Type} {f : α → List PV} (h : ∀ a, (f a).all isVal = true) (l : List α) : ((l.map f).all fun x => x.all isVal) = true := by
  simp [h]
theorem map_take' {α β : Type} (f : α → β) (l : List α) (n : Nat) : (l.map f).take n = (l.take n).map f := (List.map_take ..).symm
theorem map_drop' {α β : Type} (f : α → β) (l : List α) (n : Nat) : (l.map f).drop n = (l.drop n).map f := (List.map_drop ..).symm
theorem map_app' {α β : Type} (f : α → β) (l m : List α) : l.map f ++ m.map f = (l ++ m).map f := (List.map_append ..).symm
theorem map_snoc {α β : Type} (f : α → β) (l : List α) (a : α) {c : β} (h : f a = c) : l.map f ++ [c] = (l ++ [a]).map f := by rw [List.map_append, ← h]; rfl
theorem map_apps {α β : Type} (f : α → β) (l m : List α) {c : List β} (h : m.map f = c) : l.map f ++ c = (l ++ m).map f := by rw [List.map_append, h]
theorem map_rep {α β : Type} (f : α → β) (n : Nat) (a : α) {c : β} (h : f a = c) : List.replicate n c = (List.replicate n a).map f := by rw [List.map_replicate, h]
theorem map_set' {α β : Type} (f : α → β) (l : List α) (i : Nat) (a : α) {c : β} (h : f a = c) : (l.map f).set i c = (l.set i a).map f := by rw [List.map_set, ← h]
attribute [go_sem] map_take' map_drop' map_app' List.take_length List.length_set List.length_replicate List.set_cons_zero List.set_cons_succ Nat.le_refl Nat.not_lt_zero Nat.zero_le Nat.zero_lt_succ decide_true decide_false Bool.not_not

/-! ### nil read as an empty list -/
mutual
def pleP : PV → PV → Prop
  | .val (.slice none 0 0), .lst es => es = []
  | .emp, .lst es => es = []
  | .agg a, .agg b => pleL a b
  | .tup a, .tup b => pleL a b
  | a, b => a = b
def pleL : List PV → List PV → Prop
  | [], [] => True
  | a :: r, b :: s => pleP a b ∧ pleL r s
  | _, _ => False
end
mutual
theorem pleP_ok : ∀ (a b : PV), pleP a b → PLe a b := by
  intro a b h
  unfold pleP at h
  split at h
  · subst h; exact .nil
  · subst h; exact .emp
  · exact .agg (pleL_ok _ _ h)
  · exact .tup (pleL_ok _ _ h)
  · subst h; exact .refl _
theorem pleL_ok : ∀ (a b : List PV), pleL a b → PLes a b
  | [], [], _ => trivial
  | a :: r, b :: s, h => ⟨pleP_ok a b (by unfold pleL at h; exact h.1), pleL_ok r s (by unfold pleL at h; exact h.2)⟩
  | [], _ :: _, h => by unfold pleL at h; exact h
  | _ :: _, [], h => by unfold pleL at h; exact h
end
theorem CallV.ple {P : Program} {f : FuncId} {args : List PV} {t : PV} (h : CallV P f args (fun v => pleP v t)) : CallV P f args (fun v => v = t) :=
  h.le fun r hr => ⟨t, pleP_ok r t hr, rfl⟩
mutual
def rleP : RV → RV → Prop
  | .p (.val (.slice none 0 0)), .row _ sz es => es = [] ∧ 0 < sz
  | .p (.val (.slice none 0 0)), .p (.lst es) => es = []
  | .agg a, .agg b => rleL a b
  | .tup a, .tup b => rleL a b
  | .p (.agg a), .agg b => rleX a b
  | a, b => a = b
def rleL : List RV → List RV → Prop
  | [], [] => True
  | a :: r, b :: s => rleP a b ∧ rleL r s
  | _, _ => False
def rleX : List PV → List RV → Prop
  | [], [] => True
  | a :: r, b :: s => rleP (.p a) b ∧ rleX r s
  | _, _ => False
end

theorem RVR.nilRow {w : World} {B : Nat} {J : Mem} {u : Value} {bs : List Nat} (e : TypeId) {sz : Nat} (hsz : 0 < sz) (h : RVR w B J u (.p (.val (.slice none 0 0))) bs) : RVR w B J u (.row e sz []) bs :=
  (RLe.nil e sz hsz).sound h
theorem RVR.nilLst {w : World} {B : Nat} {J : Mem} {u : Value} {bs : List Nat} (h : RVR w B J u (.p (.val (.slice none 0 0))) bs) : RVR w B J u (.p (.lst [])) bs := RLe.nilp.sound h
def RLs (w : World) (B : Nat) (J : Mem) (us : List Value) (rs : List RV) (bs : List (List Nat)) : Prop :=
  us.length = rs.length ∧ us.length = bs.length ∧ ∀ (j : Nat) u r b, us[j]? = some u → rs[j]? = some r → bs[j]? = some b → RVR w B J u r b
theorem RLs.cons {w : World} {B : Nat} {J : Mem} {u : Value} {us : List Value} {r r' : RV} {rs rs' : List RV} {b : List Nat} {bs : List (List Nat)} (h : RLs w B J (u :: us) (r :: rs) (b :: bs))
    (h1 : RVR w B J u r b → RVR w B J u r' b) (h2 : RLs w B J us rs bs → RLs w B J us rs' bs) : RLs w B J (u :: us) (r' :: rs') (b :: bs) := by
  obtain ⟨a1, a2, a3⟩ := h
  obtain ⟨c1, c2, c3⟩ := h2 ⟨by simpa using a1, by simpa using a2, fun j u r b hu hr hb => a3 (j + 1) u r b (by simpa using hu) (by simpa using hr) (by simpa using hb)⟩
  refine ⟨by simpa using c1, by simpa using c2, fun j u r b hu hr hb => ?_⟩
  cases j with
  | zero => simp at hu hr hb; subst hu hr hb; exact h1 (a3 0 _ _ _ rfl rfl rfl)
  | succ j => exact c3 j u r b (by simpa using hu) (by simpa using hr) (by simpa using hb)
mutual
theorem rleP_ok : ∀ (r t : RV), rleP r t → ∀ {w : World} {B : Nat} {J : Mem} {u : Value} {bs : List Nat}, RVR w B J u r bs → RVR w B J u t bs := by
  intro r t h w B J u bs hr
  unfold rleP at h
  split at h
  · obtain ⟨rfl, h2⟩ := h; exact hr.nilRow _ h2
  · subst h; exact hr.nilLst
  · cases hr with
    | agg us rs bs q1 q2 q3 q4 =>
      obtain ⟨c1, c2, c3⟩ := rleL_ok _ _ h (w := w) (B := B) (J := J) ⟨q1, q2, q3⟩
      exact .agg us _ bs c1 c2 c3 q4
  · cases hr with
    | tup us rs bs q1 q2 q3 =>
      obtain ⟨c1, c2, c3⟩ := rleL_ok _ _ h (w := w) (B := B) (J := J) ⟨q1, q2, q3⟩
      exact .tup us _ bs c1 c2 c3
  · cases hr with
    | p u x hx =>
      cases hx with
      | agg us cs q1 q2 q3 =>
        obtain ⟨c1, c2, c3⟩ := rleX_ok _ _ h (w := w) (B := B) (J := J) (us := us) ⟨q1, q2⟩
        have : ((us.map fun _ => ([] : List Nat))).flatten = [] := by simp
        have h2 := RVR.agg us _ (us.map fun _ => []) c1 c2 c3 q3
        rw [this] at h2
        exact h2
  · subst h; exact hr
termination_by r t => SizeOf.sizeOf t
theorem rleL_ok : ∀ (a b : List RV), rleL a b → ∀ {w : World} {B : Nat} {J : Mem} {us : List Value} {bs : List (List Nat)}, RLs w B J us a bs → RLs w B J us b bs
  | [], [], _, _, _, _, _, _, h => h
  | [], _ :: _, h, _, _, _, _, _, _ => by unfold rleL at h; exact h.elim
  | _ :: _, [], h, _, _, _, _, _, _ => by unfold rleL at h; exact h.elim
  | a :: r, b :: s, h, w, B, J, us, bs, hr => by
    unfold rleL at h
    match us, bs, hr with
    | u :: us, c :: bs, hr => exact hr.cons (rleP_ok a b h.1) (rleL_ok r s h.2)
    | [], _, hr => have := hr.1; simp at this
    | _ :: _, [], hr => have := hr.2.1; simp at this
termination_by a b => SizeOf.sizeOf b
theorem rleX_ok : ∀ (a : List PV) (b : List RV), rleX a b → ∀ {w : World} {B : Nat} {J : Mem} {us : List Value}, VRs J us a → RLs w B J us b (us.map fun _ => [])
  | [], [], _, _, _, _, us, h => by
    have h1 : us = [] := by have := h.1; simpa using this
    subst h1
    exact ⟨rfl, rfl, fun j u r b hu => by simp at hu⟩
  | [], _ :: _, h, _, _, _, _, _ => by unfold rleX at h; exact h.elim
  | _ :: _, [], h, _, _, _, _, _ => by unfold rleX at h; exact h.elim
  | a :: r, b :: s, h, w, B, J, us, hr => by
    unfold rleX at h
    match us, hr with
    | u :: us, hr =>
      have ih := rleX_ok r s h.2 (w := w) (B := B) (J := J) (us := us) ⟨by have := hr.1; simpa using this, fun j u c hu hc => hr.2 (j + 1) u c (by simpa using hu) (by simpa using hc)⟩
      have h1 := rleP_ok (.p a) b h.1 (w := w) (B := B) (.p u a (hr.2 0 u a rfl rfl))
      refine ⟨by simpa using ih.1, by simp, fun j u r b hu hr hb => ?_⟩
      cases j with
      | zero => simp at hu hr hb; subst hu hr hb; exact h1
      | succ j => exact ih.2.2 j u r b (by simpa using hu) (by simpa using hr) (by simpa using hb)
    | [], hr => have := hr.1; simp at this
termination_by a b => SizeOf.sizeOf b
end
theorem CallF.rle {P : Program} {f : FuncId} {args : List PV} {t : RV} (h : CallF P f args (fun v => rleP v t)) : CallF P f args (fun v => v = t) :=
  ⟨h.1, fun I w vs hI hv => (h.2 I w vs hI hv).mono fun _ _ ⟨v, r, bs, I', h1, h2, h3, h4⟩ => ⟨v, t, bs, I', h1, rfl, rleP_ok r t h2 h3, h4⟩⟩

theorem pleP_agg (a b : List PV) : pleP (.agg a) (.agg b) = pleL a b := by simp only [pleP]
theorem pleP_tup (a b : List PV) : pleP (.tup a) (.tup b) = pleL a b := by simp only [pleP]
theorem pleP_nil (es : List (List PV)) : pleP (.val (.slice none 0 0)) (.lst es) = (es = []) := by simp only [pleP]
theorem pleP_emp (es : List (List PV)) : pleP .emp (.lst es) = (es = []) := by simp only [pleP]
theorem pleP_lst (a b : List (List PV)) : pleP (.lst a) (.lst b) = (a = b) := by simp only [pleP, PV.lst.injEq]
theorem pleP_val (a b : Value) : pleP (.val a) (.val b) = (a = b) := by
  unfold pleP
  split <;> first | (rename_i h _; cases h; done) | (rename_i h; cases h; done) | simp_all
theorem pleL_nil : pleL [] [] = True := by simp only [pleL]
theorem pleL_cons (a b : PV) (r s : List PV) : pleL (a :: r) (b :: s) = (pleP a b ∧ pleL r s) := by simp only [pleL]
theorem rleP_agg (a b : List RV) : rleP (.agg a) (.agg b) = rleL a b := by simp only [rleP]
theorem rleP_tup (a b : List RV) : rleP (.tup a) (.tup b) = rleL a b := by simp only [rleP]
theorem rleP_pagg (a : List PV) (b : List RV) : rleP (.p (.agg a)) (.agg b) = rleX a b := by simp only [rleP]
theorem rleP_nilRow (e : TypeId) (sz : Nat) (es : List (List PV)) : rleP (.p (.val (.slice none 0 0))) (.row e sz es) = (es = [] ∧ 0 < sz) := by simp only [rleP]
theorem rleP_nilLst (es : List (List PV)) : rleP (.p (.val (.slice none 0 0))) (.p (.lst es)) = (es = []) := by simp only [rleP]
theorem rleP_row (e e' : TypeId) (sz sz' : Nat) (es es' : List (List PV)) : rleP (.row e sz es) (.row e' sz' es') = (e = e' ∧ sz = sz' ∧ es = es') := by simp only [rleP, RV.row.injEq]
theorem rleP_val (a b : Value) : rleP (.p (.val a)) (.p (.val b)) = (a = b) := by
  unfold rleP
  split <;> first | (rename_i h _; cases h; done) | (rename_i h; cases h; done) | simp_all
theorem rleP_lst (a b : List (List PV)) : rleP (.p (.lst a)) (.p (.lst b)) = (a = b) := by simp only [rleP, RV.p.injEq, PV.lst.injEq]
theorem rleL_nil : rleL [] [] = True := by simp only [rleL]
theorem rleL_cons (a b : RV) (r s : List RV) : rleL (a :: r) (b :: s) = (rleP a b ∧ rleL r s) := by simp only [rleL]
theorem rleX_nil : rleX [] [] = True := by simp only [rleX]
theorem rleX_cons (a : PV) (b : RV) (r : List PV) (s : List RV) : rleX (a :: r) (b :: s) = (rleP (.p a) b ∧ rleX r s) := by simp only [rleX]
attribute [go_sem] pleP_agg pleP_tup pleP_nil pleP_emp pleP_lst pleP_val pleL_nil pleL_cons rleP_agg rleP_tup rleP_pagg rleP_nilRow rleP_nilLst rleP_row rleP_val rleP_lst rleL_nil rleL_cons rleX_nil rleX_cons

/-! ### Loops -/
section
variable {σ O : Type}
def forN (f : Nat → σ → (σ → Option O) → (σ → Option O) → Option O) : Nat → Nat → σ → (σ → Option O) → Option O
  | 0, _, s, K => K s
  | k + 1, i, s, K => f i s (fun s' => forN f k (i + 1) s' K) K
def iter (f : σ → (σ → Option O) → (σ → Option O) → Option O) : Nat → σ → (σ → Option O) → Option O
  | 0, _, _ => none
  | k + 1, s, K => f s (fun s' => iter f k s' K) K
end
def fuel : Nat := 4611686018427387904

section
variable {P : Program} {N : Nat} {own : List Nat} {σ γ O : Type} {c : Code} {K : Kont} {env : Env} {H : AHeap}
def loopG (R : Env → AHeap → Prop) (K : Kont) : Kont := fun e env H => match e with
  | .normal => R env H
  | e => K e env H
theorem loopG_normal {R : Env → AHeap → Prop} : loopG R K .normal env H = R env H := rfl
theorem loopG_exit {R : Env → AHeap → Prop} {id : Nat} : loopG R K (.exit id) env H = K (.exit id) env H := rfl
theorem loopG_ret {R : Env → AHeap → Prop} : loopG R K .ret env H = K .ret env H := rfl
attribute [go_sem] loopG_normal loopG_exit loopG_ret

def nextG (inv : σ × γ → Env) (invH : σ × γ → AHeap) (Nx : σ → Prop) (e : Env) (H : AHeap) : Prop := ∃ s' g, Nx s' ∧ Weak e H (inv (s', g)) (invH (s', g))
theorem nextG_mk {inv : σ × γ → Env} {invH : σ × γ → AHeap} {Nx : σ → Prop} {e : Env} {H : AHeap} (s' : σ) (g : γ) (h : Nx s') (hw : Weak e H (inv (s', g)) (invH (s', g))) : nextG inv invH Nx e H := ⟨s', g, h, hw⟩
theorem loopG_eq {R R' : Env → AHeap → Prop} (h : ∀ e H, R e H ↔ R' e H) : loopG R K = (fun z e' H' => match z with
    | .normal => R' e' H'
    | z => K z e' H') := by
  funext z e' H'
  cases z <;> first | rfl | exact propext (h e' H')

theorem iter_loop {f : σ → (σ → Option O) → (σ → Option O) → Option O} {Kf : σ → Option O} {r : O} (inv : σ × γ → Env) (invH : σ × γ → AHeap) (g0 : γ) {k : Nat} {s : σ} (h : iter f k s Kf = some r)
    (hw : Weak env H (inv (s, g0)) (invH (s, g0)))
    (hr : ∀ s g (nxt : σ → Option O) (Nx : σ → Prop), (∀ s', nxt s' = some r → Nx s') → f s nxt Kf = some r → cw P N own c (loopG (nextG inv invH Nx) K) (inv (s, g)) (invH (s, g))) : loopC P N own c K env H := by
  refine ⟨fun n e H => ∃ s g, iter f n s Kf = some r ∧ e = inv (s, g) ∧ H = invH (s, g), ⟨k, _, _, ⟨s, g0, h, rfl, rfl⟩, hw⟩, ?_⟩
  rintro n e H ⟨s, g, hs, rfl, rfl⟩
  cases n with
  | zero => cases hs
  | succ n =>
    have := hr s g _ (fun s' => ∃ m, m < n + 1 ∧ iter f m s' Kf = some r) (fun s' h' => ⟨n, Nat.lt_succ_self n, h'⟩) hs
    rw [loopG_eq (R' := fun e' H' => ∃ m e2 H2, m < n + 1 ∧ (∃ s g, iter f m s Kf = some r ∧ e2 = inv (s, g) ∧ H2 = invH (s, g)) ∧ Weak e' H' e2 H2)] at this
    · exact this
    · intro e' H'
      constructor
      · rintro ⟨s', g', ⟨m, h1, h2⟩, h3⟩
        exact ⟨m, _, _, h1, ⟨s', g', h2, rfl, rfl⟩, h3⟩
      · rintro ⟨m, e2, H2, h1, ⟨s', g', h2, rfl, rfl⟩, h3⟩
        exact ⟨s', g', ⟨m, h1, h2⟩, h3⟩

theorem forN_loop {f : Nat → σ → (σ → Option O) → (σ → Option O) → Option O} {Kf : σ → Option O} {r : O} (inv : (Nat × σ) × γ → Env) (invH : (Nat × σ) × γ → AHeap) (g0 : γ) {n i : Nat} {s : σ} (h : forN f (n - i) i s Kf = some r)
    (hw : Weak env H (inv ((i, s), g0)) (invH ((i, s), g0)))
    (hr : ∀ j s g (nxt : σ → Option O) (Nx : Nat × σ → Prop), j < n → (∀ s', nxt s' = some r → Nx (j + 1, s')) → f j s nxt Kf = some r → cw P N own c (loopG (nextG inv invH Nx) K) (inv ((j, s), g)) (invH ((j, s), g)))
    (he : ∀ j s g (Nx : Nat × σ → Prop), n ≤ j → Kf s = some r → cw P N own c (loopG (nextG inv invH Nx) K) (inv ((j, s), g)) (invH ((j, s), g))) : loopC P N own c K env H := by
  refine ⟨fun m e H => ∃ (x : Nat × σ) (g : γ), (n - x.1 = m ∧ forN f (n - x.1) x.1 x.2 Kf = some r) ∧ e = inv (x, g) ∧ H = invH (x, g), ⟨n - i, _, _, ⟨(i, s), g0, ⟨rfl, h⟩, rfl, rfl⟩, hw⟩, ?_⟩
  rintro m e H ⟨⟨j, s⟩, g, ⟨hm, hs⟩, rfl, rfl⟩
  have key : ∀ R : Nat × σ → Prop, (∀ x, R x ↔ n - x.1 < m ∧ forN f (n - x.1) x.1 x.2 Kf = some r) → ∀ e' H', nextG inv invH R e' H' ↔ ∃ m' e2 H2, m' < m ∧ (∃ (x : Nat × σ) (g : γ), (n - x.1 = m' ∧ forN f (n - x.1) x.1 x.2 Kf = some r) ∧ e2 = inv (x, g) ∧ H2 = invH (x, g)) ∧ Weak e' H' e2 H2 := by
    intro R hR e' H'
    constructor
    · rintro ⟨x, g', h1, h3⟩
      obtain ⟨h1, h2⟩ := (hR x).1 h1
      exact ⟨_, _, _, h1, ⟨x, g', ⟨rfl, h2⟩, rfl, rfl⟩, h3⟩
    · rintro ⟨m', e2, H2, h1, ⟨x, g', ⟨h4, h2⟩, rfl, rfl⟩, h3⟩
      exact ⟨x, g', (hR x).2 ⟨by omega, h2⟩, h3⟩
  simp only at hm hs
  by_cases hj : j < n
  · obtain ⟨k, hk⟩ : ∃ k, n - j = k + 1 := ⟨n - j - 1, by omega⟩
    have hk' : n - (j + 1) = k := by omega
    rw [hk] at hs
    have := hr j s g _ (fun x => n - x.1 < m ∧ forN f (n - x.1) x.1 x.2 Kf = some r) hj (fun s' h' => ⟨by simp only; omega, by simp only [hk']; exact h'⟩) hs
    rw [loopG_eq (key _ fun x => Iff.rfl)] at this
    exact this
  · have h0 : n - j = 0 := by omega
    rw [h0] at hs
    have := he j s g (fun x => n - x.1 < m ∧ forN f (n - x.1) x.1 x.2 Kf = some r) (by omega) hs
    rw [loopG_eq (key _ fun x => Iff.rfl)] at this
    exact this
end

theorem iter_go {P : Program} {N : Nat} {own : List Nat} {σ γ O : Type} {c : Code} {K : Kont} {env : Env} {H : AHeap} {f : σ → (σ → Option O) → (σ → Option O) → Option O} {Kf : σ → Option O} {r : O} (inv : σ × γ → Env) (invH : σ × γ → AHeap) (g0 : γ) {k : Nat} {s : σ} (h : iter f k s Kf = some r)
    (hw : Weak env H (inv (s, g0)) (invH (s, g0)))
    (hr : ∀ s g (nxt : σ → Option O) (R : Env → AHeap → Prop), (∀ s' g' {e H}, nxt s' = some r → Weak e H (inv (s', g')) (invH (s', g')) → R e H) → f s nxt Kf = some r → cw P N own c (loopG R K) (inv (s, g)) (invH (s, g))) : loopC P N own c K env H :=
  iter_loop inv invH g0 h hw fun s g nxt Nx hN hf => hr s g nxt _ (fun s' g' _ _ h1 h2 => nextG_mk s' g' (hN s' h1) h2) hf
theorem forN_go {P : Program} {N : Nat} {own : List Nat} {σ γ O : Type} {c : Code} {K : Kont} {env : Env} {H : AHeap} {f : Nat → σ → (σ → Option O) → (σ → Option O) → Option O} {Kf : σ → Option O} {r : O} (inv : (Nat × σ) × γ → Env) (invH : (Nat × σ) × γ → AHeap) (g0 : γ) {n i : Nat} {s : σ} (h : forN f (n - i) i s Kf = some r)
    (hw : Weak env H (inv ((i, s), g0)) (invH ((i, s), g0)))
    (hr : ∀ j s g (nxt : σ → Option O) (R : Env → AHeap → Prop), j < n → (∀ s' g' {e H}, nxt s' = some r → Weak e H (inv ((j + 1, s'), g')) (invH ((j + 1, s'), g')) → R e H) → f j s nxt Kf = some r → cw P N own c (loopG R K) (inv ((j, s), g)) (invH ((j, s), g)))
    (he : ∀ j s g (R : Env → AHeap → Prop), n ≤ j → Kf s = some r → cw P N own c (loopG R K) (inv ((j, s), g)) (invH ((j, s), g))) : loopC P N own c K env H :=
  forN_loop inv invH g0 h hw (fun j s g nxt Nx hj hN hf => hr j s g nxt _ hj (fun s' g' _ _ h1 h2 => nextG_mk (j + 1, s') g' (hN s' h1) h2) hf) (fun j s g Nx hj hk => he j s g _ hj hk)

/-! ### Arguments that are nil -/
section
variable {P : Program} {env : Env} {H : AHeap} {o : Oper} {W : Env → AHeap → Prop} {k : FuncId} {ps ps' : List PV} {b : Bool}
theorem CallF.args {f : FuncId} {ps ps' : List PV} {Q : RV → Prop} (h : CallF P f ps Q) (hp : PLes ps' ps) : CallF P f ps' Q :=
  ⟨h.1, fun I w vs hI hv => h.2 I w vs hI (hp.vrs hv)⟩
theorem callG {x : PV} (c : CallV P k ps fun r => r = x) (he : callPs o (ev env) H = some (k, ps', b)) (hp : pleL ps' ps) (hb : b = true → x.scalar = true)
    (hW : W (putA env o.dst (.p x)) H) : callK P o W env H := call_go (c.args (pleL_ok _ _ hp)) he hb hW
theorem calldG {x : PV} (c : CallV P k ps fun r => r = x) (he : callPs o (ev env) H = some (k, ps', b)) (hp : pleL ps' ps) (hb : b = true → x.scalar = true)
    (hW : W (putA env o.dst (.p x)) H) : callD P o W env H := calld_go (c.args (pleL_ok _ _ hp)) he hb hW
end

/-! ### Arrays -/
section
variable {P : Program} {t : TypeId} {kk : IntKind} {n : Int} {H : AHeap}
def idxA (a : Option (Nat × TypeId)) (f : TypeId → Option Nat) (n : Int) (mk : Nat → AV) (H : AHeap) : Option (Prop × AV × AHeap) := match a with
  | some (len, e) => (match f e with
    | some sz => some (0 ≤ n ∧ n < len, mk (n.toNat * sz), H)
    | none => none)
  | none => none
theorem indexM_eptr {cs : List PV} {off : Nat} : indexM P t (.p (.eptr cs off)) (.p (.val (.int kk n))) H = idxA (arrOf P t) (tySize P) n (fun o => .p (.eptr cs (off + o))) H := by
  unfold indexM indexP idxA up3
  cases arrOf P t with
  | none => rfl
  | some r => obtain ⟨len, e⟩ := r; simp only; cases tySize P e <;> rfl
theorem indexM_ptr {id off : Nat} : indexM P t (.ptr id off) (.p (.val (.int kk n))) H = idxA (arrOf P t) (tySize P) n (fun o => .ptr id (off + o)) H := by
  unfold indexM indexP idxA up3
  cases arrOf P t with
  | none => rfl
  | some r => obtain ⟨len, e⟩ := r; simp only; cases tySize P e <;> rfl
theorem idxA_some {len : Nat} {e : TypeId} {f : TypeId → Option Nat} {mk : Nat → AV} : idxA (some (len, e)) f n mk H = (match f e with
    | some sz => some (0 ≤ n ∧ n < len, mk (n.toNat * sz), H)
    | none => none) := rfl
attribute [go_sem] indexM_eptr indexM_ptr idxA_some
end
/-! ### Forgetting, with lists -/
mutual
def subA : AV → AV → Prop
  | .p a, .p b => pleP a b
  | .agg a, .agg b => subAL a b
  | .tup a, .tup b => subAL a b
  | a, b => a = b
def subAL : List AV → List AV → Prop
  | [], [] => True
  | a :: r, b :: s => subA a b ∧ subAL r s
  | _, _ => False
end
theorem subA_p (a b : PV) : subA (.p a) (.p b) = pleP a b := by simp only [subA]
theorem subA_row (i v j u : Nat) : subA (.row i v) (.row j u) = (i = j ∧ v = u) := by simp only [subA, AV.row.injEq]
theorem subA_ptr (i v j u : Nat) : subA (.ptr i v) (.ptr j u) = (i = j ∧ v = u) := by simp only [subA, AV.ptr.injEq]
theorem subA_clo (f g : Fn) (a b c d : List AV) : subA (.clo f a b) (.clo g c d) = (f = g ∧ a = c ∧ b = d) := by simp only [subA, AV.clo.injEq]
theorem subA_rptr (i v j o i' v' j' o' : Nat) : subA (.rptr i v j o) (.rptr i' v' j' o') = (i = i' ∧ v = v' ∧ j = j' ∧ o = o') := by simp only [subA, AV.rptr.injEq]
theorem subA_agg (a b : List AV) : subA (.agg a) (.agg b) = subAL a b := by simp only [subA]
theorem subA_tup (a b : List AV) : subA (.tup a) (.tup b) = subAL a b := by simp only [subA]
theorem subAL_nil : subAL [] [] = True := by simp only [subAL]
theorem subAL_cons (a b : AV) (r s : List AV) : subAL (a :: r) (b :: s) = (subA a b ∧ subAL r s) := by simp only [subAL]

theorem subAL_get : ∀ {as' bs : List AV}, subAL as' bs → as'.length = bs.length ∧ ∀ (j : Nat) a b, as'[j]? = some a → bs[j]? = some b → subA a b
  | [], [], _ => ⟨rfl, fun j a b h => by simp at h⟩
  | a :: r, b :: s, h => by
    unfold subAL at h
    obtain ⟨h1, h2⟩ := subAL_get h.2
    refine ⟨by simp [h1], fun j x y hx hy => ?_⟩
    cases j with
    | zero => simp at hx hy; subst hx hy; exact h.1
    | succ j => exact h2 j x y (by simpa using hx) (by simpa using hy)
  | [], _ :: _, h => by unfold subAL at h; exact h.elim
  | _ :: _, [], h => by unfold subAL at h; exact h.elim

theorem subA_ok {I : Mem} {L : LocMap} {u : Value} {a : AV} (h : AVR I L u a) : ∀ {b : AV}, subA a b → AVR I L u b := by
  induction h with
  | p u x h =>
    intro b hb
    unfold subA at hb
    split at hb
    · rename_i e; cases e; exact .p _ _ (pleP_ok _ _ hb _ _ h)
    · rename_i e; cases e
    · rename_i e; cases e
    · subst hb; exact .p _ _ h
  | agg us cs hl hv hone ih =>
    intro b hb
    unfold subA at hb
    split at hb
    · rename_i e; cases e
    · rename_i e; cases e
      obtain ⟨q1, q2⟩ := subAL_get hb
      refine .agg us _ (hl.trans q1) (fun j u c hu hc => ?_) hone
      obtain ⟨a, ha⟩ : ∃ a, cs[j]? = some a := by
        have hj : j < us.length := (List.getElem?_eq_some_iff.1 hu).1
        exact ⟨cs[j]'(by omega), by simp [hl ▸ hj]⟩
      exact ih j u a hu ha (q2 j a c ha hc)
    · rename_i e; cases e
    · subst hb; exact .agg us cs hl hv hone
  | tup us cs hl hv ih =>
    intro b hb
    unfold subA at hb
    split at hb
    · rename_i e; cases e
    · rename_i e; cases e
    · rename_i e; cases e
      obtain ⟨q1, q2⟩ := subAL_get hb
      refine .tup us _ (hl.trans q1) (fun j u c hu hc => ?_)
      obtain ⟨a, ha⟩ : ∃ a, cs[j]? = some a := by
        have hj : j < us.length := (List.getElem?_eq_some_iff.1 hu).1
        exact ⟨cs[j]'(by omega), by simp [hl ▸ hj]⟩
      exact ih j u a hu ha (q2 j a c ha hc)
    · subst hb; exact .tup us cs hl hv
  | row u id ver v hdr sz hl hle h h1 =>
    intro b hb
    unfold subA at hb
    subst hb
    exact .row u id ver v hdr sz hl hle h h1
  | ptr id b' off hl =>
    intro b hb
    unfold subA at hb
    subst hb
    exact .ptr id b' off hl
  | rptr u id ver v i off hdr sz hl hle h h1 =>
    intro b hb
    unfold subA at hb
    subst hb
    exact .rptr u id ver v i off hdr sz hl hle h h1
  | clo fn us vs fs cs hl hl' hv hv' =>
    intro b hb
    unfold subA at hb
    subst hb
    exact .clo fn us vs fs cs hl hl' hv hv'
  | dead u =>
    intro b hb
    unfold subA at hb
    subst hb
    exact .dead u

def envL : List (Nat × AV) → Env
  | [] => env0
  | (d, v) :: r => upd (envL r) d v
def heapL : List (Nat × Chunk) → AHeap
  | [] => heap0
  | (d, c) :: r => hset (heapL r) d c
theorem envL_nil : envL [] = env0 := rfl
theorem envL_cons (d : Nat) (v : AV) (r : List (Nat × AV)) : envL ((d, v) :: r) = upd (envL r) d v := rfl
theorem heapL_nil : heapL [] = heap0 := rfl
theorem heapL_cons (d : Nat) (c : Chunk) (r : List (Nat × Chunk)) : heapL ((d, c) :: r) = hset (heapL r) d c := rfl
def subE (e : Env) : List (Nat × AV) → Prop
  | [] => True
  | (d, v) :: r => subA (e d) v ∧ subE e r
def subC : Option Chunk → Chunk → Prop
  | some (.box cs), .box ds => subAL cs ds
  | some c, d => c = d
  | none, _ => False
def subH (H : AHeap) : List (Nat × Chunk) → Prop
  | [] => True
  | (d, c) :: r => subC (H d) c ∧ subH H r
def idsE (G : AHeap) : List (Nat × AV) → Prop
  | [] => True
  | (_, v) :: r => idsOk G v ∧ idsE G r
def idsC (G : AHeap) : List (Nat × Chunk) → Prop
  | [] => True
  | (_, .box cs) :: r => idsOkL G cs ∧ idsC G r
  | _ :: r => idsC G r
theorem subE_nil (e : Env) : subE e [] = True := rfl
theorem subE_cons (e : Env) (d : Nat) (v : AV) (r : List (Nat × AV)) : subE e ((d, v) :: r) = (subA (e d) v ∧ subE e r) := rfl
theorem subC_box (cs ds : List AV) : subC (some (.box cs)) (.box ds) = subAL cs ds := rfl
theorem subC_row (v : Nat) (e : TypeId) (sz : Nat) (es : List (List PV)) (v' : Nat) (e' : TypeId) (sz' : Nat) (es' : List (List PV)) : subC (some (.row v e sz es)) (.row v' e' sz' es') = (v = v' ∧ e = e' ∧ sz = sz' ∧ es = es') := by
  simp only [subC, Chunk.row.injEq]
theorem subC_shut (v : Nat) (es : List (List PV)) (v' : Nat) (es' : List (List PV)) : subC (some (.shut v es)) (.shut v' es') = (v = v' ∧ es = es') := by
  simp only [subC, Chunk.shut.injEq]
theorem subH_nil (H : AHeap) : subH H [] = True := rfl
theorem subH_cons (H : AHeap) (d : Nat) (c : Chunk) (r : List (Nat × Chunk)) : subH H ((d, c) :: r) = (subC (H d) c ∧ subH H r) := rfl
theorem idsE_nil (G : AHeap) : idsE G [] = True := rfl
theorem idsE_cons (G : AHeap) (d : Nat) (v : AV) (r : List (Nat × AV)) : idsE G ((d, v) :: r) = (idsOk G v ∧ idsE G r) := rfl
theorem idsC_nil (G : AHeap) : idsC G [] = True := rfl
theorem idsC_box (G : AHeap) (d : Nat) (cs : List AV) (r : List (Nat × Chunk)) : idsC G ((d, .box cs) :: r) = (idsOkL G cs ∧ idsC G r) := rfl
theorem idsC_row (G : AHeap) (d : Nat) (v : Nat) (e : TypeId) (sz : Nat) (es : List (List PV)) (r : List (Nat × Chunk)) : idsC G ((d, .row v e sz es) :: r) = idsC G r := rfl
theorem idsC_shut (G : AHeap) (d : Nat) (v : Nat) (es : List (List PV)) (r : List (Nat × Chunk)) : idsC G ((d, .shut v es) :: r) = idsC G r := rfl
theorem idsOk_p (G : AHeap) (x : PV) : idsOk G (.p x) = True := by simp only [idsOk]
theorem idsOk_row (G : AHeap) (i v : Nat) : idsOk G (.row i v) = (G i ≠ none) := by simp only [idsOk]
theorem idsOk_ptr (G : AHeap) (i v : Nat) : idsOk G (.ptr i v) = (G i ≠ none) := by simp only [idsOk]
theorem idsOk_rptr (G : AHeap) (i v j o : Nat) : idsOk G (.rptr i v j o) = (G i ≠ none) := by simp only [idsOk]
theorem idsOk_agg (G : AHeap) (cs : List AV) : idsOk G (.agg cs) = idsOkL G cs := by simp only [idsOk]
theorem idsOk_tup (G : AHeap) (cs : List AV) : idsOk G (.tup cs) = idsOkL G cs := by simp only [idsOk]
theorem idsOk_clo (G : AHeap) (f : Fn) (fs cs : List AV) : idsOk G (.clo f fs cs) = (idsOkL G fs ∧ idsOkL G cs) := by simp only [idsOk]
theorem idsOkL_nil (G : AHeap) : idsOkL G [] = True := by simp only [idsOkL]
theorem idsOkL_cons (G : AHeap) (a : AV) (r : List AV) : idsOkL G (a :: r) = (idsOk G a ∧ idsOkL G r) := by simp only [idsOkL]
theorem keep0' (H' : AHeap) : KeepHigh heap0 H' = True := eq_true (keep0 H')
theorem keepLow' {H H' : AHeap} {i : Nat} {c : Chunk} (hi : i < 1000000) : KeepHigh (hset H i c) H' = KeepHigh H H' := by
  refine propext ⟨fun h j hj hn => h j hj ?_, keep_low hi⟩
  unfold hset
  rw [if_neg (by omega)]
  exact hn
theorem keepHigh' {H H' : AHeap} {i : Nat} {c : Chunk} (hi : 1000000 ≤ i) : KeepHigh (hset H i c) H' = (H' i ≠ none ∧ KeepHigh H H') := by
  refine propext ⟨fun h => ⟨h i hi (by unfold hset; rw [if_pos rfl]; simp), fun j hj hn => h j hj ?_⟩, fun h => keep_high h.1 h.2⟩
  unfold hset
  split
  · simp
  · exact hn
attribute [go_sem] subA_p subA_row subA_ptr subA_clo subA_rptr subA_agg subA_tup subAL_nil subAL_cons envL_nil envL_cons heapL_nil heapL_cons subE_nil subE_cons subC_box subC_row subC_shut subH_nil subH_cons idsE_nil idsE_cons idsC_nil idsC_box idsC_row idsC_shut
  idsOk_p idsOk_row idsOk_ptr idsOk_rptr idsOk_agg idsOk_tup idsOk_clo idsOkL_nil idsOkL_cons keep0' keepLow' keepHigh'

theorem subE_at {e : Env} : ∀ {l : List (Nat × AV)}, subE e l → ∀ t, envL l t = .dead ∨ subA (e t) (envL l t)
  | [], _, t => .inl rfl
  | (d, v) :: r, h, t => by
    unfold envL upd
    split
    · rename_i ht; subst ht; exact .inr h.1
    · exact subE_at h.2 t
theorem subH_at {H : AHeap} : ∀ {l : List (Nat × Chunk)}, subH H l → ∀ i c', heapL l i = some c' → ∃ c, H i = some c ∧ subC (some c) c'
  | [], _, i, c', h => by cases h
  | (d, v) :: r, h, i, c', hi => by
    unfold heapL hset at hi
    split at hi
    · rename_i ht
      subst ht
      simp only [Option.some.injEq] at hi
      subst hi
      have h1 := h.1
      cases hH : H i with
      | none => rw [hH] at h1; exact h1.elim
      | some c => rw [hH] at h1; exact ⟨c, rfl, h1⟩
    · exact subH_at h.2 i c' hi
theorem idsE_at {G : AHeap} : ∀ {l : List (Nat × AV)}, idsE G l → EnvIds (envL l) G
  | [], _, t => trivial
  | (d, v) :: r, h, t => by
    unfold envL upd
    split
    · exact h.1
    · exact idsE_at h.2 t
theorem idsC_at {G : AHeap} : ∀ {l : List (Nat × Chunk)}, idsC G l → BoxIds (heapL l) G
  | [], _, i, cs, h => by cases h
  | (d, c) :: r, h, i, cs, hi => by
    have hr : idsC G r := by
      cases c with
      | box cs => exact h.2
      | row => exact h
      | shut => exact h
    unfold heapL hset at hi
    split at hi
    · simp only [Option.some.injEq] at hi
      subst hi
      exact h.1
    · exact idsC_at hr i cs hi

theorem weakL {e : Env} {H : AHeap} {l : List (Nat × AV)} {hl : List (Nat × Chunk)} (h : subE e l ∧ subH H hl ∧ idsE (heapL hl) l ∧ idsC (heapL hl) hl ∧ KeepHigh H (heapL hl)) : Weak e H (envL l) (heapL hl) := fun C I L tm w hs => by
  obtain ⟨h1, h2, h3, h4, h5⟩ := h
  have w0 : Weak e H e H := Weak.refl _ _
  refine ⟨I, L.to (heapL hl), ?_⟩
  exact
  { below := hs.below
    mem := hs.mem
    memC := hs.memC
    memN := hs.memN
    frame := hs.frame
    loc := fun i => by
      cases hi : C.L0 i with
      | none => trivial
      | some l0 =>
        have h0 := hs.loc i
        rw [hi] at h0
        have hL : L i ≠ none := by
          cases l0 with
          | box b => intro e; rw [e] at h0; cases h0
          | row v hdr sz =>
            obtain ⟨_, _, h0, _⟩ := h0
            intro e; rw [e] at h0; cases h0
        have hH : H i ≠ none := by
          cases hLi : L i with
          | none => exact absurd hLi hL
          | some l =>
            obtain ⟨c, hc⟩ := hs.dom i l hLi
            rw [hc]; simp
        have e := to_some (L := L) (h5 i (C.hL0 i l0 hi) hH)
        rw [e]
        exact h0
    blkF := fun id l b hl hb => hs.blkF id l b (to_eq hl).1 hb
    size := hs.size
    env := fun t => by
      rcases subE_at h1 t with h | h
      · rw [h]; exact .dead _
      · exact (subA_ok (hs.env t) h).to (idsE_at h3 t)
    dom := fun id l hl => (to_eq hl).2
    chunk := fun id ch hch => by
      obtain ⟨c, hc1, hc2⟩ := subH_at h2 id ch hch
      have hc := hs.chunk id c hc1
      have hid : L.to (heapL hl) id = L id := to_some (by rw [hch]; simp)
      cases c with
      | box cs =>
        cases ch with
        | box ds =>
          have hq : subAL cs ds := hc2
          obtain ⟨q1, q2⟩ := subAL_get hq
          obtain ⟨b, arr, e, g1, g2, g3, g4, g5, g6⟩ := hc
          refine ⟨b, arr, e, hid.trans g1, g2, g3.trans q1, fun j u c hu hc => ?_, g5, g6⟩
          obtain ⟨a, ha⟩ : ∃ a, cs[j]? = some a := by
            have hj : j < arr.size := (Array.getElem?_eq_some_iff.1 hu).1
            exact ⟨cs[j]'(by omega), by simp [g3 ▸ hj]⟩
          exact (subA_ok (g4 j u a hu ha) (q2 j a c ha hc)).to (idsOkL_get (idsC_at h4 id ds hch) j c hc)
        | row => cases hc2
        | shut => cases hc2
      | row ver e sz es =>
        have hq : Chunk.row ver e sz es = ch := by cases ch <;> exact hc2
        subst hq
        obtain ⟨hdr, us, g1, g2⟩ := hc
        exact ⟨hdr, us, hid.trans g1, g2⟩
      | shut ver es =>
        have hq : Chunk.shut ver es = ch := by cases ch <;> exact hc2
        subst hq
        obtain ⟨hdr, sz, g1, g2⟩ := hc
        exact ⟨hdr, sz, hid.trans g1, g2⟩
    blkB := fun id l b hl hb => hs.blkB id l b (to_eq hl).1 hb
    apart := fun i j li lj b hi hj hbi hbj => hs.apart i j li lj b (to_eq hi).1 (to_eq hj).1 hbi hbj }
mutual
theorem pleP_refl : ∀ a : PV, pleP a a
  | .agg a => by rw [pleP_agg]; exact pleL_refl a
  | .tup a => by rw [pleP_tup]; exact pleL_refl a
  | .val v => by rw [pleP_val]
  | .lst a => by rw [pleP_lst]
  | .emp => by simp only [pleP]
  | .eptr _ _ => by simp only [pleP]
  | .clo _ _ _ => by simp only [pleP]
theorem pleL_refl : ∀ a : List PV, pleL a a
  | [] => by unfold pleL; trivial
  | a :: r => by unfold pleL; exact ⟨pleP_refl a, pleL_refl r⟩
end

theorem stPtr_app {env : Env} {d : Option Tmp} {t : TypeId} {pos : String} {af : Array Edge} {g : Option (Nat × Bool)} (a : Nat) (s : Operand) (t1 t2 : TypeId) :
    stPtr ⟨d, .call ⟨.builtin .append, #[.tmp a, s], #[t1, t2]⟩, t, pos, af, g⟩ env = ((∃ v, env a = .row a v) ∧ ∃ x, ev env s = .p x) := rfl
theorem ex_row (i j v : Nat) : (∃ u, AV.row i v = .row j u) = (i = j) := by
  apply propext
  constructor
  · rintro ⟨u, h⟩; cases h; rfl
  · rintro rfl; exact ⟨v, rfl⟩
theorem ex_p (x : PV) : (∃ y, AV.p x = .p y) = True := eq_true ⟨x, rfl⟩
attribute [go_sem] stPtr_app ex_row ex_p exists_eq'
section
variable {P : Program} {env : Env} {H : AHeap} {o : Oper} {W : Env → AHeap → Prop} {k : FuncId} {ps ps' : List PV} {b : Bool}
theorem callfG (id : Nat) {r : RV} (c : CallF P k ps fun x => x = r) (he : callPs o (ev env) H = some (k, ps', b)) (hp : pleL ps' ps) (hb : b = true → r.flat = true)
    (hf : freeN H id ((placeA id r).2 - id)) (hW : W (putA env o.dst (placeA id r).1) (placeH id H r)) : callK P o W env H := callf_go id (c.args (pleL_ok _ _ hp)) he hb hf hW
theorem callGs (ids : List Nat) {x : PV} (c : CallV P k ps fun r => r = x) (he : callPs o (ev env) (sealIds ids H) = some (k, ps', b)) (hp : pleL ps' ps) (hb : b = true → x.scalar = true)
    (hW : W (putA env o.dst (.p x)) (sealIds ids H)) : callK P o W env H := call_shut ids (c.args (pleL_ok _ _ hp)) he hb hW
theorem callfGs (ids : List Nat) (id : Nat) {r : RV} (c : CallF P k ps fun x => x = r) (he : callPs o (ev env) (sealIds ids H) = some (k, ps', b)) (hp : pleL ps' ps) (hb : b = true → r.flat = true)
    (hf : freeN (sealIds ids H) id ((placeA id r).2 - id)) (hW : W (putA env o.dst (placeA id r).1) (placeH id (sealIds ids H) r)) : callK P o W env H := callf_shut ids id (c.args (pleL_ok _ _ hp)) he hb hf hW
end
noncomputable def giv {α : Type} (p : Prop) (x : α) : Option α := open Classical in if p then some x else none
theorem giv_s {α : Type} {p : Prop} {x r : α} (h : giv p x = some r) : p ∧ x = r := by
  unfold giv at h
  split at h
  · exact ⟨by assumption, by simpa using h⟩
  · cases h
end Go.Abs
/- What a printed function answers. Program-independent. -/
namespace Go.Abs

def Ok {α : Type} (x : Option α) (Q : α → Prop) : Prop := ∃ r, x = some r ∧ Q r
section
variable {α β σ O : Type} {Q : O → Prop}
theorem Ok.mk {r : O} (h : Q r) : Ok (some r) Q := ⟨r, rfl, h⟩
theorem Ok.eq {x : Option α} {r : α} (h : Ok x (fun y => y = r)) : x = some r := by obtain ⟨y, h1, rfl⟩ := h; exact h1
theorem Ok.of {x : Option α} {r : α} (h : x = some r) : Ok x (fun y => y = r) := ⟨r, h, rfl⟩
theorem Ok.mono {x : Option O} {Q' : O → Prop} (h : Ok x Q) (hq : ∀ r, Q r → Q' r) : Ok x Q' := by obtain ⟨r, h1, h2⟩ := h; exact ⟨r, h1, hq r h2⟩
theorem ok_chk {p : Prop} [Decidable p] {x : Option O} (hp : p) (h : Ok x Q) : Ok (chk p x) Q := by unfold chk; rw [if_pos hp]; exact h
theorem ok_cond {b : Bool} {x y : Option O} (h1 : b = true → Ok x Q) (h2 : b = false → Ok y Q) : Ok (cond b x y) Q := by
  cases b
  · exact h2 rfl
  · exact h1 rfl
theorem ok_t {b : Bool} {x y : Option O} (hb : b = true) (h1 : Ok x Q) : Ok (cond b x y) Q := by subst hb; exact h1
theorem ok_f {b : Bool} {x y : Option O} (hb : b = false) (h1 : Ok y Q) : Ok (cond b x y) Q := by subst hb; exact h1
theorem ok_thn {x : Option α} {k : α → Option O} {R : α → Prop} (h : Ok x R) (hk : ∀ r, R r → Ok (k r) Q) : Ok (thn x k) Q := by
  obtain ⟨r, rfl, h2⟩ := h
  exact hk r h2
theorem ok_eq {x : Option α} {k : α → Option O} {r : α} (h : x = some r) (hk : Ok (k r) Q) : Ok (thn x k) Q := by subst h; exact hk
theorem ok_at {l : List α} {k : α → Option O} {i : Nat} (hi : i < l.length) (h : Ok (k l[i]) Q) : Ok (thn l[i]? k) Q := ok_eq (List.getElem?_eq_getElem hi) h
theorem ok_atZ {l : List α} {k : α → Option O} {i : Int} (h0 : 0 ≤ i) (hi : i.toNat < l.length) (h : Ok (k l[i.toNat]) Q) : Ok (thn (atZ l i) k) Q :=
  ok_eq (by unfold atZ; rw [if_pos h0]; exact List.getElem?_eq_getElem hi) h
theorem ok_forN {f : Nat → σ → (σ → Option O) → (σ → Option O) → Option O} {K : σ → Option O} (φ : Nat → σ → Prop) {n i : Nat} {s : σ} (hi : i ≤ n) (h0 : φ i s)
    (hr : ∀ j s (nxt : σ → Option O), i ≤ j → j < n → φ j s → (∀ s', φ (j + 1) s' → Ok (nxt s') Q) → Ok (f j s nxt K) Q) (he : ∀ s, φ n s → Ok (K s) Q) : Ok (forN f (n - i) i s K) Q := by
  have key : ∀ k j s, j + k = n → i ≤ j → φ j s → Ok (forN f k j s K) Q := by
    intro k
    induction k with
    | zero => intro j s hj _ h; have : j = n := by omega
              subst this; exact he s h
    | succ k ih => intro j s hj hij h; exact hr j s _ hij (by omega) h fun s' h' => ih (j + 1) s' (by omega) (by omega) h'
  exact key (n - i) i s (by omega) (Nat.le_refl _) h0
theorem ok_iter {f : σ → (σ → Option O) → (σ → Option O) → Option O} {K : σ → Option O} (φ : σ → Prop) (μ : σ → Nat) {n : Nat} {s : σ} (h0 : φ s) (hm : μ s < n)
    (hr : ∀ s (nxt : σ → Option O), φ s → (∀ s', φ s' → μ s' < μ s → Ok (nxt s') Q) → Ok (f s nxt K) Q) : Ok (iter f n s K) Q := by
  have key : ∀ n s, φ s → μ s < n → Ok (iter f n s K) Q := by
    intro n
    induction n with
    | zero => intro s _ h; omega
    | succ n ih => intro s h hm; exact hr s _ h fun s' h' hlt => ih s' h' (by omega)
  exact key n s h0 hm
theorem wrapI {n : Int} (h : -9223372036854775808 ≤ n ∧ n ≤ 9223372036854775807) : IntKind.i64.wrap n = n := IntWalk.i64_in n (by omega)
end
theorem giv_t {α : Type} {p : Prop} {x : α} (h : p) : giv p x = some x := by unfold giv; rw [if_pos h]
theorem ok_map {α β O : Type} {Q : O → Prop} {f : Nat → List β → (List β → Option O) → (List β → Option O) → Option O} {K : List β → Option O} (l : List α) (g : α → β)
    (hr : ∀ j (s : List β) (nxt : List β → Option O) (hj : j < l.length), s.length = j → Ok (nxt (s ++ [g l[j]])) Q → Ok (f j s nxt K) Q) (he : Ok (K (l.map g)) Q) : Ok (forN f (l.length - 0) 0 [] K) Q := by
  refine ok_forN (fun j s => j ≤ l.length ∧ s = (l.take j).map g) (Nat.zero_le _) ⟨Nat.zero_le _, rfl⟩ ?_ ?_
  · rintro j s nxt _ hj ⟨_, rfl⟩ hn
    refine hr j _ nxt hj (by simp; omega) (hn _ ⟨hj, ?_⟩)
    rw [List.take_add_one, List.getElem?_eq_getElem hj, Option.toList_some, List.map_append]
    rfl
  · rintro s ⟨_, rfl⟩
    rw [List.take_length]
    exact he
end Go.Abs
/- Parts of triples: plain law. -/
namespace Go.Proofs.YtdlohnchnneaeaaGreat
open Go.Abs

theorem sort_up {t : Types} {s : Sorts} (ht : OkT t) (hs : ∀ i, i < t.nodes.length → sortNE t s i = 0) (b : Int) : ∀ a : Nat, a < t.nodes.length → isB t a b = true → s.nodes.getD b.toNat default = s.nodes.getD a default := by
  intro a
  induction a using Nat.strongRecOn with
  | _ a ih =>
    intro ha hb
    rw [isB_succ (ht.par' ha), Bool.or_eq_true] at hb
    rcases hb with h | h
    · have : (a : Int) = b := of_decide_eq_true h
      subst this
      rw [Int.toNat_natCast]
    · have hq := ht.par a ha
      by_cases h0 : (t.nodes.getD a default).parent < 0
      · rw [isB_neg h0] at h; cases h
      obtain ⟨q, hqq⟩ : ∃ q : Nat, (t.nodes.getD a default).parent = q := ⟨_, (Int.toNat_of_nonneg (by omega)).symm⟩
      rw [hqq] at h hq
      rw [ih q (by omega) (by omega) h]
      have h1 := hs a ha
      unfold sortNE at h1
      split at h1
      · cases h1
      · split at h1
        · cases h1
        · rename_i h2
          rw [hqq, Int.toNat_natCast] at h2
          by_cases h3 : s.nodes.getD q default = s.nodes.getD a default
          · exact h3
          · exact absurd ⟨by omega, h3⟩ h2

structure VTr (s : Sorts) (h : Host) : Prop where
  ok : OkTr s h.graph
  vals : h.values.length = h.graph.nodes.length
  ends : ∀ i, i < h.graph.edges.length → ∀ k, k ≠ 2 → edgeS s h.graph i = k → nodeI s h.graph (h.graph.edges.getD i default).src = k ∧ nodeI s h.graph (h.graph.edges.getD i default).dst = k

theorem vTr {t : Types} {s : Sorts} {h : Host} (hf : FewT t) (hv : validTr t s h = 0) : VTr s h := by
  have ho := okTr hv
  unfold validTr at hv
  split at hv
  · rename_i h1; exact absurd hv h1
  rename_i h1
  have h1 : sortsE t s = 0 := by simpa using h1
  unfold sortsE at h1
  split at h1
  · rename_i h2; exact absurd h1 h2
  rename_i hvt
  have ht := okTypes hf (by simpa using hvt)
  split at h1
  · cases h1
  rename_i hl
  split at h1
  · rename_i h2; exact absurd h1 h2
  rename_i hN
  have hNs := firstE_zero (by simpa using hN : firstE (sortNE t s) 0 t.nodes.length = 0)
  have hEs := firstE_zero h1
  unfold validH at hv
  split at hv
  · rename_i h2; exact absurd hv h2
  split at hv
  · rename_i h2; exact absurd hv h2
  split at hv
  · cases hv
  rename_i hvl
  split at hv
  · rename_i k hk
    exact absurd hv (firstI_some hk)
  split at hv
  · rename_i k hk
    exact absurd hv (firstI_some hk)
  rename_i he
  refine ⟨ho, by omega, fun i hi k hk2 hk => ?_⟩
  have h3 := firstI_all he i hi
  unfold edgeH at h3
  split at h3
  · cases h3
  rename_i hty
  have hfit : fitsT t (h.graph.edges.getD i default).type (h.graph.nodes.getD (h.graph.edges.getD i default).src.toNat default) (h.graph.nodes.getD (h.graph.edges.getD i default).dst.toNat default) = true := by
    split at h3
    · assumption
    · cases h3
  unfold fitsT at hfit
  simp only [Bool.and_eq_true, decide_eq_true_eq] at hfit
  obtain ⟨hg, ⟨h4, h5⟩, h6, h7⟩ := hfit
  obtain ⟨q, hq⟩ : ∃ q : Nat, (h.graph.edges.getD i default).type = q := ⟨_, (Int.toNat_of_nonneg h4).symm⟩
  have hql : q < t.edges.length := by rw [hq] at h5; omega
  have h8 := hEs q hql
  have hkq : s.edges.getD q default = k := by
    have := hk
    unfold edgeS at this
    rw [hq, Int.toNat_natCast] at this
    exact this
  unfold sortEE at h8
  split at h8
  · cases h8
  split at h8
  · cases h8
  rename_i h9
  rw [hkq] at h9
  rw [hq, Int.toNat_natCast] at h6 h7
  have kinds : ∀ a : Int, a ∈ [h.graph.nodes.getD (h.graph.edges.getD i default).src.toNat default, h.graph.nodes.getD (h.graph.edges.getD i default).dst.toNat default] → inB t a = true := by
    unfold givenT at hg
    split at hg
    · rename_i h10; exact absurd hg h10
    split at hg
    · cases hg
    · rename_i h10
      intro a ha
      by_cases h11 : inB t a = true
      · exact h11
      · exact absurd (List.any_eq_true.2 ⟨a, ha, by simpa using h11⟩) h10
  have sorts : ∀ a b : Int, inB t a = true → isB t a b = true → s.nodes.getD a.toNat default = s.nodes.getD b.toNat default := by
    intro a b ha hb
    unfold inB at ha
    simp only [Bool.and_eq_true, decide_eq_true_eq] at ha
    obtain ⟨m, hm⟩ : ∃ m : Nat, a = m := ⟨_, (Int.toNat_of_nonneg ha.1).symm⟩
    subst hm
    rw [Int.toNat_natCast]
    exact (sort_up ht hNs b m (by omega) hb).symm
  have e1 := sorts _ _ (kinds _ (by simp)) h6
  have e2 := sorts _ _ (kinds _ (by simp)) h7
  refine ⟨?_, ?_⟩
  · unfold nodeI nodeS
    rw [e1]
    by_cases h10 : s.nodes.getD (t.edges.getD q default).src.toNat default = k
    · exact h10
    · exact absurd (.inl h10) h9
  · unfold nodeI nodeS
    rw [e2]
    by_cases h10 : s.nodes.getD (t.edges.getD q default).dst.toNat default = k
    · exact h10
    · exact absurd (.inr ⟨fun h => absurd h h10, fun h => absurd h hk2⟩) h9

structure Asc (l : List Int) (n : Nat) : Prop where
  range : ∀ i (h : i < l.length), 0 ≤ l[i] ∧ l[i] < (n : Int)
  asc : ∀ i j (h : i < j) (hj : j < l.length), l[i] < l[j]
structure PartOk (g : Graph) (p : Part) : Prop where
  nodes : Asc p.nodes g.nodes.length
  edges : Asc p.edges g.edges.length
  ends : ∀ e ∈ p.edges, (g.edges.getD e.toNat default).src ∈ p.nodes ∧ (g.edges.getD e.toNat default).dst ∈ p.nodes
  small : p.nodes.length ≤ 1000 ∧ p.edges.length ≤ 1000

theorem pick_asc (q : Nat → Bool) (n : Nat) : Asc (pick q n) n := by
  have hp : (pick q n).Pairwise (· < ·) := by
    unfold pick
    rw [List.pairwise_map]
    refine ((List.pairwise_lt_range).filter _).imp ?_
    intro a b h
    exact Int.ofNat_lt.2 h
  have hm : ∀ x ∈ pick q n, 0 ≤ x ∧ x < (n : Int) := by
    intro x hx
    unfold pick at hx
    obtain ⟨a, ha, rfl⟩ := List.mem_map.1 hx
    have := List.mem_range.1 (List.mem_filter.1 ha).1
    exact ⟨Int.natCast_nonneg _, Int.ofNat_lt.2 this⟩
  exact ⟨fun i h => hm _ (List.getElem_mem h), fun i j h hj => List.pairwise_iff_getElem.1 hp i j (by omega) hj h⟩
theorem partX_ok {s : Sorts} {h : Host} (hv : VTr s h) {k : Int} (hk : k ≠ 2) : PartOk h.graph (partX s h.graph k) := by
  refine ⟨pick_asc _ _, pick_asc _ _, fun e he => ?_, ?_⟩
  · have he' : e ∈ pick _ _ := he
    rw [mem_pick] at he'
    obtain ⟨i, hi, h1, rfl⟩ := he'
    rw [Int.toNat_natCast]
    obtain ⟨h2, h3⟩ := hv.ends i hi k hk (by simpa using h1)
    obtain ⟨h4, h5⟩ := ends_of hv.ok (getD_mem hi)
    exact ⟨mem_part.2 ⟨h4, h2⟩, mem_part.2 ⟨h5, h3⟩⟩
  · have h1 := pick_len (fun i => decide (nodeS s h.graph i = k)) h.graph.nodes.length
    have h2 := pick_len (fun i => decide (edgeS s h.graph i = k)) h.graph.edges.length
    have h3 := hv.ok.nodes
    have h4 := hv.ok.edges
    exact ⟨by show (pick _ _).length ≤ _; omega, by show (pick _ _).length ≤ _; omega⟩
theorem Asc.inj {l : List Int} {n : Nat} (h : Asc l n) {i j : Nat} (hi : i < l.length) (hj : j < l.length) (e : l[i] = l[j]) : i = j := by
  rcases Nat.lt_trichotomy i j with h1 | h1 | h1
  · have := h.asc i j h1 hj; omega
  · exact h1
  · have := h.asc j i h1 hi; omega
def posL (l : List Int) (x : Int) : Nat := l.idxOf x
theorem Asc.pos {l : List Int} {n : Nat} (h : Asc l n) {i : Nat} (hi : i < l.length) {x : Int} (e : l[i] = x) : posL l x = i := by
  have hm : x ∈ l := by rw [← e]; exact List.getElem_mem hi
  have h1 : posL l x < l.length := List.idxOf_lt_length_iff.2 hm
  exact h.inj h1 hi (by rw [e]; exact List.getElem_idxOf h1)
end Go.Proofs.YtdlohnchnneaeaaGreat
/- Contracts proved by hand, in the form of the printed ones. -/
namespace Go.Proofs.YtdlohnchnneaeaaGreat
open Go.Abs

noncomputable def f_types_Valid (t : Types) : Option (ByteArray × Int) := giv (FewT t) (validT t)
theorem w_types_Valid (t : Types) (r : ByteArray × Int) (h : f_types_Valid t = some r) : CallV Go.Proofs.Tryz.prog 64 [encTypes t] (fun v => v = .tup [.val (.string r.1), .val (.int .i64 r.2)]) := by
  obtain ⟨h1, rfl⟩ := giv_s h
  exact valid_ok t h1
noncomputable def f_scarfjointref04_Valid (t : Types) : Option (ByteArray × Int) := giv (FewT t) (validT t)
theorem w_scarfjointref04_Valid (t : Types) (r : ByteArray × Int) (h : f_scarfjointref04_Valid t = some r) : CallV Go.Proofs.Tryz.prog 67 [encTypes t] (fun v => v = .tup [.val (.string r.1), .val (.int .i64 r.2)]) := by
  obtain ⟨h1, rfl⟩ := giv_s h
  exact rvalid_ok t h1
noncomputable def f_graph_Valid (g : Graph) : Option Int := giv (FewG g) (validG g)
theorem w_graph_Valid (g : Graph) (r : Int) (h : f_graph_Valid g = some r) : CallV Go.Proofs.Tryz.prog 75 [encGraph g] (fun v => v = .val (.int .i64 r)) := by
  obtain ⟨h1, rfl⟩ := giv_s h
  exact gvalid_ok g h1
noncomputable def f_scarfjointref05_Valid (g : Graph) : Option Int := giv (FewG g) (validG g)
theorem w_scarfjointref05_Valid (g : Graph) (r : Int) (h : f_scarfjointref05_Valid g = some r) : CallV Go.Proofs.Tryz.prog 78 [encGraph g] (fun v => v = .val (.int .i64 r)) := by
  obtain ⟨h1, rfl⟩ := giv_s h
  exact rgvalid_ok g h1
noncomputable def f_host_Valid (t : Types) (h : Host) : Option (Int × Int) := giv (FewT t ∧ FewH h) (validH t h)
theorem w_host_Valid (t : Types) (h : Host) (r : Int × Int) (hr : f_host_Valid t h = some r) : CallV Go.Proofs.Tryz.prog 54 [encTypes t, encHost h] (fun v => v = .tup [.val (.int .i64 r.1), .val (.int .i64 r.2)]) := by
  obtain ⟨⟨h1, h2⟩, rfl⟩ := giv_s hr
  exact hvalid_ok t h1 h h2
noncomputable def f_scarfjointref15_Valid (t : Types) (h : Host) : Option (Int × Int) := giv (FewT t ∧ FewH h) (validH t h)
theorem w_scarfjointref15_Valid (t : Types) (h : Host) (r : Int × Int) (hr : f_scarfjointref15_Valid t h = some r) : CallV Go.Proofs.Tryz.prog 55 [encTypes t, encHost h] (fun v => v = .tup [.val (.int .i64 r.1), .val (.int .i64 r.2)]) := by
  obtain ⟨⟨h1, h2⟩, rfl⟩ := giv_s hr
  exact rhvalid_ok t h1 h h2
noncomputable def f_triple_Valid (t : Types) (s : Sorts) (h : Host) : Option Int := giv (FewT t ∧ FewS s ∧ FewH h) (validTr t s h)
theorem w_triple_Valid (t : Types) (s : Sorts) (h : Host) (r : Int) (hr : f_triple_Valid t s h = some r) : CallV Go.Proofs.Tryz.prog 22 [encTypes t, encSorts s, encHost h] (fun v => v = .val (.int .i64 r)) := by
  obtain ⟨⟨h1, h2, h3⟩, rfl⟩ := giv_s hr
  exact trvalid_ok t h1 s h2 h h3
noncomputable def f_scarfjointref52_Valid (t : Types) (s : Sorts) (h : Host) : Option Int := giv (FewT t ∧ FewS s ∧ FewH h) (validTr t s h)
theorem w_scarfjointref52_Valid (t : Types) (s : Sorts) (h : Host) (r : Int) (hr : f_scarfjointref52_Valid t s h = some r) : CallV Go.Proofs.Tryz.prog 23 [encTypes t, encSorts s, encHost h] (fun v => v = .val (.int .i64 r)) := by
  obtain ⟨⟨h1, h2, h3⟩, rfl⟩ := giv_s hr
  exact rtrvalid_ok t h1 s h2 h h3
noncomputable def f_triple_Swap (t : Types) (s : Sorts) : Option (Sorts × Int) := giv (FewT t ∧ FewS s) (swapX t s)
theorem w_triple_Swap (t : Types) (s : Sorts) (r : Sorts × Int) (hr : f_triple_Swap t s = some r) : CallV Go.Proofs.Tryz.prog 14 [encTypes t, encSorts s] (fun v => v = .tup [.agg [.lst (r.1.nodes.map encI), .lst (r.1.edges.map encI)], .val (.int .i64 r.2)]) := by
  obtain ⟨⟨h1, h2⟩, rfl⟩ := giv_s hr
  exact swap_ok t h1 s h2
noncomputable def f_scarfjointref52_Swap (t : Types) (s : Sorts) : Option (Sorts × Int) := giv (FewT t ∧ FewS s) (swapX t s)
theorem w_scarfjointref52_Swap (t : Types) (s : Sorts) (r : Sorts × Int) (hr : f_scarfjointref52_Swap t s = some r) : CallV Go.Proofs.Tryz.prog 15 [encTypes t, encSorts s] (fun v => v = .tup [.agg [.lst (r.1.nodes.map encI), .lst (r.1.edges.map encI)], .val (.int .i64 r.2)]) := by
  obtain ⟨⟨h1, h2⟩, rfl⟩ := giv_s hr
  exact rswap_ok t h1 s h2
noncomputable def f_triple_Links (t : Types) (s : Sorts) (h : Host) : Option (List GPair × Int) := giv (FewT t ∧ FewS s ∧ FewH h) (linksE t s h)
theorem w_triple_Links (t : Types) (s : Sorts) (h : Host) (r : List GPair × Int) (hr : f_triple_Links t s h = some r) : CallV Go.Proofs.Tryz.prog 11 [encTypes t, encSorts s, encHost h] (fun v => v = .tup [.lst (r.1.map encPair), .val (.int .i64 r.2)]) := by
  obtain ⟨⟨h1, h2, h3⟩, rfl⟩ := giv_s hr
  exact Links_ok t h1 s h2 h h3
noncomputable def f_scarfjointref52_Part (s : Sorts) (g : Graph) (k : Int) : Option Part := giv (OkTr s g) (partX s g k)
theorem w_scarfjointref52_Part (s : Sorts) (g : Graph) (k : Int) (r : Part) (hr : f_scarfjointref52_Part s g k = some r) : CallV Go.Proofs.Tryz.prog 35 [encSorts s, encGraph g, .val (.int .i64 k)] (fun v => v = .agg [.lst (r.nodes.map encI), .lst (r.edges.map encI)]) := by
  obtain ⟨h1, rfl⟩ := giv_s hr
  exact Part_ok s g h1 k
noncomputable def f_token_IsName (s : ByteArray) : Option Bool := giv (s.size ≤ 1000000) (nameB s)
theorem w_token_IsName (s : ByteArray) (r : Bool) (h : f_token_IsName s = some r) : CallV Go.Proofs.Tryz.prog 118 [.val (.string s)] (fun v => v = .val (.bool r)) := by
  obtain ⟨h1, rfl⟩ := giv_s h
  exact isName_ok s h1
noncomputable def f_scarfjointref01_IsName (s : ByteArray) : Option Bool := giv (s.size ≤ 1000000) (nameB s)
theorem w_scarfjointref01_IsName (s : ByteArray) (r : Bool) (h : f_scarfjointref01_IsName s = some r) : CallV Go.Proofs.Tryz.prog 127 [.val (.string s)] (fun v => v = .val (.bool r)) := by
  obtain ⟨h1, rfl⟩ := giv_s h
  exact rIsName_ok s h1
noncomputable def f_slices_Clone_int (l : List Int) : Option (List Int) := giv (l.length ≤ 1000000) l
theorem w_slices_Clone_int (l : List Int) (r : List Int) (h : f_slices_Clone_int l = some r) : CallF Go.Proofs.Tryz.prog 46 [.lst (l.map encI)] (fun v => v = .row 3 1 (r.map encI)) := by
  obtain ⟨h1, rfl⟩ := giv_s h
  exact clone_int l h1
noncomputable def f_slices_Clone_string (l : List ByteArray) : Option (List ByteArray) := giv (l.length ≤ 1000000) l
theorem w_slices_Clone_string (l : List ByteArray) (r : List ByteArray) (h : f_slices_Clone_string l = some r) : CallF Go.Proofs.Tryz.prog 136 [.lst (l.map encS)] (fun v => v = .row 9 1 (r.map encS)) := by
  obtain ⟨h1, rfl⟩ := giv_s h
  exact clone_str l h1
noncomputable def f_slices_Clone_Edge (l : List Edge) : Option (List Edge) := giv (l.length ≤ 1000000) l
theorem w_slices_Clone_Edge (l : List Edge) (r : List Edge) (h : f_slices_Clone_Edge l = some r) : CallF Go.Proofs.Tryz.prog 44 [.lst (l.map encEdge)] (fun v => v = .row 73 3 (r.map encEdge)) := by
  obtain ⟨h1, rfl⟩ := giv_s h
  exact clone_edge l h1
def f_scarfjointlaw52_awake : Option Bool := some true
theorem w_scarfjointlaw52_awake (r : Bool) (h : f_scarfjointlaw52_awake = some r) : CallV Go.Proofs.Tryz.prog 9 [] (fun v => v = .val (.bool r)) := by
  cases h
  exact awake_ok
def f_scarfjointref52_Example : Option (Types × Sorts) := some (exT, exS)
theorem w_scarfjointref52_Example (r : Types × Sorts) (h : f_scarfjointref52_Example = some r) : CallV Go.Proofs.Tryz.prog 25 [] (fun v => v = .tup [.agg [.lst (r.1.nodes.map encNode), .lst (r.1.edges.map encEdgeT)], .agg [.lst (r.2.nodes.map encI), .lst (r.2.edges.map encI)]]) := by
  cases h
  exact Example_ok
end Go.Proofs.YtdlohnchnneaeaaGreat
