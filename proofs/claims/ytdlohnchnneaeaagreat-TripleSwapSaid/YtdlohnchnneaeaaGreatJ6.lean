/- Joined texts, part 6: lemmas for the statement. No condition. -/
import Derived.Test.YtdlohnchnneaeaaGreatJ5
import Derived.Test.YtdlohnchnneaeaaGreatJ3
import Derived.ProofKit
import Derived.SizedLaws
import Derived.Carry
import Derived.Test.YtdlohnchnneaeaaGreatRows
set_option linter.unusedSimpArgs false
set_option linter.unusedVariables false
/- Layer 52: what Links uses: pairs in lists, sorts of nodes, the order of pairs. -/
namespace Go.Proofs.YtdlohnchnneaeaaGreat
open Go.Abs

def pEq (x y : GPair) : Bool := decide (x.a = y.a) && decide (x.b = y.b)
theorem pEq_iff {x y : GPair} : pEq x y = true ↔ x = y := by cases x; cases y; simp [pEq]
instance : DecidableEq GPair := fun x y => decidable_of_iff (pEq x y = true) pEq_iff

theorem ix_pair (l : List GPair) (y : GPair) (hl : l.length ≤ 1000000) :
    CallV Go.Proofs.Tryz.prog 60 [.lst (l.map encPair), .agg (encPair y)] (fun r => r = .val (.int .i64 (idxOf (pEq y) l))) := by
  refine callV_of_cw [] Ty.mixed Go.Proofs.Tryz.func60 rfl (by kernel_rfl) (by simp [Go.Proofs.Tryz.ntmps60]) ?_; rw [Go.Proofs.Tryz.ntmps60, Go.Proofs.Tryz.results60]
  simp -implicitDefEqProofs only [go_sem, Nat.reduceEqDiff, Nat.reduceLT, Nat.reduceLeDiff, Nat.reduceMul, Nat.reduceAdd, reduceIte, reduceCtorEq, Nat.le_refl, Nat.not_lt_zero, Nat.zero_le, Nat.zero_lt_succ, decide_true, decide_false, Nat.reduceBEq, Nat.reduceSub, Int.reduceToNat, Bool.not_not, exists_eq', ← List.map_take, ← List.map_drop, encPair]
  refine loop_rule (σ := Nat) (fun x => (upd (upd (upd (upd env0 0 (.p (.lst (l.map encPair)))) 3 (.ptr 3 0)) 7 (.p (.val (.int .i64 l.length)))) 8 (.p (.val (.int .i64 x))))) (fun x => (hset heap0 3 (.box [.p (.val (.int .i64 y.a)), .p (.val (.int .i64 y.b))])))
    (fun x => x ≤ l.length ∧ ∀ j, j < x → pEq y (l.getD j default) = false) (fun x => l.length - x) 0 ⟨Nat.zero_le _, fun j hj => absurd hj (Nat.not_lt_zero j)⟩ (weak_mk (by repeat (first | exact sub_env0 _ | refine sub_upd ?_ (by first | rfl | simp [upd]))) (by repeat (first | exact hsub0 _ | refine hsub_hset ?_ (by first | rfl | simp [hset]))) (by repeat (first | exact ids_env0 _ | refine ids_upd ?_ (by simp [idsOk, idsOkL, hset]))) (by repeat (first | exact boxIds0 _ | refine boxIds_row ?_ | refine boxIds_shut ?_ | refine boxIds_box ?_ (by simp [idsOk, idsOkL, hset]))) (by repeat (first | exact keep0 _ | refine keep_low (by decide) ?_ | refine keep_high (by simp [hset]) ?_))) ?_
  rintro x ⟨hx, hq⟩
  simp -implicitDefEqProofs only [go_sem, Nat.reduceEqDiff, Nat.reduceLT, Nat.reduceLeDiff, Nat.reduceMul, Nat.reduceAdd, reduceIte, reduceCtorEq, Nat.le_refl, Nat.not_lt_zero, Nat.zero_le, Nat.zero_lt_succ, decide_true, decide_false, Nat.reduceBEq, Nat.reduceSub, Int.reduceToNat, Bool.not_not, exists_eq', ← List.map_take, ← List.map_drop]
  refine condC_split (fun hc => ?_) (fun hc => ?_)
  · have hlt : x < l.length := by simpa using hc
    simp -implicitDefEqProofs only [go_sem, Nat.reduceEqDiff, Nat.reduceLT, Nat.reduceLeDiff, Nat.reduceMul, Nat.reduceAdd, reduceIte, reduceCtorEq, Nat.le_refl, Nat.not_lt_zero, Nat.zero_le, Nat.zero_lt_succ, decide_true, decide_false, Nat.reduceBEq, Nat.reduceSub, Int.reduceToNat, Bool.not_not, exists_eq', ← List.map_take, ← List.map_drop, getD_map encPair hlt, hlt, encPair]
    refine draw_txt [.q, .q, .q, .q, .q, .q] (by kernel_rfl) ?_
    simp -implicitDefEqProofs only [go_sem, Nat.reduceEqDiff, Nat.reduceLT, Nat.reduceLeDiff, Nat.reduceMul, Nat.reduceAdd, reduceIte, reduceCtorEq, Nat.le_refl, Nat.not_lt_zero, Nat.zero_le, Nat.zero_lt_succ, decide_true, decide_false, Nat.reduceBEq, Nat.reduceSub, Int.reduceToNat, Bool.not_not, exists_eq', ← List.map_take, ← List.map_drop, getD_map encPair hlt, hlt, encPair]
    have hk : (decide (y.a = (l.getD x default).a) && decide (y.b = (l.getD x default).b)) = pEq y (l.getD x default) := rfl
    rw [hk]
    refine condC_split (fun hb => ?_) (fun hb => ?_) <;> simp -implicitDefEqProofs only [go_sem, Nat.reduceEqDiff, Nat.reduceLT, Nat.reduceLeDiff, Nat.reduceMul, Nat.reduceAdd, reduceIte, reduceCtorEq, Nat.le_refl, Nat.not_lt_zero, Nat.zero_le, Nat.zero_lt_succ, decide_true, decide_false, Nat.reduceBEq, Nat.reduceSub, Int.reduceToNat, Bool.not_not, exists_eq', ← List.map_take, ← List.map_drop]
    · exact (idxOf_at (p := pEq y) hlt hq hb).symm
    · exact loopN_mk (x + 1) ⟨hlt, all_succB hq hb⟩ (by omega) (by rw [wrap_succ hlt (by omega)]; exact (weak_mk (by repeat (first | exact sub_env0 _ | refine sub_upd ?_ (by first | rfl | simp [upd]))) (by repeat (first | exact hsub0 _ | refine hsub_hset ?_ (by first | rfl | simp [hset]))) (by repeat (first | exact ids_env0 _ | refine ids_upd ?_ (by simp [idsOk, idsOkL, hset]))) (by repeat (first | exact boxIds0 _ | refine boxIds_row ?_ | refine boxIds_shut ?_ | refine boxIds_box ?_ (by simp [idsOk, idsOkL, hset]))) (by repeat (first | exact keep0 _ | refine keep_low (by decide) ?_ | refine keep_high (by simp [hset]) ?_))))
  · have hge : l.length ≤ x := by simpa using hc
    simp -implicitDefEqProofs only [go_sem, Nat.reduceEqDiff, Nat.reduceLT, Nat.reduceLeDiff, Nat.reduceMul, Nat.reduceAdd, reduceIte, reduceCtorEq, Nat.le_refl, Nat.not_lt_zero, Nat.zero_le, Nat.zero_lt_succ, decide_true, decide_false, Nat.reduceBEq, Nat.reduceSub, Int.reduceToNat, Bool.not_not, exists_eq', ← List.map_take, ← List.map_drop, hc]
    rw [idxOf_none fun j hj => hq j (by omega)]
theorem has_pair (l : List GPair) (y : GPair) (hl : l.length ≤ 1000000) :
    CallV Go.Proofs.Tryz.prog 27 [.lst (l.map encPair), .agg (encPair y)] (fun r => r = .val (.bool (l.any (pEq y)))) := by
  refine callV_of_cw [] Ty.mixed Go.Proofs.Tryz.func27 rfl (by kernel_rfl) (by simp [Go.Proofs.Tryz.ntmps27]) ?_; rw [Go.Proofs.Tryz.ntmps27, Go.Proofs.Tryz.results27]
  simp -implicitDefEqProofs only [go_sem, Nat.reduceEqDiff, Nat.reduceLT, Nat.reduceLeDiff, Nat.reduceMul, Nat.reduceAdd, reduceIte, reduceCtorEq, Nat.le_refl, Nat.not_lt_zero, Nat.zero_le, Nat.zero_lt_succ, decide_true, decide_false, Nat.reduceBEq, Nat.reduceSub, Int.reduceToNat, Bool.not_not, exists_eq', ← List.map_take, ← List.map_drop, encPair]
  refine call_go (ix_pair l y hl) (by simp -implicitDefEqProofs only [go_sem, Nat.reduceEqDiff, Nat.reduceLT, Nat.reduceLeDiff, Nat.reduceMul, Nat.reduceAdd, reduceIte, reduceCtorEq, Nat.le_refl, Nat.not_lt_zero, Nat.zero_le, Nat.zero_lt_succ, decide_true, decide_false, Nat.reduceBEq, Nat.reduceSub, Int.reduceToNat, Bool.not_not, exists_eq', ← List.map_take, ← List.map_drop] <;> rfl) (scal rfl) ?_
  simp -implicitDefEqProofs only [go_sem, Nat.reduceEqDiff, Nat.reduceLT, Nat.reduceLeDiff, Nat.reduceMul, Nat.reduceAdd, reduceIte, reduceCtorEq, Nat.le_refl, Nat.not_lt_zero, Nat.zero_le, Nat.zero_lt_succ, decide_true, decide_false, Nat.reduceBEq, Nat.reduceSub, Int.reduceToNat, Bool.not_not, exists_eq', ← List.map_take, ← List.map_drop]
  exact idxOf_any

theorem equal_pair (a b : List GPair) (ha : a.length ≤ 1000000) : CallV Go.Proofs.Tryz.prog 13 [.lst (a.map encPair), .lst (b.map encPair)] (fun r => r = .val (.bool (decide (a = b)))) := by
  refine callV_of_cw [] Ty.mixed Go.Proofs.Tryz.func13 rfl (by kernel_rfl) (by simp [Go.Proofs.Tryz.ntmps13]) ?_; rw [Go.Proofs.Tryz.ntmps13, Go.Proofs.Tryz.results13]
  simp -implicitDefEqProofs only [go_sem, Nat.reduceEqDiff, Nat.reduceLT, Nat.reduceLeDiff, Nat.reduceMul, Nat.reduceAdd, reduceIte, reduceCtorEq, Nat.le_refl, Nat.not_lt_zero, Nat.zero_le, Nat.zero_lt_succ, decide_true, decide_false, Nat.reduceBEq, Nat.reduceSub, Int.reduceToNat, Bool.not_not, exists_eq', ← List.map_take, ← List.map_drop]
  refine condC_splitN (fun h1 => ?_) (fun h1 => ?_) <;> simp -implicitDefEqProofs only [go_sem, Nat.reduceEqDiff, Nat.reduceLT, Nat.reduceLeDiff, Nat.reduceMul, Nat.reduceAdd, reduceIte, reduceCtorEq, Nat.le_refl, Nat.not_lt_zero, Nat.zero_le, Nat.zero_lt_succ, decide_true, decide_false, Nat.reduceBEq, Nat.reduceSub, Int.reduceToNat, Bool.not_not, exists_eq', ← List.map_take, ← List.map_drop]
  · have h1' := of_decide_eq_true h1
    have he : a.length = b.length := by omega
    refine loop_rule (σ := Nat) (fun x => (upd (upd (upd (upd env0 0 (.p (.lst (a.map encPair)))) 1 (.p (.lst (b.map encPair)))) 12 (.p (.val (.int .i64 a.length)))) 13 (.p (.val (.int .i64 x)))))
      (fun x => heap0)
      (fun x => x ≤ a.length ∧ ∀ j, j < x → a.getD j default = b.getD j default) (fun x => a.length - x) 0 ⟨Nat.zero_le _, fun j hj => absurd hj (Nat.not_lt_zero j)⟩ (weak_mk (by repeat (first | exact sub_env0 _ | refine sub_upd ?_ (by first | rfl | simp [upd]))) (by repeat (first | exact hsub0 _ | refine hsub_hset ?_ (by first | rfl | simp [hset]))) (by repeat (first | exact ids_env0 _ | refine ids_upd ?_ (by simp [idsOk, idsOkL, hset]))) (by repeat (first | exact boxIds0 _ | refine boxIds_row ?_ | refine boxIds_shut ?_ | refine boxIds_box ?_ (by simp [idsOk, idsOkL, hset]))) (by repeat (first | exact keep0 _ | refine keep_low (by decide) ?_ | refine keep_high (by simp [hset]) ?_))) ?_
    rintro x ⟨hx, hq⟩
    simp -implicitDefEqProofs only [go_sem, Nat.reduceEqDiff, Nat.reduceLT, Nat.reduceLeDiff, Nat.reduceMul, Nat.reduceAdd, reduceIte, reduceCtorEq, Nat.le_refl, Nat.not_lt_zero, Nat.zero_le, Nat.zero_lt_succ, decide_true, decide_false, Nat.reduceBEq, Nat.reduceSub, Int.reduceToNat, Bool.not_not, exists_eq', ← List.map_take, ← List.map_drop]
    refine condC_split (fun hc => ?_) (fun hc => ?_)
    · have hc' := of_decide_eq_true hc
      have hx1 : x < a.length := by omega
      have hx2 : x < b.length := by omega
      
      simp -implicitDefEqProofs only [go_sem, Nat.reduceEqDiff, Nat.reduceLT, Nat.reduceLeDiff, Nat.reduceMul, Nat.reduceAdd, reduceIte, reduceCtorEq, Nat.le_refl, Nat.not_lt_zero, Nat.zero_le, Nat.zero_lt_succ, decide_true, decide_false, Nat.reduceBEq, Nat.reduceSub, Int.reduceToNat, Bool.not_not, exists_eq', ← List.map_take, ← List.map_drop, getD_map encPair hx1, getD_map encPair hx2, hx1, hx2, encPair]
      refine draw_txt [.q, .q, .q, .q, .q, .q, .q, .q, .q] (by kernel_rfl) ?_
      simp -implicitDefEqProofs only [go_sem, Nat.reduceEqDiff, Nat.reduceLT, Nat.reduceLeDiff, Nat.reduceMul, Nat.reduceAdd, reduceIte, reduceCtorEq, Nat.le_refl, Nat.not_lt_zero, Nat.zero_le, Nat.zero_lt_succ, decide_true, decide_false, Nat.reduceBEq, Nat.reduceSub, Int.reduceToNat, Bool.not_not, exists_eq', ← List.map_take, ← List.map_drop, getD_map encPair hx1, getD_map encPair hx2, hx1, hx2, encPair]
      have hk : (decide ((a.getD x default).a = (b.getD x default).a) && decide ((a.getD x default).b = (b.getD x default).b)) = pEq (a.getD x default) (b.getD x default) := rfl
      rw [hk]
      refine condC_splitN (fun h2 => ?_) (fun h2 => ?_) <;> simp -implicitDefEqProofs only [go_sem, Nat.reduceEqDiff, Nat.reduceLT, Nat.reduceLeDiff, Nat.reduceMul, Nat.reduceAdd, reduceIte, reduceCtorEq, Nat.le_refl, Nat.not_lt_zero, Nat.zero_le, Nat.zero_lt_succ, decide_true, decide_false, Nat.reduceBEq, Nat.reduceSub, Int.reduceToNat, Bool.not_not, exists_eq', ← List.map_take, ← List.map_drop, getD_map encPair hx1, getD_map encPair hx2, hx1, hx2, encPair]
      · exact loopN_mk (x + 1) ⟨hx1, all_succP hq (pEq_iff.1 h2)⟩ (by omega) (by rw [wrap_succ hx1 (by omega)]; exact (weak_mk (by repeat (first | exact sub_env0 _ | refine sub_upd ?_ (by first | rfl | simp [upd]))) (by repeat (first | exact hsub0 _ | refine hsub_hset ?_ (by first | rfl | simp [hset]))) (by repeat (first | exact ids_env0 _ | refine ids_upd ?_ (by simp [idsOk, idsOkL, hset]))) (by repeat (first | exact boxIds0 _ | refine boxIds_row ?_ | refine boxIds_shut ?_ | refine boxIds_box ?_ (by simp [idsOk, idsOkL, hset]))) (by repeat (first | exact keep0 _ | refine keep_low (by decide) ?_ | refine keep_high (by simp [hset]) ?_))))
      · have : a ≠ b := fun h => by rw [h, pEq_iff.2 rfl] at h2; cases h2
        simp [this]
    · have hc' := of_decide_eq_false hc
      simp -implicitDefEqProofs only [go_sem, Nat.reduceEqDiff, Nat.reduceLT, Nat.reduceLeDiff, Nat.reduceMul, Nat.reduceAdd, reduceIte, reduceCtorEq, Nat.le_refl, Nat.not_lt_zero, Nat.zero_le, Nat.zero_lt_succ, decide_true, decide_false, Nat.reduceBEq, Nat.reduceSub, Int.reduceToNat, Bool.not_not, exists_eq', ← List.map_take, ← List.map_drop]
      have : a = b := by
        apply List.ext_getElem he
        intro k hk1 hk2
        have := hq k (by omega)
        simpa [hk1, hk2] using this
      simp [this]
  · have h1' := of_decide_eq_false h1
    have : a ≠ b := fun h => h1' (by rw [h])
    simp [this]

theorem link1_ok (s : Sorts) (ns : List Int) (es : List Edge) (i k : Nat) (hi : i < ns.length) (hk : ns.getD i default = k) (hks : k < s.nodes.length) :
    CallV Go.Proofs.Tryz.prog 32 [.val (.int .i64 i), .eptr [.lst (s.nodes.map encI), .lst (s.edges.map encI)] 0, .eptr [.lst (ns.map encI), .lst (es.map encEdge)] 0] (fun r => r = .val (.int .i64 (s.nodes.getD k default))) := by
  refine callV_of_cw [] Ty.mixed Go.Proofs.Tryz.func32 rfl (by kernel_rfl) (by simp [Go.Proofs.Tryz.ntmps32]) ?_; rw [Go.Proofs.Tryz.ntmps32, Go.Proofs.Tryz.results32]
  
  simp -implicitDefEqProofs only [go_sem, Nat.reduceEqDiff, Nat.reduceLT, Nat.reduceLeDiff, Nat.reduceMul, Nat.reduceAdd, reduceIte, reduceCtorEq, Nat.le_refl, Nat.not_lt_zero, Nat.zero_le, Nat.zero_lt_succ, decide_true, decide_false, Nat.reduceBEq, Nat.reduceSub, Int.reduceToNat, Bool.not_not, exists_eq', ← List.map_take, ← List.map_drop, getD_map encI hi, hi, getD_map encI hks, hks, encI, hk]
  refine draw_txt [.q, .q, .q, .q, .q, .q, .q, .q, .q, .q] (by kernel_rfl) ?_
  simp -implicitDefEqProofs only [go_sem, Nat.reduceEqDiff, Nat.reduceLT, Nat.reduceLeDiff, Nat.reduceMul, Nat.reduceAdd, reduceIte, reduceCtorEq, Nat.le_refl, Nat.not_lt_zero, Nat.zero_le, Nat.zero_lt_succ, decide_true, decide_false, Nat.reduceBEq, Nat.reduceSub, Int.reduceToNat, Bool.not_not, exists_eq', ← List.map_take, ← List.map_drop, getD_map encI hi, hi, getD_map encI hks, hks, encI, hk]

def cmpP (x y : GPair) : Int := if x.a = y.a then IntKind.i64.wrap (x.b - y.b) else IntKind.i64.wrap (x.a - y.a)
theorem cmp_ok (x y : GPair) : CallV Go.Proofs.Tryz.prog 34 [.agg (encPair x), .agg (encPair y)] (fun r => r = .val (.int .i64 (cmpP x y))) := by
  refine callV_of_cw [] Ty.mixed Go.Proofs.Tryz.func34 rfl (by kernel_rfl) (by simp [Go.Proofs.Tryz.ntmps34]) ?_; rw [Go.Proofs.Tryz.ntmps34, Go.Proofs.Tryz.results34]
  simp -implicitDefEqProofs only [go_sem, Nat.reduceEqDiff, Nat.reduceLT, Nat.reduceLeDiff, Nat.reduceMul, Nat.reduceAdd, reduceIte, reduceCtorEq, Nat.le_refl, Nat.not_lt_zero, Nat.zero_le, Nat.zero_lt_succ, decide_true, decide_false, Nat.reduceBEq, Nat.reduceSub, Int.reduceToNat, Bool.not_not, exists_eq', ← List.map_take, ← List.map_drop, encPair]
  refine condC_splitN (fun h1 => ?_) (fun h1 => ?_) <;> simp -implicitDefEqProofs only [go_sem, Nat.reduceEqDiff, Nat.reduceLT, Nat.reduceLeDiff, Nat.reduceMul, Nat.reduceAdd, reduceIte, reduceCtorEq, Nat.le_refl, Nat.not_lt_zero, Nat.zero_le, Nat.zero_lt_succ, decide_true, decide_false, Nat.reduceBEq, Nat.reduceSub, Int.reduceToNat, Bool.not_not, exists_eq', ← List.map_take, ← List.map_drop]
  · unfold cmpP; rw [if_pos (of_decide_eq_true h1)]
  · unfold cmpP; rw [if_neg (of_decide_eq_false h1)]

theorem leads_ok (ns : List Int) (es : List Edge) (he : es.length ≤ 1000000) (a b : Int) : CallV Go.Proofs.Tryz.prog 36 [.agg [.lst (ns.map encI), .lst (es.map encEdge)], .val (.int .i64 a), .val (.int .i64 b)]
    (fun r => r = .val (.bool (es.any fun e => decide (e.src = a) && decide (e.dst = b)))) := by
  refine callV_of_cw [] Ty.mixed Go.Proofs.Tryz.func36 rfl (by kernel_rfl) (by simp [Go.Proofs.Tryz.ntmps36]) ?_; rw [Go.Proofs.Tryz.ntmps36, Go.Proofs.Tryz.results36]
  simp -implicitDefEqProofs only [go_sem, Nat.reduceEqDiff, Nat.reduceLT, Nat.reduceLeDiff, Nat.reduceMul, Nat.reduceAdd, reduceIte, reduceCtorEq, Nat.le_refl, Nat.not_lt_zero, Nat.zero_le, Nat.zero_lt_succ, decide_true, decide_false, Nat.reduceBEq, Nat.reduceSub, Int.reduceToNat, Bool.not_not, exists_eq', ← List.map_take, ← List.map_drop]
  refine loop_rule (σ := Nat) (fun x => (upd (upd (upd (upd env0 1 (.p (.val (.int .i64 a)))) 2 (.p (.val (.int .i64 b)))) 3 (.ptr 3 0)) 7 (.p (.val (.int .i64 x))))) (fun x => (hset heap0 3 (.box [.p (.lst (ns.map encI)), .p (.lst (es.map encEdge))])))
    (fun x => x ≤ es.length ∧ ∀ j, j < x → (decide ((es.getD j default).src = a) && decide ((es.getD j default).dst = b)) = false) (fun x => es.length - x) 0 ⟨Nat.zero_le _, fun j hj => absurd hj (Nat.not_lt_zero j)⟩ (weak_mk (by repeat (first | exact sub_env0 _ | refine sub_upd ?_ (by first | rfl | simp [upd]))) (by repeat (first | exact hsub0 _ | refine hsub_hset ?_ (by first | rfl | simp [hset]))) (by repeat (first | exact ids_env0 _ | refine ids_upd ?_ (by simp [idsOk, idsOkL, hset]))) (by repeat (first | exact boxIds0 _ | refine boxIds_row ?_ | refine boxIds_shut ?_ | refine boxIds_box ?_ (by simp [idsOk, idsOkL, hset]))) (by repeat (first | exact keep0 _ | refine keep_low (by decide) ?_ | refine keep_high (by simp [hset]) ?_))) ?_
  rintro x ⟨hx, hq⟩
  simp -implicitDefEqProofs only [go_sem, Nat.reduceEqDiff, Nat.reduceLT, Nat.reduceLeDiff, Nat.reduceMul, Nat.reduceAdd, reduceIte, reduceCtorEq, Nat.le_refl, Nat.not_lt_zero, Nat.zero_le, Nat.zero_lt_succ, decide_true, decide_false, Nat.reduceBEq, Nat.reduceSub, Int.reduceToNat, Bool.not_not, exists_eq', ← List.map_take, ← List.map_drop]
  refine condC_split (fun hc => ?_) (fun hc => ?_)
  · have hlt : x < es.length := by simpa using hc
    
    simp -implicitDefEqProofs only [go_sem, Nat.reduceEqDiff, Nat.reduceLT, Nat.reduceLeDiff, Nat.reduceMul, Nat.reduceAdd, reduceIte, reduceCtorEq, Nat.le_refl, Nat.not_lt_zero, Nat.zero_le, Nat.zero_lt_succ, decide_true, decide_false, Nat.reduceBEq, Nat.reduceSub, Int.reduceToNat, Bool.not_not, exists_eq', ← List.map_take, ← List.map_drop, getD_map encEdge hlt, hlt, encEdge]
    refine walkG_split (fun h1 => ?_) (fun h1 => ?_) <;> simp -implicitDefEqProofs only [go_sem, Nat.reduceEqDiff, Nat.reduceLT, Nat.reduceLeDiff, Nat.reduceMul, Nat.reduceAdd, reduceIte, reduceCtorEq, Nat.le_refl, Nat.not_lt_zero, Nat.zero_le, Nat.zero_lt_succ, decide_true, decide_false, Nat.reduceBEq, Nat.reduceSub, Int.reduceToNat, Bool.not_not, exists_eq', ← List.map_take, ← List.map_drop, h1, getD_map encEdge hlt, hlt, encEdge]
    · refine condC_split (fun h2 => ?_) (fun h2 => ?_) <;> simp -implicitDefEqProofs only [go_sem, Nat.reduceEqDiff, Nat.reduceLT, Nat.reduceLeDiff, Nat.reduceMul, Nat.reduceAdd, reduceIte, reduceCtorEq, Nat.le_refl, Nat.not_lt_zero, Nat.zero_le, Nat.zero_lt_succ, decide_true, decide_false, Nat.reduceBEq, Nat.reduceSub, Int.reduceToNat, Bool.not_not, exists_eq', ← List.map_take, ← List.map_drop, getD_map encEdge hlt, hlt, encEdge]
      · have := any_true (p := fun e : Edge => decide (e.src = a) && decide (e.dst = b)) hlt (by rw [h1, h2]; rfl)
        rw [this]
      · exact loopN_mk (x + 1) ⟨hlt, all_succB hq (by rw [h2, Bool.and_false])⟩ (by omega) (by rw [wrap_succ hlt (by omega)]; exact (weak_mk (by repeat (first | exact sub_env0 _ | refine sub_upd ?_ (by first | rfl | simp [upd]))) (by repeat (first | exact hsub0 _ | refine hsub_hset ?_ (by first | rfl | simp [hset]))) (by repeat (first | exact ids_env0 _ | refine ids_upd ?_ (by simp [idsOk, idsOkL, hset]))) (by repeat (first | exact boxIds0 _ | refine boxIds_row ?_ | refine boxIds_shut ?_ | refine boxIds_box ?_ (by simp [idsOk, idsOkL, hset]))) (by repeat (first | exact keep0 _ | refine keep_low (by decide) ?_ | refine keep_high (by simp [hset]) ?_))))
    · exact loopN_mk (x + 1) ⟨hlt, all_succB hq (by rw [h1, Bool.false_and])⟩ (by omega) (by rw [wrap_succ hlt (by omega)]; exact (weak_mk (by repeat (first | exact sub_env0 _ | refine sub_upd ?_ (by first | rfl | simp [upd]))) (by repeat (first | exact hsub0 _ | refine hsub_hset ?_ (by first | rfl | simp [hset]))) (by repeat (first | exact ids_env0 _ | refine ids_upd ?_ (by simp [idsOk, idsOkL, hset]))) (by repeat (first | exact boxIds0 _ | refine boxIds_row ?_ | refine boxIds_shut ?_ | refine boxIds_box ?_ (by simp [idsOk, idsOkL, hset]))) (by repeat (first | exact keep0 _ | refine keep_low (by decide) ?_ | refine keep_high (by simp [hset]) ?_))))
  · have hge : es.length ≤ x := by simpa using hc
    simp -implicitDefEqProofs only [go_sem, Nat.reduceEqDiff, Nat.reduceLT, Nat.reduceLeDiff, Nat.reduceMul, Nat.reduceAdd, reduceIte, reduceCtorEq, Nat.le_refl, Nat.not_lt_zero, Nat.zero_le, Nat.zero_lt_succ, decide_true, decide_false, Nat.reduceBEq, Nat.reduceSub, Int.reduceToNat, Bool.not_not, exists_eq', ← List.map_take, ← List.map_drop, hc]
    rw [any_false (p := fun e : Edge => decide (e.src = a) && decide (e.dst = b)) fun j hj => hq j (by omega)]
end Go.Proofs.YtdlohnchnneaeaaGreat
/- Layer 52's reference: Part. -/
namespace Go.Proofs.YtdlohnchnneaeaaGreat
open Go.Abs

structure Part where
  nodes : List Int
  edges : List Int
def encPart (p : Part) : PV := .agg [encInts p.nodes, encInts p.edges]
def inR (n : Int) (k : Nat) : Prop := 0 ≤ n ∧ n < k
/-- What is known of a valid triple. -/
structure OkTr (s : Sorts) (g : Graph) : Prop where
  nodes : g.nodes.length ≤ 40
  edges : g.edges.length ≤ 80
  kind : ∀ i, i < g.nodes.length → inR (g.nodes.getD i default) s.nodes.length
  type : ∀ i, i < g.edges.length → inR (g.edges.getD i default).type s.edges.length
  src : ∀ i, i < g.edges.length → inR (g.edges.getD i default).src g.nodes.length
  dst : ∀ i, i < g.edges.length → inR (g.edges.getD i default).dst g.nodes.length
def nodeS (s : Sorts) (g : Graph) (i : Nat) : Int := s.nodes.getD (g.nodes.getD i default).toNat default
def edgeS (s : Sorts) (g : Graph) (i : Nat) : Int := s.edges.getD (g.edges.getD i default).type.toNat default
def pick (p : Nat → Bool) (n : Nat) : List Int := ((List.range n).filter p).map Int.ofNat
theorem pick_succ (p : Nat → Bool) (n : Nat) : pick p (n + 1) = if p n = true then pick p n ++ [(n : Int)] else pick p n := by
  unfold pick
  rw [List.range_succ, List.filter_append, List.map_append]
  cases h : p n <;> simp [h]
theorem pick_zero (p : Nat → Bool) : pick p 0 = [] := rfl
theorem pick_len (p : Nat → Bool) (n : Nat) : (pick p n).length ≤ n := by
  have := List.length_filter_le p (List.range n)
  simpa [pick] using this
def partX (s : Sorts) (g : Graph) (k : Int) : Part := ⟨pick (fun i => decide (nodeS s g i = k)) g.nodes.length, pick (fun i => decide (edgeS s g i = k)) g.edges.length⟩

theorem Part_ok (s : Sorts) (g : Graph) (h : OkTr s g) (k : Int) : CallV Go.Proofs.Tryz.prog 35 [encSorts s, encGraph g, .val (.int .i64 k)] (fun r => r = encPart (partX s g k)) := by
  have hgn := h.nodes
  have hge := h.edges
  refine callV_of_cw [32, 57] Ty.mixed Go.Proofs.Tryz.func35 rfl (by kernel_rfl) (by simp [Go.Proofs.Tryz.ntmps35]) ?_; rw [Go.Proofs.Tryz.ntmps35, Go.Proofs.Tryz.results35]
  
  simp -implicitDefEqProofs only [go_sem, Nat.reduceEqDiff, Nat.reduceLT, Nat.reduceLeDiff, Nat.reduceMul, Nat.reduceAdd, reduceIte, reduceCtorEq, Nat.le_refl, Nat.not_lt_zero, Nat.zero_le, Nat.zero_lt_succ, decide_true, decide_false, Nat.reduceBEq, Nat.reduceSub, Int.reduceToNat, Bool.not_not, exists_eq', ← List.map_take, ← List.map_drop, encSorts, encGraph, encInts]
  refine loop_rule (σ := Nat × Nat) (fun x => (upd (upd (upd (upd (upd (upd env0 2 (.p (.val (.int .i64 k)))) 3 (.ptr 3 0)) 4 (.ptr 4 0)) 6 (.ptr 6 0)) 7 (.ptr 7 0)) 8 (.p (.val (.int .i64 x.1)))))
    (fun x => (hset (hset (hset (hset (hset heap0 3 (.box [.p (.lst (s.nodes.map encI)), .p (.lst (s.edges.map encI))])) 4 (.box [.p (.lst (g.nodes.map encI)), .p (.lst (g.edges.map encEdge))])) 6 (.box [.p (.val (.slice none 0 0)), .p (.val (.slice none 0 0))])) 32 (.row x.2 3 1 ((pick (fun i => decide (nodeS s g i = k)) x.1).map encI))) 7 (.box [.row 32 x.2, .p (.val (.slice none 0 0))])))
    (fun x => x.1 ≤ g.nodes.length) (fun x => g.nodes.length - x.1) (0, 0) (Nat.zero_le _) ((weak_nilbox 7 0 32 3 1 _ rfl rfl rfl (by decide)).trans (by rw [pick_zero]; exact (weak_mk (by repeat (first | exact sub_env0 _ | refine sub_upd ?_ (by first | rfl | simp [upd]))) (by repeat (first | exact hsub0 _ | refine hsub_hset ?_ (by first | rfl | simp [hset]))) (by repeat (first | exact ids_env0 _ | refine ids_upd ?_ (by simp [idsOk, idsOkL, hset]))) (by repeat (first | exact boxIds0 _ | refine boxIds_row ?_ | refine boxIds_shut ?_ | refine boxIds_box ?_ (by simp [idsOk, idsOkL, hset]))) (by repeat (first | exact keep0 _ | refine keep_low (by decide) ?_ | refine keep_high (by simp [hset]) ?_))))) ?_
  rintro ⟨x, v⟩ hx
  simp only at hx
  simp -implicitDefEqProofs only [go_sem, Nat.reduceEqDiff, Nat.reduceLT, Nat.reduceLeDiff, Nat.reduceMul, Nat.reduceAdd, reduceIte, reduceCtorEq, Nat.le_refl, Nat.not_lt_zero, Nat.zero_le, Nat.zero_lt_succ, decide_true, decide_false, Nat.reduceBEq, Nat.reduceSub, Int.reduceToNat, Bool.not_not, exists_eq', ← List.map_take, ← List.map_drop, encSorts, encGraph, encInts]
  refine condC_split (fun hc => ?_) (fun hc => ?_)
  · have hx1 : x < g.nodes.length := by have := of_decide_eq_true hc; omega
    obtain ⟨q, hq⟩ : ∃ q : Nat, g.nodes.getD x default = q := ⟨_, (Int.toNat_of_nonneg (h.kind x hx1).1).symm⟩
    have hqs : q < s.nodes.length := by have := (h.kind x hx1).2; rw [hq] at this; omega
    have hS : nodeS s g x = s.nodes.getD q default := by unfold nodeS; rw [hq, Int.toNat_natCast]
    have hP := pick_succ (fun i => decide (nodeS s g i = k)) x
    have hL := pick_len (fun i => decide (nodeS s g i = k)) x
    rw [hS] at hP
    
    simp -implicitDefEqProofs only [go_sem, Nat.reduceEqDiff, Nat.reduceLT, Nat.reduceLeDiff, Nat.reduceMul, Nat.reduceAdd, reduceIte, reduceCtorEq, Nat.le_refl, Nat.not_lt_zero, Nat.zero_le, Nat.zero_lt_succ, decide_true, decide_false, Nat.reduceBEq, Nat.reduceSub, Int.reduceToNat, Bool.not_not, exists_eq', ← List.map_take, ← List.map_drop, encSorts, encGraph, encInts, getD_map encI hx1, hx1, encI, hq, getD_map encI hqs, hqs]
    refine draw_txt [.q, .q, .q, .q, .q, .q, .q, .q, .q, .q, .q] (by kernel_rfl) ?_
    simp -implicitDefEqProofs only [go_sem, Nat.reduceEqDiff, Nat.reduceLT, Nat.reduceLeDiff, Nat.reduceMul, Nat.reduceAdd, reduceIte, reduceCtorEq, Nat.le_refl, Nat.not_lt_zero, Nat.zero_le, Nat.zero_lt_succ, decide_true, decide_false, Nat.reduceBEq, Nat.reduceSub, Int.reduceToNat, Bool.not_not, exists_eq', ← List.map_take, ← List.map_drop, encSorts, encGraph, encInts, getD_map encI hx1, hx1, encI, hq, getD_map encI hqs, hqs]
    refine condC_split (fun h1 => ?_) (fun h1 => ?_) <;> simp -implicitDefEqProofs only [go_sem, Nat.reduceEqDiff, Nat.reduceLT, Nat.reduceLeDiff, Nat.reduceMul, Nat.reduceAdd, reduceIte, reduceCtorEq, Nat.le_refl, Nat.not_lt_zero, Nat.zero_le, Nat.zero_lt_succ, decide_true, decide_false, Nat.reduceBEq, Nat.reduceSub, Int.reduceToNat, Bool.not_not, exists_eq', ← List.map_take, ← List.map_drop, encSorts, encGraph, encInts, getD_map encI hx1, hx1, encI, hq, getD_map encI hqs, hqs]
    · rw [if_pos h1] at hP
      refine ⟨by omega, loopN_mk (x + 1, v + 1) hx1 (by dsimp only; omega) ?_⟩
      rw [wrap_succ hx1 (by omega), hP, List.map_append]
      exact (weak_mk (by repeat (first | exact sub_env0 _ | refine sub_upd ?_ (by first | rfl | simp [upd]))) (by repeat (first | exact hsub0 _ | refine hsub_hset ?_ (by first | rfl | simp [hset]))) (by repeat (first | exact ids_env0 _ | refine ids_upd ?_ (by simp [idsOk, idsOkL, hset]))) (by repeat (first | exact boxIds0 _ | refine boxIds_row ?_ | refine boxIds_shut ?_ | refine boxIds_box ?_ (by simp [idsOk, idsOkL, hset]))) (by repeat (first | exact keep0 _ | refine keep_low (by decide) ?_ | refine keep_high (by simp [hset]) ?_)))
    · rw [if_neg (by rw [h1]; decide)] at hP
      refine loopN_mk (x + 1, v) hx1 (by dsimp only; omega) ?_
      rw [wrap_succ hx1 (by omega), hP]
      exact (weak_mk (by repeat (first | exact sub_env0 _ | refine sub_upd ?_ (by first | rfl | simp [upd]))) (by repeat (first | exact hsub0 _ | refine hsub_hset ?_ (by first | rfl | simp [hset]))) (by repeat (first | exact ids_env0 _ | refine ids_upd ?_ (by simp [idsOk, idsOkL, hset]))) (by repeat (first | exact boxIds0 _ | refine boxIds_row ?_ | refine boxIds_shut ?_ | refine boxIds_box ?_ (by simp [idsOk, idsOkL, hset]))) (by repeat (first | exact keep0 _ | refine keep_low (by decide) ?_ | refine keep_high (by simp [hset]) ?_)))
  · have hge : g.nodes.length ≤ x := by have := of_decide_eq_false hc; omega
    have hxe : x = g.nodes.length := by omega
    subst hxe
    simp -implicitDefEqProofs only [go_sem, Nat.reduceEqDiff, Nat.reduceLT, Nat.reduceLeDiff, Nat.reduceMul, Nat.reduceAdd, reduceIte, reduceCtorEq, Nat.le_refl, Nat.not_lt_zero, Nat.zero_le, Nat.zero_lt_succ, decide_true, decide_false, Nat.reduceBEq, Nat.reduceSub, Int.reduceToNat, Bool.not_not, exists_eq', ← List.map_take, ← List.map_drop, encSorts, encGraph, encInts]
    refine loop_rule (σ := Nat × Nat) (fun x => (upd (upd (upd (upd (upd (upd env0 2 (.p (.val (.int .i64 k)))) 3 (.ptr 3 0)) 4 (.ptr 4 0)) 6 (.ptr 6 0)) 7 (.ptr 7 0)) 9 (.p (.val (.int .i64 x.1)))))
      (fun x => (hset (hset (hset (hset (hset (hset heap0 3 (.box [.p (.lst (s.nodes.map encI)), .p (.lst (s.edges.map encI))])) 4 (.box [.p (.lst (g.nodes.map encI)), .p (.lst (g.edges.map encEdge))])) 6 (.box [.p (.val (.slice none 0 0)), .p (.val (.slice none 0 0))])) 32 (.row v 3 1 ((pick (fun i => decide (nodeS s g i = k)) g.nodes.length).map encI))) 57 (.row x.2 3 1 ((pick (fun i => decide (edgeS s g i = k)) x.1).map encI))) 7 (.box [.row 32 v, .row 57 x.2])))
      (fun x => x.1 ≤ g.edges.length) (fun x => g.edges.length - x.1) (0, 0) (Nat.zero_le _) ((weak_nilbox 7 1 57 3 1 _ rfl rfl rfl (by decide)).trans (by rw [pick_zero]; exact (weak_mk (by repeat (first | exact sub_env0 _ | refine sub_upd ?_ (by first | rfl | simp [upd]))) (by repeat (first | exact hsub0 _ | refine hsub_hset ?_ (by first | rfl | simp [hset]))) (by repeat (first | exact ids_env0 _ | refine ids_upd ?_ (by simp [idsOk, idsOkL, hset]))) (by repeat (first | exact boxIds0 _ | refine boxIds_row ?_ | refine boxIds_shut ?_ | refine boxIds_box ?_ (by simp [idsOk, idsOkL, hset]))) (by repeat (first | exact keep0 _ | refine keep_low (by decide) ?_ | refine keep_high (by simp [hset]) ?_))))) ?_
    rintro ⟨x, u⟩ hx
    simp only at hx
    simp -implicitDefEqProofs only [go_sem, Nat.reduceEqDiff, Nat.reduceLT, Nat.reduceLeDiff, Nat.reduceMul, Nat.reduceAdd, reduceIte, reduceCtorEq, Nat.le_refl, Nat.not_lt_zero, Nat.zero_le, Nat.zero_lt_succ, decide_true, decide_false, Nat.reduceBEq, Nat.reduceSub, Int.reduceToNat, Bool.not_not, exists_eq', ← List.map_take, ← List.map_drop, encSorts, encGraph, encInts]
    refine condC_split (fun hc => ?_) (fun hc => ?_)
    · have hx1 : x < g.edges.length := by have := of_decide_eq_true hc; omega
      obtain ⟨q, hq⟩ : ∃ q : Nat, (g.edges.getD x default).type = q := ⟨_, (Int.toNat_of_nonneg (h.type x hx1).1).symm⟩
      have hqs : q < s.edges.length := by have := (h.type x hx1).2; rw [hq] at this; omega
      have hS : edgeS s g x = s.edges.getD q default := by unfold edgeS; rw [hq, Int.toNat_natCast]
      have hP := pick_succ (fun i => decide (edgeS s g i = k)) x
      have hL := pick_len (fun i => decide (edgeS s g i = k)) x
      rw [hS] at hP
      
      simp -implicitDefEqProofs only [go_sem, Nat.reduceEqDiff, Nat.reduceLT, Nat.reduceLeDiff, Nat.reduceMul, Nat.reduceAdd, reduceIte, reduceCtorEq, Nat.le_refl, Nat.not_lt_zero, Nat.zero_le, Nat.zero_lt_succ, decide_true, decide_false, Nat.reduceBEq, Nat.reduceSub, Int.reduceToNat, Bool.not_not, exists_eq', ← List.map_take, ← List.map_drop, encSorts, encGraph, encInts, getD_map encEdge hx1, hx1, encEdge, hq, getD_map encI hqs, hqs, encI]
      refine draw_txt [.q, .q, .q, .q, .q, .q, .q, .q, .q, .q, .q, .q] (by kernel_rfl) ?_
      simp -implicitDefEqProofs only [go_sem, Nat.reduceEqDiff, Nat.reduceLT, Nat.reduceLeDiff, Nat.reduceMul, Nat.reduceAdd, reduceIte, reduceCtorEq, Nat.le_refl, Nat.not_lt_zero, Nat.zero_le, Nat.zero_lt_succ, decide_true, decide_false, Nat.reduceBEq, Nat.reduceSub, Int.reduceToNat, Bool.not_not, exists_eq', ← List.map_take, ← List.map_drop, encSorts, encGraph, encInts, getD_map encEdge hx1, hx1, encEdge, hq, getD_map encI hqs, hqs, encI]
      refine condC_split (fun h1 => ?_) (fun h1 => ?_) <;> simp -implicitDefEqProofs only [go_sem, Nat.reduceEqDiff, Nat.reduceLT, Nat.reduceLeDiff, Nat.reduceMul, Nat.reduceAdd, reduceIte, reduceCtorEq, Nat.le_refl, Nat.not_lt_zero, Nat.zero_le, Nat.zero_lt_succ, decide_true, decide_false, Nat.reduceBEq, Nat.reduceSub, Int.reduceToNat, Bool.not_not, exists_eq', ← List.map_take, ← List.map_drop, encSorts, encGraph, encInts, getD_map encEdge hx1, hx1, encEdge, hq, getD_map encI hqs, hqs, encI]
      · rw [if_pos h1] at hP
        refine ⟨by omega, loopN_mk (x + 1, u + 1) hx1 (by dsimp only; omega) ?_⟩
        rw [wrap_succ hx1 (by omega), hP, List.map_append]
        exact (weak_mk (by repeat (first | exact sub_env0 _ | refine sub_upd ?_ (by first | rfl | simp [upd]))) (by repeat (first | exact hsub0 _ | refine hsub_hset ?_ (by first | rfl | simp [hset]))) (by repeat (first | exact ids_env0 _ | refine ids_upd ?_ (by simp [idsOk, idsOkL, hset]))) (by repeat (first | exact boxIds0 _ | refine boxIds_row ?_ | refine boxIds_shut ?_ | refine boxIds_box ?_ (by simp [idsOk, idsOkL, hset]))) (by repeat (first | exact keep0 _ | refine keep_low (by decide) ?_ | refine keep_high (by simp [hset]) ?_)))
      · rw [if_neg (by rw [h1]; decide)] at hP
        refine loopN_mk (x + 1, u) hx1 (by dsimp only; omega) ?_
        rw [wrap_succ hx1 (by omega), hP]
        exact (weak_mk (by repeat (first | exact sub_env0 _ | refine sub_upd ?_ (by first | rfl | simp [upd]))) (by repeat (first | exact hsub0 _ | refine hsub_hset ?_ (by first | rfl | simp [hset]))) (by repeat (first | exact ids_env0 _ | refine ids_upd ?_ (by simp [idsOk, idsOkL, hset]))) (by repeat (first | exact boxIds0 _ | refine boxIds_row ?_ | refine boxIds_shut ?_ | refine boxIds_box ?_ (by simp [idsOk, idsOkL, hset]))) (by repeat (first | exact keep0 _ | refine keep_low (by decide) ?_ | refine keep_high (by simp [hset]) ?_)))
    · have hge : g.edges.length ≤ x := by have := of_decide_eq_false hc; omega
      have hxe : x = g.edges.length := by omega
      subst hxe
      simp -implicitDefEqProofs only [go_sem, Nat.reduceEqDiff, Nat.reduceLT, Nat.reduceLeDiff, Nat.reduceMul, Nat.reduceAdd, reduceIte, reduceCtorEq, Nat.le_refl, Nat.not_lt_zero, Nat.zero_le, Nat.zero_lt_succ, decide_true, decide_false, Nat.reduceBEq, Nat.reduceSub, Int.reduceToNat, Bool.not_not, exists_eq', ← List.map_take, ← List.map_drop, encSorts, encGraph, encInts]
      rfl
end Go.Proofs.YtdlohnchnneaeaaGreat
/- Layer 52: the links, as the reference lists them. -/
namespace Go.Proofs.YtdlohnchnneaeaaGreat
open Go.Abs

def leadsB (g : Graph) (a b : Int) : Bool := g.edges.any fun e => decide (e.src = a) && decide (e.dst = b)
def midB (g : Graph) (a b m : Int) : Bool := leadsB g m a && leadsB g m b
def linkB (g : Graph) (M : List Int) (a b : Int) : Bool := M.any (midB g a b)
def linkR (g : Graph) (M T : List Int) (a : Int) : List GPair := (T.filter (linkB g M a)).map (GPair.mk a)
def linksL (g : Graph) (S M T : List Int) : List GPair := S.flatMap (linkR g M T)
def linksR (s : Sorts) (g : Graph) : List GPair := linksL g (partX s g 1).nodes (partX s g 2).nodes (partX s g 3).nodes
def linksE (t : Types) (s : Sorts) (h : Host) : List GPair × Int := if validTr t s h ≠ 0 then ([], validTr t s h) else (linksR s h.graph, 0)

theorem linkR_len (g : Graph) (M T : List Int) (a : Int) : (linkR g M T a).length ≤ T.length := by
  unfold linkR
  rw [List.length_map]
  exact List.length_filter_le _ _
theorem linksL_len (g : Graph) (S M T : List Int) : (linksL g S M T).length ≤ S.length * T.length := by
  unfold linksL
  induction S with
  | nil => simp
  | cons a r ih =>
    rw [List.flatMap_cons, List.length_append, List.length_cons, Nat.succ_mul]
    have := linkR_len g M T a
    omega
theorem linkR_succ (g : Graph) (M T : List Int) (a : Int) (k : Nat) (hk : k < T.length) : linkR g M (T.take (k + 1)) a = if linkB g M a (T.getD k default) = true then linkR g M (T.take k) a ++ [GPair.mk a (T.getD k default)] else linkR g M (T.take k) a := by
  unfold linkR
  rw [take_succ_getD hk, List.filter_append, List.map_append, List.filter_cons]
  by_cases h : linkB g M a (T.getD k default) = true
  · rw [if_pos h, if_pos h]; try rfl
  · rw [if_neg h, if_neg h]; simp
theorem linksL_succ (g : Graph) (S M T : List Int) (i : Nat) (hi : i < S.length) : linksL g (S.take (i + 1)) M T = linksL g (S.take i) M T ++ linkR g M T (S.getD i default) := by
  unfold linksL
  rw [take_succ_getD hi, List.flatMap_append]
  simp
theorem any_take_succ {α : Type} [Inhabited α] (p : α → Bool) (l : List α) (k : Nat) (hk : k < l.length) : (l.take (k + 1)).any p = ((l.take k).any p || p (l.getD k default)) := by
  rw [take_succ_getD hk, List.any_append]
  simp

end Go.Proofs.YtdlohnchnneaeaaGreat
/- The plain law of Links: the sorted list of the pairs that the edges give is the reference's list. -/
namespace Go.Proofs.YtdlohnchnneaeaaGreat
open Go.Abs

def nodeI (s : Sorts) (g : Graph) (n : Int) : Int := nodeS s g n.toNat
def condB (s : Sorts) (g : Graph) (x y : Edge) : Bool := ((decide (x.src = y.src) && decide (nodeI s g x.src = 2)) && decide (nodeI s g x.dst = 1)) && decide (nodeI s g y.dst = 3)
def ltP (p q : GPair) : Prop := p.a < q.a ∨ (p.a = q.a ∧ p.b < q.b)

theorem mem_pick {p : Nat → Bool} {n : Nat} {x : Int} : x ∈ pick p n ↔ ∃ i, i < n ∧ p i = true ∧ x = i := by
  unfold pick
  simp only [List.mem_map, List.mem_filter, List.mem_range]
  constructor
  · rintro ⟨i, ⟨h1, h2⟩, rfl⟩; exact ⟨i, h1, h2, rfl⟩
  · rintro ⟨i, h1, h2, rfl⟩; exact ⟨i, ⟨h1, h2⟩, rfl⟩
theorem pick_sorted (p : Nat → Bool) (n : Nat) : (pick p n).Pairwise (· < ·) := by
  unfold pick
  rw [List.pairwise_map]
  refine (List.pairwise_lt_range.filter p).imp ?_
  intro a b h
  exact Int.ofNat_lt.2 h
theorem linksL_sorted (g : Graph) (S M T : List Int) (hS : S.Pairwise (· < ·)) (hT : T.Pairwise (· < ·)) : (linksL g S M T).Pairwise ltP := by
  unfold linksL
  rw [List.pairwise_flatMap]
  refine ⟨fun a _ => ?_, hS.imp fun {a b} h x hx y hy => ?_⟩
  · unfold linkR
    rw [List.pairwise_map]
    exact (hT.filter _).imp fun h => .inr ⟨rfl, h⟩
  · unfold linkR at hx hy
    obtain ⟨_, _, rfl⟩ := List.mem_map.1 hx
    obtain ⟨_, _, rfl⟩ := List.mem_map.1 hy
    exact .inl h

theorem leadsB_iff {g : Graph} {a b : Int} : leadsB g a b = true ↔ ∃ e ∈ g.edges, e.src = a ∧ e.dst = b := by
  simp [leadsB]
theorem ends_of {s : Sorts} {g : Graph} (ho : OkTr s g) {e : Edge} (he : e ∈ g.edges) : inR e.src g.nodes.length ∧ inR e.dst g.nodes.length := by
  obtain ⟨i, hi, rfl⟩ := mem_getD he
  exact ⟨ho.src i hi, ho.dst i hi⟩
theorem mem_part {s : Sorts} {g : Graph} {k x : Int} : x ∈ (partX s g k).nodes ↔ inR x g.nodes.length ∧ nodeI s g x = k := by
  show x ∈ pick _ _ ↔ _
  rw [mem_pick]
  constructor
  · rintro ⟨i, h1, h2, rfl⟩
    exact ⟨⟨by omega, by omega⟩, by unfold nodeI; rw [Int.toNat_natCast]; exact of_decide_eq_true h2⟩
  · rintro ⟨⟨h1, h2⟩, h3⟩
    exact ⟨x.toNat, by omega, decide_eq_true h3, by omega⟩
theorem mem_linksR {s : Sorts} {g : Graph} (ho : OkTr s g) {p : GPair} : p ∈ linksR s g ↔ ∃ x ∈ g.edges, ∃ y ∈ g.edges, condB s g x y = true ∧ p = ⟨x.dst, y.dst⟩ := by
  unfold linksR linksL linkR
  simp only [List.mem_flatMap, List.mem_map, List.mem_filter, linkB, List.any_eq_true, midB, Bool.and_eq_true, leadsB_iff, mem_part, condB, decide_eq_true_eq]
  constructor
  · rintro ⟨a, ⟨_, ha⟩, b, ⟨⟨_, hb⟩, m, ⟨_, hm⟩, ⟨x, hx, hx1, hx2⟩, y, hy, hy1, hy2⟩, rfl⟩
    exact ⟨x, hx, y, hy, ⟨⟨⟨by rw [hx1, hy1], by rw [hx1]; exact hm⟩, by rw [hx2]; exact ha⟩, by rw [hy2]; exact hb⟩, by rw [hx2, hy2]⟩
  · rintro ⟨x, hx, y, hy, ⟨⟨⟨h1, h2⟩, h3⟩, h4⟩, rfl⟩
    exact ⟨x.dst, ⟨(ends_of ho hx).2, h3⟩, y.dst, ⟨⟨(ends_of ho hy).2, h4⟩, x.src, ⟨(ends_of ho hx).1, h2⟩, ⟨x, hx, rfl, rfl⟩, y, hy, h1.symm, rfl⟩, rfl⟩

/-- The elements that the sort sees. -/
def okP (p : GPair) : Prop := (0 ≤ p.a ∧ p.a < 1000000) ∧ (0 ≤ p.b ∧ p.b < 1000000)
abbrev SP := { p : GPair // okP p }
instance : Inhabited SP := ⟨⟨⟨0, 0⟩, by unfold okP; simp⟩⟩
def cmpS (x y : SP) : Int := cmpP x.1 y.1
theorem cmpS_lt (x y : SP) : cmpS x y < 0 ↔ ltP x.1 y.1 := by
  obtain ⟨⟨a, b⟩, h⟩ := x
  obtain ⟨⟨c, d⟩, h'⟩ := y
  unfold okP at h h'
  simp only at h h'
  unfold cmpS cmpP ltP
  simp only
  split
  · rw [IntWalk.i64_in _ (by omega)]; omega
  · rw [IntWalk.i64_in _ (by omega)]; omega
theorem ltP_total {p q : GPair} (h1 : ¬ ltP p q) (h2 : ¬ ltP q p) : p = q := by
  obtain ⟨a, b⟩ := p
  obtain ⟨c, d⟩ := q
  unfold ltP at h1 h2
  simp only at h1 h2
  have e1 : a = c := by omega
  have e2 : b = d := by omega
  rw [e1, e2]

theorem sort_links {s : Sorts} {g : Graph} (ho : OkTr s g) (d : List SP) (hn : (d.map (·.1)).Nodup) (hm : ∀ p, p ∈ d.map (·.1) ↔ ∃ x ∈ g.edges, ∃ y ∈ g.edges, condB s g x y = true ∧ p = ⟨x.dst, y.dst⟩)
    (r : SP → SP → Bool) (hr : ∀ x y, r x y = true ↔ ¬ ltP y.1 x.1) : (d.mergeSort r).map (·.1) = linksR s g := by
  have hsort : (linksR s g).Pairwise ltP := linksL_sorted g _ _ _ (pick_sorted _ _) (pick_sorted _ _)
  have hnodup : (linksR s g).Nodup := by
    rw [List.nodup_iff_pairwise_ne]
    refine hsort.imp fun {p q} h e => ?_
    subst e
    unfold ltP at h
    omega
  refine List.Perm.eq_of_pairwise (le := fun p q => ¬ ltP q p) (fun p q _ _ h1 h2 => ltP_total h2 h1) ?_ ?_ ?_
  · rw [List.pairwise_map]
    refine (List.pairwise_mergeSort (fun x y z h1 h2 => ?_) (fun x y => ?_) d).imp fun h => (hr _ _).1 h
    · rw [hr] at *
      unfold ltP at *
      omega
    · rw [Bool.or_eq_true, hr, hr]
      unfold ltP
      omega
  · refine hsort.imp fun {p q} h h' => ?_
    unfold ltP at h h'
    omega
  · have h1 : ((d.mergeSort r).map (·.1)).Perm (d.map (·.1)) := (List.mergeSort_perm d r).map _
    refine h1.trans ((List.perm_ext_iff_of_nodup hn hnodup).2 fun p => ?_)
    rw [hm, mem_linksR ho]
end Go.Proofs.YtdlohnchnneaeaaGreat
/- slices.SortFunc at pairs. -/
namespace Go.Proofs
open Go.Shelf Go.RowKit Go.Lib Go.Sort
theorem YtdlohnchnneaeaaGreat.cmp_raw (x y : YtdlohnchnneaeaaGreat.GPair) (W : World) : Calls Go.Proofs.Tryz.prog 34 #[.agg #[.int .i64 x.a, .int .i64 x.b], .agg #[.int .i64 y.a, .int .i64 y.b]] W fun e w' => e = .returned (.int .i64 (YtdlohnchnneaeaaGreat.cmpP x y)) ∧ ∃ q os', w' = grow (W.drewN q) os' := by
  have hw : ∀ n, IntKind.i64.wrap n = wrap64 n := fun n => by unfold wrap64; rw [IntKind.wrap_i64]
  by_cases h : x.a = y.a
  all_goals
    have hd : (x.a != y.a) = !decide (x.a = y.a) := rfl
    simp only [h, decide_true, decide_false, Bool.not_true, Bool.not_false] at hd
  · have e0 : YtdlohnchnneaeaaGreat.cmpP x y = IntKind.i64.wrap (x.b - y.b) := by unfold YtdlohnchnneaeaaGreat.cmpP; rw [if_pos h]
    rw [e0, hw]
    go_enter Go.Proofs.Tryz.func34, Go.Proofs.Tryz.ntmps34
    go_wp2
    go_ret
    exact ⟨rfl, 0, _, by rw [alloc_eq_grow, alloc_eq_grow, grow_grow]; rfl⟩
  · have e0 : YtdlohnchnneaeaaGreat.cmpP x y = IntKind.i64.wrap (x.a - y.a) := by unfold YtdlohnchnneaeaaGreat.cmpP; rw [if_neg h]
    rw [e0, hw]
    go_enter Go.Proofs.Tryz.func34, Go.Proofs.Tryz.ntmps34
    go_wp2
    go_ret
    exact ⟨rfl, 0, _, by rw [alloc_eq_grow, alloc_eq_grow, grow_grow]; rfl⟩

theorem YtdlohnchnneaeaaGreat.sortPair_ok (d : List YtdlohnchnneaeaaGreat.SP) (hd : d.length ≤ 1000000) (v : Nat) : Go.Abs.CallM Go.Proofs.Tryz.prog 33 v 45 2 (d.map fun x => YtdlohnchnneaeaaGreat.encPair x.1) [.clo (.func 34) [] []]
    (fun a c => a = .tup [] ∧ c = some (.row v 45 2 ((d.mergeSort fun x y => !(ltOf YtdlohnchnneaeaaGreat.cmpS) y x).map fun x => YtdlohnchnneaeaaGreat.encPair x.1))) := by
  have eg : ∀ args w, (callFunc 34 args).run Go.Proofs.Tryz.prog w = .ok (.enter 34 args) w := enters_of Go.Proofs.Tryz.func34 (by kernel_rfl) rfl
  have hlt : ∀ x y : YtdlohnchnneaeaaGreat.SP, ltOf YtdlohnchnneaeaaGreat.cmpS x y = true ↔ YtdlohnchnneaeaaGreat.ltP x.1 y.1 := fun x y => by unfold ltOf; rw [decide_eq_true_iff, YtdlohnchnneaeaaGreat.cmpS_lt]
  have hlf : ∀ x y : YtdlohnchnneaeaaGreat.SP, ltOf YtdlohnchnneaeaaGreat.cmpS x y = false ↔ ¬ YtdlohnchnneaeaaGreat.ltP x.1 y.1 := fun x y => by rw [← hlt]; simp
  have h := Go.SortM.callM_sortFunc YtdlohnchnneaeaaGreat.sortPair 2 (by decide) Go.Proofs.Tryz.isAgg45 Go.Proofs.Tryz.sizeOf45 (fun x : YtdlohnchnneaeaaGreat.SP => [Value.int .i64 x.1.a, Value.int .i64 x.1.b]) (fun _ => rfl) (fun x v hv => by simp at hv; rcases hv with rfl | rfl <;> rfl) YtdlohnchnneaeaaGreat.cmpS
    { irrefl := fun x => by rw [hlf]; unfold YtdlohnchnneaeaaGreat.ltP; omega
      trans := fun x y z h1 h2 => by rw [hlt] at *; unfold YtdlohnchnneaeaaGreat.ltP at *; omega
      ntrans := fun x y z h1 h2 => by rw [hlf] at *; unfold YtdlohnchnneaeaaGreat.ltP at *; omega }
    (fun x y h1 h2 => by rw [hlf] at *; exact Subtype.ext (YtdlohnchnneaeaaGreat.ltP_total h1 h2)) 34 eg (fun x y W => YtdlohnchnneaeaaGreat.cmp_raw x.1 y.1 W) (by kernel_rfl) d (by omega) v 45
  exact h
end Go.Proofs
/- Layer 52: what Links' loops keep. -/
namespace Go.Proofs.YtdlohnchnneaeaaGreat
open Go.Abs

theorem okTr {t : Types} {s : Sorts} {h : Host} (hv : validTr t s h = 0) : OkTr s h.graph := by
  unfold validTr at hv
  split at hv
  · rename_i h1; exact absurd hv h1
  rename_i h1
  have h1 : sortsE t s = 0 := by simpa using h1
  unfold sortsE at h1
  split at h1
  · rename_i h2; exact absurd h1 h2
  split at h1
  · cases h1
  rename_i hl
  have hn : s.nodes.length = t.nodes.length := by omega
  have hm : s.edges.length = t.edges.length := by omega
  unfold validH at hv
  split at hv
  · rename_i h2; exact absurd hv h2
  split at hv
  · rename_i h2; exact absurd hv h2
  rename_i hg
  have hG := okG (by simpa using hg : validG h.graph = 0)
  split at hv
  · cases hv
  split at hv
  · rename_i k hk
    exact absurd hv (firstI_some hk)
  rename_i hk
  split at hv
  · rename_i k hk
    exact absurd hv (firstI_some hk)
  rename_i he
  refine ⟨hG.nodes, hG.edges, fun i hi => ⟨(hG.kind i hi).1, ?_⟩, fun i hi => ⟨(hG.edge i hi).1.1, ?_⟩, fun i hi => (hG.edge i hi).2.1, fun i hi => (hG.edge i hi).2.2⟩
  · have := firstI_all hk i hi
    unfold nodeH at this
    split at this
    · cases this
    · omega
  · have := firstI_all he i hi
    unfold edgeH at this
    split at this
    · cases this
    · omega

def pairOf (x y : Edge) : GPair := ⟨x.dst, y.dst⟩
structure Inv (s : Sorts) (g : Graph) (out : List GPair) (i k : Nat) : Prop where
  nodup : out.Nodup
  mem : ∀ p, p ∈ out ↔ ∃ a b, (a < i ∧ b < g.edges.length ∨ a = i ∧ b < k) ∧ condB s g (g.edges.getD a default) (g.edges.getD b default) = true ∧ p = pairOf (g.edges.getD a default) (g.edges.getD b default)
  len : out.length ≤ i * 80 + k

theorem Inv.zero (s : Sorts) (g : Graph) : Inv s g [] 0 0 := ⟨List.nodup_nil, fun p => by simp, by simp⟩
theorem Inv.skip {s : Sorts} {g : Graph} {out : List GPair} {i k : Nat} (h : Inv s g out i k) (hc : condB s g (g.edges.getD i default) (g.edges.getD k default) = false ∨ pairOf (g.edges.getD i default) (g.edges.getD k default) ∈ out) : Inv s g out i (k + 1) := by
  refine ⟨h.nodup, fun p => ?_, by have := h.len; omega⟩
  rw [h.mem]
  constructor
  · rintro ⟨a, b, h1, h2⟩
    exact ⟨a, b, by omega, h2⟩
  · rintro ⟨a, b, h1, h2, rfl⟩
    by_cases hab : a = i ∧ b = k
    · obtain ⟨rfl, rfl⟩ := hab
      rcases hc with hc | hc
      · rw [hc] at h2; cases h2
      · exact (h.mem _).1 hc
    · exact ⟨a, b, by omega, h2, rfl⟩
theorem Inv.add {s : Sorts} {g : Graph} {out : List GPair} {i k : Nat} (h : Inv s g out i k) (hc : condB s g (g.edges.getD i default) (g.edges.getD k default) = true) (hn : pairOf (g.edges.getD i default) (g.edges.getD k default) ∉ out) :
    Inv s g (out ++ [pairOf (g.edges.getD i default) (g.edges.getD k default)]) i (k + 1) := by
  refine ⟨?_, fun p => ?_, by have := h.len; simp; omega⟩
  · rw [List.nodup_append]
    refine ⟨h.nodup, by simp, fun a ha b hb => ?_⟩
    have : b = pairOf (g.edges.getD i default) (g.edges.getD k default) := by simpa using hb
    subst this
    intro e
    subst e
    exact hn ha
  · rw [List.mem_append, h.mem, List.mem_singleton]
    constructor
    · rintro (⟨a, b, h1, h2⟩ | rfl)
      · exact ⟨a, b, by omega, h2⟩
      · exact ⟨i, k, by omega, hc, rfl⟩
    · rintro ⟨a, b, h1, h2, rfl⟩
      by_cases hab : a = i ∧ b = k
      · obtain ⟨rfl, rfl⟩ := hab
        exact .inr rfl
      · exact .inl ⟨a, b, by omega, h2, rfl⟩
theorem Inv.next {s : Sorts} {g : Graph} {out : List GPair} {i : Nat} (hl : g.edges.length ≤ 80) (h : Inv s g out i g.edges.length) : Inv s g out (i + 1) 0 := by
  refine ⟨h.nodup, fun p => ?_, by have := h.len; rw [Nat.succ_mul]; omega⟩
  rw [h.mem]
  constructor
  · rintro ⟨a, b, h1, h2⟩
    exact ⟨a, b, by omega, h2⟩
  · rintro ⟨a, b, h1, h2⟩
    exact ⟨a, b, by omega, h2⟩
theorem Inv.done {s : Sorts} {g : Graph} {out : List GPair} (h : Inv s g out g.edges.length 0) (p : GPair) : p ∈ out ↔ ∃ x ∈ g.edges, ∃ y ∈ g.edges, condB s g x y = true ∧ p = ⟨x.dst, y.dst⟩ := by
  rw [h.mem]
  constructor
  · rintro ⟨a, b, h1, h2, rfl⟩
    exact ⟨_, getD_mem (by omega), _, getD_mem (by omega), h2, rfl⟩
  · rintro ⟨x, hx, y, hy, h2, rfl⟩
    obtain ⟨a, ha, rfl⟩ := mem_getD hx
    obtain ⟨b, hb, rfl⟩ := mem_getD hy
    exact ⟨a, b, by omega, h2, rfl⟩
end Go.Proofs.YtdlohnchnneaeaaGreat
/- Layer 52's reference: Links. -/
namespace Go.Proofs.YtdlohnchnneaeaaGreat
open Go.Abs

theorem leads_ok' (g : Graph) (he : g.edges.length ≤ 1000000) (a b : Int) : CallV Go.Proofs.Tryz.prog 36 [.agg [.lst (g.nodes.map encI), .lst (g.edges.map encEdge)], .val (.int .i64 a), .val (.int .i64 b)] (fun r => r = .val (.bool (leadsB g a b))) :=
  leads_ok g.nodes g.edges he a b

set_option maxHeartbeats 4000000 in
theorem RLinks_ok (t : Types) (hf : FewT t) (s : Sorts) (hs : FewS s) (h : Host) (hh : FewH h) (hok : validTr t s h = 0 → OkTr s h.graph) :
    CallV Go.Proofs.Tryz.prog 12 [encTypes t, encSorts s, encHost h] (fun r => r = .tup [.lst ((linksE t s h).1.map encPair), .val (.int .i64 (linksE t s h).2)]) := by
  refine CallV.le (Q := fun r => (validTr t s h = 0 ∧ r = .tup [.lst ((linksR s h.graph).map encPair), .val (.int .i64 0)]) ∨ (validTr t s h ≠ 0 ∧ r = .tup [.val (.slice none 0 0), .val (.int .i64 (validTr t s h))])) ?_ ?_
  case refine_2 =>
    rintro r (⟨h1, rfl⟩ | ⟨h1, rfl⟩)
    · unfold linksE; rw [if_neg (by rw [h1]; decide)]
      exact ⟨_, PLe.refl _, rfl⟩
    · unfold linksE; rw [if_pos h1]
      exact ⟨.tup [.lst [], .val (.int .i64 (validTr t s h))], .tup ⟨.nil, .refl _, trivial⟩, rfl⟩
  refine callV_of_cw [102] Ty.mixed Go.Proofs.Tryz.func12 rfl (by kernel_rfl) (by simp [Go.Proofs.Tryz.ntmps12]) ?_; rw [Go.Proofs.Tryz.ntmps12, Go.Proofs.Tryz.results12]
  
  simp -implicitDefEqProofs only [go_sem, Nat.reduceEqDiff, Nat.reduceLT, Nat.reduceLeDiff, Nat.reduceMul, Nat.reduceAdd, reduceIte, reduceCtorEq, Nat.le_refl, Nat.not_lt_zero, Nat.zero_le, Nat.zero_lt_succ, decide_true, decide_false, Nat.reduceBEq, Nat.reduceSub, Int.reduceToNat, Bool.not_not, exists_eq', ← List.map_take, ← List.map_drop, encTypes, encSorts, encHost, encInts]
  refine call_go (rtrvalid_ok t hf s hs h hh) (by simp -implicitDefEqProofs only [go_sem, Nat.reduceEqDiff, Nat.reduceLT, Nat.reduceLeDiff, Nat.reduceMul, Nat.reduceAdd, reduceIte, reduceCtorEq, Nat.le_refl, Nat.not_lt_zero, Nat.zero_le, Nat.zero_lt_succ, decide_true, decide_false, Nat.reduceBEq, Nat.reduceSub, Int.reduceToNat, Bool.not_not, exists_eq', ← List.map_take, ← List.map_drop, encTypes, encSorts, encHost, encInts] <;> rfl) (scal rfl) ?_
  simp -implicitDefEqProofs only [go_sem, Nat.reduceEqDiff, Nat.reduceLT, Nat.reduceLeDiff, Nat.reduceMul, Nat.reduceAdd, reduceIte, reduceCtorEq, Nat.le_refl, Nat.not_lt_zero, Nat.zero_le, Nat.zero_lt_succ, decide_true, decide_false, Nat.reduceBEq, Nat.reduceSub, Int.reduceToNat, Bool.not_not, exists_eq', ← List.map_take, ← List.map_drop, encTypes, encSorts, encHost, encInts]
  refine condC_splitN (fun h1 => ?_) (fun h1 => ?_) <;> simp -implicitDefEqProofs only [go_sem, Nat.reduceEqDiff, Nat.reduceLT, Nat.reduceLeDiff, Nat.reduceMul, Nat.reduceAdd, reduceIte, reduceCtorEq, Nat.le_refl, Nat.not_lt_zero, Nat.zero_le, Nat.zero_lt_succ, decide_true, decide_false, Nat.reduceBEq, Nat.reduceSub, Int.reduceToNat, Bool.not_not, exists_eq', ← List.map_take, ← List.map_drop, encTypes, encSorts, encHost, encInts]
  case refine_2 =>
    have h1' := of_decide_eq_false h1
    simp [h1']
  have h1' := of_decide_eq_true h1
  have ho := hok h1'
  have hgn := ho.nodes
  have hge := ho.edges
  refine draw_txt [.o, .o, .o, .o, .o, .o, .o, .o, .o, .o, .o, .o, .w, .w, .w, .s, .s, .s] (by kernel_rfl) ?_
  simp -implicitDefEqProofs only [go_sem, Nat.reduceEqDiff, Nat.reduceLT, Nat.reduceLeDiff, Nat.reduceMul, Nat.reduceAdd, reduceIte, reduceCtorEq, Nat.le_refl, Nat.not_lt_zero, Nat.zero_le, Nat.zero_lt_succ, decide_true, decide_false, Nat.reduceBEq, Nat.reduceSub, Int.reduceToNat, Bool.not_not, exists_eq', ← List.map_take, ← List.map_drop, encTypes, encSorts, encHost, encInts]
  have hP := fun k => Part_ok s h.graph ho k
  unfold encSorts encGraph encInts encPart encInts at hP
  refine callo_go (hP 1) (by simp -implicitDefEqProofs only [go_sem, Nat.reduceEqDiff, Nat.reduceLT, Nat.reduceLeDiff, Nat.reduceMul, Nat.reduceAdd, reduceIte, reduceCtorEq, Nat.le_refl, Nat.not_lt_zero, Nat.zero_le, Nat.zero_lt_succ, decide_true, decide_false, Nat.reduceBEq, Nat.reduceSub, Int.reduceToNat, Bool.not_not, exists_eq', ← List.map_take, ← List.map_drop, encTypes, encSorts, encHost, encInts] <;> rfl) (pers) ?_
  simp -implicitDefEqProofs only [go_sem, Nat.reduceEqDiff, Nat.reduceLT, Nat.reduceLeDiff, Nat.reduceMul, Nat.reduceAdd, reduceIte, reduceCtorEq, Nat.le_refl, Nat.not_lt_zero, Nat.zero_le, Nat.zero_lt_succ, decide_true, decide_false, Nat.reduceBEq, Nat.reduceSub, Int.reduceToNat, Bool.not_not, exists_eq', ← List.map_take, ← List.map_drop, encTypes, encSorts, encHost, encInts]
  refine callo_go (hP 2) (by simp -implicitDefEqProofs only [go_sem, Nat.reduceEqDiff, Nat.reduceLT, Nat.reduceLeDiff, Nat.reduceMul, Nat.reduceAdd, reduceIte, reduceCtorEq, Nat.le_refl, Nat.not_lt_zero, Nat.zero_le, Nat.zero_lt_succ, decide_true, decide_false, Nat.reduceBEq, Nat.reduceSub, Int.reduceToNat, Bool.not_not, exists_eq', ← List.map_take, ← List.map_drop, encTypes, encSorts, encHost, encInts] <;> rfl) (pers) ?_
  simp -implicitDefEqProofs only [go_sem, Nat.reduceEqDiff, Nat.reduceLT, Nat.reduceLeDiff, Nat.reduceMul, Nat.reduceAdd, reduceIte, reduceCtorEq, Nat.le_refl, Nat.not_lt_zero, Nat.zero_le, Nat.zero_lt_succ, decide_true, decide_false, Nat.reduceBEq, Nat.reduceSub, Int.reduceToNat, Bool.not_not, exists_eq', ← List.map_take, ← List.map_drop, encTypes, encSorts, encHost, encInts]
  refine callo_go (hP 3) (by simp -implicitDefEqProofs only [go_sem, Nat.reduceEqDiff, Nat.reduceLT, Nat.reduceLeDiff, Nat.reduceMul, Nat.reduceAdd, reduceIte, reduceCtorEq, Nat.le_refl, Nat.not_lt_zero, Nat.zero_le, Nat.zero_lt_succ, decide_true, decide_false, Nat.reduceBEq, Nat.reduceSub, Int.reduceToNat, Bool.not_not, exists_eq', ← List.map_take, ← List.map_drop, encTypes, encSorts, encHost, encInts] <;> rfl) (pers) ?_
  simp -implicitDefEqProofs only [go_sem, Nat.reduceEqDiff, Nat.reduceLT, Nat.reduceLeDiff, Nat.reduceMul, Nat.reduceAdd, reduceIte, reduceCtorEq, Nat.le_refl, Nat.not_lt_zero, Nat.zero_le, Nat.zero_lt_succ, decide_true, decide_false, Nat.reduceBEq, Nat.reduceSub, Int.reduceToNat, Bool.not_not, exists_eq', ← List.map_take, ← List.map_drop, encTypes, encSorts, encHost, encInts]
  have hS : (partX s h.graph 1).nodes.length ≤ 40 := Nat.le_trans (pick_len _ _) hgn
  have hM : (partX s h.graph 2).nodes.length ≤ 40 := Nat.le_trans (pick_len _ _) hgn
  have hT : (partX s h.graph 3).nodes.length ≤ 40 := Nat.le_trans (pick_len _ _) hgn
  have hlR : linksR s h.graph = linksL h.graph (partX s h.graph 1).nodes (partX s h.graph 2).nodes (partX s h.graph 3).nodes := rfl
  rw [hlR]
  clear hlR hP
  have hbig : ∀ S' : List Int, S'.length ≤ 40 → (linksL h.graph S' (partX s h.graph 2).nodes (partX s h.graph 3).nodes).length ≤ 1600 := fun S' h' =>
    Nat.le_trans (linksL_len _ _ _ _) (Nat.mul_le_mul h' hT)
  have hbig2 : ∀ (T' : List Int) (a : Int), T'.length ≤ 40 → (linkR h.graph (partX s h.graph 2).nodes T' a).length ≤ 40 := fun T' a h' => Nat.le_trans (linkR_len _ _ _ _) h'
  generalize (partX s h.graph 1).edges = S', (partX s h.graph 2).edges = M', (partX s h.graph 3).edges = T'
  generalize (partX s h.graph 1).nodes = S, (partX s h.graph 2).nodes = M, (partX s h.graph 3).nodes = T at *
  refine loop_rule (σ := Nat × Nat) (fun x => (upd (upd (upd (upd (upd (upd env0 5 (.ptr 5 0)) 9 (.row 9 x.2)) 10 (.ptr 10 0)) 11 (.ptr 11 0)) 12 (.ptr 12 0)) 13 (.p (.val (.int .i64 x.1)))))
    (fun x => (hset (hset (hset (hset (hset heap0 5 (.box [.p (.lst (h.graph.nodes.map encI)), .p (.lst (h.graph.edges.map encEdge)), .p (.lst (h.values.map encRow))])) 10 (.box [.p (.lst (S.map encI)), .p (.lst (S'.map encI))])) 11 (.box [.p (.lst (M.map encI)), .p (.lst (M'.map encI))])) 12 (.box [.p (.lst (T.map encI)), .p (.lst (T'.map encI))])) 9 (.row x.2 45 2 ((linksL h.graph (S.take x.1) M T).map encPair))))
    (fun x => x.1 ≤ S.length) (fun x => S.length - x.1) (0, 0) (Nat.zero_le _) ((weak_nil 9 9 45 2 rfl rfl (by decide)).trans (weak_mk (by repeat (first | exact sub_env0 _ | refine sub_upd ?_ (by first | rfl | simp [upd]))) (by repeat (first | exact hsub0 _ | refine hsub_hset ?_ (by first | rfl | simp [hset]))) (by repeat (first | exact ids_env0 _ | refine ids_upd ?_ (by simp [idsOk, idsOkL, hset]))) (by repeat (first | exact boxIds0 _ | refine boxIds_row ?_ | refine boxIds_shut ?_ | refine boxIds_box ?_ (by simp [idsOk, idsOkL, hset]))) (by repeat (first | exact keep0 _ | refine keep_low (by decide) ?_ | refine keep_high (by simp [hset]) ?_)))) ?_
  rintro ⟨x, v⟩ hx
  simp only at hx
  simp -implicitDefEqProofs only [go_sem, Nat.reduceEqDiff, Nat.reduceLT, Nat.reduceLeDiff, Nat.reduceMul, Nat.reduceAdd, reduceIte, reduceCtorEq, Nat.le_refl, Nat.not_lt_zero, Nat.zero_le, Nat.zero_lt_succ, decide_true, decide_false, Nat.reduceBEq, Nat.reduceSub, Int.reduceToNat, Bool.not_not, exists_eq', ← List.map_take, ← List.map_drop, encTypes, encSorts, encHost, encInts]
  refine condC_split (fun hc => ?_) (fun hc => ?_)
  · have hx1 : x < S.length := by have := of_decide_eq_true hc; omega
    have hbx := hbig (S.take x) (by rw [List.length_take]; omega)
    simp -implicitDefEqProofs only [go_sem, Nat.reduceEqDiff, Nat.reduceLT, Nat.reduceLeDiff, Nat.reduceMul, Nat.reduceAdd, reduceIte, reduceCtorEq, Nat.le_refl, Nat.not_lt_zero, Nat.zero_le, Nat.zero_lt_succ, decide_true, decide_false, Nat.reduceBEq, Nat.reduceSub, Int.reduceToNat, Bool.not_not, exists_eq', ← List.map_take, ← List.map_drop, encTypes, encSorts, encHost, encInts]
    refine loop_rule (σ := Nat × Nat) (fun y => (upd (upd (upd (upd (upd (upd (upd env0 5 (.ptr 5 0)) 9 (.row 9 y.2)) 10 (.ptr 10 0)) 11 (.ptr 11 0)) 12 (.ptr 12 0)) 13 (.p (.val (.int .i64 x)))) 14 (.p (.val (.int .i64 y.1)))))
      (fun y => (hset (hset (hset (hset (hset heap0 5 (.box [.p (.lst (h.graph.nodes.map encI)), .p (.lst (h.graph.edges.map encEdge)), .p (.lst (h.values.map encRow))])) 10 (.box [.p (.lst (S.map encI)), .p (.lst (S'.map encI))])) 11 (.box [.p (.lst (M.map encI)), .p (.lst (M'.map encI))])) 12 (.box [.p (.lst (T.map encI)), .p (.lst (T'.map encI))])) 9 (.row y.2 45 2 ((linksL h.graph (S.take x) M T ++ linkR h.graph M (T.take y.1) (S.getD x default)).map encPair))))
      (fun y => y.1 ≤ T.length) (fun y => T.length - y.1) (0, v) (Nat.zero_le _) (by rw [show linkR h.graph M (T.take 0) (S.getD x default) = [] from rfl, List.append_nil]; exact (weak_mk (by repeat (first | exact sub_env0 _ | refine sub_upd ?_ (by first | rfl | simp [upd]))) (by repeat (first | exact hsub0 _ | refine hsub_hset ?_ (by first | rfl | simp [hset]))) (by repeat (first | exact ids_env0 _ | refine ids_upd ?_ (by simp [idsOk, idsOkL, hset]))) (by repeat (first | exact boxIds0 _ | refine boxIds_row ?_ | refine boxIds_shut ?_ | refine boxIds_box ?_ (by simp [idsOk, idsOkL, hset]))) (by repeat (first | exact keep0 _ | refine keep_low (by decide) ?_ | refine keep_high (by simp [hset]) ?_)))) ?_
    rintro ⟨y, u⟩ hy
    simp only at hy
    simp -implicitDefEqProofs only [go_sem, Nat.reduceEqDiff, Nat.reduceLT, Nat.reduceLeDiff, Nat.reduceMul, Nat.reduceAdd, reduceIte, reduceCtorEq, Nat.le_refl, Nat.not_lt_zero, Nat.zero_le, Nat.zero_lt_succ, decide_true, decide_false, Nat.reduceBEq, Nat.reduceSub, Int.reduceToNat, Bool.not_not, exists_eq', ← List.map_take, ← List.map_drop, encTypes, encSorts, encHost, encInts]
    refine condC_split (fun hc2 => ?_) (fun hc2 => ?_)
    · have hy1 : y < T.length := by have := of_decide_eq_true hc2; omega
      have hby := hbig2 (T.take y) (S.getD x default) (by rw [List.length_take]; omega)
      have hR := linkR_succ h.graph M T (S.getD x default) y hy1
      simp -implicitDefEqProofs only [go_sem, Nat.reduceEqDiff, Nat.reduceLT, Nat.reduceLeDiff, Nat.reduceMul, Nat.reduceAdd, reduceIte, reduceCtorEq, Nat.le_refl, Nat.not_lt_zero, Nat.zero_le, Nat.zero_lt_succ, decide_true, decide_false, Nat.reduceBEq, Nat.reduceSub, Int.reduceToNat, Bool.not_not, exists_eq', ← List.map_take, ← List.map_drop, encTypes, encSorts, encHost, encInts]
      refine loop_rule (σ := Nat) (fun z => (upd (upd (upd (upd (upd (upd (upd (upd (upd env0 5 (.ptr 5 0)) 9 (.row 9 u)) 10 (.ptr 10 0)) 11 (.ptr 11 0)) 12 (.ptr 12 0)) 13 (.p (.val (.int .i64 x)))) 14 (.p (.val (.int .i64 y)))) 15 (.p (.val (.bool ((M.take z).any (midB h.graph (S.getD x default) (T.getD y default))))))) 16 (.p (.val (.int .i64 z)))))
        (fun z => (hset (hset (hset (hset (hset heap0 5 (.box [.p (.lst (h.graph.nodes.map encI)), .p (.lst (h.graph.edges.map encEdge)), .p (.lst (h.values.map encRow))])) 10 (.box [.p (.lst (S.map encI)), .p (.lst (S'.map encI))])) 11 (.box [.p (.lst (M.map encI)), .p (.lst (M'.map encI))])) 12 (.box [.p (.lst (T.map encI)), .p (.lst (T'.map encI))])) 9 (.row u 45 2 ((linksL h.graph (S.take x) M T ++ linkR h.graph M (T.take y) (S.getD x default)).map encPair))))
        (fun z => z ≤ M.length) (fun z => M.length - z) 0 (Nat.zero_le _) (weak_mk (by repeat (first | exact sub_env0 _ | refine sub_upd ?_ (by first | rfl | simp [upd]))) (by repeat (first | exact hsub0 _ | refine hsub_hset ?_ (by first | rfl | simp [hset]))) (by repeat (first | exact ids_env0 _ | refine ids_upd ?_ (by simp [idsOk, idsOkL, hset]))) (by repeat (first | exact boxIds0 _ | refine boxIds_row ?_ | refine boxIds_shut ?_ | refine boxIds_box ?_ (by simp [idsOk, idsOkL, hset]))) (by repeat (first | exact keep0 _ | refine keep_low (by decide) ?_ | refine keep_high (by simp [hset]) ?_))) ?_
      rintro z hz
      simp -implicitDefEqProofs only [go_sem, Nat.reduceEqDiff, Nat.reduceLT, Nat.reduceLeDiff, Nat.reduceMul, Nat.reduceAdd, reduceIte, reduceCtorEq, Nat.le_refl, Nat.not_lt_zero, Nat.zero_le, Nat.zero_lt_succ, decide_true, decide_false, Nat.reduceBEq, Nat.reduceSub, Int.reduceToNat, Bool.not_not, exists_eq', ← List.map_take, ← List.map_drop, encTypes, encSorts, encHost, encInts]
      refine condC_split (fun hc3 => ?_) (fun hc3 => ?_)
      · have hz1 : z < M.length := by have := of_decide_eq_true hc3; omega
        have hA := any_take_succ (midB h.graph (S.getD x default) (T.getD y default)) M z hz1
        
        cases hb : (M.take z).any (midB h.graph (S.getD x default) (T.getD y default)) with
        | true =>
          rw [hb, Bool.true_or] at hA
          simp -implicitDefEqProofs only [go_sem, Nat.reduceEqDiff, Nat.reduceLT, Nat.reduceLeDiff, Nat.reduceMul, Nat.reduceAdd, reduceIte, reduceCtorEq, Nat.le_refl, Nat.not_lt_zero, Nat.zero_le, Nat.zero_lt_succ, decide_true, decide_false, Nat.reduceBEq, Nat.reduceSub, Int.reduceToNat, Bool.not_not, exists_eq', ← List.map_take, ← List.map_drop, hb, encTypes, encSorts, encHost, encInts, getD_map encI hx1, hx1, getD_map encI hy1, hy1, getD_map encI hz1, hz1, encI]
          refine draw_txt [.q, .q, .q, .q, .q, .q, .q, .q, .q, .q, .q, .q, .q, .q, .q, .q, .q, .q, .q, .q, .q, .q, .q, .q, .q, .q, .q, .q, .q, .q, .q, .q] (by kernel_rfl) ?_
          simp -implicitDefEqProofs only [go_sem, Nat.reduceEqDiff, Nat.reduceLT, Nat.reduceLeDiff, Nat.reduceMul, Nat.reduceAdd, reduceIte, reduceCtorEq, Nat.le_refl, Nat.not_lt_zero, Nat.zero_le, Nat.zero_lt_succ, decide_true, decide_false, Nat.reduceBEq, Nat.reduceSub, Int.reduceToNat, Bool.not_not, exists_eq', ← List.map_take, ← List.map_drop, hb, encTypes, encSorts, encHost, encInts, getD_map encI hx1, hx1, getD_map encI hy1, hy1, getD_map encI hz1, hz1, encI]
          refine loopN_mk (z + 1) hz1 (by omega) ?_
          rw [wrap_succ hz1 (by omega), hA]
          exact (weak_mk (by repeat (first | exact sub_env0 _ | refine sub_upd ?_ (by first | rfl | simp [upd]))) (by repeat (first | exact hsub0 _ | refine hsub_hset ?_ (by first | rfl | simp [hset]))) (by repeat (first | exact ids_env0 _ | refine ids_upd ?_ (by simp [idsOk, idsOkL, hset]))) (by repeat (first | exact boxIds0 _ | refine boxIds_row ?_ | refine boxIds_shut ?_ | refine boxIds_box ?_ (by simp [idsOk, idsOkL, hset]))) (by repeat (first | exact keep0 _ | refine keep_low (by decide) ?_ | refine keep_high (by simp [hset]) ?_)))
        | false =>
          rw [hb, Bool.false_or] at hA
          simp -implicitDefEqProofs only [go_sem, Nat.reduceEqDiff, Nat.reduceLT, Nat.reduceLeDiff, Nat.reduceMul, Nat.reduceAdd, reduceIte, reduceCtorEq, Nat.le_refl, Nat.not_lt_zero, Nat.zero_le, Nat.zero_lt_succ, decide_true, decide_false, Nat.reduceBEq, Nat.reduceSub, Int.reduceToNat, Bool.not_not, exists_eq', ← List.map_take, ← List.map_drop, hb, encTypes, encSorts, encHost, encInts, getD_map encI hx1, hx1, getD_map encI hy1, hy1, getD_map encI hz1, hz1, encI]
          refine draw_txt [.q, .q, .q, .q, .q, .q, .q, .q, .q, .q, .q, .q, .q, .q, .q, .q, .q, .q, .q, .q, .q, .q, .q, .q, .q, .q, .q, .q, .q, .q, .q, .q] (by kernel_rfl) ?_
          simp -implicitDefEqProofs only [go_sem, Nat.reduceEqDiff, Nat.reduceLT, Nat.reduceLeDiff, Nat.reduceMul, Nat.reduceAdd, reduceIte, reduceCtorEq, Nat.le_refl, Nat.not_lt_zero, Nat.zero_le, Nat.zero_lt_succ, decide_true, decide_false, Nat.reduceBEq, Nat.reduceSub, Int.reduceToNat, Bool.not_not, exists_eq', ← List.map_take, ← List.map_drop, hb, encTypes, encSorts, encHost, encInts, getD_map encI hx1, hx1, getD_map encI hy1, hy1, getD_map encI hz1, hz1, encI]
          refine calld_go (leads_ok' h.graph (by omega) (M.getD z default) (S.getD x default)) (by simp -implicitDefEqProofs only [go_sem, Nat.reduceEqDiff, Nat.reduceLT, Nat.reduceLeDiff, Nat.reduceMul, Nat.reduceAdd, reduceIte, reduceCtorEq, Nat.le_refl, Nat.not_lt_zero, Nat.zero_le, Nat.zero_lt_succ, decide_true, decide_false, Nat.reduceBEq, Nat.reduceSub, Int.reduceToNat, Bool.not_not, exists_eq', ← List.map_take, ← List.map_drop, encTypes, encSorts, encHost, encInts, getD_map encI hx1, hx1, getD_map encI hy1, hy1, getD_map encI hz1, hz1, encI] <;> rfl) (scal rfl) ?_
          simp -implicitDefEqProofs only [go_sem, Nat.reduceEqDiff, Nat.reduceLT, Nat.reduceLeDiff, Nat.reduceMul, Nat.reduceAdd, reduceIte, reduceCtorEq, Nat.le_refl, Nat.not_lt_zero, Nat.zero_le, Nat.zero_lt_succ, decide_true, decide_false, Nat.reduceBEq, Nat.reduceSub, Int.reduceToNat, Bool.not_not, exists_eq', ← List.map_take, ← List.map_drop, hb, encTypes, encSorts, encHost, encInts, getD_map encI hx1, hx1, getD_map encI hy1, hy1, getD_map encI hz1, hz1, encI]
          cases hl : leadsB h.graph (M.getD z default) (S.getD x default) with
          | false =>
            have hm : midB h.graph (S.getD x default) (T.getD y default) (M.getD z default) = false := by unfold midB; rw [hl, Bool.false_and]
            rw [hm] at hA
            simp -implicitDefEqProofs only [go_sem, Nat.reduceEqDiff, Nat.reduceLT, Nat.reduceLeDiff, Nat.reduceMul, Nat.reduceAdd, reduceIte, reduceCtorEq, Nat.le_refl, Nat.not_lt_zero, Nat.zero_le, Nat.zero_lt_succ, decide_true, decide_false, Nat.reduceBEq, Nat.reduceSub, Int.reduceToNat, Bool.not_not, exists_eq', ← List.map_take, ← List.map_drop, hb, hl, encTypes, encSorts, encHost, encInts, getD_map encI hx1, hx1, getD_map encI hy1, hy1, getD_map encI hz1, hz1, encI]
            refine loopN_mk (z + 1) hz1 (by omega) ?_
            rw [wrap_succ hz1 (by omega), hA]
            exact (weak_mk (by repeat (first | exact sub_env0 _ | refine sub_upd ?_ (by first | rfl | simp [upd]))) (by repeat (first | exact hsub0 _ | refine hsub_hset ?_ (by first | rfl | simp [hset]))) (by repeat (first | exact ids_env0 _ | refine ids_upd ?_ (by simp [idsOk, idsOkL, hset]))) (by repeat (first | exact boxIds0 _ | refine boxIds_row ?_ | refine boxIds_shut ?_ | refine boxIds_box ?_ (by simp [idsOk, idsOkL, hset]))) (by repeat (first | exact keep0 _ | refine keep_low (by decide) ?_ | refine keep_high (by simp [hset]) ?_)))
          | true =>
            have hm : midB h.graph (S.getD x default) (T.getD y default) (M.getD z default) = leadsB h.graph (M.getD z default) (T.getD y default) := by unfold midB; rw [hl, Bool.true_and]
            rw [hm] at hA
            simp -implicitDefEqProofs only [go_sem, Nat.reduceEqDiff, Nat.reduceLT, Nat.reduceLeDiff, Nat.reduceMul, Nat.reduceAdd, reduceIte, reduceCtorEq, Nat.le_refl, Nat.not_lt_zero, Nat.zero_le, Nat.zero_lt_succ, decide_true, decide_false, Nat.reduceBEq, Nat.reduceSub, Int.reduceToNat, Bool.not_not, exists_eq', ← List.map_take, ← List.map_drop, hb, hl, encTypes, encSorts, encHost, encInts, getD_map encI hx1, hx1, getD_map encI hy1, hy1, getD_map encI hz1, hz1, encI]
            refine calld_go (leads_ok' h.graph (by omega) (M.getD z default) (T.getD y default)) (by simp -implicitDefEqProofs only [go_sem, Nat.reduceEqDiff, Nat.reduceLT, Nat.reduceLeDiff, Nat.reduceMul, Nat.reduceAdd, reduceIte, reduceCtorEq, Nat.le_refl, Nat.not_lt_zero, Nat.zero_le, Nat.zero_lt_succ, decide_true, decide_false, Nat.reduceBEq, Nat.reduceSub, Int.reduceToNat, Bool.not_not, exists_eq', ← List.map_take, ← List.map_drop, encTypes, encSorts, encHost, encInts, getD_map encI hx1, hx1, getD_map encI hy1, hy1, getD_map encI hz1, hz1, encI] <;> rfl) (scal rfl) ?_
            simp -implicitDefEqProofs only [go_sem, Nat.reduceEqDiff, Nat.reduceLT, Nat.reduceLeDiff, Nat.reduceMul, Nat.reduceAdd, reduceIte, reduceCtorEq, Nat.le_refl, Nat.not_lt_zero, Nat.zero_le, Nat.zero_lt_succ, decide_true, decide_false, Nat.reduceBEq, Nat.reduceSub, Int.reduceToNat, Bool.not_not, exists_eq', ← List.map_take, ← List.map_drop, hb, hl, encTypes, encSorts, encHost, encInts, getD_map encI hx1, hx1, getD_map encI hy1, hy1, getD_map encI hz1, hz1, encI]
            refine loopN_mk (z + 1) hz1 (by omega) ?_
            rw [wrap_succ hz1 (by omega), hA]
            exact (weak_mk (by repeat (first | exact sub_env0 _ | refine sub_upd ?_ (by first | rfl | simp [upd]))) (by repeat (first | exact hsub0 _ | refine hsub_hset ?_ (by first | rfl | simp [hset]))) (by repeat (first | exact ids_env0 _ | refine ids_upd ?_ (by simp [idsOk, idsOkL, hset]))) (by repeat (first | exact boxIds0 _ | refine boxIds_row ?_ | refine boxIds_shut ?_ | refine boxIds_box ?_ (by simp [idsOk, idsOkL, hset]))) (by repeat (first | exact keep0 _ | refine keep_low (by decide) ?_ | refine keep_high (by simp [hset]) ?_)))
      · have hz0 : M.length ≤ z := by have := of_decide_eq_false hc3; omega
        have hze : M.take z = M := List.take_of_length_le hz0
        rw [hze]
        have hk : M.any (midB h.graph (S.getD x default) (T.getD y default)) = linkB h.graph M (S.getD x default) (T.getD y default) := rfl
        rw [hk]
        simp -implicitDefEqProofs only [go_sem, Nat.reduceEqDiff, Nat.reduceLT, Nat.reduceLeDiff, Nat.reduceMul, Nat.reduceAdd, reduceIte, reduceCtorEq, Nat.le_refl, Nat.not_lt_zero, Nat.zero_le, Nat.zero_lt_succ, decide_true, decide_false, Nat.reduceBEq, Nat.reduceSub, Int.reduceToNat, Bool.not_not, exists_eq', ← List.map_take, ← List.map_drop, encTypes, encSorts, encHost, encInts]
        refine condC_split (fun h5 => ?_) (fun h5 => ?_) <;> simp -implicitDefEqProofs only [go_sem, Nat.reduceEqDiff, Nat.reduceLT, Nat.reduceLeDiff, Nat.reduceMul, Nat.reduceAdd, reduceIte, reduceCtorEq, Nat.le_refl, Nat.not_lt_zero, Nat.zero_le, Nat.zero_lt_succ, decide_true, decide_false, Nat.reduceBEq, Nat.reduceSub, Int.reduceToNat, Bool.not_not, exists_eq', ← List.map_take, ← List.map_drop, encTypes, encSorts, encHost, encInts]
        · rw [if_pos h5] at hR
          
          refine draw_txt [.p, .p, .b, .p, .p, .b, .p, .b, .p, .p, .b, .p, .w, .w, .q] (by kernel_rfl) ?_
          simp -implicitDefEqProofs only [go_sem, Nat.reduceEqDiff, Nat.reduceLT, Nat.reduceLeDiff, Nat.reduceMul, Nat.reduceAdd, reduceIte, reduceCtorEq, Nat.le_refl, Nat.not_lt_zero, Nat.zero_le, Nat.zero_lt_succ, decide_true, decide_false, Nat.reduceBEq, Nat.reduceSub, Int.reduceToNat, Bool.not_not, exists_eq', ← List.map_take, ← List.map_drop, encTypes, encSorts, encHost, encInts, getD_map encI hx1, hx1, getD_map encI hy1, hy1, encI]
          have hcat : List.map encPair (linksL h.graph (S.take x) M T ++ linkR h.graph M (T.take y) (S.getD x default)) ++ [[PV.val (.int .i64 (S.getD x default)), PV.val (.int .i64 (T.getD y default))]]
              = (linksL h.graph (S.take x) M T ++ linkR h.graph M (T.take (y + 1)) (S.getD x default)).map encPair := by
            rw [hR, ← List.append_assoc, List.map_append (l₁ := linksL h.graph (S.take x) M T ++ linkR h.graph M (T.take y) (S.getD x default))]
            try rfl
          refine ⟨by omega, loopN_mk (y + 1, u + 1) hy1 (by dsimp only; omega) ?_⟩
          rw [wrap_succ hy1 (by omega), hcat]
          exact (weak_mk (by repeat (first | exact sub_env0 _ | refine sub_upd ?_ (by first | rfl | simp [upd]))) (by repeat (first | exact hsub0 _ | refine hsub_hset ?_ (by first | rfl | simp [hset]))) (by repeat (first | exact ids_env0 _ | refine ids_upd ?_ (by simp [idsOk, idsOkL, hset]))) (by repeat (first | exact boxIds0 _ | refine boxIds_row ?_ | refine boxIds_shut ?_ | refine boxIds_box ?_ (by simp [idsOk, idsOkL, hset]))) (by repeat (first | exact keep0 _ | refine keep_low (by decide) ?_ | refine keep_high (by simp [hset]) ?_)))
        · rw [if_neg (by rw [h5]; decide)] at hR
          refine loopN_mk (y + 1, u) hy1 (by dsimp only; omega) ?_
          rw [wrap_succ hy1 (by omega), hR]
          exact (weak_mk (by repeat (first | exact sub_env0 _ | refine sub_upd ?_ (by first | rfl | simp [upd]))) (by repeat (first | exact hsub0 _ | refine hsub_hset ?_ (by first | rfl | simp [hset]))) (by repeat (first | exact ids_env0 _ | refine ids_upd ?_ (by simp [idsOk, idsOkL, hset]))) (by repeat (first | exact boxIds0 _ | refine boxIds_row ?_ | refine boxIds_shut ?_ | refine boxIds_box ?_ (by simp [idsOk, idsOkL, hset]))) (by repeat (first | exact keep0 _ | refine keep_low (by decide) ?_ | refine keep_high (by simp [hset]) ?_)))
    · have hy0 : T.length ≤ y := by have := of_decide_eq_false hc2; omega
      have hye : T.take y = T := List.take_of_length_le hy0
      simp -implicitDefEqProofs only [go_sem, Nat.reduceEqDiff, Nat.reduceLT, Nat.reduceLeDiff, Nat.reduceMul, Nat.reduceAdd, reduceIte, reduceCtorEq, Nat.le_refl, Nat.not_lt_zero, Nat.zero_le, Nat.zero_lt_succ, decide_true, decide_false, Nat.reduceBEq, Nat.reduceSub, Int.reduceToNat, Bool.not_not, exists_eq', ← List.map_take, ← List.map_drop, encTypes, encSorts, encHost, encInts]
      refine loopN_mk (x + 1, u) hx1 (by dsimp only; omega) ?_
      rw [wrap_succ hx1 (by omega), linksL_succ h.graph S M T x hx1, hye]
      exact (weak_mk (by repeat (first | exact sub_env0 _ | refine sub_upd ?_ (by first | rfl | simp [upd]))) (by repeat (first | exact hsub0 _ | refine hsub_hset ?_ (by first | rfl | simp [hset]))) (by repeat (first | exact ids_env0 _ | refine ids_upd ?_ (by simp [idsOk, idsOkL, hset]))) (by repeat (first | exact boxIds0 _ | refine boxIds_row ?_ | refine boxIds_shut ?_ | refine boxIds_box ?_ (by simp [idsOk, idsOkL, hset]))) (by repeat (first | exact keep0 _ | refine keep_low (by decide) ?_ | refine keep_high (by simp [hset]) ?_)))
  · have hx0 : S.length ≤ x := by have := of_decide_eq_false hc; omega
    simp -implicitDefEqProofs only [go_sem, Nat.reduceEqDiff, Nat.reduceLT, Nat.reduceLeDiff, Nat.reduceMul, Nat.reduceAdd, reduceIte, reduceCtorEq, Nat.le_refl, Nat.not_lt_zero, Nat.zero_le, Nat.zero_lt_succ, decide_true, decide_false, Nat.reduceBEq, Nat.reduceSub, Int.reduceToNat, Bool.not_not, exists_eq', ← List.map_take, ← List.map_drop, encTypes, encSorts, encHost, encInts]
    rw [List.take_of_length_le hx0]
    simp [h1']
end Go.Proofs.YtdlohnchnneaeaaGreat
/- Layer 52: Links. -/
namespace Go.Proofs.YtdlohnchnneaeaaGreat
open Go.Abs

theorem link1' {s : Sorts} {g : Graph} (ho : OkTr s g) (n : Int) (hn : inR n g.nodes.length) :
    CallV Go.Proofs.Tryz.prog 32 [.val (.int .i64 n), .eptr [.lst (s.nodes.map encI), .lst (s.edges.map encI)] 0, .eptr [.lst (g.nodes.map encI), .lst (g.edges.map encEdge)] 0] (fun r => r = .val (.int .i64 (nodeI s g n))) := by
  obtain ⟨i, rfl⟩ : ∃ i : Nat, n = i := ⟨_, (Int.toNat_of_nonneg hn.1).symm⟩
  have hi : i < g.nodes.length := by have := hn.2; omega
  obtain ⟨k, hk⟩ : ∃ k : Nat, g.nodes.getD i default = k := ⟨_, (Int.toNat_of_nonneg (ho.kind i hi).1).symm⟩
  have hks : k < s.nodes.length := by have := (ho.kind i hi).2; rw [hk] at this; omega
  have h := link1_ok s g.nodes g.edges i k hi hk hks
  have e : nodeI s g i = s.nodes.getD k default := by unfold nodeI nodeS; rw [Int.toNat_natCast, hk, Int.toNat_natCast]
  rw [e]
  exact h

theorem sort_out {s : Sorts} {g : Graph} (ho : OkTr s g) {out : List GPair} (h : Inv s g out g.edges.length 0) (v : Nat) : CallM Go.Proofs.Tryz.prog 33 v 45 2 (out.map encPair) [.clo (.func 34) [] []]
    (fun a c => a = .tup [] ∧ c = some (.row v 45 2 ((linksR s g).map encPair))) := by
  have hn := ho.nodes
  have hok : ∀ p, p ∈ out → okP p := fun p hp => by
    obtain ⟨x, hx, y, hy, _, rfl⟩ := (h.done p).1 hp
    have h1 := (ends_of ho hx).2
    have h2 := (ends_of ho hy).2
    unfold inR at h1 h2
    unfold okP
    simp only
    omega
  have e1 : (out.pmap (fun p hp => (⟨p, hp⟩ : SP)) hok).map (·.1) = out := by
    rw [List.map_pmap]
    simp
  have e2 : ∀ l : List SP, l.map (fun x => encPair x.1) = (l.map (·.1)).map encPair := fun l => by rw [List.map_map]; try rfl
  have hl : (out.pmap (fun p hp => (⟨p, hp⟩ : SP)) hok).length ≤ 1000000 := by
    rw [List.length_pmap]
    have := h.len
    have := ho.edges
    omega
  have hs := sortPair_ok (out.pmap (fun p hp => (⟨p, hp⟩ : SP)) hok) hl v
  rw [e2, e2, e1, sort_links ho _ (by rw [e1]; exact h.nodup) (by rw [e1]; exact h.done) _ (fun x y => by
    rw [Bool.not_eq_true', Go.Proofs.ltOf, decide_eq_false_iff_not, cmpS_lt])] at hs
  exact hs

set_option maxHeartbeats 4000000 in
theorem Links_ok (t : Types) (hf : FewT t) (s : Sorts) (hs : FewS s) (h : Host) (hh : FewH h) :
    CallV Go.Proofs.Tryz.prog 11 [encTypes t, encSorts s, encHost h] (fun r => r = .tup [.lst ((linksE t s h).1.map encPair), .val (.int .i64 (linksE t s h).2)]) := by
  refine CallV.le (Q := fun r => (validTr t s h = 0 ∧ r = .tup [.lst ((linksR s h.graph).map encPair), .val (.int .i64 0)]) ∨ (validTr t s h ≠ 0 ∧ r = .tup [.val (.slice none 0 0), .val (.int .i64 (validTr t s h))])) ?_ ?_
  case refine_2 =>
    rintro r (⟨h1, rfl⟩ | ⟨h1, rfl⟩)
    · unfold linksE; rw [if_neg (by rw [h1]; decide)]
      exact ⟨_, PLe.refl _, rfl⟩
    · unfold linksE; rw [if_pos h1]
      exact ⟨.tup [.lst [], .val (.int .i64 (validTr t s h))], .tup ⟨.nil, .refl _, trivial⟩, rfl⟩
  refine callV_of_cw [81] Ty.mixed Go.Proofs.Tryz.func11 rfl (by kernel_rfl) (by simp [Go.Proofs.Tryz.ntmps11]) ?_; rw [Go.Proofs.Tryz.ntmps11, Go.Proofs.Tryz.results11]
  
  simp -implicitDefEqProofs only [go_sem, Nat.reduceEqDiff, Nat.reduceLT, Nat.reduceLeDiff, Nat.reduceMul, Nat.reduceAdd, reduceIte, reduceCtorEq, Nat.le_refl, Nat.not_lt_zero, Nat.zero_le, Nat.zero_lt_succ, decide_true, decide_false, Nat.reduceBEq, Nat.reduceSub, Int.reduceToNat, Bool.not_not, exists_eq', ← List.map_take, ← List.map_drop, encTypes, encSorts, encHost, encInts]
  refine call_go (trvalid_ok t hf s hs h hh) (by simp -implicitDefEqProofs only [go_sem, Nat.reduceEqDiff, Nat.reduceLT, Nat.reduceLeDiff, Nat.reduceMul, Nat.reduceAdd, reduceIte, reduceCtorEq, Nat.le_refl, Nat.not_lt_zero, Nat.zero_le, Nat.zero_lt_succ, decide_true, decide_false, Nat.reduceBEq, Nat.reduceSub, Int.reduceToNat, Bool.not_not, exists_eq', ← List.map_take, ← List.map_drop, encTypes, encSorts, encHost, encInts] <;> rfl) (scal rfl) ?_
  simp -implicitDefEqProofs only [go_sem, Nat.reduceEqDiff, Nat.reduceLT, Nat.reduceLeDiff, Nat.reduceMul, Nat.reduceAdd, reduceIte, reduceCtorEq, Nat.le_refl, Nat.not_lt_zero, Nat.zero_le, Nat.zero_lt_succ, decide_true, decide_false, Nat.reduceBEq, Nat.reduceSub, Int.reduceToNat, Bool.not_not, exists_eq', ← List.map_take, ← List.map_drop, encTypes, encSorts, encHost, encInts]
  refine condC_splitN (fun h1 => ?_) (fun h1 => ?_) <;> simp -implicitDefEqProofs only [go_sem, Nat.reduceEqDiff, Nat.reduceLT, Nat.reduceLeDiff, Nat.reduceMul, Nat.reduceAdd, reduceIte, reduceCtorEq, Nat.le_refl, Nat.not_lt_zero, Nat.zero_le, Nat.zero_lt_succ, decide_true, decide_false, Nat.reduceBEq, Nat.reduceSub, Int.reduceToNat, Bool.not_not, exists_eq', ← List.map_take, ← List.map_drop, encTypes, encSorts, encHost, encInts]
  case refine_2 =>
    have h1' := of_decide_eq_false h1
    simp [h1']
  have h1' := of_decide_eq_true h1
  have ho := okTr h1'
  have hgn := ho.nodes
  have hge := ho.edges
  refine loop_rule (σ := Nat × Nat × List GPair) (fun x => (upd (upd (upd (upd (upd (upd (upd env0 4 (.ptr 4 0)) 9 (.ptr 9 0)) 10 (.clo (.func 32) [] [.ptr 4 0, .ptr 9 0])) 11 (.row 11 x.2.1)) 28 (.p (.lst (h.graph.edges.map encEdge)))) 29 (.p (.val (.int .i64 h.graph.edges.length)))) 30 (.p (.val (.int .i64 x.1)))))
    (fun x => (hset (hset (hset heap0 4 (.box [.p (.lst (s.nodes.map encI)), .p (.lst (s.edges.map encI))])) 9 (.box [.p (.lst (h.graph.nodes.map encI)), .p (.lst (h.graph.edges.map encEdge))])) 11 (.row x.2.1 45 2 (x.2.2.map encPair))))
    (fun x => x.1 ≤ h.graph.edges.length ∧ Inv s h.graph x.2.2 x.1 0) (fun x => h.graph.edges.length - x.1) (0, 0, []) ⟨Nat.zero_le _, Inv.zero _ _⟩ ((weak_nil 11 11 45 2 rfl rfl (by decide)).trans (weak_mk (by repeat (first | exact sub_env0 _ | refine sub_upd ?_ (by first | rfl | simp [upd]))) (by repeat (first | exact hsub0 _ | refine hsub_hset ?_ (by first | rfl | simp [hset]))) (by repeat (first | exact ids_env0 _ | refine ids_upd ?_ (by simp [idsOk, idsOkL, hset]))) (by repeat (first | exact boxIds0 _ | refine boxIds_row ?_ | refine boxIds_shut ?_ | refine boxIds_box ?_ (by simp [idsOk, idsOkL, hset]))) (by repeat (first | exact keep0 _ | refine keep_low (by decide) ?_ | refine keep_high (by simp [hset]) ?_)))) ?_
  rintro ⟨x, v, out⟩ ⟨hx, hI⟩
  simp only at hx hI
  simp -implicitDefEqProofs only [go_sem, Nat.reduceEqDiff, Nat.reduceLT, Nat.reduceLeDiff, Nat.reduceMul, Nat.reduceAdd, reduceIte, reduceCtorEq, Nat.le_refl, Nat.not_lt_zero, Nat.zero_le, Nat.zero_lt_succ, decide_true, decide_false, Nat.reduceBEq, Nat.reduceSub, Int.reduceToNat, Bool.not_not, exists_eq', ← List.map_take, ← List.map_drop, encTypes, encSorts, encHost, encInts]
  refine condC_split (fun hc => ?_) (fun hc => ?_)
  · have hx1 : x < h.graph.edges.length := by have := of_decide_eq_true hc; omega
    
    simp -implicitDefEqProofs only [go_sem, Nat.reduceEqDiff, Nat.reduceLT, Nat.reduceLeDiff, Nat.reduceMul, Nat.reduceAdd, reduceIte, reduceCtorEq, Nat.le_refl, Nat.not_lt_zero, Nat.zero_le, Nat.zero_lt_succ, decide_true, decide_false, Nat.reduceBEq, Nat.reduceSub, Int.reduceToNat, Bool.not_not, exists_eq', ← List.map_take, ← List.map_drop, encTypes, encSorts, encHost, encInts, getD_map encEdge hx1, hx1, encEdge]
    refine loop_rule (σ := Nat × Nat × List GPair) (fun y => (upd (upd (upd (upd (upd (upd (upd (upd (upd (upd (upd env0 4 (.ptr 4 0)) 9 (.ptr 9 0)) 10 (.clo (.func 32) [] [.ptr 4 0, .ptr 9 0])) 11 (.row 11 y.2.1)) 28 (.p (.lst (h.graph.edges.map encEdge)))) 29 (.p (.val (.int .i64 h.graph.edges.length)))) 30 (.p (.val (.int .i64 x)))) 13 (.ptr 13 0)) 35 (.p (.lst (h.graph.edges.map encEdge)))) 36 (.p (.val (.int .i64 h.graph.edges.length)))) 37 (.p (.val (.int .i64 y.1)))))
      (fun y => (hset (hset (hset (hset heap0 4 (.box [.p (.lst (s.nodes.map encI)), .p (.lst (s.edges.map encI))])) 9 (.box [.p (.lst (h.graph.nodes.map encI)), .p (.lst (h.graph.edges.map encEdge))])) 13 (.box [.p (.val (.int .i64 (h.graph.edges.getD x default).type)), .p (.val (.int .i64 (h.graph.edges.getD x default).src)), .p (.val (.int .i64 (h.graph.edges.getD x default).dst))])) 11 (.row y.2.1 45 2 (y.2.2.map encPair))))
      (fun y => y.1 ≤ h.graph.edges.length ∧ Inv s h.graph y.2.2 x y.1) (fun y => h.graph.edges.length - y.1) (0, v, out) ⟨Nat.zero_le _, hI⟩ (weak_mk (by repeat (first | exact sub_env0 _ | refine sub_upd ?_ (by first | rfl | simp [upd]))) (by repeat (first | exact hsub0 _ | refine hsub_hset ?_ (by first | rfl | simp [hset]))) (by repeat (first | exact ids_env0 _ | refine ids_upd ?_ (by simp [idsOk, idsOkL, hset]))) (by repeat (first | exact boxIds0 _ | refine boxIds_row ?_ | refine boxIds_shut ?_ | refine boxIds_box ?_ (by simp [idsOk, idsOkL, hset]))) (by repeat (first | exact keep0 _ | refine keep_low (by decide) ?_ | refine keep_high (by simp [hset]) ?_))) ?_
    clear hI
    rintro ⟨y, v, out⟩ ⟨hy, hI⟩
    simp only at hy hI
    simp -implicitDefEqProofs only [go_sem, Nat.reduceEqDiff, Nat.reduceLT, Nat.reduceLeDiff, Nat.reduceMul, Nat.reduceAdd, reduceIte, reduceCtorEq, Nat.le_refl, Nat.not_lt_zero, Nat.zero_le, Nat.zero_lt_succ, decide_true, decide_false, Nat.reduceBEq, Nat.reduceSub, Int.reduceToNat, Bool.not_not, exists_eq', ← List.map_take, ← List.map_drop, encTypes, encSorts, encHost, encInts, getD_map encEdge hx1, hx1, encEdge]
    refine condC_split (fun hc2 => ?_) (fun hc2 => ?_)
    · have hy1 : y < h.graph.edges.length := by have := of_decide_eq_true hc2; omega
      
      simp -implicitDefEqProofs only [go_sem, Nat.reduceEqDiff, Nat.reduceLT, Nat.reduceLeDiff, Nat.reduceMul, Nat.reduceAdd, reduceIte, reduceCtorEq, Nat.le_refl, Nat.not_lt_zero, Nat.zero_le, Nat.zero_lt_succ, decide_true, decide_false, Nat.reduceBEq, Nat.reduceSub, Int.reduceToNat, Bool.not_not, exists_eq', ← List.map_take, ← List.map_drop, encTypes, encSorts, encHost, encInts, getD_map encEdge hx1, hx1, encEdge, getD_map encEdge hy1, hy1]
      have he1 := ends_of ho (getD_mem hx1)
      have he2 := ends_of ho (getD_mem hy1)
      have hcb : condB s h.graph (h.graph.edges.getD x default) (h.graph.edges.getD y default) = (((decide ((h.graph.edges.getD x default).src = (h.graph.edges.getD y default).src) && decide (nodeI s h.graph (h.graph.edges.getD x default).src = 2)) && decide (nodeI s h.graph (h.graph.edges.getD x default).dst = 1)) && decide (nodeI s h.graph (h.graph.edges.getD y default).dst = 3)) := rfl
      have stay : condB s h.graph (h.graph.edges.getD x default) (h.graph.edges.getD y default) = false → Inv s h.graph out x (y + 1) := fun hb => hI.skip (.inl hb)
      refine walkG_split (fun g1 => ?_) (fun g1 => ?_) <;> simp -implicitDefEqProofs only [go_sem, Nat.reduceEqDiff, Nat.reduceLT, Nat.reduceLeDiff, Nat.reduceMul, Nat.reduceAdd, reduceIte, reduceCtorEq, Nat.le_refl, Nat.not_lt_zero, Nat.zero_le, Nat.zero_lt_succ, decide_true, decide_false, Nat.reduceBEq, Nat.reduceSub, Int.reduceToNat, Bool.not_not, exists_eq', ← List.map_take, ← List.map_drop, g1, encTypes, encSorts, encHost, encInts, getD_map encEdge hx1, hx1, encEdge, getD_map encEdge hy1, hy1]
      case refine_2 =>
        exact loopN_mk (y + 1, v, out) ⟨hy1, stay (by rw [hcb, g1]; rfl)⟩ (by dsimp only; omega) (by rw [wrap_succ hy1 (by omega)]; exact (weak_mk (by repeat (first | exact sub_env0 _ | refine sub_upd ?_ (by first | rfl | simp [upd]))) (by repeat (first | exact hsub0 _ | refine hsub_hset ?_ (by first | rfl | simp [hset]))) (by repeat (first | exact ids_env0 _ | refine ids_upd ?_ (by simp [idsOk, idsOkL, hset]))) (by repeat (first | exact boxIds0 _ | refine boxIds_row ?_ | refine boxIds_shut ?_ | refine boxIds_box ?_ (by simp [idsOk, idsOkL, hset]))) (by repeat (first | exact keep0 _ | refine keep_low (by decide) ?_ | refine keep_high (by simp [hset]) ?_))))
      refine call_go (link1' ho _ he1.1) (by simp -implicitDefEqProofs only [go_sem, Nat.reduceEqDiff, Nat.reduceLT, Nat.reduceLeDiff, Nat.reduceMul, Nat.reduceAdd, reduceIte, reduceCtorEq, Nat.le_refl, Nat.not_lt_zero, Nat.zero_le, Nat.zero_lt_succ, decide_true, decide_false, Nat.reduceBEq, Nat.reduceSub, Int.reduceToNat, Bool.not_not, exists_eq', ← List.map_take, ← List.map_drop, encTypes, encSorts, encHost, encInts, getD_map encEdge hx1, hx1, encEdge, getD_map encEdge hy1, hy1] <;> rfl) (scal rfl) ?_
      simp -implicitDefEqProofs only [go_sem, Nat.reduceEqDiff, Nat.reduceLT, Nat.reduceLeDiff, Nat.reduceMul, Nat.reduceAdd, reduceIte, reduceCtorEq, Nat.le_refl, Nat.not_lt_zero, Nat.zero_le, Nat.zero_lt_succ, decide_true, decide_false, Nat.reduceBEq, Nat.reduceSub, Int.reduceToNat, Bool.not_not, exists_eq', ← List.map_take, ← List.map_drop, g1, encTypes, encSorts, encHost, encInts, getD_map encEdge hx1, hx1, encEdge, getD_map encEdge hy1, hy1]
      refine walkG_split (fun g2 => ?_) (fun g2 => ?_) <;> simp -implicitDefEqProofs only [go_sem, Nat.reduceEqDiff, Nat.reduceLT, Nat.reduceLeDiff, Nat.reduceMul, Nat.reduceAdd, reduceIte, reduceCtorEq, Nat.le_refl, Nat.not_lt_zero, Nat.zero_le, Nat.zero_lt_succ, decide_true, decide_false, Nat.reduceBEq, Nat.reduceSub, Int.reduceToNat, Bool.not_not, exists_eq', ← List.map_take, ← List.map_drop, g1, g2, encTypes, encSorts, encHost, encInts, getD_map encEdge hx1, hx1, encEdge, getD_map encEdge hy1, hy1]
      case refine_2 =>
        exact loopN_mk (y + 1, v, out) ⟨hy1, stay (by rw [hcb, g1, g2]; rfl)⟩ (by dsimp only; omega) (by rw [wrap_succ hy1 (by omega)]; exact (weak_mk (by repeat (first | exact sub_env0 _ | refine sub_upd ?_ (by first | rfl | simp [upd]))) (by repeat (first | exact hsub0 _ | refine hsub_hset ?_ (by first | rfl | simp [hset]))) (by repeat (first | exact ids_env0 _ | refine ids_upd ?_ (by simp [idsOk, idsOkL, hset]))) (by repeat (first | exact boxIds0 _ | refine boxIds_row ?_ | refine boxIds_shut ?_ | refine boxIds_box ?_ (by simp [idsOk, idsOkL, hset]))) (by repeat (first | exact keep0 _ | refine keep_low (by decide) ?_ | refine keep_high (by simp [hset]) ?_))))
      refine call_go (link1' ho _ he1.2) (by simp -implicitDefEqProofs only [go_sem, Nat.reduceEqDiff, Nat.reduceLT, Nat.reduceLeDiff, Nat.reduceMul, Nat.reduceAdd, reduceIte, reduceCtorEq, Nat.le_refl, Nat.not_lt_zero, Nat.zero_le, Nat.zero_lt_succ, decide_true, decide_false, Nat.reduceBEq, Nat.reduceSub, Int.reduceToNat, Bool.not_not, exists_eq', ← List.map_take, ← List.map_drop, encTypes, encSorts, encHost, encInts, getD_map encEdge hx1, hx1, encEdge, getD_map encEdge hy1, hy1] <;> rfl) (scal rfl) ?_
      simp -implicitDefEqProofs only [go_sem, Nat.reduceEqDiff, Nat.reduceLT, Nat.reduceLeDiff, Nat.reduceMul, Nat.reduceAdd, reduceIte, reduceCtorEq, Nat.le_refl, Nat.not_lt_zero, Nat.zero_le, Nat.zero_lt_succ, decide_true, decide_false, Nat.reduceBEq, Nat.reduceSub, Int.reduceToNat, Bool.not_not, exists_eq', ← List.map_take, ← List.map_drop, g1, g2, encTypes, encSorts, encHost, encInts, getD_map encEdge hx1, hx1, encEdge, getD_map encEdge hy1, hy1]
      refine walkG_split (fun g3 => ?_) (fun g3 => ?_) <;> simp -implicitDefEqProofs only [go_sem, Nat.reduceEqDiff, Nat.reduceLT, Nat.reduceLeDiff, Nat.reduceMul, Nat.reduceAdd, reduceIte, reduceCtorEq, Nat.le_refl, Nat.not_lt_zero, Nat.zero_le, Nat.zero_lt_succ, decide_true, decide_false, Nat.reduceBEq, Nat.reduceSub, Int.reduceToNat, Bool.not_not, exists_eq', ← List.map_take, ← List.map_drop, g1, g2, g3, encTypes, encSorts, encHost, encInts, getD_map encEdge hx1, hx1, encEdge, getD_map encEdge hy1, hy1]
      case refine_2 =>
        exact loopN_mk (y + 1, v, out) ⟨hy1, stay (by rw [hcb, g1, g2, g3]; rfl)⟩ (by dsimp only; omega) (by rw [wrap_succ hy1 (by omega)]; exact (weak_mk (by repeat (first | exact sub_env0 _ | refine sub_upd ?_ (by first | rfl | simp [upd]))) (by repeat (first | exact hsub0 _ | refine hsub_hset ?_ (by first | rfl | simp [hset]))) (by repeat (first | exact ids_env0 _ | refine ids_upd ?_ (by simp [idsOk, idsOkL, hset]))) (by repeat (first | exact boxIds0 _ | refine boxIds_row ?_ | refine boxIds_shut ?_ | refine boxIds_box ?_ (by simp [idsOk, idsOkL, hset]))) (by repeat (first | exact keep0 _ | refine keep_low (by decide) ?_ | refine keep_high (by simp [hset]) ?_))))
      refine call_go (link1' ho _ he2.2) (by simp -implicitDefEqProofs only [go_sem, Nat.reduceEqDiff, Nat.reduceLT, Nat.reduceLeDiff, Nat.reduceMul, Nat.reduceAdd, reduceIte, reduceCtorEq, Nat.le_refl, Nat.not_lt_zero, Nat.zero_le, Nat.zero_lt_succ, decide_true, decide_false, Nat.reduceBEq, Nat.reduceSub, Int.reduceToNat, Bool.not_not, exists_eq', ← List.map_take, ← List.map_drop, encTypes, encSorts, encHost, encInts, getD_map encEdge hx1, hx1, encEdge, getD_map encEdge hy1, hy1] <;> rfl) (scal rfl) ?_
      simp -implicitDefEqProofs only [go_sem, Nat.reduceEqDiff, Nat.reduceLT, Nat.reduceLeDiff, Nat.reduceMul, Nat.reduceAdd, reduceIte, reduceCtorEq, Nat.le_refl, Nat.not_lt_zero, Nat.zero_le, Nat.zero_lt_succ, decide_true, decide_false, Nat.reduceBEq, Nat.reduceSub, Int.reduceToNat, Bool.not_not, exists_eq', ← List.map_take, ← List.map_drop, g1, g2, g3, encTypes, encSorts, encHost, encInts, getD_map encEdge hx1, hx1, encEdge, getD_map encEdge hy1, hy1]
      refine walkG_split (fun g4 => ?_) (fun g4 => ?_) <;> simp -implicitDefEqProofs only [go_sem, Nat.reduceEqDiff, Nat.reduceLT, Nat.reduceLeDiff, Nat.reduceMul, Nat.reduceAdd, reduceIte, reduceCtorEq, Nat.le_refl, Nat.not_lt_zero, Nat.zero_le, Nat.zero_lt_succ, decide_true, decide_false, Nat.reduceBEq, Nat.reduceSub, Int.reduceToNat, Bool.not_not, exists_eq', ← List.map_take, ← List.map_drop, g1, g2, g3, g4, encTypes, encSorts, encHost, encInts, getD_map encEdge hx1, hx1, encEdge, getD_map encEdge hy1, hy1]
      case refine_2 =>
        exact loopN_mk (y + 1, v, out) ⟨hy1, stay (by rw [hcb, g1, g2, g3, g4]; rfl)⟩ (by dsimp only; omega) (by rw [wrap_succ hy1 (by omega)]; exact (weak_mk (by repeat (first | exact sub_env0 _ | refine sub_upd ?_ (by first | rfl | simp [upd]))) (by repeat (first | exact hsub0 _ | refine hsub_hset ?_ (by first | rfl | simp [hset]))) (by repeat (first | exact ids_env0 _ | refine ids_upd ?_ (by simp [idsOk, idsOkL, hset]))) (by repeat (first | exact boxIds0 _ | refine boxIds_row ?_ | refine boxIds_shut ?_ | refine boxIds_box ?_ (by simp [idsOk, idsOkL, hset]))) (by repeat (first | exact keep0 _ | refine keep_low (by decide) ?_ | refine keep_high (by simp [hset]) ?_))))
      have hlen := hI.len
      refine call_go (has_pair out (pairOf (h.graph.edges.getD x default) (h.graph.edges.getD y default)) (by omega)) (by simp -implicitDefEqProofs only [go_sem, Nat.reduceEqDiff, Nat.reduceLT, Nat.reduceLeDiff, Nat.reduceMul, Nat.reduceAdd, reduceIte, reduceCtorEq, Nat.le_refl, Nat.not_lt_zero, Nat.zero_le, Nat.zero_lt_succ, decide_true, decide_false, Nat.reduceBEq, Nat.reduceSub, Int.reduceToNat, Bool.not_not, exists_eq', ← List.map_take, ← List.map_drop, encTypes, encSorts, encHost, encInts, getD_map encEdge hx1, hx1, encEdge, getD_map encEdge hy1, hy1] <;> rfl) (scal rfl) ?_
      have hany : out.any (pEq (pairOf (h.graph.edges.getD x default) (h.graph.edges.getD y default))) = true ↔ pairOf (h.graph.edges.getD x default) (h.graph.edges.getD y default) ∈ out := by
        rw [List.any_eq_true]
        constructor
        · rintro ⟨q, hq, e⟩
          rw [pEq_iff] at e
          rw [e]; exact hq
        · intro hq
          exact ⟨_, hq, pEq_iff.2 rfl⟩
      generalize hanyb : out.any (pEq (pairOf (h.graph.edges.getD x default) (h.graph.edges.getD y default))) = hb at hany
      simp -implicitDefEqProofs only [go_sem, Nat.reduceEqDiff, Nat.reduceLT, Nat.reduceLeDiff, Nat.reduceMul, Nat.reduceAdd, reduceIte, reduceCtorEq, Nat.le_refl, Nat.not_lt_zero, Nat.zero_le, Nat.zero_lt_succ, decide_true, decide_false, Nat.reduceBEq, Nat.reduceSub, Int.reduceToNat, Bool.not_not, exists_eq', ← List.map_take, ← List.map_drop, encTypes, encSorts, encHost, encInts, getD_map encEdge hx1, hx1, encEdge, getD_map encEdge hy1, hy1]
      refine condC_splitN (fun g5 => ?_) (fun g5 => ?_) <;> simp -implicitDefEqProofs only [go_sem, Nat.reduceEqDiff, Nat.reduceLT, Nat.reduceLeDiff, Nat.reduceMul, Nat.reduceAdd, reduceIte, reduceCtorEq, Nat.le_refl, Nat.not_lt_zero, Nat.zero_le, Nat.zero_lt_succ, decide_true, decide_false, Nat.reduceBEq, Nat.reduceSub, Int.reduceToNat, Bool.not_not, exists_eq', ← List.map_take, ← List.map_drop, encTypes, encSorts, encHost, encInts, getD_map encEdge hx1, hx1, encEdge, getD_map encEdge hy1, hy1]
      · exact loopN_mk (y + 1, v, out) ⟨hy1, hI.skip (.inr (hany.1 g5))⟩ (by dsimp only; omega) (by rw [wrap_succ hy1 (by omega)]; exact (weak_mk (by repeat (first | exact sub_env0 _ | refine sub_upd ?_ (by first | rfl | simp [upd]))) (by repeat (first | exact hsub0 _ | refine hsub_hset ?_ (by first | rfl | simp [hset]))) (by repeat (first | exact ids_env0 _ | refine ids_upd ?_ (by simp [idsOk, idsOkL, hset]))) (by repeat (first | exact boxIds0 _ | refine boxIds_row ?_ | refine boxIds_shut ?_ | refine boxIds_box ?_ (by simp [idsOk, idsOkL, hset]))) (by repeat (first | exact keep0 _ | refine keep_low (by decide) ?_ | refine keep_high (by simp [hset]) ?_))))
      · have hcat : out.map encPair ++ [[PV.val (.int .i64 (h.graph.edges.getD x default).dst), PV.val (.int .i64 (h.graph.edges.getD y default).dst)]] = (out ++ [pairOf (h.graph.edges.getD x default) (h.graph.edges.getD y default)]).map encPair := by
          rw [List.map_append]
          try rfl
        rw [hcat]
        exact ⟨by omega, loopN_mk (y + 1, v + 1, _) ⟨hy1, hI.add (by rw [hcb, g1, g2, g3, g4]; rfl) (fun hm => by rw [hany.2 hm] at g5; cases g5)⟩ (by dsimp only; omega) (by rw [wrap_succ hy1 (by omega)]; exact (weak_mk (by repeat (first | exact sub_env0 _ | refine sub_upd ?_ (by first | rfl | simp [upd]))) (by repeat (first | exact hsub0 _ | refine hsub_hset ?_ (by first | rfl | simp [hset]))) (by repeat (first | exact ids_env0 _ | refine ids_upd ?_ (by simp [idsOk, idsOkL, hset]))) (by repeat (first | exact boxIds0 _ | refine boxIds_row ?_ | refine boxIds_shut ?_ | refine boxIds_box ?_ (by simp [idsOk, idsOkL, hset]))) (by repeat (first | exact keep0 _ | refine keep_low (by decide) ?_ | refine keep_high (by simp [hset]) ?_))))⟩
    · have hye : y = h.graph.edges.length := by have := of_decide_eq_false hc2; omega
      subst hye
      simp -implicitDefEqProofs only [go_sem, Nat.reduceEqDiff, Nat.reduceLT, Nat.reduceLeDiff, Nat.reduceMul, Nat.reduceAdd, reduceIte, reduceCtorEq, Nat.le_refl, Nat.not_lt_zero, Nat.zero_le, Nat.zero_lt_succ, decide_true, decide_false, Nat.reduceBEq, Nat.reduceSub, Int.reduceToNat, Bool.not_not, exists_eq', ← List.map_take, ← List.map_drop, encTypes, encSorts, encHost, encInts, getD_map encEdge hx1, hx1, encEdge]
      refine loopN_mk (x + 1, v, out) ⟨hx1, hI.next hge⟩ (by dsimp only; omega) ?_
      rw [wrap_succ hx1 (by omega)]
      exact (weak_mk (by repeat (first | exact sub_env0 _ | refine sub_upd ?_ (by first | rfl | simp [upd]))) (by repeat (first | exact hsub0 _ | refine hsub_hset ?_ (by first | rfl | simp [hset]))) (by repeat (first | exact ids_env0 _ | refine ids_upd ?_ (by simp [idsOk, idsOkL, hset]))) (by repeat (first | exact boxIds0 _ | refine boxIds_row ?_ | refine boxIds_shut ?_ | refine boxIds_box ?_ (by simp [idsOk, idsOkL, hset]))) (by repeat (first | exact keep0 _ | refine keep_low (by decide) ?_ | refine keep_high (by simp [hset]) ?_)))
  · have hxe : x = h.graph.edges.length := by have := of_decide_eq_false hc; omega
    subst hxe
    simp -implicitDefEqProofs only [go_sem, Nat.reduceEqDiff, Nat.reduceLT, Nat.reduceLeDiff, Nat.reduceMul, Nat.reduceAdd, reduceIte, reduceCtorEq, Nat.le_refl, Nat.not_lt_zero, Nat.zero_le, Nat.zero_lt_succ, decide_true, decide_false, Nat.reduceBEq, Nat.reduceSub, Int.reduceToNat, Bool.not_not, exists_eq', ← List.map_take, ← List.map_drop, encTypes, encSorts, encHost, encInts]
    refine callm_go (sort_out ho hI v) (by simp -implicitDefEqProofs only [go_sem, Nat.reduceEqDiff, Nat.reduceLT, Nat.reduceLeDiff, Nat.reduceMul, Nat.reduceAdd, reduceIte, reduceCtorEq, Nat.le_refl, Nat.not_lt_zero, Nat.zero_le, Nat.zero_lt_succ, decide_true, decide_false, Nat.reduceBEq, Nat.reduceSub, Int.reduceToNat, Bool.not_not, exists_eq', ← List.map_take, ← List.map_drop, encTypes, encSorts, encHost, encInts] <;> rfl) (by simp -implicitDefEqProofs only [go_sem, Nat.reduceEqDiff, Nat.reduceLT, Nat.reduceLeDiff, Nat.reduceMul, Nat.reduceAdd, reduceIte, reduceCtorEq, Nat.le_refl, Nat.not_lt_zero, Nat.zero_le, Nat.zero_lt_succ, decide_true, decide_false, Nat.reduceBEq, Nat.reduceSub, Int.reduceToNat, Bool.not_not, exists_eq', ← List.map_take, ← List.map_drop, encTypes, encSorts, encHost, encInts] <;> rfl) (by simp -implicitDefEqProofs only [go_sem, Nat.reduceEqDiff, Nat.reduceLT, Nat.reduceLeDiff, Nat.reduceMul, Nat.reduceAdd, reduceIte, reduceCtorEq, Nat.le_refl, Nat.not_lt_zero, Nat.zero_le, Nat.zero_lt_succ, decide_true, decide_false, Nat.reduceBEq, Nat.reduceSub, Int.reduceToNat, Bool.not_not, exists_eq', ← List.map_take, ← List.map_drop, encTypes, encSorts, encHost, encInts] <;> rfl) (fun h => by cases h) ?_
    simp -implicitDefEqProofs only [go_sem, Nat.reduceEqDiff, Nat.reduceLT, Nat.reduceLeDiff, Nat.reduceMul, Nat.reduceAdd, reduceIte, reduceCtorEq, Nat.le_refl, Nat.not_lt_zero, Nat.zero_le, Nat.zero_lt_succ, decide_true, decide_false, Nat.reduceBEq, Nat.reduceSub, Int.reduceToNat, Bool.not_not, exists_eq', ← List.map_take, ← List.map_drop, encTypes, encSorts, encHost, encInts]
    simp [h1']
end Go.Proofs.YtdlohnchnneaeaaGreat
/- Layer 52's statements: the example. -/
namespace Go.Proofs.YtdlohnchnneaeaaGreat
open Go.Abs

theorem fewL_ok (t : Types) (hm : FitT t) (s : Sorts) (hs : s.nodes.length ≤ 1125899906842624 ∧ s.edges.length ≤ 1125899906842624) (h : Host) :
    CallV Go.Proofs.Tryz.prog 10 [encTypes t, encSorts s, encHost h] (fun r => ∃ b : Bool, r = .val (.bool b) ∧ (b = true → FewT t ∧ FewS s ∧ FewH h)) := by
  refine callV_of_cw [] Ty.mixed Go.Proofs.Tryz.func10 rfl (by kernel_rfl) (by simp [Go.Proofs.Tryz.ntmps10]) ?_; rw [Go.Proofs.Tryz.ntmps10, Go.Proofs.Tryz.results10]
  
  simp -implicitDefEqProofs only [go_sem, Nat.reduceEqDiff, Nat.reduceLT, Nat.reduceLeDiff, Nat.reduceMul, Nat.reduceAdd, reduceIte, reduceCtorEq, Nat.le_refl, Nat.not_lt_zero, Nat.zero_le, Nat.zero_lt_succ, decide_true, decide_false, Nat.reduceBEq, Nat.reduceSub, Int.reduceToNat, Bool.not_not, exists_eq', ← List.map_take, ← List.map_drop, encTypes, encSorts, encHost, encInts]
  refine call_rel (few04_ok t hm) (by simp -implicitDefEqProofs only [go_sem, Nat.reduceEqDiff, Nat.reduceLT, Nat.reduceLeDiff, Nat.reduceMul, Nat.reduceAdd, reduceIte, reduceCtorEq, Nat.le_refl, Nat.not_lt_zero, Nat.zero_le, Nat.zero_lt_succ, decide_true, decide_false, Nat.reduceBEq, Nat.reduceSub, Int.reduceToNat, Bool.not_not, exists_eq', ← List.map_take, ← List.map_drop, encTypes, encSorts, encHost, encInts] <;> rfl) ?_
  rintro r ⟨b1, rfl, h1⟩
  refine ⟨scal rfl, ?_⟩
  simp -implicitDefEqProofs only [go_sem, Nat.reduceEqDiff, Nat.reduceLT, Nat.reduceLeDiff, Nat.reduceMul, Nat.reduceAdd, reduceIte, reduceCtorEq, Nat.le_refl, Nat.not_lt_zero, Nat.zero_le, Nat.zero_lt_succ, decide_true, decide_false, Nat.reduceBEq, Nat.reduceSub, Int.reduceToNat, Bool.not_not, exists_eq', ← List.map_take, ← List.map_drop, encTypes, encSorts, encHost, encInts]
  refine walkG_split (fun g1 => ?_) (fun g1 => ?_) <;> simp -implicitDefEqProofs only [go_sem, Nat.reduceEqDiff, Nat.reduceLT, Nat.reduceLeDiff, Nat.reduceMul, Nat.reduceAdd, reduceIte, reduceCtorEq, Nat.le_refl, Nat.not_lt_zero, Nat.zero_le, Nat.zero_lt_succ, decide_true, decide_false, Nat.reduceBEq, Nat.reduceSub, Int.reduceToNat, Bool.not_not, exists_eq', ← List.map_take, ← List.map_drop, g1, encTypes, encSorts, encHost, encInts]
  · refine call_rel (fewS_ok s hs) (by simp -implicitDefEqProofs only [go_sem, Nat.reduceEqDiff, Nat.reduceLT, Nat.reduceLeDiff, Nat.reduceMul, Nat.reduceAdd, reduceIte, reduceCtorEq, Nat.le_refl, Nat.not_lt_zero, Nat.zero_le, Nat.zero_lt_succ, decide_true, decide_false, Nat.reduceBEq, Nat.reduceSub, Int.reduceToNat, Bool.not_not, exists_eq', ← List.map_take, ← List.map_drop, encTypes, encSorts, encHost, encInts] <;> rfl) ?_
    rintro r ⟨b2, rfl, h2⟩
    refine ⟨scal rfl, ?_⟩
    simp -implicitDefEqProofs only [go_sem, Nat.reduceEqDiff, Nat.reduceLT, Nat.reduceLeDiff, Nat.reduceMul, Nat.reduceAdd, reduceIte, reduceCtorEq, Nat.le_refl, Nat.not_lt_zero, Nat.zero_le, Nat.zero_lt_succ, decide_true, decide_false, Nat.reduceBEq, Nat.reduceSub, Int.reduceToNat, Bool.not_not, exists_eq', ← List.map_take, ← List.map_drop, g1, encTypes, encSorts, encHost, encInts]
    refine walkG_split (fun g2 => ?_) (fun g2 => ?_) <;> simp -implicitDefEqProofs only [go_sem, Nat.reduceEqDiff, Nat.reduceLT, Nat.reduceLeDiff, Nat.reduceMul, Nat.reduceAdd, reduceIte, reduceCtorEq, Nat.le_refl, Nat.not_lt_zero, Nat.zero_le, Nat.zero_lt_succ, decide_true, decide_false, Nat.reduceBEq, Nat.reduceSub, Int.reduceToNat, Bool.not_not, exists_eq', ← List.map_take, ← List.map_drop, g1, g2, encTypes, encSorts, encHost, encInts]
    · refine call_rel (fewH_ok h) (by simp -implicitDefEqProofs only [go_sem, Nat.reduceEqDiff, Nat.reduceLT, Nat.reduceLeDiff, Nat.reduceMul, Nat.reduceAdd, reduceIte, reduceCtorEq, Nat.le_refl, Nat.not_lt_zero, Nat.zero_le, Nat.zero_lt_succ, decide_true, decide_false, Nat.reduceBEq, Nat.reduceSub, Int.reduceToNat, Bool.not_not, exists_eq', ← List.map_take, ← List.map_drop, encTypes, encSorts, encHost, encInts] <;> rfl) ?_
      rintro r ⟨b3, rfl, h3⟩
      refine ⟨scal rfl, ?_⟩
      simp -implicitDefEqProofs only [go_sem, Nat.reduceEqDiff, Nat.reduceLT, Nat.reduceLeDiff, Nat.reduceMul, Nat.reduceAdd, reduceIte, reduceCtorEq, Nat.le_refl, Nat.not_lt_zero, Nat.zero_le, Nat.zero_lt_succ, decide_true, decide_false, Nat.reduceBEq, Nat.reduceSub, Int.reduceToNat, Bool.not_not, exists_eq', ← List.map_take, ← List.map_drop, g1, g2, encTypes, encSorts, encHost, encInts]
      exact ⟨b3, rfl, fun hb => ⟨h1 g1, h2 g2, h3 hb⟩⟩
    · exact ⟨false, rfl, by simp⟩
  · exact ⟨false, rfl, by simp⟩

def exE (name : ByteArray) (a b : Int) : EdgeT := ⟨name, a, b, 0, -1, 0, -1⟩
theorem edgeX_ok (name : ByteArray) (a b : Int) : CallV Go.Proofs.Tryz.prog 56 [.val (.string name), .val (.int .i64 a), .val (.int .i64 b)] (fun r => r = .agg (encEdgeT (exE name a b))) := by
  refine callV_of_cw [] Ty.mixed Go.Proofs.Tryz.func56 rfl (by kernel_rfl) (by simp [Go.Proofs.Tryz.ntmps56]) ?_; rw [Go.Proofs.Tryz.ntmps56, Go.Proofs.Tryz.results56]
  simp -implicitDefEqProofs only [go_sem, Nat.reduceEqDiff, Nat.reduceLT, Nat.reduceLeDiff, Nat.reduceMul, Nat.reduceAdd, reduceIte, reduceCtorEq, Nat.le_refl, Nat.not_lt_zero, Nat.zero_le, Nat.zero_lt_succ, decide_true, decide_false, Nat.reduceBEq, Nat.reduceSub, Int.reduceToNat, Bool.not_not, exists_eq', ← List.map_take, ← List.map_drop]
  rfl

def exT : Types := ⟨[⟨⟨#[67, 108, 97, 115, 115]⟩, -1, false, []⟩, ⟨⟨#[65, 116, 116, 114, 105, 98, 117, 116, 101]⟩, -1, false, []⟩, ⟨⟨#[84, 97, 98, 108, 101]⟩, -1, false, []⟩, ⟨⟨#[67, 111, 108, 117, 109, 110]⟩, -1, false, []⟩, ⟨⟨#[77, 97, 112]⟩, -1, false, []⟩],
  [exE ⟨#[104, 97, 115]⟩ 0 1, exE ⟨#[119, 105, 116, 104]⟩ 2 3, exE ⟨#[111, 102, 67, 108, 97, 115, 115]⟩ 4 0, exE ⟨#[111, 102, 65, 116, 116, 114, 105, 98, 117, 116, 101]⟩ 4 1, exE ⟨#[116, 111, 84, 97, 98, 108, 101]⟩ 4 2, exE ⟨#[116, 111, 67, 111, 108, 117, 109, 110]⟩ 4 3]⟩
def exS : Sorts := ⟨[1, 1, 3, 3, 2], [1, 3, 2, 2, 2, 2]⟩
def exH : Host := ⟨⟨[0, 2, 4], [⟨2, 2, 0⟩, ⟨4, 2, 1⟩]⟩, [[], [], []]⟩

def exNodes : List (List PV) := [[.val (.string ⟨#[67, 108, 97, 115, 115]⟩), .val (.int .i64 (-1)), .val (.bool false), .val (.slice none 0 0)], [.val (.string ⟨#[65, 116, 116, 114, 105, 98, 117, 116, 101]⟩), .val (.int .i64 (-1)), .val (.bool false), .val (.slice none 0 0)], [.val (.string ⟨#[84, 97, 98, 108, 101]⟩), .val (.int .i64 (-1)), .val (.bool false), .val (.slice none 0 0)], [.val (.string ⟨#[67, 111, 108, 117, 109, 110]⟩), .val (.int .i64 (-1)), .val (.bool false), .val (.slice none 0 0)], [.val (.string ⟨#[77, 97, 112]⟩), .val (.int .i64 (-1)), .val (.bool false), .val (.slice none 0 0)]]
theorem exNodes_le : PLe (.lst exNodes) (.lst (exT.nodes.map encNode)) := .lst rfl ⟨.refl _, .refl _, .refl _, .nil, .refl _, .refl _, .refl _, .nil, .refl _, .refl _, .refl _, .nil, .refl _, .refl _, .refl _, .nil, .refl _, .refl _, .refl _, .nil, trivial⟩

theorem Example_ok : CallV Go.Proofs.Tryz.prog 25 [] (fun r => r = .tup [encTypes exT, encSorts exS]) := by
  refine CallV.le (Q := fun r => r = .tup [.agg [.lst exNodes, .lst (exT.edges.map encEdgeT)], encSorts exS]) ?_ ?_
  case refine_2 =>
    rintro r rfl
    exact ⟨.tup [.agg [.lst (exT.nodes.map encNode), .lst (exT.edges.map encEdgeT)], encSorts exS], .tup ⟨.agg ⟨exNodes_le, .refl _, trivial⟩, .refl _, trivial⟩, rfl⟩
  refine callV_of_cw [] Ty.mixed Go.Proofs.Tryz.func25 rfl (by kernel_rfl) (by simp [Go.Proofs.Tryz.ntmps25]) ?_; rw [Go.Proofs.Tryz.ntmps25, Go.Proofs.Tryz.results25]
  
  simp -implicitDefEqProofs only [go_sem, Nat.reduceEqDiff, Nat.reduceLT, Nat.reduceLeDiff, Nat.reduceMul, Nat.reduceAdd, reduceIte, reduceCtorEq, Nat.le_refl, Nat.not_lt_zero, Nat.zero_le, Nat.zero_lt_succ, decide_true, decide_false, Nat.reduceBEq, Nat.reduceSub, Int.reduceToNat, Bool.not_not, exists_eq', ← List.map_take, ← List.map_drop, encEdgeT, exE]
  refine call_go (edgeX_ok _ _ _) (by simp -implicitDefEqProofs only [go_sem, Nat.reduceEqDiff, Nat.reduceLT, Nat.reduceLeDiff, Nat.reduceMul, Nat.reduceAdd, reduceIte, reduceCtorEq, Nat.le_refl, Nat.not_lt_zero, Nat.zero_le, Nat.zero_lt_succ, decide_true, decide_false, Nat.reduceBEq, Nat.reduceSub, Int.reduceToNat, Bool.not_not, exists_eq', ← List.map_take, ← List.map_drop, encEdgeT, exE] <;> rfl) (scal rfl) ?_
  simp -implicitDefEqProofs only [go_sem, Nat.reduceEqDiff, Nat.reduceLT, Nat.reduceLeDiff, Nat.reduceMul, Nat.reduceAdd, reduceIte, reduceCtorEq, Nat.le_refl, Nat.not_lt_zero, Nat.zero_le, Nat.zero_lt_succ, decide_true, decide_false, Nat.reduceBEq, Nat.reduceSub, Int.reduceToNat, Bool.not_not, exists_eq', ← List.map_take, ← List.map_drop, encEdgeT, exE]
  refine call_go (edgeX_ok _ _ _) (by simp -implicitDefEqProofs only [go_sem, Nat.reduceEqDiff, Nat.reduceLT, Nat.reduceLeDiff, Nat.reduceMul, Nat.reduceAdd, reduceIte, reduceCtorEq, Nat.le_refl, Nat.not_lt_zero, Nat.zero_le, Nat.zero_lt_succ, decide_true, decide_false, Nat.reduceBEq, Nat.reduceSub, Int.reduceToNat, Bool.not_not, exists_eq', ← List.map_take, ← List.map_drop, encEdgeT, exE] <;> rfl) (scal rfl) ?_
  simp -implicitDefEqProofs only [go_sem, Nat.reduceEqDiff, Nat.reduceLT, Nat.reduceLeDiff, Nat.reduceMul, Nat.reduceAdd, reduceIte, reduceCtorEq, Nat.le_refl, Nat.not_lt_zero, Nat.zero_le, Nat.zero_lt_succ, decide_true, decide_false, Nat.reduceBEq, Nat.reduceSub, Int.reduceToNat, Bool.not_not, exists_eq', ← List.map_take, ← List.map_drop, encEdgeT, exE]
  refine call_go (edgeX_ok _ _ _) (by simp -implicitDefEqProofs only [go_sem, Nat.reduceEqDiff, Nat.reduceLT, Nat.reduceLeDiff, Nat.reduceMul, Nat.reduceAdd, reduceIte, reduceCtorEq, Nat.le_refl, Nat.not_lt_zero, Nat.zero_le, Nat.zero_lt_succ, decide_true, decide_false, Nat.reduceBEq, Nat.reduceSub, Int.reduceToNat, Bool.not_not, exists_eq', ← List.map_take, ← List.map_drop, encEdgeT, exE] <;> rfl) (scal rfl) ?_
  simp -implicitDefEqProofs only [go_sem, Nat.reduceEqDiff, Nat.reduceLT, Nat.reduceLeDiff, Nat.reduceMul, Nat.reduceAdd, reduceIte, reduceCtorEq, Nat.le_refl, Nat.not_lt_zero, Nat.zero_le, Nat.zero_lt_succ, decide_true, decide_false, Nat.reduceBEq, Nat.reduceSub, Int.reduceToNat, Bool.not_not, exists_eq', ← List.map_take, ← List.map_drop, encEdgeT, exE]
  refine call_go (edgeX_ok _ _ _) (by simp -implicitDefEqProofs only [go_sem, Nat.reduceEqDiff, Nat.reduceLT, Nat.reduceLeDiff, Nat.reduceMul, Nat.reduceAdd, reduceIte, reduceCtorEq, Nat.le_refl, Nat.not_lt_zero, Nat.zero_le, Nat.zero_lt_succ, decide_true, decide_false, Nat.reduceBEq, Nat.reduceSub, Int.reduceToNat, Bool.not_not, exists_eq', ← List.map_take, ← List.map_drop, encEdgeT, exE] <;> rfl) (scal rfl) ?_
  simp -implicitDefEqProofs only [go_sem, Nat.reduceEqDiff, Nat.reduceLT, Nat.reduceLeDiff, Nat.reduceMul, Nat.reduceAdd, reduceIte, reduceCtorEq, Nat.le_refl, Nat.not_lt_zero, Nat.zero_le, Nat.zero_lt_succ, decide_true, decide_false, Nat.reduceBEq, Nat.reduceSub, Int.reduceToNat, Bool.not_not, exists_eq', ← List.map_take, ← List.map_drop, encEdgeT, exE]
  refine call_go (edgeX_ok _ _ _) (by simp -implicitDefEqProofs only [go_sem, Nat.reduceEqDiff, Nat.reduceLT, Nat.reduceLeDiff, Nat.reduceMul, Nat.reduceAdd, reduceIte, reduceCtorEq, Nat.le_refl, Nat.not_lt_zero, Nat.zero_le, Nat.zero_lt_succ, decide_true, decide_false, Nat.reduceBEq, Nat.reduceSub, Int.reduceToNat, Bool.not_not, exists_eq', ← List.map_take, ← List.map_drop, encEdgeT, exE] <;> rfl) (scal rfl) ?_
  simp -implicitDefEqProofs only [go_sem, Nat.reduceEqDiff, Nat.reduceLT, Nat.reduceLeDiff, Nat.reduceMul, Nat.reduceAdd, reduceIte, reduceCtorEq, Nat.le_refl, Nat.not_lt_zero, Nat.zero_le, Nat.zero_lt_succ, decide_true, decide_false, Nat.reduceBEq, Nat.reduceSub, Int.reduceToNat, Bool.not_not, exists_eq', ← List.map_take, ← List.map_drop, encEdgeT, exE]
  refine call_go (edgeX_ok _ _ _) (by simp -implicitDefEqProofs only [go_sem, Nat.reduceEqDiff, Nat.reduceLT, Nat.reduceLeDiff, Nat.reduceMul, Nat.reduceAdd, reduceIte, reduceCtorEq, Nat.le_refl, Nat.not_lt_zero, Nat.zero_le, Nat.zero_lt_succ, decide_true, decide_false, Nat.reduceBEq, Nat.reduceSub, Int.reduceToNat, Bool.not_not, exists_eq', ← List.map_take, ← List.map_drop, encEdgeT, exE] <;> rfl) (scal rfl) ?_
  simp -implicitDefEqProofs only [go_sem, Nat.reduceEqDiff, Nat.reduceLT, Nat.reduceLeDiff, Nat.reduceMul, Nat.reduceAdd, reduceIte, reduceCtorEq, Nat.le_refl, Nat.not_lt_zero, Nat.zero_le, Nat.zero_lt_succ, decide_true, decide_false, Nat.reduceBEq, Nat.reduceSub, Int.reduceToNat, Bool.not_not, exists_eq', ← List.map_take, ← List.map_drop, encEdgeT, exE]
  exact ⟨⟨rfl, rfl⟩, rfl⟩

def exPair : GPair := ⟨0, 1⟩
def exHraw : PV := .agg [.lst [[.val (.int .i64 0)], [.val (.int .i64 2)], [.val (.int .i64 4)]], .lst [[.val (.int .i64 2), .val (.int .i64 2), .val (.int .i64 0)], [.val (.int .i64 4), .val (.int .i64 2), .val (.int .i64 1)]], .lst [[.val (.slice none 0 0)], [.val (.slice none 0 0)], [.val (.slice none 0 0)]]]
theorem exH_le : PLe exHraw (encHost exH) := .agg ⟨.refl _, .refl _, .lst rfl ⟨.nil, .nil, .nil, trivial⟩, trivial⟩
theorem exFew : FewT exT ∧ FewS exS ∧ FewH exH :=
  ⟨⟨by decide, by decide, by decide, by decide, by decide, by decide, by decide, by decide⟩, by unfold FewS; decide, ⟨⟨by decide, by decide⟩, by decide, by decide⟩⟩
theorem exLinks : linksE exT exS exH = ([exPair], 0) := by
  kernel_rfl
theorem awake_ok : CallV Go.Proofs.Tryz.prog 9 [] (fun r => r = .val (.bool true)) := by
  refine callV_of_cw [] Ty.mixed Go.Proofs.Tryz.func9 rfl (by kernel_rfl) (by simp [Go.Proofs.Tryz.ntmps9]) ?_; rw [Go.Proofs.Tryz.ntmps9, Go.Proofs.Tryz.results9]
  simp -implicitDefEqProofs only [go_sem, Nat.reduceEqDiff, Nat.reduceLT, Nat.reduceLeDiff, Nat.reduceMul, Nat.reduceAdd, reduceIte, reduceCtorEq, Nat.le_refl, Nat.not_lt_zero, Nat.zero_le, Nat.zero_lt_succ, decide_true, decide_false, Nat.reduceBEq, Nat.reduceSub, Int.reduceToNat, Bool.not_not, exists_eq', ← List.map_take, ← List.map_drop]
  have hL := (Links_ok exT exFew.1 exS exFew.2.1 exH exFew.2.2).args (ps' := [encTypes exT, encSorts exS, exHraw]) ⟨.refl _, .refl _, exH_le, trivial⟩
  rw [exLinks] at hL
  refine call_go (Example_ok) (by simp -implicitDefEqProofs only [go_sem, Nat.reduceEqDiff, Nat.reduceLT, Nat.reduceLeDiff, Nat.reduceMul, Nat.reduceAdd, reduceIte, reduceCtorEq, Nat.le_refl, Nat.not_lt_zero, Nat.zero_le, Nat.zero_lt_succ, decide_true, decide_false, Nat.reduceBEq, Nat.reduceSub, Int.reduceToNat, Bool.not_not, exists_eq', ← List.map_take, ← List.map_drop] <;> rfl) (pers) ?_
  
  simp -implicitDefEqProofs only [go_sem, Nat.reduceEqDiff, Nat.reduceLT, Nat.reduceLeDiff, Nat.reduceMul, Nat.reduceAdd, reduceIte, reduceCtorEq, Nat.le_refl, Nat.not_lt_zero, Nat.zero_le, Nat.zero_lt_succ, decide_true, decide_false, Nat.reduceBEq, Nat.reduceSub, Int.reduceToNat, Bool.not_not, exists_eq', ← List.map_take, ← List.map_drop, encTypes, encSorts, encInts]
  unfold encTypes encSorts encInts exHraw at hL
  refine call_go (hL) (by simp -implicitDefEqProofs only [go_sem, Nat.reduceEqDiff, Nat.reduceLT, Nat.reduceLeDiff, Nat.reduceMul, Nat.reduceAdd, reduceIte, reduceCtorEq, Nat.le_refl, Nat.not_lt_zero, Nat.zero_le, Nat.zero_lt_succ, decide_true, decide_false, Nat.reduceBEq, Nat.reduceSub, Int.reduceToNat, Bool.not_not, exists_eq', ← List.map_take, ← List.map_drop, encTypes, encSorts, encInts] <;> rfl) (pers) ?_
  simp -implicitDefEqProofs only [go_sem, Nat.reduceEqDiff, Nat.reduceLT, Nat.reduceLeDiff, Nat.reduceMul, Nat.reduceAdd, reduceIte, reduceCtorEq, Nat.le_refl, Nat.not_lt_zero, Nat.zero_le, Nat.zero_lt_succ, decide_true, decide_false, Nat.reduceBEq, Nat.reduceSub, Int.reduceToNat, Bool.not_not, exists_eq', ← List.map_take, ← List.map_drop, encTypes, encSorts, encInts]
  refine call_go (equal_pair [exPair] [exPair] (by decide)) (by simp -implicitDefEqProofs only [go_sem, Nat.reduceEqDiff, Nat.reduceLT, Nat.reduceLeDiff, Nat.reduceMul, Nat.reduceAdd, reduceIte, reduceCtorEq, Nat.le_refl, Nat.not_lt_zero, Nat.zero_le, Nat.zero_lt_succ, decide_true, decide_false, Nat.reduceBEq, Nat.reduceSub, Int.reduceToNat, Bool.not_not, exists_eq', ← List.map_take, ← List.map_drop, encTypes, encSorts, encInts] <;> rfl) (scal rfl) ?_
  simp -implicitDefEqProofs only [go_sem, Nat.reduceEqDiff, Nat.reduceLT, Nat.reduceLeDiff, Nat.reduceMul, Nat.reduceAdd, reduceIte, reduceCtorEq, Nat.le_refl, Nat.not_lt_zero, Nat.zero_le, Nat.zero_lt_succ, decide_true, decide_false, Nat.reduceBEq, Nat.reduceSub, Int.reduceToNat, Bool.not_not, exists_eq', ← List.map_take, ← List.map_drop, encTypes, encSorts, encInts]
end Go.Proofs.YtdlohnchnneaeaaGreat
/- Layer 52's statements: TripleLinks, TripleSwap, as calls on plain data. -/
namespace Go.Proofs.YtdlohnchnneaeaaGreat
open Go.Abs

def encCase (t : Types) (s : Sorts) : PV := .agg [.lst (t.nodes.map encNode), .lst (t.edges.map encEdgeT), .lst (s.nodes.map encI), .lst (s.edges.map encI)]
def SmallS (s : Sorts) : Prop := s.nodes.length ≤ 1125899906842624 ∧ s.edges.length ≤ 1125899906842624

theorem linksL_le (s : Sorts) (g : Graph) (h : OkTr s g) : (linksR s g).length ≤ 1000000 := by
  have h1 : (partX s g 1).nodes.length ≤ 40 := Nat.le_trans (pick_len _ _) h.nodes
  have h3 : (partX s g 3).nodes.length ≤ 40 := Nat.le_trans (pick_len _ _) h.nodes
  have h2 := linksL_len g (partX s g 1).nodes (partX s g 2).nodes (partX s g 3).nodes
  have h4 := Nat.mul_le_mul h1 h3
  show (linksL g (partX s g 1).nodes (partX s g 2).nodes (partX s g 3).nodes).length ≤ 1000000
  omega
theorem linksE_le (t : Types) (s : Sorts) (h : Host) : (linksE t s h).1.length ≤ 1000000 := by
  unfold linksE
  split
  · simp
  · rename_i hv
    exact linksL_le s h.graph (okTr (by simpa using hv))

theorem TripleLinks_ok (t : Types) (hm : FitT t) (s : Sorts) (hs : SmallS s) (h : Host) : CallV Go.Proofs.Tryz.prog 3 [encCase t s, encHost h] (fun r => r = .val (.bool true)) := by
  refine callV_of_cw [] Ty.mixed Go.Proofs.Tryz.func3 rfl (by kernel_rfl) (by simp [Go.Proofs.Tryz.ntmps3]) ?_; rw [Go.Proofs.Tryz.ntmps3, Go.Proofs.Tryz.results3]
  
  simp -implicitDefEqProofs only [go_sem, Nat.reduceEqDiff, Nat.reduceLT, Nat.reduceLeDiff, Nat.reduceMul, Nat.reduceAdd, reduceIte, reduceCtorEq, Nat.le_refl, Nat.not_lt_zero, Nat.zero_le, Nat.zero_lt_succ, decide_true, decide_false, Nat.reduceBEq, Nat.reduceSub, Int.reduceToNat, Bool.not_not, exists_eq', ← List.map_take, ← List.map_drop, encCase, encTypes, encSorts, encHost, encInts]
  refine call_go (awake_ok) (by simp -implicitDefEqProofs only [go_sem, Nat.reduceEqDiff, Nat.reduceLT, Nat.reduceLeDiff, Nat.reduceMul, Nat.reduceAdd, reduceIte, reduceCtorEq, Nat.le_refl, Nat.not_lt_zero, Nat.zero_le, Nat.zero_lt_succ, decide_true, decide_false, Nat.reduceBEq, Nat.reduceSub, Int.reduceToNat, Bool.not_not, exists_eq', ← List.map_take, ← List.map_drop, encCase, encTypes, encSorts, encHost, encInts] <;> rfl) (scal rfl) ?_
  simp -implicitDefEqProofs only [go_sem, Nat.reduceEqDiff, Nat.reduceLT, Nat.reduceLeDiff, Nat.reduceMul, Nat.reduceAdd, reduceIte, reduceCtorEq, Nat.le_refl, Nat.not_lt_zero, Nat.zero_le, Nat.zero_lt_succ, decide_true, decide_false, Nat.reduceBEq, Nat.reduceSub, Int.reduceToNat, Bool.not_not, exists_eq', ← List.map_take, ← List.map_drop, encCase, encTypes, encSorts, encHost, encInts]
  refine call_rel (fewL_ok t hm s hs h) (by simp -implicitDefEqProofs only [go_sem, Nat.reduceEqDiff, Nat.reduceLT, Nat.reduceLeDiff, Nat.reduceMul, Nat.reduceAdd, reduceIte, reduceCtorEq, Nat.le_refl, Nat.not_lt_zero, Nat.zero_le, Nat.zero_lt_succ, decide_true, decide_false, Nat.reduceBEq, Nat.reduceSub, Int.reduceToNat, Bool.not_not, exists_eq', ← List.map_take, ← List.map_drop, encCase, encTypes, encSorts, encHost, encInts] <;> rfl) ?_
  rintro r ⟨b, rfl, hb⟩
  refine ⟨scal rfl, ?_⟩
  simp -implicitDefEqProofs only [go_sem, Nat.reduceEqDiff, Nat.reduceLT, Nat.reduceLeDiff, Nat.reduceMul, Nat.reduceAdd, reduceIte, reduceCtorEq, Nat.le_refl, Nat.not_lt_zero, Nat.zero_le, Nat.zero_lt_succ, decide_true, decide_false, Nat.reduceBEq, Nat.reduceSub, Int.reduceToNat, Bool.not_not, exists_eq', ← List.map_take, ← List.map_drop, encCase, encTypes, encSorts, encHost, encInts]
  refine condC_splitN (fun h1 => ?_) (fun h1 => ?_) <;> simp -implicitDefEqProofs only [go_sem, Nat.reduceEqDiff, Nat.reduceLT, Nat.reduceLeDiff, Nat.reduceMul, Nat.reduceAdd, reduceIte, reduceCtorEq, Nat.le_refl, Nat.not_lt_zero, Nat.zero_le, Nat.zero_lt_succ, decide_true, decide_false, Nat.reduceBEq, Nat.reduceSub, Int.reduceToNat, Bool.not_not, exists_eq', ← List.map_take, ← List.map_drop, encCase, encTypes, encSorts, encHost, encInts]
  · obtain ⟨hf, hS, hh⟩ := hb h1
    refine call_go (Links_ok t hf s hS h hh) (by simp -implicitDefEqProofs only [go_sem, Nat.reduceEqDiff, Nat.reduceLT, Nat.reduceLeDiff, Nat.reduceMul, Nat.reduceAdd, reduceIte, reduceCtorEq, Nat.le_refl, Nat.not_lt_zero, Nat.zero_le, Nat.zero_lt_succ, decide_true, decide_false, Nat.reduceBEq, Nat.reduceSub, Int.reduceToNat, Bool.not_not, exists_eq', ← List.map_take, ← List.map_drop, encCase, encTypes, encSorts, encHost, encInts] <;> rfl) (pers) ?_
    simp -implicitDefEqProofs only [go_sem, Nat.reduceEqDiff, Nat.reduceLT, Nat.reduceLeDiff, Nat.reduceMul, Nat.reduceAdd, reduceIte, reduceCtorEq, Nat.le_refl, Nat.not_lt_zero, Nat.zero_le, Nat.zero_lt_succ, decide_true, decide_false, Nat.reduceBEq, Nat.reduceSub, Int.reduceToNat, Bool.not_not, exists_eq', ← List.map_take, ← List.map_drop, encCase, encTypes, encSorts, encHost, encInts]
    refine call_go (RLinks_ok t hf s hS h hh okTr) (by simp -implicitDefEqProofs only [go_sem, Nat.reduceEqDiff, Nat.reduceLT, Nat.reduceLeDiff, Nat.reduceMul, Nat.reduceAdd, reduceIte, reduceCtorEq, Nat.le_refl, Nat.not_lt_zero, Nat.zero_le, Nat.zero_lt_succ, decide_true, decide_false, Nat.reduceBEq, Nat.reduceSub, Int.reduceToNat, Bool.not_not, exists_eq', ← List.map_take, ← List.map_drop, encCase, encTypes, encSorts, encHost, encInts] <;> rfl) (pers) ?_
    simp -implicitDefEqProofs only [go_sem, Nat.reduceEqDiff, Nat.reduceLT, Nat.reduceLeDiff, Nat.reduceMul, Nat.reduceAdd, reduceIte, reduceCtorEq, Nat.le_refl, Nat.not_lt_zero, Nat.zero_le, Nat.zero_lt_succ, decide_true, decide_false, Nat.reduceBEq, Nat.reduceSub, Int.reduceToNat, Bool.not_not, exists_eq', ← List.map_take, ← List.map_drop, encCase, encTypes, encSorts, encHost, encInts]
    refine call_go (equal_pair (linksE t s h).1 (linksE t s h).1 (linksE_le t s h)) (by simp -implicitDefEqProofs only [go_sem, Nat.reduceEqDiff, Nat.reduceLT, Nat.reduceLeDiff, Nat.reduceMul, Nat.reduceAdd, reduceIte, reduceCtorEq, Nat.le_refl, Nat.not_lt_zero, Nat.zero_le, Nat.zero_lt_succ, decide_true, decide_false, Nat.reduceBEq, Nat.reduceSub, Int.reduceToNat, Bool.not_not, exists_eq', ← List.map_take, ← List.map_drop, encCase, encTypes, encSorts, encHost, encInts] <;> rfl) (scal rfl) ?_
    simp -implicitDefEqProofs only [go_sem, Nat.reduceEqDiff, Nat.reduceLT, Nat.reduceLeDiff, Nat.reduceMul, Nat.reduceAdd, reduceIte, reduceCtorEq, Nat.le_refl, Nat.not_lt_zero, Nat.zero_le, Nat.zero_lt_succ, decide_true, decide_false, Nat.reduceBEq, Nat.reduceSub, Int.reduceToNat, Bool.not_not, exists_eq', ← List.map_take, ← List.map_drop, encCase, encTypes, encSorts, encHost, encInts]
  · refine call_go (awake_ok) (by simp -implicitDefEqProofs only [go_sem, Nat.reduceEqDiff, Nat.reduceLT, Nat.reduceLeDiff, Nat.reduceMul, Nat.reduceAdd, reduceIte, reduceCtorEq, Nat.le_refl, Nat.not_lt_zero, Nat.zero_le, Nat.zero_lt_succ, decide_true, decide_false, Nat.reduceBEq, Nat.reduceSub, Int.reduceToNat, Bool.not_not, exists_eq', ← List.map_take, ← List.map_drop, encCase, encTypes, encSorts, encHost, encInts] <;> rfl) (scal rfl) ?_
    simp -implicitDefEqProofs only [go_sem, Nat.reduceEqDiff, Nat.reduceLT, Nat.reduceLeDiff, Nat.reduceMul, Nat.reduceAdd, reduceIte, reduceCtorEq, Nat.le_refl, Nat.not_lt_zero, Nat.zero_le, Nat.zero_lt_succ, decide_true, decide_false, Nat.reduceBEq, Nat.reduceSub, Int.reduceToNat, Bool.not_not, exists_eq', ← List.map_take, ← List.map_drop, encCase, encTypes, encSorts, encHost, encInts]

theorem turn1_turn1 {n : Int} (h : 1 ≤ n ∧ n ≤ 3) : turn1 (turn1 n) = n := by
  unfold turn1
  rw [IntWalk.i64_in (4 - n) (by omega), IntWalk.i64_in _ (by omega)]
  omega

theorem firstE_zero {f : Nat → Int} {n : Nat} (h : firstE f 0 n = 0) : ∀ j, j < n → f j = 0 := by
  unfold firstE at h
  cases hk : firstI f 0 n with
  | none => exact firstI_all hk
  | some k => rw [hk] at h; exact absurd h (firstI_some hk)
theorem sortB_iff {n : Int} : sortB n = true ↔ 1 ≤ n ∧ n ≤ 3 := by simp [sortB]
theorem turn1_eq {n : Int} (h : 1 ≤ n ∧ n ≤ 3) : turn1 n = 4 - n := by
  unfold turn1
  rw [IntWalk.i64_in (4 - n) (by omega)]
theorem turnL_at (l : List Int) {i : Nat} (h : i < l.length) : (turnL l).getD i default = turn1 (l.getD i default) := by simp [turnL, h]
theorem turnL_len (l : List Int) : (turnL l).length = l.length := by simp [turnL]

theorem swap_back {t : Types} {s : Sorts} (hf : FewT t) (h : sortsE t s = 0) : sortsE t (turnS s) = 0 ∧ turnS (turnS s) = s := by
  unfold sortsE at h
  split at h
  · rename_i h1; exact absurd h h1
  rename_i h1
  have ht := okTypes hf (by simpa using h1)
  split at h
  · cases h
  rename_i h2
  have hn : s.nodes.length = t.nodes.length := by omega
  have hm : s.edges.length = t.edges.length := by omega
  split at h
  · rename_i h3; exact absurd h h3
  rename_i h3
  have hN := firstE_zero (by simpa using h3 : firstE (sortNE t s) 0 t.nodes.length = 0)
  have hE := firstE_zero h
  have bn : ∀ i, i < s.nodes.length → 1 ≤ s.nodes.getD i default ∧ s.nodes.getD i default ≤ 3 := fun i hi => by
    have := hN i (by omega)
    unfold sortNE at this
    split at this
    · cases this
    · rename_i hb
      exact sortB_iff.1 (by simpa using hb)
  have be : ∀ i, i < s.edges.length → 1 ≤ s.edges.getD i default ∧ s.edges.getD i default ≤ 3 := fun i hi => by
    have := hE i (by omega)
    unfold sortEE at this
    split at this
    · cases this
    · rename_i hb
      exact sortB_iff.1 (by simpa using hb)
  have tn : ∀ i, i < s.nodes.length → (turnS s).nodes.getD i default = 4 - s.nodes.getD i default := fun i hi => by
    show (turnL s.nodes).getD i default = _
    rw [turnL_at _ hi, turn1_eq (bn i hi)]
  have te : ∀ i, i < s.edges.length → (turnS s).edges.getD i default = 4 - s.edges.getD i default := fun i hi => by
    show (turnL s.edges).getD i default = _
    rw [turnL_at _ hi, turn1_eq (be i hi)]
  have ln : (turnS s).nodes.length = s.nodes.length := turnL_len _
  have le : (turnS s).edges.length = s.edges.length := turnL_len _
  constructor
  · unfold sortsE
    rw [if_neg h1, if_neg (by rw [ln, le]; exact h2)]
    have z1 : firstE (sortNE t (turnS s)) 0 t.nodes.length = 0 := firstE_none0 fun j hj => by
      have h0 := hN j hj
      have b := bn j (by omega)
      have hp := ht.par j hj
      unfold sortNE at h0 ⊢
      rw [if_neg (by rw [sortB_iff.2 b]; decide)] at h0
      rw [tn j (by omega), if_neg (by rw [sortB_iff.2 (by omega)]; decide)]
      split
      · rename_i hc
        have hlt : (t.nodes.getD j default).parent.toNat < s.nodes.length := by omega
        rw [tn _ hlt] at hc
        rw [if_pos ⟨hc.1, fun e => hc.2 (by rw [e])⟩] at h0
        exact h0
      · rfl
    rw [if_neg (by rw [z1]; decide)]
    exact firstE_none0 fun j hj => by
      have h0 := hE j hj
      have b := be j (by omega)
      have hends := ht.ends hj
      rw [inB_iff, inB_iff] at hends
      have l1 : (t.edges.getD j default).src.toNat < s.nodes.length := by omega
      have l2 : (t.edges.getD j default).dst.toNat < s.nodes.length := by omega
      have b2 := bn _ l2
      unfold sortEE at h0 ⊢
      rw [if_neg (by rw [sortB_iff.2 b]; decide)] at h0
      rw [te j (by omega), tn _ l1, tn _ l2, if_neg (by rw [sortB_iff.2 (by omega)]; decide)]
      split at h0
      · cases h0
      · rename_i hc
        rw [if_neg]
        omega
  · have tt : ∀ l : List Int, (∀ i, i < l.length → 1 ≤ l.getD i default ∧ l.getD i default ≤ 3) → turnL (turnL l) = l := fun l hl => by
      apply List.ext_getElem
      · rw [turnL_len, turnL_len]
      · intro i i1 i2
        have := turn1_turn1 (hl i i2)
        simpa [turnL, i2] using this
    unfold turnS
    rw [tt _ bn, tt _ be]

theorem TripleSwap_ok (t : Types) (hm : FitT t) (s : Sorts) (hs : SmallS s) : CallV Go.Proofs.Tryz.prog 4 [encCase t s] (fun r => r = .val (.bool true)) := by
  refine callV_of_cw [] Ty.mixed Go.Proofs.Tryz.func4 rfl (by kernel_rfl) (by simp [Go.Proofs.Tryz.ntmps4]) ?_; rw [Go.Proofs.Tryz.ntmps4, Go.Proofs.Tryz.results4]
  
  simp -implicitDefEqProofs only [go_sem, Nat.reduceEqDiff, Nat.reduceLT, Nat.reduceLeDiff, Nat.reduceMul, Nat.reduceAdd, reduceIte, reduceCtorEq, Nat.le_refl, Nat.not_lt_zero, Nat.zero_le, Nat.zero_lt_succ, decide_true, decide_false, Nat.reduceBEq, Nat.reduceSub, Int.reduceToNat, Bool.not_not, exists_eq', ← List.map_take, ← List.map_drop, encCase, encTypes, encSorts, encHost, encInts]
  refine call_go (awake_ok) (by simp -implicitDefEqProofs only [go_sem, Nat.reduceEqDiff, Nat.reduceLT, Nat.reduceLeDiff, Nat.reduceMul, Nat.reduceAdd, reduceIte, reduceCtorEq, Nat.le_refl, Nat.not_lt_zero, Nat.zero_le, Nat.zero_lt_succ, decide_true, decide_false, Nat.reduceBEq, Nat.reduceSub, Int.reduceToNat, Bool.not_not, exists_eq', ← List.map_take, ← List.map_drop, encCase, encTypes, encSorts, encHost, encInts] <;> rfl) (scal rfl) ?_
  simp -implicitDefEqProofs only [go_sem, Nat.reduceEqDiff, Nat.reduceLT, Nat.reduceLeDiff, Nat.reduceMul, Nat.reduceAdd, reduceIte, reduceCtorEq, Nat.le_refl, Nat.not_lt_zero, Nat.zero_le, Nat.zero_lt_succ, decide_true, decide_false, Nat.reduceBEq, Nat.reduceSub, Int.reduceToNat, Bool.not_not, exists_eq', ← List.map_take, ← List.map_drop, encCase, encTypes, encSorts, encHost, encInts]
  have hFL := (fewL_ok t hm s hs ⟨⟨[], []⟩, []⟩).args (ps' := [encTypes t, encSorts s, .agg [.val (.slice none 0 0), .val (.slice none 0 0), .val (.slice none 0 0)]]) ⟨.refl _, .refl _, .agg ⟨.nil, .nil, .nil, trivial⟩, trivial⟩
  refine call_rel hFL (by simp -implicitDefEqProofs only [go_sem, Nat.reduceEqDiff, Nat.reduceLT, Nat.reduceLeDiff, Nat.reduceMul, Nat.reduceAdd, reduceIte, reduceCtorEq, Nat.le_refl, Nat.not_lt_zero, Nat.zero_le, Nat.zero_lt_succ, decide_true, decide_false, Nat.reduceBEq, Nat.reduceSub, Int.reduceToNat, Bool.not_not, exists_eq', ← List.map_take, ← List.map_drop, encCase, encTypes, encSorts, encHost, encInts] <;> rfl) ?_
  rintro r ⟨b, rfl, hb⟩
  refine ⟨scal rfl, ?_⟩
  simp -implicitDefEqProofs only [go_sem, Nat.reduceEqDiff, Nat.reduceLT, Nat.reduceLeDiff, Nat.reduceMul, Nat.reduceAdd, reduceIte, reduceCtorEq, Nat.le_refl, Nat.not_lt_zero, Nat.zero_le, Nat.zero_lt_succ, decide_true, decide_false, Nat.reduceBEq, Nat.reduceSub, Int.reduceToNat, Bool.not_not, exists_eq', ← List.map_take, ← List.map_drop, encCase, encTypes, encSorts, encHost, encInts]
  refine condC_splitN (fun h1 => ?_) (fun h1 => ?_) <;> simp -implicitDefEqProofs only [go_sem, Nat.reduceEqDiff, Nat.reduceLT, Nat.reduceLeDiff, Nat.reduceMul, Nat.reduceAdd, reduceIte, reduceCtorEq, Nat.le_refl, Nat.not_lt_zero, Nat.zero_le, Nat.zero_lt_succ, decide_true, decide_false, Nat.reduceBEq, Nat.reduceSub, Int.reduceToNat, Bool.not_not, exists_eq', ← List.map_take, ← List.map_drop, encCase, encTypes, encSorts, encHost, encInts]
  · obtain ⟨hf, hS, hh⟩ := hb h1
    refine call_go (swap_ok t hf s hS) (by simp -implicitDefEqProofs only [go_sem, Nat.reduceEqDiff, Nat.reduceLT, Nat.reduceLeDiff, Nat.reduceMul, Nat.reduceAdd, reduceIte, reduceCtorEq, Nat.le_refl, Nat.not_lt_zero, Nat.zero_le, Nat.zero_lt_succ, decide_true, decide_false, Nat.reduceBEq, Nat.reduceSub, Int.reduceToNat, Bool.not_not, exists_eq', ← List.map_take, ← List.map_drop, encCase, encTypes, encSorts, encHost, encInts] <;> rfl) (pers) ?_
    simp -implicitDefEqProofs only [go_sem, Nat.reduceEqDiff, Nat.reduceLT, Nat.reduceLeDiff, Nat.reduceMul, Nat.reduceAdd, reduceIte, reduceCtorEq, Nat.le_refl, Nat.not_lt_zero, Nat.zero_le, Nat.zero_lt_succ, decide_true, decide_false, Nat.reduceBEq, Nat.reduceSub, Int.reduceToNat, Bool.not_not, exists_eq', ← List.map_take, ← List.map_drop, encCase, encTypes, encSorts, encHost, encInts]
    refine call_go (rswap_ok t hf s hS) (by simp -implicitDefEqProofs only [go_sem, Nat.reduceEqDiff, Nat.reduceLT, Nat.reduceLeDiff, Nat.reduceMul, Nat.reduceAdd, reduceIte, reduceCtorEq, Nat.le_refl, Nat.not_lt_zero, Nat.zero_le, Nat.zero_lt_succ, decide_true, decide_false, Nat.reduceBEq, Nat.reduceSub, Int.reduceToNat, Bool.not_not, exists_eq', ← List.map_take, ← List.map_drop, encCase, encTypes, encSorts, encHost, encInts] <;> rfl) (pers) ?_
    simp -implicitDefEqProofs only [go_sem, Nat.reduceEqDiff, Nat.reduceLT, Nat.reduceLeDiff, Nat.reduceMul, Nat.reduceAdd, reduceIte, reduceCtorEq, Nat.le_refl, Nat.not_lt_zero, Nat.zero_le, Nat.zero_lt_succ, decide_true, decide_false, Nat.reduceBEq, Nat.reduceSub, Int.reduceToNat, Bool.not_not, exists_eq', ← List.map_take, ← List.map_drop, encCase, encTypes, encSorts, encHost, encInts]
    have hle : (swapX t s).1.nodes.length ≤ 1000000 ∧ (swapX t s).1.edges.length ≤ 1000000 := by
      have hS' : s.nodes.length + s.edges.length ≤ 50 := hS
      unfold swapX
      split
      · exact ⟨Nat.zero_le _, Nat.zero_le _⟩
      · exact ⟨by show (turnL s.nodes).length ≤ _; rw [turnL_len]; omega, by show (turnL s.edges).length ≤ _; rw [turnL_len]; omega⟩
    refine call_go (same_ok (swapX t s).1 (swapX t s).1 hle) (by simp -implicitDefEqProofs only [go_sem, Nat.reduceEqDiff, Nat.reduceLT, Nat.reduceLeDiff, Nat.reduceMul, Nat.reduceAdd, reduceIte, reduceCtorEq, Nat.le_refl, Nat.not_lt_zero, Nat.zero_le, Nat.zero_lt_succ, decide_true, decide_false, Nat.reduceBEq, Nat.reduceSub, Int.reduceToNat, Bool.not_not, exists_eq', ← List.map_take, ← List.map_drop, encCase, encTypes, encSorts, encHost, encInts] <;> rfl) (scal rfl) ?_
    simp -implicitDefEqProofs only [go_sem, Nat.reduceEqDiff, Nat.reduceLT, Nat.reduceLeDiff, Nat.reduceMul, Nat.reduceAdd, reduceIte, reduceCtorEq, Nat.le_refl, Nat.not_lt_zero, Nat.zero_le, Nat.zero_lt_succ, decide_true, decide_false, Nat.reduceBEq, Nat.reduceSub, Int.reduceToNat, Bool.not_not, exists_eq', ← List.map_take, ← List.map_drop, encCase, encTypes, encSorts, encHost, encInts]
    refine condC_splitN (fun h2 => ?_) (fun h2 => ?_) <;> simp -implicitDefEqProofs only [go_sem, Nat.reduceEqDiff, Nat.reduceLT, Nat.reduceLeDiff, Nat.reduceMul, Nat.reduceAdd, reduceIte, reduceCtorEq, Nat.le_refl, Nat.not_lt_zero, Nat.zero_le, Nat.zero_lt_succ, decide_true, decide_false, Nat.reduceBEq, Nat.reduceSub, Int.reduceToNat, Bool.not_not, exists_eq', ← List.map_take, ← List.map_drop, encCase, encTypes, encSorts, encHost, encInts]
    · have h2' := of_decide_eq_true h2
      have hz : sortsE t s = 0 := by
        unfold swapX at h2'
        split at h2'
        · rename_i hne; exact absurd h2' hne
        · rename_i hne; simpa using hne
      have e1 : (swapX t s).1 = turnS s := by unfold swapX; rw [if_neg (by rw [hz]; decide)]
      obtain ⟨hz2, hb2⟩ := swap_back hf hz
      have hS' : s.nodes.length + s.edges.length ≤ 50 := hS
      have hS2 : FewS (swapX t s).1 := by
        rw [e1]
        show (turnL s.nodes).length + (turnL s.edges).length ≤ 50
        rw [turnL_len, turnL_len]
        exact hS'
      have e3 : swapX t (swapX t s).1 = (s, 0) := by
        rw [e1]
        unfold swapX
        rw [if_neg (by rw [hz2]; decide), hb2]
      have hc := swap_ok t hf (swapX t s).1 hS2
      rw [e3] at hc
      refine call_go (hc) (by simp -implicitDefEqProofs only [go_sem, Nat.reduceEqDiff, Nat.reduceLT, Nat.reduceLeDiff, Nat.reduceMul, Nat.reduceAdd, reduceIte, reduceCtorEq, Nat.le_refl, Nat.not_lt_zero, Nat.zero_le, Nat.zero_lt_succ, decide_true, decide_false, Nat.reduceBEq, Nat.reduceSub, Int.reduceToNat, Bool.not_not, exists_eq', ← List.map_take, ← List.map_drop, encCase, encTypes, encSorts, encHost, encInts] <;> rfl) (pers) ?_
      simp -implicitDefEqProofs only [go_sem, Nat.reduceEqDiff, Nat.reduceLT, Nat.reduceLeDiff, Nat.reduceMul, Nat.reduceAdd, reduceIte, reduceCtorEq, Nat.le_refl, Nat.not_lt_zero, Nat.zero_le, Nat.zero_lt_succ, decide_true, decide_false, Nat.reduceBEq, Nat.reduceSub, Int.reduceToNat, Bool.not_not, exists_eq', ← List.map_take, ← List.map_drop, encCase, encTypes, encSorts, encHost, encInts]
      refine call_go (same_ok s s ⟨by omega, by omega⟩) (by simp -implicitDefEqProofs only [go_sem, Nat.reduceEqDiff, Nat.reduceLT, Nat.reduceLeDiff, Nat.reduceMul, Nat.reduceAdd, reduceIte, reduceCtorEq, Nat.le_refl, Nat.not_lt_zero, Nat.zero_le, Nat.zero_lt_succ, decide_true, decide_false, Nat.reduceBEq, Nat.reduceSub, Int.reduceToNat, Bool.not_not, exists_eq', ← List.map_take, ← List.map_drop, encCase, encTypes, encSorts, encHost, encInts] <;> rfl) (scal rfl) ?_
      simp -implicitDefEqProofs only [go_sem, Nat.reduceEqDiff, Nat.reduceLT, Nat.reduceLeDiff, Nat.reduceMul, Nat.reduceAdd, reduceIte, reduceCtorEq, Nat.le_refl, Nat.not_lt_zero, Nat.zero_le, Nat.zero_lt_succ, decide_true, decide_false, Nat.reduceBEq, Nat.reduceSub, Int.reduceToNat, Bool.not_not, exists_eq', ← List.map_take, ← List.map_drop, encCase, encTypes, encSorts, encHost, encInts]
    · refine call_go (same_ok (swapX t s).1 (swapX t s).1 hle) (by simp -implicitDefEqProofs only [go_sem, Nat.reduceEqDiff, Nat.reduceLT, Nat.reduceLeDiff, Nat.reduceMul, Nat.reduceAdd, reduceIte, reduceCtorEq, Nat.le_refl, Nat.not_lt_zero, Nat.zero_le, Nat.zero_lt_succ, decide_true, decide_false, Nat.reduceBEq, Nat.reduceSub, Int.reduceToNat, Bool.not_not, exists_eq', ← List.map_take, ← List.map_drop, encCase, encTypes, encSorts, encHost, encInts] <;> rfl) (scal rfl) ?_
      simp -implicitDefEqProofs only [go_sem, Nat.reduceEqDiff, Nat.reduceLT, Nat.reduceLeDiff, Nat.reduceMul, Nat.reduceAdd, reduceIte, reduceCtorEq, Nat.le_refl, Nat.not_lt_zero, Nat.zero_le, Nat.zero_lt_succ, decide_true, decide_false, Nat.reduceBEq, Nat.reduceSub, Int.reduceToNat, Bool.not_not, exists_eq', ← List.map_take, ← List.map_drop, encCase, encTypes, encSorts, encHost, encInts]
  · refine call_go (awake_ok) (by simp -implicitDefEqProofs only [go_sem, Nat.reduceEqDiff, Nat.reduceLT, Nat.reduceLeDiff, Nat.reduceMul, Nat.reduceAdd, reduceIte, reduceCtorEq, Nat.le_refl, Nat.not_lt_zero, Nat.zero_le, Nat.zero_lt_succ, decide_true, decide_false, Nat.reduceBEq, Nat.reduceSub, Int.reduceToNat, Bool.not_not, exists_eq', ← List.map_take, ← List.map_drop, encCase, encTypes, encSorts, encHost, encInts] <;> rfl) (scal rfl) ?_
    simp -implicitDefEqProofs only [go_sem, Nat.reduceEqDiff, Nat.reduceLT, Nat.reduceLeDiff, Nat.reduceMul, Nat.reduceAdd, reduceIte, reduceCtorEq, Nat.le_refl, Nat.not_lt_zero, Nat.zero_le, Nat.zero_lt_succ, decide_true, decide_false, Nat.reduceBEq, Nat.reduceSub, Int.reduceToNat, Bool.not_not, exists_eq', ← List.map_take, ← List.map_drop, encCase, encTypes, encSorts, encHost, encInts]
end Go.Proofs.YtdlohnchnneaeaaGreat
/- The statements' arguments as plain data. -/
namespace Go.Proofs.YtdlohnchnneaeaaGreat
open Go.Abs

variable {w : World} {H : Type} {enc : TypeId × Value → H}

theorem decInt : Dec Go.Proofs.Tryz.prog w enc 3 1 encI (fun _ => True) := .int Go.Proofs.Tryz.underlying3
theorem decStr : Dec Go.Proofs.Tryz.prog w enc 9 1 encS (fun _ => True) := .str Go.Proofs.Tryz.underlying9
theorem decBool : Dec Go.Proofs.Tryz.prog w enc 4 1 (fun b : Bool => [.val (.bool b)]) (fun _ => True) := .bool Go.Proofs.Tryz.underlying4
theorem decInts : Dec Go.Proofs.Tryz.prog w enc 26 1 (fun l : List Int => [.lst (l.map encI)]) (fun l => l.length ≤ reachBytes) :=
  (Dec.slice Go.Proofs.Tryz.underlying26 (by kernel_rfl) (by decide) (of_decide_eq_true (by kernel_rfl)) decInt).map id id (fun _ => rfl) (fun _ => rfl) (fun _ h => h.2)
theorem decStrs : Dec Go.Proofs.Tryz.prog w enc 105 1 (fun l : List ByteArray => [.lst (l.map encS)]) (fun _ => True) :=
  (Dec.slice Go.Proofs.Tryz.underlying105 (by kernel_rfl) (by decide) (of_decide_eq_true (by kernel_rfl)) decStr).map id id (fun _ => rfl) (fun _ => rfl) (fun _ _ => trivial)
theorem decAttr : Dec Go.Proofs.Tryz.prog w enc 107 4 encAttr (fun _ => True) :=
  (Dec.struct Go.Proofs.Tryz.underlying107 (by kernel_rfl) (.cons rfl (by kernel_rfl) decStr (.cons rfl (by kernel_rfl) decInt (.cons rfl (by kernel_rfl) decInt (.cons rfl (by kernel_rfl) decStrs (.nil _)))))).map
    (fun x => ⟨x.1, x.2.1, x.2.2.1, x.2.2.2.1⟩) (fun a => (a.name, a.low, a.high, a.names, ())) (fun _ => rfl) (fun _ => rfl) (fun _ _ => trivial)
theorem decAttrs : Dec Go.Proofs.Tryz.prog w enc 95 1 (fun l : List Attr => [.lst (l.map encAttr)]) (fun l => l.length ≤ reachBytes) :=
  (Dec.slice Go.Proofs.Tryz.underlying95 (by kernel_rfl) (by decide) (of_decide_eq_true (by kernel_rfl)) decAttr).map id id (fun _ => rfl) (fun _ => rfl) (fun _ h => h.2)
theorem decNode : Dec Go.Proofs.Tryz.prog w enc 97 4 encNode (fun n => n.attrs.length ≤ reachBytes) :=
  (Dec.struct Go.Proofs.Tryz.underlying97 (by kernel_rfl) (.cons rfl (by kernel_rfl) decStr (.cons rfl (by kernel_rfl) decInt (.cons rfl (by kernel_rfl) decBool (.cons rfl (by kernel_rfl) decAttrs (.nil _)))))).map
    (fun x => ⟨x.1, x.2.1, x.2.2.1, x.2.2.2.1⟩) (fun a => (a.name, a.parent, a.abs, a.attrs, ())) (fun _ => rfl) (fun _ => rfl) (fun _ h => h.2.2.2.1)
theorem decNodes : Dec Go.Proofs.Tryz.prog w enc 22 1 (fun l : List NodeT => [.lst (l.map encNode)]) (fun l => ∀ n ∈ l, n.attrs.length ≤ reachBytes) :=
  (Dec.slice Go.Proofs.Tryz.underlying22 (by kernel_rfl) (by decide) (of_decide_eq_true (by kernel_rfl)) decNode).map id id (fun _ => rfl) (fun _ => rfl) (fun _ h => h.1)
theorem decEdgeT : Dec Go.Proofs.Tryz.prog w enc 99 7 encEdgeT (fun _ => True) :=
  (Dec.struct Go.Proofs.Tryz.underlying99 (by kernel_rfl) (.cons rfl (by kernel_rfl) decStr (.cons rfl (by kernel_rfl) decInt (.cons rfl (by kernel_rfl) decInt (.cons rfl (by kernel_rfl) decInt (.cons rfl (by kernel_rfl) decInt (.cons rfl (by kernel_rfl) decInt (.cons rfl (by kernel_rfl) decInt (.nil _))))))))).map
    (fun x => ⟨x.1, x.2.1, x.2.2.1, x.2.2.2.1, x.2.2.2.2.1, x.2.2.2.2.2.1, x.2.2.2.2.2.2.1⟩) (fun a => (a.name, a.src, a.dst, a.outLow, a.outHigh, a.inLow, a.inHigh, ())) (fun _ => rfl) (fun _ => rfl) (fun _ _ => trivial)
theorem decEdgeTs : Dec Go.Proofs.Tryz.prog w enc 23 1 (fun l : List EdgeT => [.lst (l.map encEdgeT)]) (fun _ => True) :=
  (Dec.slice Go.Proofs.Tryz.underlying23 (by kernel_rfl) (by decide) (of_decide_eq_true (by kernel_rfl)) decEdgeT).map id id (fun _ => rfl) (fun _ => rfl) (fun _ _ => trivial)
theorem decTypes : Dec Go.Proofs.Tryz.prog w enc 25 2 (fun t : Types => [.lst (t.nodes.map encNode), .lst (t.edges.map encEdgeT)]) (fun t => ∀ n ∈ t.nodes, n.attrs.length ≤ reachBytes) :=
  (Dec.struct Go.Proofs.Tryz.underlying25 (by kernel_rfl) (.cons rfl (by kernel_rfl) decNodes (.cons rfl (by kernel_rfl) decEdgeTs (.nil _)))).map
    (fun x => ⟨x.1, x.2.1⟩) (fun a => (a.nodes, a.edges, ())) (fun _ => rfl) (fun _ => rfl) (fun _ h => h.1)
theorem decSorts : Dec Go.Proofs.Tryz.prog w enc 28 2 (fun s : Sorts => [.lst (s.nodes.map encI), .lst (s.edges.map encI)]) (fun s => s.nodes.length ≤ reachBytes ∧ s.edges.length ≤ reachBytes) :=
  (Dec.struct Go.Proofs.Tryz.underlying28 (by kernel_rfl) (.cons rfl (by kernel_rfl) decInts (.cons rfl (by kernel_rfl) decInts (.nil _)))).map
    (fun x => ⟨x.1, x.2.1⟩) (fun a => (a.nodes, a.edges, ())) (fun _ => rfl) (fun _ => rfl) (fun _ h => ⟨h.1, h.2.1⟩)
theorem decEdge : Dec Go.Proofs.Tryz.prog w enc 73 3 encEdge (fun _ => True) :=
  (Dec.struct Go.Proofs.Tryz.underlying73 (by kernel_rfl) (.cons rfl (by kernel_rfl) decInt (.cons rfl (by kernel_rfl) decInt (.cons rfl (by kernel_rfl) decInt (.nil _))))).map
    (fun x => ⟨x.1, x.2.1, x.2.2.1⟩) (fun a => (a.type, a.src, a.dst, ())) (fun _ => rfl) (fun _ => rfl) (fun _ _ => trivial)
theorem decEdges : Dec Go.Proofs.Tryz.prog w enc 31 1 (fun l : List Edge => [.lst (l.map encEdge)]) (fun _ => True) :=
  (Dec.slice Go.Proofs.Tryz.underlying31 (by kernel_rfl) (by decide) (of_decide_eq_true (by kernel_rfl)) decEdge).map id id (fun _ => rfl) (fun _ => rfl) (fun _ _ => trivial)
theorem decGraph : Dec Go.Proofs.Tryz.prog w enc 33 2 (fun g : Graph => [.lst (g.nodes.map encI), .lst (g.edges.map encEdge)]) (fun _ => True) :=
  (Dec.struct Go.Proofs.Tryz.underlying33 (by kernel_rfl) (.cons rfl (by kernel_rfl) decInts (.cons rfl (by kernel_rfl) decEdges (.nil _)))).map
    (fun x => ⟨x.1, x.2.1⟩) (fun a => (a.nodes, a.edges, ())) (fun _ => rfl) (fun _ => rfl) (fun _ _ => trivial)
theorem decRows : Dec Go.Proofs.Tryz.prog w enc 34 1 (fun l : List (List Int) => [.lst (l.map encRow)]) (fun _ => True) :=
  (Dec.slice Go.Proofs.Tryz.underlying34 (by kernel_rfl) (by decide) (of_decide_eq_true (by kernel_rfl)) decInts).map id id (fun _ => rfl) (fun _ => rfl) (fun _ _ => trivial)
theorem decHost : Dec Go.Proofs.Tryz.prog w enc 36 3 (fun h : Host => [.lst (h.graph.nodes.map encI), .lst (h.graph.edges.map encEdge), .lst (h.values.map encRow)]) (fun _ => True) :=
  (Dec.struct Go.Proofs.Tryz.underlying36 (by kernel_rfl) (.cons rfl (by kernel_rfl) decGraph (.cons rfl (by kernel_rfl) decRows (.nil _)))).map
    (fun x => ⟨x.1, x.2.1⟩) (fun a => (a.graph, a.values, ())) (fun _ => rfl) (fun _ => rfl) (fun _ _ => trivial)
theorem decCase : Dec Go.Proofs.Tryz.prog w enc 30 4 (fun c : Types × Sorts => [.lst (c.1.nodes.map encNode), .lst (c.1.edges.map encEdgeT), .lst (c.2.nodes.map encI), .lst (c.2.edges.map encI)]) (fun c => (∀ n ∈ c.1.nodes, n.attrs.length ≤ reachBytes) ∧ (c.2.nodes.length ≤ reachBytes ∧ c.2.edges.length ≤ reachBytes)) :=
  (Dec.struct Go.Proofs.Tryz.underlying30 (by kernel_rfl) (.cons rfl (by kernel_rfl) decTypes (.cons rfl (by kernel_rfl) decSorts (.nil _)))).map
    (fun x => (x.1, x.2.1)) (fun a => (a.1, a.2, ())) (fun _ => rfl) (fun _ => rfl) (fun _ h => ⟨h.1, h.2.1⟩)
end Go.Proofs.YtdlohnchnneaeaaGreat
/- Layer 52's statements: what all proofs of them use. -/
namespace Go.Proofs.YtdlohnchnneaeaaGreat
open Go.Abs
open Go.ChangeShapes Go.WideShapes Go.ChangeAt Go.RowKit

theorem ownP : ownKnob Go.Proofs.Tryz.prog.godebug = none := by kernel_rfl
theorem laidP : laidOutB Go.Proofs.Tryz.prog = true := by kernel_rfl

set_option maxRecDepth 100000 in
/-- An argument that is a structure, as plain data. -/
theorem arg_agg {W : World} {H : Type} {enc : TypeId × Value → H} {α : Type} {t : TypeId} {fs : Array Field} {sz b0 : Nat} {e : α → List PV} {G : α → Prop} {v : Value} {d : DataW H} {ps : List MemPlace} {sp : Nat → Bool} {hd : Bool} (ht : Go.Proofs.Tryz.prog.underlying t = some (.struct fs)) (hdec : Dec Go.Proofs.Tryz.prog W enc t sz e G)
    (hval : Value.okWide Go.Proofs.Tryz.prog W .any b0 t v) (h : DataW.Trod enc Go.Proofs.Tryz.prog W 0 sp hd t v d ps) (hw : Light Go.Proofs.Tryz.prog t d) : ∃ a, G a ∧ VR (snap W) v (.agg (e a)) := by
  unfold Value.okWide at hval
  rw [ht] at hval
  obtain ⟨cs, rfl, _⟩ := hval
  obtain ⟨fuel, hf⟩ := h
  obtain ⟨a, h1, h2⟩ := hdec.dec sp hd fuel _ _ hf hw
  refine ⟨a, h1, ?_⟩
  have : VR (snap W) (.agg (cs.toList).toArray) (.agg (e a)) := .agg cs.toList (e a) h2.1 h2.2.1 h2.2.2
  simpa using this

theorem vr_bool {I : Mem} {v : Value} {b : Bool} (h : VR I v (.val (.bool b))) : v = .bool b := by
  cases h
  rfl

theorem light_of {H : Type} {ts : List TypeId} {ds : List (DataW H)} (h : (DataW.weightsEach Go.Proofs.Tryz.prog ts ds).all (· ≤ reachBytes) = true) {j : Nat} {t : TypeId} {d : DataW H} (ht : ts[j]? = some t) (hd : ds[j]? = some d) : Light Go.Proofs.Tryz.prog t d := fun n hn => by
  have := List.all_eq_true.1 h n (DataW.weights_mem_each ht hd n hn)
  simpa using this

theorem fit_of {c : Types × Sorts} (h : (∀ n ∈ c.1.nodes, n.attrs.length ≤ reachBytes) ∧ (c.2.nodes.length ≤ reachBytes ∧ c.2.edges.length ≤ reachBytes)) : FitT c.1 ∧ SmallS c.2 := by
  have hr : reachBytes ≤ 1125899906842624 := by decide
  exact ⟨⟨fun n hn => Nat.le_trans (h.1 n hn) hr⟩, Nat.le_trans h.2.1 hr, Nat.le_trans h.2.2 hr⟩

end Go.Proofs.YtdlohnchnneaeaaGreat
