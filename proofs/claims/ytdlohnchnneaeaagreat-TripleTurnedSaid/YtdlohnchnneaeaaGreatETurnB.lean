/- A triple over the example's types, and the sorts exchanged: the sides, the links. -/
import Derived.Test.YtdlohnchnneaeaaGreatJ5
import Derived.Test.YtdlohnchnneaeaaGreatJ6
set_option linter.unusedSimpArgs false
set_option linter.unusedVariables false
open Nat (reduceEqDiff reduceLT reduceLeDiff reduceMul reduceAdd reduceSub)
namespace Go.Proofs.YtdlohnchnneaeaaGreat
open Go.Abs

theorem ex_sorts : sortsE exT exS = 0 := by kernel_rfl
def exS2 : Sorts := turnS exS
theorem ex_swap : swapX exT exS = (exS2, 0) := by kernel_rfl
theorem ex_sorts2 : sortsE exT exS2 = 0 := by kernel_rfl
theorem ex_few2 : FewS exS2 := by unfold FewS; decide
theorem ex_fitsT0 : fitsT exT 0 0 1 = true := by kernel_rfl
theorem ex_fitsT1 : fitsT exT 1 2 3 = true := by kernel_rfl
theorem ex_fitsT2 : fitsT exT 2 4 0 = true := by kernel_rfl
theorem ex_fitsT3 : fitsT exT 3 4 1 = true := by kernel_rfl
theorem ex_fitsT4 : fitsT exT 4 4 2 = true := by kernel_rfl
theorem ex_fitsT5 : fitsT exT 5 4 3 = true := by kernel_rfl
theorem ex_fitsT {e : Int} (h : 0 ≤ e ∧ e < 6) : fitsT exT e (exSrc e) (exDst e) = true := by
  rcases six h with rfl | rfl | rfl | rfl | rfl | rfl
  · exact ex_fitsT0
  · exact ex_fitsT1
  · exact ex_fitsT2
  · exact ex_fitsT3
  · exact ex_fitsT4
  · exact ex_fitsT5
theorem ex_nodeH0 : nodeH exT 0 [] = 0 := by kernel_rfl
theorem ex_nodeH1 : nodeH exT 1 [] = 0 := by kernel_rfl
theorem ex_nodeH2 : nodeH exT 2 [] = 0 := by kernel_rfl
theorem ex_nodeH3 : nodeH exT 3 [] = 0 := by kernel_rfl
theorem ex_nodeH4 : nodeH exT 4 [] = 0 := by kernel_rfl
theorem ex_nodeH {n : Int} (h : 0 ≤ n ∧ n < 5) : nodeH exT n [] = 0 := by
  rcases five h with rfl | rfl | rfl | rfl | rfl
  · exact ex_nodeH0
  · exact ex_nodeH1
  · exact ex_nodeH2
  · exact ex_nodeH3
  · exact ex_nodeH4

theorem ExH.few {h : Host} (hx : ExH h) : FewH h :=
  ⟨⟨by have := hx.nodes; omega, by have := hx.edges; omega⟩, by rw [hx.vals, List.length_map]; have := hx.nodes; omega, fun l hl => by
    rw [hx.vals] at hl
    obtain ⟨n, _, rfl⟩ := List.mem_map.1 hl
    simp⟩
theorem ExH.node {h : Host} (hx : ExH h) {i : Nat} (hi : i < h.graph.nodes.length) : 0 ≤ h.graph.nodes.getD i default ∧ h.graph.nodes.getD i default < 5 := hx.kind _ (getD_mem hi)
theorem ExH.edg {h : Host} (hx : ExH h) {i : Nat} (hi : i < h.graph.edges.length) : (0 ≤ (h.graph.edges.getD i default).type ∧ (h.graph.edges.getD i default).type < 6) ∧ h.graph.nodes.getD (h.graph.edges.getD i default).src.toNat default = exSrc (h.graph.edges.getD i default).type ∧ h.graph.nodes.getD (h.graph.edges.getD i default).dst.toNat default = exDst (h.graph.edges.getD i default).type := by
  obtain ⟨q1, q2, q3, q4, q5⟩ := hx.edge _ (getD_mem hi)
  exact ⟨q1, q4, q5⟩
theorem ExH.valid {h : Host} (hx : ExH h) : (validH exT h).2 = 0 := by
  have h1 : validG h.graph = 0 := by
    unfold validG
    have l1 := hx.nodes
    have l2 := hx.edges
    rw [if_neg (by omega), if_neg, if_neg]
    · simp only [List.any_eq_true, not_exists, not_and, Bool.not_eq_true', Bool.not_eq_false]
      intro x hx'
      obtain ⟨q1, q2, q3, _⟩ := hx.edge x hx'
      simp only [edgeB, kindB, Bool.and_eq_true, decide_eq_true_eq]
      omega
    · simp only [List.any_eq_true, not_exists, not_and, Bool.not_eq_true', Bool.not_eq_false]
      intro x hx'
      have := hx.kind x hx'
      simp only [kindB, Bool.and_eq_true, decide_eq_true_eq]
      omega
  unfold validH
  rw [if_neg (by rw [ex_validT]; decide), if_neg (by rw [h1]; decide), if_neg (by rw [hx.vals, List.length_map]; simp)]
  have h2 : firstI (fun i => nodeH exT (h.graph.nodes.getD i default) (h.values.getD i default)) 0 h.graph.nodes.length = none := firstI_none fun j _ hj => by
    have e : h.values.getD j default = [] := by rw [hx.vals]; simp [hj]
    rw [e]
    exact ex_nodeH (hx.node hj)
  have h3 : firstI (edgeH exT h) 0 h.graph.edges.length = none := firstI_none fun j _ hj => by
    obtain ⟨q1, q4, q5⟩ := hx.edg hj
    unfold edgeH
    have : (exT.edges.length : Int) = 6 := by decide
    rw [if_neg (by omega), if_pos]
    rw [q4, q5]
    exact ex_fitsT q1
  rw [h2, h3]
theorem ExH.validTr {h : Host} (hx : ExH h) : validTr exT exS h = 0 := by
  unfold Go.Proofs.YtdlohnchnneaeaaGreat.validTr
  rw [if_neg (by rw [ex_sorts]; decide)]
  exact hx.valid
theorem ExH.validTr2 {h : Host} (hx : ExH h) : Go.Proofs.YtdlohnchnneaeaaGreat.validTr exT exS2 h = 0 := by
  unfold Go.Proofs.YtdlohnchnneaeaaGreat.validTr
  rw [if_neg (by rw [ex_sorts2]; decide)]
  exact hx.valid
theorem ex_sortN {n : Int} (h : 0 ≤ n ∧ n < 5) : exS2.nodes.getD n.toNat default = 4 - exS.nodes.getD n.toNat default := by
  rcases five h with rfl | rfl | rfl | rfl | rfl <;> decide
theorem ex_sortE {n : Int} (h : 0 ≤ n ∧ n < 6) : exS2.edges.getD n.toNat default = 4 - exS.edges.getD n.toNat default := by
  rcases six h with rfl | rfl | rfl | rfl | rfl | rfl <;> decide
theorem pick_congr {p q : Nat → Bool} {n : Nat} (h : ∀ i, i < n → p i = q i) : pick p n = pick q n := by
  unfold pick
  rw [List.filter_congr fun i hi => h i (List.mem_range.1 hi)]
theorem ExH.part {h : Host} (hx : ExH h) (k : Int) : partX exS2 h.graph k = partX exS h.graph (4 - k) := by
  unfold partX
  rw [pick_congr (q := fun i => decide (nodeS exS h.graph i = 4 - k)), pick_congr (n := h.graph.edges.length) (q := fun i => decide (edgeS exS h.graph i = 4 - k))]
  · intro i hi
    unfold edgeS
    rw [ex_sortE (hx.edg hi).1]
    exact decide_eq_decide.2 (by omega)
  · intro i hi
    unfold nodeS
    rw [ex_sortN (hx.node hi)]
    exact decide_eq_decide.2 (by omega)

/-! ### The links, turned around -/
theorem linkB_comm (g : Graph) (M : List Int) (a b : Int) : linkB g M a b = linkB g M b a := by
  unfold linkB
  congr 1
  funext m
  unfold midB
  exact Bool.and_comm _ _
theorem mem_linksL {g : Graph} {S M T : List Int} {k : GPair} : k ∈ linksL g S M T ↔ k.a ∈ S ∧ k.b ∈ T ∧ linkB g M k.a k.b = true := by
  unfold linksL linkR
  simp only [List.mem_flatMap, List.mem_map, List.mem_filter]
  constructor
  · rintro ⟨a, ha, b, ⟨hb, hl⟩, rfl⟩
    exact ⟨ha, hb, hl⟩
  · rintro ⟨ha, hb, hl⟩
    exact ⟨k.a, ha, k.b, ⟨hb, hl⟩, rfl⟩
theorem links_cons (g : Graph) (M : List Int) (a : Int) (S : List Int) : ∀ T : List Int, (linksL g T M (a :: S)).length = (linksL g T M S).length + (T.filter (linkB g M a)).length
  | [] => rfl
  | b :: T => by
    have ih := links_cons g M a S T
    unfold linksL at ih ⊢
    simp only [List.flatMap_cons, List.length_append]
    rw [ih]
    unfold linkR
    simp only [List.filter_cons, List.length_map]
    rw [linkB_comm g M b a]
    split <;> simp <;> omega
theorem links_len (g : Graph) (M : List Int) (T : List Int) : ∀ S : List Int, (linksL g S M T).length = (linksL g T M S).length
  | [] => by
    have : ∀ T : List Int, linksL g T M [] = [] := fun T => by
      induction T with
      | nil => rfl
      | cons b T ih => unfold linksL at ih ⊢; rw [List.flatMap_cons, ih]; rfl
    rw [this]; rfl
  | a :: S => by
    rw [links_cons, ← links_len g M T S]
    unfold linksL
    simp only [List.flatMap_cons, List.length_append]
    unfold linkR
    rw [List.length_map]
    omega

theorem l_contains {l : List GPair} (hl : l.length ≤ 1000000) {v : GPair} (hv : v ∈ l) : f_slices_Contains_Pair l v = some true := by
  refine Ok.eq ?_
  unfold f_slices_Contains_Pair
  refine ok_thn (R := fun r => 0 ≤ r) ?_ fun r hr => .mk (decide_eq_true hr)
  unfold f_slices_Index_Pair
  refine ok_chk (by unfold fuel; omega) ?_
  refine ok_all l (fun x => x ≠ v) (fun i nxt hi hn => ?_) (fun hall => absurd rfl (hall v hv))
  refine ok_at hi ?_
  refine ok_cond (fun _ => .mk (Int.natCast_nonneg _)) (fun h => hn fun e => ?_)
  rw [e] at h
  simp at h

theorem ExH.links {h : Host} (hx : ExH h) : linksE exT exS h = (linksR exS h.graph, 0) ∧ linksE exT exS2 h = (linksL h.graph (partX exS h.graph 3).nodes (partX exS h.graph 2).nodes (partX exS h.graph 1).nodes, 0) := by
  constructor
  · unfold linksE
    rw [if_neg (by rw [hx.validTr]; decide)]
  · unfold linksE
    rw [if_neg (by rw [hx.validTr2]; decide)]
    unfold linksR
    rw [hx.part 1, hx.part 2, hx.part 3]
    rfl
theorem ExH.side {h : Host} (hx : ExH h) : sideX exT exS2 h 3 = sideX exT exS h 1 := by
  have e1 : sideX exT exS2 h 3 = (extH h (partX exS2 h.graph 3), partX exS2 h.graph 3, 0) := by
    unfold sideX
    rw [if_neg (by rw [hx.validTr2]; decide)]
    rfl
  have e2 : sideX exT exS h 1 = (extH h (partX exS h.graph 1), partX exS h.graph 1, 0) := by
    unfold sideX
    rw [if_neg (by rw [hx.validTr]; decide)]
    rfl
  rw [e1, e2, hx.part 3]
  rfl
theorem ExH.side1 {h : Host} (hx : ExH h) : (sideX exT exS h 1).2.2 = 0 := by
  unfold sideX
  rw [if_neg (by rw [hx.validTr]; decide)]
  rfl

theorem l_TripleTurned (d : T_scarfjointref15_Draft) (hd : G64 d) : f_scarfjointlaw52_TripleTurned d = some true := by
  have hd' : OkDraft d := ⟨fun x hx => by have := hd.1.1 x hx; exact ⟨this.1, this.2.1⟩, fun x hx => by have := hd.2.1.1 x hx; exact ⟨this.1, this.2.1, this.2.2.1⟩⟩
  refine Ok.eq ?_
  unfold f_scarfjointlaw52_TripleTurned
  refine ok_eq (r := true) rfl ?_
  refine ok_t rfl ?_
  refine ok_eq (r := (exT, exS)) rfl ?_
  refine ok_thn (made_ok d hd') fun h hx => ?_
  have hf := exFew.1
  have hs := exFew.2.1
  obtain ⟨l1, l2⟩ := hx.links
  refine ok_eq (r := (exS2, 0)) ((giv_t ⟨hf, hs⟩).trans (congrArg some ex_swap)) ?_
  refine ok_eq (l_triple_Side hf hs hx.few 1) ?_
  refine ok_eq (l_triple_Side hf ex_few2 hx.few 3) ?_
  refine ok_eq (r := linksE exT exS h) (giv_t ⟨hf, hs, hx.few⟩) ?_
  refine ok_eq (r := linksE exT exS2 h) (giv_t ⟨hf, ex_few2, hx.few⟩) ?_
  rw [hx.side, l1, l2]
  refine ok_t rfl ?_
  refine ok_t (decide_eq_true hx.side1) ?_
  refine ok_t (decide_eq_true hx.side1) ?_
  refine ok_t rfl ?_
  refine ok_t rfl ?_
  obtain ⟨q1, q2, q3, q4⟩ := sideX_small hf (s := exS) hx.few 1
  refine ok_eq (l_sameH q1 q2 q3) ?_
  refine ok_t rfl ?_
  refine ok_eq (l_sameP q4) ?_
  refine ok_t rfl ?_
  have hlen := links_len h.graph (partX exS h.graph 2).nodes (partX exS h.graph 3).nodes (partX exS h.graph 1).nodes
  have hle : (linksR exS h.graph).length ≤ 1000000 := linksL_le exS h.graph (okTr hx.validTr)
  refine ok_t (decide_eq_true (by dsimp only; rw [← hlen]; rfl)) ?_
  refine ok_chk (by unfold fuel; dsimp only; omega) ?_
  refine ok_all (linksR exS h.graph) (fun _ => True) (fun i nxt hi hn => ?_) (fun _ => .mk rfl)
  refine ok_at hi ?_
  have hm := mem_linksL.1 (List.getElem_mem hi : (linksR exS h.graph)[i] ∈ linksR exS h.graph)
  refine ok_eq (l_contains ?_ (mem_linksL.2 ⟨hm.2.1, hm.1, ?_⟩)) (ok_t rfl (hn trivial))
  · rw [← hlen]; exact hle
  · dsimp only; rw [linkB_comm]; exact hm.2.2
theorem tripleTurned_holds : Rows.TripleTurnedSaid := lift_TripleTurned fun d h => l_TripleTurned d h
#print axioms tripleTurned_holds
end Go.Proofs.YtdlohnchnneaeaaGreat
