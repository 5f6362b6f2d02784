/- The sides of a pair over the example's types. -/
import Derived.Test.YtdlohnchnneaeaaGreatJ6
set_option linter.unusedSimpArgs false
set_option linter.unusedVariables false
open Nat (reduceEqDiff reduceLT reduceLeDiff reduceMul reduceAdd reduceSub)
namespace Go.Proofs.YtdlohnchnneaeaaGreat
open Go.Abs

structure OneS (k : Int) (h : Host) : Prop where
  ex : ExH h
  n : ∀ x ∈ h.graph.nodes, exS.nodes.getD x.toNat default = k
  e : ∀ x ∈ h.graph.edges, exS.edges.getD x.type.toNat default = k
  n8 : h.graph.nodes.length ≤ 8
  e10 : h.graph.edges.length ≤ 10

theorem ExH.val {h : Host} (hx : ExH h) (i : Nat) : h.values.getD i default = [] := by
  rw [hx.vals, List.getD_eq_getElem?_getD, List.getElem?_map]
  cases h.graph.nodes[i]? <;> rfl
theorem posL_at {l : List Int} {x : Int} (h : x ∈ l) : ∃ hl : posL l x < l.length, l[posL l x] = x := by
  have h1 : posL l x < l.length := List.idxOf_lt_length_iff.2 h
  exact ⟨h1, List.getElem_idxOf h1⟩
theorem ExH.one {h : Host} (hx : ExH h) (h8 : h.graph.nodes.length ≤ 8) (h10 : h.graph.edges.length ≤ 10) {k : Int} (hk : k ≠ 2) : OneS k (extH h (partX exS h.graph k)) := by
  have hp := partX_ok (vTr exFew.1 hx.validTr) hk
  have l1 : (partX exS h.graph k).nodes.length ≤ h.graph.nodes.length := pick_len _ _
  have l2 : (partX exS h.graph k).edges.length ≤ h.graph.edges.length := pick_len _ _
  have hn : ∀ m ∈ (partX exS h.graph k).nodes, ∃ i, i < h.graph.nodes.length ∧ nodeS exS h.graph i = k ∧ m = (i : Int) := fun m hm => by
    have hm' : m ∈ pick _ _ := hm
    rw [mem_pick] at hm'
    obtain ⟨i, h1, h2, h3⟩ := hm'
    exact ⟨i, h1, by simpa using h2, h3⟩
  have he : ∀ m ∈ (partX exS h.graph k).edges, ∃ i, i < h.graph.edges.length ∧ edgeS exS h.graph i = k ∧ m = (i : Int) := fun m hm => by
    have hm' : m ∈ pick _ _ := hm
    rw [mem_pick] at hm'
    obtain ⟨i, h1, h2, h3⟩ := hm'
    exact ⟨i, h1, by simpa using h2, h3⟩
  have ln : (extH h (partX exS h.graph k)).graph.nodes.length = (partX exS h.graph k).nodes.length := List.length_map ..
  have le : (extH h (partX exS h.graph k)).graph.edges.length = (partX exS h.graph k).edges.length := List.length_map ..
  refine ⟨⟨by omega, by omega, fun n hn' => ?_, ?_, fun x hx' => ?_⟩, fun x hx' => ?_, fun x hx' => ?_, by omega, by omega⟩
  · obtain ⟨m, hm, rfl⟩ := List.mem_map.1 hn'
    obtain ⟨i, h1, h2, rfl⟩ := hn m hm
    exact hx.node h1
  · show (partX exS h.graph k).nodes.map _ = ((partX exS h.graph k).nodes.map _).map _
    rw [List.map_map]
    refine List.map_congr_left fun n _ => ?_
    exact hx.val _
  · obtain ⟨m, hm, rfl⟩ := List.mem_map.1 hx'
    obtain ⟨i, h1, h2, rfl⟩ := he m hm
    obtain ⟨e1, e2⟩ := hp.ends _ hm
    rw [Int.toNat_natCast] at e1 e2 ⊢
    obtain ⟨q1, q2, q3⟩ := hx.edg h1
    obtain ⟨s1, s2⟩ := posL_at e1
    obtain ⟨d1, d2⟩ := posL_at e2
    have at_ : ∀ j : Nat, ∀ hj : j < (partX exS h.graph k).nodes.length, (extH h (partX exS h.graph k)).graph.nodes.getD j default = h.graph.nodes.getD ((partX exS h.graph k).nodes[j]).toNat default := fun j hj => by
      show ((partX exS h.graph k).nodes.map _).getD j default = _
      rw [List.getD_eq_getElem?_getD, List.getElem?_map, List.getElem?_eq_getElem hj]
      rfl
    refine ⟨q1, ⟨Int.natCast_nonneg _, by rw [ln]; exact Int.ofNat_lt.2 s1⟩, ⟨Int.natCast_nonneg _, by rw [ln]; exact Int.ofNat_lt.2 d1⟩, ?_, ?_⟩
    · dsimp only
      rw [Int.toNat_natCast, at_ _ s1, s2]
      exact q2
    · dsimp only
      rw [Int.toNat_natCast, at_ _ d1, d2]
      exact q3
  · obtain ⟨m, hm, rfl⟩ := List.mem_map.1 hx'
    obtain ⟨i, h1, h2, rfl⟩ := hn m hm
    rw [Int.toNat_natCast]
    exact h2
  · obtain ⟨m, hm, rfl⟩ := List.mem_map.1 hx'
    obtain ⟨i, h1, h2, rfl⟩ := he m hm
    dsimp only
    rw [Int.toNat_natCast]
    exact h2
theorem l_only {h : Host} (hx : ExH h) {k : Int} (hk : k ≠ 2) : f_scarfjointref52_Only exT exS h k = some (extH h (partX exS h.graph k)) := by
  refine Ok.eq ?_
  unfold f_scarfjointref52_Only
  refine ok_eq (r := partX exS h.graph k) (giv_t (okTr hx.validTr)) ?_
  refine ok_f (decide_eq_false hk) ?_
  refine ok_eq (l_ref15_Extract exFew.1 hx.few hx.validTr (partX_ok (vTr exFew.1 hx.validTr) hk)) ?_
  exact .mk rfl

/-! ### The parts of a pair -/
def upTo (n : Nat) : List Int := (List.range n).map Int.ofNat
def after (a n : Nat) : List Int := (List.range n).map fun i => ((a + i : Nat) : Int)
theorem pick_lt {p : Nat → Bool} (a b : Nat) (h : ∀ i, i < a + b → p i = decide (i < a)) : pick p (a + b) = upTo a := by
  rw [pick_congr h]
  unfold pick upTo
  rw [List.range_add, List.filter_append]
  have h1 : (List.range a).filter (fun i => decide (i < a)) = List.range a := List.filter_eq_self.2 fun i hi => decide_eq_true (List.mem_range.1 hi)
  have h2 : ((List.range b).map (a + ·)).filter (fun i => decide (i < a)) = [] := List.filter_eq_nil_iff.2 fun i hi => by
    obtain ⟨j, _, rfl⟩ := List.mem_map.1 hi
    simp
  rw [h1, h2, List.append_nil]
theorem pick_ge {p : Nat → Bool} (a b : Nat) (h : ∀ i, i < a + b → p i = decide (a ≤ i)) : pick p (a + b) = after a b := by
  rw [pick_congr h]
  unfold pick after
  rw [List.range_add, List.filter_append]
  have h1 : (List.range a).filter (fun i => decide (a ≤ i)) = [] := List.filter_eq_nil_iff.2 fun i hi => by
    have := List.mem_range.1 hi
    simp; omega
  have h2 : ((List.range b).map (a + ·)).filter (fun i => decide (a ≤ i)) = (List.range b).map (a + ·) := List.filter_eq_self.2 fun i hi => by
    obtain ⟨j, _, rfl⟩ := List.mem_map.1 hi
    simp
  rw [h1, h2, List.nil_append, List.map_map]
  rfl
theorem pick_all {p : Nat → Bool} {n : Nat} (h : ∀ i, i < n → p i = true) : pick p n = upTo n := by
  have := pick_lt (p := p) n 0 fun i hi => by rw [h i (by omega)]; exact (decide_eq_true (by omega)).symm
  rwa [Nat.add_zero] at this
theorem pick_none {p : Nat → Bool} {n : Nat} (h : ∀ i, i < n → p i = false) : pick p n = [] := by
  have := pick_lt (p := p) 0 n fun i hi => by rw [h i (by omega)]; exact (decide_eq_false (by omega)).symm
  rwa [Nat.zero_add] at this
theorem upTo_len (n : Nat) : (upTo n).length = n := by simp [upTo]
theorem after_len (a n : Nat) : (after a n).length = n := by simp [after]
theorem OneS.sortN {k : Int} {h : Host} (hx : OneS k h) {i : Nat} (hi : i < h.graph.nodes.length) : nodeS exS h.graph i = k := hx.n _ (getD_mem hi)
theorem OneS.sortE {k : Int} {h : Host} (hx : OneS k h) {i : Nat} (hi : i < h.graph.edges.length) : edgeS exS h.graph i = k := hx.e _ (getD_mem hi)
theorem OneS.only {k : Int} {h : Host} (hx : OneS k h) : onlyB exS h.graph k = true := by
  unfold onlyB partX
  rw [pick_all fun i hi => decide_eq_true (hx.sortN hi), pick_all fun i hi => decide_eq_true (hx.sortE hi)]
  dsimp only
  rw [upTo_len, upTo_len]
  simp

section
variable {a b : Host}
theorem pair_nl (ha : OneS 1 a) {i : Nat} (hi : i < a.graph.nodes.length) : (pairH a b).graph.nodes.getD i default = a.graph.nodes.getD i default := by
  show (a.graph.nodes ++ b.graph.nodes).getD i default = _
  rw [List.getD_eq_getElem?_getD, List.getElem?_append_left hi, List.getD_eq_getElem?_getD]
theorem pair_nr (i : Nat) : (pairH a b).graph.nodes.getD (a.graph.nodes.length + i) default = b.graph.nodes.getD i default := by
  show (a.graph.nodes ++ b.graph.nodes).getD _ default = _
  rw [List.getD_eq_getElem?_getD, List.getElem?_append_right (by omega), List.getD_eq_getElem?_getD, Nat.add_sub_cancel_left]
theorem pair_el {i : Nat} (hi : i < a.graph.edges.length) : (pairH a b).graph.edges.getD i default = a.graph.edges.getD i default := by
  show (a.graph.edges ++ _).getD i default = _
  rw [List.getD_eq_getElem?_getD, List.getElem?_append_left hi, List.getD_eq_getElem?_getD]
theorem pair_er {i : Nat} (hi : i < b.graph.edges.length) : (pairH a b).graph.edges.getD (a.graph.edges.length + i) default = shiftE a.graph.nodes.length (b.graph.edges.getD i default) := by
  show (a.graph.edges ++ _).getD _ default = _
  rw [List.getD_eq_getElem?_getD, List.getElem?_append_right (by omega), Nat.add_sub_cancel_left, List.getElem?_map, List.getD_eq_getElem?_getD, List.getElem?_eq_getElem hi]
  rfl
theorem pair_nlen : (pairH a b).graph.nodes.length = a.graph.nodes.length + b.graph.nodes.length := List.length_append ..
theorem pair_elen : (pairH a b).graph.edges.length = a.graph.edges.length + b.graph.edges.length := by
  show (a.graph.edges ++ _).length = _
  rw [List.length_append, List.length_map]
theorem pair_sortN (ha : OneS 1 a) (hb : OneS 3 b) {i : Nat} (hi : i < a.graph.nodes.length + b.graph.nodes.length) : nodeS exS (pairH a b).graph i = if i < a.graph.nodes.length then 1 else 3 := by
  unfold nodeS
  split
  · rename_i h
    rw [pair_nl ha h]
    exact ha.sortN h
  · rename_i h
    obtain ⟨j, rfl⟩ : ∃ j, i = a.graph.nodes.length + j := ⟨i - a.graph.nodes.length, by omega⟩
    rw [pair_nr]
    exact hb.sortN (by omega)
theorem pair_sortE (ha : OneS 1 a) (hb : OneS 3 b) {i : Nat} (hi : i < a.graph.edges.length + b.graph.edges.length) : edgeS exS (pairH a b).graph i = if i < a.graph.edges.length then 1 else 3 := by
  unfold edgeS
  split
  · rename_i h
    rw [pair_el h]
    exact ha.sortE h
  · rename_i h
    obtain ⟨j, rfl⟩ : ∃ j, i = a.graph.edges.length + j := ⟨i - a.graph.edges.length, by omega⟩
    rw [pair_er (by omega)]
    exact hb.sortE (by omega)
theorem pair_part1 (ha : OneS 1 a) (hb : OneS 3 b) : partX exS (pairH a b).graph 1 = ⟨upTo a.graph.nodes.length, upTo a.graph.edges.length⟩ := by
  unfold partX
  rw [pair_nlen, pair_elen, pick_lt, pick_lt]
  · intro i hi
    rw [pair_sortE ha hb hi]
    split <;> rename_i h
    · rw [decide_eq_true h]; rfl
    · rw [decide_eq_false h]; rfl
  · intro i hi
    rw [pair_sortN ha hb hi]
    split <;> rename_i h
    · rw [decide_eq_true h]; rfl
    · rw [decide_eq_false h]; rfl
theorem pair_part3 (ha : OneS 1 a) (hb : OneS 3 b) : partX exS (pairH a b).graph 3 = ⟨after a.graph.nodes.length b.graph.nodes.length, after a.graph.edges.length b.graph.edges.length⟩ := by
  unfold partX
  rw [pair_nlen, pair_elen, pick_ge, pick_ge]
  · intro i hi
    rw [pair_sortE ha hb hi]
    split <;> rename_i h
    · rw [decide_eq_false (by omega : ¬ a.graph.edges.length ≤ i)]; rfl
    · rw [decide_eq_true (by omega : a.graph.edges.length ≤ i)]; rfl
  · intro i hi
    rw [pair_sortN ha hb hi]
    split <;> rename_i h
    · rw [decide_eq_false (by omega : ¬ a.graph.nodes.length ≤ i)]; rfl
    · rw [decide_eq_true (by omega : a.graph.nodes.length ≤ i)]; rfl
theorem pair_part2 (ha : OneS 1 a) (hb : OneS 3 b) : (partX exS (pairH a b).graph 2).nodes = [] := by
  unfold partX
  dsimp only
  rw [pair_nlen]
  refine pick_none fun i hi => ?_
  rw [pair_sortN ha hb hi]
  split <;> rfl
theorem pair_ex (ha : OneS 1 a) (hb : OneS 3 b) : ExH (pairH a b) := by
  have l1 := ha.n8
  have l2 := hb.n8
  have l3 := ha.e10
  have l4 := hb.e10
  refine ⟨by rw [pair_nlen]; omega, by rw [pair_elen]; omega, fun n hn => ?_, ?_, fun x hx => ?_⟩
  · rcases List.mem_append.1 hn with h | h
    · exact ha.ex.kind n h
    · exact hb.ex.kind n h
  · show a.values ++ b.values = (a.graph.nodes ++ b.graph.nodes).map _
    rw [ha.ex.vals, hb.ex.vals, List.map_append]
  · rw [pair_nlen]
    rcases List.mem_append.1 hx with h | h
    · obtain ⟨q1, q2, q3, q4, q5⟩ := ha.ex.edge x h
      refine ⟨q1, by omega, by omega, ?_, ?_⟩
      · rw [pair_nl ha (by omega)]; exact q4
      · rw [pair_nl ha (by omega)]; exact q5
    · obtain ⟨y, hy, rfl⟩ := List.mem_map.1 h
      obtain ⟨q1, q2, q3, q4, q5⟩ := hb.ex.edge y hy
      refine ⟨q1, by show 0 ≤ y.src + _ ∧ y.src + _ < _; omega, by show 0 ≤ y.dst + _ ∧ y.dst + _ < _; omega, ?_, ?_⟩
      · have e : (shiftE a.graph.nodes.length y).src.toNat = a.graph.nodes.length + y.src.toNat := by show (y.src + _).toNat = _; omega
        rw [e, pair_nr]; exact q4
      · have e : (shiftE a.graph.nodes.length y).dst.toNat = a.graph.nodes.length + y.dst.toNat := by show (y.dst + _).toNat = _; omega
        rw [e, pair_nr]; exact q5
theorem posL_upTo {n : Nat} {x : Int} (h : 0 ≤ x ∧ x < n) : ((posL (upTo n) x : Nat) : Int) = x := by
  have hA : Asc (upTo n) n := by
    have := pick_asc (fun _ => true) n
    rwa [pick_all fun _ _ => rfl] at this
  have hl : x.toNat < (upTo n).length := by rw [upTo_len]; omega
  rw [hA.pos (i := x.toNat) hl (by simp [upTo]; omega)]
  omega
theorem posL_after {a n : Nat} {x : Int} (h : 0 ≤ x ∧ x < n) : ((posL (after a n) (x + a) : Nat) : Int) = x := by
  have hA : Asc (after a n) (a + n) := by
    have := pick_asc (fun i => decide (a ≤ i)) (a + n)
    rwa [pick_ge a n fun _ _ => rfl] at this
  have hl : x.toNat < (after a n).length := by rw [after_len]; omega
  rw [hA.pos (i := x.toNat) hl (by simp [after]; omega)]
  omega
theorem pair_side1 (ha : OneS 1 a) (hb : OneS 3 b) : extH (pairH a b) ⟨upTo a.graph.nodes.length, upTo a.graph.edges.length⟩ = a := by
  have hP := pair_ex ha hb
  obtain ⟨⟨an, ae⟩, av⟩ := a
  unfold extH extG
  congr 1
  · congr 1
    · apply List.ext_getElem
      · simp [upTo]
      · intro i h1 h2
        have := pair_nl (b := b) ha h2
        simp only [List.getElem_map, upTo, List.getElem_range] at this ⊢
        rw [show (Int.ofNat i).toNat = i from rfl, this, List.getD_eq_getElem?_getD, List.getElem?_eq_getElem h2]
        rfl
    · apply List.ext_getElem
      · simp [upTo]
      · intro i h1 h2
        have := pair_el (b := b) (a := ⟨⟨an, ae⟩, av⟩) h2
        obtain ⟨q1, q2, q3, _⟩ := ha.ex.edge _ (List.getElem_mem h2)
        simp only [List.getElem_map]
        have e : (upTo ae.length)[i]'(by rw [upTo_len]; exact h2) = (i : Int) := by simp [upTo]
        rw [e, Int.toNat_natCast, this, List.getD_eq_getElem?_getD, List.getElem?_eq_getElem h2]
        dsimp only [Option.getD_some]
        rw [posL_upTo q2, posL_upTo q3]
  · have hv := ha.ex.vals
    dsimp only at hv ⊢
    refine Eq.trans ?_ hv.symm
    apply List.ext_getElem
    · simp [upTo]
    · intro i h1 h2
      rw [List.getElem_map, List.getElem_map]
      exact hP.val _
theorem pair_side3 (ha : OneS 1 a) (hb : OneS 3 b) : extH (pairH a b) ⟨after a.graph.nodes.length b.graph.nodes.length, after a.graph.edges.length b.graph.edges.length⟩ = b := by
  have hP := pair_ex ha hb
  obtain ⟨⟨bn, be⟩, bv⟩ := b
  unfold extH extG
  congr 1
  · congr 1
    · apply List.ext_getElem
      · simp [after]
      · intro i h1 h2
        have := pair_nr (a := a) (b := ⟨⟨bn, be⟩, bv⟩) i
        have e : (after a.graph.nodes.length bn.length)[i]'(by rw [after_len]; exact h2) = ((a.graph.nodes.length + i : Nat) : Int) := by simp [after]
        simp only [List.getElem_map]
        rw [e, Int.toNat_natCast, this, List.getD_eq_getElem?_getD, List.getElem?_eq_getElem h2]
        rfl
    · apply List.ext_getElem
      · simp [after]
      · intro i h1 h2
        have := pair_er (a := a) (b := ⟨⟨bn, be⟩, bv⟩) h2
        obtain ⟨q1, q2, q3, _⟩ := hb.ex.edge _ (List.getElem_mem h2)
        simp only [List.getElem_map]
        have e : (after a.graph.edges.length be.length)[i]'(by rw [after_len]; exact h2) = ((a.graph.edges.length + i : Nat) : Int) := by simp [after]
        rw [e, Int.toNat_natCast, this, List.getD_eq_getElem?_getD, List.getElem?_eq_getElem h2]
        dsimp only [Option.getD_some, shiftE]
        rw [posL_after q2, posL_after q3]
  · have hv := hb.ex.vals
    dsimp only at hv ⊢
    refine Eq.trans ?_ hv.symm
    apply List.ext_getElem
    · simp [after]
    · intro i h1 h2
      rw [List.getElem_map, List.getElem_map]
      exact hP.val _
theorem pair_links (ha : OneS 1 a) (hb : OneS 3 b) : linksE exT exS (pairH a b) = ([], 0) := by
  have hP := pair_ex ha hb
  unfold linksE
  rw [if_neg (by rw [hP.validTr]; decide)]
  unfold linksR
  rw [pair_part2 ha hb]
  have : ∀ (S T : List Int), linksL (pairH a b).graph S [] T = [] := fun S T => by
    unfold linksL
    rw [List.flatMap_eq_nil_iff]
    intro x _
    unfold linkR
    have : T.filter (linkB (pairH a b).graph [] x) = [] := List.filter_eq_nil_iff.2 fun y _ => by simp [linkB]
    rw [this]
    rfl
  rw [this]
theorem pair_x (ha : OneS 1 a) (hb : OneS 3 b) : pairX exT exS a b = (pairH a b, 0) := by
  have l1 := ha.n8
  have l2 := hb.n8
  have l3 := ha.e10
  have l4 := hb.e10
  unfold pairX
  rw [if_neg (by rw [ha.ex.validTr]; decide), if_neg (by rw [hb.ex.validTr]; decide), if_neg (by rw [ha.only, hb.only]; decide), if_neg (by omega)]
end

theorem ex_small {h : Host} (hx : ExH h) : (h.graph.nodes.length ≤ 1000000 ∧ h.graph.edges.length ≤ 1000000) ∧ h.values.length ≤ 1000000 ∧ ∀ l ∈ h.values, l.length ≤ 1000000 := by
  have h1 := hx.few.graph.nodes
  have h2 := hx.few.graph.edges
  have h3 := hx.few.values
  exact ⟨⟨by omega, by omega⟩, by omega, fun l hl => by have := hx.few.row l hl; omega⟩
theorem okDraft {d : T_scarfjointref15_Draft} (hd : G64 d) : OkDraft d := ⟨fun x hx => by have := hd.1.1 x hx; exact ⟨this.1, this.2.1⟩, fun x hx => by have := hd.2.1.1 x hx; exact ⟨this.1, this.2.1, this.2.2.1⟩⟩
theorem l_TripleSides (d e : T_scarfjointref15_Draft) (hd : G64 d) (he : G64 e) : f_scarfjointlaw52_TripleSides d e = some true := by
  refine Ok.eq ?_
  unfold f_scarfjointlaw52_TripleSides
  refine ok_eq (r := true) rfl ?_
  refine ok_t rfl ?_
  refine ok_eq (r := (exT, exS)) rfl ?_
  refine ok_thn (made_ok d (okDraft hd)) fun h hx => ?_
  refine ok_eq (l_only hx.1 (by decide)) ?_
  refine ok_thn (made_ok e (okDraft he)) fun g gx => ?_
  refine ok_eq (l_only gx.1 (by decide)) ?_
  have ha := hx.1.one hx.2.1 hx.2.2 (k := 1) (by decide)
  have hb := gx.1.one gx.2.1 gx.2.2 (k := 3) (by decide)
  generalize extH h (partX exS h.graph 1) = a at ha ⊢
  generalize extH g (partX exS g.graph 3) = b at hb ⊢
  have hP := pair_ex ha hb
  have hf := exFew.1
  have hs := exFew.2.1
  refine ok_eq (r := (pairH a b, 0)) ((l_triple_Pair hf hs ha.ex.few hb.ex.few).trans (congrArg some (pair_x ha hb))) ?_
  have s1 : sideX exT exS (pairH a b) 1 = (a, ⟨upTo a.graph.nodes.length, upTo a.graph.edges.length⟩, 0) := by
    unfold sideX
    rw [if_neg (by rw [hP.validTr]; decide), if_pos (.inl rfl), pair_part1 ha hb, pair_side1 ha hb]
  have s3 : sideX exT exS (pairH a b) 3 = (b, ⟨after a.graph.nodes.length b.graph.nodes.length, after a.graph.edges.length b.graph.edges.length⟩, 0) := by
    unfold sideX
    rw [if_neg (by rw [hP.validTr]; decide), if_pos (.inr rfl), pair_part3 ha hb, pair_side3 ha hb]
  refine ok_eq ((l_triple_Side hf hs hP.few 1).trans (congrArg some s1)) ?_
  refine ok_eq ((l_triple_Side hf hs hP.few 3).trans (congrArg some s3)) ?_
  refine ok_eq (r := ([], 0)) ((giv_t ⟨hf, hs, hP.few⟩).trans (congrArg some (pair_links ha hb))) ?_
  refine ok_t rfl ?_
  refine ok_t rfl ?_
  refine ok_t rfl ?_
  refine ok_t rfl ?_
  obtain ⟨q1, q2, q3⟩ := ex_small ha.ex
  refine ok_eq (l_sameH q1 q2 q3) ?_
  refine ok_t rfl ?_
  obtain ⟨q1, q2, q3⟩ := ex_small hb.ex
  refine ok_eq (l_sameH q1 q2 q3) ?_
  exact ok_t rfl (.mk rfl)
theorem tripleSides_holds : Rows.TripleSidesSaid := lift_TripleSides fun d e h k => l_TripleSides d e h k
#print axioms tripleSides_holds
end Go.Proofs.YtdlohnchnneaeaaGreat
