/- Joined texts, part 5: lemmas for the statement. No condition. -/
import Derived.Test.YtdlohnchnneaeaaGreatJ4
import Derived.Shelf.Spec.SlicesGrow
import Derived.Test.YtdlohnchnneaeaaGreatJ1
import Derived.Ground.Names8Prog
import Derived.Test.YtdlohnchnneaeaaGreatProg
import Derived.Test.YtdlohnchnneaeaaGreatJ3
set_option linter.unusedSimpArgs false
set_option linter.unusedVariables false
open Nat (reduceEqDiff reduceLT reduceLeDiff reduceMul reduceAdd reduceSub)
/- What a printed function answers. Program-independent. -/
namespace Go.Abs

def Ok {α : Type} (x : Option α) (Q : α → Prop) : Prop := ∃ r, x = some r ∧ Q r
section
variable {α β σ O : Type} {Q : O → Prop}
theorem Ok.mk {r : O} (h : Q r) : Ok (some r) Q := ⟨r, rfl, h⟩
theorem Ok.eq {x : Option α} {r : α} (h : Ok x (fun y => y = r)) : x = some r := by obtain ⟨y, h1, rfl⟩ := h; exact h1
theorem Ok.of {x : Option α} {r : α} (h : x = some r) : Ok x (fun y => y = r) := ⟨r, h, rfl⟩
theorem Ok.mono {x : Option O} {Q' : O → Prop} (h : Ok x Q) (hq : ∀ r, Q r → Q' r) : Ok x Q' := by obtain ⟨r, h1, h2⟩ := h; exact ⟨r, h1, hq r h2⟩
theorem ok_chk {p : Prop} [Decidable p] {x : Option O} (hp : p) (h : Ok x Q) : Ok (chk p x) Q := by unfold chk; rw [if_pos hp]; exact h
theorem ok_cond {b : Bool} {x y : Option O} (h1 : b = true → Ok x Q) (h2 : b = false → Ok y Q) : Ok (cond b x y) Q := by
  cases b
  · exact h2 rfl
  · exact h1 rfl
theorem ok_t {b : Bool} {x y : Option O} (hb : b = true) (h1 : Ok x Q) : Ok (cond b x y) Q := by subst hb; exact h1
theorem ok_f {b : Bool} {x y : Option O} (hb : b = false) (h1 : Ok y Q) : Ok (cond b x y) Q := by subst hb; exact h1
theorem ok_thn {x : Option α} {k : α → Option O} {R : α → Prop} (h : Ok x R) (hk : ∀ r, R r → Ok (k r) Q) : Ok (thn x k) Q := by
  obtain ⟨r, rfl, h2⟩ := h
  exact hk r h2
theorem ok_eq {x : Option α} {k : α → Option O} {r : α} (h : x = some r) (hk : Ok (k r) Q) : Ok (thn x k) Q := by subst h; exact hk
theorem ok_at {l : List α} {k : α → Option O} {i : Nat} (hi : i < l.length) (h : Ok (k l[i]) Q) : Ok (thn l[i]? k) Q := ok_eq (List.getElem?_eq_getElem hi) h
theorem ok_atZ {l : List α} {k : α → Option O} {i : Int} (h0 : 0 ≤ i) (hi : i.toNat < l.length) (h : Ok (k l[i.toNat]) Q) : Ok (thn (atZ l i) k) Q :=
  ok_eq (by unfold atZ; rw [if_pos h0]; exact List.getElem?_eq_getElem hi) h
theorem ok_forN {f : Nat → σ → (σ → Option O) → (σ → Option O) → Option O} {K : σ → Option O} (φ : Nat → σ → Prop) {n i : Nat} {s : σ} (hi : i ≤ n) (h0 : φ i s)
    (hr : ∀ j s (nxt : σ → Option O), i ≤ j → j < n → φ j s → (∀ s', φ (j + 1) s' → Ok (nxt s') Q) → Ok (f j s nxt K) Q) (he : ∀ s, φ n s → Ok (K s) Q) : Ok (forN f (n - i) i s K) Q := by
  have key : ∀ k j s, j + k = n → i ≤ j → φ j s → Ok (forN f k j s K) Q := by
    intro k
    induction k with
    | zero => intro j s hj _ h; have : j = n := by omega
              subst this; exact he s h
    | succ k ih => intro j s hj hij h; exact hr j s _ hij (by omega) h fun s' h' => ih (j + 1) s' (by omega) (by omega) h'
  exact key (n - i) i s (by omega) (Nat.le_refl _) h0
theorem ok_iter {f : σ → (σ → Option O) → (σ → Option O) → Option O} {K : σ → Option O} (φ : σ → Prop) (μ : σ → Nat) {n : Nat} {s : σ} (h0 : φ s) (hm : μ s < n)
    (hr : ∀ s (nxt : σ → Option O), φ s → (∀ s', φ s' → μ s' < μ s → Ok (nxt s') Q) → Ok (f s nxt K) Q) : Ok (iter f n s K) Q := by
  have key : ∀ n s, φ s → μ s < n → Ok (iter f n s K) Q := by
    intro n
    induction n with
    | zero => intro s _ h; omega
    | succ n ih => intro s h hm; exact hr s _ h fun s' h' hlt => ih s' h' (by omega)
  exact key n s h0 hm
theorem wrapI {n : Int} (h : -9223372036854775808 ≤ n ∧ n ≤ 9223372036854775807) : IntKind.i64.wrap n = n := IntWalk.i64_in n (by omega)
end
theorem giv_t {α : Type} {p : Prop} {x : α} (h : p) : giv p x = some x := by unfold giv; rw [if_pos h]
theorem ok_map {α β O : Type} {Q : O → Prop} {f : Nat → List β → (List β → Option O) → (List β → Option O) → Option O} {K : List β → Option O} (l : List α) (g : α → β)
    (hr : ∀ j (s : List β) (nxt : List β → Option O) (hj : j < l.length), s.length = j → Ok (nxt (s ++ [g l[j]])) Q → Ok (f j s nxt K) Q) (he : Ok (K (l.map g)) Q) : Ok (forN f (l.length - 0) 0 [] K) Q := by
  refine ok_forN (fun j s => j ≤ l.length ∧ s = (l.take j).map g) (Nat.zero_le _) ⟨Nat.zero_le _, rfl⟩ ?_ ?_
  · rintro j s nxt _ hj ⟨_, rfl⟩ hn
    refine hr j _ nxt hj (by simp; omega) (hn _ ⟨hj, ?_⟩)
    rw [List.take_add_one, List.getElem?_eq_getElem hj, Option.toList_some, List.map_append]
    rfl
  · rintro s ⟨_, rfl⟩
    rw [List.take_length]
    exact he
end Go.Abs
/- A row that a drawn region puts into a list becomes immutable ahead of the region. Program-independent. -/
namespace Go.Abs
open Go.RowKit

variable {P : Program} {N : Nat} {own : List Nat}
def updL (x : AV) : List Nat → Env → Env
  | [], env => env
  | t :: r, env => updL x r (putA env (some t) x)
theorem updL_nil (x : AV) (env : Env) : updL x [] env = env := rfl
theorem updL_cons (x : AV) (t : Nat) (r : List Nat) (env : Env) : updL x (t :: r) env = updL x r (putA env (some t) x) := rfl
def holds (env : Env) (id v : Nat) : List Nat → Prop
  | [] => True
  | t :: r => env t = .row id v ∧ holds env id v r
theorem holds_nil (env : Env) (id v : Nat) : holds env id v [] = True := rfl
theorem holds_cons (env : Env) (id v t : Nat) (r : List Nat) : holds env id v (t :: r) = (env t = .row id v ∧ holds env id v r) := rfl

theorem simUnrow {C : Ctx} {env : Env} {H : AHeap} {I : Mem} {L : LocMap} {tm : Array Value} {w : World} {id v t : Nat} {es : List (List PV)} (hs : Sim C env H I L tm w) (hH : H id = some (.shut v es)) (ht : env t = .row id v) :
    Sim C (putA env (some t) (.p (.lst es))) H I L tm w := by
  refine { hs with env := fun i => ?_ }
  unfold putA
  simp only
  unfold upd
  split
  · rename_i hi
    subst hi
    have h1 := hs.env i
    rw [ht] at h1
    generalize tm.getD i undef = u at h1 ⊢
    obtain ⟨hdr, sz, g1, g2, _⟩ := hs.chunk id _ hH
    cases h1 with
    | row _ _ _ v' hdr' sz' hl hle h h1 =>
      rw [g1] at hl
      simp only [Option.some.injEq, Loc.row.injEq] at hl
      obtain ⟨rfl, rfl, rfl⟩ := hl
      rw [h rfl]
      exact .p _ _ g2
  · exact hs.env i
theorem simUnrowL {C : Ctx} {H : AHeap} {I : Mem} {L : LocMap} {tm : Array Value} {w : World} {id v : Nat} {es : List (List PV)} (hH : H id = some (.shut v es)) : ∀ (ts : List Nat) (env : Env), ts.Nodup → Sim C env H I L tm w → holds env id v ts →
    Sim C (updL (.p (.lst es)) ts env) H I L tm w
  | [], env, _, hs, _ => hs
  | t :: r, env, hn, hs, ht => by
    rw [List.nodup_cons] at hn
    refine simUnrowL hH r _ hn.2 (simUnrow hs hH ht.1) ?_
    have : ∀ r : List Nat, t ∉ r → holds env id v r → holds (putA env (some t) (.p (.lst es))) id v r := by
      intro r
      induction r with
      | nil => intro _ _; exact trivial
      | cons u r ih =>
        intro hn hh
        refine ⟨?_, ih (fun h => hn (List.mem_cons_of_mem _ h)) hh.2⟩
        rw [← hh.1]
        unfold putA
        simp only
        unfold upd
        rw [if_neg]
        intro e
        exact hn (by rw [e]; exact List.mem_cons_self)
    exact this r hn.1 ht.2
theorem draw_seal {ops : Array Oper} {K : Env → AHeap → Prop} {env : Env} {H : AHeap} (id v : Nat) (e : TypeId) (sz : Nat) (es : List (List PV)) (ts : List Nat) (hH : H id = some (.row v e sz es)) (ht : holds env id v ts) (hn : ts.Nodup)
    (hw : drawW P N own ops K (updL (.p (.lst es)) ts env) (hset H id (.shut v es))) : drawW P N own ops K env H := by
  intro C I L tm w hN hs
  have h1 := Fr.shut C I L w hH env tm hs
  exact hw C _ L tm w hN (simUnrowL (by simp [hset]) ts _ hn h1 ht)
theorem toNat_lt {i : Int} {n : Nat} (h : 0 ≤ i) (k : i < (n : Int)) : i.toNat < n := by omega
def nnewN (own : List Nat) (ops : Array Oper) (id : Nat) : Nat → Prop
  | 0 => True
  | n + 1 => newsB own ops id = false ∧ nnewN own ops (id + 1) n
variable {ops : Array Oper}
theorem nnewN_zero (id : Nat) : nnewN own ops id 0 = True := rfl
theorem nnewN_one (id : Nat) : nnewN own ops id 1 = (newsB own ops id = false ∧ True) := rfl
theorem nnewN_two (id : Nat) : nnewN own ops id 2 = (newsB own ops id = false ∧ newsB own ops (id + 1) = false ∧ True) := rfl
theorem nnewN_three (id : Nat) : nnewN own ops id 3 = (newsB own ops id = false ∧ newsB own ops (id + 1) = false ∧ newsB own ops (id + 1 + 1) = false ∧ True) := rfl
theorem nnewN_four (id : Nat) : nnewN own ops id 4 = (newsB own ops id = false ∧ newsB own ops (id + 1) = false ∧ newsB own ops (id + 1 + 1) = false ∧ newsB own ops (id + 1 + 1 + 1) = false ∧ True) := rfl
theorem nnewN_spec : ∀ (n id : Nat), nnewN own ops id n → ∀ i, id ≤ i → i < id + n → newsB own ops i = false
  | 0, id, _, i, h1, h2 => by omega
  | n + 1, id, h, i, h1, h2 => by
    rcases Nat.lt_or_ge id i with h' | h'
    · exact nnewN_spec n (id + 1) h.2 i (by omega) (by omega)
    · have : i = id := by omega
      subst this
      exact h.1
theorem calldfG {env : Env} {H : AHeap} {o : Oper} {W : Env → AHeap → Prop} {k : FuncId} {ps ps' : List PV} {b : Bool} (id : Nat) {r : RV} (c : CallF P k ps fun x => x = r) (he : callPs o (ev env) (hidH own ops H) = some (k, ps', b)) (hp : pleL ps' ps) (hb : b = true → r.flat = true)
    (hf : freeN H id ((placeA id r).2 - id)) (hn : nnewN own ops id ((placeA id r).2 - id)) (hW : W (putA env o.dst (placeA id r).1) (placeH id H r)) : callFD P own ops o W env H := by
  have c' : CallF P k ps' fun x => x = r := c.args (pleL_ok _ _ hp)
  have hle := place_le r id
  unfold callPs at he
  cases ha : callArgs o (ev env) with
  | none => rw [ha] at he; cases he
  | some q =>
    obtain ⟨k', als⟩ := q
    rw [ha] at he
    simp only [] at he
    cases hl : lendL (lend1 (hidH own ops H)) als with
    | none => rw [hl] at he; cases he
    | some q =>
      obtain ⟨qs, b'⟩ := q
      rw [hl] at he
      simp only [Option.some.injEq, Prod.mk.injEq] at he
      obtain ⟨rfl, rfl, rfl⟩ := he
      exact ⟨_, _, ⟨_, als, _, _, r, id, ha, hl, c', hb, fun i h1 h2 => ⟨freeN_spec _ id hf i h1 (by omega), nnewN_spec _ id hn i h1 (by omega)⟩, rfl, rfl⟩, hW⟩
attribute [go_sem] nnewN_zero nnewN_one nnewN_two nnewN_three nnewN_four
attribute [go_sem] updL_nil updL_cons holds_nil holds_cons
end Go.Abs
/- Contracts proved by hand, in the form of the printed ones. -/
namespace Go.Proofs.YtdlohnchnneaeaaGreat
open Go.Abs

noncomputable def f_scarfjointref04_Valid (t : Types) : Option (ByteArray × Int) := giv (FewT t) (validT t)
theorem w_scarfjointref04_Valid (t : Types) (r : ByteArray × Int) (h : f_scarfjointref04_Valid t = some r) : CallV Go.Proofs.Tryz.prog 67 [encTypes t] (fun v => v = .tup [.val (.string r.1), .val (.int .i64 r.2)]) := by
  obtain ⟨h1, rfl⟩ := giv_s h
  exact rvalid_ok t h1
noncomputable def f_graph_Valid (g : Graph) : Option Int := giv (FewG g) (validG g)
theorem w_graph_Valid (g : Graph) (r : Int) (h : f_graph_Valid g = some r) : CallV Go.Proofs.Tryz.prog 75 [encGraph g] (fun v => v = .val (.int .i64 r)) := by
  obtain ⟨h1, rfl⟩ := giv_s h
  exact gvalid_ok g h1
noncomputable def f_scarfjointref05_Valid (g : Graph) : Option Int := giv (FewG g) (validG g)
theorem w_scarfjointref05_Valid (g : Graph) (r : Int) (h : f_scarfjointref05_Valid g = some r) : CallV Go.Proofs.Tryz.prog 78 [encGraph g] (fun v => v = .val (.int .i64 r)) := by
  obtain ⟨h1, rfl⟩ := giv_s h
  exact rgvalid_ok g h1
noncomputable def f_host_Valid (t : Types) (h : Host) : Option (Int × Int) := giv (FewT t ∧ FewH h) (validH t h)
theorem w_host_Valid (t : Types) (h : Host) (r : Int × Int) (hr : f_host_Valid t h = some r) : CallV Go.Proofs.Tryz.prog 54 [encTypes t, encHost h] (fun v => v = .tup [.val (.int .i64 r.1), .val (.int .i64 r.2)]) := by
  obtain ⟨⟨h1, h2⟩, rfl⟩ := giv_s hr
  exact hvalid_ok t h1 h h2
noncomputable def f_scarfjointref15_Valid (t : Types) (h : Host) : Option (Int × Int) := giv (FewT t ∧ FewH h) (validH t h)
theorem w_scarfjointref15_Valid (t : Types) (h : Host) (r : Int × Int) (hr : f_scarfjointref15_Valid t h = some r) : CallV Go.Proofs.Tryz.prog 55 [encTypes t, encHost h] (fun v => v = .tup [.val (.int .i64 r.1), .val (.int .i64 r.2)]) := by
  obtain ⟨⟨h1, h2⟩, rfl⟩ := giv_s hr
  exact rhvalid_ok t h1 h h2
noncomputable def f_triple_Valid (t : Types) (s : Sorts) (h : Host) : Option Int := giv (FewT t ∧ FewS s ∧ FewH h) (validTr t s h)
theorem w_triple_Valid (t : Types) (s : Sorts) (h : Host) (r : Int) (hr : f_triple_Valid t s h = some r) : CallV Go.Proofs.Tryz.prog 22 [encTypes t, encSorts s, encHost h] (fun v => v = .val (.int .i64 r)) := by
  obtain ⟨⟨h1, h2, h3⟩, rfl⟩ := giv_s hr
  exact trvalid_ok t h1 s h2 h h3
noncomputable def f_triple_Swap (t : Types) (s : Sorts) : Option (Sorts × Int) := giv (FewT t ∧ FewS s) (swapX t s)
theorem w_triple_Swap (t : Types) (s : Sorts) (r : Sorts × Int) (hr : f_triple_Swap t s = some r) : CallV Go.Proofs.Tryz.prog 14 [encTypes t, encSorts s] (fun v => v = .tup [.agg [.lst (r.1.nodes.map encI), .lst (r.1.edges.map encI)], .val (.int .i64 r.2)]) := by
  obtain ⟨⟨h1, h2⟩, rfl⟩ := giv_s hr
  exact swap_ok t h1 s h2
noncomputable def f_triple_Links (t : Types) (s : Sorts) (h : Host) : Option (List GPair × Int) := giv (FewT t ∧ FewS s ∧ FewH h) (linksE t s h)
theorem w_triple_Links (t : Types) (s : Sorts) (h : Host) (r : List GPair × Int) (hr : f_triple_Links t s h = some r) : CallV Go.Proofs.Tryz.prog 11 [encTypes t, encSorts s, encHost h] (fun v => v = .tup [.lst (r.1.map encPair), .val (.int .i64 r.2)]) := by
  obtain ⟨⟨h1, h2, h3⟩, rfl⟩ := giv_s hr
  exact Links_ok t h1 s h2 h h3
noncomputable def f_scarfjointref52_Part (s : Sorts) (g : Graph) (k : Int) : Option Part := giv (OkTr s g) (partX s g k)
theorem w_scarfjointref52_Part (s : Sorts) (g : Graph) (k : Int) (r : Part) (hr : f_scarfjointref52_Part s g k = some r) : CallV Go.Proofs.Tryz.prog 35 [encSorts s, encGraph g, .val (.int .i64 k)] (fun v => v = .agg [.lst (r.nodes.map encI), .lst (r.edges.map encI)]) := by
  obtain ⟨h1, rfl⟩ := giv_s hr
  exact Part_ok s g h1 k
noncomputable def f_slices_Clone_int (l : List Int) : Option (List Int) := giv (l.length ≤ 1000000) l
theorem w_slices_Clone_int (l : List Int) (r : List Int) (h : f_slices_Clone_int l = some r) : CallF Go.Proofs.Tryz.prog 46 [.lst (l.map encI)] (fun v => v = .row 3 1 (r.map encI)) := by
  obtain ⟨h1, rfl⟩ := giv_s h
  exact clone_int l h1
noncomputable def f_slices_Clone_Edge (l : List Edge) : Option (List Edge) := giv (l.length ≤ 1000000) l
theorem w_slices_Clone_Edge (l : List Edge) (r : List Edge) (h : f_slices_Clone_Edge l = some r) : CallF Go.Proofs.Tryz.prog 44 [.lst (l.map encEdge)] (fun v => v = .row 73 3 (r.map encEdge)) := by
  obtain ⟨h1, rfl⟩ := giv_s h
  exact clone_edge l h1
def f_scarfjointlaw52_awake : Option Bool := some true
theorem w_scarfjointlaw52_awake (r : Bool) (h : f_scarfjointlaw52_awake = some r) : CallV Go.Proofs.Tryz.prog 9 [] (fun v => v = .val (.bool r)) := by
  cases h
  exact awake_ok
def f_scarfjointref52_Example : Option (Types × Sorts) := some (exT, exS)
theorem w_scarfjointref52_Example (r : Types × Sorts) (h : f_scarfjointref52_Example = some r) : CallV Go.Proofs.Tryz.prog 25 [] (fun v => v = .tup [.agg [.lst (r.1.nodes.map encNode), .lst (r.1.edges.map encEdgeT)], .agg [.lst (r.2.nodes.map encI), .lst (r.2.edges.map encI)]]) := by
  cases h
  exact Example_ok
end Go.Proofs.YtdlohnchnneaeaaGreat
/- slices.Grow of nil, by the kit's contract: a new row with nothing in it. Program-independent. -/
namespace Go.Abs
open Go.RowKit Go.Shelf Go.Proofs
variable {P : Program} {ρ : Ren}

theorem callF_grow (L : Lays8.n4 P ρ) (hc : callable P (ρ.f 4) = true) (i0 : TypeInfo) (z : Value) (hi0 : P.info? (ρ.t 25) = some i0) (hz0 : i0.zero = some z) (hs0 : 0 < i0.size) (hzs : z.cells.size = i0.size)
    (n : Nat) (hbig : n * i0.bytes ≤ 140737488355328) (h63 : n ≤ 4611686018427387904) :
    CallF P (ρ.f 4) [.val (.slice none 0 0), .val (.int .i64 n)] (fun v => v = .row (ρ.t 25) i0.size []) := by
  refine ⟨hc, fun I w vs hI hv => ?_⟩
  obtain ⟨hl, hv⟩ := hv
  match vs, hl with
  | [a, b], _ =>
    have ha : a = .slice none 0 0 := by
      have := hv 0 a _ rfl rfl
      cases this
      rfl
    have hb : b = .int .i64 n := by
      have := hv 1 b _ rfl rfl
      cases this
      rfl
    subst ha hb
    by_cases h0 : n = 0
    · subst h0
      refine (Any8.slices_Grow_room L none 0 0 0 w (by omega) (by omega) (by omega) (by omega)).mono ?_
      rintro e w' ⟨rfl, rfl⟩
      refine ⟨_, _, _, I, rfl, rfl, .row _ _ _ _ [] ⟨⟨by simp, .inl ⟨rfl, rfl⟩⟩, hs0, by simp, by simp, by simp, fun b hb => by simp [Value.ownBlock] at hb⟩ rfl, by simp [Value.ownBlock], by simp [Value.ownBlock], Below.refl _ _, Mem.sub_refl I, hI, fun _ _ _ => rfl⟩
    · refine (Any8.slices_Grow_grow L i0 z hi0 hz0 hs0 none 0 0 n [] w (by omega) (by omega) (by simpa using hbig) (by omega) (by simp) (fun _ => rfl) (fun a h => by cases h)).mono ?_
      rintro e w' ⟨rfl, rfl⟩
      have hG : n ≤ grownCap w (0 + n) 0 (ρ.t 25) := by
        have := grownCap_ge w (0 + n) 0 (ρ.t 25)
        omega
      have hG2 : grownCap w (0 + n) 0 (ρ.t 25) ≤ maxLen := grownCap_le_maxLen w (0 + n) 0 (ρ.t 25) (by unfold maxLen; omega)
      generalize grownCap w (0 + n) 0 (ρ.t 25) = G at hG hG2 ⊢
      have hheap : ∀ o : Obj, (w.drew.alloc o).heap = w.heap.push o := fun o => rfl
      have bel : ∀ o : Obj, Below w.heap.size w (w.drew.alloc o) := fun o => (Below.refl _ w).drew.alloc (Nat.le_refl _) o
      refine ⟨_, _, [w.heap.size], I, rfl, rfl, ?_, by simp, ?_, bel _, Mem.sub_refl I, hI.keep fun b ⟨o, u, hu⟩ => (bel _).block b (hI.lt hu), fun _ _ _ => rfl⟩
      · refine .row (.slice (some ⟨w.heap.size, 0, none⟩) 0 G) _ _ _ [] ⟨⟨by simp, .inr ⟨w.heap.size, G, _, rfl, Nat.le_refl _, by rw [hheap]; exact Array.getElem?_push_size, Nat.zero_le _, hG2, ?_, by simp⟩⟩, hs0, by simp, by simp, by simp, fun b hb o => ?_⟩ rfl
        · have e : (0 + n - 0) + (G - (0 + n)) = G := by omega
          have e0 : ([] : List Value).toArray.size = 0 := rfl
          rw [Array.size_append, Array.size_append, size_zeroCells, size_zeroCells, hzs, e0, Nat.zero_add, ← Nat.add_mul, e]
        · simp only [Value.ownBlock, Option.some.injEq] at hb
          subst hb
          cases hI0 : I w.heap.size o with
          | none => rfl
          | some u => exact absurd (hI.lt hI0) (Nat.lt_irrefl _)
      · intro b hb
        simp only [List.mem_cons, List.not_mem_nil, or_false] at hb
        subst hb
        rw [hheap]
        simp
theorem callF_growT (L : Lays8.n4 P ρ) (hc : callable P (ρ.f 4) = true) {t e : TypeId} {sz by' : Nat} (ht : appTypes P t t = some (e, sz, by')) (he : e = ρ.t 25) (n : Nat) (hbig : n * by' ≤ 140737488355328) (h63 : n ≤ 4611686018427387904) :
    CallF P (ρ.f 4) [.val (.slice none 0 0), .val (.int .i64 n)] (fun v => v = .row e sz []) := by
  obtain ⟨_, _, hpos, _, i, z, hi, hz, hsz, hby, hzc⟩ := appTypes_spec ht
  subst he
  have := callF_grow L hc i z hi hz (by omega) (by omega) n (by rw [hby]; exact hbig) h63
  rw [hsz] at this
  exact this
end Go.Abs
/-
  DERIVED: THE SHELF's CONTRACTS AT THIS DUMP, IN PLAIN WORDS (tools/lay-plain.mjs out of 'YtdlohnchnneaeaaGreatShelfGrow.lean', which tools/lay-shelf.mjs wrote): THE SAME DECLARATIONS UNDER THE SAME NAMES: 'import', 'namespace', 'open', 'def', 'theorem' AND NOTHING ELSE: no command of the shelf's: FOR A HAND-IN. Each laying: the table of numbers ('.._ren') and one theorem, a field a fact of the dump's own or the kernel's comparison; each contract: ONE APPLICATION.
-/
namespace Go.Proofs
open Go.Shelf
def YtdlohnchnneaeaaGreat.growInt_ren : Go.Shelf.Ren := ⟨fun | 4 => 69 | n => n, fun | 22 => 26 | 25 => 3 | 3 => 3 | 4 => 4 | 9 => 9 | 20 => 20 | 0 => 0 | n => n, fun | n => n⟩
theorem YtdlohnchnneaeaaGreat.growInt : Go.Proofs.Lays8.n4 Tryz.prog YtdlohnchnneaeaaGreat.growInt_ren := {
  mixed := by kernel_rfl
  f4 := ⟨Tryz.f69.name, by decide, Tryz.func69.trans (congrArg some (by kernel_rfl))⟩
  t0 := Tryz.underlying0
  a0 := Tryz.isAgg0
  z0 := Tryz.sizeOf0
  v0 := Tryz.zeroValue0
  t3 := Tryz.underlying3
  a3 := Tryz.isAgg3
  z3 := Tryz.sizeOf3
  v3 := Tryz.zeroValue3
  t4 := Tryz.underlying4
  a4 := Tryz.isAgg4
  z4 := Tryz.sizeOf4
  v4 := Tryz.zeroValue4
  t9 := Tryz.underlying9
  a9 := Tryz.isAgg9
  z9 := Tryz.sizeOf9
  v9 := Tryz.zeroValue9
  t20 := Tryz.underlying20
  a20 := Tryz.isAgg20
  z20 := Tryz.sizeOf20
  v20 := Tryz.zeroValue20
  t22 := Tryz.underlying26
  a22 := Tryz.isAgg26
  z22 := Tryz.sizeOf26
  v22 := Tryz.zeroValue26 }
def YtdlohnchnneaeaaGreat.growRow_ren : Go.Shelf.Ren := ⟨fun | 4 => 70 | n => n, fun | 22 => 34 | 25 => 26 | 3 => 3 | 4 => 4 | 9 => 9 | 20 => 20 | 0 => 0 | n => n, fun | n => n⟩
theorem YtdlohnchnneaeaaGreat.growRow : Go.Proofs.Lays8.n4 Tryz.prog YtdlohnchnneaeaaGreat.growRow_ren := {
  mixed := by kernel_rfl
  f4 := ⟨Tryz.f70.name, by decide, Tryz.func70.trans (congrArg some (by kernel_rfl))⟩
  t0 := Tryz.underlying0
  a0 := Tryz.isAgg0
  z0 := Tryz.sizeOf0
  v0 := Tryz.zeroValue0
  t3 := Tryz.underlying3
  a3 := Tryz.isAgg3
  z3 := Tryz.sizeOf3
  v3 := Tryz.zeroValue3
  t4 := Tryz.underlying4
  a4 := Tryz.isAgg4
  z4 := Tryz.sizeOf4
  v4 := Tryz.zeroValue4
  t9 := Tryz.underlying9
  a9 := Tryz.isAgg9
  z9 := Tryz.sizeOf9
  v9 := Tryz.zeroValue9
  t20 := Tryz.underlying20
  a20 := Tryz.isAgg20
  z20 := Tryz.sizeOf20
  v20 := Tryz.zeroValue20
  t22 := Tryz.underlying34
  a22 := Tryz.isAgg34
  z22 := Tryz.sizeOf34
  v22 := Tryz.zeroValue34 }
end Go.Proofs
/- slices.Grow of nil. -/
namespace Go.Proofs.YtdlohnchnneaeaaGreat
open Go.Abs

abbrev IntL := List Int
noncomputable def f_slices_Grow_int (l : List Int) (n : Int) : Option (List Int) := giv (l = [] ∧ 0 ≤ n ∧ n ≤ 1000000) []
theorem w_slices_Grow_int (l : List Int) (n : Int) (r : List Int) (h : f_slices_Grow_int l n = some r) : CallF Go.Proofs.Tryz.prog 69 [.val (.slice none 0 0), .val (.int .i64 n)] (fun v => v = .row 3 1 (r.map encI)) := by
  obtain ⟨⟨_, h0, h1⟩, rfl⟩ := giv_s h
  obtain ⟨k, rfl⟩ : ∃ k : Nat, n = k := ⟨n.toNat, by omega⟩
  exact callF_growT growInt (by kernel_rfl) Ty.app26 rfl k (by omega) (by omega)
noncomputable def f_slices_Grow_Lint (l : List IntL) (n : Int) : Option (List IntL) := giv (l = [] ∧ 0 ≤ n ∧ n ≤ 1000000) []
theorem w_slices_Grow_Lint (l : List IntL) (n : Int) (r : List IntL) (h : f_slices_Grow_Lint l n = some r) : CallF Go.Proofs.Tryz.prog 70 [.val (.slice none 0 0), .val (.int .i64 n)] (fun v => v = .row 26 1 (r.map encRow)) := by
  obtain ⟨⟨_, h0, h1⟩, rfl⟩ := giv_s h
  obtain ⟨k, rfl⟩ : ∃ k : Nat, n = k := ⟨n.toNat, by omega⟩
  exact callF_growT growRow (by kernel_rfl) Ty.app34 rfl k (by omega) (by omega)
end Go.Proofs.YtdlohnchnneaeaaGreat
/- Functions of the program as functions of Lean, and the walks that show them. Printed by gen.py. -/
set_option linter.unusedSimpArgs false
set_option linter.unusedVariables false
set_option maxRecDepth 20000
namespace Go.Proofs.YtdlohnchnneaeaaGreat
open Go.Abs
open Nat renaming reduceEqDiff → uA, reduceLT → uB, reduceLeDiff → uC, reduceMul → uD, reduceAdd → uE, reduceBEq → uF, reduceSub → uG
open Int renaming reduceToNat → uH

structure T_scarfjointlaw52_Case where
  t : Types
  s : Sorts
structure T_Morphism where
  nodes : List Int
  edges : List Int
structure T_A2_Int where
  x0 : Int
  x1 : Int
structure T_A3_Int where
  x0 : Int
  x1 : Int
  x2 : Int
structure T_scarfjointref15_Draft where
  nodes : List T_A2_Int
  edges : List T_A3_Int
def enc_T_A2_Int (x : T_A2_Int) : List PV := [.val (.int .u8 x.x0), .val (.int .u8 x.x1)]
def enc_T_A3_Int (x : T_A3_Int) : List PV := [.val (.int .u8 x.x0), .val (.int .u8 x.x1), .val (.int .u8 x.x2)]
def encL_encRow (l : List (List Int)) : List PV := [.lst (l.map encRow)]

end Go.Proofs.YtdlohnchnneaeaaGreat
/- Functions of the program as functions of Lean, and the walks that show them. Printed by gen.py. -/
set_option linter.unusedSimpArgs false
set_option linter.unusedVariables false
set_option maxRecDepth 20000
namespace Go.Proofs.YtdlohnchnneaeaaGreat
open Go.Abs
open Nat renaming reduceEqDiff → uA, reduceLT → uB, reduceLeDiff → uC, reduceMul → uD, reduceAdd → uE, reduceBEq → uF, reduceSub → uG
open Int renaming reduceToNat → uH

attribute [local go_sem] encAttr encEdge encEdgeT encI encInts encL_encRow encNode encPair encRow encS encStrs enc_T_A2_Int enc_T_A3_Int
noncomputable section
def f_host_valid (a0 : Types) (a1 : Host) : Option Int :=
  thn (f_host_Valid a0 a1) fun r252 =>
  some r252.2
set_option maxHeartbeats 4000000 in
theorem w_host_valid (a0 : Types) (a1 : Host) (r : Int) (h : f_host_valid a0 a1 = some r) : CallV Go.Proofs.Tryz.prog 72 [.agg [.lst (a0.nodes.map encNode), .lst (a0.edges.map encEdgeT)], .agg [.lst (a1.graph.nodes.map encI), .lst (a1.graph.edges.map encEdge), .lst (a1.values.map encRow)]] (fun v => v = .val (.int .i64 r)) := by
  refine CallV.ple ?_
  refine callV_of_cw [] Ty.mixed Go.Proofs.Tryz.func72 rfl (by kernel_rfl) (by simp [Go.Proofs.Tryz.ntmps72]) ?_; rw [Go.Proofs.Tryz.ntmps72, Go.Proofs.Tryz.results72]
  unfold f_host_valid at h
  obtain ⟨r252, hr252, h⟩ := thn_s h
  try simp -implicitDefEqProofs only [go_sem, uA, uB, uC, uD, uE, reduceIte, reduceCtorEq, uF, uG, uH]
  refine callG (w_host_Valid a0 a1 r252 hr252) (by simp -implicitDefEqProofs only [go_sem, uA, uB, uC, uD, uE, reduceIte, reduceCtorEq, uF, uG, uH] <;> rfl) (pleL_refl _) (by first | exact pers | exact scal rfl) ?_
  cases h
  try simp -implicitDefEqProofs only [go_sem, uA, uB, uC, uD, uE, reduceIte, reduceCtorEq, uF, uG, uH]
  all_goals ((repeat' apply And.intro) <;> rfl)

def f_slices_Index_Pair (a0 : List GPair) (a1 : GPair) : Option Int :=
  chk (a0.length ≤ fuel) <|
  forN (fun i2502 (s2502 : Unit) nxts2502 brks2502 =>
    thn (a0[i2502]?) fun e2505 =>
    cond (decide (a1.a = e2505.a) && decide (a1.b = e2505.b)) (
      some ((i2502 : Nat) : Int)) <|
    nxts2502 ())
  (a0.length - 0) 0 () fun s2502 =>
  some (-1)
set_option maxHeartbeats 4000000 in
theorem w_slices_Index_Pair (a0 : List GPair) (a1 : GPair) (r : Int) (h : f_slices_Index_Pair a0 a1 = some r) : CallV Go.Proofs.Tryz.prog 60 [.lst (a0.map encPair), .agg [.val (.int .i64 a1.a), .val (.int .i64 a1.b)]] (fun v => v = .val (.int .i64 r)) := by
  refine CallV.ple ?_
  refine callV_of_cw [] Ty.mixed Go.Proofs.Tryz.func60 rfl (by kernel_rfl) (by simp [Go.Proofs.Tryz.ntmps60]) ?_; rw [Go.Proofs.Tryz.ntmps60, Go.Proofs.Tryz.results60]
  unfold f_slices_Index_Pair at h
  obtain ⟨fus2502, h⟩ := chk_s h
  unfold fuel at fus2502
  try simp -implicitDefEqProofs only [go_sem, uA, uB, uC, uD, uE, reduceIte, reduceCtorEq, uF, uG, uH]
  refine forN_go (fun x : (Nat × (Unit)) × (Unit) => envL [(0, .p (.lst (a0.map encPair))), (3, .ptr 3 0), (7, .p (.val (.int .i64 ((a0.length : Nat) : Int)))), (8, .p (.val (.int .i64 ((x.1.1 : Nat) : Int))))]) (fun x => heapL [(3, .box [.p (.val (.int .i64 a1.a)), .p (.val (.int .i64 a1.b))])]) () h (weakL (by simp -implicitDefEqProofs only [go_sem, uA, uB, uC, uD, uE, reduceIte, reduceCtorEq, uF, uG, uH] <;> ((repeat' apply And.intro) <;> rfl))) ?_ ?_
  · intro i2502 s2502 g2502 nxts2502 Rs2502 his2502 hNs2502 h
    have hws2502 := wrap_succ (k := i2502) his2502 (by omega)
    try dsimp only at h
    try simp -implicitDefEqProofs only [go_sem, uA, uB, uC, uD, uE, reduceIte, reduceCtorEq, uF, uG, uH, his2502, hws2502]
    refine draw_txt [.q, .q, .q, .q, .q, .q] (by kernel_rfl) ?_
    obtain ⟨e2505, c2505, g2505, q2505, h⟩ := idx_s encPair h
    try simp -implicitDefEqProofs only [go_sem, uA, uB, uC, uD, uE, reduceIte, reduceCtorEq, uF, uG, uH, his2502, hws2502, c2505, g2505]
    refine condC_split (fun b2506 => ?_) (fun b2506 => ?_)
    · replace h := cond_t h b2506
      cases h
      try simp -implicitDefEqProofs only [go_sem, uA, uB, uC, uD, uE, reduceIte, reduceCtorEq, uF, uG, uH, his2502, hws2502, c2505, g2505, b2506]
      all_goals ((repeat' apply And.intro) <;> rfl)
    · replace h := cond_f h b2506
      try simp -implicitDefEqProofs only [go_sem, uA, uB, uC, uD, uE, reduceIte, reduceCtorEq, uF, uG, uH, his2502, hws2502, c2505, g2505, b2506]
      exact hNs2502 () () h (weakL (by simp -implicitDefEqProofs only [go_sem, uA, uB, uC, uD, uE, reduceIte, reduceCtorEq, uF, uG, uH, his2502, hws2502, c2505, g2505, b2506] <;> ((repeat' apply And.intro) <;> rfl)))
  · intro i2502 s2502 g2502 Rs2502 hes2502 h
    have hns2502 : ¬ (i2502 < a0.length) := by omega
    try dsimp only at h
    cases h
    try simp -implicitDefEqProofs only [go_sem, uA, uB, uC, uD, uE, reduceIte, reduceCtorEq, uF, uG, uH, hns2502]
    all_goals ((repeat' apply And.intro) <;> rfl)

end
end Go.Proofs.YtdlohnchnneaeaaGreat
/- Functions of the program as functions of Lean, and the walks that show them. Printed by gen.py. -/
set_option linter.unusedSimpArgs false
set_option linter.unusedVariables false
set_option maxRecDepth 20000
namespace Go.Proofs.YtdlohnchnneaeaaGreat
open Go.Abs
open Nat renaming reduceEqDiff → uA, reduceLT → uB, reduceLeDiff → uC, reduceMul → uD, reduceAdd → uE, reduceBEq → uF, reduceSub → uG
open Int renaming reduceToNat → uH

attribute [local go_sem] encAttr encEdge encEdgeT encI encInts encL_encRow encNode encPair encRow encS encStrs enc_T_A2_Int enc_T_A3_Int
noncomputable section
def f_triple_part (a0 : Sorts) (a1 : Graph) (a2 : Int) : Option Part :=
  chk (a1.nodes.length ≤ fuel) <|
  forN (fun i217 (s217 : (List Int)) nxts217 brks217 =>
    thn (a1.nodes[i217]?) fun e224 =>
    thn (atZ a0.nodes e224) fun e225 =>
    cond (decide (e225 = a2)) (
      chk (s217.length + 1 ≤ 68719476736) <|
      nxts217 (s217 ++ [((i217 : Nat) : Int)])) <|
    nxts217 s217)
  (a1.nodes.length - 0) 0 ([] : List Int) fun s217 =>
  chk (a1.edges.length ≤ fuel) <|
  forN (fun i238 (s238 : (List Int)) nxts238 brks238 =>
    thn (a1.edges[i238]?) fun e245 =>
    thn (atZ a0.edges e245.type) fun e246 =>
    cond (decide (e246 = a2)) (
      chk (s238.length + 1 ≤ 68719476736) <|
      nxts238 (s238 ++ [((i238 : Nat) : Int)])) <|
    nxts238 s238)
  (a1.edges.length - 0) 0 ([] : List Int) fun s238 =>
  some (⟨s217, s238⟩ : Part)
set_option maxHeartbeats 4000000 in
theorem w_triple_part (a0 : Sorts) (a1 : Graph) (a2 : Int) (r : Part) (h : f_triple_part a0 a1 a2 = some r) : CallF Go.Proofs.Tryz.prog 51 [.agg [.lst (a0.nodes.map encI), .lst (a0.edges.map encI)], .agg [.lst (a1.nodes.map encI), .lst (a1.edges.map encEdge)], .val (.int .i64 a2)] (fun v => v = .agg [.row 3 1 (r.nodes.map encI), .row 3 1 (r.edges.map encI)]) := by
  refine CallF.rle ?_
  refine callF_of_cw [31, 54] Ty.mixed Go.Proofs.Tryz.func51 rfl (by kernel_rfl) (by simp [Go.Proofs.Tryz.ntmps51]) ?_; rw [Go.Proofs.Tryz.ntmps51, Go.Proofs.Tryz.results51]
  unfold f_triple_part at h
  obtain ⟨fus217, h⟩ := chk_s h
  unfold fuel at fus217
  try simp -implicitDefEqProofs only [go_sem, uA, uB, uC, uD, uE, reduceIte, reduceCtorEq, uF, uG, uH]
  refine forN_go (fun x : (Nat × ((List Int))) × (Nat) => envL [(2, .p (.val (.int .i64 a2))), (3, .ptr 3 0), (4, .ptr 4 0), (6, .ptr 6 0), (7, .ptr 7 0), (13, .p (.lst (a1.nodes.map encI))), (14, .p (.val (.int .i64 ((a1.nodes.length : Nat) : Int)))), (15, .p (.val (.int .i64 ((x.1.1 : Nat) : Int))))]) (fun x => heapL [(3, .box [.p (.lst (a0.nodes.map encI)), .p (.lst (a0.edges.map encI))]), (4, .box [.p (.lst (a1.nodes.map encI)), .p (.lst (a1.edges.map encEdge))]), (6, .box [.p (.val (.slice none 0 0)), .p (.val (.slice none 0 0))]), (7, .box [.row 2215 x.2, .p (.val (.slice none 0 0))]), (2215, .row x.2 3 1 (x.1.2.map encI))]) 0 h (by refine Weak.trans (weak_nilbox 7 0 2215 3 1 _ rfl rfl rfl (by decide)) ?_; exact (weakL (by simp -implicitDefEqProofs only [go_sem, uA, uB, uC, uD, uE, reduceIte, reduceCtorEq, uF, uG, uH] <;> ((repeat' apply And.intro) <;> rfl)))) ?_ ?_
  · intro i217 s217 g217 nxts217 Rs217 his217 hNs217 h
    have hws217 := wrap_succ (k := i217) his217 (by omega)
    try dsimp only at h
    obtain ⟨e224, c224, g224, q224, h⟩ := idx_s encI h
    obtain ⟨e225, c225a, c225b, g225, q225, h⟩ := atZ_s encI h
    have c225n := toNat_lt c225a c225b
    try simp -implicitDefEqProofs only [go_sem, uA, uB, uC, uD, uE, reduceIte, reduceCtorEq, uF, uG, uH, his217, hws217, c224, g224, c225a, c225b, c225n, g225]
    refine condC_split (fun b226 => ?_) (fun b226 => ?_)
    · replace h := cond_t h b226
      obtain ⟨c227, h⟩ := chk_s h
      have k228 := eq_true (show (s217.length + 1) * 8 ≤ 140737488355328 by omega)
      have a229 := map_apps encI s217 [((i217 : Nat) : Int)] (c := [[.val (.int .i64 ((i217 : Nat) : Int))]]) rfl
      try simp -implicitDefEqProofs only [go_sem, uA, uB, uC, uD, uE, reduceIte, reduceCtorEq, uF, uG, uH, his217, hws217, c224, g224, c225a, c225b, c225n, g225, b226, c227, k228, a229]
      exact hNs217 (s217 ++ [((i217 : Nat) : Int)]) (g217 + 1) h (weakL (by simp -implicitDefEqProofs only [go_sem, uA, uB, uC, uD, uE, reduceIte, reduceCtorEq, uF, uG, uH, his217, hws217, c224, g224, c225a, c225b, c225n, g225, b226, c227, k228, a229] <;> ((repeat' apply And.intro) <;> rfl)))
    · replace h := cond_f h b226
      try simp -implicitDefEqProofs only [go_sem, uA, uB, uC, uD, uE, reduceIte, reduceCtorEq, uF, uG, uH, his217, hws217, c224, g224, c225a, c225b, c225n, g225, b226]
      exact hNs217 s217 g217 h (weakL (by simp -implicitDefEqProofs only [go_sem, uA, uB, uC, uD, uE, reduceIte, reduceCtorEq, uF, uG, uH, his217, hws217, c224, g224, c225a, c225b, c225n, g225, b226] <;> ((repeat' apply And.intro) <;> rfl)))
  · intro i217 s217 g217 Rs217 hes217 h
    have hns217 : ¬ (i217 < a1.nodes.length) := by omega
    try dsimp only at h
    obtain ⟨fus238, h⟩ := chk_s h
    unfold fuel at fus238
    try simp -implicitDefEqProofs only [go_sem, uA, uB, uC, uD, uE, reduceIte, reduceCtorEq, uF, uG, uH, hns217]
    refine forN_go (fun x : (Nat × ((List Int))) × (Nat) => envL [(2, .p (.val (.int .i64 a2))), (3, .ptr 3 0), (6, .ptr 6 0), (7, .ptr 7 0), (35, .p (.lst (a1.edges.map encEdge))), (36, .p (.val (.int .i64 ((a1.edges.length : Nat) : Int)))), (37, .p (.val (.int .i64 ((x.1.1 : Nat) : Int))))]) (fun x => heapL [(3, .box [.p (.lst (a0.nodes.map encI)), .p (.lst (a0.edges.map encI))]), (6, .box [.p (.val (.slice none 0 0)), .p (.val (.slice none 0 0))]), (7, .box [.row 2215 g217, .row 2236 x.2]), (2215, .row g217 3 1 (s217.map encI)), (2236, .row x.2 3 1 (x.1.2.map encI))]) 0 h (by refine Weak.trans (weak_nilbox 7 1 2236 3 1 _ rfl rfl rfl (by decide)) ?_; exact (weakL (by simp -implicitDefEqProofs only [go_sem, uA, uB, uC, uD, uE, reduceIte, reduceCtorEq, uF, uG, uH, hns217] <;> ((repeat' apply And.intro) <;> rfl)))) ?_ ?_
    · intro i238 s238 g238 nxts238 Rs238 his238 hNs238 h
      have hws238 := wrap_succ (k := i238) his238 (by omega)
      try dsimp only at h
      obtain ⟨e245, c245, g245, q245, h⟩ := idx_s encEdge h
      obtain ⟨e246, c246a, c246b, g246, q246, h⟩ := atZ_s encI h
      have c246n := toNat_lt c246a c246b
      try simp -implicitDefEqProofs only [go_sem, uA, uB, uC, uD, uE, reduceIte, reduceCtorEq, uF, uG, uH, hns217, his238, hws238, c245, g245, c246a, c246b, c246n, g246]
      refine condC_split (fun b247 => ?_) (fun b247 => ?_)
      · replace h := cond_t h b247
        obtain ⟨c248, h⟩ := chk_s h
        have k249 := eq_true (show (s238.length + 1) * 8 ≤ 140737488355328 by omega)
        have a250 := map_apps encI s238 [((i238 : Nat) : Int)] (c := [[.val (.int .i64 ((i238 : Nat) : Int))]]) rfl
        try simp -implicitDefEqProofs only [go_sem, uA, uB, uC, uD, uE, reduceIte, reduceCtorEq, uF, uG, uH, hns217, his238, hws238, c245, g245, c246a, c246b, c246n, g246, b247, c248, k249, a250]
        exact hNs238 (s238 ++ [((i238 : Nat) : Int)]) (g238 + 1) h (weakL (by simp -implicitDefEqProofs only [go_sem, uA, uB, uC, uD, uE, reduceIte, reduceCtorEq, uF, uG, uH, hns217, his238, hws238, c245, g245, c246a, c246b, c246n, g246, b247, c248, k249, a250] <;> ((repeat' apply And.intro) <;> rfl)))
      · replace h := cond_f h b247
        try simp -implicitDefEqProofs only [go_sem, uA, uB, uC, uD, uE, reduceIte, reduceCtorEq, uF, uG, uH, hns217, his238, hws238, c245, g245, c246a, c246b, c246n, g246, b247]
        exact hNs238 s238 g238 h (weakL (by simp -implicitDefEqProofs only [go_sem, uA, uB, uC, uD, uE, reduceIte, reduceCtorEq, uF, uG, uH, hns217, his238, hws238, c245, g245, c246a, c246b, c246n, g246, b247] <;> ((repeat' apply And.intro) <;> rfl)))
    · intro i238 s238 g238 Rs238 hes238 h
      have hns238 : ¬ (i238 < a1.edges.length) := by omega
      try dsimp only at h
      cases h
      try simp -implicitDefEqProofs only [go_sem, uA, uB, uC, uD, uE, reduceIte, reduceCtorEq, uF, uG, uH, hns217, hns238]
      refine ⟨by decide, _, .refl _, ?_⟩
      simp -implicitDefEqProofs only [go_sem, uA, uB, uC, uD, uE, reduceIte, reduceCtorEq, uF, uG, uH, hns217, hns238] <;> ((repeat' apply And.intro) <;> rfl)

def f_scarfjointref07_has (a0 : List Int) (a1 : Int) : Option Bool :=
  chk (a0.length ≤ fuel) <|
  forN (fun i680 (s680 : Unit) nxts680 brks680 =>
    thn (a0[i680]?) fun e683 =>
    cond (decide (e683 = a1)) (
      some true) <|
    nxts680 ())
  (a0.length - 0) 0 () fun s680 =>
  some false
set_option maxHeartbeats 4000000 in
theorem w_scarfjointref07_has (a0 : List Int) (a1 : Int) (r : Bool) (h : f_scarfjointref07_has a0 a1 = some r) : CallV Go.Proofs.Tryz.prog 153 [.lst (a0.map encI), .val (.int .i64 a1)] (fun v => v = .val (.bool r)) := by
  refine CallV.ple ?_
  refine callV_of_cw [] Ty.mixed Go.Proofs.Tryz.func153 rfl (by kernel_rfl) (by simp [Go.Proofs.Tryz.ntmps153]) ?_; rw [Go.Proofs.Tryz.ntmps153, Go.Proofs.Tryz.results153]
  unfold f_scarfjointref07_has at h
  obtain ⟨fus680, h⟩ := chk_s h
  unfold fuel at fus680
  try simp -implicitDefEqProofs only [go_sem, uA, uB, uC, uD, uE, reduceIte, reduceCtorEq, uF, uG, uH]
  refine forN_go (fun x : (Nat × (Unit)) × (Unit) => envL [(0, .p (.lst (a0.map encI))), (1, .p (.val (.int .i64 a1))), (5, .p (.val (.int .i64 ((x.1.1 : Nat) : Int))))]) (fun x => heapL []) () h (weakL (by simp -implicitDefEqProofs only [go_sem, uA, uB, uC, uD, uE, reduceIte, reduceCtorEq, uF, uG, uH] <;> ((repeat' apply And.intro) <;> rfl))) ?_ ?_
  · intro i680 s680 g680 nxts680 Rs680 his680 hNs680 h
    have hws680 := wrap_succ (k := i680) his680 (by omega)
    try dsimp only at h
    obtain ⟨e683, c683, g683, q683, h⟩ := idx_s encI h
    try simp -implicitDefEqProofs only [go_sem, uA, uB, uC, uD, uE, reduceIte, reduceCtorEq, uF, uG, uH, his680, hws680, c683, g683]
    refine condC_split (fun b684 => ?_) (fun b684 => ?_)
    · replace h := cond_t h b684
      cases h
      try simp -implicitDefEqProofs only [go_sem, uA, uB, uC, uD, uE, reduceIte, reduceCtorEq, uF, uG, uH, his680, hws680, c683, g683, b684]
      all_goals ((repeat' apply And.intro) <;> rfl)
    · replace h := cond_f h b684
      try simp -implicitDefEqProofs only [go_sem, uA, uB, uC, uD, uE, reduceIte, reduceCtorEq, uF, uG, uH, his680, hws680, c683, g683, b684]
      exact hNs680 () () h (weakL (by simp -implicitDefEqProofs only [go_sem, uA, uB, uC, uD, uE, reduceIte, reduceCtorEq, uF, uG, uH, his680, hws680, c683, g683, b684] <;> ((repeat' apply And.intro) <;> rfl)))
  · intro i680 s680 g680 Rs680 hes680 h
    have hns680 : ¬ (i680 < a0.length) := by omega
    try dsimp only at h
    cases h
    try simp -implicitDefEqProofs only [go_sem, uA, uB, uC, uD, uE, reduceIte, reduceCtorEq, uF, uG, uH, hns680]
    all_goals ((repeat' apply And.intro) <;> rfl)

def f_scarfjointref15_compare (a0 : List Int) (a1 : List Int) : Option Int :=
  iter (fun (s1276 : Int) nxts1276 brks1276 =>
    cond (decide (s1276 < ((a0.length : Nat) : Int))) (
      cond (decide (s1276 < ((a1.length : Nat) : Int))) (
        thn (atZ a0 s1276) fun e1285 =>
        thn (atZ a1 s1276) fun e1286 =>
        cond (decide (e1285 = e1286)) (
          nxts1276 (IntKind.i64.wrap (s1276 + 1))) <|
        some (IntKind.i64.wrap (e1285 - e1286))) <|
      brks1276 s1276) <|
    brks1276 s1276)
  fuel 0 fun s1276 =>
  some (IntKind.i64.wrap (((a0.length : Nat) : Int) - ((a1.length : Nat) : Int)))
set_option maxHeartbeats 4000000 in
theorem w_scarfjointref15_compare (a0 : List Int) (a1 : List Int) (r : Int) (h : f_scarfjointref15_compare a0 a1 = some r) : CallV Go.Proofs.Tryz.prog 50 [.lst (a0.map encI), .lst (a1.map encI)] (fun v => v = .val (.int .i64 r)) := by
  refine CallV.ple ?_
  refine callV_of_cw [] Ty.mixed Go.Proofs.Tryz.func50 rfl (by kernel_rfl) (by simp [Go.Proofs.Tryz.ntmps50]) ?_; rw [Go.Proofs.Tryz.ntmps50, Go.Proofs.Tryz.results50]
  unfold f_scarfjointref15_compare at h
  try simp -implicitDefEqProofs only [go_sem, uA, uB, uC, uD, uE, reduceIte, reduceCtorEq, uF, uG, uH]
  refine iter_go (fun x : (Int) × (Unit) => envL [(0, .p (.lst (a0.map encI))), (1, .p (.lst (a1.map encI))), (5, .p (.val (.int .i64 x.1)))]) (fun x => heapL []) () h (weakL (by simp -implicitDefEqProofs only [go_sem, uA, uB, uC, uD, uE, reduceIte, reduceCtorEq, uF, uG, uH] <;> ((repeat' apply And.intro) <;> rfl))) ?_
  intro s1276 g1276 nxts1276 Rs1276 hNs1276 h
  try dsimp only at h
  try simp -implicitDefEqProofs only [go_sem, uA, uB, uC, uD, uE, reduceIte, reduceCtorEq, uF, uG, uH]
  refine walkG_split (fun b1283 => ?_) (fun b1283 => ?_)
  · replace h := cond_t h b1283
    try simp -implicitDefEqProofs only [go_sem, uA, uB, uC, uD, uE, reduceIte, reduceCtorEq, uF, uG, uH, b1283]
    refine condC_split (fun b1284 => ?_) (fun b1284 => ?_)
    · replace h := cond_t h b1284
      try simp -implicitDefEqProofs only [go_sem, uA, uB, uC, uD, uE, reduceIte, reduceCtorEq, uF, uG, uH, b1283, b1284]
      refine draw_txt [.q, .q, .q, .q, .q, .q, .q, .q, .q] (by kernel_rfl) ?_
      obtain ⟨e1285, c1285a, c1285b, g1285, q1285, h⟩ := atZ_s encI h
      have c1285n := toNat_lt c1285a c1285b
      obtain ⟨e1286, c1286a, c1286b, g1286, q1286, h⟩ := atZ_s encI h
      have c1286n := toNat_lt c1286a c1286b
      try simp -implicitDefEqProofs only [go_sem, uA, uB, uC, uD, uE, reduceIte, reduceCtorEq, uF, uG, uH, b1283, b1284, c1285a, c1285b, c1285n, g1285, c1286a, c1286b, c1286n, g1286]
      refine condC_splitN (fun b1287 => ?_) (fun b1287 => ?_)
      · replace h := cond_t h b1287
        try simp -implicitDefEqProofs only [go_sem, uA, uB, uC, uD, uE, reduceIte, reduceCtorEq, uF, uG, uH, b1283, b1284, c1285a, c1285b, c1285n, g1285, c1286a, c1286b, c1286n, g1286, b1287]
        exact hNs1276 (IntKind.i64.wrap (s1276 + 1)) () h (weakL (by simp -implicitDefEqProofs only [go_sem, uA, uB, uC, uD, uE, reduceIte, reduceCtorEq, uF, uG, uH, b1283, b1284, c1285a, c1285b, c1285n, g1285, c1286a, c1286b, c1286n, g1286, b1287] <;> ((repeat' apply And.intro) <;> rfl)))
      · replace h := cond_f h b1287
        try simp -implicitDefEqProofs only [go_sem, uA, uB, uC, uD, uE, reduceIte, reduceCtorEq, uF, uG, uH, b1283, b1284, c1285a, c1285b, c1285n, g1285, c1286a, c1286b, c1286n, g1286, b1287]
        refine draw_txt [.q, .q, .q, .q, .q, .q, .q, .q, .q, .q] (by kernel_rfl) ?_
        cases h
        try simp -implicitDefEqProofs only [go_sem, uA, uB, uC, uD, uE, reduceIte, reduceCtorEq, uF, uG, uH, b1283, b1284, c1285a, c1285b, c1285n, g1285, c1286a, c1286b, c1286n, g1286, b1287]
        all_goals ((repeat' apply And.intro) <;> rfl)
    · replace h := cond_f h b1284
      try dsimp only at h
      cases h
      try simp -implicitDefEqProofs only [go_sem, uA, uB, uC, uD, uE, reduceIte, reduceCtorEq, uF, uG, uH, b1283, b1284]
      all_goals ((repeat' apply And.intro) <;> rfl)
  · replace h := cond_f h b1283
    try dsimp only at h
    cases h
    try simp -implicitDefEqProofs only [go_sem, uA, uB, uC, uD, uE, reduceIte, reduceCtorEq, uF, uG, uH, b1283]
    all_goals ((repeat' apply And.intro) <;> rfl)

def f_scarfjointref04_in (a0 : Int) (a1 : Int) (a2 : Int) : Option Bool :=
  cond (decide (a1 ≤ a0)) (
    some (decide (a0 ≤ a2))) <|
  some false
set_option maxHeartbeats 4000000 in
theorem w_scarfjointref04_in (a0 : Int) (a1 : Int) (a2 : Int) (r : Bool) (h : f_scarfjointref04_in a0 a1 a2 = some r) : CallV Go.Proofs.Tryz.prog 82 [.val (.int .i64 a0), .val (.int .i64 a1), .val (.int .i64 a2)] (fun v => v = .val (.bool r)) := by
  refine CallV.ple ?_
  refine callV_of_cw [] Ty.mixed Go.Proofs.Tryz.func82 rfl (by kernel_rfl) (by simp [Go.Proofs.Tryz.ntmps82]) ?_; rw [Go.Proofs.Tryz.ntmps82, Go.Proofs.Tryz.results82]
  unfold f_scarfjointref04_in at h
  try simp -implicitDefEqProofs only [go_sem, uA, uB, uC, uD, uE, reduceIte, reduceCtorEq, uF, uG, uH]
  refine walkG_split (fun b1351 => ?_) (fun b1351 => ?_)
  · replace h := cond_t h b1351
    cases h
    try simp -implicitDefEqProofs only [go_sem, uA, uB, uC, uD, uE, reduceIte, reduceCtorEq, uF, uG, uH, b1351]
    all_goals ((repeat' apply And.intro) <;> rfl)
  · replace h := cond_f h b1351
    cases h
    try simp -implicitDefEqProofs only [go_sem, uA, uB, uC, uD, uE, reduceIte, reduceCtorEq, uF, uG, uH, b1351]
    all_goals ((repeat' apply And.intro) <;> rfl)

def f_scarfjointref04_attrs : Nat → Types → Int →  Option (List Attr)
  | 0, _, _ => none
  | n + 1, a0, a1 =>
    cond (decide (a1 < 0)) (
      some ([] : List Attr)) <|
    thn (atZ a0.nodes a1) fun e1370 =>
    thn (f_scarfjointref04_attrs n a0 e1370.parent) fun r1371 =>
    chk (r1371.length ≤ 68719476736) <|
    chk (r1371.length + e1370.attrs.length ≤ 68719476736) <|
    some (r1371 ++ e1370.attrs)
set_option maxHeartbeats 4000000 in
theorem w_scarfjointref04_attrs (n : Nat) : ∀ (a0 : Types) (a1 : Int) (r : (List Attr)) (h : f_scarfjointref04_attrs n a0 a1 = some r), CallF Go.Proofs.Tryz.prog 81 [.agg [.lst (a0.nodes.map encNode), .lst (a0.edges.map encEdgeT)], .val (.int .i64 a1)] (fun v => v = .row 107 4 (r.map encAttr)) := by
  induction n with
  | zero => intro a0 a1 r h; cases h
  | succ n ih =>
  intro a0 a1 r h
  refine CallF.rle ?_
  refine callF_of_cw [7, 16] Ty.mixed Go.Proofs.Tryz.func81 rfl (by kernel_rfl) (by simp [Go.Proofs.Tryz.ntmps81]) ?_; rw [Go.Proofs.Tryz.ntmps81, Go.Proofs.Tryz.results81]
  unfold f_scarfjointref04_attrs at h
  try simp -implicitDefEqProofs only [go_sem, uA, uB, uC, uD, uE, reduceIte, reduceCtorEq, uF, uG, uH]
  refine condC_split (fun b1369 => ?_) (fun b1369 => ?_)
  · replace h := cond_t h b1369
    cases h
    try simp -implicitDefEqProofs only [go_sem, uA, uB, uC, uD, uE, reduceIte, reduceCtorEq, uF, uG, uH, b1369]
    refine ⟨by decide, _, .refl _, ?_⟩
    simp -implicitDefEqProofs only [go_sem, uA, uB, uC, uD, uE, reduceIte, reduceCtorEq, uF, uG, uH, b1369] <;> ((repeat' apply And.intro) <;> rfl)
  · replace h := cond_f h b1369
    try simp -implicitDefEqProofs only [go_sem, uA, uB, uC, uD, uE, reduceIte, reduceCtorEq, uF, uG, uH, b1369]
    refine draw_my [(1, .q), (2, .q), (3, .q), (4, .q), (5, .q), (6, .q), (7, .q), (8, .q), (10, .b), (11, .b), (12, .b), (13, .b), (14, .b), (15, .b), (0, .w), (9, .s), (16, .w), (17, .q)] (by kernel_rfl) ?_
    obtain ⟨e1370, c1370a, c1370b, g1370, q1370, h⟩ := atZ_s encNode h
    have c1370n := toNat_lt c1370a c1370b
    obtain ⟨r1371, hr1371, h⟩ := thn_s h
    try simp -implicitDefEqProofs only [go_sem, uA, uB, uC, uD, uE, reduceIte, reduceCtorEq, uF, uG, uH, b1369, c1370a, c1370b, c1370n, g1370]
    refine calldG (show CallV _ _ _ (fun v => v = .lst (r1371.map encAttr)) from (ih a0 e1370.parent r1371 hr1371).toV1) (by simp -implicitDefEqProofs only [go_sem, uA, uB, uC, uD, uE, reduceIte, reduceCtorEq, uF, uG, uH, b1369, c1370a, c1370b, c1370n, g1370] <;> rfl) (pleL_refl _) (by first | exact pers | exact scal rfl) ?_
    obtain ⟨c1372, h⟩ := chk_s h
    have k1373 := eq_true (show (r1371.length) * 56 ≤ 140737488355328 by omega)
    have k1374 := eq_true (map_len (n := 4) (f := encAttr) (fun _ => rfl) r1371)
    obtain ⟨c1375, h⟩ := chk_s h
    have k1376 := eq_true (show (r1371.length + e1370.attrs.length) * 56 ≤ 140737488355328 by omega)
    have k1377 := eq_true (map_len (n := 4) (f := encAttr) (fun _ => rfl) e1370.attrs)
    cases h
    try simp -implicitDefEqProofs only [go_sem, uA, uB, uC, uD, uE, reduceIte, reduceCtorEq, uF, uG, uH, b1369, c1370a, c1370b, c1370n, g1370, c1372, k1373, k1374, c1375, k1376, k1377]
    refine ⟨by decide, _, .refl _, ?_⟩
    simp -implicitDefEqProofs only [go_sem, uA, uB, uC, uD, uE, reduceIte, reduceCtorEq, uF, uG, uH, b1369, c1370a, c1370b, c1370n, g1370, c1372, k1373, k1374, c1375, k1376, k1377] <;> ((repeat' apply And.intro) <;> rfl)
end
end Go.Proofs.YtdlohnchnneaeaaGreat
/- Functions of the program as functions of Lean, and the walks that show them. Printed by gen.py. -/
set_option linter.unusedSimpArgs false
set_option linter.unusedVariables false
set_option maxRecDepth 20000
namespace Go.Proofs.YtdlohnchnneaeaaGreat
open Go.Abs
open Nat renaming reduceEqDiff → uA, reduceLT → uB, reduceLeDiff → uC, reduceMul → uD, reduceAdd → uE, reduceBEq → uF, reduceSub → uG
open Int renaming reduceToNat → uH

attribute [local go_sem] encAttr encEdge encEdgeT encI encInts encL_encRow encNode encPair encRow encS encStrs enc_T_A2_Int enc_T_A3_Int
noncomputable section
def f_subgraph_list (a0 : List Int) (a1 : Int) : Option Int :=
  chk (a0.length ≤ fuel) <|
  forN (fun i265 (s265 : Unit) nxts265 brks265 =>
    thn (a0[i265]?) fun e272 =>
    cond (decide (e272 < 0)) (
      some 6) <|
    cond (decide (a1 ≤ e272)) (
      some 6) <|
    cond (decide (0 < ((i265 : Nat) : Int))) (
      thn (atZ a0 (IntKind.i64.wrap (((i265 : Nat) : Int) - 1))) fun e276 =>
      cond (decide (e272 ≤ e276)) (
        some 12) <|
      nxts265 ()) <|
    nxts265 ())
  (a0.length - 0) 0 () fun s265 =>
  some 0
set_option maxHeartbeats 4000000 in
theorem w_subgraph_list (a0 : List Int) (a1 : Int) (r : Int) (h : f_subgraph_list a0 a1 = some r) : CallV Go.Proofs.Tryz.prog 149 [.lst (a0.map encI), .val (.int .i64 a1)] (fun v => v = .val (.int .i64 r)) := by
  refine CallV.ple ?_
  refine callV_of_cw [] Ty.mixed Go.Proofs.Tryz.func149 rfl (by kernel_rfl) (by simp [Go.Proofs.Tryz.ntmps149]) ?_; rw [Go.Proofs.Tryz.ntmps149, Go.Proofs.Tryz.results149]
  unfold f_subgraph_list at h
  obtain ⟨fus265, h⟩ := chk_s h
  unfold fuel at fus265
  try simp -implicitDefEqProofs only [go_sem, uA, uB, uC, uD, uE, reduceIte, reduceCtorEq, uF, uG, uH]
  refine forN_go (fun x : (Nat × (Unit)) × (Unit) => envL [(0, .p (.lst (a0.map encI))), (1, .p (.val (.int .i64 a1))), (7, .p (.lst (a0.map encI))), (8, .p (.val (.int .i64 ((a0.length : Nat) : Int)))), (9, .p (.val (.int .i64 ((x.1.1 : Nat) : Int))))]) (fun x => heapL []) () h (weakL (by simp -implicitDefEqProofs only [go_sem, uA, uB, uC, uD, uE, reduceIte, reduceCtorEq, uF, uG, uH] <;> ((repeat' apply And.intro) <;> rfl))) ?_ ?_
  · intro i265 s265 g265 nxts265 Rs265 his265 hNs265 h
    have hws265 := wrap_succ (k := i265) his265 (by omega)
    try dsimp only at h
    obtain ⟨e272, c272, g272, q272, h⟩ := idx_s encI h
    try simp -implicitDefEqProofs only [go_sem, uA, uB, uC, uD, uE, reduceIte, reduceCtorEq, uF, uG, uH, his265, hws265, c272, g272]
    refine walkG_splitN (fun b273 => ?_) (fun b273 => ?_)
    · replace h := cond_t h b273
      cases h
      try simp -implicitDefEqProofs only [go_sem, uA, uB, uC, uD, uE, reduceIte, reduceCtorEq, uF, uG, uH, his265, hws265, c272, g272, b273]
      all_goals ((repeat' apply And.intro) <;> rfl)
    · replace h := cond_f h b273
      try simp -implicitDefEqProofs only [go_sem, uA, uB, uC, uD, uE, reduceIte, reduceCtorEq, uF, uG, uH, his265, hws265, c272, g272, b273]
      refine condC_split (fun b274 => ?_) (fun b274 => ?_)
      · replace h := cond_t h b274
        cases h
        try simp -implicitDefEqProofs only [go_sem, uA, uB, uC, uD, uE, reduceIte, reduceCtorEq, uF, uG, uH, his265, hws265, c272, g272, b273, b274]
        all_goals ((repeat' apply And.intro) <;> rfl)
      · replace h := cond_f h b274
        try simp -implicitDefEqProofs only [go_sem, uA, uB, uC, uD, uE, reduceIte, reduceCtorEq, uF, uG, uH, his265, hws265, c272, g272, b273, b274]
        refine walkG_split (fun b275 => ?_) (fun b275 => ?_)
        · replace h := cond_t h b275
          obtain ⟨e276, c276a, c276b, g276, q276, h⟩ := atZ_s encI h
          have c276n := toNat_lt c276a c276b
          try simp -implicitDefEqProofs only [go_sem, uA, uB, uC, uD, uE, reduceIte, reduceCtorEq, uF, uG, uH, his265, hws265, c272, g272, b273, b274, b275, c276a, c276b, c276n, g276]
          refine condC_split (fun b277 => ?_) (fun b277 => ?_)
          · replace h := cond_t h b277
            cases h
            try simp -implicitDefEqProofs only [go_sem, uA, uB, uC, uD, uE, reduceIte, reduceCtorEq, uF, uG, uH, his265, hws265, c272, g272, b273, b274, b275, c276a, c276b, c276n, g276, b277]
            all_goals ((repeat' apply And.intro) <;> rfl)
          · replace h := cond_f h b277
            try simp -implicitDefEqProofs only [go_sem, uA, uB, uC, uD, uE, reduceIte, reduceCtorEq, uF, uG, uH, his265, hws265, c272, g272, b273, b274, b275, c276a, c276b, c276n, g276, b277]
            exact hNs265 () () h (weakL (by simp -implicitDefEqProofs only [go_sem, uA, uB, uC, uD, uE, reduceIte, reduceCtorEq, uF, uG, uH, his265, hws265, c272, g272, b273, b274, b275, c276a, c276b, c276n, g276, b277] <;> ((repeat' apply And.intro) <;> rfl)))
        · replace h := cond_f h b275
          try simp -implicitDefEqProofs only [go_sem, uA, uB, uC, uD, uE, reduceIte, reduceCtorEq, uF, uG, uH, his265, hws265, c272, g272, b273, b274, b275]
          exact hNs265 () () h (weakL (by simp -implicitDefEqProofs only [go_sem, uA, uB, uC, uD, uE, reduceIte, reduceCtorEq, uF, uG, uH, his265, hws265, c272, g272, b273, b274, b275] <;> ((repeat' apply And.intro) <;> rfl)))
  · intro i265 s265 g265 Rs265 hes265 h
    have hns265 : ¬ (i265 < a0.length) := by omega
    try dsimp only at h
    cases h
    try simp -implicitDefEqProofs only [go_sem, uA, uB, uC, uD, uE, reduceIte, reduceCtorEq, uF, uG, uH, hns265]
    all_goals ((repeat' apply And.intro) <;> rfl)

def f_cmp_isNaN_int (a0 : Int) : Option Bool :=
  some (!(decide (a0 = a0)))
set_option maxHeartbeats 4000000 in
theorem w_cmp_isNaN_int (a0 : Int) (r : Bool) (h : f_cmp_isNaN_int a0 = some r) : CallV Go.Proofs.Tryz.prog 151 [.val (.int .i64 a0)] (fun v => v = .val (.bool r)) := by
  refine CallV.ple ?_
  refine callV_of_cw [] Ty.mixed Go.Proofs.Tryz.func151 rfl (by kernel_rfl) (by simp [Go.Proofs.Tryz.ntmps151]) ?_; rw [Go.Proofs.Tryz.ntmps151, Go.Proofs.Tryz.results151]
  unfold f_cmp_isNaN_int at h
  cases h
  try simp -implicitDefEqProofs only [go_sem, uA, uB, uC, uD, uE, reduceIte, reduceCtorEq, uF, uG, uH]
  all_goals ((repeat' apply And.intro) <;> rfl)

def f_scarfjointref05_SameInts (a0 : List Int) (a1 : List Int) : Option Bool :=
  cond (decide (((a0.length : Nat) : Int) = ((a1.length : Nat) : Int))) (
    chk (a0.length ≤ fuel) <|
    forN (fun i1240 (s1240 : Unit) nxts1240 brks1240 =>
      thn (a0[i1240]?) fun e1244 =>
      thn (a1[i1240]?) fun e1245 =>
      cond (decide (e1244 = e1245)) (
        nxts1240 ()) <|
      some false)
    (a0.length - 0) 0 () fun s1240 =>
    some true) <|
  some false
set_option maxHeartbeats 4000000 in
theorem w_scarfjointref05_SameInts (a0 : List Int) (a1 : List Int) (r : Bool) (h : f_scarfjointref05_SameInts a0 a1 = some r) : CallV Go.Proofs.Tryz.prog 41 [.lst (a0.map encI), .lst (a1.map encI)] (fun v => v = .val (.bool r)) := by
  refine CallV.ple ?_
  refine callV_of_cw [] Ty.mixed Go.Proofs.Tryz.func41 rfl (by kernel_rfl) (by simp [Go.Proofs.Tryz.ntmps41]) ?_; rw [Go.Proofs.Tryz.ntmps41, Go.Proofs.Tryz.results41]
  unfold f_scarfjointref05_SameInts at h
  try simp -implicitDefEqProofs only [go_sem, uA, uB, uC, uD, uE, reduceIte, reduceCtorEq, uF, uG, uH]
  refine condC_splitN (fun b1234 => ?_) (fun b1234 => ?_)
  · replace h := cond_t h b1234
    obtain ⟨fus1240, h⟩ := chk_s h
    unfold fuel at fus1240
    try simp -implicitDefEqProofs only [go_sem, uA, uB, uC, uD, uE, reduceIte, reduceCtorEq, uF, uG, uH, b1234]
    refine forN_go (fun x : (Nat × (Unit)) × (Unit) => envL [(0, .p (.lst (a0.map encI))), (1, .p (.lst (a1.map encI))), (5, .p (.val (.int .i64 ((x.1.1 : Nat) : Int))))]) (fun x => heapL []) () h (weakL (by simp -implicitDefEqProofs only [go_sem, uA, uB, uC, uD, uE, reduceIte, reduceCtorEq, uF, uG, uH, b1234] <;> ((repeat' apply And.intro) <;> rfl))) ?_ ?_
    · intro i1240 s1240 g1240 nxts1240 Rs1240 his1240 hNs1240 h
      have hws1240 := wrap_succ (k := i1240) his1240 (by omega)
      try dsimp only at h
      try simp -implicitDefEqProofs only [go_sem, uA, uB, uC, uD, uE, reduceIte, reduceCtorEq, uF, uG, uH, b1234, his1240, hws1240]
      refine draw_txt [.q, .q, .q, .q, .q, .q, .q, .q, .q] (by kernel_rfl) ?_
      obtain ⟨e1244, c1244, g1244, q1244, h⟩ := idx_s encI h
      obtain ⟨e1245, c1245, g1245, q1245, h⟩ := idx_s encI h
      try simp -implicitDefEqProofs only [go_sem, uA, uB, uC, uD, uE, reduceIte, reduceCtorEq, uF, uG, uH, b1234, his1240, hws1240, c1244, g1244, c1245, g1245]
      refine condC_splitN (fun b1246 => ?_) (fun b1246 => ?_)
      · replace h := cond_t h b1246
        try simp -implicitDefEqProofs only [go_sem, uA, uB, uC, uD, uE, reduceIte, reduceCtorEq, uF, uG, uH, b1234, his1240, hws1240, c1244, g1244, c1245, g1245, b1246]
        exact hNs1240 () () h (weakL (by simp -implicitDefEqProofs only [go_sem, uA, uB, uC, uD, uE, reduceIte, reduceCtorEq, uF, uG, uH, b1234, his1240, hws1240, c1244, g1244, c1245, g1245, b1246] <;> ((repeat' apply And.intro) <;> rfl)))
      · replace h := cond_f h b1246
        cases h
        try simp -implicitDefEqProofs only [go_sem, uA, uB, uC, uD, uE, reduceIte, reduceCtorEq, uF, uG, uH, b1234, his1240, hws1240, c1244, g1244, c1245, g1245, b1246]
        all_goals ((repeat' apply And.intro) <;> rfl)
    · intro i1240 s1240 g1240 Rs1240 hes1240 h
      have hns1240 : ¬ (i1240 < a0.length) := by omega
      try dsimp only at h
      cases h
      try simp -implicitDefEqProofs only [go_sem, uA, uB, uC, uD, uE, reduceIte, reduceCtorEq, uF, uG, uH, b1234, hns1240]
      all_goals ((repeat' apply And.intro) <;> rfl)
  · replace h := cond_f h b1234
    cases h
    try simp -implicitDefEqProofs only [go_sem, uA, uB, uC, uD, uE, reduceIte, reduceCtorEq, uF, uG, uH, b1234]
    all_goals ((repeat' apply And.intro) <;> rfl)

def f_scarfjointref04_Below1 : Nat → Types → Int → Int →  Option Bool
  | 0, _, _, _ => none
  | n + 1, a0, a1, a2 =>
    cond (decide (a1 = a2)) (
      some true) <|
    cond (decide (0 ≤ a1)) (
      thn (atZ a0.nodes a1) fun e1951 =>
      thn (f_scarfjointref04_Below1 n a0 e1951.parent a2) fun r1952 =>
      some r1952) <|
    some false
set_option maxHeartbeats 4000000 in
theorem w_scarfjointref04_Below1 (n : Nat) : ∀ (a0 : Types) (a1 : Int) (a2 : Int) (r : Bool) (h : f_scarfjointref04_Below1 n a0 a1 a2 = some r), CallV Go.Proofs.Tryz.prog 83 [.agg [.lst (a0.nodes.map encNode), .lst (a0.edges.map encEdgeT)], .val (.int .i64 a1), .val (.int .i64 a2)] (fun v => v = .val (.bool r)) := by
  induction n with
  | zero => intro a0 a1 a2 r h; cases h
  | succ n ih =>
  intro a0 a1 a2 r h
  refine CallV.ple ?_
  refine callV_of_cw [] Ty.mixed Go.Proofs.Tryz.func83 rfl (by kernel_rfl) (by simp [Go.Proofs.Tryz.ntmps83]) ?_; rw [Go.Proofs.Tryz.ntmps83, Go.Proofs.Tryz.results83]
  unfold f_scarfjointref04_Below1 at h
  try simp -implicitDefEqProofs only [go_sem, uA, uB, uC, uD, uE, reduceIte, reduceCtorEq, uF, uG, uH]
  refine draw_txt [.q, .q, .q, .q, .q, .q, .q, .q, .q, .q, .q, .q, .q, .q, .q, .q, .q, .q, .q] (by kernel_rfl) ?_
  try simp -implicitDefEqProofs only [go_sem, uA, uB, uC, uD, uE, reduceIte, reduceCtorEq, uF, uG, uH]
  refine walkDG_splitN (fun b1949 => ?_) (fun b1949 => ?_)
  · replace h := cond_t h b1949
    cases h
    try simp -implicitDefEqProofs only [go_sem, uA, uB, uC, uD, uE, reduceIte, reduceCtorEq, uF, uG, uH, b1949]
    all_goals ((repeat' apply And.intro) <;> rfl)
  · replace h := cond_f h b1949
    try simp -implicitDefEqProofs only [go_sem, uA, uB, uC, uD, uE, reduceIte, reduceCtorEq, uF, uG, uH, b1949]
    refine walkDG_split (fun b1950 => ?_) (fun b1950 => ?_)
    · replace h := cond_t h b1950
      obtain ⟨e1951, c1951a, c1951b, g1951, q1951, h⟩ := atZ_s encNode h
      have c1951n := toNat_lt c1951a c1951b
      obtain ⟨r1952, hr1952, h⟩ := thn_s h
      try simp -implicitDefEqProofs only [go_sem, uA, uB, uC, uD, uE, reduceIte, reduceCtorEq, uF, uG, uH, b1949, b1950, c1951a, c1951b, c1951n, g1951]
      refine calldG (ih a0 e1951.parent a2 r1952 hr1952) (by simp -implicitDefEqProofs only [go_sem, uA, uB, uC, uD, uE, reduceIte, reduceCtorEq, uF, uG, uH, b1949, b1950, c1951a, c1951b, c1951n, g1951] <;> rfl) (pleL_refl _) (by first | exact pers | exact scal rfl) ?_
      cases h
      try simp -implicitDefEqProofs only [go_sem, uA, uB, uC, uD, uE, reduceIte, reduceCtorEq, uF, uG, uH, b1949, b1950, c1951a, c1951b, c1951n, g1951]
      all_goals ((repeat' apply And.intro) <;> rfl)
    · replace h := cond_f h b1950
      cases h
      try simp -implicitDefEqProofs only [go_sem, uA, uB, uC, uD, uE, reduceIte, reduceCtorEq, uF, uG, uH, b1949, b1950]
      all_goals ((repeat' apply And.intro) <;> rfl)

def f_slices_Concat_Lint (a0 : List (List (List Int))) : Option (List (List Int)) :=
  chk (a0.length ≤ fuel) <|
  forN (fun i2600 (s2600 : Int) nxts2600 brks2600 =>
    thn (a0[i2600]?) fun e2603 =>
    cond (decide ((IntKind.i64.wrap (s2600 + ((e2603.length : Nat) : Int))) < 0)) (
      none) <|
    nxts2600 (IntKind.i64.wrap (s2600 + ((e2603.length : Nat) : Int))))
  (a0.length - 0) 0 0 fun s2600 =>
  thn (f_slices_Grow_Lint ([] : List (List Int)) s2600) fun r2605 =>
  chk (a0.length ≤ fuel) <|
  forN (fun i2612 (s2612 : (List (List Int))) nxts2612 brks2612 =>
    thn (a0[i2612]?) fun e2617 =>
    chk (s2612.length + e2617.length ≤ 68719476736) <|
    nxts2612 (s2612 ++ e2617))
  (a0.length - 0) 0 r2605 fun s2612 =>
  some s2612
set_option maxHeartbeats 4000000 in
theorem w_slices_Concat_Lint (a0 : List (List (List Int))) (r : (List (List Int))) (h : f_slices_Concat_Lint a0 = some r) : CallF Go.Proofs.Tryz.prog 45 [.lst (a0.map encL_encRow)] (fun v => v = .row 26 1 (r.map encRow)) := by
  refine CallF.rle ?_
  refine callF_of_cw [] Ty.mixed Go.Proofs.Tryz.func45 rfl (by kernel_rfl) (by simp [Go.Proofs.Tryz.ntmps45]) ?_; rw [Go.Proofs.Tryz.ntmps45, Go.Proofs.Tryz.results45]
  unfold f_slices_Concat_Lint at h
  obtain ⟨fus2600, h⟩ := chk_s h
  unfold fuel at fus2600
  try simp -implicitDefEqProofs only [go_sem, uA, uB, uC, uD, uE, reduceIte, reduceCtorEq, uF, uG, uH]
  refine forN_go (fun x : (Nat × (Int)) × (Unit) => envL [(0, .p (.lst (a0.map encL_encRow))), (3, .p (.val (.int .i64 x.1.2))), (9, .p (.lst (a0.map encL_encRow))), (10, .p (.val (.int .i64 ((a0.length : Nat) : Int)))), (11, .p (.val (.int .i64 ((x.1.1 : Nat) : Int))))]) (fun x => heapL []) () h (weakL (by simp -implicitDefEqProofs only [go_sem, uA, uB, uC, uD, uE, reduceIte, reduceCtorEq, uF, uG, uH] <;> ((repeat' apply And.intro) <;> rfl))) ?_ ?_
  · intro i2600 s2600 g2600 nxts2600 Rs2600 his2600 hNs2600 h
    have hws2600 := wrap_succ (k := i2600) his2600 (by omega)
    try dsimp only at h
    obtain ⟨e2603, c2603, g2603, q2603, h⟩ := idx_s encL_encRow h
    try simp -implicitDefEqProofs only [go_sem, uA, uB, uC, uD, uE, reduceIte, reduceCtorEq, uF, uG, uH, his2600, hws2600, c2603, g2603]
    refine condC_split (fun b2604 => ?_) (fun b2604 => ?_)
    · replace h := cond_t h b2604
      cases h
    · replace h := cond_f h b2604
      try simp -implicitDefEqProofs only [go_sem, uA, uB, uC, uD, uE, reduceIte, reduceCtorEq, uF, uG, uH, his2600, hws2600, c2603, g2603, b2604]
      exact hNs2600 (IntKind.i64.wrap (s2600 + ((e2603.length : Nat) : Int))) () h (weakL (by simp -implicitDefEqProofs only [go_sem, uA, uB, uC, uD, uE, reduceIte, reduceCtorEq, uF, uG, uH, his2600, hws2600, c2603, g2603, b2604] <;> ((repeat' apply And.intro) <;> rfl)))
  · intro i2600 s2600 g2600 Rs2600 hes2600 h
    have hns2600 : ¬ (i2600 < a0.length) := by omega
    try dsimp only at h
    obtain ⟨r2605, hr2605, h⟩ := thn_s h
    try simp -implicitDefEqProofs only [go_sem, uA, uB, uC, uD, uE, reduceIte, reduceCtorEq, uF, uG, uH, hns2600]
    refine callfG 1384 (w_slices_Grow_Lint ([] : List (List Int)) s2600 r2605 hr2605) (by simp -implicitDefEqProofs only [go_sem, uA, uB, uC, uD, uE, reduceIte, reduceCtorEq, uF, uG, uH, hns2600] <;> rfl) (by first | exact pleL_refl _ | (simp -implicitDefEqProofs only [go_sem, uA, uB, uC, uD, uE, reduceIte, reduceCtorEq, uF, uG, uH, hns2600] <;> rfl)) (by first | exact persF | exact flatF rfl | exact flatF (by simp [RV.flat, RV.flatL, PV.scalar, isVal, encRow])) (by simp -implicitDefEqProofs only [go_sem, uA, uB, uC, uD, uE, reduceIte, reduceCtorEq, uF, uG, uH, hns2600]) ?_
    obtain ⟨fus2612, h⟩ := chk_s h
    unfold fuel at fus2612
    try simp -implicitDefEqProofs only [go_sem, uA, uB, uC, uD, uE, reduceIte, reduceCtorEq, uF, uG, uH, hns2600]
    refine forN_go (fun x : (Nat × ((List (List Int)))) × (Nat) => envL [(6, .row 1384 x.2), (25, .p (.lst (a0.map encL_encRow))), (26, .p (.val (.int .i64 ((a0.length : Nat) : Int)))), (27, .p (.val (.int .i64 ((x.1.1 : Nat) : Int))))]) (fun x => heapL [(1384, .row x.2 26 1 (x.1.2.map encRow))]) 0 h (weakL (by simp -implicitDefEqProofs only [go_sem, uA, uB, uC, uD, uE, reduceIte, reduceCtorEq, uF, uG, uH, hns2600] <;> ((repeat' apply And.intro) <;> rfl))) ?_ ?_
    · intro i2612 s2612 g2612 nxts2612 Rs2612 his2612 hNs2612 h
      have hws2612 := wrap_succ (k := i2612) his2612 (by omega)
      try dsimp only at h
      obtain ⟨e2617, c2617, g2617, q2617, h⟩ := idx_s encL_encRow h
      obtain ⟨c2618, h⟩ := chk_s h
      have k2619 := eq_true (show (s2612.length + e2617.length) * 24 ≤ 140737488355328 by omega)
      have k2620 := eq_true (map_len (n := 1) (f := encRow) (fun _ => rfl) e2617)
      try simp -implicitDefEqProofs only [go_sem, uA, uB, uC, uD, uE, reduceIte, reduceCtorEq, uF, uG, uH, hns2600, his2612, hws2612, c2617, g2617, c2618, k2619, k2620]
      exact hNs2612 (s2612 ++ e2617) (g2612 + 1) h (weakL (by simp -implicitDefEqProofs only [go_sem, uA, uB, uC, uD, uE, reduceIte, reduceCtorEq, uF, uG, uH, hns2600, his2612, hws2612, c2617, g2617, c2618, k2619, k2620] <;> ((repeat' apply And.intro) <;> rfl)))
    · intro i2612 s2612 g2612 Rs2612 hes2612 h
      have hns2612 : ¬ (i2612 < a0.length) := by omega
      try dsimp only at h
      cases h
      try simp -implicitDefEqProofs only [go_sem, uA, uB, uC, uD, uE, reduceIte, reduceCtorEq, uF, uG, uH, hns2600, hns2612]
      refine ⟨by decide, _, .refl _, ?_⟩
      simp -implicitDefEqProofs only [go_sem, uA, uB, uC, uD, uE, reduceIte, reduceCtorEq, uF, uG, uH, hns2600, hns2612] <;> ((repeat' apply And.intro) <;> rfl)
end
end Go.Proofs.YtdlohnchnneaeaaGreat
/- Functions of the program as functions of Lean, and the walks that show them. Printed by gen.py. -/
set_option linter.unusedSimpArgs false
set_option linter.unusedVariables false
set_option maxRecDepth 20000
namespace Go.Proofs.YtdlohnchnneaeaaGreat
open Go.Abs
open Nat renaming reduceEqDiff → uA, reduceLT → uB, reduceLeDiff → uC, reduceMul → uD, reduceAdd → uE, reduceBEq → uF, reduceSub → uG
open Int renaming reduceToNat → uH

attribute [local go_sem] encAttr encEdge encEdgeT encI encInts encL_encRow encNode encPair encRow encS encStrs enc_T_A2_Int enc_T_A3_Int
noncomputable section
def f_slices_isNaN_int (a0 : Int) : Option Bool :=
  some (!(decide (a0 = a0)))
set_option maxHeartbeats 4000000 in
theorem w_slices_isNaN_int (a0 : Int) (r : Bool) (h : f_slices_isNaN_int a0 = some r) : CallV Go.Proofs.Tryz.prog 132 [.val (.int .i64 a0)] (fun v => v = .val (.bool r)) := by
  refine CallV.ple ?_
  refine callV_of_cw [] Ty.mixed Go.Proofs.Tryz.func132 rfl (by kernel_rfl) (by simp [Go.Proofs.Tryz.ntmps132]) ?_; rw [Go.Proofs.Tryz.ntmps132, Go.Proofs.Tryz.results132]
  unfold f_slices_isNaN_int at h
  cases h
  try simp -implicitDefEqProofs only [go_sem, uA, uB, uC, uD, uE, reduceIte, reduceCtorEq, uF, uG, uH]
  all_goals ((repeat' apply And.intro) <;> rfl)

def f_scarfjointref07_ascending (a0 : List Int) (a1 : Int) : Option Int :=
  chk (a0.length ≤ fuel) <|
  forN (fun i655 (s655 : Unit) nxts655 brks655 =>
    thn (a0[i655]?) fun e662 =>
    cond (decide (e662 < 0)) (
      some 6) <|
    cond (decide (a1 ≤ e662)) (
      some 6) <|
    cond (decide (0 < ((i655 : Nat) : Int))) (
      thn (atZ a0 (IntKind.i64.wrap (((i655 : Nat) : Int) - 1))) fun e666 =>
      cond (decide (e662 ≤ e666)) (
        some 12) <|
      nxts655 ()) <|
    nxts655 ())
  (a0.length - 0) 0 () fun s655 =>
  some 0
set_option maxHeartbeats 4000000 in
theorem w_scarfjointref07_ascending (a0 : List Int) (a1 : Int) (r : Int) (h : f_scarfjointref07_ascending a0 a1 = some r) : CallV Go.Proofs.Tryz.prog 152 [.lst (a0.map encI), .val (.int .i64 a1)] (fun v => v = .val (.int .i64 r)) := by
  refine CallV.ple ?_
  refine callV_of_cw [] Ty.mixed Go.Proofs.Tryz.func152 rfl (by kernel_rfl) (by simp [Go.Proofs.Tryz.ntmps152]) ?_; rw [Go.Proofs.Tryz.ntmps152, Go.Proofs.Tryz.results152]
  unfold f_scarfjointref07_ascending at h
  obtain ⟨fus655, h⟩ := chk_s h
  unfold fuel at fus655
  try simp -implicitDefEqProofs only [go_sem, uA, uB, uC, uD, uE, reduceIte, reduceCtorEq, uF, uG, uH]
  refine forN_go (fun x : (Nat × (Unit)) × (Unit) => envL [(0, .p (.lst (a0.map encI))), (1, .p (.val (.int .i64 a1))), (5, .p (.val (.int .i64 ((x.1.1 : Nat) : Int))))]) (fun x => heapL []) () h (weakL (by simp -implicitDefEqProofs only [go_sem, uA, uB, uC, uD, uE, reduceIte, reduceCtorEq, uF, uG, uH] <;> ((repeat' apply And.intro) <;> rfl))) ?_ ?_
  · intro i655 s655 g655 nxts655 Rs655 his655 hNs655 h
    have hws655 := wrap_succ (k := i655) his655 (by omega)
    try dsimp only at h
    obtain ⟨e662, c662, g662, q662, h⟩ := idx_s encI h
    try simp -implicitDefEqProofs only [go_sem, uA, uB, uC, uD, uE, reduceIte, reduceCtorEq, uF, uG, uH, his655, hws655, c662, g662]
    refine walkG_splitN (fun b663 => ?_) (fun b663 => ?_)
    · replace h := cond_t h b663
      cases h
      try simp -implicitDefEqProofs only [go_sem, uA, uB, uC, uD, uE, reduceIte, reduceCtorEq, uF, uG, uH, his655, hws655, c662, g662, b663]
      all_goals ((repeat' apply And.intro) <;> rfl)
    · replace h := cond_f h b663
      try simp -implicitDefEqProofs only [go_sem, uA, uB, uC, uD, uE, reduceIte, reduceCtorEq, uF, uG, uH, his655, hws655, c662, g662, b663]
      refine condC_split (fun b664 => ?_) (fun b664 => ?_)
      · replace h := cond_t h b664
        cases h
        try simp -implicitDefEqProofs only [go_sem, uA, uB, uC, uD, uE, reduceIte, reduceCtorEq, uF, uG, uH, his655, hws655, c662, g662, b663, b664]
        all_goals ((repeat' apply And.intro) <;> rfl)
      · replace h := cond_f h b664
        try simp -implicitDefEqProofs only [go_sem, uA, uB, uC, uD, uE, reduceIte, reduceCtorEq, uF, uG, uH, his655, hws655, c662, g662, b663, b664]
        refine draw_txt [.q, .q, .q, .q, .q, .q, .q, .q, .q, .q, .q, .q, .q, .q] (by kernel_rfl) ?_
        try simp -implicitDefEqProofs only [go_sem, uA, uB, uC, uD, uE, reduceIte, reduceCtorEq, uF, uG, uH, his655, hws655, c662, g662, b663, b664]
        refine walkDG_split (fun b665 => ?_) (fun b665 => ?_)
        · replace h := cond_t h b665
          obtain ⟨e666, c666a, c666b, g666, q666, h⟩ := atZ_s encI h
          have c666n := toNat_lt c666a c666b
          try simp -implicitDefEqProofs only [go_sem, uA, uB, uC, uD, uE, reduceIte, reduceCtorEq, uF, uG, uH, his655, hws655, c662, g662, b663, b664, b665, c666a, c666b, c666n, g666]
          refine condC_split (fun b667 => ?_) (fun b667 => ?_)
          · replace h := cond_t h b667
            cases h
            try simp -implicitDefEqProofs only [go_sem, uA, uB, uC, uD, uE, reduceIte, reduceCtorEq, uF, uG, uH, his655, hws655, c662, g662, b663, b664, b665, c666a, c666b, c666n, g666, b667]
            all_goals ((repeat' apply And.intro) <;> rfl)
          · replace h := cond_f h b667
            try simp -implicitDefEqProofs only [go_sem, uA, uB, uC, uD, uE, reduceIte, reduceCtorEq, uF, uG, uH, his655, hws655, c662, g662, b663, b664, b665, c666a, c666b, c666n, g666, b667]
            exact hNs655 () () h (weakL (by simp -implicitDefEqProofs only [go_sem, uA, uB, uC, uD, uE, reduceIte, reduceCtorEq, uF, uG, uH, his655, hws655, c662, g662, b663, b664, b665, c666a, c666b, c666n, g666, b667] <;> ((repeat' apply And.intro) <;> rfl)))
        · replace h := cond_f h b665
          try simp -implicitDefEqProofs only [go_sem, uA, uB, uC, uD, uE, reduceIte, reduceCtorEq, uF, uG, uH, his655, hws655, c662, g662, b663, b664, b665]
          exact hNs655 () () h (weakL (by simp -implicitDefEqProofs only [go_sem, uA, uB, uC, uD, uE, reduceIte, reduceCtorEq, uF, uG, uH, his655, hws655, c662, g662, b663, b664, b665] <;> ((repeat' apply And.intro) <;> rfl)))
  · intro i655 s655 g655 Rs655 hes655 h
    have hns655 : ¬ (i655 < a0.length) := by omega
    try dsimp only at h
    cases h
    try simp -implicitDefEqProofs only [go_sem, uA, uB, uC, uD, uE, reduceIte, reduceCtorEq, uF, uG, uH, hns655]
    all_goals ((repeat' apply And.intro) <;> rfl)

def f_scarfjointref07_index (a0 : List Int) (a1 : Int) : Option Int :=
  chk (a0.length ≤ fuel) <|
  forN (fun i760 (s760 : Unit) nxts760 brks760 =>
    thn (a0[i760]?) fun e763 =>
    cond (decide (e763 = a1)) (
      some ((i760 : Nat) : Int)) <|
    nxts760 ())
  (a0.length - 0) 0 () fun s760 =>
  some (-1)
set_option maxHeartbeats 4000000 in
theorem w_scarfjointref07_index (a0 : List Int) (a1 : Int) (r : Int) (h : f_scarfjointref07_index a0 a1 = some r) : CallV Go.Proofs.Tryz.prog 101 [.lst (a0.map encI), .val (.int .i64 a1)] (fun v => v = .val (.int .i64 r)) := by
  refine CallV.ple ?_
  refine callV_of_cw [] Ty.mixed Go.Proofs.Tryz.func101 rfl (by kernel_rfl) (by simp [Go.Proofs.Tryz.ntmps101]) ?_; rw [Go.Proofs.Tryz.ntmps101, Go.Proofs.Tryz.results101]
  unfold f_scarfjointref07_index at h
  obtain ⟨fus760, h⟩ := chk_s h
  unfold fuel at fus760
  try simp -implicitDefEqProofs only [go_sem, uA, uB, uC, uD, uE, reduceIte, reduceCtorEq, uF, uG, uH]
  refine forN_go (fun x : (Nat × (Unit)) × (Unit) => envL [(0, .p (.lst (a0.map encI))), (1, .p (.val (.int .i64 a1))), (5, .p (.val (.int .i64 ((x.1.1 : Nat) : Int))))]) (fun x => heapL []) () h (weakL (by simp -implicitDefEqProofs only [go_sem, uA, uB, uC, uD, uE, reduceIte, reduceCtorEq, uF, uG, uH] <;> ((repeat' apply And.intro) <;> rfl))) ?_ ?_
  · intro i760 s760 g760 nxts760 Rs760 his760 hNs760 h
    have hws760 := wrap_succ (k := i760) his760 (by omega)
    try dsimp only at h
    obtain ⟨e763, c763, g763, q763, h⟩ := idx_s encI h
    try simp -implicitDefEqProofs only [go_sem, uA, uB, uC, uD, uE, reduceIte, reduceCtorEq, uF, uG, uH, his760, hws760, c763, g763]
    refine condC_split (fun b764 => ?_) (fun b764 => ?_)
    · replace h := cond_t h b764
      cases h
      try simp -implicitDefEqProofs only [go_sem, uA, uB, uC, uD, uE, reduceIte, reduceCtorEq, uF, uG, uH, his760, hws760, c763, g763, b764]
      all_goals ((repeat' apply And.intro) <;> rfl)
    · replace h := cond_f h b764
      try simp -implicitDefEqProofs only [go_sem, uA, uB, uC, uD, uE, reduceIte, reduceCtorEq, uF, uG, uH, his760, hws760, c763, g763, b764]
      exact hNs760 () () h (weakL (by simp -implicitDefEqProofs only [go_sem, uA, uB, uC, uD, uE, reduceIte, reduceCtorEq, uF, uG, uH, his760, hws760, c763, g763, b764] <;> ((repeat' apply And.intro) <;> rfl)))
  · intro i760 s760 g760 Rs760 hes760 h
    have hns760 : ¬ (i760 < a0.length) := by omega
    try dsimp only at h
    cases h
    try simp -implicitDefEqProofs only [go_sem, uA, uB, uC, uD, uE, reduceIte, reduceCtorEq, uF, uG, uH, hns760]
    all_goals ((repeat' apply And.intro) <;> rfl)

def f_scarfjointref15_concrete (a0 : Types) : Option (List Int) :=
  chk (a0.nodes.length ≤ fuel) <|
  forN (fun i1326 (s1326 : (List Int)) nxts1326 brks1326 =>
    thn (a0.nodes[i1326]?) fun e1332 =>
    cond e1332.abs (
      nxts1326 s1326) <|
    chk (s1326.length + 1 ≤ 68719476736) <|
    nxts1326 (s1326 ++ [((i1326 : Nat) : Int)]))
  (a0.nodes.length - 0) 0 ([] : List Int) fun s1326 =>
  some s1326
set_option maxHeartbeats 4000000 in
theorem w_scarfjointref15_concrete (a0 : Types) (r : (List Int)) (h : f_scarfjointref15_concrete a0 = some r) : CallF Go.Proofs.Tryz.prog 57 [.agg [.lst (a0.nodes.map encNode), .lst (a0.edges.map encEdgeT)]] (fun v => v = .row 3 1 (r.map encI)) := by
  refine CallF.rle ?_
  refine callF_of_cw [22] Ty.mixed Go.Proofs.Tryz.func57 rfl (by kernel_rfl) (by simp [Go.Proofs.Tryz.ntmps57]) ?_; rw [Go.Proofs.Tryz.ntmps57, Go.Proofs.Tryz.results57]
  unfold f_scarfjointref15_concrete at h
  obtain ⟨fus1326, h⟩ := chk_s h
  unfold fuel at fus1326
  try simp -implicitDefEqProofs only [go_sem, uA, uB, uC, uD, uE, reduceIte, reduceCtorEq, uF, uG, uH]
  refine forN_go (fun x : (Nat × ((List Int))) × (Nat) => envL [(1, .ptr 1 0), (3, .row 3324 x.2), (4, .p (.val (.int .i64 ((x.1.1 : Nat) : Int))))]) (fun x => heapL [(1, .box [.p (.lst (a0.nodes.map encNode)), .p (.lst (a0.edges.map encEdgeT))]), (3324, .row x.2 3 1 (x.1.2.map encI))]) 0 h (by refine Weak.trans (weak_nil 3 3324 3 1 rfl rfl (by decide)) ?_; exact (weakL (by simp -implicitDefEqProofs only [go_sem, uA, uB, uC, uD, uE, reduceIte, reduceCtorEq, uF, uG, uH] <;> ((repeat' apply And.intro) <;> rfl)))) ?_ ?_
  · intro i1326 s1326 g1326 nxts1326 Rs1326 his1326 hNs1326 h
    have hws1326 := wrap_succ (k := i1326) his1326 (by omega)
    try dsimp only at h
    obtain ⟨e1332, c1332, g1332, q1332, h⟩ := idx_s encNode h
    try simp -implicitDefEqProofs only [go_sem, uA, uB, uC, uD, uE, reduceIte, reduceCtorEq, uF, uG, uH, his1326, hws1326, c1332, g1332]
    refine condC_splitN (fun b1333 => ?_) (fun b1333 => ?_)
    · replace h := cond_t h b1333
      try simp -implicitDefEqProofs only [go_sem, uA, uB, uC, uD, uE, reduceIte, reduceCtorEq, uF, uG, uH, his1326, hws1326, c1332, g1332, b1333]
      exact hNs1326 s1326 g1326 h (weakL (by simp -implicitDefEqProofs only [go_sem, uA, uB, uC, uD, uE, reduceIte, reduceCtorEq, uF, uG, uH, his1326, hws1326, c1332, g1332, b1333] <;> ((repeat' apply And.intro) <;> rfl)))
    · replace h := cond_f h b1333
      obtain ⟨c1334, h⟩ := chk_s h
      have k1335 := eq_true (show (s1326.length + 1) * 8 ≤ 140737488355328 by omega)
      have a1336 := map_apps encI s1326 [((i1326 : Nat) : Int)] (c := [[.val (.int .i64 ((i1326 : Nat) : Int))]]) rfl
      try simp -implicitDefEqProofs only [go_sem, uA, uB, uC, uD, uE, reduceIte, reduceCtorEq, uF, uG, uH, his1326, hws1326, c1332, g1332, b1333, c1334, k1335, a1336]
      exact hNs1326 (s1326 ++ [((i1326 : Nat) : Int)]) (g1326 + 1) h (weakL (by simp -implicitDefEqProofs only [go_sem, uA, uB, uC, uD, uE, reduceIte, reduceCtorEq, uF, uG, uH, his1326, hws1326, c1332, g1332, b1333, c1334, k1335, a1336] <;> ((repeat' apply And.intro) <;> rfl)))
  · intro i1326 s1326 g1326 Rs1326 hes1326 h
    have hns1326 : ¬ (i1326 < a0.nodes.length) := by omega
    try dsimp only at h
    cases h
    try simp -implicitDefEqProofs only [go_sem, uA, uB, uC, uD, uE, reduceIte, reduceCtorEq, uF, uG, uH, hns1326]
    refine ⟨by decide, _, .refl _, ?_⟩
    simp -implicitDefEqProofs only [go_sem, uA, uB, uC, uD, uE, reduceIte, reduceCtorEq, uF, uG, uH, hns1326] <;> ((repeat' apply And.intro) <;> rfl)

def f_slices_Concat_int (a0 : List (List Int)) : Option (List Int) :=
  chk (a0.length ≤ fuel) <|
  forN (fun i2539 (s2539 : Int) nxts2539 brks2539 =>
    thn (a0[i2539]?) fun e2542 =>
    cond (decide ((IntKind.i64.wrap (s2539 + ((e2542.length : Nat) : Int))) < 0)) (
      none) <|
    nxts2539 (IntKind.i64.wrap (s2539 + ((e2542.length : Nat) : Int))))
  (a0.length - 0) 0 0 fun s2539 =>
  thn (f_slices_Grow_int ([] : List Int) s2539) fun r2544 =>
  chk (a0.length ≤ fuel) <|
  forN (fun i2551 (s2551 : (List Int)) nxts2551 brks2551 =>
    thn (a0[i2551]?) fun e2556 =>
    chk (s2551.length + e2556.length ≤ 68719476736) <|
    nxts2551 (s2551 ++ e2556))
  (a0.length - 0) 0 r2544 fun s2551 =>
  some s2551
set_option maxHeartbeats 4000000 in
theorem w_slices_Concat_int (a0 : List (List Int)) (r : (List Int)) (h : f_slices_Concat_int a0 = some r) : CallF Go.Proofs.Tryz.prog 43 [.lst (a0.map encRow)] (fun v => v = .row 3 1 (r.map encI)) := by
  refine CallF.rle ?_
  refine callF_of_cw [] Ty.mixed Go.Proofs.Tryz.func43 rfl (by kernel_rfl) (by simp [Go.Proofs.Tryz.ntmps43]) ?_; rw [Go.Proofs.Tryz.ntmps43, Go.Proofs.Tryz.results43]
  unfold f_slices_Concat_int at h
  obtain ⟨fus2539, h⟩ := chk_s h
  unfold fuel at fus2539
  try simp -implicitDefEqProofs only [go_sem, uA, uB, uC, uD, uE, reduceIte, reduceCtorEq, uF, uG, uH]
  refine forN_go (fun x : (Nat × (Int)) × (Unit) => envL [(0, .p (.lst (a0.map encRow))), (3, .p (.val (.int .i64 x.1.2))), (9, .p (.lst (a0.map encRow))), (10, .p (.val (.int .i64 ((a0.length : Nat) : Int)))), (11, .p (.val (.int .i64 ((x.1.1 : Nat) : Int))))]) (fun x => heapL []) () h (weakL (by simp -implicitDefEqProofs only [go_sem, uA, uB, uC, uD, uE, reduceIte, reduceCtorEq, uF, uG, uH] <;> ((repeat' apply And.intro) <;> rfl))) ?_ ?_
  · intro i2539 s2539 g2539 nxts2539 Rs2539 his2539 hNs2539 h
    have hws2539 := wrap_succ (k := i2539) his2539 (by omega)
    try dsimp only at h
    obtain ⟨e2542, c2542, g2542, q2542, h⟩ := idx_s encRow h
    try simp -implicitDefEqProofs only [go_sem, uA, uB, uC, uD, uE, reduceIte, reduceCtorEq, uF, uG, uH, his2539, hws2539, c2542, g2542]
    refine condC_split (fun b2543 => ?_) (fun b2543 => ?_)
    · replace h := cond_t h b2543
      cases h
    · replace h := cond_f h b2543
      try simp -implicitDefEqProofs only [go_sem, uA, uB, uC, uD, uE, reduceIte, reduceCtorEq, uF, uG, uH, his2539, hws2539, c2542, g2542, b2543]
      exact hNs2539 (IntKind.i64.wrap (s2539 + ((e2542.length : Nat) : Int))) () h (weakL (by simp -implicitDefEqProofs only [go_sem, uA, uB, uC, uD, uE, reduceIte, reduceCtorEq, uF, uG, uH, his2539, hws2539, c2542, g2542, b2543] <;> ((repeat' apply And.intro) <;> rfl)))
  · intro i2539 s2539 g2539 Rs2539 hes2539 h
    have hns2539 : ¬ (i2539 < a0.length) := by omega
    try dsimp only at h
    obtain ⟨r2544, hr2544, h⟩ := thn_s h
    try simp -implicitDefEqProofs only [go_sem, uA, uB, uC, uD, uE, reduceIte, reduceCtorEq, uF, uG, uH, hns2539]
    refine callfG 1384 (w_slices_Grow_int ([] : List Int) s2539 r2544 hr2544) (by simp -implicitDefEqProofs only [go_sem, uA, uB, uC, uD, uE, reduceIte, reduceCtorEq, uF, uG, uH, hns2539] <;> rfl) (by first | exact pleL_refl _ | (simp -implicitDefEqProofs only [go_sem, uA, uB, uC, uD, uE, reduceIte, reduceCtorEq, uF, uG, uH, hns2539] <;> rfl)) (by first | exact persF | exact flatF rfl | exact flatF (by simp [RV.flat, RV.flatL, PV.scalar, isVal, encI])) (by simp -implicitDefEqProofs only [go_sem, uA, uB, uC, uD, uE, reduceIte, reduceCtorEq, uF, uG, uH, hns2539]) ?_
    obtain ⟨fus2551, h⟩ := chk_s h
    unfold fuel at fus2551
    try simp -implicitDefEqProofs only [go_sem, uA, uB, uC, uD, uE, reduceIte, reduceCtorEq, uF, uG, uH, hns2539]
    refine forN_go (fun x : (Nat × ((List Int))) × (Nat) => envL [(6, .row 1384 x.2), (25, .p (.lst (a0.map encRow))), (26, .p (.val (.int .i64 ((a0.length : Nat) : Int)))), (27, .p (.val (.int .i64 ((x.1.1 : Nat) : Int))))]) (fun x => heapL [(1384, .row x.2 3 1 (x.1.2.map encI))]) 0 h (weakL (by simp -implicitDefEqProofs only [go_sem, uA, uB, uC, uD, uE, reduceIte, reduceCtorEq, uF, uG, uH, hns2539] <;> ((repeat' apply And.intro) <;> rfl))) ?_ ?_
    · intro i2551 s2551 g2551 nxts2551 Rs2551 his2551 hNs2551 h
      have hws2551 := wrap_succ (k := i2551) his2551 (by omega)
      try dsimp only at h
      obtain ⟨e2556, c2556, g2556, q2556, h⟩ := idx_s encRow h
      obtain ⟨c2557, h⟩ := chk_s h
      have k2558 := eq_true (show (s2551.length + e2556.length) * 8 ≤ 140737488355328 by omega)
      have k2559 := eq_true (map_len (n := 1) (f := encI) (fun _ => rfl) e2556)
      try simp -implicitDefEqProofs only [go_sem, uA, uB, uC, uD, uE, reduceIte, reduceCtorEq, uF, uG, uH, hns2539, his2551, hws2551, c2556, g2556, c2557, k2558, k2559]
      exact hNs2551 (s2551 ++ e2556) (g2551 + 1) h (weakL (by simp -implicitDefEqProofs only [go_sem, uA, uB, uC, uD, uE, reduceIte, reduceCtorEq, uF, uG, uH, hns2539, his2551, hws2551, c2556, g2556, c2557, k2558, k2559] <;> ((repeat' apply And.intro) <;> rfl)))
    · intro i2551 s2551 g2551 Rs2551 hes2551 h
      have hns2551 : ¬ (i2551 < a0.length) := by omega
      try dsimp only at h
      cases h
      try simp -implicitDefEqProofs only [go_sem, uA, uB, uC, uD, uE, reduceIte, reduceCtorEq, uF, uG, uH, hns2539, hns2551]
      refine ⟨by decide, _, .refl _, ?_⟩
      simp -implicitDefEqProofs only [go_sem, uA, uB, uC, uD, uE, reduceIte, reduceCtorEq, uF, uG, uH, hns2539, hns2551] <;> ((repeat' apply And.intro) <;> rfl)

end
end Go.Proofs.YtdlohnchnneaeaaGreat
/- Functions of the program as functions of Lean, and the walks that show them. Printed by gen.py. -/
set_option linter.unusedSimpArgs false
set_option linter.unusedVariables false
set_option maxRecDepth 20000
namespace Go.Proofs.YtdlohnchnneaeaaGreat
open Go.Abs
open Nat renaming reduceEqDiff → uA, reduceLT → uB, reduceLeDiff → uC, reduceMul → uD, reduceAdd → uE, reduceBEq → uF, reduceSub → uG
open Int renaming reduceToNat → uH

attribute [local go_sem] encAttr encEdge encEdgeT encI encInts encL_encRow encNode encPair encRow encS encStrs enc_T_A2_Int enc_T_A3_Int
noncomputable section
def f_scarfjointref07_Right (a0 : Graph) (a1 : Part) : Option Int :=
  thn (f_scarfjointref07_ascending a1.nodes ((a0.nodes.length : Nat) : Int)) fun r668 =>
  cond (decide (r668 = 0)) (
    thn (f_scarfjointref07_ascending a1.edges ((a0.edges.length : Nat) : Int)) fun r670 =>
    cond (decide (r670 = 0)) (
      chk (a1.edges.length ≤ fuel) <|
      forN (fun i689 (s689 : Unit) nxts689 brks689 =>
        thn (a1.edges[i689]?) fun e696 =>
        thn (atZ a0.edges e696) fun e697 =>
        thn (f_scarfjointref07_has a1.nodes e697.src) fun r698 =>
        cond r698 (
          thn (f_scarfjointref07_has a1.nodes e697.dst) fun r700 =>
          cond r700 (
            nxts689 ()) <|
          some 14) <|
        some 14)
      (a1.edges.length - 0) 0 () fun s689 =>
      some 0) <|
    some r670) <|
  some r668
set_option maxHeartbeats 4000000 in
theorem w_scarfjointref07_Right (a0 : Graph) (a1 : Part) (r : Int) (h : f_scarfjointref07_Right a0 a1 = some r) : CallV Go.Proofs.Tryz.prog 133 [.agg [.lst (a0.nodes.map encI), .lst (a0.edges.map encEdge)], .agg [.lst (a1.nodes.map encI), .lst (a1.edges.map encI)]] (fun v => v = .val (.int .i64 r)) := by
  refine CallV.ple ?_
  refine callV_of_cw [] Ty.mixed Go.Proofs.Tryz.func133 rfl (by kernel_rfl) (by simp [Go.Proofs.Tryz.ntmps133]) ?_; rw [Go.Proofs.Tryz.ntmps133, Go.Proofs.Tryz.results133]
  unfold f_scarfjointref07_Right at h
  obtain ⟨r668, hr668, h⟩ := thn_s h
  try simp -implicitDefEqProofs only [go_sem, uA, uB, uC, uD, uE, reduceIte, reduceCtorEq, uF, uG, uH]
  refine callG (w_scarfjointref07_ascending a1.nodes ((a0.nodes.length : Nat) : Int) r668 hr668) (by simp -implicitDefEqProofs only [go_sem, uA, uB, uC, uD, uE, reduceIte, reduceCtorEq, uF, uG, uH] <;> rfl) (pleL_refl _) (by first | exact pers | exact scal rfl) ?_
  try simp -implicitDefEqProofs only [go_sem, uA, uB, uC, uD, uE, reduceIte, reduceCtorEq, uF, uG, uH]
  refine condC_splitN (fun b669 => ?_) (fun b669 => ?_)
  · replace h := cond_t h b669
    obtain ⟨r670, hr670, h⟩ := thn_s h
    try simp -implicitDefEqProofs only [go_sem, uA, uB, uC, uD, uE, reduceIte, reduceCtorEq, uF, uG, uH, b669]
    refine callG (w_scarfjointref07_ascending a1.edges ((a0.edges.length : Nat) : Int) r670 hr670) (by simp -implicitDefEqProofs only [go_sem, uA, uB, uC, uD, uE, reduceIte, reduceCtorEq, uF, uG, uH, b669] <;> rfl) (pleL_refl _) (by first | exact pers | exact scal rfl) ?_
    try simp -implicitDefEqProofs only [go_sem, uA, uB, uC, uD, uE, reduceIte, reduceCtorEq, uF, uG, uH, b669]
    refine condC_splitN (fun b671 => ?_) (fun b671 => ?_)
    · replace h := cond_t h b671
      obtain ⟨fus689, h⟩ := chk_s h
      unfold fuel at fus689
      try simp -implicitDefEqProofs only [go_sem, uA, uB, uC, uD, uE, reduceIte, reduceCtorEq, uF, uG, uH, b669, b671]
      refine forN_go (fun x : (Nat × (Unit)) × (Unit) => envL [(2, .ptr 2 0), (3, .ptr 3 0), (7, .p (.val (.int .i64 ((x.1.1 : Nat) : Int))))]) (fun x => heapL [(2, .box [.p (.lst (a0.nodes.map encI)), .p (.lst (a0.edges.map encEdge))]), (3, .box [.p (.lst (a1.nodes.map encI)), .p (.lst (a1.edges.map encI))])]) () h (weakL (by simp -implicitDefEqProofs only [go_sem, uA, uB, uC, uD, uE, reduceIte, reduceCtorEq, uF, uG, uH, b669, b671] <;> ((repeat' apply And.intro) <;> rfl))) ?_ ?_
      · intro i689 s689 g689 nxts689 Rs689 his689 hNs689 h
        have hws689 := wrap_succ (k := i689) his689 (by omega)
        try dsimp only at h
        try simp -implicitDefEqProofs only [go_sem, uA, uB, uC, uD, uE, reduceIte, reduceCtorEq, uF, uG, uH, b669, b671, his689, hws689]
        refine draw_txt [.q, .q, .q, .q, .q, .q, .q, .q, .q, .w, .s] (by kernel_rfl) ?_
        obtain ⟨e696, c696, g696, q696, h⟩ := idx_s encI h
        obtain ⟨e697, c697a, c697b, g697, q697, h⟩ := atZ_s encEdge h
        have c697n := toNat_lt c697a c697b
        obtain ⟨r698, hr698, h⟩ := thn_s h
        try simp -implicitDefEqProofs only [go_sem, uA, uB, uC, uD, uE, reduceIte, reduceCtorEq, uF, uG, uH, b669, b671, his689, hws689, c696, g696, c697a, c697b, c697n, g697]
        refine callG (w_scarfjointref07_has a1.nodes e697.src r698 hr698) (by simp -implicitDefEqProofs only [go_sem, uA, uB, uC, uD, uE, reduceIte, reduceCtorEq, uF, uG, uH, b669, b671, his689, hws689, c696, g696, c697a, c697b, c697n, g697] <;> rfl) (pleL_refl _) (by first | exact pers | exact scal rfl) ?_
        try simp -implicitDefEqProofs only [go_sem, uA, uB, uC, uD, uE, reduceIte, reduceCtorEq, uF, uG, uH, b669, b671, his689, hws689, c696, g696, c697a, c697b, c697n, g697]
        refine walkG_split (fun b699 => ?_) (fun b699 => ?_)
        · replace h := cond_t h b699
          obtain ⟨r700, hr700, h⟩ := thn_s h
          try simp -implicitDefEqProofs only [go_sem, uA, uB, uC, uD, uE, reduceIte, reduceCtorEq, uF, uG, uH, b669, b671, his689, hws689, c696, g696, c697a, c697b, c697n, g697, b699]
          refine callG (w_scarfjointref07_has a1.nodes e697.dst r700 hr700) (by simp -implicitDefEqProofs only [go_sem, uA, uB, uC, uD, uE, reduceIte, reduceCtorEq, uF, uG, uH, b669, b671, his689, hws689, c696, g696, c697a, c697b, c697n, g697, b699] <;> rfl) (pleL_refl _) (by first | exact pers | exact scal rfl) ?_
          try simp -implicitDefEqProofs only [go_sem, uA, uB, uC, uD, uE, reduceIte, reduceCtorEq, uF, uG, uH, b669, b671, his689, hws689, c696, g696, c697a, c697b, c697n, g697, b699]
          refine condC_splitN (fun b701 => ?_) (fun b701 => ?_)
          · replace h := cond_t h b701
            try simp -implicitDefEqProofs only [go_sem, uA, uB, uC, uD, uE, reduceIte, reduceCtorEq, uF, uG, uH, b669, b671, his689, hws689, c696, g696, c697a, c697b, c697n, g697, b699, b701]
            exact hNs689 () () h (weakL (by simp -implicitDefEqProofs only [go_sem, uA, uB, uC, uD, uE, reduceIte, reduceCtorEq, uF, uG, uH, b669, b671, his689, hws689, c696, g696, c697a, c697b, c697n, g697, b699, b701] <;> ((repeat' apply And.intro) <;> rfl)))
          · replace h := cond_f h b701
            cases h
            try simp -implicitDefEqProofs only [go_sem, uA, uB, uC, uD, uE, reduceIte, reduceCtorEq, uF, uG, uH, b669, b671, his689, hws689, c696, g696, c697a, c697b, c697n, g697, b699, b701]
            all_goals ((repeat' apply And.intro) <;> rfl)
        · replace h := cond_f h b699
          cases h
          try simp -implicitDefEqProofs only [go_sem, uA, uB, uC, uD, uE, reduceIte, reduceCtorEq, uF, uG, uH, b669, b671, his689, hws689, c696, g696, c697a, c697b, c697n, g697, b699]
          all_goals ((repeat' apply And.intro) <;> rfl)
      · intro i689 s689 g689 Rs689 hes689 h
        have hns689 : ¬ (i689 < a1.edges.length) := by omega
        try dsimp only at h
        cases h
        try simp -implicitDefEqProofs only [go_sem, uA, uB, uC, uD, uE, reduceIte, reduceCtorEq, uF, uG, uH, b669, b671, hns689]
        all_goals ((repeat' apply And.intro) <;> rfl)
    · replace h := cond_f h b671
      cases h
      try simp -implicitDefEqProofs only [go_sem, uA, uB, uC, uD, uE, reduceIte, reduceCtorEq, uF, uG, uH, b669, b671]
      all_goals ((repeat' apply And.intro) <;> rfl)
  · replace h := cond_f h b669
    cases h
    try simp -implicitDefEqProofs only [go_sem, uA, uB, uC, uD, uE, reduceIte, reduceCtorEq, uF, uG, uH, b669]
    all_goals ((repeat' apply And.intro) <;> rfl)
end
end Go.Proofs.YtdlohnchnneaeaaGreat
/- Functions of the program as functions of Lean, and the walks that show them. Printed by gen.py. -/
set_option linter.unusedSimpArgs false
set_option linter.unusedVariables false
set_option maxRecDepth 20000
namespace Go.Proofs.YtdlohnchnneaeaaGreat
open Go.Abs
open Nat renaming reduceEqDiff → uA, reduceLT → uB, reduceLeDiff → uC, reduceMul → uD, reduceAdd → uE, reduceBEq → uF, reduceSub → uG
open Int renaming reduceToNat → uH

attribute [local go_sem] encAttr encEdge encEdgeT encI encInts encL_encRow encNode encPair encRow encS encStrs enc_T_A2_Int enc_T_A3_Int
noncomputable section
def f_scarfjointref05_Same (a0 : Graph) (a1 : Graph) : Option Bool :=
  thn (f_scarfjointref05_SameInts a0.nodes a1.nodes) fun r1247 =>
  cond r1247 (
    cond (decide (((a0.edges.length : Nat) : Int) = ((a1.edges.length : Nat) : Int))) (
      chk (a0.edges.length ≤ fuel) <|
      forN (fun i1255 (s1255 : Unit) nxts1255 brks1255 =>
        thn (a0.edges[i1255]?) fun e1259 =>
        thn (a1.edges[i1255]?) fun e1260 =>
        cond (decide (e1259.type = e1260.type) && (decide (e1259.src = e1260.src) && decide (e1259.dst = e1260.dst))) (
          nxts1255 ()) <|
        some false)
      (a0.edges.length - 0) 0 () fun s1255 =>
      some true) <|
    some false) <|
  some false
set_option maxHeartbeats 4000000 in
theorem w_scarfjointref05_Same (a0 : Graph) (a1 : Graph) (r : Bool) (h : f_scarfjointref05_Same a0 a1 = some r) : CallV Go.Proofs.Tryz.prog 49 [.agg [.lst (a0.nodes.map encI), .lst (a0.edges.map encEdge)], .agg [.lst (a1.nodes.map encI), .lst (a1.edges.map encEdge)]] (fun v => v = .val (.bool r)) := by
  refine CallV.ple ?_
  refine callV_of_cw [] Ty.mixed Go.Proofs.Tryz.func49 rfl (by kernel_rfl) (by simp [Go.Proofs.Tryz.ntmps49]) ?_; rw [Go.Proofs.Tryz.ntmps49, Go.Proofs.Tryz.results49]
  unfold f_scarfjointref05_Same at h
  obtain ⟨r1247, hr1247, h⟩ := thn_s h
  try simp -implicitDefEqProofs only [go_sem, uA, uB, uC, uD, uE, reduceIte, reduceCtorEq, uF, uG, uH]
  refine callG (w_scarfjointref05_SameInts a0.nodes a1.nodes r1247 hr1247) (by simp -implicitDefEqProofs only [go_sem, uA, uB, uC, uD, uE, reduceIte, reduceCtorEq, uF, uG, uH] <;> rfl) (pleL_refl _) (by first | exact pers | exact scal rfl) ?_
  try simp -implicitDefEqProofs only [go_sem, uA, uB, uC, uD, uE, reduceIte, reduceCtorEq, uF, uG, uH]
  refine walkG_split (fun b1248 => ?_) (fun b1248 => ?_)
  · replace h := cond_t h b1248
    try simp -implicitDefEqProofs only [go_sem, uA, uB, uC, uD, uE, reduceIte, reduceCtorEq, uF, uG, uH, b1248]
    refine condC_splitN (fun b1249 => ?_) (fun b1249 => ?_)
    · replace h := cond_t h b1249
      obtain ⟨fus1255, h⟩ := chk_s h
      unfold fuel at fus1255
      try simp -implicitDefEqProofs only [go_sem, uA, uB, uC, uD, uE, reduceIte, reduceCtorEq, uF, uG, uH, b1248, b1249]
      refine forN_go (fun x : (Nat × (Unit)) × (Unit) => envL [(2, .ptr 2 0), (3, .ptr 3 0), (5, .p (.val (.int .i64 ((x.1.1 : Nat) : Int))))]) (fun x => heapL [(2, .box [.p (.lst (a0.nodes.map encI)), .p (.lst (a0.edges.map encEdge))]), (3, .box [.p (.lst (a1.nodes.map encI)), .p (.lst (a1.edges.map encEdge))])]) () h (weakL (by simp -implicitDefEqProofs only [go_sem, uA, uB, uC, uD, uE, reduceIte, reduceCtorEq, uF, uG, uH, b1248, b1249] <;> ((repeat' apply And.intro) <;> rfl))) ?_ ?_
      · intro i1255 s1255 g1255 nxts1255 Rs1255 his1255 hNs1255 h
        have hws1255 := wrap_succ (k := i1255) his1255 (by omega)
        try dsimp only at h
        try simp -implicitDefEqProofs only [go_sem, uA, uB, uC, uD, uE, reduceIte, reduceCtorEq, uF, uG, uH, b1248, b1249, his1255, hws1255]
        refine draw_txt [.q, .q, .q, .q, .q, .q, .q, .q, .q, .q, .q] (by kernel_rfl) ?_
        obtain ⟨e1259, c1259, g1259, q1259, h⟩ := idx_s encEdge h
        obtain ⟨e1260, c1260, g1260, q1260, h⟩ := idx_s encEdge h
        try simp -implicitDefEqProofs only [go_sem, uA, uB, uC, uD, uE, reduceIte, reduceCtorEq, uF, uG, uH, b1248, b1249, his1255, hws1255, c1259, g1259, c1260, g1260]
        refine condC_splitN (fun b1261 => ?_) (fun b1261 => ?_)
        · replace h := cond_t h b1261
          try simp -implicitDefEqProofs only [go_sem, uA, uB, uC, uD, uE, reduceIte, reduceCtorEq, uF, uG, uH, b1248, b1249, his1255, hws1255, c1259, g1259, c1260, g1260, b1261]
          exact hNs1255 () () h (weakL (by simp -implicitDefEqProofs only [go_sem, uA, uB, uC, uD, uE, reduceIte, reduceCtorEq, uF, uG, uH, b1248, b1249, his1255, hws1255, c1259, g1259, c1260, g1260, b1261] <;> ((repeat' apply And.intro) <;> rfl)))
        · replace h := cond_f h b1261
          cases h
          try simp -implicitDefEqProofs only [go_sem, uA, uB, uC, uD, uE, reduceIte, reduceCtorEq, uF, uG, uH, b1248, b1249, his1255, hws1255, c1259, g1259, c1260, g1260, b1261]
          all_goals ((repeat' apply And.intro) <;> rfl)
      · intro i1255 s1255 g1255 Rs1255 hes1255 h
        have hns1255 : ¬ (i1255 < a0.edges.length) := by omega
        try dsimp only at h
        cases h
        try simp -implicitDefEqProofs only [go_sem, uA, uB, uC, uD, uE, reduceIte, reduceCtorEq, uF, uG, uH, b1248, b1249, hns1255]
        all_goals ((repeat' apply And.intro) <;> rfl)
    · replace h := cond_f h b1249
      cases h
      try simp -implicitDefEqProofs only [go_sem, uA, uB, uC, uD, uE, reduceIte, reduceCtorEq, uF, uG, uH, b1248, b1249]
      all_goals ((repeat' apply And.intro) <;> rfl)
  · replace h := cond_f h b1248
    cases h
    try simp -implicitDefEqProofs only [go_sem, uA, uB, uC, uD, uE, reduceIte, reduceCtorEq, uF, uG, uH, b1248]
    all_goals ((repeat' apply And.intro) <;> rfl)

def f_scarfjointref07_Same (a0 : Part) (a1 : Part) : Option Bool :=
  thn (f_scarfjointref05_SameInts a0.nodes a1.nodes) fun r1301 =>
  cond r1301 (
    thn (f_scarfjointref05_SameInts a0.edges a1.edges) fun r1303 =>
    some r1303) <|
  some false
set_option maxHeartbeats 4000000 in
theorem w_scarfjointref07_Same (a0 : Part) (a1 : Part) (r : Bool) (h : f_scarfjointref07_Same a0 a1 = some r) : CallV Go.Proofs.Tryz.prog 24 [.agg [.lst (a0.nodes.map encI), .lst (a0.edges.map encI)], .agg [.lst (a1.nodes.map encI), .lst (a1.edges.map encI)]] (fun v => v = .val (.bool r)) := by
  refine CallV.ple ?_
  refine callV_of_cw [] Ty.mixed Go.Proofs.Tryz.func24 rfl (by kernel_rfl) (by simp [Go.Proofs.Tryz.ntmps24]) ?_; rw [Go.Proofs.Tryz.ntmps24, Go.Proofs.Tryz.results24]
  unfold f_scarfjointref07_Same at h
  obtain ⟨r1301, hr1301, h⟩ := thn_s h
  try simp -implicitDefEqProofs only [go_sem, uA, uB, uC, uD, uE, reduceIte, reduceCtorEq, uF, uG, uH]
  refine callG (w_scarfjointref05_SameInts a0.nodes a1.nodes r1301 hr1301) (by simp -implicitDefEqProofs only [go_sem, uA, uB, uC, uD, uE, reduceIte, reduceCtorEq, uF, uG, uH] <;> rfl) (pleL_refl _) (by first | exact pers | exact scal rfl) ?_
  try simp -implicitDefEqProofs only [go_sem, uA, uB, uC, uD, uE, reduceIte, reduceCtorEq, uF, uG, uH]
  refine walkG_split (fun b1302 => ?_) (fun b1302 => ?_)
  · replace h := cond_t h b1302
    obtain ⟨r1303, hr1303, h⟩ := thn_s h
    try simp -implicitDefEqProofs only [go_sem, uA, uB, uC, uD, uE, reduceIte, reduceCtorEq, uF, uG, uH, b1302]
    refine callG (w_scarfjointref05_SameInts a0.edges a1.edges r1303 hr1303) (by simp -implicitDefEqProofs only [go_sem, uA, uB, uC, uD, uE, reduceIte, reduceCtorEq, uF, uG, uH, b1302] <;> rfl) (pleL_refl _) (by first | exact pers | exact scal rfl) ?_
    cases h
    try simp -implicitDefEqProofs only [go_sem, uA, uB, uC, uD, uE, reduceIte, reduceCtorEq, uF, uG, uH, b1302]
    all_goals ((repeat' apply And.intro) <;> rfl)
  · replace h := cond_f h b1302
    cases h
    try simp -implicitDefEqProofs only [go_sem, uA, uB, uC, uD, uE, reduceIte, reduceCtorEq, uF, uG, uH, b1302]
    all_goals ((repeat' apply And.intro) <;> rfl)

def f_slices_Contains_Pair (a0 : List GPair) (a1 : GPair) : Option Bool :=
  thn (f_slices_Index_Pair a0 a1) fun r2507 =>
  some (decide (0 ≤ r2507))
set_option maxHeartbeats 4000000 in
theorem w_slices_Contains_Pair (a0 : List GPair) (a1 : GPair) (r : Bool) (h : f_slices_Contains_Pair a0 a1 = some r) : CallV Go.Proofs.Tryz.prog 27 [.lst (a0.map encPair), .agg [.val (.int .i64 a1.a), .val (.int .i64 a1.b)]] (fun v => v = .val (.bool r)) := by
  refine CallV.ple ?_
  refine callV_of_cw [] Ty.mixed Go.Proofs.Tryz.func27 rfl (by kernel_rfl) (by simp [Go.Proofs.Tryz.ntmps27]) ?_; rw [Go.Proofs.Tryz.ntmps27, Go.Proofs.Tryz.results27]
  unfold f_slices_Contains_Pair at h
  obtain ⟨r2507, hr2507, h⟩ := thn_s h
  try simp -implicitDefEqProofs only [go_sem, uA, uB, uC, uD, uE, reduceIte, reduceCtorEq, uF, uG, uH]
  refine callG (w_slices_Index_Pair a0 a1 r2507 hr2507) (by simp -implicitDefEqProofs only [go_sem, uA, uB, uC, uD, uE, reduceIte, reduceCtorEq, uF, uG, uH] <;> rfl) (pleL_refl _) (by first | exact pers | exact scal rfl) ?_
  cases h
  try simp -implicitDefEqProofs only [go_sem, uA, uB, uC, uD, uE, reduceIte, reduceCtorEq, uF, uG, uH]
  all_goals ((repeat' apply And.intro) <;> rfl)
end
end Go.Proofs.YtdlohnchnneaeaaGreat
/- Functions of the program as functions of Lean, and the walks that show them. Printed by gen.py. -/
set_option linter.unusedSimpArgs false
set_option linter.unusedVariables false
set_option maxRecDepth 20000
namespace Go.Proofs.YtdlohnchnneaeaaGreat
open Go.Abs
open Nat renaming reduceEqDiff → uA, reduceLT → uB, reduceLeDiff → uC, reduceMul → uD, reduceAdd → uE, reduceBEq → uF, reduceSub → uG
open Int renaming reduceToNat → uH

attribute [local go_sem] encAttr encEdge encEdgeT encI encInts encL_encRow encNode encPair encRow encS encStrs enc_T_A2_Int enc_T_A3_Int
noncomputable section
def f_cmp_Less_int (a0 : Int) (a1 : Int) : Option Bool :=
  thn (f_cmp_isNaN_int a0) fun r291 =>
  cond r291 (
    thn (f_cmp_isNaN_int a1) fun r293 =>
    cond r293 (
      some (decide (a0 < a1))) <|
    some true) <|
  some (decide (a0 < a1))
set_option maxHeartbeats 4000000 in
theorem w_cmp_Less_int (a0 : Int) (a1 : Int) (r : Bool) (h : f_cmp_Less_int a0 a1 = some r) : CallV Go.Proofs.Tryz.prog 131 [.val (.int .i64 a0), .val (.int .i64 a1)] (fun v => v = .val (.bool r)) := by
  refine CallV.ple ?_
  refine callV_of_cw [] Ty.mixed Go.Proofs.Tryz.func131 rfl (by kernel_rfl) (by simp [Go.Proofs.Tryz.ntmps131]) ?_; rw [Go.Proofs.Tryz.ntmps131, Go.Proofs.Tryz.results131]
  unfold f_cmp_Less_int at h
  obtain ⟨r291, hr291, h⟩ := thn_s h
  try simp -implicitDefEqProofs only [go_sem, uA, uB, uC, uD, uE, reduceIte, reduceCtorEq, uF, uG, uH]
  refine callG (w_cmp_isNaN_int a0 r291 hr291) (by simp -implicitDefEqProofs only [go_sem, uA, uB, uC, uD, uE, reduceIte, reduceCtorEq, uF, uG, uH] <;> rfl) (pleL_refl _) (by first | exact pers | exact scal rfl) ?_
  try simp -implicitDefEqProofs only [go_sem, uA, uB, uC, uD, uE, reduceIte, reduceCtorEq, uF, uG, uH]
  refine walkG_split (fun b292 => ?_) (fun b292 => ?_)
  · replace h := cond_t h b292
    obtain ⟨r293, hr293, h⟩ := thn_s h
    try simp -implicitDefEqProofs only [go_sem, uA, uB, uC, uD, uE, reduceIte, reduceCtorEq, uF, uG, uH, b292]
    refine callG (w_cmp_isNaN_int a1 r293 hr293) (by simp -implicitDefEqProofs only [go_sem, uA, uB, uC, uD, uE, reduceIte, reduceCtorEq, uF, uG, uH, b292] <;> rfl) (pleL_refl _) (by first | exact pers | exact scal rfl) ?_
    try simp -implicitDefEqProofs only [go_sem, uA, uB, uC, uD, uE, reduceIte, reduceCtorEq, uF, uG, uH, b292]
    refine walkG_split (fun b294 => ?_) (fun b294 => ?_)
    · replace h := cond_t h b294
      cases h
      try simp -implicitDefEqProofs only [go_sem, uA, uB, uC, uD, uE, reduceIte, reduceCtorEq, uF, uG, uH, b292, b294]
      all_goals ((repeat' apply And.intro) <;> rfl)
    · replace h := cond_f h b294
      cases h
      try simp -implicitDefEqProofs only [go_sem, uA, uB, uC, uD, uE, reduceIte, reduceCtorEq, uF, uG, uH, b292, b294]
      all_goals ((repeat' apply And.intro) <;> rfl)
  · replace h := cond_f h b292
    cases h
    try simp -implicitDefEqProofs only [go_sem, uA, uB, uC, uD, uE, reduceIte, reduceCtorEq, uF, uG, uH, b292]
    all_goals ((repeat' apply And.intro) <;> rfl)

def f_triple_only (a0 : Sorts) (a1 : Graph) (a2 : Int) : Option Bool :=
  thn (f_triple_part a0 a1 a2) fun r2527 =>
  cond (decide (((r2527.nodes.length : Nat) : Int) = ((a1.nodes.length : Nat) : Int))) (
    some (decide (((r2527.edges.length : Nat) : Int) = ((a1.edges.length : Nat) : Int)))) <|
  some false
set_option maxHeartbeats 4000000 in
theorem w_triple_only (a0 : Sorts) (a1 : Graph) (a2 : Int) (r : Bool) (h : f_triple_only a0 a1 a2 = some r) : CallV Go.Proofs.Tryz.prog 42 [.agg [.lst (a0.nodes.map encI), .lst (a0.edges.map encI)], .agg [.lst (a1.nodes.map encI), .lst (a1.edges.map encEdge)], .val (.int .i64 a2)] (fun v => v = .val (.bool r)) := by
  refine CallV.ple ?_
  refine callV_of_cw [] Ty.mixed Go.Proofs.Tryz.func42 rfl (by kernel_rfl) (by simp [Go.Proofs.Tryz.ntmps42]) ?_; rw [Go.Proofs.Tryz.ntmps42, Go.Proofs.Tryz.results42]
  unfold f_triple_only at h
  obtain ⟨r2527, hr2527, h⟩ := thn_s h
  try simp -implicitDefEqProofs only [go_sem, uA, uB, uC, uD, uE, reduceIte, reduceCtorEq, uF, uG, uH]
  refine callfG 1176 (w_triple_part a0 a1 a2 r2527 hr2527) (by simp -implicitDefEqProofs only [go_sem, uA, uB, uC, uD, uE, reduceIte, reduceCtorEq, uF, uG, uH] <;> rfl) (pleL_refl _) (by first | exact persF | exact flatF rfl | exact flatF (by simp [RV.flat, RV.flatL, PV.scalar, isVal, encI, encI])) (by simp -implicitDefEqProofs only [go_sem, uA, uB, uC, uD, uE, reduceIte, reduceCtorEq, uF, uG, uH]) ?_
  try simp -implicitDefEqProofs only [go_sem, uA, uB, uC, uD, uE, reduceIte, reduceCtorEq, uF, uG, uH]
  refine walkG_split (fun b2528 => ?_) (fun b2528 => ?_)
  · replace h := cond_t h b2528
    cases h
    try simp -implicitDefEqProofs only [go_sem, uA, uB, uC, uD, uE, reduceIte, reduceCtorEq, uF, uG, uH, b2528]
    all_goals ((repeat' apply And.intro) <;> rfl)
  · replace h := cond_f h b2528
    cases h
    try simp -implicitDefEqProofs only [go_sem, uA, uB, uC, uD, uE, reduceIte, reduceCtorEq, uF, uG, uH, b2528]
    all_goals ((repeat' apply And.intro) <;> rfl)

end
end Go.Proofs.YtdlohnchnneaeaaGreat
/- Functions of the program as functions of Lean, and the walks that show them. Printed by gen.py. -/
set_option linter.unusedSimpArgs false
set_option linter.unusedVariables false
set_option maxRecDepth 20000
namespace Go.Proofs.YtdlohnchnneaeaaGreat
open Go.Abs
open Nat renaming reduceEqDiff → uA, reduceLT → uB, reduceLeDiff → uC, reduceMul → uD, reduceAdd → uE, reduceBEq → uF, reduceSub → uG
open Int renaming reduceToNat → uH

attribute [local go_sem] encAttr encEdge encEdgeT encI encInts encL_encRow encNode encPair encRow encS encStrs enc_T_A2_Int enc_T_A3_Int
noncomputable section
def f_scarfjointref04_given (a0 : Types) (a1 : Int) (a2 : Int) : Option Int :=
  thn (f_scarfjointref04_Valid a0) fun r1349 =>
  cond (decide (r1349.2 = 0)) (
    thn (f_scarfjointref04_in a1 0 (IntKind.i64.wrap (((a0.nodes.length : Nat) : Int) - 1))) fun r1352 =>
    cond r1352 (
      thn (f_scarfjointref04_in a2 0 (IntKind.i64.wrap (((a0.nodes.length : Nat) : Int) - 1))) fun r1354 =>
      cond r1354 (
        some 0) <|
      some 6) <|
    some 6) <|
  some r1349.2
set_option maxHeartbeats 4000000 in
theorem w_scarfjointref04_given (a0 : Types) (a1 : Int) (a2 : Int) (r : Int) (h : f_scarfjointref04_given a0 a1 a2 = some r) : CallV Go.Proofs.Tryz.prog 80 [.agg [.lst (a0.nodes.map encNode), .lst (a0.edges.map encEdgeT)], .val (.int .i64 a1), .val (.int .i64 a2)] (fun v => v = .val (.int .i64 r)) := by
  refine CallV.ple ?_
  refine callV_of_cw [] Ty.mixed Go.Proofs.Tryz.func80 rfl (by kernel_rfl) (by simp [Go.Proofs.Tryz.ntmps80]) ?_; rw [Go.Proofs.Tryz.ntmps80, Go.Proofs.Tryz.results80]
  unfold f_scarfjointref04_given at h
  obtain ⟨r1349, hr1349, h⟩ := thn_s h
  try simp -implicitDefEqProofs only [go_sem, uA, uB, uC, uD, uE, reduceIte, reduceCtorEq, uF, uG, uH]
  refine callG (w_scarfjointref04_Valid a0 r1349 hr1349) (by simp -implicitDefEqProofs only [go_sem, uA, uB, uC, uD, uE, reduceIte, reduceCtorEq, uF, uG, uH] <;> rfl) (pleL_refl _) (by first | exact pers | exact scal rfl) ?_
  try simp -implicitDefEqProofs only [go_sem, uA, uB, uC, uD, uE, reduceIte, reduceCtorEq, uF, uG, uH]
  refine condC_splitN (fun b1350 => ?_) (fun b1350 => ?_)
  · replace h := cond_t h b1350
    obtain ⟨r1352, hr1352, h⟩ := thn_s h
    try simp -implicitDefEqProofs only [go_sem, uA, uB, uC, uD, uE, reduceIte, reduceCtorEq, uF, uG, uH, b1350]
    refine callG (w_scarfjointref04_in a1 0 (IntKind.i64.wrap (((a0.nodes.length : Nat) : Int) - 1)) r1352 hr1352) (by simp -implicitDefEqProofs only [go_sem, uA, uB, uC, uD, uE, reduceIte, reduceCtorEq, uF, uG, uH, b1350] <;> rfl) (pleL_refl _) (by first | exact pers | exact scal rfl) ?_
    try simp -implicitDefEqProofs only [go_sem, uA, uB, uC, uD, uE, reduceIte, reduceCtorEq, uF, uG, uH, b1350]
    refine walkG_split (fun b1353 => ?_) (fun b1353 => ?_)
    · replace h := cond_t h b1353
      obtain ⟨r1354, hr1354, h⟩ := thn_s h
      try simp -implicitDefEqProofs only [go_sem, uA, uB, uC, uD, uE, reduceIte, reduceCtorEq, uF, uG, uH, b1350, b1353]
      refine callG (w_scarfjointref04_in a2 0 (IntKind.i64.wrap (((a0.nodes.length : Nat) : Int) - 1)) r1354 hr1354) (by simp -implicitDefEqProofs only [go_sem, uA, uB, uC, uD, uE, reduceIte, reduceCtorEq, uF, uG, uH, b1350, b1353] <;> rfl) (pleL_refl _) (by first | exact pers | exact scal rfl) ?_
      try simp -implicitDefEqProofs only [go_sem, uA, uB, uC, uD, uE, reduceIte, reduceCtorEq, uF, uG, uH, b1350, b1353]
      refine condC_splitN (fun b1355 => ?_) (fun b1355 => ?_)
      · replace h := cond_t h b1355
        cases h
        try simp -implicitDefEqProofs only [go_sem, uA, uB, uC, uD, uE, reduceIte, reduceCtorEq, uF, uG, uH, b1350, b1353, b1355]
        all_goals ((repeat' apply And.intro) <;> rfl)
      · replace h := cond_f h b1355
        cases h
        try simp -implicitDefEqProofs only [go_sem, uA, uB, uC, uD, uE, reduceIte, reduceCtorEq, uF, uG, uH, b1350, b1353, b1355]
        all_goals ((repeat' apply And.intro) <;> rfl)
    · replace h := cond_f h b1353
      cases h
      try simp -implicitDefEqProofs only [go_sem, uA, uB, uC, uD, uE, reduceIte, reduceCtorEq, uF, uG, uH, b1350, b1353]
      all_goals ((repeat' apply And.intro) <;> rfl)
  · replace h := cond_f h b1350
    cases h
    try simp -implicitDefEqProofs only [go_sem, uA, uB, uC, uD, uE, reduceIte, reduceCtorEq, uF, uG, uH, b1350]
    all_goals ((repeat' apply And.intro) <;> rfl)
end
end Go.Proofs.YtdlohnchnneaeaaGreat
/- Functions of the program as functions of Lean, and the walks that show them. Printed by gen.py. -/
set_option linter.unusedSimpArgs false
set_option linter.unusedVariables false
set_option maxRecDepth 20000
namespace Go.Proofs.YtdlohnchnneaeaaGreat
open Go.Abs
open Nat renaming reduceEqDiff → uA, reduceLT → uB, reduceLeDiff → uC, reduceMul → uD, reduceAdd → uE, reduceBEq → uF, reduceSub → uG
open Int renaming reduceToNat → uH

attribute [local go_sem] encAttr encEdge encEdgeT encI encInts encL_encRow encNode encPair encRow encS encStrs enc_T_A2_Int enc_T_A3_Int
noncomputable section
def f_triple_Pair (a0 : Types) (a1 : Sorts) (a2 : Host) (a3 : Host) : Option (Host × Int) :=
  thn (f_triple_Valid a0 a1 a2) fun r2693 =>
  cond (decide (r2693 = 0)) (
    thn (f_triple_Valid a0 a1 a3) fun r2695 =>
    cond (decide (r2695 = 0)) (
      thn (f_triple_only a1 a2.graph 1) fun r2697 =>
      cond r2697 (
        thn (f_triple_only a1 a3.graph 3) fun r2699 =>
        cond r2699 (
          cond (decide (40 < (IntKind.i64.wrap (((a2.graph.nodes.length : Nat) : Int) + ((a3.graph.nodes.length : Nat) : Int))))) (
            some ((⟨(⟨([] : List Int), ([] : List Edge)⟩ : Graph), ([] : List (List Int))⟩ : Host), 3)) <|
          cond (decide (80 < (IntKind.i64.wrap (((a2.graph.edges.length : Nat) : Int) + ((a3.graph.edges.length : Nat) : Int))))) (
            some ((⟨(⟨([] : List Int), ([] : List Edge)⟩ : Graph), ([] : List (List Int))⟩ : Host), 3)) <|
          thn (f_slices_Concat_int [a2.graph.nodes, a3.graph.nodes]) fun r2705 =>
          thn (f_slices_Clone_Edge a2.graph.edges) fun r2706 =>
          chk (a3.graph.edges.length ≤ fuel) <|
          forN (fun i2713 (s2713 : (List Edge)) nxts2713 brks2713 =>
            thn (a3.graph.edges[i2713]?) fun e2718 =>
            chk (s2713.length + 1 ≤ 68719476736) <|
            nxts2713 (s2713 ++ [(⟨e2718.type, (IntKind.i64.wrap (e2718.src + ((a2.graph.nodes.length : Nat) : Int))), (IntKind.i64.wrap (e2718.dst + ((a2.graph.nodes.length : Nat) : Int)))⟩ : Edge)]))
          (a3.graph.edges.length - 0) 0 r2706 fun s2713 =>
          thn (f_slices_Concat_Lint [a2.values, a3.values]) fun r2722 =>
          chk (r2722.length ≤ fuel) <|
          forN (fun i2733 (s2733 : (List (List Int))) nxts2733 brks2733 =>
            thn (r2722[i2733]?) fun e2743 =>
            thn (f_slices_Clone_int e2743) fun r2748 =>
            chk (s2733.length + 1 ≤ 68719476736) <|
            nxts2733 (s2733 ++ [r2748]))
          (r2722.length - 0) 0 ([] : List (List Int)) fun s2733 =>
          some ((⟨(⟨r2705, s2713⟩ : Graph), s2733⟩ : Host), 0)) <|
        some ((⟨(⟨([] : List Int), ([] : List Edge)⟩ : Graph), ([] : List (List Int))⟩ : Host), 1)) <|
      some ((⟨(⟨([] : List Int), ([] : List Edge)⟩ : Graph), ([] : List (List Int))⟩ : Host), 1)) <|
    some ((⟨(⟨([] : List Int), ([] : List Edge)⟩ : Graph), ([] : List (List Int))⟩ : Host), r2695)) <|
  some ((⟨(⟨([] : List Int), ([] : List Edge)⟩ : Graph), ([] : List (List Int))⟩ : Host), r2693)
set_option maxHeartbeats 4000000 in
theorem w_triple_Pair (a0 : Types) (a1 : Sorts) (a2 : Host) (a3 : Host) (r : Host × Int) (h : f_triple_Pair a0 a1 a2 a3 = some r) : CallF Go.Proofs.Tryz.prog 17 [.agg [.lst (a0.nodes.map encNode), .lst (a0.edges.map encEdgeT)], .agg [.lst (a1.nodes.map encI), .lst (a1.edges.map encI)], .agg [.lst (a2.graph.nodes.map encI), .lst (a2.graph.edges.map encEdge), .lst (a2.values.map encRow)], .agg [.lst (a3.graph.nodes.map encI), .lst (a3.graph.edges.map encEdge), .lst (a3.values.map encRow)]] (fun v => v = .tup [.agg [.row 3 1 (r.1.graph.nodes.map encI), .row 73 3 (r.1.graph.edges.map encEdge), .row 26 1 (r.1.values.map encRow)], .p (.val (.int .i64 r.2))]) := by
  refine CallF.rle ?_
  refine callF_of_cw [130] Ty.mixed Go.Proofs.Tryz.func17 rfl (by kernel_rfl) (by simp [Go.Proofs.Tryz.ntmps17]) ?_; rw [Go.Proofs.Tryz.ntmps17, Go.Proofs.Tryz.results17]
  unfold f_triple_Pair at h
  obtain ⟨r2693, hr2693, h⟩ := thn_s h
  try simp -implicitDefEqProofs only [go_sem, uA, uB, uC, uD, uE, reduceIte, reduceCtorEq, uF, uG, uH]
  refine callG (w_triple_Valid a0 a1 a2 r2693 hr2693) (by simp -implicitDefEqProofs only [go_sem, uA, uB, uC, uD, uE, reduceIte, reduceCtorEq, uF, uG, uH] <;> rfl) (pleL_refl _) (by first | exact pers | exact scal rfl) ?_
  try simp -implicitDefEqProofs only [go_sem, uA, uB, uC, uD, uE, reduceIte, reduceCtorEq, uF, uG, uH]
  refine condC_splitN (fun b2694 => ?_) (fun b2694 => ?_)
  · replace h := cond_t h b2694
    obtain ⟨r2695, hr2695, h⟩ := thn_s h
    try simp -implicitDefEqProofs only [go_sem, uA, uB, uC, uD, uE, reduceIte, reduceCtorEq, uF, uG, uH, b2694]
    refine callG (w_triple_Valid a0 a1 a3 r2695 hr2695) (by simp -implicitDefEqProofs only [go_sem, uA, uB, uC, uD, uE, reduceIte, reduceCtorEq, uF, uG, uH, b2694] <;> rfl) (pleL_refl _) (by first | exact pers | exact scal rfl) ?_
    try simp -implicitDefEqProofs only [go_sem, uA, uB, uC, uD, uE, reduceIte, reduceCtorEq, uF, uG, uH, b2694]
    refine condC_splitN (fun b2696 => ?_) (fun b2696 => ?_)
    · replace h := cond_t h b2696
      obtain ⟨r2697, hr2697, h⟩ := thn_s h
      try simp -implicitDefEqProofs only [go_sem, uA, uB, uC, uD, uE, reduceIte, reduceCtorEq, uF, uG, uH, b2694, b2696]
      refine callG (w_triple_only a1 a2.graph 1 r2697 hr2697) (by simp -implicitDefEqProofs only [go_sem, uA, uB, uC, uD, uE, reduceIte, reduceCtorEq, uF, uG, uH, b2694, b2696] <;> rfl) (pleL_refl _) (by first | exact pers | exact scal rfl) ?_
      try simp -implicitDefEqProofs only [go_sem, uA, uB, uC, uD, uE, reduceIte, reduceCtorEq, uF, uG, uH, b2694, b2696]
      refine walkG_split (fun b2698 => ?_) (fun b2698 => ?_)
      · replace h := cond_t h b2698
        obtain ⟨r2699, hr2699, h⟩ := thn_s h
        try simp -implicitDefEqProofs only [go_sem, uA, uB, uC, uD, uE, reduceIte, reduceCtorEq, uF, uG, uH, b2694, b2696, b2698]
        refine callG (w_triple_only a1 a3.graph 3 r2699 hr2699) (by simp -implicitDefEqProofs only [go_sem, uA, uB, uC, uD, uE, reduceIte, reduceCtorEq, uF, uG, uH, b2694, b2696, b2698] <;> rfl) (pleL_refl _) (by first | exact pers | exact scal rfl) ?_
        try simp -implicitDefEqProofs only [go_sem, uA, uB, uC, uD, uE, reduceIte, reduceCtorEq, uF, uG, uH, b2694, b2696, b2698]
        refine condC_splitN (fun b2700 => ?_) (fun b2700 => ?_)
        · replace h := cond_t h b2700
          try simp -implicitDefEqProofs only [go_sem, uA, uB, uC, uD, uE, reduceIte, reduceCtorEq, uF, uG, uH, b2694, b2696, b2698, b2700]
          refine walkG_splitN (fun b2701 => ?_) (fun b2701 => ?_)
          · replace h := cond_t h b2701
            cases h
            try simp -implicitDefEqProofs only [go_sem, uA, uB, uC, uD, uE, reduceIte, reduceCtorEq, uF, uG, uH, b2694, b2696, b2698, b2700, b2701]
            refine ⟨by decide, _, .refl _, ?_⟩
            simp -implicitDefEqProofs only [go_sem, uA, uB, uC, uD, uE, reduceIte, reduceCtorEq, uF, uG, uH, b2694, b2696, b2698, b2700, b2701] <;> ((repeat' apply And.intro) <;> rfl)
          · replace h := cond_f h b2701
            try simp -implicitDefEqProofs only [go_sem, uA, uB, uC, uD, uE, reduceIte, reduceCtorEq, uF, uG, uH, b2694, b2696, b2698, b2700, b2701]
            refine condC_split (fun b2702 => ?_) (fun b2702 => ?_)
            · replace h := cond_t h b2702
              cases h
              try simp -implicitDefEqProofs only [go_sem, uA, uB, uC, uD, uE, reduceIte, reduceCtorEq, uF, uG, uH, b2694, b2696, b2698, b2700, b2701, b2702]
              refine ⟨by decide, _, .refl _, ?_⟩
              simp -implicitDefEqProofs only [go_sem, uA, uB, uC, uD, uE, reduceIte, reduceCtorEq, uF, uG, uH, b2694, b2696, b2698, b2700, b2701, b2702] <;> ((repeat' apply And.intro) <;> rfl)
            · replace h := cond_f h b2702
              try simp -implicitDefEqProofs only [go_sem, uA, uB, uC, uD, uE, reduceIte, reduceCtorEq, uF, uG, uH, b2694, b2696, b2698, b2700, b2701, b2702]
              refine draw_my [(0, .q), (1, .q), (2, .q), (3, .q), (4, .q), (5, .q), (6, .p), (8, .q), (9, .q), (10, .q), (7, .f), (11, .f), (12, .q), (13, .q), (14, .w), (15, .s)] (by kernel_rfl) ?_
              obtain ⟨r2705, hr2705, h⟩ := thn_s h
              try simp -implicitDefEqProofs only [go_sem, uA, uB, uC, uD, uE, reduceIte, reduceCtorEq, uF, uG, uH, b2694, b2696, b2698, b2700, b2701, b2702]
              refine calldfG 2280 (w_slices_Concat_int [a2.graph.nodes, a3.graph.nodes] r2705 hr2705) (by simp -implicitDefEqProofs only [go_sem, uA, uB, uC, uD, uE, reduceIte, reduceCtorEq, uF, uG, uH, b2694, b2696, b2698, b2700, b2701, b2702] <;> rfl) (pleL_refl _) (by first | exact persF | exact flatF rfl | exact flatF (by simp [RV.flat, RV.flatL, PV.scalar, isVal, encI])) (by simp -implicitDefEqProofs only [go_sem, uA, uB, uC, uD, uE, reduceIte, reduceCtorEq, uF, uG, uH, b2694, b2696, b2698, b2700, b2701, b2702]) (by simp -implicitDefEqProofs only [go_sem, uA, uB, uC, uD, uE, reduceIte, reduceCtorEq, uF, uG, uH, b2694, b2696, b2698, b2700, b2701, b2702]) ?_
              obtain ⟨r2706, hr2706, h⟩ := thn_s h
              try simp -implicitDefEqProofs only [go_sem, uA, uB, uC, uD, uE, reduceIte, reduceCtorEq, uF, uG, uH, b2694, b2696, b2698, b2700, b2701, b2702]
              refine calldfG 2344 (w_slices_Clone_Edge a2.graph.edges r2706 hr2706) (by simp -implicitDefEqProofs only [go_sem, uA, uB, uC, uD, uE, reduceIte, reduceCtorEq, uF, uG, uH, b2694, b2696, b2698, b2700, b2701, b2702] <;> rfl) (pleL_refl _) (by first | exact persF | exact flatF rfl | exact flatF (by simp [RV.flat, RV.flatL, PV.scalar, isVal, encEdge])) (by simp -implicitDefEqProofs only [go_sem, uA, uB, uC, uD, uE, reduceIte, reduceCtorEq, uF, uG, uH, b2694, b2696, b2698, b2700, b2701, b2702]) (by simp -implicitDefEqProofs only [go_sem, uA, uB, uC, uD, uE, reduceIte, reduceCtorEq, uF, uG, uH, b2694, b2696, b2698, b2700, b2701, b2702]) ?_
              obtain ⟨fus2713, h⟩ := chk_s h
              unfold fuel at fus2713
              try simp -implicitDefEqProofs only [go_sem, uA, uB, uC, uD, uE, reduceIte, reduceCtorEq, uF, uG, uH, b2694, b2696, b2698, b2700, b2701, b2702]
              refine forN_go (fun x : (Nat × ((List Edge))) × (Nat) => envL [(6, .ptr 6 0), (7, .ptr 7 0), (8, .ptr 8 0), (12, .p (.val (.int .i64 ((a2.graph.nodes.length : Nat) : Int)))), (13, .ptr 13 0), (89, .p (.lst (a3.graph.edges.map encEdge))), (90, .p (.val (.int .i64 ((a3.graph.edges.length : Nat) : Int)))), (91, .p (.val (.int .i64 ((x.1.1 : Nat) : Int))))]) (fun x => heapL [(6, .box [.p (.lst (a2.graph.nodes.map encI)), .p (.lst (a2.graph.edges.map encEdge)), .p (.lst (a2.values.map encRow))]), (7, .box [.p (.lst (a3.graph.nodes.map encI)), .p (.lst (a3.graph.edges.map encEdge)), .p (.lst (a3.values.map encRow))]), (8, .box [.p (.val (.slice none 0 0)), .p (.val (.slice none 0 0)), .p (.val (.slice none 0 0))]), (13, .box [.row 2280 0, .row 2344 x.2, .p (.val (.slice none 0 0))]), (2280, .row 0 3 1 (r2705.map encI)), (2344, .row x.2 73 3 (x.1.2.map encEdge))]) 0 h (weakL (by simp -implicitDefEqProofs only [go_sem, uA, uB, uC, uD, uE, reduceIte, reduceCtorEq, uF, uG, uH, b2694, b2696, b2698, b2700, b2701, b2702] <;> ((repeat' apply And.intro) <;> rfl))) ?_ ?_
              · intro i2713 s2713 g2713 nxts2713 Rs2713 his2713 hNs2713 h
                have hws2713 := wrap_succ (k := i2713) his2713 (by omega)
                try dsimp only at h
                obtain ⟨e2718, c2718, g2718, q2718, h⟩ := idx_s encEdge h
                obtain ⟨c2719, h⟩ := chk_s h
                have k2720 := eq_true (show (s2713.length + 1) * 24 ≤ 140737488355328 by omega)
                have a2721 := map_apps encEdge s2713 [(⟨e2718.type, (IntKind.i64.wrap (e2718.src + ((a2.graph.nodes.length : Nat) : Int))), (IntKind.i64.wrap (e2718.dst + ((a2.graph.nodes.length : Nat) : Int)))⟩ : Edge)] (c := [[.val (.int .i64 e2718.type), .val (.int .i64 (IntKind.i64.wrap (e2718.src + ((a2.graph.nodes.length : Nat) : Int)))), .val (.int .i64 (IntKind.i64.wrap (e2718.dst + ((a2.graph.nodes.length : Nat) : Int))))]]) rfl
                try simp -implicitDefEqProofs only [go_sem, uA, uB, uC, uD, uE, reduceIte, reduceCtorEq, uF, uG, uH, b2694, b2696, b2698, b2700, b2701, b2702, his2713, hws2713, c2718, g2718, c2719, k2720, a2721]
                exact hNs2713 (s2713 ++ [(⟨e2718.type, (IntKind.i64.wrap (e2718.src + ((a2.graph.nodes.length : Nat) : Int))), (IntKind.i64.wrap (e2718.dst + ((a2.graph.nodes.length : Nat) : Int)))⟩ : Edge)]) (g2713 + 1) h (weakL (by simp -implicitDefEqProofs only [go_sem, uA, uB, uC, uD, uE, reduceIte, reduceCtorEq, uF, uG, uH, b2694, b2696, b2698, b2700, b2701, b2702, his2713, hws2713, c2718, g2718, c2719, k2720, a2721] <;> ((repeat' apply And.intro) <;> rfl)))
              · intro i2713 s2713 g2713 Rs2713 hes2713 h
                have hns2713 : ¬ (i2713 < a3.graph.edges.length) := by omega
                try dsimp only at h
                obtain ⟨r2722, hr2722, h⟩ := thn_s h
                try simp -implicitDefEqProofs only [go_sem, uA, uB, uC, uD, uE, reduceIte, reduceCtorEq, uF, uG, uH, b2694, b2696, b2698, b2700, b2701, b2702, hns2713]
                refine callfG 2904 (w_slices_Concat_Lint [a2.values, a3.values] r2722 hr2722) (by simp -implicitDefEqProofs only [go_sem, uA, uB, uC, uD, uE, reduceIte, reduceCtorEq, uF, uG, uH, b2694, b2696, b2698, b2700, b2701, b2702, hns2713] <;> rfl) (pleL_refl _) (by first | exact persF | exact flatF rfl | exact flatF (by simp [RV.flat, RV.flatL, PV.scalar, isVal, encRow])) (by simp -implicitDefEqProofs only [go_sem, uA, uB, uC, uD, uE, reduceIte, reduceCtorEq, uF, uG, uH, b2694, b2696, b2698, b2700, b2701, b2702, hns2713]) ?_
                obtain ⟨fus2733, h⟩ := chk_s h
                unfold fuel at fus2733
                try simp -implicitDefEqProofs only [go_sem, uA, uB, uC, uD, uE, reduceIte, reduceCtorEq, uF, uG, uH, b2694, b2696, b2698, b2700, b2701, b2702, hns2713]
                refine forN_go (fun x : (Nat × ((List (List Int)))) × (Nat) => envL [(8, .ptr 8 0), (13, .ptr 13 0), (119, .row 2904 0), (120, .p (.val (.int .i64 ((r2722.length : Nat) : Int)))), (121, .p (.val (.int .i64 ((x.1.1 : Nat) : Int))))]) (fun x => heapL [(8, .box [.p (.val (.slice none 0 0)), .p (.val (.slice none 0 0)), .p (.val (.slice none 0 0))]), (13, .box [.row 2280 0, .row 2344 g2713, .row 4731 x.2]), (2904, .row 0 26 1 (r2722.map encRow)), (2280, .row 0 3 1 (r2705.map encI)), (2344, .row g2713 73 3 (s2713.map encEdge)), (4731, .row x.2 26 1 (x.1.2.map encRow))]) 0 h (by refine Weak.trans (weak_nilbox 13 2 4731 26 1 _ rfl rfl rfl (by decide)) ?_; exact (weakL (by simp -implicitDefEqProofs only [go_sem, uA, uB, uC, uD, uE, reduceIte, reduceCtorEq, uF, uG, uH, b2694, b2696, b2698, b2700, b2701, b2702, hns2713] <;> ((repeat' apply And.intro) <;> rfl)))) ?_ ?_
                · intro i2733 s2733 g2733 nxts2733 Rs2733 his2733 hNs2733 h
                  have hws2733 := wrap_succ (k := i2733) his2733 (by omega)
                  try dsimp only at h
                  obtain ⟨e2743, c2743, g2743, q2743, h⟩ := idx_s encRow h
                  try simp -implicitDefEqProofs only [go_sem, uA, uB, uC, uD, uE, reduceIte, reduceCtorEq, uF, uG, uH, b2694, b2696, b2698, b2700, b2701, b2702, hns2713, his2733, hws2733, c2743, g2743]
                  refine draw_my [(0, .p), (2, .q), (3, .q), (4, .p), (1, .q), (5, .w), (6, .q), (7, .w)] (by kernel_rfl) ?_
                  obtain ⟨r2748, hr2748, h⟩ := thn_s h
                  try simp -implicitDefEqProofs only [go_sem, uA, uB, uC, uD, uE, reduceIte, reduceCtorEq, uF, uG, uH, b2694, b2696, b2698, b2700, b2701, b2702, hns2713, his2733, hws2733, c2743, g2743]
                  refine calldG (show CallV _ _ _ (fun v => v = .lst (r2748.map encI)) from (w_slices_Clone_int e2743 r2748 hr2748).toV1) (by simp -implicitDefEqProofs only [go_sem, uA, uB, uC, uD, uE, reduceIte, reduceCtorEq, uF, uG, uH, b2694, b2696, b2698, b2700, b2701, b2702, hns2713, his2733, hws2733, c2743, g2743] <;> rfl) (pleL_refl _) (by first | exact pers | exact scal rfl) ?_
                  obtain ⟨c2749, h⟩ := chk_s h
                  have k2750 := eq_true (show (s2733.length + 1) * 24 ≤ 140737488355328 by omega)
                  have a2751 := map_apps encRow s2733 [r2748] (c := [[.lst (r2748.map encI)]]) rfl
                  try simp -implicitDefEqProofs only [go_sem, uA, uB, uC, uD, uE, reduceIte, reduceCtorEq, uF, uG, uH, b2694, b2696, b2698, b2700, b2701, b2702, hns2713, his2733, hws2733, c2743, g2743, c2749, k2750, a2751]
                  exact hNs2733 (s2733 ++ [r2748]) (g2733 + 1) h (weakL (by simp -implicitDefEqProofs only [go_sem, uA, uB, uC, uD, uE, reduceIte, reduceCtorEq, uF, uG, uH, b2694, b2696, b2698, b2700, b2701, b2702, hns2713, his2733, hws2733, c2743, g2743, c2749, k2750, a2751] <;> ((repeat' apply And.intro) <;> rfl)))
                · intro i2733 s2733 g2733 Rs2733 hes2733 h
                  have hns2733 : ¬ (i2733 < r2722.length) := by omega
                  try dsimp only at h
                  cases h
                  try simp -implicitDefEqProofs only [go_sem, uA, uB, uC, uD, uE, reduceIte, reduceCtorEq, uF, uG, uH, b2694, b2696, b2698, b2700, b2701, b2702, hns2713, hns2733]
                  refine ⟨by decide, _, .refl _, ?_⟩
                  simp -implicitDefEqProofs only [go_sem, uA, uB, uC, uD, uE, reduceIte, reduceCtorEq, uF, uG, uH, b2694, b2696, b2698, b2700, b2701, b2702, hns2713, hns2733] <;> ((repeat' apply And.intro) <;> rfl)
        · replace h := cond_f h b2700
          cases h
          try simp -implicitDefEqProofs only [go_sem, uA, uB, uC, uD, uE, reduceIte, reduceCtorEq, uF, uG, uH, b2694, b2696, b2698, b2700]
          refine ⟨by decide, _, .refl _, ?_⟩
          simp -implicitDefEqProofs only [go_sem, uA, uB, uC, uD, uE, reduceIte, reduceCtorEq, uF, uG, uH, b2694, b2696, b2698, b2700] <;> ((repeat' apply And.intro) <;> rfl)
      · replace h := cond_f h b2698
        cases h
        try simp -implicitDefEqProofs only [go_sem, uA, uB, uC, uD, uE, reduceIte, reduceCtorEq, uF, uG, uH, b2694, b2696, b2698]
        refine ⟨by decide, _, .refl _, ?_⟩
        simp -implicitDefEqProofs only [go_sem, uA, uB, uC, uD, uE, reduceIte, reduceCtorEq, uF, uG, uH, b2694, b2696, b2698] <;> ((repeat' apply And.intro) <;> rfl)
    · replace h := cond_f h b2696
      cases h
      try simp -implicitDefEqProofs only [go_sem, uA, uB, uC, uD, uE, reduceIte, reduceCtorEq, uF, uG, uH, b2694, b2696]
      refine ⟨by decide, _, .refl _, ?_⟩
      simp -implicitDefEqProofs only [go_sem, uA, uB, uC, uD, uE, reduceIte, reduceCtorEq, uF, uG, uH, b2694, b2696] <;> ((repeat' apply And.intro) <;> rfl)
  · replace h := cond_f h b2694
    cases h
    try simp -implicitDefEqProofs only [go_sem, uA, uB, uC, uD, uE, reduceIte, reduceCtorEq, uF, uG, uH, b2694]
    refine ⟨by decide, _, .refl _, ?_⟩
    simp -implicitDefEqProofs only [go_sem, uA, uB, uC, uD, uE, reduceIte, reduceCtorEq, uF, uG, uH, b2694] <;> ((repeat' apply And.intro) <;> rfl)
end
end Go.Proofs.YtdlohnchnneaeaaGreat
/- Functions of the program as functions of Lean, and the walks that show them. Printed by gen.py. -/
set_option linter.unusedSimpArgs false
set_option linter.unusedVariables false
set_option maxRecDepth 20000
namespace Go.Proofs.YtdlohnchnneaeaaGreat
open Go.Abs
open Nat renaming reduceEqDiff → uA, reduceLT → uB, reduceLeDiff → uC, reduceMul → uD, reduceAdd → uE, reduceBEq → uF, reduceSub → uG
open Int renaming reduceToNat → uH

attribute [local go_sem] encAttr encEdge encEdgeT encI encInts encL_encRow encNode encPair encRow encS encStrs enc_T_A2_Int enc_T_A3_Int
noncomputable section
end
end Go.Proofs.YtdlohnchnneaeaaGreat
/- Functions of the program as functions of Lean, and the walks that show them. Printed by gen.py. -/
set_option linter.unusedSimpArgs false
set_option linter.unusedVariables false
set_option maxRecDepth 20000
namespace Go.Proofs.YtdlohnchnneaeaaGreat
open Go.Abs
open Nat renaming reduceEqDiff → uA, reduceLT → uB, reduceLeDiff → uC, reduceMul → uD, reduceAdd → uE, reduceBEq → uF, reduceSub → uG
open Int renaming reduceToNat → uH

attribute [local go_sem] encAttr encEdge encEdgeT encI encInts encL_encRow encNode encPair encRow encS encStrs enc_T_A2_Int enc_T_A3_Int
noncomputable section
def f_slices_BinarySearch_int (a0 : List Int) (a1 : Int) : Option (Int × Bool) :=
  iter (fun (s297 : Int × Int) nxts297 brks297 =>
    cond (decide (s297.1 < s297.2)) (
      thn (atZ a0 (IntKind.i64.wrap ((IntKind.u64.wrap (IntKind.i64.wrap (s297.1 + s297.2))).fdiv (2 ^ 1)))) fun e307 =>
      thn (f_cmp_Less_int e307 a1) fun r308 =>
      cond r308 (
        nxts297 ((IntKind.i64.wrap ((IntKind.i64.wrap ((IntKind.u64.wrap (IntKind.i64.wrap (s297.1 + s297.2))).fdiv (2 ^ 1))) + 1)), s297.2)) <|
      nxts297 (s297.1, (IntKind.i64.wrap ((IntKind.u64.wrap (IntKind.i64.wrap (s297.1 + s297.2))).fdiv (2 ^ 1))))) <|
    brks297 (s297.1, s297.2))
  fuel (0, ((a0.length : Nat) : Int)) fun s297 =>
  cond (decide (s297.1 < ((a0.length : Nat) : Int))) (
    thn (atZ a0 s297.1) fun e317 =>
    cond (decide (e317 = a1)) (
      some (s297.1, true)) <|
    thn (f_slices_isNaN_int e317) fun r319 =>
    cond r319 (
      thn (f_slices_isNaN_int a1) fun r321 =>
      some (s297.1, r321)) <|
    some (s297.1, false)) <|
  some (s297.1, false)
set_option maxHeartbeats 4000000 in
theorem w_slices_BinarySearch_int (a0 : List Int) (a1 : Int) (r : Int × Bool) (h : f_slices_BinarySearch_int a0 a1 = some r) : CallV Go.Proofs.Tryz.prog 99 [.lst (a0.map encI), .val (.int .i64 a1)] (fun v => v = .tup [.val (.int .i64 r.1), .val (.bool r.2)]) := by
  refine CallV.ple ?_
  refine callV_of_cw [] Ty.mixed Go.Proofs.Tryz.func99 rfl (by kernel_rfl) (by simp [Go.Proofs.Tryz.ntmps99]) ?_; rw [Go.Proofs.Tryz.ntmps99, Go.Proofs.Tryz.results99]
  unfold f_slices_BinarySearch_int at h
  try simp -implicitDefEqProofs only [go_sem, uA, uB, uC, uD, uE, reduceIte, reduceCtorEq, uF, uG, uH]
  refine iter_go (fun x : (Int × Int) × (Unit) => envL [(0, .p (.lst (a0.map encI))), (1, .p (.val (.int .i64 a1))), (6, .p (.val (.int .i64 ((a0.length : Nat) : Int)))), (7, .p (.val (.int .i64 x.1.1))), (8, .p (.val (.int .i64 x.1.2)))]) (fun x => heapL []) () h (weakL (by simp -implicitDefEqProofs only [go_sem, uA, uB, uC, uD, uE, reduceIte, reduceCtorEq, uF, uG, uH] <;> ((repeat' apply And.intro) <;> rfl))) ?_
  intro s297 g297 nxts297 Rs297 hNs297 h
  try dsimp only at h
  try simp -implicitDefEqProofs only [go_sem, uA, uB, uC, uD, uE, reduceIte, reduceCtorEq, uF, uG, uH]
  refine condC_split (fun b304 => ?_) (fun b304 => ?_)
  · replace h := cond_t h b304
    have z305 := show (0 : Int) ≤ 1 by decide
    have z306 := show min 1 64 = 1 from rfl
    obtain ⟨e307, c307a, c307b, g307, q307, h⟩ := atZ_s encI h
    have c307n := toNat_lt c307a c307b
    obtain ⟨r308, hr308, h⟩ := thn_s h
    try simp -implicitDefEqProofs only [go_sem, uA, uB, uC, uD, uE, reduceIte, reduceCtorEq, uF, uG, uH, b304, z305, z306, c307a, c307b, c307n, g307]
    refine callG (w_cmp_Less_int e307 a1 r308 hr308) (by simp -implicitDefEqProofs only [go_sem, uA, uB, uC, uD, uE, reduceIte, reduceCtorEq, uF, uG, uH, b304, z305, z306, c307a, c307b, c307n, g307] <;> rfl) (pleL_refl _) (by first | exact pers | exact scal rfl) ?_
    try simp -implicitDefEqProofs only [go_sem, uA, uB, uC, uD, uE, reduceIte, reduceCtorEq, uF, uG, uH, b304, z305, z306, c307a, c307b, c307n, g307]
    refine condC_split (fun b309 => ?_) (fun b309 => ?_)
    · replace h := cond_t h b309
      try simp -implicitDefEqProofs only [go_sem, uA, uB, uC, uD, uE, reduceIte, reduceCtorEq, uF, uG, uH, b304, z305, z306, c307a, c307b, c307n, g307, b309]
      exact hNs297 ((IntKind.i64.wrap ((IntKind.i64.wrap ((IntKind.u64.wrap (IntKind.i64.wrap (s297.1 + s297.2))).fdiv (2 ^ 1))) + 1)), s297.2) () h (weakL (by simp -implicitDefEqProofs only [go_sem, uA, uB, uC, uD, uE, reduceIte, reduceCtorEq, uF, uG, uH, b304, z305, z306, c307a, c307b, c307n, g307, b309] <;> ((repeat' apply And.intro) <;> rfl)))
    · replace h := cond_f h b309
      try simp -implicitDefEqProofs only [go_sem, uA, uB, uC, uD, uE, reduceIte, reduceCtorEq, uF, uG, uH, b304, z305, z306, c307a, c307b, c307n, g307, b309]
      exact hNs297 (s297.1, (IntKind.i64.wrap ((IntKind.u64.wrap (IntKind.i64.wrap (s297.1 + s297.2))).fdiv (2 ^ 1)))) () h (weakL (by simp -implicitDefEqProofs only [go_sem, uA, uB, uC, uD, uE, reduceIte, reduceCtorEq, uF, uG, uH, b304, z305, z306, c307a, c307b, c307n, g307, b309] <;> ((repeat' apply And.intro) <;> rfl)))
  · replace h := cond_f h b304
    try dsimp only at h
    try simp -implicitDefEqProofs only [go_sem, uA, uB, uC, uD, uE, reduceIte, reduceCtorEq, uF, uG, uH, b304]
    refine walkG_split (fun b310 => ?_) (fun b310 => ?_)
    · replace h := cond_t h b310
      obtain ⟨e311, c311a, c311b, g311, q311, h⟩ := atZ_s encI h
      have c311n := toNat_lt c311a c311b
      try simp -implicitDefEqProofs only [go_sem, uA, uB, uC, uD, uE, reduceIte, reduceCtorEq, uF, uG, uH, b304, b310, c311a, c311b, c311n, g311]
      refine walkG_splitN (fun b312 => ?_) (fun b312 => ?_)
      · replace h := cond_t h b312
        cases h
        try simp -implicitDefEqProofs only [go_sem, uA, uB, uC, uD, uE, reduceIte, reduceCtorEq, uF, uG, uH, b304, b310, c311a, c311b, c311n, g311, b312]
        all_goals ((repeat' apply And.intro) <;> rfl)
      · replace h := cond_f h b312
        obtain ⟨r313, hr313, h⟩ := thn_s h
        try simp -implicitDefEqProofs only [go_sem, uA, uB, uC, uD, uE, reduceIte, reduceCtorEq, uF, uG, uH, b304, b310, c311a, c311b, c311n, g311, b312]
        refine callG (w_slices_isNaN_int e311 r313 hr313) (by simp -implicitDefEqProofs only [go_sem, uA, uB, uC, uD, uE, reduceIte, reduceCtorEq, uF, uG, uH, b304, b310, c311a, c311b, c311n, g311, b312] <;> rfl) (pleL_refl _) (by first | exact pers | exact scal rfl) ?_
        try simp -implicitDefEqProofs only [go_sem, uA, uB, uC, uD, uE, reduceIte, reduceCtorEq, uF, uG, uH, b304, b310, c311a, c311b, c311n, g311, b312]
        refine walkG_split (fun b314 => ?_) (fun b314 => ?_)
        · replace h := cond_t h b314
          obtain ⟨r315, hr315, h⟩ := thn_s h
          try simp -implicitDefEqProofs only [go_sem, uA, uB, uC, uD, uE, reduceIte, reduceCtorEq, uF, uG, uH, b304, b310, c311a, c311b, c311n, g311, b312, b314]
          refine callG (w_slices_isNaN_int a1 r315 hr315) (by simp -implicitDefEqProofs only [go_sem, uA, uB, uC, uD, uE, reduceIte, reduceCtorEq, uF, uG, uH, b304, b310, c311a, c311b, c311n, g311, b312, b314] <;> rfl) (pleL_refl _) (by first | exact pers | exact scal rfl) ?_
          cases h
          try simp -implicitDefEqProofs only [go_sem, uA, uB, uC, uD, uE, reduceIte, reduceCtorEq, uF, uG, uH, b304, b310, c311a, c311b, c311n, g311, b312, b314]
          all_goals ((repeat' apply And.intro) <;> rfl)
        · replace h := cond_f h b314
          cases h
          try simp -implicitDefEqProofs only [go_sem, uA, uB, uC, uD, uE, reduceIte, reduceCtorEq, uF, uG, uH, b304, b310, c311a, c311b, c311n, g311, b312, b314]
          all_goals ((repeat' apply And.intro) <;> rfl)
    · replace h := cond_f h b310
      cases h
      try simp -implicitDefEqProofs only [go_sem, uA, uB, uC, uD, uE, reduceIte, reduceCtorEq, uF, uG, uH, b304, b310]
      all_goals ((repeat' apply And.intro) <;> rfl)

def f_scarfjointref07_Valid (a0 : Graph) (a1 : Part) : Option Int :=
  thn (f_scarfjointref05_Valid a0) fun r645 =>
  cond (decide (r645 = 0)) (
    thn (f_scarfjointref07_Right (⟨a0.nodes, a0.edges⟩ : Graph) (⟨a1.nodes, a1.edges⟩ : Part)) fun r702 =>
    some r702) <|
  some r645
set_option maxHeartbeats 4000000 in
theorem w_scarfjointref07_Valid (a0 : Graph) (a1 : Part) (r : Int) (h : f_scarfjointref07_Valid a0 a1 = some r) : CallV Go.Proofs.Tryz.prog 100 [.agg [.lst (a0.nodes.map encI), .lst (a0.edges.map encEdge)], .agg [.lst (a1.nodes.map encI), .lst (a1.edges.map encI)]] (fun v => v = .val (.int .i64 r)) := by
  refine CallV.ple ?_
  refine callV_of_cw [] Ty.mixed Go.Proofs.Tryz.func100 rfl (by kernel_rfl) (by simp [Go.Proofs.Tryz.ntmps100]) ?_; rw [Go.Proofs.Tryz.ntmps100, Go.Proofs.Tryz.results100]
  unfold f_scarfjointref07_Valid at h
  obtain ⟨r645, hr645, h⟩ := thn_s h
  try simp -implicitDefEqProofs only [go_sem, uA, uB, uC, uD, uE, reduceIte, reduceCtorEq, uF, uG, uH]
  refine callG (w_scarfjointref05_Valid a0 r645 hr645) (by simp -implicitDefEqProofs only [go_sem, uA, uB, uC, uD, uE, reduceIte, reduceCtorEq, uF, uG, uH] <;> rfl) (pleL_refl _) (by first | exact pers | exact scal rfl) ?_
  try simp -implicitDefEqProofs only [go_sem, uA, uB, uC, uD, uE, reduceIte, reduceCtorEq, uF, uG, uH]
  refine condC_splitN (fun b646 => ?_) (fun b646 => ?_)
  · replace h := cond_t h b646
    obtain ⟨r702, hr702, h⟩ := thn_s h
    try simp -implicitDefEqProofs only [go_sem, uA, uB, uC, uD, uE, reduceIte, reduceCtorEq, uF, uG, uH, b646]
    refine callG (w_scarfjointref07_Right (⟨a0.nodes, a0.edges⟩ : Graph) (⟨a1.nodes, a1.edges⟩ : Part) r702 hr702) (by simp -implicitDefEqProofs only [go_sem, uA, uB, uC, uD, uE, reduceIte, reduceCtorEq, uF, uG, uH, b646] <;> rfl) (pleL_refl _) (by first | exact pers | exact scal rfl) ?_
    cases h
    try simp -implicitDefEqProofs only [go_sem, uA, uB, uC, uD, uE, reduceIte, reduceCtorEq, uF, uG, uH, b646]
    all_goals ((repeat' apply And.intro) <;> rfl)
  · replace h := cond_f h b646
    cases h
    try simp -implicitDefEqProofs only [go_sem, uA, uB, uC, uD, uE, reduceIte, reduceCtorEq, uF, uG, uH, b646]
    all_goals ((repeat' apply And.intro) <;> rfl)

def f_scarfjointref04_Fits (a0 : Types) (a1 : Int) (a2 : Int) (a3 : Int) : Option Bool :=
  thn (f_scarfjointref04_given a0 a2 a3) fun r1941 =>
  cond (decide (r1941 = 0)) (
    thn (f_scarfjointref04_in a1 0 (IntKind.i64.wrap (((a0.edges.length : Nat) : Int) - 1))) fun r1943 =>
    cond r1943 (
      thn (atZ a0.edges a1) fun e1945 =>
      thn (f_scarfjointref04_Below1 fuel a0 a2 e1945.src) fun r1953 =>
      cond r1953 (
        thn (f_scarfjointref04_Below1 fuel a0 a3 e1945.dst) fun r1955 =>
        some r1955) <|
      some false) <|
    some false) <|
  some false
set_option maxHeartbeats 4000000 in
theorem w_scarfjointref04_Fits (a0 : Types) (a1 : Int) (a2 : Int) (a3 : Int) (r : Bool) (h : f_scarfjointref04_Fits a0 a1 a2 a3 = some r) : CallV Go.Proofs.Tryz.prog 59 [.agg [.lst (a0.nodes.map encNode), .lst (a0.edges.map encEdgeT)], .val (.int .i64 a1), .val (.int .i64 a2), .val (.int .i64 a3)] (fun v => v = .val (.bool r)) := by
  refine CallV.ple ?_
  refine callV_of_cw [] Ty.mixed Go.Proofs.Tryz.func59 rfl (by kernel_rfl) (by simp [Go.Proofs.Tryz.ntmps59]) ?_; rw [Go.Proofs.Tryz.ntmps59, Go.Proofs.Tryz.results59]
  unfold f_scarfjointref04_Fits at h
  obtain ⟨r1941, hr1941, h⟩ := thn_s h
  try simp -implicitDefEqProofs only [go_sem, uA, uB, uC, uD, uE, reduceIte, reduceCtorEq, uF, uG, uH]
  refine callG (w_scarfjointref04_given a0 a2 a3 r1941 hr1941) (by simp -implicitDefEqProofs only [go_sem, uA, uB, uC, uD, uE, reduceIte, reduceCtorEq, uF, uG, uH] <;> rfl) (pleL_refl _) (by first | exact pers | exact scal rfl) ?_
  try simp -implicitDefEqProofs only [go_sem, uA, uB, uC, uD, uE, reduceIte, reduceCtorEq, uF, uG, uH]
  refine walkG_split (fun b1942 => ?_) (fun b1942 => ?_)
  · replace h := cond_t h b1942
    obtain ⟨r1943, hr1943, h⟩ := thn_s h
    try simp -implicitDefEqProofs only [go_sem, uA, uB, uC, uD, uE, reduceIte, reduceCtorEq, uF, uG, uH, b1942]
    refine callG (w_scarfjointref04_in a1 0 (IntKind.i64.wrap (((a0.edges.length : Nat) : Int) - 1)) r1943 hr1943) (by simp -implicitDefEqProofs only [go_sem, uA, uB, uC, uD, uE, reduceIte, reduceCtorEq, uF, uG, uH, b1942] <;> rfl) (pleL_refl _) (by first | exact pers | exact scal rfl) ?_
    try simp -implicitDefEqProofs only [go_sem, uA, uB, uC, uD, uE, reduceIte, reduceCtorEq, uF, uG, uH, b1942]
    refine condC_splitN (fun b1944 => ?_) (fun b1944 => ?_)
    · replace h := cond_t h b1944
      try simp -implicitDefEqProofs only [go_sem, uA, uB, uC, uD, uE, reduceIte, reduceCtorEq, uF, uG, uH, b1942, b1944]
      refine draw_txt [.q, .q, .q, .q, .q, .q, .q, .q, .q, .q, .q, .q, .q, .q, .q, .q, .q, .q, .q, .q, .q] (by kernel_rfl) ?_
      obtain ⟨e1945, c1945a, c1945b, g1945, q1945, h⟩ := atZ_s encEdgeT h
      have c1945n := toNat_lt c1945a c1945b
      obtain ⟨r1953, hr1953, h⟩ := thn_s h
      try simp -implicitDefEqProofs only [go_sem, uA, uB, uC, uD, uE, reduceIte, reduceCtorEq, uF, uG, uH, b1942, b1944, c1945a, c1945b, c1945n, g1945]
      refine calldG (w_scarfjointref04_Below1 fuel a0 a2 e1945.src r1953 hr1953) (by simp -implicitDefEqProofs only [go_sem, uA, uB, uC, uD, uE, reduceIte, reduceCtorEq, uF, uG, uH, b1942, b1944, c1945a, c1945b, c1945n, g1945] <;> rfl) (pleL_refl _) (by first | exact pers | exact scal rfl) ?_
      try simp -implicitDefEqProofs only [go_sem, uA, uB, uC, uD, uE, reduceIte, reduceCtorEq, uF, uG, uH, b1942, b1944, c1945a, c1945b, c1945n, g1945]
      refine walkDG_split (fun b1954 => ?_) (fun b1954 => ?_)
      · replace h := cond_t h b1954
        obtain ⟨r1955, hr1955, h⟩ := thn_s h
        try simp -implicitDefEqProofs only [go_sem, uA, uB, uC, uD, uE, reduceIte, reduceCtorEq, uF, uG, uH, b1942, b1944, c1945a, c1945b, c1945n, g1945, b1954]
        refine calldG (w_scarfjointref04_Below1 fuel a0 a3 e1945.dst r1955 hr1955) (by simp -implicitDefEqProofs only [go_sem, uA, uB, uC, uD, uE, reduceIte, reduceCtorEq, uF, uG, uH, b1942, b1944, c1945a, c1945b, c1945n, g1945, b1954] <;> rfl) (pleL_refl _) (by first | exact pers | exact scal rfl) ?_
        cases h
        try simp -implicitDefEqProofs only [go_sem, uA, uB, uC, uD, uE, reduceIte, reduceCtorEq, uF, uG, uH, b1942, b1944, c1945a, c1945b, c1945n, g1945, b1954]
        all_goals ((repeat' apply And.intro) <;> rfl)
      · replace h := cond_f h b1954
        cases h
        try simp -implicitDefEqProofs only [go_sem, uA, uB, uC, uD, uE, reduceIte, reduceCtorEq, uF, uG, uH, b1942, b1944, c1945a, c1945b, c1945n, g1945, b1954]
        all_goals ((repeat' apply And.intro) <;> rfl)
    · replace h := cond_f h b1944
      cases h
      try simp -implicitDefEqProofs only [go_sem, uA, uB, uC, uD, uE, reduceIte, reduceCtorEq, uF, uG, uH, b1942, b1944]
      all_goals ((repeat' apply And.intro) <;> rfl)
  · replace h := cond_f h b1942
    cases h
    try simp -implicitDefEqProofs only [go_sem, uA, uB, uC, uD, uE, reduceIte, reduceCtorEq, uF, uG, uH, b1942]
    all_goals ((repeat' apply And.intro) <;> rfl)
end
end Go.Proofs.YtdlohnchnneaeaaGreat
/- Functions of the program as functions of Lean, and the walks that show them. Printed by gen.py. -/
set_option linter.unusedSimpArgs false
set_option linter.unusedVariables false
set_option maxRecDepth 20000
namespace Go.Proofs.YtdlohnchnneaeaaGreat
open Go.Abs
open Nat renaming reduceEqDiff → uA, reduceLT → uB, reduceLeDiff → uC, reduceMul → uD, reduceAdd → uE, reduceBEq → uF, reduceSub → uG
open Int renaming reduceToNat → uH

attribute [local go_sem] encAttr encEdge encEdgeT encI encInts encL_encRow encNode encPair encRow encS encStrs enc_T_A2_Int enc_T_A3_Int
noncomputable section
def f_scarfjointref15_Same (a0 : Host) (a1 : Host) : Option Bool :=
  thn (f_scarfjointref05_Same a0.graph a1.graph) fun r1262 =>
  cond r1262 (
    cond (decide (((a0.values.length : Nat) : Int) = ((a1.values.length : Nat) : Int))) (
      chk (a0.values.length ≤ fuel) <|
      forN (fun i1290 (s1290 : Unit) nxts1290 brks1290 =>
        thn (a0.values[i1290]?) fun e1295 =>
        thn (a1.values[i1290]?) fun e1296 =>
        thn (f_scarfjointref15_compare e1295 e1296) fun r1297 =>
        cond (decide (r1297 = 0)) (
          nxts1290 ()) <|
        some false)
      (a0.values.length - 0) 0 () fun s1290 =>
      some true) <|
    some false) <|
  some false
set_option maxHeartbeats 4000000 in
theorem w_scarfjointref15_Same (a0 : Host) (a1 : Host) (r : Bool) (h : f_scarfjointref15_Same a0 a1 = some r) : CallV Go.Proofs.Tryz.prog 19 [.agg [.lst (a0.graph.nodes.map encI), .lst (a0.graph.edges.map encEdge), .lst (a0.values.map encRow)], .agg [.lst (a1.graph.nodes.map encI), .lst (a1.graph.edges.map encEdge), .lst (a1.values.map encRow)]] (fun v => v = .val (.bool r)) := by
  refine CallV.ple ?_
  refine callV_of_cw [] Ty.mixed Go.Proofs.Tryz.func19 rfl (by kernel_rfl) (by simp [Go.Proofs.Tryz.ntmps19]) ?_; rw [Go.Proofs.Tryz.ntmps19, Go.Proofs.Tryz.results19]
  unfold f_scarfjointref15_Same at h
  obtain ⟨r1262, hr1262, h⟩ := thn_s h
  try simp -implicitDefEqProofs only [go_sem, uA, uB, uC, uD, uE, reduceIte, reduceCtorEq, uF, uG, uH]
  refine callG (w_scarfjointref05_Same a0.graph a1.graph r1262 hr1262) (by simp -implicitDefEqProofs only [go_sem, uA, uB, uC, uD, uE, reduceIte, reduceCtorEq, uF, uG, uH] <;> rfl) (pleL_refl _) (by first | exact pers | exact scal rfl) ?_
  try simp -implicitDefEqProofs only [go_sem, uA, uB, uC, uD, uE, reduceIte, reduceCtorEq, uF, uG, uH]
  refine walkG_split (fun b1263 => ?_) (fun b1263 => ?_)
  · replace h := cond_t h b1263
    try simp -implicitDefEqProofs only [go_sem, uA, uB, uC, uD, uE, reduceIte, reduceCtorEq, uF, uG, uH, b1263]
    refine condC_splitN (fun b1264 => ?_) (fun b1264 => ?_)
    · replace h := cond_t h b1264
      obtain ⟨fus1290, h⟩ := chk_s h
      unfold fuel at fus1290
      try simp -implicitDefEqProofs only [go_sem, uA, uB, uC, uD, uE, reduceIte, reduceCtorEq, uF, uG, uH, b1263, b1264]
      refine forN_go (fun x : (Nat × (Unit)) × (Unit) => envL [(2, .ptr 2 0), (3, .ptr 3 0), (5, .p (.val (.int .i64 ((x.1.1 : Nat) : Int))))]) (fun x => heapL [(2, .box [.p (.lst (a0.graph.nodes.map encI)), .p (.lst (a0.graph.edges.map encEdge)), .p (.lst (a0.values.map encRow))]), (3, .box [.p (.lst (a1.graph.nodes.map encI)), .p (.lst (a1.graph.edges.map encEdge)), .p (.lst (a1.values.map encRow))])]) () h (weakL (by simp -implicitDefEqProofs only [go_sem, uA, uB, uC, uD, uE, reduceIte, reduceCtorEq, uF, uG, uH, b1263, b1264] <;> ((repeat' apply And.intro) <;> rfl))) ?_ ?_
      · intro i1290 s1290 g1290 nxts1290 Rs1290 his1290 hNs1290 h
        have hws1290 := wrap_succ (k := i1290) his1290 (by omega)
        try dsimp only at h
        try simp -implicitDefEqProofs only [go_sem, uA, uB, uC, uD, uE, reduceIte, reduceCtorEq, uF, uG, uH, b1263, b1264, his1290, hws1290]
        refine draw_txt [.q, .q, .q, .q, .q, .q, .q, .q, .q, .q, .q, .q] (by kernel_rfl) ?_
        obtain ⟨e1295, c1295, g1295, q1295, h⟩ := idx_s encRow h
        obtain ⟨e1296, c1296, g1296, q1296, h⟩ := idx_s encRow h
        obtain ⟨r1297, hr1297, h⟩ := thn_s h
        try simp -implicitDefEqProofs only [go_sem, uA, uB, uC, uD, uE, reduceIte, reduceCtorEq, uF, uG, uH, b1263, b1264, his1290, hws1290, c1295, g1295, c1296, g1296]
        refine calldG (w_scarfjointref15_compare e1295 e1296 r1297 hr1297) (by simp -implicitDefEqProofs only [go_sem, uA, uB, uC, uD, uE, reduceIte, reduceCtorEq, uF, uG, uH, b1263, b1264, his1290, hws1290, c1295, g1295, c1296, g1296] <;> rfl) (pleL_refl _) (by first | exact pers | exact scal rfl) ?_
        try simp -implicitDefEqProofs only [go_sem, uA, uB, uC, uD, uE, reduceIte, reduceCtorEq, uF, uG, uH, b1263, b1264, his1290, hws1290, c1295, g1295, c1296, g1296]
        refine condC_splitN (fun b1298 => ?_) (fun b1298 => ?_)
        · replace h := cond_t h b1298
          try simp -implicitDefEqProofs only [go_sem, uA, uB, uC, uD, uE, reduceIte, reduceCtorEq, uF, uG, uH, b1263, b1264, his1290, hws1290, c1295, g1295, c1296, g1296, b1298]
          exact hNs1290 () () h (weakL (by simp -implicitDefEqProofs only [go_sem, uA, uB, uC, uD, uE, reduceIte, reduceCtorEq, uF, uG, uH, b1263, b1264, his1290, hws1290, c1295, g1295, c1296, g1296, b1298] <;> ((repeat' apply And.intro) <;> rfl)))
        · replace h := cond_f h b1298
          cases h
          try simp -implicitDefEqProofs only [go_sem, uA, uB, uC, uD, uE, reduceIte, reduceCtorEq, uF, uG, uH, b1263, b1264, his1290, hws1290, c1295, g1295, c1296, g1296, b1298]
          all_goals ((repeat' apply And.intro) <;> rfl)
      · intro i1290 s1290 g1290 Rs1290 hes1290 h
        have hns1290 : ¬ (i1290 < a0.values.length) := by omega
        try dsimp only at h
        cases h
        try simp -implicitDefEqProofs only [go_sem, uA, uB, uC, uD, uE, reduceIte, reduceCtorEq, uF, uG, uH, b1263, b1264, hns1290]
        all_goals ((repeat' apply And.intro) <;> rfl)
    · replace h := cond_f h b1264
      cases h
      try simp -implicitDefEqProofs only [go_sem, uA, uB, uC, uD, uE, reduceIte, reduceCtorEq, uF, uG, uH, b1263, b1264]
      all_goals ((repeat' apply And.intro) <;> rfl)
  · replace h := cond_f h b1263
    cases h
    try simp -implicitDefEqProofs only [go_sem, uA, uB, uC, uD, uE, reduceIte, reduceCtorEq, uF, uG, uH, b1263]
    all_goals ((repeat' apply And.intro) <;> rfl)

def f_scarfjointref04_Attrs (a0 : Types) (a1 : Int) : Option ((List Attr) × Int) :=
  thn (f_scarfjointref04_given a0 a1 a1) fun r1392 =>
  cond (decide (r1392 = 0)) (
    thn (f_scarfjointref04_attrs fuel a0 a1) fun r1394 =>
    chk (r1394.length ≤ fuel) <|
    forN (fun i1404 (s1404 : (List Attr)) nxts1404 brks1404 =>
      thn (r1394[i1404]?) fun e1412 =>
      chk (e1412.names.length ≤ 68719476736) <|
      chk (s1404.length + 1 ≤ 68719476736) <|
      nxts1404 (s1404 ++ [e1412]))
    (r1394.length - 0) 0 ([] : List Attr) fun s1404 =>
    some (s1404, 0)) <|
  some (([] : List Attr), r1392)
set_option maxHeartbeats 4000000 in
theorem w_scarfjointref04_Attrs (a0 : Types) (a1 : Int) (r : (List Attr) × Int) (h : f_scarfjointref04_Attrs a0 a1 = some r) : CallF Go.Proofs.Tryz.prog 58 [.agg [.lst (a0.nodes.map encNode), .lst (a0.edges.map encEdgeT)], .val (.int .i64 a1)] (fun v => v = .tup [.row 107 4 (r.1.map encAttr), .p (.val (.int .i64 r.2))]) := by
  refine CallF.rle ?_
  refine callF_of_cw [39] Ty.mixed Go.Proofs.Tryz.func58 rfl (by kernel_rfl) (by simp [Go.Proofs.Tryz.ntmps58]) ?_; rw [Go.Proofs.Tryz.ntmps58, Go.Proofs.Tryz.results58]
  unfold f_scarfjointref04_Attrs at h
  obtain ⟨r1392, hr1392, h⟩ := thn_s h
  try simp -implicitDefEqProofs only [go_sem, uA, uB, uC, uD, uE, reduceIte, reduceCtorEq, uF, uG, uH]
  refine callG (w_scarfjointref04_given a0 a1 a1 r1392 hr1392) (by simp -implicitDefEqProofs only [go_sem, uA, uB, uC, uD, uE, reduceIte, reduceCtorEq, uF, uG, uH] <;> rfl) (pleL_refl _) (by first | exact pers | exact scal rfl) ?_
  try simp -implicitDefEqProofs only [go_sem, uA, uB, uC, uD, uE, reduceIte, reduceCtorEq, uF, uG, uH]
  refine condC_splitN (fun b1393 => ?_) (fun b1393 => ?_)
  · replace h := cond_t h b1393
    obtain ⟨r1394, hr1394, h⟩ := thn_s h
    try simp -implicitDefEqProofs only [go_sem, uA, uB, uC, uD, uE, reduceIte, reduceCtorEq, uF, uG, uH, b1393]
    refine callfG 1320 (w_scarfjointref04_attrs fuel a0 a1 r1394 hr1394) (by simp -implicitDefEqProofs only [go_sem, uA, uB, uC, uD, uE, reduceIte, reduceCtorEq, uF, uG, uH, b1393] <;> rfl) (pleL_refl _) (by first | exact persF | exact flatF rfl | exact flatF (by simp [RV.flat, RV.flatL, PV.scalar, isVal, encAttr])) (by simp -implicitDefEqProofs only [go_sem, uA, uB, uC, uD, uE, reduceIte, reduceCtorEq, uF, uG, uH, b1393]) ?_
    obtain ⟨fus1404, h⟩ := chk_s h
    unfold fuel at fus1404
    try simp -implicitDefEqProofs only [go_sem, uA, uB, uC, uD, uE, reduceIte, reduceCtorEq, uF, uG, uH, b1393]
    refine forN_go (fun x : (Nat × ((List Attr))) × (Nat) => envL [(7, .row 3402 x.2), (8, .row 1320 0), (9, .p (.val (.int .i64 ((x.1.1 : Nat) : Int))))]) (fun x => heapL [(3402, .row x.2 107 4 (x.1.2.map encAttr)), (1320, .row 0 107 4 (r1394.map encAttr))]) 0 h (by refine Weak.trans (weak_nil 7 3402 107 4 rfl rfl (by decide)) ?_; exact (weakL (by simp -implicitDefEqProofs only [go_sem, uA, uB, uC, uD, uE, reduceIte, reduceCtorEq, uF, uG, uH, b1393] <;> ((repeat' apply And.intro) <;> rfl)))) ?_ ?_
    · intro i1404 s1404 g1404 nxts1404 Rs1404 his1404 hNs1404 h
      have hws1404 := wrap_succ (k := i1404) his1404 (by omega)
      try dsimp only at h
      obtain ⟨e1412, c1412, g1412, q1412, h⟩ := idx_s encAttr h
      obtain ⟨c1413, h⟩ := chk_s h
      have k1414 := eq_true (show (e1412.names.length) * 16 ≤ 140737488355328 by omega)
      have k1415 := eq_true (map_len (n := 1) (f := encS) (fun _ => rfl) e1412.names)
      obtain ⟨c1416, h⟩ := chk_s h
      have k1417 := eq_true (show (s1404.length + 1) * 56 ≤ 140737488355328 by omega)
      have a1418 := map_apps encAttr s1404 [e1412] (c := [[.val (.string e1412.name), .val (.int .i64 e1412.low), .val (.int .i64 e1412.high), .lst (e1412.names.map encS)]]) rfl
      try simp -implicitDefEqProofs only [go_sem, uA, uB, uC, uD, uE, reduceIte, reduceCtorEq, uF, uG, uH, b1393, his1404, hws1404, c1412, g1412, c1413, k1414, k1415, c1416, k1417, a1418]
      exact hNs1404 (s1404 ++ [e1412]) (g1404 + 1) h (weakL (by simp -implicitDefEqProofs only [go_sem, uA, uB, uC, uD, uE, reduceIte, reduceCtorEq, uF, uG, uH, b1393, his1404, hws1404, c1412, g1412, c1413, k1414, k1415, c1416, k1417, a1418] <;> ((repeat' apply And.intro) <;> rfl)))
    · intro i1404 s1404 g1404 Rs1404 hes1404 h
      have hns1404 : ¬ (i1404 < r1394.length) := by omega
      try dsimp only at h
      cases h
      try simp -implicitDefEqProofs only [go_sem, uA, uB, uC, uD, uE, reduceIte, reduceCtorEq, uF, uG, uH, b1393, hns1404]
      refine ⟨by decide, _, .refl _, ?_⟩
      simp -implicitDefEqProofs only [go_sem, uA, uB, uC, uD, uE, reduceIte, reduceCtorEq, uF, uG, uH, b1393, hns1404] <;> ((repeat' apply And.intro) <;> rfl)
  · replace h := cond_f h b1393
    cases h
    try simp -implicitDefEqProofs only [go_sem, uA, uB, uC, uD, uE, reduceIte, reduceCtorEq, uF, uG, uH, b1393]
    refine ⟨by decide, _, .refl _, ?_⟩
    simp -implicitDefEqProofs only [go_sem, uA, uB, uC, uD, uE, reduceIte, reduceCtorEq, uF, uG, uH, b1393] <;> ((repeat' apply And.intro) <;> rfl)
end
end Go.Proofs.YtdlohnchnneaeaaGreat
/- Functions of the program as functions of Lean, and the walks that show them. Printed by gen.py. -/
set_option linter.unusedSimpArgs false
set_option linter.unusedVariables false
set_option maxRecDepth 20000
namespace Go.Proofs.YtdlohnchnneaeaaGreat
open Go.Abs
open Nat renaming reduceEqDiff → uA, reduceLT → uB, reduceLeDiff → uC, reduceMul → uD, reduceAdd → uE, reduceBEq → uF, reduceSub → uG
open Int renaming reduceToNat → uH

attribute [local go_sem] encAttr encEdge encEdgeT encI encInts encL_encRow encNode encPair encRow encS encStrs enc_T_A2_Int enc_T_A3_Int
noncomputable section
def f_scarfjointref15_Made (a0 : Types) (a1 : T_scarfjointref15_Draft) : Option Host :=
  thn (f_scarfjointref15_concrete a0) fun r1982 =>
  iter (fun (s2052 : Int × (List Int) × (List (List Int))) nxts2052 brks2052 =>
    cond (decide (s2052.1 < ((a1.nodes.length : Nat) : Int))) (
      cond (decide (s2052.1 < 8)) (
        cond (decide (0 < ((r1982.length : Nat) : Int))) (
          thn (atZ a1.nodes s2052.1) fun e2128 =>
          chk (¬ (((r1982.length : Nat) : Int) = 0)) <|
          thn (atZ r1982 ((IntKind.i64.wrap e2128.x0).tmod ((r1982.length : Nat) : Int))) fun e2132 =>
          thn (f_scarfjointref04_Attrs a0 e2132) fun r2133 =>
          chk (r2133.1.length ≤ fuel) <|
          forN (fun i2148 (s2148 : (List Int)) nxts2148 brks2148 =>
            thn (r2133.1[i2148]?) fun e2170 =>
            chk (¬ ((IntKind.i64.wrap ((IntKind.i64.wrap (e2170.high - e2170.low)) + 1)) = 0)) <|
            chk (s2148.length + 1 ≤ 68719476736) <|
            nxts2148 (s2148 ++ [(IntKind.i64.wrap (e2170.low + ((IntKind.i64.wrap ((IntKind.i64.wrap e2128.x1) + (IntKind.i64.wrap (7 * ((i2148 : Nat) : Int))))).tmod (IntKind.i64.wrap ((IntKind.i64.wrap (e2170.high - e2170.low)) + 1)))))]))
          (r2133.1.length - 0) 0 ([] : List Int) fun s2148 =>
          chk (s2052.2.1.length + 1 ≤ 68719476736) <|
          chk (s2052.2.2.length + 1 ≤ 68719476736) <|
          nxts2052 ((IntKind.i64.wrap (s2052.1 + 1)), (s2052.2.1 ++ [e2132]), (s2052.2.2 ++ [s2148]))) <|
        brks2052 (s2052.1, s2052.2.1, s2052.2.2)) <|
      brks2052 (s2052.1, s2052.2.1, s2052.2.2)) <|
    brks2052 (s2052.1, s2052.2.1, s2052.2.2))
  fuel (0, ([] : List Int), ([] : List (List Int))) fun s2052 =>
  iter (fun (s2433 : Int × (List Edge)) nxts2433 brks2433 =>
    cond (decide (s2433.1 < ((a1.edges.length : Nat) : Int))) (
      cond (decide (s2433.1 < 10)) (
        cond (decide (0 < ((s2052.2.1.length : Nat) : Int))) (
          cond (decide (0 < ((a0.edges.length : Nat) : Int))) (
            thn (atZ a1.edges s2433.1) fun e2462 =>
            chk (¬ (((a0.edges.length : Nat) : Int) = 0)) <|
            chk (¬ (((s2052.2.1.length : Nat) : Int) = 0)) <|
            chk (¬ (((s2052.2.1.length : Nat) : Int) = 0)) <|
            thn (atZ s2052.2.1 ((IntKind.i64.wrap e2462.x1).tmod ((s2052.2.1.length : Nat) : Int))) fun e2472 =>
            thn (atZ s2052.2.1 ((IntKind.i64.wrap e2462.x2).tmod ((s2052.2.1.length : Nat) : Int))) fun e2473 =>
            thn (f_scarfjointref04_Fits a0 ((IntKind.i64.wrap e2462.x0).tmod ((a0.edges.length : Nat) : Int)) e2472 e2473) fun r2474 =>
            cond r2474 (
              chk (s2433.2.length + 1 ≤ 68719476736) <|
              nxts2433 ((IntKind.i64.wrap (s2433.1 + 1)), (s2433.2 ++ [(⟨((IntKind.i64.wrap e2462.x0).tmod ((a0.edges.length : Nat) : Int)), ((IntKind.i64.wrap e2462.x1).tmod ((s2052.2.1.length : Nat) : Int)), ((IntKind.i64.wrap e2462.x2).tmod ((s2052.2.1.length : Nat) : Int))⟩ : Edge)]))) <|
            nxts2433 ((IntKind.i64.wrap (s2433.1 + 1)), s2433.2)) <|
          brks2433 (s2433.1, s2433.2)) <|
        brks2433 (s2433.1, s2433.2)) <|
      brks2433 (s2433.1, s2433.2)) <|
    brks2433 (s2433.1, s2433.2))
  fuel (0, ([] : List Edge)) fun s2433 =>
  some (⟨(⟨s2052.2.1, s2433.2⟩ : Graph), s2052.2.2⟩ : Host)
set_option maxHeartbeats 4000000 in
theorem w_scarfjointref15_Made (a0 : Types) (a1 : T_scarfjointref15_Draft) (r : Host) (h : f_scarfjointref15_Made a0 a1 = some r) : CallF Go.Proofs.Tryz.prog 26 [.agg [.lst (a0.nodes.map encNode), .lst (a0.edges.map encEdgeT)], .agg [.lst (a1.nodes.map enc_T_A2_Int), .lst (a1.edges.map enc_T_A3_Int)]] (fun v => v = .agg [.row 3 1 (r.graph.nodes.map encI), .row 73 3 (r.graph.edges.map encEdge), .row 26 1 (r.values.map encRow)]) := by
  refine CallF.rle ?_
  refine callF_of_cw [53, 91, 97, 102, 184] Ty.mixed Go.Proofs.Tryz.func26 rfl (by kernel_rfl) (by simp [Go.Proofs.Tryz.ntmps26]) ?_; rw [Go.Proofs.Tryz.ntmps26, Go.Proofs.Tryz.results26]
  unfold f_scarfjointref15_Made at h
  obtain ⟨r1982, hr1982, h⟩ := thn_s h
  try simp -implicitDefEqProofs only [go_sem, uA, uB, uC, uD, uE, reduceIte, reduceCtorEq, uF, uG, uH]
  refine callfG 1272 (w_scarfjointref15_concrete a0 r1982 hr1982) (by simp -implicitDefEqProofs only [go_sem, uA, uB, uC, uD, uE, reduceIte, reduceCtorEq, uF, uG, uH] <;> rfl) (pleL_refl _) (by first | exact persF | exact flatF rfl | exact flatF (by simp [RV.flat, RV.flatL, PV.scalar, isVal, encI])) (by simp -implicitDefEqProofs only [go_sem, uA, uB, uC, uD, uE, reduceIte, reduceCtorEq, uF, uG, uH]) ?_
  try simp -implicitDefEqProofs only [go_sem, uA, uB, uC, uD, uE, reduceIte, reduceCtorEq, uF, uG, uH]
  refine iter_go (fun x : (Int × (List Int) × (List (List Int))) × (Nat × Nat) => envL [(2, .ptr 2 0), (3, .ptr 3 0), (4, .ptr 4 0), (5, .ptr 5 0), (6, .row 1272 0), (7, .p (.val (.int .i64 x.1.1)))]) (fun x => heapL [(2, .box [.p (.lst (a0.nodes.map encNode)), .p (.lst (a0.edges.map encEdgeT))]), (3, .box [.p (.lst (a1.nodes.map enc_T_A2_Int)), .p (.lst (a1.edges.map enc_T_A3_Int))]), (4, .box [.p (.val (.slice none 0 0)), .p (.val (.slice none 0 0)), .p (.val (.slice none 0 0))]), (5, .box [.row 4049 x.2.1, .p (.val (.slice none 0 0)), .row 4050 x.2.2]), (1272, .row 0 3 1 (r1982.map encI)), (4049, .row x.2.1 3 1 (x.1.2.1.map encI)), (4050, .row x.2.2 26 1 (x.1.2.2.map encRow))]) (0, 0) h (by refine Weak.trans (weak_nilbox 5 0 4049 3 1 _ rfl rfl rfl (by decide)) ?_; refine Weak.trans (weak_nilbox 5 2 4050 26 1 _ rfl rfl rfl (by decide)) ?_; exact (weakL (by simp -implicitDefEqProofs only [go_sem, uA, uB, uC, uD, uE, reduceIte, reduceCtorEq, uF, uG, uH] <;> ((repeat' apply And.intro) <;> rfl)))) ?_
  intro s2052 g2052 nxts2052 Rs2052 hNs2052 h
  try dsimp only at h
  try simp -implicitDefEqProofs only [go_sem, uA, uB, uC, uD, uE, reduceIte, reduceCtorEq, uF, uG, uH]
  refine walkG_split (fun b2125 => ?_) (fun b2125 => ?_)
  · replace h := cond_t h b2125
    try simp -implicitDefEqProofs only [go_sem, uA, uB, uC, uD, uE, reduceIte, reduceCtorEq, uF, uG, uH, b2125]
    refine walkG_split (fun b2126 => ?_) (fun b2126 => ?_)
    · replace h := cond_t h b2126
      try simp -implicitDefEqProofs only [go_sem, uA, uB, uC, uD, uE, reduceIte, reduceCtorEq, uF, uG, uH, b2125, b2126]
      refine condC_split (fun b2127 => ?_) (fun b2127 => ?_)
      · replace h := cond_t h b2127
        obtain ⟨e2128, c2128a, c2128b, g2128, q2128, h⟩ := atZ_s enc_T_A2_Int h
        have c2128n := toNat_lt c2128a c2128b
        have z2129 := show (0 : Int) ≤ 0 by decide
        have z2130 := show (0 : Int) < ((2 : Nat) : Int) by decide
        obtain ⟨c2131, h⟩ := chk_s h
        obtain ⟨e2132, c2132a, c2132b, g2132, q2132, h⟩ := atZ_s encI h
        have c2132n := toNat_lt c2132a c2132b
        obtain ⟨r2133, hr2133, h⟩ := thn_s h
        try simp -implicitDefEqProofs only [go_sem, uA, uB, uC, uD, uE, reduceIte, reduceCtorEq, uF, uG, uH, b2125, b2126, b2127, c2128a, c2128b, c2128n, g2128, z2129, z2130, c2131, c2132a, c2132b, c2132n, g2132]
        refine callfG 1800 (w_scarfjointref04_Attrs a0 e2132 r2133 hr2133) (by simp -implicitDefEqProofs only [go_sem, uA, uB, uC, uD, uE, reduceIte, reduceCtorEq, uF, uG, uH, b2125, b2126, b2127, c2128a, c2128b, c2128n, g2128, z2129, z2130, c2131, c2132a, c2132b, c2132n, g2132] <;> rfl) (pleL_refl _) (by first | exact persF | exact flatF rfl | exact flatF (by simp [RV.flat, RV.flatL, PV.scalar, isVal, encAttr])) (by simp -implicitDefEqProofs only [go_sem, uA, uB, uC, uD, uE, reduceIte, reduceCtorEq, uF, uG, uH, b2125, b2126, b2127, c2128a, c2128b, c2128n, g2128, z2129, z2130, c2131, c2132a, c2132b, c2132n, g2132]) ?_
        obtain ⟨fus2148, h⟩ := chk_s h
        unfold fuel at fus2148
        try simp -implicitDefEqProofs only [go_sem, uA, uB, uC, uD, uE, reduceIte, reduceCtorEq, uF, uG, uH, b2125, b2126, b2127, c2128a, c2128b, c2128n, g2128, z2129, z2130, c2131, c2132a, c2132b, c2132n, g2132]
        refine forN_go (fun x : (Nat × ((List Int))) × (Nat) => envL [(2, .ptr 2 0), (3, .ptr 3 0), (4, .ptr 4 0), (5, .ptr 5 0), (6, .row 1272 0), (7, .p (.val (.int .i64 s2052.1))), (8, .p (.val (.int .i64 e2132))), (9, .row 1800 0), (11, .row 53 x.2), (12, .p (.val (.int .i64 ((x.1.1 : Nat) : Int))))]) (fun x => heapL [(2, .box [.p (.lst (a0.nodes.map encNode)), .p (.lst (a0.edges.map encEdgeT))]), (3, .box [.p (.lst (a1.nodes.map enc_T_A2_Int)), .p (.lst (a1.edges.map enc_T_A3_Int))]), (4, .box [.p (.val (.slice none 0 0)), .p (.val (.slice none 0 0)), .p (.val (.slice none 0 0))]), (5, .box [.row 4049 g2052.1, .p (.val (.slice none 0 0)), .row 4050 g2052.2]), (1272, .row 0 3 1 (r1982.map encI)), (1800, .row 0 107 4 (r2133.1.map encAttr)), (53, .row x.2 3 1 (x.1.2.map encI)), (4049, .row g2052.1 3 1 (s2052.2.1.map encI)), (4050, .row g2052.2 26 1 (s2052.2.2.map encRow))]) 0 h (weakL (by simp -implicitDefEqProofs only [go_sem, uA, uB, uC, uD, uE, reduceIte, reduceCtorEq, uF, uG, uH, b2125, b2126, b2127, c2128a, c2128b, c2128n, g2128, z2129, z2130, c2131, c2132a, c2132b, c2132n, g2132] <;> ((repeat' apply And.intro) <;> rfl))) ?_ ?_
        · intro i2148 s2148 g2148 nxts2148 Rs2148 his2148 hNs2148 h
          have hws2148 := wrap_succ (k := i2148) his2148 (by omega)
          try dsimp only at h
          try simp -implicitDefEqProofs only [go_sem, uA, uB, uC, uD, uE, reduceIte, reduceCtorEq, uF, uG, uH, b2125, b2126, b2127, c2128a, c2128b, c2128n, g2128, z2129, z2130, c2131, c2132a, c2132b, c2132n, g2132, his2148, hws2148]
          refine draw_txt [.p, .q, .q, .q, .q, .q, .q, .q, .q, .q, .q, .q, .q, .q, .q, .q, .q, .q, .q, .q, .q, .q, .q, .q, .q, .q, .q, .q, .q, .q, .p, .w, .q] (by kernel_rfl) ?_
          obtain ⟨e2170, c2170, g2170, q2170, h⟩ := idx_s encAttr h
          have z2171 := show (0 : Int) ≤ 1 by decide
          have z2172 := show (1 : Int) < ((2 : Nat) : Int) by decide
          obtain ⟨c2173, h⟩ := chk_s h
          obtain ⟨c2174, h⟩ := chk_s h
          have k2175 := eq_true (show (s2148.length + 1) * 8 ≤ 140737488355328 by omega)
          have a2176 := map_apps encI s2148 [(IntKind.i64.wrap (e2170.low + ((IntKind.i64.wrap ((IntKind.i64.wrap e2128.x1) + (IntKind.i64.wrap (7 * ((i2148 : Nat) : Int))))).tmod (IntKind.i64.wrap ((IntKind.i64.wrap (e2170.high - e2170.low)) + 1)))))] (c := [[.val (.int .i64 (IntKind.i64.wrap (e2170.low + ((IntKind.i64.wrap ((IntKind.i64.wrap e2128.x1) + (IntKind.i64.wrap (7 * ((i2148 : Nat) : Int))))).tmod (IntKind.i64.wrap ((IntKind.i64.wrap (e2170.high - e2170.low)) + 1))))))]]) rfl
          try simp -implicitDefEqProofs only [go_sem, uA, uB, uC, uD, uE, reduceIte, reduceCtorEq, uF, uG, uH, b2125, b2126, b2127, c2128a, c2128b, c2128n, g2128, z2129, z2130, c2131, c2132a, c2132b, c2132n, g2132, his2148, hws2148, c2170, g2170, z2171, z2172, c2173, c2174, k2175, a2176]
          exact hNs2148 (s2148 ++ [(IntKind.i64.wrap (e2170.low + ((IntKind.i64.wrap ((IntKind.i64.wrap e2128.x1) + (IntKind.i64.wrap (7 * ((i2148 : Nat) : Int))))).tmod (IntKind.i64.wrap ((IntKind.i64.wrap (e2170.high - e2170.low)) + 1)))))]) (g2148 + 1) h (weakL (by simp -implicitDefEqProofs only [go_sem, uA, uB, uC, uD, uE, reduceIte, reduceCtorEq, uF, uG, uH, b2125, b2126, b2127, c2128a, c2128b, c2128n, g2128, z2129, z2130, c2131, c2132a, c2132b, c2132n, g2132, his2148, hws2148, c2170, g2170, z2171, z2172, c2173, c2174, k2175, a2176] <;> ((repeat' apply And.intro) <;> rfl)))
        · intro i2148 s2148 g2148 Rs2148 hes2148 h
          have hns2148 : ¬ (i2148 < r2133.1.length) := by omega
          try dsimp only at h
          try simp -implicitDefEqProofs only [go_sem, uA, uB, uC, uD, uE, reduceIte, reduceCtorEq, uF, uG, uH, b2125, b2126, b2127, c2128a, c2128b, c2128n, g2128, z2129, z2130, c2131, c2132a, c2132b, c2132n, g2132, hns2148]
          refine draw_seal 53 g2148 3 1 (s2148.map encI) [11] (by simp -implicitDefEqProofs only [go_sem, uA, uB, uC, uD, uE, reduceIte, reduceCtorEq, uF, uG, uH, b2125, b2126, b2127, c2128a, c2128b, c2128n, g2128, z2129, z2130, c2131, c2132a, c2132b, c2132n, g2132, hns2148] <;> rfl) (by simp -implicitDefEqProofs only [go_sem, uA, uB, uC, uD, uE, reduceIte, reduceCtorEq, uF, uG, uH, b2125, b2126, b2127, c2128a, c2128b, c2128n, g2128, z2129, z2130, c2131, c2132a, c2132b, c2132n, g2132, hns2148] <;> ((repeat' apply And.intro) <;> rfl)) (by decide) ?_
          refine draw_my [(0, .p), (1, .p), (3, .p), (4, .p), (6, .p), (8, .b), (9, .p), (2, .q), (7, .b), (5, .w), (11, .b), (12, .b), (10, .w), (13, .w), (14, .q), (15, .w)] (by kernel_rfl) ?_
          obtain ⟨c2189, h⟩ := chk_s h
          have k2190 := eq_true (show (s2052.2.1.length + 1) * 8 ≤ 140737488355328 by omega)
          have a2191 := map_apps encI s2052.2.1 [e2132] (c := [[.val (.int .i64 e2132)]]) rfl
          obtain ⟨c2192, h⟩ := chk_s h
          have k2193 := eq_true (show (s2052.2.2.length + 1) * 24 ≤ 140737488355328 by omega)
          have a2194 := map_apps encRow s2052.2.2 [s2148] (c := [[.lst (s2148.map encI)]]) rfl
          try simp -implicitDefEqProofs only [go_sem, uA, uB, uC, uD, uE, reduceIte, reduceCtorEq, uF, uG, uH, b2125, b2126, b2127, c2128a, c2128b, c2128n, g2128, z2129, z2130, c2131, c2132a, c2132b, c2132n, g2132, hns2148, c2189, k2190, a2191, c2192, k2193, a2194]
          exact hNs2052 ((IntKind.i64.wrap (s2052.1 + 1)), (s2052.2.1 ++ [e2132]), (s2052.2.2 ++ [s2148])) (g2052.1 + 1, g2052.2 + 1) h (weakL (by simp -implicitDefEqProofs only [go_sem, uA, uB, uC, uD, uE, reduceIte, reduceCtorEq, uF, uG, uH, b2125, b2126, b2127, c2128a, c2128b, c2128n, g2128, z2129, z2130, c2131, c2132a, c2132b, c2132n, g2132, hns2148, c2189, k2190, a2191, c2192, k2193, a2194] <;> ((repeat' apply And.intro) <;> rfl)))
      · replace h := cond_f h b2127
        try dsimp only at h
        try simp -implicitDefEqProofs only [go_sem, uA, uB, uC, uD, uE, reduceIte, reduceCtorEq, uF, uG, uH, b2125, b2126, b2127]
        refine iter_go (fun x : (Int × (List Edge)) × (Nat) => envL [(2, .ptr 2 0), (3, .ptr 3 0), (4, .ptr 4 0), (5, .ptr 5 0), (13, .p (.val (.int .i64 ((s2052.2.1.length : Nat) : Int)))), (14, .p (.val (.int .i64 x.1.1)))]) (fun x => heapL [(2, .box [.p (.lst (a0.nodes.map encNode)), .p (.lst (a0.edges.map encEdgeT))]), (3, .box [.p (.lst (a1.nodes.map enc_T_A2_Int)), .p (.lst (a1.edges.map enc_T_A3_Int))]), (4, .box [.p (.val (.slice none 0 0)), .p (.val (.slice none 0 0)), .p (.val (.slice none 0 0))]), (5, .box [.row 4049 g2052.1, .row 4218 x.2, .row 4050 g2052.2]), (4049, .row g2052.1 3 1 (s2052.2.1.map encI)), (4218, .row x.2 73 3 (x.1.2.map encEdge)), (4050, .row g2052.2 26 1 (s2052.2.2.map encRow))]) 0 h (by refine Weak.trans (weak_nilbox 5 1 4218 73 3 _ rfl rfl rfl (by decide)) ?_; exact (weakL (by simp -implicitDefEqProofs only [go_sem, uA, uB, uC, uD, uE, reduceIte, reduceCtorEq, uF, uG, uH, b2125, b2126, b2127] <;> ((repeat' apply And.intro) <;> rfl)))) ?_
        intro s2220 g2220 nxts2220 Rs2220 hNs2220 h
        try dsimp only at h
        try simp -implicitDefEqProofs only [go_sem, uA, uB, uC, uD, uE, reduceIte, reduceCtorEq, uF, uG, uH, b2125, b2126, b2127]
        refine walkG_split (fun b2245 => ?_) (fun b2245 => ?_)
        · replace h := cond_t h b2245
          try simp -implicitDefEqProofs only [go_sem, uA, uB, uC, uD, uE, reduceIte, reduceCtorEq, uF, uG, uH, b2125, b2126, b2127, b2245]
          refine walkG_split (fun b2246 => ?_) (fun b2246 => ?_)
          · replace h := cond_t h b2246
            try simp -implicitDefEqProofs only [go_sem, uA, uB, uC, uD, uE, reduceIte, reduceCtorEq, uF, uG, uH, b2125, b2126, b2127, b2245, b2246]
            refine walkG_split (fun b2247 => ?_) (fun b2247 => ?_)
            · replace h := cond_t h b2247
              try simp -implicitDefEqProofs only [go_sem, uA, uB, uC, uD, uE, reduceIte, reduceCtorEq, uF, uG, uH, b2125, b2126, b2127, b2245, b2246, b2247]
              refine condC_split (fun b2248 => ?_) (fun b2248 => ?_)
              · replace h := cond_t h b2248
                try simp -implicitDefEqProofs only [go_sem, uA, uB, uC, uD, uE, reduceIte, reduceCtorEq, uF, uG, uH, b2125, b2126, b2127, b2245, b2246, b2247, b2248]
                refine draw_txt [.q, .q, .q, .q, .q, .q, .q, .q, .q, .q, .q, .q, .q, .q, .q, .q, .q, .q, .q, .q, .q, .q, .q, .q, .q, .q, .q, .q, .q, .q, .w, .s] (by kernel_rfl) ?_
                obtain ⟨e2249, c2249a, c2249b, g2249, q2249, h⟩ := atZ_s enc_T_A3_Int h
                have c2249n := toNat_lt c2249a c2249b
                have z2250 := show (0 : Int) ≤ 0 by decide
                have z2251 := show (0 : Int) < ((3 : Nat) : Int) by decide
                obtain ⟨c2252, h⟩ := chk_s h
                have z2253 := show (0 : Int) ≤ 1 by decide
                have z2254 := show (1 : Int) < ((3 : Nat) : Int) by decide
                obtain ⟨c2255, h⟩ := chk_s h
                have z2256 := show (0 : Int) ≤ 2 by decide
                have z2257 := show (2 : Int) < ((3 : Nat) : Int) by decide
                obtain ⟨c2258, h⟩ := chk_s h
                try simp -implicitDefEqProofs only [go_sem, uA, uB, uC, uD, uE, reduceIte, reduceCtorEq, uF, uG, uH, b2125, b2126, b2127, b2245, b2246, b2247, b2248, c2249a, c2249b, c2249n, g2249, z2250, z2251, c2252, z2253, z2254, c2255, z2256, z2257, c2258]
                refine draw_txt [.q, .q, .q, .q, .q, .q, .q, .q, .q, .q, .q, .q, .q, .q, .q, .q, .q, .q] (by kernel_rfl) ?_
                obtain ⟨e2259, c2259a, c2259b, g2259, q2259, h⟩ := atZ_s encI h
                have c2259n := toNat_lt c2259a c2259b
                obtain ⟨e2260, c2260a, c2260b, g2260, q2260, h⟩ := atZ_s encI h
                have c2260n := toNat_lt c2260a c2260b
                obtain ⟨r2261, hr2261, h⟩ := thn_s h
                try simp -implicitDefEqProofs only [go_sem, uA, uB, uC, uD, uE, reduceIte, reduceCtorEq, uF, uG, uH, b2125, b2126, b2127, b2245, b2246, b2247, b2248, c2249a, c2249b, c2249n, g2249, z2250, z2251, c2252, z2253, z2254, c2255, z2256, z2257, c2258, c2259a, c2259b, c2259n, g2259, c2260a, c2260b, c2260n, g2260]
                refine calldG (w_scarfjointref04_Fits a0 ((IntKind.i64.wrap e2249.x0).tmod ((a0.edges.length : Nat) : Int)) e2259 e2260 r2261 hr2261) (by simp -implicitDefEqProofs only [go_sem, uA, uB, uC, uD, uE, reduceIte, reduceCtorEq, uF, uG, uH, b2125, b2126, b2127, b2245, b2246, b2247, b2248, c2249a, c2249b, c2249n, g2249, z2250, z2251, c2252, z2253, z2254, c2255, z2256, z2257, c2258, c2259a, c2259b, c2259n, g2259, c2260a, c2260b, c2260n, g2260] <;> rfl) (pleL_refl _) (by first | exact pers | exact scal rfl) ?_
                try simp -implicitDefEqProofs only [go_sem, uA, uB, uC, uD, uE, reduceIte, reduceCtorEq, uF, uG, uH, b2125, b2126, b2127, b2245, b2246, b2247, b2248, c2249a, c2249b, c2249n, g2249, z2250, z2251, c2252, z2253, z2254, c2255, z2256, z2257, c2258, c2259a, c2259b, c2259n, g2259, c2260a, c2260b, c2260n, g2260]
                refine condC_split (fun b2262 => ?_) (fun b2262 => ?_)
                · replace h := cond_t h b2262
                  obtain ⟨c2263, h⟩ := chk_s h
                  have k2264 := eq_true (show (s2220.2.length + 1) * 24 ≤ 140737488355328 by omega)
                  have a2265 := map_apps encEdge s2220.2 [(⟨((IntKind.i64.wrap e2249.x0).tmod ((a0.edges.length : Nat) : Int)), ((IntKind.i64.wrap e2249.x1).tmod ((s2052.2.1.length : Nat) : Int)), ((IntKind.i64.wrap e2249.x2).tmod ((s2052.2.1.length : Nat) : Int))⟩ : Edge)] (c := [[.val (.int .i64 ((IntKind.i64.wrap e2249.x0).tmod ((a0.edges.length : Nat) : Int))), .val (.int .i64 ((IntKind.i64.wrap e2249.x1).tmod ((s2052.2.1.length : Nat) : Int))), .val (.int .i64 ((IntKind.i64.wrap e2249.x2).tmod ((s2052.2.1.length : Nat) : Int)))]]) rfl
                  try simp -implicitDefEqProofs only [go_sem, uA, uB, uC, uD, uE, reduceIte, reduceCtorEq, uF, uG, uH, b2125, b2126, b2127, b2245, b2246, b2247, b2248, c2249a, c2249b, c2249n, g2249, z2250, z2251, c2252, z2253, z2254, c2255, z2256, z2257, c2258, c2259a, c2259b, c2259n, g2259, c2260a, c2260b, c2260n, g2260, b2262, c2263, k2264, a2265]
                  exact hNs2220 ((IntKind.i64.wrap (s2220.1 + 1)), (s2220.2 ++ [(⟨((IntKind.i64.wrap e2249.x0).tmod ((a0.edges.length : Nat) : Int)), ((IntKind.i64.wrap e2249.x1).tmod ((s2052.2.1.length : Nat) : Int)), ((IntKind.i64.wrap e2249.x2).tmod ((s2052.2.1.length : Nat) : Int))⟩ : Edge)])) (g2220 + 1) h (weakL (by simp -implicitDefEqProofs only [go_sem, uA, uB, uC, uD, uE, reduceIte, reduceCtorEq, uF, uG, uH, b2125, b2126, b2127, b2245, b2246, b2247, b2248, c2249a, c2249b, c2249n, g2249, z2250, z2251, c2252, z2253, z2254, c2255, z2256, z2257, c2258, c2259a, c2259b, c2259n, g2259, c2260a, c2260b, c2260n, g2260, b2262, c2263, k2264, a2265] <;> ((repeat' apply And.intro) <;> rfl)))
                · replace h := cond_f h b2262
                  try simp -implicitDefEqProofs only [go_sem, uA, uB, uC, uD, uE, reduceIte, reduceCtorEq, uF, uG, uH, b2125, b2126, b2127, b2245, b2246, b2247, b2248, c2249a, c2249b, c2249n, g2249, z2250, z2251, c2252, z2253, z2254, c2255, z2256, z2257, c2258, c2259a, c2259b, c2259n, g2259, c2260a, c2260b, c2260n, g2260, b2262]
                  exact hNs2220 ((IntKind.i64.wrap (s2220.1 + 1)), s2220.2) g2220 h (weakL (by simp -implicitDefEqProofs only [go_sem, uA, uB, uC, uD, uE, reduceIte, reduceCtorEq, uF, uG, uH, b2125, b2126, b2127, b2245, b2246, b2247, b2248, c2249a, c2249b, c2249n, g2249, z2250, z2251, c2252, z2253, z2254, c2255, z2256, z2257, c2258, c2259a, c2259b, c2259n, g2259, c2260a, c2260b, c2260n, g2260, b2262] <;> ((repeat' apply And.intro) <;> rfl)))
              · replace h := cond_f h b2248
                try dsimp only at h
                cases h
                try simp -implicitDefEqProofs only [go_sem, uA, uB, uC, uD, uE, reduceIte, reduceCtorEq, uF, uG, uH, b2125, b2126, b2127, b2245, b2246, b2247, b2248]
                refine ⟨by decide, _, .refl _, ?_⟩
                simp -implicitDefEqProofs only [go_sem, uA, uB, uC, uD, uE, reduceIte, reduceCtorEq, uF, uG, uH, b2125, b2126, b2127, b2245, b2246, b2247, b2248] <;> ((repeat' apply And.intro) <;> rfl)
            · replace h := cond_f h b2247
              try dsimp only at h
              cases h
              try simp -implicitDefEqProofs only [go_sem, uA, uB, uC, uD, uE, reduceIte, reduceCtorEq, uF, uG, uH, b2125, b2126, b2127, b2245, b2246, b2247]
              refine ⟨by decide, _, .refl _, ?_⟩
              simp -implicitDefEqProofs only [go_sem, uA, uB, uC, uD, uE, reduceIte, reduceCtorEq, uF, uG, uH, b2125, b2126, b2127, b2245, b2246, b2247] <;> ((repeat' apply And.intro) <;> rfl)
          · replace h := cond_f h b2246
            try dsimp only at h
            cases h
            try simp -implicitDefEqProofs only [go_sem, uA, uB, uC, uD, uE, reduceIte, reduceCtorEq, uF, uG, uH, b2125, b2126, b2127, b2245, b2246]
            refine ⟨by decide, _, .refl _, ?_⟩
            simp -implicitDefEqProofs only [go_sem, uA, uB, uC, uD, uE, reduceIte, reduceCtorEq, uF, uG, uH, b2125, b2126, b2127, b2245, b2246] <;> ((repeat' apply And.intro) <;> rfl)
        · replace h := cond_f h b2245
          try dsimp only at h
          cases h
          try simp -implicitDefEqProofs only [go_sem, uA, uB, uC, uD, uE, reduceIte, reduceCtorEq, uF, uG, uH, b2125, b2126, b2127, b2245]
          refine ⟨by decide, _, .refl _, ?_⟩
          simp -implicitDefEqProofs only [go_sem, uA, uB, uC, uD, uE, reduceIte, reduceCtorEq, uF, uG, uH, b2125, b2126, b2127, b2245] <;> ((repeat' apply And.intro) <;> rfl)
    · replace h := cond_f h b2126
      try dsimp only at h
      try simp -implicitDefEqProofs only [go_sem, uA, uB, uC, uD, uE, reduceIte, reduceCtorEq, uF, uG, uH, b2125, b2126]
      refine iter_go (fun x : (Int × (List Edge)) × (Nat) => envL [(2, .ptr 2 0), (3, .ptr 3 0), (4, .ptr 4 0), (5, .ptr 5 0), (13, .p (.val (.int .i64 ((s2052.2.1.length : Nat) : Int)))), (14, .p (.val (.int .i64 x.1.1)))]) (fun x => heapL [(2, .box [.p (.lst (a0.nodes.map encNode)), .p (.lst (a0.edges.map encEdgeT))]), (3, .box [.p (.lst (a1.nodes.map enc_T_A2_Int)), .p (.lst (a1.edges.map enc_T_A3_Int))]), (4, .box [.p (.val (.slice none 0 0)), .p (.val (.slice none 0 0)), .p (.val (.slice none 0 0))]), (5, .box [.row 4049 g2052.1, .row 4289 x.2, .row 4050 g2052.2]), (4049, .row g2052.1 3 1 (s2052.2.1.map encI)), (4289, .row x.2 73 3 (x.1.2.map encEdge)), (4050, .row g2052.2 26 1 (s2052.2.2.map encRow))]) 0 h (by refine Weak.trans (weak_nilbox 5 1 4289 73 3 _ rfl rfl rfl (by decide)) ?_; exact (weakL (by simp -implicitDefEqProofs only [go_sem, uA, uB, uC, uD, uE, reduceIte, reduceCtorEq, uF, uG, uH, b2125, b2126] <;> ((repeat' apply And.intro) <;> rfl)))) ?_
      intro s2291 g2291 nxts2291 Rs2291 hNs2291 h
      try dsimp only at h
      try simp -implicitDefEqProofs only [go_sem, uA, uB, uC, uD, uE, reduceIte, reduceCtorEq, uF, uG, uH, b2125, b2126]
      refine walkG_split (fun b2316 => ?_) (fun b2316 => ?_)
      · replace h := cond_t h b2316
        try simp -implicitDefEqProofs only [go_sem, uA, uB, uC, uD, uE, reduceIte, reduceCtorEq, uF, uG, uH, b2125, b2126, b2316]
        refine walkG_split (fun b2317 => ?_) (fun b2317 => ?_)
        · replace h := cond_t h b2317
          try simp -implicitDefEqProofs only [go_sem, uA, uB, uC, uD, uE, reduceIte, reduceCtorEq, uF, uG, uH, b2125, b2126, b2316, b2317]
          refine walkG_split (fun b2318 => ?_) (fun b2318 => ?_)
          · replace h := cond_t h b2318
            try simp -implicitDefEqProofs only [go_sem, uA, uB, uC, uD, uE, reduceIte, reduceCtorEq, uF, uG, uH, b2125, b2126, b2316, b2317, b2318]
            refine condC_split (fun b2319 => ?_) (fun b2319 => ?_)
            · replace h := cond_t h b2319
              try simp -implicitDefEqProofs only [go_sem, uA, uB, uC, uD, uE, reduceIte, reduceCtorEq, uF, uG, uH, b2125, b2126, b2316, b2317, b2318, b2319]
              refine draw_txt [.q, .q, .q, .q, .q, .q, .q, .q, .q, .q, .q, .q, .q, .q, .q, .q, .q, .q, .q, .q, .q, .q, .q, .q, .q, .q, .q, .q, .q, .q, .w, .s] (by kernel_rfl) ?_
              obtain ⟨e2320, c2320a, c2320b, g2320, q2320, h⟩ := atZ_s enc_T_A3_Int h
              have c2320n := toNat_lt c2320a c2320b
              have z2321 := show (0 : Int) ≤ 0 by decide
              have z2322 := show (0 : Int) < ((3 : Nat) : Int) by decide
              obtain ⟨c2323, h⟩ := chk_s h
              have z2324 := show (0 : Int) ≤ 1 by decide
              have z2325 := show (1 : Int) < ((3 : Nat) : Int) by decide
              obtain ⟨c2326, h⟩ := chk_s h
              have z2327 := show (0 : Int) ≤ 2 by decide
              have z2328 := show (2 : Int) < ((3 : Nat) : Int) by decide
              obtain ⟨c2329, h⟩ := chk_s h
              try simp -implicitDefEqProofs only [go_sem, uA, uB, uC, uD, uE, reduceIte, reduceCtorEq, uF, uG, uH, b2125, b2126, b2316, b2317, b2318, b2319, c2320a, c2320b, c2320n, g2320, z2321, z2322, c2323, z2324, z2325, c2326, z2327, z2328, c2329]
              refine draw_txt [.q, .q, .q, .q, .q, .q, .q, .q, .q, .q, .q, .q, .q, .q, .q, .q, .q, .q] (by kernel_rfl) ?_
              obtain ⟨e2330, c2330a, c2330b, g2330, q2330, h⟩ := atZ_s encI h
              have c2330n := toNat_lt c2330a c2330b
              obtain ⟨e2331, c2331a, c2331b, g2331, q2331, h⟩ := atZ_s encI h
              have c2331n := toNat_lt c2331a c2331b
              obtain ⟨r2332, hr2332, h⟩ := thn_s h
              try simp -implicitDefEqProofs only [go_sem, uA, uB, uC, uD, uE, reduceIte, reduceCtorEq, uF, uG, uH, b2125, b2126, b2316, b2317, b2318, b2319, c2320a, c2320b, c2320n, g2320, z2321, z2322, c2323, z2324, z2325, c2326, z2327, z2328, c2329, c2330a, c2330b, c2330n, g2330, c2331a, c2331b, c2331n, g2331]
              refine calldG (w_scarfjointref04_Fits a0 ((IntKind.i64.wrap e2320.x0).tmod ((a0.edges.length : Nat) : Int)) e2330 e2331 r2332 hr2332) (by simp -implicitDefEqProofs only [go_sem, uA, uB, uC, uD, uE, reduceIte, reduceCtorEq, uF, uG, uH, b2125, b2126, b2316, b2317, b2318, b2319, c2320a, c2320b, c2320n, g2320, z2321, z2322, c2323, z2324, z2325, c2326, z2327, z2328, c2329, c2330a, c2330b, c2330n, g2330, c2331a, c2331b, c2331n, g2331] <;> rfl) (pleL_refl _) (by first | exact pers | exact scal rfl) ?_
              try simp -implicitDefEqProofs only [go_sem, uA, uB, uC, uD, uE, reduceIte, reduceCtorEq, uF, uG, uH, b2125, b2126, b2316, b2317, b2318, b2319, c2320a, c2320b, c2320n, g2320, z2321, z2322, c2323, z2324, z2325, c2326, z2327, z2328, c2329, c2330a, c2330b, c2330n, g2330, c2331a, c2331b, c2331n, g2331]
              refine condC_split (fun b2333 => ?_) (fun b2333 => ?_)
              · replace h := cond_t h b2333
                obtain ⟨c2334, h⟩ := chk_s h
                have k2335 := eq_true (show (s2291.2.length + 1) * 24 ≤ 140737488355328 by omega)
                have a2336 := map_apps encEdge s2291.2 [(⟨((IntKind.i64.wrap e2320.x0).tmod ((a0.edges.length : Nat) : Int)), ((IntKind.i64.wrap e2320.x1).tmod ((s2052.2.1.length : Nat) : Int)), ((IntKind.i64.wrap e2320.x2).tmod ((s2052.2.1.length : Nat) : Int))⟩ : Edge)] (c := [[.val (.int .i64 ((IntKind.i64.wrap e2320.x0).tmod ((a0.edges.length : Nat) : Int))), .val (.int .i64 ((IntKind.i64.wrap e2320.x1).tmod ((s2052.2.1.length : Nat) : Int))), .val (.int .i64 ((IntKind.i64.wrap e2320.x2).tmod ((s2052.2.1.length : Nat) : Int)))]]) rfl
                try simp -implicitDefEqProofs only [go_sem, uA, uB, uC, uD, uE, reduceIte, reduceCtorEq, uF, uG, uH, b2125, b2126, b2316, b2317, b2318, b2319, c2320a, c2320b, c2320n, g2320, z2321, z2322, c2323, z2324, z2325, c2326, z2327, z2328, c2329, c2330a, c2330b, c2330n, g2330, c2331a, c2331b, c2331n, g2331, b2333, c2334, k2335, a2336]
                exact hNs2291 ((IntKind.i64.wrap (s2291.1 + 1)), (s2291.2 ++ [(⟨((IntKind.i64.wrap e2320.x0).tmod ((a0.edges.length : Nat) : Int)), ((IntKind.i64.wrap e2320.x1).tmod ((s2052.2.1.length : Nat) : Int)), ((IntKind.i64.wrap e2320.x2).tmod ((s2052.2.1.length : Nat) : Int))⟩ : Edge)])) (g2291 + 1) h (weakL (by simp -implicitDefEqProofs only [go_sem, uA, uB, uC, uD, uE, reduceIte, reduceCtorEq, uF, uG, uH, b2125, b2126, b2316, b2317, b2318, b2319, c2320a, c2320b, c2320n, g2320, z2321, z2322, c2323, z2324, z2325, c2326, z2327, z2328, c2329, c2330a, c2330b, c2330n, g2330, c2331a, c2331b, c2331n, g2331, b2333, c2334, k2335, a2336] <;> ((repeat' apply And.intro) <;> rfl)))
              · replace h := cond_f h b2333
                try simp -implicitDefEqProofs only [go_sem, uA, uB, uC, uD, uE, reduceIte, reduceCtorEq, uF, uG, uH, b2125, b2126, b2316, b2317, b2318, b2319, c2320a, c2320b, c2320n, g2320, z2321, z2322, c2323, z2324, z2325, c2326, z2327, z2328, c2329, c2330a, c2330b, c2330n, g2330, c2331a, c2331b, c2331n, g2331, b2333]
                exact hNs2291 ((IntKind.i64.wrap (s2291.1 + 1)), s2291.2) g2291 h (weakL (by simp -implicitDefEqProofs only [go_sem, uA, uB, uC, uD, uE, reduceIte, reduceCtorEq, uF, uG, uH, b2125, b2126, b2316, b2317, b2318, b2319, c2320a, c2320b, c2320n, g2320, z2321, z2322, c2323, z2324, z2325, c2326, z2327, z2328, c2329, c2330a, c2330b, c2330n, g2330, c2331a, c2331b, c2331n, g2331, b2333] <;> ((repeat' apply And.intro) <;> rfl)))
            · replace h := cond_f h b2319
              try dsimp only at h
              cases h
              try simp -implicitDefEqProofs only [go_sem, uA, uB, uC, uD, uE, reduceIte, reduceCtorEq, uF, uG, uH, b2125, b2126, b2316, b2317, b2318, b2319]
              refine ⟨by decide, _, .refl _, ?_⟩
              simp -implicitDefEqProofs only [go_sem, uA, uB, uC, uD, uE, reduceIte, reduceCtorEq, uF, uG, uH, b2125, b2126, b2316, b2317, b2318, b2319] <;> ((repeat' apply And.intro) <;> rfl)
          · replace h := cond_f h b2318
            try dsimp only at h
            cases h
            try simp -implicitDefEqProofs only [go_sem, uA, uB, uC, uD, uE, reduceIte, reduceCtorEq, uF, uG, uH, b2125, b2126, b2316, b2317, b2318]
            refine ⟨by decide, _, .refl _, ?_⟩
            simp -implicitDefEqProofs only [go_sem, uA, uB, uC, uD, uE, reduceIte, reduceCtorEq, uF, uG, uH, b2125, b2126, b2316, b2317, b2318] <;> ((repeat' apply And.intro) <;> rfl)
        · replace h := cond_f h b2317
          try dsimp only at h
          cases h
          try simp -implicitDefEqProofs only [go_sem, uA, uB, uC, uD, uE, reduceIte, reduceCtorEq, uF, uG, uH, b2125, b2126, b2316, b2317]
          refine ⟨by decide, _, .refl _, ?_⟩
          simp -implicitDefEqProofs only [go_sem, uA, uB, uC, uD, uE, reduceIte, reduceCtorEq, uF, uG, uH, b2125, b2126, b2316, b2317] <;> ((repeat' apply And.intro) <;> rfl)
      · replace h := cond_f h b2316
        try dsimp only at h
        cases h
        try simp -implicitDefEqProofs only [go_sem, uA, uB, uC, uD, uE, reduceIte, reduceCtorEq, uF, uG, uH, b2125, b2126, b2316]
        refine ⟨by decide, _, .refl _, ?_⟩
        simp -implicitDefEqProofs only [go_sem, uA, uB, uC, uD, uE, reduceIte, reduceCtorEq, uF, uG, uH, b2125, b2126, b2316] <;> ((repeat' apply And.intro) <;> rfl)
  · replace h := cond_f h b2125
    try dsimp only at h
    try simp -implicitDefEqProofs only [go_sem, uA, uB, uC, uD, uE, reduceIte, reduceCtorEq, uF, uG, uH, b2125]
    refine iter_go (fun x : (Int × (List Edge)) × (Nat) => envL [(2, .ptr 2 0), (3, .ptr 3 0), (4, .ptr 4 0), (5, .ptr 5 0), (13, .p (.val (.int .i64 ((s2052.2.1.length : Nat) : Int)))), (14, .p (.val (.int .i64 x.1.1)))]) (fun x => heapL [(2, .box [.p (.lst (a0.nodes.map encNode)), .p (.lst (a0.edges.map encEdgeT))]), (3, .box [.p (.lst (a1.nodes.map enc_T_A2_Int)), .p (.lst (a1.edges.map enc_T_A3_Int))]), (4, .box [.p (.val (.slice none 0 0)), .p (.val (.slice none 0 0)), .p (.val (.slice none 0 0))]), (5, .box [.row 4049 g2052.1, .row 4360 x.2, .row 4050 g2052.2]), (4049, .row g2052.1 3 1 (s2052.2.1.map encI)), (4360, .row x.2 73 3 (x.1.2.map encEdge)), (4050, .row g2052.2 26 1 (s2052.2.2.map encRow))]) 0 h (by refine Weak.trans (weak_nilbox 5 1 4360 73 3 _ rfl rfl rfl (by decide)) ?_; exact (weakL (by simp -implicitDefEqProofs only [go_sem, uA, uB, uC, uD, uE, reduceIte, reduceCtorEq, uF, uG, uH, b2125] <;> ((repeat' apply And.intro) <;> rfl)))) ?_
    intro s2362 g2362 nxts2362 Rs2362 hNs2362 h
    try dsimp only at h
    try simp -implicitDefEqProofs only [go_sem, uA, uB, uC, uD, uE, reduceIte, reduceCtorEq, uF, uG, uH, b2125]
    refine walkG_split (fun b2387 => ?_) (fun b2387 => ?_)
    · replace h := cond_t h b2387
      try simp -implicitDefEqProofs only [go_sem, uA, uB, uC, uD, uE, reduceIte, reduceCtorEq, uF, uG, uH, b2125, b2387]
      refine walkG_split (fun b2388 => ?_) (fun b2388 => ?_)
      · replace h := cond_t h b2388
        try simp -implicitDefEqProofs only [go_sem, uA, uB, uC, uD, uE, reduceIte, reduceCtorEq, uF, uG, uH, b2125, b2387, b2388]
        refine walkG_split (fun b2389 => ?_) (fun b2389 => ?_)
        · replace h := cond_t h b2389
          try simp -implicitDefEqProofs only [go_sem, uA, uB, uC, uD, uE, reduceIte, reduceCtorEq, uF, uG, uH, b2125, b2387, b2388, b2389]
          refine condC_split (fun b2390 => ?_) (fun b2390 => ?_)
          · replace h := cond_t h b2390
            try simp -implicitDefEqProofs only [go_sem, uA, uB, uC, uD, uE, reduceIte, reduceCtorEq, uF, uG, uH, b2125, b2387, b2388, b2389, b2390]
            refine draw_txt [.q, .q, .q, .q, .q, .q, .q, .q, .q, .q, .q, .q, .q, .q, .q, .q, .q, .q, .q, .q, .q, .q, .q, .q, .q, .q, .q, .q, .q, .q, .w, .s] (by kernel_rfl) ?_
            obtain ⟨e2391, c2391a, c2391b, g2391, q2391, h⟩ := atZ_s enc_T_A3_Int h
            have c2391n := toNat_lt c2391a c2391b
            have z2392 := show (0 : Int) ≤ 0 by decide
            have z2393 := show (0 : Int) < ((3 : Nat) : Int) by decide
            obtain ⟨c2394, h⟩ := chk_s h
            have z2395 := show (0 : Int) ≤ 1 by decide
            have z2396 := show (1 : Int) < ((3 : Nat) : Int) by decide
            obtain ⟨c2397, h⟩ := chk_s h
            have z2398 := show (0 : Int) ≤ 2 by decide
            have z2399 := show (2 : Int) < ((3 : Nat) : Int) by decide
            obtain ⟨c2400, h⟩ := chk_s h
            try simp -implicitDefEqProofs only [go_sem, uA, uB, uC, uD, uE, reduceIte, reduceCtorEq, uF, uG, uH, b2125, b2387, b2388, b2389, b2390, c2391a, c2391b, c2391n, g2391, z2392, z2393, c2394, z2395, z2396, c2397, z2398, z2399, c2400]
            refine draw_txt [.q, .q, .q, .q, .q, .q, .q, .q, .q, .q, .q, .q, .q, .q, .q, .q, .q, .q] (by kernel_rfl) ?_
            obtain ⟨e2401, c2401a, c2401b, g2401, q2401, h⟩ := atZ_s encI h
            have c2401n := toNat_lt c2401a c2401b
            obtain ⟨e2402, c2402a, c2402b, g2402, q2402, h⟩ := atZ_s encI h
            have c2402n := toNat_lt c2402a c2402b
            obtain ⟨r2403, hr2403, h⟩ := thn_s h
            try simp -implicitDefEqProofs only [go_sem, uA, uB, uC, uD, uE, reduceIte, reduceCtorEq, uF, uG, uH, b2125, b2387, b2388, b2389, b2390, c2391a, c2391b, c2391n, g2391, z2392, z2393, c2394, z2395, z2396, c2397, z2398, z2399, c2400, c2401a, c2401b, c2401n, g2401, c2402a, c2402b, c2402n, g2402]
            refine calldG (w_scarfjointref04_Fits a0 ((IntKind.i64.wrap e2391.x0).tmod ((a0.edges.length : Nat) : Int)) e2401 e2402 r2403 hr2403) (by simp -implicitDefEqProofs only [go_sem, uA, uB, uC, uD, uE, reduceIte, reduceCtorEq, uF, uG, uH, b2125, b2387, b2388, b2389, b2390, c2391a, c2391b, c2391n, g2391, z2392, z2393, c2394, z2395, z2396, c2397, z2398, z2399, c2400, c2401a, c2401b, c2401n, g2401, c2402a, c2402b, c2402n, g2402] <;> rfl) (pleL_refl _) (by first | exact pers | exact scal rfl) ?_
            try simp -implicitDefEqProofs only [go_sem, uA, uB, uC, uD, uE, reduceIte, reduceCtorEq, uF, uG, uH, b2125, b2387, b2388, b2389, b2390, c2391a, c2391b, c2391n, g2391, z2392, z2393, c2394, z2395, z2396, c2397, z2398, z2399, c2400, c2401a, c2401b, c2401n, g2401, c2402a, c2402b, c2402n, g2402]
            refine condC_split (fun b2404 => ?_) (fun b2404 => ?_)
            · replace h := cond_t h b2404
              obtain ⟨c2405, h⟩ := chk_s h
              have k2406 := eq_true (show (s2362.2.length + 1) * 24 ≤ 140737488355328 by omega)
              have a2407 := map_apps encEdge s2362.2 [(⟨((IntKind.i64.wrap e2391.x0).tmod ((a0.edges.length : Nat) : Int)), ((IntKind.i64.wrap e2391.x1).tmod ((s2052.2.1.length : Nat) : Int)), ((IntKind.i64.wrap e2391.x2).tmod ((s2052.2.1.length : Nat) : Int))⟩ : Edge)] (c := [[.val (.int .i64 ((IntKind.i64.wrap e2391.x0).tmod ((a0.edges.length : Nat) : Int))), .val (.int .i64 ((IntKind.i64.wrap e2391.x1).tmod ((s2052.2.1.length : Nat) : Int))), .val (.int .i64 ((IntKind.i64.wrap e2391.x2).tmod ((s2052.2.1.length : Nat) : Int)))]]) rfl
              try simp -implicitDefEqProofs only [go_sem, uA, uB, uC, uD, uE, reduceIte, reduceCtorEq, uF, uG, uH, b2125, b2387, b2388, b2389, b2390, c2391a, c2391b, c2391n, g2391, z2392, z2393, c2394, z2395, z2396, c2397, z2398, z2399, c2400, c2401a, c2401b, c2401n, g2401, c2402a, c2402b, c2402n, g2402, b2404, c2405, k2406, a2407]
              exact hNs2362 ((IntKind.i64.wrap (s2362.1 + 1)), (s2362.2 ++ [(⟨((IntKind.i64.wrap e2391.x0).tmod ((a0.edges.length : Nat) : Int)), ((IntKind.i64.wrap e2391.x1).tmod ((s2052.2.1.length : Nat) : Int)), ((IntKind.i64.wrap e2391.x2).tmod ((s2052.2.1.length : Nat) : Int))⟩ : Edge)])) (g2362 + 1) h (weakL (by simp -implicitDefEqProofs only [go_sem, uA, uB, uC, uD, uE, reduceIte, reduceCtorEq, uF, uG, uH, b2125, b2387, b2388, b2389, b2390, c2391a, c2391b, c2391n, g2391, z2392, z2393, c2394, z2395, z2396, c2397, z2398, z2399, c2400, c2401a, c2401b, c2401n, g2401, c2402a, c2402b, c2402n, g2402, b2404, c2405, k2406, a2407] <;> ((repeat' apply And.intro) <;> rfl)))
            · replace h := cond_f h b2404
              try simp -implicitDefEqProofs only [go_sem, uA, uB, uC, uD, uE, reduceIte, reduceCtorEq, uF, uG, uH, b2125, b2387, b2388, b2389, b2390, c2391a, c2391b, c2391n, g2391, z2392, z2393, c2394, z2395, z2396, c2397, z2398, z2399, c2400, c2401a, c2401b, c2401n, g2401, c2402a, c2402b, c2402n, g2402, b2404]
              exact hNs2362 ((IntKind.i64.wrap (s2362.1 + 1)), s2362.2) g2362 h (weakL (by simp -implicitDefEqProofs only [go_sem, uA, uB, uC, uD, uE, reduceIte, reduceCtorEq, uF, uG, uH, b2125, b2387, b2388, b2389, b2390, c2391a, c2391b, c2391n, g2391, z2392, z2393, c2394, z2395, z2396, c2397, z2398, z2399, c2400, c2401a, c2401b, c2401n, g2401, c2402a, c2402b, c2402n, g2402, b2404] <;> ((repeat' apply And.intro) <;> rfl)))
          · replace h := cond_f h b2390
            try dsimp only at h
            cases h
            try simp -implicitDefEqProofs only [go_sem, uA, uB, uC, uD, uE, reduceIte, reduceCtorEq, uF, uG, uH, b2125, b2387, b2388, b2389, b2390]
            refine ⟨by decide, _, .refl _, ?_⟩
            simp -implicitDefEqProofs only [go_sem, uA, uB, uC, uD, uE, reduceIte, reduceCtorEq, uF, uG, uH, b2125, b2387, b2388, b2389, b2390] <;> ((repeat' apply And.intro) <;> rfl)
        · replace h := cond_f h b2389
          try dsimp only at h
          cases h
          try simp -implicitDefEqProofs only [go_sem, uA, uB, uC, uD, uE, reduceIte, reduceCtorEq, uF, uG, uH, b2125, b2387, b2388, b2389]
          refine ⟨by decide, _, .refl _, ?_⟩
          simp -implicitDefEqProofs only [go_sem, uA, uB, uC, uD, uE, reduceIte, reduceCtorEq, uF, uG, uH, b2125, b2387, b2388, b2389] <;> ((repeat' apply And.intro) <;> rfl)
      · replace h := cond_f h b2388
        try dsimp only at h
        cases h
        try simp -implicitDefEqProofs only [go_sem, uA, uB, uC, uD, uE, reduceIte, reduceCtorEq, uF, uG, uH, b2125, b2387, b2388]
        refine ⟨by decide, _, .refl _, ?_⟩
        simp -implicitDefEqProofs only [go_sem, uA, uB, uC, uD, uE, reduceIte, reduceCtorEq, uF, uG, uH, b2125, b2387, b2388] <;> ((repeat' apply And.intro) <;> rfl)
    · replace h := cond_f h b2387
      try dsimp only at h
      cases h
      try simp -implicitDefEqProofs only [go_sem, uA, uB, uC, uD, uE, reduceIte, reduceCtorEq, uF, uG, uH, b2125, b2387]
      refine ⟨by decide, _, .refl _, ?_⟩
      simp -implicitDefEqProofs only [go_sem, uA, uB, uC, uD, uE, reduceIte, reduceCtorEq, uF, uG, uH, b2125, b2387] <;> ((repeat' apply And.intro) <;> rfl)
end
end Go.Proofs.YtdlohnchnneaeaaGreat
/- Functions of the program as functions of Lean, and the walks that show them. Printed by gen.py. -/
set_option linter.unusedSimpArgs false
set_option linter.unusedVariables false
set_option maxRecDepth 20000
namespace Go.Proofs.YtdlohnchnneaeaaGreat
open Go.Abs
open Nat renaming reduceEqDiff → uA, reduceLT → uB, reduceLeDiff → uC, reduceMul → uD, reduceAdd → uE, reduceBEq → uF, reduceSub → uG
open Int renaming reduceToNat → uH

attribute [local go_sem] encAttr encEdge encEdgeT encI encInts encL_encRow encNode encPair encRow encS encStrs enc_T_A2_Int enc_T_A3_Int
noncomputable section
def f_scarfjointref07_Extract (a0 : Graph) (a1 : Part) : Option (Graph × T_Morphism × Int) :=
  thn (f_scarfjointref07_Valid a0 a1) fun r1081 =>
  cond (decide (r1081 = 0)) (
    chk (a1.nodes.length ≤ fuel) <|
    forN (fun i1094 (s1094 : (List Int)) nxts1094 brks1094 =>
      thn (a1.nodes[i1094]?) fun e1110 =>
      thn (atZ a0.nodes e1110) fun e1111 =>
      chk (s1094.length + 1 ≤ 68719476736) <|
      nxts1094 (s1094 ++ [e1111]))
    (a1.nodes.length - 0) 0 ([] : List Int) fun s1094 =>
    chk (a1.edges.length ≤ fuel) <|
    forN (fun i1128 (s1128 : (List Edge)) nxts1128 brks1128 =>
      thn (a1.edges[i1128]?) fun e1141 =>
      thn (atZ a0.edges e1141) fun e1142 =>
      thn (f_scarfjointref07_index a1.nodes e1142.src) fun r1148 =>
      thn (f_scarfjointref07_index a1.nodes e1142.dst) fun r1149 =>
      chk (s1128.length + 1 ≤ 68719476736) <|
      nxts1128 (s1128 ++ [(⟨e1142.type, r1148, r1149⟩ : Edge)]))
    (a1.edges.length - 0) 0 ([] : List Edge) fun s1128 =>
    chk (a1.nodes.length ≤ 68719476736) <|
    chk (a1.edges.length ≤ 68719476736) <|
    some ((⟨s1094, s1128⟩ : Graph), (⟨a1.nodes, a1.edges⟩ : T_Morphism), 0)) <|
  some ((⟨([] : List Int), ([] : List Edge)⟩ : Graph), (⟨([] : List Int), ([] : List Int)⟩ : T_Morphism), r1081)
set_option maxHeartbeats 4000000 in
theorem w_scarfjointref07_Extract (a0 : Graph) (a1 : Part) (r : Graph × T_Morphism × Int) (h : f_scarfjointref07_Extract a0 a1 = some r) : CallF Go.Proofs.Tryz.prog 74 [.agg [.lst (a0.nodes.map encI), .lst (a0.edges.map encEdge)], .agg [.lst (a1.nodes.map encI), .lst (a1.edges.map encI)]] (fun v => v = .tup [.agg [.row 3 1 (r.1.nodes.map encI), .row 73 3 (r.1.edges.map encEdge)], .agg [.row 3 1 (r.2.1.nodes.map encI), .row 3 1 (r.2.1.edges.map encI)], .p (.val (.int .i64 r.2.2))]) := by
  refine CallF.rle ?_
  refine callF_of_cw [39, 73, 76, 79, 80, 83] Ty.mixed Go.Proofs.Tryz.func74 rfl (by kernel_rfl) (by simp [Go.Proofs.Tryz.ntmps74]) ?_; rw [Go.Proofs.Tryz.ntmps74, Go.Proofs.Tryz.results74]
  unfold f_scarfjointref07_Extract at h
  obtain ⟨r1081, hr1081, h⟩ := thn_s h
  try simp -implicitDefEqProofs only [go_sem, uA, uB, uC, uD, uE, reduceIte, reduceCtorEq, uF, uG, uH]
  refine callG (w_scarfjointref07_Valid a0 a1 r1081 hr1081) (by simp -implicitDefEqProofs only [go_sem, uA, uB, uC, uD, uE, reduceIte, reduceCtorEq, uF, uG, uH] <;> rfl) (pleL_refl _) (by first | exact pers | exact scal rfl) ?_
  try simp -implicitDefEqProofs only [go_sem, uA, uB, uC, uD, uE, reduceIte, reduceCtorEq, uF, uG, uH]
  refine condC_splitN (fun b1082 => ?_) (fun b1082 => ?_)
  · replace h := cond_t h b1082
    obtain ⟨fus1094, h⟩ := chk_s h
    unfold fuel at fus1094
    try simp -implicitDefEqProofs only [go_sem, uA, uB, uC, uD, uE, reduceIte, reduceCtorEq, uF, uG, uH, b1082]
    refine forN_go (fun x : (Nat × ((List Int))) × (Nat) => envL [(2, .ptr 2 0), (3, .ptr 3 0), (4, .ptr 4 0), (5, .ptr 5 0), (8, .ptr 8 0), (9, .p (.val (.int .i64 ((x.1.1 : Nat) : Int))))]) (fun x => heapL [(2, .box [.p (.lst (a0.nodes.map encI)), .p (.lst (a0.edges.map encEdge))]), (3, .box [.p (.lst (a1.nodes.map encI)), .p (.lst (a1.edges.map encI))]), (4, .box [.p (.val (.slice none 0 0)), .p (.val (.slice none 0 0))]), (5, .box [.p (.val (.slice none 0 0)), .p (.val (.slice none 0 0))]), (8, .box [.row 3092 x.2, .p (.val (.slice none 0 0))]), (3092, .row x.2 3 1 (x.1.2.map encI))]) 0 h (by refine Weak.trans (weak_nilbox 8 0 3092 3 1 _ rfl rfl rfl (by decide)) ?_; exact (weakL (by simp -implicitDefEqProofs only [go_sem, uA, uB, uC, uD, uE, reduceIte, reduceCtorEq, uF, uG, uH, b1082] <;> ((repeat' apply And.intro) <;> rfl)))) ?_ ?_
    · intro i1094 s1094 g1094 nxts1094 Rs1094 his1094 hNs1094 h
      have hws1094 := wrap_succ (k := i1094) his1094 (by omega)
      try dsimp only at h
      try simp -implicitDefEqProofs only [go_sem, uA, uB, uC, uD, uE, reduceIte, reduceCtorEq, uF, uG, uH, b1082, his1094, hws1094]
      refine draw_my [(0, .p), (2, .q), (3, .q), (4, .q), (5, .q), (6, .q), (7, .q), (8, .q), (9, .q), (10, .q), (11, .p), (1, .q), (12, .w), (13, .q), (14, .w)] (by kernel_rfl) ?_
      obtain ⟨e1110, c1110, g1110, q1110, h⟩ := idx_s encI h
      obtain ⟨e1111, c1111a, c1111b, g1111, q1111, h⟩ := atZ_s encI h
      have c1111n := toNat_lt c1111a c1111b
      obtain ⟨c1112, h⟩ := chk_s h
      have k1113 := eq_true (show (s1094.length + 1) * 8 ≤ 140737488355328 by omega)
      have a1114 := map_apps encI s1094 [e1111] (c := [[.val (.int .i64 e1111)]]) rfl
      try simp -implicitDefEqProofs only [go_sem, uA, uB, uC, uD, uE, reduceIte, reduceCtorEq, uF, uG, uH, b1082, his1094, hws1094, c1110, g1110, c1111a, c1111b, c1111n, g1111, c1112, k1113, a1114]
      exact hNs1094 (s1094 ++ [e1111]) (g1094 + 1) h (weakL (by simp -implicitDefEqProofs only [go_sem, uA, uB, uC, uD, uE, reduceIte, reduceCtorEq, uF, uG, uH, b1082, his1094, hws1094, c1110, g1110, c1111a, c1111b, c1111n, g1111, c1112, k1113, a1114] <;> ((repeat' apply And.intro) <;> rfl)))
    · intro i1094 s1094 g1094 Rs1094 hes1094 h
      have hns1094 : ¬ (i1094 < a1.nodes.length) := by omega
      try dsimp only at h
      obtain ⟨fus1128, h⟩ := chk_s h
      unfold fuel at fus1128
      try simp -implicitDefEqProofs only [go_sem, uA, uB, uC, uD, uE, reduceIte, reduceCtorEq, uF, uG, uH, b1082, hns1094]
      refine forN_go (fun x : (Nat × ((List Edge))) × (Nat) => envL [(2, .ptr 2 0), (3, .ptr 3 0), (4, .ptr 4 0), (5, .ptr 5 0), (8, .ptr 8 0), (10, .p (.val (.int .i64 ((x.1.1 : Nat) : Int))))]) (fun x => heapL [(2, .box [.p (.lst (a0.nodes.map encI)), .p (.lst (a0.edges.map encEdge))]), (3, .box [.p (.lst (a1.nodes.map encI)), .p (.lst (a1.edges.map encI))]), (4, .box [.p (.val (.slice none 0 0)), .p (.val (.slice none 0 0))]), (5, .box [.p (.val (.slice none 0 0)), .p (.val (.slice none 0 0))]), (8, .box [.row 3092 g1094, .row 3126 x.2]), (3092, .row g1094 3 1 (s1094.map encI)), (3126, .row x.2 73 3 (x.1.2.map encEdge))]) 0 h (by refine Weak.trans (weak_nilbox 8 1 3126 73 3 _ rfl rfl rfl (by decide)) ?_; exact (weakL (by simp -implicitDefEqProofs only [go_sem, uA, uB, uC, uD, uE, reduceIte, reduceCtorEq, uF, uG, uH, b1082, hns1094] <;> ((repeat' apply And.intro) <;> rfl)))) ?_ ?_
      · intro i1128 s1128 g1128 nxts1128 Rs1128 his1128 hNs1128 h
        have hws1128 := wrap_succ (k := i1128) his1128 (by omega)
        try dsimp only at h
        try simp -implicitDefEqProofs only [go_sem, uA, uB, uC, uD, uE, reduceIte, reduceCtorEq, uF, uG, uH, b1082, hns1094, his1128, hws1128]
        refine draw_txt [.q, .q, .q, .q, .q, .q, .q, .q, .q, .w, .s] (by kernel_rfl) ?_
        obtain ⟨e1141, c1141, g1141, q1141, h⟩ := idx_s encI h
        obtain ⟨e1142, c1142a, c1142b, g1142, q1142, h⟩ := atZ_s encEdge h
        have c1142n := toNat_lt c1142a c1142b
        try simp -implicitDefEqProofs only [go_sem, uA, uB, uC, uD, uE, reduceIte, reduceCtorEq, uF, uG, uH, b1082, hns1094, his1128, hws1128, c1141, g1141, c1142a, c1142b, c1142n, g1142]
        refine draw_my [(0, .p), (2, .q), (3, .q), (4, .q), (5, .q), (6, .q), (7, .q), (8, .q), (9, .q), (10, .q), (11, .q), (12, .q), (13, .q), (14, .q), (15, .p), (1, .q), (16, .w), (17, .q), (18, .w)] (by kernel_rfl) ?_
        obtain ⟨r1148, hr1148, h⟩ := thn_s h
        try simp -implicitDefEqProofs only [go_sem, uA, uB, uC, uD, uE, reduceIte, reduceCtorEq, uF, uG, uH, b1082, hns1094, his1128, hws1128, c1141, g1141, c1142a, c1142b, c1142n, g1142]
        refine calldG (w_scarfjointref07_index a1.nodes e1142.src r1148 hr1148) (by simp -implicitDefEqProofs only [go_sem, uA, uB, uC, uD, uE, reduceIte, reduceCtorEq, uF, uG, uH, b1082, hns1094, his1128, hws1128, c1141, g1141, c1142a, c1142b, c1142n, g1142] <;> rfl) (pleL_refl _) (by first | exact pers | exact scal rfl) ?_
        obtain ⟨r1149, hr1149, h⟩ := thn_s h
        try simp -implicitDefEqProofs only [go_sem, uA, uB, uC, uD, uE, reduceIte, reduceCtorEq, uF, uG, uH, b1082, hns1094, his1128, hws1128, c1141, g1141, c1142a, c1142b, c1142n, g1142]
        refine calldG (w_scarfjointref07_index a1.nodes e1142.dst r1149 hr1149) (by simp -implicitDefEqProofs only [go_sem, uA, uB, uC, uD, uE, reduceIte, reduceCtorEq, uF, uG, uH, b1082, hns1094, his1128, hws1128, c1141, g1141, c1142a, c1142b, c1142n, g1142] <;> rfl) (pleL_refl _) (by first | exact pers | exact scal rfl) ?_
        obtain ⟨c1150, h⟩ := chk_s h
        have k1151 := eq_true (show (s1128.length + 1) * 24 ≤ 140737488355328 by omega)
        have a1152 := map_apps encEdge s1128 [(⟨e1142.type, r1148, r1149⟩ : Edge)] (c := [[.val (.int .i64 e1142.type), .val (.int .i64 r1148), .val (.int .i64 r1149)]]) rfl
        try simp -implicitDefEqProofs only [go_sem, uA, uB, uC, uD, uE, reduceIte, reduceCtorEq, uF, uG, uH, b1082, hns1094, his1128, hws1128, c1141, g1141, c1142a, c1142b, c1142n, g1142, c1150, k1151, a1152]
        exact hNs1128 (s1128 ++ [(⟨e1142.type, r1148, r1149⟩ : Edge)]) (g1128 + 1) h (weakL (by simp -implicitDefEqProofs only [go_sem, uA, uB, uC, uD, uE, reduceIte, reduceCtorEq, uF, uG, uH, b1082, hns1094, his1128, hws1128, c1141, g1141, c1142a, c1142b, c1142n, g1142, c1150, k1151, a1152] <;> ((repeat' apply And.intro) <;> rfl)))
      · intro i1128 s1128 g1128 Rs1128 hes1128 h
        have hns1128 : ¬ (i1128 < a1.edges.length) := by omega
        try dsimp only at h
        try simp -implicitDefEqProofs only [go_sem, uA, uB, uC, uD, uE, reduceIte, reduceCtorEq, uF, uG, uH, b1082, hns1094, hns1128]
        refine draw_my [(0, .b), (2, .q), (3, .q), (6, .b), (7, .b), (1, .w), (4, .s), (5, .w), (8, .s), (9, .p), (10, .w), (11, .w), (12, .q)] (by kernel_rfl) ?_
        obtain ⟨c1153, h⟩ := chk_s h
        have k1154 := eq_true (show (a1.nodes.length) * 8 ≤ 140737488355328 by omega)
        have k1155 := eq_true (map_len (n := 1) (f := encI) (fun _ => rfl) a1.nodes)
        obtain ⟨c1156, h⟩ := chk_s h
        have k1157 := eq_true (show (a1.edges.length) * 8 ≤ 140737488355328 by omega)
        have k1158 := eq_true (map_len (n := 1) (f := encI) (fun _ => rfl) a1.edges)
        cases h
        try simp -implicitDefEqProofs only [go_sem, uA, uB, uC, uD, uE, reduceIte, reduceCtorEq, uF, uG, uH, b1082, hns1094, hns1128, c1153, k1154, k1155, c1156, k1157, k1158]
        refine ⟨by decide, _, .refl _, ?_⟩
        simp -implicitDefEqProofs only [go_sem, uA, uB, uC, uD, uE, reduceIte, reduceCtorEq, uF, uG, uH, b1082, hns1094, hns1128, c1153, k1154, k1155, c1156, k1157, k1158] <;> ((repeat' apply And.intro) <;> rfl)
  · replace h := cond_f h b1082
    cases h
    try simp -implicitDefEqProofs only [go_sem, uA, uB, uC, uD, uE, reduceIte, reduceCtorEq, uF, uG, uH, b1082]
    refine ⟨by decide, _, .refl _, ?_⟩
    simp -implicitDefEqProofs only [go_sem, uA, uB, uC, uD, uE, reduceIte, reduceCtorEq, uF, uG, uH, b1082] <;> ((repeat' apply And.intro) <;> rfl)
end
end Go.Proofs.YtdlohnchnneaeaaGreat
/- Functions of the program as functions of Lean, and the walks that show them. Printed by gen.py. -/
set_option linter.unusedSimpArgs false
set_option linter.unusedVariables false
set_option maxRecDepth 20000
namespace Go.Proofs.YtdlohnchnneaeaaGreat
open Go.Abs
open Nat renaming reduceEqDiff → uA, reduceLT → uB, reduceLeDiff → uC, reduceMul → uD, reduceAdd → uE, reduceBEq → uF, reduceSub → uG
open Int renaming reduceToNat → uH

attribute [local go_sem] encAttr encEdge encEdgeT encI encInts encL_encRow encNode encPair encRow encS encStrs enc_T_A2_Int enc_T_A3_Int
noncomputable section
end
end Go.Proofs.YtdlohnchnneaeaaGreat
/- Functions of the program as functions of Lean, and the walks that show them. Printed by gen.py. -/
set_option linter.unusedSimpArgs false
set_option linter.unusedVariables false
set_option maxRecDepth 20000
namespace Go.Proofs.YtdlohnchnneaeaaGreat
open Go.Abs
open Nat renaming reduceEqDiff → uA, reduceLT → uB, reduceLeDiff → uC, reduceMul → uD, reduceAdd → uE, reduceBEq → uF, reduceSub → uG
open Int renaming reduceToNat → uH

attribute [local go_sem] encAttr encEdge encEdgeT encI encInts encL_encRow encNode encPair encRow encS encStrs enc_T_A2_Int enc_T_A3_Int
noncomputable section
def f_subgraph_has (a0 : List Int) (a1 : Int) : Option Bool :=
  thn (f_slices_BinarySearch_int a0 a1) fun r322 =>
  some r322.2
set_option maxHeartbeats 4000000 in
theorem w_subgraph_has (a0 : List Int) (a1 : Int) (r : Bool) (h : f_subgraph_has a0 a1 = some r) : CallV Go.Proofs.Tryz.prog 150 [.lst (a0.map encI), .val (.int .i64 a1)] (fun v => v = .val (.bool r)) := by
  refine CallV.ple ?_
  refine callV_of_cw [] Ty.mixed Go.Proofs.Tryz.func150 rfl (by kernel_rfl) (by simp [Go.Proofs.Tryz.ntmps150]) ?_; rw [Go.Proofs.Tryz.ntmps150, Go.Proofs.Tryz.results150]
  unfold f_subgraph_has at h
  obtain ⟨r322, hr322, h⟩ := thn_s h
  try simp -implicitDefEqProofs only [go_sem, uA, uB, uC, uD, uE, reduceIte, reduceCtorEq, uF, uG, uH]
  refine callG (w_slices_BinarySearch_int a0 a1 r322 hr322) (by simp -implicitDefEqProofs only [go_sem, uA, uB, uC, uD, uE, reduceIte, reduceCtorEq, uF, uG, uH] <;> rfl) (pleL_refl _) (by first | exact pers | exact scal rfl) ?_
  cases h
  try simp -implicitDefEqProofs only [go_sem, uA, uB, uC, uD, uE, reduceIte, reduceCtorEq, uF, uG, uH]
  all_goals ((repeat' apply And.intro) <;> rfl)
end
end Go.Proofs.YtdlohnchnneaeaaGreat
/- Functions of the program as functions of Lean, and the walks that show them. Printed by gen.py. -/
set_option linter.unusedSimpArgs false
set_option linter.unusedVariables false
set_option maxRecDepth 20000
namespace Go.Proofs.YtdlohnchnneaeaaGreat
open Go.Abs
open Nat renaming reduceEqDiff → uA, reduceLT → uB, reduceLeDiff → uC, reduceMul → uD, reduceAdd → uE, reduceBEq → uF, reduceSub → uG
open Int renaming reduceToNat → uH

attribute [local go_sem] encAttr encEdge encEdgeT encI encInts encL_encRow encNode encPair encRow encS encStrs enc_T_A2_Int enc_T_A3_Int
noncomputable section
def f_subgraph_part (a0 : Graph) (a1 : Part) : Option Int :=
  thn (f_subgraph_list a1.nodes ((a0.nodes.length : Nat) : Int)) fun r278 =>
  cond (decide (r278 = 0)) (
    thn (f_subgraph_list a1.edges ((a0.edges.length : Nat) : Int)) fun r280 =>
    cond (decide (r280 = 0)) (
      chk (a1.edges.length ≤ fuel) <|
      forN (fun i327 (s327 : Unit) nxts327 brks327 =>
        thn (a1.edges[i327]?) fun e334 =>
        thn (atZ a0.edges e334) fun e335 =>
        thn (f_subgraph_has a1.nodes e335.src) fun r336 =>
        cond r336 (
          thn (f_subgraph_has a1.nodes e335.dst) fun r338 =>
          cond r338 (
            nxts327 ()) <|
          some 14) <|
        some 14)
      (a1.edges.length - 0) 0 () fun s327 =>
      some 0) <|
    some r280) <|
  some r278
set_option maxHeartbeats 4000000 in
theorem w_subgraph_part (a0 : Graph) (a1 : Part) (r : Int) (h : f_subgraph_part a0 a1 = some r) : CallV Go.Proofs.Tryz.prog 130 [.agg [.lst (a0.nodes.map encI), .lst (a0.edges.map encEdge)], .agg [.lst (a1.nodes.map encI), .lst (a1.edges.map encI)]] (fun v => v = .val (.int .i64 r)) := by
  refine CallV.ple ?_
  refine callV_of_cw [] Ty.mixed Go.Proofs.Tryz.func130 rfl (by kernel_rfl) (by simp [Go.Proofs.Tryz.ntmps130]) ?_; rw [Go.Proofs.Tryz.ntmps130, Go.Proofs.Tryz.results130]
  unfold f_subgraph_part at h
  obtain ⟨r278, hr278, h⟩ := thn_s h
  try simp -implicitDefEqProofs only [go_sem, uA, uB, uC, uD, uE, reduceIte, reduceCtorEq, uF, uG, uH]
  refine callG (w_subgraph_list a1.nodes ((a0.nodes.length : Nat) : Int) r278 hr278) (by simp -implicitDefEqProofs only [go_sem, uA, uB, uC, uD, uE, reduceIte, reduceCtorEq, uF, uG, uH] <;> rfl) (pleL_refl _) (by first | exact pers | exact scal rfl) ?_
  try simp -implicitDefEqProofs only [go_sem, uA, uB, uC, uD, uE, reduceIte, reduceCtorEq, uF, uG, uH]
  refine condC_splitN (fun b279 => ?_) (fun b279 => ?_)
  · replace h := cond_t h b279
    obtain ⟨r280, hr280, h⟩ := thn_s h
    try simp -implicitDefEqProofs only [go_sem, uA, uB, uC, uD, uE, reduceIte, reduceCtorEq, uF, uG, uH, b279]
    refine callG (w_subgraph_list a1.edges ((a0.edges.length : Nat) : Int) r280 hr280) (by simp -implicitDefEqProofs only [go_sem, uA, uB, uC, uD, uE, reduceIte, reduceCtorEq, uF, uG, uH, b279] <;> rfl) (pleL_refl _) (by first | exact pers | exact scal rfl) ?_
    try simp -implicitDefEqProofs only [go_sem, uA, uB, uC, uD, uE, reduceIte, reduceCtorEq, uF, uG, uH, b279]
    refine condC_splitN (fun b281 => ?_) (fun b281 => ?_)
    · replace h := cond_t h b281
      obtain ⟨fus327, h⟩ := chk_s h
      unfold fuel at fus327
      try simp -implicitDefEqProofs only [go_sem, uA, uB, uC, uD, uE, reduceIte, reduceCtorEq, uF, uG, uH, b279, b281]
      refine forN_go (fun x : (Nat × (Unit)) × (Unit) => envL [(2, .ptr 2 0), (3, .ptr 3 0), (28, .p (.lst (a1.edges.map encI))), (29, .p (.val (.int .i64 ((a1.edges.length : Nat) : Int)))), (30, .p (.val (.int .i64 ((x.1.1 : Nat) : Int))))]) (fun x => heapL [(2, .box [.p (.lst (a0.nodes.map encI)), .p (.lst (a0.edges.map encEdge))]), (3, .box [.p (.lst (a1.nodes.map encI)), .p (.lst (a1.edges.map encI))])]) () h (weakL (by simp -implicitDefEqProofs only [go_sem, uA, uB, uC, uD, uE, reduceIte, reduceCtorEq, uF, uG, uH, b279, b281] <;> ((repeat' apply And.intro) <;> rfl))) ?_ ?_
      · intro i327 s327 g327 nxts327 Rs327 his327 hNs327 h
        have hws327 := wrap_succ (k := i327) his327 (by omega)
        try dsimp only at h
        obtain ⟨e334, c334, g334, q334, h⟩ := idx_s encI h
        try simp -implicitDefEqProofs only [go_sem, uA, uB, uC, uD, uE, reduceIte, reduceCtorEq, uF, uG, uH, b279, b281, his327, hws327, c334, g334]
        refine draw_txt [.q, .q, .q, .q, .q, .q, .q, .q, .q, .q, .q, .q, .q, .q, .q, .q, .q, .q, .q, .q, .q, .q] (by kernel_rfl) ?_
        obtain ⟨e335, c335a, c335b, g335, q335, h⟩ := atZ_s encEdge h
        have c335n := toNat_lt c335a c335b
        obtain ⟨r336, hr336, h⟩ := thn_s h
        try simp -implicitDefEqProofs only [go_sem, uA, uB, uC, uD, uE, reduceIte, reduceCtorEq, uF, uG, uH, b279, b281, his327, hws327, c334, g334, c335a, c335b, c335n, g335]
        refine calldG (w_subgraph_has a1.nodes e335.src r336 hr336) (by simp -implicitDefEqProofs only [go_sem, uA, uB, uC, uD, uE, reduceIte, reduceCtorEq, uF, uG, uH, b279, b281, his327, hws327, c334, g334, c335a, c335b, c335n, g335] <;> rfl) (pleL_refl _) (by first | exact pers | exact scal rfl) ?_
        try simp -implicitDefEqProofs only [go_sem, uA, uB, uC, uD, uE, reduceIte, reduceCtorEq, uF, uG, uH, b279, b281, his327, hws327, c334, g334, c335a, c335b, c335n, g335]
        refine walkDG_split (fun b337 => ?_) (fun b337 => ?_)
        · replace h := cond_t h b337
          obtain ⟨r338, hr338, h⟩ := thn_s h
          try simp -implicitDefEqProofs only [go_sem, uA, uB, uC, uD, uE, reduceIte, reduceCtorEq, uF, uG, uH, b279, b281, his327, hws327, c334, g334, c335a, c335b, c335n, g335, b337]
          refine calldG (w_subgraph_has a1.nodes e335.dst r338 hr338) (by simp -implicitDefEqProofs only [go_sem, uA, uB, uC, uD, uE, reduceIte, reduceCtorEq, uF, uG, uH, b279, b281, his327, hws327, c334, g334, c335a, c335b, c335n, g335, b337] <;> rfl) (pleL_refl _) (by first | exact pers | exact scal rfl) ?_
          try simp -implicitDefEqProofs only [go_sem, uA, uB, uC, uD, uE, reduceIte, reduceCtorEq, uF, uG, uH, b279, b281, his327, hws327, c334, g334, c335a, c335b, c335n, g335, b337]
          refine condC_splitN (fun b339 => ?_) (fun b339 => ?_)
          · replace h := cond_t h b339
            try simp -implicitDefEqProofs only [go_sem, uA, uB, uC, uD, uE, reduceIte, reduceCtorEq, uF, uG, uH, b279, b281, his327, hws327, c334, g334, c335a, c335b, c335n, g335, b337, b339]
            exact hNs327 () () h (weakL (by simp -implicitDefEqProofs only [go_sem, uA, uB, uC, uD, uE, reduceIte, reduceCtorEq, uF, uG, uH, b279, b281, his327, hws327, c334, g334, c335a, c335b, c335n, g335, b337, b339] <;> ((repeat' apply And.intro) <;> rfl)))
          · replace h := cond_f h b339
            cases h
            try simp -implicitDefEqProofs only [go_sem, uA, uB, uC, uD, uE, reduceIte, reduceCtorEq, uF, uG, uH, b279, b281, his327, hws327, c334, g334, c335a, c335b, c335n, g335, b337, b339]
            all_goals ((repeat' apply And.intro) <;> rfl)
        · replace h := cond_f h b337
          cases h
          try simp -implicitDefEqProofs only [go_sem, uA, uB, uC, uD, uE, reduceIte, reduceCtorEq, uF, uG, uH, b279, b281, his327, hws327, c334, g334, c335a, c335b, c335n, g335, b337]
          all_goals ((repeat' apply And.intro) <;> rfl)
      · intro i327 s327 g327 Rs327 hes327 h
        have hns327 : ¬ (i327 < a1.edges.length) := by omega
        try dsimp only at h
        cases h
        try simp -implicitDefEqProofs only [go_sem, uA, uB, uC, uD, uE, reduceIte, reduceCtorEq, uF, uG, uH, b279, b281, hns327]
        all_goals ((repeat' apply And.intro) <;> rfl)
    · replace h := cond_f h b281
      cases h
      try simp -implicitDefEqProofs only [go_sem, uA, uB, uC, uD, uE, reduceIte, reduceCtorEq, uF, uG, uH, b279, b281]
      all_goals ((repeat' apply And.intro) <;> rfl)
  · replace h := cond_f h b279
    cases h
    try simp -implicitDefEqProofs only [go_sem, uA, uB, uC, uD, uE, reduceIte, reduceCtorEq, uF, uG, uH, b279]
    all_goals ((repeat' apply And.intro) <;> rfl)
end
end Go.Proofs.YtdlohnchnneaeaaGreat
/- Functions of the program as functions of Lean, and the walks that show them. Printed by gen.py. -/
set_option linter.unusedSimpArgs false
set_option linter.unusedVariables false
set_option maxRecDepth 20000
namespace Go.Proofs.YtdlohnchnneaeaaGreat
open Go.Abs
open Nat renaming reduceEqDiff → uA, reduceLT → uB, reduceLeDiff → uC, reduceMul → uD, reduceAdd → uE, reduceBEq → uF, reduceSub → uG
open Int renaming reduceToNat → uH

attribute [local go_sem] encAttr encEdge encEdgeT encI encInts encL_encRow encNode encPair encRow encS encStrs enc_T_A2_Int enc_T_A3_Int
noncomputable section
def f_scarfjointref15_Extract (a0 : Types) (a1 : Host) (a2 : Part) : Option (Host × Int) :=
  thn (f_scarfjointref15_Valid a0 a1) fun r1189 =>
  cond (decide (r1189.2 = 0)) (
    thn (f_scarfjointref07_Extract a1.graph a2) fun r1191 =>
    cond (decide (r1191.2.2 = 0)) (
      chk (r1191.2.1.nodes.length ≤ fuel) <|
      forN (fun i1203 (s1203 : (List (List Int))) nxts1203 brks1203 =>
        thn (r1191.2.1.nodes[i1203]?) fun e1212 =>
        thn (atZ a1.values e1212) fun e1213 =>
        chk (e1213.length ≤ 68719476736) <|
        chk (s1203.length + 1 ≤ 68719476736) <|
        nxts1203 (s1203 ++ [e1213]))
      (r1191.2.1.nodes.length - 0) 0 ([] : List (List Int)) fun s1203 =>
      some ((⟨r1191.1, s1203⟩ : Host), 0)) <|
    some ((⟨(⟨([] : List Int), ([] : List Edge)⟩ : Graph), ([] : List (List Int))⟩ : Host), r1191.2.2)) <|
  some ((⟨(⟨([] : List Int), ([] : List Edge)⟩ : Graph), ([] : List (List Int))⟩ : Host), r1189.2)
set_option maxHeartbeats 4000000 in
theorem w_scarfjointref15_Extract (a0 : Types) (a1 : Host) (a2 : Part) (r : Host × Int) (h : f_scarfjointref15_Extract a0 a1 a2 = some r) : CallF Go.Proofs.Tryz.prog 53 [.agg [.lst (a0.nodes.map encNode), .lst (a0.edges.map encEdgeT)], .agg [.lst (a1.graph.nodes.map encI), .lst (a1.graph.edges.map encEdge), .lst (a1.values.map encRow)], .agg [.lst (a2.nodes.map encI), .lst (a2.edges.map encI)]] (fun v => v = .tup [.agg [.row 3 1 (r.1.graph.nodes.map encI), .row 73 3 (r.1.graph.edges.map encEdge), .row 26 1 (r.1.values.map encRow)], .p (.val (.int .i64 r.2))]) := by
  refine CallF.rle ?_
  refine callF_of_cw [59, 60] Ty.mixed Go.Proofs.Tryz.func53 rfl (by kernel_rfl) (by simp [Go.Proofs.Tryz.ntmps53]) ?_; rw [Go.Proofs.Tryz.ntmps53, Go.Proofs.Tryz.results53]
  unfold f_scarfjointref15_Extract at h
  obtain ⟨r1189, hr1189, h⟩ := thn_s h
  try simp -implicitDefEqProofs only [go_sem, uA, uB, uC, uD, uE, reduceIte, reduceCtorEq, uF, uG, uH]
  refine callG (w_scarfjointref15_Valid a0 a1 r1189 hr1189) (by simp -implicitDefEqProofs only [go_sem, uA, uB, uC, uD, uE, reduceIte, reduceCtorEq, uF, uG, uH] <;> rfl) (pleL_refl _) (by first | exact pers | exact scal rfl) ?_
  try simp -implicitDefEqProofs only [go_sem, uA, uB, uC, uD, uE, reduceIte, reduceCtorEq, uF, uG, uH]
  refine condC_splitN (fun b1190 => ?_) (fun b1190 => ?_)
  · replace h := cond_t h b1190
    obtain ⟨r1191, hr1191, h⟩ := thn_s h
    try simp -implicitDefEqProofs only [go_sem, uA, uB, uC, uD, uE, reduceIte, reduceCtorEq, uF, uG, uH, b1190]
    refine callfG 1464 (w_scarfjointref07_Extract a1.graph a2 r1191 hr1191) (by simp -implicitDefEqProofs only [go_sem, uA, uB, uC, uD, uE, reduceIte, reduceCtorEq, uF, uG, uH, b1190] <;> rfl) (pleL_refl _) (by first | exact persF | exact flatF rfl | exact flatF (by simp [RV.flat, RV.flatL, PV.scalar, isVal, encI, encEdge, encI, encI])) (by simp -implicitDefEqProofs only [go_sem, uA, uB, uC, uD, uE, reduceIte, reduceCtorEq, uF, uG, uH, b1190]) ?_
    try simp -implicitDefEqProofs only [go_sem, uA, uB, uC, uD, uE, reduceIte, reduceCtorEq, uF, uG, uH, b1190]
    refine condC_splitN (fun b1192 => ?_) (fun b1192 => ?_)
    · replace h := cond_t h b1192
      obtain ⟨fus1203, h⟩ := chk_s h
      unfold fuel at fus1203
      try simp -implicitDefEqProofs only [go_sem, uA, uB, uC, uD, uE, reduceIte, reduceCtorEq, uF, uG, uH, b1190, b1192]
      refine forN_go (fun x : (Nat × ((List (List Int)))) × (Nat) => envL [(4, .ptr 4 0), (6, .ptr 6 0), (11, .ptr 11 0), (13, .ptr 13 0), (14, .p (.val (.int .i64 ((x.1.1 : Nat) : Int))))]) (fun x => heapL [(4, .box [.p (.lst (a1.graph.nodes.map encI)), .p (.lst (a1.graph.edges.map encEdge)), .p (.lst (a1.values.map encRow))]), (6, .box [.p (.val (.slice none 0 0)), .p (.val (.slice none 0 0)), .p (.val (.slice none 0 0))]), (11, .box [.row 1466 0, .row 1467 0]), (13, .box [.row 1464 0, .row 1465 0, .row 3201 x.2]), (1466, .row 0 3 1 (r1191.2.1.nodes.map encI)), (1467, .row 0 3 1 (r1191.2.1.edges.map encI)), (1464, .row 0 3 1 (r1191.1.nodes.map encI)), (1465, .row 0 73 3 (r1191.1.edges.map encEdge)), (3201, .row x.2 26 1 (x.1.2.map encRow))]) 0 h (by refine Weak.trans (weak_nilbox 13 2 3201 26 1 _ rfl rfl rfl (by decide)) ?_; exact (weakL (by simp -implicitDefEqProofs only [go_sem, uA, uB, uC, uD, uE, reduceIte, reduceCtorEq, uF, uG, uH, b1190, b1192] <;> ((repeat' apply And.intro) <;> rfl)))) ?_ ?_
      · intro i1203 s1203 g1203 nxts1203 Rs1203 his1203 hNs1203 h
        have hws1203 := wrap_succ (k := i1203) his1203 (by omega)
        try dsimp only at h
        try simp -implicitDefEqProofs only [go_sem, uA, uB, uC, uD, uE, reduceIte, reduceCtorEq, uF, uG, uH, b1190, b1192, his1203, hws1203]
        refine draw_my [(0, .p), (2, .p), (1, .b), (3, .q), (4, .q), (5, .q), (6, .q), (7, .q), (8, .q), (9, .q), (10, .q), (11, .q), (12, .w), (13, .w), (14, .w), (15, .q), (16, .w)] (by kernel_rfl) ?_
        obtain ⟨e1212, c1212, g1212, q1212, h⟩ := idx_s encI h
        obtain ⟨e1213, c1213a, c1213b, g1213, q1213, h⟩ := atZ_s encRow h
        have c1213n := toNat_lt c1213a c1213b
        obtain ⟨c1214, h⟩ := chk_s h
        have k1215 := eq_true (show (e1213.length) * 8 ≤ 140737488355328 by omega)
        have k1216 := eq_true (map_len (n := 1) (f := encI) (fun _ => rfl) e1213)
        obtain ⟨c1217, h⟩ := chk_s h
        have k1218 := eq_true (show (s1203.length + 1) * 24 ≤ 140737488355328 by omega)
        have a1219 := map_apps encRow s1203 [e1213] (c := [[.lst (e1213.map encI)]]) rfl
        try simp -implicitDefEqProofs only [go_sem, uA, uB, uC, uD, uE, reduceIte, reduceCtorEq, uF, uG, uH, b1190, b1192, his1203, hws1203, c1212, g1212, c1213a, c1213b, c1213n, g1213, c1214, k1215, k1216, c1217, k1218, a1219]
        exact hNs1203 (s1203 ++ [e1213]) (g1203 + 1) h (weakL (by simp -implicitDefEqProofs only [go_sem, uA, uB, uC, uD, uE, reduceIte, reduceCtorEq, uF, uG, uH, b1190, b1192, his1203, hws1203, c1212, g1212, c1213a, c1213b, c1213n, g1213, c1214, k1215, k1216, c1217, k1218, a1219] <;> ((repeat' apply And.intro) <;> rfl)))
      · intro i1203 s1203 g1203 Rs1203 hes1203 h
        have hns1203 : ¬ (i1203 < r1191.2.1.nodes.length) := by omega
        try dsimp only at h
        cases h
        try simp -implicitDefEqProofs only [go_sem, uA, uB, uC, uD, uE, reduceIte, reduceCtorEq, uF, uG, uH, b1190, b1192, hns1203]
        refine ⟨by decide, _, .refl _, ?_⟩
        simp -implicitDefEqProofs only [go_sem, uA, uB, uC, uD, uE, reduceIte, reduceCtorEq, uF, uG, uH, b1190, b1192, hns1203] <;> ((repeat' apply And.intro) <;> rfl)
    · replace h := cond_f h b1192
      cases h
      try simp -implicitDefEqProofs only [go_sem, uA, uB, uC, uD, uE, reduceIte, reduceCtorEq, uF, uG, uH, b1190, b1192]
      refine ⟨by decide, _, .refl _, ?_⟩
      simp -implicitDefEqProofs only [go_sem, uA, uB, uC, uD, uE, reduceIte, reduceCtorEq, uF, uG, uH, b1190, b1192] <;> ((repeat' apply And.intro) <;> rfl)
  · replace h := cond_f h b1190
    cases h
    try simp -implicitDefEqProofs only [go_sem, uA, uB, uC, uD, uE, reduceIte, reduceCtorEq, uF, uG, uH, b1190]
    refine ⟨by decide, _, .refl _, ?_⟩
    simp -implicitDefEqProofs only [go_sem, uA, uB, uC, uD, uE, reduceIte, reduceCtorEq, uF, uG, uH, b1190] <;> ((repeat' apply And.intro) <;> rfl)
end
end Go.Proofs.YtdlohnchnneaeaaGreat
/- Functions of the program as functions of Lean, and the walks that show them. Printed by gen.py. -/
set_option linter.unusedSimpArgs false
set_option linter.unusedVariables false
set_option maxRecDepth 20000
namespace Go.Proofs.YtdlohnchnneaeaaGreat
open Go.Abs
open Nat renaming reduceEqDiff → uA, reduceLT → uB, reduceLeDiff → uC, reduceMul → uD, reduceAdd → uE, reduceBEq → uF, reduceSub → uG
open Int renaming reduceToNat → uH

attribute [local go_sem] encAttr encEdge encEdgeT encI encInts encL_encRow encNode encPair encRow encS encStrs enc_T_A2_Int enc_T_A3_Int
noncomputable section
end
end Go.Proofs.YtdlohnchnneaeaaGreat
/- Functions of the program as functions of Lean, and the walks that show them. Printed by gen.py. -/
set_option linter.unusedSimpArgs false
set_option linter.unusedVariables false
set_option maxRecDepth 20000
namespace Go.Proofs.YtdlohnchnneaeaaGreat
open Go.Abs
open Nat renaming reduceEqDiff → uA, reduceLT → uB, reduceLeDiff → uC, reduceMul → uD, reduceAdd → uE, reduceBEq → uF, reduceSub → uG
open Int renaming reduceToNat → uH

attribute [local go_sem] encAttr encEdge encEdgeT encI encInts encL_encRow encNode encPair encRow encS encStrs enc_T_A2_Int enc_T_A3_Int
noncomputable section
def f_scarfjointref52_Only (a0 : Types) (a1 : Sorts) (a2 : Host) (a3 : Int) : Option Host :=
  thn (f_scarfjointref52_Part a1 a2.graph a3) fun r2879 =>
  cond (decide (a3 = 2)) (
    thn (f_scarfjointref15_Extract a0 a2 (⟨r2879.nodes, ([] : List Int)⟩ : Part)) fun r2881 =>
    some r2881.1) <|
  thn (f_scarfjointref15_Extract a0 a2 r2879) fun r2882 =>
  some r2882.1
set_option maxHeartbeats 4000000 in
theorem w_scarfjointref52_Only (a0 : Types) (a1 : Sorts) (a2 : Host) (a3 : Int) (r : Host) (h : f_scarfjointref52_Only a0 a1 a2 a3 = some r) : CallF Go.Proofs.Tryz.prog 28 [.agg [.lst (a0.nodes.map encNode), .lst (a0.edges.map encEdgeT)], .agg [.lst (a1.nodes.map encI), .lst (a1.edges.map encI)], .agg [.lst (a2.graph.nodes.map encI), .lst (a2.graph.edges.map encEdge), .lst (a2.values.map encRow)], .val (.int .i64 a3)] (fun v => v = .agg [.row 3 1 (r.graph.nodes.map encI), .row 73 3 (r.graph.edges.map encEdge), .row 26 1 (r.values.map encRow)]) := by
  refine CallF.rle ?_
  refine callF_of_cw [] Ty.mixed Go.Proofs.Tryz.func28 rfl (by kernel_rfl) (by simp [Go.Proofs.Tryz.ntmps28]) ?_; rw [Go.Proofs.Tryz.ntmps28, Go.Proofs.Tryz.results28]
  unfold f_scarfjointref52_Only at h
  obtain ⟨r2879, hr2879, h⟩ := thn_s h
  try simp -implicitDefEqProofs only [go_sem, uA, uB, uC, uD, uE, reduceIte, reduceCtorEq, uF, uG, uH]
  refine callG (w_scarfjointref52_Part a1 a2.graph a3 r2879 hr2879) (by simp -implicitDefEqProofs only [go_sem, uA, uB, uC, uD, uE, reduceIte, reduceCtorEq, uF, uG, uH] <;> rfl) (pleL_refl _) (by first | exact pers | exact scal rfl) ?_
  try simp -implicitDefEqProofs only [go_sem, uA, uB, uC, uD, uE, reduceIte, reduceCtorEq, uF, uG, uH]
  refine condC_split (fun b2880 => ?_) (fun b2880 => ?_)
  · replace h := cond_t h b2880
    obtain ⟨r2881, hr2881, h⟩ := thn_s h
    try simp -implicitDefEqProofs only [go_sem, uA, uB, uC, uD, uE, reduceIte, reduceCtorEq, uF, uG, uH, b2880]
    refine callfG 1384 (w_scarfjointref15_Extract a0 a2 (⟨r2879.nodes, ([] : List Int)⟩ : Part) r2881 hr2881) (by simp -implicitDefEqProofs only [go_sem, uA, uB, uC, uD, uE, reduceIte, reduceCtorEq, uF, uG, uH, b2880] <;> rfl) (by first | exact pleL_refl _ | (simp -implicitDefEqProofs only [go_sem, uA, uB, uC, uD, uE, reduceIte, reduceCtorEq, uF, uG, uH, b2880] <;> rfl)) (by first | exact persF | exact flatF rfl | exact flatF (by simp [RV.flat, RV.flatL, PV.scalar, isVal, encI, encEdge, encRow])) (by simp -implicitDefEqProofs only [go_sem, uA, uB, uC, uD, uE, reduceIte, reduceCtorEq, uF, uG, uH, b2880]) ?_
    cases h
    try simp -implicitDefEqProofs only [go_sem, uA, uB, uC, uD, uE, reduceIte, reduceCtorEq, uF, uG, uH, b2880]
    refine ⟨by decide, _, .refl _, ?_⟩
    simp -implicitDefEqProofs only [go_sem, uA, uB, uC, uD, uE, reduceIte, reduceCtorEq, uF, uG, uH, b2880] <;> ((repeat' apply And.intro) <;> rfl)
  · replace h := cond_f h b2880
    obtain ⟨r2882, hr2882, h⟩ := thn_s h
    try simp -implicitDefEqProofs only [go_sem, uA, uB, uC, uD, uE, reduceIte, reduceCtorEq, uF, uG, uH, b2880]
    refine callfG 1384 (w_scarfjointref15_Extract a0 a2 r2879 r2882 hr2882) (by simp -implicitDefEqProofs only [go_sem, uA, uB, uC, uD, uE, reduceIte, reduceCtorEq, uF, uG, uH, b2880] <;> rfl) (pleL_refl _) (by first | exact persF | exact flatF rfl | exact flatF (by simp [RV.flat, RV.flatL, PV.scalar, isVal, encI, encEdge, encRow])) (by simp -implicitDefEqProofs only [go_sem, uA, uB, uC, uD, uE, reduceIte, reduceCtorEq, uF, uG, uH, b2880]) ?_
    cases h
    try simp -implicitDefEqProofs only [go_sem, uA, uB, uC, uD, uE, reduceIte, reduceCtorEq, uF, uG, uH, b2880]
    refine ⟨by decide, _, .refl _, ?_⟩
    simp -implicitDefEqProofs only [go_sem, uA, uB, uC, uD, uE, reduceIte, reduceCtorEq, uF, uG, uH, b2880] <;> ((repeat' apply And.intro) <;> rfl)
end
end Go.Proofs.YtdlohnchnneaeaaGreat
/- Functions of the program as functions of Lean, and the walks that show them. Printed by gen.py. -/
set_option linter.unusedSimpArgs false
set_option linter.unusedVariables false
set_option maxRecDepth 20000
namespace Go.Proofs.YtdlohnchnneaeaaGreat
open Go.Abs
open Nat renaming reduceEqDiff → uA, reduceLT → uB, reduceLeDiff → uC, reduceMul → uD, reduceAdd → uE, reduceBEq → uF, reduceSub → uG
open Int renaming reduceToNat → uH

attribute [local go_sem] encAttr encEdge encEdgeT encI encInts encL_encRow encNode encPair encRow encS encStrs enc_T_A2_Int enc_T_A3_Int
noncomputable section
def f_subgraph_Valid (a0 : Graph) (a1 : Part) : Option Int :=
  thn (f_graph_Valid a0) fun r255 =>
  cond (decide (r255 = 0)) (
    thn (f_subgraph_part (⟨a0.nodes, a0.edges⟩ : Graph) (⟨a1.nodes, a1.edges⟩ : Part)) fun r340 =>
    some r340) <|
  some r255
set_option maxHeartbeats 4000000 in
theorem w_subgraph_Valid (a0 : Graph) (a1 : Part) (r : Int) (h : f_subgraph_Valid a0 a1 = some r) : CallV Go.Proofs.Tryz.prog 98 [.agg [.lst (a0.nodes.map encI), .lst (a0.edges.map encEdge)], .agg [.lst (a1.nodes.map encI), .lst (a1.edges.map encI)]] (fun v => v = .val (.int .i64 r)) := by
  refine CallV.ple ?_
  refine callV_of_cw [] Ty.mixed Go.Proofs.Tryz.func98 rfl (by kernel_rfl) (by simp [Go.Proofs.Tryz.ntmps98]) ?_; rw [Go.Proofs.Tryz.ntmps98, Go.Proofs.Tryz.results98]
  unfold f_subgraph_Valid at h
  obtain ⟨r255, hr255, h⟩ := thn_s h
  try simp -implicitDefEqProofs only [go_sem, uA, uB, uC, uD, uE, reduceIte, reduceCtorEq, uF, uG, uH]
  refine callG (w_graph_Valid a0 r255 hr255) (by simp -implicitDefEqProofs only [go_sem, uA, uB, uC, uD, uE, reduceIte, reduceCtorEq, uF, uG, uH] <;> rfl) (pleL_refl _) (by first | exact pers | exact scal rfl) ?_
  try simp -implicitDefEqProofs only [go_sem, uA, uB, uC, uD, uE, reduceIte, reduceCtorEq, uF, uG, uH]
  refine condC_splitN (fun b256 => ?_) (fun b256 => ?_)
  · replace h := cond_t h b256
    obtain ⟨r340, hr340, h⟩ := thn_s h
    try simp -implicitDefEqProofs only [go_sem, uA, uB, uC, uD, uE, reduceIte, reduceCtorEq, uF, uG, uH, b256]
    refine callG (w_subgraph_part (⟨a0.nodes, a0.edges⟩ : Graph) (⟨a1.nodes, a1.edges⟩ : Part) r340 hr340) (by simp -implicitDefEqProofs only [go_sem, uA, uB, uC, uD, uE, reduceIte, reduceCtorEq, uF, uG, uH, b256] <;> rfl) (pleL_refl _) (by first | exact pers | exact scal rfl) ?_
    cases h
    try simp -implicitDefEqProofs only [go_sem, uA, uB, uC, uD, uE, reduceIte, reduceCtorEq, uF, uG, uH, b256]
    all_goals ((repeat' apply And.intro) <;> rfl)
  · replace h := cond_f h b256
    cases h
    try simp -implicitDefEqProofs only [go_sem, uA, uB, uC, uD, uE, reduceIte, reduceCtorEq, uF, uG, uH, b256]
    all_goals ((repeat' apply And.intro) <;> rfl)
end
end Go.Proofs.YtdlohnchnneaeaaGreat
/- Functions of the program as functions of Lean, and the walks that show them. Printed by gen.py. -/
set_option linter.unusedSimpArgs false
set_option linter.unusedVariables false
set_option maxRecDepth 20000
namespace Go.Proofs.YtdlohnchnneaeaaGreat
open Go.Abs
open Nat renaming reduceEqDiff → uA, reduceLT → uB, reduceLeDiff → uC, reduceMul → uD, reduceAdd → uE, reduceBEq → uF, reduceSub → uG
open Int renaming reduceToNat → uH

attribute [local go_sem] encAttr encEdge encEdgeT encI encInts encL_encRow encNode encPair encRow encS encStrs enc_T_A2_Int enc_T_A3_Int
noncomputable section
def f_subgraph_Extract (a0 : Graph) (a1 : Part) : Option (Graph × T_Morphism × Int) :=
  thn (f_subgraph_Valid a0 a1) fun r513 =>
  cond (decide (r513 = 0)) (
    chk (a1.nodes.length ≤ fuel) <|
    forN (fun i525 (s525 : (List Int)) nxts525 brks525 =>
      thn (a1.nodes[i525]?) fun e535 =>
      thn (atZ a0.nodes e535) fun e540 =>
      chk (s525.length + 1 ≤ 68719476736) <|
      nxts525 (s525 ++ [e540]))
    (a1.nodes.length - 0) 0 ([] : List Int) fun s525 =>
    chk (a1.edges.length ≤ fuel) <|
    forN (fun i553 (s553 : (List Edge)) nxts553 brks553 =>
      thn (a1.edges[i553]?) fun e561 =>
      thn (atZ a0.edges e561) fun e562 =>
      thn (f_slices_BinarySearch_int a1.nodes e562.src) fun r563 =>
      thn (f_slices_BinarySearch_int a1.nodes e562.dst) fun r564 =>
      chk (s553.length + 1 ≤ 68719476736) <|
      nxts553 (s553 ++ [(⟨e562.type, r563.1, r564.1⟩ : Edge)]))
    (a1.edges.length - 0) 0 ([] : List Edge) fun s553 =>
    thn (f_slices_Clone_int a1.nodes) fun r568 =>
    thn (f_slices_Clone_int a1.edges) fun r569 =>
    some ((⟨s525, s553⟩ : Graph), (⟨r568, r569⟩ : T_Morphism), 0)) <|
  some ((⟨([] : List Int), ([] : List Edge)⟩ : Graph), (⟨([] : List Int), ([] : List Int)⟩ : T_Morphism), r513)
set_option maxHeartbeats 4000000 in
theorem w_subgraph_Extract (a0 : Graph) (a1 : Part) (r : Graph × T_Morphism × Int) (h : f_subgraph_Extract a0 a1 = some r) : CallF Go.Proofs.Tryz.prog 73 [.agg [.lst (a0.nodes.map encI), .lst (a0.edges.map encEdge)], .agg [.lst (a1.nodes.map encI), .lst (a1.edges.map encI)]] (fun v => v = .tup [.agg [.row 3 1 (r.1.nodes.map encI), .row 73 3 (r.1.edges.map encEdge)], .agg [.row 3 1 (r.2.1.nodes.map encI), .row 3 1 (r.2.1.edges.map encI)], .p (.val (.int .i64 r.2.2))]) := by
  refine CallF.rle ?_
  refine callF_of_cw [37, 74] Ty.mixed Go.Proofs.Tryz.func73 rfl (by kernel_rfl) (by simp [Go.Proofs.Tryz.ntmps73]) ?_; rw [Go.Proofs.Tryz.ntmps73, Go.Proofs.Tryz.results73]
  unfold f_subgraph_Extract at h
  obtain ⟨r513, hr513, h⟩ := thn_s h
  try simp -implicitDefEqProofs only [go_sem, uA, uB, uC, uD, uE, reduceIte, reduceCtorEq, uF, uG, uH]
  refine callG (w_subgraph_Valid a0 a1 r513 hr513) (by simp -implicitDefEqProofs only [go_sem, uA, uB, uC, uD, uE, reduceIte, reduceCtorEq, uF, uG, uH] <;> rfl) (pleL_refl _) (by first | exact pers | exact scal rfl) ?_
  try simp -implicitDefEqProofs only [go_sem, uA, uB, uC, uD, uE, reduceIte, reduceCtorEq, uF, uG, uH]
  refine condC_splitN (fun b514 => ?_) (fun b514 => ?_)
  · replace h := cond_t h b514
    obtain ⟨fus525, h⟩ := chk_s h
    unfold fuel at fus525
    try simp -implicitDefEqProofs only [go_sem, uA, uB, uC, uD, uE, reduceIte, reduceCtorEq, uF, uG, uH, b514]
    refine forN_go (fun x : (Nat × ((List Int))) × (Nat) => envL [(2, .ptr 2 0), (3, .ptr 3 0), (4, .ptr 4 0), (5, .ptr 5 0), (8, .ptr 8 0), (23, .p (.lst (a1.nodes.map encI))), (24, .p (.val (.int .i64 ((a1.nodes.length : Nat) : Int)))), (25, .p (.val (.int .i64 ((x.1.1 : Nat) : Int))))]) (fun x => heapL [(2, .box [.p (.lst (a0.nodes.map encI)), .p (.lst (a0.edges.map encEdge))]), (3, .box [.p (.lst (a1.nodes.map encI)), .p (.lst (a1.edges.map encI))]), (4, .box [.p (.val (.slice none 0 0)), .p (.val (.slice none 0 0))]), (5, .box [.p (.val (.slice none 0 0)), .p (.val (.slice none 0 0))]), (8, .box [.row 2523 x.2, .p (.val (.slice none 0 0))]), (2523, .row x.2 3 1 (x.1.2.map encI))]) 0 h (by refine Weak.trans (weak_nilbox 8 0 2523 3 1 _ rfl rfl rfl (by decide)) ?_; exact (weakL (by simp -implicitDefEqProofs only [go_sem, uA, uB, uC, uD, uE, reduceIte, reduceCtorEq, uF, uG, uH, b514] <;> ((repeat' apply And.intro) <;> rfl)))) ?_ ?_
    · intro i525 s525 g525 nxts525 Rs525 his525 hNs525 h
      have hws525 := wrap_succ (k := i525) his525 (by omega)
      try dsimp only at h
      obtain ⟨e535, c535, g535, q535, h⟩ := idx_s encI h
      try simp -implicitDefEqProofs only [go_sem, uA, uB, uC, uD, uE, reduceIte, reduceCtorEq, uF, uG, uH, b514, his525, hws525, c535, g535]
      refine draw_my [(0, .p), (2, .q), (3, .q), (4, .q), (5, .q), (6, .q), (7, .p), (1, .q), (8, .w), (9, .q), (10, .w)] (by kernel_rfl) ?_
      obtain ⟨e540, c540a, c540b, g540, q540, h⟩ := atZ_s encI h
      have c540n := toNat_lt c540a c540b
      obtain ⟨c541, h⟩ := chk_s h
      have k542 := eq_true (show (s525.length + 1) * 8 ≤ 140737488355328 by omega)
      have a543 := map_apps encI s525 [e540] (c := [[.val (.int .i64 e540)]]) rfl
      try simp -implicitDefEqProofs only [go_sem, uA, uB, uC, uD, uE, reduceIte, reduceCtorEq, uF, uG, uH, b514, his525, hws525, c535, g535, c540a, c540b, c540n, g540, c541, k542, a543]
      exact hNs525 (s525 ++ [e540]) (g525 + 1) h (weakL (by simp -implicitDefEqProofs only [go_sem, uA, uB, uC, uD, uE, reduceIte, reduceCtorEq, uF, uG, uH, b514, his525, hws525, c535, g535, c540a, c540b, c540n, g540, c541, k542, a543] <;> ((repeat' apply And.intro) <;> rfl)))
    · intro i525 s525 g525 Rs525 hes525 h
      have hns525 : ¬ (i525 < a1.nodes.length) := by omega
      try dsimp only at h
      obtain ⟨fus553, h⟩ := chk_s h
      unfold fuel at fus553
      try simp -implicitDefEqProofs only [go_sem, uA, uB, uC, uD, uE, reduceIte, reduceCtorEq, uF, uG, uH, b514, hns525]
      refine forN_go (fun x : (Nat × ((List Edge))) × (Nat) => envL [(2, .ptr 2 0), (3, .ptr 3 0), (4, .ptr 4 0), (5, .ptr 5 0), (8, .ptr 8 0), (41, .p (.lst (a1.edges.map encI))), (42, .p (.val (.int .i64 ((a1.edges.length : Nat) : Int)))), (43, .p (.val (.int .i64 ((x.1.1 : Nat) : Int))))]) (fun x => heapL [(2, .box [.p (.lst (a0.nodes.map encI)), .p (.lst (a0.edges.map encEdge))]), (3, .box [.p (.lst (a1.nodes.map encI)), .p (.lst (a1.edges.map encI))]), (4, .box [.p (.val (.slice none 0 0)), .p (.val (.slice none 0 0))]), (5, .box [.p (.val (.slice none 0 0)), .p (.val (.slice none 0 0))]), (8, .box [.row 2523 g525, .row 2551 x.2]), (2523, .row g525 3 1 (s525.map encI)), (2551, .row x.2 73 3 (x.1.2.map encEdge))]) 0 h (by refine Weak.trans (weak_nilbox 8 1 2551 73 3 _ rfl rfl rfl (by decide)) ?_; exact (weakL (by simp -implicitDefEqProofs only [go_sem, uA, uB, uC, uD, uE, reduceIte, reduceCtorEq, uF, uG, uH, b514, hns525] <;> ((repeat' apply And.intro) <;> rfl)))) ?_ ?_
      · intro i553 s553 g553 nxts553 Rs553 his553 hNs553 h
        have hws553 := wrap_succ (k := i553) his553 (by omega)
        try dsimp only at h
        obtain ⟨e561, c561, g561, q561, h⟩ := idx_s encI h
        obtain ⟨e562, c562a, c562b, g562, q562, h⟩ := atZ_s encEdge h
        have c562n := toNat_lt c562a c562b
        obtain ⟨r563, hr563, h⟩ := thn_s h
        try simp -implicitDefEqProofs only [go_sem, uA, uB, uC, uD, uE, reduceIte, reduceCtorEq, uF, uG, uH, b514, hns525, his553, hws553, c561, g561, c562a, c562b, c562n, g562]
        refine callG (w_slices_BinarySearch_int a1.nodes e562.src r563 hr563) (by simp -implicitDefEqProofs only [go_sem, uA, uB, uC, uD, uE, reduceIte, reduceCtorEq, uF, uG, uH, b514, hns525, his553, hws553, c561, g561, c562a, c562b, c562n, g562] <;> rfl) (pleL_refl _) (by first | exact pers | exact scal rfl) ?_
        obtain ⟨r564, hr564, h⟩ := thn_s h
        try simp -implicitDefEqProofs only [go_sem, uA, uB, uC, uD, uE, reduceIte, reduceCtorEq, uF, uG, uH, b514, hns525, his553, hws553, c561, g561, c562a, c562b, c562n, g562]
        refine callG (w_slices_BinarySearch_int a1.nodes e562.dst r564 hr564) (by simp -implicitDefEqProofs only [go_sem, uA, uB, uC, uD, uE, reduceIte, reduceCtorEq, uF, uG, uH, b514, hns525, his553, hws553, c561, g561, c562a, c562b, c562n, g562] <;> rfl) (pleL_refl _) (by first | exact pers | exact scal rfl) ?_
        obtain ⟨c565, h⟩ := chk_s h
        have k566 := eq_true (show (s553.length + 1) * 24 ≤ 140737488355328 by omega)
        have a567 := map_apps encEdge s553 [(⟨e562.type, r563.1, r564.1⟩ : Edge)] (c := [[.val (.int .i64 e562.type), .val (.int .i64 r563.1), .val (.int .i64 r564.1)]]) rfl
        try simp -implicitDefEqProofs only [go_sem, uA, uB, uC, uD, uE, reduceIte, reduceCtorEq, uF, uG, uH, b514, hns525, his553, hws553, c561, g561, c562a, c562b, c562n, g562, c565, k566, a567]
        exact hNs553 (s553 ++ [(⟨e562.type, r563.1, r564.1⟩ : Edge)]) (g553 + 1) h (weakL (by simp -implicitDefEqProofs only [go_sem, uA, uB, uC, uD, uE, reduceIte, reduceCtorEq, uF, uG, uH, b514, hns525, his553, hws553, c561, g561, c562a, c562b, c562n, g562, c565, k566, a567] <;> ((repeat' apply And.intro) <;> rfl)))
      · intro i553 s553 g553 Rs553 hes553 h
        have hns553 : ¬ (i553 < a1.edges.length) := by omega
        try dsimp only at h
        try simp -implicitDefEqProofs only [go_sem, uA, uB, uC, uD, uE, reduceIte, reduceCtorEq, uF, uG, uH, b514, hns525, hns553]
        refine draw_my [(0, .q), (1, .q), (2, .q), (4, .q), (5, .q), (3, .f), (6, .f), (7, .p), (8, .w), (9, .w), (10, .q)] (by kernel_rfl) ?_
        obtain ⟨r568, hr568, h⟩ := thn_s h
        try simp -implicitDefEqProofs only [go_sem, uA, uB, uC, uD, uE, reduceIte, reduceCtorEq, uF, uG, uH, b514, hns525, hns553]
        refine calldfG 2280 (w_slices_Clone_int a1.nodes r568 hr568) (by simp -implicitDefEqProofs only [go_sem, uA, uB, uC, uD, uE, reduceIte, reduceCtorEq, uF, uG, uH, b514, hns525, hns553] <;> rfl) (pleL_refl _) (by first | exact persF | exact flatF rfl | exact flatF (by simp [RV.flat, RV.flatL, PV.scalar, isVal, encI])) (by simp -implicitDefEqProofs only [go_sem, uA, uB, uC, uD, uE, reduceIte, reduceCtorEq, uF, uG, uH, b514, hns525, hns553]) (by simp -implicitDefEqProofs only [go_sem, uA, uB, uC, uD, uE, reduceIte, reduceCtorEq, uF, uG, uH, b514, hns525, hns553]) ?_
        obtain ⟨r569, hr569, h⟩ := thn_s h
        try simp -implicitDefEqProofs only [go_sem, uA, uB, uC, uD, uE, reduceIte, reduceCtorEq, uF, uG, uH, b514, hns525, hns553]
        refine calldfG 2328 (w_slices_Clone_int a1.edges r569 hr569) (by simp -implicitDefEqProofs only [go_sem, uA, uB, uC, uD, uE, reduceIte, reduceCtorEq, uF, uG, uH, b514, hns525, hns553] <;> rfl) (pleL_refl _) (by first | exact persF | exact flatF rfl | exact flatF (by simp [RV.flat, RV.flatL, PV.scalar, isVal, encI])) (by simp -implicitDefEqProofs only [go_sem, uA, uB, uC, uD, uE, reduceIte, reduceCtorEq, uF, uG, uH, b514, hns525, hns553]) (by simp -implicitDefEqProofs only [go_sem, uA, uB, uC, uD, uE, reduceIte, reduceCtorEq, uF, uG, uH, b514, hns525, hns553]) ?_
        cases h
        try simp -implicitDefEqProofs only [go_sem, uA, uB, uC, uD, uE, reduceIte, reduceCtorEq, uF, uG, uH, b514, hns525, hns553]
        refine ⟨by decide, _, .refl _, ?_⟩
        simp -implicitDefEqProofs only [go_sem, uA, uB, uC, uD, uE, reduceIte, reduceCtorEq, uF, uG, uH, b514, hns525, hns553] <;> ((repeat' apply And.intro) <;> rfl)
  · replace h := cond_f h b514
    cases h
    try simp -implicitDefEqProofs only [go_sem, uA, uB, uC, uD, uE, reduceIte, reduceCtorEq, uF, uG, uH, b514]
    refine ⟨by decide, _, .refl _, ?_⟩
    simp -implicitDefEqProofs only [go_sem, uA, uB, uC, uD, uE, reduceIte, reduceCtorEq, uF, uG, uH, b514] <;> ((repeat' apply And.intro) <;> rfl)
end
end Go.Proofs.YtdlohnchnneaeaaGreat
/- Functions of the program as functions of Lean, and the walks that show them. Printed by gen.py. -/
set_option linter.unusedSimpArgs false
set_option linter.unusedVariables false
set_option maxRecDepth 20000
namespace Go.Proofs.YtdlohnchnneaeaaGreat
open Go.Abs
open Nat renaming reduceEqDiff → uA, reduceLT → uB, reduceLeDiff → uC, reduceMul → uD, reduceAdd → uE, reduceBEq → uF, reduceSub → uG
open Int renaming reduceToNat → uH

attribute [local go_sem] encAttr encEdge encEdgeT encI encInts encL_encRow encNode encPair encRow encS encStrs enc_T_A2_Int enc_T_A3_Int
noncomputable section
def f_host_Extract (a0 : Types) (a1 : Host) (a2 : Part) : Option (Host × Int) :=
  thn (f_host_valid a0 a1) fun r587 =>
  cond (decide (r587 = 0)) (
    thn (f_subgraph_Extract a1.graph a2) fun r589 =>
    cond (decide (r589.2.2 = 0)) (
      chk (a2.nodes.length ≤ fuel) <|
      forN (fun i603 (s603 : (List (List Int))) nxts603 brks603 =>
        thn (a2.nodes[i603]?) fun e615 =>
        thn (atZ a1.values e615) fun e621 =>
        thn (f_slices_Clone_int e621) fun r622 =>
        chk (s603.length + 1 ≤ 68719476736) <|
        nxts603 (s603 ++ [r622]))
      (a2.nodes.length - 0) 0 ([] : List (List Int)) fun s603 =>
      some ((⟨r589.1, s603⟩ : Host), 0)) <|
    some ((⟨(⟨([] : List Int), ([] : List Edge)⟩ : Graph), ([] : List (List Int))⟩ : Host), r589.2.2)) <|
  some ((⟨(⟨([] : List Int), ([] : List Edge)⟩ : Graph), ([] : List (List Int))⟩ : Host), r587)
set_option maxHeartbeats 4000000 in
theorem w_host_Extract (a0 : Types) (a1 : Host) (a2 : Part) (r : Host × Int) (h : f_host_Extract a0 a1 a2 = some r) : CallF Go.Proofs.Tryz.prog 52 [.agg [.lst (a0.nodes.map encNode), .lst (a0.edges.map encEdgeT)], .agg [.lst (a1.graph.nodes.map encI), .lst (a1.graph.edges.map encEdge), .lst (a1.values.map encRow)], .agg [.lst (a2.nodes.map encI), .lst (a2.edges.map encI)]] (fun v => v = .tup [.agg [.row 3 1 (r.1.graph.nodes.map encI), .row 73 3 (r.1.graph.edges.map encEdge), .row 26 1 (r.1.values.map encRow)], .p (.val (.int .i64 r.2))]) := by
  refine CallF.rle ?_
  refine callF_of_cw [52] Ty.mixed Go.Proofs.Tryz.func52 rfl (by kernel_rfl) (by simp [Go.Proofs.Tryz.ntmps52]) ?_; rw [Go.Proofs.Tryz.ntmps52, Go.Proofs.Tryz.results52]
  unfold f_host_Extract at h
  obtain ⟨r587, hr587, h⟩ := thn_s h
  try simp -implicitDefEqProofs only [go_sem, uA, uB, uC, uD, uE, reduceIte, reduceCtorEq, uF, uG, uH]
  refine callG (w_host_valid a0 a1 r587 hr587) (by simp -implicitDefEqProofs only [go_sem, uA, uB, uC, uD, uE, reduceIte, reduceCtorEq, uF, uG, uH] <;> rfl) (pleL_refl _) (by first | exact pers | exact scal rfl) ?_
  try simp -implicitDefEqProofs only [go_sem, uA, uB, uC, uD, uE, reduceIte, reduceCtorEq, uF, uG, uH]
  refine condC_splitN (fun b588 => ?_) (fun b588 => ?_)
  · replace h := cond_t h b588
    obtain ⟨r589, hr589, h⟩ := thn_s h
    try simp -implicitDefEqProofs only [go_sem, uA, uB, uC, uD, uE, reduceIte, reduceCtorEq, uF, uG, uH, b588]
    refine callfG 1416 (w_subgraph_Extract a1.graph a2 r589 hr589) (by simp -implicitDefEqProofs only [go_sem, uA, uB, uC, uD, uE, reduceIte, reduceCtorEq, uF, uG, uH, b588] <;> rfl) (pleL_refl _) (by first | exact persF | exact flatF rfl | exact flatF (by simp [RV.flat, RV.flatL, PV.scalar, isVal, encI, encEdge, encI, encI])) (by simp -implicitDefEqProofs only [go_sem, uA, uB, uC, uD, uE, reduceIte, reduceCtorEq, uF, uG, uH, b588]) ?_
    try simp -implicitDefEqProofs only [go_sem, uA, uB, uC, uD, uE, reduceIte, reduceCtorEq, uF, uG, uH, b588]
    refine condC_splitN (fun b590 => ?_) (fun b590 => ?_)
    · replace h := cond_t h b590
      obtain ⟨fus603, h⟩ := chk_s h
      unfold fuel at fus603
      try simp -implicitDefEqProofs only [go_sem, uA, uB, uC, uD, uE, reduceIte, reduceCtorEq, uF, uG, uH, b588, b590]
      refine forN_go (fun x : (Nat × ((List (List Int)))) × (Nat) => envL [(4, .ptr 4 0), (6, .ptr 6 0), (12, .ptr 12 0), (37, .p (.lst (a2.nodes.map encI))), (38, .p (.val (.int .i64 ((a2.nodes.length : Nat) : Int)))), (39, .p (.val (.int .i64 ((x.1.1 : Nat) : Int))))]) (fun x => heapL [(4, .box [.p (.lst (a1.graph.nodes.map encI)), .p (.lst (a1.graph.edges.map encEdge)), .p (.lst (a1.values.map encRow))]), (6, .box [.p (.val (.slice none 0 0)), .p (.val (.slice none 0 0)), .p (.val (.slice none 0 0))]), (12, .box [.row 1416 0, .row 1417 0, .row 2601 x.2]), (1416, .row 0 3 1 (r589.1.nodes.map encI)), (1417, .row 0 73 3 (r589.1.edges.map encEdge)), (2601, .row x.2 26 1 (x.1.2.map encRow))]) 0 h (by refine Weak.trans (weak_nilbox 12 2 2601 26 1 _ rfl rfl rfl (by decide)) ?_; exact (weakL (by simp -implicitDefEqProofs only [go_sem, uA, uB, uC, uD, uE, reduceIte, reduceCtorEq, uF, uG, uH, b588, b590] <;> ((repeat' apply And.intro) <;> rfl)))) ?_ ?_
      · intro i603 s603 g603 nxts603 Rs603 his603 hNs603 h
        have hws603 := wrap_succ (k := i603) his603 (by omega)
        try dsimp only at h
        obtain ⟨e615, c615, g615, q615, h⟩ := idx_s encI h
        try simp -implicitDefEqProofs only [go_sem, uA, uB, uC, uD, uE, reduceIte, reduceCtorEq, uF, uG, uH, b588, b590, his603, hws603, c615, g615]
        refine draw_my [(0, .p), (2, .q), (3, .q), (4, .q), (5, .q), (6, .q), (7, .q), (8, .p), (1, .q), (9, .w), (10, .q), (11, .w)] (by kernel_rfl) ?_
        obtain ⟨e621, c621a, c621b, g621, q621, h⟩ := atZ_s encRow h
        have c621n := toNat_lt c621a c621b
        obtain ⟨r622, hr622, h⟩ := thn_s h
        try simp -implicitDefEqProofs only [go_sem, uA, uB, uC, uD, uE, reduceIte, reduceCtorEq, uF, uG, uH, b588, b590, his603, hws603, c615, g615, c621a, c621b, c621n, g621]
        refine calldG (show CallV _ _ _ (fun v => v = .lst (r622.map encI)) from (w_slices_Clone_int e621 r622 hr622).toV1) (by simp -implicitDefEqProofs only [go_sem, uA, uB, uC, uD, uE, reduceIte, reduceCtorEq, uF, uG, uH, b588, b590, his603, hws603, c615, g615, c621a, c621b, c621n, g621] <;> rfl) (pleL_refl _) (by first | exact pers | exact scal rfl) ?_
        obtain ⟨c623, h⟩ := chk_s h
        have k624 := eq_true (show (s603.length + 1) * 24 ≤ 140737488355328 by omega)
        have a625 := map_apps encRow s603 [r622] (c := [[.lst (r622.map encI)]]) rfl
        try simp -implicitDefEqProofs only [go_sem, uA, uB, uC, uD, uE, reduceIte, reduceCtorEq, uF, uG, uH, b588, b590, his603, hws603, c615, g615, c621a, c621b, c621n, g621, c623, k624, a625]
        exact hNs603 (s603 ++ [r622]) (g603 + 1) h (weakL (by simp -implicitDefEqProofs only [go_sem, uA, uB, uC, uD, uE, reduceIte, reduceCtorEq, uF, uG, uH, b588, b590, his603, hws603, c615, g615, c621a, c621b, c621n, g621, c623, k624, a625] <;> ((repeat' apply And.intro) <;> rfl)))
      · intro i603 s603 g603 Rs603 hes603 h
        have hns603 : ¬ (i603 < a2.nodes.length) := by omega
        try dsimp only at h
        cases h
        try simp -implicitDefEqProofs only [go_sem, uA, uB, uC, uD, uE, reduceIte, reduceCtorEq, uF, uG, uH, b588, b590, hns603]
        refine ⟨by decide, _, .refl _, ?_⟩
        simp -implicitDefEqProofs only [go_sem, uA, uB, uC, uD, uE, reduceIte, reduceCtorEq, uF, uG, uH, b588, b590, hns603] <;> ((repeat' apply And.intro) <;> rfl)
    · replace h := cond_f h b590
      cases h
      try simp -implicitDefEqProofs only [go_sem, uA, uB, uC, uD, uE, reduceIte, reduceCtorEq, uF, uG, uH, b588, b590]
      refine ⟨by decide, _, .refl _, ?_⟩
      simp -implicitDefEqProofs only [go_sem, uA, uB, uC, uD, uE, reduceIte, reduceCtorEq, uF, uG, uH, b588, b590] <;> ((repeat' apply And.intro) <;> rfl)
  · replace h := cond_f h b588
    cases h
    try simp -implicitDefEqProofs only [go_sem, uA, uB, uC, uD, uE, reduceIte, reduceCtorEq, uF, uG, uH, b588]
    refine ⟨by decide, _, .refl _, ?_⟩
    simp -implicitDefEqProofs only [go_sem, uA, uB, uC, uD, uE, reduceIte, reduceCtorEq, uF, uG, uH, b588] <;> ((repeat' apply And.intro) <;> rfl)
end
end Go.Proofs.YtdlohnchnneaeaaGreat
