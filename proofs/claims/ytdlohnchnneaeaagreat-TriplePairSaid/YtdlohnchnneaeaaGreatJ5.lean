/- Joined texts, part 5: lemmas for the statement. No condition. -/
import Derived.Test.YtdlohnchnneaeaaGreatJ2
import Derived.Test.YtdlohnchnneaeaaGreatJ4
import Derived.Shelf.Spec.SlicesGrow
import Derived.Test.YtdlohnchnneaeaaGreatJ1
import Derived.Ground.Names8Prog
import Derived.Test.YtdlohnchnneaeaaGreatProg
import Derived.Test.YtdlohnchnneaeaaGreatJ3
import Derived.ChangeArms
import Derived.SizedLaws
import Derived.OpenShut
import Derived.ProofKit
import Derived.Carry
import Derived.Test.YtdlohnchnneaeaaGreatRows
set_option linter.unusedSimpArgs false
set_option linter.unusedVariables false
open Nat (reduceEqDiff reduceLT reduceLeDiff reduceMul reduceAdd reduceSub)
/- Functions that stand for code: steps that keep the function and the walk together. Program-independent. -/
namespace Go.Abs
open Go.RowKit

def chk {α : Type} (p : Prop) [Decidable p] (x : Option α) : Option α := if p then x else none
def thn {α β : Type} (x : Option α) (k : α → Option β) : Option β := match x with
  | some a => k a
  | none => none
def atZ {α : Type} (l : List α) (i : Int) : Option α := if 0 ≤ i then l[i.toNat]? else none
theorem chk_s {α : Type} {p : Prop} [Decidable p] {x : Option α} {r : α} (h : chk p x = some r) : p ∧ x = some r := by
  unfold chk at h
  split at h
  · exact ⟨by assumption, h⟩
  · cases h
theorem thn_s {α β : Type} {x : Option α} {k : α → Option β} {r : β} (h : thn x k = some r) : ∃ a, x = some a ∧ k a = some r := by
  unfold thn at h
  split at h
  · exact ⟨_, rfl, h⟩
  · cases h
theorem cond_t {α : Type} {b : Bool} {x y : Option α} {r : α} (h : cond b x y = some r) (hb : b = true) : x = some r := by subst hb; exact h
theorem cond_f {α : Type} {b : Bool} {x y : Option α} {r : α} (h : cond b x y = some r) (hb : b = false) : y = some r := by subst hb; exact h
theorem idx_s {α β : Type} {l : List α} {i : Nat} {k : α → Option β} {r : β} (f : α → List PV) (h : thn l[i]? k = some r) : ∃ a, i < l.length ∧ (l.map f).getD i [] = f a ∧ l[i]? = some a ∧ k a = some r := by
  obtain ⟨a, h1, h2⟩ := thn_s h
  exact ⟨a, (List.getElem?_eq_some_iff.1 h1).1, by simp [h1], h1, h2⟩
theorem atZ_s {α β : Type} {l : List α} {i : Int} {k : α → Option β} {r : β} (f : α → List PV) (h : thn (atZ l i) k = some r) :
    ∃ a, 0 ≤ i ∧ i < (l.length : Int) ∧ (l.map f).getD i.toNat [] = f a ∧ atZ l i = some a ∧ k a = some r := by
  obtain ⟨a, h1, h2⟩ := thn_s h
  have h1' := h1
  unfold atZ at h1
  split at h1
  · rename_i h0
    have := (List.getElem?_eq_some_iff.1 h1).1
    exact ⟨a, h0, by omega, by simp [h1], h1', h2⟩
  · cases h1
theorem map_len {α : Type} {f : α → List PV} {n : Nat} (h : ∀ a, (f a).length = n) (l : List α) : ∀ x ∈ l.map f, x.length = n := by
  intro x hx
  obtain ⟨a, _, rfl⟩ := List.mem_map.1 hx
  exact h a
theorem map_take' {α β : Type} (f : α → β) (l : List α) (n : Nat) : (l.map f).take n = (l.take n).map f := (List.map_take ..).symm
theorem map_drop' {α β : Type} (f : α → β) (l : List α) (n : Nat) : (l.map f).drop n = (l.drop n).map f := (List.map_drop ..).symm
theorem map_app' {α β : Type} (f : α → β) (l m : List α) : l.map f ++ m.map f = (l ++ m).map f := (List.map_append ..).symm
theorem map_apps {α β : Type} (f : α → β) (l m : List α) {c : List β} (h : m.map f = c) : l.map f ++ c = (l ++ m).map f := by rw [List.map_append, h]
attribute [go_sem] map_take' map_drop' map_app' List.take_length List.length_set List.length_replicate List.set_cons_zero List.set_cons_succ Nat.le_refl Nat.not_lt_zero Nat.zero_le Nat.zero_lt_succ decide_true decide_false Bool.not_not

/-! ### nil read as an empty list -/
mutual
def pleP : PV → PV → Prop
  | .val (.slice none 0 0), .lst es => es = []
  | .emp, .lst es => es = []
  | .agg a, .agg b => pleL a b
  | .tup a, .tup b => pleL a b
  | a, b => a = b
def pleL : List PV → List PV → Prop
  | [], [] => True
  | a :: r, b :: s => pleP a b ∧ pleL r s
  | _, _ => False
end
mutual
theorem pleP_ok : ∀ (a b : PV), pleP a b → PLe a b := by
  intro a b h
  unfold pleP at h
  split at h
  · subst h; exact .nil
  · subst h; exact .emp
  · exact .agg (pleL_ok _ _ h)
  · exact .tup (pleL_ok _ _ h)
  · subst h; exact .refl _
theorem pleL_ok : ∀ (a b : List PV), pleL a b → PLes a b
  | [], [], _ => trivial
  | a :: r, b :: s, h => ⟨pleP_ok a b (by unfold pleL at h; exact h.1), pleL_ok r s (by unfold pleL at h; exact h.2)⟩
  | [], _ :: _, h => by unfold pleL at h; exact h
  | _ :: _, [], h => by unfold pleL at h; exact h
end
theorem CallV.ple {P : Program} {f : FuncId} {args : List PV} {t : PV} (h : CallV P f args (fun v => pleP v t)) : CallV P f args (fun v => v = t) :=
  h.le fun r hr => ⟨t, pleP_ok r t hr, rfl⟩
mutual
def rleP : RV → RV → Prop
  | .p (.val (.slice none 0 0)), .row _ sz es => es = [] ∧ 0 < sz
  | .p (.val (.slice none 0 0)), .p (.lst es) => es = []
  | .agg a, .agg b => rleL a b
  | .tup a, .tup b => rleL a b
  | .p (.agg a), .agg b => rleX a b
  | a, b => a = b
def rleL : List RV → List RV → Prop
  | [], [] => True
  | a :: r, b :: s => rleP a b ∧ rleL r s
  | _, _ => False
def rleX : List PV → List RV → Prop
  | [], [] => True
  | a :: r, b :: s => rleP (.p a) b ∧ rleX r s
  | _, _ => False
end

theorem RVR.nilRow {w : World} {B : Nat} {J : Mem} {u : Value} {bs : List Nat} (e : TypeId) {sz : Nat} (hsz : 0 < sz) (h : RVR w B J u (.p (.val (.slice none 0 0))) bs) : RVR w B J u (.row e sz []) bs :=
  (RLe.nil e sz hsz).sound h
theorem RVR.nilLst {w : World} {B : Nat} {J : Mem} {u : Value} {bs : List Nat} (h : RVR w B J u (.p (.val (.slice none 0 0))) bs) : RVR w B J u (.p (.lst [])) bs := RLe.nilp.sound h
def RLs (w : World) (B : Nat) (J : Mem) (us : List Value) (rs : List RV) (bs : List (List Nat)) : Prop :=
  us.length = rs.length ∧ us.length = bs.length ∧ ∀ (j : Nat) u r b, us[j]? = some u → rs[j]? = some r → bs[j]? = some b → RVR w B J u r b
theorem RLs.cons {w : World} {B : Nat} {J : Mem} {u : Value} {us : List Value} {r r' : RV} {rs rs' : List RV} {b : List Nat} {bs : List (List Nat)} (h : RLs w B J (u :: us) (r :: rs) (b :: bs))
    (h1 : RVR w B J u r b → RVR w B J u r' b) (h2 : RLs w B J us rs bs → RLs w B J us rs' bs) : RLs w B J (u :: us) (r' :: rs') (b :: bs) := by
  obtain ⟨a1, a2, a3⟩ := h
  obtain ⟨c1, c2, c3⟩ := h2 ⟨by simpa using a1, by simpa using a2, fun j u r b hu hr hb => a3 (j + 1) u r b (by simpa using hu) (by simpa using hr) (by simpa using hb)⟩
  refine ⟨by simpa using c1, by simpa using c2, fun j u r b hu hr hb => ?_⟩
  cases j with
  | zero => simp at hu hr hb; subst hu hr hb; exact h1 (a3 0 _ _ _ rfl rfl rfl)
  | succ j => exact c3 j u r b (by simpa using hu) (by simpa using hr) (by simpa using hb)
mutual
theorem rleP_ok : ∀ (r t : RV), rleP r t → ∀ {w : World} {B : Nat} {J : Mem} {u : Value} {bs : List Nat}, RVR w B J u r bs → RVR w B J u t bs := by
  intro r t h w B J u bs hr
  unfold rleP at h
  split at h
  · obtain ⟨rfl, h2⟩ := h; exact hr.nilRow _ h2
  · subst h; exact hr.nilLst
  · cases hr with
    | agg us rs bs q1 q2 q3 q4 =>
      obtain ⟨c1, c2, c3⟩ := rleL_ok _ _ h (w := w) (B := B) (J := J) ⟨q1, q2, q3⟩
      exact .agg us _ bs c1 c2 c3 q4
  · cases hr with
    | tup us rs bs q1 q2 q3 =>
      obtain ⟨c1, c2, c3⟩ := rleL_ok _ _ h (w := w) (B := B) (J := J) ⟨q1, q2, q3⟩
      exact .tup us _ bs c1 c2 c3
  · cases hr with
    | p u x hx =>
      cases hx with
      | agg us cs q1 q2 q3 =>
        obtain ⟨c1, c2, c3⟩ := rleX_ok _ _ h (w := w) (B := B) (J := J) (us := us) ⟨q1, q2⟩
        have : ((us.map fun _ => ([] : List Nat))).flatten = [] := by simp
        have h2 := RVR.agg us _ (us.map fun _ => []) c1 c2 c3 q3
        rw [this] at h2
        exact h2
  · subst h; exact hr
termination_by r t => SizeOf.sizeOf t
theorem rleL_ok : ∀ (a b : List RV), rleL a b → ∀ {w : World} {B : Nat} {J : Mem} {us : List Value} {bs : List (List Nat)}, RLs w B J us a bs → RLs w B J us b bs
  | [], [], _, _, _, _, _, _, h => h
  | [], _ :: _, h, _, _, _, _, _, _ => by unfold rleL at h; exact h.elim
  | _ :: _, [], h, _, _, _, _, _, _ => by unfold rleL at h; exact h.elim
  | a :: r, b :: s, h, w, B, J, us, bs, hr => by
    unfold rleL at h
    match us, bs, hr with
    | u :: us, c :: bs, hr => exact hr.cons (rleP_ok a b h.1) (rleL_ok r s h.2)
    | [], _, hr => have := hr.1; simp at this
    | _ :: _, [], hr => have := hr.2.1; simp at this
termination_by a b => SizeOf.sizeOf b
theorem rleX_ok : ∀ (a : List PV) (b : List RV), rleX a b → ∀ {w : World} {B : Nat} {J : Mem} {us : List Value}, VRs J us a → RLs w B J us b (us.map fun _ => [])
  | [], [], _, _, _, _, us, h => by
    have h1 : us = [] := by have := h.1; simpa using this
    subst h1
    exact ⟨rfl, rfl, fun j u r b hu => by simp at hu⟩
  | [], _ :: _, h, _, _, _, _, _ => by unfold rleX at h; exact h.elim
  | _ :: _, [], h, _, _, _, _, _ => by unfold rleX at h; exact h.elim
  | a :: r, b :: s, h, w, B, J, us, hr => by
    unfold rleX at h
    match us, hr with
    | u :: us, hr =>
      have ih := rleX_ok r s h.2 (w := w) (B := B) (J := J) (us := us) ⟨by have := hr.1; simpa using this, fun j u c hu hc => hr.2 (j + 1) u c (by simpa using hu) (by simpa using hc)⟩
      have h1 := rleP_ok (.p a) b h.1 (w := w) (B := B) (.p u a (hr.2 0 u a rfl rfl))
      refine ⟨by simpa using ih.1, by simp, fun j u r b hu hr hb => ?_⟩
      cases j with
      | zero => simp at hu hr hb; subst hu hr hb; exact h1
      | succ j => exact ih.2.2 j u r b (by simpa using hu) (by simpa using hr) (by simpa using hb)
    | [], hr => have := hr.1; simp at this
termination_by a b => SizeOf.sizeOf b
end
theorem CallF.rle {P : Program} {f : FuncId} {args : List PV} {t : RV} (h : CallF P f args (fun v => rleP v t)) : CallF P f args (fun v => v = t) :=
  ⟨h.1, fun I w vs hI hv => (h.2 I w vs hI hv).mono fun _ _ ⟨v, r, bs, I', h1, h2, h3, h4⟩ => ⟨v, t, bs, I', h1, rfl, rleP_ok r t h2 h3, h4⟩⟩

theorem pleP_agg (a b : List PV) : pleP (.agg a) (.agg b) = pleL a b := by simp only [pleP]
theorem pleP_tup (a b : List PV) : pleP (.tup a) (.tup b) = pleL a b := by simp only [pleP]
theorem pleP_nil (es : List (List PV)) : pleP (.val (.slice none 0 0)) (.lst es) = (es = []) := by simp only [pleP]
theorem pleP_emp (es : List (List PV)) : pleP .emp (.lst es) = (es = []) := by simp only [pleP]
theorem pleP_lst (a b : List (List PV)) : pleP (.lst a) (.lst b) = (a = b) := by simp only [pleP, PV.lst.injEq]
theorem pleP_val (a b : Value) : pleP (.val a) (.val b) = (a = b) := by
  unfold pleP
  split <;> first | (rename_i h _; cases h; done) | (rename_i h; cases h; done) | simp_all
theorem pleL_nil : pleL [] [] = True := by simp only [pleL]
theorem pleL_cons (a b : PV) (r s : List PV) : pleL (a :: r) (b :: s) = (pleP a b ∧ pleL r s) := by simp only [pleL]
theorem rleP_agg (a b : List RV) : rleP (.agg a) (.agg b) = rleL a b := by simp only [rleP]
theorem rleP_tup (a b : List RV) : rleP (.tup a) (.tup b) = rleL a b := by simp only [rleP]
theorem rleP_pagg (a : List PV) (b : List RV) : rleP (.p (.agg a)) (.agg b) = rleX a b := by simp only [rleP]
theorem rleP_nilRow (e : TypeId) (sz : Nat) (es : List (List PV)) : rleP (.p (.val (.slice none 0 0))) (.row e sz es) = (es = [] ∧ 0 < sz) := by simp only [rleP]
theorem rleP_nilLst (es : List (List PV)) : rleP (.p (.val (.slice none 0 0))) (.p (.lst es)) = (es = []) := by simp only [rleP]
theorem rleP_row (e e' : TypeId) (sz sz' : Nat) (es es' : List (List PV)) : rleP (.row e sz es) (.row e' sz' es') = (e = e' ∧ sz = sz' ∧ es = es') := by simp only [rleP, RV.row.injEq]
theorem rleP_val (a b : Value) : rleP (.p (.val a)) (.p (.val b)) = (a = b) := by
  unfold rleP
  split <;> first | (rename_i h _; cases h; done) | (rename_i h; cases h; done) | simp_all
theorem rleP_lst (a b : List (List PV)) : rleP (.p (.lst a)) (.p (.lst b)) = (a = b) := by simp only [rleP, RV.p.injEq, PV.lst.injEq]
theorem rleL_nil : rleL [] [] = True := by simp only [rleL]
theorem rleL_cons (a b : RV) (r s : List RV) : rleL (a :: r) (b :: s) = (rleP a b ∧ rleL r s) := by simp only [rleL]
theorem rleX_nil : rleX [] [] = True := by simp only [rleX]
theorem rleX_cons (a : PV) (b : RV) (r : List PV) (s : List RV) : rleX (a :: r) (b :: s) = (rleP (.p a) b ∧ rleX r s) := by simp only [rleX]
attribute [go_sem] pleP_agg pleP_tup pleP_nil pleP_emp pleP_lst pleP_val pleL_nil pleL_cons rleP_agg rleP_tup rleP_pagg rleP_nilRow rleP_nilLst rleP_row rleP_val rleP_lst rleL_nil rleL_cons rleX_nil rleX_cons

/-! ### Loops -/
section
variable {σ O : Type}
def forN (f : Nat → σ → (σ → Option O) → (σ → Option O) → Option O) : Nat → Nat → σ → (σ → Option O) → Option O
  | 0, _, s, K => K s
  | k + 1, i, s, K => f i s (fun s' => forN f k (i + 1) s' K) K
def iter (f : σ → (σ → Option O) → (σ → Option O) → Option O) : Nat → σ → (σ → Option O) → Option O
  | 0, _, _ => none
  | k + 1, s, K => f s (fun s' => iter f k s' K) K
end
def fuel : Nat := 4611686018427387904

section
variable {P : Program} {N : Nat} {own : List Nat} {σ γ O : Type} {c : Code} {K : Kont} {env : Env} {H : AHeap}
def loopG (R : Env → AHeap → Prop) (K : Kont) : Kont := fun e env H => match e with
  | .normal => R env H
  | e => K e env H
theorem loopG_normal {R : Env → AHeap → Prop} : loopG R K .normal env H = R env H := rfl
theorem loopG_exit {R : Env → AHeap → Prop} {id : Nat} : loopG R K (.exit id) env H = K (.exit id) env H := rfl
theorem loopG_ret {R : Env → AHeap → Prop} : loopG R K .ret env H = K .ret env H := rfl
attribute [go_sem] loopG_normal loopG_exit loopG_ret

def nextG (inv : σ × γ → Env) (invH : σ × γ → AHeap) (Nx : σ → Prop) (e : Env) (H : AHeap) : Prop := ∃ s' g, Nx s' ∧ Weak e H (inv (s', g)) (invH (s', g))
theorem nextG_mk {inv : σ × γ → Env} {invH : σ × γ → AHeap} {Nx : σ → Prop} {e : Env} {H : AHeap} (s' : σ) (g : γ) (h : Nx s') (hw : Weak e H (inv (s', g)) (invH (s', g))) : nextG inv invH Nx e H := ⟨s', g, h, hw⟩
theorem loopG_eq {R R' : Env → AHeap → Prop} (h : ∀ e H, R e H ↔ R' e H) : loopG R K = (fun z e' H' => match z with
    | .normal => R' e' H'
    | z => K z e' H') := by
  funext z e' H'
  cases z <;> first | rfl | exact propext (h e' H')

theorem iter_loop {f : σ → (σ → Option O) → (σ → Option O) → Option O} {Kf : σ → Option O} {r : O} (inv : σ × γ → Env) (invH : σ × γ → AHeap) (g0 : γ) {k : Nat} {s : σ} (h : iter f k s Kf = some r)
    (hw : Weak env H (inv (s, g0)) (invH (s, g0)))
    (hr : ∀ s g (nxt : σ → Option O) (Nx : σ → Prop), (∀ s', nxt s' = some r → Nx s') → f s nxt Kf = some r → cw P N own c (loopG (nextG inv invH Nx) K) (inv (s, g)) (invH (s, g))) : loopC P N own c K env H := by
  refine ⟨fun n e H => ∃ s g, iter f n s Kf = some r ∧ e = inv (s, g) ∧ H = invH (s, g), ⟨k, _, _, ⟨s, g0, h, rfl, rfl⟩, hw⟩, ?_⟩
  rintro n e H ⟨s, g, hs, rfl, rfl⟩
  cases n with
  | zero => cases hs
  | succ n =>
    have := hr s g _ (fun s' => ∃ m, m < n + 1 ∧ iter f m s' Kf = some r) (fun s' h' => ⟨n, Nat.lt_succ_self n, h'⟩) hs
    rw [loopG_eq (R' := fun e' H' => ∃ m e2 H2, m < n + 1 ∧ (∃ s g, iter f m s Kf = some r ∧ e2 = inv (s, g) ∧ H2 = invH (s, g)) ∧ Weak e' H' e2 H2)] at this
    · exact this
    · intro e' H'
      constructor
      · rintro ⟨s', g', ⟨m, h1, h2⟩, h3⟩
        exact ⟨m, _, _, h1, ⟨s', g', h2, rfl, rfl⟩, h3⟩
      · rintro ⟨m, e2, H2, h1, ⟨s', g', h2, rfl, rfl⟩, h3⟩
        exact ⟨s', g', ⟨m, h1, h2⟩, h3⟩

theorem forN_loop {f : Nat → σ → (σ → Option O) → (σ → Option O) → Option O} {Kf : σ → Option O} {r : O} (inv : (Nat × σ) × γ → Env) (invH : (Nat × σ) × γ → AHeap) (g0 : γ) {n i : Nat} {s : σ} (h : forN f (n - i) i s Kf = some r)
    (hw : Weak env H (inv ((i, s), g0)) (invH ((i, s), g0)))
    (hr : ∀ j s g (nxt : σ → Option O) (Nx : Nat × σ → Prop), j < n → (∀ s', nxt s' = some r → Nx (j + 1, s')) → f j s nxt Kf = some r → cw P N own c (loopG (nextG inv invH Nx) K) (inv ((j, s), g)) (invH ((j, s), g)))
    (he : ∀ j s g (Nx : Nat × σ → Prop), n ≤ j → Kf s = some r → cw P N own c (loopG (nextG inv invH Nx) K) (inv ((j, s), g)) (invH ((j, s), g))) : loopC P N own c K env H := by
  refine ⟨fun m e H => ∃ (x : Nat × σ) (g : γ), (n - x.1 = m ∧ forN f (n - x.1) x.1 x.2 Kf = some r) ∧ e = inv (x, g) ∧ H = invH (x, g), ⟨n - i, _, _, ⟨(i, s), g0, ⟨rfl, h⟩, rfl, rfl⟩, hw⟩, ?_⟩
  rintro m e H ⟨⟨j, s⟩, g, ⟨hm, hs⟩, rfl, rfl⟩
  have key : ∀ R : Nat × σ → Prop, (∀ x, R x ↔ n - x.1 < m ∧ forN f (n - x.1) x.1 x.2 Kf = some r) → ∀ e' H', nextG inv invH R e' H' ↔ ∃ m' e2 H2, m' < m ∧ (∃ (x : Nat × σ) (g : γ), (n - x.1 = m' ∧ forN f (n - x.1) x.1 x.2 Kf = some r) ∧ e2 = inv (x, g) ∧ H2 = invH (x, g)) ∧ Weak e' H' e2 H2 := by
    intro R hR e' H'
    constructor
    · rintro ⟨x, g', h1, h3⟩
      obtain ⟨h1, h2⟩ := (hR x).1 h1
      exact ⟨_, _, _, h1, ⟨x, g', ⟨rfl, h2⟩, rfl, rfl⟩, h3⟩
    · rintro ⟨m', e2, H2, h1, ⟨x, g', ⟨h4, h2⟩, rfl, rfl⟩, h3⟩
      exact ⟨x, g', (hR x).2 ⟨by omega, h2⟩, h3⟩
  simp only at hm hs
  by_cases hj : j < n
  · obtain ⟨k, hk⟩ : ∃ k, n - j = k + 1 := ⟨n - j - 1, by omega⟩
    have hk' : n - (j + 1) = k := by omega
    rw [hk] at hs
    have := hr j s g _ (fun x => n - x.1 < m ∧ forN f (n - x.1) x.1 x.2 Kf = some r) hj (fun s' h' => ⟨by simp only; omega, by simp only [hk']; exact h'⟩) hs
    rw [loopG_eq (key _ fun x => Iff.rfl)] at this
    exact this
  · have h0 : n - j = 0 := by omega
    rw [h0] at hs
    have := he j s g (fun x => n - x.1 < m ∧ forN f (n - x.1) x.1 x.2 Kf = some r) (by omega) hs
    rw [loopG_eq (key _ fun x => Iff.rfl)] at this
    exact this
end

theorem iter_go {P : Program} {N : Nat} {own : List Nat} {σ γ O : Type} {c : Code} {K : Kont} {env : Env} {H : AHeap} {f : σ → (σ → Option O) → (σ → Option O) → Option O} {Kf : σ → Option O} {r : O} (inv : σ × γ → Env) (invH : σ × γ → AHeap) (g0 : γ) {k : Nat} {s : σ} (h : iter f k s Kf = some r)
    (hw : Weak env H (inv (s, g0)) (invH (s, g0)))
    (hr : ∀ s g (nxt : σ → Option O) (R : Env → AHeap → Prop), (∀ s' g' {e H}, nxt s' = some r → Weak e H (inv (s', g')) (invH (s', g')) → R e H) → f s nxt Kf = some r → cw P N own c (loopG R K) (inv (s, g)) (invH (s, g))) : loopC P N own c K env H :=
  iter_loop inv invH g0 h hw fun s g nxt Nx hN hf => hr s g nxt _ (fun s' g' _ _ h1 h2 => nextG_mk s' g' (hN s' h1) h2) hf
theorem forN_go {P : Program} {N : Nat} {own : List Nat} {σ γ O : Type} {c : Code} {K : Kont} {env : Env} {H : AHeap} {f : Nat → σ → (σ → Option O) → (σ → Option O) → Option O} {Kf : σ → Option O} {r : O} (inv : (Nat × σ) × γ → Env) (invH : (Nat × σ) × γ → AHeap) (g0 : γ) {n i : Nat} {s : σ} (h : forN f (n - i) i s Kf = some r)
    (hw : Weak env H (inv ((i, s), g0)) (invH ((i, s), g0)))
    (hr : ∀ j s g (nxt : σ → Option O) (R : Env → AHeap → Prop), j < n → (∀ s' g' {e H}, nxt s' = some r → Weak e H (inv ((j + 1, s'), g')) (invH ((j + 1, s'), g')) → R e H) → f j s nxt Kf = some r → cw P N own c (loopG R K) (inv ((j, s), g)) (invH ((j, s), g)))
    (he : ∀ j s g (R : Env → AHeap → Prop), n ≤ j → Kf s = some r → cw P N own c (loopG R K) (inv ((j, s), g)) (invH ((j, s), g))) : loopC P N own c K env H :=
  forN_loop inv invH g0 h hw (fun j s g nxt Nx hj hN hf => hr j s g nxt _ hj (fun s' g' _ _ h1 h2 => nextG_mk (j + 1, s') g' (hN s' h1) h2) hf) (fun j s g Nx hj hk => he j s g _ hj hk)

/-! ### Arguments that are nil -/
section
variable {P : Program} {env : Env} {H : AHeap} {o : Oper} {W : Env → AHeap → Prop} {k : FuncId} {ps ps' : List PV} {b : Bool}
theorem CallF.args {f : FuncId} {ps ps' : List PV} {Q : RV → Prop} (h : CallF P f ps Q) (hp : PLes ps' ps) : CallF P f ps' Q :=
  ⟨h.1, fun I w vs hI hv => h.2 I w vs hI (hp.vrs hv)⟩
theorem callG {x : PV} (c : CallV P k ps fun r => r = x) (he : callPs o (ev env) H = some (k, ps', b)) (hp : pleL ps' ps) (hb : b = true → x.scalar = true)
    (hW : W (putA env o.dst (.p x)) H) : callK P o W env H := call_go (c.args (pleL_ok _ _ hp)) he hb hW
theorem calldG {x : PV} (c : CallV P k ps fun r => r = x) (he : callPs o (ev env) H = some (k, ps', b)) (hp : pleL ps' ps) (hb : b = true → x.scalar = true)
    (hW : W (putA env o.dst (.p x)) H) : callD P o W env H := calld_go (c.args (pleL_ok _ _ hp)) he hb hW
end

/-! ### Arrays -/
section
variable {P : Program} {t : TypeId} {kk : IntKind} {n : Int} {H : AHeap}
def idxA (a : Option (Nat × TypeId)) (f : TypeId → Option Nat) (n : Int) (mk : Nat → AV) (H : AHeap) : Option (Prop × AV × AHeap) := match a with
  | some (len, e) => (match f e with
    | some sz => some (0 ≤ n ∧ n < len, mk (n.toNat * sz), H)
    | none => none)
  | none => none
theorem indexM_eptr {cs : List PV} {off : Nat} : indexM P t (.p (.eptr cs off)) (.p (.val (.int kk n))) H = idxA (arrOf P t) (tySize P) n (fun o => .p (.eptr cs (off + o))) H := by
  unfold indexM indexP idxA up3
  cases arrOf P t with
  | none => rfl
  | some r => obtain ⟨len, e⟩ := r; simp only; cases tySize P e <;> rfl
theorem indexM_ptr {id off : Nat} : indexM P t (.ptr id off) (.p (.val (.int kk n))) H = idxA (arrOf P t) (tySize P) n (fun o => .ptr id (off + o)) H := by
  unfold indexM indexP idxA up3
  cases arrOf P t with
  | none => rfl
  | some r => obtain ⟨len, e⟩ := r; simp only; cases tySize P e <;> rfl
theorem idxA_some {len : Nat} {e : TypeId} {f : TypeId → Option Nat} {mk : Nat → AV} : idxA (some (len, e)) f n mk H = (match f e with
    | some sz => some (0 ≤ n ∧ n < len, mk (n.toNat * sz), H)
    | none => none) := rfl
attribute [go_sem] indexM_eptr indexM_ptr idxA_some
end
/-! ### Forgetting, with lists -/
mutual
def subA : AV → AV → Prop
  | .p a, .p b => pleP a b
  | .agg a, .agg b => subAL a b
  | .tup a, .tup b => subAL a b
  | a, b => a = b
def subAL : List AV → List AV → Prop
  | [], [] => True
  | a :: r, b :: s => subA a b ∧ subAL r s
  | _, _ => False
end
theorem subA_p (a b : PV) : subA (.p a) (.p b) = pleP a b := by simp only [subA]
theorem subA_row (i v j u : Nat) : subA (.row i v) (.row j u) = (i = j ∧ v = u) := by simp only [subA, AV.row.injEq]
theorem subA_ptr (i v j u : Nat) : subA (.ptr i v) (.ptr j u) = (i = j ∧ v = u) := by simp only [subA, AV.ptr.injEq]
theorem subA_clo (f g : Fn) (a b c d : List AV) : subA (.clo f a b) (.clo g c d) = (f = g ∧ a = c ∧ b = d) := by simp only [subA, AV.clo.injEq]
theorem subA_rptr (i v j o i' v' j' o' : Nat) : subA (.rptr i v j o) (.rptr i' v' j' o') = (i = i' ∧ v = v' ∧ j = j' ∧ o = o') := by simp only [subA, AV.rptr.injEq]
theorem subA_agg (a b : List AV) : subA (.agg a) (.agg b) = subAL a b := by simp only [subA]
theorem subA_tup (a b : List AV) : subA (.tup a) (.tup b) = subAL a b := by simp only [subA]
theorem subAL_nil : subAL [] [] = True := by simp only [subAL]
theorem subAL_cons (a b : AV) (r s : List AV) : subAL (a :: r) (b :: s) = (subA a b ∧ subAL r s) := by simp only [subAL]

theorem subAL_get : ∀ {as' bs : List AV}, subAL as' bs → as'.length = bs.length ∧ ∀ (j : Nat) a b, as'[j]? = some a → bs[j]? = some b → subA a b
  | [], [], _ => ⟨rfl, fun j a b h => by simp at h⟩
  | a :: r, b :: s, h => by
    unfold subAL at h
    obtain ⟨h1, h2⟩ := subAL_get h.2
    refine ⟨by simp [h1], fun j x y hx hy => ?_⟩
    cases j with
    | zero => simp at hx hy; subst hx hy; exact h.1
    | succ j => exact h2 j x y (by simpa using hx) (by simpa using hy)
  | [], _ :: _, h => by unfold subAL at h; exact h.elim
  | _ :: _, [], h => by unfold subAL at h; exact h.elim

theorem subA_ok {I : Mem} {L : LocMap} {u : Value} {a : AV} (h : AVR I L u a) : ∀ {b : AV}, subA a b → AVR I L u b := by
  induction h with
  | p u x h =>
    intro b hb
    unfold subA at hb
    split at hb
    · rename_i e; cases e; exact .p _ _ (pleP_ok _ _ hb _ _ h)
    · rename_i e; cases e
    · rename_i e; cases e
    · subst hb; exact .p _ _ h
  | agg us cs hl hv hone ih =>
    intro b hb
    unfold subA at hb
    split at hb
    · rename_i e; cases e
    · rename_i e; cases e
      obtain ⟨q1, q2⟩ := subAL_get hb
      refine .agg us _ (hl.trans q1) (fun j u c hu hc => ?_) hone
      obtain ⟨a, ha⟩ : ∃ a, cs[j]? = some a := by
        have hj : j < us.length := (List.getElem?_eq_some_iff.1 hu).1
        exact ⟨cs[j]'(by omega), by simp [hl ▸ hj]⟩
      exact ih j u a hu ha (q2 j a c ha hc)
    · rename_i e; cases e
    · subst hb; exact .agg us cs hl hv hone
  | tup us cs hl hv ih =>
    intro b hb
    unfold subA at hb
    split at hb
    · rename_i e; cases e
    · rename_i e; cases e
    · rename_i e; cases e
      obtain ⟨q1, q2⟩ := subAL_get hb
      refine .tup us _ (hl.trans q1) (fun j u c hu hc => ?_)
      obtain ⟨a, ha⟩ : ∃ a, cs[j]? = some a := by
        have hj : j < us.length := (List.getElem?_eq_some_iff.1 hu).1
        exact ⟨cs[j]'(by omega), by simp [hl ▸ hj]⟩
      exact ih j u a hu ha (q2 j a c ha hc)
    · subst hb; exact .tup us cs hl hv
  | row u id ver v hdr sz hl hle h h1 =>
    intro b hb
    unfold subA at hb
    subst hb
    exact .row u id ver v hdr sz hl hle h h1
  | ptr id b' off hl =>
    intro b hb
    unfold subA at hb
    subst hb
    exact .ptr id b' off hl
  | rptr u id ver v i off hdr sz hl hle h h1 =>
    intro b hb
    unfold subA at hb
    subst hb
    exact .rptr u id ver v i off hdr sz hl hle h h1
  | clo fn us vs fs cs hl hl' hv hv' =>
    intro b hb
    unfold subA at hb
    subst hb
    exact .clo fn us vs fs cs hl hl' hv hv'
  | dead u =>
    intro b hb
    unfold subA at hb
    subst hb
    exact .dead u

def envL : List (Nat × AV) → Env
  | [] => env0
  | (d, v) :: r => upd (envL r) d v
def heapL : List (Nat × Chunk) → AHeap
  | [] => heap0
  | (d, c) :: r => hset (heapL r) d c
theorem envL_nil : envL [] = env0 := rfl
theorem envL_cons (d : Nat) (v : AV) (r : List (Nat × AV)) : envL ((d, v) :: r) = upd (envL r) d v := rfl
theorem heapL_nil : heapL [] = heap0 := rfl
theorem heapL_cons (d : Nat) (c : Chunk) (r : List (Nat × Chunk)) : heapL ((d, c) :: r) = hset (heapL r) d c := rfl
def subE (e : Env) : List (Nat × AV) → Prop
  | [] => True
  | (d, v) :: r => subA (e d) v ∧ subE e r
def subC : Option Chunk → Chunk → Prop
  | some (.box cs), .box ds => subAL cs ds
  | some c, d => c = d
  | none, _ => False
def subH (H : AHeap) : List (Nat × Chunk) → Prop
  | [] => True
  | (d, c) :: r => subC (H d) c ∧ subH H r
def idsE (G : AHeap) : List (Nat × AV) → Prop
  | [] => True
  | (_, v) :: r => idsOk G v ∧ idsE G r
def idsC (G : AHeap) : List (Nat × Chunk) → Prop
  | [] => True
  | (_, .box cs) :: r => idsOkL G cs ∧ idsC G r
  | _ :: r => idsC G r
theorem subE_nil (e : Env) : subE e [] = True := rfl
theorem subE_cons (e : Env) (d : Nat) (v : AV) (r : List (Nat × AV)) : subE e ((d, v) :: r) = (subA (e d) v ∧ subE e r) := rfl
theorem subC_box (cs ds : List AV) : subC (some (.box cs)) (.box ds) = subAL cs ds := rfl
theorem subC_row (v : Nat) (e : TypeId) (sz : Nat) (es : List (List PV)) (v' : Nat) (e' : TypeId) (sz' : Nat) (es' : List (List PV)) : subC (some (.row v e sz es)) (.row v' e' sz' es') = (v = v' ∧ e = e' ∧ sz = sz' ∧ es = es') := by
  simp only [subC, Chunk.row.injEq]
theorem subC_shut (v : Nat) (es : List (List PV)) (v' : Nat) (es' : List (List PV)) : subC (some (.shut v es)) (.shut v' es') = (v = v' ∧ es = es') := by
  simp only [subC, Chunk.shut.injEq]
theorem subH_nil (H : AHeap) : subH H [] = True := rfl
theorem subH_cons (H : AHeap) (d : Nat) (c : Chunk) (r : List (Nat × Chunk)) : subH H ((d, c) :: r) = (subC (H d) c ∧ subH H r) := rfl
theorem idsE_nil (G : AHeap) : idsE G [] = True := rfl
theorem idsE_cons (G : AHeap) (d : Nat) (v : AV) (r : List (Nat × AV)) : idsE G ((d, v) :: r) = (idsOk G v ∧ idsE G r) := rfl
theorem idsC_nil (G : AHeap) : idsC G [] = True := rfl
theorem idsC_box (G : AHeap) (d : Nat) (cs : List AV) (r : List (Nat × Chunk)) : idsC G ((d, .box cs) :: r) = (idsOkL G cs ∧ idsC G r) := rfl
theorem idsC_row (G : AHeap) (d : Nat) (v : Nat) (e : TypeId) (sz : Nat) (es : List (List PV)) (r : List (Nat × Chunk)) : idsC G ((d, .row v e sz es) :: r) = idsC G r := rfl
theorem idsC_shut (G : AHeap) (d : Nat) (v : Nat) (es : List (List PV)) (r : List (Nat × Chunk)) : idsC G ((d, .shut v es) :: r) = idsC G r := rfl
theorem idsOk_p (G : AHeap) (x : PV) : idsOk G (.p x) = True := by simp only [idsOk]
theorem idsOk_row (G : AHeap) (i v : Nat) : idsOk G (.row i v) = (G i ≠ none) := by simp only [idsOk]
theorem idsOk_ptr (G : AHeap) (i v : Nat) : idsOk G (.ptr i v) = (G i ≠ none) := by simp only [idsOk]
theorem idsOk_rptr (G : AHeap) (i v j o : Nat) : idsOk G (.rptr i v j o) = (G i ≠ none) := by simp only [idsOk]
theorem idsOk_agg (G : AHeap) (cs : List AV) : idsOk G (.agg cs) = idsOkL G cs := by simp only [idsOk]
theorem idsOk_tup (G : AHeap) (cs : List AV) : idsOk G (.tup cs) = idsOkL G cs := by simp only [idsOk]
theorem idsOk_clo (G : AHeap) (f : Fn) (fs cs : List AV) : idsOk G (.clo f fs cs) = (idsOkL G fs ∧ idsOkL G cs) := by simp only [idsOk]
theorem idsOkL_nil (G : AHeap) : idsOkL G [] = True := by simp only [idsOkL]
theorem idsOkL_cons (G : AHeap) (a : AV) (r : List AV) : idsOkL G (a :: r) = (idsOk G a ∧ idsOkL G r) := by simp only [idsOkL]
theorem keep0' (H' : AHeap) : KeepHigh heap0 H' = True := eq_true (keep0 H')
theorem keepLow' {H H' : AHeap} {i : Nat} {c : Chunk} (hi : i < 1000000) : KeepHigh (hset H i c) H' = KeepHigh H H' := by
  refine propext ⟨fun h j hj hn => h j hj ?_, keep_low hi⟩
  unfold hset
  rw [if_neg (by omega)]
  exact hn
theorem keepHigh' {H H' : AHeap} {i : Nat} {c : Chunk} (hi : 1000000 ≤ i) : KeepHigh (hset H i c) H' = (H' i ≠ none ∧ KeepHigh H H') := by
  refine propext ⟨fun h => ⟨h i hi (by unfold hset; rw [if_pos rfl]; simp), fun j hj hn => h j hj ?_⟩, fun h => keep_high h.1 h.2⟩
  unfold hset
  split
  · simp
  · exact hn
attribute [go_sem] subA_p subA_row subA_ptr subA_clo subA_rptr subA_agg subA_tup subAL_nil subAL_cons envL_nil envL_cons heapL_nil heapL_cons subE_nil subE_cons subC_box subC_row subC_shut subH_nil subH_cons idsE_nil idsE_cons idsC_nil idsC_box idsC_row idsC_shut
  idsOk_p idsOk_row idsOk_ptr idsOk_rptr idsOk_agg idsOk_tup idsOk_clo idsOkL_nil idsOkL_cons keep0' keepLow' keepHigh'

theorem subE_at {e : Env} : ∀ {l : List (Nat × AV)}, subE e l → ∀ t, envL l t = .dead ∨ subA (e t) (envL l t)
  | [], _, t => .inl rfl
  | (d, v) :: r, h, t => by
    unfold envL upd
    split
    · rename_i ht; subst ht; exact .inr h.1
    · exact subE_at h.2 t
theorem subH_at {H : AHeap} : ∀ {l : List (Nat × Chunk)}, subH H l → ∀ i c', heapL l i = some c' → ∃ c, H i = some c ∧ subC (some c) c'
  | [], _, i, c', h => by cases h
  | (d, v) :: r, h, i, c', hi => by
    unfold heapL hset at hi
    split at hi
    · rename_i ht
      subst ht
      simp only [Option.some.injEq] at hi
      subst hi
      have h1 := h.1
      cases hH : H i with
      | none => rw [hH] at h1; exact h1.elim
      | some c => rw [hH] at h1; exact ⟨c, rfl, h1⟩
    · exact subH_at h.2 i c' hi
theorem idsE_at {G : AHeap} : ∀ {l : List (Nat × AV)}, idsE G l → EnvIds (envL l) G
  | [], _, t => trivial
  | (d, v) :: r, h, t => by
    unfold envL upd
    split
    · exact h.1
    · exact idsE_at h.2 t
theorem idsC_at {G : AHeap} : ∀ {l : List (Nat × Chunk)}, idsC G l → BoxIds (heapL l) G
  | [], _, i, cs, h => by cases h
  | (d, c) :: r, h, i, cs, hi => by
    have hr : idsC G r := by
      cases c with
      | box cs => exact h.2
      | row => exact h
      | shut => exact h
    unfold heapL hset at hi
    split at hi
    · simp only [Option.some.injEq] at hi
      subst hi
      exact h.1
    · exact idsC_at hr i cs hi

theorem weakL {e : Env} {H : AHeap} {l : List (Nat × AV)} {hl : List (Nat × Chunk)} (h : subE e l ∧ subH H hl ∧ idsE (heapL hl) l ∧ idsC (heapL hl) hl ∧ KeepHigh H (heapL hl)) : Weak e H (envL l) (heapL hl) := fun C I L tm w hs => by
  obtain ⟨h1, h2, h3, h4, h5⟩ := h
  have w0 : Weak e H e H := Weak.refl _ _
  refine ⟨I, L.to (heapL hl), ?_⟩
  exact
  { below := hs.below
    mem := hs.mem
    memC := hs.memC
    memN := hs.memN
    frame := hs.frame
    loc := fun i => by
      cases hi : C.L0 i with
      | none => trivial
      | some l0 =>
        have h0 := hs.loc i
        rw [hi] at h0
        have hL : L i ≠ none := by
          cases l0 with
          | box b => intro e; rw [e] at h0; cases h0
          | row v hdr sz =>
            obtain ⟨_, _, h0, _⟩ := h0
            intro e; rw [e] at h0; cases h0
        have hH : H i ≠ none := by
          cases hLi : L i with
          | none => exact absurd hLi hL
          | some l =>
            obtain ⟨c, hc⟩ := hs.dom i l hLi
            rw [hc]; simp
        have e := to_some (L := L) (h5 i (C.hL0 i l0 hi) hH)
        rw [e]
        exact h0
    blkF := fun id l b hl hb => hs.blkF id l b (to_eq hl).1 hb
    size := hs.size
    env := fun t => by
      rcases subE_at h1 t with h | h
      · rw [h]; exact .dead _
      · exact (subA_ok (hs.env t) h).to (idsE_at h3 t)
    dom := fun id l hl => (to_eq hl).2
    chunk := fun id ch hch => by
      obtain ⟨c, hc1, hc2⟩ := subH_at h2 id ch hch
      have hc := hs.chunk id c hc1
      have hid : L.to (heapL hl) id = L id := to_some (by rw [hch]; simp)
      cases c with
      | box cs =>
        cases ch with
        | box ds =>
          have hq : subAL cs ds := hc2
          obtain ⟨q1, q2⟩ := subAL_get hq
          obtain ⟨b, arr, e, g1, g2, g3, g4, g5, g6⟩ := hc
          refine ⟨b, arr, e, hid.trans g1, g2, g3.trans q1, fun j u c hu hc => ?_, g5, g6⟩
          obtain ⟨a, ha⟩ : ∃ a, cs[j]? = some a := by
            have hj : j < arr.size := (Array.getElem?_eq_some_iff.1 hu).1
            exact ⟨cs[j]'(by omega), by simp [g3 ▸ hj]⟩
          exact (subA_ok (g4 j u a hu ha) (q2 j a c ha hc)).to (idsOkL_get (idsC_at h4 id ds hch) j c hc)
        | row => cases hc2
        | shut => cases hc2
      | row ver e sz es =>
        have hq : Chunk.row ver e sz es = ch := by cases ch <;> exact hc2
        subst hq
        obtain ⟨hdr, us, g1, g2⟩ := hc
        exact ⟨hdr, us, hid.trans g1, g2⟩
      | shut ver es =>
        have hq : Chunk.shut ver es = ch := by cases ch <;> exact hc2
        subst hq
        obtain ⟨hdr, sz, g1, g2⟩ := hc
        exact ⟨hdr, sz, hid.trans g1, g2⟩
    blkB := fun id l b hl hb => hs.blkB id l b (to_eq hl).1 hb
    apart := fun i j li lj b hi hj hbi hbj => hs.apart i j li lj b (to_eq hi).1 (to_eq hj).1 hbi hbj }
mutual
theorem pleP_refl : ∀ a : PV, pleP a a
  | .agg a => by rw [pleP_agg]; exact pleL_refl a
  | .tup a => by rw [pleP_tup]; exact pleL_refl a
  | .val v => by rw [pleP_val]
  | .lst a => by rw [pleP_lst]
  | .emp => by simp only [pleP]
  | .eptr _ _ => by simp only [pleP]
  | .clo _ _ _ => by simp only [pleP]
theorem pleL_refl : ∀ a : List PV, pleL a a
  | [] => by unfold pleL; trivial
  | a :: r => by unfold pleL; exact ⟨pleP_refl a, pleL_refl r⟩
end

theorem stPtr_app {env : Env} {d : Option Tmp} {t : TypeId} {pos : String} {af : Array Edge} {g : Option (Nat × Bool)} (a : Nat) (s : Operand) (t1 t2 : TypeId) :
    stPtr ⟨d, .call ⟨.builtin .append, #[.tmp a, s], #[t1, t2]⟩, t, pos, af, g⟩ env = ((∃ v, env a = .row a v) ∧ ∃ x, ev env s = .p x) := rfl
theorem ex_row (i j v : Nat) : (∃ u, AV.row i v = .row j u) = (i = j) := by
  apply propext
  constructor
  · rintro ⟨u, h⟩; cases h; rfl
  · rintro rfl; exact ⟨v, rfl⟩
theorem ex_p (x : PV) : (∃ y, AV.p x = .p y) = True := eq_true ⟨x, rfl⟩
attribute [go_sem] stPtr_app ex_row ex_p exists_eq'
section
variable {P : Program} {env : Env} {H : AHeap} {o : Oper} {W : Env → AHeap → Prop} {k : FuncId} {ps ps' : List PV} {b : Bool}
theorem callfG (id : Nat) {r : RV} (c : CallF P k ps fun x => x = r) (he : callPs o (ev env) H = some (k, ps', b)) (hp : pleL ps' ps) (hb : b = true → r.flat = true)
    (hf : freeN H id ((placeA id r).2 - id)) (hW : W (putA env o.dst (placeA id r).1) (placeH id H r)) : callK P o W env H := callf_go id (c.args (pleL_ok _ _ hp)) he hb hf hW
end
noncomputable def giv {α : Type} (p : Prop) (x : α) : Option α := open Classical in if p then some x else none
theorem giv_s {α : Type} {p : Prop} {x r : α} (h : giv p x = some r) : p ∧ x = r := by
  unfold giv at h
  split at h
  · exact ⟨by assumption, by simpa using h⟩
  · cases h
end Go.Abs
/- What a printed function answers. Program-independent. -/
namespace Go.Abs

def Ok {α : Type} (x : Option α) (Q : α → Prop) : Prop := ∃ r, x = some r ∧ Q r
section
variable {α β σ O : Type} {Q : O → Prop}
theorem Ok.mk {r : O} (h : Q r) : Ok (some r) Q := ⟨r, rfl, h⟩
theorem Ok.eq {x : Option α} {r : α} (h : Ok x (fun y => y = r)) : x = some r := by obtain ⟨y, h1, rfl⟩ := h; exact h1
theorem Ok.of {x : Option α} {r : α} (h : x = some r) : Ok x (fun y => y = r) := ⟨r, h, rfl⟩
theorem Ok.mono {x : Option O} {Q' : O → Prop} (h : Ok x Q) (hq : ∀ r, Q r → Q' r) : Ok x Q' := by obtain ⟨r, h1, h2⟩ := h; exact ⟨r, h1, hq r h2⟩
theorem ok_chk {p : Prop} [Decidable p] {x : Option O} (hp : p) (h : Ok x Q) : Ok (chk p x) Q := by unfold chk; rw [if_pos hp]; exact h
theorem ok_cond {b : Bool} {x y : Option O} (h1 : b = true → Ok x Q) (h2 : b = false → Ok y Q) : Ok (cond b x y) Q := by
  cases b
  · exact h2 rfl
  · exact h1 rfl
theorem ok_t {b : Bool} {x y : Option O} (hb : b = true) (h1 : Ok x Q) : Ok (cond b x y) Q := by subst hb; exact h1
theorem ok_f {b : Bool} {x y : Option O} (hb : b = false) (h1 : Ok y Q) : Ok (cond b x y) Q := by subst hb; exact h1
theorem ok_thn {x : Option α} {k : α → Option O} {R : α → Prop} (h : Ok x R) (hk : ∀ r, R r → Ok (k r) Q) : Ok (thn x k) Q := by
  obtain ⟨r, rfl, h2⟩ := h
  exact hk r h2
theorem ok_eq {x : Option α} {k : α → Option O} {r : α} (h : x = some r) (hk : Ok (k r) Q) : Ok (thn x k) Q := by subst h; exact hk
theorem ok_at {l : List α} {k : α → Option O} {i : Nat} (hi : i < l.length) (h : Ok (k l[i]) Q) : Ok (thn l[i]? k) Q := ok_eq (List.getElem?_eq_getElem hi) h
theorem ok_atZ {l : List α} {k : α → Option O} {i : Int} (h0 : 0 ≤ i) (hi : i.toNat < l.length) (h : Ok (k l[i.toNat]) Q) : Ok (thn (atZ l i) k) Q :=
  ok_eq (by unfold atZ; rw [if_pos h0]; exact List.getElem?_eq_getElem hi) h
theorem ok_forN {f : Nat → σ → (σ → Option O) → (σ → Option O) → Option O} {K : σ → Option O} (φ : Nat → σ → Prop) {n i : Nat} {s : σ} (hi : i ≤ n) (h0 : φ i s)
    (hr : ∀ j s (nxt : σ → Option O), i ≤ j → j < n → φ j s → (∀ s', φ (j + 1) s' → Ok (nxt s') Q) → Ok (f j s nxt K) Q) (he : ∀ s, φ n s → Ok (K s) Q) : Ok (forN f (n - i) i s K) Q := by
  have key : ∀ k j s, j + k = n → i ≤ j → φ j s → Ok (forN f k j s K) Q := by
    intro k
    induction k with
    | zero => intro j s hj _ h; have : j = n := by omega
              subst this; exact he s h
    | succ k ih => intro j s hj hij h; exact hr j s _ hij (by omega) h fun s' h' => ih (j + 1) s' (by omega) (by omega) h'
  exact key (n - i) i s (by omega) (Nat.le_refl _) h0
theorem ok_iter {f : σ → (σ → Option O) → (σ → Option O) → Option O} {K : σ → Option O} (φ : σ → Prop) (μ : σ → Nat) {n : Nat} {s : σ} (h0 : φ s) (hm : μ s < n)
    (hr : ∀ s (nxt : σ → Option O), φ s → (∀ s', φ s' → μ s' < μ s → Ok (nxt s') Q) → Ok (f s nxt K) Q) : Ok (iter f n s K) Q := by
  have key : ∀ n s, φ s → μ s < n → Ok (iter f n s K) Q := by
    intro n
    induction n with
    | zero => intro s _ h; omega
    | succ n ih => intro s h hm; exact hr s _ h fun s' h' hlt => ih s' h' (by omega)
  exact key n s h0 hm
theorem wrapI {n : Int} (h : -9223372036854775808 ≤ n ∧ n ≤ 9223372036854775807) : IntKind.i64.wrap n = n := IntWalk.i64_in n (by omega)
end
theorem giv_t {α : Type} {p : Prop} {x : α} (h : p) : giv p x = some x := by unfold giv; rw [if_pos h]
theorem ok_map {α β O : Type} {Q : O → Prop} {f : Nat → List β → (List β → Option O) → (List β → Option O) → Option O} {K : List β → Option O} (l : List α) (g : α → β)
    (hr : ∀ j (s : List β) (nxt : List β → Option O) (hj : j < l.length), s.length = j → Ok (nxt (s ++ [g l[j]])) Q → Ok (f j s nxt K) Q) (he : Ok (K (l.map g)) Q) : Ok (forN f (l.length - 0) 0 [] K) Q := by
  refine ok_forN (fun j s => j ≤ l.length ∧ s = (l.take j).map g) (Nat.zero_le _) ⟨Nat.zero_le _, rfl⟩ ?_ ?_
  · rintro j s nxt _ hj ⟨_, rfl⟩ hn
    refine hr j _ nxt hj (by simp; omega) (hn _ ⟨hj, ?_⟩)
    rw [List.take_add_one, List.getElem?_eq_getElem hj, Option.toList_some, List.map_append]
    rfl
  · rintro s ⟨_, rfl⟩
    rw [List.take_length]
    exact he
end Go.Abs
/- A row that a drawn region puts into a list becomes immutable ahead of the region. Program-independent. -/
namespace Go.Abs
open Go.RowKit

variable {P : Program} {N : Nat} {own : List Nat}
def updL (x : AV) : List Nat → Env → Env
  | [], env => env
  | t :: r, env => updL x r (putA env (some t) x)
theorem updL_nil (x : AV) (env : Env) : updL x [] env = env := rfl
theorem updL_cons (x : AV) (t : Nat) (r : List Nat) (env : Env) : updL x (t :: r) env = updL x r (putA env (some t) x) := rfl
def holds (env : Env) (id v : Nat) : List Nat → Prop
  | [] => True
  | t :: r => env t = .row id v ∧ holds env id v r
theorem holds_nil (env : Env) (id v : Nat) : holds env id v [] = True := rfl
theorem holds_cons (env : Env) (id v t : Nat) (r : List Nat) : holds env id v (t :: r) = (env t = .row id v ∧ holds env id v r) := rfl

theorem toNat_lt {i : Int} {n : Nat} (h : 0 ≤ i) (k : i < (n : Int)) : i.toNat < n := by omega
def nnewN (own : List Nat) (ops : Array Oper) (id : Nat) : Nat → Prop
  | 0 => True
  | n + 1 => newsB own ops id = false ∧ nnewN own ops (id + 1) n
variable {ops : Array Oper}
theorem nnewN_zero (id : Nat) : nnewN own ops id 0 = True := rfl
theorem nnewN_one (id : Nat) : nnewN own ops id 1 = (newsB own ops id = false ∧ True) := rfl
theorem nnewN_two (id : Nat) : nnewN own ops id 2 = (newsB own ops id = false ∧ newsB own ops (id + 1) = false ∧ True) := rfl
theorem nnewN_three (id : Nat) : nnewN own ops id 3 = (newsB own ops id = false ∧ newsB own ops (id + 1) = false ∧ newsB own ops (id + 1 + 1) = false ∧ True) := rfl
theorem nnewN_four (id : Nat) : nnewN own ops id 4 = (newsB own ops id = false ∧ newsB own ops (id + 1) = false ∧ newsB own ops (id + 1 + 1) = false ∧ newsB own ops (id + 1 + 1 + 1) = false ∧ True) := rfl
theorem nnewN_spec : ∀ (n id : Nat), nnewN own ops id n → ∀ i, id ≤ i → i < id + n → newsB own ops i = false
  | 0, id, _, i, h1, h2 => by omega
  | n + 1, id, h, i, h1, h2 => by
    rcases Nat.lt_or_ge id i with h' | h'
    · exact nnewN_spec n (id + 1) h.2 i (by omega) (by omega)
    · have : i = id := by omega
      subst this
      exact h.1
theorem calldfG {env : Env} {H : AHeap} {o : Oper} {W : Env → AHeap → Prop} {k : FuncId} {ps ps' : List PV} {b : Bool} (id : Nat) {r : RV} (c : CallF P k ps fun x => x = r) (he : callPs o (ev env) (hidH own ops H) = some (k, ps', b)) (hp : pleL ps' ps) (hb : b = true → r.flat = true)
    (hf : freeN H id ((placeA id r).2 - id)) (hn : nnewN own ops id ((placeA id r).2 - id)) (hW : W (putA env o.dst (placeA id r).1) (placeH id H r)) : callFD P own ops o W env H := by
  have c' : CallF P k ps' fun x => x = r := c.args (pleL_ok _ _ hp)
  have hle := place_le r id
  unfold callPs at he
  cases ha : callArgs o (ev env) with
  | none => rw [ha] at he; cases he
  | some q =>
    obtain ⟨k', als⟩ := q
    rw [ha] at he
    simp only [] at he
    cases hl : lendL (lend1 (hidH own ops H)) als with
    | none => rw [hl] at he; cases he
    | some q =>
      obtain ⟨qs, b'⟩ := q
      rw [hl] at he
      simp only [Option.some.injEq, Prod.mk.injEq] at he
      obtain ⟨rfl, rfl, rfl⟩ := he
      exact ⟨_, _, ⟨_, als, _, _, r, id, ha, hl, c', hb, fun i h1 h2 => ⟨freeN_spec _ id hf i h1 (by omega), nnewN_spec _ id hn i h1 (by omega)⟩, rfl, rfl⟩, hW⟩
attribute [go_sem] nnewN_zero nnewN_one nnewN_two nnewN_three nnewN_four
attribute [go_sem] updL_nil updL_cons holds_nil holds_cons
end Go.Abs
/- Contracts proved by hand, in the form of the printed ones. -/
namespace Go.Proofs.YtdlohnchnneaeaaGreat
open Go.Abs

noncomputable def f_triple_Valid (t : Types) (s : Sorts) (h : Host) : Option Int := giv (FewT t ∧ FewS s ∧ FewH h) (validTr t s h)
theorem w_triple_Valid (t : Types) (s : Sorts) (h : Host) (r : Int) (hr : f_triple_Valid t s h = some r) : CallV Go.Proofs.Tryz.prog 22 [encTypes t, encSorts s, encHost h] (fun v => v = .val (.int .i64 r)) := by
  obtain ⟨⟨h1, h2, h3⟩, rfl⟩ := giv_s hr
  exact trvalid_ok t h1 s h2 h h3
noncomputable def f_scarfjointref52_Valid (t : Types) (s : Sorts) (h : Host) : Option Int := giv (FewT t ∧ FewS s ∧ FewH h) (validTr t s h)
theorem w_scarfjointref52_Valid (t : Types) (s : Sorts) (h : Host) (r : Int) (hr : f_scarfjointref52_Valid t s h = some r) : CallV Go.Proofs.Tryz.prog 23 [encTypes t, encSorts s, encHost h] (fun v => v = .val (.int .i64 r)) := by
  obtain ⟨⟨h1, h2, h3⟩, rfl⟩ := giv_s hr
  exact rtrvalid_ok t h1 s h2 h h3
noncomputable def f_scarfjointref52_Part (s : Sorts) (g : Graph) (k : Int) : Option Part := giv (OkTr s g) (partX s g k)
theorem w_scarfjointref52_Part (s : Sorts) (g : Graph) (k : Int) (r : Part) (hr : f_scarfjointref52_Part s g k = some r) : CallV Go.Proofs.Tryz.prog 35 [encSorts s, encGraph g, .val (.int .i64 k)] (fun v => v = .agg [.lst (r.nodes.map encI), .lst (r.edges.map encI)]) := by
  obtain ⟨h1, rfl⟩ := giv_s hr
  exact Part_ok s g h1 k
noncomputable def f_slices_Clone_int (l : List Int) : Option (List Int) := giv (l.length ≤ 1000000) l
theorem w_slices_Clone_int (l : List Int) (r : List Int) (h : f_slices_Clone_int l = some r) : CallF Go.Proofs.Tryz.prog 46 [.lst (l.map encI)] (fun v => v = .row 3 1 (r.map encI)) := by
  obtain ⟨h1, rfl⟩ := giv_s h
  exact clone_int l h1
noncomputable def f_slices_Clone_Edge (l : List Edge) : Option (List Edge) := giv (l.length ≤ 1000000) l
theorem w_slices_Clone_Edge (l : List Edge) (r : List Edge) (h : f_slices_Clone_Edge l = some r) : CallF Go.Proofs.Tryz.prog 44 [.lst (l.map encEdge)] (fun v => v = .row 73 3 (r.map encEdge)) := by
  obtain ⟨h1, rfl⟩ := giv_s h
  exact clone_edge l h1
def f_scarfjointlaw52_awake : Option Bool := some true
theorem w_scarfjointlaw52_awake (r : Bool) (h : f_scarfjointlaw52_awake = some r) : CallV Go.Proofs.Tryz.prog 9 [] (fun v => v = .val (.bool r)) := by
  cases h
  exact awake_ok
end Go.Proofs.YtdlohnchnneaeaaGreat
/- slices.Grow of nil, by the kit's contract: a new row with nothing in it. Program-independent. -/
namespace Go.Abs
open Go.RowKit Go.Shelf Go.Proofs
variable {P : Program} {ρ : Ren}

theorem callF_grow (L : Lays8.n4 P ρ) (hc : callable P (ρ.f 4) = true) (i0 : TypeInfo) (z : Value) (hi0 : P.info? (ρ.t 25) = some i0) (hz0 : i0.zero = some z) (hs0 : 0 < i0.size) (hzs : z.cells.size = i0.size)
    (n : Nat) (hbig : n * i0.bytes ≤ 140737488355328) (h63 : n ≤ 4611686018427387904) :
    CallF P (ρ.f 4) [.val (.slice none 0 0), .val (.int .i64 n)] (fun v => v = .row (ρ.t 25) i0.size []) := by
  refine ⟨hc, fun I w vs hI hv => ?_⟩
  obtain ⟨hl, hv⟩ := hv
  match vs, hl with
  | [a, b], _ =>
    have ha : a = .slice none 0 0 := by
      have := hv 0 a _ rfl rfl
      cases this
      rfl
    have hb : b = .int .i64 n := by
      have := hv 1 b _ rfl rfl
      cases this
      rfl
    subst ha hb
    by_cases h0 : n = 0
    · subst h0
      refine (Any8.slices_Grow_room L none 0 0 0 w (by omega) (by omega) (by omega) (by omega)).mono ?_
      rintro e w' ⟨rfl, rfl⟩
      refine ⟨_, _, _, I, rfl, rfl, .row _ _ _ _ [] ⟨⟨by simp, .inl ⟨rfl, rfl⟩⟩, hs0, by simp, by simp, by simp, fun b hb => by simp [Value.ownBlock] at hb⟩ rfl, by simp [Value.ownBlock], by simp [Value.ownBlock], Below.refl _ _, Mem.sub_refl I, hI, fun _ _ _ => rfl⟩
    · refine (Any8.slices_Grow_grow L i0 z hi0 hz0 hs0 none 0 0 n [] w (by omega) (by omega) (by simpa using hbig) (by omega) (by simp) (fun _ => rfl) (fun a h => by cases h)).mono ?_
      rintro e w' ⟨rfl, rfl⟩
      have hG : n ≤ grownCap w (0 + n) 0 (ρ.t 25) := by
        have := grownCap_ge w (0 + n) 0 (ρ.t 25)
        omega
      have hG2 : grownCap w (0 + n) 0 (ρ.t 25) ≤ maxLen := grownCap_le_maxLen w (0 + n) 0 (ρ.t 25) (by unfold maxLen; omega)
      generalize grownCap w (0 + n) 0 (ρ.t 25) = G at hG hG2 ⊢
      have hheap : ∀ o : Obj, (w.drew.alloc o).heap = w.heap.push o := fun o => rfl
      have bel : ∀ o : Obj, Below w.heap.size w (w.drew.alloc o) := fun o => (Below.refl _ w).drew.alloc (Nat.le_refl _) o
      refine ⟨_, _, [w.heap.size], I, rfl, rfl, ?_, by simp, ?_, bel _, Mem.sub_refl I, hI.keep fun b ⟨o, u, hu⟩ => (bel _).block b (hI.lt hu), fun _ _ _ => rfl⟩
      · refine .row (.slice (some ⟨w.heap.size, 0, none⟩) 0 G) _ _ _ [] ⟨⟨by simp, .inr ⟨w.heap.size, G, _, rfl, Nat.le_refl _, by rw [hheap]; exact Array.getElem?_push_size, Nat.zero_le _, hG2, ?_, by simp⟩⟩, hs0, by simp, by simp, by simp, fun b hb o => ?_⟩ rfl
        · have e : (0 + n - 0) + (G - (0 + n)) = G := by omega
          have e0 : ([] : List Value).toArray.size = 0 := rfl
          rw [Array.size_append, Array.size_append, size_zeroCells, size_zeroCells, hzs, e0, Nat.zero_add, ← Nat.add_mul, e]
        · simp only [Value.ownBlock, Option.some.injEq] at hb
          subst hb
          cases hI0 : I w.heap.size o with
          | none => rfl
          | some u => exact absurd (hI.lt hI0) (Nat.lt_irrefl _)
      · intro b hb
        simp only [List.mem_cons, List.not_mem_nil, or_false] at hb
        subst hb
        rw [hheap]
        simp
theorem callF_growT (L : Lays8.n4 P ρ) (hc : callable P (ρ.f 4) = true) {t e : TypeId} {sz by' : Nat} (ht : appTypes P t t = some (e, sz, by')) (he : e = ρ.t 25) (n : Nat) (hbig : n * by' ≤ 140737488355328) (h63 : n ≤ 4611686018427387904) :
    CallF P (ρ.f 4) [.val (.slice none 0 0), .val (.int .i64 n)] (fun v => v = .row e sz []) := by
  obtain ⟨_, _, hpos, _, i, z, hi, hz, hsz, hby, hzc⟩ := appTypes_spec ht
  subst he
  have := callF_grow L hc i z hi hz (by omega) (by omega) n (by rw [hby]; exact hbig) h63
  rw [hsz] at this
  exact this
end Go.Abs
/-
  DERIVED: THE SHELF's CONTRACTS AT THIS DUMP, IN PLAIN WORDS (tools/lay-plain.mjs out of 'YtdlohnchnneaeaaGreatShelfGrow.lean', which tools/lay-shelf.mjs wrote): THE SAME DECLARATIONS UNDER THE SAME NAMES: 'import', 'namespace', 'open', 'def', 'theorem' AND NOTHING ELSE: no command of the shelf's: FOR A HAND-IN. Each laying: the table of numbers ('.._ren') and one theorem, a field a fact of the dump's own or the kernel's comparison; each contract: ONE APPLICATION.
-/
namespace Go.Proofs
open Go.Shelf
def YtdlohnchnneaeaaGreat.growInt_ren : Go.Shelf.Ren := ⟨fun | 4 => 69 | n => n, fun | 22 => 26 | 25 => 3 | 3 => 3 | 4 => 4 | 9 => 9 | 20 => 20 | 0 => 0 | n => n, fun | n => n⟩
theorem YtdlohnchnneaeaaGreat.growInt : Go.Proofs.Lays8.n4 Tryz.prog YtdlohnchnneaeaaGreat.growInt_ren := {
  mixed := by kernel_rfl
  f4 := ⟨Tryz.f69.name, by decide, Tryz.func69.trans (congrArg some (by kernel_rfl))⟩
  t0 := Tryz.underlying0
  a0 := Tryz.isAgg0
  z0 := Tryz.sizeOf0
  v0 := Tryz.zeroValue0
  t3 := Tryz.underlying3
  a3 := Tryz.isAgg3
  z3 := Tryz.sizeOf3
  v3 := Tryz.zeroValue3
  t4 := Tryz.underlying4
  a4 := Tryz.isAgg4
  z4 := Tryz.sizeOf4
  v4 := Tryz.zeroValue4
  t9 := Tryz.underlying9
  a9 := Tryz.isAgg9
  z9 := Tryz.sizeOf9
  v9 := Tryz.zeroValue9
  t20 := Tryz.underlying20
  a20 := Tryz.isAgg20
  z20 := Tryz.sizeOf20
  v20 := Tryz.zeroValue20
  t22 := Tryz.underlying26
  a22 := Tryz.isAgg26
  z22 := Tryz.sizeOf26
  v22 := Tryz.zeroValue26 }
def YtdlohnchnneaeaaGreat.growRow_ren : Go.Shelf.Ren := ⟨fun | 4 => 70 | n => n, fun | 22 => 34 | 25 => 26 | 3 => 3 | 4 => 4 | 9 => 9 | 20 => 20 | 0 => 0 | n => n, fun | n => n⟩
theorem YtdlohnchnneaeaaGreat.growRow : Go.Proofs.Lays8.n4 Tryz.prog YtdlohnchnneaeaaGreat.growRow_ren := {
  mixed := by kernel_rfl
  f4 := ⟨Tryz.f70.name, by decide, Tryz.func70.trans (congrArg some (by kernel_rfl))⟩
  t0 := Tryz.underlying0
  a0 := Tryz.isAgg0
  z0 := Tryz.sizeOf0
  v0 := Tryz.zeroValue0
  t3 := Tryz.underlying3
  a3 := Tryz.isAgg3
  z3 := Tryz.sizeOf3
  v3 := Tryz.zeroValue3
  t4 := Tryz.underlying4
  a4 := Tryz.isAgg4
  z4 := Tryz.sizeOf4
  v4 := Tryz.zeroValue4
  t9 := Tryz.underlying9
  a9 := Tryz.isAgg9
  z9 := Tryz.sizeOf9
  v9 := Tryz.zeroValue9
  t20 := Tryz.underlying20
  a20 := Tryz.isAgg20
  z20 := Tryz.sizeOf20
  v20 := Tryz.zeroValue20
  t22 := Tryz.underlying34
  a22 := Tryz.isAgg34
  z22 := Tryz.sizeOf34
  v22 := Tryz.zeroValue34 }
end Go.Proofs
/- slices.Grow of nil. -/
namespace Go.Proofs.YtdlohnchnneaeaaGreat
open Go.Abs

abbrev IntL := List Int
noncomputable def f_slices_Grow_int (l : List Int) (n : Int) : Option (List Int) := giv (l = [] ∧ 0 ≤ n ∧ n ≤ 1000000) []
theorem w_slices_Grow_int (l : List Int) (n : Int) (r : List Int) (h : f_slices_Grow_int l n = some r) : CallF Go.Proofs.Tryz.prog 69 [.val (.slice none 0 0), .val (.int .i64 n)] (fun v => v = .row 3 1 (r.map encI)) := by
  obtain ⟨⟨_, h0, h1⟩, rfl⟩ := giv_s h
  obtain ⟨k, rfl⟩ : ∃ k : Nat, n = k := ⟨n.toNat, by omega⟩
  exact callF_growT growInt (by kernel_rfl) Ty.app26 rfl k (by omega) (by omega)
noncomputable def f_slices_Grow_Lint (l : List IntL) (n : Int) : Option (List IntL) := giv (l = [] ∧ 0 ≤ n ∧ n ≤ 1000000) []
theorem w_slices_Grow_Lint (l : List IntL) (n : Int) (r : List IntL) (h : f_slices_Grow_Lint l n = some r) : CallF Go.Proofs.Tryz.prog 70 [.val (.slice none 0 0), .val (.int .i64 n)] (fun v => v = .row 26 1 (r.map encRow)) := by
  obtain ⟨⟨_, h0, h1⟩, rfl⟩ := giv_s h
  obtain ⟨k, rfl⟩ : ∃ k : Nat, n = k := ⟨n.toNat, by omega⟩
  exact callF_growT growRow (by kernel_rfl) Ty.app34 rfl k (by omega) (by omega)
end Go.Proofs.YtdlohnchnneaeaaGreat
/- Functions of the program as functions of Lean, and the walks that show them. Printed by gen.py. -/
set_option linter.unusedSimpArgs false
set_option linter.unusedVariables false
set_option maxRecDepth 20000
namespace Go.Proofs.YtdlohnchnneaeaaGreat
open Go.Abs

structure T_scarfjointlaw52_Case where
  t : Types
  s : Sorts
structure T_Morphism where
  nodes : List Int
  edges : List Int
structure T_A2_Int where
  x0 : Int
  x1 : Int
structure T_A3_Int where
  x0 : Int
  x1 : Int
  x2 : Int
structure T_scarfjointref15_Draft where
  nodes : List T_A2_Int
  edges : List T_A3_Int
def encL_encRow (l : List (List Int)) : List PV := [.lst (l.map encRow)]

noncomputable section
def f_scarfjointref04_Few (a0 : Types) : Option Bool :=
  cond (decide (20 < ((a0.nodes.length : Nat) : Int))) (
    some false) <|
  cond (decide (30 < ((a0.edges.length : Nat) : Int))) (
    some false) <|
  chk (a0.nodes.length ≤ fuel) <|
  forN (fun i49 (s49 : Int) nxts49 brks49 =>
    thn (a0.nodes[i49]?) fun e92 =>
    cond (decide (30 < (IntKind.i64.wrap (s49 + ((e92.attrs.length : Nat) : Int))))) (
      some false) <|
    cond (decide (40 < ((e92.name.size : Nat) : Int))) (
      some false) <|
    chk (e92.attrs.length ≤ fuel) <|
    forN (fun i109 (s109 : Unit) nxts109 brks109 =>
      thn (e92.attrs[i109]?) fun e122 =>
      cond (decide (40 < ((e122.name.size : Nat) : Int))) (
        some false) <|
      cond (decide (25 < ((e122.names.length : Nat) : Int))) (
        some false) <|
      chk (e122.names.length ≤ fuel) <|
      forN (fun i129 (s129 : Unit) nxts129 brks129 =>
        thn (e122.names[i129]?) fun e132 =>
        cond (decide (40 < ((e132.size : Nat) : Int))) (
          some false) <|
        nxts129 ())
      (e122.names.length - 0) 0 () fun s129 =>
      nxts109 ())
    (e92.attrs.length - 0) 0 () fun s109 =>
    nxts49 (IntKind.i64.wrap (s49 + ((e92.attrs.length : Nat) : Int))))
  (a0.nodes.length - 0) 0 0 fun s49 =>
  chk (a0.edges.length ≤ fuel) <|
  forN (fun i138 (s138 : Unit) nxts138 brks138 =>
    thn (a0.edges[i138]?) fun e141 =>
    cond (decide (40 < ((e141.name.size : Nat) : Int))) (
      some false) <|
    nxts138 ())
  (a0.edges.length - 0) 0 () fun s138 =>
  some true
set_option maxHeartbeats 4000000 in
theorem w_scarfjointref04_Few (a0 : Types) (r : Bool) (h : f_scarfjointref04_Few a0 = some r) : CallV Go.Proofs.Tryz.prog 29 [.agg [.lst (a0.nodes.map encNode), .lst (a0.edges.map encEdgeT)]] (fun v => v = .val (.bool r)) := by
  refine CallV.ple ?_
  refine callV_of_cw [] Ty.mixed Go.Proofs.Tryz.func29 rfl (by kernel_rfl) (by simp [Go.Proofs.Tryz.ntmps29]) ?_; rw [Go.Proofs.Tryz.ntmps29, Go.Proofs.Tryz.results29]
  unfold f_scarfjointref04_Few at h
  try simp -implicitDefEqProofs only [go_sem, reduceEqDiff, reduceLT, reduceLeDiff, reduceMul, reduceAdd, reduceIte, reduceCtorEq, Nat.reduceBEq, reduceSub, Int.reduceToNat, encAttr, encEdgeT, encInts, encNode, encS, encStrs]
  refine walkG_splitN (fun b3 => ?_) (fun b3 => ?_)
  · replace h := cond_t h b3
    cases h
    try simp -implicitDefEqProofs only [go_sem, reduceEqDiff, reduceLT, reduceLeDiff, reduceMul, reduceAdd, reduceIte, reduceCtorEq, Nat.reduceBEq, reduceSub, Int.reduceToNat, encAttr, encEdgeT, encInts, encNode, encS, encStrs, b3]
    all_goals ((repeat' apply And.intro) <;> rfl)
  · replace h := cond_f h b3
    try simp -implicitDefEqProofs only [go_sem, reduceEqDiff, reduceLT, reduceLeDiff, reduceMul, reduceAdd, reduceIte, reduceCtorEq, Nat.reduceBEq, reduceSub, Int.reduceToNat, encAttr, encEdgeT, encInts, encNode, encS, encStrs, b3]
    refine condC_split (fun b4 => ?_) (fun b4 => ?_)
    · replace h := cond_t h b4
      cases h
      try simp -implicitDefEqProofs only [go_sem, reduceEqDiff, reduceLT, reduceLeDiff, reduceMul, reduceAdd, reduceIte, reduceCtorEq, Nat.reduceBEq, reduceSub, Int.reduceToNat, encAttr, encEdgeT, encInts, encNode, encS, encStrs, b3, b4]
      all_goals ((repeat' apply And.intro) <;> rfl)
    · replace h := cond_f h b4
      obtain ⟨fus49, h⟩ := chk_s h
      unfold fuel at fus49
      try simp -implicitDefEqProofs only [go_sem, reduceEqDiff, reduceLT, reduceLeDiff, reduceMul, reduceAdd, reduceIte, reduceCtorEq, Nat.reduceBEq, reduceSub, Int.reduceToNat, encAttr, encEdgeT, encInts, encNode, encS, encStrs, b3, b4]
      refine forN_go (fun x : (Nat × (Int)) × (Unit) => envL [(1, .ptr 1 0), (3, .p (.val (.int .i64 x.1.2))), (4, .p (.val (.int .i64 ((x.1.1 : Nat) : Int))))]) (fun x => heapL [(1, .box [.p (.lst (a0.nodes.map encNode)), .p (.lst (a0.edges.map encEdgeT))])]) () h (weakL (by simp -implicitDefEqProofs only [go_sem, reduceEqDiff, reduceLT, reduceLeDiff, reduceMul, reduceAdd, reduceIte, reduceCtorEq, Nat.reduceBEq, reduceSub, Int.reduceToNat, encAttr, encEdgeT, encInts, encNode, encS, encStrs, b3, b4] <;> ((repeat' apply And.intro) <;> rfl))) ?_ ?_
      · intro i49 s49 g49 nxts49 Rs49 his49 hNs49 h
        have hws49 := wrap_succ (k := i49) his49 (by omega)
        try dsimp only at h
        obtain ⟨e92, c92, g92, q92, h⟩ := idx_s encNode h
        try simp -implicitDefEqProofs only [go_sem, reduceEqDiff, reduceLT, reduceLeDiff, reduceMul, reduceAdd, reduceIte, reduceCtorEq, Nat.reduceBEq, reduceSub, Int.reduceToNat, encAttr, encEdgeT, encInts, encNode, encS, encStrs, b3, b4, his49, hws49, c92, g92]
        refine walkG_splitN (fun b93 => ?_) (fun b93 => ?_)
        · replace h := cond_t h b93
          cases h
          try simp -implicitDefEqProofs only [go_sem, reduceEqDiff, reduceLT, reduceLeDiff, reduceMul, reduceAdd, reduceIte, reduceCtorEq, Nat.reduceBEq, reduceSub, Int.reduceToNat, encAttr, encEdgeT, encInts, encNode, encS, encStrs, b3, b4, his49, hws49, c92, g92, b93]
          all_goals ((repeat' apply And.intro) <;> rfl)
        · replace h := cond_f h b93
          try simp -implicitDefEqProofs only [go_sem, reduceEqDiff, reduceLT, reduceLeDiff, reduceMul, reduceAdd, reduceIte, reduceCtorEq, Nat.reduceBEq, reduceSub, Int.reduceToNat, encAttr, encEdgeT, encInts, encNode, encS, encStrs, b3, b4, his49, hws49, c92, g92, b93]
          refine condC_split (fun b94 => ?_) (fun b94 => ?_)
          · replace h := cond_t h b94
            cases h
            try simp -implicitDefEqProofs only [go_sem, reduceEqDiff, reduceLT, reduceLeDiff, reduceMul, reduceAdd, reduceIte, reduceCtorEq, Nat.reduceBEq, reduceSub, Int.reduceToNat, encAttr, encEdgeT, encInts, encNode, encS, encStrs, b3, b4, his49, hws49, c92, g92, b93, b94]
            all_goals ((repeat' apply And.intro) <;> rfl)
          · replace h := cond_f h b94
            obtain ⟨fus109, h⟩ := chk_s h
            unfold fuel at fus109
            try simp -implicitDefEqProofs only [go_sem, reduceEqDiff, reduceLT, reduceLeDiff, reduceMul, reduceAdd, reduceIte, reduceCtorEq, Nat.reduceBEq, reduceSub, Int.reduceToNat, encAttr, encEdgeT, encInts, encNode, encS, encStrs, b3, b4, his49, hws49, c92, g92, b93, b94]
            refine forN_go (fun x : (Nat × (Unit)) × (Unit) => envL [(1, .ptr 1 0), (3, .p (.val (.int .i64 (IntKind.i64.wrap (s49 + ((e92.attrs.length : Nat) : Int)))))), (4, .p (.val (.int .i64 ((i49 : Nat) : Int)))), (5, .p (.val (.int .i64 ((x.1.1 : Nat) : Int))))]) (fun x => heapL [(1, .box [.p (.lst (a0.nodes.map encNode)), .p (.lst (a0.edges.map encEdgeT))])]) () h (weakL (by simp -implicitDefEqProofs only [go_sem, reduceEqDiff, reduceLT, reduceLeDiff, reduceMul, reduceAdd, reduceIte, reduceCtorEq, Nat.reduceBEq, reduceSub, Int.reduceToNat, encAttr, encEdgeT, encInts, encNode, encS, encStrs, b3, b4, his49, hws49, c92, g92, b93, b94] <;> ((repeat' apply And.intro) <;> rfl))) ?_ ?_
            · intro i109 s109 g109 nxts109 Rs109 his109 hNs109 h
              have hws109 := wrap_succ (k := i109) his109 (by omega)
              try dsimp only at h
              obtain ⟨e122, c122, g122, q122, h⟩ := idx_s encAttr h
              try simp -implicitDefEqProofs only [go_sem, reduceEqDiff, reduceLT, reduceLeDiff, reduceMul, reduceAdd, reduceIte, reduceCtorEq, Nat.reduceBEq, reduceSub, Int.reduceToNat, encAttr, encEdgeT, encInts, encNode, encS, encStrs, b3, b4, his49, hws49, c92, g92, b93, b94, his109, hws109, c122, g122]
              refine walkG_splitN (fun b123 => ?_) (fun b123 => ?_)
              · replace h := cond_t h b123
                cases h
                try simp -implicitDefEqProofs only [go_sem, reduceEqDiff, reduceLT, reduceLeDiff, reduceMul, reduceAdd, reduceIte, reduceCtorEq, Nat.reduceBEq, reduceSub, Int.reduceToNat, encAttr, encEdgeT, encInts, encNode, encS, encStrs, b3, b4, his49, hws49, c92, g92, b93, b94, his109, hws109, c122, g122, b123]
                all_goals ((repeat' apply And.intro) <;> rfl)
              · replace h := cond_f h b123
                try simp -implicitDefEqProofs only [go_sem, reduceEqDiff, reduceLT, reduceLeDiff, reduceMul, reduceAdd, reduceIte, reduceCtorEq, Nat.reduceBEq, reduceSub, Int.reduceToNat, encAttr, encEdgeT, encInts, encNode, encS, encStrs, b3, b4, his49, hws49, c92, g92, b93, b94, his109, hws109, c122, g122, b123]
                refine condC_split (fun b124 => ?_) (fun b124 => ?_)
                · replace h := cond_t h b124
                  cases h
                  try simp -implicitDefEqProofs only [go_sem, reduceEqDiff, reduceLT, reduceLeDiff, reduceMul, reduceAdd, reduceIte, reduceCtorEq, Nat.reduceBEq, reduceSub, Int.reduceToNat, encAttr, encEdgeT, encInts, encNode, encS, encStrs, b3, b4, his49, hws49, c92, g92, b93, b94, his109, hws109, c122, g122, b123, b124]
                  all_goals ((repeat' apply And.intro) <;> rfl)
                · replace h := cond_f h b124
                  obtain ⟨fus129, h⟩ := chk_s h
                  unfold fuel at fus129
                  try simp -implicitDefEqProofs only [go_sem, reduceEqDiff, reduceLT, reduceLeDiff, reduceMul, reduceAdd, reduceIte, reduceCtorEq, Nat.reduceBEq, reduceSub, Int.reduceToNat, encAttr, encEdgeT, encInts, encNode, encS, encStrs, b3, b4, his49, hws49, c92, g92, b93, b94, his109, hws109, c122, g122, b123, b124]
                  refine forN_go (fun x : (Nat × (Unit)) × (Unit) => envL [(1, .ptr 1 0), (3, .p (.val (.int .i64 (IntKind.i64.wrap (s49 + ((e92.attrs.length : Nat) : Int)))))), (4, .p (.val (.int .i64 ((i49 : Nat) : Int)))), (5, .p (.val (.int .i64 ((i109 : Nat) : Int)))), (6, .ptr 6 0), (7, .p (.val (.int .i64 ((x.1.1 : Nat) : Int))))]) (fun x => heapL [(1, .box [.p (.lst (a0.nodes.map encNode)), .p (.lst (a0.edges.map encEdgeT))]), (6, .box [.p (.val (.string e122.name)), .p (.val (.int .i64 e122.low)), .p (.val (.int .i64 e122.high)), .p (.lst (e122.names.map encS))])]) () h (weakL (by simp -implicitDefEqProofs only [go_sem, reduceEqDiff, reduceLT, reduceLeDiff, reduceMul, reduceAdd, reduceIte, reduceCtorEq, Nat.reduceBEq, reduceSub, Int.reduceToNat, encAttr, encEdgeT, encInts, encNode, encS, encStrs, b3, b4, his49, hws49, c92, g92, b93, b94, his109, hws109, c122, g122, b123, b124] <;> ((repeat' apply And.intro) <;> rfl))) ?_ ?_
                  · intro i129 s129 g129 nxts129 Rs129 his129 hNs129 h
                    have hws129 := wrap_succ (k := i129) his129 (by omega)
                    try dsimp only at h
                    obtain ⟨e132, c132, g132, q132, h⟩ := idx_s encS h
                    try simp -implicitDefEqProofs only [go_sem, reduceEqDiff, reduceLT, reduceLeDiff, reduceMul, reduceAdd, reduceIte, reduceCtorEq, Nat.reduceBEq, reduceSub, Int.reduceToNat, encAttr, encEdgeT, encInts, encNode, encS, encStrs, b3, b4, his49, hws49, c92, g92, b93, b94, his109, hws109, c122, g122, b123, b124, his129, hws129, c132, g132]
                    refine condC_split (fun b133 => ?_) (fun b133 => ?_)
                    · replace h := cond_t h b133
                      cases h
                      try simp -implicitDefEqProofs only [go_sem, reduceEqDiff, reduceLT, reduceLeDiff, reduceMul, reduceAdd, reduceIte, reduceCtorEq, Nat.reduceBEq, reduceSub, Int.reduceToNat, encAttr, encEdgeT, encInts, encNode, encS, encStrs, b3, b4, his49, hws49, c92, g92, b93, b94, his109, hws109, c122, g122, b123, b124, his129, hws129, c132, g132, b133]
                      all_goals ((repeat' apply And.intro) <;> rfl)
                    · replace h := cond_f h b133
                      try simp -implicitDefEqProofs only [go_sem, reduceEqDiff, reduceLT, reduceLeDiff, reduceMul, reduceAdd, reduceIte, reduceCtorEq, Nat.reduceBEq, reduceSub, Int.reduceToNat, encAttr, encEdgeT, encInts, encNode, encS, encStrs, b3, b4, his49, hws49, c92, g92, b93, b94, his109, hws109, c122, g122, b123, b124, his129, hws129, c132, g132, b133]
                      exact hNs129 () () h (weakL (by simp -implicitDefEqProofs only [go_sem, reduceEqDiff, reduceLT, reduceLeDiff, reduceMul, reduceAdd, reduceIte, reduceCtorEq, Nat.reduceBEq, reduceSub, Int.reduceToNat, encAttr, encEdgeT, encInts, encNode, encS, encStrs, b3, b4, his49, hws49, c92, g92, b93, b94, his109, hws109, c122, g122, b123, b124, his129, hws129, c132, g132, b133] <;> ((repeat' apply And.intro) <;> rfl)))
                  · intro i129 s129 g129 Rs129 hes129 h
                    have hns129 : ¬ (i129 < e122.names.length) := by omega
                    try dsimp only at h
                    try simp -implicitDefEqProofs only [go_sem, reduceEqDiff, reduceLT, reduceLeDiff, reduceMul, reduceAdd, reduceIte, reduceCtorEq, Nat.reduceBEq, reduceSub, Int.reduceToNat, encAttr, encEdgeT, encInts, encNode, encS, encStrs, b3, b4, his49, hws49, c92, g92, b93, b94, his109, hws109, c122, g122, b123, b124, hns129]
                    exact hNs109 () () h (weakL (by simp -implicitDefEqProofs only [go_sem, reduceEqDiff, reduceLT, reduceLeDiff, reduceMul, reduceAdd, reduceIte, reduceCtorEq, Nat.reduceBEq, reduceSub, Int.reduceToNat, encAttr, encEdgeT, encInts, encNode, encS, encStrs, b3, b4, his49, hws49, c92, g92, b93, b94, his109, hws109, c122, g122, b123, b124, hns129] <;> ((repeat' apply And.intro) <;> rfl)))
            · intro i109 s109 g109 Rs109 hes109 h
              have hns109 : ¬ (i109 < e92.attrs.length) := by omega
              try dsimp only at h
              try simp -implicitDefEqProofs only [go_sem, reduceEqDiff, reduceLT, reduceLeDiff, reduceMul, reduceAdd, reduceIte, reduceCtorEq, Nat.reduceBEq, reduceSub, Int.reduceToNat, encAttr, encEdgeT, encInts, encNode, encS, encStrs, b3, b4, his49, hws49, c92, g92, b93, b94, hns109]
              exact hNs49 (IntKind.i64.wrap (s49 + ((e92.attrs.length : Nat) : Int))) () h (weakL (by simp -implicitDefEqProofs only [go_sem, reduceEqDiff, reduceLT, reduceLeDiff, reduceMul, reduceAdd, reduceIte, reduceCtorEq, Nat.reduceBEq, reduceSub, Int.reduceToNat, encAttr, encEdgeT, encInts, encNode, encS, encStrs, b3, b4, his49, hws49, c92, g92, b93, b94, hns109] <;> ((repeat' apply And.intro) <;> rfl)))
      · intro i49 s49 g49 Rs49 hes49 h
        have hns49 : ¬ (i49 < a0.nodes.length) := by omega
        try dsimp only at h
        obtain ⟨fus138, h⟩ := chk_s h
        unfold fuel at fus138
        try simp -implicitDefEqProofs only [go_sem, reduceEqDiff, reduceLT, reduceLeDiff, reduceMul, reduceAdd, reduceIte, reduceCtorEq, Nat.reduceBEq, reduceSub, Int.reduceToNat, encAttr, encEdgeT, encInts, encNode, encS, encStrs, b3, b4, hns49]
        refine forN_go (fun x : (Nat × (Unit)) × (Unit) => envL [(1, .ptr 1 0), (8, .p (.val (.int .i64 ((x.1.1 : Nat) : Int))))]) (fun x => heapL [(1, .box [.p (.lst (a0.nodes.map encNode)), .p (.lst (a0.edges.map encEdgeT))])]) () h (weakL (by simp -implicitDefEqProofs only [go_sem, reduceEqDiff, reduceLT, reduceLeDiff, reduceMul, reduceAdd, reduceIte, reduceCtorEq, Nat.reduceBEq, reduceSub, Int.reduceToNat, encAttr, encEdgeT, encInts, encNode, encS, encStrs, b3, b4, hns49] <;> ((repeat' apply And.intro) <;> rfl))) ?_ ?_
        · intro i138 s138 g138 nxts138 Rs138 his138 hNs138 h
          have hws138 := wrap_succ (k := i138) his138 (by omega)
          try dsimp only at h
          obtain ⟨e141, c141, g141, q141, h⟩ := idx_s encEdgeT h
          try simp -implicitDefEqProofs only [go_sem, reduceEqDiff, reduceLT, reduceLeDiff, reduceMul, reduceAdd, reduceIte, reduceCtorEq, Nat.reduceBEq, reduceSub, Int.reduceToNat, encAttr, encEdgeT, encInts, encNode, encS, encStrs, b3, b4, hns49, his138, hws138, c141, g141]
          refine condC_split (fun b142 => ?_) (fun b142 => ?_)
          · replace h := cond_t h b142
            cases h
            try simp -implicitDefEqProofs only [go_sem, reduceEqDiff, reduceLT, reduceLeDiff, reduceMul, reduceAdd, reduceIte, reduceCtorEq, Nat.reduceBEq, reduceSub, Int.reduceToNat, encAttr, encEdgeT, encInts, encNode, encS, encStrs, b3, b4, hns49, his138, hws138, c141, g141, b142]
            all_goals ((repeat' apply And.intro) <;> rfl)
          · replace h := cond_f h b142
            try simp -implicitDefEqProofs only [go_sem, reduceEqDiff, reduceLT, reduceLeDiff, reduceMul, reduceAdd, reduceIte, reduceCtorEq, Nat.reduceBEq, reduceSub, Int.reduceToNat, encAttr, encEdgeT, encInts, encNode, encS, encStrs, b3, b4, hns49, his138, hws138, c141, g141, b142]
            exact hNs138 () () h (weakL (by simp -implicitDefEqProofs only [go_sem, reduceEqDiff, reduceLT, reduceLeDiff, reduceMul, reduceAdd, reduceIte, reduceCtorEq, Nat.reduceBEq, reduceSub, Int.reduceToNat, encAttr, encEdgeT, encInts, encNode, encS, encStrs, b3, b4, hns49, his138, hws138, c141, g141, b142] <;> ((repeat' apply And.intro) <;> rfl)))
        · intro i138 s138 g138 Rs138 hes138 h
          have hns138 : ¬ (i138 < a0.edges.length) := by omega
          try dsimp only at h
          cases h
          try simp -implicitDefEqProofs only [go_sem, reduceEqDiff, reduceLT, reduceLeDiff, reduceMul, reduceAdd, reduceIte, reduceCtorEq, Nat.reduceBEq, reduceSub, Int.reduceToNat, encAttr, encEdgeT, encInts, encNode, encS, encStrs, b3, b4, hns49, hns138]
          all_goals ((repeat' apply And.intro) <;> rfl)


def f_scarfjointref52_Few (a0 : Sorts) : Option Bool :=
  some (decide ((IntKind.i64.wrap (((a0.nodes.length : Nat) : Int) + ((a0.edges.length : Nat) : Int))) ≤ 50))
set_option maxHeartbeats 4000000 in
theorem w_scarfjointref52_Few (a0 : Sorts) (r : Bool) (h : f_scarfjointref52_Few a0 = some r) : CallV Go.Proofs.Tryz.prog 30 [.agg [.lst (a0.nodes.map encI), .lst (a0.edges.map encI)]] (fun v => v = .val (.bool r)) := by
  refine CallV.ple ?_
  refine callV_of_cw [] Ty.mixed Go.Proofs.Tryz.func30 rfl (by kernel_rfl) (by simp [Go.Proofs.Tryz.ntmps30]) ?_; rw [Go.Proofs.Tryz.ntmps30, Go.Proofs.Tryz.results30]
  unfold f_scarfjointref52_Few at h
  cases h
  try simp -implicitDefEqProofs only [go_sem, reduceEqDiff, reduceLT, reduceLeDiff, reduceMul, reduceAdd, reduceIte, reduceCtorEq, Nat.reduceBEq, reduceSub, Int.reduceToNat, encI]
  all_goals ((repeat' apply And.intro) <;> rfl)


def f_scarfjointref05_Few (a0 : Graph) : Option Bool :=
  cond (decide (((a0.nodes.length : Nat) : Int) ≤ 45)) (
    some (decide (((a0.edges.length : Nat) : Int) ≤ 90))) <|
  some false
set_option maxHeartbeats 4000000 in
theorem w_scarfjointref05_Few (a0 : Graph) (r : Bool) (h : f_scarfjointref05_Few a0 = some r) : CallV Go.Proofs.Tryz.prog 61 [.agg [.lst (a0.nodes.map encI), .lst (a0.edges.map encEdge)]] (fun v => v = .val (.bool r)) := by
  refine CallV.ple ?_
  refine callV_of_cw [] Ty.mixed Go.Proofs.Tryz.func61 rfl (by kernel_rfl) (by simp [Go.Proofs.Tryz.ntmps61]) ?_; rw [Go.Proofs.Tryz.ntmps61, Go.Proofs.Tryz.results61]
  unfold f_scarfjointref05_Few at h
  try simp -implicitDefEqProofs only [go_sem, reduceEqDiff, reduceLT, reduceLeDiff, reduceMul, reduceAdd, reduceIte, reduceCtorEq, Nat.reduceBEq, reduceSub, Int.reduceToNat, encEdge, encI]
  refine walkG_split (fun b147 => ?_) (fun b147 => ?_)
  · replace h := cond_t h b147
    cases h
    try simp -implicitDefEqProofs only [go_sem, reduceEqDiff, reduceLT, reduceLeDiff, reduceMul, reduceAdd, reduceIte, reduceCtorEq, Nat.reduceBEq, reduceSub, Int.reduceToNat, encEdge, encI, b147]
    all_goals ((repeat' apply And.intro) <;> rfl)
  · replace h := cond_f h b147
    cases h
    try simp -implicitDefEqProofs only [go_sem, reduceEqDiff, reduceLT, reduceLeDiff, reduceMul, reduceAdd, reduceIte, reduceCtorEq, Nat.reduceBEq, reduceSub, Int.reduceToNat, encEdge, encI, b147]
    all_goals ((repeat' apply And.intro) <;> rfl)


def f_scarfjointref15_Few (a0 : Host) : Option Bool :=
  thn (f_scarfjointref05_Few a0.graph) fun r148 =>
  cond r148 (
    cond (decide (45 < ((a0.values.length : Nat) : Int))) (
      some false) <|
    chk (a0.values.length ≤ fuel) <|
    forN (fun i155 (s155 : Unit) nxts155 brks155 =>
      thn (a0.values[i155]?) fun e158 =>
      cond (decide (12 < ((e158.length : Nat) : Int))) (
        some false) <|
      nxts155 ())
    (a0.values.length - 0) 0 () fun s155 =>
    some true) <|
  some false
set_option maxHeartbeats 4000000 in
theorem w_scarfjointref15_Few (a0 : Host) (r : Bool) (h : f_scarfjointref15_Few a0 = some r) : CallV Go.Proofs.Tryz.prog 31 [.agg [.lst (a0.graph.nodes.map encI), .lst (a0.graph.edges.map encEdge), .lst (a0.values.map encRow)]] (fun v => v = .val (.bool r)) := by
  refine CallV.ple ?_
  refine callV_of_cw [] Ty.mixed Go.Proofs.Tryz.func31 rfl (by kernel_rfl) (by simp [Go.Proofs.Tryz.ntmps31]) ?_; rw [Go.Proofs.Tryz.ntmps31, Go.Proofs.Tryz.results31]
  unfold f_scarfjointref15_Few at h
  obtain ⟨r148, hr148, h⟩ := thn_s h
  try simp -implicitDefEqProofs only [go_sem, reduceEqDiff, reduceLT, reduceLeDiff, reduceMul, reduceAdd, reduceIte, reduceCtorEq, Nat.reduceBEq, reduceSub, Int.reduceToNat, encEdge, encI, encInts, encRow, encStrs]
  refine callG (w_scarfjointref05_Few a0.graph r148 hr148) (by simp -implicitDefEqProofs only [go_sem, reduceEqDiff, reduceLT, reduceLeDiff, reduceMul, reduceAdd, reduceIte, reduceCtorEq, Nat.reduceBEq, reduceSub, Int.reduceToNat, encEdge, encI, encInts, encRow, encStrs] <;> rfl) (pleL_refl _) (by first | exact pers | exact scal rfl) ?_
  try simp -implicitDefEqProofs only [go_sem, reduceEqDiff, reduceLT, reduceLeDiff, reduceMul, reduceAdd, reduceIte, reduceCtorEq, Nat.reduceBEq, reduceSub, Int.reduceToNat, encEdge, encI, encInts, encRow, encStrs]
  refine walkG_split (fun b149 => ?_) (fun b149 => ?_)
  · replace h := cond_t h b149
    try simp -implicitDefEqProofs only [go_sem, reduceEqDiff, reduceLT, reduceLeDiff, reduceMul, reduceAdd, reduceIte, reduceCtorEq, Nat.reduceBEq, reduceSub, Int.reduceToNat, encEdge, encI, encInts, encRow, encStrs, b149]
    refine condC_split (fun b150 => ?_) (fun b150 => ?_)
    · replace h := cond_t h b150
      cases h
      try simp -implicitDefEqProofs only [go_sem, reduceEqDiff, reduceLT, reduceLeDiff, reduceMul, reduceAdd, reduceIte, reduceCtorEq, Nat.reduceBEq, reduceSub, Int.reduceToNat, encEdge, encI, encInts, encRow, encStrs, b149, b150]
      all_goals ((repeat' apply And.intro) <;> rfl)
    · replace h := cond_f h b150
      obtain ⟨fus155, h⟩ := chk_s h
      unfold fuel at fus155
      try simp -implicitDefEqProofs only [go_sem, reduceEqDiff, reduceLT, reduceLeDiff, reduceMul, reduceAdd, reduceIte, reduceCtorEq, Nat.reduceBEq, reduceSub, Int.reduceToNat, encEdge, encI, encInts, encRow, encStrs, b149, b150]
      refine forN_go (fun x : (Nat × (Unit)) × (Unit) => envL [(1, .ptr 1 0), (3, .p (.val (.int .i64 ((x.1.1 : Nat) : Int))))]) (fun x => heapL [(1, .box [.p (.lst (a0.graph.nodes.map encI)), .p (.lst (a0.graph.edges.map encEdge)), .p (.lst (a0.values.map encRow))])]) () h (weakL (by simp -implicitDefEqProofs only [go_sem, reduceEqDiff, reduceLT, reduceLeDiff, reduceMul, reduceAdd, reduceIte, reduceCtorEq, Nat.reduceBEq, reduceSub, Int.reduceToNat, encEdge, encI, encInts, encRow, encStrs, b149, b150] <;> ((repeat' apply And.intro) <;> rfl))) ?_ ?_
      · intro i155 s155 g155 nxts155 Rs155 his155 hNs155 h
        have hws155 := wrap_succ (k := i155) his155 (by omega)
        try dsimp only at h
        obtain ⟨e158, c158, g158, q158, h⟩ := idx_s encRow h
        try simp -implicitDefEqProofs only [go_sem, reduceEqDiff, reduceLT, reduceLeDiff, reduceMul, reduceAdd, reduceIte, reduceCtorEq, Nat.reduceBEq, reduceSub, Int.reduceToNat, encEdge, encI, encInts, encRow, encStrs, b149, b150, his155, hws155, c158, g158]
        refine condC_split (fun b159 => ?_) (fun b159 => ?_)
        · replace h := cond_t h b159
          cases h
          try simp -implicitDefEqProofs only [go_sem, reduceEqDiff, reduceLT, reduceLeDiff, reduceMul, reduceAdd, reduceIte, reduceCtorEq, Nat.reduceBEq, reduceSub, Int.reduceToNat, encEdge, encI, encInts, encRow, encStrs, b149, b150, his155, hws155, c158, g158, b159]
          all_goals ((repeat' apply And.intro) <;> rfl)
        · replace h := cond_f h b159
          try simp -implicitDefEqProofs only [go_sem, reduceEqDiff, reduceLT, reduceLeDiff, reduceMul, reduceAdd, reduceIte, reduceCtorEq, Nat.reduceBEq, reduceSub, Int.reduceToNat, encEdge, encI, encInts, encRow, encStrs, b149, b150, his155, hws155, c158, g158, b159]
          exact hNs155 () () h (weakL (by simp -implicitDefEqProofs only [go_sem, reduceEqDiff, reduceLT, reduceLeDiff, reduceMul, reduceAdd, reduceIte, reduceCtorEq, Nat.reduceBEq, reduceSub, Int.reduceToNat, encEdge, encI, encInts, encRow, encStrs, b149, b150, his155, hws155, c158, g158, b159] <;> ((repeat' apply And.intro) <;> rfl)))
      · intro i155 s155 g155 Rs155 hes155 h
        have hns155 : ¬ (i155 < a0.values.length) := by omega
        try dsimp only at h
        cases h
        try simp -implicitDefEqProofs only [go_sem, reduceEqDiff, reduceLT, reduceLeDiff, reduceMul, reduceAdd, reduceIte, reduceCtorEq, Nat.reduceBEq, reduceSub, Int.reduceToNat, encEdge, encI, encInts, encRow, encStrs, b149, b150, hns155]
        all_goals ((repeat' apply And.intro) <;> rfl)
  · replace h := cond_f h b149
    cases h
    try simp -implicitDefEqProofs only [go_sem, reduceEqDiff, reduceLT, reduceLeDiff, reduceMul, reduceAdd, reduceIte, reduceCtorEq, Nat.reduceBEq, reduceSub, Int.reduceToNat, encEdge, encI, encInts, encRow, encStrs, b149]
    all_goals ((repeat' apply And.intro) <;> rfl)


def f_scarfjointlaw52_few (a0 : Types) (a1 : Sorts) (a2 : Host) : Option Bool :=
  thn (f_scarfjointref04_Few a0) fun r143 =>
  cond r143 (
    thn (f_scarfjointref52_Few a1) fun r145 =>
    cond r145 (
      thn (f_scarfjointref15_Few a2) fun r160 =>
      some r160) <|
    some false) <|
  some false
set_option maxHeartbeats 4000000 in
theorem w_scarfjointlaw52_few (a0 : Types) (a1 : Sorts) (a2 : Host) (r : Bool) (h : f_scarfjointlaw52_few a0 a1 a2 = some r) : CallV Go.Proofs.Tryz.prog 10 [.agg [.lst (a0.nodes.map encNode), .lst (a0.edges.map encEdgeT)], .agg [.lst (a1.nodes.map encI), .lst (a1.edges.map encI)], .agg [.lst (a2.graph.nodes.map encI), .lst (a2.graph.edges.map encEdge), .lst (a2.values.map encRow)]] (fun v => v = .val (.bool r)) := by
  refine CallV.ple ?_
  refine callV_of_cw [] Ty.mixed Go.Proofs.Tryz.func10 rfl (by kernel_rfl) (by simp [Go.Proofs.Tryz.ntmps10]) ?_; rw [Go.Proofs.Tryz.ntmps10, Go.Proofs.Tryz.results10]
  unfold f_scarfjointlaw52_few at h
  obtain ⟨r143, hr143, h⟩ := thn_s h
  try simp -implicitDefEqProofs only [go_sem, reduceEqDiff, reduceLT, reduceLeDiff, reduceMul, reduceAdd, reduceIte, reduceCtorEq, Nat.reduceBEq, reduceSub, Int.reduceToNat, encEdge, encEdgeT, encI, encInts, encNode, encRow, encStrs]
  refine callG (w_scarfjointref04_Few a0 r143 hr143) (by simp -implicitDefEqProofs only [go_sem, reduceEqDiff, reduceLT, reduceLeDiff, reduceMul, reduceAdd, reduceIte, reduceCtorEq, Nat.reduceBEq, reduceSub, Int.reduceToNat, encEdge, encEdgeT, encI, encInts, encNode, encRow, encStrs] <;> rfl) (pleL_refl _) (by first | exact pers | exact scal rfl) ?_
  try simp -implicitDefEqProofs only [go_sem, reduceEqDiff, reduceLT, reduceLeDiff, reduceMul, reduceAdd, reduceIte, reduceCtorEq, Nat.reduceBEq, reduceSub, Int.reduceToNat, encEdge, encEdgeT, encI, encInts, encNode, encRow, encStrs]
  refine walkG_split (fun b144 => ?_) (fun b144 => ?_)
  · replace h := cond_t h b144
    obtain ⟨r145, hr145, h⟩ := thn_s h
    try simp -implicitDefEqProofs only [go_sem, reduceEqDiff, reduceLT, reduceLeDiff, reduceMul, reduceAdd, reduceIte, reduceCtorEq, Nat.reduceBEq, reduceSub, Int.reduceToNat, encEdge, encEdgeT, encI, encInts, encNode, encRow, encStrs, b144]
    refine callG (w_scarfjointref52_Few a1 r145 hr145) (by simp -implicitDefEqProofs only [go_sem, reduceEqDiff, reduceLT, reduceLeDiff, reduceMul, reduceAdd, reduceIte, reduceCtorEq, Nat.reduceBEq, reduceSub, Int.reduceToNat, encEdge, encEdgeT, encI, encInts, encNode, encRow, encStrs, b144] <;> rfl) (pleL_refl _) (by first | exact pers | exact scal rfl) ?_
    try simp -implicitDefEqProofs only [go_sem, reduceEqDiff, reduceLT, reduceLeDiff, reduceMul, reduceAdd, reduceIte, reduceCtorEq, Nat.reduceBEq, reduceSub, Int.reduceToNat, encEdge, encEdgeT, encI, encInts, encNode, encRow, encStrs, b144]
    refine walkG_split (fun b146 => ?_) (fun b146 => ?_)
    · replace h := cond_t h b146
      obtain ⟨r160, hr160, h⟩ := thn_s h
      try simp -implicitDefEqProofs only [go_sem, reduceEqDiff, reduceLT, reduceLeDiff, reduceMul, reduceAdd, reduceIte, reduceCtorEq, Nat.reduceBEq, reduceSub, Int.reduceToNat, encEdge, encEdgeT, encI, encInts, encNode, encRow, encStrs, b144, b146]
      refine callG (w_scarfjointref15_Few a2 r160 hr160) (by simp -implicitDefEqProofs only [go_sem, reduceEqDiff, reduceLT, reduceLeDiff, reduceMul, reduceAdd, reduceIte, reduceCtorEq, Nat.reduceBEq, reduceSub, Int.reduceToNat, encEdge, encEdgeT, encI, encInts, encNode, encRow, encStrs, b144, b146] <;> rfl) (pleL_refl _) (by first | exact pers | exact scal rfl) ?_
      cases h
      try simp -implicitDefEqProofs only [go_sem, reduceEqDiff, reduceLT, reduceLeDiff, reduceMul, reduceAdd, reduceIte, reduceCtorEq, Nat.reduceBEq, reduceSub, Int.reduceToNat, encEdge, encEdgeT, encI, encInts, encNode, encRow, encStrs, b144, b146]
      all_goals ((repeat' apply And.intro) <;> rfl)
    · replace h := cond_f h b146
      cases h
      try simp -implicitDefEqProofs only [go_sem, reduceEqDiff, reduceLT, reduceLeDiff, reduceMul, reduceAdd, reduceIte, reduceCtorEq, Nat.reduceBEq, reduceSub, Int.reduceToNat, encEdge, encEdgeT, encI, encInts, encNode, encRow, encStrs, b144, b146]
      all_goals ((repeat' apply And.intro) <;> rfl)
  · replace h := cond_f h b144
    cases h
    try simp -implicitDefEqProofs only [go_sem, reduceEqDiff, reduceLT, reduceLeDiff, reduceMul, reduceAdd, reduceIte, reduceCtorEq, Nat.reduceBEq, reduceSub, Int.reduceToNat, encEdge, encEdgeT, encI, encInts, encNode, encRow, encStrs, b144]
    all_goals ((repeat' apply And.intro) <;> rfl)


def f_triple_part (a0 : Sorts) (a1 : Graph) (a2 : Int) : Option Part :=
  chk (a1.nodes.length ≤ fuel) <|
  forN (fun i217 (s217 : (List Int)) nxts217 brks217 =>
    thn (a1.nodes[i217]?) fun e224 =>
    thn (atZ a0.nodes e224) fun e225 =>
    cond (decide (e225 = a2)) (
      chk (s217.length + 1 ≤ 68719476736) <|
      nxts217 (s217 ++ [((i217 : Nat) : Int)])) <|
    nxts217 s217)
  (a1.nodes.length - 0) 0 ([] : List Int) fun s217 =>
  chk (a1.edges.length ≤ fuel) <|
  forN (fun i238 (s238 : (List Int)) nxts238 brks238 =>
    thn (a1.edges[i238]?) fun e245 =>
    thn (atZ a0.edges e245.type) fun e246 =>
    cond (decide (e246 = a2)) (
      chk (s238.length + 1 ≤ 68719476736) <|
      nxts238 (s238 ++ [((i238 : Nat) : Int)])) <|
    nxts238 s238)
  (a1.edges.length - 0) 0 ([] : List Int) fun s238 =>
  some (⟨s217, s238⟩ : Part)
set_option maxHeartbeats 4000000 in
theorem w_triple_part (a0 : Sorts) (a1 : Graph) (a2 : Int) (r : Part) (h : f_triple_part a0 a1 a2 = some r) : CallF Go.Proofs.Tryz.prog 51 [.agg [.lst (a0.nodes.map encI), .lst (a0.edges.map encI)], .agg [.lst (a1.nodes.map encI), .lst (a1.edges.map encEdge)], .val (.int .i64 a2)] (fun v => v = .agg [.row 3 1 (r.nodes.map encI), .row 3 1 (r.edges.map encI)]) := by
  refine CallF.rle ?_
  refine callF_of_cw [31, 54] Ty.mixed Go.Proofs.Tryz.func51 rfl (by kernel_rfl) (by simp [Go.Proofs.Tryz.ntmps51]) ?_; rw [Go.Proofs.Tryz.ntmps51, Go.Proofs.Tryz.results51]
  unfold f_triple_part at h
  obtain ⟨fus217, h⟩ := chk_s h
  unfold fuel at fus217
  try simp -implicitDefEqProofs only [go_sem, reduceEqDiff, reduceLT, reduceLeDiff, reduceMul, reduceAdd, reduceIte, reduceCtorEq, Nat.reduceBEq, reduceSub, Int.reduceToNat, encEdge, encI]
  refine forN_go (fun x : (Nat × ((List Int))) × (Nat) => envL [(2, .p (.val (.int .i64 a2))), (3, .ptr 3 0), (4, .ptr 4 0), (6, .ptr 6 0), (7, .ptr 7 0), (13, .p (.lst (a1.nodes.map encI))), (14, .p (.val (.int .i64 ((a1.nodes.length : Nat) : Int)))), (15, .p (.val (.int .i64 ((x.1.1 : Nat) : Int))))]) (fun x => heapL [(3, .box [.p (.lst (a0.nodes.map encI)), .p (.lst (a0.edges.map encI))]), (4, .box [.p (.lst (a1.nodes.map encI)), .p (.lst (a1.edges.map encEdge))]), (6, .box [.p (.val (.slice none 0 0)), .p (.val (.slice none 0 0))]), (7, .box [.row 2215 x.2, .p (.val (.slice none 0 0))]), (2215, .row x.2 3 1 (x.1.2.map encI))]) 0 h (by refine Weak.trans (weak_nilbox 7 0 2215 3 1 _ rfl rfl rfl (by decide)) ?_; exact (weakL (by simp -implicitDefEqProofs only [go_sem, reduceEqDiff, reduceLT, reduceLeDiff, reduceMul, reduceAdd, reduceIte, reduceCtorEq, Nat.reduceBEq, reduceSub, Int.reduceToNat, encEdge, encI] <;> ((repeat' apply And.intro) <;> rfl)))) ?_ ?_
  · intro i217 s217 g217 nxts217 Rs217 his217 hNs217 h
    have hws217 := wrap_succ (k := i217) his217 (by omega)
    try dsimp only at h
    obtain ⟨e224, c224, g224, q224, h⟩ := idx_s encI h
    obtain ⟨e225, c225a, c225b, g225, q225, h⟩ := atZ_s encI h
    have c225n := toNat_lt c225a c225b
    try simp -implicitDefEqProofs only [go_sem, reduceEqDiff, reduceLT, reduceLeDiff, reduceMul, reduceAdd, reduceIte, reduceCtorEq, Nat.reduceBEq, reduceSub, Int.reduceToNat, encEdge, encI, his217, hws217, c224, g224, c225a, c225b, c225n, g225]
    refine condC_split (fun b226 => ?_) (fun b226 => ?_)
    · replace h := cond_t h b226
      obtain ⟨c227, h⟩ := chk_s h
      have k228 := eq_true (show (s217.length + 1) * 8 ≤ 140737488355328 by omega)
      have a229 := map_apps encI s217 [((i217 : Nat) : Int)] (c := [[.val (.int .i64 ((i217 : Nat) : Int))]]) rfl
      try simp -implicitDefEqProofs only [go_sem, reduceEqDiff, reduceLT, reduceLeDiff, reduceMul, reduceAdd, reduceIte, reduceCtorEq, Nat.reduceBEq, reduceSub, Int.reduceToNat, encEdge, encI, his217, hws217, c224, g224, c225a, c225b, c225n, g225, b226, c227, k228, a229]
      exact hNs217 (s217 ++ [((i217 : Nat) : Int)]) (g217 + 1) h (weakL (by simp -implicitDefEqProofs only [go_sem, reduceEqDiff, reduceLT, reduceLeDiff, reduceMul, reduceAdd, reduceIte, reduceCtorEq, Nat.reduceBEq, reduceSub, Int.reduceToNat, encEdge, encI, his217, hws217, c224, g224, c225a, c225b, c225n, g225, b226, c227, k228, a229] <;> ((repeat' apply And.intro) <;> rfl)))
    · replace h := cond_f h b226
      try simp -implicitDefEqProofs only [go_sem, reduceEqDiff, reduceLT, reduceLeDiff, reduceMul, reduceAdd, reduceIte, reduceCtorEq, Nat.reduceBEq, reduceSub, Int.reduceToNat, encEdge, encI, his217, hws217, c224, g224, c225a, c225b, c225n, g225, b226]
      exact hNs217 s217 g217 h (weakL (by simp -implicitDefEqProofs only [go_sem, reduceEqDiff, reduceLT, reduceLeDiff, reduceMul, reduceAdd, reduceIte, reduceCtorEq, Nat.reduceBEq, reduceSub, Int.reduceToNat, encEdge, encI, his217, hws217, c224, g224, c225a, c225b, c225n, g225, b226] <;> ((repeat' apply And.intro) <;> rfl)))
  · intro i217 s217 g217 Rs217 hes217 h
    have hns217 : ¬ (i217 < a1.nodes.length) := by omega
    try dsimp only at h
    obtain ⟨fus238, h⟩ := chk_s h
    unfold fuel at fus238
    try simp -implicitDefEqProofs only [go_sem, reduceEqDiff, reduceLT, reduceLeDiff, reduceMul, reduceAdd, reduceIte, reduceCtorEq, Nat.reduceBEq, reduceSub, Int.reduceToNat, encEdge, encI, hns217]
    refine forN_go (fun x : (Nat × ((List Int))) × (Nat) => envL [(2, .p (.val (.int .i64 a2))), (3, .ptr 3 0), (6, .ptr 6 0), (7, .ptr 7 0), (35, .p (.lst (a1.edges.map encEdge))), (36, .p (.val (.int .i64 ((a1.edges.length : Nat) : Int)))), (37, .p (.val (.int .i64 ((x.1.1 : Nat) : Int))))]) (fun x => heapL [(3, .box [.p (.lst (a0.nodes.map encI)), .p (.lst (a0.edges.map encI))]), (6, .box [.p (.val (.slice none 0 0)), .p (.val (.slice none 0 0))]), (7, .box [.row 2215 g217, .row 2236 x.2]), (2215, .row g217 3 1 (s217.map encI)), (2236, .row x.2 3 1 (x.1.2.map encI))]) 0 h (by refine Weak.trans (weak_nilbox 7 1 2236 3 1 _ rfl rfl rfl (by decide)) ?_; exact (weakL (by simp -implicitDefEqProofs only [go_sem, reduceEqDiff, reduceLT, reduceLeDiff, reduceMul, reduceAdd, reduceIte, reduceCtorEq, Nat.reduceBEq, reduceSub, Int.reduceToNat, encEdge, encI, hns217] <;> ((repeat' apply And.intro) <;> rfl)))) ?_ ?_
    · intro i238 s238 g238 nxts238 Rs238 his238 hNs238 h
      have hws238 := wrap_succ (k := i238) his238 (by omega)
      try dsimp only at h
      obtain ⟨e245, c245, g245, q245, h⟩ := idx_s encEdge h
      obtain ⟨e246, c246a, c246b, g246, q246, h⟩ := atZ_s encI h
      have c246n := toNat_lt c246a c246b
      try simp -implicitDefEqProofs only [go_sem, reduceEqDiff, reduceLT, reduceLeDiff, reduceMul, reduceAdd, reduceIte, reduceCtorEq, Nat.reduceBEq, reduceSub, Int.reduceToNat, encEdge, encI, hns217, his238, hws238, c245, g245, c246a, c246b, c246n, g246]
      refine condC_split (fun b247 => ?_) (fun b247 => ?_)
      · replace h := cond_t h b247
        obtain ⟨c248, h⟩ := chk_s h
        have k249 := eq_true (show (s238.length + 1) * 8 ≤ 140737488355328 by omega)
        have a250 := map_apps encI s238 [((i238 : Nat) : Int)] (c := [[.val (.int .i64 ((i238 : Nat) : Int))]]) rfl
        try simp -implicitDefEqProofs only [go_sem, reduceEqDiff, reduceLT, reduceLeDiff, reduceMul, reduceAdd, reduceIte, reduceCtorEq, Nat.reduceBEq, reduceSub, Int.reduceToNat, encEdge, encI, hns217, his238, hws238, c245, g245, c246a, c246b, c246n, g246, b247, c248, k249, a250]
        exact hNs238 (s238 ++ [((i238 : Nat) : Int)]) (g238 + 1) h (weakL (by simp -implicitDefEqProofs only [go_sem, reduceEqDiff, reduceLT, reduceLeDiff, reduceMul, reduceAdd, reduceIte, reduceCtorEq, Nat.reduceBEq, reduceSub, Int.reduceToNat, encEdge, encI, hns217, his238, hws238, c245, g245, c246a, c246b, c246n, g246, b247, c248, k249, a250] <;> ((repeat' apply And.intro) <;> rfl)))
      · replace h := cond_f h b247
        try simp -implicitDefEqProofs only [go_sem, reduceEqDiff, reduceLT, reduceLeDiff, reduceMul, reduceAdd, reduceIte, reduceCtorEq, Nat.reduceBEq, reduceSub, Int.reduceToNat, encEdge, encI, hns217, his238, hws238, c245, g245, c246a, c246b, c246n, g246, b247]
        exact hNs238 s238 g238 h (weakL (by simp -implicitDefEqProofs only [go_sem, reduceEqDiff, reduceLT, reduceLeDiff, reduceMul, reduceAdd, reduceIte, reduceCtorEq, Nat.reduceBEq, reduceSub, Int.reduceToNat, encEdge, encI, hns217, his238, hws238, c245, g245, c246a, c246b, c246n, g246, b247] <;> ((repeat' apply And.intro) <;> rfl)))
    · intro i238 s238 g238 Rs238 hes238 h
      have hns238 : ¬ (i238 < a1.edges.length) := by omega
      try dsimp only at h
      cases h
      try simp -implicitDefEqProofs only [go_sem, reduceEqDiff, reduceLT, reduceLeDiff, reduceMul, reduceAdd, reduceIte, reduceCtorEq, Nat.reduceBEq, reduceSub, Int.reduceToNat, encEdge, encI, hns217, hns238]
      refine ⟨by decide, _, .refl _, ?_⟩
      simp -implicitDefEqProofs only [go_sem, reduceEqDiff, reduceLT, reduceLeDiff, reduceMul, reduceAdd, reduceIte, reduceCtorEq, Nat.reduceBEq, reduceSub, Int.reduceToNat, encEdge, encI, hns217, hns238] <;> ((repeat' apply And.intro) <;> rfl)


def f_scarfjointref05_SameInts (a0 : List Int) (a1 : List Int) : Option Bool :=
  cond (decide (((a0.length : Nat) : Int) = ((a1.length : Nat) : Int))) (
    chk (a0.length ≤ fuel) <|
    forN (fun i1240 (s1240 : Unit) nxts1240 brks1240 =>
      thn (a0[i1240]?) fun e1244 =>
      thn (a1[i1240]?) fun e1245 =>
      cond (decide (e1244 = e1245)) (
        nxts1240 ()) <|
      some false)
    (a0.length - 0) 0 () fun s1240 =>
    some true) <|
  some false
set_option maxHeartbeats 4000000 in
theorem w_scarfjointref05_SameInts (a0 : List Int) (a1 : List Int) (r : Bool) (h : f_scarfjointref05_SameInts a0 a1 = some r) : CallV Go.Proofs.Tryz.prog 41 [.lst (a0.map encI), .lst (a1.map encI)] (fun v => v = .val (.bool r)) := by
  refine CallV.ple ?_
  refine callV_of_cw [] Ty.mixed Go.Proofs.Tryz.func41 rfl (by kernel_rfl) (by simp [Go.Proofs.Tryz.ntmps41]) ?_; rw [Go.Proofs.Tryz.ntmps41, Go.Proofs.Tryz.results41]
  unfold f_scarfjointref05_SameInts at h
  try simp -implicitDefEqProofs only [go_sem, reduceEqDiff, reduceLT, reduceLeDiff, reduceMul, reduceAdd, reduceIte, reduceCtorEq, Nat.reduceBEq, reduceSub, Int.reduceToNat, encI]
  refine condC_splitN (fun b1234 => ?_) (fun b1234 => ?_)
  · replace h := cond_t h b1234
    obtain ⟨fus1240, h⟩ := chk_s h
    unfold fuel at fus1240
    try simp -implicitDefEqProofs only [go_sem, reduceEqDiff, reduceLT, reduceLeDiff, reduceMul, reduceAdd, reduceIte, reduceCtorEq, Nat.reduceBEq, reduceSub, Int.reduceToNat, encI, b1234]
    refine forN_go (fun x : (Nat × (Unit)) × (Unit) => envL [(0, .p (.lst (a0.map encI))), (1, .p (.lst (a1.map encI))), (5, .p (.val (.int .i64 ((x.1.1 : Nat) : Int))))]) (fun x => heapL []) () h (weakL (by simp -implicitDefEqProofs only [go_sem, reduceEqDiff, reduceLT, reduceLeDiff, reduceMul, reduceAdd, reduceIte, reduceCtorEq, Nat.reduceBEq, reduceSub, Int.reduceToNat, encI, b1234] <;> ((repeat' apply And.intro) <;> rfl))) ?_ ?_
    · intro i1240 s1240 g1240 nxts1240 Rs1240 his1240 hNs1240 h
      have hws1240 := wrap_succ (k := i1240) his1240 (by omega)
      try dsimp only at h
      try simp -implicitDefEqProofs only [go_sem, reduceEqDiff, reduceLT, reduceLeDiff, reduceMul, reduceAdd, reduceIte, reduceCtorEq, Nat.reduceBEq, reduceSub, Int.reduceToNat, encI, b1234, his1240, hws1240]
      refine draw_txt [.q, .q, .q, .q, .q, .q, .q, .q, .q] (by kernel_rfl) ?_
      obtain ⟨e1244, c1244, g1244, q1244, h⟩ := idx_s encI h
      obtain ⟨e1245, c1245, g1245, q1245, h⟩ := idx_s encI h
      try simp -implicitDefEqProofs only [go_sem, reduceEqDiff, reduceLT, reduceLeDiff, reduceMul, reduceAdd, reduceIte, reduceCtorEq, Nat.reduceBEq, reduceSub, Int.reduceToNat, encI, b1234, his1240, hws1240, c1244, g1244, c1245, g1245]
      refine condC_splitN (fun b1246 => ?_) (fun b1246 => ?_)
      · replace h := cond_t h b1246
        try simp -implicitDefEqProofs only [go_sem, reduceEqDiff, reduceLT, reduceLeDiff, reduceMul, reduceAdd, reduceIte, reduceCtorEq, Nat.reduceBEq, reduceSub, Int.reduceToNat, encI, b1234, his1240, hws1240, c1244, g1244, c1245, g1245, b1246]
        exact hNs1240 () () h (weakL (by simp -implicitDefEqProofs only [go_sem, reduceEqDiff, reduceLT, reduceLeDiff, reduceMul, reduceAdd, reduceIte, reduceCtorEq, Nat.reduceBEq, reduceSub, Int.reduceToNat, encI, b1234, his1240, hws1240, c1244, g1244, c1245, g1245, b1246] <;> ((repeat' apply And.intro) <;> rfl)))
      · replace h := cond_f h b1246
        cases h
        try simp -implicitDefEqProofs only [go_sem, reduceEqDiff, reduceLT, reduceLeDiff, reduceMul, reduceAdd, reduceIte, reduceCtorEq, Nat.reduceBEq, reduceSub, Int.reduceToNat, encI, b1234, his1240, hws1240, c1244, g1244, c1245, g1245, b1246]
        all_goals ((repeat' apply And.intro) <;> rfl)
    · intro i1240 s1240 g1240 Rs1240 hes1240 h
      have hns1240 : ¬ (i1240 < a0.length) := by omega
      try dsimp only at h
      cases h
      try simp -implicitDefEqProofs only [go_sem, reduceEqDiff, reduceLT, reduceLeDiff, reduceMul, reduceAdd, reduceIte, reduceCtorEq, Nat.reduceBEq, reduceSub, Int.reduceToNat, encI, b1234, hns1240]
      all_goals ((repeat' apply And.intro) <;> rfl)
  · replace h := cond_f h b1234
    cases h
    try simp -implicitDefEqProofs only [go_sem, reduceEqDiff, reduceLT, reduceLeDiff, reduceMul, reduceAdd, reduceIte, reduceCtorEq, Nat.reduceBEq, reduceSub, Int.reduceToNat, encI, b1234]
    all_goals ((repeat' apply And.intro) <;> rfl)


def f_scarfjointref05_Same (a0 : Graph) (a1 : Graph) : Option Bool :=
  thn (f_scarfjointref05_SameInts a0.nodes a1.nodes) fun r1247 =>
  cond r1247 (
    cond (decide (((a0.edges.length : Nat) : Int) = ((a1.edges.length : Nat) : Int))) (
      chk (a0.edges.length ≤ fuel) <|
      forN (fun i1255 (s1255 : Unit) nxts1255 brks1255 =>
        thn (a0.edges[i1255]?) fun e1259 =>
        thn (a1.edges[i1255]?) fun e1260 =>
        cond (decide (e1259.type = e1260.type) && (decide (e1259.src = e1260.src) && decide (e1259.dst = e1260.dst))) (
          nxts1255 ()) <|
        some false)
      (a0.edges.length - 0) 0 () fun s1255 =>
      some true) <|
    some false) <|
  some false
set_option maxHeartbeats 4000000 in
theorem w_scarfjointref05_Same (a0 : Graph) (a1 : Graph) (r : Bool) (h : f_scarfjointref05_Same a0 a1 = some r) : CallV Go.Proofs.Tryz.prog 49 [.agg [.lst (a0.nodes.map encI), .lst (a0.edges.map encEdge)], .agg [.lst (a1.nodes.map encI), .lst (a1.edges.map encEdge)]] (fun v => v = .val (.bool r)) := by
  refine CallV.ple ?_
  refine callV_of_cw [] Ty.mixed Go.Proofs.Tryz.func49 rfl (by kernel_rfl) (by simp [Go.Proofs.Tryz.ntmps49]) ?_; rw [Go.Proofs.Tryz.ntmps49, Go.Proofs.Tryz.results49]
  unfold f_scarfjointref05_Same at h
  obtain ⟨r1247, hr1247, h⟩ := thn_s h
  try simp -implicitDefEqProofs only [go_sem, reduceEqDiff, reduceLT, reduceLeDiff, reduceMul, reduceAdd, reduceIte, reduceCtorEq, Nat.reduceBEq, reduceSub, Int.reduceToNat, encEdge, encI]
  refine callG (w_scarfjointref05_SameInts a0.nodes a1.nodes r1247 hr1247) (by simp -implicitDefEqProofs only [go_sem, reduceEqDiff, reduceLT, reduceLeDiff, reduceMul, reduceAdd, reduceIte, reduceCtorEq, Nat.reduceBEq, reduceSub, Int.reduceToNat, encEdge, encI] <;> rfl) (pleL_refl _) (by first | exact pers | exact scal rfl) ?_
  try simp -implicitDefEqProofs only [go_sem, reduceEqDiff, reduceLT, reduceLeDiff, reduceMul, reduceAdd, reduceIte, reduceCtorEq, Nat.reduceBEq, reduceSub, Int.reduceToNat, encEdge, encI]
  refine walkG_split (fun b1248 => ?_) (fun b1248 => ?_)
  · replace h := cond_t h b1248
    try simp -implicitDefEqProofs only [go_sem, reduceEqDiff, reduceLT, reduceLeDiff, reduceMul, reduceAdd, reduceIte, reduceCtorEq, Nat.reduceBEq, reduceSub, Int.reduceToNat, encEdge, encI, b1248]
    refine condC_splitN (fun b1249 => ?_) (fun b1249 => ?_)
    · replace h := cond_t h b1249
      obtain ⟨fus1255, h⟩ := chk_s h
      unfold fuel at fus1255
      try simp -implicitDefEqProofs only [go_sem, reduceEqDiff, reduceLT, reduceLeDiff, reduceMul, reduceAdd, reduceIte, reduceCtorEq, Nat.reduceBEq, reduceSub, Int.reduceToNat, encEdge, encI, b1248, b1249]
      refine forN_go (fun x : (Nat × (Unit)) × (Unit) => envL [(2, .ptr 2 0), (3, .ptr 3 0), (5, .p (.val (.int .i64 ((x.1.1 : Nat) : Int))))]) (fun x => heapL [(2, .box [.p (.lst (a0.nodes.map encI)), .p (.lst (a0.edges.map encEdge))]), (3, .box [.p (.lst (a1.nodes.map encI)), .p (.lst (a1.edges.map encEdge))])]) () h (weakL (by simp -implicitDefEqProofs only [go_sem, reduceEqDiff, reduceLT, reduceLeDiff, reduceMul, reduceAdd, reduceIte, reduceCtorEq, Nat.reduceBEq, reduceSub, Int.reduceToNat, encEdge, encI, b1248, b1249] <;> ((repeat' apply And.intro) <;> rfl))) ?_ ?_
      · intro i1255 s1255 g1255 nxts1255 Rs1255 his1255 hNs1255 h
        have hws1255 := wrap_succ (k := i1255) his1255 (by omega)
        try dsimp only at h
        try simp -implicitDefEqProofs only [go_sem, reduceEqDiff, reduceLT, reduceLeDiff, reduceMul, reduceAdd, reduceIte, reduceCtorEq, Nat.reduceBEq, reduceSub, Int.reduceToNat, encEdge, encI, b1248, b1249, his1255, hws1255]
        refine draw_txt [.q, .q, .q, .q, .q, .q, .q, .q, .q, .q, .q] (by kernel_rfl) ?_
        obtain ⟨e1259, c1259, g1259, q1259, h⟩ := idx_s encEdge h
        obtain ⟨e1260, c1260, g1260, q1260, h⟩ := idx_s encEdge h
        try simp -implicitDefEqProofs only [go_sem, reduceEqDiff, reduceLT, reduceLeDiff, reduceMul, reduceAdd, reduceIte, reduceCtorEq, Nat.reduceBEq, reduceSub, Int.reduceToNat, encEdge, encI, b1248, b1249, his1255, hws1255, c1259, g1259, c1260, g1260]
        refine condC_splitN (fun b1261 => ?_) (fun b1261 => ?_)
        · replace h := cond_t h b1261
          try simp -implicitDefEqProofs only [go_sem, reduceEqDiff, reduceLT, reduceLeDiff, reduceMul, reduceAdd, reduceIte, reduceCtorEq, Nat.reduceBEq, reduceSub, Int.reduceToNat, encEdge, encI, b1248, b1249, his1255, hws1255, c1259, g1259, c1260, g1260, b1261]
          exact hNs1255 () () h (weakL (by simp -implicitDefEqProofs only [go_sem, reduceEqDiff, reduceLT, reduceLeDiff, reduceMul, reduceAdd, reduceIte, reduceCtorEq, Nat.reduceBEq, reduceSub, Int.reduceToNat, encEdge, encI, b1248, b1249, his1255, hws1255, c1259, g1259, c1260, g1260, b1261] <;> ((repeat' apply And.intro) <;> rfl)))
        · replace h := cond_f h b1261
          cases h
          try simp -implicitDefEqProofs only [go_sem, reduceEqDiff, reduceLT, reduceLeDiff, reduceMul, reduceAdd, reduceIte, reduceCtorEq, Nat.reduceBEq, reduceSub, Int.reduceToNat, encEdge, encI, b1248, b1249, his1255, hws1255, c1259, g1259, c1260, g1260, b1261]
          all_goals ((repeat' apply And.intro) <;> rfl)
      · intro i1255 s1255 g1255 Rs1255 hes1255 h
        have hns1255 : ¬ (i1255 < a0.edges.length) := by omega
        try dsimp only at h
        cases h
        try simp -implicitDefEqProofs only [go_sem, reduceEqDiff, reduceLT, reduceLeDiff, reduceMul, reduceAdd, reduceIte, reduceCtorEq, Nat.reduceBEq, reduceSub, Int.reduceToNat, encEdge, encI, b1248, b1249, hns1255]
        all_goals ((repeat' apply And.intro) <;> rfl)
    · replace h := cond_f h b1249
      cases h
      try simp -implicitDefEqProofs only [go_sem, reduceEqDiff, reduceLT, reduceLeDiff, reduceMul, reduceAdd, reduceIte, reduceCtorEq, Nat.reduceBEq, reduceSub, Int.reduceToNat, encEdge, encI, b1248, b1249]
      all_goals ((repeat' apply And.intro) <;> rfl)
  · replace h := cond_f h b1248
    cases h
    try simp -implicitDefEqProofs only [go_sem, reduceEqDiff, reduceLT, reduceLeDiff, reduceMul, reduceAdd, reduceIte, reduceCtorEq, Nat.reduceBEq, reduceSub, Int.reduceToNat, encEdge, encI, b1248]
    all_goals ((repeat' apply And.intro) <;> rfl)


def f_scarfjointref15_compare (a0 : List Int) (a1 : List Int) : Option Int :=
  iter (fun (s1276 : Int) nxts1276 brks1276 =>
    cond (decide (s1276 < ((a0.length : Nat) : Int))) (
      cond (decide (s1276 < ((a1.length : Nat) : Int))) (
        thn (atZ a0 s1276) fun e1285 =>
        thn (atZ a1 s1276) fun e1286 =>
        cond (decide (e1285 = e1286)) (
          nxts1276 (IntKind.i64.wrap (s1276 + 1))) <|
        some (IntKind.i64.wrap (e1285 - e1286))) <|
      brks1276 s1276) <|
    brks1276 s1276)
  fuel 0 fun s1276 =>
  some (IntKind.i64.wrap (((a0.length : Nat) : Int) - ((a1.length : Nat) : Int)))
set_option maxHeartbeats 4000000 in
theorem w_scarfjointref15_compare (a0 : List Int) (a1 : List Int) (r : Int) (h : f_scarfjointref15_compare a0 a1 = some r) : CallV Go.Proofs.Tryz.prog 50 [.lst (a0.map encI), .lst (a1.map encI)] (fun v => v = .val (.int .i64 r)) := by
  refine CallV.ple ?_
  refine callV_of_cw [] Ty.mixed Go.Proofs.Tryz.func50 rfl (by kernel_rfl) (by simp [Go.Proofs.Tryz.ntmps50]) ?_; rw [Go.Proofs.Tryz.ntmps50, Go.Proofs.Tryz.results50]
  unfold f_scarfjointref15_compare at h
  try simp -implicitDefEqProofs only [go_sem, reduceEqDiff, reduceLT, reduceLeDiff, reduceMul, reduceAdd, reduceIte, reduceCtorEq, Nat.reduceBEq, reduceSub, Int.reduceToNat, encI]
  refine iter_go (fun x : (Int) × (Unit) => envL [(0, .p (.lst (a0.map encI))), (1, .p (.lst (a1.map encI))), (5, .p (.val (.int .i64 x.1)))]) (fun x => heapL []) () h (weakL (by simp -implicitDefEqProofs only [go_sem, reduceEqDiff, reduceLT, reduceLeDiff, reduceMul, reduceAdd, reduceIte, reduceCtorEq, Nat.reduceBEq, reduceSub, Int.reduceToNat, encI] <;> ((repeat' apply And.intro) <;> rfl))) ?_
  intro s1276 g1276 nxts1276 Rs1276 hNs1276 h
  try dsimp only at h
  try simp -implicitDefEqProofs only [go_sem, reduceEqDiff, reduceLT, reduceLeDiff, reduceMul, reduceAdd, reduceIte, reduceCtorEq, Nat.reduceBEq, reduceSub, Int.reduceToNat, encI]
  refine walkG_split (fun b1283 => ?_) (fun b1283 => ?_)
  · replace h := cond_t h b1283
    try simp -implicitDefEqProofs only [go_sem, reduceEqDiff, reduceLT, reduceLeDiff, reduceMul, reduceAdd, reduceIte, reduceCtorEq, Nat.reduceBEq, reduceSub, Int.reduceToNat, encI, b1283]
    refine condC_split (fun b1284 => ?_) (fun b1284 => ?_)
    · replace h := cond_t h b1284
      try simp -implicitDefEqProofs only [go_sem, reduceEqDiff, reduceLT, reduceLeDiff, reduceMul, reduceAdd, reduceIte, reduceCtorEq, Nat.reduceBEq, reduceSub, Int.reduceToNat, encI, b1283, b1284]
      refine draw_txt [.q, .q, .q, .q, .q, .q, .q, .q, .q] (by kernel_rfl) ?_
      obtain ⟨e1285, c1285a, c1285b, g1285, q1285, h⟩ := atZ_s encI h
      have c1285n := toNat_lt c1285a c1285b
      obtain ⟨e1286, c1286a, c1286b, g1286, q1286, h⟩ := atZ_s encI h
      have c1286n := toNat_lt c1286a c1286b
      try simp -implicitDefEqProofs only [go_sem, reduceEqDiff, reduceLT, reduceLeDiff, reduceMul, reduceAdd, reduceIte, reduceCtorEq, Nat.reduceBEq, reduceSub, Int.reduceToNat, encI, b1283, b1284, c1285a, c1285b, c1285n, g1285, c1286a, c1286b, c1286n, g1286]
      refine condC_splitN (fun b1287 => ?_) (fun b1287 => ?_)
      · replace h := cond_t h b1287
        try simp -implicitDefEqProofs only [go_sem, reduceEqDiff, reduceLT, reduceLeDiff, reduceMul, reduceAdd, reduceIte, reduceCtorEq, Nat.reduceBEq, reduceSub, Int.reduceToNat, encI, b1283, b1284, c1285a, c1285b, c1285n, g1285, c1286a, c1286b, c1286n, g1286, b1287]
        exact hNs1276 (IntKind.i64.wrap (s1276 + 1)) () h (weakL (by simp -implicitDefEqProofs only [go_sem, reduceEqDiff, reduceLT, reduceLeDiff, reduceMul, reduceAdd, reduceIte, reduceCtorEq, Nat.reduceBEq, reduceSub, Int.reduceToNat, encI, b1283, b1284, c1285a, c1285b, c1285n, g1285, c1286a, c1286b, c1286n, g1286, b1287] <;> ((repeat' apply And.intro) <;> rfl)))
      · replace h := cond_f h b1287
        try simp -implicitDefEqProofs only [go_sem, reduceEqDiff, reduceLT, reduceLeDiff, reduceMul, reduceAdd, reduceIte, reduceCtorEq, Nat.reduceBEq, reduceSub, Int.reduceToNat, encI, b1283, b1284, c1285a, c1285b, c1285n, g1285, c1286a, c1286b, c1286n, g1286, b1287]
        refine draw_txt [.q, .q, .q, .q, .q, .q, .q, .q, .q, .q] (by kernel_rfl) ?_
        cases h
        try simp -implicitDefEqProofs only [go_sem, reduceEqDiff, reduceLT, reduceLeDiff, reduceMul, reduceAdd, reduceIte, reduceCtorEq, Nat.reduceBEq, reduceSub, Int.reduceToNat, encI, b1283, b1284, c1285a, c1285b, c1285n, g1285, c1286a, c1286b, c1286n, g1286, b1287]
        all_goals ((repeat' apply And.intro) <;> rfl)
    · replace h := cond_f h b1284
      try dsimp only at h
      cases h
      try simp -implicitDefEqProofs only [go_sem, reduceEqDiff, reduceLT, reduceLeDiff, reduceMul, reduceAdd, reduceIte, reduceCtorEq, Nat.reduceBEq, reduceSub, Int.reduceToNat, encI, b1283, b1284]
      all_goals ((repeat' apply And.intro) <;> rfl)
  · replace h := cond_f h b1283
    try dsimp only at h
    cases h
    try simp -implicitDefEqProofs only [go_sem, reduceEqDiff, reduceLT, reduceLeDiff, reduceMul, reduceAdd, reduceIte, reduceCtorEq, Nat.reduceBEq, reduceSub, Int.reduceToNat, encI, b1283]
    all_goals ((repeat' apply And.intro) <;> rfl)


def f_scarfjointref15_Same (a0 : Host) (a1 : Host) : Option Bool :=
  thn (f_scarfjointref05_Same a0.graph a1.graph) fun r1262 =>
  cond r1262 (
    cond (decide (((a0.values.length : Nat) : Int) = ((a1.values.length : Nat) : Int))) (
      chk (a0.values.length ≤ fuel) <|
      forN (fun i1290 (s1290 : Unit) nxts1290 brks1290 =>
        thn (a0.values[i1290]?) fun e1295 =>
        thn (a1.values[i1290]?) fun e1296 =>
        thn (f_scarfjointref15_compare e1295 e1296) fun r1297 =>
        cond (decide (r1297 = 0)) (
          nxts1290 ()) <|
        some false)
      (a0.values.length - 0) 0 () fun s1290 =>
      some true) <|
    some false) <|
  some false
set_option maxHeartbeats 4000000 in
theorem w_scarfjointref15_Same (a0 : Host) (a1 : Host) (r : Bool) (h : f_scarfjointref15_Same a0 a1 = some r) : CallV Go.Proofs.Tryz.prog 19 [.agg [.lst (a0.graph.nodes.map encI), .lst (a0.graph.edges.map encEdge), .lst (a0.values.map encRow)], .agg [.lst (a1.graph.nodes.map encI), .lst (a1.graph.edges.map encEdge), .lst (a1.values.map encRow)]] (fun v => v = .val (.bool r)) := by
  refine CallV.ple ?_
  refine callV_of_cw [] Ty.mixed Go.Proofs.Tryz.func19 rfl (by kernel_rfl) (by simp [Go.Proofs.Tryz.ntmps19]) ?_; rw [Go.Proofs.Tryz.ntmps19, Go.Proofs.Tryz.results19]
  unfold f_scarfjointref15_Same at h
  obtain ⟨r1262, hr1262, h⟩ := thn_s h
  try simp -implicitDefEqProofs only [go_sem, reduceEqDiff, reduceLT, reduceLeDiff, reduceMul, reduceAdd, reduceIte, reduceCtorEq, Nat.reduceBEq, reduceSub, Int.reduceToNat, encEdge, encI, encInts, encRow, encStrs]
  refine callG (w_scarfjointref05_Same a0.graph a1.graph r1262 hr1262) (by simp -implicitDefEqProofs only [go_sem, reduceEqDiff, reduceLT, reduceLeDiff, reduceMul, reduceAdd, reduceIte, reduceCtorEq, Nat.reduceBEq, reduceSub, Int.reduceToNat, encEdge, encI, encInts, encRow, encStrs] <;> rfl) (pleL_refl _) (by first | exact pers | exact scal rfl) ?_
  try simp -implicitDefEqProofs only [go_sem, reduceEqDiff, reduceLT, reduceLeDiff, reduceMul, reduceAdd, reduceIte, reduceCtorEq, Nat.reduceBEq, reduceSub, Int.reduceToNat, encEdge, encI, encInts, encRow, encStrs]
  refine walkG_split (fun b1263 => ?_) (fun b1263 => ?_)
  · replace h := cond_t h b1263
    try simp -implicitDefEqProofs only [go_sem, reduceEqDiff, reduceLT, reduceLeDiff, reduceMul, reduceAdd, reduceIte, reduceCtorEq, Nat.reduceBEq, reduceSub, Int.reduceToNat, encEdge, encI, encInts, encRow, encStrs, b1263]
    refine condC_splitN (fun b1264 => ?_) (fun b1264 => ?_)
    · replace h := cond_t h b1264
      obtain ⟨fus1290, h⟩ := chk_s h
      unfold fuel at fus1290
      try simp -implicitDefEqProofs only [go_sem, reduceEqDiff, reduceLT, reduceLeDiff, reduceMul, reduceAdd, reduceIte, reduceCtorEq, Nat.reduceBEq, reduceSub, Int.reduceToNat, encEdge, encI, encInts, encRow, encStrs, b1263, b1264]
      refine forN_go (fun x : (Nat × (Unit)) × (Unit) => envL [(2, .ptr 2 0), (3, .ptr 3 0), (5, .p (.val (.int .i64 ((x.1.1 : Nat) : Int))))]) (fun x => heapL [(2, .box [.p (.lst (a0.graph.nodes.map encI)), .p (.lst (a0.graph.edges.map encEdge)), .p (.lst (a0.values.map encRow))]), (3, .box [.p (.lst (a1.graph.nodes.map encI)), .p (.lst (a1.graph.edges.map encEdge)), .p (.lst (a1.values.map encRow))])]) () h (weakL (by simp -implicitDefEqProofs only [go_sem, reduceEqDiff, reduceLT, reduceLeDiff, reduceMul, reduceAdd, reduceIte, reduceCtorEq, Nat.reduceBEq, reduceSub, Int.reduceToNat, encEdge, encI, encInts, encRow, encStrs, b1263, b1264] <;> ((repeat' apply And.intro) <;> rfl))) ?_ ?_
      · intro i1290 s1290 g1290 nxts1290 Rs1290 his1290 hNs1290 h
        have hws1290 := wrap_succ (k := i1290) his1290 (by omega)
        try dsimp only at h
        try simp -implicitDefEqProofs only [go_sem, reduceEqDiff, reduceLT, reduceLeDiff, reduceMul, reduceAdd, reduceIte, reduceCtorEq, Nat.reduceBEq, reduceSub, Int.reduceToNat, encEdge, encI, encInts, encRow, encStrs, b1263, b1264, his1290, hws1290]
        refine draw_txt [.q, .q, .q, .q, .q, .q, .q, .q, .q, .q, .q, .q] (by kernel_rfl) ?_
        obtain ⟨e1295, c1295, g1295, q1295, h⟩ := idx_s encRow h
        obtain ⟨e1296, c1296, g1296, q1296, h⟩ := idx_s encRow h
        obtain ⟨r1297, hr1297, h⟩ := thn_s h
        try simp -implicitDefEqProofs only [go_sem, reduceEqDiff, reduceLT, reduceLeDiff, reduceMul, reduceAdd, reduceIte, reduceCtorEq, Nat.reduceBEq, reduceSub, Int.reduceToNat, encEdge, encI, encInts, encRow, encStrs, b1263, b1264, his1290, hws1290, c1295, g1295, c1296, g1296]
        refine calldG (w_scarfjointref15_compare e1295 e1296 r1297 hr1297) (by simp -implicitDefEqProofs only [go_sem, reduceEqDiff, reduceLT, reduceLeDiff, reduceMul, reduceAdd, reduceIte, reduceCtorEq, Nat.reduceBEq, reduceSub, Int.reduceToNat, encEdge, encI, encInts, encRow, encStrs, b1263, b1264, his1290, hws1290, c1295, g1295, c1296, g1296] <;> rfl) (pleL_refl _) (by first | exact pers | exact scal rfl) ?_
        try simp -implicitDefEqProofs only [go_sem, reduceEqDiff, reduceLT, reduceLeDiff, reduceMul, reduceAdd, reduceIte, reduceCtorEq, Nat.reduceBEq, reduceSub, Int.reduceToNat, encEdge, encI, encInts, encRow, encStrs, b1263, b1264, his1290, hws1290, c1295, g1295, c1296, g1296]
        refine condC_splitN (fun b1298 => ?_) (fun b1298 => ?_)
        · replace h := cond_t h b1298
          try simp -implicitDefEqProofs only [go_sem, reduceEqDiff, reduceLT, reduceLeDiff, reduceMul, reduceAdd, reduceIte, reduceCtorEq, Nat.reduceBEq, reduceSub, Int.reduceToNat, encEdge, encI, encInts, encRow, encStrs, b1263, b1264, his1290, hws1290, c1295, g1295, c1296, g1296, b1298]
          exact hNs1290 () () h (weakL (by simp -implicitDefEqProofs only [go_sem, reduceEqDiff, reduceLT, reduceLeDiff, reduceMul, reduceAdd, reduceIte, reduceCtorEq, Nat.reduceBEq, reduceSub, Int.reduceToNat, encEdge, encI, encInts, encRow, encStrs, b1263, b1264, his1290, hws1290, c1295, g1295, c1296, g1296, b1298] <;> ((repeat' apply And.intro) <;> rfl)))
        · replace h := cond_f h b1298
          cases h
          try simp -implicitDefEqProofs only [go_sem, reduceEqDiff, reduceLT, reduceLeDiff, reduceMul, reduceAdd, reduceIte, reduceCtorEq, Nat.reduceBEq, reduceSub, Int.reduceToNat, encEdge, encI, encInts, encRow, encStrs, b1263, b1264, his1290, hws1290, c1295, g1295, c1296, g1296, b1298]
          all_goals ((repeat' apply And.intro) <;> rfl)
      · intro i1290 s1290 g1290 Rs1290 hes1290 h
        have hns1290 : ¬ (i1290 < a0.values.length) := by omega
        try dsimp only at h
        cases h
        try simp -implicitDefEqProofs only [go_sem, reduceEqDiff, reduceLT, reduceLeDiff, reduceMul, reduceAdd, reduceIte, reduceCtorEq, Nat.reduceBEq, reduceSub, Int.reduceToNat, encEdge, encI, encInts, encRow, encStrs, b1263, b1264, hns1290]
        all_goals ((repeat' apply And.intro) <;> rfl)
    · replace h := cond_f h b1264
      cases h
      try simp -implicitDefEqProofs only [go_sem, reduceEqDiff, reduceLT, reduceLeDiff, reduceMul, reduceAdd, reduceIte, reduceCtorEq, Nat.reduceBEq, reduceSub, Int.reduceToNat, encEdge, encI, encInts, encRow, encStrs, b1263, b1264]
      all_goals ((repeat' apply And.intro) <;> rfl)
  · replace h := cond_f h b1263
    cases h
    try simp -implicitDefEqProofs only [go_sem, reduceEqDiff, reduceLT, reduceLeDiff, reduceMul, reduceAdd, reduceIte, reduceCtorEq, Nat.reduceBEq, reduceSub, Int.reduceToNat, encEdge, encI, encInts, encRow, encStrs, b1263]
    all_goals ((repeat' apply And.intro) <;> rfl)


def f_triple_only (a0 : Sorts) (a1 : Graph) (a2 : Int) : Option Bool :=
  thn (f_triple_part a0 a1 a2) fun r2527 =>
  cond (decide (((r2527.nodes.length : Nat) : Int) = ((a1.nodes.length : Nat) : Int))) (
    some (decide (((r2527.edges.length : Nat) : Int) = ((a1.edges.length : Nat) : Int)))) <|
  some false
set_option maxHeartbeats 4000000 in
theorem w_triple_only (a0 : Sorts) (a1 : Graph) (a2 : Int) (r : Bool) (h : f_triple_only a0 a1 a2 = some r) : CallV Go.Proofs.Tryz.prog 42 [.agg [.lst (a0.nodes.map encI), .lst (a0.edges.map encI)], .agg [.lst (a1.nodes.map encI), .lst (a1.edges.map encEdge)], .val (.int .i64 a2)] (fun v => v = .val (.bool r)) := by
  refine CallV.ple ?_
  refine callV_of_cw [] Ty.mixed Go.Proofs.Tryz.func42 rfl (by kernel_rfl) (by simp [Go.Proofs.Tryz.ntmps42]) ?_; rw [Go.Proofs.Tryz.ntmps42, Go.Proofs.Tryz.results42]
  unfold f_triple_only at h
  obtain ⟨r2527, hr2527, h⟩ := thn_s h
  try simp -implicitDefEqProofs only [go_sem, reduceEqDiff, reduceLT, reduceLeDiff, reduceMul, reduceAdd, reduceIte, reduceCtorEq, Nat.reduceBEq, reduceSub, Int.reduceToNat, encEdge, encI]
  refine callfG 1176 (w_triple_part a0 a1 a2 r2527 hr2527) (by simp -implicitDefEqProofs only [go_sem, reduceEqDiff, reduceLT, reduceLeDiff, reduceMul, reduceAdd, reduceIte, reduceCtorEq, Nat.reduceBEq, reduceSub, Int.reduceToNat, encEdge, encI] <;> rfl) (pleL_refl _) (by first | exact persF | exact flatF rfl | exact flatF (by simp [RV.flat, RV.flatL, PV.scalar, isVal, encI, encI])) (by simp -implicitDefEqProofs only [go_sem, reduceEqDiff, reduceLT, reduceLeDiff, reduceMul, reduceAdd, reduceIte, reduceCtorEq, Nat.reduceBEq, reduceSub, Int.reduceToNat, encEdge, encI]) ?_
  try simp -implicitDefEqProofs only [go_sem, reduceEqDiff, reduceLT, reduceLeDiff, reduceMul, reduceAdd, reduceIte, reduceCtorEq, Nat.reduceBEq, reduceSub, Int.reduceToNat, encEdge, encI]
  refine walkG_split (fun b2528 => ?_) (fun b2528 => ?_)
  · replace h := cond_t h b2528
    cases h
    try simp -implicitDefEqProofs only [go_sem, reduceEqDiff, reduceLT, reduceLeDiff, reduceMul, reduceAdd, reduceIte, reduceCtorEq, Nat.reduceBEq, reduceSub, Int.reduceToNat, encEdge, encI, b2528]
    all_goals ((repeat' apply And.intro) <;> rfl)
  · replace h := cond_f h b2528
    cases h
    try simp -implicitDefEqProofs only [go_sem, reduceEqDiff, reduceLT, reduceLeDiff, reduceMul, reduceAdd, reduceIte, reduceCtorEq, Nat.reduceBEq, reduceSub, Int.reduceToNat, encEdge, encI, b2528]
    all_goals ((repeat' apply And.intro) <;> rfl)


def f_slices_Concat_int (a0 : List (List Int)) : Option (List Int) :=
  chk (a0.length ≤ fuel) <|
  forN (fun i2539 (s2539 : Int) nxts2539 brks2539 =>
    thn (a0[i2539]?) fun e2542 =>
    cond (decide ((IntKind.i64.wrap (s2539 + ((e2542.length : Nat) : Int))) < 0)) (
      none) <|
    nxts2539 (IntKind.i64.wrap (s2539 + ((e2542.length : Nat) : Int))))
  (a0.length - 0) 0 0 fun s2539 =>
  thn (f_slices_Grow_int ([] : List Int) s2539) fun r2544 =>
  chk (a0.length ≤ fuel) <|
  forN (fun i2551 (s2551 : (List Int)) nxts2551 brks2551 =>
    thn (a0[i2551]?) fun e2556 =>
    chk (s2551.length + e2556.length ≤ 68719476736) <|
    nxts2551 (s2551 ++ e2556))
  (a0.length - 0) 0 r2544 fun s2551 =>
  some s2551
set_option maxHeartbeats 4000000 in
theorem w_slices_Concat_int (a0 : List (List Int)) (r : (List Int)) (h : f_slices_Concat_int a0 = some r) : CallF Go.Proofs.Tryz.prog 43 [.lst (a0.map encRow)] (fun v => v = .row 3 1 (r.map encI)) := by
  refine CallF.rle ?_
  refine callF_of_cw [] Ty.mixed Go.Proofs.Tryz.func43 rfl (by kernel_rfl) (by simp [Go.Proofs.Tryz.ntmps43]) ?_; rw [Go.Proofs.Tryz.ntmps43, Go.Proofs.Tryz.results43]
  unfold f_slices_Concat_int at h
  obtain ⟨fus2539, h⟩ := chk_s h
  unfold fuel at fus2539
  try simp -implicitDefEqProofs only [go_sem, reduceEqDiff, reduceLT, reduceLeDiff, reduceMul, reduceAdd, reduceIte, reduceCtorEq, Nat.reduceBEq, reduceSub, Int.reduceToNat, encI, encInts, encRow, encStrs]
  refine forN_go (fun x : (Nat × (Int)) × (Unit) => envL [(0, .p (.lst (a0.map encRow))), (3, .p (.val (.int .i64 x.1.2))), (9, .p (.lst (a0.map encRow))), (10, .p (.val (.int .i64 ((a0.length : Nat) : Int)))), (11, .p (.val (.int .i64 ((x.1.1 : Nat) : Int))))]) (fun x => heapL []) () h (weakL (by simp -implicitDefEqProofs only [go_sem, reduceEqDiff, reduceLT, reduceLeDiff, reduceMul, reduceAdd, reduceIte, reduceCtorEq, Nat.reduceBEq, reduceSub, Int.reduceToNat, encI, encInts, encRow, encStrs] <;> ((repeat' apply And.intro) <;> rfl))) ?_ ?_
  · intro i2539 s2539 g2539 nxts2539 Rs2539 his2539 hNs2539 h
    have hws2539 := wrap_succ (k := i2539) his2539 (by omega)
    try dsimp only at h
    obtain ⟨e2542, c2542, g2542, q2542, h⟩ := idx_s encRow h
    try simp -implicitDefEqProofs only [go_sem, reduceEqDiff, reduceLT, reduceLeDiff, reduceMul, reduceAdd, reduceIte, reduceCtorEq, Nat.reduceBEq, reduceSub, Int.reduceToNat, encI, encInts, encRow, encStrs, his2539, hws2539, c2542, g2542]
    refine condC_split (fun b2543 => ?_) (fun b2543 => ?_)
    · replace h := cond_t h b2543
      cases h
    · replace h := cond_f h b2543
      try simp -implicitDefEqProofs only [go_sem, reduceEqDiff, reduceLT, reduceLeDiff, reduceMul, reduceAdd, reduceIte, reduceCtorEq, Nat.reduceBEq, reduceSub, Int.reduceToNat, encI, encInts, encRow, encStrs, his2539, hws2539, c2542, g2542, b2543]
      exact hNs2539 (IntKind.i64.wrap (s2539 + ((e2542.length : Nat) : Int))) () h (weakL (by simp -implicitDefEqProofs only [go_sem, reduceEqDiff, reduceLT, reduceLeDiff, reduceMul, reduceAdd, reduceIte, reduceCtorEq, Nat.reduceBEq, reduceSub, Int.reduceToNat, encI, encInts, encRow, encStrs, his2539, hws2539, c2542, g2542, b2543] <;> ((repeat' apply And.intro) <;> rfl)))
  · intro i2539 s2539 g2539 Rs2539 hes2539 h
    have hns2539 : ¬ (i2539 < a0.length) := by omega
    try dsimp only at h
    obtain ⟨r2544, hr2544, h⟩ := thn_s h
    try simp -implicitDefEqProofs only [go_sem, reduceEqDiff, reduceLT, reduceLeDiff, reduceMul, reduceAdd, reduceIte, reduceCtorEq, Nat.reduceBEq, reduceSub, Int.reduceToNat, encI, encInts, encRow, encStrs, hns2539]
    refine callfG 1384 (w_slices_Grow_int ([] : List Int) s2539 r2544 hr2544) (by simp -implicitDefEqProofs only [go_sem, reduceEqDiff, reduceLT, reduceLeDiff, reduceMul, reduceAdd, reduceIte, reduceCtorEq, Nat.reduceBEq, reduceSub, Int.reduceToNat, encI, encInts, encRow, encStrs, hns2539] <;> rfl) (by first | exact pleL_refl _ | (simp -implicitDefEqProofs only [go_sem, reduceEqDiff, reduceLT, reduceLeDiff, reduceMul, reduceAdd, reduceIte, reduceCtorEq, Nat.reduceBEq, reduceSub, Int.reduceToNat, encI, encInts, encRow, encStrs, hns2539] <;> rfl)) (by first | exact persF | exact flatF rfl | exact flatF (by simp [RV.flat, RV.flatL, PV.scalar, isVal, encI])) (by simp -implicitDefEqProofs only [go_sem, reduceEqDiff, reduceLT, reduceLeDiff, reduceMul, reduceAdd, reduceIte, reduceCtorEq, Nat.reduceBEq, reduceSub, Int.reduceToNat, encI, encInts, encRow, encStrs, hns2539]) ?_
    obtain ⟨fus2551, h⟩ := chk_s h
    unfold fuel at fus2551
    try simp -implicitDefEqProofs only [go_sem, reduceEqDiff, reduceLT, reduceLeDiff, reduceMul, reduceAdd, reduceIte, reduceCtorEq, Nat.reduceBEq, reduceSub, Int.reduceToNat, encI, encInts, encRow, encStrs, hns2539]
    refine forN_go (fun x : (Nat × ((List Int))) × (Nat) => envL [(6, .row 1384 x.2), (25, .p (.lst (a0.map encRow))), (26, .p (.val (.int .i64 ((a0.length : Nat) : Int)))), (27, .p (.val (.int .i64 ((x.1.1 : Nat) : Int))))]) (fun x => heapL [(1384, .row x.2 3 1 (x.1.2.map encI))]) 0 h (weakL (by simp -implicitDefEqProofs only [go_sem, reduceEqDiff, reduceLT, reduceLeDiff, reduceMul, reduceAdd, reduceIte, reduceCtorEq, Nat.reduceBEq, reduceSub, Int.reduceToNat, encI, encInts, encRow, encStrs, hns2539] <;> ((repeat' apply And.intro) <;> rfl))) ?_ ?_
    · intro i2551 s2551 g2551 nxts2551 Rs2551 his2551 hNs2551 h
      have hws2551 := wrap_succ (k := i2551) his2551 (by omega)
      try dsimp only at h
      obtain ⟨e2556, c2556, g2556, q2556, h⟩ := idx_s encRow h
      obtain ⟨c2557, h⟩ := chk_s h
      have k2558 := eq_true (show (s2551.length + e2556.length) * 8 ≤ 140737488355328 by omega)
      have k2559 := eq_true (map_len (n := 1) (f := encI) (fun _ => rfl) e2556)
      try simp -implicitDefEqProofs only [go_sem, reduceEqDiff, reduceLT, reduceLeDiff, reduceMul, reduceAdd, reduceIte, reduceCtorEq, Nat.reduceBEq, reduceSub, Int.reduceToNat, encI, encInts, encRow, encStrs, hns2539, his2551, hws2551, c2556, g2556, c2557, k2558, k2559]
      exact hNs2551 (s2551 ++ e2556) (g2551 + 1) h (weakL (by simp -implicitDefEqProofs only [go_sem, reduceEqDiff, reduceLT, reduceLeDiff, reduceMul, reduceAdd, reduceIte, reduceCtorEq, Nat.reduceBEq, reduceSub, Int.reduceToNat, encI, encInts, encRow, encStrs, hns2539, his2551, hws2551, c2556, g2556, c2557, k2558, k2559] <;> ((repeat' apply And.intro) <;> rfl)))
    · intro i2551 s2551 g2551 Rs2551 hes2551 h
      have hns2551 : ¬ (i2551 < a0.length) := by omega
      try dsimp only at h
      cases h
      try simp -implicitDefEqProofs only [go_sem, reduceEqDiff, reduceLT, reduceLeDiff, reduceMul, reduceAdd, reduceIte, reduceCtorEq, Nat.reduceBEq, reduceSub, Int.reduceToNat, encI, encInts, encRow, encStrs, hns2539, hns2551]
      refine ⟨by decide, _, .refl _, ?_⟩
      simp -implicitDefEqProofs only [go_sem, reduceEqDiff, reduceLT, reduceLeDiff, reduceMul, reduceAdd, reduceIte, reduceCtorEq, Nat.reduceBEq, reduceSub, Int.reduceToNat, encI, encInts, encRow, encStrs, hns2539, hns2551] <;> ((repeat' apply And.intro) <;> rfl)


def f_slices_Concat_Lint (a0 : List (List (List Int))) : Option (List (List Int)) :=
  chk (a0.length ≤ fuel) <|
  forN (fun i2600 (s2600 : Int) nxts2600 brks2600 =>
    thn (a0[i2600]?) fun e2603 =>
    cond (decide ((IntKind.i64.wrap (s2600 + ((e2603.length : Nat) : Int))) < 0)) (
      none) <|
    nxts2600 (IntKind.i64.wrap (s2600 + ((e2603.length : Nat) : Int))))
  (a0.length - 0) 0 0 fun s2600 =>
  thn (f_slices_Grow_Lint ([] : List (List Int)) s2600) fun r2605 =>
  chk (a0.length ≤ fuel) <|
  forN (fun i2612 (s2612 : (List (List Int))) nxts2612 brks2612 =>
    thn (a0[i2612]?) fun e2617 =>
    chk (s2612.length + e2617.length ≤ 68719476736) <|
    nxts2612 (s2612 ++ e2617))
  (a0.length - 0) 0 r2605 fun s2612 =>
  some s2612
set_option maxHeartbeats 4000000 in
theorem w_slices_Concat_Lint (a0 : List (List (List Int))) (r : (List (List Int))) (h : f_slices_Concat_Lint a0 = some r) : CallF Go.Proofs.Tryz.prog 45 [.lst (a0.map encL_encRow)] (fun v => v = .row 26 1 (r.map encRow)) := by
  refine CallF.rle ?_
  refine callF_of_cw [] Ty.mixed Go.Proofs.Tryz.func45 rfl (by kernel_rfl) (by simp [Go.Proofs.Tryz.ntmps45]) ?_; rw [Go.Proofs.Tryz.ntmps45, Go.Proofs.Tryz.results45]
  unfold f_slices_Concat_Lint at h
  obtain ⟨fus2600, h⟩ := chk_s h
  unfold fuel at fus2600
  try simp -implicitDefEqProofs only [go_sem, reduceEqDiff, reduceLT, reduceLeDiff, reduceMul, reduceAdd, reduceIte, reduceCtorEq, Nat.reduceBEq, reduceSub, Int.reduceToNat, encInts, encL_encRow, encRow, encStrs]
  refine forN_go (fun x : (Nat × (Int)) × (Unit) => envL [(0, .p (.lst (a0.map encL_encRow))), (3, .p (.val (.int .i64 x.1.2))), (9, .p (.lst (a0.map encL_encRow))), (10, .p (.val (.int .i64 ((a0.length : Nat) : Int)))), (11, .p (.val (.int .i64 ((x.1.1 : Nat) : Int))))]) (fun x => heapL []) () h (weakL (by simp -implicitDefEqProofs only [go_sem, reduceEqDiff, reduceLT, reduceLeDiff, reduceMul, reduceAdd, reduceIte, reduceCtorEq, Nat.reduceBEq, reduceSub, Int.reduceToNat, encInts, encL_encRow, encRow, encStrs] <;> ((repeat' apply And.intro) <;> rfl))) ?_ ?_
  · intro i2600 s2600 g2600 nxts2600 Rs2600 his2600 hNs2600 h
    have hws2600 := wrap_succ (k := i2600) his2600 (by omega)
    try dsimp only at h
    obtain ⟨e2603, c2603, g2603, q2603, h⟩ := idx_s encL_encRow h
    try simp -implicitDefEqProofs only [go_sem, reduceEqDiff, reduceLT, reduceLeDiff, reduceMul, reduceAdd, reduceIte, reduceCtorEq, Nat.reduceBEq, reduceSub, Int.reduceToNat, encInts, encL_encRow, encRow, encStrs, his2600, hws2600, c2603, g2603]
    refine condC_split (fun b2604 => ?_) (fun b2604 => ?_)
    · replace h := cond_t h b2604
      cases h
    · replace h := cond_f h b2604
      try simp -implicitDefEqProofs only [go_sem, reduceEqDiff, reduceLT, reduceLeDiff, reduceMul, reduceAdd, reduceIte, reduceCtorEq, Nat.reduceBEq, reduceSub, Int.reduceToNat, encInts, encL_encRow, encRow, encStrs, his2600, hws2600, c2603, g2603, b2604]
      exact hNs2600 (IntKind.i64.wrap (s2600 + ((e2603.length : Nat) : Int))) () h (weakL (by simp -implicitDefEqProofs only [go_sem, reduceEqDiff, reduceLT, reduceLeDiff, reduceMul, reduceAdd, reduceIte, reduceCtorEq, Nat.reduceBEq, reduceSub, Int.reduceToNat, encInts, encL_encRow, encRow, encStrs, his2600, hws2600, c2603, g2603, b2604] <;> ((repeat' apply And.intro) <;> rfl)))
  · intro i2600 s2600 g2600 Rs2600 hes2600 h
    have hns2600 : ¬ (i2600 < a0.length) := by omega
    try dsimp only at h
    obtain ⟨r2605, hr2605, h⟩ := thn_s h
    try simp -implicitDefEqProofs only [go_sem, reduceEqDiff, reduceLT, reduceLeDiff, reduceMul, reduceAdd, reduceIte, reduceCtorEq, Nat.reduceBEq, reduceSub, Int.reduceToNat, encInts, encL_encRow, encRow, encStrs, hns2600]
    refine callfG 1384 (w_slices_Grow_Lint ([] : List (List Int)) s2600 r2605 hr2605) (by simp -implicitDefEqProofs only [go_sem, reduceEqDiff, reduceLT, reduceLeDiff, reduceMul, reduceAdd, reduceIte, reduceCtorEq, Nat.reduceBEq, reduceSub, Int.reduceToNat, encInts, encL_encRow, encRow, encStrs, hns2600] <;> rfl) (by first | exact pleL_refl _ | (simp -implicitDefEqProofs only [go_sem, reduceEqDiff, reduceLT, reduceLeDiff, reduceMul, reduceAdd, reduceIte, reduceCtorEq, Nat.reduceBEq, reduceSub, Int.reduceToNat, encInts, encL_encRow, encRow, encStrs, hns2600] <;> rfl)) (by first | exact persF | exact flatF rfl | exact flatF (by simp [RV.flat, RV.flatL, PV.scalar, isVal, encRow])) (by simp -implicitDefEqProofs only [go_sem, reduceEqDiff, reduceLT, reduceLeDiff, reduceMul, reduceAdd, reduceIte, reduceCtorEq, Nat.reduceBEq, reduceSub, Int.reduceToNat, encInts, encL_encRow, encRow, encStrs, hns2600]) ?_
    obtain ⟨fus2612, h⟩ := chk_s h
    unfold fuel at fus2612
    try simp -implicitDefEqProofs only [go_sem, reduceEqDiff, reduceLT, reduceLeDiff, reduceMul, reduceAdd, reduceIte, reduceCtorEq, Nat.reduceBEq, reduceSub, Int.reduceToNat, encInts, encL_encRow, encRow, encStrs, hns2600]
    refine forN_go (fun x : (Nat × ((List (List Int)))) × (Nat) => envL [(6, .row 1384 x.2), (25, .p (.lst (a0.map encL_encRow))), (26, .p (.val (.int .i64 ((a0.length : Nat) : Int)))), (27, .p (.val (.int .i64 ((x.1.1 : Nat) : Int))))]) (fun x => heapL [(1384, .row x.2 26 1 (x.1.2.map encRow))]) 0 h (weakL (by simp -implicitDefEqProofs only [go_sem, reduceEqDiff, reduceLT, reduceLeDiff, reduceMul, reduceAdd, reduceIte, reduceCtorEq, Nat.reduceBEq, reduceSub, Int.reduceToNat, encInts, encL_encRow, encRow, encStrs, hns2600] <;> ((repeat' apply And.intro) <;> rfl))) ?_ ?_
    · intro i2612 s2612 g2612 nxts2612 Rs2612 his2612 hNs2612 h
      have hws2612 := wrap_succ (k := i2612) his2612 (by omega)
      try dsimp only at h
      obtain ⟨e2617, c2617, g2617, q2617, h⟩ := idx_s encL_encRow h
      obtain ⟨c2618, h⟩ := chk_s h
      have k2619 := eq_true (show (s2612.length + e2617.length) * 24 ≤ 140737488355328 by omega)
      have k2620 := eq_true (map_len (n := 1) (f := encRow) (fun _ => rfl) e2617)
      try simp -implicitDefEqProofs only [go_sem, reduceEqDiff, reduceLT, reduceLeDiff, reduceMul, reduceAdd, reduceIte, reduceCtorEq, Nat.reduceBEq, reduceSub, Int.reduceToNat, encInts, encL_encRow, encRow, encStrs, hns2600, his2612, hws2612, c2617, g2617, c2618, k2619, k2620]
      exact hNs2612 (s2612 ++ e2617) (g2612 + 1) h (weakL (by simp -implicitDefEqProofs only [go_sem, reduceEqDiff, reduceLT, reduceLeDiff, reduceMul, reduceAdd, reduceIte, reduceCtorEq, Nat.reduceBEq, reduceSub, Int.reduceToNat, encInts, encL_encRow, encRow, encStrs, hns2600, his2612, hws2612, c2617, g2617, c2618, k2619, k2620] <;> ((repeat' apply And.intro) <;> rfl)))
    · intro i2612 s2612 g2612 Rs2612 hes2612 h
      have hns2612 : ¬ (i2612 < a0.length) := by omega
      try dsimp only at h
      cases h
      try simp -implicitDefEqProofs only [go_sem, reduceEqDiff, reduceLT, reduceLeDiff, reduceMul, reduceAdd, reduceIte, reduceCtorEq, Nat.reduceBEq, reduceSub, Int.reduceToNat, encInts, encL_encRow, encRow, encStrs, hns2600, hns2612]
      refine ⟨by decide, _, .refl _, ?_⟩
      simp -implicitDefEqProofs only [go_sem, reduceEqDiff, reduceLT, reduceLeDiff, reduceMul, reduceAdd, reduceIte, reduceCtorEq, Nat.reduceBEq, reduceSub, Int.reduceToNat, encInts, encL_encRow, encRow, encStrs, hns2600, hns2612] <;> ((repeat' apply And.intro) <;> rfl)


def f_triple_Pair (a0 : Types) (a1 : Sorts) (a2 : Host) (a3 : Host) : Option (Host × Int) :=
  thn (f_triple_Valid a0 a1 a2) fun r2693 =>
  cond (decide (r2693 = 0)) (
    thn (f_triple_Valid a0 a1 a3) fun r2695 =>
    cond (decide (r2695 = 0)) (
      thn (f_triple_only a1 a2.graph 1) fun r2697 =>
      cond r2697 (
        thn (f_triple_only a1 a3.graph 3) fun r2699 =>
        cond r2699 (
          cond (decide (40 < (IntKind.i64.wrap (((a2.graph.nodes.length : Nat) : Int) + ((a3.graph.nodes.length : Nat) : Int))))) (
            some ((⟨(⟨([] : List Int), ([] : List Edge)⟩ : Graph), ([] : List (List Int))⟩ : Host), 3)) <|
          cond (decide (80 < (IntKind.i64.wrap (((a2.graph.edges.length : Nat) : Int) + ((a3.graph.edges.length : Nat) : Int))))) (
            some ((⟨(⟨([] : List Int), ([] : List Edge)⟩ : Graph), ([] : List (List Int))⟩ : Host), 3)) <|
          thn (f_slices_Concat_int [a2.graph.nodes, a3.graph.nodes]) fun r2705 =>
          thn (f_slices_Clone_Edge a2.graph.edges) fun r2706 =>
          chk (a3.graph.edges.length ≤ fuel) <|
          forN (fun i2713 (s2713 : (List Edge)) nxts2713 brks2713 =>
            thn (a3.graph.edges[i2713]?) fun e2718 =>
            chk (s2713.length + 1 ≤ 68719476736) <|
            nxts2713 (s2713 ++ [(⟨e2718.type, (IntKind.i64.wrap (e2718.src + ((a2.graph.nodes.length : Nat) : Int))), (IntKind.i64.wrap (e2718.dst + ((a2.graph.nodes.length : Nat) : Int)))⟩ : Edge)]))
          (a3.graph.edges.length - 0) 0 r2706 fun s2713 =>
          thn (f_slices_Concat_Lint [a2.values, a3.values]) fun r2722 =>
          chk (r2722.length ≤ fuel) <|
          forN (fun i2733 (s2733 : (List (List Int))) nxts2733 brks2733 =>
            thn (r2722[i2733]?) fun e2743 =>
            thn (f_slices_Clone_int e2743) fun r2748 =>
            chk (s2733.length + 1 ≤ 68719476736) <|
            nxts2733 (s2733 ++ [r2748]))
          (r2722.length - 0) 0 ([] : List (List Int)) fun s2733 =>
          some ((⟨(⟨r2705, s2713⟩ : Graph), s2733⟩ : Host), 0)) <|
        some ((⟨(⟨([] : List Int), ([] : List Edge)⟩ : Graph), ([] : List (List Int))⟩ : Host), 1)) <|
      some ((⟨(⟨([] : List Int), ([] : List Edge)⟩ : Graph), ([] : List (List Int))⟩ : Host), 1)) <|
    some ((⟨(⟨([] : List Int), ([] : List Edge)⟩ : Graph), ([] : List (List Int))⟩ : Host), r2695)) <|
  some ((⟨(⟨([] : List Int), ([] : List Edge)⟩ : Graph), ([] : List (List Int))⟩ : Host), r2693)
set_option maxHeartbeats 4000000 in
theorem w_triple_Pair (a0 : Types) (a1 : Sorts) (a2 : Host) (a3 : Host) (r : Host × Int) (h : f_triple_Pair a0 a1 a2 a3 = some r) : CallF Go.Proofs.Tryz.prog 17 [.agg [.lst (a0.nodes.map encNode), .lst (a0.edges.map encEdgeT)], .agg [.lst (a1.nodes.map encI), .lst (a1.edges.map encI)], .agg [.lst (a2.graph.nodes.map encI), .lst (a2.graph.edges.map encEdge), .lst (a2.values.map encRow)], .agg [.lst (a3.graph.nodes.map encI), .lst (a3.graph.edges.map encEdge), .lst (a3.values.map encRow)]] (fun v => v = .tup [.agg [.row 3 1 (r.1.graph.nodes.map encI), .row 73 3 (r.1.graph.edges.map encEdge), .row 26 1 (r.1.values.map encRow)], .p (.val (.int .i64 r.2))]) := by
  refine CallF.rle ?_
  refine callF_of_cw [130] Ty.mixed Go.Proofs.Tryz.func17 rfl (by kernel_rfl) (by simp [Go.Proofs.Tryz.ntmps17]) ?_; rw [Go.Proofs.Tryz.ntmps17, Go.Proofs.Tryz.results17]
  unfold f_triple_Pair at h
  obtain ⟨r2693, hr2693, h⟩ := thn_s h
  try simp -implicitDefEqProofs only [go_sem, reduceEqDiff, reduceLT, reduceLeDiff, reduceMul, reduceAdd, reduceIte, reduceCtorEq, Nat.reduceBEq, reduceSub, Int.reduceToNat, encEdge, encEdgeT, encI, encInts, encNode, encRow, encStrs]
  refine callG (w_triple_Valid a0 a1 a2 r2693 hr2693) (by simp -implicitDefEqProofs only [go_sem, reduceEqDiff, reduceLT, reduceLeDiff, reduceMul, reduceAdd, reduceIte, reduceCtorEq, Nat.reduceBEq, reduceSub, Int.reduceToNat, encEdge, encEdgeT, encI, encInts, encNode, encRow, encStrs] <;> rfl) (pleL_refl _) (by first | exact pers | exact scal rfl) ?_
  try simp -implicitDefEqProofs only [go_sem, reduceEqDiff, reduceLT, reduceLeDiff, reduceMul, reduceAdd, reduceIte, reduceCtorEq, Nat.reduceBEq, reduceSub, Int.reduceToNat, encEdge, encEdgeT, encI, encInts, encNode, encRow, encStrs]
  refine condC_splitN (fun b2694 => ?_) (fun b2694 => ?_)
  · replace h := cond_t h b2694
    obtain ⟨r2695, hr2695, h⟩ := thn_s h
    try simp -implicitDefEqProofs only [go_sem, reduceEqDiff, reduceLT, reduceLeDiff, reduceMul, reduceAdd, reduceIte, reduceCtorEq, Nat.reduceBEq, reduceSub, Int.reduceToNat, encEdge, encEdgeT, encI, encInts, encNode, encRow, encStrs, b2694]
    refine callG (w_triple_Valid a0 a1 a3 r2695 hr2695) (by simp -implicitDefEqProofs only [go_sem, reduceEqDiff, reduceLT, reduceLeDiff, reduceMul, reduceAdd, reduceIte, reduceCtorEq, Nat.reduceBEq, reduceSub, Int.reduceToNat, encEdge, encEdgeT, encI, encInts, encNode, encRow, encStrs, b2694] <;> rfl) (pleL_refl _) (by first | exact pers | exact scal rfl) ?_
    try simp -implicitDefEqProofs only [go_sem, reduceEqDiff, reduceLT, reduceLeDiff, reduceMul, reduceAdd, reduceIte, reduceCtorEq, Nat.reduceBEq, reduceSub, Int.reduceToNat, encEdge, encEdgeT, encI, encInts, encNode, encRow, encStrs, b2694]
    refine condC_splitN (fun b2696 => ?_) (fun b2696 => ?_)
    · replace h := cond_t h b2696
      obtain ⟨r2697, hr2697, h⟩ := thn_s h
      try simp -implicitDefEqProofs only [go_sem, reduceEqDiff, reduceLT, reduceLeDiff, reduceMul, reduceAdd, reduceIte, reduceCtorEq, Nat.reduceBEq, reduceSub, Int.reduceToNat, encEdge, encEdgeT, encI, encInts, encNode, encRow, encStrs, b2694, b2696]
      refine callG (w_triple_only a1 a2.graph 1 r2697 hr2697) (by simp -implicitDefEqProofs only [go_sem, reduceEqDiff, reduceLT, reduceLeDiff, reduceMul, reduceAdd, reduceIte, reduceCtorEq, Nat.reduceBEq, reduceSub, Int.reduceToNat, encEdge, encEdgeT, encI, encInts, encNode, encRow, encStrs, b2694, b2696] <;> rfl) (pleL_refl _) (by first | exact pers | exact scal rfl) ?_
      try simp -implicitDefEqProofs only [go_sem, reduceEqDiff, reduceLT, reduceLeDiff, reduceMul, reduceAdd, reduceIte, reduceCtorEq, Nat.reduceBEq, reduceSub, Int.reduceToNat, encEdge, encEdgeT, encI, encInts, encNode, encRow, encStrs, b2694, b2696]
      refine walkG_split (fun b2698 => ?_) (fun b2698 => ?_)
      · replace h := cond_t h b2698
        obtain ⟨r2699, hr2699, h⟩ := thn_s h
        try simp -implicitDefEqProofs only [go_sem, reduceEqDiff, reduceLT, reduceLeDiff, reduceMul, reduceAdd, reduceIte, reduceCtorEq, Nat.reduceBEq, reduceSub, Int.reduceToNat, encEdge, encEdgeT, encI, encInts, encNode, encRow, encStrs, b2694, b2696, b2698]
        refine callG (w_triple_only a1 a3.graph 3 r2699 hr2699) (by simp -implicitDefEqProofs only [go_sem, reduceEqDiff, reduceLT, reduceLeDiff, reduceMul, reduceAdd, reduceIte, reduceCtorEq, Nat.reduceBEq, reduceSub, Int.reduceToNat, encEdge, encEdgeT, encI, encInts, encNode, encRow, encStrs, b2694, b2696, b2698] <;> rfl) (pleL_refl _) (by first | exact pers | exact scal rfl) ?_
        try simp -implicitDefEqProofs only [go_sem, reduceEqDiff, reduceLT, reduceLeDiff, reduceMul, reduceAdd, reduceIte, reduceCtorEq, Nat.reduceBEq, reduceSub, Int.reduceToNat, encEdge, encEdgeT, encI, encInts, encNode, encRow, encStrs, b2694, b2696, b2698]
        refine condC_splitN (fun b2700 => ?_) (fun b2700 => ?_)
        · replace h := cond_t h b2700
          try simp -implicitDefEqProofs only [go_sem, reduceEqDiff, reduceLT, reduceLeDiff, reduceMul, reduceAdd, reduceIte, reduceCtorEq, Nat.reduceBEq, reduceSub, Int.reduceToNat, encEdge, encEdgeT, encI, encInts, encNode, encRow, encStrs, b2694, b2696, b2698, b2700]
          refine walkG_splitN (fun b2701 => ?_) (fun b2701 => ?_)
          · replace h := cond_t h b2701
            cases h
            try simp -implicitDefEqProofs only [go_sem, reduceEqDiff, reduceLT, reduceLeDiff, reduceMul, reduceAdd, reduceIte, reduceCtorEq, Nat.reduceBEq, reduceSub, Int.reduceToNat, encEdge, encEdgeT, encI, encInts, encNode, encRow, encStrs, b2694, b2696, b2698, b2700, b2701]
            refine ⟨by decide, _, .refl _, ?_⟩
            simp -implicitDefEqProofs only [go_sem, reduceEqDiff, reduceLT, reduceLeDiff, reduceMul, reduceAdd, reduceIte, reduceCtorEq, Nat.reduceBEq, reduceSub, Int.reduceToNat, encEdge, encEdgeT, encI, encInts, encNode, encRow, encStrs, b2694, b2696, b2698, b2700, b2701] <;> ((repeat' apply And.intro) <;> rfl)
          · replace h := cond_f h b2701
            try simp -implicitDefEqProofs only [go_sem, reduceEqDiff, reduceLT, reduceLeDiff, reduceMul, reduceAdd, reduceIte, reduceCtorEq, Nat.reduceBEq, reduceSub, Int.reduceToNat, encEdge, encEdgeT, encI, encInts, encNode, encRow, encStrs, b2694, b2696, b2698, b2700, b2701]
            refine condC_split (fun b2702 => ?_) (fun b2702 => ?_)
            · replace h := cond_t h b2702
              cases h
              try simp -implicitDefEqProofs only [go_sem, reduceEqDiff, reduceLT, reduceLeDiff, reduceMul, reduceAdd, reduceIte, reduceCtorEq, Nat.reduceBEq, reduceSub, Int.reduceToNat, encEdge, encEdgeT, encI, encInts, encNode, encRow, encStrs, b2694, b2696, b2698, b2700, b2701, b2702]
              refine ⟨by decide, _, .refl _, ?_⟩
              simp -implicitDefEqProofs only [go_sem, reduceEqDiff, reduceLT, reduceLeDiff, reduceMul, reduceAdd, reduceIte, reduceCtorEq, Nat.reduceBEq, reduceSub, Int.reduceToNat, encEdge, encEdgeT, encI, encInts, encNode, encRow, encStrs, b2694, b2696, b2698, b2700, b2701, b2702] <;> ((repeat' apply And.intro) <;> rfl)
            · replace h := cond_f h b2702
              try simp -implicitDefEqProofs only [go_sem, reduceEqDiff, reduceLT, reduceLeDiff, reduceMul, reduceAdd, reduceIte, reduceCtorEq, Nat.reduceBEq, reduceSub, Int.reduceToNat, encEdge, encEdgeT, encI, encInts, encNode, encRow, encStrs, b2694, b2696, b2698, b2700, b2701, b2702]
              refine draw_my [(0, .q), (1, .q), (2, .q), (3, .q), (4, .q), (5, .q), (6, .p), (8, .q), (9, .q), (10, .q), (7, .f), (11, .f), (12, .q), (13, .q), (14, .w), (15, .s)] (by kernel_rfl) ?_
              obtain ⟨r2705, hr2705, h⟩ := thn_s h
              try simp -implicitDefEqProofs only [go_sem, reduceEqDiff, reduceLT, reduceLeDiff, reduceMul, reduceAdd, reduceIte, reduceCtorEq, Nat.reduceBEq, reduceSub, Int.reduceToNat, encEdge, encEdgeT, encI, encInts, encNode, encRow, encStrs, b2694, b2696, b2698, b2700, b2701, b2702]
              refine calldfG 2280 (w_slices_Concat_int [a2.graph.nodes, a3.graph.nodes] r2705 hr2705) (by simp -implicitDefEqProofs only [go_sem, reduceEqDiff, reduceLT, reduceLeDiff, reduceMul, reduceAdd, reduceIte, reduceCtorEq, Nat.reduceBEq, reduceSub, Int.reduceToNat, encEdge, encEdgeT, encI, encInts, encNode, encRow, encStrs, b2694, b2696, b2698, b2700, b2701, b2702] <;> rfl) (pleL_refl _) (by first | exact persF | exact flatF rfl | exact flatF (by simp [RV.flat, RV.flatL, PV.scalar, isVal, encI])) (by simp -implicitDefEqProofs only [go_sem, reduceEqDiff, reduceLT, reduceLeDiff, reduceMul, reduceAdd, reduceIte, reduceCtorEq, Nat.reduceBEq, reduceSub, Int.reduceToNat, encEdge, encEdgeT, encI, encInts, encNode, encRow, encStrs, b2694, b2696, b2698, b2700, b2701, b2702]) (by simp -implicitDefEqProofs only [go_sem, reduceEqDiff, reduceLT, reduceLeDiff, reduceMul, reduceAdd, reduceIte, reduceCtorEq, Nat.reduceBEq, reduceSub, Int.reduceToNat, encEdge, encEdgeT, encI, encInts, encNode, encRow, encStrs, b2694, b2696, b2698, b2700, b2701, b2702]) ?_
              obtain ⟨r2706, hr2706, h⟩ := thn_s h
              try simp -implicitDefEqProofs only [go_sem, reduceEqDiff, reduceLT, reduceLeDiff, reduceMul, reduceAdd, reduceIte, reduceCtorEq, Nat.reduceBEq, reduceSub, Int.reduceToNat, encEdge, encEdgeT, encI, encInts, encNode, encRow, encStrs, b2694, b2696, b2698, b2700, b2701, b2702]
              refine calldfG 2344 (w_slices_Clone_Edge a2.graph.edges r2706 hr2706) (by simp -implicitDefEqProofs only [go_sem, reduceEqDiff, reduceLT, reduceLeDiff, reduceMul, reduceAdd, reduceIte, reduceCtorEq, Nat.reduceBEq, reduceSub, Int.reduceToNat, encEdge, encEdgeT, encI, encInts, encNode, encRow, encStrs, b2694, b2696, b2698, b2700, b2701, b2702] <;> rfl) (pleL_refl _) (by first | exact persF | exact flatF rfl | exact flatF (by simp [RV.flat, RV.flatL, PV.scalar, isVal, encEdge])) (by simp -implicitDefEqProofs only [go_sem, reduceEqDiff, reduceLT, reduceLeDiff, reduceMul, reduceAdd, reduceIte, reduceCtorEq, Nat.reduceBEq, reduceSub, Int.reduceToNat, encEdge, encEdgeT, encI, encInts, encNode, encRow, encStrs, b2694, b2696, b2698, b2700, b2701, b2702]) (by simp -implicitDefEqProofs only [go_sem, reduceEqDiff, reduceLT, reduceLeDiff, reduceMul, reduceAdd, reduceIte, reduceCtorEq, Nat.reduceBEq, reduceSub, Int.reduceToNat, encEdge, encEdgeT, encI, encInts, encNode, encRow, encStrs, b2694, b2696, b2698, b2700, b2701, b2702]) ?_
              obtain ⟨fus2713, h⟩ := chk_s h
              unfold fuel at fus2713
              try simp -implicitDefEqProofs only [go_sem, reduceEqDiff, reduceLT, reduceLeDiff, reduceMul, reduceAdd, reduceIte, reduceCtorEq, Nat.reduceBEq, reduceSub, Int.reduceToNat, encEdge, encEdgeT, encI, encInts, encNode, encRow, encStrs, b2694, b2696, b2698, b2700, b2701, b2702]
              refine forN_go (fun x : (Nat × ((List Edge))) × (Nat) => envL [(6, .ptr 6 0), (7, .ptr 7 0), (8, .ptr 8 0), (12, .p (.val (.int .i64 ((a2.graph.nodes.length : Nat) : Int)))), (13, .ptr 13 0), (89, .p (.lst (a3.graph.edges.map encEdge))), (90, .p (.val (.int .i64 ((a3.graph.edges.length : Nat) : Int)))), (91, .p (.val (.int .i64 ((x.1.1 : Nat) : Int))))]) (fun x => heapL [(6, .box [.p (.lst (a2.graph.nodes.map encI)), .p (.lst (a2.graph.edges.map encEdge)), .p (.lst (a2.values.map encRow))]), (7, .box [.p (.lst (a3.graph.nodes.map encI)), .p (.lst (a3.graph.edges.map encEdge)), .p (.lst (a3.values.map encRow))]), (8, .box [.p (.val (.slice none 0 0)), .p (.val (.slice none 0 0)), .p (.val (.slice none 0 0))]), (13, .box [.row 2280 0, .row 2344 x.2, .p (.val (.slice none 0 0))]), (2280, .row 0 3 1 (r2705.map encI)), (2344, .row x.2 73 3 (x.1.2.map encEdge))]) 0 h (weakL (by simp -implicitDefEqProofs only [go_sem, reduceEqDiff, reduceLT, reduceLeDiff, reduceMul, reduceAdd, reduceIte, reduceCtorEq, Nat.reduceBEq, reduceSub, Int.reduceToNat, encEdge, encEdgeT, encI, encInts, encNode, encRow, encStrs, b2694, b2696, b2698, b2700, b2701, b2702] <;> ((repeat' apply And.intro) <;> rfl))) ?_ ?_
              · intro i2713 s2713 g2713 nxts2713 Rs2713 his2713 hNs2713 h
                have hws2713 := wrap_succ (k := i2713) his2713 (by omega)
                try dsimp only at h
                obtain ⟨e2718, c2718, g2718, q2718, h⟩ := idx_s encEdge h
                obtain ⟨c2719, h⟩ := chk_s h
                have k2720 := eq_true (show (s2713.length + 1) * 24 ≤ 140737488355328 by omega)
                have a2721 := map_apps encEdge s2713 [(⟨e2718.type, (IntKind.i64.wrap (e2718.src + ((a2.graph.nodes.length : Nat) : Int))), (IntKind.i64.wrap (e2718.dst + ((a2.graph.nodes.length : Nat) : Int)))⟩ : Edge)] (c := [[.val (.int .i64 e2718.type), .val (.int .i64 (IntKind.i64.wrap (e2718.src + ((a2.graph.nodes.length : Nat) : Int)))), .val (.int .i64 (IntKind.i64.wrap (e2718.dst + ((a2.graph.nodes.length : Nat) : Int))))]]) rfl
                try simp -implicitDefEqProofs only [go_sem, reduceEqDiff, reduceLT, reduceLeDiff, reduceMul, reduceAdd, reduceIte, reduceCtorEq, Nat.reduceBEq, reduceSub, Int.reduceToNat, encEdge, encEdgeT, encI, encInts, encNode, encRow, encStrs, b2694, b2696, b2698, b2700, b2701, b2702, his2713, hws2713, c2718, g2718, c2719, k2720, a2721]
                exact hNs2713 (s2713 ++ [(⟨e2718.type, (IntKind.i64.wrap (e2718.src + ((a2.graph.nodes.length : Nat) : Int))), (IntKind.i64.wrap (e2718.dst + ((a2.graph.nodes.length : Nat) : Int)))⟩ : Edge)]) (g2713 + 1) h (weakL (by simp -implicitDefEqProofs only [go_sem, reduceEqDiff, reduceLT, reduceLeDiff, reduceMul, reduceAdd, reduceIte, reduceCtorEq, Nat.reduceBEq, reduceSub, Int.reduceToNat, encEdge, encEdgeT, encI, encInts, encNode, encRow, encStrs, b2694, b2696, b2698, b2700, b2701, b2702, his2713, hws2713, c2718, g2718, c2719, k2720, a2721] <;> ((repeat' apply And.intro) <;> rfl)))
              · intro i2713 s2713 g2713 Rs2713 hes2713 h
                have hns2713 : ¬ (i2713 < a3.graph.edges.length) := by omega
                try dsimp only at h
                obtain ⟨r2722, hr2722, h⟩ := thn_s h
                try simp -implicitDefEqProofs only [go_sem, reduceEqDiff, reduceLT, reduceLeDiff, reduceMul, reduceAdd, reduceIte, reduceCtorEq, Nat.reduceBEq, reduceSub, Int.reduceToNat, encEdge, encEdgeT, encI, encInts, encNode, encRow, encStrs, b2694, b2696, b2698, b2700, b2701, b2702, hns2713]
                refine callfG 2904 (w_slices_Concat_Lint [a2.values, a3.values] r2722 hr2722) (by simp -implicitDefEqProofs only [go_sem, reduceEqDiff, reduceLT, reduceLeDiff, reduceMul, reduceAdd, reduceIte, reduceCtorEq, Nat.reduceBEq, reduceSub, Int.reduceToNat, encEdge, encEdgeT, encI, encInts, encNode, encRow, encStrs, b2694, b2696, b2698, b2700, b2701, b2702, hns2713] <;> rfl) (pleL_refl _) (by first | exact persF | exact flatF rfl | exact flatF (by simp [RV.flat, RV.flatL, PV.scalar, isVal, encRow])) (by simp -implicitDefEqProofs only [go_sem, reduceEqDiff, reduceLT, reduceLeDiff, reduceMul, reduceAdd, reduceIte, reduceCtorEq, Nat.reduceBEq, reduceSub, Int.reduceToNat, encEdge, encEdgeT, encI, encInts, encNode, encRow, encStrs, b2694, b2696, b2698, b2700, b2701, b2702, hns2713]) ?_
                obtain ⟨fus2733, h⟩ := chk_s h
                unfold fuel at fus2733
                try simp -implicitDefEqProofs only [go_sem, reduceEqDiff, reduceLT, reduceLeDiff, reduceMul, reduceAdd, reduceIte, reduceCtorEq, Nat.reduceBEq, reduceSub, Int.reduceToNat, encEdge, encEdgeT, encI, encInts, encNode, encRow, encStrs, b2694, b2696, b2698, b2700, b2701, b2702, hns2713]
                refine forN_go (fun x : (Nat × ((List (List Int)))) × (Nat) => envL [(8, .ptr 8 0), (13, .ptr 13 0), (119, .row 2904 0), (120, .p (.val (.int .i64 ((r2722.length : Nat) : Int)))), (121, .p (.val (.int .i64 ((x.1.1 : Nat) : Int))))]) (fun x => heapL [(8, .box [.p (.val (.slice none 0 0)), .p (.val (.slice none 0 0)), .p (.val (.slice none 0 0))]), (13, .box [.row 2280 0, .row 2344 g2713, .row 4731 x.2]), (2904, .row 0 26 1 (r2722.map encRow)), (2280, .row 0 3 1 (r2705.map encI)), (2344, .row g2713 73 3 (s2713.map encEdge)), (4731, .row x.2 26 1 (x.1.2.map encRow))]) 0 h (by refine Weak.trans (weak_nilbox 13 2 4731 26 1 _ rfl rfl rfl (by decide)) ?_; exact (weakL (by simp -implicitDefEqProofs only [go_sem, reduceEqDiff, reduceLT, reduceLeDiff, reduceMul, reduceAdd, reduceIte, reduceCtorEq, Nat.reduceBEq, reduceSub, Int.reduceToNat, encEdge, encEdgeT, encI, encInts, encNode, encRow, encStrs, b2694, b2696, b2698, b2700, b2701, b2702, hns2713] <;> ((repeat' apply And.intro) <;> rfl)))) ?_ ?_
                · intro i2733 s2733 g2733 nxts2733 Rs2733 his2733 hNs2733 h
                  have hws2733 := wrap_succ (k := i2733) his2733 (by omega)
                  try dsimp only at h
                  obtain ⟨e2743, c2743, g2743, q2743, h⟩ := idx_s encRow h
                  try simp -implicitDefEqProofs only [go_sem, reduceEqDiff, reduceLT, reduceLeDiff, reduceMul, reduceAdd, reduceIte, reduceCtorEq, Nat.reduceBEq, reduceSub, Int.reduceToNat, encEdge, encEdgeT, encI, encInts, encNode, encRow, encStrs, b2694, b2696, b2698, b2700, b2701, b2702, hns2713, his2733, hws2733, c2743, g2743]
                  refine draw_my [(0, .p), (2, .q), (3, .q), (4, .p), (1, .q), (5, .w), (6, .q), (7, .w)] (by kernel_rfl) ?_
                  obtain ⟨r2748, hr2748, h⟩ := thn_s h
                  try simp -implicitDefEqProofs only [go_sem, reduceEqDiff, reduceLT, reduceLeDiff, reduceMul, reduceAdd, reduceIte, reduceCtorEq, Nat.reduceBEq, reduceSub, Int.reduceToNat, encEdge, encEdgeT, encI, encInts, encNode, encRow, encStrs, b2694, b2696, b2698, b2700, b2701, b2702, hns2713, his2733, hws2733, c2743, g2743]
                  refine calldG (show CallV _ _ _ (fun v => v = .lst (r2748.map encI)) from (w_slices_Clone_int e2743 r2748 hr2748).toV1) (by simp -implicitDefEqProofs only [go_sem, reduceEqDiff, reduceLT, reduceLeDiff, reduceMul, reduceAdd, reduceIte, reduceCtorEq, Nat.reduceBEq, reduceSub, Int.reduceToNat, encEdge, encEdgeT, encI, encInts, encNode, encRow, encStrs, b2694, b2696, b2698, b2700, b2701, b2702, hns2713, his2733, hws2733, c2743, g2743] <;> rfl) (pleL_refl _) (by first | exact pers | exact scal rfl) ?_
                  obtain ⟨c2749, h⟩ := chk_s h
                  have k2750 := eq_true (show (s2733.length + 1) * 24 ≤ 140737488355328 by omega)
                  have a2751 := map_apps encRow s2733 [r2748] (c := [[.lst (r2748.map encI)]]) rfl
                  try simp -implicitDefEqProofs only [go_sem, reduceEqDiff, reduceLT, reduceLeDiff, reduceMul, reduceAdd, reduceIte, reduceCtorEq, Nat.reduceBEq, reduceSub, Int.reduceToNat, encEdge, encEdgeT, encI, encInts, encNode, encRow, encStrs, b2694, b2696, b2698, b2700, b2701, b2702, hns2713, his2733, hws2733, c2743, g2743, c2749, k2750, a2751]
                  exact hNs2733 (s2733 ++ [r2748]) (g2733 + 1) h (weakL (by simp -implicitDefEqProofs only [go_sem, reduceEqDiff, reduceLT, reduceLeDiff, reduceMul, reduceAdd, reduceIte, reduceCtorEq, Nat.reduceBEq, reduceSub, Int.reduceToNat, encEdge, encEdgeT, encI, encInts, encNode, encRow, encStrs, b2694, b2696, b2698, b2700, b2701, b2702, hns2713, his2733, hws2733, c2743, g2743, c2749, k2750, a2751] <;> ((repeat' apply And.intro) <;> rfl)))
                · intro i2733 s2733 g2733 Rs2733 hes2733 h
                  have hns2733 : ¬ (i2733 < r2722.length) := by omega
                  try dsimp only at h
                  cases h
                  try simp -implicitDefEqProofs only [go_sem, reduceEqDiff, reduceLT, reduceLeDiff, reduceMul, reduceAdd, reduceIte, reduceCtorEq, Nat.reduceBEq, reduceSub, Int.reduceToNat, encEdge, encEdgeT, encI, encInts, encNode, encRow, encStrs, b2694, b2696, b2698, b2700, b2701, b2702, hns2713, hns2733]
                  refine ⟨by decide, _, .refl _, ?_⟩
                  simp -implicitDefEqProofs only [go_sem, reduceEqDiff, reduceLT, reduceLeDiff, reduceMul, reduceAdd, reduceIte, reduceCtorEq, Nat.reduceBEq, reduceSub, Int.reduceToNat, encEdge, encEdgeT, encI, encInts, encNode, encRow, encStrs, b2694, b2696, b2698, b2700, b2701, b2702, hns2713, hns2733] <;> ((repeat' apply And.intro) <;> rfl)
        · replace h := cond_f h b2700
          cases h
          try simp -implicitDefEqProofs only [go_sem, reduceEqDiff, reduceLT, reduceLeDiff, reduceMul, reduceAdd, reduceIte, reduceCtorEq, Nat.reduceBEq, reduceSub, Int.reduceToNat, encEdge, encEdgeT, encI, encInts, encNode, encRow, encStrs, b2694, b2696, b2698, b2700]
          refine ⟨by decide, _, .refl _, ?_⟩
          simp -implicitDefEqProofs only [go_sem, reduceEqDiff, reduceLT, reduceLeDiff, reduceMul, reduceAdd, reduceIte, reduceCtorEq, Nat.reduceBEq, reduceSub, Int.reduceToNat, encEdge, encEdgeT, encI, encInts, encNode, encRow, encStrs, b2694, b2696, b2698, b2700] <;> ((repeat' apply And.intro) <;> rfl)
      · replace h := cond_f h b2698
        cases h
        try simp -implicitDefEqProofs only [go_sem, reduceEqDiff, reduceLT, reduceLeDiff, reduceMul, reduceAdd, reduceIte, reduceCtorEq, Nat.reduceBEq, reduceSub, Int.reduceToNat, encEdge, encEdgeT, encI, encInts, encNode, encRow, encStrs, b2694, b2696, b2698]
        refine ⟨by decide, _, .refl _, ?_⟩
        simp -implicitDefEqProofs only [go_sem, reduceEqDiff, reduceLT, reduceLeDiff, reduceMul, reduceAdd, reduceIte, reduceCtorEq, Nat.reduceBEq, reduceSub, Int.reduceToNat, encEdge, encEdgeT, encI, encInts, encNode, encRow, encStrs, b2694, b2696, b2698] <;> ((repeat' apply And.intro) <;> rfl)
    · replace h := cond_f h b2696
      cases h
      try simp -implicitDefEqProofs only [go_sem, reduceEqDiff, reduceLT, reduceLeDiff, reduceMul, reduceAdd, reduceIte, reduceCtorEq, Nat.reduceBEq, reduceSub, Int.reduceToNat, encEdge, encEdgeT, encI, encInts, encNode, encRow, encStrs, b2694, b2696]
      refine ⟨by decide, _, .refl _, ?_⟩
      simp -implicitDefEqProofs only [go_sem, reduceEqDiff, reduceLT, reduceLeDiff, reduceMul, reduceAdd, reduceIte, reduceCtorEq, Nat.reduceBEq, reduceSub, Int.reduceToNat, encEdge, encEdgeT, encI, encInts, encNode, encRow, encStrs, b2694, b2696] <;> ((repeat' apply And.intro) <;> rfl)
  · replace h := cond_f h b2694
    cases h
    try simp -implicitDefEqProofs only [go_sem, reduceEqDiff, reduceLT, reduceLeDiff, reduceMul, reduceAdd, reduceIte, reduceCtorEq, Nat.reduceBEq, reduceSub, Int.reduceToNat, encEdge, encEdgeT, encI, encInts, encNode, encRow, encStrs, b2694]
    refine ⟨by decide, _, .refl _, ?_⟩
    simp -implicitDefEqProofs only [go_sem, reduceEqDiff, reduceLT, reduceLeDiff, reduceMul, reduceAdd, reduceIte, reduceCtorEq, Nat.reduceBEq, reduceSub, Int.reduceToNat, encEdge, encEdgeT, encI, encInts, encNode, encRow, encStrs, b2694] <;> ((repeat' apply And.intro) <;> rfl)


def f_scarfjointref52_pure (a0 : Sorts) (a1 : Graph) (a2 : Int) : Option Bool :=
  thn (f_scarfjointref52_Part a0 a1 a2) fun r2757 =>
  cond (decide (((r2757.nodes.length : Nat) : Int) = ((a1.nodes.length : Nat) : Int))) (
    some (decide (((r2757.edges.length : Nat) : Int) = ((a1.edges.length : Nat) : Int)))) <|
  some false
set_option maxHeartbeats 4000000 in
theorem w_scarfjointref52_pure (a0 : Sorts) (a1 : Graph) (a2 : Int) (r : Bool) (h : f_scarfjointref52_pure a0 a1 a2 = some r) : CallV Go.Proofs.Tryz.prog 47 [.agg [.lst (a0.nodes.map encI), .lst (a0.edges.map encI)], .agg [.lst (a1.nodes.map encI), .lst (a1.edges.map encEdge)], .val (.int .i64 a2)] (fun v => v = .val (.bool r)) := by
  refine CallV.ple ?_
  refine callV_of_cw [] Ty.mixed Go.Proofs.Tryz.func47 rfl (by kernel_rfl) (by simp [Go.Proofs.Tryz.ntmps47]) ?_; rw [Go.Proofs.Tryz.ntmps47, Go.Proofs.Tryz.results47]
  unfold f_scarfjointref52_pure at h
  obtain ⟨r2757, hr2757, h⟩ := thn_s h
  try simp -implicitDefEqProofs only [go_sem, reduceEqDiff, reduceLT, reduceLeDiff, reduceMul, reduceAdd, reduceIte, reduceCtorEq, Nat.reduceBEq, reduceSub, Int.reduceToNat, encEdge, encI]
  refine callG (w_scarfjointref52_Part a0 a1 a2 r2757 hr2757) (by simp -implicitDefEqProofs only [go_sem, reduceEqDiff, reduceLT, reduceLeDiff, reduceMul, reduceAdd, reduceIte, reduceCtorEq, Nat.reduceBEq, reduceSub, Int.reduceToNat, encEdge, encI] <;> rfl) (pleL_refl _) (by first | exact pers | exact scal rfl) ?_
  try simp -implicitDefEqProofs only [go_sem, reduceEqDiff, reduceLT, reduceLeDiff, reduceMul, reduceAdd, reduceIte, reduceCtorEq, Nat.reduceBEq, reduceSub, Int.reduceToNat, encEdge, encI]
  refine walkG_split (fun b2758 => ?_) (fun b2758 => ?_)
  · replace h := cond_t h b2758
    cases h
    try simp -implicitDefEqProofs only [go_sem, reduceEqDiff, reduceLT, reduceLeDiff, reduceMul, reduceAdd, reduceIte, reduceCtorEq, Nat.reduceBEq, reduceSub, Int.reduceToNat, encEdge, encI, b2758]
    all_goals ((repeat' apply And.intro) <;> rfl)
  · replace h := cond_f h b2758
    cases h
    try simp -implicitDefEqProofs only [go_sem, reduceEqDiff, reduceLT, reduceLeDiff, reduceMul, reduceAdd, reduceIte, reduceCtorEq, Nat.reduceBEq, reduceSub, Int.reduceToNat, encEdge, encI, b2758]
    all_goals ((repeat' apply And.intro) <;> rfl)


def f_scarfjointref05_Copied (a0 : Graph) : Option Graph :=
  chk (a0.nodes.length ≤ 68719476736) <|
  chk (a0.edges.length ≤ 68719476736) <|
  some a0
set_option maxHeartbeats 4000000 in
theorem w_scarfjointref05_Copied (a0 : Graph) (r : Graph) (h : f_scarfjointref05_Copied a0 = some r) : CallF Go.Proofs.Tryz.prog 71 [.agg [.lst (a0.nodes.map encI), .lst (a0.edges.map encEdge)]] (fun v => v = .agg [.row 3 1 (r.nodes.map encI), .row 73 3 (r.edges.map encEdge)]) := by
  refine CallF.rle ?_
  refine callF_of_cw [3, 6, 7, 10] Ty.mixed Go.Proofs.Tryz.func71 rfl (by kernel_rfl) (by simp [Go.Proofs.Tryz.ntmps71]) ?_; rw [Go.Proofs.Tryz.ntmps71, Go.Proofs.Tryz.results71]
  unfold f_scarfjointref05_Copied at h
  try simp -implicitDefEqProofs only [go_sem, reduceEqDiff, reduceLT, reduceLeDiff, reduceMul, reduceAdd, reduceIte, reduceCtorEq, Nat.reduceBEq, reduceSub, Int.reduceToNat, encEdge, encI]
  refine draw_my [(1, .q), (2, .q), (5, .b), (6, .b), (0, .w), (3, .s), (4, .w), (7, .s), (8, .q), (9, .w)] (by kernel_rfl) ?_
  obtain ⟨c2780, h⟩ := chk_s h
  have k2781 := eq_true (show (a0.nodes.length) * 8 ≤ 140737488355328 by omega)
  have k2782 := eq_true (map_len (n := 1) (f := encI) (fun _ => rfl) a0.nodes)
  obtain ⟨c2783, h⟩ := chk_s h
  have k2784 := eq_true (show (a0.edges.length) * 24 ≤ 140737488355328 by omega)
  have k2785 := eq_true (map_len (n := 3) (f := encEdge) (fun _ => rfl) a0.edges)
  cases h
  try simp -implicitDefEqProofs only [go_sem, reduceEqDiff, reduceLT, reduceLeDiff, reduceMul, reduceAdd, reduceIte, reduceCtorEq, Nat.reduceBEq, reduceSub, Int.reduceToNat, encEdge, encI, c2780, k2781, k2782, c2783, k2784, k2785]
  refine ⟨by decide, _, .refl _, ?_⟩
  simp -implicitDefEqProofs only [go_sem, reduceEqDiff, reduceLT, reduceLeDiff, reduceMul, reduceAdd, reduceIte, reduceCtorEq, Nat.reduceBEq, reduceSub, Int.reduceToNat, encEdge, encI, c2780, k2781, k2782, c2783, k2784, k2785] <;> ((repeat' apply And.intro) <;> rfl)


def f_scarfjointref15_Copied (a0 : Host) : Option Host :=
  thn (f_scarfjointref05_Copied a0.graph) fun r2809 =>
  chk (a0.values.length ≤ fuel) <|
  forN (fun i2819 (s2819 : (List (List Int))) nxts2819 brks2819 =>
    thn (a0.values[i2819]?) fun e2827 =>
    chk (e2827.length ≤ 68719476736) <|
    chk (s2819.length + 1 ≤ 68719476736) <|
    nxts2819 (s2819 ++ [e2827]))
  (a0.values.length - 0) 0 ([] : List (List Int)) fun s2819 =>
  some (⟨r2809, s2819⟩ : Host)
set_option maxHeartbeats 4000000 in
theorem w_scarfjointref15_Copied (a0 : Host) (r : Host) (h : f_scarfjointref15_Copied a0 = some r) : CallF Go.Proofs.Tryz.prog 48 [.agg [.lst (a0.graph.nodes.map encI), .lst (a0.graph.edges.map encEdge), .lst (a0.values.map encRow)]] (fun v => v = .agg [.row 3 1 (r.graph.nodes.map encI), .row 73 3 (r.graph.edges.map encEdge), .row 26 1 (r.values.map encRow)]) := by
  refine CallF.rle ?_
  refine callF_of_cw [25, 26] Ty.mixed Go.Proofs.Tryz.func48 rfl (by kernel_rfl) (by simp [Go.Proofs.Tryz.ntmps48]) ?_; rw [Go.Proofs.Tryz.ntmps48, Go.Proofs.Tryz.results48]
  unfold f_scarfjointref15_Copied at h
  obtain ⟨r2809, hr2809, h⟩ := thn_s h
  try simp -implicitDefEqProofs only [go_sem, reduceEqDiff, reduceLT, reduceLeDiff, reduceMul, reduceAdd, reduceIte, reduceCtorEq, Nat.reduceBEq, reduceSub, Int.reduceToNat, encEdge, encI, encInts, encRow, encStrs]
  refine callfG 1112 (w_scarfjointref05_Copied a0.graph r2809 hr2809) (by simp -implicitDefEqProofs only [go_sem, reduceEqDiff, reduceLT, reduceLeDiff, reduceMul, reduceAdd, reduceIte, reduceCtorEq, Nat.reduceBEq, reduceSub, Int.reduceToNat, encEdge, encI, encInts, encRow, encStrs] <;> rfl) (pleL_refl _) (by first | exact persF | exact flatF rfl | exact flatF (by simp [RV.flat, RV.flatL, PV.scalar, isVal, encI, encEdge])) (by simp -implicitDefEqProofs only [go_sem, reduceEqDiff, reduceLT, reduceLeDiff, reduceMul, reduceAdd, reduceIte, reduceCtorEq, Nat.reduceBEq, reduceSub, Int.reduceToNat, encEdge, encI, encInts, encRow, encStrs]) ?_
  obtain ⟨fus2819, h⟩ := chk_s h
  unfold fuel at fus2819
  try simp -implicitDefEqProofs only [go_sem, reduceEqDiff, reduceLT, reduceLeDiff, reduceMul, reduceAdd, reduceIte, reduceCtorEq, Nat.reduceBEq, reduceSub, Int.reduceToNat, encEdge, encI, encInts, encRow, encStrs]
  refine forN_go (fun x : (Nat × ((List (List Int)))) × (Nat) => envL [(1, .ptr 1 0), (2, .ptr 2 0), (3, .ptr 3 0), (4, .p (.val (.int .i64 ((x.1.1 : Nat) : Int))))]) (fun x => heapL [(1, .box [.p (.lst (a0.graph.nodes.map encI)), .p (.lst (a0.graph.edges.map encEdge)), .p (.lst (a0.values.map encRow))]), (2, .box [.p (.val (.slice none 0 0)), .p (.val (.slice none 0 0)), .p (.val (.slice none 0 0))]), (3, .box [.row 1112 0, .row 1113 0, .row 4817 x.2]), (1112, .row 0 3 1 (r2809.nodes.map encI)), (1113, .row 0 73 3 (r2809.edges.map encEdge)), (4817, .row x.2 26 1 (x.1.2.map encRow))]) 0 h (by refine Weak.trans (weak_nilbox 3 2 4817 26 1 _ rfl rfl rfl (by decide)) ?_; exact (weakL (by simp -implicitDefEqProofs only [go_sem, reduceEqDiff, reduceLT, reduceLeDiff, reduceMul, reduceAdd, reduceIte, reduceCtorEq, Nat.reduceBEq, reduceSub, Int.reduceToNat, encEdge, encI, encInts, encRow, encStrs] <;> ((repeat' apply And.intro) <;> rfl)))) ?_ ?_
  · intro i2819 s2819 g2819 nxts2819 Rs2819 his2819 hNs2819 h
    have hws2819 := wrap_succ (k := i2819) his2819 (by omega)
    try dsimp only at h
    try simp -implicitDefEqProofs only [go_sem, reduceEqDiff, reduceLT, reduceLeDiff, reduceMul, reduceAdd, reduceIte, reduceCtorEq, Nat.reduceBEq, reduceSub, Int.reduceToNat, encEdge, encI, encInts, encRow, encStrs, his2819, hws2819]
    refine draw_my [(0, .p), (2, .p), (1, .b), (3, .q), (4, .q), (5, .q), (6, .q), (7, .q), (8, .w), (9, .w), (10, .w), (11, .q), (12, .w)] (by kernel_rfl) ?_
    obtain ⟨e2827, c2827, g2827, q2827, h⟩ := idx_s encRow h
    obtain ⟨c2828, h⟩ := chk_s h
    have k2829 := eq_true (show (e2827.length) * 8 ≤ 140737488355328 by omega)
    have k2830 := eq_true (map_len (n := 1) (f := encI) (fun _ => rfl) e2827)
    obtain ⟨c2831, h⟩ := chk_s h
    have k2832 := eq_true (show (s2819.length + 1) * 24 ≤ 140737488355328 by omega)
    have a2833 := map_apps encRow s2819 [e2827] (c := [[.lst (e2827.map encI)]]) rfl
    try simp -implicitDefEqProofs only [go_sem, reduceEqDiff, reduceLT, reduceLeDiff, reduceMul, reduceAdd, reduceIte, reduceCtorEq, Nat.reduceBEq, reduceSub, Int.reduceToNat, encEdge, encI, encInts, encRow, encStrs, his2819, hws2819, c2827, g2827, c2828, k2829, k2830, c2831, k2832, a2833]
    exact hNs2819 (s2819 ++ [e2827]) (g2819 + 1) h (weakL (by simp -implicitDefEqProofs only [go_sem, reduceEqDiff, reduceLT, reduceLeDiff, reduceMul, reduceAdd, reduceIte, reduceCtorEq, Nat.reduceBEq, reduceSub, Int.reduceToNat, encEdge, encI, encInts, encRow, encStrs, his2819, hws2819, c2827, g2827, c2828, k2829, k2830, c2831, k2832, a2833] <;> ((repeat' apply And.intro) <;> rfl)))
  · intro i2819 s2819 g2819 Rs2819 hes2819 h
    have hns2819 : ¬ (i2819 < a0.values.length) := by omega
    try dsimp only at h
    cases h
    try simp -implicitDefEqProofs only [go_sem, reduceEqDiff, reduceLT, reduceLeDiff, reduceMul, reduceAdd, reduceIte, reduceCtorEq, Nat.reduceBEq, reduceSub, Int.reduceToNat, encEdge, encI, encInts, encRow, encStrs, hns2819]
    refine ⟨by decide, _, .refl _, ?_⟩
    simp -implicitDefEqProofs only [go_sem, reduceEqDiff, reduceLT, reduceLeDiff, reduceMul, reduceAdd, reduceIte, reduceCtorEq, Nat.reduceBEq, reduceSub, Int.reduceToNat, encEdge, encI, encInts, encRow, encStrs, hns2819] <;> ((repeat' apply And.intro) <;> rfl)


def f_scarfjointref52_Pair (a0 : Types) (a1 : Sorts) (a2 : Host) (a3 : Host) : Option (Host × Int) :=
  thn (f_scarfjointref52_Valid a0 a1 a2) fun r2836 =>
  cond (decide (r2836 = 0)) (
    thn (f_scarfjointref52_Valid a0 a1 a3) fun r2838 =>
    cond (decide (r2838 = 0)) (
      thn (f_scarfjointref52_pure a1 a2.graph 1) fun r2840 =>
      cond r2840 (
        thn (f_scarfjointref52_pure a1 a3.graph 3) fun r2842 =>
        cond r2842 (
          cond (decide (40 < (IntKind.i64.wrap (((a2.graph.nodes.length : Nat) : Int) + ((a3.graph.nodes.length : Nat) : Int))))) (
            some ((⟨(⟨([] : List Int), ([] : List Edge)⟩ : Graph), ([] : List (List Int))⟩ : Host), 3)) <|
          cond (decide (80 < (IntKind.i64.wrap (((a2.graph.edges.length : Nat) : Int) + ((a3.graph.edges.length : Nat) : Int))))) (
            some ((⟨(⟨([] : List Int), ([] : List Edge)⟩ : Graph), ([] : List (List Int))⟩ : Host), 3)) <|
          thn (f_scarfjointref15_Copied a2) fun r2846 =>
          thn (f_scarfjointref15_Copied a3) fun r2847 =>
          chk (r2846.graph.nodes.length + r2847.graph.nodes.length ≤ 68719476736) <|
          chk (r2846.values.length + r2847.values.length ≤ 68719476736) <|
          chk (r2847.graph.edges.length ≤ fuel) <|
          forN (fun i2860 (s2860 : (List Edge)) nxts2860 brks2860 =>
            thn (r2847.graph.edges[i2860]?) fun e2865 =>
            chk (s2860.length + 1 ≤ 68719476736) <|
            nxts2860 (s2860 ++ [(⟨e2865.type, (IntKind.i64.wrap (e2865.src + ((a2.graph.nodes.length : Nat) : Int))), (IntKind.i64.wrap (e2865.dst + ((a2.graph.nodes.length : Nat) : Int)))⟩ : Edge)]))
          (r2847.graph.edges.length - 0) 0 r2846.graph.edges fun s2860 =>
          some ((⟨(⟨(r2846.graph.nodes ++ r2847.graph.nodes), s2860⟩ : Graph), (r2846.values ++ r2847.values)⟩ : Host), 0)) <|
        some ((⟨(⟨([] : List Int), ([] : List Edge)⟩ : Graph), ([] : List (List Int))⟩ : Host), 1)) <|
      some ((⟨(⟨([] : List Int), ([] : List Edge)⟩ : Graph), ([] : List (List Int))⟩ : Host), 1)) <|
    some ((⟨(⟨([] : List Int), ([] : List Edge)⟩ : Graph), ([] : List (List Int))⟩ : Host), r2838)) <|
  some ((⟨(⟨([] : List Int), ([] : List Edge)⟩ : Graph), ([] : List (List Int))⟩ : Host), r2836)
set_option maxHeartbeats 4000000 in
theorem w_scarfjointref52_Pair (a0 : Types) (a1 : Sorts) (a2 : Host) (a3 : Host) (r : Host × Int) (h : f_scarfjointref52_Pair a0 a1 a2 a3 = some r) : CallF Go.Proofs.Tryz.prog 18 [.agg [.lst (a0.nodes.map encNode), .lst (a0.edges.map encEdgeT)], .agg [.lst (a1.nodes.map encI), .lst (a1.edges.map encI)], .agg [.lst (a2.graph.nodes.map encI), .lst (a2.graph.edges.map encEdge), .lst (a2.values.map encRow)], .agg [.lst (a3.graph.nodes.map encI), .lst (a3.graph.edges.map encEdge), .lst (a3.values.map encRow)]] (fun v => v = .tup [.agg [.row 3 1 (r.1.graph.nodes.map encI), .row 73 3 (r.1.graph.edges.map encEdge), .row 26 1 (r.1.values.map encRow)], .p (.val (.int .i64 r.2))]) := by
  refine CallF.rle ?_
  refine callF_of_cw [] Ty.mixed Go.Proofs.Tryz.func18 rfl (by kernel_rfl) (by simp [Go.Proofs.Tryz.ntmps18]) ?_; rw [Go.Proofs.Tryz.ntmps18, Go.Proofs.Tryz.results18]
  unfold f_scarfjointref52_Pair at h
  obtain ⟨r2836, hr2836, h⟩ := thn_s h
  try simp -implicitDefEqProofs only [go_sem, reduceEqDiff, reduceLT, reduceLeDiff, reduceMul, reduceAdd, reduceIte, reduceCtorEq, Nat.reduceBEq, reduceSub, Int.reduceToNat, encEdge, encEdgeT, encI, encInts, encNode, encRow, encStrs]
  refine callG (w_scarfjointref52_Valid a0 a1 a2 r2836 hr2836) (by simp -implicitDefEqProofs only [go_sem, reduceEqDiff, reduceLT, reduceLeDiff, reduceMul, reduceAdd, reduceIte, reduceCtorEq, Nat.reduceBEq, reduceSub, Int.reduceToNat, encEdge, encEdgeT, encI, encInts, encNode, encRow, encStrs] <;> rfl) (pleL_refl _) (by first | exact pers | exact scal rfl) ?_
  try simp -implicitDefEqProofs only [go_sem, reduceEqDiff, reduceLT, reduceLeDiff, reduceMul, reduceAdd, reduceIte, reduceCtorEq, Nat.reduceBEq, reduceSub, Int.reduceToNat, encEdge, encEdgeT, encI, encInts, encNode, encRow, encStrs]
  refine condC_splitN (fun b2837 => ?_) (fun b2837 => ?_)
  · replace h := cond_t h b2837
    obtain ⟨r2838, hr2838, h⟩ := thn_s h
    try simp -implicitDefEqProofs only [go_sem, reduceEqDiff, reduceLT, reduceLeDiff, reduceMul, reduceAdd, reduceIte, reduceCtorEq, Nat.reduceBEq, reduceSub, Int.reduceToNat, encEdge, encEdgeT, encI, encInts, encNode, encRow, encStrs, b2837]
    refine callG (w_scarfjointref52_Valid a0 a1 a3 r2838 hr2838) (by simp -implicitDefEqProofs only [go_sem, reduceEqDiff, reduceLT, reduceLeDiff, reduceMul, reduceAdd, reduceIte, reduceCtorEq, Nat.reduceBEq, reduceSub, Int.reduceToNat, encEdge, encEdgeT, encI, encInts, encNode, encRow, encStrs, b2837] <;> rfl) (pleL_refl _) (by first | exact pers | exact scal rfl) ?_
    try simp -implicitDefEqProofs only [go_sem, reduceEqDiff, reduceLT, reduceLeDiff, reduceMul, reduceAdd, reduceIte, reduceCtorEq, Nat.reduceBEq, reduceSub, Int.reduceToNat, encEdge, encEdgeT, encI, encInts, encNode, encRow, encStrs, b2837]
    refine condC_splitN (fun b2839 => ?_) (fun b2839 => ?_)
    · replace h := cond_t h b2839
      obtain ⟨r2840, hr2840, h⟩ := thn_s h
      try simp -implicitDefEqProofs only [go_sem, reduceEqDiff, reduceLT, reduceLeDiff, reduceMul, reduceAdd, reduceIte, reduceCtorEq, Nat.reduceBEq, reduceSub, Int.reduceToNat, encEdge, encEdgeT, encI, encInts, encNode, encRow, encStrs, b2837, b2839]
      refine callG (w_scarfjointref52_pure a1 a2.graph 1 r2840 hr2840) (by simp -implicitDefEqProofs only [go_sem, reduceEqDiff, reduceLT, reduceLeDiff, reduceMul, reduceAdd, reduceIte, reduceCtorEq, Nat.reduceBEq, reduceSub, Int.reduceToNat, encEdge, encEdgeT, encI, encInts, encNode, encRow, encStrs, b2837, b2839] <;> rfl) (pleL_refl _) (by first | exact pers | exact scal rfl) ?_
      try simp -implicitDefEqProofs only [go_sem, reduceEqDiff, reduceLT, reduceLeDiff, reduceMul, reduceAdd, reduceIte, reduceCtorEq, Nat.reduceBEq, reduceSub, Int.reduceToNat, encEdge, encEdgeT, encI, encInts, encNode, encRow, encStrs, b2837, b2839]
      refine walkG_split (fun b2841 => ?_) (fun b2841 => ?_)
      · replace h := cond_t h b2841
        obtain ⟨r2842, hr2842, h⟩ := thn_s h
        try simp -implicitDefEqProofs only [go_sem, reduceEqDiff, reduceLT, reduceLeDiff, reduceMul, reduceAdd, reduceIte, reduceCtorEq, Nat.reduceBEq, reduceSub, Int.reduceToNat, encEdge, encEdgeT, encI, encInts, encNode, encRow, encStrs, b2837, b2839, b2841]
        refine callG (w_scarfjointref52_pure a1 a3.graph 3 r2842 hr2842) (by simp -implicitDefEqProofs only [go_sem, reduceEqDiff, reduceLT, reduceLeDiff, reduceMul, reduceAdd, reduceIte, reduceCtorEq, Nat.reduceBEq, reduceSub, Int.reduceToNat, encEdge, encEdgeT, encI, encInts, encNode, encRow, encStrs, b2837, b2839, b2841] <;> rfl) (pleL_refl _) (by first | exact pers | exact scal rfl) ?_
        try simp -implicitDefEqProofs only [go_sem, reduceEqDiff, reduceLT, reduceLeDiff, reduceMul, reduceAdd, reduceIte, reduceCtorEq, Nat.reduceBEq, reduceSub, Int.reduceToNat, encEdge, encEdgeT, encI, encInts, encNode, encRow, encStrs, b2837, b2839, b2841]
        refine condC_splitN (fun b2843 => ?_) (fun b2843 => ?_)
        · replace h := cond_t h b2843
          try simp -implicitDefEqProofs only [go_sem, reduceEqDiff, reduceLT, reduceLeDiff, reduceMul, reduceAdd, reduceIte, reduceCtorEq, Nat.reduceBEq, reduceSub, Int.reduceToNat, encEdge, encEdgeT, encI, encInts, encNode, encRow, encStrs, b2837, b2839, b2841, b2843]
          refine walkG_splitN (fun b2844 => ?_) (fun b2844 => ?_)
          · replace h := cond_t h b2844
            cases h
            try simp -implicitDefEqProofs only [go_sem, reduceEqDiff, reduceLT, reduceLeDiff, reduceMul, reduceAdd, reduceIte, reduceCtorEq, Nat.reduceBEq, reduceSub, Int.reduceToNat, encEdge, encEdgeT, encI, encInts, encNode, encRow, encStrs, b2837, b2839, b2841, b2843, b2844]
            refine ⟨by decide, _, .refl _, ?_⟩
            simp -implicitDefEqProofs only [go_sem, reduceEqDiff, reduceLT, reduceLeDiff, reduceMul, reduceAdd, reduceIte, reduceCtorEq, Nat.reduceBEq, reduceSub, Int.reduceToNat, encEdge, encEdgeT, encI, encInts, encNode, encRow, encStrs, b2837, b2839, b2841, b2843, b2844] <;> ((repeat' apply And.intro) <;> rfl)
          · replace h := cond_f h b2844
            try simp -implicitDefEqProofs only [go_sem, reduceEqDiff, reduceLT, reduceLeDiff, reduceMul, reduceAdd, reduceIte, reduceCtorEq, Nat.reduceBEq, reduceSub, Int.reduceToNat, encEdge, encEdgeT, encI, encInts, encNode, encRow, encStrs, b2837, b2839, b2841, b2843, b2844]
            refine condC_split (fun b2845 => ?_) (fun b2845 => ?_)
            · replace h := cond_t h b2845
              cases h
              try simp -implicitDefEqProofs only [go_sem, reduceEqDiff, reduceLT, reduceLeDiff, reduceMul, reduceAdd, reduceIte, reduceCtorEq, Nat.reduceBEq, reduceSub, Int.reduceToNat, encEdge, encEdgeT, encI, encInts, encNode, encRow, encStrs, b2837, b2839, b2841, b2843, b2844, b2845]
              refine ⟨by decide, _, .refl _, ?_⟩
              simp -implicitDefEqProofs only [go_sem, reduceEqDiff, reduceLT, reduceLeDiff, reduceMul, reduceAdd, reduceIte, reduceCtorEq, Nat.reduceBEq, reduceSub, Int.reduceToNat, encEdge, encEdgeT, encI, encInts, encNode, encRow, encStrs, b2837, b2839, b2841, b2843, b2844, b2845] <;> ((repeat' apply And.intro) <;> rfl)
            · replace h := cond_f h b2845
              try simp -implicitDefEqProofs only [go_sem, reduceEqDiff, reduceLT, reduceLeDiff, reduceMul, reduceAdd, reduceIte, reduceCtorEq, Nat.reduceBEq, reduceSub, Int.reduceToNat, encEdge, encEdgeT, encI, encInts, encNode, encRow, encStrs, b2837, b2839, b2841, b2843, b2844, b2845]
              refine draw_my [(0, .q), (2, .q), (1, .f), (3, .q), (4, .w), (5, .w), (6, .s), (7, .s)] (by kernel_rfl) ?_
              obtain ⟨r2846, hr2846, h⟩ := thn_s h
              try simp -implicitDefEqProofs only [go_sem, reduceEqDiff, reduceLT, reduceLeDiff, reduceMul, reduceAdd, reduceIte, reduceCtorEq, Nat.reduceBEq, reduceSub, Int.reduceToNat, encEdge, encEdgeT, encI, encInts, encNode, encRow, encStrs, b2837, b2839, b2841, b2843, b2844, b2845]
              refine calldfG 2136 (w_scarfjointref15_Copied a2 r2846 hr2846) (by simp -implicitDefEqProofs only [go_sem, reduceEqDiff, reduceLT, reduceLeDiff, reduceMul, reduceAdd, reduceIte, reduceCtorEq, Nat.reduceBEq, reduceSub, Int.reduceToNat, encEdge, encEdgeT, encI, encInts, encNode, encRow, encStrs, b2837, b2839, b2841, b2843, b2844, b2845] <;> rfl) (pleL_refl _) (by first | exact persF | exact flatF rfl | exact flatF (by simp [RV.flat, RV.flatL, PV.scalar, isVal, encI, encEdge, encRow])) (by simp -implicitDefEqProofs only [go_sem, reduceEqDiff, reduceLT, reduceLeDiff, reduceMul, reduceAdd, reduceIte, reduceCtorEq, Nat.reduceBEq, reduceSub, Int.reduceToNat, encEdge, encEdgeT, encI, encInts, encNode, encRow, encStrs, b2837, b2839, b2841, b2843, b2844, b2845]) (by simp -implicitDefEqProofs only [go_sem, reduceEqDiff, reduceLT, reduceLeDiff, reduceMul, reduceAdd, reduceIte, reduceCtorEq, Nat.reduceBEq, reduceSub, Int.reduceToNat, encEdge, encEdgeT, encI, encInts, encNode, encRow, encStrs, b2837, b2839, b2841, b2843, b2844, b2845]) ?_
              obtain ⟨r2847, hr2847, h⟩ := thn_s h
              try simp -implicitDefEqProofs only [go_sem, reduceEqDiff, reduceLT, reduceLeDiff, reduceMul, reduceAdd, reduceIte, reduceCtorEq, Nat.reduceBEq, reduceSub, Int.reduceToNat, encEdge, encEdgeT, encI, encInts, encNode, encRow, encStrs, b2837, b2839, b2841, b2843, b2844, b2845]
              refine calldG (show CallV _ _ _ (fun v => v = .agg [.lst (r2847.graph.nodes.map encI), .lst (r2847.graph.edges.map encEdge), .lst (r2847.values.map encRow)]) from (w_scarfjointref15_Copied a3 r2847 hr2847).toV1) (by simp -implicitDefEqProofs only [go_sem, reduceEqDiff, reduceLT, reduceLeDiff, reduceMul, reduceAdd, reduceIte, reduceCtorEq, Nat.reduceBEq, reduceSub, Int.reduceToNat, encEdge, encEdgeT, encI, encInts, encNode, encRow, encStrs, b2837, b2839, b2841, b2843, b2844, b2845] <;> rfl) (pleL_refl _) (by first | exact pers | exact scal rfl) ?_
              obtain ⟨c2848, h⟩ := chk_s h
              have k2849 := eq_true (show (r2846.graph.nodes.length + r2847.graph.nodes.length) * 8 ≤ 140737488355328 by omega)
              have k2850 := eq_true (map_len (n := 1) (f := encI) (fun _ => rfl) r2847.graph.nodes)
              obtain ⟨c2851, h⟩ := chk_s h
              have k2852 := eq_true (show (r2846.values.length + r2847.values.length) * 24 ≤ 140737488355328 by omega)
              have k2853 := eq_true (map_len (n := 1) (f := encRow) (fun _ => rfl) r2847.values)
              obtain ⟨fus2860, h⟩ := chk_s h
              unfold fuel at fus2860
              try simp -implicitDefEqProofs only [go_sem, reduceEqDiff, reduceLT, reduceLeDiff, reduceMul, reduceAdd, reduceIte, reduceCtorEq, Nat.reduceBEq, reduceSub, Int.reduceToNat, encEdge, encEdgeT, encI, encInts, encNode, encRow, encStrs, b2837, b2839, b2841, b2843, b2844, b2845, c2848, k2849, k2850, c2851, k2852, k2853]
              refine forN_go (fun x : (Nat × ((List Edge))) × (Nat) => envL [(8, .ptr 8 0), (12, .p (.val (.int .i64 ((a2.graph.nodes.length : Nat) : Int)))), (13, .ptr 13 0), (14, .ptr 14 0), (15, .p (.val (.int .i64 ((x.1.1 : Nat) : Int))))]) (fun x => heapL [(8, .box [.p (.val (.slice none 0 0)), .p (.val (.slice none 0 0)), .p (.val (.slice none 0 0))]), (13, .box [.row 2136 1, .row 2137 x.2, .row 2138 1]), (14, .box [.p (.lst (r2847.graph.nodes.map encI)), .p (.lst (r2847.graph.edges.map encEdge)), .p (.lst (r2847.values.map encRow))]), (2136, .row 1 3 1 ((r2846.graph.nodes ++ r2847.graph.nodes).map encI)), (2137, .row x.2 73 3 (x.1.2.map encEdge)), (2138, .row 1 26 1 ((r2846.values ++ r2847.values).map encRow))]) 0 h (weakL (by simp -implicitDefEqProofs only [go_sem, reduceEqDiff, reduceLT, reduceLeDiff, reduceMul, reduceAdd, reduceIte, reduceCtorEq, Nat.reduceBEq, reduceSub, Int.reduceToNat, encEdge, encEdgeT, encI, encInts, encNode, encRow, encStrs, b2837, b2839, b2841, b2843, b2844, b2845, c2848, k2849, k2850, c2851, k2852, k2853] <;> ((repeat' apply And.intro) <;> rfl))) ?_ ?_
              · intro i2860 s2860 g2860 nxts2860 Rs2860 his2860 hNs2860 h
                have hws2860 := wrap_succ (k := i2860) his2860 (by omega)
                try dsimp only at h
                obtain ⟨e2865, c2865, g2865, q2865, h⟩ := idx_s encEdge h
                obtain ⟨c2866, h⟩ := chk_s h
                have k2867 := eq_true (show (s2860.length + 1) * 24 ≤ 140737488355328 by omega)
                have a2868 := map_apps encEdge s2860 [(⟨e2865.type, (IntKind.i64.wrap (e2865.src + ((a2.graph.nodes.length : Nat) : Int))), (IntKind.i64.wrap (e2865.dst + ((a2.graph.nodes.length : Nat) : Int)))⟩ : Edge)] (c := [[.val (.int .i64 e2865.type), .val (.int .i64 (IntKind.i64.wrap (e2865.src + ((a2.graph.nodes.length : Nat) : Int)))), .val (.int .i64 (IntKind.i64.wrap (e2865.dst + ((a2.graph.nodes.length : Nat) : Int))))]]) rfl
                try simp -implicitDefEqProofs only [go_sem, reduceEqDiff, reduceLT, reduceLeDiff, reduceMul, reduceAdd, reduceIte, reduceCtorEq, Nat.reduceBEq, reduceSub, Int.reduceToNat, encEdge, encEdgeT, encI, encInts, encNode, encRow, encStrs, b2837, b2839, b2841, b2843, b2844, b2845, c2848, k2849, k2850, c2851, k2852, k2853, his2860, hws2860, c2865, g2865, c2866, k2867, a2868]
                exact hNs2860 (s2860 ++ [(⟨e2865.type, (IntKind.i64.wrap (e2865.src + ((a2.graph.nodes.length : Nat) : Int))), (IntKind.i64.wrap (e2865.dst + ((a2.graph.nodes.length : Nat) : Int)))⟩ : Edge)]) (g2860 + 1) h (weakL (by simp -implicitDefEqProofs only [go_sem, reduceEqDiff, reduceLT, reduceLeDiff, reduceMul, reduceAdd, reduceIte, reduceCtorEq, Nat.reduceBEq, reduceSub, Int.reduceToNat, encEdge, encEdgeT, encI, encInts, encNode, encRow, encStrs, b2837, b2839, b2841, b2843, b2844, b2845, c2848, k2849, k2850, c2851, k2852, k2853, his2860, hws2860, c2865, g2865, c2866, k2867, a2868] <;> ((repeat' apply And.intro) <;> rfl)))
              · intro i2860 s2860 g2860 Rs2860 hes2860 h
                have hns2860 : ¬ (i2860 < r2847.graph.edges.length) := by omega
                try dsimp only at h
                cases h
                try simp -implicitDefEqProofs only [go_sem, reduceEqDiff, reduceLT, reduceLeDiff, reduceMul, reduceAdd, reduceIte, reduceCtorEq, Nat.reduceBEq, reduceSub, Int.reduceToNat, encEdge, encEdgeT, encI, encInts, encNode, encRow, encStrs, b2837, b2839, b2841, b2843, b2844, b2845, c2848, k2849, k2850, c2851, k2852, k2853, hns2860]
                refine ⟨by decide, _, .refl _, ?_⟩
                simp -implicitDefEqProofs only [go_sem, reduceEqDiff, reduceLT, reduceLeDiff, reduceMul, reduceAdd, reduceIte, reduceCtorEq, Nat.reduceBEq, reduceSub, Int.reduceToNat, encEdge, encEdgeT, encI, encInts, encNode, encRow, encStrs, b2837, b2839, b2841, b2843, b2844, b2845, c2848, k2849, k2850, c2851, k2852, k2853, hns2860] <;> ((repeat' apply And.intro) <;> rfl)
        · replace h := cond_f h b2843
          cases h
          try simp -implicitDefEqProofs only [go_sem, reduceEqDiff, reduceLT, reduceLeDiff, reduceMul, reduceAdd, reduceIte, reduceCtorEq, Nat.reduceBEq, reduceSub, Int.reduceToNat, encEdge, encEdgeT, encI, encInts, encNode, encRow, encStrs, b2837, b2839, b2841, b2843]
          refine ⟨by decide, _, .refl _, ?_⟩
          simp -implicitDefEqProofs only [go_sem, reduceEqDiff, reduceLT, reduceLeDiff, reduceMul, reduceAdd, reduceIte, reduceCtorEq, Nat.reduceBEq, reduceSub, Int.reduceToNat, encEdge, encEdgeT, encI, encInts, encNode, encRow, encStrs, b2837, b2839, b2841, b2843] <;> ((repeat' apply And.intro) <;> rfl)
      · replace h := cond_f h b2841
        cases h
        try simp -implicitDefEqProofs only [go_sem, reduceEqDiff, reduceLT, reduceLeDiff, reduceMul, reduceAdd, reduceIte, reduceCtorEq, Nat.reduceBEq, reduceSub, Int.reduceToNat, encEdge, encEdgeT, encI, encInts, encNode, encRow, encStrs, b2837, b2839, b2841]
        refine ⟨by decide, _, .refl _, ?_⟩
        simp -implicitDefEqProofs only [go_sem, reduceEqDiff, reduceLT, reduceLeDiff, reduceMul, reduceAdd, reduceIte, reduceCtorEq, Nat.reduceBEq, reduceSub, Int.reduceToNat, encEdge, encEdgeT, encI, encInts, encNode, encRow, encStrs, b2837, b2839, b2841] <;> ((repeat' apply And.intro) <;> rfl)
    · replace h := cond_f h b2839
      cases h
      try simp -implicitDefEqProofs only [go_sem, reduceEqDiff, reduceLT, reduceLeDiff, reduceMul, reduceAdd, reduceIte, reduceCtorEq, Nat.reduceBEq, reduceSub, Int.reduceToNat, encEdge, encEdgeT, encI, encInts, encNode, encRow, encStrs, b2837, b2839]
      refine ⟨by decide, _, .refl _, ?_⟩
      simp -implicitDefEqProofs only [go_sem, reduceEqDiff, reduceLT, reduceLeDiff, reduceMul, reduceAdd, reduceIte, reduceCtorEq, Nat.reduceBEq, reduceSub, Int.reduceToNat, encEdge, encEdgeT, encI, encInts, encNode, encRow, encStrs, b2837, b2839] <;> ((repeat' apply And.intro) <;> rfl)
  · replace h := cond_f h b2837
    cases h
    try simp -implicitDefEqProofs only [go_sem, reduceEqDiff, reduceLT, reduceLeDiff, reduceMul, reduceAdd, reduceIte, reduceCtorEq, Nat.reduceBEq, reduceSub, Int.reduceToNat, encEdge, encEdgeT, encI, encInts, encNode, encRow, encStrs, b2837]
    refine ⟨by decide, _, .refl _, ?_⟩
    simp -implicitDefEqProofs only [go_sem, reduceEqDiff, reduceLT, reduceLeDiff, reduceMul, reduceAdd, reduceIte, reduceCtorEq, Nat.reduceBEq, reduceSub, Int.reduceToNat, encEdge, encEdgeT, encI, encInts, encNode, encRow, encStrs, b2837] <;> ((repeat' apply And.intro) <;> rfl)


def f_scarfjointlaw52_TriplePair (a0 : T_scarfjointlaw52_Case) (a1 : Host) (a2 : Host) : Option Bool :=
  thn (f_scarfjointlaw52_awake) fun r2517 =>
  cond r2517 (
    thn (f_scarfjointlaw52_few a0.t a0.s a1) fun r2519 =>
    cond r2519 (
      thn (f_scarfjointlaw52_few a0.t a0.s a2) fun r2521 =>
      cond r2521 (
        thn (f_triple_Pair a0.t a0.s (⟨a1.graph, a1.values⟩ : Host) a2) fun r2752 =>
        thn (f_scarfjointref52_Pair a0.t a0.s (⟨a1.graph, a1.values⟩ : Host) a2) fun r2869 =>
        cond (decide (r2752.2 = r2869.2)) (
          thn (f_scarfjointref15_Same r2752.1 r2869.1) fun r2871 =>
          some r2871) <|
        some false) <|
      thn (f_scarfjointlaw52_awake) fun r2872 =>
      some r2872) <|
    thn (f_scarfjointlaw52_awake) fun r2873 =>
    some r2873) <|
  thn (f_scarfjointlaw52_awake) fun r2874 =>
  some r2874
set_option maxHeartbeats 4000000 in
theorem w_scarfjointlaw52_TriplePair (a0 : T_scarfjointlaw52_Case) (a1 : Host) (a2 : Host) (r : Bool) (h : f_scarfjointlaw52_TriplePair a0 a1 a2 = some r) : CallV Go.Proofs.Tryz.prog 5 [.agg [.lst (a0.t.nodes.map encNode), .lst (a0.t.edges.map encEdgeT), .lst (a0.s.nodes.map encI), .lst (a0.s.edges.map encI)], .agg [.lst (a1.graph.nodes.map encI), .lst (a1.graph.edges.map encEdge), .lst (a1.values.map encRow)], .agg [.lst (a2.graph.nodes.map encI), .lst (a2.graph.edges.map encEdge), .lst (a2.values.map encRow)]] (fun v => v = .val (.bool r)) := by
  refine CallV.ple ?_
  refine callV_of_cw [] Ty.mixed Go.Proofs.Tryz.func5 rfl (by kernel_rfl) (by simp [Go.Proofs.Tryz.ntmps5]) ?_; rw [Go.Proofs.Tryz.ntmps5, Go.Proofs.Tryz.results5]
  unfold f_scarfjointlaw52_TriplePair at h
  obtain ⟨r2517, hr2517, h⟩ := thn_s h
  try simp -implicitDefEqProofs only [go_sem, reduceEqDiff, reduceLT, reduceLeDiff, reduceMul, reduceAdd, reduceIte, reduceCtorEq, Nat.reduceBEq, reduceSub, Int.reduceToNat, encEdge, encEdgeT, encI, encInts, encNode, encRow, encStrs]
  refine callG (w_scarfjointlaw52_awake r2517 hr2517) (by simp -implicitDefEqProofs only [go_sem, reduceEqDiff, reduceLT, reduceLeDiff, reduceMul, reduceAdd, reduceIte, reduceCtorEq, Nat.reduceBEq, reduceSub, Int.reduceToNat, encEdge, encEdgeT, encI, encInts, encNode, encRow, encStrs] <;> rfl) (pleL_refl _) (by first | exact pers | exact scal rfl) ?_
  try simp -implicitDefEqProofs only [go_sem, reduceEqDiff, reduceLT, reduceLeDiff, reduceMul, reduceAdd, reduceIte, reduceCtorEq, Nat.reduceBEq, reduceSub, Int.reduceToNat, encEdge, encEdgeT, encI, encInts, encNode, encRow, encStrs]
  refine walkG_split (fun b2518 => ?_) (fun b2518 => ?_)
  · replace h := cond_t h b2518
    obtain ⟨r2519, hr2519, h⟩ := thn_s h
    try simp -implicitDefEqProofs only [go_sem, reduceEqDiff, reduceLT, reduceLeDiff, reduceMul, reduceAdd, reduceIte, reduceCtorEq, Nat.reduceBEq, reduceSub, Int.reduceToNat, encEdge, encEdgeT, encI, encInts, encNode, encRow, encStrs, b2518]
    refine callG (w_scarfjointlaw52_few a0.t a0.s a1 r2519 hr2519) (by simp -implicitDefEqProofs only [go_sem, reduceEqDiff, reduceLT, reduceLeDiff, reduceMul, reduceAdd, reduceIte, reduceCtorEq, Nat.reduceBEq, reduceSub, Int.reduceToNat, encEdge, encEdgeT, encI, encInts, encNode, encRow, encStrs, b2518] <;> rfl) (pleL_refl _) (by first | exact pers | exact scal rfl) ?_
    try simp -implicitDefEqProofs only [go_sem, reduceEqDiff, reduceLT, reduceLeDiff, reduceMul, reduceAdd, reduceIte, reduceCtorEq, Nat.reduceBEq, reduceSub, Int.reduceToNat, encEdge, encEdgeT, encI, encInts, encNode, encRow, encStrs, b2518]
    refine walkG_split (fun b2520 => ?_) (fun b2520 => ?_)
    · replace h := cond_t h b2520
      obtain ⟨r2521, hr2521, h⟩ := thn_s h
      try simp -implicitDefEqProofs only [go_sem, reduceEqDiff, reduceLT, reduceLeDiff, reduceMul, reduceAdd, reduceIte, reduceCtorEq, Nat.reduceBEq, reduceSub, Int.reduceToNat, encEdge, encEdgeT, encI, encInts, encNode, encRow, encStrs, b2518, b2520]
      refine callG (w_scarfjointlaw52_few a0.t a0.s a2 r2521 hr2521) (by simp -implicitDefEqProofs only [go_sem, reduceEqDiff, reduceLT, reduceLeDiff, reduceMul, reduceAdd, reduceIte, reduceCtorEq, Nat.reduceBEq, reduceSub, Int.reduceToNat, encEdge, encEdgeT, encI, encInts, encNode, encRow, encStrs, b2518, b2520] <;> rfl) (pleL_refl _) (by first | exact pers | exact scal rfl) ?_
      try simp -implicitDefEqProofs only [go_sem, reduceEqDiff, reduceLT, reduceLeDiff, reduceMul, reduceAdd, reduceIte, reduceCtorEq, Nat.reduceBEq, reduceSub, Int.reduceToNat, encEdge, encEdgeT, encI, encInts, encNode, encRow, encStrs, b2518, b2520]
      refine condC_splitN (fun b2522 => ?_) (fun b2522 => ?_)
      · replace h := cond_t h b2522
        obtain ⟨r2752, hr2752, h⟩ := thn_s h
        try simp -implicitDefEqProofs only [go_sem, reduceEqDiff, reduceLT, reduceLeDiff, reduceMul, reduceAdd, reduceIte, reduceCtorEq, Nat.reduceBEq, reduceSub, Int.reduceToNat, encEdge, encEdgeT, encI, encInts, encNode, encRow, encStrs, b2518, b2520, b2522]
        refine callfG 1624 (w_triple_Pair a0.t a0.s (⟨a1.graph, a1.values⟩ : Host) a2 r2752 hr2752) (by simp -implicitDefEqProofs only [go_sem, reduceEqDiff, reduceLT, reduceLeDiff, reduceMul, reduceAdd, reduceIte, reduceCtorEq, Nat.reduceBEq, reduceSub, Int.reduceToNat, encEdge, encEdgeT, encI, encInts, encNode, encRow, encStrs, b2518, b2520, b2522] <;> rfl) (pleL_refl _) (by first | exact persF | exact flatF rfl | exact flatF (by simp [RV.flat, RV.flatL, PV.scalar, isVal, encI, encEdge, encRow])) (by simp -implicitDefEqProofs only [go_sem, reduceEqDiff, reduceLT, reduceLeDiff, reduceMul, reduceAdd, reduceIte, reduceCtorEq, Nat.reduceBEq, reduceSub, Int.reduceToNat, encEdge, encEdgeT, encI, encInts, encNode, encRow, encStrs, b2518, b2520, b2522]) ?_
        obtain ⟨r2869, hr2869, h⟩ := thn_s h
        try simp -implicitDefEqProofs only [go_sem, reduceEqDiff, reduceLT, reduceLeDiff, reduceMul, reduceAdd, reduceIte, reduceCtorEq, Nat.reduceBEq, reduceSub, Int.reduceToNat, encEdge, encEdgeT, encI, encInts, encNode, encRow, encStrs, b2518, b2520, b2522]
        refine callfG 1784 (w_scarfjointref52_Pair a0.t a0.s (⟨a1.graph, a1.values⟩ : Host) a2 r2869 hr2869) (by simp -implicitDefEqProofs only [go_sem, reduceEqDiff, reduceLT, reduceLeDiff, reduceMul, reduceAdd, reduceIte, reduceCtorEq, Nat.reduceBEq, reduceSub, Int.reduceToNat, encEdge, encEdgeT, encI, encInts, encNode, encRow, encStrs, b2518, b2520, b2522] <;> rfl) (pleL_refl _) (by first | exact persF | exact flatF rfl | exact flatF (by simp [RV.flat, RV.flatL, PV.scalar, isVal, encI, encEdge, encRow])) (by simp -implicitDefEqProofs only [go_sem, reduceEqDiff, reduceLT, reduceLeDiff, reduceMul, reduceAdd, reduceIte, reduceCtorEq, Nat.reduceBEq, reduceSub, Int.reduceToNat, encEdge, encEdgeT, encI, encInts, encNode, encRow, encStrs, b2518, b2520, b2522]) ?_
        try simp -implicitDefEqProofs only [go_sem, reduceEqDiff, reduceLT, reduceLeDiff, reduceMul, reduceAdd, reduceIte, reduceCtorEq, Nat.reduceBEq, reduceSub, Int.reduceToNat, encEdge, encEdgeT, encI, encInts, encNode, encRow, encStrs, b2518, b2520, b2522]
        refine walkG_split (fun b2870 => ?_) (fun b2870 => ?_)
        · replace h := cond_t h b2870
          obtain ⟨r2871, hr2871, h⟩ := thn_s h
          try simp -implicitDefEqProofs only [go_sem, reduceEqDiff, reduceLT, reduceLeDiff, reduceMul, reduceAdd, reduceIte, reduceCtorEq, Nat.reduceBEq, reduceSub, Int.reduceToNat, encEdge, encEdgeT, encI, encInts, encNode, encRow, encStrs, b2518, b2520, b2522, b2870]
          refine callG (w_scarfjointref15_Same r2752.1 r2869.1 r2871 hr2871) (by simp -implicitDefEqProofs only [go_sem, reduceEqDiff, reduceLT, reduceLeDiff, reduceMul, reduceAdd, reduceIte, reduceCtorEq, Nat.reduceBEq, reduceSub, Int.reduceToNat, encEdge, encEdgeT, encI, encInts, encNode, encRow, encStrs, b2518, b2520, b2522, b2870] <;> rfl) (pleL_refl _) (by first | exact pers | exact scal rfl) ?_
          cases h
          try simp -implicitDefEqProofs only [go_sem, reduceEqDiff, reduceLT, reduceLeDiff, reduceMul, reduceAdd, reduceIte, reduceCtorEq, Nat.reduceBEq, reduceSub, Int.reduceToNat, encEdge, encEdgeT, encI, encInts, encNode, encRow, encStrs, b2518, b2520, b2522, b2870]
          all_goals ((repeat' apply And.intro) <;> rfl)
        · replace h := cond_f h b2870
          cases h
          try simp -implicitDefEqProofs only [go_sem, reduceEqDiff, reduceLT, reduceLeDiff, reduceMul, reduceAdd, reduceIte, reduceCtorEq, Nat.reduceBEq, reduceSub, Int.reduceToNat, encEdge, encEdgeT, encI, encInts, encNode, encRow, encStrs, b2518, b2520, b2522, b2870]
          all_goals ((repeat' apply And.intro) <;> rfl)
      · replace h := cond_f h b2522
        obtain ⟨r2872, hr2872, h⟩ := thn_s h
        try simp -implicitDefEqProofs only [go_sem, reduceEqDiff, reduceLT, reduceLeDiff, reduceMul, reduceAdd, reduceIte, reduceCtorEq, Nat.reduceBEq, reduceSub, Int.reduceToNat, encEdge, encEdgeT, encI, encInts, encNode, encRow, encStrs, b2518, b2520, b2522]
        refine callG (w_scarfjointlaw52_awake r2872 hr2872) (by simp -implicitDefEqProofs only [go_sem, reduceEqDiff, reduceLT, reduceLeDiff, reduceMul, reduceAdd, reduceIte, reduceCtorEq, Nat.reduceBEq, reduceSub, Int.reduceToNat, encEdge, encEdgeT, encI, encInts, encNode, encRow, encStrs, b2518, b2520, b2522] <;> rfl) (pleL_refl _) (by first | exact pers | exact scal rfl) ?_
        cases h
        try simp -implicitDefEqProofs only [go_sem, reduceEqDiff, reduceLT, reduceLeDiff, reduceMul, reduceAdd, reduceIte, reduceCtorEq, Nat.reduceBEq, reduceSub, Int.reduceToNat, encEdge, encEdgeT, encI, encInts, encNode, encRow, encStrs, b2518, b2520, b2522]
        all_goals ((repeat' apply And.intro) <;> rfl)
    · replace h := cond_f h b2520
      obtain ⟨r2873, hr2873, h⟩ := thn_s h
      try simp -implicitDefEqProofs only [go_sem, reduceEqDiff, reduceLT, reduceLeDiff, reduceMul, reduceAdd, reduceIte, reduceCtorEq, Nat.reduceBEq, reduceSub, Int.reduceToNat, encEdge, encEdgeT, encI, encInts, encNode, encRow, encStrs, b2518, b2520]
      refine callG (w_scarfjointlaw52_awake r2873 hr2873) (by simp -implicitDefEqProofs only [go_sem, reduceEqDiff, reduceLT, reduceLeDiff, reduceMul, reduceAdd, reduceIte, reduceCtorEq, Nat.reduceBEq, reduceSub, Int.reduceToNat, encEdge, encEdgeT, encI, encInts, encNode, encRow, encStrs, b2518, b2520] <;> rfl) (pleL_refl _) (by first | exact pers | exact scal rfl) ?_
      cases h
      try simp -implicitDefEqProofs only [go_sem, reduceEqDiff, reduceLT, reduceLeDiff, reduceMul, reduceAdd, reduceIte, reduceCtorEq, Nat.reduceBEq, reduceSub, Int.reduceToNat, encEdge, encEdgeT, encI, encInts, encNode, encRow, encStrs, b2518, b2520]
      all_goals ((repeat' apply And.intro) <;> rfl)
  · replace h := cond_f h b2518
    obtain ⟨r2874, hr2874, h⟩ := thn_s h
    try simp -implicitDefEqProofs only [go_sem, reduceEqDiff, reduceLT, reduceLeDiff, reduceMul, reduceAdd, reduceIte, reduceCtorEq, Nat.reduceBEq, reduceSub, Int.reduceToNat, encEdge, encEdgeT, encI, encInts, encNode, encRow, encStrs, b2518]
    refine callG (w_scarfjointlaw52_awake r2874 hr2874) (by simp -implicitDefEqProofs only [go_sem, reduceEqDiff, reduceLT, reduceLeDiff, reduceMul, reduceAdd, reduceIte, reduceCtorEq, Nat.reduceBEq, reduceSub, Int.reduceToNat, encEdge, encEdgeT, encI, encInts, encNode, encRow, encStrs, b2518] <;> rfl) (pleL_refl _) (by first | exact pers | exact scal rfl) ?_
    cases h
    try simp -implicitDefEqProofs only [go_sem, reduceEqDiff, reduceLT, reduceLeDiff, reduceMul, reduceAdd, reduceIte, reduceCtorEq, Nat.reduceBEq, reduceSub, Int.reduceToNat, encEdge, encEdgeT, encI, encInts, encNode, encRow, encStrs, b2518]
    all_goals ((repeat' apply And.intro) <;> rfl)


end
end Go.Proofs.YtdlohnchnneaeaaGreat
/- Parts of triples: plain law. -/
namespace Go.Proofs.YtdlohnchnneaeaaGreat
open Go.Abs

structure VTr (s : Sorts) (h : Host) : Prop where
  ok : OkTr s h.graph
  vals : h.values.length = h.graph.nodes.length
  ends : ∀ i, i < h.graph.edges.length → ∀ k, k ≠ 2 → edgeS s h.graph i = k → nodeI s h.graph (h.graph.edges.getD i default).src = k ∧ nodeI s h.graph (h.graph.edges.getD i default).dst = k

structure Asc (l : List Int) (n : Nat) : Prop where
  range : ∀ i (h : i < l.length), 0 ≤ l[i] ∧ l[i] < (n : Int)
  asc : ∀ i j (h : i < j) (hj : j < l.length), l[i] < l[j]
structure PartOk (g : Graph) (p : Part) : Prop where
  nodes : Asc p.nodes g.nodes.length
  edges : Asc p.edges g.edges.length
  ends : ∀ e ∈ p.edges, (g.edges.getD e.toNat default).src ∈ p.nodes ∧ (g.edges.getD e.toNat default).dst ∈ p.nodes
  small : p.nodes.length ≤ 1000 ∧ p.edges.length ≤ 1000

theorem Asc.inj {l : List Int} {n : Nat} (h : Asc l n) {i j : Nat} (hi : i < l.length) (hj : j < l.length) (e : l[i] = l[j]) : i = j := by
  rcases Nat.lt_trichotomy i j with h1 | h1 | h1
  · have := h.asc i j h1 hj; omega
  · exact h1
  · have := h.asc j i h1 hi; omega
def posL (l : List Int) (x : Int) : Nat := l.idxOf x
theorem Asc.pos {l : List Int} {n : Nat} (h : Asc l n) {i : Nat} (hi : i < l.length) {x : Int} (e : l[i] = x) : posL l x = i := by
  have hm : x ∈ l := by rw [← e]; exact List.getElem_mem hi
  have h1 : posL l x < l.length := List.idxOf_lt_length_iff.2 hm
  exact h.inj h1 hi (by rw [e]; exact List.getElem_idxOf h1)
end Go.Proofs.YtdlohnchnneaeaaGreat
/- What the printed functions of subgraphs, parts and sides answer. -/
namespace Go.Proofs.YtdlohnchnneaeaaGreat
open Go.Abs

end Go.Proofs.YtdlohnchnneaeaaGreat
/- Sides: both functions answer alike. -/
namespace Go.Proofs.YtdlohnchnneaeaaGreat
open Go.Abs

theorem l_triple_part {s : Sorts} {g : Graph} (ho : OkTr s g) (k : Int) : f_triple_part s g k = some (partX s g k) := by
  have hgn := ho.nodes
  have hge := ho.edges
  refine Ok.eq ?_
  unfold f_triple_part
  refine ok_chk (by unfold fuel; omega) ?_
  refine ok_forN (fun j o => o = pick (fun i => decide (nodeS s g i = k)) j) (Nat.zero_le _) rfl (fun j o nxt _ hj e hn => ?_) (fun o e => ?_)
  · subst e
    have hP := pick_succ (fun i => decide (nodeS s g i = k)) j
    have hL := pick_len (fun i => decide (nodeS s g i = k)) j
    have hk := ho.kind j hj
    have e1 : g.nodes.getD j default = g.nodes[j] := by simp [hj]
    rw [e1] at hk
    have e2 : s.nodes[g.nodes[j].toNat]'(by have := hk.2; have := hk.1; omega) = nodeS s g j := by unfold nodeS; rw [e1]; have := hk.2; have := hk.1; simp [show g.nodes[j].toNat < s.nodes.length by omega]
    refine ok_at hj ?_
    refine ok_atZ hk.1 (by have := hk.2; have := hk.1; omega) ?_
    rw [e2]
    refine ok_cond (fun h1 => ?_) (fun h1 => ?_)
    · rw [if_pos h1] at hP
      refine ok_chk (by omega) ?_
      exact hn _ hP.symm
    · rw [if_neg (by rw [h1]; decide)] at hP
      exact hn _ hP.symm
  subst e
  refine ok_chk (by unfold fuel; omega) ?_
  refine ok_forN (fun j o => o = pick (fun i => decide (edgeS s g i = k)) j) (Nat.zero_le _) rfl (fun j o nxt _ hj e hn => ?_) (fun o e => by subst e; exact .mk rfl)
  subst e
  have hP := pick_succ (fun i => decide (edgeS s g i = k)) j
  have hL := pick_len (fun i => decide (edgeS s g i = k)) j
  have hk := ho.type j hj
  have e1 : g.edges.getD j default = g.edges[j] := by simp [hj]
  rw [e1] at hk
  have e2 : s.edges[g.edges[j].type.toNat]'(by have := hk.2; have := hk.1; omega) = edgeS s g j := by unfold edgeS; rw [e1]; have := hk.2; have := hk.1; simp [show g.edges[j].type.toNat < s.edges.length by omega]
  refine ok_at hj ?_
  refine ok_atZ hk.1 (by have := hk.2; have := hk.1; omega) ?_
  rw [e2]
  refine ok_cond (fun h1 => ?_) (fun h1 => ?_)
  · rw [if_pos h1] at hP
    refine ok_chk (by omega) ?_
    exact hn _ hP.symm
  · rw [if_neg (by rw [h1]; decide)] at hP
    exact hn _ hP.symm

end Go.Proofs.YtdlohnchnneaeaaGreat
/- Small arguments; equal values; TripleSide. -/
namespace Go.Proofs.YtdlohnchnneaeaaGreat
open Go.Abs

theorem ok_all {α O : Type} {Q : O → Prop} {f : Nat → Unit → (Unit → Option O) → (Unit → Option O) → Option O} {K : Unit → Option O} (l : List α) (p : α → Prop)
    (hr : ∀ j (nxt : Unit → Option O) (hj : j < l.length), (p l[j] → Ok (nxt ()) Q) → Ok (f j () nxt K) Q) (he : (∀ x ∈ l, p x) → Ok (K ()) Q) : Ok (forN f (l.length - 0) 0 () K) Q := by
  refine ok_forN (fun j _ => ∀ i (h : i < l.length), i < j → p l[i]) (Nat.zero_le _) (fun i _ h => absurd h (Nat.not_lt_zero i)) (fun j s nxt _ hj hq hn => ?_) (fun s hq => ?_)
  · refine hr j nxt hj fun hp => hn () fun i h hi => ?_
    rcases Nat.lt_succ_iff_lt_or_eq.1 hi with h' | h'
    · exact hq i h h'
    · subst h'; exact hp
  · refine he fun x hx => ?_
    obtain ⟨i, hi, rfl⟩ := List.mem_iff_getElem.1 hx
    exact hq i hi hi

theorem l_few04 {t : Types} (hm : FitT t) : Ok (f_scarfjointref04_Few t) (fun b => b = true → FewT t) := by
  have no : ∀ {Q : Prop}, (false = true → Q) := fun h => by cases h
  unfold f_scarfjointref04_Few
  refine ok_cond (fun _ => .mk no) (fun h1 => ?_)
  refine ok_cond (fun _ => .mk no) (fun h2 => ?_)
  have h1' := of_decide_eq_false h1
  have h2' := of_decide_eq_false h2
  have hn20 : t.nodes.length ≤ 20 := by omega
  refine ok_chk (by unfold fuel; omega) ?_
  refine ok_forN (fun j s => (0 ≤ s ∧ s ≤ 30) ∧ ∀ i, i < j → goodN (t.nodes.getD i default)) (Nat.zero_le _) ⟨by decide, fun i h => absurd h (Nat.not_lt_zero i)⟩ (fun j s nxt _ hj hq hn => ?_) (fun s hq => ?_)
  · obtain ⟨hs, hq⟩ := hq
    have hfit := hm.attrs _ (List.getElem_mem hj)
    refine ok_at hj ?_
    rw [wrapI (by omega)]
    refine ok_cond (fun _ => .mk no) (fun h3 => ?_)
    have h3' := of_decide_eq_false h3
    refine ok_cond (fun _ => .mk no) (fun h4 => ?_)
    have h4' := of_decide_eq_false h4
    refine ok_chk (by unfold fuel; omega) ?_
    refine ok_all (t.nodes[j]).attrs FewA (fun i nxt2 hi hn2 => ?_) (fun hall => ?_)
    · refine ok_at hi ?_
      refine ok_cond (fun _ => .mk no) (fun h5 => ?_)
      have h5' := of_decide_eq_false h5
      refine ok_cond (fun _ => .mk no) (fun h6 => ?_)
      have h6' := of_decide_eq_false h6
      refine ok_chk (by unfold fuel; omega) ?_
      refine ok_all ((t.nodes[j]).attrs[i]).names (fun w => w.size ≤ 40) (fun m nxt3 hm3 hn3 => ?_) (fun hw => hn2 ⟨by omega, by omega, hw⟩)
      refine ok_at hm3 ?_
      refine ok_cond (fun _ => .mk no) (fun h7 => ?_)
      have h7' := of_decide_eq_false h7
      exact hn3 (by omega)
    · refine hn _ ⟨by omega, all_succP hq ?_⟩
      have e : t.nodes.getD j default = t.nodes[j] := by simp [hj]
      rw [e]
      refine ⟨by omega, by omega, fun i hi => ?_⟩
      have e2 : (t.nodes[j]).attrs.getD i default = (t.nodes[j]).attrs[i] := by simp [hi]
      rw [e2]
      exact hall _ (List.getElem_mem hi)
  · refine ok_chk (by unfold fuel; omega) ?_
    refine ok_all t.edges (fun e => e.name.size ≤ 40) (fun i nxt2 hi hn2 => ?_) (fun hall => .mk fun _ => ?_)
    · refine ok_at hi ?_
      refine ok_cond (fun _ => .mk no) (fun h7 => ?_)
      have h7' := of_decide_eq_false h7
      exact hn2 (by omega)
    · exact fewT_of hn20 (by omega) hq.2 (fun i hi => hall _ (getD_mem hi))
theorem l_fewS {s : Sorts} (hm : SmallS s) : Ok (f_scarfjointref52_Few s) (fun b => b = true → FewS s) := by
  obtain ⟨h1, h2⟩ := hm
  unfold f_scarfjointref52_Few
  refine .mk fun h => ?_
  have h' := of_decide_eq_true h
  rw [wrapI (by omega)] at h'
  unfold FewS
  omega
theorem l_few05 (g : Graph) : Ok (f_scarfjointref05_Few g) (fun b => b = true → FewG g) := by
  unfold f_scarfjointref05_Few
  refine ok_cond (fun h1 => .mk fun h2 => ?_) (fun _ => .mk fun h => by cases h)
  have h1' := of_decide_eq_true h1
  have h2' := of_decide_eq_true h2
  exact ⟨by omega, by omega⟩
theorem l_few15 (h : Host) : Ok (f_scarfjointref15_Few h) (fun b => b = true → FewH h) := by
  have no : ∀ {Q : Prop}, (false = true → Q) := fun h => by cases h
  unfold f_scarfjointref15_Few
  refine ok_thn (l_few05 h.graph) fun b hb => ?_
  refine ok_cond (fun h1 => ?_) (fun _ => .mk no)
  refine ok_cond (fun _ => .mk no) (fun h2 => ?_)
  have h2' := of_decide_eq_false h2
  refine ok_chk (by unfold fuel; omega) ?_
  refine ok_all h.values (fun l => l.length ≤ 12) (fun i nxt hi hn => ?_) (fun hall => .mk fun _ => ⟨hb h1, by omega, hall⟩)
  refine ok_at hi ?_
  refine ok_cond (fun _ => .mk no) (fun h7 => ?_)
  have h7' := of_decide_eq_false h7
  exact hn (by omega)
theorem l_few {t : Types} (hm : FitT t) {s : Sorts} (hs : SmallS s) (h : Host) : Ok (f_scarfjointlaw52_few t s h) (fun b => b = true → FewT t ∧ FewS s ∧ FewH h) := by
  have no : ∀ {Q : Prop}, (false = true → Q) := fun h => by cases h
  unfold f_scarfjointlaw52_few
  refine ok_thn (l_few04 hm) fun b hb => ?_
  refine ok_cond (fun h1 => ?_) (fun _ => .mk no)
  refine ok_thn (l_fewS hs) fun c hc => ?_
  refine ok_cond (fun h2 => ?_) (fun _ => .mk no)
  refine ok_thn (l_few15 h) fun d hd => ?_
  exact .mk fun h3 => ⟨hb h1, hc h2, hd h3⟩

theorem l_sameInts {a : List Int} (h : a.length ≤ 1000000) : f_scarfjointref05_SameInts a a = some true := by
  refine Ok.eq ?_
  unfold f_scarfjointref05_SameInts
  refine ok_t (decide_eq_true rfl) ?_
  refine ok_chk (by unfold fuel; omega) ?_
  refine ok_all a (fun _ => True) (fun i nxt hi hn => ?_) (fun _ => .mk rfl)
  refine ok_at hi ?_
  refine ok_at hi ?_
  exact ok_t (decide_eq_true rfl) (hn trivial)
theorem l_sameG {g : Graph} (h : g.nodes.length ≤ 1000000 ∧ g.edges.length ≤ 1000000) : f_scarfjointref05_Same g g = some true := by
  refine Ok.eq ?_
  unfold f_scarfjointref05_Same
  refine ok_eq (l_sameInts h.1) ?_
  refine ok_t rfl ?_
  refine ok_t (decide_eq_true rfl) ?_
  refine ok_chk (by unfold fuel; omega) ?_
  refine ok_all g.edges (fun _ => True) (fun i nxt hi hn => ?_) (fun _ => .mk rfl)
  refine ok_at hi ?_
  refine ok_at hi ?_
  exact ok_t (by simp) (hn trivial)
theorem l_compare {a : List Int} (h : a.length ≤ 1000000) : f_scarfjointref15_compare a a = some 0 := by
  refine Ok.eq ?_
  unfold f_scarfjointref15_compare
  refine ok_iter (fun s : Int => 0 ≤ s ∧ s ≤ a.length) (fun s : Int => ((a.length : Int) - s).toNat) ⟨by simp, by simp⟩ (by unfold fuel; simp; omega) (fun s nxt hs hn => ?_)
  refine ok_cond (fun h1 => ?_) (fun h1 => .mk ?_)
  · have h1' := of_decide_eq_true h1
    refine ok_t h1 ?_
    refine ok_atZ hs.1 (by omega) ?_
    refine ok_atZ hs.1 (by omega) ?_
    refine ok_t (decide_eq_true rfl) ?_
    rw [wrapI (by omega)]
    exact hn _ ⟨by omega, by omega⟩ (by omega)
  · rw [Int.sub_self]; rfl
theorem l_sameH {h : Host} (h1 : h.graph.nodes.length ≤ 1000000 ∧ h.graph.edges.length ≤ 1000000) (h2 : h.values.length ≤ 1000000) (h3 : ∀ l ∈ h.values, l.length ≤ 1000000) : f_scarfjointref15_Same h h = some true := by
  refine Ok.eq ?_
  unfold f_scarfjointref15_Same
  refine ok_eq (l_sameG h1) ?_
  refine ok_t rfl ?_
  refine ok_t (decide_eq_true rfl) ?_
  refine ok_chk (by unfold fuel; omega) ?_
  refine ok_all h.values (fun _ => True) (fun i nxt hi hn => ?_) (fun _ => .mk rfl)
  refine ok_at hi ?_
  refine ok_at hi ?_
  refine ok_eq (l_compare (h3 _ (List.getElem_mem hi))) ?_
  exact ok_t rfl (hn trivial)
end Go.Proofs.YtdlohnchnneaeaaGreat
/- Loops with an end of their own. Program-independent. -/
namespace Go.Abs
section
variable {σ O α : Type} {Q : O → Prop}
end
end Go.Abs
/- The triple of two hosts. -/
namespace Go.Proofs.YtdlohnchnneaeaaGreat
open Go.Abs

def onlyB (s : Sorts) (g : Graph) (k : Int) : Bool := decide ((partX s g k).nodes.length = g.nodes.length) && decide ((partX s g k).edges.length = g.edges.length)
def shiftE (n : Nat) (e : Edge) : Edge := ⟨e.type, e.src + n, e.dst + n⟩
def pairH (a b : Host) : Host := ⟨⟨a.graph.nodes ++ b.graph.nodes, a.graph.edges ++ b.graph.edges.map (shiftE a.graph.nodes.length)⟩, a.values ++ b.values⟩
def noH : Host := ⟨⟨[], []⟩, []⟩
def pairX (t : Types) (s : Sorts) (a b : Host) : Host × Int :=
  if validTr t s a ≠ 0 then (noH, validTr t s a)
  else if validTr t s b ≠ 0 then (noH, validTr t s b)
  else if (onlyB s a.graph 1 && onlyB s b.graph 3) = false then (noH, 1)
  else if 40 < a.graph.nodes.length + b.graph.nodes.length ∨ 80 < a.graph.edges.length + b.graph.edges.length then (noH, 3)
  else (pairH a b, 0)

theorem l_triple_only {s : Sorts} {g : Graph} (ho : OkTr s g) (k : Int) : f_triple_only s g k = some (onlyB s g k) := by
  refine Ok.eq ?_
  unfold f_triple_only
  refine ok_eq (r := partX s g k) (l_triple_part ho k) ?_
  refine ok_cond (fun h => .mk ?_) (fun h => .mk ?_)
  · have h' := of_decide_eq_true h
    unfold onlyB
    rw [decide_eq_true (by omega : (partX s g k).nodes.length = g.nodes.length), Bool.true_and]
    exact decide_eq_decide.2 (by omega)
  · have h' := of_decide_eq_false h
    unfold onlyB
    rw [decide_eq_false (by omega : ¬ (partX s g k).nodes.length = g.nodes.length), Bool.false_and]
theorem l_scarfjointref52_pure {s : Sorts} {g : Graph} (ho : OkTr s g) (k : Int) : f_scarfjointref52_pure s g k = some (onlyB s g k) := by
  refine Ok.eq ?_
  unfold f_scarfjointref52_pure
  refine ok_eq (r := partX s g k) (giv_t ho) ?_
  refine ok_cond (fun h => .mk ?_) (fun h => .mk ?_)
  · have h' := of_decide_eq_true h
    unfold onlyB
    rw [decide_eq_true (by omega : (partX s g k).nodes.length = g.nodes.length), Bool.true_and]
    exact decide_eq_decide.2 (by omega)
  · have h' := of_decide_eq_false h
    unfold onlyB
    rw [decide_eq_false (by omega : ¬ (partX s g k).nodes.length = g.nodes.length), Bool.false_and]

theorem l_clone_row (l : List Int) (h : l.length ≤ 1000000) : f_slices_Clone_int l = some l := giv_t h
theorem forN2 {σ O : Type} (f : Nat → σ → (σ → Option O) → (σ → Option O) → Option O) (i : Nat) (s : σ) (K : σ → Option O) : forN f 2 i s K = f i s (fun s' => f (i + 1) s' (fun s'' => K s'') K) K := rfl
theorem l_slices_Concat_int (x y : List Int) (h : x.length ≤ 1000 ∧ y.length ≤ 1000) : f_slices_Concat_int [x, y] = some (x ++ y) := by
  refine Ok.eq ?_
  unfold f_slices_Concat_int
  refine ok_chk (by unfold fuel; simp) ?_
  show Ok (forN _ 2 0 0 _) _
  rw [forN2]
  refine ok_eq (r := x) rfl ?_
  rw [wrapI (by omega)]
  refine ok_f (decide_eq_false (by omega)) ?_
  refine ok_eq (r := y) rfl ?_
  rw [wrapI (by omega)]
  refine ok_f (decide_eq_false (by omega)) ?_
  refine ok_eq (r := []) (giv_t ⟨rfl, by omega, by omega⟩) ?_
  refine ok_chk (by unfold fuel; simp) ?_
  show Ok (forN _ 2 0 [] _) _
  rw [forN2]
  refine ok_eq (r := x) rfl ?_
  refine ok_chk (by simp; omega) ?_
  refine ok_eq (r := y) rfl ?_
  refine ok_chk (by simp; omega) ?_
  exact .mk rfl
theorem l_slices_Concat_Lint (x y : List (List Int)) (h : x.length ≤ 1000 ∧ y.length ≤ 1000) : f_slices_Concat_Lint [x, y] = some (x ++ y) := by
  refine Ok.eq ?_
  unfold f_slices_Concat_Lint
  refine ok_chk (by unfold fuel; simp) ?_
  show Ok (forN _ 2 0 0 _) _
  rw [forN2]
  refine ok_eq (r := x) rfl ?_
  rw [wrapI (by omega)]
  refine ok_f (decide_eq_false (by omega)) ?_
  refine ok_eq (r := y) rfl ?_
  rw [wrapI (by omega)]
  refine ok_f (decide_eq_false (by omega)) ?_
  refine ok_eq (r := []) (giv_t ⟨rfl, by omega, by omega⟩) ?_
  refine ok_chk (by unfold fuel; simp) ?_
  show Ok (forN _ 2 0 [] _) _
  rw [forN2]
  refine ok_eq (r := x) rfl ?_
  refine ok_chk (by simp; omega) ?_
  refine ok_eq (r := y) rfl ?_
  refine ok_chk (by simp; omega) ?_
  exact .mk rfl
theorem l_copied {h : Host} (hh : FewH h) : f_scarfjointref15_Copied h = some h := by
  have h1 := hh.graph.nodes
  have h2 := hh.graph.edges
  have h3 := hh.values
  refine Ok.eq ?_
  unfold f_scarfjointref15_Copied
  refine ok_eq (r := h.graph) ?_ ?_
  · refine Ok.eq ?_
    unfold f_scarfjointref05_Copied
    refine ok_chk (by omega) ?_
    exact ok_chk (by omega) (.mk rfl)
  refine ok_chk (by unfold fuel; omega) ?_
  refine ok_map h.values (fun l => l) (fun j s nxt hj hs hn => ?_) (.mk (by rw [List.map_id']))
  refine ok_at hj ?_
  refine ok_chk (by have := hh.row _ (List.getElem_mem hj); omega) ?_
  exact ok_chk (by omega) hn

theorem l_triple_Pair {t : Types} (hf : FewT t) {s : Sorts} (hs : FewS s) {a b : Host} (ha : FewH a) (hb : FewH b) : f_triple_Pair t s a b = some (pairX t s a b) := by
  refine Ok.eq ?_
  unfold f_triple_Pair pairX
  refine ok_eq (r := validTr t s a) (giv_t ⟨hf, hs, ha⟩) ?_
  refine ok_cond (fun h1 => ?_) (fun h1 => .mk (by rw [if_pos (of_decide_eq_false h1)]; rfl))
  have h1' := of_decide_eq_true h1
  rw [if_neg (by rw [h1']; decide)]
  refine ok_eq (r := validTr t s b) (giv_t ⟨hf, hs, hb⟩) ?_
  refine ok_cond (fun h2 => ?_) (fun h2 => .mk (by rw [if_pos (of_decide_eq_false h2)]; rfl))
  have h2' := of_decide_eq_true h2
  rw [if_neg (by rw [h2']; decide)]
  have oa := okTr h1'
  have ob := okTr h2'
  have a1 := oa.nodes
  have a2 := oa.edges
  have b1 := ob.nodes
  have b2 := ob.edges
  refine ok_eq (l_triple_only oa 1) ?_
  refine ok_cond (fun h3 => ?_) (fun h3 => .mk (by rw [h3]; rfl))
  refine ok_eq (l_triple_only ob 3) ?_
  refine ok_cond (fun h4 => ?_) (fun h4 => .mk (by rw [h3, h4]; rfl))
  rw [h3, h4, wrapI (by omega), wrapI (by omega)]
  rw [if_neg (by decide)]
  refine ok_cond (fun h5 => .mk ?_) (fun h5 => ?_)
  · have h5' := of_decide_eq_true h5
    rw [if_pos (by omega)]; rfl
  refine ok_cond (fun h6 => .mk ?_) (fun h6 => ?_)
  · have h6' := of_decide_eq_true h6
    rw [if_pos (by omega)]; rfl
  have h5' := of_decide_eq_false h5
  have h6' := of_decide_eq_false h6
  rw [if_neg (by omega)]
  refine ok_eq (l_slices_Concat_int _ _ ⟨by omega, by omega⟩) ?_
  refine ok_eq (r := a.graph.edges) (giv_t (by omega)) ?_
  refine ok_chk (by unfold fuel; omega) ?_
  have va := ha.values
  have vb := hb.values
  refine ok_forN (fun j s => j ≤ b.graph.edges.length ∧ s = a.graph.edges ++ (b.graph.edges.take j).map (shiftE a.graph.nodes.length)) (Nat.zero_le _) ⟨Nat.zero_le _, by simp⟩ ?_ ?_
  · rintro j s nxt _ hj ⟨_, rfl⟩ hn
    refine ok_at hj ?_
    refine ok_chk (by simp; omega) ?_
    refine hn _ ⟨hj, ?_⟩
    have s1 := ob.src j hj
    have s2 := ob.dst j hj
    unfold inR at s1 s2
    have e : b.graph.edges.getD j default = b.graph.edges[j] := by simp [hj]
    rw [e] at s1 s2
    rw [wrapI (by omega), wrapI (by omega), List.take_add_one, List.getElem?_eq_getElem hj, Option.toList_some, List.map_append, List.append_assoc]
    rfl
  · rintro s ⟨_, rfl⟩
    rw [List.take_length]
    refine ok_eq (l_slices_Concat_Lint _ _ ⟨by omega, by omega⟩) ?_
    refine ok_chk (by unfold fuel; simp; omega) ?_
    refine ok_map (a.values ++ b.values) (fun l => l) (fun j s nxt hj hs hn => ?_) (.mk (by rw [List.map_id']; rfl))
    refine ok_at hj ?_
    have hm := List.getElem_mem hj
    have hle : (a.values ++ b.values)[j].length ≤ 12 := by
      rcases List.mem_append.1 hm with h | h
      · exact ha.row _ h
      · exact hb.row _ h
    refine ok_eq (l_clone_row _ (by omega)) ?_
    simp at hj
    exact ok_chk (by omega) hn
theorem l_ref52_Pair {t : Types} (hf : FewT t) {s : Sorts} (hs : FewS s) {a b : Host} (ha : FewH a) (hb : FewH b) : f_scarfjointref52_Pair t s a b = some (pairX t s a b) := by
  refine Ok.eq ?_
  unfold f_scarfjointref52_Pair pairX
  refine ok_eq (r := validTr t s a) (giv_t ⟨hf, hs, ha⟩) ?_
  refine ok_cond (fun h1 => ?_) (fun h1 => .mk (by rw [if_pos (of_decide_eq_false h1)]; rfl))
  have h1' := of_decide_eq_true h1
  rw [if_neg (by rw [h1']; decide)]
  refine ok_eq (r := validTr t s b) (giv_t ⟨hf, hs, hb⟩) ?_
  refine ok_cond (fun h2 => ?_) (fun h2 => .mk (by rw [if_pos (of_decide_eq_false h2)]; rfl))
  have h2' := of_decide_eq_true h2
  rw [if_neg (by rw [h2']; decide)]
  have oa := okTr h1'
  have ob := okTr h2'
  have a1 := oa.nodes
  have a2 := oa.edges
  have b1 := ob.nodes
  have b2 := ob.edges
  refine ok_eq (l_scarfjointref52_pure oa 1) ?_
  refine ok_cond (fun h3 => ?_) (fun h3 => .mk (by rw [h3]; rfl))
  refine ok_eq (l_scarfjointref52_pure ob 3) ?_
  refine ok_cond (fun h4 => ?_) (fun h4 => .mk (by rw [h3, h4]; rfl))
  rw [h3, h4, wrapI (by omega), wrapI (by omega)]
  rw [if_neg (by decide)]
  refine ok_cond (fun h5 => .mk ?_) (fun h5 => ?_)
  · have h5' := of_decide_eq_true h5
    rw [if_pos (by omega)]; rfl
  refine ok_cond (fun h6 => .mk ?_) (fun h6 => ?_)
  · have h6' := of_decide_eq_true h6
    rw [if_pos (by omega)]; rfl
  have h5' := of_decide_eq_false h5
  have h6' := of_decide_eq_false h6
  rw [if_neg (by omega)]
  refine ok_eq (l_copied ha) ?_
  refine ok_eq (l_copied hb) ?_
  have va := ha.values
  have vb := hb.values
  refine ok_chk (by omega) ?_
  refine ok_chk (by omega) ?_
  refine ok_chk (by unfold fuel; omega) ?_
  refine ok_forN (fun j s => j ≤ b.graph.edges.length ∧ s = a.graph.edges ++ (b.graph.edges.take j).map (shiftE a.graph.nodes.length)) (Nat.zero_le _) ⟨Nat.zero_le _, by simp⟩ ?_ ?_
  · rintro j s nxt _ hj ⟨_, rfl⟩ hn
    refine ok_at hj ?_
    refine ok_chk (by simp; omega) ?_
    refine hn _ ⟨hj, ?_⟩
    have s1 := ob.src j hj
    have s2 := ob.dst j hj
    unfold inR at s1 s2
    have e : b.graph.edges.getD j default = b.graph.edges[j] := by simp [hj]
    rw [e] at s1 s2
    rw [wrapI (by omega), wrapI (by omega), List.take_add_one, List.getElem?_eq_getElem hj, Option.toList_some, List.map_append, List.append_assoc]
    rfl
  · rintro s ⟨_, rfl⟩
    rw [List.take_length]
    exact .mk rfl
theorem pairX_small {t : Types} {s : Sorts} {a b : Host} (ha : FewH a) (hb : FewH b) :
    ((pairX t s a b).1.graph.nodes.length ≤ 1000000 ∧ (pairX t s a b).1.graph.edges.length ≤ 1000000) ∧ (pairX t s a b).1.values.length ≤ 1000000 ∧ ∀ l ∈ (pairX t s a b).1.values, l.length ≤ 1000000 := by
  have hno : (noH.graph.nodes.length ≤ 1000000 ∧ noH.graph.edges.length ≤ 1000000) ∧ noH.values.length ≤ 1000000 ∧ ∀ l ∈ noH.values, l.length ≤ 1000000 := by simp [noH]
  unfold pairX
  split
  · exact hno
  split
  · exact hno
  split
  · exact hno
  split
  · exact hno
  have h1 := ha.graph.nodes
  have h2 := ha.graph.edges
  have h3 := hb.graph.nodes
  have h4 := hb.graph.edges
  have h5 := ha.values
  have h6 := hb.values
  refine ⟨⟨by simp [pairH]; omega, by simp [pairH]; omega⟩, by simp [pairH]; omega, fun l hl => ?_⟩
  rcases List.mem_append.1 hl with h | h
  · have := ha.row _ h; omega
  · have := hb.row _ h; omega
theorem l_TriplePair (c : T_scarfjointlaw52_Case) (hm : FitT c.t) (hs : SmallS c.s) (a b : Host) : f_scarfjointlaw52_TriplePair c a b = some true := by
  refine Ok.eq ?_
  unfold f_scarfjointlaw52_TriplePair
  refine ok_eq (r := true) rfl ?_
  refine ok_t rfl ?_
  refine ok_thn (l_few hm hs a) fun x hx => ?_
  refine ok_cond (fun h1 => ?_) (fun _ => ok_eq (r := true) rfl (.mk rfl))
  refine ok_thn (l_few hm hs b) fun y hy => ?_
  refine ok_cond (fun h2 => ?_) (fun _ => ok_eq (r := true) rfl (.mk rfl))
  obtain ⟨k1, k2, k3⟩ := hx h1
  obtain ⟨_, _, k4⟩ := hy h2
  refine ok_eq (l_triple_Pair k1 k2 k3 k4) ?_
  refine ok_eq (l_ref52_Pair k1 k2 k3 k4) ?_
  refine ok_t (decide_eq_true rfl) ?_
  obtain ⟨q1, q2, q3⟩ := pairX_small (t := c.t) (s := c.s) k3 k4
  exact ok_eq (l_sameH q1 q2 q3) (.mk rfl)
end Go.Proofs.YtdlohnchnneaeaaGreat
/- What a reading of the arguments says of them: immutable data. Program-independent. -/
namespace Go.Abs
open Go.RowKit

variable {P : Program} {w : World} {H : Type} {enc : TypeId × Value → H}

def CellsR (w : World) (cs : List Value) (ps : List PV) : Prop := cs.length = ps.length ∧ (∀ (j : Nat) u c, cs[j]? = some u → ps[j]? = some c → VR (snap w) u c) ∧ ∀ u ∈ cs, u.oneCell' = true
def Light (P : Program) (t : TypeId) (d : DataW H) : Prop := ∀ n ∈ d.weights P t, n ≤ reachBytes

structure Dec (P : Program) (w : World) {H : Type} (enc : TypeId × Value → H) {α : Type} (t : TypeId) (sz : Nat) (e : α → List PV) (G : α → Prop) : Prop where
  len : ∀ a, (e a).length = sz
  dec : ∀ (sp : Nat → Bool) (hd : Bool) (fuel : Nat) (cs : List Value) (x : DataW H × List MemPlace), DataW.trod enc P w 0 sp hd fuel t cs = some x → Light P t x.1 → ∃ a, G a ∧ CellsR w cs (e a)

theorem CellsR.one {u : Value} {p : PV} (h : VR (snap w) u p) (h1 : u.oneCell' = true) : CellsR w [u] [p] :=
  ⟨rfl, fun j u' c hu hc => by
    cases j with
    | zero => simp at hu hc; subst hu hc; exact h
    | succ j => simp at hu, fun u' hu => by simp at hu; subst hu; exact h1⟩

theorem Dec.int {t : TypeId} (ht : P.underlying t = some (.int .i64)) : Dec P w enc t 1 (fun n : Int => [.val (.int .i64 n)]) (fun _ => True) :=
  ⟨fun _ => rfl, fun sp hd fuel cs x h _ => by
    obtain ⟨n, rfl, _⟩ := DataW.trod_int ht h
    exact ⟨n, trivial, .one (.val _ rfl) rfl⟩⟩
theorem Dec.str {t : TypeId} (ht : P.underlying t = some .string) : Dec P w enc t 1 (fun s : ByteArray => [.val (.string s)]) (fun _ => True) :=
  ⟨fun _ => rfl, fun sp hd fuel cs x h _ => by
    obtain ⟨n, rfl, _⟩ := DataW.trod_string ht h
    exact ⟨n, trivial, .one (.val _ rfl) rfl⟩⟩
theorem Dec.bool {t : TypeId} (ht : P.underlying t = some .bool) : Dec P w enc t 1 (fun b : Bool => [.val (.bool b)]) (fun _ => True) :=
  ⟨fun _ => rfl, fun sp hd fuel cs x h _ => by
    obtain ⟨n, rfl, _⟩ := DataW.trod_bool ht h
    exact ⟨n, trivial, .one (.val _ rfl) rfl⟩⟩

theorem Dec.map {α β : Type} {t : TypeId} {sz : Nat} {e : α → List PV} {G : α → Prop} {e' : β → List PV} {G' : β → Prop} (g : α → β) (f : β → α) (hgf : ∀ b, e (f b) = e' b) (hg : ∀ a, e' (g a) = e a) (hG : ∀ a, G a → G' (g a)) (h : Dec P w enc t sz e G) : Dec P w enc t sz e' G' :=
  ⟨fun b => by rw [← hgf]; exact h.len _, fun sp hd fuel cs x hx hw => by
    obtain ⟨a, h1, h2⟩ := h.dec sp hd fuel cs x hx hw
    exact ⟨g a, hG a h1, by rw [hg]; exact h2⟩⟩

theorem weightsAll_mem {e : TypeId} : ∀ {ds : List (DataW H)} {d : DataW H}, d ∈ ds → ∀ n ∈ d.weights P e, n ∈ DataW.weightsAll P e ds
  | d0 :: r, d, hd, n, hn => by
    rw [DataW.weightsAll, List.mem_append]
    rcases List.mem_cons.1 hd with rfl | h
    · exact .inl hn
    · exact .inr (weightsAll_mem h n hn)

theorem mapM_some {α β : Type} {f : α → Option β} : ∀ {l : List α} {r : List β}, l.mapM f = some r → r.length = l.length ∧ ∀ (i : Nat) a, l[i]? = some a → r[i]? = f a := by
  intro l
  induction l with
  | nil => intro r h; simp at h; subst h; exact ⟨rfl, by simp⟩
  | cons a l ih =>
    intro r h
    rw [List.mapM_cons] at h
    cases ha : f a with
    | none => rw [ha] at h; cases h
    | some b =>
      rw [ha] at h
      cases hl : l.mapM f with
      | none => rw [hl] at h; cases h
      | some r' =>
        rw [hl] at h
        have : r = b :: r' := by simpa using h.symm
        subst this
        obtain ⟨h1, h2⟩ := ih hl
        refine ⟨by simp [h1], fun i x hx => ?_⟩
        cases i with
        | zero => simp at hx; subst hx; simp [ha]
        | succ i => simpa using h2 i x (by simpa using hx)

theorem cells_snap {a : Addr} {n : Nat} {cs : List Value} (h : w.cells? 0 a n = some cs) : cs.length = n ∧ (∀ (i : Nat) u, cs[i]? = some u → w.cell? (a.add i) = some u) := by
  unfold World.cells? at h
  rw [if_pos (Nat.zero_le _)] at h
  obtain ⟨h1, h2⟩ := mapM_some h
  refine ⟨by simpa using h1, fun i u hu => ?_⟩
  have hi : i < n := by
    have := (List.getElem?_eq_some_iff.1 hu).1
    simpa [h1] using this
  rw [← h2 i i (by simp [hi]), hu]
theorem spot_none {a : Addr} {u : Value} (h : w.cell? a = some u) : a.spot = none := by
  unfold World.cell? at h
  split at h
  · split at h
    · cases h
    · rename_i hs
      cases hsp : a.spot with
      | none => rfl
      | some _ => simp [hsp] at hs
  · cases h

theorem exists_list {α : Type} {n : Nat} {Q : Nat → α → Prop} (h : ∀ i, i < n → ∃ a, Q i a) : ∃ l : List α, l.length = n ∧ ∀ (i : Nat) a, l[i]? = some a → Q i a := by
  induction n with
  | zero => exact ⟨[], rfl, by simp⟩
  | succ n ih =>
    obtain ⟨l, h1, h2⟩ := ih fun i hi => h i (by omega)
    obtain ⟨a, ha⟩ := h n (by omega)
    refine ⟨l ++ [a], by simp [h1], fun i b hb => ?_⟩
    rcases Nat.lt_or_ge i l.length with hi | hi
    · rw [List.getElem?_append_left hi] at hb
      exact h2 i b hb
    · rw [List.getElem?_append_right hi] at hb
      have : i - l.length = 0 := by
        have := (List.getElem?_eq_some_iff.1 hb).1
        simp at this
        omega
      rw [this] at hb
      simp at hb
      subst hb
      have : i = n := by omega
      subst this
      exact ha
end Go.Abs
/- Slices and structures that were read. Program-independent. -/
namespace Go.Abs
open Go.RowKit

variable {P : Program} {w : World} {H : Type} {enc : TypeId × Value → H}

theorem addr_add {a : Addr} (h : a.spot = none) (n : Nat) : a.add n = ⟨a.block, a.off + n, none⟩ := by
  obtain ⟨b, o, s⟩ := a
  simp only at h
  subst h
  unfold Addr.add
  split
  · rename_i hn; simp [hn]
  · rfl

theorem vr_slice {α : Type} {ec : α → List PV} {sz : Nat} (h0 : 0 < sz) (hlen : ∀ a, (ec a).length = sz) {a : Addr} {len cap : Nat} (hcap : len ≤ cap) {l : List (α × List Value)} (hl : l.length = len)
    (h : ∀ (i : Nat) (x : α × List Value), l[i]? = some x → w.cells? 0 (a.add (i * sz)) sz = some x.2 ∧ CellsR w x.2 (ec x.1)) : VR (snap w) (.slice (some a) len cap) (.lst ((l.map (·.1)).map ec)) := by
  have hall : ∀ e ∈ (l.map (·.1)).map ec, e.length = sz := fun e he => by
    obtain ⟨x, _, rfl⟩ := List.mem_map.1 he
    exact hlen x
  have hcs : ∀ c ∈ l.map (·.2), c.length = sz := fun c hc => by
    obtain ⟨x, hx, rfl⟩ := List.mem_map.1 hc
    obtain ⟨i, hi⟩ := List.mem_iff_getElem?.1 hx
    exact (cells_snap (h i x hi).1).1
  have at' : ∀ (j : Nat) u, (l.map (·.2)).flatten[j]? = some u → ∃ x, l[j / sz]? = some x ∧ x.2[j % sz]? = some u := fun j u hu => by
    have hj : j < (l.map (·.2)).flatten.length := (List.getElem?_eq_some_iff.1 hu).1
    rw [flatten_len hcs, List.length_map] at hj
    have hd : j / sz < l.length := (Nat.div_lt_iff_lt_mul h0).2 hj
    have e2 := flatten_get hcs (j / sz) (j % sz) (by simpa using hd) (Nat.mod_lt _ h0)
    rw [Nat.div_add_mod' j sz, hu] at e2
    refine ⟨l[j / sz], List.getElem?_eq_getElem hd, ?_⟩
    rw [e2]
    simp [hd]
  refine .lst (some a) len cap _ (l.map (·.2)).flatten sz (by simp [hl]) hall ?_ (fun j u c hu hc => ?_) (fun u hu => ?_) ?_ (by simp) hcap
  · rw [flatten_len hcs, flatten_len hall]
    simp
  · obtain ⟨x, hx, hxu⟩ := at' j u hu
    have hd : j / sz < l.length := (List.getElem?_eq_some_iff.1 hx).1
    have e2 := flatten_get hall (j / sz) (j % sz) (by simpa using hd) (Nat.mod_lt _ h0)
    rw [Nat.div_add_mod' j sz, hc] at e2
    have e3 : ((l.map (·.1)).map ec).getD (j / sz) [] = ec x.1 := by
      have : l[j / sz] = x := by
        have := List.getElem?_eq_getElem hd
        rw [hx] at this
        exact (Option.some.inj this).symm
      simp [hd, this]
    rw [e3] at e2
    exact (h _ x hx).2.2.1 _ u c hxu e2.symm
  · obtain ⟨c, hc, huc⟩ := List.mem_flatten.1 hu
    obtain ⟨x, hx, rfl⟩ := List.mem_map.1 hc
    obtain ⟨i, hi⟩ := List.mem_iff_getElem?.1 hx
    exact (h i x hi).2.2.2 u huc
  · by_cases hn : (l.map (·.2)).flatten = []
    · exact .inl hn
    · right
      have hpos : 0 < l.length := by
        rcases Nat.eq_zero_or_pos l.length with h' | h'
        · exact absurd (by rw [List.length_eq_zero_iff.1 h']; rfl) hn
        · exact h'
      have hsp : a.spot = none := by
        have hx := h 0 l[0] (List.getElem?_eq_getElem hpos)
        obtain ⟨k1, k2⟩ := cells_snap hx.1
        have h00 : 0 < l[0].2.length := by rw [k1]; exact h0
        have := k2 0 l[0].2[0] (List.getElem?_eq_getElem h00)
        have := spot_none this
        simpa [Addr.add] using this
      refine ⟨a.block, a.off, ?_, fun j u hu => ?_⟩
      · obtain ⟨b, o, s⟩ := a
        simp only at hsp
        subst hsp
        rfl
      · obtain ⟨x, hx, hxu⟩ := at' j u hu
        have := (cells_snap (h _ x hx).1).2 _ u hxu
        rw [addr_add hsp, addr_add rfl] at this
        simp only at this
        rw [Nat.add_assoc, Nat.div_add_mod' j sz] at this
        exact this

theorem Dec.slice {α : Type} {t e : TypeId} {sz : Nat} {ec : α → List PV} {G : α → Prop} (ht : P.underlying t = some (.slice e)) (hc : P.cellsOf e = sz) (h0 : 0 < sz) (hb : 0 < P.bytesOf e) (he : Dec P w enc e sz ec G) :
    Dec P w enc t 1 (fun l : List α => [.lst (l.map ec)]) (fun l => (∀ a ∈ l, G a) ∧ l.length ≤ reachBytes) :=
  ⟨fun _ => rfl, fun sp hd fuel cs x h hw => by
    rcases DataW.trod_slice ht h with ⟨rfl, rfl⟩ | ⟨a, len, cap, elems, rest, n, _, rfl, rfl, _, hle, _, hlen, hel, _, _⟩
    · exact ⟨[], ⟨by simp, by simp⟩, .one (.lst none 0 0 [] [] 1 rfl (by simp) rfl (by simp) (by simp) (.inl rfl) (fun _ => ⟨rfl, rfl⟩) (Nat.le_refl _)) rfl⟩
    · have hwt : ∀ k, k ∈ ((elems.map (·.1)).length + (rest.map (·.1)).length) * P.bytesOf e :: (DataW.weightsAll P e (elems.map (·.1)) ++ DataW.weightsAll P e (rest.map (·.1))) → k ≤ reachBytes := fun k hk => by
        refine hw k ?_
        simp only [DataW.weights, ht]
        exact hk
      obtain ⟨l, l1, l2⟩ := exists_list (n := len) (Q := fun i (x : α × List Value) => G x.1 ∧ w.cells? 0 (a.add (i * sz)) sz = some x.2 ∧ CellsR w x.2 (ec x.1)) fun i hi => by
        have h1 := hel i hi
        have hi' : i < elems.length := by omega
        rw [List.getElem?_eq_getElem hi', hc] at h1
        obtain ⟨cs', h2, h3⟩ := Option.bind_eq_some_iff.1 h1
        obtain ⟨b, h4, h5⟩ := he.dec sp hd n cs' _ h3 fun k hk => hwt k (List.mem_cons_of_mem _ (List.mem_append_left _ (weightsAll_mem (List.mem_map.2 ⟨elems[i], List.getElem_mem hi', rfl⟩) k hk)))
        exact ⟨(b, cs'), h4, h2, h5⟩
      refine ⟨l.map (·.1), ⟨fun b hb' => ?_, ?_⟩, .one (vr_slice h0 he.len hle l1 fun i x hx => (l2 i x hx).2) rfl⟩
      · obtain ⟨x, hx, rfl⟩ := List.mem_map.1 hb'
        obtain ⟨i, hi⟩ := List.mem_iff_getElem?.1 hx
        exact (l2 i x hi).1
      · have := hwt _ (List.mem_cons_self ..)
        rw [List.length_map, List.length_map, hlen] at this
        rw [List.length_map, l1]
        exact Nat.le_trans (Nat.le_trans (Nat.le_add_right len rest.length) (Nat.le_mul_of_pos_right _ hb)) this⟩

structure DecFs (P : Program) (w : World) {H : Type} (enc : TypeId × Value → H) {α : Type} (fs : List Field) (off sz : Nat) (e : α → List PV) (G : α → Prop) : Prop where
  len : ∀ a, (e a).length = sz
  dec : ∀ (sp : Nat → Bool) (hd : Bool) (n : Nat) (cs : List Value) (ds : List (DataW H)), ds.length = fs.length → cs.length = off + sz → (∀ (i : Nat) f, fs[i]? = some f → ∃ ps, DataW.trod enc P w 0 sp hd n f.type ((cs.drop f.offset).take (P.cellsOf f.type)) = (ds[i]?).map fun d => (d, ps)) →
    (∀ k ∈ DataW.weightsEach P (fs.map (·.type)) ds, k ≤ reachBytes) → ∃ a, G a ∧ CellsR w (cs.drop off) (e a)

theorem DecFs.nil (off : Nat) : DecFs P w enc [] off 0 (fun _ : Unit => []) (fun _ => True) :=
  ⟨fun _ => rfl, fun sp hd n cs ds _ hl _ _ => ⟨(), trivial, by
    have : cs.drop off = [] := List.drop_eq_nil_of_le (by omega)
    rw [this]
    exact ⟨rfl, by simp, by simp⟩⟩⟩
theorem CellsR.append {cs ds : List Value} {ps qs : List PV} (h : CellsR w cs ps) (k : CellsR w ds qs) : CellsR w (cs ++ ds) (ps ++ qs) := by
  refine ⟨by simp [h.1, k.1], fun j u c hu hc => ?_, fun u hu => ?_⟩
  · rcases Nat.lt_or_ge j cs.length with hj | hj
    · rw [List.getElem?_append_left hj] at hu
      rw [List.getElem?_append_left (by rw [← h.1]; exact hj)] at hc
      exact h.2.1 j u c hu hc
    · rw [List.getElem?_append_right hj] at hu
      rw [List.getElem?_append_right (by rw [← h.1]; exact hj), ← h.1] at hc
      exact k.2.1 _ u c hu hc
  · rcases List.mem_append.1 hu with hu | hu
    · exact h.2.2 u hu
    · exact k.2.2 u hu
theorem DecFs.cons {α β : Type} {f : Field} {fs : List Field} {off sz sz' : Nat} {e : α → List PV} {G : α → Prop} {e' : β → List PV} {G' : β → Prop} (ho : f.offset = off) (hc : P.cellsOf f.type = sz) (h : Dec P w enc f.type sz e G) (hr : DecFs P w enc fs (off + sz) sz' e' G') :
    DecFs P w enc (f :: fs) off (sz + sz') (fun x : α × β => e x.1 ++ e' x.2) (fun x => G x.1 ∧ G' x.2) :=
  ⟨fun x => by rw [List.length_append, h.len, hr.len], fun sp hd n cs ds hl hcs hall hw => by
    match ds, hl with
    | [], hl => simp at hl
    | d :: ds, hl =>
      rw [List.map_cons, DataW.weightsEach] at hw
      obtain ⟨ps, h0⟩ := hall 0 f rfl
      simp only [List.getElem?_cons_zero, Option.map_some] at h0
      obtain ⟨a, a1, a2⟩ := h.dec sp hd n _ _ h0 fun k hk => hw k (List.mem_append_left _ hk)
      obtain ⟨b, b1, b2⟩ := hr.dec sp hd n cs ds (by simpa using hl) (by omega) (fun i g hg => by simpa using hall (i + 1) g (by simpa using hg)) fun k hk => hw k (List.mem_append_right _ hk)
      refine ⟨(a, b), ⟨a1, b1⟩, ?_⟩
      have e1 : cs.drop off = (cs.drop off).take sz ++ cs.drop (off + sz) := by
        rw [← List.drop_drop, List.take_append_drop]
      rw [e1]
      rw [ho, hc] at a2
      exact a2.append b2⟩
theorem Dec.struct {α : Type} {t : TypeId} {fs : Array Field} {sz : Nat} {e : α → List PV} {G : α → Prop} (ht : P.underlying t = some (.struct fs)) (hc : P.cellsOf t = sz) (h : DecFs P w enc fs.toList 0 sz e G) : Dec P w enc t sz e G :=
  ⟨h.len, fun sp hd fuel cs x hx hw => by
    obtain ⟨xs, n, _, rfl, hl, hxs, hf⟩ := DataW.trod_struct ht hx
    obtain ⟨a, a1, a2⟩ := h.dec sp hd n cs (xs.map (·.1)) (by simp [hxs]) (by rw [hl, hc, Nat.zero_add]) (fun i f hi => by
      have h1 := hf i f (by simpa using hi)
      have hlt : i < xs.length := by
        have := (List.getElem?_eq_some_iff.1 hi).1
        rw [hxs]; simpa using this
      refine ⟨xs[i].2, ?_⟩
      rw [h1]
      simp [hlt]) fun k hk => hw k (by
        simp only [DataW.weights, ht]
        exact hk)
    exact ⟨a, a1, by simpa using a2⟩⟩
end Go.Abs
/- Arrays and the narrow ints, read as plain data. Program-independent. -/
namespace Go.Abs
open Go.RowKit

variable {P : Program} {w : World} {H : Type} {enc : TypeId × Value → H}

theorem Dec.intk {t : TypeId} (k : IntKind) (ht : P.underlying t = some (.int k)) : Dec P w enc t 1 (fun n : Int => [.val (.int k n)]) (fun n => k.min ≤ n ∧ n ≤ k.max) :=
  ⟨fun _ => rfl, fun sp hd fuel cs x h _ => by
    obtain ⟨n, rfl, _, hw⟩ := DataW.trod_int ht h
    refine ⟨n, ?_, .one (.val _ rfl) rfl⟩
    simpa [Lit.wf] using hw⟩
def arrF (e : TypeId) (off : Nat) : Field := { name := "", type := e, offset := off, embedded := false, tag := "", pkgPath := "", byteOffset := 0 }
def arrFs (n : Nat) (e : TypeId) (sz : Nat) : List Field := (List.range n).map fun i => arrF e (i * sz)
theorem weightsAll_each {e : TypeId} : ∀ (n : Nat) (ds : List (DataW H)), ds.length = n → DataW.weightsEach P (List.replicate n e) ds = DataW.weightsAll P e ds
  | 0, [], _ => rfl
  | n + 1, d :: r, h => by
    rw [List.replicate_succ, DataW.weightsEach, DataW.weightsAll, weightsAll_each n r (by simpa using h)]
  | n + 1, [], h => by simp at h
  | 0, d :: r, h => by simp at h
theorem Dec.array {α : Type} {t e : TypeId} {n sz sz0 : Nat} {ec : α → List PV} {G : α → Prop} (ht : P.underlying t = some (.array n e)) (hc : P.cellsOf t = sz) (h0 : P.cellsOf e = sz0) (h : DecFs P w enc (arrFs n e sz0) 0 sz ec G) : Dec P w enc t sz ec G :=
  ⟨h.len, fun sp hd fuel cs x hx hw => by
    obtain ⟨xs, m, _, rfl, hl, hxs, hf⟩ := DataW.trod_array ht hx
    obtain ⟨a, a1, a2⟩ := h.dec sp hd m cs (xs.map (·.1)) (by simp [hxs, arrFs]) (by rw [hl, hc, Nat.zero_add]) (fun i f hi => by
      have hlt : i < n := by
        have := (List.getElem?_eq_some_iff.1 hi).1
        simpa [arrFs] using this
      have hfe : f = arrF e (i * sz0) := by
        simpa [arrFs, hlt] using hi.symm
      subst hfe
      have h1 := hf i hlt
      refine ⟨(xs[i]'(by omega)).2, ?_⟩
      subst h0
      show DataW.trod enc P w 0 sp hd m e (List.take (P.cellsOf e) (List.drop (i * P.cellsOf e) cs)) = _
      rw [h1]
      simp [hxs, hlt]) fun k hk => hw k (by
        simp only [DataW.weights, ht]
        have e1 : (arrFs n e sz0).map (·.type) = List.replicate n e := by
          unfold arrFs
          rw [List.map_map]
          exact (List.map_const' ..).trans (by rw [List.length_range])
        rw [e1, weightsAll_each n _ (by simp [hxs])] at hk
        exact hk)
    exact ⟨a, a1, by simpa using a2⟩⟩
end Go.Abs
/- A statement 'it returns true, and its arguments read as they did', from a contract on plain data. Program-independent. -/
namespace Go.Abs
open Go.ChangeShapes Go.WideShapes Go.ChangeAt Go.RowKit

variable {P : Program} {W : World} {H : Type} {enc : TypeId × Value → H} {α β : Type}

structure DecV (P : Program) (W : World) {H : Type} (enc : TypeId × Value → H) {α : Type} (t : TypeId) (e : α → PV) (G : α → Prop) : Prop where
  dec : ∀ b0 v d ps, Value.okWide P W .any b0 t v → DataW.Trod enc P W 0 (fun _ => true) true t v d ps → Light P t d → ∃ a, G a ∧ VR (snap W) v (e a)
  read : P.readableRec t = true
  size : t < P.types.size

theorem DecV.struct {t : TypeId} {fs : Array Field} {sz : Nat} {e : α → List PV} {G : α → Prop} (ht : P.underlying t = some (.struct fs)) (hdec : Dec P W enc t sz e G) (hr : P.readableRec t = true) (hs : t < P.types.size) : DecV P W enc t (fun a => .agg (e a)) G :=
  ⟨fun b0 v d ps hval h hw => by
    unfold Value.okWide at hval
    rw [ht] at hval
    obtain ⟨cs, rfl, _⟩ := hval
    obtain ⟨fuel, hf⟩ := h
    obtain ⟨a, h1, h2⟩ := hdec.dec _ _ fuel _ _ hf hw
    refine ⟨a, h1, ?_⟩
    have : VR (snap W) (.agg (cs.toList).toArray) (.agg (e a)) := .agg cs.toList (e a) h2.1 h2.2.1 h2.2.2
    simpa using this, hr, hs⟩
theorem DecV.array {t e' : TypeId} {n sz : Nat} {e : α → List PV} {G : α → Prop} (ht : P.underlying t = some (.array n e')) (hdec : Dec P W enc t sz e G) (hr : P.readableRec t = true) (hs : t < P.types.size) : DecV P W enc t (fun a => .agg (e a)) G :=
  ⟨fun b0 v d ps hval h hw => by
    unfold Value.okWide at hval
    rw [ht] at hval
    obtain ⟨cs, rfl, _⟩ := hval
    obtain ⟨fuel, hf⟩ := h
    obtain ⟨a, h1, h2⟩ := hdec.dec _ _ fuel _ _ hf hw
    refine ⟨a, h1, ?_⟩
    have : VR (snap W) (.agg (cs.toList).toArray) (.agg (e a)) := .agg cs.toList (e a) h2.1 h2.2.1 h2.2.2
    simpa using this, hr, hs⟩
theorem DecV.one {t : TypeId} {e : α → PV} {G : α → Prop} (ht : ∀ b0 v, Value.okWide P W .any b0 t v → v.cells.toList = [v]) (hdec : Dec P W enc t 1 (fun a => [e a]) G) (hr : P.readableRec t = true) (hs : t < P.types.size) : DecV P W enc t e G :=
  ⟨fun b0 v d ps hval h hw => by
    obtain ⟨fuel, hf⟩ := h
    rw [ht b0 v hval] at hf
    obtain ⟨a, h1, h2⟩ := hdec.dec _ _ fuel _ _ hf hw
    exact ⟨a, h1, h2.2.1 0 v (e a) rfl rfl⟩, hr, hs⟩
theorem trodAll_len : ∀ {ts : List TypeId} {vs : List Value} {ds : List (DataW H)} {ps : List MemPlace}, DataW.TrodAll enc P W 0 (fun _ => true) true ts vs ds ps → ds.length = ts.length
  | [], vs, ds, ps, h => by obtain ⟨rfl, rfl, rfl⟩ := trodAll_nil h; rfl
  | t :: ts, vs, ds, ps, h => by
    obtain ⟨v, vs', d, ds', p, q, rfl, rfl, rfl, h1, h2⟩ := trodAll_cons h
    rw [List.length_cons, List.length_cons, trodAll_len h2]
structure DecVs (P : Program) (W : World) {H : Type} (enc : TypeId × Value → H) {α : Type} (ts : List TypeId) (e : α → List PV) (G : α → Prop) : Prop where
  dec : ∀ b0 vs ds ps, (∀ (j : Nat) t v, ts[j]? = some t → vs[j]? = some v → Value.okWide P W .any b0 t v) → DataW.TrodAll enc P W 0 (fun _ => true) true ts vs ds ps → (∀ n ∈ DataW.weightsEach P ts ds, n ≤ reachBytes) →
    ∃ a, G a ∧ vs.length = (e a).length ∧ ∀ (j : Nat) u x, vs[j]? = some u → (e a)[j]? = some x → VR (snap W) u x
  stay : laidOutB P = true → ∀ vs ds ps W', DataW.TrodAll enc P W 0 (fun _ => true) true ts vs ds ps → Below W.heap.size W W' → (∀ x ∈ ps, x.block < W.heap.size) → DataW.TrodAll enc P W' 0 (fun b => decide (b < W.heap.size)) true ts vs ds ps
theorem DecVs.nil : DecVs P W enc [] (fun _ : Unit => []) (fun _ => True) :=
  ⟨fun b0 vs ds ps _ h _ => by
    obtain ⟨rfl, rfl, rfl⟩ := trodAll_nil h
    exact ⟨(), trivial, rfl, fun j u x hu => by simp at hu⟩, fun _ vs ds ps W' h _ _ => by
    obtain ⟨rfl, rfl, rfl⟩ := trodAll_nil h
    exact trodAll_mk0⟩
theorem DecVs.cons {t : TypeId} {ts : List TypeId} {e : α → PV} {G : α → Prop} {e' : β → List PV} {G' : β → Prop} (h : DecV P W enc t e G) (hr : DecVs P W enc ts e' G') :
    DecVs P W enc (t :: ts) (fun x : α × β => e x.1 :: e' x.2) (fun x => G x.1 ∧ G' x.2) :=
  ⟨fun b0 vs ds ps hv ht hw => by
    obtain ⟨v, vs', d, ds', p, q, rfl, rfl, rfl, h1, h2⟩ := trodAll_cons ht
    rw [DataW.weightsEach] at hw
    obtain ⟨a, a1, a2⟩ := h.dec b0 v d p (hv 0 t v rfl rfl) h1 fun n hn => hw n (List.mem_append_left _ hn)
    obtain ⟨b, b1, b2, b3⟩ := hr.dec b0 vs' ds' q (fun j t v ht hv' => hv (j + 1) t v (by simpa using ht) (by simpa using hv')) h2 fun n hn => hw n (List.mem_append_right _ hn)
    refine ⟨(a, b), ⟨a1, b1⟩, by simp [b2], fun j u x hu hx => ?_⟩
    cases j with
    | zero => simp at hu hx; subst hu hx; exact a2
    | succ j => exact b3 j u x (by simpa using hu) (by simpa using hx), fun hl vs ds ps W' ht hb hlt => by
    obtain ⟨v, vs', d, ds', p, q, rfl, rfl, rfl, h1, h2⟩ := trodAll_cons ht
    exact ⟨p, q, Below.trod hl h.read h.size h1 hb fun x hx => hlt x (List.mem_append_left _ hx), hr.stay hl vs' ds' q W' h2 hb fun x hx => hlt x (List.mem_append_right _ hx), rfl⟩⟩

theorem law_true {C : Checked} {os : Os} {f : FuncId} {fn : Func} {s : ChangeSpec} {conds : List PathCond} {apart fresh handsOn : Bool} {e : α → List PV} {G : α → Prop} {tb : TypeId}
    (own : ownKnob C.prog.godebug = none) (laid : laidOutB C.prog = true) (started : os.Started) (noInit : C.prog.inits.idxOf? f = none) (hfn : C.prog.funcs[f]? = some fn)
    (witness : ∃ (w : World) (tape : Tape) (i : Input), w.os = os ∧ (w.forCall tape i).Shaped C.prog ∧ i.vars = [] ∧ Input.okWide C.prog (w.forCall tape i) .any w.heap.size f i ∧
      s.pre6 enc C.prog fn conds apart (w.forCall tape i).memory i.args ∧ ({} : Assume).holds C.prog (lone (Frame.enter C.prog f i.args .normal) [] (w.forCall tape i)))
    (hres : fn.resultTypes = #[tb]) (hb : C.prog.underlying tb = some .bool) (hv : s.vars = []) (hs : ∀ ds : List (DataW H), ds.length = fn.params.size → (s.fn H ds).results = [.lit (.bool true)] ∧ (s.fn H ds).args = ds ∧ (s.fn H ds).vars = [])
    (hd : ∀ W, DecVs C.prog W enc fn.params.toList e G) (ok : ∀ a, G a → CallV C.prog f (e a) fun r => r = .val (.bool true)) :
    ReturnsInHanded {} C os f .any (s.pre6 enc C.prog fn conds apart) (s.post enc C.prog fn apart fresh handsOn false) := by
  refine returnsInHanded_of_change_sized (C := C) own started noInit hfn witness ?_
  intro W base args ds gs before hval hW _ hz _
  have hW' := hW
  obtain ⟨p, q, hA, hV, rfl, hfz, hnd⟩ := hW
  rw [hv] at hV
  have hg : gs = [] ∧ q = [] := by
    cases gs with
    | nil => exact ⟨rfl, hV⟩
    | cons => exact hV.elim
  obtain ⟨rfl, rfl⟩ := hg
  have hvt : s.plain.varTypes C.prog = [] := by
    have : s.plain.vars = [] := hv
    unfold DataSpec.varTypes
    rw [this]
    rfl
  rw [hvt, List.append_nil, List.append_nil] at hz
  have hw : ∀ n ∈ DataW.weightsEach C.prog fn.params.toList ds, n ≤ reachBytes := fun n hn => by
    have := List.all_eq_true.1 hz n hn
    simpa using this
  obtain ⟨a, a1, a2, a3⟩ := (hd W).dec base args.toList ds p (fun j t v ht hv' => hval j t v (by simpa using ht) (by simpa using hv')) hA hw
  have hlt : ∀ x ∈ p, x.block < W.heap.size := fun x hx => hW'.lt x (List.mem_append_left _ hx)
  obtain ⟨s1, s2, s3⟩ := hs ds (by
    have := trodAll_len hA
    simpa using this)
  refine ((ok a a1).2 (snap W) W args.toList (snap_inW W) ⟨a2, a3⟩).mono ?_
  rintro e' W' ⟨v, r, I', rfl, rfl, hv', bel, _⟩
  have hvb : v = .bool true := by cases hv'; rfl
  subst hvb
  refine ⟨_, rfl, ds, [], p ++ [], [], p, [], hW', ?_, ?_, ?_, bel.frame _, fun h => by cases h⟩
  · rw [List.append_nil, s1, hres]
    exact trodAll_mk1 (shut_bool hb true)
  · rw [List.append_nil, s2]
    exact (hd W).stay laid _ _ _ _ hA bel hlt
  · rw [List.append_nil, s3, hv]
    rfl
end Go.Abs
/- What carries a law of the program to its statement. Printed by law.py. -/
namespace Go.Proofs.YtdlohnchnneaeaaGreat
open Go.Abs
open Go.ChangeShapes Go.WideShapes Go.ChangeAt Go.RowKit
variable {w : World} {H : Type} {enc : TypeId × Value → H}

def enc_b (b : Bool) : List PV := [.val (.bool b)]
def G9 (_ : ByteArray) : Prop := True
theorem d9 : Dec Go.Proofs.Tryz.prog w enc 9 1 encS G9 :=
  .str Go.Proofs.Tryz.underlying9
def G3 (n : Int) : Prop := IntKind.i64.min ≤ n ∧ n ≤ IntKind.i64.max
theorem d3 : Dec Go.Proofs.Tryz.prog w enc 3 1 (fun n : Int => [.val (.int .i64 n)]) G3 :=
  .intk .i64 Go.Proofs.Tryz.underlying3
def G4 (_ : Bool) : Prop := True
theorem d4 : Dec Go.Proofs.Tryz.prog w enc 4 1 enc_b G4 :=
  .bool Go.Proofs.Tryz.underlying4
def G105 (l : List ByteArray) : Prop := (∀ x ∈ l, G9 x) ∧ l.length ≤ reachBytes
theorem d105 : Dec Go.Proofs.Tryz.prog w enc 105 1 (fun l : List ByteArray => [.lst (l.map encS)]) G105 :=
  (Dec.slice Go.Proofs.Tryz.underlying105 (by kernel_rfl) (by decide) (of_decide_eq_true (by kernel_rfl)) d9).map id id (fun _ => rfl) (fun _ => rfl) (fun _ h => h)
def G107 (x : Attr) : Prop := G9 x.name ∧ G3 x.low ∧ G3 x.high ∧ G105 x.names ∧ True
theorem d107 : Dec Go.Proofs.Tryz.prog w enc 107 4 (fun x : Attr => [.val (.string x.name), .val (.int .i64 x.low), .val (.int .i64 x.high), .lst (x.names.map encS)]) G107 :=
  (Dec.struct Go.Proofs.Tryz.underlying107 (by kernel_rfl) (.cons rfl (by kernel_rfl) d9 (.cons rfl (by kernel_rfl) d3 (.cons rfl (by kernel_rfl) d3 (.cons rfl (by kernel_rfl) d105 (.nil _)))))).map (fun x => ⟨x.1, x.2.1, x.2.2.1, x.2.2.2.1⟩) (fun a => (a.name, a.low, a.high, a.names, ())) (fun _ => rfl) (fun _ => rfl) (fun _ h => h)
def G95 (l : List Attr) : Prop := (∀ x ∈ l, G107 x) ∧ l.length ≤ reachBytes
theorem d95 : Dec Go.Proofs.Tryz.prog w enc 95 1 (fun l : List Attr => [.lst (l.map encAttr)]) G95 :=
  (Dec.slice Go.Proofs.Tryz.underlying95 (by kernel_rfl) (by decide) (of_decide_eq_true (by kernel_rfl)) d107).map id id (fun _ => rfl) (fun _ => rfl) (fun _ h => h)
def G97 (x : NodeT) : Prop := G9 x.name ∧ G3 x.parent ∧ G4 x.abs ∧ G95 x.attrs ∧ True
theorem d97 : Dec Go.Proofs.Tryz.prog w enc 97 4 (fun x : NodeT => [.val (.string x.name), .val (.int .i64 x.parent), .val (.bool x.abs), .lst (x.attrs.map encAttr)]) G97 :=
  (Dec.struct Go.Proofs.Tryz.underlying97 (by kernel_rfl) (.cons rfl (by kernel_rfl) d9 (.cons rfl (by kernel_rfl) d3 (.cons rfl (by kernel_rfl) d4 (.cons rfl (by kernel_rfl) d95 (.nil _)))))).map (fun x => ⟨x.1, x.2.1, x.2.2.1, x.2.2.2.1⟩) (fun a => (a.name, a.parent, a.abs, a.attrs, ())) (fun _ => rfl) (fun _ => rfl) (fun _ h => h)
def G22 (l : List NodeT) : Prop := (∀ x ∈ l, G97 x) ∧ l.length ≤ reachBytes
theorem d22 : Dec Go.Proofs.Tryz.prog w enc 22 1 (fun l : List NodeT => [.lst (l.map encNode)]) G22 :=
  (Dec.slice Go.Proofs.Tryz.underlying22 (by kernel_rfl) (by decide) (of_decide_eq_true (by kernel_rfl)) d97).map id id (fun _ => rfl) (fun _ => rfl) (fun _ h => h)
def G99 (x : EdgeT) : Prop := G9 x.name ∧ G3 x.src ∧ G3 x.dst ∧ G3 x.outLow ∧ G3 x.outHigh ∧ G3 x.inLow ∧ G3 x.inHigh ∧ True
theorem d99 : Dec Go.Proofs.Tryz.prog w enc 99 7 (fun x : EdgeT => [.val (.string x.name), .val (.int .i64 x.src), .val (.int .i64 x.dst), .val (.int .i64 x.outLow), .val (.int .i64 x.outHigh), .val (.int .i64 x.inLow), .val (.int .i64 x.inHigh)]) G99 :=
  (Dec.struct Go.Proofs.Tryz.underlying99 (by kernel_rfl) (.cons rfl (by kernel_rfl) d9 (.cons rfl (by kernel_rfl) d3 (.cons rfl (by kernel_rfl) d3 (.cons rfl (by kernel_rfl) d3 (.cons rfl (by kernel_rfl) d3 (.cons rfl (by kernel_rfl) d3 (.cons rfl (by kernel_rfl) d3 (.nil _))))))))).map (fun x => ⟨x.1, x.2.1, x.2.2.1, x.2.2.2.1, x.2.2.2.2.1, x.2.2.2.2.2.1, x.2.2.2.2.2.2.1⟩) (fun a => (a.name, a.src, a.dst, a.outLow, a.outHigh, a.inLow, a.inHigh, ())) (fun _ => rfl) (fun _ => rfl) (fun _ h => h)
def G23 (l : List EdgeT) : Prop := (∀ x ∈ l, G99 x) ∧ l.length ≤ reachBytes
theorem d23 : Dec Go.Proofs.Tryz.prog w enc 23 1 (fun l : List EdgeT => [.lst (l.map encEdgeT)]) G23 :=
  (Dec.slice Go.Proofs.Tryz.underlying23 (by kernel_rfl) (by decide) (of_decide_eq_true (by kernel_rfl)) d99).map id id (fun _ => rfl) (fun _ => rfl) (fun _ h => h)
def G25 (x : Types) : Prop := G22 x.nodes ∧ G23 x.edges ∧ True
theorem d25 : Dec Go.Proofs.Tryz.prog w enc 25 2 (fun x : Types => [.lst (x.nodes.map encNode), .lst (x.edges.map encEdgeT)]) G25 :=
  (Dec.struct Go.Proofs.Tryz.underlying25 (by kernel_rfl) (.cons rfl (by kernel_rfl) d22 (.cons rfl (by kernel_rfl) d23 (.nil _)))).map (fun x => ⟨x.1, x.2.1⟩) (fun a => (a.nodes, a.edges, ())) (fun _ => rfl) (fun _ => rfl) (fun _ h => h)
def G26 (l : List Int) : Prop := (∀ x ∈ l, G3 x) ∧ l.length ≤ reachBytes
theorem d26 : Dec Go.Proofs.Tryz.prog w enc 26 1 (fun l : List Int => [.lst (l.map encI)]) G26 :=
  (Dec.slice Go.Proofs.Tryz.underlying26 (by kernel_rfl) (by decide) (of_decide_eq_true (by kernel_rfl)) d3).map id id (fun _ => rfl) (fun _ => rfl) (fun _ h => h)
def G28 (x : Sorts) : Prop := G26 x.nodes ∧ G26 x.edges ∧ True
theorem d28 : Dec Go.Proofs.Tryz.prog w enc 28 2 (fun x : Sorts => [.lst (x.nodes.map encI), .lst (x.edges.map encI)]) G28 :=
  (Dec.struct Go.Proofs.Tryz.underlying28 (by kernel_rfl) (.cons rfl (by kernel_rfl) d26 (.cons rfl (by kernel_rfl) d26 (.nil _)))).map (fun x => ⟨x.1, x.2.1⟩) (fun a => (a.nodes, a.edges, ())) (fun _ => rfl) (fun _ => rfl) (fun _ h => h)
def G30 (x : T_scarfjointlaw52_Case) : Prop := G25 x.t ∧ G28 x.s ∧ True
theorem d30 : Dec Go.Proofs.Tryz.prog w enc 30 4 (fun x : T_scarfjointlaw52_Case => [.lst (x.t.nodes.map encNode), .lst (x.t.edges.map encEdgeT), .lst (x.s.nodes.map encI), .lst (x.s.edges.map encI)]) G30 :=
  (Dec.struct Go.Proofs.Tryz.underlying30 (by kernel_rfl) (.cons rfl (by kernel_rfl) d25 (.cons rfl (by kernel_rfl) d28 (.nil _)))).map (fun x => ⟨x.1, x.2.1⟩) (fun a => (a.t, a.s, ())) (fun _ => rfl) (fun _ => rfl) (fun _ h => h)
def G73 (x : Edge) : Prop := G3 x.type ∧ G3 x.src ∧ G3 x.dst ∧ True
theorem d73 : Dec Go.Proofs.Tryz.prog w enc 73 3 (fun x : Edge => [.val (.int .i64 x.type), .val (.int .i64 x.src), .val (.int .i64 x.dst)]) G73 :=
  (Dec.struct Go.Proofs.Tryz.underlying73 (by kernel_rfl) (.cons rfl (by kernel_rfl) d3 (.cons rfl (by kernel_rfl) d3 (.cons rfl (by kernel_rfl) d3 (.nil _))))).map (fun x => ⟨x.1, x.2.1, x.2.2.1⟩) (fun a => (a.type, a.src, a.dst, ())) (fun _ => rfl) (fun _ => rfl) (fun _ h => h)
def G31 (l : List Edge) : Prop := (∀ x ∈ l, G73 x) ∧ l.length ≤ reachBytes
theorem d31 : Dec Go.Proofs.Tryz.prog w enc 31 1 (fun l : List Edge => [.lst (l.map encEdge)]) G31 :=
  (Dec.slice Go.Proofs.Tryz.underlying31 (by kernel_rfl) (by decide) (of_decide_eq_true (by kernel_rfl)) d73).map id id (fun _ => rfl) (fun _ => rfl) (fun _ h => h)
def G33 (x : Graph) : Prop := G26 x.nodes ∧ G31 x.edges ∧ True
theorem d33 : Dec Go.Proofs.Tryz.prog w enc 33 2 (fun x : Graph => [.lst (x.nodes.map encI), .lst (x.edges.map encEdge)]) G33 :=
  (Dec.struct Go.Proofs.Tryz.underlying33 (by kernel_rfl) (.cons rfl (by kernel_rfl) d26 (.cons rfl (by kernel_rfl) d31 (.nil _)))).map (fun x => ⟨x.1, x.2.1⟩) (fun a => (a.nodes, a.edges, ())) (fun _ => rfl) (fun _ => rfl) (fun _ h => h)
def G34 (l : List (List Int)) : Prop := (∀ x ∈ l, G26 x) ∧ l.length ≤ reachBytes
theorem d34 : Dec Go.Proofs.Tryz.prog w enc 34 1 (fun l : List (List Int) => [.lst (l.map encRow)]) G34 :=
  (Dec.slice Go.Proofs.Tryz.underlying34 (by kernel_rfl) (by decide) (of_decide_eq_true (by kernel_rfl)) d26).map id id (fun _ => rfl) (fun _ => rfl) (fun _ h => h)
def G36 (x : Host) : Prop := G33 x.graph ∧ G34 x.values ∧ True
theorem d36 : Dec Go.Proofs.Tryz.prog w enc 36 3 (fun x : Host => [.lst (x.graph.nodes.map encI), .lst (x.graph.edges.map encEdge), .lst (x.values.map encRow)]) G36 :=
  (Dec.struct Go.Proofs.Tryz.underlying36 (by kernel_rfl) (.cons rfl (by kernel_rfl) d33 (.cons rfl (by kernel_rfl) d34 (.nil _)))).map (fun x => ⟨x.1, x.2.1⟩) (fun a => (a.graph, a.values, ())) (fun _ => rfl) (fun _ => rfl) (fun _ h => h)
set_option maxRecDepth 100000 in
theorem lift_TriplePair (l : ∀ (a0 : T_scarfjointlaw52_Case) (a1 : Host) (a2 : Host), G30 a0 → G36 a1 → G36 a2 → f_scarfjointlaw52_TriplePair a0 a1 a2 = some true) : Rows.TriplePairSaid :=
  OpenClaim.holds_of_wide 5 Go.Proofs.Tryz.f5 rfl rfl rfl rfl rfl rfl rfl ⟨rfl, rfl, rfl, rfl, rfl⟩ rfl rfl rfl rfl rfl (by kernel_rfl) Go.Proofs.Tryz.func5 (by kernel_rfl)
    (of_decide_eq_true (by kernel_rfl)) (by unfold Func.isWrapper; first | (rw [if_pos (by decide +kernel)]; kernel_rfl) | (rw [if_neg (by decide +kernel)]; exact ⟨rfl, rfl⟩))
    (fun os started H enc _ => law_true (C := Go.Proofs.Tryz.checked) (α := T_scarfjointlaw52_Case × Host × Host × Unit) (e := fun x => [.agg [.lst (x.1.t.nodes.map encNode), .lst (x.1.t.edges.map encEdgeT), .lst (x.1.s.nodes.map encI), .lst (x.1.s.edges.map encI)], .agg [.lst (x.2.1.graph.nodes.map encI), .lst (x.2.1.graph.edges.map encEdge), .lst (x.2.1.values.map encRow)], .agg [.lst (x.2.2.1.graph.nodes.map encI), .lst (x.2.2.1.graph.edges.map encEdge), .lst (x.2.2.1.values.map encRow)]]) (G := fun x => G30 x.1 ∧ G36 x.2.1 ∧ G36 x.2.2.1 ∧ True) (s := Rows.triplePairSpec) (conds := Rows.triplePairRow.domain) (by kernel_rfl) (by kernel_rfl) started (by kernel_rfl) Go.Proofs.Tryz.func5
      (ChangeSpec.witness6 (enc := enc) (C := Go.Proofs.Tryz.checked) false ⟨#[], #[.agg #[.slice none 0 0, .slice none 0 0, .slice none 0 0, .slice none 0 0], .agg #[.slice none 0 0, .slice none 0 0, .slice none 0 0], .agg #[.slice none 0 0, .slice none 0 0, .slice none 0 0]], []⟩ 8 (by kernel_rfl) (by kernel_rfl) (by kernel_rfl) (by kernel_rfl))
      rfl Go.Proofs.Tryz.underlying4 rfl (fun ds hl => by match ds, hl with | [d0, d1, d2], _ => exact ⟨rfl, rfl, rfl⟩) (fun W => by
      rw [Go.Proofs.Tryz.params5]
      exact (.cons (show DecV Go.Proofs.Tryz.prog W enc 30 (fun x : T_scarfjointlaw52_Case => .agg [.lst (x.t.nodes.map encNode), .lst (x.t.edges.map encEdgeT), .lst (x.s.nodes.map encI), .lst (x.s.edges.map encI)]) G30 from DecV.struct Go.Proofs.Tryz.underlying30 d30 (by kernel_rfl) (of_decide_eq_true (by kernel_rfl)))
      (.cons (show DecV Go.Proofs.Tryz.prog W enc 36 (fun x : Host => .agg [.lst (x.graph.nodes.map encI), .lst (x.graph.edges.map encEdge), .lst (x.values.map encRow)]) G36 from DecV.struct Go.Proofs.Tryz.underlying36 d36 (by kernel_rfl) (of_decide_eq_true (by kernel_rfl)))
      (.cons (show DecV Go.Proofs.Tryz.prog W enc 36 (fun x : Host => .agg [.lst (x.graph.nodes.map encI), .lst (x.graph.edges.map encEdge), .lst (x.values.map encRow)]) G36 from DecV.struct Go.Proofs.Tryz.underlying36 d36 (by kernel_rfl) (of_decide_eq_true (by kernel_rfl)))
      .nil)))) (fun x h => w_scarfjointlaw52_TriplePair x.1 x.2.1 x.2.2.1 true (l x.1 x.2.1 x.2.2.1 h.1 h.2.1 h.2.2.1)))
end Go.Proofs.YtdlohnchnneaeaaGreat
