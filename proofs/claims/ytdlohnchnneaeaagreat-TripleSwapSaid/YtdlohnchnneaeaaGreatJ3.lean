/- Joined texts, part 3: lemmas for the statement. No condition. -/
import Derived.Test.YtdlohnchnneaeaaGreatJ2
import Derived.Test.YtdlohnchnneaeaaGreatJ1
import Derived.Shelf.SlSortCmp.NoneTotal
import Derived.Ground.SlsfProg
import Derived.Test.YtdlohnchnneaeaaGreatProg
import Derived.KernelRfl
import Derived.Lib.Bytealg
set_option linter.unusedSimpArgs false
set_option linter.unusedVariables false
/- Equations by which simp evaluates: new rows, results that the caller owns. Program-independent. -/
namespace Go.Abs
open Go.RowKit

variable {P : Program} {own : List Nat} {env : Env} {H : AHeap}

/-! ### A drawn region in an order of one's own -/
def permL (l : List Oper) : List (Nat × Cls) → List (Oper × Cls)
  | [] => []
  | (i, c) :: r => (match l[i]? with
    | some o => (o, c) :: permL l r
    | none => permL l r)
theorem permL_nil (l : List Oper) : permL l [] = [] := rfl
theorem permL_cons (l : List Oper) (i : Nat) (c : Cls) (r : List (Nat × Cls)) : permL l ((i, c) :: r) = (match l[i]? with
    | some o => (o, c) :: permL l r
    | none => permL l r) := rfl
theorem permL_fst (l : List Oper) : ∀ pc : List (Nat × Cls), (permL l pc).map (·.1) = pc.filterMap (fun x => l.toArray[x.1]?)
  | [] => rfl
  | (i, c) :: r => by
    rw [permL_cons, List.filterMap_cons]
    cases h : l[i]? with
    | none => simp [h, permL_fst l r]
    | some o => simp [h, permL_fst l r]
theorem permL_snd (l : List Oper) : ∀ pc : List (Nat × Cls), (pc.all fun x => decide (x.1 < l.length)) = true → (permL l pc).map (·.2) = pc.map (·.2)
  | [], _ => rfl
  | (i, c) :: r, h => by
    simp only [List.all_cons, Bool.and_eq_true, decide_eq_true_eq] at h
    rw [permL_cons, List.getElem?_eq_getElem h.1]
    simp [permL_snd l r h.2]
def permOk (N : Nat) (own : List Nat) (l : List Oper) (pc : List (Nat × Cls)) : Bool := drawOk own l.toArray (masks l.toArray) pc && dstsOk N l.toArray && clsOk l.toArray (permL l pc) && pc.all fun x => decide (x.1 < l.length)
theorem draw_my {N : Nat} {K : Env → AHeap → Prop} {l : List Oper} (pc : List (Nat × Cls)) (hok : permOk N own l pc = true) (hw : walkD P N own l.toArray (permL l pc) K env H) : drawW P N own l.toArray K env H := by
  unfold permOk at hok
  rw [Bool.and_eq_true, Bool.and_eq_true] at hok
  exact draw_perm (masks l.toArray) pc hok.1.1 (permL l pc) hok.1.2 (permL_fst l pc) (permL_snd l pc hok.2) hw

/-! ### New rows -/
def nG (c : Option Chunk) (r : Option (Prop × AV × AHeap)) : Option (Prop × AV × AHeap) := match c with
  | some _ => none
  | none => r
theorem nG_some (c : Chunk) (r : Option (Prop × AV × AHeap)) : nG (some c) r = none := rfl
theorem orE_some (r : Prop × AV × AHeap) (b : Bool) (y : Option (Prop × AV × AHeap)) : orE (some r) b y = some r := rfl
theorem orE_t (y : Option (Prop × AV × AHeap)) : orE none true y = y := rfl
theorem orE_f (y : Option (Prop × AV × AHeap)) : orE none false y = none := rfl
theorem isApp_lit (t : TypeId) (n : Nat) (ps : Array (Nat × Operand)) : isApp (.buildSlice t n ps) = false := rfl
theorem isApp_make (t : TypeId) (a b : Operand) : isApp (.makeSlice t a b) = false := rfl
theorem isApp_app (xs : Array Operand) (ts : Array TypeId) : isApp (.call ⟨.builtin .append, xs, ts⟩) = true := rfl
theorem isApp_call (f : Operand) (xs : Array Operand) (ts : Array TypeId) : isApp (.call ⟨.value f, xs, ts⟩) = false := rfl
theorem nG_none (r : Option (Prop × AV × AHeap)) : nG none r = r := rfl
def nLit (P : Program) (r : Option (TypeId × List (List PV))) (d : Nat) (H : AHeap) : Option (Prop × AV × AHeap) := match r with
  | some (e, es) => (match tySize P e with
    | some sz => some (True, .row d 0, hset H d (.row 0 e sz es))
    | none => none)
  | none => none
theorem nLit_some (e : TypeId) (es : List (List PV)) (d : Nat) : nLit P (some (e, es)) d H = (match tySize P e with
    | some sz => some (True, .row d 0, hset H d (.row 0 e sz es))
    | none => none) := rfl
def nMake (P : Program) (e : Option TypeId) (a b : AV) (d : Nat) (H : AHeap) : Option (Prop × AV × AHeap) := match a, b, e with
  | .p (.val (.int _ n)), .p (.val (.int _ m)), some e => (match tySize P e, tyZero P e, tyBytes P e with
        | some sz, some zs, some by' => if zs.length = sz ∧ 0 < sz ∧ 0 < by' ∧ zs.all (·.oneCell') = true then
            some ((0 ≤ n ∧ m = n) ∧ n * by' ≤ 140737488355328, .row d 0, hset H d (.row 0 e sz (List.replicate n.toNat (zs.map PV.val)))) else none
        | _, _, _ => none)
  | _, _, _ => none
theorem nMake_some (k k' : IntKind) (n m : Int) (e : TypeId) (d : Nat) : nMake P (some e) (.p (.val (.int k n))) (.p (.val (.int k' m))) d H = (match tySize P e, tyZero P e, tyBytes P e with
        | some sz, some zs, some by' => if zs.length = sz ∧ 0 < sz ∧ 0 < by' ∧ zs.all (·.oneCell') = true then
            some ((0 ≤ n ∧ m = n) ∧ n * by' ≤ 140737488355328, .row d 0, hset H d (.row 0 e sz (List.replicate n.toNat (zs.map PV.val)))) else none
        | _, _, _ => none) := rfl
def nApp (a : AV) (ty : Option (TypeId × Nat × Nat)) (b : Option (List (List PV))) (d : Nat) (H : AHeap) : Option (Prop × AV × AHeap) := match a, ty, b with
  | .p (.val (.slice none 0 0)), some (e, sz, by'), some es => some (es.length * by' ≤ 140737488355328 ∧ ∀ x ∈ es, x.length = sz, .row d 0, hset H d (.row 0 e sz es))
  | _, _, _ => none
theorem nApp_row (i v : Nat) (ty : Option (TypeId × Nat × Nat)) (b : Option (List (List PV))) (d : Nat) : nApp (.row i v) ty b d H = none := rfl
theorem nApp_some (e : TypeId) (sz by' : Nat) (es : List (List PV)) (d : Nat) : nApp (.p (.val (.slice none 0 0))) (some (e, sz, by')) (some es) d H = some (es.length * by' ≤ 140737488355328 ∧ ∀ x ∈ es, x.length = sz, .row d 0, hset H d (.row 0 e sz es)) := rfl
section
variable (dd : Option Tmp) (ty : TypeId) (pos : String) (af : Array Edge) (g : Option (Nat × Bool)) (ρ : Operand → AV)
theorem exN_lit (t : TypeId) (n : Nat) (ps : Array (Nat × Operand)) (d : Nat) : exN P ⟨dd, .buildSlice t n ps, ty, pos, af, g⟩ ρ H d = nG (H d) (nLit P (bsliceE P t n (ps.toList.map fun x => (x.1, ρ x.2))) d H) := by
  unfold exN nG nLit
  cases H d with
  | some c => rfl
  | none => rfl
theorem exN_make (t : TypeId) (l c : Operand) (d : Nat) : exN P ⟨dd, .makeSlice t l c, ty, pos, af, g⟩ ρ H d = nG (H d) (nMake P (slElem P t) (ρ l) (ρ c) d H) := by
  unfold exN nG nMake
  cases H d with
  | some c => rfl
  | none => rfl
theorem exN_app (t1 t2 : TypeId) (a b : Operand) (d : Nat) : exN P ⟨dd, .call ⟨.builtin .append, #[a, b], #[t1, t2]⟩, ty, pos, af, g⟩ ρ H d = nG (H d) (nApp (ρ a) (appTypes P t1 t2) (srcOf H (ρ b)) d H) := by
  unfold exN nG nApp
  cases H d with
  | some c => rfl
  | none => rfl
end

/-! ### Results that the caller owns -/
def retFA (H : AHeap) (Q : RV → Prop) (a : Option AV) : Prop := match a with
  | some a => (match rvOf H a with
      | some (r, ids) => ids.Nodup ∧ ∃ r', RLe r r' ∧ Q r'
      | none => False)
  | none => False
theorem retF_normal (rs : List ResultVar) (Q : RV → Prop) : retF P rs Q .normal env H = retFA H Q (resAV P env H rs) := rfl
theorem retF_ret (rs : List ResultVar) (Q : RV → Prop) : retF P rs Q .ret env H = retFA H Q (resAV P env H rs) := rfl
def retFB (Q : RV → Prop) (x : Option (RV × List Nat)) : Prop := match x with
      | some (r, ids) => ids.Nodup ∧ ∃ r', RLe r r' ∧ Q r'
      | none => False
theorem retFA_some (a : AV) (Q : RV → Prop) : retFA H Q (some a) = retFB Q (rvOf H a) := rfl
theorem retFB_some (Q : RV → Prop) (r : RV) (ids : List Nat) : retFB Q (some (r, ids)) = (ids.Nodup ∧ ∃ r', RLe r r' ∧ Q r') := rfl
theorem rvOf_p (x : PV) : rvOf H (.p x) = some (.p x, []) := by simp only [rvOf]
def rvR (c : Option Chunk) (id ver : Nat) : Option (RV × List Nat) := match c with
    | some (.row v e sz es) => if v = ver then some (.row e sz es, [id]) else none
    | some (.shut v es) => if v = ver then some (.p (.lst es), []) else none
    | _ => none
theorem rvOf_row (id ver : Nat) : rvOf H (.row id ver) = rvR (H id) id ver := by
  unfold rvR
  simp only [rvOf]
  rfl
theorem rvR_row (v : Nat) (e : TypeId) (sz : Nat) (es : List (List PV)) (id ver : Nat) : rvR (some (.row v e sz es)) id ver = if v = ver then some (.row e sz es, [id]) else none := rfl
theorem rvR_shut (v : Nat) (es : List (List PV)) (id ver : Nat) : rvR (some (.shut v es)) id ver = if v = ver then some (.p (.lst es), []) else none := rfl
theorem rvOf_agg (cs : List AV) : rvOf H (.agg cs) = (match rvOfL H cs with
    | some (rs, ids) => some (.agg rs, ids)
    | none => none) := by simp only [rvOf]; rfl
theorem rvOf_tup (cs : List AV) : rvOf H (.tup cs) = (match rvOfL H cs with
    | some (rs, ids) => some (.tup rs, ids)
    | none => none) := by simp only [rvOf]; rfl
theorem rvOfL_nil : rvOfL H [] = some ([], []) := by simp only [rvOfL]
theorem rvOfL_cons (a : AV) (r : List AV) : rvOfL H (a :: r) = (match rvOf H a, rvOfL H r with
    | some (x, i), some (xs, j) => some (x :: xs, i ++ j)
    | _, _ => none) := by simp only [rvOfL]; rfl
theorem placeA_p (k : Nat) (x : PV) : placeA k (.p x) = (.p x, k) := by simp only [placeA]
theorem placeA_row (k : Nat) (e : TypeId) (sz : Nat) (es : List (List PV)) : placeA k (.row e sz es) = (.row k 0, k + 1) := by simp only [placeA]
theorem placeA_agg (k : Nat) (rs : List RV) : placeA k (.agg rs) = (mkAgg (placeL k rs).1, (placeL k rs).2) := by simp only [placeA]
theorem placeA_tup (k : Nat) (rs : List RV) : placeA k (.tup rs) = (.tup (placeL k rs).1, (placeL k rs).2) := by simp only [placeA]
theorem placeL_nil (k : Nat) : placeL k [] = ([], k) := by simp only [placeL]
theorem placeL_cons (k : Nat) (r : RV) (rs : List RV) : placeL k (r :: rs) = ((placeA k r).1 :: (placeL (placeA k r).2 rs).1, (placeL (placeA k r).2 rs).2) := by simp only [placeL]
theorem placeH_p (k : Nat) (x : PV) : placeH k H (.p x) = H := by simp only [placeH]
theorem placeH_row (k : Nat) (e : TypeId) (sz : Nat) (es : List (List PV)) : placeH k H (.row e sz es) = hset H k (.row 0 e sz es) := by simp only [placeH]
theorem placeH_agg (k : Nat) (rs : List RV) : placeH k H (.agg rs) = placeHL k H rs := by simp only [placeH]
theorem placeH_tup (k : Nat) (rs : List RV) : placeH k H (.tup rs) = placeHL k H rs := by simp only [placeH]
theorem placeHL_nil (k : Nat) : placeHL k H [] = H := by simp only [placeHL]
theorem placeHL_cons (k : Nat) (r : RV) (rs : List RV) : placeHL k H (r :: rs) = placeHL (placeA k r).2 (placeH k H r) rs := by simp only [placeHL]

/-- The next ids are free. -/
def freeN (H : AHeap) (id : Nat) : Nat → Prop
  | 0 => True
  | n + 1 => H id = none ∧ freeN H (id + 1) n
theorem freeN_zero (id : Nat) : freeN H id 0 = True := rfl
theorem freeN_succ (id n : Nat) : freeN H id (n + 1) = (H id = none ∧ freeN H (id + 1) n) := rfl
theorem freeN_one (id : Nat) : freeN H id 1 = (H id = none ∧ True) := rfl
theorem freeN_two (id : Nat) : freeN H id 2 = (H id = none ∧ H (id + 1) = none ∧ True) := rfl
theorem freeN_three (id : Nat) : freeN H id 3 = (H id = none ∧ H (id + 1) = none ∧ H (id + 1 + 1) = none ∧ True) := rfl
theorem freeN_four (id : Nat) : freeN H id 4 = (H id = none ∧ H (id + 1) = none ∧ H (id + 1 + 1) = none ∧ H (id + 1 + 1 + 1) = none ∧ True) := rfl
theorem freeN_spec : ∀ (n id : Nat), freeN H id n → ∀ i, id ≤ i → i < id + n → H i = none
  | 0, id, _, i, h1, h2 => by omega
  | n + 1, id, h, i, h1, h2 => by
    by_cases e : i = id
    · rw [e]; exact h.1
    · exact freeN_spec n (id + 1) h.2 i (by omega) (by omega)

section
variable {o : Oper} {W : Env → AHeap → Prop} {k : FuncId} {ps : List PV} {b : Bool}
theorem callPs_split (he : callPs o (ev env) H = some (k, ps, b)) : ∃ als, callArgs o (ev env) = some (k, als) ∧ lendL (lend1 H) als = some (ps, b) := by
  unfold callPs at he
  cases ha : callArgs o (ev env) with
  | none => rw [ha] at he; cases he
  | some r =>
    obtain ⟨k', als⟩ := r
    rw [ha] at he
    simp only [] at he
    cases hl : lendL (lend1 H) als with
    | none => rw [hl] at he; cases he
    | some q =>
      obtain ⟨ps', b'⟩ := q
      rw [hl] at he
      simp only [Option.some.injEq, Prod.mk.injEq] at he
      obtain ⟨rfl, rfl, rfl⟩ := he
      exact ⟨als, rfl, hl⟩
theorem callf_rel (ids : List Nat) (id : Nat) {Q : RV → Prop} (c : CallF P k ps Q) (he : callPs o (ev env) (sealIds ids H) = some (k, ps, b))
    (hW : ∀ r, Q r → (b = true → r.flat = true) ∧ freeN (sealIds ids H) id ((placeA id r).2 - id) ∧ W (putA env o.dst (placeA id r).1) (placeH id (sealIds ids H) r)) : callK P o W env H := by
  obtain ⟨als, h1, h2⟩ := callPs_split he
  refine .inr (.inr ⟨ids, .inl ⟨k, als, ps, b, Q, id, h1, h2, c, fun r hr => ?_⟩⟩)
  obtain ⟨q1, q2, q3⟩ := hW r hr
  exact ⟨q1, fun i hi1 hi2 => freeN_spec _ id q2 i hi1 (by omega), q3⟩
theorem callf_go (id : Nat) {r : RV} (c : CallF P k ps fun x => x = r) (he : callPs o (ev env) H = some (k, ps, b)) (hb : b = true → r.flat = true)
    (hf : freeN H id ((placeA id r).2 - id)) (hW : W (putA env o.dst (placeA id r).1) (placeH id H r)) : callK P o W env H :=
  callf_rel [] id c he fun x hx => by subst hx; exact ⟨hb, hf, hW⟩
theorem callf_shut (ids : List Nat) (id : Nat) {r : RV} (c : CallF P k ps fun x => x = r) (he : callPs o (ev env) (sealIds ids H) = some (k, ps, b)) (hb : b = true → r.flat = true)
    (hf : freeN (sealIds ids H) id ((placeA id r).2 - id)) (hW : W (putA env o.dst (placeA id r).1) (placeH id (sealIds ids H) r)) : callK P o W env H :=
  callf_rel ids id c he fun x hx => by subst hx; exact ⟨hb, hf, hW⟩
/-- A call that writes the row it is lent. -/
theorem callm_rel (ids : List Nat) {id v : Nat} {e : TypeId} {sz : Nat} {es : List (List PV)} {als : List AV} {Q : AV → Option Chunk → Prop} (c : CallM P k v e sz es ps Q) (ha : callArgs o (ev env) = some (k, .row id v :: als)) (hH : sealIds ids H id = some (.row v e sz es))
    (he : lendL (lend1 (hdel (sealIds ids H) id)) als = some (ps, b))
    (hW : ∀ a c, Q a c → ∃ v' e' sz' es' a', c = some (.row v' e' sz' es') ∧ backA id a = some a' ∧ (b = true → (es'.all fun x => x.all isVal) = true ∧ (match a' with | .p x => x.scalar | _ => true) = true) ∧ W (putA env o.dst a') (hset (sealIds ids H) id (.row v' e' sz' es'))) : callK P o W env H :=
  .inr (.inr ⟨ids, .inr ⟨k, id, v, e, sz, es, als, ps, b, Q, ha, hH, he, c, hW⟩⟩)
/-- The same, where nothing is handed back and the row keeps its place. -/
theorem callm_go {id v : Nat} {e : TypeId} {sz : Nat} {es es' : List (List PV)} {als : List AV} (c : CallM P k v e sz es ps fun a c => a = .tup [] ∧ c = some (.row v e sz es')) (ha : callArgs o (ev env) = some (k, .row id v :: als)) (hH : H id = some (.row v e sz es))
    (he : lendL (lend1 (hdel H id)) als = some (ps, b)) (hb : b = true → (es'.all fun x => x.all isVal) = true) (hW : W (putA env o.dst (.tup [])) (hset H id (.row v e sz es'))) : callK P o W env H :=
  callm_rel [] c ha hH he fun a c ⟨h1, h2⟩ => by
    subst h1 h2
    exact ⟨v, e, sz, es', .tup [], rfl, rfl, fun h => ⟨hb h, rfl⟩, hW⟩
theorem persF {r : RV} : false = true → r.flat = true := fun h => by cases h
theorem flatF {b : Bool} {r : RV} (h : r.flat = true) : b = true → r.flat = true := fun _ => h
end

def callA2 (f : AV) (als : List AV) : Option (FuncId × List AV) := match f with
  | .p (.clo (.func k) fs cs) => some (k, fs.map AV.p ++ als ++ cs.map AV.p)
  | .clo (.func k) fs cs => some (k, fs ++ als ++ cs)
  | _ => none
theorem CallF.toL {f : FuncId} {args : List PV} {e : TypeId} {sz : Nat} {es : List (List PV)} (h : CallF P f args fun r => r = .row e sz es) : CallV P f args fun x => x = .lst es :=
  h.toV1.mono fun x hx => by rw [hx]; simp only [RV.pv]
/-! ### A body that is lent a row -/
def argsG : Option AV → AV
  | some a => a
  | none => .dead
theorem argsA_at (als : List AV) (t : Nat) : argsA als t = argsG als[t]? := by
  unfold argsA argsG
  cases als[t]? <;> rfl
theorem argsG_some (a : AV) : argsG (some a) = a := rfl
theorem argsG_none : argsG none = .dead := rfl
def retMA (H : AHeap) (Q : AV → Option Chunk → Prop) (a : Option AV) : Prop := match a with
  | some a => Q a (H 1000000)
  | none => False
theorem retM_normal (rs : List ResultVar) (Q : AV → Option Chunk → Prop) : retM P rs Q .normal env H = retMA H Q (resAV P env H rs) := rfl
theorem retM_ret (rs : List ResultVar) (Q : AV → Option Chunk → Prop) : retM P rs Q .ret env H = retMA H Q (resAV P env H rs) := rfl
theorem retMA_some (a : AV) (Q : AV → Option Chunk → Prop) : retMA H Q (some a) = Q a (H 1000000) := rfl
theorem resAV_nil : resAV P env H [] = some (.tup []) := rfl
theorem hdel_at (id i : Nat) : hdel H id i = if i = id then none else H i := rfl
theorem callArgs_value (d : Option Tmp) (t : TypeId) (pos : String) (af : Array Edge) (g : Option (Nat × Bool)) (f : Operand) (xs : Array Operand) (ts : Array TypeId) (ρ : Operand → AV) :
    callArgs ⟨d, .call ⟨.value f, xs, ts⟩, t, pos, af, g⟩ ρ = callA2 (ρ f) (xs.toList.map ρ) := by
  unfold callArgs callA2
  simp only []
  generalize ρ f = v
  cases v with
  | p x => cases x with
    | clo fn fs cs => cases fn <;> rfl
    | _ => rfl
  | clo fn fs cs => cases fn <;> rfl
  | _ => rfl
theorem callA2_p (k : FuncId) (fs cs : List PV) (als : List AV) : callA2 (.p (.clo (.func k) fs cs)) als = some (k, fs.map AV.p ++ als ++ cs.map AV.p) := rfl
theorem callA2_clo (k : FuncId) (fs cs als : List AV) : callA2 (.clo (.func k) fs cs) als = some (k, fs ++ als ++ cs) := rfl
/-- A list that may have nothing in it: by its value then. -/
theorem VR.lst_nil {I : Mem} {v : Value} (h : VR I v (.lst [])) : ∃ ao cap, v = .slice ao 0 cap ∧ VR I v (.val (.slice ao 0 cap)) := by
  cases h with
  | lst ao n cap _ us sz hn =>
    simp only [List.length_nil] at hn
    subst hn
    exact ⟨ao, cap, rfl, .val _ rfl⟩
theorem CallF.lst_nil {f : FuncId} {rest : List PV} {Q : RV → Prop} (hc : callable P f = true) (h : ∀ ao cap, CallF P f (.val (.slice ao 0 cap) :: rest) Q) : CallF P f (.lst [] :: rest) Q := by
  refine ⟨hc, fun I w vs hI hv => ?_⟩
  cases vs with
  | nil => have := hv.1; simp at this
  | cons v vs =>
    obtain ⟨ao, cap, rfl, h1⟩ := (hv.2 0 v _ rfl rfl).lst_nil
    refine (h ao cap).2 I w _ hI ⟨by simpa using hv.1, fun j u c hu hc => ?_⟩
    cases j with
    | zero => simp at hu hc; subst hu hc; exact h1
    | succ j => exact hv.2 (j + 1) u c hu hc
theorem CallV.lst_nil {f : FuncId} {rest : List PV} {Q : PV → Prop} (hc : callable P f = true) (h : ∀ ao cap, CallV P f (.val (.slice ao 0 cap) :: rest) Q) : CallV P f (.lst [] :: rest) Q := by
  refine ⟨hc, fun I w vs hI hv => ?_⟩
  cases vs with
  | nil => have := hv.1; simp at this
  | cons v vs =>
    obtain ⟨ao, cap, rfl, h1⟩ := (hv.2 0 v _ rfl rfl).lst_nil
    refine (h ao cap).2 I w _ hI ⟨by simpa using hv.1, fun j u c hu hc => ?_⟩
    cases j with
    | zero => simp at hu hc; subst hu hc; exact h1
    | succ j => exact hv.2 (j + 1) u c hu hc
theorem sealIds_nil : sealIds [] H = H := rfl
theorem sealIds_cons (id : Nat) (r : List Nat) : sealIds (id :: r) H = sealIds r (seal1 H id) := rfl
def sealC (H : AHeap) (id : Nat) (c : Option Chunk) : AHeap := match c with
  | some (.row v _ _ es) => hset H id (.shut v es)
  | _ => H
theorem seal1_eq (id : Nat) : seal1 H id = sealC H id (H id) := rfl
theorem sealC_row (id v : Nat) (e : TypeId) (sz : Nat) (es : List (List PV)) : sealC H id (some (.row v e sz es)) = hset H id (.shut v es) := rfl

attribute [go_sem] argsA_at argsG_some argsG_none retM_normal retM_ret retMA_some resAV_nil hdel_at callArgs_value callA2_p callA2_clo permL_nil permL_cons exAll_own exAll_none nG_some nApp_row orE_some orE_t orE_f isApp_lit isApp_make isApp_app isApp_call nG_none nLit_some nMake_some nApp_some exN_lit exN_make exN_app retF_normal retF_ret retFA_some retFB_some rvOf_p rvOf_row rvR_row rvR_shut rvOf_agg rvOf_tup rvOfL_nil rvOfL_cons
  placeA_p placeA_row placeA_agg placeA_tup placeL_nil placeL_cons placeH_p placeH_row placeH_agg placeH_tup placeHL_nil placeHL_cons freeN_zero freeN_one freeN_two freeN_three freeN_four sealIds_nil sealIds_cons seal1_eq sealC_row Nat.add_sub_cancel_left Nat.sub_self
end Go.Abs
/- Results that are read in a weaker way: nil as a list with nothing in it, inside structures too. Program-independent. -/
namespace Go.Abs
open Go.RowKit

variable {P : Program}

theorem PLes.len : ∀ {ps' ps : List PV}, PLes ps' ps → ps'.length = ps.length
  | [], [], _ => rfl
  | [], _ :: _, h => h.elim
  | _ :: _, [], h => h.elim
  | _ :: _, _ :: _, h => by simp [PLes.len h.2]
theorem PLes.at : ∀ {ps' ps : List PV}, PLes ps' ps → ∀ {j : Nat} {c : PV}, ps[j]? = some c → ∃ c', ps'[j]? = some c' ∧ PLe c' c
  | [], [], _, _, _, h => by simp at h
  | [], _ :: _, h, _, _, _ => h.elim
  | _ :: _, [], h, _, _, _ => h.elim
  | a :: r, b :: s, h, j, c, hc => by
    cases j with
    | zero =>
      simp at hc
      subst hc
      exact ⟨a, rfl, h.1⟩
    | succ j =>
      obtain ⟨c', h1, h2⟩ := PLes.at h.2 (j := j) (c := c) (by simpa using hc)
      exact ⟨c', by simpa using h1, h2⟩
theorem PLe.agg {ps' ps : List PV} (h : PLes ps' ps) : PLe (.agg ps') (.agg ps) := fun I v hv => by
  cases hv with
  | agg us _ hl hv hone =>
    refine .agg us ps (hl.trans h.len) (fun j u c hu hc => ?_) hone
    obtain ⟨c', h1, h2⟩ := h.at hc
    exact h2 I u (hv j u c' hu h1)
theorem PLe.tup {ps' ps : List PV} (h : PLes ps' ps) : PLe (.tup ps') (.tup ps) := fun I v hv => by
  cases hv with
  | tup us _ hl hv =>
    refine .tup us ps (hl.trans h.len) (fun j u c hu hc => ?_)
    obtain ⟨c', h1, h2⟩ := h.at hc
    exact h2 I u (hv j u c' hu h1)
theorem PLes.refl : ∀ ps : List PV, PLes ps ps
  | [] => trivial
  | a :: r => ⟨PLe.refl a, PLes.refl r⟩
theorem CallV.le {f : FuncId} {args : List PV} {Q Q' : PV → Prop} (h : CallV P f args Q) (hq : ∀ r, Q r → ∃ r', PLe r r' ∧ Q' r') : CallV P f args Q' :=
  ⟨h.1, fun I w vs hI hv => (h.2 I w vs hI hv).mono fun _ _ ⟨v, r, I', h1, h2, h3, h4⟩ => by
    obtain ⟨r', h5, h6⟩ := hq r h2
    exact ⟨v, r', I', h1, h6, h5 _ _ h3, h4⟩⟩
end Go.Abs
/- The same, inside lists. Program-independent. -/
namespace Go.Abs
open Go.RowKit

theorem PLe.lst {es' es : List (List PV)} (hl : es'.map (·.length) = es.map (·.length)) (hf : PLes es'.flatten es.flatten) : PLe (.lst es') (.lst es) := fun I v hv => by
  cases hv with
  | lst ao n cap _ us sz hn hsz hu hv hone hm hnil hcap =>
    have hlen : es'.length = es.length := by have := congrArg List.length hl; simpa using this
    refine .lst ao _ cap es us sz (by rw [← hlen]; exact hn) (fun e he => ?_) (hu.trans hf.len) (fun j u c hu hc => ?_) hone hm hnil hcap
    · obtain ⟨i, hi, rfl⟩ := List.getElem_of_mem he
      have h1 : (es'.map (·.length))[i]? = (es.map (·.length))[i]? := by rw [hl]
      have hi' : i < es'.length := by omega
      simp only [List.getElem?_map, List.getElem?_eq_getElem hi, List.getElem?_eq_getElem hi', Option.map_some, Option.some.injEq] at h1
      rw [← h1]
      exact hsz _ (List.getElem_mem hi')
    · obtain ⟨c', h1, h2⟩ := hf.at hc
      exact h2 I u (hv j u c' hu h1)
end Go.Abs
/- Slices and structures that were read. Program-independent. -/
namespace Go.Abs
open Go.RowKit

variable {P : Program} {w : World} {H : Type} {enc : TypeId × Value → H}

theorem addr_add {a : Addr} (h : a.spot = none) (n : Nat) : a.add n = ⟨a.block, a.off + n, none⟩ := by
  obtain ⟨b, o, s⟩ := a
  simp only at h
  subst h
  unfold Addr.add
  split
  · rename_i hn; simp [hn]
  · rfl

theorem vr_slice {α : Type} {ec : α → List PV} {sz : Nat} (h0 : 0 < sz) (hlen : ∀ a, (ec a).length = sz) {a : Addr} {len cap : Nat} (hcap : len ≤ cap) {l : List (α × List Value)} (hl : l.length = len)
    (h : ∀ (i : Nat) (x : α × List Value), l[i]? = some x → w.cells? 0 (a.add (i * sz)) sz = some x.2 ∧ CellsR w x.2 (ec x.1)) : VR (snap w) (.slice (some a) len cap) (.lst ((l.map (·.1)).map ec)) := by
  have hall : ∀ e ∈ (l.map (·.1)).map ec, e.length = sz := fun e he => by
    obtain ⟨x, _, rfl⟩ := List.mem_map.1 he
    exact hlen x
  have hcs : ∀ c ∈ l.map (·.2), c.length = sz := fun c hc => by
    obtain ⟨x, hx, rfl⟩ := List.mem_map.1 hc
    obtain ⟨i, hi⟩ := List.mem_iff_getElem?.1 hx
    exact (cells_snap (h i x hi).1).1
  have at' : ∀ (j : Nat) u, (l.map (·.2)).flatten[j]? = some u → ∃ x, l[j / sz]? = some x ∧ x.2[j % sz]? = some u := fun j u hu => by
    have hj : j < (l.map (·.2)).flatten.length := (List.getElem?_eq_some_iff.1 hu).1
    rw [flatten_len hcs, List.length_map] at hj
    have hd : j / sz < l.length := (Nat.div_lt_iff_lt_mul h0).2 hj
    have e2 := flatten_get hcs (j / sz) (j % sz) (by simpa using hd) (Nat.mod_lt _ h0)
    rw [Nat.div_add_mod' j sz, hu] at e2
    refine ⟨l[j / sz], List.getElem?_eq_getElem hd, ?_⟩
    rw [e2]
    simp [hd]
  refine .lst (some a) len cap _ (l.map (·.2)).flatten sz (by simp [hl]) hall ?_ (fun j u c hu hc => ?_) (fun u hu => ?_) ?_ (by simp) hcap
  · rw [flatten_len hcs, flatten_len hall]
    simp
  · obtain ⟨x, hx, hxu⟩ := at' j u hu
    have hd : j / sz < l.length := (List.getElem?_eq_some_iff.1 hx).1
    have e2 := flatten_get hall (j / sz) (j % sz) (by simpa using hd) (Nat.mod_lt _ h0)
    rw [Nat.div_add_mod' j sz, hc] at e2
    have e3 : ((l.map (·.1)).map ec).getD (j / sz) [] = ec x.1 := by
      have : l[j / sz] = x := by
        have := List.getElem?_eq_getElem hd
        rw [hx] at this
        exact (Option.some.inj this).symm
      simp [hd, this]
    rw [e3] at e2
    exact (h _ x hx).2.2.1 _ u c hxu e2.symm
  · obtain ⟨c, hc, huc⟩ := List.mem_flatten.1 hu
    obtain ⟨x, hx, rfl⟩ := List.mem_map.1 hc
    obtain ⟨i, hi⟩ := List.mem_iff_getElem?.1 hx
    exact (h i x hi).2.2.2 u huc
  · by_cases hn : (l.map (·.2)).flatten = []
    · exact .inl hn
    · right
      have hpos : 0 < l.length := by
        rcases Nat.eq_zero_or_pos l.length with h' | h'
        · exact absurd (by rw [List.length_eq_zero_iff.1 h']; rfl) hn
        · exact h'
      have hsp : a.spot = none := by
        have hx := h 0 l[0] (List.getElem?_eq_getElem hpos)
        obtain ⟨k1, k2⟩ := cells_snap hx.1
        have h00 : 0 < l[0].2.length := by rw [k1]; exact h0
        have := k2 0 l[0].2[0] (List.getElem?_eq_getElem h00)
        have := spot_none this
        simpa [Addr.add] using this
      refine ⟨a.block, a.off, ?_, fun j u hu => ?_⟩
      · obtain ⟨b, o, s⟩ := a
        simp only at hsp
        subst hsp
        rfl
      · obtain ⟨x, hx, hxu⟩ := at' j u hu
        have := (cells_snap (h _ x hx).1).2 _ u hxu
        rw [addr_add hsp, addr_add rfl] at this
        simp only at this
        rw [Nat.add_assoc, Nat.div_add_mod' j sz] at this
        exact this

theorem Dec.slice {α : Type} {t e : TypeId} {sz : Nat} {ec : α → List PV} {G : α → Prop} (ht : P.underlying t = some (.slice e)) (hc : P.cellsOf e = sz) (h0 : 0 < sz) (hb : 0 < P.bytesOf e) (he : Dec P w enc e sz ec G) :
    Dec P w enc t 1 (fun l : List α => [.lst (l.map ec)]) (fun l => (∀ a ∈ l, G a) ∧ l.length ≤ reachBytes) :=
  ⟨fun _ => rfl, fun sp hd fuel cs x h hw => by
    rcases DataW.trod_slice ht h with ⟨rfl, rfl⟩ | ⟨a, len, cap, elems, rest, n, _, rfl, rfl, _, hle, _, hlen, hel, _, _⟩
    · exact ⟨[], ⟨by simp, by simp⟩, .one (.lst none 0 0 [] [] 1 rfl (by simp) rfl (by simp) (by simp) (.inl rfl) (fun _ => ⟨rfl, rfl⟩) (Nat.le_refl _)) rfl⟩
    · have hwt : ∀ k, k ∈ ((elems.map (·.1)).length + (rest.map (·.1)).length) * P.bytesOf e :: (DataW.weightsAll P e (elems.map (·.1)) ++ DataW.weightsAll P e (rest.map (·.1))) → k ≤ reachBytes := fun k hk => by
        refine hw k ?_
        simp only [DataW.weights, ht]
        exact hk
      obtain ⟨l, l1, l2⟩ := exists_list (n := len) (Q := fun i (x : α × List Value) => G x.1 ∧ w.cells? 0 (a.add (i * sz)) sz = some x.2 ∧ CellsR w x.2 (ec x.1)) fun i hi => by
        have h1 := hel i hi
        have hi' : i < elems.length := by omega
        rw [List.getElem?_eq_getElem hi', hc] at h1
        obtain ⟨cs', h2, h3⟩ := Option.bind_eq_some_iff.1 h1
        obtain ⟨b, h4, h5⟩ := he.dec sp hd n cs' _ h3 fun k hk => hwt k (List.mem_cons_of_mem _ (List.mem_append_left _ (weightsAll_mem (List.mem_map.2 ⟨elems[i], List.getElem_mem hi', rfl⟩) k hk)))
        exact ⟨(b, cs'), h4, h2, h5⟩
      refine ⟨l.map (·.1), ⟨fun b hb' => ?_, ?_⟩, .one (vr_slice h0 he.len hle l1 fun i x hx => (l2 i x hx).2) rfl⟩
      · obtain ⟨x, hx, rfl⟩ := List.mem_map.1 hb'
        obtain ⟨i, hi⟩ := List.mem_iff_getElem?.1 hx
        exact (l2 i x hi).1
      · have := hwt _ (List.mem_cons_self ..)
        rw [List.length_map, List.length_map, hlen] at this
        rw [List.length_map, l1]
        exact Nat.le_trans (Nat.le_trans (Nat.le_add_right len rest.length) (Nat.le_mul_of_pos_right _ hb)) this⟩

/-- Fields one behind the other, from some cell on. -/
structure DecFs (P : Program) (w : World) {H : Type} (enc : TypeId × Value → H) {α : Type} (fs : List Field) (off sz : Nat) (e : α → List PV) (G : α → Prop) : Prop where
  len : ∀ a, (e a).length = sz
  dec : ∀ (sp : Nat → Bool) (hd : Bool) (n : Nat) (cs : List Value) (ds : List (DataW H)), ds.length = fs.length → cs.length = off + sz → (∀ (i : Nat) f, fs[i]? = some f → ∃ ps, DataW.trod enc P w 0 sp hd n f.type ((cs.drop f.offset).take (P.cellsOf f.type)) = (ds[i]?).map fun d => (d, ps)) →
    (∀ k ∈ DataW.weightsEach P (fs.map (·.type)) ds, k ≤ reachBytes) → ∃ a, G a ∧ CellsR w (cs.drop off) (e a)

theorem DecFs.nil (off : Nat) : DecFs P w enc [] off 0 (fun _ : Unit => []) (fun _ => True) :=
  ⟨fun _ => rfl, fun sp hd n cs ds _ hl _ _ => ⟨(), trivial, by
    have : cs.drop off = [] := List.drop_eq_nil_of_le (by omega)
    rw [this]
    exact ⟨rfl, by simp, by simp⟩⟩⟩
theorem CellsR.append {cs ds : List Value} {ps qs : List PV} (h : CellsR w cs ps) (k : CellsR w ds qs) : CellsR w (cs ++ ds) (ps ++ qs) := by
  refine ⟨by simp [h.1, k.1], fun j u c hu hc => ?_, fun u hu => ?_⟩
  · rcases Nat.lt_or_ge j cs.length with hj | hj
    · rw [List.getElem?_append_left hj] at hu
      rw [List.getElem?_append_left (by rw [← h.1]; exact hj)] at hc
      exact h.2.1 j u c hu hc
    · rw [List.getElem?_append_right hj] at hu
      rw [List.getElem?_append_right (by rw [← h.1]; exact hj), ← h.1] at hc
      exact k.2.1 _ u c hu hc
  · rcases List.mem_append.1 hu with hu | hu
    · exact h.2.2 u hu
    · exact k.2.2 u hu
theorem DecFs.cons {α β : Type} {f : Field} {fs : List Field} {off sz sz' : Nat} {e : α → List PV} {G : α → Prop} {e' : β → List PV} {G' : β → Prop} (ho : f.offset = off) (hc : P.cellsOf f.type = sz) (h : Dec P w enc f.type sz e G) (hr : DecFs P w enc fs (off + sz) sz' e' G') :
    DecFs P w enc (f :: fs) off (sz + sz') (fun x : α × β => e x.1 ++ e' x.2) (fun x => G x.1 ∧ G' x.2) :=
  ⟨fun x => by rw [List.length_append, h.len, hr.len], fun sp hd n cs ds hl hcs hall hw => by
    match ds, hl with
    | [], hl => simp at hl
    | d :: ds, hl =>
      rw [List.map_cons, DataW.weightsEach] at hw
      obtain ⟨ps, h0⟩ := hall 0 f rfl
      simp only [List.getElem?_cons_zero, Option.map_some] at h0
      obtain ⟨a, a1, a2⟩ := h.dec sp hd n _ _ h0 fun k hk => hw k (List.mem_append_left _ hk)
      obtain ⟨b, b1, b2⟩ := hr.dec sp hd n cs ds (by simpa using hl) (by omega) (fun i g hg => by simpa using hall (i + 1) g (by simpa using hg)) fun k hk => hw k (List.mem_append_right _ hk)
      refine ⟨(a, b), ⟨a1, b1⟩, ?_⟩
      have e1 : cs.drop off = (cs.drop off).take sz ++ cs.drop (off + sz) := by
        rw [← List.drop_drop, List.take_append_drop]
      rw [e1]
      rw [ho, hc] at a2
      exact a2.append b2⟩
theorem Dec.struct {α : Type} {t : TypeId} {fs : Array Field} {sz : Nat} {e : α → List PV} {G : α → Prop} (ht : P.underlying t = some (.struct fs)) (hc : P.cellsOf t = sz) (h : DecFs P w enc fs.toList 0 sz e G) : Dec P w enc t sz e G :=
  ⟨h.len, fun sp hd fuel cs x hx hw => by
    obtain ⟨xs, n, _, rfl, hl, hxs, hf⟩ := DataW.trod_struct ht hx
    obtain ⟨a, a1, a2⟩ := h.dec sp hd n cs (xs.map (·.1)) (by simp [hxs]) (by rw [hl, hc, Nat.zero_add]) (fun i f hi => by
      have h1 := hf i f (by simpa using hi)
      have hlt : i < xs.length := by
        have := (List.getElem?_eq_some_iff.1 hi).1
        rw [hxs]; simpa using this
      refine ⟨xs[i].2, ?_⟩
      rw [h1]
      simp [hlt]) fun k hk => hw k (by
        simp only [DataW.weights, ht]
        exact hk)
    exact ⟨a, a1, by simpa using a2⟩⟩
end Go.Abs
/- A call that is lent a row, proved over the raw world (a contract of the kit's). Program-independent. -/
namespace Go.Abs
open Go.RowKit

variable {P : Program}

/-- The row's block holds other plain values, and new blocks lie behind. -/
structure Rewrote (w w' : World) (hdr : Value) (n : Nat) (vs : List Value) : Prop where
  grown : w.grownBy w' hdr.ownBlock
  row : ∀ g, hdr.ownBlock = some g → ∀ cur e, w.heap[g]? = some (.cells cur e (0, 0)) → n ≤ cur.size → ∃ cur', w'.heap[g]? = some (.cells cur' e (0, 0)) ∧ cur'.size = cur.size ∧ cur'.toList.take n = vs

theorem callM_raw {f : FuncId} {v : Nat} {e : TypeId} {sz : Nat} {es es' : List (List PV)} {ps : List PV} {ws : List Value} (hc : callable P f = true) (hlen : es'.length = es.length) (hsz : ∀ x ∈ es', x.length = sz)
    (hfl : es'.flatten = ws.map PV.val) (hone : ∀ u ∈ ws, u.oneCell' = true)
    (h : ∀ (B : Nat) (I : Mem) (w : World) (hdr : Value) (us vs : List Value), B ≤ w.heap.size → I.inW w → RowR w B I hdr e sz es us → hdr.oneCell' = true → VRs I vs ps →
      Calls P f (hdr :: vs).toArray w fun x w' => x = .returned (.tuple #[]) ∧ Rewrote w w' hdr (es.length * sz) ws) :
    CallM P f v e sz es ps (fun a c => a = .tup [] ∧ c = some (.row v e sz es')) := by
  refine ⟨hc, fun B I w hdr us vs hB hI hr h1 hv => (h B I w hdr us vs hB hI hr h1 hv).mono ?_⟩
  rintro x w' ⟨rfl, hg, hrow⟩
  let L : LocMap := fun i => if i = 1000000 then some (.row v hdr sz) else none
  have hL : ∀ i l, L i = some l → i = 1000000 ∧ l = .row v hdr sz := fun i l h => by
    simp only [L] at h
    split at h
    · rename_i hi; exact ⟨hi, by simpa using h.symm⟩
    · cases h
  have hwl : ws.length = es.length * sz := by
    have h2 := flatten_len hsz
    rw [hfl, List.length_map, hlen] at h2
    exact h2
  have hblk : ∀ b, hdr.ownBlock = some b → B ≤ b ∧ b < w.heap.size := fun b hb => ownsRow_block hr.own hb
  refine ⟨.tuple #[], .tup [], hset heap0 1000000 (.row v e sz es'), I, L, rfl, ⟨rfl, by simp [hset]⟩, .tup [] [] rfl (by simp), ?_⟩
  exact
  { below := ⟨hg.os, hg.tape, hg.output, hg.size, fun k hk => hg.block k (Nat.lt_of_lt_of_le hk hB) fun hb => by have := (hblk k hb.symm).1; have : k < B := hk; omega⟩
    mem := hI.keep fun b ⟨o, u, hu⟩ => hg.block b (hI.lt hu) fun hb => by rw [hr.free b hb.symm o] at hu; cases hu
    memC := Mem.sub_refl I
    memN := fun _ _ _ _ => rfl
    frame := fun b hb hn => hg.block b hb fun hb' => hn hb'.symm
    loc := LocLe.refl _
    blkF := fun id l b hl hb => by
      obtain ⟨_, rfl⟩ := hL id l hl
      exact .inr hb
    size := rfl
    env := fun t => .dead _
    dom := fun i l hl => by
      obtain ⟨rfl, rfl⟩ := hL i l hl
      exact ⟨.row v e sz es', by simp [hset]⟩
    chunk := fun i ch hch => by
      by_cases hi : i = 1000000
      · subst hi
        have : Chunk.row v e sz es' = ch := by simpa [hset] using hch
        subst this
        refine ⟨hdr, ws, by simp [L], ⟨by rw [hlen]; exact hwl, ?_⟩, hr.pos, hsz, fun j u c hu hc => ?_, hone, hr.free⟩
        · rcases hr.own.2 with ⟨e1, e2⟩ | ⟨g, cap, cur, rfl, g1, g2, g3, g4, g5, g6⟩
          · exact .inl ⟨e1, by rw [hlen]; exact e2⟩
          · obtain ⟨cur', k1, k2, k3⟩ := hrow g rfl cur e g2 (by rw [g5]; exact Nat.mul_le_mul_right sz g3)
            exact .inr ⟨g, cap, cur', by rw [hlen], g1, k1, by rw [hlen]; exact g3, g4, by rw [k2]; exact g5, by rw [hlen]; exact k3⟩
        · rw [hfl] at hc
          simp only [List.getElem?_map, hu, Option.map_some, Option.some.injEq] at hc
          subst hc
          exact .val u (hone u (List.mem_of_getElem? hu))
      · have : heap0 i = some ch := by simpa [hset, hi] using hch
        cases this
    blkB := fun i l b hl hb => by
      obtain ⟨rfl, rfl⟩ := hL i l hl
      have := hblk b hb
      exact ⟨this.1, Nat.lt_of_lt_of_le this.2 hg.size⟩
    apart := fun i j li lj b hi hj _ _ => by rw [(hL i li hi).1, (hL j lj hj).1] }
end Go.Abs
/- slices.SortFunc at structs of plain values, as a call that is lent a row. Program-independent. -/
namespace Go.SortM
open Go.Abs hiding flatK
open Go.RowKit Go.Shelf Go.Sort Go.Proofs

variable {P : Program} {ρ : Ren} {α : Type} [Inhabited α]

/-- A structure's cells. -/
def encV (enc : α → List Value) (x : α) : List PV := (enc x).map .val

omit [Inhabited α] in
theorem flat_encV (enc : α → List Value) (d : List α) : (d.map (encV enc)).flatten = (d.flatMap enc).map .val := by
  induction d with
  | nil => rfl
  | cons x r ih => rw [List.map_cons, List.flatten_cons, ih, List.flatMap_cons, List.map_append]; rfl
omit [Inhabited α] in
theorem flatMap_eq (enc : α → List Value) (d : List α) : d.flatMap enc = (d.map enc).flatten := by rw [List.flatMap_def]
theorem flatK_list {enc : α → List Value} {k : Nat} (hk : ∀ x, (enc x).length = k) (h0 : 0 < k) (d : List α) : flatK enc k d.toArray = (d.flatMap enc).toArray := by
  have hall : ∀ e ∈ d.map enc, e.length = k := fun e he => by
    obtain ⟨x, _, rfl⟩ := List.mem_map.1 he
    exact hk x
  have hlen : (d.flatMap enc).length = d.length * k := by rw [flatMap_eq, flatten_len hall, List.length_map]
  apply Array.ext
  · simp [hlen]
  · intro t h1 h2
    have ht : t < d.length * k := by simpa using h1
    have hd : t / k < d.length := (Nat.div_lt_iff_lt_mul h0).2 ht
    have hm : t % k < k := Nat.mod_lt _ h0
    have e1 : (flatK enc k d.toArray)[t] = (flatK enc k d.toArray)[t]! := (getElem!_pos _ t h1).symm
    rw [e1, get_flatK enc k d.toArray t (by simpa using ht)]
    have e2 := flatten_get hall (t / k) (t % k) (by simpa using hd) hm
    rw [Nat.div_add_mod' t k, ← flatMap_eq] at e2
    have e3 : (d.map enc).getD (t / k) [] = enc d[t / k] := by simp [hd]
    rw [e3] at e2
    have e4 : d.toArray[t / k]! = d[t / k] := by simp [hd]
    rw [e4]
    have hl : t % k < (enc d[t / k]).length := by rw [hk]; exact hm
    have h2' : t < (d.flatMap enc).length := by simpa using h2
    rw [List.getElem?_eq_getElem h2', List.getElem?_eq_getElem hl] at e2
    have e5 := Option.some.inj e2
    rw [getElem!_pos (enc d[t / k]) (t % k) hl]
    simpa using e5.symm

theorem grown_sortWorldK (enc : α → List Value) (k : Nat) (w : World) (g n : Nat) (d : Array α) (os : Array Obj) : w.grownBy (sortWorldK enc k w g 0 n d os) (some g) where
  os := rfl
  tape := rfl
  output := rfl
  size := by simp [sortWorldK, grow, putRowK, putRow, mapBlock, Sort.ahead]
  block := fun b hb hn => by
    have : g ≠ b := fun h => hn (by rw [h])
    simp [sortWorldK, grow, putRowK, putRow, mapBlock, Sort.ahead, Array.getElem?_append, hb, Array.getElem?_modify, this]
    rw [Array.getElem_modify, if_neg this]

theorem row_sortWorldK (enc : α → List Value) (k : Nat) (w : World) (g n m : Nat) (d : Array α) (os : Array Obj) {cur : Array Value} {e : TypeId} (hg : w.heap[g]? = some (.cells cur e (0, 0))) (hm : d.size * k = m) (hle : m ≤ cur.size) :
    ∃ cur', (sortWorldK enc k w g 0 n d os).heap[g]? = some (.cells cur' e (0, 0)) ∧ cur'.size = cur.size ∧ cur'.toList.take m = (flatK enc k d).toList := by
  have hlt : g < w.heap.size := (Array.getElem?_eq_some_iff.1 hg).1
  refine ⟨putCells id 0 (flatK enc k d) cur, ?_, by simp [putCells], ?_⟩
  · simp [sortWorldK, grow, putRowK, putRow, mapBlock, Sort.ahead, Array.getElem?_append, hlt, Array.getElem?_modify, hg, onCells]
    rw [Array.getElem_modify, if_pos rfl, (Array.getElem?_eq_some_iff.1 hg).2]
    rfl
  · apply List.ext_getElem
    · simp [putCells, hm]; omega
    · intro t h1 h2
      have ht : t < d.size * k := by simpa using h2
      have htc : t < cur.size := by omega
      have hf : t < (flatK enc k d).size := by simpa using ht
      simp [putCells, ht]

theorem callM_sortFunc (L : SlLaysF0.n6 P ρ) (k : Nat) (h0 : 0 < k) (aE : ∀ w, (isAgg (ρ.t 24)).run P w = .ok true w) (zE : ∀ w, (Go.sizeOf (ρ.t 24)).run P w = .ok k w) (enc : α → List Value) (hk : ∀ x, (enc x).length = k) (h1 : ∀ x, ∀ v ∈ enc x, v.oneCell' = true)
    (cf : α → α → Int) (hO : SWO (ltOf cf)) (hT : ∀ x y, (ltOf cf) x y = false → (ltOf cf) y x = false → x = y) (g : FuncId) (eg : ∀ args w, (callFunc g args).run P w = .ok (.enter g args) w)
    (hcmp : ∀ x y W, Calls P g #[.agg (enc x).toArray, .agg (enc y).toArray] W fun e w' => e = .returned (.int .i64 (cf x y)) ∧ ∃ q os', w' = grow (W.drewN q) os')
    (hc : callable P (ρ.f 6) = true) (d : List α) (hd : d.length < 4611686018427387904) (v : Nat) (e : TypeId) :
    CallM P (ρ.f 6) v e k (d.map (encV enc)) [.clo (.func g) [] []] (fun a c => a = .tup [] ∧ c = some (.row v e k ((d.mergeSort fun x y => !(ltOf cf) y x).map (encV enc)))) := by
  have hlen : (d.mergeSort fun x y => !(ltOf cf) y x).length = d.length := List.length_mergeSort _
  refine callM_raw (ws := (d.mergeSort fun x y => !(ltOf cf) y x).flatMap enc) hc (by simp [hlen]) (fun x hx => ?_) (flat_encV enc _) (fun u hu => ?_) ?_
  · obtain ⟨y, _, rfl⟩ := List.mem_map.1 hx
    simp [encV, hk]
  · obtain ⟨y, _, hy⟩ := List.mem_flatMap.1 hu
    exact h1 y u hy
  intro B I w hdr us vs hB hI hr hone hv
  have hvs : vs = [.func (.func g) #[] #[]] := by
    match vs, hv with
    | [], hv => have := hv.1; simp at this
    | [x], hv =>
      have := hv.2 0 x _ rfl rfl
      cases this with
      | clo _ us vs _ _ hl hl' _ _ =>
        have e1 : us = [] := List.length_eq_zero_iff.1 (by simpa using hl)
        have e2 : vs = [] := List.length_eq_zero_iff.1 (by simpa using hl')
        subst e1 e2
        rfl
    | _ :: _ :: _, hv => have := hv.1; simp at this
  subst hvs
  rcases hr.own.2 with ⟨rfl, hn⟩ | ⟨b, cap, cur, rfl, g1, g2, g3, g4, g5, g6⟩
  · have hd0 : d = [] := by simpa using hn
    subst hd0
    refine (AnyF.slices_SortFunc_none L none 0 _ w).mono ?_
    rintro x w' ⟨rfl, rfl⟩
    exact ⟨rfl, ⟨rfl, rfl, rfl, Nat.le_refl _, fun _ _ _ => rfl⟩, fun g hg => by cases hg⟩
  · have hn : (d.map (encV enc)).length = d.length := List.length_map _
    rw [hn] at g3 g6 ⊢
    have hus : us = d.flatMap enc := by
      have hl : us.length = (d.flatMap enc).length := by
        have h2 := hr.own.1
        have h3 := flatten_len hr.all
        rw [flat_encV, List.length_map] at h3
        rw [h2, h3]
      apply List.ext_getElem hl
      intro j j1 j2
      have := hr.val j us[j] (.val (d.flatMap enc)[j]) (List.getElem?_eq_getElem j1) (by rw [flat_encV]; simp [j2])
      generalize us[j] = u, (d.flatMap enc)[j] = u' at this
      cases this
      rfl
    have hH : HoldsK enc k w b 0 d.toArray := by
      unfold HoldsK
      rw [flatK_list hk h0, ← hus]
      intro j hj
      have hj' : j < us.length := by simpa using hj
      refine ⟨?_, frozen_of_row w b _ cur _ g2⟩
      rw [Nat.zero_add, cell_of_heap g2]
      have : us[j]? = cur.toList[j]? := by
        rw [← g6, List.getElem?_take, if_pos]
        have := hr.own.1
        rw [hn] at this
        omega
      have h7 : cur[j]? = us[j]? := by rw [this]; simp
      rw [h7, List.getElem?_eq_getElem hj']
      simp [hj']
    have hb : b < w.heap.size := (Array.getElem?_eq_some_iff.1 g2).1
    refine (AnyQ.slices_SortFunc_total L k aE zE enc hk h1 cf hO g #[] b 0 cap d.toArray w eg (fun m os dk _ x y => hcmp x y _) hH hb (by simpa using hd) hT).mono ?_
    rintro x w' ⟨rfl, n, os, rfl⟩
    refine ⟨rfl, grown_sortWorldK enc k w b n _ os, fun g hg cur' e' hg' hle => ?_⟩
    have : b = g := by simpa [Value.ownBlock] using hg
    subst this
    obtain ⟨c2, k1, k2, k3⟩ := row_sortWorldK enc k w b n (d.length * k) (d.toArray.toList.mergeSort fun x y => !(ltOf cf) y x).toArray os hg' (by simp) hle
    refine ⟨c2, k1, k2, ?_⟩
    rw [k3, flatK_list hk h0]
end Go.SortM
/-
  DERIVED: THE SHELF's CONTRACTS AT THIS DUMP, IN PLAIN WORDS (tools/lay-plain.mjs out of 'YtdlohnchnneaeaaGreatShelf.lean', which tools/lay-shelf.mjs wrote): THE SAME DECLARATIONS UNDER THE SAME NAMES: 'import', 'namespace', 'open', 'def', 'theorem' AND NOTHING ELSE: no command of the shelf's: FOR A HAND-IN. Each laying: the table of numbers ('.._ren') and one theorem, a field a fact of the dump's own or the kernel's comparison; each contract: ONE APPLICATION.
-/
namespace Go.Proofs
open Go.Shelf
def YtdlohnchnneaeaaGreat.sortPair_ren : Go.Shelf.Ren := ⟨fun | 6 => 33 | 15 => 63 | 14 => 62 | 28 => 92 | 29 => 93 | 20 => 84 | 21 => 85 | 22 => 86 | 23 => 87 | 24 => 88 | 25 => 89 | 26 => 90 | 27 => 91 | 46 => 113 | 47 => 114 | 48 => 115 | 49 => 116 | 50 => 117 | 57 => 140 | n => n, fun | 22 => 39 | 24 => 45 | 25 => 79 | 3 => 3 | 39 => 114 | 0 => 0 | 53 => 142 | 55 => 144 | 4 => 4 | 46 => 135 | 45 => 134 | 50 => 139 | 5 => 5 | 9 => 9 | 66 => 155 | 70 => 159 | 76 => 173 | 77 => 174 | n => n, fun | n => n⟩
theorem YtdlohnchnneaeaaGreat.sortPair : Go.Proofs.SlLaysF0.n6 Tryz.prog YtdlohnchnneaeaaGreat.sortPair_ren := {
  mixed := by kernel_rfl
  f6 := ⟨Tryz.f33.name, by decide, Tryz.func33.trans (congrArg some (by kernel_rfl))⟩
  f14 := ⟨Tryz.f62.name, by decide, Tryz.func62.trans (congrArg some (by kernel_rfl))⟩
  f15 := Tryz.func63.trans (congrArg some (by kernel_rfl))
  f20 := ⟨Tryz.f84.name, by decide, Tryz.func84.trans (congrArg some (by kernel_rfl))⟩
  f21 := ⟨Tryz.f85.name, by decide, Tryz.func85.trans (congrArg some (by kernel_rfl))⟩
  f22 := ⟨Tryz.f86.name, by decide, Tryz.func86.trans (congrArg some (by kernel_rfl))⟩
  f23 := ⟨Tryz.f87.name, by decide, Tryz.func87.trans (congrArg some (by kernel_rfl))⟩
  f24 := ⟨Tryz.f88.name, by decide, Tryz.func88.trans (congrArg some (by kernel_rfl))⟩
  f25 := ⟨Tryz.f89.name, by decide, Tryz.func89.trans (congrArg some (by kernel_rfl))⟩
  f26 := ⟨Tryz.f90.name, by decide, Tryz.func90.trans (congrArg some (by kernel_rfl))⟩
  f27 := ⟨Tryz.f91.name, by decide, Tryz.func91.trans (congrArg some (by kernel_rfl))⟩
  f28 := Tryz.func92.trans (congrArg some (by kernel_rfl))
  f29 := Tryz.func93.trans (congrArg some (by kernel_rfl))
  f46 := ⟨Tryz.f113.name, by decide, Tryz.func113.trans (congrArg some (by kernel_rfl))⟩
  f47 := Tryz.func114.trans (congrArg some (by kernel_rfl))
  f48 := Tryz.func115.trans (congrArg some (by kernel_rfl))
  f49 := ⟨Tryz.f116.name, by decide, Tryz.func116.trans (congrArg some (by kernel_rfl))⟩
  f50 := ⟨Tryz.f117.name, by decide, Tryz.func117.trans (congrArg some (by kernel_rfl))⟩
  f57 := ⟨Tryz.f140.name, by decide, Tryz.func140.trans (congrArg some (by kernel_rfl))⟩
  t0 := Tryz.underlying0
  a0 := Tryz.isAgg0
  z0 := Tryz.sizeOf0
  v0 := Tryz.zeroValue0
  t3 := Tryz.underlying3
  a3 := Tryz.isAgg3
  z3 := Tryz.sizeOf3
  v3 := Tryz.zeroValue3
  t4 := Tryz.underlying4
  a4 := Tryz.isAgg4
  z4 := Tryz.sizeOf4
  v4 := Tryz.zeroValue4
  t5 := Tryz.underlying5
  a5 := Tryz.isAgg5
  z5 := Tryz.sizeOf5
  v5 := Tryz.zeroValue5
  t9 := Tryz.underlying9
  a9 := Tryz.isAgg9
  z9 := Tryz.sizeOf9
  v9 := Tryz.zeroValue9
  t22 := Tryz.underlying39
  a22 := Tryz.isAgg39
  z22 := Tryz.sizeOf39
  v22 := Tryz.zeroValue39
  t25 := Tryz.underlying79
  a25 := Tryz.isAgg79
  z25 := Tryz.sizeOf79
  v25 := Tryz.zeroValue79
  t39 := Tryz.underlying114
  a39 := Tryz.isAgg114
  z39 := Tryz.sizeOf114
  v39 := Tryz.zeroValue114
  t45 := Tryz.underlying134
  a45 := Tryz.isAgg134
  z45 := Tryz.sizeOf134
  v45 := Tryz.zeroValue134
  t46 := Tryz.underlying135
  a46 := Tryz.isAgg135
  z46 := Tryz.sizeOf135
  v46 := Tryz.zeroValue135
  t50 := Tryz.underlying139
  a50 := Tryz.isAgg139
  z50 := Tryz.sizeOf139
  v50 := Tryz.zeroValue139
  t53 := Tryz.underlying142
  a53 := Tryz.isAgg142
  z53 := Tryz.sizeOf142
  v53 := Tryz.zeroValue142
  t55 := Tryz.underlying144
  a55 := Tryz.isAgg144
  z55 := Tryz.sizeOf144
  v55 := Tryz.zeroValue144
  t66 := Tryz.underlying155
  a66 := Tryz.isAgg155
  z66 := Tryz.sizeOf155
  v66 := Tryz.zeroValue155
  t70 := Tryz.underlying159
  a70 := Tryz.isAgg159
  z70 := Tryz.sizeOf159
  v70 := Tryz.zeroValue159
  t76 := Tryz.underlying173
  a76 := Tryz.isAgg173
  z76 := Tryz.sizeOf173
  v76 := Tryz.zeroValue173
  t77 := Tryz.underlying174
  a77 := Tryz.isAgg174
  z77 := Tryz.sizeOf174
  v77 := Tryz.zeroValue174 }
end Go.Proofs
/- Facts on the types of this seat's program, by the kernel. Printed by gen_ty.py. -/
namespace Go.Proofs.YtdlohnchnneaeaaGreat.Ty
open Go Go.Abs
theorem mixed : Go.Proofs.Tryz.prog.follows .mixedOrders = true := by kernel_rfl
-- 2: int64
@[go_sem] theorem size2 : tySize Go.Proofs.Tryz.prog 2 = some 1 := by kernel_rfl
@[go_sem] theorem agg2 : tyAgg Go.Proofs.Tryz.prog 2 = some false := by kernel_rfl
@[go_sem] theorem zero2 : tyZero Go.Proofs.Tryz.prog 2 = some [.int .i64 0] := by kernel_rfl
@[go_sem] theorem int2 : tyInt Go.Proofs.Tryz.prog 2 = some .i64 := by kernel_rfl
@[go_sem] theorem und2 : (Program.underlying Go.Proofs.Tryz.prog 2).isSome = true := by kernel_rfl
-- 3: int
@[go_sem] theorem size3 : tySize Go.Proofs.Tryz.prog 3 = some 1 := by kernel_rfl
@[go_sem] theorem agg3 : tyAgg Go.Proofs.Tryz.prog 3 = some false := by kernel_rfl
@[go_sem] theorem zero3 : tyZero Go.Proofs.Tryz.prog 3 = some [.int .i64 0] := by kernel_rfl
@[go_sem] theorem int3 : tyInt Go.Proofs.Tryz.prog 3 = some .i64 := by kernel_rfl
@[go_sem] theorem und3 : (Program.underlying Go.Proofs.Tryz.prog 3).isSome = true := by kernel_rfl
-- 4: bool
@[go_sem] theorem size4 : tySize Go.Proofs.Tryz.prog 4 = some 1 := by kernel_rfl
@[go_sem] theorem agg4 : tyAgg Go.Proofs.Tryz.prog 4 = some false := by kernel_rfl
@[go_sem] theorem zero4 : tyZero Go.Proofs.Tryz.prog 4 = some [.bool false] := by kernel_rfl
@[go_sem] theorem bool4 : tyBool Go.Proofs.Tryz.prog 4 = true := by kernel_rfl
-- 5: uint8
@[go_sem] theorem size5 : tySize Go.Proofs.Tryz.prog 5 = some 1 := by kernel_rfl
@[go_sem] theorem agg5 : tyAgg Go.Proofs.Tryz.prog 5 = some false := by kernel_rfl
@[go_sem] theorem zero5 : tyZero Go.Proofs.Tryz.prog 5 = some [.int .u8 0] := by kernel_rfl
@[go_sem] theorem int5 : tyInt Go.Proofs.Tryz.prog 5 = some .u8 := by kernel_rfl
@[go_sem] theorem und5 : (Program.underlying Go.Proofs.Tryz.prog 5).isSome = true := by kernel_rfl
-- 6: abi.BoundsErrorCode
@[go_sem] theorem size6 : tySize Go.Proofs.Tryz.prog 6 = some 1 := by kernel_rfl
@[go_sem] theorem agg6 : tyAgg Go.Proofs.Tryz.prog 6 = some false := by kernel_rfl
@[go_sem] theorem zero6 : tyZero Go.Proofs.Tryz.prog 6 = some [.int .u8 0] := by kernel_rfl
@[go_sem] theorem int6 : tyInt Go.Proofs.Tryz.prog 6 = some .u8 := by kernel_rfl
@[go_sem] theorem und6 : (Program.underlying Go.Proofs.Tryz.prog 6).isSome = true := by kernel_rfl
-- 7: struct { x int64; y int; signed bool; code abi.BoundsErrorCode }
@[go_sem] theorem size7 : tySize Go.Proofs.Tryz.prog 7 = some 4 := by kernel_rfl
@[go_sem] theorem agg7 : tyAgg Go.Proofs.Tryz.prog 7 = some true := by kernel_rfl
@[go_sem] theorem zero7 : tyZero Go.Proofs.Tryz.prog 7 = some [.int .i64 0, .int .i64 0, .bool false, .int .u8 0] := by kernel_rfl
@[go_sem] theorem pl7 : tyPlaces Go.Proofs.Tryz.prog 7 = some [(0, 1), (1, 1), (2, 1), (3, 1)] := by kernel_rfl
@[go_sem] theorem fld7_0 : fldOff Go.Proofs.Tryz.prog 7 0 = some (0, 1) := by kernel_rfl
@[go_sem] theorem fld7_1 : fldOff Go.Proofs.Tryz.prog 7 1 = some (1, 1) := by kernel_rfl
@[go_sem] theorem fld7_2 : fldOff Go.Proofs.Tryz.prog 7 2 = some (2, 1) := by kernel_rfl
@[go_sem] theorem fld7_3 : fldOff Go.Proofs.Tryz.prog 7 3 = some (3, 1) := by kernel_rfl
-- 8: runtime.boundsError
@[go_sem] theorem size8 : tySize Go.Proofs.Tryz.prog 8 = some 4 := by kernel_rfl
@[go_sem] theorem agg8 : tyAgg Go.Proofs.Tryz.prog 8 = some true := by kernel_rfl
@[go_sem] theorem zero8 : tyZero Go.Proofs.Tryz.prog 8 = some [.int .i64 0, .int .i64 0, .bool false, .int .u8 0] := by kernel_rfl
@[go_sem] theorem pl8 : tyPlaces Go.Proofs.Tryz.prog 8 = some [(0, 1), (1, 1), (2, 1), (3, 1)] := by kernel_rfl
@[go_sem] theorem fld8_0 : fldOff Go.Proofs.Tryz.prog 8 0 = some (0, 1) := by kernel_rfl
@[go_sem] theorem fld8_1 : fldOff Go.Proofs.Tryz.prog 8 1 = some (1, 1) := by kernel_rfl
@[go_sem] theorem fld8_2 : fldOff Go.Proofs.Tryz.prog 8 2 = some (2, 1) := by kernel_rfl
@[go_sem] theorem fld8_3 : fldOff Go.Proofs.Tryz.prog 8 3 = some (3, 1) := by kernel_rfl
-- 9: string
@[go_sem] theorem size9 : tySize Go.Proofs.Tryz.prog 9 = some 1 := by kernel_rfl
@[go_sem] theorem agg9 : tyAgg Go.Proofs.Tryz.prog 9 = some false := by kernel_rfl
@[go_sem] theorem zero9 : tyZero Go.Proofs.Tryz.prog 9 = some [.string ⟨#[]⟩] := by kernel_rfl
@[go_sem] theorem str9 : tyStr Go.Proofs.Tryz.prog 9 = true := by kernel_rfl
-- 10: runtime.errorString
@[go_sem] theorem size10 : tySize Go.Proofs.Tryz.prog 10 = some 1 := by kernel_rfl
@[go_sem] theorem agg10 : tyAgg Go.Proofs.Tryz.prog 10 = some false := by kernel_rfl
@[go_sem] theorem zero10 : tyZero Go.Proofs.Tryz.prog 10 = some [.string ⟨#[]⟩] := by kernel_rfl
@[go_sem] theorem str10 : tyStr Go.Proofs.Tryz.prog 10 = true := by kernel_rfl
-- 11: runtime.plainError
@[go_sem] theorem size11 : tySize Go.Proofs.Tryz.prog 11 = some 1 := by kernel_rfl
@[go_sem] theorem agg11 : tyAgg Go.Proofs.Tryz.prog 11 = some false := by kernel_rfl
@[go_sem] theorem zero11 : tyZero Go.Proofs.Tryz.prog 11 = some [.string ⟨#[]⟩] := by kernel_rfl
@[go_sem] theorem str11 : tyStr Go.Proofs.Tryz.prog 11 = true := by kernel_rfl
-- 12: uintptr
@[go_sem] theorem size12 : tySize Go.Proofs.Tryz.prog 12 = some 1 := by kernel_rfl
@[go_sem] theorem agg12 : tyAgg Go.Proofs.Tryz.prog 12 = some false := by kernel_rfl
@[go_sem] theorem zero12 : tyZero Go.Proofs.Tryz.prog 12 = some [.int .u64 0] := by kernel_rfl
@[go_sem] theorem int12 : tyInt Go.Proofs.Tryz.prog 12 = some .u64 := by kernel_rfl
@[go_sem] theorem und12 : (Program.underlying Go.Proofs.Tryz.prog 12).isSome = true := by kernel_rfl
-- 13: struct { msg string; addr uintptr }
@[go_sem] theorem size13 : tySize Go.Proofs.Tryz.prog 13 = some 2 := by kernel_rfl
@[go_sem] theorem agg13 : tyAgg Go.Proofs.Tryz.prog 13 = some true := by kernel_rfl
@[go_sem] theorem zero13 : tyZero Go.Proofs.Tryz.prog 13 = some [.string ⟨#[]⟩, .int .u64 0] := by kernel_rfl
@[go_sem] theorem pl13 : tyPlaces Go.Proofs.Tryz.prog 13 = some [(0, 1), (1, 1)] := by kernel_rfl
@[go_sem] theorem fld13_0 : fldOff Go.Proofs.Tryz.prog 13 0 = some (0, 1) := by kernel_rfl
@[go_sem] theorem fld13_1 : fldOff Go.Proofs.Tryz.prog 13 1 = some (1, 1) := by kernel_rfl
-- 14: runtime.errorAddressString
@[go_sem] theorem size14 : tySize Go.Proofs.Tryz.prog 14 = some 2 := by kernel_rfl
@[go_sem] theorem agg14 : tyAgg Go.Proofs.Tryz.prog 14 = some true := by kernel_rfl
@[go_sem] theorem zero14 : tyZero Go.Proofs.Tryz.prog 14 = some [.string ⟨#[]⟩, .int .u64 0] := by kernel_rfl
@[go_sem] theorem pl14 : tyPlaces Go.Proofs.Tryz.prog 14 = some [(0, 1), (1, 1)] := by kernel_rfl
@[go_sem] theorem fld14_0 : fldOff Go.Proofs.Tryz.prog 14 0 = some (0, 1) := by kernel_rfl
@[go_sem] theorem fld14_1 : fldOff Go.Proofs.Tryz.prog 14 1 = some (1, 1) := by kernel_rfl
-- 15: *runtime.TypeAssertionError
@[go_sem] theorem size15 : tySize Go.Proofs.Tryz.prog 15 = some 1 := by kernel_rfl
@[go_sem] theorem agg15 : tyAgg Go.Proofs.Tryz.prog 15 = some false := by kernel_rfl
@[go_sem] theorem zero15 : tyZero Go.Proofs.Tryz.prog 15 = some [.pointer none] := by kernel_rfl
-- 16: *runtime.PanicNilError
@[go_sem] theorem size16 : tySize Go.Proofs.Tryz.prog 16 = some 1 := by kernel_rfl
@[go_sem] theorem agg16 : tyAgg Go.Proofs.Tryz.prog 16 = some false := by kernel_rfl
@[go_sem] theorem zero16 : tyZero Go.Proofs.Tryz.prog 16 = some [.pointer none] := by kernel_rfl
-- 17: *abi.Type
@[go_sem] theorem size17 : tySize Go.Proofs.Tryz.prog 17 = some 1 := by kernel_rfl
@[go_sem] theorem agg17 : tyAgg Go.Proofs.Tryz.prog 17 = some false := by kernel_rfl
@[go_sem] theorem zero17 : tyZero Go.Proofs.Tryz.prog 17 = some [.pointer none] := by kernel_rfl
-- 18: struct { typ *abi.Type }
@[go_sem] theorem size18 : tySize Go.Proofs.Tryz.prog 18 = some 1 := by kernel_rfl
@[go_sem] theorem agg18 : tyAgg Go.Proofs.Tryz.prog 18 = some true := by kernel_rfl
@[go_sem] theorem zero18 : tyZero Go.Proofs.Tryz.prog 18 = some [.pointer none] := by kernel_rfl
@[go_sem] theorem pl18 : tyPlaces Go.Proofs.Tryz.prog 18 = some [(0, 1)] := by kernel_rfl
@[go_sem] theorem fld18_0 : fldOff Go.Proofs.Tryz.prog 18 0 = some (0, 1) := by kernel_rfl
-- 19: maps.unhashableTypeError
@[go_sem] theorem size19 : tySize Go.Proofs.Tryz.prog 19 = some 1 := by kernel_rfl
@[go_sem] theorem agg19 : tyAgg Go.Proofs.Tryz.prog 19 = some true := by kernel_rfl
@[go_sem] theorem zero19 : tyZero Go.Proofs.Tryz.prog 19 = some [.pointer none] := by kernel_rfl
@[go_sem] theorem pl19 : tyPlaces Go.Proofs.Tryz.prog 19 = some [(0, 1)] := by kernel_rfl
@[go_sem] theorem fld19_0 : fldOff Go.Proofs.Tryz.prog 19 0 = some (0, 1) := by kernel_rfl
-- 21: int32
@[go_sem] theorem size21 : tySize Go.Proofs.Tryz.prog 21 = some 1 := by kernel_rfl
@[go_sem] theorem agg21 : tyAgg Go.Proofs.Tryz.prog 21 = some false := by kernel_rfl
@[go_sem] theorem zero21 : tyZero Go.Proofs.Tryz.prog 21 = some [.int .i32 0] := by kernel_rfl
@[go_sem] theorem int21 : tyInt Go.Proofs.Tryz.prog 21 = some .i32 := by kernel_rfl
@[go_sem] theorem und21 : (Program.underlying Go.Proofs.Tryz.prog 21).isSome = true := by kernel_rfl
-- 22: []api.NodeType
@[go_sem] theorem size22 : tySize Go.Proofs.Tryz.prog 22 = some 1 := by kernel_rfl
@[go_sem] theorem agg22 : tyAgg Go.Proofs.Tryz.prog 22 = some false := by kernel_rfl
@[go_sem] theorem zero22 : tyZero Go.Proofs.Tryz.prog 22 = some [.slice none 0 0] := by kernel_rfl
@[go_sem] theorem elem22 : slElem Go.Proofs.Tryz.prog 22 = some 97 := by kernel_rfl
@[go_sem] theorem isSl22 : isSlice Go.Proofs.Tryz.prog 22 = true := by kernel_rfl
@[go_sem] theorem app22 : appTypes Go.Proofs.Tryz.prog 22 22 = some (97, 4, 56) := by kernel_rfl
-- 23: []api.EdgeType
@[go_sem] theorem size23 : tySize Go.Proofs.Tryz.prog 23 = some 1 := by kernel_rfl
@[go_sem] theorem agg23 : tyAgg Go.Proofs.Tryz.prog 23 = some false := by kernel_rfl
@[go_sem] theorem zero23 : tyZero Go.Proofs.Tryz.prog 23 = some [.slice none 0 0] := by kernel_rfl
@[go_sem] theorem elem23 : slElem Go.Proofs.Tryz.prog 23 = some 99 := by kernel_rfl
@[go_sem] theorem isSl23 : isSlice Go.Proofs.Tryz.prog 23 = true := by kernel_rfl
@[go_sem] theorem app23 : appTypes Go.Proofs.Tryz.prog 23 23 = some (99, 7, 64) := by kernel_rfl
-- 24: struct { Nodes []api.NodeType; Edges []api.EdgeType }
@[go_sem] theorem size24 : tySize Go.Proofs.Tryz.prog 24 = some 2 := by kernel_rfl
@[go_sem] theorem agg24 : tyAgg Go.Proofs.Tryz.prog 24 = some true := by kernel_rfl
@[go_sem] theorem zero24 : tyZero Go.Proofs.Tryz.prog 24 = some [.slice none 0 0, .slice none 0 0] := by kernel_rfl
@[go_sem] theorem pl24 : tyPlaces Go.Proofs.Tryz.prog 24 = some [(0, 1), (1, 1)] := by kernel_rfl
@[go_sem] theorem fld24_0 : fldOff Go.Proofs.Tryz.prog 24 0 = some (0, 1) := by kernel_rfl
@[go_sem] theorem fld24_1 : fldOff Go.Proofs.Tryz.prog 24 1 = some (1, 1) := by kernel_rfl
-- 25: api.Types
@[go_sem] theorem size25 : tySize Go.Proofs.Tryz.prog 25 = some 2 := by kernel_rfl
@[go_sem] theorem agg25 : tyAgg Go.Proofs.Tryz.prog 25 = some true := by kernel_rfl
@[go_sem] theorem zero25 : tyZero Go.Proofs.Tryz.prog 25 = some [.slice none 0 0, .slice none 0 0] := by kernel_rfl
@[go_sem] theorem pl25 : tyPlaces Go.Proofs.Tryz.prog 25 = some [(0, 1), (1, 1)] := by kernel_rfl
@[go_sem] theorem fld25_0 : fldOff Go.Proofs.Tryz.prog 25 0 = some (0, 1) := by kernel_rfl
@[go_sem] theorem fld25_1 : fldOff Go.Proofs.Tryz.prog 25 1 = some (1, 1) := by kernel_rfl
-- 26: []int
@[go_sem] theorem size26 : tySize Go.Proofs.Tryz.prog 26 = some 1 := by kernel_rfl
@[go_sem] theorem agg26 : tyAgg Go.Proofs.Tryz.prog 26 = some false := by kernel_rfl
@[go_sem] theorem zero26 : tyZero Go.Proofs.Tryz.prog 26 = some [.slice none 0 0] := by kernel_rfl
@[go_sem] theorem elem26 : slElem Go.Proofs.Tryz.prog 26 = some 3 := by kernel_rfl
@[go_sem] theorem isSl26 : isSlice Go.Proofs.Tryz.prog 26 = true := by kernel_rfl
@[go_sem] theorem app26 : appTypes Go.Proofs.Tryz.prog 26 26 = some (3, 1, 8) := by kernel_rfl
-- 27: struct { Nodes []int; Edges []int }
@[go_sem] theorem size27 : tySize Go.Proofs.Tryz.prog 27 = some 2 := by kernel_rfl
@[go_sem] theorem agg27 : tyAgg Go.Proofs.Tryz.prog 27 = some true := by kernel_rfl
@[go_sem] theorem zero27 : tyZero Go.Proofs.Tryz.prog 27 = some [.slice none 0 0, .slice none 0 0] := by kernel_rfl
@[go_sem] theorem pl27 : tyPlaces Go.Proofs.Tryz.prog 27 = some [(0, 1), (1, 1)] := by kernel_rfl
@[go_sem] theorem fld27_0 : fldOff Go.Proofs.Tryz.prog 27 0 = some (0, 1) := by kernel_rfl
@[go_sem] theorem fld27_1 : fldOff Go.Proofs.Tryz.prog 27 1 = some (1, 1) := by kernel_rfl
-- 28: api.Sorts
@[go_sem] theorem size28 : tySize Go.Proofs.Tryz.prog 28 = some 2 := by kernel_rfl
@[go_sem] theorem agg28 : tyAgg Go.Proofs.Tryz.prog 28 = some true := by kernel_rfl
@[go_sem] theorem zero28 : tyZero Go.Proofs.Tryz.prog 28 = some [.slice none 0 0, .slice none 0 0] := by kernel_rfl
@[go_sem] theorem pl28 : tyPlaces Go.Proofs.Tryz.prog 28 = some [(0, 1), (1, 1)] := by kernel_rfl
@[go_sem] theorem fld28_0 : fldOff Go.Proofs.Tryz.prog 28 0 = some (0, 1) := by kernel_rfl
@[go_sem] theorem fld28_1 : fldOff Go.Proofs.Tryz.prog 28 1 = some (1, 1) := by kernel_rfl
-- 29: struct { T api.Types; S api.Sorts }
@[go_sem] theorem size29 : tySize Go.Proofs.Tryz.prog 29 = some 4 := by kernel_rfl
@[go_sem] theorem agg29 : tyAgg Go.Proofs.Tryz.prog 29 = some true := by kernel_rfl
@[go_sem] theorem zero29 : tyZero Go.Proofs.Tryz.prog 29 = some [.slice none 0 0, .slice none 0 0, .slice none 0 0, .slice none 0 0] := by kernel_rfl
@[go_sem] theorem pl29 : tyPlaces Go.Proofs.Tryz.prog 29 = some [(0, 2), (2, 2)] := by kernel_rfl
@[go_sem] theorem fld29_0 : fldOff Go.Proofs.Tryz.prog 29 0 = some (0, 2) := by kernel_rfl
@[go_sem] theorem fld29_1 : fldOff Go.Proofs.Tryz.prog 29 1 = some (2, 2) := by kernel_rfl
-- 30: scarfjointlaw52.Case
@[go_sem] theorem size30 : tySize Go.Proofs.Tryz.prog 30 = some 4 := by kernel_rfl
@[go_sem] theorem agg30 : tyAgg Go.Proofs.Tryz.prog 30 = some true := by kernel_rfl
@[go_sem] theorem zero30 : tyZero Go.Proofs.Tryz.prog 30 = some [.slice none 0 0, .slice none 0 0, .slice none 0 0, .slice none 0 0] := by kernel_rfl
@[go_sem] theorem pl30 : tyPlaces Go.Proofs.Tryz.prog 30 = some [(0, 2), (2, 2)] := by kernel_rfl
@[go_sem] theorem fld30_0 : fldOff Go.Proofs.Tryz.prog 30 0 = some (0, 2) := by kernel_rfl
@[go_sem] theorem fld30_1 : fldOff Go.Proofs.Tryz.prog 30 1 = some (2, 2) := by kernel_rfl
-- 31: []api.Edge
@[go_sem] theorem size31 : tySize Go.Proofs.Tryz.prog 31 = some 1 := by kernel_rfl
@[go_sem] theorem agg31 : tyAgg Go.Proofs.Tryz.prog 31 = some false := by kernel_rfl
@[go_sem] theorem zero31 : tyZero Go.Proofs.Tryz.prog 31 = some [.slice none 0 0] := by kernel_rfl
@[go_sem] theorem elem31 : slElem Go.Proofs.Tryz.prog 31 = some 73 := by kernel_rfl
@[go_sem] theorem isSl31 : isSlice Go.Proofs.Tryz.prog 31 = true := by kernel_rfl
@[go_sem] theorem app31 : appTypes Go.Proofs.Tryz.prog 31 31 = some (73, 3, 24) := by kernel_rfl
-- 32: struct { Nodes []int; Edges []api.Edge }
@[go_sem] theorem size32 : tySize Go.Proofs.Tryz.prog 32 = some 2 := by kernel_rfl
@[go_sem] theorem agg32 : tyAgg Go.Proofs.Tryz.prog 32 = some true := by kernel_rfl
@[go_sem] theorem zero32 : tyZero Go.Proofs.Tryz.prog 32 = some [.slice none 0 0, .slice none 0 0] := by kernel_rfl
@[go_sem] theorem pl32 : tyPlaces Go.Proofs.Tryz.prog 32 = some [(0, 1), (1, 1)] := by kernel_rfl
@[go_sem] theorem fld32_0 : fldOff Go.Proofs.Tryz.prog 32 0 = some (0, 1) := by kernel_rfl
@[go_sem] theorem fld32_1 : fldOff Go.Proofs.Tryz.prog 32 1 = some (1, 1) := by kernel_rfl
-- 33: api.Graph
@[go_sem] theorem size33 : tySize Go.Proofs.Tryz.prog 33 = some 2 := by kernel_rfl
@[go_sem] theorem agg33 : tyAgg Go.Proofs.Tryz.prog 33 = some true := by kernel_rfl
@[go_sem] theorem zero33 : tyZero Go.Proofs.Tryz.prog 33 = some [.slice none 0 0, .slice none 0 0] := by kernel_rfl
@[go_sem] theorem pl33 : tyPlaces Go.Proofs.Tryz.prog 33 = some [(0, 1), (1, 1)] := by kernel_rfl
@[go_sem] theorem fld33_0 : fldOff Go.Proofs.Tryz.prog 33 0 = some (0, 1) := by kernel_rfl
@[go_sem] theorem fld33_1 : fldOff Go.Proofs.Tryz.prog 33 1 = some (1, 1) := by kernel_rfl
-- 34: [][]int
@[go_sem] theorem size34 : tySize Go.Proofs.Tryz.prog 34 = some 1 := by kernel_rfl
@[go_sem] theorem agg34 : tyAgg Go.Proofs.Tryz.prog 34 = some false := by kernel_rfl
@[go_sem] theorem zero34 : tyZero Go.Proofs.Tryz.prog 34 = some [.slice none 0 0] := by kernel_rfl
@[go_sem] theorem elem34 : slElem Go.Proofs.Tryz.prog 34 = some 26 := by kernel_rfl
@[go_sem] theorem isSl34 : isSlice Go.Proofs.Tryz.prog 34 = true := by kernel_rfl
@[go_sem] theorem app34 : appTypes Go.Proofs.Tryz.prog 34 34 = some (26, 1, 24) := by kernel_rfl
-- 35: struct { Graph api.Graph; Values [][]int }
@[go_sem] theorem size35 : tySize Go.Proofs.Tryz.prog 35 = some 3 := by kernel_rfl
@[go_sem] theorem agg35 : tyAgg Go.Proofs.Tryz.prog 35 = some true := by kernel_rfl
@[go_sem] theorem zero35 : tyZero Go.Proofs.Tryz.prog 35 = some [.slice none 0 0, .slice none 0 0, .slice none 0 0] := by kernel_rfl
@[go_sem] theorem pl35 : tyPlaces Go.Proofs.Tryz.prog 35 = some [(0, 2), (2, 1)] := by kernel_rfl
@[go_sem] theorem fld35_0 : fldOff Go.Proofs.Tryz.prog 35 0 = some (0, 2) := by kernel_rfl
@[go_sem] theorem fld35_1 : fldOff Go.Proofs.Tryz.prog 35 1 = some (2, 1) := by kernel_rfl
-- 36: api.Host
@[go_sem] theorem size36 : tySize Go.Proofs.Tryz.prog 36 = some 3 := by kernel_rfl
@[go_sem] theorem agg36 : tyAgg Go.Proofs.Tryz.prog 36 = some true := by kernel_rfl
@[go_sem] theorem zero36 : tyZero Go.Proofs.Tryz.prog 36 = some [.slice none 0 0, .slice none 0 0, .slice none 0 0] := by kernel_rfl
@[go_sem] theorem pl36 : tyPlaces Go.Proofs.Tryz.prog 36 = some [(0, 2), (2, 1)] := by kernel_rfl
@[go_sem] theorem fld36_0 : fldOff Go.Proofs.Tryz.prog 36 0 = some (0, 2) := by kernel_rfl
@[go_sem] theorem fld36_1 : fldOff Go.Proofs.Tryz.prog 36 1 = some (2, 1) := by kernel_rfl
-- 39: []api.Pair
@[go_sem] theorem size39 : tySize Go.Proofs.Tryz.prog 39 = some 1 := by kernel_rfl
@[go_sem] theorem agg39 : tyAgg Go.Proofs.Tryz.prog 39 = some false := by kernel_rfl
@[go_sem] theorem zero39 : tyZero Go.Proofs.Tryz.prog 39 = some [.slice none 0 0] := by kernel_rfl
@[go_sem] theorem elem39 : slElem Go.Proofs.Tryz.prog 39 = some 45 := by kernel_rfl
@[go_sem] theorem isSl39 : isSlice Go.Proofs.Tryz.prog 39 = true := by kernel_rfl
@[go_sem] theorem app39 : appTypes Go.Proofs.Tryz.prog 39 39 = some (45, 2, 16) := by kernel_rfl
-- 40: api.Errno
@[go_sem] theorem size40 : tySize Go.Proofs.Tryz.prog 40 = some 1 := by kernel_rfl
@[go_sem] theorem agg40 : tyAgg Go.Proofs.Tryz.prog 40 = some false := by kernel_rfl
@[go_sem] theorem zero40 : tyZero Go.Proofs.Tryz.prog 40 = some [.int .i64 0] := by kernel_rfl
@[go_sem] theorem int40 : tyInt Go.Proofs.Tryz.prog 40 = some .i64 := by kernel_rfl
@[go_sem] theorem und40 : (Program.underlying Go.Proofs.Tryz.prog 40).isSome = true := by kernel_rfl
-- 44: struct { A int; B int }
@[go_sem] theorem size44 : tySize Go.Proofs.Tryz.prog 44 = some 2 := by kernel_rfl
@[go_sem] theorem agg44 : tyAgg Go.Proofs.Tryz.prog 44 = some true := by kernel_rfl
@[go_sem] theorem zero44 : tyZero Go.Proofs.Tryz.prog 44 = some [.int .i64 0, .int .i64 0] := by kernel_rfl
@[go_sem] theorem pl44 : tyPlaces Go.Proofs.Tryz.prog 44 = some [(0, 1), (1, 1)] := by kernel_rfl
@[go_sem] theorem fld44_0 : fldOff Go.Proofs.Tryz.prog 44 0 = some (0, 1) := by kernel_rfl
@[go_sem] theorem fld44_1 : fldOff Go.Proofs.Tryz.prog 44 1 = some (1, 1) := by kernel_rfl
-- 45: api.Pair
@[go_sem] theorem size45 : tySize Go.Proofs.Tryz.prog 45 = some 2 := by kernel_rfl
@[go_sem] theorem agg45 : tyAgg Go.Proofs.Tryz.prog 45 = some true := by kernel_rfl
@[go_sem] theorem zero45 : tyZero Go.Proofs.Tryz.prog 45 = some [.int .i64 0, .int .i64 0] := by kernel_rfl
@[go_sem] theorem pl45 : tyPlaces Go.Proofs.Tryz.prog 45 = some [(0, 1), (1, 1)] := by kernel_rfl
@[go_sem] theorem fld45_0 : fldOff Go.Proofs.Tryz.prog 45 0 = some (0, 1) := by kernel_rfl
@[go_sem] theorem fld45_1 : fldOff Go.Proofs.Tryz.prog 45 1 = some (1, 1) := by kernel_rfl
-- 55: api.Part
@[go_sem] theorem size55 : tySize Go.Proofs.Tryz.prog 55 = some 2 := by kernel_rfl
@[go_sem] theorem agg55 : tyAgg Go.Proofs.Tryz.prog 55 = some true := by kernel_rfl
@[go_sem] theorem zero55 : tyZero Go.Proofs.Tryz.prog 55 = some [.slice none 0 0, .slice none 0 0] := by kernel_rfl
@[go_sem] theorem pl55 : tyPlaces Go.Proofs.Tryz.prog 55 = some [(0, 1), (1, 1)] := by kernel_rfl
@[go_sem] theorem fld55_0 : fldOff Go.Proofs.Tryz.prog 55 0 = some (0, 1) := by kernel_rfl
@[go_sem] theorem fld55_1 : fldOff Go.Proofs.Tryz.prog 55 1 = some (1, 1) := by kernel_rfl
-- 61: [][2]uint8
@[go_sem] theorem size61 : tySize Go.Proofs.Tryz.prog 61 = some 1 := by kernel_rfl
@[go_sem] theorem agg61 : tyAgg Go.Proofs.Tryz.prog 61 = some false := by kernel_rfl
@[go_sem] theorem zero61 : tyZero Go.Proofs.Tryz.prog 61 = some [.slice none 0 0] := by kernel_rfl
@[go_sem] theorem elem61 : slElem Go.Proofs.Tryz.prog 61 = some 102 := by kernel_rfl
@[go_sem] theorem isSl61 : isSlice Go.Proofs.Tryz.prog 61 = true := by kernel_rfl
@[go_sem] theorem app61 : appTypes Go.Proofs.Tryz.prog 61 61 = some (102, 2, 2) := by kernel_rfl
-- 62: [][3]uint8
@[go_sem] theorem size62 : tySize Go.Proofs.Tryz.prog 62 = some 1 := by kernel_rfl
@[go_sem] theorem agg62 : tyAgg Go.Proofs.Tryz.prog 62 = some false := by kernel_rfl
@[go_sem] theorem zero62 : tyZero Go.Proofs.Tryz.prog 62 = some [.slice none 0 0] := by kernel_rfl
@[go_sem] theorem elem62 : slElem Go.Proofs.Tryz.prog 62 = some 108 := by kernel_rfl
@[go_sem] theorem isSl62 : isSlice Go.Proofs.Tryz.prog 62 = true := by kernel_rfl
@[go_sem] theorem app62 : appTypes Go.Proofs.Tryz.prog 62 62 = some (108, 3, 3) := by kernel_rfl
-- 63: struct { Nodes [][2]uint8; Edges [][3]uint8 }
@[go_sem] theorem size63 : tySize Go.Proofs.Tryz.prog 63 = some 2 := by kernel_rfl
@[go_sem] theorem agg63 : tyAgg Go.Proofs.Tryz.prog 63 = some true := by kernel_rfl
@[go_sem] theorem zero63 : tyZero Go.Proofs.Tryz.prog 63 = some [.slice none 0 0, .slice none 0 0] := by kernel_rfl
@[go_sem] theorem pl63 : tyPlaces Go.Proofs.Tryz.prog 63 = some [(0, 1), (1, 1)] := by kernel_rfl
@[go_sem] theorem fld63_0 : fldOff Go.Proofs.Tryz.prog 63 0 = some (0, 1) := by kernel_rfl
@[go_sem] theorem fld63_1 : fldOff Go.Proofs.Tryz.prog 63 1 = some (1, 1) := by kernel_rfl
-- 64: scarfjointref15.Draft
@[go_sem] theorem size64 : tySize Go.Proofs.Tryz.prog 64 = some 2 := by kernel_rfl
@[go_sem] theorem agg64 : tyAgg Go.Proofs.Tryz.prog 64 = some true := by kernel_rfl
@[go_sem] theorem zero64 : tyZero Go.Proofs.Tryz.prog 64 = some [.slice none 0 0, .slice none 0 0] := by kernel_rfl
@[go_sem] theorem pl64 : tyPlaces Go.Proofs.Tryz.prog 64 = some [(0, 1), (1, 1)] := by kernel_rfl
@[go_sem] theorem fld64_0 : fldOff Go.Proofs.Tryz.prog 64 0 = some (0, 1) := by kernel_rfl
@[go_sem] theorem fld64_1 : fldOff Go.Proofs.Tryz.prog 64 1 = some (1, 1) := by kernel_rfl
-- 72: struct { Type int; From int; To int }
@[go_sem] theorem size72 : tySize Go.Proofs.Tryz.prog 72 = some 3 := by kernel_rfl
@[go_sem] theorem agg72 : tyAgg Go.Proofs.Tryz.prog 72 = some true := by kernel_rfl
@[go_sem] theorem zero72 : tyZero Go.Proofs.Tryz.prog 72 = some [.int .i64 0, .int .i64 0, .int .i64 0] := by kernel_rfl
@[go_sem] theorem pl72 : tyPlaces Go.Proofs.Tryz.prog 72 = some [(0, 1), (1, 1), (2, 1)] := by kernel_rfl
@[go_sem] theorem fld72_0 : fldOff Go.Proofs.Tryz.prog 72 0 = some (0, 1) := by kernel_rfl
@[go_sem] theorem fld72_1 : fldOff Go.Proofs.Tryz.prog 72 1 = some (1, 1) := by kernel_rfl
@[go_sem] theorem fld72_2 : fldOff Go.Proofs.Tryz.prog 72 2 = some (2, 1) := by kernel_rfl
-- 73: api.Edge
@[go_sem] theorem size73 : tySize Go.Proofs.Tryz.prog 73 = some 3 := by kernel_rfl
@[go_sem] theorem agg73 : tyAgg Go.Proofs.Tryz.prog 73 = some true := by kernel_rfl
@[go_sem] theorem zero73 : tyZero Go.Proofs.Tryz.prog 73 = some [.int .i64 0, .int .i64 0, .int .i64 0] := by kernel_rfl
@[go_sem] theorem pl73 : tyPlaces Go.Proofs.Tryz.prog 73 = some [(0, 1), (1, 1), (2, 1)] := by kernel_rfl
@[go_sem] theorem fld73_0 : fldOff Go.Proofs.Tryz.prog 73 0 = some (0, 1) := by kernel_rfl
@[go_sem] theorem fld73_1 : fldOff Go.Proofs.Tryz.prog 73 1 = some (1, 1) := by kernel_rfl
@[go_sem] theorem fld73_2 : fldOff Go.Proofs.Tryz.prog 73 2 = some (2, 1) := by kernel_rfl
-- 95: []api.Attr
@[go_sem] theorem size95 : tySize Go.Proofs.Tryz.prog 95 = some 1 := by kernel_rfl
@[go_sem] theorem agg95 : tyAgg Go.Proofs.Tryz.prog 95 = some false := by kernel_rfl
@[go_sem] theorem zero95 : tyZero Go.Proofs.Tryz.prog 95 = some [.slice none 0 0] := by kernel_rfl
@[go_sem] theorem elem95 : slElem Go.Proofs.Tryz.prog 95 = some 107 := by kernel_rfl
@[go_sem] theorem isSl95 : isSlice Go.Proofs.Tryz.prog 95 = true := by kernel_rfl
@[go_sem] theorem app95 : appTypes Go.Proofs.Tryz.prog 95 95 = some (107, 4, 56) := by kernel_rfl
-- 96: struct { Name string; Parent int; Abstract bool; Attrs []api.Attr }
@[go_sem] theorem size96 : tySize Go.Proofs.Tryz.prog 96 = some 4 := by kernel_rfl
@[go_sem] theorem agg96 : tyAgg Go.Proofs.Tryz.prog 96 = some true := by kernel_rfl
@[go_sem] theorem zero96 : tyZero Go.Proofs.Tryz.prog 96 = some [.string ⟨#[]⟩, .int .i64 0, .bool false, .slice none 0 0] := by kernel_rfl
@[go_sem] theorem pl96 : tyPlaces Go.Proofs.Tryz.prog 96 = some [(0, 1), (1, 1), (2, 1), (3, 1)] := by kernel_rfl
@[go_sem] theorem fld96_0 : fldOff Go.Proofs.Tryz.prog 96 0 = some (0, 1) := by kernel_rfl
@[go_sem] theorem fld96_1 : fldOff Go.Proofs.Tryz.prog 96 1 = some (1, 1) := by kernel_rfl
@[go_sem] theorem fld96_2 : fldOff Go.Proofs.Tryz.prog 96 2 = some (2, 1) := by kernel_rfl
@[go_sem] theorem fld96_3 : fldOff Go.Proofs.Tryz.prog 96 3 = some (3, 1) := by kernel_rfl
-- 97: api.NodeType
@[go_sem] theorem size97 : tySize Go.Proofs.Tryz.prog 97 = some 4 := by kernel_rfl
@[go_sem] theorem agg97 : tyAgg Go.Proofs.Tryz.prog 97 = some true := by kernel_rfl
@[go_sem] theorem zero97 : tyZero Go.Proofs.Tryz.prog 97 = some [.string ⟨#[]⟩, .int .i64 0, .bool false, .slice none 0 0] := by kernel_rfl
@[go_sem] theorem pl97 : tyPlaces Go.Proofs.Tryz.prog 97 = some [(0, 1), (1, 1), (2, 1), (3, 1)] := by kernel_rfl
@[go_sem] theorem fld97_0 : fldOff Go.Proofs.Tryz.prog 97 0 = some (0, 1) := by kernel_rfl
@[go_sem] theorem fld97_1 : fldOff Go.Proofs.Tryz.prog 97 1 = some (1, 1) := by kernel_rfl
@[go_sem] theorem fld97_2 : fldOff Go.Proofs.Tryz.prog 97 2 = some (2, 1) := by kernel_rfl
@[go_sem] theorem fld97_3 : fldOff Go.Proofs.Tryz.prog 97 3 = some (3, 1) := by kernel_rfl
-- 98: struct { Name string; From int; To int; OutLow int; OutHigh int; InLow
@[go_sem] theorem size98 : tySize Go.Proofs.Tryz.prog 98 = some 7 := by kernel_rfl
@[go_sem] theorem agg98 : tyAgg Go.Proofs.Tryz.prog 98 = some true := by kernel_rfl
@[go_sem] theorem zero98 : tyZero Go.Proofs.Tryz.prog 98 = some [.string ⟨#[]⟩, .int .i64 0, .int .i64 0, .int .i64 0, .int .i64 0, .int .i64 0, .int .i64 0] := by kernel_rfl
@[go_sem] theorem pl98 : tyPlaces Go.Proofs.Tryz.prog 98 = some [(0, 1), (1, 1), (2, 1), (3, 1), (4, 1), (5, 1), (6, 1)] := by kernel_rfl
@[go_sem] theorem fld98_0 : fldOff Go.Proofs.Tryz.prog 98 0 = some (0, 1) := by kernel_rfl
@[go_sem] theorem fld98_1 : fldOff Go.Proofs.Tryz.prog 98 1 = some (1, 1) := by kernel_rfl
@[go_sem] theorem fld98_2 : fldOff Go.Proofs.Tryz.prog 98 2 = some (2, 1) := by kernel_rfl
@[go_sem] theorem fld98_3 : fldOff Go.Proofs.Tryz.prog 98 3 = some (3, 1) := by kernel_rfl
@[go_sem] theorem fld98_4 : fldOff Go.Proofs.Tryz.prog 98 4 = some (4, 1) := by kernel_rfl
@[go_sem] theorem fld98_5 : fldOff Go.Proofs.Tryz.prog 98 5 = some (5, 1) := by kernel_rfl
@[go_sem] theorem fld98_6 : fldOff Go.Proofs.Tryz.prog 98 6 = some (6, 1) := by kernel_rfl
-- 99: api.EdgeType
@[go_sem] theorem size99 : tySize Go.Proofs.Tryz.prog 99 = some 7 := by kernel_rfl
@[go_sem] theorem agg99 : tyAgg Go.Proofs.Tryz.prog 99 = some true := by kernel_rfl
@[go_sem] theorem zero99 : tyZero Go.Proofs.Tryz.prog 99 = some [.string ⟨#[]⟩, .int .i64 0, .int .i64 0, .int .i64 0, .int .i64 0, .int .i64 0, .int .i64 0] := by kernel_rfl
@[go_sem] theorem pl99 : tyPlaces Go.Proofs.Tryz.prog 99 = some [(0, 1), (1, 1), (2, 1), (3, 1), (4, 1), (5, 1), (6, 1)] := by kernel_rfl
@[go_sem] theorem fld99_0 : fldOff Go.Proofs.Tryz.prog 99 0 = some (0, 1) := by kernel_rfl
@[go_sem] theorem fld99_1 : fldOff Go.Proofs.Tryz.prog 99 1 = some (1, 1) := by kernel_rfl
@[go_sem] theorem fld99_2 : fldOff Go.Proofs.Tryz.prog 99 2 = some (2, 1) := by kernel_rfl
@[go_sem] theorem fld99_3 : fldOff Go.Proofs.Tryz.prog 99 3 = some (3, 1) := by kernel_rfl
@[go_sem] theorem fld99_4 : fldOff Go.Proofs.Tryz.prog 99 4 = some (4, 1) := by kernel_rfl
@[go_sem] theorem fld99_5 : fldOff Go.Proofs.Tryz.prog 99 5 = some (5, 1) := by kernel_rfl
@[go_sem] theorem fld99_6 : fldOff Go.Proofs.Tryz.prog 99 6 = some (6, 1) := by kernel_rfl
-- 102: [2]uint8
@[go_sem] theorem size102 : tySize Go.Proofs.Tryz.prog 102 = some 2 := by kernel_rfl
@[go_sem] theorem agg102 : tyAgg Go.Proofs.Tryz.prog 102 = some true := by kernel_rfl
@[go_sem] theorem zero102 : tyZero Go.Proofs.Tryz.prog 102 = some [.int .u8 0, .int .u8 0] := by kernel_rfl
@[go_sem] theorem arr102 : arrOf Go.Proofs.Tryz.prog 102 = some (2, 5) := by kernel_rfl
@[go_sem] theorem pl102 : tyPlaces Go.Proofs.Tryz.prog 102 = some [(0, 1), (1, 1)] := by kernel_rfl
-- 105: []string
@[go_sem] theorem size105 : tySize Go.Proofs.Tryz.prog 105 = some 1 := by kernel_rfl
@[go_sem] theorem agg105 : tyAgg Go.Proofs.Tryz.prog 105 = some false := by kernel_rfl
@[go_sem] theorem zero105 : tyZero Go.Proofs.Tryz.prog 105 = some [.slice none 0 0] := by kernel_rfl
@[go_sem] theorem elem105 : slElem Go.Proofs.Tryz.prog 105 = some 9 := by kernel_rfl
@[go_sem] theorem isSl105 : isSlice Go.Proofs.Tryz.prog 105 = true := by kernel_rfl
@[go_sem] theorem app105 : appTypes Go.Proofs.Tryz.prog 105 105 = some (9, 1, 16) := by kernel_rfl
-- 106: struct { Name string; Low int; High int; Names []string }
@[go_sem] theorem size106 : tySize Go.Proofs.Tryz.prog 106 = some 4 := by kernel_rfl
@[go_sem] theorem agg106 : tyAgg Go.Proofs.Tryz.prog 106 = some true := by kernel_rfl
@[go_sem] theorem zero106 : tyZero Go.Proofs.Tryz.prog 106 = some [.string ⟨#[]⟩, .int .i64 0, .int .i64 0, .slice none 0 0] := by kernel_rfl
@[go_sem] theorem pl106 : tyPlaces Go.Proofs.Tryz.prog 106 = some [(0, 1), (1, 1), (2, 1), (3, 1)] := by kernel_rfl
@[go_sem] theorem fld106_0 : fldOff Go.Proofs.Tryz.prog 106 0 = some (0, 1) := by kernel_rfl
@[go_sem] theorem fld106_1 : fldOff Go.Proofs.Tryz.prog 106 1 = some (1, 1) := by kernel_rfl
@[go_sem] theorem fld106_2 : fldOff Go.Proofs.Tryz.prog 106 2 = some (2, 1) := by kernel_rfl
@[go_sem] theorem fld106_3 : fldOff Go.Proofs.Tryz.prog 106 3 = some (3, 1) := by kernel_rfl
-- 107: api.Attr
@[go_sem] theorem size107 : tySize Go.Proofs.Tryz.prog 107 = some 4 := by kernel_rfl
@[go_sem] theorem agg107 : tyAgg Go.Proofs.Tryz.prog 107 = some true := by kernel_rfl
@[go_sem] theorem zero107 : tyZero Go.Proofs.Tryz.prog 107 = some [.string ⟨#[]⟩, .int .i64 0, .int .i64 0, .slice none 0 0] := by kernel_rfl
@[go_sem] theorem pl107 : tyPlaces Go.Proofs.Tryz.prog 107 = some [(0, 1), (1, 1), (2, 1), (3, 1)] := by kernel_rfl
@[go_sem] theorem fld107_0 : fldOff Go.Proofs.Tryz.prog 107 0 = some (0, 1) := by kernel_rfl
@[go_sem] theorem fld107_1 : fldOff Go.Proofs.Tryz.prog 107 1 = some (1, 1) := by kernel_rfl
@[go_sem] theorem fld107_2 : fldOff Go.Proofs.Tryz.prog 107 2 = some (2, 1) := by kernel_rfl
@[go_sem] theorem fld107_3 : fldOff Go.Proofs.Tryz.prog 107 3 = some (3, 1) := by kernel_rfl
-- 108: [3]uint8
@[go_sem] theorem size108 : tySize Go.Proofs.Tryz.prog 108 = some 3 := by kernel_rfl
@[go_sem] theorem agg108 : tyAgg Go.Proofs.Tryz.prog 108 = some true := by kernel_rfl
@[go_sem] theorem zero108 : tyZero Go.Proofs.Tryz.prog 108 = some [.int .u8 0, .int .u8 0, .int .u8 0] := by kernel_rfl
@[go_sem] theorem arr108 : arrOf Go.Proofs.Tryz.prog 108 = some (3, 5) := by kernel_rfl
@[go_sem] theorem pl108 : tyPlaces Go.Proofs.Tryz.prog 108 = some [(0, 1), (1, 1), (2, 1)] := by kernel_rfl
-- 114: uint
@[go_sem] theorem size114 : tySize Go.Proofs.Tryz.prog 114 = some 1 := by kernel_rfl
@[go_sem] theorem agg114 : tyAgg Go.Proofs.Tryz.prog 114 = some false := by kernel_rfl
@[go_sem] theorem zero114 : tyZero Go.Proofs.Tryz.prog 114 = some [.int .u64 0] := by kernel_rfl
@[go_sem] theorem int114 : tyInt Go.Proofs.Tryz.prog 114 = some .u64 := by kernel_rfl
@[go_sem] theorem und114 : (Program.underlying Go.Proofs.Tryz.prog 114).isSome = true := by kernel_rfl
-- 120: [][][]int
@[go_sem] theorem size120 : tySize Go.Proofs.Tryz.prog 120 = some 1 := by kernel_rfl
@[go_sem] theorem agg120 : tyAgg Go.Proofs.Tryz.prog 120 = some false := by kernel_rfl
@[go_sem] theorem zero120 : tyZero Go.Proofs.Tryz.prog 120 = some [.slice none 0 0] := by kernel_rfl
@[go_sem] theorem elem120 : slElem Go.Proofs.Tryz.prog 120 = some 34 := by kernel_rfl
@[go_sem] theorem isSl120 : isSlice Go.Proofs.Tryz.prog 120 = true := by kernel_rfl
@[go_sem] theorem app120 : appTypes Go.Proofs.Tryz.prog 120 120 = some (34, 1, 24) := by kernel_rfl
-- 124: api.Morphism
@[go_sem] theorem size124 : tySize Go.Proofs.Tryz.prog 124 = some 2 := by kernel_rfl
@[go_sem] theorem agg124 : tyAgg Go.Proofs.Tryz.prog 124 = some true := by kernel_rfl
@[go_sem] theorem zero124 : tyZero Go.Proofs.Tryz.prog 124 = some [.slice none 0 0, .slice none 0 0] := by kernel_rfl
@[go_sem] theorem pl124 : tyPlaces Go.Proofs.Tryz.prog 124 = some [(0, 1), (1, 1)] := by kernel_rfl
@[go_sem] theorem fld124_0 : fldOff Go.Proofs.Tryz.prog 124 0 = some (0, 1) := by kernel_rfl
@[go_sem] theorem fld124_1 : fldOff Go.Proofs.Tryz.prog 124 1 = some (1, 1) := by kernel_rfl
-- 134: slices.sortedHint
@[go_sem] theorem size134 : tySize Go.Proofs.Tryz.prog 134 = some 1 := by kernel_rfl
@[go_sem] theorem agg134 : tyAgg Go.Proofs.Tryz.prog 134 = some false := by kernel_rfl
@[go_sem] theorem zero134 : tyZero Go.Proofs.Tryz.prog 134 = some [.int .i64 0] := by kernel_rfl
@[go_sem] theorem int134 : tyInt Go.Proofs.Tryz.prog 134 = some .i64 := by kernel_rfl
@[go_sem] theorem und134 : (Program.underlying Go.Proofs.Tryz.prog 134).isSome = true := by kernel_rfl
-- 142: uint32
@[go_sem] theorem size142 : tySize Go.Proofs.Tryz.prog 142 = some 1 := by kernel_rfl
@[go_sem] theorem agg142 : tyAgg Go.Proofs.Tryz.prog 142 = some false := by kernel_rfl
@[go_sem] theorem zero142 : tyZero Go.Proofs.Tryz.prog 142 = some [.int .u32 0] := by kernel_rfl
@[go_sem] theorem int142 : tyInt Go.Proofs.Tryz.prog 142 = some .u32 := by kernel_rfl
@[go_sem] theorem und142 : (Program.underlying Go.Proofs.Tryz.prog 142).isSome = true := by kernel_rfl
-- 144: uint64
@[go_sem] theorem size144 : tySize Go.Proofs.Tryz.prog 144 = some 1 := by kernel_rfl
@[go_sem] theorem agg144 : tyAgg Go.Proofs.Tryz.prog 144 = some false := by kernel_rfl
@[go_sem] theorem zero144 : tyZero Go.Proofs.Tryz.prog 144 = some [.int .u64 0] := by kernel_rfl
@[go_sem] theorem int144 : tyInt Go.Proofs.Tryz.prog 144 = some .u64 := by kernel_rfl
@[go_sem] theorem und144 : (Program.underlying Go.Proofs.Tryz.prog 144).isSome = true := by kernel_rfl
-- 155: slices.xorshift
@[go_sem] theorem size155 : tySize Go.Proofs.Tryz.prog 155 = some 1 := by kernel_rfl
@[go_sem] theorem agg155 : tyAgg Go.Proofs.Tryz.prog 155 = some false := by kernel_rfl
@[go_sem] theorem zero155 : tyZero Go.Proofs.Tryz.prog 155 = some [.int .u64 0] := by kernel_rfl
@[go_sem] theorem int155 : tyInt Go.Proofs.Tryz.prog 155 = some .u64 := by kernel_rfl
@[go_sem] theorem und155 : (Program.underlying Go.Proofs.Tryz.prog 155).isSome = true := by kernel_rfl
-- 159: *int
@[go_sem] theorem size159 : tySize Go.Proofs.Tryz.prog 159 = some 1 := by kernel_rfl
@[go_sem] theorem agg159 : tyAgg Go.Proofs.Tryz.prog 159 = some false := by kernel_rfl
@[go_sem] theorem zero159 : tyZero Go.Proofs.Tryz.prog 159 = some [.pointer none] := by kernel_rfl
-- 173: *slices.xorshift
@[go_sem] theorem size173 : tySize Go.Proofs.Tryz.prog 173 = some 1 := by kernel_rfl
@[go_sem] theorem agg173 : tyAgg Go.Proofs.Tryz.prog 173 = some false := by kernel_rfl
@[go_sem] theorem zero173 : tyZero Go.Proofs.Tryz.prog 173 = some [.pointer none] := by kernel_rfl
-- 178: struct { Kind int; Text string; Line int }
@[go_sem] theorem size178 : tySize Go.Proofs.Tryz.prog 178 = some 3 := by kernel_rfl
@[go_sem] theorem agg178 : tyAgg Go.Proofs.Tryz.prog 178 = some true := by kernel_rfl
@[go_sem] theorem zero178 : tyZero Go.Proofs.Tryz.prog 178 = some [.int .i64 0, .string ⟨#[]⟩, .int .i64 0] := by kernel_rfl
@[go_sem] theorem pl178 : tyPlaces Go.Proofs.Tryz.prog 178 = some [(0, 1), (1, 1), (2, 1)] := by kernel_rfl
@[go_sem] theorem fld178_0 : fldOff Go.Proofs.Tryz.prog 178 0 = some (0, 1) := by kernel_rfl
@[go_sem] theorem fld178_1 : fldOff Go.Proofs.Tryz.prog 178 1 = some (1, 1) := by kernel_rfl
@[go_sem] theorem fld178_2 : fldOff Go.Proofs.Tryz.prog 178 2 = some (2, 1) := by kernel_rfl
-- 179: api.Token
@[go_sem] theorem size179 : tySize Go.Proofs.Tryz.prog 179 = some 3 := by kernel_rfl
@[go_sem] theorem agg179 : tyAgg Go.Proofs.Tryz.prog 179 = some true := by kernel_rfl
@[go_sem] theorem zero179 : tyZero Go.Proofs.Tryz.prog 179 = some [.int .i64 0, .string ⟨#[]⟩, .int .i64 0] := by kernel_rfl
@[go_sem] theorem pl179 : tyPlaces Go.Proofs.Tryz.prog 179 = some [(0, 1), (1, 1), (2, 1)] := by kernel_rfl
@[go_sem] theorem fld179_0 : fldOff Go.Proofs.Tryz.prog 179 0 = some (0, 1) := by kernel_rfl
@[go_sem] theorem fld179_1 : fldOff Go.Proofs.Tryz.prog 179 1 = some (1, 1) := by kernel_rfl
@[go_sem] theorem fld179_2 : fldOff Go.Proofs.Tryz.prog 179 2 = some (2, 1) := by kernel_rfl
-- 204: struct { _interface *abi.Type; concrete *abi.Type; asserted *abi.Type;
@[go_sem] theorem size204 : tySize Go.Proofs.Tryz.prog 204 = some 4 := by kernel_rfl
@[go_sem] theorem agg204 : tyAgg Go.Proofs.Tryz.prog 204 = some true := by kernel_rfl
@[go_sem] theorem zero204 : tyZero Go.Proofs.Tryz.prog 204 = some [.pointer none, .pointer none, .pointer none, .string ⟨#[]⟩] := by kernel_rfl
@[go_sem] theorem pl204 : tyPlaces Go.Proofs.Tryz.prog 204 = some [(0, 1), (1, 1), (2, 1), (3, 1)] := by kernel_rfl
@[go_sem] theorem fld204_0 : fldOff Go.Proofs.Tryz.prog 204 0 = some (0, 1) := by kernel_rfl
@[go_sem] theorem fld204_1 : fldOff Go.Proofs.Tryz.prog 204 1 = some (1, 1) := by kernel_rfl
@[go_sem] theorem fld204_2 : fldOff Go.Proofs.Tryz.prog 204 2 = some (2, 1) := by kernel_rfl
@[go_sem] theorem fld204_3 : fldOff Go.Proofs.Tryz.prog 204 3 = some (3, 1) := by kernel_rfl
-- 205: runtime.TypeAssertionError
@[go_sem] theorem size205 : tySize Go.Proofs.Tryz.prog 205 = some 4 := by kernel_rfl
@[go_sem] theorem agg205 : tyAgg Go.Proofs.Tryz.prog 205 = some true := by kernel_rfl
@[go_sem] theorem zero205 : tyZero Go.Proofs.Tryz.prog 205 = some [.pointer none, .pointer none, .pointer none, .string ⟨#[]⟩] := by kernel_rfl
@[go_sem] theorem pl205 : tyPlaces Go.Proofs.Tryz.prog 205 = some [(0, 1), (1, 1), (2, 1), (3, 1)] := by kernel_rfl
@[go_sem] theorem fld205_0 : fldOff Go.Proofs.Tryz.prog 205 0 = some (0, 1) := by kernel_rfl
@[go_sem] theorem fld205_1 : fldOff Go.Proofs.Tryz.prog 205 1 = some (1, 1) := by kernel_rfl
@[go_sem] theorem fld205_2 : fldOff Go.Proofs.Tryz.prog 205 2 = some (2, 1) := by kernel_rfl
@[go_sem] theorem fld205_3 : fldOff Go.Proofs.Tryz.prog 205 3 = some (3, 1) := by kernel_rfl
-- 206: [0]*runtime.PanicNilError
@[go_sem] theorem size206 : tySize Go.Proofs.Tryz.prog 206 = some 0 := by kernel_rfl
@[go_sem] theorem agg206 : tyAgg Go.Proofs.Tryz.prog 206 = some true := by kernel_rfl
@[go_sem] theorem zero206 : tyZero Go.Proofs.Tryz.prog 206 = some [] := by kernel_rfl
@[go_sem] theorem arr206 : arrOf Go.Proofs.Tryz.prog 206 = some (0, 16) := by kernel_rfl
@[go_sem] theorem pl206 : tyPlaces Go.Proofs.Tryz.prog 206 = some [] := by kernel_rfl
-- 207: struct { _ [0]*runtime.PanicNilError }
@[go_sem] theorem size207 : tySize Go.Proofs.Tryz.prog 207 = some 0 := by kernel_rfl
@[go_sem] theorem agg207 : tyAgg Go.Proofs.Tryz.prog 207 = some true := by kernel_rfl
@[go_sem] theorem zero207 : tyZero Go.Proofs.Tryz.prog 207 = some [] := by kernel_rfl
@[go_sem] theorem pl207 : tyPlaces Go.Proofs.Tryz.prog 207 = some [(0, 0)] := by kernel_rfl
@[go_sem] theorem fld207_0 : fldOff Go.Proofs.Tryz.prog 207 0 = some (0, 0) := by kernel_rfl
-- 208: runtime.PanicNilError
@[go_sem] theorem size208 : tySize Go.Proofs.Tryz.prog 208 = some 0 := by kernel_rfl
@[go_sem] theorem agg208 : tyAgg Go.Proofs.Tryz.prog 208 = some true := by kernel_rfl
@[go_sem] theorem zero208 : tyZero Go.Proofs.Tryz.prog 208 = some [] := by kernel_rfl
@[go_sem] theorem pl208 : tyPlaces Go.Proofs.Tryz.prog 208 = some [(0, 0)] := by kernel_rfl
@[go_sem] theorem fld208_0 : fldOff Go.Proofs.Tryz.prog 208 0 = some (0, 0) := by kernel_rfl
-- 210: abi.TFlag
@[go_sem] theorem size210 : tySize Go.Proofs.Tryz.prog 210 = some 1 := by kernel_rfl
@[go_sem] theorem agg210 : tyAgg Go.Proofs.Tryz.prog 210 = some false := by kernel_rfl
@[go_sem] theorem zero210 : tyZero Go.Proofs.Tryz.prog 210 = some [.int .u8 0] := by kernel_rfl
@[go_sem] theorem int210 : tyInt Go.Proofs.Tryz.prog 210 = some .u8 := by kernel_rfl
@[go_sem] theorem und210 : (Program.underlying Go.Proofs.Tryz.prog 210).isSome = true := by kernel_rfl
-- 211: abi.Kind
@[go_sem] theorem size211 : tySize Go.Proofs.Tryz.prog 211 = some 1 := by kernel_rfl
@[go_sem] theorem agg211 : tyAgg Go.Proofs.Tryz.prog 211 = some false := by kernel_rfl
@[go_sem] theorem zero211 : tyZero Go.Proofs.Tryz.prog 211 = some [.int .u8 0] := by kernel_rfl
@[go_sem] theorem int211 : tyInt Go.Proofs.Tryz.prog 211 = some .u8 := by kernel_rfl
@[go_sem] theorem und211 : (Program.underlying Go.Proofs.Tryz.prog 211).isSome = true := by kernel_rfl
-- 213: *uint8
@[go_sem] theorem size213 : tySize Go.Proofs.Tryz.prog 213 = some 1 := by kernel_rfl
@[go_sem] theorem agg213 : tyAgg Go.Proofs.Tryz.prog 213 = some false := by kernel_rfl
@[go_sem] theorem zero213 : tyZero Go.Proofs.Tryz.prog 213 = some [.pointer none] := by kernel_rfl
-- 214: abi.NameOff
@[go_sem] theorem size214 : tySize Go.Proofs.Tryz.prog 214 = some 1 := by kernel_rfl
@[go_sem] theorem agg214 : tyAgg Go.Proofs.Tryz.prog 214 = some false := by kernel_rfl
@[go_sem] theorem zero214 : tyZero Go.Proofs.Tryz.prog 214 = some [.int .i32 0] := by kernel_rfl
@[go_sem] theorem int214 : tyInt Go.Proofs.Tryz.prog 214 = some .i32 := by kernel_rfl
@[go_sem] theorem und214 : (Program.underlying Go.Proofs.Tryz.prog 214).isSome = true := by kernel_rfl
-- 215: abi.TypeOff
@[go_sem] theorem size215 : tySize Go.Proofs.Tryz.prog 215 = some 1 := by kernel_rfl
@[go_sem] theorem agg215 : tyAgg Go.Proofs.Tryz.prog 215 = some false := by kernel_rfl
@[go_sem] theorem zero215 : tyZero Go.Proofs.Tryz.prog 215 = some [.int .i32 0] := by kernel_rfl
@[go_sem] theorem int215 : tyInt Go.Proofs.Tryz.prog 215 = some .i32 := by kernel_rfl
@[go_sem] theorem und215 : (Program.underlying Go.Proofs.Tryz.prog 215).isSome = true := by kernel_rfl
-- 216: struct { Size_ uintptr; PtrBytes uintptr; Hash uint32; TFlag abi.TFlag
@[go_sem] theorem size216 : tySize Go.Proofs.Tryz.prog 216 = some 11 := by kernel_rfl
@[go_sem] theorem agg216 : tyAgg Go.Proofs.Tryz.prog 216 = some true := by kernel_rfl
@[go_sem] theorem zero216 : tyZero Go.Proofs.Tryz.prog 216 = some [.int .u64 0, .int .u64 0, .int .u32 0, .int .u8 0, .int .u8 0, .int .u8 0, .int .u8 0, .nilFunc, .pointer none, .int .i32 0, .int .i32 0] := by kernel_rfl
-- 217: abi.Type
@[go_sem] theorem size217 : tySize Go.Proofs.Tryz.prog 217 = some 11 := by kernel_rfl
@[go_sem] theorem agg217 : tyAgg Go.Proofs.Tryz.prog 217 = some true := by kernel_rfl
@[go_sem] theorem zero217 : tyZero Go.Proofs.Tryz.prog 217 = some [.int .u64 0, .int .u64 0, .int .u32 0, .int .u8 0, .int .u8 0, .int .u8 0, .int .u8 0, .nilFunc, .pointer none, .int .i32 0, .int .i32 0] := by kernel_rfl
-- 218: unsafe.Pointer
@[go_sem] theorem size218 : tySize Go.Proofs.Tryz.prog 218 = some 1 := by kernel_rfl
@[go_sem] theorem agg218 : tyAgg Go.Proofs.Tryz.prog 218 = some false := by kernel_rfl
@[go_sem] theorem zero218 : tyZero Go.Proofs.Tryz.prog 218 = some [.pointer none] := by kernel_rfl
@[go_sem] theorem sk45 : structK Go.Proofs.Tryz.prog 45 = some [.i, .i] := by kernel_rfl
@[go_sem] theorem sk73 : structK Go.Proofs.Tryz.prog 73 = some [.i, .i, .i] := by kernel_rfl
@[go_sem] theorem sk99 : structK Go.Proofs.Tryz.prog 99 = some [.s, .i, .i, .i, .i, .i, .i] := by kernel_rfl
@[go_sem] theorem sk179 : structK Go.Proofs.Tryz.prog 179 = some [.i, .s, .i] := by kernel_rfl
end Go.Proofs.YtdlohnchnneaeaaGreat.Ty
/- Go's data of this program as plain data, and how they are encoded. -/
namespace Go.Proofs.YtdlohnchnneaeaaGreat
open Go.Abs

/-- an int -/
def pI (n : Int) : PV := .val (.int .i64 n)
def pB (b : Bool) : PV := .val (.bool b)
def pS (s : ByteArray) : PV := .val (.string s)
def encI (n : Int) : List PV := [.val (.int .i64 n)]
def encS (s : ByteArray) : List PV := [.val (.string s)]
def encInts (l : List Int) : PV := .lst (l.map encI)
def encStrs (l : List ByteArray) : PV := .lst (l.map encS)

structure Attr where
  name : ByteArray
  low : Int
  high : Int
  names : List ByteArray
structure NodeT where
  name : ByteArray
  parent : Int
  abs : Bool
  attrs : List Attr
structure EdgeT where
  name : ByteArray
  src : Int
  dst : Int
  outLow : Int
  outHigh : Int
  inLow : Int
  inHigh : Int
structure Types where
  nodes : List NodeT
  edges : List EdgeT
structure Sorts where
  nodes : List Int
  edges : List Int
structure Edge where
  type : Int
  src : Int
  dst : Int
structure Graph where
  nodes : List Int
  edges : List Edge
structure Host where
  graph : Graph
  values : List (List Int)
structure GPair where
  a : Int
  b : Int

instance : Inhabited ByteArray := ⟨.empty⟩
instance : Inhabited Attr := ⟨⟨.empty, 0, 0, []⟩⟩
instance : Inhabited NodeT := ⟨⟨.empty, 0, false, []⟩⟩
instance : Inhabited EdgeT := ⟨⟨.empty, 0, 0, 0, 0, 0, 0⟩⟩
instance : Inhabited Edge := ⟨⟨0, 0, 0⟩⟩
instance : Inhabited GPair := ⟨⟨0, 0⟩⟩

def encAttr (a : Attr) : List PV := [.val (.string a.name), .val (.int .i64 a.low), .val (.int .i64 a.high), encStrs a.names]
def encNode (n : NodeT) : List PV := [.val (.string n.name), .val (.int .i64 n.parent), .val (.bool n.abs), .lst (n.attrs.map encAttr)]
def encEdgeT (e : EdgeT) : List PV := [.val (.string e.name), .val (.int .i64 e.src), .val (.int .i64 e.dst), .val (.int .i64 e.outLow), .val (.int .i64 e.outHigh), .val (.int .i64 e.inLow), .val (.int .i64 e.inHigh)]
def encEdge (e : Edge) : List PV := [.val (.int .i64 e.type), .val (.int .i64 e.src), .val (.int .i64 e.dst)]
def encPair (p : GPair) : List PV := [.val (.int .i64 p.a), .val (.int .i64 p.b)]
def encRow (l : List Int) : List PV := [encInts l]
def encTypes (t : Types) : PV := .agg [.lst (t.nodes.map encNode), .lst (t.edges.map encEdgeT)]
def encSorts (s : Sorts) : PV := .agg [encInts s.nodes, encInts s.edges]
def encGraph (g : Graph) : PV := .agg [encInts g.nodes, .lst (g.edges.map encEdge)]
def encHost (h : Host) : PV := .agg [encInts h.graph.nodes, .lst (h.graph.edges.map encEdge), .lst (h.values.map encRow)]

theorem getD_map {α : Type} [Inhabited α] (f : α → List PV) {l : List α} {n : Nat} (h : n < l.length) : (l.map f).getD n [] = f (l.getD n default) := by
  simp [h]
theorem take_succ_getD {α : Type} [Inhabited α] {l : List α} {n : Nat} (h : n < l.length) : l.take (n + 1) = l.take n ++ [l.getD n default] := by
  rw [List.take_add_one]; simp [h]
theorem wrap_succ {k n : Nat} (h : k < n) (hn : n ≤ 4611686018427387904) : IntKind.i64.wrap ((k : Int) + 1) = ((k + 1 : Nat) : Int) := by
  rw [IntWalk.i64_in _ (by omega)]; omega

section
variable {P : Program} {N : Nat} {own : List Nat} {ops : Array Oper} {K : Env → AHeap → Prop} {env : Env} {H : AHeap}
theorem lend1_p (x : PV) : lend1 H (.p x) = some (x, false) := rfl
theorem lendL_map (ps : List PV) : lendL (lend1 H) (ps.map AV.p) = some (ps, false) := by
  induction ps with
  | nil => rfl
  | cons a r ih => simp [lendL, lend1_p, ih]
theorem lendL_app (qs bs : List AV) : lendL (lend1 H) (qs ++ bs) = (match lendL (lend1 H) qs, lendL (lend1 H) bs with | some (xs, b), some (ys, c) => some (xs ++ ys, b || c) | _, _ => none) := by
  induction qs with
  | nil =>
    simp only [List.nil_append, lendL]
    cases lendL (lend1 H) bs with
    | none => rfl
    | some r => obtain ⟨ys, c⟩ := r; simp
  | cons a r ih =>
    simp only [List.cons_append, lendL, ih]
    cases lend1 H a with
    | none => rfl
    | some q =>
      cases lendL (lend1 H) r with
      | none => rfl
      | some r1 =>
        cases lendL (lend1 H) bs with
        | none => rfl
        | some r2 => simp [Bool.or_assoc]
theorem lendL_clo (fs cs : List PV) (qs : List AV) : lendL (lend1 H) (fs.map AV.p ++ qs ++ cs.map AV.p) = (match lendL (lend1 H) qs with | some (xs, b) => some (fs ++ xs ++ cs, b) | none => none) := by
  rw [lendL_app, lendL_app, lendL_map, lendL_map]
  cases lendL (lend1 H) qs with
  | none => rfl
  | some r => obtain ⟨xs, b⟩ := r; simp
theorem condC_splitN {b : Bool} {x y : Code} {K : Kont} (h1 : b = true → condC P N own (.p (.val (.bool false))) x y K env H) (h2 : b = false → condC P N own (.p (.val (.bool true))) x y K env H) : condC P N own (.p (.val (.bool !b))) x y K env H := by
  cases b
  · exact h2 rfl
  · exact h1 rfl
/-- A guard that is not known: both ways. -/
theorem walkG_split {b : Bool} {o : Oper} {rest : List Oper} (h1 : b = true → walkG P N own ops (some true) o rest K env H) (h2 : b = false → walkG P N own ops (some false) o rest K env H) : walkG P N own ops (some b) o rest K env H := by
  cases b
  · exact h2 rfl
  · exact h1 rfl
theorem walkG_splitN {b : Bool} {o : Oper} {rest : List Oper} (h1 : b = true → walkG P N own ops (some false) o rest K env H) (h2 : b = false → walkG P N own ops (some true) o rest K env H) : walkG P N own ops (some !b) o rest K env H := by
  cases b
  · exact h2 rfl
  · exact h1 rfl
theorem walkDG_splitN {b : Bool} {c : Cls} {o : Oper} {rest : List (Oper × Cls)} (h1 : b = true → walkDG P N own ops (some false) c o rest K env H) (h2 : b = false → walkDG P N own ops (some true) c o rest K env H) : walkDG P N own ops (some !b) c o rest K env H := by
  cases b
  · exact h2 rfl
  · exact h1 rfl
theorem walkDG_split {b : Bool} {c : Cls} {o : Oper} {rest : List (Oper × Cls)} (h1 : b = true → walkDG P N own ops (some true) c o rest K env H) (h2 : b = false → walkDG P N own ops (some false) c o rest K env H) : walkDG P N own ops (some b) c o rest K env H := by
  cases b
  · exact h2 rfl
  · exact h1 rfl
end
end Go.Proofs.YtdlohnchnneaeaaGreat
/- The small tests. -/
namespace Go.Proofs.YtdlohnchnneaeaaGreat
open Go.Abs

theorem is_ok (n : Int) : CallV Go.Proofs.Tryz.prog 65 [.val (.int .i64 n)] (fun r => r = .val (.bool (decide (1 ≤ n) && decide (n ≤ 3)))) := by
  refine callV_of_cw [] Ty.mixed Go.Proofs.Tryz.func65 rfl (by kernel_rfl) (by simp [Go.Proofs.Tryz.ntmps65]) ?_; rw [Go.Proofs.Tryz.ntmps65, Go.Proofs.Tryz.results65]
  simp -implicitDefEqProofs only [go_sem, Nat.reduceEqDiff, Nat.reduceLT, Nat.reduceLeDiff, Nat.reduceMul, Nat.reduceAdd, reduceIte, reduceCtorEq, Nat.le_refl, Nat.not_lt_zero, Nat.zero_le, Nat.zero_lt_succ, decide_true, decide_false, Nat.reduceBEq, Nat.reduceSub, Int.reduceToNat, Bool.not_not, exists_eq', ← List.map_take, ← List.map_drop]
  refine walkG_split (fun h => ?_) (fun h => ?_) <;> simp -implicitDefEqProofs only [go_sem, Nat.reduceEqDiff, Nat.reduceLT, Nat.reduceLeDiff, Nat.reduceMul, Nat.reduceAdd, reduceIte, reduceCtorEq, Nat.le_refl, Nat.not_lt_zero, Nat.zero_le, Nat.zero_lt_succ, decide_true, decide_false, Nat.reduceBEq, Nat.reduceSub, Int.reduceToNat, Bool.not_not, exists_eq', ← List.map_take, ← List.map_drop, h]

theorem sort_ok (n : Int) : CallV Go.Proofs.Tryz.prog 68 [.val (.int .i64 n)] (fun r => r = .val (.bool (decide (1 ≤ n) && decide (n ≤ 3)))) := by
  refine callV_of_cw [] Ty.mixed Go.Proofs.Tryz.func68 rfl (by kernel_rfl) (by simp [Go.Proofs.Tryz.ntmps68]) ?_; rw [Go.Proofs.Tryz.ntmps68, Go.Proofs.Tryz.results68]
  simp -implicitDefEqProofs only [go_sem, Nat.reduceEqDiff, Nat.reduceLT, Nat.reduceLeDiff, Nat.reduceMul, Nat.reduceAdd, reduceIte, reduceCtorEq, Nat.le_refl, Nat.not_lt_zero, Nat.zero_le, Nat.zero_lt_succ, decide_true, decide_false, Nat.reduceBEq, Nat.reduceSub, Int.reduceToNat, Bool.not_not, exists_eq', ← List.map_take, ← List.map_drop]
  refine walkG_split (fun h => ?_) (fun h => ?_) <;> simp -implicitDefEqProofs only [go_sem, Nat.reduceEqDiff, Nat.reduceLT, Nat.reduceLeDiff, Nat.reduceMul, Nat.reduceAdd, reduceIte, reduceCtorEq, Nat.le_refl, Nat.not_lt_zero, Nat.zero_le, Nat.zero_lt_succ, decide_true, decide_false, Nat.reduceBEq, Nat.reduceSub, Int.reduceToNat, Bool.not_not, exists_eq', ← List.map_take, ← List.map_drop, h]

theorem in_ok (n a b : Int) : CallV Go.Proofs.Tryz.prog 82 [.val (.int .i64 n), .val (.int .i64 a), .val (.int .i64 b)] (fun r => r = .val (.bool (decide (a ≤ n) && decide (n ≤ b)))) := by
  refine callV_of_cw [] Ty.mixed Go.Proofs.Tryz.func82 rfl (by kernel_rfl) (by simp [Go.Proofs.Tryz.ntmps82]) ?_; rw [Go.Proofs.Tryz.ntmps82, Go.Proofs.Tryz.results82]
  simp -implicitDefEqProofs only [go_sem, Nat.reduceEqDiff, Nat.reduceLT, Nat.reduceLeDiff, Nat.reduceMul, Nat.reduceAdd, reduceIte, reduceCtorEq, Nat.le_refl, Nat.not_lt_zero, Nat.zero_le, Nat.zero_lt_succ, decide_true, decide_false, Nat.reduceBEq, Nat.reduceSub, Int.reduceToNat, Bool.not_not, exists_eq', ← List.map_take, ← List.map_drop]
  refine walkG_split (fun h => ?_) (fun h => ?_) <;> simp -implicitDefEqProofs only [go_sem, Nat.reduceEqDiff, Nat.reduceLT, Nat.reduceLeDiff, Nat.reduceMul, Nat.reduceAdd, reduceIte, reduceCtorEq, Nat.le_refl, Nat.not_lt_zero, Nat.zero_le, Nat.zero_lt_succ, decide_true, decide_false, Nat.reduceBEq, Nat.reduceSub, Int.reduceToNat, Bool.not_not, exists_eq', ← List.map_take, ← List.map_drop, h]

theorem within_ok (n m : Int) : CallV Go.Proofs.Tryz.prog 104 [.val (.int .i64 n), .val (.int .i64 m)] (fun r => r = .val (.bool (decide (0 ≤ n) && decide (n ≤ m)))) := by
  refine callV_of_cw [] Ty.mixed Go.Proofs.Tryz.func104 rfl (by kernel_rfl) (by simp [Go.Proofs.Tryz.ntmps104]) ?_; rw [Go.Proofs.Tryz.ntmps104, Go.Proofs.Tryz.results104]
  simp -implicitDefEqProofs only [go_sem, Nat.reduceEqDiff, Nat.reduceLT, Nat.reduceLeDiff, Nat.reduceMul, Nat.reduceAdd, reduceIte, reduceCtorEq, Nat.le_refl, Nat.not_lt_zero, Nat.zero_le, Nat.zero_lt_succ, decide_true, decide_false, Nat.reduceBEq, Nat.reduceSub, Int.reduceToNat, Bool.not_not, exists_eq', ← List.map_take, ← List.map_drop]
  refine walkG_split (fun h => ?_) (fun h => ?_) <;> simp -implicitDefEqProofs only [go_sem, Nat.reduceEqDiff, Nat.reduceLT, Nat.reduceLeDiff, Nat.reduceMul, Nat.reduceAdd, reduceIte, reduceCtorEq, Nat.le_refl, Nat.not_lt_zero, Nat.zero_le, Nat.zero_lt_succ, decide_true, decide_false, Nat.reduceBEq, Nat.reduceSub, Int.reduceToNat, Bool.not_not, exists_eq', ← List.map_take, ← List.map_drop, h]
end Go.Proofs.YtdlohnchnneaeaaGreat
/- The small tests, continued. -/
namespace Go.Proofs.YtdlohnchnneaeaaGreat
open Go.Abs

def boundB (a b : Int) : Bool := (decide (0 ≤ a) && decide (a ≤ 40)) && (decide (b = -1) || (decide (a ≤ b) && decide (b ≤ 40)))
theorem bounded_ok (a b : Int) : CallV Go.Proofs.Tryz.prog 126 [.val (.int .i64 a), .val (.int .i64 b)] (fun r => r = .val (.bool (boundB a b))) := by
  unfold boundB
  refine callV_of_cw [] Ty.mixed Go.Proofs.Tryz.func126 rfl (by kernel_rfl) (by simp [Go.Proofs.Tryz.ntmps126]) ?_; rw [Go.Proofs.Tryz.ntmps126, Go.Proofs.Tryz.results126]
  simp -implicitDefEqProofs only [go_sem, Nat.reduceEqDiff, Nat.reduceLT, Nat.reduceLeDiff, Nat.reduceMul, Nat.reduceAdd, reduceIte, reduceCtorEq, Nat.le_refl, Nat.not_lt_zero, Nat.zero_le, Nat.zero_lt_succ, decide_true, decide_false, Nat.reduceBEq, Nat.reduceSub, Int.reduceToNat, Bool.not_not, exists_eq', ← List.map_take, ← List.map_drop]
  repeat' first | done | (refine walkG_splitN (fun h => ?_) (fun h => ?_) <;> try simp -implicitDefEqProofs only [go_sem, Nat.reduceEqDiff, Nat.reduceLT, Nat.reduceLeDiff, Nat.reduceMul, Nat.reduceAdd, reduceIte, reduceCtorEq, Nat.le_refl, Nat.not_lt_zero, Nat.zero_le, Nat.zero_lt_succ, decide_true, decide_false, Nat.reduceBEq, Nat.reduceSub, Int.reduceToNat, Bool.not_not, exists_eq', ← List.map_take, ← List.map_drop, h]) | (refine walkG_split (fun h => ?_) (fun h => ?_) <;> try simp -implicitDefEqProofs only [go_sem, Nat.reduceEqDiff, Nat.reduceLT, Nat.reduceLeDiff, Nat.reduceMul, Nat.reduceAdd, reduceIte, reduceCtorEq, Nat.le_refl, Nat.not_lt_zero, Nat.zero_le, Nat.zero_lt_succ, decide_true, decide_false, Nat.reduceBEq, Nat.reduceSub, Int.reduceToNat, Bool.not_not, exists_eq', ← List.map_take, ← List.map_drop, h]) | (refine condC_splitN (fun h => ?_) (fun h => ?_) <;> try simp -implicitDefEqProofs only [go_sem, Nat.reduceEqDiff, Nat.reduceLT, Nat.reduceLeDiff, Nat.reduceMul, Nat.reduceAdd, reduceIte, reduceCtorEq, Nat.le_refl, Nat.not_lt_zero, Nat.zero_le, Nat.zero_lt_succ, decide_true, decide_false, Nat.reduceBEq, Nat.reduceSub, Int.reduceToNat, Bool.not_not, exists_eq', ← List.map_take, ← List.map_drop, h]) | (refine condC_split (fun h => ?_) (fun h => ?_) <;> try simp -implicitDefEqProofs only [go_sem, Nat.reduceEqDiff, Nat.reduceLT, Nat.reduceLeDiff, Nat.reduceMul, Nat.reduceAdd, reduceIte, reduceCtorEq, Nat.le_refl, Nat.not_lt_zero, Nat.zero_le, Nat.zero_lt_succ, decide_true, decide_false, Nat.reduceBEq, Nat.reduceSub, Int.reduceToNat, Bool.not_not, exists_eq', ← List.map_take, ← List.map_drop, h])
theorem bound_ok (a b : Int) : CallV Go.Proofs.Tryz.prog 129 [.val (.int .i64 a), .val (.int .i64 b)] (fun r => r = .val (.bool (boundB a b))) := by
  unfold boundB
  refine callV_of_cw [] Ty.mixed Go.Proofs.Tryz.func129 rfl (by kernel_rfl) (by simp [Go.Proofs.Tryz.ntmps129]) ?_; rw [Go.Proofs.Tryz.ntmps129, Go.Proofs.Tryz.results129]
  simp -implicitDefEqProofs only [go_sem, Nat.reduceEqDiff, Nat.reduceLT, Nat.reduceLeDiff, Nat.reduceMul, Nat.reduceAdd, reduceIte, reduceCtorEq, Nat.le_refl, Nat.not_lt_zero, Nat.zero_le, Nat.zero_lt_succ, decide_true, decide_false, Nat.reduceBEq, Nat.reduceSub, Int.reduceToNat, Bool.not_not, exists_eq', ← List.map_take, ← List.map_drop]
  refine call_go (in_ok a 0 40) (by simp -implicitDefEqProofs only [go_sem, Nat.reduceEqDiff, Nat.reduceLT, Nat.reduceLeDiff, Nat.reduceMul, Nat.reduceAdd, reduceIte, reduceCtorEq, Nat.le_refl, Nat.not_lt_zero, Nat.zero_le, Nat.zero_lt_succ, decide_true, decide_false, Nat.reduceBEq, Nat.reduceSub, Int.reduceToNat, Bool.not_not, exists_eq', ← List.map_take, ← List.map_drop] <;> rfl) (scal rfl) ?_
  simp -implicitDefEqProofs only [go_sem, Nat.reduceEqDiff, Nat.reduceLT, Nat.reduceLeDiff, Nat.reduceMul, Nat.reduceAdd, reduceIte, reduceCtorEq, Nat.le_refl, Nat.not_lt_zero, Nat.zero_le, Nat.zero_lt_succ, decide_true, decide_false, Nat.reduceBEq, Nat.reduceSub, Int.reduceToNat, Bool.not_not, exists_eq', ← List.map_take, ← List.map_drop]
  repeat' first | done | (refine walkG_splitN (fun h => ?_) (fun h => ?_) <;> try simp -implicitDefEqProofs only [go_sem, Nat.reduceEqDiff, Nat.reduceLT, Nat.reduceLeDiff, Nat.reduceMul, Nat.reduceAdd, reduceIte, reduceCtorEq, Nat.le_refl, Nat.not_lt_zero, Nat.zero_le, Nat.zero_lt_succ, decide_true, decide_false, Nat.reduceBEq, Nat.reduceSub, Int.reduceToNat, Bool.not_not, exists_eq', ← List.map_take, ← List.map_drop, h]) | (refine walkG_split (fun h => ?_) (fun h => ?_) <;> try simp -implicitDefEqProofs only [go_sem, Nat.reduceEqDiff, Nat.reduceLT, Nat.reduceLeDiff, Nat.reduceMul, Nat.reduceAdd, reduceIte, reduceCtorEq, Nat.le_refl, Nat.not_lt_zero, Nat.zero_le, Nat.zero_lt_succ, decide_true, decide_false, Nat.reduceBEq, Nat.reduceSub, Int.reduceToNat, Bool.not_not, exists_eq', ← List.map_take, ← List.map_drop, h]) | (refine condC_splitN (fun h => ?_) (fun h => ?_) <;> try simp -implicitDefEqProofs only [go_sem, Nat.reduceEqDiff, Nat.reduceLT, Nat.reduceLeDiff, Nat.reduceMul, Nat.reduceAdd, reduceIte, reduceCtorEq, Nat.le_refl, Nat.not_lt_zero, Nat.zero_le, Nat.zero_lt_succ, decide_true, decide_false, Nat.reduceBEq, Nat.reduceSub, Int.reduceToNat, Bool.not_not, exists_eq', ← List.map_take, ← List.map_drop, h]) | (refine condC_split (fun h => ?_) (fun h => ?_) <;> try simp -implicitDefEqProofs only [go_sem, Nat.reduceEqDiff, Nat.reduceLT, Nat.reduceLeDiff, Nat.reduceMul, Nat.reduceAdd, reduceIte, reduceCtorEq, Nat.le_refl, Nat.not_lt_zero, Nat.zero_le, Nat.zero_lt_succ, decide_true, decide_false, Nat.reduceBEq, Nat.reduceSub, Int.reduceToNat, Bool.not_not, exists_eq', ← List.map_take, ← List.map_drop, h])
  all_goals
    refine call_go (in_ok b a 40) (by simp -implicitDefEqProofs only [go_sem, Nat.reduceEqDiff, Nat.reduceLT, Nat.reduceLeDiff, Nat.reduceMul, Nat.reduceAdd, reduceIte, reduceCtorEq, Nat.le_refl, Nat.not_lt_zero, Nat.zero_le, Nat.zero_lt_succ, decide_true, decide_false, Nat.reduceBEq, Nat.reduceSub, Int.reduceToNat, Bool.not_not, exists_eq', ← List.map_take, ← List.map_drop] <;> rfl) (scal rfl) ?_
    simp -implicitDefEqProofs only [go_sem, Nat.reduceEqDiff, Nat.reduceLT, Nat.reduceLeDiff, Nat.reduceMul, Nat.reduceAdd, reduceIte, reduceCtorEq, Nat.le_refl, Nat.not_lt_zero, Nat.zero_le, Nat.zero_lt_succ, decide_true, decide_false, Nat.reduceBEq, Nat.reduceSub, Int.reduceToNat, Bool.not_not, exists_eq', ← List.map_take, ← List.map_drop, *]

def letterB (n : Int) : Bool := (decide (97 ≤ n) && decide (n ≤ 122)) || (decide (65 ≤ n) && decide (n ≤ 90))
def digitB (n : Int) : Bool := decide (48 ≤ n) && decide (n ≤ 57)
def partB (n : Int) : Bool := (letterB n || digitB n) || decide (n = 95)
theorem letter_ok (n : Int) : CallV Go.Proofs.Tryz.prog 161 [.val (.int .u8 n)] (fun r => r = .val (.bool (letterB n))) := by
  unfold letterB
  refine callV_of_cw [] Ty.mixed Go.Proofs.Tryz.func161 rfl (by kernel_rfl) (by simp [Go.Proofs.Tryz.ntmps161]) ?_; rw [Go.Proofs.Tryz.ntmps161, Go.Proofs.Tryz.results161]
  simp -implicitDefEqProofs only [go_sem, Nat.reduceEqDiff, Nat.reduceLT, Nat.reduceLeDiff, Nat.reduceMul, Nat.reduceAdd, reduceIte, reduceCtorEq, Nat.le_refl, Nat.not_lt_zero, Nat.zero_le, Nat.zero_lt_succ, decide_true, decide_false, Nat.reduceBEq, Nat.reduceSub, Int.reduceToNat, Bool.not_not, exists_eq', ← List.map_take, ← List.map_drop]
  repeat' first | done | (refine walkG_splitN (fun h => ?_) (fun h => ?_) <;> try simp -implicitDefEqProofs only [go_sem, Nat.reduceEqDiff, Nat.reduceLT, Nat.reduceLeDiff, Nat.reduceMul, Nat.reduceAdd, reduceIte, reduceCtorEq, Nat.le_refl, Nat.not_lt_zero, Nat.zero_le, Nat.zero_lt_succ, decide_true, decide_false, Nat.reduceBEq, Nat.reduceSub, Int.reduceToNat, Bool.not_not, exists_eq', ← List.map_take, ← List.map_drop, h]) | (refine walkG_split (fun h => ?_) (fun h => ?_) <;> try simp -implicitDefEqProofs only [go_sem, Nat.reduceEqDiff, Nat.reduceLT, Nat.reduceLeDiff, Nat.reduceMul, Nat.reduceAdd, reduceIte, reduceCtorEq, Nat.le_refl, Nat.not_lt_zero, Nat.zero_le, Nat.zero_lt_succ, decide_true, decide_false, Nat.reduceBEq, Nat.reduceSub, Int.reduceToNat, Bool.not_not, exists_eq', ← List.map_take, ← List.map_drop, h]) | (refine condC_splitN (fun h => ?_) (fun h => ?_) <;> try simp -implicitDefEqProofs only [go_sem, Nat.reduceEqDiff, Nat.reduceLT, Nat.reduceLeDiff, Nat.reduceMul, Nat.reduceAdd, reduceIte, reduceCtorEq, Nat.le_refl, Nat.not_lt_zero, Nat.zero_le, Nat.zero_lt_succ, decide_true, decide_false, Nat.reduceBEq, Nat.reduceSub, Int.reduceToNat, Bool.not_not, exists_eq', ← List.map_take, ← List.map_drop, h]) | (refine condC_split (fun h => ?_) (fun h => ?_) <;> try simp -implicitDefEqProofs only [go_sem, Nat.reduceEqDiff, Nat.reduceLT, Nat.reduceLeDiff, Nat.reduceMul, Nat.reduceAdd, reduceIte, reduceCtorEq, Nat.le_refl, Nat.not_lt_zero, Nat.zero_le, Nat.zero_lt_succ, decide_true, decide_false, Nat.reduceBEq, Nat.reduceSub, Int.reduceToNat, Bool.not_not, exists_eq', ← List.map_take, ← List.map_drop, h])
end Go.Proofs.YtdlohnchnneaeaaGreat
/- slices.IndexFunc, ContainsFunc, Index, Contains. -/
namespace Go.Proofs.YtdlohnchnneaeaaGreat
open Go.Abs

def idxOf {α : Type} (p : α → Bool) (l : List α) : Int := match l.findIdx? p with
  | some i => i
  | none => -1
theorem idxOf_at {α : Type} [Inhabited α] {p : α → Bool} {l : List α} {k : Nat} (hk : k < l.length) (h1 : ∀ j, j < k → p (l.getD j default) = false) (h2 : p (l.getD k default) = true) : idxOf p l = k := by
  have : l.findIdx? p = some k := by
    rw [List.findIdx?_eq_some_iff_getElem]
    refine ⟨hk, by simpa [hk] using h2, fun j hj => ?_⟩
    have := h1 j hj
    have hjl : j < l.length := by omega
    simpa [hjl] using this
  simp [idxOf, this]
theorem idxOf_none {α : Type} [Inhabited α] {p : α → Bool} {l : List α} (h1 : ∀ j, j < l.length → p (l.getD j default) = false) : idxOf p l = -1 := by
  have : l.findIdx? p = none := by
    rw [List.findIdx?_eq_none_iff]
    intro x hx
    obtain ⟨j, hj, rfl⟩ := List.getElem_of_mem hx
    have := h1 j hj
    simpa [hj] using this
  simp [idxOf, this]
theorem idxOf_any {α : Type} {p : α → Bool} {l : List α} : decide (0 ≤ idxOf p l) = l.any p := by
  unfold idxOf
  cases h : l.findIdx? p with
  | none =>
    rw [List.findIdx?_eq_none_iff] at h
    have : l.any p = false := by simpa using h
    simp [this]
  | some i =>
    rw [List.findIdx?_eq_some_iff_getElem] at h
    obtain ⟨hi, h, _⟩ := h
    have : l.any p = true := List.any_eq_true.2 ⟨_, List.getElem_mem hi, h⟩
    simp [this]
def pA (cs : List PV) : PV := .agg cs
def pV (cs : List PV) : PV := cs.getD 0 .emp

theorem index_attr (p : Attr → Bool) (l : List Attr) (hl : l.length ≤ 1000000) (k : FuncId) (fs cs : List PV) (hp : ∀ x ∈ l, CallV Go.Proofs.Tryz.prog k (fs ++ [pA (encAttr x)] ++ cs) (fun r => r = .val (.bool (p x)))) :
    CallV Go.Proofs.Tryz.prog 157 [.lst (l.map encAttr), .clo (.func k) fs cs] (fun r => r = .val (.int .i64 (idxOf p l))) := by
  refine callV_of_cw [] Ty.mixed Go.Proofs.Tryz.func157 rfl (by kernel_rfl) (by simp [Go.Proofs.Tryz.ntmps157]) ?_; rw [Go.Proofs.Tryz.ntmps157, Go.Proofs.Tryz.results157]
  simp -implicitDefEqProofs only [go_sem, Nat.reduceEqDiff, Nat.reduceLT, Nat.reduceLeDiff, Nat.reduceMul, Nat.reduceAdd, reduceIte, reduceCtorEq, Nat.le_refl, Nat.not_lt_zero, Nat.zero_le, Nat.zero_lt_succ, decide_true, decide_false, Nat.reduceBEq, Nat.reduceSub, Int.reduceToNat, Bool.not_not, exists_eq', ← List.map_take, ← List.map_drop]
  refine loop_rule (σ := Nat) (fun x => (upd (upd (upd (upd env0 0 (.p (.lst (l.map encAttr)))) 1 (.p (.clo (.func k) fs cs))) 7 (.p (.val (.int .i64 l.length)))) 8 (.p (.val (.int .i64 x))))) (fun x => heap0)
    (fun x => x ≤ l.length ∧ ∀ j, j < x → p (l.getD j default) = false) (fun x => l.length - x) 0 ⟨Nat.zero_le _, fun j hj => absurd hj (Nat.not_lt_zero j)⟩ (weak_mk (by repeat (first | exact sub_env0 _ | refine sub_upd ?_ (by first | rfl | simp [upd]))) (by repeat (first | exact hsub0 _ | refine hsub_hset ?_ (by first | rfl | simp [hset]))) (by repeat (first | exact ids_env0 _ | refine ids_upd ?_ (by simp [idsOk, idsOkL, hset]))) (by repeat (first | exact boxIds0 _ | refine boxIds_row ?_ | refine boxIds_shut ?_ | refine boxIds_box ?_ (by simp [idsOk, idsOkL, hset]))) (by repeat (first | exact keep0 _ | refine keep_low (by decide) ?_ | refine keep_high (by simp [hset]) ?_))) ?_
  rintro x ⟨hx, hq⟩
  simp -implicitDefEqProofs only [go_sem, Nat.reduceEqDiff, Nat.reduceLT, Nat.reduceLeDiff, Nat.reduceMul, Nat.reduceAdd, reduceIte, reduceCtorEq, Nat.le_refl, Nat.not_lt_zero, Nat.zero_le, Nat.zero_lt_succ, decide_true, decide_false, Nat.reduceBEq, Nat.reduceSub, Int.reduceToNat, Bool.not_not, exists_eq', ← List.map_take, ← List.map_drop]
  refine condC_split (fun hc => ?_) (fun hc => ?_)
  · have hlt : x < l.length := by simpa using hc
    simp -implicitDefEqProofs only [go_sem, Nat.reduceEqDiff, Nat.reduceLT, Nat.reduceLeDiff, Nat.reduceMul, Nat.reduceAdd, reduceIte, reduceCtorEq, Nat.le_refl, Nat.not_lt_zero, Nat.zero_le, Nat.zero_lt_succ, decide_true, decide_false, Nat.reduceBEq, Nat.reduceSub, Int.reduceToNat, Bool.not_not, exists_eq', ← List.map_take, ← List.map_drop, getD_map encAttr hlt, hlt, encAttr]
    refine call_go (hp (l.getD x default) (by simp [hlt])) (by simp -implicitDefEqProofs only [go_sem, Nat.reduceEqDiff, Nat.reduceLT, Nat.reduceLeDiff, Nat.reduceMul, Nat.reduceAdd, reduceIte, reduceCtorEq, Nat.le_refl, Nat.not_lt_zero, Nat.zero_le, Nat.zero_lt_succ, decide_true, decide_false, Nat.reduceBEq, Nat.reduceSub, Int.reduceToNat, Bool.not_not, exists_eq', ← List.map_take, ← List.map_drop, lendL_app, lendL_map, encAttr, pA, Bool.or_false, Bool.false_or] <;> rfl) (scal rfl) ?_
    simp -implicitDefEqProofs only [go_sem, Nat.reduceEqDiff, Nat.reduceLT, Nat.reduceLeDiff, Nat.reduceMul, Nat.reduceAdd, reduceIte, reduceCtorEq, Nat.le_refl, Nat.not_lt_zero, Nat.zero_le, Nat.zero_lt_succ, decide_true, decide_false, Nat.reduceBEq, Nat.reduceSub, Int.reduceToNat, Bool.not_not, exists_eq', ← List.map_take, ← List.map_drop]
    refine condC_split (fun hb => ?_) (fun hb => ?_) <;> simp -implicitDefEqProofs only [go_sem, Nat.reduceEqDiff, Nat.reduceLT, Nat.reduceLeDiff, Nat.reduceMul, Nat.reduceAdd, reduceIte, reduceCtorEq, Nat.le_refl, Nat.not_lt_zero, Nat.zero_le, Nat.zero_lt_succ, decide_true, decide_false, Nat.reduceBEq, Nat.reduceSub, Int.reduceToNat, Bool.not_not, exists_eq', ← List.map_take, ← List.map_drop]
    · exact (idxOf_at hlt hq hb).symm
    · refine loopN_mk (x + 1) ⟨hlt, fun j hj => ?_⟩ (by omega) ?_
      · rcases Nat.lt_succ_iff_lt_or_eq.1 hj with h | h
        · exact hq j h
        · rw [h]; exact hb
      · rw [wrap_succ hlt (by omega)]
        exact (weak_mk (by repeat (first | exact sub_env0 _ | refine sub_upd ?_ (by first | rfl | simp [upd]))) (by repeat (first | exact hsub0 _ | refine hsub_hset ?_ (by first | rfl | simp [hset]))) (by repeat (first | exact ids_env0 _ | refine ids_upd ?_ (by simp [idsOk, idsOkL, hset]))) (by repeat (first | exact boxIds0 _ | refine boxIds_row ?_ | refine boxIds_shut ?_ | refine boxIds_box ?_ (by simp [idsOk, idsOkL, hset]))) (by repeat (first | exact keep0 _ | refine keep_low (by decide) ?_ | refine keep_high (by simp [hset]) ?_)))
  · have hge : l.length ≤ x := by simpa using hc
    simp -implicitDefEqProofs only [go_sem, Nat.reduceEqDiff, Nat.reduceLT, Nat.reduceLeDiff, Nat.reduceMul, Nat.reduceAdd, reduceIte, reduceCtorEq, Nat.le_refl, Nat.not_lt_zero, Nat.zero_le, Nat.zero_lt_succ, decide_true, decide_false, Nat.reduceBEq, Nat.reduceSub, Int.reduceToNat, Bool.not_not, exists_eq', ← List.map_take, ← List.map_drop, hc]
    rw [idxOf_none fun j hj => hq j (by omega)]
theorem contains_attr (p : Attr → Bool) (l : List Attr) (hl : l.length ≤ 1000000) (k : FuncId) (fs cs : List PV) (hp : ∀ x ∈ l, CallV Go.Proofs.Tryz.prog k (fs ++ [pA (encAttr x)] ++ cs) (fun r => r = .val (.bool (p x)))) :
    CallV Go.Proofs.Tryz.prog 143 [.lst (l.map encAttr), .clo (.func k) fs cs] (fun r => r = .val (.bool (l.any p))) := by
  refine callV_of_cw [] Ty.mixed Go.Proofs.Tryz.func143 rfl (by kernel_rfl) (by simp [Go.Proofs.Tryz.ntmps143]) ?_; rw [Go.Proofs.Tryz.ntmps143, Go.Proofs.Tryz.results143]
  simp -implicitDefEqProofs only [go_sem, Nat.reduceEqDiff, Nat.reduceLT, Nat.reduceLeDiff, Nat.reduceMul, Nat.reduceAdd, reduceIte, reduceCtorEq, Nat.le_refl, Nat.not_lt_zero, Nat.zero_le, Nat.zero_lt_succ, decide_true, decide_false, Nat.reduceBEq, Nat.reduceSub, Int.reduceToNat, Bool.not_not, exists_eq', ← List.map_take, ← List.map_drop]
  refine call_go (index_attr p l hl k fs cs hp) (by simp -implicitDefEqProofs only [go_sem, Nat.reduceEqDiff, Nat.reduceLT, Nat.reduceLeDiff, Nat.reduceMul, Nat.reduceAdd, reduceIte, reduceCtorEq, Nat.le_refl, Nat.not_lt_zero, Nat.zero_le, Nat.zero_lt_succ, decide_true, decide_false, Nat.reduceBEq, Nat.reduceSub, Int.reduceToNat, Bool.not_not, exists_eq', ← List.map_take, ← List.map_drop] <;> rfl) (scal rfl) ?_
  simp -implicitDefEqProofs only [go_sem, Nat.reduceEqDiff, Nat.reduceLT, Nat.reduceLeDiff, Nat.reduceMul, Nat.reduceAdd, reduceIte, reduceCtorEq, Nat.le_refl, Nat.not_lt_zero, Nat.zero_le, Nat.zero_lt_succ, decide_true, decide_false, Nat.reduceBEq, Nat.reduceSub, Int.reduceToNat, Bool.not_not, exists_eq', ← List.map_take, ← List.map_drop]
  exact idxOf_any
theorem index_node (p : NodeT → Bool) (l : List NodeT) (hl : l.length ≤ 1000000) (k : FuncId) (fs cs : List PV) (hp : ∀ x ∈ l, CallV Go.Proofs.Tryz.prog k (fs ++ [pA (encNode x)] ++ cs) (fun r => r = .val (.bool (p x)))) :
    CallV Go.Proofs.Tryz.prog 142 [.lst (l.map encNode), .clo (.func k) fs cs] (fun r => r = .val (.int .i64 (idxOf p l))) := by
  refine callV_of_cw [] Ty.mixed Go.Proofs.Tryz.func142 rfl (by kernel_rfl) (by simp [Go.Proofs.Tryz.ntmps142]) ?_; rw [Go.Proofs.Tryz.ntmps142, Go.Proofs.Tryz.results142]
  simp -implicitDefEqProofs only [go_sem, Nat.reduceEqDiff, Nat.reduceLT, Nat.reduceLeDiff, Nat.reduceMul, Nat.reduceAdd, reduceIte, reduceCtorEq, Nat.le_refl, Nat.not_lt_zero, Nat.zero_le, Nat.zero_lt_succ, decide_true, decide_false, Nat.reduceBEq, Nat.reduceSub, Int.reduceToNat, Bool.not_not, exists_eq', ← List.map_take, ← List.map_drop]
  refine loop_rule (σ := Nat) (fun x => (upd (upd (upd (upd env0 0 (.p (.lst (l.map encNode)))) 1 (.p (.clo (.func k) fs cs))) 7 (.p (.val (.int .i64 l.length)))) 8 (.p (.val (.int .i64 x))))) (fun x => heap0)
    (fun x => x ≤ l.length ∧ ∀ j, j < x → p (l.getD j default) = false) (fun x => l.length - x) 0 ⟨Nat.zero_le _, fun j hj => absurd hj (Nat.not_lt_zero j)⟩ (weak_mk (by repeat (first | exact sub_env0 _ | refine sub_upd ?_ (by first | rfl | simp [upd]))) (by repeat (first | exact hsub0 _ | refine hsub_hset ?_ (by first | rfl | simp [hset]))) (by repeat (first | exact ids_env0 _ | refine ids_upd ?_ (by simp [idsOk, idsOkL, hset]))) (by repeat (first | exact boxIds0 _ | refine boxIds_row ?_ | refine boxIds_shut ?_ | refine boxIds_box ?_ (by simp [idsOk, idsOkL, hset]))) (by repeat (first | exact keep0 _ | refine keep_low (by decide) ?_ | refine keep_high (by simp [hset]) ?_))) ?_
  rintro x ⟨hx, hq⟩
  simp -implicitDefEqProofs only [go_sem, Nat.reduceEqDiff, Nat.reduceLT, Nat.reduceLeDiff, Nat.reduceMul, Nat.reduceAdd, reduceIte, reduceCtorEq, Nat.le_refl, Nat.not_lt_zero, Nat.zero_le, Nat.zero_lt_succ, decide_true, decide_false, Nat.reduceBEq, Nat.reduceSub, Int.reduceToNat, Bool.not_not, exists_eq', ← List.map_take, ← List.map_drop]
  refine condC_split (fun hc => ?_) (fun hc => ?_)
  · have hlt : x < l.length := by simpa using hc
    simp -implicitDefEqProofs only [go_sem, Nat.reduceEqDiff, Nat.reduceLT, Nat.reduceLeDiff, Nat.reduceMul, Nat.reduceAdd, reduceIte, reduceCtorEq, Nat.le_refl, Nat.not_lt_zero, Nat.zero_le, Nat.zero_lt_succ, decide_true, decide_false, Nat.reduceBEq, Nat.reduceSub, Int.reduceToNat, Bool.not_not, exists_eq', ← List.map_take, ← List.map_drop, getD_map encNode hlt, hlt, encNode]
    refine call_go (hp (l.getD x default) (by simp [hlt])) (by simp -implicitDefEqProofs only [go_sem, Nat.reduceEqDiff, Nat.reduceLT, Nat.reduceLeDiff, Nat.reduceMul, Nat.reduceAdd, reduceIte, reduceCtorEq, Nat.le_refl, Nat.not_lt_zero, Nat.zero_le, Nat.zero_lt_succ, decide_true, decide_false, Nat.reduceBEq, Nat.reduceSub, Int.reduceToNat, Bool.not_not, exists_eq', ← List.map_take, ← List.map_drop, lendL_app, lendL_map, encNode, pA, Bool.or_false, Bool.false_or] <;> rfl) (scal rfl) ?_
    simp -implicitDefEqProofs only [go_sem, Nat.reduceEqDiff, Nat.reduceLT, Nat.reduceLeDiff, Nat.reduceMul, Nat.reduceAdd, reduceIte, reduceCtorEq, Nat.le_refl, Nat.not_lt_zero, Nat.zero_le, Nat.zero_lt_succ, decide_true, decide_false, Nat.reduceBEq, Nat.reduceSub, Int.reduceToNat, Bool.not_not, exists_eq', ← List.map_take, ← List.map_drop]
    refine condC_split (fun hb => ?_) (fun hb => ?_) <;> simp -implicitDefEqProofs only [go_sem, Nat.reduceEqDiff, Nat.reduceLT, Nat.reduceLeDiff, Nat.reduceMul, Nat.reduceAdd, reduceIte, reduceCtorEq, Nat.le_refl, Nat.not_lt_zero, Nat.zero_le, Nat.zero_lt_succ, decide_true, decide_false, Nat.reduceBEq, Nat.reduceSub, Int.reduceToNat, Bool.not_not, exists_eq', ← List.map_take, ← List.map_drop]
    · exact (idxOf_at hlt hq hb).symm
    · refine loopN_mk (x + 1) ⟨hlt, fun j hj => ?_⟩ (by omega) ?_
      · rcases Nat.lt_succ_iff_lt_or_eq.1 hj with h | h
        · exact hq j h
        · rw [h]; exact hb
      · rw [wrap_succ hlt (by omega)]
        exact (weak_mk (by repeat (first | exact sub_env0 _ | refine sub_upd ?_ (by first | rfl | simp [upd]))) (by repeat (first | exact hsub0 _ | refine hsub_hset ?_ (by first | rfl | simp [hset]))) (by repeat (first | exact ids_env0 _ | refine ids_upd ?_ (by simp [idsOk, idsOkL, hset]))) (by repeat (first | exact boxIds0 _ | refine boxIds_row ?_ | refine boxIds_shut ?_ | refine boxIds_box ?_ (by simp [idsOk, idsOkL, hset]))) (by repeat (first | exact keep0 _ | refine keep_low (by decide) ?_ | refine keep_high (by simp [hset]) ?_)))
  · have hge : l.length ≤ x := by simpa using hc
    simp -implicitDefEqProofs only [go_sem, Nat.reduceEqDiff, Nat.reduceLT, Nat.reduceLeDiff, Nat.reduceMul, Nat.reduceAdd, reduceIte, reduceCtorEq, Nat.le_refl, Nat.not_lt_zero, Nat.zero_le, Nat.zero_lt_succ, decide_true, decide_false, Nat.reduceBEq, Nat.reduceSub, Int.reduceToNat, Bool.not_not, exists_eq', ← List.map_take, ← List.map_drop, hc]
    rw [idxOf_none fun j hj => hq j (by omega)]
theorem contains_node (p : NodeT → Bool) (l : List NodeT) (hl : l.length ≤ 1000000) (k : FuncId) (fs cs : List PV) (hp : ∀ x ∈ l, CallV Go.Proofs.Tryz.prog k (fs ++ [pA (encNode x)] ++ cs) (fun r => r = .val (.bool (p x)))) :
    CallV Go.Proofs.Tryz.prog 119 [.lst (l.map encNode), .clo (.func k) fs cs] (fun r => r = .val (.bool (l.any p))) := by
  refine callV_of_cw [] Ty.mixed Go.Proofs.Tryz.func119 rfl (by kernel_rfl) (by simp [Go.Proofs.Tryz.ntmps119]) ?_; rw [Go.Proofs.Tryz.ntmps119, Go.Proofs.Tryz.results119]
  simp -implicitDefEqProofs only [go_sem, Nat.reduceEqDiff, Nat.reduceLT, Nat.reduceLeDiff, Nat.reduceMul, Nat.reduceAdd, reduceIte, reduceCtorEq, Nat.le_refl, Nat.not_lt_zero, Nat.zero_le, Nat.zero_lt_succ, decide_true, decide_false, Nat.reduceBEq, Nat.reduceSub, Int.reduceToNat, Bool.not_not, exists_eq', ← List.map_take, ← List.map_drop]
  refine call_go (index_node p l hl k fs cs hp) (by simp -implicitDefEqProofs only [go_sem, Nat.reduceEqDiff, Nat.reduceLT, Nat.reduceLeDiff, Nat.reduceMul, Nat.reduceAdd, reduceIte, reduceCtorEq, Nat.le_refl, Nat.not_lt_zero, Nat.zero_le, Nat.zero_lt_succ, decide_true, decide_false, Nat.reduceBEq, Nat.reduceSub, Int.reduceToNat, Bool.not_not, exists_eq', ← List.map_take, ← List.map_drop] <;> rfl) (scal rfl) ?_
  simp -implicitDefEqProofs only [go_sem, Nat.reduceEqDiff, Nat.reduceLT, Nat.reduceLeDiff, Nat.reduceMul, Nat.reduceAdd, reduceIte, reduceCtorEq, Nat.le_refl, Nat.not_lt_zero, Nat.zero_le, Nat.zero_lt_succ, decide_true, decide_false, Nat.reduceBEq, Nat.reduceSub, Int.reduceToNat, Bool.not_not, exists_eq', ← List.map_take, ← List.map_drop]
  exact idxOf_any
theorem index_edget (p : EdgeT → Bool) (l : List EdgeT) (hl : l.length ≤ 1000000) (k : FuncId) (fs cs : List PV) (hp : ∀ x ∈ l, CallV Go.Proofs.Tryz.prog k (fs ++ [pA (encEdgeT x)] ++ cs) (fun r => r = .val (.bool (p x)))) :
    CallV Go.Proofs.Tryz.prog 146 [.lst (l.map encEdgeT), .clo (.func k) fs cs] (fun r => r = .val (.int .i64 (idxOf p l))) := by
  refine callV_of_cw [] Ty.mixed Go.Proofs.Tryz.func146 rfl (by kernel_rfl) (by simp [Go.Proofs.Tryz.ntmps146]) ?_; rw [Go.Proofs.Tryz.ntmps146, Go.Proofs.Tryz.results146]
  simp -implicitDefEqProofs only [go_sem, Nat.reduceEqDiff, Nat.reduceLT, Nat.reduceLeDiff, Nat.reduceMul, Nat.reduceAdd, reduceIte, reduceCtorEq, Nat.le_refl, Nat.not_lt_zero, Nat.zero_le, Nat.zero_lt_succ, decide_true, decide_false, Nat.reduceBEq, Nat.reduceSub, Int.reduceToNat, Bool.not_not, exists_eq', ← List.map_take, ← List.map_drop]
  refine loop_rule (σ := Nat) (fun x => (upd (upd (upd (upd env0 0 (.p (.lst (l.map encEdgeT)))) 1 (.p (.clo (.func k) fs cs))) 7 (.p (.val (.int .i64 l.length)))) 8 (.p (.val (.int .i64 x))))) (fun x => heap0)
    (fun x => x ≤ l.length ∧ ∀ j, j < x → p (l.getD j default) = false) (fun x => l.length - x) 0 ⟨Nat.zero_le _, fun j hj => absurd hj (Nat.not_lt_zero j)⟩ (weak_mk (by repeat (first | exact sub_env0 _ | refine sub_upd ?_ (by first | rfl | simp [upd]))) (by repeat (first | exact hsub0 _ | refine hsub_hset ?_ (by first | rfl | simp [hset]))) (by repeat (first | exact ids_env0 _ | refine ids_upd ?_ (by simp [idsOk, idsOkL, hset]))) (by repeat (first | exact boxIds0 _ | refine boxIds_row ?_ | refine boxIds_shut ?_ | refine boxIds_box ?_ (by simp [idsOk, idsOkL, hset]))) (by repeat (first | exact keep0 _ | refine keep_low (by decide) ?_ | refine keep_high (by simp [hset]) ?_))) ?_
  rintro x ⟨hx, hq⟩
  simp -implicitDefEqProofs only [go_sem, Nat.reduceEqDiff, Nat.reduceLT, Nat.reduceLeDiff, Nat.reduceMul, Nat.reduceAdd, reduceIte, reduceCtorEq, Nat.le_refl, Nat.not_lt_zero, Nat.zero_le, Nat.zero_lt_succ, decide_true, decide_false, Nat.reduceBEq, Nat.reduceSub, Int.reduceToNat, Bool.not_not, exists_eq', ← List.map_take, ← List.map_drop]
  refine condC_split (fun hc => ?_) (fun hc => ?_)
  · have hlt : x < l.length := by simpa using hc
    simp -implicitDefEqProofs only [go_sem, Nat.reduceEqDiff, Nat.reduceLT, Nat.reduceLeDiff, Nat.reduceMul, Nat.reduceAdd, reduceIte, reduceCtorEq, Nat.le_refl, Nat.not_lt_zero, Nat.zero_le, Nat.zero_lt_succ, decide_true, decide_false, Nat.reduceBEq, Nat.reduceSub, Int.reduceToNat, Bool.not_not, exists_eq', ← List.map_take, ← List.map_drop, getD_map encEdgeT hlt, hlt, encEdgeT]
    refine call_go (hp (l.getD x default) (by simp [hlt])) (by simp -implicitDefEqProofs only [go_sem, Nat.reduceEqDiff, Nat.reduceLT, Nat.reduceLeDiff, Nat.reduceMul, Nat.reduceAdd, reduceIte, reduceCtorEq, Nat.le_refl, Nat.not_lt_zero, Nat.zero_le, Nat.zero_lt_succ, decide_true, decide_false, Nat.reduceBEq, Nat.reduceSub, Int.reduceToNat, Bool.not_not, exists_eq', ← List.map_take, ← List.map_drop, lendL_app, lendL_map, encEdgeT, pA, Bool.or_false, Bool.false_or] <;> rfl) (scal rfl) ?_
    simp -implicitDefEqProofs only [go_sem, Nat.reduceEqDiff, Nat.reduceLT, Nat.reduceLeDiff, Nat.reduceMul, Nat.reduceAdd, reduceIte, reduceCtorEq, Nat.le_refl, Nat.not_lt_zero, Nat.zero_le, Nat.zero_lt_succ, decide_true, decide_false, Nat.reduceBEq, Nat.reduceSub, Int.reduceToNat, Bool.not_not, exists_eq', ← List.map_take, ← List.map_drop]
    refine condC_split (fun hb => ?_) (fun hb => ?_) <;> simp -implicitDefEqProofs only [go_sem, Nat.reduceEqDiff, Nat.reduceLT, Nat.reduceLeDiff, Nat.reduceMul, Nat.reduceAdd, reduceIte, reduceCtorEq, Nat.le_refl, Nat.not_lt_zero, Nat.zero_le, Nat.zero_lt_succ, decide_true, decide_false, Nat.reduceBEq, Nat.reduceSub, Int.reduceToNat, Bool.not_not, exists_eq', ← List.map_take, ← List.map_drop]
    · exact (idxOf_at hlt hq hb).symm
    · refine loopN_mk (x + 1) ⟨hlt, fun j hj => ?_⟩ (by omega) ?_
      · rcases Nat.lt_succ_iff_lt_or_eq.1 hj with h | h
        · exact hq j h
        · rw [h]; exact hb
      · rw [wrap_succ hlt (by omega)]
        exact (weak_mk (by repeat (first | exact sub_env0 _ | refine sub_upd ?_ (by first | rfl | simp [upd]))) (by repeat (first | exact hsub0 _ | refine hsub_hset ?_ (by first | rfl | simp [hset]))) (by repeat (first | exact ids_env0 _ | refine ids_upd ?_ (by simp [idsOk, idsOkL, hset]))) (by repeat (first | exact boxIds0 _ | refine boxIds_row ?_ | refine boxIds_shut ?_ | refine boxIds_box ?_ (by simp [idsOk, idsOkL, hset]))) (by repeat (first | exact keep0 _ | refine keep_low (by decide) ?_ | refine keep_high (by simp [hset]) ?_)))
  · have hge : l.length ≤ x := by simpa using hc
    simp -implicitDefEqProofs only [go_sem, Nat.reduceEqDiff, Nat.reduceLT, Nat.reduceLeDiff, Nat.reduceMul, Nat.reduceAdd, reduceIte, reduceCtorEq, Nat.le_refl, Nat.not_lt_zero, Nat.zero_le, Nat.zero_lt_succ, decide_true, decide_false, Nat.reduceBEq, Nat.reduceSub, Int.reduceToNat, Bool.not_not, exists_eq', ← List.map_take, ← List.map_drop, hc]
    rw [idxOf_none fun j hj => hq j (by omega)]
theorem contains_edget (p : EdgeT → Bool) (l : List EdgeT) (hl : l.length ≤ 1000000) (k : FuncId) (fs cs : List PV) (hp : ∀ x ∈ l, CallV Go.Proofs.Tryz.prog k (fs ++ [pA (encEdgeT x)] ++ cs) (fun r => r = .val (.bool (p x)))) :
    CallV Go.Proofs.Tryz.prog 124 [.lst (l.map encEdgeT), .clo (.func k) fs cs] (fun r => r = .val (.bool (l.any p))) := by
  refine callV_of_cw [] Ty.mixed Go.Proofs.Tryz.func124 rfl (by kernel_rfl) (by simp [Go.Proofs.Tryz.ntmps124]) ?_; rw [Go.Proofs.Tryz.ntmps124, Go.Proofs.Tryz.results124]
  simp -implicitDefEqProofs only [go_sem, Nat.reduceEqDiff, Nat.reduceLT, Nat.reduceLeDiff, Nat.reduceMul, Nat.reduceAdd, reduceIte, reduceCtorEq, Nat.le_refl, Nat.not_lt_zero, Nat.zero_le, Nat.zero_lt_succ, decide_true, decide_false, Nat.reduceBEq, Nat.reduceSub, Int.reduceToNat, Bool.not_not, exists_eq', ← List.map_take, ← List.map_drop]
  refine call_go (index_edget p l hl k fs cs hp) (by simp -implicitDefEqProofs only [go_sem, Nat.reduceEqDiff, Nat.reduceLT, Nat.reduceLeDiff, Nat.reduceMul, Nat.reduceAdd, reduceIte, reduceCtorEq, Nat.le_refl, Nat.not_lt_zero, Nat.zero_le, Nat.zero_lt_succ, decide_true, decide_false, Nat.reduceBEq, Nat.reduceSub, Int.reduceToNat, Bool.not_not, exists_eq', ← List.map_take, ← List.map_drop] <;> rfl) (scal rfl) ?_
  simp -implicitDefEqProofs only [go_sem, Nat.reduceEqDiff, Nat.reduceLT, Nat.reduceLeDiff, Nat.reduceMul, Nat.reduceAdd, reduceIte, reduceCtorEq, Nat.le_refl, Nat.not_lt_zero, Nat.zero_le, Nat.zero_lt_succ, decide_true, decide_false, Nat.reduceBEq, Nat.reduceSub, Int.reduceToNat, Bool.not_not, exists_eq', ← List.map_take, ← List.map_drop]
  exact idxOf_any
theorem index_edge (p : Edge → Bool) (l : List Edge) (hl : l.length ≤ 1000000) (k : FuncId) (fs cs : List PV) (hp : ∀ x ∈ l, CallV Go.Proofs.Tryz.prog k (fs ++ [pA (encEdge x)] ++ cs) (fun r => r = .val (.bool (p x)))) :
    CallV Go.Proofs.Tryz.prog 135 [.lst (l.map encEdge), .clo (.func k) fs cs] (fun r => r = .val (.int .i64 (idxOf p l))) := by
  refine callV_of_cw [] Ty.mixed Go.Proofs.Tryz.func135 rfl (by kernel_rfl) (by simp [Go.Proofs.Tryz.ntmps135]) ?_; rw [Go.Proofs.Tryz.ntmps135, Go.Proofs.Tryz.results135]
  simp -implicitDefEqProofs only [go_sem, Nat.reduceEqDiff, Nat.reduceLT, Nat.reduceLeDiff, Nat.reduceMul, Nat.reduceAdd, reduceIte, reduceCtorEq, Nat.le_refl, Nat.not_lt_zero, Nat.zero_le, Nat.zero_lt_succ, decide_true, decide_false, Nat.reduceBEq, Nat.reduceSub, Int.reduceToNat, Bool.not_not, exists_eq', ← List.map_take, ← List.map_drop]
  refine loop_rule (σ := Nat) (fun x => (upd (upd (upd (upd env0 0 (.p (.lst (l.map encEdge)))) 1 (.p (.clo (.func k) fs cs))) 7 (.p (.val (.int .i64 l.length)))) 8 (.p (.val (.int .i64 x))))) (fun x => heap0)
    (fun x => x ≤ l.length ∧ ∀ j, j < x → p (l.getD j default) = false) (fun x => l.length - x) 0 ⟨Nat.zero_le _, fun j hj => absurd hj (Nat.not_lt_zero j)⟩ (weak_mk (by repeat (first | exact sub_env0 _ | refine sub_upd ?_ (by first | rfl | simp [upd]))) (by repeat (first | exact hsub0 _ | refine hsub_hset ?_ (by first | rfl | simp [hset]))) (by repeat (first | exact ids_env0 _ | refine ids_upd ?_ (by simp [idsOk, idsOkL, hset]))) (by repeat (first | exact boxIds0 _ | refine boxIds_row ?_ | refine boxIds_shut ?_ | refine boxIds_box ?_ (by simp [idsOk, idsOkL, hset]))) (by repeat (first | exact keep0 _ | refine keep_low (by decide) ?_ | refine keep_high (by simp [hset]) ?_))) ?_
  rintro x ⟨hx, hq⟩
  simp -implicitDefEqProofs only [go_sem, Nat.reduceEqDiff, Nat.reduceLT, Nat.reduceLeDiff, Nat.reduceMul, Nat.reduceAdd, reduceIte, reduceCtorEq, Nat.le_refl, Nat.not_lt_zero, Nat.zero_le, Nat.zero_lt_succ, decide_true, decide_false, Nat.reduceBEq, Nat.reduceSub, Int.reduceToNat, Bool.not_not, exists_eq', ← List.map_take, ← List.map_drop]
  refine condC_split (fun hc => ?_) (fun hc => ?_)
  · have hlt : x < l.length := by simpa using hc
    simp -implicitDefEqProofs only [go_sem, Nat.reduceEqDiff, Nat.reduceLT, Nat.reduceLeDiff, Nat.reduceMul, Nat.reduceAdd, reduceIte, reduceCtorEq, Nat.le_refl, Nat.not_lt_zero, Nat.zero_le, Nat.zero_lt_succ, decide_true, decide_false, Nat.reduceBEq, Nat.reduceSub, Int.reduceToNat, Bool.not_not, exists_eq', ← List.map_take, ← List.map_drop, getD_map encEdge hlt, hlt, encEdge]
    refine call_go (hp (l.getD x default) (by simp [hlt])) (by simp -implicitDefEqProofs only [go_sem, Nat.reduceEqDiff, Nat.reduceLT, Nat.reduceLeDiff, Nat.reduceMul, Nat.reduceAdd, reduceIte, reduceCtorEq, Nat.le_refl, Nat.not_lt_zero, Nat.zero_le, Nat.zero_lt_succ, decide_true, decide_false, Nat.reduceBEq, Nat.reduceSub, Int.reduceToNat, Bool.not_not, exists_eq', ← List.map_take, ← List.map_drop, lendL_app, lendL_map, encEdge, pA, Bool.or_false, Bool.false_or] <;> rfl) (scal rfl) ?_
    simp -implicitDefEqProofs only [go_sem, Nat.reduceEqDiff, Nat.reduceLT, Nat.reduceLeDiff, Nat.reduceMul, Nat.reduceAdd, reduceIte, reduceCtorEq, Nat.le_refl, Nat.not_lt_zero, Nat.zero_le, Nat.zero_lt_succ, decide_true, decide_false, Nat.reduceBEq, Nat.reduceSub, Int.reduceToNat, Bool.not_not, exists_eq', ← List.map_take, ← List.map_drop]
    refine condC_split (fun hb => ?_) (fun hb => ?_) <;> simp -implicitDefEqProofs only [go_sem, Nat.reduceEqDiff, Nat.reduceLT, Nat.reduceLeDiff, Nat.reduceMul, Nat.reduceAdd, reduceIte, reduceCtorEq, Nat.le_refl, Nat.not_lt_zero, Nat.zero_le, Nat.zero_lt_succ, decide_true, decide_false, Nat.reduceBEq, Nat.reduceSub, Int.reduceToNat, Bool.not_not, exists_eq', ← List.map_take, ← List.map_drop]
    · exact (idxOf_at hlt hq hb).symm
    · refine loopN_mk (x + 1) ⟨hlt, fun j hj => ?_⟩ (by omega) ?_
      · rcases Nat.lt_succ_iff_lt_or_eq.1 hj with h | h
        · exact hq j h
        · rw [h]; exact hb
      · rw [wrap_succ hlt (by omega)]
        exact (weak_mk (by repeat (first | exact sub_env0 _ | refine sub_upd ?_ (by first | rfl | simp [upd]))) (by repeat (first | exact hsub0 _ | refine hsub_hset ?_ (by first | rfl | simp [hset]))) (by repeat (first | exact ids_env0 _ | refine ids_upd ?_ (by simp [idsOk, idsOkL, hset]))) (by repeat (first | exact boxIds0 _ | refine boxIds_row ?_ | refine boxIds_shut ?_ | refine boxIds_box ?_ (by simp [idsOk, idsOkL, hset]))) (by repeat (first | exact keep0 _ | refine keep_low (by decide) ?_ | refine keep_high (by simp [hset]) ?_)))
  · have hge : l.length ≤ x := by simpa using hc
    simp -implicitDefEqProofs only [go_sem, Nat.reduceEqDiff, Nat.reduceLT, Nat.reduceLeDiff, Nat.reduceMul, Nat.reduceAdd, reduceIte, reduceCtorEq, Nat.le_refl, Nat.not_lt_zero, Nat.zero_le, Nat.zero_lt_succ, decide_true, decide_false, Nat.reduceBEq, Nat.reduceSub, Int.reduceToNat, Bool.not_not, exists_eq', ← List.map_take, ← List.map_drop, hc]
    rw [idxOf_none fun j hj => hq j (by omega)]
theorem contains_edge (p : Edge → Bool) (l : List Edge) (hl : l.length ≤ 1000000) (k : FuncId) (fs cs : List PV) (hp : ∀ x ∈ l, CallV Go.Proofs.Tryz.prog k (fs ++ [pA (encEdge x)] ++ cs) (fun r => r = .val (.bool (p x)))) :
    CallV Go.Proofs.Tryz.prog 105 [.lst (l.map encEdge), .clo (.func k) fs cs] (fun r => r = .val (.bool (l.any p))) := by
  refine callV_of_cw [] Ty.mixed Go.Proofs.Tryz.func105 rfl (by kernel_rfl) (by simp [Go.Proofs.Tryz.ntmps105]) ?_; rw [Go.Proofs.Tryz.ntmps105, Go.Proofs.Tryz.results105]
  simp -implicitDefEqProofs only [go_sem, Nat.reduceEqDiff, Nat.reduceLT, Nat.reduceLeDiff, Nat.reduceMul, Nat.reduceAdd, reduceIte, reduceCtorEq, Nat.le_refl, Nat.not_lt_zero, Nat.zero_le, Nat.zero_lt_succ, decide_true, decide_false, Nat.reduceBEq, Nat.reduceSub, Int.reduceToNat, Bool.not_not, exists_eq', ← List.map_take, ← List.map_drop]
  refine call_go (index_edge p l hl k fs cs hp) (by simp -implicitDefEqProofs only [go_sem, Nat.reduceEqDiff, Nat.reduceLT, Nat.reduceLeDiff, Nat.reduceMul, Nat.reduceAdd, reduceIte, reduceCtorEq, Nat.le_refl, Nat.not_lt_zero, Nat.zero_le, Nat.zero_lt_succ, decide_true, decide_false, Nat.reduceBEq, Nat.reduceSub, Int.reduceToNat, Bool.not_not, exists_eq', ← List.map_take, ← List.map_drop] <;> rfl) (scal rfl) ?_
  simp -implicitDefEqProofs only [go_sem, Nat.reduceEqDiff, Nat.reduceLT, Nat.reduceLeDiff, Nat.reduceMul, Nat.reduceAdd, reduceIte, reduceCtorEq, Nat.le_refl, Nat.not_lt_zero, Nat.zero_le, Nat.zero_lt_succ, decide_true, decide_false, Nat.reduceBEq, Nat.reduceSub, Int.reduceToNat, Bool.not_not, exists_eq', ← List.map_take, ← List.map_drop]
  exact idxOf_any
theorem index_int (p : Int → Bool) (l : List Int) (hl : l.length ≤ 1000000) (k : FuncId) (fs cs : List PV) (hp : ∀ x ∈ l, CallV Go.Proofs.Tryz.prog k (fs ++ [pV (encI x)] ++ cs) (fun r => r = .val (.bool (p x)))) :
    CallV Go.Proofs.Tryz.prog 134 [.lst (l.map encI), .clo (.func k) fs cs] (fun r => r = .val (.int .i64 (idxOf p l))) := by
  refine callV_of_cw [] Ty.mixed Go.Proofs.Tryz.func134 rfl (by kernel_rfl) (by simp [Go.Proofs.Tryz.ntmps134]) ?_; rw [Go.Proofs.Tryz.ntmps134, Go.Proofs.Tryz.results134]
  simp -implicitDefEqProofs only [go_sem, Nat.reduceEqDiff, Nat.reduceLT, Nat.reduceLeDiff, Nat.reduceMul, Nat.reduceAdd, reduceIte, reduceCtorEq, Nat.le_refl, Nat.not_lt_zero, Nat.zero_le, Nat.zero_lt_succ, decide_true, decide_false, Nat.reduceBEq, Nat.reduceSub, Int.reduceToNat, Bool.not_not, exists_eq', ← List.map_take, ← List.map_drop]
  refine loop_rule (σ := Nat) (fun x => (upd (upd (upd (upd env0 0 (.p (.lst (l.map encI)))) 1 (.p (.clo (.func k) fs cs))) 7 (.p (.val (.int .i64 l.length)))) 8 (.p (.val (.int .i64 x))))) (fun x => heap0)
    (fun x => x ≤ l.length ∧ ∀ j, j < x → p (l.getD j default) = false) (fun x => l.length - x) 0 ⟨Nat.zero_le _, fun j hj => absurd hj (Nat.not_lt_zero j)⟩ (weak_mk (by repeat (first | exact sub_env0 _ | refine sub_upd ?_ (by first | rfl | simp [upd]))) (by repeat (first | exact hsub0 _ | refine hsub_hset ?_ (by first | rfl | simp [hset]))) (by repeat (first | exact ids_env0 _ | refine ids_upd ?_ (by simp [idsOk, idsOkL, hset]))) (by repeat (first | exact boxIds0 _ | refine boxIds_row ?_ | refine boxIds_shut ?_ | refine boxIds_box ?_ (by simp [idsOk, idsOkL, hset]))) (by repeat (first | exact keep0 _ | refine keep_low (by decide) ?_ | refine keep_high (by simp [hset]) ?_))) ?_
  rintro x ⟨hx, hq⟩
  simp -implicitDefEqProofs only [go_sem, Nat.reduceEqDiff, Nat.reduceLT, Nat.reduceLeDiff, Nat.reduceMul, Nat.reduceAdd, reduceIte, reduceCtorEq, Nat.le_refl, Nat.not_lt_zero, Nat.zero_le, Nat.zero_lt_succ, decide_true, decide_false, Nat.reduceBEq, Nat.reduceSub, Int.reduceToNat, Bool.not_not, exists_eq', ← List.map_take, ← List.map_drop]
  refine condC_split (fun hc => ?_) (fun hc => ?_)
  · have hlt : x < l.length := by simpa using hc
    simp -implicitDefEqProofs only [go_sem, Nat.reduceEqDiff, Nat.reduceLT, Nat.reduceLeDiff, Nat.reduceMul, Nat.reduceAdd, reduceIte, reduceCtorEq, Nat.le_refl, Nat.not_lt_zero, Nat.zero_le, Nat.zero_lt_succ, decide_true, decide_false, Nat.reduceBEq, Nat.reduceSub, Int.reduceToNat, Bool.not_not, exists_eq', ← List.map_take, ← List.map_drop, getD_map encI hlt, hlt, encI]
    refine call_go (hp (l.getD x default) (by simp [hlt])) (by simp -implicitDefEqProofs only [go_sem, Nat.reduceEqDiff, Nat.reduceLT, Nat.reduceLeDiff, Nat.reduceMul, Nat.reduceAdd, reduceIte, reduceCtorEq, Nat.le_refl, Nat.not_lt_zero, Nat.zero_le, Nat.zero_lt_succ, decide_true, decide_false, Nat.reduceBEq, Nat.reduceSub, Int.reduceToNat, Bool.not_not, exists_eq', ← List.map_take, ← List.map_drop, lendL_app, lendL_map, encI, pV, Bool.or_false, Bool.false_or] <;> rfl) (scal rfl) ?_
    simp -implicitDefEqProofs only [go_sem, Nat.reduceEqDiff, Nat.reduceLT, Nat.reduceLeDiff, Nat.reduceMul, Nat.reduceAdd, reduceIte, reduceCtorEq, Nat.le_refl, Nat.not_lt_zero, Nat.zero_le, Nat.zero_lt_succ, decide_true, decide_false, Nat.reduceBEq, Nat.reduceSub, Int.reduceToNat, Bool.not_not, exists_eq', ← List.map_take, ← List.map_drop]
    refine condC_split (fun hb => ?_) (fun hb => ?_) <;> simp -implicitDefEqProofs only [go_sem, Nat.reduceEqDiff, Nat.reduceLT, Nat.reduceLeDiff, Nat.reduceMul, Nat.reduceAdd, reduceIte, reduceCtorEq, Nat.le_refl, Nat.not_lt_zero, Nat.zero_le, Nat.zero_lt_succ, decide_true, decide_false, Nat.reduceBEq, Nat.reduceSub, Int.reduceToNat, Bool.not_not, exists_eq', ← List.map_take, ← List.map_drop]
    · exact (idxOf_at hlt hq hb).symm
    · refine loopN_mk (x + 1) ⟨hlt, fun j hj => ?_⟩ (by omega) ?_
      · rcases Nat.lt_succ_iff_lt_or_eq.1 hj with h | h
        · exact hq j h
        · rw [h]; exact hb
      · rw [wrap_succ hlt (by omega)]
        exact (weak_mk (by repeat (first | exact sub_env0 _ | refine sub_upd ?_ (by first | rfl | simp [upd]))) (by repeat (first | exact hsub0 _ | refine hsub_hset ?_ (by first | rfl | simp [hset]))) (by repeat (first | exact ids_env0 _ | refine ids_upd ?_ (by simp [idsOk, idsOkL, hset]))) (by repeat (first | exact boxIds0 _ | refine boxIds_row ?_ | refine boxIds_shut ?_ | refine boxIds_box ?_ (by simp [idsOk, idsOkL, hset]))) (by repeat (first | exact keep0 _ | refine keep_low (by decide) ?_ | refine keep_high (by simp [hset]) ?_)))
  · have hge : l.length ≤ x := by simpa using hc
    simp -implicitDefEqProofs only [go_sem, Nat.reduceEqDiff, Nat.reduceLT, Nat.reduceLeDiff, Nat.reduceMul, Nat.reduceAdd, reduceIte, reduceCtorEq, Nat.le_refl, Nat.not_lt_zero, Nat.zero_le, Nat.zero_lt_succ, decide_true, decide_false, Nat.reduceBEq, Nat.reduceSub, Int.reduceToNat, Bool.not_not, exists_eq', ← List.map_take, ← List.map_drop, hc]
    rw [idxOf_none fun j hj => hq j (by omega)]
theorem contains_int (p : Int → Bool) (l : List Int) (hl : l.length ≤ 1000000) (k : FuncId) (fs cs : List PV) (hp : ∀ x ∈ l, CallV Go.Proofs.Tryz.prog k (fs ++ [pV (encI x)] ++ cs) (fun r => r = .val (.bool (p x)))) :
    CallV Go.Proofs.Tryz.prog 102 [.lst (l.map encI), .clo (.func k) fs cs] (fun r => r = .val (.bool (l.any p))) := by
  refine callV_of_cw [] Ty.mixed Go.Proofs.Tryz.func102 rfl (by kernel_rfl) (by simp [Go.Proofs.Tryz.ntmps102]) ?_; rw [Go.Proofs.Tryz.ntmps102, Go.Proofs.Tryz.results102]
  simp -implicitDefEqProofs only [go_sem, Nat.reduceEqDiff, Nat.reduceLT, Nat.reduceLeDiff, Nat.reduceMul, Nat.reduceAdd, reduceIte, reduceCtorEq, Nat.le_refl, Nat.not_lt_zero, Nat.zero_le, Nat.zero_lt_succ, decide_true, decide_false, Nat.reduceBEq, Nat.reduceSub, Int.reduceToNat, Bool.not_not, exists_eq', ← List.map_take, ← List.map_drop]
  refine call_go (index_int p l hl k fs cs hp) (by simp -implicitDefEqProofs only [go_sem, Nat.reduceEqDiff, Nat.reduceLT, Nat.reduceLeDiff, Nat.reduceMul, Nat.reduceAdd, reduceIte, reduceCtorEq, Nat.le_refl, Nat.not_lt_zero, Nat.zero_le, Nat.zero_lt_succ, decide_true, decide_false, Nat.reduceBEq, Nat.reduceSub, Int.reduceToNat, Bool.not_not, exists_eq', ← List.map_take, ← List.map_drop] <;> rfl) (scal rfl) ?_
  simp -implicitDefEqProofs only [go_sem, Nat.reduceEqDiff, Nat.reduceLT, Nat.reduceLeDiff, Nat.reduceMul, Nat.reduceAdd, reduceIte, reduceCtorEq, Nat.le_refl, Nat.not_lt_zero, Nat.zero_le, Nat.zero_lt_succ, decide_true, decide_false, Nat.reduceBEq, Nat.reduceSub, Int.reduceToNat, Bool.not_not, exists_eq', ← List.map_take, ← List.map_drop]
  exact idxOf_any
end Go.Proofs.YtdlohnchnneaeaaGreat
/- slices.Index, Contains. -/
namespace Go.Proofs.YtdlohnchnneaeaaGreat
open Go.Abs

theorem ix_int (l : List Int) (y : Int) (hl : l.length ≤ 1000000) :
    CallV Go.Proofs.Tryz.prog 154 [.lst (l.map encI), .val (.int .i64 y)] (fun r => r = .val (.int .i64 (idxOf (fun x => decide (y = x)) l))) := by
  refine callV_of_cw [] Ty.mixed Go.Proofs.Tryz.func154 rfl (by kernel_rfl) (by simp [Go.Proofs.Tryz.ntmps154]) ?_; rw [Go.Proofs.Tryz.ntmps154, Go.Proofs.Tryz.results154]
  simp -implicitDefEqProofs only [go_sem, Nat.reduceEqDiff, Nat.reduceLT, Nat.reduceLeDiff, Nat.reduceMul, Nat.reduceAdd, reduceIte, reduceCtorEq, Nat.le_refl, Nat.not_lt_zero, Nat.zero_le, Nat.zero_lt_succ, decide_true, decide_false, Nat.reduceBEq, Nat.reduceSub, Int.reduceToNat, Bool.not_not, exists_eq', ← List.map_take, ← List.map_drop]
  refine loop_rule (σ := Nat) (fun x => (upd (upd (upd (upd env0 0 (.p (.lst (l.map encI)))) 1 (.p (.val (.int .i64 y)))) 7 (.p (.val (.int .i64 l.length)))) 8 (.p (.val (.int .i64 x))))) (fun x => heap0)
    (fun x => x ≤ l.length ∧ ∀ j, j < x → decide (y = l.getD j default) = false) (fun x => l.length - x) 0 ⟨Nat.zero_le _, fun j hj => absurd hj (Nat.not_lt_zero j)⟩ (weak_mk (by repeat (first | exact sub_env0 _ | refine sub_upd ?_ (by first | rfl | simp [upd]))) (by repeat (first | exact hsub0 _ | refine hsub_hset ?_ (by first | rfl | simp [hset]))) (by repeat (first | exact ids_env0 _ | refine ids_upd ?_ (by simp [idsOk, idsOkL, hset]))) (by repeat (first | exact boxIds0 _ | refine boxIds_row ?_ | refine boxIds_shut ?_ | refine boxIds_box ?_ (by simp [idsOk, idsOkL, hset]))) (by repeat (first | exact keep0 _ | refine keep_low (by decide) ?_ | refine keep_high (by simp [hset]) ?_))) ?_
  rintro x ⟨hx, hq⟩
  simp -implicitDefEqProofs only [go_sem, Nat.reduceEqDiff, Nat.reduceLT, Nat.reduceLeDiff, Nat.reduceMul, Nat.reduceAdd, reduceIte, reduceCtorEq, Nat.le_refl, Nat.not_lt_zero, Nat.zero_le, Nat.zero_lt_succ, decide_true, decide_false, Nat.reduceBEq, Nat.reduceSub, Int.reduceToNat, Bool.not_not, exists_eq', ← List.map_take, ← List.map_drop]
  refine condC_split (fun hc => ?_) (fun hc => ?_)
  · have hlt : x < l.length := by simpa using hc
    simp -implicitDefEqProofs only [go_sem, Nat.reduceEqDiff, Nat.reduceLT, Nat.reduceLeDiff, Nat.reduceMul, Nat.reduceAdd, reduceIte, reduceCtorEq, Nat.le_refl, Nat.not_lt_zero, Nat.zero_le, Nat.zero_lt_succ, decide_true, decide_false, Nat.reduceBEq, Nat.reduceSub, Int.reduceToNat, Bool.not_not, exists_eq', ← List.map_take, ← List.map_drop, getD_map encI hlt, hlt, encI]
    refine condC_split (fun hb => ?_) (fun hb => ?_) <;> simp -implicitDefEqProofs only [go_sem, Nat.reduceEqDiff, Nat.reduceLT, Nat.reduceLeDiff, Nat.reduceMul, Nat.reduceAdd, reduceIte, reduceCtorEq, Nat.le_refl, Nat.not_lt_zero, Nat.zero_le, Nat.zero_lt_succ, decide_true, decide_false, Nat.reduceBEq, Nat.reduceSub, Int.reduceToNat, Bool.not_not, exists_eq', ← List.map_take, ← List.map_drop]
    · exact (idxOf_at (p := fun x => decide (y = x)) hlt hq hb).symm
    · refine loopN_mk (x + 1) ⟨hlt, fun j hj => ?_⟩ (by omega) ?_
      · rcases Nat.lt_succ_iff_lt_or_eq.1 hj with h | h
        · exact hq j h
        · rw [h]; exact hb
      · rw [wrap_succ hlt (by omega)]
        exact (weak_mk (by repeat (first | exact sub_env0 _ | refine sub_upd ?_ (by first | rfl | simp [upd]))) (by repeat (first | exact hsub0 _ | refine hsub_hset ?_ (by first | rfl | simp [hset]))) (by repeat (first | exact ids_env0 _ | refine ids_upd ?_ (by simp [idsOk, idsOkL, hset]))) (by repeat (first | exact boxIds0 _ | refine boxIds_row ?_ | refine boxIds_shut ?_ | refine boxIds_box ?_ (by simp [idsOk, idsOkL, hset]))) (by repeat (first | exact keep0 _ | refine keep_low (by decide) ?_ | refine keep_high (by simp [hset]) ?_)))
  · have hge : l.length ≤ x := by simpa using hc
    simp -implicitDefEqProofs only [go_sem, Nat.reduceEqDiff, Nat.reduceLT, Nat.reduceLeDiff, Nat.reduceMul, Nat.reduceAdd, reduceIte, reduceCtorEq, Nat.le_refl, Nat.not_lt_zero, Nat.zero_le, Nat.zero_lt_succ, decide_true, decide_false, Nat.reduceBEq, Nat.reduceSub, Int.reduceToNat, Bool.not_not, exists_eq', ← List.map_take, ← List.map_drop, hc]
    rw [idxOf_none fun j hj => hq j (by omega)]
theorem has_int (l : List Int) (y : Int) (hl : l.length ≤ 1000000) :
    CallV Go.Proofs.Tryz.prog 138 [.lst (l.map encI), .val (.int .i64 y)] (fun r => r = .val (.bool (l.any fun x => decide (y = x)))) := by
  refine callV_of_cw [] Ty.mixed Go.Proofs.Tryz.func138 rfl (by kernel_rfl) (by simp [Go.Proofs.Tryz.ntmps138]) ?_; rw [Go.Proofs.Tryz.ntmps138, Go.Proofs.Tryz.results138]
  simp -implicitDefEqProofs only [go_sem, Nat.reduceEqDiff, Nat.reduceLT, Nat.reduceLeDiff, Nat.reduceMul, Nat.reduceAdd, reduceIte, reduceCtorEq, Nat.le_refl, Nat.not_lt_zero, Nat.zero_le, Nat.zero_lt_succ, decide_true, decide_false, Nat.reduceBEq, Nat.reduceSub, Int.reduceToNat, Bool.not_not, exists_eq', ← List.map_take, ← List.map_drop]
  refine call_go (ix_int l y hl) (by simp -implicitDefEqProofs only [go_sem, Nat.reduceEqDiff, Nat.reduceLT, Nat.reduceLeDiff, Nat.reduceMul, Nat.reduceAdd, reduceIte, reduceCtorEq, Nat.le_refl, Nat.not_lt_zero, Nat.zero_le, Nat.zero_lt_succ, decide_true, decide_false, Nat.reduceBEq, Nat.reduceSub, Int.reduceToNat, Bool.not_not, exists_eq', ← List.map_take, ← List.map_drop] <;> rfl) (scal rfl) ?_
  simp -implicitDefEqProofs only [go_sem, Nat.reduceEqDiff, Nat.reduceLT, Nat.reduceLeDiff, Nat.reduceMul, Nat.reduceAdd, reduceIte, reduceCtorEq, Nat.le_refl, Nat.not_lt_zero, Nat.zero_le, Nat.zero_lt_succ, decide_true, decide_false, Nat.reduceBEq, Nat.reduceSub, Int.reduceToNat, Bool.not_not, exists_eq', ← List.map_take, ← List.map_drop]
  exact idxOf_any
theorem ix_str (l : List ByteArray) (y : ByteArray) (hl : l.length ≤ 1000000) :
    CallV Go.Proofs.Tryz.prog 168 [.lst (l.map encS), .val (.string y)] (fun r => r = .val (.int .i64 (idxOf (fun x => decide (y = x)) l))) := by
  refine callV_of_cw [] Ty.mixed Go.Proofs.Tryz.func168 rfl (by kernel_rfl) (by simp [Go.Proofs.Tryz.ntmps168]) ?_; rw [Go.Proofs.Tryz.ntmps168, Go.Proofs.Tryz.results168]
  simp -implicitDefEqProofs only [go_sem, Nat.reduceEqDiff, Nat.reduceLT, Nat.reduceLeDiff, Nat.reduceMul, Nat.reduceAdd, reduceIte, reduceCtorEq, Nat.le_refl, Nat.not_lt_zero, Nat.zero_le, Nat.zero_lt_succ, decide_true, decide_false, Nat.reduceBEq, Nat.reduceSub, Int.reduceToNat, Bool.not_not, exists_eq', ← List.map_take, ← List.map_drop]
  refine loop_rule (σ := Nat) (fun x => (upd (upd (upd (upd env0 0 (.p (.lst (l.map encS)))) 1 (.p (.val (.string y)))) 7 (.p (.val (.int .i64 l.length)))) 8 (.p (.val (.int .i64 x))))) (fun x => heap0)
    (fun x => x ≤ l.length ∧ ∀ j, j < x → decide (y = l.getD j default) = false) (fun x => l.length - x) 0 ⟨Nat.zero_le _, fun j hj => absurd hj (Nat.not_lt_zero j)⟩ (weak_mk (by repeat (first | exact sub_env0 _ | refine sub_upd ?_ (by first | rfl | simp [upd]))) (by repeat (first | exact hsub0 _ | refine hsub_hset ?_ (by first | rfl | simp [hset]))) (by repeat (first | exact ids_env0 _ | refine ids_upd ?_ (by simp [idsOk, idsOkL, hset]))) (by repeat (first | exact boxIds0 _ | refine boxIds_row ?_ | refine boxIds_shut ?_ | refine boxIds_box ?_ (by simp [idsOk, idsOkL, hset]))) (by repeat (first | exact keep0 _ | refine keep_low (by decide) ?_ | refine keep_high (by simp [hset]) ?_))) ?_
  rintro x ⟨hx, hq⟩
  simp -implicitDefEqProofs only [go_sem, Nat.reduceEqDiff, Nat.reduceLT, Nat.reduceLeDiff, Nat.reduceMul, Nat.reduceAdd, reduceIte, reduceCtorEq, Nat.le_refl, Nat.not_lt_zero, Nat.zero_le, Nat.zero_lt_succ, decide_true, decide_false, Nat.reduceBEq, Nat.reduceSub, Int.reduceToNat, Bool.not_not, exists_eq', ← List.map_take, ← List.map_drop]
  refine condC_split (fun hc => ?_) (fun hc => ?_)
  · have hlt : x < l.length := by simpa using hc
    simp -implicitDefEqProofs only [go_sem, Nat.reduceEqDiff, Nat.reduceLT, Nat.reduceLeDiff, Nat.reduceMul, Nat.reduceAdd, reduceIte, reduceCtorEq, Nat.le_refl, Nat.not_lt_zero, Nat.zero_le, Nat.zero_lt_succ, decide_true, decide_false, Nat.reduceBEq, Nat.reduceSub, Int.reduceToNat, Bool.not_not, exists_eq', ← List.map_take, ← List.map_drop, getD_map encS hlt, hlt, encS]
    refine condC_split (fun hb => ?_) (fun hb => ?_) <;> simp -implicitDefEqProofs only [go_sem, Nat.reduceEqDiff, Nat.reduceLT, Nat.reduceLeDiff, Nat.reduceMul, Nat.reduceAdd, reduceIte, reduceCtorEq, Nat.le_refl, Nat.not_lt_zero, Nat.zero_le, Nat.zero_lt_succ, decide_true, decide_false, Nat.reduceBEq, Nat.reduceSub, Int.reduceToNat, Bool.not_not, exists_eq', ← List.map_take, ← List.map_drop]
    · exact (idxOf_at (p := fun x => decide (y = x)) hlt hq hb).symm
    · refine loopN_mk (x + 1) ⟨hlt, fun j hj => ?_⟩ (by omega) ?_
      · rcases Nat.lt_succ_iff_lt_or_eq.1 hj with h | h
        · exact hq j h
        · rw [h]; exact hb
      · rw [wrap_succ hlt (by omega)]
        exact (weak_mk (by repeat (first | exact sub_env0 _ | refine sub_upd ?_ (by first | rfl | simp [upd]))) (by repeat (first | exact hsub0 _ | refine hsub_hset ?_ (by first | rfl | simp [hset]))) (by repeat (first | exact ids_env0 _ | refine ids_upd ?_ (by simp [idsOk, idsOkL, hset]))) (by repeat (first | exact boxIds0 _ | refine boxIds_row ?_ | refine boxIds_shut ?_ | refine boxIds_box ?_ (by simp [idsOk, idsOkL, hset]))) (by repeat (first | exact keep0 _ | refine keep_low (by decide) ?_ | refine keep_high (by simp [hset]) ?_)))
  · have hge : l.length ≤ x := by simpa using hc
    simp -implicitDefEqProofs only [go_sem, Nat.reduceEqDiff, Nat.reduceLT, Nat.reduceLeDiff, Nat.reduceMul, Nat.reduceAdd, reduceIte, reduceCtorEq, Nat.le_refl, Nat.not_lt_zero, Nat.zero_le, Nat.zero_lt_succ, decide_true, decide_false, Nat.reduceBEq, Nat.reduceSub, Int.reduceToNat, Bool.not_not, exists_eq', ← List.map_take, ← List.map_drop, hc]
    rw [idxOf_none fun j hj => hq j (by omega)]
theorem has_str (l : List ByteArray) (y : ByteArray) (hl : l.length ≤ 1000000) :
    CallV Go.Proofs.Tryz.prog 158 [.lst (l.map encS), .val (.string y)] (fun r => r = .val (.bool (l.any fun x => decide (y = x)))) := by
  refine callV_of_cw [] Ty.mixed Go.Proofs.Tryz.func158 rfl (by kernel_rfl) (by simp [Go.Proofs.Tryz.ntmps158]) ?_; rw [Go.Proofs.Tryz.ntmps158, Go.Proofs.Tryz.results158]
  simp -implicitDefEqProofs only [go_sem, Nat.reduceEqDiff, Nat.reduceLT, Nat.reduceLeDiff, Nat.reduceMul, Nat.reduceAdd, reduceIte, reduceCtorEq, Nat.le_refl, Nat.not_lt_zero, Nat.zero_le, Nat.zero_lt_succ, decide_true, decide_false, Nat.reduceBEq, Nat.reduceSub, Int.reduceToNat, Bool.not_not, exists_eq', ← List.map_take, ← List.map_drop]
  refine call_go (ix_str l y hl) (by simp -implicitDefEqProofs only [go_sem, Nat.reduceEqDiff, Nat.reduceLT, Nat.reduceLeDiff, Nat.reduceMul, Nat.reduceAdd, reduceIte, reduceCtorEq, Nat.le_refl, Nat.not_lt_zero, Nat.zero_le, Nat.zero_lt_succ, decide_true, decide_false, Nat.reduceBEq, Nat.reduceSub, Int.reduceToNat, Bool.not_not, exists_eq', ← List.map_take, ← List.map_drop] <;> rfl) (scal rfl) ?_
  simp -implicitDefEqProofs only [go_sem, Nat.reduceEqDiff, Nat.reduceLT, Nat.reduceLeDiff, Nat.reduceMul, Nat.reduceAdd, reduceIte, reduceCtorEq, Nat.le_refl, Nat.not_lt_zero, Nat.zero_le, Nat.zero_lt_succ, decide_true, decide_false, Nat.reduceBEq, Nat.reduceSub, Int.reduceToNat, Bool.not_not, exists_eq', ← List.map_take, ← List.map_drop]
  exact idxOf_any
end Go.Proofs.YtdlohnchnneaeaaGreat
/- Package token, as far as names go. -/
namespace Go.Proofs.YtdlohnchnneaeaaGreat
open Go.Abs

theorem digit_ok (n : Int) : CallV Go.Proofs.Tryz.prog 164 [.val (.int .u8 n)] (fun r => r = .val (.bool (digitB n))) := by
  unfold digitB
  refine callV_of_cw [] Ty.mixed Go.Proofs.Tryz.func164 rfl (by kernel_rfl) (by simp [Go.Proofs.Tryz.ntmps164]) ?_; rw [Go.Proofs.Tryz.ntmps164, Go.Proofs.Tryz.results164]
  simp -implicitDefEqProofs only [go_sem, Nat.reduceEqDiff, Nat.reduceLT, Nat.reduceLeDiff, Nat.reduceMul, Nat.reduceAdd, reduceIte, reduceCtorEq, Nat.le_refl, Nat.not_lt_zero, Nat.zero_le, Nat.zero_lt_succ, decide_true, decide_false, Nat.reduceBEq, Nat.reduceSub, Int.reduceToNat, Bool.not_not, exists_eq', ← List.map_take, ← List.map_drop]
  repeat' first | done | (refine walkG_splitN (fun h => ?_) (fun h => ?_) <;> try simp -implicitDefEqProofs only [go_sem, Nat.reduceEqDiff, Nat.reduceLT, Nat.reduceLeDiff, Nat.reduceMul, Nat.reduceAdd, reduceIte, reduceCtorEq, Nat.le_refl, Nat.not_lt_zero, Nat.zero_le, Nat.zero_lt_succ, decide_true, decide_false, Nat.reduceBEq, Nat.reduceSub, Int.reduceToNat, Bool.not_not, exists_eq', ← List.map_take, ← List.map_drop, h]) | (refine walkG_split (fun h => ?_) (fun h => ?_) <;> try simp -implicitDefEqProofs only [go_sem, Nat.reduceEqDiff, Nat.reduceLT, Nat.reduceLeDiff, Nat.reduceMul, Nat.reduceAdd, reduceIte, reduceCtorEq, Nat.le_refl, Nat.not_lt_zero, Nat.zero_le, Nat.zero_lt_succ, decide_true, decide_false, Nat.reduceBEq, Nat.reduceSub, Int.reduceToNat, Bool.not_not, exists_eq', ← List.map_take, ← List.map_drop, h]) | (refine condC_splitN (fun h => ?_) (fun h => ?_) <;> try simp -implicitDefEqProofs only [go_sem, Nat.reduceEqDiff, Nat.reduceLT, Nat.reduceLeDiff, Nat.reduceMul, Nat.reduceAdd, reduceIte, reduceCtorEq, Nat.le_refl, Nat.not_lt_zero, Nat.zero_le, Nat.zero_lt_succ, decide_true, decide_false, Nat.reduceBEq, Nat.reduceSub, Int.reduceToNat, Bool.not_not, exists_eq', ← List.map_take, ← List.map_drop, h]) | (refine condC_split (fun h => ?_) (fun h => ?_) <;> try simp -implicitDefEqProofs only [go_sem, Nat.reduceEqDiff, Nat.reduceLT, Nat.reduceLeDiff, Nat.reduceMul, Nat.reduceAdd, reduceIte, reduceCtorEq, Nat.le_refl, Nat.not_lt_zero, Nat.zero_le, Nat.zero_lt_succ, decide_true, decide_false, Nat.reduceBEq, Nat.reduceSub, Int.reduceToNat, Bool.not_not, exists_eq', ← List.map_take, ← List.map_drop, h])
theorem part_ok (n : Int) : CallV Go.Proofs.Tryz.prog 163 [.val (.int .u8 n)] (fun r => r = .val (.bool (partB n))) := by
  unfold partB
  refine callV_of_cw [] Ty.mixed Go.Proofs.Tryz.func163 rfl (by kernel_rfl) (by simp [Go.Proofs.Tryz.ntmps163]) ?_; rw [Go.Proofs.Tryz.ntmps163, Go.Proofs.Tryz.results163]
  simp -implicitDefEqProofs only [go_sem, Nat.reduceEqDiff, Nat.reduceLT, Nat.reduceLeDiff, Nat.reduceMul, Nat.reduceAdd, reduceIte, reduceCtorEq, Nat.le_refl, Nat.not_lt_zero, Nat.zero_le, Nat.zero_lt_succ, decide_true, decide_false, Nat.reduceBEq, Nat.reduceSub, Int.reduceToNat, Bool.not_not, exists_eq', ← List.map_take, ← List.map_drop]
  refine call_go (letter_ok n) (by simp -implicitDefEqProofs only [go_sem, Nat.reduceEqDiff, Nat.reduceLT, Nat.reduceLeDiff, Nat.reduceMul, Nat.reduceAdd, reduceIte, reduceCtorEq, Nat.le_refl, Nat.not_lt_zero, Nat.zero_le, Nat.zero_lt_succ, decide_true, decide_false, Nat.reduceBEq, Nat.reduceSub, Int.reduceToNat, Bool.not_not, exists_eq', ← List.map_take, ← List.map_drop] <;> rfl) (scal rfl) ?_
  simp -implicitDefEqProofs only [go_sem, Nat.reduceEqDiff, Nat.reduceLT, Nat.reduceLeDiff, Nat.reduceMul, Nat.reduceAdd, reduceIte, reduceCtorEq, Nat.le_refl, Nat.not_lt_zero, Nat.zero_le, Nat.zero_lt_succ, decide_true, decide_false, Nat.reduceBEq, Nat.reduceSub, Int.reduceToNat, Bool.not_not, exists_eq', ← List.map_take, ← List.map_drop]
  refine walkG_splitN (fun h => ?_) (fun h => ?_) <;> simp -implicitDefEqProofs only [go_sem, Nat.reduceEqDiff, Nat.reduceLT, Nat.reduceLeDiff, Nat.reduceMul, Nat.reduceAdd, reduceIte, reduceCtorEq, Nat.le_refl, Nat.not_lt_zero, Nat.zero_le, Nat.zero_lt_succ, decide_true, decide_false, Nat.reduceBEq, Nat.reduceSub, Int.reduceToNat, Bool.not_not, exists_eq', ← List.map_take, ← List.map_drop, h]
  refine call_go (digit_ok n) (by simp -implicitDefEqProofs only [go_sem, Nat.reduceEqDiff, Nat.reduceLT, Nat.reduceLeDiff, Nat.reduceMul, Nat.reduceAdd, reduceIte, reduceCtorEq, Nat.le_refl, Nat.not_lt_zero, Nat.zero_le, Nat.zero_lt_succ, decide_true, decide_false, Nat.reduceBEq, Nat.reduceSub, Int.reduceToNat, Bool.not_not, exists_eq', ← List.map_take, ← List.map_drop] <;> rfl) (scal rfl) ?_
  simp -implicitDefEqProofs only [go_sem, Nat.reduceEqDiff, Nat.reduceLT, Nat.reduceLeDiff, Nat.reduceMul, Nat.reduceAdd, reduceIte, reduceCtorEq, Nat.le_refl, Nat.not_lt_zero, Nat.zero_le, Nat.zero_lt_succ, decide_true, decide_false, Nat.reduceBEq, Nat.reduceSub, Int.reduceToNat, Bool.not_not, exists_eq', ← List.map_take, ← List.map_drop]
  refine walkG_splitN (fun h => ?_) (fun h => ?_) <;> simp -implicitDefEqProofs only [go_sem, Nat.reduceEqDiff, Nat.reduceLT, Nat.reduceLeDiff, Nat.reduceMul, Nat.reduceAdd, reduceIte, reduceCtorEq, Nat.le_refl, Nat.not_lt_zero, Nat.zero_le, Nat.zero_lt_succ, decide_true, decide_false, Nat.reduceBEq, Nat.reduceSub, Int.reduceToNat, Bool.not_not, exists_eq', ← List.map_take, ← List.map_drop, h]
def quotB (n : Int) : Bool := (decide (32 ≤ n) && decide (n ≤ 126)) && !decide (n = 34)
theorem quot1_ok (n : Int) : CallV Go.Proofs.Tryz.prog 174 [.val (.int .u8 n)] (fun r => r = .val (.bool (quotB n))) := by
  unfold quotB
  refine callV_of_cw [] Ty.mixed Go.Proofs.Tryz.func174 rfl (by kernel_rfl) (by simp [Go.Proofs.Tryz.ntmps174]) ?_; rw [Go.Proofs.Tryz.ntmps174, Go.Proofs.Tryz.results174]
  simp -implicitDefEqProofs only [go_sem, Nat.reduceEqDiff, Nat.reduceLT, Nat.reduceLeDiff, Nat.reduceMul, Nat.reduceAdd, reduceIte, reduceCtorEq, Nat.le_refl, Nat.not_lt_zero, Nat.zero_le, Nat.zero_lt_succ, decide_true, decide_false, Nat.reduceBEq, Nat.reduceSub, Int.reduceToNat, Bool.not_not, exists_eq', ← List.map_take, ← List.map_drop]
  repeat' first | done | (refine walkG_splitN (fun h => ?_) (fun h => ?_) <;> try simp -implicitDefEqProofs only [go_sem, Nat.reduceEqDiff, Nat.reduceLT, Nat.reduceLeDiff, Nat.reduceMul, Nat.reduceAdd, reduceIte, reduceCtorEq, Nat.le_refl, Nat.not_lt_zero, Nat.zero_le, Nat.zero_lt_succ, decide_true, decide_false, Nat.reduceBEq, Nat.reduceSub, Int.reduceToNat, Bool.not_not, exists_eq', ← List.map_take, ← List.map_drop, h]) | (refine walkG_split (fun h => ?_) (fun h => ?_) <;> try simp -implicitDefEqProofs only [go_sem, Nat.reduceEqDiff, Nat.reduceLT, Nat.reduceLeDiff, Nat.reduceMul, Nat.reduceAdd, reduceIte, reduceCtorEq, Nat.le_refl, Nat.not_lt_zero, Nat.zero_le, Nat.zero_lt_succ, decide_true, decide_false, Nat.reduceBEq, Nat.reduceSub, Int.reduceToNat, Bool.not_not, exists_eq', ← List.map_take, ← List.map_drop, h]) | (refine condC_splitN (fun h => ?_) (fun h => ?_) <;> try simp -implicitDefEqProofs only [go_sem, Nat.reduceEqDiff, Nat.reduceLT, Nat.reduceLeDiff, Nat.reduceMul, Nat.reduceAdd, reduceIte, reduceCtorEq, Nat.le_refl, Nat.not_lt_zero, Nat.zero_le, Nat.zero_lt_succ, decide_true, decide_false, Nat.reduceBEq, Nat.reduceSub, Int.reduceToNat, Bool.not_not, exists_eq', ← List.map_take, ← List.map_drop, h]) | (refine condC_split (fun h => ?_) (fun h => ?_) <;> try simp -implicitDefEqProofs only [go_sem, Nat.reduceEqDiff, Nat.reduceLT, Nat.reduceLeDiff, Nat.reduceMul, Nat.reduceAdd, reduceIte, reduceCtorEq, Nat.le_refl, Nat.not_lt_zero, Nat.zero_le, Nat.zero_lt_succ, decide_true, decide_false, Nat.reduceBEq, Nat.reduceSub, Int.reduceToNat, Bool.not_not, exists_eq', ← List.map_take, ← List.map_drop, h])

def runF (p : Int → Bool) (s : ByteArray) (a : Nat) : Nat := ((List.range (s.size - a)).takeWhile fun j => p (sbyte s (a + j))).length
theorem takeWhile_range (q : Nat → Bool) : ∀ (m n : Nat), n ≤ m → (∀ j, j < n → q j = true) → (n = m ∨ q n = false) → ((List.range m).takeWhile q).length = n := by
  intro m n hn h1 h2
  have e : List.range m = List.range n ++ (List.range (m - n)).map (n + ·) := by
    rw [← List.range_add]; congr 1; omega
  rw [e, List.takeWhile_append_of_pos (by intro j hj; exact h1 j (List.mem_range.1 hj))]
  rcases h2 with rfl | h2
  · simp
  · cases hm : m - n with
    | zero => simp
    | succ r => simp [List.range_succ_eq_map, h2]
theorem runF_eq {p : Int → Bool} {s : ByteArray} {a n : Nat} (hn : a + n ≤ s.size) (h1 : ∀ j, j < n → p (sbyte s (a + j)) = true) (h2 : a + n = s.size ∨ p (sbyte s (a + n)) = false) : runF p s a = n :=
  takeWhile_range _ _ _ (by omega) h1 (by rcases h2 with h | h; exact .inl (by omega); exact .inr h)
theorem runF_le (p : Int → Bool) (s : ByteArray) (a : Nat) : runF p s a ≤ s.size - a := by
  unfold runF
  exact Nat.le_trans (List.takeWhile_sublist _).length_le (by simp)

theorem run_ok (p : Int → Bool) (s : ByteArray) (hl : s.size ≤ 1000000) (k : FuncId) (fs cs : List PV) (hp : ∀ n, CallV Go.Proofs.Tryz.prog k (fs ++ [.val (.int .u8 n)] ++ cs) (fun r => r = .val (.bool (p n)))) :
    CallV Go.Proofs.Tryz.prog 162 [.val (.string s), .clo (.func k) fs cs] (fun r => r = .val (.int .i64 (runF p s 0))) := by
  refine callV_of_cw [] Ty.mixed Go.Proofs.Tryz.func162 rfl (by kernel_rfl) (by simp [Go.Proofs.Tryz.ntmps162]) ?_; rw [Go.Proofs.Tryz.ntmps162, Go.Proofs.Tryz.results162]
  simp -implicitDefEqProofs only [go_sem, Nat.reduceEqDiff, Nat.reduceLT, Nat.reduceLeDiff, Nat.reduceMul, Nat.reduceAdd, reduceIte, reduceCtorEq, Nat.le_refl, Nat.not_lt_zero, Nat.zero_le, Nat.zero_lt_succ, decide_true, decide_false, Nat.reduceBEq, Nat.reduceSub, Int.reduceToNat, Bool.not_not, exists_eq', ← List.map_take, ← List.map_drop]
  refine loop_rule (σ := Nat) (fun x => (upd (upd (upd env0 0 (.p (.val (.string s)))) 1 (.p (.clo (.func k) fs cs))) 5 (.p (.val (.int .i64 x))))) (fun x => heap0)
    (fun x => x ≤ s.size ∧ ∀ j, j < x → p (sbyte s (0 + j)) = true) (fun x => s.size - x) 0 ⟨Nat.zero_le _, fun j hj => absurd hj (Nat.not_lt_zero j)⟩ (weak_mk (by repeat (first | exact sub_env0 _ | refine sub_upd ?_ (by first | rfl | simp [upd]))) (by repeat (first | exact hsub0 _ | refine hsub_hset ?_ (by first | rfl | simp [hset]))) (by repeat (first | exact ids_env0 _ | refine ids_upd ?_ (by simp [idsOk, idsOkL, hset]))) (by repeat (first | exact boxIds0 _ | refine boxIds_row ?_ | refine boxIds_shut ?_ | refine boxIds_box ?_ (by simp [idsOk, idsOkL, hset]))) (by repeat (first | exact keep0 _ | refine keep_low (by decide) ?_ | refine keep_high (by simp [hset]) ?_))) ?_
  rintro x ⟨hx, hq⟩
  simp -implicitDefEqProofs only [go_sem, Nat.reduceEqDiff, Nat.reduceLT, Nat.reduceLeDiff, Nat.reduceMul, Nat.reduceAdd, reduceIte, reduceCtorEq, Nat.le_refl, Nat.not_lt_zero, Nat.zero_le, Nat.zero_lt_succ, decide_true, decide_false, Nat.reduceBEq, Nat.reduceSub, Int.reduceToNat, Bool.not_not, exists_eq', ← List.map_take, ← List.map_drop]
  refine walkG_split (fun hc => ?_) (fun hc => ?_)
  · have hlt : x < s.size := by simpa using hc
    simp -implicitDefEqProofs only [go_sem, Nat.reduceEqDiff, Nat.reduceLT, Nat.reduceLeDiff, Nat.reduceMul, Nat.reduceAdd, reduceIte, reduceCtorEq, Nat.le_refl, Nat.not_lt_zero, Nat.zero_le, Nat.zero_lt_succ, decide_true, decide_false, Nat.reduceBEq, Nat.reduceSub, Int.reduceToNat, Bool.not_not, exists_eq', ← List.map_take, ← List.map_drop, hlt, hc]
    refine call_go (hp (sbyte s x)) (by simp -implicitDefEqProofs only [go_sem, Nat.reduceEqDiff, Nat.reduceLT, Nat.reduceLeDiff, Nat.reduceMul, Nat.reduceAdd, reduceIte, reduceCtorEq, Nat.le_refl, Nat.not_lt_zero, Nat.zero_le, Nat.zero_lt_succ, decide_true, decide_false, Nat.reduceBEq, Nat.reduceSub, Int.reduceToNat, Bool.not_not, exists_eq', ← List.map_take, ← List.map_drop, lendL_app, lendL_map, Bool.or_false, Bool.false_or] <;> rfl) (scal rfl) ?_
    simp -implicitDefEqProofs only [go_sem, Nat.reduceEqDiff, Nat.reduceLT, Nat.reduceLeDiff, Nat.reduceMul, Nat.reduceAdd, reduceIte, reduceCtorEq, Nat.le_refl, Nat.not_lt_zero, Nat.zero_le, Nat.zero_lt_succ, decide_true, decide_false, Nat.reduceBEq, Nat.reduceSub, Int.reduceToNat, Bool.not_not, exists_eq', ← List.map_take, ← List.map_drop, hc]
    refine condC_split (fun hb => ?_) (fun hb => ?_) <;> simp -implicitDefEqProofs only [go_sem, Nat.reduceEqDiff, Nat.reduceLT, Nat.reduceLeDiff, Nat.reduceMul, Nat.reduceAdd, reduceIte, reduceCtorEq, Nat.le_refl, Nat.not_lt_zero, Nat.zero_le, Nat.zero_lt_succ, decide_true, decide_false, Nat.reduceBEq, Nat.reduceSub, Int.reduceToNat, Bool.not_not, exists_eq', ← List.map_take, ← List.map_drop]
    · refine loopN_mk (x + 1) ⟨hlt, fun j hj => ?_⟩ (by omega) ?_
      · rcases Nat.lt_succ_iff_lt_or_eq.1 hj with h | h
        · simpa using hq j h
        · rw [h]; exact hb
      · rw [wrap_succ hlt (by omega)]
        exact (weak_mk (by repeat (first | exact sub_env0 _ | refine sub_upd ?_ (by first | rfl | simp [upd]))) (by repeat (first | exact hsub0 _ | refine hsub_hset ?_ (by first | rfl | simp [hset]))) (by repeat (first | exact ids_env0 _ | refine ids_upd ?_ (by simp [idsOk, idsOkL, hset]))) (by repeat (first | exact boxIds0 _ | refine boxIds_row ?_ | refine boxIds_shut ?_ | refine boxIds_box ?_ (by simp [idsOk, idsOkL, hset]))) (by repeat (first | exact keep0 _ | refine keep_low (by decide) ?_ | refine keep_high (by simp [hset]) ?_)))
    · rw [runF_eq (by omega) hq (.inr (by rw [Nat.zero_add]; exact hb))]
  · have hge : s.size ≤ x := by simpa using hc
    simp -implicitDefEqProofs only [go_sem, Nat.reduceEqDiff, Nat.reduceLT, Nat.reduceLeDiff, Nat.reduceMul, Nat.reduceAdd, reduceIte, reduceCtorEq, Nat.le_refl, Nat.not_lt_zero, Nat.zero_le, Nat.zero_lt_succ, decide_true, decide_false, Nat.reduceBEq, Nat.reduceSub, Int.reduceToNat, Bool.not_not, exists_eq', ← List.map_take, ← List.map_drop, hc]
    rw [runF_eq (by omega) hq (.inl (by omega))]

theorem extract_size {s : ByteArray} {a : Nat} (h : a ≤ s.size) : (s.extract a s.size).size = s.size - a := by simp

theorem quoted_ok (s : ByteArray) (hl : s.size ≤ 1000000) (h0 : 0 < s.size) : CallV Go.Proofs.Tryz.prog 165 [.val (.string s)] (fun r => ∃ n e : Int, r = .tup [.val (.int .i64 n), .val (.int .i64 e)]) := by
  have h1 : ((s.extract 1 s.size).size : Int) = s.size - 1 := by simp; omega
  have h2 := runF_le quotB (s.extract 1 s.size) 0
  generalize hm : runF quotB (s.extract 1 s.size) 0 = m at h2
  have h3 : IntKind.i64.wrap (1 + (m : Int)) = ((m + 1 : Nat) : Int) := by rw [IntWalk.i64_in _ (by omega)]; omega
  refine callV_of_cw [] Ty.mixed Go.Proofs.Tryz.func165 rfl (by kernel_rfl) (by simp [Go.Proofs.Tryz.ntmps165]) ?_; rw [Go.Proofs.Tryz.ntmps165, Go.Proofs.Tryz.results165]
  simp -implicitDefEqProofs only [go_sem, Nat.reduceEqDiff, Nat.reduceLT, Nat.reduceLeDiff, Nat.reduceMul, Nat.reduceAdd, reduceIte, reduceCtorEq, Nat.le_refl, Nat.not_lt_zero, Nat.zero_le, Nat.zero_lt_succ, decide_true, decide_false, Nat.reduceBEq, Nat.reduceSub, Int.reduceToNat, Bool.not_not, exists_eq', ← List.map_take, ← List.map_drop]
  refine ⟨⟨by omega, by omega, by omega⟩, ?_⟩
  refine call_go (run_ok quotB (s.extract 1 s.size) (by simp; omega) _ [] [] quot1_ok) (by simp -implicitDefEqProofs only [go_sem, Nat.reduceEqDiff, Nat.reduceLT, Nat.reduceLeDiff, Nat.reduceMul, Nat.reduceAdd, reduceIte, reduceCtorEq, Nat.le_refl, Nat.not_lt_zero, Nat.zero_le, Nat.zero_lt_succ, decide_true, decide_false, Nat.reduceBEq, Nat.reduceSub, Int.reduceToNat, Bool.not_not, exists_eq', ← List.map_take, ← List.map_drop] <;> rfl) (scal rfl) ?_
  simp -implicitDefEqProofs only [go_sem, Nat.reduceEqDiff, Nat.reduceLT, Nat.reduceLeDiff, Nat.reduceMul, Nat.reduceAdd, reduceIte, reduceCtorEq, Nat.le_refl, Nat.not_lt_zero, Nat.zero_le, Nat.zero_lt_succ, decide_true, decide_false, Nat.reduceBEq, Nat.reduceSub, Int.reduceToNat, Bool.not_not, exists_eq', ← List.map_take, ← List.map_drop, hm, h3]
  refine walkG_splitN (fun h => ?_) (fun h => ?_)
  · simp -implicitDefEqProofs only [go_sem, Nat.reduceEqDiff, Nat.reduceLT, Nat.reduceLeDiff, Nat.reduceMul, Nat.reduceAdd, reduceIte, reduceCtorEq, Nat.le_refl, Nat.not_lt_zero, Nat.zero_le, Nat.zero_lt_succ, decide_true, decide_false, Nat.reduceBEq, Nat.reduceSub, Int.reduceToNat, Bool.not_not, exists_eq', ← List.map_take, ← List.map_drop, h]
    exact ⟨_, _, rfl, rfl⟩
  · have hne : m + 1 ≠ s.size := by intro e; rw [e] at h; simp at h
    have hlt : m + 1 < s.size := by simp at h2; omega
    simp -implicitDefEqProofs only [go_sem, Nat.reduceEqDiff, Nat.reduceLT, Nat.reduceLeDiff, Nat.reduceMul, Nat.reduceAdd, reduceIte, reduceCtorEq, Nat.le_refl, Nat.not_lt_zero, Nat.zero_le, Nat.zero_lt_succ, decide_true, decide_false, Nat.reduceBEq, Nat.reduceSub, Int.reduceToNat, Bool.not_not, exists_eq', ← List.map_take, ← List.map_drop, h, h3, hlt]
    refine condC_split (fun hb => ?_) (fun hb => ?_) <;> simp -implicitDefEqProofs only [go_sem, Nat.reduceEqDiff, Nat.reduceLT, Nat.reduceLeDiff, Nat.reduceMul, Nat.reduceAdd, reduceIte, reduceCtorEq, Nat.le_refl, Nat.not_lt_zero, Nat.zero_le, Nat.zero_lt_succ, decide_true, decide_false, Nat.reduceBEq, Nat.reduceSub, Int.reduceToNat, Bool.not_not, exists_eq', ← List.map_take, ← List.map_drop]
    · exact ⟨_, _, rfl, rfl⟩
    · refine condC_split (fun hb => ?_) (fun hb => ?_) <;> simp -implicitDefEqProofs only [go_sem, Nat.reduceEqDiff, Nat.reduceLT, Nat.reduceLeDiff, Nat.reduceMul, Nat.reduceAdd, reduceIte, reduceCtorEq, Nat.le_refl, Nat.not_lt_zero, Nat.zero_le, Nat.zero_lt_succ, decide_true, decide_false, Nat.reduceBEq, Nat.reduceSub, Int.reduceToNat, Bool.not_not, exists_eq', ← List.map_take, ← List.map_drop]
      · exact ⟨_, _, rfl, rfl⟩
      · exact ⟨_, _, rfl, rfl⟩

def pairL : List ByteArray := [⟨#[45, 62]⟩, ⟨#[60, 61]⟩, ⟨#[62, 61]⟩, ⟨#[61, 61]⟩, ⟨#[33, 61]⟩]
theorem pair_ok (s : ByteArray) : CallV Go.Proofs.Tryz.prog 166 [.val (.string s)] (fun r => ∃ b : Bool, r = .val (.bool b)) := by
  refine callV_of_cw [] Ty.mixed Go.Proofs.Tryz.func166 rfl (by kernel_rfl) (by simp [Go.Proofs.Tryz.ntmps166]) ?_; rw [Go.Proofs.Tryz.ntmps166, Go.Proofs.Tryz.results166]
  simp -implicitDefEqProofs only [go_sem, Nat.reduceEqDiff, Nat.reduceLT, Nat.reduceLeDiff, Nat.reduceMul, Nat.reduceAdd, reduceIte, reduceCtorEq, Nat.le_refl, Nat.not_lt_zero, Nat.zero_le, Nat.zero_lt_succ, decide_true, decide_false, Nat.reduceBEq, Nat.reduceSub, Int.reduceToNat, Bool.not_not, exists_eq', ← List.map_take, ← List.map_drop]
  refine walkG_split (fun h => ?_) (fun h => ?_)
  · have h2 : (2 : Int) ≤ s.size := of_decide_eq_true h
    simp -implicitDefEqProofs only [go_sem, Nat.reduceEqDiff, Nat.reduceLT, Nat.reduceLeDiff, Nat.reduceMul, Nat.reduceAdd, reduceIte, reduceCtorEq, Nat.le_refl, Nat.not_lt_zero, Nat.zero_le, Nat.zero_lt_succ, decide_true, decide_false, Nat.reduceBEq, Nat.reduceSub, Int.reduceToNat, Bool.not_not, exists_eq', ← List.map_take, ← List.map_drop, h]
    refine ⟨⟨by decide, by decide, h2⟩, ?_⟩
    refine call_go (has_str pairL (s.extract 0 2) (by decide)) (by simp -implicitDefEqProofs only [go_sem, Nat.reduceEqDiff, Nat.reduceLT, Nat.reduceLeDiff, Nat.reduceMul, Nat.reduceAdd, reduceIte, reduceCtorEq, Nat.le_refl, Nat.not_lt_zero, Nat.zero_le, Nat.zero_lt_succ, decide_true, decide_false, Nat.reduceBEq, Nat.reduceSub, Int.reduceToNat, Bool.not_not, exists_eq', ← List.map_take, ← List.map_drop] <;> rfl) (scal rfl) ?_
    simp -implicitDefEqProofs only [go_sem, Nat.reduceEqDiff, Nat.reduceLT, Nat.reduceLeDiff, Nat.reduceMul, Nat.reduceAdd, reduceIte, reduceCtorEq, Nat.le_refl, Nat.not_lt_zero, Nat.zero_le, Nat.zero_lt_succ, decide_true, decide_false, Nat.reduceBEq, Nat.reduceSub, Int.reduceToNat, Bool.not_not, exists_eq', ← List.map_take, ← List.map_drop, h]
    all_goals exact ⟨_, rfl⟩
  · simp -implicitDefEqProofs only [go_sem, Nat.reduceEqDiff, Nat.reduceLT, Nat.reduceLeDiff, Nat.reduceMul, Nat.reduceAdd, reduceIte, reduceCtorEq, Nat.le_refl, Nat.not_lt_zero, Nat.zero_le, Nat.zero_lt_succ, decide_true, decide_false, Nat.reduceBEq, Nat.reduceSub, Int.reduceToNat, Bool.not_not, exists_eq', ← List.map_take, ← List.map_drop, h]
    all_goals exact ⟨_, rfl⟩
theorem ixb_ext (s : ByteArray) (n : Int) : ExtV Go.Proofs.Tryz.prog 176 [.val (.string s), .val (.int .u8 n)] (.val (.int .i64 (Lib.indexByte s.data.toList n.toNat.toUInt8))) := by
  intro I w us hu
  obtain ⟨hl, hv⟩ := hu
  match us, hl, hv with
  | [a, b], _, hv =>
    have ha := hv 0 a _ rfl rfl
    have hb := hv 1 b _ rfl rfl
    cases ha
    cases hb
    refine ⟨_, ?_, .val _ rfl⟩
    rw [run_callFunc_extern Go.Proofs.Tryz.func176 (by kernel_rfl) (by kernel_rfl) (by kernel_rfl) (e := Extern.BytealgIndexByte.indexByte) (by kernel_rfl)]
    rw [Lib.run_indexByteString]
    try rfl
theorem ixb1_ok (s : ByteArray) (n : Int) : CallV Go.Proofs.Tryz.prog 175 [.val (.string s), .val (.int .u8 n)] (fun r => ∃ m : Int, r = .val (.int .i64 m)) := by
  refine callV_of_cw [] Ty.mixed Go.Proofs.Tryz.func175 rfl (by kernel_rfl) (by simp [Go.Proofs.Tryz.ntmps175]) ?_; rw [Go.Proofs.Tryz.ntmps175, Go.Proofs.Tryz.results175]
  simp -implicitDefEqProofs only [go_sem, Nat.reduceEqDiff, Nat.reduceLT, Nat.reduceLeDiff, Nat.reduceMul, Nat.reduceAdd, reduceIte, reduceCtorEq, Nat.le_refl, Nat.not_lt_zero, Nat.zero_le, Nat.zero_lt_succ, decide_true, decide_false, Nat.reduceBEq, Nat.reduceSub, Int.reduceToNat, Bool.not_not, exists_eq', ← List.map_take, ← List.map_drop]
  refine call_ext (ixb_ext s n) rfl ?_
  simp -implicitDefEqProofs only [go_sem, Nat.reduceEqDiff, Nat.reduceLT, Nat.reduceLeDiff, Nat.reduceMul, Nat.reduceAdd, reduceIte, reduceCtorEq, Nat.le_refl, Nat.not_lt_zero, Nat.zero_le, Nat.zero_lt_succ, decide_true, decide_false, Nat.reduceBEq, Nat.reduceSub, Int.reduceToNat, Bool.not_not, exists_eq', ← List.map_take, ← List.map_drop]
  all_goals exact ⟨_, rfl⟩
theorem ixb2_ok (s : ByteArray) (n : Int) : CallV Go.Proofs.Tryz.prog 167 [.val (.string s), .val (.int .u8 n)] (fun r => ∃ m : Int, r = .val (.int .i64 m)) := by
  refine callV_of_cw [] Ty.mixed Go.Proofs.Tryz.func167 rfl (by kernel_rfl) (by simp [Go.Proofs.Tryz.ntmps167]) ?_; rw [Go.Proofs.Tryz.ntmps167, Go.Proofs.Tryz.results167]
  simp -implicitDefEqProofs only [go_sem, Nat.reduceEqDiff, Nat.reduceLT, Nat.reduceLeDiff, Nat.reduceMul, Nat.reduceAdd, reduceIte, reduceCtorEq, Nat.le_refl, Nat.not_lt_zero, Nat.zero_le, Nat.zero_lt_succ, decide_true, decide_false, Nat.reduceBEq, Nat.reduceSub, Int.reduceToNat, Bool.not_not, exists_eq', ← List.map_take, ← List.map_drop]
  refine call_rel (ixb1_ok s n) (by simp -implicitDefEqProofs only [go_sem, Nat.reduceEqDiff, Nat.reduceLT, Nat.reduceLeDiff, Nat.reduceMul, Nat.reduceAdd, reduceIte, reduceCtorEq, Nat.le_refl, Nat.not_lt_zero, Nat.zero_le, Nat.zero_lt_succ, decide_true, decide_false, Nat.reduceBEq, Nat.reduceSub, Int.reduceToNat, Bool.not_not, exists_eq', ← List.map_take, ← List.map_drop] <;> rfl) ?_
  rintro r ⟨m, rfl⟩
  refine ⟨scal rfl, ?_⟩
  simp -implicitDefEqProofs only [go_sem, Nat.reduceEqDiff, Nat.reduceLT, Nat.reduceLeDiff, Nat.reduceMul, Nat.reduceAdd, reduceIte, reduceCtorEq, Nat.le_refl, Nat.not_lt_zero, Nat.zero_le, Nat.zero_lt_succ, decide_true, decide_false, Nat.reduceBEq, Nat.reduceSub, Int.reduceToNat, Bool.not_not, exists_eq', ← List.map_take, ← List.map_drop]
  all_goals exact ⟨_, rfl⟩

/-- Is it a name? -/
def nameB (s : ByteArray) : Bool := decide (s.size ≠ 0) && letterB (sbyte s 0) && decide (runF partB s 0 = s.size) && decide (s.size ≤ 20)

theorem nameB_iff (s : ByteArray) : nameB s = true ↔ s.size ≠ 0 ∧ letterB (sbyte s 0) = true ∧ runF partB s 0 = s.size ∧ s.size ≤ 20 := by
  unfold nameB
  simp only [Bool.and_eq_true, decide_eq_true_eq, and_assoc]

theorem next_ok (s : ByteArray) (hl : s.size ≤ 1000000) (h0 : 0 < s.size) : CallV Go.Proofs.Tryz.prog 156 [.val (.string s)] (fun r =>
    ∃ k n e : Int, r = .tup [.val (.int .i64 k), .val (.int .i64 n), .val (.int .i64 e)] ∧ ((e = 0 ∧ k = 1 ∧ n = s.size) ↔ nameB s = true)) := by
  have h0' : (0 : Int) < s.size := by omega
  refine callV_of_cw [] Ty.mixed Go.Proofs.Tryz.func156 rfl (by kernel_rfl) (by simp [Go.Proofs.Tryz.ntmps156]) ?_; rw [Go.Proofs.Tryz.ntmps156, Go.Proofs.Tryz.results156]
  simp -implicitDefEqProofs only [go_sem, Nat.reduceEqDiff, Nat.reduceLT, Nat.reduceLeDiff, Nat.reduceMul, Nat.reduceAdd, reduceIte, reduceCtorEq, Nat.le_refl, Nat.not_lt_zero, Nat.zero_le, Nat.zero_lt_succ, decide_true, decide_false, Nat.reduceBEq, Nat.reduceSub, Int.reduceToNat, Bool.not_not, exists_eq', ← List.map_take, ← List.map_drop]
  refine ⟨⟨by decide, h0'⟩, ?_⟩
  refine call_go (letter_ok (sbyte s 0)) (by simp -implicitDefEqProofs only [go_sem, Nat.reduceEqDiff, Nat.reduceLT, Nat.reduceLeDiff, Nat.reduceMul, Nat.reduceAdd, reduceIte, reduceCtorEq, Nat.le_refl, Nat.not_lt_zero, Nat.zero_le, Nat.zero_lt_succ, decide_true, decide_false, Nat.reduceBEq, Nat.reduceSub, Int.reduceToNat, Bool.not_not, exists_eq', ← List.map_take, ← List.map_drop] <;> rfl) (scal rfl) ?_
  simp -implicitDefEqProofs only [go_sem, Nat.reduceEqDiff, Nat.reduceLT, Nat.reduceLeDiff, Nat.reduceMul, Nat.reduceAdd, reduceIte, reduceCtorEq, Nat.le_refl, Nat.not_lt_zero, Nat.zero_le, Nat.zero_lt_succ, decide_true, decide_false, Nat.reduceBEq, Nat.reduceSub, Int.reduceToNat, Bool.not_not, exists_eq', ← List.map_take, ← List.map_drop]
  refine condC_split (fun hc => ?_) (fun hc => ?_) <;> simp -implicitDefEqProofs only [go_sem, Nat.reduceEqDiff, Nat.reduceLT, Nat.reduceLeDiff, Nat.reduceMul, Nat.reduceAdd, reduceIte, reduceCtorEq, Nat.le_refl, Nat.not_lt_zero, Nat.zero_le, Nat.zero_lt_succ, decide_true, decide_false, Nat.reduceBEq, Nat.reduceSub, Int.reduceToNat, Bool.not_not, exists_eq', ← List.map_take, ← List.map_drop]
  · refine call_go (run_ok partB s hl _ [] [] part_ok) (by simp -implicitDefEqProofs only [go_sem, Nat.reduceEqDiff, Nat.reduceLT, Nat.reduceLeDiff, Nat.reduceMul, Nat.reduceAdd, reduceIte, reduceCtorEq, Nat.le_refl, Nat.not_lt_zero, Nat.zero_le, Nat.zero_lt_succ, decide_true, decide_false, Nat.reduceBEq, Nat.reduceSub, Int.reduceToNat, Bool.not_not, exists_eq', ← List.map_take, ← List.map_drop] <;> rfl) (scal rfl) ?_
    simp -implicitDefEqProofs only [go_sem, Nat.reduceEqDiff, Nat.reduceLT, Nat.reduceLeDiff, Nat.reduceMul, Nat.reduceAdd, reduceIte, reduceCtorEq, Nat.le_refl, Nat.not_lt_zero, Nat.zero_le, Nat.zero_lt_succ, decide_true, decide_false, Nat.reduceBEq, Nat.reduceSub, Int.reduceToNat, Bool.not_not, exists_eq', ← List.map_take, ← List.map_drop]
    refine condC_split (fun hd => ?_) (fun hd => ?_) <;> simp -implicitDefEqProofs only [go_sem, Nat.reduceEqDiff, Nat.reduceLT, Nat.reduceLeDiff, Nat.reduceMul, Nat.reduceAdd, reduceIte, reduceCtorEq, Nat.le_refl, Nat.not_lt_zero, Nat.zero_le, Nat.zero_lt_succ, decide_true, decide_false, Nat.reduceBEq, Nat.reduceSub, Int.reduceToNat, Bool.not_not, exists_eq', ← List.map_take, ← List.map_drop]
    · have hd' := of_decide_eq_true hd
      refine ⟨_, _, _, ⟨rfl, rfl, rfl⟩, ?_⟩
      rw [nameB_iff]
      constructor
      · rintro ⟨h, _⟩; omega
      · rintro ⟨_, _, h1, h2⟩; omega
    · have hd' := of_decide_eq_false hd
      refine ⟨_, _, _, ⟨rfl, rfl, rfl⟩, ?_⟩
      rw [nameB_iff]
      constructor
      · rintro ⟨_, _, h⟩; exact ⟨by omega, hc, by omega, by omega⟩
      · rintro ⟨_, _, h1, h2⟩; exact ⟨rfl, rfl, by omega⟩
  · have hn : nameB s = false := by simp [nameB, hc]
    refine call_go (digit_ok (sbyte s 0)) (by simp -implicitDefEqProofs only [go_sem, Nat.reduceEqDiff, Nat.reduceLT, Nat.reduceLeDiff, Nat.reduceMul, Nat.reduceAdd, reduceIte, reduceCtorEq, Nat.le_refl, Nat.not_lt_zero, Nat.zero_le, Nat.zero_lt_succ, decide_true, decide_false, Nat.reduceBEq, Nat.reduceSub, Int.reduceToNat, Bool.not_not, exists_eq', ← List.map_take, ← List.map_drop] <;> rfl) (scal rfl) ?_
    simp -implicitDefEqProofs only [go_sem, Nat.reduceEqDiff, Nat.reduceLT, Nat.reduceLeDiff, Nat.reduceMul, Nat.reduceAdd, reduceIte, reduceCtorEq, Nat.le_refl, Nat.not_lt_zero, Nat.zero_le, Nat.zero_lt_succ, decide_true, decide_false, Nat.reduceBEq, Nat.reduceSub, Int.reduceToNat, Bool.not_not, exists_eq', ← List.map_take, ← List.map_drop]
    refine condC_split (fun hd => ?_) (fun hd => ?_) <;> simp -implicitDefEqProofs only [go_sem, Nat.reduceEqDiff, Nat.reduceLT, Nat.reduceLeDiff, Nat.reduceMul, Nat.reduceAdd, reduceIte, reduceCtorEq, Nat.le_refl, Nat.not_lt_zero, Nat.zero_le, Nat.zero_lt_succ, decide_true, decide_false, Nat.reduceBEq, Nat.reduceSub, Int.reduceToNat, Bool.not_not, exists_eq', ← List.map_take, ← List.map_drop]
    · refine call_go (run_ok digitB s hl _ [] [] digit_ok) (by simp -implicitDefEqProofs only [go_sem, Nat.reduceEqDiff, Nat.reduceLT, Nat.reduceLeDiff, Nat.reduceMul, Nat.reduceAdd, reduceIte, reduceCtorEq, Nat.le_refl, Nat.not_lt_zero, Nat.zero_le, Nat.zero_lt_succ, decide_true, decide_false, Nat.reduceBEq, Nat.reduceSub, Int.reduceToNat, Bool.not_not, exists_eq', ← List.map_take, ← List.map_drop] <;> rfl) (scal rfl) ?_
      simp -implicitDefEqProofs only [go_sem, Nat.reduceEqDiff, Nat.reduceLT, Nat.reduceLeDiff, Nat.reduceMul, Nat.reduceAdd, reduceIte, reduceCtorEq, Nat.le_refl, Nat.not_lt_zero, Nat.zero_le, Nat.zero_lt_succ, decide_true, decide_false, Nat.reduceBEq, Nat.reduceSub, Int.reduceToNat, Bool.not_not, exists_eq', ← List.map_take, ← List.map_drop]
      refine condC_split (fun hd => ?_) (fun hd => ?_) <;> simp -implicitDefEqProofs only [go_sem, Nat.reduceEqDiff, Nat.reduceLT, Nat.reduceLeDiff, Nat.reduceMul, Nat.reduceAdd, reduceIte, reduceCtorEq, Nat.le_refl, Nat.not_lt_zero, Nat.zero_le, Nat.zero_lt_succ, decide_true, decide_false, Nat.reduceBEq, Nat.reduceSub, Int.reduceToNat, Bool.not_not, exists_eq', ← List.map_take, ← List.map_drop]
      · exact ⟨_, _, _, ⟨rfl, rfl, rfl⟩, by simp [hn]⟩
      · exact ⟨_, _, _, ⟨rfl, rfl, rfl⟩, by simp [hn]⟩
    · refine condC_split (fun hq => ?_) (fun hq => ?_) <;> simp -implicitDefEqProofs only [go_sem, Nat.reduceEqDiff, Nat.reduceLT, Nat.reduceLeDiff, Nat.reduceMul, Nat.reduceAdd, reduceIte, reduceCtorEq, Nat.le_refl, Nat.not_lt_zero, Nat.zero_le, Nat.zero_lt_succ, decide_true, decide_false, Nat.reduceBEq, Nat.reduceSub, Int.reduceToNat, Bool.not_not, exists_eq', ← List.map_take, ← List.map_drop]
      · refine call_rel (quoted_ok s hl h0) (by simp -implicitDefEqProofs only [go_sem, Nat.reduceEqDiff, Nat.reduceLT, Nat.reduceLeDiff, Nat.reduceMul, Nat.reduceAdd, reduceIte, reduceCtorEq, Nat.le_refl, Nat.not_lt_zero, Nat.zero_le, Nat.zero_lt_succ, decide_true, decide_false, Nat.reduceBEq, Nat.reduceSub, Int.reduceToNat, Bool.not_not, exists_eq', ← List.map_take, ← List.map_drop] <;> rfl) ?_
        rintro r ⟨n, e, rfl⟩
        refine ⟨scal rfl, ?_⟩
        simp -implicitDefEqProofs only [go_sem, Nat.reduceEqDiff, Nat.reduceLT, Nat.reduceLeDiff, Nat.reduceMul, Nat.reduceAdd, reduceIte, reduceCtorEq, Nat.le_refl, Nat.not_lt_zero, Nat.zero_le, Nat.zero_lt_succ, decide_true, decide_false, Nat.reduceBEq, Nat.reduceSub, Int.reduceToNat, Bool.not_not, exists_eq', ← List.map_take, ← List.map_drop]
        exact ⟨_, _, _, ⟨rfl, rfl, rfl⟩, by simp [hn]⟩
      · refine call_rel (pair_ok s) (by simp -implicitDefEqProofs only [go_sem, Nat.reduceEqDiff, Nat.reduceLT, Nat.reduceLeDiff, Nat.reduceMul, Nat.reduceAdd, reduceIte, reduceCtorEq, Nat.le_refl, Nat.not_lt_zero, Nat.zero_le, Nat.zero_lt_succ, decide_true, decide_false, Nat.reduceBEq, Nat.reduceSub, Int.reduceToNat, Bool.not_not, exists_eq', ← List.map_take, ← List.map_drop] <;> rfl) ?_
        rintro r ⟨b, rfl⟩
        refine ⟨scal rfl, ?_⟩
        simp -implicitDefEqProofs only [go_sem, Nat.reduceEqDiff, Nat.reduceLT, Nat.reduceLeDiff, Nat.reduceMul, Nat.reduceAdd, reduceIte, reduceCtorEq, Nat.le_refl, Nat.not_lt_zero, Nat.zero_le, Nat.zero_lt_succ, decide_true, decide_false, Nat.reduceBEq, Nat.reduceSub, Int.reduceToNat, Bool.not_not, exists_eq', ← List.map_take, ← List.map_drop]
        refine condC_split (fun hp => ?_) (fun hp => ?_) <;> simp -implicitDefEqProofs only [go_sem, Nat.reduceEqDiff, Nat.reduceLT, Nat.reduceLeDiff, Nat.reduceMul, Nat.reduceAdd, reduceIte, reduceCtorEq, Nat.le_refl, Nat.not_lt_zero, Nat.zero_le, Nat.zero_lt_succ, decide_true, decide_false, Nat.reduceBEq, Nat.reduceSub, Int.reduceToNat, Bool.not_not, exists_eq', ← List.map_take, ← List.map_drop]
        · exact ⟨_, _, _, ⟨rfl, rfl, rfl⟩, by simp [hn]⟩
        · refine call_rel (ixb2_ok _ _) (by simp -implicitDefEqProofs only [go_sem, Nat.reduceEqDiff, Nat.reduceLT, Nat.reduceLeDiff, Nat.reduceMul, Nat.reduceAdd, reduceIte, reduceCtorEq, Nat.le_refl, Nat.not_lt_zero, Nat.zero_le, Nat.zero_lt_succ, decide_true, decide_false, Nat.reduceBEq, Nat.reduceSub, Int.reduceToNat, Bool.not_not, exists_eq', ← List.map_take, ← List.map_drop] <;> rfl) ?_
          rintro r ⟨b, rfl⟩
          refine ⟨scal rfl, ?_⟩
          simp -implicitDefEqProofs only [go_sem, Nat.reduceEqDiff, Nat.reduceLT, Nat.reduceLeDiff, Nat.reduceMul, Nat.reduceAdd, reduceIte, reduceCtorEq, Nat.le_refl, Nat.not_lt_zero, Nat.zero_le, Nat.zero_lt_succ, decide_true, decide_false, Nat.reduceBEq, Nat.reduceSub, Int.reduceToNat, Bool.not_not, exists_eq', ← List.map_take, ← List.map_drop]
          refine condC_split (fun hp => ?_) (fun hp => ?_) <;> simp -implicitDefEqProofs only [go_sem, Nat.reduceEqDiff, Nat.reduceLT, Nat.reduceLeDiff, Nat.reduceMul, Nat.reduceAdd, reduceIte, reduceCtorEq, Nat.le_refl, Nat.not_lt_zero, Nat.zero_le, Nat.zero_lt_succ, decide_true, decide_false, Nat.reduceBEq, Nat.reduceSub, Int.reduceToNat, Bool.not_not, exists_eq', ← List.map_take, ← List.map_drop]
          · exact ⟨_, _, _, ⟨rfl, rfl, rfl⟩, by simp [hn]⟩
          · exact ⟨_, _, _, ⟨rfl, rfl, rfl⟩, by simp [hn]⟩

def okT (b : Bool) : PV := .val (.bool b)
theorem whole_ok (s : ByteArray) (hl : s.size ≤ 1000000) : CallV Go.Proofs.Tryz.prog 141 [.agg [.val (.int .i64 1), .val (.string s), .val (.int .i64 0)]] (fun r => ∃ u : ByteArray, r = .tup [.val (.string u), .val (.bool (nameB s))]) := by
  refine callV_of_cw [] Ty.mixed Go.Proofs.Tryz.func141 rfl (by kernel_rfl) (by simp [Go.Proofs.Tryz.ntmps141]) ?_; rw [Go.Proofs.Tryz.ntmps141, Go.Proofs.Tryz.results141]
  simp -implicitDefEqProofs only [go_sem, Nat.reduceEqDiff, Nat.reduceLT, Nat.reduceLeDiff, Nat.reduceMul, Nat.reduceAdd, reduceIte, reduceCtorEq, Nat.le_refl, Nat.not_lt_zero, Nat.zero_le, Nat.zero_lt_succ, decide_true, decide_false, Nat.reduceBEq, Nat.reduceSub, Int.reduceToNat, Bool.not_not, exists_eq', ← List.map_take, ← List.map_drop, Int.reduceEq]
  refine condC_split (fun hc => ?_) (fun hc => ?_) <;> simp -implicitDefEqProofs only [go_sem, Nat.reduceEqDiff, Nat.reduceLT, Nat.reduceLeDiff, Nat.reduceMul, Nat.reduceAdd, reduceIte, reduceCtorEq, Nat.le_refl, Nat.not_lt_zero, Nat.zero_le, Nat.zero_lt_succ, decide_true, decide_false, Nat.reduceBEq, Nat.reduceSub, Int.reduceToNat, Bool.not_not, exists_eq', ← List.map_take, ← List.map_drop]
  · have he : s = ⟨#[]⟩ := of_decide_eq_true hc
    have : nameB s = false := by rw [he]; try rfl
    rw [this]
    exact ⟨_, rfl, rfl⟩
  · have he : s ≠ ⟨#[]⟩ := of_decide_eq_false hc
    have h0 : 0 < s.size := by
      rcases Nat.eq_zero_or_pos s.size with h | h
      · exact absurd (ByteArray.ext (Array.eq_empty_of_size_eq_zero h)) he
      · exact h
    refine call_rel (next_ok s hl h0) (by simp -implicitDefEqProofs only [go_sem, Nat.reduceEqDiff, Nat.reduceLT, Nat.reduceLeDiff, Nat.reduceMul, Nat.reduceAdd, reduceIte, reduceCtorEq, Nat.le_refl, Nat.not_lt_zero, Nat.zero_le, Nat.zero_lt_succ, decide_true, decide_false, Nat.reduceBEq, Nat.reduceSub, Int.reduceToNat, Bool.not_not, exists_eq', ← List.map_take, ← List.map_drop] <;> rfl) ?_
    rintro r ⟨k, n, e, rfl, hiff⟩
    refine ⟨scal rfl, ?_⟩
    have hn : nameB s = ((decide (e = 0) && decide (k = 1)) && decide (n = s.size)) := by
      rw [Bool.eq_iff_iff, ← hiff]
      simp only [Bool.and_eq_true, decide_eq_true_eq, and_assoc]
    rw [hn]
    simp -implicitDefEqProofs only [go_sem, Nat.reduceEqDiff, Nat.reduceLT, Nat.reduceLeDiff, Nat.reduceMul, Nat.reduceAdd, reduceIte, reduceCtorEq, Nat.le_refl, Nat.not_lt_zero, Nat.zero_le, Nat.zero_lt_succ, decide_true, decide_false, Nat.reduceBEq, Nat.reduceSub, Int.reduceToNat, Bool.not_not, exists_eq', ← List.map_take, ← List.map_drop]
    refine walkG_split (fun h => ?_) (fun h => ?_) <;> simp -implicitDefEqProofs only [go_sem, Nat.reduceEqDiff, Nat.reduceLT, Nat.reduceLeDiff, Nat.reduceMul, Nat.reduceAdd, reduceIte, reduceCtorEq, Nat.le_refl, Nat.not_lt_zero, Nat.zero_le, Nat.zero_lt_succ, decide_true, decide_false, Nat.reduceBEq, Nat.reduceSub, Int.reduceToNat, Bool.not_not, exists_eq', ← List.map_take, ← List.map_drop, h, exists_eq', exists_and_right, and_true, true_and]
    refine walkG_split (fun h' => ?_) (fun h' => ?_) <;> simp -implicitDefEqProofs only [go_sem, Nat.reduceEqDiff, Nat.reduceLT, Nat.reduceLeDiff, Nat.reduceMul, Nat.reduceAdd, reduceIte, reduceCtorEq, Nat.le_refl, Nat.not_lt_zero, Nat.zero_le, Nat.zero_lt_succ, decide_true, decide_false, Nat.reduceBEq, Nat.reduceSub, Int.reduceToNat, Bool.not_not, exists_eq', ← List.map_take, ← List.map_drop, h, h', exists_eq', exists_and_right, and_true, true_and]
theorem isName_ok (s : ByteArray) (hl : s.size ≤ 1000000) : CallV Go.Proofs.Tryz.prog 118 [.val (.string s)] (fun r => r = .val (.bool (nameB s))) := by
  refine callV_of_cw [] Ty.mixed Go.Proofs.Tryz.func118 rfl (by kernel_rfl) (by simp [Go.Proofs.Tryz.ntmps118]) ?_; rw [Go.Proofs.Tryz.ntmps118, Go.Proofs.Tryz.results118]
  simp -implicitDefEqProofs only [go_sem, Nat.reduceEqDiff, Nat.reduceLT, Nat.reduceLeDiff, Nat.reduceMul, Nat.reduceAdd, reduceIte, reduceCtorEq, Nat.le_refl, Nat.not_lt_zero, Nat.zero_le, Nat.zero_lt_succ, decide_true, decide_false, Nat.reduceBEq, Nat.reduceSub, Int.reduceToNat, Bool.not_not, exists_eq', ← List.map_take, ← List.map_drop]
  refine call_rel (whole_ok s hl) (by simp -implicitDefEqProofs only [go_sem, Nat.reduceEqDiff, Nat.reduceLT, Nat.reduceLeDiff, Nat.reduceMul, Nat.reduceAdd, reduceIte, reduceCtorEq, Nat.le_refl, Nat.not_lt_zero, Nat.zero_le, Nat.zero_lt_succ, decide_true, decide_false, Nat.reduceBEq, Nat.reduceSub, Int.reduceToNat, Bool.not_not, exists_eq', ← List.map_take, ← List.map_drop] <;> rfl) ?_
  rintro r ⟨u, rfl⟩
  refine ⟨scal rfl, ?_⟩
  simp -implicitDefEqProofs only [go_sem, Nat.reduceEqDiff, Nat.reduceLT, Nat.reduceLeDiff, Nat.reduceMul, Nat.reduceAdd, reduceIte, reduceCtorEq, Nat.le_refl, Nat.not_lt_zero, Nat.zero_le, Nat.zero_lt_succ, decide_true, decide_false, Nat.reduceBEq, Nat.reduceSub, Int.reduceToNat, Bool.not_not, exists_eq', ← List.map_take, ← List.map_drop]
end Go.Proofs.YtdlohnchnneaeaaGreat
/- The reference's names. -/
namespace Go.Proofs.YtdlohnchnneaeaaGreat
open Go.Abs

theorem rletter_ok (n : Int) : CallV Go.Proofs.Tryz.prog 169 [.val (.int .u8 n)] (fun r => r = .val (.bool (letterB n))) := by
  unfold letterB
  refine callV_of_cw [] Ty.mixed Go.Proofs.Tryz.func169 rfl (by kernel_rfl) (by simp [Go.Proofs.Tryz.ntmps169]) ?_; rw [Go.Proofs.Tryz.ntmps169, Go.Proofs.Tryz.results169]
  simp -implicitDefEqProofs only [go_sem, Nat.reduceEqDiff, Nat.reduceLT, Nat.reduceLeDiff, Nat.reduceMul, Nat.reduceAdd, reduceIte, reduceCtorEq, Nat.le_refl, Nat.not_lt_zero, Nat.zero_le, Nat.zero_lt_succ, decide_true, decide_false, Nat.reduceBEq, Nat.reduceSub, Int.reduceToNat, Bool.not_not, exists_eq', ← List.map_take, ← List.map_drop]
  repeat' first | done | (refine walkG_splitN (fun h => ?_) (fun h => ?_) <;> try simp -implicitDefEqProofs only [go_sem, Nat.reduceEqDiff, Nat.reduceLT, Nat.reduceLeDiff, Nat.reduceMul, Nat.reduceAdd, reduceIte, reduceCtorEq, Nat.le_refl, Nat.not_lt_zero, Nat.zero_le, Nat.zero_lt_succ, decide_true, decide_false, Nat.reduceBEq, Nat.reduceSub, Int.reduceToNat, Bool.not_not, exists_eq', ← List.map_take, ← List.map_drop, h]) | (refine walkG_split (fun h => ?_) (fun h => ?_) <;> try simp -implicitDefEqProofs only [go_sem, Nat.reduceEqDiff, Nat.reduceLT, Nat.reduceLeDiff, Nat.reduceMul, Nat.reduceAdd, reduceIte, reduceCtorEq, Nat.le_refl, Nat.not_lt_zero, Nat.zero_le, Nat.zero_lt_succ, decide_true, decide_false, Nat.reduceBEq, Nat.reduceSub, Int.reduceToNat, Bool.not_not, exists_eq', ← List.map_take, ← List.map_drop, h]) | (refine condC_splitN (fun h => ?_) (fun h => ?_) <;> try simp -implicitDefEqProofs only [go_sem, Nat.reduceEqDiff, Nat.reduceLT, Nat.reduceLeDiff, Nat.reduceMul, Nat.reduceAdd, reduceIte, reduceCtorEq, Nat.le_refl, Nat.not_lt_zero, Nat.zero_le, Nat.zero_lt_succ, decide_true, decide_false, Nat.reduceBEq, Nat.reduceSub, Int.reduceToNat, Bool.not_not, exists_eq', ← List.map_take, ← List.map_drop, h]) | (refine condC_split (fun h => ?_) (fun h => ?_) <;> try simp -implicitDefEqProofs only [go_sem, Nat.reduceEqDiff, Nat.reduceLT, Nat.reduceLeDiff, Nat.reduceMul, Nat.reduceAdd, reduceIte, reduceCtorEq, Nat.le_refl, Nat.not_lt_zero, Nat.zero_le, Nat.zero_lt_succ, decide_true, decide_false, Nat.reduceBEq, Nat.reduceSub, Int.reduceToNat, Bool.not_not, exists_eq', ← List.map_take, ← List.map_drop, h])
theorem rdigit_ok (n : Int) : CallV Go.Proofs.Tryz.prog 170 [.val (.int .u8 n)] (fun r => r = .val (.bool (digitB n))) := by
  unfold digitB
  refine callV_of_cw [] Ty.mixed Go.Proofs.Tryz.func170 rfl (by kernel_rfl) (by simp [Go.Proofs.Tryz.ntmps170]) ?_; rw [Go.Proofs.Tryz.ntmps170, Go.Proofs.Tryz.results170]
  simp -implicitDefEqProofs only [go_sem, Nat.reduceEqDiff, Nat.reduceLT, Nat.reduceLeDiff, Nat.reduceMul, Nat.reduceAdd, reduceIte, reduceCtorEq, Nat.le_refl, Nat.not_lt_zero, Nat.zero_le, Nat.zero_lt_succ, decide_true, decide_false, Nat.reduceBEq, Nat.reduceSub, Int.reduceToNat, Bool.not_not, exists_eq', ← List.map_take, ← List.map_drop]
  repeat' first | done | (refine walkG_splitN (fun h => ?_) (fun h => ?_) <;> try simp -implicitDefEqProofs only [go_sem, Nat.reduceEqDiff, Nat.reduceLT, Nat.reduceLeDiff, Nat.reduceMul, Nat.reduceAdd, reduceIte, reduceCtorEq, Nat.le_refl, Nat.not_lt_zero, Nat.zero_le, Nat.zero_lt_succ, decide_true, decide_false, Nat.reduceBEq, Nat.reduceSub, Int.reduceToNat, Bool.not_not, exists_eq', ← List.map_take, ← List.map_drop, h]) | (refine walkG_split (fun h => ?_) (fun h => ?_) <;> try simp -implicitDefEqProofs only [go_sem, Nat.reduceEqDiff, Nat.reduceLT, Nat.reduceLeDiff, Nat.reduceMul, Nat.reduceAdd, reduceIte, reduceCtorEq, Nat.le_refl, Nat.not_lt_zero, Nat.zero_le, Nat.zero_lt_succ, decide_true, decide_false, Nat.reduceBEq, Nat.reduceSub, Int.reduceToNat, Bool.not_not, exists_eq', ← List.map_take, ← List.map_drop, h]) | (refine condC_splitN (fun h => ?_) (fun h => ?_) <;> try simp -implicitDefEqProofs only [go_sem, Nat.reduceEqDiff, Nat.reduceLT, Nat.reduceLeDiff, Nat.reduceMul, Nat.reduceAdd, reduceIte, reduceCtorEq, Nat.le_refl, Nat.not_lt_zero, Nat.zero_le, Nat.zero_lt_succ, decide_true, decide_false, Nat.reduceBEq, Nat.reduceSub, Int.reduceToNat, Bool.not_not, exists_eq', ← List.map_take, ← List.map_drop, h]) | (refine condC_split (fun h => ?_) (fun h => ?_) <;> try simp -implicitDefEqProofs only [go_sem, Nat.reduceEqDiff, Nat.reduceLT, Nat.reduceLeDiff, Nat.reduceMul, Nat.reduceAdd, reduceIte, reduceCtorEq, Nat.le_refl, Nat.not_lt_zero, Nat.zero_le, Nat.zero_lt_succ, decide_true, decide_false, Nat.reduceBEq, Nat.reduceSub, Int.reduceToNat, Bool.not_not, exists_eq', ← List.map_take, ← List.map_drop, h])
def rpartB (digits : Bool) (n : Int) : Bool := digitB n || (!digits && (letterB n || decide (n = 95)))
theorem rpartB_false : rpartB false = partB := by
  funext n
  unfold rpartB partB
  cases digitB n <;> cases letterB n <;> simp

theorem rrun_ok (s : ByteArray) (hl : s.size ≤ 1000000) (b : Bool) :
    CallV Go.Proofs.Tryz.prog 171 [.val (.string s), .val (.int .i64 0), .val (.bool b)] (fun r => r = .val (.int .i64 (runF (rpartB b) s 0))) := by
  refine callV_of_cw [] Ty.mixed Go.Proofs.Tryz.func171 rfl (by kernel_rfl) (by simp [Go.Proofs.Tryz.ntmps171]) ?_; rw [Go.Proofs.Tryz.ntmps171, Go.Proofs.Tryz.results171]
  simp -implicitDefEqProofs only [go_sem, Nat.reduceEqDiff, Nat.reduceLT, Nat.reduceLeDiff, Nat.reduceMul, Nat.reduceAdd, reduceIte, reduceCtorEq, Nat.le_refl, Nat.not_lt_zero, Nat.zero_le, Nat.zero_lt_succ, decide_true, decide_false, Nat.reduceBEq, Nat.reduceSub, Int.reduceToNat, Bool.not_not, exists_eq', ← List.map_take, ← List.map_drop]
  refine loop_rule (σ := Nat) (fun x => (upd (upd (upd (upd env0 0 (.p (.val (.string s)))) 1 (.p (.val (.int .i64 0)))) 2 (.p (.val (.bool b)))) 7 (.p (.val (.int .i64 x))))) (fun x => heap0)
    (fun x => x ≤ s.size ∧ ∀ j, j < x → rpartB b (sbyte s (0 + j)) = true) (fun x => s.size - x) 0 ⟨Nat.zero_le _, fun j hj => absurd hj (Nat.not_lt_zero j)⟩ (weak_mk (by repeat (first | exact sub_env0 _ | refine sub_upd ?_ (by first | rfl | simp [upd]))) (by repeat (first | exact hsub0 _ | refine hsub_hset ?_ (by first | rfl | simp [hset]))) (by repeat (first | exact ids_env0 _ | refine ids_upd ?_ (by simp [idsOk, idsOkL, hset]))) (by repeat (first | exact boxIds0 _ | refine boxIds_row ?_ | refine boxIds_shut ?_ | refine boxIds_box ?_ (by simp [idsOk, idsOkL, hset]))) (by repeat (first | exact keep0 _ | refine keep_low (by decide) ?_ | refine keep_high (by simp [hset]) ?_))) ?_
  rintro x ⟨hx, hq⟩
  have hw : IntKind.i64.wrap (0 + (x : Int)) = x := by rw [IntWalk.i64_in _ (by omega)]; omega
  simp -implicitDefEqProofs only [go_sem, Nat.reduceEqDiff, Nat.reduceLT, Nat.reduceLeDiff, Nat.reduceMul, Nat.reduceAdd, reduceIte, reduceCtorEq, Nat.le_refl, Nat.not_lt_zero, Nat.zero_le, Nat.zero_lt_succ, decide_true, decide_false, Nat.reduceBEq, Nat.reduceSub, Int.reduceToNat, Bool.not_not, exists_eq', ← List.map_take, ← List.map_drop, hw]
  refine walkG_split (fun hc => ?_) (fun hc => ?_)
  · have hlt : x < s.size := by simpa using hc
    have fin (h : rpartB b (sbyte s x) = false) : ((x : Nat) : Int) = (runF (rpartB b) s 0 : Nat) := by rw [runF_eq (by omega) hq (.inr (by rw [Nat.zero_add]; exact h))]
    simp -implicitDefEqProofs only [go_sem, Nat.reduceEqDiff, Nat.reduceLT, Nat.reduceLeDiff, Nat.reduceMul, Nat.reduceAdd, reduceIte, reduceCtorEq, Nat.le_refl, Nat.not_lt_zero, Nat.zero_le, Nat.zero_lt_succ, decide_true, decide_false, Nat.reduceBEq, Nat.reduceSub, Int.reduceToNat, Bool.not_not, exists_eq', ← List.map_take, ← List.map_drop, hlt, hc, hw]
    refine call_go (rdigit_ok (sbyte s x)) (by simp -implicitDefEqProofs only [go_sem, Nat.reduceEqDiff, Nat.reduceLT, Nat.reduceLeDiff, Nat.reduceMul, Nat.reduceAdd, reduceIte, reduceCtorEq, Nat.le_refl, Nat.not_lt_zero, Nat.zero_le, Nat.zero_lt_succ, decide_true, decide_false, Nat.reduceBEq, Nat.reduceSub, Int.reduceToNat, Bool.not_not, exists_eq', ← List.map_take, ← List.map_drop] <;> rfl) (scal rfl) ?_
    simp -implicitDefEqProofs only [go_sem, Nat.reduceEqDiff, Nat.reduceLT, Nat.reduceLeDiff, Nat.reduceMul, Nat.reduceAdd, reduceIte, reduceCtorEq, Nat.le_refl, Nat.not_lt_zero, Nat.zero_le, Nat.zero_lt_succ, decide_true, decide_false, Nat.reduceBEq, Nat.reduceSub, Int.reduceToNat, Bool.not_not, exists_eq', ← List.map_take, ← List.map_drop, hc, hw]
    refine walkG_splitN (fun h1 => ?_) (fun h1 => ?_) <;> simp -implicitDefEqProofs only [go_sem, Nat.reduceEqDiff, Nat.reduceLT, Nat.reduceLeDiff, Nat.reduceMul, Nat.reduceAdd, reduceIte, reduceCtorEq, Nat.le_refl, Nat.not_lt_zero, Nat.zero_le, Nat.zero_lt_succ, decide_true, decide_false, Nat.reduceBEq, Nat.reduceSub, Int.reduceToNat, Bool.not_not, exists_eq', ← List.map_take, ← List.map_drop, h1, hc, hw]
    · refine loopN_mk (x + 1) ⟨hlt, fun j hj => ?_⟩ (by omega) ?_
      · rcases Nat.lt_succ_iff_lt_or_eq.1 hj with h | h
        · simpa using hq j h
        · rw [h]; simp [rpartB, h1]
      · rw [wrap_succ hlt (by omega)]
        exact (weak_mk (by repeat (first | exact sub_env0 _ | refine sub_upd ?_ (by first | rfl | simp [upd]))) (by repeat (first | exact hsub0 _ | refine hsub_hset ?_ (by first | rfl | simp [hset]))) (by repeat (first | exact ids_env0 _ | refine ids_upd ?_ (by simp [idsOk, idsOkL, hset]))) (by repeat (first | exact boxIds0 _ | refine boxIds_row ?_ | refine boxIds_shut ?_ | refine boxIds_box ?_ (by simp [idsOk, idsOkL, hset]))) (by repeat (first | exact keep0 _ | refine keep_low (by decide) ?_ | refine keep_high (by simp [hset]) ?_)))
    · refine walkG_splitN (fun h2 => ?_) (fun h2 => ?_) <;> simp -implicitDefEqProofs only [go_sem, Nat.reduceEqDiff, Nat.reduceLT, Nat.reduceLeDiff, Nat.reduceMul, Nat.reduceAdd, reduceIte, reduceCtorEq, Nat.le_refl, Nat.not_lt_zero, Nat.zero_le, Nat.zero_lt_succ, decide_true, decide_false, Nat.reduceBEq, Nat.reduceSub, Int.reduceToNat, Bool.not_not, exists_eq', ← List.map_take, ← List.map_drop, h1, h2, hc, hw]
      · subst h2
        exact fin (by simp [rpartB, h1])
      · subst h2
        refine ⟨hlt, ?_⟩
        refine call_go (rletter_ok (sbyte s x)) (by simp -implicitDefEqProofs only [go_sem, Nat.reduceEqDiff, Nat.reduceLT, Nat.reduceLeDiff, Nat.reduceMul, Nat.reduceAdd, reduceIte, reduceCtorEq, Nat.le_refl, Nat.not_lt_zero, Nat.zero_le, Nat.zero_lt_succ, decide_true, decide_false, Nat.reduceBEq, Nat.reduceSub, Int.reduceToNat, Bool.not_not, exists_eq', ← List.map_take, ← List.map_drop] <;> rfl) (scal rfl) ?_
        simp -implicitDefEqProofs only [go_sem, Nat.reduceEqDiff, Nat.reduceLT, Nat.reduceLeDiff, Nat.reduceMul, Nat.reduceAdd, reduceIte, reduceCtorEq, Nat.le_refl, Nat.not_lt_zero, Nat.zero_le, Nat.zero_lt_succ, decide_true, decide_false, Nat.reduceBEq, Nat.reduceSub, Int.reduceToNat, Bool.not_not, exists_eq', ← List.map_take, ← List.map_drop, hc, hw]
        refine walkG_splitN (fun h3 => ?_) (fun h3 => ?_) <;> simp -implicitDefEqProofs only [go_sem, Nat.reduceEqDiff, Nat.reduceLT, Nat.reduceLeDiff, Nat.reduceMul, Nat.reduceAdd, reduceIte, reduceCtorEq, Nat.le_refl, Nat.not_lt_zero, Nat.zero_le, Nat.zero_lt_succ, decide_true, decide_false, Nat.reduceBEq, Nat.reduceSub, Int.reduceToNat, Bool.not_not, exists_eq', ← List.map_take, ← List.map_drop, h1, h3, hc, hw, hlt]
        · refine loopN_mk (x + 1) ⟨hlt, fun j hj => ?_⟩ (by omega) ?_
          · rcases Nat.lt_succ_iff_lt_or_eq.1 hj with h | h
            · simpa using hq j h
            · rw [h]; simp [rpartB, h3]
          · rw [wrap_succ hlt (by omega)]
            exact (weak_mk (by repeat (first | exact sub_env0 _ | refine sub_upd ?_ (by first | rfl | simp [upd]))) (by repeat (first | exact hsub0 _ | refine hsub_hset ?_ (by first | rfl | simp [hset]))) (by repeat (first | exact ids_env0 _ | refine ids_upd ?_ (by simp [idsOk, idsOkL, hset]))) (by repeat (first | exact boxIds0 _ | refine boxIds_row ?_ | refine boxIds_shut ?_ | refine boxIds_box ?_ (by simp [idsOk, idsOkL, hset]))) (by repeat (first | exact keep0 _ | refine keep_low (by decide) ?_ | refine keep_high (by simp [hset]) ?_)))
        · refine condC_split (fun h4 => ?_) (fun h4 => ?_) <;> simp -implicitDefEqProofs only [go_sem, Nat.reduceEqDiff, Nat.reduceLT, Nat.reduceLeDiff, Nat.reduceMul, Nat.reduceAdd, reduceIte, reduceCtorEq, Nat.le_refl, Nat.not_lt_zero, Nat.zero_le, Nat.zero_lt_succ, decide_true, decide_false, Nat.reduceBEq, Nat.reduceSub, Int.reduceToNat, Bool.not_not, exists_eq', ← List.map_take, ← List.map_drop]
          · refine loopN_mk (x + 1) ⟨hlt, fun j hj => ?_⟩ (by omega) ?_
            · rcases Nat.lt_succ_iff_lt_or_eq.1 hj with h | h
              · simpa using hq j h
              · rw [h]; simp [rpartB, h4]
            · rw [wrap_succ hlt (by omega)]
              exact (weak_mk (by repeat (first | exact sub_env0 _ | refine sub_upd ?_ (by first | rfl | simp [upd]))) (by repeat (first | exact hsub0 _ | refine hsub_hset ?_ (by first | rfl | simp [hset]))) (by repeat (first | exact ids_env0 _ | refine ids_upd ?_ (by simp [idsOk, idsOkL, hset]))) (by repeat (first | exact boxIds0 _ | refine boxIds_row ?_ | refine boxIds_shut ?_ | refine boxIds_box ?_ (by simp [idsOk, idsOkL, hset]))) (by repeat (first | exact keep0 _ | refine keep_low (by decide) ?_ | refine keep_high (by simp [hset]) ?_)))
          · exact fin (by simp [rpartB, h1, h3, h4])
  · have hge : s.size ≤ x := by simpa using hc
    simp -implicitDefEqProofs only [go_sem, Nat.reduceEqDiff, Nat.reduceLT, Nat.reduceLeDiff, Nat.reduceMul, Nat.reduceAdd, reduceIte, reduceCtorEq, Nat.le_refl, Nat.not_lt_zero, Nat.zero_le, Nat.zero_lt_succ, decide_true, decide_false, Nat.reduceBEq, Nat.reduceSub, Int.reduceToNat, Bool.not_not, exists_eq', ← List.map_take, ← List.map_drop, hc]
    rw [runF_eq (by omega) hq (.inl (by omega))]

theorem rquoted_ok (s : ByteArray) (hl : s.size ≤ 1000000) : CallV Go.Proofs.Tryz.prog 172 [.val (.string s), .val (.int .i64 0)] (fun r => ∃ n : Nat, r = .val (.int .i64 n) ∧ (n = 0 ∨ (2 ≤ n ∧ n ≤ s.size))) := by
  refine callV_of_cw [] Ty.mixed Go.Proofs.Tryz.func172 rfl (by kernel_rfl) (by simp [Go.Proofs.Tryz.ntmps172]) ?_; rw [Go.Proofs.Tryz.ntmps172, Go.Proofs.Tryz.results172]
  simp -implicitDefEqProofs only [go_sem, Nat.reduceEqDiff, Nat.reduceLT, Nat.reduceLeDiff, Nat.reduceMul, Nat.reduceAdd, reduceIte, reduceCtorEq, Nat.le_refl, Nat.not_lt_zero, Nat.zero_le, Nat.zero_lt_succ, decide_true, decide_false, Nat.reduceBEq, Nat.reduceSub, Int.reduceToNat, Bool.not_not, exists_eq', ← List.map_take, ← List.map_drop]
  refine loop_rule (σ := Nat) (fun x => (upd (upd (upd env0 0 (.p (.val (.string s)))) 1 (.p (.val (.int .i64 0)))) 5 (.p (.val (.int .i64 x))))) (fun x => heap0)
    (fun x => 1 ≤ x ∧ x ≤ s.size + 1) (fun x => s.size + 1 - x) 1 ⟨Nat.le_refl _, by omega⟩ (weak_mk (by repeat (first | exact sub_env0 _ | refine sub_upd ?_ (by first | rfl | simp [upd]))) (by repeat (first | exact hsub0 _ | refine hsub_hset ?_ (by first | rfl | simp [hset]))) (by repeat (first | exact ids_env0 _ | refine ids_upd ?_ (by simp [idsOk, idsOkL, hset]))) (by repeat (first | exact boxIds0 _ | refine boxIds_row ?_ | refine boxIds_shut ?_ | refine boxIds_box ?_ (by simp [idsOk, idsOkL, hset]))) (by repeat (first | exact keep0 _ | refine keep_low (by decide) ?_ | refine keep_high (by simp [hset]) ?_))) ?_
  rintro x ⟨hx1, hx⟩
  have hw : IntKind.i64.wrap (0 + (x : Int)) = x := by rw [IntWalk.i64_in _ (by omega)]; omega
  simp -implicitDefEqProofs only [go_sem, Nat.reduceEqDiff, Nat.reduceLT, Nat.reduceLeDiff, Nat.reduceMul, Nat.reduceAdd, reduceIte, reduceCtorEq, Nat.le_refl, Nat.not_lt_zero, Nat.zero_le, Nat.zero_lt_succ, decide_true, decide_false, Nat.reduceBEq, Nat.reduceSub, Int.reduceToNat, Bool.not_not, exists_eq', ← List.map_take, ← List.map_drop, hw]
  refine condC_split (fun hc => ?_) (fun hc => ?_)
  · have hlt : x < s.size := by simpa using hc
    simp -implicitDefEqProofs only [go_sem, Nat.reduceEqDiff, Nat.reduceLT, Nat.reduceLeDiff, Nat.reduceMul, Nat.reduceAdd, reduceIte, reduceCtorEq, Nat.le_refl, Nat.not_lt_zero, Nat.zero_le, Nat.zero_lt_succ, decide_true, decide_false, Nat.reduceBEq, Nat.reduceSub, Int.reduceToNat, Bool.not_not, exists_eq', ← List.map_take, ← List.map_drop, hlt, hw]
    refine condC_split (fun h1 => ?_) (fun h1 => ?_) <;> simp -implicitDefEqProofs only [go_sem, Nat.reduceEqDiff, Nat.reduceLT, Nat.reduceLeDiff, Nat.reduceMul, Nat.reduceAdd, reduceIte, reduceCtorEq, Nat.le_refl, Nat.not_lt_zero, Nat.zero_le, Nat.zero_lt_succ, decide_true, decide_false, Nat.reduceBEq, Nat.reduceSub, Int.reduceToNat, Bool.not_not, exists_eq', ← List.map_take, ← List.map_drop]
    · rw [wrap_succ hlt (by omega)]
      exact ⟨x + 1, rfl, .inr ⟨by omega, by omega⟩⟩
    · refine walkG_splitN (fun h2 => ?_) (fun h2 => ?_) <;> simp -implicitDefEqProofs only [go_sem, Nat.reduceEqDiff, Nat.reduceLT, Nat.reduceLeDiff, Nat.reduceMul, Nat.reduceAdd, reduceIte, reduceCtorEq, Nat.le_refl, Nat.not_lt_zero, Nat.zero_le, Nat.zero_lt_succ, decide_true, decide_false, Nat.reduceBEq, Nat.reduceSub, Int.reduceToNat, Bool.not_not, exists_eq', ← List.map_take, ← List.map_drop, h2]
      · exact ⟨0, rfl, .inl rfl⟩
      · refine condC_split (fun h3 => ?_) (fun h3 => ?_) <;> simp -implicitDefEqProofs only [go_sem, Nat.reduceEqDiff, Nat.reduceLT, Nat.reduceLeDiff, Nat.reduceMul, Nat.reduceAdd, reduceIte, reduceCtorEq, Nat.le_refl, Nat.not_lt_zero, Nat.zero_le, Nat.zero_lt_succ, decide_true, decide_false, Nat.reduceBEq, Nat.reduceSub, Int.reduceToNat, Bool.not_not, exists_eq', ← List.map_take, ← List.map_drop]
        · exact ⟨0, rfl, .inl rfl⟩
        · refine loopN_mk (x + 1) ⟨by omega, by omega⟩ (by omega) ?_
          rw [wrap_succ hlt (by omega)]
          exact (weak_mk (by repeat (first | exact sub_env0 _ | refine sub_upd ?_ (by first | rfl | simp [upd]))) (by repeat (first | exact hsub0 _ | refine hsub_hset ?_ (by first | rfl | simp [hset]))) (by repeat (first | exact ids_env0 _ | refine ids_upd ?_ (by simp [idsOk, idsOkL, hset]))) (by repeat (first | exact boxIds0 _ | refine boxIds_row ?_ | refine boxIds_shut ?_ | refine boxIds_box ?_ (by simp [idsOk, idsOkL, hset]))) (by repeat (first | exact keep0 _ | refine keep_low (by decide) ?_ | refine keep_high (by simp [hset]) ?_)))
  · simp -implicitDefEqProofs only [go_sem, Nat.reduceEqDiff, Nat.reduceLT, Nat.reduceLeDiff, Nat.reduceMul, Nat.reduceAdd, reduceIte, reduceCtorEq, Nat.le_refl, Nat.not_lt_zero, Nat.zero_le, Nat.zero_lt_succ, decide_true, decide_false, Nat.reduceBEq, Nat.reduceSub, Int.reduceToNat, Bool.not_not, exists_eq', ← List.map_take, ← List.map_drop]
    exact ⟨0, rfl, .inl rfl⟩

def signL : List ByteArray := [⟨#[45, 62]⟩, ⟨#[60, 61]⟩, ⟨#[62, 61]⟩, ⟨#[61, 61]⟩, ⟨#[33, 61]⟩, ⟨#[123]⟩, ⟨#[125]⟩, ⟨#[40]⟩, ⟨#[41]⟩, ⟨#[91]⟩, ⟨#[93]⟩, ⟨#[44]⟩, ⟨#[59]⟩, ⟨#[58]⟩, ⟨#[61]⟩, ⟨#[43]⟩, ⟨#[45]⟩, ⟨#[42]⟩, ⟨#[60]⟩, ⟨#[62]⟩, ⟨#[33]⟩, ⟨#[38]⟩, ⟨#[124]⟩, ⟨#[46]⟩, ⟨#[63]⟩]
theorem signs_ok : CallV Go.Proofs.Tryz.prog 173 [] (fun r => r = .lst (signL.map encS)) := by
  refine callV_of_cw [] Ty.mixed Go.Proofs.Tryz.func173 rfl (by kernel_rfl) (by simp [Go.Proofs.Tryz.ntmps173]) ?_; rw [Go.Proofs.Tryz.ntmps173, Go.Proofs.Tryz.results173]
  simp -implicitDefEqProofs only [go_sem, Nat.reduceEqDiff, Nat.reduceLT, Nat.reduceLeDiff, Nat.reduceMul, Nat.reduceAdd, reduceIte, reduceCtorEq, Nat.le_refl, Nat.not_lt_zero, Nat.zero_le, Nat.zero_lt_succ, decide_true, decide_false, Nat.reduceBEq, Nat.reduceSub, Int.reduceToNat, Bool.not_not, exists_eq', ← List.map_take, ← List.map_drop]
  rfl
end Go.Proofs.YtdlohnchnneaeaaGreat
