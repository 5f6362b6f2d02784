/- Joined texts, part 6: lemmas for the statement. No condition. -/
import Derived.Test.YtdlohnchnneaeaaGreatJ5
import Derived.Test.YtdlohnchnneaeaaGreatJ2
import Derived.OpenShut
import Derived.ProofKit
import Derived.SizedLaws
import Derived.Carry
import Derived.Test.YtdlohnchnneaeaaGreatRows
set_option linter.unusedSimpArgs false
set_option linter.unusedVariables false
open Nat (reduceEqDiff reduceLT reduceLeDiff reduceMul reduceAdd reduceSub)
/- Slices and structures that were read. Program-independent. -/
namespace Go.Abs
open Go.RowKit

variable {P : Program} {w : World} {H : Type} {enc : TypeId × Value → H}

theorem addr_add {a : Addr} (h : a.spot = none) (n : Nat) : a.add n = ⟨a.block, a.off + n, none⟩ := by
  obtain ⟨b, o, s⟩ := a
  simp only at h
  subst h
  unfold Addr.add
  split
  · rename_i hn; simp [hn]
  · rfl

theorem vr_slice {α : Type} {ec : α → List PV} {sz : Nat} (h0 : 0 < sz) (hlen : ∀ a, (ec a).length = sz) {a : Addr} {len cap : Nat} (hcap : len ≤ cap) {l : List (α × List Value)} (hl : l.length = len)
    (h : ∀ (i : Nat) (x : α × List Value), l[i]? = some x → w.cells? 0 (a.add (i * sz)) sz = some x.2 ∧ CellsR w x.2 (ec x.1)) : VR (snap w) (.slice (some a) len cap) (.lst ((l.map (·.1)).map ec)) := by
  have hall : ∀ e ∈ (l.map (·.1)).map ec, e.length = sz := fun e he => by
    obtain ⟨x, _, rfl⟩ := List.mem_map.1 he
    exact hlen x
  have hcs : ∀ c ∈ l.map (·.2), c.length = sz := fun c hc => by
    obtain ⟨x, hx, rfl⟩ := List.mem_map.1 hc
    obtain ⟨i, hi⟩ := List.mem_iff_getElem?.1 hx
    exact (cells_snap (h i x hi).1).1
  have at' : ∀ (j : Nat) u, (l.map (·.2)).flatten[j]? = some u → ∃ x, l[j / sz]? = some x ∧ x.2[j % sz]? = some u := fun j u hu => by
    have hj : j < (l.map (·.2)).flatten.length := (List.getElem?_eq_some_iff.1 hu).1
    rw [flatten_len hcs, List.length_map] at hj
    have hd : j / sz < l.length := (Nat.div_lt_iff_lt_mul h0).2 hj
    have e2 := flatten_get hcs (j / sz) (j % sz) (by simpa using hd) (Nat.mod_lt _ h0)
    rw [Nat.div_add_mod' j sz, hu] at e2
    refine ⟨l[j / sz], List.getElem?_eq_getElem hd, ?_⟩
    rw [e2]
    simp [hd]
  refine .lst (some a) len cap _ (l.map (·.2)).flatten sz (by simp [hl]) hall ?_ (fun j u c hu hc => ?_) (fun u hu => ?_) ?_ (by simp) hcap
  · rw [flatten_len hcs, flatten_len hall]
    simp
  · obtain ⟨x, hx, hxu⟩ := at' j u hu
    have hd : j / sz < l.length := (List.getElem?_eq_some_iff.1 hx).1
    have e2 := flatten_get hall (j / sz) (j % sz) (by simpa using hd) (Nat.mod_lt _ h0)
    rw [Nat.div_add_mod' j sz, hc] at e2
    have e3 : ((l.map (·.1)).map ec).getD (j / sz) [] = ec x.1 := by
      have : l[j / sz] = x := by
        have := List.getElem?_eq_getElem hd
        rw [hx] at this
        exact (Option.some.inj this).symm
      simp [hd, this]
    rw [e3] at e2
    exact (h _ x hx).2.2.1 _ u c hxu e2.symm
  · obtain ⟨c, hc, huc⟩ := List.mem_flatten.1 hu
    obtain ⟨x, hx, rfl⟩ := List.mem_map.1 hc
    obtain ⟨i, hi⟩ := List.mem_iff_getElem?.1 hx
    exact (h i x hi).2.2.2 u huc
  · by_cases hn : (l.map (·.2)).flatten = []
    · exact .inl hn
    · right
      have hpos : 0 < l.length := by
        rcases Nat.eq_zero_or_pos l.length with h' | h'
        · exact absurd (by rw [List.length_eq_zero_iff.1 h']; rfl) hn
        · exact h'
      have hsp : a.spot = none := by
        have hx := h 0 l[0] (List.getElem?_eq_getElem hpos)
        obtain ⟨k1, k2⟩ := cells_snap hx.1
        have h00 : 0 < l[0].2.length := by rw [k1]; exact h0
        have := k2 0 l[0].2[0] (List.getElem?_eq_getElem h00)
        have := spot_none this
        simpa [Addr.add] using this
      refine ⟨a.block, a.off, ?_, fun j u hu => ?_⟩
      · obtain ⟨b, o, s⟩ := a
        simp only at hsp
        subst hsp
        rfl
      · obtain ⟨x, hx, hxu⟩ := at' j u hu
        have := (cells_snap (h _ x hx).1).2 _ u hxu
        rw [addr_add hsp, addr_add rfl] at this
        simp only at this
        rw [Nat.add_assoc, Nat.div_add_mod' j sz] at this
        exact this

theorem Dec.slice {α : Type} {t e : TypeId} {sz : Nat} {ec : α → List PV} {G : α → Prop} (ht : P.underlying t = some (.slice e)) (hc : P.cellsOf e = sz) (h0 : 0 < sz) (hb : 0 < P.bytesOf e) (he : Dec P w enc e sz ec G) :
    Dec P w enc t 1 (fun l : List α => [.lst (l.map ec)]) (fun l => (∀ a ∈ l, G a) ∧ l.length ≤ reachBytes) :=
  ⟨fun _ => rfl, fun sp hd fuel cs x h hw => by
    rcases DataW.trod_slice ht h with ⟨rfl, rfl⟩ | ⟨a, len, cap, elems, rest, n, _, rfl, rfl, _, hle, _, hlen, hel, _, _⟩
    · exact ⟨[], ⟨by simp, by simp⟩, .one (.lst none 0 0 [] [] 1 rfl (by simp) rfl (by simp) (by simp) (.inl rfl) (fun _ => ⟨rfl, rfl⟩) (Nat.le_refl _)) rfl⟩
    · have hwt : ∀ k, k ∈ ((elems.map (·.1)).length + (rest.map (·.1)).length) * P.bytesOf e :: (DataW.weightsAll P e (elems.map (·.1)) ++ DataW.weightsAll P e (rest.map (·.1))) → k ≤ reachBytes := fun k hk => by
        refine hw k ?_
        simp only [DataW.weights, ht]
        exact hk
      obtain ⟨l, l1, l2⟩ := exists_list (n := len) (Q := fun i (x : α × List Value) => G x.1 ∧ w.cells? 0 (a.add (i * sz)) sz = some x.2 ∧ CellsR w x.2 (ec x.1)) fun i hi => by
        have h1 := hel i hi
        have hi' : i < elems.length := by omega
        rw [List.getElem?_eq_getElem hi', hc] at h1
        obtain ⟨cs', h2, h3⟩ := Option.bind_eq_some_iff.1 h1
        obtain ⟨b, h4, h5⟩ := he.dec sp hd n cs' _ h3 fun k hk => hwt k (List.mem_cons_of_mem _ (List.mem_append_left _ (weightsAll_mem (List.mem_map.2 ⟨elems[i], List.getElem_mem hi', rfl⟩) k hk)))
        exact ⟨(b, cs'), h4, h2, h5⟩
      refine ⟨l.map (·.1), ⟨fun b hb' => ?_, ?_⟩, .one (vr_slice h0 he.len hle l1 fun i x hx => (l2 i x hx).2) rfl⟩
      · obtain ⟨x, hx, rfl⟩ := List.mem_map.1 hb'
        obtain ⟨i, hi⟩ := List.mem_iff_getElem?.1 hx
        exact (l2 i x hi).1
      · have := hwt _ (List.mem_cons_self ..)
        rw [List.length_map, List.length_map, hlen] at this
        rw [List.length_map, l1]
        exact Nat.le_trans (Nat.le_trans (Nat.le_add_right len rest.length) (Nat.le_mul_of_pos_right _ hb)) this⟩

structure DecFs (P : Program) (w : World) {H : Type} (enc : TypeId × Value → H) {α : Type} (fs : List Field) (off sz : Nat) (e : α → List PV) (G : α → Prop) : Prop where
  len : ∀ a, (e a).length = sz
  dec : ∀ (sp : Nat → Bool) (hd : Bool) (n : Nat) (cs : List Value) (ds : List (DataW H)), ds.length = fs.length → cs.length = off + sz → (∀ (i : Nat) f, fs[i]? = some f → ∃ ps, DataW.trod enc P w 0 sp hd n f.type ((cs.drop f.offset).take (P.cellsOf f.type)) = (ds[i]?).map fun d => (d, ps)) →
    (∀ k ∈ DataW.weightsEach P (fs.map (·.type)) ds, k ≤ reachBytes) → ∃ a, G a ∧ CellsR w (cs.drop off) (e a)

theorem DecFs.nil (off : Nat) : DecFs P w enc [] off 0 (fun _ : Unit => []) (fun _ => True) :=
  ⟨fun _ => rfl, fun sp hd n cs ds _ hl _ _ => ⟨(), trivial, by
    have : cs.drop off = [] := List.drop_eq_nil_of_le (by omega)
    rw [this]
    exact ⟨rfl, by simp, by simp⟩⟩⟩
theorem CellsR.append {cs ds : List Value} {ps qs : List PV} (h : CellsR w cs ps) (k : CellsR w ds qs) : CellsR w (cs ++ ds) (ps ++ qs) := by
  refine ⟨by simp [h.1, k.1], fun j u c hu hc => ?_, fun u hu => ?_⟩
  · rcases Nat.lt_or_ge j cs.length with hj | hj
    · rw [List.getElem?_append_left hj] at hu
      rw [List.getElem?_append_left (by rw [← h.1]; exact hj)] at hc
      exact h.2.1 j u c hu hc
    · rw [List.getElem?_append_right hj] at hu
      rw [List.getElem?_append_right (by rw [← h.1]; exact hj), ← h.1] at hc
      exact k.2.1 _ u c hu hc
  · rcases List.mem_append.1 hu with hu | hu
    · exact h.2.2 u hu
    · exact k.2.2 u hu
theorem DecFs.cons {α β : Type} {f : Field} {fs : List Field} {off sz sz' : Nat} {e : α → List PV} {G : α → Prop} {e' : β → List PV} {G' : β → Prop} (ho : f.offset = off) (hc : P.cellsOf f.type = sz) (h : Dec P w enc f.type sz e G) (hr : DecFs P w enc fs (off + sz) sz' e' G') :
    DecFs P w enc (f :: fs) off (sz + sz') (fun x : α × β => e x.1 ++ e' x.2) (fun x => G x.1 ∧ G' x.2) :=
  ⟨fun x => by rw [List.length_append, h.len, hr.len], fun sp hd n cs ds hl hcs hall hw => by
    match ds, hl with
    | [], hl => simp at hl
    | d :: ds, hl =>
      rw [List.map_cons, DataW.weightsEach] at hw
      obtain ⟨ps, h0⟩ := hall 0 f rfl
      simp only [List.getElem?_cons_zero, Option.map_some] at h0
      obtain ⟨a, a1, a2⟩ := h.dec sp hd n _ _ h0 fun k hk => hw k (List.mem_append_left _ hk)
      obtain ⟨b, b1, b2⟩ := hr.dec sp hd n cs ds (by simpa using hl) (by omega) (fun i g hg => by simpa using hall (i + 1) g (by simpa using hg)) fun k hk => hw k (List.mem_append_right _ hk)
      refine ⟨(a, b), ⟨a1, b1⟩, ?_⟩
      have e1 : cs.drop off = (cs.drop off).take sz ++ cs.drop (off + sz) := by
        rw [← List.drop_drop, List.take_append_drop]
      rw [e1]
      rw [ho, hc] at a2
      exact a2.append b2⟩
theorem Dec.struct {α : Type} {t : TypeId} {fs : Array Field} {sz : Nat} {e : α → List PV} {G : α → Prop} (ht : P.underlying t = some (.struct fs)) (hc : P.cellsOf t = sz) (h : DecFs P w enc fs.toList 0 sz e G) : Dec P w enc t sz e G :=
  ⟨h.len, fun sp hd fuel cs x hx hw => by
    obtain ⟨xs, n, _, rfl, hl, hxs, hf⟩ := DataW.trod_struct ht hx
    obtain ⟨a, a1, a2⟩ := h.dec sp hd n cs (xs.map (·.1)) (by simp [hxs]) (by rw [hl, hc, Nat.zero_add]) (fun i f hi => by
      have h1 := hf i f (by simpa using hi)
      have hlt : i < xs.length := by
        have := (List.getElem?_eq_some_iff.1 hi).1
        rw [hxs]; simpa using this
      refine ⟨xs[i].2, ?_⟩
      rw [h1]
      simp [hlt]) fun k hk => hw k (by
        simp only [DataW.weights, ht]
        exact hk)
    exact ⟨a, a1, by simpa using a2⟩⟩
end Go.Abs
/- Arrays and the narrow ints, read as plain data. Program-independent. -/
namespace Go.Abs
open Go.RowKit

variable {P : Program} {w : World} {H : Type} {enc : TypeId × Value → H}

theorem Dec.intk {t : TypeId} (k : IntKind) (ht : P.underlying t = some (.int k)) : Dec P w enc t 1 (fun n : Int => [.val (.int k n)]) (fun n => k.min ≤ n ∧ n ≤ k.max) :=
  ⟨fun _ => rfl, fun sp hd fuel cs x h _ => by
    obtain ⟨n, rfl, _, hw⟩ := DataW.trod_int ht h
    refine ⟨n, ?_, .one (.val _ rfl) rfl⟩
    simpa [Lit.wf] using hw⟩
def arrF (e : TypeId) (off : Nat) : Field := { name := "", type := e, offset := off, embedded := false, tag := "", pkgPath := "", byteOffset := 0 }
def arrFs (n : Nat) (e : TypeId) (sz : Nat) : List Field := (List.range n).map fun i => arrF e (i * sz)
theorem weightsAll_each {e : TypeId} : ∀ (n : Nat) (ds : List (DataW H)), ds.length = n → DataW.weightsEach P (List.replicate n e) ds = DataW.weightsAll P e ds
  | 0, [], _ => rfl
  | n + 1, d :: r, h => by
    rw [List.replicate_succ, DataW.weightsEach, DataW.weightsAll, weightsAll_each n r (by simpa using h)]
  | n + 1, [], h => by simp at h
  | 0, d :: r, h => by simp at h
theorem Dec.array {α : Type} {t e : TypeId} {n sz sz0 : Nat} {ec : α → List PV} {G : α → Prop} (ht : P.underlying t = some (.array n e)) (hc : P.cellsOf t = sz) (h0 : P.cellsOf e = sz0) (h : DecFs P w enc (arrFs n e sz0) 0 sz ec G) : Dec P w enc t sz ec G :=
  ⟨h.len, fun sp hd fuel cs x hx hw => by
    obtain ⟨xs, m, _, rfl, hl, hxs, hf⟩ := DataW.trod_array ht hx
    obtain ⟨a, a1, a2⟩ := h.dec sp hd m cs (xs.map (·.1)) (by simp [hxs, arrFs]) (by rw [hl, hc, Nat.zero_add]) (fun i f hi => by
      have hlt : i < n := by
        have := (List.getElem?_eq_some_iff.1 hi).1
        simpa [arrFs] using this
      have hfe : f = arrF e (i * sz0) := by
        simpa [arrFs, hlt] using hi.symm
      subst hfe
      have h1 := hf i hlt
      refine ⟨(xs[i]'(by omega)).2, ?_⟩
      subst h0
      show DataW.trod enc P w 0 sp hd m e (List.take (P.cellsOf e) (List.drop (i * P.cellsOf e) cs)) = _
      rw [h1]
      simp [hxs, hlt]) fun k hk => hw k (by
        simp only [DataW.weights, ht]
        have e1 : (arrFs n e sz0).map (·.type) = List.replicate n e := by
          unfold arrFs
          rw [List.map_map]
          exact (List.map_const' ..).trans (by rw [List.length_range])
        rw [e1, weightsAll_each n _ (by simp [hxs])] at hk
        exact hk)
    exact ⟨a, a1, by simpa using a2⟩⟩
end Go.Abs
/- A statement 'it returns true, and its arguments read as they did', from a contract on plain data. Program-independent. -/
namespace Go.Abs
open Go.ChangeShapes Go.WideShapes Go.ChangeAt Go.RowKit

variable {P : Program} {W : World} {H : Type} {enc : TypeId × Value → H} {α β : Type}

structure DecV (P : Program) (W : World) {H : Type} (enc : TypeId × Value → H) {α : Type} (t : TypeId) (e : α → PV) (G : α → Prop) : Prop where
  dec : ∀ b0 v d ps, Value.okWide P W .any b0 t v → DataW.Trod enc P W 0 (fun _ => true) true t v d ps → Light P t d → ∃ a, G a ∧ VR (snap W) v (e a)
  read : P.readableRec t = true
  size : t < P.types.size

theorem DecV.struct {t : TypeId} {fs : Array Field} {sz : Nat} {e : α → List PV} {G : α → Prop} (ht : P.underlying t = some (.struct fs)) (hdec : Dec P W enc t sz e G) (hr : P.readableRec t = true) (hs : t < P.types.size) : DecV P W enc t (fun a => .agg (e a)) G :=
  ⟨fun b0 v d ps hval h hw => by
    unfold Value.okWide at hval
    rw [ht] at hval
    obtain ⟨cs, rfl, _⟩ := hval
    obtain ⟨fuel, hf⟩ := h
    obtain ⟨a, h1, h2⟩ := hdec.dec _ _ fuel _ _ hf hw
    refine ⟨a, h1, ?_⟩
    have : VR (snap W) (.agg (cs.toList).toArray) (.agg (e a)) := .agg cs.toList (e a) h2.1 h2.2.1 h2.2.2
    simpa using this, hr, hs⟩
theorem DecV.array {t e' : TypeId} {n sz : Nat} {e : α → List PV} {G : α → Prop} (ht : P.underlying t = some (.array n e')) (hdec : Dec P W enc t sz e G) (hr : P.readableRec t = true) (hs : t < P.types.size) : DecV P W enc t (fun a => .agg (e a)) G :=
  ⟨fun b0 v d ps hval h hw => by
    unfold Value.okWide at hval
    rw [ht] at hval
    obtain ⟨cs, rfl, _⟩ := hval
    obtain ⟨fuel, hf⟩ := h
    obtain ⟨a, h1, h2⟩ := hdec.dec _ _ fuel _ _ hf hw
    refine ⟨a, h1, ?_⟩
    have : VR (snap W) (.agg (cs.toList).toArray) (.agg (e a)) := .agg cs.toList (e a) h2.1 h2.2.1 h2.2.2
    simpa using this, hr, hs⟩
theorem DecV.one {t : TypeId} {e : α → PV} {G : α → Prop} (ht : ∀ b0 v, Value.okWide P W .any b0 t v → v.cells.toList = [v]) (hdec : Dec P W enc t 1 (fun a => [e a]) G) (hr : P.readableRec t = true) (hs : t < P.types.size) : DecV P W enc t e G :=
  ⟨fun b0 v d ps hval h hw => by
    obtain ⟨fuel, hf⟩ := h
    rw [ht b0 v hval] at hf
    obtain ⟨a, h1, h2⟩ := hdec.dec _ _ fuel _ _ hf hw
    exact ⟨a, h1, h2.2.1 0 v (e a) rfl rfl⟩, hr, hs⟩
theorem trodAll_len : ∀ {ts : List TypeId} {vs : List Value} {ds : List (DataW H)} {ps : List MemPlace}, DataW.TrodAll enc P W 0 (fun _ => true) true ts vs ds ps → ds.length = ts.length
  | [], vs, ds, ps, h => by obtain ⟨rfl, rfl, rfl⟩ := trodAll_nil h; rfl
  | t :: ts, vs, ds, ps, h => by
    obtain ⟨v, vs', d, ds', p, q, rfl, rfl, rfl, h1, h2⟩ := trodAll_cons h
    rw [List.length_cons, List.length_cons, trodAll_len h2]
structure DecVs (P : Program) (W : World) {H : Type} (enc : TypeId × Value → H) {α : Type} (ts : List TypeId) (e : α → List PV) (G : α → Prop) : Prop where
  dec : ∀ b0 vs ds ps, (∀ (j : Nat) t v, ts[j]? = some t → vs[j]? = some v → Value.okWide P W .any b0 t v) → DataW.TrodAll enc P W 0 (fun _ => true) true ts vs ds ps → (∀ n ∈ DataW.weightsEach P ts ds, n ≤ reachBytes) →
    ∃ a, G a ∧ vs.length = (e a).length ∧ ∀ (j : Nat) u x, vs[j]? = some u → (e a)[j]? = some x → VR (snap W) u x
  stay : laidOutB P = true → ∀ vs ds ps W', DataW.TrodAll enc P W 0 (fun _ => true) true ts vs ds ps → Below W.heap.size W W' → (∀ x ∈ ps, x.block < W.heap.size) → DataW.TrodAll enc P W' 0 (fun b => decide (b < W.heap.size)) true ts vs ds ps
theorem DecVs.nil : DecVs P W enc [] (fun _ : Unit => []) (fun _ => True) :=
  ⟨fun b0 vs ds ps _ h _ => by
    obtain ⟨rfl, rfl, rfl⟩ := trodAll_nil h
    exact ⟨(), trivial, rfl, fun j u x hu => by simp at hu⟩, fun _ vs ds ps W' h _ _ => by
    obtain ⟨rfl, rfl, rfl⟩ := trodAll_nil h
    exact trodAll_mk0⟩
theorem DecVs.cons {t : TypeId} {ts : List TypeId} {e : α → PV} {G : α → Prop} {e' : β → List PV} {G' : β → Prop} (h : DecV P W enc t e G) (hr : DecVs P W enc ts e' G') :
    DecVs P W enc (t :: ts) (fun x : α × β => e x.1 :: e' x.2) (fun x => G x.1 ∧ G' x.2) :=
  ⟨fun b0 vs ds ps hv ht hw => by
    obtain ⟨v, vs', d, ds', p, q, rfl, rfl, rfl, h1, h2⟩ := trodAll_cons ht
    rw [DataW.weightsEach] at hw
    obtain ⟨a, a1, a2⟩ := h.dec b0 v d p (hv 0 t v rfl rfl) h1 fun n hn => hw n (List.mem_append_left _ hn)
    obtain ⟨b, b1, b2, b3⟩ := hr.dec b0 vs' ds' q (fun j t v ht hv' => hv (j + 1) t v (by simpa using ht) (by simpa using hv')) h2 fun n hn => hw n (List.mem_append_right _ hn)
    refine ⟨(a, b), ⟨a1, b1⟩, by simp [b2], fun j u x hu hx => ?_⟩
    cases j with
    | zero => simp at hu hx; subst hu hx; exact a2
    | succ j => exact b3 j u x (by simpa using hu) (by simpa using hx), fun hl vs ds ps W' ht hb hlt => by
    obtain ⟨v, vs', d, ds', p, q, rfl, rfl, rfl, h1, h2⟩ := trodAll_cons ht
    exact ⟨p, q, Below.trod hl h.read h.size h1 hb fun x hx => hlt x (List.mem_append_left _ hx), hr.stay hl vs' ds' q W' h2 hb fun x hx => hlt x (List.mem_append_right _ hx), rfl⟩⟩

theorem law_true {C : Checked} {os : Os} {f : FuncId} {fn : Func} {s : ChangeSpec} {conds : List PathCond} {apart fresh handsOn : Bool} {e : α → List PV} {G : α → Prop} {tb : TypeId}
    (own : ownKnob C.prog.godebug = none) (laid : laidOutB C.prog = true) (started : os.Started) (noInit : C.prog.inits.idxOf? f = none) (hfn : C.prog.funcs[f]? = some fn)
    (witness : ∃ (w : World) (tape : Tape) (i : Input), w.os = os ∧ (w.forCall tape i).Shaped C.prog ∧ i.vars = [] ∧ Input.okWide C.prog (w.forCall tape i) .any w.heap.size f i ∧
      s.pre6 enc C.prog fn conds apart (w.forCall tape i).memory i.args ∧ ({} : Assume).holds C.prog (lone (Frame.enter C.prog f i.args .normal) [] (w.forCall tape i)))
    (hres : fn.resultTypes = #[tb]) (hb : C.prog.underlying tb = some .bool) (hv : s.vars = []) (hs : ∀ ds : List (DataW H), ds.length = fn.params.size → (s.fn H ds).results = [.lit (.bool true)] ∧ (s.fn H ds).args = ds ∧ (s.fn H ds).vars = [])
    (hd : ∀ W, DecVs C.prog W enc fn.params.toList e G) (ok : ∀ a, G a → CallV C.prog f (e a) fun r => r = .val (.bool true)) :
    ReturnsInHanded {} C os f .any (s.pre6 enc C.prog fn conds apart) (s.post enc C.prog fn apart fresh handsOn false) := by
  refine returnsInHanded_of_change_sized (C := C) own started noInit hfn witness ?_
  intro W base args ds gs before hval hW _ hz _
  have hW' := hW
  obtain ⟨p, q, hA, hV, rfl, hfz, hnd⟩ := hW
  rw [hv] at hV
  have hg : gs = [] ∧ q = [] := by
    cases gs with
    | nil => exact ⟨rfl, hV⟩
    | cons => exact hV.elim
  obtain ⟨rfl, rfl⟩ := hg
  have hvt : s.plain.varTypes C.prog = [] := by
    have : s.plain.vars = [] := hv
    unfold DataSpec.varTypes
    rw [this]
    rfl
  rw [hvt, List.append_nil, List.append_nil] at hz
  have hw : ∀ n ∈ DataW.weightsEach C.prog fn.params.toList ds, n ≤ reachBytes := fun n hn => by
    have := List.all_eq_true.1 hz n hn
    simpa using this
  obtain ⟨a, a1, a2, a3⟩ := (hd W).dec base args.toList ds p (fun j t v ht hv' => hval j t v (by simpa using ht) (by simpa using hv')) hA hw
  have hlt : ∀ x ∈ p, x.block < W.heap.size := fun x hx => hW'.lt x (List.mem_append_left _ hx)
  obtain ⟨s1, s2, s3⟩ := hs ds (by
    have := trodAll_len hA
    simpa using this)
  refine ((ok a a1).2 (snap W) W args.toList (snap_inW W) ⟨a2, a3⟩).mono ?_
  rintro e' W' ⟨v, r, I', rfl, rfl, hv', bel, _⟩
  have hvb : v = .bool true := by cases hv'; rfl
  subst hvb
  refine ⟨_, rfl, ds, [], p ++ [], [], p, [], hW', ?_, ?_, ?_, bel.frame _, fun h => by cases h⟩
  · rw [List.append_nil, s1, hres]
    exact trodAll_mk1 (shut_bool hb true)
  · rw [List.append_nil, s2]
    exact (hd W).stay laid _ _ _ _ hA bel hlt
  · rw [List.append_nil, s3, hv]
    rfl
end Go.Abs
/- What carries a law of the program to its statement. Printed by law.py. -/
namespace Go.Proofs.YtdlohnchnneaeaaGreat
open Go.Abs
open Go.ChangeShapes Go.WideShapes Go.ChangeAt Go.RowKit
variable {w : World} {H : Type} {enc : TypeId × Value → H}

def G5 (n : Int) : Prop := IntKind.u8.min ≤ n ∧ n ≤ IntKind.u8.max
theorem d5 : Dec Go.Proofs.Tryz.prog w enc 5 1 (fun n : Int => [.val (.int .u8 n)]) G5 :=
  .intk .u8 Go.Proofs.Tryz.underlying5
def G102 (x : T_A2_Int) : Prop := G5 x.x0 ∧ G5 x.x1 ∧ True
theorem d102 : Dec Go.Proofs.Tryz.prog w enc 102 2 (fun x : T_A2_Int => [.val (.int .u8 x.x0), .val (.int .u8 x.x1)]) G102 :=
  (Dec.array Go.Proofs.Tryz.underlying102 (by kernel_rfl) (sz0 := 1) (by kernel_rfl) (.cons rfl (by kernel_rfl) d5 (.cons rfl (by kernel_rfl) d5 (.nil _)))).map (fun x => ⟨x.1, x.2.1⟩) (fun a => (a.x0, a.x1, ())) (fun _ => rfl) (fun _ => rfl) (fun _ h => h)
def G61 (l : List T_A2_Int) : Prop := (∀ x ∈ l, G102 x) ∧ l.length ≤ reachBytes
theorem d61 : Dec Go.Proofs.Tryz.prog w enc 61 1 (fun l : List T_A2_Int => [.lst (l.map enc_T_A2_Int)]) G61 :=
  (Dec.slice Go.Proofs.Tryz.underlying61 (by kernel_rfl) (by decide) (of_decide_eq_true (by kernel_rfl)) d102).map id id (fun _ => rfl) (fun _ => rfl) (fun _ h => h)
def G108 (x : T_A3_Int) : Prop := G5 x.x0 ∧ G5 x.x1 ∧ G5 x.x2 ∧ True
theorem d108 : Dec Go.Proofs.Tryz.prog w enc 108 3 (fun x : T_A3_Int => [.val (.int .u8 x.x0), .val (.int .u8 x.x1), .val (.int .u8 x.x2)]) G108 :=
  (Dec.array Go.Proofs.Tryz.underlying108 (by kernel_rfl) (sz0 := 1) (by kernel_rfl) (.cons rfl (by kernel_rfl) d5 (.cons rfl (by kernel_rfl) d5 (.cons rfl (by kernel_rfl) d5 (.nil _))))).map (fun x => ⟨x.1, x.2.1, x.2.2.1⟩) (fun a => (a.x0, a.x1, a.x2, ())) (fun _ => rfl) (fun _ => rfl) (fun _ h => h)
def G62 (l : List T_A3_Int) : Prop := (∀ x ∈ l, G108 x) ∧ l.length ≤ reachBytes
theorem d62 : Dec Go.Proofs.Tryz.prog w enc 62 1 (fun l : List T_A3_Int => [.lst (l.map enc_T_A3_Int)]) G62 :=
  (Dec.slice Go.Proofs.Tryz.underlying62 (by kernel_rfl) (by decide) (of_decide_eq_true (by kernel_rfl)) d108).map id id (fun _ => rfl) (fun _ => rfl) (fun _ h => h)
def G64 (x : T_scarfjointref15_Draft) : Prop := G61 x.nodes ∧ G62 x.edges ∧ True
theorem d64 : Dec Go.Proofs.Tryz.prog w enc 64 2 (fun x : T_scarfjointref15_Draft => [.lst (x.nodes.map enc_T_A2_Int), .lst (x.edges.map enc_T_A3_Int)]) G64 :=
  (Dec.struct Go.Proofs.Tryz.underlying64 (by kernel_rfl) (.cons rfl (by kernel_rfl) d61 (.cons rfl (by kernel_rfl) d62 (.nil _)))).map (fun x => ⟨x.1, x.2.1⟩) (fun a => (a.nodes, a.edges, ())) (fun _ => rfl) (fun _ => rfl) (fun _ h => h)
set_option maxRecDepth 100000 in
theorem lift_TripleTurned (l : ∀ (a0 : T_scarfjointref15_Draft), G64 a0 → f_scarfjointlaw52_TripleTurned a0 = some true) : Rows.TripleTurnedSaid :=
  OpenClaim.holds_of_wide 7 Go.Proofs.Tryz.f7 rfl rfl rfl rfl rfl rfl rfl ⟨rfl, rfl, rfl, rfl, rfl⟩ rfl rfl rfl rfl rfl (by kernel_rfl) Go.Proofs.Tryz.func7 (by kernel_rfl)
    (of_decide_eq_true (by kernel_rfl)) (by unfold Func.isWrapper; first | (rw [if_pos (by decide +kernel)]; kernel_rfl) | (rw [if_neg (by decide +kernel)]; exact ⟨rfl, rfl⟩))
    (fun os started H enc _ => law_true (C := Go.Proofs.Tryz.checked) (α := T_scarfjointref15_Draft × Unit) (e := fun x => [.agg [.lst (x.1.nodes.map enc_T_A2_Int), .lst (x.1.edges.map enc_T_A3_Int)]]) (G := fun x => G64 x.1 ∧ True) (s := Rows.tripleTurnedSpec) (conds := Rows.tripleTurnedRow.domain) (by kernel_rfl) (by kernel_rfl) started (by kernel_rfl) Go.Proofs.Tryz.func7
      (ChangeSpec.witness6 (enc := enc) (C := Go.Proofs.Tryz.checked) false ⟨#[], #[.agg #[.slice none 0 0, .slice none 0 0]], []⟩ 8 (by kernel_rfl) (by kernel_rfl) (by kernel_rfl) (by kernel_rfl))
      rfl Go.Proofs.Tryz.underlying4 rfl (fun ds hl => by match ds, hl with | [d0], _ => exact ⟨rfl, rfl, rfl⟩) (fun W => by
      rw [Go.Proofs.Tryz.params7]
      exact (.cons (show DecV Go.Proofs.Tryz.prog W enc 64 (fun x : T_scarfjointref15_Draft => .agg [.lst (x.nodes.map enc_T_A2_Int), .lst (x.edges.map enc_T_A3_Int)]) G64 from DecV.struct Go.Proofs.Tryz.underlying64 d64 (by kernel_rfl) (of_decide_eq_true (by kernel_rfl)))
      .nil)) (fun x h => w_scarfjointlaw52_TripleTurned x.1 true (l x.1 h.1)))
end Go.Proofs.YtdlohnchnneaeaaGreat
