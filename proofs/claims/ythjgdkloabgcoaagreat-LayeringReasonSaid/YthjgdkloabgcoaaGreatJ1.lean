/- Joined texts, part 1: lemmas for the statement. No condition. -/
import Derived.Calls
import Derived.Tactics
import Derived.Orders
import Derived.Below
import Derived.Laws.AppendOwn
import Derived.Deep.MidRow
import Derived.Laws.Strings
import Derived.Laws.StructEq
import Derived.IntWalk
set_option maxHeartbeats 4000000
set_option linter.unusedSimpArgs false
set_option linter.unusedVariables false
open Nat (reduceEqDiff reduceLT reduceLeDiff reduceMul reduceAdd reduceSub)
namespace Go.Abs
open Go.RowKit

abbrev Mem:=Nat→Nat→Option Value

def Mem.sub (I J:Mem):Prop:=∀b o u,I b o=some u→J b o=some u
def Mem.inW (I:Mem) (w:World):Prop:=∀b o u,I b o=some u→w.cell? ⟨b,o,none⟩=some u

theorem Mem.sub_refl (I:Mem):I.sub I:=fun _ _ _ h=>h
theorem Mem.sub_trans {I J K:Mem} (h:I.sub J) (k:J.sub K):I.sub K:=fun _ _ _ x=>k _ _ _ (h _ _ _ x)

inductive PV where
 | val (v:Value)
 | emp
 | lst (es:List (List PV))
 | eptr (cs:List PV) (off:Nat)
 | agg (cs:List PV)
 | tup (vs:List PV)
 | clo (fn:Fn) (first captured:List PV)

instance:Inhabited PV:=⟨.val (.bool false)⟩

inductive VR (I:Mem):Value→PV→Prop
 | val (v:Value) (h:v.oneCell'=true):VR I v (.val v)
 | emp (ao:Option Addr):VR I (.slice ao 0 0) .emp
 | lst (ao : Option Addr) (n cap : Nat) (es : List (List PV)) (us : List Value) (sz : Nat)
   (hn:es.length=n) (hsz:∀e∈es,e.length=sz) (hl:us.length=es.flatten.length)
   (hv:∀ (j:Nat) u c,us[j]? = some u→es.flatten[j]? = some c→VR I u c)
   (hone:∀u∈us,u.oneCell'=true)
   (hm:us=[]∨∃b off,ao=some ⟨b,off,none⟩∧∀ (j:Nat) u,us[j]? = some u→I b (off+j)=some u)
   (hnil:ao=none→n=0∧cap=0) (hcap:n≤cap):VR I (.slice ao n cap) (.lst es)
 | eptr (b off : Nat) (cs : List PV) (us : List Value) (o : Nat) (hl : us.length = cs.length)
   (hv:∀ (j:Nat) u c,us[j]? = some u→cs[j]? = some c→VR I u c)
   (hone:∀u∈us,u.oneCell'=true)
   (hm:∀ (j:Nat) u,us[j]? = some u→I b (off+j)=some u):VR I (.pointer (some ⟨b,off+o,none⟩)) (.eptr cs o)
 | agg (us : List Value) (cs : List PV) (hl : us.length = cs.length)
   (hv:∀ (j:Nat) u c,us[j]? = some u→cs[j]? = some c→VR I u c)
   (hone:∀u∈us,u.oneCell'=true):VR I (.agg us.toArray) (.agg cs)
 | tup (us : List Value) (cs : List PV) (hl : us.length = cs.length)
   (hv:∀ (j:Nat) u c,us[j]? = some u→cs[j]? = some c→VR I u c):VR I (.tuple us.toArray) (.tup cs)
 | clo (fn : Fn) (us vs : List Value) (fs cs : List PV) (hl : us.length = fs.length) (hl' : vs.length = cs.length)
   (hv:∀ (j:Nat) u c,us[j]? = some u→fs[j]? = some c→VR I u c)
   (hv':∀ (j:Nat) u c,vs[j]? = some u→cs[j]? = some c→VR I u c):VR I (.func fn us.toArray vs.toArray) (.clo fn fs cs)

theorem VR.mono {I J:Mem} (h:I.sub J) {v:Value} {p:PV} (hv:VR I v p):VR J v p:=by
 induction hv with
 | val v h1=>exact .val v h1
 | emp ao=>exact .emp ao
 | lst ao n cap es us sz hn hsz hl _ hone hm hnil hcap ih =>
  exact .lst ao n cap es us sz hn hsz hl ih hone (hm.imp id fun ⟨b,off,e,k⟩=>⟨b,off,e,fun j u hu=>h _ _ _ (k j u hu)⟩) hnil hcap
 | eptr b off cs us o hl _ hone hm ih=>exact .eptr b off cs us o hl ih hone fun j u hu=>h _ _ _ (hm j u hu)
 | agg us cs hl _ hone ih=>exact .agg us cs hl ih hone
 | tup us cs hl _ ih=>exact .tup us cs hl ih
 | clo fn us vs fs cs hl hl' _ _ ih ih'=>exact .clo fn us vs fs cs hl hl' ih ih'

def PV.one:PV→Bool
 | .agg _ | .tup _=>false
 | _=>true

theorem VR.one {I:Mem} {v:Value} {p:PV} (h:VR I v p) (hp:p.one=true):v.oneCell'=true:=by
 cases h<;>first | assumption | rfl | cases hp

def PV.cells:PV→List PV
 | .agg cs=>cs
 | x=>[x]

inductive AV where
 | p (x:PV)
 | row (id ver:Nat)
 | ptr (id off:Nat)
 | rptr (id ver i off:Nat)
 | agg (cs:List AV)
 | tup (vs:List AV)
 | clo (fn:Fn) (first captured:List AV)
 | dead

instance:Inhabited AV:=⟨.dead⟩

inductive Loc where
 | box (b:Nat)
 | row (ver:Nat) (hdr:Value) (sz:Nat)

def Loc.blk:Loc→Option Nat
 | .box b=>some b
 | .row _ hdr _=>hdr.ownBlock

abbrev zbl:=Nat→Option Loc

def zcd (L L':zbl):Prop:=∀id,match L id with
 | none=>True
 | some (.box b)=>L' id=some (.box b)
 | some (.row v hdr sz)=>∃v' hdr',L' id=some (.row v' hdr' sz)∧v≤v'∧(v=v'→hdr=hdr')

theorem zcd.refl (L:zbl):zcd L L:=fun id=>by
 cases h:L id with
 | none=>trivial
 | some l=>cases l with
  | box b=>rfl
  | row v hdr sz=>exact⟨v,hdr,rfl,Nat.le_refl _,fun _=>rfl⟩

theorem zcd.box {L L':zbl} (h:zcd L L') {id b:Nat} (hl:L id=some (.box b)):L' id=some (.box b):=by
 have:=h id; rw[hl] at this; exact this

theorem zcd.row {L L' : zbl} (h : zcd L L') {id v : Nat} {hdr : Value} {sz : Nat} (hl : L id = some (.row v hdr sz)) :
  ∃v' hdr',L' id=some (.row v' hdr' sz)∧v≤v'∧(v=v'→hdr=hdr'):=by
 have:=h id; rw[hl] at this; exact this

inductive AVR (I:Mem) (L:zbl):Value→AV→Prop
 | p (u:Value) (x:PV) (h:VR I u x):AVR I L u (.p x)
 | row (u:Value) (id ver v:Nat) (hdr:Value) (sz:Nat) (hl:L id=some (.row v hdr sz)) (hle:ver≤v) (h:ver=v→u=hdr) (h1:u.oneCell'=true):AVR I L u (.row id ver)
 | ptr (id b off:Nat) (hl:L id=some (.box b)):AVR I L (.pointer (some ⟨b,off,none⟩)) (.ptr id off)
 | rptr (u : Value) (id ver v i off : Nat) (hdr : Value) (sz : Nat) (hl : L id = some (.row v hdr sz)) (hle : ver ≤ v)
   (h:ver=v→∃g o n cap,hdr = .slice (some ⟨g,o,none⟩) n cap∧u = .pointer (some ⟨g,o+(i * sz+off),none⟩)) (h1:u.oneCell'=true):AVR I L u (.rptr id ver i off)
 | agg (us : List Value) (cs : List AV) (hl : us.length = cs.length)
   (hv:∀ (j:Nat) u c,us[j]? = some u→cs[j]? = some c→AVR I L u c)
   (hone:∀u∈us,u.oneCell'=true):AVR I L (.agg us.toArray) (.agg cs)
 | tup (us : List Value) (cs : List AV) (hl : us.length = cs.length)
   (hv:∀ (j:Nat) u c,us[j]? = some u→cs[j]? = some c→AVR I L u c):AVR I L (.tuple us.toArray) (.tup cs)
 | clo (fn : Fn) (us vs : List Value) (fs cs : List AV) (hl : us.length = fs.length) (hl' : vs.length = cs.length)
   (hv:∀ (j:Nat) u c,us[j]? = some u→fs[j]? = some c→AVR I L u c)
   (hv':∀ (j:Nat) u c,vs[j]? = some u→cs[j]? = some c→AVR I L u c):AVR I L (.func fn us.toArray vs.toArray) (.clo fn fs cs)
 | dead (u:Value):AVR I L u .dead

theorem AVR.mono {I J:Mem} {L L':zbl} (hI:I.sub J) (hL:zcd L L') {u:Value} {a:AV} (h:AVR I L u a):AVR J L' u a:=by
 induction h with
 | p u x h=>exact .p u x (h.mono hI)
 | row u id ver v hdr sz hl hle h hone =>
  obtain⟨v',hdr',h1,h2,h3⟩:=hL.row hl
  refine .row u id ver v' hdr' sz h1 (Nat.le_trans hle h2) (fun e=>?_) hone
  have:ver=v:=by omega
  have e2:v=v':=by omega
  rw[h this,h3 e2]
 | ptr id b off hl=>exact .ptr id b off (hL.box hl)
 | rptr u id ver v i off hdr sz hl hle h hone =>
  obtain⟨v',hdr',h1,h2,h3⟩:=hL.row hl
  refine .rptr u id ver v' i off hdr' sz h1 (Nat.le_trans hle h2) (fun e=>?_) hone
  have e1:ver=v:=by omega
  have e2:v=v':=by omega
  rw[←h3 e2]; exact h e1
 | agg us cs hl _ hone ih=>exact .agg us cs hl ih hone
 | tup us cs hl _ ih=>exact .tup us cs hl ih
 | clo fn us vs fs cs hl hl' _ _ ih ih'=>exact .clo fn us vs fs cs hl hl' ih ih'
 | dead u=>exact .dead u

inductive zcb where
 | box (cs:List AV)
 | row (ver:Nat) (e:TypeId) (sz:Nat) (es:List (List PV))
 | shut (ver:Nat) (es:List (List PV))
 | tail (ver:Nat) (e:TypeId) (sz:Nat) (es:List (List PV))

abbrev Env:=Nat→AV
abbrev za:=Nat→Option zcb

def upd (env:Env) (d:Nat) (v:AV):Env:=fun t=>if t=d then v else env t
def hset (H:za) (id:Nat) (c:zcb):za:=fun i=>if i=id then some c else H i
def lset (L:zbl) (id:Nat) (l:Loc):zbl:=fun i=>if i=id then some l else L i
def env0:Env:=fun _=>.dead
def heap0:za:=fun _=>none

theorem zbhw (env:Env) (d:Nat) (v:AV) (t:Nat):upd env d v t=if t=d then v else env t:=rfl
theorem zbgz (H:za) (d:Nat) (v:zcb) (t:Nat):hset H d v t=if t=d then some v else H t:=rfl

theorem zbbg (env:Env) {d e:Nat} (v u:AV) (h:d≠e):upd (upd env d v) e u=upd (upd env e u) d v:=by
 funext t; simp only[upd]; by_cases h1:t=d<;>by_cases h2:t=e<;>simp_all
theorem zwi (H:za) {d e:Nat} (v u:zcb) (h:d≠e):hset (hset H d v) e u=hset (hset H e u) d v:=by
 funext t; simp only[hset]; by_cases h1:t=d<;>by_cases h2:t=e<;>simp_all

def zmd (I:Mem) (L:zbl) (w:World) (B:Nat) (id:Nat):zcb→Prop
 | .box cs => ∃ (b : Nat) (arr : Array Value) (e : TypeId), L id = some (.box b) ∧ w.heap[b]? = some (.cells arr e (0, 0)) ∧ arr.size = cs.length ∧
   (∀ (j:Nat) u c,arr[j]? = some u→cs[j]? = some c→AVR I L u c)∧(∀ (j:Nat) u,arr[j]? = some u→u.oneCell'=true)∧∀o,I b o=none
 | .row ver e sz es => ∃ (hdr : Value) (us : List Value), L id = some (.row ver hdr sz) ∧ w.ownsRow B e sz hdr es.length us ∧ 0 < sz ∧ (∀ x ∈ es, x.length = sz) ∧
   (∀ (j:Nat) u c,us[j]? = some u→es.flatten[j]? = some c→VR I u c)∧(∀u∈us,u.oneCell'=true)∧∀b,hdr.ownBlock=some b→∀o,I b o=none
 | .shut ver es=>∃ (hdr:Value) (sz:Nat),L id=some (.row ver hdr sz)∧VR I hdr (.lst es)∧(∀x∈es,x.length=sz)∧(es≠[]→∃g o n cap,hdr = .slice (some ⟨g,o,none⟩) n cap)
 | .tail ver e sz es => ∃ (g o cap : Nat) (arr : Array Value), L id = some (.row ver (.slice (some ⟨g, o, none⟩) es.length cap) sz) ∧ w.heap[g]? = some (.cells arr e (0, 0)) ∧ o + cap * sz ≤ arr.size ∧ es.length ≤ cap ∧ 0 < sz ∧
   (∀x∈es,x.length=sz)∧VR I (.slice (some ⟨g,o,none⟩) es.length cap) (.lst es)∧∀j,o+es.length * sz≤j→j<o+cap * sz→I g j=none

structure Ctx where
 w0:World
 I0:Mem
 n:Nat
 B:Nat
 lent:Nat→Prop
 L0:zbl
 hB:B≤w0.heap.size
 hL0:∀i l,L0 i=some l→1000000≤i

def Ctx.of (w:World) (I:Mem) (n:Nat):Ctx:=⟨w,I,n,w.heap.size,fun _=>False,fun _=>none,Nat.le_refl _,fun _ _ h=>by cases h⟩

structure Sim (C:Ctx) (env:Env) (H:za) (I:Mem) (L:zbl) (tmps:Array Value) (w:World):Prop where
 below:Below C.B C.w0 w
 mem:I.inW w
 memC:C.I0.sub I
 memN:∀b,b<C.w0.heap.size→¬ C.lent b→∀o,I b o=C.I0 b o
 frame:∀b,b<C.w0.heap.size→¬ C.lent b→w.heap[b]? = C.w0.heap[b]?
 loc:zcd C.L0 L
 blkF:∀id l b,L id=some l→l.blk=some b→C.w0.heap.size≤b∨C.lent b
 size:tmps.size=C.n
 env:∀t,AVR I L (tmps.getD t undef) (env t)
 dom:∀id l,L id=some l→∃ch,H id=some ch
 chunk:∀id ch,H id=some ch→zmd I L w C.B id ch
 blkB:∀id l b,L id=some l→l.blk=some b→C.B≤b∧b<w.heap.size
 apart:∀i j li lj b,L i=some li→L j=some lj→li.blk=some b→lj.blk=some b→i=j

theorem Sim.leB {C:Ctx} {env:Env} {H:za} {I:Mem} {L:zbl} {tmps:Array Value} {w:World} (h:Sim C env H I L tmps w):C.B≤w.heap.size:=Nat.le_trans C.hB h.below.size
theorem zcd.trans {L L1 L2:zbl} (h:zcd L L1) (k:zcd L1 L2):zcd L L2:=fun id=>by
 cases hL:L id with
 | none=>trivial
 | some l =>
  cases l with
  | box b=>exact k.box (h.box hL)
  | row v hdr sz =>
   obtain⟨v1,hdr1,k1,k2,k3⟩:=h.row hL
   obtain⟨v2,hdr2,m1,m2,m3⟩:=k.row k1
   exact⟨v2,hdr2,m1,Nat.le_trans k2 m2,fun e=>by
    have e1:v=v1:=by omega
    have e2:v1=v2:=by omega
    rw[k3 e1,m3 e2]⟩

theorem Mem.inW.keep {I:Mem} {w w':World} (h:I.inW w) (hk:∀b,(∃o u,I b o=some u)→w'.heap[b]? = w.heap[b]?):I.inW w':=fun b o u hu=>by
 have:=h b o u hu
 rw[World.cell?_of_block (w:=w) (hk b ⟨o,u,hu⟩)]
 exact this

theorem Mem.inW.lt {I:Mem} {w:World} (h:I.inW w) {b o:Nat} {u:Value} (hu:I b o=some u):b<w.heap.size :=
 World.block_lt_of_cell? w ⟨b,o,none⟩ (h b o u hu)

theorem zti {w w' : World} {B : Nat} {e : TypeId} {sz : Nat} {v : Value} {n : Nat} {xs : List Value} (h : w.ownsRow B e sz v n xs)
  (hk:∀b,v.ownBlock=some b→w'.heap[b]? = w.heap[b]?):w'.ownsRow B e sz v n xs:=by
 refine⟨h.1,?_⟩
 rcases h.2 with hn | ⟨g,cap,cur,rfl,hb,hgg,rest⟩
 ·exact .inl hn
 ·refine .inr ⟨g,cap,cur,rfl,hb,?_,rest⟩
  rw[hk g rfl]; exact hgg

theorem zmd.keep {I I' : Mem} {L L' : zbl} {w w' : World} {B id : Nat} {ch : zcb} (h : zmd I L w B id ch) (hI : I.sub I') (hL : zcd L L')
  (hid:L' id=L id) (hk:∀l b,L id=some l→l.blk=some b→w'.heap[b]? = w.heap[b]?∧∀o,I' b o=I b o):zmd I' L' w' B id ch:=by
 cases ch with
 | box cs =>
  obtain⟨b,arr,e,h1,h2,h3,h4,h5,h6⟩:=h
  obtain⟨k1,k2⟩:=hk _ b h1 rfl
  exact⟨b,arr,e,hid.trans h1,k1.trans h2,h3,fun j u c hu hc=>(h4 j u c hu hc).mono hI hL,h5,fun o=>by rw[k2]; exact h6 o⟩
 | row ver e sz es =>
  obtain⟨hdr,us,h1,h2,h3,h4,h5,h6,h7⟩:=h
  exact⟨hdr,us,hid.trans h1,zti h2 fun b hb=>(hk _ b h1 hb).1,h3,h4,fun j u c hu hc=>(h5 j u c hu hc).mono hI,h6,
   fun b hb o=>by rw[(hk _ b h1 hb).2]; exact h7 b hb o⟩
 | shut ver es =>
  obtain⟨hdr,sz,h1,h2,h3⟩:=h
  exact⟨hdr,sz,hid.trans h1,h2.mono hI,h3⟩
 | tail ver e sz es =>
  obtain⟨g,o,cap,arr,h1,h2,h3,h4,h5,h6,h7,h8⟩:=h
  obtain⟨k1,k2⟩:=hk _ g h1 rfl
  exact⟨g,o,cap,arr,hid.trans h1,k1.trans h2,h3,h4,h5,h6,h7.mono hI,fun j a b=>by rw[k2]; exact h8 j a b⟩

theorem Sim.world {C : Ctx} {env : Env} {H : za} {I : Mem} {L : zbl} {tmps : Array Value} {w w' : World} (h : Sim C env H I L tmps w)
  (hb:Below C.B w w') (hk:∀b,b<w.heap.size→w'.heap[b]? = w.heap[b]?):Sim C env H I L tmps w' where
 below:=h.below.trans hb
 mem:=h.mem.keep fun b ⟨o,u,hu⟩=>hk b (h.mem.lt hu)
 memC:=h.memC
 memN:=h.memN
 frame:=fun b hb hl=>(hk b (Nat.lt_of_lt_of_le hb h.below.size)).trans (h.frame b hb hl)
 loc:=h.loc
 blkF:=h.blkF
 size:=h.size
 env:=h.env
 dom:=h.dom
 chunk:=fun id ch hch=>(h.chunk id ch hch).keep (Mem.sub_refl I) (zcd.refl L) rfl fun l b hl hlb=>⟨hk b (h.blkB id l b hl hlb).2,fun _=>rfl⟩
 blkB:=fun id l b hl hlb=>⟨(h.blkB id l b hl hlb).1,Nat.lt_of_lt_of_le (h.blkB id l b hl hlb).2 hb.size⟩
 apart:=h.apart

theorem Sim.grow {C : Ctx} {env : Env} {H : za} {I I' : Mem} {L : zbl} {tmps : Array Value} {w w' : World} (h : Sim C env H I L tmps w)
  (hb:Below w.heap.size w w') (hI:I.sub I') (hw:I'.inW w') (hn:∀b,b<w.heap.size→∀o,I' b o=I b o):Sim C env H I' L tmps w' where
 below:=h.below.trans (hb.mono h.leB)
 mem:=hw
 memC:=Mem.sub_trans h.memC hI
 memN:=fun b hlt hl o=>by rw[hn b (Nat.lt_of_lt_of_le hlt h.below.size)]; exact h.memN b hlt hl o
 frame:=fun b hlt hl=>(hb.block b (Nat.lt_of_lt_of_le hlt h.below.size)).trans (h.frame b hlt hl)
 loc:=h.loc
 blkF:=h.blkF
 size:=h.size
 env:=fun t=>(h.env t).mono hI (zcd.refl L)
 dom:=h.dom
 chunk:=fun id ch hch=>(h.chunk id ch hch).keep hI (zcd.refl L) rfl fun l b hl hlb =>
  ⟨hb.block b (h.blkB id l b hl hlb).2,hn b (h.blkB id l b hl hlb).2⟩
 blkB:=fun id l b hl hlb=>⟨(h.blkB id l b hl hlb).1,Nat.lt_of_lt_of_le (h.blkB id l b hl hlb).2 hb.size⟩
 apart:=h.apart

theorem zbdq (tmps:Array Value) (d t:Nat) (v:Value) (hd:d<tmps.size):(tmps.setIfInBounds d v).getD t undef=if t=d then v else tmps.getD t undef:=by
 by_cases h:t=d
 ·subst h; simp[hd]
 ·have h':d≠t:=fun e=>h e.symm
  simp[Array.getElem?_setIfInBounds,h,h']

theorem Sim.put {C : Ctx} {env : Env} {H : za} {I : Mem} {L : zbl} {tmps : Array Value} {w : World} (h : Sim C env H I L tmps w)
  {d:Nat} {v:Value} {a:AV} (hd:d<C.n) (ha:AVR I L v a):Sim C (upd env d a) H I L (tmps.setIfInBounds d v) w :=
 {h with
  size:=by simpa using h.size
  env:=fun t=>by
   rw[zbdq _ _ _ _ (by rw[h.size]; exact hd)]
   unfold upd
   split
   ·exact ha
   ·exact h.env t }

theorem zcd.lset_new {L:zbl} {id:Nat} (h:L id=none) (l:Loc):zcd L (lset L id l):=fun i=>by
 by_cases hi:i=id
 ·subst hi; rw[h]; trivial
 ·have:lset L id l i=L i:=by simp[lset,hi]
  rw[this]
  exact zcd.refl L i

theorem Sim.dom_none {C:Ctx} {env:Env} {H:za} {I:Mem} {L:zbl} {tmps:Array Value} {w:World} (h:Sim C env H I L tmps w) {id:Nat} (hid:H id=none):L id=none:=by
 cases hL:L id with
 | none=>rfl
 | some l=>obtain⟨ch,hch⟩:=h.dom id l hL; rw[hid] at hch; cases hch

theorem zsa {I:Mem} {w:World} (h:I.inW w) (o:Nat):I w.heap.size o=none:=by
 cases hI:I w.heap.size o with
 | none=>rfl
 | some u=>exact absurd (h.lt hI) (Nat.lt_irrefl _)

theorem Sim.new {C : Ctx} {env : Env} {H : za} {I : Mem} {L : zbl} {tmps : Array Value} {w w' : World} (h : Sim C env H I L tmps w)
  (hb:Below C.B w w') (hk:∀b,b<w.heap.size→w'.heap[b]? = w.heap[b]?) {id:Nat} (hid:H id=none) (l:Loc) (ch:zcb)
  (hch:zmd I (lset L id l) w' C.B id ch) (hl:∀b,l.blk=some b→w.heap.size≤b∧b<w'.heap.size):Sim C env (hset H id ch) I (lset L id l) tmps w':=by
 have hL:=h.dom_none hid
 have hle:=zcd.lset_new hL l
 have hw:=h.world hb hk
 exact
 {hw with
  env:=fun t=>(h.env t).mono (Mem.sub_refl I) hle
  dom:=fun i li hi=>by
   by_cases e:i=id
   ·exact⟨ch,by simp[hset,e]⟩
   ·obtain⟨c,hc⟩:=h.dom i li (by simpa[lset,e] using hi)
    exact⟨c,by simpa[hset,e] using hc⟩
  chunk:=fun i c hc=>by
   by_cases e:i=id
   ·subst e
    have:ch=c:=by simpa[hset] using hc
    subst this; exact hch
   ·exact (hw.chunk i c (by simpa[hset,e] using hc)).keep (Mem.sub_refl I) hle (by simp[lset,e]) fun _ _ _ _=>⟨rfl,fun _=>rfl⟩
  loc:=hw.loc.trans hle
  blkF:=fun i li b hi hlb=>by
   by_cases e:i=id
   ·subst e
    have:l=li:=by simpa[lset] using hi
    subst this
    exact .inl (Nat.le_trans h.below.size (hl b hlb).1)
   ·exact hw.blkF i li b (by simpa[lset,e] using hi) hlb
  blkB:=fun i li b hi hlb=>by
   by_cases e:i=id
   ·subst e
    have:l=li:=by simpa[lset] using hi
    subst this
    exact⟨Nat.le_trans h.leB (hl b hlb).1,(hl b hlb).2⟩
   ·exact hw.blkB i li b (by simpa[lset,e] using hi) hlb
  apart:=fun i j li lj b hi hj hbi hbj=>by
   by_cases ei:i=id<;>by_cases ej:j=id
   ·rw[ei,ej]
   ·subst ei
    have:l=li:=by simpa[lset] using hi
    subst this
    have h1:=hl b hbi
    have h2:=h.blkB j lj b (by simpa[lset,ej] using hj) hbj
    omega
   ·subst ej
    have:l=lj:=by simpa[lset] using hj
    subst this
    have h1:=hl b hbj
    have h2:=h.blkB i li b (by simpa[lset,ei] using hi) hbi
    omega
   ·exact h.apart i j li lj b (by simpa[lset,ei] using hi) (by simpa[lset,ej] using hj) hbi hbj }

theorem Sim.turn {C : Ctx} {env : Env} {H : za} {I : Mem} {L : zbl} {tmps : Array Value} {w w' : World} (h : Sim C env H I L tmps w)
  (hb:Below C.B w w') {id:Nat} {l l':Loc} (hl:L id=some l) (hk:∀b,b<w.heap.size→l.blk≠some b→w'.heap[b]? = w.heap[b]?)
  (hle:zcd L (lset L id l')) (hfree:∀b,l.blk=some b→∀o,I b o=none) (ch:zcb)
  (hch:zmd I (lset L id l') w' C.B id ch) (hl':∀b,l'.blk=some b→l.blk=some b∨(w.heap.size≤b∧b<w'.heap.size)):Sim C env (hset H id ch) I (lset L id l') tmps w' where
 below:=h.below.trans hb
 mem:=h.mem.keep fun b ⟨o,u,hu⟩=>hk b (h.mem.lt hu) fun e=>by rw[hfree b e o] at hu; cases hu
 memC:=h.memC
 memN:=h.memN
 frame:=fun b hlt hf=>by
  have hlt':=Nat.lt_of_lt_of_le hlt h.below.size
  refine (hk b hlt' fun e=>?_).trans (h.frame b hlt hf)
  rcases h.blkF id l b hl e with h1 | h1
  ·omega
  ·exact hf h1
 loc:=h.loc.trans hle
 blkF:=fun i li b hi hlb=>by
  by_cases e:i=id
  ·subst e
   have:l'=li:=by simpa[lset] using hi
   subst this
   rcases hl' b hlb with k | k
   ·exact h.blkF i l b hl k
   ·exact .inl (Nat.le_trans h.below.size k.1)
  ·exact h.blkF i li b (by simpa[lset,e] using hi) hlb
 size:=h.size
 env:=fun t=>(h.env t).mono (Mem.sub_refl I) hle
 dom:=fun i li hi=>by
  by_cases e:i=id
  ·exact⟨ch,by simp[hset,e]⟩
  ·obtain⟨c,hc⟩:=h.dom i li (by simpa[lset,e] using hi)
   exact⟨c,by simpa[hset,e] using hc⟩
 chunk:=fun i c hc=>by
  by_cases e:i=id
  ·subst e
   have:ch=c:=by simpa[hset] using hc
   subst this; exact hch
  ·refine (h.chunk i c (by simpa[hset,e] using hc)).keep (Mem.sub_refl I) hle (by simp[lset,e]) fun li b hi hbi=>⟨hk b (h.blkB i li b hi hbi).2 fun eb=>e (h.apart i id li l b hi hl hbi eb),fun _=>rfl⟩
 blkB:=fun i li b hi hlb=>by
  by_cases e:i=id
  ·subst e
   have:l'=li:=by simpa[lset] using hi
   subst this
   rcases hl' b hlb with k | k
   ·exact⟨(h.blkB i l b hl k).1,Nat.lt_of_lt_of_le (h.blkB i l b hl k).2 hb.size⟩
   ·exact⟨Nat.le_trans h.leB k.1,k.2⟩
  ·have:=h.blkB i li b (by simpa[lset,e] using hi) hlb
   exact⟨this.1,Nat.lt_of_lt_of_le this.2 hb.size⟩
 apart:=fun i j li lj b hi hj hbi hbj=>by
  by_cases ei:i=id<;>by_cases ej:j=id
  ·rw[ei,ej]
  ·subst ei
   have:l'=li:=by simpa[lset] using hi
   subst this
   have h2:=h.blkB j lj b (by simpa[lset,ej] using hj) hbj
   rcases hl' b hbi with k | k
   ·exact h.apart i j l lj b hl (by simpa[lset,ej] using hj) k hbj
   ·omega
  ·subst ej
   have:l'=lj:=by simpa[lset] using hj
   subst this
   have h2:=h.blkB i li b (by simpa[lset,ei] using hi) hbi
   rcases hl' b hbj with k | k
   ·exact h.apart i j li l b (by simpa[lset,ei] using hi) hl hbi k
   ·omega
  ·exact h.apart i j li lj b (by simpa[lset,ei] using hi) (by simpa[lset,ej] using hj) hbi hbj

end Go.Abs
namespace Go.Abs
open Go.RowKit

def slElem (P:Program) (t:TypeId):Option TypeId:=match P.underlying t with | some (.slice e)=>some e | _=>none
def tySize (P:Program) (t:TypeId):Option Nat:=(P.info? t).map (·.size)
def tyBytes (P:Program) (t:TypeId):Option Nat:=(P.info? t).map (·.bytes)
def tyZero (P:Program) (t:TypeId):Option (List Value):=(P.info? t).bind fun i=>i.zero.map fun z=>z.cells.toList
def tyAgg (P:Program) (t:TypeId):Option Bool:=(P.underlying t).map (·.isRow)
def fldOff (P:Program) (s:TypeId) (k:Nat):Option (Nat×Nat):=match P.underlying s with
 | some (.struct fs)=>(fs[k]?).bind fun f=>(tySize P f.type).map fun n=>(f.offset,n)
 | _=>none
def arrOf (P:Program) (t:TypeId):Option (Nat×TypeId):=match P.underlying t with | some (.array n e)=>some (n,e) | _=>none
def tyInt (P:Program) (t:TypeId):Option IntKind:=match P.underlying t with | some (.int k)=>some k | _=>none
def tyStr (P:Program) (t:TypeId):Bool:=match P.underlying t with | some .string=>true | _=>false

def constA (v:Value):AV:=match v with
 | .agg cs=>if cs.toList.all (·.oneCell') then .p (.agg (cs.toList.map PV.val)) else .dead
 | .tuple _=>.dead
 | v=>.p (.val v)

def ev (env:Env):Operand→AV
 | .tmp t=>env t
 | .const v=>constA v
 | .global _=>.dead
 | .func f=>.p (.clo (.func f) [] [])

theorem zy3 (I:Mem) (L:zbl) (v:Value):AVR I L v (constA v):=by
 unfold constA
 split
 ·rename_i cs
  split
  ·rename_i h
   rw[List.all_eq_true] at h
   have:=VR.agg (I:=I) cs.toList (cs.toList.map PV.val) (by simp) (fun j u c hu hc=>by
    rw[List.getElem?_map,hu] at hc
    simp at hc; subst hc
    exact .val u (h u (List.mem_of_getElem? hu))) h
   exact .p _ _ (by simpa using this)
  ·exact .dead _
 ·exact .dead _
 ·rename_i h1 h2
  refine .p _ _ (.val _ ?_)
  cases v with
  | agg cs=>exact (h1 _ rfl).elim
  | tuple cs=>exact (h2 _ rfl).elim
  | _=>rfl

theorem zji {C : Ctx} {env : Env} {H : za} {I : Mem} {L : zbl} {tmps : Array Value} {w : World} (h : Sim C env H I L tmps w) (ds : List Deferred) (x : Operand) :
  AVR I L ((⟨tmps,ds⟩:Act).eval x) (ev env x):=by
 cases x with
 | tmp t=>exact h.env t
 | const v=>exact zy3 I L v
 | global g=>exact .dead _
 | func f=>exact .p _ _ (.clo (.func f) [] [] [] [] rfl rfl (by simp) (by simp))

def allP:List AV→Option (List PV)
 | []=>some []
 | .p x :: r=>match allP r with | some ps=>some (x :: ps) | none=>none
 | _ :: _=>none

theorem zks:∀ {cs:List AV} {ps:List PV},allP cs=some ps→cs=ps.map AV.p
 | [],ps,h=>by simp[allP] at h; subst h; rfl
 | a :: r,ps,h=>by
  cases a<;>simp[allP] at h
  rename_i x
  split at h
  ·rename_i qs hq
   simp at h; subst h
   simp[zks hq]
  ·simp at h

def mkAgg (cs:List AV):AV:=match allP cs with | some ps=>.p (.agg ps) | none=>.agg cs

def avOne:AV→Bool
 | .p x=>x.one
 | .row _ _ | .ptr _ _ | .rptr _ _ _ _ | .clo _ _ _=>true
 | _=>false

theorem AVR.one {I:Mem} {L:zbl} {u:Value} {a:AV} (h:AVR I L u a) (ha:avOne a=true):u.oneCell'=true:=by
 cases h<;>first | assumption | rfl | (cases ha; done) | exact VR.one (by assumption) ha

theorem AVR.of_p {I:Mem} {L:zbl} {u:Value} {x:PV} (h:AVR I L u (.p x)):VR I u x:=by cases h; assumption

theorem zlr {I : Mem} {L : zbl} {us : List Value} {cs : List AV} (hl : us.length = cs.length)
  (hv:∀ (j:Nat) u c,us[j]? = some u→cs[j]? = some c→AVR I L u c) (hone:∀u∈us,u.oneCell'=true):AVR I L (.agg us.toArray) (mkAgg cs):=by
 unfold mkAgg
 split
 ·rename_i ps h
  have e:=zks h
  subst e
  refine .p _ _ (.agg us ps (by simpa using hl) (fun j u c hu hc=>?_) hone)
  exact (hv j u (.p c) hu (by rw[List.getElem?_map,hc]; rfl)).of_p
 ·exact .agg us cs hl hv hone

def avCells:AV→List AV
 | .agg cs=>cs
 | .p (.agg cs)=>cs.map AV.p
 | x=>[x]

def splice {α:Type} (cs:List α) (off:Nat) (new:List α):List α:=cs.take off++new++cs.drop (off+new.length)

theorem zeh {α:Type} {cs:List α} {off:Nat} {new:List α} (h:off+new.length≤cs.length):(splice cs off new).length=cs.length:=by
 simp[splice]; omega

theorem zpz {α β : Type} {R : α → β → Prop} {us : List α} {cs : List β} {off : Nat} {un : List α} {cn : List β} (hl : us.length = cs.length) (hn : un.length = cn.length)
  (hv:∀ (j:Nat) u c,us[j]? = some u→cs[j]? = some c→R u c) (hw:∀ (j:Nat) u c,un[j]? = some u→cn[j]? = some c→R u c) :
  ∀ (j:Nat) u c,(splice us off un)[j]? = some u→(splice cs off cn)[j]? = some c→R u c:=by
 intro j u c hu hc
 unfold splice at hu hc
 simp only[List.append_assoc,List.getElem?_append,List.length_take,hl,List.getElem?_take,List.getElem?_drop,hn] at hu hc
 split at hu
 ·rename_i h1
  rw[if_pos h1] at hc
  split at hu
  ·rename_i h2
   rw[if_pos h2] at hc
   exact hv _ _ _ hu hc
  ·cases hu
 ·rename_i h1
  rw[if_neg h1] at hc
  split at hu
  ·rename_i h2
   rw[if_pos h2] at hc
   exact hw _ _ _ hu hc
  ·rename_i h2
   rw[if_neg h2] at hc
   exact hv _ _ _ hu hc

theorem AVR.cells {I : Mem} {L : zbl} {u : Value} {a : AV} (h : AVR I L u a) (hd : ∀ c ∈ avCells a, avOne c = true) :
  ∃us:List Value,u.cells=us.toArray∧us.length=(avCells a).length∧(∀ (j:Nat) u c,us[j]? = some u→(avCells a)[j]? = some c→AVR I L u c):=by
 have single:(avCells a=[a])→u.cells = #[u]→∃us:List Value,u.cells=us.toArray∧us.length=(avCells a).length∧(∀ (j:Nat) u c,us[j]? = some u→(avCells a)[j]? = some c→AVR I L u c):=by
  intro h1 h2
  refine⟨[u],h2,by simp[h1],fun j v c hv hc=>?_⟩
  rw[h1] at hc
  cases j with
  | zero=>simp at hv hc; subst hv; subst hc; exact h
  | succ j=>simp at hv
 cases h with
 | p _ x hx =>
  cases hx with
  | val v h1=>exact single rfl (by cases u<;>first | rfl | cases h1)
  | emp=>exact single rfl rfl
  | lst=>exact single rfl rfl
  | eptr=>exact single rfl rfl
  | agg us cs hl hv hone =>
   exact⟨us,rfl,by simp[avCells,hl],fun j u c hu hc=>by
    simp only[avCells,List.getElem?_map] at hc
    cases hcj:cs[j]? with
    | none=>simp[hcj] at hc
    | some c'=>simp[hcj] at hc; subst hc; exact .p _ _ (hv j u c' hu hcj)⟩
  | tup us cs hl hv=>simp[avCells,avOne,PV.one] at hd
  | clo=>exact single rfl rfl
 | row _ id ver v hdr sz hl hle hh h1=>exact single rfl (by cases u<;>first | rfl | cases h1)
 | ptr=>exact single rfl rfl
 | rptr _ id ver v i off hdr sz hl hle hh h1=>exact single rfl (by cases u<;>first | rfl | cases h1)
 | agg us cs hl hv hone=>exact⟨us,rfl,hl,hv⟩
 | tup us cs hl hv=>simp[avCells,avOne] at hd
 | clo=>exact single rfl rfl
 | dead=>simp[avCells,avOne] at hd

end Go.Abs
namespace Go.Abs
open Go.RowKit

variable {P:Program}

theorem zev {w:World} {b:Nat} {arr:Array Value} {e:TypeId} {f:Nat×Nat} (h:w.heap[b]? = some (.cells arr e f)) (j:Nat):w.cell? ⟨b,j,none⟩=arr[j]?:=by
 simp[World.cell?,h]

def readA (P:Program) (t:TypeId) (cs:List AV) (off:Nat):Option AV:=match tyAgg P t with
 | some true=>match tySize P t with
  | some n=>if off+n≤cs.length then some (mkAgg ((cs.drop off).take n)) else none
  | none=>none
 | some false=>cs[off]?
 | none=>none

def readP (P:Program) (t:TypeId) (cs:List PV) (off:Nat):Option PV:=match tyAgg P t with
 | some true=>match tySize P t with
  | some n=>if off+n≤cs.length then some (.agg ((cs.drop off).take n)) else none
  | none=>none
 | some false=>cs[off]?
 | none=>none

theorem zpm {t:TypeId} {g:Bool} (h:tyAgg P t=some g):∃d,P.underlying t=some d∧d.isRow=g:=by
 unfold tyAgg at h
 cases hu:P.underlying t with
 | none=>simp[hu] at h
 | some d=>exact⟨d,rfl,by simpa[hu] using h⟩

theorem ztw {t : TypeId} {d : TypeDesc} (hu : P.underlying t = some d) (hd : d.isRow = false) (w : World) (a : Addr) {u : Value} (hc : w.cell? a = some u) :
  (loadVar t a).run P w = .ok u w:=by
 have hagg:(isAgg t).run P w = .ok false w:=by
  unfold isAgg
  rw[Sem.run_bind,run_underlying hu w]
  cases d<;>simp_all
 simp[loadVar,Sem.run_bind,hagg,load,Sem.run,hc]

theorem zrl {I : Mem} {L : zbl} {w : World} {t : TypeId} {b base off : Nat} {us : List Value} {cs : List AV} {v : AV} (h : readA P t cs off = some v)
  (hl:us.length=cs.length) (hv:∀ (j:Nat) u c,us[j]? = some u→cs[j]? = some c→AVR I L u c) (h1:∀u∈us,u.oneCell'=true)
  (hm:∀ (j:Nat) u,us[j]? = some u→w.cell? ⟨b,base+j,none⟩=some u) :
  ∃u,(loadVar t ⟨b,base+off,none⟩).run P w = .ok u w∧AVR I L u v:=by
 unfold readA at h
 split at h
 ·rename_i hg
  obtain⟨d,hu,hd⟩:=zpm hg
  split at h
  ·rename_i n hn
   split at h
   ·rename_i hle
    simp at h; subst h
    have hlen:((us.drop off).take n).length=n:=by simp; omega
    refine⟨_,run_loadVar_mid w b (base+off) t ((us.drop off).take n) d (fun j u hu=>?_) hu hd ?_,zlr ?_ ?_ ?_⟩
    ·rw[List.getElem?_take] at hu
     split at hu
     ·rw[List.getElem?_drop] at hu
      rw[Nat.add_assoc]; exact hm _ u hu
     ·cases hu
    ·rw[hlen]; exact hn
    ·simp[hl]
    ·intro j u c hu hc
     rw[List.getElem?_take] at hu hc
     split at hu
     ·rename_i hj
      rw[if_pos hj] at hc
      rw[List.getElem?_drop] at hu hc
      exact hv _ u c hu hc
     ·cases hu
    ·intro u hu
     exact h1 u (List.mem_of_mem_drop (List.mem_of_mem_take hu))
   ·simp at h
  ·simp at h
 ·rename_i hg
  obtain⟨d,hu,hd⟩:=zpm hg
  have hlt:off<cs.length:=(List.getElem?_eq_some_iff.1 h).1
  have hs:us[off]? = some (us[off]'(by omega)):=by simp
  exact⟨_,ztw hu hd w _ (hm off _ hs),hv off _ _ hs h⟩
 ·simp at h

theorem zbhf {t:TypeId} {cs:List PV} {off:Nat} {x:PV} (h:readP P t cs off=some x):readA P t (cs.map AV.p) off=some (.p x):=by
 have hp:∀l:List PV,allP (l.map AV.p)=some l:=fun l=>by induction l with | nil=>rfl | cons a r ih=>simp[allP,ih]
 unfold readP at h
 unfold readA
 split at h
 ·split at h
  ·split at h
   ·rename_i hle
    simp at h; subst h
    rw[if_pos (by simpa using hle),←List.map_drop,←List.map_take]
    simp only[mkAgg,hp]
   ·simp at h
  ·simp at h
 ·rw[List.getElem?_map,h]; rfl
 ·simp at h

theorem zv3 {I : Mem} {w : World} {t : TypeId} {b base off : Nat} {us : List Value} {cs : List PV} {x : PV} (h : readP P t cs off = some x)
  (hl:us.length=cs.length) (hv:∀ (j:Nat) u c,us[j]? = some u→cs[j]? = some c→VR I u c) (h1:∀u∈us,u.oneCell'=true)
  (hm:∀ (j:Nat) u,us[j]? = some u→w.cell? ⟨b,base+j,none⟩=some u) :
  ∃u,(loadVar t ⟨b,base+off,none⟩).run P w = .ok u w∧VR I u x:=by
 obtain⟨u,hr,ha⟩:=zrl (I:=I) (L:=fun _=>none) (zbhf h) (by simpa using hl) (fun j u c hu hc=>by
  rw[List.getElem?_map] at hc
  cases hcj:cs[j]? with
  | none=>simp[hcj] at hc
  | some c'=>simp[hcj] at hc; subst hc; exact .p _ _ (hv j u c' hu hcj)) h1 hm
 exact⟨u,hr,ha.of_p⟩

def Fr (C:Ctx) (I:Mem) (L:zbl) (H:za) (w:World) (I':Mem) (L':zbl) (H':za) (w':World):Prop :=
 ∀env tm,Sim C env H I L tm w→Sim C env H' I' L' tm w'

theorem Fr.refl (C:Ctx) (I:Mem) (L:zbl) (H:za) (w:World):Fr C I L H w I L H w:=fun _ _ h=>h

theorem Fr.trans {C : Ctx} {I I1 I2 : Mem} {L L1 L2 : zbl} {H H1 H2 : za} {w w1 w2 : World} (h : Fr C I L H w I1 L1 H1 w1) (k : Fr C I1 L1 H1 w1 I2 L2 H2 w2) :
  Fr C I L H w I2 L2 H2 w2:=fun env tm s=>k env tm (h env tm s)

theorem Fr.drew (C:Ctx) (I:Mem) (L:zbl) (H:za) (w:World):Fr C I L H w I L H w.drew :=
 fun _ _ h=>h.world (Below.refl _ _).drew fun _ _=>rfl

def Mem.with (I:Mem) (b:Nat) (arr:Array Value):Mem:=fun c o=>if c=b then arr[o]? else I c o

theorem Fr.imm (C : Ctx) (I : Mem) (L : zbl) (H : za) (w : World) (arr : Array Value) (e : TypeId) :
  Fr C I L H w (I.with w.heap.size arr) L H (w.alloc (.cells arr e)):=fun env tm h =>
 h.grow ((Below.refl _ _).alloc (Nat.le_refl _) _)
  (fun b o u hu=>by
   have:b≠w.heap.size:=fun e=>by subst e; rw[zsa h.mem] at hu; cases hu
   simpa[Mem.with,this] using hu)
  (fun b o u hu=>by
   unfold Mem.with at hu
   split at hu
   ·rename_i hb; subst hb; rw[World.cell?_alloc_new]; exact hu
   ·exact (World.cell?_alloc_lt _ _ _ (h.mem.lt hu)).trans (h.mem b o u hu))
  (fun b hb o=>by unfold Mem.with; rw[if_neg (by omega)])

theorem Mem.sub_with {I:Mem} {w:World} (h:I.inW w) (arr:Array Value):I.sub (I.with w.heap.size arr):=fun b o u hu=>by
 have:b≠w.heap.size:=fun e=>by subst e; rw[zsa h] at hu; cases hu
 simpa[Mem.with,this] using hu

theorem VR.newList {I : Mem} {w : World} (hI : I.inW w) {us rest : List Value} {es : List (List PV)} {sz cap : Nat} (hsz : ∀ e ∈ es, e.length = sz) (hl : us.length = es.flatten.length)
  (hv:∀ (j:Nat) u c,us[j]? = some u→es.flatten[j]? = some c→VR I u c) (h1:∀u∈us,u.oneCell'=true) (hcap:es.length≤cap) :
  VR (I.with w.heap.size (us++rest).toArray) (.slice (some ⟨w.heap.size,0,none⟩) es.length cap) (.lst es):=by
 refine .lst _ _ _ es us sz rfl hsz hl (fun j u c hu hc=>(hv j u c hu hc).mono (Mem.sub_with hI _)) h1 (.inr ⟨_,_,rfl,fun j u hu=>?_⟩) (by simp) hcap
 have hj:j<us.length:=(List.getElem?_eq_some_iff.1 hu).1
 simp only[Mem.with,if_true,Nat.zero_add,List.getElem?_toArray]
 rw[List.getElem?_append_left hj]; exact hu

def AVRs (I:Mem) (L:zbl) (us:List Value) (als:List AV):Prop:=us.length=als.length∧∀ (j:Nat) u a,us[j]? = some u→als[j]? = some a→AVR I L u a
def VRs (I:Mem) (us:List Value) (als:List PV):Prop:=us.length=als.length∧∀ (j:Nat) u a,us[j]? = some u→als[j]? = some a→VR I u a

theorem VRs.mono {I J:Mem} (h:I.sub J) {us:List Value} {als:List PV} (k:VRs I us als):VRs J us als:=⟨k.1,fun j u a hu ha=>(k.2 j u a hu ha).mono h⟩

theorem VRs.of_p {I:Mem} {L:zbl} {us:List Value} {ps:List PV} (h:AVRs I L us (ps.map AV.p)):VRs I us ps :=
 ⟨by simpa using h.1,fun j u a hu ha=>(h.2 j u (.p a) hu (by rw[List.getElem?_map,ha]; rfl)).of_p⟩

end Go.Abs
namespace Go.Abs
open Go.RowKit

variable {P:Program}

def binV (P:Program) (op:BinOp) (t:TypeId) (x y:Value):Option (Prop×Value):=match op,x,y with
 | .add,.int k a,.int k' b=>if k=k' then some (True,.int k (k.wrap (a+b))) else none
 | .sub,.int k a,.int k' b=>if k=k' then some (True,.int k (k.wrap (a - b))) else none
 | .mul,.int k a,.int k' b=>if k=k' then some (True,.int k (k.wrap (a * b))) else none
 | .quo,.int k a,.int k' b=>if k=k' then some (b≠0,.int k (k.wrap (a.tdiv b))) else none
 | .rem,.int k a,.int k' b=>if k=k' then some (b≠0,.int k (a.tmod b)) else none
 | .shl,.int k a,.int _ b=>some (0≤b,.int k (k.wrap (a * 2 ^ (min b.toNat k.bits))))
 | .shr,.int k a,.int _ b=>some (0≤b,.int k (a.fdiv (2 ^ (min b.toNat k.bits))))
 | .and,.int k a,.int k' b=>if k=k' then some (True,.int k (k.wrap (BitVec.ofInt k.bits a &&& BitVec.ofInt k.bits b).toNat)) else none
 | .or,.int k a,.int k' b=>if k=k' then some (True,.int k (k.wrap (BitVec.ofInt k.bits a ||| BitVec.ofInt k.bits b).toNat)) else none
 | .xor,.int k a,.int k' b=>if k=k' then some (True,.int k (k.wrap (BitVec.ofInt k.bits a ^^^ BitVec.ofInt k.bits b).toNat)) else none
 | .eql,.int k a,.int k' b=>if k=k' then some (True,.bool (decide (a=b))) else none
 | .neq,.int k a,.int k' b=>if k=k' then some (True,.bool (!decide (a=b))) else none
 | .lss,.int k a,.int k' b=>if k=k' then some (True,.bool (decide (a<b))) else none
 | .leq,.int k a,.int k' b=>if k=k' then some (True,.bool (decide (a≤b))) else none
 | .gtr,.int k a,.int k' b=>if k=k' then some (True,.bool (decide (b<a))) else none
 | .geq,.int k a,.int k' b=>if k=k' then some (True,.bool (decide (b≤a))) else none
 | .add,.string a,.string b=>some (a.size+b.size≤9223372036854775807,.string (a++b))
 | .eql,.string a,.string b=>some (True,.bool (decide (a=b)))
 | .neq,.string a,.string b=>some (True,.bool (!decide (a=b)))
 | .eql,.bool a,.bool b=>match P.underlying t with | some .bool=>some (True,.bool (a == b)) | _=>none
 | .neq,.bool a,.bool b=>match P.underlying t with | some .bool=>some (True,.bool (!(a == b))) | _=>none
 | .eql,.slice ao _ _,.slice none 0 0=>match P.underlying t with | some (.slice _)=>some (True,.bool ao.isNone) | _=>none
 | .neq,.slice ao _ _,.slice none 0 0=>match P.underlying t with | some (.slice _)=>some (True,.bool (!ao.isNone)) | _=>none
 | _,_,_=>none

theorem zqs (a b:ByteArray):(a.toList == b.toList)=decide (a=b):=by
 rw[ByteArray.toList_eq,ByteArray.toList_eq,Bool.eq_iff_iff]
 simp only[beq_iff_eq,decide_eq_true_eq]
 constructor
 ·intro h
  cases a; cases b
  simp only at h
  exact congrArg _ (Array.toList_inj.1 h)
 ·rintro rfl; rfl

theorem zvi {t:TypeId} (hu:P.underlying t=some .bool) (a b:Bool) (w:World):(Op.equal t (.bool a) (.bool b)).run P w = .ok (a == b) w:=by
 have h:Op.equal t (.bool a) (.bool b)=Op.equalIn (9999+1) t (.bool a) (.bool b):=rfl
 rw[h,Op.equalIn,Sem.run_bind,run_underlying hu w]
 rfl

theorem zmf {t e : TypeId} (hu : P.underlying t = some (.slice e)) (ao bo : Option Addr) (n c m d : Nat) (h : ao = none ∨ bo = none) (w : World) :
  (Op.equal t (.slice ao n c) (.slice bo m d)).run P w = .ok (ao.isNone&&bo.isNone) w:=by
 have hh:Op.equal t (.slice ao n c) (.slice bo m d)=Op.equalIn (9999+1) t (.slice ao n c) (.slice bo m d):=rfl
 rw[hh,Op.equalIn,Sem.run_bind,run_underlying hu w]
 cases ao<;>cases bo<;>first | rfl | simp at h

theorem z4w {op : BinOp} {t : TypeId} {x y v : Value} {pre : Prop} (h : binV P op t x y = some (pre, v)) (hp : pre) (w : World) (ox oy : Operand) :
  (do eqGuard op t ox oy x y; binOp op t x y:Sem Value).run P w = .ok v w∧v.oneCell'=true:=by
 unfold binV at h
 split at h
 case h_24=>cases h
 case h_20 | h_21 =>
  split at h
  ·rename_i hk
   simp only[Option.some.injEq,Prod.mk.injEq] at h
   obtain⟨h1,h2⟩:=h
   subst h1 h2
   simp[eqGuard,binOp,zvi hk,Value.oneCell']
  ·cases h
 case h_22 | h_23 =>
  split at h
  ·rename_i hk
   simp only[Option.some.injEq,Prod.mk.injEq] at h
   obtain⟨h1,h2⟩:=h
   subst h1 h2
   simp[eqGuard,binOp,zmf hk _ _ _ _ _ _ (.inr rfl),Value.oneCell']
  ·cases h
 case h_6 | h_7 =>
  simp only[Option.some.injEq,Prod.mk.injEq] at h
  obtain⟨h1,h2⟩:=h
  subst h1 h2
  simp[eqGuard,binOp,Op.shift,Value.oneCell']
  omega
 case h_17 =>
  simp only[Option.some.injEq,Prod.mk.injEq] at h
  obtain⟨h1,h2⟩:=h
  subst h1 h2
  simp[eqGuard,binOp,Op.stringOp,Value.oneCell',IntKind.max,IntKind.signed,IntKind.bits]
  omega
 case h_18 | h_19 =>
  simp only[Option.some.injEq,Prod.mk.injEq] at h
  obtain⟨h1,h2⟩:=h
  subst h1 h2
  simp[eqGuard,binOp,Op.stringOp,zqs,Value.oneCell']
 all_goals
  split at h
  ·rename_i hk
   simp only[Option.some.injEq,Prod.mk.injEq] at h
   obtain⟨h1,h2⟩:=h
   subst h1 h2 hk
   first
    | (simp[eqGuard,binOp,Op.intArith,Op.intBits,Op.intCmp,Value.oneCell']; done)
    | (simp[eqGuard,binOp,Op.intArith,Op.intDiv,hp,Value.oneCell']; done)
    | (simp[eqGuard,binOp,Op.intCmp,Value.oneCell']; rfl)
  ·cases h

end Go.Abs
namespace Go.Abs
open Go.RowKit

variable {P:Program} {I:Mem}

inductive BK where
 | i | s | b

def bkOf (P:Program) (t:TypeId):Option BK:=match P.underlying t with
 | some (.int _)=>some .i
 | some .string=>some .s
 | some .bool=>some .b
 | _=>none
def flatK (P:Program):List Field→Nat→Option (List BK)
 | [],_=>some []
 | f :: fs,k=>if f.offset=k∧f.name ≠ "_" then (match bkOf P f.type,flatK P fs (k+1) with
  | some x,some xs=>some (x :: xs)
  | _,_=>none) else none
def structK (P:Program) (t:TypeId):Option (List BK):=match P.underlying t with
 | some (.struct fs)=>if P.stoodInHeld t=false∧P.eqGuardType P.depth t=false then flatK P fs.toList 0 else none
 | _=>none

def eqK:List BK→List PV→List PV→Option Bool
 | [],[],[]=>some true
 | .i :: ks,.val (.int k a) :: cs,.val (.int k' b) :: ds=>if k=k' then (match eqK ks cs ds with
  | some r=>some (decide (a=b)&&r)
  | none=>none) else none
 | .s :: ks,.val (.string a) :: cs,.val (.string b) :: ds=>(match eqK ks cs ds with
  | some r=>some (decide (a=b)&&r)
  | none=>none)
 | .b :: ks,.val (.bool a) :: cs,.val (.bool b) :: ds=>(match eqK ks cs ds with
  | some r=>some ((a == b)&&r)
  | none=>none)
 | _,_,_=>none

theorem zy0 {t:TypeId} {x:BK} (h:bkOf P t=some x) (w:World):(isAgg t).run P w = .ok false w:=by
 unfold bkOf at h
 unfold isAgg
 split at h
 ·rename_i hu; rw[Sem.run_bind,run_underlying hu w]; rfl
 ·rename_i hu; rw[Sem.run_bind,run_underlying hu w]; rfl
 ·rename_i hu; rw[Sem.run_bind,run_underlying hu w]; rfl
 ·cases h

theorem zsz {t:TypeId} {x:BK} (h:bkOf P t=some x) {xs:Array Value} {k:Nat} {u:Value} (hu:xs[k]? = some u) (w:World):(part t xs k).run P w = .ok u w:=by
 simp[part,zy0 h,hu]

theorem zr3 : ∀ (fs : List Field) (k : Nat) (ks : List BK) (cs ds : List PV) (b : Bool) (us vs : List Value) (d : Nat) (w : World), flatK P fs k = some ks → eqK ks cs ds = some b →
  us.length=k+cs.length→vs.length=k+ds.length→(∀ (j:Nat) u c,us[k+j]? = some u→cs[j]? = some c→VR I u c)→(∀ (j:Nat) u c,vs[k+j]? = some u→ds[j]? = some c→VR I u c) →
  (Op.eqFields (d+1) us.toArray vs.toArray fs).run P w = .ok b w
 | [],k,ks,cs,ds,b,us,vs,d,w,h,he,_,_,_,_=>by
  simp only[flatK,Option.some.injEq] at h
  subst h
  cases cs with
  | nil =>
   cases ds with
   | nil =>
    simp only[eqK,Option.some.injEq] at he
    subst he
    simp[Op.eqFields]
   | cons y ds=>simp[eqK] at he
  | cons c cs=>simp[eqK] at he
 | f :: fs,k,ks,cs,ds,b,us,vs,d,w,h,he,hl,hl',hu,hv=>by
  simp only[flatK] at h
  split at h
  ·rename_i hc
   obtain⟨ho,hn⟩:=hc
   split at h
   ·rename_i x xs hx hxs
    simp only[Option.some.injEq] at h
    subst h
    cases cs with
    | nil=>cases x<;>simp[eqK] at he
    | cons c cs =>
     cases ds with
     | nil=>cases x<;>cases c<;>simp[eqK] at he
     | cons y ds =>
      have hku:k<us.length:=by rw[hl]; simp
      have hkv:k<vs.length:=by rw[hl']; simp
      have gu:us.toArray[k]? = some us[k]:=by simp[hku]
      have gv:vs.toArray[k]? = some vs[k]:=by simp[hkv]
      have ru:=hu 0 us[k] c (by simp[hku]) rfl
      have rv:=hv 0 vs[k] y (by simp[hkv]) rfl
      have ih:∀r,eqK xs cs ds=some r→(Op.eqFields (d+1) us.toArray vs.toArray fs).run P w = .ok r w:=fun r hr =>
       zr3 fs (k+1) xs cs ds r us vs d w hxs hr (by rw[hl]; simp; omega) (by rw[hl']; simp; omega)
        (fun j u c h1 h2=>hu (j+1) u c (by rw[←h1]; congr 1; omega) (by simpa using h2)) (fun j u c h1 h2=>hv (j+1) u c (by rw[←h1]; congr 1; omega) (by simpa using h2))
      have step : ∀ (b1 : Bool) (r : Bool), eqK xs cs ds = some r → (Op.equalIn (d + 1) f.type us[k] vs[k]).run P w = .ok b1 w → b = (b1 && r) →
        (Op.eqFields (d+1) us.toArray vs.toArray (f :: fs)).run P w = .ok b w:=by
       intro b1 r hr h1 hb
       simp only[Op.eqFields,if_pos hn,Sem.run_bind,ho,zsz hx gu,zsz hx gv,Result.andThen_ok,h1]
       cases b1
       ·simp[hb]
       ·simp only[Bool.not_true,Bool.false_eq_true,if_false]
        rw[ih r hr,hb]; rfl
      generalize us[k]=u at ru step
      generalize vs[k]=v at rv step
      unfold bkOf at hx
      cases ru with
      | val _ _ =>
       cases rv with
       | val _ _ =>
        cases x<;>cases u<;>(try simp only[eqK] at he)<;>try (cases he; done)
        case i.int ki a =>
         cases v<;>simp only[eqK] at he<;>try (cases he; done)
         rename_i ki' b0
         split at he
         ·rename_i hkk
          subst hkk
          split at he
          ·rename_i r hr
           simp only[Option.some.injEq] at he
           split at hx
           ·rename_i kk hut
            refine step _ r hr (run_equalIn_int w d f.type _ kk _ _ hut) ?_
            rw[←he]; rfl
           ·cases hx
           ·cases hx
           ·cases hx
          ·cases he
         ·cases he
        case s.string a =>
         cases v<;>simp only[eqK] at he<;>try (cases he; done)
         rename_i b0
         split at he
         ·rename_i r hr
          simp only[Option.some.injEq] at he
          split at hx
          ·cases hx
          ·rename_i hut
           refine step _ r hr (run_equalIn_string w d f.type _ _ hut) ?_
           rw[←he,zqs]
          ·cases hx
          ·cases hx
         ·cases he
        case b.bool a =>
         cases v<;>simp only[eqK] at he<;>try (cases he; done)
         rename_i b0
         split at he
         ·rename_i r hr
          simp only[Option.some.injEq] at he
          split at hx
          ·cases hx
          ·cases hx
          ·rename_i hut
           exact step _ r hr (run_equalIn_bool w d f.type _ _ hut) he.symm
          ·cases hx
         ·cases he
       | _=>cases x<;>cases u<;>simp[eqK] at he
      | _=>cases x<;>simp[eqK] at he
   ·cases h
  ·cases h

theorem zo1 {t : TypeId} {ks : List BK} {cs ds : List PV} {b : Bool} (h : structK P t = some ks) (he : eqK ks cs ds = some b) {us vs : List Value} (hl : us.length = cs.length) (hl' : vs.length = ds.length)
  (hu:∀ (j:Nat) u c,us[j]? = some u→cs[j]? = some c→VR I u c) (hv:∀ (j:Nat) u c,vs[j]? = some u→ds[j]? = some c→VR I u c) (w:World) :
  (Op.equalIn 10000 t (.agg us.toArray) (.agg vs.toArray)).run P w = .ok b w∧P.eqGuardType P.depth t=false:=by
 unfold structK at h
 split at h
 ·rename_i fs hut
  split at h
  ·rename_i hc
   have hf:P.fieldsOf t=fs:=by unfold Program.fieldsOf; rw[hut]
   refine⟨?_,hc.2⟩
   rw[show (10000:Nat)=9999+1 from rfl,run_equalIn_struct w 9999 t us.toArray vs.toArray (by rw[hf]; exact hut) hc.1,hf]
   exact zr3 fs.toList 0 ks cs ds b us vs 9998 w h he (by omega) (by omega) (fun j u c h1 h2=>hu j u c (by simpa using h1) h2) (fun j u c h1 h2=>hv j u c (by simpa using h1) h2)
  ·cases h
 ·cases h
end Go.Abs
namespace Go.Abs
open Go.RowKit

variable {P:Program} {I:Mem} {L:zbl}

theorem VR.of_val {u v:Value} (h:VR I u (.val v)):u=v∧v.oneCell'=true:=by cases h; exact⟨rfl,by assumption⟩
theorem AVR.of_val {u v:Value} (h:AVR I L u (.p (.val v))):u=v∧v.oneCell'=true:=h.of_p.of_val

theorem VR.lst_some {u:Value} {es:List (List PV)} (h:VR I u (.lst es)) (hne:es≠[]):∃a n c,u = .slice (some a) n c:=by
  cases h with
  | lst ao n cap _ us sz hn hsz hl hv hone hm hnil hcap =>
    cases ao with
    | none =>
      have:=(hnil rfl).1
      exact absurd (List.length_eq_zero_iff.1 (hn.trans this)) hne
    | some a=>exact⟨a,n,cap,rfl⟩

def isSlice (P:Program) (t:TypeId):Bool:=match P.underlying t with | some (.slice _)=>true | _=>false

def binX (P:Program) (op:BinOp) (t:TypeId) (a b:AV):Option (Prop×AV):=match a,b with
  | .p (.val x),.p (.val y)=>match binV P op t x y with
    | some (pre,v)=>some (pre,.p (.val v))
    | none=>none
  | .p (.lst es),.p (.val (.slice none 0 0))=>match op,isSlice P t with
    | .eql,true=>some (es≠[],.p (.val (.bool false)))
    | .neq,true=>some (es≠[],.p (.val (.bool true)))
    | _,_=>none
  | .p (.agg cs),.p (.agg ds)=>match structK P t with
    | some ks=>match op,eqK ks cs ds with
      | .eql,some b=>some (True,.p (.val (.bool b)))
      | .neq,some b=>some (True,.p (.val (.bool !b)))
      | _,_=>none
    | none=>none
  | _,_=>none

theorem z4q {op : BinOp} {t : TypeId} {a b v : AV} {pre : Prop} (h : binX P op t a b = some (pre, v)) (hp : pre) {x y : Value} (hx : AVR I L x a) (hy : AVR I L y b) (w : World) (ox oy : Operand) :
    ∃r,(do eqGuard op t ox oy x y; binOp op t x y:Sem Value).run P w = .ok r w∧AVR I L r v:=by
  unfold binX at h
  split at h
  · split at h
    · rename_i hb
      simp only[Option.some.injEq,Prod.mk.injEq] at h
      obtain⟨h1,h2⟩:=h
      subst h1 h2
      obtain⟨rfl,_⟩:=hx.of_val
      obtain⟨rfl,_⟩:=hy.of_val
      obtain⟨hr,h1⟩:=z4w hb hp w ox oy
      exact⟨_,hr,.p _ _ (.val _ h1)⟩
    · cases h
  · rename_i es
    have hs:∀ {t},isSlice P t=true→∃e,P.underlying t=some (.slice e):=fun {t} h=>by
      unfold isSlice at h; split at h
      · rename_i e he; exact⟨e,he⟩
      · cases h
    split at h
    · rename_i hsl
      simp only[Option.some.injEq,Prod.mk.injEq] at h
      obtain⟨h1,h2⟩:=h
      subst h1 h2
      obtain⟨e,he⟩:=hs hsl
      obtain⟨aa,n,c,rfl⟩:=hx.of_p.lst_some hp
      obtain⟨rfl,_⟩:=hy.of_val
      exact⟨.bool false,by simp[eqGuard,binOp,zmf he _ _ _ _ _ _ (.inr rfl)],.p _ _ (.val _ rfl)⟩
    · rename_i hsl
      simp only[Option.some.injEq,Prod.mk.injEq] at h
      obtain⟨h1,h2⟩:=h
      subst h1 h2
      obtain⟨e,he⟩:=hs hsl
      obtain⟨aa,n,c,rfl⟩:=hx.of_p.lst_some hp
      obtain⟨rfl,_⟩:=hy.of_val
      exact⟨.bool true,by simp[eqGuard,binOp,zmf he _ _ _ _ _ _ (.inr rfl)],.p _ _ (.val _ rfl)⟩
    · cases h
  · rename_i cs ds
    split at h
    · rename_i ks hks
      split at h
      · rename_i b hb
        simp only[Option.some.injEq,Prod.mk.injEq] at h
        obtain⟨h1,h2⟩:=h
        subst h1 h2
        cases hx.of_p with
        | agg us _ hl hv hone =>
          cases hy.of_p with
          | agg vs _ hl' hv' hone' =>
            obtain⟨q1,q2⟩:=zo1 hks hb hl hl' hv hv' w
            refine⟨.bool b,?_,.p _ _ (.val _ rfl)⟩
            rw[Sem.run_bind,run_eqGuard_agg w .eql t ox oy _ _ q2,Result.andThen_ok,run_eql_struct,q1]
            rfl
      · rename_i b hb
        simp only[Option.some.injEq,Prod.mk.injEq] at h
        obtain⟨h1,h2⟩:=h
        subst h1 h2
        cases hx.of_p with
        | agg us _ hl hv hone =>
          cases hy.of_p with
          | agg vs _ hl' hv' hone' =>
            obtain⟨q1,q2⟩:=zo1 hks hb hl hl' hv hv' w
            refine⟨.bool !b,?_,.p _ _ (.val _ rfl)⟩
            rw[Sem.run_bind,run_eqGuard_agg w .neq t ox oy _ _ q2,Result.andThen_ok,run_neq_struct,q1]
            rfl
      · cases h
    · cases h
  · cases h

def unX (op:UnOp) (a:AV):Option (Prop×AV):=match op,a with
  | .not,.p (.val (.bool b))=>some (True,.p (.val (.bool !b)))
  | .neg,.p (.val (.int k n))=>some (True,.p (.val (.int k (k.wrap (0 - n)))))
  | _,_=>none

theorem z6b {op : UnOp} {a v : AV} {pre : Prop} (h : unX op a = some (pre, v)) {x : Value} (hx : AVR I L x a) (w : World) :
    ∃r,(Op.unary op x).run P w = .ok r w∧AVR I L r v:=by
  unfold unX at h
  split at h<;>first
    | (cases h; done)
    | (simp only [Option.some.injEq, Prod.mk.injEq] at h
       obtain⟨_,h2⟩:=h
       subst h2
       obtain⟨rfl,_⟩:=hx.of_val
       exact⟨_,by simp[Op.unary,Op.intArith],.p _ _ (.val _ rfl)⟩)

def convX (P:Program) (s d:TypeId) (a:AV):Option (Prop×AV):=match (P.underlying s).isSome,a with
  | true,.p (.val (.int _ n))=>match tyInt P d with
    | some k=>some (True,.p (.val (.int k (k.wrap n))))
    | none=>none
  | true,.p (.val (.string x))=>match tyStr P d with
    | true=>some (True,.p (.val (.string x)))
    | false=>none
  | _,_=>none

theorem z0t {s d : TypeId} {a v : AV} {pre : Prop} (h : convX P s d a = some (pre, v)) {x : Value} (hx : AVR I L x a) (w : World) :
    ∃r,(convert s d x).run P w = .ok r w∧AVR I L r v:=by
  unfold convX at h
  split at h
  · rename_i k0 n hs
    obtain⟨ds,hds⟩:=Option.isSome_iff_exists.1 hs
    unfold tyInt at h
    split at h
    · rename_i k hk
      simp only[Option.some.injEq,Prod.mk.injEq] at h
      obtain⟨_,h2⟩:=h
      subst h2
      obtain⟨rfl,_⟩:=hx.of_val
      have hd:P.underlying d=some (.int k):=by split at hk<;>simp_all
      refine⟨_,?_,.p _ _ (.val _ rfl)⟩
      simp[convert,run_underlying hds,run_underlying hd,Conv.intToInt]
    · cases h
  · rename_i x0 hs
    obtain⟨ds,hds⟩:=Option.isSome_iff_exists.1 hs
    unfold tyStr at h
    split at h
    · rename_i hk
      simp only[Option.some.injEq,Prod.mk.injEq] at h
      obtain⟨_,h2⟩:=h
      subst h2
      obtain⟨rfl,_⟩:=hx.of_val
      have hd:P.underlying d=some .string:=by split at hk<;>simp_all
      refine⟨_,?_,.p _ _ (.val _ rfl)⟩
      simp[convert,run_underlying hds,run_underlying hd]
    · cases h
  · cases h

def pickX (c a b:AV):Option (Prop×AV):=match c with
  | .p (.val (.bool true))=>some (True,a)
  | .p (.val (.bool false))=>some (True,b)
  | _=>none

def extractX (a:AV) (k:Nat):Option (Prop×AV):=match a with
  | .p (.tup vs)=>match vs[k]? with | some x=>some (True,.p x) | none=>none
  | .tup vs=>match vs[k]? with | some x=>some (True,x) | none=>none
  | _=>none

theorem zu7 {a v : AV} {k : Nat} {pre : Prop} (h : extractX a k = some (pre, v)) {x : Value} (hx : AVR I L x a) (w : World) :
    ∃r,(Instr.extract x k).run P w = .ok r w∧AVR I L r v:=by
  unfold extractX at h
  split at h
  · rename_i vs
    split at h
    · rename_i y hy
      simp only[Option.some.injEq,Prod.mk.injEq] at h
      obtain⟨_,h2⟩:=h
      subst h2
      cases hx.of_p with
      | tup us _ hl hv =>
        have hlt:k<us.length:=by rw[hl]; exact (List.getElem?_eq_some_iff.1 hy).1
        refine⟨us[k],?_,.p _ _ (hv k _ _ (by simp) hy)⟩
        simp[Instr.extract,hlt]
    · cases h
  · rename_i vs
    split at h
    · rename_i y hy
      simp only[Option.some.injEq,Prod.mk.injEq] at h
      obtain⟨_,h2⟩:=h
      subst h2
      cases hx with
      | tup us _ hl hv =>
        have hlt:k<us.length:=by rw[hl]; exact (List.getElem?_eq_some_iff.1 hy).1
        refine⟨us[k],?_,hv k _ _ (by simp) hy⟩
        simp[Instr.extract,hlt]
    · cases h
  · cases h

def loadP (P:Program) (t:TypeId) (a:AV):Option (Prop×AV):=match a with
  | .p (.eptr cs off)=>match readP P t cs off with | some x=>some (True,.p x) | none=>none
  | _=>none

theorem z0e {t : TypeId} {a v : AV} {pre : Prop} (h : loadP P t a = some (pre, v)) {x : Value} (hx : AVR I L x a) {w : World} (hw : I.inW w) :
    ∃r,(Instr.loadAt t x).run P w = .ok r w∧AVR I L r v:=by
  unfold loadP at h
  split at h
  · rename_i cs off
    split at h
    · rename_i y hy
      simp only[Option.some.injEq,Prod.mk.injEq] at h
      obtain⟨_,h2⟩:=h
      subst h2
      cases hx.of_p with
      | eptr b base _ us _ hl hv hone hm =>
        obtain⟨u,hr,hu⟩:=zv3 (I:=I) (w:=w) (b:=b) (base:=base) hy hl hv hone fun j u hj=>hw _ _ _ (hm j u hj)
        exact⟨u,by simp[Instr.loadAt,Instr.sureAddr,hr],.p _ _ hu⟩
    · cases h
  · cases h

def fieldP (P:Program) (s:TypeId) (a:AV) (k:Nat):Option (Prop×AV):=match fldOff P s k with
  | some (o,n)=>match a with
    | .p (.eptr cs off)=>some (n≠0,.p (.eptr cs (off+o)))
    | .ptr id off=>some (n≠0,.ptr id (off+o))
    | _=>none
  | none=>none

theorem zz6 {s:TypeId} {k o n:Nat} (h:fldOff P s k=some (o,n)):∃fs f i,P.underlying s=some (.struct fs)∧fs[k]? = some f∧P.info? f.type=some i∧i.size=n∧f.offset=o:=by
  unfold fldOff at h
  split at h
  · rename_i fs hfs
    cases hf:fs[k]? with
    | none=>simp[hf] at h
    | some f =>
      cases hi:P.info? f.type with
      | none=>simp[hf,tySize,hi] at h
      | some i =>
        simp[hf,tySize,hi] at h
        exact⟨fs,f,i,hfs,hf,hi,h.2,h.1⟩
  · cases h

theorem zof {s : TypeId} {k o n : Nat} (h : fldOff P s k = some (o, n)) (hn : n ≠ 0) (w : World) (b off : Nat) :
    (Instr.fieldAt s (.pointer (some ⟨b,off,none⟩)) k).run P w = .ok (.pointer (some ⟨b,off+o,none⟩)) w:=by
  obtain⟨fs,f,i,h1,h2,h3,h4,h5⟩:=zz6 h
  have hne:i.size≠0:=by rw[h4]; exact hn
  have hlt:=(Array.getElem?_eq_some_iff.1 h2)
  obtain⟨hlt,hfe⟩:=hlt
  simp[Instr.fieldAt,run_underlying h1,h2,Instr.sureAddr,fieldPlace,sizeOf,typeInfo,h3,hne,Addr.add_mid,h5]

theorem zzu {s : TypeId} {k : Nat} {a v : AV} {pre : Prop} (h : fieldP P s a k = some (pre, v)) (hp : pre) {x : Value} (hx : AVR I L x a) (w : World) :
    ∃r,(Instr.fieldAt s x k).run P w = .ok r w∧AVR I L r v:=by
  unfold fieldP at h
  split at h
  · rename_i o n hf
    split at h
    · simp only[Option.some.injEq,Prod.mk.injEq] at h
      obtain⟨h1,h2⟩:=h
      subst h1 h2
      cases hx.of_p with
      | eptr b base _ us _ hl hv hone hm =>
        refine⟨_,zof hf hp w _ _,.p _ _ ?_⟩
        rw[Nat.add_assoc]
        exact .eptr b base _ us _ hl hv hone hm
    · simp only[Option.some.injEq,Prod.mk.injEq] at h
      obtain⟨h1,h2⟩:=h
      subst h1 h2
      cases hx with
      | ptr id b off hl=>exact⟨_,zof hf hp w _ _,.ptr _ _ _ hl⟩
    · cases h
  · cases h

def indexP (P:Program) (t:TypeId) (a i:AV):Option (Prop×AV):=match i with
  | .p (.val (.int _ n))=>match a with
    | .p (.lst es)=>match slElem P t with
      | some e=>match tySize P e with
        | some sz=>some ((0≤n∧n<es.length)∧(es.getD n.toNat []).length=sz∧0<sz,.p (.eptr (es.getD n.toNat []) 0))
        | none=>none
      | none=>none
    | .p (.eptr cs off)=>match arrOf P t with
      | some (len,e)=>match tySize P e with
        | some sz=>some (0≤n∧n<len,.p (.eptr cs (off+n.toNat * sz)))
        | none=>none
      | none=>none
    | .ptr id off=>match arrOf P t with
      | some (len,e)=>match tySize P e with
        | some sz=>some (0≤n∧n<len,.ptr id (off+n.toNat * sz))
        | none=>none
      | none=>none
    | _=>none
  | _=>none

theorem ze2 {t e:TypeId} (h:slElem P t=some e):P.underlying t=some (.slice e):=by
  unfold slElem at h; split at h<;>simp_all

theorem zp3 {t e:TypeId} {n:Nat} (h:arrOf P t=some (n,e)):P.underlying t=some (.array n e):=by
  unfold arrOf at h; split at h<;>simp_all

theorem z1h {t:TypeId} {n:Nat} (h:tySize P t=some n):∃i,P.info? t=some i∧i.size=n:=by
  unfold tySize at h
  cases hi:P.info? t with
  | none=>simp[hi] at h
  | some i=>exact⟨i,rfl,by simpa[hi] using h⟩

theorem zde {t:TypeId} {n:Nat} (h:tySize P t=some n) (w:World):(sizeOf t).run P w = .ok n w:=by
  obtain⟨i,hi,hn⟩:=z1h h
  simp[sizeOf,typeInfo,hi,hn]

theorem zi4 {α:Type} {sz:Nat} : ∀ {es:List (List α)} (_:∀e∈es,e.length=sz) (i j:Nat) (_:i<es.length) (_:j<sz),es.flatten[i * sz+j]? = (es.getD i [])[j]?
  | [],_,i,j,hi,_=>by simp at hi
  | e :: es,h,0,j,_,hj=>by
    have he:=h e (by simp)
    simp only[List.flatten_cons,Nat.zero_mul,Nat.zero_add]
    rw[List.getElem?_append_left (by omega)]
    rfl
  | e :: es,h,i+1,j,hi,hj=>by
    have he:=h e (by simp)
    simp only[List.flatten_cons]
    have:(i+1) * sz+j=e.length+(i * sz+j):=by rw[he,Nat.add_mul]; omega
    rw[this,List.getElem?_append_right (by omega)]
    have e2:e.length+(i * sz+j) - e.length=i * sz+j:=by omega
    rw[e2,zi4 (fun x hx=>h x (by simp[hx])) i j (by simpa using hi) hj]
    rfl

theorem zb8 {α:Type} {sz:Nat} : ∀ {es:List (List α)} (_:∀e∈es,e.length=sz),es.flatten.length=es.length * sz
  | [],_=>by simp
  | e :: es,h=>by
    have he:=h e (by simp)
    rw[List.flatten_cons,List.length_append,zb8 (fun x hx=>h x (by simp[hx])),he,List.length_cons,Nat.add_mul]
    omega

theorem VR.elem {u : Value} {es : List (List PV)} (h : VR I u (.lst es)) {n : Nat} (hn : n < es.length) (hpos : 0 < (es.getD n []).length) :
    ∃b off len cap sz,u = .slice (some ⟨b,off,none⟩) len cap∧len=es.length∧(es.getD n []).length=sz∧∃us:List Value,us.length=sz ∧
      (∀ (j:Nat) u c,us[j]? = some u→(es.getD n [])[j]? = some c→VR I u c)∧(∀u∈us,u.oneCell'=true)∧∀ (j:Nat) u,us[j]? = some u→I b (off+n * sz+j)=some u:=by
  cases h with
  | lst ao len cap _ us sz hlen hsz hl hv hone hm hnil hcap =>
    have hmem:es.getD n []∈es:=by
      have:es.getD n []=es[n]:=by simp[hn]
      rw[this]; exact List.getElem_mem _
    have hs:(es.getD n []).length=sz:=hsz _ hmem
    have hfl:=zb8 hsz
    have hmul:(n+1) * sz≤es.length * sz:=Nat.mul_le_mul_right _ hn
    have hmul':(n+1) * sz=n * sz+sz:=by rw[Nat.add_mul]; omega
    rcases hm with rfl | ⟨b,off,rfl,hI⟩
    · have h0:es.flatten.length=0:=by rw[←hl]; rfl
      omega
    · refine⟨b,off,len,cap,sz,rfl,hlen.symm,hs,(us.drop (n * sz)).take sz,by simp; omega,?_,?_,?_⟩
      · intro j u c hu hc
        rw[List.getElem?_take] at hu
        split at hu
        · rename_i hj
          rw[List.getElem?_drop] at hu
          exact hv _ u c hu (by rw[zi4 hsz n j hn hj]; exact hc)
        · cases hu
      · intro u hu
        exact hone u (List.mem_of_mem_drop (List.mem_of_mem_take hu))
      · intro j u hu
        rw[List.getElem?_take] at hu
        split at hu
        · rw[List.getElem?_drop] at hu
          have:=hI _ u hu
          rw[Nat.add_assoc]; exact this
        · cases hu

theorem VR.lst_len {u:Value} {es:List (List PV)} (h:VR I u (.lst es)):∃ao cap,u = .slice ao es.length cap∧es.length≤cap:=by
  cases h with
  | lst ao len cap _ us sz hlen hsz hl hv hone hm hnil hcap=>exact⟨ao,cap,by rw[hlen],by omega⟩

theorem zzx {t : TypeId} {a i v : AV} {pre : Prop} (h : indexP P t a i = some (pre, v)) (hp : pre) {x y : Value} (hx : AVR I L x a) (hy : AVR I L y i) (w : World) :
    ∃r,(Instr.indexAt t x y).run P w = .ok r w∧AVR I L r v:=by
  unfold indexP at h
  split at h
  · rename_i k n
    obtain⟨rfl,_⟩:=hy.of_val
    split at h
    · rename_i es
      split at h
      · rename_i e he
        split at h
        · rename_i sz hsz
          simp only[Option.some.injEq,Prod.mk.injEq] at h
          obtain⟨h1,h2⟩:=h
          subst h1 h2
          obtain⟨⟨h0,hlt⟩,hlen,hpos⟩:=hp
          obtain⟨m,rfl⟩:=Int.eq_ofNat_of_zero_le h0
          simp only[Int.toNat_natCast] at hlen ⊢
          have hm:m<es.length:=by omega
          obtain⟨b,off,len,cap,sz',rfl,rfl,hs,us,hu1,hu2,hu3,hu4⟩:=hx.of_p.elem hm (by omega)
          have e1:sz'=sz:=by omega
          subst e1
          refine⟨.pointer (some ⟨b,off+m * sz',none⟩),?_,.p _ _ ?_⟩
          · have hlt':(m:Int)<es.length:=hlt
            simp[Instr.indexAt,asIntOf,run_underlying (ze2 he),zde hsz,Addr.add_mid,hm]
          · have:=VR.eptr (I:=I) b (off+m * sz') (es.getD m []) us 0 (by omega) hu2 hu3 hu4
            simpa using this
        · cases h
      · cases h
    · rename_i cs off
      split at h
      · rename_i len e he
        split at h
        · rename_i sz hsz
          simp only[Option.some.injEq,Prod.mk.injEq] at h
          obtain⟨h1,h2⟩:=h
          subst h1 h2
          obtain⟨h0,hlt⟩:=hp
          obtain⟨m,rfl⟩:=Int.eq_ofNat_of_zero_le h0
          have hm:m<len:=by omega
          cases hx.of_p with
          | eptr b base _ us _ hl hv hone hmm =>
            refine⟨.pointer (some ⟨b,base+(off+m * sz),none⟩),?_,.p _ _ (.eptr b base _ us _ hl hv hone hmm)⟩
            simp[Instr.indexAt,asIntOf,run_underlying (zp3 he),Instr.sureAddr,zde hsz,Addr.add_mid,hm,Nat.add_assoc]
        · cases h
      · cases h
    · rename_i id off
      split at h
      · rename_i len e he
        split at h
        · rename_i sz hsz
          simp only[Option.some.injEq,Prod.mk.injEq] at h
          obtain⟨h1,h2⟩:=h
          subst h1 h2
          obtain⟨h0,hlt⟩:=hp
          obtain⟨m,rfl⟩:=Int.eq_ofNat_of_zero_le h0
          have hm:m<len:=by omega
          cases hx with
          | ptr id b off hl =>
            refine⟨.pointer (some ⟨b,off+m * sz,none⟩),?_,.ptr _ _ _ hl⟩
            simp[Instr.indexAt,asIntOf,run_underlying (zp3 he),Instr.sureAddr,zde hsz,Addr.add_mid,hm]
        · cases h
      · cases h
    · cases h
  · cases h

end Go.Abs
namespace Go.Abs
open Go.RowKit

variable {P:Program} {I:Mem} {L:zbl}

def sbyte (s:ByteArray) (n:Nat):Int:=((s.data.toList.getD n 0).toNat:Int)

def idxX (P:Program) (t:TypeId) (a i:AV):Option (Prop×AV):=match i with
 | .p (.val (.int _ n))=>match a with
  | .p (.val (.string s))=>match tyStr P t with
   | true=>some (0≤n∧n<s.size,.p (.val (.int .u8 (sbyte s n.toNat))))
   | false=>none
  | .p (.agg cs)=>match arrOf P t with
   | some (len,e)=>match tyAgg P e,tySize P e,cs[n.toNat]? with
    | some false,some 1,some x=>some (0≤n∧n<len,.p x)
    | _,_,_=>none
   | none=>none
  | _=>none
 | _=>none

theorem zqg {t:TypeId} (h:tyStr P t=true):P.underlying t=some .string:=by
 unfold tyStr at h; split at h<;>simp_all

theorem z3f {t : TypeId} {a i v : AV} {pre : Prop} (h : idxX P t a i = some (pre, v)) (hp : pre) {x y : Value} (hx : AVR I L x a) (hy : AVR I L y i) (w : World) :
  ∃r,(Instr.index t x y).run P w = .ok r w∧AVR I L r v:=by
 unfold idxX at h
 split at h
 ·rename_i k n
  obtain⟨rfl,_⟩:=hy.of_val
  split at h
  ·rename_i s
   split at h
   ·rename_i hs
    simp only[Option.some.injEq,Prod.mk.injEq] at h
    obtain⟨h1,h2⟩:=h
    subst h1 h2
    obtain⟨rfl,_⟩:=hx.of_val
    obtain⟨h0,hlt⟩:=hp
    obtain⟨m,rfl⟩:=Int.eq_ofNat_of_zero_le h0
    have hm:m<s.size:=by omega
    refine⟨_,?_,.p _ _ (.val _ rfl)⟩
    have hb:s[m]? = some s[m]:=by simp[hm]
    have hg:(s.data.toList.getD m 0)=s[m]:=by
     have hm':m<s.data.toList.length:=by simpa using hm
     rw[List.getD_eq_getElem?_getD,List.getElem?_eq_getElem hm']
     rfl
    simp only[sbyte,Int.toNat_natCast,hg]
    simp[Instr.index,asIntOf,run_underlying (zqg hs),hm]
   ·cases h
  ·rename_i cs
   split at h
   ·rename_i len e he
    split at h
    ·rename_i x' hg hsz hc
     simp only[Option.some.injEq,Prod.mk.injEq] at h
     obtain⟨h1,h2⟩:=h
     subst h1 h2
     obtain⟨h0,hlt⟩:=hp
     obtain⟨m,rfl⟩:=Int.eq_ofNat_of_zero_le h0
     simp only[Int.toNat_natCast] at hc
     have hm:m<len:=by omega
     obtain⟨d,hu,hd⟩:=zpm hg
     cases hx.of_p with
     | agg us _ hl hv hone =>
      have hlt2:m<us.length:=by rw[hl]; exact (List.getElem?_eq_some_iff.1 hc).1
      refine⟨us[m],?_,.p _ _ (hv m _ _ (by simp) hc)⟩
      have hagg:(isAgg e).run P w = .ok false w:=by
       unfold isAgg
       rw[Sem.run_bind,run_underlying hu w]
       cases d<;>simp_all
      simp[Instr.index,asIntOf,run_underlying (zp3 he),zde hsz,hm,part,hagg,hlt2]
    ·cases h
   ·cases h
  ·cases h
 ·cases h

def mkClo (fn:Fn) (fs cs:List AV):AV:=match allP fs,allP cs with
 | some f,some c=>.p (.clo fn f c)
 | _,_=>.clo fn fs cs

theorem zpt {us : List Value} {ps : List PV} (hv : ∀ (j : Nat) u c, us[j]? = some u → (ps.map AV.p)[j]? = some c → AVR I L u c) :
  ∀ (j:Nat) u c,us[j]? = some u→ps[j]? = some c→VR I u c:=fun j u c hu hc =>
 (hv j u (.p c) hu (by rw[List.getElem?_map,hc]; rfl)).of_p

theorem z0f {fn : Fn} {us vs : List Value} {fs cs : List AV} (hl : us.length = fs.length) (hl' : vs.length = cs.length)
  (hv:∀ (j:Nat) u c,us[j]? = some u→fs[j]? = some c→AVR I L u c) (hv':∀ (j:Nat) u c,vs[j]? = some u→cs[j]? = some c→AVR I L u c) :
  AVR I L (.func fn us.toArray vs.toArray) (mkClo fn fs cs):=by
 unfold mkClo
 split
 ·rename_i f c hf hc
  have e1:=zks hf
  have e2:=zks hc
  subst e1 e2
  exact .p _ _ (.clo fn us vs f c (by simpa using hl) (by simpa using hl') (zpt hv) (zpt hv'))
 ·exact .clo fn us vs fs cs hl hl' hv hv'

def nilX (a:AV):Option (Prop×AV):=match a with
 | .ptr id off=>some (True,.ptr id off)
 | .p (.eptr cs off)=>some (True,.p (.eptr cs off))
 | .p (.clo (.func f) fs cs)=>some (True,.p (.clo (.func f) fs cs))
 | .clo (.func f) fs cs=>some (True,.clo (.func f) fs cs)
 | _=>none

def bnd (d:Int):Option AV→Option Int
 | none=>some d
 | some (.p (.val (.int _ n)))=>some n
 | _=>none

def slice3 (P:Program) (t:TypeId) (a:AV) (lo hi:Option AV) (m:AV):Option (Prop×AV):=match a,hi,m with
 | .p (.lst es), some (.p (.val (.int _ h))), .p (.val (.int _ m)) => match slElem P t, bnd 0 lo with
   | some e,some l=>match tySize P e with
    | some sz=>some ((0≤l∧l≤h∧h≤m∧m≤es.length)∧∀x∈es,x.length=sz,.p (.lst ((es.take h.toNat).drop l.toNat)))
    | none=>none
   | _,_=>none
 | _,_,_=>none
def sliceX (P:Program) (t:TypeId) (a:AV) (lo hi mx:Option AV):Option (Prop×AV):=match mx with
 | some m=>slice3 P t a lo hi m
 | none=>match a with
  | .p (.val (.string s))=>match tyStr P t,bnd 0 lo,bnd s.size hi with
   | true,some l,some h=>some (0≤l∧l≤h∧h≤s.size,.p (.val (.string (s.extract l.toNat h.toNat))))
   | _,_,_=>none
  | .p (.lst es)=>match slElem P t,bnd 0 lo,bnd es.length hi with
   | some e,some l,some h=>match tySize P e with
    | some sz=>some ((0≤l∧l≤h∧h≤es.length)∧∀x∈es,x.length=sz,.p (.lst ((es.take h.toNat).drop l.toNat)))
    | none=>none
   | _,_,_=>none
  | _=>none

def OptR (I:Mem) (L:zbl):Option Value→Option AV→Prop
 | none,none=>True
 | some u,some v=>AVR I L u v
 | _,_=>False

theorem zo6 {d y : Int} {a : Option AV} {x : Option Value} (h : bnd d a = some y) (hx : OptR I L x a) :
  (x=none∧y=d)∨(∃k,x=some (.int k y)):=by
 cases a with
 | none =>
  cases x with
  | none=>simp[bnd] at h; exact .inl ⟨rfl,h.symm⟩
  | some u=>exact hx.elim
 | some v =>
  cases x with
  | none=>exact hx.elim
  | some u =>
   unfold bnd at h
   split at h
   ·rename_i heq; cases heq
   ·rename_i k n heq
    cases heq
    simp at h; subst h
    exact .inr ⟨k,by rw[(AVR.of_val hx).1]⟩
   ·cases h

theorem zdq {k:IntKind} {i:Int} {y:Nat} {c:BoundsCode} (h0:0≤i) (h:i≤y) (w:World):(Instr.sliceBound (.int k i) y c).run P w = .ok i.toNat w:=by
 simp[Instr.sliceBound,asIntOf,h0,h]

theorem zoc {isS : Bool} {len cap : Nat} {lo hi : Option Value} {l h : Int} (hlo : (lo = none ∧ l = 0) ∨ ∃ k, lo = some (.int k l)) (hhi : (hi = none ∧ h = len) ∨ ∃ k, hi = some (.int k h))
  (h0:0≤l) (h1:l≤h) (h2:h≤cap) (w:World):(Instr.sliceBounds isS len cap lo hi none).run P w = .ok (l.toNat,h.toNat,cap) w:=by
 have hl:l≤(h.toNat:Int):=by omega
 have hh0:0≤h:=by omega
 rcases hlo with ⟨rfl,rfl⟩ | ⟨k,rfl⟩<;>rcases hhi with ⟨rfl,rfl⟩ | ⟨k',rfl⟩
 ·simp[Instr.sliceBounds]
 ·simp[Instr.sliceBounds,zdq (P:=P) hh0 h2]
 ·simp only[Int.toNat_natCast] at hl
  simp[Instr.sliceBounds,zdq (P:=P) h0 hl]
 ·simp[Instr.sliceBounds,zdq (P:=P) h0 hl,zdq (P:=P) hh0 h2]

theorem zq8 {α:Type} {sz:Nat} : ∀ {es:List (List α)} (_:∀e∈es,e.length=sz) (k:Nat),(es.take k).flatten=es.flatten.take (k * sz)
 | [],_,k=>by simp
 | e :: es,_,0=>by simp
 | e :: es,h,k+1=>by
  have he:=h e (by simp)
  have hm:(k+1) * sz=e.length+k * sz:=by rw[he,Nat.add_mul]; omega
  rw[List.take_succ_cons,List.flatten_cons,List.flatten_cons,zq8 (fun x hx=>h x (by simp[hx])) k,hm,List.take_length_add_append]

theorem zr1 {α:Type} {sz:Nat} : ∀ {es:List (List α)} (_:∀e∈es,e.length=sz) (k:Nat),(es.drop k).flatten=es.flatten.drop (k * sz)
 | [],_,k=>by simp
 | e :: es,_,0=>by simp
 | e :: es,h,k+1=>by
  have he:=h e (by simp)
  have hm:(k+1) * sz=e.length+k * sz:=by rw[he,Nat.add_mul]; omega
  rw[List.drop_succ_cons,List.flatten_cons,zr1 (fun x hx=>h x (by simp[hx])) k,hm,List.drop_length_add_append]

theorem VR.partM {u : Value} {es : List (List PV)} (h : VR I u (.lst es)) {sz l k : Nat} (hsz : ∀ e ∈ es, e.length = sz) (hlk : l ≤ k) (hk : k ≤ es.length) :
  ∃ao cap,u = .slice ao es.length cap∧es.length≤cap∧∀m,k≤m→m≤cap→VR I (.slice (if m=l then ao else ao.map (·.add (l * sz))) (k - l) (m - l)) (.lst ((es.take k).drop l)):=by
 cases h with
 | lst ao n cap _ us sz' hn hsz' hl hv hone hm hnil hcap =>
  refine⟨ao,cap,by rw[hn],by omega,fun m hkm hmc=>?_⟩
  have hlen:((es.take k).drop l).length=k - l:=by simp; omega
  have hmem:∀e∈(es.take k).drop l,e.length=sz:=fun e he=>hsz e (List.mem_of_mem_take (List.mem_of_mem_drop he))
  have hfl:((es.take k).drop l).flatten=(es.flatten.take (k * sz)).drop (l * sz):=by
   rw[zr1 (fun e he=>hsz e (List.mem_of_mem_take he)),zq8 hsz]
  refine .lst _ _ _ _ ((us.take (k * sz)).drop (l * sz)) sz hlen hmem ?_ ?_ ?_ ?_ ?_ ?_
  ·rw[hfl,List.length_drop,List.length_take,List.length_drop,List.length_take,hl]
  ·intro j u c hu hc
   rw[hfl] at hc
   rw[List.getElem?_drop,List.getElem?_take] at hu hc
   split at hu
   ·rename_i hj
    rw[if_pos hj] at hc
    exact hv _ u c hu hc
   ·cases hu
  ·intro u hu
   exact hone u (List.mem_of_mem_take (List.mem_of_mem_drop hu))
  ·rcases hm with rfl | ⟨b,off,rfl,hI⟩
   ·left; simp
   ·by_cases hc:m=l
    ·left
     have:k=l:=by omega
     subst this
     simp
    ·right
     refine⟨b,off+l * sz,by simp[hc,Addr.add_mid],fun j u hu=>?_⟩
     rw[List.getElem?_drop,List.getElem?_take] at hu
     split at hu
     ·have:=hI _ u hu
      rw[Nat.add_assoc]; exact this
     ·cases hu
  ·intro h
   have:ao=none:=by
    split at h
    ·exact h
    ·simpa using h
   have:=hnil this
   omega
  ·omega
theorem VR.part {u : Value} {es : List (List PV)} (h : VR I u (.lst es)) {sz l k : Nat} (hsz : ∀ e ∈ es, e.length = sz) (hlk : l ≤ k) (hk : k ≤ es.length) :
  ∃ao cap,u = .slice ao es.length cap∧es.length≤cap∧VR I (.slice (if cap=l then ao else ao.map (·.add (l * sz))) (k - l) (cap - l)) (.lst ((es.take k).drop l)):=by
 obtain⟨ao,cap,h1,h2,h3⟩:=h.partM hsz hlk hk
 exact⟨ao,cap,h1,h2,h3 cap (by omega) (Nat.le_refl _)⟩
theorem zs9 {isS : Bool} {len cap : Nat} {lo : Option Value} {l h m : Int} {k k' : IntKind} (hlo : (lo = none ∧ l = 0) ∨ ∃ k, lo = some (.int k l))
  (h0:0≤l) (h1:l≤h) (h2:h≤m) (h3:m≤cap) (w:World):(Instr.sliceBounds isS len cap lo (some (.int k h)) (some (.int k' m))).run P w = .ok (l.toNat,h.toNat,m.toNat) w:=by
 have hl:l≤(h.toNat:Int):=by omega
 have hh0:0≤h:=by omega
 have hm0:0≤m:=by omega
 have hm:h≤(m.toNat:Int):=by omega
 rcases hlo with ⟨rfl,rfl⟩ | ⟨k,rfl⟩
 ·simp[Instr.sliceBounds,zdq (P:=P) hm0 h3,zdq (P:=P) hh0 hm]
 ·simp[Instr.sliceBounds,zdq (P:=P) hm0 h3,zdq (P:=P) hh0 hm,zdq (P:=P) h0 hl]

theorem zy2 {t : TypeId} {a v : AV} {lo hi mx : Option AV} {pre : Prop} (h : sliceX P t a lo hi mx = some (pre, v)) (hp : pre) {x : Value} {xlo xhi xmx : Option Value} (hx : AVR I L x a)
  (hlo:OptR I L xlo lo) (hhi:OptR I L xhi hi) (hmx:OptR I L xmx mx) (w:World) :
  ∃r,(Instr.sliceAt t x xlo xhi xmx).run P w = .ok r w∧AVR I L r v:=by
 unfold sliceX at h
 cases mx with
 | some m =>
  dsimp only at h
  unfold slice3 at h
  split at h
  ·rename_i es kh k km m'
   split at h
   ·rename_i e l he hl
    split at h
    ·rename_i sz hsz
     simp only[Option.some.injEq,Prod.mk.injEq] at h
     obtain⟨h1,h2⟩:=h
     subst h1 h2
     obtain⟨⟨h0,h1,h2,h3⟩,hall⟩:=hp
     cases xmx with
     | none=>exact hmx.elim
     | some um =>
     cases xhi with
     | none=>exact hhi.elim
     | some uh =>
     have em:um = .int km m':=(AVR.of_val hmx).1
     have eh:uh = .int kh k:=(AVR.of_val hhi).1
     subst em eh
     obtain⟨ao,cap,rfl,hcap,hv⟩:=hx.of_p.partM (l:=l.toNat) (k:=k.toNat) hall (by omega) (by omega)
     refine⟨_,?_,.p _ _ (hv m'.toNat (by omega) (by omega))⟩
     have h4:m'≤(cap:Int):=by omega
     simp[Instr.sliceAt,Instr.slice,run_underlying (ze2 he),zs9 (P:=P) (isS:=true) (zo6 hl hlo) h0 h1 h2 h4,zde hsz]
    ·cases h
   ·cases h
  ·cases h
 | none =>
  cases xmx with
  | some _=>exact hmx.elim
  | none =>
  dsimp only at h
  split at h
  ·rename_i s
   split at h
   ·rename_i l k hs hl hk
    simp only[Option.some.injEq,Prod.mk.injEq] at h
    obtain⟨h1,h2⟩:=h
    subst h1 h2
    obtain⟨rfl,_⟩:=hx.of_val
    obtain⟨h0,h1,h2⟩:=hp
    refine⟨_,?_,.p _ _ (.val _ rfl)⟩
    simp[Instr.sliceAt,Instr.slice,run_underlying (zqg hs),zoc (P:=P) (isS:=false) (zo6 hl hlo) (zo6 hk hhi) h0 h1 h2]
   ·cases h
  ·rename_i es
   split at h
   ·rename_i e l k he hl hk
    split at h
    ·rename_i sz hsz
     simp only[Option.some.injEq,Prod.mk.injEq] at h
     obtain⟨h1,h2⟩:=h
     subst h1 h2
     obtain⟨⟨h0,h1,h2⟩,hall⟩:=hp
     obtain⟨ao,cap,rfl,hcap,hv⟩:=hx.of_p.part (l:=l.toNat) (k:=k.toNat) hall (by omega) (by omega)
     refine⟨_,?_,.p _ _ hv⟩
     have h3:k≤(cap:Int):=by omega
     simp[Instr.sliceAt,Instr.slice,run_underlying (ze2 he),zoc (P:=P) (isS:=true) (zo6 hl hlo) (zo6 hk hhi) h0 h1 h3,zde hsz]
    ·cases h
   ·cases h
  ·cases h

def lenX (P:Program) (t:TypeId) (a:AV):Option (Prop×AV):=match a with
 | .p (.lst es)=>match isSlice P t with
  | true=>some (True,.p (.val (.int .i64 es.length)))
  | false=>none
 | .p .emp=>match isSlice P t with
  | true=>some (True,.p (.val (.int .i64 0)))
  | false=>none
 | .p (.val (.slice _ n _))=>match isSlice P t with
  | true=>some (True,.p (.val (.int .i64 n)))
  | false=>none
 | .p (.val (.string s))=>match tyStr P t with
  | true=>some (True,.p (.val (.int .i64 s.size)))
  | false=>none
 | _=>none

theorem zne {t:TypeId} (h:isSlice P t=true):∃e,P.underlying t=some (.slice e):=by
 unfold isSlice at h
 split at h
 ·rename_i e he; exact⟨e,he⟩
 ·cases h

theorem ztt {t ty : TypeId} {a v : AV} {pre : Prop} (h : lenX P t a = some (pre, v)) {x : Value} (hx : AVR I L x a) (w : World) :
  ∃r,(Builtin.len_ #[t] ty #[x]).run P w = .ok r w∧AVR I L r v:=by
 unfold lenX at h
 split at h
 ·split at h
  ·rename_i hs
   simp only[Option.some.injEq,Prod.mk.injEq] at h
   obtain⟨_,h2⟩:=h
   subst h2
   obtain⟨e,he⟩:=zne hs
   obtain⟨ao,cap,rfl,_⟩:=hx.of_p.lst_len
   exact⟨_,by simp[Builtin.len_,run_underlying he,goInt],.p _ _ (.val _ rfl)⟩
  ·cases h
 ·split at h
  ·rename_i hs
   simp only[Option.some.injEq,Prod.mk.injEq] at h
   obtain⟨_,h2⟩:=h
   subst h2
   obtain⟨e,he⟩:=zne hs
   cases hx.of_p
   exact⟨_,by simp[Builtin.len_,run_underlying he,goInt],.p _ _ (.val _ rfl)⟩
  ·cases h
 ·split at h
  ·rename_i hs
   simp only[Option.some.injEq,Prod.mk.injEq] at h
   obtain⟨_,h2⟩:=h
   subst h2
   obtain⟨e,he⟩:=zne hs
   obtain⟨rfl,_⟩:=hx.of_val
   exact⟨_,by simp[Builtin.len_,run_underlying he,goInt],.p _ _ (.val _ rfl)⟩
  ·cases h
 ·split at h
  ·rename_i hs
   simp only[Option.some.injEq,Prod.mk.injEq] at h
   obtain⟨_,h2⟩:=h
   subst h2
   obtain⟨rfl,_⟩:=hx.of_val
   exact⟨_,by simp[Builtin.len_,run_underlying (zqg hs),goInt],.p _ _ (.val _ rfl)⟩
  ·cases h
 ·cases h

end Go.Abs
namespace Go.Abs
open Go.RowKit

variable {P:Program} {I:Mem} {L:zbl}

def fillA (place:Nat→Option (Nat×Nat)) (cells:List AV):List (Nat×AV)→Option (List AV)
 | []=>some cells
 | (i,v) :: rest=>match place i with
  | some (off,size)=>if (avCells v).length=size∧off+size≤cells.length∧(avCells v).all avOne=true then fillA place (splice cells off (avCells v)) rest else none
  | none=>none

theorem zwp (off : Nat) : ∀ (l : List Value) (k : Nat) (cells : Array Value), off + k + l.length ≤ cells.size →
  (l.zipIdx k).foldl (fun (cs:Array Value) (x:Value×Nat)=>cs.setIfInBounds (off+x.2) x.1) cells=(splice cells.toList (off+k) l).toArray
 | [],k,cells,_=>by simp[splice]
 | v :: l,k,cells,h=>by
  simp only[List.zipIdx_cons,List.foldl_cons]
  have h':off+(k+1)+l.length≤(cells.setIfInBounds (off+k) v).size:=by simp at h ⊢; omega
  rw[zwp off l (k+1) _ h']
  congr 1
  simp only[splice,Array.toList_setIfInBounds,List.length_cons]
  have hlt:off+k<cells.toList.length:=by simp at h ⊢; omega
  have e1:off+(k+1)=off+k+1:=by omega
  have e2:off+k+(l.length+1)=off+k+1+l.length:=by omega
  rw[e1,e2,List.take_set,List.drop_set_of_lt (by omega),List.take_add_one]
  have:cells.toList[off+k]? = some (cells.toList[off+k]):=by simp[hlt]
  rw[this]
  simp only[Option.toList_some]
  rw[List.set_append_right _ _ (by rw[List.length_take]; omega)]
  have hmin:min (off+k) cells.toList.length=off+k:=Nat.min_eq_left (Nat.le_of_lt hlt)
  rw[List.length_take,hmin,Nat.sub_self]
  simp

theorem zqb {place placeR : Nat → Option (Nat × Nat)} (hpl : ∀ i x, place i = some x → placeR i = some x) : ∀ (parts : List (Nat × AV)) (vs : List (Nat × Value)) (cells : List AV) (us : List Value) (out : List AV),
  fillA place cells parts=some out→us.length=cells.length→(∀ (j:Nat) u c,us[j]? = some u→cells[j]? = some c→AVR I L u c)→(∀u∈us,u.oneCell'=true) →
  vs.length=parts.length→(∀ (j:Nat) x y,vs[j]? = some x→parts[j]? = some y→x.1=y.1∧AVR I L x.2 y.2) →
  ∃uo:List Value,Instr.fill placeR us.toArray vs=some uo.toArray∧uo.length=out.length∧(∀ (j:Nat) u c,uo[j]? = some u→out[j]? = some c→AVR I L u c)∧(∀u∈uo,u.oneCell'=true)
 | [],vs,cells,us,out,h,hl,hv,h1,hvl,_=>by
  have:vs=[]:=List.length_eq_zero_iff.1 hvl
  subst this
  simp[fillA] at h; subst h
  exact⟨us,rfl,hl,hv,h1⟩
 | (i,v) :: rest,[],cells,us,out,_,_,_,_,hvl,_=>by simp at hvl
 | (i,v) :: rest,(i',x) :: vs,cells,us,out,h,hl,hv,h1,hvl,hr=>by
  obtain⟨hii,hx⟩:=hr 0 _ _ rfl rfl
  have hii:i'=i:=hii
  have hx:AVR I L x v:=hx
  subst hii
  simp only[fillA] at h
  split at h
  ·rename_i off size hp
   split at h
   ·rename_i hc
    obtain⟨hsz,hle,hall⟩:=hc
    have hsz:(avCells v).length=size:=hsz
    have hone:∀c∈avCells v,avOne c=true:=List.all_eq_true.1 hall
    obtain⟨un,he,hul,hur⟩:=hx.cells hone
    have hux:∀u∈un,u.oneCell'=true:=fun u hu=>by
     obtain⟨j,hj⟩:=List.mem_iff_getElem?.1 hu
     have hjl:j<(avCells v).length:=by rw[←hul]; exact (List.getElem?_eq_some_iff.1 hj).1
     have hc:(avCells v)[j]? = some ((avCells v)[j]):=by simp[hjl]
     exact (hur j u _ hj hc).one (hone _ (List.getElem_mem _))
    have hul:un.length=(avCells v).length:=hul
    have hn:=zeh (cs:=cells) (off:=off) (new:=avCells v) (by rw[hsz]; exact hle)
    have hn':=zeh (cs:=us) (off:=off) (new:=un) (by omega)
    obtain⟨uo,g1,g2,g3,g4⟩:=zqb hpl rest vs (splice cells off (avCells v)) (splice us off un) out h (by omega)
     (zpz hl hul hv hur) (fun u hu=>by
      unfold splice at hu
      simp only[List.mem_append] at hu
      rcases hu with (hu | hu) | hu
      ·exact h1 u (List.mem_of_mem_take hu)
      ·exact hux u hu
      ·exact h1 u (List.mem_of_mem_drop hu)) (by simpa using hvl) (fun j y z hy hz=>hr (j+1) y z hy hz)
    refine⟨uo,?_,g2,g3,g4⟩
    have hlen:un.length=size:=by omega
    have hsize:off+un.length≤us.length:=by omega
    unfold Instr.fill
    simp only[hpl _ _ hp,he]
    have hb:¬ (un.toArray.size≠size∨off+un.toArray.size > us.toArray.size):=by simp; omega
    rw[if_neg (by simpa using hb)]
    have hfold:=zwp off un 0 us.toArray (by simpa using hsize)
    simp only[Nat.add_zero] at hfold
    have:(un.toArray.zipIdx.foldl (fun (cs:Array Value) (x:Value×Nat)=>cs.setIfInBounds (off+x.2) x.1) us.toArray)=(splice us off un).toArray:=by
     rw[←hfold,←Array.foldl_toList]
     simp
    exact (congrArg (fun c=>Instr.fill placeR c vs) this).trans g1
   ·cases h
  ·cases h

def tyPlaces (P:Program) (t:TypeId):Option (List (Nat×Nat)):=match P.underlying t with
 | some (.struct fs)=>fs.toList.mapM fun f=>(tySize P f.type).map fun n=>(f.offset,n)
 | some (.array n e)=>(tySize P e).map fun sz=>(List.range n).map fun i=>(i * sz,sz)
 | _=>none

def buildX (P:Program) (t:TypeId) (parts:List (Nat×AV)):Option (Prop×AV):=match tyZero P t,tyPlaces P t with
 | some zs, some pl => if zs.all (·.oneCell') = true then
   match fillA (fun i=>pl[i]?) (zs.map fun z=>.p (.val z)) parts with
   | some cs=>some (True,mkAgg cs)
   | none=>none
  else none
 | _,_=>none

theorem zot {t:TypeId} {zs:List Value} (h:tyZero P t=some zs):∃i z,P.info? t=some i∧i.zero=some z∧z.cells.toList=zs:=by
 unfold tyZero at h
 cases hi:P.info? t with
 | none=>simp[hi] at h
 | some i =>
  cases hz:i.zero with
  | none=>simp[hi,hz] at h
  | some z=>exact⟨i,z,rfl,hz,by simpa[hi,hz] using h⟩

theorem zpr {t:TypeId} {zs:List Value} (h:tyZero P t=some zs) (w:World):∃z,(zeroValue t).run P w = .ok z w∧z.cells=zs.toArray:=by
 obtain⟨i,z,hi,hz,hc⟩:=zot h
 refine⟨z,by simp[zeroValue,typeInfo,hi,hz],?_⟩
 rw[←hc]

theorem zqq {α β : Type} (g : α → Sem β) (g' : α → Option β) (w : World) : ∀ (l : List α) (out : List β), l.mapM g' = some out →
  (∀a b,g' a=some b→(g a).run P w = .ok b w)→(l.mapM g).run P w = .ok out w
 | [],out,h,_=>by simp at h; subst h; simp
 | a :: l,out,h,hg=>by
  simp only[List.mapM_cons,Option.bind_eq_bind,Option.pure_def] at h
  cases ha:g' a with
  | none=>simp[ha] at h
  | some b =>
   cases hl:l.mapM g' with
   | none=>simp[ha,hl] at h
   | some bs =>
    simp[ha,hl] at h
    subst h
    simp[hg a b ha,zqq g g' w l bs hl hg]

theorem zzb (zs:List Value) (h:zs.all (·.oneCell')=true):(∀ (j:Nat) u c,zs[j]? = some u→(zs.map fun z=>AV.p (.val z))[j]? = some c→AVR I L u c)∧∀u∈zs,u.oneCell'=true:=by
 have h1:∀u∈zs,u.oneCell'=true:=List.all_eq_true.1 h
 refine⟨fun j u c hu hc=>?_,h1⟩
 rw[List.getElem?_map,hu] at hc
 simp at hc; subst hc
 exact .p _ _ (.val _ (h1 u (List.mem_of_getElem? hu)))

def ztu (I:Mem) (L:zbl) (vs:List (Nat×Value)) (parts:List (Nat×AV)):Prop :=
 vs.length=parts.length∧∀ (j:Nat) x y,vs[j]? = some x→parts[j]? = some y→x.1=y.1∧AVR I L x.2 y.2

theorem zym {t : TypeId} {parts : List (Nat × AV)} {v : AV} {pre : Prop} (h : buildX P t parts = some (pre, v)) {vs : List (Nat × Value)} (hr : ztu I L vs parts) (w : World) :
  ∃r,(Instr.build t vs.toArray).run P w = .ok r w∧AVR I L r v:=by
 unfold buildX at h
 split at h
 ·rename_i zs pl hz hpl
  split at h
  ·rename_i hone
   split at h
   ·rename_i cs hf
    simp only[Option.some.injEq,Prod.mk.injEq] at h
    obtain⟨_,h2⟩:=h
    subst h2
    obtain⟨z,hzr,hzc⟩:=zpr hz w
    obtain⟨zr,z1⟩:=zzb (I:=I) (L:=L) zs hone
    unfold tyPlaces at hpl
    split at hpl
    ·rename_i fs hfs
     obtain⟨uo,g1,g2,g3,g4⟩:=zqb (placeR:=fun i=>pl[i]?) (fun i x h=>h) parts vs _ zs cs hf (by simp) zr z1 hr.1 hr.2
     refine⟨_,?_,zlr g2 g3 g4⟩
     have hm:(fs.mapM fun (f:Field)=>(do pure (f.offset,←sizeOf f.type):Sem (Nat×Nat))).run P w = .ok pl.toArray w:=by
      rw[Array.mapM_eq_mapM_toList]
      have:=zqq (P:=P) (fun f:Field=>(do pure (f.offset,←sizeOf f.type):Sem (Nat×Nat))) _ w fs.toList pl hpl (fun f b hb=>by
       cases hs:tySize P f.type with
       | none=>simp[hs] at hb
       | some n=>simp[hs] at hb; subst hb; simp[zde hs])
      rw[Sem.run_map,this]; simp
     simp only[Instr.build,Sem.run_bind,hzr,Result.andThen_ok,run_underlying hfs,hm,hzc]
     simp[g1]
    ·rename_i n e hu
     cases hsz:tySize P e with
     | none=>simp[hsz] at hpl
     | some sz =>
      simp[hsz] at hpl
      obtain⟨uo,g1,g2,g3,g4⟩:=zqb (placeR:=fun i=>some (i * sz,sz)) (fun i x h=>by
       rw[←hpl,List.getElem?_map] at h
       cases hi:(List.range n)[i]? with
       | none=>simp[hi] at h
       | some k =>
        simp[hi] at h
        have:=List.getElem?_eq_some_iff.1 hi
        obtain⟨hlt,hk⟩:=this
        simp at hk
        rw[←h,hk]) parts vs _ zs cs hf (by simp) zr z1 hr.1 hr.2
      refine⟨_,?_,zlr g2 g3 g4⟩
      simp only[Instr.build,Sem.run_bind,hzr,Result.andThen_ok,run_underlying hu,zde hsz,hzc]
      simp[g1]
    ·cases hpl
   ·cases h
  ·cases h
 ·cases h

end Go.Abs
namespace Go.Abs
open Go.RowKit

variable {P:Program} {I:Mem} {L:zbl}

def chunk {α:Type} (sz:Nat):Nat→List α→List (List α)
 | 0,_=>[]
 | n+1,l=>l.take sz :: chunk sz n (l.drop sz)

theorem zru {α:Type} (sz:Nat):∀ (n:Nat) (l:List α),(chunk sz n l).length=n
 | 0,_=>rfl
 | n+1,l=>by simp[chunk,zru sz n]

theorem zql {α:Type} (sz:Nat):∀ (n:Nat) (l:List α),l.length=n * sz→(chunk sz n l).flatten=l
 | 0,l,h=>by
  have:l=[]:=List.length_eq_zero_iff.1 (by simpa using h)
  subst this; rfl
 | n+1,l,h=>by
  have hm:(n+1) * sz=n * sz+sz:=by rw[Nat.add_mul]; omega
  rw[chunk,List.flatten_cons,zql sz n (l.drop sz) (by rw[List.length_drop]; omega),List.take_append_drop]

theorem zw2 {α:Type} (sz:Nat):∀ (n:Nat) (l:List α),l.length=n * sz→∀e∈chunk sz n l,e.length=sz
 | 0,l,_,e,he=>by simp[chunk] at he
 | n+1,l,h,e,he=>by
  have hm:(n+1) * sz=n * sz+sz:=by rw[Nat.add_mul]; omega
  simp only[chunk,List.mem_cons] at he
  rcases he with rfl | he
  ·rw[List.length_take]; omega
  ·exact zw2 sz n (l.drop sz) (by rw[List.length_drop]; omega) e he

def zeroBase (zs:List Value) (n:Nat):List AV:=(List.replicate n (zs.map fun z=>AV.p (.val z))).flatten

def bsliceE (P:Program) (t:TypeId) (n:Nat) (parts:List (Nat×AV)):Option (TypeId×List (List PV)):=match slElem P t with
 | some e=>match tySize P e,tyZero P e with
  | some sz, some zs => if zs.length = sz ∧ 0 < sz ∧ n * sz ≤ 16777216 ∧ zs.all (·.oneCell') = true then
    match fillA (fun i=>some (i * sz,sz)) (zeroBase zs n) parts with
    | some cs=>match allP cs with
     | some ps=>if ps.length=n * sz then some (e,chunk sz n ps) else none
     | none=>none
    | none=>none
   else none
  | _,_=>none
 | none=>none

theorem zv7 (zs:List Value) (n:Nat) (h:0<zs.length):((Array.range (n * zs.length)).map (fun i=>zs.toArray[i % zs.toArray.size]!))=(List.replicate n zs).flatten.toArray:=by
 apply Array.ext'
 apply List.ext_getElem?
 intro j
 simp only[Array.toList_map,Array.toList_range,List.getElem?_map]
 have hall:∀e∈List.replicate n zs,e.length=zs.length:=fun e he=>by rw[List.eq_of_mem_replicate he]
 by_cases hj:j<n * zs.length
 ·have hd:j / zs.length<n:=Nat.div_lt_of_lt_mul (by rw[Nat.mul_comm]; exact hj)
  have hm:j % zs.length<zs.length:=Nat.mod_lt _ h
  have:=zi4 hall (j / zs.length) (j % zs.length) (by simpa using hd) hm
  have e1:j / zs.length * zs.length+j % zs.length=j:=by rw[Nat.mul_comm]; exact Nat.div_add_mod j zs.length
  rw[e1] at this
  rw[this]
  simp[hj,hd,hm]
 ·have h1:(List.range (n * zs.length))[j]? = none:=by simp; omega
  have h2:(List.replicate n zs).flatten[j]? = none:=by rw[List.getElem?_eq_none_iff,zb8 hall]; simp; omega
  rw[h1,h2]; rfl

theorem zmj {t : TypeId} {n : Nat} {parts : List (Nat × AV)} {e : TypeId} {es : List (List PV)} (h : bsliceE P t n parts = some (e, es)) {vs : List (Nat × Value)} (hr : ztu I L vs parts) (w : World) :
  ∃ (uo:List Value) (sz:Nat),(Instr.buildSlice t n vs.toArray).run P w = .ok (.slice (some ⟨w.heap.size,0,none⟩) n n) (w.alloc (.cells uo.toArray e))∧slElem P t=some e∧tySize P e=some sz∧0<sz ∧
   es.length=n∧(∀x∈es,x.length=sz)∧uo.length=es.flatten.length∧(∀ (j:Nat) u c,uo[j]? = some u→es.flatten[j]? = some c→VR I u c)∧∀u∈uo,u.oneCell'=true:=by
 unfold bsliceE at h
 split at h
 ·rename_i e' he
  split at h
  ·rename_i sz zs hsz hz
   split at h
   ·rename_i hc
    obtain⟨hzl,hpos,h24,hone⟩:=hc
    split at h
    ·rename_i cs hf
     split at h
     ·rename_i ps hps
      split at h
      ·rename_i hlen
       simp only[Option.some.injEq,Prod.mk.injEq] at h
       obtain⟨h1,h2⟩:=h
       subst h1 h2
       have hcs:=zks hps
       obtain⟨z,hzr,hzc⟩:=zpr hz w
       have hbase:((List.replicate n zs).flatten).length=(zeroBase zs n).length:=by simp[zeroBase]
       have hrel:∀ (j:Nat) u c,((List.replicate n zs).flatten)[j]? = some u→(zeroBase zs n)[j]? = some c→AVR I L u c:=by
        intro j u c hu hc
        have e1:zeroBase zs n=((List.replicate n zs).flatten).map (fun z=>AV.p (.val z)):=by simp[zeroBase,List.map_flatten]
        rw[e1,List.getElem?_map,hu] at hc
        simp at hc; subst hc
        have hu':=List.mem_of_getElem? hu
        obtain⟨l,hl,hul⟩:=List.mem_flatten.1 hu'
        rw[List.eq_of_mem_replicate hl] at hul
        exact .p _ _ (.val _ (List.all_eq_true.1 hone u hul))
       have h1:∀u∈(List.replicate n zs).flatten,u.oneCell'=true:=fun u hu=>by
        obtain⟨l,hl,hul⟩:=List.mem_flatten.1 hu
        rw[List.eq_of_mem_replicate hl] at hul
        exact List.all_eq_true.1 hone u hul
       obtain⟨uo,g1,g2,g3,g4⟩:=zqb (placeR:=fun i=>some (i * sz,sz)) (fun i x h=>h) parts vs _ _ cs hf hbase hrel h1 hr.1 hr.2
       have hfl:=zql sz n ps hlen
       refine⟨uo,sz,?_,he,hsz,hpos,zru sz n ps,zw2 sz n ps hlen,?_,?_,g4⟩
       ·have hzero:((Array.range (n * sz)).map (fun i=>zs.toArray[i % zs.toArray.size]!))=(List.replicate n zs).flatten.toArray:=by rw[←hzl]; exact zv7 zs n (by omega)
        by_cases hn:n * sz=0
        ·have hn0:n=0:=by
          rcases Nat.mul_eq_zero.1 hn with h | h
          ·exact h
          ·omega
         subst hn0
         simp only[List.replicate_zero,List.flatten_nil] at g1
         have hr0:((Array.range (0 * sz)).map (fun i=>(#[]:Array Value)[i % (#[]:Array Value).size]!)) = #[]:=by simp
         simp only[Instr.buildSlice,Sem.run_bind,run_underlying (ze2 he),Result.andThen_ok,zde hsz]
         rw[if_neg (by simp),if_pos hn]
         simp only[Sem.run_bind,Result.andThen_ok,Sem.run_pure,hr0,g1]
         simp[newRow,newObj,Sem.run]
        ·have h24':¬ (16777216<n * sz):=by omega
         have hz':(n * sz=0)=False:=by simpa using hn
         simp only[Instr.buildSlice,Sem.run_bind,run_underlying (ze2 he),Result.andThen_ok,zde hsz]
         rw[if_neg (by simpa using h24'),if_neg hn]
         simp only[Sem.run_bind,hzr,Result.andThen_ok,Sem.run_pure,hzc,hzero,g1]
         simp[newRow,newObj,Sem.run]
       ·rw[hfl,g2,hcs]; simp
       ·rw[hfl]
        rw[hcs] at g3
        exact zpt g3
      ·cases h
     ·cases h
    ·cases h
   ·cases h
  ·cases h
 ·cases h

def isNil:AV→Bool
 | .p .emp=>true
 | .p (.val (.slice none 0 0))=>true
 | _=>false

theorem zuf {a:AV} (h:isNil a=true) {u:Value} (hu:AVR I L u a):∃ao,u = .slice ao 0 0:=by
 unfold isNil at h
 split at h
 ·cases hu.of_p; exact⟨_,rfl⟩
 ·exact⟨none,hu.of_val.1⟩
 ·cases h

def appTypes (P:Program) (t1 t2:TypeId):Option (TypeId×Nat×Nat):=if t1=t2 then match slElem P t1 with
 | some e=>match tySize P e,tyBytes P e,tyZero P e with
  | some sz,some by',some zs=>if zs.length=sz∧0<sz∧0<by' then some (e,sz,by') else none
  | _,_,_=>none
 | none=>none else none

theorem zka {t1 t2 e : TypeId} {sz b : Nat} (h : appTypes P t1 t2 = some (e, sz, b)) : t1 = t2 ∧ P.underlying t1 = some (.slice e) ∧ 0 < sz ∧ 0 < b ∧
  ∃i z,P.info? e=some i∧i.zero=some z∧i.size=sz∧i.bytes=b∧z.cells.size=sz:=by
 unfold appTypes at h
 split at h
 ·rename_i h12
  split at h
  ·rename_i e' he
   split at h
   ·rename_i sz' b' zs hs hb hz
    split at h
    ·rename_i hc
     simp only[Option.some.injEq,Prod.mk.injEq] at h
     obtain⟨r1,r2,r3⟩:=h
     subst r1 r2 r3
     obtain⟨i,z,hi,hzz,hzc⟩:=zot hz
     refine⟨h12,ze2 he,hc.2.1,hc.2.2,i,z,hi,hzz,?_,?_,?_⟩
     ·simpa[tySize,hi] using hs
     ·simpa[tyBytes,hi] using hb
     ·rw[←hc.1,←hzc]; simp
    ·cases h
   ·cases h
  ·cases h
 ·cases h

theorem zlc {t ty e : TypeId} {i : TypeInfo} {z : Value} {sz : Nat} (ht : P.underlying t = some (.slice e)) (hi : P.info? e = some i) (hz : i.zero = some z) (hs : i.size = sz) (ao : Option Addr)
  (a:Addr) (m c:Nat) (news:List Value) (w:World) (hl:news.length=m * sz) (hnews:∀ (j:Nat) v,news[j]? = some v→w.cell? (a.add j)=some v)
  (h0:0<m) (hb:m * i.bytes≤140737488355328) (hm:m≤9223372036854775807) :
  ∃cap rest,(Builtin.append_ #[t,t] ty #[.slice ao 0 0,.slice (some a) m c]).run P w =
   .ok (.slice (some ⟨w.heap.size,0,none⟩) m cap) (w.drew.alloc (.cells (news++rest).toArray e))∧m≤cap∧(news++rest).length=m * sz+(cap - m) * z.cells.size∧cap≤maxLen:=by
 subst hs
 refine⟨grownCap w m 0 e,(Builtin.zeroCells z.cells (grownCap w m 0 e - m)).toList,?_,grownCap_ge w m 0 e,?_,grownCap_le_maxLen w m 0 e (by simp only[maxLen]; omega)⟩
 ·have h63:(m:Int)≤9223372036854775807:=by omega
  cases ao with
  | none =>
   rw[run_append_nil w t ty e i z ht hi hz a m c news hl hnews h0 h63 (by omega)]
   congr 3
   apply Array.ext'; simp
  | some b =>
   have hnx:Builtin.nextslicecap (0+m) 0 * i.bytes≤281474976710656:=by rw[Nat.zero_add,nextslicecap_zero h0]; omega
   have:=run_append_grow (P:=P) w t ty e i z ht hi hz b 0 0 [] (by simp) (by simp) a m c news hl hnews (by omega) (by simpa using h63) hnx
   simp only[Nat.zero_add] at this
   rw[this]
   congr 3
   apply Array.ext'; simp
 ·rw[List.length_append,hl,Array.length_toList,size_zeroCells]

end Go.Abs
namespace Go.Abs
open Go.RowKit

variable {P:Program} {I:Mem} {L:zbl}

def appP (P:Program) (t1 t2:TypeId) (a b:AV):Option (Prop×AV):=match isNil a,appTypes P t1 t2 with
 | true,some (_,sz,by')=>match b with
  | .p (.lst es)=>some (es.length * by'≤140737488355328∧∀x∈es,x.length=sz,.p (.lst es))
  | b=>match isNil b with
   | true=>some (True,.p .emp)
   | false=>none
 | _,_=>none

def maxX (k:IntKind) (n:Int):List AV→Option (Prop×AV)
 | []=>some (True,.p (.val (.int k n)))
 | .p (.val (.int _ m)) :: r=>maxX k (max n m) r
 | _=>none
def minX (k:IntKind) (n:Int):List AV→Option (Prop×AV)
 | []=>some (True,.p (.val (.int k n)))
 | .p (.val (.int _ m)) :: r=>minX k (min n m) r
 | _=>none
theorem zul {k:IntKind} : ∀ {als:List AV} {n:Int} {v:AV} {pre:Prop} {us:List Value},maxX k n als=some (pre,v)→AVRs I L us als→∀w:World,∃r,(us.foldlM Builtin.max2 (.int k n)).run P w = .ok r w∧AVR I L r v
 | [],n,v,pre,us,h,hu,w=>by
  simp only[maxX,Option.some.injEq,Prod.mk.injEq] at h
  obtain⟨_,rfl⟩:=h
  have:us=[]:=List.length_eq_zero_iff.1 (by simpa using hu.1)
  subst this
  exact⟨_,rfl,.p _ _ (.val _ rfl)⟩
 | a :: r,n,v,pre,us,h,hu,w=>by
  unfold maxX at h
  split at h
  ·rename_i e; cases e
  ·rename_i k' m r' e
   simp only[List.cons.injEq] at e
   obtain⟨rfl,rfl⟩:=e
   match us,hu with
   | [],hu=>have:=hu.1; simp at this
   | u :: us,hu =>
    obtain⟨rfl,_⟩:=(hu.2 0 u _ rfl rfl).of_val
    obtain⟨q,h1,h2⟩:=zul h (us:=us) ⟨by simpa using hu.1,fun j u c hu' hc=>hu.2 (j+1) u c hu' hc⟩ w
    refine⟨q,?_,h2⟩
    have e:(if m > n then m else n)=max n m:=by omega
    rw[List.foldlM_cons,Sem.run_bind]
    simp only[Builtin.max2,Sem.run_pure,Result.andThen_ok,e]
    exact h1
  ·cases h
theorem zup {k:IntKind} : ∀ {als:List AV} {n:Int} {v:AV} {pre:Prop} {us:List Value},minX k n als=some (pre,v)→AVRs I L us als→∀w:World,∃r,(us.foldlM Builtin.min2 (.int k n)).run P w = .ok r w∧AVR I L r v
 | [],n,v,pre,us,h,hu,w=>by
  simp only[minX,Option.some.injEq,Prod.mk.injEq] at h
  obtain⟨_,rfl⟩:=h
  have:us=[]:=List.length_eq_zero_iff.1 (by simpa using hu.1)
  subst this
  exact⟨_,rfl,.p _ _ (.val _ rfl)⟩
 | a :: r,n,v,pre,us,h,hu,w=>by
  unfold minX at h
  split at h
  ·rename_i e; cases e
  ·rename_i k' m r' e
   simp only[List.cons.injEq] at e
   obtain⟨rfl,rfl⟩:=e
   match us,hu with
   | [],hu=>have:=hu.1; simp at this
   | u :: us,hu =>
    obtain⟨rfl,_⟩:=(hu.2 0 u _ rfl rfl).of_val
    obtain⟨q,h1,h2⟩:=zup h (us:=us) ⟨by simpa using hu.1,fun j u c hu' hc=>hu.2 (j+1) u c hu' hc⟩ w
    refine⟨q,?_,h2⟩
    have e:(if m<n then m else n)=min n m:=by omega
    rw[List.foldlM_cons,Sem.run_bind]
    simp only[Builtin.min2,Sem.run_pure,Result.andThen_ok,e]
    exact h1
  ·cases h
def builtinX (P:Program) (b:Builtin) (ts:List TypeId) (als:List AV):Option (Prop×AV):=match b,ts,als with
 | .len,[t],[a]=>lenX P t a
 | .append,[t1,t2],[a,b]=>appP P t1 t2 a b
 | .max,_,.p (.val (.int k n)) :: r=>maxX k n r
 | .min,_,.p (.val (.int k n)) :: r=>minX k n r
 | _,_,_=>none

def exP (P:Program) (o:Oper) (ρ:Operand→AV):Option (Prop×AV):=match o.op with
 | .move x | .assign x=>some (True,ρ x)
 | .pick c a b=>pickX (ρ c) (ρ a) (ρ b)
 | .load t a=>loadP P t (ρ a)
 | .fieldAddr s a k=>fieldP P s (ρ a) k
 | .indexAddr t x i=>indexP P t (ρ x) (ρ i)
 | .index t x i=>idxX P t (ρ x) (ρ i)
 | .extract x k=>extractX (ρ x) k
 | .binOp op t x y _=>binX P op t (ρ x) (ρ y)
 | .unOp op _ x=>unX op (ρ x)
 | .convert s d x=>convX P s d (ρ x)
 | .makeFunc fn f c=>some (True,mkClo fn (f.toList.map ρ) (c.toList.map ρ))
 | .build t parts=>buildX P t (parts.toList.map fun x=>(x.1,ρ x.2))
 | .buildSlice t n parts=>match bsliceE P t n (parts.toList.map fun x=>(x.1,ρ x.2)) with
  | some (_,es)=>match n with
   | 0=>some (True,.p .emp)
   | _=>some (True,.p (.lst es))
  | none=>none
 | .slice t x lo hi mx=>sliceX P t (ρ x) (lo.map ρ) (hi.map ρ) (mx.map ρ)
 | .nilCheck x=>nilX (ρ x)
 | .call c=>match c.callee with
  | .builtin b=>builtinX P b c.argTypes.toList (c.args.toList.map ρ)
  | _=>none
 | _=>none

theorem zn8 {σ : Operand → Value} {ρ : Operand → AV} (hσ : ∀ x, AVR I L (σ x) (ρ x)) (l : List (Nat × Operand)) :
  ztu I L (l.map fun x=>(x.1,σ x.2)) (l.map fun x=>(x.1,ρ x.2)):=by
 refine⟨by simp,fun j x y hx hy=>?_⟩
 rw[List.getElem?_map] at hx hy
 cases hj:l[j]? with
 | none=>simp[hj] at hx
 | some z =>
  simp[hj] at hx hy
  subst hx hy
  exact⟨rfl,hσ _⟩

theorem zki {σ : Operand → Value} {ρ : Operand → AV} (hσ : ∀ x, AVR I L (σ x) (ρ x)) (l : List Operand) :
  AVRs I L (l.map σ) (l.map ρ):=by
 refine⟨by simp,fun j x y hx hy=>?_⟩
 rw[List.getElem?_map] at hx hy
 cases hj:l[j]? with
 | none=>simp[hj] at hx
 | some z =>
  simp[hj] at hx hy
  subst hx hy
  exact hσ _

theorem zu4 {σ:Operand→Value} {ρ:Operand→AV} (hσ:∀x,AVR I L (σ x) (ρ x)) (l:Option Operand):OptR I L (l.map σ) (l.map ρ):=by
 cases l with
 | none=>trivial
 | some x=>exact hσ x

def zg1 (P:Program) (C:Ctx) (H:za) (I:Mem) (L:zbl) (w:World) (r:Result Next) (v:AV) (H':za):Prop :=
 ∃u w' I' L',(r = .ok (.value u) w'∨(r = .ok .skip w'∧u=undef))∧AVR I' L' u v∧Fr C I L H w I' L' H' w'

theorem zg1.still {C:Ctx} {H:za} {w:World} {v:AV} {u:Value} {r:Result Next} (hr:r = .ok (.value u) w) (h:AVR I L u v):zg1 P C H I L w r v H :=
 ⟨u,w,I,L,.inl hr,h,Fr.refl _ _ _ _ _⟩

theorem zg1.of_run {C : Ctx} {H : za} {w : World} {v : AV} {s : Sem Value} {s' : Sem Next} (hs : ∀ w, s'.run P w = (s.run P w).andThen fun u w' => .ok (.value u) w') (h : ∃ u, s.run P w = .ok u w ∧ AVR I L u v) :
  zg1 P C H I L w (s'.run P w) v H:=by
 obtain⟨u,hr,ha⟩:=h
 exact .still (by rw[hs,hr]; rfl) ha

theorem zd5 (s:Sem Value) (w:World):(do pure (.value (←s)):Sem Next).run P w=(s.run P w).andThen fun u w'=>.ok (.value u) w':=by simp

theorem z5n {t1 t2 ty : TypeId} {a b v : AV} {pre : Prop} (h : appP P t1 t2 a b = some (pre, v)) (hp : pre) {C : Ctx} {H : za} {env : Env} {tm : Array Value} {w : World} (hs : Sim C env H I L tm w)
  {x y:Value} (hx:AVR I L x a) (hy:AVR I L y b) {s':Sem Next} (hs':∀w,s'.run P w=((Builtin.append_ #[t1,t2] ty #[x,y]).run P w).andThen fun u w'=>.ok (.value u) w') :
  zg1 P C H I L w (s'.run P w) v H:=by
 unfold appP at h
 split at h
 ·rename_i e sz by' hn ht
  obtain⟨rfl,hu,hpos,hbpos,i,z,hi,hz,hsz,hby,hzc⟩:=zka ht
  obtain⟨ao,rfl⟩:=zuf hn hx
  have nothing:∀ (bo:Option Addr) (c:Nat),(Builtin.append_ #[t1,t1] ty #[.slice ao 0 0,.slice bo 0 c]).run P w = .ok (.slice ao 0 0) w:=by
   intro bo c
   cases ao<;>cases bo<;>simp[Builtin.append_,run_underlying hu,sizeOf,typeInfo,hi,Builtin.lenOf,Builtin.firstCells,loadCells,loadCellsFrom,storeCells]
  split at h
  ·rename_i es
   simp only[Option.some.injEq,Prod.mk.injEq] at h
   obtain⟨h1,h2⟩:=h
   subst h1 h2
   obtain⟨hb,hall⟩:=hp
   cases hy.of_p with
   | lst bo n cap _ us sz' hlen hsz' hl hv hone hm hnil hcap =>
    subst hlen
    by_cases h0:es.length=0
    ·have he:es=[]:=List.length_eq_zero_iff.1 h0
     subst he
     refine⟨_,w,I,L,.inl (by rw[hs',List.length_nil,nothing]; rfl),?_,Fr.refl _ _ _ _ _⟩
     exact .p _ _ (.lst ao 0 0 [] [] sz rfl (by simp) (by simp) (by simp) (by simp) (.inl rfl) (fun _=>⟨rfl,rfl⟩) (Nat.le_refl _))
    ·have hfl:=zb8 hall
     rcases hm with rfl | ⟨bb,off,rfl,hI⟩
     ·exfalso
      have hz0:es.flatten.length=0:=by rw[←hl]; rfl
      rw[hfl] at hz0
      rcases Nat.mul_eq_zero.1 hz0 with h | h<;>omega
     ·obtain⟨cp,rest,hr,hcp,hrl,_⟩:=zlc (P:=P) (ty:=ty) hu hi hz hsz ao ⟨bb,off,none⟩ es.length cap us w (by rw[hl,hfl]) (fun j v hjv=>by
       rw[Addr.add_mid]; exact hs.mem _ _ _ (hI j v hjv)) (by omega) (by rw[hby]; exact hb) (by
        have:=Nat.le_mul_of_pos_right es.length hbpos
        omega)
      refine⟨_,_,I.with w.heap.size (us++rest).toArray,L,.inl (by rw[hs',hr]; rfl),.p _ _ ?_,(Fr.drew C I L H w).trans (Fr.imm C I L H w.drew _ e)⟩
      exact VR.newList (w:=w) hs.mem hall hl hv hone hcp
  ·rename_i b hne
   split at h
   ·rename_i hnb
    simp only[Option.some.injEq,Prod.mk.injEq] at h
    obtain⟨_,h2⟩:=h
    subst h2
    obtain⟨bo,rfl⟩:=zuf hnb hy
    exact .still (by rw[hs',nothing]; rfl) (.p _ _ (.emp ao))
   ·cases h
 ·cases h

theorem zbas {o : Oper} {ρ : Operand → AV} {v : AV} {pre : Prop} (h : exP P o ρ = some (pre, v)) (hp : pre) {C : Ctx} {H : za} {env : Env} {tm : Array Value} {w : World}
  (hs:Sim C env H I L tm w) {σ:Operand→Value} (hσ:∀x,AVR I L (σ x) (ρ x)):zg1 P C H I L w ((execOp σ o).run P w) v H:=by
 unfold exP at h
 unfold execOp
 cases hop:o.op<;>simp only[hop] at h ⊢<;>try (cases h; done)
 case move x =>
  simp only[Option.some.injEq,Prod.mk.injEq] at h
  obtain⟨_,h2⟩:=h
  subst h2
  exact .still rfl (hσ x)
 case assign x =>
  simp only[Option.some.injEq,Prod.mk.injEq] at h
  obtain⟨_,h2⟩:=h
  subst h2
  exact .still rfl (hσ x)
 case pick c a b =>
  unfold pickX at h
  split at h
  ·rename_i hc
   simp only[Option.some.injEq,Prod.mk.injEq] at h
   obtain⟨_,h2⟩:=h
   subst h2
   have:=(hc ▸ hσ c).of_val.1
   exact .still (u:=σ a) (by simp[this,asBool]) (hσ a)
  ·rename_i hc
   simp only[Option.some.injEq,Prod.mk.injEq] at h
   obtain⟨_,h2⟩:=h
   subst h2
   have:=(hc ▸ hσ c).of_val.1
   exact .still (u:=σ b) (by simp[this,asBool]) (hσ b)
  ·cases h
 case load t a=>exact .of_run (zd5 _) (z0e h (hσ a) hs.mem)
 case fieldAddr s a k=>exact .of_run (zd5 _) (zzu h hp (hσ a) w)
 case indexAddr t x i=>exact .of_run (zd5 _) (zzx h hp (hσ x) (hσ i) w)
 case index t x i=>exact .of_run (zd5 _) (z3f h hp (hσ x) (hσ i) w)
 case extract x k=>exact .of_run (zd5 _) (zu7 h (hσ x) w)
 case binOp op t x y ty=>exact .of_run (zd5 _) (z4q h hp (hσ x) (hσ y) w x y)
 case unOp op t x=>exact .of_run (zd5 _) (z6b h (hσ x) w)
 case convert s d x=>exact .of_run (zd5 _) (z0t h (hσ x) w)
 case makeFunc fn f c =>
  simp only[Option.some.injEq,Prod.mk.injEq] at h
  obtain⟨_,h2⟩:=h
  subst h2
  obtain⟨l1,r1⟩:=zki (I:=I) (L:=L) hσ f.toList
  obtain⟨l2,r2⟩:=zki (I:=I) (L:=L) hσ c.toList
  refine .of_run (zd5 _) ⟨_,?_,z0f l1 l2 r1 r2⟩
  have e1:∀l:Array Operand,l.map σ=(l.toList.map σ).toArray:=fun l=>by apply Array.ext'; simp
  simp only[Instr.makeFunc,Sem.run_pure,e1]
 case build t parts =>
  obtain⟨r,hr,ha⟩:=zym h (zn8 hσ parts.toList) w
  refine .of_run (zd5 _) ⟨r,?_,ha⟩
  rw[←hr]
  congr 2
  apply Array.ext'; simp
 case buildSlice t n parts =>
  split at h
  ·rename_i e es hb
   obtain⟨uo,sz,hr,_,_,hpos,hn,hall,hl,hv,hone⟩:=zmj hb (zn8 hσ parts.toList) w
   have hr':(Instr.buildSlice t n (parts.map fun x=>(x.1,σ x.2))).run P w = .ok (.slice (some ⟨w.heap.size,0,none⟩) n n) (w.alloc (.cells uo.toArray e)):=by
    rw[←hr]
    congr 2
    apply Array.ext'; simp
   refine⟨.slice (some ⟨w.heap.size,0,none⟩) n n,_,I.with w.heap.size uo.toArray,L,.inl (by rw[zd5,hr']; rfl),?_,Fr.imm C I L H w _ e⟩
   split at h
   ·simp only[Option.some.injEq,Prod.mk.injEq] at h
    obtain⟨_,h2⟩:=h
    subst h2
    exact .p _ _ (.emp _)
   ·simp only[Option.some.injEq,Prod.mk.injEq] at h
    obtain⟨_,h2⟩:=h
    subst h2
    have:=VR.newList (w:=w) (us:=uo) (rest:=[]) hs.mem hall hl hv hone (cap:=n) (by omega)
    rw[List.append_nil] at this
    rw[hn] at this
    exact .p _ _ this
  ·cases h
 case slice t x lo hi mx=>exact .of_run (zd5 _) (zy2 h hp (hσ x) (zu4 hσ lo) (zu4 hσ hi) (zu4 hσ mx) w)
 case nilCheck x =>
  have hx:=hσ x
  generalize σ x=u at hx ⊢
  generalize ρ x=a at h hx
  unfold nilX at h
  split at h
  ·simp only[Option.some.injEq,Prod.mk.injEq] at h
   obtain⟨_,h2⟩:=h
   subst h2
   cases hx with
   | ptr id b off hl=>exact .still rfl (.ptr _ _ _ hl)
  ·simp only[Option.some.injEq,Prod.mk.injEq] at h
   obtain⟨_,h2⟩:=h
   subst h2
   cases hx with
   | p _ _ hx=>cases hx with
    | eptr b base _ us o hl hv hone hm=>exact .still rfl (.p _ _ (.eptr b base _ us _ hl hv hone hm))
  ·simp only[Option.some.injEq,Prod.mk.injEq] at h
   obtain⟨_,h2⟩:=h
   subst h2
   cases hx with
   | p _ _ hx=>cases hx with
    | clo _ us vs _ _ hl hl' hv hv'=>exact .still rfl (.p _ _ (.clo _ us vs _ _ hl hl' hv hv'))
  ·simp only[Option.some.injEq,Prod.mk.injEq] at h
   obtain⟨_,h2⟩:=h
   subst h2
   cases hx with
   | clo _ us vs _ _ hl hl' hv hv'=>exact .still rfl (.clo _ us vs _ _ hl hl' hv hv')
  ·cases h
 case call c =>
  split at h
  ·rename_i b hc
   obtain⟨hl,hr⟩:=zki (I:=I) (L:=L) hσ c.args.toList
   unfold builtinX at h
   split at h
   ·rename_i t a ht ha
    have hat:c.argTypes = #[t]:=by rw[←Array.toArray_toList (xs:=c.argTypes),ht]
    rw[ha] at hl hr
    cases hca:c.args.toList with
    | nil=>simp[hca] at ha
    | cons x r =>
     have hr0:r=[]:=by simpa[hca] using congrArg List.length ha
     subst hr0
     have hx:ρ x=a:=by simpa[hca] using ha
     have hargs:c.args = #[x]:=by rw[←Array.toArray_toList (xs:=c.args),hca]
     have:=ztt (ty:=o.type) h (hx ▸ hσ x) w
     refine .of_run (s:=Builtin.len_ #[t] o.type #[σ x]) (fun w=>?_) this
     simp[resolve,hc,invoke,builtin,hat,hargs]
   ·rename_i t1 t2 a b ht ha
    have hat:c.argTypes = #[t1,t2]:=by rw[←Array.toArray_toList (xs:=c.argTypes),ht]
    cases hca:c.args.toList with
    | nil=>simp[hca] at ha
    | cons x r =>
     cases r with
     | nil=>simp[hca] at ha
     | cons y r =>
      have hr0:r=[]:=by simpa[hca] using congrArg List.length ha
      subst hr0
      have hxy:ρ x=a∧ρ y=b:=by simpa[hca] using ha
      have hargs:c.args = #[x,y]:=by rw[←Array.toArray_toList (xs:=c.args),hca]
      refine z5n (ty:=o.type) h hp hs (hxy.1 ▸ hσ x) (hxy.2 ▸ hσ y) (fun w=>?_)
      simp[resolve,hc,invoke,builtin,hat,hargs]
   ·rename_i k n r ha
    cases hca:c.args.toList with
    | nil=>simp[hca] at ha
    | cons x xs =>
     have hxr:ρ x = .p (.val (.int k n))∧xs.map ρ=r:=by simpa[hca] using ha
     have hx:=hσ x
     rw[hxr.1] at hx
     obtain⟨q,h1,h2⟩:=zul (P:=P) h (hxr.2 ▸ zki (I:=I) (L:=L) hσ xs) w
     refine .of_run (s:=(xs.map σ).foldlM Builtin.max2 (.int k n)) (fun w=>?_) ⟨q,h1,h2⟩
     simp[resolve,hc,invoke,builtin,Builtin.max_,hca,hx.of_val.1]
   ·rename_i k n r ha
    cases hca:c.args.toList with
    | nil=>simp[hca] at ha
    | cons x xs =>
     have hxr:ρ x = .p (.val (.int k n))∧xs.map ρ=r:=by simpa[hca] using ha
     have hx:=hσ x
     rw[hxr.1] at hx
     obtain⟨q,h1,h2⟩:=zup (P:=P) h (hxr.2 ▸ zki (I:=I) (L:=L) hσ xs) w
     refine .of_run (s:=(xs.map σ).foldlM Builtin.min2 (.int k n)) (fun w=>?_) ⟨q,h1,h2⟩
     simp[resolve,hc,invoke,builtin,Builtin.min_,hca,hx.of_val.1]
   ·cases h
  ·cases h

end Go.Abs
namespace Go.Abs
open Go.RowKit

variable {P:Program} {I:Mem} {L:zbl}

def snap (w:World):Mem:=fun b o=>w.cell? ⟨b,o,none⟩

theorem zit {w:World} (h:I.inW w):I.sub (snap w):=fun b o u hu=>h b o u hu
theorem zs2 (w:World):(snap w).inW w:=fun _ _ _ h=>h

def rowOf (H:za) (id ver:Nat):Option (List (List PV)):=match H id with
 | some (.row v _ _ es)=>if v=ver then some es else none
 | some (.shut v es)=>if v=ver then some es else none
 | some (.tail v _ _ es)=>if v=ver then some es else none
 | _=>none

theorem zom {C : Ctx} {H : za} {env : Env} {tm : Array Value} {w : World} (hs : Sim C env H I L tm w) {id ver : Nat} {es : List (List PV)} (h : rowOf H id ver = some es) :
  ∃hdr sz,L id=some (.row ver hdr sz)∧VR (snap w) hdr (.lst es)∧(∀x∈es,x.length=sz)∧(es≠[]→∃g o n cap,hdr = .slice (some ⟨g,o,none⟩) n cap):=by
 unfold rowOf at h
 split at h
 ·rename_i v e sz es' hH
  split at h
  ·rename_i hv
   simp at h; subst h hv
   obtain⟨hdr,us,h1,h2,h3,h4,h5,h6,h7⟩:=hs.chunk id _ hH
   refine⟨hdr,sz,h1,?_,h4,?_⟩
   ·have hfl:=zb8 h4
    have hlen:us.length=es'.flatten.length:=by rw[hfl]; exact h2.1
    rcases h2.2 with ⟨rfl,hn⟩ | ⟨g,cap,cur,rfl,hb,hg,hnc,hcm,hcs,htake⟩
    ·have he:es'=[]:=List.length_eq_zero_iff.1 hn
     subst he
     exact .lst none 0 0 [] us sz rfl (by simp) hlen (fun j u c hu hc=>(h5 j u c hu hc).mono (zit hs.mem)) h6 (.inl (List.length_eq_zero_iff.1 (by simpa using hlen))) (fun _=>⟨rfl,rfl⟩) (Nat.le_refl _)
    ·refine .lst _ _ _ es' us sz rfl h4 hlen (fun j u c hu hc=>(h5 j u c hu hc).mono (zit hs.mem)) h6 (.inr ⟨g,0,rfl,fun j u hu=>?_⟩) (by simp) hnc
     rw[Nat.zero_add]
     show w.cell? ⟨g,j,none⟩=some u
     rw[zev hg]
     rw[←htake,List.getElem?_take] at hu
     split at hu
     ·simpa using hu
     ·cases hu
   ·intro hne
    rcases h2.2 with ⟨rfl,hn⟩ | ⟨g,cap,cur,rfl,_⟩
    ·exact absurd (List.length_eq_zero_iff.1 hn) hne
    ·exact⟨g,0,_,cap,rfl⟩
  ·cases h
 ·rename_i v es' hH
  split at h
  ·rename_i hv
   simp at h; subst h hv
   obtain⟨hdr,sz,h1,h2,h3,h4⟩:=hs.chunk id _ hH
   exact⟨hdr,sz,h1,h2.mono (zit hs.mem),h3,h4⟩
  ·cases h
 ·rename_i v e sz es' hH
  split at h
  ·rename_i hv
   simp at h; subst h hv
   obtain⟨g,o,cap,arr,h1,h2,h3,h4,h5,h6,h7,h8⟩:=hs.chunk id _ hH
   exact⟨_,sz,h1,h7.mono (zit hs.mem),h6,fun _=>⟨g,o,_,cap,rfl⟩⟩
  ·cases h
 ·cases h

theorem AVR.live {C : Ctx} {H : za} {env : Env} {tm : Array Value} {w : World} (hs : Sim C env H I L tm w) {id ver : Nat} {es : List (List PV)} (h : rowOf H id ver = some es) {u : Value}
  (hu:AVR I L u (.row id ver)):VR (snap w) u (.lst es):=by
 obtain⟨hdr,sz,h1,h2,h3,_⟩:=zom hs h
 cases hu with
 | row _ _ _ v hdr' sz' hl hle hh hone =>
  rw[h1] at hl
  simp only[Option.some.injEq,Loc.row.injEq] at hl
  obtain⟨e1,e2,e3⟩:=hl
  subst e1 e2 e3
  rw[hh rfl]; exact h2

def exQ (P:Program) (o:Oper) (ρ:Operand→AV) (H:za):Option (Prop×AV):=match o.op with
 | .load t a=>match ρ a with
  | .ptr id off=>match H id with
   | some (.box cs)=>match readA P t cs off with | some v=>some (True,v) | none=>none
   | _=>none
  | .rptr id ver i off=>match rowOf H id ver with
   | some es=>match readP P t (es.getD i []) off with | some x=>some (i<es.length∧0<(es.getD i []).length,.p x) | none=>none
   | none=>none
  | _=>none
 | .fieldAddr s a k=>match ρ a,fldOff P s k with
  | .rptr id ver i off,some (o,n)=>match rowOf H id ver with
   | some _=>some (n≠0,.rptr id ver i (off+o))
   | none=>none
  | _,_=>none
 | .indexAddr t x i=>match ρ x,ρ i with
  | .row id ver,.p (.val (.int _ n))=>match rowOf H id ver,slElem P t with
   | some es,some e=>match tySize P e with
    | some sz=>some ((0≤n∧n<es.length)∧(es.getD n.toNat []).length=sz∧0<sz,.rptr id ver n.toNat 0)
    | none=>none
   | _,_=>none
  | _,_=>none
 | .call c=>match c.callee,c.argTypes.toList,c.args.toList.map ρ with
  | .builtin .len,[t],[.row id ver]=>match rowOf H id ver with
   | some es=>lenX P t (.p (.lst es))
   | none=>none
  | _,_,_=>none
 | _=>none

theorem zbak {w : World} {t : TypeId} {b base off : Nat} {us : List Value} {cs : List PV} {x : PV} (h : readP P t cs off = some x)
  (hl:us.length=cs.length) (hv:∀ (j:Nat) u c,us[j]? = some u→cs[j]? = some c→VR I u c) (h1:∀u∈us,u.oneCell'=true)
  (hm:∀ (j:Nat) u,us[j]? = some u→w.cell? ⟨b,base+j,none⟩=some u) :
  ∃u,(Instr.loadAt t (.pointer (some ⟨b,base+off,none⟩))).run P w = .ok u w∧VR I u x:=by
 obtain⟨u,hr,hu⟩:=zv3 (I:=I) h hl hv h1 hm
 exact⟨u,by simp[Instr.loadAt,Instr.sureAddr,hr],hu⟩

theorem z7k {C : Ctx} {H : za} {env : Env} {tm : Array Value} {w : World} (hs : Sim C env H I L tm w) {id ver : Nat} {es : List (List PV)} (h : rowOf H id ver = some es)
  {i:Nat} (hi:i<es.length) (hpos:0<(es.getD i []).length) {u:Value} {off:Nat} (hu:AVR I L u (.rptr id ver i off)):∃b base,u = .pointer (some ⟨b,base+off,none⟩)∧∃us:List Value,us.length=(es.getD i []).length ∧
   (∀ (j:Nat) u c,us[j]? = some u→(es.getD i [])[j]? = some c→VR I u c)∧(∀u∈us,u.oneCell'=true)∧∀ (j:Nat) u,us[j]? = some u→w.cell? ⟨b,base+j,none⟩=some u:=by
 have h0:=h
 unfold rowOf at h
 split at h
 ·rename_i v e sz es' hH
  split at h
  ·rename_i hv
   simp at h; subst h hv
   obtain⟨hdr,us,h1,h2,h3,h4,h5,h6,h7⟩:=hs.chunk id _ hH
   cases hu with
   | rptr _ _ _ v _ _ hdr' sz' hl hle hh hone =>
    rw[h1] at hl
    simp only[Option.some.injEq,Loc.row.injEq] at hl
    obtain⟨e1,e2,e3⟩:=hl
    subst e1 e2 e3
    obtain⟨g,o,n,cap,e1,e2⟩:=hh rfl
    subst e1 e2
    rcases h2.2 with ⟨hbad,_⟩ | ⟨g',_,_,hg',_⟩
    ·cases hbad
    simp only[Value.slice.injEq,Option.some.injEq,Addr.mk.injEq] at hg'
    obtain⟨⟨_,rfl,_⟩,_,_⟩:=hg'
    have hm:(es'.getD i []).length=sz:=h4 _ (by
     have:es'.getD i []=es'[i]:=by simp[hi]
     rw[this]; exact List.getElem_mem _)
    have hfl:=zb8 h4
    have hmul:(i+1) * sz≤es'.length * sz:=Nat.mul_le_mul_right _ hi
    have hmul':(i+1) * sz=i * sz+sz:=by rw[Nat.add_mul]; omega
    have hul:=h2.1
    refine⟨g,i * sz,by rw[Nat.zero_add],(us.drop (i * sz)).take sz,by rw[List.length_take,List.length_drop,hm]; omega,?_,?_,?_⟩
    ·intro j u c hu hc
     rw[List.getElem?_take] at hu
     split at hu
     ·rename_i hj
      rw[List.getElem?_drop] at hu
      exact h5 _ u c hu (by rw[zi4 h4 i j hi hj]; exact hc)
     ·cases hu
    ·intro u hu
     exact h6 u (List.mem_of_mem_drop (List.mem_of_mem_take hu))
    ·intro j u hu
     rw[List.getElem?_take] at hu
     split at hu
     ·rw[List.getElem?_drop] at hu
      have:=h2.cells (g:=g) rfl _ u hu
      rwa [Addr.add_mid,Nat.zero_add] at this
     ·cases hu
  ·cases h
 ·rename_i v es' hH
  split at h
  ·rename_i hv
   simp at h; subst h hv
   obtain⟨hdr,sz,h1,h2,h3,h4⟩:=hs.chunk id _ hH
   cases hu with
   | rptr _ _ _ v _ _ hdr' sz' hl hle hh hone =>
    rw[h1] at hl
    simp only[Option.some.injEq,Loc.row.injEq] at hl
    obtain⟨e1,e2,e3⟩:=hl
    subst e1 e2 e3
    obtain⟨g,o,n,cap,e1,e2⟩:=hh rfl
    subst e1 e2
    obtain⟨b,off',len,cap',sz',g1,g2,g3,us,g4,g5,g6,g7⟩:=h2.elem hi hpos
    simp only[Value.slice.injEq,Option.some.injEq,Addr.mk.injEq] at g1
    obtain⟨⟨r1,r2,_⟩,_,_⟩:=g1
    subst r1 r2
    have hm:(es'.getD i []).length=sz:=h3 _ (by
     have:es'.getD i []=es'[i]:=by simp[hi]
     rw[this]; exact List.getElem_mem _)
    have:sz'=sz:=by omega
    subst this
    exact⟨g,o+i * sz',by rw[Nat.add_assoc],us,by omega,g5,g6,fun j u hu=>hs.mem _ _ _ (g7 j u hu)⟩
  ·cases h
 ·rename_i v e sz es' hH
  split at h
  ·rename_i hv
   simp at h; subst h hv
   obtain⟨g0,o0,cap0,arr,h1,k2,k3,k4,k5,h3,h2,k8⟩:=hs.chunk id _ hH
   cases hu with
   | rptr _ _ _ v _ _ hdr' sz' hl hle hh hone =>
    rw[h1] at hl
    simp only[Option.some.injEq,Loc.row.injEq] at hl
    obtain⟨e1,e2,e3⟩:=hl
    subst e1 e2 e3
    obtain⟨g,o,n,cap,e1,e2⟩:=hh rfl
    simp only[Value.slice.injEq,Option.some.injEq,Addr.mk.injEq] at e1
    obtain⟨⟨e3,e4,_⟩,e5,e6⟩:=e1
    subst e2 e3 e4 e5 e6
    obtain⟨b,off',len,cap',sz',g1,g2,g3,us,g4,g5,g6,g7⟩:=h2.elem hi hpos
    simp only[Value.slice.injEq,Option.some.injEq,Addr.mk.injEq] at g1
    obtain⟨⟨r1,r2,_⟩,_,_⟩:=g1
    subst r1 r2
    have hm:(es'.getD i []).length=sz:=h3 _ (by
     have:es'.getD i []=es'[i]:=by simp[hi]
     rw[this]; exact List.getElem_mem _)
    have:sz'=sz:=by omega
    subst this
    exact⟨g0,o0+i * sz',by rw[Nat.add_assoc],us,by omega,g5,g6,fun j u hu=>hs.mem _ _ _ (g7 j u hu)⟩
  ·cases h
 ·cases h

theorem z8b {o : Oper} {ρ : Operand → AV} {v : AV} {pre : Prop} {H : za} (h : exQ P o ρ H = some (pre, v)) (hp : pre) {C : Ctx} {env : Env} {tm : Array Value} {w : World}
  (hs:Sim C env H I L tm w) {σ:Operand→Value} (hσ:∀x,AVR I L (σ x) (ρ x)):zg1 P C H I L w ((execOp σ o).run P w) v H:=by
 unfold exQ at h
 unfold execOp
 split at h
 ·rename_i t a hop
  simp only[hop]
  have ha:=hσ a
  generalize σ a=u at ha ⊢
  generalize ρ a=av at h ha
  split at h
  ·rename_i id off
   split at h
   ·rename_i cs hH
    split at h
    ·rename_i r hr
     simp only[Option.some.injEq,Prod.mk.injEq] at h
     obtain⟨_,h2⟩:=h
     subst h2
     obtain⟨b,arr,e,g1,g2,g3,g4,g5,g6⟩:=hs.chunk id _ hH
     cases ha with
     | ptr _ b' _ hl =>
      rw[g1] at hl
      simp only[Option.some.injEq,Loc.box.injEq] at hl
      subst hl
      obtain⟨u,hru,hua⟩:=zrl (I:=I) (L:=L) (w:=w) (b:=b) (base:=0) (us:=arr.toList) hr (by simpa using g3) (fun j u c hu hc=>g4 j u c (by simpa using hu) hc)
       (fun u hu=>by
        obtain⟨j,hj⟩:=List.mem_iff_getElem?.1 hu
        exact g5 j u (by simpa using hj)) (fun j u hu=>by rw[Nat.zero_add,zev g2]; simpa using hu)
      rw[Nat.zero_add] at hru
      exact .of_run (zd5 _) ⟨u,by simp[Instr.loadAt,Instr.sureAddr,hru],hua⟩
    ·cases h
   ·cases h
  ·rename_i id ver i off
   split at h
   ·rename_i es hrow
    split at h
    ·rename_i x hr
     simp only[Option.some.injEq,Prod.mk.injEq] at h
     obtain⟨h1,h2⟩:=h
     subst h1 h2
     obtain⟨b,base,rfl,us,q1,q2,q3,q4⟩:=z7k hs hrow hp.1 hp.2 ha
     obtain⟨u,hru,hua⟩:=zbak (P:=P) hr q1 q2 q3 q4
     exact .of_run (zd5 _) ⟨u,hru,.p _ _ hua⟩
    ·cases h
   ·cases h
  ·cases h
 ·rename_i s a k hop
  simp only[hop]
  have ha:=hσ a
  generalize σ a=u at ha ⊢
  generalize ρ a=av at h ha
  split at h
  ·rename_i id ver i off of n hf
   split at h
   ·rename_i es hrow
    simp only[Option.some.injEq,Prod.mk.injEq] at h
    obtain⟨h1,h2⟩:=h
    subst h1 h2
    obtain⟨hdr,sz,l1,_⟩:=zom hs hrow
    cases ha with
    | rptr _ _ _ v _ _ hdr' sz' hl hle hh hone =>
     have l2:=hl
     rw[l1] at hl
     simp only[Option.some.injEq,Loc.row.injEq] at hl
     obtain⟨e1,e2,e3⟩:=hl
     subst e1 e2 e3
     obtain⟨g,o,n',cap,e1,e2⟩:=hh rfl
     subst e1 e2
     refine .of_run (zd5 _) ⟨_,zof hf hp w _ _,.rptr _ _ _ _ _ _ _ _ l1 (Nat.le_refl _) (fun _=>⟨g,o,n',cap,rfl,by rw[Nat.add_assoc,Nat.add_assoc]⟩) rfl⟩
   ·cases h
  ·cases h
 ·rename_i t x i hop
  simp only[hop]
  have hx:=hσ x
  have hi:=hσ i
  generalize σ x=u at hx ⊢
  generalize ρ x=av at h hx
  generalize σ i=ui at hi ⊢
  generalize ρ i=ai at h hi
  split at h
  ·rename_i id ver k n
   split at h
   ·rename_i es e hrow he
    split at h
    ·rename_i sz hsz
     simp only[Option.some.injEq,Prod.mk.injEq] at h
     obtain⟨h1,h2⟩:=h
     subst h1 h2
     obtain⟨⟨h0,hlt⟩,hlen,hpos⟩:=hp
     obtain⟨rfl,_⟩:=hi.of_val
     obtain⟨m,rfl⟩:=Int.eq_ofNat_of_zero_le h0
     simp only[Int.toNat_natCast] at hlen ⊢
     have hm:m<es.length:=by omega
     obtain⟨hdr,sz',l1,l2,l3,l4⟩:=zom hs hrow
     have hne:es≠[]:=fun e=>by subst e; simp at hm
     obtain⟨g,o,n',cap,rfl⟩:=l4 hne
     obtain⟨_,_,e1,_⟩:=l2.lst_len
     simp only[Value.slice.injEq] at e1
     have hmm:(es.getD m []).length=sz':=l3 _ (by
      have:es.getD m []=es[m]:=by simp[hm]
      rw[this]; exact List.getElem_mem _)
     have e2:sz'=sz:=by omega
     subst e2
     cases hx with
     | row _ _ _ v hdr' sz'' hl hle hh hone =>
      rw[l1] at hl
      simp only[Option.some.injEq,Loc.row.injEq] at hl
      obtain⟨r1,r2,r3⟩:=hl
      subst r1 r2 r3
      rw[hh rfl]
      have hm':m<n':=by rw[e1.2.1]; exact hm
      refine .of_run (zd5 _) ⟨.pointer (some ⟨g,o+m * sz',none⟩),?_,.rptr _ _ _ _ _ _ _ _ l1 (Nat.le_refl _) (fun _=>⟨g,o,n',cap,rfl,by simp⟩) rfl⟩
      simp[Instr.indexAt,asIntOf,run_underlying (ze2 he),zde hsz,Addr.add_mid,hm']
    ·cases h
   ·cases h
  ·cases h
 ·rename_i c hop
  simp only[hop]
  split at h
  ·rename_i t id ver hc ht ha
   split at h
   ·rename_i es hrow
    have hat:c.argTypes = #[t]:=by rw[←Array.toArray_toList (xs:=c.argTypes),ht]
    cases hca:c.args.toList with
    | nil=>simp[hca] at ha
    | cons x r =>
     have hr0:r=[]:=by simpa[hca] using congrArg List.length ha
     subst hr0
     have hx:ρ x = .row id ver:=by simpa[hca] using ha
     have hargs:c.args = #[x]:=by rw[←Array.toArray_toList (xs:=c.args),hca]
     have hlive:=AVR.live hs hrow (hx ▸ hσ x)
     obtain⟨u,hru,hua⟩:=ztt (ty:=o.type) (I:=snap w) (L:=L) h (.p _ _ hlive) w
     have hval:∃n,v = .p (.val (.int .i64 n)):=by
      unfold lenX at h
      simp only at h
      split at h
      ·simp only[Option.some.injEq,Prod.mk.injEq] at h
       exact⟨_,h.2.symm⟩
      ·cases h
     obtain⟨n,rfl⟩:=hval
     have:=hua.of_val.1
     subst this
     refine .of_run (s:=Builtin.len_ #[t] o.type #[σ x]) (fun w=>?_) ⟨_,hru,.p _ _ (.val _ rfl)⟩
     simp[resolve,hc,invoke,builtin,hat,hargs]
   ·cases h
  ·cases h
 ·cases h

def srcOf (H:za):AV→Option (List (List PV))
 | .p (.lst ns)=>some ns
 | .p (.val (.slice _ 0 _))=>some []
 | .p .emp=>some []
 | .row id ver=>rowOf H id ver
 | _=>none

theorem zyh {C : Ctx} {H : za} {env : Env} {tm : Array Value} {w : World} (hs : Sim C env H I L tm w) {b : AV} {ns : List (List PV)} (h : srcOf H b = some ns) {y : Value} (hy : AVR I L y b) :
  ∃bo cap,∃nus:List Value,y = .slice bo ns.length cap∧nus.length=ns.flatten.length∧(∀ (j:Nat) u c,nus[j]? = some u→ns.flatten[j]? = some c→VR I u c)∧(∀u∈nus,u.oneCell'=true) ∧
   (nus=[]∨∃b off,bo=some ⟨b,off,none⟩∧∀ (j:Nat) u,nus[j]? = some u→w.cell? ⟨b,off+j,none⟩=some u)∧ns.length≤cap:=by
 have lstcase : ∀ {u : Value}, VR I u (.lst ns) → ∃ bo cap, ∃ nus : List Value, u = .slice bo ns.length cap ∧ nus.length = ns.flatten.length ∧ (∀ (j : Nat) u c, nus[j]? = some u → ns.flatten[j]? = some c → VR I u c) ∧ (∀ u ∈ nus, u.oneCell' = true) ∧
   (nus=[]∨∃b off,bo=some ⟨b,off,none⟩∧∀ (j:Nat) u,nus[j]? = some u→w.cell? ⟨b,off+j,none⟩=some u)∧ns.length≤cap:=by
  intro u hu
  cases hu with
  | lst bo n cap _ nus nsz hlen hnsz hnl hnv hnone hnm hnnil hncap =>
   subst hlen
   exact⟨bo,cap,nus,rfl,hnl,hnv,hnone,hnm.imp id fun ⟨b,off,e,k⟩=>⟨b,off,e,fun j u hj=>hs.mem _ _ _ (k j u hj)⟩,hncap⟩
 unfold srcOf at h
 split at h
 ·simp only[Option.some.injEq] at h
  subst h
  exact lstcase hy.of_p
 ·simp only[Option.some.injEq] at h
  subst h
  rename_i ao cap
  exact⟨ao,cap,[],hy.of_val.1,rfl,by simp,by simp,.inl rfl,Nat.zero_le _⟩
 ·simp only[Option.some.injEq] at h
  subst h
  cases hy.of_p
  exact⟨_,0,[],rfl,rfl,by simp,by simp,.inl rfl,Nat.zero_le _⟩
 ·rename_i id ver
  unfold rowOf at h
  split at h
  ·rename_i v e sz es hH
   split at h
   ·rename_i hv
    simp at h; subst h hv
    obtain⟨hdr,us,h1,h2,h3,h4,h5,h6,h7⟩:=hs.chunk id _ hH
    cases hy with
    | row _ _ _ v1 hdr1 sz1 hl hle hh hone =>
     rw[h1] at hl
     simp only[Option.some.injEq,Loc.row.injEq] at hl
     obtain⟨r1,r2,r3⟩:=hl
     subst r1 r2 r3
     have hxe:=hh rfl
     subst hxe
     have hfl:=zb8 h4
     have hlen:us.length=es.flatten.length:=by rw[hfl]; exact h2.1
     rcases h2.2 with ⟨e1,hn⟩ | ⟨g,cap,cur,e1,hb,hg,hnc,hcm,hcs,htake⟩
     ·have he:es=[]:=List.length_eq_zero_iff.1 hn
      subst he
      exact⟨none,0,us,e1,hlen,h5,h6,.inl (List.length_eq_zero_iff.1 (by simpa using hlen)),Nat.le_refl _⟩
     ·refine⟨some ⟨g,0,none⟩,cap,us,e1,hlen,h5,h6,.inr ⟨g,0,rfl,fun j u hu=>?_⟩,hnc⟩
      have:=h2.cells (g:=g) (by rw[e1]; rfl) j u hu
      rwa [Addr.add_mid] at this
   ·cases h
  ·rename_i v es hH
   split at h
   ·rename_i hv
    simp at h; subst h hv
    obtain⟨hdr,sz,h1,h2,_⟩:=hs.chunk id _ hH
    cases hy with
    | row _ _ _ v1 hdr1 sz1 hl hle hh hone =>
     rw[h1] at hl
     simp only[Option.some.injEq,Loc.row.injEq] at hl
     obtain⟨r1,r2,r3⟩:=hl
     subst r1 r2 r3
     rw[hh rfl]
     exact lstcase h2
   ·cases h
  ·rename_i v e sz es hH
   split at h
   ·rename_i hv
    simp at h; subst h hv
    obtain⟨g0,o0,cap0,arr,h1,k2,k3,k4,k5,k6,h2,k8⟩:=hs.chunk id _ hH
    cases hy with
    | row _ _ _ v1 hdr1 sz1 hl hle hh hone =>
     rw[h1] at hl
     simp only[Option.some.injEq,Loc.row.injEq] at hl
     obtain⟨r1,r2,r3⟩:=hl
     subst r1 r2 r3
     rw[hh rfl]
     exact lstcase h2
   ·cases h
  ·cases h
 ·cases h

end Go.Abs
namespace Go.Abs
open Go.RowKit

variable {P:Program} {I:Mem} {L:zbl}

def appW (P:Program) (t1 t2:TypeId) (a b:AV) (H:za):Option (Prop×AV×za):=match a,appTypes P t1 t2 with
 | .row id ver,some (e',sz',by')=>match H id with
  | some (.row v e sz es) => if v = ver ∧ e = e' ∧ sz = sz' then match srcOf H b with
    | some ns=>some ((es.length+ns.length) * by'≤140737488355328∧∀x∈ns,x.length=sz,.row id (ver+1),hset H id (.row (ver+1) e sz (es++ns)))
    | none=>none
   else none
  | _=>none
 | _,_=>none

def exW (P:Program) (o:Oper) (ρ:Operand→AV) (H:za):Option (Prop×AV×za):=match o.op with
 | .store t a x=>match tySize P t with
  | some n => if (avCells (ρ x)).length = n ∧ (avCells (ρ x)).all avOne = true then match ρ a with
    | .ptr id off=>match H id with
     | some (.box cs)=>if off+n≤cs.length then some (True,.dead,hset H id (.box (splice cs off (avCells (ρ x))))) else none
     | _=>none
    | .rptr id ver i off=>match H id,allP (avCells (ρ x)) with
     | some (.row v e sz es),some ps=>if v=ver then some (i<es.length∧off+n≤sz,.dead,hset H id (.row v e sz (es.set i (splice (es.getD i []) off ps)))) else none
     | _,_=>none
    | _=>none
   else none
  | none=>none
 | .alloc e=>match o.dst with
  | some d=>match H d,tyZero P e with
   | none,some zs=>if zs.all (·.oneCell')=true then some (True,.ptr d 0,hset H d (.box (zs.map fun z=>.p (.val z)))) else none
   | _,_=>none
  | none=>none
 | .box _ x=>match o.dst with
  | some d=>match H d with
   | none=>if (avCells (ρ x)).all avOne=true then some (True,.ptr d 0,hset H d (.box (avCells (ρ x)))) else none
   | some _=>none
  | none=>none
 | .call c=>match c.callee,c.argTypes.toList,c.args.toList.map ρ with
  | .builtin .append,[t1,t2],[a,b]=>appW P t1 t2 a b H
  | _,_,_=>none
 | _=>none

theorem zwe {u : Value} {a : AV} (h : AVR I L u a) (hall : (avCells a).all avOne = true) : ∃ us : List Value, u.cells = us.toArray ∧ us.length = (avCells a).length ∧
  (∀ (j:Nat) u c,us[j]? = some u→(avCells a)[j]? = some c→AVR I L u c)∧∀x∈us,x.oneCell'=true:=by
 have hone:∀c∈avCells a,avOne c=true:=List.all_eq_true.1 hall
 obtain⟨us,h1,h2,h3⟩:=h.cells hone
 refine⟨us,h1,h2,h3,fun x hx=>?_⟩
 obtain⟨j,hj⟩:=List.mem_iff_getElem?.1 hx
 have hjl:j<(avCells a).length:=by rw[←h2]; exact (List.getElem?_eq_some_iff.1 hj).1
 exact (h3 j x _ hj (List.getElem?_eq_getElem hjl)).one (hone _ (List.getElem_mem _))

theorem z2g {C : Ctx} {H : za} {env : Env} {tm : Array Value} {w : World} (hs : Sim C env H I L tm w) {d : Nat} (hd : H d = none) {us : List Value} {cs : List AV} (e : TypeId)
  (hl:us.length=cs.length) (hv:∀ (j:Nat) u c,us[j]? = some u→cs[j]? = some c→AVR I L u c) (h1:∀x∈us,x.oneCell'=true) :
  AVR I (lset L d (.box w.heap.size)) (.pointer (some ⟨w.heap.size,0,none⟩)) (.ptr d 0)∧Fr C I L H w I (lset L d (.box w.heap.size)) (hset H d (.box cs)) (w.alloc (.cells us.toArray e)):=by
 refine⟨.ptr _ _ _ (by simp[lset]),fun env tm hs=>?_⟩
 refine hs.new ((Below.refl _ _).alloc hs.leB _) (fun b hb=>Below.heap_alloc _ _ _ hb) hd _ _ ?_ (fun b hb=>by
  simp only[Loc.blk,Option.some.injEq] at hb
  subst hb
  simp)
 refine⟨w.heap.size,us.toArray,e,by simp[lset],heap_alloc_new w _,by simpa using hl,fun j u c hu hc=>?_,fun j u hu=>?_,fun o=>zsa hs.mem o⟩
 ·exact (hv j u c (by simpa using hu) hc).mono (Mem.sub_refl I) (zcd.lset_new (hs.dom_none hd) _)
 ·exact h1 u (List.mem_of_getElem? (by simpa using hu))

theorem zu0 {C : Ctx} {H : za} {env : Env} {tm : Array Value} {w w' : World} (_ : Sim C env H I L tm w) {d : Nat} (hd : H d = none) {us : List Value} {es : List (List PV)} {e : TypeId} {sz cap : Nat} {arr : Array Value}
  (hw:w'=w.alloc (.cells arr e)∨w'=w.drew.alloc (.cells arr e)) (harr:arr.size=cap * sz) (hcm:cap≤maxLen) (htk:arr.toList.take (es.length * sz)=us) (hpos:0<sz)
  (hall:∀x∈es,x.length=sz) (hl:us.length=es.flatten.length) (hv:∀ (j:Nat) u c,us[j]? = some u→es.flatten[j]? = some c→VR I u c) (h1:∀x∈us,x.oneCell'=true) (hcap:es.length≤cap) :
  AVR I (lset L d (.row 0 (.slice (some ⟨w.heap.size,0,none⟩) es.length cap) sz)) (.slice (some ⟨w.heap.size,0,none⟩) es.length cap) (.row d 0) ∧
  Fr C I L H w I (lset L d (.row 0 (.slice (some ⟨w.heap.size,0,none⟩) es.length cap) sz)) (hset H d (.row 0 e sz es)) w':=by
 refine⟨.row _ d 0 0 (.slice (some ⟨w.heap.size,0,none⟩) es.length cap) sz (by simp[lset]) (Nat.le_refl _) (fun _=>rfl) rfl,fun env tm hs=>?_⟩
 have hb:Below C.B w w':=by
  rcases hw with rfl | rfl
  ·exact (Below.refl _ _).alloc hs.leB _
  ·exact (Below.refl _ _).drew.alloc hs.leB _
 have hk:∀b,b<w.heap.size→w'.heap[b]? = w.heap[b]?:=fun b hlt=>by
  rcases hw with rfl | rfl
  ·exact Below.heap_alloc _ _ _ hlt
  ·exact Below.heap_alloc w.drew _ _ hlt
 have hnew:w'.heap[w.heap.size]? = some (.cells arr e (0,0)):=by
  rcases hw with rfl | rfl
  ·exact heap_alloc_new w _
  ·exact heap_alloc_new w.drew _
 have hsz:w'.heap.size=w.heap.size+1:=by rcases hw with rfl | rfl<;>simp
 refine hs.new hb hk hd _ _ ?_ (fun b hb=>by
  simp only[Loc.blk,Value.ownBlock,Option.some.injEq] at hb
  subst hb
  omega)
 refine⟨.slice (some ⟨w.heap.size,0,none⟩) es.length cap,us,by simp[lset],⟨by rw[hl,zb8 hall],.inr ⟨w.heap.size,cap,arr,rfl,hs.leB,hnew,hcap,hcm,harr,htk⟩⟩,hpos,hall,hv,h1,fun b hb o=>?_⟩
 simp only[Value.ownBlock,Option.some.injEq] at hb
 subst hb
 exact zsa hs.mem o

theorem zra {t : TypeId} {n : Nat} (hn : tySize P t = some n) {u : Value} {us : List Value} (hu : u.cells = us.toArray) (hlen : us.length = n) {w : World} {b off : Nat} {arr : Array Value} {e : TypeId}
  (hg:w.heap[b]? = some (.cells arr e (0,0))) (hle:off+n≤arr.size) (h1:∀x∈us,x.oneCell'=true) :
  (Instr.storeAt t (.pointer (some ⟨b,off,none⟩)) u).run P w = .ok () (w.setRow b (splice arr.toList off us).toArray):=by
 have hst:=run_storeCells_at P b off e us 0 arr w hg (by omega) h1
 simp only[Nat.add_zero] at hst
 have hsz:us.toArray.size=n:=by simpa using hlen
 simp[Instr.storeAt,Instr.sureAddr,storeVar,zde hn,hu,hsz,hst,splice,hlen]

theorem zcd.lset_same {L:zbl} {id:Nat} {l:Loc} (h:L id=some l):zcd L (lset L id l):=fun i=>by
 by_cases hi:i=id
 ·subst hi
  have:=zcd.refl L i
  rw[h] at this ⊢
  simpa[lset,h] using this
 ·have:lset L id l i=L i:=by simp[lset,hi]
  rw[this]
  exact zcd.refl L i

theorem zcd.lset_older {L:zbl} {id v:Nat} {hdr hdr':Value} {sz:Nat} (h:L id=some (.row v hdr sz)):zcd L (lset L id (.row (v+1) hdr' sz)):=fun i=>by
 by_cases hi:i=id
 ·subst hi
  rw[h]
  exact⟨v+1,hdr',by simp[lset],by omega,fun e=>by omega⟩
 ·have:lset L id (.row (v+1) hdr' sz) i=L i:=by simp[lset,hi]
  rw[this]
  exact zcd.refl L i

theorem zke {w:World} {B b:Nat} (cs:Array Value) (h:B≤b):Below B w (w.setRow b cs) :=
 ⟨rfl,rfl,rfl,by simp[World.setRow],fun k hk=>setRow_other w b k cs (by omega)⟩

theorem zt3 {R : Value → PV → Prop} {us vs : List Value} {cs ds : List PV} (hl : us.length = cs.length) (hv : ∀ (j : Nat) u c, us[j]? = some u → cs[j]? = some c → R u c)
  (hw:∀ (j:Nat) u c,vs[j]? = some u→ds[j]? = some c→R u c):∀ (j:Nat) u c,(us++vs)[j]? = some u→(cs++ds)[j]? = some c→R u c:=by
 intro j u c hu hc
 rw[List.getElem?_append] at hu hc
 rw[hl] at hu
 split at hu
 ·rename_i h; rw[if_pos h] at hc; exact hv _ _ _ hu hc
 ·rename_i h; rw[if_neg h] at hc; exact hw _ _ _ hu hc

theorem z5r {t1 t2 ty : TypeId} {a b v : AV} {pre : Prop} {H H' : za} (h : appW P t1 t2 a b H = some (pre, v, H')) (hp : pre) {C : Ctx} {env : Env} {tm : Array Value} {w : World} (hs : Sim C env H I L tm w)
  {x y:Value} (hx:AVR I L x a) (hy:AVR I L y b) {s':Sem Next} (hs':∀w,s'.run P w=((Builtin.append_ #[t1,t2] ty #[x,y]).run P w).andThen fun u w'=>.ok (.value u) w') :
  zg1 P C H I L w (s'.run P w) v H':=by
 unfold appW at h
 split at h
 ·rename_i id ver e' sz' by' ht
  obtain⟨rfl,hu,hpos,hbpos,i,z,hi,hz,hsz,hby,hzc⟩:=zka ht
  split at h
  ·rename_i v0 e sz es hH
   split at h
   ·rename_i hc
    obtain⟨rfl,rfl,rfl⟩:=hc
    split at h
    ·rename_i ns hsrc
     simp only[Option.some.injEq,Prod.mk.injEq] at h
     obtain⟨h1,h2,h3⟩:=h
     subst h1 h2 h3
     obtain⟨hb,hall⟩:=hp
     obtain⟨hdr,us,q1,q2,q3,q4,q5,q6,q7⟩:=hs.chunk id _ hH
     cases hx with
     | row _ _ _ v1 hdr1 sz1 hl hle hh hone =>
      rw[q1] at hl
      simp only[Option.some.injEq,Loc.row.injEq] at hl
      obtain⟨r1,r2,r3⟩:=hl
      subst r1 r2 r3
      have hxe:=hh rfl
      subst hxe
      obtain⟨bo,cap,nus,hye,hnl,hnv,hnone,hnm,hncap⟩:=zyh hs hsrc hy
      ·subst hye
       have hnfl:=zb8 hall
       have hmax:es.length+ns.length≤maxLen:=by
        have:=Nat.le_mul_of_pos_right (es.length+ns.length) hbpos
        simp only[maxLen]; omega
       have finish : ∀ (v' : Value) (w' : World), (Builtin.append_ #[t1, t1] ty #[x, .slice bo ns.length cap]).run P w = .ok v' w' → w'.ownsRow C.B e sz v' (es.length + ns.length) (us ++ nus) → w.grownBy w' x.ownBlock →
         (∀b,v'.ownBlock=some b→x.ownBlock=some b∨(w.heap.size≤b∧b<w'.heap.size))→v'.oneCell'=true →
         zg1 P C H I L w (s'.run P w) (.row id (v0+1)) (hset H id (.row (v0+1) e sz (es++ns))):=by
        intro v' w' hr ho hg hblk h1
        refine⟨v',w',I,lset L id (.row (v0+1) v' sz),.inl (by rw[hs',hr]; rfl),.row _ _ _ (v0+1) v' sz (by simp[lset]) (Nat.le_refl _) (fun _=>rfl) h1,fun env tm hs=>?_⟩
        refine hs.turn (Below.grown (Below.refl _ _) hg hs.leB fun k hk=>(hs.blkB id _ k q1 hk).1) q1 (fun b hb hne=>hg.block b hb fun e=>hne e.symm) (zcd.lset_older q1) (fun b hb=>q7 b hb) _ ?_ hblk
        refine⟨v',us++nus,by simp[lset],by rw[List.length_append]; exact ho,q3,?_,?_,?_,?_⟩
        ·intro x hx
         rcases List.mem_append.1 hx with h | h
         ·exact q4 x h
         ·exact hall x h
        ·rw[List.flatten_append]
         exact zt3 (by rw[zb8 q4]; exact q2.1) q5 hnv
        ·intro x hx
         rcases List.mem_append.1 hx with h | h
         ·exact q6 x h
         ·exact hnone x h
        ·intro b hb o
         rcases hblk b hb with h | h
         ·exact q7 b h o
         ·cases hI:I b o with
          | none=>rfl
          | some u=>exact absurd (hs.mem.lt hI) (by omega)
       rcases hnm with rfl | ⟨bb,off,rfl,hI⟩
       ·-- nothing is appended
        have h0:ns.length=0:=by
         have:ns.flatten.length=0:=by rw[←hnl]; rfl
         rw[hnfl] at this
         rcases Nat.mul_eq_zero.1 this with h | h
         ·exact h
         ·omega
        rcases q2.2 with ⟨rfl,hn0⟩ | ⟨g,cp,cur,rfl,hbg,hg,hnc,hcm,hcs,htake⟩
        ·refine finish (.slice none 0 0) w ?_ ?_ ⟨rfl,rfl,rfl,Nat.le_refl _,fun _ _ _=>rfl⟩ (fun b hb=>.inl hb) rfl
         ·simp[Builtin.append_,run_underlying hu,sizeOf,typeInfo,hi,Builtin.lenOf,h0]
          cases bo<;>simp[Builtin.firstCells,loadCells,loadCellsFrom]
         ·rw[List.append_nil,h0,Nat.add_zero]; exact q2
        ·refine finish (.slice (some ⟨g,0,none⟩) es.length cp) w ?_ ?_ ⟨rfl,rfl,rfl,Nat.le_refl _,fun _ _ _=>rfl⟩ (fun b hb=>.inl hb) rfl
         ·simp[Builtin.append_,run_underlying hu,sizeOf,typeInfo,hi,Builtin.lenOf,h0,hnc]
          cases bo<;>simp[Builtin.firstCells,loadCells,loadCellsFrom,storeCells]
         ·rw[List.append_nil,h0,Nat.add_zero]; exact q2
       ·have hnews:∀ (j:Nat) v,nus[j]? = some v→w.cell? ((⟨bb,off,none⟩:Addr).add j)=some v:=fun j v hj=>by rw[Addr.add_mid]; exact hI j v hj
        have hnl':nus.length=ns.length * sz:=by rw[hnl,hnfl]
        obtain⟨v',w',hr,ho,hg,_⟩:=run_append_own (P:=P) w C.B t1 ty e i z sz by' hu hi hz hsz hby hzc hpos x es.length us q2 ⟨bb,off,none⟩ ns.length cap nus hnl' hnews hnone hmax hb hs.leB
        refine finish v' w' hr ho hg ?_ ?_
        ·rcases q2.2 with ⟨rfl,hn0⟩ | ⟨g,cp,cur,rfl,hbg,hgg,hnc,hcm,hcs,htake⟩
         ·by_cases hm0:ns.length=0
          ·have hr2:(Builtin.append_ #[t1,t1] ty #[.slice none 0 0,.slice (some ⟨bb,off,none⟩) ns.length cap]).run P w = .ok (.slice none 0 0) w:=by
            have:nus=[]:=List.length_eq_zero_iff.1 (by rw[hnl',hm0,Nat.zero_mul])
            simp[Builtin.append_,run_underlying hu,sizeOf,typeInfo,hi,Builtin.lenOf,hm0,Builtin.firstCells,loadCells,loadCellsFrom]
           rw[hr2] at hr
           simp only[Result.ok.injEq] at hr
           obtain⟨rfl,rfl⟩:=hr
           intro b hb; exact .inl hb
          ·obtain⟨cp,rest,hr2,_⟩:=zlc (P:=P) (ty:=ty) hu hi hz hsz none ⟨bb,off,none⟩ ns.length cap nus w hnl' hnews (by omega) (by rw[hby]; rw[hn0,Nat.zero_add] at hb; exact hb) (by simp only[maxLen] at hmax; omega)
           rw[hr2] at hr
           simp only[Result.ok.injEq] at hr
           obtain⟨rfl,rfl⟩:=hr
           intro b hb
           simp only[Value.ownBlock,Option.some.injEq] at hb
           subst hb
           exact .inr ⟨Nat.le_refl _,by simp⟩
         ·by_cases hroom:es.length+ns.length≤cp
          ·have hfit:es.length * i.size+nus.length≤cur.size:=by rw[hnl',hcs,hsz,←Nat.add_mul]; exact Nat.mul_le_mul_right _ hroom
           have hr2:=run_append_room (P:=P) w t1 ty e i hu hi g es.length cp cur hgg ⟨bb,off,none⟩ ns.length cap nus (by rw[hsz]; exact hnl') hnews hnone hroom hfit
           rw[hr2] at hr
           simp only[Result.ok.injEq] at hr
           obtain⟨rfl,rfl⟩:=hr
           intro b hb; exact .inl hb
          ·have holds:∀j u,us[j]? = some u→w.cell? ((⟨g,0,none⟩:Addr).add j)=some u:=q2.cells (g:=g) rfl
           have hr2:=run_append_grow (P:=P) w t1 ty e i z hu hi hz ⟨g,0,none⟩ es.length cp us (by rw[hsz]; exact q2.1) holds ⟨bb,off,none⟩ ns.length cap nus (by rw[hsz]; exact hnl') hnews (by omega) (by simp only[maxLen] at hmax; omega)
            (growslice_fits (by omega) (by rw[hby]; exact hb))
           rw[hr2] at hr
           simp only[Result.ok.injEq] at hr
           obtain⟨rfl,rfl⟩:=hr
           intro b hb
           simp only[Value.ownBlock,Option.some.injEq] at hb
           subst hb
           exact .inr ⟨Nat.le_refl _,by simp⟩
        ·rcases ho.2 with ⟨rfl,_⟩ | ⟨_,_,_,rfl,_⟩<;>rfl
    ·cases h
   ·cases h
  ·cases h
 ·cases h

end Go.Abs
namespace Go.Abs
open Go.RowKit

variable {P:Program} {I:Mem} {L:zbl}

theorem zqj {us un:List Value} {off:Nat} (h1:∀x∈us,x.oneCell'=true) (h2:∀x∈un,x.oneCell'=true):∀x∈splice us off un,x.oneCell'=true:=fun x hx=>by
 unfold splice at hx
 simp only[List.mem_append] at hx
 rcases hx with (hx | hx) | hx
 ·exact h1 x (List.mem_of_mem_take hx)
 ·exact h2 x hx
 ·exact h1 x (List.mem_of_mem_drop hx)

theorem zs1 {α : Type} {sz : Nat} : ∀ {es : List (List α)} (_ : ∀ e ∈ es, e.length = sz) (i : Nat) (_ : i < es.length) (off : Nat) (ps : List α) (_ : off + ps.length ≤ sz),
  (es.set i (splice (es.getD i []) off ps)).flatten=splice es.flatten (i * sz+off) ps
 | [],_,i,hi,_,_,_=>by simp at hi
 | e :: es,h,0,_,off,ps,hle=>by
  have he:=h e (by simp)
  simp only[List.set_cons_zero,List.getD_cons_zero,List.flatten_cons,Nat.zero_mul,Nat.zero_add,splice]
  have e1:(e++es.flatten).take off=e.take off:=by rw[List.take_append_of_le_length (by omega)]
  have e2:(e++es.flatten).drop (off+ps.length)=e.drop (off+ps.length)++es.flatten:=by rw[List.drop_append_of_le_length (by omega)]
  rw[e1,e2]
  simp
 | e :: es,h,i+1,hi,off,ps,hle=>by
  have he:=h e (by simp)
  have ih:=zs1 (es:=es) (fun x hx=>h x (by simp[hx])) i (by simpa using hi) off ps hle
  simp only[List.set_cons_succ,List.getD_cons_succ,List.flatten_cons]
  rw[ih]
  have hm:(i+1) * sz+off=e.length+(i * sz+off):=by rw[he,Nat.add_mul]; omega
  rw[hm]
  unfold splice
  have e2:e.length+(i * sz+off)+ps.length=e.length+(i * sz+off+ps.length):=by omega
  rw[e2,List.take_length_add_append,List.drop_length_add_append]
  simp

theorem zsn {α:Type} {l x:List α} {off n:Nat} (h:off+x.length≤n) (hn:n≤l.length):(splice l off x).take n=splice (l.take n) off x:=by
 apply List.ext_getElem?
 intro j
 unfold splice
 simp only[List.getElem?_take,List.append_assoc,List.getElem?_append,List.length_take,List.getElem?_drop]
 by_cases h1:j<off
 ·have a1:j<n:=by omega
  have a2:j<min off l.length:=by omega
  have a3:j<min off (min n l.length):=by omega
  rw[if_pos a1,if_pos a2,if_pos a3,if_pos h1,if_pos h1,if_pos a1]
 ·have a2:¬ j<min off l.length:=by omega
  have a3:¬ j<min off (min n l.length):=by omega
  have e1:min off l.length=off:=by omega
  have e2:min off (min n l.length)=off:=by omega
  rw[if_neg a2,if_neg a3,e1,e2]
  by_cases h2:j - off<x.length
  ·rw[if_pos h2,if_pos h2,if_pos (show j<n by omega)]
  ·rw[if_neg h2,if_neg h2]
   have e3:off+x.length+(j - off - x.length)=j:=by omega
   rw[e3]

theorem z26 {us un : List Value} {cs cn : List PV} {off : Nat} (hl : us.length = cs.length) (hn : un.length = cn.length)
  (hv:∀ (j:Nat) u c,us[j]? = some u→cs[j]? = some c→VR I u c) (hw:∀ (j:Nat) u c,un[j]? = some u→cn[j]? = some c→VR I u c) :
  ∀ (j:Nat) u c,(splice us off un)[j]? = some u→(splice cs off cn)[j]? = some c→VR I u c:=zpz hl hn hv hw

theorem zz1 {s:Sem Unit} {w w':World} (h:s.run P w = .ok () w'):(do s; pure .skip:Sem Next).run P w = .ok .skip w':=by simp[h]

theorem zn7 {s:Sem Value} {u:Value} {w w':World} (h:s.run P w = .ok u w'):(do pure (.value (←s)):Sem Next).run P w = .ok (.value u) w':=by simp[h]

theorem zbar {o : Oper} {ρ : Operand → AV} {v : AV} {pre : Prop} {H H' : za} (h : exW P o ρ H = some (pre, v, H')) (hp : pre) {C : Ctx} {env : Env} {tm : Array Value} {w : World}
  (hs:Sim C env H I L tm w) {σ:Operand→Value} (hσ:∀x,AVR I L (σ x) (ρ x)):zg1 P C H I L w ((execOp σ o).run P w) v H':=by
 unfold exW at h
 unfold execOp
 split at h
 ·rename_i t a x hop
  simp only[hop]
  have ha:=hσ a
  have hx:=hσ x
  generalize σ a=ua at ha ⊢
  generalize ρ a=av at h ha
  generalize σ x=ux at hx ⊢
  generalize ρ x=xv at h hx
  split at h
  ·rename_i n hn
   split at h
   ·rename_i hc
    obtain⟨hlen,hall⟩:=hc
    obtain⟨us,u1,u2,u3,u4⟩:=zwe hx hall
    split at h
    ·rename_i id off
     split at h
     ·rename_i cs hH
      split at h
      ·rename_i hle
       simp only[Option.some.injEq,Prod.mk.injEq] at h
       obtain⟨_,h2,h3⟩:=h
       subst h2 h3
       obtain⟨b,arr,e,g1,g2,g3,g4,g5,g6⟩:=hs.chunk id _ hH
       cases ha with
       | ptr _ b' _ hl =>
        rw[g1] at hl
        simp only[Option.some.injEq,Loc.box.injEq] at hl
        subst hl
        have hr:=zra hn u1 (by omega) g2 (off:=off) (by omega) u4
        refine⟨undef,_,I,lset L id (.box b),.inr ⟨zz1 hr,rfl⟩,.dead _,fun env tm hs=>?_⟩
        refine hs.turn (zke _ (hs.blkB id _ b g1 rfl).1) g1 (fun k hk hne=>setRow_other w b k _ (fun e=>hne (by rw[e]; rfl))) (zcd.lset_same g1) (fun k hk o=>by
         simp only[Loc.blk,Option.some.injEq] at hk; subst hk; exact g6 o) _ ?_ (fun k hk=>.inl hk)
        refine⟨b,(splice arr.toList off us).toArray,e,by simp[lset],setRow_heap w b arr _ e _ g2,?_,?_,?_,g6⟩
        ·simp only[List.size_toArray]
         rw[zeh (by simp; omega),zeh (by omega)]
         simpa using g3
        ·intro j u c hu hc
         have:=zpz (R:=AVR I L) (us:=arr.toList) (cs:=cs) (off:=off) (un:=us) (cn:=avCells xv) (by simpa using g3) u2 (fun j u c hu hc=>g4 j u c (by simpa using hu) hc) u3 j u c (by simpa using hu) hc
         exact this.mono (Mem.sub_refl I) (zcd.lset_same g1)
        ·intro j u hu
         refine zqj (us:=arr.toList) (un:=us) (off:=off) (fun x hx=>?_) u4 u (List.mem_of_getElem? (by simpa using hu))
         obtain⟨k,hk⟩:=List.mem_iff_getElem?.1 hx
         exact g5 k x (by simpa using hk)
      ·cases h
     ·cases h
    ·rename_i id ver i off
     split at h
     ·rename_i v0 e sz es ps hH hps
      split at h
      ·rename_i hv
       subst hv
       simp only[Option.some.injEq,Prod.mk.injEq] at h
       obtain⟨h1,h2,h3⟩:=h
       subst h1 h2 h3
       obtain⟨hi,hoff⟩:=hp
       have hcs:=zks hps
       rw[hcs] at u2 u3 hlen
       simp only[List.length_map] at u2 hlen
       obtain⟨hdr,cs,q1,q2,q3,q4,q5,q6,q7⟩:=hs.chunk id _ hH
       cases ha with
       | rptr _ _ _ v1 _ _ hdr1 sz1 hl hle hh hone =>
        rw[q1] at hl
        simp only[Option.some.injEq,Loc.row.injEq] at hl
        obtain⟨r1,r2,r3⟩:=hl
        subst r1 r2 r3
        obtain⟨g,o,n',cap,e1,e2⟩:=hh rfl
        subst e1 e2
        rcases q2.2 with ⟨hbad,_⟩ | ⟨g',cp,cur,heq,hbg,hgg,hnc,hcm,hcz,htake⟩
        ·cases hbad
        simp only[Value.slice.injEq,Option.some.injEq,Addr.mk.injEq] at heq
        obtain⟨⟨e3,e0,_⟩,e4,e5⟩:=heq
        subst e3 e0 e4 e5
        rw[Nat.zero_add]
        have hmul:(i+1) * sz≤es.length * sz:=Nat.mul_le_mul_right _ hi
        have hmul':(i+1) * sz=i * sz+sz:=by rw[Nat.add_mul]; omega
        have hcap:es.length * sz≤cur.size:=by rw[hcz]; exact Nat.mul_le_mul_right _ hnc
        have hr:=zra hn u1 (by omega) hgg (off:=i * sz+off) (by omega) u4
        refine⟨undef,_,I,lset L id (.row v0 (.slice (some ⟨g,0,none⟩) es.length cap) sz),.inr ⟨zz1 hr,rfl⟩,.dead _,fun env tm hs=>?_⟩
        refine hs.turn (zke _ (hs.blkB id _ g q1 rfl).1) q1 (fun k hk hne=>setRow_other w g k _ (fun e=>hne (by rw[e]; rfl))) (zcd.lset_same q1) (fun k hk=>q7 k hk) _ ?_ (fun k hk=>.inl hk)
        have hfl:=zb8 q4
        have hcl:cs.length=es.length * sz:=q2.1
        have htk:(splice cur.toList (i * sz+off) us).take (es.length * sz)=splice cs (i * sz+off) us:=by
         rw[zsn (by omega) (by simpa using hcap),htake]
        refine⟨.slice (some ⟨g,0,none⟩) es.length cap,splice cs (i * sz+off) us,by simp[lset],⟨?_,.inr ⟨g,cap,(splice cur.toList (i * sz+off) us).toArray,by rw[List.length_set],hbg,setRow_heap w g cur _ e _ hgg,by rw[List.length_set]; exact hnc,hcm,?_,?_⟩⟩,q3,?_,?_,zqj q6 u4,q7⟩
        ·rw[List.length_set,zeh (by omega)]; exact hcl
        ·simp only[List.size_toArray]
         rw[zeh (by simp only[Array.length_toList]; omega)]
         simpa using hcz
        ·rw[List.length_set]; exact htk
        ·intro y hy
         rcases List.mem_or_eq_of_mem_set hy with h | h
         ·exact q4 y h
         ·subst h
          have hm:(es.getD i []).length=sz:=q4 _ (by
           have:es.getD i []=es[i]:=by simp[hi]
           rw[this]; exact List.getElem_mem _)
          rw[zeh (by omega)]; exact hm
        ·rw[zs1 q4 i hi off ps (by omega)]
         exact z26 (by omega) (by omega) q5 (zpt u3)
      ·cases h
     ·cases h
    ·cases h
   ·cases h
  ·cases h
 ·rename_i e hop
  simp only[hop]
  split at h
  ·rename_i d hd
   split at h
   ·rename_i zs hH hz
    split at h
    ·rename_i hone
     simp only[Option.some.injEq,Prod.mk.injEq] at h
     obtain⟨_,h2,h3⟩:=h
     subst h2 h3
     obtain⟨z,hzr,hzc⟩:=zpr hz w
     obtain⟨zr,z1⟩:=zzb (I:=I) (L:=L) zs hone
     obtain⟨n1,n2⟩:=z2g hs hH (us:=zs) e (by simp) zr z1
     refine⟨_,_,I,_,.inl (zn7 ?_),n1,n2⟩
     simp[Instr.alloc,hzr,newVar,newRow,newObj,Sem.run,hzc]
    ·cases h
   ·cases h
  ·cases h
 ·rename_i e x hop
  simp only[hop]
  split at h
  ·rename_i d hd
   split at h
   ·rename_i hH
    split at h
    ·rename_i hall
     simp only[Option.some.injEq,Prod.mk.injEq] at h
     obtain⟨_,h2,h3⟩:=h
     subst h2 h3
     obtain⟨us,u1,u2,u3,u4⟩:=zwe (hσ x) hall
     obtain⟨n1,n2⟩:=z2g hs hH e u2 u3 u4
     refine⟨_,_,I,_,.inl (zn7 ?_),n1,n2⟩
     simp[Instr.box,newVar,newRow,newObj,Sem.run,u1]
    ·cases h
   ·cases h
  ·cases h
 ·rename_i c hop
  simp only[hop]
  split at h
  ·rename_i t1 t2 a b hc ht ha
   have hat:c.argTypes = #[t1,t2]:=by rw[←Array.toArray_toList (xs:=c.argTypes),ht]
   cases hca:c.args.toList with
   | nil=>simp[hca] at ha
   | cons x r =>
    cases r with
    | nil=>simp[hca] at ha
    | cons y r =>
     have hr0:r=[]:=by simpa[hca] using congrArg List.length ha
     subst hr0
     have hxy:ρ x=a∧ρ y=b:=by simpa[hca] using ha
     have hargs:c.args = #[x,y]:=by rw[←Array.toArray_toList (xs:=c.args),hca]
     refine z5r (ty:=o.type) h hp hs (hxy.1 ▸ hσ x) (hxy.2 ▸ hσ y) (fun w=>?_)
     simp[resolve,hc,invoke,builtin,hat,hargs]
  ·cases h
 ·cases h

end Go.Abs
namespace Go.Abs
open Go.RowKit

variable {P:Program} {I:Mem} {L:zbl}

def exN (P:Program) (o:Oper) (ρ:Operand→AV) (H:za) (d:Nat):Option (Prop×AV×za):=match H d with
 | some _=>none
 | none=>match o.op with
  | .buildSlice t n parts=>match bsliceE P t n (parts.toList.map fun x=>(x.1,ρ x.2)) with
   | some (e,es)=>match tySize P e with
    | some sz=>some (True,.row d 0,hset H d (.row 0 e sz es))
    | none=>none
   | none=>none
  | .makeSlice t l c=>match ρ l,ρ c,slElem P t with
   | .p (.val (.int _ n)),.p (.val (.int _ m)),some e=>match tySize P e,tyZero P e,tyBytes P e with
    | some sz, some zs, some by' => if zs.length = sz ∧ 0 < sz ∧ 0 < by' ∧ zs.all (·.oneCell') = true then
      some ((0≤n∧m=n)∧n * by'≤140737488355328,.row d 0,hset H d (.row 0 e sz (List.replicate n.toNat (zs.map PV.val)))) else none
    | _,_,_=>none
   | _,_,_=>none
  | .call c=>match c.callee,c.argTypes.toList,c.args.toList.map ρ with
   | .builtin .append,[t1,t2],[a,b]=>match a,appTypes P t1 t2,srcOf H b with
    | .p (.val (.slice none 0 0)),some (e,sz,by'),some es=>some (es.length * by'≤140737488355328∧∀x∈es,x.length=sz,.row d 0,hset H d (.row 0 e sz es))
    | _,_,_=>none
   | _,_,_=>none
  | _=>none

theorem z6g {n:Int} (h0:0≤n) (h:n≤9223372036854775807):IntKind.i64.wrap n=n:=IntWalk.i64_in n (by omega)

theorem zu6 {C : Ctx} {H : za} {env : Env} {tm : Array Value} {w : World} (hs : Sim C env H I L tm w) {d : Nat} (hd : H d = none) (e : TypeId) {sz : Nat} (hpos : 0 < sz) :
  AVR I (lset L d (.row 0 (.slice none 0 0) sz)) (.slice none 0 0) (.row d 0)∧Fr C I L H w I (lset L d (.row 0 (.slice none 0 0) sz)) (hset H d (.row 0 e sz [])) w∧zcd L (lset L d (.row 0 (.slice none 0 0) sz)):=by
 refine⟨.row _ d 0 0 (.slice none 0 0) sz (by simp[lset]) (Nat.le_refl _) (fun _=>rfl) rfl,fun env tm hs=>?_,zcd.lset_new (hs.dom_none hd) _⟩
 refine hs.new (Below.refl _ _) (fun _ _=>rfl) hd _ _ ?_ (fun b hb=>by simp[Loc.blk,Value.ownBlock] at hb)
 exact⟨.slice none 0 0,[],by simp[lset],⟨by simp,.inl ⟨rfl,rfl⟩⟩,hpos,by simp,by simp,by simp,fun b hb=>by simp[Value.ownBlock] at hb⟩

theorem z58 {o : Oper} {ρ : Operand → AV} {v : AV} {pre : Prop} {H H' : za} {d : Nat} (h : exN P o ρ H d = some (pre, v, H')) (hp : pre) {C : Ctx} {env : Env} {tm : Array Value} {w : World}
  (hs:Sim C env H I L tm w) {σ:Operand→Value} (hσ:∀x,AVR I L (σ x) (ρ x)):zg1 P C H I L w ((execOp σ o).run P w) v H':=by
 unfold exN at h
 unfold execOp
 split at h
 ·cases h
 rename_i hd
 split at h
 ·rename_i t n parts hop
  simp only[hop]
  split at h
  ·rename_i e es hb
   split at h
   ·rename_i sz hsz
    simp only[Option.some.injEq,Prod.mk.injEq] at h
    obtain⟨_,h2,h3⟩:=h
    subst h2 h3
    obtain⟨uo,sz',hr,hel,hsz',hpos,hn,hall,hl,hv,hone⟩:=zmj hb (zn8 hσ parts.toList) w
    rw[hsz] at hsz'
    simp only[Option.some.injEq] at hsz'
    subst hsz'
    have hr':(Instr.buildSlice t n (parts.map fun x=>(x.1,σ x.2))).run P w = .ok (.slice (some ⟨w.heap.size,0,none⟩) n n) (w.alloc (.cells uo.toArray e)):=by
     rw[←hr]
     congr 2
     apply Array.ext'; simp
    have hfl:=zb8 hall
    have hmax:n≤maxLen:=by
     unfold bsliceE at hb
     rw[hel] at hb
     simp only[hsz] at hb
     split at hb
     ·split at hb
      ·rename_i hc
       rename_i q1 q2
       simp only[Option.some.injEq] at q1
       subst q1
       have:=Nat.le_mul_of_pos_right n hc.2.1
       simp only[maxLen]; omega
      ·cases hb
     ·cases hb
    subst hn
    obtain⟨n1,n2⟩:=zu0 hs hd (us:=uo) (es:=es) (e:=e) (sz:=sz) (cap:=es.length) (arr:=uo.toArray) (.inl rfl) (by simp[hl,hfl]) hmax (by simp[hl,hfl,List.take_of_length_le]) hpos hall hl hv hone (Nat.le_refl _)
    exact⟨_,_,I,_,.inl (zn7 hr'),n1,n2⟩
   ·cases h
  ·cases h
 ·rename_i t l c hop
  simp only[hop]
  split at h
  ·rename_i k n k' m e hln hcn he
   split at h
   ·rename_i sz zs by' hsz hz hby
    split at h
    ·rename_i hc
     obtain⟨hzl,hpos,hbpos,hone⟩:=hc
     simp only[Option.some.injEq,Prod.mk.injEq] at h
     obtain⟨h1,h2,h3⟩:=h
     subst h1 h2 h3
     obtain⟨⟨h0,hmn⟩,hb⟩:=hp
     subst hmn
     obtain⟨a,rfl⟩:=Int.eq_ofNat_of_zero_le h0
     simp only[Int.toNat_natCast]
     have hlv:=(hln ▸ hσ l).of_val.1
     have hcv:=(hcn ▸ hσ c).of_val.1
     obtain⟨z,hzr,hzc⟩:=zpr hz w
     obtain⟨i,z',hi,hz',hzc'⟩:=zot hz
     have hbi:i.bytes=by':=by simpa[tyBytes,hi] using hby
     have hbn:a * by'≤140737488355328:=by
      have:((a * by':Nat):Int)≤140737488355328:=by rw[Int.natCast_mul]; exact hb
      omega
     have ha:a≤140737488355328:=by
      have:=Nat.le_mul_of_pos_right a hbpos
      omega
     have hw:IntKind.i64.wrap (a:Int)=a:=z6g (by omega) (by omega)
     have harr:((Array.range (a * sz)).map (fun i=>zs.toArray[i % zs.toArray.size]!))=(List.replicate a zs).flatten.toArray:=by rw[←hzl]; exact zv7 zs a (by omega)
     have hall:∀x∈List.replicate a (zs.map PV.val),x.length=sz:=fun x hx=>by rw[List.eq_of_mem_replicate hx]; simpa using hzl
     have hrep:∀x∈List.replicate a zs,x.length=sz:=fun x hx=>by rw[List.eq_of_mem_replicate hx]; exact hzl
     have hfl:=zb8 hrep
     simp only[List.length_replicate] at hfl
     have hrun:(Instr.makeSlice t (.int k a) (.int k' a)).run P w = .ok (.slice (some ⟨w.heap.size,0,none⟩) a a) (w.alloc (.cells ((List.replicate a zs).flatten.toArray) e)):=by
      have hlarge:¬ ((281474976710656:Int)<(by':Int) * (a:Int)):=by
       have:(by':Int) * (a:Int)=((a * by':Nat):Int):=by rw[Int.natCast_mul,Int.mul_comm]
       rw[this]; omega
      have hroom:∀w:World,(askRoom (a * by')).run P w = .ok () w:=fun w=>by
       unfold askRoom
       split<;>simp[mark,Sem.run]
      by_cases hn0:a * sz=0
      ·have ha0:a=0:=by
        rcases Nat.mul_eq_zero.1 hn0 with h | h
        ·exact h
        ·omega
       subst ha0
       simp only[Instr.makeSlice,Sem.run_bind,run_underlying (ze2 he),Result.andThen_ok,asInt,asIntOf,Sem.run_pure,typeInfo,program,Sem.run,hi,hbi,hw]
       simp[zde hsz,askRoom,roomBytes,newRow,newObj,Sem.run]
       have hr0:(Array.range 0).map (fun _:Nat=>(default:Value)) = #[]:=Array.eq_empty_of_size_eq_zero (by simp)
       rw[hr0]
      ·simp only[Instr.makeSlice,Sem.run_bind,run_underlying (ze2 he),Result.andThen_ok,asInt,asIntOf,Sem.run_pure,typeInfo,program,Sem.run,hi,hbi,hw]
       have hneg:¬ ((a:Int)<0):=by omega
       simp[hlarge,hneg,hroom,newRow,newObj,Sem.run]
       rw[zde hsz]
       simp only[Result.andThen_ok]
       rw[if_neg hn0,hzr]
       simp only[Result.andThen_ok,hzc,harr]
     have hus:∀u∈(List.replicate a zs).flatten,u.oneCell'=true:=fun u hu=>by
      obtain⟨x,hx,hux⟩:=List.mem_flatten.1 hu
      rw[List.eq_of_mem_replicate hx] at hux
      exact List.all_eq_true.1 hone u hux
     have hmapf:(List.replicate a (zs.map PV.val)).flatten=(List.replicate a zs).flatten.map PV.val:=by simp[List.map_flatten]
     obtain⟨n1,n2⟩:=zu0 hs hd (us:=(List.replicate a zs).flatten) (es:=List.replicate a (zs.map PV.val)) (e:=e) (sz:=sz) (cap:=a) (arr:=(List.replicate a zs).flatten.toArray) (.inl rfl)
      (by simpa using hfl) (by simp only[maxLen]; omega) (by rw[List.length_replicate,List.take_of_length_le (by simp only[]; omega)]) hpos hall (by rw[hmapf,List.length_map])
      (fun j u c hu hc=>by
       rw[hmapf,List.getElem?_map,hu] at hc
       simp at hc; subst hc
       exact .val u (hus u (List.mem_of_getElem? hu))) hus (by simp)
     rw[List.length_replicate] at n1 n2
     exact⟨_,_,I,_,.inl (zn7 (by rw[hlv,hcv]; exact hrun)),n1,n2⟩
    ·cases h
   ·cases h
  ·cases h
 ·rename_i c hop
  simp only[hop]
  split at h
  ·rename_i t1 t2 a b hc ht ha
   split at h
   ·rename_i e sz by' es hty hsrc
    simp only[Option.some.injEq,Prod.mk.injEq] at h
    obtain⟨h1,h2,h3⟩:=h
    subst h1 h2 h3
    obtain⟨hb,hall⟩:=hp
    have hat:c.argTypes = #[t1,t2]:=by rw[←Array.toArray_toList (xs:=c.argTypes),ht]
    cases hca:c.args.toList with
    | nil=>simp[hca] at ha
    | cons x r =>
     cases r with
     | nil=>simp[hca] at ha
     | cons y r =>
      have hr0:r=[]:=by simpa[hca] using congrArg List.length ha
      subst hr0
      have hxy:ρ x = .p (.val (.slice none 0 0))∧ρ y=b:=by simpa[hca] using ha
      have hargs:c.args = #[x,y]:=by rw[←Array.toArray_toList (xs:=c.args),hca]
      obtain⟨rfl,hu,hpos,hbpos,i,z,hi,hz,hsz,hby,hzc⟩:=zka hty
      have hxe:=(hxy.1 ▸ hσ x).of_val.1
      have hye:AVR I L (σ y) b:=hxy.2 ▸ hσ y
      have hexec:∀w,(do let d ←resolve σ c o.type; invoke d.target d.args:Sem Next).run P w=((Builtin.append_ #[t1,t1] o.type #[σ x,σ y]).run P w).andThen fun u w'=>.ok (.value u) w':=fun w=>by
       simp[resolve,hc,invoke,builtin,hat,hargs]
      generalize σ y=uy at hye hexec
      obtain⟨bo,cap,us,hys,hl,hv,hone,hm,hcap⟩:=zyh hs hsrc hye
      ·subst hys
       by_cases h0:es.length=0
       ·have he:es=[]:=List.length_eq_zero_iff.1 h0
        subst he
        have hrun:(Builtin.append_ #[t1,t1] o.type #[.slice none 0 0,.slice bo 0 cap]).run P w = .ok (.slice none 0 0) w:=by
         cases bo<;>simp[Builtin.append_,run_underlying hu,sizeOf,typeInfo,hi,Builtin.lenOf,Builtin.firstCells,loadCells,loadCellsFrom]
        obtain⟨n1,n2,_⟩:=zu6 hs hd e hpos
        exact⟨_,_,I,_,.inl (by rw[hexec,hxe,List.length_nil,hrun]; rfl),n1,n2⟩
       ·have hfl:=zb8 hall
        rcases hm with rfl | ⟨bb,off,rfl,hI⟩
        ·exfalso
         have hz0:es.flatten.length=0:=by rw[←hl]; rfl
         rw[hfl] at hz0
         rcases Nat.mul_eq_zero.1 hz0 with h | h<;>omega
        ·have hmb:es.length≤140737488355328:=by
          have:=Nat.le_mul_of_pos_right es.length hbpos
          omega
         obtain⟨cp,rest,hr,hcp,hrl,hcm⟩:=zlc (P:=P) (ty:=o.type) hu hi hz hsz none ⟨bb,off,none⟩ es.length cap us w (by rw[hl,hfl]) (fun j v hjv=>by
          rw[Addr.add_mid]; exact hI j v hjv) (by omega) (by rw[hby]; exact hb) (by omega)
         have hcz:(us++rest).toArray.size=cp * sz:=by
          simp only[List.size_toArray]
          rw[hrl,hzc,←Nat.add_mul]
          congr 1
          omega
         obtain⟨n1,n2⟩:=zu0 (w':=w.drew.alloc (.cells (us++rest).toArray e)) hs hd (us:=us) (es:=es) (e:=e) (sz:=sz) (cap:=cp) (arr:=(us++rest).toArray) (.inr rfl) hcz hcm
          (by rw[List.take_left' (by rw[hl,hfl])]) hpos hall hl hv hone hcp
         exact⟨_,_,I,_,.inl (by rw[hexec,hxe,hr]; rfl),n1,n2⟩
   ·cases h
  ·cases h
 ·cases h

end Go.Abs
namespace Go.Abs
open Go.RowKit

variable {P:Program} {I:Mem} {L:zbl}

def callable (P:Program) (f:FuncId):Bool:=match P.funcs[f]? with
 | some fn=>fn.name != "runtime.NumGoroutine" && fn.body.isSome
 | none=>false

def zh (P:Program) (f:FuncId) (args:List PV) (Q:PV→Prop):Prop :=
 callable P f=true∧∀ (I:Mem) (w:World) (vs:List Value),I.inW w→VRs I vs args →
  Calls P f vs.toArray w fun e w'=>∃v r I',e = .returned v∧Q r∧VR I' v r∧Below w.heap.size w w'∧I.sub I'∧I'.inW w'∧∀b,b<w.heap.size→∀o,I' b o=I b o

theorem zh.mono {f:FuncId} {args:List PV} {Q Q':PV→Prop} (h:zh P f args Q) (hq:∀r,Q r→Q' r):zh P f args Q' :=
 ⟨h.1,fun I w vs hI hv=>(h.2 I w vs hI hv).mono fun _ _ ⟨v,r,I',h1,h2,h3⟩=>⟨v,r,I',h1,hq r h2,h3⟩⟩

def isVal:PV→Bool
 | .val _=>true
 | _=>false

def PV.scalar:PV→Bool
 | .val _=>true
 | .agg cs=>cs.all isVal
 | .tup vs=>vs.all fun x=>match x with
  | .val _=>true
  | .agg cs=>cs.all isVal
  | _=>false
 | _=>false

theorem VR.isVal {J:Mem} {u:Value} {x:PV} (h:VR J u x) (hx:isVal x=true):VR I u x:=by
 cases h<;>first | exact .val _ (by assumption) | (cases hx; done)

theorem VR.vals {J:Mem} {u:Value} {cs:List PV} (h:VR J u (.agg cs)) (hx:cs.all Abs.isVal=true):VR I u (.agg cs):=by
 cases h with
 | agg us _ hl hv hone =>
  exact .agg us cs hl (fun j u c hu hc=>(hv j u c hu hc).isVal (List.all_eq_true.1 hx c (List.mem_of_getElem? hc))) hone

theorem VR.scalar {J:Mem} {u:Value} {x:PV} (h:VR J u x) (hx:x.scalar=true):VR I u x:=by
 cases x with
 | val v=>exact h.isVal rfl
 | agg cs=>exact h.vals hx
 | tup vs =>
  cases h with
  | tup us _ hl hv =>
   refine .tup us vs hl fun j u c hu hc=>?_
   have h1:=List.all_eq_true.1 hx c (List.mem_of_getElem? hc)
   have h2:=hv j u c hu hc
   cases c with
   | val v=>exact h2.isVal rfl
   | agg cs=>exact h2.vals h1
   | _=>cases h1
 | _=>cases hx

def Sees (L:zbl) (w:World) (J:Mem):Prop:=∀id l b,L id=some l→l.blk=some b→∀o u,w.cell? ⟨b,o,none⟩=some u→J b o=some u

def HSub (H' H:za):Prop:=∀id c,H' id=some c→H id=some c
theorem zmb (H:za):HSub H H:=fun _ _ h=>h
def zsc (G:za) (L:zbl) (w:World) (J:Mem):Prop:=∀id ch,G id=some ch→∀l b,L id=some l→l.blk=some b→∀o u,w.cell? ⟨b,o,none⟩=some u→J b o=some u
theorem Sees.g {w:World} {J:Mem} (h:Sees L w J) (G:za):zsc G L w J:=fun id _ _=>h id

theorem zl5 (L:zbl) (w:World):Sees L w (snap w):=fun _ _ _ _ _ _ _ h=>h

theorem zbii {C : Ctx} {H : za} {env : Env} {tm : Array Value} {w : World} (hs : Sim C env H I L tm w) {J : Mem} (hIJ : I.sub J) {id v sz : Nat} {e : TypeId} {es : List (List PV)}
  (hH:H id=some (.row v e sz es)) (hJ:∀l b,L id=some l→l.blk=some b→∀o u,w.cell? ⟨b,o,none⟩=some u→J b o=some u):∃hdr,L id=some (.row v hdr sz)∧VR J hdr (.lst es):=by
 obtain⟨hdr,us,h1,h2,h3,h4,h5,h6,h7⟩:=hs.chunk id _ hH
 refine⟨hdr,h1,?_⟩
 have hfl:=zb8 h4
 have hlen:us.length=es.flatten.length:=by rw[hfl]; exact h2.1
 rcases h2.2 with ⟨rfl,hn⟩ | ⟨g,cap,cur,rfl,hb,hg,hnc,hcm,hcs,htake⟩
 ·have he:es=[]:=List.length_eq_zero_iff.1 hn
  subst he
  exact .lst none 0 0 [] us sz rfl (by simp) hlen (fun j u c hu hc=>(h5 j u c hu hc).mono hIJ) h6 (.inl (List.length_eq_zero_iff.1 (by simpa using hlen))) (fun _=>⟨rfl,rfl⟩) (Nat.le_refl _)
 ·refine .lst _ _ _ es us sz rfl h4 hlen (fun j u c hu hc=>(h5 j u c hu hc).mono hIJ) h6 (.inr ⟨g,0,rfl,fun j u hu=>?_⟩) (by simp) hnc
  rw[Nat.zero_add]
  refine hJ _ g h1 rfl j u ?_
  rw[zev hg]
  rw[←htake,List.getElem?_take] at hu
  split at hu
  ·simpa using hu
  ·cases hu

def lendR (H:za):AV→Option (PV×Bool)
 | .p x=>some (x,false)
 | .row id ver=>match H id with
  | some (.row v _ _ es)=>if v=ver then some (.lst es,true) else none
  | some (.shut v es)=>if v=ver then some (.lst es,false) else none
  | _=>none
 | _=>none

def lendL (f:AV→Option (PV×Bool)):List AV→Option (List PV×Bool)
 | []=>some ([],false)
 | a :: r=>match f a,lendL f r with
  | some (x,b),some (xs,c)=>some (x :: xs,b||c)
  | _,_=>none

def lend0 (H:za):AV→Option (PV×Bool)
 | .ptr id off=>match H id with
  | some (.box cs)=>match lendL (lendR H) cs with
   | some (ps,_)=>some (.eptr ps off,true)
   | none=>none
  | _=>none
 | a=>lendR H a

def lend1 (H:za):AV→Option (PV×Bool)
 | .agg cs=>match lendL (lend0 H) cs with
  | some (ps,b)=>some (.agg ps,b)
  | none=>none
 | .tup cs=>match lendL (lend0 H) cs with
  | some (ps,b)=>some (.tup ps,b)
  | none=>none
 | .clo fn fs cs=>match lendL (lend0 H) fs,lendL (lend0 H) cs with
  | some (f,b),some (c,d)=>some (.clo fn f c,b||d)
  | _,_=>none
 | a=>lend0 H a

def lend2 (H:za):AV→Option (PV×Bool)
 | .tup cs=>match lendL (lend1 H) cs with
  | some (ps,b)=>some (.tup ps,b)
  | none=>none
 | a=>lend1 H a

def zri (I:Mem) (L:zbl) (J:Mem) (f:AV→Option (PV×Bool)):Prop:=∀u a x b,AVR I L u a→f a=some (x,b)→VR J u x∧(b=false→VR I u x)

theorem zgm {J : Mem} {f : AV → Option (PV × Bool)} (hf : zri I L J f) : ∀ (als : List AV) (ps : List PV) (b : Bool), lendL f als = some (ps, b) → ∀ us : List Value, us.length = als.length →
  (∀ (j:Nat) u c,us[j]? = some u→als[j]? = some c→AVR I L u c)→us.length=ps.length∧(∀ (j:Nat) u c,us[j]? = some u→ps[j]? = some c→VR J u c)∧(b=false→∀ (j:Nat) u c,us[j]? = some u→ps[j]? = some c→VR I u c)
 | [],ps,b,h,us,hl,_=>by
  simp[lendL] at h
  obtain⟨rfl,rfl⟩:=h
  exact⟨hl,by simp,by simp⟩
 | a :: r,ps,b,h,[],hl,_=>by simp at hl
 | a :: r,ps,b,h,u :: us,hl,hv=>by
  simp only[lendL] at h
  split at h
  ·rename_i x b1 xs b2 h1 h2
   simp only[Option.some.injEq,Prod.mk.injEq] at h
   obtain⟨rfl,rfl⟩:=h
   obtain⟨k1,k2,k3⟩:=zgm hf r xs b2 h2 us (by simpa using hl) (fun j u c hu hc=>hv (j+1) u c hu hc)
   obtain⟨m1,m2⟩:=hf u a x b1 (hv 0 u a rfl rfl) h1
   refine⟨by simp[k1],fun j u' c hu hc=>?_,fun hb j u' c hu hc=>?_⟩
   ·cases j with
    | zero=>simp at hu hc; subst hu hc; exact m1
    | succ j=>exact k2 j u' c (by simpa using hu) (by simpa using hc)
   ·have hb':b1=false∧b2=false:=by simpa using hb
    cases j with
    | zero=>simp at hu hc; subst hu hc; exact m2 hb'.1
    | succ j=>exact k3 hb'.2 j u' c (by simpa using hu) (by simpa using hc)
  ·cases h

section
variable {C:Ctx} {H G:za} {env:Env} {tm:Array Value} {w:World} {J:Mem}

theorem zzk (hs:Sim C env H I L tm w) (hG:HSub G H) (hIJ:I.sub J) (hJ:zsc G L w J):zri I L J (lendR G):=by
 intro u a x b hu h
 unfold lendR at h
 split at h
 ·simp only[Option.some.injEq,Prod.mk.injEq] at h
  obtain⟨rfl,rfl⟩:=h
  exact⟨hu.of_p.mono hIJ,fun _=>hu.of_p⟩
 ·rename_i id ver
  split at h
  ·rename_i v e sz es hH
   split at h
   ·rename_i hv
    simp only[Option.some.injEq,Prod.mk.injEq] at h
    obtain⟨rfl,rfl⟩:=h
    subst hv
    obtain⟨hdr,h1,h2⟩:=zbii hs hIJ (hG _ _ hH) (hJ id _ hH)
    cases hu with
    | row _ _ _ v1 hdr1 sz1 hl hle hh hone =>
     rw[h1] at hl
     simp only[Option.some.injEq,Loc.row.injEq] at hl
     obtain⟨r1,r2,r3⟩:=hl
     subst r1 r2 r3
     rw[hh rfl]
     exact⟨h2,fun hb=>by cases hb⟩
   ·cases h
  ·rename_i v es hH
   split at h
   ·rename_i hv
    simp only[Option.some.injEq,Prod.mk.injEq] at h
    obtain⟨rfl,rfl⟩:=h
    subst hv
    obtain⟨hdr,sz,h1,h2,_⟩:=hs.chunk id _ (hG _ _ hH)
    cases hu with
    | row _ _ _ v1 hdr1 sz1 hl hle hh hone =>
     rw[h1] at hl
     simp only[Option.some.injEq,Loc.row.injEq] at hl
     obtain⟨r1,r2,r3⟩:=hl
     subst r1 r2 r3
     rw[hh rfl]
     exact⟨h2.mono hIJ,fun _=>h2⟩
   ·cases h
  ·cases h
 ·cases h

theorem zna (hs:Sim C env H I L tm w) (hG:HSub G H) (hIJ:I.sub J) (hJ:zsc G L w J):zri I L J (lend0 G):=by
 intro u a x b hu h
 unfold lend0 at h
 split at h
 ·rename_i id off
  split at h
  ·rename_i cs hH
   split at h
   ·rename_i ps b1 hps
    simp only[Option.some.injEq,Prod.mk.injEq] at h
    obtain⟨rfl,rfl⟩:=h
    obtain⟨blk,arr,e,g1,g2,g3,g4,g5,g6⟩:=hs.chunk id _ (hG _ _ hH)
    cases hu with
    | ptr _ b' _ hl =>
     rw[g1] at hl
     simp only[Option.some.injEq,Loc.box.injEq] at hl
     subst hl
     obtain⟨k1,k2,_⟩:=zgm (zzk hs hG hIJ hJ) cs ps b1 hps arr.toList (by simpa using g3) (fun j u c hu hc=>g4 j u c (by simpa using hu) hc)
     refine⟨?_,fun hb=>by cases hb⟩
     have:=VR.eptr (I:=J) blk 0 ps arr.toList off k1 k2 (fun u hu=>by
      obtain⟨j,hj⟩:=List.mem_iff_getElem?.1 hu
      exact g5 j u (by simpa using hj)) (fun j u hu=>by
       rw[Nat.zero_add]
       exact hJ id _ hH _ blk g1 rfl j u (by rw[zev g2]; simpa using hu))
     rwa [Nat.zero_add] at this
   ·cases h
  ·cases h
 ·exact zzk hs hG hIJ hJ u _ x b hu h

theorem zjs (hs:Sim C env H I L tm w) (hG:HSub G H) (hIJ:I.sub J) (hJ:zsc G L w J):zri I L J (lend1 G):=by
 intro u a x b hu h
 unfold lend1 at h
 split at h
 ·rename_i cs
  split at h
  ·rename_i ps b1 hps
   simp only[Option.some.injEq,Prod.mk.injEq] at h
   obtain⟨rfl,rfl⟩:=h
   cases hu with
   | agg us _ hl hv hone =>
    obtain⟨k1,k2,k3⟩:=zgm (zna hs hG hIJ hJ) cs ps b1 hps us hl hv
    exact⟨.agg us ps k1 k2 hone,fun hb=>.agg us ps k1 (k3 hb) hone⟩
  ·cases h
 ·rename_i cs
  split at h
  ·rename_i ps b1 hps
   simp only[Option.some.injEq,Prod.mk.injEq] at h
   obtain⟨rfl,rfl⟩:=h
   cases hu with
   | tup us _ hl hv =>
    obtain⟨k1,k2,k3⟩:=zgm (zna hs hG hIJ hJ) cs ps b1 hps us hl hv
    exact⟨.tup us ps k1 k2,fun hb=>.tup us ps k1 (k3 hb)⟩
  ·cases h
 ·rename_i fn fs cs
  split at h
  ·rename_i f b1 c b2 hf hc
   simp only[Option.some.injEq,Prod.mk.injEq] at h
   obtain⟨rfl,rfl⟩:=h
   cases hu with
   | clo _ us vs _ _ hl hl' hv hv' =>
    obtain⟨k1,k2,k3⟩:=zgm (zna hs hG hIJ hJ) fs f b1 hf us hl hv
    obtain⟨m1,m2,m3⟩:=zgm (zna hs hG hIJ hJ) cs c b2 hc vs hl' hv'
    refine⟨.clo fn us vs f c k1 m1 k2 m2,fun hb=>?_⟩
    have hb':b1=false∧b2=false:=by simpa using hb
    exact .clo fn us vs f c k1 m1 (k3 hb'.1) (m3 hb'.2)
  ·cases h
 ·exact zna hs hG hIJ hJ u _ x b hu h

theorem zbcg (hs:Sim C env H I L tm w) (hG:HSub G H) (hIJ:I.sub J) (hJ:zsc G L w J):zri I L J (lend2 G):=by
 intro u a x b hu h
 unfold lend2 at h
 split at h
 ·rename_i cs
  split at h
  ·rename_i ps b1 hps
   simp only[Option.some.injEq,Prod.mk.injEq] at h
   obtain⟨rfl,rfl⟩:=h
   cases hu with
   | tup us _ hl hv =>
    obtain⟨k1,k2,k3⟩:=zgm (zjs hs hG hIJ hJ) cs ps b1 hps us hl hv
    exact⟨.tup us ps k1 k2,fun hb=>.tup us ps k1 (k3 hb)⟩
  ·cases h
 ·exact zjs hs hG hIJ hJ u _ x b hu h
end

def callArgs (o:Oper) (ρ:Operand→AV):Option (FuncId×List AV):=match o.op with
 | .call c=>match c.callee with
  | .value f=>match ρ f with
   | .p (.clo (.func k) fs cs)=>some (k,fs.map AV.p++c.args.toList.map ρ++cs.map AV.p)
   | .clo (.func k) fs cs=>some (k,fs++c.args.toList.map ρ++cs)
   | _=>none
  | _=>none
 | _=>none

theorem zq9 {k:FuncId} (h:callable P k=true) (args:Array Value) (w:World):(callFunc k args).run P w = .ok (.enter k args) w:=by
 unfold callable at h
 split at h
 ·rename_i fn hfn
  simp only[Bool.and_eq_true,bne_iff_ne,ne_eq] at h
  have hb:fn.body.isNone=false:=by
   cases hfb:fn.body with
   | none=>simp[hfb] at h
   | some c=>rfl
  have hn:(fn.name == "runtime.NumGoroutine")=false:=by simpa using h.1
  simp only[callFunc,program,Sem.run_bind,Sem.run,Result.andThen_ok,Sem.run_pure',hfn,hn,hb]
  try rfl
 ·cases h

theorem AVRs.append {us vs:List Value} {als bs:List AV} (h:AVRs I L us als) (k:AVRs I L vs bs):AVRs I L (us++vs) (als++bs):=by
 refine⟨by simp[h.1,k.1],fun j u a hu ha=>?_⟩
 rw[List.getElem?_append] at hu ha
 rw[h.1] at hu
 split at hu
 ·rename_i hj; rw[if_pos hj] at ha; exact h.2 _ _ _ hu ha
 ·rename_i hj; rw[if_neg hj] at ha; exact k.2 _ _ _ hu ha

theorem AVRs.map_p {us:List Value} {ps:List PV} (hl:us.length=ps.length) (h:∀ (j:Nat) u c,us[j]? = some u→ps[j]? = some c→VR I u c):AVRs I L us (ps.map AV.p) :=
 ⟨by simpa using hl,fun j u c hu hc=>by
  rw[List.getElem?_map] at hc
  cases hp:ps[j]? with
  | none=>simp[hp] at hc
  | some p=>simp[hp] at hc; subst hc; exact .p _ _ (h j u p hu hp)⟩

theorem zm7 {o : Oper} {ρ : Operand → AV} {k : FuncId} {als : List AV} (h : callArgs o ρ = some (k, als)) (hk : callable P k = true) {σ : Operand → Value} (hσ : ∀ x, AVR I L (σ x) (ρ x)) (w : World) :
  ∃us:List Value,(execOp σ o).run P w = .ok (.enter k us.toArray) w∧AVRs I L us als:=by
 unfold callArgs at h
 split at h
 ·rename_i c hop
  split at h
  ·rename_i f hc
   have hf:=hσ f
   have hargs:=zki (I:=I) (L:=L) hσ c.args.toList
   have e1:c.args.map σ=(c.args.toList.map σ).toArray:=by apply Array.ext'; simp
   unfold execOp
   simp only[hop]
   generalize hsf:σ f=uf at hf
   generalize ρ f=af at h hf
   split at h
   ·rename_i k' fs cs
    simp only[Option.some.injEq,Prod.mk.injEq] at h
    obtain⟨rfl,rfl⟩:=h
    cases hf.of_p with
    | clo _ us vs _ _ hl hl' hv hv' =>
     refine⟨us++c.args.toList.map σ++vs,?_,((AVRs.map_p hl hv).append hargs).append (AVRs.map_p hl' hv')⟩
     simp only[resolve,hc,hsf,Deferred.ofValue,Sem.run_bind,Sem.run_pure,Result.andThen_ok,invoke,zq9 hk,e1]
     simp
   ·rename_i k' fs cs
    simp only[Option.some.injEq,Prod.mk.injEq] at h
    obtain⟨rfl,rfl⟩:=h
    cases hf with
    | clo _ us vs _ _ hl hl' hv hv' =>
     refine⟨us++c.args.toList.map σ++vs,?_,AVRs.append (AVRs.append (show AVRs I L us fs from ⟨hl,hv⟩) hargs) (show AVRs I L vs cs from ⟨hl',hv'⟩)⟩
     simp only[resolve,hc,hsf,Deferred.ofValue,Sem.run_bind,Sem.run_pure,Result.andThen_ok,invoke,zq9 hk,e1]
     simp
   ·cases h
  ·cases h
 ·cases h

theorem zx0 {o : Oper} {ρ : Operand → AV} {k : FuncId} {als : List AV} (h : callArgs o ρ = some (k, als)) {σ : Operand → Value} (hσ : ∀ x, AVR I L (σ x) (ρ x)) (w : World) :
  ∃us:List Value,(execOp σ o).run P w=(callFunc k us.toArray).run P w∧AVRs I L us als:=by
 unfold callArgs at h
 split at h
 ·rename_i c hop
  split at h
  ·rename_i f hc
   have hf:=hσ f
   have hargs:=zki (I:=I) (L:=L) hσ c.args.toList
   have e1:c.args.map σ=(c.args.toList.map σ).toArray:=by apply Array.ext'; simp
   unfold execOp
   simp only[hop]
   generalize hsf:σ f=uf at hf
   generalize ρ f=af at h hf
   split at h
   ·rename_i k' fs cs
    simp only[Option.some.injEq,Prod.mk.injEq] at h
    obtain⟨rfl,rfl⟩:=h
    cases hf.of_p with
    | clo _ us vs _ _ hl hl' hv hv' =>
     refine⟨us++c.args.toList.map σ++vs,?_,((AVRs.map_p hl hv).append hargs).append (AVRs.map_p hl' hv')⟩
     simp only[resolve,hc,hsf,Deferred.ofValue,Sem.run_bind,Sem.run_pure,Result.andThen_ok,invoke,e1]
     simp
   ·rename_i k' fs cs
    simp only[Option.some.injEq,Prod.mk.injEq] at h
    obtain⟨rfl,rfl⟩:=h
    cases hf with
    | clo _ us vs _ _ hl hl' hv hv' =>
     refine⟨us++c.args.toList.map σ++vs,?_,AVRs.append (AVRs.append (show AVRs I L us fs from ⟨hl,hv⟩) hargs) (show AVRs I L vs cs from ⟨hl',hv'⟩)⟩
     simp only[resolve,hc,hsf,Deferred.ofValue,Sem.run_bind,Sem.run_pure,Result.andThen_ok,invoke,e1]
     simp
   ·cases h
  ·cases h
 ·cases h

def ExtV (P:Program) (k:FuncId) (ps:List PV) (x:PV):Prop :=
 ∀ (I:Mem) (w:World) (us:List Value),VRs I us ps→∃u,(callFunc k us.toArray).run P w = .ok (.value u) w∧VR I u x
def extR (P:Program) (o:Oper) (ρ:Operand→AV) (W:PV→Prop):Prop :=
 ∃k ps x,callArgs o ρ=some (k,ps.map AV.p)∧ExtV P k ps x∧W x
theorem z5e {o : Oper} {ρ : Operand → AV} {W : PV → Prop} (h : extR P o ρ W) {w : World} {σ : Operand → Value} (hσ : ∀ x, AVR I L (σ x) (ρ x)) :
  ∃u x,(execOp σ o).run P w = .ok (.value u) w∧VR I u x∧W x:=by
 obtain⟨k,ps,x,h1,h2,h3⟩:=h
 obtain⟨us,hr,hu⟩:=zx0 h1 hσ w
 obtain⟨u,q1,q2⟩:=h2 I w us ⟨by simpa using hu.1,fun j u c hj hc=>(hu.2 j u (.p c) hj (by simp[hc])).of_p⟩
 exact⟨u,x,hr.trans q1,q2,h3⟩

def callS (P:Program) (o:Oper) (ρ:Operand→AV) (H:za) (x:PV):Prop :=
 ∃k als ps b,callArgs o ρ=some (k,als)∧lendL (lend1 H) als=some (ps,b)∧zh P k ps (fun r=>r=x)∧(b=true→x.scalar=true)

def callR (P:Program) (o:Oper) (ρ:Operand→AV) (H:za) (Kr:PV→Prop):Prop :=
 ∃k als ps b Q,callArgs o ρ=some (k,als)∧lendL (lend1 H) als=some (ps,b)∧zh P k ps Q∧∀r,Q r→(b=true→r.scalar=true)∧Kr r

theorem zt8 {o:Oper} {ρ:Operand→AV} {H:za} {x:PV} {Kr:PV→Prop} (h:callS P o ρ H x) (hk:Kr x):callR P o ρ H Kr:=by
 obtain⟨k,als,ps,b,h1,h2,h3,h4⟩:=h
 exact⟨k,als,ps,b,_,h1,h2,h3,fun r hr=>by subst hr; exact⟨h4,hk⟩⟩

theorem z1j {o : Oper} {ρ : Operand → AV} {H : za} {Kr : PV → Prop} (h : callR P o ρ H Kr) {C : Ctx} {env : Env} {tm : Array Value} {w : World} (hs : Sim C env H I L tm w) {σ : Operand → Value} (hσ : ∀ x, AVR I L (σ x) (ρ x)) :
  ∃k args,(execOp σ o).run P w = .ok (.enter k args) w∧Calls P k args w fun e w'=>∃v I' x,e = .returned v∧Kr x∧VR I' v x∧Fr C I L H w I' L H w':=by
 obtain⟨k,als,ps,b,Q,h1,h2,h3,h4⟩:=h
 obtain⟨us,hr,hu⟩:=zm7 h1 h3.1 hσ w
 refine⟨k,_,hr,?_⟩
 cases b with
 | false =>
  obtain⟨k1,_,k3⟩:=zgm (zjs hs (zmb H) (zit hs.mem) ((zl5 L w).g H)) als ps false h2 us hu.1 hu.2
  refine (h3.2 I w us hs.mem ⟨k1,k3 rfl⟩).mono fun e w' ⟨v,r,I',q1,q2,q3,q4,q5,q6,q7⟩=>?_
  exact⟨v,I',r,q1,(h4 r q2).2,q3,fun env tm hs=>hs.grow q4 q5 q6 q7⟩
 | true =>
  obtain⟨k1,k2,_⟩:=zgm (zjs hs (zmb H) (zit hs.mem) ((zl5 L w).g H)) als ps true h2 us hu.1 hu.2
  refine (h3.2 (snap w) w us (zs2 w) ⟨k1,k2⟩).mono fun e w' ⟨v,r,I',q1,q2,q3,q4,q5,q6,q7⟩=>?_
  obtain⟨m1,m2⟩:=h4 r q2
  exact⟨v,I,r,q1,m2,q3.scalar (m1 rfl),fun env tm hs=>hs.world (q4.mono hs.leB) fun b hb=>q4.block b hb⟩

end Go.Abs
namespace Go.Abs
open Go.RowKit

variable {P:Program} {I:Mem} {L:zbl}

inductive RV where
 | p (x:PV)
 | row (e:TypeId) (sz:Nat) (es:List (List PV))
 | agg (rs:List RV)
 | tup (rs:List RV)

instance:Inhabited RV:=⟨.p default⟩

theorem zzn {w:World} {base base':Nat} {e:TypeId} {size:Nat} {v:Value} {n:Nat} {xs:List Value} (h:w.ownsRow base e size v n xs) (hb:base'≤base):w.ownsRow base' e size v n xs:=by
 refine⟨h.1,?_⟩
 rcases h.2 with h | ⟨g,cap,cur,h1,h2,h3⟩
 ·exact .inl h
 ·exact .inr ⟨g,cap,cur,h1,Nat.le_trans hb h2,h3⟩

structure RowR (w:World) (B:Nat) (I:Mem) (hdr:Value) (e:TypeId) (sz:Nat) (es:List (List PV)) (us:List Value):Prop where
 own:w.ownsRow B e sz hdr es.length us
 pos:0<sz
 all:∀x∈es,x.length=sz
 val:∀ (j:Nat) u c,us[j]? = some u→es.flatten[j]? = some c→VR I u c
 one:∀u∈us,u.oneCell'=true
 free:∀b,hdr.ownBlock=some b→∀o,I b o=none

inductive RVR (w:World) (B:Nat) (I:Mem):Value→RV→List Nat→Prop
 | p (u:Value) (x:PV) (h:VR I u x):RVR w B I u (.p x) []
 | row (hdr:Value) (e:TypeId) (sz:Nat) (es:List (List PV)) (us:List Value) (h:RowR w B I hdr e sz es us) (h1:hdr.oneCell'=true):RVR w B I hdr (.row e sz es) hdr.ownBlock.toList
 | agg (us : List Value) (rs : List RV) (bs : List (List Nat)) (hl : us.length = rs.length) (hl' : us.length = bs.length)
   (hv:∀ (j:Nat) u r b,us[j]? = some u→rs[j]? = some r→bs[j]? = some b→RVR w B I u r b) (hone:∀u∈us,u.oneCell'=true):RVR w B I (.agg us.toArray) (.agg rs) bs.flatten
 | tup (us : List Value) (rs : List RV) (bs : List (List Nat)) (hl : us.length = rs.length) (hl' : us.length = bs.length)
   (hv:∀ (j:Nat) u r b,us[j]? = some u→rs[j]? = some r→bs[j]? = some b→RVR w B I u r b):RVR w B I (.tuple us.toArray) (.tup rs) bs.flatten

def zbt (P:Program) (f:FuncId) (args:List PV) (Q:RV→Prop):Prop :=
 callable P f=true∧∀ (I:Mem) (w:World) (vs:List Value),I.inW w→VRs I vs args →
  Calls P f vs.toArray w fun e w'=>∃v r bs I',e = .returned v∧Q r∧RVR w' w.heap.size I' v r bs∧bs.Nodup∧(∀b∈bs,w.heap.size≤b∧b<w'.heap.size) ∧
   Below w.heap.size w w'∧I.sub I'∧I'.inW w'∧∀b,b<w.heap.size→∀o,I' b o=I b o

theorem zbt.mono {f:FuncId} {args:List PV} {Q Q':RV→Prop} (h:zbt P f args Q) (hq:∀r,Q r→Q' r):zbt P f args Q' :=
 ⟨h.1,fun I w vs hI hv=>(h.2 I w vs hI hv).mono fun _ _ ⟨v,r,bs,I',h1,h2,h3⟩=>⟨v,r,bs,I',h1,hq r h2,h3⟩⟩

mutual
def placeA (k:Nat):RV→AV×Nat
 | .p x=>(.p x,k)
 | .row _ _ _=>(.row k 0,k+1)
 | .agg rs=>(mkAgg (placeL k rs).1,(placeL k rs).2)
 | .tup rs=>(.tup (placeL k rs).1,(placeL k rs).2)
def placeL (k:Nat):List RV→List AV×Nat
 | []=>([],k)
 | r :: rs=>((placeA k r).1 :: (placeL (placeA k r).2 rs).1,(placeL (placeA k r).2 rs).2)
end
mutual
def placeH (k:Nat) (H:za):RV→za
 | .p _=>H
 | .row e sz es=>hset H k (.row 0 e sz es)
 | .agg rs=>placeHL k H rs
 | .tup rs=>placeHL k H rs
def placeHL (k:Nat) (H:za):List RV→za
 | []=>H
 | r :: rs=>placeHL (placeA k r).2 (placeH k H r) rs
end

theorem Sim.add {C : Ctx} {env : Env} {H : za} {tm : Array Value} {w : World} (h : Sim C env H I L tm w) {id : Nat} (hid : H id = none) (l : Loc) (ch : zcb)
  (hch:zmd I (lset L id l) w C.B id ch) (hl:∀b,l.blk=some b→C.B≤b∧b<w.heap.size∧(∀i li,L i=some li→li.blk≠some b)∧(C.w0.heap.size≤b∨C.lent b)):Sim C env (hset H id ch) I (lset L id l) tm w:=by
 have hL:=h.dom_none hid
 have hle:=zcd.lset_new hL l
 exact
 {h with
  env:=fun t=>(h.env t).mono (Mem.sub_refl I) hle
  dom:=fun i li hi=>by
   by_cases e:i=id
   ·exact⟨ch,by simp[hset,e]⟩
   ·obtain⟨c,hc⟩:=h.dom i li (by simpa[lset,e] using hi)
    exact⟨c,by simpa[hset,e] using hc⟩
  chunk:=fun i c hc=>by
   by_cases e:i=id
   ·subst e
    have:ch=c:=by simpa[hset] using hc
    subst this; exact hch
   ·exact (h.chunk i c (by simpa[hset,e] using hc)).keep (Mem.sub_refl I) hle (by simp[lset,e]) fun _ _ _ _=>⟨rfl,fun _=>rfl⟩
  loc:=h.loc.trans hle
  blkF:=fun i li b hi hlb=>by
   by_cases e:i=id
   ·subst e
    have:l=li:=by simpa[lset] using hi
    subst this
    exact (hl b hlb).2.2.2
   ·exact h.blkF i li b (by simpa[lset,e] using hi) hlb
  blkB:=fun i li b hi hlb=>by
   by_cases e:i=id
   ·subst e
    have:l=li:=by simpa[lset] using hi
    subst this
    exact⟨(hl b hlb).1,(hl b hlb).2.1⟩
   ·exact h.blkB i li b (by simpa[lset,e] using hi) hlb
  apart:=fun i j li lj b hi hj hbi hbj=>by
   by_cases ei:i=id<;>by_cases ej:j=id
   ·rw[ei,ej]
   ·subst ei
    have:l=li:=by simpa[lset] using hi
    subst this
    exact absurd hbj ((hl b hbi).2.2.1 j lj (by simpa[lset,ej] using hj))
   ·subst ej
    have:l=lj:=by simpa[lset] using hj
    subst this
    exact absurd hbi ((hl b hbj).2.2.1 i li (by simpa[lset,ei] using hi))
   ·exact h.apart i j li lj b (by simpa[lset,ei] using hi) (by simpa[lset,ej] using hj) hbi hbj }

def z8o (C:Ctx) (env:Env) (tm:Array Value) (w:World) (I:Mem) (L:zbl) (H':za) (bs:List Nat) (R:zbl→Prop):Prop :=
 ∃L',Sim C env H' I L' tm w∧zcd L L'∧(∀id l b,L' id=some l→l.blk=some b→(L id=some l)∨b∈bs)∧R L'

theorem znd:(∀ (r:RV) (k:Nat),k≤(placeA k r).2):=by
 intro r
 refine RV.rec (motive_1:=fun r=>∀k,k≤(placeA k r).2) (motive_2:=fun rs=>∀k,k≤(placeL k rs).2) ?_ ?_ ?_ ?_ ?_ ?_ r
 ·intro x k; exact Nat.le_refl _
 ·intro e sz es k; exact Nat.le_succ _
 ·intro rs ih k; exact ih k
 ·intro rs ih k; exact ih k
 ·intro k; exact Nat.le_refl _
 ·intro r rs ih1 ih2 k; exact Nat.le_trans (ih1 k) (ih2 _)

theorem zq7 (rs:List RV):∀k:Nat,k≤(placeL k rs).2:=by
 induction rs with
 | nil=>intro k; exact Nat.le_refl _
 | cons r rs ih=>intro k; exact Nat.le_trans (znd r k) (ih _)

theorem zp8:∀ (r:RV) (k:Nat) (H:za) (i:Nat),(i<k∨(placeA k r).2≤i)→placeH k H r i=H i:=by
 intro r
 refine RV.rec (motive_1:=fun r=>∀k (H:za) i,(i<k∨(placeA k r).2≤i)→placeH k H r i=H i) (motive_2:=fun rs=>∀k (H:za) i,(i<k∨(placeL k rs).2≤i)→placeHL k H rs i=H i) ?_ ?_ ?_ ?_ ?_ ?_ r
 ·intro x k H i _; rfl
 ·intro e sz es k H i hi
  show hset H k _ i=H i
  unfold hset
  rw[if_neg]
  rintro rfl
  rcases hi with h | h
  ·exact Nat.lt_irrefl _ h
  ·exact Nat.lt_irrefl _ h
 ·intro rs ih k H i hi; exact ih k H i hi
 ·intro rs ih k H i hi; exact ih k H i hi
 ·intro k H i _; rfl
 ·intro r rs ih1 ih2 k H i hi
  show placeHL _ (placeH k H r) rs i=H i
  have h1:=znd r k
  have h2:=zq7 rs (placeA k r).2
  have hi':i<k∨(placeL (placeA k r).2 rs).2≤i:=hi
  rw[ih2 _ _ i (by omega),ih1 k H i (by omega)]

section
variable {C:Ctx} {env:Env} {tm:Array Value} {w:World} {B:Nat}

def z17 (C:Ctx) (env:Env) (tm:Array Value) (w:World) (B:Nat) (I:Mem) (r:RV):Prop :=
 ∀ (k:Nat) (H:za) (L:zbl) (u:Value) (bs:List Nat),Sim C env H I L tm w→RVR w B I u r bs→C.w0.heap.size≤B→bs.Nodup→(∀b∈bs,B≤b∧b<w.heap.size) →
  (∀b∈bs,∀i li,L i=some li→li.blk≠some b)→(∀i,k≤i→i<(placeA k r).2→H i=none)→z8o C env tm w I L (placeH k H r) bs fun L'=>AVR I L' u (placeA k r).1
def zbbn (C:Ctx) (env:Env) (tm:Array Value) (w:World) (B:Nat) (I:Mem) (rs:List RV):Prop :=
 ∀ (k:Nat) (H:za) (L:zbl) (us:List Value) (bs:List (List Nat)),Sim C env H I L tm w→us.length=rs.length→us.length=bs.length →
  (∀ (j:Nat) u r b,us[j]? = some u→rs[j]? = some r→bs[j]? = some b→RVR w B I u r b)→C.w0.heap.size≤B→bs.flatten.Nodup→(∀b∈bs.flatten,B≤b∧b<w.heap.size) →
  (∀b∈bs.flatten,∀i li,L i=some li→li.blk≠some b)→(∀i,k≤i→i<(placeL k rs).2→H i=none)→z8o C env tm w I L (placeHL k H rs) bs.flatten fun L'=>AVRs I L' us (placeL k rs).1

theorem zbb2 (r:RV):z17 C env tm w B I r:=by
 refine RV.rec (motive_1:=z17 C env tm w B I) (motive_2:=zbbn C env tm w B I) ?_ ?_ ?_ ?_ ?_ ?_ r
 ·intro x k H L u bs hs hr _ _ _ _ _
  cases hr with
  | p _ _ h=>exact⟨L,hs,zcd.refl L,fun id l b hl _=>.inl hl,.p _ _ h⟩
 ·intro e sz es k H L u bs hs hr hB hnd hbs hap hfr
  cases hr with
  | row _ _ _ _ us h h1 =>
   have hk:H k=none:=hfr k (Nat.le_refl _) (Nat.lt_succ_self _)
   refine⟨lset L k (.row 0 u sz),hs.add hk _ _ ?_ ?_,zcd.lset_new (hs.dom_none hk) _,?_,.row _ _ _ 0 u sz (by simp[lset]) (Nat.le_refl _) (fun _=>rfl) h1⟩
   ·exact⟨u,us,by simp[lset],zzn h.own (Nat.le_trans C.hB hB),h.pos,h.all,h.val,h.one,h.free⟩
   ·intro b hb
    have hm:b∈u.ownBlock.toList:=by
     have:u.ownBlock=some b:=hb
     simp[this]
    exact⟨Nat.le_trans (Nat.le_trans C.hB hB) (hbs b hm).1,(hbs b hm).2,hap b hm,.inl (Nat.le_trans hB (hbs b hm).1)⟩
   ·intro id l b hl hb
    by_cases e:id=k
    ·subst e
     have:Loc.row 0 u sz=l:=by simpa[lset] using hl
     subst this
     right
     have:u.ownBlock=some b:=hb
     simp[this]
    ·exact .inl (by simpa[lset,e] using hl)
 ·intro rs ih k H L u bs hs hr hB hnd hbs hap hfr
  cases hr with
  | agg us _ bs hl hl' hv hone =>
   obtain⟨L',h1,h2,h3,h4⟩:=ih k H L us bs hs hl hl' hv hB hnd hbs hap hfr
   exact⟨L',h1,h2,h3,zlr h4.1 h4.2 hone⟩
 ·intro rs ih k H L u bs hs hr hB hnd hbs hap hfr
  cases hr with
  | tup us _ bs hl hl' hv =>
   obtain⟨L',h1,h2,h3,h4⟩:=ih k H L us bs hs hl hl' hv hB hnd hbs hap hfr
   exact⟨L',h1,h2,h3,.tup us _ h4.1 h4.2⟩
 ·intro k H L us bs hs hl hl' _ _ _ _ _ _
  have:us=[]:=by simpa using hl
  subst this
  exact⟨L,hs,zcd.refl L,fun id l b hl _=>.inl hl,rfl,by simp⟩
 ·intro r rs ih1 ih2 k H L us bs hs hl hl' hv hB hnd hbs hap hfr
  cases us with
  | nil=>simp at hl
  | cons u us =>
   cases bs with
   | nil=>simp at hl'
   | cons b bs =>
    simp only[List.flatten_cons,List.nodup_append,List.mem_append] at hnd hbs hap
    obtain⟨L1,a1,a2,a3,a4⟩:=ih1 k H L u b hs (hv 0 u r b rfl rfl rfl) hB hnd.1 (fun x hx=>hbs x (.inl hx)) (fun x hx=>hap x (.inl hx)) (fun i h1 h2=>hfr i h1 (Nat.lt_of_lt_of_le h2 (zq7 rs _)))
    obtain⟨L2,b1,b2,b3,b4⟩:=ih2 (placeA k r).2 (placeH k H r) L1 us bs a1 (by simpa using hl) (by simpa using hl') (fun j u r b hu hr hb=>hv (j+1) u r b hu hr hb) hB hnd.2.1 (fun x hx=>hbs x (.inr hx)) (fun x hx i li hi hli=>by
     rcases a3 i li x hi hli with h | h
     ·exact hap x (.inr hx) i li h hli
     ·exact hnd.2.2 x h x hx rfl) (fun i h1 h2=>by
      rw[zp8 r k H i (.inr h1)]
      exact hfr i (Nat.le_trans (znd r k) h1) h2)
    refine⟨L2,b1,fun id=>?_,fun id l x hl hx=>?_,by simp[placeL,b4.1],fun j v a hv' ha=>?_⟩
    ·exact (a2.trans b2) id
    ·rcases b3 id l x hl hx with h | h
     ·rcases a3 id l x h hx with h | h
      ·exact .inl h
      ·exact .inr (by simp[h])
     ·exact .inr (by
       rw[List.flatten_cons]
       exact List.mem_append_right _ h)
    ·cases j with
     | zero =>
      simp at hv' ha
      subst hv'
      have ha':(placeA k r).1=a:=by simpa[placeL] using ha
      rw[←ha']
      exact a4.mono (Mem.sub_refl I) b2
     | succ j=>exact b4.2 j v a (by simpa using hv') (by simpa[placeL] using ha)
end

mutual
def RV.flat:RV→Bool
 | .p x=>x.scalar
 | .row _ _ es=>es.all fun x=>x.all isVal
 | .agg rs=>RV.flatL rs
 | .tup rs=>RV.flatL rs
def RV.flatL:List RV→Bool
 | []=>true
 | r :: rs=>r.flat&&RV.flatL rs
end

theorem RowR.flat {w : World} {B : Nat} {J : Mem} {hdr : Value} {e : TypeId} {sz : Nat} {es : List (List PV)} {us : List Value} (h : RowR w B J hdr e sz es us) (hf : (es.all fun x => x.all isVal) = true) (hI : ∀ b, hdr.ownBlock = some b → ∀ o, I b o = none) :
  RowR w B I hdr e sz es us :=
 {h with
  val:=fun j u c hu hc=>(h.val j u c hu hc).isVal (by
   have hm:=List.mem_of_getElem? hc
   obtain⟨x,hx,hcx⟩:=List.mem_flatten.1 hm
   exact List.all_eq_true.1 (List.all_eq_true.1 hf x hx) c hcx)
  free:=hI }

theorem RVR.flat {w:World} {B:Nat} {J:Mem} {u:Value} {r:RV} {bs:List Nat} (h:RVR w B J u r bs):r.flat=true→(∀b∈bs,∀o,I b o=none)→RVR w B I u r bs:=by
 induction h with
 | p u x h=>exact fun hf _=>.p _ _ (h.scalar hf)
 | row hdr e sz es us h h1 =>
  intro hf hI
  exact .row hdr e sz es us (h.flat hf fun b hb=>hI b (by simp[hb])) h1
 | agg us rs bs hl hl' hv hone ih =>
  intro hf hI
  have hall:∀rs:List RV,RV.flatL rs=true→∀r∈rs,r.flat=true:=by
   intro rs
   induction rs with
   | nil=>intro _ r hr; cases hr
   | cons a r ih =>
    intro h x hx
    simp only[RV.flatL,Bool.and_eq_true] at h
    rcases List.mem_cons.1 hx with rfl | hx
    ·exact h.1
    ·exact ih h.2 x hx
  exact .agg us rs bs hl hl' (fun j u r b hu hr hb=>ih j u r b hu hr hb (hall rs hf r (List.mem_of_getElem? hr)) fun x hx=>hI x (List.mem_flatten.2 ⟨b,List.mem_of_getElem? hb,hx⟩)) hone
 | tup us rs bs hl hl' hv ih =>
  intro hf hI
  have hall:∀rs:List RV,RV.flatL rs=true→∀r∈rs,r.flat=true:=by
   intro rs
   induction rs with
   | nil=>intro _ r hr; cases hr
   | cons a r ih =>
    intro h x hx
    simp only[RV.flatL,Bool.and_eq_true] at h
    rcases List.mem_cons.1 hx with rfl | hx
    ·exact h.1
    ·exact ih h.2 x hx
  exact .tup us rs bs hl hl' (fun j u r b hu hr hb=>ih j u r b hu hr hb (hall rs hf r (List.mem_of_getElem? hr)) fun x hx=>hI x (List.mem_flatten.2 ⟨b,List.mem_of_getElem? hb,hx⟩))

def callFR (P:Program) (o:Oper) (ρ:Operand→AV) (H:za) (Kr:AV→za→Prop):Prop :=
 ∃k als ps b Q,∃id:Nat,callArgs o ρ=some (k,als)∧lendL (lend1 H) als=some (ps,b)∧zbt P k ps Q ∧
  ∀r,Q r→(b=true→r.flat=true)∧(∀i,id≤i→i<(placeA id r).2→H i=none)∧Kr (placeA id r).1 (placeH id H r)

theorem zzv {o : Oper} {ρ : Operand → AV} {H : za} {Kr : AV → za → Prop} (h : callFR P o ρ H Kr) {C : Ctx} {env : Env} {tm : Array Value} {w : World} (hs : Sim C env H I L tm w) {σ : Operand → Value} (hσ : ∀ x, AVR I L (σ x) (ρ x)) :
  ∃k args,(execOp σ o).run P w = .ok (.enter k args) w∧Calls P k args w fun e w'=>∃v I' L' a H',e = .returned v∧Kr a H'∧AVR I' L' v a∧Sim C env H' I' L' tm w':=by
 obtain⟨k,als,ps,b,Q,id,h1,h2,h3,h4⟩:=h
 obtain⟨us,hr,hu⟩:=zm7 h1 h3.1 hσ w
 refine⟨k,_,hr,?_⟩
 have fin : ∀ {I' : Mem} {w' : World} {v : Value} {r : RV} {bs : List Nat}, Sim C env H I' L tm w' → RVR w' w.heap.size I' v r bs → bs.Nodup → (∀ b ∈ bs, w.heap.size ≤ b ∧ b < w'.heap.size) → (∀ i, id ≤ i → i < (placeA id r).2 → H i = none) →
   ∃L',Sim C env (placeH id H r) I' L' tm w'∧AVR I' L' v (placeA id r).1:=by
  intro I' w' v r bs hs' hrv hnd hbs hfr
  obtain⟨L',k1,_,_,k4⟩:=zbb2 r id H L v bs hs' hrv hs.below.size hnd hbs (fun b hb i li hi hli=>by
   have h1:=(hs.blkB i li b hi hli).2
   have h2:=(hbs b hb).1
   omega) hfr
  exact⟨L',k1,k4⟩
 cases b with
 | false =>
  obtain⟨k1,_,k3⟩:=zgm (zjs hs (zmb H) (zit hs.mem) ((zl5 L w).g H)) als ps false h2 us hu.1 hu.2
  refine (h3.2 I w us hs.mem ⟨k1,k3 rfl⟩).mono fun e w' ⟨v,r,bs,I',q1,q2,q3,q4,q5,q6,q7,q8,q9⟩=>?_
  obtain⟨_,m2,m3⟩:=h4 r q2
  obtain⟨L',n1,n2⟩:=fin (hs.grow q6 q7 q8 q9) q3 q4 q5 m2
  exact⟨v,I',L',_,_,q1,m3,n2,n1⟩
 | true =>
  obtain⟨k1,k2,_⟩:=zgm (zjs hs (zmb H) (zit hs.mem) ((zl5 L w).g H)) als ps true h2 us hu.1 hu.2
  refine (h3.2 (snap w) w us (zs2 w) ⟨k1,k2⟩).mono fun e w' ⟨v,r,bs,I',q1,q2,q3,q4,q5,q6,q7,q8,q9⟩=>?_
  obtain⟨m1,m2,m3⟩:=h4 r q2
  have hfree:∀b∈bs,∀o,I b o=none:=fun b hb o=>by
   cases hI:I b o with
   | none=>rfl
   | some u=>exact absurd (hs.mem.lt hI) (by have:=(q5 b hb).1; omega)
  obtain⟨L',n1,n2⟩:=fin (hs.world (q6.mono hs.leB) fun b hb=>q6.block b hb) (q3.flat (m1 rfl) hfree) q4 q5 m2
  exact⟨v,I,L',_,_,q1,m3,n2,n1⟩

mutual
def RV.pv:RV→PV
 | .p x=>x
 | .row _ _ es=>.lst es
 | .agg rs=>.agg (RV.pvL rs)
 | .tup rs=>.tup (RV.pvL rs)
def RV.pvL:List RV→List PV
 | []=>[]
 | r :: rs=>r.pv :: RV.pvL rs
end

theorem RV.pvL_get:∀ (rs:List RV) (j:Nat) (c:PV),(RV.pvL rs)[j]? = some c→∃r,rs[j]? = some r∧r.pv=c
 | [],j,c,h=>by simp[RV.pvL] at h
 | r :: rs,j,c,h=>by
  cases j with
  | zero=>simp[RV.pvL] at h; exact⟨r,rfl,h⟩
  | succ j =>
   obtain⟨r',h1,h2⟩:=RV.pvL_get rs j c (by simpa[RV.pvL] using h)
   exact⟨r',by simpa using h1,h2⟩
theorem RV.pvL_len:∀ (rs:List RV),(RV.pvL rs).length=rs.length
 | []=>rfl
 | r :: rs=>by simp[RV.pvL,RV.pvL_len rs]

theorem RVR.pv {w:World} {B:Nat} {J:Mem} {u:Value} {r:RV} {bs:List Nat} (h:RVR w B J u r bs):∀ {K:Mem},J.sub K→(∀b,B≤b→∀o u,w.cell? ⟨b,o,none⟩=some u→K b o=some u)→VR K u r.pv:=by
 induction h with
 | p u x h=>exact fun hK _=>h.mono hK
 | row hdr e sz es us h h1 =>
  intro K hK hsee
  show VR K hdr (.lst es)
  have hfl:=zb8 h.all
  have hlen:us.length=es.flatten.length:=by rw[hfl]; exact h.own.1
  rcases h.own.2 with ⟨rfl,hn⟩ | ⟨g,cap,cur,rfl,hb,hg,hnc,hcm,hcs,htake⟩
  ·have he:es=[]:=List.length_eq_zero_iff.1 hn
   subst he
   exact .lst none 0 0 [] us sz rfl (by simp) hlen (fun j u c hu hc=>(h.val j u c hu hc).mono hK) h.one (.inl (List.length_eq_zero_iff.1 (by simpa using hlen))) (fun _=>⟨rfl,rfl⟩) (Nat.le_refl _)
  ·refine .lst _ _ _ es us sz rfl h.all hlen (fun j u c hu hc=>(h.val j u c hu hc).mono hK) h.one (.inr ⟨g,0,rfl,fun j u hu=>?_⟩) (by simp) hnc
   rw[Nat.zero_add]
   refine hsee g hb j u ?_
   rw[zev hg]
   rw[←htake,List.getElem?_take] at hu
   split at hu
   ·simpa using hu
   ·cases hu
 | agg us rs bs hl hl' hv hone ih =>
  intro K hK hsee
  show VR K (.agg us.toArray) (.agg (RV.pvL rs))
  refine .agg us _ (by rw[RV.pvL_len]; exact hl) (fun j u c hu hc=>?_) hone
  obtain⟨r,h1,rfl⟩:=RV.pvL_get rs j c hc
  obtain⟨b,hb⟩:∃b,bs[j]? = some b:=by
   have hj:j<us.length:=(List.getElem?_eq_some_iff.1 hu).1
   exact⟨bs[j]'(by omega),by simp[hl' ▸ hj]⟩
  exact ih j u r b hu h1 hb hK hsee
 | tup us rs bs hl hl' hv ih =>
  intro K hK hsee
  show VR K (.tuple us.toArray) (.tup (RV.pvL rs))
  refine .tup us _ (by rw[RV.pvL_len]; exact hl) (fun j u c hu hc=>?_)
  obtain⟨r,h1,rfl⟩:=RV.pvL_get rs j c hc
  obtain⟨b,hb⟩:∃b,bs[j]? = some b:=by
   have hj:j<us.length:=(List.getElem?_eq_some_iff.1 hu).1
   exact⟨bs[j]'(by omega),by simp[hl' ▸ hj]⟩
  exact ih j u r b hu h1 hb hK hsee

def Mem.allF (I:Mem) (B:Nat) (w:World):Mem:=fun b o=>if b<B then I b o else w.cell? ⟨b,o,none⟩

theorem zbt.toV {f:FuncId} {args:List PV} {Q:RV→Prop} (h:zbt P f args Q):zh P f args fun x=>∃r,Q r∧x=r.pv :=
 ⟨h.1,fun I w vs hI hv=>(h.2 I w vs hI hv).mono fun e w' ⟨v,r,bs,I',q1,q2,q3,q4,q5,q6,q7,q8,q9⟩=>by
  have hsub:I'.sub (I'.allF w.heap.size w'):=fun b o u hu=>by
   unfold Mem.allF
   split
   ·exact hu
   ·exact q8 b o u hu
  refine⟨v,r.pv,I'.allF w.heap.size w',q1,⟨r,q2,rfl⟩,q3.pv hsub (fun b hb o u hu=>?_),q6,Mem.sub_trans q7 hsub,fun b o u hu=>?_,fun b hb o=>?_⟩
  ·unfold Mem.allF
   rw[if_neg (by omega)]
   exact hu
  ·unfold Mem.allF at hu
   split at hu
   ·exact q8 b o u hu
   ·exact hu
  ·unfold Mem.allF
   rw[if_pos hb]
   exact q9 b hb o⟩
theorem zbt.toV1 {f:FuncId} {args:List PV} {r0:RV} (h:zbt P f args fun r=>r=r0):zh P f args fun x=>x=r0.pv :=
 h.toV.mono fun x ⟨r,h1,h2⟩=>by rw[h2,h1]
end Go.Abs
namespace Go.Abs
open Go.RowKit

variable {P:Program} {I:Mem} {L:zbl}

def Ctx.lend (w:World) (I:Mem) (n B v sz:Nat) (hdr:Value) (hB:B≤w.heap.size):Ctx :=
 ⟨w,I,n,B,fun b=>hdr.ownBlock=some b,fun i=>if i=1000000 then some (.row v hdr sz) else none,hB,fun i l h=>by
  split at h
  ·omega
  ·cases h⟩

def ziu (P:Program) (f:FuncId) (v:Nat) (e:TypeId) (sz:Nat) (es:List (List PV)) (ps:List PV) (Q:AV→Option zcb→Prop):Prop :=
 callable P f=true∧∀ (B:Nat) (I:Mem) (w:World) (hdr:Value) (us vs:List Value) (hB:B≤w.heap.size),I.inW w→RowR w B I hdr e sz es us→hdr.oneCell'=true→VRs I vs ps →
  Calls P f (hdr :: vs).toArray w fun x w'=>∃u a H' I' L',x = .returned u∧Q a (H' 1000000)∧AVR I' L' u a∧Sim (Ctx.lend w I 0 B v sz hdr hB) env0 H' I' L' #[] w'

theorem ziu.mono {f:FuncId} {v:Nat} {e:TypeId} {sz:Nat} {es:List (List PV)} {ps:List PV} {Q Q':AV→Option zcb→Prop} (h:ziu P f v e sz es ps Q) (hq:∀a c,Q a c→Q' a c):ziu P f v e sz es ps Q' :=
 ⟨h.1,fun B I w hdr us vs hB hI hr h1 hv=>(h.2 B I w hdr us vs hB hI hr h1 hv).mono fun _ _ ⟨u,a,H',I',L',q1,q2,q3⟩=>⟨u,a,H',I',L',q1,hq _ _ q2,q3⟩⟩

def backA (id:Nat):AV→Option AV
 | .p x=>some (.p x)
 | .row i v=>if i=1000000 then some (.row id v) else none
 | .tup []=>some (.tup [])
 | _=>none

theorem zmi {w:World} {B:Nat} {e:TypeId} {sz:Nat} {hdr:Value} {n:Nat} {us:List Value} (h:w.ownsRow B e sz hdr n us) {b:Nat} (hb:hdr.ownBlock=some b):B≤b∧b<w.heap.size:=by
 rcases h.2 with ⟨rfl,_⟩ | ⟨g,cap,cur,rfl,h1,h2,_⟩
 ·cases hb
 ·have:g=b:=by simpa[Value.ownBlock] using hb
  subst this
  refine⟨h1,?_⟩
  rcases Nat.lt_or_ge g w.heap.size with h | h
  ·exact h
  ·simp[Array.getElem?_eq_none h] at h2

section
variable {C:Ctx} {env:Env} {H H':za} {tm:Array Value} {w w':World} {id v sz:Nat} {e:TypeId} {es:List (List PV)} {hdr:Value} {J I':Mem} {L':zbl}

theorem Sim.back (h : Sim C env H I L tm w) (hid : H id = some (.row v e sz es)) (hl : L id = some (.row v hdr sz)) (hJ : I.sub J) (hJn : ∀ b, hdr.ownBlock = some b → ∀ o, J b o = none)
  (hs':Sim (Ctx.lend w J 0 C.B v sz hdr h.leB) env0 H' I' L' #[] w') {v':Nat} {e':TypeId} {sz':Nat} {es':List (List PV)} (hch:H' 1000000=some (.row v' e' sz' es'))
  {K:Mem} (hK:(J=I∧K=I')∨(K=I∧(es'.all fun x=>x.all isVal)=true)) :
  ∃hdr',L' 1000000=some (.row v' hdr' sz')∧Sim C env (hset H id (.row v' e' sz' es')) K (lset L id (.row v' hdr' sz')) tm w'∧zcd L (lset L id (.row v' hdr' sz')):=by
 obtain⟨hdr',us',k1,k2,k3,k4,k5,k6,k7⟩:=hs'.chunk 1000000 _ hch
 have hloc:zcd L (lset L id (.row v' hdr' sz')):=fun i=>by
  by_cases hi:i=id
  ·subst hi
   rw[hl]
   have:=hs'.loc 1000000
   simp only[Ctx.lend,if_true,k1] at this
   obtain⟨v1,hdr1,m1,m2,m3⟩:=this
   simp only[Option.some.injEq,Loc.row.injEq] at m1
   obtain⟨rfl,rfl,rfl⟩:=m1
   exact⟨v',hdr',by simp[lset],m2,m3⟩
  ·have:lset L id (.row v' hdr' sz') i=L i:=by simp[lset,hi]
   rw[this]
   exact zcd.refl L i
 have hown:∀b,hdr.ownBlock=some b→C.w0.heap.size≤b∨C.lent b:=fun b hb=>h.blkF id _ b hl hb
 have hfr:∀b,b<w.heap.size→hdr.ownBlock≠some b→w'.heap[b]? = w.heap[b]?:=fun b hb hn=>hs'.frame b hb hn
 have hIn:∀b o,b<w.heap.size→hdr.ownBlock≠some b→I' b o=J b o:=fun b o hb hn=>hs'.memN b hb hn o
 have hIfree:∀b,hdr.ownBlock=some b→∀o,I b o=none:=fun b hb o=>by
  cases hI:I b o with
  | none=>rfl
  | some u=>have:=hJ b o u hI; rw[hJn b hb o] at this; cases this
 have hsubK:I.sub K:=by
  rcases hK with ⟨e1,e2⟩ | ⟨e1,_⟩
  ·rw[e2]; exact Mem.sub_trans hJ hs'.memC
  ·rw[e1]; exact Mem.sub_refl I
 have hKn:∀b o,b<w.heap.size→hdr.ownBlock≠some b→K b o=I b o:=fun b o hb hn=>by
  rcases hK with ⟨e1,e2⟩ | ⟨e1,_⟩
  ·rw[e2,hIn b o hb hn,e1]
  ·rw[e1]
 have hKw:K.inW w':=by
  rcases hK with ⟨_,e2⟩ | ⟨e1,_⟩
  ·rw[e2]; exact hs'.mem
  ·rw[e1]
   exact h.mem.keep fun b ⟨o,u,hu⟩=>hfr b (h.mem.lt hu) fun hb=>by rw[hIfree b hb o] at hu; cases hu
 have hblk:∀b,hdr'.ownBlock=some b→hdr.ownBlock=some b∨w.heap.size≤b:=fun b hb=>(hs'.blkF 1000000 _ b k1 hb).symm
 refine⟨hdr',k1,?_,hloc⟩
 exact
 {below:=h.below.trans hs'.below
  mem:=hKw
  memC:=Mem.sub_trans h.memC hsubK
  memN:=fun b hb hf o=>by
   have hn:hdr.ownBlock≠some b:=fun hb'=>by
    rcases hown b hb' with h1 | h1
    ·omega
    ·exact hf h1
   rw[hKn b o (Nat.lt_of_lt_of_le hb h.below.size) hn]
   exact h.memN b hb hf o
  frame:=fun b hb hf=>by
   have hn:hdr.ownBlock≠some b:=fun hb'=>by
    rcases hown b hb' with h1 | h1
    ·omega
    ·exact hf h1
   exact (hfr b (Nat.lt_of_lt_of_le hb h.below.size) hn).trans (h.frame b hb hf)
  loc:=h.loc.trans hloc
  blkF:=fun i li b hi hlb=>by
   by_cases ei:i=id
   ·subst ei
    have:Loc.row v' hdr' sz'=li:=by simpa[lset] using hi
    subst this
    rcases hblk b hlb with h1 | h1
    ·exact hown b h1
    ·exact .inl (Nat.le_trans h.below.size h1)
   ·exact h.blkF i li b (by simpa[lset,ei] using hi) hlb
  size:=h.size
  env:=fun t=>(h.env t).mono hsubK hloc
  dom:=fun i li hi=>by
   by_cases ei:i=id
   ·exact⟨.row v' e' sz' es',by simp[hset,ei]⟩
   ·obtain⟨c,hc⟩:=h.dom i li (by simpa[lset,ei] using hi)
    exact⟨c,by simpa[hset,ei] using hc⟩
  chunk:=fun i c hc=>by
   by_cases ei:i=id
   ·subst ei
    have:zcb.row v' e' sz' es'=c:=by simpa[hset] using hc
    subst this
    refine⟨hdr',us',by simp[lset],k2,k3,k4,fun j u c hu hc=>?_,k6,fun b hb o=>?_⟩
    ·rcases hK with ⟨_,e2⟩ | ⟨e1,hflat⟩
     ·rw[e2]; exact k5 j u c hu hc
     ·rw[e1]
      refine (k5 j u c hu hc).isVal ?_
      obtain⟨x,hx,hcx⟩:=List.mem_flatten.1 (List.mem_of_getElem? hc)
      exact List.all_eq_true.1 (List.all_eq_true.1 hflat x hx) c hcx
    ·rcases hK with ⟨_,e2⟩ | ⟨e1,_⟩
     ·rw[e2]; exact k7 b hb o
     ·rw[e1]
      rcases hblk b hb with h1 | h1
      ·exact hIfree b h1 o
      ·cases hI:I b o with
       | none=>rfl
       | some u=>exact absurd (h.mem.lt hI) (by omega)
   ·refine (h.chunk i c (by simpa[hset,ei] using hc)).keep hsubK hloc (by simp[lset,ei]) fun li b hi hlb=>?_
    have hn:hdr.ownBlock≠some b:=fun hb'=>ei (h.apart i id li _ b hi hl hlb hb')
    have hlt:=(h.blkB i li b hi hlb).2
    exact⟨hfr b hlt hn,fun o=>hKn b o hlt hn⟩
  blkB:=fun i li b hi hlb=>by
   by_cases ei:i=id
   ·subst ei
    have:Loc.row v' hdr' sz'=li:=by simpa[lset] using hi
    subst this
    exact hs'.blkB 1000000 _ b k1 hlb
   ·have:=h.blkB i li b (by simpa[lset,ei] using hi) hlb
    exact⟨this.1,Nat.lt_of_lt_of_le this.2 hs'.below.size⟩
  apart:=fun i j li lj b hi hj hbi hbj=>by
   have one:∀k lk,k≠id→L k=some lk→lk.blk=some b→hdr'.ownBlock≠some b:=fun k lk hk hlk hbk hb'=>by
    rcases hblk b hb' with h1 | h1
    ·exact hk (h.apart k id lk _ b hlk hl hbk h1)
    ·have:=(h.blkB k lk b hlk hbk).2
     omega
   by_cases ei:i=id<;>by_cases ej:j=id
   ·rw[ei,ej]
   ·subst ei
    have:Loc.row v' hdr' sz'=li:=by simpa[lset] using hi
    subst this
    exact absurd hbi (one j lj ej (by simpa[lset,ej] using hj) hbj)
   ·subst ej
    have:Loc.row v' hdr' sz'=lj:=by simpa[lset] using hj
    subst this
    exact absurd hbj (one i li ei (by simpa[lset,ei] using hi) hbi)
   ·exact h.apart i j li lj b (by simpa[lset,ei] using hi) (by simpa[lset,ej] using hj) hbi hbj }
end

def hdel (H:za) (id:Nat):za:=fun i=>if i=id then none else H i
theorem zyx (H:za) (id:Nat):HSub (hdel H id) H:=fun i c h=>by
 unfold hdel at h
 split at h
 ·cases h
 ·exact h

def snapBut (w:World) (r:Option Nat):Mem:=fun b o=>if r=some b then none else w.cell? ⟨b,o,none⟩

def callMR (P:Program) (o:Oper) (ρ:Operand→AV) (H:za) (Kr:AV→za→Prop):Prop :=
 ∃k id v e sz es als ps b Q,callArgs o ρ=some (k,.row id v :: als)∧H id=some (.row v e sz es)∧lendL (lend1 (hdel H id)) als=some (ps,b)∧ziu P k v e sz es ps Q ∧
  ∀a c,Q a c→∃v' e' sz' es' a',c=some (.row v' e' sz' es')∧backA id a=some a'∧(b=true→(es'.all fun x=>x.all isVal)=true∧(match a' with | .p x=>x.scalar | _=>true)=true)∧Kr a' (hset H id (.row v' e' sz' es'))

theorem zyg {J K : Mem} {L' : zbl} {u : Value} {a a' : AV} {id v' sz' : Nat} {hdr' : Value} (h : AVR J L' u a) (hb : backA id a = some a') (hl : L' 1000000 = some (.row v' hdr' sz')) (hK : ∀ x, a' = .p x → VR J u x → VR K u x) :
  AVR K (lset L id (.row v' hdr' sz')) u a':=by
 unfold backA at hb
 split at hb
 ·simp only[Option.some.injEq] at hb
  subst hb
  exact .p _ _ (hK _ rfl h.of_p)
 ·split at hb
  ·rename_i i v hi
   simp only[Option.some.injEq] at hb
   subst hb
   subst hi
   cases h with
   | row _ _ _ v1 hdr1 sz1 hl1 hle hh h1 =>
    rw[hl] at hl1
    simp only[Option.some.injEq,Loc.row.injEq] at hl1
    obtain⟨rfl,rfl,rfl⟩:=hl1
    exact .row u id v _ hdr' sz' (by simp[lset]) hle hh h1
  ·cases hb
 ·simp only[Option.some.injEq] at hb
  subst hb
  cases h with
  | tup us _ hl hv=>exact .tup us [] hl (by simp)
 ·cases hb

theorem zya {o : Oper} {ρ : Operand → AV} {H : za} {Kr : AV → za → Prop} (h : callMR P o ρ H Kr) {C : Ctx} {env : Env} {tm : Array Value} {w : World} (hs : Sim C env H I L tm w) {σ : Operand → Value} (hσ : ∀ x, AVR I L (σ x) (ρ x)) :
  ∃k args,(execOp σ o).run P w = .ok (.enter k args) w∧Calls P k args w fun e w'=>∃v I' L' a H',e = .returned v∧Kr a H'∧AVR I' L' v a∧Sim C env H' I' L' tm w':=by
 obtain⟨k,id,v,e,sz,es,als,ps,b,Q,h1,h2,h3,h4,h5⟩:=h
 obtain⟨us,hr,hu⟩:=zm7 h1 h4.1 hσ w
 refine⟨k,_,hr,?_⟩
 cases us with
 | nil=>have:=hu.1; simp at this
 | cons hdr0 vs =>
  obtain⟨hdr,ws,q1,q2,q3,q4,q5,q6,q7⟩:=hs.chunk id _ h2
  have hu0:=hu.2 0 hdr0 _ rfl rfl
  have hone:hdr0=hdr∧hdr.oneCell'=true:=by
   cases hu0 with
   | row _ _ _ v1 hdr1 sz1 hl hle hh h1 =>
    rw[q1] at hl
    simp only[Option.some.injEq,Loc.row.injEq] at hl
    obtain⟨_,r2,_⟩:=hl
    subst r2
    have:=hh (by assumption)
    subst this
    exact⟨rfl,h1⟩
  obtain⟨rfl,h1c⟩:=hone
  have hrest:AVRs I L vs als:=⟨by simpa using hu.1,fun j u c hj hc=>hu.2 (j+1) u c hj hc⟩
  cases b with
  | false =>
   obtain⟨k1,_,k3⟩:=zgm (zjs hs (zyx H id) (zit hs.mem) ((zl5 L w).g _)) als ps false h3 vs hrest.1 hrest.2
   refine (h4.2 C.B I w hdr0 ws vs hs.leB hs.mem ⟨q2,q3,q4,q5,q6,q7⟩ h1c ⟨k1,k3 rfl⟩).mono fun x w' ⟨u,a,H',I',L',m1,m2,m3,m4⟩=>?_
   obtain⟨v',e',sz',es',a',n1,n2,_,n4⟩:=h5 a _ m2
   obtain⟨hdr',g1,g2,g3⟩:=hs.back h2 q1 (Mem.sub_refl I) q7 m4 n1 (K:=I') (.inl ⟨rfl,rfl⟩)
   exact⟨u,I',_,a',_,m1,n4,zyg m3 n2 g1 fun _ _ h=>h,g2⟩
  | true =>
   have hJ:I.sub (snapBut w hdr0.ownBlock):=fun b o u hu=>by
    unfold snapBut
    split
    ·rename_i hb; rw[q7 b hb o] at hu; cases hu
    ·exact hs.mem b o u hu
   have hJn:∀b,hdr0.ownBlock=some b→∀o,snapBut w hdr0.ownBlock b o=none:=fun b hb o=>by unfold snapBut; rw[if_pos hb]
   have hJw:(snapBut w hdr0.ownBlock).inW w:=fun b o u hu=>by
    unfold snapBut at hu
    split at hu
    ·cases hu
    ·exact hu
   have hsee:zsc (hdel H id) L w (snapBut w hdr0.ownBlock):=fun i ch hi l b hl hb o u hu=>by
    unfold snapBut
    rw[if_neg]
    ·exact hu
    ·intro hb'
     have:=hs.apart i id l _ b hl q1 hb hb'
     subst this
     simp[hdel] at hi
   obtain⟨k1,k2,_⟩:=zgm (zjs hs (zyx H id) hJ hsee) als ps true h3 vs hrest.1 hrest.2
   refine (h4.2 C.B (snapBut w hdr0.ownBlock) w hdr0 ws vs hs.leB hJw ⟨q2,q3,q4,fun j u c hu hc=>(q5 j u c hu hc).mono hJ,q6,hJn⟩ h1c ⟨k1,k2⟩).mono fun x w' ⟨u,a,H',I',L',m1,m2,m3,m4⟩=>?_
   obtain⟨v',e',sz',es',a',n1,n2,n3,n4⟩:=h5 a _ m2
   obtain⟨n5,n6⟩:=n3 rfl
   obtain⟨hdr',g1,g2,g3⟩:=hs.back h2 q1 hJ hJn m4 n1 (K:=I) (.inr ⟨rfl,n5⟩)
   exact⟨u,I,_,a',_,m1,n4,zyg m3 n2 g1 fun x hx h=>by subst hx; exact h.scalar n6,g2⟩
end Go.Abs
namespace Go.Abs
open Go.RowKit

variable {P:Program} {I:Mem} {L:zbl}

def Mem.shutAt (I:Mem) (L:zbl) (w:World) (id:Nat):Mem:=fun b o=>match L id with
 | some l=>if l.blk=some b then w.cell? ⟨b,o,none⟩ else I b o
 | none=>I b o

theorem Mem.sub_shutAt {I:Mem} {w:World} (h:I.inW w) (L:zbl) (id:Nat):I.sub (I.shutAt L w id):=fun b o u hu=>by
 unfold Mem.shutAt
 split
 ·split
  ·exact h b o u hu
  ·exact hu
 ·exact hu

theorem Fr.shut (C : Ctx) (I : Mem) (L : zbl) {H : za} (w : World) {id v sz : Nat} {e : TypeId} {es : List (List PV)} (hH : H id = some (.row v e sz es)) :
  Fr C I L H w (I.shutAt L w id) L (hset H id (.shut v es)) w:=fun env tm hs=>by
 have hsub:=Mem.sub_shutAt hs.mem L id
 have hsee:∀l b,L id=some l→l.blk=some b→∀o u,w.cell? ⟨b,o,none⟩=some u→I.shutAt L w id b o=some u:=fun l b hl hb o u hu=>by
  unfold Mem.shutAt
  rw[hl]
  simp[hb,hu]
 have hother:∀i l b,i≠id→L i=some l→l.blk=some b→∀o,I.shutAt L w id b o=I b o:=fun i l b hne hl hb o=>by
  unfold Mem.shutAt
  split
  ·rename_i l' hl'
   split
   ·rename_i hb'
    exact absurd (hs.apart i id l l' b hl hl' hb hb') hne
   ·rfl
  ·rfl
 obtain⟨hdr,us,h1,h2,h3,h4,h5,h6,h7⟩:=hs.chunk id _ hH
 exact
 {below:=hs.below
  mem:=fun b o u hu=>by
   unfold Mem.shutAt at hu
   split at hu
   ·split at hu
    ·exact hu
    ·exact hs.mem b o u hu
   ·exact hs.mem b o u hu
  memC:=Mem.sub_trans hs.memC hsub
  memN:=fun b hb hf o=>by
   rw[←hs.memN b hb hf o]
   unfold Mem.shutAt
   split
   ·rename_i l hl
    split
    ·rename_i hlb
     rcases hs.blkF id l b hl hlb with h | h
     ·omega
     ·exact absurd h hf
    ·rfl
   ·rfl
  frame:=hs.frame
  loc:=hs.loc
  blkF:=hs.blkF
  size:=hs.size
  env:=fun t=>(hs.env t).mono hsub (zcd.refl L)
  dom:=fun i l hl=>by
   obtain⟨c,hc⟩:=hs.dom i l hl
   by_cases e:i=id
   ·exact⟨.shut v es,by simp[hset,e]⟩
   ·exact⟨c,by simpa[hset,e] using hc⟩
  chunk:=fun i c hc=>by
   by_cases e:i=id
   ·subst e
    have:zcb.shut v es=c:=by simpa[hset] using hc
    subst this
    refine⟨hdr,sz,h1,?_,h4,?_⟩
    ·have hfl:=zb8 h4
     have hlen:us.length=es.flatten.length:=by rw[hfl]; exact h2.1
     rcases h2.2 with ⟨rfl,hn⟩ | ⟨g,cap,cur,rfl,hb,hg,hnc,hcm,hcs,htake⟩
     ·have he:es=[]:=List.length_eq_zero_iff.1 hn
      subst he
      exact .lst none 0 0 [] us sz rfl (by simp) hlen (fun j u c hu hc=>(h5 j u c hu hc).mono hsub) h6 (.inl (List.length_eq_zero_iff.1 (by simpa using hlen))) (fun _=>⟨rfl,rfl⟩) (Nat.le_refl _)
     ·refine .lst _ _ _ es us sz rfl h4 hlen (fun j u c hu hc=>(h5 j u c hu hc).mono hsub) h6 (.inr ⟨g,0,rfl,fun j u hu=>?_⟩) (by simp) hnc
      rw[Nat.zero_add]
      refine hsee _ g h1 rfl j u ?_
      rw[zev hg]
      rw[←htake,List.getElem?_take] at hu
      split at hu
      ·simpa using hu
      ·cases hu
    ·intro hne
     rcases h2.2 with ⟨rfl,hn⟩ | ⟨g,cap,cur,rfl,_⟩
     ·exact absurd (List.length_eq_zero_iff.1 hn) hne
     ·exact⟨g,0,_,cap,rfl⟩
   ·exact (hs.chunk i c (by simpa[hset,e] using hc)).keep hsub (zcd.refl L) rfl fun l b hl hb=>⟨rfl,fun o=>hother i l b e hl hb o⟩
  blkB:=hs.blkB
  apart:=hs.apart }

def seal1 (H:za) (id:Nat):za:=match H id with
 | some (.row v _ _ es)=>hset H id (.shut v es)
 | _=>H

def sealIds:List Nat→za→za
 | [],H=>H
 | id :: r,H=>sealIds r (seal1 H id)

theorem Fr.sealIds (C:Ctx) (L:zbl) (w:World):∀ (ids:List Nat) (H:za) (I:Mem),(I.inW w)→∃I',I.sub I'∧I'.inW w∧Fr C I L H w I' L (sealIds ids H) w
 | [],H,I,hw=>⟨I,Mem.sub_refl I,hw,Fr.refl C I L H w⟩
 | id :: r,H,I,hw=>by
  unfold Abs.sealIds seal1
  split
  ·rename_i v e sz es hH
   have hw':(I.shutAt L w id).inW w:=fun b o u hu=>by
    unfold Mem.shutAt at hu
    split at hu
    ·split at hu
     ·exact hu
     ·exact hw b o u hu
    ·exact hw b o u hu
   obtain⟨I',h1,h2,h3⟩:=Fr.sealIds C L w r (hset H id (.shut v es)) (I.shutAt L w id) hw'
   exact⟨I',Mem.sub_trans (Mem.sub_shutAt hw L id) h1,h2,(Fr.shut C I L w hH).trans h3⟩
  ·exact Fr.sealIds C L w r H I hw

def rowIdsL:List AV→List Nat
 | []=>[]
 | .row id _ :: r=>id :: rowIdsL r
 | _ :: r=>rowIdsL r
def rowIds:List (Nat×AV)→List Nat
 | []=>[]
 | (_,.row id _) :: r=>id :: rowIds r
 | (_,.agg cs) :: r=>rowIdsL cs++rowIds r
 | _ :: r=>rowIds r

def shut1 (H:za) (a:AV):AV:=match a with
 | .row id ver=>match H id with
  | some (.shut v es)=>if v=ver then .p (.lst es) else .row id ver
  | _=>.row id ver
 | a=>a
def shutV (H:za) (a:AV):AV:=match a with
 | .agg cs=>.agg (cs.map (shut1 H))
 | a=>shut1 H a
theorem zsq (a:AV):shut1 heap0 a=a:=by unfold shut1; cases a<;>rfl
theorem z1x (a:AV):shutV heap0 a=a:=by
 unfold shutV
 cases a with
 | agg cs =>
  have:cs.map (shut1 heap0)=cs:=by
   rw[List.map_congr_left (fun x _=>zsq x),List.map_id']
  simp only[this]
 | _=>exact zsq _

def exS (P:Program) (o:Oper) (ρ:Operand→AV) (H:za):Option (Prop×AV×za):=match o.op with
 | .buildSlice t n parts=>match bsliceE P t n ((parts.toList.map fun x=>(x.1,ρ x.2)).map fun x=>(x.1,shutV (sealIds (rowIds (parts.toList.map fun x=>(x.1,ρ x.2))) H) x.2)) with
  | some (_,es)=>some (True,.p (.lst es),sealIds (rowIds (parts.toList.map fun x=>(x.1,ρ x.2))) H)
  | none=>none
 | _=>none

theorem zsp {C:Ctx} {H:za} {env:Env} {tm:Array Value} {w:World} (hs:Sim C env H I L tm w) {u:Value} {a:AV} (hu:AVR I L u a):AVR I L u (shut1 H a):=by
 unfold shut1
 split
 ·rename_i id ver
  split
  ·rename_i v es hH
   split
   ·rename_i hv
    subst hv
    obtain⟨hdr,sz,h1,h2,_⟩:=hs.chunk id _ hH
    cases hu with
    | row _ _ _ v1 hdr1 sz1 hl hle hh hone =>
     rw[h1] at hl
     simp only[Option.some.injEq,Loc.row.injEq] at hl
     obtain⟨r1,r2,r3⟩:=hl
     subst r1 r2 r3
     rw[hh rfl]
     exact .p _ _ h2
   ·exact hu
  ·exact hu
 ·exact hu

theorem z0a {C:Ctx} {H:za} {env:Env} {tm:Array Value} {w:World} (hs:Sim C env H I L tm w) {u:Value} {a:AV} (hu:AVR I L u a):AVR I L u (shutV H a):=by
 unfold shutV
 split
 ·rename_i cs
  cases hu with
  | agg us _ hl hv hone =>
   refine .agg us _ (by simpa using hl) (fun j u c hu hc=>?_) hone
   rw[List.getElem?_map] at hc
   cases hj:cs[j]? with
   | none=>rw[hj] at hc; cases hc
   | some a =>
    rw[hj] at hc
    simp only[Option.map_some,Option.some.injEq] at hc
    subst hc
    exact zsp hs (hv j u a hu hj)
 ·exact zsp hs hu

theorem z9c {o : Oper} {ρ : Operand → AV} {v : AV} {pre : Prop} {H H' : za} (h : exS P o ρ H = some (pre, v, H')) {C : Ctx} {env : Env} {tm : Array Value} {w : World}
  (hs:Sim C env H I L tm w) {σ:Operand→Value} (hσ:∀x,AVR I L (σ x) (ρ x)):zg1 P C H I L w ((execOp σ o).run P w) v H':=by
 unfold exS at h
 unfold execOp
 split at h
 ·rename_i t n parts hop
  simp only[hop]
  split at h
  ·rename_i e es hb
   simp only[Option.some.injEq,Prod.mk.injEq] at h
   obtain⟨_,h2,h3⟩:=h
   subst h2 h3
   obtain⟨I',hsub,hw,hfr⟩:=Fr.sealIds C L w (rowIds (parts.toList.map fun x=>(x.1,ρ x.2))) H I hs.mem
   have hs':=hfr env tm hs
   have hpr:=zn8 (I:=I) (L:=L) hσ parts.toList
   have hpr':ztu I' L (parts.toList.map fun x=>(x.1,σ x.2)) ((parts.toList.map fun x=>(x.1,ρ x.2)).map fun x=>(x.1,shutV (sealIds (rowIds (parts.toList.map fun x=>(x.1,ρ x.2))) H) x.2)):=by
    refine⟨by simp,fun j x y hx hy=>?_⟩
    rw[List.getElem?_map] at hy
    cases hj:(parts.toList.map fun x=>(x.1,ρ x.2))[j]? with
    | none=>simp[hj] at hy
    | some z =>
     rw[hj] at hy
     simp only[Option.map_some,Option.some.injEq] at hy
     obtain⟨k1,k2⟩:=hpr.2 j x z hx hj
     subst hy
     exact⟨k1,z0a hs' (k2.mono hsub (zcd.refl L))⟩
   obtain⟨uo,sz,hr,_,_,hpos,hn,hall,hl,hv,hone⟩:=zmj hb hpr' w
   have hr':(Instr.buildSlice t n (parts.map fun x=>(x.1,σ x.2))).run P w = .ok (.slice (some ⟨w.heap.size,0,none⟩) n n) (w.alloc (.cells uo.toArray e)):=by
    rw[←hr]
    congr 2
    apply Array.ext'; simp
   refine⟨.slice (some ⟨w.heap.size,0,none⟩) n n,_,I'.with w.heap.size uo.toArray,L,.inl (by rw[zd5,hr']; rfl),?_,hfr.trans (Fr.imm C I' L _ w _ e)⟩
   have:=VR.newList (w:=w) (us:=uo) (rest:=[]) hw hall hl hv hone (cap:=n) (by omega)
   rw[List.append_nil] at this
   rw[hn] at this
   exact .p _ _ this
  ·cases h
 ·cases h

def exM (P:Program) (o:Oper) (ρ:Operand→AV) (H:za):Option (Prop×AV×za):=match exP P o ρ with
 | some (pre,v)=>some (pre,v,H)
 | none=>match exQ P o ρ H with
  | some (pre,v)=>some (pre,v,H)
  | none=>match exW P o ρ H with
   | some r=>some r
   | none=>exS P o ρ H

def isApp:Op→Bool
 | .call c=>(match c.callee with
  | .builtin .append=>true
  | _=>false)
 | _=>false
def orE (x:Option (Prop×AV×za)) (b:Bool) (y:Option (Prop×AV×za)):Option (Prop×AV×za):=match x,b with
 | some r,_=>some r
 | none,true=>y
 | none,false=>none

def exAll (P:Program) (own:List Nat) (o:Oper) (ρ:Operand→AV) (H:za):Option (Prop×AV×za):=match o.dst with
 | some d=>if own.contains d=true then orE (exN P o ρ H d) (isApp o.op) (exM P o ρ H) else exM P o ρ H
 | none=>exM P o ρ H

theorem zko {o : Oper} {ρ : Operand → AV} {v : AV} {pre : Prop} {H H' : za} (h : exM P o ρ H = some (pre, v, H')) (hp : pre) {C : Ctx} {env : Env} {tm : Array Value} {w : World}
  (hs:Sim C env H I L tm w) {σ:Operand→Value} (hσ:∀x,AVR I L (σ x) (ρ x)):zg1 P C H I L w ((execOp σ o).run P w) v H':=by
 unfold exM at h
 split at h
 ·rename_i hx
  simp only[Option.some.injEq,Prod.mk.injEq] at h
  obtain⟨rfl,rfl,rfl⟩:=h
  exact zbas hx hp hs hσ
 ·split at h
  ·rename_i hx
   simp only[Option.some.injEq,Prod.mk.injEq] at h
   obtain⟨rfl,rfl,rfl⟩:=h
   exact z8b hx hp hs hσ
  ·split at h
   ·rename_i hx
    simp only[Option.some.injEq] at h
    subst h
    exact zbar hx hp hs hσ
   ·exact z9c h hs hσ

theorem z04 {own : List Nat} {o : Oper} {ρ : Operand → AV} {v : AV} {pre : Prop} {H H' : za} (h : exAll P own o ρ H = some (pre, v, H')) (hp : pre) {C : Ctx} {env : Env} {tm : Array Value} {w : World}
  (hs:Sim C env H I L tm w) {σ:Operand→Value} (hσ:∀x,AVR I L (σ x) (ρ x)):zg1 P C H I L w ((execOp σ o).run P w) v H':=by
 unfold exAll at h
 split at h
 ·split at h
  ·unfold orE at h
   split at h
   ·rename_i hx
    exact z58 (hx.trans h) hp hs hσ
   ·exact zko h hp hs hσ
   ·cases h
  ·exact zko h hp hs hσ
 ·exact zko h hp hs hσ

def putA (env:Env) (d:Option Nat) (v:AV):Env:=match d with
 | some d=>upd env d v
 | none=>env

def dstOk (N:Nat) (d:Option Nat):Prop:=match d with
 | some d=>d<N
 | none=>True

theorem Sim.putA {C : Ctx} {env : Env} {H : za} {tm : Array Value} {w : World} (h : Sim C env H I L tm w) {d : Option Nat} {u : Value} {v : AV} (hd : dstOk C.n d) (hv : AVR I L u v) (ds : List Deferred) :
  Sim C (putA env d v) H I L (Act.put ⟨tm,ds⟩ d u).tmps w:=by
 cases d with
 | none=>exact h
 | some d=>exact h.put hd hv

theorem AVR.of_tup0 {u:Value} (h:AVR I L u (.tup [])):u = .tuple #[]:=by
 cases h with
 | tup us _ hl _ =>
  have:us=[]:=List.length_eq_zero_iff.1 (by simpa using hl)
  rw[this]

def guardA (ops:Array Oper) (o:Oper) (env:Env):Option Bool:=match o.guard with
 | none=>some true
 | some (j,want)=>match (ops[j]?).bind (·.dst) with
  | some d=>match env d with
   | .p (.val (.bool b))=>some (b == want)
   | .tup []=>some false
   | _=>none
  | none=>none

theorem zib {ops : Array Oper} {o : Oper} {env : Env} {g : Bool} (h : guardA ops o env = some g) {C : Ctx} {H : za} {tm : Array Value} {w : World} (hs : Sim C env H I L tm w) :
  Region.wanted o (yielded ops tm)=g:=by
 unfold guardA at h
 unfold Region.wanted
 split at h
 ·rename_i hg; simp at h; subst h; simp[hg]
 ·rename_i j want hg
  rw[hg]
  dsimp only
  split at h
  ·rename_i d hd
   split at h
   ·rename_i b hb
    simp at h; subst h
    have hu:=hs.env d
    rw[hb] at hu
    have hu:=hu.of_val.1
    have hlt:d<tm.size:=by
     rcases Nat.lt_or_ge d tm.size with h | h
     ·exact h
     ·simp[Array.getElem?_eq_none h,undef] at hu
    have:tm[d]? = some (.bool b):=by
     rw[←hu]
     simp[hlt]
    simp[yielded,hd,this]
   ·rename_i hb
    simp at h; subst h
    have hu:=hs.env d
    rw[hb] at hu
    have hu:=hu.of_tup0
    have:∀b,tm[d]?≠some (.bool b):=fun b hb=>by
     rw[Array.getD_eq_getD_getElem?,hb] at hu
     cases hu
    cases ht:tm[d]? with
    | none=>simp[yielded,hd,ht]
    | some u =>
     cases u with
     | bool b=>exact absurd ht (this b)
     | _=>simp[yielded,hd,ht]
   ·cases h
  ·cases h

def updL (x:AV):List Nat→Env→Env
 | [],env=>env
 | t :: r,env=>updL x r (putA env (some t) x)
theorem zbc0 (x:AV) (env:Env):updL x [] env=env:=rfl
theorem z6q (x:AV) (t:Nat) (r:List Nat) (env:Env):updL x (t :: r) env=updL x r (putA env (some t) x):=rfl
def holds (env:Env) (id v:Nat):List Nat→Prop
 | []=>True
 | t :: r=>env t = .row id v∧holds env id v r
theorem z94 (env:Env) (id v:Nat):holds env id v []=True:=rfl
theorem z25 (env:Env) (id v t:Nat) (r:List Nat):holds env id v (t :: r)=(env t = .row id v∧holds env id v r):=rfl

theorem simUnrow {C : Ctx} {env : Env} {H : za} {I : Mem} {L : zbl} {tm : Array Value} {w : World} {id v t : Nat} {es : List (List PV)} (hs : Sim C env H I L tm w) (hH : H id = some (.shut v es)) (ht : env t = .row id v) :
  Sim C (putA env (some t) (.p (.lst es))) H I L tm w:=by
 refine { hs with env:=fun i=>?_ }
 unfold putA
 simp only
 unfold upd
 split
 ·rename_i hi
  subst hi
  have h1:=hs.env i
  rw[ht] at h1
  generalize tm.getD i undef=u at h1 ⊢
  obtain⟨hdr,sz,g1,g2,_⟩:=hs.chunk id _ hH
  cases h1 with
  | row _ _ _ v' hdr' sz' hl hle h h1 =>
   rw[g1] at hl
   simp only[Option.some.injEq,Loc.row.injEq] at hl
   obtain⟨rfl,rfl,rfl⟩:=hl
   rw[h rfl]
   exact .p _ _ g2
 ·exact hs.env i
theorem zq4 {C : Ctx} {H : za} {I : Mem} {L : zbl} {tm : Array Value} {w : World} {id v : Nat} {es : List (List PV)} (hH : H id = some (.shut v es)) : ∀ (ts : List Nat) (env : Env), ts.Nodup → Sim C env H I L tm w → holds env id v ts →
  Sim C (updL (.p (.lst es)) ts env) H I L tm w
 | [],env,_,hs,_=>hs
 | t :: r,env,hn,hs,ht=>by
  rw[List.nodup_cons] at hn
  refine zq4 hH r _ hn.2 (simUnrow hs hH ht.1) ?_
  have:∀r:List Nat,t ∉ r→holds env id v r→holds (putA env (some t) (.p (.lst es))) id v r:=by
   intro r
   induction r with
   | nil=>intro _ _; exact trivial
   | cons u r ih =>
    intro hn hh
    refine⟨?_,ih (fun h=>hn (List.mem_cons_of_mem _ h)) hh.2⟩
    rw[←hh.1]
    unfold putA
    simp only
    unfold upd
    rw[if_neg]
    intro e
    exact hn (by rw[e]; exact List.mem_cons_self)
  exact this r hn.1 ht.2
def Weak (env:Env) (H:za) (env':Env) (H':za):Prop :=
 ∀C I L tm w,Sim C env H I L tm w→∃I' L',Sim C env' H' I' L' tm w
def weakR (P:Program) (o:Oper) (W:Env→za→Prop) (env:Env) (H:za):Prop :=
 ∃env2 H2 pre v H',Weak env H env2 H2∧exM P o (ev env2) H2=some (pre,v,H')∧pre∧W (putA env2 o.dst v) H'
def callK0 (P:Program) (o:Oper) (W:Env→za→Prop) (env:Env) (H:za):Prop :=
 (∃ids,callR P o (ev env) (sealIds ids H) fun x=>W (putA env o.dst (.p x)) (sealIds ids H))∨extR P o (ev env) (fun x=>W (putA env o.dst (.p x)) H) ∨
  ∃ids,callFR P o (ev env) (sealIds ids H) (fun a H'=>W (putA env o.dst a) H')∨callMR P o (ev env) (sealIds ids H) fun a H'=>W (putA env o.dst a) H'

def handR (P:Program) (o:Oper) (W:Env→za→Prop) (env:Env) (H:za):Prop :=
 ∃v H',W (putA env o.dst v) H'∧∀ (C:Ctx) (I:Mem) (L:zbl) (tm:Array Value) (w:World) (σ:Operand→Value),Sim C env H I L tm w→(∀x,AVR I L (σ x) (ev env x))→zg1 P C H I L w ((execOp σ o).run P w) v H'
def callK (P:Program) (o:Oper) (W:Env→za→Prop) (env:Env) (H:za):Prop:=callK0 P o W env H∨weakR P o W env H∨handR P o W env H

def walk (P:Program) (N:Nat) (own:List Nat) (ops:Array Oper):List Oper→(Env→za→Prop)→Env→za→Prop
 | [],K,env,H=>K env H
 | o :: rest,K,env,H=>dstOk N o.dst∧match guardA ops o env with
  | some true=>(match exAll P own o (ev env) H with
   | some (pre,v,H')=>pre∧walk P N own ops rest K (putA env o.dst v) H'
   | none=>callK P o (walk P N own ops rest K) env H)
  | some false=>walk P N own ops rest K (putA env o.dst (.tup [])) H
  | none=>False

theorem zg1.upon {C : Ctx} {H H' : za} {w : World} {r : Result Next} {v : AV} (h : zg1 P C H I L w r v H') {o : Oper} {a : Act} {next : Act → World → Prop} {Q : Exit → Act → World → Prop}
  (hn:∀u w' I' L',AVR I' L' u v→Fr C I L H w I' L' H' w'→next (a.put o.dst u) w'):o.upon P a next Q r:=by
 obtain⟨u,w',I',L',hr,ha,hf⟩:=h
 rcases hr with rfl | ⟨rfl,rfl⟩
 ·exact hn u w' I' L' ha hf
 ·exact hn undef w' I' L' ha hf

theorem z2o {own : List Nat} {o : Oper} {env : Env} {H : za} {W : Env → za → Prop} (h : match exAll P own o (ev env) H with
   | some (pre,v,H')=>pre∧W (putA env o.dst v) H'
   | none=>callK P o W env H) {C:Ctx} {tm:Array Value} {ds:List Deferred} {w:World} (hs:Sim C env H I L tm w) (hd:dstOk C.n o.dst) {next:Act→World→Prop} {Q:Exit→Act→World→Prop}
  (hW:∀env' H' I' L' tm' w',W env' H'→Sim C env' H' I' L' tm' w'→next ⟨tm',ds⟩ w'):o.wp P ⟨tm,ds⟩ w next Q:=by
 have hσ:=fun x=>zji hs ds x
 unfold Oper.wp
 have hput:∀ {w':World} {I' L':_} {H':za} {u:Value} {v:AV},W (putA env o.dst v) H'→AVR I' L' u v→Fr C I L H w I' L' H' w'→next (Act.put ⟨tm,ds⟩ o.dst u) w':=by
  intro w' I' L' H' u v hw ha hf
  have:=(hf env tm hs).putA hd ha ds
  have e:(Act.put ⟨tm,ds⟩ o.dst u:Act)=⟨(Act.put ⟨tm,ds⟩ o.dst u).tmps,ds⟩:=by cases o.dst<;>rfl
  rw[e]
  exact hW _ _ I' L' _ w' hw this
 split at h
 ·rename_i pre v H' hx
  obtain⟨hp,hw⟩:=h
  exact (z04 hx hp hs hσ).upon fun u w' I' L' ha hf=>hput hw ha hf
 ·rcases h with h | ⟨env2,H2,pre,v,H',q1,q4,q5,q6⟩ | ⟨v,H',hw,hy⟩
  ·rcases h with ⟨ids,hc⟩ | he | ⟨ids,hc⟩
   case inr.inl =>
    obtain⟨u,x,hr,hv,hw⟩:=z5e he (w:=w) hσ
    exact (zg1.still (C:=C) (H:=H) hr (AVR.p _ _ hv)).upon fun u w' I' L' ha hf=>hput hw ha hf
   case inr.inr =>
    obtain⟨I1,hsub,hw1,hfr⟩:=Fr.sealIds C L w ids H I hs.mem
    have hs1:=hfr env tm hs
    obtain⟨k,args,hr,hcalls⟩:=hc.elim (fun hc=>zzv hc hs1 (fun x=>zji hs1 ds x)) (fun hc=>zya hc hs1 (fun x=>zji hs1 ds x))
    rw[hr,Oper.upon_enter]
    refine hcalls.mono fun e w' ⟨v,I',L',a,H',he,hw,hv,hs'⟩=>?_
    subst he
    have:=hs'.putA hd hv ds
    have e:(Act.put ⟨tm,ds⟩ o.dst v:Act)=⟨(Act.put ⟨tm,ds⟩ o.dst v).tmps,ds⟩:=by cases o.dst<;>rfl
    show next (Act.put ⟨tm,ds⟩ o.dst v) w'
    rw[e]
    exact hW _ _ I' L' _ w' hw this
   obtain⟨I1,hsub,hw1,hfr⟩:=Fr.sealIds C L w ids H I hs.mem
   have hs1:=hfr env tm hs
   obtain⟨k,args,hr,hcalls⟩:=z1j hc hs1 (fun x=>zji hs1 ds x)
   rw[hr,Oper.upon_enter]
   refine hcalls.mono fun e w' ⟨v,I',x,he,hw,hv,hf⟩=>?_
   subst he
   exact hput hw (.p _ _ hv) (hfr.trans hf)
  ·obtain⟨I2,L2,h2⟩:=q1 C I L tm w hs
   refine (zko q4 q5 h2 (fun y=>zji h2 ds y)).upon fun u w' I' L' ha hf=>?_
   have:=(hf _ tm h2).putA hd ha ds
   have e:(Act.put ⟨tm,ds⟩ o.dst u:Act)=⟨(Act.put ⟨tm,ds⟩ o.dst u).tmps,ds⟩:=by cases o.dst<;>rfl
   rw[e]
   exact hW _ _ I' L' _ w' q6 this
  ·exact (hy C I L tm w _ hs hσ).upon fun u w' I' L' ha hf=>hput hw ha hf

theorem zp5 {N : Nat} {own : List Nat} {ops : Array Oper} {K : Env → za → Prop} {Q : Exit → Act → World → Prop} {C : Ctx} {ds : List Deferred} (hN : C.n = N)
  (hK:∀env H I L tm w,K env H→Sim C env H I L tm w→Q .normal ⟨tm,ds⟩ w):∀ (l:List Oper) (env:Env) (H:za) (I:Mem) (L:zbl) (tm:Array Value) (w:World),
  walk P N own ops l K env H→Sim C env H I L tm w→wpList P ops Q l ⟨tm,ds⟩ w
 | [],env,H,I,L,tm,w,h,hs=>hK env H I L tm w h hs
 | o :: rest,env,H,I,L,tm,w,h,hs=>by
  obtain⟨hd,h⟩:=h
  rw[←hN] at hd
  unfold wpList
  split at h
  ·rename_i hg
   rw[if_pos (zib hg hs)]
   exact .inl (z2o h hs hd fun env' H' I' L' tm' w' hw hs'=>zp5 hN hK rest env' H' I' L' tm' w' hw hs')
  ·rename_i hg
   rw[if_neg (by rw[zib hg hs]; simp)]
   have e:(Act.put ⟨tm,ds⟩ o.dst undef:Act)=⟨(Act.put ⟨tm,ds⟩ o.dst undef).tmps,ds⟩:=by cases o.dst<;>rfl
   rw[e]
   exact zp5 hN hK rest _ H I L _ w h (hs.putA hd (.tup [] [] rfl (by simp)) ds)
  ·exact h.elim

end Go.Abs
