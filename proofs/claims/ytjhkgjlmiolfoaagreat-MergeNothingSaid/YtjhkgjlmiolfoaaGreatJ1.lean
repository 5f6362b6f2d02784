/- Joined texts, part 1: lemmas for the statement. No condition. -/
import Derived.Calls
import Derived.Tactics
import Derived.Orders
import Derived.Below
import Derived.Laws.AppendOwn
import Derived.Deep.MidRow
import Derived.Laws.Strings
import Derived.Laws.StructEq
import Derived.IntWalk
set_option maxHeartbeats 4000000
set_option linter.unusedSimpArgs false
set_option linter.unusedVariables false
open Nat (reduceEqDiff reduceLT reduceLeDiff reduceMul reduceAdd reduceSub)
open Go.IntKind (i64)
namespace Go.cr
theorem cu{p:Prop} [Decidable p](h:decide p=true):p:=of_decide_eq_true h
theorem en{p:Prop} [Decidable p](h:decide p=false):¬p:=of_decide_eq_false h
theorem dK{p:Prop} [Decidable p](h:p):decide p=true:=decide_eq_true h
theorem eZ{p:Prop} [Decidable p](h:¬p):decide p=false:=decide_eq_false h
theorem nI{α:Type}{l:List α}{i:Nat}(h:i<l.length):l[i]∈l:=List.getElem_mem h
theorem cA{α:Type}{a b:α} : (some a=some b)=(a=b):=Option.some.injEq a b
theorem iz{α β:Type}{a c:α}{b d:β} : ((a,b)=(c,d))=(a=c/\b=d):=Prod.mk.injEq a b c d
open Go.RowKit
abbrev Mem:=Nat->Nat->Option Value
def Mem.sub(I J:Mem):Prop:=∀b o u,I b o=some u->J b o=some u
def Mem.inW(I:Mem)(w:World):Prop:=∀b o u,I b o=some u->w.cell? ⟨b,o,none⟩=some u
theorem Mem.dV(I:Mem):I.sub I:=λ_ _ _ h=>h
theorem Mem.lP{I J K:Mem}(h:I.sub J)(k:J.sub K):I.sub K:=λ_ _ _ x=>k _ _ _ (h _ _ _ x)
inductive PV where
 |val (v:Value)
 |emp
 |aV (es:List (List PV))
 |dU (cs:List PV) (off:Nat)
 |agg (cs:List PV)
 |dQ (vs:List PV)
 |iw (fn:Fn) (first captured:List PV)
instance:Inhabited PV:=⟨.val (.bool false)⟩
inductive VR(I:Mem):Value->PV->Prop
 |val (v:Value) (h:v.oneCell'=true):VR I v (.val v)
 |emp (ao:Option Addr):VR I (.slice ao 0 0) .emp
 | aV (ao : Option Addr) (n cap : Nat) (es : List (List PV)) (us : List Value) (sz : Nat)
   (hn:es.length=n) (hsz:∀e∈es,e.length=sz) (hl:us.length=es.flatten.length)
   (hv:∀ (j:Nat) u c,us[j]? = some u->es.flatten[j]? = some c->VR I u c)
   (hone:∀u∈us,u.oneCell'=true)
   (hm:us=[]\/∃b off,ao=some ⟨b,off,none⟩/\∀ (j:Nat) u,us[j]? = some u->I b (off+j)=some u)
   (hnil:ao=none->n=0/\cap=0) (hcap:n<=cap):VR I (.slice ao n cap) (.aV es)
 | dU (b off : Nat) (cs : List PV) (us : List Value) (o : Nat) (hl : us.length = cs.length)
   (hv:∀ (j:Nat) u c,us[j]? = some u->cs[j]? = some c->VR I u c)
   (hone:∀u∈us,u.oneCell'=true)
   (hm:∀ (j:Nat) u,us[j]? = some u->I b (off+j)=some u):VR I (.pointer (some ⟨b,off+o,none⟩)) (.dU cs o)
 | agg (us : List Value) (cs : List PV) (hl : us.length = cs.length)
   (hv:∀ (j:Nat) u c,us[j]? = some u->cs[j]? = some c->VR I u c)
   (hone:∀u∈us,u.oneCell'=true):VR I (.agg us.toArray) (.agg cs)
 | dQ (us : List Value) (cs : List PV) (hl : us.length = cs.length)
   (hv:∀ (j:Nat) u c,us[j]? = some u->cs[j]? = some c->VR I u c):VR I (.tuple us.toArray) (.dQ cs)
 | iw (fn : Fn) (us vs : List Value) (fs cs : List PV) (hl : us.length = fs.length) (hl' : vs.length = cs.length)
   (hv:∀ (j:Nat) u c,us[j]? = some u->fs[j]? = some c->VR I u c)
   (we:∀ (j:Nat) u c,vs[j]? = some u->cs[j]? = some c->VR I u c):VR I (.func fn us.toArray vs.toArray) (.iw fn fs cs)
theorem VR.mono{I J:Mem}(h:I.sub J){v:Value}{p:PV}(hv:VR I v p):VR J v p:=by
 induction hv with
 |val v h1=>exact .val v h1
 |emp ao=>exact .emp ao
 |aV ao n cap es us sz hn hsz hl _ hone hm hnil hcap ih=>exact .aV ao n cap es us sz hn hsz hl ih hone (hm.imp id λ⟨b,off,e,k⟩=>⟨b,off,e,λj u hu=>h _ _ _ (k j u hu)⟩) hnil hcap
 |dU b off cs us o hl _ hone hm ih=>exact .dU b off cs us o hl ih hone λj u hu=>h _ _ _ (hm j u hu)
 |agg us cs hl _ hone ih=>exact .agg us cs hl ih hone
 |dQ us cs hl _ ih=>exact .dQ us cs hl ih
 |iw fn us vs fs cs hl hl' _ _ ih ih'=>exact .iw fn us vs fs cs hl hl' ih ih'
def PV.one:PV->Bool
 | .agg _ | .dQ _=>false
 |_=>true
theorem VR.one{I:Mem}{v:Value}{p:PV}(h:VR I v p)(hp:p.one=true):v.oneCell'=true:=by cases h<;>first|assumption|rfl|cases hp
def PV.cells:PV->List PV
 | .agg cs=>cs
 |x=>[x]
inductive AV where
 |p (x:PV)
 |row (id bf:Nat)
 |ptr (id off:Nat)
 |jm (id bf i off:Nat)
 |agg (cs:List AV)
 |dQ (vs:List AV)
 |iw (fn:Fn) (first captured:List AV)
 |eG (id bf:Nat)
 |kC (id bf i off:Nat)
 |kD (id bf i:Nat)
 |ng (id bf i j off:Nat)
 |bsl (id n:Nat)
 |iA (id bf off n m sz:Nat)
 |dead
instance:Inhabited AV:=⟨.dead⟩
inductive Loc where
 |box (b:Nat)
 |row (bf:Nat) (bH:Value) (sz:Nat)
 |deep (bf:Nat) (bH:Value) (sz sz':Nat) (di:Nat->Value) (n:Nat)
def Loc.blk:Loc->Option Nat
 | .box b=>some b
 | .row _ bH _=>bH.ownBlock
 | .deep _ bH _ _ _ _=>bH.ownBlock
def Loc.has:Loc->Nat->Prop
 | .box c,b=>c=b
 | .row _ bH _,b=>bH.ownBlock=some b
 | .deep _ bH _ _ di n,b=>bH.ownBlock=some b\/∃i,i<n/\(di i).ownBlock=some b
def yC(bH:Value)(di:Nat->Value)(n:Nat):List Nat:=bH.ownBlock.toList++(List.range n).flatMap λi=>(di i).ownBlock.toList
def Loc.ajR:Loc->List Nat
 | .box b=>[b]
 | .row _ bH _=>bH.ownBlock.toList
 | .deep _ bH _ _ di n=>yC bH di n
theorem aaY{bH:Value}{di:Nat->Value}{n b:Nat} : b∈yC bH di n↔bH.ownBlock=some b\/∃i,i<n/\(di i).ownBlock=some b:=by unfold yC;simp[List.mem_flatMap,eq_comm]
theorem Loc.ajS{l:Loc}{b:Nat} : b∈l.ajR↔l.has b:=by
 cases l with
 |box c=>simp[Loc.ajR,Loc.has,eq_comm]
 |row v bH sz=>simp[Loc.ajR,Loc.has]
 |deep v bH sz sz' di n=>exact aaY
abbrev bA:=Nat->Option Loc
def dL(L L':bA):Prop:=∀id,match L id with
 |none=>True
 |some (.box b)=>L' id=some (.box b)
 |some (.row v bH sz)=>∃v' eV,L' id=some (.row v' eV sz)/\v<=v'/\(v=v'->bH=eV)
 |some (.deep v bH sz sz' di n)=>∃v' eV kY n',L' id=some (.deep v' eV sz sz' kY n')/\v<=v'/\(v=v'->bH=eV/\di=kY/\n=n')
theorem dL.refl(L:bA):dL L L:=λid=>by
 cases h:L id with
 |none=>trivial
 |some l=>cases l with
  |box b=>rfl
  |row v bH sz=>exact⟨v,bH,rfl,Nat.le_refl _,λ_=>rfl⟩
  |deep v bH sz sz' di n=>exact⟨v,bH,di,n,rfl,Nat.le_refl _,λ_=>⟨rfl,rfl,rfl⟩⟩
theorem dL.box{L L':bA}(h:dL L L'){id b:Nat}(hl:L id=some (.box b)):L' id=some (.box b):=by have:=h id;rw[hl] at this;exact this
theorem dL.row{L L':bA}(h:dL L L'){id v:Nat}{bH:Value}{sz:Nat}(hl:L id=some (.row v bH sz)) :
  ∃v' eV,L' id=some (.row v' eV sz)/\v<=v'/\(v=v'->bH=eV):=by
 have:=h id;rw[hl] at this;exact this
theorem dL.deep{L L':bA}(h:dL L L'){id v:Nat}{bH:Value}{sz sz':Nat}{di:Nat->Value}{n:Nat}(hl:L id=some (.deep v bH sz sz' di n)) :
  ∃v' eV kY n',L' id=some (.deep v' eV sz sz' kY n')/\v<=v'/\(v=v'->bH=eV/\di=kY/\n=n'):=by
 have:=h id;rw[hl] at this;exact this
inductive eo(I:Mem)(L:bA):Value->AV->Prop
 |p (u:Value) (x:PV) (h:VR I u x):eo I L u (.p x)
 |row (u:Value) (id bf v:Nat) (bH:Value) (sz:Nat) (hl:L id=some (.row v bH sz)) (hle:bf<=v) (h:bf=v->u=bH) (h1:u.oneCell'=true):eo I L u (.row id bf)
 |ptr (id b off:Nat) (hl:L id=some (.box b)):eo I L (.pointer (some ⟨b,off,none⟩)) (.ptr id off)
 | jm (u : Value) (id bf v i off : Nat) (bH : Value) (sz : Nat) (hl : L id = some (.row v bH sz)) (hle : bf ≤ v)
   (h:bf=v->∃g o n cap,bH = .slice (some ⟨g,o,none⟩) n cap/\u = .pointer (some ⟨g,o+(i * sz+off),none⟩)) (h1:u.oneCell'=true):eo I L u (.jm id bf i off)
 | agg (us : List Value) (cs : List AV) (hl : us.length = cs.length)
   (hv:∀ (j:Nat) u c,us[j]? = some u->cs[j]? = some c->eo I L u c)
   (hone:∀u∈us,u.oneCell'=true):eo I L (.agg us.toArray) (.agg cs)
 | dQ (us : List Value) (cs : List AV) (hl : us.length = cs.length)
   (hv:∀ (j:Nat) u c,us[j]? = some u->cs[j]? = some c->eo I L u c):eo I L (.tuple us.toArray) (.dQ cs)
 | iw (fn : Fn) (us vs : List Value) (fs cs : List AV) (hl : us.length = fs.length) (hl' : vs.length = cs.length)
   (hv:∀ (j:Nat) u c,us[j]? = some u->fs[j]? = some c->eo I L u c)
   (we:∀ (j:Nat) u c,vs[j]? = some u->cs[j]? = some c->eo I L u c):eo I L (.func fn us.toArray vs.toArray) (.iw fn fs cs)
 |eG (u:Value) (id bf v:Nat) (bH:Value) (sz sz':Nat) (di:Nat->Value) (n:Nat) (hl:L id=some (.deep v bH sz sz' di n)) (hle:bf<=v) (h:bf=v->u=bH) (h1:u.oneCell'=true):eo I L u (.eG id bf)
 | kC (u : Value) (id bf v i off : Nat) (bH : Value) (sz sz' : Nat) (di : Nat → Value) (n : Nat) (hl : L id = some (.deep v bH sz sz' di n)) (hle : bf ≤ v)
   (h:bf=v->∃g o m cap,bH = .slice (some ⟨g,o,none⟩) m cap/\u = .pointer (some ⟨g,o+(i * sz+off),none⟩)) (h1:u.oneCell'=true):eo I L u (.kC id bf i off)
 |kD (u:Value) (id bf v i:Nat) (bH:Value) (sz sz':Nat) (di:Nat->Value) (n:Nat) (hl:L id=some (.deep v bH sz sz' di n)) (hle:bf<=v) (h:bf=v->u=di i) (h1:u.oneCell'=true):eo I L u (.kD id bf i)
 | ng (u : Value) (id bf v i j off : Nat) (bH : Value) (sz sz' : Nat) (di : Nat → Value) (n : Nat) (hl : L id = some (.deep v bH sz sz' di n)) (hle : bf ≤ v)
   (h:bf=v->∃g o m cap,di i = .slice (some ⟨g,o,none⟩) m cap/\u = .pointer (some ⟨g,o+(j * sz'+off),none⟩)) (h1:u.oneCell'=true):eo I L u (.ng id bf i j off)
 |bsl (id b n:Nat) (hl:L id=some (.box b)):eo I L (.slice (some ⟨b,0,none⟩) n n) (.bsl id n)
 | iA (a : Option Addr) (id bf v off n m c : Nat) (bH : Value) (sz : Nat) (hl : L id = some (.row v bH sz)) (hle : bf ≤ v) (hn : n ≤ m) (hm : m ≤ c) (hz : a = none → c = 0)
   (h:bf=v->∃ao k cap,bH = .slice ao k cap/\c=cap-off/\(off<cap\/off=0->a=ao.map (·.add (off * sz)))):eo I L (.slice a n c) (.iA id bf off n m sz)
 |dead (u:Value):eo I L u .dead
theorem eo.mono{I J:Mem}{L L':bA}(hI:I.sub J)(hL:dL L L'){u:Value}{a:AV}(h:eo I L u a):eo J L' u a:=by
 induction h with
 |p u x h=>exact .p u x (h.mono hI)
 |row u id bf v bH sz hl hle h hone =>
  obtain⟨v',eV,h1,h2,h3⟩:=hL.row hl;refine .row u id bf v' eV sz h1 (Nat.le_trans hle h2) (λe=>?_) hone;have:bf=v:=by omega
  have e2:v=v':=by omega
  rw[h this,h3 e2]
 |ptr id b off hl=>exact .ptr id b off (hL.box hl)
 |jm u id bf v i off bH sz hl hle h hone =>
  obtain⟨v',eV,h1,h2,h3⟩:=hL.row hl;refine .jm u id bf v' i off eV sz h1 (Nat.le_trans hle h2) (λe=>?_) hone;have e1:bf=v:=by omega
  have e2:v=v':=by omega
  rw[<-h3 e2];exact h e1
 |agg us cs hl _ hone ih=>exact .agg us cs hl ih hone
 |dQ us cs hl _ ih=>exact .dQ us cs hl ih
 |iw fn us vs fs cs hl hl' _ _ ih ih'=>exact .iw fn us vs fs cs hl hl' ih ih'
 |eG u id bf v bH sz sz' di n hl hle h hone =>
  obtain⟨v',eV,kY,n',h1,h2,h3⟩:=hL.deep hl;refine .eG u id bf v' eV sz sz' kY n' h1 (Nat.le_trans hle h2) (λe=>?_) hone;have e1:bf=v:=by omega
  rw[h e1,(h3 (by omega)).1]
 |kC u id bf v i off bH sz sz' di n hl hle h hone =>
  obtain⟨v',eV,kY,n',h1,h2,h3⟩:=hL.deep hl;refine .kC u id bf v' i off eV sz sz' kY n' h1 (Nat.le_trans hle h2) (λe=>?_) hone;have e1:bf=v:=by omega
  rw[<- (h3 (by omega)).1];exact h e1
 |kD u id bf v i bH sz sz' di n hl hle h hone =>
  obtain⟨v',eV,kY,n',h1,h2,h3⟩:=hL.deep hl;refine .kD u id bf v' i eV sz sz' kY n' h1 (Nat.le_trans hle h2) (λe=>?_) hone;have e1:bf=v:=by omega
  rw[h e1,(h3 (by omega)).2.1]
 |ng u id bf v i j off bH sz sz' di n hl hle h hone =>
  obtain⟨v',eV,kY,n',h1,h2,h3⟩:=hL.deep hl;refine .ng u id bf v' i j off eV sz sz' kY n' h1 (Nat.le_trans hle h2) (λe=>?_) hone;have e1:bf=v:=by omega
  rw[<- (h3 (by omega)).2.1];exact h e1
 |bsl id b n hl=>exact .bsl id b n (hL.box hl)
 |iA a id bf v off n m c bH sz hl hle hn hm hz h =>
  obtain⟨v',eV,h1,h2,h3⟩:=hL.row hl;refine .iA a id bf v' off n m c eV sz h1 (Nat.le_trans hle h2) hn hm hz (λe=>?_);have e1:bf=v:=by omega
  rw[<-h3 (by omega)];exact h e1
 |dead u=>exact .dead u
inductive Chunk where
 |box (cs:List AV)
 |row (bf:Nat) (e:TypeId) (sz:Nat) (es:List (List PV))
 |shut (bf:Nat) (es:List (List PV))
 |tail (bf:Nat) (e:TypeId) (sz:Nat) (es:List (List PV))
 |deep (bf:Nat) (e:TypeId) (sz k:Nat) (e':TypeId) (sz':Nat) (es:List (List PV))
abbrev Env:=Nat->AV
abbrev ay:=Nat->Option Chunk
def cE(env:Env)(d:Nat)(v:AV):Env:=λt=>if t=d then v else env t
def bk(H:ay)(id:Nat)(c:Chunk):ay:=λi=>if i=id then some c else H i
def ck(L:bA)(id:Nat)(l:Loc):bA:=λi=>if i=id then some l else L i
def fT:Env:=λ_=>.dead
def cm:ay:=λ_=>none
theorem aCd(env:Env)(d:Nat)(v:AV)(t:Nat):cE env d v t=if t=d then v else env t:=rfl
theorem azK(H:ay)(d:Nat)(v:Chunk)(t:Nat):bk H d v t=if t=d then some v else H t:=rfl
theorem auX(env:Env){d e:Nat}(v u:AV)(h:d≠e):cE (cE env d v) e u=cE (cE env e u) d v:=by funext t;simp only[cE];by_cases h1:t=d<;>by_cases h2:t=e<;>simp_all
theorem kI(H:ay){d e:Nat}(v u:Chunk)(h:d≠e):bk (bk H d v) e u=bk (bk H e u) d v:=by funext t;simp only[bk];by_cases h1:t=d<;>by_cases h2:t=e<;>simp_all
structure rW(w:World)(B:Nat)(I:Mem)(u:Value)(e:TypeId)(sz:Nat)(es:List (List PV))(us:List Value):Prop where
 own:w.ownsRow B e sz u es.length us
 pos:0<sz
 all:∀x∈es,x.length=sz
 val:∀ (j:Nat) u c,us[j]? = some u->es.flatten[j]? = some c->VR I u c
 one:∀u∈us,u.oneCell'=true
 free:∀b,u.ownBlock=some b->∀o,I b o=none
def fA(k:Nat)(di:Nat->Value):List (List PV)->List (List PV)
 | []=>[]
 |x :: r=>x.set k (.val (di 0)) :: fA k (λi=>di (i+1)) r
def auY(w:World)(B:Nat)(I:Mem)(k:Nat)(e':TypeId)(sz':Nat)(di:Nat->Value)(es:List (List PV)):Prop:=∀i x,es[i]? = some x->∃l us,x[k]? = some (.aV l)/\rW w B I (di i) e' sz' l us/\(di i).oneCell'=true
def aeB(bH:Value)(di:Nat->Value)(n:Nat):Prop:=(∀i b,i<n->(di i).ownBlock=some b->bH.ownBlock≠some b)/\∀i j b,i<n->j<n->(di i).ownBlock=some b->(di j).ownBlock=some b->i=j
theorem ag3(di:Nat->Value):∀n:Nat,(∀i j b,i<n->j<n->(di i).ownBlock=some b->(di j).ownBlock=some b->i=j)->((List.range n).flatMap λi=>(di i).ownBlock.toList).Nodup
 |0,_=>by simp
 |n+1,h=>by
  rw[List.range_succ,List.flatMap_append,List.nodup_append];refine⟨ag3 di n λi j b hi hj=>h i j b (by omega) (by omega),by cases hb:(di n).ownBlock<;>simp[hb],λa ha b hb e=>?_⟩;subst e;obtain⟨i,hi,ha⟩:=List.mem_flatMap.1 ha;have hb':(di n).ownBlock=some a:=by simpa using hb
  have hi':=List.mem_range.1 hi;have:=h i n a (by omega) (by omega) (by simpa using ha) hb';omega
theorem aip{bH:Value}{di:Nat->Value}{n:Nat}(h:aeB bH di n):(yC bH di n).Nodup:=by unfold yC;rw[List.nodup_append];refine⟨by cases bH.ownBlock<;>simp,ag3 di n h.2,λa ha b hb e=>?_⟩;subst e;obtain⟨i,hi,hb⟩:=List.mem_flatMap.1 hb;exact h.1 i a (List.mem_range.1 hi) (by simpa using hb) (by simpa using ha)
def qd(I:Mem)(L:bA)(w:World)(B:Nat)(id:Nat):Chunk->Prop
 | .box cs => ∃ (b : Nat) (arr : Array Value) (e : TypeId), L id = some (.box b) ∧ w.heap[b]? = some (.cells arr e (0, 0)) ∧ arr.size = cs.length ∧
   (∀ (j:Nat) u c,arr[j]? = some u->cs[j]? = some c->eo I L u c)/\(∀ (j:Nat) u,arr[j]? = some u->u.oneCell'=true)/\∀o,I b o=none
 | .row bf e sz es => ∃ (bH : Value) (us : List Value), L id = some (.row bf bH sz) ∧ w.ownsRow B e sz bH es.length us ∧ 0 < sz ∧ (∀ x ∈ es, x.length = sz) ∧
   (∀ (j:Nat) u c,us[j]? = some u->es.flatten[j]? = some c->VR I u c)/\(∀u∈us,u.oneCell'=true)/\∀b,bH.ownBlock=some b->∀o,I b o=none
 | .shut bf es=>∃ (bH:Value) (sz:Nat),L id=some (.row bf bH sz)/\VR I bH (.aV es)/\(∀x∈es,x.length=sz)/\(es≠[]->∃g o n cap,bH = .slice (some ⟨g,o,none⟩) n cap)
 | .tail bf e sz es => ∃ (g o cap : Nat) (arr : Array Value), L id = some (.row bf (.slice (some ⟨g, o, none⟩) es.length cap) sz) ∧ w.heap[g]? = some (.cells arr e (0, 0)) ∧ o + cap * sz ≤ arr.size ∧ es.length ≤ cap ∧ 0 < sz ∧
   (∀x∈es,x.length=sz)/\VR I (.slice (some ⟨g,o,none⟩) es.length cap) (.aV es)/\∀j,o+es.length * sz<=j->j<o+cap * sz->I g j=none
 | .deep bf e sz k e' sz' es => ∃ (bH : Value) (us : List Value) (di : Nat → Value), L id = some (.deep bf bH sz sz' di es.length) ∧ rW w B I bH e sz (fA k di es) us ∧ bH.oneCell' = true ∧ k < sz ∧ (∀ x ∈ es, x.length = sz) ∧
   auY w B I k e' sz' di es/\aeB bH di es.length
structure Ctx where
 w0:World
 I0:Mem
 n:Nat
 B:Nat
 amY:Nat->Prop
 L0:bA
 hB:B<=w0.heap.size
 hL0:∀i l,L0 i=some l->1000000<=i
def Ctx.of(w:World)(I:Mem)(n:Nat):Ctx:=⟨w,I,n,w.heap.size,λ_=>False,λ_=>none,Nat.le_refl _,λ_ _ h=>by cases h⟩
structure gV(C:Ctx)(env:Env)(H:ay)(I:Mem)(L:bA)(tmps:Array Value)(w:World):Prop where
 below:Below C.B C.w0 w
 mem:I.inW w
 kP:C.I0.sub I
 lQ:∀b,b<C.w0.heap.size->¬ C.amY b->∀o,I b o=C.I0 b o
 frame:∀b,b<C.w0.heap.size->¬ C.amY b->w.heap[b]? = C.w0.heap[b]?
 loc:dL C.L0 L
 jB:∀id l b,L id=some l->l.has b->C.w0.heap.size<=b\/C.amY b
 size:tmps.size=C.n
 env:∀t,eo I L (tmps.getD t undef) (env t)
 dom:∀id l,L id=some l->∃ch,H id=some ch
 chunk:∀id ch,H id=some ch->qd I L w C.B id ch
 fK:∀id l b,L id=some l->l.has b->C.B<=b/\b<w.heap.size
 apart:∀i j li lj b,L i=some li->L j=some lj->li.has b->lj.has b->i=j
theorem gV.leB{C:Ctx}{env:Env}{H:ay}{I:Mem}{L:bA}{tmps:Array Value}{w:World}(h:gV C env H I L tmps w):C.B<=w.heap.size:=Nat.le_trans C.hB h.below.size
theorem dL.trans{L L1 L2:bA}(h:dL L L1)(k:dL L1 L2):dL L L2:=λid=>by
 cases hL:L id with
 |none=>trivial
 |some l =>
  cases l with
  |box b=>exact k.box (h.box hL)
  |row v bH sz =>
   obtain⟨v1,jJ,k1,k2,k3⟩:=h.row hL;obtain⟨v2,auZ,m1,m2,m3⟩:=k.row k1;exact⟨v2,auZ,m1,Nat.le_trans k2 m2,λe=>by
    have e1:v=v1:=by omega
    have e2:v1=v2:=by omega
    rw[k3 e1,m3 e2]⟩
  |deep v bH sz sz' di n =>
   obtain⟨v1,jJ,qK,n1,k1,k2,k3⟩:=h.deep hL;obtain⟨v2,auZ,aGE,n2,m1,m2,m3⟩:=k.deep k1;exact⟨v2,auZ,aGE,n2,m1,Nat.le_trans k2 m2,λe=>by
    have e1:v=v1:=by omega
    have e2:v1=v2:=by omega
    obtain⟨a1,a2,a3⟩:=k3 e1;obtain⟨b1,b2,b3⟩:=m3 e2;exact⟨a1.trans b1,a2.trans b2,a3.trans b3⟩⟩
theorem Mem.inW.keep{I:Mem}{w w':World}(h:I.inW w)(hk:∀b,(∃o u,I b o=some u)->w'.heap[b]? = w.heap[b]?):I.inW w':=λb o u hu=>by have:=h b o u hu;rw[World.cell?_of_block (w:=w) (hk b ⟨o,u,hu⟩)];exact this
theorem Mem.inW.lt{I:Mem}{w:World}(h:I.inW w){b o:Nat}{u:Value}(hu:I b o=some u):b<w.heap.size:=World.block_lt_of_cell? w ⟨b,o,none⟩ (h b o u hu)
theorem wg{w w':World}{B:Nat}{e:TypeId}{sz:Nat}{v:Value}{n:Nat}{xs:List Value}(h:w.ownsRow B e sz v n xs)
  (hk:∀b,v.ownBlock=some b->w'.heap[b]? = w.heap[b]?):w'.ownsRow B e sz v n xs:=by
 refine⟨h.1,?_⟩;rcases h.2 with hn|⟨g,cap,cur,rfl,hb,hgg,rest⟩
 ·exact .inl hn
 ·refine .inr ⟨g,cap,cur,rfl,hb,?_,rest⟩;rw[hk g rfl];exact hgg
theorem rW.keep{I I':Mem}{w w':World}{B:Nat}{u:Value}{e:TypeId}{sz:Nat}{es:List (List PV)}{us:List Value}(h:rW w B I u e sz es us)(hI:I.sub I')
  (hk:∀b,u.ownBlock=some b->w'.heap[b]? = w.heap[b]?/\∀o,I' b o=I b o):rW w' B I' u e sz es us :=
 ⟨wg h.own λb hb=>(hk b hb).1,h.pos,h.all,λj u c hu hc=>(h.val j u c hu hc).mono hI,h.one,λb hb o=>by rw[(hk b hb).2];exact h.free b hb o⟩
theorem fH(k:Nat):∀ (di:Nat->Value) (es:List (List PV)),(fA k di es).length=es.length
 |_,[]=>rfl
 |di,x :: r=>by simp[fA,fH k _ r]
theorem tM(k:Nat):∀ (di:Nat->Value) (es:List (List PV)) (i:Nat),(fA k di es)[i]? = es[i]?.map λx=>x.set k (.val (di i))
 |_,[],i=>by simp[fA]
 |di,x :: r,0=>by simp[fA]
 |di,x :: r,i+1=>by simp[fA,tM k _ r i]
theorem qd.keep{I I':Mem}{L L':bA}{w w':World}{B id:Nat}{ch:Chunk}(h:qd I L w B id ch)(hI:I.sub I')(hL:dL L L')
  (hid:L' id=L id) (hk:∀l b,L id=some l->l.has b->w'.heap[b]? = w.heap[b]?/\∀o,I' b o=I b o):qd I' L' w' B id ch:=by
 cases ch with
 |box cs=>obtain⟨b,arr,e,h1,h2,h3,h4,h5,h6⟩:=h;obtain⟨k1,k2⟩:=hk _ b h1 rfl;exact⟨b,arr,e,hid.trans h1,k1.trans h2,h3,λj u c hu hc=>(h4 j u c hu hc).mono hI hL,h5,λo=>by rw[k2];exact h6 o⟩
 |row bf e sz es =>
  obtain⟨bH,us,h1,h2,h3,h4,h5,h6,h7⟩:=h;exact⟨bH,us,hid.trans h1,wg h2 λb hb=>(hk _ b h1 hb).1,h3,h4,λj u c hu hc=>(h5 j u c hu hc).mono hI,h6,
   λb hb o=>by rw[(hk _ b h1 hb).2];exact h7 b hb o⟩
 |shut bf es=>obtain⟨bH,sz,h1,h2,h3⟩:=h;exact⟨bH,sz,hid.trans h1,h2.mono hI,h3⟩
 |tail bf e sz es=>obtain⟨g,o,cap,arr,h1,h2,h3,h4,h5,h6,h7,h8⟩:=h;obtain⟨k1,k2⟩:=hk _ g h1 rfl;exact⟨g,o,cap,arr,hid.trans h1,k1.trans h2,h3,h4,h5,h6,h7.mono hI,λj a b=>by rw[k2];exact h8 j a b⟩
 |deep bf e sz k e' sz' es=>obtain⟨bH,us,di,h1,h2,h3,h4,h5,h6,h7⟩:=h;refine⟨bH,us,di,hid.trans h1,h2.keep hI λb hb=>hk _ b h1 (.inl hb),h3,h4,h5,λi x hx=>?_,h7⟩;obtain⟨l,us',q1,q2,q3⟩:=h6 i x hx;exact⟨l,us',q1,q2.keep hI λb hb=>hk _ b h1 (.inr ⟨i,(List.getElem?_eq_some_iff.1 hx).1,hb⟩),q3⟩
theorem gV.world{C:Ctx}{env:Env}{H:ay}{I:Mem}{L:bA}{tmps:Array Value}{w w':World}(h:gV C env H I L tmps w)
  (hb:Below C.B w w') (hk:∀b,b<w.heap.size->w'.heap[b]? = w.heap[b]?):gV C env H I L tmps w' where
 below:=h.below.trans hb
 mem:=h.mem.keep λb ⟨o,u,hu⟩=>hk b (h.mem.lt hu)
 kP:=h.kP
 lQ:=h.lQ
 frame:=λb hb hl=>(hk b (Nat.lt_of_lt_of_le hb h.below.size)).trans (h.frame b hb hl)
 loc:=h.loc
 jB:=h.jB
 size:=h.size
 env:=h.env
 dom:=h.dom
 chunk:=λid ch hch=>(h.chunk id ch hch).keep (Mem.dV I) (dL.refl L) rfl λl b hl hlb=>⟨hk b (h.fK id l b hl hlb).2,λ_=>rfl⟩
 fK:=λid l b hl hlb=>⟨(h.fK id l b hl hlb).1,Nat.lt_of_lt_of_le (h.fK id l b hl hlb).2 hb.size⟩
 apart:=h.apart
theorem gV.grow{C:Ctx}{env:Env}{H:ay}{I I':Mem}{L:bA}{tmps:Array Value}{w w':World}(h:gV C env H I L tmps w)
  (hb:Below w.heap.size w w') (hI:I.sub I') (hw:I'.inW w') (hn:∀b,b<w.heap.size->∀o,I' b o=I b o):gV C env H I' L tmps w' where
 below:=h.below.trans (hb.mono h.leB)
 mem:=hw
 kP:=Mem.lP h.kP hI
 lQ:=λb hlt hl o=>by rw[hn b (Nat.lt_of_lt_of_le hlt h.below.size)];exact h.lQ b hlt hl o
 frame:=λb hlt hl=>(hb.block b (Nat.lt_of_lt_of_le hlt h.below.size)).trans (h.frame b hlt hl)
 loc:=h.loc
 jB:=h.jB
 size:=h.size
 env:=λt=>(h.env t).mono hI (dL.refl L)
 dom:=h.dom
 chunk:=λid ch hch=>(h.chunk id ch hch).keep hI (dL.refl L) rfl λl b hl hlb=>⟨hb.block b (h.fK id l b hl hlb).2,hn b (h.fK id l b hl hlb).2⟩
 fK:=λid l b hl hlb=>⟨(h.fK id l b hl hlb).1,Nat.lt_of_lt_of_le (h.fK id l b hl hlb).2 hb.size⟩
 apart:=h.apart
theorem au0(tmps:Array Value)(d t:Nat)(v:Value)(hd:d<tmps.size):(tmps.setIfInBounds d v).getD t undef=if t=d then v else tmps.getD t undef:=by
 by_cases h:t=d
 ·subst h;simp[hd]
 ·have h':d≠t:=λe=>h e.symm
  simp[Array.getElem?_setIfInBounds,h,h']
theorem gV.put{C:Ctx}{env:Env}{H:ay}{I:Mem}{L:bA}{tmps:Array Value}{w:World}(h:gV C env H I L tmps w)
  {d:Nat} {v:Value} {a:AV} (hd:d<C.n) (ha:eo I L v a):gV C (cE env d a) H I L (tmps.setIfInBounds d v) w :=
 {h with
  size:=by simpa using h.size
  env:=λt=>by
   rw[au0 _ _ _ _ (by rw[h.size];exact hd)];unfold cE;split
   ·exact ha
   ·exact h.env t }
theorem dL.tY{L:bA}{id:Nat}(h:L id=none)(l:Loc):dL L (ck L id l):=λi=>by
 by_cases hi:i=id
 ·subst hi;rw[h];trivial
 ·have:ck L id l i=L i:=by simp[ck,hi]
  rw[this];exact dL.refl L i
theorem gV.rX{C:Ctx}{env:Env}{H:ay}{I:Mem}{L:bA}{tmps:Array Value}{w:World}(h:gV C env H I L tmps w){id:Nat}(hid:H id=none):L id=none:=by
 cases hL:L id with
 |none=>rfl
 |some l=>obtain⟨ch,hch⟩:=h.dom id l hL;rw[hid] at hch;cases hch
theorem aer{I:Mem}{w:World}(h:I.inW w)(o:Nat):I w.heap.size o=none:=by
 cases hI:I w.heap.size o with
 |none=>rfl
 |some u=>exact absurd (h.lt hI) (Nat.lt_irrefl _)
theorem gV.new{C:Ctx}{env:Env}{H:ay}{I:Mem}{L:bA}{tmps:Array Value}{w w':World}(h:gV C env H I L tmps w)
  (hb:Below C.B w w') (hk:∀b,b<w.heap.size->w'.heap[b]? = w.heap[b]?) {id:Nat} (hid:H id=none) (l:Loc) (ch:Chunk)
  (hch:qd I (ck L id l) w' C.B id ch) (hl:∀b,l.has b->w.heap.size<=b/\b<w'.heap.size):gV C env (bk H id ch) I (ck L id l) tmps w':=by
 have hL:=h.rX hid;have hle:=dL.tY hL l;have hw:=h.world hb hk;exact
 {hw with
  env:=λt=>(h.env t).mono (Mem.dV I) hle
  dom:=λi li hi=>by
   by_cases e:i=id
   ·exact⟨ch,by simp[bk,e]⟩
   ·obtain⟨c,hc⟩:=h.dom i li (by simpa[ck,e] using hi);exact⟨c,by simpa[bk,e] using hc⟩
  chunk:=λi c hc=>by
   by_cases e:i=id
   ·subst e;have:ch=c:=by simpa[bk] using hc
    subst this;exact hch
   ·exact (hw.chunk i c (by simpa[bk,e] using hc)).keep (Mem.dV I) hle (by simp[ck,e]) λ_ _ _ _=>⟨rfl,λ_=>rfl⟩
  loc:=hw.loc.trans hle
  jB:=λi li b hi hlb=>by
   by_cases e:i=id
   ·subst e;have:l=li:=by simpa[ck] using hi
    subst this;exact .inl (Nat.le_trans h.below.size (hl b hlb).1)
   ·exact hw.jB i li b (by simpa[ck,e] using hi) hlb
  fK:=λi li b hi hlb=>by
   by_cases e:i=id
   ·subst e;have:l=li:=by simpa[ck] using hi
    subst this;exact⟨Nat.le_trans h.leB (hl b hlb).1,(hl b hlb).2⟩
   ·exact hw.fK i li b (by simpa[ck,e] using hi) hlb
  apart:=λi j li lj b hi hj qX uR=>by
   by_cases ei:i=id<;>by_cases ej:j=id
   ·rw[ei,ej]
   ·subst ei;have:l=li:=by simpa[ck] using hi
    subst this;have h1:=hl b qX;have h2:=h.fK j lj b (by simpa[ck,ej] using hj) uR;omega
   ·subst ej;have:l=lj:=by simpa[ck] using hj
    subst this;have h1:=hl b uR;have h2:=h.fK i li b (by simpa[ck,ei] using hi) qX;omega
   ·exact h.apart i j li lj b (by simpa[ck,ei] using hi) (by simpa[ck,ej] using hj) qX uR }
theorem gV.turn{C:Ctx}{env:Env}{H:ay}{I:Mem}{L:bA}{tmps:Array Value}{w w':World}(h:gV C env H I L tmps w)
  (hb:Below C.B w w') {id:Nat} {l l':Loc} (hl:L id=some l) (hk:∀b,b<w.heap.size->¬ l.has b->w'.heap[b]? = w.heap[b]?)
  (hle:dL L (ck L id l')) (hfree:∀b,l.has b->∀o,I b o=none) (ch:Chunk)
  (hch:qd I (ck L id l') w' C.B id ch) (hl':∀b,l'.has b->l.has b\/(w.heap.size<=b/\b<w'.heap.size)):gV C env (bk H id ch) I (ck L id l') tmps w' where
 below:=h.below.trans hb
 mem:=h.mem.keep λb ⟨o,u,hu⟩=>hk b (h.mem.lt hu) λe=>by rw[hfree b e o] at hu;cases hu
 kP:=h.kP
 lQ:=h.lQ
 frame:=λb hlt hf=>by
  have hlt':=Nat.lt_of_lt_of_le hlt h.below.size;refine (hk b hlt' λe=>?_).trans (h.frame b hlt hf);rcases h.jB id l b hl e with h1|h1
  ·omega
  ·exact hf h1
 loc:=h.loc.trans hle
 jB:=λi li b hi hlb=>by
  by_cases e:i=id
  ·subst e;have:l'=li:=by simpa[ck] using hi
   subst this;rcases hl' b hlb with k|k
   ·exact h.jB i l b hl k
   ·exact .inl (Nat.le_trans h.below.size k.1)
  ·exact h.jB i li b (by simpa[ck,e] using hi) hlb
 size:=h.size
 env:=λt=>(h.env t).mono (Mem.dV I) hle
 dom:=λi li hi=>by
  by_cases e:i=id
  ·exact⟨ch,by simp[bk,e]⟩
  ·obtain⟨c,hc⟩:=h.dom i li (by simpa[ck,e] using hi);exact⟨c,by simpa[bk,e] using hc⟩
 chunk:=λi c hc=>by
  by_cases e:i=id
  ·subst e;have:ch=c:=by simpa[bk] using hc
   subst this;exact hch
  ·refine (h.chunk i c (by simpa[bk,e] using hc)).keep (Mem.dV I) hle (by simp[ck,e]) λli b hi qX=>⟨hk b (h.fK i li b hi qX).2 λeb=>e (h.apart i id li l b hi hl qX eb),λ_=>rfl⟩
 fK:=λi li b hi hlb=>by
  by_cases e:i=id
  ·subst e;have:l'=li:=by simpa[ck] using hi
   subst this;rcases hl' b hlb with k|k
   ·exact⟨(h.fK i l b hl k).1,Nat.lt_of_lt_of_le (h.fK i l b hl k).2 hb.size⟩
   ·exact⟨Nat.le_trans h.leB k.1,k.2⟩
  ·have:=h.fK i li b (by simpa[ck,e] using hi) hlb;exact⟨this.1,Nat.lt_of_lt_of_le this.2 hb.size⟩
 apart:=λi j li lj b hi hj qX uR=>by
  by_cases ei:i=id<;>by_cases ej:j=id
  ·rw[ei,ej]
  ·subst ei;have:l'=li:=by simpa[ck] using hi
   subst this;have h2:=h.fK j lj b (by simpa[ck,ej] using hj) uR;rcases hl' b qX with k|k
   ·exact h.apart i j l lj b hl (by simpa[ck,ej] using hj) k uR
   ·omega
  ·subst ej;have:l'=lj:=by simpa[ck] using hj
   subst this;have h2:=h.fK i li b (by simpa[ck,ei] using hi) qX;rcases hl' b uR with k|k
   ·exact h.apart i j li l b (by simpa[ck,ei] using hi) hl qX k
   ·omega
  ·exact h.apart i j li lj b (by simpa[ck,ei] using hi) (by simpa[ck,ej] using hj) qX uR
def cM(P:Program)(t:TypeId):Option TypeId:=match P.underlying t with|some (.slice e)=>some e|_=>none
def bu(P:Program)(t:TypeId):Option Nat:=(P.info? t).map (·.size)
def abG(P:Program)(t:TypeId):Option Nat:=(P.info? t).map (·.bytes)
def cN(P:Program)(t:TypeId):Option (List Value):=(P.info? t).bind λi=>i.zero.map λz=>z.cells.toList
def fL(P:Program)(t:TypeId):Option Bool:=(P.underlying t).map (·.isRow)
def bS(P:Program)(s:TypeId)(k:Nat):Option (Nat×Nat):=match P.underlying s with
 |some (.struct fs)=>(fs[k]?).bind λf=>(bu P f.type).map λn=>(f.offset,n)
 |_=>none
def wh(P:Program)(t:TypeId):Option (Nat×TypeId):=match P.underlying t with|some (.array n e)=>some (n,e)|_=>none
def ajT(P:Program)(t:TypeId):Option IntKind:=match P.underlying t with|some (.int k)=>some k|_=>none
def yD(P:Program)(t:TypeId):Bool:=match P.underlying t with|some .string=>true|_=>false
def yE(v:Value):AV:=match v with
 | .agg cs=>if cs.toList.all (·.oneCell') then .p (.agg (cs.toList.map PV.val)) else .dead
 | .tuple _=>.dead
 |v=>.p (.val v)
def ev(env:Env):Operand->AV
 | .tmp t=>env t
 | .const v=>yE v
 | .global _=>.dead
 | .func f=>.p (.iw (.func f) [] [])
theorem aiq(I:Mem)(L:bA)(v:Value):eo I L v (yE v):=by
 unfold yE;split
 ·rename_i cs;split
  ·rename_i h;rw[List.all_eq_true] at h;have:=VR.agg (I:=I) cs.toList (cs.toList.map PV.val) (by simp) (λj u c hu hc=>by
    rw[List.getElem?_map,hu] at hc;simp at hc;subst hc;exact .val u (h u (List.mem_of_getElem? hu))) h
   exact .p _ _ (by simpa using this)
  ·exact .dead _
 ·exact .dead _
 ·rename_i h1 h2;refine .p _ _ (.val _ ?_);cases v with
  |agg cs=>exact (h1 _ rfl).elim
  |tuple cs=>exact (h2 _ rfl).elim
  |_=>rfl
theorem tZ{C:Ctx}{env:Env}{H:ay}{I:Mem}{L:bA}{tmps:Array Value}{w:World}(h:gV C env H I L tmps w)(ds:List Deferred)(x:Operand) :
  eo I L ((⟨tmps,ds⟩:Act).eval x) (ev env x):=by
 cases x with
 |tmp t=>exact h.env t
 |const v=>exact aiq I L v
 |global g=>exact .dead _
 |func f=>exact .p _ _ (.iw (.func f) [] [] [] [] rfl rfl (by simp) (by simp))
def tq:List AV->Option (List PV)
 | []=>some []
 | .p x :: r=>match tq r with|some ps=>some (x :: ps)|none=>none
 |_ :: _=>none
theorem tN:∀ {cs:List AV} {ps:List PV},tq cs=some ps->cs=ps.map AV.p
 | [],ps,h=>by simp[tq] at h;subst h;rfl
 |a :: r,ps,h=>by
  cases a<;>simp[tq] at h
  rename_i x;split at h
  ·rename_i qs hq;simp at h;subst h;simp[tN hq]
  ·simp at h
def xS(cs:List AV):AV:=match tq cs with|some ps=>.p (.agg ps)|none=>.agg cs
def n9:AV->Bool
 | .p x=>x.one
 | .row _ _ | .ptr _ _ | .jm _ _ _ _ | .iw _ _ _ | .eG _ _ | .kC _ _ _ _ | .kD _ _ _ | .ng _ _ _ _ _ | .bsl _ _ | .iA _ _ _ _ _ _=>true
 |_=>false
theorem eo.one{I:Mem}{L:bA}{u:Value}{a:AV}(h:eo I L u a)(ha:n9 a=true):u.oneCell'=true:=by cases h<;>first|assumption|rfl|(cases ha;done)|exact VR.one (by assumption) ha
theorem eo.nJ{I:Mem}{L:bA}{u:Value}{x:PV}(h:eo I L u (.p x)):VR I u x:=by cases h;assumption
theorem vc{I:Mem}{L:bA}{us:List Value}{cs:List AV}(hl:us.length=cs.length)
  (hv:∀ (j:Nat) u c,us[j]? = some u->cs[j]? = some c->eo I L u c) (hone:∀u∈us,u.oneCell'=true):eo I L (.agg us.toArray) (xS cs):=by
 unfold xS;split
 ·rename_i ps h;have e:=tN h;subst e;refine .p _ _ (.agg us ps (by simpa using hl) (λj u c hu hc=>?_) hone);exact (hv j u (.p c) hu (by rw[List.getElem?_map,hc];rfl)).nJ
 ·exact .agg us cs hl hv hone
def b5:AV->List AV
 | .agg cs=>cs
 | .p (.agg cs)=>cs.map AV.p
 |x=>[x]
def splice{α:Type}(cs:List α)(off:Nat)(new:List α):List α:=cs.take off++new++cs.drop (off+new.length)
theorem ef{α:Type}{cs:List α}{off:Nat}{new:List α}(h:off+new.length<=cs.length):(splice cs off new).length=cs.length:=by simp[splice];omega
theorem aaZ{α β:Type}{R:α->β->Prop}{us:List α}{cs:List β}{off:Nat}{un:List α}{cn:List β}(hl:us.length=cs.length)(hn:un.length=cn.length)
  (hv:∀ (j:Nat) u c,us[j]? = some u->cs[j]? = some c->R u c) (hw:∀ (j:Nat) u c,un[j]? = some u->cn[j]? = some c->R u c) :
  ∀ (j:Nat) u c,(splice us off un)[j]? = some u->(splice cs off cn)[j]? = some c->R u c:=by
 intro j u c hu hc;unfold splice at hu hc;simp only[List.append_assoc,List.getElem?_append,List.length_take,hl,List.getElem?_take,List.getElem?_drop,hn] at hu hc;split at hu
 ·rename_i h1;rw[if_pos h1] at hc;split at hu
  ·rename_i h2;rw[if_pos h2] at hc;exact hv _ _ _ hu hc
  ·cases hu
 ·rename_i h1;rw[if_neg h1] at hc;split at hu
  ·rename_i h2;rw[if_pos h2] at hc;exact hw _ _ _ hu hc
  ·rename_i h2;rw[if_neg h2] at hc;exact hv _ _ _ hu hc
theorem eo.cells{I:Mem}{L:bA}{u:Value}{a:AV}(h:eo I L u a)(hd:∀c∈b5 a,n9 c=true) :
  ∃us:List Value,u.cells=us.toArray/\us.length=(b5 a).length/\(∀ (j:Nat) u c,us[j]? = some u->(b5 a)[j]? = some c->eo I L u c):=by
 have single:(b5 a=[a])->u.cells = #[u]->∃us:List Value,u.cells=us.toArray/\us.length=(b5 a).length/\(∀ (j:Nat) u c,us[j]? = some u->(b5 a)[j]? = some c->eo I L u c):=by
  intro h1 h2;refine⟨[u],h2,by simp[h1],λj v c hv hc=>?_⟩;rw[h1] at hc;cases j with
  |zero=>simp at hv hc;subst hv;subst hc;exact h
  |succ j=>simp at hv
 cases h with
 |p _ x hx =>
  cases hx with
  |val v h1=>exact single rfl (by cases u<;>first|rfl|cases h1)
  |emp=>exact single rfl rfl
  |aV=>exact single rfl rfl
  |dU=>exact single rfl rfl
  |agg us cs hl hv hone =>
   exact⟨us,rfl,by simp[b5,hl],λj u c hu hc=>by
    simp only[b5,List.getElem?_map] at hc;cases hcj:cs[j]? with
    |none=>simp[hcj] at hc
    |some c'=>simp[hcj] at hc;subst hc;exact .p _ _ (hv j u c' hu hcj)⟩
  |dQ us cs hl hv=>simp[b5,n9,PV.one] at hd
  |iw=>exact single rfl rfl
 |row _ id bf v bH sz hl hle hh h1=>exact single rfl (by cases u<;>first|rfl|cases h1)
 |ptr=>exact single rfl rfl
 |jm _ id bf v i off bH sz hl hle hh h1=>exact single rfl (by cases u<;>first|rfl|cases h1)
 |bsl=>exact single rfl rfl
 |iA=>exact single rfl rfl
 |eG _ _ _ _ _ _ _ _ _ _ _ _ h1=>exact single rfl (by cases u<;>first|rfl|cases h1)
 |kC _ _ _ _ _ _ _ _ _ _ _ _ _ _ h1=>exact single rfl (by cases u<;>first|rfl|cases h1)
 |kD _ _ _ _ _ _ _ _ _ _ _ _ _ h1=>exact single rfl (by cases u<;>first|rfl|cases h1)
 |ng _ _ _ _ _ _ _ _ _ _ _ _ _ _ _ h1=>exact single rfl (by cases u<;>first|rfl|cases h1)
 |agg us cs hl hv hone=>exact⟨us,rfl,hl,hv⟩
 |dQ us cs hl hv=>simp[b5,n9] at hd
 |iw=>exact single rfl rfl
 |dead=>simp[b5,n9] at hd
variable{P:Program}
theorem fV{w:World}{b:Nat}{arr:Array Value}{e:TypeId}{f:Nat×Nat}(h:w.heap[b]? = some (.cells arr e f))(j:Nat):w.cell? ⟨b,j,none⟩=arr[j]?:=by simp[World.cell?,h]
def rY(P:Program)(t:TypeId)(cs:List AV)(off:Nat):Option AV:=match fL P t with
 |some true=>match bu P t with
  |some n=>if off+n<=cs.length then some (xS ((cs.drop off).take n)) else none
  |none=>none
 |some false=>cs[off]?
 |none=>none
def rZ(P:Program)(t:TypeId)(cs:List PV)(off:Nat):Option PV:=match fL P t with
 |some true=>match bu P t with
  |some n=>if off+n<=cs.length then some (.agg ((cs.drop off).take n)) else none
  |none=>none
 |some false=>cs[off]?
 |none=>none
theorem aa0{t:TypeId}{g:Bool}(h:fL P t=some g):∃d,P.underlying t=some d/\d.isRow=g:=by
 unfold fL at h;cases hu:P.underlying t with
 |none=>simp[hu] at h
 |some d=>exact⟨d,rfl,by simpa[hu] using h⟩
theorem ad5{t:TypeId}{d:TypeDesc}(hu:P.underlying t=some d)(hd:d.isRow=false)(w:World)(a:Addr){u:Value}(hc:w.cell? a=some u) :
  (loadVar t a).run P w = .ok u w:=by
 have hagg:(isAgg t).run P w = .ok false w:=by unfold isAgg;rw[Sem.run_bind,run_underlying hu w];cases d<;>simp_all
 simp[loadVar,Sem.run_bind,hagg,load,Sem.run,hc]
theorem aad{I:Mem}{L:bA}{w:World}{t:TypeId}{b base off:Nat}{us:List Value}{cs:List AV}{v:AV}(h:rY P t cs off=some v)
  (hl:us.length=cs.length) (hv:∀ (j:Nat) u c,us[j]? = some u->cs[j]? = some c->eo I L u c) (h1:∀u∈us,u.oneCell'=true)
  (hm:∀ (j:Nat) u,us[j]? = some u->w.cell? ⟨b,base+j,none⟩=some u) :
  ∃u,(loadVar t ⟨b,base+off,none⟩).run P w = .ok u w/\eo I L u v:=by
 unfold rY at h;split at h
 ·rename_i hg;obtain⟨d,hu,hd⟩:=aa0 hg;split at h
  ·rename_i n hn;split at h
   ·rename_i hle;simp at h;subst h;have hlen:((us.drop off).take n).length=n:=by simp;omega
    refine⟨_,run_loadVar_mid w b (base+off) t ((us.drop off).take n) d (λj u hu=>?_) hu hd ?_,vc ?_ ?_ ?_⟩
    ·rw[List.getElem?_take] at hu;split at hu
     ·rw[List.getElem?_drop] at hu;rw[Nat.add_assoc];exact hm _ u hu
     ·cases hu
    ·rw[hlen];exact hn
    ·simp[hl]
    ·intro j u c hu hc;rw[List.getElem?_take] at hu hc;split at hu
     ·rename_i hj;rw[if_pos hj] at hc;rw[List.getElem?_drop] at hu hc;exact hv _ u c hu hc
     ·cases hu
    ·intro u hu;exact h1 u (List.mem_of_mem_drop (List.mem_of_mem_take hu))
   ·simp at h
  ·simp at h
 ·rename_i hg;obtain⟨d,hu,hd⟩:=aa0 hg;have hlt:off<cs.length:=(List.getElem?_eq_some_iff.1 h).1;have hs:us[off]? = some (us[off]'(by omega)):=by simp
  exact⟨_,ad5 hu hd w _ (hm off _ hs),hv off _ _ hs h⟩
 ·simp at h
theorem azL{t:TypeId}{cs:List PV}{off:Nat}{x:PV}(h:rZ P t cs off=some x):rY P t (cs.map AV.p) off=some (.p x):=by
 have hp:∀l:List PV,tq (l.map AV.p)=some l:=λl=>by induction l with|nil=>rfl|cons a r ih=>simp[tq,ih]
 unfold rZ at h;unfold rY;split at h
 ·split at h
  ·split at h
   ·rename_i hle;simp at h;subst h;rw[if_pos (by simpa using hle),<-List.map_drop,<-List.map_take];simp only[xS,hp]
   ·simp at h
  ·simp at h
 ·rw[List.getElem?_map,h];rfl
 ·simp at h
theorem ag4{I:Mem}{w:World}{t:TypeId}{b base off:Nat}{us:List Value}{cs:List PV}{x:PV}(h:rZ P t cs off=some x)
  (hl:us.length=cs.length) (hv:∀ (j:Nat) u c,us[j]? = some u->cs[j]? = some c->VR I u c) (h1:∀u∈us,u.oneCell'=true)
  (hm:∀ (j:Nat) u,us[j]? = some u->w.cell? ⟨b,base+j,none⟩=some u) :
  ∃u,(loadVar t ⟨b,base+off,none⟩).run P w = .ok u w/\VR I u x:=by
 obtain⟨u,hr,ha⟩:=aad (I:=I) (L:=λ_=>none) (azL h) (by simpa using hl) (λj u c hu hc=>by
  rw[List.getElem?_map] at hc;cases hcj:cs[j]? with
  |none=>simp[hcj] at hc
  |some c'=>simp[hcj] at hc;subst hc;exact .p _ _ (hv j u c' hu hcj)) h1 hm
 exact⟨u,hr,ha.nJ⟩
def Fr(C:Ctx)(I:Mem)(L:bA)(H:ay)(w:World)(I':Mem)(L':bA)(H':ay)(w':World):Prop:=∀env tm,gV C env H I L tm w->gV C env H' I' L' tm w'
theorem Fr.refl(C:Ctx)(I:Mem)(L:bA)(H:ay)(w:World):Fr C I L H w I L H w:=λ_ _ h=>h
theorem Fr.trans{C:Ctx}{I I1 I2:Mem}{L L1 L2:bA}{H H1 H2:ay}{w w1 w2:World}(h:Fr C I L H w I1 L1 H1 w1)(k:Fr C I1 L1 H1 w1 I2 L2 H2 w2) :
  Fr C I L H w I2 L2 H2 w2:=λenv tm s=>k env tm (h env tm s)
theorem Fr.drew(C:Ctx)(I:Mem)(L:bA)(H:ay)(w:World):Fr C I L H w I L H w.drew:=λ_ _ h=>h.world (Below.refl _ _).drew λ_ _=>rfl
def Mem.with(I:Mem)(b:Nat)(arr:Array Value):Mem:=λc o=>if c=b then arr[o]? else I c o
theorem Fr.imm(C:Ctx)(I:Mem)(L:bA)(H:ay)(w:World)(arr:Array Value)(e:TypeId) :
  Fr C I L H w (I.with w.heap.size arr) L H (w.alloc (.cells arr e)):=λenv tm h =>
 h.grow ((Below.refl _ _).alloc (Nat.le_refl _) _)
  (λb o u hu=>by
   have:b≠w.heap.size:=λe=>by subst e;rw[aer h.mem] at hu;cases hu
   simpa[Mem.with,this] using hu)
  (λb o u hu=>by
   unfold Mem.with at hu
   split at hu
   ·rename_i hb;subst hb;rw[World.cell?_alloc_new];exact hu
   ·exact (World.cell?_alloc_lt _ _ _ (h.mem.lt hu)).trans (h.mem b o u hu))
  (λb hb o=>by unfold Mem.with;rw[if_neg (by omega)])
theorem Mem.au1{I:Mem}{w:World}(h:I.inW w)(arr:Array Value):I.sub (I.with w.heap.size arr):=λb o u hu=>by
 have:b≠w.heap.size:=λe=>by subst e;rw[aer h] at hu;cases hu
 simpa[Mem.with,this] using hu
theorem VR.air{I:Mem}{w:World}(hI:I.inW w){us rest:List Value}{es:List (List PV)}{sz cap:Nat}(hsz:∀e∈es,e.length=sz)(hl:us.length=es.flatten.length)
  (hv:∀ (j:Nat) u c,us[j]? = some u->es.flatten[j]? = some c->VR I u c) (h1:∀u∈us,u.oneCell'=true) (hcap:es.length<=cap) :
  VR (I.with w.heap.size (us++rest).toArray) (.slice (some ⟨w.heap.size,0,none⟩) es.length cap) (.aV es):=by
 refine .aV _ _ _ es us sz rfl hsz hl (λj u c hu hc=>(hv j u c hu hc).mono (Mem.au1 hI _)) h1 (.inr ⟨_,_,rfl,λj u hu=>?_⟩) (by simp) hcap;have hj:j<us.length:=(List.getElem?_eq_some_iff.1 hu).1;simp only[Mem.with,if_true,Nat.zero_add,List.getElem?_toArray];rw[List.getElem?_append_left hj];exact hu
def oQ(I:Mem)(L:bA)(us:List Value)(eL:List AV):Prop:=us.length=eL.length/\∀ (j:Nat) u a,us[j]? = some u->eL[j]? = some a->eo I L u a
def VRs(I:Mem)(us:List Value)(eL:List PV):Prop:=us.length=eL.length/\∀ (j:Nat) u a,us[j]? = some u->eL[j]? = some a->VR I u a
theorem VRs.mono{I J:Mem}(h:I.sub J){us:List Value}{eL:List PV}(k:VRs I us eL):VRs J us eL:=⟨k.1,λj u a hu ha=>(k.2 j u a hu ha).mono h⟩
theorem VRs.nJ{I:Mem}{L:bA}{us:List Value}{ps:List PV}(h:oQ I L us (ps.map AV.p)):VRs I us ps:=⟨by simpa using h.1,λj u a hu ha=>(h.2 j u (.p a) hu (by rw[List.getElem?_map,ha];rfl)).nJ⟩
end Go.cr
namespace Go.cr
open Go.RowKit
variable{P:Program}
def aax(P:Program)(op:BinOp)(t:TypeId)(x y:Value):Option (Prop×Value):=match op,x,y with
 | .add,.int k a,.int k' b=>if k=k' then some (True,.int k (k.wrap (a+b))) else none
 | .sub,.int k a,.int k' b=>if k=k' then some (True,.int k (k.wrap (a-b))) else none
 | .mul,.int k a,.int k' b=>if k=k' then some (True,.int k (k.wrap (a * b))) else none
 | .quo,.int k a,.int k' b=>if k=k' then some (b≠0,.int k (k.wrap (a.tdiv b))) else none
 | .rem,.int k a,.int k' b=>if k=k' then some (b≠0,.int k (a.tmod b)) else none
 | .shl,.int k a,.int _ b=>some (0<=b,.int k (k.wrap (a * 2 ^ (min b.toNat k.bits))))
 | .shr,.int k a,.int _ b=>some (0<=b,.int k (a.fdiv (2 ^ (min b.toNat k.bits))))
 | .and,.int k a,.int k' b=>if k=k' then some (True,.int k (k.wrap (BitVec.ofInt k.bits a &&& BitVec.ofInt k.bits b).toNat)) else none
 | .or,.int k a,.int k' b=>if k=k' then some (True,.int k (k.wrap (BitVec.ofInt k.bits a ||| BitVec.ofInt k.bits b).toNat)) else none
 | .xor,.int k a,.int k' b=>if k=k' then some (True,.int k (k.wrap (BitVec.ofInt k.bits a ^^^ BitVec.ofInt k.bits b).toNat)) else none
 | .eql,.int k a,.int k' b=>if k=k' then some (True,.bool (decide (a=b))) else none
 | .neq,.int k a,.int k' b=>if k=k' then some (True,.bool (!decide (a=b))) else none
 | .lss,.int k a,.int k' b=>if k=k' then some (True,.bool (decide (a<b))) else none
 | .leq,.int k a,.int k' b=>if k=k' then some (True,.bool (decide (a<=b))) else none
 | .gtr,.int k a,.int k' b=>if k=k' then some (True,.bool (decide (b<a))) else none
 | .geq,.int k a,.int k' b=>if k=k' then some (True,.bool (decide (b<=a))) else none
 | .add,.string a,.string b=>some (a.size+b.size<=9223372036854775807,.string (a++b))
 | .eql,.string a,.string b=>some (True,.bool (decide (a=b)))
 | .neq,.string a,.string b=>some (True,.bool (!decide (a=b)))
 | .eql,.bool a,.bool b=>match P.underlying t with|some .bool=>some (True,.bool (a == b))|_=>none
 | .neq,.bool a,.bool b=>match P.underlying t with|some .bool=>some (True,.bool (!(a == b)))|_=>none
 | .eql,.slice ao _ _,.slice none 0 0=>match P.underlying t with|some (.slice _)=>some (True,.bool ao.isNone)|_=>none
 | .neq,.slice ao _ _,.slice none 0 0=>match P.underlying t with|some (.slice _)=>some (True,.bool (!ao.isNone))|_=>none
 |_,_,_=>none
theorem aaB(a b:ByteArray):(a.toList == b.toList)=decide (a=b):=by
 rw[ByteArray.toList_eq,ByteArray.toList_eq,Bool.eq_iff_iff];simp only[beq_iff_eq,decide_eq_true_eq];constructor
 ·intro h;cases a;cases b;simp only at h;exact congrArg _ (Array.toList_inj.1 h)
 ·rintro rfl;rfl
theorem run_equal_bool{t:TypeId}(hu:P.underlying t=some .bool)(a b:Bool)(w:World):(Op.equal t (.bool a) (.bool b)).run P w = .ok (a == b) w:=by have h:Op.equal t (.bool a) (.bool b)=Op.equalIn (9999+1) t (.bool a) (.bool b):=rfl;rw[h,Op.equalIn,Sem.run_bind,run_underlying hu w];rfl
theorem vF{t e:TypeId}(hu:P.underlying t=some (.slice e))(ao bo:Option Addr)(n c m d:Nat)(h:ao=none\/bo=none)(w:World) :
  (Op.equal t (.slice ao n c) (.slice bo m d)).run P w = .ok (ao.isNone&&bo.isNone) w:=by
 have hh:Op.equal t (.slice ao n c) (.slice bo m d)=Op.equalIn (9999+1) t (.slice ao n c) (.slice bo m d):=rfl;rw[hh,Op.equalIn,Sem.run_bind,run_underlying hu w];cases ao<;>cases bo<;>first|rfl|simp at h
theorem amZ{op:BinOp}{t:TypeId}{x y v:Value}{pre:Prop}(h:aax P op t x y=some (pre,v))(hp:pre)(w:World)(ox oy:Operand) :
  (do eqGuard op t ox oy x y;binOp op t x y:Sem Value).run P w = .ok v w/\v.oneCell'=true:=by
 unfold aax at h;split at h
 case h_24=>cases h
 case h_20|h_21 =>
  split at h
  ·rename_i hk;simp only[cA,iz] at h;obtain⟨h1,h2⟩:=h;subst h1 h2;simp[eqGuard,binOp,run_equal_bool hk,Value.oneCell']
  ·cases h
 case h_22|h_23 =>
  split at h
  ·rename_i hk;simp only[cA,iz] at h;obtain⟨h1,h2⟩:=h;subst h1 h2;simp[eqGuard,binOp,vF hk _ _ _ _ _ _ (.inr rfl),Value.oneCell']
  ·cases h
 case h_6|h_7=>simp only[cA,iz] at h;obtain⟨h1,h2⟩:=h;subst h1 h2;simp[eqGuard,binOp,Op.shift,Value.oneCell'];omega
 case h_17=>simp only[cA,iz] at h;obtain⟨h1,h2⟩:=h;subst h1 h2;simp[eqGuard,binOp,Op.stringOp,Value.oneCell',IntKind.max,IntKind.signed,IntKind.bits];omega
 case h_18|h_19=>simp only[cA,iz] at h;obtain⟨h1,h2⟩:=h;subst h1 h2;simp[eqGuard,binOp,Op.stringOp,aaB,Value.oneCell']
 all_goals
  split at h
  ·rename_i hk;simp only[cA,iz] at h;obtain⟨h1,h2⟩:=h;subst h1 h2 hk
   first
    |(simp[eqGuard,binOp,Op.intArith,Op.intBits,Op.intCmp,Value.oneCell'];done)
    |(simp[eqGuard,binOp,Op.intArith,Op.intDiv,hp,Value.oneCell'];done)
    |(simp[eqGuard,binOp,Op.intCmp,Value.oneCell'];rfl)
  ·cases h
end Go.cr
namespace Go.cr
open Go.RowKit
variable{P:Program}{I:Mem}
inductive BK where
 |i|s|b
def au2(P:Program)(t:TypeId):Option BK:=match P.underlying t with
 |some (.int _)=>some .i
 |some .string=>some .s
 |some .bool=>some .b
 |_=>none
def flatK(P:Program):List Field->Nat->Option (List BK)
 | [],_=>some []
 |f :: fs,k=>if f.offset=k/\f.name ≠ "_" then (match au2 P f.type,flatK P fs (k+1) with
  |some x,some xs=>some (x :: xs)
  |_,_=>none) else none
def qf(P:Program)(t:TypeId):Option (List BK):=match P.underlying t with
 |some (.struct fs)=>if P.stoodInHeld t=false/\P.eqGuardType P.depth t=false then flatK P fs.toList 0 else none
 |_=>none
def eqK:List BK->List PV->List PV->Option Bool
 | [],[],[]=>some true
 | .i :: ks,.val (.int k a) :: cs,.val (.int k' b) :: ds=>if k=k' then (match eqK ks cs ds with
  |some r=>some (decide (a=b)&&r)
  |none=>none) else none
 | .s :: ks,.val (.string a) :: cs,.val (.string b) :: ds=>(match eqK ks cs ds with
  |some r=>some (decide (a=b)&&r)
  |none=>none)
 | .b :: ks,.val (.bool a) :: cs,.val (.bool b) :: ds=>(match eqK ks cs ds with
  |some r=>some ((a == b)&&r)
  |none=>none)
 |_,_,_=>none
theorem ais{t:TypeId}{x:BK}(h:au2 P t=some x)(w:World):(isAgg t).run P w = .ok false w:=by
 unfold au2 at h;unfold isAgg;split at h
 ·rename_i hu;rw[Sem.run_bind,run_underlying hu w];rfl
 ·rename_i hu;rw[Sem.run_bind,run_underlying hu w];rfl
 ·rename_i hu;rw[Sem.run_bind,run_underlying hu w];rfl
 ·cases h
theorem adD{t:TypeId}{x:BK}(h:au2 P t=some x){xs:Array Value}{k:Nat}{u:Value}(hu:xs[k]? = some u)(w:World):(part t xs k).run P w = .ok u w:=by simp[part,ais h,hu]
theorem abH:∀ (fs:List Field) (k:Nat) (ks:List BK) (cs ds:List PV) (b:Bool) (us vs:List Value) (d:Nat) (w:World),flatK P fs k=some ks->eqK ks cs ds=some b ->
  us.length=k+cs.length->vs.length=k+ds.length->(∀ (j:Nat) u c,us[k+j]? = some u->cs[j]? = some c->VR I u c)->(∀ (j:Nat) u c,vs[k+j]? = some u->ds[j]? = some c->VR I u c) ->
  (Op.eqFields (d+1) us.toArray vs.toArray fs).run P w = .ok b w
 | [],k,ks,cs,ds,b,us,vs,d,w,h,he,_,_,_,_=>by
  simp only[flatK,cA] at h;subst h;cases cs with
  |nil =>
   cases ds with
   |nil=>simp only[eqK,cA] at he;subst he;simp[Op.eqFields]
   |cons y ds=>simp[eqK] at he
  |cons c cs=>simp[eqK] at he
 |f :: fs,k,ks,cs,ds,b,us,vs,d,w,h,he,hl,hl',hu,hv=>by
  simp only[flatK] at h;split at h
  ·rename_i hc;obtain⟨ho,hn⟩:=hc;split at h
   ·rename_i x xs hx hxs;simp only[cA] at h;subst h;cases cs with
    |nil=>cases x<;>simp[eqK] at he
    |cons c cs =>
     cases ds with
     |nil=>cases x<;>cases c<;>simp[eqK] at he
     |cons y ds =>
      have hku:k<us.length:=by rw[hl];simp
      have hkv:k<vs.length:=by rw[hl'];simp
      have gu:us.toArray[k]? = some us[k]:=by simp[hku]
      have gv:vs.toArray[k]? = some vs[k]:=by simp[hkv]
      have ru:=hu 0 us[k] c (by simp[hku]) rfl;have rv:=hv 0 vs[k] y (by simp[hkv]) rfl;have ih:∀r,eqK xs cs ds=some r->(Op.eqFields (d+1) us.toArray vs.toArray fs).run P w = .ok r w:=λr hr =>
       abH fs (k+1) xs cs ds r us vs d w hxs hr (by rw[hl];simp;omega) (by rw[hl'];simp;omega)
        (λj u c h1 h2=>hu (j+1) u c (by rw[<-h1];congr 1;omega) (by simpa using h2)) (λj u c h1 h2=>hv (j+1) u c (by rw[<-h1];congr 1;omega) (by simpa using h2))
      have step : ∀ (b1 : Bool) (r : Bool), eqK xs cs ds = some r → (Op.equalIn (d + 1) f.type us[k] vs[k]).run P w = .ok b1 w → b = (b1 && r) →
        (Op.eqFields (d+1) us.toArray vs.toArray (f :: fs)).run P w = .ok b w:=by
       intro b1 r hr h1 hb;simp only[Op.eqFields,if_pos hn,Sem.run_bind,ho,adD hx gu,adD hx gv,Result.andThen_ok,h1];cases b1
       ·simp[hb]
       ·simp only[Bool.not_true,Bool.false_eq_true,if_false];rw[ih r hr,hb];rfl
      generalize us[k]=u at ru step;generalize vs[k]=v at rv step;unfold au2 at hx;cases ru with
      |val _ _ =>
       cases rv with
       |val _ _ =>
        cases x<;>cases u<;>(try simp only[eqK] at he)<;>try (cases he;done)
        case i.int ki a =>
         cases v<;>simp only[eqK] at he<;>try (cases he;done)
         rename_i ki' b0;split at he
         ·rename_i hkk;subst hkk;split at he
          ·rename_i r hr;simp only[cA] at he;split at hx
           ·rename_i kk hut;refine step _ r hr (run_equalIn_int w d f.type _ kk _ _ hut) ?_;rw[<-he];rfl
           ·cases hx
           ·cases hx
           ·cases hx
          ·cases he
         ·cases he
        case s.string a =>
         cases v<;>simp only[eqK] at he<;>try (cases he;done)
         rename_i b0;split at he
         ·rename_i r hr;simp only[cA] at he;split at hx
          ·cases hx
          ·rename_i hut;refine step _ r hr (run_equalIn_string w d f.type _ _ hut) ?_;rw[<-he,aaB]
          ·cases hx
          ·cases hx
         ·cases he
        case b.bool a =>
         cases v<;>simp only[eqK] at he<;>try (cases he;done)
         rename_i b0;split at he
         ·rename_i r hr;simp only[cA] at he;split at hx
          ·cases hx
          ·cases hx
          ·rename_i hut;exact step _ r hr (run_equalIn_bool w d f.type _ _ hut) he.symm
          ·cases hx
         ·cases he
       |_=>cases x<;>cases u<;>simp[eqK] at he
      |_=>cases x<;>simp[eqK] at he
   ·cases h
  ·cases h
theorem yF{t:TypeId}{ks:List BK}{cs ds:List PV}{b:Bool}(h:qf P t=some ks)(he:eqK ks cs ds=some b){us vs:List Value}(hl:us.length=cs.length)(hl':vs.length=ds.length)
  (hu:∀ (j:Nat) u c,us[j]? = some u->cs[j]? = some c->VR I u c) (hv:∀ (j:Nat) u c,vs[j]? = some u->ds[j]? = some c->VR I u c) (w:World) :
  (Op.equalIn 10000 t (.agg us.toArray) (.agg vs.toArray)).run P w = .ok b w/\P.eqGuardType P.depth t=false:=by
 unfold qf at h;split at h
 ·rename_i fs hut;split at h
  ·rename_i hc;have hf:P.fieldsOf t=fs:=by unfold Program.fieldsOf;rw[hut]
   refine⟨?_,hc.2⟩;rw[show (10000:Nat)=9999+1 from rfl,run_equalIn_struct w 9999 t us.toArray vs.toArray (by rw[hf];exact hut) hc.1,hf];exact abH fs.toList 0 ks cs ds b us vs 9998 w h he (by omega) (by omega) (λj u c h1 h2=>hu j u c (by simpa using h1) h2) (λj u c h1 h2=>hv j u c (by simpa using h1) h2)
  ·cases h
 ·cases h
end Go.cr
namespace Go.cr
open Go.RowKit
variable{P:Program}{I:Mem}{L:bA}
theorem VR.eC{u v:Value}(h:VR I u (.val v)):u=v/\v.oneCell'=true:=by cases h;exact⟨rfl,by assumption⟩
theorem eo.eC{u v:Value}(h:eo I L u (.p (.val v))):u=v/\v.oneCell'=true:=h.nJ.eC
theorem VR.ajU{u:Value}{es:List (List PV)}(h:VR I u (.aV es))(hne:es≠[]):∃a n c,u = .slice (some a) n c:=by
 cases h with
 |aV ao n cap _ us sz hn hsz hl hv hone hm hnil hcap =>
  cases ao with
  |none=>have:=(hnil rfl).1;exact absurd (List.length_eq_zero_iff.1 (hn.trans this)) hne
  |some a=>exact⟨a,n,cap,rfl⟩
def isSlice(P:Program)(t:TypeId):Bool:=match P.underlying t with|some (.slice _)=>true|_=>false
def nK(P:Program)(op:BinOp)(t:TypeId)(a b:AV):Option (Prop×AV):=match a,b with
 | .p (.val x),.p (.val y)=>match aax P op t x y with
  |some (pre,v)=>some (pre,.p (.val v))
  |none=>none
 | .p (.aV es),.p (.val (.slice none 0 0))=>match op,isSlice P t with
  | .eql,true=>some (es≠[],.p (.val (.bool false)))
  | .neq,true=>some (es≠[],.p (.val (.bool true)))
  |_,_=>none
 | .p (.agg cs),.p (.agg ds)=>match qf P t with
  |some ks=>match op,eqK ks cs ds with
   | .eql,some b=>some (True,.p (.val (.bool b)))
   | .neq,some b=>some (True,.p (.val (.bool !b)))
   |_,_=>none
  |none=>none
 |_,_=>none
theorem am0{op:BinOp}{t:TypeId}{a b v:AV}{pre:Prop}(h:nK P op t a b=some (pre,v))(hp:pre){x y:Value}(hx:eo I L x a)(hy:eo I L y b)(w:World)(ox oy:Operand) :
  ∃r,(do eqGuard op t ox oy x y;binOp op t x y:Sem Value).run P w = .ok r w/\eo I L r v:=by
 unfold nK at h;split at h
 ·split at h
  ·rename_i hb;simp only[cA,iz] at h;obtain⟨h1,h2⟩:=h;subst h1 h2;obtain⟨rfl,_⟩:=hx.eC;obtain⟨rfl,_⟩:=hy.eC;obtain⟨hr,h1⟩:=amZ hb hp w ox oy;exact⟨_,hr,.p _ _ (.val _ h1)⟩
  ·cases h
 ·rename_i es;have hs:∀ {t},isSlice P t=true->∃e,P.underlying t=some (.slice e):=λ{t} h=>by
   unfold isSlice at h;split at h
   ·rename_i e he;exact⟨e,he⟩
   ·cases h
  split at h
  ·rename_i hsl;simp only[cA,iz] at h;obtain⟨h1,h2⟩:=h;subst h1 h2;obtain⟨e,he⟩:=hs hsl;obtain⟨aa,n,c,rfl⟩:=hx.nJ.ajU hp;obtain⟨rfl,_⟩:=hy.eC;exact⟨.bool false,by simp[eqGuard,binOp,vF he _ _ _ _ _ _ (.inr rfl)],.p _ _ (.val _ rfl)⟩
  ·rename_i hsl;simp only[cA,iz] at h;obtain⟨h1,h2⟩:=h;subst h1 h2;obtain⟨e,he⟩:=hs hsl;obtain⟨aa,n,c,rfl⟩:=hx.nJ.ajU hp;obtain⟨rfl,_⟩:=hy.eC;exact⟨.bool true,by simp[eqGuard,binOp,vF he _ _ _ _ _ _ (.inr rfl)],.p _ _ (.val _ rfl)⟩
  ·cases h
 ·rename_i cs ds;split at h
  ·rename_i ks hks;split at h
   ·rename_i b hb;simp only[cA,iz] at h;obtain⟨h1,h2⟩:=h;subst h1 h2;cases hx.nJ with
    |agg us _ hl hv hone =>
     cases hy.nJ with
     |agg vs _ hl' we aDd=>obtain⟨q1,q2⟩:=yF hks hb hl hl' hv we w;refine⟨.bool b,?_,.p _ _ (.val _ rfl)⟩;rw[Sem.run_bind,run_eqGuard_agg w .eql t ox oy _ _ q2,Result.andThen_ok,run_eql_struct,q1];rfl
   ·rename_i b hb;simp only[cA,iz] at h;obtain⟨h1,h2⟩:=h;subst h1 h2;cases hx.nJ with
    |agg us _ hl hv hone =>
     cases hy.nJ with
     |agg vs _ hl' we aDd=>obtain⟨q1,q2⟩:=yF hks hb hl hl' hv we w;refine⟨.bool !b,?_,.p _ _ (.val _ rfl)⟩;rw[Sem.run_bind,run_eqGuard_agg w .neq t ox oy _ _ q2,Result.andThen_ok,run_neq_struct,q1];rfl
   ·cases h
  ·cases h
 ·cases h
def unX(op:UnOp)(a:AV):Option (Prop×AV):=match op,a with
 | .not,.p (.val (.bool b))=>some (True,.p (.val (.bool !b)))
 | .neg,.p (.val (.int k n))=>some (True,.p (.val (.int k (k.wrap (0-n)))))
 |_,_=>none
theorem aqZ{op:UnOp}{a v:AV}{pre:Prop}(h:unX op a=some (pre,v)){x:Value}(hx:eo I L x a)(w:World) :
    ∃r,(Op.unary op x).run P w = .ok r w/\eo I L r v:=by
  unfold unX at h;split at h<;>first
    |(cases h;done)
    | (simp only [cA, iz] at h
       obtain⟨_,h2⟩:=h;subst h2;obtain⟨rfl,_⟩:=hx.eC;exact⟨_,by simp[Op.unary,Op.intArith],.p _ _ (.val _ rfl)⟩)
def aeC(P:Program)(s d:TypeId)(a:AV):Option (Prop×AV):=match (P.underlying s).isSome,a with
 |true,.p (.val (.int _ n))=>match ajT P d with
  |some k=>some (True,.p (.val (.int k (k.wrap n))))
  |none=>none
 |true,.p (.val (.string x))=>match yD P d with
  |true=>some (True,.p (.val (.string x)))
  |false=>none
 |_,_=>none
theorem ajV{s d:TypeId}{a v:AV}{pre:Prop}(h:aeC P s d a=some (pre,v)){x:Value}(hx:eo I L x a)(w:World) :
  ∃r,(convert s d x).run P w = .ok r w/\eo I L r v:=by
 unfold aeC at h;split at h
 ·rename_i k0 n hs;obtain⟨ds,hds⟩:=Option.isSome_iff_exists.1 hs;unfold ajT at h;split at h
  ·rename_i k hk;simp only[cA,iz] at h;obtain⟨_,h2⟩:=h;subst h2;obtain⟨rfl,_⟩:=hx.eC;have hd:P.underlying d=some (.int k):=by split at hk<;>simp_all
   refine⟨_,?_,.p _ _ (.val _ rfl)⟩;simp[convert,run_underlying hds,run_underlying hd,Conv.intToInt]
  ·cases h
 ·rename_i x0 hs;obtain⟨ds,hds⟩:=Option.isSome_iff_exists.1 hs;unfold yD at h;split at h
  ·rename_i hk;simp only[cA,iz] at h;obtain⟨_,h2⟩:=h;subst h2;obtain⟨rfl,_⟩:=hx.eC;have hd:P.underlying d=some .string:=by split at hk<;>simp_all
   refine⟨_,?_,.p _ _ (.val _ rfl)⟩;simp[convert,run_underlying hds,run_underlying hd]
  ·cases h
 ·cases h
def ag5(c a b:AV):Option (Prop×AV):=match c with
 | .p (.val (.bool true))=>some (True,a)
 | .p (.val (.bool false))=>some (True,b)
 |_=>none
def uc(a:AV)(k:Nat):Option (Prop×AV):=match a with
 | .p (.dQ vs)=>match vs[k]? with|some x=>some (True,.p x)|none=>none
 | .dQ vs=>match vs[k]? with|some x=>some (True,x)|none=>none
 |_=>none
theorem aeD{a v:AV}{k:Nat}{pre:Prop}(h:uc a k=some (pre,v)){x:Value}(hx:eo I L x a)(w:World) :
  ∃r,(Instr.extract x k).run P w = .ok r w/\eo I L r v:=by
 unfold uc at h;split at h
 ·rename_i vs;split at h
  ·rename_i y hy;simp only[cA,iz] at h;obtain⟨_,h2⟩:=h;subst h2;cases hx.nJ with
   |dQ us _ hl hv =>
    have hlt:k<us.length:=by rw[hl];exact (List.getElem?_eq_some_iff.1 hy).1
    refine⟨us[k],?_,.p _ _ (hv k _ _ (by simp) hy)⟩;simp[Instr.extract,hlt]
  ·cases h
 ·rename_i vs;split at h
  ·rename_i y hy;simp only[cA,iz] at h;obtain⟨_,h2⟩:=h;subst h2;cases hx with
   |dQ us _ hl hv =>
    have hlt:k<us.length:=by rw[hl];exact (List.getElem?_eq_some_iff.1 hy).1
    refine⟨us[k],?_,hv k _ _ (by simp) hy⟩;simp[Instr.extract,hlt]
  ·cases h
 ·cases h
def ap2(P:Program)(t:TypeId)(a:AV):Option (Prop×AV):=match a with
 | .p (.dU cs off)=>match rZ P t cs off with|some x=>some (True,.p x)|none=>none
 |_=>none
theorem ajW{t:TypeId}{a v:AV}{pre:Prop}(h:ap2 P t a=some (pre,v)){x:Value}(hx:eo I L x a){w:World}(hw:I.inW w) :
  ∃r,(Instr.loadAt t x).run P w = .ok r w/\eo I L r v:=by
 unfold ap2 at h;split at h
 ·rename_i cs off;split at h
  ·rename_i y hy;simp only[cA,iz] at h;obtain⟨_,h2⟩:=h;subst h2;cases hx.nJ with
   |dU b base _ us _ hl hv hone hm =>
    obtain⟨u,hr,hu⟩:=ag4 (I:=I) (w:=w) (b:=b) (base:=base) hy hl hv hone λj u hj=>hw _ _ _ (hm j u hj)
    exact⟨u,by simp[Instr.loadAt,Instr.sureAddr,hr],.p _ _ hu⟩
  ·cases h
 ·cases h
def ait(P:Program)(s:TypeId)(a:AV)(k:Nat):Option (Prop×AV):=match bS P s k with
 |some (o,n)=>match a with
  | .p (.dU cs off)=>some (n≠0,.p (.dU cs (off+o)))
  | .ptr id off=>some (n≠0,.ptr id (off+o))
  |_=>none
 |none=>none
theorem ajX{s:TypeId}{k o n:Nat}(h:bS P s k=some (o,n)):∃fs f i,P.underlying s=some (.struct fs)/\fs[k]? = some f/\P.info? f.type=some i/\i.size=n/\f.offset=o:=by
 unfold bS at h;split at h
 ·rename_i fs hfs;cases hf:fs[k]? with
  |none=>simp[hf] at h
  |some f =>
   cases hi:P.info? f.type with
   |none=>simp[hf,bu,hi] at h
   |some i=>simp[hf,bu,hi] at h;exact⟨fs,f,i,hfs,hf,hi,h.2,h.1⟩
 ·cases h
theorem ve{s:TypeId}{k o n:Nat}(h:bS P s k=some (o,n))(hn:n≠0)(w:World)(b off:Nat) :
  (Instr.fieldAt s (.pointer (some ⟨b,off,none⟩)) k).run P w = .ok (.pointer (some ⟨b,off+o,none⟩)) w:=by
 obtain⟨fs,f,i,h1,h2,h3,h4,h5⟩:=ajX h;have hne:i.size≠0:=by rw[h4];exact hn
 have hlt:=(Array.getElem?_eq_some_iff.1 h2);obtain⟨hlt,hfe⟩:=hlt;simp[Instr.fieldAt,run_underlying h1,h2,Instr.sureAddr,fieldPlace,sizeOf,typeInfo,h3,hne,Addr.add_mid,h5]
theorem aiu{s:TypeId}{k:Nat}{a v:AV}{pre:Prop}(h:ait P s a k=some (pre,v))(hp:pre){x:Value}(hx:eo I L x a)(w:World) :
  ∃r,(Instr.fieldAt s x k).run P w = .ok r w/\eo I L r v:=by
 unfold ait at h;split at h
 ·rename_i o n hf;split at h
  ·simp only[cA,iz] at h;obtain⟨h1,h2⟩:=h;subst h1 h2;cases hx.nJ with
   |dU b base _ us _ hl hv hone hm=>refine⟨_,ve hf hp w _ _,.p _ _ ?_⟩;rw[Nat.add_assoc];exact .dU b base _ us _ hl hv hone hm
  ·simp only[cA,iz] at h;obtain⟨h1,h2⟩:=h;subst h1 h2;cases hx with
   |ptr id b off hl=>exact⟨_,ve hf hp w _ _,.ptr _ _ _ hl⟩
  ·cases h
 ·cases h
def oR(P:Program)(t:TypeId)(a i:AV):Option (Prop×AV):=match i with
 | .p (.val (.int _ n))=>match a with
  | .p (.aV es)=>match cM P t with
   |some e=>match bu P e with
    |some sz=>some ((0<=n/\n<es.length)/\(es.getD n.toNat []).length=sz/\0<sz,.p (.dU (es.getD n.toNat []) 0))
    |none=>none
   |none=>none
  | .p (.dU cs off)=>match wh P t with
   |some (len,e)=>match bu P e with
    |some sz=>some (0<=n/\n<len,.p (.dU cs (off+n.toNat * sz)))
    |none=>none
   |none=>none
  | .ptr id off=>match wh P t with
   |some (len,e)=>match bu P e with
    |some sz=>some (0<=n/\n<len,.ptr id (off+n.toNat * sz))
    |none=>none
   |none=>none
  |_=>none
 |_=>none
theorem fB{t e:TypeId}(h:cM P t=some e):P.underlying t=some (.slice e):=by unfold cM at h;split at h<;>simp_all
theorem aa1{t e:TypeId}{n:Nat}(h:wh P t=some (n,e)):P.underlying t=some (.array n e):=by unfold wh at h;split at h<;>simp_all
theorem ajY{t:TypeId}{n:Nat}(h:bu P t=some n):∃i,P.info? t=some i/\i.size=n:=by
 unfold bu at h;cases hi:P.info? t with
 |none=>simp[hi] at h
 |some i=>exact⟨i,rfl,by simpa[hi] using h⟩
theorem dI{t:TypeId}{n:Nat}(h:bu P t=some n)(w:World):(sizeOf t).run P w = .ok n w:=by obtain⟨i,hi,hn⟩:=ajY h;simp[sizeOf,typeInfo,hi,hn]
theorem gW{α:Type}{sz:Nat} : ∀ {es:List (List α)} (_:∀e∈es,e.length=sz) (i j:Nat) (_:i<es.length) (_:j<sz),es.flatten[i * sz+j]? = (es.getD i [])[j]?
 | [],_,i,j,hi,_=>by simp at hi
 |e :: es,h,0,j,_,hj=>by have he:=h e (by simp);simp only[List.flatten_cons,Nat.zero_mul,Nat.zero_add];rw[List.getElem?_append_left (by omega)];rfl
 |e :: es,h,i+1,j,hi,hj=>by
  have he:=h e (by simp);simp only[List.flatten_cons];have:(i+1) * sz+j=e.length+(i * sz+j):=by rw[he,Nat.add_mul];omega
  rw[this,List.getElem?_append_right (by omega)];have e2:e.length+(i * sz+j)-e.length=i * sz+j:=by omega
  rw[e2,gW (λx hx=>h x (by simp[hx])) i j (by simpa using hi) hj];rfl
theorem bG{α:Type}{sz:Nat} : ∀ {es:List (List α)} (_:∀e∈es,e.length=sz),es.flatten.length=es.length * sz
 | [],_=>by simp
 |e :: es,h=>by have he:=h e (by simp);rw[List.flatten_cons,List.length_append,bG (λx hx=>h x (by simp[hx])),he,List.length_cons,Nat.add_mul];omega
theorem VR.elem{u:Value}{es:List (List PV)}(h:VR I u (.aV es)){n:Nat}(hn:n<es.length)(hpos:0<(es.getD n []).length) :
  ∃b off len cap sz,u = .slice (some ⟨b,off,none⟩) len cap/\len=es.length/\(es.getD n []).length=sz/\∃us:List Value,us.length=sz /\
   (∀ (j:Nat) u c,us[j]? = some u->(es.getD n [])[j]? = some c->VR I u c)/\(∀u∈us,u.oneCell'=true)/\∀ (j:Nat) u,us[j]? = some u->I b (off+n * sz+j)=some u:=by
 cases h with
 |aV ao len cap _ us sz hlen hsz hl hv hone hm hnil hcap =>
  have hmem:es.getD n []∈es:=by
   have:es.getD n []=es[n]:=by simp[hn]
   rw[this];exact nI _
  have hs:(es.getD n []).length=sz:=hsz _ hmem;have hfl:=bG hsz;have hmul:(n+1) * sz<=es.length * sz:=Nat.mul_le_mul_right _ hn;have au3:(n+1) * sz=n * sz+sz:=by rw[Nat.add_mul];omega
  rcases hm with rfl|⟨b,off,rfl,hI⟩
  ·have h0:es.flatten.length=0:=by rw[<-hl];rfl
   omega
  ·refine⟨b,off,len,cap,sz,rfl,hlen.symm,hs,(us.drop (n * sz)).take sz,by simp;omega,?_,?_,?_⟩
   ·intro j u c hu hc;rw[List.getElem?_take] at hu;split at hu
    ·rename_i hj;rw[List.getElem?_drop] at hu;exact hv _ u c hu (by rw[gW hsz n j hn hj];exact hc)
    ·cases hu
   ·intro u hu;exact hone u (List.mem_of_mem_drop (List.mem_of_mem_take hu))
   ·intro j u hu;rw[List.getElem?_take] at hu;split at hu
    ·rw[List.getElem?_drop] at hu;have:=hI _ u hu;rw[Nat.add_assoc];exact this
    ·cases hu
theorem VR.ap3{u:Value}{es:List (List PV)}(h:VR I u (.aV es)):∃ao cap,u = .slice ao es.length cap/\es.length<=cap:=by
 cases h with
 |aV ao len cap _ us sz hlen hsz hl hv hone hm hnil hcap=>exact⟨ao,cap,by rw[hlen],by omega⟩
theorem aiv{t:TypeId}{a i v:AV}{pre:Prop}(h:oR P t a i=some (pre,v))(hp:pre){x y:Value}(hx:eo I L x a)(hy:eo I L y i)(w:World) :
  ∃r,(Instr.indexAt t x y).run P w = .ok r w/\eo I L r v:=by
 unfold oR at h;split at h
 ·rename_i k n;obtain⟨rfl,_⟩:=hy.eC;split at h
  ·rename_i es;split at h
   ·rename_i e he;split at h
    ·rename_i sz hsz;simp only[cA,iz] at h;obtain⟨h1,h2⟩:=h;subst h1 h2;obtain⟨⟨h0,hlt⟩,hlen,hpos⟩:=hp;obtain⟨m,rfl⟩:=Int.eq_ofNat_of_zero_le h0;simp only[Int.toNat_natCast] at hlen ⊢;have hm:m<es.length:=by omega
     obtain⟨b,off,len,cap,sz',rfl,rfl,hs,us,hu1,hu2,hu3,hu4⟩:=hx.nJ.elem hm (by omega);have e1:sz'=sz:=by omega
     subst e1;refine⟨.pointer (some ⟨b,off+m * sz',none⟩),?_,.p _ _ ?_⟩
     ·have hlt':(m:Int)<es.length:=hlt;simp[Instr.indexAt,asIntOf,run_underlying (fB he),dI hsz,Addr.add_mid,hm]
     ·have:=VR.dU (I:=I) b (off+m * sz') (es.getD m []) us 0 (by omega) hu2 hu3 hu4;simpa using this
    ·cases h
   ·cases h
  ·rename_i cs off;split at h
   ·rename_i len e he;split at h
    ·rename_i sz hsz;simp only[cA,iz] at h;obtain⟨h1,h2⟩:=h;subst h1 h2;obtain⟨h0,hlt⟩:=hp;obtain⟨m,rfl⟩:=Int.eq_ofNat_of_zero_le h0;have hm:m<len:=by omega
     cases hx.nJ with
     |dU b base _ us _ hl hv hone hmm=>refine⟨.pointer (some ⟨b,base+(off+m * sz),none⟩),?_,.p _ _ (.dU b base _ us _ hl hv hone hmm)⟩;simp[Instr.indexAt,asIntOf,run_underlying (aa1 he),Instr.sureAddr,dI hsz,Addr.add_mid,hm,Nat.add_assoc]
    ·cases h
   ·cases h
  ·rename_i id off;split at h
   ·rename_i len e he;split at h
    ·rename_i sz hsz;simp only[cA,iz] at h;obtain⟨h1,h2⟩:=h;subst h1 h2;obtain⟨h0,hlt⟩:=hp;obtain⟨m,rfl⟩:=Int.eq_ofNat_of_zero_le h0;have hm:m<len:=by omega
     cases hx with
     |ptr id b off hl=>refine⟨.pointer (some ⟨b,off+m * sz,none⟩),?_,.ptr _ _ _ hl⟩;simp[Instr.indexAt,asIntOf,run_underlying (aa1 he),Instr.sureAddr,dI hsz,Addr.add_mid,hm]
    ·cases h
   ·cases h
  ·cases h
 ·cases h
end Go.cr
namespace Go.cr
open Go.RowKit
variable{P:Program}{I:Mem}{L:bA}
def lu(s:ByteArray)(n:Nat):Int:=((s.data.toList.getD n 0).toNat:Int)
def am1(P:Program)(t:TypeId)(a i:AV):Option (Prop×AV):=match i with
 | .p (.val (.int _ n))=>match a with
  | .p (.val (.string s))=>match yD P t with
   |true=>some (0<=n/\n<s.size,.p (.val (.int .u8 (lu s n.toNat))))
   |false=>none
  | .p (.agg cs)=>match wh P t with
   |some (len,e)=>match fL P e,bu P e,cs[n.toNat]? with
    |some false,some 1,some x=>some (0<=n/\n<len,.p x)
    |_,_,_=>none
   |none=>none
  |_=>none
 |_=>none
theorem aa2{t:TypeId}(h:yD P t=true):P.underlying t=some .string:=by unfold yD at h;split at h<;>simp_all
theorem am2{t:TypeId}{a i v:AV}{pre:Prop}(h:am1 P t a i=some (pre,v))(hp:pre){x y:Value}(hx:eo I L x a)(hy:eo I L y i)(w:World) :
  ∃r,(Instr.index t x y).run P w = .ok r w/\eo I L r v:=by
 unfold am1 at h;split at h
 ·rename_i k n;obtain⟨rfl,_⟩:=hy.eC;split at h
  ·rename_i s;split at h
   ·rename_i hs;simp only[cA,iz] at h;obtain⟨h1,h2⟩:=h;subst h1 h2;obtain⟨rfl,_⟩:=hx.eC;obtain⟨h0,hlt⟩:=hp;obtain⟨m,rfl⟩:=Int.eq_ofNat_of_zero_le h0;have hm:m<s.size:=by omega
    refine⟨_,?_,.p _ _ (.val _ rfl)⟩;have hb:s[m]? = some s[m]:=by simp[hm]
    have hg:(s.data.toList.getD m 0)=s[m]:=by
     have hm':m<s.data.toList.length:=by simpa using hm
     rw[List.getD_eq_getElem?_getD,List.getElem?_eq_getElem hm'];rfl
    simp only[lu,Int.toNat_natCast,hg];simp[Instr.index,asIntOf,run_underlying (aa2 hs),hm]
   ·cases h
  ·rename_i cs;split at h
   ·rename_i len e he;split at h
    ·rename_i x' hg hsz hc;simp only[cA,iz] at h;obtain⟨h1,h2⟩:=h;subst h1 h2;obtain⟨h0,hlt⟩:=hp;obtain⟨m,rfl⟩:=Int.eq_ofNat_of_zero_le h0;simp only[Int.toNat_natCast] at hc;have hm:m<len:=by omega
     obtain⟨d,hu,hd⟩:=aa0 hg;cases hx.nJ with
     |agg us _ hl hv hone =>
      have au4:m<us.length:=by rw[hl];exact (List.getElem?_eq_some_iff.1 hc).1
      refine⟨us[m],?_,.p _ _ (hv m _ _ (by simp) hc)⟩;have hagg:(isAgg e).run P w = .ok false w:=by unfold isAgg;rw[Sem.run_bind,run_underlying hu w];cases d<;>simp_all
      simp[Instr.index,asIntOf,run_underlying (aa1 he),dI hsz,hm,part,hagg,au4]
    ·cases h
   ·cases h
  ·cases h
 ·cases h
def ajZ(fn:Fn)(fs cs:List AV):AV:=match tq fs,tq cs with
 |some f,some c=>.p (.iw fn f c)
 |_,_=>.iw fn fs cs
theorem abI{us:List Value}{ps:List PV}(hv:∀ (j:Nat) u c,us[j]? = some u->(ps.map AV.p)[j]? = some c->eo I L u c) :
  ∀ (j:Nat) u c,us[j]? = some u->ps[j]? = some c->VR I u c:=λj u c hu hc =>
 (hv j u (.p c) hu (by rw[List.getElem?_map,hc];rfl)).nJ
theorem aj0{fn:Fn}{us vs:List Value}{fs cs:List AV}(hl:us.length=fs.length)(hl':vs.length=cs.length)
  (hv:∀ (j:Nat) u c,us[j]? = some u->fs[j]? = some c->eo I L u c) (we:∀ (j:Nat) u c,vs[j]? = some u->cs[j]? = some c->eo I L u c) :
  eo I L (.func fn us.toArray vs.toArray) (ajZ fn fs cs):=by
 unfold ajZ;split
 ·rename_i f c hf hc;have e1:=tN hf;have e2:=tN hc;subst e1 e2;exact .p _ _ (.iw fn us vs f c (by simpa using hl) (by simpa using hl') (abI hv) (abI we))
 ·exact .iw fn us vs fs cs hl hl' hv we
def aq0(a:AV):Option (Prop×AV):=match a with
 | .ptr id off=>some (True,.ptr id off)
 | .p (.dU cs off)=>some (True,.p (.dU cs off))
 | .p (.iw (.func f) fs cs)=>some (True,.p (.iw (.func f) fs cs))
 | .iw (.func f) fs cs=>some (True,.iw (.func f) fs cs)
 |_=>none
def bnd(d:Int):Option AV->Option Int
 |none=>some d
 |some (.p (.val (.int _ n)))=>some n
 |_=>none
def slice3(P:Program)(t:TypeId)(a:AV)(lo hi:Option AV)(m:AV):Option (Prop×AV):=match a,hi,m with
 | .p (.aV es), some (.p (.val (.int _ h))), .p (.val (.int _ m)) => match cM P t, bnd 0 lo with
   |some e,some l=>match bu P e with
    |some sz=>some ((0<=l/\l<=h/\h<=m/\m<=es.length)/\∀x∈es,x.length=sz,.p (.aV ((es.take h.toNat).drop l.toNat)))
    |none=>none
   |_,_=>none
 |_,_,_=>none
def sH(P:Program)(t:TypeId)(a:AV)(lo hi mx:Option AV):Option (Prop×AV):=match mx with
 |some m=>slice3 P t a lo hi m
 |none=>match a with
  | .p (.val (.string s))=>match yD P t,bnd 0 lo,bnd s.size hi with
   |true,some l,some h=>some (0<=l/\l<=h/\h<=s.size,.p (.val (.string (s.extract l.toNat h.toNat))))
   |_,_,_=>none
  | .p (.aV es)=>match cM P t,bnd 0 lo,bnd es.length hi with
   |some e,some l,some h=>match bu P e with
    |some sz=>some ((0<=l/\l<=h/\h<=es.length)/\∀x∈es,x.length=sz,.p (.aV ((es.take h.toNat).drop l.toNat)))
    |none=>none
   |_,_,_=>none
  | .iA id bf off n m sz=>match cM P t,bnd 0 lo,bnd n hi with
   |some e,some l,some h=>match bu P e with
    |some sz'=>some ((0<=l/\l<=h/\h<=m)/\sz'=sz,.iA id bf (off+l.toNat) (h.toNat-l.toNat) (m-l.toNat) sz)
    |none=>none
   |_,_,_=>none
  |_=>none
def au5(I:Mem)(L:bA):Option Value->Option AV->Prop
 |none,none=>True
 |some u,some v=>eo I L u v
 |_,_=>False
theorem wW{d y:Int}{a:Option AV}{x:Option Value}(h:bnd d a=some y)(hx:au5 I L x a) :
  (x=none/\y=d)\/(∃k,x=some (.int k y)):=by
 cases a with
 |none =>
  cases x with
  |none=>simp[bnd] at h;exact .inl ⟨rfl,h.symm⟩
  |some u=>exact hx.elim
 |some v =>
  cases x with
  |none=>exact hx.elim
  |some u =>
   unfold bnd at h;split at h
   ·rename_i heq;cases heq
   ·rename_i k n heq;cases heq;simp at h;subst h;exact .inr ⟨k,by rw[(eo.eC hx).1]⟩
   ·cases h
theorem run_sliceBound{k:IntKind}{i:Int}{y:Nat}{c:BoundsCode}(h0:0<=i)(h:i<=y)(w:World):(Instr.sliceBound (.int k i) y c).run P w = .ok i.toNat w:=by simp[Instr.sliceBound,asIntOf,h0,h]
theorem sI{isS:Bool}{len cap:Nat}{lo hi:Option Value}{l h:Int}(hlo:(lo=none/\l=0)\/∃k,lo=some (.int k l))(hhi:(hi=none/\h=len)\/∃k,hi=some (.int k h))
  (h0:0<=l) (h1:l<=h) (h2:h<=cap) (w:World):(Instr.sliceBounds isS len cap lo hi none).run P w = .ok (l.toNat,h.toNat,cap) w:=by
 have hl:l<=(h.toNat:Int):=by omega
 have hh0:0<=h:=by omega
 rcases hlo with ⟨rfl,rfl⟩|⟨k,rfl⟩<;>rcases hhi with ⟨rfl,rfl⟩|⟨k',rfl⟩
 ·simp[Instr.sliceBounds]
 ·simp[Instr.sliceBounds,run_sliceBound (P:=P) hh0 h2]
 ·simp only[Int.toNat_natCast] at hl;simp[Instr.sliceBounds,run_sliceBound (P:=P) h0 hl]
 ·simp[Instr.sliceBounds,run_sliceBound (P:=P) h0 hl,run_sliceBound (P:=P) hh0 h2]
theorem abJ{α:Type}{sz:Nat} : ∀ {es:List (List α)} (_:∀e∈es,e.length=sz) (k:Nat),(es.take k).flatten=es.flatten.take (k * sz)
 | [],_,k=>by simp
 |e :: es,_,0=>by simp
 |e :: es,h,k+1=>by
  have he:=h e (by simp);have hm:(k+1) * sz=e.length+k * sz:=by rw[he,Nat.add_mul];omega
  rw[List.take_succ_cons,List.flatten_cons,List.flatten_cons,abJ (λx hx=>h x (by simp[hx])) k,hm,List.take_length_add_append]
theorem abK{α:Type}{sz:Nat} : ∀ {es:List (List α)} (_:∀e∈es,e.length=sz) (k:Nat),(es.drop k).flatten=es.flatten.drop (k * sz)
 | [],_,k=>by simp
 |e :: es,_,0=>by simp
 |e :: es,h,k+1=>by
  have he:=h e (by simp);have hm:(k+1) * sz=e.length+k * sz:=by rw[he,Nat.add_mul];omega
  rw[List.drop_succ_cons,List.flatten_cons,abK (λx hx=>h x (by simp[hx])) k,hm,List.drop_length_add_append]
theorem VR.aBM{u:Value}{es:List (List PV)}(h:VR I u (.aV es)){sz l k:Nat}(hsz:∀e∈es,e.length=sz)(hlk:l<=k)(hk:k<=es.length) :
  ∃ao cap,u = .slice ao es.length cap/\es.length<=cap/\∀m,k<=m->m<=cap->VR I (.slice (if m=l then ao else ao.map (·.add (l * sz))) (k-l) (m-l)) (.aV ((es.take k).drop l)):=by
 cases h with
 |aV ao n cap _ us sz' hn au6 hl hv hone hm hnil hcap =>
  refine⟨ao,cap,by rw[hn],by omega,λm hkm hmc=>?_⟩;have hlen:((es.take k).drop l).length=k-l:=by simp;omega
  have hmem:∀e∈(es.take k).drop l,e.length=sz:=λe he=>hsz e (List.mem_of_mem_take (List.mem_of_mem_drop he))
  have hfl:((es.take k).drop l).flatten=(es.flatten.take (k * sz)).drop (l * sz):=by rw[abK (λe he=>hsz e (List.mem_of_mem_take he)),abJ hsz]
  refine .aV _ _ _ _ ((us.take (k * sz)).drop (l * sz)) sz hlen hmem ?_ ?_ ?_ ?_ ?_ ?_
  ·rw[hfl,List.length_drop,List.length_take,List.length_drop,List.length_take,hl]
  ·intro j u c hu hc;rw[hfl] at hc;rw[List.getElem?_drop,List.getElem?_take] at hu hc;split at hu
   ·rename_i hj;rw[if_pos hj] at hc;exact hv _ u c hu hc
   ·cases hu
  ·intro u hu;exact hone u (List.mem_of_mem_take (List.mem_of_mem_drop hu))
  ·rcases hm with rfl|⟨b,off,rfl,hI⟩
   ·left;simp
   ·by_cases hc:m=l
    ·left;have:k=l:=by omega
     subst this;simp
    ·right;refine⟨b,off+l * sz,by simp[hc,Addr.add_mid],λj u hu=>?_⟩;rw[List.getElem?_drop,List.getElem?_take] at hu;split at hu
     ·have:=hI _ u hu;rw[Nat.add_assoc];exact this
     ·cases hu
  ·intro h;have:ao=none:=by
    split at h
    ·exact h
    ·simpa using h
   have:=hnil this;omega
  ·omega
theorem VR.part{u:Value}{es:List (List PV)}(h:VR I u (.aV es)){sz l k:Nat}(hsz:∀e∈es,e.length=sz)(hlk:l<=k)(hk:k<=es.length) :
  ∃ao cap,u = .slice ao es.length cap/\es.length<=cap/\VR I (.slice (if cap=l then ao else ao.map (·.add (l * sz))) (k-l) (cap-l)) (.aV ((es.take k).drop l)):=by
 obtain⟨ao,cap,h1,h2,h3⟩:=h.aBM hsz hlk hk;exact⟨ao,cap,h1,h2,h3 cap (by omega) (Nat.le_refl _)⟩
theorem wj{isS:Bool}{len cap:Nat}{lo:Option Value}{l h m:Int}{k k':IntKind}(hlo:(lo=none/\l=0)\/∃k,lo=some (.int k l))
  (h0:0<=l) (h1:l<=h) (h2:h<=m) (h3:m<=cap) (w:World):(Instr.sliceBounds isS len cap lo (some (.int k h)) (some (.int k' m))).run P w = .ok (l.toNat,h.toNat,m.toNat) w:=by
 have hl:l<=(h.toNat:Int):=by omega
 have hh0:0<=h:=by omega
 have hm0:0<=m:=by omega
 have hm:h<=(m.toNat:Int):=by omega
 rcases hlo with ⟨rfl,rfl⟩|⟨k,rfl⟩
 ·simp[Instr.sliceBounds,run_sliceBound (P:=P) hm0 h3,run_sliceBound (P:=P) hh0 hm]
 ·simp[Instr.sliceBounds,run_sliceBound (P:=P) hm0 h3,run_sliceBound (P:=P) hh0 hm,run_sliceBound (P:=P) h0 hl]
theorem aiw{t:TypeId}{a v:AV}{lo hi mx:Option AV}{pre:Prop}(h:sH P t a lo hi mx=some (pre,v))(hp:pre){x:Value}{xlo xhi xmx:Option Value}(hx:eo I L x a)
  (hlo:au5 I L xlo lo) (hhi:au5 I L xhi hi) (hmx:au5 I L xmx mx) (w:World) :
  ∃r,(Instr.sliceAt t x xlo xhi xmx).run P w = .ok r w/\eo I L r v:=by
 unfold sH at h;cases mx with
 |some m =>
  dsimp only at h;unfold slice3 at h;split at h
  ·rename_i es kh k km m';split at h
   ·rename_i e l he hl;split at h
    ·rename_i sz hsz;simp only[cA,iz] at h;obtain⟨h1,h2⟩:=h;subst h1 h2;obtain⟨⟨h0,h1,h2,h3⟩,hall⟩:=hp;cases xmx with
     |none=>exact hmx.elim
     |some um =>
     cases xhi with
     |none=>exact hhi.elim
     |some uh =>
     have em:um = .int km m':=(eo.eC hmx).1;have eh:uh = .int kh k:=(eo.eC hhi).1;subst em eh;obtain⟨ao,cap,rfl,hcap,hv⟩:=hx.nJ.aBM (l:=l.toNat) (k:=k.toNat) hall (by omega) (by omega);refine⟨_,?_,.p _ _ (hv m'.toNat (by omega) (by omega))⟩;have h4:m'<=(cap:Int):=by omega
     simp[Instr.sliceAt,Instr.slice,run_underlying (fB he),wj (P:=P) (isS:=true) (wW hl hlo) h0 h1 h2 h4,dI hsz]
    ·cases h
   ·cases h
  ·cases h
 |none =>
  cases xmx with
  |some _=>exact hmx.elim
  |none =>
  dsimp only at h;split at h
  ·rename_i s;split at h
   ·rename_i l k hs hl hk;simp only[cA,iz] at h;obtain⟨h1,h2⟩:=h;subst h1 h2;obtain⟨rfl,_⟩:=hx.eC;obtain⟨h0,h1,h2⟩:=hp;refine⟨_,?_,.p _ _ (.val _ rfl)⟩;simp[Instr.sliceAt,Instr.slice,run_underlying (aa2 hs),sI (P:=P) (isS:=false) (wW hl hlo) (wW hk hhi) h0 h1 h2]
   ·cases h
  ·rename_i es;split at h
   ·rename_i e l k he hl hk;split at h
    ·rename_i sz hsz;simp only[cA,iz] at h;obtain⟨h1,h2⟩:=h;subst h1 h2;obtain⟨⟨h0,h1,h2⟩,hall⟩:=hp;obtain⟨ao,cap,rfl,hcap,hv⟩:=hx.nJ.part (l:=l.toNat) (k:=k.toNat) hall (by omega) (by omega);refine⟨_,?_,.p _ _ hv⟩;have h3:k<=(cap:Int):=by omega
     simp[Instr.sliceAt,Instr.slice,run_underlying (fB he),sI (P:=P) (isS:=true) (wW hl hlo) (wW hk hhi) h0 h1 h3,dI hsz]
    ·cases h
   ·cases h
  ·rename_i id bf off n m sz;split at h
   ·rename_i e l k he hl hk;split at h
    ·rename_i sz' hsz;simp only[cA,iz] at h;obtain⟨h1,h2⟩:=h;subst h1 h2;obtain⟨⟨h0,h1,h2⟩,rfl⟩:=hp;cases hx with
     |iA a _ _ v _ _ _ c bH _ mJ hle hn hm hz hh =>
      have h3:k<=(c:Int):=by omega
      refine⟨.slice (if c=l.toNat then a else a.map (·.add (l.toNat * sz'))) (k.toNat-l.toNat) (c-l.toNat),?_,.iA _ _ _ v _ _ _ _ bH _ mJ hle (by omega) (by omega) ?_ (λe=>?_)⟩
      ·simp[Instr.sliceAt,Instr.slice,run_underlying (fB he),sI (P:=P) (isS:=true) (wW hl hlo) (wW hk hhi) h0 h1 h3,dI hsz]
      ·intro e;split at e
       ·have:=hz e;omega
       ·have:=hz (by simpa using e);omega
      ·obtain⟨ao,k',cap,e1,e2,e3⟩:=hh e;refine⟨ao,k',cap,e1,by omega,λhc=>?_⟩;by_cases hcl:c=l.toNat
       ·have hl0:l.toNat=0/\off=0:=by omega
        rw[if_pos hcl,e3 (by omega),hl0.1,hl0.2]
       ·rw[if_neg hcl,e3 (by omega)];cases ao with
        |none=>rfl
        |some g =>
         have am3:∀ (a:Addr) (m n:Nat),(a.add m).add n=a.add (m+n):=by intro a m n;unfold Addr.add;by_cases hm:m=0<;>by_cases hn:n=0<;>simp[hm,hn,Nat.add_assoc]
         simp[am3,Nat.add_mul]
    ·cases h
   ·cases h
  ·cases h
def qL(P:Program)(t:TypeId)(a:AV):Option (Prop×AV):=match a with
 | .p (.aV es)=>match isSlice P t with
  |true=>some (True,.p (.val (.int .i64 es.length)))
  |false=>none
 | .p .emp=>match isSlice P t with
  |true=>some (True,.p (.val (.int .i64 0)))
  |false=>none
 | .p (.val (.slice _ n _))=>match isSlice P t with
  |true=>some (True,.p (.val (.int .i64 n)))
  |false=>none
 | .p (.val (.string s))=>match yD P t with
  |true=>some (True,.p (.val (.int .i64 s.size)))
  |false=>none
 | .iA _ _ _ n _ _=>match isSlice P t with
  |true=>some (True,.p (.val (.int .i64 n)))
  |false=>none
 |_=>none
theorem tu{t:TypeId}(h:isSlice P t=true):∃e,P.underlying t=some (.slice e):=by
 unfold isSlice at h;split at h
 ·rename_i e he;exact⟨e,he⟩
 ·cases h
theorem aa3{t ty:TypeId}{a v:AV}{pre:Prop}(h:qL P t a=some (pre,v)){x:Value}(hx:eo I L x a)(w:World) :
  ∃r,(Builtin.len_ #[t] ty #[x]).run P w = .ok r w/\eo I L r v:=by
 unfold qL at h;split at h
 ·split at h
  ·rename_i hs;simp only[cA,iz] at h;obtain⟨_,h2⟩:=h;subst h2;obtain⟨e,he⟩:=tu hs;obtain⟨ao,cap,rfl,_⟩:=hx.nJ.ap3;exact⟨_,by simp[Builtin.len_,run_underlying he,goInt],.p _ _ (.val _ rfl)⟩
  ·cases h
 ·split at h
  ·rename_i hs;simp only[cA,iz] at h;obtain⟨_,h2⟩:=h;subst h2;obtain⟨e,he⟩:=tu hs;cases hx.nJ;exact⟨_,by simp[Builtin.len_,run_underlying he,goInt],.p _ _ (.val _ rfl)⟩
  ·cases h
 ·split at h
  ·rename_i hs;simp only[cA,iz] at h;obtain⟨_,h2⟩:=h;subst h2;obtain⟨e,he⟩:=tu hs;obtain⟨rfl,_⟩:=hx.eC;exact⟨_,by simp[Builtin.len_,run_underlying he,goInt],.p _ _ (.val _ rfl)⟩
  ·cases h
 ·split at h
  ·rename_i hs;simp only[cA,iz] at h;obtain⟨_,h2⟩:=h;subst h2;obtain⟨rfl,_⟩:=hx.eC;exact⟨_,by simp[Builtin.len_,run_underlying (aa2 hs),goInt],.p _ _ (.val _ rfl)⟩
  ·cases h
 ·split at h
  ·rename_i hs;simp only[cA,iz] at h;obtain⟨_,h2⟩:=h;subst h2;obtain⟨e,he⟩:=tu hs;cases hx;exact⟨_,by simp[Builtin.len_,run_underlying he,goInt],.p _ _ (.val _ rfl)⟩
  ·cases h
 ·cases h
end Go.cr
namespace Go.cr
open Go.RowKit
variable{P:Program}{I:Mem}{L:bA}
def qS(place:Nat->Option (Nat×Nat))(cells:List AV):List (Nat×AV)->Option (List AV)
 | []=>some cells
 |(i,v) :: rest=>match place i with
  |some (off,size)=>if (b5 v).length=size/\off+size<=cells.length/\(b5 v).all n9=true then qS place (splice cells off (b5 v)) rest else none
  |none=>none
theorem ag6(off:Nat):∀ (l:List Value) (k:Nat) (cells:Array Value),off+k+l.length<=cells.size ->
  (l.zipIdx k).foldl (λ(cs:Array Value) (x:Value×Nat)=>cs.setIfInBounds (off+x.2) x.1) cells=(splice cells.toList (off+k) l).toArray
 | [],k,cells,_=>by simp[splice]
 |v :: l,k,cells,h=>by
  simp only[List.zipIdx_cons,List.foldl_cons];have h':off+(k+1)+l.length<=(cells.setIfInBounds (off+k) v).size:=by simp at h ⊢;omega
  rw[ag6 off l (k+1) _ h'];congr 1;simp only[splice,Array.toList_setIfInBounds,List.length_cons];have hlt:off+k<cells.toList.length:=by simp at h ⊢;omega
  have e1:off+(k+1)=off+k+1:=by omega
  have e2:off+k+(l.length+1)=off+k+1+l.length:=by omega
  rw[e1,e2,List.take_set,List.drop_set_of_lt (by omega),List.take_add_one];have:cells.toList[off+k]? = some (cells.toList[off+k]):=by simp[hlt]
  rw[this];simp only[Option.toList_some];rw[List.set_append_right _ _ (by rw[List.length_take];omega)];have hmin:min (off+k) cells.toList.length=off+k:=Nat.min_eq_left (Nat.le_of_lt hlt);rw[List.length_take,hmin,Nat.sub_self];simp
theorem yG{place aa4:Nat->Option (Nat×Nat)}(hpl:∀i x,place i=some x->aa4 i=some x):∀ (parts:List (Nat×AV)) (vs:List (Nat×Value)) (cells:List AV) (us:List Value) (out:List AV),
  qS place cells parts=some out->us.length=cells.length->(∀ (j:Nat) u c,us[j]? = some u->cells[j]? = some c->eo I L u c)->(∀u∈us,u.oneCell'=true) ->
  vs.length=parts.length->(∀ (j:Nat) x y,vs[j]? = some x->parts[j]? = some y->x.1=y.1/\eo I L x.2 y.2) ->
  ∃uo:List Value,Instr.fill aa4 us.toArray vs=some uo.toArray/\uo.length=out.length/\(∀ (j:Nat) u c,uo[j]? = some u->out[j]? = some c->eo I L u c)/\(∀u∈uo,u.oneCell'=true)
 | [],vs,cells,us,out,h,hl,hv,h1,hvl,_=>by have:vs=[]:=List.length_eq_zero_iff.1 hvl;subst this;simp[qS] at h;subst h;exact⟨us,rfl,hl,hv,h1⟩
 |(i,v) :: rest,[],cells,us,out,_,_,_,_,hvl,_=>by simp at hvl
 |(i,v) :: rest,(i',x) :: vs,cells,us,out,h,hl,hv,h1,hvl,hr=>by
  obtain⟨hii,hx⟩:=hr 0 _ _ rfl rfl;have hii:i'=i:=hii;have hx:eo I L x v:=hx;subst hii;simp only[qS] at h;split at h
  ·rename_i off size hp;split at h
   ·rename_i hc;obtain⟨hsz,hle,hall⟩:=hc;have hsz:(b5 v).length=size:=hsz;have hone:∀c∈b5 v,n9 c=true:=List.all_eq_true.1 hall;obtain⟨un,he,hul,hur⟩:=hx.cells hone;have hux:∀u∈un,u.oneCell'=true:=λu hu=>by
     obtain⟨j,hj⟩:=List.mem_iff_getElem?.1 hu;have hjl:j<(b5 v).length:=by rw[<-hul];exact (List.getElem?_eq_some_iff.1 hj).1
     have hc:(b5 v)[j]? = some ((b5 v)[j]):=by simp[hjl]
     exact (hur j u _ hj hc).one (hone _ (nI _))
    have hul:un.length=(b5 v).length:=hul;have hn:=ef (cs:=cells) (off:=off) (new:=b5 v) (by rw[hsz];exact hle);have hn':=ef (cs:=us) (off:=off) (new:=un) (by omega);obtain⟨uo,g1,g2,g3,g4⟩:=yG hpl rest vs (splice cells off (b5 v)) (splice us off un) out h (by omega)
     (aaZ hl hul hv hur) (λu hu=>by
      unfold splice at hu;simp only[List.mem_append] at hu;rcases hu with (hu|hu)|hu
      ·exact h1 u (List.mem_of_mem_take hu)
      ·exact hux u hu
      ·exact h1 u (List.mem_of_mem_drop hu)) (by simpa using hvl) (λj y z hy hz=>hr (j+1) y z hy hz)
    refine⟨uo,?_,g2,g3,g4⟩;have hlen:un.length=size:=by omega
    have hsize:off+un.length<=us.length:=by omega
    unfold Instr.fill;simp only[hpl _ _ hp,he];have hb:¬ (un.toArray.size≠size\/off+un.toArray.size > us.toArray.size):=by simp;omega
    rw[if_neg (by simpa using hb)];have ap4:=ag6 off un 0 us.toArray (by simpa using hsize);simp only[Nat.add_zero] at ap4;have:(un.toArray.zipIdx.foldl (λ(cs:Array Value) (x:Value×Nat)=>cs.setIfInBounds (off+x.2) x.1) us.toArray)=(splice us off un).toArray:=by rw[<-ap4,<-Array.foldl_toList];simp
    exact (congrArg (λc=>Instr.fill aa4 c vs) this).trans g1
   ·cases h
  ·cases h
def fc(P:Program)(t:TypeId):Option (List (Nat×Nat)):=match P.underlying t with
 |some (.struct fs)=>fs.toList.mapM λf=>(bu P f.type).map λn=>(f.offset,n)
 |some (.array n e)=>(bu P e).map λsz=>(List.range n).map λi=>(i * sz,sz)
 |_=>none
def acK(P:Program)(t:TypeId)(parts:List (Nat×AV)):Option (Prop×AV):=match cN P t,fc P t with
 | some zs, some pl => if zs.all (·.oneCell') = true then
   match qS (λi=>pl[i]?) (zs.map λz=>.p (.val z)) parts with
   |some cs=>some (True,xS cs)
   |none=>none
  else none
 |_,_=>none
theorem yH{t:TypeId}{zs:List Value}(h:cN P t=some zs):∃i z,P.info? t=some i/\i.zero=some z/\z.cells.toList=zs:=by
 unfold cN at h;cases hi:P.info? t with
 |none=>simp[hi] at h
 |some i =>
  cases hz:i.zero with
  |none=>simp[hi,hz] at h
  |some z=>exact⟨i,z,rfl,hz,by simpa[hi,hz] using h⟩
theorem wk{t:TypeId}{zs:List Value}(h:cN P t=some zs)(w:World):∃z,(zeroValue t).run P w = .ok z w/\z.cells=zs.toArray:=by obtain⟨i,z,hi,hz,hc⟩:=yH h;refine⟨z,by simp[zeroValue,typeInfo,hi,hz],?_⟩;rw[<-hc]
theorem aaC{α β:Type}(g:α->Sem β)(g':α->Option β)(w:World):∀ (l:List α) (out:List β),l.mapM g'=some out ->
  (∀a b,g' a=some b->(g a).run P w = .ok b w)->(l.mapM g).run P w = .ok out w
 | [],out,h,_=>by simp at h;subst h;simp
 |a :: l,out,h,hg=>by
  simp only[List.mapM_cons,Option.bind_eq_bind,Option.pure_def] at h;cases ha:g' a with
  |none=>simp[ha] at h
  |some b =>
   cases hl:l.mapM g' with
   |none=>simp[ha,hl] at h
   |some bs=>simp[ha,hl] at h;subst h;simp[hg a b ha,aaC g g' w l bs hl hg]
theorem aj1(zs:List Value)(h:zs.all (·.oneCell')=true):(∀ (j:Nat) u c,zs[j]? = some u->(zs.map λz=>AV.p (.val z))[j]? = some c->eo I L u c)/\∀u∈zs,u.oneCell'=true:=by have h1:∀u∈zs,u.oneCell'=true:=List.all_eq_true.1 h;refine⟨λj u c hu hc=>?_,h1⟩;rw[List.getElem?_map,hu] at hc;simp at hc;subst hc;exact .p _ _ (.val _ (h1 u (List.mem_of_getElem? hu)))
def aeE(I:Mem)(L:bA)(vs:List (Nat×Value))(parts:List (Nat×AV)):Prop:=vs.length=parts.length/\∀ (j:Nat) x y,vs[j]? = some x->parts[j]? = some y->x.1=y.1/\eo I L x.2 y.2
theorem aix{t:TypeId}{parts:List (Nat×AV)}{v:AV}{pre:Prop}(h:acK P t parts=some (pre,v)){vs:List (Nat×Value)}(hr:aeE I L vs parts)(w:World) :
  ∃r,(Instr.build t vs.toArray).run P w = .ok r w/\eo I L r v:=by
 unfold acK at h;split at h
 ·rename_i zs pl hz hpl;split at h
  ·rename_i hone;split at h
   ·rename_i cs hf;simp only[cA,iz] at h;obtain⟨_,h2⟩:=h;subst h2;obtain⟨z,hzr,hzc⟩:=wk hz w;obtain⟨zr,z1⟩:=aj1 (I:=I) (L:=L) zs hone;unfold fc at hpl;split at hpl
    ·rename_i fs hfs;obtain⟨uo,g1,g2,g3,g4⟩:=yG (aa4:=λi=>pl[i]?) (λi x h=>h) parts vs _ zs cs hf (by simp) zr z1 hr.1 hr.2;refine⟨_,?_,vc g2 g3 g4⟩;have hm:(fs.mapM λ(f:Field)=>(do pure (f.offset,<-sizeOf f.type):Sem (Nat×Nat))).run P w = .ok pl.toArray w:=by
      rw[Array.mapM_eq_mapM_toList];have:=aaC (P:=P) (λf:Field=>(do pure (f.offset,<-sizeOf f.type):Sem (Nat×Nat))) _ w fs.toList pl hpl (λf b hb=>by
       cases hs:bu P f.type with
       |none=>simp[hs] at hb
       |some n=>simp[hs] at hb;subst hb;simp[dI hs])
      rw[Sem.run_map,this];simp
     simp only[Instr.build,Sem.run_bind,hzr,Result.andThen_ok,run_underlying hfs,hm,hzc];simp[g1]
    ·rename_i n e hu;cases hsz:bu P e with
     |none=>simp[hsz] at hpl
     |some sz =>
      simp[hsz] at hpl;obtain⟨uo,g1,g2,g3,g4⟩:=yG (aa4:=λi=>some (i * sz,sz)) (λi x h=>by
       rw[<-hpl,List.getElem?_map] at h;cases hi:(List.range n)[i]? with
       |none=>simp[hi] at h
       |some k =>
        simp[hi] at h;have:=List.getElem?_eq_some_iff.1 hi;obtain⟨hlt,hk⟩:=this;simp at hk;rw[<-h,hk]) parts vs _ zs cs hf (by simp) zr z1 hr.1 hr.2
      refine⟨_,?_,vc g2 g3 g4⟩;simp only[Instr.build,Sem.run_bind,hzr,Result.andThen_ok,run_underlying hu,dI hsz,hzc];simp[g1]
    ·cases hpl
   ·cases h
  ·cases h
 ·cases h
end Go.cr
namespace Go.cr
open Go.RowKit
variable{P:Program}{I:Mem}{L:bA}
def chunk{α:Type}(sz:Nat):Nat->List α->List (List α)
 |0,_=>[]
 |n+1,l=>l.take sz :: chunk sz n (l.drop sz)
theorem abL{α:Type}(sz:Nat):∀ (n:Nat) (l:List α),(chunk sz n l).length=n
 |0,_=>rfl
 |n+1,l=>by simp[chunk,abL sz n]
theorem aaD{α:Type}(sz:Nat):∀ (n:Nat) (l:List α),l.length=n * sz->(chunk sz n l).flatten=l
 |0,l,h=>by have:l=[]:=List.length_eq_zero_iff.1 (by simpa using h);subst this;rfl
 |n+1,l,h=>by
  have hm:(n+1) * sz=n * sz+sz:=by rw[Nat.add_mul];omega
  rw[chunk,List.flatten_cons,aaD sz n (l.drop sz) (by rw[List.length_drop];omega),List.take_append_drop]
theorem ag7{α:Type}(sz:Nat):∀ (n:Nat) (l:List α),l.length=n * sz->∀e∈chunk sz n l,e.length=sz
 |0,l,_,e,he=>by simp[chunk] at he
 |n+1,l,h,e,he=>by
  have hm:(n+1) * sz=n * sz+sz:=by rw[Nat.add_mul];omega
  simp only[chunk,List.mem_cons] at he;rcases he with rfl|he
  ·rw[List.length_take];omega
  ·exact ag7 sz n (l.drop sz) (by rw[List.length_drop];omega) e he
def iE(zs:List Value)(n:Nat):List AV:=(List.replicate n (zs.map λz=>AV.p (.val z))).flatten
def lJ(P:Program)(t:TypeId)(n:Nat)(parts:List (Nat×AV)):Option (TypeId×List (List PV)):=match cM P t with
 |some e=>match bu P e,cN P e with
  | some sz, some zs => if zs.length = sz ∧ 0 < sz ∧ n * sz ≤ 16777216 ∧ zs.all (·.oneCell') = true then
    match qS (λi=>some (i * sz,sz)) (iE zs n) parts with
    |some cs=>match tq cs with
     |some ps=>if ps.length=n * sz then some (e,chunk sz n ps) else none
     |none=>none
    |none=>none
   else none
  |_,_=>none
 |none=>none
theorem aae(zs:List Value)(n:Nat)(h:0<zs.length):((Array.range (n * zs.length)).map (λi=>zs.toArray[i % zs.toArray.size]!))=(List.replicate n zs).flatten.toArray:=by
 apply Array.ext';apply List.ext_getElem?;intro j;simp only[Array.toList_map,Array.toList_range,List.getElem?_map];have hall:∀e∈List.replicate n zs,e.length=zs.length:=λe he=>by rw[List.eq_of_mem_replicate he]
 by_cases hj:j<n * zs.length
 ·have hd:j / zs.length<n:=Nat.div_lt_of_lt_mul (by rw[Nat.mul_comm];exact hj);have hm:j % zs.length<zs.length:=Nat.mod_lt _ h;have:=gW hall (j / zs.length) (j % zs.length) (by simpa using hd) hm;have e1:j / zs.length * zs.length+j % zs.length=j:=by rw[Nat.mul_comm];exact Nat.div_add_mod j zs.length
  rw[e1] at this;rw[this];simp[hj,hd,hm]
 ·have h1:(List.range (n * zs.length))[j]? = none:=by simp;omega
  have h2:(List.replicate n zs).flatten[j]? = none:=by rw[List.getElem?_eq_none_iff,bG hall];simp;omega
  rw[h1,h2];rfl
theorem vG{t:TypeId}{n:Nat}{parts:List (Nat×AV)}{e:TypeId}{es:List (List PV)}(h:lJ P t n parts=some (e,es)){vs:List (Nat×Value)}(hr:aeE I L vs parts)(w:World) :
  ∃ (uo:List Value) (sz:Nat),(Instr.buildSlice t n vs.toArray).run P w = .ok (.slice (some ⟨w.heap.size,0,none⟩) n n) (w.alloc (.cells uo.toArray e))/\cM P t=some e/\bu P e=some sz/\0<sz /\
   es.length=n/\(∀x∈es,x.length=sz)/\uo.length=es.flatten.length/\(∀ (j:Nat) u c,uo[j]? = some u->es.flatten[j]? = some c->VR I u c)/\∀u∈uo,u.oneCell'=true:=by
 unfold lJ at h;split at h
 ·rename_i e' he;split at h
  ·rename_i sz zs hsz hz;split at h
   ·rename_i hc;obtain⟨hzl,hpos,h24,hone⟩:=hc;split at h
    ·rename_i cs hf;split at h
     ·rename_i ps hps;split at h
      ·rename_i hlen;simp only[cA,iz] at h;obtain⟨h1,h2⟩:=h;subst h1 h2;have hcs:=tN hps;obtain⟨z,hzr,hzc⟩:=wk hz w;have hbase:((List.replicate n zs).flatten).length=(iE zs n).length:=by simp[iE]
       have hrel:∀ (j:Nat) u c,((List.replicate n zs).flatten)[j]? = some u->(iE zs n)[j]? = some c->eo I L u c:=by
        intro j u c hu hc;have e1:iE zs n=((List.replicate n zs).flatten).map (λz=>AV.p (.val z)):=by simp[iE,List.map_flatten]
        rw[e1,List.getElem?_map,hu] at hc;simp at hc;subst hc;have hu':=List.mem_of_getElem? hu;obtain⟨l,hl,hul⟩:=List.mem_flatten.1 hu';rw[List.eq_of_mem_replicate hl] at hul;exact .p _ _ (.val _ (List.all_eq_true.1 hone u hul))
       have h1:∀u∈(List.replicate n zs).flatten,u.oneCell'=true:=λu hu=>by obtain⟨l,hl,hul⟩:=List.mem_flatten.1 hu;rw[List.eq_of_mem_replicate hl] at hul;exact List.all_eq_true.1 hone u hul
       obtain⟨uo,g1,g2,g3,g4⟩:=yG (aa4:=λi=>some (i * sz,sz)) (λi x h=>h) parts vs _ _ cs hf hbase hrel h1 hr.1 hr.2;have hfl:=aaD sz n ps hlen;refine⟨uo,sz,?_,he,hsz,hpos,abL sz n ps,ag7 sz n ps hlen,?_,?_,g4⟩
       ·have hzero:((Array.range (n * sz)).map (λi=>zs.toArray[i % zs.toArray.size]!))=(List.replicate n zs).flatten.toArray:=by rw[<-hzl];exact aae zs n (by omega)
        by_cases hn:n * sz=0
        ·have hn0:n=0:=by
          rcases Nat.mul_eq_zero.1 hn with h|h
          ·exact h
          ·omega
         subst hn0;simp only[List.replicate_zero,List.flatten_nil] at g1;have hr0:((Array.range (0 * sz)).map (λi=>(#[]:Array Value)[i % (#[]:Array Value).size]!)) = #[]:=by simp
         simp only[Instr.buildSlice,Sem.run_bind,run_underlying (fB he),Result.andThen_ok,dI hsz];rw[if_neg (by simp),if_pos hn];simp only[Sem.run_bind,Result.andThen_ok,Sem.run_pure,hr0,g1];simp[newRow,newObj,Sem.run]
        ·have aCe:¬ (16777216<n * sz):=by omega
         have hz':(n * sz=0)=False:=by simpa using hn
         simp only[Instr.buildSlice,Sem.run_bind,run_underlying (fB he),Result.andThen_ok,dI hsz];rw[if_neg (by simpa using aCe),if_neg hn];simp only[Sem.run_bind,hzr,Result.andThen_ok,Sem.run_pure,hzc,hzero,g1];simp[newRow,newObj,Sem.run]
       ·rw[hfl,g2,hcs];simp
       ·rw[hfl];rw[hcs] at g3;exact abI g3
      ·cases h
     ·cases h
    ·cases h
   ·cases h
  ·cases h
 ·cases h
def vf(P:Program)(t:TypeId)(n:Nat)(parts:List (Nat×AV)):Option (TypeId×List AV):=match cM P t with
 |some e=>match bu P e,cN P e with
  | some sz, some zs => if zs.length = sz ∧ 0 < sz ∧ n * sz ≤ 16777216 ∧ zs.all (·.oneCell') = true then
    match qS (λi=>some (i * sz,sz)) (iE zs n) parts with
    |some cs=>some (e,cs)
    |none=>none
   else none
  |_,_=>none
 |none=>none
theorem agu{t:TypeId}{n:Nat}{parts:List (Nat×AV)}{e:TypeId}{cs:List AV}(h:vf P t n parts=some (e,cs)){vs:List (Nat×Value)}(hr:aeE I L vs parts)(w:World) :
  ∃ (uo:List Value),(Instr.buildSlice t n vs.toArray).run P w = .ok (.slice (some ⟨w.heap.size,0,none⟩) n n) (w.alloc (.cells uo.toArray e)) /\
   uo.length=cs.length/\(∀ (j:Nat) u c,uo[j]? = some u->cs[j]? = some c->eo I L u c)/\∀u∈uo,u.oneCell'=true:=by
 unfold vf at h;split at h
 ·rename_i e' he;split at h
  ·rename_i sz zs hsz hz;split at h
   ·rename_i hc;obtain⟨hzl,hpos,h24,hone⟩:=hc;split at h
    ·rename_i cs' hf
     ··
       simp only[cA,iz] at h;obtain⟨h1,h2⟩:=h;subst h1 h2;obtain⟨z,hzr,hzc⟩:=wk hz w;have hbase:((List.replicate n zs).flatten).length=(iE zs n).length:=by simp[iE]
       have hrel:∀ (j:Nat) u c,((List.replicate n zs).flatten)[j]? = some u->(iE zs n)[j]? = some c->eo I L u c:=by
        intro j u c hu hc;have e1:iE zs n=((List.replicate n zs).flatten).map (λz=>AV.p (.val z)):=by simp[iE,List.map_flatten]
        rw[e1,List.getElem?_map,hu] at hc;simp at hc;subst hc;have hu':=List.mem_of_getElem? hu;obtain⟨l,hl,hul⟩:=List.mem_flatten.1 hu';rw[List.eq_of_mem_replicate hl] at hul;exact .p _ _ (.val _ (List.all_eq_true.1 hone u hul))
       have h1:∀u∈(List.replicate n zs).flatten,u.oneCell'=true:=λu hu=>by obtain⟨l,hl,hul⟩:=List.mem_flatten.1 hu;rw[List.eq_of_mem_replicate hl] at hul;exact List.all_eq_true.1 hone u hul
       obtain⟨uo,g1,g2,g3,g4⟩:=yG (aa4:=λi=>some (i * sz,sz)) (λi x h=>h) parts vs _ _ cs' hf hbase hrel h1 hr.1 hr.2;refine⟨uo,?_,g2,g3,g4⟩
       ·have hzero:((Array.range (n * sz)).map (λi=>zs.toArray[i % zs.toArray.size]!))=(List.replicate n zs).flatten.toArray:=by rw[<-hzl];exact aae zs n (by omega)
        by_cases hn:n * sz=0
        ·have hn0:n=0:=by
          rcases Nat.mul_eq_zero.1 hn with h|h
          ·exact h
          ·omega
         subst hn0;simp only[List.replicate_zero,List.flatten_nil] at g1;have hr0:((Array.range (0 * sz)).map (λi=>(#[]:Array Value)[i % (#[]:Array Value).size]!)) = #[]:=by simp
         simp only[Instr.buildSlice,Sem.run_bind,run_underlying (fB he),Result.andThen_ok,dI hsz];rw[if_neg (by simp),if_pos hn];simp only[Sem.run_bind,Result.andThen_ok,Sem.run_pure,hr0,g1];simp[newRow,newObj,Sem.run]
        ·have aCe:¬ (16777216<n * sz):=by omega
         have hz':(n * sz=0)=False:=by simpa using hn
         simp only[Instr.buildSlice,Sem.run_bind,run_underlying (fB he),Result.andThen_ok,dI hsz];rw[if_neg (by simpa using aCe),if_neg hn];simp only[Sem.run_bind,hzr,Result.andThen_ok,Sem.run_pure,hzc,hzero,g1];simp[newRow,newObj,Sem.run]
    ·cases h
   ·cases h
  ·cases h
 ·cases h
def isNil:AV->Bool
 | .p .emp=>true
 | .p (.val (.slice none 0 0))=>true
 |_=>false
theorem aeF{a:AV}(h:isNil a=true){u:Value}(hu:eo I L u a):∃ao,u = .slice ao 0 0:=by
 unfold isNil at h;split at h
 ·cases hu.nJ;exact⟨_,rfl⟩
 ·exact⟨none,hu.eC.1⟩
 ·cases h
def dr(P:Program)(t1 t2:TypeId):Option (TypeId×Nat×Nat):=if t1=t2 then match cM P t1 with
 |some e=>match bu P e,abG P e,cN P e with
  |some sz,some qT,some zs=>if zs.length=sz/\0<sz/\0<qT then some (e,sz,qT) else none
  |_,_,_=>none
 |none=>none else none
theorem nB{t1 t2 e:TypeId}{sz b:Nat}(h:dr P t1 t2=some (e,sz,b)):t1=t2/\P.underlying t1=some (.slice e)/\0<sz/\0<b /\
  ∃i z,P.info? e=some i/\i.zero=some z/\i.size=sz/\i.bytes=b/\z.cells.size=sz:=by
 unfold dr at h;split at h
 ·rename_i h12;split at h
  ·rename_i e' he;split at h
   ·rename_i sz' b' zs hs hb hz;split at h
    ·rename_i hc;simp only[cA,iz] at h;obtain⟨r1,r2,r3⟩:=h;subst r1 r2 r3;obtain⟨i,z,hi,hzz,hzc⟩:=yH hz;refine⟨h12,fB he,hc.2.1,hc.2.2,i,z,hi,hzz,?_,?_,?_⟩
     ·simpa[bu,hi] using hs
     ·simpa[abG,hi] using hb
     ·rw[<-hc.1,<-hzc];simp
    ·cases h
   ·cases h
  ·cases h
 ·cases h
theorem pJ{t ty e:TypeId}{i:TypeInfo}{z:Value}{sz:Nat}(ht:P.underlying t=some (.slice e))(hi:P.info? e=some i)(hz:i.zero=some z)(hs:i.size=sz)(ao:Option Addr)
  (a:Addr) (m c:Nat) (news:List Value) (w:World) (hl:news.length=m * sz) (hnews:∀ (j:Nat) v,news[j]? = some v->w.cell? (a.add j)=some v)
  (h0:0<m) (hb:m * i.bytes<=140737488355328) (hm:m<=9223372036854775807) :
  ∃cap rest,(Builtin.append_ #[t,t] ty #[.slice ao 0 0,.slice (some a) m c]).run P w =
   .ok (.slice (some ⟨w.heap.size,0,none⟩) m cap) (w.drew.alloc (.cells (news++rest).toArray e))/\m<=cap/\(news++rest).length=m * sz+(cap-m) * z.cells.size/\cap<=maxLen:=by
 subst hs;refine⟨grownCap w m 0 e,(Builtin.zeroCells z.cells (grownCap w m 0 e-m)).toList,?_,grownCap_ge w m 0 e,?_,grownCap_le_maxLen w m 0 e (by simp only[maxLen];omega)⟩
 ·have h63:(m:Int)<=9223372036854775807:=by omega
  cases ao with
  |none=>rw[run_append_nil w t ty e i z ht hi hz a m c news hl hnews h0 h63 (by omega)];congr 3;apply Array.ext';simp
  |some b =>
   have hnx:Builtin.nextslicecap (0+m) 0 * i.bytes<=281474976710656:=by rw[Nat.zero_add,nextslicecap_zero h0];omega
   have:=run_append_grow (P:=P) w t ty e i z ht hi hz b 0 0 [] (by simp) (by simp) a m c news hl hnews (by omega) (by simpa using h63) hnx;simp only[Nat.zero_add] at this;rw[this];congr 3;apply Array.ext';simp
 ·rw[List.length_append,hl,Array.length_toList,size_zeroCells]
end Go.cr
namespace Go.cr
open Go.RowKit
variable{P:Program}{I:Mem}{L:bA}
def acL(P:Program)(t1 t2:TypeId)(a b:AV):Option (Prop×AV):=match isNil a,dr P t1 t2 with
 |true,some (_,sz,qT)=>match b with
  | .p (.aV es)=>some (es.length * qT<=140737488355328/\∀x∈es,x.length=sz,.p (.aV es))
  |b=>match isNil b with
   |true=>some (True,.p .emp)
   |false=>none
 |_,_=>none
def agv(k:IntKind)(n:Int):List AV->Option (Prop×AV)
 | []=>some (True,.p (.val (.int k n)))
 | .p (.val (.int _ m)) :: r=>agv k (max n m) r
 |_=>none
def au7(k:IntKind)(n:Int):List AV->Option (Prop×AV)
 | []=>some (True,.p (.val (.int k n)))
 | .p (.val (.int _ m)) :: r=>au7 k (min n m) r
 |_=>none
theorem aeG{k:IntKind} : ∀ {eL:List AV} {n:Int} {v:AV} {pre:Prop} {us:List Value},agv k n eL=some (pre,v)->oQ I L us eL->∀w:World,∃r,(us.foldlM Builtin.max2 (.int k n)).run P w = .ok r w/\eo I L r v
 | [],n,v,pre,us,h,hu,w=>by simp only[agv,cA,iz] at h;obtain⟨_,rfl⟩:=h;have:us=[]:=List.length_eq_zero_iff.1 (by simpa using hu.1);subst this;exact⟨_,rfl,.p _ _ (.val _ rfl)⟩
 |a :: r,n,v,pre,us,h,hu,w=>by
  unfold agv at h;split at h
  ·rename_i e;cases e
  ·rename_i k' m r' e;simp only[List.cons.injEq] at e;obtain⟨rfl,rfl⟩:=e
   match us,hu with
   | [],hu=>have:=hu.1;simp at this
   |u :: us,hu =>
    obtain⟨rfl,_⟩:=(hu.2 0 u _ rfl rfl).eC;obtain⟨q,h1,h2⟩:=aeG h (us:=us) ⟨by simpa using hu.1,λj u c hu' hc=>hu.2 (j+1) u c hu' hc⟩ w;refine⟨q,?_,h2⟩;have e:(if m > n then m else n)=max n m:=by omega
    rw[List.foldlM_cons,Sem.run_bind];simp only[Builtin.max2,Sem.run_pure,Result.andThen_ok,e];exact h1
  ·cases h
theorem aeH{k:IntKind} : ∀ {eL:List AV} {n:Int} {v:AV} {pre:Prop} {us:List Value},au7 k n eL=some (pre,v)->oQ I L us eL->∀w:World,∃r,(us.foldlM Builtin.min2 (.int k n)).run P w = .ok r w/\eo I L r v
 | [],n,v,pre,us,h,hu,w=>by simp only[au7,cA,iz] at h;obtain⟨_,rfl⟩:=h;have:us=[]:=List.length_eq_zero_iff.1 (by simpa using hu.1);subst this;exact⟨_,rfl,.p _ _ (.val _ rfl)⟩
 |a :: r,n,v,pre,us,h,hu,w=>by
  unfold au7 at h;split at h
  ·rename_i e;cases e
  ·rename_i k' m r' e;simp only[List.cons.injEq] at e;obtain⟨rfl,rfl⟩:=e
   match us,hu with
   | [],hu=>have:=hu.1;simp at this
   |u :: us,hu =>
    obtain⟨rfl,_⟩:=(hu.2 0 u _ rfl rfl).eC;obtain⟨q,h1,h2⟩:=aeH h (us:=us) ⟨by simpa using hu.1,λj u c hu' hc=>hu.2 (j+1) u c hu' hc⟩ w;refine⟨q,?_,h2⟩;have e:(if m<n then m else n)=min n m:=by omega
    rw[List.foldlM_cons,Sem.run_bind];simp only[Builtin.min2,Sem.run_pure,Result.andThen_ok,e];exact h1
  ·cases h
def ud(P:Program)(b:Builtin)(ts:List TypeId)(eL:List AV):Option (Prop×AV):=match b,ts,eL with
 | .len,[t],[a]=>qL P t a
 | .append,[t1,t2],[a,b]=>acL P t1 t2 a b
 | .max,_,.p (.val (.int k n)) :: r=>agv k n r
 | .min,_,.p (.val (.int k n)) :: r=>au7 k n r
 |_,_,_=>none
def oa(P:Program)(o:Oper)(ρ:Operand->AV):Option (Prop×AV):=match o.op with
 | .move x | .assign x=>some (True,ρ x)
 | .pick c a b=>ag5 (ρ c) (ρ a) (ρ b)
 | .load t a=>ap2 P t (ρ a)
 | .fieldAddr s a k=>ait P s (ρ a) k
 | .indexAddr t x i=>oR P t (ρ x) (ρ i)
 | .index t x i=>am1 P t (ρ x) (ρ i)
 | .extract x k=>uc (ρ x) k
 | .binOp op t x y _=>nK P op t (ρ x) (ρ y)
 | .unOp op _ x=>unX op (ρ x)
 | .convert s d x=>aeC P s d (ρ x)
 | .makeFunc fn f c=>some (True,ajZ fn (f.toList.map ρ) (c.toList.map ρ))
 | .build t parts=>acK P t (parts.toList.map λx=>(x.1,ρ x.2))
 | .buildSlice t n parts=>match lJ P t n (parts.toList.map λx=>(x.1,ρ x.2)) with
  |some (_,es)=>match n with
   |0=>some (True,.p .emp)
   |_=>some (True,.p (.aV es))
  |none=>none
 | .slice t x lo hi mx=>sH P t (ρ x) (lo.map ρ) (hi.map ρ) (mx.map ρ)
 | .nilCheck x=>aq0 (ρ x)
 | .call c=>match c.callee with
  | .builtin b=>ud P b c.argTypes.toList (c.args.toList.map ρ)
  |_=>none
 |_=>none
theorem wm{σ:Operand->Value}{ρ:Operand->AV}(hσ:∀x,eo I L (σ x) (ρ x))(l:List (Nat×Operand)) :
  aeE I L (l.map λx=>(x.1,σ x.2)) (l.map λx=>(x.1,ρ x.2)):=by
 refine⟨by simp,λj x y hx hy=>?_⟩;rw[List.getElem?_map] at hx hy;cases hj:l[j]? with
 |none=>simp[hj] at hx
 |some z=>simp[hj] at hx hy;subst hx hy;exact⟨rfl,hσ _⟩
theorem ue{σ:Operand->Value}{ρ:Operand->AV}(hσ:∀x,eo I L (σ x) (ρ x))(l:List Operand) :
  oQ I L (l.map σ) (l.map ρ):=by
 refine⟨by simp,λj x y hx hy=>?_⟩;rw[List.getElem?_map] at hx hy;cases hj:l[j]? with
 |none=>simp[hj] at hx
 |some z=>simp[hj] at hx hy;subst hx hy;exact hσ _
theorem aiy{σ:Operand->Value}{ρ:Operand->AV}(hσ:∀x,eo I L (σ x) (ρ x))(l:Option Operand):au5 I L (l.map σ) (l.map ρ):=by
 cases l with
 |none=>trivial
 |some x=>exact hσ x
def oJ(P:Program)(C:Ctx)(H:ay)(I:Mem)(L:bA)(w:World)(r:Result Next)(v:AV)(H':ay):Prop:=∃u w' I' L',(r = .ok (.value u) w'\/(r = .ok .skip w'/\u=undef))/\eo I' L' u v/\Fr C I L H w I' L' H' w'
theorem oJ.still{C:Ctx}{H:ay}{w:World}{v:AV}{u:Value}{r:Result Next}(hr:r = .ok (.value u) w)(h:eo I L u v):oJ P C H I L w r v H:=⟨u,w,I,L,.inl hr,h,Fr.refl _ _ _ _ _⟩
theorem oJ.jt{C:Ctx}{H:ay}{w:World}{v:AV}{s:Sem Value}{s':Sem Next}(hs:∀w,s'.run P w=(s.run P w).andThen λu w'=>.ok (.value u) w')(h:∃u,s.run P w = .ok u w/\eo I L u v) :
  oJ P C H I L w (s'.run P w) v H:=by
 obtain⟨u,hr,ha⟩:=h;exact .still (by rw[hs,hr];rfl) ha
theorem run_lift(s:Sem Value)(w:World):(do pure (.value (<-s)):Sem Next).run P w=(s.run P w).andThen λu w'=>.ok (.value u) w':=by simp
theorem am4{t1 t2 ty:TypeId}{a b v:AV}{pre:Prop}(h:acL P t1 t2 a b=some (pre,v))(hp:pre){C:Ctx}{H:ay}{env:Env}{tm:Array Value}{w:World}(hs:gV C env H I L tm w)
  {x y:Value} (hx:eo I L x a) (hy:eo I L y b) {s':Sem Next} (hs':∀w,s'.run P w=((Builtin.append_ #[t1,t2] ty #[x,y]).run P w).andThen λu w'=>.ok (.value u) w') :
  oJ P C H I L w (s'.run P w) v H:=by
 unfold acL at h;split at h
 ·rename_i e sz qT hn ht
  obtain⟨rfl,hu,hpos,aaE,i,z,hi,hz,hsz,hby,hzc⟩:=nB ht;obtain⟨ao,rfl⟩:=aeF hn hx;have nothing:∀ (bo:Option Addr) (c:Nat),(Builtin.append_ #[t1,t1] ty #[.slice ao 0 0,.slice bo 0 c]).run P w = .ok (.slice ao 0 0) w:=by intro bo c;cases ao<;>cases bo<;>simp[Builtin.append_,run_underlying hu,sizeOf,typeInfo,hi,Builtin.lenOf,Builtin.firstCells,loadCells,loadCellsFrom,storeCells]
  split at h
  ·rename_i es;simp only[cA,iz] at h;obtain⟨h1,h2⟩:=h;subst h1 h2;obtain⟨hb,hall⟩:=hp;cases hy.nJ with
   |aV bo n cap _ us sz' hlen au6 hl hv hone hm hnil hcap =>
    subst hlen;by_cases h0:es.length=0
    ·have he:es=[]:=List.length_eq_zero_iff.1 h0;subst he;refine⟨_,w,I,L,.inl (by rw[hs',List.length_nil,nothing];rfl),?_,Fr.refl _ _ _ _ _⟩;exact .p _ _ (.aV ao 0 0 [] [] sz rfl (by simp) (by simp) (by simp) (by simp) (.inl rfl) (λ_=>⟨rfl,rfl⟩) (Nat.le_refl _))
    ·have hfl:=bG hall;rcases hm with rfl|⟨bb,off,rfl,hI⟩
     ·exfalso;have hz0:es.flatten.length=0:=by rw[<-hl];rfl
      rw[hfl] at hz0;rcases Nat.mul_eq_zero.1 hz0 with h|h<;>omega
     ·obtain⟨cp,rest,hr,hcp,hrl,_⟩:=pJ (P:=P) (ty:=ty) hu hi hz hsz ao ⟨bb,off,none⟩ es.length cap us w (by rw[hl,hfl]) (λj v hjv=>by
       rw[Addr.add_mid];exact hs.mem _ _ _ (hI j v hjv)) (by omega) (by rw[hby];exact hb) (by
        have:=Nat.le_mul_of_pos_right es.length aaE;omega)
      refine⟨_,_,I.with w.heap.size (us++rest).toArray,L,.inl (by rw[hs',hr];rfl),.p _ _ ?_,(Fr.drew C I L H w).trans (Fr.imm C I L H w.drew _ e)⟩;exact VR.air (w:=w) hs.mem hall hl hv hone hcp
  ·rename_i b hne;split at h
   ·rename_i hnb;simp only[cA,iz] at h;obtain⟨_,h2⟩:=h;subst h2;obtain⟨bo,rfl⟩:=aeF hnb hy;exact .still (by rw[hs',nothing];rfl) (.p _ _ (.emp ao))
   ·cases h
 ·cases h
theorem aq1{o:Oper}{ρ:Operand->AV}{v:AV}{pre:Prop}(h:oa P o ρ=some (pre,v))(hp:pre){C:Ctx}{H:ay}{env:Env}{tm:Array Value}{w:World}
  (hs:gV C env H I L tm w) {σ:Operand->Value} (hσ:∀x,eo I L (σ x) (ρ x)):oJ P C H I L w ((execOp σ o).run P w) v H:=by
 unfold oa at h;unfold execOp;cases hop:o.op<;>simp only[hop] at h ⊢<;>try (cases h;done)
 case move x=>simp only[cA,iz] at h;obtain⟨_,h2⟩:=h;subst h2;exact .still rfl (hσ x)
 case assign x=>simp only[cA,iz] at h;obtain⟨_,h2⟩:=h;subst h2;exact .still rfl (hσ x)
 case pick c a b =>
  unfold ag5 at h;split at h
  ·rename_i hc;simp only[cA,iz] at h;obtain⟨_,h2⟩:=h;subst h2;have:=(hc ▸ hσ c).eC.1;exact .still (u:=σ a) (by simp[this,asBool]) (hσ a)
  ·rename_i hc;simp only[cA,iz] at h;obtain⟨_,h2⟩:=h;subst h2;have:=(hc ▸ hσ c).eC.1;exact .still (u:=σ b) (by simp[this,asBool]) (hσ b)
  ·cases h
 case load t a=>exact .jt (run_lift _) (ajW h (hσ a) hs.mem)
 case fieldAddr s a k=>exact .jt (run_lift _) (aiu h hp (hσ a) w)
 case indexAddr t x i=>exact .jt (run_lift _) (aiv h hp (hσ x) (hσ i) w)
 case index t x i=>exact .jt (run_lift _) (am2 h hp (hσ x) (hσ i) w)
 case extract x k=>exact .jt (run_lift _) (aeD h (hσ x) w)
 case binOp op t x y ty=>exact .jt (run_lift _) (am0 h hp (hσ x) (hσ y) w x y)
 case unOp op t x=>exact .jt (run_lift _) (aqZ h (hσ x) w)
 case convert s d x=>exact .jt (run_lift _) (ajV h (hσ x) w)
 case makeFunc fn f c =>
  simp only[cA,iz] at h;obtain⟨_,h2⟩:=h;subst h2;obtain⟨l1,r1⟩:=ue (I:=I) (L:=L) hσ f.toList;obtain⟨l2,r2⟩:=ue (I:=I) (L:=L) hσ c.toList;refine .jt (run_lift _) ⟨_,?_,aj0 l1 l2 r1 r2⟩;have e1:∀l:Array Operand,l.map σ=(l.toList.map σ).toArray:=λl=>by apply Array.ext';simp
  simp only[Instr.makeFunc,Sem.run_pure,e1]
 case build t parts=>obtain⟨r,hr,ha⟩:=aix h (wm hσ parts.toList) w;refine .jt (run_lift _) ⟨r,?_,ha⟩;rw[<-hr];congr 2;apply Array.ext';simp
 case buildSlice t n parts =>
  split at h
  ·rename_i e es hb;obtain⟨uo,sz,hr,_,_,hpos,hn,hall,hl,hv,hone⟩:=vG hb (wm hσ parts.toList) w;have hr':(Instr.buildSlice t n (parts.map λx=>(x.1,σ x.2))).run P w = .ok (.slice (some ⟨w.heap.size,0,none⟩) n n) (w.alloc (.cells uo.toArray e)):=by rw[<-hr];congr 2;apply Array.ext';simp
   refine⟨.slice (some ⟨w.heap.size,0,none⟩) n n,_,I.with w.heap.size uo.toArray,L,.inl (by rw[run_lift,hr'];rfl),?_,Fr.imm C I L H w _ e⟩;split at h
   ·simp only[cA,iz] at h;obtain⟨_,h2⟩:=h;subst h2;exact .p _ _ (.emp _)
   ·simp only[cA,iz] at h;obtain⟨_,h2⟩:=h;subst h2;have:=VR.air (w:=w) (us:=uo) (rest:=[]) hs.mem hall hl hv hone (cap:=n) (by omega);rw[List.append_nil] at this;rw[hn] at this;exact .p _ _ this
  ·cases h
 case slice t x lo hi mx=>exact .jt (run_lift _) (aiw h hp (hσ x) (aiy hσ lo) (aiy hσ hi) (aiy hσ mx) w)
 case nilCheck x =>
  have hx:=hσ x;generalize σ x=u at hx ⊢;generalize ρ x=a at h hx;unfold aq0 at h;split at h
  ·simp only[cA,iz] at h;obtain⟨_,h2⟩:=h;subst h2;cases hx with
   |ptr id b off hl=>exact .still rfl (.ptr _ _ _ hl)
  ·simp only[cA,iz] at h;obtain⟨_,h2⟩:=h;subst h2;cases hx with
   |p _ _ hx=>cases hx with
    |dU b base _ us o hl hv hone hm=>exact .still rfl (.p _ _ (.dU b base _ us _ hl hv hone hm))
  ·simp only[cA,iz] at h;obtain⟨_,h2⟩:=h;subst h2;cases hx with
   |p _ _ hx=>cases hx with
    |iw _ us vs _ _ hl hl' hv we=>exact .still rfl (.p _ _ (.iw _ us vs _ _ hl hl' hv we))
  ·simp only[cA,iz] at h;obtain⟨_,h2⟩:=h;subst h2;cases hx with
   |iw _ us vs _ _ hl hl' hv we=>exact .still rfl (.iw _ us vs _ _ hl hl' hv we)
  ·cases h
 case call c =>
  split at h
  ·rename_i b hc;obtain⟨hl,hr⟩:=ue (I:=I) (L:=L) hσ c.args.toList;unfold ud at h;split at h
   ·rename_i t a ht ha;have hat:c.argTypes = #[t]:=by rw[<-Array.toArray_toList (xs:=c.argTypes),ht]
    rw[ha] at hl hr;cases hca:c.args.toList with
    |nil=>simp[hca] at ha
    |cons x r =>
     have hr0:r=[]:=by simpa[hca] using congrArg List.length ha
     subst hr0;have hx:ρ x=a:=by simpa[hca] using ha
     have hargs:c.args = #[x]:=by rw[<-Array.toArray_toList (xs:=c.args),hca]
     have:=aa3 (ty:=o.type) h (hx ▸ hσ x) w;refine .jt (s:=Builtin.len_ #[t] o.type #[σ x]) (λw=>?_) this;simp[resolve,hc,invoke,builtin,hat,hargs]
   ·rename_i t1 t2 a b ht ha;have hat:c.argTypes = #[t1,t2]:=by rw[<-Array.toArray_toList (xs:=c.argTypes),ht]
    cases hca:c.args.toList with
    |nil=>simp[hca] at ha
    |cons x r =>
     cases r with
     |nil=>simp[hca] at ha
     |cons y r =>
      have hr0:r=[]:=by simpa[hca] using congrArg List.length ha
      subst hr0;have hxy:ρ x=a/\ρ y=b:=by simpa[hca] using ha
      have hargs:c.args = #[x,y]:=by rw[<-Array.toArray_toList (xs:=c.args),hca]
      refine am4 (ty:=o.type) h hp hs (hxy.1 ▸ hσ x) (hxy.2 ▸ hσ y) (λw=>?_);simp[resolve,hc,invoke,builtin,hat,hargs]
   ·rename_i k n r ha;cases hca:c.args.toList with
    |nil=>simp[hca] at ha
    |cons x xs =>
     have hxr:ρ x = .p (.val (.int k n))/\xs.map ρ=r:=by simpa[hca] using ha
     have hx:=hσ x;rw[hxr.1] at hx;obtain⟨q,h1,h2⟩:=aeG (P:=P) h (hxr.2 ▸ ue (I:=I) (L:=L) hσ xs) w;refine .jt (s:=(xs.map σ).foldlM Builtin.max2 (.int k n)) (λw=>?_) ⟨q,h1,h2⟩;simp[resolve,hc,invoke,builtin,Builtin.max_,hca,hx.eC.1]
   ·rename_i k n r ha;cases hca:c.args.toList with
    |nil=>simp[hca] at ha
    |cons x xs =>
     have hxr:ρ x = .p (.val (.int k n))/\xs.map ρ=r:=by simpa[hca] using ha
     have hx:=hσ x;rw[hxr.1] at hx;obtain⟨q,h1,h2⟩:=aeH (P:=P) h (hxr.2 ▸ ue (I:=I) (L:=L) hσ xs) w;refine .jt (s:=(xs.map σ).foldlM Builtin.min2 (.int k n)) (λw=>?_) ⟨q,h1,h2⟩;simp[resolve,hc,invoke,builtin,Builtin.min_,hca,hx.eC.1]
   ·cases h
  ·cases h
end Go.cr
namespace Go.cr
open Go.RowKit
variable{P:Program}{I:Mem}{L:bA}
def snap(w:World):Mem:=λb o=>w.cell? ⟨b,o,none⟩
theorem lR{w:World}(h:I.inW w):I.sub (snap w):=λb o u hu=>h b o u hu
theorem aeI(w:World):(snap w).inW w:=λ_ _ _ h=>h
def rowOf(H:ay)(id bf:Nat):Option (List (List PV)):=match H id with
 |some (.row v _ _ es)=>if v=bf then some es else none
 |some (.shut v es)=>if v=bf then some es else none
 |some (.tail v _ _ es)=>if v=bf then some es else none
 |_=>none
theorem yI{C:Ctx}{H:ay}{env:Env}{tm:Array Value}{w:World}(hs:gV C env H I L tm w){id bf:Nat}{es:List (List PV)}(h:rowOf H id bf=some es) :
  ∃bH sz,L id=some (.row bf bH sz)/\VR (snap w) bH (.aV es)/\(∀x∈es,x.length=sz)/\(es≠[]->∃g o n cap,bH = .slice (some ⟨g,o,none⟩) n cap):=by
 unfold rowOf at h;split at h
 ·rename_i v e sz es' hH;split at h
  ·rename_i hv;simp at h;subst h hv;obtain⟨bH,us,h1,h2,h3,h4,h5,h6,h7⟩:=hs.chunk id _ hH;refine⟨bH,sz,h1,?_,h4,?_⟩
   ·have hfl:=bG h4;have hlen:us.length=es'.flatten.length:=by rw[hfl];exact h2.1
    rcases h2.2 with ⟨rfl,hn⟩|⟨g,cap,cur,rfl,hb,hg,hnc,hcm,hcs,lB⟩
    ·have he:es'=[]:=List.length_eq_zero_iff.1 hn;subst he;exact .aV none 0 0 [] us sz rfl (by simp) hlen (λj u c hu hc=>(h5 j u c hu hc).mono (lR hs.mem)) h6 (.inl (List.length_eq_zero_iff.1 (by simpa using hlen))) (λ_=>⟨rfl,rfl⟩) (Nat.le_refl _)
    ·refine .aV _ _ _ es' us sz rfl h4 hlen (λj u c hu hc=>(h5 j u c hu hc).mono (lR hs.mem)) h6 (.inr ⟨g,0,rfl,λj u hu=>?_⟩) (by simp) hnc;rw[Nat.zero_add];show w.cell? ⟨g,j,none⟩=some u;rw[fV hg];rw[<-lB,List.getElem?_take] at hu;split at hu
     ·simpa using hu
     ·cases hu
   ·intro hne;rcases h2.2 with ⟨rfl,hn⟩|⟨g,cap,cur,rfl,_⟩
    ·exact absurd (List.length_eq_zero_iff.1 hn) hne
    ·exact⟨g,0,_,cap,rfl⟩
  ·cases h
 ·rename_i v es' hH;split at h
  ·rename_i hv;simp at h;subst h hv;obtain⟨bH,sz,h1,h2,h3,h4⟩:=hs.chunk id _ hH;exact⟨bH,sz,h1,h2.mono (lR hs.mem),h3,h4⟩
  ·cases h
 ·rename_i v e sz es' hH;split at h
  ·rename_i hv;simp at h;subst h hv;obtain⟨g,o,cap,arr,h1,h2,h3,h4,h5,h6,h7,h8⟩:=hs.chunk id _ hH;exact⟨_,sz,h1,h7.mono (lR hs.mem),h6,λ_=>⟨g,o,_,cap,rfl⟩⟩
  ·cases h
 ·cases h
theorem eo.live{C:Ctx}{H:ay}{env:Env}{tm:Array Value}{w:World}(hs:gV C env H I L tm w){id bf:Nat}{es:List (List PV)}(h:rowOf H id bf=some es){u:Value}
  (hu:eo I L u (.row id bf)):VR (snap w) u (.aV es):=by
 obtain⟨bH,sz,h1,h2,h3,_⟩:=yI hs h;cases hu with
 |row _ _ _ v eV sz' hl hle hh hone=>rw[h1] at hl;simp only[cA,Loc.row.injEq] at hl;obtain⟨e1,e2,e3⟩:=hl;subst e1 e2 e3;rw[hh rfl];exact h2
def mQ(P:Program)(o:Oper)(ρ:Operand->AV)(H:ay):Option (Prop×AV):=match o.op with
 | .load t a=>match ρ a with
  | .ptr id off=>match H id with
   |some (.box cs)=>match rY P t cs off with|some v=>some (True,v)|none=>none
   |_=>none
  | .jm id bf i off=>match rowOf H id bf with
   |some es=>match rZ P t (es.getD i []) off with|some x=>some (i<es.length/\0<(es.getD i []).length,.p x)|none=>none
   |none=>none
  |_=>none
 | .fieldAddr s a k=>match ρ a,bS P s k with
  | .jm id bf i off,some (o,n)=>match rowOf H id bf with
   |some _=>some (n≠0,.jm id bf i (off+o))
   |none=>none
  |_,_=>none
 | .indexAddr t x i=>match ρ x,ρ i with
  | .row id bf,.p (.val (.int _ n))=>match rowOf H id bf,cM P t with
   |some es,some e=>match bu P e with
    |some sz=>some ((0<=n/\n<es.length)/\(es.getD n.toNat []).length=sz/\0<sz,.jm id bf n.toNat 0)
    |none=>none
   |_,_=>none
  |_,_=>none
 | .call c=>match c.callee,c.argTypes.toList,c.args.toList.map ρ with
  | .builtin .len,[t],[.row id bf]=>match rowOf H id bf with
   |some es=>qL P t (.p (.aV es))
   |none=>none
  |_,_,_=>none
 |_=>none
theorem ag8{w:World}{t:TypeId}{b base off:Nat}{us:List Value}{cs:List PV}{x:PV}(h:rZ P t cs off=some x)
  (hl:us.length=cs.length) (hv:∀ (j:Nat) u c,us[j]? = some u->cs[j]? = some c->VR I u c) (h1:∀u∈us,u.oneCell'=true)
  (hm:∀ (j:Nat) u,us[j]? = some u->w.cell? ⟨b,base+j,none⟩=some u) :
  ∃u,(Instr.loadAt t (.pointer (some ⟨b,base+off,none⟩))).run P w = .ok u w/\VR I u x:=by
 obtain⟨u,hr,hu⟩:=ag4 (I:=I) h hl hv h1 hm;exact⟨u,by simp[Instr.loadAt,Instr.sureAddr,hr],hu⟩
theorem aq2{C:Ctx}{H:ay}{env:Env}{tm:Array Value}{w:World}(hs:gV C env H I L tm w){id bf:Nat}{es:List (List PV)}(h:rowOf H id bf=some es)
  {i:Nat} (hi:i<es.length) (hpos:0<(es.getD i []).length) {u:Value} {off:Nat} (hu:eo I L u (.jm id bf i off)):∃b base,u = .pointer (some ⟨b,base+off,none⟩)/\∃us:List Value,us.length=(es.getD i []).length /\
   (∀ (j:Nat) u c,us[j]? = some u->(es.getD i [])[j]? = some c->VR I u c)/\(∀u∈us,u.oneCell'=true)/\∀ (j:Nat) u,us[j]? = some u->w.cell? ⟨b,base+j,none⟩=some u:=by
 have h0:=h;unfold rowOf at h;split at h
 ·rename_i v e sz es' hH;split at h
  ·rename_i hv;simp at h;subst h hv;obtain⟨bH,us,h1,h2,h3,h4,h5,h6,h7⟩:=hs.chunk id _ hH;cases hu with
   |jm _ _ _ v _ _ eV sz' hl hle hh hone =>
    rw[h1] at hl;simp only[cA,Loc.row.injEq] at hl;obtain⟨e1,e2,e3⟩:=hl;subst e1 e2 e3;obtain⟨g,o,n,cap,e1,e2⟩:=hh rfl;subst e1 e2;rcases h2.2 with ⟨am5,_⟩|⟨g',_,_,hg',_⟩
    ·cases am5
    simp only[Value.slice.injEq,cA,Addr.mk.injEq] at hg';obtain⟨⟨_,rfl,_⟩,_,_⟩:=hg';have hm:(es'.getD i []).length=sz:=h4 _ (by
     have:es'.getD i []=es'[i]:=by simp[hi]
     rw[this];exact nI _)
    have hfl:=bG h4;have hmul:(i+1) * sz<=es'.length * sz:=Nat.mul_le_mul_right _ hi;have au3:(i+1) * sz=i * sz+sz:=by rw[Nat.add_mul];omega
    have hul:=h2.1;refine⟨g,i * sz,by rw[Nat.zero_add],(us.drop (i * sz)).take sz,by rw[List.length_take,List.length_drop,hm];omega,?_,?_,?_⟩
    ·intro j u c hu hc;rw[List.getElem?_take] at hu;split at hu
     ·rename_i hj;rw[List.getElem?_drop] at hu;exact h5 _ u c hu (by rw[gW h4 i j hi hj];exact hc)
     ·cases hu
    ·intro u hu;exact h6 u (List.mem_of_mem_drop (List.mem_of_mem_take hu))
    ·intro j u hu;rw[List.getElem?_take] at hu;split at hu
     ·rw[List.getElem?_drop] at hu;have:=h2.cells (g:=g) rfl _ u hu;rwa [Addr.add_mid,Nat.zero_add] at this
     ·cases hu
  ·cases h
 ·rename_i v es' hH;split at h
  ·rename_i hv;simp at h;subst h hv;obtain⟨bH,sz,h1,h2,h3,h4⟩:=hs.chunk id _ hH;cases hu with
   |jm _ _ _ v _ _ eV sz' hl hle hh hone =>
    rw[h1] at hl;simp only[cA,Loc.row.injEq] at hl;obtain⟨e1,e2,e3⟩:=hl;subst e1 e2 e3;obtain⟨g,o,n,cap,e1,e2⟩:=hh rfl;subst e1 e2;obtain⟨b,off',len,cap',sz',g1,g2,g3,us,g4,g5,g6,g7⟩:=h2.elem hi hpos;simp only[Value.slice.injEq,cA,Addr.mk.injEq] at g1;obtain⟨⟨r1,r2,_⟩,_,_⟩:=g1;subst r1 r2;have hm:(es'.getD i []).length=sz:=h3 _ (by
     have:es'.getD i []=es'[i]:=by simp[hi]
     rw[this];exact nI _)
    have:sz'=sz:=by omega
    subst this;exact⟨g,o+i * sz',by rw[Nat.add_assoc],us,by omega,g5,g6,λj u hu=>hs.mem _ _ _ (g7 j u hu)⟩
  ·cases h
 ·rename_i v e sz es' hH;split at h
  ·rename_i hv;simp at h;subst h hv;obtain⟨g0,o0,aGF,arr,h1,k2,k3,k4,k5,h3,h2,k8⟩:=hs.chunk id _ hH;cases hu with
   |jm _ _ _ v _ _ eV sz' hl hle hh hone =>
    rw[h1] at hl;simp only[cA,Loc.row.injEq] at hl;obtain⟨e1,e2,e3⟩:=hl;subst e1 e2 e3;obtain⟨g,o,n,cap,e1,e2⟩:=hh rfl;simp only[Value.slice.injEq,cA,Addr.mk.injEq] at e1;obtain⟨⟨e3,e4,_⟩,e5,e6⟩:=e1;subst e2 e3 e4 e5 e6;obtain⟨b,off',len,cap',sz',g1,g2,g3,us,g4,g5,g6,g7⟩:=h2.elem hi hpos;simp only[Value.slice.injEq,cA,Addr.mk.injEq] at g1;obtain⟨⟨r1,r2,_⟩,_,_⟩:=g1;subst r1 r2;have hm:(es'.getD i []).length=sz:=h3 _ (by
     have:es'.getD i []=es'[i]:=by simp[hi]
     rw[this];exact nI _)
    have:sz'=sz:=by omega
    subst this;exact⟨g0,o0+i * sz',by rw[Nat.add_assoc],us,by omega,g5,g6,λj u hu=>hs.mem _ _ _ (g7 j u hu)⟩
  ·cases h
 ·cases h
theorem am6{o:Oper}{ρ:Operand->AV}{v:AV}{pre:Prop}{H:ay}(h:mQ P o ρ H=some (pre,v))(hp:pre){C:Ctx}{env:Env}{tm:Array Value}{w:World}
  (hs:gV C env H I L tm w) {σ:Operand->Value} (hσ:∀x,eo I L (σ x) (ρ x)):oJ P C H I L w ((execOp σ o).run P w) v H:=by
 unfold mQ at h;unfold execOp;split at h
 ·rename_i t a hop;simp only[hop];have ha:=hσ a;generalize σ a=u at ha ⊢;generalize ρ a=av at h ha;split at h
  ·rename_i id off;split at h
   ·rename_i cs hH;split at h
    ·rename_i r hr;simp only[cA,iz] at h;obtain⟨_,h2⟩:=h;subst h2;obtain⟨b,arr,e,g1,g2,g3,g4,g5,g6⟩:=hs.chunk id _ hH;cases ha with
     |ptr _ b' _ hl =>
      rw[g1] at hl;simp only[cA,Loc.box.injEq] at hl;subst hl;obtain⟨u,hru,hua⟩:=aad (I:=I) (L:=L) (w:=w) (b:=b) (base:=0) (us:=arr.toList) hr (by simpa using g3) (λj u c hu hc=>g4 j u c (by simpa using hu) hc)
       (λu hu=>by
        obtain⟨j,hj⟩:=List.mem_iff_getElem?.1 hu;exact g5 j u (by simpa using hj)) (λj u hu=>by rw[Nat.zero_add,fV g2];simpa using hu)
      rw[Nat.zero_add] at hru;exact .jt (run_lift _) ⟨u,by simp[Instr.loadAt,Instr.sureAddr,hru],hua⟩
    ·cases h
   ·cases h
  ·rename_i id bf i off;split at h
   ·rename_i es hrow;split at h
    ·rename_i x hr;simp only[cA,iz] at h;obtain⟨h1,h2⟩:=h;subst h1 h2;obtain⟨b,base,rfl,us,q1,q2,q3,q4⟩:=aq2 hs hrow hp.1 hp.2 ha;obtain⟨u,hru,hua⟩:=ag8 (P:=P) hr q1 q2 q3 q4;exact .jt (run_lift _) ⟨u,hru,.p _ _ hua⟩
    ·cases h
   ·cases h
  ·cases h
 ·rename_i s a k hop;simp only[hop];have ha:=hσ a;generalize σ a=u at ha ⊢;generalize ρ a=av at h ha;split at h
  ·rename_i id bf i off of n hf;split at h
   ·rename_i es hrow;simp only[cA,iz] at h;obtain⟨h1,h2⟩:=h;subst h1 h2;obtain⟨bH,sz,l1,_⟩:=yI hs hrow;cases ha with
    |jm _ _ _ v _ _ eV sz' hl hle hh hone=>have l2:=hl;rw[l1] at hl;simp only[cA,Loc.row.injEq] at hl;obtain⟨e1,e2,e3⟩:=hl;subst e1 e2 e3;obtain⟨g,o,n',cap,e1,e2⟩:=hh rfl;subst e1 e2;refine .jt (run_lift _) ⟨_,ve hf hp w _ _,.jm _ _ _ _ _ _ _ _ l1 (Nat.le_refl _) (λ_=>⟨g,o,n',cap,rfl,by rw[Nat.add_assoc,Nat.add_assoc]⟩) rfl⟩
   ·cases h
  ·cases h
 ·rename_i t x i hop;simp only[hop];have hx:=hσ x;have hi:=hσ i;generalize σ x=u at hx ⊢;generalize ρ x=av at h hx;generalize σ i=ui at hi ⊢;generalize ρ i=ai at h hi;split at h
  ·rename_i id bf k n;split at h
   ·rename_i es e hrow he;split at h
    ·rename_i sz hsz;simp only[cA,iz] at h;obtain⟨h1,h2⟩:=h;subst h1 h2;obtain⟨⟨h0,hlt⟩,hlen,hpos⟩:=hp;obtain⟨rfl,_⟩:=hi.eC;obtain⟨m,rfl⟩:=Int.eq_ofNat_of_zero_le h0;simp only[Int.toNat_natCast] at hlen ⊢;have hm:m<es.length:=by omega
     obtain⟨bH,sz',l1,l2,l3,l4⟩:=yI hs hrow;have hne:es≠[]:=λe=>by subst e;simp at hm
     obtain⟨g,o,n',cap,rfl⟩:=l4 hne;obtain⟨_,_,e1,_⟩:=l2.ap3;simp only[Value.slice.injEq] at e1;have hmm:(es.getD m []).length=sz':=l3 _ (by
      have:es.getD m []=es[m]:=by simp[hm]
      rw[this];exact nI _)
     have e2:sz'=sz:=by omega
     subst e2;cases hx with
     |row _ _ _ v eV sz'' hl hle hh hone =>
      rw[l1] at hl;simp only[cA,Loc.row.injEq] at hl;obtain⟨r1,r2,r3⟩:=hl;subst r1 r2 r3;rw[hh rfl];have hm':m<n':=by rw[e1.2.1];exact hm
      refine .jt (run_lift _) ⟨.pointer (some ⟨g,o+m * sz',none⟩),?_,.jm _ _ _ _ _ _ _ _ l1 (Nat.le_refl _) (λ_=>⟨g,o,n',cap,rfl,by simp⟩) rfl⟩;simp[Instr.indexAt,asIntOf,run_underlying (fB he),dI hsz,Addr.add_mid,hm']
    ·cases h
   ·cases h
  ·cases h
 ·rename_i c hop;simp only[hop];split at h
  ·rename_i t id bf hc ht ha;split at h
   ·rename_i es hrow;have hat:c.argTypes = #[t]:=by rw[<-Array.toArray_toList (xs:=c.argTypes),ht]
    cases hca:c.args.toList with
    |nil=>simp[hca] at ha
    |cons x r =>
     have hr0:r=[]:=by simpa[hca] using congrArg List.length ha
     subst hr0;have hx:ρ x = .row id bf:=by simpa[hca] using ha
     have hargs:c.args = #[x]:=by rw[<-Array.toArray_toList (xs:=c.args),hca]
     have au8:=eo.live hs hrow (hx ▸ hσ x);obtain⟨u,hru,hua⟩:=aa3 (ty:=o.type) (I:=snap w) (L:=L) h (.p _ _ au8) w;have hval:∃n,v = .p (.val (.int .i64 n)):=by
      unfold qL at h;simp only at h;split at h
      ·simp only[cA,iz] at h;exact⟨_,h.2.symm⟩
      ·cases h
     obtain⟨n,rfl⟩:=hval;have:=hua.eC.1;subst this;refine .jt (s:=Builtin.len_ #[t] o.type #[σ x]) (λw=>?_) ⟨_,hru,.p _ _ (.val _ rfl)⟩;simp[resolve,hc,invoke,builtin,hat,hargs]
   ·cases h
  ·cases h
 ·cases h
theorem rW.snap{w:World}{B:Nat}{u:Value}{e:TypeId}{sz:Nat}{es:List (List PV)}{us:List Value}(h:rW w B I u e sz es us)(hI:I.inW w):VR (snap w) u (.aV es):=by
 have hfl:=bG h.all;have hlen:us.length=es.flatten.length:=by rw[hfl];exact h.own.1
 rcases h.own.2 with ⟨rfl,hn⟩|⟨g,cap,cur,rfl,hb,hg,hnc,hcm,hcs,lB⟩
 ·have he:es=[]:=List.length_eq_zero_iff.1 hn;subst he;exact .aV none 0 0 [] us sz rfl (by simp) hlen (λj u c hu hc=>(h.val j u c hu hc).mono (lR hI)) h.one (.inl (List.length_eq_zero_iff.1 (by simpa using hlen))) (λ_=>⟨rfl,rfl⟩) (Nat.le_refl _)
 ·refine .aV _ _ _ es us sz rfl h.all hlen (λj u c hu hc=>(h.val j u c hu hc).mono (lR hI)) h.one (.inr ⟨g,0,rfl,λj u hu=>?_⟩) (by simp) hnc;rw[Nat.zero_add];show w.cell? ⟨g,j,none⟩=some u;rw[fV hg];rw[<-lB,List.getElem?_take] at hu;split at hu
  ·simpa using hu
  ·cases hu
theorem rW.vrJ{w:World}{B:Nat}{u:Value}{e:TypeId}{sz:Nat}{es:List (List PV)}{us:List Value}{J:Mem}(h:rW w B I u e sz es us)(hI:I.sub J)
  (hJ:∀b,u.ownBlock=some b->∀o v,w.cell? ⟨b,o,none⟩=some v->J b o=some v):VR J u (.aV es):=by
 have hfl:=bG h.all;have hlen:us.length=es.flatten.length:=by rw[hfl];exact h.own.1
 rcases h.own.2 with ⟨rfl,hn⟩|⟨g,cap,cur,rfl,hb,hg,hnc,hcm,hcs,lB⟩
 ·have he:es=[]:=List.length_eq_zero_iff.1 hn;subst he;exact .aV none 0 0 [] us sz rfl (by simp) hlen (λj u c hu hc=>(h.val j u c hu hc).mono hI) h.one (.inl (List.length_eq_zero_iff.1 (by simpa using hlen))) (λ_=>⟨rfl,rfl⟩) (Nat.le_refl _)
 ·refine .aV _ _ _ es us sz rfl h.all hlen (λj u c hu hc=>(h.val j u c hu hc).mono hI) h.one (.inr ⟨g,0,rfl,λj u hu=>?_⟩) (by simp) hnc;rw[Nat.zero_add];refine hJ g rfl j u ?_;rw[fV hg];rw[<-lB,List.getElem?_take] at hu;split at hu
  ·simpa using hu
  ·cases hu
theorem ap5{w:World}{B:Nat}{bH:Value}{e e':TypeId}{sz k sz':Nat}{es:List (List PV)}{us:List Value}{di:Nat->Value}{J:Mem}(h:rW w B I bH e sz (fA k di es) us)(hall:∀x∈es,x.length=sz)
  (hin:auY w B I k e' sz' di es) (sg:I.sub J) (hJ:∀b,(bH.ownBlock=some b\/∃i,i<es.length/\(di i).ownBlock=some b)->∀o v,w.cell? ⟨b,o,none⟩=some v->J b o=some v):VR J bH (.aV es):=by
 have h1:=h.vrJ sg λb hb=>hJ b (.inl hb)
 cases h1 with
 |aV ao n cap _ us2 sz2 hn hsz hl hv hone hm hnil hcap =>
  rw[fH] at hn;have hfl:=bG hall;have hrl:(fA k di es).flatten.length=es.length * sz:=by rw[bG h.all,fH]
  refine .aV ao n cap es us2 sz hn hall (by rw[hl,hrl,hfl]) (λj u c hu hc=>?_) hone hm hnil hcap;have hjl:j<es.length * sz:=by rw[<-hfl];exact (List.getElem?_eq_some_iff.1 hc).1
  have hpos:=h.pos;have hi:j / sz<es.length:=(Nat.div_lt_iff_lt_mul hpos).2 hjl;have hmm:j % sz<sz:=Nat.mod_lt _ hpos;have hj:j=j / sz * sz+j % sz:=(Nat.div_add_mod' j sz).symm;generalize j / sz=i at *;generalize j % sz=m at *;subst hj;rw[gW hall i m hi hmm] at hc;have wX:=gW h.all i m (by rw[fH];exact hi) hmm;have hg:(fA k di es).getD i []=(es.getD i []).set k (.val (di i)):=by rw[List.getD_eq_getElem?_getD,tM];simp[hi]
  rw[hg] at wX;by_cases hk:k=m
  ·subst hk;have hx:es[i]? = some (es.getD i []):=by simp[hi]
   obtain⟨l,us',q1,q2,q3⟩:=hin i _ hx;rw[q1] at hc;simp only[cA] at hc;subst hc;have hxl:(es.getD i []).length=sz:=hall _ (List.mem_of_getElem? hx);rw[List.getElem?_set,if_pos rfl,if_pos (by rw[hxl];exact hmm)] at wX;have:=hv _ u _ hu wX;cases this;exact q2.vrJ sg λb hb=>hJ b (.inr ⟨i,hi,hb⟩)
  ·rw[List.getElem?_set,if_neg hk,hc] at wX;exact hv _ u c hu wX
theorem rW.elem{w:World}{B:Nat}{u:Value}{e:TypeId}{sz:Nat}{es:List (List PV)}{us:List Value}(h:rW w B I u e sz es us){i:Nat}(hi:i<es.length):∃g cap,u = .slice (some ⟨g,0,none⟩) es.length cap/\∃vs:List Value,vs.length=sz /\
  (∀ (j:Nat) u c,vs[j]? = some u->(es.getD i [])[j]? = some c->VR I u c)/\(∀u∈vs,u.oneCell'=true)/\∀ (j:Nat) u,vs[j]? = some u->w.cell? ⟨g,i * sz+j,none⟩=some u:=by
 rcases h.own.2 with ⟨_,hn⟩|⟨g,cap,cur,rfl,hb,hg,hnc,hcm,hcs,lB⟩
 ·omega
 have hmul:(i+1) * sz<=es.length * sz:=Nat.mul_le_mul_right _ hi;have au3:(i+1) * sz=i * sz+sz:=by rw[Nat.add_mul];omega
 have hul:=h.own.1;refine⟨g,cap,rfl,(us.drop (i * sz)).take sz,by rw[List.length_take,List.length_drop];omega,?_,?_,?_⟩
 ·intro j u c hu hc;rw[List.getElem?_take] at hu;split at hu
  ·rename_i hj;rw[List.getElem?_drop] at hu;exact h.val _ u c hu (by rw[gW h.all i j hi hj];exact hc)
  ·cases hu
 ·intro u hu;exact h.one u (List.mem_of_mem_drop (List.mem_of_mem_take hu))
 ·intro j u hu;rw[List.getElem?_take] at hu;split at hu
  ·rw[List.getElem?_drop] at hu;have:=h.own.cells (g:=g) rfl _ u hu;rwa [Addr.add_mid,Nat.zero_add] at this
  ·cases hu
def cI(H:ay)(id bf:Nat):Option (Nat×List (List PV)):=match H id with
 |some (.deep v _ _ k _ _ es)=>if v=bf then some (k,es) else none
 |_=>none
def nh(r:Option (Nat×List (List PV)))(i:Nat):Option (List (List PV)):=match r with
 |some (k,es)=>(match (es.getD i [])[k]? with
  |some (.aV l)=>some l
  |_=>none)
 |none=>none
def aa5(id bf i k:Nat)(x:List PV):List AV:=(x.map AV.p).set k (.kD id bf i)
theorem jX{C:Ctx}{H:ay}{env:Env}{tm:Array Value}{w:World}(hs:gV C env H I L tm w){id bf k:Nat}{es:List (List PV)}(h:cI H id bf=some (k,es)) :
  ∃bH sz sz' e e' us di,L id=some (.deep bf bH sz sz' di es.length)/\rW w C.B I bH e sz (fA k di es) us/\bH.oneCell'=true/\k<sz/\(∀x∈es,x.length=sz)/\auY w C.B I k e' sz' di es:=by
 unfold cI at h;split at h
 ·rename_i v e sz k' e' sz' es' hH;split at h
  ·rename_i hv;simp only[cA,iz] at h;obtain⟨rfl,rfl⟩:=h;subst hv;obtain⟨bH,us,di,h1,h2,h3,h4,h5,h6,h7⟩:=hs.chunk id _ hH;exact⟨bH,sz,sz',e,e',us,di,h1,h2,h3,h4,h5,h6⟩
  ·cases h
 ·cases h
theorem wY{k:Nat}{es:List (List PV)}{i:Nat}{l:List (List PV)}(h:nh (some (k,es)) i=some l):i<es.length/\∃x,es[i]? = some x/\x[k]? = some (.aV l):=by
 simp only[nh] at h;split at h
 ·rename_i l' hl;simp only[cA] at h;subst h;have hi:i<es.length:=by
   rcases Nat.lt_or_ge i es.length with h|h
   ·exact h
   ·rw[List.getD_eq_getElem?_getD,List.getElem?_eq_none h] at hl;simp at hl
  exact⟨hi,es[i],by simp[hi],by simpa[hi] using hl⟩
 ·cases h
def wZ(P:Program)(o:Oper)(ρ:Operand->AV)(H:ay):Option (Prop×AV):=match o.op with
 | .load t a=>match ρ a with
  | .kC id bf i off=>match cI H id bf with
   |some (k,es)=>match rY P t (aa5 id bf i k (es.getD i [])) off with|some v=>some (i<es.length,v)|none=>none
   |none=>none
  | .ng id bf i j off=>match nh (cI H id bf) i with
   |some l=>match rZ P t (l.getD j []) off with|some x=>some (j<l.length,.p x)|none=>none
   |none=>none
  |_=>none
 | .fieldAddr s a k=>match ρ a,bS P s k with
  | .kC id bf i off,some (o,n)=>match cI H id bf with
   |some _=>some (n≠0,.kC id bf i (off+o))
   |none=>none
  |_,_=>none
 | .indexAddr t x i=>match ρ x,ρ i with
  | .eG id bf,.p (.val (.int _ n))=>match cI H id bf,cM P t with
   |some (_,es),some e=>match bu P e with
    |some sz=>some ((0<=n/\n<es.length)/\(es.getD n.toNat []).length=sz,.kC id bf n.toNat 0)
    |none=>none
   |_,_=>none
  | .kD id bf i,.p (.val (.int _ n))=>match nh (cI H id bf) i,cM P t with
   |some l,some e=>match bu P e with
    |some sz=>some ((0<=n/\n<l.length)/\(l.getD n.toNat []).length=sz,.ng id bf i n.toNat 0)
    |none=>none
   |_,_=>none
  |_,_=>none
 | .call c=>match c.callee,c.argTypes.toList,c.args.toList.map ρ with
  | .builtin .len,[t],[.eG id bf]=>match cI H id bf with
   |some (_,es)=>qL P t (.p (.aV es))
   |none=>none
  | .builtin .len,[t],[.kD id bf i]=>match nh (cI H id bf) i with
   |some l=>qL P t (.p (.aV l))
   |none=>none
  |_,_,_=>none
 |_=>none
def acM(H:ay)(id bf:Nat):Option (Nat×List (List PV)):=match H id with
 |some (.row v _ sz es)=>if v=bf then some (sz,es) else none
 |_=>none
def yp(P:Program)(o:Oper)(ρ:Operand->AV)(H:ay):Option (Prop×AV):=match o.op with
 | .indexAddr t x i=>match ρ x,ρ i with
  | .iA id bf off m _ _,.p (.val (.int _ n))=>match acM H id bf,cM P t with
   |some (sz,es),some e=>match bu P e with
    |some sz'=>some ((0<=n/\n<m/\off+m<=es.length)/\sz'=sz,.jm id bf (off+n.toNat) 0)
    |none=>none
   |_,_=>none
  |_,_=>none
 |_=>none
def rP(P:Program)(o:Oper)(ρ:Operand->AV)(H:ay):Option (Prop×AV):=match mQ P o ρ H with
 |some r=>some r
 |none=>match wZ P o ρ H with
  |some r=>some r
  |none=>yp P o ρ H
theorem am7{o:Oper}{c:Call}{ρ:Operand->AV}{v:AV}{pre:Prop}{t:TypeId}{a:AV}{es:List (List PV)}(hop:o.op = .call c)(hc:c.callee = .builtin .len)(ht:c.argTypes.toList=[t])(ha:c.args.toList.map ρ=[a])
  (hl:∀u,eo I L u a->∃J,VR J u (.aV es)) (h:qL P t (.p (.aV es))=some (pre,v)) (hp:pre) {C:Ctx} {H:ay} {w:World} {σ:Operand->Value} (hσ:∀x,eo I L (σ x) (ρ x)):oJ P C H I L w ((execOp σ o).run P w) v H:=by
 unfold execOp;simp only[hop];have hat:c.argTypes = #[t]:=by rw[<-Array.toArray_toList (xs:=c.argTypes),ht]
 cases hca:c.args.toList with
 |nil=>simp[hca] at ha
 |cons x r =>
  have hr0:r=[]:=by simpa[hca] using congrArg List.length ha
  subst hr0;have hx:ρ x=a:=by simpa[hca] using ha
  have hargs:c.args = #[x]:=by rw[<-Array.toArray_toList (xs:=c.args),hca]
  obtain⟨J,au8⟩:=hl _ (hx ▸ hσ x);obtain⟨u,hru,hua⟩:=aa3 (ty:=o.type) (I:=J) (L:=L) h (.p _ _ au8) w;have hval:∃n,v = .p (.val (.int .i64 n)):=by
   unfold qL at h;simp only at h;split at h
   ·simp only[cA,iz] at h;exact⟨_,h.2.symm⟩
   ·cases h
  obtain⟨n,rfl⟩:=hval;have:=hua.eC.1;subst this;refine .jt (s:=Builtin.len_ #[t] o.type #[σ x]) (λw=>?_) ⟨_,hru,.p _ _ (.val _ rfl)⟩;simp[resolve,hc,invoke,builtin,hat,hargs]
theorem aq3{o:Oper}{ρ:Operand->AV}{v:AV}{pre:Prop}{H:ay}(h:wZ P o ρ H=some (pre,v))(hp:pre){C:Ctx}{env:Env}{tm:Array Value}{w:World}
  (hs:gV C env H I L tm w) {σ:Operand->Value} (hσ:∀x,eo I L (σ x) (ρ x)):oJ P C H I L w ((execOp σ o).run P w) v H:=by
 unfold wZ at h;unfold execOp;split at h
 ·rename_i t a hop;simp only[hop];have ha:=hσ a;generalize σ a=u at ha ⊢;generalize ρ a=av at h ha;split at h
  ·rename_i id bf i off;split at h
   ·rename_i k es hd;split at h
    ·rename_i r hr;simp only[cA,iz] at h;obtain⟨h1,h2⟩:=h;subst h1 h2;obtain⟨bH,sz,sz',e,e',us,di,q1,q2,q3,q4,q5,q6⟩:=jX hs hd;have hi:i<(fA k di es).length:=by rw[fH];exact hp
     obtain⟨g,cap,rfl,vs,r1,r2,r3,r4⟩:=q2.elem hi;have wX:(fA k di es).getD i []=(es.getD i []).set k (.val (di i)):=by rw[List.getD_eq_getElem?_getD,tM];simp[hp]
     have hxl:(es.getD i []).length=sz:=q5 _ (by
      have:es.getD i []=es[i]:=by simp[hp]
      rw[this];exact nI _)
     cases ha with
     |kC _ _ _ v _ _ eV _ _ kY n hl hle hh hone =>
      rw[q1] at hl;simp only[cA,Loc.deep.injEq] at hl;obtain⟨e1,e2,e3,e4,e5,e6⟩:=hl;subst e1 e2 e3 e4 e5 e6;obtain⟨g',o',m,cap',e1,rfl⟩:=hh rfl;simp only[Value.slice.injEq,cA,Addr.mk.injEq] at e1;obtain⟨⟨e1,e2,_⟩,_⟩:=e1;subst e1 e2;obtain⟨u,hru,hua⟩:=aad (I:=I) (L:=L) (w:=w) (b:=g) (base:=i * sz) (us:=vs) hr (by rw[r1,aa5,List.length_set,List.length_map,hxl]) (λj u c hu hc=>by
       unfold aa5 at hc;rw[List.getElem?_set] at hc;have hjl:j<sz:=by rw[<-r1];exact (List.getElem?_eq_some_iff.1 hu).1
       split at hc
       ·rename_i hj;subst hj;split at hc
        ·simp only[cA] at hc;subst hc;have:=r2 _ u (.val (di i)) hu (by rw[wX,List.getElem?_set,if_pos rfl,if_pos (by rw[hxl];exact hjl)]);cases this with
         |val _ h1=>exact .kD _ _ _ _ _ _ _ _ _ _ q1 (Nat.le_refl _) (λ_=>rfl) h1
        ·cases hc
       ·rename_i hj;rw[List.getElem?_map] at hc;cases hx:(es.getD i [])[j]? with
        |none=>rw[hx] at hc;cases hc
        |some c' =>
         rw[hx] at hc;simp only[Option.map_some,cA] at hc;subst hc;exact .p _ _ (r2 j u c' hu (by rw[wX,List.getElem?_set,if_neg hj];exact hx))) r3 r4
      have:(0:Nat)+(i * sz+off)=i * sz+off:=by omega
      rw[this];exact .jt (run_lift _) ⟨u,by simp[Instr.loadAt,Instr.sureAddr,hru],hua⟩
    ·cases h
   ·cases h
  ·rename_i id bf i j off;split at h
   ·rename_i l hd;split at h
    ·rename_i x hr;simp only[cA,iz] at h;obtain⟨h1,h2⟩:=h;subst h1 h2;cases hdo:cI H id bf with
     |none=>rw[hdo] at hd;cases hd
     |some ke =>
      obtain⟨k,es⟩:=ke;rw[hdo] at hd;obtain⟨hi,x',hx1,hx2⟩:=wY hd;obtain⟨bH,sz,sz',e,e',us,di,q1,q2,q3,q4,q5,q6⟩:=jX hs hdo;obtain⟨l',us',m1,m2,m3⟩:=q6 i x' hx1;rw[hx2] at m1;simp only[cA,PV.aV.injEq] at m1;subst m1;obtain⟨g,cap,hg,vs,r1,r2,r3,r4⟩:=m2.elem hp;have hxl:(l.getD j []).length=sz':=m2.all _ (by
       have:l.getD j []=l[j]:=by simp[hp]
       rw[this];exact nI _)
      cases ha with
      |ng _ _ _ v _ _ _ eV _ _ kY n hl hle hh hone =>
       rw[q1] at hl;simp only[cA,Loc.deep.injEq] at hl;obtain⟨e1,e2,e3,e4,e5,e6⟩:=hl;subst e1 e2 e3 e4 e5 e6;obtain⟨g',o',m,cap',e1,rfl⟩:=hh rfl;rw[hg] at e1;simp only[Value.slice.injEq,cA,Addr.mk.injEq] at e1;obtain⟨⟨e1,e2,_⟩,_⟩:=e1;subst e1 e2;obtain⟨u,hru,hua⟩:=ag8 (P:=P) (base:=j * sz') hr (by rw[r1,hxl]) r2 r3 r4;have:(0:Nat)+(j * sz'+off)=j * sz'+off:=by omega
       rw[this];exact .jt (run_lift _) ⟨u,hru,.p _ _ hua⟩
    ·cases h
   ·cases h
  ·cases h
 ·rename_i s a k hop;simp only[hop];have ha:=hσ a;generalize σ a=u at ha ⊢;generalize ρ a=av at h ha;split at h
  ·rename_i id bf i off of n hf;split at h
   ·rename_i ke hd;simp only[cA,iz] at h;obtain⟨h1,h2⟩:=h;subst h1 h2;obtain⟨k,es⟩:=ke;obtain⟨bH,sz,sz',e,e',us,di,q1,_⟩:=jX hs hd;cases ha with
    |kC _ _ _ v _ _ eV _ _ kY n' hl hle hh hone=>rw[q1] at hl;simp only[cA,Loc.deep.injEq] at hl;obtain⟨e1,e2,e3,e4,e5,e6⟩:=hl;subst e1 e2 e3 e4 e5 e6;obtain⟨g,o,m,cap,e1,rfl⟩:=hh rfl;refine .jt (run_lift _) ⟨_,ve hf hp w _ _,.kC _ _ _ _ _ _ _ _ _ _ _ q1 (Nat.le_refl _) (λ_=>⟨g,o,m,cap,e1,by rw[Nat.add_assoc,Nat.add_assoc]⟩) rfl⟩
   ·cases h
  ·cases h
 ·rename_i t x i hop;simp only[hop];have hx:=hσ x;have hi:=hσ i;generalize σ x=u at hx ⊢;generalize ρ x=av at h hx;generalize σ i=ui at hi ⊢;generalize ρ i=ai at h hi;split at h
  ·rename_i id bf kk n;split at h
   ·rename_i k es e0 hd he;split at h
    ·rename_i sz0 hsz;simp only[cA,iz] at h;obtain⟨h1,h2⟩:=h;subst h1 h2;obtain⟨⟨h0,hlt⟩,hlen⟩:=hp;obtain⟨rfl,_⟩:=hi.eC;obtain⟨m,rfl⟩:=Int.eq_ofNat_of_zero_le h0;simp only[Int.toNat_natCast] at hlen ⊢;have hm:m<es.length:=by omega
     obtain⟨bH,sz,sz',e,e',us,di,q1,q2,q3,q4,q5,q6⟩:=jX hs hd;obtain⟨g,cap,rfl,_⟩:=q2.elem (i:=m) (by rw[fH];exact hm);rw[fH] at q1;have hmm:(es.getD m []).length=sz:=q5 _ (by
      have:es.getD m []=es[m]:=by simp[hm]
      rw[this];exact nI _)
     have e2:sz=sz0:=by omega
     subst e2;cases hx with
     |eG _ _ _ v eV _ _ kY n' hl hle hh hone=>rw[q1] at hl;simp only[cA,Loc.deep.injEq] at hl;obtain⟨e1,e2,e3,e4,e5,e6⟩:=hl;subst e1 e2 e3 e4 e5 e6;rw[hh rfl];refine .jt (run_lift _) ⟨.pointer (some ⟨g,0+m * sz,none⟩),?_,.kC _ _ _ _ _ _ _ _ _ _ _ q1 (Nat.le_refl _) (λ_=>⟨g,0,es.length,cap,rfl,by simp⟩) rfl⟩;simp[Instr.indexAt,asIntOf,run_underlying (fB he),dI hsz,Addr.add_mid,hm]
    ·cases h
   ·cases h
  ·rename_i id bf ii kk n;split at h
   ·rename_i l e0 hd he;split at h
    ·rename_i sz0 hsz;simp only[cA,iz] at h;obtain⟨h1,h2⟩:=h;subst h1 h2;obtain⟨⟨h0,hlt⟩,hlen⟩:=hp;obtain⟨rfl,_⟩:=hi.eC;obtain⟨m,rfl⟩:=Int.eq_ofNat_of_zero_le h0;simp only[Int.toNat_natCast] at hlen ⊢;have hm:m<l.length:=by omega
     cases hdo:cI H id bf with
     |none=>rw[hdo] at hd;cases hd
     |some ke =>
      obtain⟨k,es⟩:=ke;rw[hdo] at hd;obtain⟨hi',x',hx1,hx2⟩:=wY hd;obtain⟨bH,sz,sz',e,e',us,di,q1,q2,q3,q4,q5,q6⟩:=jX hs hdo;obtain⟨l',us',m1,m2,m3⟩:=q6 ii x' hx1;rw[hx2] at m1;simp only[cA,PV.aV.injEq] at m1;subst m1;obtain⟨g,cap,hg,_⟩:=m2.elem hm;have hmm:(l.getD m []).length=sz':=m2.all _ (by
       have:l.getD m []=l[m]:=by simp[hm]
       rw[this];exact nI _)
      have e2:sz'=sz0:=by omega
      subst e2;cases hx with
      |kD _ _ _ v _ eV _ _ kY n' hl hle hh hone=>rw[q1] at hl;simp only[cA,Loc.deep.injEq] at hl;obtain⟨e1,e2,e3,e4,e5,e6⟩:=hl;subst e1 e2 e3 e4 e5 e6;rw[hh rfl,hg];refine .jt (run_lift _) ⟨.pointer (some ⟨g,0+m * sz',none⟩),?_,.ng _ _ _ _ _ _ _ _ _ _ _ _ q1 (Nat.le_refl _) (λ_=>⟨g,0,l.length,cap,hg,by simp⟩) rfl⟩;simp[Instr.indexAt,asIntOf,run_underlying (fB he),dI hsz,Addr.add_mid,hm]
    ·cases h
   ·cases h
  ·cases h
 ·rename_i c hop;simp only[hop];have one:∀ (t:TypeId) (a:AV) (es:List (List PV)),c.callee = .builtin .len->c.argTypes.toList=[t]->c.args.toList.map ρ=[a]->(∀u,eo I L u a->∃J,VR J u (.aV es))->qL P t (.p (.aV es))=some (pre,v)->_:=λt a es hc ht ha hl h=>by have key:=am7 hop hc ht ha hl h hp (C:=C) (H:=H) (w:=w) hσ;unfold execOp at key;simp only[hop] at key;exact key
  split at h
  ·rename_i t id bf hc ht ha;split at h
   ·rename_i k es hd;obtain⟨bH,sz,sz',e,e',us,di,q1,q2,q3,q4,q5,q6⟩:=jX hs hd;have hlen:qL P t (.p (.aV (fA k di es)))=some (pre,v):=by rw[<-h];unfold qL;simp only[fH]
    refine one t _ _ hc ht ha (λu hu=>?_) hlen;cases hu with
    |eG _ _ _ v eV _ _ kY n' hl hle hh hone=>rw[q1] at hl;simp only[cA,Loc.deep.injEq] at hl;obtain⟨e1,e2,_⟩:=hl;subst e1 e2;rw[hh rfl];exact⟨_,q2.snap hs.mem⟩
   ·cases h
  ·rename_i t id bf ii hc ht ha;split at h
   ·rename_i l hd;cases hdo:cI H id bf with
    |none=>rw[hdo] at hd;cases hd
    |some ke =>
     obtain⟨k,es⟩:=ke;rw[hdo] at hd;obtain⟨hi',x',hx1,hx2⟩:=wY hd;obtain⟨bH,sz,sz',e,e',us,di,q1,q2,q3,q4,q5,q6⟩:=jX hs hdo;obtain⟨l',us',m1,m2,m3⟩:=q6 ii x' hx1;rw[hx2] at m1;simp only[cA,PV.aV.injEq] at m1;subst m1;refine one t _ _ hc ht ha (λu hu=>?_) h;cases hu with
     |kD _ _ _ v _ eV _ _ kY n' hl hle hh hone=>rw[q1] at hl;simp only[cA,Loc.deep.injEq] at hl;obtain⟨e1,e2,e3,e4,e5,e6⟩:=hl;subst e1 e2 e3 e4 e5 e6;rw[hh rfl];exact⟨_,m2.snap hs.mem⟩
   ·cases h
  ·cases h
 ·cases h
theorem am8{C:Ctx}{H:ay}{env:Env}{tm:Array Value}{w:World}(hs:gV C env H I L tm w){id bf sz:Nat}{es:List (List PV)}(h:acM H id bf=some (sz,es)) :
  ∃bH e us,L id=some (.row bf bH sz)/\rW w C.B I bH e sz es us/\∃ao cap,bH = .slice ao es.length cap/\es.length<=cap/\((ao=none/\cap=0)\/∃g,ao=some ⟨g,0,none⟩):=by
 unfold acM at h;split at h
 ·rename_i v e sz' es' hH;split at h
  ·rename_i hv;simp only[cA,iz] at h;obtain⟨rfl,rfl⟩:=h;subst hv;obtain⟨bH,us,h1,h2,h3,h4,h5,h6,h7⟩:=hs.chunk id _ hH;refine⟨bH,e,us,h1,⟨h2,h3,h4,h5,h6,h7⟩,?_⟩;rcases h2.2 with ⟨rfl,hn⟩|⟨g,cap,cur,rfl,_,_,hnc,_⟩
   ·exact⟨none,0,by rw[hn],by omega,.inl ⟨rfl,rfl⟩⟩
   ·exact⟨some ⟨g,0,none⟩,cap,rfl,hnc,.inr ⟨g,rfl⟩⟩
  ·cases h
 ·cases h
theorem aq4{o:Oper}{ρ:Operand->AV}{v:AV}{pre:Prop}{H:ay}(h:yp P o ρ H=some (pre,v))(hp:pre){C:Ctx}{env:Env}{tm:Array Value}{w:World}
  (hs:gV C env H I L tm w) {σ:Operand->Value} (hσ:∀x,eo I L (σ x) (ρ x)):oJ P C H I L w ((execOp σ o).run P w) v H:=by
 unfold yp at h;unfold execOp;split at h
 ·rename_i t x i hop;simp only[hop];have hx:=hσ x;have hi:=hσ i;generalize σ x=u at hx ⊢;generalize ρ x=av at h hx;generalize σ i=ui at hi ⊢;generalize ρ i=ai at h hi;split at h
  ·rename_i id bf off m _ szs k n;split at h
   ·rename_i sz es e hr he;split at h
    ·rename_i sz' hsz;simp only[cA,iz] at h;obtain⟨h1,h2⟩:=h;subst h1 h2;obtain⟨⟨h0,hlt,hle'⟩,rfl⟩:=hp;obtain⟨rfl,_⟩:=hi.eC;obtain⟨q,rfl⟩:=Int.eq_ofNat_of_zero_le h0;simp only[Int.toNat_natCast];have hq:q<m:=by omega
     obtain⟨bH,e0,us,q1,q2,ao,cap,rfl,hcap,hao⟩:=am8 hs hr;cases hx with
     |iA a _ _ v1 _ _ _ c jJ sz1 mJ hle hn hm hz hh =>
      rw[q1] at mJ;simp only[cA,Loc.row.injEq] at mJ;obtain⟨r1,r2,r3⟩:=mJ;subst r1 r2 r3;obtain⟨ao1,m1,aGG,e1,rfl,ha⟩:=hh rfl;simp only[Value.slice.injEq] at e1;obtain⟨rfl,rfl,rfl⟩:=e1;have ha':=ha (.inl (by omega));rcases hao with ⟨_,h9⟩|⟨g,rfl⟩
      ·omega
      ·subst ha';refine .jt (run_lift _) ⟨.pointer (some ⟨g,0+((off+q) * sz'+0),none⟩),?_,.jm _ _ _ _ _ _ _ _ q1 (Nat.le_refl _) (λ_=>⟨g,0,es.length,cap,rfl,rfl⟩) rfl⟩;simp[Instr.indexAt,asIntOf,run_underlying (fB he),dI hsz,Addr.add_mid,hq,Nat.add_mul]
    ·cases h
   ·cases h
  ·cases h
 ·cases h
theorem aq5{o:Oper}{ρ:Operand->AV}{v:AV}{pre:Prop}{H:ay}(h:rP P o ρ H=some (pre,v))(hp:pre){C:Ctx}{env:Env}{tm:Array Value}{w:World}
  (hs:gV C env H I L tm w) {σ:Operand->Value} (hσ:∀x,eo I L (σ x) (ρ x)):oJ P C H I L w ((execOp σ o).run P w) v H:=by
 unfold rP at h;split at h
 ·rename_i hx;simp only[cA] at h;subst h;exact am6 hx hp hs hσ
 ·split at h
  ·rename_i hx;simp only[cA] at h;subst h;exact aq3 hx hp hs hσ
  ·exact aq4 h hp hs hσ
def vg(H:ay):AV->Option (List (List PV))
 | .p (.aV ns)=>some ns
 | .p (.val (.slice _ 0 _))=>some []
 | .p .emp=>some []
 | .row id bf=>rowOf H id bf
 |_=>none
theorem aj2{C:Ctx}{H:ay}{env:Env}{tm:Array Value}{w:World}(hs:gV C env H I L tm w){b:AV}{ns:List (List PV)}(h:vg H b=some ns){y:Value}(hy:eo I L y b) :
  ∃bo cap,∃yJ:List Value,y = .slice bo ns.length cap/\yJ.length=ns.flatten.length/\(∀ (j:Nat) u c,yJ[j]? = some u->ns.flatten[j]? = some c->VR I u c)/\(∀u∈yJ,u.oneCell'=true) /\
   (yJ=[]\/∃b off,bo=some ⟨b,off,none⟩/\∀ (j:Nat) u,yJ[j]? = some u->w.cell? ⟨b,off+j,none⟩=some u)/\ns.length<=cap:=by
 have aiz : ∀ {u : Value}, VR I u (.aV ns) → ∃ bo cap, ∃ yJ : List Value, u = .slice bo ns.length cap ∧ yJ.length = ns.flatten.length ∧ (∀ (j : Nat) u c, yJ[j]? = some u → ns.flatten[j]? = some c → VR I u c) ∧ (∀ u ∈ yJ, u.oneCell' = true) ∧
   (yJ=[]\/∃b off,bo=some ⟨b,off,none⟩/\∀ (j:Nat) u,yJ[j]? = some u->w.cell? ⟨b,off+j,none⟩=some u)/\ns.length<=cap:=by
  intro u hu;cases hu with
  |aV bo n cap _ yJ nsz hlen hnsz hnl hnv hnone hnm aIE aBN=>subst hlen;exact⟨bo,cap,yJ,rfl,hnl,hnv,hnone,hnm.imp id λ⟨b,off,e,k⟩=>⟨b,off,e,λj u hj=>hs.mem _ _ _ (k j u hj)⟩,aBN⟩
 unfold vg at h;split at h
 ·simp only[cA] at h;subst h;exact aiz hy.nJ
 ·simp only[cA] at h;subst h;rename_i ao cap;exact⟨ao,cap,[],hy.eC.1,rfl,by simp,by simp,.inl rfl,Nat.zero_le _⟩
 ·simp only[cA] at h;subst h;cases hy.nJ;exact⟨_,0,[],rfl,rfl,by simp,by simp,.inl rfl,Nat.zero_le _⟩
 ·rename_i id bf;unfold rowOf at h;split at h
  ·rename_i v e sz es hH;split at h
   ·rename_i hv;simp at h;subst h hv;obtain⟨bH,us,h1,h2,h3,h4,h5,h6,h7⟩:=hs.chunk id _ hH;cases hy with
    |row _ _ _ v1 jJ sz1 hl hle hh hone =>
     rw[h1] at hl;simp only[cA,Loc.row.injEq] at hl;obtain⟨r1,r2,r3⟩:=hl;subst r1 r2 r3;have hxe:=hh rfl;subst hxe;have hfl:=bG h4;have hlen:us.length=es.flatten.length:=by rw[hfl];exact h2.1
     rcases h2.2 with ⟨e1,hn⟩|⟨g,cap,cur,e1,hb,hg,hnc,hcm,hcs,lB⟩
     ·have he:es=[]:=List.length_eq_zero_iff.1 hn;subst he;exact⟨none,0,us,e1,hlen,h5,h6,.inl (List.length_eq_zero_iff.1 (by simpa using hlen)),Nat.le_refl _⟩
     ·refine⟨some ⟨g,0,none⟩,cap,us,e1,hlen,h5,h6,.inr ⟨g,0,rfl,λj u hu=>?_⟩,hnc⟩;have:=h2.cells (g:=g) (by rw[e1];rfl) j u hu;rwa [Addr.add_mid] at this
   ·cases h
  ·rename_i v es hH;split at h
   ·rename_i hv;simp at h;subst h hv;obtain⟨bH,sz,h1,h2,_⟩:=hs.chunk id _ hH;cases hy with
    |row _ _ _ v1 jJ sz1 hl hle hh hone=>rw[h1] at hl;simp only[cA,Loc.row.injEq] at hl;obtain⟨r1,r2,r3⟩:=hl;subst r1 r2 r3;rw[hh rfl];exact aiz h2
   ·cases h
  ·rename_i v e sz es hH;split at h
   ·rename_i hv;simp at h;subst h hv;obtain⟨g0,o0,aGF,arr,h1,k2,k3,k4,k5,k6,h2,k8⟩:=hs.chunk id _ hH;cases hy with
    |row _ _ _ v1 jJ sz1 hl hle hh hone=>rw[h1] at hl;simp only[cA,Loc.row.injEq] at hl;obtain⟨r1,r2,r3⟩:=hl;subst r1 r2 r3;rw[hh rfl];exact aiz h2
   ·cases h
  ·cases h
 ·cases h
end Go.cr
namespace Go.cr
open Go.RowKit
variable{P:Program}{I:Mem}{L:bA}
def abM(P:Program)(t1 t2:TypeId)(a b:AV)(H:ay):Option (Prop×AV×ay):=match a,dr P t1 t2 with
 | .row id bf,some (e',sz',qT)=>match H id with
  | some (.row v e sz es) => if v = bf ∧ e = e' ∧ sz = sz' then match vg H b with
    |some ns=>some ((es.length+ns.length) * qT<=140737488355328/\∀x∈ns,x.length=sz,.row id (bf+1),bk H id (.row (bf+1) e sz (es++ns)))
    |none=>none
   else none
  |_=>none
 |_,_=>none
def wo(P:Program)(o:Oper)(ρ:Operand->AV)(H:ay):Option (Prop×AV×ay):=match o.op with
 | .store t a x=>match bu P t with
  | some n => if (b5 (ρ x)).length = n ∧ (b5 (ρ x)).all n9 = true then match ρ a with
    | .ptr id off=>match H id with
     |some (.box cs)=>if off+n<=cs.length then some (True,.dead,bk H id (.box (splice cs off (b5 (ρ x))))) else none
     |_=>none
    | .jm id bf i off=>match H id,tq (b5 (ρ x)) with
     |some (.row v e sz es),some ps=>if v=bf then some (i<es.length/\off+n<=sz,.dead,bk H id (.row v e sz (es.set i (splice (es.getD i []) off ps)))) else none
     |_,_=>none
    |_=>none
   else none
  |none=>none
 | .alloc e=>match o.dst with
  |some d=>match H d,cN P e with
   |none,some zs=>if zs.all (·.oneCell')=true then some (True,.ptr d 0,bk H d (.box (zs.map λz=>.p (.val z)))) else none
   |_,_=>none
  |none=>none
 | .box _ x=>match o.dst with
  |some d=>match H d with
   |none=>if (b5 (ρ x)).all n9=true then some (True,.ptr d 0,bk H d (.box (b5 (ρ x)))) else none
   |some _=>none
  |none=>none
 | .call c=>match c.callee,c.argTypes.toList,c.args.toList.map ρ with
  | .builtin .append,[t1,t2],[a,b]=>abM P t1 t2 a b H
  |_,_,_=>none
 |_=>none
theorem cells_one{u:Value}{a:AV}(h:eo I L u a)(hall:(b5 a).all n9=true):∃us:List Value,u.cells=us.toArray/\us.length=(b5 a).length /\
  (∀ (j:Nat) u c,us[j]? = some u->(b5 a)[j]? = some c->eo I L u c)/\∀x∈us,x.oneCell'=true:=by
 have hone:∀c∈b5 a,n9 c=true:=List.all_eq_true.1 hall;obtain⟨us,h1,h2,h3⟩:=h.cells hone;refine⟨us,h1,h2,h3,λx hx=>?_⟩;obtain⟨j,hj⟩:=List.mem_iff_getElem?.1 hx;have hjl:j<(b5 a).length:=by rw[<-h2];exact (List.getElem?_eq_some_iff.1 hj).1
 exact (h3 j x _ hj (List.getElem?_eq_getElem hjl)).one (hone _ (nI _))
theorem aiA{C:Ctx}{H:ay}{env:Env}{tm:Array Value}{w:World}(hs:gV C env H I L tm w){d:Nat}(hd:H d=none){us:List Value}{cs:List AV}(e:TypeId)
  (hl:us.length=cs.length) (hv:∀ (j:Nat) u c,us[j]? = some u->cs[j]? = some c->eo I L u c) (h1:∀x∈us,x.oneCell'=true) :
  eo I (ck L d (.box w.heap.size)) (.pointer (some ⟨w.heap.size,0,none⟩)) (.ptr d 0)/\Fr C I L H w I (ck L d (.box w.heap.size)) (bk H d (.box cs)) (w.alloc (.cells us.toArray e)):=by
 refine⟨.ptr _ _ _ (by simp[ck]),λenv tm hs=>?_⟩;refine hs.new ((Below.refl _ _).alloc hs.leB _) (λb hb=>Below.heap_alloc _ _ _ hb) hd _ _ ?_ (λb hb=>by
  simp only[Loc.has,cA] at hb;subst hb;simp)
 refine⟨w.heap.size,us.toArray,e,by simp[ck],heap_alloc_new w _,by simpa using hl,λj u c hu hc=>?_,λj u hu=>?_,λo=>aer hs.mem o⟩
 ·exact (hv j u c (by simpa using hu) hc).mono (Mem.dV I) (dL.tY (hs.rX hd) _)
 ·exact h1 u (List.mem_of_getElem? (by simpa using hu))
theorem aiB{C:Ctx}{H:ay}{env:Env}{tm:Array Value}{w w':World}(_:gV C env H I L tm w){d:Nat}(hd:H d=none){us:List Value}{es:List (List PV)}{e:TypeId}{sz cap:Nat}{arr:Array Value}
  (hw:w'=w.alloc (.cells arr e)\/w'=w.drew.alloc (.cells arr e)) (abN:arr.size=cap * sz) (hcm:cap<=maxLen) (htk:arr.toList.take (es.length * sz)=us) (hpos:0<sz)
  (hall:∀x∈es,x.length=sz) (hl:us.length=es.flatten.length) (hv:∀ (j:Nat) u c,us[j]? = some u->es.flatten[j]? = some c->VR I u c) (h1:∀x∈us,x.oneCell'=true) (hcap:es.length<=cap) :
  eo I (ck L d (.row 0 (.slice (some ⟨w.heap.size,0,none⟩) es.length cap) sz)) (.slice (some ⟨w.heap.size,0,none⟩) es.length cap) (.row d 0) /\
  Fr C I L H w I (ck L d (.row 0 (.slice (some ⟨w.heap.size,0,none⟩) es.length cap) sz)) (bk H d (.row 0 e sz es)) w':=by
 refine⟨.row _ d 0 0 (.slice (some ⟨w.heap.size,0,none⟩) es.length cap) sz (by simp[ck]) (Nat.le_refl _) (λ_=>rfl) rfl,λenv tm hs=>?_⟩;have hb:Below C.B w w':=by
  rcases hw with rfl|rfl
  ·exact (Below.refl _ _).alloc hs.leB _
  ·exact (Below.refl _ _).drew.alloc hs.leB _
 have hk:∀b,b<w.heap.size->w'.heap[b]? = w.heap[b]?:=λb hlt=>by
  rcases hw with rfl|rfl
  ·exact Below.heap_alloc _ _ _ hlt
  ·exact Below.heap_alloc w.drew _ _ hlt
 have hnew:w'.heap[w.heap.size]? = some (.cells arr e (0,0)):=by
  rcases hw with rfl|rfl
  ·exact heap_alloc_new w _
  ·exact heap_alloc_new w.drew _
 have hsz:w'.heap.size=w.heap.size+1:=by rcases hw with rfl|rfl<;>simp
 refine hs.new hb hk hd _ _ ?_ (λb hb=>by
  simp only[Loc.has,Value.ownBlock,cA] at hb;subst hb;omega)
 refine⟨.slice (some ⟨w.heap.size,0,none⟩) es.length cap,us,by simp[ck],⟨by rw[hl,bG hall],.inr ⟨w.heap.size,cap,arr,rfl,hs.leB,hnew,hcap,hcm,abN,htk⟩⟩,hpos,hall,hv,h1,λb hb o=>?_⟩;simp only[Value.ownBlock,cA] at hb;subst hb;exact aer hs.mem o
theorem w5{t:TypeId}{n:Nat}(hn:bu P t=some n){u:Value}{us:List Value}(hu:u.cells=us.toArray)(hlen:us.length=n){w:World}{b off:Nat}{arr:Array Value}{e:TypeId}
  (hg:w.heap[b]? = some (.cells arr e (0,0))) (hle:off+n<=arr.size) (h1:∀x∈us,x.oneCell'=true) :
  (Instr.storeAt t (.pointer (some ⟨b,off,none⟩)) u).run P w = .ok () (w.setRow b (splice arr.toList off us).toArray):=by
 have hst:=run_storeCells_at P b off e us 0 arr w hg (by omega) h1;simp only[Nat.add_zero] at hst;have hsz:us.toArray.size=n:=by simpa using hlen
 simp[Instr.storeAt,Instr.sureAddr,storeVar,dI hn,hu,hsz,hst,splice,hlen]
theorem dL.aaf{L:bA}{id:Nat}{l:Loc}(h:L id=some l):dL L (ck L id l):=λi=>by
 by_cases hi:i=id
 ·subst hi;have:=dL.refl L i;rw[h] at this ⊢;simpa[ck,h] using this
 ·have:ck L id l i=L i:=by simp[ck,hi]
  rw[this];exact dL.refl L i
theorem dL.aeJ{L:bA}{id v:Nat}{bH eV:Value}{sz:Nat}(h:L id=some (.row v bH sz)):dL L (ck L id (.row (v+1) eV sz)):=λi=>by
 by_cases hi:i=id
 ·subst hi;rw[h];exact⟨v+1,eV,by simp[ck],by omega,λe=>by omega⟩
 ·have:ck L id (.row (v+1) eV sz) i=L i:=by simp[ck,hi]
  rw[this];exact dL.refl L i
theorem rQ{w:World}{B b:Nat}(cs:Array Value)(h:B<=b):Below B w (w.setRow b cs):=⟨rfl,rfl,rfl,by simp[World.setRow],λk hk=>setRow_other w b k cs (by omega)⟩
theorem aa6{R:Value->PV->Prop}{us vs:List Value}{cs ds:List PV}(hl:us.length=cs.length)(hv:∀ (j:Nat) u c,us[j]? = some u->cs[j]? = some c->R u c)
  (hw:∀ (j:Nat) u c,vs[j]? = some u->ds[j]? = some c->R u c):∀ (j:Nat) u c,(us++vs)[j]? = some u->(cs++ds)[j]? = some c->R u c:=by
 intro j u c hu hc;rw[List.getElem?_append] at hu hc;rw[hl] at hu;split at hu
 ·rename_i h;rw[if_pos h] at hc;exact hv _ _ _ hu hc
 ·rename_i h;rw[if_neg h] at hc;exact hw _ _ _ hu hc
theorem am9{t1 t2 ty:TypeId}{a b v:AV}{pre:Prop}{H H':ay}(h:abM P t1 t2 a b H=some (pre,v,H'))(hp:pre){C:Ctx}{env:Env}{tm:Array Value}{w:World}(hs:gV C env H I L tm w)
  {x y:Value} (hx:eo I L x a) (hy:eo I L y b) {s':Sem Next} (hs':∀w,s'.run P w=((Builtin.append_ #[t1,t2] ty #[x,y]).run P w).andThen λu w'=>.ok (.value u) w') :
  oJ P C H I L w (s'.run P w) v H':=by
 unfold abM at h;split at h
 ·rename_i id bf e' sz' qT ht
  obtain⟨rfl,hu,hpos,aaE,i,z,hi,hz,hsz,hby,hzc⟩:=nB ht;split at h
  ·rename_i v0 e sz es hH;split at h
   ·rename_i hc;obtain⟨rfl,rfl,rfl⟩:=hc;split at h
    ·rename_i ns hsrc;simp only[cA,iz] at h;obtain⟨h1,h2,h3⟩:=h;subst h1 h2 h3;obtain⟨hb,hall⟩:=hp;obtain⟨bH,us,q1,q2,q3,q4,q5,q6,q7⟩:=hs.chunk id _ hH;cases hx with
     |row _ _ _ v1 jJ sz1 hl hle hh hone =>
      rw[q1] at hl;simp only[cA,Loc.row.injEq] at hl;obtain⟨r1,r2,r3⟩:=hl;subst r1 r2 r3;have hxe:=hh rfl;subst hxe;obtain⟨bo,cap,yJ,hye,hnl,hnv,hnone,hnm,aBN⟩:=aj2 hs hsrc hy
      ·subst hye;have aDe:=bG hall;have aeK:es.length+ns.length<=maxLen:=by have:=Nat.le_mul_of_pos_right (es.length+ns.length) aaE;simp only[maxLen];omega
       have finish : ∀ (v' : Value) (w' : World), (Builtin.append_ #[t1, t1] ty #[x, .slice bo ns.length cap]).run P w = .ok v' w' → w'.ownsRow C.B e sz v' (es.length + ns.length) (us ++ yJ) → w.grownBy w' x.ownBlock →
         (∀b,v'.ownBlock=some b->x.ownBlock=some b\/(w.heap.size<=b/\b<w'.heap.size))->v'.oneCell'=true ->
         oJ P C H I L w (s'.run P w) (.row id (v0+1)) (bk H id (.row (v0+1) e sz (es++ns))):=by
        intro v' w' hr ho hg hblk h1;refine⟨v',w',I,ck L id (.row (v0+1) v' sz),.inl (by rw[hs',hr];rfl),.row _ _ _ (v0+1) v' sz (by simp[ck]) (Nat.le_refl _) (λ_=>rfl) h1,λenv tm hs=>?_⟩;refine hs.turn (Below.grown (Below.refl _ _) hg hs.leB λk hk=>(hs.fK id _ k q1 hk).1) q1 (λb hb hne=>hg.block b hb λe=>hne e.symm) (dL.aeJ q1) (λb hb=>q7 b hb) _ ?_ hblk;refine⟨v',us++yJ,by simp[ck],by rw[List.length_append];exact ho,q3,?_,?_,?_,?_⟩
        ·intro x hx;rcases List.mem_append.1 hx with h|h
         ·exact q4 x h
         ·exact hall x h
        ·rw[List.flatten_append];exact aa6 (by rw[bG q4];exact q2.1) q5 hnv
        ·intro x hx;rcases List.mem_append.1 hx with h|h
         ·exact q6 x h
         ·exact hnone x h
        ·intro b hb o;rcases hblk b hb with h|h
         ·exact q7 b h o
         ·cases hI:I b o with
          |none=>rfl
          |some u=>exact absurd (hs.mem.lt hI) (by omega)
       rcases hnm with rfl|⟨bb,off,rfl,hI⟩
       ·-- nothing is aDf
        have h0:ns.length=0:=by
         have:ns.flatten.length=0:=by rw[<-hnl];rfl
         rw[aDe] at this;rcases Nat.mul_eq_zero.1 this with h|h
         ·exact h
         ·omega
        rcases q2.2 with ⟨rfl,hn0⟩|⟨g,cp,cur,rfl,hbg,hg,hnc,hcm,hcs,lB⟩
        ·refine finish (.slice none 0 0) w ?_ ?_ ⟨rfl,rfl,rfl,Nat.le_refl _,λ_ _ _=>rfl⟩ (λb hb=>.inl hb) rfl
         ·simp[Builtin.append_,run_underlying hu,sizeOf,typeInfo,hi,Builtin.lenOf,h0];cases bo<;>simp[Builtin.firstCells,loadCells,loadCellsFrom]
         ·rw[List.append_nil,h0,Nat.add_zero];exact q2
        ·refine finish (.slice (some ⟨g,0,none⟩) es.length cp) w ?_ ?_ ⟨rfl,rfl,rfl,Nat.le_refl _,λ_ _ _=>rfl⟩ (λb hb=>.inl hb) rfl
         ·simp[Builtin.append_,run_underlying hu,sizeOf,typeInfo,hi,Builtin.lenOf,h0,hnc];cases bo<;>simp[Builtin.firstCells,loadCells,loadCellsFrom,storeCells]
         ·rw[List.append_nil,h0,Nat.add_zero];exact q2
       ·have hnews:∀ (j:Nat) v,yJ[j]? = some v->w.cell? ((⟨bb,off,none⟩:Addr).add j)=some v:=λj v hj=>by rw[Addr.add_mid];exact hI j v hj
        have ad6:yJ.length=ns.length * sz:=by rw[hnl,aDe]
        obtain⟨v',w',hr,ho,hg,_⟩:=run_append_own (P:=P) w C.B t1 ty e i z sz qT hu hi hz hsz hby hzc hpos x es.length us q2 ⟨bb,off,none⟩ ns.length cap yJ ad6 hnews hnone aeK hb hs.leB
        refine finish v' w' hr ho hg ?_ ?_
        ·rcases q2.2 with ⟨rfl,hn0⟩|⟨g,cp,cur,rfl,hbg,hgg,hnc,hcm,hcs,lB⟩
         ·by_cases hm0:ns.length=0
          ·have hr2:(Builtin.append_ #[t1,t1] ty #[.slice none 0 0,.slice (some ⟨bb,off,none⟩) ns.length cap]).run P w = .ok (.slice none 0 0) w:=by have:yJ=[]:=List.length_eq_zero_iff.1 (by rw[ad6,hm0,Nat.zero_mul]);simp[Builtin.append_,run_underlying hu,sizeOf,typeInfo,hi,Builtin.lenOf,hm0,Builtin.firstCells,loadCells,loadCellsFrom]
           rw[hr2] at hr;simp only[Result.ok.injEq] at hr;obtain⟨rfl,rfl⟩:=hr;intro b hb;exact .inl hb
          ·obtain⟨cp,rest,hr2,_⟩:=pJ (P:=P) (ty:=ty) hu hi hz hsz none ⟨bb,off,none⟩ ns.length cap yJ w ad6 hnews (by omega) (by rw[hby];rw[hn0,Nat.zero_add] at hb;exact hb) (by simp only[maxLen] at aeK;omega);rw[hr2] at hr;simp only[Result.ok.injEq] at hr;obtain⟨rfl,rfl⟩:=hr;intro b hb;simp only[Value.ownBlock,cA] at hb;subst hb;exact .inr ⟨Nat.le_refl _,by simp⟩
         ·by_cases hroom:es.length+ns.length<=cp
          ·have hfit:es.length * i.size+yJ.length<=cur.size:=by rw[ad6,hcs,hsz,<-Nat.add_mul];exact Nat.mul_le_mul_right _ hroom
           have hr2:=run_append_room (P:=P) w t1 ty e i hu hi g es.length cp cur hgg ⟨bb,off,none⟩ ns.length cap yJ (by rw[hsz];exact ad6) hnews hnone hroom hfit;rw[hr2] at hr;simp only[Result.ok.injEq] at hr;obtain⟨rfl,rfl⟩:=hr;intro b hb;exact .inl hb
          ·have holds:∀j u,us[j]? = some u->w.cell? ((⟨g,0,none⟩:Addr).add j)=some u:=q2.cells (g:=g) rfl;have hr2:=run_append_grow (P:=P) w t1 ty e i z hu hi hz ⟨g,0,none⟩ es.length cp us (by rw[hsz];exact q2.1) holds ⟨bb,off,none⟩ ns.length cap yJ (by rw[hsz];exact ad6) hnews (by omega) (by simp only[maxLen] at aeK;omega)
            (growslice_fits (by omega) (by rw[hby];exact hb))
           rw[hr2] at hr;simp only[Result.ok.injEq] at hr;obtain⟨rfl,rfl⟩:=hr;intro b hb;simp only[Value.ownBlock,cA] at hb;subst hb;exact .inr ⟨Nat.le_refl _,by simp⟩
        ·rcases ho.2 with ⟨rfl,_⟩|⟨_,_,_,rfl,_⟩<;>rfl
    ·cases h
   ·cases h
  ·cases h
 ·cases h
end Go.cr
namespace Go.cr
open Go.RowKit
variable{P:Program}{I:Mem}{L:bA}
theorem w6{us un:List Value}{off:Nat}(h1:∀x∈us,x.oneCell'=true)(h2:∀x∈un,x.oneCell'=true):∀x∈splice us off un,x.oneCell'=true:=λx hx=>by
 unfold splice at hx;simp only[List.mem_append] at hx;rcases hx with (hx|hx)|hx
 ·exact h1 x (List.mem_of_mem_take hx)
 ·exact h2 x hx
 ·exact h1 x (List.mem_of_mem_drop hx)
theorem yK{α:Type}{sz:Nat} : ∀ {es:List (List α)} (_:∀e∈es,e.length=sz) (i:Nat) (_:i<es.length) (off:Nat) (ps:List α) (_:off+ps.length<=sz),
  (es.set i (splice (es.getD i []) off ps)).flatten=splice es.flatten (i * sz+off) ps
 | [],_,i,hi,_,_,_=>by simp at hi
 |e :: es,h,0,_,off,ps,hle=>by
  have he:=h e (by simp);simp only[List.set_cons_zero,List.getD_cons_zero,List.flatten_cons,Nat.zero_mul,Nat.zero_add,splice];have e1:(e++es.flatten).take off=e.take off:=by rw[List.take_append_of_le_length (by omega)]
  have e2:(e++es.flatten).drop (off+ps.length)=e.drop (off+ps.length)++es.flatten:=by rw[List.drop_append_of_le_length (by omega)]
  rw[e1,e2];simp
 |e :: es,h,i+1,hi,off,ps,hle=>by
  have he:=h e (by simp);have ih:=yK (es:=es) (λx hx=>h x (by simp[hx])) i (by simpa using hi) off ps hle;simp only[List.set_cons_succ,List.getD_cons_succ,List.flatten_cons];rw[ih];have hm:(i+1) * sz+off=e.length+(i * sz+off):=by rw[he,Nat.add_mul];omega
  rw[hm];unfold splice;have e2:e.length+(i * sz+off)+ps.length=e.length+(i * sz+off+ps.length):=by omega
  rw[e2,List.take_length_add_append,List.drop_length_add_append];simp
theorem yL{α:Type}{l x:List α}{off n:Nat}(h:off+x.length<=n)(hn:n<=l.length):(splice l off x).take n=splice (l.take n) off x:=by
 apply List.ext_getElem?;intro j;unfold splice;simp only[List.getElem?_take,List.append_assoc,List.getElem?_append,List.length_take,List.getElem?_drop];by_cases h1:j<off
 ·have a1:j<n:=by omega
  have a2:j<min off l.length:=by omega
  have a3:j<min off (min n l.length):=by omega
  rw[if_pos a1,if_pos a2,if_pos a3,if_pos h1,if_pos h1,if_pos a1]
 ·have a2:¬ j<min off l.length:=by omega
  have a3:¬ j<min off (min n l.length):=by omega
  have e1:min off l.length=off:=by omega
  have e2:min off (min n l.length)=off:=by omega
  rw[if_neg a2,if_neg a3,e1,e2];by_cases h2:j-off<x.length
  ·rw[if_pos h2,if_pos h2,if_pos (show j<n by omega)]
  ·rw[if_neg h2,if_neg h2];have e3:off+x.length+(j-off-x.length)=j:=by omega
   rw[e3]
theorem aa7{us un:List Value}{cs cn:List PV}{off:Nat}(hl:us.length=cs.length)(hn:un.length=cn.length)
  (hv:∀ (j:Nat) u c,us[j]? = some u->cs[j]? = some c->VR I u c) (hw:∀ (j:Nat) u c,un[j]? = some u->cn[j]? = some c->VR I u c) :
  ∀ (j:Nat) u c,(splice us off un)[j]? = some u->(splice cs off cn)[j]? = some c->VR I u c:=aaZ hl hn hv hw
theorem aeL{s:Sem Unit}{w w':World}(h:s.run P w = .ok () w'):(do s;pure .skip:Sem Next).run P w = .ok .skip w':=by simp[h]
theorem wq{s:Sem Value}{u:Value}{w w':World}(h:s.run P w = .ok u w'):(do pure (.value (<-s)):Sem Next).run P w = .ok (.value u) w':=by simp[h]
theorem aq6{o:Oper}{ρ:Operand->AV}{v:AV}{pre:Prop}{H H':ay}(h:wo P o ρ H=some (pre,v,H'))(hp:pre){C:Ctx}{env:Env}{tm:Array Value}{w:World}
  (hs:gV C env H I L tm w) {σ:Operand->Value} (hσ:∀x,eo I L (σ x) (ρ x)):oJ P C H I L w ((execOp σ o).run P w) v H':=by
 unfold wo at h;unfold execOp;split at h
 ·rename_i t a x hop;simp only[hop];have ha:=hσ a;have hx:=hσ x;generalize σ a=ua at ha ⊢;generalize ρ a=av at h ha;generalize σ x=ux at hx ⊢;generalize ρ x=xv at h hx;split at h
  ·rename_i n hn;split at h
   ·rename_i hc;obtain⟨hlen,hall⟩:=hc;obtain⟨us,u1,u2,u3,u4⟩:=cells_one hx hall;split at h
    ·rename_i id off;split at h
     ·rename_i cs hH;split at h
      ·rename_i hle;simp only[cA,iz] at h;obtain⟨_,h2,h3⟩:=h;subst h2 h3;obtain⟨b,arr,e,g1,g2,g3,g4,g5,g6⟩:=hs.chunk id _ hH;cases ha with
       |ptr _ b' _ hl =>
        rw[g1] at hl;simp only[cA,Loc.box.injEq] at hl;subst hl;have hr:=w5 hn u1 (by omega) g2 (off:=off) (by omega) u4;refine⟨undef,_,I,ck L id (.box b),.inr ⟨aeL hr,rfl⟩,.dead _,λenv tm hs=>?_⟩;refine hs.turn (rQ _ (hs.fK id _ b g1 rfl).1) g1 (λk hk hne=>setRow_other w b k _ (λe=>hne (by rw[e];rfl))) (dL.aaf g1) (λk hk o=>by
         simp only[Loc.has,cA] at hk;subst hk;exact g6 o) _ ?_ (λk hk=>.inl hk)
        refine⟨b,(splice arr.toList off us).toArray,e,by simp[ck],setRow_heap w b arr _ e _ g2,?_,?_,?_,g6⟩
        ·simp only[List.size_toArray];rw[ef (by simp;omega),ef (by omega)];simpa using g3
        ·intro j u c hu hc;have:=aaZ (R:=eo I L) (us:=arr.toList) (cs:=cs) (off:=off) (un:=us) (cn:=b5 xv) (by simpa using g3) u2 (λj u c hu hc=>g4 j u c (by simpa using hu) hc) u3 j u c (by simpa using hu) hc;exact this.mono (Mem.dV I) (dL.aaf g1)
        ·intro j u hu;refine w6 (us:=arr.toList) (un:=us) (off:=off) (λx hx=>?_) u4 u (List.mem_of_getElem? (by simpa using hu));obtain⟨k,hk⟩:=List.mem_iff_getElem?.1 hx;exact g5 k x (by simpa using hk)
      ·cases h
     ·cases h
    ·rename_i id bf i off;split at h
     ·rename_i v0 e sz es ps hH hps;split at h
      ·rename_i hv;subst hv;simp only[cA,iz] at h;obtain⟨h1,h2,h3⟩:=h;subst h1 h2 h3;obtain⟨hi,hoff⟩:=hp;have hcs:=tN hps;rw[hcs] at u2 u3 hlen;simp only[List.length_map] at u2 hlen;obtain⟨bH,cs,q1,q2,q3,q4,q5,q6,q7⟩:=hs.chunk id _ hH;cases ha with
       |jm _ _ _ v1 _ _ jJ sz1 hl hle hh hone =>
        rw[q1] at hl;simp only[cA,Loc.row.injEq] at hl;obtain⟨r1,r2,r3⟩:=hl;subst r1 r2 r3;obtain⟨g,o,n',cap,e1,e2⟩:=hh rfl;subst e1 e2;rcases q2.2 with ⟨am5,_⟩|⟨g',cp,cur,heq,hbg,hgg,hnc,hcm,hcz,lB⟩
        ·cases am5
        simp only[Value.slice.injEq,cA,Addr.mk.injEq] at heq;obtain⟨⟨e3,e0,_⟩,e4,e5⟩:=heq;subst e3 e0 e4 e5;rw[Nat.zero_add];have hmul:(i+1) * sz<=es.length * sz:=Nat.mul_le_mul_right _ hi;have au3:(i+1) * sz=i * sz+sz:=by rw[Nat.add_mul];omega
        have hcap:es.length * sz<=cur.size:=by rw[hcz];exact Nat.mul_le_mul_right _ hnc
        have hr:=w5 hn u1 (by omega) hgg (off:=i * sz+off) (by omega) u4;refine⟨undef,_,I,ck L id (.row v0 (.slice (some ⟨g,0,none⟩) es.length cap) sz),.inr ⟨aeL hr,rfl⟩,.dead _,λenv tm hs=>?_⟩;refine hs.turn (rQ _ (hs.fK id _ g q1 rfl).1) q1 (λk hk hne=>setRow_other w g k _ (λe=>hne (by rw[e];rfl))) (dL.aaf q1) (λk hk=>q7 k hk) _ ?_ (λk hk=>.inl hk);have hfl:=bG q4;have hcl:cs.length=es.length * sz:=q2.1;have htk:(splice cur.toList (i * sz+off) us).take (es.length * sz)=splice cs (i * sz+off) us:=by rw[yL (by omega) (by simpa using hcap),lB]
        refine⟨.slice (some ⟨g,0,none⟩) es.length cap,splice cs (i * sz+off) us,by simp[ck],⟨?_,.inr ⟨g,cap,(splice cur.toList (i * sz+off) us).toArray,by rw[List.length_set],hbg,setRow_heap w g cur _ e _ hgg,by rw[List.length_set];exact hnc,hcm,?_,?_⟩⟩,q3,?_,?_,w6 q6 u4,q7⟩
        ·rw[List.length_set,ef (by omega)];exact hcl
        ·simp only[List.size_toArray];rw[ef (by simp only[Array.length_toList];omega)];simpa using hcz
        ·rw[List.length_set];exact htk
        ·intro y hy;rcases List.mem_or_eq_of_mem_set hy with h|h
         ·exact q4 y h
         ·subst h;have hm:(es.getD i []).length=sz:=q4 _ (by
           have:es.getD i []=es[i]:=by simp[hi]
           rw[this];exact nI _)
          rw[ef (by omega)];exact hm
        ·rw[yK q4 i hi off ps (by omega)];exact aa7 (by omega) (by omega) q5 (abI u3)
      ·cases h
     ·cases h
    ·cases h
   ·cases h
  ·cases h
 ·rename_i e hop;simp only[hop];split at h
  ·rename_i d hd;split at h
   ·rename_i zs hH hz;split at h
    ·rename_i hone;simp only[cA,iz] at h;obtain⟨_,h2,h3⟩:=h;subst h2 h3;obtain⟨z,hzr,hzc⟩:=wk hz w;obtain⟨zr,z1⟩:=aj1 (I:=I) (L:=L) zs hone;obtain⟨n1,n2⟩:=aiA hs hH (us:=zs) e (by simp) zr z1;refine⟨_,_,I,_,.inl (wq ?_),n1,n2⟩;simp[Instr.alloc,hzr,newVar,newRow,newObj,Sem.run,hzc]
    ·cases h
   ·cases h
  ·cases h
 ·rename_i e x hop;simp only[hop];split at h
  ·rename_i d hd;split at h
   ·rename_i hH;split at h
    ·rename_i hall;simp only[cA,iz] at h;obtain⟨_,h2,h3⟩:=h;subst h2 h3;obtain⟨us,u1,u2,u3,u4⟩:=cells_one (hσ x) hall;obtain⟨n1,n2⟩:=aiA hs hH e u2 u3 u4;refine⟨_,_,I,_,.inl (wq ?_),n1,n2⟩;simp[Instr.box,newVar,newRow,newObj,Sem.run,u1]
    ·cases h
   ·cases h
  ·cases h
 ·rename_i c hop;simp only[hop];split at h
  ·rename_i t1 t2 a b hc ht ha;have hat:c.argTypes = #[t1,t2]:=by rw[<-Array.toArray_toList (xs:=c.argTypes),ht]
   cases hca:c.args.toList with
   |nil=>simp[hca] at ha
   |cons x r =>
    cases r with
    |nil=>simp[hca] at ha
    |cons y r =>
     have hr0:r=[]:=by simpa[hca] using congrArg List.length ha
     subst hr0;have hxy:ρ x=a/\ρ y=b:=by simpa[hca] using ha
     have hargs:c.args = #[x,y]:=by rw[<-Array.toArray_toList (xs:=c.args),hca]
     refine am9 (ty:=o.type) h hp hs (hxy.1 ▸ hσ x) (hxy.2 ▸ hσ y) (λw=>?_);simp[resolve,hc,invoke,builtin,hat,hargs]
  ·cases h
 ·cases h
end Go.cr
namespace Go.cr
open Go.RowKit
variable{P:Program}{I:Mem}{L:bA}
def exN(P:Program)(o:Oper)(ρ:Operand->AV)(H:ay)(d:Nat):Option (Prop×AV×ay):=match H d with
 |some _=>none
 |none=>match o.op with
  | .buildSlice t n parts=>match lJ P t n (parts.toList.map λx=>(x.1,ρ x.2)) with
   |some (e,es)=>match bu P e with
    |some sz=>some (True,.row d 0,bk H d (.row 0 e sz es))
    |none=>none
   |none=>match vf P t n (parts.toList.map λx=>(x.1,ρ x.2)) with
    |some (_,cs)=>some (True,.bsl d n,bk H d (.box cs))
    |none=>none
  | .makeSlice t l c=>match ρ l,ρ c,cM P t with
   | .p (.val (.int _ n)),.p (.val (.int _ m)),some e=>match bu P e,cN P e,abG P e with
    | some sz, some zs, some qT => if zs.length = sz ∧ 0 < sz ∧ 0 < qT ∧ zs.all (·.oneCell') = true then
      some ((0<=n/\m=n)/\n * qT<=140737488355328,.row d 0,bk H d (.row 0 e sz (List.replicate n.toNat (zs.map PV.val)))) else none
    |_,_,_=>none
   |_,_,_=>none
  | .call c=>match c.callee,c.argTypes.toList,c.args.toList.map ρ with
   | .builtin .append,[t1,t2],[a,b]=>match a,dr P t1 t2,vg H b with
    | .p (.val (.slice none 0 0)),some (e,sz,qT),some es=>some (es.length * qT<=140737488355328/\∀x∈es,x.length=sz,.row d 0,bk H d (.row 0 e sz es))
    |_,_,_=>none
   |_,_,_=>none
  |_=>none
theorem aq7{n:Int}(h0:0<=n)(h:n<=9223372036854775807):i64.wrap n=n:=IntWalk.i64_in n (by omega)
theorem aiC{C:Ctx}{H:ay}{env:Env}{tm:Array Value}{w:World}(hs:gV C env H I L tm w){d:Nat}(hd:H d=none)(e:TypeId){sz:Nat}(hpos:0<sz) :
  eo I (ck L d (.row 0 (.slice none 0 0) sz)) (.slice none 0 0) (.row d 0)/\Fr C I L H w I (ck L d (.row 0 (.slice none 0 0) sz)) (bk H d (.row 0 e sz [])) w/\dL L (ck L d (.row 0 (.slice none 0 0) sz)):=by
 refine⟨.row _ d 0 0 (.slice none 0 0) sz (by simp[ck]) (Nat.le_refl _) (λ_=>rfl) rfl,λenv tm hs=>?_,dL.tY (hs.rX hd) _⟩;refine hs.new (Below.refl _ _) (λ_ _=>rfl) hd _ _ ?_ (λb hb=>by simp[Loc.has,Value.ownBlock] at hb);exact⟨.slice none 0 0,[],by simp[ck],⟨by simp,.inl ⟨rfl,rfl⟩⟩,hpos,by simp,by simp,by simp,λb hb=>by simp[Value.ownBlock] at hb⟩
theorem aq8{o:Oper}{ρ:Operand->AV}{v:AV}{pre:Prop}{H H':ay}{d:Nat}(h:exN P o ρ H d=some (pre,v,H'))(hp:pre){C:Ctx}{env:Env}{tm:Array Value}{w:World}
  (hs:gV C env H I L tm w) {σ:Operand->Value} (hσ:∀x,eo I L (σ x) (ρ x)):oJ P C H I L w ((execOp σ o).run P w) v H':=by
 unfold exN at h;unfold execOp;split at h
 ·cases h
 rename_i hd;split at h
 ·rename_i t n parts hop;simp only[hop];split at h
  ·rename_i e es hb;split at h
   ·rename_i sz hsz;simp only[cA,iz] at h;obtain⟨_,h2,h3⟩:=h;subst h2 h3;obtain⟨uo,sz',hr,hel,au6,hpos,hn,hall,hl,hv,hone⟩:=vG hb (wm hσ parts.toList) w;rw[hsz] at au6;simp only[cA] at au6;subst au6;have hr':(Instr.buildSlice t n (parts.map λx=>(x.1,σ x.2))).run P w = .ok (.slice (some ⟨w.heap.size,0,none⟩) n n) (w.alloc (.cells uo.toArray e)):=by rw[<-hr];congr 2;apply Array.ext';simp
    have hfl:=bG hall;have aeK:n<=maxLen:=by
     unfold lJ at hb;rw[hel] at hb;simp only[hsz] at hb;split at hb
     ·split at hb
      ·rename_i hc;rename_i q1 q2;simp only[cA] at q1;subst q1;have:=Nat.le_mul_of_pos_right n hc.2.1;simp only[maxLen];omega
      ·cases hb
     ·cases hb
    subst hn;obtain⟨n1,n2⟩:=aiB hs hd (us:=uo) (es:=es) (e:=e) (sz:=sz) (cap:=es.length) (arr:=uo.toArray) (.inl rfl) (by simp[hl,hfl]) aeK (by simp[hl,hfl,List.take_of_length_le]) hpos hall hl hv hone (Nat.le_refl _);exact⟨_,_,I,_,.inl (wq hr'),n1,n2⟩
   ·cases h
  ·split at h
   ·rename_i e cs hb;simp only[cA,iz] at h;obtain⟨_,h2,h3⟩:=h;subst h2 h3;obtain⟨uo,hr,hl,hv,hone⟩:=agu hb (wm hσ parts.toList) w;have hr':(Instr.buildSlice t n (parts.map λx=>(x.1,σ x.2))).run P w = .ok (.slice (some ⟨w.heap.size,0,none⟩) n n) (w.alloc (.cells uo.toArray e)):=by rw[<-hr];congr 2;apply Array.ext';simp
    obtain⟨n1,n2⟩:=aiA hs hd (us:=uo) (cs:=cs) e hl hv hone;exact⟨_,_,I,_,.inl (wq hr'),.bsl _ _ _ (by simp[ck]),n2⟩
   ·cases h
 ·rename_i t l c hop;simp only[hop];split at h
  ·rename_i k n k' m e hln hcn he;split at h
   ·rename_i sz zs qT hsz hz hby
    split at h
    ·rename_i hc;obtain⟨hzl,hpos,aaE,hone⟩:=hc;simp only[cA,iz] at h;obtain⟨h1,h2,h3⟩:=h;subst h1 h2 h3;obtain⟨⟨h0,hmn⟩,hb⟩:=hp;subst hmn;obtain⟨a,rfl⟩:=Int.eq_ofNat_of_zero_le h0;simp only[Int.toNat_natCast];have hlv:=(hln ▸ hσ l).eC.1;have hcv:=(hcn ▸ hσ c).eC.1;obtain⟨z,hzr,hzc⟩:=wk hz w;obtain⟨i,z',hi,hz',hzc'⟩:=yH hz;have qX:i.bytes=qT:=by simpa[abG,hi] using hby
     have hbn:a * qT<=140737488355328:=by
      have:((a * qT:Nat):Int)<=140737488355328:=by rw[Int.natCast_mul];exact hb
      omega
     have ha:a<=140737488355328:=by have:=Nat.le_mul_of_pos_right a aaE;omega
     have hw:i64.wrap (a:Int)=a:=aq7 (by omega) (by omega);have abN:((Array.range (a * sz)).map (λi=>zs.toArray[i % zs.toArray.size]!))=(List.replicate a zs).flatten.toArray:=by rw[<-hzl];exact aae zs a (by omega)
     have hall:∀x∈List.replicate a (zs.map PV.val),x.length=sz:=λx hx=>by rw[List.eq_of_mem_replicate hx];simpa using hzl
     have aCf:∀x∈List.replicate a zs,x.length=sz:=λx hx=>by rw[List.eq_of_mem_replicate hx];exact hzl
     have hfl:=bG aCf;simp only[List.length_replicate] at hfl;have hrun:(Instr.makeSlice t (.int k a) (.int k' a)).run P w = .ok (.slice (some ⟨w.heap.size,0,none⟩) a a) (w.alloc (.cells ((List.replicate a zs).flatten.toArray) e)):=by
      have aCg:¬ ((281474976710656:Int)<(qT:Int) * (a:Int)):=by
       have:(qT:Int) * (a:Int)=((a * qT:Nat):Int):=by rw[Int.natCast_mul,Int.mul_comm]
       rw[this];omega
      have hroom:∀w:World,(askRoom (a * qT)).run P w = .ok () w:=λw=>by unfold askRoom;split<;>simp[mark,Sem.run]
      by_cases hn0:a * sz=0
      ·have ha0:a=0:=by
        rcases Nat.mul_eq_zero.1 hn0 with h|h
        ·exact h
        ·omega
       subst ha0;simp only[Instr.makeSlice,Sem.run_bind,run_underlying (fB he),Result.andThen_ok,asInt,asIntOf,Sem.run_pure,typeInfo,program,Sem.run,hi,qX,hw];simp[dI hsz,askRoom,roomBytes,newRow,newObj,Sem.run];have hr0:(Array.range 0).map (λ_:Nat=>(default:Value)) = #[]:=Array.eq_empty_of_size_eq_zero (by simp);rw[hr0]
      ·simp only[Instr.makeSlice,Sem.run_bind,run_underlying (fB he),Result.andThen_ok,asInt,asIntOf,Sem.run_pure,typeInfo,program,Sem.run,hi,qX,hw];have hneg:¬ ((a:Int)<0):=by omega
       simp[aCg,hneg,hroom,newRow,newObj,Sem.run];rw[dI hsz];simp only[Result.andThen_ok];rw[if_neg hn0,hzr];simp only[Result.andThen_ok,hzc,abN]
     have hus:∀u∈(List.replicate a zs).flatten,u.oneCell'=true:=λu hu=>by obtain⟨x,hx,hux⟩:=List.mem_flatten.1 hu;rw[List.eq_of_mem_replicate hx] at hux;exact List.all_eq_true.1 hone u hux
     have ap6:(List.replicate a (zs.map PV.val)).flatten=(List.replicate a zs).flatten.map PV.val:=by simp[List.map_flatten]
     obtain⟨n1,n2⟩:=aiB hs hd (us:=(List.replicate a zs).flatten) (es:=List.replicate a (zs.map PV.val)) (e:=e) (sz:=sz) (cap:=a) (arr:=(List.replicate a zs).flatten.toArray) (.inl rfl)
      (by simpa using hfl) (by simp only[maxLen];omega) (by rw[List.length_replicate,List.take_of_length_le (by simp only[];omega)]) hpos hall (by rw[ap6,List.length_map])
      (λj u c hu hc=>by
       rw[ap6,List.getElem?_map,hu] at hc;simp at hc;subst hc;exact .val u (hus u (List.mem_of_getElem? hu))) hus (by simp)
     rw[List.length_replicate] at n1 n2;exact⟨_,_,I,_,.inl (wq (by rw[hlv,hcv];exact hrun)),n1,n2⟩
    ·cases h
   ·cases h
  ·cases h
 ·rename_i c hop;simp only[hop];split at h
  ·rename_i t1 t2 a b hc ht ha;split at h
   ·rename_i e sz qT es hty hsrc
    simp only[cA,iz] at h;obtain⟨h1,h2,h3⟩:=h;subst h1 h2 h3;obtain⟨hb,hall⟩:=hp;have hat:c.argTypes = #[t1,t2]:=by rw[<-Array.toArray_toList (xs:=c.argTypes),ht]
    cases hca:c.args.toList with
    |nil=>simp[hca] at ha
    |cons x r =>
     cases r with
     |nil=>simp[hca] at ha
     |cons y r =>
      have hr0:r=[]:=by simpa[hca] using congrArg List.length ha
      subst hr0;have hxy:ρ x = .p (.val (.slice none 0 0))/\ρ y=b:=by simpa[hca] using ha
      have hargs:c.args = #[x,y]:=by rw[<-Array.toArray_toList (xs:=c.args),hca]
      obtain⟨rfl,hu,hpos,aaE,i,z,hi,hz,hsz,hby,hzc⟩:=nB hty;have hxe:=(hxy.1 ▸ hσ x).eC.1;have hye:eo I L (σ y) b:=hxy.2 ▸ hσ y;have au9:∀w,(do let d <-resolve σ c o.type;invoke d.target d.args:Sem Next).run P w=((Builtin.append_ #[t1,t1] o.type #[σ x,σ y]).run P w).andThen λu w'=>.ok (.value u) w':=λw=>by simp[resolve,hc,invoke,builtin,hat,hargs]
      generalize σ y=uy at hye au9;obtain⟨bo,cap,us,hys,hl,hv,hone,hm,hcap⟩:=aj2 hs hsrc hye
      ·subst hys;by_cases h0:es.length=0
       ·have he:es=[]:=List.length_eq_zero_iff.1 h0;subst he;have hrun:(Builtin.append_ #[t1,t1] o.type #[.slice none 0 0,.slice bo 0 cap]).run P w = .ok (.slice none 0 0) w:=by cases bo<;>simp[Builtin.append_,run_underlying hu,sizeOf,typeInfo,hi,Builtin.lenOf,Builtin.firstCells,loadCells,loadCellsFrom]
        obtain⟨n1,n2,_⟩:=aiC hs hd e hpos;exact⟨_,_,I,_,.inl (by rw[au9,hxe,List.length_nil,hrun];rfl),n1,n2⟩
       ·have hfl:=bG hall;rcases hm with rfl|⟨bb,off,rfl,hI⟩
        ·exfalso;have hz0:es.flatten.length=0:=by rw[<-hl];rfl
         rw[hfl] at hz0;rcases Nat.mul_eq_zero.1 hz0 with h|h<;>omega
        ·have hmb:es.length<=140737488355328:=by have:=Nat.le_mul_of_pos_right es.length aaE;omega
         obtain⟨cp,rest,hr,hcp,hrl,hcm⟩:=pJ (P:=P) (ty:=o.type) hu hi hz hsz none ⟨bb,off,none⟩ es.length cap us w (by rw[hl,hfl]) (λj v hjv=>by
          rw[Addr.add_mid];exact hI j v hjv) (by omega) (by rw[hby];exact hb) (by omega)
         have hcz:(us++rest).toArray.size=cp * sz:=by simp only[List.size_toArray];rw[hrl,hzc,<-Nat.add_mul];congr 1;omega
         obtain⟨n1,n2⟩:=aiB (w':=w.drew.alloc (.cells (us++rest).toArray e)) hs hd (us:=us) (es:=es) (e:=e) (sz:=sz) (cap:=cp) (arr:=(us++rest).toArray) (.inr rfl) hcz hcm
          (by rw[List.take_left' (by rw[hl,hfl])]) hpos hall hl hv hone hcp
         exact⟨_,_,I,_,.inl (by rw[au9,hxe,hr];rfl),n1,n2⟩
   ·cases h
  ·cases h
 ·cases h
end Go.cr
namespace Go.cr
open Go.RowKit
variable{P:Program}{I:Mem}{L:bA}
def hU(P:Program)(f:FuncId):Bool:=match P.funcs[f]? with
 |some fn=>fn.name != "runtime.NumGoroutine" && fn.body.isSome
 |none=>false
def aS(P:Program)(f:FuncId)(args:List PV)(Q:PV->Prop):Prop :=
 hU P f=true/\∀ (I:Mem) (w:World) (vs:List Value),I.inW w->VRs I vs args ->
  Calls P f vs.toArray w λe w'=>∃v r I',e = .returned v/\Q r/\VR I' v r/\Below w.heap.size w w'/\I.sub I'/\I'.inW w'/\∀b,b<w.heap.size->∀o,I' b o=I b o
theorem aS.mono{f:FuncId}{args:List PV}{Q Q':PV->Prop}(h:aS P f args Q)(hq:∀r,Q r->Q' r):aS P f args Q':=⟨h.1,λI w vs hI hv=>(h.2 I w vs hI hv).mono λ_ _ ⟨v,r,I',h1,h2,h3⟩=>⟨v,r,I',h1,hq r h2,h3⟩⟩
def isVal:PV->Bool
 | .val _=>true
 |_=>false
def PV.scalar:PV->Bool
 | .val _=>true
 | .agg cs=>cs.all isVal
 | .dQ vs=>vs.all λx=>match x with
  | .val _=>true
  | .agg cs=>cs.all isVal
  |_=>false
 |_=>false
theorem VR.isVal{J:Mem}{u:Value}{x:PV}(h:VR J u x)(hx:isVal x=true):VR I u x:=by cases h<;>first|exact .val _ (by assumption)|(cases hx;done)
theorem VR.vals{J:Mem}{u:Value}{cs:List PV}(h:VR J u (.agg cs))(hx:cs.all cr.isVal=true):VR I u (.agg cs):=by
 cases h with
 |agg us _ hl hv hone=>exact .agg us cs hl (λj u c hu hc=>(hv j u c hu hc).isVal (List.all_eq_true.1 hx c (List.mem_of_getElem? hc))) hone
theorem VR.scalar{J:Mem}{u:Value}{x:PV}(h:VR J u x)(hx:x.scalar=true):VR I u x:=by
 cases x with
 |val v=>exact h.isVal rfl
 |agg cs=>exact h.vals hx
 |dQ vs =>
  cases h with
  |dQ us _ hl hv =>
   refine .dQ us vs hl λj u c hu hc=>?_
   have h1:=List.all_eq_true.1 hx c (List.mem_of_getElem? hc);have h2:=hv j u c hu hc;cases c with
   |val v=>exact h2.isVal rfl
   |agg cs=>exact h2.vals h1
   |_=>cases h1
 |_=>cases hx
def azM(L:bA)(w:World)(J:Mem):Prop:=∀id l b,L id=some l->l.has b->∀o u,w.cell? ⟨b,o,none⟩=some u->J b o=some u
def HSub(H' H:ay):Prop:=∀id c,H' id=some c->H id=some c
theorem tO(H:ay):HSub H H:=λ_ _ h=>h
def aeM(G:ay)(L:bA)(w:World)(J:Mem):Prop:=∀id ch,G id=some ch->∀l b,L id=some l->l.has b->∀o u,w.cell? ⟨b,o,none⟩=some u->J b o=some u
theorem azM.g{w:World}{J:Mem}(h:azM L w J)(G:ay):aeM G L w J:=λid _ _=>h id
theorem qY(L:bA)(w:World):azM L w (snap w):=λ_ _ _ _ _ _ _ h=>h
theorem aCh{C:Ctx}{H:ay}{env:Env}{tm:Array Value}{w:World}(hs:gV C env H I L tm w){J:Mem}(sg:I.sub J){id v sz:Nat}{e:TypeId}{es:List (List PV)}
  (hH:H id=some (.row v e sz es)) (hJ:∀l b,L id=some l->l.has b->∀o u,w.cell? ⟨b,o,none⟩=some u->J b o=some u):∃bH,L id=some (.row v bH sz)/\VR J bH (.aV es):=by
 obtain⟨bH,us,h1,h2,h3,h4,h5,h6,h7⟩:=hs.chunk id _ hH;refine⟨bH,h1,?_⟩;have hfl:=bG h4;have hlen:us.length=es.flatten.length:=by rw[hfl];exact h2.1
 rcases h2.2 with ⟨rfl,hn⟩|⟨g,cap,cur,rfl,hb,hg,hnc,hcm,hcs,lB⟩
 ·have he:es=[]:=List.length_eq_zero_iff.1 hn;subst he;exact .aV none 0 0 [] us sz rfl (by simp) hlen (λj u c hu hc=>(h5 j u c hu hc).mono sg) h6 (.inl (List.length_eq_zero_iff.1 (by simpa using hlen))) (λ_=>⟨rfl,rfl⟩) (Nat.le_refl _)
 ·refine .aV _ _ _ es us sz rfl h4 hlen (λj u c hu hc=>(h5 j u c hu hc).mono sg) h6 (.inr ⟨g,0,rfl,λj u hu=>?_⟩) (by simp) hnc;rw[Nat.zero_add];refine hJ _ g h1 rfl j u ?_;rw[fV hg];rw[<-lB,List.getElem?_take] at hu;split at hu
  ·simpa using hu
  ·cases hu
theorem acN{H:ay}{id bf:Nat}{r:Nat×List (List PV)}(h:cI H id bf=some r):∃ch,H id=some ch/\True:=by
 unfold cI at h;split at h
 ·rename_i hH;exact⟨_,hH,trivial⟩
 ·cases h
theorem adE{H H':ay}(h:HSub H H'){id bf:Nat}{r:Nat×List (List PV)}(hr:cI H id bf=some r):cI H' id bf=some r:=by obtain⟨ch,hch,_⟩:=acN hr;unfold cI at hr ⊢;rw[hch] at hr;rw[h id ch hch];exact hr
def pX(H:ay):AV->Option (PV×Bool)
 | .p x=>some (x,false)
 | .row id bf=>match H id with
  |some (.row v _ _ es)=>if v=bf then some (.aV es,true) else none
  |some (.shut v es)=>if v=bf then some (.aV es,false) else none
  |_=>none
 | .eG id bf=>match cI H id bf with
  |some (_,es)=>some (.aV es,true)
  |none=>none
 | .kD id bf i=>match nh (cI H id bf) i with
  |some l=>some (.aV l,true)
  |none=>none
 |_=>none
def ek(f:AV->Option (PV×Bool)):List AV->Option (List PV×Bool)
 | []=>some ([],false)
 |a :: r=>match f a,ek f r with
  |some (x,b),some (xs,c)=>some (x :: xs,b||c)
  |_,_=>none
def aaF(H:ay):AV->Option (PV×Bool)
 | .ptr id off=>match H id with
  |some (.box cs)=>match ek (pX H) cs with
   |some (ps,_)=>some (.dU ps off,true)
   |none=>none
  |_=>none
 |a=>pX H a
def oc(H:ay):AV->Option (PV×Bool)
 | .ptr id off=>match H id with
  |some (.box cs)=>match ek (aaF H) cs with
   |some (ps,_)=>some (.dU ps off,true)
   |none=>none
  |_=>none
 |a=>pX H a
def gA(H:ay):AV->Option (PV×Bool)
 | .agg cs=>match ek (oc H) cs with
  |some (ps,b)=>some (.agg ps,b)
  |none=>none
 | .dQ cs=>match ek (oc H) cs with
  |some (ps,b)=>some (.dQ ps,b)
  |none=>none
 | .iw fn fs cs=>match ek (oc H) fs,ek (oc H) cs with
  |some (f,b),some (c,d)=>some (.iw fn f c,b||d)
  |_,_=>none
 |a=>oc H a
def adF(H:ay):AV->Option (PV×Bool)
 | .dQ cs=>match ek (gA H) cs with
  |some (ps,b)=>some (.dQ ps,b)
  |none=>none
 |a=>gA H a
def acO(I:Mem)(L:bA)(J:Mem)(f:AV->Option (PV×Bool)):Prop:=∀u a x b,eo I L u a->f a=some (x,b)->VR J u x/\(b=false->VR I u x)
theorem kg{J:Mem}{f:AV->Option (PV×Bool)}(hf:acO I L J f):∀ (eL:List AV) (ps:List PV) (b:Bool),ek f eL=some (ps,b)->∀us:List Value,us.length=eL.length ->
  (∀ (j:Nat) u c,us[j]? = some u->eL[j]? = some c->eo I L u c)->us.length=ps.length/\(∀ (j:Nat) u c,us[j]? = some u->ps[j]? = some c->VR J u c)/\(b=false->∀ (j:Nat) u c,us[j]? = some u->ps[j]? = some c->VR I u c)
 | [],ps,b,h,us,hl,_=>by simp[ek] at h;obtain⟨rfl,rfl⟩:=h;exact⟨hl,by simp,by simp⟩
 |a :: r,ps,b,h,[],hl,_=>by simp at hl
 |a :: r,ps,b,h,u :: us,hl,hv=>by
  simp only[ek] at h;split at h
  ·rename_i x b1 xs b2 h1 h2;simp only[cA,iz] at h;obtain⟨rfl,rfl⟩:=h;obtain⟨k1,k2,k3⟩:=kg hf r xs b2 h2 us (by simpa using hl) (λj u c hu hc=>hv (j+1) u c hu hc);obtain⟨m1,m2⟩:=hf u a x b1 (hv 0 u a rfl rfl) h1;refine⟨by simp[k1],λj u' c hu hc=>?_,λhb j u' c hu hc=>?_⟩
   ·cases j with
    |zero=>simp at hu hc;subst hu hc;exact m1
    |succ j=>exact k2 j u' c (by simpa using hu) (by simpa using hc)
   ·have hb':b1=false/\b2=false:=by simpa using hb
    cases j with
    |zero=>simp at hu hc;subst hu hc;exact m2 hb'.1
    |succ j=>exact k3 hb'.2 j u' c (by simpa using hu) (by simpa using hc)
  ·cases h
section
variable{C:Ctx}{H G:ay}{env:Env}{tm:Array Value}{w:World}{J:Mem}
theorem aeN(hs:gV C env H I L tm w)(hG:HSub G H)(sg:I.sub J)(hJ:aeM G L w J):acO I L J (pX G):=by
 intro u a x b hu h;unfold pX at h;split at h
 ·simp only[cA,iz] at h;obtain⟨rfl,rfl⟩:=h;exact⟨hu.nJ.mono sg,λ_=>hu.nJ⟩
 ·rename_i id bf;split at h
  ·rename_i v e sz es hH;split at h
   ·rename_i hv;simp only[cA,iz] at h;obtain⟨rfl,rfl⟩:=h;subst hv;obtain⟨bH,h1,h2⟩:=aCh hs sg (hG _ _ hH) (hJ id _ hH);cases hu with
    |row _ _ _ v1 jJ sz1 hl hle hh hone=>rw[h1] at hl;simp only[cA,Loc.row.injEq] at hl;obtain⟨r1,r2,r3⟩:=hl;subst r1 r2 r3;rw[hh rfl];exact⟨h2,λhb=>by cases hb⟩
   ·cases h
  ·rename_i v es hH;split at h
   ·rename_i hv;simp only[cA,iz] at h;obtain⟨rfl,rfl⟩:=h;subst hv;obtain⟨bH,sz,h1,h2,_⟩:=hs.chunk id _ (hG _ _ hH);cases hu with
    |row _ _ _ v1 jJ sz1 hl hle hh hone=>rw[h1] at hl;simp only[cA,Loc.row.injEq] at hl;obtain⟨r1,r2,r3⟩:=hl;subst r1 r2 r3;rw[hh rfl];exact⟨h2.mono sg,λ_=>h2⟩
   ·cases h
  ·cases h
 ·rename_i id bf;split at h
  ·rename_i k es hd;simp only[cA,iz] at h;obtain⟨rfl,rfl⟩:=h;obtain⟨ch,hch,hd'⟩:=acN hd;obtain⟨bH,sz,sz',e,e',us,di,q1,q2,q3,q4,q5,q6⟩:=jX hs (adE hG hd);cases hu with
   |eG _ _ _ v1 jJ _ _ qK n1 hl hle hh hone=>rw[q1] at hl;simp only[cA,Loc.deep.injEq] at hl;obtain⟨e1,e2,e3,e4,e5,e6⟩:=hl;subst e1 e2 e3 e4 e5 e6;rw[hh rfl];exact⟨ap5 q2 q5 q6 sg λb hb=>hJ id ch hch _ b q1 hb,λhb=>by cases hb⟩
  ·cases h
 ·rename_i id bf i;split at h
  ·rename_i l hi;simp only[cA,iz] at h;obtain⟨rfl,rfl⟩:=h;cases hd:cI G id bf with
   |none=>rw[hd] at hi;cases hi
   |some ke =>
    obtain⟨k,es⟩:=ke;rw[hd] at hi;obtain⟨qI,x,hx1,hx2⟩:=wY hi;obtain⟨ch,hch,hd'⟩:=acN hd;obtain⟨bH,sz,sz',e,e',us,di,q1,q2,q3,q4,q5,q6⟩:=jX hs (adE hG hd);obtain⟨l',us',m1,m2,m3⟩:=q6 i x hx1;rw[hx2] at m1;simp only[cA,PV.aV.injEq] at m1;subst m1;cases hu with
    |kD _ _ _ v1 _ jJ _ _ qK n1 hl hle hh hone=>rw[q1] at hl;simp only[cA,Loc.deep.injEq] at hl;obtain⟨e1,e2,e3,e4,e5,e6⟩:=hl;subst e1 e2 e3 e4 e5 e6;rw[hh rfl];exact⟨m2.vrJ sg λb hb=>hJ id ch hch _ b q1 (.inr ⟨i,qI,hb⟩),λhb=>by cases hb⟩
  ·cases h
 ·cases h
theorem ava(hs:gV C env H I L tm w)(hG:HSub G H)(sg:I.sub J)(hJ:aeM G L w J):acO I L J (aaF G):=by
 intro u a x b hu h;unfold aaF at h;split at h
 ·rename_i id off;split at h
  ·rename_i cs hH;split at h
   ·rename_i ps b1 hps;simp only[cA,iz] at h;obtain⟨rfl,rfl⟩:=h;obtain⟨blk,arr,e,g1,g2,g3,g4,g5,g6⟩:=hs.chunk id _ (hG _ _ hH);cases hu with
    |ptr _ b' _ hl =>
     rw[g1] at hl;simp only[cA,Loc.box.injEq] at hl;subst hl;obtain⟨k1,k2,_⟩:=kg (aeN hs hG sg hJ) cs ps b1 hps arr.toList (by simpa using g3) (λj u c hu hc=>g4 j u c (by simpa using hu) hc);refine⟨?_,λhb=>by cases hb⟩;have:=VR.dU (I:=J) blk 0 ps arr.toList off k1 k2 (λu hu=>by
      obtain⟨j,hj⟩:=List.mem_iff_getElem?.1 hu;exact g5 j u (by simpa using hj)) (λj u hu=>by
       rw[Nat.zero_add];exact hJ id _ hH _ blk g1 rfl j u (by rw[fV g2];simpa using hu))
     rwa [Nat.zero_add] at this
   ·cases h
  ·cases h
 ·exact aeN hs hG sg hJ u _ x b hu h
theorem yM(hs:gV C env H I L tm w)(hG:HSub G H)(sg:I.sub J)(hJ:aeM G L w J):acO I L J (oc G):=by
 intro u a x b hu h;unfold oc at h;split at h
 ·rename_i id off;split at h
  ·rename_i cs hH;split at h
   ·rename_i ps b1 hps;simp only[cA,iz] at h;obtain⟨rfl,rfl⟩:=h;obtain⟨blk,arr,e,g1,g2,g3,g4,g5,g6⟩:=hs.chunk id _ (hG _ _ hH);cases hu with
    |ptr _ b' _ hl =>
     rw[g1] at hl;simp only[cA,Loc.box.injEq] at hl;subst hl;obtain⟨k1,k2,_⟩:=kg (ava hs hG sg hJ) cs ps b1 hps arr.toList (by simpa using g3) (λj u c hu hc=>g4 j u c (by simpa using hu) hc);refine⟨?_,λhb=>by cases hb⟩;have:=VR.dU (I:=J) blk 0 ps arr.toList off k1 k2 (λu hu=>by
      obtain⟨j,hj⟩:=List.mem_iff_getElem?.1 hu;exact g5 j u (by simpa using hj)) (λj u hu=>by
       rw[Nat.zero_add];exact hJ id _ hH _ blk g1 rfl j u (by rw[fV g2];simpa using hu))
     rwa [Nat.zero_add] at this
   ·cases h
  ·cases h
 ·exact aeN hs hG sg hJ u _ x b hu h
theorem o4(hs:gV C env H I L tm w)(hG:HSub G H)(sg:I.sub J)(hJ:aeM G L w J):acO I L J (gA G):=by
 intro u a x b hu h;unfold gA at h;split at h
 ·rename_i cs;split at h
  ·rename_i ps b1 hps;simp only[cA,iz] at h;obtain⟨rfl,rfl⟩:=h;cases hu with
   |agg us _ hl hv hone=>obtain⟨k1,k2,k3⟩:=kg (yM hs hG sg hJ) cs ps b1 hps us hl hv;exact⟨.agg us ps k1 k2 hone,λhb=>.agg us ps k1 (k3 hb) hone⟩
  ·cases h
 ·rename_i cs;split at h
  ·rename_i ps b1 hps;simp only[cA,iz] at h;obtain⟨rfl,rfl⟩:=h;cases hu with
   |dQ us _ hl hv=>obtain⟨k1,k2,k3⟩:=kg (yM hs hG sg hJ) cs ps b1 hps us hl hv;exact⟨.dQ us ps k1 k2,λhb=>.dQ us ps k1 (k3 hb)⟩
  ·cases h
 ·rename_i fn fs cs;split at h
  ·rename_i f b1 c b2 hf hc;simp only[cA,iz] at h;obtain⟨rfl,rfl⟩:=h;cases hu with
   |iw _ us vs _ _ hl hl' hv we =>
    obtain⟨k1,k2,k3⟩:=kg (yM hs hG sg hJ) fs f b1 hf us hl hv;obtain⟨m1,m2,m3⟩:=kg (yM hs hG sg hJ) cs c b2 hc vs hl' we;refine⟨.iw fn us vs f c k1 m1 k2 m2,λhb=>?_⟩;have hb':b1=false/\b2=false:=by simpa using hb
    exact .iw fn us vs f c k1 m1 (k3 hb'.1) (m3 hb'.2)
  ·cases h
 ·exact yM hs hG sg hJ u _ x b hu h
theorem avb(hs:gV C env H I L tm w)(hG:HSub G H)(sg:I.sub J)(hJ:aeM G L w J):acO I L J (adF G):=by
 intro u a x b hu h;unfold adF at h;split at h
 ·rename_i cs;split at h
  ·rename_i ps b1 hps;simp only[cA,iz] at h;obtain⟨rfl,rfl⟩:=h;cases hu with
   |dQ us _ hl hv=>obtain⟨k1,k2,k3⟩:=kg (o4 hs hG sg hJ) cs ps b1 hps us hl hv;exact⟨.dQ us ps k1 k2,λhb=>.dQ us ps k1 (k3 hb)⟩
  ·cases h
 ·exact o4 hs hG sg hJ u _ x b hu h
end
def dH(o:Oper)(ρ:Operand->AV):Option (FuncId×List AV):=match o.op with
 | .call c=>match c.callee with
  | .value f=>match ρ f with
   | .p (.iw (.func k) fs cs)=>some (k,fs.map AV.p++c.args.toList.map ρ++cs.map AV.p)
   | .iw (.func k) fs cs=>some (k,fs++c.args.toList.map ρ++cs)
   |_=>none
  |_=>none
 |_=>none
theorem abO{k:FuncId}(h:hU P k=true)(args:Array Value)(w:World):(callFunc k args).run P w = .ok (.enter k args) w:=by
 unfold hU at h;split at h
 ·rename_i fn hfn;simp only[Bool.and_eq_true,bne_iff_ne,ne_eq] at h;have hb:fn.body.isNone=false:=by
   cases hfb:fn.body with
   |none=>simp[hfb] at h
   |some c=>rfl
  have hn:(fn.name == "runtime.NumGoroutine")=false:=by simpa using h.1
  simp only[callFunc,program,Sem.run_bind,Sem.run,Result.andThen_ok,Sem.run_pure',hfn,hn,hb];try rfl
 ·cases h
theorem oQ.append{us vs:List Value}{eL bs:List AV}(h:oQ I L us eL)(k:oQ I L vs bs):oQ I L (us++vs) (eL++bs):=by
 refine⟨by simp[h.1,k.1],λj u a hu ha=>?_⟩;rw[List.getElem?_append] at hu ha;rw[h.1] at hu;split at hu
 ·rename_i hj;rw[if_pos hj] at ha;exact h.2 _ _ _ hu ha
 ·rename_i hj;rw[if_neg hj] at ha;exact k.2 _ _ _ hu ha
theorem oQ.ap7{us:List Value}{ps:List PV}(hl:us.length=ps.length)(h:∀ (j:Nat) u c,us[j]? = some u->ps[j]? = some c->VR I u c):oQ I L us (ps.map AV.p) :=
 ⟨by simpa using hl,λj u c hu hc=>by
  rw[List.getElem?_map] at hc;cases hp:ps[j]? with
  |none=>simp[hp] at hc
  |some p=>simp[hp] at hc;subst hc;exact .p _ _ (h j u p hu hp)⟩
theorem qg{o:Oper}{ρ:Operand->AV}{k:FuncId}{eL:List AV}(h:dH o ρ=some (k,eL))(hk:hU P k=true){σ:Operand->Value}(hσ:∀x,eo I L (σ x) (ρ x))(w:World) :
  ∃us:List Value,(execOp σ o).run P w = .ok (.enter k us.toArray) w/\oQ I L us eL:=by
 unfold dH at h;split at h
 ·rename_i c hop;split at h
  ·rename_i f hc;have hf:=hσ f;have hargs:=ue (I:=I) (L:=L) hσ c.args.toList;have e1:c.args.map σ=(c.args.toList.map σ).toArray:=by apply Array.ext';simp
   unfold execOp;simp only[hop];generalize hsf:σ f=uf at hf;generalize ρ f=af at h hf;split at h
   ·rename_i k' fs cs;simp only[cA,iz] at h;obtain⟨rfl,rfl⟩:=h;cases hf.nJ with
    |iw _ us vs _ _ hl hl' hv we=>refine⟨us++c.args.toList.map σ++vs,?_,((oQ.ap7 hl hv).append hargs).append (oQ.ap7 hl' we)⟩;simp only[resolve,hc,hsf,Deferred.ofValue,Sem.run_bind,Sem.run_pure,Result.andThen_ok,invoke,abO hk,e1];simp
   ·rename_i k' fs cs;simp only[cA,iz] at h;obtain⟨rfl,rfl⟩:=h;cases hf with
    |iw _ us vs _ _ hl hl' hv we=>refine⟨us++c.args.toList.map σ++vs,?_,oQ.append (oQ.append (show oQ I L us fs from ⟨hl,hv⟩) hargs) (show oQ I L vs cs from ⟨hl',we⟩)⟩;simp only[resolve,hc,hsf,Deferred.ofValue,Sem.run_bind,Sem.run_pure,Result.andThen_ok,invoke,abO hk,e1];simp
   ·cases h
  ·cases h
 ·cases h
theorem aiD{o:Oper}{ρ:Operand->AV}{k:FuncId}{eL:List AV}(h:dH o ρ=some (k,eL)){σ:Operand->Value}(hσ:∀x,eo I L (σ x) (ρ x))(w:World) :
  ∃us:List Value,(execOp σ o).run P w=(callFunc k us.toArray).run P w/\oQ I L us eL:=by
 unfold dH at h;split at h
 ·rename_i c hop;split at h
  ·rename_i f hc;have hf:=hσ f;have hargs:=ue (I:=I) (L:=L) hσ c.args.toList;have e1:c.args.map σ=(c.args.toList.map σ).toArray:=by apply Array.ext';simp
   unfold execOp;simp only[hop];generalize hsf:σ f=uf at hf;generalize ρ f=af at h hf;split at h
   ·rename_i k' fs cs;simp only[cA,iz] at h;obtain⟨rfl,rfl⟩:=h;cases hf.nJ with
    |iw _ us vs _ _ hl hl' hv we=>refine⟨us++c.args.toList.map σ++vs,?_,((oQ.ap7 hl hv).append hargs).append (oQ.ap7 hl' we)⟩;simp only[resolve,hc,hsf,Deferred.ofValue,Sem.run_bind,Sem.run_pure,Result.andThen_ok,invoke,e1];simp
   ·rename_i k' fs cs;simp only[cA,iz] at h;obtain⟨rfl,rfl⟩:=h;cases hf with
    |iw _ us vs _ _ hl hl' hv we=>refine⟨us++c.args.toList.map σ++vs,?_,oQ.append (oQ.append (show oQ I L us fs from ⟨hl,hv⟩) hargs) (show oQ I L vs cs from ⟨hl',we⟩)⟩;simp only[resolve,hc,hsf,Deferred.ofValue,Sem.run_bind,Sem.run_pure,Result.andThen_ok,invoke,e1];simp
   ·cases h
  ·cases h
 ·cases h
def aCi(P:Program)(k:FuncId)(ps:List PV)(x:PV):Prop:=∀ (I:Mem) (w:World) (us:List Value),VRs I us ps->∃u,(callFunc k us.toArray).run P w = .ok (.value u) w/\VR I u x
def aDg(P:Program)(o:Oper)(ρ:Operand->AV)(W:PV->Prop):Prop:=∃k ps x,dH o ρ=some (k,ps.map AV.p)/\aCi P k ps x/\W x
theorem ana{o:Oper}{ρ:Operand->AV}{W:PV->Prop}(h:aDg P o ρ W){w:World}{σ:Operand->Value}(hσ:∀x,eo I L (σ x) (ρ x)) :
  ∃u x,(execOp σ o).run P w = .ok (.value u) w/\VR I u x/\W x:=by
 obtain⟨k,ps,x,h1,h2,h3⟩:=h;obtain⟨us,hr,hu⟩:=aiD h1 hσ w;obtain⟨u,q1,q2⟩:=h2 I w us ⟨by simpa using hu.1,λj u c hj hc=>(hu.2 j u (.p c) hj (by simp[hc])).nJ⟩;exact⟨u,x,hr.trans q1,q2,h3⟩
def yN(P:Program)(o:Oper)(ρ:Operand->AV)(H:ay)(x:PV):Prop:=∃k eL ps b,dH o ρ=some (k,eL)/\ek (gA H) eL=some (ps,b)/\aS P k ps (λr=>r=x)/\(b=true->x.scalar=true)
def avc(P:Program)(o:Oper)(ρ:Operand->AV)(H:ay)(Kr:PV->Prop):Prop:=∃k eL ps b Q,dH o ρ=some (k,eL)/\ek (gA H) eL=some (ps,b)/\aS P k ps Q/\∀r,Q r->(b=true->r.scalar=true)/\Kr r
theorem w8{o:Oper}{ρ:Operand->AV}{H:ay}{x:PV}{Kr:PV->Prop}(h:yN P o ρ H x)(hk:Kr x):avc P o ρ H Kr:=by obtain⟨k,eL,ps,b,h1,h2,h3,h4⟩:=h;exact⟨k,eL,ps,b,_,h1,h2,h3,λr hr=>by subst hr;exact⟨h4,hk⟩⟩
theorem aj3{o:Oper}{ρ:Operand->AV}{H:ay}{Kr:PV->Prop}(h:avc P o ρ H Kr){C:Ctx}{env:Env}{tm:Array Value}{w:World}(hs:gV C env H I L tm w){σ:Operand->Value}(hσ:∀x,eo I L (σ x) (ρ x)) :
  ∃k args,(execOp σ o).run P w = .ok (.enter k args) w/\Calls P k args w λe w'=>∃v I' x,e = .returned v/\Kr x/\VR I' v x/\Fr C I L H w I' L H w':=by
 obtain⟨k,eL,ps,b,Q,h1,h2,h3,h4⟩:=h;obtain⟨us,hr,hu⟩:=qg h1 h3.1 hσ w;refine⟨k,_,hr,?_⟩;cases b with
 |false =>
  obtain⟨k1,_,k3⟩:=kg (o4 hs (tO H) (lR hs.mem) ((qY L w).g H)) eL ps false h2 us hu.1 hu.2;refine (h3.2 I w us hs.mem ⟨k1,k3 rfl⟩).mono λe w' ⟨v,r,I',q1,q2,q3,q4,q5,q6,q7⟩=>?_
  exact⟨v,I',r,q1,(h4 r q2).2,q3,λenv tm hs=>hs.grow q4 q5 q6 q7⟩
 |true =>
  obtain⟨k1,k2,_⟩:=kg (o4 hs (tO H) (lR hs.mem) ((qY L w).g H)) eL ps true h2 us hu.1 hu.2;refine (h3.2 (snap w) w us (aeI w) ⟨k1,k2⟩).mono λe w' ⟨v,r,I',q1,q2,q3,q4,q5,q6,q7⟩=>?_
  obtain⟨m1,m2⟩:=h4 r q2;exact⟨v,I,r,q1,m2,q3.scalar (m1 rfl),λenv tm hs=>hs.world (q4.mono hs.leB) λb hb=>q4.block b hb⟩
end Go.cr
