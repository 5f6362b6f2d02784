/- Joined texts, part 1: lemmas for the statement. No condition. -/
import Derived.Calls
import Derived.Tactics
import Derived.Orders
import Derived.Below
import Derived.Laws.AppendOwn
import Derived.Deep.MidRow
import Derived.Laws.Strings
import Derived.Laws.StructEq
import Derived.IntWalk
set_option maxHeartbeats 4000000
set_option linter.unusedSimpArgs false
set_option linter.unusedVariables false
open Nat (reduceEqDiff reduceLT reduceLeDiff reduceMul reduceAdd reduceSub)
open Go.IntKind (i64)
namespace Go.cq
theorem cm{p:Prop} [Decidable p](h:decide p=true):p:=of_decide_eq_true h
theorem ew{p:Prop} [Decidable p](h:decide p=false):¬p:=of_decide_eq_false h
theorem dB{p:Prop} [Decidable p](h:p):decide p=true:=decide_eq_true h
theorem eT{p:Prop} [Decidable p](h:¬p):decide p=false:=decide_eq_false h
theorem nR{α:Type}{l:List α}{i:Nat}(h:i<l.length):l[i]∈l:=List.getElem_mem h
theorem cv{α:Type}{a b:α} : (some a=some b)=(a=b):=Option.some.injEq a b
theorem iw{α β:Type}{a c:α}{b d:β} : ((a,b)=(c,d))=(a=c/\b=d):=Prod.mk.injEq a b c d
open Go.RowKit
abbrev Mem:=Nat->Nat->Option Value
def Mem.sub(I J:Mem):Prop:=∀b o u,I b o=some u->J b o=some u
def Mem.inW(I:Mem)(w:World):Prop:=∀b o u,I b o=some u->w.cell? ⟨b,o,none⟩=some u
theorem Mem.dY(I:Mem):I.sub I:=λ_ _ _ h=>h
theorem Mem.lR{I J K:Mem}(h:I.sub J)(k:J.sub K):I.sub K:=λ_ _ _ x=>k _ _ _ (h _ _ _ x)
inductive PV where
 |val (v:Value)
 |emp
 |aV (es:List (List PV))
 |dW (cs:List PV) (off:Nat)
 |agg (cs:List PV)
 |dQ (vs:List PV)
 |ir (fn:Fn) (first captured:List PV)
instance:Inhabited PV:=⟨.val (.bool false)⟩
inductive VR(I:Mem):Value->PV->Prop
 |val (v:Value) (h:v.oneCell'=true):VR I v (.val v)
 |emp (ao:Option Addr):VR I (.slice ao 0 0) .emp
 | aV (ao : Option Addr) (n cap : Nat) (es : List (List PV)) (us : List Value) (sz : Nat)
   (hn:es.length=n) (hsz:∀e∈es,e.length=sz) (hl:us.length=es.flatten.length)
   (hv:∀ (j:Nat) u c,us[j]? = some u->es.flatten[j]? = some c->VR I u c)
   (hone:∀u∈us,u.oneCell'=true)
   (hm:us=[]\/∃b off,ao=some ⟨b,off,none⟩/\∀ (j:Nat) u,us[j]? = some u->I b (off+j)=some u)
   (hnil:ao=none->n=0/\cap=0) (hcap:n<=cap):VR I (.slice ao n cap) (.aV es)
 | dW (b off : Nat) (cs : List PV) (us : List Value) (o : Nat) (hl : us.length = cs.length)
   (hv:∀ (j:Nat) u c,us[j]? = some u->cs[j]? = some c->VR I u c)
   (hone:∀u∈us,u.oneCell'=true)
   (hm:∀ (j:Nat) u,us[j]? = some u->I b (off+j)=some u):VR I (.pointer (some ⟨b,off+o,none⟩)) (.dW cs o)
 | agg (us : List Value) (cs : List PV) (hl : us.length = cs.length)
   (hv:∀ (j:Nat) u c,us[j]? = some u->cs[j]? = some c->VR I u c)
   (hone:∀u∈us,u.oneCell'=true):VR I (.agg us.toArray) (.agg cs)
 | dQ (us : List Value) (cs : List PV) (hl : us.length = cs.length)
   (hv:∀ (j:Nat) u c,us[j]? = some u->cs[j]? = some c->VR I u c):VR I (.tuple us.toArray) (.dQ cs)
 | ir (fn : Fn) (us vs : List Value) (fs cs : List PV) (hl : us.length = fs.length) (hl' : vs.length = cs.length)
   (hv:∀ (j:Nat) u c,us[j]? = some u->fs[j]? = some c->VR I u c)
   (wk:∀ (j:Nat) u c,vs[j]? = some u->cs[j]? = some c->VR I u c):VR I (.func fn us.toArray vs.toArray) (.ir fn fs cs)
theorem VR.mono{I J:Mem}(h:I.sub J){v:Value}{p:PV}(hv:VR I v p):VR J v p:=by
 induction hv with
 |val v h1=>exact .val v h1
 |emp ao=>exact .emp ao
 |aV ao n cap es us sz hn hsz hl _ hone hm hnil hcap ih=>exact .aV ao n cap es us sz hn hsz hl ih hone (hm.imp id λ⟨b,off,e,k⟩=>⟨b,off,e,λj u hu=>h _ _ _ (k j u hu)⟩) hnil hcap
 |dW b off cs us o hl _ hone hm ih=>exact .dW b off cs us o hl ih hone λj u hu=>h _ _ _ (hm j u hu)
 |agg us cs hl _ hone ih=>exact .agg us cs hl ih hone
 |dQ us cs hl _ ih=>exact .dQ us cs hl ih
 |ir fn us vs fs cs hl hl' _ _ ih ih'=>exact .ir fn us vs fs cs hl hl' ih ih'
def PV.one:PV->Bool
 | .agg _ | .dQ _=>false
 |_=>true
theorem VR.one{I:Mem}{v:Value}{p:PV}(h:VR I v p)(hp:p.one=true):v.oneCell'=true:=by cases h<;>first|assumption|rfl|cases hp
def PV.cells:PV->List PV
 | .agg cs=>cs
 |x=>[x]
inductive AV where
 |p (x:PV)
 |row (id bf:Nat)
 |ptr (id off:Nat)
 |jj (id bf i off:Nat)
 |agg (cs:List AV)
 |dQ (vs:List AV)
 |ir (fn:Fn) (first captured:List AV)
 |eO (id bf:Nat)
 |kH (id bf i off:Nat)
 |kI (id bf i:Nat)
 |nj (id bf i j off:Nat)
 |bsl (id n:Nat)
 |iy (id bf off n m sz:Nat)
 |dead
instance:Inhabited AV:=⟨.dead⟩
inductive Loc where
 |box (b:Nat)
 |row (bf:Nat) (bI:Value) (sz:Nat)
 |deep (bf:Nat) (bI:Value) (sz sz':Nat) (di:Nat->Value) (n:Nat)
def Loc.blk:Loc->Option Nat
 | .box b=>some b
 | .row _ bI _=>bI.ownBlock
 | .deep _ bI _ _ _ _=>bI.ownBlock
def Loc.has:Loc->Nat->Prop
 | .box c,b=>c=b
 | .row _ bI _,b=>bI.ownBlock=some b
 | .deep _ bI _ _ di n,b=>bI.ownBlock=some b\/∃i,i<n/\(di i).ownBlock=some b
def yH(bI:Value)(di:Nat->Value)(n:Nat):List Nat:=bI.ownBlock.toList++(List.range n).flatMap λi=>(di i).ownBlock.toList
def Loc.aj3:Loc->List Nat
 | .box b=>[b]
 | .row _ bI _=>bI.ownBlock.toList
 | .deep _ bI _ _ di n=>yH bI di n
theorem abb{bI:Value}{di:Nat->Value}{n b:Nat} : b∈yH bI di n↔bI.ownBlock=some b\/∃i,i<n/\(di i).ownBlock=some b:=by unfold yH;simp[List.mem_flatMap,eq_comm]
theorem Loc.aj4{l:Loc}{b:Nat} : b∈l.aj3↔l.has b:=by
 cases l with
 |box c=>simp[Loc.aj3,Loc.has,eq_comm]
 |row v bI sz=>simp[Loc.aj3,Loc.has]
 |deep v bI sz sz' di n=>exact abb
abbrev bB:=Nat->Option Loc
def dK(L L':bB):Prop:=∀id,match L id with
 |none=>True
 |some (.box b)=>L' id=some (.box b)
 |some (.row v bI sz)=>∃v' eX,L' id=some (.row v' eX sz)/\v<=v'/\(v=v'->bI=eX)
 |some (.deep v bI sz sz' di n)=>∃v' eX lg n',L' id=some (.deep v' eX sz sz' lg n')/\v<=v'/\(v=v'->bI=eX/\di=lg/\n=n')
theorem dK.refl(L:bB):dK L L:=λid=>by
 cases h:L id with
 |none=>trivial
 |some l=>cases l with
  |box b=>rfl
  |row v bI sz=>exact⟨v,bI,rfl,Nat.le_refl _,λ_=>rfl⟩
  |deep v bI sz sz' di n=>exact⟨v,bI,di,n,rfl,Nat.le_refl _,λ_=>⟨rfl,rfl,rfl⟩⟩
theorem dK.box{L L':bB}(h:dK L L'){id b:Nat}(hl:L id=some (.box b)):L' id=some (.box b):=by have:=h id;rw[hl] at this;exact this
theorem dK.row{L L':bB}(h:dK L L'){id v:Nat}{bI:Value}{sz:Nat}(hl:L id=some (.row v bI sz)) :
  ∃v' eX,L' id=some (.row v' eX sz)/\v<=v'/\(v=v'->bI=eX):=by
 have:=h id;rw[hl] at this;exact this
theorem dK.deep{L L':bB}(h:dK L L'){id v:Nat}{bI:Value}{sz sz':Nat}{di:Nat->Value}{n:Nat}(hl:L id=some (.deep v bI sz sz' di n)) :
  ∃v' eX lg n',L' id=some (.deep v' eX sz sz' lg n')/\v<=v'/\(v=v'->bI=eX/\di=lg/\n=n'):=by
 have:=h id;rw[hl] at this;exact this
inductive eC(I:Mem)(L:bB):Value->AV->Prop
 |p (u:Value) (x:PV) (h:VR I u x):eC I L u (.p x)
 |row (u:Value) (id bf v:Nat) (bI:Value) (sz:Nat) (hl:L id=some (.row v bI sz)) (hle:bf<=v) (h:bf=v->u=bI) (h1:u.oneCell'=true):eC I L u (.row id bf)
 |ptr (id b off:Nat) (hl:L id=some (.box b)):eC I L (.pointer (some ⟨b,off,none⟩)) (.ptr id off)
 | jj (u : Value) (id bf v i off : Nat) (bI : Value) (sz : Nat) (hl : L id = some (.row v bI sz)) (hle : bf ≤ v)
   (h:bf=v->∃g o n cap,bI = .slice (some ⟨g,o,none⟩) n cap/\u = .pointer (some ⟨g,o+(i * sz+off),none⟩)) (h1:u.oneCell'=true):eC I L u (.jj id bf i off)
 | agg (us : List Value) (cs : List AV) (hl : us.length = cs.length)
   (hv:∀ (j:Nat) u c,us[j]? = some u->cs[j]? = some c->eC I L u c)
   (hone:∀u∈us,u.oneCell'=true):eC I L (.agg us.toArray) (.agg cs)
 | dQ (us : List Value) (cs : List AV) (hl : us.length = cs.length)
   (hv:∀ (j:Nat) u c,us[j]? = some u->cs[j]? = some c->eC I L u c):eC I L (.tuple us.toArray) (.dQ cs)
 | ir (fn : Fn) (us vs : List Value) (fs cs : List AV) (hl : us.length = fs.length) (hl' : vs.length = cs.length)
   (hv:∀ (j:Nat) u c,us[j]? = some u->fs[j]? = some c->eC I L u c)
   (wk:∀ (j:Nat) u c,vs[j]? = some u->cs[j]? = some c->eC I L u c):eC I L (.func fn us.toArray vs.toArray) (.ir fn fs cs)
 |eO (u:Value) (id bf v:Nat) (bI:Value) (sz sz':Nat) (di:Nat->Value) (n:Nat) (hl:L id=some (.deep v bI sz sz' di n)) (hle:bf<=v) (h:bf=v->u=bI) (h1:u.oneCell'=true):eC I L u (.eO id bf)
 | kH (u : Value) (id bf v i off : Nat) (bI : Value) (sz sz' : Nat) (di : Nat → Value) (n : Nat) (hl : L id = some (.deep v bI sz sz' di n)) (hle : bf ≤ v)
   (h:bf=v->∃g o m cap,bI = .slice (some ⟨g,o,none⟩) m cap/\u = .pointer (some ⟨g,o+(i * sz+off),none⟩)) (h1:u.oneCell'=true):eC I L u (.kH id bf i off)
 |kI (u:Value) (id bf v i:Nat) (bI:Value) (sz sz':Nat) (di:Nat->Value) (n:Nat) (hl:L id=some (.deep v bI sz sz' di n)) (hle:bf<=v) (h:bf=v->u=di i) (h1:u.oneCell'=true):eC I L u (.kI id bf i)
 | nj (u : Value) (id bf v i j off : Nat) (bI : Value) (sz sz' : Nat) (di : Nat → Value) (n : Nat) (hl : L id = some (.deep v bI sz sz' di n)) (hle : bf ≤ v)
   (h:bf=v->∃g o m cap,di i = .slice (some ⟨g,o,none⟩) m cap/\u = .pointer (some ⟨g,o+(j * sz'+off),none⟩)) (h1:u.oneCell'=true):eC I L u (.nj id bf i j off)
 |bsl (id b n:Nat) (hl:L id=some (.box b)):eC I L (.slice (some ⟨b,0,none⟩) n n) (.bsl id n)
 | iy (a : Option Addr) (id bf v off n m c : Nat) (bI : Value) (sz : Nat) (hl : L id = some (.row v bI sz)) (hle : bf ≤ v) (hn : n ≤ m) (hm : m ≤ c) (hz : a = none → c = 0)
   (h:bf=v->∃ao k cap,bI = .slice ao k cap/\c=cap-off/\(off<cap\/off=0->a=ao.map (·.add (off * sz)))):eC I L (.slice a n c) (.iy id bf off n m sz)
 |dead (u:Value):eC I L u .dead
theorem eC.mono{I J:Mem}{L L':bB}(hI:I.sub J)(hL:dK L L'){u:Value}{a:AV}(h:eC I L u a):eC J L' u a:=by
 induction h with
 |p u x h=>exact .p u x (h.mono hI)
 |row u id bf v bI sz hl hle h hone =>
  obtain⟨v',eX,h1,h2,h3⟩:=hL.row hl;refine .row u id bf v' eX sz h1 (Nat.le_trans hle h2) (λe=>?_) hone;have:bf=v:=by omega
  have e2:v=v':=by omega
  rw[h this,h3 e2]
 |ptr id b off hl=>exact .ptr id b off (hL.box hl)
 |jj u id bf v i off bI sz hl hle h hone =>
  obtain⟨v',eX,h1,h2,h3⟩:=hL.row hl;refine .jj u id bf v' i off eX sz h1 (Nat.le_trans hle h2) (λe=>?_) hone;have e1:bf=v:=by omega
  have e2:v=v':=by omega
  rw[<-h3 e2];exact h e1
 |agg us cs hl _ hone ih=>exact .agg us cs hl ih hone
 |dQ us cs hl _ ih=>exact .dQ us cs hl ih
 |ir fn us vs fs cs hl hl' _ _ ih ih'=>exact .ir fn us vs fs cs hl hl' ih ih'
 |eO u id bf v bI sz sz' di n hl hle h hone =>
  obtain⟨v',eX,lg,n',h1,h2,h3⟩:=hL.deep hl;refine .eO u id bf v' eX sz sz' lg n' h1 (Nat.le_trans hle h2) (λe=>?_) hone;have e1:bf=v:=by omega
  rw[h e1,(h3 (by omega)).1]
 |kH u id bf v i off bI sz sz' di n hl hle h hone =>
  obtain⟨v',eX,lg,n',h1,h2,h3⟩:=hL.deep hl;refine .kH u id bf v' i off eX sz sz' lg n' h1 (Nat.le_trans hle h2) (λe=>?_) hone;have e1:bf=v:=by omega
  rw[<- (h3 (by omega)).1];exact h e1
 |kI u id bf v i bI sz sz' di n hl hle h hone =>
  obtain⟨v',eX,lg,n',h1,h2,h3⟩:=hL.deep hl;refine .kI u id bf v' i eX sz sz' lg n' h1 (Nat.le_trans hle h2) (λe=>?_) hone;have e1:bf=v:=by omega
  rw[h e1,(h3 (by omega)).2.1]
 |nj u id bf v i j off bI sz sz' di n hl hle h hone =>
  obtain⟨v',eX,lg,n',h1,h2,h3⟩:=hL.deep hl;refine .nj u id bf v' i j off eX sz sz' lg n' h1 (Nat.le_trans hle h2) (λe=>?_) hone;have e1:bf=v:=by omega
  rw[<- (h3 (by omega)).2.1];exact h e1
 |bsl id b n hl=>exact .bsl id b n (hL.box hl)
 |iy a id bf v off n m c bI sz hl hle hn hm hz h =>
  obtain⟨v',eX,h1,h2,h3⟩:=hL.row hl;refine .iy a id bf v' off n m c eX sz h1 (Nat.le_trans hle h2) hn hm hz (λe=>?_);have e1:bf=v:=by omega
  rw[<-h3 (by omega)];exact h e1
 |dead u=>exact .dead u
inductive Chunk where
 |box (cs:List AV)
 |row (bf:Nat) (e:TypeId) (sz:Nat) (es:List (List PV))
 |shut (bf:Nat) (es:List (List PV))
 |tail (bf:Nat) (e:TypeId) (sz:Nat) (es:List (List PV))
 |deep (bf:Nat) (e:TypeId) (sz k:Nat) (e':TypeId) (sz':Nat) (es:List (List PV))
abbrev Env:=Nat->AV
abbrev ay:=Nat->Option Chunk
def cE(env:Env)(d:Nat)(v:AV):Env:=λt=>if t=d then v else env t
def bk(H:ay)(id:Nat)(c:Chunk):ay:=λi=>if i=id then some c else H i
def cg(L:bB)(id:Nat)(l:Loc):bB:=λi=>if i=id then some l else L i
def fT:Env:=λ_=>.dead
def ck:ay:=λ_=>none
theorem aCa(env:Env)(d:Nat)(v:AV)(t:Nat):cE env d v t=if t=d then v else env t:=rfl
theorem azM(H:ay)(d:Nat)(v:Chunk)(t:Nat):bk H d v t=if t=d then some v else H t:=rfl
theorem au8(env:Env){d e:Nat}(v u:AV)(h:d≠e):cE (cE env d v) e u=cE (cE env e u) d v:=by funext t;simp only[cE];by_cases h1:t=d<;>by_cases h2:t=e<;>simp_all
theorem kM(H:ay){d e:Nat}(v u:Chunk)(h:d≠e):bk (bk H d v) e u=bk (bk H e u) d v:=by funext t;simp only[bk];by_cases h1:t=d<;>by_cases h2:t=e<;>simp_all
structure si(w:World)(B:Nat)(I:Mem)(u:Value)(e:TypeId)(sz:Nat)(es:List (List PV))(us:List Value):Prop where
 own:w.ownsRow B e sz u es.length us
 pos:0<sz
 all:∀x∈es,x.length=sz
 val:∀ (j:Nat) u c,us[j]? = some u->es.flatten[j]? = some c->VR I u c
 one:∀u∈us,u.oneCell'=true
 free:∀b,u.ownBlock=some b->∀o,I b o=none
def fA(k:Nat)(di:Nat->Value):List (List PV)->List (List PV)
 | []=>[]
 |x :: r=>x.set k (.val (di 0)) :: fA k (λi=>di (i+1)) r
def au9(w:World)(B:Nat)(I:Mem)(k:Nat)(e':TypeId)(sz':Nat)(di:Nat->Value)(es:List (List PV)):Prop:=∀i x,es[i]? = some x->∃l us,x[k]? = some (.aV l)/\si w B I (di i) e' sz' l us/\(di i).oneCell'=true
def aeP(bI:Value)(di:Nat->Value)(n:Nat):Prop:=(∀i b,i<n->(di i).ownBlock=some b->bI.ownBlock≠some b)/\∀i j b,i<n->j<n->(di i).ownBlock=some b->(di j).ownBlock=some b->i=j
theorem ahl(di:Nat->Value):∀n:Nat,(∀i j b,i<n->j<n->(di i).ownBlock=some b->(di j).ownBlock=some b->i=j)->((List.range n).flatMap λi=>(di i).ownBlock.toList).Nodup
 |0,_=>by simp
 |n+1,h=>by
  rw[List.range_succ,List.flatMap_append,List.nodup_append];refine⟨ahl di n λi j b hi hj=>h i j b (by omega) (by omega),by cases hb:(di n).ownBlock<;>simp[hb],λa ha b hb e=>?_⟩;subst e;obtain⟨i,hi,ha⟩:=List.mem_flatMap.1 ha;have hb':(di n).ownBlock=some a:=by simpa using hb
  have hi':=List.mem_range.1 hi;have:=h i n a (by omega) (by omega) (by simpa using ha) hb';omega
theorem aiC{bI:Value}{di:Nat->Value}{n:Nat}(h:aeP bI di n):(yH bI di n).Nodup:=by unfold yH;rw[List.nodup_append];refine⟨by cases bI.ownBlock<;>simp,ahl di n h.2,λa ha b hb e=>?_⟩;subst e;obtain⟨i,hi,hb⟩:=List.mem_flatMap.1 hb;exact h.1 i a (List.mem_range.1 hi) (by simpa using hb) (by simpa using ha)
def qh(I:Mem)(L:bB)(w:World)(B:Nat)(id:Nat):Chunk->Prop
 | .box cs => ∃ (b : Nat) (arr : Array Value) (e : TypeId), L id = some (.box b) ∧ w.heap[b]? = some (.cells arr e (0, 0)) ∧ arr.size = cs.length ∧
   (∀ (j:Nat) u c,arr[j]? = some u->cs[j]? = some c->eC I L u c)/\(∀ (j:Nat) u,arr[j]? = some u->u.oneCell'=true)/\∀o,I b o=none
 | .row bf e sz es => ∃ (bI : Value) (us : List Value), L id = some (.row bf bI sz) ∧ w.ownsRow B e sz bI es.length us ∧ 0 < sz ∧ (∀ x ∈ es, x.length = sz) ∧
   (∀ (j:Nat) u c,us[j]? = some u->es.flatten[j]? = some c->VR I u c)/\(∀u∈us,u.oneCell'=true)/\∀b,bI.ownBlock=some b->∀o,I b o=none
 | .shut bf es=>∃ (bI:Value) (sz:Nat),L id=some (.row bf bI sz)/\VR I bI (.aV es)/\(∀x∈es,x.length=sz)/\(es≠[]->∃g o n cap,bI = .slice (some ⟨g,o,none⟩) n cap)
 | .tail bf e sz es => ∃ (g o cap : Nat) (arr : Array Value), L id = some (.row bf (.slice (some ⟨g, o, none⟩) es.length cap) sz) ∧ w.heap[g]? = some (.cells arr e (0, 0)) ∧ o + cap * sz ≤ arr.size ∧ es.length ≤ cap ∧ 0 < sz ∧
   (∀x∈es,x.length=sz)/\VR I (.slice (some ⟨g,o,none⟩) es.length cap) (.aV es)/\∀j,o+es.length * sz<=j->j<o+cap * sz->I g j=none
 | .deep bf e sz k e' sz' es => ∃ (bI : Value) (us : List Value) (di : Nat → Value), L id = some (.deep bf bI sz sz' di es.length) ∧ si w B I bI e sz (fA k di es) us ∧ bI.oneCell' = true ∧ k < sz ∧ (∀ x ∈ es, x.length = sz) ∧
   au9 w B I k e' sz' di es/\aeP bI di es.length
structure Ctx where
 w0:World
 I0:Mem
 n:Nat
 B:Nat
 am6:Nat->Prop
 L0:bB
 hB:B<=w0.heap.size
 hL0:∀i l,L0 i=some l->1000000<=i
def Ctx.of(w:World)(I:Mem)(n:Nat):Ctx:=⟨w,I,n,w.heap.size,λ_=>False,λ_=>none,Nat.le_refl _,λ_ _ h=>by cases h⟩
structure gU(C:Ctx)(env:Env)(H:ay)(I:Mem)(L:bB)(tmps:Array Value)(w:World):Prop where
 below:Below C.B C.w0 w
 mem:I.inW w
 kT:C.I0.sub I
 lS:∀b,b<C.w0.heap.size->¬ C.am6 b->∀o,I b o=C.I0 b o
 frame:∀b,b<C.w0.heap.size->¬ C.am6 b->w.heap[b]? = C.w0.heap[b]?
 loc:dK C.L0 L
 jy:∀id l b,L id=some l->l.has b->C.w0.heap.size<=b\/C.am6 b
 size:tmps.size=C.n
 env:∀t,eC I L (tmps.getD t undef) (env t)
 dom:∀id l,L id=some l->∃ch,H id=some ch
 chunk:∀id ch,H id=some ch->qh I L w C.B id ch
 fL:∀id l b,L id=some l->l.has b->C.B<=b/\b<w.heap.size
 apart:∀i j li lj b,L i=some li->L j=some lj->li.has b->lj.has b->i=j
theorem gU.leB{C:Ctx}{env:Env}{H:ay}{I:Mem}{L:bB}{tmps:Array Value}{w:World}(h:gU C env H I L tmps w):C.B<=w.heap.size:=Nat.le_trans C.hB h.below.size
theorem dK.trans{L L1 L2:bB}(h:dK L L1)(k:dK L1 L2):dK L L2:=λid=>by
 cases hL:L id with
 |none=>trivial
 |some l =>
  cases l with
  |box b=>exact k.box (h.box hL)
  |row v bI sz =>
   obtain⟨v1,jI,k1,k2,k3⟩:=h.row hL;obtain⟨v2,ava,m1,m2,m3⟩:=k.row k1;exact⟨v2,ava,m1,Nat.le_trans k2 m2,λe=>by
    have e1:v=v1:=by omega
    have e2:v1=v2:=by omega
    rw[k3 e1,m3 e2]⟩
  |deep v bI sz sz' di n =>
   obtain⟨v1,jI,qJ,n1,k1,k2,k3⟩:=h.deep hL;obtain⟨v2,ava,aGE,n2,m1,m2,m3⟩:=k.deep k1;exact⟨v2,ava,aGE,n2,m1,Nat.le_trans k2 m2,λe=>by
    have e1:v=v1:=by omega
    have e2:v1=v2:=by omega
    obtain⟨a1,a2,a3⟩:=k3 e1;obtain⟨b1,b2,b3⟩:=m3 e2;exact⟨a1.trans b1,a2.trans b2,a3.trans b3⟩⟩
theorem Mem.inW.keep{I:Mem}{w w':World}(h:I.inW w)(hk:∀b,(∃o u,I b o=some u)->w'.heap[b]? = w.heap[b]?):I.inW w':=λb o u hu=>by have:=h b o u hu;rw[World.cell?_of_block (w:=w) (hk b ⟨o,u,hu⟩)];exact this
theorem Mem.inW.lt{I:Mem}{w:World}(h:I.inW w){b o:Nat}{u:Value}(hu:I b o=some u):b<w.heap.size:=World.block_lt_of_cell? w ⟨b,o,none⟩ (h b o u hu)
theorem wm{w w':World}{B:Nat}{e:TypeId}{sz:Nat}{v:Value}{n:Nat}{xs:List Value}(h:w.ownsRow B e sz v n xs)
  (hk:∀b,v.ownBlock=some b->w'.heap[b]? = w.heap[b]?):w'.ownsRow B e sz v n xs:=by
 refine⟨h.1,?_⟩;rcases h.2 with hn|⟨g,cap,cur,rfl,hb,hgg,rest⟩
 ·exact .inl hn
 ·refine .inr ⟨g,cap,cur,rfl,hb,?_,rest⟩;rw[hk g rfl];exact hgg
theorem si.keep{I I':Mem}{w w':World}{B:Nat}{u:Value}{e:TypeId}{sz:Nat}{es:List (List PV)}{us:List Value}(h:si w B I u e sz es us)(hI:I.sub I')
  (hk:∀b,u.ownBlock=some b->w'.heap[b]? = w.heap[b]?/\∀o,I' b o=I b o):si w' B I' u e sz es us :=
 ⟨wm h.own λb hb=>(hk b hb).1,h.pos,h.all,λj u c hu hc=>(h.val j u c hu hc).mono hI,h.one,λb hb o=>by rw[(hk b hb).2];exact h.free b hb o⟩
theorem fI(k:Nat):∀ (di:Nat->Value) (es:List (List PV)),(fA k di es).length=es.length
 |_,[]=>rfl
 |di,x :: r=>by simp[fA,fI k _ r]
theorem tT(k:Nat):∀ (di:Nat->Value) (es:List (List PV)) (i:Nat),(fA k di es)[i]? = es[i]?.map λx=>x.set k (.val (di i))
 |_,[],i=>by simp[fA]
 |di,x :: r,0=>by simp[fA]
 |di,x :: r,i+1=>by simp[fA,tT k _ r i]
theorem qh.keep{I I':Mem}{L L':bB}{w w':World}{B id:Nat}{ch:Chunk}(h:qh I L w B id ch)(hI:I.sub I')(hL:dK L L')
  (hid:L' id=L id) (hk:∀l b,L id=some l->l.has b->w'.heap[b]? = w.heap[b]?/\∀o,I' b o=I b o):qh I' L' w' B id ch:=by
 cases ch with
 |box cs=>obtain⟨b,arr,e,h1,h2,h3,h4,h5,h6⟩:=h;obtain⟨k1,k2⟩:=hk _ b h1 rfl;exact⟨b,arr,e,hid.trans h1,k1.trans h2,h3,λj u c hu hc=>(h4 j u c hu hc).mono hI hL,h5,λo=>by rw[k2];exact h6 o⟩
 |row bf e sz es =>
  obtain⟨bI,us,h1,h2,h3,h4,h5,h6,h7⟩:=h;exact⟨bI,us,hid.trans h1,wm h2 λb hb=>(hk _ b h1 hb).1,h3,h4,λj u c hu hc=>(h5 j u c hu hc).mono hI,h6,
   λb hb o=>by rw[(hk _ b h1 hb).2];exact h7 b hb o⟩
 |shut bf es=>obtain⟨bI,sz,h1,h2,h3⟩:=h;exact⟨bI,sz,hid.trans h1,h2.mono hI,h3⟩
 |tail bf e sz es=>obtain⟨g,o,cap,arr,h1,h2,h3,h4,h5,h6,h7,h8⟩:=h;obtain⟨k1,k2⟩:=hk _ g h1 rfl;exact⟨g,o,cap,arr,hid.trans h1,k1.trans h2,h3,h4,h5,h6,h7.mono hI,λj a b=>by rw[k2];exact h8 j a b⟩
 |deep bf e sz k e' sz' es=>obtain⟨bI,us,di,h1,h2,h3,h4,h5,h6,h7⟩:=h;refine⟨bI,us,di,hid.trans h1,h2.keep hI λb hb=>hk _ b h1 (.inl hb),h3,h4,h5,λi x hx=>?_,h7⟩;obtain⟨l,us',q1,q2,q3⟩:=h6 i x hx;exact⟨l,us',q1,q2.keep hI λb hb=>hk _ b h1 (.inr ⟨i,(List.getElem?_eq_some_iff.1 hx).1,hb⟩),q3⟩
theorem gU.world{C:Ctx}{env:Env}{H:ay}{I:Mem}{L:bB}{tmps:Array Value}{w w':World}(h:gU C env H I L tmps w)
  (hb:Below C.B w w') (hk:∀b,b<w.heap.size->w'.heap[b]? = w.heap[b]?):gU C env H I L tmps w' where
 below:=h.below.trans hb
 mem:=h.mem.keep λb ⟨o,u,hu⟩=>hk b (h.mem.lt hu)
 kT:=h.kT
 lS:=h.lS
 frame:=λb hb hl=>(hk b (Nat.lt_of_lt_of_le hb h.below.size)).trans (h.frame b hb hl)
 loc:=h.loc
 jy:=h.jy
 size:=h.size
 env:=h.env
 dom:=h.dom
 chunk:=λid ch hch=>(h.chunk id ch hch).keep (Mem.dY I) (dK.refl L) rfl λl b hl hlb=>⟨hk b (h.fL id l b hl hlb).2,λ_=>rfl⟩
 fL:=λid l b hl hlb=>⟨(h.fL id l b hl hlb).1,Nat.lt_of_lt_of_le (h.fL id l b hl hlb).2 hb.size⟩
 apart:=h.apart
theorem gU.grow{C:Ctx}{env:Env}{H:ay}{I I':Mem}{L:bB}{tmps:Array Value}{w w':World}(h:gU C env H I L tmps w)
  (hb:Below w.heap.size w w') (hI:I.sub I') (hw:I'.inW w') (hn:∀b,b<w.heap.size->∀o,I' b o=I b o):gU C env H I' L tmps w' where
 below:=h.below.trans (hb.mono h.leB)
 mem:=hw
 kT:=Mem.lR h.kT hI
 lS:=λb hlt hl o=>by rw[hn b (Nat.lt_of_lt_of_le hlt h.below.size)];exact h.lS b hlt hl o
 frame:=λb hlt hl=>(hb.block b (Nat.lt_of_lt_of_le hlt h.below.size)).trans (h.frame b hlt hl)
 loc:=h.loc
 jy:=h.jy
 size:=h.size
 env:=λt=>(h.env t).mono hI (dK.refl L)
 dom:=h.dom
 chunk:=λid ch hch=>(h.chunk id ch hch).keep hI (dK.refl L) rfl λl b hl hlb=>⟨hb.block b (h.fL id l b hl hlb).2,hn b (h.fL id l b hl hlb).2⟩
 fL:=λid l b hl hlb=>⟨(h.fL id l b hl hlb).1,Nat.lt_of_lt_of_le (h.fL id l b hl hlb).2 hb.size⟩
 apart:=h.apart
theorem avb(tmps:Array Value)(d t:Nat)(v:Value)(hd:d<tmps.size):(tmps.setIfInBounds d v).getD t undef=if t=d then v else tmps.getD t undef:=by
 by_cases h:t=d
 ·subst h;simp[hd]
 ·have h':d≠t:=λe=>h e.symm
  simp[Array.getElem?_setIfInBounds,h,h']
theorem gU.put{C:Ctx}{env:Env}{H:ay}{I:Mem}{L:bB}{tmps:Array Value}{w:World}(h:gU C env H I L tmps w)
  {d:Nat} {v:Value} {a:AV} (hd:d<C.n) (ha:eC I L v a):gU C (cE env d a) H I L (tmps.setIfInBounds d v) w :=
 {h with
  size:=by simpa using h.size
  env:=λt=>by
   rw[avb _ _ _ _ (by rw[h.size];exact hd)];unfold cE;split
   ·exact ha
   ·exact h.env t }
theorem dK.uj{L:bB}{id:Nat}(h:L id=none)(l:Loc):dK L (cg L id l):=λi=>by
 by_cases hi:i=id
 ·subst hi;rw[h];trivial
 ·have:cg L id l i=L i:=by simp[cg,hi]
  rw[this];exact dK.refl L i
theorem gU.sj{C:Ctx}{env:Env}{H:ay}{I:Mem}{L:bB}{tmps:Array Value}{w:World}(h:gU C env H I L tmps w){id:Nat}(hid:H id=none):L id=none:=by
 cases hL:L id with
 |none=>rfl
 |some l=>obtain⟨ch,hch⟩:=h.dom id l hL;rw[hid] at hch;cases hch
theorem aeF{I:Mem}{w:World}(h:I.inW w)(o:Nat):I w.heap.size o=none:=by
 cases hI:I w.heap.size o with
 |none=>rfl
 |some u=>exact absurd (h.lt hI) (Nat.lt_irrefl _)
theorem gU.new{C:Ctx}{env:Env}{H:ay}{I:Mem}{L:bB}{tmps:Array Value}{w w':World}(h:gU C env H I L tmps w)
  (hb:Below C.B w w') (hk:∀b,b<w.heap.size->w'.heap[b]? = w.heap[b]?) {id:Nat} (hid:H id=none) (l:Loc) (ch:Chunk)
  (hch:qh I (cg L id l) w' C.B id ch) (hl:∀b,l.has b->w.heap.size<=b/\b<w'.heap.size):gU C env (bk H id ch) I (cg L id l) tmps w':=by
 have hL:=h.sj hid;have hle:=dK.uj hL l;have hw:=h.world hb hk;exact
 {hw with
  env:=λt=>(h.env t).mono (Mem.dY I) hle
  dom:=λi li hi=>by
   by_cases e:i=id
   ·exact⟨ch,by simp[bk,e]⟩
   ·obtain⟨c,hc⟩:=h.dom i li (by simpa[cg,e] using hi);exact⟨c,by simpa[bk,e] using hc⟩
  chunk:=λi c hc=>by
   by_cases e:i=id
   ·subst e;have:ch=c:=by simpa[bk] using hc
    subst this;exact hch
   ·exact (hw.chunk i c (by simpa[bk,e] using hc)).keep (Mem.dY I) hle (by simp[cg,e]) λ_ _ _ _=>⟨rfl,λ_=>rfl⟩
  loc:=hw.loc.trans hle
  jy:=λi li b hi hlb=>by
   by_cases e:i=id
   ·subst e;have:l=li:=by simpa[cg] using hi
    subst this;exact .inl (Nat.le_trans h.below.size (hl b hlb).1)
   ·exact hw.jy i li b (by simpa[cg,e] using hi) hlb
  fL:=λi li b hi hlb=>by
   by_cases e:i=id
   ·subst e;have:l=li:=by simpa[cg] using hi
    subst this;exact⟨Nat.le_trans h.leB (hl b hlb).1,(hl b hlb).2⟩
   ·exact hw.fL i li b (by simpa[cg,e] using hi) hlb
  apart:=λi j li lj b hi hj qX uY=>by
   by_cases ei:i=id<;>by_cases ej:j=id
   ·rw[ei,ej]
   ·subst ei;have:l=li:=by simpa[cg] using hi
    subst this;have h1:=hl b qX;have h2:=h.fL j lj b (by simpa[cg,ej] using hj) uY;omega
   ·subst ej;have:l=lj:=by simpa[cg] using hj
    subst this;have h1:=hl b uY;have h2:=h.fL i li b (by simpa[cg,ei] using hi) qX;omega
   ·exact h.apart i j li lj b (by simpa[cg,ei] using hi) (by simpa[cg,ej] using hj) qX uY }
theorem gU.turn{C:Ctx}{env:Env}{H:ay}{I:Mem}{L:bB}{tmps:Array Value}{w w':World}(h:gU C env H I L tmps w)
  (hb:Below C.B w w') {id:Nat} {l l':Loc} (hl:L id=some l) (hk:∀b,b<w.heap.size->¬ l.has b->w'.heap[b]? = w.heap[b]?)
  (hle:dK L (cg L id l')) (hfree:∀b,l.has b->∀o,I b o=none) (ch:Chunk)
  (hch:qh I (cg L id l') w' C.B id ch) (hl':∀b,l'.has b->l.has b\/(w.heap.size<=b/\b<w'.heap.size)):gU C env (bk H id ch) I (cg L id l') tmps w' where
 below:=h.below.trans hb
 mem:=h.mem.keep λb ⟨o,u,hu⟩=>hk b (h.mem.lt hu) λe=>by rw[hfree b e o] at hu;cases hu
 kT:=h.kT
 lS:=h.lS
 frame:=λb hlt hf=>by
  have hlt':=Nat.lt_of_lt_of_le hlt h.below.size;refine (hk b hlt' λe=>?_).trans (h.frame b hlt hf);rcases h.jy id l b hl e with h1|h1
  ·omega
  ·exact hf h1
 loc:=h.loc.trans hle
 jy:=λi li b hi hlb=>by
  by_cases e:i=id
  ·subst e;have:l'=li:=by simpa[cg] using hi
   subst this;rcases hl' b hlb with k|k
   ·exact h.jy i l b hl k
   ·exact .inl (Nat.le_trans h.below.size k.1)
  ·exact h.jy i li b (by simpa[cg,e] using hi) hlb
 size:=h.size
 env:=λt=>(h.env t).mono (Mem.dY I) hle
 dom:=λi li hi=>by
  by_cases e:i=id
  ·exact⟨ch,by simp[bk,e]⟩
  ·obtain⟨c,hc⟩:=h.dom i li (by simpa[cg,e] using hi);exact⟨c,by simpa[bk,e] using hc⟩
 chunk:=λi c hc=>by
  by_cases e:i=id
  ·subst e;have:ch=c:=by simpa[bk] using hc
   subst this;exact hch
  ·refine (h.chunk i c (by simpa[bk,e] using hc)).keep (Mem.dY I) hle (by simp[cg,e]) λli b hi qX=>⟨hk b (h.fL i li b hi qX).2 λeb=>e (h.apart i id li l b hi hl qX eb),λ_=>rfl⟩
 fL:=λi li b hi hlb=>by
  by_cases e:i=id
  ·subst e;have:l'=li:=by simpa[cg] using hi
   subst this;rcases hl' b hlb with k|k
   ·exact⟨(h.fL i l b hl k).1,Nat.lt_of_lt_of_le (h.fL i l b hl k).2 hb.size⟩
   ·exact⟨Nat.le_trans h.leB k.1,k.2⟩
  ·have:=h.fL i li b (by simpa[cg,e] using hi) hlb;exact⟨this.1,Nat.lt_of_lt_of_le this.2 hb.size⟩
 apart:=λi j li lj b hi hj qX uY=>by
  by_cases ei:i=id<;>by_cases ej:j=id
  ·rw[ei,ej]
  ·subst ei;have:l'=li:=by simpa[cg] using hi
   subst this;have h2:=h.fL j lj b (by simpa[cg,ej] using hj) uY;rcases hl' b qX with k|k
   ·exact h.apart i j l lj b hl (by simpa[cg,ej] using hj) k uY
   ·omega
  ·subst ej;have:l'=lj:=by simpa[cg] using hj
   subst this;have h2:=h.fL i li b (by simpa[cg,ei] using hi) qX;rcases hl' b uY with k|k
   ·exact h.apart i j li l b (by simpa[cg,ei] using hi) hl qX k
   ·omega
  ·exact h.apart i j li lj b (by simpa[cg,ei] using hi) (by simpa[cg,ej] using hj) qX uY
def cM(P:Program)(t:TypeId):Option TypeId:=match P.underlying t with|some (.slice e)=>some e|_=>none
def bz(P:Program)(t:TypeId):Option Nat:=(P.info? t).map (·.size)
def abU(P:Program)(t:TypeId):Option Nat:=(P.info? t).map (·.bytes)
def cN(P:Program)(t:TypeId):Option (List Value):=(P.info? t).bind λi=>i.zero.map λz=>z.cells.toList
def fM(P:Program)(t:TypeId):Option Bool:=(P.underlying t).map (·.isRow)
def bR(P:Program)(s:TypeId)(k:Nat):Option (Nat×Nat):=match P.underlying s with
 |some (.struct fs)=>(fs[k]?).bind λf=>(bz P f.type).map λn=>(f.offset,n)
 |_=>none
def wo(P:Program)(t:TypeId):Option (Nat×TypeId):=match P.underlying t with|some (.array n e)=>some (n,e)|_=>none
def aj5(P:Program)(t:TypeId):Option IntKind:=match P.underlying t with|some (.int k)=>some k|_=>none
def yI(P:Program)(t:TypeId):Bool:=match P.underlying t with|some .string=>true|_=>false
def yJ(v:Value):AV:=match v with
 | .agg cs=>if cs.toList.all (·.oneCell') then .p (.agg (cs.toList.map PV.val)) else .dead
 | .tuple _=>.dead
 |v=>.p (.val v)
def ev(env:Env):Operand->AV
 | .tmp t=>env t
 | .const v=>yJ v
 | .global _=>.dead
 | .func f=>.p (.ir (.func f) [] [])
theorem aiD(I:Mem)(L:bB)(v:Value):eC I L v (yJ v):=by
 unfold yJ;split
 ·rename_i cs;split
  ·rename_i h;rw[List.all_eq_true] at h;have:=VR.agg (I:=I) cs.toList (cs.toList.map PV.val) (by simp) (λj u c hu hc=>by
    rw[List.getElem?_map,hu] at hc;simp at hc;subst hc;exact .val u (h u (List.mem_of_getElem? hu))) h
   exact .p _ _ (by simpa using this)
  ·exact .dead _
 ·exact .dead _
 ·rename_i h1 h2;refine .p _ _ (.val _ ?_);cases v with
  |agg cs=>exact (h1 _ rfl).elim
  |tuple cs=>exact (h2 _ rfl).elim
  |_=>rfl
theorem uk{C:Ctx}{env:Env}{H:ay}{I:Mem}{L:bB}{tmps:Array Value}{w:World}(h:gU C env H I L tmps w)(ds:List Deferred)(x:Operand) :
  eC I L ((⟨tmps,ds⟩:Act).eval x) (ev env x):=by
 cases x with
 |tmp t=>exact h.env t
 |const v=>exact aiD I L v
 |global g=>exact .dead _
 |func f=>exact .p _ _ (.ir (.func f) [] [] [] [] rfl rfl (by simp) (by simp))
def tB:List AV->Option (List PV)
 | []=>some []
 | .p x :: r=>match tB r with|some ps=>some (x :: ps)|none=>none
 |_ :: _=>none
theorem tU:∀ {cs:List AV} {ps:List PV},tB cs=some ps->cs=ps.map AV.p
 | [],ps,h=>by simp[tB] at h;subst h;rfl
 |a :: r,ps,h=>by
  cases a<;>simp[tB] at h
  rename_i x;split at h
  ·rename_i qs hq;simp at h;subst h;simp[tU hq]
  ·simp at h
def xZ(cs:List AV):AV:=match tB cs with|some ps=>.p (.agg ps)|none=>.agg cs
def n9:AV->Bool
 | .p x=>x.one
 | .row _ _ | .ptr _ _ | .jj _ _ _ _ | .ir _ _ _ | .eO _ _ | .kH _ _ _ _ | .kI _ _ _ | .nj _ _ _ _ _ | .bsl _ _ | .iy _ _ _ _ _ _=>true
 |_=>false
theorem eC.one{I:Mem}{L:bB}{u:Value}{a:AV}(h:eC I L u a)(ha:n9 a=true):u.oneCell'=true:=by cases h<;>first|assumption|rfl|(cases ha;done)|exact VR.one (by assumption) ha
theorem eC.nZ{I:Mem}{L:bB}{u:Value}{x:PV}(h:eC I L u (.p x)):VR I u x:=by cases h;assumption
theorem vk{I:Mem}{L:bB}{us:List Value}{cs:List AV}(hl:us.length=cs.length)
  (hv:∀ (j:Nat) u c,us[j]? = some u->cs[j]? = some c->eC I L u c) (hone:∀u∈us,u.oneCell'=true):eC I L (.agg us.toArray) (xZ cs):=by
 unfold xZ;split
 ·rename_i ps h;have e:=tU h;subst e;refine .p _ _ (.agg us ps (by simpa using hl) (λj u c hu hc=>?_) hone);exact (hv j u (.p c) hu (by rw[List.getElem?_map,hc];rfl)).nZ
 ·exact .agg us cs hl hv hone
def b5:AV->List AV
 | .agg cs=>cs
 | .p (.agg cs)=>cs.map AV.p
 |x=>[x]
def splice{α:Type}(cs:List α)(off:Nat)(new:List α):List α:=cs.take off++new++cs.drop (off+new.length)
theorem ep{α:Type}{cs:List α}{off:Nat}{new:List α}(h:off+new.length<=cs.length):(splice cs off new).length=cs.length:=by simp[splice];omega
theorem abc{α β:Type}{R:α->β->Prop}{us:List α}{cs:List β}{off:Nat}{un:List α}{cn:List β}(hl:us.length=cs.length)(hn:un.length=cn.length)
  (hv:∀ (j:Nat) u c,us[j]? = some u->cs[j]? = some c->R u c) (hw:∀ (j:Nat) u c,un[j]? = some u->cn[j]? = some c->R u c) :
  ∀ (j:Nat) u c,(splice us off un)[j]? = some u->(splice cs off cn)[j]? = some c->R u c:=by
 intro j u c hu hc;unfold splice at hu hc;simp only[List.append_assoc,List.getElem?_append,List.length_take,hl,List.getElem?_take,List.getElem?_drop,hn] at hu hc;split at hu
 ·rename_i h1;rw[if_pos h1] at hc;split at hu
  ·rename_i h2;rw[if_pos h2] at hc;exact hv _ _ _ hu hc
  ·cases hu
 ·rename_i h1;rw[if_neg h1] at hc;split at hu
  ·rename_i h2;rw[if_pos h2] at hc;exact hw _ _ _ hu hc
  ·rename_i h2;rw[if_neg h2] at hc;exact hv _ _ _ hu hc
theorem eC.cells{I:Mem}{L:bB}{u:Value}{a:AV}(h:eC I L u a)(hd:∀c∈b5 a,n9 c=true) :
  ∃us:List Value,u.cells=us.toArray/\us.length=(b5 a).length/\(∀ (j:Nat) u c,us[j]? = some u->(b5 a)[j]? = some c->eC I L u c):=by
 have single:(b5 a=[a])->u.cells = #[u]->∃us:List Value,u.cells=us.toArray/\us.length=(b5 a).length/\(∀ (j:Nat) u c,us[j]? = some u->(b5 a)[j]? = some c->eC I L u c):=by
  intro h1 h2;refine⟨[u],h2,by simp[h1],λj v c hv hc=>?_⟩;rw[h1] at hc;cases j with
  |zero=>simp at hv hc;subst hv;subst hc;exact h
  |succ j=>simp at hv
 cases h with
 |p _ x hx =>
  cases hx with
  |val v h1=>exact single rfl (by cases u<;>first|rfl|cases h1)
  |emp=>exact single rfl rfl
  |aV=>exact single rfl rfl
  |dW=>exact single rfl rfl
  |agg us cs hl hv hone =>
   exact⟨us,rfl,by simp[b5,hl],λj u c hu hc=>by
    simp only[b5,List.getElem?_map] at hc;cases hcj:cs[j]? with
    |none=>simp[hcj] at hc
    |some c'=>simp[hcj] at hc;subst hc;exact .p _ _ (hv j u c' hu hcj)⟩
  |dQ us cs hl hv=>simp[b5,n9,PV.one] at hd
  |ir=>exact single rfl rfl
 |row _ id bf v bI sz hl hle hh h1=>exact single rfl (by cases u<;>first|rfl|cases h1)
 |ptr=>exact single rfl rfl
 |jj _ id bf v i off bI sz hl hle hh h1=>exact single rfl (by cases u<;>first|rfl|cases h1)
 |bsl=>exact single rfl rfl
 |iy=>exact single rfl rfl
 |eO _ _ _ _ _ _ _ _ _ _ _ _ h1=>exact single rfl (by cases u<;>first|rfl|cases h1)
 |kH _ _ _ _ _ _ _ _ _ _ _ _ _ _ h1=>exact single rfl (by cases u<;>first|rfl|cases h1)
 |kI _ _ _ _ _ _ _ _ _ _ _ _ _ h1=>exact single rfl (by cases u<;>first|rfl|cases h1)
 |nj _ _ _ _ _ _ _ _ _ _ _ _ _ _ _ h1=>exact single rfl (by cases u<;>first|rfl|cases h1)
 |agg us cs hl hv hone=>exact⟨us,rfl,hl,hv⟩
 |dQ us cs hl hv=>simp[b5,n9] at hd
 |ir=>exact single rfl rfl
 |dead=>simp[b5,n9] at hd
variable{P:Program}
theorem fV{w:World}{b:Nat}{arr:Array Value}{e:TypeId}{f:Nat×Nat}(h:w.heap[b]? = some (.cells arr e f))(j:Nat):w.cell? ⟨b,j,none⟩=arr[j]?:=by simp[World.cell?,h]
def sk(P:Program)(t:TypeId)(cs:List AV)(off:Nat):Option AV:=match fM P t with
 |some true=>match bz P t with
  |some n=>if off+n<=cs.length then some (xZ ((cs.drop off).take n)) else none
  |none=>none
 |some false=>cs[off]?
 |none=>none
def sq(P:Program)(t:TypeId)(cs:List PV)(off:Nat):Option PV:=match fM P t with
 |some true=>match bz P t with
  |some n=>if off+n<=cs.length then some (.agg ((cs.drop off).take n)) else none
  |none=>none
 |some false=>cs[off]?
 |none=>none
theorem abd{t:TypeId}{g:Bool}(h:fM P t=some g):∃d,P.underlying t=some d/\d.isRow=g:=by
 unfold fM at h;cases hu:P.underlying t with
 |none=>simp[hu] at h
 |some d=>exact⟨d,rfl,by simpa[hu] using h⟩
theorem ael{t:TypeId}{d:TypeDesc}(hu:P.underlying t=some d)(hd:d.isRow=false)(w:World)(a:Addr){u:Value}(hc:w.cell? a=some u) :
  (loadVar t a).run P w = .ok u w:=by
 have hagg:(isAgg t).run P w = .ok false w:=by unfold isAgg;rw[Sem.run_bind,run_underlying hu w];cases d<;>simp_all
 simp[loadVar,Sem.run_bind,hagg,load,Sem.run,hc]
theorem aam{I:Mem}{L:bB}{w:World}{t:TypeId}{b base off:Nat}{us:List Value}{cs:List AV}{v:AV}(h:sk P t cs off=some v)
  (hl:us.length=cs.length) (hv:∀ (j:Nat) u c,us[j]? = some u->cs[j]? = some c->eC I L u c) (h1:∀u∈us,u.oneCell'=true)
  (hm:∀ (j:Nat) u,us[j]? = some u->w.cell? ⟨b,base+j,none⟩=some u) :
  ∃u,(loadVar t ⟨b,base+off,none⟩).run P w = .ok u w/\eC I L u v:=by
 unfold sk at h;split at h
 ·rename_i hg;obtain⟨d,hu,hd⟩:=abd hg;split at h
  ·rename_i n hn;split at h
   ·rename_i hle;simp at h;subst h;have hlen:((us.drop off).take n).length=n:=by simp;omega
    refine⟨_,run_loadVar_mid w b (base+off) t ((us.drop off).take n) d (λj u hu=>?_) hu hd ?_,vk ?_ ?_ ?_⟩
    ·rw[List.getElem?_take] at hu;split at hu
     ·rw[List.getElem?_drop] at hu;rw[Nat.add_assoc];exact hm _ u hu
     ·cases hu
    ·rw[hlen];exact hn
    ·simp[hl]
    ·intro j u c hu hc;rw[List.getElem?_take] at hu hc;split at hu
     ·rename_i hj;rw[if_pos hj] at hc;rw[List.getElem?_drop] at hu hc;exact hv _ u c hu hc
     ·cases hu
    ·intro u hu;exact h1 u (List.mem_of_mem_drop (List.mem_of_mem_take hu))
   ·simp at h
  ·simp at h
 ·rename_i hg;obtain⟨d,hu,hd⟩:=abd hg;have hlt:off<cs.length:=(List.getElem?_eq_some_iff.1 h).1;have hs:us[off]? = some (us[off]'(by omega)):=by simp
  exact⟨_,ael hu hd w _ (hm off _ hs),hv off _ _ hs h⟩
 ·simp at h
theorem azN{t:TypeId}{cs:List PV}{off:Nat}{x:PV}(h:sq P t cs off=some x):sk P t (cs.map AV.p) off=some (.p x):=by
 have hp:∀l:List PV,tB (l.map AV.p)=some l:=λl=>by induction l with|nil=>rfl|cons a r ih=>simp[tB,ih]
 unfold sq at h;unfold sk;split at h
 ·split at h
  ·split at h
   ·rename_i hle;simp at h;subst h;rw[if_pos (by simpa using hle),<-List.map_drop,<-List.map_take];simp only[xZ,hp]
   ·simp at h
  ·simp at h
 ·rw[List.getElem?_map,h];rfl
 ·simp at h
theorem ahm{I:Mem}{w:World}{t:TypeId}{b base off:Nat}{us:List Value}{cs:List PV}{x:PV}(h:sq P t cs off=some x)
  (hl:us.length=cs.length) (hv:∀ (j:Nat) u c,us[j]? = some u->cs[j]? = some c->VR I u c) (h1:∀u∈us,u.oneCell'=true)
  (hm:∀ (j:Nat) u,us[j]? = some u->w.cell? ⟨b,base+j,none⟩=some u) :
  ∃u,(loadVar t ⟨b,base+off,none⟩).run P w = .ok u w/\VR I u x:=by
 obtain⟨u,hr,ha⟩:=aam (I:=I) (L:=λ_=>none) (azN h) (by simpa using hl) (λj u c hu hc=>by
  rw[List.getElem?_map] at hc;cases hcj:cs[j]? with
  |none=>simp[hcj] at hc
  |some c'=>simp[hcj] at hc;subst hc;exact .p _ _ (hv j u c' hu hcj)) h1 hm
 exact⟨u,hr,ha.nZ⟩
def Fr(C:Ctx)(I:Mem)(L:bB)(H:ay)(w:World)(I':Mem)(L':bB)(H':ay)(w':World):Prop:=∀env tm,gU C env H I L tm w->gU C env H' I' L' tm w'
theorem Fr.refl(C:Ctx)(I:Mem)(L:bB)(H:ay)(w:World):Fr C I L H w I L H w:=λ_ _ h=>h
theorem Fr.trans{C:Ctx}{I I1 I2:Mem}{L L1 L2:bB}{H H1 H2:ay}{w w1 w2:World}(h:Fr C I L H w I1 L1 H1 w1)(k:Fr C I1 L1 H1 w1 I2 L2 H2 w2) :
  Fr C I L H w I2 L2 H2 w2:=λenv tm s=>k env tm (h env tm s)
theorem Fr.drew(C:Ctx)(I:Mem)(L:bB)(H:ay)(w:World):Fr C I L H w I L H w.drew:=λ_ _ h=>h.world (Below.refl _ _).drew λ_ _=>rfl
def Mem.with(I:Mem)(b:Nat)(arr:Array Value):Mem:=λc o=>if c=b then arr[o]? else I c o
theorem Fr.imm(C:Ctx)(I:Mem)(L:bB)(H:ay)(w:World)(arr:Array Value)(e:TypeId) :
  Fr C I L H w (I.with w.heap.size arr) L H (w.alloc (.cells arr e)):=λenv tm h =>
 h.grow ((Below.refl _ _).alloc (Nat.le_refl _) _)
  (λb o u hu=>by
   have:b≠w.heap.size:=λe=>by subst e;rw[aeF h.mem] at hu;cases hu
   simpa[Mem.with,this] using hu)
  (λb o u hu=>by
   unfold Mem.with at hu
   split at hu
   ·rename_i hb;subst hb;rw[World.cell?_alloc_new];exact hu
   ·exact (World.cell?_alloc_lt _ _ _ (h.mem.lt hu)).trans (h.mem b o u hu))
  (λb hb o=>by unfold Mem.with;rw[if_neg (by omega)])
theorem Mem.avc{I:Mem}{w:World}(h:I.inW w)(arr:Array Value):I.sub (I.with w.heap.size arr):=λb o u hu=>by
 have:b≠w.heap.size:=λe=>by subst e;rw[aeF h] at hu;cases hu
 simpa[Mem.with,this] using hu
theorem VR.aiE{I:Mem}{w:World}(hI:I.inW w){us rest:List Value}{es:List (List PV)}{sz cap:Nat}(hsz:∀e∈es,e.length=sz)(hl:us.length=es.flatten.length)
  (hv:∀ (j:Nat) u c,us[j]? = some u->es.flatten[j]? = some c->VR I u c) (h1:∀u∈us,u.oneCell'=true) (hcap:es.length<=cap) :
  VR (I.with w.heap.size (us++rest).toArray) (.slice (some ⟨w.heap.size,0,none⟩) es.length cap) (.aV es):=by
 refine .aV _ _ _ es us sz rfl hsz hl (λj u c hu hc=>(hv j u c hu hc).mono (Mem.avc hI _)) h1 (.inr ⟨_,_,rfl,λj u hu=>?_⟩) (by simp) hcap;have hj:j<us.length:=(List.getElem?_eq_some_iff.1 hu).1;simp only[Mem.with,if_true,Nat.zero_add,List.getElem?_toArray];rw[List.getElem?_append_left hj];exact hu
def oU(I:Mem)(L:bB)(us:List Value)(eR:List AV):Prop:=us.length=eR.length/\∀ (j:Nat) u a,us[j]? = some u->eR[j]? = some a->eC I L u a
def VRs(I:Mem)(us:List Value)(eR:List PV):Prop:=us.length=eR.length/\∀ (j:Nat) u a,us[j]? = some u->eR[j]? = some a->VR I u a
theorem VRs.mono{I J:Mem}(h:I.sub J){us:List Value}{eR:List PV}(k:VRs I us eR):VRs J us eR:=⟨k.1,λj u a hu ha=>(k.2 j u a hu ha).mono h⟩
theorem VRs.nZ{I:Mem}{L:bB}{us:List Value}{ps:List PV}(h:oU I L us (ps.map AV.p)):VRs I us ps:=⟨by simpa using h.1,λj u a hu ha=>(h.2 j u (.p a) hu (by rw[List.getElem?_map,ha];rfl)).nZ⟩
end Go.cq
namespace Go.cq
open Go.RowKit
variable{P:Program}
def aaI(P:Program)(op:BinOp)(t:TypeId)(x y:Value):Option (Prop×Value):=match op,x,y with
 | .add,.int k a,.int k' b=>if k=k' then some (True,.int k (k.wrap (a+b))) else none
 | .sub,.int k a,.int k' b=>if k=k' then some (True,.int k (k.wrap (a-b))) else none
 | .mul,.int k a,.int k' b=>if k=k' then some (True,.int k (k.wrap (a * b))) else none
 | .quo,.int k a,.int k' b=>if k=k' then some (b≠0,.int k (k.wrap (a.tdiv b))) else none
 | .rem,.int k a,.int k' b=>if k=k' then some (b≠0,.int k (a.tmod b)) else none
 | .shl,.int k a,.int _ b=>some (0<=b,.int k (k.wrap (a * 2 ^ (min b.toNat k.bits))))
 | .shr,.int k a,.int _ b=>some (0<=b,.int k (a.fdiv (2 ^ (min b.toNat k.bits))))
 | .and,.int k a,.int k' b=>if k=k' then some (True,.int k (k.wrap (BitVec.ofInt k.bits a &&& BitVec.ofInt k.bits b).toNat)) else none
 | .or,.int k a,.int k' b=>if k=k' then some (True,.int k (k.wrap (BitVec.ofInt k.bits a ||| BitVec.ofInt k.bits b).toNat)) else none
 | .xor,.int k a,.int k' b=>if k=k' then some (True,.int k (k.wrap (BitVec.ofInt k.bits a ^^^ BitVec.ofInt k.bits b).toNat)) else none
 | .eql,.int k a,.int k' b=>if k=k' then some (True,.bool (decide (a=b))) else none
 | .neq,.int k a,.int k' b=>if k=k' then some (True,.bool (!decide (a=b))) else none
 | .lss,.int k a,.int k' b=>if k=k' then some (True,.bool (decide (a<b))) else none
 | .leq,.int k a,.int k' b=>if k=k' then some (True,.bool (decide (a<=b))) else none
 | .gtr,.int k a,.int k' b=>if k=k' then some (True,.bool (decide (b<a))) else none
 | .geq,.int k a,.int k' b=>if k=k' then some (True,.bool (decide (b<=a))) else none
 | .add,.string a,.string b=>some (a.size+b.size<=9223372036854775807,.string (a++b))
 | .eql,.string a,.string b=>some (True,.bool (decide (a=b)))
 | .neq,.string a,.string b=>some (True,.bool (!decide (a=b)))
 | .eql,.bool a,.bool b=>match P.underlying t with|some .bool=>some (True,.bool (a == b))|_=>none
 | .neq,.bool a,.bool b=>match P.underlying t with|some .bool=>some (True,.bool (!(a == b)))|_=>none
 | .eql,.slice ao _ _,.slice none 0 0=>match P.underlying t with|some (.slice _)=>some (True,.bool ao.isNone)|_=>none
 | .neq,.slice ao _ _,.slice none 0 0=>match P.underlying t with|some (.slice _)=>some (True,.bool (!ao.isNone))|_=>none
 |_,_,_=>none
theorem aaM(a b:ByteArray):(a.toList == b.toList)=decide (a=b):=by
 rw[ByteArray.toList_eq,ByteArray.toList_eq,Bool.eq_iff_iff];simp only[beq_iff_eq,decide_eq_true_eq];constructor
 ·intro h;cases a;cases b;simp only at h;exact congrArg _ (Array.toList_inj.1 h)
 ·rintro rfl;rfl
theorem run_equal_bool{t:TypeId}(hu:P.underlying t=some .bool)(a b:Bool)(w:World):(Op.equal t (.bool a) (.bool b)).run P w = .ok (a == b) w:=by have h:Op.equal t (.bool a) (.bool b)=Op.equalIn (9999+1) t (.bool a) (.bool b):=rfl;rw[h,Op.equalIn,Sem.run_bind,run_underlying hu w];rfl
theorem vJ{t e:TypeId}(hu:P.underlying t=some (.slice e))(ao bo:Option Addr)(n c m d:Nat)(h:ao=none\/bo=none)(w:World) :
  (Op.equal t (.slice ao n c) (.slice bo m d)).run P w = .ok (ao.isNone&&bo.isNone) w:=by
 have hh:Op.equal t (.slice ao n c) (.slice bo m d)=Op.equalIn (9999+1) t (.slice ao n c) (.slice bo m d):=rfl;rw[hh,Op.equalIn,Sem.run_bind,run_underlying hu w];cases ao<;>cases bo<;>first|rfl|simp at h
theorem am7{op:BinOp}{t:TypeId}{x y v:Value}{pre:Prop}(h:aaI P op t x y=some (pre,v))(hp:pre)(w:World)(ox oy:Operand) :
  (do eqGuard op t ox oy x y;binOp op t x y:Sem Value).run P w = .ok v w/\v.oneCell'=true:=by
 unfold aaI at h;split at h
 case h_24=>cases h
 case h_20|h_21 =>
  split at h
  ·rename_i hk;simp only[cv,iw] at h;obtain⟨h1,h2⟩:=h;subst h1 h2;simp[eqGuard,binOp,run_equal_bool hk,Value.oneCell']
  ·cases h
 case h_22|h_23 =>
  split at h
  ·rename_i hk;simp only[cv,iw] at h;obtain⟨h1,h2⟩:=h;subst h1 h2;simp[eqGuard,binOp,vJ hk _ _ _ _ _ _ (.inr rfl),Value.oneCell']
  ·cases h
 case h_6|h_7=>simp only[cv,iw] at h;obtain⟨h1,h2⟩:=h;subst h1 h2;simp[eqGuard,binOp,Op.shift,Value.oneCell'];omega
 case h_17=>simp only[cv,iw] at h;obtain⟨h1,h2⟩:=h;subst h1 h2;simp[eqGuard,binOp,Op.stringOp,Value.oneCell',IntKind.max,IntKind.signed,IntKind.bits];omega
 case h_18|h_19=>simp only[cv,iw] at h;obtain⟨h1,h2⟩:=h;subst h1 h2;simp[eqGuard,binOp,Op.stringOp,aaM,Value.oneCell']
 all_goals
  split at h
  ·rename_i hk;simp only[cv,iw] at h;obtain⟨h1,h2⟩:=h;subst h1 h2 hk
   first
    |(simp[eqGuard,binOp,Op.intArith,Op.intBits,Op.intCmp,Value.oneCell'];done)
    |(simp[eqGuard,binOp,Op.intArith,Op.intDiv,hp,Value.oneCell'];done)
    |(simp[eqGuard,binOp,Op.intCmp,Value.oneCell'];rfl)
  ·cases h
end Go.cq
namespace Go.cq
open Go.RowKit
variable{P:Program}{I:Mem}
inductive BK where
 |i|s|b
def avd(P:Program)(t:TypeId):Option BK:=match P.underlying t with
 |some (.int _)=>some .i
 |some .string=>some .s
 |some .bool=>some .b
 |_=>none
def flatK(P:Program):List Field->Nat->Option (List BK)
 | [],_=>some []
 |f :: fs,k=>if f.offset=k/\f.name ≠ "_" then (match avd P f.type,flatK P fs (k+1) with
  |some x,some xs=>some (x :: xs)
  |_,_=>none) else none
def tC(P:Program)(t:TypeId):Option (List BK):=match P.underlying t with
 |some (.struct fs)=>if P.stoodInHeld t=false/\P.eqGuardType P.depth t=false then flatK P fs.toList 0 else none
 |_=>none
def eqK:List BK->List PV->List PV->Option Bool
 | [],[],[]=>some true
 | .i :: ks,.val (.int k a) :: cs,.val (.int k' b) :: ds=>if k=k' then (match eqK ks cs ds with
  |some r=>some (decide (a=b)&&r)
  |none=>none) else none
 | .s :: ks,.val (.string a) :: cs,.val (.string b) :: ds=>(match eqK ks cs ds with
  |some r=>some (decide (a=b)&&r)
  |none=>none)
 | .b :: ks,.val (.bool a) :: cs,.val (.bool b) :: ds=>(match eqK ks cs ds with
  |some r=>some ((a == b)&&r)
  |none=>none)
 |_,_,_=>none
theorem aiF{t:TypeId}{x:BK}(h:avd P t=some x)(w:World):(isAgg t).run P w = .ok false w:=by
 unfold avd at h;unfold isAgg;split at h
 ·rename_i hu;rw[Sem.run_bind,run_underlying hu w];rfl
 ·rename_i hu;rw[Sem.run_bind,run_underlying hu w];rfl
 ·rename_i hu;rw[Sem.run_bind,run_underlying hu w];rfl
 ·cases h
theorem adW{t:TypeId}{x:BK}(h:avd P t=some x){xs:Array Value}{k:Nat}{u:Value}(hu:xs[k]? = some u)(w:World):(part t xs k).run P w = .ok u w:=by simp[part,aiF h,hu]
theorem abV:∀ (fs:List Field) (k:Nat) (ks:List BK) (cs ds:List PV) (b:Bool) (us vs:List Value) (d:Nat) (w:World),flatK P fs k=some ks->eqK ks cs ds=some b ->
  us.length=k+cs.length->vs.length=k+ds.length->(∀ (j:Nat) u c,us[k+j]? = some u->cs[j]? = some c->VR I u c)->(∀ (j:Nat) u c,vs[k+j]? = some u->ds[j]? = some c->VR I u c) ->
  (Op.eqFields (d+1) us.toArray vs.toArray fs).run P w = .ok b w
 | [],k,ks,cs,ds,b,us,vs,d,w,h,he,_,_,_,_=>by
  simp only[flatK,cv] at h;subst h;cases cs with
  |nil =>
   cases ds with
   |nil=>simp only[eqK,cv] at he;subst he;simp[Op.eqFields]
   |cons y ds=>simp[eqK] at he
  |cons c cs=>simp[eqK] at he
 |f :: fs,k,ks,cs,ds,b,us,vs,d,w,h,he,hl,hl',hu,hv=>by
  simp only[flatK] at h;split at h
  ·rename_i hc;obtain⟨ho,hn⟩:=hc;split at h
   ·rename_i x xs hx hxs;simp only[cv] at h;subst h;cases cs with
    |nil=>cases x<;>simp[eqK] at he
    |cons c cs =>
     cases ds with
     |nil=>cases x<;>cases c<;>simp[eqK] at he
     |cons y ds =>
      have hku:k<us.length:=by rw[hl];simp
      have hkv:k<vs.length:=by rw[hl'];simp
      have gu:us.toArray[k]? = some us[k]:=by simp[hku]
      have gv:vs.toArray[k]? = some vs[k]:=by simp[hkv]
      have ru:=hu 0 us[k] c (by simp[hku]) rfl;have rv:=hv 0 vs[k] y (by simp[hkv]) rfl;have ih:∀r,eqK xs cs ds=some r->(Op.eqFields (d+1) us.toArray vs.toArray fs).run P w = .ok r w:=λr hr =>
       abV fs (k+1) xs cs ds r us vs d w hxs hr (by rw[hl];simp;omega) (by rw[hl'];simp;omega)
        (λj u c h1 h2=>hu (j+1) u c (by rw[<-h1];congr 1;omega) (by simpa using h2)) (λj u c h1 h2=>hv (j+1) u c (by rw[<-h1];congr 1;omega) (by simpa using h2))
      have step : ∀ (b1 : Bool) (r : Bool), eqK xs cs ds = some r → (Op.equalIn (d + 1) f.type us[k] vs[k]).run P w = .ok b1 w → b = (b1 && r) →
        (Op.eqFields (d+1) us.toArray vs.toArray (f :: fs)).run P w = .ok b w:=by
       intro b1 r hr h1 hb;simp only[Op.eqFields,if_pos hn,Sem.run_bind,ho,adW hx gu,adW hx gv,Result.andThen_ok,h1];cases b1
       ·simp[hb]
       ·simp only[Bool.not_true,Bool.false_eq_true,if_false];rw[ih r hr,hb];rfl
      generalize us[k]=u at ru step;generalize vs[k]=v at rv step;unfold avd at hx;cases ru with
      |val _ _ =>
       cases rv with
       |val _ _ =>
        cases x<;>cases u<;>(try simp only[eqK] at he)<;>try (cases he;done)
        case i.int ki a =>
         cases v<;>simp only[eqK] at he<;>try (cases he;done)
         rename_i ki' b0;split at he
         ·rename_i hkk;subst hkk;split at he
          ·rename_i r hr;simp only[cv] at he;split at hx
           ·rename_i kk hut;refine step _ r hr (run_equalIn_int w d f.type _ kk _ _ hut) ?_;rw[<-he];rfl
           ·cases hx
           ·cases hx
           ·cases hx
          ·cases he
         ·cases he
        case s.string a =>
         cases v<;>simp only[eqK] at he<;>try (cases he;done)
         rename_i b0;split at he
         ·rename_i r hr;simp only[cv] at he;split at hx
          ·cases hx
          ·rename_i hut;refine step _ r hr (run_equalIn_string w d f.type _ _ hut) ?_;rw[<-he,aaM]
          ·cases hx
          ·cases hx
         ·cases he
        case b.bool a =>
         cases v<;>simp only[eqK] at he<;>try (cases he;done)
         rename_i b0;split at he
         ·rename_i r hr;simp only[cv] at he;split at hx
          ·cases hx
          ·cases hx
          ·rename_i hut;exact step _ r hr (run_equalIn_bool w d f.type _ _ hut) he.symm
          ·cases hx
         ·cases he
       |_=>cases x<;>cases u<;>simp[eqK] at he
      |_=>cases x<;>simp[eqK] at he
   ·cases h
  ·cases h
theorem yK{t:TypeId}{ks:List BK}{cs ds:List PV}{b:Bool}(h:tC P t=some ks)(he:eqK ks cs ds=some b){us vs:List Value}(hl:us.length=cs.length)(hl':vs.length=ds.length)
  (hu:∀ (j:Nat) u c,us[j]? = some u->cs[j]? = some c->VR I u c) (hv:∀ (j:Nat) u c,vs[j]? = some u->ds[j]? = some c->VR I u c) (w:World) :
  (Op.equalIn 10000 t (.agg us.toArray) (.agg vs.toArray)).run P w = .ok b w/\P.eqGuardType P.depth t=false:=by
 unfold tC at h;split at h
 ·rename_i fs hut;split at h
  ·rename_i hc;have hf:P.fieldsOf t=fs:=by unfold Program.fieldsOf;rw[hut]
   refine⟨?_,hc.2⟩;rw[show (10000:Nat)=9999+1 from rfl,run_equalIn_struct w 9999 t us.toArray vs.toArray (by rw[hf];exact hut) hc.1,hf];exact abV fs.toList 0 ks cs ds b us vs 9998 w h he (by omega) (by omega) (λj u c h1 h2=>hu j u c (by simpa using h1) h2) (λj u c h1 h2=>hv j u c (by simpa using h1) h2)
  ·cases h
 ·cases h
end Go.cq
namespace Go.cq
open Go.RowKit
variable{P:Program}{I:Mem}{L:bB}
theorem VR.eM{u v:Value}(h:VR I u (.val v)):u=v/\v.oneCell'=true:=by cases h;exact⟨rfl,by assumption⟩
theorem eC.eM{u v:Value}(h:eC I L u (.p (.val v))):u=v/\v.oneCell'=true:=h.nZ.eM
theorem VR.aj6{u:Value}{es:List (List PV)}(h:VR I u (.aV es))(hne:es≠[]):∃a n c,u = .slice (some a) n c:=by
 cases h with
 |aV ao n cap _ us sz hn hsz hl hv hone hm hnil hcap =>
  cases ao with
  |none=>have:=(hnil rfl).1;exact absurd (List.length_eq_zero_iff.1 (hn.trans this)) hne
  |some a=>exact⟨a,n,cap,rfl⟩
def isSlice(P:Program)(t:TypeId):Bool:=match P.underlying t with|some (.slice _)=>true|_=>false
def oa(P:Program)(op:BinOp)(t:TypeId)(a b:AV):Option (Prop×AV):=match a,b with
 | .p (.val x),.p (.val y)=>match aaI P op t x y with
  |some (pre,v)=>some (pre,.p (.val v))
  |none=>none
 | .p (.aV es),.p (.val (.slice none 0 0))=>match op,isSlice P t with
  | .eql,true=>some (es≠[],.p (.val (.bool false)))
  | .neq,true=>some (es≠[],.p (.val (.bool true)))
  |_,_=>none
 | .p (.agg cs),.p (.agg ds)=>match tC P t with
  |some ks=>match op,eqK ks cs ds with
   | .eql,some b=>some (True,.p (.val (.bool b)))
   | .neq,some b=>some (True,.p (.val (.bool !b)))
   |_,_=>none
  |none=>none
 |_,_=>none
theorem am8{op:BinOp}{t:TypeId}{a b v:AV}{pre:Prop}(h:oa P op t a b=some (pre,v))(hp:pre){x y:Value}(hx:eC I L x a)(hy:eC I L y b)(w:World)(ox oy:Operand) :
  ∃r,(do eqGuard op t ox oy x y;binOp op t x y:Sem Value).run P w = .ok r w/\eC I L r v:=by
 unfold oa at h;split at h
 ·split at h
  ·rename_i hb;simp only[cv,iw] at h;obtain⟨h1,h2⟩:=h;subst h1 h2;obtain⟨rfl,_⟩:=hx.eM;obtain⟨rfl,_⟩:=hy.eM;obtain⟨hr,h1⟩:=am7 hb hp w ox oy;exact⟨_,hr,.p _ _ (.val _ h1)⟩
  ·cases h
 ·rename_i es;have hs:∀ {t},isSlice P t=true->∃e,P.underlying t=some (.slice e):=λ{t} h=>by
   unfold isSlice at h;split at h
   ·rename_i e he;exact⟨e,he⟩
   ·cases h
  split at h
  ·rename_i hsl;simp only[cv,iw] at h;obtain⟨h1,h2⟩:=h;subst h1 h2;obtain⟨e,he⟩:=hs hsl;obtain⟨aa,n,c,rfl⟩:=hx.nZ.aj6 hp;obtain⟨rfl,_⟩:=hy.eM;exact⟨.bool false,by simp[eqGuard,binOp,vJ he _ _ _ _ _ _ (.inr rfl)],.p _ _ (.val _ rfl)⟩
  ·rename_i hsl;simp only[cv,iw] at h;obtain⟨h1,h2⟩:=h;subst h1 h2;obtain⟨e,he⟩:=hs hsl;obtain⟨aa,n,c,rfl⟩:=hx.nZ.aj6 hp;obtain⟨rfl,_⟩:=hy.eM;exact⟨.bool true,by simp[eqGuard,binOp,vJ he _ _ _ _ _ _ (.inr rfl)],.p _ _ (.val _ rfl)⟩
  ·cases h
 ·rename_i cs ds;split at h
  ·rename_i ks hks;split at h
   ·rename_i b hb;simp only[cv,iw] at h;obtain⟨h1,h2⟩:=h;subst h1 h2;cases hx.nZ with
    |agg us _ hl hv hone =>
     cases hy.nZ with
     |agg vs _ hl' wk aDa=>obtain⟨q1,q2⟩:=yK hks hb hl hl' hv wk w;refine⟨.bool b,?_,.p _ _ (.val _ rfl)⟩;rw[Sem.run_bind,run_eqGuard_agg w .eql t ox oy _ _ q2,Result.andThen_ok,run_eql_struct,q1];rfl
   ·rename_i b hb;simp only[cv,iw] at h;obtain⟨h1,h2⟩:=h;subst h1 h2;cases hx.nZ with
    |agg us _ hl hv hone =>
     cases hy.nZ with
     |agg vs _ hl' wk aDa=>obtain⟨q1,q2⟩:=yK hks hb hl hl' hv wk w;refine⟨.bool !b,?_,.p _ _ (.val _ rfl)⟩;rw[Sem.run_bind,run_eqGuard_agg w .neq t ox oy _ _ q2,Result.andThen_ok,run_neq_struct,q1];rfl
   ·cases h
  ·cases h
 ·cases h
def unX(op:UnOp)(a:AV):Option (Prop×AV):=match op,a with
 | .not,.p (.val (.bool b))=>some (True,.p (.val (.bool !b)))
 | .neg,.p (.val (.int k n))=>some (True,.p (.val (.int k (k.wrap (0-n)))))
 |_,_=>none
theorem ard{op:UnOp}{a v:AV}{pre:Prop}(h:unX op a=some (pre,v)){x:Value}(hx:eC I L x a)(w:World) :
    ∃r,(Op.unary op x).run P w = .ok r w/\eC I L r v:=by
  unfold unX at h;split at h<;>first
    |(cases h;done)
    | (simp only [cv, iw] at h
       obtain⟨_,h2⟩:=h;subst h2;obtain⟨rfl,_⟩:=hx.eM;exact⟨_,by simp[Op.unary,Op.intArith],.p _ _ (.val _ rfl)⟩)
def aeQ(P:Program)(s d:TypeId)(a:AV):Option (Prop×AV):=match (P.underlying s).isSome,a with
 |true,.p (.val (.int _ n))=>match aj5 P d with
  |some k=>some (True,.p (.val (.int k (k.wrap n))))
  |none=>none
 |true,.p (.val (.string x))=>match yI P d with
  |true=>some (True,.p (.val (.string x)))
  |false=>none
 |_,_=>none
theorem aj7{s d:TypeId}{a v:AV}{pre:Prop}(h:aeQ P s d a=some (pre,v)){x:Value}(hx:eC I L x a)(w:World) :
  ∃r,(convert s d x).run P w = .ok r w/\eC I L r v:=by
 unfold aeQ at h;split at h
 ·rename_i k0 n hs;obtain⟨ds,hds⟩:=Option.isSome_iff_exists.1 hs;unfold aj5 at h;split at h
  ·rename_i k hk;simp only[cv,iw] at h;obtain⟨_,h2⟩:=h;subst h2;obtain⟨rfl,_⟩:=hx.eM;have hd:P.underlying d=some (.int k):=by split at hk<;>simp_all
   refine⟨_,?_,.p _ _ (.val _ rfl)⟩;simp[convert,run_underlying hds,run_underlying hd,Conv.intToInt]
  ·cases h
 ·rename_i x0 hs;obtain⟨ds,hds⟩:=Option.isSome_iff_exists.1 hs;unfold yI at h;split at h
  ·rename_i hk;simp only[cv,iw] at h;obtain⟨_,h2⟩:=h;subst h2;obtain⟨rfl,_⟩:=hx.eM;have hd:P.underlying d=some .string:=by split at hk<;>simp_all
   refine⟨_,?_,.p _ _ (.val _ rfl)⟩;simp[convert,run_underlying hds,run_underlying hd]
  ·cases h
 ·cases h
def ahn(c a b:AV):Option (Prop×AV):=match c with
 | .p (.val (.bool true))=>some (True,a)
 | .p (.val (.bool false))=>some (True,b)
 |_=>none
def uq(a:AV)(k:Nat):Option (Prop×AV):=match a with
 | .p (.dQ vs)=>match vs[k]? with|some x=>some (True,.p x)|none=>none
 | .dQ vs=>match vs[k]? with|some x=>some (True,x)|none=>none
 |_=>none
theorem aeR{a v:AV}{k:Nat}{pre:Prop}(h:uq a k=some (pre,v)){x:Value}(hx:eC I L x a)(w:World) :
  ∃r,(Instr.extract x k).run P w = .ok r w/\eC I L r v:=by
 unfold uq at h;split at h
 ·rename_i vs;split at h
  ·rename_i y hy;simp only[cv,iw] at h;obtain⟨_,h2⟩:=h;subst h2;cases hx.nZ with
   |dQ us _ hl hv =>
    have hlt:k<us.length:=by rw[hl];exact (List.getElem?_eq_some_iff.1 hy).1
    refine⟨us[k],?_,.p _ _ (hv k _ _ (by simp) hy)⟩;simp[Instr.extract,hlt]
  ·cases h
 ·rename_i vs;split at h
  ·rename_i y hy;simp only[cv,iw] at h;obtain⟨_,h2⟩:=h;subst h2;cases hx with
   |dQ us _ hl hv =>
    have hlt:k<us.length:=by rw[hl];exact (List.getElem?_eq_some_iff.1 hy).1
    refine⟨us[k],?_,hv k _ _ (by simp) hy⟩;simp[Instr.extract,hlt]
  ·cases h
 ·cases h
def aqg(P:Program)(t:TypeId)(a:AV):Option (Prop×AV):=match a with
 | .p (.dW cs off)=>match sq P t cs off with|some x=>some (True,.p x)|none=>none
 |_=>none
theorem aj8{t:TypeId}{a v:AV}{pre:Prop}(h:aqg P t a=some (pre,v)){x:Value}(hx:eC I L x a){w:World}(hw:I.inW w) :
  ∃r,(Instr.loadAt t x).run P w = .ok r w/\eC I L r v:=by
 unfold aqg at h;split at h
 ·rename_i cs off;split at h
  ·rename_i y hy;simp only[cv,iw] at h;obtain⟨_,h2⟩:=h;subst h2;cases hx.nZ with
   |dW b base _ us _ hl hv hone hm =>
    obtain⟨u,hr,hu⟩:=ahm (I:=I) (w:=w) (b:=b) (base:=base) hy hl hv hone λj u hj=>hw _ _ _ (hm j u hj)
    exact⟨u,by simp[Instr.loadAt,Instr.sureAddr,hr],.p _ _ hu⟩
  ·cases h
 ·cases h
def aiG(P:Program)(s:TypeId)(a:AV)(k:Nat):Option (Prop×AV):=match bR P s k with
 |some (o,n)=>match a with
  | .p (.dW cs off)=>some (n≠0,.p (.dW cs (off+o)))
  | .ptr id off=>some (n≠0,.ptr id (off+o))
  |_=>none
 |none=>none
theorem aj9{s:TypeId}{k o n:Nat}(h:bR P s k=some (o,n)):∃fs f i,P.underlying s=some (.struct fs)/\fs[k]? = some f/\P.info? f.type=some i/\i.size=n/\f.offset=o:=by
 unfold bR at h;split at h
 ·rename_i fs hfs;cases hf:fs[k]? with
  |none=>simp[hf] at h
  |some f =>
   cases hi:P.info? f.type with
   |none=>simp[hf,bz,hi] at h
   |some i=>simp[hf,bz,hi] at h;exact⟨fs,f,i,hfs,hf,hi,h.2,h.1⟩
 ·cases h
theorem vl{s:TypeId}{k o n:Nat}(h:bR P s k=some (o,n))(hn:n≠0)(w:World)(b off:Nat) :
  (Instr.fieldAt s (.pointer (some ⟨b,off,none⟩)) k).run P w = .ok (.pointer (some ⟨b,off+o,none⟩)) w:=by
 obtain⟨fs,f,i,h1,h2,h3,h4,h5⟩:=aj9 h;have hne:i.size≠0:=by rw[h4];exact hn
 have hlt:=(Array.getElem?_eq_some_iff.1 h2);obtain⟨hlt,hfe⟩:=hlt;simp[Instr.fieldAt,run_underlying h1,h2,Instr.sureAddr,fieldPlace,sizeOf,typeInfo,h3,hne,Addr.add_mid,h5]
theorem aiH{s:TypeId}{k:Nat}{a v:AV}{pre:Prop}(h:aiG P s a k=some (pre,v))(hp:pre){x:Value}(hx:eC I L x a)(w:World) :
  ∃r,(Instr.fieldAt s x k).run P w = .ok r w/\eC I L r v:=by
 unfold aiG at h;split at h
 ·rename_i o n hf;split at h
  ·simp only[cv,iw] at h;obtain⟨h1,h2⟩:=h;subst h1 h2;cases hx.nZ with
   |dW b base _ us _ hl hv hone hm=>refine⟨_,vl hf hp w _ _,.p _ _ ?_⟩;rw[Nat.add_assoc];exact .dW b base _ us _ hl hv hone hm
  ·simp only[cv,iw] at h;obtain⟨h1,h2⟩:=h;subst h1 h2;cases hx with
   |ptr id b off hl=>exact⟨_,vl hf hp w _ _,.ptr _ _ _ hl⟩
  ·cases h
 ·cases h
def oV(P:Program)(t:TypeId)(a i:AV):Option (Prop×AV):=match i with
 | .p (.val (.int _ n))=>match a with
  | .p (.aV es)=>match cM P t with
   |some e=>match bz P e with
    |some sz=>some ((0<=n/\n<es.length)/\(es.getD n.toNat []).length=sz/\0<sz,.p (.dW (es.getD n.toNat []) 0))
    |none=>none
   |none=>none
  | .p (.dW cs off)=>match wo P t with
   |some (len,e)=>match bz P e with
    |some sz=>some (0<=n/\n<len,.p (.dW cs (off+n.toNat * sz)))
    |none=>none
   |none=>none
  | .ptr id off=>match wo P t with
   |some (len,e)=>match bz P e with
    |some sz=>some (0<=n/\n<len,.ptr id (off+n.toNat * sz))
    |none=>none
   |none=>none
  |_=>none
 |_=>none
theorem fB{t e:TypeId}(h:cM P t=some e):P.underlying t=some (.slice e):=by unfold cM at h;split at h<;>simp_all
theorem abe{t e:TypeId}{n:Nat}(h:wo P t=some (n,e)):P.underlying t=some (.array n e):=by unfold wo at h;split at h<;>simp_all
theorem aka{t:TypeId}{n:Nat}(h:bz P t=some n):∃i,P.info? t=some i/\i.size=n:=by
 unfold bz at h;cases hi:P.info? t with
 |none=>simp[hi] at h
 |some i=>exact⟨i,rfl,by simpa[hi] using h⟩
theorem dR{t:TypeId}{n:Nat}(h:bz P t=some n)(w:World):(sizeOf t).run P w = .ok n w:=by obtain⟨i,hi,hn⟩:=aka h;simp[sizeOf,typeInfo,hi,hn]
theorem gV{α:Type}{sz:Nat} : ∀ {es:List (List α)} (_:∀e∈es,e.length=sz) (i j:Nat) (_:i<es.length) (_:j<sz),es.flatten[i * sz+j]? = (es.getD i [])[j]?
 | [],_,i,j,hi,_=>by simp at hi
 |e :: es,h,0,j,_,hj=>by have he:=h e (by simp);simp only[List.flatten_cons,Nat.zero_mul,Nat.zero_add];rw[List.getElem?_append_left (by omega)];rfl
 |e :: es,h,i+1,j,hi,hj=>by
  have he:=h e (by simp);simp only[List.flatten_cons];have:(i+1) * sz+j=e.length+(i * sz+j):=by rw[he,Nat.add_mul];omega
  rw[this,List.getElem?_append_right (by omega)];have e2:e.length+(i * sz+j)-e.length=i * sz+j:=by omega
  rw[e2,gV (λx hx=>h x (by simp[hx])) i j (by simpa using hi) hj];rfl
theorem bH{α:Type}{sz:Nat} : ∀ {es:List (List α)} (_:∀e∈es,e.length=sz),es.flatten.length=es.length * sz
 | [],_=>by simp
 |e :: es,h=>by have he:=h e (by simp);rw[List.flatten_cons,List.length_append,bH (λx hx=>h x (by simp[hx])),he,List.length_cons,Nat.add_mul];omega
theorem VR.elem{u:Value}{es:List (List PV)}(h:VR I u (.aV es)){n:Nat}(hn:n<es.length)(hpos:0<(es.getD n []).length) :
  ∃b off len cap sz,u = .slice (some ⟨b,off,none⟩) len cap/\len=es.length/\(es.getD n []).length=sz/\∃us:List Value,us.length=sz /\
   (∀ (j:Nat) u c,us[j]? = some u->(es.getD n [])[j]? = some c->VR I u c)/\(∀u∈us,u.oneCell'=true)/\∀ (j:Nat) u,us[j]? = some u->I b (off+n * sz+j)=some u:=by
 cases h with
 |aV ao len cap _ us sz hlen hsz hl hv hone hm hnil hcap =>
  have hmem:es.getD n []∈es:=by
   have:es.getD n []=es[n]:=by simp[hn]
   rw[this];exact nR _
  have hs:(es.getD n []).length=sz:=hsz _ hmem;have hfl:=bH hsz;have hmul:(n+1) * sz<=es.length * sz:=Nat.mul_le_mul_right _ hn;have ave:(n+1) * sz=n * sz+sz:=by rw[Nat.add_mul];omega
  rcases hm with rfl|⟨b,off,rfl,hI⟩
  ·have h0:es.flatten.length=0:=by rw[<-hl];rfl
   omega
  ·refine⟨b,off,len,cap,sz,rfl,hlen.symm,hs,(us.drop (n * sz)).take sz,by simp;omega,?_,?_,?_⟩
   ·intro j u c hu hc;rw[List.getElem?_take] at hu;split at hu
    ·rename_i hj;rw[List.getElem?_drop] at hu;exact hv _ u c hu (by rw[gV hsz n j hn hj];exact hc)
    ·cases hu
   ·intro u hu;exact hone u (List.mem_of_mem_drop (List.mem_of_mem_take hu))
   ·intro j u hu;rw[List.getElem?_take] at hu;split at hu
    ·rw[List.getElem?_drop] at hu;have:=hI _ u hu;rw[Nat.add_assoc];exact this
    ·cases hu
theorem VR.aqh{u:Value}{es:List (List PV)}(h:VR I u (.aV es)):∃ao cap,u = .slice ao es.length cap/\es.length<=cap:=by
 cases h with
 |aV ao len cap _ us sz hlen hsz hl hv hone hm hnil hcap=>exact⟨ao,cap,by rw[hlen],by omega⟩
theorem aiI{t:TypeId}{a i v:AV}{pre:Prop}(h:oV P t a i=some (pre,v))(hp:pre){x y:Value}(hx:eC I L x a)(hy:eC I L y i)(w:World) :
  ∃r,(Instr.indexAt t x y).run P w = .ok r w/\eC I L r v:=by
 unfold oV at h;split at h
 ·rename_i k n;obtain⟨rfl,_⟩:=hy.eM;split at h
  ·rename_i es;split at h
   ·rename_i e he;split at h
    ·rename_i sz hsz;simp only[cv,iw] at h;obtain⟨h1,h2⟩:=h;subst h1 h2;obtain⟨⟨h0,hlt⟩,hlen,hpos⟩:=hp;obtain⟨m,rfl⟩:=Int.eq_ofNat_of_zero_le h0;simp only[Int.toNat_natCast] at hlen ⊢;have hm:m<es.length:=by omega
     obtain⟨b,off,len,cap,sz',rfl,rfl,hs,us,hu1,hu2,hu3,hu4⟩:=hx.nZ.elem hm (by omega);have e1:sz'=sz:=by omega
     subst e1;refine⟨.pointer (some ⟨b,off+m * sz',none⟩),?_,.p _ _ ?_⟩
     ·have hlt':(m:Int)<es.length:=hlt;simp[Instr.indexAt,asIntOf,run_underlying (fB he),dR hsz,Addr.add_mid,hm]
     ·have:=VR.dW (I:=I) b (off+m * sz') (es.getD m []) us 0 (by omega) hu2 hu3 hu4;simpa using this
    ·cases h
   ·cases h
  ·rename_i cs off;split at h
   ·rename_i len e he;split at h
    ·rename_i sz hsz;simp only[cv,iw] at h;obtain⟨h1,h2⟩:=h;subst h1 h2;obtain⟨h0,hlt⟩:=hp;obtain⟨m,rfl⟩:=Int.eq_ofNat_of_zero_le h0;have hm:m<len:=by omega
     cases hx.nZ with
     |dW b base _ us _ hl hv hone hmm=>refine⟨.pointer (some ⟨b,base+(off+m * sz),none⟩),?_,.p _ _ (.dW b base _ us _ hl hv hone hmm)⟩;simp[Instr.indexAt,asIntOf,run_underlying (abe he),Instr.sureAddr,dR hsz,Addr.add_mid,hm,Nat.add_assoc]
    ·cases h
   ·cases h
  ·rename_i id off;split at h
   ·rename_i len e he;split at h
    ·rename_i sz hsz;simp only[cv,iw] at h;obtain⟨h1,h2⟩:=h;subst h1 h2;obtain⟨h0,hlt⟩:=hp;obtain⟨m,rfl⟩:=Int.eq_ofNat_of_zero_le h0;have hm:m<len:=by omega
     cases hx with
     |ptr id b off hl=>refine⟨.pointer (some ⟨b,off+m * sz,none⟩),?_,.ptr _ _ _ hl⟩;simp[Instr.indexAt,asIntOf,run_underlying (abe he),Instr.sureAddr,dR hsz,Addr.add_mid,hm]
    ·cases h
   ·cases h
  ·cases h
 ·cases h
end Go.cq
namespace Go.cq
open Go.RowKit
variable{P:Program}{I:Mem}{L:bB}
def lB(s:ByteArray)(n:Nat):Int:=((s.data.toList.getD n 0).toNat:Int)
def am9(P:Program)(t:TypeId)(a i:AV):Option (Prop×AV):=match i with
 | .p (.val (.int _ n))=>match a with
  | .p (.val (.string s))=>match yI P t with
   |true=>some (0<=n/\n<s.size,.p (.val (.int .u8 (lB s n.toNat))))
   |false=>none
  | .p (.agg cs)=>match wo P t with
   |some (len,e)=>match fM P e,bz P e,cs[n.toNat]? with
    |some false,some 1,some x=>some (0<=n/\n<len,.p x)
    |_,_,_=>none
   |none=>none
  |_=>none
 |_=>none
theorem abf{t:TypeId}(h:yI P t=true):P.underlying t=some .string:=by unfold yI at h;split at h<;>simp_all
theorem ana{t:TypeId}{a i v:AV}{pre:Prop}(h:am9 P t a i=some (pre,v))(hp:pre){x y:Value}(hx:eC I L x a)(hy:eC I L y i)(w:World) :
  ∃r,(Instr.index t x y).run P w = .ok r w/\eC I L r v:=by
 unfold am9 at h;split at h
 ·rename_i k n;obtain⟨rfl,_⟩:=hy.eM;split at h
  ·rename_i s;split at h
   ·rename_i hs;simp only[cv,iw] at h;obtain⟨h1,h2⟩:=h;subst h1 h2;obtain⟨rfl,_⟩:=hx.eM;obtain⟨h0,hlt⟩:=hp;obtain⟨m,rfl⟩:=Int.eq_ofNat_of_zero_le h0;have hm:m<s.size:=by omega
    refine⟨_,?_,.p _ _ (.val _ rfl)⟩;have hb:s[m]? = some s[m]:=by simp[hm]
    have hg:(s.data.toList.getD m 0)=s[m]:=by
     have hm':m<s.data.toList.length:=by simpa using hm
     rw[List.getD_eq_getElem?_getD,List.getElem?_eq_getElem hm'];rfl
    simp only[lB,Int.toNat_natCast,hg];simp[Instr.index,asIntOf,run_underlying (abf hs),hm]
   ·cases h
  ·rename_i cs;split at h
   ·rename_i len e he;split at h
    ·rename_i x' hg hsz hc;simp only[cv,iw] at h;obtain⟨h1,h2⟩:=h;subst h1 h2;obtain⟨h0,hlt⟩:=hp;obtain⟨m,rfl⟩:=Int.eq_ofNat_of_zero_le h0;simp only[Int.toNat_natCast] at hc;have hm:m<len:=by omega
     obtain⟨d,hu,hd⟩:=abd hg;cases hx.nZ with
     |agg us _ hl hv hone =>
      have avf:m<us.length:=by rw[hl];exact (List.getElem?_eq_some_iff.1 hc).1
      refine⟨us[m],?_,.p _ _ (hv m _ _ (by simp) hc)⟩;have hagg:(isAgg e).run P w = .ok false w:=by unfold isAgg;rw[Sem.run_bind,run_underlying hu w];cases d<;>simp_all
      simp[Instr.index,asIntOf,run_underlying (abe he),dR hsz,hm,part,hagg,avf]
    ·cases h
   ·cases h
  ·cases h
 ·cases h
def akb(fn:Fn)(fs cs:List AV):AV:=match tB fs,tB cs with
 |some f,some c=>.p (.ir fn f c)
 |_,_=>.ir fn fs cs
theorem abW{us:List Value}{ps:List PV}(hv:∀ (j:Nat) u c,us[j]? = some u->(ps.map AV.p)[j]? = some c->eC I L u c) :
  ∀ (j:Nat) u c,us[j]? = some u->ps[j]? = some c->VR I u c:=λj u c hu hc =>
 (hv j u (.p c) hu (by rw[List.getElem?_map,hc];rfl)).nZ
theorem akc{fn:Fn}{us vs:List Value}{fs cs:List AV}(hl:us.length=fs.length)(hl':vs.length=cs.length)
  (hv:∀ (j:Nat) u c,us[j]? = some u->fs[j]? = some c->eC I L u c) (wk:∀ (j:Nat) u c,vs[j]? = some u->cs[j]? = some c->eC I L u c) :
  eC I L (.func fn us.toArray vs.toArray) (akb fn fs cs):=by
 unfold akb;split
 ·rename_i f c hf hc;have e1:=tU hf;have e2:=tU hc;subst e1 e2;exact .p _ _ (.ir fn us vs f c (by simpa using hl) (by simpa using hl') (abW hv) (abW wk))
 ·exact .ir fn us vs fs cs hl hl' hv wk
def arf(a:AV):Option (Prop×AV):=match a with
 | .ptr id off=>some (True,.ptr id off)
 | .p (.dW cs off)=>some (True,.p (.dW cs off))
 | .p (.ir (.func f) fs cs)=>some (True,.p (.ir (.func f) fs cs))
 | .ir (.func f) fs cs=>some (True,.ir (.func f) fs cs)
 |_=>none
def bnd(d:Int):Option AV->Option Int
 |none=>some d
 |some (.p (.val (.int _ n)))=>some n
 |_=>none
def slice3(P:Program)(t:TypeId)(a:AV)(lo hi:Option AV)(m:AV):Option (Prop×AV):=match a,hi,m with
 | .p (.aV es), some (.p (.val (.int _ h))), .p (.val (.int _ m)) => match cM P t, bnd 0 lo with
   |some e,some l=>match bz P e with
    |some sz=>some ((0<=l/\l<=h/\h<=m/\m<=es.length)/\∀x∈es,x.length=sz,.p (.aV ((es.take h.toNat).drop l.toNat)))
    |none=>none
   |_,_=>none
 |_,_,_=>none
def sP(P:Program)(t:TypeId)(a:AV)(lo hi mx:Option AV):Option (Prop×AV):=match mx with
 |some m=>slice3 P t a lo hi m
 |none=>match a with
  | .p (.val (.string s))=>match yI P t,bnd 0 lo,bnd s.size hi with
   |true,some l,some h=>some (0<=l/\l<=h/\h<=s.size,.p (.val (.string (s.extract l.toNat h.toNat))))
   |_,_,_=>none
  | .p (.aV es)=>match cM P t,bnd 0 lo,bnd es.length hi with
   |some e,some l,some h=>match bz P e with
    |some sz=>some ((0<=l/\l<=h/\h<=es.length)/\∀x∈es,x.length=sz,.p (.aV ((es.take h.toNat).drop l.toNat)))
    |none=>none
   |_,_,_=>none
  | .iy id bf off n m sz=>match cM P t,bnd 0 lo,bnd n hi with
   |some e,some l,some h=>match bz P e with
    |some sz'=>some ((0<=l/\l<=h/\h<=m)/\sz'=sz,.iy id bf (off+l.toNat) (h.toNat-l.toNat) (m-l.toNat) sz)
    |none=>none
   |_,_,_=>none
  |_=>none
def avg(I:Mem)(L:bB):Option Value->Option AV->Prop
 |none,none=>True
 |some u,some v=>eC I L u v
 |_,_=>False
theorem w9{d y:Int}{a:Option AV}{x:Option Value}(h:bnd d a=some y)(hx:avg I L x a) :
  (x=none/\y=d)\/(∃k,x=some (.int k y)):=by
 cases a with
 |none =>
  cases x with
  |none=>simp[bnd] at h;exact .inl ⟨rfl,h.symm⟩
  |some u=>exact hx.elim
 |some v =>
  cases x with
  |none=>exact hx.elim
  |some u =>
   unfold bnd at h;split at h
   ·rename_i heq;cases heq
   ·rename_i k n heq;cases heq;simp at h;subst h;exact .inr ⟨k,by rw[(eC.eM hx).1]⟩
   ·cases h
theorem run_sliceBound{k:IntKind}{i:Int}{y:Nat}{c:BoundsCode}(h0:0<=i)(h:i<=y)(w:World):(Instr.sliceBound (.int k i) y c).run P w = .ok i.toNat w:=by simp[Instr.sliceBound,asIntOf,h0,h]
theorem sQ{isS:Bool}{len cap:Nat}{lo hi:Option Value}{l h:Int}(hlo:(lo=none/\l=0)\/∃k,lo=some (.int k l))(hhi:(hi=none/\h=len)\/∃k,hi=some (.int k h))
  (h0:0<=l) (h1:l<=h) (h2:h<=cap) (w:World):(Instr.sliceBounds isS len cap lo hi none).run P w = .ok (l.toNat,h.toNat,cap) w:=by
 have hl:l<=(h.toNat:Int):=by omega
 have hh0:0<=h:=by omega
 rcases hlo with ⟨rfl,rfl⟩|⟨k,rfl⟩<;>rcases hhi with ⟨rfl,rfl⟩|⟨k',rfl⟩
 ·simp[Instr.sliceBounds]
 ·simp[Instr.sliceBounds,run_sliceBound (P:=P) hh0 h2]
 ·simp only[Int.toNat_natCast] at hl;simp[Instr.sliceBounds,run_sliceBound (P:=P) h0 hl]
 ·simp[Instr.sliceBounds,run_sliceBound (P:=P) h0 hl,run_sliceBound (P:=P) hh0 h2]
theorem abX{α:Type}{sz:Nat} : ∀ {es:List (List α)} (_:∀e∈es,e.length=sz) (k:Nat),(es.take k).flatten=es.flatten.take (k * sz)
 | [],_,k=>by simp
 |e :: es,_,0=>by simp
 |e :: es,h,k+1=>by
  have he:=h e (by simp);have hm:(k+1) * sz=e.length+k * sz:=by rw[he,Nat.add_mul];omega
  rw[List.take_succ_cons,List.flatten_cons,List.flatten_cons,abX (λx hx=>h x (by simp[hx])) k,hm,List.take_length_add_append]
theorem abY{α:Type}{sz:Nat} : ∀ {es:List (List α)} (_:∀e∈es,e.length=sz) (k:Nat),(es.drop k).flatten=es.flatten.drop (k * sz)
 | [],_,k=>by simp
 |e :: es,_,0=>by simp
 |e :: es,h,k+1=>by
  have he:=h e (by simp);have hm:(k+1) * sz=e.length+k * sz:=by rw[he,Nat.add_mul];omega
  rw[List.drop_succ_cons,List.flatten_cons,abY (λx hx=>h x (by simp[hx])) k,hm,List.drop_length_add_append]
theorem VR.aBJ{u:Value}{es:List (List PV)}(h:VR I u (.aV es)){sz l k:Nat}(hsz:∀e∈es,e.length=sz)(hlk:l<=k)(hk:k<=es.length) :
  ∃ao cap,u = .slice ao es.length cap/\es.length<=cap/\∀m,k<=m->m<=cap->VR I (.slice (if m=l then ao else ao.map (·.add (l * sz))) (k-l) (m-l)) (.aV ((es.take k).drop l)):=by
 cases h with
 |aV ao n cap _ us sz' hn avh hl hv hone hm hnil hcap =>
  refine⟨ao,cap,by rw[hn],by omega,λm hkm hmc=>?_⟩;have hlen:((es.take k).drop l).length=k-l:=by simp;omega
  have hmem:∀e∈(es.take k).drop l,e.length=sz:=λe he=>hsz e (List.mem_of_mem_take (List.mem_of_mem_drop he))
  have hfl:((es.take k).drop l).flatten=(es.flatten.take (k * sz)).drop (l * sz):=by rw[abY (λe he=>hsz e (List.mem_of_mem_take he)),abX hsz]
  refine .aV _ _ _ _ ((us.take (k * sz)).drop (l * sz)) sz hlen hmem ?_ ?_ ?_ ?_ ?_ ?_
  ·rw[hfl,List.length_drop,List.length_take,List.length_drop,List.length_take,hl]
  ·intro j u c hu hc;rw[hfl] at hc;rw[List.getElem?_drop,List.getElem?_take] at hu hc;split at hu
   ·rename_i hj;rw[if_pos hj] at hc;exact hv _ u c hu hc
   ·cases hu
  ·intro u hu;exact hone u (List.mem_of_mem_take (List.mem_of_mem_drop hu))
  ·rcases hm with rfl|⟨b,off,rfl,hI⟩
   ·left;simp
   ·by_cases hc:m=l
    ·left;have:k=l:=by omega
     subst this;simp
    ·right;refine⟨b,off+l * sz,by simp[hc,Addr.add_mid],λj u hu=>?_⟩;rw[List.getElem?_drop,List.getElem?_take] at hu;split at hu
     ·have:=hI _ u hu;rw[Nat.add_assoc];exact this
     ·cases hu
  ·intro h;have:ao=none:=by
    split at h
    ·exact h
    ·simpa using h
   have:=hnil this;omega
  ·omega
theorem VR.part{u:Value}{es:List (List PV)}(h:VR I u (.aV es)){sz l k:Nat}(hsz:∀e∈es,e.length=sz)(hlk:l<=k)(hk:k<=es.length) :
  ∃ao cap,u = .slice ao es.length cap/\es.length<=cap/\VR I (.slice (if cap=l then ao else ao.map (·.add (l * sz))) (k-l) (cap-l)) (.aV ((es.take k).drop l)):=by
 obtain⟨ao,cap,h1,h2,h3⟩:=h.aBJ hsz hlk hk;exact⟨ao,cap,h1,h2,h3 cap (by omega) (Nat.le_refl _)⟩
theorem wq{isS:Bool}{len cap:Nat}{lo:Option Value}{l h m:Int}{k k':IntKind}(hlo:(lo=none/\l=0)\/∃k,lo=some (.int k l))
  (h0:0<=l) (h1:l<=h) (h2:h<=m) (h3:m<=cap) (w:World):(Instr.sliceBounds isS len cap lo (some (.int k h)) (some (.int k' m))).run P w = .ok (l.toNat,h.toNat,m.toNat) w:=by
 have hl:l<=(h.toNat:Int):=by omega
 have hh0:0<=h:=by omega
 have hm0:0<=m:=by omega
 have hm:h<=(m.toNat:Int):=by omega
 rcases hlo with ⟨rfl,rfl⟩|⟨k,rfl⟩
 ·simp[Instr.sliceBounds,run_sliceBound (P:=P) hm0 h3,run_sliceBound (P:=P) hh0 hm]
 ·simp[Instr.sliceBounds,run_sliceBound (P:=P) hm0 h3,run_sliceBound (P:=P) hh0 hm,run_sliceBound (P:=P) h0 hl]
theorem aiJ{t:TypeId}{a v:AV}{lo hi mx:Option AV}{pre:Prop}(h:sP P t a lo hi mx=some (pre,v))(hp:pre){x:Value}{xlo xhi xmx:Option Value}(hx:eC I L x a)
  (hlo:avg I L xlo lo) (hhi:avg I L xhi hi) (hmx:avg I L xmx mx) (w:World) :
  ∃r,(Instr.sliceAt t x xlo xhi xmx).run P w = .ok r w/\eC I L r v:=by
 unfold sP at h;cases mx with
 |some m =>
  dsimp only at h;unfold slice3 at h;split at h
  ·rename_i es kh k km m';split at h
   ·rename_i e l he hl;split at h
    ·rename_i sz hsz;simp only[cv,iw] at h;obtain⟨h1,h2⟩:=h;subst h1 h2;obtain⟨⟨h0,h1,h2,h3⟩,hall⟩:=hp;cases xmx with
     |none=>exact hmx.elim
     |some um =>
     cases xhi with
     |none=>exact hhi.elim
     |some uh =>
     have em:um = .int km m':=(eC.eM hmx).1;have eh:uh = .int kh k:=(eC.eM hhi).1;subst em eh;obtain⟨ao,cap,rfl,hcap,hv⟩:=hx.nZ.aBJ (l:=l.toNat) (k:=k.toNat) hall (by omega) (by omega);refine⟨_,?_,.p _ _ (hv m'.toNat (by omega) (by omega))⟩;have h4:m'<=(cap:Int):=by omega
     simp[Instr.sliceAt,Instr.slice,run_underlying (fB he),wq (P:=P) (isS:=true) (w9 hl hlo) h0 h1 h2 h4,dR hsz]
    ·cases h
   ·cases h
  ·cases h
 |none =>
  cases xmx with
  |some _=>exact hmx.elim
  |none =>
  dsimp only at h;split at h
  ·rename_i s;split at h
   ·rename_i l k hs hl hk;simp only[cv,iw] at h;obtain⟨h1,h2⟩:=h;subst h1 h2;obtain⟨rfl,_⟩:=hx.eM;obtain⟨h0,h1,h2⟩:=hp;refine⟨_,?_,.p _ _ (.val _ rfl)⟩;simp[Instr.sliceAt,Instr.slice,run_underlying (abf hs),sQ (P:=P) (isS:=false) (w9 hl hlo) (w9 hk hhi) h0 h1 h2]
   ·cases h
  ·rename_i es;split at h
   ·rename_i e l k he hl hk;split at h
    ·rename_i sz hsz;simp only[cv,iw] at h;obtain⟨h1,h2⟩:=h;subst h1 h2;obtain⟨⟨h0,h1,h2⟩,hall⟩:=hp;obtain⟨ao,cap,rfl,hcap,hv⟩:=hx.nZ.part (l:=l.toNat) (k:=k.toNat) hall (by omega) (by omega);refine⟨_,?_,.p _ _ hv⟩;have h3:k<=(cap:Int):=by omega
     simp[Instr.sliceAt,Instr.slice,run_underlying (fB he),sQ (P:=P) (isS:=true) (w9 hl hlo) (w9 hk hhi) h0 h1 h3,dR hsz]
    ·cases h
   ·cases h
  ·rename_i id bf off n m sz;split at h
   ·rename_i e l k he hl hk;split at h
    ·rename_i sz' hsz;simp only[cv,iw] at h;obtain⟨h1,h2⟩:=h;subst h1 h2;obtain⟨⟨h0,h1,h2⟩,rfl⟩:=hp;cases hx with
     |iy a _ _ v _ _ _ c bI _ mD hle hn hm hz hh =>
      have h3:k<=(c:Int):=by omega
      refine⟨.slice (if c=l.toNat then a else a.map (·.add (l.toNat * sz'))) (k.toNat-l.toNat) (c-l.toNat),?_,.iy _ _ _ v _ _ _ _ bI _ mD hle (by omega) (by omega) ?_ (λe=>?_)⟩
      ·simp[Instr.sliceAt,Instr.slice,run_underlying (fB he),sQ (P:=P) (isS:=true) (w9 hl hlo) (w9 hk hhi) h0 h1 h3,dR hsz]
      ·intro e;split at e
       ·have:=hz e;omega
       ·have:=hz (by simpa using e);omega
      ·obtain⟨ao,k',cap,e1,e2,e3⟩:=hh e;refine⟨ao,k',cap,e1,by omega,λhc=>?_⟩;by_cases hcl:c=l.toNat
       ·have hl0:l.toNat=0/\off=0:=by omega
        rw[if_pos hcl,e3 (by omega),hl0.1,hl0.2]
       ·rw[if_neg hcl,e3 (by omega)];cases ao with
        |none=>rfl
        |some g =>
         have anb:∀ (a:Addr) (m n:Nat),(a.add m).add n=a.add (m+n):=by intro a m n;unfold Addr.add;by_cases hm:m=0<;>by_cases hn:n=0<;>simp[hm,hn,Nat.add_assoc]
         simp[anb,Nat.add_mul]
    ·cases h
   ·cases h
  ·cases h
def qK(P:Program)(t:TypeId)(a:AV):Option (Prop×AV):=match a with
 | .p (.aV es)=>match isSlice P t with
  |true=>some (True,.p (.val (.int .i64 es.length)))
  |false=>none
 | .p .emp=>match isSlice P t with
  |true=>some (True,.p (.val (.int .i64 0)))
  |false=>none
 | .p (.val (.slice _ n _))=>match isSlice P t with
  |true=>some (True,.p (.val (.int .i64 n)))
  |false=>none
 | .p (.val (.string s))=>match yI P t with
  |true=>some (True,.p (.val (.int .i64 s.size)))
  |false=>none
 | .iy _ _ _ n _ _=>match isSlice P t with
  |true=>some (True,.p (.val (.int .i64 n)))
  |false=>none
 |_=>none
theorem tD{t:TypeId}(h:isSlice P t=true):∃e,P.underlying t=some (.slice e):=by
 unfold isSlice at h;split at h
 ·rename_i e he;exact⟨e,he⟩
 ·cases h
theorem abg{t ty:TypeId}{a v:AV}{pre:Prop}(h:qK P t a=some (pre,v)){x:Value}(hx:eC I L x a)(w:World) :
  ∃r,(Builtin.len_ #[t] ty #[x]).run P w = .ok r w/\eC I L r v:=by
 unfold qK at h;split at h
 ·split at h
  ·rename_i hs;simp only[cv,iw] at h;obtain⟨_,h2⟩:=h;subst h2;obtain⟨e,he⟩:=tD hs;obtain⟨ao,cap,rfl,_⟩:=hx.nZ.aqh;exact⟨_,by simp[Builtin.len_,run_underlying he,goInt],.p _ _ (.val _ rfl)⟩
  ·cases h
 ·split at h
  ·rename_i hs;simp only[cv,iw] at h;obtain⟨_,h2⟩:=h;subst h2;obtain⟨e,he⟩:=tD hs;cases hx.nZ;exact⟨_,by simp[Builtin.len_,run_underlying he,goInt],.p _ _ (.val _ rfl)⟩
  ·cases h
 ·split at h
  ·rename_i hs;simp only[cv,iw] at h;obtain⟨_,h2⟩:=h;subst h2;obtain⟨e,he⟩:=tD hs;obtain⟨rfl,_⟩:=hx.eM;exact⟨_,by simp[Builtin.len_,run_underlying he,goInt],.p _ _ (.val _ rfl)⟩
  ·cases h
 ·split at h
  ·rename_i hs;simp only[cv,iw] at h;obtain⟨_,h2⟩:=h;subst h2;obtain⟨rfl,_⟩:=hx.eM;exact⟨_,by simp[Builtin.len_,run_underlying (abf hs),goInt],.p _ _ (.val _ rfl)⟩
  ·cases h
 ·split at h
  ·rename_i hs;simp only[cv,iw] at h;obtain⟨_,h2⟩:=h;subst h2;obtain⟨e,he⟩:=tD hs;cases hx;exact⟨_,by simp[Builtin.len_,run_underlying he,goInt],.p _ _ (.val _ rfl)⟩
  ·cases h
 ·cases h
end Go.cq
namespace Go.cq
open Go.RowKit
variable{P:Program}{I:Mem}{L:bB}
def qQ(place:Nat->Option (Nat×Nat))(cells:List AV):List (Nat×AV)->Option (List AV)
 | []=>some cells
 |(i,v) :: rest=>match place i with
  |some (off,size)=>if (b5 v).length=size/\off+size<=cells.length/\(b5 v).all n9=true then qQ place (splice cells off (b5 v)) rest else none
  |none=>none
theorem aho(off:Nat):∀ (l:List Value) (k:Nat) (cells:Array Value),off+k+l.length<=cells.size ->
  (l.zipIdx k).foldl (λ(cs:Array Value) (x:Value×Nat)=>cs.setIfInBounds (off+x.2) x.1) cells=(splice cells.toList (off+k) l).toArray
 | [],k,cells,_=>by simp[splice]
 |v :: l,k,cells,h=>by
  simp only[List.zipIdx_cons,List.foldl_cons];have h':off+(k+1)+l.length<=(cells.setIfInBounds (off+k) v).size:=by simp at h ⊢;omega
  rw[aho off l (k+1) _ h'];congr 1;simp only[splice,Array.toList_setIfInBounds,List.length_cons];have hlt:off+k<cells.toList.length:=by simp at h ⊢;omega
  have e1:off+(k+1)=off+k+1:=by omega
  have e2:off+k+(l.length+1)=off+k+1+l.length:=by omega
  rw[e1,e2,List.take_set,List.drop_set_of_lt (by omega),List.take_add_one];have:cells.toList[off+k]? = some (cells.toList[off+k]):=by simp[hlt]
  rw[this];simp only[Option.toList_some];rw[List.set_append_right _ _ (by rw[List.length_take];omega)];have hmin:min (off+k) cells.toList.length=off+k:=Nat.min_eq_left (Nat.le_of_lt hlt);rw[List.length_take,hmin,Nat.sub_self];simp
theorem yL{place abh:Nat->Option (Nat×Nat)}(hpl:∀i x,place i=some x->abh i=some x):∀ (parts:List (Nat×AV)) (vs:List (Nat×Value)) (cells:List AV) (us:List Value) (out:List AV),
  qQ place cells parts=some out->us.length=cells.length->(∀ (j:Nat) u c,us[j]? = some u->cells[j]? = some c->eC I L u c)->(∀u∈us,u.oneCell'=true) ->
  vs.length=parts.length->(∀ (j:Nat) x y,vs[j]? = some x->parts[j]? = some y->x.1=y.1/\eC I L x.2 y.2) ->
  ∃uo:List Value,Instr.fill abh us.toArray vs=some uo.toArray/\uo.length=out.length/\(∀ (j:Nat) u c,uo[j]? = some u->out[j]? = some c->eC I L u c)/\(∀u∈uo,u.oneCell'=true)
 | [],vs,cells,us,out,h,hl,hv,h1,hvl,_=>by have:vs=[]:=List.length_eq_zero_iff.1 hvl;subst this;simp[qQ] at h;subst h;exact⟨us,rfl,hl,hv,h1⟩
 |(i,v) :: rest,[],cells,us,out,_,_,_,_,hvl,_=>by simp at hvl
 |(i,v) :: rest,(i',x) :: vs,cells,us,out,h,hl,hv,h1,hvl,hr=>by
  obtain⟨hii,hx⟩:=hr 0 _ _ rfl rfl;have hii:i'=i:=hii;have hx:eC I L x v:=hx;subst hii;simp only[qQ] at h;split at h
  ·rename_i off size hp;split at h
   ·rename_i hc;obtain⟨hsz,hle,hall⟩:=hc;have hsz:(b5 v).length=size:=hsz;have hone:∀c∈b5 v,n9 c=true:=List.all_eq_true.1 hall;obtain⟨un,he,hul,hur⟩:=hx.cells hone;have hux:∀u∈un,u.oneCell'=true:=λu hu=>by
     obtain⟨j,hj⟩:=List.mem_iff_getElem?.1 hu;have hjl:j<(b5 v).length:=by rw[<-hul];exact (List.getElem?_eq_some_iff.1 hj).1
     have hc:(b5 v)[j]? = some ((b5 v)[j]):=by simp[hjl]
     exact (hur j u _ hj hc).one (hone _ (nR _))
    have hul:un.length=(b5 v).length:=hul;have hn:=ep (cs:=cells) (off:=off) (new:=b5 v) (by rw[hsz];exact hle);have hn':=ep (cs:=us) (off:=off) (new:=un) (by omega);obtain⟨uo,g1,g2,g3,g4⟩:=yL hpl rest vs (splice cells off (b5 v)) (splice us off un) out h (by omega)
     (abc hl hul hv hur) (λu hu=>by
      unfold splice at hu;simp only[List.mem_append] at hu;rcases hu with (hu|hu)|hu
      ·exact h1 u (List.mem_of_mem_take hu)
      ·exact hux u hu
      ·exact h1 u (List.mem_of_mem_drop hu)) (by simpa using hvl) (λj y z hy hz=>hr (j+1) y z hy hz)
    refine⟨uo,?_,g2,g3,g4⟩;have hlen:un.length=size:=by omega
    have hsize:off+un.length<=us.length:=by omega
    unfold Instr.fill;simp only[hpl _ _ hp,he];have hb:¬ (un.toArray.size≠size\/off+un.toArray.size > us.toArray.size):=by simp;omega
    rw[if_neg (by simpa using hb)];have aqi:=aho off un 0 us.toArray (by simpa using hsize);simp only[Nat.add_zero] at aqi;have:(un.toArray.zipIdx.foldl (λ(cs:Array Value) (x:Value×Nat)=>cs.setIfInBounds (off+x.2) x.1) us.toArray)=(splice us off un).toArray:=by rw[<-aqi,<-Array.foldl_toList];simp
    exact (congrArg (λc=>Instr.fill abh c vs) this).trans g1
   ·cases h
  ·cases h
def fe(P:Program)(t:TypeId):Option (List (Nat×Nat)):=match P.underlying t with
 |some (.struct fs)=>fs.toList.mapM λf=>(bz P f.type).map λn=>(f.offset,n)
 |some (.array n e)=>(bz P e).map λsz=>(List.range n).map λi=>(i * sz,sz)
 |_=>none
def ac2(P:Program)(t:TypeId)(parts:List (Nat×AV)):Option (Prop×AV):=match cN P t,fe P t with
 | some zs, some pl => if zs.all (·.oneCell') = true then
   match qQ (λi=>pl[i]?) (zs.map λz=>.p (.val z)) parts with
   |some cs=>some (True,xZ cs)
   |none=>none
  else none
 |_,_=>none
theorem yM{t:TypeId}{zs:List Value}(h:cN P t=some zs):∃i z,P.info? t=some i/\i.zero=some z/\z.cells.toList=zs:=by
 unfold cN at h;cases hi:P.info? t with
 |none=>simp[hi] at h
 |some i =>
  cases hz:i.zero with
  |none=>simp[hi,hz] at h
  |some z=>exact⟨i,z,rfl,hz,by simpa[hi,hz] using h⟩
theorem wu{t:TypeId}{zs:List Value}(h:cN P t=some zs)(w:World):∃z,(zeroValue t).run P w = .ok z w/\z.cells=zs.toArray:=by obtain⟨i,z,hi,hz,hc⟩:=yM h;refine⟨z,by simp[zeroValue,typeInfo,hi,hz],?_⟩;rw[<-hc]
theorem aaN{α β:Type}(g:α->Sem β)(g':α->Option β)(w:World):∀ (l:List α) (out:List β),l.mapM g'=some out ->
  (∀a b,g' a=some b->(g a).run P w = .ok b w)->(l.mapM g).run P w = .ok out w
 | [],out,h,_=>by simp at h;subst h;simp
 |a :: l,out,h,hg=>by
  simp only[List.mapM_cons,Option.bind_eq_bind,Option.pure_def] at h;cases ha:g' a with
  |none=>simp[ha] at h
  |some b =>
   cases hl:l.mapM g' with
   |none=>simp[ha,hl] at h
   |some bs=>simp[ha,hl] at h;subst h;simp[hg a b ha,aaN g g' w l bs hl hg]
theorem akd(zs:List Value)(h:zs.all (·.oneCell')=true):(∀ (j:Nat) u c,zs[j]? = some u->(zs.map λz=>AV.p (.val z))[j]? = some c->eC I L u c)/\∀u∈zs,u.oneCell'=true:=by have h1:∀u∈zs,u.oneCell'=true:=List.all_eq_true.1 h;refine⟨λj u c hu hc=>?_,h1⟩;rw[List.getElem?_map,hu] at hc;simp at hc;subst hc;exact .p _ _ (.val _ (h1 u (List.mem_of_getElem? hu)))
def aeS(I:Mem)(L:bB)(vs:List (Nat×Value))(parts:List (Nat×AV)):Prop:=vs.length=parts.length/\∀ (j:Nat) x y,vs[j]? = some x->parts[j]? = some y->x.1=y.1/\eC I L x.2 y.2
theorem aiK{t:TypeId}{parts:List (Nat×AV)}{v:AV}{pre:Prop}(h:ac2 P t parts=some (pre,v)){vs:List (Nat×Value)}(hr:aeS I L vs parts)(w:World) :
  ∃r,(Instr.build t vs.toArray).run P w = .ok r w/\eC I L r v:=by
 unfold ac2 at h;split at h
 ·rename_i zs pl hz hpl;split at h
  ·rename_i hone;split at h
   ·rename_i cs hf;simp only[cv,iw] at h;obtain⟨_,h2⟩:=h;subst h2;obtain⟨z,hzr,hzc⟩:=wu hz w;obtain⟨zr,z1⟩:=akd (I:=I) (L:=L) zs hone;unfold fe at hpl;split at hpl
    ·rename_i fs hfs;obtain⟨uo,g1,g2,g3,g4⟩:=yL (abh:=λi=>pl[i]?) (λi x h=>h) parts vs _ zs cs hf (by simp) zr z1 hr.1 hr.2;refine⟨_,?_,vk g2 g3 g4⟩;have hm:(fs.mapM λ(f:Field)=>(do pure (f.offset,<-sizeOf f.type):Sem (Nat×Nat))).run P w = .ok pl.toArray w:=by
      rw[Array.mapM_eq_mapM_toList];have:=aaN (P:=P) (λf:Field=>(do pure (f.offset,<-sizeOf f.type):Sem (Nat×Nat))) _ w fs.toList pl hpl (λf b hb=>by
       cases hs:bz P f.type with
       |none=>simp[hs] at hb
       |some n=>simp[hs] at hb;subst hb;simp[dR hs])
      rw[Sem.run_map,this];simp
     simp only[Instr.build,Sem.run_bind,hzr,Result.andThen_ok,run_underlying hfs,hm,hzc];simp[g1]
    ·rename_i n e hu;cases hsz:bz P e with
     |none=>simp[hsz] at hpl
     |some sz =>
      simp[hsz] at hpl;obtain⟨uo,g1,g2,g3,g4⟩:=yL (abh:=λi=>some (i * sz,sz)) (λi x h=>by
       rw[<-hpl,List.getElem?_map] at h;cases hi:(List.range n)[i]? with
       |none=>simp[hi] at h
       |some k =>
        simp[hi] at h;have:=List.getElem?_eq_some_iff.1 hi;obtain⟨hlt,hk⟩:=this;simp at hk;rw[<-h,hk]) parts vs _ zs cs hf (by simp) zr z1 hr.1 hr.2
      refine⟨_,?_,vk g2 g3 g4⟩;simp only[Instr.build,Sem.run_bind,hzr,Result.andThen_ok,run_underlying hu,dR hsz,hzc];simp[g1]
    ·cases hpl
   ·cases h
  ·cases h
 ·cases h
end Go.cq
namespace Go.cq
open Go.RowKit
variable{P:Program}{I:Mem}{L:bB}
def chunk{α:Type}(sz:Nat):Nat->List α->List (List α)
 |0,_=>[]
 |n+1,l=>l.take sz :: chunk sz n (l.drop sz)
theorem abZ{α:Type}(sz:Nat):∀ (n:Nat) (l:List α),(chunk sz n l).length=n
 |0,_=>rfl
 |n+1,l=>by simp[chunk,abZ sz n]
theorem aaO{α:Type}(sz:Nat):∀ (n:Nat) (l:List α),l.length=n * sz->(chunk sz n l).flatten=l
 |0,l,h=>by have:l=[]:=List.length_eq_zero_iff.1 (by simpa using h);subst this;rfl
 |n+1,l,h=>by
  have hm:(n+1) * sz=n * sz+sz:=by rw[Nat.add_mul];omega
  rw[chunk,List.flatten_cons,aaO sz n (l.drop sz) (by rw[List.length_drop];omega),List.take_append_drop]
theorem ahp{α:Type}(sz:Nat):∀ (n:Nat) (l:List α),l.length=n * sz->∀e∈chunk sz n l,e.length=sz
 |0,l,_,e,he=>by simp[chunk] at he
 |n+1,l,h,e,he=>by
  have hm:(n+1) * sz=n * sz+sz:=by rw[Nat.add_mul];omega
  simp only[chunk,List.mem_cons] at he;rcases he with rfl|he
  ·rw[List.length_take];omega
  ·exact ahp sz n (l.drop sz) (by rw[List.length_drop];omega) e he
def iD(zs:List Value)(n:Nat):List AV:=(List.replicate n (zs.map λz=>AV.p (.val z))).flatten
def lM(P:Program)(t:TypeId)(n:Nat)(parts:List (Nat×AV)):Option (TypeId×List (List PV)):=match cM P t with
 |some e=>match bz P e,cN P e with
  | some sz, some zs => if zs.length = sz ∧ 0 < sz ∧ n * sz ≤ 16777216 ∧ zs.all (·.oneCell') = true then
    match qQ (λi=>some (i * sz,sz)) (iD zs n) parts with
    |some cs=>match tB cs with
     |some ps=>if ps.length=n * sz then some (e,chunk sz n ps) else none
     |none=>none
    |none=>none
   else none
  |_,_=>none
 |none=>none
theorem aan(zs:List Value)(n:Nat)(h:0<zs.length):((Array.range (n * zs.length)).map (λi=>zs.toArray[i % zs.toArray.size]!))=(List.replicate n zs).flatten.toArray:=by
 apply Array.ext';apply List.ext_getElem?;intro j;simp only[Array.toList_map,Array.toList_range,List.getElem?_map];have hall:∀e∈List.replicate n zs,e.length=zs.length:=λe he=>by rw[List.eq_of_mem_replicate he]
 by_cases hj:j<n * zs.length
 ·have hd:j / zs.length<n:=Nat.div_lt_of_lt_mul (by rw[Nat.mul_comm];exact hj);have hm:j % zs.length<zs.length:=Nat.mod_lt _ h;have:=gV hall (j / zs.length) (j % zs.length) (by simpa using hd) hm;have e1:j / zs.length * zs.length+j % zs.length=j:=by rw[Nat.mul_comm];exact Nat.div_add_mod j zs.length
  rw[e1] at this;rw[this];simp[hj,hd,hm]
 ·have h1:(List.range (n * zs.length))[j]? = none:=by simp;omega
  have h2:(List.replicate n zs).flatten[j]? = none:=by rw[List.getElem?_eq_none_iff,bH hall];simp;omega
  rw[h1,h2];rfl
theorem vK{t:TypeId}{n:Nat}{parts:List (Nat×AV)}{e:TypeId}{es:List (List PV)}(h:lM P t n parts=some (e,es)){vs:List (Nat×Value)}(hr:aeS I L vs parts)(w:World) :
  ∃ (uo:List Value) (sz:Nat),(Instr.buildSlice t n vs.toArray).run P w = .ok (.slice (some ⟨w.heap.size,0,none⟩) n n) (w.alloc (.cells uo.toArray e))/\cM P t=some e/\bz P e=some sz/\0<sz /\
   es.length=n/\(∀x∈es,x.length=sz)/\uo.length=es.flatten.length/\(∀ (j:Nat) u c,uo[j]? = some u->es.flatten[j]? = some c->VR I u c)/\∀u∈uo,u.oneCell'=true:=by
 unfold lM at h;split at h
 ·rename_i e' he;split at h
  ·rename_i sz zs hsz hz;split at h
   ·rename_i hc;obtain⟨hzl,hpos,h24,hone⟩:=hc;split at h
    ·rename_i cs hf;split at h
     ·rename_i ps hps;split at h
      ·rename_i hlen;simp only[cv,iw] at h;obtain⟨h1,h2⟩:=h;subst h1 h2;have hcs:=tU hps;obtain⟨z,hzr,hzc⟩:=wu hz w;have hbase:((List.replicate n zs).flatten).length=(iD zs n).length:=by simp[iD]
       have hrel:∀ (j:Nat) u c,((List.replicate n zs).flatten)[j]? = some u->(iD zs n)[j]? = some c->eC I L u c:=by
        intro j u c hu hc;have e1:iD zs n=((List.replicate n zs).flatten).map (λz=>AV.p (.val z)):=by simp[iD,List.map_flatten]
        rw[e1,List.getElem?_map,hu] at hc;simp at hc;subst hc;have hu':=List.mem_of_getElem? hu;obtain⟨l,hl,hul⟩:=List.mem_flatten.1 hu';rw[List.eq_of_mem_replicate hl] at hul;exact .p _ _ (.val _ (List.all_eq_true.1 hone u hul))
       have h1:∀u∈(List.replicate n zs).flatten,u.oneCell'=true:=λu hu=>by obtain⟨l,hl,hul⟩:=List.mem_flatten.1 hu;rw[List.eq_of_mem_replicate hl] at hul;exact List.all_eq_true.1 hone u hul
       obtain⟨uo,g1,g2,g3,g4⟩:=yL (abh:=λi=>some (i * sz,sz)) (λi x h=>h) parts vs _ _ cs hf hbase hrel h1 hr.1 hr.2;have hfl:=aaO sz n ps hlen;refine⟨uo,sz,?_,he,hsz,hpos,abZ sz n ps,ahp sz n ps hlen,?_,?_,g4⟩
       ·have hzero:((Array.range (n * sz)).map (λi=>zs.toArray[i % zs.toArray.size]!))=(List.replicate n zs).flatten.toArray:=by rw[<-hzl];exact aan zs n (by omega)
        by_cases hn:n * sz=0
        ·have hn0:n=0:=by
          rcases Nat.mul_eq_zero.1 hn with h|h
          ·exact h
          ·omega
         subst hn0;simp only[List.replicate_zero,List.flatten_nil] at g1;have hr0:((Array.range (0 * sz)).map (λi=>(#[]:Array Value)[i % (#[]:Array Value).size]!)) = #[]:=by simp
         simp only[Instr.buildSlice,Sem.run_bind,run_underlying (fB he),Result.andThen_ok,dR hsz];rw[if_neg (by simp),if_pos hn];simp only[Sem.run_bind,Result.andThen_ok,Sem.run_pure,hr0,g1];simp[newRow,newObj,Sem.run]
        ·have aCb:¬ (16777216<n * sz):=by omega
         have hz':(n * sz=0)=False:=by simpa using hn
         simp only[Instr.buildSlice,Sem.run_bind,run_underlying (fB he),Result.andThen_ok,dR hsz];rw[if_neg (by simpa using aCb),if_neg hn];simp only[Sem.run_bind,hzr,Result.andThen_ok,Sem.run_pure,hzc,hzero,g1];simp[newRow,newObj,Sem.run]
       ·rw[hfl,g2,hcs];simp
       ·rw[hfl];rw[hcs] at g3;exact abW g3
      ·cases h
     ·cases h
    ·cases h
   ·cases h
  ·cases h
 ·cases h
def vm(P:Program)(t:TypeId)(n:Nat)(parts:List (Nat×AV)):Option (TypeId×List AV):=match cM P t with
 |some e=>match bz P e,cN P e with
  | some sz, some zs => if zs.length = sz ∧ 0 < sz ∧ n * sz ≤ 16777216 ∧ zs.all (·.oneCell') = true then
    match qQ (λi=>some (i * sz,sz)) (iD zs n) parts with
    |some cs=>some (e,cs)
    |none=>none
   else none
  |_,_=>none
 |none=>none
theorem agK{t:TypeId}{n:Nat}{parts:List (Nat×AV)}{e:TypeId}{cs:List AV}(h:vm P t n parts=some (e,cs)){vs:List (Nat×Value)}(hr:aeS I L vs parts)(w:World) :
  ∃ (uo:List Value),(Instr.buildSlice t n vs.toArray).run P w = .ok (.slice (some ⟨w.heap.size,0,none⟩) n n) (w.alloc (.cells uo.toArray e)) /\
   uo.length=cs.length/\(∀ (j:Nat) u c,uo[j]? = some u->cs[j]? = some c->eC I L u c)/\∀u∈uo,u.oneCell'=true:=by
 unfold vm at h;split at h
 ·rename_i e' he;split at h
  ·rename_i sz zs hsz hz;split at h
   ·rename_i hc;obtain⟨hzl,hpos,h24,hone⟩:=hc;split at h
    ·rename_i cs' hf
     ··
       simp only[cv,iw] at h;obtain⟨h1,h2⟩:=h;subst h1 h2;obtain⟨z,hzr,hzc⟩:=wu hz w;have hbase:((List.replicate n zs).flatten).length=(iD zs n).length:=by simp[iD]
       have hrel:∀ (j:Nat) u c,((List.replicate n zs).flatten)[j]? = some u->(iD zs n)[j]? = some c->eC I L u c:=by
        intro j u c hu hc;have e1:iD zs n=((List.replicate n zs).flatten).map (λz=>AV.p (.val z)):=by simp[iD,List.map_flatten]
        rw[e1,List.getElem?_map,hu] at hc;simp at hc;subst hc;have hu':=List.mem_of_getElem? hu;obtain⟨l,hl,hul⟩:=List.mem_flatten.1 hu';rw[List.eq_of_mem_replicate hl] at hul;exact .p _ _ (.val _ (List.all_eq_true.1 hone u hul))
       have h1:∀u∈(List.replicate n zs).flatten,u.oneCell'=true:=λu hu=>by obtain⟨l,hl,hul⟩:=List.mem_flatten.1 hu;rw[List.eq_of_mem_replicate hl] at hul;exact List.all_eq_true.1 hone u hul
       obtain⟨uo,g1,g2,g3,g4⟩:=yL (abh:=λi=>some (i * sz,sz)) (λi x h=>h) parts vs _ _ cs' hf hbase hrel h1 hr.1 hr.2;refine⟨uo,?_,g2,g3,g4⟩
       ·have hzero:((Array.range (n * sz)).map (λi=>zs.toArray[i % zs.toArray.size]!))=(List.replicate n zs).flatten.toArray:=by rw[<-hzl];exact aan zs n (by omega)
        by_cases hn:n * sz=0
        ·have hn0:n=0:=by
          rcases Nat.mul_eq_zero.1 hn with h|h
          ·exact h
          ·omega
         subst hn0;simp only[List.replicate_zero,List.flatten_nil] at g1;have hr0:((Array.range (0 * sz)).map (λi=>(#[]:Array Value)[i % (#[]:Array Value).size]!)) = #[]:=by simp
         simp only[Instr.buildSlice,Sem.run_bind,run_underlying (fB he),Result.andThen_ok,dR hsz];rw[if_neg (by simp),if_pos hn];simp only[Sem.run_bind,Result.andThen_ok,Sem.run_pure,hr0,g1];simp[newRow,newObj,Sem.run]
        ·have aCb:¬ (16777216<n * sz):=by omega
         have hz':(n * sz=0)=False:=by simpa using hn
         simp only[Instr.buildSlice,Sem.run_bind,run_underlying (fB he),Result.andThen_ok,dR hsz];rw[if_neg (by simpa using aCb),if_neg hn];simp only[Sem.run_bind,hzr,Result.andThen_ok,Sem.run_pure,hzc,hzero,g1];simp[newRow,newObj,Sem.run]
    ·cases h
   ·cases h
  ·cases h
 ·cases h
def isNil:AV->Bool
 | .p .emp=>true
 | .p (.val (.slice none 0 0))=>true
 |_=>false
theorem aeT{a:AV}(h:isNil a=true){u:Value}(hu:eC I L u a):∃ao,u = .slice ao 0 0:=by
 unfold isNil at h;split at h
 ·cases hu.nZ;exact⟨_,rfl⟩
 ·exact⟨none,hu.eM.1⟩
 ·cases h
def dw(P:Program)(t1 t2:TypeId):Option (TypeId×Nat×Nat):=if t1=t2 then match cM P t1 with
 |some e=>match bz P e,abU P e,cN P e with
  |some sz,some qR,some zs=>if zs.length=sz/\0<sz/\0<qR then some (e,sz,qR) else none
  |_,_,_=>none
 |none=>none else none
theorem nD{t1 t2 e:TypeId}{sz b:Nat}(h:dw P t1 t2=some (e,sz,b)):t1=t2/\P.underlying t1=some (.slice e)/\0<sz/\0<b /\
  ∃i z,P.info? e=some i/\i.zero=some z/\i.size=sz/\i.bytes=b/\z.cells.size=sz:=by
 unfold dw at h;split at h
 ·rename_i h12;split at h
  ·rename_i e' he;split at h
   ·rename_i sz' b' zs hs hb hz;split at h
    ·rename_i hc;simp only[cv,iw] at h;obtain⟨r1,r2,r3⟩:=h;subst r1 r2 r3;obtain⟨i,z,hi,hzz,hzc⟩:=yM hz;refine⟨h12,fB he,hc.2.1,hc.2.2,i,z,hi,hzz,?_,?_,?_⟩
     ·simpa[bz,hi] using hs
     ·simpa[abU,hi] using hb
     ·rw[<-hc.1,<-hzc];simp
    ·cases h
   ·cases h
  ·cases h
 ·cases h
theorem pN{t ty e:TypeId}{i:TypeInfo}{z:Value}{sz:Nat}(ht:P.underlying t=some (.slice e))(hi:P.info? e=some i)(hz:i.zero=some z)(hs:i.size=sz)(ao:Option Addr)
  (a:Addr) (m c:Nat) (news:List Value) (w:World) (hl:news.length=m * sz) (hnews:∀ (j:Nat) v,news[j]? = some v->w.cell? (a.add j)=some v)
  (h0:0<m) (hb:m * i.bytes<=140737488355328) (hm:m<=9223372036854775807) :
  ∃cap rest,(Builtin.append_ #[t,t] ty #[.slice ao 0 0,.slice (some a) m c]).run P w =
   .ok (.slice (some ⟨w.heap.size,0,none⟩) m cap) (w.drew.alloc (.cells (news++rest).toArray e))/\m<=cap/\(news++rest).length=m * sz+(cap-m) * z.cells.size/\cap<=maxLen:=by
 subst hs;refine⟨grownCap w m 0 e,(Builtin.zeroCells z.cells (grownCap w m 0 e-m)).toList,?_,grownCap_ge w m 0 e,?_,grownCap_le_maxLen w m 0 e (by simp only[maxLen];omega)⟩
 ·have h63:(m:Int)<=9223372036854775807:=by omega
  cases ao with
  |none=>rw[run_append_nil w t ty e i z ht hi hz a m c news hl hnews h0 h63 (by omega)];congr 3;apply Array.ext';simp
  |some b =>
   have hnx:Builtin.nextslicecap (0+m) 0 * i.bytes<=281474976710656:=by rw[Nat.zero_add,nextslicecap_zero h0];omega
   have:=run_append_grow (P:=P) w t ty e i z ht hi hz b 0 0 [] (by simp) (by simp) a m c news hl hnews (by omega) (by simpa using h63) hnx;simp only[Nat.zero_add] at this;rw[this];congr 3;apply Array.ext';simp
 ·rw[List.length_append,hl,Array.length_toList,size_zeroCells]
end Go.cq
namespace Go.cq
open Go.RowKit
variable{P:Program}{I:Mem}{L:bB}
def ac3(P:Program)(t1 t2:TypeId)(a b:AV):Option (Prop×AV):=match isNil a,dw P t1 t2 with
 |true,some (_,sz,qR)=>match b with
  | .p (.aV es)=>some (es.length * qR<=140737488355328/\∀x∈es,x.length=sz,.p (.aV es))
  |b=>match isNil b with
   |true=>some (True,.p .emp)
   |false=>none
 |_,_=>none
def agL(k:IntKind)(n:Int):List AV->Option (Prop×AV)
 | []=>some (True,.p (.val (.int k n)))
 | .p (.val (.int _ m)) :: r=>agL k (max n m) r
 |_=>none
def avi(k:IntKind)(n:Int):List AV->Option (Prop×AV)
 | []=>some (True,.p (.val (.int k n)))
 | .p (.val (.int _ m)) :: r=>avi k (min n m) r
 |_=>none
theorem aeU{k:IntKind} : ∀ {eR:List AV} {n:Int} {v:AV} {pre:Prop} {us:List Value},agL k n eR=some (pre,v)->oU I L us eR->∀w:World,∃r,(us.foldlM Builtin.max2 (.int k n)).run P w = .ok r w/\eC I L r v
 | [],n,v,pre,us,h,hu,w=>by simp only[agL,cv,iw] at h;obtain⟨_,rfl⟩:=h;have:us=[]:=List.length_eq_zero_iff.1 (by simpa using hu.1);subst this;exact⟨_,rfl,.p _ _ (.val _ rfl)⟩
 |a :: r,n,v,pre,us,h,hu,w=>by
  unfold agL at h;split at h
  ·rename_i e;cases e
  ·rename_i k' m r' e;simp only[List.cons.injEq] at e;obtain⟨rfl,rfl⟩:=e
   match us,hu with
   | [],hu=>have:=hu.1;simp at this
   |u :: us,hu =>
    obtain⟨rfl,_⟩:=(hu.2 0 u _ rfl rfl).eM;obtain⟨q,h1,h2⟩:=aeU h (us:=us) ⟨by simpa using hu.1,λj u c hu' hc=>hu.2 (j+1) u c hu' hc⟩ w;refine⟨q,?_,h2⟩;have e:(if m > n then m else n)=max n m:=by omega
    rw[List.foldlM_cons,Sem.run_bind];simp only[Builtin.max2,Sem.run_pure,Result.andThen_ok,e];exact h1
  ·cases h
theorem aeV{k:IntKind} : ∀ {eR:List AV} {n:Int} {v:AV} {pre:Prop} {us:List Value},avi k n eR=some (pre,v)->oU I L us eR->∀w:World,∃r,(us.foldlM Builtin.min2 (.int k n)).run P w = .ok r w/\eC I L r v
 | [],n,v,pre,us,h,hu,w=>by simp only[avi,cv,iw] at h;obtain⟨_,rfl⟩:=h;have:us=[]:=List.length_eq_zero_iff.1 (by simpa using hu.1);subst this;exact⟨_,rfl,.p _ _ (.val _ rfl)⟩
 |a :: r,n,v,pre,us,h,hu,w=>by
  unfold avi at h;split at h
  ·rename_i e;cases e
  ·rename_i k' m r' e;simp only[List.cons.injEq] at e;obtain⟨rfl,rfl⟩:=e
   match us,hu with
   | [],hu=>have:=hu.1;simp at this
   |u :: us,hu =>
    obtain⟨rfl,_⟩:=(hu.2 0 u _ rfl rfl).eM;obtain⟨q,h1,h2⟩:=aeV h (us:=us) ⟨by simpa using hu.1,λj u c hu' hc=>hu.2 (j+1) u c hu' hc⟩ w;refine⟨q,?_,h2⟩;have e:(if m<n then m else n)=min n m:=by omega
    rw[List.foldlM_cons,Sem.run_bind];simp only[Builtin.min2,Sem.run_pure,Result.andThen_ok,e];exact h1
  ·cases h
def ur(P:Program)(b:Builtin)(ts:List TypeId)(eR:List AV):Option (Prop×AV):=match b,ts,eR with
 | .len,[t],[a]=>qK P t a
 | .append,[t1,t2],[a,b]=>ac3 P t1 t2 a b
 | .max,_,.p (.val (.int k n)) :: r=>agL k n r
 | .min,_,.p (.val (.int k n)) :: r=>avi k n r
 |_,_,_=>none
def oc(P:Program)(o:Oper)(ρ:Operand->AV):Option (Prop×AV):=match o.op with
 | .move x | .assign x=>some (True,ρ x)
 | .pick c a b=>ahn (ρ c) (ρ a) (ρ b)
 | .load t a=>aqg P t (ρ a)
 | .fieldAddr s a k=>aiG P s (ρ a) k
 | .indexAddr t x i=>oV P t (ρ x) (ρ i)
 | .index t x i=>am9 P t (ρ x) (ρ i)
 | .extract x k=>uq (ρ x) k
 | .binOp op t x y _=>oa P op t (ρ x) (ρ y)
 | .unOp op _ x=>unX op (ρ x)
 | .convert s d x=>aeQ P s d (ρ x)
 | .makeFunc fn f c=>some (True,akb fn (f.toList.map ρ) (c.toList.map ρ))
 | .build t parts=>ac2 P t (parts.toList.map λx=>(x.1,ρ x.2))
 | .buildSlice t n parts=>match lM P t n (parts.toList.map λx=>(x.1,ρ x.2)) with
  |some (_,es)=>match n with
   |0=>some (True,.p .emp)
   |_=>some (True,.p (.aV es))
  |none=>none
 | .slice t x lo hi mx=>sP P t (ρ x) (lo.map ρ) (hi.map ρ) (mx.map ρ)
 | .nilCheck x=>arf (ρ x)
 | .call c=>match c.callee with
  | .builtin b=>ur P b c.argTypes.toList (c.args.toList.map ρ)
  |_=>none
 |_=>none
theorem wv{σ:Operand->Value}{ρ:Operand->AV}(hσ:∀x,eC I L (σ x) (ρ x))(l:List (Nat×Operand)) :
  aeS I L (l.map λx=>(x.1,σ x.2)) (l.map λx=>(x.1,ρ x.2)):=by
 refine⟨by simp,λj x y hx hy=>?_⟩;rw[List.getElem?_map] at hx hy;cases hj:l[j]? with
 |none=>simp[hj] at hx
 |some z=>simp[hj] at hx hy;subst hx hy;exact⟨rfl,hσ _⟩
theorem uu{σ:Operand->Value}{ρ:Operand->AV}(hσ:∀x,eC I L (σ x) (ρ x))(l:List Operand) :
  oU I L (l.map σ) (l.map ρ):=by
 refine⟨by simp,λj x y hx hy=>?_⟩;rw[List.getElem?_map] at hx hy;cases hj:l[j]? with
 |none=>simp[hj] at hx
 |some z=>simp[hj] at hx hy;subst hx hy;exact hσ _
theorem aiL{σ:Operand->Value}{ρ:Operand->AV}(hσ:∀x,eC I L (σ x) (ρ x))(l:Option Operand):avg I L (l.map σ) (l.map ρ):=by
 cases l with
 |none=>trivial
 |some x=>exact hσ x
def oN(P:Program)(C:Ctx)(H:ay)(I:Mem)(L:bB)(w:World)(r:Result Next)(v:AV)(H':ay):Prop:=∃u w' I' L',(r = .ok (.value u) w'\/(r = .ok .skip w'/\u=undef))/\eC I' L' u v/\Fr C I L H w I' L' H' w'
theorem oN.still{C:Ctx}{H:ay}{w:World}{v:AV}{u:Value}{r:Result Next}(hr:r = .ok (.value u) w)(h:eC I L u v):oN P C H I L w r v H:=⟨u,w,I,L,.inl hr,h,Fr.refl _ _ _ _ _⟩
theorem oN.jC{C:Ctx}{H:ay}{w:World}{v:AV}{s:Sem Value}{s':Sem Next}(hs:∀w,s'.run P w=(s.run P w).andThen λu w'=>.ok (.value u) w')(h:∃u,s.run P w = .ok u w/\eC I L u v) :
  oN P C H I L w (s'.run P w) v H:=by
 obtain⟨u,hr,ha⟩:=h;exact .still (by rw[hs,hr];rfl) ha
theorem run_lift(s:Sem Value)(w:World):(do pure (.value (<-s)):Sem Next).run P w=(s.run P w).andThen λu w'=>.ok (.value u) w':=by simp
theorem ane{t1 t2 ty:TypeId}{a b v:AV}{pre:Prop}(h:ac3 P t1 t2 a b=some (pre,v))(hp:pre){C:Ctx}{H:ay}{env:Env}{tm:Array Value}{w:World}(hs:gU C env H I L tm w)
  {x y:Value} (hx:eC I L x a) (hy:eC I L y b) {s':Sem Next} (hs':∀w,s'.run P w=((Builtin.append_ #[t1,t2] ty #[x,y]).run P w).andThen λu w'=>.ok (.value u) w') :
  oN P C H I L w (s'.run P w) v H:=by
 unfold ac3 at h;split at h
 ·rename_i e sz qR hn ht
  obtain⟨rfl,hu,hpos,aaP,i,z,hi,hz,hsz,hby,hzc⟩:=nD ht;obtain⟨ao,rfl⟩:=aeT hn hx;have nothing:∀ (bo:Option Addr) (c:Nat),(Builtin.append_ #[t1,t1] ty #[.slice ao 0 0,.slice bo 0 c]).run P w = .ok (.slice ao 0 0) w:=by intro bo c;cases ao<;>cases bo<;>simp[Builtin.append_,run_underlying hu,sizeOf,typeInfo,hi,Builtin.lenOf,Builtin.firstCells,loadCells,loadCellsFrom,storeCells]
  split at h
  ·rename_i es;simp only[cv,iw] at h;obtain⟨h1,h2⟩:=h;subst h1 h2;obtain⟨hb,hall⟩:=hp;cases hy.nZ with
   |aV bo n cap _ us sz' hlen avh hl hv hone hm hnil hcap =>
    subst hlen;by_cases h0:es.length=0
    ·have he:es=[]:=List.length_eq_zero_iff.1 h0;subst he;refine⟨_,w,I,L,.inl (by rw[hs',List.length_nil,nothing];rfl),?_,Fr.refl _ _ _ _ _⟩;exact .p _ _ (.aV ao 0 0 [] [] sz rfl (by simp) (by simp) (by simp) (by simp) (.inl rfl) (λ_=>⟨rfl,rfl⟩) (Nat.le_refl _))
    ·have hfl:=bH hall;rcases hm with rfl|⟨bb,off,rfl,hI⟩
     ·exfalso;have hz0:es.flatten.length=0:=by rw[<-hl];rfl
      rw[hfl] at hz0;rcases Nat.mul_eq_zero.1 hz0 with h|h<;>omega
     ·obtain⟨cp,rest,hr,hcp,hrl,_⟩:=pN (P:=P) (ty:=ty) hu hi hz hsz ao ⟨bb,off,none⟩ es.length cap us w (by rw[hl,hfl]) (λj v hjv=>by
       rw[Addr.add_mid];exact hs.mem _ _ _ (hI j v hjv)) (by omega) (by rw[hby];exact hb) (by
        have:=Nat.le_mul_of_pos_right es.length aaP;omega)
      refine⟨_,_,I.with w.heap.size (us++rest).toArray,L,.inl (by rw[hs',hr];rfl),.p _ _ ?_,(Fr.drew C I L H w).trans (Fr.imm C I L H w.drew _ e)⟩;exact VR.aiE (w:=w) hs.mem hall hl hv hone hcp
  ·rename_i b hne;split at h
   ·rename_i hnb;simp only[cv,iw] at h;obtain⟨_,h2⟩:=h;subst h2;obtain⟨bo,rfl⟩:=aeT hnb hy;exact .still (by rw[hs',nothing];rfl) (.p _ _ (.emp ao))
   ·cases h
 ·cases h
theorem arh{o:Oper}{ρ:Operand->AV}{v:AV}{pre:Prop}(h:oc P o ρ=some (pre,v))(hp:pre){C:Ctx}{H:ay}{env:Env}{tm:Array Value}{w:World}
  (hs:gU C env H I L tm w) {σ:Operand->Value} (hσ:∀x,eC I L (σ x) (ρ x)):oN P C H I L w ((execOp σ o).run P w) v H:=by
 unfold oc at h;unfold execOp;cases hop:o.op<;>simp only[hop] at h ⊢<;>try (cases h;done)
 case move x=>simp only[cv,iw] at h;obtain⟨_,h2⟩:=h;subst h2;exact .still rfl (hσ x)
 case assign x=>simp only[cv,iw] at h;obtain⟨_,h2⟩:=h;subst h2;exact .still rfl (hσ x)
 case pick c a b =>
  unfold ahn at h;split at h
  ·rename_i hc;simp only[cv,iw] at h;obtain⟨_,h2⟩:=h;subst h2;have:=(hc ▸ hσ c).eM.1;exact .still (u:=σ a) (by simp[this,asBool]) (hσ a)
  ·rename_i hc;simp only[cv,iw] at h;obtain⟨_,h2⟩:=h;subst h2;have:=(hc ▸ hσ c).eM.1;exact .still (u:=σ b) (by simp[this,asBool]) (hσ b)
  ·cases h
 case load t a=>exact .jC (run_lift _) (aj8 h (hσ a) hs.mem)
 case fieldAddr s a k=>exact .jC (run_lift _) (aiH h hp (hσ a) w)
 case indexAddr t x i=>exact .jC (run_lift _) (aiI h hp (hσ x) (hσ i) w)
 case index t x i=>exact .jC (run_lift _) (ana h hp (hσ x) (hσ i) w)
 case extract x k=>exact .jC (run_lift _) (aeR h (hσ x) w)
 case binOp op t x y ty=>exact .jC (run_lift _) (am8 h hp (hσ x) (hσ y) w x y)
 case unOp op t x=>exact .jC (run_lift _) (ard h (hσ x) w)
 case convert s d x=>exact .jC (run_lift _) (aj7 h (hσ x) w)
 case makeFunc fn f c =>
  simp only[cv,iw] at h;obtain⟨_,h2⟩:=h;subst h2;obtain⟨l1,r1⟩:=uu (I:=I) (L:=L) hσ f.toList;obtain⟨l2,r2⟩:=uu (I:=I) (L:=L) hσ c.toList;refine .jC (run_lift _) ⟨_,?_,akc l1 l2 r1 r2⟩;have e1:∀l:Array Operand,l.map σ=(l.toList.map σ).toArray:=λl=>by apply Array.ext';simp
  simp only[Instr.makeFunc,Sem.run_pure,e1]
 case build t parts=>obtain⟨r,hr,ha⟩:=aiK h (wv hσ parts.toList) w;refine .jC (run_lift _) ⟨r,?_,ha⟩;rw[<-hr];congr 2;apply Array.ext';simp
 case buildSlice t n parts =>
  split at h
  ·rename_i e es hb;obtain⟨uo,sz,hr,_,_,hpos,hn,hall,hl,hv,hone⟩:=vK hb (wv hσ parts.toList) w;have hr':(Instr.buildSlice t n (parts.map λx=>(x.1,σ x.2))).run P w = .ok (.slice (some ⟨w.heap.size,0,none⟩) n n) (w.alloc (.cells uo.toArray e)):=by rw[<-hr];congr 2;apply Array.ext';simp
   refine⟨.slice (some ⟨w.heap.size,0,none⟩) n n,_,I.with w.heap.size uo.toArray,L,.inl (by rw[run_lift,hr'];rfl),?_,Fr.imm C I L H w _ e⟩;split at h
   ·simp only[cv,iw] at h;obtain⟨_,h2⟩:=h;subst h2;exact .p _ _ (.emp _)
   ·simp only[cv,iw] at h;obtain⟨_,h2⟩:=h;subst h2;have:=VR.aiE (w:=w) (us:=uo) (rest:=[]) hs.mem hall hl hv hone (cap:=n) (by omega);rw[List.append_nil] at this;rw[hn] at this;exact .p _ _ this
  ·cases h
 case slice t x lo hi mx=>exact .jC (run_lift _) (aiJ h hp (hσ x) (aiL hσ lo) (aiL hσ hi) (aiL hσ mx) w)
 case nilCheck x =>
  have hx:=hσ x;generalize σ x=u at hx ⊢;generalize ρ x=a at h hx;unfold arf at h;split at h
  ·simp only[cv,iw] at h;obtain⟨_,h2⟩:=h;subst h2;cases hx with
   |ptr id b off hl=>exact .still rfl (.ptr _ _ _ hl)
  ·simp only[cv,iw] at h;obtain⟨_,h2⟩:=h;subst h2;cases hx with
   |p _ _ hx=>cases hx with
    |dW b base _ us o hl hv hone hm=>exact .still rfl (.p _ _ (.dW b base _ us _ hl hv hone hm))
  ·simp only[cv,iw] at h;obtain⟨_,h2⟩:=h;subst h2;cases hx with
   |p _ _ hx=>cases hx with
    |ir _ us vs _ _ hl hl' hv wk=>exact .still rfl (.p _ _ (.ir _ us vs _ _ hl hl' hv wk))
  ·simp only[cv,iw] at h;obtain⟨_,h2⟩:=h;subst h2;cases hx with
   |ir _ us vs _ _ hl hl' hv wk=>exact .still rfl (.ir _ us vs _ _ hl hl' hv wk)
  ·cases h
 case call c =>
  split at h
  ·rename_i b hc;obtain⟨hl,hr⟩:=uu (I:=I) (L:=L) hσ c.args.toList;unfold ur at h;split at h
   ·rename_i t a ht ha;have hat:c.argTypes = #[t]:=by rw[<-Array.toArray_toList (xs:=c.argTypes),ht]
    rw[ha] at hl hr;cases hca:c.args.toList with
    |nil=>simp[hca] at ha
    |cons x r =>
     have hr0:r=[]:=by simpa[hca] using congrArg List.length ha
     subst hr0;have hx:ρ x=a:=by simpa[hca] using ha
     have hargs:c.args = #[x]:=by rw[<-Array.toArray_toList (xs:=c.args),hca]
     have:=abg (ty:=o.type) h (hx ▸ hσ x) w;refine .jC (s:=Builtin.len_ #[t] o.type #[σ x]) (λw=>?_) this;simp[resolve,hc,invoke,builtin,hat,hargs]
   ·rename_i t1 t2 a b ht ha;have hat:c.argTypes = #[t1,t2]:=by rw[<-Array.toArray_toList (xs:=c.argTypes),ht]
    cases hca:c.args.toList with
    |nil=>simp[hca] at ha
    |cons x r =>
     cases r with
     |nil=>simp[hca] at ha
     |cons y r =>
      have hr0:r=[]:=by simpa[hca] using congrArg List.length ha
      subst hr0;have hxy:ρ x=a/\ρ y=b:=by simpa[hca] using ha
      have hargs:c.args = #[x,y]:=by rw[<-Array.toArray_toList (xs:=c.args),hca]
      refine ane (ty:=o.type) h hp hs (hxy.1 ▸ hσ x) (hxy.2 ▸ hσ y) (λw=>?_);simp[resolve,hc,invoke,builtin,hat,hargs]
   ·rename_i k n r ha;cases hca:c.args.toList with
    |nil=>simp[hca] at ha
    |cons x xs =>
     have hxr:ρ x = .p (.val (.int k n))/\xs.map ρ=r:=by simpa[hca] using ha
     have hx:=hσ x;rw[hxr.1] at hx;obtain⟨q,h1,h2⟩:=aeU (P:=P) h (hxr.2 ▸ uu (I:=I) (L:=L) hσ xs) w;refine .jC (s:=(xs.map σ).foldlM Builtin.max2 (.int k n)) (λw=>?_) ⟨q,h1,h2⟩;simp[resolve,hc,invoke,builtin,Builtin.max_,hca,hx.eM.1]
   ·rename_i k n r ha;cases hca:c.args.toList with
    |nil=>simp[hca] at ha
    |cons x xs =>
     have hxr:ρ x = .p (.val (.int k n))/\xs.map ρ=r:=by simpa[hca] using ha
     have hx:=hσ x;rw[hxr.1] at hx;obtain⟨q,h1,h2⟩:=aeV (P:=P) h (hxr.2 ▸ uu (I:=I) (L:=L) hσ xs) w;refine .jC (s:=(xs.map σ).foldlM Builtin.min2 (.int k n)) (λw=>?_) ⟨q,h1,h2⟩;simp[resolve,hc,invoke,builtin,Builtin.min_,hca,hx.eM.1]
   ·cases h
  ·cases h
end Go.cq
namespace Go.cq
open Go.RowKit
variable{P:Program}{I:Mem}{L:bB}
def snap(w:World):Mem:=λb o=>w.cell? ⟨b,o,none⟩
theorem lT{w:World}(h:I.inW w):I.sub (snap w):=λb o u hu=>h b o u hu
theorem aeW(w:World):(snap w).inW w:=λ_ _ _ h=>h
def rowOf(H:ay)(id bf:Nat):Option (List (List PV)):=match H id with
 |some (.row v _ _ es)=>if v=bf then some es else none
 |some (.shut v es)=>if v=bf then some es else none
 |some (.tail v _ _ es)=>if v=bf then some es else none
 |_=>none
theorem yN{C:Ctx}{H:ay}{env:Env}{tm:Array Value}{w:World}(hs:gU C env H I L tm w){id bf:Nat}{es:List (List PV)}(h:rowOf H id bf=some es) :
  ∃bI sz,L id=some (.row bf bI sz)/\VR (snap w) bI (.aV es)/\(∀x∈es,x.length=sz)/\(es≠[]->∃g o n cap,bI = .slice (some ⟨g,o,none⟩) n cap):=by
 unfold rowOf at h;split at h
 ·rename_i v e sz es' hH;split at h
  ·rename_i hv;simp at h;subst h hv;obtain⟨bI,us,h1,h2,h3,h4,h5,h6,h7⟩:=hs.chunk id _ hH;refine⟨bI,sz,h1,?_,h4,?_⟩
   ·have hfl:=bH h4;have hlen:us.length=es'.flatten.length:=by rw[hfl];exact h2.1
    rcases h2.2 with ⟨rfl,hn⟩|⟨g,cap,cur,rfl,hb,hg,hnc,hcm,hcs,lC⟩
    ·have he:es'=[]:=List.length_eq_zero_iff.1 hn;subst he;exact .aV none 0 0 [] us sz rfl (by simp) hlen (λj u c hu hc=>(h5 j u c hu hc).mono (lT hs.mem)) h6 (.inl (List.length_eq_zero_iff.1 (by simpa using hlen))) (λ_=>⟨rfl,rfl⟩) (Nat.le_refl _)
    ·refine .aV _ _ _ es' us sz rfl h4 hlen (λj u c hu hc=>(h5 j u c hu hc).mono (lT hs.mem)) h6 (.inr ⟨g,0,rfl,λj u hu=>?_⟩) (by simp) hnc;rw[Nat.zero_add];show w.cell? ⟨g,j,none⟩=some u;rw[fV hg];rw[<-lC,List.getElem?_take] at hu;split at hu
     ·simpa using hu
     ·cases hu
   ·intro hne;rcases h2.2 with ⟨rfl,hn⟩|⟨g,cap,cur,rfl,_⟩
    ·exact absurd (List.length_eq_zero_iff.1 hn) hne
    ·exact⟨g,0,_,cap,rfl⟩
  ·cases h
 ·rename_i v es' hH;split at h
  ·rename_i hv;simp at h;subst h hv;obtain⟨bI,sz,h1,h2,h3,h4⟩:=hs.chunk id _ hH;exact⟨bI,sz,h1,h2.mono (lT hs.mem),h3,h4⟩
  ·cases h
 ·rename_i v e sz es' hH;split at h
  ·rename_i hv;simp at h;subst h hv;obtain⟨g,o,cap,arr,h1,h2,h3,h4,h5,h6,h7,h8⟩:=hs.chunk id _ hH;exact⟨_,sz,h1,h7.mono (lT hs.mem),h6,λ_=>⟨g,o,_,cap,rfl⟩⟩
  ·cases h
 ·cases h
theorem eC.live{C:Ctx}{H:ay}{env:Env}{tm:Array Value}{w:World}(hs:gU C env H I L tm w){id bf:Nat}{es:List (List PV)}(h:rowOf H id bf=some es){u:Value}
  (hu:eC I L u (.row id bf)):VR (snap w) u (.aV es):=by
 obtain⟨bI,sz,h1,h2,h3,_⟩:=yN hs h;cases hu with
 |row _ _ _ v eX sz' hl hle hh hone=>rw[h1] at hl;simp only[cv,Loc.row.injEq] at hl;obtain⟨e1,e2,e3⟩:=hl;subst e1 e2 e3;rw[hh rfl];exact h2
def mR(P:Program)(o:Oper)(ρ:Operand->AV)(H:ay):Option (Prop×AV):=match o.op with
 | .load t a=>match ρ a with
  | .ptr id off=>match H id with
   |some (.box cs)=>match sk P t cs off with|some v=>some (True,v)|none=>none
   |_=>none
  | .jj id bf i off=>match rowOf H id bf with
   |some es=>match sq P t (es.getD i []) off with|some x=>some (i<es.length/\0<(es.getD i []).length,.p x)|none=>none
   |none=>none
  |_=>none
 | .fieldAddr s a k=>match ρ a,bR P s k with
  | .jj id bf i off,some (o,n)=>match rowOf H id bf with
   |some _=>some (n≠0,.jj id bf i (off+o))
   |none=>none
  |_,_=>none
 | .indexAddr t x i=>match ρ x,ρ i with
  | .row id bf,.p (.val (.int _ n))=>match rowOf H id bf,cM P t with
   |some es,some e=>match bz P e with
    |some sz=>some ((0<=n/\n<es.length)/\(es.getD n.toNat []).length=sz/\0<sz,.jj id bf n.toNat 0)
    |none=>none
   |_,_=>none
  |_,_=>none
 | .call c=>match c.callee,c.argTypes.toList,c.args.toList.map ρ with
  | .builtin .len,[t],[.row id bf]=>match rowOf H id bf with
   |some es=>qK P t (.p (.aV es))
   |none=>none
  |_,_,_=>none
 |_=>none
theorem ahq{w:World}{t:TypeId}{b base off:Nat}{us:List Value}{cs:List PV}{x:PV}(h:sq P t cs off=some x)
  (hl:us.length=cs.length) (hv:∀ (j:Nat) u c,us[j]? = some u->cs[j]? = some c->VR I u c) (h1:∀u∈us,u.oneCell'=true)
  (hm:∀ (j:Nat) u,us[j]? = some u->w.cell? ⟨b,base+j,none⟩=some u) :
  ∃u,(Instr.loadAt t (.pointer (some ⟨b,base+off,none⟩))).run P w = .ok u w/\VR I u x:=by
 obtain⟨u,hr,hu⟩:=ahm (I:=I) h hl hv h1 hm;exact⟨u,by simp[Instr.loadAt,Instr.sureAddr,hr],hu⟩
theorem ari{C:Ctx}{H:ay}{env:Env}{tm:Array Value}{w:World}(hs:gU C env H I L tm w){id bf:Nat}{es:List (List PV)}(h:rowOf H id bf=some es)
  {i:Nat} (hi:i<es.length) (hpos:0<(es.getD i []).length) {u:Value} {off:Nat} (hu:eC I L u (.jj id bf i off)):∃b base,u = .pointer (some ⟨b,base+off,none⟩)/\∃us:List Value,us.length=(es.getD i []).length /\
   (∀ (j:Nat) u c,us[j]? = some u->(es.getD i [])[j]? = some c->VR I u c)/\(∀u∈us,u.oneCell'=true)/\∀ (j:Nat) u,us[j]? = some u->w.cell? ⟨b,base+j,none⟩=some u:=by
 have h0:=h;unfold rowOf at h;split at h
 ·rename_i v e sz es' hH;split at h
  ·rename_i hv;simp at h;subst h hv;obtain⟨bI,us,h1,h2,h3,h4,h5,h6,h7⟩:=hs.chunk id _ hH;cases hu with
   |jj _ _ _ v _ _ eX sz' hl hle hh hone =>
    rw[h1] at hl;simp only[cv,Loc.row.injEq] at hl;obtain⟨e1,e2,e3⟩:=hl;subst e1 e2 e3;obtain⟨g,o,n,cap,e1,e2⟩:=hh rfl;subst e1 e2;rcases h2.2 with ⟨anf,_⟩|⟨g',_,_,hg',_⟩
    ·cases anf
    simp only[Value.slice.injEq,cv,Addr.mk.injEq] at hg';obtain⟨⟨_,rfl,_⟩,_,_⟩:=hg';have hm:(es'.getD i []).length=sz:=h4 _ (by
     have:es'.getD i []=es'[i]:=by simp[hi]
     rw[this];exact nR _)
    have hfl:=bH h4;have hmul:(i+1) * sz<=es'.length * sz:=Nat.mul_le_mul_right _ hi;have ave:(i+1) * sz=i * sz+sz:=by rw[Nat.add_mul];omega
    have hul:=h2.1;refine⟨g,i * sz,by rw[Nat.zero_add],(us.drop (i * sz)).take sz,by rw[List.length_take,List.length_drop,hm];omega,?_,?_,?_⟩
    ·intro j u c hu hc;rw[List.getElem?_take] at hu;split at hu
     ·rename_i hj;rw[List.getElem?_drop] at hu;exact h5 _ u c hu (by rw[gV h4 i j hi hj];exact hc)
     ·cases hu
    ·intro u hu;exact h6 u (List.mem_of_mem_drop (List.mem_of_mem_take hu))
    ·intro j u hu;rw[List.getElem?_take] at hu;split at hu
     ·rw[List.getElem?_drop] at hu;have:=h2.cells (g:=g) rfl _ u hu;rwa [Addr.add_mid,Nat.zero_add] at this
     ·cases hu
  ·cases h
 ·rename_i v es' hH;split at h
  ·rename_i hv;simp at h;subst h hv;obtain⟨bI,sz,h1,h2,h3,h4⟩:=hs.chunk id _ hH;cases hu with
   |jj _ _ _ v _ _ eX sz' hl hle hh hone =>
    rw[h1] at hl;simp only[cv,Loc.row.injEq] at hl;obtain⟨e1,e2,e3⟩:=hl;subst e1 e2 e3;obtain⟨g,o,n,cap,e1,e2⟩:=hh rfl;subst e1 e2;obtain⟨b,off',len,cap',sz',g1,g2,g3,us,g4,g5,g6,g7⟩:=h2.elem hi hpos;simp only[Value.slice.injEq,cv,Addr.mk.injEq] at g1;obtain⟨⟨r1,r2,_⟩,_,_⟩:=g1;subst r1 r2;have hm:(es'.getD i []).length=sz:=h3 _ (by
     have:es'.getD i []=es'[i]:=by simp[hi]
     rw[this];exact nR _)
    have:sz'=sz:=by omega
    subst this;exact⟨g,o+i * sz',by rw[Nat.add_assoc],us,by omega,g5,g6,λj u hu=>hs.mem _ _ _ (g7 j u hu)⟩
  ·cases h
 ·rename_i v e sz es' hH;split at h
  ·rename_i hv;simp at h;subst h hv;obtain⟨g0,o0,aGF,arr,h1,k2,k3,k4,k5,h3,h2,k8⟩:=hs.chunk id _ hH;cases hu with
   |jj _ _ _ v _ _ eX sz' hl hle hh hone =>
    rw[h1] at hl;simp only[cv,Loc.row.injEq] at hl;obtain⟨e1,e2,e3⟩:=hl;subst e1 e2 e3;obtain⟨g,o,n,cap,e1,e2⟩:=hh rfl;simp only[Value.slice.injEq,cv,Addr.mk.injEq] at e1;obtain⟨⟨e3,e4,_⟩,e5,e6⟩:=e1;subst e2 e3 e4 e5 e6;obtain⟨b,off',len,cap',sz',g1,g2,g3,us,g4,g5,g6,g7⟩:=h2.elem hi hpos;simp only[Value.slice.injEq,cv,Addr.mk.injEq] at g1;obtain⟨⟨r1,r2,_⟩,_,_⟩:=g1;subst r1 r2;have hm:(es'.getD i []).length=sz:=h3 _ (by
     have:es'.getD i []=es'[i]:=by simp[hi]
     rw[this];exact nR _)
    have:sz'=sz:=by omega
    subst this;exact⟨g0,o0+i * sz',by rw[Nat.add_assoc],us,by omega,g5,g6,λj u hu=>hs.mem _ _ _ (g7 j u hu)⟩
  ·cases h
 ·cases h
theorem ang{o:Oper}{ρ:Operand->AV}{v:AV}{pre:Prop}{H:ay}(h:mR P o ρ H=some (pre,v))(hp:pre){C:Ctx}{env:Env}{tm:Array Value}{w:World}
  (hs:gU C env H I L tm w) {σ:Operand->Value} (hσ:∀x,eC I L (σ x) (ρ x)):oN P C H I L w ((execOp σ o).run P w) v H:=by
 unfold mR at h;unfold execOp;split at h
 ·rename_i t a hop;simp only[hop];have ha:=hσ a;generalize σ a=u at ha ⊢;generalize ρ a=av at h ha;split at h
  ·rename_i id off;split at h
   ·rename_i cs hH;split at h
    ·rename_i r hr;simp only[cv,iw] at h;obtain⟨_,h2⟩:=h;subst h2;obtain⟨b,arr,e,g1,g2,g3,g4,g5,g6⟩:=hs.chunk id _ hH;cases ha with
     |ptr _ b' _ hl =>
      rw[g1] at hl;simp only[cv,Loc.box.injEq] at hl;subst hl;obtain⟨u,hru,hua⟩:=aam (I:=I) (L:=L) (w:=w) (b:=b) (base:=0) (us:=arr.toList) hr (by simpa using g3) (λj u c hu hc=>g4 j u c (by simpa using hu) hc)
       (λu hu=>by
        obtain⟨j,hj⟩:=List.mem_iff_getElem?.1 hu;exact g5 j u (by simpa using hj)) (λj u hu=>by rw[Nat.zero_add,fV g2];simpa using hu)
      rw[Nat.zero_add] at hru;exact .jC (run_lift _) ⟨u,by simp[Instr.loadAt,Instr.sureAddr,hru],hua⟩
    ·cases h
   ·cases h
  ·rename_i id bf i off;split at h
   ·rename_i es hrow;split at h
    ·rename_i x hr;simp only[cv,iw] at h;obtain⟨h1,h2⟩:=h;subst h1 h2;obtain⟨b,base,rfl,us,q1,q2,q3,q4⟩:=ari hs hrow hp.1 hp.2 ha;obtain⟨u,hru,hua⟩:=ahq (P:=P) hr q1 q2 q3 q4;exact .jC (run_lift _) ⟨u,hru,.p _ _ hua⟩
    ·cases h
   ·cases h
  ·cases h
 ·rename_i s a k hop;simp only[hop];have ha:=hσ a;generalize σ a=u at ha ⊢;generalize ρ a=av at h ha;split at h
  ·rename_i id bf i off of n hf;split at h
   ·rename_i es hrow;simp only[cv,iw] at h;obtain⟨h1,h2⟩:=h;subst h1 h2;obtain⟨bI,sz,l1,_⟩:=yN hs hrow;cases ha with
    |jj _ _ _ v _ _ eX sz' hl hle hh hone=>have l2:=hl;rw[l1] at hl;simp only[cv,Loc.row.injEq] at hl;obtain⟨e1,e2,e3⟩:=hl;subst e1 e2 e3;obtain⟨g,o,n',cap,e1,e2⟩:=hh rfl;subst e1 e2;refine .jC (run_lift _) ⟨_,vl hf hp w _ _,.jj _ _ _ _ _ _ _ _ l1 (Nat.le_refl _) (λ_=>⟨g,o,n',cap,rfl,by rw[Nat.add_assoc,Nat.add_assoc]⟩) rfl⟩
   ·cases h
  ·cases h
 ·rename_i t x i hop;simp only[hop];have hx:=hσ x;have hi:=hσ i;generalize σ x=u at hx ⊢;generalize ρ x=av at h hx;generalize σ i=ui at hi ⊢;generalize ρ i=ai at h hi;split at h
  ·rename_i id bf k n;split at h
   ·rename_i es e hrow he;split at h
    ·rename_i sz hsz;simp only[cv,iw] at h;obtain⟨h1,h2⟩:=h;subst h1 h2;obtain⟨⟨h0,hlt⟩,hlen,hpos⟩:=hp;obtain⟨rfl,_⟩:=hi.eM;obtain⟨m,rfl⟩:=Int.eq_ofNat_of_zero_le h0;simp only[Int.toNat_natCast] at hlen ⊢;have hm:m<es.length:=by omega
     obtain⟨bI,sz',l1,l2,l3,l4⟩:=yN hs hrow;have hne:es≠[]:=λe=>by subst e;simp at hm
     obtain⟨g,o,n',cap,rfl⟩:=l4 hne;obtain⟨_,_,e1,_⟩:=l2.aqh;simp only[Value.slice.injEq] at e1;have hmm:(es.getD m []).length=sz':=l3 _ (by
      have:es.getD m []=es[m]:=by simp[hm]
      rw[this];exact nR _)
     have e2:sz'=sz:=by omega
     subst e2;cases hx with
     |row _ _ _ v eX sz'' hl hle hh hone =>
      rw[l1] at hl;simp only[cv,Loc.row.injEq] at hl;obtain⟨r1,r2,r3⟩:=hl;subst r1 r2 r3;rw[hh rfl];have hm':m<n':=by rw[e1.2.1];exact hm
      refine .jC (run_lift _) ⟨.pointer (some ⟨g,o+m * sz',none⟩),?_,.jj _ _ _ _ _ _ _ _ l1 (Nat.le_refl _) (λ_=>⟨g,o,n',cap,rfl,by simp⟩) rfl⟩;simp[Instr.indexAt,asIntOf,run_underlying (fB he),dR hsz,Addr.add_mid,hm']
    ·cases h
   ·cases h
  ·cases h
 ·rename_i c hop;simp only[hop];split at h
  ·rename_i t id bf hc ht ha;split at h
   ·rename_i es hrow;have hat:c.argTypes = #[t]:=by rw[<-Array.toArray_toList (xs:=c.argTypes),ht]
    cases hca:c.args.toList with
    |nil=>simp[hca] at ha
    |cons x r =>
     have hr0:r=[]:=by simpa[hca] using congrArg List.length ha
     subst hr0;have hx:ρ x = .row id bf:=by simpa[hca] using ha
     have hargs:c.args = #[x]:=by rw[<-Array.toArray_toList (xs:=c.args),hca]
     have avj:=eC.live hs hrow (hx ▸ hσ x);obtain⟨u,hru,hua⟩:=abg (ty:=o.type) (I:=snap w) (L:=L) h (.p _ _ avj) w;have hval:∃n,v = .p (.val (.int .i64 n)):=by
      unfold qK at h;simp only at h;split at h
      ·simp only[cv,iw] at h;exact⟨_,h.2.symm⟩
      ·cases h
     obtain⟨n,rfl⟩:=hval;have:=hua.eM.1;subst this;refine .jC (s:=Builtin.len_ #[t] o.type #[σ x]) (λw=>?_) ⟨_,hru,.p _ _ (.val _ rfl)⟩;simp[resolve,hc,invoke,builtin,hat,hargs]
   ·cases h
  ·cases h
 ·cases h
theorem si.snap{w:World}{B:Nat}{u:Value}{e:TypeId}{sz:Nat}{es:List (List PV)}{us:List Value}(h:si w B I u e sz es us)(hI:I.inW w):VR (snap w) u (.aV es):=by
 have hfl:=bH h.all;have hlen:us.length=es.flatten.length:=by rw[hfl];exact h.own.1
 rcases h.own.2 with ⟨rfl,hn⟩|⟨g,cap,cur,rfl,hb,hg,hnc,hcm,hcs,lC⟩
 ·have he:es=[]:=List.length_eq_zero_iff.1 hn;subst he;exact .aV none 0 0 [] us sz rfl (by simp) hlen (λj u c hu hc=>(h.val j u c hu hc).mono (lT hI)) h.one (.inl (List.length_eq_zero_iff.1 (by simpa using hlen))) (λ_=>⟨rfl,rfl⟩) (Nat.le_refl _)
 ·refine .aV _ _ _ es us sz rfl h.all hlen (λj u c hu hc=>(h.val j u c hu hc).mono (lT hI)) h.one (.inr ⟨g,0,rfl,λj u hu=>?_⟩) (by simp) hnc;rw[Nat.zero_add];show w.cell? ⟨g,j,none⟩=some u;rw[fV hg];rw[<-lC,List.getElem?_take] at hu;split at hu
  ·simpa using hu
  ·cases hu
theorem si.vrJ{w:World}{B:Nat}{u:Value}{e:TypeId}{sz:Nat}{es:List (List PV)}{us:List Value}{J:Mem}(h:si w B I u e sz es us)(hI:I.sub J)
  (hJ:∀b,u.ownBlock=some b->∀o v,w.cell? ⟨b,o,none⟩=some v->J b o=some v):VR J u (.aV es):=by
 have hfl:=bH h.all;have hlen:us.length=es.flatten.length:=by rw[hfl];exact h.own.1
 rcases h.own.2 with ⟨rfl,hn⟩|⟨g,cap,cur,rfl,hb,hg,hnc,hcm,hcs,lC⟩
 ·have he:es=[]:=List.length_eq_zero_iff.1 hn;subst he;exact .aV none 0 0 [] us sz rfl (by simp) hlen (λj u c hu hc=>(h.val j u c hu hc).mono hI) h.one (.inl (List.length_eq_zero_iff.1 (by simpa using hlen))) (λ_=>⟨rfl,rfl⟩) (Nat.le_refl _)
 ·refine .aV _ _ _ es us sz rfl h.all hlen (λj u c hu hc=>(h.val j u c hu hc).mono hI) h.one (.inr ⟨g,0,rfl,λj u hu=>?_⟩) (by simp) hnc;rw[Nat.zero_add];refine hJ g rfl j u ?_;rw[fV hg];rw[<-lC,List.getElem?_take] at hu;split at hu
  ·simpa using hu
  ·cases hu
theorem aqj{w:World}{B:Nat}{bI:Value}{e e':TypeId}{sz k sz':Nat}{es:List (List PV)}{us:List Value}{di:Nat->Value}{J:Mem}(h:si w B I bI e sz (fA k di es) us)(hall:∀x∈es,x.length=sz)
  (hin:au9 w B I k e' sz' di es) (sr:I.sub J) (hJ:∀b,(bI.ownBlock=some b\/∃i,i<es.length/\(di i).ownBlock=some b)->∀o v,w.cell? ⟨b,o,none⟩=some v->J b o=some v):VR J bI (.aV es):=by
 have h1:=h.vrJ sr λb hb=>hJ b (.inl hb)
 cases h1 with
 |aV ao n cap _ us2 sz2 hn hsz hl hv hone hm hnil hcap =>
  rw[fI] at hn;have hfl:=bH hall;have hrl:(fA k di es).flatten.length=es.length * sz:=by rw[bH h.all,fI]
  refine .aV ao n cap es us2 sz hn hall (by rw[hl,hrl,hfl]) (λj u c hu hc=>?_) hone hm hnil hcap;have hjl:j<es.length * sz:=by rw[<-hfl];exact (List.getElem?_eq_some_iff.1 hc).1
  have hpos:=h.pos;have hi:j / sz<es.length:=(Nat.div_lt_iff_lt_mul hpos).2 hjl;have hmm:j % sz<sz:=Nat.mod_lt _ hpos;have hj:j=j / sz * sz+j % sz:=(Nat.div_add_mod' j sz).symm;generalize j / sz=i at *;generalize j % sz=m at *;subst hj;rw[gV hall i m hi hmm] at hc;have xb:=gV h.all i m (by rw[fI];exact hi) hmm;have hg:(fA k di es).getD i []=(es.getD i []).set k (.val (di i)):=by rw[List.getD_eq_getElem?_getD,tT];simp[hi]
  rw[hg] at xb;by_cases hk:k=m
  ·subst hk;have hx:es[i]? = some (es.getD i []):=by simp[hi]
   obtain⟨l,us',q1,q2,q3⟩:=hin i _ hx;rw[q1] at hc;simp only[cv] at hc;subst hc;have hxl:(es.getD i []).length=sz:=hall _ (List.mem_of_getElem? hx);rw[List.getElem?_set,if_pos rfl,if_pos (by rw[hxl];exact hmm)] at xb;have:=hv _ u _ hu xb;cases this;exact q2.vrJ sr λb hb=>hJ b (.inr ⟨i,hi,hb⟩)
  ·rw[List.getElem?_set,if_neg hk,hc] at xb;exact hv _ u c hu xb
theorem si.elem{w:World}{B:Nat}{u:Value}{e:TypeId}{sz:Nat}{es:List (List PV)}{us:List Value}(h:si w B I u e sz es us){i:Nat}(hi:i<es.length):∃g cap,u = .slice (some ⟨g,0,none⟩) es.length cap/\∃vs:List Value,vs.length=sz /\
  (∀ (j:Nat) u c,vs[j]? = some u->(es.getD i [])[j]? = some c->VR I u c)/\(∀u∈vs,u.oneCell'=true)/\∀ (j:Nat) u,vs[j]? = some u->w.cell? ⟨g,i * sz+j,none⟩=some u:=by
 rcases h.own.2 with ⟨_,hn⟩|⟨g,cap,cur,rfl,hb,hg,hnc,hcm,hcs,lC⟩
 ·omega
 have hmul:(i+1) * sz<=es.length * sz:=Nat.mul_le_mul_right _ hi;have ave:(i+1) * sz=i * sz+sz:=by rw[Nat.add_mul];omega
 have hul:=h.own.1;refine⟨g,cap,rfl,(us.drop (i * sz)).take sz,by rw[List.length_take,List.length_drop];omega,?_,?_,?_⟩
 ·intro j u c hu hc;rw[List.getElem?_take] at hu;split at hu
  ·rename_i hj;rw[List.getElem?_drop] at hu;exact h.val _ u c hu (by rw[gV h.all i j hi hj];exact hc)
  ·cases hu
 ·intro u hu;exact h.one u (List.mem_of_mem_drop (List.mem_of_mem_take hu))
 ·intro j u hu;rw[List.getElem?_take] at hu;split at hu
  ·rw[List.getElem?_drop] at hu;have:=h.own.cells (g:=g) rfl _ u hu;rwa [Addr.add_mid,Nat.zero_add] at this
  ·cases hu
def cH(H:ay)(id bf:Nat):Option (Nat×List (List PV)):=match H id with
 |some (.deep v _ _ k _ _ es)=>if v=bf then some (k,es) else none
 |_=>none
def nk(r:Option (Nat×List (List PV)))(i:Nat):Option (List (List PV)):=match r with
 |some (k,es)=>(match (es.getD i [])[k]? with
  |some (.aV l)=>some l
  |_=>none)
 |none=>none
def abi(id bf i k:Nat)(x:List PV):List AV:=(x.map AV.p).set k (.kI id bf i)
theorem jX{C:Ctx}{H:ay}{env:Env}{tm:Array Value}{w:World}(hs:gU C env H I L tm w){id bf k:Nat}{es:List (List PV)}(h:cH H id bf=some (k,es)) :
  ∃bI sz sz' e e' us di,L id=some (.deep bf bI sz sz' di es.length)/\si w C.B I bI e sz (fA k di es) us/\bI.oneCell'=true/\k<sz/\(∀x∈es,x.length=sz)/\au9 w C.B I k e' sz' di es:=by
 unfold cH at h;split at h
 ·rename_i v e sz k' e' sz' es' hH;split at h
  ·rename_i hv;simp only[cv,iw] at h;obtain⟨rfl,rfl⟩:=h;subst hv;obtain⟨bI,us,di,h1,h2,h3,h4,h5,h6,h7⟩:=hs.chunk id _ hH;exact⟨bI,sz,sz',e,e',us,di,h1,h2,h3,h4,h5,h6⟩
  ·cases h
 ·cases h
theorem xd{k:Nat}{es:List (List PV)}{i:Nat}{l:List (List PV)}(h:nk (some (k,es)) i=some l):i<es.length/\∃x,es[i]? = some x/\x[k]? = some (.aV l):=by
 simp only[nk] at h;split at h
 ·rename_i l' hl;simp only[cv] at h;subst h;have hi:i<es.length:=by
   rcases Nat.lt_or_ge i es.length with h|h
   ·exact h
   ·rw[List.getD_eq_getElem?_getD,List.getElem?_eq_none h] at hl;simp at hl
  exact⟨hi,es[i],by simp[hi],by simpa[hi] using hl⟩
 ·cases h
def xe(P:Program)(o:Oper)(ρ:Operand->AV)(H:ay):Option (Prop×AV):=match o.op with
 | .load t a=>match ρ a with
  | .kH id bf i off=>match cH H id bf with
   |some (k,es)=>match sk P t (abi id bf i k (es.getD i [])) off with|some v=>some (i<es.length,v)|none=>none
   |none=>none
  | .nj id bf i j off=>match nk (cH H id bf) i with
   |some l=>match sq P t (l.getD j []) off with|some x=>some (j<l.length,.p x)|none=>none
   |none=>none
  |_=>none
 | .fieldAddr s a k=>match ρ a,bR P s k with
  | .kH id bf i off,some (o,n)=>match cH H id bf with
   |some _=>some (n≠0,.kH id bf i (off+o))
   |none=>none
  |_,_=>none
 | .indexAddr t x i=>match ρ x,ρ i with
  | .eO id bf,.p (.val (.int _ n))=>match cH H id bf,cM P t with
   |some (_,es),some e=>match bz P e with
    |some sz=>some ((0<=n/\n<es.length)/\(es.getD n.toNat []).length=sz,.kH id bf n.toNat 0)
    |none=>none
   |_,_=>none
  | .kI id bf i,.p (.val (.int _ n))=>match nk (cH H id bf) i,cM P t with
   |some l,some e=>match bz P e with
    |some sz=>some ((0<=n/\n<l.length)/\(l.getD n.toNat []).length=sz,.nj id bf i n.toNat 0)
    |none=>none
   |_,_=>none
  |_,_=>none
 | .call c=>match c.callee,c.argTypes.toList,c.args.toList.map ρ with
  | .builtin .len,[t],[.eO id bf]=>match cH H id bf with
   |some (_,es)=>qK P t (.p (.aV es))
   |none=>none
  | .builtin .len,[t],[.kI id bf i]=>match nk (cH H id bf) i with
   |some l=>qK P t (.p (.aV l))
   |none=>none
  |_,_,_=>none
 |_=>none
def ac4(H:ay)(id bf:Nat):Option (Nat×List (List PV)):=match H id with
 |some (.row v _ sz es)=>if v=bf then some (sz,es) else none
 |_=>none
def yy(P:Program)(o:Oper)(ρ:Operand->AV)(H:ay):Option (Prop×AV):=match o.op with
 | .indexAddr t x i=>match ρ x,ρ i with
  | .iy id bf off m _ _,.p (.val (.int _ n))=>match ac4 H id bf,cM P t with
   |some (sz,es),some e=>match bz P e with
    |some sz'=>some ((0<=n/\n<m/\off+m<=es.length)/\sz'=sz,.jj id bf (off+n.toNat) 0)
    |none=>none
   |_,_=>none
  |_,_=>none
 |_=>none
def rU(P:Program)(o:Oper)(ρ:Operand->AV)(H:ay):Option (Prop×AV):=match mR P o ρ H with
 |some r=>some r
 |none=>match xe P o ρ H with
  |some r=>some r
  |none=>yy P o ρ H
theorem anh{o:Oper}{c:Call}{ρ:Operand->AV}{v:AV}{pre:Prop}{t:TypeId}{a:AV}{es:List (List PV)}(hop:o.op = .call c)(hc:c.callee = .builtin .len)(ht:c.argTypes.toList=[t])(ha:c.args.toList.map ρ=[a])
  (hl:∀u,eC I L u a->∃J,VR J u (.aV es)) (h:qK P t (.p (.aV es))=some (pre,v)) (hp:pre) {C:Ctx} {H:ay} {w:World} {σ:Operand->Value} (hσ:∀x,eC I L (σ x) (ρ x)):oN P C H I L w ((execOp σ o).run P w) v H:=by
 unfold execOp;simp only[hop];have hat:c.argTypes = #[t]:=by rw[<-Array.toArray_toList (xs:=c.argTypes),ht]
 cases hca:c.args.toList with
 |nil=>simp[hca] at ha
 |cons x r =>
  have hr0:r=[]:=by simpa[hca] using congrArg List.length ha
  subst hr0;have hx:ρ x=a:=by simpa[hca] using ha
  have hargs:c.args = #[x]:=by rw[<-Array.toArray_toList (xs:=c.args),hca]
  obtain⟨J,avj⟩:=hl _ (hx ▸ hσ x);obtain⟨u,hru,hua⟩:=abg (ty:=o.type) (I:=J) (L:=L) h (.p _ _ avj) w;have hval:∃n,v = .p (.val (.int .i64 n)):=by
   unfold qK at h;simp only at h;split at h
   ·simp only[cv,iw] at h;exact⟨_,h.2.symm⟩
   ·cases h
  obtain⟨n,rfl⟩:=hval;have:=hua.eM.1;subst this;refine .jC (s:=Builtin.len_ #[t] o.type #[σ x]) (λw=>?_) ⟨_,hru,.p _ _ (.val _ rfl)⟩;simp[resolve,hc,invoke,builtin,hat,hargs]
theorem arj{o:Oper}{ρ:Operand->AV}{v:AV}{pre:Prop}{H:ay}(h:xe P o ρ H=some (pre,v))(hp:pre){C:Ctx}{env:Env}{tm:Array Value}{w:World}
  (hs:gU C env H I L tm w) {σ:Operand->Value} (hσ:∀x,eC I L (σ x) (ρ x)):oN P C H I L w ((execOp σ o).run P w) v H:=by
 unfold xe at h;unfold execOp;split at h
 ·rename_i t a hop;simp only[hop];have ha:=hσ a;generalize σ a=u at ha ⊢;generalize ρ a=av at h ha;split at h
  ·rename_i id bf i off;split at h
   ·rename_i k es hd;split at h
    ·rename_i r hr;simp only[cv,iw] at h;obtain⟨h1,h2⟩:=h;subst h1 h2;obtain⟨bI,sz,sz',e,e',us,di,q1,q2,q3,q4,q5,q6⟩:=jX hs hd;have hi:i<(fA k di es).length:=by rw[fI];exact hp
     obtain⟨g,cap,rfl,vs,r1,r2,r3,r4⟩:=q2.elem hi;have xb:(fA k di es).getD i []=(es.getD i []).set k (.val (di i)):=by rw[List.getD_eq_getElem?_getD,tT];simp[hp]
     have hxl:(es.getD i []).length=sz:=q5 _ (by
      have:es.getD i []=es[i]:=by simp[hp]
      rw[this];exact nR _)
     cases ha with
     |kH _ _ _ v _ _ eX _ _ lg n hl hle hh hone =>
      rw[q1] at hl;simp only[cv,Loc.deep.injEq] at hl;obtain⟨e1,e2,e3,e4,e5,e6⟩:=hl;subst e1 e2 e3 e4 e5 e6;obtain⟨g',o',m,cap',e1,rfl⟩:=hh rfl;simp only[Value.slice.injEq,cv,Addr.mk.injEq] at e1;obtain⟨⟨e1,e2,_⟩,_⟩:=e1;subst e1 e2;obtain⟨u,hru,hua⟩:=aam (I:=I) (L:=L) (w:=w) (b:=g) (base:=i * sz) (us:=vs) hr (by rw[r1,abi,List.length_set,List.length_map,hxl]) (λj u c hu hc=>by
       unfold abi at hc;rw[List.getElem?_set] at hc;have hjl:j<sz:=by rw[<-r1];exact (List.getElem?_eq_some_iff.1 hu).1
       split at hc
       ·rename_i hj;subst hj;split at hc
        ·simp only[cv] at hc;subst hc;have:=r2 _ u (.val (di i)) hu (by rw[xb,List.getElem?_set,if_pos rfl,if_pos (by rw[hxl];exact hjl)]);cases this with
         |val _ h1=>exact .kI _ _ _ _ _ _ _ _ _ _ q1 (Nat.le_refl _) (λ_=>rfl) h1
        ·cases hc
       ·rename_i hj;rw[List.getElem?_map] at hc;cases hx:(es.getD i [])[j]? with
        |none=>rw[hx] at hc;cases hc
        |some c' =>
         rw[hx] at hc;simp only[Option.map_some,cv] at hc;subst hc;exact .p _ _ (r2 j u c' hu (by rw[xb,List.getElem?_set,if_neg hj];exact hx))) r3 r4
      have:(0:Nat)+(i * sz+off)=i * sz+off:=by omega
      rw[this];exact .jC (run_lift _) ⟨u,by simp[Instr.loadAt,Instr.sureAddr,hru],hua⟩
    ·cases h
   ·cases h
  ·rename_i id bf i j off;split at h
   ·rename_i l hd;split at h
    ·rename_i x hr;simp only[cv,iw] at h;obtain⟨h1,h2⟩:=h;subst h1 h2;cases hdo:cH H id bf with
     |none=>rw[hdo] at hd;cases hd
     |some ke =>
      obtain⟨k,es⟩:=ke;rw[hdo] at hd;obtain⟨hi,x',hx1,hx2⟩:=xd hd;obtain⟨bI,sz,sz',e,e',us,di,q1,q2,q3,q4,q5,q6⟩:=jX hs hdo;obtain⟨l',us',m1,m2,m3⟩:=q6 i x' hx1;rw[hx2] at m1;simp only[cv,PV.aV.injEq] at m1;subst m1;obtain⟨g,cap,hg,vs,r1,r2,r3,r4⟩:=m2.elem hp;have hxl:(l.getD j []).length=sz':=m2.all _ (by
       have:l.getD j []=l[j]:=by simp[hp]
       rw[this];exact nR _)
      cases ha with
      |nj _ _ _ v _ _ _ eX _ _ lg n hl hle hh hone =>
       rw[q1] at hl;simp only[cv,Loc.deep.injEq] at hl;obtain⟨e1,e2,e3,e4,e5,e6⟩:=hl;subst e1 e2 e3 e4 e5 e6;obtain⟨g',o',m,cap',e1,rfl⟩:=hh rfl;rw[hg] at e1;simp only[Value.slice.injEq,cv,Addr.mk.injEq] at e1;obtain⟨⟨e1,e2,_⟩,_⟩:=e1;subst e1 e2;obtain⟨u,hru,hua⟩:=ahq (P:=P) (base:=j * sz') hr (by rw[r1,hxl]) r2 r3 r4;have:(0:Nat)+(j * sz'+off)=j * sz'+off:=by omega
       rw[this];exact .jC (run_lift _) ⟨u,hru,.p _ _ hua⟩
    ·cases h
   ·cases h
  ·cases h
 ·rename_i s a k hop;simp only[hop];have ha:=hσ a;generalize σ a=u at ha ⊢;generalize ρ a=av at h ha;split at h
  ·rename_i id bf i off of n hf;split at h
   ·rename_i ke hd;simp only[cv,iw] at h;obtain⟨h1,h2⟩:=h;subst h1 h2;obtain⟨k,es⟩:=ke;obtain⟨bI,sz,sz',e,e',us,di,q1,_⟩:=jX hs hd;cases ha with
    |kH _ _ _ v _ _ eX _ _ lg n' hl hle hh hone=>rw[q1] at hl;simp only[cv,Loc.deep.injEq] at hl;obtain⟨e1,e2,e3,e4,e5,e6⟩:=hl;subst e1 e2 e3 e4 e5 e6;obtain⟨g,o,m,cap,e1,rfl⟩:=hh rfl;refine .jC (run_lift _) ⟨_,vl hf hp w _ _,.kH _ _ _ _ _ _ _ _ _ _ _ q1 (Nat.le_refl _) (λ_=>⟨g,o,m,cap,e1,by rw[Nat.add_assoc,Nat.add_assoc]⟩) rfl⟩
   ·cases h
  ·cases h
 ·rename_i t x i hop;simp only[hop];have hx:=hσ x;have hi:=hσ i;generalize σ x=u at hx ⊢;generalize ρ x=av at h hx;generalize σ i=ui at hi ⊢;generalize ρ i=ai at h hi;split at h
  ·rename_i id bf kk n;split at h
   ·rename_i k es e0 hd he;split at h
    ·rename_i sz0 hsz;simp only[cv,iw] at h;obtain⟨h1,h2⟩:=h;subst h1 h2;obtain⟨⟨h0,hlt⟩,hlen⟩:=hp;obtain⟨rfl,_⟩:=hi.eM;obtain⟨m,rfl⟩:=Int.eq_ofNat_of_zero_le h0;simp only[Int.toNat_natCast] at hlen ⊢;have hm:m<es.length:=by omega
     obtain⟨bI,sz,sz',e,e',us,di,q1,q2,q3,q4,q5,q6⟩:=jX hs hd;obtain⟨g,cap,rfl,_⟩:=q2.elem (i:=m) (by rw[fI];exact hm);rw[fI] at q1;have hmm:(es.getD m []).length=sz:=q5 _ (by
      have:es.getD m []=es[m]:=by simp[hm]
      rw[this];exact nR _)
     have e2:sz=sz0:=by omega
     subst e2;cases hx with
     |eO _ _ _ v eX _ _ lg n' hl hle hh hone=>rw[q1] at hl;simp only[cv,Loc.deep.injEq] at hl;obtain⟨e1,e2,e3,e4,e5,e6⟩:=hl;subst e1 e2 e3 e4 e5 e6;rw[hh rfl];refine .jC (run_lift _) ⟨.pointer (some ⟨g,0+m * sz,none⟩),?_,.kH _ _ _ _ _ _ _ _ _ _ _ q1 (Nat.le_refl _) (λ_=>⟨g,0,es.length,cap,rfl,by simp⟩) rfl⟩;simp[Instr.indexAt,asIntOf,run_underlying (fB he),dR hsz,Addr.add_mid,hm]
    ·cases h
   ·cases h
  ·rename_i id bf ii kk n;split at h
   ·rename_i l e0 hd he;split at h
    ·rename_i sz0 hsz;simp only[cv,iw] at h;obtain⟨h1,h2⟩:=h;subst h1 h2;obtain⟨⟨h0,hlt⟩,hlen⟩:=hp;obtain⟨rfl,_⟩:=hi.eM;obtain⟨m,rfl⟩:=Int.eq_ofNat_of_zero_le h0;simp only[Int.toNat_natCast] at hlen ⊢;have hm:m<l.length:=by omega
     cases hdo:cH H id bf with
     |none=>rw[hdo] at hd;cases hd
     |some ke =>
      obtain⟨k,es⟩:=ke;rw[hdo] at hd;obtain⟨hi',x',hx1,hx2⟩:=xd hd;obtain⟨bI,sz,sz',e,e',us,di,q1,q2,q3,q4,q5,q6⟩:=jX hs hdo;obtain⟨l',us',m1,m2,m3⟩:=q6 ii x' hx1;rw[hx2] at m1;simp only[cv,PV.aV.injEq] at m1;subst m1;obtain⟨g,cap,hg,_⟩:=m2.elem hm;have hmm:(l.getD m []).length=sz':=m2.all _ (by
       have:l.getD m []=l[m]:=by simp[hm]
       rw[this];exact nR _)
      have e2:sz'=sz0:=by omega
      subst e2;cases hx with
      |kI _ _ _ v _ eX _ _ lg n' hl hle hh hone=>rw[q1] at hl;simp only[cv,Loc.deep.injEq] at hl;obtain⟨e1,e2,e3,e4,e5,e6⟩:=hl;subst e1 e2 e3 e4 e5 e6;rw[hh rfl,hg];refine .jC (run_lift _) ⟨.pointer (some ⟨g,0+m * sz',none⟩),?_,.nj _ _ _ _ _ _ _ _ _ _ _ _ q1 (Nat.le_refl _) (λ_=>⟨g,0,l.length,cap,hg,by simp⟩) rfl⟩;simp[Instr.indexAt,asIntOf,run_underlying (fB he),dR hsz,Addr.add_mid,hm]
    ·cases h
   ·cases h
  ·cases h
 ·rename_i c hop;simp only[hop];have one:∀ (t:TypeId) (a:AV) (es:List (List PV)),c.callee = .builtin .len->c.argTypes.toList=[t]->c.args.toList.map ρ=[a]->(∀u,eC I L u a->∃J,VR J u (.aV es))->qK P t (.p (.aV es))=some (pre,v)->_:=λt a es hc ht ha hl h=>by have key:=anh hop hc ht ha hl h hp (C:=C) (H:=H) (w:=w) hσ;unfold execOp at key;simp only[hop] at key;exact key
  split at h
  ·rename_i t id bf hc ht ha;split at h
   ·rename_i k es hd;obtain⟨bI,sz,sz',e,e',us,di,q1,q2,q3,q4,q5,q6⟩:=jX hs hd;have hlen:qK P t (.p (.aV (fA k di es)))=some (pre,v):=by rw[<-h];unfold qK;simp only[fI]
    refine one t _ _ hc ht ha (λu hu=>?_) hlen;cases hu with
    |eO _ _ _ v eX _ _ lg n' hl hle hh hone=>rw[q1] at hl;simp only[cv,Loc.deep.injEq] at hl;obtain⟨e1,e2,_⟩:=hl;subst e1 e2;rw[hh rfl];exact⟨_,q2.snap hs.mem⟩
   ·cases h
  ·rename_i t id bf ii hc ht ha;split at h
   ·rename_i l hd;cases hdo:cH H id bf with
    |none=>rw[hdo] at hd;cases hd
    |some ke =>
     obtain⟨k,es⟩:=ke;rw[hdo] at hd;obtain⟨hi',x',hx1,hx2⟩:=xd hd;obtain⟨bI,sz,sz',e,e',us,di,q1,q2,q3,q4,q5,q6⟩:=jX hs hdo;obtain⟨l',us',m1,m2,m3⟩:=q6 ii x' hx1;rw[hx2] at m1;simp only[cv,PV.aV.injEq] at m1;subst m1;refine one t _ _ hc ht ha (λu hu=>?_) h;cases hu with
     |kI _ _ _ v _ eX _ _ lg n' hl hle hh hone=>rw[q1] at hl;simp only[cv,Loc.deep.injEq] at hl;obtain⟨e1,e2,e3,e4,e5,e6⟩:=hl;subst e1 e2 e3 e4 e5 e6;rw[hh rfl];exact⟨_,m2.snap hs.mem⟩
   ·cases h
  ·cases h
 ·cases h
theorem ani{C:Ctx}{H:ay}{env:Env}{tm:Array Value}{w:World}(hs:gU C env H I L tm w){id bf sz:Nat}{es:List (List PV)}(h:ac4 H id bf=some (sz,es)) :
  ∃bI e us,L id=some (.row bf bI sz)/\si w C.B I bI e sz es us/\∃ao cap,bI = .slice ao es.length cap/\es.length<=cap/\((ao=none/\cap=0)\/∃g,ao=some ⟨g,0,none⟩):=by
 unfold ac4 at h;split at h
 ·rename_i v e sz' es' hH;split at h
  ·rename_i hv;simp only[cv,iw] at h;obtain⟨rfl,rfl⟩:=h;subst hv;obtain⟨bI,us,h1,h2,h3,h4,h5,h6,h7⟩:=hs.chunk id _ hH;refine⟨bI,e,us,h1,⟨h2,h3,h4,h5,h6,h7⟩,?_⟩;rcases h2.2 with ⟨rfl,hn⟩|⟨g,cap,cur,rfl,_,_,hnc,_⟩
   ·exact⟨none,0,by rw[hn],by omega,.inl ⟨rfl,rfl⟩⟩
   ·exact⟨some ⟨g,0,none⟩,cap,rfl,hnc,.inr ⟨g,rfl⟩⟩
  ·cases h
 ·cases h
theorem ark{o:Oper}{ρ:Operand->AV}{v:AV}{pre:Prop}{H:ay}(h:yy P o ρ H=some (pre,v))(hp:pre){C:Ctx}{env:Env}{tm:Array Value}{w:World}
  (hs:gU C env H I L tm w) {σ:Operand->Value} (hσ:∀x,eC I L (σ x) (ρ x)):oN P C H I L w ((execOp σ o).run P w) v H:=by
 unfold yy at h;unfold execOp;split at h
 ·rename_i t x i hop;simp only[hop];have hx:=hσ x;have hi:=hσ i;generalize σ x=u at hx ⊢;generalize ρ x=av at h hx;generalize σ i=ui at hi ⊢;generalize ρ i=ai at h hi;split at h
  ·rename_i id bf off m _ szs k n;split at h
   ·rename_i sz es e hr he;split at h
    ·rename_i sz' hsz;simp only[cv,iw] at h;obtain⟨h1,h2⟩:=h;subst h1 h2;obtain⟨⟨h0,hlt,hle'⟩,rfl⟩:=hp;obtain⟨rfl,_⟩:=hi.eM;obtain⟨q,rfl⟩:=Int.eq_ofNat_of_zero_le h0;simp only[Int.toNat_natCast];have hq:q<m:=by omega
     obtain⟨bI,e0,us,q1,q2,ao,cap,rfl,hcap,hao⟩:=ani hs hr;cases hx with
     |iy a _ _ v1 _ _ _ c jI sz1 mD hle hn hm hz hh =>
      rw[q1] at mD;simp only[cv,Loc.row.injEq] at mD;obtain⟨r1,r2,r3⟩:=mD;subst r1 r2 r3;obtain⟨ao1,m1,aGG,e1,rfl,ha⟩:=hh rfl;simp only[Value.slice.injEq] at e1;obtain⟨rfl,rfl,rfl⟩:=e1;have ha':=ha (.inl (by omega));rcases hao with ⟨_,h9⟩|⟨g,rfl⟩
      ·omega
      ·subst ha';refine .jC (run_lift _) ⟨.pointer (some ⟨g,0+((off+q) * sz'+0),none⟩),?_,.jj _ _ _ _ _ _ _ _ q1 (Nat.le_refl _) (λ_=>⟨g,0,es.length,cap,rfl,rfl⟩) rfl⟩;simp[Instr.indexAt,asIntOf,run_underlying (fB he),dR hsz,Addr.add_mid,hq,Nat.add_mul]
    ·cases h
   ·cases h
  ·cases h
 ·cases h
theorem arl{o:Oper}{ρ:Operand->AV}{v:AV}{pre:Prop}{H:ay}(h:rU P o ρ H=some (pre,v))(hp:pre){C:Ctx}{env:Env}{tm:Array Value}{w:World}
  (hs:gU C env H I L tm w) {σ:Operand->Value} (hσ:∀x,eC I L (σ x) (ρ x)):oN P C H I L w ((execOp σ o).run P w) v H:=by
 unfold rU at h;split at h
 ·rename_i hx;simp only[cv] at h;subst h;exact ang hx hp hs hσ
 ·split at h
  ·rename_i hx;simp only[cv] at h;subst h;exact arj hx hp hs hσ
  ·exact ark h hp hs hσ
def vn(H:ay):AV->Option (List (List PV))
 | .p (.aV ns)=>some ns
 | .p (.val (.slice _ 0 _))=>some []
 | .p .emp=>some []
 | .row id bf=>rowOf H id bf
 |_=>none
theorem ake{C:Ctx}{H:ay}{env:Env}{tm:Array Value}{w:World}(hs:gU C env H I L tm w){b:AV}{ns:List (List PV)}(h:vn H b=some ns){y:Value}(hy:eC I L y b) :
  ∃bo cap,∃yO:List Value,y = .slice bo ns.length cap/\yO.length=ns.flatten.length/\(∀ (j:Nat) u c,yO[j]? = some u->ns.flatten[j]? = some c->VR I u c)/\(∀u∈yO,u.oneCell'=true) /\
   (yO=[]\/∃b off,bo=some ⟨b,off,none⟩/\∀ (j:Nat) u,yO[j]? = some u->w.cell? ⟨b,off+j,none⟩=some u)/\ns.length<=cap:=by
 have aiM : ∀ {u : Value}, VR I u (.aV ns) → ∃ bo cap, ∃ yO : List Value, u = .slice bo ns.length cap ∧ yO.length = ns.flatten.length ∧ (∀ (j : Nat) u c, yO[j]? = some u → ns.flatten[j]? = some c → VR I u c) ∧ (∀ u ∈ yO, u.oneCell' = true) ∧
   (yO=[]\/∃b off,bo=some ⟨b,off,none⟩/\∀ (j:Nat) u,yO[j]? = some u->w.cell? ⟨b,off+j,none⟩=some u)/\ns.length<=cap:=by
  intro u hu;cases hu with
  |aV bo n cap _ yO nsz hlen hnsz hnl hnv hnone hnm aIE aBK=>subst hlen;exact⟨bo,cap,yO,rfl,hnl,hnv,hnone,hnm.imp id λ⟨b,off,e,k⟩=>⟨b,off,e,λj u hj=>hs.mem _ _ _ (k j u hj)⟩,aBK⟩
 unfold vn at h;split at h
 ·simp only[cv] at h;subst h;exact aiM hy.nZ
 ·simp only[cv] at h;subst h;rename_i ao cap;exact⟨ao,cap,[],hy.eM.1,rfl,by simp,by simp,.inl rfl,Nat.zero_le _⟩
 ·simp only[cv] at h;subst h;cases hy.nZ;exact⟨_,0,[],rfl,rfl,by simp,by simp,.inl rfl,Nat.zero_le _⟩
 ·rename_i id bf;unfold rowOf at h;split at h
  ·rename_i v e sz es hH;split at h
   ·rename_i hv;simp at h;subst h hv;obtain⟨bI,us,h1,h2,h3,h4,h5,h6,h7⟩:=hs.chunk id _ hH;cases hy with
    |row _ _ _ v1 jI sz1 hl hle hh hone =>
     rw[h1] at hl;simp only[cv,Loc.row.injEq] at hl;obtain⟨r1,r2,r3⟩:=hl;subst r1 r2 r3;have hxe:=hh rfl;subst hxe;have hfl:=bH h4;have hlen:us.length=es.flatten.length:=by rw[hfl];exact h2.1
     rcases h2.2 with ⟨e1,hn⟩|⟨g,cap,cur,e1,hb,hg,hnc,hcm,hcs,lC⟩
     ·have he:es=[]:=List.length_eq_zero_iff.1 hn;subst he;exact⟨none,0,us,e1,hlen,h5,h6,.inl (List.length_eq_zero_iff.1 (by simpa using hlen)),Nat.le_refl _⟩
     ·refine⟨some ⟨g,0,none⟩,cap,us,e1,hlen,h5,h6,.inr ⟨g,0,rfl,λj u hu=>?_⟩,hnc⟩;have:=h2.cells (g:=g) (by rw[e1];rfl) j u hu;rwa [Addr.add_mid] at this
   ·cases h
  ·rename_i v es hH;split at h
   ·rename_i hv;simp at h;subst h hv;obtain⟨bI,sz,h1,h2,_⟩:=hs.chunk id _ hH;cases hy with
    |row _ _ _ v1 jI sz1 hl hle hh hone=>rw[h1] at hl;simp only[cv,Loc.row.injEq] at hl;obtain⟨r1,r2,r3⟩:=hl;subst r1 r2 r3;rw[hh rfl];exact aiM h2
   ·cases h
  ·rename_i v e sz es hH;split at h
   ·rename_i hv;simp at h;subst h hv;obtain⟨g0,o0,aGF,arr,h1,k2,k3,k4,k5,k6,h2,k8⟩:=hs.chunk id _ hH;cases hy with
    |row _ _ _ v1 jI sz1 hl hle hh hone=>rw[h1] at hl;simp only[cv,Loc.row.injEq] at hl;obtain⟨r1,r2,r3⟩:=hl;subst r1 r2 r3;rw[hh rfl];exact aiM h2
   ·cases h
  ·cases h
 ·cases h
end Go.cq
namespace Go.cq
open Go.RowKit
variable{P:Program}{I:Mem}{L:bB}
def ab0(P:Program)(t1 t2:TypeId)(a b:AV)(H:ay):Option (Prop×AV×ay):=match a,dw P t1 t2 with
 | .row id bf,some (e',sz',qR)=>match H id with
  | some (.row v e sz es) => if v = bf ∧ e = e' ∧ sz = sz' then match vn H b with
    |some ns=>some ((es.length+ns.length) * qR<=140737488355328/\∀x∈ns,x.length=sz,.row id (bf+1),bk H id (.row (bf+1) e sz (es++ns)))
    |none=>none
   else none
  |_=>none
 |_,_=>none
def wz(P:Program)(o:Oper)(ρ:Operand->AV)(H:ay):Option (Prop×AV×ay):=match o.op with
 | .store t a x=>match bz P t with
  | some n => if (b5 (ρ x)).length = n ∧ (b5 (ρ x)).all n9 = true then match ρ a with
    | .ptr id off=>match H id with
     |some (.box cs)=>if off+n<=cs.length then some (True,.dead,bk H id (.box (splice cs off (b5 (ρ x))))) else none
     |_=>none
    | .jj id bf i off=>match H id,tB (b5 (ρ x)) with
     |some (.row v e sz es),some ps=>if v=bf then some (i<es.length/\off+n<=sz,.dead,bk H id (.row v e sz (es.set i (splice (es.getD i []) off ps)))) else none
     |_,_=>none
    |_=>none
   else none
  |none=>none
 | .alloc e=>match o.dst with
  |some d=>match H d,cN P e with
   |none,some zs=>if zs.all (·.oneCell')=true then some (True,.ptr d 0,bk H d (.box (zs.map λz=>.p (.val z)))) else none
   |_,_=>none
  |none=>none
 | .box _ x=>match o.dst with
  |some d=>match H d with
   |none=>if (b5 (ρ x)).all n9=true then some (True,.ptr d 0,bk H d (.box (b5 (ρ x)))) else none
   |some _=>none
  |none=>none
 | .call c=>match c.callee,c.argTypes.toList,c.args.toList.map ρ with
  | .builtin .append,[t1,t2],[a,b]=>ab0 P t1 t2 a b H
  |_,_,_=>none
 |_=>none
theorem cells_one{u:Value}{a:AV}(h:eC I L u a)(hall:(b5 a).all n9=true):∃us:List Value,u.cells=us.toArray/\us.length=(b5 a).length /\
  (∀ (j:Nat) u c,us[j]? = some u->(b5 a)[j]? = some c->eC I L u c)/\∀x∈us,x.oneCell'=true:=by
 have hone:∀c∈b5 a,n9 c=true:=List.all_eq_true.1 hall;obtain⟨us,h1,h2,h3⟩:=h.cells hone;refine⟨us,h1,h2,h3,λx hx=>?_⟩;obtain⟨j,hj⟩:=List.mem_iff_getElem?.1 hx;have hjl:j<(b5 a).length:=by rw[<-h2];exact (List.getElem?_eq_some_iff.1 hj).1
 exact (h3 j x _ hj (List.getElem?_eq_getElem hjl)).one (hone _ (nR _))
theorem aiN{C:Ctx}{H:ay}{env:Env}{tm:Array Value}{w:World}(hs:gU C env H I L tm w){d:Nat}(hd:H d=none){us:List Value}{cs:List AV}(e:TypeId)
  (hl:us.length=cs.length) (hv:∀ (j:Nat) u c,us[j]? = some u->cs[j]? = some c->eC I L u c) (h1:∀x∈us,x.oneCell'=true) :
  eC I (cg L d (.box w.heap.size)) (.pointer (some ⟨w.heap.size,0,none⟩)) (.ptr d 0)/\Fr C I L H w I (cg L d (.box w.heap.size)) (bk H d (.box cs)) (w.alloc (.cells us.toArray e)):=by
 refine⟨.ptr _ _ _ (by simp[cg]),λenv tm hs=>?_⟩;refine hs.new ((Below.refl _ _).alloc hs.leB _) (λb hb=>Below.heap_alloc _ _ _ hb) hd _ _ ?_ (λb hb=>by
  simp only[Loc.has,cv] at hb;subst hb;simp)
 refine⟨w.heap.size,us.toArray,e,by simp[cg],heap_alloc_new w _,by simpa using hl,λj u c hu hc=>?_,λj u hu=>?_,λo=>aeF hs.mem o⟩
 ·exact (hv j u c (by simpa using hu) hc).mono (Mem.dY I) (dK.uj (hs.sj hd) _)
 ·exact h1 u (List.mem_of_getElem? (by simpa using hu))
theorem aiO{C:Ctx}{H:ay}{env:Env}{tm:Array Value}{w w':World}(_:gU C env H I L tm w){d:Nat}(hd:H d=none){us:List Value}{es:List (List PV)}{e:TypeId}{sz cap:Nat}{arr:Array Value}
  (hw:w'=w.alloc (.cells arr e)\/w'=w.drew.alloc (.cells arr e)) (ab1:arr.size=cap * sz) (hcm:cap<=maxLen) (htk:arr.toList.take (es.length * sz)=us) (hpos:0<sz)
  (hall:∀x∈es,x.length=sz) (hl:us.length=es.flatten.length) (hv:∀ (j:Nat) u c,us[j]? = some u->es.flatten[j]? = some c->VR I u c) (h1:∀x∈us,x.oneCell'=true) (hcap:es.length<=cap) :
  eC I (cg L d (.row 0 (.slice (some ⟨w.heap.size,0,none⟩) es.length cap) sz)) (.slice (some ⟨w.heap.size,0,none⟩) es.length cap) (.row d 0) /\
  Fr C I L H w I (cg L d (.row 0 (.slice (some ⟨w.heap.size,0,none⟩) es.length cap) sz)) (bk H d (.row 0 e sz es)) w':=by
 refine⟨.row _ d 0 0 (.slice (some ⟨w.heap.size,0,none⟩) es.length cap) sz (by simp[cg]) (Nat.le_refl _) (λ_=>rfl) rfl,λenv tm hs=>?_⟩;have hb:Below C.B w w':=by
  rcases hw with rfl|rfl
  ·exact (Below.refl _ _).alloc hs.leB _
  ·exact (Below.refl _ _).drew.alloc hs.leB _
 have hk:∀b,b<w.heap.size->w'.heap[b]? = w.heap[b]?:=λb hlt=>by
  rcases hw with rfl|rfl
  ·exact Below.heap_alloc _ _ _ hlt
  ·exact Below.heap_alloc w.drew _ _ hlt
 have hnew:w'.heap[w.heap.size]? = some (.cells arr e (0,0)):=by
  rcases hw with rfl|rfl
  ·exact heap_alloc_new w _
  ·exact heap_alloc_new w.drew _
 have hsz:w'.heap.size=w.heap.size+1:=by rcases hw with rfl|rfl<;>simp
 refine hs.new hb hk hd _ _ ?_ (λb hb=>by
  simp only[Loc.has,Value.ownBlock,cv] at hb;subst hb;omega)
 refine⟨.slice (some ⟨w.heap.size,0,none⟩) es.length cap,us,by simp[cg],⟨by rw[hl,bH hall],.inr ⟨w.heap.size,cap,arr,rfl,hs.leB,hnew,hcap,hcm,ab1,htk⟩⟩,hpos,hall,hv,h1,λb hb o=>?_⟩;simp only[Value.ownBlock,cv] at hb;subst hb;exact aeF hs.mem o
theorem xg{t:TypeId}{n:Nat}(hn:bz P t=some n){u:Value}{us:List Value}(hu:u.cells=us.toArray)(hlen:us.length=n){w:World}{b off:Nat}{arr:Array Value}{e:TypeId}
  (hg:w.heap[b]? = some (.cells arr e (0,0))) (hle:off+n<=arr.size) (h1:∀x∈us,x.oneCell'=true) :
  (Instr.storeAt t (.pointer (some ⟨b,off,none⟩)) u).run P w = .ok () (w.setRow b (splice arr.toList off us).toArray):=by
 have hst:=run_storeCells_at P b off e us 0 arr w hg (by omega) h1;simp only[Nat.add_zero] at hst;have hsz:us.toArray.size=n:=by simpa using hlen
 simp[Instr.storeAt,Instr.sureAddr,storeVar,dR hn,hu,hsz,hst,splice,hlen]
theorem dK.aao{L:bB}{id:Nat}{l:Loc}(h:L id=some l):dK L (cg L id l):=λi=>by
 by_cases hi:i=id
 ·subst hi;have:=dK.refl L i;rw[h] at this ⊢;simpa[cg,h] using this
 ·have:cg L id l i=L i:=by simp[cg,hi]
  rw[this];exact dK.refl L i
theorem dK.aeX{L:bB}{id v:Nat}{bI eX:Value}{sz:Nat}(h:L id=some (.row v bI sz)):dK L (cg L id (.row (v+1) eX sz)):=λi=>by
 by_cases hi:i=id
 ·subst hi;rw[h];exact⟨v+1,eX,by simp[cg],by omega,λe=>by omega⟩
 ·have:cg L id (.row (v+1) eX sz) i=L i:=by simp[cg,hi]
  rw[this];exact dK.refl L i
theorem rV{w:World}{B b:Nat}(cs:Array Value)(h:B<=b):Below B w (w.setRow b cs):=⟨rfl,rfl,rfl,by simp[World.setRow],λk hk=>setRow_other w b k cs (by omega)⟩
theorem abj{R:Value->PV->Prop}{us vs:List Value}{cs ds:List PV}(hl:us.length=cs.length)(hv:∀ (j:Nat) u c,us[j]? = some u->cs[j]? = some c->R u c)
  (hw:∀ (j:Nat) u c,vs[j]? = some u->ds[j]? = some c->R u c):∀ (j:Nat) u c,(us++vs)[j]? = some u->(cs++ds)[j]? = some c->R u c:=by
 intro j u c hu hc;rw[List.getElem?_append] at hu hc;rw[hl] at hu;split at hu
 ·rename_i h;rw[if_pos h] at hc;exact hv _ _ _ hu hc
 ·rename_i h;rw[if_neg h] at hc;exact hw _ _ _ hu hc
theorem anj{t1 t2 ty:TypeId}{a b v:AV}{pre:Prop}{H H':ay}(h:ab0 P t1 t2 a b H=some (pre,v,H'))(hp:pre){C:Ctx}{env:Env}{tm:Array Value}{w:World}(hs:gU C env H I L tm w)
  {x y:Value} (hx:eC I L x a) (hy:eC I L y b) {s':Sem Next} (hs':∀w,s'.run P w=((Builtin.append_ #[t1,t2] ty #[x,y]).run P w).andThen λu w'=>.ok (.value u) w') :
  oN P C H I L w (s'.run P w) v H':=by
 unfold ab0 at h;split at h
 ·rename_i id bf e' sz' qR ht
  obtain⟨rfl,hu,hpos,aaP,i,z,hi,hz,hsz,hby,hzc⟩:=nD ht;split at h
  ·rename_i v0 e sz es hH;split at h
   ·rename_i hc;obtain⟨rfl,rfl,rfl⟩:=hc;split at h
    ·rename_i ns hsrc;simp only[cv,iw] at h;obtain⟨h1,h2,h3⟩:=h;subst h1 h2 h3;obtain⟨hb,hall⟩:=hp;obtain⟨bI,us,q1,q2,q3,q4,q5,q6,q7⟩:=hs.chunk id _ hH;cases hx with
     |row _ _ _ v1 jI sz1 hl hle hh hone =>
      rw[q1] at hl;simp only[cv,Loc.row.injEq] at hl;obtain⟨r1,r2,r3⟩:=hl;subst r1 r2 r3;have hxe:=hh rfl;subst hxe;obtain⟨bo,cap,yO,hye,hnl,hnv,hnone,hnm,aBK⟩:=ake hs hsrc hy
      ·subst hye;have aDb:=bH hall;have aeY:es.length+ns.length<=maxLen:=by have:=Nat.le_mul_of_pos_right (es.length+ns.length) aaP;simp only[maxLen];omega
       have finish : ∀ (v' : Value) (w' : World), (Builtin.append_ #[t1, t1] ty #[x, .slice bo ns.length cap]).run P w = .ok v' w' → w'.ownsRow C.B e sz v' (es.length + ns.length) (us ++ yO) → w.grownBy w' x.ownBlock →
         (∀b,v'.ownBlock=some b->x.ownBlock=some b\/(w.heap.size<=b/\b<w'.heap.size))->v'.oneCell'=true ->
         oN P C H I L w (s'.run P w) (.row id (v0+1)) (bk H id (.row (v0+1) e sz (es++ns))):=by
        intro v' w' hr ho hg hblk h1;refine⟨v',w',I,cg L id (.row (v0+1) v' sz),.inl (by rw[hs',hr];rfl),.row _ _ _ (v0+1) v' sz (by simp[cg]) (Nat.le_refl _) (λ_=>rfl) h1,λenv tm hs=>?_⟩;refine hs.turn (Below.grown (Below.refl _ _) hg hs.leB λk hk=>(hs.fL id _ k q1 hk).1) q1 (λb hb hne=>hg.block b hb λe=>hne e.symm) (dK.aeX q1) (λb hb=>q7 b hb) _ ?_ hblk;refine⟨v',us++yO,by simp[cg],by rw[List.length_append];exact ho,q3,?_,?_,?_,?_⟩
        ·intro x hx;rcases List.mem_append.1 hx with h|h
         ·exact q4 x h
         ·exact hall x h
        ·rw[List.flatten_append];exact abj (by rw[bH q4];exact q2.1) q5 hnv
        ·intro x hx;rcases List.mem_append.1 hx with h|h
         ·exact q6 x h
         ·exact hnone x h
        ·intro b hb o;rcases hblk b hb with h|h
         ·exact q7 b h o
         ·cases hI:I b o with
          |none=>rfl
          |some u=>exact absurd (hs.mem.lt hI) (by omega)
       rcases hnm with rfl|⟨bb,off,rfl,hI⟩
       ·-- nothing is aDc
        have h0:ns.length=0:=by
         have:ns.flatten.length=0:=by rw[<-hnl];rfl
         rw[aDb] at this;rcases Nat.mul_eq_zero.1 this with h|h
         ·exact h
         ·omega
        rcases q2.2 with ⟨rfl,hn0⟩|⟨g,cp,cur,rfl,hbg,hg,hnc,hcm,hcs,lC⟩
        ·refine finish (.slice none 0 0) w ?_ ?_ ⟨rfl,rfl,rfl,Nat.le_refl _,λ_ _ _=>rfl⟩ (λb hb=>.inl hb) rfl
         ·simp[Builtin.append_,run_underlying hu,sizeOf,typeInfo,hi,Builtin.lenOf,h0];cases bo<;>simp[Builtin.firstCells,loadCells,loadCellsFrom]
         ·rw[List.append_nil,h0,Nat.add_zero];exact q2
        ·refine finish (.slice (some ⟨g,0,none⟩) es.length cp) w ?_ ?_ ⟨rfl,rfl,rfl,Nat.le_refl _,λ_ _ _=>rfl⟩ (λb hb=>.inl hb) rfl
         ·simp[Builtin.append_,run_underlying hu,sizeOf,typeInfo,hi,Builtin.lenOf,h0,hnc];cases bo<;>simp[Builtin.firstCells,loadCells,loadCellsFrom,storeCells]
         ·rw[List.append_nil,h0,Nat.add_zero];exact q2
       ·have hnews:∀ (j:Nat) v,yO[j]? = some v->w.cell? ((⟨bb,off,none⟩:Addr).add j)=some v:=λj v hj=>by rw[Addr.add_mid];exact hI j v hj
        have aem:yO.length=ns.length * sz:=by rw[hnl,aDb]
        obtain⟨v',w',hr,ho,hg,_⟩:=run_append_own (P:=P) w C.B t1 ty e i z sz qR hu hi hz hsz hby hzc hpos x es.length us q2 ⟨bb,off,none⟩ ns.length cap yO aem hnews hnone aeY hb hs.leB
        refine finish v' w' hr ho hg ?_ ?_
        ·rcases q2.2 with ⟨rfl,hn0⟩|⟨g,cp,cur,rfl,hbg,hgg,hnc,hcm,hcs,lC⟩
         ·by_cases hm0:ns.length=0
          ·have hr2:(Builtin.append_ #[t1,t1] ty #[.slice none 0 0,.slice (some ⟨bb,off,none⟩) ns.length cap]).run P w = .ok (.slice none 0 0) w:=by have:yO=[]:=List.length_eq_zero_iff.1 (by rw[aem,hm0,Nat.zero_mul]);simp[Builtin.append_,run_underlying hu,sizeOf,typeInfo,hi,Builtin.lenOf,hm0,Builtin.firstCells,loadCells,loadCellsFrom]
           rw[hr2] at hr;simp only[Result.ok.injEq] at hr;obtain⟨rfl,rfl⟩:=hr;intro b hb;exact .inl hb
          ·obtain⟨cp,rest,hr2,_⟩:=pN (P:=P) (ty:=ty) hu hi hz hsz none ⟨bb,off,none⟩ ns.length cap yO w aem hnews (by omega) (by rw[hby];rw[hn0,Nat.zero_add] at hb;exact hb) (by simp only[maxLen] at aeY;omega);rw[hr2] at hr;simp only[Result.ok.injEq] at hr;obtain⟨rfl,rfl⟩:=hr;intro b hb;simp only[Value.ownBlock,cv] at hb;subst hb;exact .inr ⟨Nat.le_refl _,by simp⟩
         ·by_cases hroom:es.length+ns.length<=cp
          ·have hfit:es.length * i.size+yO.length<=cur.size:=by rw[aem,hcs,hsz,<-Nat.add_mul];exact Nat.mul_le_mul_right _ hroom
           have hr2:=run_append_room (P:=P) w t1 ty e i hu hi g es.length cp cur hgg ⟨bb,off,none⟩ ns.length cap yO (by rw[hsz];exact aem) hnews hnone hroom hfit;rw[hr2] at hr;simp only[Result.ok.injEq] at hr;obtain⟨rfl,rfl⟩:=hr;intro b hb;exact .inl hb
          ·have holds:∀j u,us[j]? = some u->w.cell? ((⟨g,0,none⟩:Addr).add j)=some u:=q2.cells (g:=g) rfl;have hr2:=run_append_grow (P:=P) w t1 ty e i z hu hi hz ⟨g,0,none⟩ es.length cp us (by rw[hsz];exact q2.1) holds ⟨bb,off,none⟩ ns.length cap yO (by rw[hsz];exact aem) hnews (by omega) (by simp only[maxLen] at aeY;omega)
            (growslice_fits (by omega) (by rw[hby];exact hb))
           rw[hr2] at hr;simp only[Result.ok.injEq] at hr;obtain⟨rfl,rfl⟩:=hr;intro b hb;simp only[Value.ownBlock,cv] at hb;subst hb;exact .inr ⟨Nat.le_refl _,by simp⟩
        ·rcases ho.2 with ⟨rfl,_⟩|⟨_,_,_,rfl,_⟩<;>rfl
    ·cases h
   ·cases h
  ·cases h
 ·cases h
end Go.cq
namespace Go.cq
open Go.RowKit
variable{P:Program}{I:Mem}{L:bB}
theorem xh{us un:List Value}{off:Nat}(h1:∀x∈us,x.oneCell'=true)(h2:∀x∈un,x.oneCell'=true):∀x∈splice us off un,x.oneCell'=true:=λx hx=>by
 unfold splice at hx;simp only[List.mem_append] at hx;rcases hx with (hx|hx)|hx
 ·exact h1 x (List.mem_of_mem_take hx)
 ·exact h2 x hx
 ·exact h1 x (List.mem_of_mem_drop hx)
theorem yP{α:Type}{sz:Nat} : ∀ {es:List (List α)} (_:∀e∈es,e.length=sz) (i:Nat) (_:i<es.length) (off:Nat) (ps:List α) (_:off+ps.length<=sz),
  (es.set i (splice (es.getD i []) off ps)).flatten=splice es.flatten (i * sz+off) ps
 | [],_,i,hi,_,_,_=>by simp at hi
 |e :: es,h,0,_,off,ps,hle=>by
  have he:=h e (by simp);simp only[List.set_cons_zero,List.getD_cons_zero,List.flatten_cons,Nat.zero_mul,Nat.zero_add,splice];have e1:(e++es.flatten).take off=e.take off:=by rw[List.take_append_of_le_length (by omega)]
  have e2:(e++es.flatten).drop (off+ps.length)=e.drop (off+ps.length)++es.flatten:=by rw[List.drop_append_of_le_length (by omega)]
  rw[e1,e2];simp
 |e :: es,h,i+1,hi,off,ps,hle=>by
  have he:=h e (by simp);have ih:=yP (es:=es) (λx hx=>h x (by simp[hx])) i (by simpa using hi) off ps hle;simp only[List.set_cons_succ,List.getD_cons_succ,List.flatten_cons];rw[ih];have hm:(i+1) * sz+off=e.length+(i * sz+off):=by rw[he,Nat.add_mul];omega
  rw[hm];unfold splice;have e2:e.length+(i * sz+off)+ps.length=e.length+(i * sz+off+ps.length):=by omega
  rw[e2,List.take_length_add_append,List.drop_length_add_append];simp
theorem yQ{α:Type}{l x:List α}{off n:Nat}(h:off+x.length<=n)(hn:n<=l.length):(splice l off x).take n=splice (l.take n) off x:=by
 apply List.ext_getElem?;intro j;unfold splice;simp only[List.getElem?_take,List.append_assoc,List.getElem?_append,List.length_take,List.getElem?_drop];by_cases h1:j<off
 ·have a1:j<n:=by omega
  have a2:j<min off l.length:=by omega
  have a3:j<min off (min n l.length):=by omega
  rw[if_pos a1,if_pos a2,if_pos a3,if_pos h1,if_pos h1,if_pos a1]
 ·have a2:¬ j<min off l.length:=by omega
  have a3:¬ j<min off (min n l.length):=by omega
  have e1:min off l.length=off:=by omega
  have e2:min off (min n l.length)=off:=by omega
  rw[if_neg a2,if_neg a3,e1,e2];by_cases h2:j-off<x.length
  ·rw[if_pos h2,if_pos h2,if_pos (show j<n by omega)]
  ·rw[if_neg h2,if_neg h2];have e3:off+x.length+(j-off-x.length)=j:=by omega
   rw[e3]
theorem abk{us un:List Value}{cs cn:List PV}{off:Nat}(hl:us.length=cs.length)(hn:un.length=cn.length)
  (hv:∀ (j:Nat) u c,us[j]? = some u->cs[j]? = some c->VR I u c) (hw:∀ (j:Nat) u c,un[j]? = some u->cn[j]? = some c->VR I u c) :
  ∀ (j:Nat) u c,(splice us off un)[j]? = some u->(splice cs off cn)[j]? = some c->VR I u c:=abc hl hn hv hw
theorem aeZ{s:Sem Unit}{w w':World}(h:s.run P w = .ok () w'):(do s;pure .skip:Sem Next).run P w = .ok .skip w':=by simp[h]
theorem wA{s:Sem Value}{u:Value}{w w':World}(h:s.run P w = .ok u w'):(do pure (.value (<-s)):Sem Next).run P w = .ok (.value u) w':=by simp[h]
theorem arn{o:Oper}{ρ:Operand->AV}{v:AV}{pre:Prop}{H H':ay}(h:wz P o ρ H=some (pre,v,H'))(hp:pre){C:Ctx}{env:Env}{tm:Array Value}{w:World}
  (hs:gU C env H I L tm w) {σ:Operand->Value} (hσ:∀x,eC I L (σ x) (ρ x)):oN P C H I L w ((execOp σ o).run P w) v H':=by
 unfold wz at h;unfold execOp;split at h
 ·rename_i t a x hop;simp only[hop];have ha:=hσ a;have hx:=hσ x;generalize σ a=ua at ha ⊢;generalize ρ a=av at h ha;generalize σ x=ux at hx ⊢;generalize ρ x=xv at h hx;split at h
  ·rename_i n hn;split at h
   ·rename_i hc;obtain⟨hlen,hall⟩:=hc;obtain⟨us,u1,u2,u3,u4⟩:=cells_one hx hall;split at h
    ·rename_i id off;split at h
     ·rename_i cs hH;split at h
      ·rename_i hle;simp only[cv,iw] at h;obtain⟨_,h2,h3⟩:=h;subst h2 h3;obtain⟨b,arr,e,g1,g2,g3,g4,g5,g6⟩:=hs.chunk id _ hH;cases ha with
       |ptr _ b' _ hl =>
        rw[g1] at hl;simp only[cv,Loc.box.injEq] at hl;subst hl;have hr:=xg hn u1 (by omega) g2 (off:=off) (by omega) u4;refine⟨undef,_,I,cg L id (.box b),.inr ⟨aeZ hr,rfl⟩,.dead _,λenv tm hs=>?_⟩;refine hs.turn (rV _ (hs.fL id _ b g1 rfl).1) g1 (λk hk hne=>setRow_other w b k _ (λe=>hne (by rw[e];rfl))) (dK.aao g1) (λk hk o=>by
         simp only[Loc.has,cv] at hk;subst hk;exact g6 o) _ ?_ (λk hk=>.inl hk)
        refine⟨b,(splice arr.toList off us).toArray,e,by simp[cg],setRow_heap w b arr _ e _ g2,?_,?_,?_,g6⟩
        ·simp only[List.size_toArray];rw[ep (by simp;omega),ep (by omega)];simpa using g3
        ·intro j u c hu hc;have:=abc (R:=eC I L) (us:=arr.toList) (cs:=cs) (off:=off) (un:=us) (cn:=b5 xv) (by simpa using g3) u2 (λj u c hu hc=>g4 j u c (by simpa using hu) hc) u3 j u c (by simpa using hu) hc;exact this.mono (Mem.dY I) (dK.aao g1)
        ·intro j u hu;refine xh (us:=arr.toList) (un:=us) (off:=off) (λx hx=>?_) u4 u (List.mem_of_getElem? (by simpa using hu));obtain⟨k,hk⟩:=List.mem_iff_getElem?.1 hx;exact g5 k x (by simpa using hk)
      ·cases h
     ·cases h
    ·rename_i id bf i off;split at h
     ·rename_i v0 e sz es ps hH hps;split at h
      ·rename_i hv;subst hv;simp only[cv,iw] at h;obtain⟨h1,h2,h3⟩:=h;subst h1 h2 h3;obtain⟨hi,hoff⟩:=hp;have hcs:=tU hps;rw[hcs] at u2 u3 hlen;simp only[List.length_map] at u2 hlen;obtain⟨bI,cs,q1,q2,q3,q4,q5,q6,q7⟩:=hs.chunk id _ hH;cases ha with
       |jj _ _ _ v1 _ _ jI sz1 hl hle hh hone =>
        rw[q1] at hl;simp only[cv,Loc.row.injEq] at hl;obtain⟨r1,r2,r3⟩:=hl;subst r1 r2 r3;obtain⟨g,o,n',cap,e1,e2⟩:=hh rfl;subst e1 e2;rcases q2.2 with ⟨anf,_⟩|⟨g',cp,cur,heq,hbg,hgg,hnc,hcm,hcz,lC⟩
        ·cases anf
        simp only[Value.slice.injEq,cv,Addr.mk.injEq] at heq;obtain⟨⟨e3,e0,_⟩,e4,e5⟩:=heq;subst e3 e0 e4 e5;rw[Nat.zero_add];have hmul:(i+1) * sz<=es.length * sz:=Nat.mul_le_mul_right _ hi;have ave:(i+1) * sz=i * sz+sz:=by rw[Nat.add_mul];omega
        have hcap:es.length * sz<=cur.size:=by rw[hcz];exact Nat.mul_le_mul_right _ hnc
        have hr:=xg hn u1 (by omega) hgg (off:=i * sz+off) (by omega) u4;refine⟨undef,_,I,cg L id (.row v0 (.slice (some ⟨g,0,none⟩) es.length cap) sz),.inr ⟨aeZ hr,rfl⟩,.dead _,λenv tm hs=>?_⟩;refine hs.turn (rV _ (hs.fL id _ g q1 rfl).1) q1 (λk hk hne=>setRow_other w g k _ (λe=>hne (by rw[e];rfl))) (dK.aao q1) (λk hk=>q7 k hk) _ ?_ (λk hk=>.inl hk);have hfl:=bH q4;have hcl:cs.length=es.length * sz:=q2.1;have htk:(splice cur.toList (i * sz+off) us).take (es.length * sz)=splice cs (i * sz+off) us:=by rw[yQ (by omega) (by simpa using hcap),lC]
        refine⟨.slice (some ⟨g,0,none⟩) es.length cap,splice cs (i * sz+off) us,by simp[cg],⟨?_,.inr ⟨g,cap,(splice cur.toList (i * sz+off) us).toArray,by rw[List.length_set],hbg,setRow_heap w g cur _ e _ hgg,by rw[List.length_set];exact hnc,hcm,?_,?_⟩⟩,q3,?_,?_,xh q6 u4,q7⟩
        ·rw[List.length_set,ep (by omega)];exact hcl
        ·simp only[List.size_toArray];rw[ep (by simp only[Array.length_toList];omega)];simpa using hcz
        ·rw[List.length_set];exact htk
        ·intro y hy;rcases List.mem_or_eq_of_mem_set hy with h|h
         ·exact q4 y h
         ·subst h;have hm:(es.getD i []).length=sz:=q4 _ (by
           have:es.getD i []=es[i]:=by simp[hi]
           rw[this];exact nR _)
          rw[ep (by omega)];exact hm
        ·rw[yP q4 i hi off ps (by omega)];exact abk (by omega) (by omega) q5 (abW u3)
      ·cases h
     ·cases h
    ·cases h
   ·cases h
  ·cases h
 ·rename_i e hop;simp only[hop];split at h
  ·rename_i d hd;split at h
   ·rename_i zs hH hz;split at h
    ·rename_i hone;simp only[cv,iw] at h;obtain⟨_,h2,h3⟩:=h;subst h2 h3;obtain⟨z,hzr,hzc⟩:=wu hz w;obtain⟨zr,z1⟩:=akd (I:=I) (L:=L) zs hone;obtain⟨n1,n2⟩:=aiN hs hH (us:=zs) e (by simp) zr z1;refine⟨_,_,I,_,.inl (wA ?_),n1,n2⟩;simp[Instr.alloc,hzr,newVar,newRow,newObj,Sem.run,hzc]
    ·cases h
   ·cases h
  ·cases h
 ·rename_i e x hop;simp only[hop];split at h
  ·rename_i d hd;split at h
   ·rename_i hH;split at h
    ·rename_i hall;simp only[cv,iw] at h;obtain⟨_,h2,h3⟩:=h;subst h2 h3;obtain⟨us,u1,u2,u3,u4⟩:=cells_one (hσ x) hall;obtain⟨n1,n2⟩:=aiN hs hH e u2 u3 u4;refine⟨_,_,I,_,.inl (wA ?_),n1,n2⟩;simp[Instr.box,newVar,newRow,newObj,Sem.run,u1]
    ·cases h
   ·cases h
  ·cases h
 ·rename_i c hop;simp only[hop];split at h
  ·rename_i t1 t2 a b hc ht ha;have hat:c.argTypes = #[t1,t2]:=by rw[<-Array.toArray_toList (xs:=c.argTypes),ht]
   cases hca:c.args.toList with
   |nil=>simp[hca] at ha
   |cons x r =>
    cases r with
    |nil=>simp[hca] at ha
    |cons y r =>
     have hr0:r=[]:=by simpa[hca] using congrArg List.length ha
     subst hr0;have hxy:ρ x=a/\ρ y=b:=by simpa[hca] using ha
     have hargs:c.args = #[x,y]:=by rw[<-Array.toArray_toList (xs:=c.args),hca]
     refine anj (ty:=o.type) h hp hs (hxy.1 ▸ hσ x) (hxy.2 ▸ hσ y) (λw=>?_);simp[resolve,hc,invoke,builtin,hat,hargs]
  ·cases h
 ·cases h
end Go.cq
namespace Go.cq
open Go.RowKit
variable{P:Program}{I:Mem}{L:bB}
def exN(P:Program)(o:Oper)(ρ:Operand->AV)(H:ay)(d:Nat):Option (Prop×AV×ay):=match H d with
 |some _=>none
 |none=>match o.op with
  | .buildSlice t n parts=>match lM P t n (parts.toList.map λx=>(x.1,ρ x.2)) with
   |some (e,es)=>match bz P e with
    |some sz=>some (True,.row d 0,bk H d (.row 0 e sz es))
    |none=>none
   |none=>match vm P t n (parts.toList.map λx=>(x.1,ρ x.2)) with
    |some (_,cs)=>some (True,.bsl d n,bk H d (.box cs))
    |none=>none
  | .makeSlice t l c=>match ρ l,ρ c,cM P t with
   | .p (.val (.int _ n)),.p (.val (.int _ m)),some e=>match bz P e,cN P e,abU P e with
    | some sz, some zs, some qR => if zs.length = sz ∧ 0 < sz ∧ 0 < qR ∧ zs.all (·.oneCell') = true then
      some ((0<=n/\m=n)/\n * qR<=140737488355328,.row d 0,bk H d (.row 0 e sz (List.replicate n.toNat (zs.map PV.val)))) else none
    |_,_,_=>none
   |_,_,_=>none
  | .call c=>match c.callee,c.argTypes.toList,c.args.toList.map ρ with
   | .builtin .append,[t1,t2],[a,b]=>match a,dw P t1 t2,vn H b with
    | .p (.val (.slice none 0 0)),some (e,sz,qR),some es=>some (es.length * qR<=140737488355328/\∀x∈es,x.length=sz,.row d 0,bk H d (.row 0 e sz es))
    |_,_,_=>none
   |_,_,_=>none
  |_=>none
theorem aro{n:Int}(h0:0<=n)(h:n<=9223372036854775807):i64.wrap n=n:=IntWalk.i64_in n (by omega)
theorem aiP{C:Ctx}{H:ay}{env:Env}{tm:Array Value}{w:World}(hs:gU C env H I L tm w){d:Nat}(hd:H d=none)(e:TypeId){sz:Nat}(hpos:0<sz) :
  eC I (cg L d (.row 0 (.slice none 0 0) sz)) (.slice none 0 0) (.row d 0)/\Fr C I L H w I (cg L d (.row 0 (.slice none 0 0) sz)) (bk H d (.row 0 e sz [])) w/\dK L (cg L d (.row 0 (.slice none 0 0) sz)):=by
 refine⟨.row _ d 0 0 (.slice none 0 0) sz (by simp[cg]) (Nat.le_refl _) (λ_=>rfl) rfl,λenv tm hs=>?_,dK.uj (hs.sj hd) _⟩;refine hs.new (Below.refl _ _) (λ_ _=>rfl) hd _ _ ?_ (λb hb=>by simp[Loc.has,Value.ownBlock] at hb);exact⟨.slice none 0 0,[],by simp[cg],⟨by simp,.inl ⟨rfl,rfl⟩⟩,hpos,by simp,by simp,by simp,λb hb=>by simp[Value.ownBlock] at hb⟩
theorem arp{o:Oper}{ρ:Operand->AV}{v:AV}{pre:Prop}{H H':ay}{d:Nat}(h:exN P o ρ H d=some (pre,v,H'))(hp:pre){C:Ctx}{env:Env}{tm:Array Value}{w:World}
  (hs:gU C env H I L tm w) {σ:Operand->Value} (hσ:∀x,eC I L (σ x) (ρ x)):oN P C H I L w ((execOp σ o).run P w) v H':=by
 unfold exN at h;unfold execOp;split at h
 ·cases h
 rename_i hd;split at h
 ·rename_i t n parts hop;simp only[hop];split at h
  ·rename_i e es hb;split at h
   ·rename_i sz hsz;simp only[cv,iw] at h;obtain⟨_,h2,h3⟩:=h;subst h2 h3;obtain⟨uo,sz',hr,hel,avh,hpos,hn,hall,hl,hv,hone⟩:=vK hb (wv hσ parts.toList) w;rw[hsz] at avh;simp only[cv] at avh;subst avh;have hr':(Instr.buildSlice t n (parts.map λx=>(x.1,σ x.2))).run P w = .ok (.slice (some ⟨w.heap.size,0,none⟩) n n) (w.alloc (.cells uo.toArray e)):=by rw[<-hr];congr 2;apply Array.ext';simp
    have hfl:=bH hall;have aeY:n<=maxLen:=by
     unfold lM at hb;rw[hel] at hb;simp only[hsz] at hb;split at hb
     ·split at hb
      ·rename_i hc;rename_i q1 q2;simp only[cv] at q1;subst q1;have:=Nat.le_mul_of_pos_right n hc.2.1;simp only[maxLen];omega
      ·cases hb
     ·cases hb
    subst hn;obtain⟨n1,n2⟩:=aiO hs hd (us:=uo) (es:=es) (e:=e) (sz:=sz) (cap:=es.length) (arr:=uo.toArray) (.inl rfl) (by simp[hl,hfl]) aeY (by simp[hl,hfl,List.take_of_length_le]) hpos hall hl hv hone (Nat.le_refl _);exact⟨_,_,I,_,.inl (wA hr'),n1,n2⟩
   ·cases h
  ·split at h
   ·rename_i e cs hb;simp only[cv,iw] at h;obtain⟨_,h2,h3⟩:=h;subst h2 h3;obtain⟨uo,hr,hl,hv,hone⟩:=agK hb (wv hσ parts.toList) w;have hr':(Instr.buildSlice t n (parts.map λx=>(x.1,σ x.2))).run P w = .ok (.slice (some ⟨w.heap.size,0,none⟩) n n) (w.alloc (.cells uo.toArray e)):=by rw[<-hr];congr 2;apply Array.ext';simp
    obtain⟨n1,n2⟩:=aiN hs hd (us:=uo) (cs:=cs) e hl hv hone;exact⟨_,_,I,_,.inl (wA hr'),.bsl _ _ _ (by simp[cg]),n2⟩
   ·cases h
 ·rename_i t l c hop;simp only[hop];split at h
  ·rename_i k n k' m e hln hcn he;split at h
   ·rename_i sz zs qR hsz hz hby
    split at h
    ·rename_i hc;obtain⟨hzl,hpos,aaP,hone⟩:=hc;simp only[cv,iw] at h;obtain⟨h1,h2,h3⟩:=h;subst h1 h2 h3;obtain⟨⟨h0,hmn⟩,hb⟩:=hp;subst hmn;obtain⟨a,rfl⟩:=Int.eq_ofNat_of_zero_le h0;simp only[Int.toNat_natCast];have hlv:=(hln ▸ hσ l).eM.1;have hcv:=(hcn ▸ hσ c).eM.1;obtain⟨z,hzr,hzc⟩:=wu hz w;obtain⟨i,z',hi,hz',hzc'⟩:=yM hz;have qX:i.bytes=qR:=by simpa[abU,hi] using hby
     have hbn:a * qR<=140737488355328:=by
      have:((a * qR:Nat):Int)<=140737488355328:=by rw[Int.natCast_mul];exact hb
      omega
     have ha:a<=140737488355328:=by have:=Nat.le_mul_of_pos_right a aaP;omega
     have hw:i64.wrap (a:Int)=a:=aro (by omega) (by omega);have ab1:((Array.range (a * sz)).map (λi=>zs.toArray[i % zs.toArray.size]!))=(List.replicate a zs).flatten.toArray:=by rw[<-hzl];exact aan zs a (by omega)
     have hall:∀x∈List.replicate a (zs.map PV.val),x.length=sz:=λx hx=>by rw[List.eq_of_mem_replicate hx];simpa using hzl
     have aCc:∀x∈List.replicate a zs,x.length=sz:=λx hx=>by rw[List.eq_of_mem_replicate hx];exact hzl
     have hfl:=bH aCc;simp only[List.length_replicate] at hfl;have hrun:(Instr.makeSlice t (.int k a) (.int k' a)).run P w = .ok (.slice (some ⟨w.heap.size,0,none⟩) a a) (w.alloc (.cells ((List.replicate a zs).flatten.toArray) e)):=by
      have aCd:¬ ((281474976710656:Int)<(qR:Int) * (a:Int)):=by
       have:(qR:Int) * (a:Int)=((a * qR:Nat):Int):=by rw[Int.natCast_mul,Int.mul_comm]
       rw[this];omega
      have hroom:∀w:World,(askRoom (a * qR)).run P w = .ok () w:=λw=>by unfold askRoom;split<;>simp[mark,Sem.run]
      by_cases hn0:a * sz=0
      ·have ha0:a=0:=by
        rcases Nat.mul_eq_zero.1 hn0 with h|h
        ·exact h
        ·omega
       subst ha0;simp only[Instr.makeSlice,Sem.run_bind,run_underlying (fB he),Result.andThen_ok,asInt,asIntOf,Sem.run_pure,typeInfo,program,Sem.run,hi,qX,hw];simp[dR hsz,askRoom,roomBytes,newRow,newObj,Sem.run];have hr0:(Array.range 0).map (λ_:Nat=>(default:Value)) = #[]:=Array.eq_empty_of_size_eq_zero (by simp);rw[hr0]
      ·simp only[Instr.makeSlice,Sem.run_bind,run_underlying (fB he),Result.andThen_ok,asInt,asIntOf,Sem.run_pure,typeInfo,program,Sem.run,hi,qX,hw];have hneg:¬ ((a:Int)<0):=by omega
       simp[aCd,hneg,hroom,newRow,newObj,Sem.run];rw[dR hsz];simp only[Result.andThen_ok];rw[if_neg hn0,hzr];simp only[Result.andThen_ok,hzc,ab1]
     have hus:∀u∈(List.replicate a zs).flatten,u.oneCell'=true:=λu hu=>by obtain⟨x,hx,hux⟩:=List.mem_flatten.1 hu;rw[List.eq_of_mem_replicate hx] at hux;exact List.all_eq_true.1 hone u hux
     have aqk:(List.replicate a (zs.map PV.val)).flatten=(List.replicate a zs).flatten.map PV.val:=by simp[List.map_flatten]
     obtain⟨n1,n2⟩:=aiO hs hd (us:=(List.replicate a zs).flatten) (es:=List.replicate a (zs.map PV.val)) (e:=e) (sz:=sz) (cap:=a) (arr:=(List.replicate a zs).flatten.toArray) (.inl rfl)
      (by simpa using hfl) (by simp only[maxLen];omega) (by rw[List.length_replicate,List.take_of_length_le (by simp only[];omega)]) hpos hall (by rw[aqk,List.length_map])
      (λj u c hu hc=>by
       rw[aqk,List.getElem?_map,hu] at hc;simp at hc;subst hc;exact .val u (hus u (List.mem_of_getElem? hu))) hus (by simp)
     rw[List.length_replicate] at n1 n2;exact⟨_,_,I,_,.inl (wA (by rw[hlv,hcv];exact hrun)),n1,n2⟩
    ·cases h
   ·cases h
  ·cases h
 ·rename_i c hop;simp only[hop];split at h
  ·rename_i t1 t2 a b hc ht ha;split at h
   ·rename_i e sz qR es hty hsrc
    simp only[cv,iw] at h;obtain⟨h1,h2,h3⟩:=h;subst h1 h2 h3;obtain⟨hb,hall⟩:=hp;have hat:c.argTypes = #[t1,t2]:=by rw[<-Array.toArray_toList (xs:=c.argTypes),ht]
    cases hca:c.args.toList with
    |nil=>simp[hca] at ha
    |cons x r =>
     cases r with
     |nil=>simp[hca] at ha
     |cons y r =>
      have hr0:r=[]:=by simpa[hca] using congrArg List.length ha
      subst hr0;have hxy:ρ x = .p (.val (.slice none 0 0))/\ρ y=b:=by simpa[hca] using ha
      have hargs:c.args = #[x,y]:=by rw[<-Array.toArray_toList (xs:=c.args),hca]
      obtain⟨rfl,hu,hpos,aaP,i,z,hi,hz,hsz,hby,hzc⟩:=nD hty;have hxe:=(hxy.1 ▸ hσ x).eM.1;have hye:eC I L (σ y) b:=hxy.2 ▸ hσ y;have avk:∀w,(do let d <-resolve σ c o.type;invoke d.target d.args:Sem Next).run P w=((Builtin.append_ #[t1,t1] o.type #[σ x,σ y]).run P w).andThen λu w'=>.ok (.value u) w':=λw=>by simp[resolve,hc,invoke,builtin,hat,hargs]
      generalize σ y=uy at hye avk;obtain⟨bo,cap,us,hys,hl,hv,hone,hm,hcap⟩:=ake hs hsrc hye
      ·subst hys;by_cases h0:es.length=0
       ·have he:es=[]:=List.length_eq_zero_iff.1 h0;subst he;have hrun:(Builtin.append_ #[t1,t1] o.type #[.slice none 0 0,.slice bo 0 cap]).run P w = .ok (.slice none 0 0) w:=by cases bo<;>simp[Builtin.append_,run_underlying hu,sizeOf,typeInfo,hi,Builtin.lenOf,Builtin.firstCells,loadCells,loadCellsFrom]
        obtain⟨n1,n2,_⟩:=aiP hs hd e hpos;exact⟨_,_,I,_,.inl (by rw[avk,hxe,List.length_nil,hrun];rfl),n1,n2⟩
       ·have hfl:=bH hall;rcases hm with rfl|⟨bb,off,rfl,hI⟩
        ·exfalso;have hz0:es.flatten.length=0:=by rw[<-hl];rfl
         rw[hfl] at hz0;rcases Nat.mul_eq_zero.1 hz0 with h|h<;>omega
        ·have hmb:es.length<=140737488355328:=by have:=Nat.le_mul_of_pos_right es.length aaP;omega
         obtain⟨cp,rest,hr,hcp,hrl,hcm⟩:=pN (P:=P) (ty:=o.type) hu hi hz hsz none ⟨bb,off,none⟩ es.length cap us w (by rw[hl,hfl]) (λj v hjv=>by
          rw[Addr.add_mid];exact hI j v hjv) (by omega) (by rw[hby];exact hb) (by omega)
         have hcz:(us++rest).toArray.size=cp * sz:=by simp only[List.size_toArray];rw[hrl,hzc,<-Nat.add_mul];congr 1;omega
         obtain⟨n1,n2⟩:=aiO (w':=w.drew.alloc (.cells (us++rest).toArray e)) hs hd (us:=us) (es:=es) (e:=e) (sz:=sz) (cap:=cp) (arr:=(us++rest).toArray) (.inr rfl) hcz hcm
          (by rw[List.take_left' (by rw[hl,hfl])]) hpos hall hl hv hone hcp
         exact⟨_,_,I,_,.inl (by rw[avk,hxe,hr];rfl),n1,n2⟩
   ·cases h
  ·cases h
 ·cases h
end Go.cq
namespace Go.cq
open Go.RowKit
variable{P:Program}{I:Mem}{L:bB}
def gZ(P:Program)(f:FuncId):Bool:=match P.funcs[f]? with
 |some fn=>fn.name != "runtime.NumGoroutine" && fn.body.isSome
 |none=>false
def aS(P:Program)(f:FuncId)(args:List PV)(Q:PV->Prop):Prop :=
 gZ P f=true/\∀ (I:Mem) (w:World) (vs:List Value),I.inW w->VRs I vs args ->
  Calls P f vs.toArray w λe w'=>∃v r I',e = .returned v/\Q r/\VR I' v r/\Below w.heap.size w w'/\I.sub I'/\I'.inW w'/\∀b,b<w.heap.size->∀o,I' b o=I b o
theorem aS.mono{f:FuncId}{args:List PV}{Q Q':PV->Prop}(h:aS P f args Q)(hq:∀r,Q r->Q' r):aS P f args Q':=⟨h.1,λI w vs hI hv=>(h.2 I w vs hI hv).mono λ_ _ ⟨v,r,I',h1,h2,h3⟩=>⟨v,r,I',h1,hq r h2,h3⟩⟩
def isVal:PV->Bool
 | .val _=>true
 |_=>false
def PV.scalar:PV->Bool
 | .val _=>true
 | .agg cs=>cs.all isVal
 | .dQ vs=>vs.all λx=>match x with
  | .val _=>true
  | .agg cs=>cs.all isVal
  |_=>false
 |_=>false
theorem VR.isVal{J:Mem}{u:Value}{x:PV}(h:VR J u x)(hx:isVal x=true):VR I u x:=by cases h<;>first|exact .val _ (by assumption)|(cases hx;done)
theorem VR.vals{J:Mem}{u:Value}{cs:List PV}(h:VR J u (.agg cs))(hx:cs.all cq.isVal=true):VR I u (.agg cs):=by
 cases h with
 |agg us _ hl hv hone=>exact .agg us cs hl (λj u c hu hc=>(hv j u c hu hc).isVal (List.all_eq_true.1 hx c (List.mem_of_getElem? hc))) hone
theorem VR.scalar{J:Mem}{u:Value}{x:PV}(h:VR J u x)(hx:x.scalar=true):VR I u x:=by
 cases x with
 |val v=>exact h.isVal rfl
 |agg cs=>exact h.vals hx
 |dQ vs =>
  cases h with
  |dQ us _ hl hv =>
   refine .dQ us vs hl λj u c hu hc=>?_
   have h1:=List.all_eq_true.1 hx c (List.mem_of_getElem? hc);have h2:=hv j u c hu hc;cases c with
   |val v=>exact h2.isVal rfl
   |agg cs=>exact h2.vals h1
   |_=>cases h1
 |_=>cases hx
def azO(L:bB)(w:World)(J:Mem):Prop:=∀id l b,L id=some l->l.has b->∀o u,w.cell? ⟨b,o,none⟩=some u->J b o=some u
def HSub(H' H:ay):Prop:=∀id c,H' id=some c->H id=some c
theorem tV(H:ay):HSub H H:=λ_ _ h=>h
def ae0(G:ay)(L:bB)(w:World)(J:Mem):Prop:=∀id ch,G id=some ch->∀l b,L id=some l->l.has b->∀o u,w.cell? ⟨b,o,none⟩=some u->J b o=some u
theorem azO.g{w:World}{J:Mem}(h:azO L w J)(G:ay):ae0 G L w J:=λid _ _=>h id
theorem qY(L:bB)(w:World):azO L w (snap w):=λ_ _ _ _ _ _ _ h=>h
theorem aCe{C:Ctx}{H:ay}{env:Env}{tm:Array Value}{w:World}(hs:gU C env H I L tm w){J:Mem}(sr:I.sub J){id v sz:Nat}{e:TypeId}{es:List (List PV)}
  (hH:H id=some (.row v e sz es)) (hJ:∀l b,L id=some l->l.has b->∀o u,w.cell? ⟨b,o,none⟩=some u->J b o=some u):∃bI,L id=some (.row v bI sz)/\VR J bI (.aV es):=by
 obtain⟨bI,us,h1,h2,h3,h4,h5,h6,h7⟩:=hs.chunk id _ hH;refine⟨bI,h1,?_⟩;have hfl:=bH h4;have hlen:us.length=es.flatten.length:=by rw[hfl];exact h2.1
 rcases h2.2 with ⟨rfl,hn⟩|⟨g,cap,cur,rfl,hb,hg,hnc,hcm,hcs,lC⟩
 ·have he:es=[]:=List.length_eq_zero_iff.1 hn;subst he;exact .aV none 0 0 [] us sz rfl (by simp) hlen (λj u c hu hc=>(h5 j u c hu hc).mono sr) h6 (.inl (List.length_eq_zero_iff.1 (by simpa using hlen))) (λ_=>⟨rfl,rfl⟩) (Nat.le_refl _)
 ·refine .aV _ _ _ es us sz rfl h4 hlen (λj u c hu hc=>(h5 j u c hu hc).mono sr) h6 (.inr ⟨g,0,rfl,λj u hu=>?_⟩) (by simp) hnc;rw[Nat.zero_add];refine hJ _ g h1 rfl j u ?_;rw[fV hg];rw[<-lC,List.getElem?_take] at hu;split at hu
  ·simpa using hu
  ·cases hu
theorem ac5{H:ay}{id bf:Nat}{r:Nat×List (List PV)}(h:cH H id bf=some r):∃ch,H id=some ch/\True:=by
 unfold cH at h;split at h
 ·rename_i hH;exact⟨_,hH,trivial⟩
 ·cases h
theorem adX{H H':ay}(h:HSub H H'){id bf:Nat}{r:Nat×List (List PV)}(hr:cH H id bf=some r):cH H' id bf=some r:=by obtain⟨ch,hch,_⟩:=ac5 hr;unfold cH at hr ⊢;rw[hch] at hr;rw[h id ch hch];exact hr
def p4(H:ay):AV->Option (PV×Bool)
 | .p x=>some (x,false)
 | .row id bf=>match H id with
  |some (.row v _ _ es)=>if v=bf then some (.aV es,true) else none
  |some (.shut v es)=>if v=bf then some (.aV es,false) else none
  |_=>none
 | .eO id bf=>match cH H id bf with
  |some (_,es)=>some (.aV es,true)
  |none=>none
 | .kI id bf i=>match nk (cH H id bf) i with
  |some l=>some (.aV l,true)
  |none=>none
 |_=>none
def eu(f:AV->Option (PV×Bool)):List AV->Option (List PV×Bool)
 | []=>some ([],false)
 |a :: r=>match f a,eu f r with
  |some (x,b),some (xs,c)=>some (x :: xs,b||c)
  |_,_=>none
def aaQ(H:ay):AV->Option (PV×Bool)
 | .ptr id off=>match H id with
  |some (.box cs)=>match eu (p4 H) cs with
   |some (ps,_)=>some (.dW ps off,true)
   |none=>none
  |_=>none
 |a=>p4 H a
def od(H:ay):AV->Option (PV×Bool)
 | .ptr id off=>match H id with
  |some (.box cs)=>match eu (aaQ H) cs with
   |some (ps,_)=>some (.dW ps off,true)
   |none=>none
  |_=>none
 |a=>p4 H a
def gA(H:ay):AV->Option (PV×Bool)
 | .agg cs=>match eu (od H) cs with
  |some (ps,b)=>some (.agg ps,b)
  |none=>none
 | .dQ cs=>match eu (od H) cs with
  |some (ps,b)=>some (.dQ ps,b)
  |none=>none
 | .ir fn fs cs=>match eu (od H) fs,eu (od H) cs with
  |some (f,b),some (c,d)=>some (.ir fn f c,b||d)
  |_,_=>none
 |a=>od H a
def adY(H:ay):AV->Option (PV×Bool)
 | .dQ cs=>match eu (gA H) cs with
  |some (ps,b)=>some (.dQ ps,b)
  |none=>none
 |a=>gA H a
def ac6(I:Mem)(L:bB)(J:Mem)(f:AV->Option (PV×Bool)):Prop:=∀u a x b,eC I L u a->f a=some (x,b)->VR J u x/\(b=false->VR I u x)
theorem ku{J:Mem}{f:AV->Option (PV×Bool)}(hf:ac6 I L J f):∀ (eR:List AV) (ps:List PV) (b:Bool),eu f eR=some (ps,b)->∀us:List Value,us.length=eR.length ->
  (∀ (j:Nat) u c,us[j]? = some u->eR[j]? = some c->eC I L u c)->us.length=ps.length/\(∀ (j:Nat) u c,us[j]? = some u->ps[j]? = some c->VR J u c)/\(b=false->∀ (j:Nat) u c,us[j]? = some u->ps[j]? = some c->VR I u c)
 | [],ps,b,h,us,hl,_=>by simp[eu] at h;obtain⟨rfl,rfl⟩:=h;exact⟨hl,by simp,by simp⟩
 |a :: r,ps,b,h,[],hl,_=>by simp at hl
 |a :: r,ps,b,h,u :: us,hl,hv=>by
  simp only[eu] at h;split at h
  ·rename_i x b1 xs b2 h1 h2;simp only[cv,iw] at h;obtain⟨rfl,rfl⟩:=h;obtain⟨k1,k2,k3⟩:=ku hf r xs b2 h2 us (by simpa using hl) (λj u c hu hc=>hv (j+1) u c hu hc);obtain⟨m1,m2⟩:=hf u a x b1 (hv 0 u a rfl rfl) h1;refine⟨by simp[k1],λj u' c hu hc=>?_,λhb j u' c hu hc=>?_⟩
   ·cases j with
    |zero=>simp at hu hc;subst hu hc;exact m1
    |succ j=>exact k2 j u' c (by simpa using hu) (by simpa using hc)
   ·have hb':b1=false/\b2=false:=by simpa using hb
    cases j with
    |zero=>simp at hu hc;subst hu hc;exact m2 hb'.1
    |succ j=>exact k3 hb'.2 j u' c (by simpa using hu) (by simpa using hc)
  ·cases h
section
variable{C:Ctx}{H G:ay}{env:Env}{tm:Array Value}{w:World}{J:Mem}
theorem ae1(hs:gU C env H I L tm w)(hG:HSub G H)(sr:I.sub J)(hJ:ae0 G L w J):ac6 I L J (p4 G):=by
 intro u a x b hu h;unfold p4 at h;split at h
 ·simp only[cv,iw] at h;obtain⟨rfl,rfl⟩:=h;exact⟨hu.nZ.mono sr,λ_=>hu.nZ⟩
 ·rename_i id bf;split at h
  ·rename_i v e sz es hH;split at h
   ·rename_i hv;simp only[cv,iw] at h;obtain⟨rfl,rfl⟩:=h;subst hv;obtain⟨bI,h1,h2⟩:=aCe hs sr (hG _ _ hH) (hJ id _ hH);cases hu with
    |row _ _ _ v1 jI sz1 hl hle hh hone=>rw[h1] at hl;simp only[cv,Loc.row.injEq] at hl;obtain⟨r1,r2,r3⟩:=hl;subst r1 r2 r3;rw[hh rfl];exact⟨h2,λhb=>by cases hb⟩
   ·cases h
  ·rename_i v es hH;split at h
   ·rename_i hv;simp only[cv,iw] at h;obtain⟨rfl,rfl⟩:=h;subst hv;obtain⟨bI,sz,h1,h2,_⟩:=hs.chunk id _ (hG _ _ hH);cases hu with
    |row _ _ _ v1 jI sz1 hl hle hh hone=>rw[h1] at hl;simp only[cv,Loc.row.injEq] at hl;obtain⟨r1,r2,r3⟩:=hl;subst r1 r2 r3;rw[hh rfl];exact⟨h2.mono sr,λ_=>h2⟩
   ·cases h
  ·cases h
 ·rename_i id bf;split at h
  ·rename_i k es hd;simp only[cv,iw] at h;obtain⟨rfl,rfl⟩:=h;obtain⟨ch,hch,hd'⟩:=ac5 hd;obtain⟨bI,sz,sz',e,e',us,di,q1,q2,q3,q4,q5,q6⟩:=jX hs (adX hG hd);cases hu with
   |eO _ _ _ v1 jI _ _ qJ n1 hl hle hh hone=>rw[q1] at hl;simp only[cv,Loc.deep.injEq] at hl;obtain⟨e1,e2,e3,e4,e5,e6⟩:=hl;subst e1 e2 e3 e4 e5 e6;rw[hh rfl];exact⟨aqj q2 q5 q6 sr λb hb=>hJ id ch hch _ b q1 hb,λhb=>by cases hb⟩
  ·cases h
 ·rename_i id bf i;split at h
  ·rename_i l hi;simp only[cv,iw] at h;obtain⟨rfl,rfl⟩:=h;cases hd:cH G id bf with
   |none=>rw[hd] at hi;cases hi
   |some ke =>
    obtain⟨k,es⟩:=ke;rw[hd] at hi;obtain⟨qS,x,hx1,hx2⟩:=xd hi;obtain⟨ch,hch,hd'⟩:=ac5 hd;obtain⟨bI,sz,sz',e,e',us,di,q1,q2,q3,q4,q5,q6⟩:=jX hs (adX hG hd);obtain⟨l',us',m1,m2,m3⟩:=q6 i x hx1;rw[hx2] at m1;simp only[cv,PV.aV.injEq] at m1;subst m1;cases hu with
    |kI _ _ _ v1 _ jI _ _ qJ n1 hl hle hh hone=>rw[q1] at hl;simp only[cv,Loc.deep.injEq] at hl;obtain⟨e1,e2,e3,e4,e5,e6⟩:=hl;subst e1 e2 e3 e4 e5 e6;rw[hh rfl];exact⟨m2.vrJ sr λb hb=>hJ id ch hch _ b q1 (.inr ⟨i,qS,hb⟩),λhb=>by cases hb⟩
  ·cases h
 ·cases h
theorem avl(hs:gU C env H I L tm w)(hG:HSub G H)(sr:I.sub J)(hJ:ae0 G L w J):ac6 I L J (aaQ G):=by
 intro u a x b hu h;unfold aaQ at h;split at h
 ·rename_i id off;split at h
  ·rename_i cs hH;split at h
   ·rename_i ps b1 hps;simp only[cv,iw] at h;obtain⟨rfl,rfl⟩:=h;obtain⟨blk,arr,e,g1,g2,g3,g4,g5,g6⟩:=hs.chunk id _ (hG _ _ hH);cases hu with
    |ptr _ b' _ hl =>
     rw[g1] at hl;simp only[cv,Loc.box.injEq] at hl;subst hl;obtain⟨k1,k2,_⟩:=ku (ae1 hs hG sr hJ) cs ps b1 hps arr.toList (by simpa using g3) (λj u c hu hc=>g4 j u c (by simpa using hu) hc);refine⟨?_,λhb=>by cases hb⟩;have:=VR.dW (I:=J) blk 0 ps arr.toList off k1 k2 (λu hu=>by
      obtain⟨j,hj⟩:=List.mem_iff_getElem?.1 hu;exact g5 j u (by simpa using hj)) (λj u hu=>by
       rw[Nat.zero_add];exact hJ id _ hH _ blk g1 rfl j u (by rw[fV g2];simpa using hu))
     rwa [Nat.zero_add] at this
   ·cases h
  ·cases h
 ·exact ae1 hs hG sr hJ u _ x b hu h
theorem yR(hs:gU C env H I L tm w)(hG:HSub G H)(sr:I.sub J)(hJ:ae0 G L w J):ac6 I L J (od G):=by
 intro u a x b hu h;unfold od at h;split at h
 ·rename_i id off;split at h
  ·rename_i cs hH;split at h
   ·rename_i ps b1 hps;simp only[cv,iw] at h;obtain⟨rfl,rfl⟩:=h;obtain⟨blk,arr,e,g1,g2,g3,g4,g5,g6⟩:=hs.chunk id _ (hG _ _ hH);cases hu with
    |ptr _ b' _ hl =>
     rw[g1] at hl;simp only[cv,Loc.box.injEq] at hl;subst hl;obtain⟨k1,k2,_⟩:=ku (avl hs hG sr hJ) cs ps b1 hps arr.toList (by simpa using g3) (λj u c hu hc=>g4 j u c (by simpa using hu) hc);refine⟨?_,λhb=>by cases hb⟩;have:=VR.dW (I:=J) blk 0 ps arr.toList off k1 k2 (λu hu=>by
      obtain⟨j,hj⟩:=List.mem_iff_getElem?.1 hu;exact g5 j u (by simpa using hj)) (λj u hu=>by
       rw[Nat.zero_add];exact hJ id _ hH _ blk g1 rfl j u (by rw[fV g2];simpa using hu))
     rwa [Nat.zero_add] at this
   ·cases h
  ·cases h
 ·exact ae1 hs hG sr hJ u _ x b hu h
theorem o8(hs:gU C env H I L tm w)(hG:HSub G H)(sr:I.sub J)(hJ:ae0 G L w J):ac6 I L J (gA G):=by
 intro u a x b hu h;unfold gA at h;split at h
 ·rename_i cs;split at h
  ·rename_i ps b1 hps;simp only[cv,iw] at h;obtain⟨rfl,rfl⟩:=h;cases hu with
   |agg us _ hl hv hone=>obtain⟨k1,k2,k3⟩:=ku (yR hs hG sr hJ) cs ps b1 hps us hl hv;exact⟨.agg us ps k1 k2 hone,λhb=>.agg us ps k1 (k3 hb) hone⟩
  ·cases h
 ·rename_i cs;split at h
  ·rename_i ps b1 hps;simp only[cv,iw] at h;obtain⟨rfl,rfl⟩:=h;cases hu with
   |dQ us _ hl hv=>obtain⟨k1,k2,k3⟩:=ku (yR hs hG sr hJ) cs ps b1 hps us hl hv;exact⟨.dQ us ps k1 k2,λhb=>.dQ us ps k1 (k3 hb)⟩
  ·cases h
 ·rename_i fn fs cs;split at h
  ·rename_i f b1 c b2 hf hc;simp only[cv,iw] at h;obtain⟨rfl,rfl⟩:=h;cases hu with
   |ir _ us vs _ _ hl hl' hv wk =>
    obtain⟨k1,k2,k3⟩:=ku (yR hs hG sr hJ) fs f b1 hf us hl hv;obtain⟨m1,m2,m3⟩:=ku (yR hs hG sr hJ) cs c b2 hc vs hl' wk;refine⟨.ir fn us vs f c k1 m1 k2 m2,λhb=>?_⟩;have hb':b1=false/\b2=false:=by simpa using hb
    exact .ir fn us vs f c k1 m1 (k3 hb'.1) (m3 hb'.2)
  ·cases h
 ·exact yR hs hG sr hJ u _ x b hu h
theorem avm(hs:gU C env H I L tm w)(hG:HSub G H)(sr:I.sub J)(hJ:ae0 G L w J):ac6 I L J (adY G):=by
 intro u a x b hu h;unfold adY at h;split at h
 ·rename_i cs;split at h
  ·rename_i ps b1 hps;simp only[cv,iw] at h;obtain⟨rfl,rfl⟩:=h;cases hu with
   |dQ us _ hl hv=>obtain⟨k1,k2,k3⟩:=ku (o8 hs hG sr hJ) cs ps b1 hps us hl hv;exact⟨.dQ us ps k1 k2,λhb=>.dQ us ps k1 (k3 hb)⟩
  ·cases h
 ·exact o8 hs hG sr hJ u _ x b hu h
end
def dI(o:Oper)(ρ:Operand->AV):Option (FuncId×List AV):=match o.op with
 | .call c=>match c.callee with
  | .value f=>match ρ f with
   | .p (.ir (.func k) fs cs)=>some (k,fs.map AV.p++c.args.toList.map ρ++cs.map AV.p)
   | .ir (.func k) fs cs=>some (k,fs++c.args.toList.map ρ++cs)
   |_=>none
  |_=>none
 |_=>none
theorem ab2{k:FuncId}(h:gZ P k=true)(args:Array Value)(w:World):(callFunc k args).run P w = .ok (.enter k args) w:=by
 unfold gZ at h;split at h
 ·rename_i fn hfn;simp only[Bool.and_eq_true,bne_iff_ne,ne_eq] at h;have hb:fn.body.isNone=false:=by
   cases hfb:fn.body with
   |none=>simp[hfb] at h
   |some c=>rfl
  have hn:(fn.name == "runtime.NumGoroutine")=false:=by simpa using h.1
  simp only[callFunc,program,Sem.run_bind,Sem.run,Result.andThen_ok,Sem.run_pure',hfn,hn,hb];try rfl
 ·cases h
theorem oU.append{us vs:List Value}{eR bs:List AV}(h:oU I L us eR)(k:oU I L vs bs):oU I L (us++vs) (eR++bs):=by
 refine⟨by simp[h.1,k.1],λj u a hu ha=>?_⟩;rw[List.getElem?_append] at hu ha;rw[h.1] at hu;split at hu
 ·rename_i hj;rw[if_pos hj] at ha;exact h.2 _ _ _ hu ha
 ·rename_i hj;rw[if_neg hj] at ha;exact k.2 _ _ _ hu ha
theorem oU.aql{us:List Value}{ps:List PV}(hl:us.length=ps.length)(h:∀ (j:Nat) u c,us[j]? = some u->ps[j]? = some c->VR I u c):oU I L us (ps.map AV.p) :=
 ⟨by simpa using hl,λj u c hu hc=>by
  rw[List.getElem?_map] at hc;cases hp:ps[j]? with
  |none=>simp[hp] at hc
  |some p=>simp[hp] at hc;subst hc;exact .p _ _ (h j u p hu hp)⟩
theorem qi{o:Oper}{ρ:Operand->AV}{k:FuncId}{eR:List AV}(h:dI o ρ=some (k,eR))(hk:gZ P k=true){σ:Operand->Value}(hσ:∀x,eC I L (σ x) (ρ x))(w:World) :
  ∃us:List Value,(execOp σ o).run P w = .ok (.enter k us.toArray) w/\oU I L us eR:=by
 unfold dI at h;split at h
 ·rename_i c hop;split at h
  ·rename_i f hc;have hf:=hσ f;have hargs:=uu (I:=I) (L:=L) hσ c.args.toList;have e1:c.args.map σ=(c.args.toList.map σ).toArray:=by apply Array.ext';simp
   unfold execOp;simp only[hop];generalize hsf:σ f=uf at hf;generalize ρ f=af at h hf;split at h
   ·rename_i k' fs cs;simp only[cv,iw] at h;obtain⟨rfl,rfl⟩:=h;cases hf.nZ with
    |ir _ us vs _ _ hl hl' hv wk=>refine⟨us++c.args.toList.map σ++vs,?_,((oU.aql hl hv).append hargs).append (oU.aql hl' wk)⟩;simp only[resolve,hc,hsf,Deferred.ofValue,Sem.run_bind,Sem.run_pure,Result.andThen_ok,invoke,ab2 hk,e1];simp
   ·rename_i k' fs cs;simp only[cv,iw] at h;obtain⟨rfl,rfl⟩:=h;cases hf with
    |ir _ us vs _ _ hl hl' hv wk=>refine⟨us++c.args.toList.map σ++vs,?_,oU.append (oU.append (show oU I L us fs from ⟨hl,hv⟩) hargs) (show oU I L vs cs from ⟨hl',wk⟩)⟩;simp only[resolve,hc,hsf,Deferred.ofValue,Sem.run_bind,Sem.run_pure,Result.andThen_ok,invoke,ab2 hk,e1];simp
   ·cases h
  ·cases h
 ·cases h
theorem aiQ{o:Oper}{ρ:Operand->AV}{k:FuncId}{eR:List AV}(h:dI o ρ=some (k,eR)){σ:Operand->Value}(hσ:∀x,eC I L (σ x) (ρ x))(w:World) :
  ∃us:List Value,(execOp σ o).run P w=(callFunc k us.toArray).run P w/\oU I L us eR:=by
 unfold dI at h;split at h
 ·rename_i c hop;split at h
  ·rename_i f hc;have hf:=hσ f;have hargs:=uu (I:=I) (L:=L) hσ c.args.toList;have e1:c.args.map σ=(c.args.toList.map σ).toArray:=by apply Array.ext';simp
   unfold execOp;simp only[hop];generalize hsf:σ f=uf at hf;generalize ρ f=af at h hf;split at h
   ·rename_i k' fs cs;simp only[cv,iw] at h;obtain⟨rfl,rfl⟩:=h;cases hf.nZ with
    |ir _ us vs _ _ hl hl' hv wk=>refine⟨us++c.args.toList.map σ++vs,?_,((oU.aql hl hv).append hargs).append (oU.aql hl' wk)⟩;simp only[resolve,hc,hsf,Deferred.ofValue,Sem.run_bind,Sem.run_pure,Result.andThen_ok,invoke,e1];simp
   ·rename_i k' fs cs;simp only[cv,iw] at h;obtain⟨rfl,rfl⟩:=h;cases hf with
    |ir _ us vs _ _ hl hl' hv wk=>refine⟨us++c.args.toList.map σ++vs,?_,oU.append (oU.append (show oU I L us fs from ⟨hl,hv⟩) hargs) (show oU I L vs cs from ⟨hl',wk⟩)⟩;simp only[resolve,hc,hsf,Deferred.ofValue,Sem.run_bind,Sem.run_pure,Result.andThen_ok,invoke,e1];simp
   ·cases h
  ·cases h
 ·cases h
def aCf(P:Program)(k:FuncId)(ps:List PV)(x:PV):Prop:=∀ (I:Mem) (w:World) (us:List Value),VRs I us ps->∃u,(callFunc k us.toArray).run P w = .ok (.value u) w/\VR I u x
def aDd(P:Program)(o:Oper)(ρ:Operand->AV)(W:PV->Prop):Prop:=∃k ps x,dI o ρ=some (k,ps.map AV.p)/\aCf P k ps x/\W x
theorem ank{o:Oper}{ρ:Operand->AV}{W:PV->Prop}(h:aDd P o ρ W){w:World}{σ:Operand->Value}(hσ:∀x,eC I L (σ x) (ρ x)) :
  ∃u x,(execOp σ o).run P w = .ok (.value u) w/\VR I u x/\W x:=by
 obtain⟨k,ps,x,h1,h2,h3⟩:=h;obtain⟨us,hr,hu⟩:=aiQ h1 hσ w;obtain⟨u,q1,q2⟩:=h2 I w us ⟨by simpa using hu.1,λj u c hj hc=>(hu.2 j u (.p c) hj (by simp[hc])).nZ⟩;exact⟨u,x,hr.trans q1,q2,h3⟩
def yS(P:Program)(o:Oper)(ρ:Operand->AV)(H:ay)(x:PV):Prop:=∃k eR ps b,dI o ρ=some (k,eR)/\eu (gA H) eR=some (ps,b)/\aS P k ps (λr=>r=x)/\(b=true->x.scalar=true)
def avn(P:Program)(o:Oper)(ρ:Operand->AV)(H:ay)(Kr:PV->Prop):Prop:=∃k eR ps b Q,dI o ρ=some (k,eR)/\eu (gA H) eR=some (ps,b)/\aS P k ps Q/\∀r,Q r->(b=true->r.scalar=true)/\Kr r
theorem xk{o:Oper}{ρ:Operand->AV}{H:ay}{x:PV}{Kr:PV->Prop}(h:yS P o ρ H x)(hk:Kr x):avn P o ρ H Kr:=by obtain⟨k,eR,ps,b,h1,h2,h3,h4⟩:=h;exact⟨k,eR,ps,b,_,h1,h2,h3,λr hr=>by subst hr;exact⟨h4,hk⟩⟩
theorem akf{o:Oper}{ρ:Operand->AV}{H:ay}{Kr:PV->Prop}(h:avn P o ρ H Kr){C:Ctx}{env:Env}{tm:Array Value}{w:World}(hs:gU C env H I L tm w){σ:Operand->Value}(hσ:∀x,eC I L (σ x) (ρ x)) :
  ∃k args,(execOp σ o).run P w = .ok (.enter k args) w/\Calls P k args w λe w'=>∃v I' x,e = .returned v/\Kr x/\VR I' v x/\Fr C I L H w I' L H w':=by
 obtain⟨k,eR,ps,b,Q,h1,h2,h3,h4⟩:=h;obtain⟨us,hr,hu⟩:=qi h1 h3.1 hσ w;refine⟨k,_,hr,?_⟩;cases b with
 |false =>
  obtain⟨k1,_,k3⟩:=ku (o8 hs (tV H) (lT hs.mem) ((qY L w).g H)) eR ps false h2 us hu.1 hu.2;refine (h3.2 I w us hs.mem ⟨k1,k3 rfl⟩).mono λe w' ⟨v,r,I',q1,q2,q3,q4,q5,q6,q7⟩=>?_
  exact⟨v,I',r,q1,(h4 r q2).2,q3,λenv tm hs=>hs.grow q4 q5 q6 q7⟩
 |true =>
  obtain⟨k1,k2,_⟩:=ku (o8 hs (tV H) (lT hs.mem) ((qY L w).g H)) eR ps true h2 us hu.1 hu.2;refine (h3.2 (snap w) w us (aeW w) ⟨k1,k2⟩).mono λe w' ⟨v,r,I',q1,q2,q3,q4,q5,q6,q7⟩=>?_
  obtain⟨m1,m2⟩:=h4 r q2;exact⟨v,I,r,q1,m2,q3.scalar (m1 rfl),λenv tm hs=>hs.world (q4.mono hs.leB) λb hb=>q4.block b hb⟩
end Go.cq
