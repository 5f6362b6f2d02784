/- Joined texts, part 1: lemmas for the statement. No condition. -/
import Derived.Calls
import Derived.Tactics
import Derived.Orders
import Derived.Below
import Derived.Laws.AppendOwn
import Derived.Deep.MidRow
import Derived.Laws.Strings
import Derived.Laws.StructEq
import Derived.IntWalk
set_option maxHeartbeats 4000000
set_option linter.unusedSimpArgs false
set_option linter.unusedVariables false
open Nat (reduceEqDiff reduceLT reduceLeDiff reduceMul reduceAdd reduceSub)
open Go.IntKind (i64)
namespace Go.bP
theorem bY{p:Prop} [Decidable p](h:decide p=true):p:=of_decide_eq_true h
theorem dm{p:Prop} [Decidable p](h:decide p=false):¬p:=of_decide_eq_false h
theorem c7{p:Prop} [Decidable p](h:p):decide p=true:=decide_eq_true h
theorem jz{p:Prop} [Decidable p](h:¬p):decide p=false:=decide_eq_false h
theorem pz{α:Type}{l:List α}{i:Nat}(h:i<l.length):l[i]∈l:=List.getElem_mem h
theorem cm{α:Type}{a b:α} : (some a=some b)=(a=b):=Option.some.injEq a b
theorem zFmS{F p:Prop}(n k:Nat)(f:F)(z:F/\(n * k<=140737488355328)=True->p)(a:n * k<=140737488355328:=by omega):p:=z ⟨f,eq_true a⟩
theorem zFdS{F p:Prop}(A:Prop)(f:F)(z:F/\A->p)(a:A:=by decide):p:=z ⟨f,a⟩
theorem gD{α β:Type}{a c:α}{b d:β} : ((a,b)=(c,d))=(a=c/\b=d):=Prod.mk.injEq a b c d
open Go.RowKit
abbrev Mem:=Nat->Nat->Option Value
def Mem.sub(I J:Mem):Prop:=∀b o u,I b o=some u->J b o=some u
def Mem.inW(I:Mem)(w:World):Prop:=∀b o u,I b o=some u->w.cell? ⟨b,o,none⟩=some u
theorem Mem.ew(I:Mem):I.sub I:=λ_ _ _ h=>h
theorem Mem.nO{I J K:Mem}(h:I.sub J)(k:J.sub K):I.sub K:=λ_ _ _ x=>k _ _ _ (h _ _ _ x)
inductive PV where
 |val (v:Value)
 |emp
 |aE (es:List (List PV))
 |fq (cs:List PV) (off:Nat)
 |agg (cs:List PV)
 |dg (vs:List PV)
 |jF (fn:Fn) (first captured:List PV)
instance:Inhabited PV:=⟨.val (.bool false)⟩
inductive VR(I:Mem):Value->PV->Prop
 |val (v:Value) (h:v.oneCell'=true):VR I v (.val v)
 |emp (ao:Option Addr):VR I (.slice ao 0 0) .emp
 | aE (ao : Option Addr) (n cap : Nat) (es : List (List PV)) (us : List Value) (sz : Nat)
   (hn:es.length=n) (hsz:∀e∈es,e.length=sz) (hl:us.length=es.flatten.length)
   (hv:∀ (j:Nat) u c,us[j]? = some u->es.flatten[j]? = some c->VR I u c)
   (hone:∀u∈us,u.oneCell'=true)
   (hm:us=[]\/∃b off,ao=some ⟨b,off,none⟩/\∀ (j:Nat) u,us[j]? = some u->I b (off+j)=some u)
   (hnil:ao=none->n=0/\cap=0) (hcap:n<=cap):VR I (.slice ao n cap) (.aE es)
 | fq (b off : Nat) (cs : List PV) (us : List Value) (o : Nat) (hl : us.length = cs.length)
   (hv:∀ (j:Nat) u c,us[j]? = some u->cs[j]? = some c->VR I u c)
   (hone:∀u∈us,u.oneCell'=true)
   (hm:∀ (j:Nat) u,us[j]? = some u->I b (off+j)=some u):VR I (.pointer (some ⟨b,off+o,none⟩)) (.fq cs o)
 | agg (us : List Value) (cs : List PV) (hl : us.length = cs.length)
   (hv:∀ (j:Nat) u c,us[j]? = some u->cs[j]? = some c->VR I u c)
   (hone:∀u∈us,u.oneCell'=true):VR I (.agg us.toArray) (.agg cs)
 | dg (us : List Value) (cs : List PV) (hl : us.length = cs.length)
   (hv:∀ (j:Nat) u c,us[j]? = some u->cs[j]? = some c->VR I u c):VR I (.tuple us.toArray) (.dg cs)
 | jF (fn : Fn) (us vs : List Value) (fs cs : List PV) (hl : us.length = fs.length) (hl' : vs.length = cs.length)
   (hv:∀ (j:Nat) u c,us[j]? = some u->fs[j]? = some c->VR I u c)
   (yz:∀ (j:Nat) u c,vs[j]? = some u->cs[j]? = some c->VR I u c):VR I (.func fn us.toArray vs.toArray) (.jF fn fs cs)
theorem VR.mono{I J:Mem}(h:I.sub J){v:Value}{p:PV}(hv:VR I v p):VR J v p:=by
 induction hv with
 |val v h1=>exact .val v h1
 |emp ao=>exact .emp ao
 |aE ao n cap es us sz hn hsz hl _ hone hm hnil hcap ih=>exact .aE ao n cap es us sz hn hsz hl ih hone (hm.imp id λ⟨b,off,e,k⟩=>⟨b,off,e,λj u hu=>h _ _ _ (k j u hu)⟩) hnil hcap
 |fq b off cs us o hl _ hone hm ih=>exact .fq b off cs us o hl ih hone λj u hu=>h _ _ _ (hm j u hu)
 |agg us cs hl _ hone ih=>exact .agg us cs hl ih hone
 |dg us cs hl _ ih=>exact .dg us cs hl ih
 |jF fn us vs fs cs hl hl' _ _ ih ih'=>exact .jF fn us vs fs cs hl hl' ih ih'
def PV.one:PV->Bool
 | .agg _ | .dg _=>false
 |_=>true
theorem VR.one{I:Mem}{v:Value}{p:PV}(h:VR I v p)(hp:p.one=true):v.oneCell'=true:=by cases h<;>first|assumption|rfl|cases hp
def PV.cells:PV->List PV
 | .agg cs=>cs
 |x=>[x]
inductive AV where
 |p (x:PV)
 |row (id aW:Nat)
 |ptr (id off:Nat)
 |iY (id aW i off:Nat)
 |agg (cs:List AV)
 |dg (vs:List AV)
 |jF (fn:Fn) (first captured:List AV)
 |kP (id aW:Nat)
 |lz (id aW i off:Nat)
 |mu (id aW i:Nat)
 |om (id aW i j off:Nat)
 |bsl (id n:Nat)
 |nP (id aW off n m sz:Nat)
 |dead
instance:Inhabited AV:=⟨.dead⟩
inductive Loc where
 |box (b:Nat)
 |row (aW:Nat) (hdr:Value) (sz:Nat)
 |deep (aW:Nat) (hdr:Value) (sz sz':Nat) (eT:Nat->Value) (n:Nat)
def Loc.blk:Loc->Option Nat
 | .box b=>some b
 | .row _ hdr _=>hdr.ownBlock
 | .deep _ hdr _ _ _ _=>hdr.ownBlock
def Loc.has:Loc->Nat->Prop
 | .box c,b=>c=b
 | .row _ hdr _,b=>hdr.ownBlock=some b
 | .deep _ hdr _ _ eT n,b=>hdr.ownBlock=some b\/∃i,i<n/\(eT i).ownBlock=some b
def zc(hdr:Value)(eT:Nat->Value)(n:Nat):List Nat:=hdr.ownBlock.toList++(List.range n).flatMap λi=>(eT i).ownBlock.toList
def Loc.ajZ:Loc->List Nat
 | .box b=>[b]
 | .row _ hdr _=>hdr.ownBlock.toList
 | .deep _ hdr _ _ eT n=>zc hdr eT n
theorem abk{hdr:Value}{eT:Nat->Value}{n b:Nat} : b∈zc hdr eT n↔hdr.ownBlock=some b\/∃i,i<n/\(eT i).ownBlock=some b:=by unfold zc;simp[List.mem_flatMap,eq_comm]
theorem Loc.aj0{l:Loc}{b:Nat} : b∈l.ajZ↔l.has b:=by
 cases l with
 |box c=>simp[Loc.ajZ,Loc.has,eq_comm]
 |row v hdr sz=>simp[Loc.ajZ,Loc.has]
 |deep v hdr sz sz' eT n=>exact abk
abbrev bg:=Nat->Option Loc
def dN(L L':bg):Prop:=∀id,match L id with
 |none=>True
 |some (.box b)=>L' id=some (.box b)
 |some (.row v hdr sz)=>∃v' fN,L' id=some (.row v' fN sz)/\v<=v'/\(v=v'->hdr=fN)
 |some (.deep v hdr sz sz' eT n)=>∃v' fN vw n',L' id=some (.deep v' fN sz sz' vw n')/\v<=v'/\(v=v'->hdr=fN/\eT=vw/\n=n')
theorem dN.refl(L:bg):dN L L:=λid=>by
 cases h:L id with
 |none=>trivial
 |some l=>cases l with
  |box b=>rfl
  |row v hdr sz=>exact⟨v,hdr,rfl,Nat.le_refl _,λ_=>rfl⟩
  |deep v hdr sz sz' eT n=>exact⟨v,hdr,eT,n,rfl,Nat.le_refl _,λ_=>⟨rfl,rfl,rfl⟩⟩
theorem dN.box{L L':bg}(h:dN L L'){id b:Nat}(hl:L id=some (.box b)):L' id=some (.box b):=by have:=h id;rw[hl] at this;exact this
theorem dN.row{L L':bg}(h:dN L L'){id v:Nat}{hdr:Value}{sz:Nat}(hl:L id=some (.row v hdr sz)) :
  ∃v' fN,L' id=some (.row v' fN sz)/\v<=v'/\(v=v'->hdr=fN):=by
 have:=h id;rw[hl] at this;exact this
theorem dN.deep{L L':bg}(h:dN L L'){id v:Nat}{hdr:Value}{sz sz':Nat}{eT:Nat->Value}{n:Nat}(hl:L id=some (.deep v hdr sz sz' eT n)) :
  ∃v' fN vw n',L' id=some (.deep v' fN sz sz' vw n')/\v<=v'/\(v=v'->hdr=fN/\eT=vw/\n=n'):=by
 have:=h id;rw[hl] at this;exact this
inductive di(I:Mem)(L:bg):Value->AV->Prop
 |p (u:Value) (x:PV) (h:VR I u x):di I L u (.p x)
 |row (u:Value) (id aW v:Nat) (hdr:Value) (sz:Nat) (hl:L id=some (.row v hdr sz)) (hle:aW<=v) (h:aW=v->u=hdr) (h1:u.oneCell'=true):di I L u (.row id aW)
 |ptr (id b off:Nat) (hl:L id=some (.box b)):di I L (.pointer (some ⟨b,off,none⟩)) (.ptr id off)
 | iY (u : Value) (id aW v i off : Nat) (hdr : Value) (sz : Nat) (hl : L id = some (.row v hdr sz)) (hle : aW ≤ v)
   (h:aW=v->∃g o n cap,hdr = .slice (some ⟨g,o,none⟩) n cap/\u = .pointer (some ⟨g,o+(i * sz+off),none⟩)) (h1:u.oneCell'=true):di I L u (.iY id aW i off)
 | agg (us : List Value) (cs : List AV) (hl : us.length = cs.length)
   (hv:∀ (j:Nat) u c,us[j]? = some u->cs[j]? = some c->di I L u c)
   (hone:∀u∈us,u.oneCell'=true):di I L (.agg us.toArray) (.agg cs)
 | dg (us : List Value) (cs : List AV) (hl : us.length = cs.length)
   (hv:∀ (j:Nat) u c,us[j]? = some u->cs[j]? = some c->di I L u c):di I L (.tuple us.toArray) (.dg cs)
 | jF (fn : Fn) (us vs : List Value) (fs cs : List AV) (hl : us.length = fs.length) (hl' : vs.length = cs.length)
   (hv:∀ (j:Nat) u c,us[j]? = some u->fs[j]? = some c->di I L u c)
   (yz:∀ (j:Nat) u c,vs[j]? = some u->cs[j]? = some c->di I L u c):di I L (.func fn us.toArray vs.toArray) (.jF fn fs cs)
 |kP (u:Value) (id aW v:Nat) (hdr:Value) (sz sz':Nat) (eT:Nat->Value) (n:Nat) (hl:L id=some (.deep v hdr sz sz' eT n)) (hle:aW<=v) (h:aW=v->u=hdr) (h1:u.oneCell'=true):di I L u (.kP id aW)
 | lz (u : Value) (id aW v i off : Nat) (hdr : Value) (sz sz' : Nat) (eT : Nat → Value) (n : Nat) (hl : L id = some (.deep v hdr sz sz' eT n)) (hle : aW ≤ v)
   (h:aW=v->∃g o m cap,hdr = .slice (some ⟨g,o,none⟩) m cap/\u = .pointer (some ⟨g,o+(i * sz+off),none⟩)) (h1:u.oneCell'=true):di I L u (.lz id aW i off)
 |mu (u:Value) (id aW v i:Nat) (hdr:Value) (sz sz':Nat) (eT:Nat->Value) (n:Nat) (hl:L id=some (.deep v hdr sz sz' eT n)) (hle:aW<=v) (h:aW=v->u=eT i) (h1:u.oneCell'=true):di I L u (.mu id aW i)
 | om (u : Value) (id aW v i j off : Nat) (hdr : Value) (sz sz' : Nat) (eT : Nat → Value) (n : Nat) (hl : L id = some (.deep v hdr sz sz' eT n)) (hle : aW ≤ v)
   (h:aW=v->∃g o m cap,eT i = .slice (some ⟨g,o,none⟩) m cap/\u = .pointer (some ⟨g,o+(j * sz'+off),none⟩)) (h1:u.oneCell'=true):di I L u (.om id aW i j off)
 |bsl (id b n:Nat) (hl:L id=some (.box b)):di I L (.slice (some ⟨b,0,none⟩) n n) (.bsl id n)
 | nP (a : Option Addr) (id aW v off n m c : Nat) (hdr : Value) (sz : Nat) (hl : L id = some (.row v hdr sz)) (hle : aW ≤ v) (hn : n ≤ m) (hm : m ≤ c) (hz : a = none → c = 0)
   (h:aW=v->∃ao k cap,hdr = .slice ao k cap/\c=cap-off/\(off<cap\/off=0->a=ao.map (·.add (off * sz)))):di I L (.slice a n c) (.nP id aW off n m sz)
 |dead (u:Value):di I L u .dead
theorem di.mono{I J:Mem}{L L':bg}(hI:I.sub J)(hL:dN L L'){u:Value}{a:AV}(h:di I L u a):di J L' u a:=by
 induction h with
 |p u x h=>exact .p u x (h.mono hI)
 |row u id aW v hdr sz hl hle h hone =>
  obtain⟨v',fN,h1,h2,h3⟩:=hL.row hl;refine .row u id aW v' fN sz h1 (Nat.le_trans hle h2) (λe=>?_) hone;have:aW=v:=by omega
  have e2:v=v':=by omega
  rw[h this,h3 e2]
 |ptr id b off hl=>exact .ptr id b off (hL.box hl)
 |iY u id aW v i off hdr sz hl hle h hone =>
  obtain⟨v',fN,h1,h2,h3⟩:=hL.row hl;refine .iY u id aW v' i off fN sz h1 (Nat.le_trans hle h2) (λe=>?_) hone;have e1:aW=v:=by omega
  have e2:v=v':=by omega
  rw[<-h3 e2];exact h e1
 |agg us cs hl _ hone ih=>exact .agg us cs hl ih hone
 |dg us cs hl _ ih=>exact .dg us cs hl ih
 |jF fn us vs fs cs hl hl' _ _ ih ih'=>exact .jF fn us vs fs cs hl hl' ih ih'
 |kP u id aW v hdr sz sz' eT n hl hle h hone =>
  obtain⟨v',fN,vw,n',h1,h2,h3⟩:=hL.deep hl;refine .kP u id aW v' fN sz sz' vw n' h1 (Nat.le_trans hle h2) (λe=>?_) hone;have e1:aW=v:=by omega
  rw[h e1,(h3 (by omega)).1]
 |lz u id aW v i off hdr sz sz' eT n hl hle h hone =>
  obtain⟨v',fN,vw,n',h1,h2,h3⟩:=hL.deep hl;refine .lz u id aW v' i off fN sz sz' vw n' h1 (Nat.le_trans hle h2) (λe=>?_) hone;have e1:aW=v:=by omega
  rw[<- (h3 (by omega)).1];exact h e1
 |mu u id aW v i hdr sz sz' eT n hl hle h hone =>
  obtain⟨v',fN,vw,n',h1,h2,h3⟩:=hL.deep hl;refine .mu u id aW v' i fN sz sz' vw n' h1 (Nat.le_trans hle h2) (λe=>?_) hone;have e1:aW=v:=by omega
  rw[h e1,(h3 (by omega)).2.1]
 |om u id aW v i j off hdr sz sz' eT n hl hle h hone =>
  obtain⟨v',fN,vw,n',h1,h2,h3⟩:=hL.deep hl;refine .om u id aW v' i j off fN sz sz' vw n' h1 (Nat.le_trans hle h2) (λe=>?_) hone;have e1:aW=v:=by omega
  rw[<- (h3 (by omega)).2.1];exact h e1
 |bsl id b n hl=>exact .bsl id b n (hL.box hl)
 |nP a id aW v off n m c hdr sz hl hle hn hm hz h =>
  obtain⟨v',fN,h1,h2,h3⟩:=hL.row hl;refine .nP a id aW v' off n m c fN sz h1 (Nat.le_trans hle h2) hn hm hz (λe=>?_);have e1:aW=v:=by omega
  rw[<-h3 (by omega)];exact h e1
 |dead u=>exact .dead u
inductive Chunk where
 |box (cs:List AV)
 |row (aW:Nat) (e:TypeId) (sz:Nat) (es:List (List PV))
 |shut (aW:Nat) (es:List (List PV))
 |tail (aW:Nat) (e:TypeId) (sz:Nat) (es:List (List PV))
 |deep (aW:Nat) (e:TypeId) (sz k:Nat) (e':TypeId) (sz':Nat) (es:List (List PV))
abbrev Env:=Nat->AV
abbrev aq:=Nat->Option Chunk
def cD(env:Env)(d:Nat)(v:AV):Env:=λt=>if t=d then v else env t
def bh(H:aq)(id:Nat)(c:Chunk):aq:=λi=>if i=id then some c else H i
def cu(L:bg)(id:Nat)(l:Loc):bg:=λi=>if i=id then some l else L i
def gU:Env:=λ_=>.dead
def cv:aq:=λ_=>none
theorem azR(env:Env)(d:Nat)(v:AV)(t:Nat):cD env d v t=if t=d then v else env t:=rfl
theorem axo(H:aq)(d:Nat)(v:Chunk)(t:Nat):bh H d v t=if t=d then some v else H t:=rfl
theorem ate(env:Env){d e:Nat}(v u:AV)(h:d≠e):cD (cD env d v) e u=cD (cD env e u) d v:=by funext t;simp only[cD];by_cases h1:t=d<;>by_cases h2:t=e<;>simp_all
theorem acV(H:aq){d e:Nat}(v u:Chunk)(h:d≠e):bh (bh H d v) e u=bh (bh H e u) d v:=by funext t;simp only[bh];by_cases h1:t=d<;>by_cases h2:t=e<;>simp_all
structure rq(w:World)(B:Nat)(I:Mem)(u:Value)(e:TypeId)(sz:Nat)(es:List (List PV))(us:List Value):Prop where
 own:w.ownsRow B e sz u es.length us
 pos:0<sz
 all:∀x∈es,x.length=sz
 val:∀ (j:Nat) u c,us[j]? = some u->es.flatten[j]? = some c->VR I u c
 one:∀u∈us,u.oneCell'=true
 free:∀b,u.ownBlock=some b->∀o,I b o=none
def su(k:Nat)(eT:Nat->Value):List (List PV)->List (List PV)
 | []=>[]
 |x :: r=>x.set k (.val (eT 0)) :: su k (λi=>eT (i+1)) r
def axp(w:World)(B:Nat)(I:Mem)(k:Nat)(e':TypeId)(sz':Nat)(eT:Nat->Value)(es:List (List PV)):Prop:=∀i x,es[i]? = some x->∃l us,x[k]? = some (.aE l)/\rq w B I (eT i) e' sz' l us/\(eT i).oneCell'=true
def aeN(hdr:Value)(eT:Nat->Value)(n:Nat):Prop:=(∀i b,i<n->(eT i).ownBlock=some b->hdr.ownBlock≠some b)/\∀i j b,i<n->j<n->(eT i).ownBlock=some b->(eT j).ownBlock=some b->i=j
theorem agZ(eT:Nat->Value):∀n:Nat,(∀i j b,i<n->j<n->(eT i).ownBlock=some b->(eT j).ownBlock=some b->i=j)->((List.range n).flatMap λi=>(eT i).ownBlock.toList).Nodup
 |0,_=>by simp
 |n+1,h=>by
  rw[List.range_succ,List.flatMap_append,List.nodup_append];refine⟨agZ eT n λi j b hi hj=>h i j b (by omega) (by omega),by cases hb:(eT n).ownBlock<;>simp[hb],λa ha b hb e=>?_⟩;subst e;obtain⟨i,hi,ha⟩:=List.mem_flatMap.1 ha;have hb':(eT n).ownBlock=some a:=by simpa using hb
  have hi':=List.mem_range.1 hi;have:=h i n a (by omega) (by omega) (by simpa using ha) hb';omega
theorem aio{hdr:Value}{eT:Nat->Value}{n:Nat}(h:aeN hdr eT n):(zc hdr eT n).Nodup:=by unfold zc;rw[List.nodup_append];refine⟨by cases hdr.ownBlock<;>simp,agZ eT n h.2,λa ha b hb e=>?_⟩;subst e;obtain⟨i,hi,hb⟩:=List.mem_flatMap.1 hb;exact h.1 i a (List.mem_range.1 hi) (by simpa using hb) (by simpa using ha)
def qx(I:Mem)(L:bg)(w:World)(B:Nat)(id:Nat):Chunk->Prop
 | .box cs => ∃ (b : Nat) (arr : Array Value) (e : TypeId), L id = some (.box b) ∧ w.heap[b]? = some (.cells arr e (0, 0)) ∧ arr.size = cs.length ∧
   (∀ (j:Nat) u c,arr[j]? = some u->cs[j]? = some c->di I L u c)/\(∀ (j:Nat) u,arr[j]? = some u->u.oneCell'=true)/\∀o,I b o=none
 | .row aW e sz es => ∃ (hdr : Value) (us : List Value), L id = some (.row aW hdr sz) ∧ w.ownsRow B e sz hdr es.length us ∧ 0 < sz ∧ (∀ x ∈ es, x.length = sz) ∧
   (∀ (j:Nat) u c,us[j]? = some u->es.flatten[j]? = some c->VR I u c)/\(∀u∈us,u.oneCell'=true)/\∀b,hdr.ownBlock=some b->∀o,I b o=none
 | .shut aW es=>∃ (hdr:Value) (sz:Nat),L id=some (.row aW hdr sz)/\VR I hdr (.aE es)/\(∀x∈es,x.length=sz)/\(es≠[]->∃g o n cap,hdr = .slice (some ⟨g,o,none⟩) n cap)
 | .tail aW e sz es => ∃ (g o cap : Nat) (arr : Array Value), L id = some (.row aW (.slice (some ⟨g, o, none⟩) es.length cap) sz) ∧ w.heap[g]? = some (.cells arr e (0, 0)) ∧ o + cap * sz ≤ arr.size ∧ es.length ≤ cap ∧ 0 < sz ∧
   (∀x∈es,x.length=sz)/\VR I (.slice (some ⟨g,o,none⟩) es.length cap) (.aE es)/\∀j,o+es.length * sz<=j->j<o+cap * sz->I g j=none
 | .deep aW e sz k e' sz' es => ∃ (hdr : Value) (us : List Value) (eT : Nat → Value), L id = some (.deep aW hdr sz sz' eT es.length) ∧ rq w B I hdr e sz (su k eT es) us ∧ hdr.oneCell' = true ∧ k < sz ∧ (∀ x ∈ es, x.length = sz) ∧
   axp w B I k e' sz' eT es/\aeN hdr eT es.length
structure Ctx where
 w0:World
 I0:Mem
 n:Nat
 B:Nat
 amN:Nat->Prop
 L0:bg
 hB:B<=w0.heap.size
 hL0:∀i l,L0 i=some l->1000000<=i
def Ctx.of(w:World)(I:Mem)(n:Nat):Ctx:=⟨w,I,n,w.heap.size,λ_=>False,λ_=>none,Nat.le_refl _,λ_ _ h=>by cases h⟩
structure fV(C:Ctx)(env:Env)(H:aq)(I:Mem)(L:bg)(tmps:Array Value)(w:World):Prop where
 below:Below C.B C.w0 w
 mem:I.inW w
 mw:C.I0.sub I
 m8:∀b,b<C.w0.heap.size->¬ C.amN b->∀o,I b o=C.I0 b o
 frame:∀b,b<C.w0.heap.size->¬ C.amN b->w.heap[b]? = C.w0.heap[b]?
 loc:dN C.L0 L
 j9:∀id l b,L id=some l->l.has b->C.w0.heap.size<=b\/C.amN b
 size:tmps.size=C.n
 env:∀t,di I L (tmps.getD t undef) (env t)
 dom:∀id l,L id=some l->∃ch,H id=some ch
 chunk:∀id ch,H id=some ch->qx I L w C.B id ch
 fO:∀id l b,L id=some l->l.has b->C.B<=b/\b<w.heap.size
 apart:∀i j li lj b,L i=some li->L j=some lj->li.has b->lj.has b->i=j
theorem fV.leB{C:Ctx}{env:Env}{H:aq}{I:Mem}{L:bg}{tmps:Array Value}{w:World}(h:fV C env H I L tmps w):C.B<=w.heap.size:=Nat.le_trans C.hB h.below.size
theorem dN.trans{L L1 L2:bg}(h:dN L L1)(k:dN L1 L2):dN L L2:=λid=>by
 cases hL:L id with
 |none=>trivial
 |some l =>
  cases l with
  |box b=>exact k.box (h.box hL)
  |row v hdr sz =>
   obtain⟨v1,m9,k1,k2,k3⟩:=h.row hL;obtain⟨v2,azS,m1,m2,m3⟩:=k.row k1;exact⟨v2,azS,m1,Nat.le_trans k2 m2,λe=>by
    have e1:v=v1:=by omega
    have e2:v1=v2:=by omega
    rw[k3 e1,m3 e2]⟩
  |deep v hdr sz sz' eT n =>
   obtain⟨v1,m9,aeO,n1,k1,k2,k3⟩:=h.deep hL;obtain⟨v2,azS,aDY,n2,m1,m2,m3⟩:=k.deep k1;exact⟨v2,azS,aDY,n2,m1,Nat.le_trans k2 m2,λe=>by
    have e1:v=v1:=by omega
    have e2:v1=v2:=by omega
    obtain⟨a1,a2,a3⟩:=k3 e1;obtain⟨b1,b2,b3⟩:=m3 e2;exact⟨a1.trans b1,a2.trans b2,a3.trans b3⟩⟩
theorem Mem.inW.keep{I:Mem}{w w':World}(h:I.inW w)(hk:∀b,(∃o u,I b o=some u)->w'.heap[b]? = w.heap[b]?):I.inW w':=λb o u hu=>by have:=h b o u hu;rw[World.cell?_of_block (w:=w) (hk b ⟨o,u,hu⟩)];exact this
theorem Mem.inW.lt{I:Mem}{w:World}(h:I.inW w){b o:Nat}{u:Value}(hu:I b o=some u):b<w.heap.size:=World.block_lt_of_cell? w ⟨b,o,none⟩ (h b o u hu)
theorem vV{w w':World}{B:Nat}{e:TypeId}{sz:Nat}{v:Value}{n:Nat}{xs:List Value}(h:w.ownsRow B e sz v n xs)
  (hk:∀b,v.ownBlock=some b->w'.heap[b]? = w.heap[b]?):w'.ownsRow B e sz v n xs:=by
 refine⟨h.1,?_⟩;rcases h.2 with hn|⟨g,cap,cur,rfl,hb,hgg,rest⟩
 ·exact .inl hn
 ·refine .inr ⟨g,cap,cur,rfl,hb,?_,rest⟩;rw[hk g rfl];exact hgg
theorem rq.keep{I I':Mem}{w w':World}{B:Nat}{u:Value}{e:TypeId}{sz:Nat}{es:List (List PV)}{us:List Value}(h:rq w B I u e sz es us)(hI:I.sub I')
  (hk:∀b,u.ownBlock=some b->w'.heap[b]? = w.heap[b]?/\∀o,I' b o=I b o):rq w' B I' u e sz es us :=
 ⟨vV h.own λb hb=>(hk b hb).1,h.pos,h.all,λj u c hu hc=>(h.val j u c hu hc).mono hI,h.one,λb hb o=>by rw[(hk b hb).2];exact h.free b hb o⟩
theorem kC(k:Nat):∀ (eT:Nat->Value) (es:List (List PV)),(su k eT es).length=es.length
 |_,[]=>rfl
 |eT,x :: r=>by simp[su,kC k _ r]
theorem acW(k:Nat):∀ (eT:Nat->Value) (es:List (List PV)) (i:Nat),(su k eT es)[i]? = es[i]?.map λx=>x.set k (.val (eT i))
 |_,[],i=>by simp[su]
 |eT,x :: r,0=>by simp[su]
 |eT,x :: r,i+1=>by simp[su,acW k _ r i]
theorem qx.keep{I I':Mem}{L L':bg}{w w':World}{B id:Nat}{ch:Chunk}(h:qx I L w B id ch)(hI:I.sub I')(hL:dN L L')
  (hid:L' id=L id) (hk:∀l b,L id=some l->l.has b->w'.heap[b]? = w.heap[b]?/\∀o,I' b o=I b o):qx I' L' w' B id ch:=by
 cases ch with
 |box cs=>obtain⟨b,arr,e,h1,h2,h3,h4,h5,h6⟩:=h;obtain⟨k1,k2⟩:=hk _ b h1 rfl;exact⟨b,arr,e,hid.trans h1,k1.trans h2,h3,λj u c hu hc=>(h4 j u c hu hc).mono hI hL,h5,λo=>by rw[k2];exact h6 o⟩
 |row aW e sz es =>
  obtain⟨hdr,us,h1,h2,h3,h4,h5,h6,h7⟩:=h;exact⟨hdr,us,hid.trans h1,vV h2 λb hb=>(hk _ b h1 hb).1,h3,h4,λj u c hu hc=>(h5 j u c hu hc).mono hI,h6,
   λb hb o=>by rw[(hk _ b h1 hb).2];exact h7 b hb o⟩
 |shut aW es=>obtain⟨hdr,sz,h1,h2,h3⟩:=h;exact⟨hdr,sz,hid.trans h1,h2.mono hI,h3⟩
 |tail aW e sz es=>obtain⟨g,o,cap,arr,h1,h2,h3,h4,h5,h6,h7,h8⟩:=h;obtain⟨k1,k2⟩:=hk _ g h1 rfl;exact⟨g,o,cap,arr,hid.trans h1,k1.trans h2,h3,h4,h5,h6,h7.mono hI,λj a b=>by rw[k2];exact h8 j a b⟩
 |deep aW e sz k e' sz' es=>obtain⟨hdr,us,eT,h1,h2,h3,h4,h5,h6,h7⟩:=h;refine⟨hdr,us,eT,hid.trans h1,h2.keep hI λb hb=>hk _ b h1 (.inl hb),h3,h4,h5,λi x hx=>?_,h7⟩;obtain⟨l,us',q1,q2,q3⟩:=h6 i x hx;exact⟨l,us',q1,q2.keep hI λb hb=>hk _ b h1 (.inr ⟨i,(List.getElem?_eq_some_iff.1 hx).1,hb⟩),q3⟩
theorem fV.world{C:Ctx}{env:Env}{H:aq}{I:Mem}{L:bg}{tmps:Array Value}{w w':World}(h:fV C env H I L tmps w)
  (hb:Below C.B w w') (hk:∀b,b<w.heap.size->w'.heap[b]? = w.heap[b]?):fV C env H I L tmps w' where
 below:=h.below.trans hb
 mem:=h.mem.keep λb ⟨o,u,hu⟩=>hk b (h.mem.lt hu)
 mw:=h.mw
 m8:=h.m8
 frame:=λb hb hl=>(hk b (Nat.lt_of_lt_of_le hb h.below.size)).trans (h.frame b hb hl)
 loc:=h.loc
 j9:=h.j9
 size:=h.size
 env:=h.env
 dom:=h.dom
 chunk:=λid ch hch=>(h.chunk id ch hch).keep (Mem.ew I) (dN.refl L) rfl λl b hl hlb=>⟨hk b (h.fO id l b hl hlb).2,λ_=>rfl⟩
 fO:=λid l b hl hlb=>⟨(h.fO id l b hl hlb).1,Nat.lt_of_lt_of_le (h.fO id l b hl hlb).2 hb.size⟩
 apart:=h.apart
theorem fV.grow{C:Ctx}{env:Env}{H:aq}{I I':Mem}{L:bg}{tmps:Array Value}{w w':World}(h:fV C env H I L tmps w)
  (hb:Below w.heap.size w w') (hI:I.sub I') (hw:I'.inW w') (hn:∀b,b<w.heap.size->∀o,I' b o=I b o):fV C env H I' L tmps w' where
 below:=h.below.trans (hb.mono h.leB)
 mem:=hw
 mw:=Mem.nO h.mw hI
 m8:=λb hlt hl o=>by rw[hn b (Nat.lt_of_lt_of_le hlt h.below.size)];exact h.m8 b hlt hl o
 frame:=λb hlt hl=>(hb.block b (Nat.lt_of_lt_of_le hlt h.below.size)).trans (h.frame b hlt hl)
 loc:=h.loc
 j9:=h.j9
 size:=h.size
 env:=λt=>(h.env t).mono hI (dN.refl L)
 dom:=h.dom
 chunk:=λid ch hch=>(h.chunk id ch hch).keep hI (dN.refl L) rfl λl b hl hlb=>⟨hb.block b (h.fO id l b hl hlb).2,hn b (h.fO id l b hl hlb).2⟩
 fO:=λid l b hl hlb=>⟨(h.fO id l b hl hlb).1,Nat.lt_of_lt_of_le (h.fO id l b hl hlb).2 hb.size⟩
 apart:=h.apart
theorem atf(tmps:Array Value)(d t:Nat)(v:Value)(hd:d<tmps.size):(tmps.setIfInBounds d v).getD t undef=if t=d then v else tmps.getD t undef:=by
 by_cases h:t=d
 ·subst h;simp[hd]
 ·have h':d≠t:=λe=>h e.symm
  simp[Array.getElem?_setIfInBounds,h,h']
theorem fV.put{C:Ctx}{env:Env}{H:aq}{I:Mem}{L:bg}{tmps:Array Value}{w:World}(h:fV C env H I L tmps w)
  {d:Nat} {v:Value} {a:AV} (hd:d<C.n) (ha:di I L v a):fV C (cD env d a) H I L (tmps.setIfInBounds d v) w :=
 {h with
  size:=by simpa using h.size
  env:=λt=>by
   rw[atf _ _ _ _ (by rw[h.size];exact hd)];unfold cD;split
   ·exact ha
   ·exact h.env t }
theorem dN.vW{L:bg}{id:Nat}(h:L id=none)(l:Loc):dN L (cu L id l):=λi=>by
 by_cases hi:i=id
 ·subst hi;rw[h];trivial
 ·have:cu L id l i=L i:=by simp[cu,hi]
  rw[this];exact dN.refl L i
theorem fV.tr{C:Ctx}{env:Env}{H:aq}{I:Mem}{L:bg}{tmps:Array Value}{w:World}(h:fV C env H I L tmps w){id:Nat}(hid:H id=none):L id=none:=by
 cases hL:L id with
 |none=>rfl
 |some l=>obtain⟨ch,hch⟩:=h.dom id l hL;rw[hid] at hch;cases hch
theorem aeB{I:Mem}{w:World}(h:I.inW w)(o:Nat):I w.heap.size o=none:=by
 cases hI:I w.heap.size o with
 |none=>rfl
 |some u=>exact absurd (h.lt hI) (Nat.lt_irrefl _)
theorem fV.new{C:Ctx}{env:Env}{H:aq}{I:Mem}{L:bg}{tmps:Array Value}{w w':World}(h:fV C env H I L tmps w)
  (hb:Below C.B w w') (hk:∀b,b<w.heap.size->w'.heap[b]? = w.heap[b]?) {id:Nat} (hid:H id=none) (l:Loc) (ch:Chunk)
  (hch:qx I (cu L id l) w' C.B id ch) (hl:∀b,l.has b->w.heap.size<=b/\b<w'.heap.size):fV C env (bh H id ch) I (cu L id l) tmps w':=by
 have hL:=h.tr hid;have hle:=dN.vW hL l;have hw:=h.world hb hk;exact
 {hw with
  env:=λt=>(h.env t).mono (Mem.ew I) hle
  dom:=λi li hi=>by
   by_cases e:i=id
   ·exact⟨ch,by simp[bh,e]⟩
   ·obtain⟨c,hc⟩:=h.dom i li (by simpa[cu,e] using hi);exact⟨c,by simpa[bh,e] using hc⟩
  chunk:=λi c hc=>by
   by_cases e:i=id
   ·subst e;have:ch=c:=by simpa[bh] using hc
    subst this;exact hch
   ·exact (hw.chunk i c (by simpa[bh,e] using hc)).keep (Mem.ew I) hle (by simp[cu,e]) λ_ _ _ _=>⟨rfl,λ_=>rfl⟩
  loc:=hw.loc.trans hle
  j9:=λi li b hi hlb=>by
   by_cases e:i=id
   ·subst e;have:l=li:=by simpa[cu] using hi
    subst this;exact .inl (Nat.le_trans h.below.size (hl b hlb).1)
   ·exact hw.j9 i li b (by simpa[cu,e] using hi) hlb
  fO:=λi li b hi hlb=>by
   by_cases e:i=id
   ·subst e;have:l=li:=by simpa[cu] using hi
    subst this;exact⟨Nat.le_trans h.leB (hl b hlb).1,(hl b hlb).2⟩
   ·exact hw.fO i li b (by simpa[cu,e] using hi) hlb
  apart:=λi j li lj b hi hj u5 xg=>by
   by_cases ei:i=id<;>by_cases ej:j=id
   ·rw[ei,ej]
   ·subst ei;have:l=li:=by simpa[cu] using hi
    subst this;have h1:=hl b u5;have h2:=h.fO j lj b (by simpa[cu,ej] using hj) xg;omega
   ·subst ej;have:l=lj:=by simpa[cu] using hj
    subst this;have h1:=hl b xg;have h2:=h.fO i li b (by simpa[cu,ei] using hi) u5;omega
   ·exact h.apart i j li lj b (by simpa[cu,ei] using hi) (by simpa[cu,ej] using hj) u5 xg }
theorem fV.turn{C:Ctx}{env:Env}{H:aq}{I:Mem}{L:bg}{tmps:Array Value}{w w':World}(h:fV C env H I L tmps w)
  (hb:Below C.B w w') {id:Nat} {l l':Loc} (hl:L id=some l) (hk:∀b,b<w.heap.size->¬ l.has b->w'.heap[b]? = w.heap[b]?)
  (hle:dN L (cu L id l')) (hfree:∀b,l.has b->∀o,I b o=none) (ch:Chunk)
  (hch:qx I (cu L id l') w' C.B id ch) (hl':∀b,l'.has b->l.has b\/(w.heap.size<=b/\b<w'.heap.size)):fV C env (bh H id ch) I (cu L id l') tmps w' where
 below:=h.below.trans hb
 mem:=h.mem.keep λb ⟨o,u,hu⟩=>hk b (h.mem.lt hu) λe=>by rw[hfree b e o] at hu;cases hu
 mw:=h.mw
 m8:=h.m8
 frame:=λb hlt hf=>by
  have hlt':=Nat.lt_of_lt_of_le hlt h.below.size;refine (hk b hlt' λe=>?_).trans (h.frame b hlt hf);rcases h.j9 id l b hl e with h1|h1
  ·omega
  ·exact hf h1
 loc:=h.loc.trans hle
 j9:=λi li b hi hlb=>by
  by_cases e:i=id
  ·subst e;have:l'=li:=by simpa[cu] using hi
   subst this;rcases hl' b hlb with k|k
   ·exact h.j9 i l b hl k
   ·exact .inl (Nat.le_trans h.below.size k.1)
  ·exact h.j9 i li b (by simpa[cu,e] using hi) hlb
 size:=h.size
 env:=λt=>(h.env t).mono (Mem.ew I) hle
 dom:=λi li hi=>by
  by_cases e:i=id
  ·exact⟨ch,by simp[bh,e]⟩
  ·obtain⟨c,hc⟩:=h.dom i li (by simpa[cu,e] using hi);exact⟨c,by simpa[bh,e] using hc⟩
 chunk:=λi c hc=>by
  by_cases e:i=id
  ·subst e;have:ch=c:=by simpa[bh] using hc
   subst this;exact hch
  ·refine (h.chunk i c (by simpa[bh,e] using hc)).keep (Mem.ew I) hle (by simp[cu,e]) λli b hi u5=>⟨hk b (h.fO i li b hi u5).2 λeb=>e (h.apart i id li l b hi hl u5 eb),λ_=>rfl⟩
 fO:=λi li b hi hlb=>by
  by_cases e:i=id
  ·subst e;have:l'=li:=by simpa[cu] using hi
   subst this;rcases hl' b hlb with k|k
   ·exact⟨(h.fO i l b hl k).1,Nat.lt_of_lt_of_le (h.fO i l b hl k).2 hb.size⟩
   ·exact⟨Nat.le_trans h.leB k.1,k.2⟩
  ·have:=h.fO i li b (by simpa[cu,e] using hi) hlb;exact⟨this.1,Nat.lt_of_lt_of_le this.2 hb.size⟩
 apart:=λi j li lj b hi hj u5 xg=>by
  by_cases ei:i=id<;>by_cases ej:j=id
  ·rw[ei,ej]
  ·subst ei;have:l'=li:=by simpa[cu] using hi
   subst this;have h2:=h.fO j lj b (by simpa[cu,ej] using hj) xg;rcases hl' b u5 with k|k
   ·exact h.apart i j l lj b hl (by simpa[cu,ej] using hj) k xg
   ·omega
  ·subst ej;have:l'=lj:=by simpa[cu] using hj
   subst this;have h2:=h.fO i li b (by simpa[cu,ei] using hi) u5;rcases hl' b xg with k|k
   ·exact h.apart i j li l b (by simpa[cu,ei] using hi) hl u5 k
   ·omega
  ·exact h.apart i j li lj b (by simpa[cu,ei] using hi) (by simpa[cu,ej] using hj) u5 xg
def cW(P:Program)(t:TypeId):Option TypeId:=match P.underlying t with|some (.slice e)=>some e|_=>none
def bf(P:Program)(t:TypeId):Option Nat:=(P.info? t).map (·.size)
def u6(P:Program)(t:TypeId):Option Nat:=(P.info? t).map (·.bytes)
def dn(P:Program)(t:TypeId):Option (List Value):=(P.info? t).bind λi=>i.zero.map λz=>z.cells.toList
def fP(P:Program)(t:TypeId):Option Bool:=(P.underlying t).map (·.isRow)
def bt(P:Program)(s:TypeId)(k:Nat):Option (Nat×Nat):=match P.underlying s with
 |some (.struct fs)=>(fs[k]?).bind λf=>(bf P f.type).map λn=>(f.offset,n)
 |_=>none
def aj1(P:Program)(t:TypeId):Option (Nat×TypeId):=match P.underlying t with|some (.array n e)=>some (n,e)|_=>none
def ag0(P:Program)(t:TypeId):Option IntKind:=match P.underlying t with|some (.int k)=>some k|_=>none
def ze(P:Program)(t:TypeId):Bool:=match P.underlying t with|some .string=>true|_=>false
def zf(v:Value):AV:=match v with
 | .agg cs=>if cs.toList.all (·.oneCell') then .p (.agg (cs.toList.map PV.val)) else .dead
 | .tuple _=>.dead
 |v=>.p (.val v)
def ev(env:Env):Operand->AV
 | .tmp t=>env t
 | .const v=>zf v
 | .global _=>.dead
 | .func f=>.p (.jF (.func f) [] [])
theorem aip(I:Mem)(L:bg)(v:Value):di I L v (zf v):=by
 unfold zf;split
 ·rename_i cs;split
  ·rename_i h;rw[List.all_eq_true] at h;have:=VR.agg (I:=I) cs.toList (cs.toList.map PV.val) (by simp) (λj u c hu hc=>by
    rw[List.getElem?_map,hu] at hc;simp at hc;subst hc;exact .val u (h u (List.mem_of_getElem? hu))) h
   exact .p _ _ (by simpa using this)
  ·exact .dead _
 ·exact .dead _
 ·rename_i h1 h2;refine .p _ _ (.val _ ?_);cases v with
  |agg cs=>exact (h1 _ rfl).elim
  |tuple cs=>exact (h2 _ rfl).elim
  |_=>rfl
theorem pE{C:Ctx}{env:Env}{H:aq}{I:Mem}{L:bg}{tmps:Array Value}{w:World}(h:fV C env H I L tmps w)(ds:List Deferred)(x:Operand) :
  di I L ((⟨tmps,ds⟩:Act).eval x) (ev env x):=by
 cases x with
 |tmp t=>exact h.env t
 |const v=>exact aip I L v
 |global g=>exact .dead _
 |func f=>exact .p _ _ (.jF (.func f) [] [] [] [] rfl rfl (by simp) (by simp))
def uN:List AV->Option (List PV)
 | []=>some []
 | .p x :: r=>match uN r with|some ps=>some (x :: ps)|none=>none
 |_ :: _=>none
theorem sZ:∀ {cs:List AV} {ps:List PV},uN cs=some ps->cs=ps.map AV.p
 | [],ps,h=>by simp[uN] at h;subst h;rfl
 |a :: r,ps,h=>by
  cases a<;>simp[uN] at h
  rename_i x;split at h
  ·rename_i qs hq;simp at h;subst h;simp[sZ hq]
  ·simp at h
def yA(cs:List AV):AV:=match uN cs with|some ps=>.p (.agg ps)|none=>.agg cs
def oo:AV->Bool
 | .p x=>x.one
 | .row _ _ | .ptr _ _ | .iY _ _ _ _ | .jF _ _ _ | .kP _ _ | .lz _ _ _ _ | .mu _ _ _ | .om _ _ _ _ _ | .bsl _ _ | .nP _ _ _ _ _ _=>true
 |_=>false
theorem di.one{I:Mem}{L:bg}{u:Value}{a:AV}(h:di I L u a)(ha:oo a=true):u.oneCell'=true:=by cases h<;>first|assumption|rfl|(cases ha;done)|exact VR.one (by assumption) ha
theorem di.nc{I:Mem}{L:bg}{u:Value}{x:PV}(h:di I L u (.p x)):VR I u x:=by cases h;assumption
theorem u7{I:Mem}{L:bg}{us:List Value}{cs:List AV}(hl:us.length=cs.length)
  (hv:∀ (j:Nat) u c,us[j]? = some u->cs[j]? = some c->di I L u c) (hone:∀u∈us,u.oneCell'=true):di I L (.agg us.toArray) (yA cs):=by
 unfold yA;split
 ·rename_i ps h;have e:=sZ h;subst e;refine .p _ _ (.agg us ps (by simpa using hl) (λj u c hu hc=>?_) hone);exact (hv j u (.p c) hu (by rw[List.getElem?_map,hc];rfl)).nc
 ·exact .agg us cs hl hv hone
def bO:AV->List AV
 | .agg cs=>cs
 | .p (.agg cs)=>cs.map AV.p
 |x=>[x]
def splice{α:Type}(cs:List α)(off:Nat)(new:List α):List α:=cs.take off++new++cs.drop (off+new.length)
theorem gV{α:Type}{cs:List α}{off:Nat}{new:List α}(h:off+new.length<=cs.length):(splice cs off new).length=cs.length:=by simp[splice];omega
theorem abl{α β:Type}{R:α->β->Prop}{us:List α}{cs:List β}{off:Nat}{un:List α}{cn:List β}(hl:us.length=cs.length)(hn:un.length=cn.length)
  (hv:∀ (j:Nat) u c,us[j]? = some u->cs[j]? = some c->R u c) (hw:∀ (j:Nat) u c,un[j]? = some u->cn[j]? = some c->R u c) :
  ∀ (j:Nat) u c,(splice us off un)[j]? = some u->(splice cs off cn)[j]? = some c->R u c:=by
 intro j u c hu hc;unfold splice at hu hc;simp only[List.append_assoc,List.getElem?_append,List.length_take,hl,List.getElem?_take,List.getElem?_drop,hn] at hu hc;split at hu
 ·rename_i h1;rw[if_pos h1] at hc;split at hu
  ·rename_i h2;rw[if_pos h2] at hc;exact hv _ _ _ hu hc
  ·cases hu
 ·rename_i h1;rw[if_neg h1] at hc;split at hu
  ·rename_i h2;rw[if_pos h2] at hc;exact hw _ _ _ hu hc
  ·rename_i h2;rw[if_neg h2] at hc;exact hv _ _ _ hu hc
theorem di.cells{I:Mem}{L:bg}{u:Value}{a:AV}(h:di I L u a)(hd:∀c∈bO a,oo c=true) :
  ∃us:List Value,u.cells=us.toArray/\us.length=(bO a).length/\(∀ (j:Nat) u c,us[j]? = some u->(bO a)[j]? = some c->di I L u c):=by
 have single:(bO a=[a])->u.cells = #[u]->∃us:List Value,u.cells=us.toArray/\us.length=(bO a).length/\(∀ (j:Nat) u c,us[j]? = some u->(bO a)[j]? = some c->di I L u c):=by
  intro h1 h2;refine⟨[u],h2,by simp[h1],λj v c hv hc=>?_⟩;rw[h1] at hc;cases j with
  |zero=>simp at hv hc;subst hv;subst hc;exact h
  |succ j=>simp at hv
 cases h with
 |p _ x hx =>
  cases hx with
  |val v h1=>exact single rfl (by cases u<;>first|rfl|cases h1)
  |emp=>exact single rfl rfl
  |aE=>exact single rfl rfl
  |fq=>exact single rfl rfl
  |agg us cs hl hv hone =>
   exact⟨us,rfl,by simp[bO,hl],λj u c hu hc=>by
    simp only[bO,List.getElem?_map] at hc;cases hcj:cs[j]? with
    |none=>simp[hcj] at hc
    |some c'=>simp[hcj] at hc;subst hc;exact .p _ _ (hv j u c' hu hcj)⟩
  |dg us cs hl hv=>simp[bO,oo,PV.one] at hd
  |jF=>exact single rfl rfl
 |row _ id aW v hdr sz hl hle hh h1=>exact single rfl (by cases u<;>first|rfl|cases h1)
 |ptr=>exact single rfl rfl
 |iY _ id aW v i off hdr sz hl hle hh h1=>exact single rfl (by cases u<;>first|rfl|cases h1)
 |bsl=>exact single rfl rfl
 |nP=>exact single rfl rfl
 |kP _ _ _ _ _ _ _ _ _ _ _ _ h1=>exact single rfl (by cases u<;>first|rfl|cases h1)
 |lz _ _ _ _ _ _ _ _ _ _ _ _ _ _ h1=>exact single rfl (by cases u<;>first|rfl|cases h1)
 |mu _ _ _ _ _ _ _ _ _ _ _ _ _ h1=>exact single rfl (by cases u<;>first|rfl|cases h1)
 |om _ _ _ _ _ _ _ _ _ _ _ _ _ _ _ h1=>exact single rfl (by cases u<;>first|rfl|cases h1)
 |agg us cs hl hv hone=>exact⟨us,rfl,hl,hv⟩
 |dg us cs hl hv=>simp[bO,oo] at hd
 |jF=>exact single rfl rfl
 |dead=>simp[bO,oo] at hd
variable{P:Program}
theorem gW{w:World}{b:Nat}{arr:Array Value}{e:TypeId}{f:Nat×Nat}(h:w.heap[b]? = some (.cells arr e f))(j:Nat):w.cell? ⟨b,j,none⟩=arr[j]?:=by simp[World.cell?,h]
def ry(P:Program)(t:TypeId)(cs:List AV)(off:Nat):Option AV:=match fP P t with
 |some true=>match bf P t with
  |some n=>if off+n<=cs.length then some (yA ((cs.drop off).take n)) else none
  |none=>none
 |some false=>cs[off]?
 |none=>none
def sx(P:Program)(t:TypeId)(cs:List PV)(off:Nat):Option PV:=match fP P t with
 |some true=>match bf P t with
  |some n=>if off+n<=cs.length then some (.agg ((cs.drop off).take n)) else none
  |none=>none
 |some false=>cs[off]?
 |none=>none
theorem xj{t:TypeId}{g:Bool}(h:fP P t=some g):∃d,P.underlying t=some d/\d.isRow=g:=by
 unfold fP at h;cases hu:P.underlying t with
 |none=>simp[hu] at h
 |some d=>exact⟨d,rfl,by simpa[hu] using h⟩
theorem aej{t:TypeId}{d:TypeDesc}(hu:P.underlying t=some d)(hd:d.isRow=false)(w:World)(a:Addr){u:Value}(hc:w.cell? a=some u) :
  (loadVar t a).run P w = .ok u w:=by
 have azT:(isAgg t).run P w = .ok false w:=by unfold isAgg;rw[Sem.run_bind,run_underlying hu w];cases d<;>simp_all
 simp[loadVar,Sem.run_bind,azT,load,Sem.run,hc]
theorem aax{I:Mem}{L:bg}{w:World}{t:TypeId}{b base off:Nat}{us:List Value}{cs:List AV}{v:AV}(h:ry P t cs off=some v)
  (hl:us.length=cs.length) (hv:∀ (j:Nat) u c,us[j]? = some u->cs[j]? = some c->di I L u c) (h1:∀u∈us,u.oneCell'=true)
  (hm:∀ (j:Nat) u,us[j]? = some u->w.cell? ⟨b,base+j,none⟩=some u) :
  ∃u,(loadVar t ⟨b,base+off,none⟩).run P w = .ok u w/\di I L u v:=by
 unfold ry at h;split at h
 ·rename_i hg;obtain⟨d,hu,hd⟩:=xj hg;split at h
  ·rename_i n hn;split at h
   ·rename_i hle;simp at h;subst h;have hlen:((us.drop off).take n).length=n:=by simp;omega
    refine⟨_,run_loadVar_mid w b (base+off) t ((us.drop off).take n) d (λj u hu=>?_) hu hd ?_,u7 ?_ ?_ ?_⟩
    ·rw[List.getElem?_take] at hu;split at hu
     ·rw[List.getElem?_drop] at hu;rw[Nat.add_assoc];exact hm _ u hu
     ·cases hu
    ·rw[hlen];exact hn
    ·simp[hl]
    ·intro j u c hu hc;rw[List.getElem?_take] at hu hc;split at hu
     ·rename_i hj;rw[if_pos hj] at hc;rw[List.getElem?_drop] at hu hc;exact hv _ u c hu hc
     ·cases hu
    ·intro u hu;exact h1 u (List.mem_of_mem_drop (List.mem_of_mem_take hu))
   ·simp at h
  ·simp at h
 ·rename_i hg;obtain⟨d,hu,hd⟩:=xj hg;have hlt:off<cs.length:=(List.getElem?_eq_some_iff.1 h).1;have hs:us[off]? = some (us[off]'(by omega)):=by simp
  exact⟨_,aej hu hd w _ (hm off _ hs),hv off _ _ hs h⟩
 ·simp at h
theorem axq{t:TypeId}{cs:List PV}{off:Nat}{x:PV}(h:sx P t cs off=some x):ry P t (cs.map AV.p) off=some (.p x):=by
 have hp:∀l:List PV,uN (l.map AV.p)=some l:=λl=>by induction l with|nil=>rfl|cons a r ih=>simp[uN,ih]
 unfold sx at h;unfold ry;split at h
 ·split at h
  ·split at h
   ·rename_i hle;simp at h;subst h;rw[if_pos (by simpa using hle),<-List.map_drop,<-List.map_take];simp only[yA,hp]
   ·simp at h
  ·simp at h
 ·rw[List.getElem?_map,h];rfl
 ·simp at h
theorem ag1{I:Mem}{w:World}{t:TypeId}{b base off:Nat}{us:List Value}{cs:List PV}{x:PV}(h:sx P t cs off=some x)
  (hl:us.length=cs.length) (hv:∀ (j:Nat) u c,us[j]? = some u->cs[j]? = some c->VR I u c) (h1:∀u∈us,u.oneCell'=true)
  (hm:∀ (j:Nat) u,us[j]? = some u->w.cell? ⟨b,base+j,none⟩=some u) :
  ∃u,(loadVar t ⟨b,base+off,none⟩).run P w = .ok u w/\VR I u x:=by
 obtain⟨u,hr,ha⟩:=aax (I:=I) (L:=λ_=>none) (axq h) (by simpa using hl) (λj u c hu hc=>by
  rw[List.getElem?_map] at hc;cases hcj:cs[j]? with
  |none=>simp[hcj] at hc
  |some c'=>simp[hcj] at hc;subst hc;exact .p _ _ (hv j u c' hu hcj)) h1 hm
 exact⟨u,hr,ha.nc⟩
def Fr(C:Ctx)(I:Mem)(L:bg)(H:aq)(w:World)(I':Mem)(L':bg)(H':aq)(w':World):Prop:=∀env tm,fV C env H I L tm w->fV C env H' I' L' tm w'
theorem Fr.refl(C:Ctx)(I:Mem)(L:bg)(H:aq)(w:World):Fr C I L H w I L H w:=λ_ _ h=>h
theorem Fr.trans{C:Ctx}{I I1 I2:Mem}{L L1 L2:bg}{H H1 H2:aq}{w w1 w2:World}(h:Fr C I L H w I1 L1 H1 w1)(k:Fr C I1 L1 H1 w1 I2 L2 H2 w2) :
  Fr C I L H w I2 L2 H2 w2:=λenv tm s=>k env tm (h env tm s)
theorem Fr.drew(C:Ctx)(I:Mem)(L:bg)(H:aq)(w:World):Fr C I L H w I L H w.drew:=λ_ _ h=>h.world (Below.refl _ _).drew λ_ _=>rfl
def Mem.with(I:Mem)(b:Nat)(arr:Array Value):Mem:=λc o=>if c=b then arr[o]? else I c o
theorem Fr.imm(C:Ctx)(I:Mem)(L:bg)(H:aq)(w:World)(arr:Array Value)(e:TypeId) :
  Fr C I L H w (I.with w.heap.size arr) L H (w.alloc (.cells arr e)):=λenv tm h =>
 h.grow ((Below.refl _ _).alloc (Nat.le_refl _) _)
  (λb o u hu=>by
   have:b≠w.heap.size:=λe=>by subst e;rw[aeB h.mem] at hu;cases hu
   simpa[Mem.with,this] using hu)
  (λb o u hu=>by
   unfold Mem.with at hu
   split at hu
   ·rename_i hb;subst hb;rw[World.cell?_alloc_new];exact hu
   ·exact (World.cell?_alloc_lt _ _ _ (h.mem.lt hu)).trans (h.mem b o u hu))
  (λb hb o=>by unfold Mem.with;rw[if_neg (by omega)])
theorem Mem.atg{I:Mem}{w:World}(h:I.inW w)(arr:Array Value):I.sub (I.with w.heap.size arr):=λb o u hu=>by
 have:b≠w.heap.size:=λe=>by subst e;rw[aeB h] at hu;cases hu
 simpa[Mem.with,this] using hu
theorem VR.aiq{I:Mem}{w:World}(hI:I.inW w){us rest:List Value}{es:List (List PV)}{sz cap:Nat}(hsz:∀e∈es,e.length=sz)(hl:us.length=es.flatten.length)
  (hv:∀ (j:Nat) u c,us[j]? = some u->es.flatten[j]? = some c->VR I u c) (h1:∀u∈us,u.oneCell'=true) (hcap:es.length<=cap) :
  VR (I.with w.heap.size (us++rest).toArray) (.slice (some ⟨w.heap.size,0,none⟩) es.length cap) (.aE es):=by
 refine .aE _ _ _ es us sz rfl hsz hl (λj u c hu hc=>(hv j u c hu hc).mono (Mem.atg hI _)) h1 (.inr ⟨_,_,rfl,λj u hu=>?_⟩) (by simp) hcap;have hj:j<us.length:=(List.getElem?_eq_some_iff.1 hu).1;simp only[Mem.with,if_true,Nat.zero_add,List.getElem?_toArray];rw[List.getElem?_append_left hj];exact hu
def ng(I:Mem)(L:bg)(us:List Value)(dP:List AV):Prop:=us.length=dP.length/\∀ (j:Nat) u a,us[j]? = some u->dP[j]? = some a->di I L u a
def VRs(I:Mem)(us:List Value)(dP:List PV):Prop:=us.length=dP.length/\∀ (j:Nat) u a,us[j]? = some u->dP[j]? = some a->VR I u a
theorem VRs.mono{I J:Mem}(h:I.sub J){us:List Value}{dP:List PV}(k:VRs I us dP):VRs J us dP:=⟨k.1,λj u a hu ha=>(k.2 j u a hu ha).mono h⟩
theorem VRs.nc{I:Mem}{L:bg}{us:List Value}{ps:List PV}(h:ng I L us (ps.map AV.p)):VRs I us ps:=⟨by simpa using h.1,λj u a hu ha=>(h.2 j u (.p a) hu (by rw[List.getElem?_map,ha];rfl)).nc⟩
end Go.bP
namespace Go.bP
open Go.RowKit
variable{P:Program}
def yN(P:Program)(op:BinOp)(t:TypeId)(x y:Value):Option (Prop×Value):=match op,x,y with
 | .add,.int k a,.int k' b=>if k=k' then some (True,.int k (k.wrap (a+b))) else none
 | .sub,.int k a,.int k' b=>if k=k' then some (True,.int k (k.wrap (a-b))) else none
 | .mul,.int k a,.int k' b=>if k=k' then some (True,.int k (k.wrap (a * b))) else none
 | .quo,.int k a,.int k' b=>if k=k' then some (b≠0,.int k (k.wrap (a.tdiv b))) else none
 | .rem,.int k a,.int k' b=>if k=k' then some (b≠0,.int k (a.tmod b)) else none
 | .shl,.int k a,.int _ b=>some (0<=b,.int k (k.wrap (a * 2 ^ (min b.toNat k.bits))))
 | .shr,.int k a,.int _ b=>some (0<=b,.int k (a.fdiv (2 ^ (min b.toNat k.bits))))
 | .and,.int k a,.int k' b=>if k=k' then some (True,.int k (k.wrap (BitVec.ofInt k.bits a &&& BitVec.ofInt k.bits b).toNat)) else none
 | .or,.int k a,.int k' b=>if k=k' then some (True,.int k (k.wrap (BitVec.ofInt k.bits a ||| BitVec.ofInt k.bits b).toNat)) else none
 | .xor,.int k a,.int k' b=>if k=k' then some (True,.int k (k.wrap (BitVec.ofInt k.bits a ^^^ BitVec.ofInt k.bits b).toNat)) else none
 | .eql,.int k a,.int k' b=>if k=k' then some (True,.bool (decide (a=b))) else none
 | .neq,.int k a,.int k' b=>if k=k' then some (True,.bool (!decide (a=b))) else none
 | .lss,.int k a,.int k' b=>if k=k' then some (True,.bool (decide (a<b))) else none
 | .leq,.int k a,.int k' b=>if k=k' then some (True,.bool (decide (a<=b))) else none
 | .gtr,.int k a,.int k' b=>if k=k' then some (True,.bool (decide (b<a))) else none
 | .geq,.int k a,.int k' b=>if k=k' then some (True,.bool (decide (b<=a))) else none
 | .add,.string a,.string b=>some (a.size+b.size<=9223372036854775807,.string (a++b))
 | .eql,.string a,.string b=>some (True,.bool (decide (a=b)))
 | .neq,.string a,.string b=>some (True,.bool (!decide (a=b)))
 | .eql,.bool a,.bool b=>match P.underlying t with|some .bool=>some (True,.bool (a == b))|_=>none
 | .neq,.bool a,.bool b=>match P.underlying t with|some .bool=>some (True,.bool (!(a == b)))|_=>none
 | .eql,.slice ao _ _,.slice none 0 0=>match P.underlying t with|some (.slice _)=>some (True,.bool ao.isNone)|_=>none
 | .neq,.slice ao _ _,.slice none 0 0=>match P.underlying t with|some (.slice _)=>some (True,.bool (!ao.isNone))|_=>none
 |_,_,_=>none
theorem aaZ(a b:ByteArray):(a.toList == b.toList)=decide (a=b):=by
 rw[ByteArray.toList_eq,ByteArray.toList_eq,Bool.eq_iff_iff];simp only[beq_iff_eq,decide_eq_true_eq];constructor
 ·intro h;cases a;cases b;simp only at h;exact congrArg _ (Array.toList_inj.1 h)
 ·rintro rfl;rfl
theorem run_equal_bool{t:TypeId}(hu:P.underlying t=some .bool)(a b:Bool)(w:World):(Op.equal t (.bool a) (.bool b)).run P w = .ok (a == b) w:=by have h:Op.equal t (.bool a) (.bool b)=Op.equalIn (9999+1) t (.bool a) (.bool b):=rfl;rw[h,Op.equalIn,Sem.run_bind,run_underlying hu w];rfl
theorem vz{t e:TypeId}(hu:P.underlying t=some (.slice e))(ao bo:Option Addr)(n c m d:Nat)(h:ao=none\/bo=none)(w:World) :
  (Op.equal t (.slice ao n c) (.slice bo m d)).run P w = .ok (ao.isNone&&bo.isNone) w:=by
 have hh:Op.equal t (.slice ao n c) (.slice bo m d)=Op.equalIn (9999+1) t (.slice ao n c) (.slice bo m d):=rfl;rw[hh,Op.equalIn,Sem.run_bind,run_underlying hu w];cases ao<;>cases bo<;>first|rfl|simp at h
theorem amO{op:BinOp}{t:TypeId}{x y v:Value}{pre:Prop}(h:yN P op t x y=some (pre,v))(hp:pre)(w:World)(ox oy:Operand) :
  (do eqGuard op t ox oy x y;binOp op t x y:Sem Value).run P w = .ok v w/\v.oneCell'=true:=by
 unfold yN at h;split at h
 case h_24=>cases h
 case h_20|h_21 =>
  split at h
  ·rename_i hk;simp only[cm,gD] at h;obtain⟨h1,h2⟩:=h;subst h1 h2;simp[eqGuard,binOp,run_equal_bool hk,Value.oneCell']
  ·cases h
 case h_22|h_23 =>
  split at h
  ·rename_i hk;simp only[cm,gD] at h;obtain⟨h1,h2⟩:=h;subst h1 h2;simp[eqGuard,binOp,vz hk _ _ _ _ _ _ (.inr rfl),Value.oneCell']
  ·cases h
 case h_6|h_7=>simp only[cm,gD] at h;obtain⟨h1,h2⟩:=h;subst h1 h2;simp[eqGuard,binOp,Op.shift,Value.oneCell'];omega
 case h_17=>simp only[cm,gD] at h;obtain⟨h1,h2⟩:=h;subst h1 h2;simp[eqGuard,binOp,Op.stringOp,Value.oneCell',IntKind.max,IntKind.signed,IntKind.bits];omega
 case h_18|h_19=>simp only[cm,gD] at h;obtain⟨h1,h2⟩:=h;subst h1 h2;simp[eqGuard,binOp,Op.stringOp,aaZ,Value.oneCell']
 all_goals
  split at h
  ·rename_i hk;simp only[cm,gD] at h;obtain⟨h1,h2⟩:=h;subst h1 h2 hk
   first
    |(simp[eqGuard,binOp,Op.intArith,Op.intBits,Op.intCmp,Value.oneCell'];done)
    |(simp[eqGuard,binOp,Op.intArith,Op.intDiv,hp,Value.oneCell'];done)
    |(simp[eqGuard,binOp,Op.intCmp,Value.oneCell'];rfl)
  ·cases h
end Go.bP
namespace Go.bP
open Go.RowKit
variable{P:Program}{I:Mem}
inductive BK where
 |i|s|b
def ath(P:Program)(t:TypeId):Option BK:=match P.underlying t with
 |some (.int _)=>some .i
 |some .string=>some .s
 |some .bool=>some .b
 |_=>none
def aj2(P:Program):List Field->Nat->Option (List BK)
 | [],_=>some []
 |f :: fs,k=>if f.offset=k/\f.name ≠ "_" then (match ath P f.type,aj2 P fs (k+1) with
  |some x,some xs=>some (x :: xs)
  |_,_=>none) else none
def abR(P:Program)(t:TypeId):Option (List BK):=match P.underlying t with
 |some (.struct fs)=>if P.stoodInHeld t=false/\P.eqGuardType P.depth t=false then aj2 P fs.toList 0 else none
 |_=>none
def eqK:List BK->List PV->List PV->Option Bool
 | [],[],[]=>some true
 | .i :: ks,.val (.int k a) :: cs,.val (.int k' b) :: ds=>if k=k' then (match eqK ks cs ds with
  |some r=>some (decide (a=b)&&r)
  |none=>none) else none
 | .s :: ks,.val (.string a) :: cs,.val (.string b) :: ds=>(match eqK ks cs ds with
  |some r=>some (decide (a=b)&&r)
  |none=>none)
 | .b :: ks,.val (.bool a) :: cs,.val (.bool b) :: ds=>(match eqK ks cs ds with
  |some r=>some ((a == b)&&r)
  |none=>none)
 |_,_,_=>none
theorem air{t:TypeId}{x:BK}(h:ath P t=some x)(w:World):(isAgg t).run P w = .ok false w:=by
 unfold ath at h;unfold isAgg;split at h
 ·rename_i hu;rw[Sem.run_bind,run_underlying hu w];rfl
 ·rename_i hu;rw[Sem.run_bind,run_underlying hu w];rfl
 ·rename_i hu;rw[Sem.run_bind,run_underlying hu w];rfl
 ·cases h
theorem adM{t:TypeId}{x:BK}(h:ath P t=some x){xs:Array Value}{k:Nat}{u:Value}(hu:xs[k]? = some u)(w:World):(part t xs k).run P w = .ok u w:=by simp[part,air h,hu]
theorem abS:∀ (fs:List Field) (k:Nat) (ks:List BK) (cs ds:List PV) (b:Bool) (us vs:List Value) (d:Nat) (w:World),aj2 P fs k=some ks->eqK ks cs ds=some b ->
  us.length=k+cs.length->vs.length=k+ds.length->(∀ (j:Nat) u c,us[k+j]? = some u->cs[j]? = some c->VR I u c)->(∀ (j:Nat) u c,vs[k+j]? = some u->ds[j]? = some c->VR I u c) ->
  (Op.eqFields (d+1) us.toArray vs.toArray fs).run P w = .ok b w
 | [],k,ks,cs,ds,b,us,vs,d,w,h,he,_,_,_,_=>by
  simp only[aj2,cm] at h;subst h;cases cs with
  |nil =>
   cases ds with
   |nil=>simp only[eqK,cm] at he;subst he;simp[Op.eqFields]
   |cons y ds=>simp[eqK] at he
  |cons c cs=>simp[eqK] at he
 |f :: fs,k,ks,cs,ds,b,us,vs,d,w,h,he,hl,hl',hu,hv=>by
  simp only[aj2] at h;split at h
  ·rename_i hc;obtain⟨ho,hn⟩:=hc;split at h
   ·rename_i x xs hx hxs;simp only[cm] at h;subst h;cases cs with
    |nil=>cases x<;>simp[eqK] at he
    |cons c cs =>
     cases ds with
     |nil=>cases x<;>cases c<;>simp[eqK] at he
     |cons y ds =>
      have hku:k<us.length:=by rw[hl];simp
      have hkv:k<vs.length:=by rw[hl'];simp
      have gu:us.toArray[k]? = some us[k]:=by simp[hku]
      have gv:vs.toArray[k]? = some vs[k]:=by simp[hkv]
      have ru:=hu 0 us[k] c (by simp[hku]) rfl;have rv:=hv 0 vs[k] y (by simp[hkv]) rfl;have ih:∀r,eqK xs cs ds=some r->(Op.eqFields (d+1) us.toArray vs.toArray fs).run P w = .ok r w:=λr hr =>
       abS fs (k+1) xs cs ds r us vs d w hxs hr (by rw[hl];simp;omega) (by rw[hl'];simp;omega)
        (λj u c h1 h2=>hu (j+1) u c (by rw[<-h1];congr 1;omega) (by simpa using h2)) (λj u c h1 h2=>hv (j+1) u c (by rw[<-h1];congr 1;omega) (by simpa using h2))
      have step : ∀ (b1 : Bool) (r : Bool), eqK xs cs ds = some r → (Op.equalIn (d + 1) f.type us[k] vs[k]).run P w = .ok b1 w → b = (b1 && r) →
        (Op.eqFields (d+1) us.toArray vs.toArray (f :: fs)).run P w = .ok b w:=by
       intro b1 r hr h1 hb;simp only[Op.eqFields,if_pos hn,Sem.run_bind,ho,adM hx gu,adM hx gv,Result.andThen_ok,h1];cases b1
       ·simp[hb]
       ·simp only[Bool.not_true,Bool.false_eq_true,if_false];rw[ih r hr,hb];rfl
      generalize us[k]=u at ru step;generalize vs[k]=v at rv step;unfold ath at hx;cases ru with
      |val _ _ =>
       cases rv with
       |val _ _ =>
        cases x<;>cases u<;>(try simp only[eqK] at he)<;>try (cases he;done)
        case i.int ki a =>
         cases v<;>simp only[eqK] at he<;>try (cases he;done)
         rename_i ki' b0;split at he
         ·rename_i hkk;subst hkk;split at he
          ·rename_i r hr;simp only[cm] at he;split at hx
           ·rename_i kk hut;refine step _ r hr (run_equalIn_int w d f.type _ kk _ _ hut) ?_;rw[<-he];rfl
           ·cases hx
           ·cases hx
           ·cases hx
          ·cases he
         ·cases he
        case s.string a =>
         cases v<;>simp only[eqK] at he<;>try (cases he;done)
         rename_i b0;split at he
         ·rename_i r hr;simp only[cm] at he;split at hx
          ·cases hx
          ·rename_i hut;refine step _ r hr (run_equalIn_string w d f.type _ _ hut) ?_;rw[<-he,aaZ]
          ·cases hx
          ·cases hx
         ·cases he
        case b.bool a =>
         cases v<;>simp only[eqK] at he<;>try (cases he;done)
         rename_i b0;split at he
         ·rename_i r hr;simp only[cm] at he;split at hx
          ·cases hx
          ·cases hx
          ·rename_i hut;exact step _ r hr (run_equalIn_bool w d f.type _ _ hut) he.symm
          ·cases hx
         ·cases he
       |_=>cases x<;>cases u<;>simp[eqK] at he
      |_=>cases x<;>simp[eqK] at he
   ·cases h
  ·cases h
theorem zg{t:TypeId}{ks:List BK}{cs ds:List PV}{b:Bool}(h:abR P t=some ks)(he:eqK ks cs ds=some b){us vs:List Value}(hl:us.length=cs.length)(hl':vs.length=ds.length)
  (hu:∀ (j:Nat) u c,us[j]? = some u->cs[j]? = some c->VR I u c) (hv:∀ (j:Nat) u c,vs[j]? = some u->ds[j]? = some c->VR I u c) (w:World) :
  (Op.equalIn 10000 t (.agg us.toArray) (.agg vs.toArray)).run P w = .ok b w/\P.eqGuardType P.depth t=false:=by
 unfold abR at h;split at h
 ·rename_i fs hut;split at h
  ·rename_i hc;have hf:P.fieldsOf t=fs:=by unfold Program.fieldsOf;rw[hut]
   refine⟨?_,hc.2⟩;rw[show (10000:Nat)=9999+1 from rfl,run_equalIn_struct w 9999 t us.toArray vs.toArray (by rw[hf];exact hut) hc.1,hf];exact abS fs.toList 0 ks cs ds b us vs 9998 w h he (by omega) (by omega) (λj u c h1 h2=>hu j u c (by simpa using h1) h2) (λj u c h1 h2=>hv j u c (by simpa using h1) h2)
  ·cases h
 ·cases h
end Go.bP
namespace Go.bP
open Go.RowKit
variable{P:Program}{I:Mem}{L:bg}
theorem VR.dr{u v:Value}(h:VR I u (.val v)):u=v/\v.oneCell'=true:=by cases h;exact⟨rfl,by assumption⟩
theorem di.dr{u v:Value}(h:di I L u (.p (.val v))):u=v/\v.oneCell'=true:=h.nc.dr
theorem VR.aj3{u:Value}{es:List (List PV)}(h:VR I u (.aE es))(hne:es≠[]):∃a n c,u = .slice (some a) n c:=by
 cases h with
 |aE ao n cap _ us sz hn hsz hl hv hone hm hnil hcap =>
  cases ao with
  |none=>have:=(hnil rfl).1;exact absurd (List.length_eq_zero_iff.1 (hn.trans this)) hne
  |some a=>exact⟨a,n,cap,rfl⟩
def isSlice(P:Program)(t:TypeId):Bool:=match P.underlying t with|some (.slice _)=>true|_=>false
def lT(P:Program)(op:BinOp)(t:TypeId)(a b:AV):Option (Prop×AV):=match a,b with
 | .p (.val x),.p (.val y)=>match yN P op t x y with
  |some (pre,v)=>some (pre,.p (.val v))
  |none=>none
 | .p (.aE es),.p (.val (.slice none 0 0))=>match op,isSlice P t with
  | .eql,true=>some (es≠[],.p (.val (.bool false)))
  | .neq,true=>some (es≠[],.p (.val (.bool true)))
  |_,_=>none
 | .p (.agg cs),.p (.agg ds)=>match abR P t with
  |some ks=>match op,eqK ks cs ds with
   | .eql,some b=>some (True,.p (.val (.bool b)))
   | .neq,some b=>some (True,.p (.val (.bool !b)))
   |_,_=>none
  |none=>none
 |_,_=>none
theorem amP{op:BinOp}{t:TypeId}{a b v:AV}{pre:Prop}(h:lT P op t a b=some (pre,v))(hp:pre){x y:Value}(hx:di I L x a)(hy:di I L y b)(w:World)(ox oy:Operand) :
  ∃r,(do eqGuard op t ox oy x y;binOp op t x y:Sem Value).run P w = .ok r w/\di I L r v:=by
 unfold lT at h;split at h
 ·split at h
  ·rename_i hb;simp only[cm,gD] at h;obtain⟨h1,h2⟩:=h;subst h1 h2;obtain⟨rfl,_⟩:=hx.dr;obtain⟨rfl,_⟩:=hy.dr;obtain⟨hr,h1⟩:=amO hb hp w ox oy;exact⟨_,hr,.p _ _ (.val _ h1)⟩
  ·cases h
 ·rename_i es;have hs:∀ {t},isSlice P t=true->∃e,P.underlying t=some (.slice e):=λ{t} h=>by
   unfold isSlice at h;split at h
   ·rename_i e he;exact⟨e,he⟩
   ·cases h
  split at h
  ·rename_i hsl;simp only[cm,gD] at h;obtain⟨h1,h2⟩:=h;subst h1 h2;obtain⟨e,he⟩:=hs hsl;obtain⟨aa,n,c,rfl⟩:=hx.nc.aj3 hp;obtain⟨rfl,_⟩:=hy.dr;exact⟨.bool false,by simp[eqGuard,binOp,vz he _ _ _ _ _ _ (.inr rfl)],.p _ _ (.val _ rfl)⟩
  ·rename_i hsl;simp only[cm,gD] at h;obtain⟨h1,h2⟩:=h;subst h1 h2;obtain⟨e,he⟩:=hs hsl;obtain⟨aa,n,c,rfl⟩:=hx.nc.aj3 hp;obtain⟨rfl,_⟩:=hy.dr;exact⟨.bool true,by simp[eqGuard,binOp,vz he _ _ _ _ _ _ (.inr rfl)],.p _ _ (.val _ rfl)⟩
  ·cases h
 ·rename_i cs ds;split at h
  ·rename_i ks hks;split at h
   ·rename_i b hb;simp only[cm,gD] at h;obtain⟨h1,h2⟩:=h;subst h1 h2;cases hx.nc with
    |agg us _ hl hv hone =>
     cases hy.nc with
     |agg vs _ hl' yz aAV=>obtain⟨q1,q2⟩:=zg hks hb hl hl' hv yz w;refine⟨.bool b,?_,.p _ _ (.val _ rfl)⟩;rw[Sem.run_bind,run_eqGuard_agg w .eql t ox oy _ _ q2,Result.andThen_ok,run_eql_struct,q1];rfl
   ·rename_i b hb;simp only[cm,gD] at h;obtain⟨h1,h2⟩:=h;subst h1 h2;cases hx.nc with
    |agg us _ hl hv hone =>
     cases hy.nc with
     |agg vs _ hl' yz aAV=>obtain⟨q1,q2⟩:=zg hks hb hl hl' hv yz w;refine⟨.bool !b,?_,.p _ _ (.val _ rfl)⟩;rw[Sem.run_bind,run_eqGuard_agg w .neq t ox oy _ _ q2,Result.andThen_ok,run_neq_struct,q1];rfl
   ·cases h
  ·cases h
 ·cases h
def unX(op:UnOp)(a:AV):Option (Prop×AV):=match op,a with
 | .not,.p (.val (.bool b))=>some (True,.p (.val (.bool !b)))
 | .neg,.p (.val (.int k n))=>some (True,.p (.val (.int k (k.wrap (0-n)))))
 |_,_=>none
theorem aqe{op:UnOp}{a v:AV}{pre:Prop}(h:unX op a=some (pre,v)){x:Value}(hx:di I L x a)(w:World) :
    ∃r,(Op.unary op x).run P w = .ok r w/\di I L r v:=by
  unfold unX at h;split at h<;>first
    |(cases h;done)
    | (simp only [cm, gD] at h
       obtain⟨_,h2⟩:=h;subst h2;obtain⟨rfl,_⟩:=hx.dr;exact⟨_,by simp[Op.unary,Op.intArith],.p _ _ (.val _ rfl)⟩)
def aeP(P:Program)(s d:TypeId)(a:AV):Option (Prop×AV):=match (P.underlying s).isSome,a with
 |true,.p (.val (.int _ n))=>match ag0 P d with
  |some k=>some (True,.p (.val (.int k (k.wrap n))))
  |none=>none
 |true,.p (.val (.string x))=>match ze P d with
  |true=>some (True,.p (.val (.string x)))
  |false=>none
 |_,_=>none
theorem aj4{s d:TypeId}{a v:AV}{pre:Prop}(h:aeP P s d a=some (pre,v)){x:Value}(hx:di I L x a)(w:World) :
  ∃r,(convert s d x).run P w = .ok r w/\di I L r v:=by
 unfold aeP at h;split at h
 ·rename_i k0 n hs;obtain⟨ds,hds⟩:=Option.isSome_iff_exists.1 hs;unfold ag0 at h;split at h
  ·rename_i k hk;simp only[cm,gD] at h;obtain⟨_,h2⟩:=h;subst h2;obtain⟨rfl,_⟩:=hx.dr;have hd:P.underlying d=some (.int k):=by split at hk<;>simp_all
   refine⟨_,?_,.p _ _ (.val _ rfl)⟩;simp[convert,run_underlying hds,run_underlying hd,Conv.intToInt]
  ·cases h
 ·rename_i x0 hs;obtain⟨ds,hds⟩:=Option.isSome_iff_exists.1 hs;unfold ze at h;split at h
  ·rename_i hk;simp only[cm,gD] at h;obtain⟨_,h2⟩:=h;subst h2;obtain⟨rfl,_⟩:=hx.dr;have hd:P.underlying d=some .string:=by split at hk<;>simp_all
   refine⟨_,?_,.p _ _ (.val _ rfl)⟩;simp[convert,run_underlying hds,run_underlying hd]
  ·cases h
 ·cases h
def ag2(c a b:AV):Option (Prop×AV):=match c with
 | .p (.val (.bool true))=>some (True,a)
 | .p (.val (.bool false))=>some (True,b)
 |_=>none
def tu(a:AV)(k:Nat):Option (Prop×AV):=match a with
 | .p (.dg vs)=>match vs[k]? with|some x=>some (True,.p x)|none=>none
 | .dg vs=>match vs[k]? with|some x=>some (True,x)|none=>none
 |_=>none
theorem aeQ{a v:AV}{k:Nat}{pre:Prop}(h:tu a k=some (pre,v)){x:Value}(hx:di I L x a)(w:World) :
  ∃r,(Instr.extract x k).run P w = .ok r w/\di I L r v:=by
 unfold tu at h;split at h
 ·rename_i vs;split at h
  ·rename_i y hy;simp only[cm,gD] at h;obtain⟨_,h2⟩:=h;subst h2;cases hx.nc with
   |dg us _ hl hv =>
    have hlt:k<us.length:=by rw[hl];exact (List.getElem?_eq_some_iff.1 hy).1
    refine⟨us[k],?_,.p _ _ (hv k _ _ (by simp) hy)⟩;simp[Instr.extract,hlt]
  ·cases h
 ·rename_i vs;split at h
  ·rename_i y hy;simp only[cm,gD] at h;obtain⟨_,h2⟩:=h;subst h2;cases hx with
   |dg us _ hl hv =>
    have hlt:k<us.length:=by rw[hl];exact (List.getElem?_eq_some_iff.1 hy).1
    refine⟨us[k],?_,hv k _ _ (by simp) hy⟩;simp[Instr.extract,hlt]
  ·cases h
 ·cases h
def apr(P:Program)(t:TypeId)(a:AV):Option (Prop×AV):=match a with
 | .p (.fq cs off)=>match sx P t cs off with|some x=>some (True,.p x)|none=>none
 |_=>none
theorem aj5{t:TypeId}{a v:AV}{pre:Prop}(h:apr P t a=some (pre,v)){x:Value}(hx:di I L x a){w:World}(hw:I.inW w) :
  ∃r,(Instr.loadAt t x).run P w = .ok r w/\di I L r v:=by
 unfold apr at h;split at h
 ·rename_i cs off;split at h
  ·rename_i y hy;simp only[cm,gD] at h;obtain⟨_,h2⟩:=h;subst h2;cases hx.nc with
   |fq b base _ us _ hl hv hone hm =>
    obtain⟨u,hr,hu⟩:=ag1 (I:=I) (w:=w) (b:=b) (base:=base) hy hl hv hone λj u hj=>hw _ _ _ (hm j u hj)
    exact⟨u,by simp[Instr.loadAt,Instr.sureAddr,hr],.p _ _ hu⟩
  ·cases h
 ·cases h
def ais(P:Program)(s:TypeId)(a:AV)(k:Nat):Option (Prop×AV):=match bt P s k with
 |some (o,n)=>match a with
  | .p (.fq cs off)=>some (n≠0,.p (.fq cs (off+o)))
  | .ptr id off=>some (n≠0,.ptr id (off+o))
  |_=>none
 |none=>none
theorem aj6{s:TypeId}{k o n:Nat}(h:bt P s k=some (o,n)):∃fs f i,P.underlying s=some (.struct fs)/\fs[k]? = some f/\P.info? f.type=some i/\i.size=n/\f.offset=o:=by
 unfold bt at h;split at h
 ·rename_i fs hfs;cases hf:fs[k]? with
  |none=>simp[hf] at h
  |some f =>
   cases hi:P.info? f.type with
   |none=>simp[hf,bf,hi] at h
   |some i=>simp[hf,bf,hi] at h;exact⟨fs,f,i,hfs,hf,hi,h.2,h.1⟩
 ·cases h
theorem u9{s:TypeId}{k o n:Nat}(h:bt P s k=some (o,n))(hn:n≠0)(w:World)(b off:Nat) :
  (Instr.fieldAt s (.pointer (some ⟨b,off,none⟩)) k).run P w = .ok (.pointer (some ⟨b,off+o,none⟩)) w:=by
 obtain⟨fs,f,i,h1,h2,h3,h4,h5⟩:=aj6 h;have hne:i.size≠0:=by rw[h4];exact hn
 have hlt:=(Array.getElem?_eq_some_iff.1 h2);obtain⟨hlt,hfe⟩:=hlt;simp[Instr.fieldAt,run_underlying h1,h2,Instr.sureAddr,fieldPlace,sizeOf,typeInfo,h3,hne,Addr.add_mid,h5]
theorem ait{s:TypeId}{k:Nat}{a v:AV}{pre:Prop}(h:ais P s a k=some (pre,v))(hp:pre){x:Value}(hx:di I L x a)(w:World) :
  ∃r,(Instr.fieldAt s x k).run P w = .ok r w/\di I L r v:=by
 unfold ais at h;split at h
 ·rename_i o n hf;split at h
  ·simp only[cm,gD] at h;obtain⟨h1,h2⟩:=h;subst h1 h2;cases hx.nc with
   |fq b base _ us _ hl hv hone hm=>refine⟨_,u9 hf hp w _ _,.p _ _ ?_⟩;rw[Nat.add_assoc];exact .fq b base _ us _ hl hv hone hm
  ·simp only[cm,gD] at h;obtain⟨h1,h2⟩:=h;subst h1 h2;cases hx with
   |ptr id b off hl=>exact⟨_,u9 hf hp w _ _,.ptr _ _ _ hl⟩
  ·cases h
 ·cases h
def pF(P:Program)(t:TypeId)(a i:AV):Option (Prop×AV):=match i with
 | .p (.val (.int _ n))=>match a with
  | .p (.aE es)=>match cW P t with
   |some e=>match bf P e with
    |some sz=>some ((0<=n/\n<es.length)/\(es.getD n.toNat []).length=sz/\0<sz,.p (.fq (es.getD n.toNat []) 0))
    |none=>none
   |none=>none
  | .p (.fq cs off)=>match aj1 P t with
   |some (len,e)=>match bf P e with
    |some sz=>some (0<=n/\n<len,.p (.fq cs (off+n.toNat * sz)))
    |none=>none
   |none=>none
  | .ptr id off=>match aj1 P t with
   |some (len,e)=>match bf P e with
    |some sz=>some (0<=n/\n<len,.ptr id (off+n.toNat * sz))
    |none=>none
   |none=>none
  |_=>none
 |_=>none
theorem ey{t e:TypeId}(h:cW P t=some e):P.underlying t=some (.slice e):=by unfold cW at h;split at h<;>simp_all
theorem abm{t e:TypeId}{n:Nat}(h:aj1 P t=some (n,e)):P.underlying t=some (.array n e):=by unfold aj1 at h;split at h<;>simp_all
theorem aj7{t:TypeId}{n:Nat}(h:bf P t=some n):∃i,P.info? t=some i/\i.size=n:=by
 unfold bf at h;cases hi:P.info? t with
 |none=>simp[hi] at h
 |some i=>exact⟨i,rfl,by simpa[hi] using h⟩
theorem cR{t:TypeId}{n:Nat}(h:bf P t=some n)(w:World):(sizeOf t).run P w = .ok n w:=by obtain⟨i,hi,hn⟩:=aj7 h;simp[sizeOf,typeInfo,hi,hn]
theorem kD{α:Type}{sz:Nat} : ∀ {es:List (List α)} (_:∀e∈es,e.length=sz) (i j:Nat) (_:i<es.length) (_:j<sz),es.flatten[i * sz+j]? = (es.getD i [])[j]?
 | [],_,i,j,hi,_=>by simp at hi
 |e :: es,h,0,j,_,hj=>by have he:=h e (by simp);simp only[List.flatten_cons,Nat.zero_mul,Nat.zero_add];rw[List.getElem?_append_left (by omega)];rfl
 |e :: es,h,i+1,j,hi,hj=>by
  have he:=h e (by simp);simp only[List.flatten_cons];have:(i+1) * sz+j=e.length+(i * sz+j):=by rw[he,Nat.add_mul];omega
  rw[this,List.getElem?_append_right (by omega)];have e2:e.length+(i * sz+j)-e.length=i * sz+j:=by omega
  rw[e2,kD (λx hx=>h x (by simp[hx])) i j (by simpa using hi) hj];rfl
theorem b5{α:Type}{sz:Nat} : ∀ {es:List (List α)} (_:∀e∈es,e.length=sz),es.flatten.length=es.length * sz
 | [],_=>by simp
 |e :: es,h=>by have he:=h e (by simp);rw[List.flatten_cons,List.length_append,b5 (λx hx=>h x (by simp[hx])),he,List.length_cons,Nat.add_mul];omega
theorem VR.elem{u:Value}{es:List (List PV)}(h:VR I u (.aE es)){n:Nat}(hn:n<es.length)(hpos:0<(es.getD n []).length) :
  ∃b off len cap sz,u = .slice (some ⟨b,off,none⟩) len cap/\len=es.length/\(es.getD n []).length=sz/\∃us:List Value,us.length=sz /\
   (∀ (j:Nat) u c,us[j]? = some u->(es.getD n [])[j]? = some c->VR I u c)/\(∀u∈us,u.oneCell'=true)/\∀ (j:Nat) u,us[j]? = some u->I b (off+n * sz+j)=some u:=by
 cases h with
 |aE ao len cap _ us sz hlen hsz hl hv hone hm hnil hcap =>
  have hmem:es.getD n []∈es:=by
   have:es.getD n []=es[n]:=by simp[hn]
   rw[this];exact pz _
  have hs:(es.getD n []).length=sz:=hsz _ hmem;have hfl:=b5 hsz;have hmul:(n+1) * sz<=es.length * sz:=Nat.mul_le_mul_right _ hn;have ati:(n+1) * sz=n * sz+sz:=by rw[Nat.add_mul];omega
  rcases hm with rfl|⟨b,off,rfl,hI⟩
  ·have h0:es.flatten.length=0:=by rw[<-hl];rfl
   omega
  ·refine⟨b,off,len,cap,sz,rfl,hlen.symm,hs,(us.drop (n * sz)).take sz,by simp;omega,?_,?_,?_⟩
   ·intro j u c hu hc;rw[List.getElem?_take] at hu;split at hu
    ·rename_i hj;rw[List.getElem?_drop] at hu;exact hv _ u c hu (by rw[kD hsz n j hn hj];exact hc)
    ·cases hu
   ·intro u hu;exact hone u (List.mem_of_mem_drop (List.mem_of_mem_take hu))
   ·intro j u hu;rw[List.getElem?_take] at hu;split at hu
    ·rw[List.getElem?_drop] at hu;have:=hI _ u hu;rw[Nat.add_assoc];exact this
    ·cases hu
theorem VR.aps{u:Value}{es:List (List PV)}(h:VR I u (.aE es)):∃ao cap,u = .slice ao es.length cap/\es.length<=cap:=by
 cases h with
 |aE ao len cap _ us sz hlen hsz hl hv hone hm hnil hcap=>exact⟨ao,cap,by rw[hlen],by omega⟩
theorem aiu{t:TypeId}{a i v:AV}{pre:Prop}(h:pF P t a i=some (pre,v))(hp:pre){x y:Value}(hx:di I L x a)(hy:di I L y i)(w:World) :
  ∃r,(Instr.indexAt t x y).run P w = .ok r w/\di I L r v:=by
 unfold pF at h;split at h
 ·rename_i k n;obtain⟨rfl,_⟩:=hy.dr;split at h
  ·rename_i es;split at h
   ·rename_i e he;split at h
    ·rename_i sz hsz;simp only[cm,gD] at h;obtain⟨h1,h2⟩:=h;subst h1 h2;obtain⟨⟨h0,hlt⟩,hlen,hpos⟩:=hp;obtain⟨m,rfl⟩:=Int.eq_ofNat_of_zero_le h0;simp only[Int.toNat_natCast] at hlen ⊢;have hm:m<es.length:=by omega
     obtain⟨b,off,len,cap,sz',rfl,rfl,hs,us,hu1,hu2,hu3,hu4⟩:=hx.nc.elem hm (by omega);have e1:sz'=sz:=by omega
     subst e1;refine⟨.pointer (some ⟨b,off+m * sz',none⟩),?_,.p _ _ ?_⟩
     ·have hlt':(m:Int)<es.length:=hlt;simp[Instr.indexAt,asIntOf,run_underlying (ey he),cR hsz,Addr.add_mid,hm]
     ·have:=VR.fq (I:=I) b (off+m * sz') (es.getD m []) us 0 (by omega) hu2 hu3 hu4;simpa using this
    ·cases h
   ·cases h
  ·rename_i cs off;split at h
   ·rename_i len e he;split at h
    ·rename_i sz hsz;simp only[cm,gD] at h;obtain⟨h1,h2⟩:=h;subst h1 h2;obtain⟨h0,hlt⟩:=hp;obtain⟨m,rfl⟩:=Int.eq_ofNat_of_zero_le h0;have hm:m<len:=by omega
     cases hx.nc with
     |fq b base _ us _ hl hv hone hmm=>refine⟨.pointer (some ⟨b,base+(off+m * sz),none⟩),?_,.p _ _ (.fq b base _ us _ hl hv hone hmm)⟩;simp[Instr.indexAt,asIntOf,run_underlying (abm he),Instr.sureAddr,cR hsz,Addr.add_mid,hm,Nat.add_assoc]
    ·cases h
   ·cases h
  ·rename_i id off;split at h
   ·rename_i len e he;split at h
    ·rename_i sz hsz;simp only[cm,gD] at h;obtain⟨h1,h2⟩:=h;subst h1 h2;obtain⟨h0,hlt⟩:=hp;obtain⟨m,rfl⟩:=Int.eq_ofNat_of_zero_le h0;have hm:m<len:=by omega
     cases hx with
     |ptr id b off hl=>refine⟨.pointer (some ⟨b,off+m * sz,none⟩),?_,.ptr _ _ _ hl⟩;simp[Instr.indexAt,asIntOf,run_underlying (abm he),Instr.sureAddr,cR hsz,Addr.add_mid,hm]
    ·cases h
   ·cases h
  ·cases h
 ·cases h
end Go.bP
namespace Go.bP
open Go.RowKit
variable{P:Program}{I:Mem}{L:bg}
def nX(s:ByteArray)(n:Nat):Int:=((s.data.toList.getD n 0).toNat:Int)
def amQ(P:Program)(t:TypeId)(a i:AV):Option (Prop×AV):=match i with
 | .p (.val (.int _ n))=>match a with
  | .p (.val (.string s))=>match ze P t with
   |true=>some (0<=n/\n<s.size,.p (.val (.int .u8 (nX s n.toNat))))
   |false=>none
  | .p (.agg cs)=>match aj1 P t with
   |some (len,e)=>match fP P e,bf P e,cs[n.toNat]? with
    |some false,some 1,some x=>some (0<=n/\n<len,.p x)
    |_,_,_=>none
   |none=>none
  |_=>none
 |_=>none
theorem abn{t:TypeId}(h:ze P t=true):P.underlying t=some .string:=by unfold ze at h;split at h<;>simp_all
theorem amR{t:TypeId}{a i v:AV}{pre:Prop}(h:amQ P t a i=some (pre,v))(hp:pre){x y:Value}(hx:di I L x a)(hy:di I L y i)(w:World) :
  ∃r,(Instr.index t x y).run P w = .ok r w/\di I L r v:=by
 unfold amQ at h;split at h
 ·rename_i k n;obtain⟨rfl,_⟩:=hy.dr;split at h
  ·rename_i s;split at h
   ·rename_i hs;simp only[cm,gD] at h;obtain⟨h1,h2⟩:=h;subst h1 h2;obtain⟨rfl,_⟩:=hx.dr;obtain⟨h0,hlt⟩:=hp;obtain⟨m,rfl⟩:=Int.eq_ofNat_of_zero_le h0;have hm:m<s.size:=by omega
    refine⟨_,?_,.p _ _ (.val _ rfl)⟩;have hb:s[m]? = some s[m]:=by simp[hm]
    have hg:(s.data.toList.getD m 0)=s[m]:=by
     have hm':m<s.data.toList.length:=by simpa using hm
     rw[List.getD_eq_getElem?_getD,List.getElem?_eq_getElem hm'];rfl
    simp only[nX,Int.toNat_natCast,hg];simp[Instr.index,asIntOf,run_underlying (abn hs),hm]
   ·cases h
  ·rename_i cs;split at h
   ·rename_i len e he;split at h
    ·rename_i x' hg hsz hc;simp only[cm,gD] at h;obtain⟨h1,h2⟩:=h;subst h1 h2;obtain⟨h0,hlt⟩:=hp;obtain⟨m,rfl⟩:=Int.eq_ofNat_of_zero_le h0;simp only[Int.toNat_natCast] at hc;have hm:m<len:=by omega
     obtain⟨d,hu,hd⟩:=xj hg;cases hx.nc with
     |agg us _ hl hv hone =>
      have hlt2:m<us.length:=by rw[hl];exact (List.getElem?_eq_some_iff.1 hc).1
      refine⟨us[m],?_,.p _ _ (hv m _ _ (by simp) hc)⟩;have azT:(isAgg e).run P w = .ok false w:=by unfold isAgg;rw[Sem.run_bind,run_underlying hu w];cases d<;>simp_all
      simp[Instr.index,asIntOf,run_underlying (abm he),cR hsz,hm,part,azT,hlt2]
    ·cases h
   ·cases h
  ·cases h
 ·cases h
def aj8(fn:Fn)(fs cs:List AV):AV:=match uN fs,uN cs with
 |some f,some c=>.p (.jF fn f c)
 |_,_=>.jF fn fs cs
theorem abT{us:List Value}{ps:List PV}(hv:∀ (j:Nat) u c,us[j]? = some u->(ps.map AV.p)[j]? = some c->di I L u c) :
  ∀ (j:Nat) u c,us[j]? = some u->ps[j]? = some c->VR I u c:=λj u c hu hc =>
 (hv j u (.p c) hu (by rw[List.getElem?_map,hc];rfl)).nc
theorem aj9{fn:Fn}{us vs:List Value}{fs cs:List AV}(hl:us.length=fs.length)(hl':vs.length=cs.length)
  (hv:∀ (j:Nat) u c,us[j]? = some u->fs[j]? = some c->di I L u c) (yz:∀ (j:Nat) u c,vs[j]? = some u->cs[j]? = some c->di I L u c) :
  di I L (.func fn us.toArray vs.toArray) (aj8 fn fs cs):=by
 unfold aj8;split
 ·rename_i f c hf hc;have e1:=sZ hf;have e2:=sZ hc;subst e1 e2;exact .p _ _ (.jF fn us vs f c (by simpa using hl) (by simpa using hl') (abT hv) (abT yz))
 ·exact .jF fn us vs fs cs hl hl' hv yz
def atj(a:AV):Option (Prop×AV):=match a with
 | .ptr id off=>some (True,.ptr id off)
 | .p (.fq cs off)=>some (True,.p (.fq cs off))
 | .p (.jF (.func f) fs cs)=>some (True,.p (.jF (.func f) fs cs))
 | .jF (.func f) fs cs=>some (True,.jF (.func f) fs cs)
 |_=>none
def bnd(d:Int):Option AV->Option Int
 |none=>some d
 |some (.p (.val (.int _ n)))=>some n
 |_=>none
def slice3(P:Program)(t:TypeId)(a:AV)(lo hi:Option AV)(m:AV):Option (Prop×AV):=match a,hi,m with
 | .p (.aE es), some (.p (.val (.int _ h))), .p (.val (.int _ m)) => match cW P t, bnd 0 lo with
   |some e,some l=>match bf P e with
    |some sz=>some ((0<=l/\l<=h/\h<=m/\m<=es.length)/\∀x∈es,x.length=sz,.p (.aE ((es.take h.toNat).drop l.toNat)))
    |none=>none
   |_,_=>none
 |_,_,_=>none
def xk(P:Program)(t:TypeId)(a:AV)(lo hi mx:Option AV):Option (Prop×AV):=match mx with
 |some m=>slice3 P t a lo hi m
 |none=>match a with
  | .p (.val (.string s))=>match ze P t,bnd 0 lo,bnd s.size hi with
   |true,some l,some h=>some (0<=l/\l<=h/\h<=s.size,.p (.val (.string (s.extract l.toNat h.toNat))))
   |_,_,_=>none
  | .p (.aE es)=>match cW P t,bnd 0 lo,bnd es.length hi with
   |some e,some l,some h=>match bf P e with
    |some sz=>some ((0<=l/\l<=h/\h<=es.length)/\∀x∈es,x.length=sz,.p (.aE ((es.take h.toNat).drop l.toNat)))
    |none=>none
   |_,_,_=>none
  | .nP id aW off n m sz=>match cW P t,bnd 0 lo,bnd n hi with
   |some e,some l,some h=>match bf P e with
    |some sz'=>some ((0<=l/\l<=h/\h<=m)/\sz'=sz,.nP id aW (off+l.toNat) (h.toNat-l.toNat) (m-l.toNat) sz)
    |none=>none
   |_,_,_=>none
  |_=>none
def atk(I:Mem)(L:bg):Option Value->Option AV->Prop
 |none,none=>True
 |some u,some v=>di I L u v
 |_,_=>False
theorem xm{d y:Int}{a:Option AV}{x:Option Value}(h:bnd d a=some y)(hx:atk I L x a) :
  (x=none/\y=d)\/(∃k,x=some (.int k y)):=by
 cases a with
 |none =>
  cases x with
  |none=>simp[bnd] at h;exact .inl ⟨rfl,h.symm⟩
  |some u=>exact hx.elim
 |some v =>
  cases x with
  |none=>exact hx.elim
  |some u =>
   unfold bnd at h;split at h
   ·rename_i heq;cases heq
   ·rename_i k n heq;cases heq;simp at h;subst h;exact .inr ⟨k,by rw[(di.dr hx).1]⟩
   ·cases h
theorem run_sliceBound{k:IntKind}{i:Int}{y:Nat}{c:BoundsCode}(h0:0<=i)(h:i<=y)(w:World):(Instr.sliceBound (.int k i) y c).run P w = .ok i.toNat w:=by simp[Instr.sliceBound,asIntOf,h0,h]
theorem rQ{isS:Bool}{len cap:Nat}{lo hi:Option Value}{l h:Int}(hlo:(lo=none/\l=0)\/∃k,lo=some (.int k l))(hhi:(hi=none/\h=len)\/∃k,hi=some (.int k h))
  (h0:0<=l) (h1:l<=h) (h2:h<=cap) (w:World):(Instr.sliceBounds isS len cap lo hi none).run P w = .ok (l.toNat,h.toNat,cap) w:=by
 have hl:l<=(h.toNat:Int):=by omega
 have hh0:0<=h:=by omega
 rcases hlo with ⟨rfl,rfl⟩|⟨k,rfl⟩<;>rcases hhi with ⟨rfl,rfl⟩|⟨k',rfl⟩
 ·simp[Instr.sliceBounds]
 ·simp[Instr.sliceBounds,run_sliceBound (P:=P) hh0 h2]
 ·simp only[Int.toNat_natCast] at hl;simp[Instr.sliceBounds,run_sliceBound (P:=P) h0 hl]
 ·simp[Instr.sliceBounds,run_sliceBound (P:=P) h0 hl,run_sliceBound (P:=P) hh0 h2]
theorem abU{α:Type}{sz:Nat} : ∀ {es:List (List α)} (_:∀e∈es,e.length=sz) (k:Nat),(es.take k).flatten=es.flatten.take (k * sz)
 | [],_,k=>by simp
 |e :: es,_,0=>by simp
 |e :: es,h,k+1=>by
  have he:=h e (by simp);have hm:(k+1) * sz=e.length+k * sz:=by rw[he,Nat.add_mul];omega
  rw[List.take_succ_cons,List.flatten_cons,List.flatten_cons,abU (λx hx=>h x (by simp[hx])) k,hm,List.take_length_add_append]
theorem abV{α:Type}{sz:Nat} : ∀ {es:List (List α)} (_:∀e∈es,e.length=sz) (k:Nat),(es.drop k).flatten=es.flatten.drop (k * sz)
 | [],_,k=>by simp
 |e :: es,_,0=>by simp
 |e :: es,h,k+1=>by
  have he:=h e (by simp);have hm:(k+1) * sz=e.length+k * sz:=by rw[he,Nat.add_mul];omega
  rw[List.drop_succ_cons,List.flatten_cons,abV (λx hx=>h x (by simp[hx])) k,hm,List.drop_length_add_append]
theorem VR.azs{u:Value}{es:List (List PV)}(h:VR I u (.aE es)){sz l k:Nat}(hsz:∀e∈es,e.length=sz)(hlk:l<=k)(hk:k<=es.length) :
  ∃ao cap,u = .slice ao es.length cap/\es.length<=cap/\∀m,k<=m->m<=cap->VR I (.slice (if m=l then ao else ao.map (·.add (l * sz))) (k-l) (m-l)) (.aE ((es.take k).drop l)):=by
 cases h with
 |aE ao n cap _ us sz' hn atl hl hv hone hm hnil hcap =>
  refine⟨ao,cap,by rw[hn],by omega,λm hkm hmc=>?_⟩;have hlen:((es.take k).drop l).length=k-l:=by simp;omega
  have hmem:∀e∈(es.take k).drop l,e.length=sz:=λe he=>hsz e (List.mem_of_mem_take (List.mem_of_mem_drop he))
  have hfl:((es.take k).drop l).flatten=(es.flatten.take (k * sz)).drop (l * sz):=by rw[abV (λe he=>hsz e (List.mem_of_mem_take he)),abU hsz]
  refine .aE _ _ _ _ ((us.take (k * sz)).drop (l * sz)) sz hlen hmem ?_ ?_ ?_ ?_ ?_ ?_
  ·rw[hfl,List.length_drop,List.length_take,List.length_drop,List.length_take,hl]
  ·intro j u c hu hc;rw[hfl] at hc;rw[List.getElem?_drop,List.getElem?_take] at hu hc;split at hu
   ·rename_i hj;rw[if_pos hj] at hc;exact hv _ u c hu hc
   ·cases hu
  ·intro u hu;exact hone u (List.mem_of_mem_take (List.mem_of_mem_drop hu))
  ·rcases hm with rfl|⟨b,off,rfl,hI⟩
   ·left;simp
   ·by_cases hc:m=l
    ·left;have:k=l:=by omega
     subst this;simp
    ·right;refine⟨b,off+l * sz,by simp[hc,Addr.add_mid],λj u hu=>?_⟩;rw[List.getElem?_drop,List.getElem?_take] at hu;split at hu
     ·have:=hI _ u hu;rw[Nat.add_assoc];exact this
     ·cases hu
  ·intro h;have:ao=none:=by
    split at h
    ·exact h
    ·simpa using h
   have:=hnil this;omega
  ·omega
theorem VR.part{u:Value}{es:List (List PV)}(h:VR I u (.aE es)){sz l k:Nat}(hsz:∀e∈es,e.length=sz)(hlk:l<=k)(hk:k<=es.length) :
  ∃ao cap,u = .slice ao es.length cap/\es.length<=cap/\VR I (.slice (if cap=l then ao else ao.map (·.add (l * sz))) (k-l) (cap-l)) (.aE ((es.take k).drop l)):=by
 obtain⟨ao,cap,h1,h2,h3⟩:=h.azs hsz hlk hk;exact⟨ao,cap,h1,h2,h3 cap (by omega) (Nat.le_refl _)⟩
theorem acX{isS:Bool}{len cap:Nat}{lo:Option Value}{l h m:Int}{k k':IntKind}(hlo:(lo=none/\l=0)\/∃k,lo=some (.int k l))
  (h0:0<=l) (h1:l<=h) (h2:h<=m) (h3:m<=cap) (w:World):(Instr.sliceBounds isS len cap lo (some (.int k h)) (some (.int k' m))).run P w = .ok (l.toNat,h.toNat,m.toNat) w:=by
 have hl:l<=(h.toNat:Int):=by omega
 have hh0:0<=h:=by omega
 have hm0:0<=m:=by omega
 have hm:h<=(m.toNat:Int):=by omega
 rcases hlo with ⟨rfl,rfl⟩|⟨k,rfl⟩
 ·simp[Instr.sliceBounds,run_sliceBound (P:=P) hm0 h3,run_sliceBound (P:=P) hh0 hm]
 ·simp[Instr.sliceBounds,run_sliceBound (P:=P) hm0 h3,run_sliceBound (P:=P) hh0 hm,run_sliceBound (P:=P) h0 hl]
theorem aiv{t:TypeId}{a v:AV}{lo hi mx:Option AV}{pre:Prop}(h:xk P t a lo hi mx=some (pre,v))(hp:pre){x:Value}{xlo xhi xmx:Option Value}(hx:di I L x a)
  (hlo:atk I L xlo lo) (hhi:atk I L xhi hi) (hmx:atk I L xmx mx) (w:World) :
  ∃r,(Instr.sliceAt t x xlo xhi xmx).run P w = .ok r w/\di I L r v:=by
 unfold xk at h;cases mx with
 |some m =>
  dsimp only at h;unfold slice3 at h;split at h
  ·rename_i es kh k km m';split at h
   ·rename_i e l he hl;split at h
    ·rename_i sz hsz;simp only[cm,gD] at h;obtain⟨h1,h2⟩:=h;subst h1 h2;obtain⟨⟨h0,h1,h2,h3⟩,hall⟩:=hp;cases xmx with
     |none=>exact hmx.elim
     |some um =>
     cases xhi with
     |none=>exact hhi.elim
     |some uh =>
     have em:um = .int km m':=(di.dr hmx).1;have eh:uh = .int kh k:=(di.dr hhi).1;subst em eh;obtain⟨ao,cap,rfl,hcap,hv⟩:=hx.nc.azs (l:=l.toNat) (k:=k.toNat) hall (by omega) (by omega);refine⟨_,?_,.p _ _ (hv m'.toNat (by omega) (by omega))⟩;have h4:m'<=(cap:Int):=by omega
     simp[Instr.sliceAt,Instr.slice,run_underlying (ey he),acX (P:=P) (isS:=true) (xm hl hlo) h0 h1 h2 h4,cR hsz]
    ·cases h
   ·cases h
  ·cases h
 |none =>
  cases xmx with
  |some _=>exact hmx.elim
  |none =>
  dsimp only at h;split at h
  ·rename_i s;split at h
   ·rename_i l k hs hl hk;simp only[cm,gD] at h;obtain⟨h1,h2⟩:=h;subst h1 h2;obtain⟨rfl,_⟩:=hx.dr;obtain⟨h0,h1,h2⟩:=hp;refine⟨_,?_,.p _ _ (.val _ rfl)⟩;simp[Instr.sliceAt,Instr.slice,run_underlying (abn hs),rQ (P:=P) (isS:=false) (xm hl hlo) (xm hk hhi) h0 h1 h2]
   ·cases h
  ·rename_i es;split at h
   ·rename_i e l k he hl hk;split at h
    ·rename_i sz hsz;simp only[cm,gD] at h;obtain⟨h1,h2⟩:=h;subst h1 h2;obtain⟨⟨h0,h1,h2⟩,hall⟩:=hp;obtain⟨ao,cap,rfl,hcap,hv⟩:=hx.nc.part (l:=l.toNat) (k:=k.toNat) hall (by omega) (by omega);refine⟨_,?_,.p _ _ hv⟩;have h3:k<=(cap:Int):=by omega
     simp[Instr.sliceAt,Instr.slice,run_underlying (ey he),rQ (P:=P) (isS:=true) (xm hl hlo) (xm hk hhi) h0 h1 h3,cR hsz]
    ·cases h
   ·cases h
  ·rename_i id aW off n m sz;split at h
   ·rename_i e l k he hl hk;split at h
    ·rename_i sz' hsz;simp only[cm,gD] at h;obtain⟨h1,h2⟩:=h;subst h1 h2;obtain⟨⟨h0,h1,h2⟩,rfl⟩:=hp;cases hx with
     |nP a _ _ v _ _ _ c hdr _ ql hle hn hm hz hh =>
      have h3:k<=(c:Int):=by omega
      refine⟨.slice (if c=l.toNat then a else a.map (·.add (l.toNat * sz'))) (k.toNat-l.toNat) (c-l.toNat),?_,.nP _ _ _ v _ _ _ _ hdr _ ql hle (by omega) (by omega) ?_ (λe=>?_)⟩
      ·simp[Instr.sliceAt,Instr.slice,run_underlying (ey he),rQ (P:=P) (isS:=true) (xm hl hlo) (xm hk hhi) h0 h1 h3,cR hsz]
      ·intro e;split at e
       ·have:=hz e;omega
       ·have:=hz (by simpa using e);omega
      ·obtain⟨ao,k',cap,e1,e2,e3⟩:=hh e;refine⟨ao,k',cap,e1,by omega,λhc=>?_⟩;by_cases hcl:c=l.toNat
       ·have hl0:l.toNat=0/\off=0:=by omega
        rw[if_pos hcl,e3 (by omega),hl0.1,hl0.2]
       ·rw[if_neg hcl,e3 (by omega)];cases ao with
        |none=>rfl
        |some g =>
         have aDZ:∀ (a:Addr) (m n:Nat),(a.add m).add n=a.add (m+n):=by intro a m n;unfold Addr.add;by_cases hm:m=0<;>by_cases hn:n=0<;>simp[hm,hn,Nat.add_assoc]
         simp[aDZ,Nat.add_mul]
    ·cases h
   ·cases h
  ·cases h
def rz(P:Program)(t:TypeId)(a:AV):Option (Prop×AV):=match a with
 | .p (.aE es)=>match isSlice P t with
  |true=>some (True,.p (.val (.int .i64 es.length)))
  |false=>none
 | .p .emp=>match isSlice P t with
  |true=>some (True,.p (.val (.int .i64 0)))
  |false=>none
 | .p (.val (.slice _ n _))=>match isSlice P t with
  |true=>some (True,.p (.val (.int .i64 n)))
  |false=>none
 | .p (.val (.string s))=>match ze P t with
  |true=>some (True,.p (.val (.int .i64 s.size)))
  |false=>none
 | .nP _ _ _ n _ _=>match isSlice P t with
  |true=>some (True,.p (.val (.int .i64 n)))
  |false=>none
 |_=>none
theorem sI{t:TypeId}(h:isSlice P t=true):∃e,P.underlying t=some (.slice e):=by
 unfold isSlice at h;split at h
 ·rename_i e he;exact⟨e,he⟩
 ·cases h
theorem abo{t ty:TypeId}{a v:AV}{pre:Prop}(h:rz P t a=some (pre,v)){x:Value}(hx:di I L x a)(w:World) :
  ∃r,(Builtin.len_ #[t] ty #[x]).run P w = .ok r w/\di I L r v:=by
 unfold rz at h;split at h
 ·split at h
  ·rename_i hs;simp only[cm,gD] at h;obtain⟨_,h2⟩:=h;subst h2;obtain⟨e,he⟩:=sI hs;obtain⟨ao,cap,rfl,_⟩:=hx.nc.aps;exact⟨_,by simp[Builtin.len_,run_underlying he,goInt],.p _ _ (.val _ rfl)⟩
  ·cases h
 ·split at h
  ·rename_i hs;simp only[cm,gD] at h;obtain⟨_,h2⟩:=h;subst h2;obtain⟨e,he⟩:=sI hs;cases hx.nc;exact⟨_,by simp[Builtin.len_,run_underlying he,goInt],.p _ _ (.val _ rfl)⟩
  ·cases h
 ·split at h
  ·rename_i hs;simp only[cm,gD] at h;obtain⟨_,h2⟩:=h;subst h2;obtain⟨e,he⟩:=sI hs;obtain⟨rfl,_⟩:=hx.dr;exact⟨_,by simp[Builtin.len_,run_underlying he,goInt],.p _ _ (.val _ rfl)⟩
  ·cases h
 ·split at h
  ·rename_i hs;simp only[cm,gD] at h;obtain⟨_,h2⟩:=h;subst h2;obtain⟨rfl,_⟩:=hx.dr;exact⟨_,by simp[Builtin.len_,run_underlying (abn hs),goInt],.p _ _ (.val _ rfl)⟩
  ·cases h
 ·split at h
  ·rename_i hs;simp only[cm,gD] at h;obtain⟨_,h2⟩:=h;subst h2;obtain⟨e,he⟩:=sI hs;cases hx;exact⟨_,by simp[Builtin.len_,run_underlying he,goInt],.p _ _ (.val _ rfl)⟩
  ·cases h
 ·cases h
end Go.bP
namespace Go.bP
open Go.RowKit
variable{P:Program}{I:Mem}{L:bg}
def qm(place:Nat->Option (Nat×Nat))(cells:List AV):List (Nat×AV)->Option (List AV)
 | []=>some cells
 |(i,v) :: rest=>match place i with
  |some (off,size)=>if (bO v).length=size/\off+size<=cells.length/\(bO v).all oo=true then qm place (splice cells off (bO v)) rest else none
  |none=>none
theorem ag3(off:Nat):∀ (l:List Value) (k:Nat) (cells:Array Value),off+k+l.length<=cells.size ->
  (l.zipIdx k).foldl (λ(cs:Array Value) (x:Value×Nat)=>cs.setIfInBounds (off+x.2) x.1) cells=(splice cells.toList (off+k) l).toArray
 | [],k,cells,_=>by simp[splice]
 |v :: l,k,cells,h=>by
  simp only[List.zipIdx_cons,List.foldl_cons];have h':off+(k+1)+l.length<=(cells.setIfInBounds (off+k) v).size:=by simp at h ⊢;omega
  rw[ag3 off l (k+1) _ h'];congr 1;simp only[splice,Array.toList_setIfInBounds,List.length_cons];have hlt:off+k<cells.toList.length:=by simp at h ⊢;omega
  have e1:off+(k+1)=off+k+1:=by omega
  have e2:off+k+(l.length+1)=off+k+1+l.length:=by omega
  rw[e1,e2,List.take_set,List.drop_set_of_lt (by omega),List.take_add_one];have:cells.toList[off+k]? = some (cells.toList[off+k]):=by simp[hlt]
  rw[this];simp only[Option.toList_some];rw[List.set_append_right _ _ (by rw[List.length_take];omega)];have hmin:min (off+k) cells.toList.length=off+k:=Nat.min_eq_left (Nat.le_of_lt hlt);rw[List.length_take,hmin,Nat.sub_self];simp
theorem zh{place abp:Nat->Option (Nat×Nat)}(hpl:∀i x,place i=some x->abp i=some x):∀ (parts:List (Nat×AV)) (vs:List (Nat×Value)) (cells:List AV) (us:List Value) (out:List AV),
  qm place cells parts=some out->us.length=cells.length->(∀ (j:Nat) u c,us[j]? = some u->cells[j]? = some c->di I L u c)->(∀u∈us,u.oneCell'=true) ->
  vs.length=parts.length->(∀ (j:Nat) x y,vs[j]? = some x->parts[j]? = some y->x.1=y.1/\di I L x.2 y.2) ->
  ∃uo:List Value,Instr.fill abp us.toArray vs=some uo.toArray/\uo.length=out.length/\(∀ (j:Nat) u c,uo[j]? = some u->out[j]? = some c->di I L u c)/\(∀u∈uo,u.oneCell'=true)
 | [],vs,cells,us,out,h,hl,hv,h1,hvl,_=>by have:vs=[]:=List.length_eq_zero_iff.1 hvl;subst this;simp[qm] at h;subst h;exact⟨us,rfl,hl,hv,h1⟩
 |(i,v) :: rest,[],cells,us,out,_,_,_,_,hvl,_=>by simp at hvl
 |(i,v) :: rest,(i',x) :: vs,cells,us,out,h,hl,hv,h1,hvl,hr=>by
  obtain⟨hii,hx⟩:=hr 0 _ _ rfl rfl;have hii:i'=i:=hii;have hx:di I L x v:=hx;subst hii;simp only[qm] at h;split at h
  ·rename_i off size hp;split at h
   ·rename_i hc;obtain⟨hsz,hle,hall⟩:=hc;have hsz:(bO v).length=size:=hsz;have hone:∀c∈bO v,oo c=true:=List.all_eq_true.1 hall;obtain⟨un,he,hul,hur⟩:=hx.cells hone;have hux:∀u∈un,u.oneCell'=true:=λu hu=>by
     obtain⟨j,hj⟩:=List.mem_iff_getElem?.1 hu;have hjl:j<(bO v).length:=by rw[<-hul];exact (List.getElem?_eq_some_iff.1 hj).1
     have hc:(bO v)[j]? = some ((bO v)[j]):=by simp[hjl]
     exact (hur j u _ hj hc).one (hone _ (pz _))
    have hul:un.length=(bO v).length:=hul;have hn:=gV (cs:=cells) (off:=off) (new:=bO v) (by rw[hsz];exact hle);have hn':=gV (cs:=us) (off:=off) (new:=un) (by omega);obtain⟨uo,g1,g2,g3,g4⟩:=zh hpl rest vs (splice cells off (bO v)) (splice us off un) out h (by omega)
     (abl hl hul hv hur) (λu hu=>by
      unfold splice at hu;simp only[List.mem_append] at hu;rcases hu with (hu|hu)|hu
      ·exact h1 u (List.mem_of_mem_take hu)
      ·exact hux u hu
      ·exact h1 u (List.mem_of_mem_drop hu)) (by simpa using hvl) (λj y z hy hz=>hr (j+1) y z hy hz)
    refine⟨uo,?_,g2,g3,g4⟩;have hlen:un.length=size:=by omega
    have hsize:off+un.length<=us.length:=by omega
    unfold Instr.fill;simp only[hpl _ _ hp,he];have hb:¬ (un.toArray.size≠size\/off+un.toArray.size > us.toArray.size):=by simp;omega
    rw[if_neg (by simpa using hb)];have azt:=ag3 off un 0 us.toArray (by simpa using hsize);simp only[Nat.add_zero] at azt;have:(un.toArray.zipIdx.foldl (λ(cs:Array Value) (x:Value×Nat)=>cs.setIfInBounds (off+x.2) x.1) us.toArray)=(splice us off un).toArray:=by rw[<-azt,<-Array.foldl_toList];simp
    exact (congrArg (λc=>Instr.fill abp c vs) this).trans g1
   ·cases h
  ·cases h
def fu(P:Program)(t:TypeId):Option (List (Nat×Nat)):=match P.underlying t with
 |some (.struct fs)=>fs.toList.mapM λf=>(bf P f.type).map λn=>(f.offset,n)
 |some (.array n e)=>(bf P e).map λsz=>(List.range n).map λi=>(i * sz,sz)
 |_=>none
def acY(P:Program)(t:TypeId)(parts:List (Nat×AV)):Option (Prop×AV):=match dn P t,fu P t with
 | some zs, some pl => if zs.all (·.oneCell') = true then
   match qm (λi=>pl[i]?) (zs.map λz=>.p (.val z)) parts with
   |some cs=>some (True,yA cs)
   |none=>none
  else none
 |_,_=>none
theorem zi{t:TypeId}{zs:List Value}(h:dn P t=some zs):∃i z,P.info? t=some i/\i.zero=some z/\z.cells.toList=zs:=by
 unfold dn at h;cases hi:P.info? t with
 |none=>simp[hi] at h
 |some i =>
  cases hz:i.zero with
  |none=>simp[hi,hz] at h
  |some z=>exact⟨i,z,rfl,hz,by simpa[hi,hz] using h⟩
theorem zj{t:TypeId}{zs:List Value}(h:dn P t=some zs)(w:World):∃z,(zeroValue t).run P w = .ok z w/\z.cells=zs.toArray:=by obtain⟨i,z,hi,hz,hc⟩:=zi h;refine⟨z,by simp[zeroValue,typeInfo,hi,hz],?_⟩;rw[<-hc]
theorem aa0{α β:Type}(g:α->Sem β)(g':α->Option β)(w:World):∀ (l:List α) (out:List β),l.mapM g'=some out ->
  (∀a b,g' a=some b->(g a).run P w = .ok b w)->(l.mapM g).run P w = .ok out w
 | [],out,h,_=>by simp at h;subst h;simp
 |a :: l,out,h,hg=>by
  simp only[List.mapM_cons,Option.bind_eq_bind,Option.pure_def] at h;cases ha:g' a with
  |none=>simp[ha] at h
  |some b =>
   cases hl:l.mapM g' with
   |none=>simp[ha,hl] at h
   |some bs=>simp[ha,hl] at h;subst h;simp[hg a b ha,aa0 g g' w l bs hl hg]
theorem aka(zs:List Value)(h:zs.all (·.oneCell')=true):(∀ (j:Nat) u c,zs[j]? = some u->(zs.map λz=>AV.p (.val z))[j]? = some c->di I L u c)/\∀u∈zs,u.oneCell'=true:=by have h1:∀u∈zs,u.oneCell'=true:=List.all_eq_true.1 h;refine⟨λj u c hu hc=>?_,h1⟩;rw[List.getElem?_map,hu] at hc;simp at hc;subst hc;exact .p _ _ (.val _ (h1 u (List.mem_of_getElem? hu)))
def aeR(I:Mem)(L:bg)(vs:List (Nat×Value))(parts:List (Nat×AV)):Prop:=vs.length=parts.length/\∀ (j:Nat) x y,vs[j]? = some x->parts[j]? = some y->x.1=y.1/\di I L x.2 y.2
theorem aiw{t:TypeId}{parts:List (Nat×AV)}{v:AV}{pre:Prop}(h:acY P t parts=some (pre,v)){vs:List (Nat×Value)}(hr:aeR I L vs parts)(w:World) :
  ∃r,(Instr.build t vs.toArray).run P w = .ok r w/\di I L r v:=by
 unfold acY at h;split at h
 ·rename_i zs pl hz hpl;split at h
  ·rename_i hone;split at h
   ·rename_i cs hf;simp only[cm,gD] at h;obtain⟨_,h2⟩:=h;subst h2;obtain⟨z,hzr,hzc⟩:=zj hz w;obtain⟨zr,z1⟩:=aka (I:=I) (L:=L) zs hone;unfold fu at hpl;split at hpl
    ·rename_i fs hfs;obtain⟨uo,g1,g2,g3,g4⟩:=zh (abp:=λi=>pl[i]?) (λi x h=>h) parts vs _ zs cs hf (by simp) zr z1 hr.1 hr.2;refine⟨_,?_,u7 g2 g3 g4⟩;have hm:(fs.mapM λ(f:Field)=>(do pure (f.offset,<-sizeOf f.type):Sem (Nat×Nat))).run P w = .ok pl.toArray w:=by
      rw[Array.mapM_eq_mapM_toList];have:=aa0 (P:=P) (λf:Field=>(do pure (f.offset,<-sizeOf f.type):Sem (Nat×Nat))) _ w fs.toList pl hpl (λf b hb=>by
       cases hs:bf P f.type with
       |none=>simp[hs] at hb
       |some n=>simp[hs] at hb;subst hb;simp[cR hs])
      rw[Sem.run_map,this];simp
     simp only[Instr.build,Sem.run_bind,hzr,Result.andThen_ok,run_underlying hfs,hm,hzc];simp[g1]
    ·rename_i n e hu;cases hsz:bf P e with
     |none=>simp[hsz] at hpl
     |some sz =>
      simp[hsz] at hpl;obtain⟨uo,g1,g2,g3,g4⟩:=zh (abp:=λi=>some (i * sz,sz)) (λi x h=>by
       rw[<-hpl,List.getElem?_map] at h;cases hi:(List.range n)[i]? with
       |none=>simp[hi] at h
       |some k =>
        simp[hi] at h;have:=List.getElem?_eq_some_iff.1 hi;obtain⟨hlt,hk⟩:=this;simp at hk;rw[<-h,hk]) parts vs _ zs cs hf (by simp) zr z1 hr.1 hr.2
      refine⟨_,?_,u7 g2 g3 g4⟩;simp only[Instr.build,Sem.run_bind,hzr,Result.andThen_ok,run_underlying hu,cR hsz,hzc];simp[g1]
    ·cases hpl
   ·cases h
  ·cases h
 ·cases h
end Go.bP
namespace Go.bP
open Go.RowKit
variable{P:Program}{I:Mem}{L:bg}
def chunk{α:Type}(sz:Nat):Nat->List α->List (List α)
 |0,_=>[]
 |n+1,l=>l.take sz :: chunk sz n (l.drop sz)
theorem abW{α:Type}(sz:Nat):∀ (n:Nat) (l:List α),(chunk sz n l).length=n
 |0,_=>rfl
 |n+1,l=>by simp[chunk,abW sz n]
theorem aa1{α:Type}(sz:Nat):∀ (n:Nat) (l:List α),l.length=n * sz->(chunk sz n l).flatten=l
 |0,l,h=>by have:l=[]:=List.length_eq_zero_iff.1 (by simpa using h);subst this;rfl
 |n+1,l,h=>by
  have hm:(n+1) * sz=n * sz+sz:=by rw[Nat.add_mul];omega
  rw[chunk,List.flatten_cons,aa1 sz n (l.drop sz) (by rw[List.length_drop];omega),List.take_append_drop]
theorem ag4{α:Type}(sz:Nat):∀ (n:Nat) (l:List α),l.length=n * sz->∀e∈chunk sz n l,e.length=sz
 |0,l,_,e,he=>by simp[chunk] at he
 |n+1,l,h,e,he=>by
  have hm:(n+1) * sz=n * sz+sz:=by rw[Nat.add_mul];omega
  simp only[chunk,List.mem_cons] at he;rcases he with rfl|he
  ·rw[List.length_take];omega
  ·exact ag4 sz n (l.drop sz) (by rw[List.length_drop];omega) e he
def gE(zs:List Value)(n:Nat):List AV:=(List.replicate n (zs.map λz=>AV.p (.val z))).flatten
def k9(P:Program)(t:TypeId)(n:Nat)(parts:List (Nat×AV)):Option (TypeId×List (List PV)):=match cW P t with
 |some e=>match bf P e,dn P e with
  | some sz, some zs => if zs.length = sz ∧ 0 < sz ∧ n * sz ≤ 16777216 ∧ zs.all (·.oneCell') = true then
    match qm (λi=>some (i * sz,sz)) (gE zs n) parts with
    |some cs=>match uN cs with
     |some ps=>if ps.length=n * sz then some (e,chunk sz n ps) else none
     |none=>none
    |none=>none
   else none
  |_,_=>none
 |none=>none
theorem acZ(zs:List Value)(n:Nat)(h:0<zs.length):((Array.range (n * zs.length)).map (λi=>zs.toArray[i % zs.toArray.size]!))=(List.replicate n zs).flatten.toArray:=by
 apply Array.ext';apply List.ext_getElem?;intro j;simp only[Array.toList_map,Array.toList_range,List.getElem?_map];have hall:∀e∈List.replicate n zs,e.length=zs.length:=λe he=>by rw[List.eq_of_mem_replicate he]
 by_cases hj:j<n * zs.length
 ·have hd:j / zs.length<n:=Nat.div_lt_of_lt_mul (by rw[Nat.mul_comm];exact hj);have hm:j % zs.length<zs.length:=Nat.mod_lt _ h;have:=kD hall (j / zs.length) (j % zs.length) (by simpa using hd) hm;have e1:j / zs.length * zs.length+j % zs.length=j:=by rw[Nat.mul_comm];exact Nat.div_add_mod j zs.length
  rw[e1] at this;rw[this];simp[hj,hd,hm]
 ·have h1:(List.range (n * zs.length))[j]? = none:=by simp;omega
  have h2:(List.replicate n zs).flatten[j]? = none:=by rw[List.getElem?_eq_none_iff,b5 hall];simp;omega
  rw[h1,h2];rfl
theorem vA{t:TypeId}{n:Nat}{parts:List (Nat×AV)}{e:TypeId}{es:List (List PV)}(h:k9 P t n parts=some (e,es)){vs:List (Nat×Value)}(hr:aeR I L vs parts)(w:World) :
  ∃ (uo:List Value) (sz:Nat),(Instr.buildSlice t n vs.toArray).run P w = .ok (.slice (some ⟨w.heap.size,0,none⟩) n n) (w.alloc (.cells uo.toArray e))/\cW P t=some e/\bf P e=some sz/\0<sz /\
   es.length=n/\(∀x∈es,x.length=sz)/\uo.length=es.flatten.length/\(∀ (j:Nat) u c,uo[j]? = some u->es.flatten[j]? = some c->VR I u c)/\∀u∈uo,u.oneCell'=true:=by
 unfold k9 at h;split at h
 ·rename_i e' he;split at h
  ·rename_i sz zs hsz hz;split at h
   ·rename_i hc;obtain⟨hzl,hpos,h24,hone⟩:=hc;split at h
    ·rename_i cs hf;split at h
     ·rename_i ps hps;split at h
      ·rename_i hlen;simp only[cm,gD] at h;obtain⟨h1,h2⟩:=h;subst h1 h2;have hcs:=sZ hps;obtain⟨z,hzr,hzc⟩:=zj hz w;have hbase:((List.replicate n zs).flatten).length=(gE zs n).length:=by simp[gE]
       have hrel:∀ (j:Nat) u c,((List.replicate n zs).flatten)[j]? = some u->(gE zs n)[j]? = some c->di I L u c:=by
        intro j u c hu hc;have e1:gE zs n=((List.replicate n zs).flatten).map (λz=>AV.p (.val z)):=by simp[gE,List.map_flatten]
        rw[e1,List.getElem?_map,hu] at hc;simp at hc;subst hc;have hu':=List.mem_of_getElem? hu;obtain⟨l,hl,hul⟩:=List.mem_flatten.1 hu';rw[List.eq_of_mem_replicate hl] at hul;exact .p _ _ (.val _ (List.all_eq_true.1 hone u hul))
       have h1:∀u∈(List.replicate n zs).flatten,u.oneCell'=true:=λu hu=>by obtain⟨l,hl,hul⟩:=List.mem_flatten.1 hu;rw[List.eq_of_mem_replicate hl] at hul;exact List.all_eq_true.1 hone u hul
       obtain⟨uo,g1,g2,g3,g4⟩:=zh (abp:=λi=>some (i * sz,sz)) (λi x h=>h) parts vs _ _ cs hf hbase hrel h1 hr.1 hr.2;have hfl:=aa1 sz n ps hlen;refine⟨uo,sz,?_,he,hsz,hpos,abW sz n ps,ag4 sz n ps hlen,?_,?_,g4⟩
       ·have hzero:((Array.range (n * sz)).map (λi=>zs.toArray[i % zs.toArray.size]!))=(List.replicate n zs).flatten.toArray:=by rw[<-hzl];exact acZ zs n (by omega)
        by_cases hn:n * sz=0
        ·have hn0:n=0:=by
          rcases Nat.mul_eq_zero.1 hn with h|h
          ·exact h
          ·omega
         subst hn0;simp only[List.replicate_zero,List.flatten_nil] at g1;have hr0:((Array.range (0 * sz)).map (λi=>(#[]:Array Value)[i % (#[]:Array Value).size]!)) = #[]:=by simp
         simp only[Instr.buildSlice,Sem.run_bind,run_underlying (ey he),Result.andThen_ok,cR hsz];rw[if_neg (by simp),if_pos hn];simp only[Sem.run_bind,Result.andThen_ok,Sem.run_pure,hr0,g1];simp[newRow,newObj,Sem.run]
        ·have azU:¬ (16777216<n * sz):=by omega
         have hz':(n * sz=0)=False:=by simpa using hn
         simp only[Instr.buildSlice,Sem.run_bind,run_underlying (ey he),Result.andThen_ok,cR hsz];rw[if_neg (by simpa using azU),if_neg hn];simp only[Sem.run_bind,hzr,Result.andThen_ok,Sem.run_pure,hzc,hzero,g1];simp[newRow,newObj,Sem.run]
       ·rw[hfl,g2,hcs];simp
       ·rw[hfl];rw[hcs] at g3;exact abT g3
      ·cases h
     ·cases h
    ·cases h
   ·cases h
  ·cases h
 ·cases h
def vc(P:Program)(t:TypeId)(n:Nat)(parts:List (Nat×AV)):Option (TypeId×List AV):=match cW P t with
 |some e=>match bf P e,dn P e with
  | some sz, some zs => if zs.length = sz ∧ 0 < sz ∧ n * sz ≤ 16777216 ∧ zs.all (·.oneCell') = true then
    match qm (λi=>some (i * sz,sz)) (gE zs n) parts with
    |some cs=>some (e,cs)
    |none=>none
   else none
  |_,_=>none
 |none=>none
theorem agx{t:TypeId}{n:Nat}{parts:List (Nat×AV)}{e:TypeId}{cs:List AV}(h:vc P t n parts=some (e,cs)){vs:List (Nat×Value)}(hr:aeR I L vs parts)(w:World) :
  ∃ (uo:List Value),(Instr.buildSlice t n vs.toArray).run P w = .ok (.slice (some ⟨w.heap.size,0,none⟩) n n) (w.alloc (.cells uo.toArray e)) /\
   uo.length=cs.length/\(∀ (j:Nat) u c,uo[j]? = some u->cs[j]? = some c->di I L u c)/\∀u∈uo,u.oneCell'=true:=by
 unfold vc at h;split at h
 ·rename_i e' he;split at h
  ·rename_i sz zs hsz hz;split at h
   ·rename_i hc;obtain⟨hzl,hpos,h24,hone⟩:=hc;split at h
    ·rename_i cs' hf
     ··
       simp only[cm,gD] at h;obtain⟨h1,h2⟩:=h;subst h1 h2;obtain⟨z,hzr,hzc⟩:=zj hz w;have hbase:((List.replicate n zs).flatten).length=(gE zs n).length:=by simp[gE]
       have hrel:∀ (j:Nat) u c,((List.replicate n zs).flatten)[j]? = some u->(gE zs n)[j]? = some c->di I L u c:=by
        intro j u c hu hc;have e1:gE zs n=((List.replicate n zs).flatten).map (λz=>AV.p (.val z)):=by simp[gE,List.map_flatten]
        rw[e1,List.getElem?_map,hu] at hc;simp at hc;subst hc;have hu':=List.mem_of_getElem? hu;obtain⟨l,hl,hul⟩:=List.mem_flatten.1 hu';rw[List.eq_of_mem_replicate hl] at hul;exact .p _ _ (.val _ (List.all_eq_true.1 hone u hul))
       have h1:∀u∈(List.replicate n zs).flatten,u.oneCell'=true:=λu hu=>by obtain⟨l,hl,hul⟩:=List.mem_flatten.1 hu;rw[List.eq_of_mem_replicate hl] at hul;exact List.all_eq_true.1 hone u hul
       obtain⟨uo,g1,g2,g3,g4⟩:=zh (abp:=λi=>some (i * sz,sz)) (λi x h=>h) parts vs _ _ cs' hf hbase hrel h1 hr.1 hr.2;refine⟨uo,?_,g2,g3,g4⟩
       ·have hzero:((Array.range (n * sz)).map (λi=>zs.toArray[i % zs.toArray.size]!))=(List.replicate n zs).flatten.toArray:=by rw[<-hzl];exact acZ zs n (by omega)
        by_cases hn:n * sz=0
        ·have hn0:n=0:=by
          rcases Nat.mul_eq_zero.1 hn with h|h
          ·exact h
          ·omega
         subst hn0;simp only[List.replicate_zero,List.flatten_nil] at g1;have hr0:((Array.range (0 * sz)).map (λi=>(#[]:Array Value)[i % (#[]:Array Value).size]!)) = #[]:=by simp
         simp only[Instr.buildSlice,Sem.run_bind,run_underlying (ey he),Result.andThen_ok,cR hsz];rw[if_neg (by simp),if_pos hn];simp only[Sem.run_bind,Result.andThen_ok,Sem.run_pure,hr0,g1];simp[newRow,newObj,Sem.run]
        ·have azU:¬ (16777216<n * sz):=by omega
         have hz':(n * sz=0)=False:=by simpa using hn
         simp only[Instr.buildSlice,Sem.run_bind,run_underlying (ey he),Result.andThen_ok,cR hsz];rw[if_neg (by simpa using azU),if_neg hn];simp only[Sem.run_bind,hzr,Result.andThen_ok,Sem.run_pure,hzc,hzero,g1];simp[newRow,newObj,Sem.run]
    ·cases h
   ·cases h
  ·cases h
 ·cases h
def isNil:AV->Bool
 | .p .emp=>true
 | .p (.val (.slice none 0 0))=>true
 |_=>false
theorem aeS{a:AV}(h:isNil a=true){u:Value}(hu:di I L u a):∃ao,u = .slice ao 0 0:=by
 unfold isNil at h;split at h
 ·cases hu.nc;exact⟨_,rfl⟩
 ·exact⟨none,hu.dr.1⟩
 ·cases h
def eU(P:Program)(t1 t2:TypeId):Option (TypeId×Nat×Nat):=if t1=t2 then match cW P t1 with
 |some e=>match bf P e,u6 P e,dn P e with
  |some sz,some sy,some zs=>if zs.length=sz/\0<sz/\0<sy then some (e,sz,sy) else none
  |_,_,_=>none
 |none=>none else none
theorem qX{t1 t2 e:TypeId}{sz b:Nat}(h:eU P t1 t2=some (e,sz,b)):t1=t2/\P.underlying t1=some (.slice e)/\0<sz/\0<b /\
  ∃i z,P.info? e=some i/\i.zero=some z/\i.size=sz/\i.bytes=b/\z.cells.size=sz:=by
 unfold eU at h;split at h
 ·rename_i h12;split at h
  ·rename_i e' he;split at h
   ·rename_i sz' b' zs hs hb hz;split at h
    ·rename_i hc;simp only[cm,gD] at h;obtain⟨r1,r2,r3⟩:=h;subst r1 r2 r3;obtain⟨i,z,hi,hzz,hzc⟩:=zi hz;refine⟨h12,ey he,hc.2.1,hc.2.2,i,z,hi,hzz,?_,?_,?_⟩
     ·simpa[bf,hi] using hs
     ·simpa[u6,hi] using hb
     ·rw[<-hc.1,<-hzc];simp
    ·cases h
   ·cases h
  ·cases h
 ·cases h
theorem rR{t ty e:TypeId}{i:TypeInfo}{z:Value}{sz:Nat}(ht:P.underlying t=some (.slice e))(hi:P.info? e=some i)(hz:i.zero=some z)(hs:i.size=sz)(ao:Option Addr)
  (a:Addr) (m c:Nat) (news:List Value) (w:World) (hl:news.length=m * sz) (hnews:∀ (j:Nat) v,news[j]? = some v->w.cell? (a.add j)=some v)
  (h0:0<m) (hb:m * i.bytes<=140737488355328) (hm:m<=9223372036854775807) :
  ∃cap rest,(Builtin.append_ #[t,t] ty #[.slice ao 0 0,.slice (some a) m c]).run P w =
   .ok (.slice (some ⟨w.heap.size,0,none⟩) m cap) (w.drew.alloc (.cells (news++rest).toArray e))/\m<=cap/\(news++rest).length=m * sz+(cap-m) * z.cells.size/\cap<=maxLen:=by
 subst hs;refine⟨grownCap w m 0 e,(Builtin.zeroCells z.cells (grownCap w m 0 e-m)).toList,?_,grownCap_ge w m 0 e,?_,grownCap_le_maxLen w m 0 e (by simp only[maxLen];omega)⟩
 ·have h63:(m:Int)<=9223372036854775807:=by omega
  cases ao with
  |none=>rw[run_append_nil w t ty e i z ht hi hz a m c news hl hnews h0 h63 (by omega)];congr 3;apply Array.ext';simp
  |some b =>
   have hnx:Builtin.nextslicecap (0+m) 0 * i.bytes<=281474976710656:=by rw[Nat.zero_add,nextslicecap_zero h0];omega
   have:=run_append_grow (P:=P) w t ty e i z ht hi hz b 0 0 [] (by simp) (by simp) a m c news hl hnews (by omega) (by simpa using h63) hnx;simp only[Nat.zero_add] at this;rw[this];congr 3;apply Array.ext';simp
 ·rw[List.length_append,hl,Array.length_toList,size_zeroCells]
end Go.bP
namespace Go.bP
open Go.RowKit
variable{P:Program}{I:Mem}{L:bg}
def aix(P:Program)(t1 t2:TypeId)(a b:AV):Option (Prop×AV):=match isNil a,eU P t1 t2 with
 |true,some (_,sz,sy)=>match b with
  | .p (.aE es)=>some (es.length * sy<=140737488355328/\∀x∈es,x.length=sz,.p (.aE es))
  |b=>match isNil b with
   |true=>some (True,.p .emp)
   |false=>none
 |_,_=>none
def agy(k:IntKind)(n:Int):List AV->Option (Prop×AV)
 | []=>some (True,.p (.val (.int k n)))
 | .p (.val (.int _ m)) :: r=>agy k (max n m) r
 |_=>none
def atm(k:IntKind)(n:Int):List AV->Option (Prop×AV)
 | []=>some (True,.p (.val (.int k n)))
 | .p (.val (.int _ m)) :: r=>atm k (min n m) r
 |_=>none
theorem aeT{k:IntKind} : ∀ {dP:List AV} {n:Int} {v:AV} {pre:Prop} {us:List Value},agy k n dP=some (pre,v)->ng I L us dP->∀w:World,∃r,(us.foldlM Builtin.max2 (.int k n)).run P w = .ok r w/\di I L r v
 | [],n,v,pre,us,h,hu,w=>by simp only[agy,cm,gD] at h;obtain⟨_,rfl⟩:=h;have:us=[]:=List.length_eq_zero_iff.1 (by simpa using hu.1);subst this;exact⟨_,rfl,.p _ _ (.val _ rfl)⟩
 |a :: r,n,v,pre,us,h,hu,w=>by
  unfold agy at h;split at h
  ·rename_i e;cases e
  ·rename_i k' m r' e;simp only[List.cons.injEq] at e;obtain⟨rfl,rfl⟩:=e
   match us,hu with
   | [],hu=>have:=hu.1;simp at this
   |u :: us,hu =>
    obtain⟨rfl,_⟩:=(hu.2 0 u _ rfl rfl).dr;obtain⟨q,h1,h2⟩:=aeT h (us:=us) ⟨by simpa using hu.1,λj u c hu' hc=>hu.2 (j+1) u c hu' hc⟩ w;refine⟨q,?_,h2⟩;have e:(if m > n then m else n)=max n m:=by omega
    rw[List.foldlM_cons,Sem.run_bind];simp only[Builtin.max2,Sem.run_pure,Result.andThen_ok,e];exact h1
  ·cases h
theorem aeU{k:IntKind} : ∀ {dP:List AV} {n:Int} {v:AV} {pre:Prop} {us:List Value},atm k n dP=some (pre,v)->ng I L us dP->∀w:World,∃r,(us.foldlM Builtin.min2 (.int k n)).run P w = .ok r w/\di I L r v
 | [],n,v,pre,us,h,hu,w=>by simp only[atm,cm,gD] at h;obtain⟨_,rfl⟩:=h;have:us=[]:=List.length_eq_zero_iff.1 (by simpa using hu.1);subst this;exact⟨_,rfl,.p _ _ (.val _ rfl)⟩
 |a :: r,n,v,pre,us,h,hu,w=>by
  unfold atm at h;split at h
  ·rename_i e;cases e
  ·rename_i k' m r' e;simp only[List.cons.injEq] at e;obtain⟨rfl,rfl⟩:=e
   match us,hu with
   | [],hu=>have:=hu.1;simp at this
   |u :: us,hu =>
    obtain⟨rfl,_⟩:=(hu.2 0 u _ rfl rfl).dr;obtain⟨q,h1,h2⟩:=aeU h (us:=us) ⟨by simpa using hu.1,λj u c hu' hc=>hu.2 (j+1) u c hu' hc⟩ w;refine⟨q,?_,h2⟩;have e:(if m<n then m else n)=min n m:=by omega
    rw[List.foldlM_cons,Sem.run_bind];simp only[Builtin.min2,Sem.run_pure,Result.andThen_ok,e];exact h1
  ·cases h
def tv(P:Program)(b:Builtin)(ts:List TypeId)(dP:List AV):Option (Prop×AV):=match b,ts,dP with
 | .len,[t],[a]=>rz P t a
 | .append,[t1,t2],[a,b]=>aix P t1 t2 a b
 | .max,_,.p (.val (.int k n)) :: r=>agy k n r
 | .min,_,.p (.val (.int k n)) :: r=>atm k n r
 |_,_,_=>none
def uO(P:Program)(o:Oper)(ρ:Operand->AV):Option (Prop×AV):=match o.op with
 | .move x | .assign x=>some (True,ρ x)
 | .pick c a b=>ag2 (ρ c) (ρ a) (ρ b)
 | .load t a=>apr P t (ρ a)
 | .fieldAddr s a k=>ais P s (ρ a) k
 | .indexAddr t x i=>pF P t (ρ x) (ρ i)
 | .index t x i=>amQ P t (ρ x) (ρ i)
 | .extract x k=>tu (ρ x) k
 | .binOp op t x y _=>lT P op t (ρ x) (ρ y)
 | .unOp op _ x=>unX op (ρ x)
 | .convert s d x=>aeP P s d (ρ x)
 | .makeFunc fn f c=>some (True,aj8 fn (f.toList.map ρ) (c.toList.map ρ))
 | .build t parts=>acY P t (parts.toList.map λx=>(x.1,ρ x.2))
 | .buildSlice t n parts=>match k9 P t n (parts.toList.map λx=>(x.1,ρ x.2)) with
  |some (_,es)=>match n with
   |0=>some (True,.p .emp)
   |_=>some (True,.p (.aE es))
  |none=>none
 | .slice t x lo hi mx=>xk P t (ρ x) (lo.map ρ) (hi.map ρ) (mx.map ρ)
 | .nilCheck x=>atj (ρ x)
 | .call c=>match c.callee with
  | .builtin b=>tv P b c.argTypes.toList (c.args.toList.map ρ)
  |_=>none
 |_=>none
theorem vX{σ:Operand->Value}{ρ:Operand->AV}(hσ:∀x,di I L (σ x) (ρ x))(l:List (Nat×Operand)) :
  aeR I L (l.map λx=>(x.1,σ x.2)) (l.map λx=>(x.1,ρ x.2)):=by
 refine⟨by simp,λj x y hx hy=>?_⟩;rw[List.getElem?_map] at hx hy;cases hj:l[j]? with
 |none=>simp[hj] at hx
 |some z=>simp[hj] at hx hy;subst hx hy;exact⟨rfl,hσ _⟩
theorem tw{σ:Operand->Value}{ρ:Operand->AV}(hσ:∀x,di I L (σ x) (ρ x))(l:List Operand) :
  ng I L (l.map σ) (l.map ρ):=by
 refine⟨by simp,λj x y hx hy=>?_⟩;rw[List.getElem?_map] at hx hy;cases hj:l[j]? with
 |none=>simp[hj] at hx
 |some z=>simp[hj] at hx hy;subst hx hy;exact hσ _
theorem aiy{σ:Operand->Value}{ρ:Operand->AV}(hσ:∀x,di I L (σ x) (ρ x))(l:Option Operand):atk I L (l.map σ) (l.map ρ):=by
 cases l with
 |none=>trivial
 |some x=>exact hσ x
def mR(P:Program)(C:Ctx)(H:aq)(I:Mem)(L:bg)(w:World)(r:Result Next)(v:AV)(H':aq):Prop:=∃u w' I' L',(r = .ok (.value u) w'\/(r = .ok .skip w'/\u=undef))/\di I' L' u v/\Fr C I L H w I' L' H' w'
theorem mR.still{C:Ctx}{H:aq}{w:World}{v:AV}{u:Value}{r:Result Next}(hr:r = .ok (.value u) w)(h:di I L u v):mR P C H I L w r v H:=⟨u,w,I,L,.inl hr,h,Fr.refl _ _ _ _ _⟩
theorem mR.jf{C:Ctx}{H:aq}{w:World}{v:AV}{s:Sem Value}{s':Sem Next}(hs:∀w,s'.run P w=(s.run P w).andThen λu w'=>.ok (.value u) w')(h:∃u,s.run P w = .ok u w/\di I L u v) :
  mR P C H I L w (s'.run P w) v H:=by
 obtain⟨u,hr,ha⟩:=h;exact .still (by rw[hs,hr];rfl) ha
theorem run_lift(s:Sem Value)(w:World):(do pure (.value (<-s)):Sem Next).run P w=(s.run P w).andThen λu w'=>.ok (.value u) w':=by simp
theorem amS{t1 t2 ty:TypeId}{a b v:AV}{pre:Prop}(h:aix P t1 t2 a b=some (pre,v))(hp:pre){C:Ctx}{H:aq}{env:Env}{tm:Array Value}{w:World}(hs:fV C env H I L tm w)
  {x y:Value} (hx:di I L x a) (hy:di I L y b) {s':Sem Next} (hs':∀w,s'.run P w=((Builtin.append_ #[t1,t2] ty #[x,y]).run P w).andThen λu w'=>.ok (.value u) w') :
  mR P C H I L w (s'.run P w) v H:=by
 unfold aix at h;split at h
 ·rename_i e sz sy hn ht
  obtain⟨rfl,hu,hpos,aeV,i,z,hi,hz,hsz,hby,hzc⟩:=qX ht;obtain⟨ao,rfl⟩:=aeS hn hx;have nothing:∀ (bo:Option Addr) (c:Nat),(Builtin.append_ #[t1,t1] ty #[.slice ao 0 0,.slice bo 0 c]).run P w = .ok (.slice ao 0 0) w:=by intro bo c;cases ao<;>cases bo<;>simp[Builtin.append_,run_underlying hu,sizeOf,typeInfo,hi,Builtin.lenOf,Builtin.firstCells,loadCells,loadCellsFrom,storeCells]
  split at h
  ·rename_i es;simp only[cm,gD] at h;obtain⟨h1,h2⟩:=h;subst h1 h2;obtain⟨hb,hall⟩:=hp;cases hy.nc with
   |aE bo n cap _ us sz' hlen atl hl hv hone hm hnil hcap =>
    subst hlen;by_cases h0:es.length=0
    ·have he:es=[]:=List.length_eq_zero_iff.1 h0;subst he;refine⟨_,w,I,L,.inl (by rw[hs',List.length_nil,nothing];rfl),?_,Fr.refl _ _ _ _ _⟩;exact .p _ _ (.aE ao 0 0 [] [] sz rfl (by simp) (by simp) (by simp) (by simp) (.inl rfl) (λ_=>⟨rfl,rfl⟩) (Nat.le_refl _))
    ·have hfl:=b5 hall;rcases hm with rfl|⟨bb,off,rfl,hI⟩
     ·exfalso;have hz0:es.flatten.length=0:=by rw[<-hl];rfl
      rw[hfl] at hz0;rcases Nat.mul_eq_zero.1 hz0 with h|h<;>omega
     ·obtain⟨cp,rest,hr,hcp,hrl,_⟩:=rR (P:=P) (ty:=ty) hu hi hz hsz ao ⟨bb,off,none⟩ es.length cap us w (by rw[hl,hfl]) (λj v hjv=>by
       rw[Addr.add_mid];exact hs.mem _ _ _ (hI j v hjv)) (by omega) (by rw[hby];exact hb) (by
        have:=Nat.le_mul_of_pos_right es.length aeV;omega)
      refine⟨_,_,I.with w.heap.size (us++rest).toArray,L,.inl (by rw[hs',hr];rfl),.p _ _ ?_,(Fr.drew C I L H w).trans (Fr.imm C I L H w.drew _ e)⟩;exact VR.aiq (w:=w) hs.mem hall hl hv hone hcp
  ·rename_i b hne;split at h
   ·rename_i hnb;simp only[cm,gD] at h;obtain⟨_,h2⟩:=h;subst h2;obtain⟨bo,rfl⟩:=aeS hnb hy;exact .still (by rw[hs',nothing];rfl) (.p _ _ (.emp ao))
   ·cases h
 ·cases h
theorem aqf{o:Oper}{ρ:Operand->AV}{v:AV}{pre:Prop}(h:uO P o ρ=some (pre,v))(hp:pre){C:Ctx}{H:aq}{env:Env}{tm:Array Value}{w:World}
  (hs:fV C env H I L tm w) {σ:Operand->Value} (hσ:∀x,di I L (σ x) (ρ x)):mR P C H I L w ((execOp σ o).run P w) v H:=by
 unfold uO at h;unfold execOp;cases hop:o.op<;>simp only[hop] at h ⊢<;>try (cases h;done)
 case move x=>simp only[cm,gD] at h;obtain⟨_,h2⟩:=h;subst h2;exact .still rfl (hσ x)
 case assign x=>simp only[cm,gD] at h;obtain⟨_,h2⟩:=h;subst h2;exact .still rfl (hσ x)
 case pick c a b =>
  unfold ag2 at h;split at h
  ·rename_i hc;simp only[cm,gD] at h;obtain⟨_,h2⟩:=h;subst h2;have:=(hc ▸ hσ c).dr.1;exact .still (u:=σ a) (by simp[this,asBool]) (hσ a)
  ·rename_i hc;simp only[cm,gD] at h;obtain⟨_,h2⟩:=h;subst h2;have:=(hc ▸ hσ c).dr.1;exact .still (u:=σ b) (by simp[this,asBool]) (hσ b)
  ·cases h
 case load t a=>exact .jf (run_lift _) (aj5 h (hσ a) hs.mem)
 case fieldAddr s a k=>exact .jf (run_lift _) (ait h hp (hσ a) w)
 case indexAddr t x i=>exact .jf (run_lift _) (aiu h hp (hσ x) (hσ i) w)
 case index t x i=>exact .jf (run_lift _) (amR h hp (hσ x) (hσ i) w)
 case extract x k=>exact .jf (run_lift _) (aeQ h (hσ x) w)
 case binOp op t x y ty=>exact .jf (run_lift _) (amP h hp (hσ x) (hσ y) w x y)
 case unOp op t x=>exact .jf (run_lift _) (aqe h (hσ x) w)
 case convert s d x=>exact .jf (run_lift _) (aj4 h (hσ x) w)
 case makeFunc fn f c =>
  simp only[cm,gD] at h;obtain⟨_,h2⟩:=h;subst h2;obtain⟨l1,r1⟩:=tw (I:=I) (L:=L) hσ f.toList;obtain⟨l2,r2⟩:=tw (I:=I) (L:=L) hσ c.toList;refine .jf (run_lift _) ⟨_,?_,aj9 l1 l2 r1 r2⟩;have e1:∀l:Array Operand,l.map σ=(l.toList.map σ).toArray:=λl=>by apply Array.ext';simp
  simp only[Instr.makeFunc,Sem.run_pure,e1]
 case build t parts=>obtain⟨r,hr,ha⟩:=aiw h (vX hσ parts.toList) w;refine .jf (run_lift _) ⟨r,?_,ha⟩;rw[<-hr];congr 2;apply Array.ext';simp
 case buildSlice t n parts =>
  split at h
  ·rename_i e es hb;obtain⟨uo,sz,hr,_,_,hpos,hn,hall,hl,hv,hone⟩:=vA hb (vX hσ parts.toList) w;have hr':(Instr.buildSlice t n (parts.map λx=>(x.1,σ x.2))).run P w = .ok (.slice (some ⟨w.heap.size,0,none⟩) n n) (w.alloc (.cells uo.toArray e)):=by rw[<-hr];congr 2;apply Array.ext';simp
   refine⟨.slice (some ⟨w.heap.size,0,none⟩) n n,_,I.with w.heap.size uo.toArray,L,.inl (by rw[run_lift,hr'];rfl),?_,Fr.imm C I L H w _ e⟩;split at h
   ·simp only[cm,gD] at h;obtain⟨_,h2⟩:=h;subst h2;exact .p _ _ (.emp _)
   ·simp only[cm,gD] at h;obtain⟨_,h2⟩:=h;subst h2;have:=VR.aiq (w:=w) (us:=uo) (rest:=[]) hs.mem hall hl hv hone (cap:=n) (by omega);rw[List.append_nil] at this;rw[hn] at this;exact .p _ _ this
  ·cases h
 case slice t x lo hi mx=>exact .jf (run_lift _) (aiv h hp (hσ x) (aiy hσ lo) (aiy hσ hi) (aiy hσ mx) w)
 case nilCheck x =>
  have hx:=hσ x;generalize σ x=u at hx ⊢;generalize ρ x=a at h hx;unfold atj at h;split at h
  ·simp only[cm,gD] at h;obtain⟨_,h2⟩:=h;subst h2;cases hx with
   |ptr id b off hl=>exact .still rfl (.ptr _ _ _ hl)
  ·simp only[cm,gD] at h;obtain⟨_,h2⟩:=h;subst h2;cases hx with
   |p _ _ hx=>cases hx with
    |fq b base _ us o hl hv hone hm=>exact .still rfl (.p _ _ (.fq b base _ us _ hl hv hone hm))
  ·simp only[cm,gD] at h;obtain⟨_,h2⟩:=h;subst h2;cases hx with
   |p _ _ hx=>cases hx with
    |jF _ us vs _ _ hl hl' hv yz=>exact .still rfl (.p _ _ (.jF _ us vs _ _ hl hl' hv yz))
  ·simp only[cm,gD] at h;obtain⟨_,h2⟩:=h;subst h2;cases hx with
   |jF _ us vs _ _ hl hl' hv yz=>exact .still rfl (.jF _ us vs _ _ hl hl' hv yz)
  ·cases h
 case call c =>
  split at h
  ·rename_i b hc;obtain⟨hl,hr⟩:=tw (I:=I) (L:=L) hσ c.args.toList;unfold tv at h;split at h
   ·rename_i t a ht ha;have hat:c.argTypes = #[t]:=by rw[<-Array.toArray_toList (xs:=c.argTypes),ht]
    rw[ha] at hl hr;cases hca:c.args.toList with
    |nil=>simp[hca] at ha
    |cons x r =>
     have hr0:r=[]:=by simpa[hca] using congrArg List.length ha
     subst hr0;have hx:ρ x=a:=by simpa[hca] using ha
     have hargs:c.args = #[x]:=by rw[<-Array.toArray_toList (xs:=c.args),hca]
     have:=abo (ty:=o.type) h (hx ▸ hσ x) w;refine .jf (s:=Builtin.len_ #[t] o.type #[σ x]) (λw=>?_) this;simp[resolve,hc,invoke,builtin,hat,hargs]
   ·rename_i t1 t2 a b ht ha;have hat:c.argTypes = #[t1,t2]:=by rw[<-Array.toArray_toList (xs:=c.argTypes),ht]
    cases hca:c.args.toList with
    |nil=>simp[hca] at ha
    |cons x r =>
     cases r with
     |nil=>simp[hca] at ha
     |cons y r =>
      have hr0:r=[]:=by simpa[hca] using congrArg List.length ha
      subst hr0;have hxy:ρ x=a/\ρ y=b:=by simpa[hca] using ha
      have hargs:c.args = #[x,y]:=by rw[<-Array.toArray_toList (xs:=c.args),hca]
      refine amS (ty:=o.type) h hp hs (hxy.1 ▸ hσ x) (hxy.2 ▸ hσ y) (λw=>?_);simp[resolve,hc,invoke,builtin,hat,hargs]
   ·rename_i k n r ha;cases hca:c.args.toList with
    |nil=>simp[hca] at ha
    |cons x xs =>
     have hxr:ρ x = .p (.val (.int k n))/\xs.map ρ=r:=by simpa[hca] using ha
     have hx:=hσ x;rw[hxr.1] at hx;obtain⟨q,h1,h2⟩:=aeT (P:=P) h (hxr.2 ▸ tw (I:=I) (L:=L) hσ xs) w;refine .jf (s:=(xs.map σ).foldlM Builtin.max2 (.int k n)) (λw=>?_) ⟨q,h1,h2⟩;simp[resolve,hc,invoke,builtin,Builtin.max_,hca,hx.dr.1]
   ·rename_i k n r ha;cases hca:c.args.toList with
    |nil=>simp[hca] at ha
    |cons x xs =>
     have hxr:ρ x = .p (.val (.int k n))/\xs.map ρ=r:=by simpa[hca] using ha
     have hx:=hσ x;rw[hxr.1] at hx;obtain⟨q,h1,h2⟩:=aeU (P:=P) h (hxr.2 ▸ tw (I:=I) (L:=L) hσ xs) w;refine .jf (s:=(xs.map σ).foldlM Builtin.min2 (.int k n)) (λw=>?_) ⟨q,h1,h2⟩;simp[resolve,hc,invoke,builtin,Builtin.min_,hca,hx.dr.1]
   ·cases h
  ·cases h
end Go.bP
namespace Go.bP
open Go.RowKit
variable{P:Program}{I:Mem}{L:bg}
def snap(w:World):Mem:=λb o=>w.cell? ⟨b,o,none⟩
theorem mz{w:World}(h:I.inW w):I.sub (snap w):=λb o u hu=>h b o u hu
theorem aeW(w:World):(snap w).inW w:=λ_ _ _ h=>h
def rowOf(H:aq)(id aW:Nat):Option (List (List PV)):=match H id with
 |some (.row v _ _ es)=>if v=aW then some es else none
 |some (.shut v es)=>if v=aW then some es else none
 |some (.tail v _ _ es)=>if v=aW then some es else none
 |_=>none
theorem zk{C:Ctx}{H:aq}{env:Env}{tm:Array Value}{w:World}(hs:fV C env H I L tm w){id aW:Nat}{es:List (List PV)}(h:rowOf H id aW=some es) :
  ∃hdr sz,L id=some (.row aW hdr sz)/\VR (snap w) hdr (.aE es)/\(∀x∈es,x.length=sz)/\(es≠[]->∃g o n cap,hdr = .slice (some ⟨g,o,none⟩) n cap):=by
 unfold rowOf at h;split at h
 ·rename_i v e sz es' hH;split at h
  ·rename_i hv;simp at h;subst h hv;obtain⟨hdr,us,h1,h2,h3,h4,h5,h6,h7⟩:=hs.chunk id _ hH;refine⟨hdr,sz,h1,?_,h4,?_⟩
   ·have hfl:=b5 h4;have hlen:us.length=es'.flatten.length:=by rw[hfl];exact h2.1
    rcases h2.2 with ⟨rfl,hn⟩|⟨g,cap,cur,rfl,hb,hg,hnc,hcm,hcs,nh⟩
    ·have he:es'=[]:=List.length_eq_zero_iff.1 hn;subst he;exact .aE none 0 0 [] us sz rfl (by simp) hlen (λj u c hu hc=>(h5 j u c hu hc).mono (mz hs.mem)) h6 (.inl (List.length_eq_zero_iff.1 (by simpa using hlen))) (λ_=>⟨rfl,rfl⟩) (Nat.le_refl _)
    ·refine .aE _ _ _ es' us sz rfl h4 hlen (λj u c hu hc=>(h5 j u c hu hc).mono (mz hs.mem)) h6 (.inr ⟨g,0,rfl,λj u hu=>?_⟩) (by simp) hnc;rw[Nat.zero_add];show w.cell? ⟨g,j,none⟩=some u;rw[gW hg];rw[<-nh,List.getElem?_take] at hu;split at hu
     ·simpa using hu
     ·cases hu
   ·intro hne;rcases h2.2 with ⟨rfl,hn⟩|⟨g,cap,cur,rfl,_⟩
    ·exact absurd (List.length_eq_zero_iff.1 hn) hne
    ·exact⟨g,0,_,cap,rfl⟩
  ·cases h
 ·rename_i v es' hH;split at h
  ·rename_i hv;simp at h;subst h hv;obtain⟨hdr,sz,h1,h2,h3,h4⟩:=hs.chunk id _ hH;exact⟨hdr,sz,h1,h2.mono (mz hs.mem),h3,h4⟩
  ·cases h
 ·rename_i v e sz es' hH;split at h
  ·rename_i hv;simp at h;subst h hv;obtain⟨g,o,cap,arr,h1,h2,h3,h4,h5,h6,h7,h8⟩:=hs.chunk id _ hH;exact⟨_,sz,h1,h7.mono (mz hs.mem),h6,λ_=>⟨g,o,_,cap,rfl⟩⟩
  ·cases h
 ·cases h
theorem di.live{C:Ctx}{H:aq}{env:Env}{tm:Array Value}{w:World}(hs:fV C env H I L tm w){id aW:Nat}{es:List (List PV)}(h:rowOf H id aW=some es){u:Value}
  (hu:di I L u (.row id aW)):VR (snap w) u (.aE es):=by
 obtain⟨hdr,sz,h1,h2,h3,_⟩:=zk hs h;cases hu with
 |row _ _ _ v fN sz' hl hle hh hone=>rw[h1] at hl;simp only[cm,Loc.row.injEq] at hl;obtain⟨e1,e2,e3⟩:=hl;subst e1 e2 e3;rw[hh rfl];exact h2
def lZ(P:Program)(o:Oper)(ρ:Operand->AV)(H:aq):Option (Prop×AV):=match o.op with
 | .load t a=>match ρ a with
  | .ptr id off=>match H id with
   |some (.box cs)=>match ry P t cs off with|some v=>some (True,v)|none=>none
   |_=>none
  | .iY id aW i off=>match rowOf H id aW with
   |some es=>match sx P t (es.getD i []) off with|some x=>some (i<es.length/\0<(es.getD i []).length,.p x)|none=>none
   |none=>none
  |_=>none
 | .fieldAddr s a k=>match ρ a,bt P s k with
  | .iY id aW i off,some (o,n)=>match rowOf H id aW with
   |some _=>some (n≠0,.iY id aW i (off+o))
   |none=>none
  |_,_=>none
 | .indexAddr t x i=>match ρ x,ρ i with
  | .row id aW,.p (.val (.int _ n))=>match rowOf H id aW,cW P t with
   |some es,some e=>match bf P e with
    |some sz=>some ((0<=n/\n<es.length)/\(es.getD n.toNat []).length=sz/\0<sz,.iY id aW n.toNat 0)
    |none=>none
   |_,_=>none
  |_,_=>none
 | .call c=>match c.callee,c.argTypes.toList,c.args.toList.map ρ with
  | .builtin .len,[t],[.row id aW]=>match rowOf H id aW with
   |some es=>rz P t (.p (.aE es))
   |none=>none
  |_,_,_=>none
 |_=>none
theorem ag5{w:World}{t:TypeId}{b base off:Nat}{us:List Value}{cs:List PV}{x:PV}(h:sx P t cs off=some x)
  (hl:us.length=cs.length) (hv:∀ (j:Nat) u c,us[j]? = some u->cs[j]? = some c->VR I u c) (h1:∀u∈us,u.oneCell'=true)
  (hm:∀ (j:Nat) u,us[j]? = some u->w.cell? ⟨b,base+j,none⟩=some u) :
  ∃u,(Instr.loadAt t (.pointer (some ⟨b,base+off,none⟩))).run P w = .ok u w/\VR I u x:=by
 obtain⟨u,hr,hu⟩:=ag1 (I:=I) h hl hv h1 hm;exact⟨u,by simp[Instr.loadAt,Instr.sureAddr,hr],hu⟩
theorem aqg{C:Ctx}{H:aq}{env:Env}{tm:Array Value}{w:World}(hs:fV C env H I L tm w){id aW:Nat}{es:List (List PV)}(h:rowOf H id aW=some es)
  {i:Nat} (hi:i<es.length) (hpos:0<(es.getD i []).length) {u:Value} {off:Nat} (hu:di I L u (.iY id aW i off)):∃b base,u = .pointer (some ⟨b,base+off,none⟩)/\∃us:List Value,us.length=(es.getD i []).length /\
   (∀ (j:Nat) u c,us[j]? = some u->(es.getD i [])[j]? = some c->VR I u c)/\(∀u∈us,u.oneCell'=true)/\∀ (j:Nat) u,us[j]? = some u->w.cell? ⟨b,base+j,none⟩=some u:=by
 have h0:=h;unfold rowOf at h;split at h
 ·rename_i v e sz es' hH;split at h
  ·rename_i hv;simp at h;subst h hv;obtain⟨hdr,us,h1,h2,h3,h4,h5,h6,h7⟩:=hs.chunk id _ hH;cases hu with
   |iY _ _ _ v _ _ fN sz' hl hle hh hone =>
    rw[h1] at hl;simp only[cm,Loc.row.injEq] at hl;obtain⟨e1,e2,e3⟩:=hl;subst e1 e2 e3;obtain⟨g,o,n,cap,e1,e2⟩:=hh rfl;subst e1 e2;rcases h2.2 with ⟨atn,_⟩|⟨g',_,_,hg',_⟩
    ·cases atn
    simp only[Value.slice.injEq,cm,Addr.mk.injEq] at hg';obtain⟨⟨_,rfl,_⟩,_,_⟩:=hg';have hm:(es'.getD i []).length=sz:=h4 _ (by
     have:es'.getD i []=es'[i]:=by simp[hi]
     rw[this];exact pz _)
    have hfl:=b5 h4;have hmul:(i+1) * sz<=es'.length * sz:=Nat.mul_le_mul_right _ hi;have ati:(i+1) * sz=i * sz+sz:=by rw[Nat.add_mul];omega
    have hul:=h2.1;refine⟨g,i * sz,by rw[Nat.zero_add],(us.drop (i * sz)).take sz,by rw[List.length_take,List.length_drop,hm];omega,?_,?_,?_⟩
    ·intro j u c hu hc;rw[List.getElem?_take] at hu;split at hu
     ·rename_i hj;rw[List.getElem?_drop] at hu;exact h5 _ u c hu (by rw[kD h4 i j hi hj];exact hc)
     ·cases hu
    ·intro u hu;exact h6 u (List.mem_of_mem_drop (List.mem_of_mem_take hu))
    ·intro j u hu;rw[List.getElem?_take] at hu;split at hu
     ·rw[List.getElem?_drop] at hu;have:=h2.cells (g:=g) rfl _ u hu;rwa [Addr.add_mid,Nat.zero_add] at this
     ·cases hu
  ·cases h
 ·rename_i v es' hH;split at h
  ·rename_i hv;simp at h;subst h hv;obtain⟨hdr,sz,h1,h2,h3,h4⟩:=hs.chunk id _ hH;cases hu with
   |iY _ _ _ v _ _ fN sz' hl hle hh hone =>
    rw[h1] at hl;simp only[cm,Loc.row.injEq] at hl;obtain⟨e1,e2,e3⟩:=hl;subst e1 e2 e3;obtain⟨g,o,n,cap,e1,e2⟩:=hh rfl;subst e1 e2;obtain⟨b,off',len,cap',sz',g1,g2,g3,us,g4,g5,g6,g7⟩:=h2.elem hi hpos;simp only[Value.slice.injEq,cm,Addr.mk.injEq] at g1;obtain⟨⟨r1,r2,_⟩,_,_⟩:=g1;subst r1 r2;have hm:(es'.getD i []).length=sz:=h3 _ (by
     have:es'.getD i []=es'[i]:=by simp[hi]
     rw[this];exact pz _)
    have:sz'=sz:=by omega
    subst this;exact⟨g,o+i * sz',by rw[Nat.add_assoc],us,by omega,g5,g6,λj u hu=>hs.mem _ _ _ (g7 j u hu)⟩
  ·cases h
 ·rename_i v e sz es' hH;split at h
  ·rename_i hv;simp at h;subst h hv;obtain⟨g0,o0,aD0,arr,h1,k2,k3,k4,k5,h3,h2,k8⟩:=hs.chunk id _ hH;cases hu with
   |iY _ _ _ v _ _ fN sz' hl hle hh hone =>
    rw[h1] at hl;simp only[cm,Loc.row.injEq] at hl;obtain⟨e1,e2,e3⟩:=hl;subst e1 e2 e3;obtain⟨g,o,n,cap,e1,e2⟩:=hh rfl;simp only[Value.slice.injEq,cm,Addr.mk.injEq] at e1;obtain⟨⟨e3,e4,_⟩,e5,e6⟩:=e1;subst e2 e3 e4 e5 e6;obtain⟨b,off',len,cap',sz',g1,g2,g3,us,g4,g5,g6,g7⟩:=h2.elem hi hpos;simp only[Value.slice.injEq,cm,Addr.mk.injEq] at g1;obtain⟨⟨r1,r2,_⟩,_,_⟩:=g1;subst r1 r2;have hm:(es'.getD i []).length=sz:=h3 _ (by
     have:es'.getD i []=es'[i]:=by simp[hi]
     rw[this];exact pz _)
    have:sz'=sz:=by omega
    subst this;exact⟨g0,o0+i * sz',by rw[Nat.add_assoc],us,by omega,g5,g6,λj u hu=>hs.mem _ _ _ (g7 j u hu)⟩
  ·cases h
 ·cases h
theorem amT{o:Oper}{ρ:Operand->AV}{v:AV}{pre:Prop}{H:aq}(h:lZ P o ρ H=some (pre,v))(hp:pre){C:Ctx}{env:Env}{tm:Array Value}{w:World}
  (hs:fV C env H I L tm w) {σ:Operand->Value} (hσ:∀x,di I L (σ x) (ρ x)):mR P C H I L w ((execOp σ o).run P w) v H:=by
 unfold lZ at h;unfold execOp;split at h
 ·rename_i t a hop;simp only[hop];have ha:=hσ a;generalize σ a=u at ha ⊢;generalize ρ a=av at h ha;split at h
  ·rename_i id off;split at h
   ·rename_i cs hH;split at h
    ·rename_i r hr;simp only[cm,gD] at h;obtain⟨_,h2⟩:=h;subst h2;obtain⟨b,arr,e,g1,g2,g3,g4,g5,g6⟩:=hs.chunk id _ hH;cases ha with
     |ptr _ b' _ hl =>
      rw[g1] at hl;simp only[cm,Loc.box.injEq] at hl;subst hl;obtain⟨u,hru,hua⟩:=aax (I:=I) (L:=L) (w:=w) (b:=b) (base:=0) (us:=arr.toList) hr (by simpa using g3) (λj u c hu hc=>g4 j u c (by simpa using hu) hc)
       (λu hu=>by
        obtain⟨j,hj⟩:=List.mem_iff_getElem?.1 hu;exact g5 j u (by simpa using hj)) (λj u hu=>by rw[Nat.zero_add,gW g2];simpa using hu)
      rw[Nat.zero_add] at hru;exact .jf (run_lift _) ⟨u,by simp[Instr.loadAt,Instr.sureAddr,hru],hua⟩
    ·cases h
   ·cases h
  ·rename_i id aW i off;split at h
   ·rename_i es hrow;split at h
    ·rename_i x hr;simp only[cm,gD] at h;obtain⟨h1,h2⟩:=h;subst h1 h2;obtain⟨b,base,rfl,us,q1,q2,q3,q4⟩:=aqg hs hrow hp.1 hp.2 ha;obtain⟨u,hru,hua⟩:=ag5 (P:=P) hr q1 q2 q3 q4;exact .jf (run_lift _) ⟨u,hru,.p _ _ hua⟩
    ·cases h
   ·cases h
  ·cases h
 ·rename_i s a k hop;simp only[hop];have ha:=hσ a;generalize σ a=u at ha ⊢;generalize ρ a=av at h ha;split at h
  ·rename_i id aW i off of n hf;split at h
   ·rename_i es hrow;simp only[cm,gD] at h;obtain⟨h1,h2⟩:=h;subst h1 h2;obtain⟨hdr,sz,l1,_⟩:=zk hs hrow;cases ha with
    |iY _ _ _ v _ _ fN sz' hl hle hh hone=>have l2:=hl;rw[l1] at hl;simp only[cm,Loc.row.injEq] at hl;obtain⟨e1,e2,e3⟩:=hl;subst e1 e2 e3;obtain⟨g,o,n',cap,e1,e2⟩:=hh rfl;subst e1 e2;refine .jf (run_lift _) ⟨_,u9 hf hp w _ _,.iY _ _ _ _ _ _ _ _ l1 (Nat.le_refl _) (λ_=>⟨g,o,n',cap,rfl,by rw[Nat.add_assoc,Nat.add_assoc]⟩) rfl⟩
   ·cases h
  ·cases h
 ·rename_i t x i hop;simp only[hop];have hx:=hσ x;have hi:=hσ i;generalize σ x=u at hx ⊢;generalize ρ x=av at h hx;generalize σ i=ui at hi ⊢;generalize ρ i=ai at h hi;split at h
  ·rename_i id aW k n;split at h
   ·rename_i es e hrow he;split at h
    ·rename_i sz hsz;simp only[cm,gD] at h;obtain⟨h1,h2⟩:=h;subst h1 h2;obtain⟨⟨h0,hlt⟩,hlen,hpos⟩:=hp;obtain⟨rfl,_⟩:=hi.dr;obtain⟨m,rfl⟩:=Int.eq_ofNat_of_zero_le h0;simp only[Int.toNat_natCast] at hlen ⊢;have hm:m<es.length:=by omega
     obtain⟨hdr,sz',l1,l2,l3,l4⟩:=zk hs hrow;have hne:es≠[]:=λe=>by subst e;simp at hm
     obtain⟨g,o,n',cap,rfl⟩:=l4 hne;obtain⟨_,_,e1,_⟩:=l2.aps;simp only[Value.slice.injEq] at e1;have hmm:(es.getD m []).length=sz':=l3 _ (by
      have:es.getD m []=es[m]:=by simp[hm]
      rw[this];exact pz _)
     have e2:sz'=sz:=by omega
     subst e2;cases hx with
     |row _ _ _ v fN sz'' hl hle hh hone =>
      rw[l1] at hl;simp only[cm,Loc.row.injEq] at hl;obtain⟨r1,r2,r3⟩:=hl;subst r1 r2 r3;rw[hh rfl];have hm':m<n':=by rw[e1.2.1];exact hm
      refine .jf (run_lift _) ⟨.pointer (some ⟨g,o+m * sz',none⟩),?_,.iY _ _ _ _ _ _ _ _ l1 (Nat.le_refl _) (λ_=>⟨g,o,n',cap,rfl,by simp⟩) rfl⟩;simp[Instr.indexAt,asIntOf,run_underlying (ey he),cR hsz,Addr.add_mid,hm']
    ·cases h
   ·cases h
  ·cases h
 ·rename_i c hop;simp only[hop];split at h
  ·rename_i t id aW hc ht ha;split at h
   ·rename_i es hrow;have hat:c.argTypes = #[t]:=by rw[<-Array.toArray_toList (xs:=c.argTypes),ht]
    cases hca:c.args.toList with
    |nil=>simp[hca] at ha
    |cons x r =>
     have hr0:r=[]:=by simpa[hca] using congrArg List.length ha
     subst hr0;have hx:ρ x = .row id aW:=by simpa[hca] using ha
     have hargs:c.args = #[x]:=by rw[<-Array.toArray_toList (xs:=c.args),hca]
     have ato:=di.live hs hrow (hx ▸ hσ x);obtain⟨u,hru,hua⟩:=abo (ty:=o.type) (I:=snap w) (L:=L) h (.p _ _ ato) w;have hval:∃n,v = .p (.val (.int .i64 n)):=by
      unfold rz at h;simp only at h;split at h
      ·simp only[cm,gD] at h;exact⟨_,h.2.symm⟩
      ·cases h
     obtain⟨n,rfl⟩:=hval;have:=hua.dr.1;subst this;refine .jf (s:=Builtin.len_ #[t] o.type #[σ x]) (λw=>?_) ⟨_,hru,.p _ _ (.val _ rfl)⟩;simp[resolve,hc,invoke,builtin,hat,hargs]
   ·cases h
  ·cases h
 ·cases h
theorem rq.snap{w:World}{B:Nat}{u:Value}{e:TypeId}{sz:Nat}{es:List (List PV)}{us:List Value}(h:rq w B I u e sz es us)(hI:I.inW w):VR (snap w) u (.aE es):=by
 have hfl:=b5 h.all;have hlen:us.length=es.flatten.length:=by rw[hfl];exact h.own.1
 rcases h.own.2 with ⟨rfl,hn⟩|⟨g,cap,cur,rfl,hb,hg,hnc,hcm,hcs,nh⟩
 ·have he:es=[]:=List.length_eq_zero_iff.1 hn;subst he;exact .aE none 0 0 [] us sz rfl (by simp) hlen (λj u c hu hc=>(h.val j u c hu hc).mono (mz hI)) h.one (.inl (List.length_eq_zero_iff.1 (by simpa using hlen))) (λ_=>⟨rfl,rfl⟩) (Nat.le_refl _)
 ·refine .aE _ _ _ es us sz rfl h.all hlen (λj u c hu hc=>(h.val j u c hu hc).mono (mz hI)) h.one (.inr ⟨g,0,rfl,λj u hu=>?_⟩) (by simp) hnc;rw[Nat.zero_add];show w.cell? ⟨g,j,none⟩=some u;rw[gW hg];rw[<-nh,List.getElem?_take] at hu;split at hu
  ·simpa using hu
  ·cases hu
theorem rq.vrJ{w:World}{B:Nat}{u:Value}{e:TypeId}{sz:Nat}{es:List (List PV)}{us:List Value}{J:Mem}(h:rq w B I u e sz es us)(hI:I.sub J)
  (hJ:∀b,u.ownBlock=some b->∀o v,w.cell? ⟨b,o,none⟩=some v->J b o=some v):VR J u (.aE es):=by
 have hfl:=b5 h.all;have hlen:us.length=es.flatten.length:=by rw[hfl];exact h.own.1
 rcases h.own.2 with ⟨rfl,hn⟩|⟨g,cap,cur,rfl,hb,hg,hnc,hcm,hcs,nh⟩
 ·have he:es=[]:=List.length_eq_zero_iff.1 hn;subst he;exact .aE none 0 0 [] us sz rfl (by simp) hlen (λj u c hu hc=>(h.val j u c hu hc).mono hI) h.one (.inl (List.length_eq_zero_iff.1 (by simpa using hlen))) (λ_=>⟨rfl,rfl⟩) (Nat.le_refl _)
 ·refine .aE _ _ _ es us sz rfl h.all hlen (λj u c hu hc=>(h.val j u c hu hc).mono hI) h.one (.inr ⟨g,0,rfl,λj u hu=>?_⟩) (by simp) hnc;rw[Nat.zero_add];refine hJ g rfl j u ?_;rw[gW hg];rw[<-nh,List.getElem?_take] at hu;split at hu
  ·simpa using hu
  ·cases hu
theorem apt{w:World}{B:Nat}{hdr:Value}{e e':TypeId}{sz k sz':Nat}{es:List (List PV)}{us:List Value}{eT:Nat->Value}{J:Mem}(h:rq w B I hdr e sz (su k eT es) us)(hall:∀x∈es,x.length=sz)
  (hin:axp w B I k e' sz' eT es) (hIJ:I.sub J) (hJ:∀b,(hdr.ownBlock=some b\/∃i,i<es.length/\(eT i).ownBlock=some b)->∀o v,w.cell? ⟨b,o,none⟩=some v->J b o=some v):VR J hdr (.aE es):=by
 have h1:=h.vrJ hIJ λb hb=>hJ b (.inl hb)
 cases h1 with
 |aE ao n cap _ us2 sz2 hn hsz hl hv hone hm hnil hcap =>
  rw[kC] at hn;have hfl:=b5 hall;have hrl:(su k eT es).flatten.length=es.length * sz:=by rw[b5 h.all,kC]
  refine .aE ao n cap es us2 sz hn hall (by rw[hl,hrl,hfl]) (λj u c hu hc=>?_) hone hm hnil hcap;have hjl:j<es.length * sz:=by rw[<-hfl];exact (List.getElem?_eq_some_iff.1 hc).1
  have hpos:=h.pos;have hi:j / sz<es.length:=(Nat.div_lt_iff_lt_mul hpos).2 hjl;have hmm:j % sz<sz:=Nat.mod_lt _ hpos;have hj:j=j / sz * sz+j % sz:=(Nat.div_add_mod' j sz).symm;generalize j / sz=i at *;generalize j % sz=m at *;subst hj;rw[kD hall i m hi hmm] at hc;have akb:=kD h.all i m (by rw[kC];exact hi) hmm;have hg:(su k eT es).getD i []=(es.getD i []).set k (.val (eT i)):=by rw[List.getD_eq_getElem?_getD,acW];simp[hi]
  rw[hg] at akb;by_cases hk:k=m
  ·subst hk;have hx:es[i]? = some (es.getD i []):=by simp[hi]
   obtain⟨l,us',q1,q2,q3⟩:=hin i _ hx;rw[q1] at hc;simp only[cm] at hc;subst hc;have hxl:(es.getD i []).length=sz:=hall _ (List.mem_of_getElem? hx);rw[List.getElem?_set,if_pos rfl,if_pos (by rw[hxl];exact hmm)] at akb;have:=hv _ u _ hu akb;cases this;exact q2.vrJ hIJ λb hb=>hJ b (.inr ⟨i,hi,hb⟩)
  ·rw[List.getElem?_set,if_neg hk,hc] at akb;exact hv _ u c hu akb
theorem rq.elem{w:World}{B:Nat}{u:Value}{e:TypeId}{sz:Nat}{es:List (List PV)}{us:List Value}(h:rq w B I u e sz es us){i:Nat}(hi:i<es.length):∃g cap,u = .slice (some ⟨g,0,none⟩) es.length cap/\∃vs:List Value,vs.length=sz /\
  (∀ (j:Nat) u c,vs[j]? = some u->(es.getD i [])[j]? = some c->VR I u c)/\(∀u∈vs,u.oneCell'=true)/\∀ (j:Nat) u,vs[j]? = some u->w.cell? ⟨g,i * sz+j,none⟩=some u:=by
 rcases h.own.2 with ⟨_,hn⟩|⟨g,cap,cur,rfl,hb,hg,hnc,hcm,hcs,nh⟩
 ·omega
 have hmul:(i+1) * sz<=es.length * sz:=Nat.mul_le_mul_right _ hi;have ati:(i+1) * sz=i * sz+sz:=by rw[Nat.add_mul];omega
 have hul:=h.own.1;refine⟨g,cap,rfl,(us.drop (i * sz)).take sz,by rw[List.length_take,List.length_drop];omega,?_,?_,?_⟩
 ·intro j u c hu hc;rw[List.getElem?_take] at hu;split at hu
  ·rename_i hj;rw[List.getElem?_drop] at hu;exact h.val _ u c hu (by rw[kD h.all i j hi hj];exact hc)
  ·cases hu
 ·intro u hu;exact h.one u (List.mem_of_mem_drop (List.mem_of_mem_take hu))
 ·intro j u hu;rw[List.getElem?_take] at hu;split at hu
  ·rw[List.getElem?_drop] at hu;have:=h.own.cells (g:=g) rfl _ u hu;rwa [Addr.add_mid,Nat.zero_add] at this
  ·cases hu
def cK(H:aq)(id aW:Nat):Option (Nat×List (List PV)):=match H id with
 |some (.deep v _ _ k _ _ es)=>if v=aW then some (k,es) else none
 |_=>none
def qn(r:Option (Nat×List (List PV)))(i:Nat):Option (List (List PV)):=match r with
 |some (k,es)=>(match (es.getD i [])[k]? with
  |some (.aE l)=>some l
  |_=>none)
 |none=>none
def ac0(id aW i k:Nat)(x:List PV):List AV:=(x.map AV.p).set k (.mu id aW i)
theorem jK{C:Ctx}{H:aq}{env:Env}{tm:Array Value}{w:World}(hs:fV C env H I L tm w){id aW k:Nat}{es:List (List PV)}(h:cK H id aW=some (k,es)) :
  ∃hdr sz sz' e e' us eT,L id=some (.deep aW hdr sz sz' eT es.length)/\rq w C.B I hdr e sz (su k eT es) us/\hdr.oneCell'=true/\k<sz/\(∀x∈es,x.length=sz)/\axp w C.B I k e' sz' eT es:=by
 unfold cK at h;split at h
 ·rename_i v e sz k' e' sz' es' hH;split at h
  ·rename_i hv;simp only[cm,gD] at h;obtain⟨rfl,rfl⟩:=h;subst hv;obtain⟨hdr,us,eT,h1,h2,h3,h4,h5,h6,h7⟩:=hs.chunk id _ hH;exact⟨hdr,sz,sz',e,e',us,eT,h1,h2,h3,h4,h5,h6⟩
  ·cases h
 ·cases h
theorem xo{k:Nat}{es:List (List PV)}{i:Nat}{l:List (List PV)}(h:qn (some (k,es)) i=some l):i<es.length/\∃x,es[i]? = some x/\x[k]? = some (.aE l):=by
 simp only[qn] at h;split at h
 ·rename_i l' hl;simp only[cm] at h;subst h;have hi:i<es.length:=by
   rcases Nat.lt_or_ge i es.length with h|h
   ·exact h
   ·rw[List.getD_eq_getElem?_getD,List.getElem?_eq_none h] at hl;simp at hl
  exact⟨hi,es[i],by simp[hi],by simpa[hi] using hl⟩
 ·cases h
def xh(P:Program)(o:Oper)(ρ:Operand->AV)(H:aq):Option (Prop×AV):=match o.op with
 | .load t a=>match ρ a with
  | .lz id aW i off=>match cK H id aW with
   |some (k,es)=>match ry P t (ac0 id aW i k (es.getD i [])) off with|some v=>some (i<es.length,v)|none=>none
   |none=>none
  | .om id aW i j off=>match qn (cK H id aW) i with
   |some l=>match sx P t (l.getD j []) off with|some x=>some (j<l.length,.p x)|none=>none
   |none=>none
  |_=>none
 | .fieldAddr s a k=>match ρ a,bt P s k with
  | .lz id aW i off,some (o,n)=>match cK H id aW with
   |some _=>some (n≠0,.lz id aW i (off+o))
   |none=>none
  |_,_=>none
 | .indexAddr t x i=>match ρ x,ρ i with
  | .kP id aW,.p (.val (.int _ n))=>match cK H id aW,cW P t with
   |some (_,es),some e=>match bf P e with
    |some sz=>some ((0<=n/\n<es.length)/\(es.getD n.toNat []).length=sz,.lz id aW n.toNat 0)
    |none=>none
   |_,_=>none
  | .mu id aW i,.p (.val (.int _ n))=>match qn (cK H id aW) i,cW P t with
   |some l,some e=>match bf P e with
    |some sz=>some ((0<=n/\n<l.length)/\(l.getD n.toNat []).length=sz,.om id aW i n.toNat 0)
    |none=>none
   |_,_=>none
  |_,_=>none
 | .call c=>match c.callee,c.argTypes.toList,c.args.toList.map ρ with
  | .builtin .len,[t],[.kP id aW]=>match cK H id aW with
   |some (_,es)=>rz P t (.p (.aE es))
   |none=>none
  | .builtin .len,[t],[.mu id aW i]=>match qn (cK H id aW) i with
   |some l=>rz P t (.p (.aE l))
   |none=>none
  |_,_,_=>none
 |_=>none
def aiz(H:aq)(id aW:Nat):Option (Nat×List (List PV)):=match H id with
 |some (.row v _ sz es)=>if v=aW then some (sz,es) else none
 |_=>none
def yO(P:Program)(o:Oper)(ρ:Operand->AV)(H:aq):Option (Prop×AV):=match o.op with
 | .indexAddr t x i=>match ρ x,ρ i with
  | .nP id aW off m _ _,.p (.val (.int _ n))=>match aiz H id aW,cW P t with
   |some (sz,es),some e=>match bf P e with
    |some sz'=>some ((0<=n/\n<m/\off+m<=es.length)/\sz'=sz,.iY id aW (off+n.toNat) 0)
    |none=>none
   |_,_=>none
  |_,_=>none
 |_=>none
def xp(P:Program)(o:Oper)(ρ:Operand->AV)(H:aq):Option (Prop×AV):=match lZ P o ρ H with
 |some r=>some r
 |none=>match xh P o ρ H with
  |some r=>some r
  |none=>yO P o ρ H
theorem amU{o:Oper}{c:Call}{ρ:Operand->AV}{v:AV}{pre:Prop}{t:TypeId}{a:AV}{es:List (List PV)}(hop:o.op = .call c)(hc:c.callee = .builtin .len)(ht:c.argTypes.toList=[t])(ha:c.args.toList.map ρ=[a])
  (hl:∀u,di I L u a->∃J,VR J u (.aE es)) (h:rz P t (.p (.aE es))=some (pre,v)) (hp:pre) {C:Ctx} {H:aq} {w:World} {σ:Operand->Value} (hσ:∀x,di I L (σ x) (ρ x)):mR P C H I L w ((execOp σ o).run P w) v H:=by
 unfold execOp;simp only[hop];have hat:c.argTypes = #[t]:=by rw[<-Array.toArray_toList (xs:=c.argTypes),ht]
 cases hca:c.args.toList with
 |nil=>simp[hca] at ha
 |cons x r =>
  have hr0:r=[]:=by simpa[hca] using congrArg List.length ha
  subst hr0;have hx:ρ x=a:=by simpa[hca] using ha
  have hargs:c.args = #[x]:=by rw[<-Array.toArray_toList (xs:=c.args),hca]
  obtain⟨J,ato⟩:=hl _ (hx ▸ hσ x);obtain⟨u,hru,hua⟩:=abo (ty:=o.type) (I:=J) (L:=L) h (.p _ _ ato) w;have hval:∃n,v = .p (.val (.int .i64 n)):=by
   unfold rz at h;simp only at h;split at h
   ·simp only[cm,gD] at h;exact⟨_,h.2.symm⟩
   ·cases h
  obtain⟨n,rfl⟩:=hval;have:=hua.dr.1;subst this;refine .jf (s:=Builtin.len_ #[t] o.type #[σ x]) (λw=>?_) ⟨_,hru,.p _ _ (.val _ rfl)⟩;simp[resolve,hc,invoke,builtin,hat,hargs]
theorem aqh{o:Oper}{ρ:Operand->AV}{v:AV}{pre:Prop}{H:aq}(h:xh P o ρ H=some (pre,v))(hp:pre){C:Ctx}{env:Env}{tm:Array Value}{w:World}
  (hs:fV C env H I L tm w) {σ:Operand->Value} (hσ:∀x,di I L (σ x) (ρ x)):mR P C H I L w ((execOp σ o).run P w) v H:=by
 unfold xh at h;unfold execOp;split at h
 ·rename_i t a hop;simp only[hop];have ha:=hσ a;generalize σ a=u at ha ⊢;generalize ρ a=av at h ha;split at h
  ·rename_i id aW i off;split at h
   ·rename_i k es hd;split at h
    ·rename_i r hr;simp only[cm,gD] at h;obtain⟨h1,h2⟩:=h;subst h1 h2;obtain⟨hdr,sz,sz',e,e',us,eT,q1,q2,q3,q4,q5,q6⟩:=jK hs hd;have hi:i<(su k eT es).length:=by rw[kC];exact hp
     obtain⟨g,cap,rfl,vs,r1,r2,r3,r4⟩:=q2.elem hi;have akb:(su k eT es).getD i []=(es.getD i []).set k (.val (eT i)):=by rw[List.getD_eq_getElem?_getD,acW];simp[hp]
     have hxl:(es.getD i []).length=sz:=q5 _ (by
      have:es.getD i []=es[i]:=by simp[hp]
      rw[this];exact pz _)
     cases ha with
     |lz _ _ _ v _ _ fN _ _ vw n hl hle hh hone =>
      rw[q1] at hl;simp only[cm,Loc.deep.injEq] at hl;obtain⟨e1,e2,e3,e4,e5,e6⟩:=hl;subst e1 e2 e3 e4 e5 e6;obtain⟨g',o',m,cap',e1,rfl⟩:=hh rfl;simp only[Value.slice.injEq,cm,Addr.mk.injEq] at e1;obtain⟨⟨e1,e2,_⟩,_⟩:=e1;subst e1 e2;obtain⟨u,hru,hua⟩:=aax (I:=I) (L:=L) (w:=w) (b:=g) (base:=i * sz) (us:=vs) hr (by rw[r1,ac0,List.length_set,List.length_map,hxl]) (λj u c hu hc=>by
       unfold ac0 at hc;rw[List.getElem?_set] at hc;have hjl:j<sz:=by rw[<-r1];exact (List.getElem?_eq_some_iff.1 hu).1
       split at hc
       ·rename_i hj;subst hj;split at hc
        ·simp only[cm] at hc;subst hc;have:=r2 _ u (.val (eT i)) hu (by rw[akb,List.getElem?_set,if_pos rfl,if_pos (by rw[hxl];exact hjl)]);cases this with
         |val _ h1=>exact .mu _ _ _ _ _ _ _ _ _ _ q1 (Nat.le_refl _) (λ_=>rfl) h1
        ·cases hc
       ·rename_i hj;rw[List.getElem?_map] at hc;cases hx:(es.getD i [])[j]? with
        |none=>rw[hx] at hc;cases hc
        |some c' =>
         rw[hx] at hc;simp only[Option.map_some,cm] at hc;subst hc;exact .p _ _ (r2 j u c' hu (by rw[akb,List.getElem?_set,if_neg hj];exact hx))) r3 r4
      have:(0:Nat)+(i * sz+off)=i * sz+off:=by omega
      rw[this];exact .jf (run_lift _) ⟨u,by simp[Instr.loadAt,Instr.sureAddr,hru],hua⟩
    ·cases h
   ·cases h
  ·rename_i id aW i j off;split at h
   ·rename_i l hd;split at h
    ·rename_i x hr;simp only[cm,gD] at h;obtain⟨h1,h2⟩:=h;subst h1 h2;cases hdo:cK H id aW with
     |none=>rw[hdo] at hd;cases hd
     |some ke =>
      obtain⟨k,es⟩:=ke;rw[hdo] at hd;obtain⟨hi,x',hx1,hx2⟩:=xo hd;obtain⟨hdr,sz,sz',e,e',us,eT,q1,q2,q3,q4,q5,q6⟩:=jK hs hdo;obtain⟨l',us',m1,m2,m3⟩:=q6 i x' hx1;rw[hx2] at m1;simp only[cm,PV.aE.injEq] at m1;subst m1;obtain⟨g,cap,hg,vs,r1,r2,r3,r4⟩:=m2.elem hp;have hxl:(l.getD j []).length=sz':=m2.all _ (by
       have:l.getD j []=l[j]:=by simp[hp]
       rw[this];exact pz _)
      cases ha with
      |om _ _ _ v _ _ _ fN _ _ vw n hl hle hh hone =>
       rw[q1] at hl;simp only[cm,Loc.deep.injEq] at hl;obtain⟨e1,e2,e3,e4,e5,e6⟩:=hl;subst e1 e2 e3 e4 e5 e6;obtain⟨g',o',m,cap',e1,rfl⟩:=hh rfl;rw[hg] at e1;simp only[Value.slice.injEq,cm,Addr.mk.injEq] at e1;obtain⟨⟨e1,e2,_⟩,_⟩:=e1;subst e1 e2;obtain⟨u,hru,hua⟩:=ag5 (P:=P) (base:=j * sz') hr (by rw[r1,hxl]) r2 r3 r4;have:(0:Nat)+(j * sz'+off)=j * sz'+off:=by omega
       rw[this];exact .jf (run_lift _) ⟨u,hru,.p _ _ hua⟩
    ·cases h
   ·cases h
  ·cases h
 ·rename_i s a k hop;simp only[hop];have ha:=hσ a;generalize σ a=u at ha ⊢;generalize ρ a=av at h ha;split at h
  ·rename_i id aW i off of n hf;split at h
   ·rename_i ke hd;simp only[cm,gD] at h;obtain⟨h1,h2⟩:=h;subst h1 h2;obtain⟨k,es⟩:=ke;obtain⟨hdr,sz,sz',e,e',us,eT,q1,_⟩:=jK hs hd;cases ha with
    |lz _ _ _ v _ _ fN _ _ vw n' hl hle hh hone=>rw[q1] at hl;simp only[cm,Loc.deep.injEq] at hl;obtain⟨e1,e2,e3,e4,e5,e6⟩:=hl;subst e1 e2 e3 e4 e5 e6;obtain⟨g,o,m,cap,e1,rfl⟩:=hh rfl;refine .jf (run_lift _) ⟨_,u9 hf hp w _ _,.lz _ _ _ _ _ _ _ _ _ _ _ q1 (Nat.le_refl _) (λ_=>⟨g,o,m,cap,e1,by rw[Nat.add_assoc,Nat.add_assoc]⟩) rfl⟩
   ·cases h
  ·cases h
 ·rename_i t x i hop;simp only[hop];have hx:=hσ x;have hi:=hσ i;generalize σ x=u at hx ⊢;generalize ρ x=av at h hx;generalize σ i=ui at hi ⊢;generalize ρ i=ai at h hi;split at h
  ·rename_i id aW kk n;split at h
   ·rename_i k es e0 hd he;split at h
    ·rename_i sz0 hsz;simp only[cm,gD] at h;obtain⟨h1,h2⟩:=h;subst h1 h2;obtain⟨⟨h0,hlt⟩,hlen⟩:=hp;obtain⟨rfl,_⟩:=hi.dr;obtain⟨m,rfl⟩:=Int.eq_ofNat_of_zero_le h0;simp only[Int.toNat_natCast] at hlen ⊢;have hm:m<es.length:=by omega
     obtain⟨hdr,sz,sz',e,e',us,eT,q1,q2,q3,q4,q5,q6⟩:=jK hs hd;obtain⟨g,cap,rfl,_⟩:=q2.elem (i:=m) (by rw[kC];exact hm);rw[kC] at q1;have hmm:(es.getD m []).length=sz:=q5 _ (by
      have:es.getD m []=es[m]:=by simp[hm]
      rw[this];exact pz _)
     have e2:sz=sz0:=by omega
     subst e2;cases hx with
     |kP _ _ _ v fN _ _ vw n' hl hle hh hone=>rw[q1] at hl;simp only[cm,Loc.deep.injEq] at hl;obtain⟨e1,e2,e3,e4,e5,e6⟩:=hl;subst e1 e2 e3 e4 e5 e6;rw[hh rfl];refine .jf (run_lift _) ⟨.pointer (some ⟨g,0+m * sz,none⟩),?_,.lz _ _ _ _ _ _ _ _ _ _ _ q1 (Nat.le_refl _) (λ_=>⟨g,0,es.length,cap,rfl,by simp⟩) rfl⟩;simp[Instr.indexAt,asIntOf,run_underlying (ey he),cR hsz,Addr.add_mid,hm]
    ·cases h
   ·cases h
  ·rename_i id aW ii kk n;split at h
   ·rename_i l e0 hd he;split at h
    ·rename_i sz0 hsz;simp only[cm,gD] at h;obtain⟨h1,h2⟩:=h;subst h1 h2;obtain⟨⟨h0,hlt⟩,hlen⟩:=hp;obtain⟨rfl,_⟩:=hi.dr;obtain⟨m,rfl⟩:=Int.eq_ofNat_of_zero_le h0;simp only[Int.toNat_natCast] at hlen ⊢;have hm:m<l.length:=by omega
     cases hdo:cK H id aW with
     |none=>rw[hdo] at hd;cases hd
     |some ke =>
      obtain⟨k,es⟩:=ke;rw[hdo] at hd;obtain⟨hi',x',hx1,hx2⟩:=xo hd;obtain⟨hdr,sz,sz',e,e',us,eT,q1,q2,q3,q4,q5,q6⟩:=jK hs hdo;obtain⟨l',us',m1,m2,m3⟩:=q6 ii x' hx1;rw[hx2] at m1;simp only[cm,PV.aE.injEq] at m1;subst m1;obtain⟨g,cap,hg,_⟩:=m2.elem hm;have hmm:(l.getD m []).length=sz':=m2.all _ (by
       have:l.getD m []=l[m]:=by simp[hm]
       rw[this];exact pz _)
      have e2:sz'=sz0:=by omega
      subst e2;cases hx with
      |mu _ _ _ v _ fN _ _ vw n' hl hle hh hone=>rw[q1] at hl;simp only[cm,Loc.deep.injEq] at hl;obtain⟨e1,e2,e3,e4,e5,e6⟩:=hl;subst e1 e2 e3 e4 e5 e6;rw[hh rfl,hg];refine .jf (run_lift _) ⟨.pointer (some ⟨g,0+m * sz',none⟩),?_,.om _ _ _ _ _ _ _ _ _ _ _ _ q1 (Nat.le_refl _) (λ_=>⟨g,0,l.length,cap,hg,by simp⟩) rfl⟩;simp[Instr.indexAt,asIntOf,run_underlying (ey he),cR hsz,Addr.add_mid,hm]
    ·cases h
   ·cases h
  ·cases h
 ·rename_i c hop;simp only[hop];have one:∀ (t:TypeId) (a:AV) (es:List (List PV)),c.callee = .builtin .len->c.argTypes.toList=[t]->c.args.toList.map ρ=[a]->(∀u,di I L u a->∃J,VR J u (.aE es))->rz P t (.p (.aE es))=some (pre,v)->_:=λt a es hc ht ha hl h=>by have key:=amU hop hc ht ha hl h hp (C:=C) (H:=H) (w:=w) hσ;unfold execOp at key;simp only[hop] at key;exact key
  split at h
  ·rename_i t id aW hc ht ha;split at h
   ·rename_i k es hd;obtain⟨hdr,sz,sz',e,e',us,eT,q1,q2,q3,q4,q5,q6⟩:=jK hs hd;have hlen:rz P t (.p (.aE (su k eT es)))=some (pre,v):=by rw[<-h];unfold rz;simp only[kC]
    refine one t _ _ hc ht ha (λu hu=>?_) hlen;cases hu with
    |kP _ _ _ v fN _ _ vw n' hl hle hh hone=>rw[q1] at hl;simp only[cm,Loc.deep.injEq] at hl;obtain⟨e1,e2,_⟩:=hl;subst e1 e2;rw[hh rfl];exact⟨_,q2.snap hs.mem⟩
   ·cases h
  ·rename_i t id aW ii hc ht ha;split at h
   ·rename_i l hd;cases hdo:cK H id aW with
    |none=>rw[hdo] at hd;cases hd
    |some ke =>
     obtain⟨k,es⟩:=ke;rw[hdo] at hd;obtain⟨hi',x',hx1,hx2⟩:=xo hd;obtain⟨hdr,sz,sz',e,e',us,eT,q1,q2,q3,q4,q5,q6⟩:=jK hs hdo;obtain⟨l',us',m1,m2,m3⟩:=q6 ii x' hx1;rw[hx2] at m1;simp only[cm,PV.aE.injEq] at m1;subst m1;refine one t _ _ hc ht ha (λu hu=>?_) h;cases hu with
     |mu _ _ _ v _ fN _ _ vw n' hl hle hh hone=>rw[q1] at hl;simp only[cm,Loc.deep.injEq] at hl;obtain⟨e1,e2,e3,e4,e5,e6⟩:=hl;subst e1 e2 e3 e4 e5 e6;rw[hh rfl];exact⟨_,m2.snap hs.mem⟩
   ·cases h
  ·cases h
 ·cases h
theorem amV{C:Ctx}{H:aq}{env:Env}{tm:Array Value}{w:World}(hs:fV C env H I L tm w){id aW sz:Nat}{es:List (List PV)}(h:aiz H id aW=some (sz,es)) :
  ∃hdr e us,L id=some (.row aW hdr sz)/\rq w C.B I hdr e sz es us/\∃ao cap,hdr = .slice ao es.length cap/\es.length<=cap/\((ao=none/\cap=0)\/∃g,ao=some ⟨g,0,none⟩):=by
 unfold aiz at h;split at h
 ·rename_i v e sz' es' hH;split at h
  ·rename_i hv;simp only[cm,gD] at h;obtain⟨rfl,rfl⟩:=h;subst hv;obtain⟨hdr,us,h1,h2,h3,h4,h5,h6,h7⟩:=hs.chunk id _ hH;refine⟨hdr,e,us,h1,⟨h2,h3,h4,h5,h6,h7⟩,?_⟩;rcases h2.2 with ⟨rfl,hn⟩|⟨g,cap,cur,rfl,_,_,hnc,_⟩
   ·exact⟨none,0,by rw[hn],by omega,.inl ⟨rfl,rfl⟩⟩
   ·exact⟨some ⟨g,0,none⟩,cap,rfl,hnc,.inr ⟨g,rfl⟩⟩
  ·cases h
 ·cases h
theorem aqi{o:Oper}{ρ:Operand->AV}{v:AV}{pre:Prop}{H:aq}(h:yO P o ρ H=some (pre,v))(hp:pre){C:Ctx}{env:Env}{tm:Array Value}{w:World}
  (hs:fV C env H I L tm w) {σ:Operand->Value} (hσ:∀x,di I L (σ x) (ρ x)):mR P C H I L w ((execOp σ o).run P w) v H:=by
 unfold yO at h;unfold execOp;split at h
 ·rename_i t x i hop;simp only[hop];have hx:=hσ x;have hi:=hσ i;generalize σ x=u at hx ⊢;generalize ρ x=av at h hx;generalize σ i=ui at hi ⊢;generalize ρ i=ai at h hi;split at h
  ·rename_i id aW off m _ szs k n;split at h
   ·rename_i sz es e hr he;split at h
    ·rename_i sz' hsz;simp only[cm,gD] at h;obtain⟨h1,h2⟩:=h;subst h1 h2;obtain⟨⟨h0,hlt,hle'⟩,rfl⟩:=hp;obtain⟨rfl,_⟩:=hi.dr;obtain⟨q,rfl⟩:=Int.eq_ofNat_of_zero_le h0;simp only[Int.toNat_natCast];have hq:q<m:=by omega
     obtain⟨hdr,e0,us,q1,q2,ao,cap,rfl,hcap,hao⟩:=amV hs hr;cases hx with
     |nP a _ _ v1 _ _ _ c m9 sz1 ql hle hn hm hz hh =>
      rw[q1] at ql;simp only[cm,Loc.row.injEq] at ql;obtain⟨r1,r2,r3⟩:=ql;subst r1 r2 r3;obtain⟨ao1,m1,cap1,e1,rfl,ha⟩:=hh rfl;simp only[Value.slice.injEq] at e1;obtain⟨rfl,rfl,rfl⟩:=e1;have ha':=ha (.inl (by omega));rcases hao with ⟨_,h9⟩|⟨g,rfl⟩
      ·omega
      ·subst ha';refine .jf (run_lift _) ⟨.pointer (some ⟨g,0+((off+q) * sz'+0),none⟩),?_,.iY _ _ _ _ _ _ _ _ q1 (Nat.le_refl _) (λ_=>⟨g,0,es.length,cap,rfl,rfl⟩) rfl⟩;simp[Instr.indexAt,asIntOf,run_underlying (ey he),cR hsz,Addr.add_mid,hq,Nat.add_mul]
    ·cases h
   ·cases h
  ·cases h
 ·cases h
theorem aqj{o:Oper}{ρ:Operand->AV}{v:AV}{pre:Prop}{H:aq}(h:xp P o ρ H=some (pre,v))(hp:pre){C:Ctx}{env:Env}{tm:Array Value}{w:World}
  (hs:fV C env H I L tm w) {σ:Operand->Value} (hσ:∀x,di I L (σ x) (ρ x)):mR P C H I L w ((execOp σ o).run P w) v H:=by
 unfold xp at h;split at h
 ·rename_i hx;simp only[cm] at h;subst h;exact amT hx hp hs hσ
 ·split at h
  ·rename_i hx;simp only[cm] at h;subst h;exact aqh hx hp hs hσ
  ·exact aqi h hp hs hσ
def ve(H:aq):AV->Option (List (List PV))
 | .p (.aE ns)=>some ns
 | .p (.val (.slice _ 0 _))=>some []
 | .p .emp=>some []
 | .row id aW=>rowOf H id aW
 |_=>none
theorem akc{C:Ctx}{H:aq}{env:Env}{tm:Array Value}{w:World}(hs:fV C env H I L tm w){b:AV}{ns:List (List PV)}(h:ve H b=some ns){y:Value}(hy:di I L y b) :
  ∃bo cap,∃nus:List Value,y = .slice bo ns.length cap/\nus.length=ns.flatten.length/\(∀ (j:Nat) u c,nus[j]? = some u->ns.flatten[j]? = some c->VR I u c)/\(∀u∈nus,u.oneCell'=true) /\
   (nus=[]\/∃b off,bo=some ⟨b,off,none⟩/\∀ (j:Nat) u,nus[j]? = some u->w.cell? ⟨b,off+j,none⟩=some u)/\ns.length<=cap:=by
 have aiA : ∀ {u : Value}, VR I u (.aE ns) → ∃ bo cap, ∃ nus : List Value, u = .slice bo ns.length cap ∧ nus.length = ns.flatten.length ∧ (∀ (j : Nat) u c, nus[j]? = some u → ns.flatten[j]? = some c → VR I u c) ∧ (∀ u ∈ nus, u.oneCell' = true) ∧
   (nus=[]\/∃b off,bo=some ⟨b,off,none⟩/\∀ (j:Nat) u,nus[j]? = some u->w.cell? ⟨b,off+j,none⟩=some u)/\ns.length<=cap:=by
  intro u hu;cases hu with
  |aE bo n cap _ nus nsz hlen hnsz hnl hnv hnone hnm aFP azu=>subst hlen;exact⟨bo,cap,nus,rfl,hnl,hnv,hnone,hnm.imp id λ⟨b,off,e,k⟩=>⟨b,off,e,λj u hj=>hs.mem _ _ _ (k j u hj)⟩,azu⟩
 unfold ve at h;split at h
 ·simp only[cm] at h;subst h;exact aiA hy.nc
 ·simp only[cm] at h;subst h;rename_i ao cap;exact⟨ao,cap,[],hy.dr.1,rfl,by simp,by simp,.inl rfl,Nat.zero_le _⟩
 ·simp only[cm] at h;subst h;cases hy.nc;exact⟨_,0,[],rfl,rfl,by simp,by simp,.inl rfl,Nat.zero_le _⟩
 ·rename_i id aW;unfold rowOf at h;split at h
  ·rename_i v e sz es hH;split at h
   ·rename_i hv;simp at h;subst h hv;obtain⟨hdr,us,h1,h2,h3,h4,h5,h6,h7⟩:=hs.chunk id _ hH;cases hy with
    |row _ _ _ v1 m9 sz1 hl hle hh hone =>
     rw[h1] at hl;simp only[cm,Loc.row.injEq] at hl;obtain⟨r1,r2,r3⟩:=hl;subst r1 r2 r3;have hxe:=hh rfl;subst hxe;have hfl:=b5 h4;have hlen:us.length=es.flatten.length:=by rw[hfl];exact h2.1
     rcases h2.2 with ⟨e1,hn⟩|⟨g,cap,cur,e1,hb,hg,hnc,hcm,hcs,nh⟩
     ·have he:es=[]:=List.length_eq_zero_iff.1 hn;subst he;exact⟨none,0,us,e1,hlen,h5,h6,.inl (List.length_eq_zero_iff.1 (by simpa using hlen)),Nat.le_refl _⟩
     ·refine⟨some ⟨g,0,none⟩,cap,us,e1,hlen,h5,h6,.inr ⟨g,0,rfl,λj u hu=>?_⟩,hnc⟩;have:=h2.cells (g:=g) (by rw[e1];rfl) j u hu;rwa [Addr.add_mid] at this
   ·cases h
  ·rename_i v es hH;split at h
   ·rename_i hv;simp at h;subst h hv;obtain⟨hdr,sz,h1,h2,_⟩:=hs.chunk id _ hH;cases hy with
    |row _ _ _ v1 m9 sz1 hl hle hh hone=>rw[h1] at hl;simp only[cm,Loc.row.injEq] at hl;obtain⟨r1,r2,r3⟩:=hl;subst r1 r2 r3;rw[hh rfl];exact aiA h2
   ·cases h
  ·rename_i v e sz es hH;split at h
   ·rename_i hv;simp at h;subst h hv;obtain⟨g0,o0,aD0,arr,h1,k2,k3,k4,k5,k6,h2,k8⟩:=hs.chunk id _ hH;cases hy with
    |row _ _ _ v1 m9 sz1 hl hle hh hone=>rw[h1] at hl;simp only[cm,Loc.row.injEq] at hl;obtain⟨r1,r2,r3⟩:=hl;subst r1 r2 r3;rw[hh rfl];exact aiA h2
   ·cases h
  ·cases h
 ·cases h
end Go.bP
namespace Go.bP
open Go.RowKit
variable{P:Program}{I:Mem}{L:bg}
def agz(P:Program)(t1 t2:TypeId)(a b:AV)(H:aq):Option (Prop×AV×aq):=match a,eU P t1 t2 with
 | .row id aW,some (e',sz',sy)=>match H id with
  | some (.row v e sz es) => if v = aW ∧ e = e' ∧ sz = sz' then match ve H b with
    |some ns=>some ((es.length+ns.length) * sy<=140737488355328/\∀x∈ns,x.length=sz,.row id (aW+1),bh H id (.row (aW+1) e sz (es++ns)))
    |none=>none
   else none
  |_=>none
 |_,_=>none
def vY(P:Program)(o:Oper)(ρ:Operand->AV)(H:aq):Option (Prop×AV×aq):=match o.op with
 | .store t a x=>match bf P t with
  | some n => if (bO (ρ x)).length = n ∧ (bO (ρ x)).all oo = true then match ρ a with
    | .ptr id off=>match H id with
     |some (.box cs)=>if off+n<=cs.length then some (True,.dead,bh H id (.box (splice cs off (bO (ρ x))))) else none
     |_=>none
    | .iY id aW i off=>match H id,uN (bO (ρ x)) with
     |some (.row v e sz es),some ps=>if v=aW then some (i<es.length/\off+n<=sz,.dead,bh H id (.row v e sz (es.set i (splice (es.getD i []) off ps)))) else none
     |_,_=>none
    |_=>none
   else none
  |none=>none
 | .alloc e=>match o.dst with
  |some d=>match H d,dn P e with
   |none,some zs=>if zs.all (·.oneCell')=true then some (True,.ptr d 0,bh H d (.box (zs.map λz=>.p (.val z)))) else none
   |_,_=>none
  |none=>none
 | .box _ x=>match o.dst with
  |some d=>match H d with
   |none=>if (bO (ρ x)).all oo=true then some (True,.ptr d 0,bh H d (.box (bO (ρ x)))) else none
   |some _=>none
  |none=>none
 | .call c=>match c.callee,c.argTypes.toList,c.args.toList.map ρ with
  | .builtin .append,[t1,t2],[a,b]=>agz P t1 t2 a b H
  |_,_,_=>none
 |_=>none
theorem ag6{u:Value}{a:AV}(h:di I L u a)(hall:(bO a).all oo=true):∃us:List Value,u.cells=us.toArray/\us.length=(bO a).length /\
  (∀ (j:Nat) u c,us[j]? = some u->(bO a)[j]? = some c->di I L u c)/\∀x∈us,x.oneCell'=true:=by
 have hone:∀c∈bO a,oo c=true:=List.all_eq_true.1 hall;obtain⟨us,h1,h2,h3⟩:=h.cells hone;refine⟨us,h1,h2,h3,λx hx=>?_⟩;obtain⟨j,hj⟩:=List.mem_iff_getElem?.1 hx;have hjl:j<(bO a).length:=by rw[<-h2];exact (List.getElem?_eq_some_iff.1 hj).1
 exact (h3 j x _ hj (List.getElem?_eq_getElem hjl)).one (hone _ (pz _))
theorem aiB{C:Ctx}{H:aq}{env:Env}{tm:Array Value}{w:World}(hs:fV C env H I L tm w){d:Nat}(hd:H d=none){us:List Value}{cs:List AV}(e:TypeId)
  (hl:us.length=cs.length) (hv:∀ (j:Nat) u c,us[j]? = some u->cs[j]? = some c->di I L u c) (h1:∀x∈us,x.oneCell'=true) :
  di I (cu L d (.box w.heap.size)) (.pointer (some ⟨w.heap.size,0,none⟩)) (.ptr d 0)/\Fr C I L H w I (cu L d (.box w.heap.size)) (bh H d (.box cs)) (w.alloc (.cells us.toArray e)):=by
 refine⟨.ptr _ _ _ (by simp[cu]),λenv tm hs=>?_⟩;refine hs.new ((Below.refl _ _).alloc hs.leB _) (λb hb=>Below.heap_alloc _ _ _ hb) hd _ _ ?_ (λb hb=>by
  simp only[Loc.has,cm] at hb;subst hb;simp)
 refine⟨w.heap.size,us.toArray,e,by simp[cu],heap_alloc_new w _,by simpa using hl,λj u c hu hc=>?_,λj u hu=>?_,λo=>aeB hs.mem o⟩
 ·exact (hv j u c (by simpa using hu) hc).mono (Mem.ew I) (dN.vW (hs.tr hd) _)
 ·exact h1 u (List.mem_of_getElem? (by simpa using hu))
theorem aiC{C:Ctx}{H:aq}{env:Env}{tm:Array Value}{w w':World}(_:fV C env H I L tm w){d:Nat}(hd:H d=none){us:List Value}{es:List (List PV)}{e:TypeId}{sz cap:Nat}{arr:Array Value}
  (hw:w'=w.alloc (.cells arr e)\/w'=w.drew.alloc (.cells arr e)) (aek:arr.size=cap * sz) (hcm:cap<=maxLen) (htk:arr.toList.take (es.length * sz)=us) (hpos:0<sz)
  (hall:∀x∈es,x.length=sz) (hl:us.length=es.flatten.length) (hv:∀ (j:Nat) u c,us[j]? = some u->es.flatten[j]? = some c->VR I u c) (h1:∀x∈us,x.oneCell'=true) (hcap:es.length<=cap) :
  di I (cu L d (.row 0 (.slice (some ⟨w.heap.size,0,none⟩) es.length cap) sz)) (.slice (some ⟨w.heap.size,0,none⟩) es.length cap) (.row d 0) /\
  Fr C I L H w I (cu L d (.row 0 (.slice (some ⟨w.heap.size,0,none⟩) es.length cap) sz)) (bh H d (.row 0 e sz es)) w':=by
 refine⟨.row _ d 0 0 (.slice (some ⟨w.heap.size,0,none⟩) es.length cap) sz (by simp[cu]) (Nat.le_refl _) (λ_=>rfl) rfl,λenv tm hs=>?_⟩;have hb:Below C.B w w':=by
  rcases hw with rfl|rfl
  ·exact (Below.refl _ _).alloc hs.leB _
  ·exact (Below.refl _ _).drew.alloc hs.leB _
 have hk:∀b,b<w.heap.size->w'.heap[b]? = w.heap[b]?:=λb hlt=>by
  rcases hw with rfl|rfl
  ·exact Below.heap_alloc _ _ _ hlt
  ·exact Below.heap_alloc w.drew _ _ hlt
 have hnew:w'.heap[w.heap.size]? = some (.cells arr e (0,0)):=by
  rcases hw with rfl|rfl
  ·exact heap_alloc_new w _
  ·exact heap_alloc_new w.drew _
 have hsz:w'.heap.size=w.heap.size+1:=by rcases hw with rfl|rfl<;>simp
 refine hs.new hb hk hd _ _ ?_ (λb hb=>by
  simp only[Loc.has,Value.ownBlock,cm] at hb;subst hb;omega)
 refine⟨.slice (some ⟨w.heap.size,0,none⟩) es.length cap,us,by simp[cu],⟨by rw[hl,b5 hall],.inr ⟨w.heap.size,cap,arr,rfl,hs.leB,hnew,hcap,hcm,aek,htk⟩⟩,hpos,hall,hv,h1,λb hb o=>?_⟩;simp only[Value.ownBlock,cm] at hb;subst hb;exact aeB hs.mem o
theorem abX{t:TypeId}{n:Nat}(hn:bf P t=some n){u:Value}{us:List Value}(hu:u.cells=us.toArray)(hlen:us.length=n){w:World}{b off:Nat}{arr:Array Value}{e:TypeId}
  (hg:w.heap[b]? = some (.cells arr e (0,0))) (hle:off+n<=arr.size) (h1:∀x∈us,x.oneCell'=true) :
  (Instr.storeAt t (.pointer (some ⟨b,off,none⟩)) u).run P w = .ok () (w.setRow b (splice arr.toList off us).toArray):=by
 have hst:=run_storeCells_at P b off e us 0 arr w hg (by omega) h1;simp only[Nat.add_zero] at hst;have hsz:us.toArray.size=n:=by simpa using hlen
 simp[Instr.storeAt,Instr.sureAddr,storeVar,cR hn,hu,hsz,hst,splice,hlen]
theorem dN.aay{L:bg}{id:Nat}{l:Loc}(h:L id=some l):dN L (cu L id l):=λi=>by
 by_cases hi:i=id
 ·subst hi;have:=dN.refl L i;rw[h] at this ⊢;simpa[cu,h] using this
 ·have:cu L id l i=L i:=by simp[cu,hi]
  rw[this];exact dN.refl L i
theorem dN.amW{L:bg}{id v:Nat}{hdr fN:Value}{sz:Nat}(h:L id=some (.row v hdr sz)):dN L (cu L id (.row (v+1) fN sz)):=λi=>by
 by_cases hi:i=id
 ·subst hi;rw[h];exact⟨v+1,fN,by simp[cu],by omega,λe=>by omega⟩
 ·have:cu L id (.row (v+1) fN sz) i=L i:=by simp[cu,hi]
  rw[this];exact dN.refl L i
theorem vB{w:World}{B b:Nat}(cs:Array Value)(h:B<=b):Below B w (w.setRow b cs):=⟨rfl,rfl,rfl,by simp[World.setRow],λk hk=>setRow_other w b k cs (by omega)⟩
theorem amX{R:Value->PV->Prop}{us vs:List Value}{cs ds:List PV}(hl:us.length=cs.length)(hv:∀ (j:Nat) u c,us[j]? = some u->cs[j]? = some c->R u c)
  (hw:∀ (j:Nat) u c,vs[j]? = some u->ds[j]? = some c->R u c):∀ (j:Nat) u c,(us++vs)[j]? = some u->(cs++ds)[j]? = some c->R u c:=by
 intro j u c hu hc;rw[List.getElem?_append] at hu hc;rw[hl] at hu;split at hu
 ·rename_i h;rw[if_pos h] at hc;exact hv _ _ _ hu hc
 ·rename_i h;rw[if_neg h] at hc;exact hw _ _ _ hu hc
theorem amY{t1 t2 ty:TypeId}{a b v:AV}{pre:Prop}{H H':aq}(h:agz P t1 t2 a b H=some (pre,v,H'))(hp:pre){C:Ctx}{env:Env}{tm:Array Value}{w:World}(hs:fV C env H I L tm w)
  {x y:Value} (hx:di I L x a) (hy:di I L y b) {s':Sem Next} (hs':∀w,s'.run P w=((Builtin.append_ #[t1,t2] ty #[x,y]).run P w).andThen λu w'=>.ok (.value u) w') :
  mR P C H I L w (s'.run P w) v H':=by
 unfold agz at h;split at h
 ·rename_i id aW e' sz' sy ht
  obtain⟨rfl,hu,hpos,aeV,i,z,hi,hz,hsz,hby,hzc⟩:=qX ht;split at h
  ·rename_i v0 e sz es hH;split at h
   ·rename_i hc;obtain⟨rfl,rfl,rfl⟩:=hc;split at h
    ·rename_i ns hsrc;simp only[cm,gD] at h;obtain⟨h1,h2,h3⟩:=h;subst h1 h2 h3;obtain⟨hb,hall⟩:=hp;obtain⟨hdr,us,q1,q2,q3,q4,q5,q6,q7⟩:=hs.chunk id _ hH;cases hx with
     |row _ _ _ v1 m9 sz1 hl hle hh hone =>
      rw[q1] at hl;simp only[cm,Loc.row.injEq] at hl;obtain⟨r1,r2,r3⟩:=hl;subst r1 r2 r3;have hxe:=hh rfl;subst hxe;obtain⟨bo,cap,nus,hye,hnl,hnv,hnone,hnm,azu⟩:=akc hs hsrc hy
      ·subst hye;have aAW:=b5 hall;have atp:es.length+ns.length<=maxLen:=by have:=Nat.le_mul_of_pos_right (es.length+ns.length) aeV;simp only[maxLen];omega
       have finish : ∀ (v' : Value) (w' : World), (Builtin.append_ #[t1, t1] ty #[x, .slice bo ns.length cap]).run P w = .ok v' w' → w'.ownsRow C.B e sz v' (es.length + ns.length) (us ++ nus) → w.grownBy w' x.ownBlock →
         (∀b,v'.ownBlock=some b->x.ownBlock=some b\/(w.heap.size<=b/\b<w'.heap.size))->v'.oneCell'=true ->
         mR P C H I L w (s'.run P w) (.row id (v0+1)) (bh H id (.row (v0+1) e sz (es++ns))):=by
        intro v' w' hr ho hg hblk h1;refine⟨v',w',I,cu L id (.row (v0+1) v' sz),.inl (by rw[hs',hr];rfl),.row _ _ _ (v0+1) v' sz (by simp[cu]) (Nat.le_refl _) (λ_=>rfl) h1,λenv tm hs=>?_⟩;refine hs.turn (Below.grown (Below.refl _ _) hg hs.leB λk hk=>(hs.fO id _ k q1 hk).1) q1 (λb hb hne=>hg.block b hb λe=>hne e.symm) (dN.amW q1) (λb hb=>q7 b hb) _ ?_ hblk;refine⟨v',us++nus,by simp[cu],by rw[List.length_append];exact ho,q3,?_,?_,?_,?_⟩
        ·intro x hx;rcases List.mem_append.1 hx with h|h
         ·exact q4 x h
         ·exact hall x h
        ·rw[List.flatten_append];exact amX (by rw[b5 q4];exact q2.1) q5 hnv
        ·intro x hx;rcases List.mem_append.1 hx with h|h
         ·exact q6 x h
         ·exact hnone x h
        ·intro b hb o;rcases hblk b hb with h|h
         ·exact q7 b h o
         ·cases hI:I b o with
          |none=>rfl
          |some u=>exact absurd (hs.mem.lt hI) (by omega)
       rcases hnm with rfl|⟨bb,off,rfl,hI⟩
       ·-- nothing is appended
        have h0:ns.length=0:=by
         have:ns.flatten.length=0:=by rw[<-hnl];rfl
         rw[aAW] at this;rcases Nat.mul_eq_zero.1 this with h|h
         ·exact h
         ·omega
        rcases q2.2 with ⟨rfl,hn0⟩|⟨g,cp,cur,rfl,hbg,hg,hnc,hcm,hcs,nh⟩
        ·refine finish (.slice none 0 0) w ?_ ?_ ⟨rfl,rfl,rfl,Nat.le_refl _,λ_ _ _=>rfl⟩ (λb hb=>.inl hb) rfl
         ·simp[Builtin.append_,run_underlying hu,sizeOf,typeInfo,hi,Builtin.lenOf,h0];cases bo<;>simp[Builtin.firstCells,loadCells,loadCellsFrom]
         ·rw[List.append_nil,h0,Nat.add_zero];exact q2
        ·refine finish (.slice (some ⟨g,0,none⟩) es.length cp) w ?_ ?_ ⟨rfl,rfl,rfl,Nat.le_refl _,λ_ _ _=>rfl⟩ (λb hb=>.inl hb) rfl
         ·simp[Builtin.append_,run_underlying hu,sizeOf,typeInfo,hi,Builtin.lenOf,h0,hnc];cases bo<;>simp[Builtin.firstCells,loadCells,loadCellsFrom,storeCells]
         ·rw[List.append_nil,h0,Nat.add_zero];exact q2
       ·have hnews:∀ (j:Nat) v,nus[j]? = some v->w.cell? ((⟨bb,off,none⟩:Addr).add j)=some v:=λj v hj=>by rw[Addr.add_mid];exact hI j v hj
        have aqk:nus.length=ns.length * sz:=by rw[hnl,aAW]
        obtain⟨v',w',hr,ho,hg,_⟩:=run_append_own (P:=P) w C.B t1 ty e i z sz sy hu hi hz hsz hby hzc hpos x es.length us q2 ⟨bb,off,none⟩ ns.length cap nus aqk hnews hnone atp hb hs.leB
        refine finish v' w' hr ho hg ?_ ?_
        ·rcases q2.2 with ⟨rfl,hn0⟩|⟨g,cp,cur,rfl,hbg,hgg,hnc,hcm,hcs,nh⟩
         ·by_cases hm0:ns.length=0
          ·have hr2:(Builtin.append_ #[t1,t1] ty #[.slice none 0 0,.slice (some ⟨bb,off,none⟩) ns.length cap]).run P w = .ok (.slice none 0 0) w:=by have:nus=[]:=List.length_eq_zero_iff.1 (by rw[aqk,hm0,Nat.zero_mul]);simp[Builtin.append_,run_underlying hu,sizeOf,typeInfo,hi,Builtin.lenOf,hm0,Builtin.firstCells,loadCells,loadCellsFrom]
           rw[hr2] at hr;simp only[Result.ok.injEq] at hr;obtain⟨rfl,rfl⟩:=hr;intro b hb;exact .inl hb
          ·obtain⟨cp,rest,hr2,_⟩:=rR (P:=P) (ty:=ty) hu hi hz hsz none ⟨bb,off,none⟩ ns.length cap nus w aqk hnews (by omega) (by rw[hby];rw[hn0,Nat.zero_add] at hb;exact hb) (by simp only[maxLen] at atp;omega);rw[hr2] at hr;simp only[Result.ok.injEq] at hr;obtain⟨rfl,rfl⟩:=hr;intro b hb;simp only[Value.ownBlock,cm] at hb;subst hb;exact .inr ⟨Nat.le_refl _,by simp⟩
         ·by_cases hroom:es.length+ns.length<=cp
          ·have hfit:es.length * i.size+nus.length<=cur.size:=by rw[aqk,hcs,hsz,<-Nat.add_mul];exact Nat.mul_le_mul_right _ hroom
           have hr2:=run_append_room (P:=P) w t1 ty e i hu hi g es.length cp cur hgg ⟨bb,off,none⟩ ns.length cap nus (by rw[hsz];exact aqk) hnews hnone hroom hfit;rw[hr2] at hr;simp only[Result.ok.injEq] at hr;obtain⟨rfl,rfl⟩:=hr;intro b hb;exact .inl hb
          ·have holds:∀j u,us[j]? = some u->w.cell? ((⟨g,0,none⟩:Addr).add j)=some u:=q2.cells (g:=g) rfl;have hr2:=run_append_grow (P:=P) w t1 ty e i z hu hi hz ⟨g,0,none⟩ es.length cp us (by rw[hsz];exact q2.1) holds ⟨bb,off,none⟩ ns.length cap nus (by rw[hsz];exact aqk) hnews (by omega) (by simp only[maxLen] at atp;omega)
            (growslice_fits (by omega) (by rw[hby];exact hb))
           rw[hr2] at hr;simp only[Result.ok.injEq] at hr;obtain⟨rfl,rfl⟩:=hr;intro b hb;simp only[Value.ownBlock,cm] at hb;subst hb;exact .inr ⟨Nat.le_refl _,by simp⟩
        ·rcases ho.2 with ⟨rfl,_⟩|⟨_,_,_,rfl,_⟩<;>rfl
    ·cases h
   ·cases h
  ·cases h
 ·cases h
end Go.bP
namespace Go.bP
open Go.RowKit
variable{P:Program}{I:Mem}{L:bg}
theorem abq{us un:List Value}{off:Nat}(h1:∀x∈us,x.oneCell'=true)(h2:∀x∈un,x.oneCell'=true):∀x∈splice us off un,x.oneCell'=true:=λx hx=>by
 unfold splice at hx;simp only[List.mem_append] at hx;rcases hx with (hx|hx)|hx
 ·exact h1 x (List.mem_of_mem_take hx)
 ·exact h2 x hx
 ·exact h1 x (List.mem_of_mem_drop hx)
theorem adN{α:Type}{sz:Nat} : ∀ {es:List (List α)} (_:∀e∈es,e.length=sz) (i:Nat) (_:i<es.length) (off:Nat) (ps:List α) (_:off+ps.length<=sz),
  (es.set i (splice (es.getD i []) off ps)).flatten=splice es.flatten (i * sz+off) ps
 | [],_,i,hi,_,_,_=>by simp at hi
 |e :: es,h,0,_,off,ps,hle=>by
  have he:=h e (by simp);simp only[List.set_cons_zero,List.getD_cons_zero,List.flatten_cons,Nat.zero_mul,Nat.zero_add,splice];have e1:(e++es.flatten).take off=e.take off:=by rw[List.take_append_of_le_length (by omega)]
  have e2:(e++es.flatten).drop (off+ps.length)=e.drop (off+ps.length)++es.flatten:=by rw[List.drop_append_of_le_length (by omega)]
  rw[e1,e2];simp
 |e :: es,h,i+1,hi,off,ps,hle=>by
  have he:=h e (by simp);have ih:=adN (es:=es) (λx hx=>h x (by simp[hx])) i (by simpa using hi) off ps hle;simp only[List.set_cons_succ,List.getD_cons_succ,List.flatten_cons];rw[ih];have hm:(i+1) * sz+off=e.length+(i * sz+off):=by rw[he,Nat.add_mul];omega
  rw[hm];unfold splice;have e2:e.length+(i * sz+off)+ps.length=e.length+(i * sz+off+ps.length):=by omega
  rw[e2,List.take_length_add_append,List.drop_length_add_append];simp
theorem adO{α:Type}{l x:List α}{off n:Nat}(h:off+x.length<=n)(hn:n<=l.length):(splice l off x).take n=splice (l.take n) off x:=by
 apply List.ext_getElem?;intro j;unfold splice;simp only[List.getElem?_take,List.append_assoc,List.getElem?_append,List.length_take,List.getElem?_drop];by_cases h1:j<off
 ·have a1:j<n:=by omega
  have a2:j<min off l.length:=by omega
  have a3:j<min off (min n l.length):=by omega
  rw[if_pos a1,if_pos a2,if_pos a3,if_pos h1,if_pos h1,if_pos a1]
 ·have a2:¬ j<min off l.length:=by omega
  have a3:¬ j<min off (min n l.length):=by omega
  have e1:min off l.length=off:=by omega
  have e2:min off (min n l.length)=off:=by omega
  rw[if_neg a2,if_neg a3,e1,e2];by_cases h2:j-off<x.length
  ·rw[if_pos h2,if_pos h2,if_pos (show j<n by omega)]
  ·rw[if_neg h2,if_neg h2];have e3:off+x.length+(j-off-x.length)=j:=by omega
   rw[e3]
theorem amZ{us un:List Value}{cs cn:List PV}{off:Nat}(hl:us.length=cs.length)(hn:un.length=cn.length)
  (hv:∀ (j:Nat) u c,us[j]? = some u->cs[j]? = some c->VR I u c) (hw:∀ (j:Nat) u c,un[j]? = some u->cn[j]? = some c->VR I u c) :
  ∀ (j:Nat) u c,(splice us off un)[j]? = some u->(splice cs off cn)[j]? = some c->VR I u c:=abl hl hn hv hw
theorem akd{s:Sem Unit}{w w':World}(h:s.run P w = .ok () w'):(do s;pure .skip:Sem Next).run P w = .ok .skip w':=by simp[h]
theorem vZ{s:Sem Value}{u:Value}{w w':World}(h:s.run P w = .ok u w'):(do pure (.value (<-s)):Sem Next).run P w = .ok (.value u) w':=by simp[h]
theorem aql{o:Oper}{ρ:Operand->AV}{v:AV}{pre:Prop}{H H':aq}(h:vY P o ρ H=some (pre,v,H'))(hp:pre){C:Ctx}{env:Env}{tm:Array Value}{w:World}
  (hs:fV C env H I L tm w) {σ:Operand->Value} (hσ:∀x,di I L (σ x) (ρ x)):mR P C H I L w ((execOp σ o).run P w) v H':=by
 unfold vY at h;unfold execOp;split at h
 ·rename_i t a x hop;simp only[hop];have ha:=hσ a;have hx:=hσ x;generalize σ a=ua at ha ⊢;generalize ρ a=av at h ha;generalize σ x=ux at hx ⊢;generalize ρ x=xv at h hx;split at h
  ·rename_i n hn;split at h
   ·rename_i hc;obtain⟨hlen,hall⟩:=hc;obtain⟨us,u1,u2,u3,u4⟩:=ag6 hx hall;split at h
    ·rename_i id off;split at h
     ·rename_i cs hH;split at h
      ·rename_i hle;simp only[cm,gD] at h;obtain⟨_,h2,h3⟩:=h;subst h2 h3;obtain⟨b,arr,e,g1,g2,g3,g4,g5,g6⟩:=hs.chunk id _ hH;cases ha with
       |ptr _ b' _ hl =>
        rw[g1] at hl;simp only[cm,Loc.box.injEq] at hl;subst hl;have hr:=abX hn u1 (by omega) g2 (off:=off) (by omega) u4;refine⟨undef,_,I,cu L id (.box b),.inr ⟨akd hr,rfl⟩,.dead _,λenv tm hs=>?_⟩;refine hs.turn (vB _ (hs.fO id _ b g1 rfl).1) g1 (λk hk hne=>setRow_other w b k _ (λe=>hne (by rw[e];rfl))) (dN.aay g1) (λk hk o=>by
         simp only[Loc.has,cm] at hk;subst hk;exact g6 o) _ ?_ (λk hk=>.inl hk)
        refine⟨b,(splice arr.toList off us).toArray,e,by simp[cu],setRow_heap w b arr _ e _ g2,?_,?_,?_,g6⟩
        ·simp only[List.size_toArray];rw[gV (by simp;omega),gV (by omega)];simpa using g3
        ·intro j u c hu hc;have:=abl (R:=di I L) (us:=arr.toList) (cs:=cs) (off:=off) (un:=us) (cn:=bO xv) (by simpa using g3) u2 (λj u c hu hc=>g4 j u c (by simpa using hu) hc) u3 j u c (by simpa using hu) hc;exact this.mono (Mem.ew I) (dN.aay g1)
        ·intro j u hu;refine abq (us:=arr.toList) (un:=us) (off:=off) (λx hx=>?_) u4 u (List.mem_of_getElem? (by simpa using hu));obtain⟨k,hk⟩:=List.mem_iff_getElem?.1 hx;exact g5 k x (by simpa using hk)
      ·cases h
     ·cases h
    ·rename_i id aW i off;split at h
     ·rename_i v0 e sz es ps hH hps;split at h
      ·rename_i hv;subst hv;simp only[cm,gD] at h;obtain⟨h1,h2,h3⟩:=h;subst h1 h2 h3;obtain⟨hi,hoff⟩:=hp;have hcs:=sZ hps;rw[hcs] at u2 u3 hlen;simp only[List.length_map] at u2 hlen;obtain⟨hdr,cs,q1,q2,q3,q4,q5,q6,q7⟩:=hs.chunk id _ hH;cases ha with
       |iY _ _ _ v1 _ _ m9 sz1 hl hle hh hone =>
        rw[q1] at hl;simp only[cm,Loc.row.injEq] at hl;obtain⟨r1,r2,r3⟩:=hl;subst r1 r2 r3;obtain⟨g,o,n',cap,e1,e2⟩:=hh rfl;subst e1 e2;rcases q2.2 with ⟨atn,_⟩|⟨g',cp,cur,heq,hbg,hgg,hnc,hcm,hcz,nh⟩
        ·cases atn
        simp only[Value.slice.injEq,cm,Addr.mk.injEq] at heq;obtain⟨⟨e3,e0,_⟩,e4,e5⟩:=heq;subst e3 e0 e4 e5;rw[Nat.zero_add];have hmul:(i+1) * sz<=es.length * sz:=Nat.mul_le_mul_right _ hi;have ati:(i+1) * sz=i * sz+sz:=by rw[Nat.add_mul];omega
        have hcap:es.length * sz<=cur.size:=by rw[hcz];exact Nat.mul_le_mul_right _ hnc
        have hr:=abX hn u1 (by omega) hgg (off:=i * sz+off) (by omega) u4;refine⟨undef,_,I,cu L id (.row v0 (.slice (some ⟨g,0,none⟩) es.length cap) sz),.inr ⟨akd hr,rfl⟩,.dead _,λenv tm hs=>?_⟩;refine hs.turn (vB _ (hs.fO id _ g q1 rfl).1) q1 (λk hk hne=>setRow_other w g k _ (λe=>hne (by rw[e];rfl))) (dN.aay q1) (λk hk=>q7 k hk) _ ?_ (λk hk=>.inl hk);have hfl:=b5 q4;have hcl:cs.length=es.length * sz:=q2.1;have htk:(splice cur.toList (i * sz+off) us).take (es.length * sz)=splice cs (i * sz+off) us:=by rw[adO (by omega) (by simpa using hcap),nh]
        refine⟨.slice (some ⟨g,0,none⟩) es.length cap,splice cs (i * sz+off) us,by simp[cu],⟨?_,.inr ⟨g,cap,(splice cur.toList (i * sz+off) us).toArray,by rw[List.length_set],hbg,setRow_heap w g cur _ e _ hgg,by rw[List.length_set];exact hnc,hcm,?_,?_⟩⟩,q3,?_,?_,abq q6 u4,q7⟩
        ·rw[List.length_set,gV (by omega)];exact hcl
        ·simp only[List.size_toArray];rw[gV (by simp only[Array.length_toList];omega)];simpa using hcz
        ·rw[List.length_set];exact htk
        ·intro y hy;rcases List.mem_or_eq_of_mem_set hy with h|h
         ·exact q4 y h
         ·subst h;have hm:(es.getD i []).length=sz:=q4 _ (by
           have:es.getD i []=es[i]:=by simp[hi]
           rw[this];exact pz _)
          rw[gV (by omega)];exact hm
        ·rw[adN q4 i hi off ps (by omega)];exact amZ (by omega) (by omega) q5 (abT u3)
      ·cases h
     ·cases h
    ·cases h
   ·cases h
  ·cases h
 ·rename_i e hop;simp only[hop];split at h
  ·rename_i d hd;split at h
   ·rename_i zs hH hz;split at h
    ·rename_i hone;simp only[cm,gD] at h;obtain⟨_,h2,h3⟩:=h;subst h2 h3;obtain⟨z,hzr,hzc⟩:=zj hz w;obtain⟨zr,z1⟩:=aka (I:=I) (L:=L) zs hone;obtain⟨n1,n2⟩:=aiB hs hH (us:=zs) e (by simp) zr z1;refine⟨_,_,I,_,.inl (vZ ?_),n1,n2⟩;simp[Instr.alloc,hzr,newVar,newRow,newObj,Sem.run,hzc]
    ·cases h
   ·cases h
  ·cases h
 ·rename_i e x hop;simp only[hop];split at h
  ·rename_i d hd;split at h
   ·rename_i hH;split at h
    ·rename_i hall;simp only[cm,gD] at h;obtain⟨_,h2,h3⟩:=h;subst h2 h3;obtain⟨us,u1,u2,u3,u4⟩:=ag6 (hσ x) hall;obtain⟨n1,n2⟩:=aiB hs hH e u2 u3 u4;refine⟨_,_,I,_,.inl (vZ ?_),n1,n2⟩;simp[Instr.box,newVar,newRow,newObj,Sem.run,u1]
    ·cases h
   ·cases h
  ·cases h
 ·rename_i c hop;simp only[hop];split at h
  ·rename_i t1 t2 a b hc ht ha;have hat:c.argTypes = #[t1,t2]:=by rw[<-Array.toArray_toList (xs:=c.argTypes),ht]
   cases hca:c.args.toList with
   |nil=>simp[hca] at ha
   |cons x r =>
    cases r with
    |nil=>simp[hca] at ha
    |cons y r =>
     have hr0:r=[]:=by simpa[hca] using congrArg List.length ha
     subst hr0;have hxy:ρ x=a/\ρ y=b:=by simpa[hca] using ha
     have hargs:c.args = #[x,y]:=by rw[<-Array.toArray_toList (xs:=c.args),hca]
     refine amY (ty:=o.type) h hp hs (hxy.1 ▸ hσ x) (hxy.2 ▸ hσ y) (λw=>?_);simp[resolve,hc,invoke,builtin,hat,hargs]
  ·cases h
 ·cases h
end Go.bP
namespace Go.bP
open Go.RowKit
variable{P:Program}{I:Mem}{L:bg}
def exN(P:Program)(o:Oper)(ρ:Operand->AV)(H:aq)(d:Nat):Option (Prop×AV×aq):=match H d with
 |some _=>none
 |none=>match o.op with
  | .buildSlice t n parts=>match k9 P t n (parts.toList.map λx=>(x.1,ρ x.2)) with
   |some (e,es)=>match bf P e with
    |some sz=>some (True,.row d 0,bh H d (.row 0 e sz es))
    |none=>none
   |none=>match vc P t n (parts.toList.map λx=>(x.1,ρ x.2)) with
    |some (_,cs)=>some (True,.bsl d n,bh H d (.box cs))
    |none=>none
  | .makeSlice t l c=>match ρ l,ρ c,cW P t with
   | .p (.val (.int _ n)),.p (.val (.int _ m)),some e=>match bf P e,dn P e,u6 P e with
    | some sz, some zs, some sy => if zs.length = sz ∧ 0 < sz ∧ 0 < sy ∧ zs.all (·.oneCell') = true then
      some ((0<=n/\m=n)/\n * sy<=140737488355328,.row d 0,bh H d (.row 0 e sz (List.replicate n.toNat (zs.map PV.val)))) else none
    |_,_,_=>none
   |_,_,_=>none
  | .call c=>match c.callee,c.argTypes.toList,c.args.toList.map ρ with
   | .builtin .append,[t1,t2],[a,b]=>match a,eU P t1 t2,ve H b with
    | .p (.val (.slice none 0 0)),some (e,sz,sy),some es=>some (es.length * sy<=140737488355328/\∀x∈es,x.length=sz,.row d 0,bh H d (.row 0 e sz es))
    |_,_,_=>none
   |_,_,_=>none
  |_=>none
theorem aqm{n:Int}(h0:0<=n)(h:n<=9223372036854775807):i64.wrap n=n:=IntWalk.i64_in n (by omega)
theorem aiD{C:Ctx}{H:aq}{env:Env}{tm:Array Value}{w:World}(hs:fV C env H I L tm w){d:Nat}(hd:H d=none)(e:TypeId){sz:Nat}(hpos:0<sz) :
  di I (cu L d (.row 0 (.slice none 0 0) sz)) (.slice none 0 0) (.row d 0)/\Fr C I L H w I (cu L d (.row 0 (.slice none 0 0) sz)) (bh H d (.row 0 e sz [])) w/\dN L (cu L d (.row 0 (.slice none 0 0) sz)):=by
 refine⟨.row _ d 0 0 (.slice none 0 0) sz (by simp[cu]) (Nat.le_refl _) (λ_=>rfl) rfl,λenv tm hs=>?_,dN.vW (hs.tr hd) _⟩;refine hs.new (Below.refl _ _) (λ_ _=>rfl) hd _ _ ?_ (λb hb=>by simp[Loc.has,Value.ownBlock] at hb);exact⟨.slice none 0 0,[],by simp[cu],⟨by simp,.inl ⟨rfl,rfl⟩⟩,hpos,by simp,by simp,by simp,λb hb=>by simp[Value.ownBlock] at hb⟩
theorem aqn{o:Oper}{ρ:Operand->AV}{v:AV}{pre:Prop}{H H':aq}{d:Nat}(h:exN P o ρ H d=some (pre,v,H'))(hp:pre){C:Ctx}{env:Env}{tm:Array Value}{w:World}
  (hs:fV C env H I L tm w) {σ:Operand->Value} (hσ:∀x,di I L (σ x) (ρ x)):mR P C H I L w ((execOp σ o).run P w) v H':=by
 unfold exN at h;unfold execOp;split at h
 ·cases h
 rename_i hd;split at h
 ·rename_i t n parts hop;simp only[hop];split at h
  ·rename_i e es hb;split at h
   ·rename_i sz hsz;simp only[cm,gD] at h;obtain⟨_,h2,h3⟩:=h;subst h2 h3;obtain⟨uo,sz',hr,hel,atl,hpos,hn,hall,hl,hv,hone⟩:=vA hb (vX hσ parts.toList) w;rw[hsz] at atl;simp only[cm] at atl;subst atl;have hr':(Instr.buildSlice t n (parts.map λx=>(x.1,σ x.2))).run P w = .ok (.slice (some ⟨w.heap.size,0,none⟩) n n) (w.alloc (.cells uo.toArray e)):=by rw[<-hr];congr 2;apply Array.ext';simp
    have hfl:=b5 hall;have atp:n<=maxLen:=by
     unfold k9 at hb;rw[hel] at hb;simp only[hsz] at hb;split at hb
     ·split at hb
      ·rename_i hc;rename_i q1 q2;simp only[cm] at q1;subst q1;have:=Nat.le_mul_of_pos_right n hc.2.1;simp only[maxLen];omega
      ·cases hb
     ·cases hb
    subst hn;obtain⟨n1,n2⟩:=aiC hs hd (us:=uo) (es:=es) (e:=e) (sz:=sz) (cap:=es.length) (arr:=uo.toArray) (.inl rfl) (by simp[hl,hfl]) atp (by simp[hl,hfl,List.take_of_length_le]) hpos hall hl hv hone (Nat.le_refl _);exact⟨_,_,I,_,.inl (vZ hr'),n1,n2⟩
   ·cases h
  ·split at h
   ·rename_i e cs hb;simp only[cm,gD] at h;obtain⟨_,h2,h3⟩:=h;subst h2 h3;obtain⟨uo,hr,hl,hv,hone⟩:=agx hb (vX hσ parts.toList) w;have hr':(Instr.buildSlice t n (parts.map λx=>(x.1,σ x.2))).run P w = .ok (.slice (some ⟨w.heap.size,0,none⟩) n n) (w.alloc (.cells uo.toArray e)):=by rw[<-hr];congr 2;apply Array.ext';simp
    obtain⟨n1,n2⟩:=aiB hs hd (us:=uo) (cs:=cs) e hl hv hone;exact⟨_,_,I,_,.inl (vZ hr'),.bsl _ _ _ (by simp[cu]),n2⟩
   ·cases h
 ·rename_i t l c hop;simp only[hop];split at h
  ·rename_i k n k' m e hln hcn he;split at h
   ·rename_i sz zs sy hsz hz hby
    split at h
    ·rename_i hc;obtain⟨hzl,hpos,aeV,hone⟩:=hc;simp only[cm,gD] at h;obtain⟨h1,h2,h3⟩:=h;subst h1 h2 h3;obtain⟨⟨h0,hmn⟩,hb⟩:=hp;subst hmn;obtain⟨a,rfl⟩:=Int.eq_ofNat_of_zero_le h0;simp only[Int.toNat_natCast];have hlv:=(hln ▸ hσ l).dr.1;have hcv:=(hcn ▸ hσ c).dr.1;obtain⟨z,hzr,hzc⟩:=zj hz w;obtain⟨i,z',hi,hz',hzc'⟩:=zi hz;have u5:i.bytes=sy:=by simpa[u6,hi] using hby
     have hbn:a * sy<=140737488355328:=by
      have:((a * sy:Nat):Int)<=140737488355328:=by rw[Int.natCast_mul];exact hb
      omega
     have ha:a<=140737488355328:=by have:=Nat.le_mul_of_pos_right a aeV;omega
     have hw:i64.wrap (a:Int)=a:=aqm (by omega) (by omega);have aek:((Array.range (a * sz)).map (λi=>zs.toArray[i % zs.toArray.size]!))=(List.replicate a zs).flatten.toArray:=by rw[<-hzl];exact acZ zs a (by omega)
     have hall:∀x∈List.replicate a (zs.map PV.val),x.length=sz:=λx hx=>by rw[List.eq_of_mem_replicate hx];simpa using hzl
     have aD1:∀x∈List.replicate a zs,x.length=sz:=λx hx=>by rw[List.eq_of_mem_replicate hx];exact hzl
     have hfl:=b5 aD1;simp only[List.length_replicate] at hfl;have hrun:(Instr.makeSlice t (.int k a) (.int k' a)).run P w = .ok (.slice (some ⟨w.heap.size,0,none⟩) a a) (w.alloc (.cells ((List.replicate a zs).flatten.toArray) e)):=by
      have azV:¬ ((281474976710656:Int)<(sy:Int) * (a:Int)):=by
       have:(sy:Int) * (a:Int)=((a * sy:Nat):Int):=by rw[Int.natCast_mul,Int.mul_comm]
       rw[this];omega
      have hroom:∀w:World,(askRoom (a * sy)).run P w = .ok () w:=λw=>by unfold askRoom;split<;>simp[mark,Sem.run]
      by_cases hn0:a * sz=0
      ·have ha0:a=0:=by
        rcases Nat.mul_eq_zero.1 hn0 with h|h
        ·exact h
        ·omega
       subst ha0;simp only[Instr.makeSlice,Sem.run_bind,run_underlying (ey he),Result.andThen_ok,asInt,asIntOf,Sem.run_pure,typeInfo,program,Sem.run,hi,u5,hw];simp[cR hsz,askRoom,roomBytes,newRow,newObj,Sem.run];have hr0:(Array.range 0).map (λ_:Nat=>(default:Value)) = #[]:=Array.eq_empty_of_size_eq_zero (by simp);rw[hr0]
      ·simp only[Instr.makeSlice,Sem.run_bind,run_underlying (ey he),Result.andThen_ok,asInt,asIntOf,Sem.run_pure,typeInfo,program,Sem.run,hi,u5,hw];have hneg:¬ ((a:Int)<0):=by omega
       simp[azV,hneg,hroom,newRow,newObj,Sem.run];rw[cR hsz];simp only[Result.andThen_ok];rw[if_neg hn0,hzr];simp only[Result.andThen_ok,hzc,aek]
     have hus:∀u∈(List.replicate a zs).flatten,u.oneCell'=true:=λu hu=>by obtain⟨x,hx,hux⟩:=List.mem_flatten.1 hu;rw[List.eq_of_mem_replicate hx] at hux;exact List.all_eq_true.1 hone u hux
     have azv:(List.replicate a (zs.map PV.val)).flatten=(List.replicate a zs).flatten.map PV.val:=by simp[List.map_flatten]
     obtain⟨n1,n2⟩:=aiC hs hd (us:=(List.replicate a zs).flatten) (es:=List.replicate a (zs.map PV.val)) (e:=e) (sz:=sz) (cap:=a) (arr:=(List.replicate a zs).flatten.toArray) (.inl rfl)
      (by simpa using hfl) (by simp only[maxLen];omega) (by rw[List.length_replicate,List.take_of_length_le (by simp only[];omega)]) hpos hall (by rw[azv,List.length_map])
      (λj u c hu hc=>by
       rw[azv,List.getElem?_map,hu] at hc;simp at hc;subst hc;exact .val u (hus u (List.mem_of_getElem? hu))) hus (by simp)
     rw[List.length_replicate] at n1 n2;exact⟨_,_,I,_,.inl (vZ (by rw[hlv,hcv];exact hrun)),n1,n2⟩
    ·cases h
   ·cases h
  ·cases h
 ·rename_i c hop;simp only[hop];split at h
  ·rename_i t1 t2 a b hc ht ha;split at h
   ·rename_i e sz sy es hty hsrc
    simp only[cm,gD] at h;obtain⟨h1,h2,h3⟩:=h;subst h1 h2 h3;obtain⟨hb,hall⟩:=hp;have hat:c.argTypes = #[t1,t2]:=by rw[<-Array.toArray_toList (xs:=c.argTypes),ht]
    cases hca:c.args.toList with
    |nil=>simp[hca] at ha
    |cons x r =>
     cases r with
     |nil=>simp[hca] at ha
     |cons y r =>
      have hr0:r=[]:=by simpa[hca] using congrArg List.length ha
      subst hr0;have hxy:ρ x = .p (.val (.slice none 0 0))/\ρ y=b:=by simpa[hca] using ha
      have hargs:c.args = #[x,y]:=by rw[<-Array.toArray_toList (xs:=c.args),hca]
      obtain⟨rfl,hu,hpos,aeV,i,z,hi,hz,hsz,hby,hzc⟩:=qX hty;have hxe:=(hxy.1 ▸ hσ x).dr.1;have hye:di I L (σ y) b:=hxy.2 ▸ hσ y;have atq:∀w,(do let d <-resolve σ c o.type;invoke d.target d.args:Sem Next).run P w=((Builtin.append_ #[t1,t1] o.type #[σ x,σ y]).run P w).andThen λu w'=>.ok (.value u) w':=λw=>by simp[resolve,hc,invoke,builtin,hat,hargs]
      generalize σ y=uy at hye atq;obtain⟨bo,cap,us,hys,hl,hv,hone,hm,hcap⟩:=akc hs hsrc hye
      ·subst hys;by_cases h0:es.length=0
       ·have he:es=[]:=List.length_eq_zero_iff.1 h0;subst he;have hrun:(Builtin.append_ #[t1,t1] o.type #[.slice none 0 0,.slice bo 0 cap]).run P w = .ok (.slice none 0 0) w:=by cases bo<;>simp[Builtin.append_,run_underlying hu,sizeOf,typeInfo,hi,Builtin.lenOf,Builtin.firstCells,loadCells,loadCellsFrom]
        obtain⟨n1,n2,_⟩:=aiD hs hd e hpos;exact⟨_,_,I,_,.inl (by rw[atq,hxe,List.length_nil,hrun];rfl),n1,n2⟩
       ·have hfl:=b5 hall;rcases hm with rfl|⟨bb,off,rfl,hI⟩
        ·exfalso;have hz0:es.flatten.length=0:=by rw[<-hl];rfl
         rw[hfl] at hz0;rcases Nat.mul_eq_zero.1 hz0 with h|h<;>omega
        ·have hmb:es.length<=140737488355328:=by have:=Nat.le_mul_of_pos_right es.length aeV;omega
         obtain⟨cp,rest,hr,hcp,hrl,hcm⟩:=rR (P:=P) (ty:=o.type) hu hi hz hsz none ⟨bb,off,none⟩ es.length cap us w (by rw[hl,hfl]) (λj v hjv=>by
          rw[Addr.add_mid];exact hI j v hjv) (by omega) (by rw[hby];exact hb) (by omega)
         have hcz:(us++rest).toArray.size=cp * sz:=by simp only[List.size_toArray];rw[hrl,hzc,<-Nat.add_mul];congr 1;omega
         obtain⟨n1,n2⟩:=aiC (w':=w.drew.alloc (.cells (us++rest).toArray e)) hs hd (us:=us) (es:=es) (e:=e) (sz:=sz) (cap:=cp) (arr:=(us++rest).toArray) (.inr rfl) hcz hcm
          (by rw[List.take_left' (by rw[hl,hfl])]) hpos hall hl hv hone hcp
         exact⟨_,_,I,_,.inl (by rw[atq,hxe,hr];rfl),n1,n2⟩
   ·cases h
  ·cases h
 ·cases h
end Go.bP
namespace Go.bP
open Go.RowKit
variable{P:Program}{I:Mem}{L:bg}
def gl(P:Program)(f:FuncId):Bool:=match P.funcs[f]? with
 |some fn=>fn.name != "runtime.NumGoroutine" && fn.body.isSome
 |none=>false
def aB(P:Program)(f:FuncId)(args:List PV)(Q:PV->Prop):Prop :=
 gl P f=true/\∀ (I:Mem) (w:World) (vs:List Value),I.inW w->VRs I vs args ->
  Calls P f vs.toArray w λe w'=>∃v r I',e = .returned v/\Q r/\VR I' v r/\Below w.heap.size w w'/\I.sub I'/\I'.inW w'/\∀b,b<w.heap.size->∀o,I' b o=I b o
theorem aB.mono{f:FuncId}{args:List PV}{Q Q':PV->Prop}(h:aB P f args Q)(hq:∀r,Q r->Q' r):aB P f args Q':=⟨h.1,λI w vs hI hv=>(h.2 I w vs hI hv).mono λ_ _ ⟨v,r,I',h1,h2,h3⟩=>⟨v,r,I',h1,hq r h2,h3⟩⟩
def isVal:PV->Bool
 | .val _=>true
 |_=>false
def PV.scalar:PV->Bool
 | .val _=>true
 | .agg cs=>cs.all isVal
 | .dg vs=>vs.all λx=>match x with
  | .val _=>true
  | .agg cs=>cs.all isVal
  |_=>false
 |_=>false
theorem VR.isVal{J:Mem}{u:Value}{x:PV}(h:VR J u x)(hx:isVal x=true):VR I u x:=by cases h<;>first|exact .val _ (by assumption)|(cases hx;done)
theorem VR.vals{J:Mem}{u:Value}{cs:List PV}(h:VR J u (.agg cs))(hx:cs.all bP.isVal=true):VR I u (.agg cs):=by
 cases h with
 |agg us _ hl hv hone=>exact .agg us cs hl (λj u c hu hc=>(hv j u c hu hc).isVal (List.all_eq_true.1 hx c (List.mem_of_getElem? hc))) hone
theorem VR.scalar{J:Mem}{u:Value}{x:PV}(h:VR J u x)(hx:x.scalar=true):VR I u x:=by
 cases x with
 |val v=>exact h.isVal rfl
 |agg cs=>exact h.vals hx
 |dg vs =>
  cases h with
  |dg us _ hl hv =>
   refine .dg us vs hl λj u c hu hc=>?_
   have h1:=List.all_eq_true.1 hx c (List.mem_of_getElem? hc);have h2:=hv j u c hu hc;cases c with
   |val v=>exact h2.isVal rfl
   |agg cs=>exact h2.vals h1
   |_=>cases h1
 |_=>cases hx
def axr(L:bg)(w:World)(J:Mem):Prop:=∀id l b,L id=some l->l.has b->∀o u,w.cell? ⟨b,o,none⟩=some u->J b o=some u
def HSub(H' H:aq):Prop:=∀id c,H' id=some c->H id=some c
theorem ta(H:aq):HSub H H:=λ_ _ h=>h
def aeX(G:aq)(L:bg)(w:World)(J:Mem):Prop:=∀id ch,G id=some ch->∀l b,L id=some l->l.has b->∀o u,w.cell? ⟨b,o,none⟩=some u->J b o=some u
theorem axr.g{w:World}{J:Mem}(h:axr L w J)(G:aq):aeX G L w J:=λid _ _=>h id
theorem tc(L:bg)(w:World):axr L w (snap w):=λ_ _ _ _ _ _ _ h=>h
theorem azW{C:Ctx}{H:aq}{env:Env}{tm:Array Value}{w:World}(hs:fV C env H I L tm w){J:Mem}(hIJ:I.sub J){id v sz:Nat}{e:TypeId}{es:List (List PV)}
  (hH:H id=some (.row v e sz es)) (hJ:∀l b,L id=some l->l.has b->∀o u,w.cell? ⟨b,o,none⟩=some u->J b o=some u):∃hdr,L id=some (.row v hdr sz)/\VR J hdr (.aE es):=by
 obtain⟨hdr,us,h1,h2,h3,h4,h5,h6,h7⟩:=hs.chunk id _ hH;refine⟨hdr,h1,?_⟩;have hfl:=b5 h4;have hlen:us.length=es.flatten.length:=by rw[hfl];exact h2.1
 rcases h2.2 with ⟨rfl,hn⟩|⟨g,cap,cur,rfl,hb,hg,hnc,hcm,hcs,nh⟩
 ·have he:es=[]:=List.length_eq_zero_iff.1 hn;subst he;exact .aE none 0 0 [] us sz rfl (by simp) hlen (λj u c hu hc=>(h5 j u c hu hc).mono hIJ) h6 (.inl (List.length_eq_zero_iff.1 (by simpa using hlen))) (λ_=>⟨rfl,rfl⟩) (Nat.le_refl _)
 ·refine .aE _ _ _ es us sz rfl h4 hlen (λj u c hu hc=>(h5 j u c hu hc).mono hIJ) h6 (.inr ⟨g,0,rfl,λj u hu=>?_⟩) (by simp) hnc;rw[Nat.zero_add];refine hJ _ g h1 rfl j u ?_;rw[gW hg];rw[<-nh,List.getElem?_take] at hu;split at hu
  ·simpa using hu
  ·cases hu
theorem ac1{H:aq}{id aW:Nat}{r:Nat×List (List PV)}(h:cK H id aW=some r):∃ch,H id=some ch/\True:=by
 unfold cK at h;split at h
 ·rename_i hH;exact⟨_,hH,trivial⟩
 ·cases h
theorem adP{H H':aq}(h:HSub H H'){id aW:Nat}{r:Nat×List (List PV)}(hr:cK H id aW=some r):cK H' id aW=some r:=by obtain⟨ch,hch,_⟩:=ac1 hr;unfold cK at hr ⊢;rw[hch] at hr;rw[h id ch hch];exact hr
def tA(H:aq):AV->Option (PV×Bool)
 | .p x=>some (x,false)
 | .row id aW=>match H id with
  |some (.row v _ _ es)=>if v=aW then some (.aE es,true) else none
  |some (.shut v es)=>if v=aW then some (.aE es,false) else none
  |_=>none
 | .kP id aW=>match cK H id aW with
  |some (_,es)=>some (.aE es,true)
  |none=>none
 | .mu id aW i=>match qn (cK H id aW) i with
  |some l=>some (.aE l,true)
  |none=>none
 |_=>none
def dO(f:AV->Option (PV×Bool)):List AV->Option (List PV×Bool)
 | []=>some ([],false)
 |a :: r=>match f a,dO f r with
  |some (x,b),some (xs,c)=>some (x :: xs,b||c)
  |_,_=>none
def abY(H:aq):AV->Option (PV×Bool)
 | .ptr id off=>match H id with
  |some (.box cs)=>match dO (tA H) cs with
   |some (ps,_)=>some (.fq ps off,true)
   |none=>none
  |_=>none
 |a=>tA H a
def nY(H:aq):AV->Option (PV×Bool)
 | .ptr id off=>match H id with
  |some (.box cs)=>match dO (abY H) cs with
   |some (ps,_)=>some (.fq ps off,true)
   |none=>none
  |_=>none
 |a=>tA H a
def fW(H:aq):AV->Option (PV×Bool)
 | .agg cs=>match dO (nY H) cs with
  |some (ps,b)=>some (.agg ps,b)
  |none=>none
 | .dg cs=>match dO (nY H) cs with
  |some (ps,b)=>some (.dg ps,b)
  |none=>none
 | .jF fn fs cs=>match dO (nY H) fs,dO (nY H) cs with
  |some (f,b),some (c,d)=>some (.jF fn f c,b||d)
  |_,_=>none
 |a=>nY H a
def adQ(H:aq):AV->Option (PV×Bool)
 | .dg cs=>match dO (fW H) cs with
  |some (ps,b)=>some (.dg ps,b)
  |none=>none
 |a=>fW H a
def ac2(I:Mem)(L:bg)(J:Mem)(f:AV->Option (PV×Bool)):Prop:=∀u a x b,di I L u a->f a=some (x,b)->VR J u x/\(b=false->VR I u x)
theorem kE{J:Mem}{f:AV->Option (PV×Bool)}(hf:ac2 I L J f):∀ (dP:List AV) (ps:List PV) (b:Bool),dO f dP=some (ps,b)->∀us:List Value,us.length=dP.length ->
  (∀ (j:Nat) u c,us[j]? = some u->dP[j]? = some c->di I L u c)->us.length=ps.length/\(∀ (j:Nat) u c,us[j]? = some u->ps[j]? = some c->VR J u c)/\(b=false->∀ (j:Nat) u c,us[j]? = some u->ps[j]? = some c->VR I u c)
 | [],ps,b,h,us,hl,_=>by simp[dO] at h;obtain⟨rfl,rfl⟩:=h;exact⟨hl,by simp,by simp⟩
 |a :: r,ps,b,h,[],hl,_=>by simp at hl
 |a :: r,ps,b,h,u :: us,hl,hv=>by
  simp only[dO] at h;split at h
  ·rename_i x b1 xs b2 h1 h2;simp only[cm,gD] at h;obtain⟨rfl,rfl⟩:=h;obtain⟨k1,k2,k3⟩:=kE hf r xs b2 h2 us (by simpa using hl) (λj u c hu hc=>hv (j+1) u c hu hc);obtain⟨m1,m2⟩:=hf u a x b1 (hv 0 u a rfl rfl) h1;refine⟨by simp[k1],λj u' c hu hc=>?_,λhb j u' c hu hc=>?_⟩
   ·cases j with
    |zero=>simp at hu hc;subst hu hc;exact m1
    |succ j=>exact k2 j u' c (by simpa using hu) (by simpa using hc)
   ·have hb':b1=false/\b2=false:=by simpa using hb
    cases j with
    |zero=>simp at hu hc;subst hu hc;exact m2 hb'.1
    |succ j=>exact k3 hb'.2 j u' c (by simpa using hu) (by simpa using hc)
  ·cases h
section
variable{C:Ctx}{H G:aq}{env:Env}{tm:Array Value}{w:World}{J:Mem}
theorem aeY(hs:fV C env H I L tm w)(hG:HSub G H)(hIJ:I.sub J)(hJ:aeX G L w J):ac2 I L J (tA G):=by
 intro u a x b hu h;unfold tA at h;split at h
 ·simp only[cm,gD] at h;obtain⟨rfl,rfl⟩:=h;exact⟨hu.nc.mono hIJ,λ_=>hu.nc⟩
 ·rename_i id aW;split at h
  ·rename_i v e sz es hH;split at h
   ·rename_i hv;simp only[cm,gD] at h;obtain⟨rfl,rfl⟩:=h;subst hv;obtain⟨hdr,h1,h2⟩:=azW hs hIJ (hG _ _ hH) (hJ id _ hH);cases hu with
    |row _ _ _ v1 m9 sz1 hl hle hh hone=>rw[h1] at hl;simp only[cm,Loc.row.injEq] at hl;obtain⟨r1,r2,r3⟩:=hl;subst r1 r2 r3;rw[hh rfl];exact⟨h2,λhb=>by cases hb⟩
   ·cases h
  ·rename_i v es hH;split at h
   ·rename_i hv;simp only[cm,gD] at h;obtain⟨rfl,rfl⟩:=h;subst hv;obtain⟨hdr,sz,h1,h2,_⟩:=hs.chunk id _ (hG _ _ hH);cases hu with
    |row _ _ _ v1 m9 sz1 hl hle hh hone=>rw[h1] at hl;simp only[cm,Loc.row.injEq] at hl;obtain⟨r1,r2,r3⟩:=hl;subst r1 r2 r3;rw[hh rfl];exact⟨h2.mono hIJ,λ_=>h2⟩
   ·cases h
  ·cases h
 ·rename_i id aW;split at h
  ·rename_i k es hd;simp only[cm,gD] at h;obtain⟨rfl,rfl⟩:=h;obtain⟨ch,hch,hd'⟩:=ac1 hd;obtain⟨hdr,sz,sz',e,e',us,eT,q1,q2,q3,q4,q5,q6⟩:=jK hs (adP hG hd);cases hu with
   |kP _ _ _ v1 m9 _ _ aeO n1 hl hle hh hone=>rw[q1] at hl;simp only[cm,Loc.deep.injEq] at hl;obtain⟨e1,e2,e3,e4,e5,e6⟩:=hl;subst e1 e2 e3 e4 e5 e6;rw[hh rfl];exact⟨apt q2 q5 q6 hIJ λb hb=>hJ id ch hch _ b q1 hb,λhb=>by cases hb⟩
  ·cases h
 ·rename_i id aW i;split at h
  ·rename_i l hi;simp only[cm,gD] at h;obtain⟨rfl,rfl⟩:=h;cases hd:cK G id aW with
   |none=>rw[hd] at hi;cases hi
   |some ke =>
    obtain⟨k,es⟩:=ke;rw[hd] at hi;obtain⟨hil,x,hx1,hx2⟩:=xo hi;obtain⟨ch,hch,hd'⟩:=ac1 hd;obtain⟨hdr,sz,sz',e,e',us,eT,q1,q2,q3,q4,q5,q6⟩:=jK hs (adP hG hd);obtain⟨l',us',m1,m2,m3⟩:=q6 i x hx1;rw[hx2] at m1;simp only[cm,PV.aE.injEq] at m1;subst m1;cases hu with
    |mu _ _ _ v1 _ m9 _ _ aeO n1 hl hle hh hone=>rw[q1] at hl;simp only[cm,Loc.deep.injEq] at hl;obtain⟨e1,e2,e3,e4,e5,e6⟩:=hl;subst e1 e2 e3 e4 e5 e6;rw[hh rfl];exact⟨m2.vrJ hIJ λb hb=>hJ id ch hch _ b q1 (.inr ⟨i,hil,hb⟩),λhb=>by cases hb⟩
  ·cases h
 ·cases h
theorem atr(hs:fV C env H I L tm w)(hG:HSub G H)(hIJ:I.sub J)(hJ:aeX G L w J):ac2 I L J (abY G):=by
 intro u a x b hu h;unfold abY at h;split at h
 ·rename_i id off;split at h
  ·rename_i cs hH;split at h
   ·rename_i ps b1 hps;simp only[cm,gD] at h;obtain⟨rfl,rfl⟩:=h;obtain⟨blk,arr,e,g1,g2,g3,g4,g5,g6⟩:=hs.chunk id _ (hG _ _ hH);cases hu with
    |ptr _ b' _ hl =>
     rw[g1] at hl;simp only[cm,Loc.box.injEq] at hl;subst hl;obtain⟨k1,k2,_⟩:=kE (aeY hs hG hIJ hJ) cs ps b1 hps arr.toList (by simpa using g3) (λj u c hu hc=>g4 j u c (by simpa using hu) hc);refine⟨?_,λhb=>by cases hb⟩;have:=VR.fq (I:=J) blk 0 ps arr.toList off k1 k2 (λu hu=>by
      obtain⟨j,hj⟩:=List.mem_iff_getElem?.1 hu;exact g5 j u (by simpa using hj)) (λj u hu=>by
       rw[Nat.zero_add];exact hJ id _ hH _ blk g1 rfl j u (by rw[gW g2];simpa using hu))
     rwa [Nat.zero_add] at this
   ·cases h
  ·cases h
 ·exact aeY hs hG hIJ hJ u _ x b hu h
theorem zl(hs:fV C env H I L tm w)(hG:HSub G H)(hIJ:I.sub J)(hJ:aeX G L w J):ac2 I L J (nY G):=by
 intro u a x b hu h;unfold nY at h;split at h
 ·rename_i id off;split at h
  ·rename_i cs hH;split at h
   ·rename_i ps b1 hps;simp only[cm,gD] at h;obtain⟨rfl,rfl⟩:=h;obtain⟨blk,arr,e,g1,g2,g3,g4,g5,g6⟩:=hs.chunk id _ (hG _ _ hH);cases hu with
    |ptr _ b' _ hl =>
     rw[g1] at hl;simp only[cm,Loc.box.injEq] at hl;subst hl;obtain⟨k1,k2,_⟩:=kE (atr hs hG hIJ hJ) cs ps b1 hps arr.toList (by simpa using g3) (λj u c hu hc=>g4 j u c (by simpa using hu) hc);refine⟨?_,λhb=>by cases hb⟩;have:=VR.fq (I:=J) blk 0 ps arr.toList off k1 k2 (λu hu=>by
      obtain⟨j,hj⟩:=List.mem_iff_getElem?.1 hu;exact g5 j u (by simpa using hj)) (λj u hu=>by
       rw[Nat.zero_add];exact hJ id _ hH _ blk g1 rfl j u (by rw[gW g2];simpa using hu))
     rwa [Nat.zero_add] at this
   ·cases h
  ·cases h
 ·exact aeY hs hG hIJ hJ u _ x b hu h
theorem pG(hs:fV C env H I L tm w)(hG:HSub G H)(hIJ:I.sub J)(hJ:aeX G L w J):ac2 I L J (fW G):=by
 intro u a x b hu h;unfold fW at h;split at h
 ·rename_i cs;split at h
  ·rename_i ps b1 hps;simp only[cm,gD] at h;obtain⟨rfl,rfl⟩:=h;cases hu with
   |agg us _ hl hv hone=>obtain⟨k1,k2,k3⟩:=kE (zl hs hG hIJ hJ) cs ps b1 hps us hl hv;exact⟨.agg us ps k1 k2 hone,λhb=>.agg us ps k1 (k3 hb) hone⟩
  ·cases h
 ·rename_i cs;split at h
  ·rename_i ps b1 hps;simp only[cm,gD] at h;obtain⟨rfl,rfl⟩:=h;cases hu with
   |dg us _ hl hv=>obtain⟨k1,k2,k3⟩:=kE (zl hs hG hIJ hJ) cs ps b1 hps us hl hv;exact⟨.dg us ps k1 k2,λhb=>.dg us ps k1 (k3 hb)⟩
  ·cases h
 ·rename_i fn fs cs;split at h
  ·rename_i f b1 c b2 hf hc;simp only[cm,gD] at h;obtain⟨rfl,rfl⟩:=h;cases hu with
   |jF _ us vs _ _ hl hl' hv yz =>
    obtain⟨k1,k2,k3⟩:=kE (zl hs hG hIJ hJ) fs f b1 hf us hl hv;obtain⟨m1,m2,m3⟩:=kE (zl hs hG hIJ hJ) cs c b2 hc vs hl' yz;refine⟨.jF fn us vs f c k1 m1 k2 m2,λhb=>?_⟩;have hb':b1=false/\b2=false:=by simpa using hb
    exact .jF fn us vs f c k1 m1 (k3 hb'.1) (m3 hb'.2)
  ·cases h
 ·exact zl hs hG hIJ hJ u _ x b hu h
theorem att(hs:fV C env H I L tm w)(hG:HSub G H)(hIJ:I.sub J)(hJ:aeX G L w J):ac2 I L J (adQ G):=by
 intro u a x b hu h;unfold adQ at h;split at h
 ·rename_i cs;split at h
  ·rename_i ps b1 hps;simp only[cm,gD] at h;obtain⟨rfl,rfl⟩:=h;cases hu with
   |dg us _ hl hv=>obtain⟨k1,k2,k3⟩:=kE (pG hs hG hIJ hJ) cs ps b1 hps us hl hv;exact⟨.dg us ps k1 k2,λhb=>.dg us ps k1 (k3 hb)⟩
  ·cases h
 ·exact pG hs hG hIJ hJ u _ x b hu h
end
def cB(o:Oper)(ρ:Operand->AV):Option (FuncId×List AV):=match o.op with
 | .call c=>match c.callee with
  | .value f=>match ρ f with
   | .p (.jF (.func k) fs cs)=>some (k,fs.map AV.p++c.args.toList.map ρ++cs.map AV.p)
   | .jF (.func k) fs cs=>some (k,fs++c.args.toList.map ρ++cs)
   |_=>none
  |_=>none
 |_=>none
theorem abZ{k:FuncId}(h:gl P k=true)(args:Array Value)(w:World):(callFunc k args).run P w = .ok (.enter k args) w:=by
 unfold gl at h;split at h
 ·rename_i fn hfn;simp only[Bool.and_eq_true,bne_iff_ne,ne_eq] at h;have hb:fn.body.isNone=false:=by
   cases hfb:fn.body with
   |none=>simp[hfb] at h
   |some c=>rfl
  have hn:(fn.name == "runtime.NumGoroutine")=false:=by simpa using h.1
  simp only[callFunc,program,Sem.run_bind,Sem.run,Result.andThen_ok,Sem.run_pure',hfn,hn,hb];try rfl
 ·cases h
theorem ng.append{us vs:List Value}{dP bs:List AV}(h:ng I L us dP)(k:ng I L vs bs):ng I L (us++vs) (dP++bs):=by
 refine⟨by simp[h.1,k.1],λj u a hu ha=>?_⟩;rw[List.getElem?_append] at hu ha;rw[h.1] at hu;split at hu
 ·rename_i hj;rw[if_pos hj] at ha;exact h.2 _ _ _ hu ha
 ·rename_i hj;rw[if_neg hj] at ha;exact k.2 _ _ _ hu ha
theorem ng.apu{us:List Value}{ps:List PV}(hl:us.length=ps.length)(h:∀ (j:Nat) u c,us[j]? = some u->ps[j]? = some c->VR I u c):ng I L us (ps.map AV.p) :=
 ⟨by simpa using hl,λj u c hu hc=>by
  rw[List.getElem?_map] at hc;cases hp:ps[j]? with
  |none=>simp[hp] at hc
  |some p=>simp[hp] at hc;subst hc;exact .p _ _ (h j u p hu hp)⟩
theorem nQ{o:Oper}{ρ:Operand->AV}{k:FuncId}{dP:List AV}(h:cB o ρ=some (k,dP))(hk:gl P k=true){σ:Operand->Value}(hσ:∀x,di I L (σ x) (ρ x))(w:World) :
  ∃us:List Value,(execOp σ o).run P w = .ok (.enter k us.toArray) w/\ng I L us dP:=by
 unfold cB at h;split at h
 ·rename_i c hop;split at h
  ·rename_i f hc;have hf:=hσ f;have hargs:=tw (I:=I) (L:=L) hσ c.args.toList;have e1:c.args.map σ=(c.args.toList.map σ).toArray:=by apply Array.ext';simp
   unfold execOp;simp only[hop];generalize hsf:σ f=uf at hf;generalize ρ f=af at h hf;split at h
   ·rename_i k' fs cs;simp only[cm,gD] at h;obtain⟨rfl,rfl⟩:=h;cases hf.nc with
    |jF _ us vs _ _ hl hl' hv yz=>refine⟨us++c.args.toList.map σ++vs,?_,((ng.apu hl hv).append hargs).append (ng.apu hl' yz)⟩;simp only[resolve,hc,hsf,Deferred.ofValue,Sem.run_bind,Sem.run_pure,Result.andThen_ok,invoke,abZ hk,e1];simp
   ·rename_i k' fs cs;simp only[cm,gD] at h;obtain⟨rfl,rfl⟩:=h;cases hf with
    |jF _ us vs _ _ hl hl' hv yz=>refine⟨us++c.args.toList.map σ++vs,?_,ng.append (ng.append (show ng I L us fs from ⟨hl,hv⟩) hargs) (show ng I L vs cs from ⟨hl',yz⟩)⟩;simp only[resolve,hc,hsf,Deferred.ofValue,Sem.run_bind,Sem.run_pure,Result.andThen_ok,invoke,abZ hk,e1];simp
   ·cases h
  ·cases h
 ·cases h
theorem aiE{o:Oper}{ρ:Operand->AV}{k:FuncId}{dP:List AV}(h:cB o ρ=some (k,dP)){σ:Operand->Value}(hσ:∀x,di I L (σ x) (ρ x))(w:World) :
  ∃us:List Value,(execOp σ o).run P w=(callFunc k us.toArray).run P w/\ng I L us dP:=by
 unfold cB at h;split at h
 ·rename_i c hop;split at h
  ·rename_i f hc;have hf:=hσ f;have hargs:=tw (I:=I) (L:=L) hσ c.args.toList;have e1:c.args.map σ=(c.args.toList.map σ).toArray:=by apply Array.ext';simp
   unfold execOp;simp only[hop];generalize hsf:σ f=uf at hf;generalize ρ f=af at h hf;split at h
   ·rename_i k' fs cs;simp only[cm,gD] at h;obtain⟨rfl,rfl⟩:=h;cases hf.nc with
    |jF _ us vs _ _ hl hl' hv yz=>refine⟨us++c.args.toList.map σ++vs,?_,((ng.apu hl hv).append hargs).append (ng.apu hl' yz)⟩;simp only[resolve,hc,hsf,Deferred.ofValue,Sem.run_bind,Sem.run_pure,Result.andThen_ok,invoke,e1];simp
   ·rename_i k' fs cs;simp only[cm,gD] at h;obtain⟨rfl,rfl⟩:=h;cases hf with
    |jF _ us vs _ _ hl hl' hv yz=>refine⟨us++c.args.toList.map σ++vs,?_,ng.append (ng.append (show ng I L us fs from ⟨hl,hv⟩) hargs) (show ng I L vs cs from ⟨hl',yz⟩)⟩;simp only[resolve,hc,hsf,Deferred.ofValue,Sem.run_bind,Sem.run_pure,Result.andThen_ok,invoke,e1];simp
   ·cases h
  ·cases h
 ·cases h
def azX(P:Program)(k:FuncId)(ps:List PV)(x:PV):Prop:=∀ (I:Mem) (w:World) (us:List Value),VRs I us ps->∃u,(callFunc k us.toArray).run P w = .ok (.value u) w/\VR I u x
def aAX(P:Program)(o:Oper)(ρ:Operand->AV)(W:PV->Prop):Prop:=∃k ps x,cB o ρ=some (k,ps.map AV.p)/\azX P k ps x/\W x
theorem am0{o:Oper}{ρ:Operand->AV}{W:PV->Prop}(h:aAX P o ρ W){w:World}{σ:Operand->Value}(hσ:∀x,di I L (σ x) (ρ x)) :
  ∃u x,(execOp σ o).run P w = .ok (.value u) w/\VR I u x/\W x:=by
 obtain⟨k,ps,x,h1,h2,h3⟩:=h;obtain⟨us,hr,hu⟩:=aiE h1 hσ w;obtain⟨u,q1,q2⟩:=h2 I w us ⟨by simpa using hu.1,λj u c hj hc=>(hu.2 j u (.p c) hj (by simp[hc])).nc⟩;exact⟨u,x,hr.trans q1,q2,h3⟩
def zm(P:Program)(o:Oper)(ρ:Operand->AV)(H:aq)(x:PV):Prop:=∃k dP ps b,cB o ρ=some (k,dP)/\dO (fW H) dP=some (ps,b)/\aB P k ps (λr=>r=x)/\(b=true->x.scalar=true)
def atu(P:Program)(o:Oper)(ρ:Operand->AV)(H:aq)(Kr:PV->Prop):Prop:=∃k dP ps b Q,cB o ρ=some (k,dP)/\dO (fW H) dP=some (ps,b)/\aB P k ps Q/\∀r,Q r->(b=true->r.scalar=true)/\Kr r
theorem aeZ{o:Oper}{ρ:Operand->AV}{H:aq}{x:PV}{Kr:PV->Prop}(h:zm P o ρ H x)(hk:Kr x):atu P o ρ H Kr:=by obtain⟨k,dP,ps,b,h1,h2,h3,h4⟩:=h;exact⟨k,dP,ps,b,_,h1,h2,h3,λr hr=>by subst hr;exact⟨h4,hk⟩⟩
theorem ake{o:Oper}{ρ:Operand->AV}{H:aq}{Kr:PV->Prop}(h:atu P o ρ H Kr){C:Ctx}{env:Env}{tm:Array Value}{w:World}(hs:fV C env H I L tm w){σ:Operand->Value}(hσ:∀x,di I L (σ x) (ρ x)) :
  ∃k args,(execOp σ o).run P w = .ok (.enter k args) w/\Calls P k args w λe w'=>∃v I' x,e = .returned v/\Kr x/\VR I' v x/\Fr C I L H w I' L H w':=by
 obtain⟨k,dP,ps,b,Q,h1,h2,h3,h4⟩:=h;obtain⟨us,hr,hu⟩:=nQ h1 h3.1 hσ w;refine⟨k,_,hr,?_⟩;cases b with
 |false =>
  obtain⟨k1,_,k3⟩:=kE (pG hs (ta H) (mz hs.mem) ((tc L w).g H)) dP ps false h2 us hu.1 hu.2;refine (h3.2 I w us hs.mem ⟨k1,k3 rfl⟩).mono λe w' ⟨v,r,I',q1,q2,q3,q4,q5,q6,q7⟩=>?_
  exact⟨v,I',r,q1,(h4 r q2).2,q3,λenv tm hs=>hs.grow q4 q5 q6 q7⟩
 |true =>
  obtain⟨k1,k2,_⟩:=kE (pG hs (ta H) (mz hs.mem) ((tc L w).g H)) dP ps true h2 us hu.1 hu.2;refine (h3.2 (snap w) w us (aeW w) ⟨k1,k2⟩).mono λe w' ⟨v,r,I',q1,q2,q3,q4,q5,q6,q7⟩=>?_
  obtain⟨m1,m2⟩:=h4 r q2;exact⟨v,I,r,q1,m2,q3.scalar (m1 rfl),λenv tm hs=>hs.world (q4.mono hs.leB) λb hb=>q4.block b hb⟩
end Go.bP
