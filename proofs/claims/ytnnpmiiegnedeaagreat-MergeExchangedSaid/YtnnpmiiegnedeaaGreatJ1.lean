/- Joined texts, part 1: lemmas for the statement. No condition. -/
import Derived.Calls
import Derived.Tactics
import Derived.Orders
import Derived.Below
import Derived.Laws.AppendOwn
import Derived.Deep.MidRow
import Derived.Laws.Strings
import Derived.Laws.StructEq
import Derived.IntWalk
set_option maxHeartbeats 4000000
set_option linter.unusedSimpArgs false
set_option linter.unusedVariables false
open Nat (reduceEqDiff reduceLT reduceLeDiff reduceMul reduceAdd reduceSub)
open Go.IntKind (i64)
namespace Go.cv
theorem b6{p:Prop} [Decidable p](h:decide p=true):p:=of_decide_eq_true h
theorem dK{p:Prop} [Decidable p](h:decide p=false):¬p:=of_decide_eq_false h
theorem dr{p:Prop} [Decidable p](h:p):decide p=true:=decide_eq_true h
theorem gA{p:Prop} [Decidable p](h:¬p):decide p=false:=decide_eq_false h
theorem l8{α:Type}{l:List α}{i:Nat}(h:i<l.length):l[i]∈l:=List.getElem_mem h
theorem cG{α:Type}{a b:α} : (some a=some b)=(a=b):=Option.some.injEq a b
theorem dc{F p:Prop}(n k:Nat)(f:F)(z:F/\(n * k<=140737488355328)=True->p)(a:n * k<=140737488355328:=by omega):p:=z ⟨f,eq_true a⟩
theorem b5{F p:Prop}(A:Prop)(f:F)(z:F/\A->p)(a:A:=by decide):p:=z ⟨f,a⟩
theorem iU{α e:Type}{a c:α}{b d:e} : ((a,b)=(c,d))=(a=c/\b=d):=Prod.mk.injEq a b c d
open Go.RowKit
abbrev Mem:=Nat->Nat->Option Value
def Mem.sub(I J:Mem):Prop:=∀b o u,I b o=some u->J b o=some u
def Mem.en(I:Mem)(w:World):Prop:=∀b o u,I b o=some u->w.cell? ⟨b,o,none⟩=some u
theorem Mem.ep(I:Mem):I.sub I:=λ_ _ _ h=>h
theorem Mem.mD{I J K:Mem}(h:I.sub J)(k:J.sub K):I.sub K:=λ_ _ _ x=>k _ _ _ (h _ _ _ x)
inductive PV where
 |val (v:Value)
 |emp
 |aV (es:List (List PV))
 |eF (cs:List PV) (off:Nat)
 |agg (cs:List PV)
 |dY (vs:List PV)
 |iT (fn:Fn) (first captured:List PV)
instance:Inhabited PV:=⟨.val (.bool false)⟩
inductive VR(I:Mem):Value->PV->Prop
 |val (v:Value) (h:v.oneCell'=true):VR I v (.val v)
 |emp (ao:Option Addr):VR I (.slice ao 0 0) .emp
 | aV (ao : Option Addr) (n cap : Nat) (es : List (List PV)) (us : List Value) (sz : Nat)
   (hn:es.length=n) (hsz:∀e∈es,e.length=sz) (hl:us.length=es.flatten.length)
   (hv:∀ (j:Nat) u c,us[j]? = some u->es.flatten[j]? = some c->VR I u c)
   (hone:∀u∈us,u.oneCell'=true)
   (hm:us=[]\/∃b off,ao=some ⟨b,off,none⟩/\∀ (j:Nat) u,us[j]? = some u->I b (off+j)=some u)
   (hnil:ao=none->n=0/\cap=0) (hcap:n<=cap):VR I (.slice ao n cap) (.aV es)
 | eF (b off : Nat) (cs : List PV) (us : List Value) (o : Nat) (hl : us.length = cs.length)
   (hv:∀ (j:Nat) u c,us[j]? = some u->cs[j]? = some c->VR I u c)
   (hone:∀u∈us,u.oneCell'=true)
   (hm:∀ (j:Nat) u,us[j]? = some u->I b (off+j)=some u):VR I (.pointer (some ⟨b,off+o,none⟩)) (.eF cs o)
 | agg (us : List Value) (cs : List PV) (hl : us.length = cs.length)
   (hv:∀ (j:Nat) u c,us[j]? = some u->cs[j]? = some c->VR I u c)
   (hone:∀u∈us,u.oneCell'=true):VR I (.agg us.toArray) (.agg cs)
 | dY (us : List Value) (cs : List PV) (hl : us.length = cs.length)
   (hv:∀ (j:Nat) u c,us[j]? = some u->cs[j]? = some c->VR I u c):VR I (.tuple us.toArray) (.dY cs)
 | iT (fn : Fn) (us vs : List Value) (fs cs : List PV) (hl : us.length = fs.length) (hl' : vs.length = cs.length)
   (hv:∀ (j:Nat) u c,us[j]? = some u->fs[j]? = some c->VR I u c)
   (wO:∀ (j:Nat) u c,vs[j]? = some u->cs[j]? = some c->VR I u c):VR I (.func fn us.toArray vs.toArray) (.iT fn fs cs)
theorem VR.mono{I J:Mem}(h:I.sub J){v:Value}{p:PV}(x:VR I v p):VR J v p:=by
 induction x with
 |val v m=>exact .val v m
 |emp d=>exact .emp d
 |aV d n cap es us sz s w hl _ c f t q a=>exact .aV d n cap es us sz s w hl a c (f.imp id λ⟨b,off,e,k⟩=>⟨b,off,e,λj u g=>h _ _ _ (k j u g)⟩) t q
 |eF b off cs us o hl _ c f a=>exact .eF b off cs us o hl a c λj u g=>h _ _ _ (f j u g)
 |agg us cs hl _ c a=>exact .agg us cs hl a c
 |dY us cs hl _ a=>exact .dY us cs hl a
 |iT i us vs l cs hl r _ _ a y=>exact .iT i us vs l cs hl r a y
def PV.one:PV->Bool
 | .agg _ | .dY _=>false
 |_=>true
theorem VR.one{I:Mem}{v:Value}{p:PV}(h:VR I v p)(a:p.one=true):v.oneCell'=true:=by cases h<;>first|assumption|rfl|cases a
def PV.cells:PV->List PV
 | .agg cs=>cs
 |x=>[x]
inductive AV where
 |p (x:PV)
 |row (id bk:Nat)
 |ptr (id off:Nat)
 |jD (id bk i off:Nat)
 |agg (cs:List AV)
 |dY (vs:List AV)
 |iT (fn:Fn) (first captured:List AV)
 |eY (id bk:Nat)
 |kX (id bk i off:Nat)
 |kY (id bk i:Nat)
 |nR (id bk i j off:Nat)
 |eo (id n:Nat)
 |iV (id bk off n m sz:Nat)
 |dead
instance:Inhabited AV:=⟨.dead⟩
inductive Loc where
 |box (b:Nat)
 |row (bk:Nat) (hdr:Value) (sz:Nat)
 |deep (bk:Nat) (hdr:Value) (sz sz':Nat) (dx:Nat->Value) (n:Nat)
def Loc.blk:Loc->Option Nat
 | .box b=>some b
 | .row _ a _=>a.ownBlock
 | .deep _ a _ _ _ _=>a.ownBlock
def Loc.has:Loc->Nat->Prop
 | .box c,b=>c=b
 | .row _ a _,b=>a.ownBlock=some b
 | .deep _ a _ _ d n,b=>a.ownBlock=some b\/∃i,i<n/\(d i).ownBlock=some b
def zi(b:Value)(a:Nat->Value)(n:Nat):List Nat:=b.ownBlock.toList++(List.range n).flatMap λi=>(a i).ownBlock.toList
def Loc.Al:Loc->List Nat
 | .box b=>[b]
 | .row _ a _=>a.ownBlock.toList
 | .deep _ a _ _ c n=>zi a c n
theorem Ee{c:Value}{a:Nat->Value}{n b:Nat} : b∈zi c a n↔c.ownBlock=some b\/∃i,i<n/\(a i).ownBlock=some b:=by unfold zi;simp[List.mem_flatMap,eq_comm]
theorem Loc.HL{l:Loc}{b:Nat} : b∈l.Al↔l.has b:=by
 cases l with
 |box c=>simp[Loc.Al,Loc.has,eq_comm]
 |row v a sz=>simp[Loc.Al,Loc.has]
 |deep v a sz e d n=>exact Ee
abbrev bB:=Nat->Option Loc
def dQ(L d:bB):Prop:=∀id,match L id with
 |none=>True
 |some (.box b)=>d id=some (.box b)
 |some (.row v e sz)=>∃a c,d id=some (.row a c sz)/\v<=a/\(v=a->e=c)
 |some (.deep v e sz i h n)=>∃a c f g,d id=some (.deep a c sz i f g)/\v<=a/\(v=a->e=c/\h=f/\n=g)
theorem dQ.refl(L:bB):dQ L L:=λid=>by
 cases h:L id with
 |none=>trivial
 |some l=>cases l with
  |box b=>rfl
  |row v a sz=>exact⟨v,a,rfl,Nat.le_refl _,λ_=>rfl⟩
  |deep v a sz d c n=>exact⟨v,a,c,n,rfl,Nat.le_refl _,λ_=>⟨rfl,rfl,rfl⟩⟩
theorem dQ.box{L a:bB}(h:dQ L a){id b:Nat}(hl:L id=some (.box b)):a id=some (.box b):=by have:=h id;rw[hl] at this;exact this
theorem dQ.row{L b:bB}(h:dQ L b){id v:Nat}{d:Value}{sz:Nat}(hl:L id=some (.row v d sz)) :
  ∃a c,b id=some (.row a c sz)/\v<=a/\(v=a->d=c):=by
 have:=h id;rw[hl] at this;exact this
theorem dQ.deep{L b:bB}(h:dQ L b){id v:Nat}{e:Value}{sz i:Nat}{c:Nat->Value}{n:Nat}(hl:L id=some (.deep v e sz i c n)) :
  ∃a d f g,b id=some (.deep a d sz i f g)/\v<=a/\(v=a->e=d/\c=f/\n=g):=by
 have:=h id;rw[hl] at this;exact this
inductive eP(I:Mem)(L:bB):Value->AV->Prop
 |p (u:Value) (x:PV) (h:VR I u x):eP I L u (.p x)
 |row (u:Value) (id bk v:Nat) (hdr:Value) (sz:Nat) (hl:L id=some (.row v hdr sz)) (hle:bk<=v) (h:bk=v->u=hdr) (h1:u.oneCell'=true):eP I L u (.row id bk)
 |ptr (id b off:Nat) (hl:L id=some (.box b)):eP I L (.pointer (some ⟨b,off,none⟩)) (.ptr id off)
 | jD (u : Value) (id bk v i off : Nat) (hdr : Value) (sz : Nat) (hl : L id = some (.row v hdr sz)) (hle : bk ≤ v)
   (h:bk=v->∃g o n cap,hdr = .slice (some ⟨g,o,none⟩) n cap/\u = .pointer (some ⟨g,o+(i * sz+off),none⟩)) (h1:u.oneCell'=true):eP I L u (.jD id bk i off)
 | agg (us : List Value) (cs : List AV) (hl : us.length = cs.length)
   (hv:∀ (j:Nat) u c,us[j]? = some u->cs[j]? = some c->eP I L u c)
   (hone:∀u∈us,u.oneCell'=true):eP I L (.agg us.toArray) (.agg cs)
 | dY (us : List Value) (cs : List AV) (hl : us.length = cs.length)
   (hv:∀ (j:Nat) u c,us[j]? = some u->cs[j]? = some c->eP I L u c):eP I L (.tuple us.toArray) (.dY cs)
 | iT (fn : Fn) (us vs : List Value) (fs cs : List AV) (hl : us.length = fs.length) (hl' : vs.length = cs.length)
   (hv:∀ (j:Nat) u c,us[j]? = some u->fs[j]? = some c->eP I L u c)
   (wO:∀ (j:Nat) u c,vs[j]? = some u->cs[j]? = some c->eP I L u c):eP I L (.func fn us.toArray vs.toArray) (.iT fn fs cs)
 |eY (u:Value) (id bk v:Nat) (hdr:Value) (sz sz':Nat) (dx:Nat->Value) (n:Nat) (hl:L id=some (.deep v hdr sz sz' dx n)) (hle:bk<=v) (h:bk=v->u=hdr) (h1:u.oneCell'=true):eP I L u (.eY id bk)
 | kX (u : Value) (id bk v i off : Nat) (hdr : Value) (sz sz' : Nat) (dx : Nat → Value) (n : Nat) (hl : L id = some (.deep v hdr sz sz' dx n)) (hle : bk ≤ v)
   (h:bk=v->∃g o m cap,hdr = .slice (some ⟨g,o,none⟩) m cap/\u = .pointer (some ⟨g,o+(i * sz+off),none⟩)) (h1:u.oneCell'=true):eP I L u (.kX id bk i off)
 |kY (u:Value) (id bk v i:Nat) (hdr:Value) (sz sz':Nat) (dx:Nat->Value) (n:Nat) (hl:L id=some (.deep v hdr sz sz' dx n)) (hle:bk<=v) (h:bk=v->u=dx i) (h1:u.oneCell'=true):eP I L u (.kY id bk i)
 | nR (u : Value) (id bk v i j off : Nat) (hdr : Value) (sz sz' : Nat) (dx : Nat → Value) (n : Nat) (hl : L id = some (.deep v hdr sz sz' dx n)) (hle : bk ≤ v)
   (h:bk=v->∃g o m cap,dx i = .slice (some ⟨g,o,none⟩) m cap/\u = .pointer (some ⟨g,o+(j * sz'+off),none⟩)) (h1:u.oneCell'=true):eP I L u (.nR id bk i j off)
 |eo (id b n:Nat) (hl:L id=some (.box b)):eP I L (.slice (some ⟨b,0,none⟩) n n) (.eo id n)
 | iV (a : Option Addr) (id bk v off n m c : Nat) (hdr : Value) (sz : Nat) (hl : L id = some (.row v hdr sz)) (hle : bk ≤ v) (hn : n ≤ m) (hm : m ≤ c) (hz : a = none → c = 0)
   (h:bk=v->∃ao k cap,hdr = .slice ao k cap/\c=cap-off/\(off<cap\/off=0->a=ao.map (·.add (off * sz)))):eP I L (.slice a n c) (.iV id bk off n m sz)
 |dead (u:Value):eP I L u .dead
theorem eP.mono{I J:Mem}{L E:bB}(H:I.sub J)(t:dQ L E){u:Value}{a:AV}(h:eP I L u a):eP J E u a:=by
 induction h with
 |p u x h=>exact .p u x (h.mono H)
 |row u id d v A sz hl q h r =>
  obtain⟨f,g,k,l,o⟩:=t.row hl;refine .row u id d f g sz k (Nat.le_trans q l) (λe=>?_) r;have:d=v:=by omega
  have D:v=f:=by omega
  rw[h this,o D]
 |ptr id b off hl=>exact .ptr id b off (t.box hl)
 |jD u id d v i off A sz hl q h r =>
  obtain⟨f,g,k,l,o⟩:=t.row hl;refine .jD u id d f i off g sz k (Nat.le_trans q l) (λe=>?_) r;have s:d=v:=by omega
  have D:v=f:=by omega
  rw[<-o D];exact h s
 |agg us cs hl _ r B=>exact .agg us cs hl B r
 |dY us cs hl _ B=>exact .dY us cs hl B
 |iT F us vs G cs hl K _ _ B P=>exact .iT F us vs G cs hl K B P
 |eY u id d v A sz z C n hl q h r =>
  obtain⟨f,g,w,y,k,l,o⟩:=t.deep hl;refine .eY u id d f g sz z w y k (Nat.le_trans q l) (λe=>?_) r;have s:d=v:=by omega
  rw[h s,(o (by omega)).1]
 |kX u id d v i off A sz z C n hl q h r =>
  obtain⟨f,g,w,y,k,l,o⟩:=t.deep hl;refine .kX u id d f i off g sz z w y k (Nat.le_trans q l) (λe=>?_) r;have s:d=v:=by omega
  rw[<- (o (by omega)).1];exact h s
 |kY u id d v i A sz z C n hl q h r =>
  obtain⟨f,g,w,y,k,l,o⟩:=t.deep hl;refine .kY u id d f i g sz z w y k (Nat.le_trans q l) (λe=>?_) r;have s:d=v:=by omega
  rw[h s,(o (by omega)).2.1]
 |nR u id d v i j off A sz z C n hl q h r =>
  obtain⟨f,g,w,y,k,l,o⟩:=t.deep hl;refine .nR u id d f i j off g sz z w y k (Nat.le_trans q l) (λe=>?_) r;have s:d=v:=by omega
  rw[<- (o (by omega)).2.1];exact h s
 |eo id b n hl=>exact .eo id b n (t.box hl)
 |iV a id d v off n m c A sz hl q N M O h =>
  obtain⟨f,g,k,l,o⟩:=t.row hl;refine .iV a id d f off n m c g sz k (Nat.le_trans q l) N M O (λe=>?_);have s:d=v:=by omega
  rw[<-o (by omega)];exact h s
 |dead u=>exact .dead u
inductive Chunk where
 |box (cs:List AV)
 |row (bk:Nat) (e:TypeId) (sz:Nat) (es:List (List PV))
 |shut (bk:Nat) (es:List (List PV))
 |tail (bk:Nat) (e:TypeId) (sz:Nat) (es:List (List PV))
 |deep (bk:Nat) (e:TypeId) (sz k:Nat) (e':TypeId) (sz':Nat) (es:List (List PV))
 |blk (b:Nat) (o:Obj)
abbrev Env:=Nat->AV
abbrev az:=Nat->Option Chunk
def cK(env:Env)(d:Nat)(v:AV):Env:=λt=>if t=d then v else env t
def bn(H:az)(id:Nat)(c:Chunk):az:=λi=>if i=id then some c else H i
def ct(L:bB)(id:Nat)(l:Loc):bB:=λi=>if i=id then some l else L i
def gv:Env:=λ_=>.dead
def cu:az:=λ_=>none
theorem Nj(env:Env)(d:Nat)(v:AV)(t:Nat):cK env d v t=if t=d then v else env t:=rfl
theorem Nk(H:az)(d:Nat)(v:Chunk)(t:Nat):bn H d v t=if t=d then some v else H t:=rfl
theorem Nl(env:Env){d e:Nat}(v u:AV)(h:d≠e):cK (cK env d v) e u=cK (cK env e u) d v:=by funext t;simp only[cK];by_cases a:t=d<;>by_cases b:t=e<;>simp_all
theorem lC(H:az){d e:Nat}(v u:Chunk)(h:d≠e):bn (bn H d v) e u=bn (bn H e u) d v:=by funext t;simp only[bn];by_cases a:t=d<;>by_cases b:t=e<;>simp_all
structure sZ(w:World)(B:Nat)(I:Mem)(u:Value)(e:TypeId)(sz:Nat)(es:List (List PV))(us:List Value):Prop where
 own:w.ownsRow B e sz u es.length us
 pos:0<sz
 all:∀x∈es,x.length=sz
 val:∀ (j:Nat) u c,us[j]? = some u->es.flatten[j]? = some c->VR I u c
 one:∀u∈us,u.oneCell'=true
 free:∀b,u.ownBlock=some b->∀o,I b o=none
def fO(k:Nat)(a:Nat->Value):List (List PV)->List (List PV)
 | []=>[]
 |x :: r=>x.set k (.val (a 0)) :: fO k (λi=>a (i+1)) r
def BH(w:World)(B:Nat)(I:Mem)(k:Nat)(b:TypeId)(c:Nat)(a:Nat->Value)(es:List (List PV)):Prop:=∀i x,es[i]? = some x->∃l us,x[k]? = some (.aV l)/\sZ w B I (a i) b c l us/\(a i).oneCell'=true
def Ef(c:Value)(a:Nat->Value)(n:Nat):Prop:=(∀i b,i<n->(a i).ownBlock=some b->c.ownBlock≠some b)/\∀i j b,i<n->j<n->(a i).ownBlock=some b->(a j).ownBlock=some b->i=j
theorem HM(c:Nat->Value):∀n:Nat,(∀i j b,i<n->j<n->(c i).ownBlock=some b->(c j).ownBlock=some b->i=j)->((List.range n).flatMap λi=>(c i).ownBlock.toList).Nodup
 |0,_=>by simp
 |n+1,h=>by
  rw[List.range_succ,List.flatMap_append,List.nodup_append];refine⟨HM c n λi j b g m=>h i j b (by omega) (by omega),by cases f:(c n).ownBlock<;>simp[f],λa d b f e=>?_⟩;subst e;obtain⟨i,g,d⟩:=List.mem_flatMap.1 d;have k:(c n).ownBlock=some a:=by simpa using f
  have l:=List.mem_range.1 g;have:=h i n a (by omega) (by omega) (by simpa using d) k;omega
theorem Nn{f:Value}{c:Nat->Value}{n:Nat}(h:Ef f c n):(zi f c n).Nodup:=by unfold zi;rw[List.nodup_append];refine⟨by cases f.ownBlock<;>simp,HM c n h.2,λa g b d e=>?_⟩;subst e;obtain⟨i,j,d⟩:=List.mem_flatMap.1 d;exact h.1 i a (List.mem_range.1 j) (by simpa using d) (by simpa using g)
def qL(I:Mem)(L:bB)(w:World)(B:Nat)(id:Nat):Chunk->Prop
 | .box cs => ∃ (b : Nat) (arr : Array Value) (e : TypeId), L id = some (.box b) ∧ w.heap[b]? = some (.cells arr e (0, 0)) ∧ arr.size = cs.length ∧
   (∀ (j:Nat) u c,arr[j]? = some u->cs[j]? = some c->eP I L u c)/\(∀ (j:Nat) u,arr[j]? = some u->u.oneCell'=true)/\∀o,I b o=none
 | .row d e sz es => ∃ (a : Value) (us : List Value), L id = some (.row d a sz) ∧ w.ownsRow B e sz a es.length us ∧ 0 < sz ∧ (∀ x ∈ es, x.length = sz) ∧
   (∀ (j:Nat) u c,us[j]? = some u->es.flatten[j]? = some c->VR I u c)/\(∀u∈us,u.oneCell'=true)/\∀b,a.ownBlock=some b->∀o,I b o=none
 | .shut d es=>∃ (a:Value) (sz:Nat),L id=some (.row d a sz)/\VR I a (.aV es)/\(∀x∈es,x.length=sz)/\(es≠[]->∃g o n cap,a = .slice (some ⟨g,o,none⟩) n cap)
 | .tail d e sz es => ∃ (g o cap : Nat) (arr : Array Value), L id = some (.row d (.slice (some ⟨g, o, none⟩) es.length cap) sz) ∧ w.heap[g]? = some (.cells arr e (0, 0)) ∧ o + cap * sz ≤ arr.size ∧ es.length ≤ cap ∧ 0 < sz ∧
   (∀x∈es,x.length=sz)/\VR I (.slice (some ⟨g,o,none⟩) es.length cap) (.aV es)/\∀j,o+es.length * sz<=j->j<o+cap * sz->I g j=none
 | .deep d e sz k l h es => ∃ (a : Value) (us : List Value) (f : Nat → Value), L id = some (.deep d a sz h f es.length) ∧ sZ w B I a e sz (fO k f es) us ∧ a.oneCell' = true ∧ k < sz ∧ (∀ x ∈ es, x.length = sz) ∧
   BH w B I k l h f es/\Ef a f es.length
 | .blk b o=>L id=some (.box b)/\w.heap[b]? = some o/\∀i,I b i=none
structure Ctx where
 w0:World
 I0:Mem
 n:Nat
 B:Nat
 A8:Nat->Prop
 L0:bB
 hB:B<=w0.heap.size
 Ak:∀i l,L0 i=some l->1000000<=i
def Ctx.of(w:World)(I:Mem)(n:Nat):Ctx:=⟨w,I,n,w.heap.size,λ_=>False,λ_=>none,Nat.le_refl _,λ_ _ h=>by cases h⟩
structure iG(C:Ctx)(env:Env)(H:az)(I:Mem)(L:bB)(tmps:Array Value)(w:World):Prop where
 below:Below C.B C.w0 w
 mem:I.en w
 lH:C.I0.sub I
 mF:∀b,b<C.w0.heap.size->¬ C.A8 b->∀o,I b o=C.I0 b o
 frame:∀b,b<C.w0.heap.size->¬ C.A8 b->w.heap[b]? = C.w0.heap[b]?
 loc:dQ C.L0 L
 jQ:∀id l b,L id=some l->l.has b->C.w0.heap.size<=b\/C.A8 b
 size:tmps.size=C.n
 env:∀t,eP I L (tmps.getD t undef) (env t)
 dom:∀id l,L id=some l->∃ch,H id=some ch
 chunk:∀id ch,H id=some ch->qL I L w C.B id ch
 gh:∀id l b,L id=some l->l.has b->C.B<=b/\b<w.heap.size
 apart:∀i j li lj b,L i=some li->L j=some lj->li.has b->lj.has b->i=j
theorem iG.kf{C:Ctx}{env:Env}{H:az}{I:Mem}{L:bB}{a:Array Value}{w:World}(h:iG C env H I L a w):C.B<=w.heap.size:=Nat.le_trans C.hB h.below.size
theorem dQ.trans{L s t:bB}(h:dQ L s)(k:dQ s t):dQ L t:=λid=>by
 cases i:L id with
 |none=>trivial
 |some l =>
  cases l with
  |box b=>exact k.box (h.box i)
  |row v C sz =>
   obtain⟨a,D,j,m,o⟩:=h.row i;obtain⟨c,d,p,q,r⟩:=k.row j;exact⟨c,d,p,Nat.le_trans m q,λe=>by
    have f:v=a:=by omega
    have g:a=c:=by omega
    rw[o f,r g]⟩
  |deep v C sz H F n =>
   obtain⟨a,D,G,n1,j,m,o⟩:=h.deep i;obtain⟨c,d,y,E,p,q,r⟩:=k.deep j;exact⟨c,d,y,E,p,Nat.le_trans m q,λe=>by
    have f:v=a:=by omega
    have g:a=c:=by omega
    obtain⟨u,w,x⟩:=o f;obtain⟨z,A,B⟩:=r g;exact⟨u.trans z,w.trans A,x.trans B⟩⟩
theorem Mem.en.keep{I:Mem}{w w':World}(h:I.en w)(c:∀b,(∃o u,I b o=some u)->w'.heap[b]? = w.heap[b]?):I.en w':=λb o u a=>by have:=h b o u a;rw[World.cell?_of_block (w:=w) (c b ⟨o,u,a⟩)];exact this
theorem Mem.en.lt{I:Mem}{w:World}(h:I.en w){b o:Nat}{u:Value}(a:I b o=some u):b<w.heap.size:=World.block_lt_of_cell? w ⟨b,o,none⟩ (h b o u a)
theorem wP{w w':World}{B:Nat}{e:TypeId}{sz:Nat}{v:Value}{n:Nat}{xs:List Value}(h:w.ownsRow B e sz v n xs)
  (f:∀b,v.ownBlock=some b->w'.heap[b]? = w.heap[b]?):w'.ownsRow B e sz v n xs:=by
 refine⟨h.1,?_⟩;rcases h.2 with i|⟨g,cap,a,rfl,c,d,rest⟩
 ·exact .inl i
 ·refine .inr ⟨g,cap,a,rfl,c,?_,rest⟩;rw[f g rfl];exact d
theorem sZ.keep{I d:Mem}{w w':World}{B:Nat}{u:Value}{e:TypeId}{sz:Nat}{es:List (List PV)}{us:List Value}(h:sZ w B I u e sz es us)(g:I.sub d)
  (f:∀b,u.ownBlock=some b->w'.heap[b]? = w.heap[b]?/\∀o,d b o=I b o):sZ w' B d u e sz es us :=
 ⟨wP h.own λb a=>(f b a).1,h.pos,h.all,λj u c k i=>(h.val j u c k i).mono g,h.one,λb a o=>by rw[(f b a).2];exact h.free b a o⟩
theorem fV(k:Nat):∀ (dx:Nat->Value) (es:List (List PV)),(fO k dx es).length=es.length
 |_,[]=>rfl
 |dx,x :: r=>by simp[fO,fV k _ r]
theorem uF(k:Nat):∀ (dx:Nat->Value) (es:List (List PV)) (i:Nat),(fO k dx es)[i]? = es[i]?.map λx=>x.set k (.val (dx i))
 |_,[],i=>by simp[fO]
 |dx,x :: r,0=>by simp[fO]
 |dx,x :: r,i+1=>by simp[fO,uF k _ r i]
theorem qL.keep{I D:Mem}{L E:bB}{w w':World}{B id:Nat}{G:Chunk}(h:qL I L w B id G)(t:I.sub D)(O:dQ L E)
  (v:E id=L id) (s:∀l b,L id=some l->l.has b->w'.heap[b]? = w.heap[b]?/\∀o,D b o=I b o):qL D E w' B id G:=by
 cases G with
 |box cs=>obtain⟨b,arr,e,d,f,m,p,q,r⟩:=h;obtain⟨A,C⟩:=s _ b d rfl;exact⟨b,arr,e,v.trans d,A.trans f,m,λj u c J H=>(p j u c J H).mono t O,q,λo=>by rw[C];exact r o⟩
 |row F e sz es =>
  obtain⟨z,us,d,f,m,p,q,r,y⟩:=h;exact⟨z,us,v.trans d,wP f λb n=>(s _ b d n).1,m,p,λj u c J H=>(q j u c J H).mono t,r,
   λb n o=>by rw[(s _ b d n).2];exact y b n o⟩
 |shut F es=>obtain⟨z,sz,d,f,m⟩:=h;exact⟨z,sz,v.trans d,f.mono t,m⟩
 |tail F e sz es=>obtain⟨g,o,cap,arr,d,f,m,p,q,r,y,N⟩:=h;obtain⟨A,C⟩:=s _ g d rfl;exact⟨g,o,cap,arr,v.trans d,A.trans f,m,p,q,r,y.mono t,λj a b=>by rw[C];exact N j a b⟩
 |deep F e sz k T U es=>obtain⟨z,us,M,d,f,m,p,q,r,y⟩:=h;refine⟨z,us,M,v.trans d,f.keep t λb n=>s _ b d (.inl n),m,p,q,λi x K=>?_,y⟩;obtain⟨l,S,P,Q,R⟩:=r i x K;exact⟨l,S,P,Q.keep t λb n=>s _ b d (.inr ⟨i,(List.getElem?_eq_some_iff.1 K).1,n⟩),R⟩
 |blk b o=>obtain⟨d,f,m⟩:=h;obtain⟨A,C⟩:=s _ b d rfl;exact⟨v.trans d,A.trans f,λi=>by rw[C];exact m i⟩
theorem iG.world{C:Ctx}{env:Env}{H:az}{I:Mem}{L:bB}{e:Array Value}{w w':World}(h:iG C env H I L e w)
  (a:Below C.B w w') (d:∀b,b<w.heap.size->w'.heap[b]? = w.heap[b]?):iG C env H I L e w' where
 below:=h.below.trans a
 mem:=h.mem.keep λb ⟨o,u,i⟩=>d b (h.mem.lt i)
 lH:=h.lH
 mF:=h.mF
 frame:=λb a hl=>(d b (Nat.lt_of_lt_of_le a h.below.size)).trans (h.frame b a hl)
 loc:=h.loc
 jQ:=h.jQ
 size:=h.size
 env:=h.env
 dom:=h.dom
 chunk:=λid f g=>(h.chunk id f g).keep (Mem.ep I) (dQ.refl L) rfl λl b hl c=>⟨d b (h.gh id l b hl c).2,λ_=>rfl⟩
 gh:=λid l b hl c=>⟨(h.gh id l b hl c).1,Nat.lt_of_lt_of_le (h.gh id l b hl c).2 a.size⟩
 apart:=h.apart
theorem iG.grow{C:Ctx}{env:Env}{H:az}{I d:Mem}{L:bB}{i:Array Value}{w w':World}(h:iG C env H I L i w)
  (e:Below w.heap.size w w') (f:I.sub d) (hw:d.en w') (g:∀b,b<w.heap.size->∀o,d b o=I b o):iG C env H d L i w' where
 below:=h.below.trans (e.mono h.kf)
 mem:=hw
 lH:=Mem.mD h.lH f
 mF:=λb c hl o=>by rw[g b (Nat.lt_of_lt_of_le c h.below.size)];exact h.mF b c hl o
 frame:=λb c hl=>(e.block b (Nat.lt_of_lt_of_le c h.below.size)).trans (h.frame b c hl)
 loc:=h.loc
 jQ:=h.jQ
 size:=h.size
 env:=λt=>(h.env t).mono f (dQ.refl L)
 dom:=h.dom
 chunk:=λid j k=>(h.chunk id j k).keep f (dQ.refl L) rfl λl b hl a=>⟨e.block b (h.gh id l b hl a).2,g b (h.gh id l b hl a).2⟩
 gh:=λid l b hl a=>⟨(h.gh id l b hl a).1,Nat.lt_of_lt_of_le (h.gh id l b hl a).2 e.size⟩
 apart:=h.apart
theorem Np(a:Array Value)(d t:Nat)(v:Value)(c:d<a.size):(a.setIfInBounds d v).getD t undef=if t=d then v else a.getD t undef:=by
 by_cases h:t=d
 ·subst h;simp[c]
 ·have b:d≠t:=λe=>h e.symm
  simp[Array.getElem?_setIfInBounds,h,b]
theorem iG.put{C:Ctx}{env:Env}{H:az}{I:Mem}{L:bB}{b:Array Value}{w:World}(h:iG C env H I L b w)
  {d:Nat} {v:Value} {a:AV} (e:d<C.n) (c:eP I L v a):iG C (cK env d a) H I L (b.setIfInBounds d v) w :=
 {h with
  size:=by simpa using h.size
  env:=λt=>by
   rw[Np _ _ _ _ (by rw[h.size];exact e)];unfold cK;split
   ·exact c
   ·exact h.env t }
theorem dQ.uU{L:bB}{id:Nat}(h:L id=none)(l:Loc):dQ L (ct L id l):=λi=>by
 by_cases a:i=id
 ·subst a;rw[h];trivial
 ·have:ct L id l i=L i:=by simp[ct,a]
  rw[this];exact dQ.refl L i
theorem iG.s0{C:Ctx}{env:Env}{H:az}{I:Mem}{L:bB}{d:Array Value}{w:World}(h:iG C env H I L d w){id:Nat}(c:H id=none):L id=none:=by
 cases b:L id with
 |none=>rfl
 |some l=>obtain⟨e,a⟩:=h.dom id l b;rw[c] at a;cases a
theorem CG{I:Mem}{w:World}(h:I.en w)(o:Nat):I w.heap.size o=none:=by
 cases a:I w.heap.size o with
 |none=>rfl
 |some u=>exact absurd (h.lt a) (Nat.lt_irrefl _)
theorem iG.new{C:Ctx}{env:Env}{H:az}{I:Mem}{L:bB}{u:Array Value}{w w':World}(h:iG C env H I L u w)
  (z:Below C.B w w') (E:∀b,b<w.heap.size->w'.heap[b]? = w.heap[b]?) {id:Nat} (D:H id=none) (l:Loc) (g:Chunk)
  (A:qL I (ct L id l) w' C.B id g) (hl:∀b,l.has b->w.heap.size<=b/\b<w'.heap.size):iG C env (bn H id g) I (ct L id l) u w':=by
 have y:=h.s0 D;have p:=dQ.uU y l;have hw:=h.world z E;exact
 {hw with
  env:=λt=>(h.env t).mono (Mem.ep I) p
  dom:=λi d a=>by
   by_cases e:i=id
   ·exact⟨g,by simp[bn,e]⟩
   ·obtain⟨c,n⟩:=h.dom i d (by simpa[ct,e] using a);exact⟨c,by simpa[bn,e] using n⟩
  chunk:=λi c n=>by
   by_cases e:i=id
   ·subst e;have:g=c:=by simpa[bn] using n
    subst this;exact A
   ·exact (hw.chunk i c (by simpa[bn,e] using n)).keep (Mem.ep I) p (by simp[ct,e]) λ_ _ _ _=>⟨rfl,λ_=>rfl⟩
  loc:=hw.loc.trans p
  jQ:=λi d b a f=>by
   by_cases e:i=id
   ·subst e;have:l=d:=by simpa[ct] using a
    subst this;exact .inl (Nat.le_trans h.below.size (hl b f).1)
   ·exact hw.jQ i d b (by simpa[ct,e] using a) f
  gh:=λi d b a f=>by
   by_cases e:i=id
   ·subst e;have:l=d:=by simpa[ct] using a
    subst this;exact⟨Nat.le_trans h.kf (hl b f).1,(hl b f).2⟩
   ·exact hw.gh i d b (by simpa[ct,e] using a) f
  apart:=λi j d q b a o r s=>by
   by_cases k:i=id<;>by_cases m:j=id
   ·rw[k,m]
   ·subst k;have:l=d:=by simpa[ct] using a
    subst this;have v:=hl b r;have x:=h.gh j q b (by simpa[ct,m] using o) s;omega
   ·subst m;have:l=q:=by simpa[ct] using o
    subst this;have v:=hl b s;have x:=h.gh i d b (by simpa[ct,k] using a) r;omega
   ·exact h.apart i j d q b (by simpa[ct,k] using a) (by simpa[ct,m] using o) r s }
theorem iG.s7{C:Ctx}{env:Env}{H:az}{I:Mem}{L:bB}{G:Array Value}{w w':World}(h:iG C env H I L G w)
  (y:Below C.B w w') {id:Nat} {l l':Loc} (hl:L id=some l) (z:∀b,b<w.heap.size->¬ l.has b->w'.heap[b]? = w.heap[b]?)
  (A:dQ L (ct L id l')) (N:∀b,l.has b->∀o,I b o=none) (p:Chunk)
  (M:qL I (ct L id l') w' C.B id p) (s:∀b,l'.has b->l.has b\/(w.heap.size<=b/\b<w'.heap.size)):iG C env (bn H id p) I (ct L id l') G w' where
 below:=h.below.trans y
 mem:=h.mem.keep λb ⟨o,u,D⟩=>z b (h.mem.lt D) λe=>by rw[N b e o] at D;cases D
 lH:=h.lH
 mF:=h.mF
 frame:=λb F E=>by
  have O:=Nat.lt_of_lt_of_le F h.below.size;refine (z b O λe=>?_).trans (h.frame b F E);rcases h.jQ id l b hl e with h1|h1
  ·omega
  ·exact E h1
 loc:=h.loc.trans A
 jQ:=λi d b a n=>by
  by_cases e:i=id
  ·subst e;have:l'=d:=by simpa[ct] using a
   subst this;rcases s b n with k|k
   ·exact h.jQ i l b hl k
   ·exact .inl (Nat.le_trans h.below.size k.1)
  ·exact h.jQ i d b (by simpa[ct,e] using a) n
 size:=h.size
 env:=λt=>(h.env t).mono (Mem.ep I) A
 dom:=λi d a=>by
  by_cases e:i=id
  ·exact⟨p,by simp[bn,e]⟩
  ·obtain⟨c,q⟩:=h.dom i d (by simpa[ct,e] using a);exact⟨c,by simpa[bn,e] using q⟩
 chunk:=λi c q=>by
  by_cases e:i=id
  ·subst e;have:p=c:=by simpa[bn] using q
   subst this;exact M
  ·refine (h.chunk i c (by simpa[bn,e] using q)).keep (Mem.ep I) A (by simp[ct,e]) λd b a f=>⟨z b (h.gh i d b a f).2 λJ=>e (h.apart i id d l b a hl f J),λ_=>rfl⟩
 gh:=λi d b a n=>by
  by_cases e:i=id
  ·subst e;have:l'=d:=by simpa[ct] using a
   subst this;rcases s b n with k|k
   ·exact⟨(h.gh i l b hl k).1,Nat.lt_of_lt_of_le (h.gh i l b hl k).2 y.size⟩
   ·exact⟨Nat.le_trans h.kf k.1,k.2⟩
  ·have:=h.gh i d b (by simpa[ct,e] using a) n;exact⟨this.1,Nat.lt_of_lt_of_le this.2 y.size⟩
 apart:=λi j d v b a r f x=>by
  by_cases g:i=id<;>by_cases m:j=id
  ·rw[g,m]
  ·subst g;have:l'=d:=by simpa[ct] using a
   subst this;have K:=h.gh j v b (by simpa[ct,m] using r) x;rcases s b f with k|k
   ·exact h.apart i j l v b hl (by simpa[ct,m] using r) k x
   ·omega
  ·subst m;have:l'=v:=by simpa[ct] using r
   subst this;have K:=h.gh i d b (by simpa[ct,g] using a) f;rcases s b x with k|k
   ·exact h.apart i j d l b (by simpa[ct,g] using a) hl f k
   ·omega
  ·exact h.apart i j d v b (by simpa[ct,g] using a) (by simpa[ct,m] using r) f x
def cT(P:Program)(t:TypeId):Option TypeId:=match P.underlying t with|some (.slice e)=>some e|_=>none
def bu(P:Program)(t:TypeId):Option Nat:=(P.info? t).map (·.size)
def xI(P:Program)(t:TypeId):Option Nat:=(P.info? t).map (·.bytes)
def cN(P:Program)(t:TypeId):Option (List Value):=(P.info? t).bind λi=>i.zero.map λz=>z.cells.toList
def gd(P:Program)(t:TypeId):Option Bool:=(P.underlying t).map (·.isRow)
def bM(P:Program)(s:TypeId)(k:Nat):Option (Nat×Nat):=match P.underlying s with
 |some (.struct a)=>(a[k]?).bind λf=>(bu P f.type).map λn=>(f.offset,n)
 |_=>none
def wQ(P:Program)(t:TypeId):Option (Nat×TypeId):=match P.underlying t with|some (.array n e)=>some (n,e)|_=>none
def BI(P:Program)(t:TypeId):Option IntKind:=match P.underlying t with|some (.int k)=>some k|_=>none
def zj(P:Program)(t:TypeId):Bool:=match P.underlying t with|some .string=>true|_=>false
def zk(v:Value):AV:=match v with
 | .agg cs=>if cs.toList.all (·.oneCell') then .p (.agg (cs.toList.map PV.val)) else .dead
 | .tuple _=>.dead
 |v=>.p (.val v)
def ev(env:Env):Operand->AV
 | .tmp t=>env t
 | .const v=>zk v
 | .global _=>.dead
 | .func f=>.p (.iT (.func f) [] [])
theorem Nq(I:Mem)(L:bB)(v:Value):eP I L v (zk v):=by
 unfold zk;split
 ·rename_i cs;split
  ·rename_i h;rw[List.all_eq_true] at h;have:=VR.agg (I:=I) cs.toList (cs.toList.map PV.val) (by simp) (λj u c b a=>by
    rw[List.getElem?_map,b] at a;simp at a;subst a;exact .val u (h u (List.mem_of_getElem? b))) h
   exact .p _ _ (by simpa using this)
  ·exact .dead _
 ·exact .dead _
 ·rename_i d e;refine .p _ _ (.val _ ?_);cases v with
  |agg cs=>exact (d _ rfl).elim
  |tuple cs=>exact (e _ rfl).elim
  |_=>rfl
theorem uV{C:Ctx}{env:Env}{H:az}{I:Mem}{L:bB}{a:Array Value}{w:World}(h:iG C env H I L a w)(b:List Deferred)(x:Operand) :
  eP I L ((⟨a,b⟩:Act).eval x) (ev env x):=by
 cases x with
 |tmp t=>exact h.env t
 |const v=>exact Nq I L v
 |global g=>exact .dead _
 |func f=>exact .p _ _ (.iT (.func f) [] [] [] [] rfl rfl (by simp) (by simp))
def uj:List AV->Option (List PV)
 | []=>some []
 | .p x :: r=>match uj r with|some a=>some (x :: a)|none=>none
 |_ :: _=>none
theorem uG:∀ {cs:List AV} {b:List PV},uj cs=some b->cs=b.map AV.p
 | [],b,h=>by simp[uj] at h;subst h;rfl
 |a :: r,b,h=>by
  cases a<;>simp[uj] at h
  rename_i x;split at h
  ·rename_i d c;simp at h;subst h;simp[uG c]
  ·simp at h
def yG(cs:List AV):AV:=match uj cs with|some a=>.p (.agg a)|none=>.agg cs
def oB:AV->Bool
 | .p x=>x.one
 | .row _ _ | .ptr _ _ | .jD _ _ _ _ | .iT _ _ _ | .eY _ _ | .kX _ _ _ _ | .kY _ _ _ | .nR _ _ _ _ _ | .eo _ _ | .iV _ _ _ _ _ _=>true
 |_=>false
theorem eP.one{I:Mem}{L:bB}{u:Value}{a:AV}(h:eP I L u a)(b:oB a=true):u.oneCell'=true:=by cases h<;>first|assumption|rfl|(cases b;done)|exact VR.one (by assumption) b
theorem eP.oz{I:Mem}{L:bB}{u:Value}{x:PV}(h:eP I L u (.p x)):VR I u x:=by cases h;assumption
theorem vR{I:Mem}{L:bB}{us:List Value}{cs:List AV}(hl:us.length=cs.length)
  (b:∀ (j:Nat) u c,us[j]? = some u->cs[j]? = some c->eP I L u c) (a:∀u∈us,u.oneCell'=true):eP I L (.agg us.toArray) (yG cs):=by
 unfold yG;split
 ·rename_i g h;have e:=uG h;subst e;refine .p _ _ (.agg us g (by simpa using hl) (λj u c f d=>?_) a);exact (b j u (.p c) f (by rw[List.getElem?_map,d];rfl)).oz
 ·exact .agg us cs hl b a
def b7:AV->List AV
 | .agg cs=>cs
 | .p (.agg cs)=>cs.map AV.p
 |x=>[x]
def splice{α:Type}(cs:List α)(off:Nat)(new:List α):List α:=cs.take off++new++cs.drop (off+new.length)
theorem eD{α:Type}{cs:List α}{off:Nat}{new:List α}(h:off+new.length<=cs.length):(splice cs off new).length=cs.length:=by simp[splice];omega
theorem Eg{α f:Type}{R:α->f->Prop}{us:List α}{cs:List f}{off:Nat}{un:List α}{cn:List f}(hl:us.length=cs.length)(h:un.length=cn.length)
  (g:∀ (j:Nat) u c,us[j]? = some u->cs[j]? = some c->R u c) (hw:∀ (j:Nat) u c,un[j]? = some u->cn[j]? = some c->R u c) :
  ∀ (j:Nat) u c,(splice us off un)[j]? = some u->(splice cs off cn)[j]? = some c->R u c:=by
 intro j u c b a;unfold splice at b a;simp only[List.append_assoc,List.getElem?_append,List.length_take,hl,List.getElem?_take,List.getElem?_drop,h] at b a;split at b
 ·rename_i e;rw[if_pos e] at a;split at b
  ·rename_i d;rw[if_pos d] at a;exact g _ _ _ b a
  ·cases b
 ·rename_i e;rw[if_neg e] at a;split at b
  ·rename_i d;rw[if_pos d] at a;exact hw _ _ _ b a
  ·rename_i d;rw[if_neg d] at a;exact g _ _ _ b a
theorem eP.cells{I:Mem}{L:bB}{u:Value}{a:AV}(h:eP I L u a)(k:∀c∈b7 a,oB c=true) :
  ∃us:List Value,u.cells=us.toArray/\us.length=(b7 a).length/\(∀ (j:Nat) u c,us[j]? = some u->(b7 a)[j]? = some c->eP I L u c):=by
 have d:(b7 a=[a])->u.cells = #[u]->∃us:List Value,u.cells=us.toArray/\us.length=(b7 a).length/\(∀ (j:Nat) u c,us[j]? = some u->(b7 a)[j]? = some c->eP I L u c):=by
  intro b n;refine⟨[u],n,by simp[b],λj v c e f=>?_⟩;rw[b] at f;cases j with
  |zero=>simp at e f;subst e;subst f;exact h
  |succ j=>simp at e
 cases h with
 |p _ x w =>
  cases w with
  |val v b=>exact d rfl (by cases u<;>first|rfl|cases b)
  |emp=>exact d rfl rfl
  |aV=>exact d rfl rfl
  |eF=>exact d rfl rfl
  |agg us cs hl e s =>
   exact⟨us,rfl,by simp[b7,hl],λj u c t f=>by
    simp only[b7,List.getElem?_map] at f;cases g:cs[j]? with
    |none=>simp[g] at f
    |some m=>simp[g] at f;subst f;exact .p _ _ (e j u m t g)⟩
  |dY us cs hl e=>simp[b7,oB,PV.one] at k
  |iT=>exact d rfl rfl
 |row _ id l v o sz hl r q b=>exact d rfl (by cases u<;>first|rfl|cases b)
 |ptr=>exact d rfl rfl
 |jD _ id l v i off o sz hl r q b=>exact d rfl (by cases u<;>first|rfl|cases b)
 |eo=>exact d rfl rfl
 |iV=>exact d rfl rfl
 |eY _ _ _ _ _ _ _ _ _ _ _ _ b=>exact d rfl (by cases u<;>first|rfl|cases b)
 |kX _ _ _ _ _ _ _ _ _ _ _ _ _ _ b=>exact d rfl (by cases u<;>first|rfl|cases b)
 |kY _ _ _ _ _ _ _ _ _ _ _ _ _ b=>exact d rfl (by cases u<;>first|rfl|cases b)
 |nR _ _ _ _ _ _ _ _ _ _ _ _ _ _ _ b=>exact d rfl (by cases u<;>first|rfl|cases b)
 |agg us cs hl e s=>exact⟨us,rfl,hl,e⟩
 |dY us cs hl e=>simp[b7,oB] at k
 |iT=>exact d rfl rfl
 |dead=>simp[b7,oB] at k
variable{P:Program}
theorem gB{w:World}{b:Nat}{arr:Array Value}{e:TypeId}{f:Nat×Nat}(h:w.heap[b]? = some (.cells arr e f))(j:Nat):w.cell? ⟨b,j,none⟩=arr[j]?:=by simp[World.cell?,h]
def tc(P:Program)(t:TypeId)(cs:List AV)(off:Nat):Option AV:=match gd P t with
 |some true=>match bu P t with
  |some n=>if off+n<=cs.length then some (yG ((cs.drop off).take n)) else none
  |none=>none
 |some false=>cs[off]?
 |none=>none
def td(P:Program)(t:TypeId)(cs:List PV)(off:Nat):Option PV:=match gd P t with
 |some true=>match bu P t with
  |some n=>if off+n<=cs.length then some (.agg ((cs.drop off).take n)) else none
  |none=>none
 |some false=>cs[off]?
 |none=>none
theorem Eh{t:TypeId}{g:Bool}(h:gd P t=some g):∃d,P.underlying t=some d/\d.isRow=g:=by
 unfold gd at h;cases a:P.underlying t with
 |none=>simp[a] at h
 |some d=>exact⟨d,rfl,by simpa[a] using h⟩
theorem Nr{t:TypeId}{d:TypeDesc}(e:P.underlying t=some d)(f:d.isRow=false)(w:World)(a:Addr){u:Value}(c:w.cell? a=some u) :
  (loadVar t a).run P w = .ok u w:=by
 have b:(isAgg t).run P w = .ok false w:=by unfold isAgg;rw[Sem.run_bind,run_underlying e w];cases d<;>simp_all
 simp[loadVar,Sem.run_bind,b,load,Sem.run,c]
theorem CH{I:Mem}{L:bB}{w:World}{t:TypeId}{b base off:Nat}{us:List Value}{cs:List AV}{v:AV}(h:tc P t cs off=some v)
  (hl:us.length=cs.length) (l:∀ (j:Nat) u c,us[j]? = some u->cs[j]? = some c->eP I L u c) (m:∀u∈us,u.oneCell'=true)
  (i:∀ (j:Nat) u,us[j]? = some u->w.cell? ⟨b,base+j,none⟩=some u) :
  ∃u,(loadVar t ⟨b,base+off,none⟩).run P w = .ok u w/\eP I L u v:=by
 unfold tc at h;split at h
 ·rename_i g;obtain⟨d,a,f⟩:=Eh g;split at h
  ·rename_i n q;split at h
   ·rename_i r;simp at h;subst h;have p:((us.drop off).take n).length=n:=by simp;omega
    refine⟨_,run_loadVar_mid w b (base+off) t ((us.drop off).take n) d (λj u a=>?_) a f ?_,vR ?_ ?_ ?_⟩
    ·rw[List.getElem?_take] at a;split at a
     ·rw[List.getElem?_drop] at a;rw[Nat.add_assoc];exact i _ u a
     ·cases a
    ·rw[p];exact q
    ·simp[hl]
    ·intro j u c a e;rw[List.getElem?_take] at a e;split at a
     ·rename_i o;rw[if_pos o] at e;rw[List.getElem?_drop] at a e;exact l _ u c a e
     ·cases a
    ·intro u a;exact m u (List.mem_of_mem_drop (List.mem_of_mem_take a))
   ·simp at h
  ·simp at h
 ·rename_i g;obtain⟨d,a,f⟩:=Eh g;have s:off<cs.length:=(List.getElem?_eq_some_iff.1 h).1;have k:us[off]? = some (us[off]'(by omega)):=by simp
  exact⟨_,Nr a f w _ (i off _ k),l off _ _ k h⟩
 ·simp at h
theorem Ns{t:TypeId}{cs:List PV}{off:Nat}{x:PV}(h:td P t cs off=some x):tc P t (cs.map AV.p) off=some (.p x):=by
 have c:∀l:List PV,uj (l.map AV.p)=some l:=λl=>by induction l with|nil=>rfl|cons a r d=>simp[uj,d]
 unfold td at h;unfold tc;split at h
 ·split at h
  ·split at h
   ·rename_i b;simp at h;subst h;rw[if_pos (by simpa using b),<-List.map_drop,<-List.map_take];simp only[yG,c]
   ·simp at h
  ·simp at h
 ·rw[List.getElem?_map,h];rfl
 ·simp at h
theorem HN{I:Mem}{w:World}{t:TypeId}{b base off:Nat}{us:List Value}{cs:List PV}{x:PV}(h:td P t cs off=some x)
  (hl:us.length=cs.length) (m:∀ (j:Nat) u c,us[j]? = some u->cs[j]? = some c->VR I u c) (f:∀u∈us,u.oneCell'=true)
  (i:∀ (j:Nat) u,us[j]? = some u->w.cell? ⟨b,base+j,none⟩=some u) :
  ∃u,(loadVar t ⟨b,base+off,none⟩).run P w = .ok u w/\VR I u x:=by
 obtain⟨u,k,g⟩:=CH (I:=I) (L:=λ_=>none) (Ns h) (by simpa using hl) (λj u c l a=>by
  rw[List.getElem?_map] at a;cases d:cs[j]? with
  |none=>simp[d] at a
  |some e=>simp[d] at a;subst a;exact .p _ _ (m j u e l d)) f i
 exact⟨u,k,g.oz⟩
def Fr(C:Ctx)(I:Mem)(L:bB)(H:az)(w:World)(b:Mem)(c:bB)(a:az)(w':World):Prop:=∀env tm,iG C env H I L tm w->iG C env a b c tm w'
theorem Fr.refl(C:Ctx)(I:Mem)(L:bB)(H:az)(w:World):Fr C I L H w I L H w:=λ_ _ h=>h
theorem Fr.trans{C:Ctx}{I b c:Mem}{L d e:bB}{H a H2:az}{w f g:World}(h:Fr C I L H w b d a f)(k:Fr C b d a f c e H2 g) :
  Fr C I L H w c e H2 g:=λenv tm s=>k env tm (h env tm s)
theorem Fr.drew(C:Ctx)(I:Mem)(L:bB)(H:az)(w:World):Fr C I L H w I L H w.drew:=λ_ _ h=>h.world (Below.refl _ _).drew λ_ _=>rfl
def Mem.with(I:Mem)(b:Nat)(arr:Array Value):Mem:=λc o=>if c=b then arr[o]? else I c o
theorem Fr.Ei(C:Ctx)(I:Mem)(L:bB)(H:az)(w:World)(arr:Array Value)(e:TypeId) :
  Fr C I L H w (I.with w.heap.size arr) L H (w.alloc (.cells arr e)):=λenv tm h =>
 h.grow ((Below.refl _ _).alloc (Nat.le_refl _) _)
  (λb o u a=>by
   have:b≠w.heap.size:=λe=>by subst e;rw[CG h.mem] at a;cases a
   simpa[Mem.with,this] using a)
  (λb o u a=>by
   unfold Mem.with at a
   split at a
   ·rename_i c;subst c;rw[World.cell?_alloc_new];exact a
   ·exact (World.cell?_alloc_lt _ _ _ (h.mem.lt a)).trans (h.mem b o u a))
  (λb c o=>by unfold Mem.with;rw[if_neg (by omega)])
theorem Mem.Nt{I:Mem}{w:World}(h:I.en w)(arr:Array Value):I.sub (I.with w.heap.size arr):=λb o u a=>by
 have:b≠w.heap.size:=λe=>by subst e;rw[CG h] at a;cases a
 simpa[Mem.with,this] using a
theorem VR.Ej{I:Mem}{w:World}(d:I.en w){us rest:List Value}{es:List (List PV)}{sz cap:Nat}(i:∀e∈es,e.length=sz)(hl:us.length=es.flatten.length)
  (k:∀ (j:Nat) u c,us[j]? = some u->es.flatten[j]? = some c->VR I u c) (b:∀u∈us,u.oneCell'=true) (g:es.length<=cap) :
  VR (I.with w.heap.size (us++rest).toArray) (.slice (some ⟨w.heap.size,0,none⟩) es.length cap) (.aV es):=by
 refine .aV _ _ _ es us sz rfl i hl (λj u c a f=>(k j u c a f).mono (Mem.Nt d _)) b (.inr ⟨_,_,rfl,λj u a=>?_⟩) (by simp) g;have h:j<us.length:=(List.getElem?_eq_some_iff.1 a).1;simp only[Mem.with,if_true,Nat.zero_add,List.getElem?_toArray];rw[List.getElem?_append_left h];exact a
def pJ(I:Mem)(L:bB)(us:List Value)(fe:List AV):Prop:=us.length=fe.length/\∀ (j:Nat) u a,us[j]? = some u->fe[j]? = some a->eP I L u a
def qs(I:Mem)(us:List Value)(fe:List PV):Prop:=us.length=fe.length/\∀ (j:Nat) u a,us[j]? = some u->fe[j]? = some a->VR I u a
theorem qs.mono{I J:Mem}(h:I.sub J){us:List Value}{fe:List PV}(k:qs I us fe):qs J us fe:=⟨k.1,λj u a c b=>(k.2 j u a c b).mono h⟩
theorem qs.oz{I:Mem}{L:bB}{us:List Value}{b:List PV}(h:pJ I L us (b.map AV.p)):qs I us b:=⟨by simpa using h.1,λj u a d c=>(h.2 j u (.p a) d (by rw[List.getElem?_map,c];rfl)).oz⟩
end Go.cv
namespace Go.cv
open Go.RowKit
variable{P:Program}
def ox(P:Program)(e:BinOp)(t:TypeId)(x y:Value):Option (Prop×Value):=match e,x,y with
 | .add,.int k a,.int c b=>if k=c then some (True,.int k (k.wrap (a+b))) else none
 | .sub,.int k a,.int c b=>if k=c then some (True,.int k (k.wrap (a-b))) else none
 | .mul,.int k a,.int c b=>if k=c then some (True,.int k (k.wrap (a * b))) else none
 | .quo,.int k a,.int c b=>if k=c then some (b≠0,.int k (k.wrap (a.tdiv b))) else none
 | .rem,.int k a,.int c b=>if k=c then some (b≠0,.int k (a.tmod b)) else none
 | .shl,.int k a,.int _ b=>some (0<=b,.int k (k.wrap (a * 2 ^ (min b.toNat k.bits))))
 | .shr,.int k a,.int _ b=>some (0<=b,.int k (a.fdiv (2 ^ (min b.toNat k.bits))))
 | .and,.int k a,.int c b=>if k=c then some (True,.int k (k.wrap (BitVec.ofInt k.bits a &&& BitVec.ofInt k.bits b).toNat)) else none
 | .or,.int k a,.int c b=>if k=c then some (True,.int k (k.wrap (BitVec.ofInt k.bits a ||| BitVec.ofInt k.bits b).toNat)) else none
 | .xor,.int k a,.int c b=>if k=c then some (True,.int k (k.wrap (BitVec.ofInt k.bits a ^^^ BitVec.ofInt k.bits b).toNat)) else none
 | .eql,.int k a,.int c b=>if k=c then some (True,.bool (decide (a=b))) else none
 | .neq,.int k a,.int c b=>if k=c then some (True,.bool (!decide (a=b))) else none
 | .lss,.int k a,.int c b=>if k=c then some (True,.bool (decide (a<b))) else none
 | .leq,.int k a,.int c b=>if k=c then some (True,.bool (decide (a<=b))) else none
 | .gtr,.int k a,.int c b=>if k=c then some (True,.bool (decide (b<a))) else none
 | .geq,.int k a,.int c b=>if k=c then some (True,.bool (decide (b<=a))) else none
 | .add,.string a,.string b=>some (a.size+b.size<=9223372036854775807,.string (a++b))
 | .eql,.string a,.string b=>some (True,.bool (decide (a=b)))
 | .neq,.string a,.string b=>some (True,.bool (!decide (a=b)))
 | .eql,.bool a,.bool b=>match P.underlying t with|some .bool=>some (True,.bool (a == b))|_=>none
 | .neq,.bool a,.bool b=>match P.underlying t with|some .bool=>some (True,.bool (!(a == b)))|_=>none
 | .eql,.slice d _ _,.slice none 0 0=>match P.underlying t with|some (.slice _)=>some (True,.bool d.isNone)|_=>none
 | .neq,.slice d _ _,.slice none 0 0=>match P.underlying t with|some (.slice _)=>some (True,.bool (!d.isNone))|_=>none
 |_,_,_=>none
theorem HO(a b:ByteArray):(a.toList == b.toList)=decide (a=b):=by
 rw[ByteArray.toList_eq,ByteArray.toList_eq,Bool.eq_iff_iff];simp only[beq_iff_eq,decide_eq_true_eq];constructor
 ·intro h;cases a;cases b;simp only at h;exact congrArg _ (Array.toList_inj.1 h)
 ·rintro rfl;rfl
theorem run_equal_bool{t:TypeId}(c:P.underlying t=some .bool)(a b:Bool)(w:World):(Op.equal t (.bool a) (.bool b)).run P w = .ok (a == b) w:=by have h:Op.equal t (.bool a) (.bool b)=Op.equalIn (9999+1) t (.bool a) (.bool b):=rfl;rw[h,Op.equalIn,Sem.run_bind,run_underlying c w];rfl
theorem wv{t e:TypeId}(g:P.underlying t=some (.slice e))(a b:Option Addr)(n c m d:Nat)(h:a=none\/b=none)(w:World) :
  (Op.equal t (.slice a n c) (.slice b m d)).run P w = .ok (a.isNone&&b.isNone) w:=by
 have f:Op.equal t (.slice a n c) (.slice b m d)=Op.equalIn (9999+1) t (.slice a n c) (.slice b m d):=rfl;rw[f,Op.equalIn,Sem.run_bind,run_underlying g w];cases a<;>cases b<;>first|rfl|simp at h
theorem Nu{d:BinOp}{t:TypeId}{x y v:Value}{pre:Prop}(h:ox P d t x y=some (pre,v))(e:pre)(w:World)(f g:Operand) :
  (do eqGuard d t f g x y;binOp d t x y:Sem Value).run P w = .ok v w/\v.oneCell'=true:=by
 unfold ox at h;split at h
 case h_24=>cases h
 case h_20|h_21 =>
  split at h
  ·rename_i c;simp only[cG,iU] at h;obtain⟨a,b⟩:=h;subst a b;simp[eqGuard,binOp,run_equal_bool c,Value.oneCell']
  ·cases h
 case h_22|h_23 =>
  split at h
  ·rename_i c;simp only[cG,iU] at h;obtain⟨a,b⟩:=h;subst a b;simp[eqGuard,binOp,wv c _ _ _ _ _ _ (.inr rfl),Value.oneCell']
  ·cases h
 case h_6|h_7=>simp only[cG,iU] at h;obtain⟨a,b⟩:=h;subst a b;simp[eqGuard,binOp,Op.shift,Value.oneCell'];omega
 case h_17=>simp only[cG,iU] at h;obtain⟨a,b⟩:=h;subst a b;simp[eqGuard,binOp,Op.stringOp,Value.oneCell',IntKind.max,IntKind.signed,IntKind.bits];omega
 case h_18|h_19=>simp only[cG,iU] at h;obtain⟨a,b⟩:=h;subst a b;simp[eqGuard,binOp,Op.stringOp,HO,Value.oneCell']
 all_goals
  split at h
  ·rename_i c;simp only[cG,iU] at h;obtain⟨a,b⟩:=h;subst a b c
   first
    |(simp[eqGuard,binOp,Op.intArith,Op.intBits,Op.intCmp,Value.oneCell'];done)
    |(simp[eqGuard,binOp,Op.intArith,Op.intDiv,e,Value.oneCell'];done)
    |(simp[eqGuard,binOp,Op.intCmp,Value.oneCell'];rfl)
  ·cases h
end Go.cv
namespace Go.cv
open Go.RowKit
variable{P:Program}{I:Mem}
inductive BK where
 |i|s|b
def Ek(P:Program)(t:TypeId):Option BK:=match P.underlying t with
 |some (.int _)=>some .i
 |some .string=>some .s
 |some .bool=>some .b
 |_=>none
def CI(P:Program)(g:TypeId->Option (List BK)):List Field->Nat->Option (List BK)
 | [],_=>some []
 |f :: a,k=>match g f.type with
  |some xs=>if (f.offset=k/\f.name ≠ "_")/\(P.info? f.type).map (·.size)=some xs.length then (match CI P g a (k+xs.length) with
   |some b=>some (xs++b)
   |none=>none) else none
  |none=>none
def AG(P:Program):Nat->TypeId->Option (List BK)
 |0,_=>none
 |d+1,t=>match P.underlying t with
  |some (.struct a)=>if P.stoodInHeld t=false then CI P (AG P d) a.toList 0 else none
  |_=>(Ek P t).map λx=>[x]
def vS(P:Program)(t:TypeId):Option (List BK):=match P.underlying t with
 |some (.struct _)=>if P.eqGuardType P.depth t=false then AG P 9 t else none
 |_=>none
def uP:BK->PV->PV->Option Bool
 | .i,.val (.int k a),.val (.int c b)=>if k=c then some (decide (a=b)) else none
 | .s,.val (.string a),.val (.string b)=>some (decide (a=b))
 | .b,.val (.bool a),.val (.bool b)=>some (a == b)
 |_,_,_=>none
def ga:List BK->List PV->List PV->Option Bool
 | [],[],[]=>some true
 |x :: b,c :: cs,d :: a=>(match uP x c d with
  |some p=>(match ga b cs a with
   |some r=>some (p&&r)
   |none=>none)
  |none=>none)
 |_,_,_=>none
theorem Nv{c d:PV}{p:Bool}(h:uP .i c d=some p):∃k a b,c = .val (.int k a)/\d = .val (.int k b)/\p=decide (a=b):=by
 unfold uP at h;split at h
 ·split at h
  ·rename_i e;subst e;exact⟨_,_,_,rfl,rfl,(Option.some.inj h).symm⟩
  ·cases h
 all_goals simp_all
theorem Nw{c d:PV}{p:Bool}(h:uP .s c d=some p):∃a b,c = .val (.string a)/\d = .val (.string b)/\p=decide (a=b):=by unfold uP at h;split at h<;>simp_all
theorem Nx{c d:PV}{p:Bool}(h:uP .b c d=some p):∃a b,c = .val (.bool a)/\d = .val (.bool b)/\p=(a == b):=by unfold uP at h;split at h<;>simp_all
theorem El{x:BK}{g:List BK}{cs a:List PV}{b:Bool}(h:ga (x :: g) cs a=some b):∃c e d f p r,cs=c :: e/\a=d :: f/\uP x c d=some p/\ga g e f=some r/\b=(p&&r):=by
 cases cs with
 |nil=>cases h
 |cons c cs =>
  cases a with
  |nil=>cases h
  |cons d a =>
   unfold ga at h;split at h
   ·rename_i p i;split at h
    ·rename_i r j;exact⟨c,cs,d,a,p,r,rfl,rfl,i,j,(Option.some.inj h).symm⟩
    ·cases h
   ·cases h
theorem HP:∀ (xs:List BK) {g:List BK} {cs a:List PV} {b:Bool},ga (xs++g) cs a=some b->(xs.length<=cs.length/\xs.length<=a.length)/\∃e f,ga xs (cs.take xs.length) (a.take xs.length)=some e/\ga g (cs.drop xs.length) (a.drop xs.length)=some f/\b=(e&&f)
 | [],_,_,_,b,h=>⟨by simp,true,b,by simp[ga],by simpa using h,by simp⟩
 |x :: xs,g,cs,a,b,h=>by obtain⟨c,cs,d,a,p,r,rfl,rfl,k,l,rfl⟩:=El h;obtain⟨⟨l1,l2⟩,e,f,i,j,rfl⟩:=HP xs l;exact⟨by simp;omega,p&&e,f,by simp[ga,k,i],j,by rw[Bool.and_assoc]⟩
theorem Em:∀ {e:List BK} {cs a:List PV} {b:Bool},ga e cs a=some b->cs.length=e.length/\a.length=e.length
 | [],cs,a,b,h=>by cases cs<;>cases a<;>first|exact⟨rfl,rfl⟩|cases h
 |x :: e,cs,a,b,h=>by obtain⟨c,cs,d,a,p,r,rfl,rfl,g,f,rfl⟩:=El h;have:=Em f;exact⟨by simp[this.1],by simp[this.2]⟩
def Vs(I:Mem)(us:List Value)(cs:List PV):Prop:=us.length=cs.length/\∀ (j:Nat) u c,us[j]? = some u->cs[j]? = some c->VR I u c
theorem Vs.cut{us:List Value}{cs:List PV}(h:Vs I us cs)(n:Nat):Vs I (us.take n) (cs.take n)/\Vs I (us.drop n) (cs.drop n) :=
 ⟨⟨by simp[h.1],λj u c a b=>by
  rw[List.getElem?_take] at a b;split at a
  ·rename_i d;rw[if_pos d] at b;exact h.2 j u c a b
  ·cases a⟩,⟨by simp[h.1],λj u c a b=>h.2 (n+j) u c (by simpa using a) (by simpa using b)⟩⟩
def pk(P:Program)(t:TypeId)(us:List Value):Value:=match P.underlying t with
 |some (.struct _)=>.agg us.toArray
 |_=>us.getD 0 undef
theorem HQ{d:Nat}{t:TypeId}{b:List BK}(h:AG P d t=some b)(c:(P.info? t).map (·.size)=some b.length){xs:List Value}{off:Nat}(hl:off+b.length<=xs.length)(w:World):(part t xs.toArray off).run P w = .ok (pk P t ((xs.drop off).take b.length)) w:=by
 cases d with
 |zero=>cases h
 |succ d =>
  obtain⟨i,c,g⟩:=Option.map_eq_some_iff.1 c;unfold AG at h;unfold pk;split at h
  ·rename_i a;simp[part,isAgg,run_underlying a,sizeOf,typeInfo,c,g,a]
  ·rename_i j;obtain⟨x,e,rfl⟩:=Option.map_eq_some_iff.1 h;have f:off<xs.length:=by simp at hl;omega
   unfold Ek at e;split at e<;>rename_i a<;>first|cases e;done|(simp[part,isAgg,run_underlying a,a,f,List.getElem?_take])
theorem run_eq{d:Nat} : ∀ {t:TypeId} {i:List BK} {cs g:List PV} {b:Bool} {us vs:List Value} (D:Nat) (w:World),AG P d t=some i->d<=D->ga i cs g=some b->Vs I us cs->Vs I vs g->(Op.equalIn D t (pk P t us) (pk P t vs)).run P w = .ok b w:=by
 induction d with
 |zero=>intro t i cs g b us vs D w h;cases h
 |succ d R =>
  intro t i cs g b us vs D w h hD l m o;obtain⟨D,rfl⟩:∃E,D=E+1:=⟨D-1,by omega⟩;unfold AG at h;split at h
  ·rename_i j n;split at h
   ·rename_i O;have G:P.fieldsOf t=j:=by unfold Program.fieldsOf;rw[n]
    simp only[pk,n];rw[run_equalIn_struct w D t _ _ (by rw[G];exact n) O,G];have T:∀ (j:List Field) (k:Nat) (i:List BK) (cs g:List PV) (b:Bool),CI P (AG P d) j k=some i->ga i cs g=some b->k<=us.length->k<=vs.length->Vs I (us.drop k) cs->Vs I (vs.drop k) g->(Op.eqFields D us.toArray vs.toArray j).run P w = .ok b w:=by
     intro j
     induction j with
     |nil=>intro k i cs g b h l _ _ _ _;cases h;obtain⟨l1,l2⟩:=Em l;cases cs<;>cases g<;>simp_all [ga,Op.eqFields]
     |cons f j S =>
      intro k i cs g b h l k1 k2 m o;unfold CI at h;split at h
      ·rename_i xs s;split at h
       ·rename_i A;split at h
        ·rename_i Z Q;cases h;obtain⟨⟨l1,l2⟩,H,J,y,K,rfl⟩:=HP xs l;have n1:=m.1;have U:=o.1;rw[List.length_drop] at n1 U;have V:=HQ s A.2 (xs:=us) (off:=k) (by omega) w;have W:=HQ s A.2 (xs:=vs) (off:=k) (by omega) w;have q:=R D w s (by omega) y (m.cut xs.length).1 (o.cut xs.length).1;have r:=S (k+xs.length) Z _ _ J Q K (by omega) (by omega) (by rw[<-List.drop_drop];exact (m.cut xs.length).2) (by rw[<-List.drop_drop];exact (o.cut xs.length).2);simp only[Op.eqFields,if_pos A.1.2,Sem.run_bind,A.1.1,V,W,Result.andThen_ok,q];cases H
         ·simp
         ·simpa using r
        ·cases h
       ·cases h
      ·cases h
    exact T j.toList 0 i cs g b h l (by omega) (by omega) m o
   ·cases h
  ·rename_i M;obtain⟨x,s,rfl⟩:=Option.map_eq_some_iff.1 h;obtain⟨l1,l2⟩:=Em l
   match cs,g,l1,l2 with
   | [c],[e],_,_ =>
    match us,vs,m.1,o.1 with
    | [u],[v],_,_ =>
     have C:=m.2 0 u c rfl rfl;have F:=o.2 0 v e rfl rfl;have y:∀z:Value,pk P t [z]=z:=λz=>by
      unfold pk;split
      ·rename_i L;exact absurd L (M _)
      ·rfl
     rw[y,y];obtain⟨c,_,e,_,p,r,X,Y,B,N,rfl⟩:=El l;cases X;cases Y;cases N;rw[Bool.and_true];unfold Ek at s;split at s<;>rename_i n<;>cases s
     ·obtain⟨k,a,b,rfl,rfl,rfl⟩:=Nv B;cases C;cases F;exact run_equalIn_int w D t _ _ _ _ n
     ·obtain⟨a,b,rfl,rfl,rfl⟩:=Nw B;cases C;cases F;rw[run_equalIn_string w D t _ _ n,HO]
     ·obtain⟨a,b,rfl,rfl,rfl⟩:=Nx B;cases C;cases F;exact run_equalIn_bool w D t _ _ n
theorem zl{t:TypeId}{d:List BK}{cs a:List PV}{b:Bool}(h:vS P t=some d)(f:ga d cs a=some b){us vs:List Value}(hl:us.length=cs.length)(g:vs.length=a.length)
  (i:∀ (j:Nat) u c,us[j]? = some u->cs[j]? = some c->VR I u c) (l:∀ (j:Nat) u c,vs[j]? = some u->a[j]? = some c->VR I u c) (w:World) :
  (Op.equalIn 10000 t (.agg us.toArray) (.agg vs.toArray)).run P w = .ok b w/\P.eqGuardType P.depth t=false:=by
 unfold vS at h;split at h
 ·rename_i m k;split at h
  ·rename_i e;have:=run_eq 10000 w h (by omega) f ⟨hl,i⟩ ⟨g,l⟩;simp only[pk,k] at this;exact⟨this,e⟩
  ·cases h
 ·cases h
end Go.cv
namespace Go.cv
open Go.RowKit
variable{P:Program}{I:Mem}{L:bB}
theorem VR.eT{u v:Value}(h:VR I u (.val v)):u=v/\v.oneCell'=true:=by cases h;exact⟨rfl,by assumption⟩
theorem eP.eT{u v:Value}(h:eP I L u (.p (.val v))):u=v/\v.oneCell'=true:=h.oz.eT
theorem VR.HR{u:Value}{es:List (List PV)}(h:VR I u (.aV es))(e:es≠[]):∃a n c,u = .slice (some a) n c:=by
 cases h with
 |aV b n cap _ us sz d k hl l j i f g =>
  cases b with
  |none=>have:=(f rfl).1;exact absurd (List.length_eq_zero_iff.1 (d.trans this)) e
  |some a=>exact⟨a,n,cap,rfl⟩
def isSlice(P:Program)(t:TypeId):Bool:=match P.underlying t with|some (.slice _)=>true|_=>false
def oC(P:Program)(c:BinOp)(t:TypeId)(a b:AV):Option (Prop×AV):=match a,b with
 | .p (.val x),.p (.val y)=>match ox P c t x y with
  |some (pre,v)=>some (pre,.p (.val v))
  |none=>none
 | .p (.aV es),.p (.val (.slice none 0 0))=>match c,isSlice P t with
  | .eql,true=>some (es≠[],.p (.val (.bool false)))
  | .neq,true=>some (es≠[],.p (.val (.bool true)))
  |_,_=>none
 | .p (.agg cs),.p (.agg d)=>match vS P t with
  |some e=>match c,ga e cs d with
   | .eql,some b=>some (True,.p (.val (.bool b)))
   | .neq,some b=>some (True,.p (.val (.bool !b)))
   |_,_=>none
  |none=>none
 |_,_=>none
theorem Ny{z:BinOp}{t:TypeId}{a b v:AV}{pre:Prop}(h:oC P z t a b=some (pre,v))(q:pre){x y:Value}(j:eP I L x a)(k:eP I L y b)(w:World)(l m:Operand) :
  ∃r,(do eqGuard z t l m x y;binOp z t x y:Sem Value).run P w = .ok r w/\eP I L r v:=by
 unfold oC at h;split at h
 ·split at h
  ·rename_i g;simp only[cG,iU] at h;obtain⟨d,f⟩:=h;subst d f;obtain⟨rfl,_⟩:=j.eT;obtain⟨rfl,_⟩:=k.eT;obtain⟨J,d⟩:=Nu g q w l m;exact⟨_,J,.p _ _ (.val _ d)⟩
  ·cases h
 ·rename_i es;have E:∀ {t},isSlice P t=true->∃e,P.underlying t=some (.slice e):=λ{t} h=>by
   unfold isSlice at h;split at h
   ·rename_i e i;exact⟨e,i⟩
   ·cases h
  split at h
  ·rename_i s;simp only[cG,iU] at h;obtain⟨d,f⟩:=h;subst d f;obtain⟨e,i⟩:=E s;obtain⟨G,n,c,rfl⟩:=j.oz.HR q;obtain⟨rfl,_⟩:=k.eT;exact⟨.bool false,by simp[eqGuard,binOp,wv i _ _ _ _ _ _ (.inr rfl)],.p _ _ (.val _ rfl)⟩
  ·rename_i s;simp only[cG,iU] at h;obtain⟨d,f⟩:=h;subst d f;obtain⟨e,i⟩:=E s;obtain⟨G,n,c,rfl⟩:=j.oz.HR q;obtain⟨rfl,_⟩:=k.eT;exact⟨.bool true,by simp[eqGuard,binOp,wv i _ _ _ _ _ _ (.inr rfl)],.p _ _ (.val _ rfl)⟩
  ·cases h
 ·rename_i cs K;split at h
  ·rename_i M D;split at h
   ·rename_i b g;simp only[cG,iU] at h;obtain⟨d,f⟩:=h;subst d f;cases j.oz with
    |agg us _ hl u H =>
     cases k.oz with
     |agg vs _ o C F=>obtain⟨A,B⟩:=zl D g hl o u C w;refine⟨.bool b,?_,.p _ _ (.val _ rfl)⟩;rw[Sem.run_bind,run_eqGuard_agg w .eql t l m _ _ B,Result.andThen_ok,run_eql_struct,A];rfl
   ·rename_i b g;simp only[cG,iU] at h;obtain⟨d,f⟩:=h;subst d f;cases j.oz with
    |agg us _ hl u H =>
     cases k.oz with
     |agg vs _ o C F=>obtain⟨A,B⟩:=zl D g hl o u C w;refine⟨.bool !b,?_,.p _ _ (.val _ rfl)⟩;rw[Sem.run_bind,run_eqGuard_agg w .neq t l m _ _ B,Result.andThen_ok,run_neq_struct,A];rfl
   ·cases h
  ·cases h
 ·cases h
def A9(c:UnOp)(a:AV):Option (Prop×AV):=match c,a with
 | .not,.p (.val (.bool b))=>some (True,.p (.val (.bool !b)))
 | .neg,.p (.val (.int k n))=>some (True,.p (.val (.int k (k.wrap (0-n)))))
 |_,_=>none
theorem Nz{b:UnOp}{a v:AV}{pre:Prop}(h:A9 b a=some (pre,v)){x:Value}(d:eP I L x a)(w:World) :
    ∃r,(Op.unary b x).run P w = .ok r w/\eP I L r v:=by
  unfold A9 at h;split at h<;>first
    |(cases h;done)
    | (simp only [cG, iU] at h
       obtain⟨_,c⟩:=h;subst c;obtain⟨rfl,_⟩:=d.eT;exact⟨_,by simp[Op.unary,Op.intArith],.p _ _ (.val _ rfl)⟩)
def AH(P:Program)(s d:TypeId)(a:AV):Option (Prop×AV):=match (P.underlying s).isSome,a with
 |true,.p (.val (.int _ n))=>match BI P d with
  |some k=>some (True,.p (.val (.int k (k.wrap n))))
  |none=>none
 |true,.p (.val (.string x))=>match zj P d with
  |true=>some (True,.p (.val (.string x)))
  |false=>none
 |_,_=>none
theorem NA{s d:TypeId}{a v:AV}{pre:Prop}(h:AH P s d a=some (pre,v)){x:Value}(i:eP I L x a)(w:World) :
  ∃r,(convert s d x).run P w = .ok r w/\eP I L r v:=by
 unfold AH at h;split at h
 ·rename_i l n g;obtain⟨j,e⟩:=Option.isSome_iff_exists.1 g;unfold BI at h;split at h
  ·rename_i k f;simp only[cG,iU] at h;obtain⟨_,b⟩:=h;subst b;obtain⟨rfl,_⟩:=i.eT;have c:P.underlying d=some (.int k):=by split at f<;>simp_all
   refine⟨_,?_,.p _ _ (.val _ rfl)⟩;simp[convert,run_underlying e,run_underlying c,Conv.intToInt]
  ·cases h
 ·rename_i x0 g;obtain⟨j,e⟩:=Option.isSome_iff_exists.1 g;unfold zj at h;split at h
  ·rename_i f;simp only[cG,iU] at h;obtain⟨_,b⟩:=h;subst b;obtain⟨rfl,_⟩:=i.eT;have c:P.underlying d=some .string:=by split at f<;>simp_all
   refine⟨_,?_,.p _ _ (.val _ rfl)⟩;simp[convert,run_underlying e,run_underlying c]
  ·cases h
 ·cases h
def Ba(c a b:AV):Option (Prop×AV):=match c with
 | .p (.val (.bool true))=>some (True,a)
 | .p (.val (.bool false))=>some (True,b)
 |_=>none
def uW(a:AV)(k:Nat):Option (Prop×AV):=match a with
 | .p (.dY vs)=>match vs[k]? with|some x=>some (True,.p x)|none=>none
 | .dY vs=>match vs[k]? with|some x=>some (True,x)|none=>none
 |_=>none
theorem NB{a v:AV}{k:Nat}{pre:Prop}(h:uW a k=some (pre,v)){x:Value}(f:eP I L x a)(w:World) :
  ∃r,(Instr.extract x k).run P w = .ok r w/\eP I L r v:=by
 unfold uW at h;split at h
 ·rename_i vs;split at h
  ·rename_i y b;simp only[cG,iU] at h;obtain⟨_,c⟩:=h;subst c;cases f.oz with
   |dY us _ hl e =>
    have d:k<us.length:=by rw[hl];exact (List.getElem?_eq_some_iff.1 b).1
    refine⟨us[k],?_,.p _ _ (e k _ _ (by simp) b)⟩;simp[Instr.extract,d]
  ·cases h
 ·rename_i vs;split at h
  ·rename_i y b;simp only[cG,iU] at h;obtain⟨_,c⟩:=h;subst c;cases f with
   |dY us _ hl e =>
    have d:k<us.length:=by rw[hl];exact (List.getElem?_eq_some_iff.1 b).1
    refine⟨us[k],?_,e k _ _ (by simp) b⟩;simp[Instr.extract,d]
  ·cases h
 ·cases h
def CJ(P:Program)(t:TypeId)(a:AV):Option (Prop×AV):=match a with
 | .p (.eF cs off)=>match td P t cs off with|some x=>some (True,.p x)|none=>none
 |_=>none
theorem NC{t:TypeId}{a v:AV}{pre:Prop}(h:CJ P t a=some (pre,v)){x:Value}(l:eP I L x a){w:World}(hw:I.en w) :
  ∃r,(Instr.loadAt t x).run P w = .ok r w/\eP I L r v:=by
 unfold CJ at h;split at h
 ·rename_i cs off;split at h
  ·rename_i y m;simp only[cG,iU] at h;obtain⟨_,c⟩:=h;subst c;cases l.oz with
   |eF b base _ us _ hl k f e =>
    obtain⟨u,g,i⟩:=HN (I:=I) (w:=w) (b:=b) (base:=base) m hl k f λj u d=>hw _ _ _ (e j u d)
    exact⟨u,by simp[Instr.loadAt,Instr.sureAddr,g],.p _ _ i⟩
  ·cases h
 ·cases h
def CK(P:Program)(s:TypeId)(a:AV)(k:Nat):Option (Prop×AV):=match bM P s k with
 |some (o,n)=>match a with
  | .p (.eF cs off)=>some (n≠0,.p (.eF cs (off+o)))
  | .ptr id off=>some (n≠0,.ptr id (off+o))
  |_=>none
 |none=>none
theorem ND{s:TypeId}{k o n:Nat}(h:bM P s k=some (o,n)):∃a f i,P.underlying s=some (.struct a)/\a[k]? = some f/\P.info? f.type=some i/\i.size=n/\f.offset=o:=by
 unfold bM at h;split at h
 ·rename_i a d;cases b:a[k]? with
  |none=>simp[b] at h
  |some f =>
   cases c:P.info? f.type with
   |none=>simp[b,bu,c] at h
   |some i=>simp[b,bu,c] at h;exact⟨a,f,i,d,b,c,h.2,h.1⟩
 ·cases h
theorem vT{s:TypeId}{k o n:Nat}(h:bM P s k=some (o,n))(l:n≠0)(w:World)(b off:Nat) :
  (Instr.fieldAt s (.pointer (some ⟨b,off,none⟩)) k).run P w = .ok (.pointer (some ⟨b,off+o,none⟩)) w:=by
 obtain⟨p,f,i,d,a,e,g,j⟩:=ND h;have m:i.size≠0:=by rw[g];exact l
 have c:=(Array.getElem?_eq_some_iff.1 a);obtain⟨c,q⟩:=c;simp[Instr.fieldAt,run_underlying d,a,Instr.sureAddr,fieldPlace,sizeOf,typeInfo,e,m,Addr.add_mid,j]
theorem NF{s:TypeId}{k:Nat}{a v:AV}{pre:Prop}(h:CK P s a k=some (pre,v))(f:pre){x:Value}(g:eP I L x a)(w:World) :
  ∃r,(Instr.fieldAt s x k).run P w = .ok r w/\eP I L r v:=by
 unfold CK at h;split at h
 ·rename_i o n e;split at h
  ·simp only[cG,iU] at h;obtain⟨c,d⟩:=h;subst c d;cases g.oz with
   |eF b base _ us _ hl l j i=>refine⟨_,vT e f w _ _,.p _ _ ?_⟩;rw[Nat.add_assoc];exact .eF b base _ us _ hl l j i
  ·simp only[cG,iU] at h;obtain⟨c,d⟩:=h;subst c d;cases g with
   |ptr id b off hl=>exact⟨_,vT e f w _ _,.ptr _ _ _ hl⟩
  ·cases h
 ·cases h
def pK(P:Program)(t:TypeId)(a i:AV):Option (Prop×AV):=match i with
 | .p (.val (.int _ n))=>match a with
  | .p (.aV es)=>match cT P t with
   |some e=>match bu P e with
    |some sz=>some ((0<=n/\n<es.length)/\(es.getD n.toNat []).length=sz/\0<sz,.p (.eF (es.getD n.toNat []) 0))
    |none=>none
   |none=>none
  | .p (.eF cs off)=>match wQ P t with
   |some (len,e)=>match bu P e with
    |some sz=>some (0<=n/\n<len,.p (.eF cs (off+n.toNat * sz)))
    |none=>none
   |none=>none
  | .ptr id off=>match wQ P t with
   |some (len,e)=>match bu P e with
    |some sz=>some (0<=n/\n<len,.ptr id (off+n.toNat * sz))
    |none=>none
   |none=>none
  |_=>none
 |_=>none
theorem fP{t e:TypeId}(h:cT P t=some e):P.underlying t=some (.slice e):=by unfold cT at h;split at h<;>simp_all
theorem En{t e:TypeId}{n:Nat}(h:wQ P t=some (n,e)):P.underlying t=some (.array n e):=by unfold wQ at h;split at h<;>simp_all
theorem NG{t:TypeId}{n:Nat}(h:bu P t=some n):∃i,P.info? t=some i/\i.size=n:=by
 unfold bu at h;cases a:P.info? t with
 |none=>simp[a] at h
 |some i=>exact⟨i,rfl,by simpa[a] using h⟩
theorem dX{t:TypeId}{n:Nat}(h:bu P t=some n)(w:World):(sizeOf t).run P w = .ok n w:=by obtain⟨i,a,b⟩:=NG h;simp[sizeOf,typeInfo,a,b]
theorem iH{α:Type}{sz:Nat} : ∀ {es:List (List α)} (_:∀e∈es,e.length=sz) (i j:Nat) (_:i<es.length) (_:j<sz),es.flatten[i * sz+j]? = (es.getD i [])[j]?
 | [],_,i,j,a,_=>by simp at a
 |e :: es,h,0,j,_,c=>by have b:=h e (by simp);simp only[List.flatten_cons,Nat.zero_mul,Nat.zero_add];rw[List.getElem?_append_left (by omega)];rfl
 |e :: es,h,i+1,j,a,c=>by
  have b:=h e (by simp);simp only[List.flatten_cons];have:(i+1) * sz+j=e.length+(i * sz+j):=by rw[b,Nat.add_mul];omega
  rw[this,List.getElem?_append_right (by omega)];have d:e.length+(i * sz+j)-e.length=i * sz+j:=by omega
  rw[d,iH (λx f=>h x (by simp[f])) i j (by simpa using a) c];rfl
theorem bG{α:Type}{sz:Nat} : ∀ {es:List (List α)} (_:∀e∈es,e.length=sz),es.flatten.length=es.length * sz
 | [],_=>by simp
 |e :: es,h=>by have a:=h e (by simp);rw[List.flatten_cons,List.length_append,bG (λx b=>h x (by simp[b])),a,List.length_cons,Nat.add_mul];omega
theorem VR.elem{u:Value}{es:List (List PV)}(h:VR I u (.aV es)){n:Nat}(d:n<es.length)(z:0<(es.getD n []).length) :
  ∃b off len cap sz,u = .slice (some ⟨b,off,none⟩) len cap/\len=es.length/\(es.getD n []).length=sz/\∃us:List Value,us.length=sz /\
   (∀ (j:Nat) u c,us[j]? = some u->(es.getD n [])[j]? = some c->VR I u c)/\(∀u∈us,u.oneCell'=true)/\∀ (j:Nat) u,us[j]? = some u->I b (off+n * sz+j)=some u:=by
 cases h with
 |aV r len cap _ us sz k e hl q o l y v =>
  have m:es.getD n []∈es:=by
   have:es.getD n []=es[n]:=by simp[d]
   rw[this];exact l8 _
  have p:(es.getD n []).length=sz:=e _ m;have w:=bG e;have x:(n+1) * sz<=es.length * sz:=Nat.mul_le_mul_right _ d;have s:(n+1) * sz=n * sz+sz:=by rw[Nat.add_mul];omega
  rcases l with rfl|⟨b,off,rfl,f⟩
  ·have t:es.flatten.length=0:=by rw[<-hl];rfl
   omega
  ·refine⟨b,off,len,cap,sz,rfl,k.symm,p,(us.drop (n * sz)).take sz,by simp;omega,?_,?_,?_⟩
   ·intro j u c a g;rw[List.getElem?_take] at a;split at a
    ·rename_i i;rw[List.getElem?_drop] at a;exact q _ u c a (by rw[iH e n j d i];exact g)
    ·cases a
   ·intro u a;exact o u (List.mem_of_mem_drop (List.mem_of_mem_take a))
   ·intro j u a;rw[List.getElem?_take] at a;split at a
    ·rw[List.getElem?_drop] at a;have:=f _ u a;rw[Nat.add_assoc];exact this
    ·cases a
theorem VR.HS{u:Value}{es:List (List PV)}(h:VR I u (.aV es)):∃a cap,u = .slice a es.length cap/\es.length<=cap:=by
 cases h with
 |aV a len cap _ us sz b g hl i f d e c=>exact⟨a,cap,by rw[b],by omega⟩
theorem NH{t:TypeId}{a i v:AV}{pre:Prop}(h:pK P t a i=some (pre,v))(q:pre){x y:Value}(s:eP I L x a)(H:eP I L y i)(w:World) :
  ∃r,(Instr.indexAt t x y).run P w = .ok r w/\eP I L r v:=by
 unfold pK at h;split at h
 ·rename_i k n;obtain⟨rfl,_⟩:=H.eT;split at h
  ·rename_i es;split at h
   ·rename_i e j;split at h
    ·rename_i sz l;simp only[cG,iU] at h;obtain⟨f,g⟩:=h;subst f g;obtain⟨⟨d,o⟩,A,K⟩:=q;obtain⟨m,rfl⟩:=Int.eq_ofNat_of_zero_le d;simp only[Int.toNat_natCast] at A ⊢;have c:m<es.length:=by omega
     obtain⟨b,off,len,cap,u,rfl,rfl,M,us,N,D,E,F⟩:=s.oz.elem c (by omega);have z:u=sz:=by omega
     subst z;refine⟨.pointer (some ⟨b,off+m * u,none⟩),?_,.p _ _ ?_⟩
     ·have J:(m:Int)<es.length:=o;simp[Instr.indexAt,asIntOf,run_underlying (fP j),dX l,Addr.add_mid,c]
     ·have:=VR.eF (I:=I) b (off+m * u) (es.getD m []) us 0 (by omega) D E F;simpa using this
    ·cases h
   ·cases h
  ·rename_i cs off;split at h
   ·rename_i len e j;split at h
    ·rename_i sz l;simp only[cG,iU] at h;obtain⟨f,g⟩:=h;subst f g;obtain⟨d,o⟩:=q;obtain⟨m,rfl⟩:=Int.eq_ofNat_of_zero_le d;have c:m<len:=by omega
     cases s.oz with
     |eF b base _ us _ hl G C B=>refine⟨.pointer (some ⟨b,base+(off+m * sz),none⟩),?_,.p _ _ (.eF b base _ us _ hl G C B)⟩;simp[Instr.indexAt,asIntOf,run_underlying (En j),Instr.sureAddr,dX l,Addr.add_mid,c,Nat.add_assoc]
    ·cases h
   ·cases h
  ·rename_i id off;split at h
   ·rename_i len e j;split at h
    ·rename_i sz l;simp only[cG,iU] at h;obtain⟨f,g⟩:=h;subst f g;obtain⟨d,o⟩:=q;obtain⟨m,rfl⟩:=Int.eq_ofNat_of_zero_le d;have c:m<len:=by omega
     cases s with
     |ptr id b off hl=>refine⟨.pointer (some ⟨b,off+m * sz,none⟩),?_,.ptr _ _ _ hl⟩;simp[Instr.indexAt,asIntOf,run_underlying (En j),Instr.sureAddr,dX l,Addr.add_mid,c]
    ·cases h
   ·cases h
  ·cases h
 ·cases h
end Go.cv
namespace Go.cv
open Go.RowKit
variable{P:Program}{I:Mem}{L:bB}
def mb(s:ByteArray)(n:Nat):Int:=((s.data.toList.getD n 0).toNat:Int)
def AI(P:Program)(t:TypeId)(a i:AV):Option (Prop×AV):=match i with
 | .p (.val (.int _ n))=>match a with
  | .p (.val (.string s))=>match zj P t with
   |true=>some (0<=n/\n<s.size,.p (.val (.int .u8 (mb s n.toNat))))
   |false=>none
  | .p (.agg cs)=>match wQ P t with
   |some (len,e)=>match gd P e,bu P e,cs[n.toNat]? with
    |some false,some 1,some x=>some (0<=n/\n<len,.p x)
    |_,_,_=>none
   |none=>none
  |_=>none
 |_=>none
theorem Eo{t:TypeId}(h:zj P t=true):P.underlying t=some .string:=by unfold zj at h;split at h<;>simp_all
theorem NI{t:TypeId}{a i v:AV}{pre:Prop}(h:AI P t a i=some (pre,v))(o:pre){x y:Value}(q:eP I L x a)(H:eP I L y i)(w:World) :
  ∃r,(Instr.index t x y).run P w = .ok r w/\eP I L r v:=by
 unfold AI at h;split at h
 ·rename_i k n;obtain⟨rfl,_⟩:=H.eT;split at h
  ·rename_i s;split at h
   ·rename_i D;simp only[cG,iU] at h;obtain⟨f,g⟩:=h;subst f g;obtain⟨rfl,_⟩:=q.eT;obtain⟨c,A⟩:=o;obtain⟨m,rfl⟩:=Int.eq_ofNat_of_zero_le c;have b:m<s.size:=by omega
    refine⟨_,?_,.p _ _ (.val _ rfl)⟩;have J:s[m]? = some s[m]:=by simp[b]
    have l:(s.data.toList.getD m 0)=s[m]:=by
     have C:m<s.data.toList.length:=by simpa using b
     rw[List.getD_eq_getElem?_getD,List.getElem?_eq_getElem C];rfl
    simp only[mb,Int.toNat_natCast,l];simp[Instr.index,asIntOf,run_underlying (Eo D),b]
   ·cases h
  ·rename_i cs;split at h
   ·rename_i len e z;split at h
    ·rename_i N l E j;simp only[cG,iU] at h;obtain⟨f,g⟩:=h;subst f g;obtain⟨c,A⟩:=o;obtain⟨m,rfl⟩:=Int.eq_ofNat_of_zero_le c;simp only[Int.toNat_natCast] at j;have b:m<len:=by omega
     obtain⟨d,F,K⟩:=Eh l;cases q.oz with
     |agg us _ hl G M =>
      have B:m<us.length:=by rw[hl];exact (List.getElem?_eq_some_iff.1 j).1
      refine⟨us[m],?_,.p _ _ (G m _ _ (by simp) j)⟩;have u:(isAgg e).run P w = .ok false w:=by unfold isAgg;rw[Sem.run_bind,run_underlying F w];cases d<;>simp_all
      simp[Instr.index,asIntOf,run_underlying (En z),dX E,b,part,u,B]
    ·cases h
   ·cases h
  ·cases h
 ·cases h
def BJ(a:Fn)(b cs:List AV):AV:=match uj b,uj cs with
 |some f,some c=>.p (.iT a f c)
 |_,_=>.iT a b cs
theorem CL{us:List Value}{a:List PV}(e:∀ (j:Nat) u c,us[j]? = some u->(a.map AV.p)[j]? = some c->eP I L u c) :
  ∀ (j:Nat) u c,us[j]? = some u->a[j]? = some c->VR I u c:=λj u c d b =>
 (e j u (.p c) d (by rw[List.getElem?_map,b];rfl)).oz
theorem NJ{a:Fn}{us vs:List Value}{b cs:List AV}(hl:us.length=b.length)(d:vs.length=cs.length)
  (e:∀ (j:Nat) u c,us[j]? = some u->b[j]? = some c->eP I L u c) (g:∀ (j:Nat) u c,vs[j]? = some u->cs[j]? = some c->eP I L u c) :
  eP I L (.func a us.toArray vs.toArray) (BJ a b cs):=by
 unfold BJ;split
 ·rename_i f c l k;have h:=uG l;have i:=uG k;subst h i;exact .p _ _ (.iT a us vs f c (by simpa using hl) (by simpa using d) (CL e) (CL g))
 ·exact .iT a us vs b cs hl d e g
def Bb(a:AV):Option (Prop×AV):=match a with
 | .ptr id off=>some (True,.ptr id off)
 | .p (.eF cs off)=>some (True,.p (.eF cs off))
 | .p (.iT (.func f) b cs)=>some (True,.p (.iT (.func f) b cs))
 | .iT (.func f) b cs=>some (True,.iT (.func f) b cs)
 |_=>none
def gE(d:Int):Option AV->Option Int
 |none=>some d
 |some (.p (.val (.int _ n)))=>some n
 |_=>none
def slice3(P:Program)(t:TypeId)(a:AV)(lo b:Option AV)(m:AV):Option (Prop×AV):=match a,b,m with
 | .p (.aV es), some (.p (.val (.int _ h))), .p (.val (.int _ m)) => match cT P t, gE 0 lo with
   |some e,some l=>match bu P e with
    |some sz=>some ((0<=l/\l<=h/\h<=m/\m<=es.length)/\∀x∈es,x.length=sz,.p (.aV ((es.take h.toNat).drop l.toNat)))
    |none=>none
   |_,_=>none
 |_,_,_=>none
def tF(P:Program)(t:TypeId)(a:AV)(lo b d:Option AV):Option (Prop×AV):=match d with
 |some m=>slice3 P t a lo b m
 |none=>match a with
  | .p (.val (.string s))=>match zj P t,gE 0 lo,gE s.size b with
   |true,some l,some h=>some (0<=l/\l<=h/\h<=s.size,.p (.val (.string (s.extract l.toNat h.toNat))))
   |_,_,_=>none
  | .p (.aV es)=>match cT P t,gE 0 lo,gE es.length b with
   |some e,some l,some h=>match bu P e with
    |some sz=>some ((0<=l/\l<=h/\h<=es.length)/\∀x∈es,x.length=sz,.p (.aV ((es.take h.toNat).drop l.toNat)))
    |none=>none
   |_,_,_=>none
  | .iV id c off n m sz=>match cT P t,gE 0 lo,gE n b with
   |some e,some l,some h=>match bu P e with
    |some f=>some ((0<=l/\l<=h/\h<=m)/\f=sz,.iV id c (off+l.toNat) (h.toNat-l.toNat) (m-l.toNat) sz)
    |none=>none
   |_,_,_=>none
  |_=>none
def BL(I:Mem)(L:bB):Option Value->Option AV->Prop
 |none,none=>True
 |some u,some v=>eP I L u v
 |_,_=>False
theorem xJ{d y:Int}{a:Option AV}{x:Option Value}(h:gE d a=some y)(c:BL I L x a) :
  (x=none/\y=d)\/(∃k,x=some (.int k y)):=by
 cases a with
 |none =>
  cases x with
  |none=>simp[gE] at h;exact .inl ⟨rfl,h.symm⟩
  |some u=>exact c.elim
 |some v =>
  cases x with
  |none=>exact c.elim
  |some u =>
   unfold gE at h;split at h
   ·rename_i b;cases b
   ·rename_i k n b;cases b;simp at h;subst h;exact .inr ⟨k,by rw[(eP.eT c).1]⟩
   ·cases h
theorem run_sliceBound{k:IntKind}{i:Int}{y:Nat}{c:BoundsCode}(a:0<=i)(h:i<=y)(w:World):(Instr.sliceBound (.int k i) y c).run P w = .ok i.toNat w:=by simp[Instr.sliceBound,asIntOf,a,h]
theorem tG{s8:Bool}{len cap:Nat}{lo a:Option Value}{l h:Int}(f:(lo=none/\l=0)\/∃k,lo=some (.int k l))(e:(a=none/\h=len)\/∃k,a=some (.int k h))
  (b:0<=l) (g:l<=h) (c:h<=cap) (w:World):(Instr.sliceBounds s8 len cap lo a none).run P w = .ok (l.toNat,h.toNat,cap) w:=by
 have hl:l<=(h.toNat:Int):=by omega
 have d:0<=h:=by omega
 rcases f with ⟨rfl,rfl⟩|⟨k,rfl⟩<;>rcases e with ⟨rfl,rfl⟩|⟨i,rfl⟩
 ·simp[Instr.sliceBounds]
 ·simp[Instr.sliceBounds,run_sliceBound (P:=P) d c]
 ·simp only[Int.toNat_natCast] at hl;simp[Instr.sliceBounds,run_sliceBound (P:=P) b hl]
 ·simp[Instr.sliceBounds,run_sliceBound (P:=P) b hl,run_sliceBound (P:=P) d c]
theorem HT{α:Type}{sz:Nat} : ∀ {es:List (List α)} (_:∀e∈es,e.length=sz) (k:Nat),(es.take k).flatten=es.flatten.take (k * sz)
 | [],_,k=>by simp
 |e :: es,_,0=>by simp
 |e :: es,h,k+1=>by
  have a:=h e (by simp);have b:(k+1) * sz=e.length+k * sz:=by rw[a,Nat.add_mul];omega
  rw[List.take_succ_cons,List.flatten_cons,List.flatten_cons,HT (λx c=>h x (by simp[c])) k,b,List.take_length_add_append]
theorem HU{α:Type}{sz:Nat} : ∀ {es:List (List α)} (_:∀e∈es,e.length=sz) (k:Nat),(es.drop k).flatten=es.flatten.drop (k * sz)
 | [],_,k=>by simp
 |e :: es,_,0=>by simp
 |e :: es,h,k+1=>by
  have a:=h e (by simp);have b:(k+1) * sz=e.length+k * sz:=by rw[a,Nat.add_mul];omega
  rw[List.drop_succ_cons,List.flatten_cons,HU (λx c=>h x (by simp[c])) k,b,List.drop_length_add_append]
theorem VR.HV{u:Value}{es:List (List PV)}(h:VR I u (.aV es)){sz l k:Nat}(i:∀e∈es,e.length=sz)(D:l<=k)(B:k<=es.length) :
  ∃d cap,u = .slice d es.length cap/\es.length<=cap/\∀m,k<=m->m<=cap->VR I (.slice (if m=l then d else d.map (·.add (l * sz))) (k-l) (m-l)) (.aV ((es.take k).drop l)):=by
 cases h with
 |aV d n cap _ us F v z hl y x s w A =>
  refine⟨d,cap,by rw[v],by omega,λm C E=>?_⟩;have r:((es.take k).drop l).length=k-l:=by simp;omega
  have t:∀e∈(es.take k).drop l,e.length=sz:=λe g=>i e (List.mem_of_mem_take (List.mem_of_mem_drop g))
  have o:((es.take k).drop l).flatten=(es.flatten.take (k * sz)).drop (l * sz):=by rw[HU (λe g=>i e (List.mem_of_mem_take g)),HT i]
  refine .aV _ _ _ _ ((us.take (k * sz)).drop (l * sz)) sz r t ?_ ?_ ?_ ?_ ?_ ?_
  ·rw[o,List.length_drop,List.length_take,List.length_drop,List.length_take,hl]
  ·intro j u c a f;rw[o] at f;rw[List.getElem?_drop,List.getElem?_take] at a f;split at a
   ·rename_i q;rw[if_pos q] at f;exact y _ u c a f
   ·cases a
  ·intro u a;exact x u (List.mem_of_mem_take (List.mem_of_mem_drop a))
  ·rcases s with rfl|⟨b,off,rfl,p⟩
   ·left;simp
   ·by_cases f:m=l
    ·left;have:k=l:=by omega
     subst this;simp
    ·right;refine⟨b,off+l * sz,by simp[f,Addr.add_mid],λj u a=>?_⟩;rw[List.getElem?_drop,List.getElem?_take] at a;split at a
     ·have:=p _ u a;rw[Nat.add_assoc];exact this
     ·cases a
  ·intro h;have:d=none:=by
    split at h
    ·exact h
    ·simpa using h
   have:=w this;omega
  ·omega
theorem VR.part{u:Value}{es:List (List PV)}(h:VR I u (.aV es)){sz l k:Nat}(i:∀e∈es,e.length=sz)(g:l<=k)(f:k<=es.length) :
  ∃a cap,u = .slice a es.length cap/\es.length<=cap/\VR I (.slice (if cap=l then a else a.map (·.add (l * sz))) (k-l) (cap-l)) (.aV ((es.take k).drop l)):=by
 obtain⟨a,cap,b,c,d⟩:=h.HV i g f;exact⟨a,cap,b,c,d cap (by omega) (Nat.le_refl _)⟩
theorem wR{s8:Bool}{len cap:Nat}{lo:Option Value}{l h m:Int}{k g:IntKind}(f:(lo=none/\l=0)\/∃k,lo=some (.int k l))
  (e:0<=l) (i:l<=h) (j:h<=m) (a:m<=cap) (w:World):(Instr.sliceBounds s8 len cap lo (some (.int k h)) (some (.int g m))).run P w = .ok (l.toNat,h.toNat,m.toNat) w:=by
 have hl:l<=(h.toNat:Int):=by omega
 have b:0<=h:=by omega
 have d:0<=m:=by omega
 have c:h<=(m.toNat:Int):=by omega
 rcases f with ⟨rfl,rfl⟩|⟨k,rfl⟩
 ·simp[Instr.sliceBounds,run_sliceBound (P:=P) d a,run_sliceBound (P:=P) b c]
 ·simp[Instr.sliceBounds,run_sliceBound (P:=P) d a,run_sliceBound (P:=P) b c,run_sliceBound (P:=P) e hl]
theorem NK{t:TypeId}{a v:AV}{lo N H:Option AV}{pre:Prop}(h:tF P t a lo N H=some (pre,v))(A:pre){x:Value}{T J C:Option Value}(B:eP I L x a)
  (z:BL I L T lo) (j:BL I L J N) (E:BL I L C H) (w:World) :
  ∃r,(Instr.sliceAt t x T J C).run P w = .ok r w/\eP I L r v:=by
 unfold tF at h;cases H with
 |some m =>
  dsimp only at h;unfold slice3 at h;split at h
  ·rename_i es kh k km G;split at h
   ·rename_i e l i hl;split at h
    ·rename_i sz q;simp only[cG,iU] at h;obtain⟨b,d⟩:=h;subst b d;obtain⟨⟨f,b,d,y⟩,D⟩:=A;cases C with
     |none=>exact E.elim
     |some um =>
     cases J with
     |none=>exact j.elim
     |some uh =>
     have em:um = .int km G:=(eP.eT E).1;have W:uh = .int kh k:=(eP.eT j).1;subst em W;obtain⟨u,cap,rfl,Y,F⟩:=B.oz.HV (l:=l.toNat) (k:=k.toNat) D (by omega) (by omega);refine⟨_,?_,.p _ _ (F G.toNat (by omega) (by omega))⟩;have X:G<=(cap:Int):=by omega
     simp[Instr.sliceAt,Instr.slice,run_underlying (fP i),wR (P:=P) (s8:=true) (xJ hl z) f b d X,dX q]
    ·cases h
   ·cases h
  ·cases h
 |none =>
  cases C with
  |some _=>exact E.elim
  |none =>
  dsimp only at h;split at h
  ·rename_i s;split at h
   ·rename_i l k hs hl o;simp only[cG,iU] at h;obtain⟨b,d⟩:=h;subst b d;obtain⟨rfl,_⟩:=B.eT;obtain⟨f,b,d⟩:=A;refine⟨_,?_,.p _ _ (.val _ rfl)⟩;simp[Instr.sliceAt,Instr.slice,run_underlying (Eo hs),tG (P:=P) (s8:=false) (xJ hl z) (xJ o j) f b d]
   ·cases h
  ·rename_i es;split at h
   ·rename_i e l k i hl o;split at h
    ·rename_i sz q;simp only[cG,iU] at h;obtain⟨b,d⟩:=h;subst b d;obtain⟨⟨f,b,d⟩,D⟩:=A;obtain⟨u,cap,rfl,Y,F⟩:=B.oz.part (l:=l.toNat) (k:=k.toNat) D (by omega) (by omega);refine⟨_,?_,.p _ _ F⟩;have y:k<=(cap:Int):=by omega
     simp[Instr.sliceAt,Instr.slice,run_underlying (fP i),tG (P:=P) (s8:=true) (xJ hl z) (xJ o j) f b y,dX q]
    ·cases h
   ·cases h
  ·rename_i id bk off n m sz;split at h
   ·rename_i e l k i hl o;split at h
    ·rename_i al q;simp only[cG,iU] at h;obtain⟨b,d⟩:=h;subst b d;obtain⟨⟨f,b,d⟩,rfl⟩:=A;cases B with
     |iV a _ _ v _ _ _ c Z _ k9 ab R Q S hh =>
      have y:k<=(c:Int):=by omega
      refine⟨.slice (if c=l.toNat then a else a.map (·.add (l.toNat * al))) (k.toNat-l.toNat) (c-l.toNat),?_,.iV _ _ _ v _ _ _ _ Z _ k9 ab (by omega) (by omega) ?_ (λe=>?_)⟩
      ·simp[Instr.sliceAt,Instr.slice,run_underlying (fP i),tG (P:=P) (s8:=true) (xJ hl z) (xJ o j) f b y,dX q]
      ·intro e;split at e
       ·have:=S e;omega
       ·have:=S (by simpa using e);omega
      ·obtain⟨u,k',cap,V,e2,K⟩:=hh e;refine⟨u,k',cap,V,by omega,λhc=>?_⟩;by_cases M:c=l.toNat
       ·have O:l.toNat=0/\off=0:=by omega
        rw[if_pos M,K (by omega),O.1,O.2]
       ·rw[if_neg M,K (by omega)];cases u with
        |none=>rfl
        |some g =>
         have U:∀ (a:Addr) (m n:Nat),(a.add m).add n=a.add (m+n):=by intro a m n;unfold Addr.add;by_cases Q:m=0<;>by_cases R:n=0<;>simp[Q,R,Nat.add_assoc]
         simp[U,Nat.add_mul]
    ·cases h
   ·cases h
  ·cases h
def rP(P:Program)(t:TypeId)(a:AV):Option (Prop×AV):=match a with
 | .p (.aV es)=>match isSlice P t with
  |true=>some (True,.p (.val (.int .i64 es.length)))
  |false=>none
 | .p .emp=>match isSlice P t with
  |true=>some (True,.p (.val (.int .i64 0)))
  |false=>none
 | .p (.val (.slice _ n _))=>match isSlice P t with
  |true=>some (True,.p (.val (.int .i64 n)))
  |false=>none
 | .p (.val (.string s))=>match zj P t with
  |true=>some (True,.p (.val (.int .i64 s.size)))
  |false=>none
 | .iV _ _ _ n _ _=>match isSlice P t with
  |true=>some (True,.p (.val (.int .i64 n)))
  |false=>none
 |_=>none
theorem uk{t:TypeId}(h:isSlice P t=true):∃e,P.underlying t=some (.slice e):=by
 unfold isSlice at h;split at h
 ·rename_i e a;exact⟨e,a⟩
 ·cases h
theorem Ep{t ty:TypeId}{a v:AV}{pre:Prop}(h:rP P t a=some (pre,v)){x:Value}(f:eP I L x a)(w:World) :
  ∃r,(Builtin.len_ #[t] ty #[x]).run P w = .ok r w/\eP I L r v:=by
 unfold rP at h;split at h
 ·split at h
  ·rename_i c;simp only[cG,iU] at h;obtain⟨_,b⟩:=h;subst b;obtain⟨e,d⟩:=uk c;obtain⟨g,cap,rfl,_⟩:=f.oz.HS;exact⟨_,by simp[Builtin.len_,run_underlying d,goInt],.p _ _ (.val _ rfl)⟩
  ·cases h
 ·split at h
  ·rename_i c;simp only[cG,iU] at h;obtain⟨_,b⟩:=h;subst b;obtain⟨e,d⟩:=uk c;cases f.oz;exact⟨_,by simp[Builtin.len_,run_underlying d,goInt],.p _ _ (.val _ rfl)⟩
  ·cases h
 ·split at h
  ·rename_i c;simp only[cG,iU] at h;obtain⟨_,b⟩:=h;subst b;obtain⟨e,d⟩:=uk c;obtain⟨rfl,_⟩:=f.eT;exact⟨_,by simp[Builtin.len_,run_underlying d,goInt],.p _ _ (.val _ rfl)⟩
  ·cases h
 ·split at h
  ·rename_i c;simp only[cG,iU] at h;obtain⟨_,b⟩:=h;subst b;obtain⟨rfl,_⟩:=f.eT;exact⟨_,by simp[Builtin.len_,run_underlying (Eo c),goInt],.p _ _ (.val _ rfl)⟩
  ·cases h
 ·split at h
  ·rename_i c;simp only[cG,iU] at h;obtain⟨_,b⟩:=h;subst b;obtain⟨e,d⟩:=uk c;cases f;exact⟨_,by simp[Builtin.len_,run_underlying d,goInt],.p _ _ (.val _ rfl)⟩
  ·cases h
 ·cases h
end Go.cv
namespace Go.cv
open Go.RowKit
variable{P:Program}{I:Mem}{L:bB}
def rX(a:Nat->Option (Nat×Nat))(cells:List AV):List (Nat×AV)->Option (List AV)
 | []=>some cells
 |(i,v) :: rest=>match a i with
  |some (off,size)=>if (b7 v).length=size/\off+size<=cells.length/\(b7 v).all oB=true then rX a (splice cells off (b7 v)) rest else none
  |none=>none
theorem HW(off:Nat):∀ (l:List Value) (k:Nat) (cells:Array Value),off+k+l.length<=cells.size ->
  (l.zipIdx k).foldl (λ(cs:Array Value) (x:Value×Nat)=>cs.setIfInBounds (off+x.2) x.1) cells=(splice cells.toList (off+k) l).toArray
 | [],k,cells,_=>by simp[splice]
 |v :: l,k,cells,h=>by
  simp only[List.zipIdx_cons,List.foldl_cons];have d:off+(k+1)+l.length<=(cells.setIfInBounds (off+k) v).size:=by simp at h ⊢;omega
  rw[HW off l (k+1) _ d];congr 1;simp only[splice,Array.toList_setIfInBounds,List.length_cons];have a:off+k<cells.toList.length:=by simp at h ⊢;omega
  have b:off+(k+1)=off+k+1:=by omega
  have c:off+k+(l.length+1)=off+k+1+l.length:=by omega
  rw[b,c,List.take_set,List.drop_set_of_lt (by omega),List.take_add_one];have:cells.toList[off+k]? = some (cells.toList[off+k]):=by simp[a]
  rw[this];simp only[Option.toList_some];rw[List.set_append_right _ _ (by rw[List.length_take];omega)];have e:min (off+k) cells.toList.length=off+k:=Nat.min_eq_left (Nat.le_of_lt a);rw[List.length_take,e,Nat.sub_self];simp
theorem zm{w abG:Nat->Option (Nat×Nat)}(r:∀i x,w i=some x->abG i=some x):∀ (parts:List (Nat×AV)) (vs:List (Nat×Value)) (cells:List AV) (us:List Value) (a:List AV),
  rX w cells parts=some a->us.length=cells.length->(∀ (j:Nat) u c,us[j]? = some u->cells[j]? = some c->eP I L u c)->(∀u∈us,u.oneCell'=true) ->
  vs.length=parts.length->(∀ (j:Nat) x y,vs[j]? = some x->parts[j]? = some y->x.1=y.1/\eP I L x.2 y.2) ->
  ∃b:List Value,Instr.fill abG us.toArray vs=some b.toArray/\b.length=a.length/\(∀ (j:Nat) u c,b[j]? = some u->a[j]? = some c->eP I L u c)/\(∀u∈b,u.oneCell'=true)
 | [],vs,cells,us,a,h,hl,m,e,d,_=>by have:vs=[]:=List.length_eq_zero_iff.1 d;subst this;simp[rX] at h;subst h;exact⟨us,rfl,hl,m,e⟩
 |(i,v) :: rest,[],cells,us,a,_,_,_,_,d,_=>by simp at d
 |(i,v) :: rest,(Q,x) :: vs,cells,us,a,h,hl,m,e,d,s=>by
  obtain⟨k,n⟩:=s 0 _ _ rfl rfl;have k:Q=i:=k;have n:eP I L x v:=n;subst k;simp only[rX] at h;split at h
  ·rename_i off size K;split at h
   ·rename_i g;obtain⟨l,J,E⟩:=g;have l:(b7 v).length=size:=l;have q:∀c∈b7 v,oB c=true:=List.all_eq_true.1 E;obtain⟨un,G,f,t⟩:=n.cells q;have N:∀u∈un,u.oneCell'=true:=λu hu=>by
     obtain⟨j,p⟩:=List.mem_iff_getElem?.1 hu;have H:j<(b7 v).length:=by rw[<-f];exact (List.getElem?_eq_some_iff.1 p).1
     have g:(b7 v)[j]? = some ((b7 v)[j]):=by simp[H]
     exact (t j u _ p g).one (q _ (l8 _))
    have f:un.length=(b7 v).length:=f;have S:=eD (cs:=cells) (off:=off) (new:=b7 v) (by rw[l];exact J);have T:=eD (cs:=us) (off:=off) (new:=un) (by omega);obtain⟨b,A,B,C,D⟩:=zm r rest vs (splice cells off (b7 v)) (splice us off un) a h (by omega)
     (Eg hl f m t) (λu hu=>by
      unfold splice at hu;simp only[List.mem_append] at hu;rcases hu with (hu|hu)|hu
      ·exact e u (List.mem_of_mem_take hu)
      ·exact N u hu
      ·exact e u (List.mem_of_mem_drop hu)) (by simpa using d) (λj y z O P=>s (j+1) y z O P)
    refine⟨b,?_,B,C,D⟩;have R:un.length=size:=by omega
    have M:off+un.length<=us.length:=by omega
    unfold Instr.fill;simp only[r _ _ K,G];have F:¬ (un.toArray.size≠size\/off+un.toArray.size > us.toArray.size):=by simp;omega
    rw[if_neg (by simpa using F)];have o:=HW off un 0 us.toArray (by simpa using M);simp only[Nat.add_zero] at o;have:(un.toArray.zipIdx.foldl (λ(cs:Array Value) (x:Value×Nat)=>cs.setIfInBounds (off+x.2) x.1) us.toArray)=(splice us off un).toArray:=by rw[<-o,<-Array.foldl_toList];simp
    exact (congrArg (λc=>Instr.fill abG c vs) this).trans A
   ·cases h
  ·cases h
def fh(P:Program)(t:TypeId):Option (List (Nat×Nat)):=match P.underlying t with
 |some (.struct a)=>a.toList.mapM λf=>(bu P f.type).map λn=>(f.offset,n)
 |some (.array n e)=>(bu P e).map λsz=>(List.range n).map λi=>(i * sz,sz)
 |_=>none
def Bc(P:Program)(t:TypeId)(parts:List (Nat×AV)):Option (Prop×AV):=match cN P t,fh P t with
 | some a, some pl => if a.all (·.oneCell') = true then
   match rX (λi=>pl[i]?) (a.map λz=>.p (.val z)) parts with
   |some cs=>some (True,yG cs)
   |none=>none
  else none
 |_,_=>none
theorem zn{t:TypeId}{c:List Value}(h:cN P t=some c):∃i z,P.info? t=some i/\i.zero=some z/\z.cells.toList=c:=by
 unfold cN at h;cases a:P.info? t with
 |none=>simp[a] at h
 |some i =>
  cases b:i.zero with
  |none=>simp[a,b] at h
  |some z=>exact⟨i,z,rfl,b,by simpa[a,b] using h⟩
theorem wS{t:TypeId}{a:List Value}(h:cN P t=some a)(w:World):∃z,(zeroValue t).run P w = .ok z w/\z.cells=a.toArray:=by obtain⟨i,z,c,d,b⟩:=zn h;refine⟨z,by simp[zeroValue,typeInfo,c,d],?_⟩;rw[<-b]
theorem HX{α f:Type}(g:α->Sem f)(c:α->Option f)(w:World):∀ (l:List α) (e:List f),l.mapM c=some e ->
  (∀a b,c a=some b->(g a).run P w = .ok b w)->(l.mapM g).run P w = .ok e w
 | [],e,h,_=>by simp at h;subst h;simp
 |a :: l,e,h,i=>by
  simp only[List.mapM_cons,Option.bind_eq_bind,Option.pure_def] at h;cases d:c a with
  |none=>simp[d] at h
  |some b =>
   cases hl:l.mapM c with
   |none=>simp[d,hl] at h
   |some j=>simp[d,hl] at h;subst h;simp[i a b d,HX g c w l j hl i]
theorem HY(a:List Value)(h:a.all (·.oneCell')=true):(∀ (j:Nat) u c,a[j]? = some u->(a.map λz=>AV.p (.val z))[j]? = some c->eP I L u c)/\∀u∈a,u.oneCell'=true:=by have d:∀u∈a,u.oneCell'=true:=List.all_eq_true.1 h;refine⟨λj u c e b=>?_,d⟩;rw[List.getElem?_map,e] at b;simp at b;subst b;exact .p _ _ (.val _ (d u (List.mem_of_getElem? e)))
def BM(I:Mem)(L:bB)(vs:List (Nat×Value))(parts:List (Nat×AV)):Prop:=vs.length=parts.length/\∀ (j:Nat) x y,vs[j]? = some x->parts[j]? = some y->x.1=y.1/\eP I L x.2 y.2
theorem NL{t:TypeId}{parts:List (Nat×AV)}{v:AV}{pre:Prop}(h:Bc P t parts=some (pre,v)){vs:List (Nat×Value)}(c:BM I L vs parts)(w:World) :
  ∃r,(Instr.build t vs.toArray).run P w = .ok r w/\eP I L r v:=by
 unfold Bc at h;split at h
 ·rename_i s pl M a;split at h
  ·rename_i J;split at h
   ·rename_i cs y;simp only[cG,iU] at h;obtain⟨_,F⟩:=h;subst F;obtain⟨z,C,B⟩:=wS M w;obtain⟨E,D⟩:=HY (I:=I) (L:=L) s J;unfold fh at a;split at a
    ·rename_i u G;obtain⟨N,d,g,j,l⟩:=zm (abG:=λi=>pl[i]?) (λi x h=>h) parts vs _ s cs y (by simp) E D c.1 c.2;refine⟨_,?_,vR g j l⟩;have H:(u.mapM λ(f:Field)=>(do pure (f.offset,<-sizeOf f.type):Sem (Nat×Nat))).run P w = .ok pl.toArray w:=by
      rw[Array.mapM_eq_mapM_toList];have:=HX (P:=P) (λf:Field=>(do pure (f.offset,<-sizeOf f.type):Sem (Nat×Nat))) _ w u.toList pl a (λf b m=>by
       cases p:bu P f.type with
       |none=>simp[p] at m
       |some n=>simp[p] at m;subst m;simp[dX p])
      rw[Sem.run_map,this];simp
     simp only[Instr.build,Sem.run_bind,C,Result.andThen_ok,run_underlying G,H,B];simp[d]
    ·rename_i n e K;cases q:bu P e with
     |none=>simp[q] at a
     |some sz =>
      simp[q] at a;obtain⟨N,d,g,j,l⟩:=zm (abG:=λi=>some (i * sz,sz)) (λi x h=>by
       rw[<-a,List.getElem?_map] at h;cases o:(List.range n)[i]? with
       |none=>simp[o] at h
       |some k =>
        simp[o] at h;have:=List.getElem?_eq_some_iff.1 o;obtain⟨O,A⟩:=this;simp at A;rw[<-h,A]) parts vs _ s cs y (by simp) E D c.1 c.2
      refine⟨_,?_,vR g j l⟩;simp only[Instr.build,Sem.run_bind,C,Result.andThen_ok,run_underlying K,dX q,B];simp[d]
    ·cases a
   ·cases h
  ·cases h
 ·cases h
end Go.cv
namespace Go.cv
open Go.RowKit
variable{P:Program}{I:Mem}{L:bB}
def chunk{α:Type}(sz:Nat):Nat->List α->List (List α)
 |0,_=>[]
 |n+1,l=>l.take sz :: chunk sz n (l.drop sz)
theorem HZ{α:Type}(sz:Nat):∀ (n:Nat) (l:List α),(chunk sz n l).length=n
 |0,_=>rfl
 |n+1,l=>by simp[chunk,HZ sz n]
theorem H6{α:Type}(sz:Nat):∀ (n:Nat) (l:List α),l.length=n * sz->(chunk sz n l).flatten=l
 |0,l,h=>by have:l=[]:=List.length_eq_zero_iff.1 (by simpa using h);subst this;rfl
 |n+1,l,h=>by
  have a:(n+1) * sz=n * sz+sz:=by rw[Nat.add_mul];omega
  rw[chunk,List.flatten_cons,H6 sz n (l.drop sz) (by rw[List.length_drop];omega),List.take_append_drop]
theorem H7{α:Type}(sz:Nat):∀ (n:Nat) (l:List α),l.length=n * sz->∀e∈chunk sz n l,e.length=sz
 |0,l,_,e,he=>by simp[chunk] at he
 |n+1,l,h,e,he=>by
  have a:(n+1) * sz=n * sz+sz:=by rw[Nat.add_mul];omega
  simp only[chunk,List.mem_cons] at he;rcases he with rfl|he
  ·rw[List.length_take];omega
  ·exact H7 sz n (l.drop sz) (by rw[List.length_drop];omega) e he
def iY(a:List Value)(n:Nat):List AV:=(List.replicate n (a.map λz=>AV.p (.val z))).flatten
def mu(P:Program)(t:TypeId)(n:Nat)(parts:List (Nat×AV)):Option (TypeId×List (List PV)):=match cT P t with
 |some e=>match bu P e,cN P e with
  | some sz, some a => if a.length = sz ∧ 0 < sz ∧ n * sz ≤ 16777216 ∧ a.all (·.oneCell') = true then
    match rX (λi=>some (i * sz,sz)) (iY a n) parts with
    |some cs=>match uj cs with
     |some b=>if b.length=n * sz then some (e,chunk sz n b) else none
     |none=>none
    |none=>none
   else none
  |_,_=>none
 |none=>none
theorem CM(a:List Value)(n:Nat)(h:0<a.length):((Array.range (n * a.length)).map (λi=>a.toArray[i % a.toArray.size]!))=(List.replicate n a).flatten.toArray:=by
 apply Array.ext';apply List.ext_getElem?;intro j;simp only[Array.toList_map,Array.toList_range,List.getElem?_map];have b:∀e∈List.replicate n a,e.length=a.length:=λe m=>by rw[List.eq_of_mem_replicate m]
 by_cases d:j<n * a.length
 ·have c:j / a.length<n:=Nat.div_lt_of_lt_mul (by rw[Nat.mul_comm];exact d);have f:j % a.length<a.length:=Nat.mod_lt _ h;have:=iH b (j / a.length) (j % a.length) (by simpa using c) f;have g:j / a.length * a.length+j % a.length=j:=by rw[Nat.mul_comm];exact Nat.div_add_mod j a.length
  rw[g] at this;rw[this];simp[d,c,f]
 ·have k:(List.range (n * a.length))[j]? = none:=by simp;omega
  have l:(List.replicate n a).flatten[j]? = none:=by rw[List.getElem?_eq_none_iff,bG b];simp;omega
  rw[k,l];rfl
theorem wz{t:TypeId}{n:Nat}{parts:List (Nat×AV)}{e:TypeId}{es:List (List PV)}(h:mu P t n parts=some (e,es)){vs:List (Nat×Value)}(D:BM I L vs parts)(w:World) :
  ∃ (b:List Value) (sz:Nat),(Instr.buildSlice t n vs.toArray).run P w = .ok (.slice (some ⟨w.heap.size,0,none⟩) n n) (w.alloc (.cells b.toArray e))/\cT P t=some e/\bu P e=some sz/\0<sz /\
   es.length=n/\(∀x∈es,x.length=sz)/\b.length=es.flatten.length/\(∀ (j:Nat) u c,b[j]? = some u->es.flatten[j]? = some c->VR I u c)/\∀u∈b,u.oneCell'=true:=by
 unfold mu at h;split at h
 ·rename_i Z q;split at h
  ·rename_i sz a r U;split at h
   ·rename_i d;obtain⟨X,O,aa,C⟩:=d;split at h
    ·rename_i cs M;split at h
     ·rename_i s Q;split at h
      ·rename_i B;simp only[cG,iU] at h;obtain⟨o,J⟩:=h;subst o J;have y:=uG Q;obtain⟨z,Y,V⟩:=wS U w;have K:((List.replicate n a).flatten).length=(iY a n).length:=by simp[iY]
       have S:∀ (j:Nat) u c,((List.replicate n a).flatten)[j]? = some u->(iY a n)[j]? = some c->eP I L u c:=by
        intro j u c k d;have F:iY a n=((List.replicate n a).flatten).map (λz=>AV.p (.val z)):=by simp[iY,List.map_flatten]
        rw[F,List.getElem?_map,k] at d;simp at d;subst d;have T:=List.mem_of_getElem? k;obtain⟨l,hl,f⟩:=List.mem_flatten.1 T;rw[List.eq_of_mem_replicate hl] at f;exact .p _ _ (.val _ (List.all_eq_true.1 C u f))
       have o:∀u∈(List.replicate n a).flatten,u.oneCell'=true:=λu k=>by obtain⟨l,hl,f⟩:=List.mem_flatten.1 k;rw[List.eq_of_mem_replicate hl] at f;exact List.all_eq_true.1 C u f
       obtain⟨b,m,G,v,H⟩:=zm (abG:=λi=>some (i * sz,sz)) (λi x h=>h) parts vs _ _ cs M K S o D.1 D.2;have A:=H6 sz n s B;refine⟨b,sz,?_,q,r,O,HZ sz n s,H7 sz n s B,?_,?_,H⟩
       ·have W:((Array.range (n * sz)).map (λi=>a.toArray[i % a.toArray.size]!))=(List.replicate n a).flatten.toArray:=by rw[<-X];exact CM a n (by omega)
        by_cases g:n * sz=0
        ·have N:n=0:=by
          rcases Nat.mul_eq_zero.1 g with h|h
          ·exact h
          ·omega
         subst N;simp only[List.replicate_zero,List.flatten_nil] at m;have R:((Array.range (0 * sz)).map (λi=>(#[]:Array Value)[i % (#[]:Array Value).size]!)) = #[]:=by simp
         simp only[Instr.buildSlice,Sem.run_bind,run_underlying (fP q),Result.andThen_ok,dX r];rw[if_neg (by simp),if_pos g];simp only[Sem.run_bind,Result.andThen_ok,Sem.run_pure,R,m];simp[newRow,newObj,Sem.run]
        ·have E:¬ (16777216<n * sz):=by omega
         have ab:(n * sz=0)=False:=by simpa using g
         simp only[Instr.buildSlice,Sem.run_bind,run_underlying (fP q),Result.andThen_ok,dX r];rw[if_neg (by simpa using E),if_neg g];simp only[Sem.run_bind,Y,Result.andThen_ok,Sem.run_pure,V,W,m];simp[newRow,newObj,Sem.run]
       ·rw[A,G,y];simp
       ·rw[A];rw[y] at v;exact CL v
      ·cases h
     ·cases h
    ·cases h
   ·cases h
  ·cases h
 ·cases h
def vU(P:Program)(t:TypeId)(n:Nat)(parts:List (Nat×AV)):Option (TypeId×List AV):=match cT P t with
 |some e=>match bu P e,cN P e with
  | some sz, some a => if a.length = sz ∧ 0 < sz ∧ n * sz ≤ 16777216 ∧ a.all (·.oneCell') = true then
    match rX (λi=>some (i * sz,sz)) (iY a n) parts with
    |some cs=>some (e,cs)
    |none=>none
   else none
  |_,_=>none
 |none=>none
theorem NM{t:TypeId}{n:Nat}{parts:List (Nat×AV)}{e:TypeId}{cs:List AV}(h:vU P t n parts=some (e,cs)){vs:List (Nat×Value)}(s:BM I L vs parts)(w:World) :
  ∃ (b:List Value),(Instr.buildSlice t n vs.toArray).run P w = .ok (.slice (some ⟨w.heap.size,0,none⟩) n n) (w.alloc (.cells b.toArray e)) /\
   b.length=cs.length/\(∀ (j:Nat) u c,b[j]? = some u->cs[j]? = some c->eP I L u c)/\∀u∈b,u.oneCell'=true:=by
 unfold vU at h;split at h
 ·rename_i U q;split at h
  ·rename_i sz a v O;split at h
   ·rename_i d;obtain⟨S,W,V,r⟩:=d;split at h
    ·rename_i A H
     ··
       simp only[cG,iU] at h;obtain⟨o,F⟩:=h;subst o F;obtain⟨z,T,Q⟩:=wS O w;have G:((List.replicate n a).flatten).length=(iY a n).length:=by simp[iY]
       have M:∀ (j:Nat) u c,((List.replicate n a).flatten)[j]? = some u->(iY a n)[j]? = some c->eP I L u c:=by
        intro j u c k d;have B:iY a n=((List.replicate n a).flatten).map (λz=>AV.p (.val z)):=by simp[iY,List.map_flatten]
        rw[B,List.getElem?_map,k] at d;simp at d;subst d;have N:=List.mem_of_getElem? k;obtain⟨l,hl,f⟩:=List.mem_flatten.1 N;rw[List.eq_of_mem_replicate hl] at f;exact .p _ _ (.val _ (List.all_eq_true.1 r u f))
       have o:∀u∈(List.replicate n a).flatten,u.oneCell'=true:=λu k=>by obtain⟨l,hl,f⟩:=List.mem_flatten.1 k;rw[List.eq_of_mem_replicate hl] at f;exact List.all_eq_true.1 r u f
       obtain⟨b,m,C,D,E⟩:=zm (abG:=λi=>some (i * sz,sz)) (λi x h=>h) parts vs _ _ A H G M o s.1 s.2;refine⟨b,?_,C,D,E⟩
       ·have R:((Array.range (n * sz)).map (λi=>a.toArray[i % a.toArray.size]!))=(List.replicate n a).flatten.toArray:=by rw[<-S];exact CM a n (by omega)
        by_cases g:n * sz=0
        ·have J:n=0:=by
          rcases Nat.mul_eq_zero.1 g with h|h
          ·exact h
          ·omega
         subst J;simp only[List.replicate_zero,List.flatten_nil] at m;have K:((Array.range (0 * sz)).map (λi=>(#[]:Array Value)[i % (#[]:Array Value).size]!)) = #[]:=by simp
         simp only[Instr.buildSlice,Sem.run_bind,run_underlying (fP q),Result.andThen_ok,dX v];rw[if_neg (by simp),if_pos g];simp only[Sem.run_bind,Result.andThen_ok,Sem.run_pure,K,m];simp[newRow,newObj,Sem.run]
        ·have y:¬ (16777216<n * sz):=by omega
         have X:(n * sz=0)=False:=by simpa using g
         simp only[Instr.buildSlice,Sem.run_bind,run_underlying (fP q),Result.andThen_ok,dX v];rw[if_neg (by simpa using y),if_neg g];simp only[Sem.run_bind,T,Result.andThen_ok,Sem.run_pure,Q,R,m];simp[newRow,newObj,Sem.run]
    ·cases h
   ·cases h
  ·cases h
 ·cases h
def isNil:AV->Bool
 | .p .emp=>true
 | .p (.val (.slice none 0 0))=>true
 |_=>false
theorem H8{a:AV}(h:isNil a=true){u:Value}(b:eP I L u a):∃c,u = .slice c 0 0:=by
 unfold isNil at h;split at h
 ·cases b.oz;exact⟨_,rfl⟩
 ·exact⟨none,b.eT.1⟩
 ·cases h
def dA(P:Program)(t1 t2:TypeId):Option (TypeId×Nat×Nat):=if t1=t2 then match cT P t1 with
 |some e=>match bu P e,xI P e,cN P e with
  |some sz,some a,some b=>if b.length=sz/\0<sz/\0<a then some (e,sz,a) else none
  |_,_,_=>none
 |none=>none else none
theorem nX{t1 t2 e:TypeId}{sz b:Nat}(h:dA P t1 t2=some (e,sz,b)):t1=t2/\P.underlying t1=some (.slice e)/\0<sz/\0<b /\
  ∃i z,P.info? e=some i/\i.zero=some z/\i.size=sz/\i.bytes=b/\z.cells.size=sz:=by
 unfold dA at h;split at h
 ·rename_i d;split at h
  ·rename_i p g;split at h
   ·rename_i q o r j f k;split at h
    ·rename_i a;simp only[cG,iU] at h;obtain⟨r1,r2,n⟩:=h;subst r1 r2 n;obtain⟨i,z,c,m,l⟩:=zn k;refine⟨d,fP g,a.2.1,a.2.2,i,z,c,m,?_,?_,?_⟩
     ·simpa[bu,c] using j
     ·simpa[xI,c] using f
     ·rw[<-a.1,<-l];simp
    ·cases h
   ·cases h
  ·cases h
 ·cases h
theorem qg{t ty e:TypeId}{i:TypeInfo}{z:Value}{sz:Nat}(n:P.underlying t=some (.slice e))(k:P.info? e=some i)(o:i.zero=some z)(q:i.size=sz)(f:Option Addr)
  (a:Addr) (m c:Nat) (d:List Value) (w:World) (hl:d.length=m * sz) (l:∀ (j:Nat) v,d[j]? = some v->w.cell? (a.add j)=some v)
  (g:0<m) (r:m * i.bytes<=140737488355328) (s:m<=9223372036854775807) :
  ∃cap rest,(Builtin.append_ #[t,t] ty #[.slice f 0 0,.slice (some a) m c]).run P w =
   .ok (.slice (some ⟨w.heap.size,0,none⟩) m cap) (w.drew.alloc (.cells (d++rest).toArray e))/\m<=cap/\(d++rest).length=m * sz+(cap-m) * z.cells.size/\cap<=maxLen:=by
 subst q;refine⟨grownCap w m 0 e,(Builtin.zeroCells z.cells (grownCap w m 0 e-m)).toList,?_,grownCap_ge w m 0 e,?_,grownCap_le_maxLen w m 0 e (by simp only[maxLen];omega)⟩
 ·have h:(m:Int)<=9223372036854775807:=by omega
  cases f with
  |none=>rw[run_append_nil w t ty e i z n k o a m c d hl l g h (by omega)];congr 3;apply Array.ext';simp
  |some b =>
   have p:Builtin.nextslicecap (0+m) 0 * i.bytes<=281474976710656:=by rw[Nat.zero_add,nextslicecap_zero g];omega
   have:=run_append_grow (P:=P) w t ty e i z n k o b 0 0 [] (by simp) (by simp) a m c d hl l (by omega) (by simpa using h) p;simp only[Nat.zero_add] at this;rw[this];congr 3;apply Array.ext';simp
 ·rw[List.length_append,hl,Array.length_toList,size_zeroCells]
end Go.cv
namespace Go.cv
open Go.RowKit
variable{P:Program}{I:Mem}{L:bB}
def ry(P:Program)(t1 t2:TypeId)(a b:AV):Option (Prop×AV):=match isNil a,dA P t1 t2 with
 |true,some (_,sz,c)=>match b with
  | .p (.aV es)=>some (es.length * c<=140737488355328/\∀x∈es,x.length=sz,.p (.aV es))
  |b=>match isNil b with
   |true=>some (True,.p .emp)
   |false=>none
 |_,_=>none
def u0(k:IntKind)(n:Int):List AV->Option (Prop×AV)
 | []=>some (True,.p (.val (.int k n)))
 | .p (.val (.int _ m)) :: r=>u0 k (max n m) r
 |_=>none
def BN(k:IntKind)(n:Int):List AV->Option (Prop×AV)
 | []=>some (True,.p (.val (.int k n)))
 | .p (.val (.int _ m)) :: r=>BN k (min n m) r
 |_=>none
theorem H9{k:IntKind} : ∀ {fe:List AV} {n:Int} {v:AV} {pre:Prop} {us:List Value},u0 k n fe=some (pre,v)->pJ I L us fe->∀w:World,∃r,(us.foldlM Builtin.max2 (.int k n)).run P w = .ok r w/\eP I L r v
 | [],n,v,pre,us,h,b,w=>by simp only[u0,cG,iU] at h;obtain⟨_,rfl⟩:=h;have:us=[]:=List.length_eq_zero_iff.1 (by simpa using b.1);subst this;exact⟨_,rfl,.p _ _ (.val _ rfl)⟩
 |a :: r,n,v,pre,us,h,b,w=>by
  unfold u0 at h;split at h
  ·rename_i e;cases e
  ·rename_i l m o e;simp only[List.cons.injEq] at e;obtain⟨rfl,rfl⟩:=e
   match us,b with
   | [],b=>have:=b.1;simp at this
   |u :: us,b =>
    obtain⟨rfl,_⟩:=(b.2 0 u _ rfl rfl).eT;obtain⟨q,d,f⟩:=H9 h (us:=us) ⟨by simpa using b.1,λj u c i g=>b.2 (j+1) u c i g⟩ w;refine⟨q,?_,f⟩;have e:(if m > n then m else n)=max n m:=by omega
    rw[List.foldlM_cons,Sem.run_bind];simp only[Builtin.max2,Sem.run_pure,Result.andThen_ok,e];exact d
  ·cases h
theorem Ia{k:IntKind} : ∀ {fe:List AV} {n:Int} {v:AV} {pre:Prop} {us:List Value},BN k n fe=some (pre,v)->pJ I L us fe->∀w:World,∃r,(us.foldlM Builtin.min2 (.int k n)).run P w = .ok r w/\eP I L r v
 | [],n,v,pre,us,h,b,w=>by simp only[BN,cG,iU] at h;obtain⟨_,rfl⟩:=h;have:us=[]:=List.length_eq_zero_iff.1 (by simpa using b.1);subst this;exact⟨_,rfl,.p _ _ (.val _ rfl)⟩
 |a :: r,n,v,pre,us,h,b,w=>by
  unfold BN at h;split at h
  ·rename_i e;cases e
  ·rename_i l m o e;simp only[List.cons.injEq] at e;obtain⟨rfl,rfl⟩:=e
   match us,b with
   | [],b=>have:=b.1;simp at this
   |u :: us,b =>
    obtain⟨rfl,_⟩:=(b.2 0 u _ rfl rfl).eT;obtain⟨q,d,f⟩:=Ia h (us:=us) ⟨by simpa using b.1,λj u c i g=>b.2 (j+1) u c i g⟩ w;refine⟨q,?_,f⟩;have e:(if m<n then m else n)=min n m:=by omega
    rw[List.foldlM_cons,Sem.run_bind];simp only[Builtin.min2,Sem.run_pure,Result.andThen_ok,e];exact d
  ·cases h
def uX(P:Program)(b:Builtin)(c:List TypeId)(fe:List AV):Option (Prop×AV):=match b,c,fe with
 | .len,[t],[a]=>rP P t a
 | .append,[t1,t2],[a,b]=>ry P t1 t2 a b
 | .max,_,.p (.val (.int k n)) :: r=>u0 k n r
 | .min,_,.p (.val (.int k n)) :: r=>BN k n r
 |_,_,_=>none
def oD(P:Program)(o:Oper)(e:Operand->AV):Option (Prop×AV):=match o.op with
 | .move x | .assign x=>some (True,e x)
 | .pick c a b=>Ba (e c) (e a) (e b)
 | .load t a=>CJ P t (e a)
 | .fieldAddr s a k=>CK P s (e a) k
 | .indexAddr t x i=>pK P t (e x) (e i)
 | .index t x i=>AI P t (e x) (e i)
 | .extract x k=>uW (e x) k
 | .binOp op t x y _=>oC P op t (e x) (e y)
 | .unOp op _ x=>A9 op (e x)
 | .convert s d x=>AH P s d (e x)
 | .makeFunc g f c=>some (True,BJ g (f.toList.map e) (c.toList.map e))
 | .build t parts=>Bc P t (parts.toList.map λx=>(x.1,e x.2))
 | .buildSlice t n parts=>match mu P t n (parts.toList.map λx=>(x.1,e x.2)) with
  |some (_,es)=>match n with
   |0=>some (True,.p .emp)
   |_=>some (True,.p (.aV es))
  |none=>none
 | .slice t x lo h j=>tF P t (e x) (lo.map e) (h.map e) (j.map e)
 | .nilCheck x=>Bb (e x)
 | .call c=>match c.callee with
  | .builtin b=>uX P b c.argTypes.toList (c.args.toList.map e)
  |_=>none
 |_=>none
theorem wT{σ:Operand->Value}{d:Operand->AV}(e:∀x,eP I L (σ x) (d x))(l:List (Nat×Operand)) :
  BM I L (l.map λx=>(x.1,σ x.2)) (l.map λx=>(x.1,d x.2)):=by
 refine⟨by simp,λj x y a b=>?_⟩;rw[List.getElem?_map] at a b;cases c:l[j]? with
 |none=>simp[c] at a
 |some z=>simp[c] at a b;subst a b;exact⟨rfl,e _⟩
theorem uY{σ:Operand->Value}{d:Operand->AV}(e:∀x,eP I L (σ x) (d x))(l:List Operand) :
  pJ I L (l.map σ) (l.map d):=by
 refine⟨by simp,λj x y a b=>?_⟩;rw[List.getElem?_map] at a b;cases c:l[j]? with
 |none=>simp[c] at a
 |some z=>simp[c] at a b;subst a b;exact e _
theorem Er{σ:Operand->Value}{a:Operand->AV}(b:∀x,eP I L (σ x) (a x))(l:Option Operand):BL I L (l.map σ) (l.map a):=by
 cases l with
 |none=>trivial
 |some x=>exact b x
def pz(P:Program)(C:Ctx)(H:az)(I:Mem)(L:bB)(w:World)(r:Result Next)(v:AV)(c:az):Prop:=∃u w' a b,(r = .ok (.value u) w'\/(r = .ok .skip w'/\u=undef))/\eP a b u v/\Fr C I L H w a b c w'
theorem pz.still{C:Ctx}{H:az}{w:World}{v:AV}{u:Value}{r:Result Next}(a:r = .ok (.value u) w)(h:eP I L u v):pz P C H I L w r v H:=⟨u,w,I,L,.inl a,h,Fr.refl _ _ _ _ _⟩
theorem pz.jU{C:Ctx}{H:az}{w:World}{v:AV}{s:Sem Value}{a:Sem Next}(d:∀w,a.run P w=(s.run P w).andThen λu w'=>.ok (.value u) w')(h:∃u,s.run P w = .ok u w/\eP I L u v) :
  pz P C H I L w (a.run P w) v H:=by
 obtain⟨u,c,b⟩:=h;exact .still (by rw[d,c];rfl) b
theorem run_lift(s:Sem Value)(w:World):(do pure (.value (<-s)):Sem Next).run P w=(s.run P w).andThen λu w'=>.ok (.value u) w':=by simp
theorem NN{t1 t2 ty:TypeId}{a b v:AV}{pre:Prop}(h:ry P t1 t2 a b=some (pre,v))(V:pre){C:Ctx}{H:az}{env:Env}{tm:Array Value}{w:World}(q:iG C env H I L tm w)
  {x y:Value} (hx:eP I L x a) (s:eP I L y b) {B:Sem Next} (k:∀w,B.run P w=((Builtin.append_ #[t1,t2] ty #[x,y]).run P w).andThen λu w'=>.ok (.value u) w') :
  pz P C H I L w (B.run P w) v H:=by
 unfold ry at h;split at h
 ·rename_i e sz qM S Y
  obtain⟨rfl,r,al,D,i,z,o,hz,X,K,an⟩:=nX Y;obtain⟨d,rfl⟩:=H8 S hx;have A:∀ (f:Option Addr) (c:Nat),(Builtin.append_ #[t1,t1] ty #[.slice d 0 0,.slice f 0 c]).run P w = .ok (.slice d 0 0) w:=by intro f c;cases d<;>cases f<;>simp[Builtin.append_,run_underlying r,sizeOf,typeInfo,o,Builtin.lenOf,Builtin.firstCells,loadCells,loadCellsFrom,storeCells]
  split at h
  ·rename_i es;simp only[cG,iU] at h;obtain⟨F,g⟩:=h;subst F g;obtain⟨J,l⟩:=V;cases s.oz with
   |aV f n cap _ us aq Q ad hl Z U R ak af =>
    subst Q;by_cases E:es.length=0
    ·have N:es=[]:=List.length_eq_zero_iff.1 E;subst N;refine⟨_,w,I,L,.inl (by rw[k,List.length_nil,A];rfl),?_,Fr.refl _ _ _ _ _⟩;exact .p _ _ (.aV d 0 0 [] [] sz rfl (by simp) (by simp) (by simp) (by simp) (.inl rfl) (λ_=>⟨rfl,rfl⟩) (Nat.le_refl _))
    ·have m:=bG l;rcases R with rfl|⟨bb,off,rfl,G⟩
     ·exfalso;have t:es.flatten.length=0:=by rw[<-hl];rfl
      rw[m] at t;rcases Nat.mul_eq_zero.1 t with h|h<;>omega
     ·obtain⟨cp,rest,W,M,am,_⟩:=qg (P:=P) (ty:=ty) r o hz X d ⟨bb,off,none⟩ es.length cap us w (by rw[hl,m]) (λj v O=>by
       rw[Addr.add_mid];exact q.mem _ _ _ (G j v O)) (by omega) (by rw[K];exact J) (by
        have:=Nat.le_mul_of_pos_right es.length D;omega)
      refine⟨_,_,I.with w.heap.size (us++rest).toArray,L,.inl (by rw[k,W];rfl),.p _ _ ?_,(Fr.drew C I L H w).trans (Fr.Ei C I L H w.drew _ e)⟩;exact VR.Ej (w:=w) q.mem l hl Z U M
  ·rename_i b ai;split at h
   ·rename_i T;simp only[cG,iU] at h;obtain⟨_,g⟩:=h;subst g;obtain⟨f,rfl⟩:=H8 T s;exact .still (by rw[k,A];rfl) (.p _ _ (.emp d))
   ·cases h
 ·cases h
theorem NO{o:Oper}{B:Operand->AV}{v:AV}{pre:Prop}(h:oD P o B=some (pre,v))(F:pre){C:Ctx}{H:az}{env:Env}{tm:Array Value}{w:World}
  (S:iG C env H I L tm w) {σ:Operand->Value} (g:∀x,eP I L (σ x) (B x)):pz P C H I L w ((execOp σ o).run P w) v H:=by
 unfold oD at h;unfold execOp;cases ae:o.op<;>simp only[ae] at h ⊢<;>try (cases h;done)
 case move x=>simp only[cG,iU] at h;obtain⟨_,j⟩:=h;subst j;exact .still rfl (g x)
 case assign x=>simp only[cG,iU] at h;obtain⟨_,j⟩:=h;subst j;exact .still rfl (g x)
 case pick c a b =>
  unfold Ba at h;split at h
  ·rename_i D;simp only[cG,iU] at h;obtain⟨_,j⟩:=h;subst j;have:=(D ▸ g c).eT.1;exact .still (u:=σ a) (by simp[this,asBool]) (g a)
  ·rename_i D;simp only[cG,iU] at h;obtain⟨_,j⟩:=h;subst j;have:=(D ▸ g c).eT.1;exact .still (u:=σ b) (by simp[this,asBool]) (g b)
  ·cases h
 case load t a=>exact .jU (run_lift _) (NC h (g a) S.mem)
 case fieldAddr s a k=>exact .jU (run_lift _) (NF h F (g a) w)
 case indexAddr t x i=>exact .jU (run_lift _) (NH h F (g x) (g i) w)
 case index t x i=>exact .jU (run_lift _) (NI h F (g x) (g i) w)
 case extract x k=>exact .jU (run_lift _) (NB h (g x) w)
 case binOp op t x y ty=>exact .jU (run_lift _) (Ny h F (g x) (g y) w x y)
 case unOp op t x=>exact .jU (run_lift _) (Nz h (g x) w)
 case convert s d x=>exact .jU (run_lift _) (NA h (g x) w)
 case makeFunc fn f c =>
  simp only[cG,iU] at h;obtain⟨_,j⟩:=h;subst j;obtain⟨l1,r1⟩:=uY (I:=I) (L:=L) g f.toList;obtain⟨l2,r2⟩:=uY (I:=I) (L:=L) g c.toList;refine .jU (run_lift _) ⟨_,?_,NJ l1 l2 r1 r2⟩;have X:∀l:Array Operand,l.map σ=(l.toList.map σ).toArray:=λl=>by apply Array.ext';simp
  simp only[Instr.makeFunc,Sem.run_pure,X]
 case build t parts=>obtain⟨r,G,A⟩:=NL h (wT g parts.toList) w;refine .jU (run_lift _) ⟨r,?_,A⟩;rw[<-G];congr 2;apply Array.ext';simp
 case buildSlice t n parts =>
  split at h
  ·rename_i e es Z;obtain⟨U,sz,G,_,_,al,hn,Y,hl,E,Q⟩:=wz Z (wT g parts.toList) w;have af:(Instr.buildSlice t n (parts.map λx=>(x.1,σ x.2))).run P w = .ok (.slice (some ⟨w.heap.size,0,none⟩) n n) (w.alloc (.cells U.toArray e)):=by rw[<-G];congr 2;apply Array.ext';simp
   refine⟨.slice (some ⟨w.heap.size,0,none⟩) n n,_,I.with w.heap.size U.toArray,L,.inl (by rw[run_lift,af];rfl),?_,Fr.Ei C I L H w _ e⟩;split at h
   ·simp only[cG,iU] at h;obtain⟨_,j⟩:=h;subst j;exact .p _ _ (.emp _)
   ·simp only[cG,iU] at h;obtain⟨_,j⟩:=h;subst j;have:=VR.Ej (w:=w) (us:=U) (rest:=[]) S.mem Y hl E Q (cap:=n) (by omega);rw[List.append_nil] at this;rw[hn] at this;exact .p _ _ this
  ·cases h
 case slice t x lo hi mx=>exact .jU (run_lift _) (NK h F (g x) (Er g lo) (Er g hi) (Er g mx) w)
 case nilCheck x =>
  have z:=g x;generalize σ x=u at z ⊢;generalize B x=a at h z;unfold Bb at h;split at h
  ·simp only[cG,iU] at h;obtain⟨_,j⟩:=h;subst j;cases z with
   |ptr id b off hl=>exact .still rfl (.ptr _ _ _ hl)
  ·simp only[cG,iU] at h;obtain⟨_,j⟩:=h;subst j;cases z with
   |p _ _ z=>cases z with
    |eF b base _ us o hl E Q hm=>exact .still rfl (.p _ _ (.eF b base _ us _ hl E Q hm))
  ·simp only[cG,iU] at h;obtain⟨_,j⟩:=h;subst j;cases z with
   |p _ _ z=>cases z with
    |iT _ us vs _ _ hl O E V=>exact .still rfl (.p _ _ (.iT _ us vs _ _ hl O E V))
  ·simp only[cG,iU] at h;obtain⟨_,j⟩:=h;subst j;cases z with
   |iT _ us vs _ _ hl O E V=>exact .still rfl (.iT _ us vs _ _ hl O E V)
  ·cases h
 case call c =>
  split at h
  ·rename_i b D;obtain⟨hl,G⟩:=uY (I:=I) (L:=L) g c.args.toList;unfold uX at h;split at h
   ·rename_i t a T A;have N:c.argTypes = #[t]:=by rw[<-Array.toArray_toList (xs:=c.argTypes),T]
    rw[A] at hl G;cases m:c.args.toList with
    |nil=>simp[m] at A
    |cons x r =>
     have R:r=[]:=by simpa[m] using congrArg List.length A
     subst R;have z:B x=a:=by simpa[m] using A
     have M:c.args = #[x]:=by rw[<-Array.toArray_toList (xs:=c.args),m]
     have:=Ep (ty:=o.type) h (z ▸ g x) w;refine .jU (s:=Builtin.len_ #[t] o.type #[σ x]) (λw=>?_) this;simp[resolve,D,invoke,builtin,N,M]
   ·rename_i t1 t2 a b T A;have N:c.argTypes = #[t1,t2]:=by rw[<-Array.toArray_toList (xs:=c.argTypes),T]
    cases m:c.args.toList with
    |nil=>simp[m] at A
    |cons x r =>
     cases r with
     |nil=>simp[m] at A
     |cons y r =>
      have R:r=[]:=by simpa[m] using congrArg List.length A
      subst R;have W:B x=a/\B y=b:=by simpa[m] using A
      have M:c.args = #[x,y]:=by rw[<-Array.toArray_toList (xs:=c.args),m]
      refine NN (ty:=o.type) h F S (W.1 ▸ g x) (W.2 ▸ g y) (λw=>?_);simp[resolve,D,invoke,builtin,N,M]
   ·rename_i k n r A;cases m:c.args.toList with
    |nil=>simp[m] at A
    |cons x xs =>
     have J:B x = .p (.val (.int k n))/\xs.map B=r:=by simpa[m] using A
     have z:=g x;rw[J.1] at z;obtain⟨q,K,j⟩:=H9 (P:=P) h (J.2 ▸ uY (I:=I) (L:=L) g xs) w;refine .jU (s:=(xs.map σ).foldlM Builtin.max2 (.int k n)) (λw=>?_) ⟨q,K,j⟩;simp[resolve,D,invoke,builtin,Builtin.max_,m,z.eT.1]
   ·rename_i k n r A;cases m:c.args.toList with
    |nil=>simp[m] at A
    |cons x xs =>
     have J:B x = .p (.val (.int k n))/\xs.map B=r:=by simpa[m] using A
     have z:=g x;rw[J.1] at z;obtain⟨q,K,j⟩:=Ia (P:=P) h (J.2 ▸ uY (I:=I) (L:=L) g xs) w;refine .jU (s:=(xs.map σ).foldlM Builtin.min2 (.int k n)) (λw=>?_) ⟨q,K,j⟩;simp[resolve,D,invoke,builtin,Builtin.min_,m,z.eT.1]
   ·cases h
  ·cases h
end Go.cv
namespace Go.cv
open Go.RowKit
variable{P:Program}{I:Mem}{L:bB}
def snap(w:World):Mem:=λb o=>w.cell? ⟨b,o,none⟩
theorem mG{w:World}(h:I.en w):I.sub (snap w):=λb o u a=>h b o u a
theorem Es(w:World):(snap w).en w:=λ_ _ _ h=>h
def rowOf(H:az)(id a:Nat):Option (List (List PV)):=match H id with
 |some (.row v _ _ es)=>if v=a then some es else none
 |some (.shut v es)=>if v=a then some es else none
 |some (.tail v _ _ es)=>if v=a then some es else none
 |_=>none
theorem zo{C:Ctx}{H:az}{env:Env}{tm:Array Value}{w:World}(d:iG C env H I L tm w){id z:Nat}{es:List (List PV)}(h:rowOf H id z=some es) :
  ∃b sz,L id=some (.row z b sz)/\VR (snap w) b (.aV es)/\(∀x∈es,x.length=sz)/\(es≠[]->∃g o n cap,b = .slice (some ⟨g,o,none⟩) n cap):=by
 unfold rowOf at h;split at h
 ·rename_i v e sz es' l;split at h
  ·rename_i m;simp at h;subst h m;obtain⟨b,us,k,f,q,i,r,p,A⟩:=d.chunk id _ l;refine⟨b,sz,k,?_,i,?_⟩
   ·have E:=bG i;have t:us.length=es'.flatten.length:=by rw[E];exact f.1
    rcases f.2 with ⟨rfl,y⟩|⟨g,cap,B,rfl,N,F,G,O,P,K⟩
    ·have D:es'=[]:=List.length_eq_zero_iff.1 y;subst D;exact .aV none 0 0 [] us sz rfl (by simp) t (λj u c a s=>(r j u c a s).mono (mG d.mem)) p (.inl (List.length_eq_zero_iff.1 (by simpa using t))) (λ_=>⟨rfl,rfl⟩) (Nat.le_refl _)
    ·refine .aV _ _ _ es' us sz rfl i t (λj u c a s=>(r j u c a s).mono (mG d.mem)) p (.inr ⟨g,0,rfl,λj u a=>?_⟩) (by simp) G;rw[Nat.zero_add];show w.cell? ⟨g,j,none⟩=some u;rw[gB F];rw[<-K,List.getElem?_take] at a;split at a
     ·simpa using a
     ·cases a
   ·intro J;rcases f.2 with ⟨rfl,y⟩|⟨g,cap,B,rfl,_⟩
    ·exact absurd (List.length_eq_zero_iff.1 y) J
    ·exact⟨g,0,_,cap,rfl⟩
  ·cases h
 ·rename_i v es' l;split at h
  ·rename_i m;simp at h;subst h m;obtain⟨b,sz,k,f,q,i⟩:=d.chunk id _ l;exact⟨b,sz,k,f.mono (mG d.mem),q,i⟩
  ·cases h
 ·rename_i v e sz es' l;split at h
  ·rename_i m;simp at h;subst h m;obtain⟨g,o,cap,arr,k,f,q,i,r,p,A,M⟩:=d.chunk id _ l;exact⟨_,sz,k,A.mono (mG d.mem),p,λ_=>⟨g,o,_,cap,rfl⟩⟩
  ·cases h
 ·cases h
theorem eP.live{C:Ctx}{H:az}{env:Env}{tm:Array Value}{w:World}(i:iG C env H I L tm w){id a:Nat}{es:List (List PV)}(h:rowOf H id a=some es){u:Value}
  (j:eP I L u (.row id a)):VR (snap w) u (.aV es):=by
 obtain⟨m,sz,e,f,l,_⟩:=zo i h;cases j with
 |row _ _ _ v k p hl n g o=>rw[e] at hl;simp only[cG,Loc.row.injEq] at hl;obtain⟨b,c,d⟩:=hl;subst b c d;rw[g rfl];exact f
def nB(P:Program)(o:Oper)(d:Operand->AV)(H:az):Option (Prop×AV):=match o.op with
 | .load t a=>match d a with
  | .ptr id off=>match H id with
   |some (.box cs)=>match tc P t cs off with|some v=>some (True,v)|none=>none
   |_=>none
  | .jD id b i off=>match rowOf H id b with
   |some es=>match td P t (es.getD i []) off with|some x=>some (i<es.length/\0<(es.getD i []).length,.p x)|none=>none
   |none=>none
  |_=>none
 | .fieldAddr s a k=>match d a,bM P s k with
  | .jD id b i off,some (o,n)=>match rowOf H id b with
   |some _=>some (n≠0,.jD id b i (off+o))
   |none=>none
  |_,_=>none
 | .indexAddr t x i=>match d x,d i with
  | .row id b,.p (.val (.int _ n))=>match rowOf H id b,cT P t with
   |some es,some e=>match bu P e with
    |some sz=>some ((0<=n/\n<es.length)/\(es.getD n.toNat []).length=sz/\0<sz,.jD id b n.toNat 0)
    |none=>none
   |_,_=>none
  |_,_=>none
 | .call c=>match c.callee,c.argTypes.toList,c.args.toList.map d with
  | .builtin .len,[t],[.row id b]=>match rowOf H id b with
   |some es=>rP P t (.p (.aV es))
   |none=>none
  |_,_,_=>none
 |_=>none
theorem Ib{w:World}{t:TypeId}{b base off:Nat}{us:List Value}{cs:List PV}{x:PV}(h:td P t cs off=some x)
  (hl:us.length=cs.length) (g:∀ (j:Nat) u c,us[j]? = some u->cs[j]? = some c->VR I u c) (a:∀u∈us,u.oneCell'=true)
  (d:∀ (j:Nat) u,us[j]? = some u->w.cell? ⟨b,base+j,none⟩=some u) :
  ∃u,(Instr.loadAt t (.pointer (some ⟨b,base+off,none⟩))).run P w = .ok u w/\VR I u x:=by
 obtain⟨u,e,f⟩:=HN (I:=I) h hl g a d;exact⟨u,by simp[Instr.loadAt,Instr.sureAddr,e],f⟩
theorem NP{C:Ctx}{H:az}{env:Env}{tm:Array Value}{w:World}(x:iG C env H I L tm w){id G:Nat}{es:List (List PV)}(h:rowOf H id G=some es)
  {i:Nat} (p:i<es.length) (O:0<(es.getD i []).length) {u:Value} {off:Nat} (a:eP I L u (.jD id G i off)):∃b base,u = .pointer (some ⟨b,base+off,none⟩)/\∃us:List Value,us.length=(es.getD i []).length /\
   (∀ (j:Nat) u c,us[j]? = some u->(es.getD i [])[j]? = some c->VR I u c)/\(∀u∈us,u.oneCell'=true)/\∀ (j:Nat) u,us[j]? = some u->w.cell? ⟨b,base+j,none⟩=some u:=by
 have h0:=h;unfold rowOf at h;split at h
 ·rename_i v e sz es' s;split at h
  ·rename_i y;simp at h;subst h y;obtain⟨ab,us,r,m,z,A,Y,Z,h7⟩:=x.chunk id _ s;cases a with
   |jD _ _ _ v _ _ J k hl M t N =>
    rw[r] at hl;simp only[cG,Loc.row.injEq] at hl;obtain⟨d,f,l⟩:=hl;subst d f l;obtain⟨g,o,n,cap,d,f⟩:=t rfl;subst d f;rcases m.2 with ⟨P,_⟩|⟨g',_,_,K,_⟩
    ·cases P
    simp only[Value.slice.injEq,cG,Addr.mk.injEq] at K;obtain⟨⟨_,rfl,_⟩,_,_⟩:=K;have F:(es'.getD i []).length=sz:=A _ (by
     have:es'.getD i []=es'[i]:=by simp[p]
     rw[this];exact l8 _)
    have ao:=bG A;have ap:(i+1) * sz<=es'.length * sz:=Nat.mul_le_mul_right _ p;have ak:(i+1) * sz=i * sz+sz:=by rw[Nat.add_mul];omega
    have aq:=m.1;refine⟨g,i * sz,by rw[Nat.zero_add],(us.drop (i * sz)).take sz,by rw[List.length_take,List.length_drop,F];omega,?_,?_,?_⟩
    ·intro j u c a hc;rw[List.getElem?_take] at a;split at a
     ·rename_i hj;rw[List.getElem?_drop] at a;exact Y _ u c a (by rw[iH A i j p hj];exact hc)
     ·cases a
    ·intro u a;exact Z u (List.mem_of_mem_drop (List.mem_of_mem_take a))
    ·intro j u a;rw[List.getElem?_take] at a;split at a
     ·rw[List.getElem?_drop] at a;have:=m.cells (g:=g) rfl _ u a;rwa [Addr.add_mid,Nat.zero_add] at this
     ·cases a
  ·cases h
 ·rename_i v es' s;split at h
  ·rename_i y;simp at h;subst h y;obtain⟨ab,sz,r,m,z,A⟩:=x.chunk id _ s;cases a with
   |jD _ _ _ v _ _ J k hl M t N =>
    rw[r] at hl;simp only[cG,Loc.row.injEq] at hl;obtain⟨d,f,l⟩:=hl;subst d f l;obtain⟨g,o,n,cap,d,f⟩:=t rfl;subst d f;obtain⟨b,af,len,Q,k,q,V,W,us,X,B,D,E⟩:=m.elem p O;simp only[Value.slice.injEq,cG,Addr.mk.injEq] at q;obtain⟨⟨r1,r2,_⟩,_,_⟩:=q;subst r1 r2;have F:(es'.getD i []).length=sz:=z _ (by
     have:es'.getD i []=es'[i]:=by simp[p]
     rw[this];exact l8 _)
    have:k=sz:=by omega
    subst this;exact⟨g,o+i * k,by rw[Nat.add_assoc],us,by omega,B,D,λj u a=>x.mem _ _ _ (E j u a)⟩
  ·cases h
 ·rename_i v e sz es' s;split at h
  ·rename_i y;simp at h;subst h y;obtain⟨U,o0,ai,arr,r,k2,k3,k4,k5,z,m,k8⟩:=x.chunk id _ s;cases a with
   |jD _ _ _ v _ _ J k hl M t N =>
    rw[r] at hl;simp only[cG,Loc.row.injEq] at hl;obtain⟨d,f,l⟩:=hl;subst d f l;obtain⟨g,o,n,cap,d,f⟩:=t rfl;simp only[Value.slice.injEq,cG,Addr.mk.injEq] at d;obtain⟨⟨l,R,_⟩,S,T⟩:=d;subst f l R S T;obtain⟨b,af,len,Q,k,q,V,W,us,X,B,D,E⟩:=m.elem p O;simp only[Value.slice.injEq,cG,Addr.mk.injEq] at q;obtain⟨⟨r1,r2,_⟩,_,_⟩:=q;subst r1 r2;have F:(es'.getD i []).length=sz:=z _ (by
     have:es'.getD i []=es'[i]:=by simp[p]
     rw[this];exact l8 _)
    have:k=sz:=by omega
    subst this;exact⟨U,o0+i * k,by rw[Nat.add_assoc],us,by omega,B,D,λj u a=>x.mem _ _ _ (E j u a)⟩
  ·cases h
 ·cases h
theorem NQ{o:Oper}{y:Operand->AV}{v:AV}{pre:Prop}{H:az}(h:nB P o y H=some (pre,v))(O:pre){C:Ctx}{env:Env}{tm:Array Value}{w:World}
  (E:iG C env H I L tm w) {σ:Operand->Value} (K:∀x,eP I L (σ x) (y x)):pz P C H I L w ((execOp σ o).run P w) v H:=by
 unfold nB at h;unfold execOp;split at h
 ·rename_i t a l;simp only[l];have d:=K a;generalize σ a=u at d ⊢;generalize y a=X at h d;split at h
  ·rename_i id off;split at h
   ·rename_i cs hH;split at h
    ·rename_i r W;simp only[cG,iU] at h;obtain⟨_,f⟩:=h;subst f;obtain⟨b,arr,e,g1,g2,g3,g4,g5,g6⟩:=E.chunk id _ hH;cases d with
     |ptr _ b' _ hl =>
      rw[g1] at hl;simp only[cG,Loc.box.injEq] at hl;subst hl;obtain⟨u,A,G⟩:=CH (I:=I) (L:=L) (w:=w) (b:=b) (base:=0) (us:=arr.toList) W (by simpa using g3) (λj u c F S=>g4 j u c (by simpa using F) S)
       (λu F=>by
        obtain⟨j,hj⟩:=List.mem_iff_getElem?.1 F;exact g5 j u (by simpa using hj)) (λj u F=>by rw[Nat.zero_add,gB g2];simpa using F)
      rw[Nat.zero_add] at A;exact .jU (run_lift _) ⟨u,by simp[Instr.loadAt,Instr.sureAddr,A],G⟩
    ·cases h
   ·cases h
  ·rename_i id M i off;split at h
   ·rename_i es q;split at h
    ·rename_i x W;simp only[cG,iU] at h;obtain⟨D,f⟩:=h;subst D f;obtain⟨b,base,rfl,us,q1,q2,q3,q4⟩:=NP E q O.1 O.2 d;obtain⟨u,A,G⟩:=Ib (P:=P) W q1 q2 q3 q4;exact .jU (run_lift _) ⟨u,A,.p _ _ G⟩
    ·cases h
   ·cases h
  ·cases h
 ·rename_i s a k l;simp only[l];have d:=K a;generalize σ a=u at d ⊢;generalize y a=X at h d;split at h
  ·rename_i id M i off of n hf;split at h
   ·rename_i es q;simp only[cG,iU] at h;obtain⟨D,f⟩:=h;subst D f;obtain⟨ap,sz,l1,_⟩:=zo E q;cases d with
    |jD _ _ _ v _ _ fo R hl ax T aN=>have l2:=hl;rw[l1] at hl;simp only[cG,Loc.row.injEq] at hl;obtain⟨z,B,Z⟩:=hl;subst z B Z;obtain⟨g,o,Q,cap,z,B⟩:=T rfl;subst z B;refine .jU (run_lift _) ⟨_,vT hf O w _ _,.jD _ _ _ _ _ _ _ _ l1 (Nat.le_refl _) (λ_=>⟨g,o,Q,cap,rfl,by rw[Nat.add_assoc,Nat.add_assoc]⟩) rfl⟩
   ·cases h
  ·cases h
 ·rename_i t x i l;simp only[l];have J:=K x;have U:=K i;generalize σ x=u at J ⊢;generalize y x=X at h J;generalize σ i=ui at U ⊢;generalize y i=ai at h U;split at h
  ·rename_i id M k n;split at h
   ·rename_i es e q he;split at h
    ·rename_i sz a0;simp only[cG,iU] at h;obtain⟨D,f⟩:=h;subst D f;obtain⟨⟨h0,bd⟩,aA,bi⟩:=O;obtain⟨rfl,_⟩:=U.eT;obtain⟨m,rfl⟩:=Int.eq_ofNat_of_zero_le h0;simp only[Int.toNat_natCast] at aA ⊢;have V:m<es.length:=by omega
     obtain⟨ap,R,l1,l2,l3,l4⟩:=zo E q;have aM:es≠[]:=λe=>by subst e;simp at V
     obtain⟨g,o,Q,cap,rfl⟩:=l4 aM;obtain⟨_,_,z,_⟩:=l2.HS;simp only[Value.slice.injEq] at z;have be:(es.getD m []).length=R:=l3 _ (by
      have:es.getD m []=es[m]:=by simp[V]
      rw[this];exact l8 _)
     have B:R=sz:=by omega
     subst B;cases J with
     |row _ _ _ v fo bj hl ax T aN =>
      rw[l1] at hl;simp only[cG,Loc.row.injEq] at hl;obtain⟨r1,r2,r3⟩:=hl;subst r1 r2 r3;rw[T rfl];have aE:m<Q:=by rw[z.2.1];exact V
      refine .jU (run_lift _) ⟨.pointer (some ⟨g,o+m * R,none⟩),?_,.jD _ _ _ _ _ _ _ _ l1 (Nat.le_refl _) (λ_=>⟨g,o,Q,cap,rfl,by simp⟩) rfl⟩;simp[Instr.indexAt,asIntOf,run_underlying (fP he),dX a0,Addr.add_mid,aE]
    ·cases h
   ·cases h
  ·cases h
 ·rename_i c l;simp only[l];split at h
  ·rename_i t id M S ht d;split at h
   ·rename_i es q;have ao:c.argTypes = #[t]:=by rw[<-Array.toArray_toList (xs:=c.argTypes),ht]
    cases N:c.args.toList with
    |nil=>simp[N] at d
    |cons x r =>
     have aP:r=[]:=by simpa[N] using congrArg List.length d
     subst aP;have J:y x = .row id M:=by simpa[N] using d
     have an:c.args = #[x]:=by rw[<-Array.toArray_toList (xs:=c.args),N]
     have Y:=eP.live E q (J ▸ K x);obtain⟨u,A,G⟩:=Ep (ty:=o.type) (I:=snap w) (L:=L) h (.p _ _ Y) w;have a2:∃n,v = .p (.val (.int .i64 n)):=by
      unfold rP at h;simp only at h;split at h
      ·simp only[cG,iU] at h;exact⟨_,h.2.symm⟩
      ·cases h
     obtain⟨n,rfl⟩:=a2;have:=G.eT.1;subst this;refine .jU (s:=Builtin.len_ #[t] o.type #[σ x]) (λw=>?_) ⟨_,A,.p _ _ (.val _ rfl)⟩;simp[resolve,S,invoke,builtin,ao,an]
   ·cases h
  ·cases h
 ·cases h
theorem sZ.snap{w:World}{B:Nat}{u:Value}{e:TypeId}{sz:Nat}{es:List (List PV)}{us:List Value}(h:sZ w B I u e sz es us)(f:I.en w):VR (snap w) u (.aV es):=by
 have k:=bG h.all;have d:us.length=es.flatten.length:=by rw[k];exact h.own.1
 rcases h.own.2 with ⟨rfl,m⟩|⟨g,cap,p,rfl,q,l,n,r,s,o⟩
 ·have i:es=[]:=List.length_eq_zero_iff.1 m;subst i;exact .aV none 0 0 [] us sz rfl (by simp) d (λj u c a b=>(h.val j u c a b).mono (mG f)) h.one (.inl (List.length_eq_zero_iff.1 (by simpa using d))) (λ_=>⟨rfl,rfl⟩) (Nat.le_refl _)
 ·refine .aV _ _ _ es us sz rfl h.all d (λj u c a b=>(h.val j u c a b).mono (mG f)) h.one (.inr ⟨g,0,rfl,λj u a=>?_⟩) (by simp) n;rw[Nat.zero_add];show w.cell? ⟨g,j,none⟩=some u;rw[gB l];rw[<-o,List.getElem?_take] at a;split at a
  ·simpa using a
  ·cases a
theorem sZ.CN{w:World}{B:Nat}{u:Value}{e:TypeId}{sz:Nat}{es:List (List PV)}{us:List Value}{J:Mem}(h:sZ w B I u e sz es us)(i:I.sub J)
  (k:∀b,u.ownBlock=some b->∀o v,w.cell? ⟨b,o,none⟩=some v->J b o=some v):VR J u (.aV es):=by
 have m:=bG h.all;have f:us.length=es.flatten.length:=by rw[m];exact h.own.1
 rcases h.own.2 with ⟨rfl,p⟩|⟨g,cap,s,rfl,t,n,q,x,y,r⟩
 ·have l:es=[]:=List.length_eq_zero_iff.1 p;subst l;exact .aV none 0 0 [] us sz rfl (by simp) f (λj u c a d=>(h.val j u c a d).mono i) h.one (.inl (List.length_eq_zero_iff.1 (by simpa using f))) (λ_=>⟨rfl,rfl⟩) (Nat.le_refl _)
 ·refine .aV _ _ _ es us sz rfl h.all f (λj u c a d=>(h.val j u c a d).mono i) h.one (.inr ⟨g,0,rfl,λj u a=>?_⟩) (by simp) q;rw[Nat.zero_add];refine k g rfl j u ?_;rw[gB n];rw[<-r,List.getElem?_take] at a;split at a
  ·simpa using a
  ·cases a
theorem Ic{w:World}{B:Nat}{r:Value}{e K:TypeId}{sz k Y:Nat}{es:List (List PV)}{us:List Value}{a:Nat->Value}{J:Mem}(h:sZ w B I r e sz (fO k a es) us)(p:∀x∈es,x.length=sz)
  (O:BH w B I k K Y a es) (G:I.sub J) (t:∀b,(r.ownBlock=some b\/∃i,i<es.length/\(a i).ownBlock=some b)->∀o v,w.cell? ⟨b,o,none⟩=some v->J b o=some v):VR J r (.aV es):=by
 have L:=h.CN G λb q=>t b (.inl q)
 cases L with
 |aV H n cap _ Z ad A aa hl E T R S M =>
  rw[fV] at A;have y:=bG p;have U:(fO k a es).flatten.length=es.length * sz:=by rw[bG h.all,fV]
  refine .aV H n cap es Z sz A p (by rw[hl,U,y]) (λj u c D d=>?_) T R S M;have Q:j<es.length * sz:=by rw[<-y];exact (List.getElem?_eq_some_iff.1 d).1
  have C:=h.pos;have f:j / sz<es.length:=(Nat.div_lt_iff_lt_mul C).2 Q;have s:j % sz<sz:=Nat.mod_lt _ C;have P:j=j / sz * sz+j % sz:=(Nat.div_add_mod' j sz).symm;generalize j / sz=i at *;generalize j % sz=m at *;subst P;rw[iH p i m f s] at d;have g:=iH h.all i m (by rw[fV];exact f) s;have N:(fO k a es).getD i []=(es.getD i []).set k (.val (a i)):=by rw[List.getD_eq_getElem?_getD,uF];simp[f]
  rw[N] at g;by_cases z:k=m
  ·subst z;have F:es[i]? = some (es.getD i []):=by simp[f]
   obtain⟨l,ae,W,X,q3⟩:=O i _ F;rw[W] at d;simp only[cG] at d;subst d;have V:(es.getD i []).length=sz:=p _ (List.mem_of_getElem? F);rw[List.getElem?_set,if_pos rfl,if_pos (by rw[V];exact s)] at g;have:=E _ u _ D g;cases this;exact X.CN G λb q=>t b (.inr ⟨i,f,q⟩)
  ·rw[List.getElem?_set,if_neg z,d] at g;exact E _ u c D g
theorem sZ.elem{w:World}{B:Nat}{u:Value}{e:TypeId}{sz:Nat}{es:List (List PV)}{us:List Value}(h:sZ w B I u e sz es us){i:Nat}(b:i<es.length):∃g cap,u = .slice (some ⟨g,0,none⟩) es.length cap/\∃vs:List Value,vs.length=sz /\
  (∀ (j:Nat) u c,vs[j]? = some u->(es.getD i [])[j]? = some c->VR I u c)/\(∀u∈vs,u.oneCell'=true)/\∀ (j:Nat) u,vs[j]? = some u->w.cell? ⟨g,i * sz+j,none⟩=some u:=by
 rcases h.own.2 with ⟨_,r⟩|⟨g,cap,l,rfl,m,p,s,n,o,v⟩
 ·omega
 have q:(i+1) * sz<=es.length * sz:=Nat.mul_le_mul_right _ b;have k:(i+1) * sz=i * sz+sz:=by rw[Nat.add_mul];omega
 have t:=h.own.1;refine⟨g,cap,rfl,(us.drop (i * sz)).take sz,by rw[List.length_take,List.length_drop];omega,?_,?_,?_⟩
 ·intro j u c a d;rw[List.getElem?_take] at a;split at a
  ·rename_i f;rw[List.getElem?_drop] at a;exact h.val _ u c a (by rw[iH h.all i j b f];exact d)
  ·cases a
 ·intro u a;exact h.one u (List.mem_of_mem_drop (List.mem_of_mem_take a))
 ·intro j u a;rw[List.getElem?_take] at a;split at a
  ·rw[List.getElem?_drop] at a;have:=h.own.cells (g:=g) rfl _ u a;rwa [Addr.add_mid,Nat.zero_add] at this
  ·cases a
def cU(H:az)(id a:Nat):Option (Nat×List (List PV)):=match H id with
 |some (.deep v _ _ k _ _ es)=>if v=a then some (k,es) else none
 |_=>none
def nS(r:Option (Nat×List (List PV)))(i:Nat):Option (List (List PV)):=match r with
 |some (k,es)=>(match (es.getD i [])[k]? with
  |some (.aV l)=>some l
  |_=>none)
 |none=>none
def AJ(id a i k:Nat)(x:List PV):List AV:=(x.map AV.p).set k (.kY id a i)
theorem kF{C:Ctx}{H:az}{env:Env}{tm:Array Value}{w:World}(p:iG C env H I L tm w){id f k:Nat}{es:List (List PV)}(h:cU H id f=some (k,es)) :
  ∃b sz c e d us a,L id=some (.deep f b sz c a es.length)/\sZ w C.B I b e sz (fO k a es) us/\b.oneCell'=true/\k<sz/\(∀x∈es,x.length=sz)/\BH w C.B I k d c a es:=by
 unfold cU at h;split at h
 ·rename_i v e sz s d c es' o;split at h
  ·rename_i q;simp only[cG,iU] at h;obtain⟨rfl,rfl⟩:=h;subst q;obtain⟨b,us,a,g,i,j,l,m,n,r⟩:=p.chunk id _ o;exact⟨b,sz,c,e,d,us,a,g,i,j,l,m,n⟩
  ·cases h
 ·cases h
theorem xL{k:Nat}{es:List (List PV)}{i:Nat}{l:List (List PV)}(h:nS (some (k,es)) i=some l):i<es.length/\∃x,es[i]? = some x/\x[k]? = some (.aV l):=by
 simp only[nS] at h;split at h
 ·rename_i l' hl;simp only[cG] at h;subst h;have a:i<es.length:=by
   rcases Nat.lt_or_ge i es.length with h|h
   ·exact h
   ·rw[List.getD_eq_getElem?_getD,List.getElem?_eq_none h] at hl;simp at hl
  exact⟨a,es[i],by simp[a],by simpa[a] using hl⟩
 ·cases h
def xM(P:Program)(o:Oper)(d:Operand->AV)(H:az):Option (Prop×AV):=match o.op with
 | .load t a=>match d a with
  | .kX id b i off=>match cU H id b with
   |some (k,es)=>match tc P t (AJ id b i k (es.getD i [])) off with|some v=>some (i<es.length,v)|none=>none
   |none=>none
  | .nR id b i j off=>match nS (cU H id b) i with
   |some l=>match td P t (l.getD j []) off with|some x=>some (j<l.length,.p x)|none=>none
   |none=>none
  |_=>none
 | .fieldAddr s a k=>match d a,bM P s k with
  | .kX id b i off,some (o,n)=>match cU H id b with
   |some _=>some (n≠0,.kX id b i (off+o))
   |none=>none
  |_,_=>none
 | .indexAddr t x i=>match d x,d i with
  | .eY id b,.p (.val (.int _ n))=>match cU H id b,cT P t with
   |some (_,es),some e=>match bu P e with
    |some sz=>some ((0<=n/\n<es.length)/\(es.getD n.toNat []).length=sz,.kX id b n.toNat 0)
    |none=>none
   |_,_=>none
  | .kY id b i,.p (.val (.int _ n))=>match nS (cU H id b) i,cT P t with
   |some l,some e=>match bu P e with
    |some sz=>some ((0<=n/\n<l.length)/\(l.getD n.toNat []).length=sz,.nR id b i n.toNat 0)
    |none=>none
   |_,_=>none
  |_,_=>none
 | .call c=>match c.callee,c.argTypes.toList,c.args.toList.map d with
  | .builtin .len,[t],[.eY id b]=>match cU H id b with
   |some (_,es)=>rP P t (.p (.aV es))
   |none=>none
  | .builtin .len,[t],[.kY id b i]=>match nS (cU H id b) i with
   |some l=>rP P t (.p (.aV l))
   |none=>none
  |_,_,_=>none
 |_=>none
def r0(H:az)(id a:Nat):Option (Nat×List (List PV)):=match H id with
 |some (.row v _ sz es)=>if v=a then some (sz,es) else none
 |_=>none
def yZ(P:Program)(o:Oper)(b:Operand->AV)(H:az):Option (Prop×AV):=match o.op with
 | .indexAddr t x i=>match b x,b i with
  | .iV id a off m _ _,.p (.val (.int _ n))=>match r0 H id a,cT P t with
   |some (sz,es),some e=>match bu P e with
    |some c=>some ((0<=n/\n<m/\off+m<=es.length)/\c=sz,.jD id a (off+n.toNat) 0)
    |none=>none
   |_,_=>none
  |_,_=>none
 |_=>none
def sS(P:Program)(o:Oper)(a:Operand->AV)(H:az):Option (Prop×AV):=match nB P o a H with
 |some r=>some r
 |none=>match xM P o a H with
  |some r=>some r
  |none=>yZ P o a H
theorem NR{o:Oper}{c:Call}{e:Operand->AV}{v:AV}{pre:Prop}{t:TypeId}{a:AV}{es:List (List PV)}(k:o.op = .call c)(j:c.callee = .builtin .len)(q:c.argTypes.toList=[t])(d:c.args.toList.map e=[a])
  (hl:∀u,eP I L u a->∃J,VR J u (.aV es)) (h:rP P t (.p (.aV es))=some (pre,v)) (D:pre) {C:Ctx} {H:az} {w:World} {σ:Operand->Value} (B:∀x,eP I L (σ x) (e x)):pz P C H I L w ((execOp σ o).run P w) v H:=by
 unfold execOp;simp only[k];have i:c.argTypes = #[t]:=by rw[<-Array.toArray_toList (xs:=c.argTypes),q]
 cases b:c.args.toList with
 |nil=>simp[b] at d
 |cons x r =>
  have l:r=[]:=by simpa[b] using congrArg List.length d
  subst l;have A:e x=a:=by simpa[b] using d
  have g:c.args = #[x]:=by rw[<-Array.toArray_toList (xs:=c.args),b]
  obtain⟨J,f⟩:=hl _ (A ▸ B x);obtain⟨u,m,y⟩:=Ep (ty:=o.type) (I:=J) (L:=L) h (.p _ _ f) w;have z:∃n,v = .p (.val (.int .i64 n)):=by
   unfold rP at h;simp only at h;split at h
   ·simp only[cG,iU] at h;exact⟨_,h.2.symm⟩
   ·cases h
  obtain⟨n,rfl⟩:=z;have:=y.eT.1;subst this;refine .jU (s:=Builtin.len_ #[t] o.type #[σ x]) (λw=>?_) ⟨_,m,.p _ _ (.val _ rfl)⟩;simp[resolve,j,invoke,builtin,i,g]
theorem NS{o:Oper}{ρ:Operand->AV}{v:AV}{pre:Prop}{H:az}(h:xM P o ρ H=some (pre,v))(U:pre){C:Ctx}{env:Env}{tm:Array Value}{w:World}
  (V:iG C env H I L tm w) {σ:Operand->Value} (aE:∀x,eP I L (σ x) (ρ x)):pz P C H I L w ((execOp σ o).run P w) v H:=by
 unfold xM at h;unfold execOp;split at h
 ·rename_i t a T;simp only[T];have A:=aE a;generalize σ a=u at A ⊢;generalize ρ a=av at h A;split at h
  ·rename_i id R i off;split at h
   ·rename_i k es f;split at h
    ·rename_i r hr;simp only[cG,iU] at h;obtain⟨N,S⟩:=h;subst N S;obtain⟨an,sz,D,e,e',us,E,z,X,q3,q4,q5,Y⟩:=kF V f;have Z:i<(fO k E es).length:=by rw[fV];exact U
     obtain⟨g,cap,rfl,vs,r1,r2,r3,r4⟩:=X.elem Z;have xK:(fO k E es).getD i []=(es.getD i []).set k (.val (E i)):=by rw[List.getD_eq_getElem?_getD,uF];simp[U]
     have a1:(es.getD i []).length=sz:=q5 _ (by
      have:es.getD i []=es[i]:=by simp[U]
      rw[this];exact l8 _)
     cases A with
     |kX _ _ _ v _ _ fo _ _ lU n hl ao B ap =>
      rw[z] at hl;simp only[cG,Loc.deep.injEq] at hl;obtain⟨d,q,F,G,K,M⟩:=hl;subst d q F G K M;obtain⟨g',o',m,bp,d,rfl⟩:=B rfl;simp only[Value.slice.injEq,cG,Addr.mk.injEq] at d;obtain⟨⟨d,q,_⟩,_⟩:=d;subst d q;obtain⟨u,a7,a9⟩:=CH (I:=I) (L:=L) (w:=w) (b:=g) (base:=i * sz) (us:=vs) hr (by rw[r1,AJ,List.length_set,List.length_map,a1]) (λj u c hu y=>by
       unfold AJ at y;rw[List.getElem?_set] at y;have bN:j<sz:=by rw[<-r1];exact (List.getElem?_eq_some_iff.1 hu).1
       split at y
       ·rename_i hj;subst hj;split at y
        ·simp only[cG] at y;subst y;have:=r2 _ u (.val (E i)) hu (by rw[xK,List.getElem?_set,if_pos rfl,if_pos (by rw[a1];exact bN)]);cases this with
         |val _ N=>exact .kY _ _ _ _ _ _ _ _ _ _ z (Nat.le_refl _) (λ_=>rfl) N
        ·cases y
       ·rename_i hj;rw[List.getElem?_map] at y;cases W:(es.getD i [])[j]? with
        |none=>rw[W] at y;cases y
        |some c' =>
         rw[W] at y;simp only[Option.map_some,cG] at y;subst y;exact .p _ _ (r2 j u c' hu (by rw[xK,List.getElem?_set,if_neg hj];exact W))) r3 r4
      have:(0:Nat)+(i * sz+off)=i * sz+off:=by omega
      rw[this];exact .jU (run_lift _) ⟨u,by simp[Instr.loadAt,Instr.sureAddr,a7],a9⟩
    ·cases h
   ·cases h
  ·rename_i id R i j off;split at h
   ·rename_i l f;split at h
    ·rename_i x hr;simp only[cG,iU] at h;obtain⟨N,S⟩:=h;subst N S;cases O:cU H id R with
     |none=>rw[O] at f;cases f
     |some ke =>
      obtain⟨k,es⟩:=ke;rw[O] at f;obtain⟨Z,x',ax,aA⟩:=xL f;obtain⟨an,sz,D,e,e',us,E,z,X,q3,q4,q5,Y⟩:=kF V O;obtain⟨l',bj,Q,m2,m3⟩:=Y i x' ax;rw[aA] at Q;simp only[cG,PV.aV.injEq] at Q;subst Q;obtain⟨g,cap,hg,vs,r1,r2,r3,r4⟩:=m2.elem U;have a1:(l.getD j []).length=D:=m2.all _ (by
       have:l.getD j []=l[j]:=by simp[U]
       rw[this];exact l8 _)
      cases A with
      |nR _ _ _ v _ _ _ fo _ _ lU n hl ao B ap =>
       rw[z] at hl;simp only[cG,Loc.deep.injEq] at hl;obtain⟨d,q,F,G,K,M⟩:=hl;subst d q F G K M;obtain⟨g',o',m,bp,d,rfl⟩:=B rfl;rw[hg] at d;simp only[Value.slice.injEq,cG,Addr.mk.injEq] at d;obtain⟨⟨d,q,_⟩,_⟩:=d;subst d q;obtain⟨u,a7,a9⟩:=Ib (P:=P) (base:=j * D) hr (by rw[r1,a1]) r2 r3 r4;have:(0:Nat)+(j * D+off)=j * D+off:=by omega
       rw[this];exact .jU (run_lift _) ⟨u,a7,.p _ _ a9⟩
    ·cases h
   ·cases h
  ·cases h
 ·rename_i s a k T;simp only[T];have A:=aE a;generalize σ a=u at A ⊢;generalize ρ a=av at h A;split at h
  ·rename_i id R i off of n hf;split at h
   ·rename_i ke f;simp only[cG,iU] at h;obtain⟨N,S⟩:=h;subst N S;obtain⟨k,es⟩:=ke;obtain⟨an,sz,D,e,e',us,E,z,_⟩:=kF V f;cases A with
    |kX _ _ _ v _ _ fo _ _ lU n' hl ao B ap=>rw[z] at hl;simp only[cG,Loc.deep.injEq] at hl;obtain⟨d,q,F,G,K,M⟩:=hl;subst d q F G K M;obtain⟨g,o,m,cap,d,rfl⟩:=B rfl;refine .jU (run_lift _) ⟨_,vT hf U w _ _,.kX _ _ _ _ _ _ _ _ _ _ _ z (Nat.le_refl _) (λ_=>⟨g,o,m,cap,d,by rw[Nat.add_assoc,Nat.add_assoc]⟩) rfl⟩
   ·cases h
  ·cases h
 ·rename_i t x i T;simp only[T];have W:=aE x;have Z:=aE i;generalize σ x=u at W ⊢;generalize ρ x=av at h W;generalize σ i=ui at Z ⊢;generalize ρ i=ai at h Z;split at h
  ·rename_i id R kk n;split at h
   ·rename_i k es e0 f he;split at h
    ·rename_i sz0 a8;simp only[cG,iU] at h;obtain⟨N,S⟩:=h;subst N S;obtain⟨⟨h0,b0⟩,ar⟩:=U;obtain⟨rfl,_⟩:=Z.eT;obtain⟨m,rfl⟩:=Int.eq_ofNat_of_zero_le h0;simp only[Int.toNat_natCast] at ar ⊢;have hm:m<es.length:=by omega
     obtain⟨an,sz,D,e,e',us,E,z,X,q3,q4,q5,Y⟩:=kF V f;obtain⟨g,cap,rfl,_⟩:=X.elem (i:=m) (by rw[fV];exact hm);rw[fV] at z;have b1:(es.getD m []).length=sz:=q5 _ (by
      have:es.getD m []=es[m]:=by simp[hm]
      rw[this];exact l8 _)
     have q:sz=sz0:=by omega
     subst q;cases W with
     |eY _ _ _ v fo _ _ lU n' hl ao B ap=>rw[z] at hl;simp only[cG,Loc.deep.injEq] at hl;obtain⟨d,q,F,G,K,M⟩:=hl;subst d q F G K M;rw[B rfl];refine .jU (run_lift _) ⟨.pointer (some ⟨g,0+m * sz,none⟩),?_,.kX _ _ _ _ _ _ _ _ _ _ _ z (Nat.le_refl _) (λ_=>⟨g,0,es.length,cap,rfl,by simp⟩) rfl⟩;simp[Instr.indexAt,asIntOf,run_underlying (fP he),dX a8,Addr.add_mid,hm]
    ·cases h
   ·cases h
  ·rename_i id R ii kk n;split at h
   ·rename_i l e0 f he;split at h
    ·rename_i sz0 a8;simp only[cG,iU] at h;obtain⟨N,S⟩:=h;subst N S;obtain⟨⟨h0,b0⟩,ar⟩:=U;obtain⟨rfl,_⟩:=Z.eT;obtain⟨m,rfl⟩:=Int.eq_ofNat_of_zero_le h0;simp only[Int.toNat_natCast] at ar ⊢;have hm:m<l.length:=by omega
     cases O:cU H id R with
     |none=>rw[O] at f;cases f
     |some ke =>
      obtain⟨k,es⟩:=ke;rw[O] at f;obtain⟨bE,x',ax,aA⟩:=xL f;obtain⟨an,sz,D,e,e',us,E,z,X,q3,q4,q5,Y⟩:=kF V O;obtain⟨l',bj,Q,m2,m3⟩:=Y ii x' ax;rw[aA] at Q;simp only[cG,PV.aV.injEq] at Q;subst Q;obtain⟨g,cap,hg,_⟩:=m2.elem hm;have b1:(l.getD m []).length=D:=m2.all _ (by
       have:l.getD m []=l[m]:=by simp[hm]
       rw[this];exact l8 _)
      have q:D=sz0:=by omega
      subst q;cases W with
      |kY _ _ _ v _ fo _ _ lU n' hl ao B ap=>rw[z] at hl;simp only[cG,Loc.deep.injEq] at hl;obtain⟨d,q,F,G,K,M⟩:=hl;subst d q F G K M;rw[B rfl,hg];refine .jU (run_lift _) ⟨.pointer (some ⟨g,0+m * D,none⟩),?_,.nR _ _ _ _ _ _ _ _ _ _ _ _ z (Nat.le_refl _) (λ_=>⟨g,0,l.length,cap,hg,by simp⟩) rfl⟩;simp[Instr.indexAt,asIntOf,run_underlying (fP he),dX a8,Addr.add_mid,hm]
    ·cases h
   ·cases h
  ·cases h
 ·rename_i c T;simp only[T];have one:∀ (t:TypeId) (a:AV) (es:List (List PV)),c.callee = .builtin .len->c.argTypes.toList=[t]->c.args.toList.map ρ=[a]->(∀u,eP I L u a->∃J,VR J u (.aV es))->rP P t (.p (.aV es))=some (pre,v)->_:=λt a es y ht A hl h=>by have bb:=NR T y ht A hl h U (C:=C) (H:=H) (w:=w) aE;unfold execOp at bb;simp only[T] at bb;exact bb
  split at h
  ·rename_i t id R y ht A;split at h
   ·rename_i k es f;obtain⟨an,sz,D,e,e',us,E,z,X,q3,q4,q5,Y⟩:=kF V f;have ar:rP P t (.p (.aV (fO k E es)))=some (pre,v):=by rw[<-h];unfold rP;simp only[fV]
    refine one t _ _ y ht A (λu hu=>?_) ar;cases hu with
    |eY _ _ _ v fo _ _ lU n' hl ao B ap=>rw[z] at hl;simp only[cG,Loc.deep.injEq] at hl;obtain⟨d,q,_⟩:=hl;subst d q;rw[B rfl];exact⟨_,X.snap V.mem⟩
   ·cases h
  ·rename_i t id R ii y ht A;split at h
   ·rename_i l f;cases O:cU H id R with
    |none=>rw[O] at f;cases f
    |some ke =>
     obtain⟨k,es⟩:=ke;rw[O] at f;obtain⟨bE,x',ax,aA⟩:=xL f;obtain⟨an,sz,D,e,e',us,E,z,X,q3,q4,q5,Y⟩:=kF V O;obtain⟨l',bj,Q,m2,m3⟩:=Y ii x' ax;rw[aA] at Q;simp only[cG,PV.aV.injEq] at Q;subst Q;refine one t _ _ y ht A (λu hu=>?_) h;cases hu with
     |kY _ _ _ v _ fo _ _ lU n' hl ao B ap=>rw[z] at hl;simp only[cG,Loc.deep.injEq] at hl;obtain⟨d,q,F,G,K,M⟩:=hl;subst d q F G K M;rw[B rfl];exact⟨_,m2.snap V.mem⟩
   ·cases h
  ·cases h
 ·cases h
theorem NT{C:Ctx}{H:az}{env:Env}{tm:Array Value}{w:World}(q:iG C env H I L tm w){id c sz:Nat}{es:List (List PV)}(h:r0 H id c=some (sz,es)) :
  ∃a e us,L id=some (.row c a sz)/\sZ w C.B I a e sz es us/\∃b cap,a = .slice b es.length cap/\es.length<=cap/\((b=none/\cap=0)\/∃g,b=some ⟨g,0,none⟩):=by
 unfold r0 at h;split at h
 ·rename_i v e t es' n;split at h
  ·rename_i r;simp only[cG,iU] at h;obtain⟨rfl,rfl⟩:=h;subst r;obtain⟨a,us,f,d,i,j,k,l,m⟩:=q.chunk id _ n;refine⟨a,e,us,f,⟨d,i,j,k,l,m⟩,?_⟩;rcases d.2 with ⟨rfl,o⟩|⟨g,cap,s,rfl,_,_,p,_⟩
   ·exact⟨none,0,by rw[o],by omega,.inl ⟨rfl,rfl⟩⟩
   ·exact⟨some ⟨g,0,none⟩,cap,rfl,p,.inr ⟨g,rfl⟩⟩
  ·cases h
 ·cases h
theorem NU{o:Oper}{b:Operand->AV}{v:AV}{pre:Prop}{H:az}(h:yZ P o b H=some (pre,v))(J:pre){C:Ctx}{env:Env}{tm:Array Value}{w:World}
  (N:iG C env H I L tm w) {σ:Operand->Value} (p:∀x,eP I L (σ x) (b x)):pz P C H I L w ((execOp σ o).run P w) v H:=by
 unfold yZ at h;unfold execOp;split at h
 ·rename_i t x i G;simp only[G];have f:=p x;have d:=p i;generalize σ x=u at f ⊢;generalize b x=W at h f;generalize σ i=ui at d ⊢;generalize b i=T at h d;split at h
  ·rename_i id X off m _ aw k n;split at h
   ·rename_i sz es e M E;split at h
    ·rename_i R O;simp only[cG,iU] at h;obtain⟨y,z⟩:=h;subst y z;obtain⟨⟨s,af,ae⟩,rfl⟩:=J;obtain⟨rfl,_⟩:=d.eT;obtain⟨q,rfl⟩:=Int.eq_ofNat_of_zero_le s;simp only[Int.toNat_natCast];have K:q<m:=by omega
     obtain⟨ab,Y,us,r,q2,U,cap,rfl,aa,D⟩:=NT N M;cases f with
     |iV a _ _ v1 _ _ _ c j5 ar j ad hn hm hz F =>
      rw[r] at j;simp only[cG,Loc.row.injEq] at j;obtain⟨r1,r2,Q⟩:=j;subst r1 r2 Q;obtain⟨V,m1,S,l,rfl,A⟩:=F rfl;simp only[Value.slice.injEq] at l;obtain⟨rfl,rfl,rfl⟩:=l;have B:=A (.inl (by omega));rcases D with ⟨_,Z⟩|⟨g,rfl⟩
      ·omega
      ·subst B;refine .jU (run_lift _) ⟨.pointer (some ⟨g,0+((off+q) * R+0),none⟩),?_,.jD _ _ _ _ _ _ _ _ r (Nat.le_refl _) (λ_=>⟨g,0,es.length,cap,rfl,rfl⟩) rfl⟩;simp[Instr.indexAt,asIntOf,run_underlying (fP E),dX O,Addr.add_mid,K,Nat.add_mul]
    ·cases h
   ·cases h
  ·cases h
 ·cases h
theorem NV{o:Oper}{e:Operand->AV}{v:AV}{pre:Prop}{H:az}(h:sS P o e H=some (pre,v))(a:pre){C:Ctx}{env:Env}{tm:Array Value}{w:World}
  (b:iG C env H I L tm w) {σ:Operand->Value} (d:∀x,eP I L (σ x) (e x)):pz P C H I L w ((execOp σ o).run P w) v H:=by
 unfold sS at h;split at h
 ·rename_i c;simp only[cG] at h;subst h;exact NQ c a b d
 ·split at h
  ·rename_i c;simp only[cG] at h;subst h;exact NS c a b d
  ·exact NU h a b d
def vV(H:az):AV->Option (List (List PV))
 | .p (.aV ns)=>some ns
 | .p (.val (.slice _ 0 _))=>some []
 | .p .emp=>some []
 | .row id a=>rowOf H id a
 |_=>none
theorem Ie{C:Ctx}{H:az}{env:Env}{tm:Array Value}{w:World}(s:iG C env H I L tm w){b:AV}{ns:List (List PV)}(h:vV H b=some ns){y:Value}(f:eP I L y b) :
  ∃a cap,∃zq:List Value,y = .slice a ns.length cap/\zq.length=ns.flatten.length/\(∀ (j:Nat) u c,zq[j]? = some u->ns.flatten[j]? = some c->VR I u c)/\(∀u∈zq,u.oneCell'=true) /\
   (zq=[]\/∃b off,a=some ⟨b,off,none⟩/\∀ (j:Nat) u,zq[j]? = some u->w.cell? ⟨b,off+j,none⟩=some u)/\ns.length<=cap:=by
 have t : ∀ {u : Value}, VR I u (.aV ns) → ∃ a cap, ∃ zq : List Value, u = .slice a ns.length cap ∧ zq.length = ns.flatten.length ∧ (∀ (j : Nat) u c, zq[j]? = some u → ns.flatten[j]? = some c → VR I u c) ∧ (∀ u ∈ zq, u.oneCell' = true) ∧
   (zq=[]\/∃b off,a=some ⟨b,off,none⟩/\∀ (j:Nat) u,zq[j]? = some u->w.cell? ⟨b,off+j,none⟩=some u)/\ns.length<=cap:=by
  intro u x;cases x with
  |aV a n cap _ zq aE o an T W V U Z J=>subst o;exact⟨a,cap,zq,rfl,T,W,V,U.imp id λ⟨b,off,e,k⟩=>⟨b,off,e,λj u Q=>s.mem _ _ _ (k j u Q)⟩,J⟩
 unfold vV at h;split at h
 ·simp only[cG] at h;subst h;exact t f.oz
 ·simp only[cG] at h;subst h;rename_i K cap;exact⟨K,cap,[],f.eT.1,rfl,by simp,by simp,.inl rfl,Nat.zero_le _⟩
 ·simp only[cG] at h;subst h;cases f.oz;exact⟨_,0,[],rfl,rfl,by simp,by simp,.inl rfl,Nat.zero_le _⟩
 ·rename_i id bk;unfold rowOf at h;split at h
  ·rename_i v e sz es l;split at h
   ·rename_i p;simp at h;subst h p;obtain⟨N,us,i,d,h3,M,z,A,h7⟩:=s.chunk id _ l;cases f with
    |row _ _ _ G E F hl B m D =>
     rw[i] at hl;simp only[cG,Loc.row.injEq] at hl;obtain⟨r1,r2,q⟩:=hl;subst r1 r2 q;have X:=m rfl;subst X;have P:=bG M;have o:us.length=es.flatten.length:=by rw[P];exact d.1
     rcases d.2 with ⟨r,R⟩|⟨g,cap,ab,r,hb,hg,S,ak,al,mc⟩
     ·have O:es=[]:=List.length_eq_zero_iff.1 R;subst O;exact⟨none,0,us,r,o,z,A,.inl (List.length_eq_zero_iff.1 (by simpa using o)),Nat.le_refl _⟩
     ·refine⟨some ⟨g,0,none⟩,cap,us,r,o,z,A,.inr ⟨g,0,rfl,λj u x=>?_⟩,S⟩;have:=d.cells (g:=g) (by rw[r];rfl) j u x;rwa [Addr.add_mid] at this
   ·cases h
  ·rename_i v es l;split at h
   ·rename_i p;simp at h;subst h p;obtain⟨N,sz,i,d,_⟩:=s.chunk id _ l;cases f with
    |row _ _ _ G E F hl B m D=>rw[i] at hl;simp only[cG,Loc.row.injEq] at hl;obtain⟨r1,r2,q⟩:=hl;subst r1 r2 q;rw[m rfl];exact t d
   ·cases h
  ·rename_i v e sz es l;split at h
   ·rename_i p;simp at h;subst h p;obtain⟨g0,o0,Y,arr,i,k2,k3,k4,k5,k6,d,k8⟩:=s.chunk id _ l;cases f with
    |row _ _ _ G E F hl B m D=>rw[i] at hl;simp only[cG,Loc.row.injEq] at hl;obtain⟨r1,r2,q⟩:=hl;subst r1 r2 q;rw[m rfl];exact t d
   ·cases h
  ·cases h
 ·cases h
end Go.cv
namespace Go.cv
open Go.RowKit
variable{P:Program}{I:Mem}{L:bB}
def qR(P:Program)(t1 t2:TypeId)(a b:AV)(H:az):Option (Prop×AV×az):=match a,dA P t1 t2 with
 | .row id c,some (d,g,f)=>match H id with
  | some (.row v e sz es) => if v = c ∧ e = d ∧ sz = g then match vV H b with
    |some ns=>some ((es.length+ns.length) * f<=140737488355328/\∀x∈ns,x.length=sz,.row id (c+1),bn H id (.row (c+1) e sz (es++ns)))
    |none=>none
   else none
  |_=>none
 |_,_=>none
def wU(P:Program)(o:Oper)(f:Operand->AV)(H:az):Option (Prop×AV×az):=match o.op with
 | .store t a x=>match bu P t with
  | some n => if (b7 (f x)).length = n ∧ (b7 (f x)).all oB = true then match f a with
    | .ptr id off=>match H id with
     |some (.box cs)=>if off+n<=cs.length then some (True,.dead,bn H id (.box (splice cs off (b7 (f x))))) else none
     |_=>none
    | .jD id h i off=>match H id,uj (b7 (f x)) with
     |some (.row v e sz es),some j=>if v=h then some (i<es.length/\off+n<=sz,.dead,bn H id (.row v e sz (es.set i (splice (es.getD i []) off j)))) else none
     |_,_=>none
    |_=>none
   else none
  |none=>none
 | .alloc e=>match o.dst with
  |some d=>match H d,cN P e with
   |none,some g=>if g.all (·.oneCell')=true then some (True,.ptr d 0,bn H d (.box (g.map λz=>.p (.val z)))) else none
   |_,_=>none
  |none=>none
 | .box _ x=>match o.dst with
  |some d=>match H d with
   |none=>if (b7 (f x)).all oB=true then some (True,.ptr d 0,bn H d (.box (b7 (f x)))) else none
   |some _=>none
  |none=>none
 | .call c=>match c.callee,c.argTypes.toList,c.args.toList.map f with
  | .builtin .append,[t1,t2],[a,b]=>qR P t1 t2 a b H
  |_,_,_=>none
 |_=>none
theorem cells_one{u:Value}{a:AV}(h:eP I L u a)(i:(b7 a).all oB=true):∃us:List Value,u.cells=us.toArray/\us.length=(b7 a).length /\
  (∀ (j:Nat) u c,us[j]? = some u->(b7 a)[j]? = some c->eP I L u c)/\∀x∈us,x.oneCell'=true:=by
 have f:∀c∈b7 a,oB c=true:=List.all_eq_true.1 i;obtain⟨us,g,b,d⟩:=h.cells f;refine⟨us,g,b,d,λx l=>?_⟩;obtain⟨j,e⟩:=List.mem_iff_getElem?.1 l;have k:j<(b7 a).length:=by rw[<-b];exact (List.getElem?_eq_some_iff.1 e).1
 exact (d j x _ e (List.getElem?_eq_getElem k)).one (f _ (l8 _))
theorem Et{C:Ctx}{H:az}{env:Env}{tm:Array Value}{w:World}(a:iG C env H I L tm w){d:Nat}(h:H d=none){us:List Value}{cs:List AV}(e:TypeId)
  (hl:us.length=cs.length) (l:∀ (j:Nat) u c,us[j]? = some u->cs[j]? = some c->eP I L u c) (i:∀x∈us,x.oneCell'=true) :
  eP I (ct L d (.box w.heap.size)) (.pointer (some ⟨w.heap.size,0,none⟩)) (.ptr d 0)/\Fr C I L H w I (ct L d (.box w.heap.size)) (bn H d (.box cs)) (w.alloc (.cells us.toArray e)):=by
 refine⟨.ptr _ _ _ (by simp[ct]),λenv tm a=>?_⟩;refine a.new ((Below.refl _ _).alloc a.kf _) (λb f=>Below.heap_alloc _ _ _ f) h _ _ ?_ (λb f=>by
  simp only[Loc.has,cG] at f;subst f;simp)
 refine⟨w.heap.size,us.toArray,e,by simp[ct],heap_alloc_new w _,by simpa using hl,λj u c g k=>?_,λj u g=>?_,λo=>CG a.mem o⟩
 ·exact (l j u c (by simpa using g) k).mono (Mem.ep I) (dQ.uU (a.s0 h) _)
 ·exact i u (List.mem_of_getElem? (by simpa using g))
theorem Eu{C:Ctx}{H:az}{env:Env}{tm:Array Value}{w w':World}(_:iG C env H I L tm w){d:Nat}(n:H d=none){us:List Value}{es:List (List PV)}{e:TypeId}{sz cap:Nat}{arr:Array Value}
  (hw:w'=w.alloc (.cells arr e)\/w'=w.drew.alloc (.cells arr e)) (i:arr.size=cap * sz) (m:cap<=maxLen) (s:arr.toList.take (es.length * sz)=us) (r:0<sz)
  (g:∀x∈es,x.length=sz) (hl:us.length=es.flatten.length) (t:∀ (j:Nat) u c,us[j]? = some u->es.flatten[j]? = some c->VR I u c) (k:∀x∈us,x.oneCell'=true) (l:es.length<=cap) :
  eP I (ct L d (.row 0 (.slice (some ⟨w.heap.size,0,none⟩) es.length cap) sz)) (.slice (some ⟨w.heap.size,0,none⟩) es.length cap) (.row d 0) /\
  Fr C I L H w I (ct L d (.row 0 (.slice (some ⟨w.heap.size,0,none⟩) es.length cap) sz)) (bn H d (.row 0 e sz es)) w':=by
 refine⟨.row _ d 0 0 (.slice (some ⟨w.heap.size,0,none⟩) es.length cap) sz (by simp[ct]) (Nat.le_refl _) (λ_=>rfl) rfl,λenv tm f=>?_⟩;have a:Below C.B w w':=by
  rcases hw with rfl|rfl
  ·exact (Below.refl _ _).alloc f.kf _
  ·exact (Below.refl _ _).drew.alloc f.kf _
 have p:∀b,b<w.heap.size->w'.heap[b]? = w.heap[b]?:=λb h=>by
  rcases hw with rfl|rfl
  ·exact Below.heap_alloc _ _ _ h
  ·exact Below.heap_alloc w.drew _ _ h
 have q:w'.heap[w.heap.size]? = some (.cells arr e (0,0)):=by
  rcases hw with rfl|rfl
  ·exact heap_alloc_new w _
  ·exact heap_alloc_new w.drew _
 have v:w'.heap.size=w.heap.size+1:=by rcases hw with rfl|rfl<;>simp
 refine f.new a p n _ _ ?_ (λb a=>by
  simp only[Loc.has,Value.ownBlock,cG] at a;subst a;omega)
 refine⟨.slice (some ⟨w.heap.size,0,none⟩) es.length cap,us,by simp[ct],⟨by rw[hl,bG g],.inr ⟨w.heap.size,cap,arr,rfl,f.kf,q,l,m,i,s⟩⟩,r,g,t,k,λb a o=>?_⟩;simp only[Value.ownBlock,cG] at a;subst a;exact CG f.mem o
theorem xN{t:TypeId}{n:Nat}(g:bu P t=some n){u:Value}{us:List Value}(i:u.cells=us.toArray)(a:us.length=n){w:World}{b off:Nat}{arr:Array Value}{e:TypeId}
  (f:w.heap[b]? = some (.cells arr e (0,0))) (j:off+n<=arr.size) (d:∀x∈us,x.oneCell'=true) :
  (Instr.storeAt t (.pointer (some ⟨b,off,none⟩)) u).run P w = .ok () (w.setRow b (splice arr.toList off us).toArray):=by
 have c:=run_storeCells_at P b off e us 0 arr w f (by omega) d;simp only[Nat.add_zero] at c;have h:us.toArray.size=n:=by simpa using a
 simp[Instr.storeAt,Instr.sureAddr,storeVar,dX g,i,h,c,splice,a]
theorem dQ.CO{L:bB}{id:Nat}{l:Loc}(h:L id=some l):dQ L (ct L id l):=λi=>by
 by_cases a:i=id
 ·subst a;have:=dQ.refl L i;rw[h] at this ⊢;simpa[ct,h] using this
 ·have:ct L id l i=L i:=by simp[ct,a]
  rw[this];exact dQ.refl L i
theorem dQ.If{L:bB}{id v:Nat}{c a:Value}{sz:Nat}(h:L id=some (.row v c sz)):dQ L (ct L id (.row (v+1) a sz)):=λi=>by
 by_cases b:i=id
 ·subst b;rw[h];exact⟨v+1,a,by simp[ct],by omega,λe=>by omega⟩
 ·have:ct L id (.row (v+1) a sz) i=L i:=by simp[ct,b]
  rw[this];exact dQ.refl L i
theorem sU{w:World}{B b:Nat}(cs:Array Value)(h:B<=b):Below B w (w.setRow b cs):=⟨rfl,rfl,rfl,by simp[World.setRow],λk a=>setRow_other w b k cs (by omega)⟩
theorem Ev{R:Value->PV->Prop}{us vs:List Value}{cs d:List PV}(hl:us.length=cs.length)(e:∀ (j:Nat) u c,us[j]? = some u->cs[j]? = some c->R u c)
  (hw:∀ (j:Nat) u c,vs[j]? = some u->d[j]? = some c->R u c):∀ (j:Nat) u c,(us++vs)[j]? = some u->(cs++d)[j]? = some c->R u c:=by
 intro j u c b a;rw[List.getElem?_append] at b a;rw[hl] at b;split at b
 ·rename_i h;rw[if_pos h] at a;exact e _ _ _ b a
 ·rename_i h;rw[if_neg h] at a;exact hw _ _ _ b a
theorem NW{t1 t2 ty:TypeId}{a b v:AV}{pre:Prop}{H W:az}(h:qR P t1 t2 a b H=some (pre,v,W))(hp:pre){C:Ctx}{env:Env}{tm:Array Value}{w:World}(l:iG C env H I L tm w)
  {x y:Value} (D:eP I L x a) (hy:eP I L y b) {V:Sem Next} (a3:∀w,V.run P w=((Builtin.append_ #[t1,t2] ty #[x,y]).run P w).andThen λu w'=>.ok (.value u) w') :
  pz P C H I L w (V.run P w) v W:=by
 unfold qR at h;split at h
 ·rename_i id bk e' b3 qM ht
  obtain⟨rfl,q,a2,am,i,z,n,U,t,S,a9⟩:=nX ht;split at h
  ·rename_i K e sz es hH;split at h
   ·rename_i hc;obtain⟨rfl,rfl,rfl⟩:=hc;split at h
    ·rename_i ns a4;simp only[cG,iU] at h;obtain⟨Q,h2,h3⟩:=h;subst Q h2 h3;obtain⟨c,Y⟩:=hp;obtain⟨bv,us,J,m,q3,q4,q5,q6,q7⟩:=l.chunk id _ hH;cases D with
     |row _ _ _ v1 j5 b4 hl bE hh bN =>
      rw[J] at hl;simp only[cG,Loc.row.injEq] at hl;obtain⟨r1,r2,r3⟩:=hl;subst r1 r2 r3;have a6:=hh rfl;subst a6;obtain⟨N,cap,zq,a8,af,a0,T,aP,bm⟩:=Ie l a4 hy
      ·subst a8;have X:=bG Y;have M:es.length+ns.length<=maxLen:=by have:=Nat.le_mul_of_pos_right (es.length+ns.length) am;simp only[maxLen];omega
       have finish : ∀ (f : Value) (w' : World), (Builtin.append_ #[t1, t1] ty #[x, .slice N ns.length cap]).run P w = .ok f w' → w'.ownsRow C.B e sz f (es.length + ns.length) (us ++ zq) → w.grownBy w' x.ownBlock →
         (∀b,f.ownBlock=some b->x.ownBlock=some b\/(w.heap.size<=b/\b<w'.heap.size))->f.oneCell'=true ->
         pz P C H I L w (V.run P w) (.row id (K+1)) (bn H id (.row (K+1) e sz (es++ns))):=by
        intro f w' d G A Z Q;refine⟨f,w',I,ct L id (.row (K+1) f sz),.inl (by rw[a3,d];rfl),.row _ _ _ (K+1) f sz (by simp[ct]) (Nat.le_refl _) (λ_=>rfl) Q,λenv tm l=>?_⟩;refine l.s7 (Below.grown (Below.refl _ _) A l.kf λk hk=>(l.gh id _ k J hk).1) J (λb c aN=>A.block b c λe=>aN e.symm) (dQ.If J) (λb c=>q7 b c) _ ?_ Z;refine⟨f,us++zq,by simp[ct],by rw[List.length_append];exact G,q3,?_,?_,?_,?_⟩
        ·intro x D;rcases List.mem_append.1 D with h|h
         ·exact q4 x h
         ·exact Y x h
        ·rw[List.flatten_append];exact Ev (by rw[bG q4];exact m.1) q5 a0
        ·intro x D;rcases List.mem_append.1 D with h|h
         ·exact q6 x h
         ·exact T x h
        ·intro b c o;rcases Z b c with h|h
         ·exact q7 b h o
         ·cases R:I b o with
          |none=>rfl
          |some u=>exact absurd (l.mem.lt R) (by omega)
       rcases aP with rfl|⟨bb,off,rfl,R⟩
       ·-- b2 is bp
        have E:ns.length=0:=by
         have:ns.flatten.length=0:=by rw[<-af];rfl
         rw[X] at this;rcases Nat.mul_eq_zero.1 this with h|h
         ·exact h
         ·omega
        rcases m.2 with ⟨rfl,ad⟩|⟨g,s,O,rfl,aq,A,ae,av,aa,mc⟩
        ·refine finish (.slice none 0 0) w ?_ ?_ ⟨rfl,rfl,rfl,Nat.le_refl _,λ_ _ _=>rfl⟩ (λb c=>.inl c) rfl
         ·simp[Builtin.append_,run_underlying q,sizeOf,typeInfo,n,Builtin.lenOf,E];cases N<;>simp[Builtin.firstCells,loadCells,loadCellsFrom]
         ·rw[List.append_nil,E,Nat.add_zero];exact m
        ·refine finish (.slice (some ⟨g,0,none⟩) es.length s) w ?_ ?_ ⟨rfl,rfl,rfl,Nat.le_refl _,λ_ _ _=>rfl⟩ (λb c=>.inl c) rfl
         ·simp[Builtin.append_,run_underlying q,sizeOf,typeInfo,n,Builtin.lenOf,E,ae];cases N<;>simp[Builtin.firstCells,loadCells,loadCellsFrom,storeCells]
         ·rw[List.append_nil,E,Nat.add_zero];exact m
       ·have F:∀ (j:Nat) v,zq[j]? = some v->w.cell? ((⟨bb,off,none⟩:Addr).add j)=some v:=λj v hj=>by rw[Addr.add_mid];exact R j v hj
        have r:zq.length=ns.length * sz:=by rw[af,X]
        obtain⟨f,w',d,G,A,_⟩:=run_append_own (P:=P) w C.B t1 ty e i z sz qM q n U t S a9 a2 x es.length us m ⟨bb,off,none⟩ ns.length cap zq r F T M c l.kf
        refine finish f w' d G A ?_ ?_
        ·rcases m.2 with ⟨rfl,ad⟩|⟨g,s,O,rfl,aq,ax,ae,av,aa,mc⟩
         ·by_cases ab:ns.length=0
          ·have p:(Builtin.append_ #[t1,t1] ty #[.slice none 0 0,.slice (some ⟨bb,off,none⟩) ns.length cap]).run P w = .ok (.slice none 0 0) w:=by have:zq=[]:=List.length_eq_zero_iff.1 (by rw[r,ab,Nat.zero_mul]);simp[Builtin.append_,run_underlying q,sizeOf,typeInfo,n,Builtin.lenOf,ab,Builtin.firstCells,loadCells,loadCellsFrom]
           rw[p] at d;simp only[Result.ok.injEq] at d;obtain⟨rfl,rfl⟩:=d;intro b c;exact .inl c
          ·obtain⟨s,rest,p,_⟩:=qg (P:=P) (ty:=ty) q n U t none ⟨bb,off,none⟩ ns.length cap zq w r F (by omega) (by rw[S];rw[ad,Nat.zero_add] at c;exact c) (by simp only[maxLen] at M;omega);rw[p] at d;simp only[Result.ok.injEq] at d;obtain⟨rfl,rfl⟩:=d;intro b c;simp only[Value.ownBlock,cG] at c;subst c;exact .inr ⟨Nat.le_refl _,by simp⟩
         ·by_cases ai:es.length+ns.length<=s
          ·have aw:es.length * i.size+zq.length<=O.size:=by rw[r,aa,t,<-Nat.add_mul];exact Nat.mul_le_mul_right _ ai
           have p:=run_append_room (P:=P) w t1 ty e i q n g es.length s O ax ⟨bb,off,none⟩ ns.length cap zq (by rw[t];exact r) F T ai aw;rw[p] at d;simp only[Result.ok.injEq] at d;obtain⟨rfl,rfl⟩:=d;intro b c;exact .inl c
          ·have holds:∀j u,us[j]? = some u->w.cell? ((⟨g,0,none⟩:Addr).add j)=some u:=m.cells (g:=g) rfl;have p:=run_append_grow (P:=P) w t1 ty e i z q n U ⟨g,0,none⟩ es.length s us (by rw[t];exact m.1) holds ⟨bb,off,none⟩ ns.length cap zq (by rw[t];exact r) F (by omega) (by simp only[maxLen] at M;omega)
            (growslice_fits (by omega) (by rw[S];exact c))
           rw[p] at d;simp only[Result.ok.injEq] at d;obtain⟨rfl,rfl⟩:=d;intro b c;simp only[Value.ownBlock,cG] at c;subst c;exact .inr ⟨Nat.le_refl _,by simp⟩
        ·rcases G.2 with ⟨rfl,_⟩|⟨_,_,_,rfl,_⟩<;>rfl
    ·cases h
   ·cases h
  ·cases h
 ·cases h
end Go.cv
namespace Go.cv
open Go.RowKit
variable{P:Program}{I:Mem}{L:bB}
theorem xO{us un:List Value}{off:Nat}(a:∀x∈us,x.oneCell'=true)(b:∀x∈un,x.oneCell'=true):∀x∈splice us off un,x.oneCell'=true:=λx hx=>by
 unfold splice at hx;simp only[List.mem_append] at hx;rcases hx with (hx|hx)|hx
 ·exact a x (List.mem_of_mem_take hx)
 ·exact b x hx
 ·exact a x (List.mem_of_mem_drop hx)
theorem zu{α:Type}{sz:Nat} : ∀ {es:List (List α)} (_:∀e∈es,e.length=sz) (i:Nat) (_:i<es.length) (off:Nat) (a:List α) (_:off+a.length<=sz),
  (es.set i (splice (es.getD i []) off a)).flatten=splice es.flatten (i * sz+off) a
 | [],_,i,c,_,_,_=>by simp at c
 |e :: es,h,0,_,off,a,f=>by
  have d:=h e (by simp);simp only[List.set_cons_zero,List.getD_cons_zero,List.flatten_cons,Nat.zero_mul,Nat.zero_add,splice];have g:(e++es.flatten).take off=e.take off:=by rw[List.take_append_of_le_length (by omega)]
  have b:(e++es.flatten).drop (off+a.length)=e.drop (off+a.length)++es.flatten:=by rw[List.drop_append_of_le_length (by omega)]
  rw[g,b];simp
 |e :: es,h,i+1,c,off,a,f=>by
  have d:=h e (by simp);have l:=zu (es:=es) (λx k=>h x (by simp[k])) i (by simpa using c) off a f;simp only[List.set_cons_succ,List.getD_cons_succ,List.flatten_cons];rw[l];have j:(i+1) * sz+off=e.length+(i * sz+off):=by rw[d,Nat.add_mul];omega
  rw[j];unfold splice;have b:e.length+(i * sz+off)+a.length=e.length+(i * sz+off+a.length):=by omega
  rw[b,List.take_length_add_append,List.drop_length_add_append];simp
theorem zv{α:Type}{l x:List α}{off n:Nat}(h:off+x.length<=n)(k:n<=l.length):(splice l off x).take n=splice (l.take n) off x:=by
 apply List.ext_getElem?;intro j;unfold splice;simp only[List.getElem?_take,List.append_assoc,List.getElem?_append,List.length_take,List.getElem?_drop];by_cases e:j<off
 ·have d:j<n:=by omega
  have b:j<min off l.length:=by omega
  have c:j<min off (min n l.length):=by omega
  rw[if_pos d,if_pos b,if_pos c,if_pos e,if_pos e,if_pos d]
 ·have b:¬ j<min off l.length:=by omega
  have c:¬ j<min off (min n l.length):=by omega
  have f:min off l.length=off:=by omega
  have g:min off (min n l.length)=off:=by omega
  rw[if_neg b,if_neg c,f,g];by_cases a:j-off<x.length
  ·rw[if_pos a,if_pos a,if_pos (show j<n by omega)]
  ·rw[if_neg a,if_neg a];have i:off+x.length+(j-off-x.length)=j:=by omega
   rw[i]
theorem Ew{us un:List Value}{cs cn:List PV}{off:Nat}(hl:us.length=cs.length)(a:un.length=cn.length)
  (b:∀ (j:Nat) u c,us[j]? = some u->cs[j]? = some c->VR I u c) (hw:∀ (j:Nat) u c,un[j]? = some u->cn[j]? = some c->VR I u c) :
  ∀ (j:Nat) u c,(splice us off un)[j]? = some u->(splice cs off cn)[j]? = some c->VR I u c:=Eg hl a b hw
theorem Ex{s:Sem Unit}{w w':World}(h:s.run P w = .ok () w'):(do s;pure .skip:Sem Next).run P w = .ok .skip w':=by simp[h]
theorem wV{s:Sem Value}{u:Value}{w w':World}(h:s.run P w = .ok u w'):(do pure (.value (<-s)):Sem Next).run P w = .ok (.value u) w':=by simp[h]
theorem NX{o:Oper}{E:Operand->AV}{v:AV}{pre:Prop}{H H':az}(h:wU P o E H=some (pre,v,H'))(hp:pre){C:Ctx}{env:Env}{tm:Array Value}{w:World}
  (l:iG C env H I L tm w) {σ:Operand->Value} (M:∀x,eP I L (σ x) (E x)):pz P C H I L w ((execOp σ o).run P w) v H':=by
 unfold wU at h;unfold execOp;split at h
 ·rename_i t a x B;simp only[B];have m:=M a;have K:=M x;generalize σ a=ua at m ⊢;generalize E a=av at h m;generalize σ x=ux at K ⊢;generalize E x=xv at h K;split at h
  ·rename_i n hn;split at h
   ·rename_i A;obtain⟨al,V⟩:=A;obtain⟨us,U,N,O,D⟩:=cells_one K V;split at h
    ·rename_i id off;split at h
     ·rename_i cs s;split at h
      ·rename_i be;simp only[cG,iU] at h;obtain⟨_,p,q⟩:=h;subst p q;obtain⟨b,arr,e,F,g2,g3,g4,g5,g6⟩:=l.chunk id _ s;cases m with
       |ptr _ b' _ hl =>
        rw[F] at hl;simp only[cG,Loc.box.injEq] at hl;subst hl;have Y:=xN hn U (by omega) g2 (off:=off) (by omega) D;refine⟨undef,_,I,ct L id (.box b),.inr ⟨Ex Y,rfl⟩,.dead _,λenv tm l=>?_⟩;refine l.s7 (sU _ (l.gh id _ b F rfl).1) F (λk f X=>setRow_other w b k _ (λe=>X (by rw[e];rfl))) (dQ.CO F) (λk f o=>by
         simp only[Loc.has,cG] at f;subst f;exact g6 o) _ ?_ (λk f=>.inl f)
        refine⟨b,(splice arr.toList off us).toArray,e,by simp[ct],setRow_heap w b arr _ e _ g2,?_,?_,?_,g6⟩
        ·simp only[List.size_toArray];rw[eD (by simp;omega),eD (by omega)];simpa using g3
        ·intro j u c J A;have:=Eg (R:=eP I L) (us:=arr.toList) (cs:=cs) (off:=off) (un:=us) (cn:=b7 xv) (by simpa using g3) N (λj u c J A=>g4 j u c (by simpa using J) A) O j u c (by simpa using J) A;exact this.mono (Mem.ep I) (dQ.CO F)
        ·intro j u J;refine xO (us:=arr.toList) (un:=us) (off:=off) (λx K=>?_) D u (List.mem_of_getElem? (by simpa using J));obtain⟨k,f⟩:=List.mem_iff_getElem?.1 K;exact g5 k x (by simpa using f)
      ·cases h
     ·cases h
    ·rename_i id bk i off;split at h
     ·rename_i v0 e sz es ps s bj;split at h
      ·rename_i hv;subst hv;simp only[cG,iU] at h;obtain⟨h1,p,q⟩:=h;subst h1 p q;obtain⟨W,cQ⟩:=hp;have bb:=uG bj;rw[bb] at N O al;simp only[List.length_map] at N al;obtain⟨cH,cs,S,q2,q3,T,q5,q6,q7⟩:=l.chunk id _ s;cases m with
       |jD _ _ _ v1 _ _ j5 cX hl be hh ao =>
        rw[S] at hl;simp only[cG,Loc.row.injEq] at hl;obtain⟨r1,r2,r3⟩:=hl;subst r1 r2 r3;obtain⟨g,o,n',cap,e1,e2⟩:=hh rfl;subst e1 e2;rcases q2.2 with ⟨aA,_⟩|⟨g',cp,Q,ai,a7,ak,an,ba,af,mc⟩
        ·cases aA
        simp only[Value.slice.injEq,cG,Addr.mk.injEq] at ai;obtain⟨⟨e3,e0,_⟩,e4,e5⟩:=ai;subst e3 e0 e4 e5;rw[Nat.zero_add];have cP:(i+1) * sz<=es.length * sz:=Nat.mul_le_mul_right _ W;have ci:(i+1) * sz=i * sz+sz:=by rw[Nat.add_mul];omega
        have a8:es.length * sz<=Q.size:=by rw[af];exact Nat.mul_le_mul_right _ an
        have Y:=xN hn U (by omega) ak (off:=i * sz+off) (by omega) D;refine⟨undef,_,I,ct L id (.row v0 (.slice (some ⟨g,0,none⟩) es.length cap) sz),.inr ⟨Ex Y,rfl⟩,.dead _,λenv tm l=>?_⟩;refine l.s7 (sU _ (l.gh id _ g S rfl).1) S (λk f X=>setRow_other w g k _ (λe=>X (by rw[e];rfl))) (dQ.CO S) (λk f=>q7 k f) _ ?_ (λk f=>.inl f);have cJ:=bG T;have a9:cs.length=es.length * sz:=q2.1;have bp:(splice Q.toList (i * sz+off) us).take (es.length * sz)=splice cs (i * sz+off) us:=by rw[zv (by omega) (by simpa using a8),mc]
        refine⟨.slice (some ⟨g,0,none⟩) es.length cap,splice cs (i * sz+off) us,by simp[ct],⟨?_,.inr ⟨g,cap,(splice Q.toList (i * sz+off) us).toArray,by rw[List.length_set],a7,setRow_heap w g Q _ e _ ak,by rw[List.length_set];exact an,ba,?_,?_⟩⟩,q3,?_,?_,xO q6 D,q7⟩
        ·rw[List.length_set,eD (by omega)];exact a9
        ·simp only[List.size_toArray];rw[eD (by simp only[Array.length_toList];omega)];simpa using af
        ·rw[List.length_set];exact bp
        ·intro y hy;rcases List.mem_or_eq_of_mem_set hy with h|h
         ·exact T y h
         ·subst h;have hm:(es.getD i []).length=sz:=T _ (by
           have:es.getD i []=es[i]:=by simp[W]
           rw[this];exact l8 _)
          rw[eD (by omega)];exact hm
        ·rw[zu T i W off ps (by omega)];exact Ew (by omega) (by omega) q5 (CL O)
      ·cases h
     ·cases h
    ·cases h
   ·cases h
  ·cases h
 ·rename_i e B;simp only[B];split at h
  ·rename_i d hd;split at h
   ·rename_i zs s hz;split at h
    ·rename_i ao;simp only[cG,iU] at h;obtain⟨_,p,q⟩:=h;subst p q;obtain⟨z,bN,bE⟩:=wS hz w;obtain⟨zr,z1⟩:=HY (I:=I) (L:=L) zs ao;obtain⟨n1,Z⟩:=Et l s (us:=zs) e (by simp) zr z1;refine⟨_,_,I,_,.inl (wV ?_),n1,Z⟩;simp[Instr.alloc,bN,newVar,newRow,newObj,Sem.run,bE]
    ·cases h
   ·cases h
  ·cases h
 ·rename_i e x B;simp only[B];split at h
  ·rename_i d hd;split at h
   ·rename_i s;split at h
    ·rename_i V;simp only[cG,iU] at h;obtain⟨_,p,q⟩:=h;subst p q;obtain⟨us,U,N,O,D⟩:=cells_one (M x) V;obtain⟨n1,Z⟩:=Et l s e N O D;refine⟨_,_,I,_,.inl (wV ?_),n1,Z⟩;simp[Instr.box,newVar,newRow,newObj,Sem.run,U]
    ·cases h
   ·cases h
  ·cases h
 ·rename_i c B;simp only[B];split at h
  ·rename_i t1 t2 a b A ht m;have a6:c.argTypes = #[t1,t2]:=by rw[<-Array.toArray_toList (xs:=c.argTypes),ht]
   cases G:c.args.toList with
   |nil=>simp[G] at m
   |cons x r =>
    cases r with
    |nil=>simp[G] at m
    |cons y r =>
     have bm:r=[]:=by simpa[G] using congrArg List.length m
     subst bm;have aq:E x=a/\E y=b:=by simpa[G] using m
     have a5:c.args = #[x,y]:=by rw[<-Array.toArray_toList (xs:=c.args),G]
     refine NW (ty:=o.type) h hp l (aq.1 ▸ M x) (aq.2 ▸ M y) (λw=>?_);simp[resolve,A,invoke,builtin,a6,a5]
  ·cases h
 ·cases h
end Go.cv
namespace Go.cv
open Go.RowKit
variable{P:Program}{I:Mem}{L:bB}
def kB(P:Program)(o:Oper)(f:Operand->AV)(H:az)(d:Nat):Option (Prop×AV×az):=match H d with
 |some _=>none
 |none=>match o.op with
  | .buildSlice t n parts=>match mu P t n (parts.toList.map λx=>(x.1,f x.2)) with
   |some (e,es)=>match bu P e with
    |some sz=>some (True,.row d 0,bn H d (.row 0 e sz es))
    |none=>none
   |none=>match vU P t n (parts.toList.map λx=>(x.1,f x.2)) with
    |some (_,cs)=>some (True,.eo d n,bn H d (.box cs))
    |none=>none
  | .makeSlice t l c=>match f l,f c,cT P t with
   | .p (.val (.int _ n)),.p (.val (.int _ m)),some e=>match bu P e,cN P e,xI P e with
    | some sz, some h, some g => if h.length = sz ∧ 0 < sz ∧ 0 < g ∧ h.all (·.oneCell') = true then
      some ((0<=n/\m=n)/\n * g<=140737488355328,.row d 0,bn H d (.row 0 e sz (List.replicate n.toNat (h.map PV.val)))) else none
    |_,_,_=>none
   |_,_,_=>none
  | .call c=>match c.callee,c.argTypes.toList,c.args.toList.map f with
   | .builtin .append,[t1,t2],[a,b]=>match a,dA P t1 t2,vV H b with
    | .p (.val (.slice none 0 0)),some (e,sz,g),some es=>some (es.length * g<=140737488355328/\∀x∈es,x.length=sz,.row d 0,bn H d (.row 0 e sz es))
    |_,_,_=>none
   |_,_,_=>none
  |_=>none
theorem NY{n:Int}(a:0<=n)(h:n<=9223372036854775807):i64.wrap n=n:=IntWalk.i64_in n (by omega)
theorem Ey{C:Ctx}{H:az}{env:Env}{tm:Array Value}{w:World}(c:iG C env H I L tm w){d:Nat}(f:H d=none)(e:TypeId){sz:Nat}(g:0<sz) :
  eP I (ct L d (.row 0 (.slice none 0 0) sz)) (.slice none 0 0) (.row d 0)/\Fr C I L H w I (ct L d (.row 0 (.slice none 0 0) sz)) (bn H d (.row 0 e sz [])) w/\dQ L (ct L d (.row 0 (.slice none 0 0) sz)):=by
 refine⟨.row _ d 0 0 (.slice none 0 0) sz (by simp[ct]) (Nat.le_refl _) (λ_=>rfl) rfl,λenv tm c=>?_,dQ.uU (c.s0 f) _⟩;refine c.new (Below.refl _ _) (λ_ _=>rfl) f _ _ ?_ (λb a=>by simp[Loc.has,Value.ownBlock] at a);exact⟨.slice none 0 0,[],by simp[ct],⟨by simp,.inl ⟨rfl,rfl⟩⟩,g,by simp,by simp,by simp,λb a=>by simp[Value.ownBlock] at a⟩
theorem NZ{o:Oper}{ρ:Operand->AV}{v:AV}{pre:Prop}{H H':az}{d:Nat}(h:kB P o ρ H d=some (pre,v,H'))(hp:pre){C:Ctx}{env:Env}{tm:Array Value}{w:World}
  (O:iG C env H I L tm w) {σ:Operand->Value} (Q:∀x,eP I L (σ x) (ρ x)):pz P C H I L w ((execOp σ o).run P w) v H':=by
 unfold kB at h;unfold execOp;split at h
 ·cases h
 rename_i U;split at h
 ·rename_i t n parts V;simp only[V];split at h
  ·rename_i e es f;split at h
   ·rename_i sz J;simp only[cG,iU] at h;obtain⟨_,D,E⟩:=h;subst D E;obtain⟨R,cy,W,bp,af,N,hn,F,hl,X,G⟩:=wz f (wT Q parts.toList) w;rw[J] at af;simp only[cG] at af;subst af;have am:(Instr.buildSlice t n (parts.map λx=>(x.1,σ x.2))).run P w = .ok (.slice (some ⟨w.heap.size,0,none⟩) n n) (w.alloc (.cells R.toArray e)):=by rw[<-W];congr 2;apply Array.ext';simp
    have A:=bG F;have a8:n<=maxLen:=by
     unfold mu at f;rw[bp] at f;simp only[J] at f;split at f
     ·split at f
      ·rename_i s;rename_i q1 q2;simp only[cG] at q1;subst q1;have:=Nat.le_mul_of_pos_right n s.2.1;simp only[maxLen];omega
      ·cases f
     ·cases f
    subst hn;obtain⟨n1,q⟩:=Eu O U (us:=R) (es:=es) (e:=e) (sz:=sz) (cap:=es.length) (arr:=R.toArray) (.inl rfl) (by simp[hl,A]) a8 (by simp[hl,A,List.take_of_length_le]) N F hl X G (Nat.le_refl _);exact⟨_,_,I,_,.inl (wV am),n1,q⟩
   ·cases h
  ·split at h
   ·rename_i e cs f;simp only[cG,iU] at h;obtain⟨_,D,E⟩:=h;subst D E;obtain⟨R,W,hl,X,G⟩:=NM f (wT Q parts.toList) w;have am:(Instr.buildSlice t n (parts.map λx=>(x.1,σ x.2))).run P w = .ok (.slice (some ⟨w.heap.size,0,none⟩) n n) (w.alloc (.cells R.toArray e)):=by rw[<-W];congr 2;apply Array.ext';simp
    obtain⟨n1,q⟩:=Et O U (us:=R) (cs:=cs) e hl X G;exact⟨_,_,I,_,.inl (wV am),.eo _ _ _ (by simp[ct]),q⟩
   ·cases h
 ·rename_i t l c V;simp only[V];split at h
  ·rename_i k n k' m e bs bi Z;split at h
   ·rename_i sz g B J hz al
    split at h
    ·rename_i s;obtain⟨aq,N,ad,G⟩:=s;simp only[cG,iU] at h;obtain⟨h1,D,E⟩:=h;subst h1 D E;obtain⟨⟨h0,bN⟩,f⟩:=hp;subst bN;obtain⟨a,rfl⟩:=Int.eq_ofNat_of_zero_le h0;simp only[Int.toNat_natCast];have bv:=(bs ▸ Q l).eT.1;have bk:=(bi ▸ Q c).eT.1;obtain⟨z,ce,ap⟩:=wS hz w;obtain⟨i,z',M,cl,cn⟩:=zn hz;have sq:i.bytes=B:=by simpa[xI,M] using al
     have ch:a * B<=140737488355328:=by
      have:((a * B:Nat):Int)<=140737488355328:=by rw[Int.natCast_mul];exact f
      omega
     have S:a<=140737488355328:=by have:=Nat.le_mul_of_pos_right a ad;omega
     have hw:i64.wrap (a:Int)=a:=NY (by omega) (by omega);have a7:((Array.range (a * sz)).map (λi=>g.toArray[i % g.toArray.size]!))=(List.replicate a g).flatten.toArray:=by rw[<-aq];exact CM g a (by omega)
     have F:∀x∈List.replicate a (g.map PV.val),x.length=sz:=λx Y=>by rw[List.eq_of_mem_replicate Y];simpa using aq
     have a5:∀x∈List.replicate a g,x.length=sz:=λx Y=>by rw[List.eq_of_mem_replicate Y];exact aq
     have A:=bG a5;simp only[List.length_replicate] at A;have ao:(Instr.makeSlice t (.int k a) (.int k' a)).run P w = .ok (.slice (some ⟨w.heap.size,0,none⟩) a a) (w.alloc (.cells ((List.replicate a g).flatten.toArray) e)):=by
      have a6:¬ ((281474976710656:Int)<(B:Int) * (a:Int)):=by
       have:(B:Int) * (a:Int)=((a * B:Nat):Int):=by rw[Int.natCast_mul,Int.mul_comm]
       rw[this];omega
      have b3:∀w:World,(askRoom (a * B)).run P w = .ok () w:=λw=>by unfold askRoom;split<;>simp[mark,Sem.run]
      by_cases aA:a * sz=0
      ·have ba:a=0:=by
        rcases Nat.mul_eq_zero.1 aA with h|h
        ·exact h
        ·omega
       subst ba;simp only[Instr.makeSlice,Sem.run_bind,run_underlying (fP Z),Result.andThen_ok,asInt,asIntOf,Sem.run_pure,typeInfo,program,Sem.run,M,sq,hw];simp[dX J,askRoom,roomBytes,newRow,newObj,Sem.run];have an:(Array.range 0).map (λ_:Nat=>(default:Value)) = #[]:=Array.eq_empty_of_size_eq_zero (by simp);rw[an]
      ·simp only[Instr.makeSlice,Sem.run_bind,run_underlying (fP Z),Result.andThen_ok,asInt,asIntOf,Sem.run_pure,typeInfo,program,Sem.run,M,sq,hw];have b1:¬ ((a:Int)<0):=by omega
       simp[a6,b1,b3,newRow,newObj,Sem.run];rw[dX J];simp only[Result.andThen_ok];rw[if_neg aA,ce];simp only[Result.andThen_ok,ap,a7]
     have aM:∀u∈(List.replicate a g).flatten,u.oneCell'=true:=λu K=>by obtain⟨x,Y,aN⟩:=List.mem_flatten.1 K;rw[List.eq_of_mem_replicate Y] at aN;exact List.all_eq_true.1 G u aN
     have av:(List.replicate a (g.map PV.val)).flatten=(List.replicate a g).flatten.map PV.val:=by simp[List.map_flatten]
     obtain⟨n1,q⟩:=Eu O U (us:=(List.replicate a g).flatten) (es:=List.replicate a (g.map PV.val)) (e:=e) (sz:=sz) (cap:=a) (arr:=(List.replicate a g).flatten.toArray) (.inl rfl)
      (by simpa using A) (by simp only[maxLen];omega) (by rw[List.length_replicate,List.take_of_length_le (by simp only[];omega)]) N F (by rw[av,List.length_map])
      (λj u c K s=>by
       rw[av,List.getElem?_map,K] at s;simp at s;subst s;exact .val u (aM u (List.mem_of_getElem? K))) aM (by simp)
     rw[List.length_replicate] at n1 q;exact⟨_,_,I,_,.inl (wV (by rw[bv,bk];exact ao)),n1,q⟩
    ·cases h
   ·cases h
  ·cases h
 ·rename_i c V;simp only[V];split at h
  ·rename_i t1 t2 a b s ht S;split at h
   ·rename_i e sz B es cb b4
    simp only[cG,iU] at h;obtain⟨h1,D,E⟩:=h;subst h1 D E;obtain⟨f,F⟩:=hp;have bd:c.argTypes = #[t1,t2]:=by rw[<-Array.toArray_toList (xs:=c.argTypes),ht]
    cases T:c.args.toList with
    |nil=>simp[T] at S
    |cons x r =>
     cases r with
     |nil=>simp[T] at S
     |cons y r =>
      have an:r=[]:=by simpa[T] using congrArg List.length S
      subst an;have a0:ρ x = .p (.val (.slice none 0 0))/\ρ y=b:=by simpa[T] using S
      have bc:c.args = #[x,y]:=by rw[<-Array.toArray_toList (xs:=c.args),T]
      obtain⟨rfl,K,N,ad,i,z,M,hz,J,al,ap⟩:=nX cb;have aP:=(a0.1 ▸ Q x).eT.1;have a1:eP I L (σ y) b:=a0.2 ▸ Q y;have ae:∀w,(do let d <-resolve σ c o.type;invoke d.target d.args:Sem Next).run P w=((Builtin.append_ #[t1,t1] o.type #[σ x,σ y]).run P w).andThen λu w'=>.ok (.value u) w':=λw=>by simp[resolve,s,invoke,builtin,bd,bc]
      generalize σ y=uy at a1 ae;obtain⟨bo,cap,us,cd,hl,X,G,hm,ci⟩:=Ie O b4 a1
      ·subst cd;by_cases h0:es.length=0
       ·have Z:es=[]:=List.length_eq_zero_iff.1 h0;subst Z;have ao:(Builtin.append_ #[t1,t1] o.type #[.slice none 0 0,.slice bo 0 cap]).run P w = .ok (.slice none 0 0) w:=by cases bo<;>simp[Builtin.append_,run_underlying K,sizeOf,typeInfo,M,Builtin.lenOf,Builtin.firstCells,loadCells,loadCellsFrom]
        obtain⟨n1,q,_⟩:=Ey O U e N;exact⟨_,_,I,_,.inl (by rw[ae,aP,List.length_nil,ao];rfl),n1,q⟩
       ·have A:=bG F;rcases hm with rfl|⟨bb,off,rfl,hI⟩
        ·exfalso;have a2:es.flatten.length=0:=by rw[<-hl];rfl
         rw[A] at a2;rcases Nat.mul_eq_zero.1 a2 with h|h<;>omega
        ·have cj:es.length<=140737488355328:=by have:=Nat.le_mul_of_pos_right es.length ad;omega
         obtain⟨cp,rest,W,bj,b2,be⟩:=qg (P:=P) (ty:=o.type) K M hz J none ⟨bb,off,none⟩ es.length cap us w (by rw[hl,A]) (λj v bq=>by
          rw[Addr.add_mid];exact hI j v bq) (by omega) (by rw[al];exact f) (by omega)
         have bm:(us++rest).toArray.size=cp * sz:=by simp only[List.size_toArray];rw[b2,ap,<-Nat.add_mul];congr 1;omega
         obtain⟨n1,q⟩:=Eu (w':=w.drew.alloc (.cells (us++rest).toArray e)) O U (us:=us) (es:=es) (e:=e) (sz:=sz) (cap:=cp) (arr:=(us++rest).toArray) (.inr rfl) bm be
          (by rw[List.take_left' (by rw[hl,A])]) N F hl X G bj
         exact⟨_,_,I,_,.inl (by rw[ae,aP,W];rfl),n1,q⟩
   ·cases h
  ·cases h
 ·cases h
end Go.cv
namespace Go.cv
open Go.RowKit
variable{P:Program}{I:Mem}{L:bB}
def gP(P:Program)(f:FuncId):Bool:=match P.funcs[f]? with
 |some a=>a.name != "runtime.NumGoroutine" && a.body.isSome
 |none=>false
def aS(P:Program)(f:FuncId)(args:List PV)(Q:PV->Prop):Prop :=
 gP P f=true/\∀ (I:Mem) (w:World) (vs:List Value),I.en w->qs I vs args ->
  Calls P f vs.toArray w λe w'=>∃v r a,e = .returned v/\Q r/\VR a v r/\Below w.heap.size w w'/\I.sub a/\a.en w'/\∀b,b<w.heap.size->∀o,a b o=I b o
theorem aS.mono{f:FuncId}{args:List PV}{Q a:PV->Prop}(h:aS P f args Q)(i:∀r,Q r->a r):aS P f args a:=⟨h.1,λI w vs g j=>(h.2 I w vs g j).mono λ_ _ ⟨v,r,b,c,d,e⟩=>⟨v,r,b,c,i r d,e⟩⟩
def isVal:PV->Bool
 | .val _=>true
 |_=>false
def PV.scalar:PV->Bool
 | .val _=>true
 | .agg cs=>cs.all isVal
 | .dY vs=>vs.all λx=>match x with
  | .val _=>true
  | .agg cs=>cs.all isVal
  |_=>false
 |_=>false
theorem VR.isVal{J:Mem}{u:Value}{x:PV}(h:VR J u x)(a:isVal x=true):VR I u x:=by cases h<;>first|exact .val _ (by assumption)|(cases a;done)
theorem VR.vals{J:Mem}{u:Value}{cs:List PV}(h:VR J u (.agg cs))(f:cs.all cv.isVal=true):VR I u (.agg cs):=by
 cases h with
 |agg us _ hl e b=>exact .agg us cs hl (λj u c d a=>(e j u c d a).isVal (List.all_eq_true.1 f c (List.mem_of_getElem? a))) b
theorem VR.scalar{J:Mem}{u:Value}{x:PV}(h:VR J u x)(a:x.scalar=true):VR I u x:=by
 cases x with
 |val v=>exact h.isVal rfl
 |agg cs=>exact h.vals a
 |dY vs =>
  cases h with
  |dY us _ hl g =>
   refine .dY us vs hl λj u c f e=>?_
   have b:=List.all_eq_true.1 a c (List.mem_of_getElem? e);have d:=g j u c f e;cases c with
   |val v=>exact d.isVal rfl
   |agg cs=>exact d.vals b
   |_=>cases b
 |_=>cases a
def CP(L:bB)(w:World)(J:Mem):Prop:=∀id l b,L id=some l->l.has b->∀o u,w.cell? ⟨b,o,none⟩=some u->J b o=some u
def HSub(a H:az):Prop:=∀id c,a id=some c->H id=some c
theorem uH(H:az):HSub H H:=λ_ _ h=>h
def AK(G:az)(L:bB)(w:World)(J:Mem):Prop:=∀id a,G id=some a->∀l b,L id=some l->l.has b->∀o u,w.cell? ⟨b,o,none⟩=some u->J b o=some u
theorem CP.g{w:World}{J:Mem}(h:CP L w J)(G:az):AK G L w J:=λid _ _=>h id
theorem sr(L:bB)(w:World):CP L w (snap w):=λ_ _ _ _ _ _ _ h=>h
theorem N0{C:Ctx}{H:az}{env:Env}{tm:Array Value}{w:World}(B:iG C env H I L tm w){J:Mem}(q:I.sub J){id v sz:Nat}{e:TypeId}{es:List (List PV)}
  (r:H id=some (.row v e sz es)) (s:∀l b,L id=some l->l.has b->∀o u,w.cell? ⟨b,o,none⟩=some u->J b o=some u):∃d,L id=some (.row v d sz)/\VR J d (.aV es):=by
 obtain⟨d,us,i,k,F,m,n,p,G⟩:=B.chunk id _ r;refine⟨d,i,?_⟩;have x:=bG m;have h:us.length=es.flatten.length:=by rw[x];exact k.1
 rcases k.2 with ⟨rfl,z⟩|⟨g,cap,E,rfl,K,y,A,M,N,D⟩
 ·have t:es=[]:=List.length_eq_zero_iff.1 z;subst t;exact .aV none 0 0 [] us sz rfl (by simp) h (λj u c a f=>(n j u c a f).mono q) p (.inl (List.length_eq_zero_iff.1 (by simpa using h))) (λ_=>⟨rfl,rfl⟩) (Nat.le_refl _)
 ·refine .aV _ _ _ es us sz rfl m h (λj u c a f=>(n j u c a f).mono q) p (.inr ⟨g,0,rfl,λj u a=>?_⟩) (by simp) A;rw[Nat.zero_add];refine s _ g i rfl j u ?_;rw[gB y];rw[<-D,List.getElem?_take] at a;split at a
  ·simpa using a
  ·cases a
theorem Ez{H:az}{id a:Nat}{r:Nat×List (List PV)}(h:cU H id a=some r):∃b,H id=some b/\True:=by
 unfold cU at h;split at h
 ·rename_i c;exact⟨_,c,trivial⟩
 ·cases h
theorem Ig{H b:az}(h:HSub H b){id c:Nat}{r:Nat×List (List PV)}(a:cU H id c=some r):cU b id c=some r:=by obtain⟨e,d,_⟩:=Ez a;unfold cU at a ⊢;rw[d] at a;rw[h id e d];exact a
def qx(H:az):AV->Option (PV×Bool)
 | .p x=>some (x,false)
 | .row id a=>match H id with
  |some (.row v _ _ es)=>if v=a then some (.aV es,true) else none
  |some (.shut v es)=>if v=a then some (.aV es,false) else none
  |_=>none
 | .eY id a=>match cU H id a with
  |some (_,es)=>some (.aV es,true)
  |none=>none
 | .kY id a i=>match nS (cU H id a) i with
  |some l=>some (.aV l,true)
  |none=>none
 |_=>none
def eG(f:AV->Option (PV×Bool)):List AV->Option (List PV×Bool)
 | []=>some ([],false)
 |a :: r=>match f a,eG f r with
  |some (x,b),some (xs,c)=>some (x :: xs,b||c)
  |_,_=>none
def vA(H:az):AV->Option (PV×Bool)
 | .ptr id off=>match H id with
  |some (.box cs)=>match eG (qx H) cs with
   |some (b,_)=>some (.eF b off,true)
   |none=>none
  |_=>none
 |a=>qx H a
def oE(H:az):AV->Option (PV×Bool)
 | .ptr id off=>match H id with
  |some (.box cs)=>match eG (vA H) cs with
   |some (b,_)=>some (.eF b off,true)
   |none=>none
  |_=>none
 |a=>qx H a
def ia(H:az):AV->Option (PV×Bool)
 | .agg cs=>match eG (oE H) cs with
  |some (e,b)=>some (.agg e,b)
  |none=>none
 | .dY cs=>match eG (oE H) cs with
  |some (e,b)=>some (.dY e,b)
  |none=>none
 | .iT g h cs=>match eG (oE H) h,eG (oE H) cs with
  |some (f,b),some (c,d)=>some (.iT g f c,b||d)
  |_,_=>none
 |a=>oE H a
def Am(H:az):AV->Option (PV×Bool)
 | .dY cs=>match eG (ia H) cs with
  |some (c,b)=>some (.dY c,b)
  |none=>none
 |a=>ia H a
def Bd(I:Mem)(L:bB)(J:Mem)(f:AV->Option (PV×Bool)):Prop:=∀u a x b,eP I L u a->f a=some (x,b)->VR J u x/\(b=false->VR I u x)
theorem kP{J:Mem}{f:AV->Option (PV×Bool)}(n:Bd I L J f):∀ (fe:List AV) (g:List PV) (b:Bool),eG f fe=some (g,b)->∀us:List Value,us.length=fe.length ->
  (∀ (j:Nat) u c,us[j]? = some u->fe[j]? = some c->eP I L u c)->us.length=g.length/\(∀ (j:Nat) u c,us[j]? = some u->g[j]? = some c->VR J u c)/\(b=false->∀ (j:Nat) u c,us[j]? = some u->g[j]? = some c->VR I u c)
 | [],g,b,h,us,hl,_=>by simp[eG] at h;obtain⟨rfl,rfl⟩:=h;exact⟨hl,by simp,by simp⟩
 |a :: r,g,b,h,[],hl,_=>by simp at hl
 |a :: r,g,b,h,u :: us,hl,o=>by
  simp only[eG] at h;split at h
  ·rename_i x k xs l p q;simp only[cG,iU] at h;obtain⟨rfl,rfl⟩:=h;obtain⟨t,v,w⟩:=kP n r xs l q us (by simpa using hl) (λj u c e d=>o (j+1) u c e d);obtain⟨y,z⟩:=n u a x k (o 0 u a rfl rfl) p;refine⟨by simp[t],λj i c e d=>?_,λs j i c e d=>?_⟩
   ·cases j with
    |zero=>simp at e d;subst e d;exact y
    |succ j=>exact v j i c (by simpa using e) (by simpa using d)
   ·have m:k=false/\l=false:=by simpa using s
    cases j with
    |zero=>simp at e d;subst e d;exact z m.1
    |succ j=>exact w m.2 j i c (by simpa using e) (by simpa using d)
  ·cases h
section
variable{C:Ctx}{H G:az}{env:Env}{tm:Array Value}{w:World}{J:Mem}
theorem EA(r:iG C env H I L tm w)(o:HSub G H)(m:I.sub J)(K:AK G L w J):Bd I L J (qx G):=by
 intro u a x b g h;unfold qx at h;split at h
 ·simp only[cG,iU] at h;obtain⟨rfl,rfl⟩:=h;exact⟨g.oz.mono m,λ_=>g.oz⟩
 ·rename_i id s;split at h
  ·rename_i v e sz es p;split at h
   ·rename_i Q;simp only[cG,iU] at h;obtain⟨rfl,rfl⟩:=h;subst Q;obtain⟨N,F,n⟩:=N0 r m (o _ _ p) (K id _ p);cases g with
    |row _ _ _ V R ao hl O f P=>rw[F] at hl;simp only[cG,Loc.row.injEq] at hl;obtain⟨r1,r2,U⟩:=hl;subst r1 r2 U;rw[f rfl];exact⟨n,λc=>by cases c⟩
   ·cases h
  ·rename_i v es p;split at h
   ·rename_i Q;simp only[cG,iU] at h;obtain⟨rfl,rfl⟩:=h;subst Q;obtain⟨N,sz,F,n,_⟩:=r.chunk id _ (o _ _ p);cases g with
    |row _ _ _ V R ao hl O f P=>rw[F] at hl;simp only[cG,Loc.row.injEq] at hl;obtain⟨r1,r2,U⟩:=hl;subst r1 r2 U;rw[f rfl];exact⟨n.mono m,λ_=>n⟩
   ·cases h
  ·cases h
 ·rename_i id s;split at h
  ·rename_i k es d;simp only[cG,iU] at h;obtain⟨rfl,rfl⟩:=h;obtain⟨t,M,aa⟩:=Ez d;obtain⟨N,sz,an,e,Z,us,Y,j,W,q3,q4,X,T⟩:=kF r (Ig o d);cases g with
   |eY _ _ _ V R _ _ rO n1 hl O f P=>rw[j] at hl;simp only[cG,Loc.deep.injEq] at hl;obtain⟨y,z,A,B,D,E⟩:=hl;subst y z A B D E;rw[f rfl];exact⟨Ic W X T m λb c=>K id t M _ b j c,λc=>by cases c⟩
  ·cases h
 ·rename_i id s i;split at h
  ·rename_i l q;simp only[cG,iU] at h;obtain⟨rfl,rfl⟩:=h;cases d:cU G id s with
   |none=>rw[d] at q;cases q
   |some ke =>
    obtain⟨k,es⟩:=ke;rw[d] at q;obtain⟨ab,x,ad,ae⟩:=xL q;obtain⟨t,M,aa⟩:=Ez d;obtain⟨N,sz,an,e,Z,us,Y,j,W,q3,q4,X,T⟩:=kF r (Ig o d);obtain⟨l',aq,S,m2,m3⟩:=T i x ad;rw[ae] at S;simp only[cG,PV.aV.injEq] at S;subst S;cases g with
    |kY _ _ _ V _ R _ _ rO n1 hl O f P=>rw[j] at hl;simp only[cG,Loc.deep.injEq] at hl;obtain⟨y,z,A,B,D,E⟩:=hl;subst y z A B D E;rw[f rfl];exact⟨m2.CN m λb c=>K id t M _ b j (.inr ⟨i,ab,c⟩),λc=>by cases c⟩
  ·cases h
 ·cases h
theorem N1(i:iG C env H I L tm w)(f:HSub G H)(n:I.sub J)(g:AK G L w J):Bd I L J (vA G):=by
 intro u a x b d h;unfold vA at h;split at h
 ·rename_i id off;split at h
  ·rename_i cs l;split at h
   ·rename_i m o z;simp only[cG,iU] at h;obtain⟨rfl,rfl⟩:=h;obtain⟨blk,arr,e,k,p,q,r,s,E⟩:=i.chunk id _ (f _ _ l);cases d with
    |ptr _ D _ hl =>
     rw[k] at hl;simp only[cG,Loc.box.injEq] at hl;subst hl;obtain⟨A,B,_⟩:=kP (EA i f n g) cs m o z arr.toList (by simpa using q) (λj u c d v=>r j u c (by simpa using d) v);refine⟨?_,λt=>by cases t⟩;have:=VR.eF (I:=J) blk 0 m arr.toList off A B (λu d=>by
      obtain⟨j,y⟩:=List.mem_iff_getElem?.1 d;exact s j u (by simpa using y)) (λj u d=>by
       rw[Nat.zero_add];exact g id _ l _ blk k rfl j u (by rw[gB p];simpa using d))
     rwa [Nat.zero_add] at this
   ·cases h
  ·cases h
 ·exact EA i f n g u _ x b d h
theorem zw(i:iG C env H I L tm w)(f:HSub G H)(n:I.sub J)(g:AK G L w J):Bd I L J (oE G):=by
 intro u a x b d h;unfold oE at h;split at h
 ·rename_i id off;split at h
  ·rename_i cs l;split at h
   ·rename_i m o z;simp only[cG,iU] at h;obtain⟨rfl,rfl⟩:=h;obtain⟨blk,arr,e,k,p,q,r,s,E⟩:=i.chunk id _ (f _ _ l);cases d with
    |ptr _ D _ hl =>
     rw[k] at hl;simp only[cG,Loc.box.injEq] at hl;subst hl;obtain⟨A,B,_⟩:=kP (N1 i f n g) cs m o z arr.toList (by simpa using q) (λj u c d v=>r j u c (by simpa using d) v);refine⟨?_,λt=>by cases t⟩;have:=VR.eF (I:=J) blk 0 m arr.toList off A B (λu d=>by
      obtain⟨j,y⟩:=List.mem_iff_getElem?.1 d;exact s j u (by simpa using y)) (λj u d=>by
       rw[Nat.zero_add];exact g id _ l _ blk k rfl j u (by rw[gB p];simpa using d))
     rwa [Nat.zero_add] at this
   ·cases h
  ·cases h
 ·exact EA i f n g u _ x b d h
theorem pQ(l:iG C env H I L tm w)(i:HSub G H)(p:I.sub J)(j:AK G L w J):Bd I L J (ia G):=by
 intro u a x b q h;unfold ia at h;split at h
 ·rename_i cs;split at h
  ·rename_i e g r;simp only[cG,iU] at h;obtain⟨rfl,rfl⟩:=h;cases q with
   |agg us _ hl m y=>obtain⟨d,n,o⟩:=kP (zw l i p j) cs e g r us hl m;exact⟨.agg us e d n y,λk=>.agg us e d (o k) y⟩
  ·cases h
 ·rename_i cs;split at h
  ·rename_i e g r;simp only[cG,iU] at h;obtain⟨rfl,rfl⟩:=h;cases q with
   |dY us _ hl m=>obtain⟨d,n,o⟩:=kP (zw l i p j) cs e g r us hl m;exact⟨.dY us e d n,λk=>.dY us e d (o k)⟩
  ·cases h
 ·rename_i t A cs;split at h
  ·rename_i f g c s D B;simp only[cG,iU] at h;obtain⟨rfl,rfl⟩:=h;cases q with
   |iT _ us vs _ _ hl E m M =>
    obtain⟨d,n,o⟩:=kP (zw l i p j) A f g D us hl m;obtain⟨z,F,K⟩:=kP (zw l i p j) cs c s B vs E M;refine⟨.iT t us vs f c d z n F,λk=>?_⟩;have v:g=false/\s=false:=by simpa using k
    exact .iT t us vs f c d z (o v.1) (K v.2)
  ·cases h
 ·exact zw l i p j u _ x b q h
theorem N2(f:iG C env H I L tm w)(d:HSub G H)(j:I.sub J)(e:AK G L w J):Bd I L J (Am G):=by
 intro u a x b g h;unfold Am at h;split at h
 ·rename_i cs;split at h
  ·rename_i c k m;simp only[cG,iU] at h;obtain⟨rfl,rfl⟩:=h;cases g with
   |dY us _ hl n=>obtain⟨i,o,p⟩:=kP (pQ f d j e) cs c k m us hl n;exact⟨.dY us c i o,λl=>.dY us c i (p l)⟩
  ·cases h
 ·exact pQ f d j e u _ x b g h
end
def dL(o:Oper)(b:Operand->AV):Option (FuncId×List AV):=match o.op with
 | .call c=>match c.callee with
  | .value f=>match b f with
   | .p (.iT (.func k) a cs)=>some (k,a.map AV.p++c.args.toList.map b++cs.map AV.p)
   | .iT (.func k) a cs=>some (k,a++c.args.toList.map b++cs)
   |_=>none
  |_=>none
 |_=>none
theorem Ih{k:FuncId}(h:gP P k=true)(args:Array Value)(w:World):(callFunc k args).run P w = .ok (.enter k args) w:=by
 unfold gP at h;split at h
 ·rename_i a e;simp only[Bool.and_eq_true,bne_iff_ne,ne_eq] at h;have b:a.body.isNone=false:=by
   cases d:a.body with
   |none=>simp[d] at h
   |some c=>rfl
  have f:(a.name == "runtime.NumGoroutine")=false:=by simpa using h.1
  simp only[callFunc,program,Sem.run_bind,Sem.run,Result.andThen_ok,Sem.run_pure',e,f,b];try rfl
 ·cases h
theorem pJ.append{us vs:List Value}{fe e:List AV}(h:pJ I L us fe)(k:pJ I L vs e):pJ I L (us++vs) (fe++e):=by
 refine⟨by simp[h.1,k.1],λj u a c b=>?_⟩;rw[List.getElem?_append] at c b;rw[h.1] at c;split at c
 ·rename_i d;rw[if_pos d] at b;exact h.2 _ _ _ c b
 ·rename_i d;rw[if_neg d] at b;exact k.2 _ _ _ c b
theorem pJ.CQ{us:List Value}{b:List PV}(hl:us.length=b.length)(h:∀ (j:Nat) u c,us[j]? = some u->b[j]? = some c->VR I u c):pJ I L us (b.map AV.p) :=
 ⟨by simpa using hl,λj u c e a=>by
  rw[List.getElem?_map] at a;cases d:b[j]? with
  |none=>simp[d] at a
  |some p=>simp[d] at a;subst a;exact .p _ _ (h j u p e d)⟩
theorem qN{o:Oper}{g:Operand->AV}{k:FuncId}{fe:List AV}(h:dL o g=some (k,fe))(n:gP P k=true){σ:Operand->Value}(q:∀x,eP I L (σ x) (g x))(w:World) :
  ∃us:List Value,(execOp σ o).run P w = .ok (.enter k us.toArray) w/\pJ I L us fe:=by
 unfold dL at h;split at h
 ·rename_i c r;split at h
  ·rename_i f m;have a:=q f;have l:=uY (I:=I) (L:=L) q c.args.toList;have i:c.args.map σ=(c.args.toList.map σ).toArray:=by apply Array.ext';simp
   unfold execOp;simp only[r];generalize p:σ f=u at a;generalize g f=t at h a;split at h
   ·rename_i s j cs;simp only[cG,iU] at h;obtain⟨rfl,rfl⟩:=h;cases a.oz with
    |iT _ us vs _ _ hl b d e=>refine⟨us++c.args.toList.map σ++vs,?_,((pJ.CQ hl d).append l).append (pJ.CQ b e)⟩;simp only[resolve,m,p,Deferred.ofValue,Sem.run_bind,Sem.run_pure,Result.andThen_ok,invoke,Ih n,i];simp
   ·rename_i s j cs;simp only[cG,iU] at h;obtain⟨rfl,rfl⟩:=h;cases a with
    |iT _ us vs _ _ hl b d e=>refine⟨us++c.args.toList.map σ++vs,?_,pJ.append (pJ.append (show pJ I L us j from ⟨hl,d⟩) l) (show pJ I L vs cs from ⟨b,e⟩)⟩;simp only[resolve,m,p,Deferred.ofValue,Sem.run_bind,Sem.run_pure,Result.andThen_ok,invoke,Ih n,i];simp
   ·cases h
  ·cases h
 ·cases h
theorem N3{o:Oper}{g:Operand->AV}{k:FuncId}{fe:List AV}(h:dL o g=some (k,fe)){σ:Operand->Value}(p:∀x,eP I L (σ x) (g x))(w:World) :
  ∃us:List Value,(execOp σ o).run P w=(callFunc k us.toArray).run P w/\pJ I L us fe:=by
 unfold dL at h;split at h
 ·rename_i c q;split at h
  ·rename_i f m;have a:=p f;have l:=uY (I:=I) (L:=L) p c.args.toList;have i:c.args.map σ=(c.args.toList.map σ).toArray:=by apply Array.ext';simp
   unfold execOp;simp only[q];generalize n:σ f=t at a;generalize g f=s at h a;split at h
   ·rename_i r j cs;simp only[cG,iU] at h;obtain⟨rfl,rfl⟩:=h;cases a.oz with
    |iT _ us vs _ _ hl b d e=>refine⟨us++c.args.toList.map σ++vs,?_,((pJ.CQ hl d).append l).append (pJ.CQ b e)⟩;simp only[resolve,m,n,Deferred.ofValue,Sem.run_bind,Sem.run_pure,Result.andThen_ok,invoke,i];simp
   ·rename_i r j cs;simp only[cG,iU] at h;obtain⟨rfl,rfl⟩:=h;cases a with
    |iT _ us vs _ _ hl b d e=>refine⟨us++c.args.toList.map σ++vs,?_,pJ.append (pJ.append (show pJ I L us j from ⟨hl,d⟩) l) (show pJ I L vs cs from ⟨b,e⟩)⟩;simp only[resolve,m,n,Deferred.ofValue,Sem.run_bind,Sem.run_pure,Result.andThen_ok,invoke,i];simp
   ·cases h
  ·cases h
 ·cases h
def EB(P:Program)(k:FuncId)(a:List PV)(x:PV):Prop:=∀ (I:Mem) (w:World) (us:List Value),qs I us a->∃u,(callFunc k us.toArray).run P w = .ok (.value u) w/\VR I u x
def Ii(P:Program)(o:Oper)(b:Operand->AV)(W:PV->Prop):Prop:=∃k a x,dL o b=some (k,a.map AV.p)/\EB P k a x/\W x
theorem N4{o:Oper}{b:Operand->AV}{W:PV->Prop}(h:Ii P o b W){w:World}{σ:Operand->Value}(m:∀x,eP I L (σ x) (b x)) :
  ∃u x,(execOp σ o).run P w = .ok (.value u) w/\VR I u x/\W x:=by
 obtain⟨k,r,x,d,e,f⟩:=h;obtain⟨us,l,a⟩:=N3 d m w;obtain⟨u,n,q⟩:=e I w us ⟨by simpa using a.1,λj u c i g=>(a.2 j u (.p c) i (by simp[g])).oz⟩;exact⟨u,x,l.trans n,q,f⟩
def zx(P:Program)(o:Oper)(c:Operand->AV)(H:az)(x:PV):Prop:=∃k fe a b,dL o c=some (k,fe)/\eG (ia H) fe=some (a,b)/\aS P k a (λr=>r=x)/\(b=true->x.scalar=true)
def EC(P:Program)(o:Oper)(d:Operand->AV)(H:az)(c:PV->Prop):Prop:=∃k fe a b Q,dL o d=some (k,fe)/\eG (ia H) fe=some (a,b)/\aS P k a Q/\∀r,Q r->(b=true->r.scalar=true)/\c r
theorem xP{o:Oper}{c:Operand->AV}{H:az}{x:PV}{a:PV->Prop}(h:zx P o c H x)(i:a x):EC P o c H a:=by obtain⟨k,fe,l,b,d,e,f,g⟩:=h;exact⟨k,fe,l,b,_,d,e,f,λr j=>by subst j;exact⟨g,i⟩⟩
theorem N5{o:Oper}{A:Operand->AV}{H:az}{p:PV->Prop}(h:EC P o A H p){C:Ctx}{env:Env}{tm:Array Value}{w:World}(a:iG C env H I L tm w){σ:Operand->Value}(F:∀x,eP I L (σ x) (A x)) :
  ∃k args,(execOp σ o).run P w = .ok (.enter k args) w/\Calls P k args w λe w'=>∃v c x,e = .returned v/\p x/\VR c v x/\Fr C I L H w c L H w':=by
 obtain⟨k,fe,t,b,Q,B,q,i,s⟩:=h;obtain⟨us,E,d⟩:=qN B i.1 F w;refine⟨k,_,E,?_⟩;cases b with
 |false =>
  obtain⟨j,_,J⟩:=kP (pQ a (uH H) (mG a.mem) ((sr L w).g H)) fe t false q us d.1 d.2;refine (i.2 I w us a.mem ⟨j,J rfl⟩).mono λe w' ⟨v,r,c,l,m,n,f,u,y,z⟩=>?_
  exact⟨v,c,r,l,(s r m).2,n,λenv tm a=>a.grow f u y z⟩
 |true =>
  obtain⟨j,G,_⟩:=kP (pQ a (uH H) (mG a.mem) ((sr L w).g H)) fe t true q us d.1 d.2;refine (i.2 (snap w) w us (Es w) ⟨j,G⟩).mono λe w' ⟨v,r,c,l,m,n,f,u,y,z⟩=>?_
  obtain⟨K,M⟩:=s r m;exact⟨v,I,r,l,M,n.scalar (K rfl),λenv tm a=>a.world (f.mono a.kf) λb D=>f.block b D⟩
end Go.cv
