/- Joined texts, part 2: lemmas for the statement. No condition. -/
import Derived.Test.YtnnpmiiegnedeaaGreatJ1
set_option maxHeartbeats 4000000
set_option linter.unusedSimpArgs false
set_option linter.unusedVariables false
open Nat (reduceEqDiff reduceLT reduceLeDiff reduceMul reduceAdd reduceSub)
open Go.IntKind (i64)
namespace Go.cv
open Go.RowKit
variable{P:Program}{I:Mem}{L:bB}
inductive RV where
 |p (x:PV)
 |row (e:TypeId) (sz:Nat) (es:List (List PV))
 |deep (e:TypeId) (sz k:Nat) (e':TypeId) (sz':Nat) (es:List (List PV))
 |agg (rs:List RV)
 |dY (rs:List RV)
instance:Inhabited RV:=⟨.p default⟩
theorem zy{w:World}{B:Nat}{e:TypeId}{sz:Nat}{av:Value}{n:Nat}{us:List Value}(h:w.ownsRow B e sz av n us){b:Nat}(a:av.ownBlock=some b):B<=b:=by
 rcases h.2 with ⟨rfl,_⟩|⟨g,cap,d,rfl,c,f,_⟩
 ·cases a
 ·have:g=b:=by simpa[Value.ownBlock] using a
  subst this;exact c
theorem Ij{w:World}{base a:Nat}{e:TypeId}{size:Nat}{v:Value}{n:Nat}{xs:List Value}(h:w.ownsRow base e size v n xs)(i:a<=base):w.ownsRow a e size v n xs:=by
 refine⟨h.1,?_⟩;rcases h.2 with h|⟨g,cap,b,c,d,f⟩
 ·exact .inl h
 ·exact .inr ⟨g,cap,b,c,Nat.le_trans i d,f⟩
inductive xQ(w:World)(B:Nat)(I:Mem):Value->RV->List Nat->Prop
 |p (u:Value) (x:PV) (h:VR I u x):xQ w B I u (.p x) []
 |row (av:Value) (e:TypeId) (sz:Nat) (es:List (List PV)) (us:List Value) (h:sZ w B I av e sz es us) (h1:av.oneCell'=true):xQ w B I av (.row e sz es) av.ownBlock.toList
 | deep (av : Value) (e : TypeId) (sz k : Nat) (e' : TypeId) (sz' : Nat) (es : List (List PV)) (us : List Value) (dx : Nat → Value) (h : sZ w B I av e sz (fO k dx es) us) (h1 : av.oneCell' = true) (hk : k < sz) (hall : ∀ x ∈ es, x.length = sz)
   (hin:BH w B I k e' sz' dx es) (hap:Ef av dx es.length):xQ w B I av (.deep e sz k e' sz' es) (zi av dx es.length)
 | agg (us : List Value) (rs : List RV) (bs : List (List Nat)) (hl : us.length = rs.length) (hl' : us.length = bs.length)
   (hv:∀ (j:Nat) u r b,us[j]? = some u->rs[j]? = some r->bs[j]? = some b->xQ w B I u r b) (hone:∀u∈us,u.oneCell'=true):xQ w B I (.agg us.toArray) (.agg rs) bs.flatten
 | dY (us : List Value) (rs : List RV) (bs : List (List Nat)) (hl : us.length = rs.length) (hl' : us.length = bs.length)
   (hv:∀ (j:Nat) u r b,us[j]? = some u->rs[j]? = some r->bs[j]? = some b->xQ w B I u r b):xQ w B I (.tuple us.toArray) (.dY rs) bs.flatten
def bw(P:Program)(f:FuncId)(args:List PV)(Q:RV->Prop):Prop :=
 gP P f=true/\∀ (I:Mem) (w:World) (vs:List Value),I.en w->qs I vs args ->
  Calls P f vs.toArray w λe w'=>∃v r a I',e = .returned v/\Q r/\xQ w' w.heap.size I' v r a/\a.Nodup/\(∀b∈a,w.heap.size<=b/\b<w'.heap.size) /\
   Below w.heap.size w w'/\I.sub I'/\I'.en w'/\∀b,b<w.heap.size->∀o,I' b o=I b o
theorem bw.mono{f:FuncId}{args:List PV}{Q a:RV->Prop}(h:bw P f args Q)(i:∀r,Q r->a r):bw P f args a:=⟨h.1,λI w vs g j=>(h.2 I w vs g j).mono λ_ _ ⟨v,r,b,I',c,d,e⟩=>⟨v,r,b,I',c,i r d,e⟩⟩
mutual
def dz(k:Nat):RV->AV×Nat
 | .p x=>(.p x,k)
 | .row _ _ _=>(.row k 0,k+1)
 | .deep _ _ _ _ _ _=>(.eY k 0,k+1)
 | .agg a=>(yG (jK k a).1,(jK k a).2)
 | .dY a=>(.dY (jK k a).1,(jK k a).2)
def jK(k:Nat):List RV->List AV×Nat
 | []=>([],k)
 |r :: a=>((dz k r).1 :: (jK (dz k r).2 a).1,(jK (dz k r).2 a).2)
end
mutual
def iO(k:Nat)(H:az):RV->az
 | .p _=>H
 | .row e sz es=>bn H k (.row 0 e sz es)
 | .deep e sz j b c es=>bn H k (.deep 0 e sz j b c es)
 | .agg a=>lI k H a
 | .dY a=>lI k H a
def lI(k:Nat)(H:az):List RV->az
 | []=>H
 |r :: a=>lI (dz k r).2 (iO k H r) a
end
theorem iG.add{C:Ctx}{env:Env}{H:az}{tm:Array Value}{w:World}(h:iG C env H I L tm w){id:Nat}(x:H id=none)(l:Loc)(g:Chunk)
  (v:qL I (ct L id l) w C.B id g) (hl:∀b,l.has b->C.B<=b/\b<w.heap.size/\(∀i a,L i=some a->¬ a.has b)/\(C.w0.heap.size<=b\/C.A8 b)):iG C env (bn H id g) I (ct L id l) tm w:=by
 have u:=h.s0 x;have p:=dQ.uU u l;exact
 {h with
  env:=λt=>(h.env t).mono (Mem.ep I) p
  dom:=λi a d=>by
   by_cases e:i=id
   ·exact⟨g,by simp[bn,e]⟩
   ·obtain⟨c,n⟩:=h.dom i a (by simpa[ct,e] using d);exact⟨c,by simpa[bn,e] using n⟩
  chunk:=λi c n=>by
   by_cases e:i=id
   ·subst e;have:g=c:=by simpa[bn] using n
    subst this;exact v
   ·exact (h.chunk i c (by simpa[bn,e] using n)).keep (Mem.ep I) p (by simp[ct,e]) λ_ _ _ _=>⟨rfl,λ_=>rfl⟩
  loc:=h.loc.trans p
  jQ:=λi a b d f=>by
   by_cases e:i=id
   ·subst e;have:l=a:=by simpa[ct] using d
    subst this;exact (hl b f).2.2.2
   ·exact h.jQ i a b (by simpa[ct,e] using d) f
  gh:=λi a b d f=>by
   by_cases e:i=id
   ·subst e;have:l=a:=by simpa[ct] using d
    subst this;exact⟨(hl b f).1,(hl b f).2.1⟩
   ·exact h.gh i a b (by simpa[ct,e] using d) f
  apart:=λi j a q b d o r s=>by
   by_cases k:i=id<;>by_cases m:j=id
   ·rw[k,m]
   ·subst k;have:l=a:=by simpa[ct] using d
    subst this;exact absurd s ((hl b r).2.2.1 j q (by simpa[ct,m] using o))
   ·subst m;have:l=q:=by simpa[ct] using o
    subst this;exact absurd r ((hl b s).2.2.1 i a (by simpa[ct,k] using d))
   ·exact h.apart i j a q b (by simpa[ct,k] using d) (by simpa[ct,m] using o) r s }
def Ik(C:Ctx)(env:Env)(tm:Array Value)(w:World)(I:Mem)(L:bB)(H':az)(a:List Nat)(R:bB->Prop):Prop:=∃L',iG C env H' I L' tm w/\dQ L L'/\(∀id l b,L' id=some l->l.has b->(L id=some l)\/b∈a)/\R L'
theorem zz:(∀ (r:RV) (k:Nat),k<=(dz k r).2):=by
 intro r;refine RV.rec (motive_1:=λr=>∀k,k<=(dz k r).2) (motive_2:=λa=>∀k,k<=(jK k a).2) ?_ ?_ ?_ ?_ ?_ ?_ ?_ r
 ·intro x k;exact Nat.le_refl _
 ·intro e sz es k;exact Nat.le_succ _
 ·intro e sz j f g es k;exact Nat.le_succ _
 ·intro a b k;exact b k
 ·intro a b k;exact b k
 ·intro k;exact Nat.le_refl _
 ·intro r a c d k;exact Nat.le_trans (c k) (d _)
theorem ED(a:List RV):∀k:Nat,k<=(jK k a).2:=by
 induction a with
 |nil=>intro k;exact Nat.le_refl _
 |cons r a b=>intro k;exact Nat.le_trans (zz r k) (b _)
theorem EE:∀ (r:RV) (k:Nat) (H:az) (i:Nat),(i<k\/(dz k r).2<=i)->iO k H r i=H i:=by
 intro r;refine RV.rec (motive_1:=λr=>∀k (H:az) i,(i<k\/(dz k r).2<=i)->iO k H r i=H i) (motive_2:=λb=>∀k (H:az) i,(i<k\/(jK k b).2<=i)->lI k H b i=H i) ?_ ?_ ?_ ?_ ?_ ?_ ?_ r
 ·intro x k H i _;rfl
 ·intro e sz es k H i a;show bn H k _ i=H i;unfold bn;rw[if_neg];rintro rfl;rcases a with h|h
  ·exact Nat.lt_irrefl _ h
  ·exact Nat.lt_irrefl _ h
 ·intro e sz j g o es k H i a;show bn H k _ i=H i;unfold bn;rw[if_neg];rintro rfl;rcases a with h|h
  ·exact Nat.lt_irrefl _ h
  ·exact Nat.lt_irrefl _ h
 ·intro b c k H i a;exact c k H i a
 ·intro b c k H i a;exact c k H i a
 ·intro k H i _;rfl
 ·intro r b d f k H i a;show lI _ (iO k H r) b i=H i;have l:=zz r k;have m:=ED b (dz k r).2;have n:i<k\/(jK (dz k r).2 b).2<=i:=a;rw[f _ _ i (by omega),d k H i (by omega)]
section
variable{C:Ctx}{env:Env}{tm:Array Value}{w:World}{B:Nat}
def Il(C:Ctx)(env:Env)(tm:Array Value)(w:World)(B:Nat)(I:Mem)(r:RV):Prop :=
 ∀ (k:Nat) (H:az) (L:bB) (u:Value) (a:List Nat),iG C env H I L tm w->xQ w B I u r a->C.w0.heap.size<=B->a.Nodup->(∀b∈a,B<=b/\b<w.heap.size) ->
  (∀b∈a,∀i c,L i=some c->¬ c.has b)->(∀i,k<=i->i<(dz k r).2->H i=none)->Ik C env tm w I L (iO k H r) a λL'=>eP I L' u (dz k r).1
def N6(C:Ctx)(env:Env)(tm:Array Value)(w:World)(B:Nat)(I:Mem)(c:List RV):Prop :=
 ∀ (k:Nat) (H:az) (L:bB) (us:List Value) (a:List (List Nat)),iG C env H I L tm w->us.length=c.length->us.length=a.length ->
  (∀ (j:Nat) u r b,us[j]? = some u->c[j]? = some r->a[j]? = some b->xQ w B I u r b)->C.w0.heap.size<=B->a.flatten.Nodup->(∀b∈a.flatten,B<=b/\b<w.heap.size) ->
  (∀b∈a.flatten,∀i d,L i=some d->¬ d.has b)->(∀i,k<=i->i<(jK k c).2->H i=none)->Ik C env tm w I L (lI k H c) a.flatten λL'=>pJ I L' us (jK k c).1
theorem N7(r:RV):Il C env tm w B I r:=by
 refine RV.rec (motive_1:=Il C env tm w B I) (motive_2:=N6 C env tm w B I) ?_ ?_ ?_ ?_ ?_ ?_ ?_ r
 ·intro x k H L u f d o _ _ _ _ _;cases o with
  |p _ _ h=>exact⟨L,d,dQ.refl L,λid l b hl _=>.inl hl,.p _ _ h⟩
 ·intro e sz es k H L u f d o hB s c n q;cases o with
  |row _ _ _ _ us h g =>
   have G:H k=none:=q k (Nat.le_refl _) (Nat.lt_succ_self _);refine⟨ct L k (.row 0 u sz),d.add G _ _ ?_ ?_,dQ.uU (d.s0 G) _,?_,.row _ _ _ 0 u sz (by simp[ct]) (Nat.le_refl _) (λ_=>rfl) g⟩
   ·exact⟨u,us,by simp[ct],Ij h.own (Nat.le_trans C.hB hB),h.pos,h.all,h.val,h.one,h.free⟩
   ·intro b t;have y:b∈u.ownBlock.toList:=by have:u.ownBlock=some b:=t;simp[this]
    exact⟨Nat.le_trans (Nat.le_trans C.hB hB) (c b y).1,(c b y).2,n b y,.inl (Nat.le_trans hB (c b y).1)⟩
   ·intro id l b hl t;by_cases e:id=k
    ·subst e;have:Loc.row 0 u sz=l:=by simpa[ct] using hl
     subst this;right;have:u.ownBlock=some b:=t;simp[this]
    ·exact .inl (by simpa[ct,e] using hl)
 ·intro e sz j e' O es k H L u f d o hB s c n q;cases o with
  |deep _ _ _ _ _ _ _ us E h g G ak am ad =>
   have U:H k=none:=q k (Nat.le_refl _) (Nat.lt_succ_self _);have R:C.B<=B:=Nat.le_trans C.hB hB;have low:∀ {v:Value} {e:TypeId} {sz:Nat} {es:List (List PV)} {us:List Value},sZ w B I v e sz es us->sZ w C.B I v e sz es us:=λh=>⟨Ij h.own R,h.pos,h.all,h.val,h.one,h.free⟩
   refine⟨ct L k (.deep 0 u sz O E es.length),d.add U _ _ ?_ ?_,dQ.uU (d.s0 U) _,?_,.eY _ _ _ 0 u sz O E es.length (by simp[ct]) (Nat.le_refl _) (λ_=>rfl) g⟩
   ·exact⟨u,us,E,by simp[ct],low h,g,G,ak,λi x m=>by
     obtain⟨l,ax,q1,q2,q3⟩:=am i x m;exact⟨l,ax,q1,low q2,q3⟩,ad⟩
   ·intro b t;have y:b∈zi u E es.length:=Ee.2 t;exact⟨Nat.le_trans R (c b y).1,(c b y).2,n b y,.inl (Nat.le_trans hB (c b y).1)⟩
   ·intro id l b hl t;by_cases e:id=k
    ·subst e;have:Loc.deep 0 u sz O E es.length=l:=by simpa[ct] using hl
     subst this;exact .inr (Ee.2 t)
    ·exact .inl (by simpa[ct,e] using hl)
 ·intro N M k H L u f d o hB s c n q;cases o with
  |agg us _ f hl A D an=>obtain⟨L',g,z,J,F⟩:=M k H L us f d hl A D hB s c n q;exact⟨L',g,z,J,vR F.1 F.2 an⟩
 ·intro N M k H L u f d o hB s c n q;cases o with
  |dY us _ f hl A D=>obtain⟨L',g,z,J,F⟩:=M k H L us f d hl A D hB s c n q;exact⟨L',g,z,J,.dY us _ F.1 F.2⟩
 ·intro k H L us f d hl A _ _ _ _ _ _;have:us=[]:=by simpa using hl
  subst this;exact⟨L,d,dQ.refl L,λid l b hl _=>.inl hl,rfl,by simp⟩
 ·intro r N ap aq k H L us f d hl A D hB s c n q;cases us with
  |nil=>simp at hl
  |cons u us =>
   cases f with
   |nil=>simp at A
   |cons b f =>
    simp only[List.flatten_cons,List.nodup_append,List.mem_append] at s c n;obtain⟨X,Z,a2,Q,a4⟩:=ap k H L u b d (D 0 u r b rfl rfl rfl) hB s.1 (λx m=>c x (.inl m)) (λx m=>n x (.inl m)) (λi g z=>q i g (Nat.lt_of_lt_of_le z (ED N _)));obtain⟨Y,b1,S,b3,T⟩:=aq (dz k r).2 (iO k H r) X us f Z (by simpa using hl) (by simpa using A) (λj u r b hu o t=>D (j+1) u r b hu o t) hB s.2.1 (λx m=>c x (.inr m)) (λx m i W hi V=>by
     rcases Q i W x hi V with h|h
     ·exact n x (.inr m) i W h V
     ·exact s.2.2 x h x m rfl) (λi g z=>by
      rw[EE r k H i (.inr g)];exact q i (Nat.le_trans (zz r k) g) z)
    refine⟨Y,b1,λid=>?_,λid l x hl m=>?_,by simp[jK,T.1],λj v a P K=>?_⟩
    ·exact (a2.trans S) id
    ·rcases b3 id l x hl m with h|h
     ·rcases Q id l x h m with h|h
      ·exact .inl h
      ·exact .inr (by simp[h])
     ·exact .inr (by
       rw[List.flatten_cons];exact List.mem_append_right _ h)
    ·cases j with
     |zero =>
      simp at P K;subst P;have ai:(dz k r).1=a:=by simpa[jK] using K
      rw[<-ai];exact a4.mono (Mem.ep I) S
     |succ j=>exact T.2 j v a (by simpa using P) (by simpa[jK] using K)
end
mutual
def RV.flat:RV->Bool
 | .p x=>x.scalar
 | .row _ _ es=>es.all λx=>x.all isVal
 | .deep _ _ _ _ _ _=>false
 | .agg a=>RV.yQ a
 | .dY a=>RV.yQ a
def RV.yQ:List RV->Bool
 | []=>true
 |r :: a=>r.flat&&RV.yQ a
end
theorem sZ.flat{w:World}{B:Nat}{J:Mem}{av:Value}{e:TypeId}{sz:Nat}{es:List (List PV)}{us:List Value}(h:sZ w B J av e sz es us)(g:(es.all λx=>x.all isVal)=true)(d:∀b,av.ownBlock=some b->∀o,I b o=none) :
  sZ w B I av e sz es us :=
 {h with
  val:=λj u c k a=>(h.val j u c k a).isVal (by
   have i:=List.mem_of_getElem? a;obtain⟨x,l,f⟩:=List.mem_flatten.1 i;exact List.all_eq_true.1 (List.all_eq_true.1 g x l) c f)
  free:=d }
theorem xQ.flat{w:World}{B:Nat}{J:Mem}{u:Value}{r:RV}{g:List Nat}(h:xQ w B J u r g):r.flat=true->(∀b∈g,∀o,I b o=none)->xQ w B I u r g:=by
 induction h with
 |p u x h=>exact λd _=>.p _ _ (h.scalar d)
 |row av e sz es us h s=>intro d l;exact .row av e sz es us (h.flat d λb i=>l b (by simp[i])) s
 |deep=>intro d;cases d
 |agg us c g hl n v t k =>
  intro d l;have m:∀c:List RV,RV.yQ c=true->∀r∈c,r.flat=true:=by
   intro c
   induction c with
   |nil=>intro _ r f;cases f
   |cons a r k =>
    intro h x hx;simp only[RV.yQ,Bool.and_eq_true] at h;rcases List.mem_cons.1 hx with rfl|hx
    ·exact h.1
    ·exact k h.2 x hx
  exact .agg us c g hl n (λj u r b q f i=>k j u r b q f i (m c d r (List.mem_of_getElem? f)) λx hx=>l x (List.mem_flatten.2 ⟨b,List.mem_of_getElem? i,hx⟩)) t
 |dY us c g hl n v k =>
  intro d l;have m:∀c:List RV,RV.yQ c=true->∀r∈c,r.flat=true:=by
   intro c
   induction c with
   |nil=>intro _ r f;cases f
   |cons a r k =>
    intro h x hx;simp only[RV.yQ,Bool.and_eq_true] at h;rcases List.mem_cons.1 hx with rfl|hx
    ·exact h.1
    ·exact k h.2 x hx
  exact .dY us c g hl n (λj u r b q f i=>k j u r b q f i (m c d r (List.mem_of_getElem? f)) λx hx=>l x (List.mem_flatten.2 ⟨b,List.mem_of_getElem? i,hx⟩))
def Im(P:Program)(o:Oper)(ρ:Operand->AV)(H:az)(c:AV->az->Prop):Prop :=
 ∃k fe a b Q,∃id:Nat,dL o ρ=some (k,fe)/\eG (ia H) fe=some (a,b)/\bw P k a Q /\
  ∀r,Q r->(b=true->r.flat=true)/\(∀i,id<=i->i<(dz id r).2->H i=none)/\c (dz id r).1 (iO id H r)
theorem N8{o:Oper}{ρ:Operand->AV}{H:az}{E:AV->az->Prop}(h:Im P o ρ H E){C:Ctx}{env:Env}{tm:Array Value}{w:World}(c:iG C env H I L tm w){σ:Operand->Value}(ab:∀x,eP I L (σ x) (ρ x)) :
  ∃k args,(execOp σ o).run P w = .ok (.enter k args) w/\Calls P k args w λe w'=>∃v I' L' a H',e = .returned v/\E a H'/\eP I' L' v a/\iG C env H' I' L' tm w':=by
 obtain⟨k,fe,M,b,Q,id,G,p,q,J⟩:=h;obtain⟨us,Y,l⟩:=qN G q.1 ab w;refine⟨k,_,Y,?_⟩
 have F : ∀ {I' : Mem} {w' : World} {v : Value} {r : RV} {d : List Nat}, iG C env H I' L tm w' → xQ w' w.heap.size I' v r d → d.Nodup → (∀ b ∈ d, w.heap.size ≤ b ∧ b < w'.heap.size) → (∀ i, id ≤ i → i < (dz id r).2 → H i = none) →
   ∃L',iG C env (iO id H r) I' L' tm w'/\eP I' L' v (dz id r).1:=by
  intro I' w' v r d aa Z X K T;obtain⟨L',j,_,_,k4⟩:=N7 r id H L v d aa Z c.below.size X K (λb f i li V W=>by
   have G:=(c.gh i li b V W).2;have p:=(K b f).1;omega) T
  exact⟨L',j,k4⟩
 cases b with
 |false =>
  obtain⟨j,_,k3⟩:=kP (pQ c (uH H) (mG c.mem) ((sr L w).g H)) fe M false p us l.1 l.2;refine (q.2 I w us c.mem ⟨j,k3 rfl⟩).mono λe w' ⟨v,r,d,I',z,A,B,D,m,n,N,O,R⟩=>?_
  obtain⟨_,s,t⟩:=J r A;obtain⟨L',n1,y⟩:=F (c.grow n N O R) B D m s;exact⟨v,I',L',_,_,z,t,y,n1⟩
 |true =>
  obtain⟨j,k2,_⟩:=kP (pQ c (uH H) (mG c.mem) ((sr L w).g H)) fe M true p us l.1 l.2;refine (q.2 (snap w) w us (Es w) ⟨j,k2⟩).mono λe w' ⟨v,r,d,I',z,A,B,D,m,n,N,O,R⟩=>?_
  obtain⟨m1,s,t⟩:=J r A;have U:∀b∈d,∀o,I b o=none:=λb f o=>by
   cases S:I b o with
   |none=>rfl
   |some u=>exact absurd (c.mem.lt S) (by have:=(m b f).1;omega)
  obtain⟨L',n1,y⟩:=F (c.world (n.mono c.kf) λb f=>n.block b f) (B.flat (m1 rfl) U) D m s;exact⟨v,I,L',_,_,z,t,y,n1⟩
mutual
def RV.pv:RV->PV
 | .p x=>x
 | .row _ _ es=>.aV es
 | .deep _ _ _ _ _ es=>.aV es
 | .agg a=>.agg (RV.kR a)
 | .dY a=>.dY (RV.kR a)
def RV.kR:List RV->List PV
 | []=>[]
 |r :: a=>r.pv :: RV.kR a
end
theorem RV.EF:∀ (a:List RV) (j:Nat) (c:PV),(RV.kR a)[j]? = some c->∃r,a[j]? = some r/\r.pv=c
 | [],j,c,h=>by simp[RV.kR] at h
 |r :: a,j,c,h=>by
  cases j with
  |zero=>simp[RV.kR] at h;exact⟨r,rfl,h⟩
  |succ j=>obtain⟨e,b,d⟩:=RV.EF a j c (by simpa[RV.kR] using h);exact⟨e,by simpa using b,d⟩
theorem RV.EG:∀ (a:List RV),(RV.kR a).length=a.length
 | []=>rfl
 |r :: a=>by simp[RV.kR,RV.EG a]
theorem xQ.pv{w:World}{B:Nat}{J:Mem}{u:Value}{r:RV}{n:List Nat}(h:xQ w B J u r n):∀ {K:Mem},J.sub K->(∀b,B<=b->∀o u,w.cell? ⟨b,o,none⟩=some u->K b o=some u)->VR K u r.pv:=by
 induction h with
 |p u x h=>exact λf _=>h.mono f
 |row av e sz es us h s =>
  intro K f m;show VR K av (.aV es);have F:=bG h.all;have z:us.length=es.flatten.length:=by rw[F];exact h.own.1
  rcases h.own.2 with ⟨rfl,I⟩|⟨g,cap,Q,rfl,d,G,L,U,V,O⟩
  ·have E:es=[]:=List.length_eq_zero_iff.1 I;subst E;exact .aV none 0 0 [] us sz rfl (by simp) z (λj u c a q=>(h.val j u c a q).mono f) h.one (.inl (List.length_eq_zero_iff.1 (by simpa using z))) (λ_=>⟨rfl,rfl⟩) (Nat.le_refl _)
  ·refine .aV _ _ _ es us sz rfl h.all z (λj u c a q=>(h.val j u c a q).mono f) h.one (.inr ⟨g,0,rfl,λj u a=>?_⟩) (by simp) L;rw[Nat.zero_add];refine m g d j u ?_;rw[gB G];rw[<-O,List.getElem?_take] at a;split at a
   ·simpa using a
   ·cases a
 |deep av e sz k S Z es us R h s W D C T =>
  intro K f m;exact Ic h D C f λb d=>m b (by
   rcases d with d|⟨i,H,d⟩
   ·exact (zy h.own d)
   ·obtain⟨l,aa,X,P,Y⟩:=C i _ (List.getElem?_eq_getElem H);exact zy P.own d)
 |agg us t n hl y N M A =>
  intro K f m;show VR K (.agg us.toArray) (.agg (RV.kR t));refine .agg us _ (by rw[RV.EG];exact hl) (λj u c a q=>?_) M;obtain⟨r,s,rfl⟩:=RV.EF t j c q;obtain⟨b,d⟩:∃b,n[j]? = some b:=by have v:j<us.length:=(List.getElem?_eq_some_iff.1 a).1;exact⟨n[j]'(by omega),by simp[y ▸ v]⟩
  exact A j u r b a s d f m
 |dY us t n hl y N A =>
  intro K f m;show VR K (.tuple us.toArray) (.dY (RV.kR t));refine .dY us _ (by rw[RV.EG];exact hl) (λj u c a q=>?_);obtain⟨r,s,rfl⟩:=RV.EF t j c q;obtain⟨b,d⟩:∃b,n[j]? = some b:=by have v:j<us.length:=(List.getElem?_eq_some_iff.1 a).1;exact⟨n[j]'(by omega),by simp[y ▸ v]⟩
  exact A j u r b a s d f m
def Mem.Be(I:Mem)(B:Nat)(w:World):Mem:=λb o=>if b<B then I b o else w.cell? ⟨b,o,none⟩
theorem bw.N9{f:FuncId}{args:List PV}{Q:RV->Prop}(h:bw P f args Q):aS P f args λx=>∃r,Q r/\x=r.pv :=
 ⟨h.1,λI w vs i j=>(h.2 I w vs i j).mono λe w' ⟨v,r,s,I',k,l,m,t,y,n,p,g,q⟩=>by
  have d:I'.sub (I'.Be w.heap.size w'):=λb o u a=>by
   unfold Mem.Be;split
   ·exact a
   ·exact g b o u a
  refine⟨v,r.pv,I'.Be w.heap.size w',k,⟨r,l,rfl⟩,m.pv d (λb c o u a=>?_),n,Mem.mD p d,λb o u a=>?_,λb c o=>?_⟩
  ·unfold Mem.Be;rw[if_neg (by omega)];exact a
  ·unfold Mem.Be at a;split at a
   ·exact g b o u a
   ·exact a
  ·unfold Mem.Be;rw[if_pos c];exact q b c o⟩
theorem bw.CR{f:FuncId}{args:List PV}{a:RV}(h:bw P f args λr=>r=a):aS P f args λx=>x=a.pv:=h.N9.mono λx ⟨r,b,c⟩=>by rw[c,b]
end Go.cv
namespace Go.cv
open Go.RowKit
variable{P:Program}{I:Mem}{L:bB}
def Ctx.BO(w:World)(I:Mem)(n B v sz:Nat)(av:Value)(a:B<=w.heap.size):Ctx :=
 ⟨w,I,n,B,λb=>av.ownBlock=some b,λi=>if i=1000000 then some (.row v av sz) else none,a,λi l h=>by
  split at h
  ·omega
  ·cases h⟩
def kZ(P:Program)(f:FuncId)(v:Nat)(e:TypeId)(sz:Nat)(es:List (List PV))(c:List PV)(Q:AV->Option Chunk->Prop):Prop :=
 gP P f=true/\∀ (B:Nat) (I:Mem) (w:World) (av:Value) (us vs:List Value) (b:B<=w.heap.size),I.en w->sZ w B I av e sz es us->av.oneCell'=true->qs I vs c ->
  Calls P f (av :: vs).toArray w λx w'=>∃u a H' I' L',x = .returned u/\Q a (H' 1000000)/\eP I' L' u a/\iG (Ctx.BO w I 0 B v sz av b) gv H' I' L' #[] w'
theorem kZ.mono{f:FuncId}{v:Nat}{e:TypeId}{sz:Nat}{es:List (List PV)}{d:List PV}{Q b:AV->Option Chunk->Prop}(h:kZ P f v e sz es d Q)(k:∀a c,Q a c->b a c):kZ P f v e sz es d b:=⟨h.1,λB I w av us vs i j l g m=>(h.2 B I w av us vs i j l g m).mono λ_ _ ⟨u,a,H',I',L',n,o,p⟩=>⟨u,a,H',I',L',n,k _ _ o,p⟩⟩
def CS(id:Nat):AV->Option AV
 | .p x=>some (.p x)
 | .row i v=>if i=1000000 then some (.row id v) else none
 | .dY []=>some (.dY [])
 |_=>none
theorem wA{w:World}{B:Nat}{e:TypeId}{sz:Nat}{av:Value}{n:Nat}{us:List Value}(h:w.ownsRow B e sz av n us){b:Nat}(a:av.ownBlock=some b):B<=b/\b<w.heap.size:=by
 rcases h.2 with ⟨rfl,_⟩|⟨g,cap,f,rfl,c,d,_⟩
 ·cases a
 ·have:g=b:=by simpa[Value.ownBlock] using a
  subst this;refine⟨c,?_⟩;rcases Nat.lt_or_ge g w.heap.size with h|h
  ·exact h
  ·simp[Array.getElem?_eq_none h] at d
section
variable{C:Ctx}{env:Env}{H H':az}{tm:Array Value}{w w':World}{id v sz:Nat}{e:TypeId}{es:List (List PV)}{av:Value}{J I':Mem}{L':bB}
theorem iG.back(h:iG C env H I L tm w)(a1:H id=some (.row v e sz es))(hl:L id=some (.row v av sz))(hJ:I.sub J)(an:∀b,av.ownBlock=some b->∀o,J b o=none)
  (r:iG (Ctx.BO w J 0 C.B v sz av h.kf) gv H' I' L' #[] w') {m:Nat} {N:TypeId} {n:Nat} {es':List (List PV)} (ap:H' 1000000=some (.row m N n es'))
  {K:Mem} (F:(J=I/\K=I')\/(K=I/\(es'.all λx=>x.all isVal)=true)) :
  ∃g,L' 1000000=some (.row m g n)/\iG C env (bn H id (.row m N n es')) K (ct L id (.row m g n)) tm w'/\dQ L (ct L id (.row m g n)):=by
 obtain⟨g,a0,P,k2,k3,k4,k5,k6,k7⟩:=r.chunk 1000000 _ ap;have O:dQ L (ct L id (.row m g n)):=λi=>by
  by_cases f:i=id
  ·subst f;rw[hl];have:=r.loc 1000000;simp only[Ctx.BO,if_true,P] at this;obtain⟨v1,j5,m1,m2,m3⟩:=this;simp only[cG,Loc.row.injEq] at m1;obtain⟨rfl,rfl,rfl⟩:=m1;exact⟨m,g,by simp[ct],m2,m3⟩
  ·have:ct L id (.row m g n) i=L i:=by simp[ct,f]
   rw[this];exact dQ.refl L i
 have V:∀b,av.ownBlock=some b->C.w0.heap.size<=b\/C.A8 b:=λb a=>h.jQ id _ b hl a
 have T:∀b,b<w.heap.size->av.ownBlock≠some b->w'.heap[b]? = w.heap[b]?:=λb a q=>r.frame b a q
 have am:∀b o,b<w.heap.size->av.ownBlock≠some b->I' b o=J b o:=λb o a q=>r.mF b a q o
 have Z:∀b,av.ownBlock=some b->∀o,I b o=none:=λb a o=>by
  cases R:I b o with
  |none=>rfl
  |some u=>have:=hJ b o u R;rw[an b a o] at this;cases this
 have Q:I.sub K:=by
  rcases F with ⟨p,s⟩|⟨p,_⟩
  ·rw[s];exact Mem.mD hJ r.lH
  ·rw[p];exact Mem.ep I
 have ab:∀b o,b<w.heap.size->av.ownBlock≠some b->K b o=I b o:=λb o a q=>by
  rcases F with ⟨p,s⟩|⟨p,_⟩
  ·rw[s,am b o a q,p]
  ·rw[p]
 have ao:K.en w':=by
  rcases F with ⟨_,s⟩|⟨p,_⟩
  ·rw[s];exact r.mem
  ·rw[p];exact h.mem.keep λb ⟨o,u,D⟩=>T b (h.mem.lt D) λa=>by rw[Z b a o] at D;cases D
 have S:∀b,g.ownBlock=some b->av.ownBlock=some b\/w.heap.size<=b:=λb a=>(r.jQ 1000000 _ b P a).symm
 refine⟨g,P,?_,O⟩;exact
 {below:=h.below.trans r.below
  mem:=ao
  lH:=Mem.mD h.lH Q
  mF:=λb a G o=>by
   have q:av.ownBlock≠some b:=λA=>by
    rcases V b A with h1|h1
    ·omega
    ·exact G h1
   rw[ab b o (Nat.lt_of_lt_of_le a h.below.size) q];exact h.mF b a G o
  frame:=λb a G=>by
   have q:av.ownBlock≠some b:=λA=>by
    rcases V b A with h1|h1
    ·omega
    ·exact G h1
   exact (T b (Nat.lt_of_lt_of_le a h.below.size) q).trans (h.frame b a G)
  loc:=h.loc.trans O
  jQ:=λi l b f z=>by
   by_cases d:i=id
   ·subst d;have:Loc.row m g n=l:=by simpa[ct] using f
    subst this;rcases S b z with h1|h1
    ·exact V b h1
    ·exact .inl (Nat.le_trans h.below.size h1)
   ·exact h.jQ i l b (by simpa[ct,d] using f) z
  size:=h.size
  env:=λt=>(h.env t).mono Q O
  dom:=λi l f=>by
   by_cases d:i=id
   ·exact⟨.row m N n es',by simp[bn,d]⟩
   ·obtain⟨c,y⟩:=h.dom i l (by simpa[ct,d] using f);exact⟨c,by simpa[bn,d] using y⟩
  chunk:=λi c y=>by
   by_cases d:i=id
   ·subst d;have:Chunk.row m N n es'=c:=by simpa[bn] using y
    subst this;refine⟨g,a0,by simp[ct],k2,k3,k4,λj u c D y=>?_,k6,λb a o=>?_⟩
    ·rcases F with ⟨_,s⟩|⟨p,al⟩
     ·rw[s];exact k5 j u c D y
     ·rw[p];refine (k5 j u c D y).isVal ?_;obtain⟨x,hx,aq⟩:=List.mem_flatten.1 (List.mem_of_getElem? y);exact List.all_eq_true.1 (List.all_eq_true.1 al x hx) c aq
    ·rcases F with ⟨_,s⟩|⟨p,_⟩
     ·rw[s];exact k7 b a o
     ·rw[p];rcases S b a with h1|h1
      ·exact Z b h1 o
      ·cases R:I b o with
       |none=>rfl
       |some u=>exact absurd (h.mem.lt R) (by omega)
   ·refine (h.chunk i c (by simpa[bn,d] using y)).keep Q O (by simp[ct,d]) λl b f z=>?_
    have q:av.ownBlock≠some b:=λA=>d (h.apart i id l _ b f hl z A)
    have af:=(h.gh i l b f z).2;exact⟨T b af q,λo=>ab b o af q⟩
  gh:=λi l b f z=>by
   by_cases d:i=id
   ·subst d;have:Loc.row m g n=l:=by simpa[ct] using f
    subst this;exact r.gh 1000000 _ b P z
   ·have:=h.gh i l b (by simpa[ct,d] using f) z;exact⟨this.1,Nat.lt_of_lt_of_le this.2 r.below.size⟩
  apart:=λi j l W b f U X Y=>by
   have one:∀k M,k≠id->L k=some M->M.has b->g.ownBlock≠some b:=λk M hk ae ad A=>by
    rcases S b A with h1|h1
    ·exact hk (h.apart k id M _ b ae hl ad h1)
    ·have:=(h.gh k M b ae ad).2;omega
   by_cases d:i=id<;>by_cases E:j=id
   ·rw[d,E]
   ·subst d;have:Loc.row m g n=l:=by simpa[ct] using f
    subst this;exact absurd X (one j W E (by simpa[ct,E] using U) Y)
   ·subst E;have:Loc.row m g n=W:=by simpa[ct] using U
    subst this;exact absurd Y (one i l d (by simpa[ct,d] using f) X)
   ·exact h.apart i j l W b (by simpa[ct,d] using f) (by simpa[ct,E] using U) X Y }
end
def vF(H:az)(id:Nat):az:=λi=>if i=id then none else H i
theorem EH(H:az)(id:Nat):HSub (vF H id) H:=λi c h=>by
 unfold vF at h;split at h
 ·cases h
 ·exact h
def uq(w:World)(r:Option Nat):Mem:=λb o=>if r=some b then none else w.cell? ⟨b,o,none⟩
def Io(P:Program)(o:Oper)(ρ:Operand->AV)(H:az)(j:AV->az->Prop):Prop :=
 ∃k id v e sz es fe g b Q,dL o ρ=some (k,.row id v :: fe)/\H id=some (.row v e sz es)/\eG (ia (vF H id)) fe=some (g,b)/\kZ P k v e sz es g Q /\
  ∀a c,Q a c->∃i f h es' d,c=some (.row i f h es')/\CS id a=some d/\(b=true->(es'.all λx=>x.all isVal)=true/\(match d with | .p x=>x.scalar|_=>true)=true)/\j d (bn H id (.row i f h es'))
theorem Ip{J K:Mem}{L':bB}{u:Value}{a c:AV}{id g f:Nat}{d:Value}(h:eP J L' u a)(b:CS id a=some c)(hl:L' 1000000=some (.row g d f))(k:∀x,c = .p x->VR J u x->VR K u x) :
  eP K (ct L id (.row g d f)) u c:=by
 unfold CS at b;split at b
 ·simp only[cG] at b;subst b;exact .p _ _ (k _ rfl h.oz)
 ·split at b
  ·rename_i i v m;simp only[cG] at b;subst b;subst m;cases h with
   |row _ _ _ s q r e n l j=>rw[hl] at e;simp only[cG,Loc.row.injEq] at e;obtain⟨rfl,rfl,rfl⟩:=e;exact .row u id v _ d f (by simp[ct]) n l j
  ·cases b
 ·simp only[cG] at b;subst b;cases h with
  |dY us _ hl o=>exact .dY us [] hl (by simp)
 ·cases b
theorem Oa{o:Oper}{ρ:Operand->AV}{H:az}{T:AV->az->Prop}(h:Io P o ρ H T){C:Ctx}{env:Env}{tm:Array Value}{w:World}(f:iG C env H I L tm w){σ:Operand->Value}(aA:∀x,eP I L (σ x) (ρ x)) :
  ∃k args,(execOp σ o).run P w = .ok (.enter k args) w/\Calls P k args w λe w'=>∃v I' L' a H',e = .returned v/\T a H'/\eP I' L' v a/\iG C env H' I' L' tm w':=by
 obtain⟨k,id,v,e,sz,es,fe,Y,b,Q,y,z,V,A,W⟩:=h;obtain⟨us,hr,d⟩:=qN y A.1 aA w;refine⟨k,_,hr,?_⟩;cases us with
 |nil=>have:=d.1;simp at this
 |cons m vs =>
  obtain⟨av,ws,q,Z,q3,q4,q5,q6,S⟩:=f.chunk id _ z;have aw:=d.2 0 m _ rfl rfl;have ar:m=av/\av.oneCell'=true:=by
   cases aw with
   |row _ _ _ v1 j5 a6 hl a4 hh y=>rw[q] at hl;simp only[cG,Loc.row.injEq] at hl;obtain⟨_,r2,_⟩:=hl;subst r2;have:=hh (by assumption);subst this;exact⟨rfl,y⟩
  obtain⟨rfl,U⟩:=ar;have p:pJ I L vs fe:=⟨by simpa using d.1,λj u c hj E=>d.2 (j+1) u c hj E⟩;cases b with
  |false =>
   obtain⟨F,_,k3⟩:=kP (pQ f (EH H id) (mG f.mem) ((sr L w).g _)) fe Y false V vs p.1 p.2;refine (A.2 C.B I w m ws vs f.kf f.mem ⟨Z,q3,q4,q5,q6,S⟩ U ⟨F,k3 rfl⟩).mono λx w' ⟨u,a,H',I',L',G,J,M,N⟩=>?_
   obtain⟨v',e',a1,es',r,n1,O,_,R⟩:=W a _ J;obtain⟨fo,s,t,g3⟩:=f.back z q (Mem.ep I) S N n1 (K:=I') (.inl ⟨rfl,rfl⟩);exact⟨u,I',_,r,_,G,R,Ip M O s λ_ _ h=>h,t⟩
  |true =>
   have D:I.sub (uq w m.ownBlock):=λb o u d=>by
    unfold uq;split
    ·rename_i n;rw[S b n o] at d;cases d
    ·exact f.mem b o u d
   have X:∀b,m.ownBlock=some b->∀o,uq w m.ownBlock b o=none:=λb n o=>by unfold uq;rw[if_pos n]
   have am:(uq w m.ownBlock).en w:=λb o u d=>by
    unfold uq at d;split at d
    ·cases d
    ·exact d
   have af:AK (vF H id) L w (uq w m.ownBlock):=λi ch hi l b hl n o u d=>by
    unfold uq;rw[if_neg]
    ·exact d
    ·intro an;have:=f.apart i id l _ b hl q n an;subst this;simp[vF] at hi
   obtain⟨F,k2,_⟩:=kP (pQ f (EH H id) D af) fe Y true V vs p.1 p.2;refine (A.2 C.B (uq w m.ownBlock) w m ws vs f.kf am ⟨Z,q3,q4,λj u c d E=>(q5 j u c d E).mono D,q6,X⟩ U ⟨F,k2⟩).mono λx w' ⟨u,a,H',I',L',G,J,M,N⟩=>?_
   obtain⟨v',e',a1,es',r,n1,O,n3,R⟩:=W a _ J;obtain⟨n5,n6⟩:=n3 rfl;obtain⟨fo,s,t,g3⟩:=f.back z q D X N n1 (K:=I) (.inr ⟨rfl,n5⟩);exact⟨u,I,_,r,_,G,R,Ip M O s λx hx h=>by subst hx;exact h.scalar n6,t⟩
end Go.cv
namespace Go.cv
open Go.RowKit
variable{P:Program}{I:Mem}{L:bB}
open Classical in
noncomputable def Mem.tH(I:Mem)(L:bB)(w:World)(id:Nat):Mem:=λb o=>match L id with
 |some l=>if l.has b then w.cell? ⟨b,o,none⟩ else I b o
 |none=>I b o
theorem Mem.Iq{I:Mem}{w:World}(h:I.en w)(L:bB)(id:Nat):I.sub (I.tH L w id):=λb o u a=>by
 unfold Mem.tH;split
 ·split
  ·exact h b o u a
  ·exact a
 ·exact a
theorem Fr.shut(C:Ctx)(I:Mem)(L:bB){H:az}(w:World){id v sz:Nat}{e:TypeId}{es:List (List PV)}(F:H id=some (.row v e sz es)) :
  Fr C I L H w (I.tH L w id) L (bn H id (.shut v es)) w:=λenv tm a=>by
 have m:=Mem.Iq a.mem L id;have D:∀l b,L id=some l->l.has b->∀o u,w.cell? ⟨b,o,none⟩=some u->I.tH L w id b o=some u:=λl b hl f o u d=>by unfold Mem.tH;rw[hl];simp[f,d]
 have B:∀i l b,i≠id->L i=some l->l.has b->∀o,I.tH L w id b o=I b o:=λi l b s hl f o=>by
  unfold Mem.tH;split
  ·rename_i l' N;split
   ·rename_i G;exact absurd (a.apart i id l l' b hl N f G) s
   ·rfl
  ·rfl
 obtain⟨av,us,x,n,R,p,y,z,S⟩:=a.chunk id _ F;exact
 {below:=a.below
  mem:=λb o u d=>by
   unfold Mem.tH at d;split at d
   ·split at d
    ·exact d
    ·exact a.mem b o u d
   ·exact a.mem b o u d
  lH:=Mem.mD a.lH m
  mF:=λb f A o=>by
   rw[<-a.mF b f A o];unfold Mem.tH;split
   ·rename_i l hl;split
    ·rename_i O;rcases a.jQ id l b hl O with h|h
     ·omega
     ·exact absurd h A
    ·rfl
   ·rfl
  frame:=a.frame
  loc:=a.loc
  jQ:=a.jQ
  size:=a.size
  env:=λt=>(a.env t).mono m (dQ.refl L)
  dom:=λi l hl=>by
   obtain⟨c,k⟩:=a.dom i l hl;by_cases e:i=id
   ·exact⟨.shut v es,by simp[bn,e]⟩
   ·exact⟨c,by simpa[bn,e] using k⟩
  chunk:=λi c k=>by
   by_cases e:i=id
   ·subst e;have:Chunk.shut v es=c:=by simpa[bn] using k
    subst this;refine⟨av,sz,x,?_,p,?_⟩
    ·have K:=bG p;have q:us.length=es.flatten.length:=by rw[K];exact n.1
     rcases n.2 with ⟨rfl,r⟩|⟨g,cap,E,rfl,f,M,P,T,U,Q⟩
     ·have J:es=[]:=List.length_eq_zero_iff.1 r;subst J;exact .aV none 0 0 [] us sz rfl (by simp) q (λj u c d k=>(y j u c d k).mono m) z (.inl (List.length_eq_zero_iff.1 (by simpa using q))) (λ_=>⟨rfl,rfl⟩) (Nat.le_refl _)
     ·refine .aV _ _ _ es us sz rfl p q (λj u c d k=>(y j u c d k).mono m) z (.inr ⟨g,0,rfl,λj u d=>?_⟩) (by simp) P;rw[Nat.zero_add];refine D _ g x rfl j u ?_;rw[gB M];rw[<-Q,List.getElem?_take] at d;split at d
      ·simpa using d
      ·cases d
    ·intro s;rcases n.2 with ⟨rfl,r⟩|⟨g,cap,E,rfl,_⟩
     ·exact absurd (List.length_eq_zero_iff.1 r) s
     ·exact⟨g,0,_,cap,rfl⟩
   ·exact (a.chunk i c (by simpa[bn,e] using k)).keep m (dQ.refl L) rfl λl b hl f=>⟨rfl,λo=>B i l b e hl f o⟩
  gh:=a.gh
  apart:=a.apart }
def CT(H:az)(id:Nat):az:=match H id with
 |some (.row v _ _ es)=>bn H id (.shut v es)
 |_=>H
def eH:List Nat->az->az
 | [],H=>H
 |id :: r,H=>eH r (CT H id)
theorem Fr.eH(C:Ctx)(L:bB)(w:World):∀ (ids:List Nat) (H:az) (I:Mem),(I.en w)->∃I',I.sub I'/\I'.en w/\Fr C I L H w I' L (eH ids H) w
 | [],H,I,hw=>⟨I,Mem.ep I,hw,Fr.refl C I L H w⟩
 |id :: r,H,I,hw=>by
  unfold cv.eH CT;split
  ·rename_i v e sz es g;have h:(I.tH L w id).en w:=λb o u a=>by
    unfold Mem.tH at a;split at a
    ·split at a
     ·exact a
     ·exact hw b o u a
    ·exact hw b o u a
   obtain⟨I',c,d,f⟩:=Fr.eH C L w r (bn H id (.shut v es)) (I.tH L w id) h;exact⟨I',Mem.mD (Mem.Iq hw L id) c,d,(Fr.shut C I L w g).trans f⟩
  ·exact Fr.eH C L w r H I hw
def ur:List AV->List Nat
 | []=>[]
 | .row id _ :: r=>id :: ur r
 |_ :: r=>ur r
def pL:List (Nat×AV)->List Nat
 | []=>[]
 |(_,.row id _) :: r=>id :: pL r
 |(_,.agg cs) :: r=>ur cs++pL r
 |_ :: r=>pL r
def v8(H:az)(a:AV):AV:=match a with
 | .row id b=>match H id with
  |some (.shut v es)=>if v=b then .p (.aV es) else .row id b
  |_=>.row id b
 |a=>a
def yH(H:az)(a:AV):AV:=match a with
 | .agg cs=>.agg (cs.map (v8 H))
 |a=>v8 H a
theorem Ir(a:AV):v8 cu a=a:=by unfold v8;cases a<;>rfl
theorem Ob(a:AV):yH cu a=a:=by
 unfold yH;cases a with
 |agg cs =>
  have:cs.map (v8 cu)=cs:=by rw[List.map_congr_left (λx _=>Ir x),List.map_id']
  simp only[this]
 |_=>exact Ir _
def xR(P:Program)(o:Oper)(ρ:Operand->AV)(H:az):Option (Prop×AV×az):=match o.op with
 | .buildSlice t n parts=>match mu P t n ((parts.toList.map λx=>(x.1,ρ x.2)).map λx=>(x.1,yH (eH (pL (parts.toList.map λx=>(x.1,ρ x.2))) H) x.2)) with
  |some (_,es)=>some (True,.p (.aV es),eH (pL (parts.toList.map λx=>(x.1,ρ x.2))) H)
  |none=>none
 |_=>none
theorem Is{C:Ctx}{H:az}{env:Env}{tm:Array Value}{w:World}(g:iG C env H I L tm w){u:Value}{a:AV}(b:eP I L u a):eP I L u (v8 H a):=by
 unfold v8;split
 ·rename_i id j;split
  ·rename_i v es e;split
   ·rename_i h;subst h;obtain⟨av,sz,c,d,_⟩:=g.chunk id _ e;cases b with
    |row _ _ _ o m n hl k f l=>rw[c] at hl;simp only[cG,Loc.row.injEq] at hl;obtain⟨r1,r2,i⟩:=hl;subst r1 r2 i;rw[f rfl];exact .p _ _ d
   ·exact b
  ·exact b
 ·exact b
theorem Oc{C:Ctx}{H:az}{env:Env}{tm:Array Value}{w:World}(f:iG C env H I L tm w){u:Value}{a:AV}(d:eP I L u a):eP I L u (yH H a):=by
 unfold yH;split
 ·rename_i cs;cases d with
  |agg us _ hl h g =>
   refine .agg us _ (by simpa using hl) (λj u c d b=>?_) g;rw[List.getElem?_map] at b;cases e:cs[j]? with
   |none=>rw[e] at b;cases b
   |some a=>rw[e] at b;simp only[Option.map_some,cG] at b;subst b;exact Is f (h j u a d e)
 ·exact Is f d
theorem Od{o:Oper}{ρ:Operand->AV}{v:AV}{pre:Prop}{H H':az}(h:xR P o ρ H=some (pre,v,H')){C:Ctx}{env:Env}{tm:Array Value}{w:World}
  (f:iG C env H I L tm w) {σ:Operand->Value} (J:∀x,eP I L (σ x) (ρ x)):pz P C H I L w ((execOp σ o).run P w) v H':=by
 unfold xR at h;unfold execOp;split at h
 ·rename_i t n parts s;simp only[s];split at h
  ·rename_i e es m;simp only[cG,iU] at h;obtain⟨_,i,k⟩:=h;subst i k;obtain⟨I',E,hw,d⟩:=Fr.eH C L w (pL (parts.toList.map λx=>(x.1,ρ x.2))) H I f.mem;have D:=d env tm f;have u:=wT (I:=I) (L:=L) J parts.toList;have g:BM I' L (parts.toList.map λx=>(x.1,σ x.2)) ((parts.toList.map λx=>(x.1,ρ x.2)).map λx=>(x.1,yH (eH (pL (parts.toList.map λx=>(x.1,ρ x.2))) H) x.2)):=by
    refine⟨by simp,λj x y G a=>?_⟩;rw[List.getElem?_map] at a;cases b:(parts.toList.map λx=>(x.1,ρ x.2))[j]? with
    |none=>simp[b] at a
    |some z=>rw[b] at a;simp only[Option.map_some,cG] at a;obtain⟨K,M⟩:=u.2 j x z G b;subst a;exact⟨K,Oc D (M.mono E (dQ.refl L))⟩
   obtain⟨c,sz,A,_,_,N,q,l,hl,F,r⟩:=wz m g w;have B:(Instr.buildSlice t n (parts.map λx=>(x.1,σ x.2))).run P w = .ok (.slice (some ⟨w.heap.size,0,none⟩) n n) (w.alloc (.cells c.toArray e)):=by rw[<-A];congr 2;apply Array.ext';simp
   refine⟨.slice (some ⟨w.heap.size,0,none⟩) n n,_,I'.with w.heap.size c.toArray,L,.inl (by rw[run_lift,B];rfl),?_,d.trans (Fr.Ei C I' L _ w _ e)⟩;have:=VR.Ej (w:=w) (us:=c) (rest:=[]) hw l hl F r (cap:=n) (by omega);rw[List.append_nil] at this;rw[q] at this;exact .p _ _ this
  ·cases h
 ·cases h
def gi(P:Program)(o:Oper)(ρ:Operand->AV)(H:az):Option (Prop×AV×az):=match oD P o ρ with
 |some (pre,v)=>some (pre,v,H)
 |none=>match sS P o ρ H with
  |some (pre,v)=>some (pre,v,H)
  |none=>match wU P o ρ H with
   |some r=>some r
   |none=>xR P o ρ H
def isApp:Op->Bool
 | .call c=>(match c.callee with
  | .builtin .append=>true
  |_=>false)
 |_=>false
def oy(x:Option (Prop×AV×az))(b:Bool)(y:Option (Prop×AV×az)):Option (Prop×AV×az):=match x,b with
 |some r,_=>some r
 |none,true=>y
 |none,false=>none
def gC(P:Program)(own:List Nat)(o:Oper)(ρ:Operand->AV)(H:az):Option (Prop×AV×az):=match o.dst with
 |some d=>if own.contains d=true then oy (kB P o ρ H d) (isApp o.op) (gi P o ρ H) else gi P o ρ H
 |none=>gi P o ρ H
theorem CU{o:Oper}{ρ:Operand->AV}{v:AV}{pre:Prop}{H H':az}(h:gi P o ρ H=some (pre,v,H'))(d:pre){C:Ctx}{env:Env}{tm:Array Value}{w:World}
  (b:iG C env H I L tm w) {σ:Operand->Value} (c:∀x,eP I L (σ x) (ρ x)):pz P C H I L w ((execOp σ o).run P w) v H':=by
 unfold gi at h;split at h
 ·rename_i a;simp only[cG,iU] at h;obtain⟨rfl,rfl,rfl⟩:=h;exact NO a d b c
 ·split at h
  ·rename_i a;simp only[cG,iU] at h;obtain⟨rfl,rfl,rfl⟩:=h;exact NV a d b c
  ·split at h
   ·rename_i a;simp only[cG] at h;subst h;exact NX a d b c
   ·exact Od h b c
theorem Oe{own:List Nat}{o:Oper}{ρ:Operand->AV}{v:AV}{pre:Prop}{H H':az}(h:gC P own o ρ H=some (pre,v,H'))(a:pre){C:Ctx}{env:Env}{tm:Array Value}{w:World}
  (b:iG C env H I L tm w) {σ:Operand->Value} (c:∀x,eP I L (σ x) (ρ x)):pz P C H I L w ((execOp σ o).run P w) v H':=by
 unfold gC at h;split at h
 ·split at h
  ·unfold oy at h;split at h
   ·rename_i d;exact NZ (d.trans h) a b c
   ·exact CU h a b c
   ·cases h
  ·exact CU h a b c
 ·exact CU h a b c
def cW(env:Env)(d:Option Nat)(v:AV):Env:=match d with
 |some d=>cK env d v
 |none=>env
def wW(N:Nat)(d:Option Nat):Prop:=match d with
 |some d=>d<N
 |none=>True
theorem iG.cW{C:Ctx}{env:Env}{H:az}{tm:Array Value}{w:World}(h:iG C env H I L tm w){d:Option Nat}{u:Value}{v:AV}(b:wW C.n d)(c:eP I L u v)(a:List Deferred) :
  iG C (cW env d v) H I L (Act.put ⟨tm,a⟩ d u).tmps w:=by
 cases d with
 |none=>exact h
 |some d=>exact h.put b c
theorem eP.Of{u:Value}(h:eP I L u (.dY [])):u = .tuple #[]:=by
 cases h with
 |dY us _ hl _=>have:us=[]:=List.length_eq_zero_iff.1 (by simpa using hl);rw[this]
def nC(ops:Array Oper)(o:Oper)(env:Env):Option Bool:=match o.guard with
 |none=>some true
 |some (j,a)=>match (ops[j]?).bind (·.dst) with
  |some d=>match env d with
   | .p (.val (.bool b))=>some (b == a)
   | .dY []=>some false
   |_=>none
  |none=>none
theorem qO{ops:Array Oper}{o:Oper}{env:Env}{g:Bool}(h:nC ops o env=some g){C:Ctx}{H:az}{tm:Array Value}{w:World}(k:iG C env H I L tm w) :
  Region.wanted o (yielded ops tm)=g:=by
 unfold nC at h;unfold Region.wanted;split at h
 ·rename_i f;simp at h;subst h;simp[f]
 ·rename_i j m f;rw[f];dsimp only;split at h
  ·rename_i d e;split at h
   ·rename_i b c;simp at h;subst h;have a:=k.env d;rw[c] at a;have a:=a.eT.1;have l:d<tm.size:=by
     rcases Nat.lt_or_ge d tm.size with h|h
     ·exact h
     ·simp[Array.getElem?_eq_none h,undef] at a
    have:tm[d]? = some (.bool b):=by rw[<-a];simp[l]
    simp[yielded,e,this]
   ·rename_i c;simp at h;subst h;have a:=k.env d;rw[c] at a;have a:=a.Of;have:∀b,tm[d]?≠some (.bool b):=λb c=>by rw[Array.getD_eq_getD_getElem?,c] at a;cases a
    cases i:tm[d]? with
    |none=>simp[yielded,e,i]
    |some u =>
     cases u with
     |bool b=>exact absurd i (this b)
     |_=>simp[yielded,e,i]
   ·cases h
  ·cases h
def AL(x:AV):List Nat->Env->Env
 | [],env=>env
 |t :: r,env=>AL x r (cW env (some t) x)
theorem Og(x:AV)(env:Env):AL x [] env=env:=rfl
theorem Oh(x:AV)(t:Nat)(r:List Nat)(env:Env):AL x (t :: r) env=AL x r (cW env (some t) x):=rfl
def holds(env:Env)(id v:Nat):List Nat->Prop
 | []=>True
 |t :: r=>env t = .row id v/\holds env id v r
theorem Oi(env:Env)(id v:Nat):holds env id v []=True:=rfl
theorem Oj(env:Env)(id v t:Nat)(r:List Nat):holds env id v (t :: r)=(env t = .row id v/\holds env id v r):=rfl
theorem Ol{C:Ctx}{env:Env}{H:az}{I:Mem}{L:bB}{tm:Array Value}{w:World}{id v t:Nat}{es:List (List PV)}(b:iG C env H I L tm w)(e:H id=some (.shut v es))(g:env t = .row id v) :
  iG C (cW env (some t) (.p (.aV es))) H I L tm w:=by
 refine { b with env:=λi=>?_ };unfold cW;simp only;unfold cK;split
 ·rename_i f;subst f;have a:=b.env i;rw[g] at a;generalize tm.getD i undef=u at a ⊢;obtain⟨av,sz,c,d,_⟩:=b.chunk id _ e;cases a with
  |row _ _ _ m j l hl k h a=>rw[c] at hl;simp only[cG,Loc.row.injEq] at hl;obtain⟨rfl,rfl,rfl⟩:=hl;rw[h rfl];exact .p _ _ d
 ·exact b.env i
theorem EI{C:Ctx}{H:az}{I:Mem}{L:bB}{tm:Array Value}{w:World}{id v:Nat}{es:List (List PV)}(d:H id=some (.shut v es)):∀ (c:List Nat) (env:Env),c.Nodup->iG C env H I L tm w->holds env id v c ->
  iG C (AL (.p (.aV es)) c env) H I L tm w
 | [],env,_,b,_=>b
 |t :: r,env,a,b,g=>by
  rw[List.nodup_cons] at a;refine EI d r _ a.2 (Ol b d g.1) ?_;have:∀r:List Nat,t ∉ r->holds env id v r->holds (cW env (some t) (.p (.aV es))) id v r:=by
   intro r
   induction r with
   |nil=>intro _ _;exact trivial
   |cons u r i=>intro a f;refine⟨?_,i (λh=>a (List.mem_cons_of_mem _ h)) f.2⟩;rw[<-f.1];unfold cW;simp only;unfold cK;rw[if_neg];intro e;exact a (by rw[e];exact List.mem_cons_self)
  exact this r a.1 g.2
def dw(env:Env)(H:az)(a:Env)(H':az):Prop:=∀C I L tm w,iG C env H I L tm w->∃I' L',iG C a H' I' L' tm w
def Bf(P:Program)(o:Oper)(W:Env->az->Prop)(env:Env)(H:az):Prop :=
 (∃ids,EC P o (ev env) (eH ids H) λx=>W (cW env o.dst (.p x)) (eH ids H))\/Ii P o (ev env) (λx=>W (cW env o.dst (.p x)) H) \/
  ∃ids,Im P o (ev env) (eH ids H) (λa H'=>W (cW env o.dst a) H')\/Io P o (ev env) (eH ids H) λa H'=>W (cW env o.dst a) H'
def Bg(P:Program)(o:Oper)(W:Env->az->Prop)(env:Env)(H:az):Prop:=∀ (C:Ctx) (I:Mem) (L:bB) (tm:Array Value) (w:World) (σ:Operand->Value),iG C env H I L tm w->(∀x,eP I L (σ x) (ev env x))->∃v H',W (cW env o.dst v) H'/\pz P C H I L w ((execOp σ o).run P w) v H'
def y3(P:Program)(o:Oper)(W:Env->az->Prop)(env:Env)(H:az):Prop :=
 ∀ (C:Ctx) (I:Mem) (L:bB) (tm:Array Value) (w:World) (σ:Operand->Value),iG C env H I L tm w->(∀x,eP I L (σ x) (ev env x)) ->
  ∃k args,(execOp σ o).run P w = .ok (.enter k args) w/\Calls P k args w λe w'=>∃v I' L' a H',e = .returned v/\W (cW env o.dst a) H'/\eP I' L' v a/\iG C env H' I' L' tm w'
def Om(P:Program)(o:Oper)(W:Env->az->Prop)(env:Env)(H:az):Prop:=∃tI H2,dw env H tI H2/\((∃pre v H',gi P o (ev tI) H2=some (pre,v,H')/\pre/\W (cW tI o.dst v) H')\/Bf P o W tI H2\/Bg P o W tI H2\/y3 P o W tI H2)
def j6(P:Program)(o:Oper)(W:Env->az->Prop)(env:Env)(H:az):Prop:=Bf P o W env H\/Om P o W env H\/Bg P o W env H\/y3 P o W env H
def walk(P:Program)(N:Nat)(own:List Nat)(ops:Array Oper):List Oper->(Env->az->Prop)->Env->az->Prop
 | [],K,env,H=>K env H
 |o :: rest,K,env,H=>wW N o.dst/\match nC ops o env with
  |some true=>(match gC P own o (ev env) H with
   |some (pre,v,H')=>pre/\walk P N own ops rest K (cW env o.dst v) H'
   |none=>j6 P o (walk P N own ops rest K) env H)
  |some false=>walk P N own ops rest K (cW env o.dst (.dY [])) H
  |none=>False
theorem pz.upon{C:Ctx}{H H':az}{w:World}{r:Result Next}{v:AV}(h:pz P C H I L w r v H'){o:Oper}{a:Act}{next:Act->World->Prop}{Q:Exit->Act->World->Prop}
  (d:∀u w' I' L',eP I' L' u v->Fr C I L H w I' L' H' w'->next (a.put o.dst u) w'):o.upon P a next Q r:=by
 obtain⟨u,w',I',L',e,b,c⟩:=h;rcases e with rfl|⟨rfl,rfl⟩
 ·exact d u w' I' L' b c
 ·exact d undef w' I' L' b c
theorem CV{o:Oper}{env:Env}{H:az}{W:Env->az->Prop}(h:Bf P o W env H\/Bg P o W env H\/y3 P o W env H){C:Ctx}{tm:Array Value}{b:List Deferred}{w:World}(c:iG C env H I L tm w)(s:wW C.n o.dst){next:Act->World->Prop}{Q:Exit->Act->World->Prop}
  (r:∀A H' I' L' B w',W A H'->iG C A H' I' L' B w'->next ⟨B,b⟩ w'):o.wp P ⟨tm,b⟩ w next Q:=by
 have z:=λx=>uV c b x
 unfold Oper.wp;have t:∀ {w':World} {I' L':_} {H':az} {u:Value} {v:AV},W (cW env o.dst v) H'->eP I' L' u v->Fr C I L H w I' L' H' w'->next (Act.put ⟨tm,b⟩ o.dst u) w':=by
  intro w' I' L' H' u v hw m f;have:=(f env tm c).cW s m b;have e:(Act.put ⟨tm,b⟩ o.dst u:Act)=⟨(Act.put ⟨tm,b⟩ o.dst u).tmps,b⟩:=by cases o.dst<;>rfl
  rw[e];exact r _ _ I' L' _ w' hw this
 rcases h with h|hy|h
 ·rcases h with ⟨ids,d⟩|he|⟨ids,d⟩
  case inr.inl=>obtain⟨u,x,g,j,hw⟩:=N4 he (w:=w) z;exact (pz.still (C:=C) (H:=H) g (eP.p _ _ j)).upon λu w' I' L' m f=>t hw m f
  case inr.inr =>
   obtain⟨D,E,F,q⟩:=Fr.eH C L w ids H I c.mem;have i:=q env tm c;obtain⟨k,args,g,l⟩:=d.elim (λd=>N8 d i (λx=>uV i b x)) (λd=>Oa d i (λx=>uV i b x));rw[g,Oper.upon_enter];refine l.mono λe w' ⟨v,I',L',a,H',he,hw,j,y⟩=>?_
   subst he;have:=y.cW s j b;have e:(Act.put ⟨tm,b⟩ o.dst v:Act)=⟨(Act.put ⟨tm,b⟩ o.dst v).tmps,b⟩:=by cases o.dst<;>rfl
   show next (Act.put ⟨tm,b⟩ o.dst v) w'
   rw[e];exact r _ _ I' L' _ w' hw this
  obtain⟨D,E,F,q⟩:=Fr.eH C L w ids H I c.mem;have i:=q env tm c;obtain⟨k,args,g,l⟩:=N5 d i (λx=>uV i b x);rw[g,Oper.upon_enter];refine l.mono λe w' ⟨v,I',x,he,hw,j,f⟩=>?_
  subst he;exact t hw (.p _ _ j) (q.trans f)
 ·obtain⟨v,H',hw,hy⟩:=hy C I L tm w _ c z;exact hy.upon λu w' I' L' m f=>t hw m f
 ·obtain⟨k,args,g,l⟩:=h C I L tm w _ c z;rw[g,Oper.upon_enter];refine l.mono λe w' ⟨v,I',L',a,H',he,hw,j,y⟩=>?_
  subst he;have:=y.cW s j b;have e:(Act.put ⟨tm,b⟩ o.dst v:Act)=⟨(Act.put ⟨tm,b⟩ o.dst v).tmps,b⟩:=by cases o.dst<;>rfl
  show next (Act.put ⟨tm,b⟩ o.dst v) w'
  rw[e];exact r _ _ I' L' _ w' hw this
theorem EJ{own:List Nat}{o:Oper}{env:Env}{H:az}{W:Env->az->Prop}(h:match gC P own o (ev env) H with
   |some (pre,v,H')=>pre/\W (cW env o.dst v) H'
   |none=>j6 P o W env H) {C:Ctx} {tm:Array Value} {a:List Deferred} {w:World} (b:iG C env H I L tm w) (d:wW C.n o.dst) {next:Act->World->Prop} {Q:Exit->Act->World->Prop}
  (c:∀j H' I' L' k w',W j H'->iG C j H' I' L' k w'->next ⟨k,a⟩ w'):o.wp P ⟨tm,a⟩ w next Q:=by
 split at h
 ·rename_i pre v H' m;obtain⟨l,hw⟩:=h;have p:=λx=>uV b a x
  unfold Oper.wp;refine (Oe m l b p).upon λu w' I' L' g i=>?_
  have:=(i env tm b).cW d g a;have e:(Act.put ⟨tm,a⟩ o.dst u:Act)=⟨(Act.put ⟨tm,a⟩ o.dst u).tmps,a⟩:=by cases o.dst<;>rfl
  rw[e];exact c _ _ I' L' _ w' hw this
 ·rcases h with h|⟨tI,H2,q,h⟩|h|h
  ·exact CV (.inl h) b d c
  ·obtain⟨z,A,f⟩:=q C I L tm w b;rcases h with ⟨pre,v,H',r,s,t⟩|h
   ·unfold Oper.wp;refine (CU r s f (λy=>uV f a y)).upon λu w' I' L' g i=>?_
    have:=(i _ tm f).cW d g a;have e:(Act.put ⟨tm,a⟩ o.dst u:Act)=⟨(Act.put ⟨tm,a⟩ o.dst u).tmps,a⟩:=by cases o.dst<;>rfl
    rw[e];exact c _ _ I' L' _ w' t this
   ·exact CV h f d c
  ·exact CV (.inr (.inl h)) b d c
  ·exact CV (.inr (.inr h)) b d c
theorem EK{N:Nat}{own:List Nat}{ops:Array Oper}{K:Env->az->Prop}{Q:Exit->Act->World->Prop}{C:Ctx}{a:List Deferred}(d:C.n=N)
  (c:∀env H I L tm w,K env H->iG C env H I L tm w->Q .normal ⟨tm,a⟩ w):∀ (l:List Oper) (env:Env) (H:az) (I:Mem) (L:bB) (tm:Array Value) (w:World),
  walk P N own ops l K env H->iG C env H I L tm w->wpList P ops Q l ⟨tm,a⟩ w
 | [],env,H,I,L,tm,w,h,b=>c env H I L tm w h b
 |o :: rest,env,H,I,L,tm,w,h,b=>by
  obtain⟨f,h⟩:=h;rw[<-d] at f;unfold wpList;split at h
  ·rename_i g;rw[if_pos (qO g b)];exact .inl (EJ h b f λi H' I' L' k w' hw j=>EK d c rest i H' I' L' k w' hw j)
  ·rename_i g;rw[if_neg (by rw[qO g b];simp)];have e:(Act.put ⟨tm,a⟩ o.dst undef:Act)=⟨(Act.put ⟨tm,a⟩ o.dst undef).tmps,a⟩:=by cases o.dst<;>rfl
   rw[e];exact EK d c rest _ H I L _ w h (b.cW f (.dY [] [] rfl (by simp)) a)
  ·exact h.elim
end Go.cv
namespace Go.cv
open Go.RowKit
variable{P:Program}{I:Mem}{L:bB}
abbrev qP:=Exit->Env->az->Prop
theorem dw.refl(env:Env)(H:az):dw env H env H:=λ_ I L _ _ h=>⟨I,L,h⟩
theorem dw.trans{c d e:Env}{a H2 b:az}(h:dw c a d H2)(k:dw d H2 e b):dw c a e b:=λC I L tm w j=>by obtain⟨f,g,i⟩:=h C I L tm w j;exact k C f g tm w i
def vW(P:Program)(N:Nat)(own:List Nat)(ops:Array Oper)(K:Env->az->Prop)(env:Env)(H:az):Prop:=∀C I L tm w,C.n=N->iG C env H I L tm w->wpAny P .any ops (λe a w'=>a.defers=[]/\e = .normal/\∃b H' I' L',K b H'/\iG C b H' I' L' a.tmps w') ops.size (Array.replicate ops.size false) ⟨tm,[]⟩ { w with drawn:=w.drawn+1 }
def It(W:qP->Env->az->Prop)(K:qP)(env:Env)(H:az):Prop :=
 ∃Inv:Nat->Env->az->Prop,(∃n a H2,Inv n a H2/\dw env H a H2) /\
  ∀n e H,Inv n e H->W (λx b H'=>match x with
   | .normal=>∃m a H2,m<n/\Inv m a H2/\dw b H' a H2
   |x=>K x b H') e H
def wX(X Y:Prop)(c:AV):Prop:=match c with
 | .p (.val (.bool b))=>(b=true->X)/\(b=false->Y)
 |_=>False
def cw(P:Program)(N:Nat)(own:List Nat):Code->qP->Env->az->Prop
 | .skip,K,env,H=>K .normal env H
 | .label _,K,env,H=>K .normal env H
 | .region _ ops false,K,env,H=>walk P N own ops ops.toList (K .normal) env H
 | .region _ ops true,K,env,H=>vW P N own ops (K .normal) env H
 | .seq a b, K, env, H => cw P N own a (fun x d H' => match x with
   | .normal=>cw P N own b K d H'
   |x=>K x d H') env H
 | .cond c a b,K,env,H=>wX (cw P N own a K env H) (cw P N own b K env H) (ev env c)
 | .block id c, K, env, H => cw P N own c (fun x d H' => match x with
   | .exit e=>if e=id then K .normal d H' else K (.exit e) d H'
   |x=>K x d H') env H
 | .loop c,K,env,H=>It (cw P N own c) K env H
 | .exit id,K,env,H=>K (.exit id) env H
 | .ret,K,env,H=>K .ret env H
 |_,_,_,_=>False
def lift(C:Ctx)(K:qP):Exit->Act->World->Prop:=λe a w=>a.defers=[]/\∃env H I L,K e env H/\iG C env H I L a.tmps w
theorem pR{N:Nat}{own:List Nat}(r:P.follows .mixedOrders=true):∀ (c:Code) (K:qP) (C:Ctx),C.n=N->∀env H I L tm w,cw P N own c K env H->iG C env H I L tm w->c.wp P (lift C K) ⟨tm,[]⟩ w
 | .skip,K,C,f,env,H,I,L,tm,w,h,d=>wp_skip ⟨rfl,env,H,I,L,h,d⟩
 | .label _,K,C,f,env,H,I,L,tm,w,h,d=>wp_label ⟨rfl,env,H,I,L,h,d⟩
 | .region _ ops false,K,C,f,env,H,I,L,tm,w,h,d=>by refine wp_region ?_;have:=wpOps_eq_wpList (P:=P) (ops:=ops) (Q:=lift C K) ops.toList 0 (by simp);rw[List.range_eq_range',<-Array.length_toList,this];exact EK f (λenv H I L tm w Y d=>⟨rfl,env,H,I,L,Y,d⟩) ops.toList env H I L tm w h d
 | .region _ ops true,K,C,f,env,H,I,L,tm,w,h,d=>by refine wp_mono (Q:=λe a w'=>a.defers=[]/\e = .normal/\∃g H' I' L',K .normal g H'/\iG C g H' I' L' a.tmps w') (wp_region_any r (h C I L tm w f d)) ?_;rintro e a w ⟨q,rfl,g,H',I',L',i,o⟩;exact⟨q,g,H',I',L',i,o⟩
 | .seq a b,K,C,f,env,H,I,L,tm,w,h,d=>by
  refine wp_seq (wp_mono (pR r a _ C f env H I L tm w h d) ?_);rintro e ac w ⟨q,g,H',I',L',i,o⟩;cases ac with
  |mk tmps S =>
   simp only at q o;subst q;cases e with
   |normal=>exact pR r b K C f g H' I' L' tmps w i o
   |_=>exact⟨rfl,g,H',I',L',i,o⟩
 | .cond c a b,K,C,f,env,H,I,L,tm,w,h,d=>by
  have h:wX (cw P N own a K env H) (cw P N own b K env H) (ev env c):=h;have A:=uV d [] c;unfold wX at h;split at h
  ·rename_i t y;rw[y] at A;exact wp_cond_split A.eT.1 (λy=>pR r a K C f env H I L tm w (h.1 y) d) (λy=>pR r b K C f env H I L tm w (h.2 y) d)
  ·exact h.elim
 | .block id c,K,C,f,env,H,I,L,tm,w,h,d=>by
  refine wp_block (wp_mono (pR r c _ C f env H I L tm w h d) ?_);rintro e ac w ⟨q,g,H',I',L',i,o⟩;cases e with
  |exit an =>
   simp only[Exit.inBlock];dsimp only at i;split
   ·rename_i z;rw[if_pos z] at i;exact⟨q,g,H',I',L',i,o⟩
   ·rename_i z;rw[if_neg z] at i;exact⟨q,g,H',I',L',i,o⟩
  |_=>exact⟨q,g,H',I',L',i,o⟩
 | .loop c,K,C,f,env,H,I,L,tm,w,h,d=>by
  obtain⟨Inv,⟨n0,T,D,W,ae⟩,O⟩:=h;intro b k cs
  have ak : ∀ n, ∀ e H I L tm w, Inv n e H → iG C e H I L tm w →
    ∃x u w',lift C K x u w'/\Arrives P (lone (b.at ⟨tm,[]⟩ (.code c :: .inLoop c :: k)) cs w) b k cs x u w':=by
   intro n
   induction n using Nat.strongRecOn with
   |_ n ih =>
    intro e H I L tm w V d;obtain⟨x,u,w',j,p⟩:=pR r c _ C f e H I L tm w (O n e H V) d b (.inLoop c :: k) cs;obtain⟨B,v,H',I',L',j,s⟩:=j;cases u with
    |mk tmps S =>
     simp only at B s;subst B;cases x with
     |normal=>obtain⟨m,U,H2,Z,X,af⟩:=j;obtain⟨F,J,ad⟩:=af C I' L' tmps w' s;obtain⟨x,M,w2,aa,R⟩:=ih m Z U H2 F J tmps w' X ad;exact⟨x,M,w2,aa,.of_steps (Steps.trans p (.one step_inLoop)) R⟩
     |exit id=>exact⟨_,_,w',⟨rfl,v,H',I',L',j,s⟩,.pass (x:=.inLoop c) rfl (λ_ _=>.inl (by simp)) p⟩
     |goto l=>exact⟨_,_,w',⟨rfl,v,H',I',L',j,s⟩,.pass (x:=.inLoop c) rfl (λ_ _=>.inl (by simp)) p⟩
     |ret=>exact⟨_,_,w',⟨rfl,v,H',I',L',j,s⟩,.pass (x:=.inLoop c) rfl (λ_ _=>.inl (by simp)) p⟩
     |panic ch=>exact⟨_,_,w',⟨rfl,v,H',I',L',j,s⟩,.pass (x:=.inLoop c) rfl (λ_ _=>.inl (by simp)) p⟩
     |outgrown=>exact⟨_,_,w',⟨rfl,v,H',I',L',j,s⟩,.pass (x:=.inLoop c) rfl (λ_ _=>.inl (by simp)) p⟩
  obtain⟨E,G,ab⟩:=ae C I L tm w d;obtain⟨x,u,w',j,p⟩:=ak n0 T D E G tm w W ab;exact⟨x,u,w',j,.of_steps (.one step_loop) p⟩
 | .exit id,K,C,f,env,H,I,L,tm,w,h,d=>wp_exit ⟨rfl,env,H,I,L,h,d⟩
 | .ret,K,C,f,env,H,I,L,tm,w,h,d=>wp_ret ⟨rfl,env,H,I,L,h,d⟩
 | .goto _,K,C,f,env,H,I,L,tm,w,h,d=>h.elim
 | .rangeFunc _ _ _ _,K,C,f,env,H,I,L,tm,w,h,d=>h.elim
 | .scope _,K,C,f,env,H,I,L,tm,w,h,d=>h.elim
 | .refuse _,K,C,f,env,H,I,L,tm,w,h,d=>h.elim
def iI(args:List PV):Env:=λt=>match args[t]? with
 |some x=>.p x
 |none=>.dead
def o3(P:Program)(env:Env)(H:az):ResultVar->Option AV
 | .tmp t=>some (env t)
 | .cell a t=>match env a with
  | .ptr id off=>match H id with
   |some (.box cs)=>tc P t cs off
   |_=>none
  |_=>none
def An(P:Program)(env:Env)(H:az):List ResultVar->Option (List AV)
 | []=>some []
 |r :: b=>match o3 P env H r,An P env H b with
  |some a,some fe=>some (a :: fe)
  |_,_=>none
def pS(P:Program)(env:Env)(H:az)(b:List ResultVar):Option AV:=match An P env H b with
 |some [a]=>some a
 |some fe=>some (.dY fe)
 |none=>none
def BP(P:Program)(env:Env)(H:az)(b:List ResultVar):Option PV:=match pS P env H b with
 |some a=>match Am H a with
  |some (x,_)=>some x
  |none=>none
 |none=>none
def CW(P:Program)(a:List ResultVar)(Q:PV->Prop):qP:=λe env H=>match e with
 | .normal | .ret=>(match BP P env H a with
  |some r=>Q r
  |none=>False)
 |_=>False
def BQ(tm:Array Value):ResultVar->Sem Value
 | .tmp t=>pure (tm.getD t undef)
 | .cell a t=>do loadVar t (<-asAddr (tm.getD a undef))
theorem EL{C:Ctx}{env:Env}{H:az}{tm:Array Value}{w:World}(k:iG C env H I L tm w):∀ (l:List ResultVar) (fe:List AV),An P env H l=some fe ->
  ∃us:List Value,(l.mapM (BQ tm)).run P w = .ok us w/\pJ I L us fe
 | [],fe,h=>by simp[An] at h;subst h;exact⟨[],by simp,rfl,by simp⟩
 |r :: l,fe,h=>by
  simp only[An] at h;split at h
  ·rename_i a q d B;simp only[cG] at h;subst h;obtain⟨us,G,f⟩:=EL k l q B;have one:∃u,(BQ tm r).run P w = .ok u w/\eP I L u a:=by
    unfold o3 at d;split at d
    ·rename_i t;simp only[cG] at d;subst d;exact⟨_,rfl,k.env t⟩
    ·rename_i b t;split at d
     ·rename_i id off g;split at d
      ·rename_i cs D;have n:=k.env b;rw[g] at n;obtain⟨blk,arr,e,s,x,y,z,A,M⟩:=k.chunk id _ D;have J:∀m,tm.getD b undef=m->(BQ tm (.cell b t)).run P w=(do loadVar t (<-asAddr m):Sem Value).run P w:=λm h=>by show (do loadVar t (<-asAddr (tm.getD b undef)):Sem Value).run P w=_;rw[h]
       rw[J _ rfl];generalize tm.getD b undef=m at n ⊢;cases n with
       |ptr _ K _ hl =>
        rw[s] at hl;simp only[cG,Loc.box.injEq] at hl;subst hl;obtain⟨u,i,o⟩:=CH (I:=I) (L:=L) (w:=w) (b:=blk) (base:=0) (us:=arr.toList) d (by simpa using y) (λj u c f E=>z j u c (by simpa using f) E)
         (λu f=>by
          obtain⟨j,F⟩:=List.mem_iff_getElem?.1 f;exact A j u (by simpa using F)) (λj u f=>by rw[Nat.zero_add,gB x];simpa using f)
        rw[Nat.zero_add] at i;exact⟨u,by simp[asAddr,i],o⟩
      ·cases d
     ·cases d
   obtain⟨u,i,o⟩:=one;refine⟨u :: us,?_,by simp[f.1],λj v b p g=>?_⟩
   ·simp only[List.mapM_cons,Sem.run_bind,i,Result.andThen_ok,G,Sem.run_pure]
   ·cases j with
    |zero=>simp at p g;subst p g;exact o
    |succ j=>exact f.2 j v b (by simpa using p) (by simpa using g)
  ·cases h
theorem vX{C:Ctx}{env:Env}{H:az}{tm:Array Value}{w:World}(i:iG C env H I L tm w){b:Func}{a:AV}(h:pS P env H b.results.toList=some a) :
  ∃u,(results b tm).run P w = .ok u w/\eP I L u a:=by
 have g:∀us:List Value,(b.results.toList.mapM (BQ tm)).run P w = .ok us w->(results b tm).run P w = .ok (if h:us.toArray.size=1 then us.toArray[0] else .tuple us.toArray) w:=by
  intro us d;have e:results b tm=(do let vs <-b.results.mapM (BQ tm);pure (if h:vs.size=1 then vs[0] else .tuple vs)):=by unfold results;congr 2
  rw[e,Sem.run_bind,Array.mapM_eq_mapM_toList,Sem.run_map,d];rfl
 unfold pS at h;split at h
 ·rename_i k hl;simp only[cG] at h;subst h;obtain⟨us,d,c⟩:=EL i _ _ hl;refine⟨_,g us d,?_⟩;have f:us.length=1:=by simpa using c.1
  rw[dif_pos (by simpa using f)];cases us with
  |nil=>simp at f
  |cons u r=>exact c.2 0 u _ rfl rfl
 ·rename_i fe j hl;simp only[cG] at h;subst h;obtain⟨us,d,c⟩:=EL i _ _ hl;refine⟨_,g us d,?_⟩;have f:¬ us.length=1:=λe=>by
   have:fe.length=1:=by rw[<-c.1];exact e
   cases fe with
   |nil=>simp at this
   |cons a r =>
    have:r=[]:=by simpa using this
    subst this;exact j a rfl
  rw[dif_neg (by simpa using f)];exact .dY us fe c.1 c.2
 ·cases h
def Mem.all(I:Mem)(B:Nat)(w:World):Mem:=λb o=>if b<B then I b o else w.cell? ⟨b,o,none⟩
theorem Iu{f:FuncId}{d:Func}{c:Code}{args:List PV}{Q:PV->Prop}(own:List Nat)(R:P.follows .mixedOrders=true)(N:P.funcs[f]? = some d)(s:d.body=some c)
  (L:gP P f=true) (S:args.length<=d.ntmps) (h:cw P d.ntmps own c (CW P d.results.toList Q) (iI args) cu):aS P f args Q:=by
 refine⟨L,λI w vs J y=>calls_of_wp N s ?_⟩;let C:Ctx:=Ctx.of w I d.ntmps;have X:vs.length<=d.ntmps:=by rw[y.1];exact S
 have U:iG C (iI args) cu I (λ_=>none) (vs.toArray++Array.replicate (d.ntmps-vs.toArray.size) undef) w :=
  {below:=Below.refl _ _
   mem:=J
   lH:=Mem.ep I
   mF:=λ_ _ _ _=>rfl
   frame:=λ_ _ _=>rfl
   loc:=λ_=>trivial
   jQ:=λid l b h=>by cases h
   size:=by simp;show vs.length+(d.ntmps-vs.length)=d.ntmps;omega
   env:=λt=>by
    unfold iI;split
    ·rename_i x E;have D:t<vs.length:=by rw[y.1];exact (List.getElem?_eq_some_iff.1 E).1
     refine .p _ _ (y.2 t _ x ?_ E);rw[List.getElem?_eq_getElem D];simp[Array.getElem?_append,D]
    ·exact .dead _
   dom:=λid l h=>by cases h
   chunk:=λid W h=>by cases h
   gh:=λid l b h=>by cases h
   apart:=λi j Y Z b h=>by cases h }
 refine wp_mono (pR R c _ C rfl _ _ I _ _ w h U) ?_;rintro e a w' ⟨M,H,H',I',L',k,n⟩;have z:(match BP P H H' d.results.toList with|some r=>Q r|none=>False)->bodyPost P d (λe w'=>∃v r I',e = .returned v/\Q r/\VR I' v r/\Below w.heap.size w w'/\I.sub I'/\I'.en w'/\∀b,b<w.heap.size->∀o,I' b o=I b o) .normal a w':=by
  intro k;unfold BP at k;split at k
  ·rename_i r q;split at q
   ·rename_i G K;split at q
    ·rename_i x b hl;simp only[cG] at q;subst q;obtain⟨u,T,V⟩:=vX n K;have A:I'.sub (I'.all C.B w'):=λb o u m=>by
      unfold Mem.all;split
      ·exact m
      ·exact n.mem b o u m
     have F:CP L' w' (I'.all C.B w'):=λid l b hl O o u m=>by unfold Mem.all;rw[if_neg (by have:=(n.gh id l b hl O).1;omega)];exact m
     refine⟨M,u,T,u,x,I'.all C.B w',rfl,k,(N2 n (uH H') A (F.g H') u G x b V hl).1,n.below,Mem.mD n.lH A,?_,?_⟩
     ·intro b o u m;unfold Mem.all at m;split at m
      ·exact n.mem b o u m
      ·exact m
     ·intro b s o;unfold Mem.all;rw[if_pos (show b<C.B from s)];exact n.mF b s (λh=>h) o
    ·cases q
   ·cases q
  ·exact k.elim
 cases e with
 |normal=>exact z k
 |ret=>exact z k
 |exit id=>exact k.elim
 |goto l=>exact k.elim
 |panic c=>exact k.elim
 |outgrown=>exact k.elim
mutual
def ql(H:az):AV->Option (RV×List Nat)
 | .p x=>some (.p x,[])
 | .row id a=>match H id with
  |some (.row v e sz es)=>if v=a then some (.row e sz es,[id]) else none
  |some (.shut v es)=>if v=a then some (.p (.aV es),[]) else none
  |_=>none
 | .eY id a=>match H id with
  |some (.deep v e sz k c d es)=>if v=a then some (.deep e sz k c d es,[id]) else none
  |_=>none
 | .agg cs=>match wY H cs with
  |some (b,ids)=>some (.agg b,ids)
  |none=>none
 | .dY cs=>match wY H cs with
  |some (b,ids)=>some (.dY b,ids)
  |none=>none
 |_=>none
def wY(H:az):List AV->Option (List RV×List Nat)
 | []=>some ([],[])
 |a :: r=>match ql H a,wY H r with
  |some (x,i),some (xs,j)=>some (x :: xs,i++j)
  |_,_=>none
end
inductive o4:RV->RV->Prop
 |refl (r:RV):o4 r r
 |nil (e:TypeId) (sz:Nat) (h:0<sz):o4 (.p (.val (.slice none 0 0))) (.row e sz [])
 |Ni:o4 (.p (.val (.slice none 0 0))) (.p (.aV []))
 |agg (rs rs':List RV) (hl:rs'.length=rs.length) (h:∀ (j:Nat) r' r,rs'[j]? = some r'->rs[j]? = some r->o4 r' r):o4 (.agg rs') (.agg rs)
 |dY (rs rs':List RV) (hl:rs'.length=rs.length) (h:∀ (j:Nat) r' r,rs'[j]? = some r'->rs[j]? = some r->o4 r' r):o4 (.dY rs') (.dY rs)
def CX(P:Program)(c:List ResultVar)(Q:RV->Prop):qP:=λe env H=>match e with
 | .normal | .ret=>(match pS P env H c with
  |some a=>(match ql H a with
   |some (r,ids)=>ids.Nodup/\∃b,o4 r b/\Q b
   |none=>False)
  |none=>False)
 |_=>False
theorem o4.sound{r a:RV}(h:o4 r a):∀ {w:World} {B:Nat} {J:Mem} {u:Value} {c:List Nat},xQ w B J u r c->xQ w B J u a c:=by
 induction h with
 |refl r=>exact λh=>h
 |nil e sz t =>
  intro w B J u c h;cases h with
  |p _ _ h=>cases h;exact .row (.slice none 0 0) e sz [] [] ⟨⟨by simp,.inl ⟨rfl,rfl⟩⟩,t,by simp,by simp,by simp,λb f=>by simp[Value.ownBlock] at f⟩ rfl
 |Ni =>
  intro w B J u c h;cases h with
  |p _ _ h=>cases h;exact .p _ _ (.aV none 0 0 [] [] 1 rfl (by simp) rfl (by simp) (by simp) (.inl rfl) (λ_=>⟨rfl,rfl⟩) (Nat.le_refl _))
 |agg s l hl h n =>
  intro w B J u c d;cases d with
  |agg us _ c k o q v =>
   refine .agg us s c (k.trans hl) o (λj u r b i d f=>?_) v;obtain⟨a,g⟩:∃a,l[j]? = some a:=by have m:j<us.length:=(List.getElem?_eq_some_iff.1 i).1;exact⟨l[j]'(by omega),by simp[k ▸ m]⟩
   exact n j a r g d (q j u a b i g f)
 |dY s l hl h n =>
  intro w B J u c d;cases d with
  |dY us _ c k o q =>
   refine .dY us s c (k.trans hl) o (λj u r b i d f=>?_);obtain⟨a,g⟩:∃a,l[j]? = some a:=by have m:j<us.length:=(List.getElem?_eq_some_iff.1 i).1;exact⟨l[j]'(by omega),by simp[k ▸ m]⟩
   exact n j a r g d (q j u a b i g f)
def nD(L:bB):List Nat->List Nat
 | []=>[]
 |id :: r=>(match L id with
  |some l=>l.Al
  |none=>[])++nD L r
theorem On(L:bB)(a b:List Nat):nD L (a++b)=nD L a++nD L b:=by
 induction a with
 |nil=>rfl
 |cons x r c=>simp[nD,c,List.append_assoc]
theorem EM{L:bB} : ∀ {ids:List Nat} {b:Nat},b∈nD L ids->∃id l,id∈ids/\L id=some l/\l.has b
 | [],b,h=>by simp[nD] at h
 |id :: r,b,h=>by
  simp only[nD,List.mem_append] at h;rcases h with h|h
  ·cases a:L id with
   |none=>rw[a] at h;cases h
   |some l=>rw[a] at h;exact⟨id,l,by simp,a,Loc.HL.1 h⟩
  ·obtain⟨i,l,c,d⟩:=EM h;exact⟨i,l,by simp[c],d⟩
theorem iG.Oo{C:Ctx}{H:az}{env:Env}{tm:Array Value}{w:World}(i:iG C env H I L tm w){id:Nat}{l:Loc}(hl:L id=some l):l.Al.Nodup:=by
 cases l with
 |box b=>simp[Loc.Al]
 |row v av sz=>show av.ownBlock.toList.Nodup;generalize av.ownBlock=x;cases x<;>simp
 |deep v av sz A p n =>
  obtain⟨f,m⟩:=i.dom id _ hl;have c:=i.chunk id f m;cases f with
  |box cs=>obtain⟨b,arr,e,a,_⟩:=c;rw[a] at hl;cases hl
  |row d e sz es=>obtain⟨h,us,a,_⟩:=c;rw[a] at hl;cases hl
  |shut d es=>obtain⟨h,sz,a,_⟩:=c;rw[a] at hl;cases hl
  |tail d e sz es=>obtain⟨g,o,cap,arr,a,_⟩:=c;rw[a] at hl;cases hl
  |blk b o=>obtain⟨a,_⟩:=c;rw[a] at hl;cases hl
  |deep d e B k q D es=>obtain⟨h,us,z,a,r,s,t,u,y,j⟩:=c;rw[a] at hl;simp only[cG,Loc.deep.injEq] at hl;obtain⟨_,rfl,_,_,rfl,rfl⟩:=hl;exact Nn j
theorem Iv{C:Ctx}{H:az}{env:Env}{tm:Array Value}{w:World}(e:iG C env H I L tm w):∀ {ids:List Nat},ids.Nodup->(nD L ids).Nodup
 | [],_=>by simp[nD]
 |id :: r,h=>by
  rw[List.nodup_cons] at h;simp only[nD,List.nodup_append];refine⟨?_,Iv e h.2,?_⟩
  ·cases c:L id with
   |none=>simp
   |some l=>exact e.Oo c
  ·intro a d b m k;subst k;obtain⟨i,l,f,g,j⟩:=EM m;cases c:L id with
   |none=>rw[c] at d;cases d
   |some l'=>rw[c] at d;have:=e.apart id i l' l a c g (Loc.HL.1 d) j;subst this;exact h.1 f
def Iw(C:Ctx)(I:Mem)(L:bB)(w:World)(H:az)(a:AV):Prop:=∀u r ids,eP I L u a->ql H a=some (r,ids)->xQ w C.B I u r (nD L ids)
def Oq(C:Ctx)(I:Mem)(L:bB)(w:World)(H:az)(fe:List AV):Prop :=
 ∀us c ids,pJ I L us fe->wY H fe=some (c,ids)->us.length=c.length/\∃a:List (List Nat),us.length=a.length/\a.flatten=nD L ids /\
  ∀ (j:Nat) u r b,us[j]? = some u->c[j]? = some r->a[j]? = some b->xQ w C.B I u r b
theorem Ot{C:Ctx}{H:az}{env:Env}{tm:Array Value}{w:World}(P:iG C env H I L tm w)(a:AV):Iw C I L w H a:=by
 refine AV.rec (motive_1:=Iw C I L w H) (motive_2:=Oq C I L w H) ?_ ?_ ?_ ?_ ?_ ?_ ?_ ?_ ?_ ?_ ?_ ?_ ?_ ?_ ?_ ?_ a
 ·intro x u r ids f d;simp only[ql,cG,iU] at d;obtain⟨rfl,rfl⟩:=d;exact .p _ _ f.oz
 ·intro id q u r ids f d;simp only[ql] at d;split at d
  ·rename_i v e sz es y;split at d
   ·rename_i g;subst g;simp only[cG,iU] at d;obtain⟨rfl,rfl⟩:=d;obtain⟨av,us,h,t,G,J,K,M,N⟩:=P.chunk id _ y;cases f with
    |row _ _ _ W V ar hl U z A =>
     rw[h] at hl;simp only[cG,Loc.row.injEq] at hl;obtain⟨r1,r2,S⟩:=hl;subst r1 r2 S;have al:=z rfl;subst al;have l:nD L [id]=u.ownBlock.toList:=by simp[nD,h,Loc.Al]
     rw[l];exact .row u e sz es us ⟨t,G,J,K,M,N⟩ A
   ·cases d
  ·rename_i v es y;split at d
   ·rename_i g;subst g;simp only[cG,iU] at d;obtain⟨rfl,rfl⟩:=d;obtain⟨av,sz,h,t,_⟩:=P.chunk id _ y;cases f with
    |row _ _ _ W V ar hl U z A=>rw[h] at hl;simp only[cG,Loc.row.injEq] at hl;obtain⟨r1,r2,S⟩:=hl;subst r1 r2 S;rw[z rfl];exact .p _ _ t
   ·cases d
  ·cases d
 ·intro id off u r ids f d;simp[ql] at d
 ·intro id q i off u r ids f d;simp[ql] at d
 ·intro cs R u r ids f d;simp only[ql] at d;split at d
  ·rename_i o Q O;simp only[cG,iU] at d;obtain⟨rfl,rfl⟩:=d;cases f with
   |agg us _ hl g A=>obtain⟨B,s,D,E,F⟩:=R us o Q ⟨hl,g⟩ O;rw[<-E];exact .agg us o s B D F A
  ·cases d
 ·intro cs R u r ids f d;simp only[ql] at d;split at d
  ·rename_i o Q O;simp only[cG,iU] at d;obtain⟨rfl,rfl⟩:=d;cases f with
   |dY us _ hl g=>obtain⟨B,s,D,E,F⟩:=R us o Q ⟨hl,g⟩ O;rw[<-E];exact .dY us o s B D F
  ·cases d
 ·intro fn fs cs _ _ u r ids f d;simp[ql] at d
 ·intro id q u r ids f d;simp only[ql] at d;split at d
  ·rename_i v e sz k X aq es y;split at d
   ·rename_i g;subst g;simp only[cG,iU] at d;obtain⟨rfl,rfl⟩:=d;obtain⟨av,us,T,h,t,G,J,K,M,N⟩:=P.chunk id _ y;have l:nD L [id]=zi av T es.length:=by simp[nD,h,Loc.Al]
    rw[l];cases f with
    |eY _ _ _ W V _ _ rO n1 hl U z A=>rw[h] at hl;simp only[cG,Loc.deep.injEq] at hl;obtain⟨Y,Z,e3,e4,e5,e6⟩:=hl;subst Y Z e3 e4 e5 e6;rw[z rfl];exact .deep av e sz k X aq es us T t G J K M N
   ·cases d
  ·cases d
 ·intro id q i off u r ids f d;simp[ql] at d
 ·intro id q i u r ids f d;simp[ql] at d
 ·intro id q i j off u r ids f d;simp[ql] at d
 ·intro id n u r ids f d;simp[ql] at d
 ·intro id q off n m sz u r ids f d;simp[ql] at d
 ·intro u r ids f d;simp[ql] at d
 ·intro us o ids f d;simp only[wY,cG,iU] at d;obtain⟨rfl,rfl⟩:=d;exact⟨f.1,[],f.1,rfl,by simp⟩
 ·intro a fe an ao us o ids f d;simp only[wY] at d;split at d
  ·rename_i x i xs j hx am;simp only[cG,iU] at d;obtain⟨rfl,rfl⟩:=d;cases us with
   |nil=>have:=f.1;simp at this
   |cons u us =>
    obtain⟨B,s,D,E,F⟩:=ao us xs j ⟨by simpa using f.1,λj u c ai hc=>f.2 (j+1) u c ai hc⟩ am;have k0:=an u x i (f.2 0 u a rfl rfl) hx;refine⟨by simp[B],nD L i :: s,by simp[D],by rw[List.flatten_cons,E,On],λj v r b g d l=>?_⟩;cases j with
    |zero=>simp at g d l;subst g d l;exact k0
    |succ j=>exact F j v r b (by simpa using g) (by simpa using d) (by simpa using l)
  ·cases d
theorem xQ.low{w:World}{B a:Nat}{J:Mem}{u:Value}{r:RV}{b:List Nat}(h:xQ w B J u r b)(c:B=a):xQ w a J u r b:=c ▸ h
theorem Ix{f:FuncId}{d:Func}{c:Code}{args:List PV}{Q:RV->Prop}(own:List Nat)(N:P.follows .mixedOrders=true)(L:P.funcs[f]? = some d)(m:d.body=some c)
  (J:gP P f=true) (O:args.length<=d.ntmps) (h:cw P d.ntmps own c (CX P d.results.toList Q) (iI args) cu):bw P f args Q:=by
 refine⟨J,λI w vs G s=>calls_of_wp L m ?_⟩;let C:Ctx:=Ctx.of w I d.ntmps;have Y:vs.length<=d.ntmps:=by rw[s.1];exact O
 have V:iG C (iI args) cu I (λ_=>none) (vs.toArray++Array.replicate (d.ntmps-vs.toArray.size) undef) w :=
  {below:=Below.refl _ _
   mem:=G
   lH:=Mem.ep I
   mF:=λ_ _ _ _=>rfl
   frame:=λ_ _ _=>rfl
   loc:=λ_=>trivial
   jQ:=λid l b h=>by cases h
   size:=by simp;show vs.length+(d.ntmps-vs.length)=d.ntmps;omega
   env:=λt=>by
    unfold iI;split
    ·rename_i x A;have z:t<vs.length:=by rw[s.1];exact (List.getElem?_eq_some_iff.1 A).1
     refine .p _ _ (s.2 t _ x ?_ A);rw[List.getElem?_eq_getElem z];simp[Array.getElem?_append,z]
    ·exact .dead _
   dom:=λid l h=>by cases h
   chunk:=λid X h=>by cases h
   gh:=λid l b h=>by cases h
   apart:=λi j Z lj b h=>by cases h }
 refine wp_mono (pR N c _ C rfl _ _ I _ _ w h V) ?_;rintro e a w' ⟨K,D,H',I',L',g,k⟩;have y:(match pS P D H' d.results.toList with
  |some a=>(match ql H' a with
   |some (r,ids)=>ids.Nodup/\∃n,o4 r n/\Q n
   |none=>False)
  |none=>False)->bodyPost P d (λe w'=>∃v r q I',e = .returned v/\Q r/\xQ w' w.heap.size I' v r q/\q.Nodup/\(∀b∈q,w.heap.size<=b/\b<w'.heap.size) /\
   Below w.heap.size w w'/\I.sub I'/\I'.en w'/\∀b,b<w.heap.size->∀o,I' b o=I b o) .normal a w':=by
  intro g;split at g
  ·rename_i B H;split at g
   ·rename_i r ids T;obtain⟨R,n,M,S⟩:=g;obtain⟨u,U,W⟩:=vX k H;exact⟨K,u,U,u,n,nD L' ids,I',rfl,S,M.sound (Ot k B u r ids W T),Iv k R,λb m=>by
     obtain⟨i,l,_,E,F⟩:=EM m;exact k.gh i l b E F,k.below,k.lH,k.mem,λb m o=>k.mF b m (λh=>h) o⟩
   ·exact g.elim
  ·exact g.elim
 cases e with
 |normal=>exact y g
 |ret=>exact y g
 |exit id=>exact g.elim
 |goto l=>exact g.elim
 |panic c=>exact g.elim
 |outgrown=>exact g.elim
def Ao(fe:List AV):Env:=λt=>match fe[t]? with
 |some a=>a
 |none=>.dead
def EN(P:Program)(b:List ResultVar)(Q:AV->Option Chunk->Prop):qP:=λe env H=>match e with
 | .normal | .ret=>(match pS P env H b with
  |some a=>Q a (H 1000000)
  |none=>False)
 |_=>False
theorem nk{f:FuncId}{d:Func}{c:Code}{v:Nat}{e:TypeId}{sz:Nat}{es:List (List PV)}{y:List PV}{Q:AV->Option Chunk->Prop}(own:List Nat)(T:P.follows .mixedOrders=true)(R:P.funcs[f]? = some d)(q:d.body=some c)
  (N:gP P f=true) (hn:y.length+1<=d.ntmps) (h:cw P d.ntmps own c (EN P d.results.toList Q) (Ao (.row 1000000 v :: y.map AV.p)) (bn cu 1000000 (.row v e sz es))):kZ P f v e sz es y Q:=by
 refine⟨N,λB I w av us vs F K n J D=>calls_of_wp R q ?_⟩;let C:Ctx:=Ctx.BO w I d.ntmps B v sz av F;let L:bB:=λi=>if i=1000000 then some (.row v av sz) else none
 have ad:(av :: vs).length<=d.ntmps:=by have:=D.1;simp only[List.length_cons];omega
 have o:∀i l,L i=some l->i=1000000/\l = .row v av sz:=λi l h=>by
  simp only[L] at h;split at h
  ·rename_i s;exact⟨s,by simpa using h.symm⟩
  ·cases h
 have V:iG C (Ao (.row 1000000 v :: y.map AV.p)) (bn cu 1000000 (.row v e sz es)) I L ((av :: vs).toArray++Array.replicate (d.ntmps-(av :: vs).toArray.size) undef) w :=
  {below:=Below.refl _ _
   mem:=K
   lH:=Mem.ep I
   mF:=λ_ _ _ _=>rfl
   frame:=λ_ _ _=>rfl
   loc:=dQ.refl _
   jQ:=λid l b hl q=>by obtain⟨_,rfl⟩:=o id l hl;exact .inr q
   size:=by simp only[Array.size_append,List.size_toArray,Array.size_replicate];show (av :: vs).length+(d.ntmps-(av :: vs).length)=d.ntmps;omega
   env:=λt=>by
    unfold Ao;split
    ·rename_i a m;have A:t<(av :: vs).length:=by have:=(List.getElem?_eq_some_iff.1 m).1;simp only[List.length_cons,List.length_map] at this ⊢;rw[D.1];exact this
     have wB:((av :: vs).toArray++Array.replicate (d.ntmps-(av :: vs).toArray.size) undef).getD t undef=(av :: vs)[t]:=by simp only[Array.getD_eq_getD_getElem?,Array.getElem?_append,List.size_toArray,if_pos A,List.getElem?_toArray,List.getElem?_eq_getElem A,Option.getD_some]
     rw[wB];cases t with
     |zero=>simp at m;subst m;exact .row av 1000000 v v av sz (by simp[L]) (Nat.le_refl _) (λ_=>rfl) J
     |succ t =>
      simp only[List.getElem?_cons_succ,List.getElem?_map] at m;cases z:y[t]? with
      |none=>rw[z] at m;cases m
      |some p =>
       rw[z] at m;simp only[Option.map_some,cG] at m;subst m;have W:t<vs.length:=by simpa using A
       exact .p _ _ (D.2 t _ p (by simp[W]) z)
    ·exact .dead _
   dom:=λid l hl=>by obtain⟨rfl,_⟩:=o id l hl;exact⟨_,by simp[bn];rfl⟩
   chunk:=λid ch r=>by
    unfold bn at r;split at r
    ·rename_i s;subst s;simp only[cG] at r;subst r;exact⟨av,us,by simp[L],n.own,n.pos,n.all,n.val,n.one,n.free⟩
    ·cases r
   gh:=λid l b hl q=>by obtain⟨_,rfl⟩:=o id l hl;exact wA n.own q
   apart:=λi j Y Z b s S _ _=>by
    rw[(o i Y s).1,(o j Z S).1] }
 refine wp_mono (pR T c _ C rfl _ _ I L _ w h V) ?_;rintro x a w' ⟨O,H,H',I',L',k,g⟩;have E:(match pS P H H' d.results.toList with
  |some a=>Q a (H' 1000000)
  |none=>False)->bodyPost P d (λx w'=>∃u a H' I' L',x = .returned u/\Q a (H' 1000000)/\eP I' L' u a/\iG (Ctx.BO w I 0 B v sz av F) gv H' I' L' #[] w') .normal a w':=by
  intro k;split at k
  ·rename_i G M;obtain⟨u,U,X⟩:=vX g M;refine⟨O,u,U,u,G,H',I',L',rfl,k,X,?_⟩;exact
   {below:=g.below
    mem:=g.mem
    lH:=g.lH
    mF:=g.mF
    frame:=g.frame
    loc:=g.loc
    jQ:=g.jQ
    size:=rfl
    env:=λt=>.dead _
    dom:=g.dom
    chunk:=g.chunk
    gh:=g.gh
    apart:=g.apart }
  ·exact k.elim
 cases x with
 |normal=>exact E k
 |ret=>exact E k
 |exit id=>exact k.elim
 |goto l=>exact k.elim
 |panic c=>exact k.elim
 |outgrown=>exact k.elim
end Go.cv
namespace Go.cv
open Go.RowKit
section
variable{P:Program}{N:Nat}{own:List Nat}{ops:Array Oper}{K:Env->az->Prop}{env:Env}{H:az}
def BR(P:Program)(N:Nat)(own:List Nat)(ops:Array Oper)(r:Option (Prop×AV×az))(o:Oper)(rest:List Oper)(K:Env->az->Prop)(env:Env)(H:az):Prop:=match r with
 |some (pre,v,H')=>pre/\walk P N own ops rest K (cW env o.dst v) H'
 |none=>j6 P o (walk P N own ops rest K) env H
def we(P:Program)(N:Nat)(own:List Nat)(ops:Array Oper)(g:Option Bool)(o:Oper)(rest:List Oper)(K:Env->az->Prop)(env:Env)(H:az):Prop:=match g with
 |some true=>BR P N own ops (gC P own o (ev env) H) o rest K env H
 |some false=>walk P N own ops rest K (cW env o.dst (.dY [])) H
 |none=>False
theorem Ou:walk P N own ops [] K env H=K env H:=rfl
theorem Ov(o:Oper)(rest:List Oper):walk P N own ops (o :: rest) K env H=(wW N o.dst/\we P N own ops (nC ops o env) o rest K env H):=by rw[walk];unfold we BR;congr 1
theorem Ow(o:Oper)(rest:List Oper):we P N own ops (some true) o rest K env H=BR P N own ops (gC P own o (ev env) H) o rest K env H:=rfl
theorem Ox(o:Oper)(rest:List Oper):we P N own ops (some false) o rest K env H=walk P N own ops rest K (cW env o.dst (.dY [])) H:=rfl
theorem Oy(pre:Prop)(v:AV)(H':az)(o:Oper)(rest:List Oper):BR P N own ops (some (pre,v,H')) o rest K env H=(pre/\walk P N own ops rest K (cW env o.dst v) H'):=rfl
theorem Oz(o:Oper)(rest:List Oper):BR P N own ops none o rest K env H=j6 P o (walk P N own ops rest K) env H:=rfl
theorem OA(d:Nat):wW N (some d)=(d<N):=rfl
theorem OB:wW N none=True:=rfl
theorem OC(d:Nat)(v:AV):cW env (some d) v=cK env d v:=rfl
theorem OD(v:AV):cW env none v=env:=rfl
theorem OE(d:Option Tmp)(b:Op)(t:TypeId)(pos:String)(a:Array Edge):nC ops ⟨d,b,t,pos,a,none⟩ env=some true:=rfl
def Bh(v:AV)(a:Bool):Option Bool:=match v with
 | .p (.val (.bool b))=>some (b == a)
 | .dY []=>some false
 |_=>none
def EO(d:Option Tmp)(a:Bool)(env:Env):Option Bool:=match d with
 |some d=>Bh (env d) a
 |none=>none
theorem OF(d:Option Tmp)(c:Op)(t:TypeId)(pos:String)(a:Array Edge)(j:Nat)(b:Bool):nC ops ⟨d,c,t,pos,a,some (j,b)⟩ env=EO ((ops[j]?).bind (·.dst)) b env:=by unfold nC EO Bh;rfl
theorem OG(d:Tmp)(a:Bool):EO (some d) a env=Bh (env d) a:=rfl
theorem OH(a:Bool):Bh (.dY []) a=some false:=rfl
theorem OI(b:Bool):Bh (.p (.val (.bool b))) true=some b:=by cases b<;>rfl
theorem OJ(b:Bool):Bh (.p (.val (.bool b))) false=some (!b):=by cases b<;>rfl
def dh(r:Option (Prop×AV))(H:az):Option (Prop×AV×az):=match r with
 |some (pre,v)=>some (pre,v,H)
 |none=>none
theorem OK(pre:Prop)(v:AV):dh (some (pre,v)) H=some (pre,v,H):=rfl
theorem OL:dh none H=none:=rfl
variable(d:Option Tmp)(ty:TypeId)(pos:String)(af:Array Edge)(g:Option (Nat×Bool))(ρ:Operand->AV)
theorem OM(own:List Nat)(a:Op)(k:Tmp):gC P own ⟨some k,a,ty,pos,af,g⟩ ρ H=if own.contains k=true then oy (kB P ⟨some k,a,ty,pos,af,g⟩ ρ H k) (isApp a) (gi P ⟨some k,a,ty,pos,af,g⟩ ρ H) else gi P ⟨some k,a,ty,pos,af,g⟩ ρ H:=rfl
theorem ON(own:List Nat)(a:Op):gC P own ⟨none,a,ty,pos,af,g⟩ ρ H=gi P ⟨none,a,ty,pos,af,g⟩ ρ H:=rfl
theorem OO(x:Operand):gi P ⟨d,.move x,ty,pos,af,g⟩ ρ H=some (True,ρ x,H):=rfl
theorem OP(x:Operand):gi P ⟨d,.assign x,ty,pos,af,g⟩ ρ H=some (True,ρ x,H):=rfl
theorem OQ(c a b:Operand):gi P ⟨d,.pick c a b,ty,pos,af,g⟩ ρ H=dh (Ba (ρ c) (ρ a) (ρ b)) H:=by simp only[gi,oD,sS,nB,xM,yZ,wU,xR,dh];try (cases Ba (ρ c) (ρ a) (ρ b)<;>rfl)
theorem OR(x:Operand)(k:Nat):gi P ⟨d,.extract x k,ty,pos,af,g⟩ ρ H=dh (uW (ρ x) k) H:=by simp only[gi,oD,sS,nB,xM,yZ,wU,xR,dh];try (cases uW (ρ x) k<;>rfl)
theorem OS(a:BinOp)(t u:TypeId)(x y:Operand):gi P ⟨d,.binOp a t x y u,ty,pos,af,g⟩ ρ H=dh (oC P a t (ρ x) (ρ y)) H:=by simp only[gi,oD,sS,nB,xM,yZ,wU,xR,dh];try (cases oC P a t (ρ x) (ρ y)<;>rfl)
theorem OT(a:UnOp)(t:TypeId)(x:Operand):gi P ⟨d,.unOp a t x,ty,pos,af,g⟩ ρ H=dh (A9 a (ρ x)) H:=by simp only[gi,oD,sS,nB,xM,yZ,wU,xR,dh];try (cases A9 a (ρ x)<;>rfl)
theorem OU(s e:TypeId)(x:Operand):gi P ⟨d,.convert s e x,ty,pos,af,g⟩ ρ H=dh (AH P s e (ρ x)) H:=by simp only[gi,oD,sS,nB,xM,yZ,wU,xR,dh];try (cases AH P s e (ρ x)<;>rfl)
theorem OV(a:Fn)(f c:Array Operand):gi P ⟨d,.makeFunc a f c,ty,pos,af,g⟩ ρ H=some (True,BJ a (f.toList.map ρ) (c.toList.map ρ),H):=rfl
theorem OW(t:TypeId)(a:Array (Nat×Operand)):gi P ⟨d,.build t a,ty,pos,af,g⟩ ρ H=dh (Bc P t (a.toList.map λx=>(x.1,ρ x.2))) H:=by simp only[gi,oD,sS,nB,xM,yZ,wU,xR,dh];try (cases Bc P t (a.toList.map λx=>(x.1,ρ x.2))<;>rfl)
theorem OX(t:TypeId)(x i:Operand):gi P ⟨d,.index t x i,ty,pos,af,g⟩ ρ H=dh (AI P t (ρ x) (ρ i)) H:=by simp only[gi,oD,sS,nB,xM,yZ,wU,xR,dh];try (cases AI P t (ρ x) (ρ i)<;>rfl)
theorem OY(t:TypeId)(x:Operand)(lo a b:Option Operand):gi P ⟨d,.slice t x lo a b,ty,pos,af,g⟩ ρ H=dh (tF P t (ρ x) (lo.map ρ) (a.map ρ) (b.map ρ)) H:=by simp only[gi,oD,sS,nB,xM,yZ,wU,xR,dh];try (cases tF P t (ρ x) (lo.map ρ) (a.map ρ) (b.map ρ)<;>rfl)
theorem OZ(x:Operand):gi P ⟨d,.nilCheck x,ty,pos,af,g⟩ ρ H=dh (Bb (ρ x)) H:=by simp only[gi,oD,sS,nB,xM,yZ,wU,xR,dh];try (cases Bb (ρ x)<;>rfl)
def AM(P:Program)(t:TypeId)(a:AV)(H:az):Option (Prop×AV×az):=match a with
 | .p (.eF cs off)=>(match td P t cs off with|some x=>some (True,.p x,H)|none=>none)
 | .ptr id off => (match H id with
   |some (.box cs)=>match tc P t cs off with|some v=>some (True,v,H)|none=>none
   |_=>none)
 | .jD id b i off => (match rowOf H id b with
   |some es=>match td P t (es.getD i []) off with|some x=>some (i<es.length/\0<(es.getD i []).length,.p x,H)|none=>none
   |none=>none)
 | .kX id b i off => (match cU H id b with
   |some (k,es)=>match tc P t (AJ id b i k (es.getD i [])) off with|some v=>some (i<es.length,v,H)|none=>none
   |none=>none)
 | .nR id b i j off => (match nS (cU H id b) i with
   |some l=>match td P t (l.getD j []) off with|some x=>some (j<l.length,.p x,H)|none=>none
   |none=>none)
 |_=>none
theorem O0(t:TypeId)(a:Operand):gi P ⟨d,.load t a,ty,pos,af,g⟩ ρ H=AM P t (ρ a) H:=by
  simp only[gi,oD,sS,nB,xM,yZ,wU,xR,CJ,AM];generalize ρ a=v;cases v with
  | p x => cases x <;> simp only []
           case eF cs off=>cases td P t cs off<;>rfl
  |ptr id off =>
    simp only[];cases H id with
    |none=>rfl
    |some c=>cases c with
      |box cs=>simp only[];cases tc P t cs off<;>rfl
      |_=>rfl
  |jD id b i off =>
    simp only[];cases rowOf H id b with
    |none=>rfl
    |some es=>simp only[];cases td P t (es.getD i []) off<;>rfl
  |kX id b i off =>
    simp only[];cases cU H id b with
    |none=>rfl
    |some r=>obtain⟨k,es⟩:=r;simp only[];cases tc P t (AJ id b i k (es.getD i [])) off<;>rfl
  |nR id b i j off =>
    simp only[];cases nS (cU H id b) i with
    |none=>rfl
    |some l=>simp only[];cases td P t (l.getD j []) off<;>rfl
  |_=>rfl
def Bi(P:Program)(f:Option (Nat×Nat))(a:AV)(H:az):Option (Prop×AV×az):=match f with
 |some (o,n)=>(match a with
  | .p (.eF cs off)=>some (n≠0,.p (.eF cs (off+o)),H)
  | .ptr id off=>some (n≠0,.ptr id (off+o),H)
  | .jD id b i off=>(match rowOf H id b with
   |some _=>some (n≠0,.jD id b i (off+o),H)
   |none=>none)
  | .kX id b i off=>(match cU H id b with
   |some _=>some (n≠0,.kX id b i (off+o),H)
   |none=>none)
  |_=>none)
 |none=>none
theorem O1(s:TypeId)(a:Operand)(k:Nat):gi P ⟨d,.fieldAddr s a k,ty,pos,af,g⟩ ρ H=Bi P (bM P s k) (ρ a) H:=by
 simp only[gi,oD,sS,nB,xM,yZ,wU,xR,CK,Bi];generalize ρ a=v;cases bM P s k with
 |none=>cases v<;>rfl
 |some x =>
  obtain⟨o,n⟩:=x;cases v with
  |p x=>cases x<;>rfl
  |jD id b i off=>simp only[];cases rowOf H id b<;>rfl
  |kX id b i off=>simp only[];cases cU H id b<;>rfl
  |_=>rfl
def pM(P:Program)(t:TypeId)(x i:AV)(H:az):Option (Prop×AV×az):=match x with
 | .row id a=>(match i with
  | .p (.val (.int _ n))=>(match rowOf H id a,cT P t with
   |some es,some e=>(match bu P e with
    |some sz=>some ((0<=n/\n<es.length)/\(es.getD n.toNat []).length=sz/\0<sz,.jD id a n.toNat 0,H)
    |none=>none)
   |_,_=>none)
  |_=>none)
 | .eY id a=>(match i with
  | .p (.val (.int _ n))=>(match cU H id a,cT P t with
   |some (_,es),some e=>(match bu P e with
    |some sz=>some ((0<=n/\n<es.length)/\(es.getD n.toNat []).length=sz,.kX id a n.toNat 0,H)
    |none=>none)
   |_,_=>none)
  |_=>none)
 | .kY id a b=>(match i with
  | .p (.val (.int _ n))=>(match nS (cU H id a) b,cT P t with
   |some l,some e=>(match bu P e with
    |some sz=>some ((0<=n/\n<l.length)/\(l.getD n.toNat []).length=sz,.nR id a b n.toNat 0,H)
    |none=>none)
   |_,_=>none)
  |_=>none)
 | .iV id a off m _ _=>(match i with
  | .p (.val (.int _ n))=>(match r0 H id a,cT P t with
   |some (sz,es),some e=>(match bu P e with
    |some c=>some ((0<=n/\n<m/\off+m<=es.length)/\c=sz,.jD id a (off+n.toNat) 0,H)
    |none=>none)
   |_,_=>none)
  |_=>none)
 |x=>dh (pK P t x i) H
theorem O2(t:TypeId)(x i:Operand):gi P ⟨d,.indexAddr t x i,ty,pos,af,g⟩ ρ H=pM P t (ρ x) (ρ i) H:=by
 simp only[gi,oD,sS,nB,xM,yZ,wU,xR,pM];generalize ρ x=v;generalize ρ i=u;cases v with
 |row id a =>
  have:pK P t (.row id a) u=none:=by
   unfold pK;cases u with
   |p y=>cases y with
    |val z=>cases z<;>rfl
    |_=>rfl
   |_=>rfl
  rw[this];simp only[];cases u with
  |p y=>cases y with
   |val z=>cases z with
    |int k n =>
     simp only[];cases rowOf H id a<;>cases cT P t<;>simp only[]
     rename_i es e;cases bu P e<;>rfl
    |_=>rfl
   |_=>rfl
  |_=>rfl
 |eY id a =>
  have:pK P t (.eY id a) u=none:=by
   unfold pK;cases u with
   |p y=>cases y with
    |val z=>cases z<;>rfl
    |_=>rfl
   |_=>rfl
  rw[this];simp only[];cases u with
  |p y=>cases y with
   |val z=>cases z with
    |int k n =>
     simp only[];cases cU H id a<;>cases cT P t<;>simp only[]
     rename_i r e;obtain⟨_,es⟩:=r;simp only[];all_goals(cases bu P e<;>rfl)
    |_=>rfl
   |_=>rfl
  |_=>rfl
 |kY id a b =>
  have:pK P t (.kY id a b) u=none:=by
   unfold pK;cases u with
   |p y=>cases y with
    |val z=>cases z<;>rfl
    |_=>rfl
   |_=>rfl
  rw[this];simp only[];cases u with
  |p y=>cases y with
   |val z=>cases z with
    |int k n =>
     simp only[];cases nS (cU H id a) b<;>cases cT P t<;>simp only[]
     rename_i l e;cases bu P e<;>rfl
    |_=>rfl
   |_=>rfl
  |_=>rfl
 |iV id a off m c z =>
  have:pK P t (.iV id a off m c z) u=none:=by
   unfold pK;cases u with
   |p y=>cases y with
    |val z=>cases z<;>rfl
    |_=>rfl
   |_=>rfl
  rw[this];simp only[];cases u with
  |p y=>cases y with
   |val z=>cases z with
    |int k n =>
     simp only[];cases r0 H id a<;>cases cT P t<;>simp only[]
     rename_i r e;obtain⟨sz,es⟩:=r;simp only[];all_goals(cases bu P e<;>rfl)
    |_=>rfl
   |_=>rfl
  |_=>rfl
 |_=>simp only[];generalize pK P t _ u=r;cases r<;>rfl
theorem O3(t:TypeId)(a x:Operand):gi P ⟨d,.store t a x,ty,pos,af,g⟩ ρ H=wU P ⟨d,.store t a x,ty,pos,af,g⟩ ρ H:=by simp only[gi,oD,sS,nB,xM,yZ,xR];split<;>simp_all
theorem O4(t:TypeId):gi P ⟨d,.alloc t,ty,pos,af,g⟩ ρ H=wU P ⟨d,.alloc t,ty,pos,af,g⟩ ρ H:=by simp only[gi,oD,sS,nB,xM,yZ,xR];split<;>simp_all
theorem O5(t:TypeId)(x:Operand):gi P ⟨d,.box t x,ty,pos,af,g⟩ ρ H=wU P ⟨d,.box t x,ty,pos,af,g⟩ ρ H:=by simp only[gi,oD,sS,nB,xM,yZ,xR];split<;>simp_all
theorem O6(f:Operand)(args:Array Operand)(a:Array TypeId):gi P ⟨d,.call ⟨.value f,args,a⟩,ty,pos,af,g⟩ ρ H=none:=rfl
def sy(P:Program)(t:TypeId)(a:AV)(H:az):Option (Prop×AV×az):=match a with
 | .row id b=>(match rowOf H id b with
  |some es=>dh (rP P t (.p (.aV es))) H
  |none=>none)
 | .eY id b=>(match cU H id b with
  |some (_,es)=>dh (rP P t (.p (.aV es))) H
  |none=>none)
 | .kY id b i=>(match nS (cU H id b) i with
  |some l=>dh (rP P t (.p (.aV l))) H
  |none=>none)
 |a=>dh (rP P t a) H
theorem sV(t:TypeId)(a:Operand):gi P ⟨d,.call ⟨.builtin .len,#[a],#[t]⟩,ty,pos,af,g⟩ ρ H=sy P t (ρ a) H:=by
 simp only[gi,oD,sS,nB,xM,yZ,wU,xR,sy,uX,List.map_cons,List.map_nil];generalize ρ a=v;cases v with
 |row id b =>
  have:rP P t (.row id b)=none:=rfl;rw[this];simp only[];cases rowOf H id b with
  |none=>rfl
  |some es=>simp only[];generalize rP P t _=r;cases r<;>rfl
 |eY id b =>
  have:rP P t (.eY id b)=none:=rfl;rw[this];simp only[];cases cU H id b with
  |none=>rfl
  |some r=>obtain⟨_,es⟩:=r;simp only[];generalize rP P t _=r;cases r<;>rfl
 |kY id b i =>
  have:rP P t (.kY id b i)=none:=rfl;rw[this];simp only[];cases nS (cU H id b) i with
  |none=>rfl
  |some l=>simp only[];generalize rP P t _=r;cases r<;>rfl
 |_=>simp only[];generalize rP P t _=r;cases r<;>rfl
def sB(P:Program)(t1 t2:TypeId)(a b:AV)(H:az):Option (Prop×AV×az):=match ry P t1 t2 a b with
 |some (pre,v)=>some (pre,v,H)
 |none=>qR P t1 t2 a b H
theorem Iy(t1 t2:TypeId)(a b:Operand):gi P ⟨d,.call ⟨.builtin .append,#[a,b],#[t1,t2]⟩,ty,pos,af,g⟩ ρ H=sB P t1 t2 (ρ a) (ρ b) H:=by
 simp only[gi,oD,sS,nB,xM,yZ,wU,xR,sB,uX,List.map_cons,List.map_nil];cases ry P t1 t2 (ρ a) (ρ b) with
 |some r=>rfl
 |none=>simp only[];cases qR P t1 t2 (ρ a) (ρ b) H<;>rfl
def EP(P:Program)(t:TypeId)(n:Nat)(parts:List (Nat×AV))(H:az):Option (Prop×AV×az):=match mu P t n parts with
 |some (_,es)=>(match n with
  |0=>some (True,.p .emp,H)
  |_=>some (True,.p (.aV es),H))
 |none=>match mu P t n (parts.map λx=>(x.1,yH (eH (pL parts) H) x.2)) with
  |some (_,es)=>some (True,.p (.aV es),eH (pL parts) H)
  |none=>none
theorem O7(t:TypeId)(n:Nat)(a:Array (Nat×Operand)):gi P ⟨d,.buildSlice t n a,ty,pos,af,g⟩ ρ H=EP P t n (a.toList.map λx=>(x.1,ρ x.2)) H:=by
 simp only[gi,oD,sS,nB,xM,yZ,wU,xR,EP];cases mu P t n (a.toList.map λx=>(x.1,ρ x.2)) with
 |some r=>obtain⟨e,es⟩:=r;cases n<;>rfl
 |none=>rfl
end
section
variable{P:Program}{N:Nat}{own:List Nat}{K:qP}{env:Env}{H:az}
def CY(P:Program)(N:Nat)(own:List Nat)(b:Code)(K:qP):qP:=λx a H'=>match x with
 | .normal=>cw P N own b K a H'
 |x=>K x a H'
def CZ(id:Nat)(K:qP):qP:=λx a H'=>match x with
 | .exit b=>if b=id then K .normal a H' else K (.exit b) a H'
 |x=>K x a H'
def y4(P:Program)(N:Nat)(own:List Nat)(v:AV)(a b:Code)(K:qP)(env:Env)(H:az):Prop:=wX (cw P N own a K env H) (cw P N own b K env H) v
def xg(P:Program)(N:Nat)(own:List Nat)(c:Code)(K:qP)(env:Env)(H:az):Prop:=It (cw P N own c) K env H
theorem O8:cw P N own .skip K env H=K .normal env H:=rfl
theorem O9(id:Nat)(l:List Oper):cw P N own (.region id l.toArray false) K env H=walk P N own l.toArray l (K .normal) env H:=rfl
theorem Pa(id:Nat)(l:List Oper):cw P N own (.region id l.toArray true) K env H=vW P N own l.toArray (K .normal) env H:=rfl
theorem Pb(a b:Code):cw P N own (.seq a b) K env H=cw P N own a (CY P N own b K) env H:=rfl
theorem Pc(c:Operand)(a b:Code):cw P N own (.cond c a b) K env H=y4 P N own (ev env c) a b K env H:=rfl
theorem Pd(id:Nat)(c:Code):cw P N own (.block id c) K env H=cw P N own c (CZ id K) env H:=rfl
theorem Pe(c:Code):cw P N own (.loop c) K env H=xg P N own c K env H:=rfl
theorem Pf(id:Nat):cw P N own (.exit id) K env H=K (.exit id) env H:=rfl
theorem Pg:cw P N own .ret K env H=K .ret env H:=rfl
theorem Ph(b:Code):CY P N own b K .normal env H=cw P N own b K env H:=rfl
theorem Pj(b:Code)(id:Nat):CY P N own b K (.exit id) env H=K (.exit id) env H:=rfl
theorem Pk(b:Code):CY P N own b K .ret env H=K .ret env H:=rfl
theorem Pm(id:Nat):CZ id K .normal env H=K .normal env H:=rfl
theorem Pn(id a:Nat):CZ id K (.exit a) env H=if a=id then K .normal env H else K (.exit a) env H:=rfl
theorem Po(id:Nat):CZ id K .ret env H=K .ret env H:=rfl
theorem Pp(a b:Code):y4 P N own (.p (.val (.bool true))) a b K env H=cw P N own a K env H:=by simp[y4,wX]
theorem Pq(a b:Code):y4 P N own (.p (.val (.bool false))) a b K env H=cw P N own b K env H:=by simp[y4,wX]
theorem aK{b:Bool}{x y:Code}(a:b=true->cw P N own x K env H)(c:b=false->cw P N own y K env H):y4 P N own (.p (.val (.bool b))) x y K env H:=⟨a,c⟩
def Iz(r:Option PV)(Q:PV->Prop):Prop:=match r with
 |some r=>Q r
 |none=>False
theorem Pr(a:List ResultVar)(Q:PV->Prop):CW P a Q .ret env H=Iz (BP P env H a) Q:=rfl
theorem Pt(r:PV)(Q:PV->Prop):Iz (some r) Q=Q r:=rfl
theorem Pu(t:Tmp):ev env (.tmp t)=env t:=rfl
theorem Pv(k:IntKind)(n:Int):ev env (.const (.int k n)) = .p (.val (.int k n)):=rfl
theorem Pw(b:Bool):ev env (.const (.bool b)) = .p (.val (.bool b)):=rfl
theorem Px(b:ByteArray):ev env (.const (.string b)) = .p (.val (.string b)):=rfl
theorem Py(a:Option Addr)(n c:Nat):ev env (.const (.slice a n c)) = .p (.val (.slice a n c)):=rfl
theorem Pz(f:FuncId):ev env (.func f) = .p (.iT (.func f) [] []):=rfl
theorem PA:iI []=gv:=by funext t;simp[iI,gv]
theorem PB(a:PV):iI [a]=cK gv 0 (.p a):=by funext t;unfold iI cK gv;rcases t with _|t<;>simp
theorem PC(a b:PV):iI [a,b]=cK (cK gv 0 (.p a)) 1 (.p b):=by funext t;unfold iI cK gv;rcases t with _|_|t<;>simp
theorem PD(a b c:PV):iI [a,b,c]=cK (cK (cK gv 0 (.p a)) 1 (.p b)) 2 (.p c):=by funext t;unfold iI cK gv;rcases t with _|_|_|t<;>simp
theorem PE(a b c d:PV):iI [a,b,c,d]=cK (cK (cK (cK gv 0 (.p a)) 1 (.p b)) 2 (.p c)) 3 (.p d):=by funext t;unfold iI cK gv;rcases t with _|_|_|_|t<;>simp
theorem PF(a b c d e:PV):iI [a,b,c,d,e]=cK (cK (cK (cK (cK gv 0 (.p a)) 1 (.p b)) 2 (.p c)) 3 (.p d)) 4 (.p e):=by funext t;unfold iI cK gv;rcases t with _|_|_|_|_|t<;>simp
end
section
variable{P:Program}{t:TypeId}{k:IntKind}{a b:Int}
theorem PG:oC P .add t (.p (.val (.int k a))) (.p (.val (.int k b)))=some (True,.p (.val (.int k (k.wrap (a+b))))):=by simp[oC,ox]
theorem PI:oC P .sub t (.p (.val (.int k a))) (.p (.val (.int k b)))=some (True,.p (.val (.int k (k.wrap (a-b))))):=by simp[oC,ox]
theorem PJ:oC P .mul t (.p (.val (.int k a))) (.p (.val (.int k b)))=some (True,.p (.val (.int k (k.wrap (a * b))))):=by simp[oC,ox]
theorem PK:oC P .quo t (.p (.val (.int k a))) (.p (.val (.int k b)))=some (b≠0,.p (.val (.int k (k.wrap (a.tdiv b))))):=by simp[oC,ox]
theorem PL:oC P .rem t (.p (.val (.int k a))) (.p (.val (.int k b)))=some (b≠0,.p (.val (.int k (a.tmod b)))):=by simp[oC,ox]
theorem PM:oC P .eql t (.p (.val (.int k a))) (.p (.val (.int k b)))=some (True,.p (.val (.bool (decide (a=b))))):=by simp[oC,ox]
theorem PN:oC P .neq t (.p (.val (.int k a))) (.p (.val (.int k b)))=some (True,.p (.val (.bool (!decide (a=b))))):=by simp[oC,ox]
theorem PO:oC P .lss t (.p (.val (.int k a))) (.p (.val (.int k b)))=some (True,.p (.val (.bool (decide (a<b))))):=by simp[oC,ox]
theorem PR:oC P .leq t (.p (.val (.int k a))) (.p (.val (.int k b)))=some (True,.p (.val (.bool (decide (a<=b))))):=by simp[oC,ox]
theorem PS:oC P .gtr t (.p (.val (.int k a))) (.p (.val (.int k b)))=some (True,.p (.val (.bool (decide (b<a))))):=by simp[oC,ox]
theorem PT:oC P .geq t (.p (.val (.int k a))) (.p (.val (.int k b)))=some (True,.p (.val (.bool (decide (b<=a))))):=by simp[oC,ox]
theorem PU{x y:ByteArray} : oC P .eql t (.p (.val (.string x))) (.p (.val (.string y)))=some (True,.p (.val (.bool (decide (x=y))))):=by simp[oC,ox]
theorem PW{es:List (List PV)}(h:isSlice P t=true):oC P .eql t (.p (.aV es)) (.p (.val (.slice none 0 0)))=some (es≠[],.p (.val (.bool false))):=by simp[oC,h]
theorem PX{a:Option Addr}{n c:Nat}(h:isSlice P t=true):oC P .eql t (.p (.val (.slice a n c))) (.p (.val (.slice none 0 0)))=some (True,.p (.val (.bool a.isNone))):=by
 unfold isSlice at h;unfold oC ox;split at h
 ·rename_i e b;simp[b]
 ·cases h
def aHU(P:Program)(t:TypeId):Bool:=match P.underlying t with
 |some .bool=>true
 |_=>false
def o5(a:BinOp)(r:Option Bool):Option (Prop×AV):=match a,r with
 | .eql,some b=>some (True,.p (.val (.bool b)))
 | .neq,some b=>some (True,.p (.val (.bool !b)))
 |_,_=>none
theorem PY(b:Bool):o5 .eql (some b)=some (True,.p (.val (.bool b))):=rfl
theorem PZ(b:Bool):o5 .neq (some b)=some (True,.p (.val (.bool !b))):=rfl
theorem P0{c:BinOp}{cs a:List PV}{b:List BK}(h:vS P t=some b):oC P c t (.p (.agg cs)) (.p (.agg a))=o5 c (ga b cs a):=by unfold oC o5;simp only[h];try rfl
theorem P3:ga [] [] []=some true:=rfl
def BS(b:Bool)(r:Option Bool):Option Bool:=match r with
 |some r=>some (b&&r)
 |none=>none
theorem P4(a b:Bool):BS a (some b)=some (a&&b):=rfl
theorem P5(d:List BK)(k:IntKind)(a b:Int)(cs c:List PV):ga (.i :: d) (.val (.int k a) :: cs) (.val (.int k b) :: c)=BS (decide (a=b)) (ga d cs c):=by simp only[ga,uP,if_true,BS];all_goals(cases ga d cs c<;>rfl)
theorem P6(d:List BK)(a b:Bool)(cs c:List PV):ga (.b :: d) (.val (.bool a) :: cs) (.val (.bool b) :: c)=BS (a == b) (ga d cs c):=by simp only[ga,uP,BS];all_goals(cases ga d cs c<;>rfl)
theorem P7{x:Bool} : A9 .not (.p (.val (.bool x)))=some (True,.p (.val (.bool !x))):=rfl
theorem P8{x y:AV} : Ba (.p (.val (.bool true))) x y=some (True,x):=rfl
theorem P9{x y:AV} : Ba (.p (.val (.bool false))) x y=some (True,y):=rfl
theorem Qa(vs:List PV)(n:Nat):uW (.p (.dY vs)) n=(match vs[n]? with|some x=>some (True,.p x)|none=>none):=rfl
theorem Qb(vs:List AV)(n:Nat):uW (.dY vs) n=(match vs[n]? with|some x=>some (True,x)|none=>none):=rfl
theorem Qc(H:az)(cs:List PV)(off:Nat):AM P t (.p (.eF cs off)) H=(match td P t cs off with|some x=>some (True,.p x,H)|none=>none):=rfl
def IA(P:Program)(t:TypeId)(c:Option Chunk)(off:Nat)(H:az):Option (Prop×AV×az):=match c with
 |some (.box cs)=>(match tc P t cs off with|some v=>some (True,v,H)|none=>none)
 |_=>none
theorem Qd(H:az)(id off:Nat):AM P t (.ptr id off) H=IA P t (H id) off H:=rfl
theorem Qe(H:az)(cs:List AV)(off:Nat):IA P t (some (.box cs)) off H=(match tc P t cs off with|some v=>some (True,v,H)|none=>none):=rfl
theorem Qf(H:az)(id a i off:Nat):AM P t (.jD id a i off) H=(match rowOf H id a with
   |some es=>(match td P t (es.getD i []) off with|some x=>some (i<es.length/\0<(es.getD i []).length,.p x,H)|none=>none)
   |none=>none):=rfl
def ER(g:Option Bool)(n:Option Nat)(cs:List AV)(off:Nat):Option AV:=match g with
 |some true=>(match n with
  |some n=>if off+n<=cs.length then some (yG ((cs.drop off).take n)) else none
  |none=>none)
 |some false=>cs[off]?
 |none=>none
def ES(g:Option Bool)(n:Option Nat)(cs:List PV)(off:Nat):Option PV:=match g with
 |some true=>(match n with
  |some n=>if off+n<=cs.length then some (.agg ((cs.drop off).take n)) else none
  |none=>none)
 |some false=>cs[off]?
 |none=>none
theorem Qg{cs:List AV}{off:Nat} : tc P t cs off=ER (gd P t) (bu P t) cs off:=rfl
theorem Qh{cs:List PV}{off:Nat} : td P t cs off=ES (gd P t) (bu P t) cs off:=rfl
theorem Qi{cs:List AV}{off:Nat}{n:Option Nat} : ER (some false) n cs off=cs[off]?:=rfl
theorem Qj{cs:List PV}{off:Nat}{n:Option Nat} : ES (some false) n cs off=cs[off]?:=rfl
theorem Qk{cs:List AV}{off n:Nat} : ER (some true) (some n) cs off=if off+n<=cs.length then some (yG ((cs.drop off).take n)) else none:=rfl
theorem Ql{cs:List PV}{off n:Nat} : ES (some true) (some n) cs off=if off+n<=cs.length then some (.agg ((cs.drop off).take n)) else none:=rfl
theorem Qm(H:az)(o n:Nat)(cs:List PV)(off:Nat):Bi P (some (o,n)) (.p (.eF cs off)) H=some (n≠0,.p (.eF cs (off+o)),H):=rfl
theorem Qn(H:az)(o n:Nat)(id off:Nat):Bi P (some (o,n)) (.ptr id off) H=some (n≠0,.ptr id (off+o),H):=rfl
theorem Qo(H:az)(o n:Nat)(id a i off:Nat):Bi P (some (o,n)) (.jD id a i off) H=(match rowOf H id a with
   |some _=>some (n≠0,.jD id a i (off+o),H)
   |none=>none):=rfl
def ET(e:Option TypeId)(sz:TypeId->Option Nat)(es:List (List PV))(a:Int)(H:az):Option (Prop×AV×az):=match e with
 |some e=>(match sz e with
  |some sz=>some ((0<=a/\a<es.length)/\(es.getD a.toNat []).length=sz/\0<sz,.p (.eF (es.getD a.toNat []) 0),H)
  |none=>none)
 |none=>none
theorem Qp{H:az}{es:List (List PV)} : pM P t (.p (.aV es)) (.p (.val (.int k a))) H=ET (cT P t) (bu P) es a H:=by
 unfold pM pK ET dh;cases cT P t with
 |none=>rfl
 |some e=>simp only[];cases bu P e<;>rfl
theorem Qq{e:TypeId}{f:TypeId->Option Nat}{es:List (List PV)}{H:az} : ET (some e) f es a H=(match f e with
  |some sz=>some ((0<=a/\a<es.length)/\(es.getD a.toNat []).length=sz/\0<sz,.p (.eF (es.getD a.toNat []) 0),H)
  |none=>none):=rfl
def EU(r:Option (List (List PV)))(e:Option TypeId)(sz:TypeId->Option Nat)(id b:Nat)(a:Int)(H:az):Option (Prop×AV×az):=match r,e with
 |some es,some e=>(match sz e with
  |some sz=>some ((0<=a/\a<es.length)/\(es.getD a.toNat []).length=sz/\0<sz,.jD id b a.toNat 0,H)
  |none=>none)
 |_,_=>none
theorem Qr{H:az}{id b:Nat} : pM P t (.row id b) (.p (.val (.int k a))) H=EU (rowOf H id b) (cT P t) (bu P) id b a H:=by unfold pM EU;rfl
theorem Qs{es:List (List PV)}{e:TypeId}{f:TypeId->Option Nat}{id b:Nat}{H:az} : EU (some es) (some e) f id b a H=(match f e with
  |some sz=>some ((0<=a/\a<es.length)/\(es.getD a.toNat []).length=sz/\0<sz,.jD id b a.toNat 0,H)
  |none=>none):=rfl
theorem Qt(H:az)(id a:Nat):rowOf H id a=(match H id with
 |some (.row v _ _ es)=>if v=a then some es else none
 |some (.shut v es)=>if v=a then some es else none
 |some (.tail v _ _ es)=>if v=a then some es else none
 |_=>none):=rfl
theorem Qu{H:az}{es:List (List PV)}(h:isSlice P t=true):sy P t (.p (.aV es)) H=some (True,.p (.val (.int .i64 es.length)),H):=by simp[sy,rP,h,dh]
theorem Qv{H:az}{s:ByteArray}(h:zj P t=true):sy P t (.p (.val (.string s))) H=some (True,.p (.val (.int .i64 s.size)),H):=by simp[sy,rP,h,dh]
theorem Qw{H:az}{id a:Nat}(h:isSlice P t=true):sy P t (.row id a) H=(match rowOf H id a with
  |some es=>some (True,.p (.val (.int .i64 es.length)),H)
  |none=>none):=by
 simp only[sy,rP,h];all_goals(cases rowOf H id a<;>rfl)
theorem Qx{s:ByteArray}(h:zj P t=true):AI P t (.p (.val (.string s))) (.p (.val (.int k a)))=some (0<=a/\a<s.size,.p (.val (.int .u8 (mb s a.toNat)))):=by simp[AI,h]
def EV(b:Bool)(d:Option IntKind)(a:Int):Option (Prop×AV):=match b,d with
 |true,some k=>some (True,.p (.val (.int k (k.wrap a))))
 |_,_=>none
theorem Qy{s:TypeId} : AH P s t (.p (.val (.int k a)))=EV (P.underlying s).isSome (BI P t) a:=by unfold AH EV;cases (P.underlying s).isSome<;>cases BI P t<;>rfl
theorem Qz{k:IntKind} : EV true (some k) a=some (True,.p (.val (.int k (k.wrap a)))):=rfl
def IB(P : Program)(t : TypeId)(a v : AV)(H : az) : Option (Prop × AV × az) := match bu P t with
  | some n => if (b7 v).length = n ∧ (b7 v).all oB = true then (match a with
    | .ptr id off=>(match H id with
     |some (.box cs)=>if off+n<=cs.length then some (True,.dead,bn H id (.box (splice cs off (b7 v)))) else none
     |_=>none)
    | .jD id c i off=>(match H id,uj (b7 v) with
     |some (.row b e sz es),some d=>if b=c then some (i<es.length/\off+n<=sz,.dead,bn H id (.row b e sz (es.set i (splice (es.getD i []) off d)))) else none
     |_,_=>none)
    |_=>none)
   else none
  |none=>none
theorem QA(d:Option Tmp)(ty:TypeId)(pos:String)(af:Array Edge)(g:Option (Nat×Bool))(ρ:Operand->AV)(H:az)(x y:Operand):gi P ⟨d,.store t x y,ty,pos,af,g⟩ ρ H=IB P t (ρ x) (ρ y) H:=by rw[O3];rfl
def IC(d : Option Tmp)(v : AV)(H : az) : Option (Prop × AV × az) := match d with
  |some d=>(match H d with
   |none=>if (b7 v).all oB=true then some (True,.ptr d 0,bn H d (.box (b7 v))) else none
   |some _=>none)
  |none=>none
theorem QB(d:Option Tmp)(ty:TypeId)(pos:String)(af:Array Edge)(g:Option (Nat×Bool))(ρ:Operand->AV)(H:az)(x:Operand):gi P ⟨d,.box t x,ty,pos,af,g⟩ ρ H=IC d (ρ x) H:=by rw[O5];rfl
def ID(P : Program)(d : Option Tmp)(e : TypeId)(H : az) : Option (Prop × AV × az) := match d with
  |some d=>(match H d,cN P e with
   |none,some a=>if a.all (·.oneCell')=true then some (True,.ptr d 0,bn H d (.box (a.map λz=>.p (.val z)))) else none
   |_,_=>none)
  |none=>none
theorem QC(d:Option Tmp)(ty:TypeId)(pos:String)(af:Array Edge)(g:Option (Nat×Bool))(ρ:Operand->AV)(H:az)(e:TypeId):gi P ⟨d,.alloc e,ty,pos,af,g⟩ ρ H=ID P d e H:=by rw[O4];rfl
def IE(P:Program)(e:Option TypeId)(n:Nat)(parts:List (Nat×AV)):Option (TypeId×List (List PV)):=match e with
 |some e=>(match bu P e,cN P e with
  | some sz, some a => if a.length = sz ∧ 0 < sz ∧ n * sz ≤ 16777216 ∧ a.all (·.oneCell') = true then
    (match rX (λi=>some (i * sz,sz)) (iY a n) parts with
    |some cs=>(match uj cs with
     |some b=>if b.length=n * sz then some (e,chunk sz n b) else none
     |none=>none)
    |none=>none)
   else none
  |_,_=>none)
 |none=>none
theorem QD(n:Nat)(parts:List (Nat×AV)):mu P t n parts=IE P (cT P t) n parts:=rfl
theorem QE(e:TypeId)(n:Nat)(parts:List (Nat×AV)):IE P (some e) n parts=(match bu P e,cN P e with
  | some sz, some a => if a.length = sz ∧ 0 < sz ∧ n * sz ≤ 16777216 ∧ a.all (·.oneCell') = true then
    (match rX (λi=>some (i * sz,sz)) (iY a n) parts with
    |some cs=>(match uj cs with
     |some b=>if b.length=n * sz then some (e,chunk sz n b) else none
     |none=>none)
    |none=>none)
   else none
  |_,_=>none):=rfl
theorem QF(n:Nat)(parts:List (Nat×AV))(H:az):EP P t n parts H=(match mu P t n parts with
 |some (_,es)=>(match n with
  |0=>some (True,.p .emp,H)
  |_=>some (True,.p (.aV es),H))
 |none=>(match mu P t n (parts.map λx=>(x.1,yH (eH (pL parts) H) x.2)) with
  |some (_,es)=>some (True,.p (.aV es),eH (pL parts) H)
  |none=>none)):=rfl
def EW(a : Nat → Option (Nat × Nat))(p : Option (Nat × Nat))(cells : List AV)(v : AV)(rest : List (Nat × AV)) : Option (List AV) := match p with
  |some (off,size)=>if (b7 v).length=size/\off+size<=cells.length/\(b7 v).all oB=true then rX a (splice cells off (b7 v)) rest else none
  |none=>none
theorem QG(a:Nat->Option (Nat×Nat))(cells:List AV):rX a cells []=some cells:=rfl
theorem QH(a:Nat->Option (Nat×Nat))(cells:List AV)(i:Nat)(v:AV)(rest:List (Nat×AV)):rX a cells ((i,v) :: rest)=EW a (a i) cells v rest:=by simp only[rX,EW];try rfl
theorem QI(a:Nat->Option (Nat×Nat))(cells:List AV)(off size:Nat)(v:AV)(rest:List (Nat×AV)):EW a (some (off,size)) cells v rest=if (b7 v).length=size/\off+size<=cells.length/\(b7 v).all oB=true then rX a (splice cells off (b7 v)) rest else none:=rfl
theorem QJ(a:List Value):iY a 0=[]:=rfl
theorem QK(a:List Value)(n:Nat):iY a (n+1)=(a.map λz=>AV.p (.val z))++iY a n:=by simp[iY,List.replicate_succ]
theorem QL{α:Type}(sz:Nat)(l:List α):chunk sz 0 l=[]:=rfl
theorem QM{α:Type}(sz n:Nat)(l:List α):chunk sz (n+1) l=l.take sz :: chunk sz n (l.drop sz):=rfl
def IF(z:Option (List Value))(pl:Option (List (Nat×Nat)))(parts:List (Nat×AV)):Option (Prop×AV):=match z,pl with
 | some a, some pl => if a.all (·.oneCell') = true then
   (match rX (λi=>pl[i]?) (a.map λz=>.p (.val z)) parts with
   |some cs=>some (True,yG cs)
   |none=>none)
  else none
 |_,_=>none
theorem QN(parts:List (Nat×AV)):Bc P t parts=IF (cN P t) (fh P t) parts:=rfl
theorem QO(a:List Value)(pl:List (Nat×Nat))(parts:List (Nat×AV)):IF (some a) (some pl) parts=if a.all (·.oneCell')=true then
   (match rX (λi=>pl[i]?) (a.map λz=>.p (.val z)) parts with
   |some cs=>some (True,yG cs)
   |none=>none)
  else none:=rfl
theorem QS(k:IntKind)(n:Int):Value.oneCell' (.int k n)=true:=rfl
theorem QT(b:Bool):Value.oneCell' (.bool b)=true:=rfl
theorem QU(b:ByteArray):Value.oneCell' (.string b)=true:=rfl
theorem QV(a:Option Addr)(n c:Nat):Value.oneCell' (.slice a n c)=true:=rfl
def C0(ty:Option (TypeId×Nat×Nat))(a b:AV)(H:az):Option (Prop×AV×az):=match ty with
 |some (d,g,f)=>(match a with
  | .row id c=>(match H id with
   | some (.row v e sz es) => if v = c ∧ e = d ∧ sz = g then (match vV H b with
     |some ns=>some ((es.length+ns.length) * f<=140737488355328/\∀x∈ns,x.length=sz,.row id (c+1),bn H id (.row (c+1) e sz (es++ns)))
     |none=>none)
    else none
   |_=>none)
  |_=>none)
 |none=>none
theorem IG(t1 t2:TypeId)(id a:Nat)(b:AV)(H:az):sB P t1 t2 (.row id a) b H=C0 (dA P t1 t2) (.row id a) b H:=by
 unfold sB ry qR C0;simp only[isNil];cases dA P t1 t2 with
 |none=>rfl
 |some x=>rfl
theorem QW(H:az)(ns:List (List PV)):vV H (.p (.aV ns))=some ns:=rfl
theorem QX(H:az)(a:Option Addr)(c:Nat):vV H (.p (.val (.slice a 0 c)))=some []:=rfl
theorem QY(H:az)(id a:Nat):vV H (.row id a)=rowOf H id a:=rfl
theorem II(c:TypeId)(f d:Nat)(id a:Nat)(b:AV)(H:az):C0 (some (c,f,d)) (.row id a) b H=(match H id with
   | some (.row v e sz es) => if v = a ∧ e = c ∧ sz = f then (match vV H b with
     |some ns=>some ((es.length+ns.length) * d<=140737488355328/\∀x∈ns,x.length=sz,.row id (a+1),bn H id (.row (a+1) e sz (es++ns)))
     |none=>none)
    else none
   |_=>none):=rfl
def BT(ty:Option (TypeId×Nat×Nat))(es:List (List PV))(H:az):Option (Prop×AV×az):=match ty with
 |some (_,sz,a)=>some (es.length * a<=140737488355328/\∀x∈es,x.length=sz,.p (.aV es),H)
 |none=>none
theorem QZ(c:TypeId)(b a:Nat)(es:List (List PV))(H:az):BT (some (c,b,a)) es H=some (es.length * a<=140737488355328/\∀x∈es,x.length=b,.p (.aV es),H):=rfl
theorem Q0(t1 t2:TypeId)(es:List (List PV))(H:az):sB P t1 t2 (.p .emp) (.p (.aV es)) H=BT (dA P t1 t2) es H:=by
 unfold sB ry qR BT;simp only[isNil];cases dA P t1 t2 with
 |none=>rfl
 |some x=>rfl
theorem Q1(t1 t2:TypeId)(es:List (List PV))(H:az):sB P t1 t2 (.p (.val (.slice none 0 0))) (.p (.aV es)) H=BT (dA P t1 t2) es H:=by
 unfold sB ry qR BT;simp only[isNil];cases dA P t1 t2 with
 |none=>rfl
 |some x=>rfl
theorem Q2(cs:List AV):yG cs=(match uj cs with|some a=>.p (.agg a)|none=>.agg cs):=rfl
theorem Q3:uj []=some []:=rfl
theorem Q4(x:PV)(r:List AV):uj (.p x :: r)=(match uj r with|some a=>some (x :: a)|none=>none):=rfl
theorem Q5(i v:Nat)(r:List AV):uj (.row i v :: r)=none:=rfl
theorem Q6(i v:Nat)(r:List AV):uj (.ptr i v :: r)=none:=rfl
theorem Q7(cs:List AV):b7 (.agg cs)=cs:=rfl
theorem Q8(cs:List PV):b7 (.p (.agg cs))=cs.map AV.p:=rfl
theorem Q9(v:Value):b7 (.p (.val v))=[.p (.val v)]:=rfl
theorem Ra(v:List (List PV)):b7 (.p (.aV v))=[.p (.aV v)]:=rfl
theorem Rb(i v:Nat):b7 (.row i v)=[.row i v]:=rfl
theorem Rc(i v:Nat):b7 (.ptr i v)=[.ptr i v]:=rfl
theorem Re(v:Value):oB (.p (.val v))=true:=rfl
theorem Rf(v:List (List PV)):oB (.p (.aV v))=true:=rfl
theorem Rg(i v:Nat):oB (.row i v)=true:=rfl
theorem Rh(i v:Nat):oB (.ptr i v)=true:=rfl
theorem su{α:Type}(cs:List α)(off:Nat)(new:List α):splice cs off new=cs.take off++new++cs.drop (off+new.length):=rfl
theorem Ri{env:Env}{H:az}(b:List ResultVar):BP P env H b=(match pS P env H b with
 |some a=>(match Am H a with
  |some (x,_)=>some x
  |none=>none)
 |none=>none):=rfl
theorem Rj{env:Env}{H:az}(r:ResultVar):pS P env H [r]=(match o3 P env H r with|some a=>some a|none=>none):=by simp only[pS,An];cases o3 P env H r<;>rfl
theorem Rk{env:Env}{H:az}(r s:ResultVar):pS P env H [r,s]=(match o3 P env H r with|some a=>(match o3 P env H s with|some b=>some (.dY [a,b])|none=>none)|none=>none):=by simp only[pS,An];cases o3 P env H r<;>cases o3 P env H s<;>rfl
theorem Rl{env:Env}{H:az}(r s t:ResultVar):pS P env H [r,s,t]=(match o3 P env H r with|some a=>(match o3 P env H s with|some b=>(match o3 P env H t with|some c=>some (.dY [a,b,c])|none=>none)|none=>none)|none=>none):=by simp only[pS,An];cases o3 P env H r<;>cases o3 P env H s<;>cases o3 P env H t<;>rfl
theorem Rm{env:Env}{H:az}(t:Tmp):o3 P env H (.tmp t)=some (env t):=rfl
def IJ(P:Program)(t:TypeId)(H:az)(a:AV):Option AV:=match a with
 | .ptr id off=>(match H id with
  |some (.box cs)=>tc P t cs off
  |_=>none)
 |_=>none
theorem Rn{env:Env}{H:az}(a:Tmp)(t:TypeId):o3 P env H (.cell a t)=IJ P t H (env a):=rfl
theorem Ro{H:az}(id off:Nat):IJ P t H (.ptr id off)=(match H id with
  |some (.box cs)=>tc P t cs off
  |_=>none):=rfl
theorem Rp(H:az)(x:PV):Am H (.p x)=some (x,false):=rfl
theorem Rq(H:az)(id a:Nat):Am H (.row id a)=qx H (.row id a):=rfl
theorem Rr(H:az)(cs:List AV):Am H (.agg cs)=(match eG (oE H) cs with
  |some (a,b)=>some (.agg a,b)
  |none=>none):=rfl
theorem Rs(H:az)(cs:List AV):Am H (.dY cs)=(match eG (ia H) cs with
  |some (a,b)=>some (.dY a,b)
  |none=>none):=rfl
theorem EX(H:az)(x:PV):ia H (.p x)=some (x,false):=rfl
theorem Rt(H:az)(id a:Nat):ia H (.row id a)=qx H (.row id a):=rfl
theorem Ru(H:az)(id off:Nat):ia H (.ptr id off)=oE H (.ptr id off):=rfl
theorem Rv(H:az)(cs:List AV):ia H (.agg cs)=(match eG (oE H) cs with
  |some (a,b)=>some (.agg a,b)
  |none=>none):=rfl
theorem Rw(H:az)(a:Fn)(e cs:List AV):ia H (.iT a e cs)=(match eG (oE H) e,eG (oE H) cs with
  |some (f,b),some (c,d)=>some (.iT a f c,b||d)
  |_,_=>none):=rfl
theorem Rx(H:az)(x:PV):oE H (.p x)=some (x,false):=rfl
theorem Ry(H:az)(id a:Nat):oE H (.row id a)=qx H (.row id a):=rfl
theorem Rz(H:az)(id off:Nat):oE H (.ptr id off)=(match H id with
  |some (.box cs)=>(match eG (vA H) cs with
   |some (a,_)=>some (.eF a off,true)
   |none=>none)
  |_=>none):=rfl
theorem RA(H:az)(id off:Nat):vA H (.ptr id off)=(match H id with
  |some (.box cs)=>(match eG (qx H) cs with
   |some (a,_)=>some (.eF a off,true)
   |none=>none)
  |_=>none):=rfl
theorem RB(H:az)(x:PV):vA H (.p x)=some (x,false):=rfl
theorem RC(H:az)(id a:Nat):qx H (.row id a)=(match H id with
  |some (.row v _ _ es)=>if v=a then some (.aV es,true) else none
  |some (.shut v es)=>if v=a then some (.aV es,false) else none
  |_=>none):=rfl
theorem RD(f:AV->Option (PV×Bool)):eG f []=some ([],false):=rfl
theorem RE(f:AV->Option (PV×Bool))(a:AV)(r:List AV):eG f (a :: r)=(match f a,eG f r with
  |some (x,b),some (xs,c)=>some (x :: xs,b||c)
  |_,_=>none):=rfl
theorem RF(a:Fn)(b cs:List AV):BJ a b cs=(match uj b,uj cs with
 |some f,some c=>.p (.iT a f c)
 |_,_=>.iT a b cs):=rfl
end
attribute [go_sem] O8 O9 Pa Pb Pc Pd Pe Pf Pg Ph Pj Pk Pm Pn Po Pp Pq Pr Pt Ou Ov Ow Ox Oy Oz OA OB OC OD OE OF OG OI OJ OH OK OL OO OP OQ OR OS OT OU OV OW OX OY OZ O0 O1 O2 QA QC QB O6 sV Iy O7 Pu Pv Pw Px Py Pz PA PB PC PD PE PF Nj Nk PG PI PJ PK PL PM PN PO PR PS PT PU PW P7 P8 P9 Qa Qb Qc Qd Qe Qf Qg Qh Qi Qj Qk Ql Qm Qn Qo Qp Qq Qr Qs Qt Qu Qv Qw Qx Qy Qz IB IC ID QD QE QF QG QH QI QJ QK QL QM QN QO QS QT QU QV IG QW QX PX P0 PY PZ P3 P4 P5 P6 Option.isNone_none Option.isNone_some QY II QZ Q0 Q1 Q2 Q3 Q4 Q5 Q6 Q7 Q8 Q9 Ra Rb Rc Re Rf Rg Rh su Ri Rj Rk Rl Rm Rn Ro Rp Rq Rr Rs EX Rt Ru Rv Rw Rx Ry Rz RB RA RC RD RE RF
attribute [go_sem] true_and and_true if_true if_false ite_true ite_false not_true_eq_false not_false_eq_true Bool.not_true Bool.not_false Bool.false_eq_true ne_eq Option.bind_some Option.bind_none Option.map_some Option.map_none List.map_cons List.map_nil List.length_cons List.length_nil List.drop_zero List.drop_succ_cons List.take_zero List.take_succ_cons List.cons_append List.nil_append List.append_nil List.drop_nil List.take_nil Nat.zero_add Nat.add_zero AV.p.injEq PV.val.injEq PV.aV.injEq PV.dY.injEq PV.agg.injEq Value.int.injEq Value.bool.injEq Value.string.injEq cG List.cons.injEq List.mem_cons List.not_mem_nil forall_eq_or_imp forall_eq or_false false_or and_self List.getElem?_toArray List.getElem?_cons_zero List.getElem?_cons_succ List.all_cons List.all_nil Bool.and_true Bool.true_and Bool.and_self Bool.or_false Bool.false_or Bool.false_and Bool.and_false Bool.or_true Bool.true_or beq_self_eq_true List.length_map List.length_append Int.ofNat_lt Int.natCast_nonneg Int.toNat_natCast List.append_assoc
variable{P:Program}{I:Mem}{L:bB}
mutual
def pT(H:az):AV->Prop
 | .p _=>True
 | .row id _=>H id≠none
 | .ptr id _=>H id≠none
 | .jD id _ _ _=>H id≠none
 | .agg cs=>nE H cs
 | .dY cs=>nE H cs
 | .iT _ a cs=>nE H a/\nE H cs
 | .eY id _=>H id≠none
 | .kX id _ _ _=>H id≠none
 | .kY id _ _=>H id≠none
 | .nR id _ _ _ _=>H id≠none
 | .eo id _=>H id≠none
 | .iV id _ _ _ _ _=>H id≠none
 | .dead=>True
def nE(H:az):List AV->Prop
 | []=>True
 |a :: r=>pT H a/\nE H r
end
theorem oF{H:az} : ∀ {cs:List AV},nE H cs->∀ (j:Nat) c,cs[j]? = some c->pT H c
 | [],_,j,c,h=>by simp at h
 |a :: r,h,j,c,b=>by
  cases j with
  |zero=>simp at b;subst b;exact h.1
  |succ j=>exact oF h.2 j c (by simpa using b)
def bB.to(L:bB)(H:az):bB:=λid=>match H id with
 |some _=>L id
 |none=>none
theorem mw{H:az}{id:Nat}(h:H id≠none):L.to H id=L id:=by
 unfold bB.to;cases a:H id with
 |none=>exact absurd a h
 |some c=>rfl
theorem to_eq{H:az}{id:Nat}{l:Loc}(h:L.to H id=some l):L id=some l/\∃c,H id=some c:=by
 unfold bB.to at h;cases a:H id with
 |none=>simp[a] at h
 |some c=>simp[a] at h;exact⟨h,c,rfl⟩
theorem eP.to{u:Value}{a:AV}(h:eP I L u a){H:az} : pT H a->eP I (L.to H) u a:=by
 induction h with
 |p u x h=>exact λ_=>.p u x h
 |row u id e v av sz hl f h g=>exact λd=>.row u id e v av sz ((mw d).trans hl) f h g
 |ptr id b off hl=>exact λd=>.ptr id b off ((mw d).trans hl)
 |jD u id e v i off av sz hl f h g=>exact λd=>.jD u id e v i off av sz ((mw d).trans hl) f h g
 |agg us cs hl _ A r=>exact λd=>.agg us cs hl (λj u c o k=>r j u c o k (oF d j c k)) A
 |dY us cs hl _ r=>exact λd=>.dY us cs hl (λj u c o k=>r j u c o k (oF d j c k))
 |iT s us vs t cs hl w _ _ r C=>exact λd=>.iT s us vs t cs hl w (λj u c o k=>r j u c o k (oF d.1 j c k)) (λj u c o k=>C j u c o k (oF d.2 j c k))
 |eY u id e v av sz q l n hl f h g=>exact λd=>.eY u id e v av sz q l n ((mw d).trans hl) f h g
 |kX u id e v i off av sz q l n hl f h g=>exact λd=>.kX u id e v i off av sz q l n ((mw d).trans hl) f h g
 |kY u id e v i av sz q l n hl f h g=>exact λd=>.kY u id e v i av sz q l n ((mw d).trans hl) f h g
 |nR u id e v i j off av sz q l n hl f h g=>exact λd=>.nR u id e v i j off av sz q l n ((mw d).trans hl) f h g
 |eo id b n hl=>exact λd=>.eo id b n ((mw d).trans hl)
 |iV a id e v off n m c av sz hl f z y B h=>exact λd=>.iV a id e v off n m c av sz ((mw d).trans hl) f z y B h
 |dead u=>exact λ_=>.dead u
def BU(a e:Env):Prop:=∀t,a t = .dead\/a t=e t
def Bj(e:Env)(H:az):Prop:=∀t,pT H (e t)
def pN(H' H:az):Prop:=∀id cs,H' id=some (.box cs)->nE H cs
theorem RG(e:Env):BU gv e:=λ_=>.inl rfl
theorem RH{a e:Env}{d:Nat}{v:AV}(h:BU a e)(c:e d=v):BU (cK a d v) e:=λt=>by
 unfold cK;split
 ·rename_i b;subst b;exact .inr c.symm
 ·exact h t
theorem RI(H:az):HSub cu H:=λ_ _ h=>by cases h
theorem RJ{H' H:az}{id:Nat}{c:Chunk}(h:HSub H' H)(d:H id=some c):HSub (bn H' id c) H:=λi b a=>by
 unfold bn at a;split at a
 ·rename_i e;subst e;simp at a;subst a;exact d
 ·exact h i b a
theorem RK(H:az):Bj gv H:=λ_=>trivial
theorem RL{e:Env}{H:az}{d:Nat}{v:AV}(h:Bj e H)(a:pT H v):Bj (cK e d v) H:=λt=>by
 unfold cK;split
 ·exact a
 ·exact h t
theorem RM(H:az):pN cu H:=λ_ _ h=>by cases h
theorem RN{H' H:az}{id:Nat}{cs:List AV}(h:pN H' H)(c:nE H cs):pN (bn H' id (.box cs)) H:=λi b a=>by
 unfold bn at a;split at a
 ·simp at a;subst a;exact c
 ·exact h i b a
theorem RO{H' H:az}{id v:Nat}{e:TypeId}{sz:Nat}{es:List (List PV)}(h:pN H' H):pN (bn H' id (.row v e sz es)) H:=λi b a=>by
 unfold bn at a;split at a
 ·simp at a
 ·exact h i b a
theorem RP{H' H:az}{id v:Nat}{es:List (List PV)}(h:pN H' H):pN (bn H' id (.shut v es)) H:=λi b a=>by
 unfold bn at a;split at a
 ·simp at a
 ·exact h i b a
theorem RQ{H' H:az}{id b:Nat}{o:Obj}(h:pN H' H):pN (bn H' id (.blk b o)) H:=λi c a=>by
 unfold bn at a;split at a
 ·simp at a
 ·exact h i c a
def mH(H H':az):Prop:=∀i,1000000<=i->H i≠none->H' i≠none
theorem IK(H':az):mH cu H':=λ_ _ h=>absurd rfl h
theorem IL{H H':az}{i:Nat}{c:Chunk}(d:i<1000000)(h:mH H H'):mH (bn H i c) H':=λj b a=>by refine h j b ?_;unfold bn at a;rw[if_neg (by omega)] at a;exact a
theorem RR{H H':az}{i:Nat}{c:Chunk}(b:H' i≠none)(h:mH H H'):mH (bn H i c) H':=λj d a=>by
 by_cases e:j=i
 ·rw[e];exact b
 ·refine h j d ?_;unfold bn at a;rw[if_neg e] at a;exact a
theorem RS{e r:Env}{H H':az}(M:BU r e)(N:HSub H' H)(O:Bj r H')(P:pN H' H')(Q:mH H H'):dw e H r H':=λC I L tm w a=>by
 refine⟨I,L.to H',?_⟩;exact
 {below:=a.below
  mem:=a.mem
  lH:=a.lH
  mF:=a.mF
  frame:=a.frame
  loc:=λi=>by
   cases s:C.L0 i with
   |none=>trivial
   |some E =>
    have d:=a.loc i;rw[s] at d;have S:L i≠none:=by
     cases E with
     |box b=>intro e;rw[e] at d;cases d
     |row v av sz=>obtain⟨_,_,d,_⟩:=d;intro e;rw[e] at d;cases d
     |deep v av sz Y B n=>obtain⟨_,_,_,_,d,_⟩:=d;intro e;rw[e] at d;cases d
    have R:H i≠none:=by
     cases D:L i with
     |none=>exact absurd D S
     |some l=>obtain⟨c,p⟩:=a.dom i l D;rw[p];simp
    have e:=mw (L:=L) (Q i (C.Ak i E s) R);rw[e];exact d
  jQ:=λid l b hl z=>a.jQ id l b (to_eq hl).1 z
  size:=a.size
  env:=λt=>by
   rcases M t with h|h
   ·rw[h];exact .dead _
   ·have:=a.env t;rw[<-h] at this;exact this.to (O t)
  dom:=λid l hl=>(to_eq hl).2
  chunk:=λid y A=>by
   have p:=a.chunk id y (N id y A);have q:L.to H' id=L id:=mw (by rw[A];simp);cases y with
   |box cs=>obtain⟨b,arr,e,f,m,F,G,J,K⟩:=p;exact⟨b,arr,e,q.trans f,m,F,λj u c U p=>(G j u c U p).to (oF (P id cs A) j c p),J,K⟩
   |row x e sz es=>obtain⟨av,us,f,m⟩:=p;exact⟨av,us,q.trans f,m⟩
   |shut x es=>obtain⟨av,sz,f,m⟩:=p;exact⟨av,sz,q.trans f,m⟩
   |blk b o=>obtain⟨f,m⟩:=p;exact⟨q.trans f,m⟩
   |tail x e sz es=>obtain⟨g,o,cap,arr,f,m⟩:=p;exact⟨g,o,cap,arr,q.trans f,m⟩
   |deep x e sz k r Y es=>obtain⟨av,us,B,f,m⟩:=p;exact⟨av,us,B,q.trans f,m⟩
  gh:=λid l b hl z=>a.gh id l b (to_eq hl).1 z
  apart:=λi j V W b s T X Z=>a.apart i j V W b (to_eq s).1 (to_eq T).1 X Z }
theorem jl{e:Env}{H:az}(t id:Nat)(ty:TypeId)(sz:Nat)(g:e t = .p (.val (.slice none 0 0)))(d:H id=none)(f:0<sz) :
  dw e H (cK e t (.row id 0)) (bn H id (.row 0 ty sz [])):=λC I L tm w a=>by
 obtain⟨n1,h,j⟩:=Ey a d ty f;have b:=h e tm a;refine⟨I,_,{ b with env:=λi=>?_ }⟩;unfold cK;split
 ·rename_i c;subst c;have:=a.env i;rw[g] at this;rw[this.eT.1];exact n1
 ·exact b.env i
theorem cz{e:Env}{H:az}(b off id:Nat)(ty:TypeId)(sz:Nat)(cs:List AV)(g:H b=some (.box cs))(D:cs[off]? = some (.p (.val (.slice none 0 0))))(q:H id=none)(E:0<sz) :
  dw e H e (bn (bn H id (.row 0 ty sz [])) b (.box (cs.set off (.row id 0)))):=λC I L tm w k=>by
 obtain⟨n1,F,G⟩:=Ey k q ty E;have m:=F e tm k;have B:b≠id:=λh=>by rw[h,q] at g;cases g
 obtain⟨blk,arr,s,t,v,x,o,y,z⟩:=k.chunk b _ g;refine⟨I,_,{ m with dom:=λi l hl=>?_,chunk:=λi n f=>?_ }⟩
 ·obtain⟨c,a⟩:=m.dom i l hl;by_cases d:i=b
  ·exact⟨.box (cs.set off (.row id 0)),by unfold bn;rw[if_pos d]⟩
  ·exact⟨c,by unfold bn at a ⊢;rw[if_neg d];exact a⟩
 ·by_cases d:i=b
  ·subst d;have:Chunk.box (cs.set off (.row id 0))=n:=by simpa[bn] using f
   subst this;refine⟨blk,arr,s,by simp[ct,B,t],v,by simpa using x,λj u c r a=>?_,y,z⟩;rw[List.getElem?_set] at a;split at a
   ·rename_i A;subst A;split at a
    ·simp at a;subst a;have:=o off u _ r D;rw[this.eT.1];exact n1
    ·cases a
   ·exact (o j u c r a).mono (Mem.ep I) G
  ·exact m.chunk i n (by unfold bn at f ⊢;rw[if_neg d] at f;exact f)
section
variable{N:Nat}{own:List Nat}{σ:Type}
def EY(b:σ->Env)(c:σ->az)(d:σ->Prop)(a:σ->Nat)(x:σ)(env:Env)(H:az):Prop:=∃y,d y/\a y<a x/\dw env H (b y) (c y)
def BV(a:σ->Env)(b:σ->az)(d:σ->Prop)(c:σ->Nat)(x:σ)(K:qP):qP:=λe env H=>match e with
 | .normal=>EY a b d c x env H
 |e=>K e env H
theorem RT{a:σ->Env}{b:σ->az}{d:σ->Prop}{c:σ->Nat}{x:σ}{K:qP}{env:Env}{H:az} : BV a b d c x K .normal env H=EY a b d c x env H:=rfl
theorem RU{a:σ->Env}{b:σ->az}{d:σ->Prop}{c:σ->Nat}{x:σ}{K:qP}{env:Env}{H:az}{id:Nat} : BV a b d c x K (.exit id) env H=K (.exit id) env H:=rfl
theorem RW{a:σ->Env}{b:σ->az}{d:σ->Prop}{c:σ->Nat}{x:σ}{K:qP}{env:Env}{H:az} : BV a b d c x K .ret env H=K .ret env H:=rfl
theorem bL{c:Code}{K:qP}{env:Env}{H:az}(b:σ->Env)(d:σ->az)(f:σ->Prop)(a:σ->Nat)(x0:σ)(l:f x0)(hw:dw env H (b x0) (d x0))
  (p:∀x,f x->cw P N own c (BV b d f a x K) (b x) (d x)):xg P N own c K env H:=by
 refine⟨λn e H=>∃x,f x/\a x=n/\e=b x/\H=d x,⟨a x0,_,_,⟨x0,l,rfl,rfl,rfl⟩,hw⟩,?_⟩;rintro n e H ⟨x,q,rfl,rfl,rfl⟩
 have o : (BV b d f a x K) = (fun z g H' => match z with
   | .normal=>∃m h H2,m<a x/\(∃x,f x/\a x=m/\h=b x/\H2=d x)/\dw g H' h H2
   |z=>K z g H'):=by
  funext z g H';cases z<;>try rfl
  apply propext;constructor
  ·rintro⟨y,i,j,k⟩;exact⟨a y,_,_,j,⟨y,i,rfl,rfl,rfl⟩,k⟩
  ·rintro⟨m,h,H2,i,⟨y,j,rfl,rfl,rfl⟩,k⟩;exact⟨y,j,i,k⟩
 have:=p x q;rw[o] at this;exact this
theorem bO{b:σ->Env}{c:σ->az}{d:σ->Prop}{a:σ->Nat}{x:σ}{env:Env}{H:az}(y:σ)(e:d y)(f:a y<a x)(g:dw env H (b y) (c y)):EY b c d a x env H:=⟨y,e,f,g⟩
end
attribute [go_sem] RT RU RW
end Go.cv
namespace Go.cv
open Go.RowKit
variable{P:Program}{o:Oper}{ρ ρ':Operand->AV}
theorem qQ{l:List (Nat×Operand)}(h:∀x∈l.map (·.2),ρ x=ρ' x):(l.map λx=>(x.1,ρ x.2))=l.map λx=>(x.1,ρ' x.2):=by apply List.map_congr_left;intro x a;rw[h x.2 (List.mem_map.2 ⟨x,a,rfl⟩)]
theorem IM(h:∀x∈o.op.operands,ρ x=ρ' x):oD P o ρ=oD P o ρ':=by
 unfold oD;cases k:o.op<;>simp only[k,Op.operands] at h ⊢
 case build t i=>rw[qQ (l:=i.toList) (λx a=>h x (by simpa using a))]
 case buildSlice t n i=>rw[qQ (l:=i.toList) (λx a=>h x (by simpa using a))]
 case makeFunc m f c =>
  have b:f.toList.map ρ=f.toList.map ρ':=List.map_congr_left λx a=>h x (by simp at a;simp[a])
  have d:c.toList.map ρ=c.toList.map ρ':=List.map_congr_left λx a=>h x (by simp at a;simp[a])
  rw[b,d]
 case slice t x lo e g =>
  rw[h x (by simp)];have b:lo.map ρ=lo.map ρ':=by
   cases lo with
   |none=>rfl
   |some y=>simp[h y (by simp)]
  have d:e.map ρ=e.map ρ':=by
   cases e with
   |none=>rfl
   |some y=>simp[h y (by simp)]
  have j:g.map ρ=g.map ρ':=by
   cases g with
   |none=>rfl
   |some y=>simp[h y (by simp)]
  rw[b,d,j]
 case call c =>
  have b:c.args.toList.map ρ=c.args.toList.map ρ':=List.map_congr_left λx a=>h x (by simp at a;simp[Call.operands,a])
  rw[b]
 all_goals first
  |rfl
  |(simp at h;simp[h])
theorem RX{H:az}(h:∀x∈o.op.operands,ρ x=ρ' x):nB P o ρ H=nB P o ρ' H:=by
 unfold nB;cases d:o.op<;>simp only[d,Op.operands] at h ⊢
 case call c =>
  have b:c.args.toList.map ρ=c.args.toList.map ρ':=List.map_congr_left λx a=>h x (by simp at a;simp[Call.operands,a])
  rw[b]
 all_goals first
  |rfl
  |(simp at h;simp[h])
theorem RY{H:az}(h:∀x∈o.op.operands,ρ x=ρ' x):xM P o ρ H=xM P o ρ' H:=by
 unfold xM;cases d:o.op<;>simp only[d,Op.operands] at h ⊢
 case call c =>
  have b:c.args.toList.map ρ=c.args.toList.map ρ':=List.map_congr_left λx a=>h x (by simp at a;simp[Call.operands,a])
  rw[b]
 all_goals first
  |rfl
  |(simp at h;simp[h])
theorem RZ{H:az}(h:∀x∈o.op.operands,ρ x=ρ' x):yZ P o ρ H=yZ P o ρ' H:=by
 unfold yZ;cases a:o.op<;>simp only[a,Op.operands] at h ⊢
 case indexAddr t x i=>rw[h x (by simp),h i (by simp)]
theorem R1{H:az}(h:∀x∈o.op.operands,ρ x=ρ' x):sS P o ρ H=sS P o ρ' H:=by unfold sS;rw[RX h,RY h,RZ h]
theorem R2{H:az}(h:∀x∈o.op.operands,ρ x=ρ' x):wU P o ρ H=wU P o ρ' H:=by
 unfold wU;cases d:o.op<;>simp only[d,Op.operands] at h ⊢
 case call c =>
  have b:c.args.toList.map ρ=c.args.toList.map ρ':=List.map_congr_left λx a=>h x (by simp at a;simp[Call.operands,a])
  rw[b]
 all_goals first
  |rfl
  |(simp at h;simp[h])
theorem R3{H:az}(h:∀x∈o.op.operands,ρ x=ρ' x):xR P o ρ H=xR P o ρ' H:=by
 unfold xR;cases a:o.op<;>simp only[a,Op.operands] at h ⊢
 case buildSlice t n c=>rw[qQ (l:=c.toList) (λx b=>h x (by simpa using b))]
theorem R4{H:az}{d:Nat}(h:∀x∈o.op.operands,ρ x=ρ' x):kB P o ρ H d=kB P o ρ' H d:=by
 unfold kB;cases H d with
 |some _=>rfl
 |none =>
  simp only[];cases e:o.op<;>simp only[e,Op.operands] at h ⊢
  case buildSlice t n f=>rw[qQ (l:=f.toList) (λx a=>h x (by simpa using a))]
  case call c =>
   have b:c.args.toList.map ρ=c.args.toList.map ρ':=List.map_congr_left λx a=>h x (by simp at a;simp[Call.operands,a])
   rw[b]
  all_goals(simp at h;simp[h])
theorem C1{H:az}(h:∀x∈o.op.operands,ρ x=ρ' x):gi P o ρ H=gi P o ρ' H:=by unfold gi;rw[IM h,R1 h,R2 h,R3 h]
theorem vY{own:List Nat}{H:az}(h:∀x∈o.op.operands,ρ x=ρ' x):gC P own o ρ H=gC P own o ρ' H:=by
 unfold gC;rw[C1 h];cases o.dst with
 |none=>rfl
 |some d=>simp only[R4 h]
theorem zM(h:∀x∈o.op.operands,ρ x=ρ' x):dL o ρ=dL o ρ':=by
 unfold dL;cases e:o.op<;>simp only[e,Op.operands] at h ⊢
 case call c =>
  have b:c.args.toList.map ρ=c.args.toList.map ρ':=List.map_congr_left λx a=>h x (by simp at a;simp[Call.operands,a])
  rw[b];cases d:c.callee with
  |value f=>have:ρ f=ρ' f:=h f (by simp[Call.operands,d]);simp only[this]
  |_=>rfl
theorem vZ{H:az}{x:PV}(h:∀x∈o.op.operands,ρ x=ρ' x)(d:zx P o ρ H x):zx P o ρ' H x:=by obtain⟨k,fe,e,b,a,c⟩:=d;exact⟨k,fe,e,b,(zM h) ▸ a,c⟩
def bQ(own:List Nat)(o:Oper):Bool:=(match o.dst with
 |some d=>!own.contains d
 |none=>true)&&match o.op with
 | .store .. | .alloc _ | .box .. | .buildSlice ..=>false
 | .call c=>match c.callee with
  | .builtin .append=>false
  |_=>true
 |_=>true
def uZ(own:List Nat)(o:Oper):Bool:=(match o.dst with
 |some d=>!own.contains d
 |none=>true)&&match o.op with
 | .move _ | .assign _ | .pick .. | .extract .. | .binOp .. | .unOp .. | .convert .. | .makeFunc .. | .build .. | .index .. | .slice .. | .nilCheck _=>true
 |_=>false
theorem kG{own:List Nat}{H:az}(h:(match o.dst with
 |some d=>!own.contains d
 |none=>true)=true):gC P own o ρ H=gi P o ρ H:=by
 unfold gC;cases a:o.dst with
 |none=>rfl
 |some d =>
  rw[a] at h;have:own.contains d=false:=by simpa using h
  simp only[this];try rfl
theorem tg{own:List Nat}{H H':az}{pre:Prop}{v:AV}(d:bQ own o=true)(h:gC P own o ρ H=some (pre,v,H')):H'=H:=by
 unfold bQ at d;rw[Bool.and_eq_true] at d;rw[kG d.1] at h;have a:=d.2;unfold gi at h;split at h
 ·simp at h;exact h.2.2.symm
 ·split at h
  ·simp at h;exact h.2.2.symm
  ·exfalso;have hw:wU P o ρ H=none:=by
    unfold wU;cases e:o.op<;>simp only[e] at a ⊢<;>try (cases a;done)
    case call c =>
     cases f:c.callee with
     |builtin b=>rw[f] at a;cases b<;>first|rfl|cases a
     |_=>rfl
   have g:xR P o ρ H=none:=by
    unfold xR;cases e:o.op<;>simp only[e] at a ⊢
    cases a
   rw[hw,g] at h;cases h
theorem IN{own:List Nat}{H:az}(c:uZ own o=true):gi P o ρ H=match oD P o ρ with
  |some (pre,v)=>some (pre,v,H)
  |none=>none:=by
 unfold uZ at c;rw[Bool.and_eq_true] at c;have a:=c.2;unfold gi;cases g:oD P o ρ with
 |some r=>rfl
 |none =>
  have d:sS P o ρ H=none:=by unfold sS nB xM yZ;cases b:o.op<;>simp only[b] at a ⊢<;>cases a
  have e:wU P o ρ H=none:=by unfold wU;cases b:o.op<;>simp only[b] at a ⊢<;>cases a
  have f:xR P o ρ H=none:=by unfold xR;cases b:o.op<;>simp only[b] at a ⊢<;>cases a
  rw[d,e,f]
theorem IP{own:List Nat}{H:az}(a:uZ own o=true):gC P own o ρ H=match oD P o ρ with
  |some (pre,v)=>some (pre,v,H)
  |none=>none:=by
 have b:=a;unfold uZ at a;rw[Bool.and_eq_true] at a;rw[kG a.1];exact IN b
theorem IQ{own:List Nat}(a:uZ own o=true):dL o ρ=none:=by
 unfold uZ at a;rw[Bool.and_eq_true] at a;have b:=a.2;unfold dL;cases c:o.op<;>simp only[c] at b ⊢
 cases b
def nH(o:Oper):Bool:=match o.op with
 | .alloc _ | .box ..=>false
 |_=>true
theorem IS:∀ids,eH ids cu=cu
 | []=>rfl
 |_ :: r=>IS r
theorem R5{pre:Prop}{v:AV}{H':az}(j:nH o=true)(h:gi P o ρ cu=some (pre,v,H')):oD P o ρ=some (pre,v):=by
 unfold gi at h;split at h
 ·rename_i f;simp only[cG,iU] at h;obtain⟨rfl,rfl,_⟩:=h;exact f
 ·rename_i f;exfalso;have l:nB P o ρ cu=none:=by
   unfold nB;cases d:o.op<;>simp only[]
   case load t a=>cases ρ a<;>rfl
   case fieldAddr s a k=>cases ρ a<;>cases bM P s k<;>rfl
   case indexAddr t x i =>
    cases ρ x<;>try rfl
    cases ρ i<;>try rfl
    rename_i x;cases x<;>try rfl
    rename_i z;cases z<;>rfl
   case call c =>
    split
    ·rfl
    ·rfl
  have u:xM P o ρ cu=none:=by
   unfold xM;cases d:o.op<;>simp only[]
   case load t a=>cases ρ a<;>rfl
   case fieldAddr s a k=>cases ρ a<;>cases bM P s k<;>rfl
   case indexAddr t x i =>
    cases ρ x<;>try rfl
    all_goals
     cases ρ i<;>try rfl
     rename_i x;cases x<;>try rfl
     rename_i z;cases z<;>rfl
   case call c=>split<;>rfl
  have w:yZ P o ρ cu=none:=by
   unfold yZ;cases d:o.op<;>simp only[]
   case indexAddr t x i =>
    cases ρ x<;>try rfl
    cases ρ i<;>try rfl
    rename_i x;cases x<;>try rfl
    rename_i z;cases z<;>rfl
  have m:sS P o ρ cu=none:=by unfold sS;rw[l,u,w]
  have p:wU P o ρ cu=none:=by
   unfold wU;cases d:o.op<;>simp only[nH,d] at j ⊢<;>try (cases j;done)
   case store t a x =>
    cases bu P t with
    |none=>rfl
    |some n =>
     simp only[];split
     ·cases ρ a<;>simp only[cu]
     ·rfl
   case call c =>
    split
    ·rename_i t1 t2 a b _ _ _;unfold qR;cases a<;>try rfl
     cases dA P t1 t2<;>rfl
    ·rfl
  have q:xR P o ρ cu=none:=by
   unfold xR;cases d:o.op<;>simp only[]
   case buildSlice t n g =>
    rw[IS];have:((g.toList.map λx=>(x.1,ρ x.2)).map λx=>(x.1,yH cu x.2))=g.toList.map λx=>(x.1,ρ x.2):=by rw[List.map_map];apply List.map_congr_left;intro x _;have:yH cu (ρ x.2)=ρ x.2:=Ob _;simp[this]
    rw[this];unfold oD at f;simp only[d] at f;cases y:mu P t n (g.toList.map λx=>(x.1,ρ x.2)) with
    |none=>rfl
    |some r=>obtain⟨e,es⟩:=r;rw[y] at f;cases n<;>simp at f
  rw[m,p,q] at h;cases h
theorem EZ{own:List Nat}{H:az}(e:bQ own o=true):gi P o ρ H=match oD P o ρ with
  |some (pre,v)=>some (pre,v,H)
  |none=>(match sS P o ρ H with
   |some (pre,v)=>some (pre,v,H)
   |none=>none):=by
 unfold bQ at e;rw[Bool.and_eq_true] at e;have a:=e.2;unfold gi;cases h:oD P o ρ with
 |some r=>rfl
 |none =>
  cases i:sS P o ρ H with
  |some r=>rfl
  |none =>
   have hw:wU P o ρ H=none:=by
    unfold wU;cases d:o.op<;>simp only[d] at a ⊢<;>try (cases a;done)
    case call c =>
     cases f:c.callee with
     |builtin b=>rw[f] at a;cases b<;>first|rfl|cases a
     |_=>rfl
   have g:xR P o ρ H=none:=by
    unfold xR;cases d:o.op<;>simp only[d] at a ⊢
    cases a
   rw[hw,g]
theorem C2{H H':az}(h:HSub H H'){id d:Nat}{es:List (List PV)}(a:rowOf H id d=some es):rowOf H' id d=some es:=by
 unfold rowOf at a ⊢;cases b:H id with
 |none=>rw[b] at a;cases a
 |some c=>rw[h id c b];rw[b] at a;exact a
theorem R6{H H':az}(h:HSub H H'){r:Prop×AV}(b:nB P o ρ H=some r):nB P o ρ H'=some r:=by
 unfold nB at b ⊢;cases m:o.op<;>simp only[m] at b ⊢<;>try (cases b;done)
 case load t a =>
  cases j:ρ a<;>simp only[j] at b ⊢<;>try (cases b;done)
  case ptr id off =>
   cases g:H id with
   |none=>rw[g] at b;cases b
   |some c=>rw[h id c g];rw[g] at b;exact b
  case jD id e i off =>
   cases d:rowOf H id e with
   |none=>rw[d] at b;cases b
   |some es=>rw[C2 h d];rw[d] at b;exact b
 case fieldAddr s a k =>
  cases j:ρ a<;>simp only[j] at b ⊢<;>try (cases b;done)
  case jD id e i off =>
   cases l:bM P s k with
   |none=>rw[l] at b;cases b
   |some f =>
    rw[l] at b;cases d:rowOf H id e with
    |none=>simp only[d] at b;cases b
    |some es=>simp only[C2 h d];simp only[d] at b;exact b
 case indexAddr t x i =>
  split at b
  ·rename_i id e k n v w;cases d:rowOf H id e with
   |none=>rw[d] at b;cases b
   |some es=>rw[C2 h d];rw[d] at b;exact b
  ·cases b
 case call c =>
  split at b
  ·rename_i t id e p q u;cases d:rowOf H id e with
   |none=>rw[d] at b;cases b
   |some es=>rw[C2 h d];rw[d] at b;exact b
  ·cases b
theorem sv{H H':az}(h:HSub H H'){id d:Nat}{r:Nat×List (List PV)}(a:cU H id d=some r):cU H' id d=some r:=by
 unfold cU at a ⊢;cases b:H id with
 |none=>rw[b] at a;cases a
 |some c=>rw[h id c b];rw[b] at a;exact a
theorem C3{H H':az}(h:HSub H H'){id a i:Nat}{l:List (List PV)}(c:nS (cU H id a) i=some l):nS (cU H' id a) i=some l:=by
 cases b:cU H id a with
 |none=>rw[b] at c;cases c
 |some r=>rw[sv h b,<-b];exact c
theorem R7{H H':az}(h:HSub H H'){r:Prop×AV}(b:xM P o ρ H=some r):xM P o ρ H'=some r:=by
 unfold xM at b ⊢;cases v:o.op<;>simp only[v] at b ⊢<;>try (cases b;done)
 case load t a =>
  cases g:ρ a<;>simp only[g] at b ⊢<;>try (cases b;done)
  case kX id e i off =>
   cases d:cU H id e with
   |none=>rw[d] at b;cases b
   |some c=>rw[sv h d];rw[d] at b;exact b
  case nR id e i j off =>
   cases d:nS (cU H id e) i with
   |none=>rw[d] at b;cases b
   |some es=>rw[C3 h d];rw[d] at b;exact b
 case fieldAddr s a k =>
  cases g:ρ a<;>simp only[g] at b ⊢<;>try (cases b;done)
  case kX id e i off =>
   cases m:bM P s k with
   |none=>rw[m] at b;cases b
   |some f =>
    rw[m] at b;cases d:cU H id e with
    |none=>simp only[d] at b;cases b
    |some es=>simp only[sv h d];simp only[d] at b;exact b
 case indexAddr t x i =>
  split at b
  ·rename_i id e k n w y;cases d:cU H id e with
   |none=>rw[d] at b;cases b
   |some es=>rw[sv h d];rw[d] at b;exact b
  ·rename_i id e l k n w y;cases d:nS (cU H id e) l with
   |none=>rw[d] at b;cases b
   |some es=>rw[C3 h d];rw[d] at b;exact b
  ·cases b
 case call c =>
  split at b
  ·rename_i t id e p q u;cases d:cU H id e with
   |none=>rw[d] at b;cases b
   |some es=>rw[sv h d];rw[d] at b;exact b
  ·rename_i t id e l p q u;cases d:nS (cU H id e) l with
   |none=>rw[d] at b;cases b
   |some es=>rw[C3 h d];rw[d] at b;exact b
  ·cases b
theorem R8{H G:az}{r:Prop×AV}(b:xM P o ρ H=some r):nB P o ρ G=none:=by
 unfold xM at b;unfold nB;cases m:o.op<;>simp only[m] at b ⊢<;>try (cases b;done)
 case load t a=>cases f:ρ a<;>simp only[f] at b ⊢<;>(cases b;done)
 case fieldAddr s a k=>cases f:ρ a<;>simp only[f] at b ⊢<;>(cases b;done)
 case indexAddr t x i =>
  split at b
  ·rename_i id d k n g p;rw[g]
  ·rename_i id d q k n g p;rw[g]
  ·cases b
 case call c =>
  split at b
  ·rename_i t id d j l e;rw[e];split
   ·rename_i h;cases h
   ·rfl
  ·rename_i t id d q j l e;rw[e];split
   ·rename_i h;cases h
   ·rfl
  ·cases b
theorem R9{H H':az}(h:HSub H H'){id d:Nat}{r:Nat×List (List PV)}(a:r0 H id d=some r):r0 H' id d=some r:=by
 unfold r0 at a ⊢;cases b:H id with
 |none=>rw[b] at a;cases a
 |some c=>rw[h id c b];rw[b] at a;exact a
theorem Sa{H H':az}(h:HSub H H'){r:Prop×AV}(a:yZ P o ρ H=some r):yZ P o ρ H'=some r:=by
 unfold yZ at a ⊢;cases d:o.op<;>simp only[d] at a ⊢<;>try (cases a;done)
 case indexAddr t x i =>
  split at a
  ·rename_i id c off m _ _ k n e f;cases b:r0 H id c with
   |none=>rw[b] at a;cases a
   |some es=>rw[R9 h b];rw[b] at a;exact a
  ·cases a
theorem Sb{H G:az}{r:Prop×AV}(a:yZ P o ρ H=some r):nB P o ρ G=none/\xM P o ρ G=none:=by
 unfold yZ at a;unfold nB xM;cases b:o.op<;>simp only[b] at a ⊢<;>try (cases a;done)
 case indexAddr t x i =>
  split at a
  ·rename_i id d off m _ _ k n c e;rw[c];exact⟨rfl,rfl⟩
  ·cases a
theorem Sc{H H':az}(h:HSub H H'){r:Prop×AV}(a:sS P o ρ H=some r):sS P o ρ H'=some r:=by
 unfold sS at a ⊢;split at a
 ·rename_i f e;rw[R6 h e];exact a
 ·split at a
  ·rename_i f b;rw[R8 b,R7 h b];exact a
  ·obtain⟨c,d⟩:=Sb (G:=H') a;rw[c,d];exact Sa h a
theorem pU{own:List Nat}{H H':az}(h:HSub H H')(d:bQ own o=true){pre:Prop}{v:AV}(a:gi P o ρ H=some (pre,v,H)):gi P o ρ H'=some (pre,v,H'):=by
 rw[EZ d] at a ⊢;cases c:oD P o ρ with
 |some r=>rw[c] at a;simp only[cG,iU] at a ⊢;exact⟨a.1,a.2.1,trivial⟩
 |none =>
  rw[c] at a;cases b:sS P o ρ H with
  |none=>rw[b] at a;cases a
  |some r=>rw[b] at a;rw[Sc h b];simp only[cG,iU] at a ⊢;exact⟨a.1,a.2.1,trivial⟩
theorem E0{H H':az}(h:HSub H H'):∀ {a:AV} {r:PV×Bool},qx H a=some r->qx H' a=some r
 | .row id e,r,b=>by
  simp only[qx] at b ⊢;cases f:H id with
  |none=>rw[f] at b;cases b
  |some c=>rw[h id c f];rw[f] at b;exact b
 | .p _,_,b=>b
 | .ptr _ _,_,b=>by cases b
 | .jD _ _ _ _,_,b=>by cases b
 | .agg _,_,b=>by cases b
 | .dY _,_,b=>by cases b
 | .iT _ _ _,_,b=>by cases b
 | .eY id e,r,b=>by
  simp only[qx] at b ⊢;cases d:cU H id e with
  |none=>rw[d] at b;cases b
  |some c=>rw[sv h d];rw[d] at b;exact b
 | .kY id e i,r,b=>by
  simp only[qx] at b ⊢;cases d:nS (cU H id e) i with
  |none=>rw[d] at b;cases b
  |some c=>rw[C3 h d];rw[d] at b;exact b
 | .kX _ _ _ _,_,b=>by cases b
 | .nR _ _ _ _ _,_,b=>by cases b
 | .eo _ _,_,b=>by cases b
 | .iV _ _ _ _ _ _,_,b=>by cases b
 | .dead,_,b=>by cases b
theorem oV{f g:AV->Option (PV×Bool)}(d:∀a r,f a=some r->g a=some r):∀ {fe:List AV} {r:List PV×Bool},eG f fe=some r->eG g fe=some r
 | [],r,b=>b
 |a :: fe,r,b=>by
  unfold eG at b ⊢;cases c:f a with
  |none=>rw[c] at b;cases b
  |some x =>
   rw[c] at b;rw[d a x c];cases hl:eG f fe with
   |none=>rw[hl] at b;cases b
   |some y=>rw[oV d hl];rw[hl] at b;exact b
theorem Sd{H H':az}(h:HSub H H'){a:AV}{r:PV×Bool}(b:vA H a=some r):vA H' a=some r:=by
 unfold vA at b ⊢;cases a<;>try exact E0 h b
 case ptr id off =>
  simp only[] at b ⊢;cases d:H id with
  |none=>rw[d] at b;cases b
  |some c =>
   rw[h id c d];rw[d] at b;cases c<;>simp only[] at b ⊢<;>try (cases b;done)
   case box cs =>
    cases hl:eG (qx H) cs with
    |none=>rw[hl] at b;cases b
    |some y=>rw[oV (λa r=>E0 h) hl];rw[hl] at b;exact b
theorem wZ{H H':az}(h:HSub H H'){a:AV}{r:PV×Bool}(b:oE H a=some r):oE H' a=some r:=by
 unfold oE at b ⊢;cases a<;>try exact E0 h b
 case ptr id off =>
  simp only[] at b ⊢;cases d:H id with
  |none=>rw[d] at b;cases b
  |some c =>
   rw[h id c d];rw[d] at b;cases c<;>simp only[] at b ⊢<;>try (cases b;done)
   case box cs =>
    cases hl:eG (vA H) cs with
    |none=>rw[hl] at b;cases b
    |some y=>rw[oV (λa r=>Sd h) hl];rw[hl] at b;exact b
theorem IT{H H':az}(h:HSub H H'){a:AV}{r:PV×Bool}(b:ia H a=some r):ia H' a=some r:=by
 unfold ia at b ⊢;cases a<;>try exact wZ h b
 case agg cs =>
  simp only[] at b ⊢;cases hl:eG (oE H) cs with
  |none=>rw[hl] at b;cases b
  |some y=>rw[oV (λa r=>wZ h) hl];rw[hl] at b;exact b
 case dY cs =>
  simp only[] at b ⊢;cases hl:eG (oE H) cs with
  |none=>rw[hl] at b;cases b
  |some y=>rw[oV (λa r=>wZ h) hl];rw[hl] at b;exact b
 case iT e d cs =>
  simp only[] at b ⊢;cases c:eG (oE H) d with
  |none=>rw[c] at b;cases b
  |some x =>
   rw[oV (λa r=>wZ h) c];rw[c] at b;cases hl:eG (oE H) cs with
   |none=>rw[hl] at b;cases b
   |some y=>rw[oV (λa r=>wZ h) hl];rw[hl] at b;exact b
theorem E1{H H':az}(h:HSub H H'){x:PV}(g:zx P o ρ H x):zx P o ρ H' x:=by obtain⟨k,fe,i,b,c,d,e,f⟩:=g;exact⟨k,fe,i,b,c,oV (λa r=>IT h) d,e,f⟩
theorem E2{own:List Nat}{H:az}(d:bQ own o=true){x:PV}{G:az}(e:zx P o ρ G x):gC P own o ρ H=none:=by
 obtain⟨k,fe,m,b,a,i,j,l⟩:=e;have h:=d;unfold bQ at d;rw[Bool.and_eq_true] at d;rw[kG d.1,EZ h];unfold dL at a;split at a
 ·rename_i c g;split at a
  ·rename_i f e;unfold oD sS nB xM yZ;simp only[g,e]
  ·cases a
 ·cases a
def Bk(own:List Nat)(o:Oper):Bool:=match o.op with
 | .buildSlice .. | .makeSlice ..=>(match o.dst with
  |some d=>own.contains d
  |none=>false)
 | .alloc _ | .box ..=>true
 |_=>false
theorem E3{H:az}{d:Nat}(b:H d=none)(c:Chunk):HSub H (bn H d c):=λid x a=>by
 unfold bn;split
 ·rename_i e;rw[e,b] at a;cases a
 ·exact a
theorem IU{H H':az}{pre:Prop}{v:AV}{d:Nat}(h:kB P o ρ H d=some (pre,v,H')):HSub H H':=by
  unfold kB at h;cases a:H d with
  |some c=>rw[a] at h;cases h
  |none =>
    rw[a] at h;simp only[] at h
    repeat' split at h
    all_goals first
      |(cases h;done)
      | (simp only [cG, iU] at h
         obtain⟨_,_,b⟩:=h;rw[<-b];exact E3 a _)
theorem IV{H H':az}{pre:Prop}{v:AV}(b:(match o.op with | .alloc _ | .box ..=>true|_=>false)=true)(h:gi P o ρ H=some (pre,v,H')):HSub H H':=by
 unfold gi at h;split at h
 ·simp only[cG,iU] at h;rw[<-h.2.2];exact λ_ _ h=>h
 ·split at h
  ·simp only[cG,iU] at h;rw[<-h.2.2];exact λ_ _ h=>h
  ·have f:xR P o ρ H=none:=by unfold xR;cases d:o.op<;>simp only[d] at b ⊢<;>cases b
   rw[f] at h;split at h
   ·rename_i r a;simp only[cG] at h;subst h;unfold wU at a;cases d:o.op<;>simp only[d] at b a<;>try (cases b;done)
    case alloc e =>
     split at a
     ·split at a
      ·rename_i c _;split at a
       ·simp only[cG,iU] at a;rw[<-a.2.2];exact E3 c _
       ·cases a
      ·cases a
     ·cases a
    case box e x =>
     split at a
     ·split at a
      ·rename_i c;split at a
       ·simp only[cG,iU] at a;rw[<-a.2.2];exact E3 c _
       ·cases a
      ·cases a
     ·cases a
   ·cases h
theorem IW{own:List Nat}{H H':az}{pre:Prop}{v:AV}(a:Bk own o=true)(h:gC P own o ρ H=some (pre,v,H')):HSub H H':=by
 have g:∀d,o.dst=some d->own.contains d=true->isApp o.op=false->HSub H H':=λd b f e=>by
  unfold gC at h;simp only[b,f,if_true,e] at h;unfold oy at h;split at h
  ·rename_i l;exact IU (l.trans h)
  ·rename_i k;cases k
  ·cases h
 have i:(match o.op with | .alloc _ | .box ..=>true|_=>false)=true->isApp o.op=false->HSub H H':=λj e=>by
  unfold gC at h;split at h
  ·rename_i d b;split at h
   ·rename_i f;exact g d b f e
   ·exact IV j h
  ·exact IV j h
 unfold Bk at a;cases c:o.op<;>simp only[c] at a<;>try (cases a;done)
 case buildSlice =>
  split at a
  ·rename_i d b;exact g d b a (by rw[c];rfl)
  ·cases a
 case makeSlice =>
  split at a
  ·rename_i d b;exact g d b a (by rw[c];rfl)
  ·cases a
 case alloc=>exact i (by rw[c]) (by rw[c];rfl)
 case box=>exact i (by rw[c]) (by rw[c];rfl)
def tJ(H:az):az:=λid=>match H id with
 |some (.box cs)=>some (.box cs)
 |_=>none
theorem IX(H:az):HSub (tJ H) H:=λid c h=>by
 unfold tJ at h;split at h
 ·rename_i cs a;rw[a];exact h
 ·cases h
def E4(o:Oper):Bool:=isApp o.op
theorem C4{H H':az}(h:HSub H H'):HSub (tJ H) (tJ H'):=λid c a=>by
 have:=h id c (IX H id c a);unfold tJ at a ⊢;split at a
 ·rename_i cs b;rw[h id _ b];exact a
 ·cases a
theorem E5{H H':az}{pre:Prop}{v:AV}(k:isApp o.op=true)(h:gi P o ρ H=some (pre,v,H')):HSub (tJ H) (tJ H'):=by
 have d:=k;unfold isApp at d;unfold gi at h;split at h
 ·simp only[cG,iU] at h;rw[<-h.2.2];exact λ_ _ h=>h
 ·split at h
  ·simp only[cG,iU] at h;rw[<-h.2.2];exact λ_ _ h=>h
  ·cases e:o.op<;>simp only[e] at d<;>try (cases d;done)
   case call c =>
    have l:xR P o ρ H=none:=by unfold xR;simp only[e]
    rw[l] at h;unfold wU at h;simp only[e] at h;split at h
    ·rename_i r a;split at a
     ·unfold qR at a;split at a
      ·rename_i id m _ _ _ _ _;cases b:H id with
       |none=>rw[b] at a;cases a
       |some j =>
        rw[b] at a;cases j<;>simp only[] at a<;>try (cases a;done)
        split at a
        ·split at a
         ·simp only[cG] at a h;subst a;simp only[iU] at h;rw[<-h.2.2];intro i n f;unfold tJ bn at *;by_cases g:i=id
          ·rw[g,b] at f;cases f
          ·rw[if_neg g];exact f
         ·cases a
        ·cases a
      ·cases a
     ·cases a
    ·cases h
theorem IY{own:List Nat}{H H':az}{pre:Prop}{v:AV}(a:E4 o=true)(h:gC P own o ρ H=some (pre,v,H')):HSub (tJ H) (tJ H'):=by
 unfold gC at h;split at h
 ·split at h
  ·unfold oy at h;split at h
   ·rename_i b;exact C4 (IU (b.trans h))
   ·exact E5 a h
   ·cases h
  ·exact E5 a h
 ·exact E5 a h
end Go.cv
namespace Go.cv
open Go.RowKit
variable{P:Program}{N:Nat}{own:List Nat}{ops:Array Oper}{K:Env->az->Prop}{tl:Nat->Bool}
inductive oU where
 |p|b|q|w|o|s|f|t
def me(own:List Nat)(ops:Array Oper)(d:Nat):Bool:=(ops.toList.any λo=>o.dst == some d&&match o.op with
 | .alloc _=>true
 | .box ..=>true
 | .buildSlice ..=>true
 | .makeSlice ..=>true
 |_=>false)||own.contains (2000000+d)
def appArg:Op->Option (Nat×Operand)
 | .call c=>(match c.callee,c.args.toList,c.argTypes.toList with
  | .builtin .append,[.tmp a,s],[_,_]=>some (a,s)
  |_,_,_=>none)
 |_=>none
theorem zS{o:Op}{a:Nat}{s:Operand}(h:appArg o=some (a,s)):∃t1 t2,o = .call ⟨.builtin .append,#[.tmp a,s],#[t1,t2]⟩:=by
 unfold appArg at h;split at h
 ·rename_i c;obtain⟨i,e,f⟩:=c;simp only at h;split at h
  ·rename_i g j t1 t2 b d;simp only[cG,iU] at h;obtain⟨rfl,rfl⟩:=h;refine⟨t1,t2,?_⟩;cases e;cases f;simp only at b d;subst b d;rfl
  ·cases h
 ·cases h
def qo:List Nat->Nat->Nat
 | [],a=>a
 |c :: r,a=>if 9000000<=c then (if (c-9000000) / 1000=a then 1000000+(c-9000000) % 1000 else qo r a) else qo r a
theorem Se(a:Nat):qo [] a=a:=rfl
theorem Sf(c:Nat)(r:List Nat)(a:Nat):qo (c :: r) a=if 9000000<=c then (if (c-9000000) / 1000=a then 1000000+(c-9000000) % 1000 else qo r a) else qo r a:=rfl
def zY(own:List Nat)(ops:Array Oper)(o:Oper):Option Nat:=match appArg o.op with
 |some (a,_)=>if ((own.contains a||qo own a != a)&&me own ops (qo own a))=true then some (qo own a) else none
 |none=>none
def Ap(own:List Nat)(o:Oper)(env:Env):Prop:=match appArg o.op with
 |some (a,s)=>(∃v,env a = .row (qo own a) v)/\∃x,ev env s = .p x
 |none=>True
def qy(own:List Nat)(ops:Array Oper)(o:Oper):Bool:=(match o.op with
 | .store _ (.tmp d) _=>me own ops d
 |_=>false)||(zY own ops o).isSome
def r5(own:List Nat)(ops:Array Oper)(o:Oper)(env:Env):Prop:=(match o.op with
 | .store _ (.tmp d) _=>me own ops d=true->∃off,env d = .ptr d off
 |_=>True)/\((zY own ops o).isSome=true->Ap own o env)
def pW(own:List Nat)(ops:Array Oper)(H:az):az:=λi=>if me own ops i then none else H i
theorem E6(own:List Nat)(ops:Array Oper)(H:az):HSub (pW own ops H) H:=λi c h=>by
 unfold pW at h;split at h
 ·cases h
 ·exact h
theorem IZ(own:List Nat)(ops:Array Oper){H G:az}(h:HSub H G):HSub (pW own ops H) (pW own ops G):=λi c a=>by
 unfold pW at a ⊢;split at a
 ·cases a
 ·rename_i b;rw[if_neg b];exact h i c a
theorem E7(own:List Nat)(ops:Array Oper)(H:az){d:Nat}(c:Chunk)(h:me own ops d=true):pW own ops (bn H d c)=pW own ops H:=by
 funext i;unfold pW bn;split
 ·rfl
 ·rename_i b;rw[if_neg];intro a;subst a;exact b h
def u5(own:List Nat)(ops:Array Oper)(o:Oper):Option Nat:=match o.op with
 | .alloc _=>(match o.dst with|some d=>if own.contains d=true then none else if me own ops d=true then some d else none|none=>none)
 | .box ..=>(match o.dst with|some d=>if own.contains d=true then none else if me own ops d=true then some d else none|none=>none)
 | .store _ (.tmp d) _=>(match o.dst with|some _=>none|none=>if me own ops d=true then some d else none)
 | .buildSlice ..=>(match o.dst with|some d=>if own.contains d=true then (if me own ops d=true then some d else none) else none|none=>none)
 | .makeSlice ..=>(match o.dst with|some d=>if own.contains d=true then (if me own ops d=true then some d else none) else none|none=>none)
 | .call _=>zY own ops o
 |_=>none
theorem E8{o:Oper}{ρ:Operand->AV}{H:az}(a:(match o.op with | .alloc _=>true | .box ..=>true | .store ..=>true|_=>false)=true):gi P o ρ H=wU P o ρ H:=by
 obtain⟨d,op,t,pos,af,g⟩:=o;cases op<;>first|(cases a;done)|skip
 all_goals
  simp only[gi,oD,sS,nB,xM,yZ,xR];all_goals(cases wU P _ ρ H<;>rfl)
def Sg(P:Program)(own:List Nat)(o:Oper)(ρ:Operand->AV)(d:Nat):Prop:=∃a:Option Chunk->Option (Prop×AV×Chunk),∀G,gC P own o ρ G=match a (G d) with|some (pre,v,c)=>some (pre,v,bn G d c)|none=>none
theorem C5{o:Oper}{env:Env}{d:Nat}(h:u5 own ops o=some d)(E:r5 own ops o env):Sg P own o (ev env) d/\me own ops d=true:=by
 obtain⟨f,R,t,pos,af,g⟩:=o;unfold u5 at h;cases R<;>simp only at h<;>try (cases h;done)
 case buildSlice ty n parts =>
  cases f with
  |none=>cases h
  |some k =>
   simp only at h;split at h
   ·rename_i i;split at h
    ·rename_i hw;simp only[cG] at h;subst h;refine⟨⟨λc=>match c with
      |some _=>none
      |none=>(match mu P ty n (parts.toList.map λx=>(x.1,ev env x.2)) with
       |some (e,es)=>(match bu P e with
        |some sz=>some (True,.row k 0,.row 0 e sz es)
        |none=>none)
       |none=>(match vU P ty n (parts.toList.map λx=>(x.1,ev env x.2)) with
        |some (_,cs)=>some (True,.eo k n,.box cs)
        |none=>none)),λG=>?_⟩,hw⟩
     simp only[gC];rw[if_pos i];simp only[kB];cases j:G k with
     |some _=>simp only[oy,isApp]
     |none =>
      simp only;cases mu P ty n (parts.toList.map λx=>(x.1,ev env x.2)) with
      |none =>
       simp only;cases vU P ty n (parts.toList.map λx=>(x.1,ev env x.2)) with
       |none=>simp only[oy,isApp]
       |some r=>obtain⟨e,cs⟩:=r;simp only[oy,isApp]
      |some r=>obtain⟨e,es⟩:=r;simp only;cases bu P e<;>simp only[oy,isApp]
    ·cases h
   ·cases h
 case makeSlice ty l c =>
  cases f with
  |none=>cases h
  |some k =>
   simp only at h;split at h
   ·rename_i i;split at h
    ·rename_i hw;simp only[cG] at h;subst h;refine⟨⟨λq=>match q with
      |some _=>none
      |none=>(match kB P ⟨some k,.makeSlice ty l c,t,pos,af,g⟩ (ev env) cu k with
       |some (pre,v,H')=>(match H' k with
        |some I=>some (pre,v,I)
        |none=>none)
       |none=>none),λG=>?_⟩,hw⟩
     simp only[gC];rw[if_pos i];simp only[kB];cases j:G k with
     |some _=>simp only[oy,isApp]
     |none =>
      simp only[show cu k=none from rfl];split
      ·split
       ·split
        ·simp only[oy,bn,if_true]
        ·simp only[oy,isApp]
       ·simp only[oy,isApp]
      ·simp only[oy,isApp]
    ·cases h
   ·cases h
 case call C =>
  have N:(zY own ops ⟨f,.call C,t,pos,af,g⟩).isSome=true:=by rw[h];rfl
  have u:Ap own ⟨f,.call C,t,pos,af,g⟩ env:=E.2 N;unfold zY at h;unfold Ap at u;split at h
  ·rename_i a s D;obtain⟨t1,t2,B⟩:=zS D;rw[D] at u;simp only at u;simp only[Op.call.injEq] at B;subst B;split at h
   ·rename_i hw;simp only[cG] at h;subst h;rw[Bool.and_eq_true] at hw;obtain⟨⟨m,J⟩,x,K⟩:=u;have H:ev env (.tmp a) = .row (qo own a) m:=J;have Q:∀G:az,vV G (.p x)=vV cu (.p x):=λG=>by
     cases x with
     |val v =>
      cases v with
      |slice a n c=>cases n<;>rfl
      |_=>rfl
     |_=>rfl
    refine⟨⟨λc=>match dA P t1 t2,c with
     | some (w, y, F), some (.row v e sz es) => if v = m ∧ e = w ∧ sz = y then (match vV cu (.p x) with
       |some ns=>some ((es.length+ns.length) * F<=140737488355328/\∀x∈ns,x.length=sz,.row (qo own a) (m+1),.row (m+1) e sz (es++ns))
       |none=>none) else none
     |_,_=>none,λG=>?_⟩,hw.2⟩
    have L:gC P own ⟨f,.call ⟨.builtin .append,#[.tmp a,s],#[t1,t2]⟩,t,pos,af,g⟩ (ev env) G=gi P ⟨f,.call ⟨.builtin .append,#[.tmp a,s],#[t1,t2]⟩,t,pos,af,g⟩ (ev env) G:=by
     unfold gC;cases f with
     |none=>rfl
     |some k =>
      simp only;split
      ·have:kB P ⟨some k,.call ⟨.builtin .append,#[.tmp a,s],#[t1,t2]⟩,t,pos,af,g⟩ (ev env) G k=none:=by
        unfold kB;cases G k with
        |some _=>rfl
        |none=>simp only[List.map_cons,List.map_nil,H]
       rw[this];rfl
      ·rfl
    rw[L,Iy,H,K,IG];cases S:dA P t1 t2 with
    |none=>simp only[C0]
    |some r =>
     obtain⟨w,y,F⟩:=r;rw[II,Q];cases j:G (qo own a) with
     |none=>simp only
     |some c =>
      cases c with
      |row v e sz es =>
       simp only;split
       ·cases vV cu (.p x)<;>simp only
       ·rfl
      |box cs=>simp only
      |tail v e sz es=>simp only
      |blk b o=>simp only
      |shut v es=>simp only
      |deep v e sz k w y es=>simp only
   ·cases h
  ·cases h
 case alloc e =>
  cases f with
  |none=>cases h
  |some k =>
   simp only at h;split at h
   ·cases h
   ·rename_i i;split at h
    ·rename_i hw;simp only[cG] at h;subst h;refine⟨⟨λc=>match c,cN P e with
      |none,some A=>if A.all (·.oneCell')=true then some (True,.ptr k 0,.box (A.map λz=>.p (.val z))) else none
      |_,_=>none,λG=>?_⟩,hw⟩
     simp only[gC];rw[if_neg i,E8 rfl];simp only[wU];cases j:G k with
     |some _=>simp only
     |none =>
      cases cN P e with
      |none=>simp only
      |some A=>simp only;split<;>rfl
    ·cases h
 case box e x =>
  cases f with
  |none=>cases h
  |some k =>
   simp only at h;split at h
   ·cases h
   ·rename_i i;split at h
    ·rename_i hw;simp only[cG] at h;subst h;refine⟨⟨λc=>match c with
      |none=>if (b7 (ev env x)).all oB=true then some (True,.ptr k 0,.box (b7 (ev env x))) else none
      |some _=>none,λG=>?_⟩,hw⟩
     simp only[gC];rw[if_neg i,E8 rfl];simp only[wU];cases j:G k with
     |some _=>simp only
     |none=>simp only;split<;>rfl
    ·cases h
 case store e a x =>
  cases a with
  |tmp k =>
   cases f with
   |some _=>cases h
   |none =>
    simp only at h;split at h
    ·rename_i hw;simp only[cG] at h;subst h;obtain⟨off,O⟩:=E.1 hw;refine⟨⟨λc=>match bu P e with
      |some n=>if (b7 (ev env x)).length=n/\(b7 (ev env x)).all oB=true then match c with
       |some (.box cs)=>if off+n<=cs.length then some (True,.dead,.box (splice cs off (b7 (ev env x)))) else none
       |_=>none
       else none
      |none=>none,λG=>?_⟩,hw⟩
     have M:ev env (.tmp k) = .ptr k off:=O;simp only[gC];rw[E8 rfl];simp only[wU,M];cases bu P e with
     |none=>simp only
     |some n =>
      simp only;split
      ·cases j:G k with
       |none=>simp only
       |some c =>
        cases c<;>simp only
        split<;>rfl
      ·rfl
    ·cases h
  |_=>cases h
def BW(P:Program)(own:List Nat)(ops:Array Oper)(o:Oper)(ρ:Operand->AV)(H:az)(v:AV)(H':az):Prop :=
 ∃k fe a b r,∃id:Nat,dL o ρ=some (k,fe)/\eG (ia (pW own ops H)) fe=some (a,b)/\bw P k a (λx=>x=r)/\(b=true->r.flat=true) /\
  (∀i,id<=i->i<(dz id r).2->H i=none/\me own ops i=false)/\v=(dz id r).1/\H'=iO id H r
theorem Sh:∀ (r:RV) (k:Nat) (H:az) (d:Nat) (c:Chunk),(d<k\/(dz k r).2<=d)->iO k (bn H d c) r=bn (iO k H r) d c:=by
 intro r;refine RV.rec (motive_1:=λr=>∀k (H:az) d c,(d<k\/(dz k r).2<=d)->iO k (bn H d c) r=bn (iO k H r) d c) (motive_2:=λa=>∀k (H:az) d c,(d<k\/(jK k a).2<=d)->lI k (bn H d c) a=bn (lI k H a) d c) ?_ ?_ ?_ ?_ ?_ ?_ ?_ r
 ·intro x k H d c _;rfl
 ·intro e sz es k H d c b;have f:d≠k:=by
   rintro rfl;rcases b with h|h
   ·exact Nat.lt_irrefl _ h
   ·exact Nat.lt_irrefl _ h
  exact lC H c _ f
 ·intro e sz j m q es k H d c b;have f:d≠k:=by
   rintro rfl;rcases b with h|h
   ·exact Nat.lt_irrefl _ h
   ·exact Nat.lt_irrefl _ h
  exact lC H c _ f
 ·intro a g k H d c b;exact g k H d c b
 ·intro a g k H d c b;exact g k H d c b
 ·intro k H d c _;rfl
 ·intro r a i l k H d c b;show lI _ (iO k (bn H d c) r) a=bn (lI _ (iO k H r) a) d c;have n:=zz r k;have o:=ED a (dz k r).2;have p:d<k\/(jK (dz k r).2 a).2<=d:=b;rw[i k H d c (by omega),l _ _ d c (by omega)]
theorem zZ{o:Oper}{ρ:Operand->AV}{H H':az}{v:AV}(h:BW P own ops o ρ H v H'):HSub H H':=by
 obtain⟨k,fe,e,b,r,id,_,_,_,_,d,_,rfl⟩:=h;intro i c a;rw[EE r id H i,a];rcases Nat.lt_or_ge i id with h|h
 ·exact .inl h
 ·rcases Nat.lt_or_ge i (dz id r).2 with h'|h'
  ·rw[(d i h h').1] at a;cases a
  ·exact .inr h'
theorem I1{o:Oper}{ρ ρ':Operand->AV}{H H':az}{v:AV}(h:∀x∈o.op.operands,ρ x=ρ' x)(d:BW P own ops o ρ H v H'):BW P own ops o ρ' H v H':=by obtain⟨k,fe,e,b,r,id,a,c⟩:=d;exact⟨k,fe,e,b,r,id,(zM h) ▸ a,c⟩
theorem Si{o:Oper}{ρ:Operand->AV}{H:az}(b:bQ own o=true){x:FuncId×List AV}(a:dL o ρ=some x):gC P own o ρ H=none:=by
 have g:=b;unfold bQ at b;rw[Bool.and_eq_true] at b;rw[kG b.1,EZ g];unfold dL at a;split at a
 ·rename_i c e;split at a
  ·rename_i f d;unfold oD sS nB xM yZ;simp only[e,d]
  ·cases a
 ·cases a
def j7(P:Program)(own:List Nat)(ops:Array Oper)(c:oU)(o:Oper)(env:Env)(H:az)(v:AV)(H':az):Prop:=match c with
 | .p=>∃pre,oD P o (ev env)=some (pre,v)/\pre/\H'=H/\(match o.dst with|some d=>!own.contains d|none=>true)=true
 | .q=>bQ own o=true/\H'=H/\((∃pre,gi P o (ev env) H=some (pre,v,H)/\pre)\/(∃x,v = .p x/\zx P o (ev env) H x/\gC P own o (ev env) H=none))
 | .b=>bQ own o=true/\H'=H/\∃pre,gi P o (ev env) (tJ H)=some (pre,v,tJ H)/\pre
 | .w=>∃pre,gC P own o (ev env) H=some (pre,v,H')/\pre
 | .s=>∃pre,gC P own o (ev env) H=some (pre,v,H')/\pre
 | .f=>bQ own o=true/\BW P own ops o (ev env) H v H'
 | .t=>False
 | .o=>bQ own o=true/\H'=H/\((∃pre,gi P o (ev env) (pW own ops H)=some (pre,v,pW own ops H)/\pre)\/(∃x,v = .p x/\zx P o (ev env) (pW own ops H) x/\gC P own o (ev env) (pW own ops H)=none))
theorem I3{o:Oper}{env:Env}{H H':az}{v:AV}(h:j7 P own ops .b o env H v H'):j7 P own ops .q o env H v H':=by obtain⟨a,rfl,pre,c,d⟩:=h;exact⟨a,rfl,.inl ⟨pre,pU (IX _) a c,d⟩⟩
theorem I4{o:Oper}{env:Env}{H H':az}{v:AV}(h:j7 P own ops .o o env H v H'):j7 P own ops .q o env H v H':=by
 obtain⟨a,rfl,⟨pre,c,b⟩|⟨x,c,b,d⟩⟩:=h
 ·exact⟨a,rfl,.inl ⟨pre,pU (E6 own ops _) a c,b⟩⟩
 ·exact⟨a,rfl,.inr ⟨x,c,E1 (E6 own ops _) b,E2 a b⟩⟩
theorem Sj{c:oU}{o:Oper}{env:Env}{H H':az}{v:AV}(h:j7 P own ops c o env H v H'){W:Env->az->Prop}(j:W (cW env o.dst v) H') :
  match gC P own o (ev env) H with
   |some (pre,v,H')=>pre/\W (cW env o.dst v) H'
   |none=>j6 P o W env H:=by
 have m : j7 P own ops .q o env H v H' → (match gC P own o (ev env) H with
   |some (pre,v,H')=>pre/\W (cW env o.dst v) H'
   |none=>j6 P o W env H):=λh=>by
  obtain⟨d,rfl,e|⟨x,rfl,e,g⟩⟩:=h
  ·obtain⟨pre,g,l⟩:=e;unfold bQ at d;rw[Bool.and_eq_true] at d;rw[kG d.1,g];exact⟨l,j⟩
  ·rw[g];exact .inl (.inl ⟨[],xP e j⟩)
 cases c with
 |p=>obtain⟨pre,d,e,rfl,g⟩:=h;rw[kG g];unfold gi;rw[d];exact⟨e,j⟩
 |b=>exact m (I3 h)
 |q=>exact m h
 |o=>exact m (I4 h)
 |w=>obtain⟨pre,d,e⟩:=h;rw[d];exact⟨e,j⟩
 |s=>obtain⟨pre,d,e⟩:=h;rw[d];exact⟨e,j⟩
 |f=>obtain⟨u,k,fe,z,b,r,id,d,e,g,l,n,rfl,rfl⟩:=h;rw[Si u d];exact .inl (.inr (.inr ⟨[],.inl ⟨k,fe,z,b,_,id,d,oV (λa r=>IT (E6 own ops H)) e,g,λA y=>by subst y;exact⟨l,λi a b=>(n i a b).1,j⟩⟩⟩))
 |t=>exact h.elim
theorem I5{o:Oper}{W m:Env->az->Prop}{env:Env}{H:az}(h:∀e G,W e G->m e G)(s:Bf P o W env H):Bf P o m env H:=by
 rcases s with ⟨ids,k,fe,j,b,Q,f,g,i,d⟩|⟨k,j,x,f,g,i⟩|⟨ids,⟨k,fe,j,b,Q,id,f,g,i,d⟩|⟨k,id,v,e,sz,es,fe,j,b,Q,f,g,i,d,q⟩⟩
 ·exact .inl ⟨ids,k,fe,j,b,Q,f,g,i,λr l=>⟨(d r l).1,h _ _ (d r l).2⟩⟩
 ·exact .inr (.inl ⟨k,j,x,f,g,h _ _ i⟩)
 ·exact .inr (.inr ⟨ids,.inl ⟨k,fe,j,b,Q,id,f,g,i,λr l=>⟨(d r l).1,(d r l).2.1,h _ _ (d r l).2.2⟩⟩⟩)
 ·refine .inr (.inr ⟨ids,.inr ⟨k,id,v,e,sz,es,fe,j,b,Q,f,g,i,d,λa c t=>?_⟩⟩);obtain⟨B,p,A,es',n,u,w,y,z⟩:=q a c t;exact⟨B,p,A,es',n,u,w,y,h _ _ z⟩
theorem Sk{o:Oper}{W d:Env->az->Prop}{env:Env}{H:az}(h:∀e G,W e G->d e G)(hh:j6 P o W env H):j6 P o d env H:=by
 have l:∀ {env H},y3 P o W env H->y3 P o d env H:=λg C I L tm w σ i j=>by obtain⟨k,args,b,c⟩:=g C I L tm w σ i j;exact⟨k,args,b,c.mono λe w' ⟨v,I',L',a,H',n,p,r⟩=>⟨v,I',L',a,H',n,h _ _ p,r⟩⟩
 have m:∀ {env H},Bg P o W env H->Bg P o d env H:=λg C I L tm w σ i j=>by obtain⟨v,H',b,c⟩:=g C I L tm w σ i j;exact⟨v,H',h _ _ b,c⟩
 rcases hh with hh|⟨f,H2,b,⟨pre,v,H',c,s,t⟩|q|q|q⟩|hh|hh
 ·exact .inl (I5 h hh)
 ·exact .inr (.inl ⟨f,H2,b,.inl ⟨pre,v,H',c,s,h _ _ t⟩⟩)
 ·exact .inr (.inl ⟨f,H2,b,.inr (.inl (I5 h q))⟩)
 ·exact .inr (.inl ⟨f,H2,b,.inr (.inr (.inl (m q)))⟩)
 ·exact .inr (.inl ⟨f,H2,b,.inr (.inr (.inr (l q)))⟩)
 ·exact .inr (.inr (.inl (m hh)))
 ·exact .inr (.inr (.inr (l hh)))
def AN(P:Program)(own:List Nat)(o:Oper)(W:Env->az->Prop)(env:Env)(H:az):Prop:=match gC P own o (ev env) H with
 |some (pre,v,H')=>pre/\W (cW env o.dst v) H'
 |none=>j6 P o W env H
theorem I6{o:Oper}{W b:Env->az->Prop}{env:Env}{H:az}(h:∀e G,W e G->b e G)(a:AN P own o W env H):AN P own o b env H:=by
 unfold AN at *;split at a
 ·exact⟨a.1,h _ _ a.2⟩
 ·exact Sk h a
def C6(P:Program)(own:List Nat)(ops:Array Oper)(o:Oper)(W:Env->az->Prop)(env:Env)(H:az):Prop:=(nC ops o env=some false/\W (cW env o.dst (.dY [])) H)\/(nC ops o env=some true/\AN P own o W env H)
def xh(P:Program)(own:List Nat)(ops:Array Oper)(tl:Nat->Bool)(i:Nat)(W:Env->az->Prop)(env:Env)(H:az):Prop:=match ops[i]? with
 |none=>W env H
 |some o=>(nC ops o env=some false/\W (cW env o.dst (.dY [])) H)\/(nC ops o env=some true/\((r5 own ops o env/\∃c v H',j7 P own ops c o env H v H'/\W (cW env o.dst v) H')\/(tl i=true/\AN P own o W env H)))
def Aq(P:Program)(own:List Nat)(ops:Array Oper)(tl:Nat->Bool)(K:Env->az->Prop):Nat->Array Bool->Env->az->Prop
 |0,a,env,H=>Region.ready .any ops a=[]/\K env H
 |fuel+1,a,env,H=>(Region.ready .any ops a=[]->K env H) /\
  ∀i∈Region.ready .any ops a,xh P own ops tl i (Aq P own ops tl K fuel (a.setIfInBounds i true)) env H
theorem sx{C:Ctx}(f:∀ (i:Nat) o,ops[i]? = some o->wW C.n o.dst){Q:Exit->Act->World->Prop}
  (d:∀env H I L tm w,K env H->iG C env H I L tm w->Q .normal ⟨tm,[]⟩ w):∀ (fuel:Nat) (j:Array Bool) (env:Env) (H:az) (I:Mem) (L:bB) (tm:Array Value) (w:World),
  Aq P own ops tl K fuel j env H->iG C env H I L tm w->wpAny P .any ops Q fuel j ⟨tm,[]⟩ w
 |0,j,env,H,I,L,tm,w,h,b=>⟨h.1,d env H I L tm w h.2 b⟩
 |fuel+1,j,env,H,I,L,tm,w,h,b=>by
  refine⟨λr=>d env H I L tm w (h.1 r) b,λi a=>?_⟩;have a:=h.2 i a;unfold xh at a;unfold wpOp;cases m:ops[i]? with
  |none=>rw[m] at a;exact sx f d fuel _ env H I L tm w a b
  |some o =>
   rw[m] at a;simp only[];have l:=f i o m;rcases a with ⟨g,a⟩|⟨g,⟨_,c,v,H',s,a⟩|⟨_,a⟩⟩
   ·rw[if_neg (by rw[qO g b];simp)];have e:(Act.put ⟨tm,[]⟩ o.dst undef:Act)=⟨(Act.put ⟨tm,[]⟩ o.dst undef).tmps,[]⟩:=by cases o.dst<;>rfl
    rw[e];exact sx f d fuel _ _ H I L _ w a (b.cW l (.dY [] [] rfl (by simp)) [])
   ·rw[if_pos (qO g b)];exact .inl (EJ (Sj s a) b l λk H' I' L' q w' hw p=>sx f d fuel _ k H' I' L' q w' hw p)
   ·rw[if_pos (qO g b)];exact .inl (EJ a b l λk H' I' L' q w' hw p=>sx f d fuel _ k H' I' L' q w' hw p)
def AO(ops:Array Oper)(a:Nat->Nat->Bool):Bool :=
 (List.range ops.size).all λj=>(List.range ops.size).all λi=>!a j i||match ops[j]? with
  |some o=>o.after.toList.any λe=>Region.binds .any e&&decide (e.on<j)&&(e.on == i||a e.on i)
  |none=>false
theorem I7{b:Nat->Nat->Bool}(h:AO ops b=true){i j:Nat}{o:Oper}(d:ops[j]? = some o)(m:i<ops.size)(k:b j i=true) :
  ∃e∈o.after,Region.binds .any e=true/\e.on<j/\(e.on=i\/b e.on i=true):=by
 have f:j<ops.size:=(Array.getElem?_eq_some_iff.1 d).1;have g:=List.all_eq_true.1 h j (List.mem_range.2 f);have c:=List.all_eq_true.1 g i (List.mem_range.2 m);rw[k,d] at c;simp only[Bool.not_true,Bool.false_or] at c;obtain⟨e,l,a⟩:=List.any_eq_true.1 c;simp only[Bool.and_eq_true,decide_eq_true_eq,Bool.or_eq_true,beq_iff_eq] at a;exact⟨e,by simpa using l,a.1.1,a.1.2,a.2⟩
def sA(ops:Array Oper)(a:Array Bool):Prop:=a.size=ops.size/\∀j o,ops[j]? = some o->a.getD j false=true->∀e∈o.after,Region.binds .any e=true->a.getD e.on false=true
theorem sA.set{a:Array Bool}(h:sA ops a){i:Nat}(k:i∈Region.ready .any ops a):sA ops (a.setIfInBounds i true):=by
 obtain⟨_,m,l,g⟩:=mem_ready.1 k;refine⟨by simpa using h.1,λj o f hl e c b=>?_⟩;by_cases d:i=j
 ·subst d;have:o=m:=Option.some.inj (f.symm.trans l);subst this;exact getD_set_true (g e c b)
 ·rw[getD_set_ne false d] at hl;exact getD_set_true (h.2 j o f hl e c b)
theorem Sl{b:Nat->Nat->Bool}(g:AO ops b=true){a:Array Bool}(c:sA ops a){i:Nat}(n:i<ops.size) :
  ∀ (j:Nat),a.getD j false=true->b j i=true->a.getD i false=true:=by
 intro j
 induction j using Nat.strongRecOn with
 |_ j r =>
  intro hl k;have p:j<ops.size:=by
   rw[<-c.1];rcases Nat.lt_or_ge j a.size with h|h
   ·exact h
   ·simp[Array.getElem?_eq_none h] at hl
  obtain⟨o,f⟩:∃o,ops[j]? = some o:=⟨ops[j],by simp[p]⟩;obtain⟨e,m,l,q,h1⟩:=I7 g f n k;have d:=c.2 j o f hl e m l;rcases h1 with rfl|h1
  ·exact d
  ·exact r e.on q d h1
theorem I8{b:Nat->Nat->Bool}(d:AO ops b=true){a:Array Bool}(f:sA ops a){i j:Nat}(p:i∈Region.ready .any ops a)(q:j∈Region.ready .any ops a):b j i=false:=by
 cases l:b j i with
 |false=>rfl
 |true =>
  exfalso;obtain⟨g,u,r,_⟩:=mem_ready.1 p;obtain⟨_,v,s,m⟩:=mem_ready.1 q;have c:i<ops.size:=(Array.getElem?_eq_some_iff.1 r).1;obtain⟨e,o,n,t,h1⟩:=I7 d s c l;have h:=m e o n;have:a.getD i false=true:=by
   rcases h1 with rfl|h1
   ·exact h
   ·exact Sl d f c e.on h h1
  have k:i<a.size:=by rw[f.1];exact c
  simp[k] at g this;rw[g] at this;cases this
theorem Sm{env:Env}{d:Option Tmp}{v:AV}{x:Operand}(h:∀k,d=some k->x≠.tmp k):ev (cW env d v) x=ev env x:=by
 cases d with
 |none=>rfl
 |some k =>
  cases x with
  |tmp t =>
   have a:t≠k:=λe=>h k rfl (by rw[e])
   show cK env k v t=env t;unfold cK;rw[if_neg a]
  |_=>rfl
theorem Sn{o:Oper}{t:Tmp}(h:Operand.tmp t∈o.op.operands):t∈o.looksAt ops:=by unfold Oper.looksAt;rw[List.mem_append];left;exact List.mem_filterMap.2 ⟨.tmp t,by simpa using h,rfl⟩
theorem I9{o:Oper}{env:Env}{d:Option Tmp}{v:AV}(h:∀k,d=some k->k ∉ o.looksAt ops):∀x∈o.op.operands,ev (cW env d v) x=ev env x:=λx b=>Sm λk a e=>h k a (Sn (by rw[<-e];exact b))
theorem E9{o:Oper}{env:Env}{d:Option Tmp}{v:AV}(h:∀k,d=some k->k ∉ o.looksAt ops):nC ops o (cW env d v)=nC ops o env:=by
 unfold nC;cases c:o.guard with
 |none=>rfl
 |some a =>
  obtain⟨j,i⟩:=a;simp only[];cases b:(ops[j]?).bind (·.dst) with
  |none=>rfl
  |some s =>
   simp only[];have:cW env d v s=env s:=by
    cases d with
    |none=>rfl
    |some k =>
     have f:=h k rfl;have g:s≠k:=λe=>f (by
      unfold Oper.looksAt;rw[List.mem_append];right;rw[c];simp only[];rw[b,e];simp)
     show cK env k v s=env s;unfold cK;rw[if_neg g]
   rw[this]
theorem Ja{env:Env}{d e:Option Tmp}{v u:AV}(h:∀k,d=some k->e≠some k):cW (cW env d v) e u=cW (cW env e u) d v:=by
 cases d with
 |none=>rfl
 |some k =>
  cases e with
  |none=>rfl
  |some m=>exact Nl env v u λa=>h k rfl (by rw[a])
theorem Jb{o:Oper}{env:Env}{d:Option Tmp}{v:AV}(h:∀k,d=some k->k ∉ o.looksAt ops):r5 own ops o (cW env d v)↔r5 own ops o env:=by
 have c:∀x∈o.op.operands,ev (cW env d v) x=ev env x:=I9 (ops:=ops) h;have b:Ap own o (cW env d v)↔Ap own o env:=by
  unfold Ap;cases l:appArg o.op with
  |none=>rfl
  |some r=>obtain⟨a,s⟩:=r;obtain⟨t1,t2,e⟩:=zS l;have f:ev (cW env d v) (.tmp a)=ev env (.tmp a):=c _ (by rw[e];simp[Op.operands,Call.operands]);have i:ev (cW env d v) s=ev env s:=c _ (by rw[e];simp[Op.operands,Call.operands]);have g:cW env d v a=env a:=f;simp only[g,i]
 unfold r5;rw[b];cases m:o.op with
 |store t a x =>
  cases a with
  |tmp k=>have j:ev (cW env d v) (.tmp k)=ev env (.tmp k):=c _ (by rw[m];simp[Op.operands]);have b:cW env d v k=env k:=j;simp only[b]
  |_=>rfl
 |_=>rfl
theorem Jc{c:oU}{o:Oper}{env:Env}{H H':az}{v u:AV}{d:Option Tmp}(h:∀k,d=some k->k ∉ o.looksAt ops):j7 P own ops c o (cW env d u) H v H'↔j7 P own ops c o env H v H':=by
 have e:∀x∈o.op.operands,ev (cW env d u) x=ev env x:=I9 (ops:=ops) h;have m:∀x∈o.op.operands,ev env x=ev (cW env d u) x:=λx n=>(e x n).symm
 cases c with
 |p=>simp only[j7,IM e]
 |q =>
  simp only[j7,C1 e,vY e];constructor
  ·rintro⟨g,i,a|⟨x,a,j,l⟩⟩
   ·exact⟨g,i,.inl a⟩
   ·exact⟨g,i,.inr ⟨x,a,vZ e j,l⟩⟩
  ·rintro⟨g,i,a|⟨x,a,j,l⟩⟩
   ·exact⟨g,i,.inl a⟩
   ·exact⟨g,i,.inr ⟨x,a,vZ m j,l⟩⟩
 |o =>
  simp only[j7,C1 e,vY e];constructor
  ·rintro⟨g,i,a|⟨x,a,j,l⟩⟩
   ·exact⟨g,i,.inl a⟩
   ·exact⟨g,i,.inr ⟨x,a,vZ e j,l⟩⟩
  ·rintro⟨g,i,a|⟨x,a,j,l⟩⟩
   ·exact⟨g,i,.inl a⟩
   ·exact⟨g,i,.inr ⟨x,a,vZ m j,l⟩⟩
 |b=>simp only[j7,C1 e]
 |w=>simp only[j7,vY e]
 |s=>simp only[j7,vY e]
 |f=>exact⟨λh=>⟨h.1,I1 e h.2⟩,λh=>⟨h.1,I1 m h.2⟩⟩
 |t=>exact Iff.rfl
theorem z6{c:oU}{o:Oper}{env:Env}{H H':az}{v:AV}(g:bQ own o=true)(h:j7 P own ops c o env H v H'):HSub H H':=by
 have a:H'=H->HSub H H':=λe=>by rw[e];exact λ_ _ h=>h
 cases c with
 |p=>obtain⟨_,_,_,h,_⟩:=h;exact a h
 |q=>exact a h.2.1
 |b=>exact a h.2.1
 |o=>exact a h.2.1
 |w=>obtain⟨pre,d,_⟩:=h;exact a (tg g d)
 |s=>obtain⟨pre,d,_⟩:=h;exact a (tg g d)
 |f=>exact zZ h.2
 |t=>exact h.elim
theorem Fa{c:oU}{o:Oper}{env:Env}{H H':az}{v:AV}(g:uZ own o=true)(h:j7 P own ops c o env H v H'):H'=H/\∀G,j7 P own ops .p o env G v G:=by
 have l:(match o.dst with|some d=>!own.contains d|none=>true)=true:=by unfold uZ at g;rw[Bool.and_eq_true] at g;exact g.1
 have m:j7 P own ops .q o env H v H'->H'=H/\∀G,j7 P own ops .p o env G v G:=λh=>by
  obtain⟨_,rfl,⟨pre,a,i⟩|⟨x,_,a,_⟩⟩:=h
  ·rw[IN g] at a;cases e:oD P o (ev env) with
   |none=>rw[e] at a;cases a
   |some r=>obtain⟨j,u⟩:=r;rw[e] at a;simp only[cG,iU] at a;obtain⟨rfl,rfl,_⟩:=a;exact⟨rfl,λG=>⟨j,e,i,rfl,l⟩⟩
  ·obtain⟨k,fe,A,b,n,_⟩:=a;rw[IQ g] at n;cases n
 cases c with
 |p=>obtain⟨pre,a,i,y,z⟩:=h;exact⟨y,λG=>⟨pre,a,i,rfl,z⟩⟩
 |t=>exact h.elim
 |b=>exact m (I3 h)
 |q=>exact m h
 |o=>exact m (I4 h)
 |w =>
  obtain⟨pre,a,i⟩:=h;rw[IP g] at a;cases e:oD P o (ev env) with
  |none=>rw[e] at a;cases a
  |some r=>obtain⟨j,u⟩:=r;rw[e] at a;simp only[cG,iU] at a;obtain⟨rfl,rfl,rfl⟩:=a;exact⟨rfl,λG=>⟨j,e,i,rfl,l⟩⟩
 |s =>
  obtain⟨pre,a,i⟩:=h;rw[IP g] at a;cases e:oD P o (ev env) with
  |none=>rw[e] at a;cases a
  |some r=>obtain⟨j,u⟩:=r;rw[e] at a;simp only[cG,iU] at a;obtain⟨rfl,rfl,rfl⟩:=a;exact⟨rfl,λG=>⟨j,e,i,rfl,l⟩⟩
 |f=>obtain⟨_,k,fe,A,b,r,id,a,_⟩:=h;rw[IQ g] at a;cases a
def Head(P:Program)(own:List Nat)(ops:Array Oper)(c:oU)(o:Oper)(env:Env)(H:az)(v:AV)(H':az):Prop:=(nC ops o env=some false/\v = .dY []/\H'=H)\/(nC ops o env=some true/\r5 own ops o env/\j7 P own ops c o env H v H')
theorem Head.xh{c:oU}{i:Nat}{o:Oper}{env:Env}{H H':az}{v:AV}(e:ops[i]? = some o)(h:Head P own ops c o env H v H'){W:Env->az->Prop}(b:W (cW env o.dst v) H'):xh P own ops tl i W env H:=by
 unfold cv.xh;rw[e];rcases h with ⟨a,rfl,rfl⟩|⟨a,f,d⟩
 ·exact .inl ⟨a,b⟩
 ·exact .inr ⟨a,.inl ⟨f,c,v,H',d,b⟩⟩
theorem Head.put{c:oU}{o:Oper}{env:Env}{H H':az}{v u:AV}{d:Option Tmp}(h:∀k,d=some k->k ∉ o.looksAt ops)(a:Head P own ops c o env H v H'):Head P own ops c o (cW env d u) H v H':=by unfold Head at *;rw[E9 h,Jc h,Jb h];exact a
def C7(own:List Nat)(ops:Array Oper)(c:oU)(d a:Oper):Bool:=d.apart ops a&&match c with
 | .p=>true
 | .b=>bQ own a||Bk own a||E4 a
 | .q=>bQ own a||Bk own a
 | .o=>bQ own a||Bk own a||(u5 own ops a).isSome
 | .w=>uZ own a||(match u5 own ops d,u5 own ops a with
  |some x,some y=>x != y
  |_,_=>false)
 | .s=>uZ own a||(match u5 own ops d,u5 own ops a with
  |some x,some y=>x != y
  |_,_=>false)
 | .f=>uZ own a||(u5 own ops a).isSome
 | .t=>false
theorem Fb{c:oU}{o:Oper}{env:Env}{H H':az}{v:AV}(d:Bk own o=true)(h:j7 P own ops c o env H v H'):HSub H H':=by
 cases c with
 |p=>obtain⟨_,_,_,e,_⟩:=h;rw[e];exact λ_ _ h=>h
 |b=>rw[h.2.1];exact λ_ _ h=>h
 |q=>rw[h.2.1];exact λ_ _ h=>h
 |o=>rw[h.2.1];exact λ_ _ h=>h
 |w=>obtain⟨pre,a,_⟩:=h;exact IW d a
 |s=>obtain⟨pre,a,_⟩:=h;exact IW d a
 |f=>exact zZ h.2
 |t=>exact h.elim
theorem Sp{c:oU}{o:Oper}{env:Env}{H H':az}{v:AV}(d:E4 o=true)(h:j7 P own ops c o env H v H'):HSub (tJ H) (tJ H'):=by
 cases c with
 |p=>obtain⟨_,_,_,e,_⟩:=h;rw[e];exact λ_ _ h=>h
 |t=>exact h.elim
 |b=>rw[h.2.1];exact λ_ _ h=>h
 |q=>rw[h.2.1];exact λ_ _ h=>h
 |o=>rw[h.2.1];exact λ_ _ h=>h
 |w=>obtain⟨pre,a,_⟩:=h;exact IY d a
 |s=>obtain⟨pre,a,_⟩:=h;exact IY d a
 |f=>exact C4 (zZ h.2)
theorem Head.sub{o:Oper}{env:Env}{H G:az}{v:AV}(e:HSub H G)(h:Head P own ops .q o env H v H):Head P own ops .q o env G v G:=by
 rcases h with ⟨c,a,_⟩|⟨c,f,a,_,b|⟨x,b,d,g⟩⟩
 ·exact .inl ⟨c,a,rfl⟩
 ·obtain⟨pre,b,d⟩:=b;exact .inr ⟨c,f,a,rfl,.inl ⟨pre,pU e a b,d⟩⟩
 ·exact .inr ⟨c,f,a,rfl,.inr ⟨x,b,E1 e d,E2 a d⟩⟩
theorem Head.Sq{o:Oper}{env:Env}{H G:az}{v:AV}(e:HSub (pW own ops H) (pW own ops G))(h:Head P own ops .o o env H v H):Head P own ops .o o env G v G:=by
 rcases h with ⟨c,a,_⟩|⟨c,f,a,_,b|⟨x,b,d,g⟩⟩
 ·exact .inl ⟨c,a,rfl⟩
 ·obtain⟨pre,b,d⟩:=b;exact .inr ⟨c,f,a,rfl,.inl ⟨pre,pU e a b,d⟩⟩
 ·exact .inr ⟨c,f,a,rfl,.inr ⟨x,b,E1 e d,E2 a d⟩⟩
theorem C8{c:oU}{o:Oper}{env:Env}{H H':az}{v:AV}{d:Nat}(hl:u5 own ops o=some d)(G:r5 own ops o env)(h:j7 P own ops c o env H v H'):∃pre,gC P own o (ev env) H=some (pre,v,H')/\pre:=by
 obtain⟨j,l,t,pos,af,g⟩:=o;have hw:(j7 P own ops .w ⟨j,l,t,pos,af,g⟩ env H v H'->∃pre,gC P own ⟨j,l,t,pos,af,g⟩ (ev env) H=some (pre,v,H')/\pre):=λh=>h
 have D:∀i,l = .call i->bQ own ⟨j,l,t,pos,af,g⟩=false/\oD P ⟨j,l,t,pos,af,g⟩ (ev env)=none:=by
  intro i e;subst e;have u:zY own ops ⟨j,.call i,t,pos,af,g⟩=some d:=hl;have B:=G.2 (by rw[u];rfl);unfold zY at u;unfold Ap at B;cases z:appArg (Op.call i) with
  |none=>simp only[z] at u;cases u
  |some r=>obtain⟨a,s⟩:=r;obtain⟨t1,t2,C⟩:=zS z;simp only[z] at B;obtain⟨⟨E,n⟩,x,F⟩:=B;simp only[Op.call.injEq] at C;subst C;refine⟨by simp[bQ],?_⟩;have I:ev env (.tmp a) = .row (qo own a) E:=n;simp[oD,uX,ry,isNil,I,F]
 cases c with
 |t=>exact h.elim
 |w=>exact h
 |s=>exact h
 |p =>
  obtain⟨pre,n,_,_,m⟩:=h;cases l<;>simp only[u5] at hl<;>try (cases hl;done)
  case call i=>rw[(D i rfl).2] at n;cases n
  case buildSlice =>
   exfalso;cases j with
   |none=>cases hl
   |some k =>
    simp only at hl m;split at hl
    ·rename_i A;rw[A] at m;cases m
    ·cases hl
  case makeSlice =>
   exfalso;cases j with
   |none=>cases hl
   |some k =>
    simp only at hl m;split at hl
    ·rename_i A;rw[A] at m;cases m
    ·cases hl
  all_goals simp[oD] at n
 |b|q|o|f =>
  exfalso;have y:=h.1;cases l<;>simp only[u5] at hl<;>try (cases hl;done)
  case call i=>rw[(D i rfl).1] at y;cases y
  all_goals(cases j<;>simp[bQ] at y hl)<;>exact y hl.1
theorem Jd{z A:oU}{f g:Oper}{env:Env}{H H' l:az}{v u:AV}{d a:Nat}(n:u5 own ops f=some d)(o:u5 own ops g=some a)(k:d≠a)(p:r5 own ops f env)(q:r5 own ops g env)
  (B:j7 P own ops z f env H v H') (C:j7 P own ops A g env H' u l):∃G,j7 P own ops .w g env H u G/\j7 P own ops .w f env G v l/\HSub (pW own ops H) (pW own ops G):=by
 obtain⟨pre,c,D⟩:=C8 n p B;obtain⟨M,b,E⟩:=C8 o q C;obtain⟨⟨K,s⟩,n1⟩:=C5 (P:=P) n p;obtain⟨⟨L,t⟩,F⟩:=C5 (P:=P) o q;rw[s] at c;rw[t] at b;cases i:K (H d) with
 |none=>rw[i] at c;cases c
 |some r =>
  obtain⟨I,N,m⟩:=r;rw[i] at c;simp only[cG,iU] at c;obtain⟨rfl,rfl,rfl⟩:=c;have x:bn H d m a=H a:=by simp[bn,Ne.symm k]
  rw[x] at b;cases j:L (H a) with
  |none=>rw[j] at b;cases b
  |some r =>
   obtain⟨J,O,e⟩:=r;rw[j] at b;simp only[cG,iU] at b;obtain⟨rfl,rfl,rfl⟩:=b;refine⟨bn H a e,⟨J,by rw[t,j],E⟩,⟨I,?_,D⟩,by rw[E7 own ops H e F];exact λ_ _ h=>h⟩;have y:bn H a e d=H d:=by simp[bn,k]
   rw[s,y,i,lC H m e k]
theorem Sr{c:oU}{o:Oper}{env:Env}{H H':az}{v:AV}{d:Nat}(hl:u5 own ops o=some d)(e:r5 own ops o env)(h:j7 P own ops c o env H v H'):pW own ops H'=pW own ops H:=by
 obtain⟨pre,a,j⟩:=C8 hl e h;obtain⟨⟨i,g⟩,n1⟩:=C5 (P:=P) hl e;rw[g] at a;cases b:i (H d) with
 |none=>rw[b] at a;cases a
 |some r=>obtain⟨k,l,f⟩:=r;rw[b] at a;simp only[cG,iU] at a;obtain⟨rfl,rfl,rfl⟩:=a;exact E7 own ops H f n1
theorem Ss{z:oU}{x d:Oper}{env:Env}{H H' m:az}{v y:AV}{a:Nat}(s:u5 own ops d=some a)(t:r5 own ops d env)
  (E:j7 P own ops .f x env H v H') (F:j7 P own ops z d env H' y m):∃G,j7 P own ops .w d env H y G/\j7 P own ops .f x env G v m:=by
 obtain⟨O,c,J⟩:=C8 s t F;obtain⟨⟨N,u⟩,l⟩:=C5 (P:=P) s t;obtain⟨K,k,fe,M,b,r,id,A,B,C,D,j,rfl,rfl⟩:=E;have n:a<id\/(dz id r).2<=a:=by
  rcases Nat.lt_or_ge a id with h|h
  ·exact .inl h
  ·rcases Nat.lt_or_ge a (dz id r).2 with h'|h'
   ·rw[(j a h h').2] at l;cases l
   ·exact .inr h'
 rw[u,EE r id H a n] at c;cases e:N (H a) with
 |none=>rw[e] at c;cases c
 |some q =>
  obtain⟨L,Q,g⟩:=q;rw[e] at c;simp only[cG,iU] at c;obtain⟨rfl,rfl,rfl⟩:=c;refine⟨bn H a g,⟨L,by rw[u,e],J⟩,K,k,fe,M,b,r,id,A,by rw[E7 own ops H g l];exact B,C,D,λi o p=>⟨?_,(j i o p).2⟩,rfl,(Sh r id H a g n).symm⟩;have I:i≠a:=by omega
  simp only[bn,if_neg I];exact (j i o p).1
theorem Head.St{o:Oper}{env:Env}{H G:az}{v:AV}(f:HSub (tJ H) (tJ G))(h:Head P own ops .b o env H v H):Head P own ops .b o env G v G:=by
 rcases h with ⟨c,a,_⟩|⟨c,g,a,_,pre,d,e⟩
 ·exact .inl ⟨c,a,rfl⟩
 ·exact .inr ⟨c,g,a,rfl,pre,pU f a d,e⟩
theorem Su{ai:Nat->Nat->Bool}(hA:AO ops ai=true){i:Nat}{oi:Oper}{c:oU}{v:AV}(hi:ops[i]? = some oi) :
  ∀ (fuel:Nat) (J:Array Bool) (env:Env) (H H':az),sA ops J ->
   (∀j T,ops[j]? = some T->j≠i->J.getD j true=false->ai j i=false->C7 own ops c oi T=true/\tl j=false) ->
   i∈Region.ready .any ops J->Head P own ops c oi env H v H'->(c≠.w->c≠.s->c≠.f->H'=H) ->
   Aq P own ops tl K fuel (J.setIfInBounds i true) (cW env oi.dst v) H'->Aq P own ops tl K (fuel+1) J env H:=by
 intro fuel
 induction fuel with
 |zero =>
  intro J env H H' _ _ M z _ Q;refine⟨λh=>(by rw[h] at M;cases M),λj S=>?_⟩;by_cases L:j=i
  ·subst L;exact z.xh hi Q
  ·have:=ready_mono S L;rw[Q.1] at this;cases this
 |succ fuel A =>
  intro J env H H' aq ar M z Z Q;refine⟨λh=>(by rw[h] at M;cases M),λj S=>?_⟩;by_cases L:j=i
  ·subst L;exact z.xh hi Q
  ·have E:=Q.2 j (ready_mono S L);obtain⟨an,T,ax,aM⟩:=mem_ready.1 S;have ba:∀e∈T.after,Region.binds .any e=true->e.on≠i:=λe he hb a0=>by
    have E:=aM e he hb;have h0:=(mem_ready.1 M).1;rw[a0] at E;rcases Nat.lt_or_ge i J.size with h'|h'
    ·simp[h'] at h0 E;rw[h0] at E;cases E
    ·simp[Array.getElem?_eq_none h'] at E
   obtain⟨F,a6⟩:=ar j T ax L an (I8 hA aq M S);unfold C7 at F;rw[Bool.and_eq_true] at F;obtain⟨a1,a2,x⟩:=Oper.apart_spec F.1;have B:∀k ok,ops[k]? = some ok->k≠i->(J.setIfInBounds j true).getD k true=false->ai k i=false->C7 own ops c oi ok=true/\tl k=false:=λk ok Q a4 aA a5=>by
    refine ar k ok Q a4 ?_ a5;by_cases aw:j=k
    ·subst aw;exact an
    ·rw[getD_set_ne true aw] at aA;exact aA
   have C:=aq.set S;have y:=ready_mono M (Ne.symm L);unfold cv.xh at E ⊢;rw[ax] at E ⊢;rw[Array.setIfInBounds_comm _ _ (Ne.symm L)] at E;rcases E with ⟨m,hw⟩|⟨m,⟨l,N,D,g,a,hw⟩|⟨ao,_⟩⟩
   ·rw[E9 a1] at m;refine .inl ⟨m,A _ _ H H' C B y (z.put x) Z ?_⟩;rw[Ja a2] at hw;exact hw
   ·rw[E9 a1] at m;rw[Jc a1] at a;rw[Jb a1] at l;rw[Ja a2] at hw;cases c with
    |p =>
     have O:H'=H:=Z (by simp) (by simp) (by simp);subst O;refine .inr ⟨m,.inl ⟨l,N,D,g,a,A _ _ g g C B y ?_ (λ_ _ _=>rfl) hw⟩⟩;have a7:=z.put (d:=T.dst) (u:=D) x;rcases a7 with ⟨n,r,_⟩|⟨n,I,pre,r,R,_,k4⟩
     ·exact .inl ⟨n,r,rfl⟩
     ·exact .inr ⟨n,I,pre,r,R,rfl,k4⟩
    |q =>
     have O:H'=H:=Z (by simp) (by simp) (by simp);subst O;have aa:HSub H' g:=by
      rcases (Eq.to_iff (Bool.or_eq_true _ _)).mp F.2 with h|h
      ·exact z6 h a
      ·exact Fb h a
     exact .inr ⟨m,.inl ⟨l,N,D,_,a,A _ _ _ _ C B y ((z.put x).sub aa) (λ_ _ _=>rfl) hw⟩⟩
    |b =>
     have O:H'=H:=Z (by simp) (by simp) (by simp);subst O;have aa:HSub (tJ H') (tJ g):=by
      rcases (Eq.to_iff (Bool.or_eq_true _ _)).mp F.2 with h|h
      ·rcases (Eq.to_iff (Bool.or_eq_true _ _)).mp h with h|h
       ·exact C4 (z6 h a)
       ·exact C4 (Fb h a)
      ·exact Sp h a
     exact .inr ⟨m,.inl ⟨l,N,D,_,a,A _ _ _ _ C B y ((z.put x).St aa) (λ_ _ _=>rfl) hw⟩⟩
    |w =>
     rcases (Eq.to_iff (Bool.or_eq_true _ _)).mp F.2 with X|hl
     ·obtain⟨U,Y⟩:=Fa X a;subst U;exact .inr ⟨m,.inl ⟨l,.p,D,H,Y H,A _ _ H _ C B y (z.put x) (λh=>absurd rfl h) hw⟩⟩
     ·split at hl
      ·rename_i d d' V W;have ak:d≠d':=by simpa using hl
       rcases z with ⟨n,r,R⟩|⟨n,I,r⟩
       ·subst R;exact .inr ⟨m,.inl ⟨l,N,D,g,a,A _ _ g g C B y (Head.put x (.inl ⟨n,r,rfl⟩)) (λh=>absurd rfl h) hw⟩⟩
       ·obtain⟨G,m1,m2,_⟩:=Jd V W ak I l r a;exact .inr ⟨m,.inl ⟨l,.w,D,G,m1,A _ _ G g C B y (Head.put x (.inr ⟨n,I,m2⟩)) (λh=>absurd rfl h) hw⟩⟩
      ·cases hl
    |o =>
     have O:H'=H:=Z (by simp) (by simp) (by simp);subst O;have aa:HSub (pW own ops H') (pW own ops g):=by
      rcases (Eq.to_iff (Bool.or_eq_true _ _)).mp F.2 with h|h
      ·rcases (Eq.to_iff (Bool.or_eq_true _ _)).mp h with h|h
       ·exact IZ own ops (z6 h a)
       ·exact IZ own ops (Fb h a)
      ·obtain⟨d,V⟩:=Option.isSome_iff_exists.1 h;rw[Sr V l a];exact λ_ _ h=>h
     exact .inr ⟨m,.inl ⟨l,N,D,_,a,A _ _ _ _ C B y ((z.put x).Sq aa) (λ_ _ _=>rfl) hw⟩⟩
    |s =>
     rcases (Eq.to_iff (Bool.or_eq_true _ _)).mp F.2 with X|hl
     ·obtain⟨U,Y⟩:=Fa X a;subst U;exact .inr ⟨m,.inl ⟨l,.p,D,H,Y H,A _ _ H _ C B y (z.put x) (λ_ h=>absurd rfl h) hw⟩⟩
     ·split at hl
      ·rename_i d d' V W;have ak:d≠d':=by simpa using hl
       rcases z with ⟨n,r,R⟩|⟨n,I,r⟩
       ·subst R;exact .inr ⟨m,.inl ⟨l,N,D,g,a,A _ _ g g C B y (Head.put x (.inl ⟨n,r,rfl⟩)) (λ_ h=>absurd rfl h) hw⟩⟩
       ·obtain⟨G,m1,a9,_⟩:=Jd V W ak I l r a;exact .inr ⟨m,.inl ⟨l,.w,D,G,m1,A _ _ G g C B y (Head.put x (.inr ⟨n,I,a9⟩)) (λ_ h=>absurd rfl h) hw⟩⟩
      ·cases hl
    |f =>
     rcases (Eq.to_iff (Bool.or_eq_true _ _)).mp F.2 with X|hl
     ·obtain⟨U,Y⟩:=Fa X a;subst U;exact .inr ⟨m,.inl ⟨l,.p,D,H,Y H,A _ _ H _ C B y (z.put x) (λ_ _ h=>absurd rfl h) hw⟩⟩
     ·obtain⟨d',W⟩:=Option.isSome_iff_exists.1 hl;rcases z with ⟨n,r,R⟩|⟨n,I,r⟩
      ·subst R;exact .inr ⟨m,.inl ⟨l,N,D,g,a,A _ _ g g C B y (Head.put x (.inl ⟨n,r,rfl⟩)) (λ_ _ h=>absurd rfl h) hw⟩⟩
      ·obtain⟨G,m1,m2⟩:=Ss W l r a;exact .inr ⟨m,.inl ⟨l,.w,D,G,m1,A _ _ G g C B y (Head.put x (.inr ⟨n,I,m2⟩)) (λ_ _ h=>absurd rfl h) hw⟩⟩
    |t=>cases F.2
   ·rw[a6] at ao;cases ao
theorem Sv{e:Nat->Nat->Bool}(n:AO ops e=true){i:Nat}{k:Oper}(q:ops[i]? = some k){fuel:Nat}{a:Array Bool}{env:Env}{H:az}(p:sA ops a)(s:tl i=true)
  (o:∀j d,ops[j]? = some d->j≠i->a.getD j true=false->e j i=true) (c:i∈Region.ready .any ops a) (hw:C6 P own ops k (Aq P own ops tl K fuel (a.setIfInBounds i true)) env H) :
  Aq P own ops tl K (fuel+1) a env H:=by
 refine⟨λh=>(by rw[h] at c;cases c),λj f=>?_⟩;by_cases g:j=i
 ·subst g;unfold cv.xh;rw[q];rcases hw with h|⟨b,m⟩
  ·exact .inl h
  ·exact .inr ⟨b,.inr ⟨s,m⟩⟩
 ·obtain⟨l,d,r,_⟩:=mem_ready.1 f;have b:=o j d r g l;rw[I8 n p c f] at b;cases b
def Bl:oU->Bool
 | .t=>true
 |_=>false
def Sw(l:List (Nat×oU))(i:Nat):Bool:=l.any λx=>x.1 == i&&Bl x.2
def z7(own:List Nat)(ops:Array Oper)(b:Nat->Nat->Bool)(tl:Nat->Bool):List (Nat×oU)->Array Bool->Bool
 | [],a=>(Region.ready .any ops a).isEmpty
 | (i, c) :: rest, a => (Region.ready .any ops a).contains i && (match ops[i]? with
   |some d=>(!Bl c||tl i)&&(List.range ops.size).all λj=>j == i||a.getD j true||b j i||(match ops[j]? with
    |some e=>!Bl c&&C7 own ops c d e && !tl j
    |none=>true)
   |none=>false)&&z7 own ops b tl rest (a.setIfInBounds i true)
def BX(P:Program)(N:Nat)(own:List Nat)(ops:Array Oper):List (Oper×oU)->(Env->az->Prop)->Env->az->Prop
 | [],K,env,H=>K env H
 | (o, c) :: rest, K, env, H => wW N o.dst ∧ ((Bl c = true ∧ C6 P own ops o (BX P N own ops rest K) env H) ∨
   (Bl c=false/\∃v H',Head P own ops c o env H v H'/\(match c with | .w=>True | .s=>True | .f=>True|_=>H'=H)/\BX P N own ops rest K (cW env o.dst v) H'))
theorem Sx{o:Oper}{W a:Env->az->Prop}{env:Env}{H:az}(h:∀e G,W e G->a e G)(b:C6 P own ops o W env H):C6 P own ops o a env H:=b.imp (λx=>⟨x.1,h _ _ x.2⟩) λx=>⟨x.1,I6 h x.2⟩
theorem xS{z:Nat->Nat->Bool}(q:AO ops z=true):∀ (l:List (Nat×oU)) (f:List (Oper×oU)) (d:Array Bool) (env:Env) (H:az),sA ops d ->
  f.map (·.1)=l.filterMap (λx=>ops[x.1]?)->f.map (·.2)=l.map (·.2)->z7 own ops z tl l d=true->BX P N own ops f K env H->Aq P own ops tl K l.length d env H
 | [],f,d,env,H,_,g,a,k,hw=>by
  have:f=[]:=by simpa using a
  subst this;exact⟨by simpa[z7] using k,hw⟩
 |(i,c) :: l,[],d,env,H,_,g,a,k,hw=>by simp at a
 |(i,c) :: l,(o,D) :: f,d,env,H,s,g,a,k,hw=>by
  simp only[z7,Bool.and_eq_true] at k;obtain⟨⟨M,b⟩,y⟩:=k;cases m:ops[i]? with
  |none=>rw[m] at b;cases b
  |some R =>
   rw[m] at b;simp only[List.map_cons,List.filterMap_cons,m,List.cons.injEq] at g a;obtain⟨E,g⟩:=g;obtain⟨F,a⟩:=a;subst E F;simp only[Bool.and_eq_true] at b;obtain⟨A,b⟩:=b;have p:i∈Region.ready .any ops d:=by simpa using M
   obtain⟨_,⟨r,hw⟩|⟨r,v,H',O,L,hw⟩⟩:=hw
   ·refine Sv q m s (by rw[r] at A;simpa using A) (λj Q n t w=>?_) p (Sx (λe G hw=>xS q l f _ e G (s.set p) g a y hw) hw);have u:j<ops.size:=(Array.getElem?_eq_some_iff.1 n).1;have:=List.all_eq_true.1 b j (List.mem_range.2 u);simp only[w,n,r,Bool.or_eq_true,beq_iff_eq,Bool.or_false,Bool.not_true,Bool.false_and] at this;rcases this with h|h
    ·exact absurd h t
    ·exact h
   ·refine Su q m l.length d env H H' s (λj Q n t w J=>?_) p O (λI C B=>by cases D<;>first|exact L|exact absurd rfl I|exact absurd rfl C|exact absurd rfl B)
     (xS q l f _ _ H' (s.set p) g a y hw)
    have u:j<ops.size:=(Array.getElem?_eq_some_iff.1 n).1;have:=List.all_eq_true.1 b j (List.mem_range.2 u);simp only[w,J,n,r,Bool.or_eq_true,beq_iff_eq,Bool.or_false,Bool.not_false,Bool.true_and,Bool.and_eq_true,Bool.not_eq_true'] at this;rcases this with h|h
    ·exact absurd h t
    ·exact h
def masks(ops:Array Oper):List Nat:=(Region.before ops).toList
def Je(m:List Nat)(j i:Nat):Bool:=(m.getD j 0).testBit i
def BY(own:List Nat)(ops:Array Oper)(m:List Nat)(l:List (Nat×oU)):Bool:=AO ops (Je m)&&z7 own ops (Je m) (Sw l) l (Array.replicate ops.size false)&&l.length == ops.size&&ops.toList.all λo=>match o.dst with|some _=>true|none=>true
theorem Jf{env:Env}{H:az}(m:List Nat)(l:List (Nat×oU))(a:List (Oper×oU))(b:BY own ops m l=true)(f:a.map (·.1)=l.filterMap (λx=>ops[x.1]?))(g:a.map (·.2)=l.map (·.2))
  (r:∀ (i:Nat) o,ops[i]? = some o->wW N o.dst) (hw:BX P N own ops a K env H):vW P N own ops K env H:=by
 unfold BY at b;simp only[Bool.and_eq_true,beq_iff_eq] at b;obtain⟨⟨⟨k,n⟩,t⟩,_⟩:=b;intro C I L tm w p u;have q:sA ops (Array.replicate ops.size false):=⟨by simp,λj o y hl=>by
  rcases Nat.lt_or_ge j ops.size with h|h
  ·simp[h] at hl
  ·simp[h] at hl⟩
 have c:=xS (N:=N) k l a _ env H q f g n hw;rw[t] at c;have v:iG C env H I L tm { w with drawn:=w.drawn+1 }:=(Fr.drew C I L H w) env tm u;exact sx (by rw[p];exact r) (λe H' I' L' z w' s d=>⟨rfl,rfl,e,H',I',L',s,d⟩) ops.size _ env H I L tm _ c v
end Go.cv
