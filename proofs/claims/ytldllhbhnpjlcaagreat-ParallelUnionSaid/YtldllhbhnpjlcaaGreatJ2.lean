/- Joined texts, part 2: lemmas for the statement. No condition. -/
import Derived.Test.YtldllhbhnpjlcaaGreatJ1
set_option maxHeartbeats 4000000
set_option linter.unusedSimpArgs false
set_option linter.unusedVariables false
open Nat (reduceEqDiff reduceLT reduceLeDiff reduceMul reduceAdd reduceSub)
open Go.IntKind (i64)
namespace Go.bP
open Go.RowKit
variable{P:Program}{I:Mem}{L:bg}
inductive RV where
 |p (x:PV)
 |row (e:TypeId) (sz:Nat) (es:List (List PV))
 |deep (e:TypeId) (sz k:Nat) (e':TypeId) (sz':Nat) (es:List (List PV))
 |agg (rs:List RV)
 |dg (rs:List RV)
instance:Inhabited RV:=⟨.p default⟩
theorem zn{w:World}{B:Nat}{e:TypeId}{sz:Nat}{hdr:Value}{n:Nat}{us:List Value}(h:w.ownsRow B e sz hdr n us){b:Nat}(hb:hdr.ownBlock=some b):B<=b:=by
 rcases h.2 with ⟨rfl,_⟩|⟨g,cap,cur,rfl,h1,h2,_⟩
 ·cases hb
 ·have:g=b:=by simpa[Value.ownBlock] using hb
  subst this;exact h1
theorem ab0{w:World}{base base':Nat}{e:TypeId}{size:Nat}{v:Value}{n:Nat}{xs:List Value}(h:w.ownsRow base e size v n xs)(hb:base'<=base):w.ownsRow base' e size v n xs:=by
 refine⟨h.1,?_⟩;rcases h.2 with h|⟨g,cap,cur,h1,h2,h3⟩
 ·exact .inl h
 ·exact .inr ⟨g,cap,cur,h1,Nat.le_trans hb h2,h3⟩
inductive xq(w:World)(B:Nat)(I:Mem):Value->RV->List Nat->Prop
 |p (u:Value) (x:PV) (h:VR I u x):xq w B I u (.p x) []
 |row (hdr:Value) (e:TypeId) (sz:Nat) (es:List (List PV)) (us:List Value) (h:rq w B I hdr e sz es us) (h1:hdr.oneCell'=true):xq w B I hdr (.row e sz es) hdr.ownBlock.toList
 | deep (hdr : Value) (e : TypeId) (sz k : Nat) (e' : TypeId) (sz' : Nat) (es : List (List PV)) (us : List Value) (eT : Nat → Value) (h : rq w B I hdr e sz (su k eT es) us) (h1 : hdr.oneCell' = true) (hk : k < sz) (hall : ∀ x ∈ es, x.length = sz)
   (hin:axp w B I k e' sz' eT es) (hap:aeN hdr eT es.length):xq w B I hdr (.deep e sz k e' sz' es) (zc hdr eT es.length)
 | agg (us : List Value) (rs : List RV) (bs : List (List Nat)) (hl : us.length = rs.length) (hl' : us.length = bs.length)
   (hv:∀ (j:Nat) u r b,us[j]? = some u->rs[j]? = some r->bs[j]? = some b->xq w B I u r b) (hone:∀u∈us,u.oneCell'=true):xq w B I (.agg us.toArray) (.agg rs) bs.flatten
 | dg (us : List Value) (rs : List RV) (bs : List (List Nat)) (hl : us.length = rs.length) (hl' : us.length = bs.length)
   (hv:∀ (j:Nat) u r b,us[j]? = some u->rs[j]? = some r->bs[j]? = some b->xq w B I u r b):xq w B I (.tuple us.toArray) (.dg rs) bs.flatten
def aZ(P:Program)(f:FuncId)(args:List PV)(Q:RV->Prop):Prop :=
 gl P f=true/\∀ (I:Mem) (w:World) (vs:List Value),I.inW w->VRs I vs args ->
  Calls P f vs.toArray w λe w'=>∃v r bs I',e = .returned v/\Q r/\xq w' w.heap.size I' v r bs/\bs.Nodup/\(∀b∈bs,w.heap.size<=b/\b<w'.heap.size) /\
   Below w.heap.size w w'/\I.sub I'/\I'.inW w'/\∀b,b<w.heap.size->∀o,I' b o=I b o
theorem aZ.mono{f:FuncId}{args:List PV}{Q Q':RV->Prop}(h:aZ P f args Q)(hq:∀r,Q r->Q' r):aZ P f args Q':=⟨h.1,λI w vs hI hv=>(h.2 I w vs hI hv).mono λ_ _ ⟨v,r,bs,I',h1,h2,h3⟩=>⟨v,r,bs,I',h1,hq r h2,h3⟩⟩
mutual
def cq(k:Nat):RV->AV×Nat
 | .p x=>(.p x,k)
 | .row _ _ _=>(.row k 0,k+1)
 | .deep _ _ _ _ _ _=>(.kP k 0,k+1)
 | .agg rs=>(yA (iP k rs).1,(iP k rs).2)
 | .dg rs=>(.dg (iP k rs).1,(iP k rs).2)
def iP(k:Nat):List RV->List AV×Nat
 | []=>([],k)
 |r :: rs=>((cq k r).1 :: (iP (cq k r).2 rs).1,(iP (cq k r).2 rs).2)
end
mutual
def fU(k:Nat)(H:aq):RV->aq
 | .p _=>H
 | .row e sz es=>bh H k (.row 0 e sz es)
 | .deep e sz j e' sz' es=>bh H k (.deep 0 e sz j e' sz' es)
 | .agg rs=>kF k H rs
 | .dg rs=>kF k H rs
def kF(k:Nat)(H:aq):List RV->aq
 | []=>H
 |r :: rs=>kF (cq k r).2 (fU k H r) rs
end
theorem fV.add{C:Ctx}{env:Env}{H:aq}{tm:Array Value}{w:World}(h:fV C env H I L tm w){id:Nat}(hid:H id=none)(l:Loc)(ch:Chunk)
  (hch:qx I (cu L id l) w C.B id ch) (hl:∀b,l.has b->C.B<=b/\b<w.heap.size/\(∀i li,L i=some li->¬ li.has b)/\(C.w0.heap.size<=b\/C.amN b)):fV C env (bh H id ch) I (cu L id l) tm w:=by
 have hL:=h.tr hid;have hle:=dN.vW hL l;exact
 {h with
  env:=λt=>(h.env t).mono (Mem.ew I) hle
  dom:=λi li hi=>by
   by_cases e:i=id
   ·exact⟨ch,by simp[bh,e]⟩
   ·obtain⟨c,hc⟩:=h.dom i li (by simpa[cu,e] using hi);exact⟨c,by simpa[bh,e] using hc⟩
  chunk:=λi c hc=>by
   by_cases e:i=id
   ·subst e;have:ch=c:=by simpa[bh] using hc
    subst this;exact hch
   ·exact (h.chunk i c (by simpa[bh,e] using hc)).keep (Mem.ew I) hle (by simp[cu,e]) λ_ _ _ _=>⟨rfl,λ_=>rfl⟩
  loc:=h.loc.trans hle
  j9:=λi li b hi hlb=>by
   by_cases e:i=id
   ·subst e;have:l=li:=by simpa[cu] using hi
    subst this;exact (hl b hlb).2.2.2
   ·exact h.j9 i li b (by simpa[cu,e] using hi) hlb
  fO:=λi li b hi hlb=>by
   by_cases e:i=id
   ·subst e;have:l=li:=by simpa[cu] using hi
    subst this;exact⟨(hl b hlb).1,(hl b hlb).2.1⟩
   ·exact h.fO i li b (by simpa[cu,e] using hi) hlb
  apart:=λi j li lj b hi hj u5 xg=>by
   by_cases ei:i=id<;>by_cases ej:j=id
   ·rw[ei,ej]
   ·subst ei;have:l=li:=by simpa[cu] using hi
    subst this;exact absurd xg ((hl b u5).2.2.1 j lj (by simpa[cu,ej] using hj))
   ·subst ej;have:l=lj:=by simpa[cu] using hj
    subst this;exact absurd u5 ((hl b xg).2.2.1 i li (by simpa[cu,ei] using hi))
   ·exact h.apart i j li lj b (by simpa[cu,ei] using hi) (by simpa[cu,ej] using hj) u5 xg }
def atv(C:Ctx)(env:Env)(tm:Array Value)(w:World)(I:Mem)(L:bg)(H':aq)(bs:List Nat)(R:bg->Prop):Prop:=∃L',fV C env H' I L' tm w/\dN L L'/\(∀id l b,L' id=some l->l.has b->(L id=some l)\/b∈bs)/\R L'
theorem zo:(∀ (r:RV) (k:Nat),k<=(cq k r).2):=by
 intro r;refine RV.rec (motive_1:=λr=>∀k,k<=(cq k r).2) (motive_2:=λrs=>∀k,k<=(iP k rs).2) ?_ ?_ ?_ ?_ ?_ ?_ ?_ r
 ·intro x k;exact Nat.le_refl _
 ·intro e sz es k;exact Nat.le_succ _
 ·intro e sz j e' sz' es k;exact Nat.le_succ _
 ·intro rs ih k;exact ih k
 ·intro rs ih k;exact ih k
 ·intro k;exact Nat.le_refl _
 ·intro r rs ih1 ih2 k;exact Nat.le_trans (ih1 k) (ih2 _)
theorem ac3(rs:List RV):∀k:Nat,k<=(iP k rs).2:=by
 induction rs with
 |nil=>intro k;exact Nat.le_refl _
 |cons r rs ih=>intro k;exact Nat.le_trans (zo r k) (ih _)
theorem abr:∀ (r:RV) (k:Nat) (H:aq) (i:Nat),(i<k\/(cq k r).2<=i)->fU k H r i=H i:=by
 intro r;refine RV.rec (motive_1:=λr=>∀k (H:aq) i,(i<k\/(cq k r).2<=i)->fU k H r i=H i) (motive_2:=λrs=>∀k (H:aq) i,(i<k\/(iP k rs).2<=i)->kF k H rs i=H i) ?_ ?_ ?_ ?_ ?_ ?_ ?_ r
 ·intro x k H i _;rfl
 ·intro e sz es k H i hi;show bh H k _ i=H i;unfold bh;rw[if_neg];rintro rfl;rcases hi with h|h
  ·exact Nat.lt_irrefl _ h
  ·exact Nat.lt_irrefl _ h
 ·intro e sz j e' sz' es k H i hi;show bh H k _ i=H i;unfold bh;rw[if_neg];rintro rfl;rcases hi with h|h
  ·exact Nat.lt_irrefl _ h
  ·exact Nat.lt_irrefl _ h
 ·intro rs ih k H i hi;exact ih k H i hi
 ·intro rs ih k H i hi;exact ih k H i hi
 ·intro k H i _;rfl
 ·intro r rs ih1 ih2 k H i hi;show kF _ (fU k H r) rs i=H i;have h1:=zo r k;have h2:=ac3 rs (cq k r).2;have hi':i<k\/(iP (cq k r).2 rs).2<=i:=hi;rw[ih2 _ _ i (by omega),ih1 k H i (by omega)]
section
variable{C:Ctx}{env:Env}{tm:Array Value}{w:World}{B:Nat}
def apv(C:Ctx)(env:Env)(tm:Array Value)(w:World)(B:Nat)(I:Mem)(r:RV):Prop :=
 ∀ (k:Nat) (H:aq) (L:bg) (u:Value) (bs:List Nat),fV C env H I L tm w->xq w B I u r bs->C.w0.heap.size<=B->bs.Nodup->(∀b∈bs,B<=b/\b<w.heap.size) ->
  (∀b∈bs,∀i li,L i=some li->¬ li.has b)->(∀i,k<=i->i<(cq k r).2->H i=none)->atv C env tm w I L (fU k H r) bs λL'=>di I L' u (cq k r).1
def atw(C:Ctx)(env:Env)(tm:Array Value)(w:World)(B:Nat)(I:Mem)(rs:List RV):Prop :=
 ∀ (k:Nat) (H:aq) (L:bg) (us:List Value) (bs:List (List Nat)),fV C env H I L tm w->us.length=rs.length->us.length=bs.length ->
  (∀ (j:Nat) u r b,us[j]? = some u->rs[j]? = some r->bs[j]? = some b->xq w B I u r b)->C.w0.heap.size<=B->bs.flatten.Nodup->(∀b∈bs.flatten,B<=b/\b<w.heap.size) ->
  (∀b∈bs.flatten,∀i li,L i=some li->¬ li.has b)->(∀i,k<=i->i<(iP k rs).2->H i=none)->atv C env tm w I L (kF k H rs) bs.flatten λL'=>ng I L' us (iP k rs).1
theorem we(r:RV):apv C env tm w B I r:=by
 refine RV.rec (motive_1:=apv C env tm w B I) (motive_2:=atw C env tm w B I) ?_ ?_ ?_ ?_ ?_ ?_ ?_ r
 ·intro x k H L u bs hs hr _ _ _ _ _;cases hr with
  |p _ _ h=>exact⟨L,hs,dN.refl L,λid l b hl _=>.inl hl,.p _ _ h⟩
 ·intro e sz es k H L u bs hs hr hB hnd hbs hap hfr;cases hr with
  |row _ _ _ _ us h h1 =>
   have hk:H k=none:=hfr k (Nat.le_refl _) (Nat.lt_succ_self _);refine⟨cu L k (.row 0 u sz),hs.add hk _ _ ?_ ?_,dN.vW (hs.tr hk) _,?_,.row _ _ _ 0 u sz (by simp[cu]) (Nat.le_refl _) (λ_=>rfl) h1⟩
   ·exact⟨u,us,by simp[cu],ab0 h.own (Nat.le_trans C.hB hB),h.pos,h.all,h.val,h.one,h.free⟩
   ·intro b hb;have hm:b∈u.ownBlock.toList:=by have:u.ownBlock=some b:=hb;simp[this]
    exact⟨Nat.le_trans (Nat.le_trans C.hB hB) (hbs b hm).1,(hbs b hm).2,hap b hm,.inl (Nat.le_trans hB (hbs b hm).1)⟩
   ·intro id l b hl hb;by_cases e:id=k
    ·subst e;have:Loc.row 0 u sz=l:=by simpa[cu] using hl
     subst this;right;have:u.ownBlock=some b:=hb;simp[this]
    ·exact .inl (by simpa[cu,e] using hl)
 ·intro e sz j e' sz' es k H L u bs hs hr hB hnd hbs hap hfr;cases hr with
  |deep _ _ _ _ _ _ _ us eT h h1 hk hall hin aD2 =>
   have hkn:H k=none:=hfr k (Nat.le_refl _) (Nat.lt_succ_self _);have aAY:C.B<=B:=Nat.le_trans C.hB hB;have low:∀ {v:Value} {e:TypeId} {sz:Nat} {es:List (List PV)} {us:List Value},rq w B I v e sz es us->rq w C.B I v e sz es us:=λh=>⟨ab0 h.own aAY,h.pos,h.all,h.val,h.one,h.free⟩
   refine⟨cu L k (.deep 0 u sz sz' eT es.length),hs.add hkn _ _ ?_ ?_,dN.vW (hs.tr hkn) _,?_,.kP _ _ _ 0 u sz sz' eT es.length (by simp[cu]) (Nat.le_refl _) (λ_=>rfl) h1⟩
   ·exact⟨u,us,eT,by simp[cu],low h,h1,hk,hall,λi x hx=>by
     obtain⟨l,us',q1,q2,q3⟩:=hin i x hx;exact⟨l,us',q1,low q2,q3⟩,aD2⟩
   ·intro b hb;have hm:b∈zc u eT es.length:=abk.2 hb;exact⟨Nat.le_trans aAY (hbs b hm).1,(hbs b hm).2,hap b hm,.inl (Nat.le_trans hB (hbs b hm).1)⟩
   ·intro id l b hl hb;by_cases e:id=k
    ·subst e;have:Loc.deep 0 u sz sz' eT es.length=l:=by simpa[cu] using hl
     subst this;exact .inr (abk.2 hb)
    ·exact .inl (by simpa[cu,e] using hl)
 ·intro rs ih k H L u bs hs hr hB hnd hbs hap hfr;cases hr with
  |agg us _ bs hl hl' hv hone=>obtain⟨L',h1,h2,h3,h4⟩:=ih k H L us bs hs hl hl' hv hB hnd hbs hap hfr;exact⟨L',h1,h2,h3,u7 h4.1 h4.2 hone⟩
 ·intro rs ih k H L u bs hs hr hB hnd hbs hap hfr;cases hr with
  |dg us _ bs hl hl' hv=>obtain⟨L',h1,h2,h3,h4⟩:=ih k H L us bs hs hl hl' hv hB hnd hbs hap hfr;exact⟨L',h1,h2,h3,.dg us _ h4.1 h4.2⟩
 ·intro k H L us bs hs hl hl' _ _ _ _ _ _;have:us=[]:=by simpa using hl
  subst this;exact⟨L,hs,dN.refl L,λid l b hl _=>.inl hl,rfl,by simp⟩
 ·intro r rs ih1 ih2 k H L us bs hs hl hl' hv hB hnd hbs hap hfr;cases us with
  |nil=>simp at hl
  |cons u us =>
   cases bs with
   |nil=>simp at hl'
   |cons b bs =>
    simp only[List.flatten_cons,List.nodup_append,List.mem_append] at hnd hbs hap;obtain⟨L1,a1,a2,a3,a4⟩:=ih1 k H L u b hs (hv 0 u r b rfl rfl rfl) hB hnd.1 (λx hx=>hbs x (.inl hx)) (λx hx=>hap x (.inl hx)) (λi h1 h2=>hfr i h1 (Nat.lt_of_lt_of_le h2 (ac3 rs _)));obtain⟨L2,b1,b2,b3,b4⟩:=ih2 (cq k r).2 (fU k H r) L1 us bs a1 (by simpa using hl) (by simpa using hl') (λj u r b hu hr hb=>hv (j+1) u r b hu hr hb) hB hnd.2.1 (λx hx=>hbs x (.inr hx)) (λx hx i li hi hli=>by
     rcases a3 i li x hi hli with h|h
     ·exact hap x (.inr hx) i li h hli
     ·exact hnd.2.2 x h x hx rfl) (λi h1 h2=>by
      rw[abr r k H i (.inr h1)];exact hfr i (Nat.le_trans (zo r k) h1) h2)
    refine⟨L2,b1,λid=>?_,λid l x hl hx=>?_,by simp[iP,b4.1],λj v a yz ha=>?_⟩
    ·exact (a2.trans b2) id
    ·rcases b3 id l x hl hx with h|h
     ·rcases a3 id l x h hx with h|h
      ·exact .inl h
      ·exact .inr (by simp[h])
     ·exact .inr (by
       rw[List.flatten_cons];exact List.mem_append_right _ h)
    ·cases j with
     |zero =>
      simp at yz ha;subst yz;have ha':(cq k r).1=a:=by simpa[iP] using ha
      rw[<-ha'];exact a4.mono (Mem.ew I) b2
     |succ j=>exact b4.2 j v a (by simpa using yz) (by simpa[iP] using ha)
end
mutual
def RV.flat:RV->Bool
 | .p x=>x.scalar
 | .row _ _ es=>es.all λx=>x.all isVal
 | .deep _ _ _ _ _ _=>false
 | .agg rs=>RV.aa2 rs
 | .dg rs=>RV.aa2 rs
def RV.aa2:List RV->Bool
 | []=>true
 |r :: rs=>r.flat&&RV.aa2 rs
end
theorem rq.flat{w:World}{B:Nat}{J:Mem}{hdr:Value}{e:TypeId}{sz:Nat}{es:List (List PV)}{us:List Value}(h:rq w B J hdr e sz es us)(hf:(es.all λx=>x.all isVal)=true)(hI:∀b,hdr.ownBlock=some b->∀o,I b o=none) :
  rq w B I hdr e sz es us :=
 {h with
  val:=λj u c hu hc=>(h.val j u c hu hc).isVal (by
   have hm:=List.mem_of_getElem? hc;obtain⟨x,hx,hcx⟩:=List.mem_flatten.1 hm;exact List.all_eq_true.1 (List.all_eq_true.1 hf x hx) c hcx)
  free:=hI }
theorem xq.flat{w:World}{B:Nat}{J:Mem}{u:Value}{r:RV}{bs:List Nat}(h:xq w B J u r bs):r.flat=true->(∀b∈bs,∀o,I b o=none)->xq w B I u r bs:=by
 induction h with
 |p u x h=>exact λhf _=>.p _ _ (h.scalar hf)
 |row hdr e sz es us h h1=>intro hf hI;exact .row hdr e sz es us (h.flat hf λb hb=>hI b (by simp[hb])) h1
 |deep=>intro hf;cases hf
 |agg us rs bs hl hl' hv hone ih =>
  intro hf hI;have hall:∀rs:List RV,RV.aa2 rs=true->∀r∈rs,r.flat=true:=by
   intro rs
   induction rs with
   |nil=>intro _ r hr;cases hr
   |cons a r ih =>
    intro h x hx;simp only[RV.aa2,Bool.and_eq_true] at h;rcases List.mem_cons.1 hx with rfl|hx
    ·exact h.1
    ·exact ih h.2 x hx
  exact .agg us rs bs hl hl' (λj u r b hu hr hb=>ih j u r b hu hr hb (hall rs hf r (List.mem_of_getElem? hr)) λx hx=>hI x (List.mem_flatten.2 ⟨b,List.mem_of_getElem? hb,hx⟩)) hone
 |dg us rs bs hl hl' hv ih =>
  intro hf hI;have hall:∀rs:List RV,RV.aa2 rs=true->∀r∈rs,r.flat=true:=by
   intro rs
   induction rs with
   |nil=>intro _ r hr;cases hr
   |cons a r ih =>
    intro h x hx;simp only[RV.aa2,Bool.and_eq_true] at h;rcases List.mem_cons.1 hx with rfl|hx
    ·exact h.1
    ·exact ih h.2 x hx
  exact .dg us rs bs hl hl' (λj u r b hu hr hb=>ih j u r b hu hr hb (hall rs hf r (List.mem_of_getElem? hr)) λx hx=>hI x (List.mem_flatten.2 ⟨b,List.mem_of_getElem? hb,hx⟩))
def atx(P:Program)(o:Oper)(ρ:Operand->AV)(H:aq)(Kr:AV->aq->Prop):Prop :=
 ∃k dP ps b Q,∃id:Nat,cB o ρ=some (k,dP)/\dO (fW H) dP=some (ps,b)/\aZ P k ps Q /\
  ∀r,Q r->(b=true->r.flat=true)/\(∀i,id<=i->i<(cq id r).2->H i=none)/\Kr (cq id r).1 (fU id H r)
theorem aiF{o:Oper}{ρ:Operand->AV}{H:aq}{Kr:AV->aq->Prop}(h:atx P o ρ H Kr){C:Ctx}{env:Env}{tm:Array Value}{w:World}(hs:fV C env H I L tm w){σ:Operand->Value}(hσ:∀x,di I L (σ x) (ρ x)) :
  ∃k args,(execOp σ o).run P w = .ok (.enter k args) w/\Calls P k args w λe w'=>∃v I' L' a H',e = .returned v/\Kr a H'/\di I' L' v a/\fV C env H' I' L' tm w':=by
 obtain⟨k,dP,ps,b,Q,id,h1,h2,h3,h4⟩:=h;obtain⟨us,hr,hu⟩:=nQ h1 h3.1 hσ w;refine⟨k,_,hr,?_⟩
 have fin : ∀ {I' : Mem} {w' : World} {v : Value} {r : RV} {bs : List Nat}, fV C env H I' L tm w' → xq w' w.heap.size I' v r bs → bs.Nodup → (∀ b ∈ bs, w.heap.size ≤ b ∧ b < w'.heap.size) → (∀ i, id ≤ i → i < (cq id r).2 → H i = none) →
   ∃L',fV C env (fU id H r) I' L' tm w'/\di I' L' v (cq id r).1:=by
  intro I' w' v r bs hs' hrv hnd hbs hfr;obtain⟨L',k1,_,_,k4⟩:=we r id H L v bs hs' hrv hs.below.size hnd hbs (λb hb i li hi hli=>by
   have h1:=(hs.fO i li b hi hli).2;have h2:=(hbs b hb).1;omega) hfr
  exact⟨L',k1,k4⟩
 cases b with
 |false =>
  obtain⟨k1,_,k3⟩:=kE (pG hs (ta H) (mz hs.mem) ((tc L w).g H)) dP ps false h2 us hu.1 hu.2;refine (h3.2 I w us hs.mem ⟨k1,k3 rfl⟩).mono λe w' ⟨v,r,bs,I',q1,q2,q3,q4,q5,q6,q7,q8,q9⟩=>?_
  obtain⟨_,m2,m3⟩:=h4 r q2;obtain⟨L',n1,n2⟩:=fin (hs.grow q6 q7 q8 q9) q3 q4 q5 m2;exact⟨v,I',L',_,_,q1,m3,n2,n1⟩
 |true =>
  obtain⟨k1,k2,_⟩:=kE (pG hs (ta H) (mz hs.mem) ((tc L w).g H)) dP ps true h2 us hu.1 hu.2;refine (h3.2 (snap w) w us (aeW w) ⟨k1,k2⟩).mono λe w' ⟨v,r,bs,I',q1,q2,q3,q4,q5,q6,q7,q8,q9⟩=>?_
  obtain⟨m1,m2,m3⟩:=h4 r q2;have hfree:∀b∈bs,∀o,I b o=none:=λb hb o=>by
   cases hI:I b o with
   |none=>rfl
   |some u=>exact absurd (hs.mem.lt hI) (by have:=(q5 b hb).1;omega)
  obtain⟨L',n1,n2⟩:=fin (hs.world (q6.mono hs.leB) λb hb=>q6.block b hb) (q3.flat (m1 rfl) hfree) q4 q5 m2;exact⟨v,I,L',_,_,q1,m3,n2,n1⟩
mutual
def RV.pv:RV->PV
 | .p x=>x
 | .row _ _ es=>.aE es
 | .deep _ _ _ _ _ es=>.aE es
 | .agg rs=>.agg (RV.pvL rs)
 | .dg rs=>.dg (RV.pvL rs)
def RV.pvL:List RV->List PV
 | []=>[]
 |r :: rs=>r.pv :: RV.pvL rs
end
theorem RV.aiG:∀ (rs:List RV) (j:Nat) (c:PV),(RV.pvL rs)[j]? = some c->∃r,rs[j]? = some r/\r.pv=c
 | [],j,c,h=>by simp[RV.pvL] at h
 |r :: rs,j,c,h=>by
  cases j with
  |zero=>simp[RV.pvL] at h;exact⟨r,rfl,h⟩
  |succ j=>obtain⟨r',h1,h2⟩:=RV.aiG rs j c (by simpa[RV.pvL] using h);exact⟨r',by simpa using h1,h2⟩
theorem RV.aiH:∀ (rs:List RV),(RV.pvL rs).length=rs.length
 | []=>rfl
 |r :: rs=>by simp[RV.pvL,RV.aiH rs]
theorem xq.pv{w:World}{B:Nat}{J:Mem}{u:Value}{r:RV}{bs:List Nat}(h:xq w B J u r bs):∀ {K:Mem},J.sub K->(∀b,B<=b->∀o u,w.cell? ⟨b,o,none⟩=some u->K b o=some u)->VR K u r.pv:=by
 induction h with
 |p u x h=>exact λhK _=>h.mono hK
 |row hdr e sz es us h h1 =>
  intro K hK ac4;show VR K hdr (.aE es);have hfl:=b5 h.all;have hlen:us.length=es.flatten.length:=by rw[hfl];exact h.own.1
  rcases h.own.2 with ⟨rfl,hn⟩|⟨g,cap,cur,rfl,hb,hg,hnc,hcm,hcs,nh⟩
  ·have he:es=[]:=List.length_eq_zero_iff.1 hn;subst he;exact .aE none 0 0 [] us sz rfl (by simp) hlen (λj u c hu hc=>(h.val j u c hu hc).mono hK) h.one (.inl (List.length_eq_zero_iff.1 (by simpa using hlen))) (λ_=>⟨rfl,rfl⟩) (Nat.le_refl _)
  ·refine .aE _ _ _ es us sz rfl h.all hlen (λj u c hu hc=>(h.val j u c hu hc).mono hK) h.one (.inr ⟨g,0,rfl,λj u hu=>?_⟩) (by simp) hnc;rw[Nat.zero_add];refine ac4 g hb j u ?_;rw[gW hg];rw[<-nh,List.getElem?_take] at hu;split at hu
   ·simpa using hu
   ·cases hu
 |deep hdr e sz k e' sz' es us eT h h1 hk hall hin hap =>
  intro K hK ac4;exact apt h hall hin hK λb hb=>ac4 b (by
   rcases hb with hb|⟨i,hi,hb⟩
   ·exact (zn h.own hb)
   ·obtain⟨l,us',q1,q2,q3⟩:=hin i _ (List.getElem?_eq_getElem hi);exact zn q2.own hb)
 |agg us rs bs hl hl' hv hone ih =>
  intro K hK ac4;show VR K (.agg us.toArray) (.agg (RV.pvL rs));refine .agg us _ (by rw[RV.aiH];exact hl) (λj u c hu hc=>?_) hone;obtain⟨r,h1,rfl⟩:=RV.aiG rs j c hc;obtain⟨b,hb⟩:∃b,bs[j]? = some b:=by have hj:j<us.length:=(List.getElem?_eq_some_iff.1 hu).1;exact⟨bs[j]'(by omega),by simp[hl' ▸ hj]⟩
  exact ih j u r b hu h1 hb hK ac4
 |dg us rs bs hl hl' hv ih =>
  intro K hK ac4;show VR K (.tuple us.toArray) (.dg (RV.pvL rs));refine .dg us _ (by rw[RV.aiH];exact hl) (λj u c hu hc=>?_);obtain⟨r,h1,rfl⟩:=RV.aiG rs j c hc;obtain⟨b,hb⟩:∃b,bs[j]? = some b:=by have hj:j<us.length:=(List.getElem?_eq_some_iff.1 hu).1;exact⟨bs[j]'(by omega),by simp[hl' ▸ hj]⟩
  exact ih j u r b hu h1 hb hK ac4
def Mem.aqo(I:Mem)(B:Nat)(w:World):Mem:=λb o=>if b<B then I b o else w.cell? ⟨b,o,none⟩
theorem aZ.toV{f:FuncId}{args:List PV}{Q:RV->Prop}(h:aZ P f args Q):aB P f args λx=>∃r,Q r/\x=r.pv :=
 ⟨h.1,λI w vs hI hv=>(h.2 I w vs hI hv).mono λe w' ⟨v,r,bs,I',q1,q2,q3,q4,q5,q6,q7,q8,q9⟩=>by
  have hsub:I'.sub (I'.aqo w.heap.size w'):=λb o u hu=>by
   unfold Mem.aqo;split
   ·exact hu
   ·exact q8 b o u hu
  refine⟨v,r.pv,I'.aqo w.heap.size w',q1,⟨r,q2,rfl⟩,q3.pv hsub (λb hb o u hu=>?_),q6,Mem.nO q7 hsub,λb o u hu=>?_,λb hb o=>?_⟩
  ·unfold Mem.aqo;rw[if_neg (by omega)];exact hu
  ·unfold Mem.aqo at hu;split at hu
   ·exact q8 b o u hu
   ·exact hu
  ·unfold Mem.aqo;rw[if_pos hb];exact q9 b hb o⟩
theorem aZ.aAZ{f:FuncId}{args:List PV}{r0:RV}(h:aZ P f args λr=>r=r0):aB P f args λx=>x=r0.pv:=h.toV.mono λx ⟨r,h1,h2⟩=>by rw[h2,h1]
end Go.bP
namespace Go.bP
open Go.RowKit
variable{P:Program}{I:Mem}{L:bg}
def Ctx.am1(w:World)(I:Mem)(n B v sz:Nat)(hdr:Value)(hB:B<=w.heap.size):Ctx :=
 ⟨w,I,n,B,λb=>hdr.ownBlock=some b,λi=>if i=1000000 then some (.row v hdr sz) else none,hB,λi l h=>by
  split at h
  ·omega
  ·cases h⟩
def pH(P:Program)(f:FuncId)(v:Nat)(e:TypeId)(sz:Nat)(es:List (List PV))(ps:List PV)(Q:AV->Option Chunk->Prop):Prop :=
 gl P f=true/\∀ (B:Nat) (I:Mem) (w:World) (hdr:Value) (us vs:List Value) (hB:B<=w.heap.size),I.inW w->rq w B I hdr e sz es us->hdr.oneCell'=true->VRs I vs ps ->
  Calls P f (hdr :: vs).toArray w λx w'=>∃u a H' I' L',x = .returned u/\Q a (H' 1000000)/\di I' L' u a/\fV (Ctx.am1 w I 0 B v sz hdr hB) gU H' I' L' #[] w'
theorem pH.mono{f:FuncId}{v:Nat}{e:TypeId}{sz:Nat}{es:List (List PV)}{ps:List PV}{Q Q':AV->Option Chunk->Prop}(h:pH P f v e sz es ps Q)(hq:∀a c,Q a c->Q' a c):pH P f v e sz es ps Q':=⟨h.1,λB I w hdr us vs hB hI hr h1 hv=>(h.2 B I w hdr us vs hB hI hr h1 hv).mono λ_ _ ⟨u,a,H',I',L',q1,q2,q3⟩=>⟨u,a,H',I',L',q1,hq _ _ q2,q3⟩⟩
def apw(id:Nat):AV->Option AV
 | .p x=>some (.p x)
 | .row i v=>if i=1000000 then some (.row id v) else none
 | .dg []=>some (.dg [])
 |_=>none
theorem vC{w:World}{B:Nat}{e:TypeId}{sz:Nat}{hdr:Value}{n:Nat}{us:List Value}(h:w.ownsRow B e sz hdr n us){b:Nat}(hb:hdr.ownBlock=some b):B<=b/\b<w.heap.size:=by
 rcases h.2 with ⟨rfl,_⟩|⟨g,cap,cur,rfl,h1,h2,_⟩
 ·cases hb
 ·have:g=b:=by simpa[Value.ownBlock] using hb
  subst this;refine⟨h1,?_⟩;rcases Nat.lt_or_ge g w.heap.size with h|h
  ·exact h
  ·simp[Array.getElem?_eq_none h] at h2
section
variable{C:Ctx}{env:Env}{H H':aq}{tm:Array Value}{w w':World}{id v sz:Nat}{e:TypeId}{es:List (List PV)}{hdr:Value}{J I':Mem}{L':bg}
theorem fV.back(h:fV C env H I L tm w)(hid:H id=some (.row v e sz es))(hl:L id=some (.row v hdr sz))(hJ:I.sub J)(hJn:∀b,hdr.ownBlock=some b->∀o,J b o=none)
  (hs':fV (Ctx.am1 w J 0 C.B v sz hdr h.leB) gU H' I' L' #[] w') {v':Nat} {e':TypeId} {sz':Nat} {es':List (List PV)} (hch:H' 1000000=some (.row v' e' sz' es'))
  {K:Mem} (hK:(J=I/\K=I')\/(K=I/\(es'.all λx=>x.all isVal)=true)) :
  ∃fN,L' 1000000=some (.row v' fN sz')/\fV C env (bh H id (.row v' e' sz' es')) K (cu L id (.row v' fN sz')) tm w'/\dN L (cu L id (.row v' fN sz')):=by
 obtain⟨fN,us',k1,k2,k3,k4,k5,k6,k7⟩:=hs'.chunk 1000000 _ hch;have hloc:dN L (cu L id (.row v' fN sz')):=λi=>by
  by_cases hi:i=id
  ·subst hi;rw[hl];have:=hs'.loc 1000000;simp only[Ctx.am1,if_true,k1] at this;obtain⟨v1,m9,m1,m2,m3⟩:=this;simp only[cm,Loc.row.injEq] at m1;obtain⟨rfl,rfl,rfl⟩:=m1;exact⟨v',fN,by simp[cu],m2,m3⟩
  ·have:cu L id (.row v' fN sz') i=L i:=by simp[cu,hi]
   rw[this];exact dN.refl L i
 have hown:∀b,hdr.ownBlock=some b->C.w0.heap.size<=b\/C.amN b:=λb hb=>h.j9 id _ b hl hb
 have hfr:∀b,b<w.heap.size->hdr.ownBlock≠some b->w'.heap[b]? = w.heap[b]?:=λb hb hn=>hs'.frame b hb hn
 have hIn:∀b o,b<w.heap.size->hdr.ownBlock≠some b->I' b o=J b o:=λb o hb hn=>hs'.m8 b hb hn o
 have aty:∀b,hdr.ownBlock=some b->∀o,I b o=none:=λb hb o=>by
  cases hI:I b o with
  |none=>rfl
  |some u=>have:=hJ b o u hI;rw[hJn b hb o] at this;cases this
 have atz:I.sub K:=by
  rcases hK with ⟨e1,e2⟩|⟨e1,_⟩
  ·rw[e2];exact Mem.nO hJ hs'.mw
  ·rw[e1];exact Mem.ew I
 have hKn:∀b o,b<w.heap.size->hdr.ownBlock≠some b->K b o=I b o:=λb o hb hn=>by
  rcases hK with ⟨e1,e2⟩|⟨e1,_⟩
  ·rw[e2,hIn b o hb hn,e1]
  ·rw[e1]
 have hKw:K.inW w':=by
  rcases hK with ⟨_,e2⟩|⟨e1,_⟩
  ·rw[e2];exact hs'.mem
  ·rw[e1];exact h.mem.keep λb ⟨o,u,hu⟩=>hfr b (h.mem.lt hu) λhb=>by rw[aty b hb o] at hu;cases hu
 have hblk:∀b,fN.ownBlock=some b->hdr.ownBlock=some b\/w.heap.size<=b:=λb hb=>(hs'.j9 1000000 _ b k1 hb).symm
 refine⟨fN,k1,?_,hloc⟩;exact
 {below:=h.below.trans hs'.below
  mem:=hKw
  mw:=Mem.nO h.mw atz
  m8:=λb hb hf o=>by
   have hn:hdr.ownBlock≠some b:=λhb'=>by
    rcases hown b hb' with h1|h1
    ·omega
    ·exact hf h1
   rw[hKn b o (Nat.lt_of_lt_of_le hb h.below.size) hn];exact h.m8 b hb hf o
  frame:=λb hb hf=>by
   have hn:hdr.ownBlock≠some b:=λhb'=>by
    rcases hown b hb' with h1|h1
    ·omega
    ·exact hf h1
   exact (hfr b (Nat.lt_of_lt_of_le hb h.below.size) hn).trans (h.frame b hb hf)
  loc:=h.loc.trans hloc
  j9:=λi li b hi hlb=>by
   by_cases ei:i=id
   ·subst ei;have:Loc.row v' fN sz'=li:=by simpa[cu] using hi
    subst this;rcases hblk b hlb with h1|h1
    ·exact hown b h1
    ·exact .inl (Nat.le_trans h.below.size h1)
   ·exact h.j9 i li b (by simpa[cu,ei] using hi) hlb
  size:=h.size
  env:=λt=>(h.env t).mono atz hloc
  dom:=λi li hi=>by
   by_cases ei:i=id
   ·exact⟨.row v' e' sz' es',by simp[bh,ei]⟩
   ·obtain⟨c,hc⟩:=h.dom i li (by simpa[cu,ei] using hi);exact⟨c,by simpa[bh,ei] using hc⟩
  chunk:=λi c hc=>by
   by_cases ei:i=id
   ·subst ei;have:Chunk.row v' e' sz' es'=c:=by simpa[bh] using hc
    subst this;refine⟨fN,us',by simp[cu],k2,k3,k4,λj u c hu hc=>?_,k6,λb hb o=>?_⟩
    ·rcases hK with ⟨_,e2⟩|⟨e1,aA0⟩
     ·rw[e2];exact k5 j u c hu hc
     ·rw[e1];refine (k5 j u c hu hc).isVal ?_;obtain⟨x,hx,hcx⟩:=List.mem_flatten.1 (List.mem_of_getElem? hc);exact List.all_eq_true.1 (List.all_eq_true.1 aA0 x hx) c hcx
    ·rcases hK with ⟨_,e2⟩|⟨e1,_⟩
     ·rw[e2];exact k7 b hb o
     ·rw[e1];rcases hblk b hb with h1|h1
      ·exact aty b h1 o
      ·cases hI:I b o with
       |none=>rfl
       |some u=>exact absurd (h.mem.lt hI) (by omega)
   ·refine (h.chunk i c (by simpa[bh,ei] using hc)).keep atz hloc (by simp[cu,ei]) λli b hi hlb=>?_
    have hn:hdr.ownBlock≠some b:=λhb'=>ei (h.apart i id li _ b hi hl hlb hb')
    have hlt:=(h.fO i li b hi hlb).2;exact⟨hfr b hlt hn,λo=>hKn b o hlt hn⟩
  fO:=λi li b hi hlb=>by
   by_cases ei:i=id
   ·subst ei;have:Loc.row v' fN sz'=li:=by simpa[cu] using hi
    subst this;exact hs'.fO 1000000 _ b k1 hlb
   ·have:=h.fO i li b (by simpa[cu,ei] using hi) hlb;exact⟨this.1,Nat.lt_of_lt_of_le this.2 hs'.below.size⟩
  apart:=λi j li lj b hi hj u5 xg=>by
   have one:∀k lk,k≠id->L k=some lk->lk.has b->fN.ownBlock≠some b:=λk lk hk hlk hbk hb'=>by
    rcases hblk b hb' with h1|h1
    ·exact hk (h.apart k id lk _ b hlk hl hbk h1)
    ·have:=(h.fO k lk b hlk hbk).2;omega
   by_cases ei:i=id<;>by_cases ej:j=id
   ·rw[ei,ej]
   ·subst ei;have:Loc.row v' fN sz'=li:=by simpa[cu] using hi
    subst this;exact absurd u5 (one j lj ej (by simpa[cu,ej] using hj) xg)
   ·subst ej;have:Loc.row v' fN sz'=lj:=by simpa[cu] using hj
    subst this;exact absurd xg (one i li ei (by simpa[cu,ei] using hi) u5)
   ·exact h.apart i j li lj b (by simpa[cu,ei] using hi) (by simpa[cu,ej] using hj) u5 xg }
end
def akf(H:aq)(id:Nat):aq:=λi=>if i=id then none else H i
theorem akg(H:aq)(id:Nat):HSub (akf H id) H:=λi c h=>by
 unfold akf at h;split at h
 ·cases h
 ·exact h
def sJ(w:World)(r:Option Nat):Mem:=λb o=>if r=some b then none else w.cell? ⟨b,o,none⟩
def atA(P:Program)(o:Oper)(ρ:Operand->AV)(H:aq)(Kr:AV->aq->Prop):Prop :=
 ∃k id v e sz es dP ps b Q,cB o ρ=some (k,.row id v :: dP)/\H id=some (.row v e sz es)/\dO (fW (akf H id)) dP=some (ps,b)/\pH P k v e sz es ps Q /\
  ∀a c,Q a c->∃v' e' sz' es' a',c=some (.row v' e' sz' es')/\apw id a=some a'/\(b=true->(es'.all λx=>x.all isVal)=true/\(match a' with | .p x=>x.scalar|_=>true)=true)/\Kr a' (bh H id (.row v' e' sz' es'))
theorem akh{J K:Mem}{L':bg}{u:Value}{a a':AV}{id v' sz':Nat}{fN:Value}(h:di J L' u a)(hb:apw id a=some a')(hl:L' 1000000=some (.row v' fN sz'))(hK:∀x,a' = .p x->VR J u x->VR K u x) :
  di K (cu L id (.row v' fN sz')) u a':=by
 unfold apw at hb;split at hb
 ·simp only[cm] at hb;subst hb;exact .p _ _ (hK _ rfl h.nc)
 ·split at hb
  ·rename_i i v hi;simp only[cm] at hb;subst hb;subst hi;cases h with
   |row _ _ _ v1 m9 sz1 ql hle hh h1=>rw[hl] at ql;simp only[cm,Loc.row.injEq] at ql;obtain⟨rfl,rfl,rfl⟩:=ql;exact .row u id v _ fN sz' (by simp[cu]) hle hh h1
  ·cases hb
 ·simp only[cm] at hb;subst hb;cases h with
  |dg us _ hl hv=>exact .dg us [] hl (by simp)
 ·cases hb
theorem aiI{o:Oper}{ρ:Operand->AV}{H:aq}{Kr:AV->aq->Prop}(h:atA P o ρ H Kr){C:Ctx}{env:Env}{tm:Array Value}{w:World}(hs:fV C env H I L tm w){σ:Operand->Value}(hσ:∀x,di I L (σ x) (ρ x)) :
  ∃k args,(execOp σ o).run P w = .ok (.enter k args) w/\Calls P k args w λe w'=>∃v I' L' a H',e = .returned v/\Kr a H'/\di I' L' v a/\fV C env H' I' L' tm w':=by
 obtain⟨k,id,v,e,sz,es,dP,ps,b,Q,h1,h2,h3,h4,h5⟩:=h;obtain⟨us,hr,hu⟩:=nQ h1 h4.1 hσ w;refine⟨k,_,hr,?_⟩;cases us with
 |nil=>have:=hu.1;simp at this
 |cons agA vs =>
  obtain⟨hdr,ws,q1,q2,q3,q4,q5,q6,q7⟩:=hs.chunk id _ h2;have hu0:=hu.2 0 agA _ rfl rfl;have hone:agA=hdr/\hdr.oneCell'=true:=by
   cases hu0 with
   |row _ _ _ v1 m9 sz1 hl hle hh h1=>rw[q1] at hl;simp only[cm,Loc.row.injEq] at hl;obtain⟨_,r2,_⟩:=hl;subst r2;have:=hh (by assumption);subst this;exact⟨rfl,h1⟩
  obtain⟨rfl,h1c⟩:=hone;have ae0:ng I L vs dP:=⟨by simpa using hu.1,λj u c hj hc=>hu.2 (j+1) u c hj hc⟩;cases b with
  |false =>
   obtain⟨k1,_,k3⟩:=kE (pG hs (akg H id) (mz hs.mem) ((tc L w).g _)) dP ps false h3 vs ae0.1 ae0.2;refine (h4.2 C.B I w agA ws vs hs.leB hs.mem ⟨q2,q3,q4,q5,q6,q7⟩ h1c ⟨k1,k3 rfl⟩).mono λx w' ⟨u,a,H',I',L',m1,m2,m3,m4⟩=>?_
   obtain⟨v',e',sz',es',a',n1,n2,_,n4⟩:=h5 a _ m2;obtain⟨fN,g1,g2,g3⟩:=hs.back h2 q1 (Mem.ew I) q7 m4 n1 (K:=I') (.inl ⟨rfl,rfl⟩);exact⟨u,I',_,a',_,m1,n4,akh m3 n2 g1 λ_ _ h=>h,g2⟩
  |true =>
   have hJ:I.sub (sJ w agA.ownBlock):=λb o u hu=>by
    unfold sJ;split
    ·rename_i hb;rw[q7 b hb o] at hu;cases hu
    ·exact hs.mem b o u hu
   have hJn:∀b,agA.ownBlock=some b->∀o,sJ w agA.ownBlock b o=none:=λb hb o=>by unfold sJ;rw[if_pos hb]
   have hJw:(sJ w agA.ownBlock).inW w:=λb o u hu=>by
    unfold sJ at hu;split at hu
    ·cases hu
    ·exact hu
   have ac4:aeX (akf H id) L w (sJ w agA.ownBlock):=λi ch hi l b hl hb o u hu=>by
    unfold sJ;rw[if_neg]
    ·exact hu
    ·intro hb';have:=hs.apart i id l _ b hl q1 hb hb';subst this;simp[akf] at hi
   obtain⟨k1,k2,_⟩:=kE (pG hs (akg H id) hJ ac4) dP ps true h3 vs ae0.1 ae0.2;refine (h4.2 C.B (sJ w agA.ownBlock) w agA ws vs hs.leB hJw ⟨q2,q3,q4,λj u c hu hc=>(q5 j u c hu hc).mono hJ,q6,hJn⟩ h1c ⟨k1,k2⟩).mono λx w' ⟨u,a,H',I',L',m1,m2,m3,m4⟩=>?_
   obtain⟨v',e',sz',es',a',n1,n2,n3,n4⟩:=h5 a _ m2;obtain⟨n5,n6⟩:=n3 rfl;obtain⟨fN,g1,g2,g3⟩:=hs.back h2 q1 hJ hJn m4 n1 (K:=I) (.inr ⟨rfl,n5⟩);exact⟨u,I,_,a',_,m1,n4,akh m3 n2 g1 λx hx h=>by subst hx;exact h.scalar n6,g2⟩
end Go.bP
namespace Go.bP
open Go.RowKit
variable{P:Program}{I:Mem}{L:bg}
open Classical in
noncomputable def Mem.rS(I:Mem)(L:bg)(w:World)(id:Nat):Mem:=λb o=>match L id with
 |some l=>if l.has b then w.cell? ⟨b,o,none⟩ else I b o
 |none=>I b o
theorem Mem.ae1{I:Mem}{w:World}(h:I.inW w)(L:bg)(id:Nat):I.sub (I.rS L w id):=λb o u hu=>by
 unfold Mem.rS;split
 ·split
  ·exact h b o u hu
  ·exact hu
 ·exact hu
theorem Fr.shut(C:Ctx)(I:Mem)(L:bg){H:aq}(w:World){id v sz:Nat}{e:TypeId}{es:List (List PV)}(hH:H id=some (.row v e sz es)) :
  Fr C I L H w (I.rS L w id) L (bh H id (.shut v es)) w:=λenv tm hs=>by
 have hsub:=Mem.ae1 hs.mem L id;have ac4:∀l b,L id=some l->l.has b->∀o u,w.cell? ⟨b,o,none⟩=some u->I.rS L w id b o=some u:=λl b hl hb o u hu=>by unfold Mem.rS;rw[hl];simp[hb,hu]
 have azY:∀i l b,i≠id->L i=some l->l.has b->∀o,I.rS L w id b o=I b o:=λi l b hne hl hb o=>by
  unfold Mem.rS;split
  ·rename_i l' hl';split
   ·rename_i hb';exact absurd (hs.apart i id l l' b hl hl' hb hb') hne
   ·rfl
  ·rfl
 obtain⟨hdr,us,h1,h2,h3,h4,h5,h6,h7⟩:=hs.chunk id _ hH;exact
 {below:=hs.below
  mem:=λb o u hu=>by
   unfold Mem.rS at hu;split at hu
   ·split at hu
    ·exact hu
    ·exact hs.mem b o u hu
   ·exact hs.mem b o u hu
  mw:=Mem.nO hs.mw hsub
  m8:=λb hb hf o=>by
   rw[<-hs.m8 b hb hf o];unfold Mem.rS;split
   ·rename_i l hl;split
    ·rename_i hlb;rcases hs.j9 id l b hl hlb with h|h
     ·omega
     ·exact absurd h hf
    ·rfl
   ·rfl
  frame:=hs.frame
  loc:=hs.loc
  j9:=hs.j9
  size:=hs.size
  env:=λt=>(hs.env t).mono hsub (dN.refl L)
  dom:=λi l hl=>by
   obtain⟨c,hc⟩:=hs.dom i l hl;by_cases e:i=id
   ·exact⟨.shut v es,by simp[bh,e]⟩
   ·exact⟨c,by simpa[bh,e] using hc⟩
  chunk:=λi c hc=>by
   by_cases e:i=id
   ·subst e;have:Chunk.shut v es=c:=by simpa[bh] using hc
    subst this;refine⟨hdr,sz,h1,?_,h4,?_⟩
    ·have hfl:=b5 h4;have hlen:us.length=es.flatten.length:=by rw[hfl];exact h2.1
     rcases h2.2 with ⟨rfl,hn⟩|⟨g,cap,cur,rfl,hb,hg,hnc,hcm,hcs,nh⟩
     ·have he:es=[]:=List.length_eq_zero_iff.1 hn;subst he;exact .aE none 0 0 [] us sz rfl (by simp) hlen (λj u c hu hc=>(h5 j u c hu hc).mono hsub) h6 (.inl (List.length_eq_zero_iff.1 (by simpa using hlen))) (λ_=>⟨rfl,rfl⟩) (Nat.le_refl _)
     ·refine .aE _ _ _ es us sz rfl h4 hlen (λj u c hu hc=>(h5 j u c hu hc).mono hsub) h6 (.inr ⟨g,0,rfl,λj u hu=>?_⟩) (by simp) hnc;rw[Nat.zero_add];refine ac4 _ g h1 rfl j u ?_;rw[gW hg];rw[<-nh,List.getElem?_take] at hu;split at hu
      ·simpa using hu
      ·cases hu
    ·intro hne;rcases h2.2 with ⟨rfl,hn⟩|⟨g,cap,cur,rfl,_⟩
     ·exact absurd (List.length_eq_zero_iff.1 hn) hne
     ·exact⟨g,0,_,cap,rfl⟩
   ·exact (hs.chunk i c (by simpa[bh,e] using hc)).keep hsub (dN.refl L) rfl λl b hl hb=>⟨rfl,λo=>azY i l b e hl hb o⟩
  fO:=hs.fO
  apart:=hs.apart }
def apx(H:aq)(id:Nat):aq:=match H id with
 |some (.row v _ _ es)=>bh H id (.shut v es)
 |_=>H
def cY:List Nat->aq->aq
 | [],H=>H
 |id :: r,H=>cY r (apx H id)
theorem Fr.cY(C:Ctx)(L:bg)(w:World):∀ (ids:List Nat) (H:aq) (I:Mem),(I.inW w)->∃I',I.sub I'/\I'.inW w/\Fr C I L H w I' L (cY ids H) w
 | [],H,I,hw=>⟨I,Mem.ew I,hw,Fr.refl C I L H w⟩
 |id :: r,H,I,hw=>by
  unfold bP.cY apx;split
  ·rename_i v e sz es hH;have hw':(I.rS L w id).inW w:=λb o u hu=>by
    unfold Mem.rS at hu;split at hu
    ·split at hu
     ·exact hu
     ·exact hw b o u hu
    ·exact hw b o u hu
   obtain⟨I',h1,h2,h3⟩:=Fr.cY C L w r (bh H id (.shut v es)) (I.rS L w id) hw';exact⟨I',Mem.nO (Mem.ae1 hw L id) h1,h2,(Fr.shut C I L w hH).trans h3⟩
  ·exact Fr.cY C L w r H I hw
def aiJ:List AV->List Nat
 | []=>[]
 | .row id _ :: r=>id :: aiJ r
 |_ :: r=>aiJ r
def pI:List (Nat×AV)->List Nat
 | []=>[]
 |(_,.row id _) :: r=>id :: pI r
 |(_,.agg cs) :: r=>aiJ cs++pI r
 |_ :: r=>pI r
def ae2(H:aq)(a:AV):AV:=match a with
 | .row id aW=>match H id with
  |some (.shut v es)=>if v=aW then .p (.aE es) else .row id aW
  |_=>.row id aW
 |a=>a
def zq(H:aq)(a:AV):AV:=match a with
 | .agg cs=>.agg (cs.map (ae2 H))
 |a=>ae2 H a
theorem adR(a:AV):ae2 cv a=a:=by unfold ae2;cases a<;>rfl
theorem aki(a:AV):zq cv a=a:=by
 unfold zq;cases a with
 |agg cs =>
  have:cs.map (ae2 cv)=cs:=by rw[List.map_congr_left (λx _=>adR x),List.map_id']
  simp only[this]
 |_=>exact adR _
def xu(P:Program)(o:Oper)(ρ:Operand->AV)(H:aq):Option (Prop×AV×aq):=match o.op with
 | .buildSlice t n parts=>match k9 P t n ((parts.toList.map λx=>(x.1,ρ x.2)).map λx=>(x.1,zq (cY (pI (parts.toList.map λx=>(x.1,ρ x.2))) H) x.2)) with
  |some (_,es)=>some (True,.p (.aE es),cY (pI (parts.toList.map λx=>(x.1,ρ x.2))) H)
  |none=>none
 |_=>none
theorem adS{C:Ctx}{H:aq}{env:Env}{tm:Array Value}{w:World}(hs:fV C env H I L tm w){u:Value}{a:AV}(hu:di I L u a):di I L u (ae2 H a):=by
 unfold ae2;split
 ·rename_i id aW;split
  ·rename_i v es hH;split
   ·rename_i hv;subst hv;obtain⟨hdr,sz,h1,h2,_⟩:=hs.chunk id _ hH;cases hu with
    |row _ _ _ v1 m9 sz1 hl hle hh hone=>rw[h1] at hl;simp only[cm,Loc.row.injEq] at hl;obtain⟨r1,r2,r3⟩:=hl;subst r1 r2 r3;rw[hh rfl];exact .p _ _ h2
   ·exact hu
  ·exact hu
 ·exact hu
theorem akj{C:Ctx}{H:aq}{env:Env}{tm:Array Value}{w:World}(hs:fV C env H I L tm w){u:Value}{a:AV}(hu:di I L u a):di I L u (zq H a):=by
 unfold zq;split
 ·rename_i cs;cases hu with
  |agg us _ hl hv hone =>
   refine .agg us _ (by simpa using hl) (λj u c hu hc=>?_) hone;rw[List.getElem?_map] at hc;cases hj:cs[j]? with
   |none=>rw[hj] at hc;cases hc
   |some a=>rw[hj] at hc;simp only[Option.map_some,cm] at hc;subst hc;exact adS hs (hv j u a hu hj)
 ·exact adS hs hu
theorem aqp{o:Oper}{ρ:Operand->AV}{v:AV}{pre:Prop}{H H':aq}(h:xu P o ρ H=some (pre,v,H')){C:Ctx}{env:Env}{tm:Array Value}{w:World}
  (hs:fV C env H I L tm w) {σ:Operand->Value} (hσ:∀x,di I L (σ x) (ρ x)):mR P C H I L w ((execOp σ o).run P w) v H':=by
 unfold xu at h;unfold execOp;split at h
 ·rename_i t n parts hop;simp only[hop];split at h
  ·rename_i e es hb;simp only[cm,gD] at h;obtain⟨_,h2,h3⟩:=h;subst h2 h3;obtain⟨I',hsub,hw,hfr⟩:=Fr.cY C L w (pI (parts.toList.map λx=>(x.1,ρ x.2))) H I hs.mem;have hs':=hfr env tm hs;have hpr:=vX (I:=I) (L:=L) hσ parts.toList;have aD3:aeR I' L (parts.toList.map λx=>(x.1,σ x.2)) ((parts.toList.map λx=>(x.1,ρ x.2)).map λx=>(x.1,zq (cY (pI (parts.toList.map λx=>(x.1,ρ x.2))) H) x.2)):=by
    refine⟨by simp,λj x y hx hy=>?_⟩;rw[List.getElem?_map] at hy;cases hj:(parts.toList.map λx=>(x.1,ρ x.2))[j]? with
    |none=>simp[hj] at hy
    |some z=>rw[hj] at hy;simp only[Option.map_some,cm] at hy;obtain⟨k1,k2⟩:=hpr.2 j x z hx hj;subst hy;exact⟨k1,akj hs' (k2.mono hsub (dN.refl L))⟩
   obtain⟨uo,sz,hr,_,_,hpos,hn,hall,hl,hv,hone⟩:=vA hb aD3 w;have hr':(Instr.buildSlice t n (parts.map λx=>(x.1,σ x.2))).run P w = .ok (.slice (some ⟨w.heap.size,0,none⟩) n n) (w.alloc (.cells uo.toArray e)):=by rw[<-hr];congr 2;apply Array.ext';simp
   refine⟨.slice (some ⟨w.heap.size,0,none⟩) n n,_,I'.with w.heap.size uo.toArray,L,.inl (by rw[run_lift,hr'];rfl),?_,hfr.trans (Fr.imm C I' L _ w _ e)⟩;have:=VR.aiq (w:=w) (us:=uo) (rest:=[]) hw hall hl hv hone (cap:=n) (by omega);rw[List.append_nil] at this;rw[hn] at this;exact .p _ _ this
  ·cases h
 ·cases h
def jU(P:Program)(o:Oper)(ρ:Operand->AV)(H:aq):Option (Prop×AV×aq):=match uO P o ρ with
 |some (pre,v)=>some (pre,v,H)
 |none=>match xp P o ρ H with
  |some (pre,v)=>some (pre,v,H)
  |none=>match vY P o ρ H with
   |some r=>some r
   |none=>xu P o ρ H
def isApp:Op->Bool
 | .call c=>(match c.callee with
  | .builtin .append=>true
  |_=>false)
 |_=>false
def orE(x:Option (Prop×AV×aq))(b:Bool)(y:Option (Prop×AV×aq)):Option (Prop×AV×aq):=match x,b with
 |some r,_=>some r
 |none,true=>y
 |none,false=>none
def fc(P:Program)(own:List Nat)(o:Oper)(ρ:Operand->AV)(H:aq):Option (Prop×AV×aq):=match o.dst with
 |some d=>if own.contains d=true then orE (exN P o ρ H d) (isApp o.op) (jU P o ρ H) else jU P o ρ H
 |none=>jU P o ρ H
theorem td{o:Oper}{ρ:Operand->AV}{v:AV}{pre:Prop}{H H':aq}(h:jU P o ρ H=some (pre,v,H'))(hp:pre){C:Ctx}{env:Env}{tm:Array Value}{w:World}
  (hs:fV C env H I L tm w) {σ:Operand->Value} (hσ:∀x,di I L (σ x) (ρ x)):mR P C H I L w ((execOp σ o).run P w) v H':=by
 unfold jU at h;split at h
 ·rename_i hx;simp only[cm,gD] at h;obtain⟨rfl,rfl,rfl⟩:=h;exact aqf hx hp hs hσ
 ·split at h
  ·rename_i hx;simp only[cm,gD] at h;obtain⟨rfl,rfl,rfl⟩:=h;exact aqj hx hp hs hσ
  ·split at h
   ·rename_i hx;simp only[cm] at h;subst h;exact aql hx hp hs hσ
   ·exact aqp h hs hσ
theorem akk{own:List Nat}{o:Oper}{ρ:Operand->AV}{v:AV}{pre:Prop}{H H':aq}(h:fc P own o ρ H=some (pre,v,H'))(hp:pre){C:Ctx}{env:Env}{tm:Array Value}{w:World}
  (hs:fV C env H I L tm w) {σ:Operand->Value} (hσ:∀x,di I L (σ x) (ρ x)):mR P C H I L w ((execOp σ o).run P w) v H':=by
 unfold fc at h;split at h
 ·split at h
  ·unfold orE at h;split at h
   ·rename_i hx;exact aqn (hx.trans h) hp hs hσ
   ·exact td h hp hs hσ
   ·cases h
  ·exact td h hp hs hσ
 ·exact td h hp hs hσ
def bZ(env:Env)(d:Option Nat)(v:AV):Env:=match d with
 |some d=>cD env d v
 |none=>env
def tB(N:Nat)(d:Option Nat):Prop:=match d with
 |some d=>d<N
 |none=>True
theorem fV.bZ{C:Ctx}{env:Env}{H:aq}{tm:Array Value}{w:World}(h:fV C env H I L tm w){d:Option Nat}{u:Value}{v:AV}(hd:tB C.n d)(hv:di I L u v)(ds:List Deferred) :
  fV C (bZ env d v) H I L (Act.put ⟨tm,ds⟩ d u).tmps w:=by
 cases d with
 |none=>exact h
 |some d=>exact h.put hd hv
theorem di.axt{u:Value}(h:di I L u (.dg [])):u = .tuple #[]:=by
 cases h with
 |dg us _ hl _=>have:us=[]:=List.length_eq_zero_iff.1 (by simpa using hl);rw[this]
def lB(ops:Array Oper)(o:Oper)(env:Env):Option Bool:=match o.guard with
 |none=>some true
 |some (j,want)=>match (ops[j]?).bind (·.dst) with
  |some d=>match env d with
   | .p (.val (.bool b))=>some (b == want)
   | .dg []=>some false
   |_=>none
  |none=>none
theorem l7{ops:Array Oper}{o:Oper}{env:Env}{g:Bool}(h:lB ops o env=some g){C:Ctx}{H:aq}{tm:Array Value}{w:World}(hs:fV C env H I L tm w) :
  Region.wanted o (yielded ops tm)=g:=by
 unfold lB at h;unfold Region.wanted;split at h
 ·rename_i hg;simp at h;subst h;simp[hg]
 ·rename_i j want hg;rw[hg];dsimp only;split at h
  ·rename_i d hd;split at h
   ·rename_i b hb;simp at h;subst h;have hu:=hs.env d;rw[hb] at hu;have hu:=hu.dr.1;have hlt:d<tm.size:=by
     rcases Nat.lt_or_ge d tm.size with h|h
     ·exact h
     ·simp[Array.getElem?_eq_none h,undef] at hu
    have:tm[d]? = some (.bool b):=by rw[<-hu];simp[hlt]
    simp[yielded,hd,this]
   ·rename_i hb;simp at h;subst h;have hu:=hs.env d;rw[hb] at hu;have hu:=hu.axt;have:∀b,tm[d]?≠some (.bool b):=λb hb=>by rw[Array.getD_eq_getD_getElem?,hb] at hu;cases hu
    cases ht:tm[d]? with
    |none=>simp[yielded,hd,ht]
    |some u =>
     cases u with
     |bool b=>exact absurd ht (this b)
     |_=>simp[yielded,hd,ht]
   ·cases h
  ·cases h
def axu(x:AV):List Nat->Env->Env
 | [],env=>env
 |t :: r,env=>axu x r (bZ env (some t) x)
theorem atB(x:AV)(env:Env):axu x [] env=env:=rfl
def holds(env:Env)(id v:Nat):List Nat->Prop
 | []=>True
 |t :: r=>env t = .row id v/\holds env id v r
theorem aqq(env:Env)(id v:Nat):holds env id v []=True:=rfl
theorem atC{C:Ctx}{env:Env}{H:aq}{I:Mem}{L:bg}{tm:Array Value}{w:World}{id v t:Nat}{es:List (List PV)}(hs:fV C env H I L tm w)(hH:H id=some (.shut v es))(ht:env t = .row id v) :
  fV C (bZ env (some t) (.p (.aE es))) H I L tm w:=by
 refine { hs with env:=λi=>?_ };unfold bZ;simp only;unfold cD;split
 ·rename_i hi;subst hi;have h1:=hs.env i;rw[ht] at h1;generalize tm.getD i undef=u at h1 ⊢;obtain⟨hdr,sz,g1,g2,_⟩:=hs.chunk id _ hH;cases h1 with
  |row _ _ _ v' fN sz' hl hle h h1=>rw[g1] at hl;simp only[cm,Loc.row.injEq] at hl;obtain⟨rfl,rfl,rfl⟩:=hl;rw[h rfl];exact .p _ _ g2
 ·exact hs.env i
theorem ag7{C:Ctx}{H:aq}{I:Mem}{L:bg}{tm:Array Value}{w:World}{id v:Nat}{es:List (List PV)}(hH:H id=some (.shut v es)):∀ (ts:List Nat) (env:Env),ts.Nodup->fV C env H I L tm w->holds env id v ts ->
  fV C (axu (.p (.aE es)) ts env) H I L tm w
 | [],env,_,hs,_=>hs
 |t :: r,env,hn,hs,ht=>by
  rw[List.nodup_cons] at hn;refine ag7 hH r _ hn.2 (atC hs hH ht.1) ?_;have:∀r:List Nat,t ∉ r->holds env id v r->holds (bZ env (some t) (.p (.aE es))) id v r:=by
   intro r
   induction r with
   |nil=>intro _ _;exact trivial
   |cons u r ih=>intro hn hh;refine⟨?_,ih (λh=>hn (List.mem_cons_of_mem _ h)) hh.2⟩;rw[<-hh.1];unfold bZ;simp only;unfold cD;rw[if_neg];intro e;exact hn (by rw[e];exact List.mem_cons_self)
  exact this r hn.1 ht.2
def fE(env:Env)(H:aq)(env':Env)(H':aq):Prop:=∀C I L tm w,fV C env H I L tm w->∃I' L',fV C env' H' I' L' tm w
def ae3(P:Program)(o:Oper)(W:Env->aq->Prop)(env:Env)(H:aq):Prop :=
 (∃ids,atu P o (ev env) (cY ids H) λx=>W (bZ env o.dst (.p x)) (cY ids H))\/aAX P o (ev env) (λx=>W (bZ env o.dst (.p x)) H) \/
  ∃ids,atx P o (ev env) (cY ids H) (λa H'=>W (bZ env o.dst a) H')\/atA P o (ev env) (cY ids H) λa H'=>W (bZ env o.dst a) H'
def akl(P:Program)(o:Oper)(W:Env->aq->Prop)(env:Env)(H:aq):Prop:=∃v H',W (bZ env o.dst v) H'/\∀ (C:Ctx) (I:Mem) (L:bg) (tm:Array Value) (w:World) (σ:Operand->Value),fV C env H I L tm w->(∀x,di I L (σ x) (ev env x))->mR P C H I L w ((execOp σ o).run P w) v H'
def aa3(P:Program)(o:Oper)(W:Env->aq->Prop)(env:Env)(H:aq):Prop :=
 ∀ (C:Ctx) (I:Mem) (L:bg) (tm:Array Value) (w:World) (σ:Operand->Value),fV C env H I L tm w->(∀x,di I L (σ x) (ev env x)) ->
  ∃k args,(execOp σ o).run P w = .ok (.enter k args) w/\Calls P k args w λe w'=>∃v I' L' a H',e = .returned v/\W (bZ env o.dst a) H'/\di I' L' v a/\fV C env H' I' L' tm w'
def aA1(P:Program)(o:Oper)(W:Env->aq->Prop)(env:Env)(H:aq):Prop:=∃ael H2,fE env H ael H2/\((∃pre v H',jU P o (ev ael) H2=some (pre,v,H')/\pre/\W (bZ ael o.dst v) H')\/ae3 P o W ael H2\/akl P o W ael H2\/aa3 P o W ael H2)
def kf(P:Program)(o:Oper)(W:Env->aq->Prop)(env:Env)(H:aq):Prop:=ae3 P o W env H\/aA1 P o W env H\/akl P o W env H\/aa3 P o W env H
def walk(P:Program)(N:Nat)(own:List Nat)(ops:Array Oper):List Oper->(Env->aq->Prop)->Env->aq->Prop
 | [],K,env,H=>K env H
 |o :: rest,K,env,H=>tB N o.dst/\match lB ops o env with
  |some true=>(match fc P own o (ev env) H with
   |some (pre,v,H')=>pre/\walk P N own ops rest K (bZ env o.dst v) H'
   |none=>kf P o (walk P N own ops rest K) env H)
  |some false=>walk P N own ops rest K (bZ env o.dst (.dg [])) H
  |none=>False
theorem mR.upon{C:Ctx}{H H':aq}{w:World}{r:Result Next}{v:AV}(h:mR P C H I L w r v H'){o:Oper}{a:Act}{next:Act->World->Prop}{Q:Exit->Act->World->Prop}
  (hn:∀u w' I' L',di I' L' u v->Fr C I L H w I' L' H' w'->next (a.put o.dst u) w'):o.upon P a next Q r:=by
 obtain⟨u,w',I',L',hr,ha,hf⟩:=h;rcases hr with rfl|⟨rfl,rfl⟩
 ·exact hn u w' I' L' ha hf
 ·exact hn undef w' I' L' ha hf
theorem aaz{o:Oper}{env:Env}{H:aq}{W:Env->aq->Prop}(h:ae3 P o W env H\/akl P o W env H\/aa3 P o W env H){C:Ctx}{tm:Array Value}{ds:List Deferred}{w:World}(hs:fV C env H I L tm w)(hd:tB C.n o.dst){next:Act->World->Prop}{Q:Exit->Act->World->Prop}
  (hW:∀env' H' I' L' tm' w',W env' H'->fV C env' H' I' L' tm' w'->next ⟨tm',ds⟩ w'):o.wp P ⟨tm,ds⟩ w next Q:=by
 have hσ:=λx=>pE hs ds x
 unfold Oper.wp;have hput:∀ {w':World} {I' L':_} {H':aq} {u:Value} {v:AV},W (bZ env o.dst v) H'->di I' L' u v->Fr C I L H w I' L' H' w'->next (Act.put ⟨tm,ds⟩ o.dst u) w':=by
  intro w' I' L' H' u v hw ha hf;have:=(hf env tm hs).bZ hd ha ds;have e:(Act.put ⟨tm,ds⟩ o.dst u:Act)=⟨(Act.put ⟨tm,ds⟩ o.dst u).tmps,ds⟩:=by cases o.dst<;>rfl
  rw[e];exact hW _ _ I' L' _ w' hw this
 rcases h with h|⟨v,H',hw,hy⟩|h
 ·rcases h with ⟨ids,hc⟩|he|⟨ids,hc⟩
  case inr.inl=>obtain⟨u,x,hr,hv,hw⟩:=am0 he (w:=w) hσ;exact (mR.still (C:=C) (H:=H) hr (di.p _ _ hv)).upon λu w' I' L' ha hf=>hput hw ha hf
  case inr.inr =>
   obtain⟨I1,hsub,hw1,hfr⟩:=Fr.cY C L w ids H I hs.mem;have hs1:=hfr env tm hs;obtain⟨k,args,hr,ae4⟩:=hc.elim (λhc=>aiF hc hs1 (λx=>pE hs1 ds x)) (λhc=>aiI hc hs1 (λx=>pE hs1 ds x));rw[hr,Oper.upon_enter];refine ae4.mono λe w' ⟨v,I',L',a,H',he,hw,hv,hs'⟩=>?_
   subst he;have:=hs'.bZ hd hv ds;have e:(Act.put ⟨tm,ds⟩ o.dst v:Act)=⟨(Act.put ⟨tm,ds⟩ o.dst v).tmps,ds⟩:=by cases o.dst<;>rfl
   show next (Act.put ⟨tm,ds⟩ o.dst v) w'
   rw[e];exact hW _ _ I' L' _ w' hw this
  obtain⟨I1,hsub,hw1,hfr⟩:=Fr.cY C L w ids H I hs.mem;have hs1:=hfr env tm hs;obtain⟨k,args,hr,ae4⟩:=ake hc hs1 (λx=>pE hs1 ds x);rw[hr,Oper.upon_enter];refine ae4.mono λe w' ⟨v,I',x,he,hw,hv,hf⟩=>?_
  subst he;exact hput hw (.p _ _ hv) (hfr.trans hf)
 ·exact (hy C I L tm w _ hs hσ).upon λu w' I' L' ha hf=>hput hw ha hf
 ·obtain⟨k,args,hr,ae4⟩:=h C I L tm w _ hs hσ;rw[hr,Oper.upon_enter];refine ae4.mono λe w' ⟨v,I',L',a,H',he,hw,hv,hs'⟩=>?_
  subst he;have:=hs'.bZ hd hv ds;have e:(Act.put ⟨tm,ds⟩ o.dst v:Act)=⟨(Act.put ⟨tm,ds⟩ o.dst v).tmps,ds⟩:=by cases o.dst<;>rfl
  show next (Act.put ⟨tm,ds⟩ o.dst v) w'
  rw[e];exact hW _ _ I' L' _ w' hw this
theorem aiK{own:List Nat}{o:Oper}{env:Env}{H:aq}{W:Env->aq->Prop}(h:match fc P own o (ev env) H with
   |some (pre,v,H')=>pre/\W (bZ env o.dst v) H'
   |none=>kf P o W env H) {C:Ctx} {tm:Array Value} {ds:List Deferred} {w:World} (hs:fV C env H I L tm w) (hd:tB C.n o.dst) {next:Act->World->Prop} {Q:Exit->Act->World->Prop}
  (hW:∀env' H' I' L' tm' w',W env' H'->fV C env' H' I' L' tm' w'->next ⟨tm',ds⟩ w'):o.wp P ⟨tm,ds⟩ w next Q:=by
 split at h
 ·rename_i pre v H' hx;obtain⟨hp,hw⟩:=h;have hσ:=λx=>pE hs ds x
  unfold Oper.wp;refine (akk hx hp hs hσ).upon λu w' I' L' ha hf=>?_
  have:=(hf env tm hs).bZ hd ha ds;have e:(Act.put ⟨tm,ds⟩ o.dst u:Act)=⟨(Act.put ⟨tm,ds⟩ o.dst u).tmps,ds⟩:=by cases o.dst<;>rfl
  rw[e];exact hW _ _ I' L' _ w' hw this
 ·rcases h with h|⟨ael,H2,q1,h⟩|h|h
  ·exact aaz (.inl h) hs hd hW
  ·obtain⟨I2,L2,h2⟩:=q1 C I L tm w hs;rcases h with ⟨pre,v,H',q4,q5,q6⟩|h
   ·unfold Oper.wp;refine (td q4 q5 h2 (λy=>pE h2 ds y)).upon λu w' I' L' ha hf=>?_
    have:=(hf _ tm h2).bZ hd ha ds;have e:(Act.put ⟨tm,ds⟩ o.dst u:Act)=⟨(Act.put ⟨tm,ds⟩ o.dst u).tmps,ds⟩:=by cases o.dst<;>rfl
    rw[e];exact hW _ _ I' L' _ w' q6 this
   ·exact aaz h h2 hd hW
  ·exact aaz (.inr (.inl h)) hs hd hW
  ·exact aaz (.inr (.inr h)) hs hd hW
theorem abt{N:Nat}{own:List Nat}{ops:Array Oper}{K:Env->aq->Prop}{Q:Exit->Act->World->Prop}{C:Ctx}{ds:List Deferred}(hN:C.n=N)
  (hK:∀env H I L tm w,K env H->fV C env H I L tm w->Q .normal ⟨tm,ds⟩ w):∀ (l:List Oper) (env:Env) (H:aq) (I:Mem) (L:bg) (tm:Array Value) (w:World),
  walk P N own ops l K env H->fV C env H I L tm w->wpList P ops Q l ⟨tm,ds⟩ w
 | [],env,H,I,L,tm,w,h,hs=>hK env H I L tm w h hs
 |o :: rest,env,H,I,L,tm,w,h,hs=>by
  obtain⟨hd,h⟩:=h;rw[<-hN] at hd;unfold wpList;split at h
  ·rename_i hg;rw[if_pos (l7 hg hs)];exact .inl (aiK h hs hd λenv' H' I' L' tm' w' hw hs'=>abt hN hK rest env' H' I' L' tm' w' hw hs')
  ·rename_i hg;rw[if_neg (by rw[l7 hg hs];simp)];have e:(Act.put ⟨tm,ds⟩ o.dst undef:Act)=⟨(Act.put ⟨tm,ds⟩ o.dst undef).tmps,ds⟩:=by cases o.dst<;>rfl
   rw[e];exact abt hN hK rest _ H I L _ w h (hs.bZ hd (.dg [] [] rfl (by simp)) ds)
  ·exact h.elim
end Go.bP
namespace Go.bP
open Go.RowKit
variable{P:Program}{I:Mem}{L:bg}
abbrev pJ:=Exit->Env->aq->Prop
theorem fE.refl(env:Env)(H:aq):fE env H env H:=λ_ I L _ _ h=>⟨I,L,h⟩
theorem fE.trans{e1 e2 e3:Env}{H1 H2 H3:aq}(h:fE e1 H1 e2 H2)(k:fE e2 H2 e3 H3):fE e1 H1 e3 H3:=λC I L tm w hs=>by obtain⟨I1,L1,h1⟩:=h C I L tm w hs;exact k C I1 L1 tm w h1
def vf(P:Program)(N:Nat)(own:List Nat)(ops:Array Oper)(K:Env->aq->Prop)(env:Env)(H:aq):Prop:=∀C I L tm w,C.n=N->fV C env H I L tm w->wpAny P .any ops (λe a w'=>a.defers=[]/\e = .normal/\∃env' H' I' L',K env' H'/\fV C env' H' I' L' a.tmps w') ops.size (Array.replicate ops.size false) ⟨tm,[]⟩ { w with drawn:=w.drawn+1 }
def akm(W:pJ->Env->aq->Prop)(K:pJ)(env:Env)(H:aq):Prop :=
 ∃Inv:Nat->Env->aq->Prop,(∃n e2 H2,Inv n e2 H2/\fE env H e2 H2) /\
  ∀n e H,Inv n e H->W (λx e' H'=>match x with
   | .normal=>∃m e2 H2,m<n/\Inv m e2 H2/\fE e' H' e2 H2
   |x=>K x e' H') e H
def wg(X Y:Prop)(c:AV):Prop:=match c with
 | .p (.val (.bool b))=>(b=true->X)/\(b=false->Y)
 |_=>False
def cw(P:Program)(N:Nat)(own:List Nat):Code->pJ->Env->aq->Prop
 | .skip,K,env,H=>K .normal env H
 | .label _,K,env,H=>K .normal env H
 | .region _ ops false,K,env,H=>walk P N own ops ops.toList (K .normal) env H
 | .region _ ops true,K,env,H=>vf P N own ops (K .normal) env H
 | .seq a b, K, env, H => cw P N own a (fun x e' H' => match x with
   | .normal=>cw P N own b K e' H'
   |x=>K x e' H') env H
 | .cond c a b,K,env,H=>wg (cw P N own a K env H) (cw P N own b K env H) (ev env c)
 | .block id c, K, env, H => cw P N own c (fun x e' H' => match x with
   | .exit id'=>if id'=id then K .normal e' H' else K (.exit id') e' H'
   |x=>K x e' H') env H
 | .loop c,K,env,H=>akm (cw P N own c) K env H
 | .exit id,K,env,H=>K (.exit id) env H
 | .ret,K,env,H=>K .ret env H
 |_,_,_,_=>False
def lift(C:Ctx)(K:pJ):Exit->Act->World->Prop:=λe a w=>a.defers=[]/\∃env H I L,K e env H/\fV C env H I L a.tmps w
theorem oq{N:Nat}{own:List Nat}(hm:P.follows .mixedOrders=true):∀ (c:Code) (K:pJ) (C:Ctx),C.n=N->∀env H I L tm w,cw P N own c K env H->fV C env H I L tm w->c.wp P (lift C K) ⟨tm,[]⟩ w
 | .skip,K,C,hN,env,H,I,L,tm,w,h,hs=>wp_skip ⟨rfl,env,H,I,L,h,hs⟩
 | .label _,K,C,hN,env,H,I,L,tm,w,h,hs=>wp_label ⟨rfl,env,H,I,L,h,hs⟩
 | .region _ ops false,K,C,hN,env,H,I,L,tm,w,h,hs=>by refine wp_region ?_;have:=wpOps_eq_wpList (P:=P) (ops:=ops) (Q:=lift C K) ops.toList 0 (by simp);rw[List.range_eq_range',<-Array.length_toList,this];exact abt hN (λenv H I L tm w hk hs=>⟨rfl,env,H,I,L,hk,hs⟩) ops.toList env H I L tm w h hs
 | .region _ ops true,K,C,hN,env,H,I,L,tm,w,h,hs=>by refine wp_mono (Q:=λe a w'=>a.defers=[]/\e = .normal/\∃env' H' I' L',K .normal env' H'/\fV C env' H' I' L' a.tmps w') (wp_region_any hm (h C I L tm w hN hs)) ?_;rintro e a w ⟨h1,rfl,env',H',I',L',h2,h3⟩;exact⟨h1,env',H',I',L',h2,h3⟩
 | .seq a b,K,C,hN,env,H,I,L,tm,w,h,hs=>by
  refine wp_seq (wp_mono (oq hm a _ C hN env H I L tm w h hs) ?_);rintro e ac w ⟨h1,env',H',I',L',h2,h3⟩;cases ac with
  |mk tmps ds =>
   simp only at h1 h3;subst h1;cases e with
   |normal=>exact oq hm b K C hN env' H' I' L' tmps w h2 h3
   |_=>exact⟨rfl,env',H',I',L',h2,h3⟩
 | .cond c a b,K,C,hN,env,H,I,L,tm,w,h,hs=>by
  have h:wg (cw P N own a K env H) (cw P N own b K env H) (ev env c):=h;have hc:=pE hs [] c;unfold wg at h;split at h
  ·rename_i t ht;rw[ht] at hc;exact wp_cond_split hc.dr.1 (λht=>oq hm a K C hN env H I L tm w (h.1 ht) hs) (λht=>oq hm b K C hN env H I L tm w (h.2 ht) hs)
  ·exact h.elim
 | .block id c,K,C,hN,env,H,I,L,tm,w,h,hs=>by
  refine wp_block (wp_mono (oq hm c _ C hN env H I L tm w h hs) ?_);rintro e ac w ⟨h1,env',H',I',L',h2,h3⟩;cases e with
  |exit id' =>
   simp only[Exit.inBlock];dsimp only at h2;split
   ·rename_i he;rw[if_pos he] at h2;exact⟨h1,env',H',I',L',h2,h3⟩
   ·rename_i he;rw[if_neg he] at h2;exact⟨h1,env',H',I',L',h2,h3⟩
  |_=>exact⟨h1,env',H',I',L',h2,h3⟩
 | .loop c,K,C,hN,env,H,I,L,tm,w,h,hs=>by
  obtain⟨Inv,⟨n0,e0,H0,hi0,hw0⟩,azZ⟩:=h;intro b k cs
  have key : ∀ n, ∀ e H I L tm w, Inv n e H → fV C e H I L tm w →
    ∃x a' w',lift C K x a' w'/\Arrives P (lone (b.at ⟨tm,[]⟩ (.code c :: .inLoop c :: k)) cs w) b k cs x a' w':=by
   intro n
   induction n using Nat.strongRecOn with
   |_ n ih =>
    intro e H I L tm w hi hs;obtain⟨x,a',w',hq,aek⟩:=oq hm c _ C hN e H I L tm w (azZ n e H hi) hs b (.inLoop c :: k) cs;obtain⟨hd,e',H',I',L',hq,hs'⟩:=hq;cases a' with
    |mk tmps ds =>
     simp only at hd hs';subst hd;cases x with
     |normal=>obtain⟨m,e2,H2,hlt,hi2,hwk⟩:=hq;obtain⟨I2,L2,hs2⟩:=hwk C I' L' tmps w' hs';obtain⟨x,a2,w2,hq2,aA2⟩:=ih m hlt e2 H2 I2 L2 tmps w' hi2 hs2;exact⟨x,a2,w2,hq2,.of_steps (Steps.trans aek (.one step_inLoop)) aA2⟩
     |exit id=>exact⟨_,_,w',⟨rfl,e',H',I',L',hq,hs'⟩,.pass (x:=.inLoop c) rfl (λ_ _=>.inl (by simp)) aek⟩
     |goto l=>exact⟨_,_,w',⟨rfl,e',H',I',L',hq,hs'⟩,.pass (x:=.inLoop c) rfl (λ_ _=>.inl (by simp)) aek⟩
     |ret=>exact⟨_,_,w',⟨rfl,e',H',I',L',hq,hs'⟩,.pass (x:=.inLoop c) rfl (λ_ _=>.inl (by simp)) aek⟩
     |panic ch=>exact⟨_,_,w',⟨rfl,e',H',I',L',hq,hs'⟩,.pass (x:=.inLoop c) rfl (λ_ _=>.inl (by simp)) aek⟩
     |outgrown=>exact⟨_,_,w',⟨rfl,e',H',I',L',hq,hs'⟩,.pass (x:=.inLoop c) rfl (λ_ _=>.inl (by simp)) aek⟩
  obtain⟨I0,L0,hs0⟩:=hw0 C I L tm w hs;obtain⟨x,a',w',hq,aek⟩:=key n0 e0 H0 I0 L0 tm w hi0 hs0;exact⟨x,a',w',hq,.of_steps (.one step_loop) aek⟩
 | .exit id,K,C,hN,env,H,I,L,tm,w,h,hs=>wp_exit ⟨rfl,env,H,I,L,h,hs⟩
 | .ret,K,C,hN,env,H,I,L,tm,w,h,hs=>wp_ret ⟨rfl,env,H,I,L,h,hs⟩
 | .goto _,K,C,hN,env,H,I,L,tm,w,h,hs=>h.elim
 | .rangeFunc _ _ _ _,K,C,hN,env,H,I,L,tm,w,h,hs=>h.elim
 | .scope _,K,C,hN,env,H,I,L,tm,w,h,hs=>h.elim
 | .refuse _,K,C,hN,env,H,I,L,tm,w,h,hs=>h.elim
def iD(args:List PV):Env:=λt=>match args[t]? with
 |some x=>.p x
 |none=>.dead
def sK(P:Program)(env:Env)(H:aq):ResultVar->Option AV
 | .tmp t=>some (env t)
 | .cell a t=>match env a with
  | .ptr id off=>match H id with
   |some (.box cs)=>ry P t cs off
   |_=>none
  |_=>none
def aiL(P:Program)(env:Env)(H:aq):List ResultVar->Option (List AV)
 | []=>some []
 |r :: rs=>match sK P env H r,aiL P env H rs with
  |some a,some dP=>some (a :: dP)
  |_,_=>none
def ni(P:Program)(env:Env)(H:aq)(rs:List ResultVar):Option AV:=match aiL P env H rs with
 |some [a]=>some a
 |some dP=>some (.dg dP)
 |none=>none
def atD(P:Program)(env:Env)(H:aq)(rs:List ResultVar):Option PV:=match ni P env H rs with
 |some a=>match adQ H a with
  |some (x,_)=>some x
  |none=>none
 |none=>none
def az0(P:Program)(rs:List ResultVar)(Q:PV->Prop):pJ:=λe env H=>match e with
 | .normal | .ret=>(match atD P env H rs with
  |some r=>Q r
  |none=>False)
 |_=>False
def ae5(tm:Array Value):ResultVar->Sem Value
 | .tmp t=>pure (tm.getD t undef)
 | .cell a t=>do loadVar t (<-asAddr (tm.getD a undef))
theorem abu{C:Ctx}{env:Env}{H:aq}{tm:Array Value}{w:World}(hs:fV C env H I L tm w):∀ (rs:List ResultVar) (dP:List AV),aiL P env H rs=some dP ->
  ∃us:List Value,(rs.mapM (ae5 tm)).run P w = .ok us w/\ng I L us dP
 | [],dP,h=>by simp[aiL] at h;subst h;exact⟨[],by simp,rfl,by simp⟩
 |r :: rs,dP,h=>by
  simp only[aiL] at h;split at h
  ·rename_i a as' h1 h2;simp only[cm] at h;subst h;obtain⟨us,hr,hu⟩:=abu hs rs as' h2;have one:∃u,(ae5 tm r).run P w = .ok u w/\di I L u a:=by
    unfold sK at h1;split at h1
    ·rename_i t;simp only[cm] at h1;subst h1;exact⟨_,rfl,hs.env t⟩
    ·rename_i b t;split at h1
     ·rename_i id off hb;split at h1
      ·rename_i cs hH;have hbv:=hs.env b;rw[hb] at hbv;obtain⟨blk,arr,e,g1,g2,g3,g4,g5,g6⟩:=hs.chunk id _ hH;have hres:∀ub,tm.getD b undef=ub->(ae5 tm (.cell b t)).run P w=(do loadVar t (<-asAddr ub):Sem Value).run P w:=λub h=>by show (do loadVar t (<-asAddr (tm.getD b undef)):Sem Value).run P w=_;rw[h]
       rw[hres _ rfl];generalize tm.getD b undef=ub at hbv ⊢;cases hbv with
       |ptr _ b' _ hl =>
        rw[g1] at hl;simp only[cm,Loc.box.injEq] at hl;subst hl;obtain⟨u,hru,hua⟩:=aax (I:=I) (L:=L) (w:=w) (b:=blk) (base:=0) (us:=arr.toList) h1 (by simpa using g3) (λj u c hu hc=>g4 j u c (by simpa using hu) hc)
         (λu hu=>by
          obtain⟨j,hj⟩:=List.mem_iff_getElem?.1 hu;exact g5 j u (by simpa using hj)) (λj u hu=>by rw[Nat.zero_add,gW g2];simpa using hu)
        rw[Nat.zero_add] at hru;exact⟨u,by simp[asAddr,hru],hua⟩
      ·cases h1
     ·cases h1
   obtain⟨u,hru,hua⟩:=one;refine⟨u :: us,?_,by simp[hu.1],λj v b hv hb=>?_⟩
   ·simp only[List.mapM_cons,Sem.run_bind,hru,Result.andThen_ok,hr,Sem.run_pure]
   ·cases j with
    |zero=>simp at hv hb;subst hv hb;exact hua
    |succ j=>exact hu.2 j v b (by simpa using hv) (by simpa using hb)
  ·cases h
theorem vg{C:Ctx}{env:Env}{H:aq}{tm:Array Value}{w:World}(hs:fV C env H I L tm w){fn:Func}{a:AV}(h:ni P env H fn.results.toList=some a) :
  ∃u,(results fn tm).run P w = .ok u w/\di I L u a:=by
 have hres:∀us:List Value,(fn.results.toList.mapM (ae5 tm)).run P w = .ok us w->(results fn tm).run P w = .ok (if h:us.toArray.size=1 then us.toArray[0] else .tuple us.toArray) w:=by
  intro us hr;have e:results fn tm=(do let vs <-fn.results.mapM (ae5 tm);pure (if h:vs.size=1 then vs[0] else .tuple vs)):=by unfold results;congr 2
  rw[e,Sem.run_bind,Array.mapM_eq_mapM_toList,Sem.run_map,hr];rfl
 unfold ni at h;split at h
 ·rename_i a' hl;simp only[cm] at h;subst h;obtain⟨us,hr,hu⟩:=abu hs _ _ hl;refine⟨_,hres us hr,?_⟩;have hlen:us.length=1:=by simpa using hu.1
  rw[dif_pos (by simpa using hlen)];cases us with
  |nil=>simp at hlen
  |cons u r=>exact hu.2 0 u _ rfl rfl
 ·rename_i dP hne hl;simp only[cm] at h;subst h;obtain⟨us,hr,hu⟩:=abu hs _ _ hl;refine⟨_,hres us hr,?_⟩;have hlen:¬ us.length=1:=λe=>by
   have:dP.length=1:=by rw[<-hu.1];exact e
   cases dP with
   |nil=>simp at this
   |cons a r =>
    have:r=[]:=by simpa using this
    subst this;exact hne a rfl
  rw[dif_neg (by simpa using hlen)];exact .dg us dP hu.1 hu.2
 ·cases h
def Mem.all(I:Mem)(B:Nat)(w:World):Mem:=λb o=>if b<B then I b o else w.cell? ⟨b,o,none⟩
theorem akn{f:FuncId}{fn:Func}{c:Code}{args:List PV}{Q:PV->Prop}(own:List Nat)(hm:P.follows .mixedOrders=true)(hf:P.funcs[f]? = some fn)(hb:fn.body=some c)
  (hc:gl P f=true) (hn:args.length<=fn.ntmps) (h:cw P fn.ntmps own c (az0 P fn.results.toList Q) (iD args) cv):aB P f args Q:=by
 refine⟨hc,λI w vs hI hv=>calls_of_wp hf hb ?_⟩;let C:Ctx:=Ctx.of w I fn.ntmps;have hlen:vs.length<=fn.ntmps:=by rw[hv.1];exact hn
 have hs:fV C (iD args) cv I (λ_=>none) (vs.toArray++Array.replicate (fn.ntmps-vs.toArray.size) undef) w :=
  {below:=Below.refl _ _
   mem:=hI
   mw:=Mem.ew I
   m8:=λ_ _ _ _=>rfl
   frame:=λ_ _ _=>rfl
   loc:=λ_=>trivial
   j9:=λid l b h=>by cases h
   size:=by simp;show vs.length+(fn.ntmps-vs.length)=fn.ntmps;omega
   env:=λt=>by
    unfold iD;split
    ·rename_i x hx;have ht:t<vs.length:=by rw[hv.1];exact (List.getElem?_eq_some_iff.1 hx).1
     refine .p _ _ (hv.2 t _ x ?_ hx);rw[List.getElem?_eq_getElem ht];simp[Array.getElem?_append,ht]
    ·exact .dead _
   dom:=λid l h=>by cases h
   chunk:=λid ch h=>by cases h
   fO:=λid l b h=>by cases h
   apart:=λi j li lj b h=>by cases h }
 refine wp_mono (oq hm c _ C rfl _ _ I _ _ w h hs) ?_;rintro e a w' ⟨hd,env',H',I',L',hk,hs'⟩;have fin:(match atD P env' H' fn.results.toList with|some r=>Q r|none=>False)->bodyPost P fn (λe w'=>∃v r I',e = .returned v/\Q r/\VR I' v r/\Below w.heap.size w w'/\I.sub I'/\I'.inW w'/\∀b,b<w.heap.size->∀o,I' b o=I b o) .normal a w':=by
  intro hk;unfold atD at hk;split at hk
  ·rename_i r hr;split at hr
   ·rename_i av hav;split at hr
    ·rename_i x b hl;simp only[cm] at hr;subst hr;obtain⟨u,hru,hua⟩:=vg hs' hav;have hsub:I'.sub (I'.all C.B w'):=λb o u hu=>by
      unfold Mem.all;split
      ·exact hu
      ·exact hs'.mem b o u hu
     have ac4:axr L' w' (I'.all C.B w'):=λid l b hl hlb o u hu=>by unfold Mem.all;rw[if_neg (by have:=(hs'.fO id l b hl hlb).1;omega)];exact hu
     refine⟨hd,u,hru,u,x,I'.all C.B w',rfl,hk,(att hs' (ta H') hsub (ac4.g H') u av x b hua hl).1,hs'.below,Mem.nO hs'.mw hsub,?_,?_⟩
     ·intro b o u hu;unfold Mem.all at hu;split at hu
      ·exact hs'.mem b o u hu
      ·exact hu
     ·intro b hb o;unfold Mem.all;rw[if_pos (show b<C.B from hb)];exact hs'.m8 b hb (λh=>h) o
    ·cases hr
   ·cases hr
  ·exact hk.elim
 cases e with
 |normal=>exact fin hk
 |ret=>exact fin hk
 |exit id=>exact hk.elim
 |goto l=>exact hk.elim
 |panic c=>exact hk.elim
 |outgrown=>exact hk.elim
mutual
def pK(H:aq):AV->Option (RV×List Nat)
 | .p x=>some (.p x,[])
 | .row id aW=>match H id with
  |some (.row v e sz es)=>if v=aW then some (.row e sz es,[id]) else none
  |some (.shut v es)=>if v=aW then some (.p (.aE es),[]) else none
  |_=>none
 | .kP id aW=>match H id with
  |some (.deep v e sz k e' sz' es)=>if v=aW then some (.deep e sz k e' sz' es,[id]) else none
  |_=>none
 | .agg cs=>match wh H cs with
  |some (rs,ids)=>some (.agg rs,ids)
  |none=>none
 | .dg cs=>match wh H cs with
  |some (rs,ids)=>some (.dg rs,ids)
  |none=>none
 |_=>none
def wh(H:aq):List AV->Option (List RV×List Nat)
 | []=>some ([],[])
 |a :: r=>match pK H a,wh H r with
  |some (x,i),some (xs,j)=>some (x :: xs,i++j)
  |_,_=>none
end
inductive RLe:RV->RV->Prop
 |refl (r:RV):RLe r r
 |nil (e:TypeId) (sz:Nat) (h:0<sz):RLe (.p (.val (.slice none 0 0))) (.row e sz [])
 |aA3:RLe (.p (.val (.slice none 0 0))) (.p (.aE []))
 |agg (rs rs':List RV) (hl:rs'.length=rs.length) (h:∀ (j:Nat) r' r,rs'[j]? = some r'->rs[j]? = some r->RLe r' r):RLe (.agg rs') (.agg rs)
 |dg (rs rs':List RV) (hl:rs'.length=rs.length) (h:∀ (j:Nat) r' r,rs'[j]? = some r'->rs[j]? = some r->RLe r' r):RLe (.dg rs') (.dg rs)
def az1(P:Program)(rs:List ResultVar)(Q:RV->Prop):pJ:=λe env H=>match e with
 | .normal | .ret=>(match ni P env H rs with
  |some a=>(match pK H a with
   |some (r,ids)=>ids.Nodup/\∃r',RLe r r'/\Q r'
   |none=>False)
  |none=>False)
 |_=>False
theorem RLe.sound{r r':RV}(h:RLe r r'):∀ {w:World} {B:Nat} {J:Mem} {u:Value} {bs:List Nat},xq w B J u r bs->xq w B J u r' bs:=by
 induction h with
 |refl r=>exact λh=>h
 |nil e sz hsz =>
  intro w B J u bs h;cases h with
  |p _ _ h=>cases h;exact .row (.slice none 0 0) e sz [] [] ⟨⟨by simp,.inl ⟨rfl,rfl⟩⟩,hsz,by simp,by simp,by simp,λb hb=>by simp[Value.ownBlock] at hb⟩ rfl
 |aA3 =>
  intro w B J u bs h;cases h with
  |p _ _ h=>cases h;exact .p _ _ (.aE none 0 0 [] [] 1 rfl (by simp) rfl (by simp) (by simp) (.inl rfl) (λ_=>⟨rfl,rfl⟩) (Nat.le_refl _))
 |agg rs rs' hl h ih =>
  intro w B J u bs hr;cases hr with
  |agg us _ bs q1 q2 q3 q4 =>
   refine .agg us rs bs (q1.trans hl) q2 (λj u r b hu hr hb=>?_) q4;obtain⟨r',hr'⟩:∃r',rs'[j]? = some r':=by have hj:j<us.length:=(List.getElem?_eq_some_iff.1 hu).1;exact⟨rs'[j]'(by omega),by simp[q1 ▸ hj]⟩
   exact ih j r' r hr' hr (q3 j u r' b hu hr' hb)
 |dg rs rs' hl h ih =>
  intro w B J u bs hr;cases hr with
  |dg us _ bs q1 q2 q3 =>
   refine .dg us rs bs (q1.trans hl) q2 (λj u r b hu hr hb=>?_);obtain⟨r',hr'⟩:∃r',rs'[j]? = some r':=by have hj:j<us.length:=(List.getElem?_eq_some_iff.1 hu).1;exact⟨rs'[j]'(by omega),by simp[q1 ▸ hj]⟩
   exact ih j r' r hr' hr (q3 j u r' b hu hr' hb)
def l8(L:bg):List Nat->List Nat
 | []=>[]
 |id :: r=>(match L id with
  |some l=>l.ajZ
  |none=>[])++l8 L r
theorem am2(L:bg)(a b:List Nat):l8 L (a++b)=l8 L a++l8 L b:=by
 induction a with
 |nil=>rfl
 |cons x r ih=>simp[l8,ih,List.append_assoc]
theorem abv{L:bg} : ∀ {ids:List Nat} {b:Nat},b∈l8 L ids->∃id l,id∈ids/\L id=some l/\l.has b
 | [],b,h=>by simp[l8] at h
 |id :: r,b,h=>by
  simp only[l8,List.mem_append] at h;rcases h with h|h
  ·cases hL:L id with
   |none=>rw[hL] at h;cases h
   |some l=>rw[hL] at h;exact⟨id,l,by simp,hL,Loc.aj0.1 h⟩
  ·obtain⟨i,l,h1,h2⟩:=abv h;exact⟨i,l,by simp[h1],h2⟩
theorem fV.am3{C:Ctx}{H:aq}{env:Env}{tm:Array Value}{w:World}(hs:fV C env H I L tm w){id:Nat}{l:Loc}(hl:L id=some l):l.ajZ.Nodup:=by
 cases l with
 |box b=>simp[Loc.ajZ]
 |row v hdr sz=>show hdr.ownBlock.toList.Nodup;generalize hdr.ownBlock=x;cases x<;>simp
 |deep v hdr sz sz' eT n =>
  obtain⟨ch,hch⟩:=hs.dom id _ hl;have hc:=hs.chunk id ch hch;cases ch with
  |box cs=>obtain⟨b,arr,e,h1,_⟩:=hc;rw[h1] at hl;cases hl
  |row v' e sz es=>obtain⟨fN,us,h1,_⟩:=hc;rw[h1] at hl;cases hl
  |shut v' es=>obtain⟨fN,sz,h1,_⟩:=hc;rw[h1] at hl;cases hl
  |tail v' e sz es=>obtain⟨g,o,cap,arr,h1,_⟩:=hc;rw[h1] at hl;cases hl
  |deep v' e sz1 k e' sz2 es=>obtain⟨fN,us,vw,h1,h2,h3,h4,h5,h6,h7⟩:=hc;rw[h1] at hl;simp only[cm,Loc.deep.injEq] at hl;obtain⟨_,rfl,_,_,rfl,rfl⟩:=hl;exact aio h7
theorem ab1{C:Ctx}{H:aq}{env:Env}{tm:Array Value}{w:World}(hs:fV C env H I L tm w):∀ {ids:List Nat},ids.Nodup->(l8 L ids).Nodup
 | [],_=>by simp[l8]
 |id :: r,h=>by
  rw[List.nodup_cons] at h;simp only[l8,List.nodup_append];refine⟨?_,ab1 hs h.2,?_⟩
  ·cases hL:L id with
   |none=>simp
   |some l=>exact hs.am3 hL
  ·intro a ha b hb hab;subst hab;obtain⟨i,l,h1,h2,h3⟩:=abv hb;cases hL:L id with
   |none=>rw[hL] at ha;cases ha
   |some l'=>rw[hL] at ha;have:=hs.apart id i l' l a hL h2 (Loc.aj0.1 ha) h3;subst this;exact h.1 h1
def aA4(C:Ctx)(I:Mem)(L:bg)(w:World)(H:aq)(a:AV):Prop:=∀u r ids,di I L u a->pK H a=some (r,ids)->xq w C.B I u r (l8 L ids)
def aA5(C:Ctx)(I:Mem)(L:bg)(w:World)(H:aq)(dP:List AV):Prop :=
 ∀us rs ids,ng I L us dP->wh H dP=some (rs,ids)->us.length=rs.length/\∃bs:List (List Nat),us.length=bs.length/\bs.flatten=l8 L ids /\
  ∀ (j:Nat) u r b,us[j]? = some u->rs[j]? = some r->bs[j]? = some b->xq w C.B I u r b
theorem axv{C:Ctx}{H:aq}{env:Env}{tm:Array Value}{w:World}(hs:fV C env H I L tm w)(a:AV):aA4 C I L w H a:=by
 refine AV.rec (motive_1:=aA4 C I L w H) (motive_2:=aA5 C I L w H) ?_ ?_ ?_ ?_ ?_ ?_ ?_ ?_ ?_ ?_ ?_ ?_ ?_ ?_ ?_ ?_ a
 ·intro x u r ids hu hr;simp only[pK,cm,gD] at hr;obtain⟨rfl,rfl⟩:=hr;exact .p _ _ hu.nc
 ·intro id aW u r ids hu hr;simp only[pK] at hr;split at hr
  ·rename_i v e sz es hH;split at hr
   ·rename_i hv;subst hv;simp only[cm,gD] at hr;obtain⟨rfl,rfl⟩:=hr;obtain⟨hdr,us,h1,h2,h3,h4,h5,h6,h7⟩:=hs.chunk id _ hH;cases hu with
    |row _ _ _ v1 m9 sz1 hl hle hh hone =>
     rw[h1] at hl;simp only[cm,Loc.row.injEq] at hl;obtain⟨r1,r2,r3⟩:=hl;subst r1 r2 r3;have hxe:=hh rfl;subst hxe;have hb:l8 L [id]=u.ownBlock.toList:=by simp[l8,h1,Loc.ajZ]
     rw[hb];exact .row u e sz es us ⟨h2,h3,h4,h5,h6,h7⟩ hone
   ·cases hr
  ·rename_i v es hH;split at hr
   ·rename_i hv;subst hv;simp only[cm,gD] at hr;obtain⟨rfl,rfl⟩:=hr;obtain⟨hdr,sz,h1,h2,_⟩:=hs.chunk id _ hH;cases hu with
    |row _ _ _ v1 m9 sz1 hl hle hh hone=>rw[h1] at hl;simp only[cm,Loc.row.injEq] at hl;obtain⟨r1,r2,r3⟩:=hl;subst r1 r2 r3;rw[hh rfl];exact .p _ _ h2
   ·cases hr
  ·cases hr
 ·intro id off u r ids hu hr;simp[pK] at hr
 ·intro id aW i off u r ids hu hr;simp[pK] at hr
 ·intro cs ih u r ids hu hr;simp only[pK] at hr;split at hr
  ·rename_i rs ids' hrs;simp only[cm,gD] at hr;obtain⟨rfl,rfl⟩:=hr;cases hu with
   |agg us _ hl hv hone=>obtain⟨k1,bs,k2,k3,k4⟩:=ih us rs ids' ⟨hl,hv⟩ hrs;rw[<-k3];exact .agg us rs bs k1 k2 k4 hone
  ·cases hr
 ·intro cs ih u r ids hu hr;simp only[pK] at hr;split at hr
  ·rename_i rs ids' hrs;simp only[cm,gD] at hr;obtain⟨rfl,rfl⟩:=hr;cases hu with
   |dg us _ hl hv=>obtain⟨k1,bs,k2,k3,k4⟩:=ih us rs ids' ⟨hl,hv⟩ hrs;rw[<-k3];exact .dg us rs bs k1 k2 k4
  ·cases hr
 ·intro fn fs cs _ _ u r ids hu hr;simp[pK] at hr
 ·intro id aW u r ids hu hr;simp only[pK] at hr;split at hr
  ·rename_i v e sz k e' sz' es hH;split at hr
   ·rename_i hv;subst hv;simp only[cm,gD] at hr;obtain⟨rfl,rfl⟩:=hr;obtain⟨hdr,us,eT,h1,h2,h3,h4,h5,h6,h7⟩:=hs.chunk id _ hH;have hb:l8 L [id]=zc hdr eT es.length:=by simp[l8,h1,Loc.ajZ]
    rw[hb];cases hu with
    |kP _ _ _ v1 m9 _ _ aeO n1 hl hle hh hone=>rw[h1] at hl;simp only[cm,Loc.deep.injEq] at hl;obtain⟨e1,e2,e3,e4,e5,e6⟩:=hl;subst e1 e2 e3 e4 e5 e6;rw[hh rfl];exact .deep hdr e sz k e' sz' es us eT h2 h3 h4 h5 h6 h7
   ·cases hr
  ·cases hr
 ·intro id aW i off u r ids hu hr;simp[pK] at hr
 ·intro id aW i u r ids hu hr;simp[pK] at hr
 ·intro id aW i j off u r ids hu hr;simp[pK] at hr
 ·intro id n u r ids hu hr;simp[pK] at hr
 ·intro id aW off n m sz u r ids hu hr;simp[pK] at hr
 ·intro u r ids hu hr;simp[pK] at hr
 ·intro us rs ids hu hr;simp only[wh,cm,gD] at hr;obtain⟨rfl,rfl⟩:=hr;exact⟨hu.1,[],hu.1,rfl,by simp⟩
 ·intro a dP ih1 ih2 us rs ids hu hr;simp only[wh] at hr;split at hr
  ·rename_i x i xs j hx hxs;simp only[cm,gD] at hr;obtain⟨rfl,rfl⟩:=hr;cases us with
   |nil=>have:=hu.1;simp at this
   |cons u us =>
    obtain⟨k1,bs,k2,k3,k4⟩:=ih2 us xs j ⟨by simpa using hu.1,λj u c hu' hc=>hu.2 (j+1) u c hu' hc⟩ hxs;have k0:=ih1 u x i (hu.2 0 u a rfl rfl) hx;refine⟨by simp[k1],l8 L i :: bs,by simp[k2],by rw[List.flatten_cons,k3,am2],λj v r b hv hr hb=>?_⟩;cases j with
    |zero=>simp at hv hr hb;subst hv hr hb;exact k0
    |succ j=>exact k4 j v r b (by simpa using hv) (by simpa using hr) (by simpa using hb)
  ·cases hr
theorem xq.low{w:World}{B B':Nat}{J:Mem}{u:Value}{r:RV}{bs:List Nat}(h:xq w B J u r bs)(hB:B=B'):xq w B' J u r bs:=hB ▸ h
theorem ako{f:FuncId}{fn:Func}{c:Code}{args:List PV}{Q:RV->Prop}(own:List Nat)(hm:P.follows .mixedOrders=true)(hf:P.funcs[f]? = some fn)(hb:fn.body=some c)
  (hc:gl P f=true) (hn:args.length<=fn.ntmps) (h:cw P fn.ntmps own c (az1 P fn.results.toList Q) (iD args) cv):aZ P f args Q:=by
 refine⟨hc,λI w vs hI hv=>calls_of_wp hf hb ?_⟩;let C:Ctx:=Ctx.of w I fn.ntmps;have hlen:vs.length<=fn.ntmps:=by rw[hv.1];exact hn
 have hs:fV C (iD args) cv I (λ_=>none) (vs.toArray++Array.replicate (fn.ntmps-vs.toArray.size) undef) w :=
  {below:=Below.refl _ _
   mem:=hI
   mw:=Mem.ew I
   m8:=λ_ _ _ _=>rfl
   frame:=λ_ _ _=>rfl
   loc:=λ_=>trivial
   j9:=λid l b h=>by cases h
   size:=by simp;show vs.length+(fn.ntmps-vs.length)=fn.ntmps;omega
   env:=λt=>by
    unfold iD;split
    ·rename_i x hx;have ht:t<vs.length:=by rw[hv.1];exact (List.getElem?_eq_some_iff.1 hx).1
     refine .p _ _ (hv.2 t _ x ?_ hx);rw[List.getElem?_eq_getElem ht];simp[Array.getElem?_append,ht]
    ·exact .dead _
   dom:=λid l h=>by cases h
   chunk:=λid ch h=>by cases h
   fO:=λid l b h=>by cases h
   apart:=λi j li lj b h=>by cases h }
 refine wp_mono (oq hm c _ C rfl _ _ I _ _ w h hs) ?_;rintro e a w' ⟨hd,env',H',I',L',hk,hs'⟩;have fin:(match ni P env' H' fn.results.toList with
  |some a=>(match pK H' a with
   |some (r,ids)=>ids.Nodup/\∃r',RLe r r'/\Q r'
   |none=>False)
  |none=>False)->bodyPost P fn (λe w'=>∃v r bs I',e = .returned v/\Q r/\xq w' w.heap.size I' v r bs/\bs.Nodup/\(∀b∈bs,w.heap.size<=b/\b<w'.heap.size) /\
   Below w.heap.size w w'/\I.sub I'/\I'.inW w'/\∀b,b<w.heap.size->∀o,I' b o=I b o) .normal a w':=by
  intro hk;split at hk
  ·rename_i av hav;split at hk
   ·rename_i r ids hr;obtain⟨hnd,r',hle,hq⟩:=hk;obtain⟨u,hru,hua⟩:=vg hs' hav;exact⟨hd,u,hru,u,r',l8 L' ids,I',rfl,hq,hle.sound (axv hs' av u r ids hua hr),ab1 hs' hnd,λb hb=>by
     obtain⟨i,l,_,h2,h3⟩:=abv hb;exact hs'.fO i l b h2 h3,hs'.below,hs'.mw,hs'.mem,λb hb o=>hs'.m8 b hb (λh=>h) o⟩
   ·exact hk.elim
  ·exact hk.elim
 cases e with
 |normal=>exact fin hk
 |ret=>exact fin hk
 |exit id=>exact hk.elim
 |goto l=>exact hk.elim
 |panic c=>exact hk.elim
 |outgrown=>exact hk.elim
def adT(dP:List AV):Env:=λt=>match dP[t]? with
 |some a=>a
 |none=>.dead
def aA6(P:Program)(rs:List ResultVar)(Q:AV->Option Chunk->Prop):pJ:=λe env H=>match e with
 | .normal | .ret=>(match ni P env H rs with
  |some a=>Q a (H 1000000)
  |none=>False)
 |_=>False
theorem akp{f:FuncId}{fn:Func}{c:Code}{v:Nat}{e:TypeId}{sz:Nat}{es:List (List PV)}{ps:List PV}{Q:AV->Option Chunk->Prop}(own:List Nat)(hm:P.follows .mixedOrders=true)(hf:P.funcs[f]? = some fn)(hb:fn.body=some c)
  (hc:gl P f=true) (hn:ps.length+1<=fn.ntmps) (h:cw P fn.ntmps own c (aA6 P fn.results.toList Q) (adT (.row 1000000 v :: ps.map AV.p)) (bh cv 1000000 (.row v e sz es))):pH P f v e sz es ps Q:=by
 refine⟨hc,λB I w hdr us vs hB hI hr h1 hv=>calls_of_wp hf hb ?_⟩;let C:Ctx:=Ctx.am1 w I fn.ntmps B v sz hdr hB;let L:bg:=λi=>if i=1000000 then some (.row v hdr sz) else none
 have hlen:(hdr :: vs).length<=fn.ntmps:=by have:=hv.1;simp only[List.length_cons];omega
 have hL:∀i l,L i=some l->i=1000000/\l = .row v hdr sz:=λi l h=>by
  simp only[L] at h;split at h
  ·rename_i hi;exact⟨hi,by simpa using h.symm⟩
  ·cases h
 have hs:fV C (adT (.row 1000000 v :: ps.map AV.p)) (bh cv 1000000 (.row v e sz es)) I L ((hdr :: vs).toArray++Array.replicate (fn.ntmps-(hdr :: vs).toArray.size) undef) w :=
  {below:=Below.refl _ _
   mem:=hI
   mw:=Mem.ew I
   m8:=λ_ _ _ _=>rfl
   frame:=λ_ _ _=>rfl
   loc:=dN.refl _
   j9:=λid l b hl hb=>by obtain⟨_,rfl⟩:=hL id l hl;exact .inr hb
   size:=by simp only[Array.size_append,List.size_toArray,Array.size_replicate];show (hdr :: vs).length+(fn.ntmps-(hdr :: vs).length)=fn.ntmps;omega
   env:=λt=>by
    unfold adT;split
    ·rename_i a ha;have htl:t<(hdr :: vs).length:=by have:=(List.getElem?_eq_some_iff.1 ha).1;simp only[List.length_cons,List.length_map] at this ⊢;rw[hv.1];exact this
     have aiM:((hdr :: vs).toArray++Array.replicate (fn.ntmps-(hdr :: vs).toArray.size) undef).getD t undef=(hdr :: vs)[t]:=by simp only[Array.getD_eq_getD_getElem?,Array.getElem?_append,List.size_toArray,if_pos htl,List.getElem?_toArray,List.getElem?_eq_getElem htl,Option.getD_some]
     rw[aiM];cases t with
     |zero=>simp at ha;subst ha;exact .row hdr 1000000 v v hdr sz (by simp[L]) (Nat.le_refl _) (λ_=>rfl) h1
     |succ t =>
      simp only[List.getElem?_cons_succ,List.getElem?_map] at ha;cases hp:ps[t]? with
      |none=>rw[hp] at ha;cases ha
      |some p =>
       rw[hp] at ha;simp only[Option.map_some,cm] at ha;subst ha;have htv:t<vs.length:=by simpa using htl
       exact .p _ _ (hv.2 t _ p (by simp[htv]) hp)
    ·exact .dead _
   dom:=λid l hl=>by obtain⟨rfl,_⟩:=hL id l hl;exact⟨_,by simp[bh];rfl⟩
   chunk:=λid ch hch=>by
    unfold bh at hch;split at hch
    ·rename_i hi;subst hi;simp only[cm] at hch;subst hch;exact⟨hdr,us,by simp[L],hr.own,hr.pos,hr.all,hr.val,hr.one,hr.free⟩
    ·cases hch
   fO:=λid l b hl hb=>by obtain⟨_,rfl⟩:=hL id l hl;exact vC hr.own hb
   apart:=λi j li lj b hi hj _ _=>by
    rw[(hL i li hi).1,(hL j lj hj).1] }
 refine wp_mono (oq hm c _ C rfl _ _ I L _ w h hs) ?_;rintro x a w' ⟨hd,env',H',I',L',hk,hs'⟩;have fin:(match ni P env' H' fn.results.toList with
  |some a=>Q a (H' 1000000)
  |none=>False)->bodyPost P fn (λx w'=>∃u a H' I' L',x = .returned u/\Q a (H' 1000000)/\di I' L' u a/\fV (Ctx.am1 w I 0 B v sz hdr hB) gU H' I' L' #[] w') .normal a w':=by
  intro hk;split at hk
  ·rename_i av hav;obtain⟨u,hru,hua⟩:=vg hs' hav;refine⟨hd,u,hru,u,av,H',I',L',rfl,hk,hua,?_⟩;exact
   {below:=hs'.below
    mem:=hs'.mem
    mw:=hs'.mw
    m8:=hs'.m8
    frame:=hs'.frame
    loc:=hs'.loc
    j9:=hs'.j9
    size:=rfl
    env:=λt=>.dead _
    dom:=hs'.dom
    chunk:=hs'.chunk
    fO:=hs'.fO
    apart:=hs'.apart }
  ·exact hk.elim
 cases x with
 |normal=>exact fin hk
 |ret=>exact fin hk
 |exit id=>exact hk.elim
 |goto l=>exact hk.elim
 |panic c=>exact hk.elim
 |outgrown=>exact hk.elim
end Go.bP
namespace Go.bP
open Go.RowKit
section
variable{P:Program}{N:Nat}{own:List Nat}{ops:Array Oper}{K:Env->aq->Prop}{env:Env}{H:aq}
def akq(P:Program)(N:Nat)(own:List Nat)(ops:Array Oper)(r:Option (Prop×AV×aq))(o:Oper)(rest:List Oper)(K:Env->aq->Prop)(env:Env)(H:aq):Prop:=match r with
 |some (pre,v,H')=>pre/\walk P N own ops rest K (bZ env o.dst v) H'
 |none=>kf P o (walk P N own ops rest K) env H
def aa4(P:Program)(N:Nat)(own:List Nat)(ops:Array Oper)(g:Option Bool)(o:Oper)(rest:List Oper)(K:Env->aq->Prop)(env:Env)(H:aq):Prop:=match g with
 |some true=>akq P N own ops (fc P own o (ev env) H) o rest K env H
 |some false=>walk P N own ops rest K (bZ env o.dst (.dg [])) H
 |none=>False
theorem atE:walk P N own ops [] K env H=K env H:=rfl
theorem aqr(o:Oper)(rest:List Oper):walk P N own ops (o :: rest) K env H=(tB N o.dst/\aa4 P N own ops (lB ops o env) o rest K env H):=by rw[walk];unfold aa4 akq;congr 1
theorem am4(o:Oper)(rest:List Oper):aa4 P N own ops (some true) o rest K env H=akq P N own ops (fc P own o (ev env) H) o rest K env H:=rfl
theorem akr(o:Oper)(rest:List Oper):aa4 P N own ops (some false) o rest K env H=walk P N own ops rest K (bZ env o.dst (.dg [])) H:=rfl
theorem am5(pre:Prop)(v:AV)(H':aq)(o:Oper)(rest:List Oper):akq P N own ops (some (pre,v,H')) o rest K env H=(pre/\walk P N own ops rest K (bZ env o.dst v) H'):=rfl
theorem am6(o:Oper)(rest:List Oper):akq P N own ops none o rest K env H=kf P o (walk P N own ops rest K) env H:=rfl
theorem am7(d:Nat):tB N (some d)=(d<N):=rfl
theorem am8:tB N none=True:=rfl
theorem aqs(d:Nat)(v:AV):bZ env (some d) v=cD env d v:=rfl
theorem aqt(v:AV):bZ env none v=env:=rfl
theorem aks(d:Option Tmp)(op:Op)(t:TypeId)(pos:String)(a:Array Edge):lB ops ⟨d,op,t,pos,a,none⟩ env=some true:=rfl
def ac5(v:AV)(want:Bool):Option Bool:=match v with
 | .p (.val (.bool b))=>some (b == want)
 | .dg []=>some false
 |_=>none
def am9(d:Option Tmp)(want:Bool)(env:Env):Option Bool:=match d with
 |some d=>ac5 (env d) want
 |none=>none
theorem akt(d:Option Tmp)(op:Op)(t:TypeId)(pos:String)(a:Array Edge)(j:Nat)(want:Bool):lB ops ⟨d,op,t,pos,a,some (j,want)⟩ env=am9 ((ops[j]?).bind (·.dst)) want env:=by unfold lB am9 ac5;rfl
theorem aku(d:Tmp)(want:Bool):am9 (some d) want env=ac5 (env d) want:=rfl
theorem ana(want:Bool):ac5 (.dg []) want=some false:=rfl
theorem atF(b:Bool):ac5 (.p (.val (.bool b))) true=some b:=by cases b<;>rfl
theorem atG(b:Bool):ac5 (.p (.val (.bool b))) false=some (!b):=by cases b<;>rfl
def up3(r:Option (Prop×AV))(H:aq):Option (Prop×AV×aq):=match r with
 |some (pre,v)=>some (pre,v,H)
 |none=>none
theorem atH(pre:Prop)(v:AV):up3 (some (pre,v)) H=some (pre,v,H):=rfl
variable(d:Option Tmp)(ty:TypeId)(pos:String)(af:Array Edge)(g:Option (Nat×Bool))(ρ:Operand->AV)
theorem aqu(own:List Nat)(op:Op)(k:Tmp):fc P own ⟨some k,op,ty,pos,af,g⟩ ρ H=if own.contains k=true then orE (exN P ⟨some k,op,ty,pos,af,g⟩ ρ H k) (isApp op) (jU P ⟨some k,op,ty,pos,af,g⟩ ρ H) else jU P ⟨some k,op,ty,pos,af,g⟩ ρ H:=rfl
theorem anb(own:List Nat)(op:Op):fc P own ⟨none,op,ty,pos,af,g⟩ ρ H=jU P ⟨none,op,ty,pos,af,g⟩ ρ H:=rfl
theorem atI(x:Operand):jU P ⟨d,.move x,ty,pos,af,g⟩ ρ H=some (True,ρ x,H):=rfl
theorem ane(x:Operand):jU P ⟨d,.assign x,ty,pos,af,g⟩ ρ H=some (True,ρ x,H):=rfl
theorem atJ(c a b:Operand):jU P ⟨d,.pick c a b,ty,pos,af,g⟩ ρ H=up3 (ag2 (ρ c) (ρ a) (ρ b)) H:=by simp only[jU,uO,xp,lZ,xh,yO,vY,xu,up3];try (cases ag2 (ρ c) (ρ a) (ρ b)<;>rfl)
theorem akv(x:Operand)(k:Nat):jU P ⟨d,.extract x k,ty,pos,af,g⟩ ρ H=up3 (tu (ρ x) k) H:=by simp only[jU,uO,xp,lZ,xh,yO,vY,xu,up3];try (cases tu (ρ x) k<;>rfl)
theorem aqv(op:BinOp)(t u:TypeId)(x y:Operand):jU P ⟨d,.binOp op t x y u,ty,pos,af,g⟩ ρ H=up3 (lT P op t (ρ x) (ρ y)) H:=by simp only[jU,uO,xp,lZ,xh,yO,vY,xu,up3];try (cases lT P op t (ρ x) (ρ y)<;>rfl)
theorem atK(op:UnOp)(t:TypeId)(x:Operand):jU P ⟨d,.unOp op t x,ty,pos,af,g⟩ ρ H=up3 (unX op (ρ x)) H:=by simp only[jU,uO,xp,lZ,xh,yO,vY,xu,up3];try (cases unX op (ρ x)<;>rfl)
theorem akw(s e:TypeId)(x:Operand):jU P ⟨d,.convert s e x,ty,pos,af,g⟩ ρ H=up3 (aeP P s e (ρ x)) H:=by simp only[jU,uO,xp,lZ,xh,yO,vY,xu,up3];try (cases aeP P s e (ρ x)<;>rfl)
theorem aiN(fn:Fn)(f c:Array Operand):jU P ⟨d,.makeFunc fn f c,ty,pos,af,g⟩ ρ H=some (True,aj8 fn (f.toList.map ρ) (c.toList.map ρ),H):=rfl
theorem aqw(t:TypeId)(ps:Array (Nat×Operand)):jU P ⟨d,.build t ps,ty,pos,af,g⟩ ρ H=up3 (acY P t (ps.toList.map λx=>(x.1,ρ x.2))) H:=by simp only[jU,uO,xp,lZ,xh,yO,vY,xu,up3];try (cases acY P t (ps.toList.map λx=>(x.1,ρ x.2))<;>rfl)
theorem aqx(t:TypeId)(x i:Operand):jU P ⟨d,.index t x i,ty,pos,af,g⟩ ρ H=up3 (amQ P t (ρ x) (ρ i)) H:=by simp only[jU,uO,xp,lZ,xh,yO,vY,xu,up3];try (cases amQ P t (ρ x) (ρ i)<;>rfl)
theorem aqy(t:TypeId)(x:Operand)(lo hi mx:Option Operand):jU P ⟨d,.slice t x lo hi mx,ty,pos,af,g⟩ ρ H=up3 (xk P t (ρ x) (lo.map ρ) (hi.map ρ) (mx.map ρ)) H:=by simp only[jU,uO,xp,lZ,xh,yO,vY,xu,up3];try (cases xk P t (ρ x) (lo.map ρ) (hi.map ρ) (mx.map ρ)<;>rfl)
theorem aiO(x:Operand):jU P ⟨d,.nilCheck x,ty,pos,af,g⟩ ρ H=up3 (atj (ρ x)) H:=by simp only[jU,uO,xp,lZ,xh,yO,vY,xu,up3];try (cases atj (ρ x)<;>rfl)
def ag8(P:Program)(t:TypeId)(a:AV)(H:aq):Option (Prop×AV×aq):=match a with
 | .p (.fq cs off)=>(match sx P t cs off with|some x=>some (True,.p x,H)|none=>none)
 | .ptr id off => (match H id with
   |some (.box cs)=>match ry P t cs off with|some v=>some (True,v,H)|none=>none
   |_=>none)
 | .iY id aW i off => (match rowOf H id aW with
   |some es=>match sx P t (es.getD i []) off with|some x=>some (i<es.length/\0<(es.getD i []).length,.p x,H)|none=>none
   |none=>none)
 | .lz id aW i off => (match cK H id aW with
   |some (k,es)=>match ry P t (ac0 id aW i k (es.getD i [])) off with|some v=>some (i<es.length,v,H)|none=>none
   |none=>none)
 | .om id aW i j off => (match qn (cK H id aW) i with
   |some l=>match sx P t (l.getD j []) off with|some x=>some (j<l.length,.p x,H)|none=>none
   |none=>none)
 |_=>none
theorem atL(t:TypeId)(a:Operand):jU P ⟨d,.load t a,ty,pos,af,g⟩ ρ H=ag8 P t (ρ a) H:=by
  simp only[jU,uO,xp,lZ,xh,yO,vY,xu,apr,ag8];generalize ρ a=v;cases v with
  | p x => cases x <;> simp only []
           case fq cs off=>cases sx P t cs off<;>rfl
  |ptr id off =>
    simp only[];cases H id with
    |none=>rfl
    |some c=>cases c with
      |box cs=>simp only[];cases ry P t cs off<;>rfl
      |_=>rfl
  |iY id aW i off =>
    simp only[];cases rowOf H id aW with
    |none=>rfl
    |some es=>simp only[];cases sx P t (es.getD i []) off<;>rfl
  |lz id aW i off =>
    simp only[];cases cK H id aW with
    |none=>rfl
    |some r=>obtain⟨k,es⟩:=r;simp only[];cases ry P t (ac0 id aW i k (es.getD i [])) off<;>rfl
  |om id aW i j off =>
    simp only[];cases qn (cK H id aW) i with
    |none=>rfl
    |some l=>simp only[];cases sx P t (l.getD j []) off<;>rfl
  |_=>rfl
def ae6(P:Program)(f:Option (Nat×Nat))(a:AV)(H:aq):Option (Prop×AV×aq):=match f with
 |some (o,n)=>(match a with
  | .p (.fq cs off)=>some (n≠0,.p (.fq cs (off+o)),H)
  | .ptr id off=>some (n≠0,.ptr id (off+o),H)
  | .iY id aW i off=>(match rowOf H id aW with
   |some _=>some (n≠0,.iY id aW i (off+o),H)
   |none=>none)
  | .lz id aW i off=>(match cK H id aW with
   |some _=>some (n≠0,.lz id aW i (off+o),H)
   |none=>none)
  |_=>none)
 |none=>none
theorem agB(s:TypeId)(a:Operand)(k:Nat):jU P ⟨d,.fieldAddr s a k,ty,pos,af,g⟩ ρ H=ae6 P (bt P s k) (ρ a) H:=by
 simp only[jU,uO,xp,lZ,xh,yO,vY,xu,ais,ae6];generalize ρ a=v;cases bt P s k with
 |none=>cases v<;>rfl
 |some x =>
  obtain⟨o,n⟩:=x;cases v with
  |p x=>cases x<;>rfl
  |iY id aW i off=>simp only[];cases rowOf H id aW<;>rfl
  |lz id aW i off=>simp only[];cases cK H id aW<;>rfl
  |_=>rfl
def ac6(P:Program)(t:TypeId)(x i:AV)(H:aq):Option (Prop×AV×aq):=match x with
 | .row id aW=>(match i with
  | .p (.val (.int _ n))=>(match rowOf H id aW,cW P t with
   |some es,some e=>(match bf P e with
    |some sz=>some ((0<=n/\n<es.length)/\(es.getD n.toNat []).length=sz/\0<sz,.iY id aW n.toNat 0,H)
    |none=>none)
   |_,_=>none)
  |_=>none)
 | .kP id aW=>(match i with
  | .p (.val (.int _ n))=>(match cK H id aW,cW P t with
   |some (_,es),some e=>(match bf P e with
    |some sz=>some ((0<=n/\n<es.length)/\(es.getD n.toNat []).length=sz,.lz id aW n.toNat 0,H)
    |none=>none)
   |_,_=>none)
  |_=>none)
 | .mu id aW ii=>(match i with
  | .p (.val (.int _ n))=>(match qn (cK H id aW) ii,cW P t with
   |some l,some e=>(match bf P e with
    |some sz=>some ((0<=n/\n<l.length)/\(l.getD n.toNat []).length=sz,.om id aW ii n.toNat 0,H)
    |none=>none)
   |_,_=>none)
  |_=>none)
 | .nP id aW off m _ _=>(match i with
  | .p (.val (.int _ n))=>(match aiz H id aW,cW P t with
   |some (sz,es),some e=>(match bf P e with
    |some sz'=>some ((0<=n/\n<m/\off+m<=es.length)/\sz'=sz,.iY id aW (off+n.toNat) 0,H)
    |none=>none)
   |_,_=>none)
  |_=>none)
 |x=>up3 (pF P t x i) H
theorem agC(t:TypeId)(x i:Operand):jU P ⟨d,.indexAddr t x i,ty,pos,af,g⟩ ρ H=ac6 P t (ρ x) (ρ i) H:=by
 simp only[jU,uO,xp,lZ,xh,yO,vY,xu,ac6];generalize ρ x=v;generalize ρ i=u;cases v with
 |row id aW =>
  have:pF P t (.row id aW) u=none:=by
   unfold pF;cases u with
   |p y=>cases y with
    |val z=>cases z<;>rfl
    |_=>rfl
   |_=>rfl
  rw[this];simp only[];cases u with
  |p y=>cases y with
   |val z=>cases z with
    |int k n =>
     simp only[];cases rowOf H id aW<;>cases cW P t<;>simp only[]
     rename_i es e;cases bf P e<;>rfl
    |_=>rfl
   |_=>rfl
  |_=>rfl
 |kP id aW =>
  have:pF P t (.kP id aW) u=none:=by
   unfold pF;cases u with
   |p y=>cases y with
    |val z=>cases z<;>rfl
    |_=>rfl
   |_=>rfl
  rw[this];simp only[];cases u with
  |p y=>cases y with
   |val z=>cases z with
    |int k n =>
     simp only[];cases cK H id aW<;>cases cW P t<;>simp only[]
     rename_i r e;obtain⟨_,es⟩:=r;simp only[];all_goals(cases bf P e<;>rfl)
    |_=>rfl
   |_=>rfl
  |_=>rfl
 |mu id aW ii =>
  have:pF P t (.mu id aW ii) u=none:=by
   unfold pF;cases u with
   |p y=>cases y with
    |val z=>cases z<;>rfl
    |_=>rfl
   |_=>rfl
  rw[this];simp only[];cases u with
  |p y=>cases y with
   |val z=>cases z with
    |int k n =>
     simp only[];cases qn (cK H id aW) ii<;>cases cW P t<;>simp only[]
     rename_i l e;cases bf P e<;>rfl
    |_=>rfl
   |_=>rfl
  |_=>rfl
 |nP id aW off m m' z =>
  have:pF P t (.nP id aW off m m' z) u=none:=by
   unfold pF;cases u with
   |p y=>cases y with
    |val z=>cases z<;>rfl
    |_=>rfl
   |_=>rfl
  rw[this];simp only[];cases u with
  |p y=>cases y with
   |val z=>cases z with
    |int k n =>
     simp only[];cases aiz H id aW<;>cases cW P t<;>simp only[]
     rename_i r e;obtain⟨sz,es⟩:=r;simp only[];all_goals(cases bf P e<;>rfl)
    |_=>rfl
   |_=>rfl
  |_=>rfl
 |_=>simp only[];generalize pF P t _ u=r;cases r<;>rfl
theorem aqz(t:TypeId)(a x:Operand):jU P ⟨d,.store t a x,ty,pos,af,g⟩ ρ H=vY P ⟨d,.store t a x,ty,pos,af,g⟩ ρ H:=by simp only[jU,uO,xp,lZ,xh,yO,xu];split<;>simp_all
theorem aqA(t:TypeId):jU P ⟨d,.alloc t,ty,pos,af,g⟩ ρ H=vY P ⟨d,.alloc t,ty,pos,af,g⟩ ρ H:=by simp only[jU,uO,xp,lZ,xh,yO,xu];split<;>simp_all
theorem axw(t:TypeId)(x:Operand):jU P ⟨d,.box t x,ty,pos,af,g⟩ ρ H=vY P ⟨d,.box t x,ty,pos,af,g⟩ ρ H:=by simp only[jU,uO,xp,lZ,xh,yO,xu];split<;>simp_all
theorem ae7(f:Operand)(args:Array Operand)(ts:Array TypeId):jU P ⟨d,.call ⟨.value f,args,ts⟩,ty,pos,af,g⟩ ρ H=none:=rfl
def akx(P:Program)(t:TypeId)(a:AV)(H:aq):Option (Prop×AV×aq):=match a with
 | .row id aW=>(match rowOf H id aW with
  |some es=>up3 (rz P t (.p (.aE es))) H
  |none=>none)
 | .kP id aW=>(match cK H id aW with
  |some (_,es)=>up3 (rz P t (.p (.aE es))) H
  |none=>none)
 | .mu id aW i=>(match qn (cK H id aW) i with
  |some l=>up3 (rz P t (.p (.aE l))) H
  |none=>none)
 |a=>up3 (rz P t a) H
theorem axx(t:TypeId)(a:Operand):jU P ⟨d,.call ⟨.builtin .len,#[a],#[t]⟩,ty,pos,af,g⟩ ρ H=akx P t (ρ a) H:=by
 simp only[jU,uO,xp,lZ,xh,yO,vY,xu,akx,tv,List.map_cons,List.map_nil];generalize ρ a=v;cases v with
 |row id aW =>
  have:rz P t (.row id aW)=none:=rfl;rw[this];simp only[];cases rowOf H id aW with
  |none=>rfl
  |some es=>simp only[];generalize rz P t _=r;cases r<;>rfl
 |kP id aW =>
  have:rz P t (.kP id aW)=none:=rfl;rw[this];simp only[];cases cK H id aW with
  |none=>rfl
  |some r=>obtain⟨_,es⟩:=r;simp only[];generalize rz P t _=r;cases r<;>rfl
 |mu id aW i =>
  have:rz P t (.mu id aW i)=none:=rfl;rw[this];simp only[];cases qn (cK H id aW) i with
  |none=>rfl
  |some l=>simp only[];generalize rz P t _=r;cases r<;>rfl
 |_=>simp only[];generalize rz P t _=r;cases r<;>rfl
def aky(P:Program)(t1 t2:TypeId)(a b:AV)(H:aq):Option (Prop×AV×aq):=match aix P t1 t2 a b with
 |some (pre,v)=>some (pre,v,H)
 |none=>agz P t1 t2 a b H
theorem ae8(t1 t2:TypeId)(a b:Operand):jU P ⟨d,.call ⟨.builtin .append,#[a,b],#[t1,t2]⟩,ty,pos,af,g⟩ ρ H=aky P t1 t2 (ρ a) (ρ b) H:=by
 simp only[jU,uO,xp,lZ,xh,yO,vY,xu,aky,tv,List.map_cons,List.map_nil];cases aix P t1 t2 (ρ a) (ρ b) with
 |some r=>rfl
 |none=>simp only[];cases agz P t1 t2 (ρ a) (ρ b) H<;>rfl
def aiP(P:Program)(t:TypeId)(n:Nat)(parts:List (Nat×AV))(H:aq):Option (Prop×AV×aq):=match k9 P t n parts with
 |some (_,es)=>(match n with
  |0=>some (True,.p .emp,H)
  |_=>some (True,.p (.aE es),H))
 |none=>match k9 P t n (parts.map λx=>(x.1,zq (cY (pI parts) H) x.2)) with
  |some (_,es)=>some (True,.p (.aE es),cY (pI parts) H)
  |none=>none
theorem ae9(t:TypeId)(n:Nat)(ps:Array (Nat×Operand)):jU P ⟨d,.buildSlice t n ps,ty,pos,af,g⟩ ρ H=aiP P t n (ps.toList.map λx=>(x.1,ρ x.2)) H:=by
 simp only[jU,uO,xp,lZ,xh,yO,vY,xu,aiP];cases k9 P t n (ps.toList.map λx=>(x.1,ρ x.2)) with
 |some r=>obtain⟨e,es⟩:=r;cases n<;>rfl
 |none=>rfl
end
section
variable{P:Program}{N:Nat}{own:List Nat}{K:pJ}{env:Env}{H:aq}
def axy(P:Program)(N:Nat)(own:List Nat)(b:Code)(K:pJ):pJ:=λx e' H'=>match x with
 | .normal=>cw P N own b K e' H'
 |x=>K x e' H'
def aiQ(id:Nat)(K:pJ):pJ:=λx e' H'=>match x with
 | .exit id'=>if id'=id then K .normal e' H' else K (.exit id') e' H'
 |x=>K x e' H'
def ab2(P:Program)(N:Nat)(own:List Nat)(v:AV)(a b:Code)(K:pJ)(env:Env)(H:aq):Prop:=wg (cw P N own a K env H) (cw P N own b K env H) v
def ab3(P:Program)(N:Nat)(own:List Nat)(c:Code)(K:pJ)(env:Env)(H:aq):Prop:=akm (cw P N own c) K env H
theorem axz:cw P N own .skip K env H=K .normal env H:=rfl
theorem aqB(id:Nat)(l:List Oper):cw P N own (.region id l.toArray false) K env H=walk P N own l.toArray l (K .normal) env H:=rfl
theorem axA(id:Nat)(l:List Oper):cw P N own (.region id l.toArray true) K env H=vf P N own l.toArray (K .normal) env H:=rfl
theorem az2(a b:Code):cw P N own (.seq a b) K env H=cw P N own a (axy P N own b K) env H:=rfl
theorem axB(c:Operand)(a b:Code):cw P N own (.cond c a b) K env H=ab2 P N own (ev env c) a b K env H:=rfl
theorem atM(id:Nat)(c:Code):cw P N own (.block id c) K env H=cw P N own c (aiQ id K) env H:=rfl
theorem axC(c:Code):cw P N own (.loop c) K env H=ab3 P N own c K env H:=rfl
theorem axD(id:Nat):cw P N own (.exit id) K env H=K (.exit id) env H:=rfl
theorem az3:cw P N own .ret K env H=K .ret env H:=rfl
theorem akz(b:Code):axy P N own b K .normal env H=cw P N own b K env H:=rfl
theorem aqC(b:Code)(id:Nat):axy P N own b K (.exit id) env H=K (.exit id) env H:=rfl
theorem atN(b:Code):axy P N own b K .ret env H=K .ret env H:=rfl
theorem agD(id:Nat):aiQ id K .normal env H=K .normal env H:=rfl
theorem akA(id id':Nat):aiQ id K (.exit id') env H=if id'=id then K .normal env H else K (.exit id') env H:=rfl
theorem anf(id:Nat):aiQ id K .ret env H=K .ret env H:=rfl
theorem ang(a b:Code):ab2 P N own (.p (.val (.bool true))) a b K env H=cw P N own a K env H:=by simp[ab2,wg]
theorem akB(a b:Code):ab2 P N own (.p (.val (.bool false))) a b K env H=cw P N own b K env H:=by simp[ab2,wg]
theorem aJ{b:Bool}{x y:Code}(h1:b=true->cw P N own x K env H)(h2:b=false->cw P N own y K env H):ab2 P N own (.p (.val (.bool b))) x y K env H:=⟨h1,h2⟩
def aA7(r:Option PV)(Q:PV->Prop):Prop:=match r with
 |some r=>Q r
 |none=>False
theorem atO(rs:List ResultVar)(Q:PV->Prop):az0 P rs Q .ret env H=aA7 (atD P env H rs) Q:=rfl
theorem aqD(r:PV)(Q:PV->Prop):aA7 (some r) Q=Q r:=rfl
theorem az4(t:Tmp):ev env (.tmp t)=env t:=rfl
theorem az5(k:IntKind)(n:Int):ev env (.const (.int k n)) = .p (.val (.int k n)):=rfl
theorem axE(b:Bool):ev env (.const (.bool b)) = .p (.val (.bool b)):=rfl
theorem aqE(b:ByteArray):ev env (.const (.string b)) = .p (.val (.string b)):=rfl
theorem atP(a:Option Addr)(n c:Nat):ev env (.const (.slice a n c)) = .p (.val (.slice a n c)):=rfl
theorem axF(f:FuncId):ev env (.func f) = .p (.jF (.func f) [] []):=rfl
theorem atQ:iD []=gU:=by funext t;simp[iD,gU]
theorem atS(a:PV):iD [a]=cD gU 0 (.p a):=by funext t;unfold iD cD gU;rcases t with _|t<;>simp
theorem atT(a b:PV):iD [a,b]=cD (cD gU 0 (.p a)) 1 (.p b):=by funext t;unfold iD cD gU;rcases t with _|_|t<;>simp
theorem atU(a b c:PV):iD [a,b,c]=cD (cD (cD gU 0 (.p a)) 1 (.p b)) 2 (.p c):=by funext t;unfold iD cD gU;rcases t with _|_|_|t<;>simp
theorem atV(a b c d:PV):iD [a,b,c,d]=cD (cD (cD (cD gU 0 (.p a)) 1 (.p b)) 2 (.p c)) 3 (.p d):=by funext t;unfold iD cD gU;rcases t with _|_|_|_|t<;>simp
theorem atW(a b c d e:PV):iD [a,b,c,d,e]=cD (cD (cD (cD (cD gU 0 (.p a)) 1 (.p b)) 2 (.p c)) 3 (.p d)) 4 (.p e):=by funext t;unfold iD cD gU;rcases t with _|_|_|_|_|t<;>simp
end
section
variable{P:Program}{t:TypeId}{k:IntKind}{a b:Int}
theorem atX:lT P .add t (.p (.val (.int k a))) (.p (.val (.int k b)))=some (True,.p (.val (.int k (k.wrap (a+b))))):=by simp[lT,yN]
theorem atY:lT P .sub t (.p (.val (.int k a))) (.p (.val (.int k b)))=some (True,.p (.val (.int k (k.wrap (a-b))))):=by simp[lT,yN]
theorem at0:lT P .mul t (.p (.val (.int k a))) (.p (.val (.int k b)))=some (True,.p (.val (.int k (k.wrap (a * b))))):=by simp[lT,yN]
theorem at1:lT P .eql t (.p (.val (.int k a))) (.p (.val (.int k b)))=some (True,.p (.val (.bool (decide (a=b))))):=by simp[lT,yN]
theorem at2:lT P .neq t (.p (.val (.int k a))) (.p (.val (.int k b)))=some (True,.p (.val (.bool (!decide (a=b))))):=by simp[lT,yN]
theorem at3:lT P .lss t (.p (.val (.int k a))) (.p (.val (.int k b)))=some (True,.p (.val (.bool (decide (a<b))))):=by simp[lT,yN]
theorem at4:lT P .leq t (.p (.val (.int k a))) (.p (.val (.int k b)))=some (True,.p (.val (.bool (decide (a<=b))))):=by simp[lT,yN]
theorem at5:lT P .gtr t (.p (.val (.int k a))) (.p (.val (.int k b)))=some (True,.p (.val (.bool (decide (b<a))))):=by simp[lT,yN]
theorem at6:lT P .geq t (.p (.val (.int k a))) (.p (.val (.int k b)))=some (True,.p (.val (.bool (decide (b<=a))))):=by simp[lT,yN]
theorem at7{k':IntKind} : lT P .shr t (.p (.val (.int k a))) (.p (.val (.int k' b)))=some (0<=b,.p (.val (.int k (a.fdiv (2 ^ (min b.toNat k.bits)))))):=by simp[lT,yN]
theorem aqF{x y:ByteArray} : lT P .eql t (.p (.val (.string x))) (.p (.val (.string y)))=some (True,.p (.val (.bool (decide (x=y))))):=by simp[lT,yN]
theorem at8{es:List (List PV)}(h:isSlice P t=true):lT P .eql t (.p (.aE es)) (.p (.val (.slice none 0 0)))=some (es≠[],.p (.val (.bool false))):=by simp[lT,h]
theorem aqG{ao:Option Addr}{n c:Nat}(h:isSlice P t=true):lT P .eql t (.p (.val (.slice ao n c))) (.p (.val (.slice none 0 0)))=some (True,.p (.val (.bool ao.isNone))):=by
 unfold isSlice at h;unfold lT yN;split at h
 ·rename_i e he;simp[he]
 ·cases h
def afa(P:Program)(t:TypeId):Bool:=match P.underlying t with
 |some .bool=>true
 |_=>false
theorem aqH{x y:Bool}(h:afa P t=true):lT P .eql t (.p (.val (.bool x))) (.p (.val (.bool y)))=some (True,.p (.val (.bool (x == y)))):=by
 unfold afa at h;unfold lT yN;split at h
 ·rename_i he;simp[he]
 ·cases h
theorem aqI{x y:Bool}(h:afa P t=true):lT P .neq t (.p (.val (.bool x))) (.p (.val (.bool y)))=some (True,.p (.val (.bool (!(x == y))))):=by
 unfold afa at h;unfold lT yN;split at h
 ·rename_i he;simp[he]
 ·cases h
def eqX(op:BinOp)(r:Option Bool):Option (Prop×AV):=match op,r with
 | .eql,some b=>some (True,.p (.val (.bool b)))
 | .neq,some b=>some (True,.p (.val (.bool !b)))
 |_,_=>none
theorem axG(b:Bool):eqX .neq (some b)=some (True,.p (.val (.bool !b))):=rfl
theorem at9{op:BinOp}{cs ds:List PV}{ks:List BK}(h:abR P t=some ks):lT P op t (.p (.agg cs)) (.p (.agg ds))=eqX op (eqK ks cs ds):=by unfold lT eqX;simp only[h];try rfl
theorem axH:eqK [] [] []=some true:=rfl
def aua(b:Bool)(r:Option Bool):Option Bool:=match r with
 |some r=>some (b&&r)
 |none=>none
theorem anh(a b:Bool):aua a (some b)=some (a&&b):=rfl
theorem aA8(ks:List BK)(k:IntKind)(a b:Int)(cs ds:List PV):eqK (.i :: ks) (.val (.int k a) :: cs) (.val (.int k b) :: ds)=aua (decide (a=b)) (eqK ks cs ds):=by simp only[eqK,if_true,aua];all_goals(cases eqK ks cs ds<;>rfl)
theorem axI{x:Bool} : unX .not (.p (.val (.bool x)))=some (True,.p (.val (.bool !x))):=rfl
theorem ani{x y:AV} : ag2 (.p (.val (.bool true))) x y=some (True,x):=rfl
theorem akC{x y:AV} : ag2 (.p (.val (.bool false))) x y=some (True,y):=rfl
theorem anj(vs:List PV)(n:Nat):tu (.p (.dg vs)) n=(match vs[n]? with|some x=>some (True,.p x)|none=>none):=rfl
theorem ank(vs:List AV)(n:Nat):tu (.dg vs) n=(match vs[n]? with|some x=>some (True,x)|none=>none):=rfl
theorem anl(H:aq)(cs:List PV)(off:Nat):ag8 P t (.p (.fq cs off)) H=(match sx P t cs off with|some x=>some (True,.p x,H)|none=>none):=rfl
def apy(P:Program)(t:TypeId)(c:Option Chunk)(off:Nat)(H:aq):Option (Prop×AV×aq):=match c with
 |some (.box cs)=>(match ry P t cs off with|some v=>some (True,v,H)|none=>none)
 |_=>none
theorem aqJ(H:aq)(id off:Nat):ag8 P t (.ptr id off) H=apy P t (H id) off H:=rfl
theorem akD(H:aq)(cs:List AV)(off:Nat):apy P t (some (.box cs)) off H=(match ry P t cs off with|some v=>some (True,v,H)|none=>none):=rfl
theorem anm(H:aq)(id aW i off:Nat):ag8 P t (.iY id aW i off) H=(match rowOf H id aW with
   |some es=>(match sx P t (es.getD i []) off with|some x=>some (i<es.length/\0<(es.getD i []).length,.p x,H)|none=>none)
   |none=>none):=rfl
def rdA(g:Option Bool)(n:Option Nat)(cs:List AV)(off:Nat):Option AV:=match g with
 |some true=>(match n with
  |some n=>if off+n<=cs.length then some (yA ((cs.drop off).take n)) else none
  |none=>none)
 |some false=>cs[off]?
 |none=>none
def rdP(g:Option Bool)(n:Option Nat)(cs:List PV)(off:Nat):Option PV:=match g with
 |some true=>(match n with
  |some n=>if off+n<=cs.length then some (.agg ((cs.drop off).take n)) else none
  |none=>none)
 |some false=>cs[off]?
 |none=>none
theorem aub{cs:List AV}{off:Nat} : ry P t cs off=rdA (fP P t) (bf P t) cs off:=rfl
theorem auc{cs:List PV}{off:Nat} : sx P t cs off=rdP (fP P t) (bf P t) cs off:=rfl
theorem axJ{cs:List AV}{off:Nat}{n:Option Nat} : rdA (some false) n cs off=cs[off]?:=rfl
theorem axK{cs:List PV}{off:Nat}{n:Option Nat} : rdP (some false) n cs off=cs[off]?:=rfl
theorem axL{cs:List AV}{off n:Nat} : rdA (some true) (some n) cs off=if off+n<=cs.length then some (yA ((cs.drop off).take n)) else none:=rfl
theorem axM{cs:List PV}{off n:Nat} : rdP (some true) (some n) cs off=if off+n<=cs.length then some (.agg ((cs.drop off).take n)) else none:=rfl
theorem akE(H:aq)(o n:Nat)(cs:List PV)(off:Nat):ae6 P (some (o,n)) (.p (.fq cs off)) H=some (n≠0,.p (.fq cs (off+o)),H):=rfl
theorem ann(H:aq)(o n:Nat)(id off:Nat):ae6 P (some (o,n)) (.ptr id off) H=some (n≠0,.ptr id (off+o),H):=rfl
theorem akF(H:aq)(o n:Nat)(id aW i off:Nat):ae6 P (some (o,n)) (.iY id aW i off) H=(match rowOf H id aW with
   |some _=>some (n≠0,.iY id aW i (off+o),H)
   |none=>none):=rfl
def az6(e:Option TypeId)(sz:TypeId->Option Nat)(es:List (List PV))(a:Int)(H:aq):Option (Prop×AV×aq):=match e with
 |some e=>(match sz e with
  |some sz=>some ((0<=a/\a<es.length)/\(es.getD a.toNat []).length=sz/\0<sz,.p (.fq (es.getD a.toNat []) 0),H)
  |none=>none)
 |none=>none
theorem ano{H:aq}{es:List (List PV)} : ac6 P t (.p (.aE es)) (.p (.val (.int k a))) H=az6 (cW P t) (bf P) es a H:=by
 unfold ac6 pF az6 up3;cases cW P t with
 |none=>rfl
 |some e=>simp only[];cases bf P e<;>rfl
theorem aqK{e:TypeId}{f:TypeId->Option Nat}{es:List (List PV)}{H:aq} : az6 (some e) f es a H=(match f e with
  |some sz=>some ((0<=a/\a<es.length)/\(es.getD a.toNat []).length=sz/\0<sz,.p (.fq (es.getD a.toNat []) 0),H)
  |none=>none):=rfl
def az7(r:Option (List (List PV)))(e:Option TypeId)(sz:TypeId->Option Nat)(id aW:Nat)(a:Int)(H:aq):Option (Prop×AV×aq):=match r,e with
 |some es,some e=>(match sz e with
  |some sz=>some ((0<=a/\a<es.length)/\(es.getD a.toNat []).length=sz/\0<sz,.iY id aW a.toNat 0,H)
  |none=>none)
 |_,_=>none
theorem anp{H:aq}{id aW:Nat} : ac6 P t (.row id aW) (.p (.val (.int k a))) H=az7 (rowOf H id aW) (cW P t) (bf P) id aW a H:=by unfold ac6 az7;rfl
theorem aqL{es:List (List PV)}{e:TypeId}{f:TypeId->Option Nat}{id aW:Nat}{H:aq} : az7 (some es) (some e) f id aW a H=(match f e with
  |some sz=>some ((0<=a/\a<es.length)/\(es.getD a.toNat []).length=sz/\0<sz,.iY id aW a.toNat 0,H)
  |none=>none):=rfl
theorem aud(H:aq)(id aW:Nat):rowOf H id aW=(match H id with
 |some (.row v _ _ es)=>if v=aW then some es else none
 |some (.shut v es)=>if v=aW then some es else none
 |some (.tail v _ _ es)=>if v=aW then some es else none
 |_=>none):=rfl
theorem aue{H:aq}{es:List (List PV)}(h:isSlice P t=true):akx P t (.p (.aE es)) H=some (True,.p (.val (.int .i64 es.length)),H):=by simp[akx,rz,h,up3]
theorem auf{H:aq}{s:ByteArray}(h:ze P t=true):akx P t (.p (.val (.string s))) H=some (True,.p (.val (.int .i64 s.size)),H):=by simp[akx,rz,h,up3]
theorem aug{H:aq}{id aW:Nat}(h:isSlice P t=true):akx P t (.row id aW) H=(match rowOf H id aW with
  |some es=>some (True,.p (.val (.int .i64 es.length)),H)
  |none=>none):=by
 simp only[akx,rz,h];all_goals(cases rowOf H id aW<;>rfl)
theorem auh{s:ByteArray}(h:ze P t=true):amQ P t (.p (.val (.string s))) (.p (.val (.int k a)))=some (0<=a/\a<s.size,.p (.val (.int .u8 (nX s a.toNat)))):=by simp[amQ,h]
def cvI(b:Bool)(d:Option IntKind)(a:Int):Option (Prop×AV):=match b,d with
 |true,some k=>some (True,.p (.val (.int k (k.wrap a))))
 |_,_=>none
theorem aqM{s:TypeId} : aeP P s t (.p (.val (.int k a)))=cvI (P.underlying s).isSome (ag0 P t) a:=by unfold aeP cvI;cases (P.underlying s).isSome<;>cases ag0 P t<;>rfl
theorem aui{k:IntKind} : cvI true (some k) a=some (True,.p (.val (.int k (k.wrap a)))):=rfl
def auj(P : Program)(t : TypeId)(a v : AV)(H : aq) : Option (Prop × AV × aq) := match bf P t with
  | some n => if (bO v).length = n ∧ (bO v).all oo = true then (match a with
    | .ptr id off=>(match H id with
     |some (.box cs)=>if off+n<=cs.length then some (True,.dead,bh H id (.box (splice cs off (bO v)))) else none
     |_=>none)
    | .iY id aW i off=>(match H id,uN (bO v) with
     |some (.row v0 e sz es),some ps=>if v0=aW then some (i<es.length/\off+n<=sz,.dead,bh H id (.row v0 e sz (es.set i (splice (es.getD i []) off ps)))) else none
     |_,_=>none)
    |_=>none)
   else none
  |none=>none
theorem anq(d:Option Tmp)(ty:TypeId)(pos:String)(af:Array Edge)(g:Option (Nat×Bool))(ρ:Operand->AV)(H:aq)(x y:Operand):jU P ⟨d,.store t x y,ty,pos,af,g⟩ ρ H=auj P t (ρ x) (ρ y) H:=by rw[aqz];rfl
def aA9(d : Option Tmp)(v : AV)(H : aq) : Option (Prop × AV × aq) := match d with
  |some d=>(match H d with
   |none=>if (bO v).all oo=true then some (True,.ptr d 0,bh H d (.box (bO v))) else none
   |some _=>none)
  |none=>none
theorem auk(d:Option Tmp)(ty:TypeId)(pos:String)(af:Array Edge)(g:Option (Nat×Bool))(ρ:Operand->AV)(H:aq)(x:Operand):jU P ⟨d,.box t x,ty,pos,af,g⟩ ρ H=aA9 d (ρ x) H:=by rw[axw];rfl
def aul(P : Program)(d : Option Tmp)(e : TypeId)(H : aq) : Option (Prop × AV × aq) := match d with
  |some d=>(match H d,dn P e with
   |none,some zs=>if zs.all (·.oneCell')=true then some (True,.ptr d 0,bh H d (.box (zs.map λz=>.p (.val z)))) else none
   |_,_=>none)
  |none=>none
theorem anr(d:Option Tmp)(ty:TypeId)(pos:String)(af:Array Edge)(g:Option (Nat×Bool))(ρ:Operand->AV)(H:aq)(e:TypeId):jU P ⟨d,.alloc e,ty,pos,af,g⟩ ρ H=aul P d e H:=by rw[aqA];rfl
def aBa(P:Program)(e:Option TypeId)(n:Nat)(parts:List (Nat×AV)):Option (TypeId×List (List PV)):=match e with
 |some e=>(match bf P e,dn P e with
  | some sz, some zs => if zs.length = sz ∧ 0 < sz ∧ n * sz ≤ 16777216 ∧ zs.all (·.oneCell') = true then
    (match qm (λi=>some (i * sz,sz)) (gE zs n) parts with
    |some cs=>(match uN cs with
     |some ps=>if ps.length=n * sz then some (e,chunk sz n ps) else none
     |none=>none)
    |none=>none)
   else none
  |_,_=>none)
 |none=>none
theorem ans(n:Nat)(parts:List (Nat×AV)):k9 P t n parts=aBa P (cW P t) n parts:=rfl
theorem aqN(e:TypeId)(n:Nat)(parts:List (Nat×AV)):aBa P (some e) n parts=(match bf P e,dn P e with
  | some sz, some zs => if zs.length = sz ∧ 0 < sz ∧ n * sz ≤ 16777216 ∧ zs.all (·.oneCell') = true then
    (match qm (λi=>some (i * sz,sz)) (gE zs n) parts with
    |some cs=>(match uN cs with
     |some ps=>if ps.length=n * sz then some (e,chunk sz n ps) else none
     |none=>none)
    |none=>none)
   else none
  |_,_=>none):=rfl
theorem ant(n:Nat)(parts:List (Nat×AV))(H:aq):aiP P t n parts H=(match k9 P t n parts with
 |some (_,es)=>(match n with
  |0=>some (True,.p .emp,H)
  |_=>some (True,.p (.aE es),H))
 |none=>(match k9 P t n (parts.map λx=>(x.1,zq (cY (pI parts) H) x.2)) with
  |some (_,es)=>some (True,.p (.aE es),cY (pI parts) H)
  |none=>none)):=rfl
def aum(place : Nat → Option (Nat × Nat))(p : Option (Nat × Nat))(cells : List AV)(v : AV)(rest : List (Nat × AV)) : Option (List AV) := match p with
  |some (off,size)=>if (bO v).length=size/\off+size<=cells.length/\(bO v).all oo=true then qm place (splice cells off (bO v)) rest else none
  |none=>none
theorem aqO(place:Nat->Option (Nat×Nat))(cells:List AV):qm place cells []=some cells:=rfl
theorem anu(place:Nat->Option (Nat×Nat))(cells:List AV)(i:Nat)(v:AV)(rest:List (Nat×AV)):qm place cells ((i,v) :: rest)=aum place (place i) cells v rest:=by simp only[qm,aum];try rfl
theorem anv(place:Nat->Option (Nat×Nat))(cells:List AV)(off size:Nat)(v:AV)(rest:List (Nat×AV)):aum place (some (off,size)) cells v rest=if (bO v).length=size/\off+size<=cells.length/\(bO v).all oo=true then qm place (splice cells off (bO v)) rest else none:=rfl
theorem agE(zs:List Value):gE zs 0=[]:=rfl
theorem agF(zs:List Value)(n:Nat):gE zs (n+1)=(zs.map λz=>AV.p (.val z))++gE zs n:=by simp[gE,List.replicate_succ]
theorem anw{α:Type}(sz:Nat)(l:List α):chunk sz 0 l=[]:=rfl
theorem anx{α:Type}(sz n:Nat)(l:List α):chunk sz (n+1) l=l.take sz :: chunk sz n (l.drop sz):=rfl
def aBb(z:Option (List Value))(pl:Option (List (Nat×Nat)))(parts:List (Nat×AV)):Option (Prop×AV):=match z,pl with
 | some zs, some pl => if zs.all (·.oneCell') = true then
   (match qm (λi=>pl[i]?) (zs.map λz=>.p (.val z)) parts with
   |some cs=>some (True,yA cs)
   |none=>none)
  else none
 |_,_=>none
theorem aqP(parts:List (Nat×AV)):acY P t parts=aBb (dn P t) (fu P t) parts:=rfl
theorem aqQ(zs:List Value)(pl:List (Nat×Nat))(parts:List (Nat×AV)):aBb (some zs) (some pl) parts=if zs.all (·.oneCell')=true then
   (match qm (λi=>pl[i]?) (zs.map λz=>.p (.val z)) parts with
   |some cs=>some (True,yA cs)
   |none=>none)
  else none:=rfl
theorem axN(k:IntKind)(n:Int):Value.oneCell' (.int k n)=true:=rfl
theorem aun(b:Bool):Value.oneCell' (.bool b)=true:=rfl
theorem anz(b:ByteArray):Value.oneCell' (.string b)=true:=rfl
theorem aqR(a:Option Addr)(n c:Nat):Value.oneCell' (.slice a n c)=true:=rfl
def axO(ty:Option (TypeId×Nat×Nat))(a b:AV)(H:aq):Option (Prop×AV×aq):=match ty with
 |some (e',sz',sy)=>(match a with
  | .row id aW=>(match H id with
   | some (.row v e sz es) => if v = aW ∧ e = e' ∧ sz = sz' then (match ve H b with
     |some ns=>some ((es.length+ns.length) * sy<=140737488355328/\∀x∈ns,x.length=sz,.row id (aW+1),bh H id (.row (aW+1) e sz (es++ns)))
     |none=>none)
    else none
   |_=>none)
  |_=>none)
 |none=>none
theorem akG(t1 t2:TypeId)(id aW:Nat)(b:AV)(H:aq):aky P t1 t2 (.row id aW) b H=axO (eU P t1 t2) (.row id aW) b H:=by
 unfold aky aix agz axO;simp only[isNil];cases eU P t1 t2 with
 |none=>rfl
 |some x=>rfl
theorem aqS(H:aq)(ns:List (List PV)):ve H (.p (.aE ns))=some ns:=rfl
theorem aqT(H:aq)(ao:Option Addr)(c:Nat):ve H (.p (.val (.slice ao 0 c)))=some []:=rfl
theorem aqU(H:aq)(id aW:Nat):ve H (.row id aW)=rowOf H id aW:=rfl
theorem akH(e':TypeId)(sz' sy:Nat)(id aW:Nat)(b:AV)(H:aq):axO (some (e',sz',sy)) (.row id aW) b H=(match H id with
   | some (.row v e sz es) => if v = aW ∧ e = e' ∧ sz = sz' then (match ve H b with
     |some ns=>some ((es.length+ns.length) * sy<=140737488355328/\∀x∈ns,x.length=sz,.row id (aW+1),bh H id (.row (aW+1) e sz (es++ns)))
     |none=>none)
    else none
   |_=>none):=rfl
def auo(ty:Option (TypeId×Nat×Nat))(es:List (List PV))(H:aq):Option (Prop×AV×aq):=match ty with
 |some (_,sz,sy)=>some (es.length * sy<=140737488355328/\∀x∈es,x.length=sz,.p (.aE es),H)
 |none=>none
theorem aqV(e':TypeId)(sz' sy:Nat)(es:List (List PV))(H:aq):auo (some (e',sz',sy)) es H=some (es.length * sy<=140737488355328/\∀x∈es,x.length=sz',.p (.aE es),H):=rfl
theorem aup(t1 t2:TypeId)(es:List (List PV))(H:aq):aky P t1 t2 (.p .emp) (.p (.aE es)) H=auo (eU P t1 t2) es H:=by
 unfold aky aix agz auo;simp only[isNil];cases eU P t1 t2 with
 |none=>rfl
 |some x=>rfl
theorem auq(t1 t2:TypeId)(es:List (List PV))(H:aq):aky P t1 t2 (.p (.val (.slice none 0 0))) (.p (.aE es)) H=auo (eU P t1 t2) es H:=by
 unfold aky aix agz auo;simp only[isNil];cases eU P t1 t2 with
 |none=>rfl
 |some x=>rfl
theorem aur(cs:List AV):yA cs=(match uN cs with|some ps=>.p (.agg ps)|none=>.agg cs):=rfl
theorem aus:uN []=some []:=rfl
theorem az8(x:PV)(r:List AV):uN (.p x :: r)=(match uN r with|some ps=>some (x :: ps)|none=>none):=rfl
theorem aut(i v:Nat)(r:List AV):uN (.row i v :: r)=none:=rfl
theorem auu(i v:Nat)(r:List AV):uN (.ptr i v :: r)=none:=rfl
theorem akI(cs:List AV):bO (.agg cs)=cs:=rfl
theorem aiR(cs:List PV):bO (.p (.agg cs))=cs.map AV.p:=rfl
theorem akJ(v:Value):bO (.p (.val v))=[.p (.val v)]:=rfl
theorem akK(v:List (List PV)):bO (.p (.aE v))=[.p (.aE v)]:=rfl
theorem akL:bO (.p .emp)=[.p .emp]:=rfl
theorem akM(i v:Nat):bO (.row i v)=[.row i v]:=rfl
theorem aqW(v:Value):oo (.p (.val v))=true:=rfl
theorem aqX(v:List (List PV)):oo (.p (.aE v))=true:=rfl
theorem aqY:oo (.p .emp)=true:=rfl
theorem aqZ(i v:Nat):oo (.row i v)=true:=rfl
theorem aq0{α:Type}(cs:List α)(off:Nat)(new:List α):splice cs off new=cs.take off++new++cs.drop (off+new.length):=rfl
theorem axP{env:Env}{H:aq}(rs:List ResultVar):atD P env H rs=(match ni P env H rs with
 |some a=>(match adQ H a with
  |some (x,_)=>some x
  |none=>none)
 |none=>none):=rfl
theorem aq1{env:Env}{H:aq}(r:ResultVar):ni P env H [r]=(match sK P env H r with|some a=>some a|none=>none):=by simp only[ni,aiL];cases sK P env H r<;>rfl
theorem aq2{env:Env}{H:aq}(r s:ResultVar):ni P env H [r,s]=(match sK P env H r with|some a=>(match sK P env H s with|some b=>some (.dg [a,b])|none=>none)|none=>none):=by simp only[ni,aiL];cases sK P env H r<;>cases sK P env H s<;>rfl
theorem akN{env:Env}{H:aq}(r s t:ResultVar):ni P env H [r,s,t]=(match sK P env H r with|some a=>(match sK P env H s with|some b=>(match sK P env H t with|some c=>some (.dg [a,b,c])|none=>none)|none=>none)|none=>none):=by simp only[ni,aiL];cases sK P env H r<;>cases sK P env H s<;>cases sK P env H t<;>rfl
theorem auv{env:Env}{H:aq}(t:Tmp):sK P env H (.tmp t)=some (env t):=rfl
def aBc(P:Program)(t:TypeId)(H:aq)(a:AV):Option AV:=match a with
 | .ptr id off=>(match H id with
  |some (.box cs)=>ry P t cs off
  |_=>none)
 |_=>none
theorem aq3{env:Env}{H:aq}(a:Tmp)(t:TypeId):sK P env H (.cell a t)=aBc P t H (env a):=rfl
theorem auw{H:aq}(id off:Nat):aBc P t H (.ptr id off)=(match H id with
  |some (.box cs)=>ry P t cs off
  |_=>none):=rfl
theorem axQ(H:aq)(x:PV):adQ H (.p x)=some (x,false):=rfl
theorem aq4(H:aq)(id aW:Nat):adQ H (.row id aW)=tA H (.row id aW):=rfl
theorem aq5(H:aq)(cs:List AV):adQ H (.agg cs)=(match dO (nY H) cs with
  |some (ps,b)=>some (.agg ps,b)
  |none=>none):=rfl
theorem aq6(H:aq)(cs:List AV):adQ H (.dg cs)=(match dO (fW H) cs with
  |some (ps,b)=>some (.dg ps,b)
  |none=>none):=rfl
theorem aiS(H:aq)(x:PV):fW H (.p x)=some (x,false):=rfl
theorem aq7(H:aq)(id aW:Nat):fW H (.row id aW)=tA H (.row id aW):=rfl
theorem aq8(H:aq)(id off:Nat):fW H (.ptr id off)=nY H (.ptr id off):=rfl
theorem aq9(H:aq)(cs:List AV):fW H (.agg cs)=(match dO (nY H) cs with
  |some (ps,b)=>some (.agg ps,b)
  |none=>none):=rfl
theorem ara(H:aq)(fn:Fn)(fs cs:List AV):fW H (.jF fn fs cs)=(match dO (nY H) fs,dO (nY H) cs with
  |some (f,b),some (c,d)=>some (.jF fn f c,b||d)
  |_,_=>none):=rfl
theorem axR(H:aq)(x:PV):nY H (.p x)=some (x,false):=rfl
theorem arb(H:aq)(id aW:Nat):nY H (.row id aW)=tA H (.row id aW):=rfl
theorem arc(H:aq)(id off:Nat):nY H (.ptr id off)=(match H id with
  |some (.box cs)=>(match dO (abY H) cs with
   |some (ps,_)=>some (.fq ps off,true)
   |none=>none)
  |_=>none):=rfl
theorem axS(H:aq)(x:PV):abY H (.p x)=some (x,false):=rfl
theorem ard(H:aq)(id aW:Nat):tA H (.row id aW)=(match H id with
  |some (.row v _ _ es)=>if v=aW then some (.aE es,true) else none
  |some (.shut v es)=>if v=aW then some (.aE es,false) else none
  |_=>none):=rfl
theorem arf(f:AV->Option (PV×Bool)):dO f []=some ([],false):=rfl
theorem anA(f:AV->Option (PV×Bool))(a:AV)(r:List AV):dO f (a :: r)=(match f a,dO f r with
  |some (x,b),some (xs,c)=>some (x :: xs,b||c)
  |_,_=>none):=rfl
theorem auy(fn:Fn)(fs cs:List AV):aj8 fn fs cs=(match uN fs,uN cs with
 |some f,some c=>.p (.jF fn f c)
 |_,_=>.jF fn fs cs):=rfl
end
attribute [go_sem] axz aqB axA az2 axB atM axC axD az3 akz aqC atN agD akA anf ang akB atO aqD atE aqr am4 akr am5 am6 am7 am8 aqs aqt aks akt aku atF atG ana atH atI ane atJ akv aqv atK akw aiN aqw aqx aqy aiO atL agB agC anq anr auk ae7 axx ae8 ae9 az4 az5 axE aqE atP axF atQ atS atT atU atV atW azR axo atX atY at0 at1 at2 at3 at4 at5 at6 at7 aqF at8 axI ani akC anj ank anl aqJ akD anm aub auc axJ axK axL axM akE ann akF ano aqK anp aqL aud aue auf aug auh aqM aui auj aA9 aul ans aqN ant aqO anu anv agE agF anw anx aqP aqQ axN aun anz aqR akG aqS aqT aqH aqI aqG at9 axG axH anh aA8 Option.isNone_none Option.isNone_some aqU akH aqV aup auq aur aus az8 aut auu akI aiR akJ akK akL akM aqW aqX aqY aqZ aq0 axP aq1 aq2 akN auv aq3 auw axQ aq4 aq5 aq6 aiS aq7 aq8 aq9 ara axR arb arc axS ard arf anA auy
attribute [go_sem] true_and and_true if_true if_false ite_true ite_false not_true_eq_false not_false_eq_true Bool.not_true Bool.not_false Bool.false_eq_true ne_eq Option.bind_some Option.bind_none Option.map_some Option.map_none List.map_cons List.map_nil List.length_cons List.length_nil List.drop_zero List.drop_succ_cons List.take_zero List.take_succ_cons List.cons_append List.nil_append List.append_nil List.drop_nil List.take_nil Nat.zero_add Nat.add_zero AV.p.injEq PV.val.injEq PV.aE.injEq PV.dg.injEq PV.agg.injEq Value.int.injEq Value.bool.injEq Value.string.injEq cm List.cons.injEq List.mem_cons List.not_mem_nil forall_eq_or_imp forall_eq or_false false_or and_self List.getElem?_toArray List.getElem?_cons_zero List.getElem?_cons_succ List.all_cons List.all_nil Bool.and_true Bool.true_and Bool.and_self Bool.or_false Bool.false_or Bool.false_and Bool.and_false Bool.or_true Bool.true_or beq_self_eq_true List.length_map List.length_append Int.ofNat_lt Int.natCast_nonneg Int.toNat_natCast List.append_assoc
variable{P:Program}{I:Mem}{L:bg}
mutual
def lU(H:aq):AV->Prop
 | .p _=>True
 | .row id _=>H id≠none
 | .ptr id _=>H id≠none
 | .iY id _ _ _=>H id≠none
 | .agg cs=>l9 H cs
 | .dg cs=>l9 H cs
 | .jF _ fs cs=>l9 H fs/\l9 H cs
 | .kP id _=>H id≠none
 | .lz id _ _ _=>H id≠none
 | .mu id _ _=>H id≠none
 | .om id _ _ _ _=>H id≠none
 | .bsl id _=>H id≠none
 | .nP id _ _ _ _ _=>H id≠none
 | .dead=>True
def l9(H:aq):List AV->Prop
 | []=>True
 |a :: r=>lU H a/\l9 H r
end
theorem nj{H:aq} : ∀ {cs:List AV},l9 H cs->∀ (j:Nat) c,cs[j]? = some c->lU H c
 | [],_,j,c,h=>by simp at h
 |a :: r,h,j,c,hc=>by
  cases j with
  |zero=>simp at hc;subst hc;exact h.1
  |succ j=>exact nj h.2 j c (by simpa using hc)
def bg.to(L:bg)(H:aq):bg:=λid=>match H id with
 |some _=>L id
 |none=>none
theorem ld{H:aq}{id:Nat}(h:H id≠none):L.to H id=L id:=by
 unfold bg.to;cases hH:H id with
 |none=>exact absurd hH h
 |some c=>rfl
theorem to_eq{H:aq}{id:Nat}{l:Loc}(h:L.to H id=some l):L id=some l/\∃c,H id=some c:=by
 unfold bg.to at h;cases hH:H id with
 |none=>simp[hH] at h
 |some c=>simp[hH] at h;exact⟨h,c,rfl⟩
theorem di.to{u:Value}{a:AV}(h:di I L u a){H:aq} : lU H a->di I (L.to H) u a:=by
 induction h with
 |p u x h=>exact λ_=>.p u x h
 |row u id aW v hdr sz hl hle h h1=>exact λhi=>.row u id aW v hdr sz ((ld hi).trans hl) hle h h1
 |ptr id b off hl=>exact λhi=>.ptr id b off ((ld hi).trans hl)
 |iY u id aW v i off hdr sz hl hle h h1=>exact λhi=>.iY u id aW v i off hdr sz ((ld hi).trans hl) hle h h1
 |agg us cs hl _ hone ih=>exact λhi=>.agg us cs hl (λj u c hu hc=>ih j u c hu hc (nj hi j c hc)) hone
 |dg us cs hl _ ih=>exact λhi=>.dg us cs hl (λj u c hu hc=>ih j u c hu hc (nj hi j c hc))
 |jF fn us vs fs cs hl hl' _ _ ih ih'=>exact λhi=>.jF fn us vs fs cs hl hl' (λj u c hu hc=>ih j u c hu hc (nj hi.1 j c hc)) (λj u c hu hc=>ih' j u c hu hc (nj hi.2 j c hc))
 |kP u id aW v hdr sz sz' eT n hl hle h h1=>exact λhi=>.kP u id aW v hdr sz sz' eT n ((ld hi).trans hl) hle h h1
 |lz u id aW v i off hdr sz sz' eT n hl hle h h1=>exact λhi=>.lz u id aW v i off hdr sz sz' eT n ((ld hi).trans hl) hle h h1
 |mu u id aW v i hdr sz sz' eT n hl hle h h1=>exact λhi=>.mu u id aW v i hdr sz sz' eT n ((ld hi).trans hl) hle h h1
 |om u id aW v i j off hdr sz sz' eT n hl hle h h1=>exact λhi=>.om u id aW v i j off hdr sz sz' eT n ((ld hi).trans hl) hle h h1
 |bsl id b n hl=>exact λhi=>.bsl id b n ((ld hi).trans hl)
 |nP a id aW v off n m c hdr sz hl hle hn hm hz h=>exact λhi=>.nP a id aW v off n m c hdr sz ((ld hi).trans hl) hle hn hm hz h
 |dead u=>exact λ_=>.dead u
def afb(e' e:Env):Prop:=∀t,e' t = .dead\/e' t=e t
def ac7(e:Env)(H:aq):Prop:=∀t,lU H (e t)
def pL(H' H:aq):Prop:=∀id cs,H' id=some (.box cs)->l9 H cs
theorem auz(e:Env):afb gU e:=λ_=>.inl rfl
theorem axT{e' e:Env}{d:Nat}{v:AV}(h:afb e' e)(hv:e d=v):afb (cD e' d v) e:=λt=>by
 unfold cD;split
 ·rename_i ht;subst ht;exact .inr hv.symm
 ·exact h t
theorem aBd(H:aq):HSub cv H:=λ_ _ h=>by cases h
theorem arh{H' H:aq}{id:Nat}{c:Chunk}(h:HSub H' H)(hc:H id=some c):HSub (bh H' id c) H:=λi c' hi=>by
 unfold bh at hi;split at hi
 ·rename_i hid;subst hid;simp at hi;subst hi;exact hc
 ·exact h i c' hi
theorem auA(H:aq):ac7 gU H:=λ_=>trivial
theorem axU{e:Env}{H:aq}{d:Nat}{v:AV}(h:ac7 e H)(hv:lU H v):ac7 (cD e d v) H:=λt=>by
 unfold cD;split
 ·exact hv
 ·exact h t
theorem axV(H:aq):pL cv H:=λ_ _ h=>by cases h
theorem anB{H' H:aq}{id:Nat}{cs:List AV}(h:pL H' H)(hc:l9 H cs):pL (bh H' id (.box cs)) H:=λi c' hi=>by
 unfold bh at hi;split at hi
 ·simp at hi;subst hi;exact hc
 ·exact h i c' hi
theorem anC{H' H:aq}{id v:Nat}{e:TypeId}{sz:Nat}{es:List (List PV)}(h:pL H' H):pL (bh H' id (.row v e sz es)) H:=λi c' hi=>by
 unfold bh at hi;split at hi
 ·simp at hi
 ·exact h i c' hi
theorem akO{H' H:aq}{id v:Nat}{es:List (List PV)}(h:pL H' H):pL (bh H' id (.shut v es)) H:=λi c' hi=>by
 unfold bh at hi;split at hi
 ·simp at hi
 ·exact h i c' hi
def kG(H H':aq):Prop:=∀i,1000000<=i->H i≠none->H' i≠none
theorem azw(H':aq):kG cv H':=λ_ _ h=>absurd rfl h
theorem akP{H H':aq}{i:Nat}{c:Chunk}(hi:i<1000000)(h:kG H H'):kG (bh H i c) H':=λj hj hn=>by refine h j hj ?_;unfold bh at hn;rw[if_neg (by omega)] at hn;exact hn
theorem ag9{H H':aq}{i:Nat}{c:Chunk}(hi:H' i≠none)(h:kG H H'):kG (bh H i c) H':=λj hj hn=>by
 by_cases e:j=i
 ·rw[e];exact hi
 ·refine h j hj ?_;unfold bh at hn;rw[if_neg e] at hn;exact hn
theorem axW{e e':Env}{H H':aq}(h1:afb e' e)(h2:HSub H' H)(h3:ac7 e' H')(h4:pL H' H')(h5:kG H H'):fE e H e' H':=λC I L tm w hs=>by
 refine⟨I,L.to H',?_⟩;exact
 {below:=hs.below
  mem:=hs.mem
  mw:=hs.mw
  m8:=hs.m8
  frame:=hs.frame
  loc:=λi=>by
   cases hi:C.L0 i with
   |none=>trivial
   |some l0 =>
    have h0:=hs.loc i;rw[hi] at h0;have hL:L i≠none:=by
     cases l0 with
     |box b=>intro e;rw[e] at h0;cases h0
     |row v hdr sz=>obtain⟨_,_,h0,_⟩:=h0;intro e;rw[e] at h0;cases h0
     |deep v hdr sz sz' eT n=>obtain⟨_,_,_,_,h0,_⟩:=h0;intro e;rw[e] at h0;cases h0
    have hH:H i≠none:=by
     cases hLi:L i with
     |none=>exact absurd hLi hL
     |some l=>obtain⟨c,hc⟩:=hs.dom i l hLi;rw[hc];simp
    have e:=ld (L:=L) (h5 i (C.hL0 i l0 hi) hH);rw[e];exact h0
  j9:=λid l b hl hb=>hs.j9 id l b (to_eq hl).1 hb
  size:=hs.size
  env:=λt=>by
   rcases h1 t with h|h
   ·rw[h];exact .dead _
   ·have:=hs.env t;rw[<-h] at this;exact this.to (h3 t)
  dom:=λid l hl=>(to_eq hl).2
  chunk:=λid ch hch=>by
   have hc:=hs.chunk id ch (h2 id ch hch);have hid:L.to H' id=L id:=ld (by rw[hch];simp);cases ch with
   |box cs=>obtain⟨b,arr,e,g1,g2,g3,g4,g5,g6⟩:=hc;exact⟨b,arr,e,hid.trans g1,g2,g3,λj u c hu hc=>(g4 j u c hu hc).to (nj (h4 id cs hch) j c hc),g5,g6⟩
   |row aW e sz es=>obtain⟨hdr,us,g1,g2⟩:=hc;exact⟨hdr,us,hid.trans g1,g2⟩
   |shut aW es=>obtain⟨hdr,sz,g1,g2⟩:=hc;exact⟨hdr,sz,hid.trans g1,g2⟩
   |tail aW e sz es=>obtain⟨g,o,cap,arr,g1,g2⟩:=hc;exact⟨g,o,cap,arr,hid.trans g1,g2⟩
   |deep aW e sz k e' sz' es=>obtain⟨hdr,us,eT,g1,g2⟩:=hc;exact⟨hdr,us,eT,hid.trans g1,g2⟩
  fO:=λid l b hl hb=>hs.fO id l b (to_eq hl).1 hb
  apart:=λi j li lj b hi hj u5 xg=>hs.apart i j li lj b (to_eq hi).1 (to_eq hj).1 u5 xg }
theorem jg{e:Env}{H:aq}(t id:Nat)(ty:TypeId)(sz:Nat)(ht:e t = .p (.val (.slice none 0 0)))(hid:H id=none)(hsz:0<sz) :
  fE e H (cD e t (.row id 0)) (bh H id (.row 0 ty sz [])):=λC I L tm w hs=>by
 obtain⟨n1,n2,n3⟩:=aiD hs hid ty hsz;have hs':=n2 e tm hs;refine⟨I,_,{ hs' with env:=λi=>?_ }⟩;unfold cD;split
 ·rename_i hi;subst hi;have:=hs.env i;rw[ht] at this;rw[this.dr.1];exact n1
 ·exact hs'.env i
theorem eN{e:Env}{H:aq}(b off id:Nat)(ty:TypeId)(sz:Nat)(cs:List AV)(hb:H b=some (.box cs))(ho:cs[off]? = some (.p (.val (.slice none 0 0))))(hid:H id=none)(hsz:0<sz) :
  fE e H e (bh (bh H id (.row 0 ty sz [])) b (.box (cs.set off (.row id 0)))):=λC I L tm w hs=>by
 obtain⟨n1,n2,n3⟩:=aiD hs hid ty hsz;have hs':=n2 e tm hs;have hne:b≠id:=λh=>by rw[h,hid] at hb;cases hb
 obtain⟨blk,arr,et,g1,g2,g3,g4,g5,g6⟩:=hs.chunk b _ hb;refine⟨I,_,{ hs' with dom:=λi l hl=>?_,chunk:=λi ch hch=>?_ }⟩
 ·obtain⟨c,hc⟩:=hs'.dom i l hl;by_cases hi:i=b
  ·exact⟨.box (cs.set off (.row id 0)),by unfold bh;rw[if_pos hi]⟩
  ·exact⟨c,by unfold bh at hc ⊢;rw[if_neg hi];exact hc⟩
 ·by_cases hi:i=b
  ·subst hi;have:Chunk.box (cs.set off (.row id 0))=ch:=by simpa[bh] using hch
   subst this;refine⟨blk,arr,et,by simp[cu,hne,g1],g2,by simpa using g3,λj u c hu hc=>?_,g5,g6⟩;rw[List.getElem?_set] at hc;split at hc
   ·rename_i hj;subst hj;split at hc
    ·simp at hc;subst hc;have:=g4 off u _ hu ho;rw[this.dr.1];exact n1
    ·cases hc
   ·exact (g4 j u c hu hc).mono (Mem.ew I) n3
  ·exact hs'.chunk i ch (by unfold bh at hch ⊢;rw[if_neg hi] at hch;exact hch)
section
variable{N:Nat}{own:List Nat}{σ:Type}
def auB(inv:σ->Env)(jA:σ->aq)(φ:σ->Prop)(μ:σ->Nat)(x:σ)(env:Env)(H:aq):Prop:=∃y,φ y/\μ y<μ x/\fE env H (inv y) (jA y)
def akQ(inv:σ->Env)(jA:σ->aq)(φ:σ->Prop)(μ:σ->Nat)(x:σ)(K:pJ):pJ:=λe env H=>match e with
 | .normal=>auB inv jA φ μ x env H
 |e=>K e env H
theorem aiT{inv:σ->Env}{jA:σ->aq}{φ:σ->Prop}{μ:σ->Nat}{x:σ}{K:pJ}{env:Env}{H:aq} : akQ inv jA φ μ x K .normal env H=auB inv jA φ μ x env H:=rfl
theorem anD{inv:σ->Env}{jA:σ->aq}{φ:σ->Prop}{μ:σ->Nat}{x:σ}{K:pJ}{env:Env}{H:aq}{id:Nat} : akQ inv jA φ μ x K (.exit id) env H=K (.exit id) env H:=rfl
theorem ari{inv:σ->Env}{jA:σ->aq}{φ:σ->Prop}{μ:σ->Nat}{x:σ}{K:pJ}{env:Env}{H:aq} : akQ inv jA φ μ x K .ret env H=K .ret env H:=rfl
theorem ck{c:Code}{K:pJ}{env:Env}{H:aq}(inv:σ->Env)(jA:σ->aq)(φ:σ->Prop)(μ:σ->Nat)(x0:σ)(h0:φ x0)(hw:fE env H (inv x0) (jA x0))
  (hr:∀x,φ x->cw P N own c (akQ inv jA φ μ x K) (inv x) (jA x)):ab3 P N own c K env H:=by
 refine⟨λn e H=>∃x,φ x/\μ x=n/\e=inv x/\H=jA x,⟨μ x0,_,_,⟨x0,h0,rfl,rfl,rfl⟩,hw⟩,?_⟩;rintro n e H ⟨x,hx,rfl,rfl,rfl⟩
 have hk : (akQ inv jA φ μ x K) = (fun z e' H' => match z with
   | .normal=>∃m e2 H2,m<μ x/\(∃x,φ x/\μ x=m/\e2=inv x/\H2=jA x)/\fE e' H' e2 H2
   |z=>K z e' H'):=by
  funext z e' H';cases z<;>try rfl
  apply propext;constructor
  ·rintro⟨y,h1,h2,h3⟩;exact⟨μ y,_,_,h2,⟨y,h1,rfl,rfl,rfl⟩,h3⟩
  ·rintro⟨m,e2,H2,h1,⟨y,h2,rfl,rfl,rfl⟩,h3⟩;exact⟨y,h2,h1,h3⟩
 have:=hr x hx;rw[hk] at this;exact this
theorem cC{inv:σ->Env}{jA:σ->aq}{φ:σ->Prop}{μ:σ->Nat}{x:σ}{env:Env}{H:aq}(y:σ)(h1:φ y)(h2:μ y<μ x)(h3:fE env H (inv y) (jA y)):auB inv jA φ μ x env H:=⟨y,h1,h2,h3⟩
end
attribute [go_sem] aiT anD ari
end Go.bP
namespace Go.bP
open Go.RowKit
variable{P:Program}{o:Oper}{ρ ρ':Operand->AV}
theorem pM{l:List (Nat×Operand)}(h:∀x∈l.map (·.2),ρ x=ρ' x):(l.map λx=>(x.1,ρ x.2))=l.map λx=>(x.1,ρ' x.2):=by apply List.map_congr_left;intro x hx;rw[h x.2 (List.mem_map.2 ⟨x,hx,rfl⟩)]
theorem aha(h:∀x∈o.op.operands,ρ x=ρ' x):uO P o ρ=uO P o ρ':=by
 unfold uO;cases hop:o.op<;>simp only[hop,Op.operands] at h ⊢
 case build t ps=>rw[pM (l:=ps.toList) (λx hx=>h x (by simpa using hx))]
 case buildSlice t n ps=>rw[pM (l:=ps.toList) (λx hx=>h x (by simpa using hx))]
 case makeFunc fn f c =>
  have h1:f.toList.map ρ=f.toList.map ρ':=List.map_congr_left λx hx=>h x (by simp at hx;simp[hx])
  have h2:c.toList.map ρ=c.toList.map ρ':=List.map_congr_left λx hx=>h x (by simp at hx;simp[hx])
  rw[h1,h2]
 case slice t x lo hi mx =>
  rw[h x (by simp)];have h1:lo.map ρ=lo.map ρ':=by
   cases lo with
   |none=>rfl
   |some y=>simp[h y (by simp)]
  have h2:hi.map ρ=hi.map ρ':=by
   cases hi with
   |none=>rfl
   |some y=>simp[h y (by simp)]
  have h3:mx.map ρ=mx.map ρ':=by
   cases mx with
   |none=>rfl
   |some y=>simp[h y (by simp)]
  rw[h1,h2,h3]
 case call c =>
  have h1:c.args.toList.map ρ=c.args.toList.map ρ':=List.map_congr_left λx hx=>h x (by simp at hx;simp[Call.operands,hx])
  rw[h1]
 all_goals first
  |rfl
  |(simp at h;simp[h])
theorem anE{H:aq}(h:∀x∈o.op.operands,ρ x=ρ' x):lZ P o ρ H=lZ P o ρ' H:=by
 unfold lZ;cases hop:o.op<;>simp only[hop,Op.operands] at h ⊢
 case call c =>
  have h1:c.args.toList.map ρ=c.args.toList.map ρ':=List.map_congr_left λx hx=>h x (by simp at hx;simp[Call.operands,hx])
  rw[h1]
 all_goals first
  |rfl
  |(simp at h;simp[h])
theorem arj{H:aq}(h:∀x∈o.op.operands,ρ x=ρ' x):xh P o ρ H=xh P o ρ' H:=by
 unfold xh;cases hop:o.op<;>simp only[hop,Op.operands] at h ⊢
 case call c =>
  have h1:c.args.toList.map ρ=c.args.toList.map ρ':=List.map_congr_left λx hx=>h x (by simp at hx;simp[Call.operands,hx])
  rw[h1]
 all_goals first
  |rfl
  |(simp at h;simp[h])
theorem ark{H:aq}(h:∀x∈o.op.operands,ρ x=ρ' x):yO P o ρ H=yO P o ρ' H:=by
 unfold yO;cases hop:o.op<;>simp only[hop,Op.operands] at h ⊢
 case indexAddr t x i=>rw[h x (by simp),h i (by simp)]
theorem arl{H:aq}(h:∀x∈o.op.operands,ρ x=ρ' x):xp P o ρ H=xp P o ρ' H:=by unfold xp;rw[anE h,arj h,ark h]
theorem arn{H:aq}(h:∀x∈o.op.operands,ρ x=ρ' x):vY P o ρ H=vY P o ρ' H:=by
 unfold vY;cases hop:o.op<;>simp only[hop,Op.operands] at h ⊢
 case call c =>
  have h1:c.args.toList.map ρ=c.args.toList.map ρ':=List.map_congr_left λx hx=>h x (by simp at hx;simp[Call.operands,hx])
  rw[h1]
 all_goals first
  |rfl
  |(simp at h;simp[h])
theorem aro{H:aq}(h:∀x∈o.op.operands,ρ x=ρ' x):xu P o ρ H=xu P o ρ' H:=by
 unfold xu;cases hop:o.op<;>simp only[hop,Op.operands] at h ⊢
 case buildSlice t n ps=>rw[pM (l:=ps.toList) (λx hx=>h x (by simpa using hx))]
theorem arp{H:aq}{d:Nat}(h:∀x∈o.op.operands,ρ x=ρ' x):exN P o ρ H d=exN P o ρ' H d:=by
 unfold exN;cases H d with
 |some _=>rfl
 |none =>
  simp only[];cases hop:o.op<;>simp only[hop,Op.operands] at h ⊢
  case buildSlice t n ps=>rw[pM (l:=ps.toList) (λx hx=>h x (by simpa using hx))]
  case call c =>
   have h1:c.args.toList.map ρ=c.args.toList.map ρ':=List.map_congr_left λx hx=>h x (by simp at hx;simp[Call.operands,hx])
   rw[h1]
  all_goals(simp at h;simp[h])
theorem aaA{H:aq}(h:∀x∈o.op.operands,ρ x=ρ' x):jU P o ρ H=jU P o ρ' H:=by unfold jU;rw[aha h,arl h,arn h,aro h]
theorem vh{own:List Nat}{H:aq}(h:∀x∈o.op.operands,ρ x=ρ' x):fc P own o ρ H=fc P own o ρ' H:=by
 unfold fc;rw[aaA h];cases o.dst with
 |none=>rfl
 |some d=>simp only[arp h]
theorem zu(h:∀x∈o.op.operands,ρ x=ρ' x):cB o ρ=cB o ρ':=by
 unfold cB;cases hop:o.op<;>simp only[hop,Op.operands] at h ⊢
 case call c =>
  have h1:c.args.toList.map ρ=c.args.toList.map ρ':=List.map_congr_left λx hx=>h x (by simp at hx;simp[Call.operands,hx])
  rw[h1];cases hc:c.callee with
  |value f=>have:ρ f=ρ' f:=h f (by simp[Call.operands,hc]);simp only[this]
  |_=>rfl
theorem vi{H:aq}{x:PV}(h:∀x∈o.op.operands,ρ x=ρ' x)(hc:zm P o ρ H x):zm P o ρ' H x:=by obtain⟨k,dP,ps,b,h1,h2⟩:=hc;exact⟨k,dP,ps,b,(zu h) ▸ h1,h2⟩
def bw(own:List Nat)(o:Oper):Bool:=(match o.dst with
 |some d=>!own.contains d
 |none=>true)&&match o.op with
 | .store .. | .alloc _ | .box .. | .buildSlice ..=>false
 | .call c=>match c.callee with
  | .builtin .append=>false
  |_=>true
 |_=>true
def tC(own:List Nat)(o:Oper):Bool:=(match o.dst with
 |some d=>!own.contains d
 |none=>true)&&match o.op with
 | .move _ | .assign _ | .pick .. | .extract .. | .binOp .. | .unOp .. | .convert .. | .makeFunc .. | .build .. | .index .. | .slice .. | .nilCheck _=>true
 |_=>false
theorem jL{own:List Nat}{H:aq}(h:(match o.dst with
 |some d=>!own.contains d
 |none=>true)=true):fc P own o ρ H=jU P o ρ H:=by
 unfold fc;cases hd:o.dst with
 |none=>rfl
 |some d =>
  rw[hd] at h;have:own.contains d=false:=by simpa using h
  simp only[this];try rfl
theorem rA{own:List Nat}{H H':aq}{pre:Prop}{v:AV}(hq:bw own o=true)(h:fc P own o ρ H=some (pre,v,H')):H'=H:=by
 unfold bw at hq;rw[Bool.and_eq_true] at hq;rw[jL hq.1] at h;have hk:=hq.2;unfold jU at h;split at h
 ·simp at h;exact h.2.2.symm
 ·split at h
  ·simp at h;exact h.2.2.symm
  ·exfalso;have hw:vY P o ρ H=none:=by
    unfold vY;cases hop:o.op<;>simp only[hop] at hk ⊢<;>try (cases hk;done)
    case call c =>
     cases hc:c.callee with
     |builtin b=>rw[hc] at hk;cases b<;>first|rfl|cases hk
     |_=>rfl
   have hs:xu P o ρ H=none:=by
    unfold xu;cases hop:o.op<;>simp only[hop] at hk ⊢
    cases hk
   rw[hw,hs] at h;cases h
theorem akR{own:List Nat}{H:aq}(hq:tC own o=true):jU P o ρ H=match uO P o ρ with
  |some (pre,v)=>some (pre,v,H)
  |none=>none:=by
 unfold tC at hq;rw[Bool.and_eq_true] at hq;have hk:=hq.2;unfold jU;cases hp:uO P o ρ with
 |some r=>rfl
 |none =>
  have h1:xp P o ρ H=none:=by unfold xp lZ xh yO;cases hop:o.op<;>simp only[hop] at hk ⊢<;>cases hk
  have h2:vY P o ρ H=none:=by unfold vY;cases hop:o.op<;>simp only[hop] at hk ⊢<;>cases hk
  have h3:xu P o ρ H=none:=by unfold xu;cases hop:o.op<;>simp only[hop] at hk ⊢<;>cases hk
  rw[h1,h2,h3]
theorem afc{own:List Nat}{H:aq}(hq:tC own o=true):fc P own o ρ H=match uO P o ρ with
  |some (pre,v)=>some (pre,v,H)
  |none=>none:=by
 have hq':=hq;unfold tC at hq;rw[Bool.and_eq_true] at hq;rw[jL hq.1];exact akR hq'
theorem ahb{own:List Nat}(hq:tC own o=true):cB o ρ=none:=by
 unfold tC at hq;rw[Bool.and_eq_true] at hq;have hk:=hq.2;unfold cB;cases hop:o.op<;>simp only[hop] at hk ⊢
 cases hk
def rT(o:Oper):Bool:=match o.op with
 | .alloc _ | .box ..=>false
 |_=>true
theorem aa5:∀ids,cY ids cv=cv
 | []=>rfl
 |_ :: r=>aa5 r
theorem arq{pre:Prop}{v:AV}{H':aq}(hn:rT o=true)(h:jU P o ρ cv=some (pre,v,H')):uO P o ρ=some (pre,v):=by
 unfold jU at h;split at h
 ·rename_i hp;simp only[cm,gD] at h;obtain⟨rfl,rfl,_⟩:=h;exact hp
 ·rename_i hp;exfalso;have h0:lZ P o ρ cv=none:=by
   unfold lZ;cases hop:o.op<;>simp only[]
   case load t a=>cases ρ a<;>rfl
   case fieldAddr s a k=>cases ρ a<;>cases bt P s k<;>rfl
   case indexAddr t x i =>
    cases ρ x<;>try rfl
    cases ρ i<;>try rfl
    rename_i x;cases x<;>try rfl
    rename_i z;cases z<;>rfl
   case call c =>
    split
    ·rfl
    ·rfl
  have hD:xh P o ρ cv=none:=by
   unfold xh;cases hop:o.op<;>simp only[]
   case load t a=>cases ρ a<;>rfl
   case fieldAddr s a k=>cases ρ a<;>cases bt P s k<;>rfl
   case indexAddr t x i =>
    cases ρ x<;>try rfl
    all_goals
     cases ρ i<;>try rfl
     rename_i x;cases x<;>try rfl
     rename_i z;cases z<;>rfl
   case call c=>split<;>rfl
  have hE:yO P o ρ cv=none:=by
   unfold yO;cases hop:o.op<;>simp only[]
   case indexAddr t x i =>
    cases ρ x<;>try rfl
    cases ρ i<;>try rfl
    rename_i x;cases x<;>try rfl
    rename_i z;cases z<;>rfl
  have h1:xp P o ρ cv=none:=by unfold xp;rw[h0,hD,hE]
  have h2:vY P o ρ cv=none:=by
   unfold vY;cases hop:o.op<;>simp only[rT,hop] at hn ⊢<;>try (cases hn;done)
   case store t a x =>
    cases bf P t with
    |none=>rfl
    |some n =>
     simp only[];split
     ·cases ρ a<;>simp only[cv]
     ·rfl
   case call c =>
    split
    ·rename_i t1 t2 a b _ _ _;unfold agz;cases a<;>try rfl
     cases eU P t1 t2<;>rfl
    ·rfl
  have h3:xu P o ρ cv=none:=by
   unfold xu;cases hop:o.op<;>simp only[]
   case buildSlice t n ps =>
    rw[aa5];have:((ps.toList.map λx=>(x.1,ρ x.2)).map λx=>(x.1,zq cv x.2))=ps.toList.map λx=>(x.1,ρ x.2):=by rw[List.map_map];apply List.map_congr_left;intro x _;have:zq cv (ρ x.2)=ρ x.2:=aki _;simp[this]
    rw[this];unfold uO at hp;simp only[hop] at hp;cases hb:k9 P t n (ps.toList.map λx=>(x.1,ρ x.2)) with
    |none=>rfl
    |some r=>obtain⟨e,es⟩:=r;rw[hb] at hp;cases n<;>simp at hp
  rw[h1,h2,h3] at h;cases h
theorem ac8{own:List Nat}{H:aq}(hq:bw own o=true):jU P o ρ H=match uO P o ρ with
  |some (pre,v)=>some (pre,v,H)
  |none=>(match xp P o ρ H with
   |some (pre,v)=>some (pre,v,H)
   |none=>none):=by
 unfold bw at hq;rw[Bool.and_eq_true] at hq;have hk:=hq.2;unfold jU;cases hp:uO P o ρ with
 |some r=>rfl
 |none =>
  cases hx:xp P o ρ H with
  |some r=>rfl
  |none =>
   have hw:vY P o ρ H=none:=by
    unfold vY;cases hop:o.op<;>simp only[hop] at hk ⊢<;>try (cases hk;done)
    case call c =>
     cases hc:c.callee with
     |builtin b=>rw[hc] at hk;cases b<;>first|rfl|cases hk
     |_=>rfl
   have hs:xu P o ρ H=none:=by
    unfold xu;cases hop:o.op<;>simp only[hop] at hk ⊢
    cases hk
   rw[hw,hs]
theorem aaB{H H':aq}(h:HSub H H'){id aW:Nat}{es:List (List PV)}(hr:rowOf H id aW=some es):rowOf H' id aW=some es:=by
 unfold rowOf at hr ⊢;cases hH:H id with
 |none=>rw[hH] at hr;cases hr
 |some c=>rw[h id c hH];rw[hH] at hr;exact hr
theorem auC{H H':aq}(h:HSub H H'){r:Prop×AV}(hx:lZ P o ρ H=some r):lZ P o ρ H'=some r:=by
 unfold lZ at hx ⊢;cases hop:o.op<;>simp only[hop] at hx ⊢<;>try (cases hx;done)
 case load t a =>
  cases ha:ρ a<;>simp only[ha] at hx ⊢<;>try (cases hx;done)
  case ptr id off =>
   cases hH:H id with
   |none=>rw[hH] at hx;cases hx
   |some c=>rw[h id c hH];rw[hH] at hx;exact hx
  case iY id aW i off =>
   cases hr:rowOf H id aW with
   |none=>rw[hr] at hx;cases hx
   |some es=>rw[aaB h hr];rw[hr] at hx;exact hx
 case fieldAddr s a k =>
  cases ha:ρ a<;>simp only[ha] at hx ⊢<;>try (cases hx;done)
  case iY id aW i off =>
   cases hf:bt P s k with
   |none=>rw[hf] at hx;cases hx
   |some f =>
    rw[hf] at hx;cases hr:rowOf H id aW with
    |none=>simp only[hr] at hx;cases hx
    |some es=>simp only[aaB h hr];simp only[hr] at hx;exact hx
 case indexAddr t x i =>
  split at hx
  ·rename_i id aW k n hx1 hx2;cases hr:rowOf H id aW with
   |none=>rw[hr] at hx;cases hx
   |some es=>rw[aaB h hr];rw[hr] at hx;exact hx
  ·cases hx
 case call c =>
  split at hx
  ·rename_i t id aW h1 h2 h3;cases hr:rowOf H id aW with
   |none=>rw[hr] at hx;cases hx
   |some es=>rw[aaB h hr];rw[hr] at hx;exact hx
  ·cases hx
theorem qy{H H':aq}(h:HSub H H'){id aW:Nat}{r:Nat×List (List PV)}(hr:cK H id aW=some r):cK H' id aW=some r:=by
 unfold cK at hr ⊢;cases hH:H id with
 |none=>rw[hH] at hr;cases hr
 |some c=>rw[h id c hH];rw[hH] at hr;exact hr
theorem aaC{H H':aq}(h:HSub H H'){id aW i:Nat}{l:List (List PV)}(hr:qn (cK H id aW) i=some l):qn (cK H' id aW) i=some l:=by
 cases hd:cK H id aW with
 |none=>rw[hd] at hr;cases hr
 |some r=>rw[qy h hd,<-hd];exact hr
theorem axX{H H':aq}(h:HSub H H'){r:Prop×AV}(hx:xh P o ρ H=some r):xh P o ρ H'=some r:=by
 unfold xh at hx ⊢;cases hop:o.op<;>simp only[hop] at hx ⊢<;>try (cases hx;done)
 case load t a =>
  cases ha:ρ a<;>simp only[ha] at hx ⊢<;>try (cases hx;done)
  case lz id aW i off =>
   cases hr:cK H id aW with
   |none=>rw[hr] at hx;cases hx
   |some c=>rw[qy h hr];rw[hr] at hx;exact hx
  case om id aW i j off =>
   cases hr:qn (cK H id aW) i with
   |none=>rw[hr] at hx;cases hx
   |some es=>rw[aaC h hr];rw[hr] at hx;exact hx
 case fieldAddr s a k =>
  cases ha:ρ a<;>simp only[ha] at hx ⊢<;>try (cases hx;done)
  case lz id aW i off =>
   cases hf:bt P s k with
   |none=>rw[hf] at hx;cases hx
   |some f =>
    rw[hf] at hx;cases hr:cK H id aW with
    |none=>simp only[hr] at hx;cases hx
    |some es=>simp only[qy h hr];simp only[hr] at hx;exact hx
 case indexAddr t x i =>
  split at hx
  ·rename_i id aW k n hx1 hx2;cases hr:cK H id aW with
   |none=>rw[hr] at hx;cases hx
   |some es=>rw[qy h hr];rw[hr] at hx;exact hx
  ·rename_i id aW ii k n hx1 hx2;cases hr:qn (cK H id aW) ii with
   |none=>rw[hr] at hx;cases hx
   |some es=>rw[aaC h hr];rw[hr] at hx;exact hx
  ·cases hx
 case call c =>
  split at hx
  ·rename_i t id aW h1 h2 h3;cases hr:cK H id aW with
   |none=>rw[hr] at hx;cases hx
   |some es=>rw[qy h hr];rw[hr] at hx;exact hx
  ·rename_i t id aW ii h1 h2 h3;cases hr:qn (cK H id aW) ii with
   |none=>rw[hr] at hx;cases hx
   |some es=>rw[aaC h hr];rw[hr] at hx;exact hx
  ·cases hx
theorem axY{H G:aq}{r:Prop×AV}(hx:xh P o ρ H=some r):lZ P o ρ G=none:=by
 unfold xh at hx;unfold lZ;cases hop:o.op<;>simp only[hop] at hx ⊢<;>try (cases hx;done)
 case load t a=>cases ha:ρ a<;>simp only[ha] at hx ⊢<;>(cases hx;done)
 case fieldAddr s a k=>cases ha:ρ a<;>simp only[ha] at hx ⊢<;>(cases hx;done)
 case indexAddr t x i =>
  split at hx
  ·rename_i id aW k n hx1 hx2;rw[hx1]
  ·rename_i id aW ii k n hx1 hx2;rw[hx1]
  ·cases hx
 case call c =>
  split at hx
  ·rename_i t id aW h1 h2 h3;rw[h3];split
   ·rename_i h;cases h
   ·rfl
  ·rename_i t id aW ii h1 h2 h3;rw[h3];split
   ·rename_i h;cases h
   ·rfl
  ·cases hx
theorem auD{H H':aq}(h:HSub H H'){id aW:Nat}{r:Nat×List (List PV)}(hr:aiz H id aW=some r):aiz H' id aW=some r:=by
 unfold aiz at hr ⊢;cases hH:H id with
 |none=>rw[hH] at hr;cases hr
 |some c=>rw[h id c hH];rw[hH] at hr;exact hr
theorem axZ{H H':aq}(h:HSub H H'){r:Prop×AV}(hx:yO P o ρ H=some r):yO P o ρ H'=some r:=by
 unfold yO at hx ⊢;cases hop:o.op<;>simp only[hop] at hx ⊢<;>try (cases hx;done)
 case indexAddr t x i =>
  split at hx
  ·rename_i id aW off m _ _ k n hx1 hx2;cases hr:aiz H id aW with
   |none=>rw[hr] at hx;cases hx
   |some es=>rw[auD h hr];rw[hr] at hx;exact hx
  ·cases hx
theorem ax0{H G:aq}{r:Prop×AV}(hx:yO P o ρ H=some r):lZ P o ρ G=none/\xh P o ρ G=none:=by
 unfold yO at hx;unfold lZ xh;cases hop:o.op<;>simp only[hop] at hx ⊢<;>try (cases hx;done)
 case indexAddr t x i =>
  split at hx
  ·rename_i id aW off m _ _ k n hx1 hx2;rw[hx1];exact⟨rfl,rfl⟩
  ·cases hx
theorem ax1{H H':aq}(h:HSub H H'){r:Prop×AV}(hx:xp P o ρ H=some r):xp P o ρ H'=some r:=by
 unfold xp at hx ⊢;split at hx
 ·rename_i r' h0;rw[auC h h0];exact hx
 ·split at hx
  ·rename_i r' hD;rw[axY hD,axX h hD];exact hx
  ·obtain⟨e1,e2⟩:=ax0 (G:=H') hx;rw[e1,e2];exact axZ h hx
theorem ot{own:List Nat}{H H':aq}(h:HSub H H')(hq:bw own o=true){pre:Prop}{v:AV}(hx:jU P o ρ H=some (pre,v,H)):jU P o ρ H'=some (pre,v,H'):=by
 rw[ac8 hq] at hx ⊢;cases hp:uO P o ρ with
 |some r=>rw[hp] at hx;simp only[cm,gD] at hx ⊢;exact⟨hx.1,hx.2.1,trivial⟩
 |none =>
  rw[hp] at hx;cases hQ:xp P o ρ H with
  |none=>rw[hQ] at hx;cases hx
  |some r=>rw[hQ] at hx;rw[ax1 h hQ];simp only[cm,gD] at hx ⊢;exact⟨hx.1,hx.2.1,trivial⟩
theorem ac9{H H':aq}(h:HSub H H'):∀ {a:AV} {r:PV×Bool},tA H a=some r->tA H' a=some r
 | .row id aW,r,hx=>by
  simp only[tA] at hx ⊢;cases hH:H id with
  |none=>rw[hH] at hx;cases hx
  |some c=>rw[h id c hH];rw[hH] at hx;exact hx
 | .p _,_,hx=>hx
 | .ptr _ _,_,hx=>by cases hx
 | .iY _ _ _ _,_,hx=>by cases hx
 | .agg _,_,hx=>by cases hx
 | .dg _,_,hx=>by cases hx
 | .jF _ _ _,_,hx=>by cases hx
 | .kP id aW,r,hx=>by
  simp only[tA] at hx ⊢;cases hd:cK H id aW with
  |none=>rw[hd] at hx;cases hx
  |some c=>rw[qy h hd];rw[hd] at hx;exact hx
 | .mu id aW i,r,hx=>by
  simp only[tA] at hx ⊢;cases hd:qn (cK H id aW) i with
  |none=>rw[hd] at hx;cases hx
  |some c=>rw[aaC h hd];rw[hd] at hx;exact hx
 | .lz _ _ _ _,_,hx=>by cases hx
 | .om _ _ _ _ _,_,hx=>by cases hx
 | .bsl _ _,_,hx=>by cases hx
 | .nP _ _ _ _ _ _,_,hx=>by cases hx
 | .dead,_,hx=>by cases hx
theorem nR{f g:AV->Option (PV×Bool)}(hfg:∀a r,f a=some r->g a=some r):∀ {dP:List AV} {r:List PV×Bool},dO f dP=some r->dO g dP=some r
 | [],r,hx=>hx
 |a :: dP,r,hx=>by
  unfold dO at hx ⊢;cases hf:f a with
  |none=>rw[hf] at hx;cases hx
  |some x =>
   rw[hf] at hx;rw[hfg a x hf];cases hl:dO f dP with
   |none=>rw[hl] at hx;cases hx
   |some y=>rw[nR hfg hl];rw[hl] at hx;exact hx
theorem ars{H H':aq}(h:HSub H H'){a:AV}{r:PV×Bool}(hx:abY H a=some r):abY H' a=some r:=by
 unfold abY at hx ⊢;cases a<;>try exact ac9 h hx
 case ptr id off =>
  simp only[] at hx ⊢;cases hH:H id with
  |none=>rw[hH] at hx;cases hx
  |some c =>
   rw[h id c hH];rw[hH] at hx;cases c<;>simp only[] at hx ⊢<;>try (cases hx;done)
   case box cs =>
    cases hl:dO (tA H) cs with
    |none=>rw[hl] at hx;cases hx
    |some y=>rw[nR (λa r=>ac9 h) hl];rw[hl] at hx;exact hx
theorem wj{H H':aq}(h:HSub H H'){a:AV}{r:PV×Bool}(hx:nY H a=some r):nY H' a=some r:=by
 unfold nY at hx ⊢;cases a<;>try exact ac9 h hx
 case ptr id off =>
  simp only[] at hx ⊢;cases hH:H id with
  |none=>rw[hH] at hx;cases hx
  |some c =>
   rw[h id c hH];rw[hH] at hx;cases c<;>simp only[] at hx ⊢<;>try (cases hx;done)
   case box cs =>
    cases hl:dO (abY H) cs with
    |none=>rw[hl] at hx;cases hx
    |some y=>rw[nR (λa r=>ars h) hl];rw[hl] at hx;exact hx
theorem ahc{H H':aq}(h:HSub H H'){a:AV}{r:PV×Bool}(hx:fW H a=some r):fW H' a=some r:=by
 unfold fW at hx ⊢;cases a<;>try exact wj h hx
 case agg cs =>
  simp only[] at hx ⊢;cases hl:dO (nY H) cs with
  |none=>rw[hl] at hx;cases hx
  |some y=>rw[nR (λa r=>wj h) hl];rw[hl] at hx;exact hx
 case dg cs =>
  simp only[] at hx ⊢;cases hl:dO (nY H) cs with
  |none=>rw[hl] at hx;cases hx
  |some y=>rw[nR (λa r=>wj h) hl];rw[hl] at hx;exact hx
 case jF fn fs cs =>
  simp only[] at hx ⊢;cases hf:dO (nY H) fs with
  |none=>rw[hf] at hx;cases hx
  |some x =>
   rw[nR (λa r=>wj h) hf];rw[hf] at hx;cases hl:dO (nY H) cs with
   |none=>rw[hl] at hx;cases hx
   |some y=>rw[nR (λa r=>wj h) hl];rw[hl] at hx;exact hx
theorem ada{H H':aq}(h:HSub H H'){x:PV}(hc:zm P o ρ H x):zm P o ρ H' x:=by obtain⟨k,dP,ps,b,h1,h2,h3,h4⟩:=hc;exact⟨k,dP,ps,b,h1,nR (λa r=>ahc h) h2,h3,h4⟩
theorem abw{own:List Nat}{H:aq}(hq:bw own o=true){x:PV}{G:aq}(hc:zm P o ρ G x):fc P own o ρ H=none:=by
 obtain⟨k,dP,ps,b,h1,h2,h3,h4⟩:=hc;have hq':=hq;unfold bw at hq;rw[Bool.and_eq_true] at hq;rw[jL hq.1,ac8 hq'];unfold cB at h1;split at h1
 ·rename_i c hop;split at h1
  ·rename_i f hc;unfold uO xp lZ xh yO;simp only[hop,hc]
  ·cases h1
 ·cases h1
def ahd(own:List Nat)(o:Oper):Bool:=match o.op with
 | .buildSlice .. | .makeSlice ..=>(match o.dst with
  |some d=>own.contains d
  |none=>false)
 | .alloc _ | .box ..=>true
 |_=>false
theorem afd{H:aq}{d:Nat}(hH:H d=none)(c:Chunk):HSub H (bh H d c):=λid x hx=>by
 unfold bh;split
 ·rename_i hi;rw[hi,hH] at hx;cases hx
 ·exact hx
theorem apz{H H':aq}{pre:Prop}{v:AV}{d:Nat}(h:exN P o ρ H d=some (pre,v,H')):HSub H H':=by
  unfold exN at h;cases hH:H d with
  |some c=>rw[hH] at h;cases h
  |none =>
    rw[hH] at h;simp only[] at h
    repeat' split at h
    all_goals first
      |(cases h;done)
      | (simp only [cm, gD] at h
         obtain⟨_,_,h3⟩:=h;rw[<-h3];exact afd hH _)
theorem apA{H H':aq}{pre:Prop}{v:AV}(hn:(match o.op with | .alloc _ | .box ..=>true|_=>false)=true)(h:jU P o ρ H=some (pre,v,H')):HSub H H':=by
 unfold jU at h;split at h
 ·simp only[cm,gD] at h;rw[<-h.2.2];exact λ_ _ h=>h
 ·split at h
  ·simp only[cm,gD] at h;rw[<-h.2.2];exact λ_ _ h=>h
  ·have hs:xu P o ρ H=none:=by unfold xu;cases hop:o.op<;>simp only[hop] at hn ⊢<;>cases hn
   rw[hs] at h;split at h
   ·rename_i r hr;simp only[cm] at h;subst h;unfold vY at hr;cases hop:o.op<;>simp only[hop] at hn hr<;>try (cases hn;done)
    case alloc e =>
     split at hr
     ·split at hr
      ·rename_i hH _;split at hr
       ·simp only[cm,gD] at hr;rw[<-hr.2.2];exact afd hH _
       ·cases hr
      ·cases hr
     ·cases hr
    case box e x =>
     split at hr
     ·split at hr
      ·rename_i hH;split at hr
       ·simp only[cm,gD] at hr;rw[<-hr.2.2];exact afd hH _
       ·cases hr
      ·cases hr
     ·cases hr
   ·cases h
theorem ahe{own:List Nat}{H H':aq}{pre:Prop}{v:AV}(hn:ahd own o=true)(h:fc P own o ρ H=some (pre,v,H')):HSub H H':=by
 have own_case:∀d,o.dst=some d->own.contains d=true->isApp o.op=false->HSub H H':=λd hd hc ha=>by
  unfold fc at h;simp only[hd,hc,if_true,ha] at h;unfold orE at h;split at h
  ·rename_i hx;exact apz (hx.trans h)
  ·rename_i hb;cases hb
  ·cases h
 have ab_case:(match o.op with | .alloc _ | .box ..=>true|_=>false)=true->isApp o.op=false->HSub H H':=λhab ha=>by
  unfold fc at h;split at h
  ·rename_i d hd;split at h
   ·rename_i hc;exact own_case d hd hc ha
   ·exact apA hab h
  ·exact apA hab h
 unfold ahd at hn;cases hop:o.op<;>simp only[hop] at hn<;>try (cases hn;done)
 case buildSlice =>
  split at hn
  ·rename_i d hd;exact own_case d hd hn (by rw[hop];rfl)
  ·cases hn
 case makeSlice =>
  split at hn
  ·rename_i d hd;exact own_case d hd hn (by rw[hop];rfl)
  ·cases hn
 case alloc=>exact ab_case (by rw[hop]) (by rw[hop];rfl)
 case box=>exact ab_case (by rw[hop]) (by rw[hop];rfl)
def rU(H:aq):aq:=λid=>match H id with
 |some (.box cs)=>some (.box cs)
 |_=>none
theorem akS(H:aq):HSub (rU H) H:=λid c h=>by
 unfold rU at h;split at h
 ·rename_i cs hH;rw[hH];exact h
 ·cases h
def auE(o:Oper):Bool:=isApp o.op
theorem aaD{H H':aq}(h:HSub H H'):HSub (rU H) (rU H'):=λid c hc=>by
 have:=h id c (akS H id c hc);unfold rU at hc ⊢;split at hc
 ·rename_i cs hH;rw[h id _ hH];exact hc
 ·cases hc
theorem aiU{H H':aq}{pre:Prop}{v:AV}(hn:isApp o.op=true)(h:jU P o ρ H=some (pre,v,H')):HSub (rU H) (rU H'):=by
 have hk:=hn;unfold isApp at hk;unfold jU at h;split at h
 ·simp only[cm,gD] at h;rw[<-h.2.2];exact λ_ _ h=>h
 ·split at h
  ·simp only[cm,gD] at h;rw[<-h.2.2];exact λ_ _ h=>h
  ·cases hop:o.op<;>simp only[hop] at hk<;>try (cases hk;done)
   case call c =>
    have hs:xu P o ρ H=none:=by unfold xu;simp only[hop]
    rw[hs] at h;unfold vY at h;simp only[hop] at h;split at h
    ·rename_i r hr;split at hr
     ·unfold agz at hr;split at hr
      ·rename_i id aW _ _ _ _ _;cases hH:H id with
       |none=>rw[hH] at hr;cases hr
       |some ch =>
        rw[hH] at hr;cases ch<;>simp only[] at hr<;>try (cases hr;done)
        split at hr
        ·split at hr
         ·simp only[cm] at hr h;subst hr;simp only[gD] at h;rw[<-h.2.2];intro i c' yP;unfold rU bh at *;by_cases hi:i=id
          ·rw[hi,hH] at yP;cases yP
          ·rw[if_neg hi];exact yP
         ·cases hr
        ·cases hr
      ·cases hr
     ·cases hr
    ·cases h
theorem ahf{own:List Nat}{H H':aq}{pre:Prop}{v:AV}(hn:auE o=true)(h:fc P own o ρ H=some (pre,v,H')):HSub (rU H) (rU H'):=by
 unfold fc at h;split at h
 ·split at h
  ·unfold orE at h;split at h
   ·rename_i hx;exact aaD (apz (hx.trans h))
   ·exact aiU hn h
   ·cases h
  ·exact aiU hn h
 ·exact aiU hn h
end Go.bP
namespace Go.bP
open Go.RowKit
variable{P:Program}{N:Nat}{own:List Nat}{ops:Array Oper}{K:Env->aq->Prop}{tl:Nat->Bool}
inductive oh where
 |p|b|q|w|o|s|f|t
def mA(own:List Nat)(ops:Array Oper)(d:Nat):Bool:=(ops.toList.any λo=>o.dst == some d&&match o.op with
 | .alloc _=>true
 | .box ..=>true
 | .buildSlice ..=>true
 | .makeSlice ..=>true
 |_=>false)||own.contains (2000000+d)
def appArg:Op->Option (Nat×Operand)
 | .call c=>(match c.callee,c.args.toList,c.argTypes.toList with
  | .builtin .append,[.tmp a,s],[_,_]=>some (a,s)
  |_,_,_=>none)
 |_=>none
theorem zv{o:Op}{a:Nat}{s:Operand}(h:appArg o=some (a,s)):∃t1 t2,o = .call ⟨.builtin .append,#[.tmp a,s],#[t1,t2]⟩:=by
 unfold appArg at h;split at h
 ·rename_i c;obtain⟨ce,ar,ts⟩:=c;simp only at h;split at h
  ·rename_i a' s' t1 t2 h1 h2;simp only[cm,gD] at h;obtain⟨rfl,rfl⟩:=h;refine⟨t1,t2,?_⟩;cases ar;cases ts;simp only at h1 h2;subst h1 h2;rfl
  ·cases h
 ·cases h
def oI:List Nat->Nat->Nat
 | [],a=>a
 |c :: r,a=>if 9000000<=c then (if (c-9000000) / 1000=a then 1000000+(c-9000000) % 1000 else oI r a) else oI r a
theorem anF(a:Nat):oI [] a=a:=rfl
theorem akT(c:Nat)(r:List Nat)(a:Nat):oI (c :: r) a=if 9000000<=c then (if (c-9000000) / 1000=a then 1000000+(c-9000000) % 1000 else oI r a) else oI r a:=rfl
def zw(own:List Nat)(ops:Array Oper)(o:Oper):Option Nat:=match appArg o.op with
 |some (a,_)=>if ((own.contains a||oI own a != a)&&mA own ops (oI own a))=true then some (oI own a) else none
 |none=>none
def adU(own:List Nat)(o:Oper)(env:Env):Prop:=match appArg o.op with
 |some (a,s)=>(∃v,env a = .row (oI own a) v)/\∃x,ev env s = .p x
 |none=>True
def tf(own:List Nat)(ops:Array Oper)(o:Oper):Bool:=(match o.op with
 | .store _ (.tmp d) _=>mA own ops d
 |_=>false)||(zw own ops o).isSome
def adb(own:List Nat)(ops:Array Oper)(o:Oper)(env:Env):Prop:=(match o.op with
 | .store _ (.tmp d) _=>mA own ops d=true->∃off,env d = .ptr d off
 |_=>True)/\((zw own ops o).isSome=true->adU own o env)
def ou(own:List Nat)(ops:Array Oper)(H:aq):aq:=λi=>if mA own ops i then none else H i
theorem afe(own:List Nat)(ops:Array Oper)(H:aq):HSub (ou own ops H) H:=λi c h=>by
 unfold ou at h;split at h
 ·cases h
 ·exact h
theorem ahg(own:List Nat)(ops:Array Oper){H G:aq}(h:HSub H G):HSub (ou own ops H) (ou own ops G):=λi c hc=>by
 unfold ou at hc ⊢;split at hc
 ·cases hc
 ·rename_i hn;rw[if_neg hn];exact h i c hc
theorem aff(own:List Nat)(ops:Array Oper)(H:aq){d:Nat}(c:Chunk)(h:mA own ops d=true):ou own ops (bh H d c)=ou own ops H:=by
 funext i;unfold ou bh;split
 ·rfl
 ·rename_i hn;rw[if_neg];intro hi;subst hi;exact hn h
def tD(own:List Nat)(ops:Array Oper)(o:Oper):Option Nat:=match o.op with
 | .alloc _=>(match o.dst with|some d=>if own.contains d=true then none else if mA own ops d=true then some d else none|none=>none)
 | .box ..=>(match o.dst with|some d=>if own.contains d=true then none else if mA own ops d=true then some d else none|none=>none)
 | .store _ (.tmp d) _=>(match o.dst with|some _=>none|none=>if mA own ops d=true then some d else none)
 | .buildSlice ..=>(match o.dst with|some d=>if own.contains d=true then (if mA own ops d=true then some d else none) else none|none=>none)
 | .makeSlice ..=>(match o.dst with|some d=>if own.contains d=true then (if mA own ops d=true then some d else none) else none|none=>none)
 | .call _=>zw own ops o
 |_=>none
theorem aiV{o:Oper}{ρ:Operand->AV}{H:aq}(ho:(match o.op with | .alloc _=>true | .box ..=>true | .store ..=>true|_=>false)=true):jU P o ρ H=vY P o ρ H:=by
 obtain⟨d,op,t,pos,af,g⟩:=o;cases op<;>first|(cases ho;done)|skip
 all_goals
  simp only[jU,uO,xp,lZ,xh,yO,xu];all_goals(cases vY P _ ρ H<;>rfl)
def ax2(P:Program)(own:List Nat)(o:Oper)(ρ:Operand->AV)(d:Nat):Prop:=∃φ:Option Chunk->Option (Prop×AV×Chunk),∀G,fc P own o ρ G=match φ (G d) with|some (pre,v,c)=>some (pre,v,bh G d c)|none=>none
theorem ab4{o:Oper}{env:Env}{d:Nat}(h:tD own ops o=some d)(hs:adb own ops o env):ax2 P own o (ev env) d/\mA own ops d=true:=by
 obtain⟨dst,op,t,pos,af,g⟩:=o;unfold tD at h;cases op<;>simp only at h<;>try (cases h;done)
 case buildSlice ty n parts =>
  cases dst with
  |none=>cases h
  |some k =>
   simp only at h;split at h
   ·rename_i hn;split at h
    ·rename_i hw;simp only[cm] at h;subst h;refine⟨⟨λc=>match c with
      |some _=>none
      |none=>(match k9 P ty n (parts.toList.map λx=>(x.1,ev env x.2)) with
       |some (e,es)=>(match bf P e with
        |some sz=>some (True,.row k 0,.row 0 e sz es)
        |none=>none)
       |none=>(match vc P ty n (parts.toList.map λx=>(x.1,ev env x.2)) with
        |some (_,cs)=>some (True,.bsl k n,.box cs)
        |none=>none)),λG=>?_⟩,hw⟩
     simp only[fc];rw[if_pos hn];simp only[exN];cases hG:G k with
     |some _=>simp only[orE,isApp]
     |none =>
      simp only;cases k9 P ty n (parts.toList.map λx=>(x.1,ev env x.2)) with
      |none =>
       simp only;cases vc P ty n (parts.toList.map λx=>(x.1,ev env x.2)) with
       |none=>simp only[orE,isApp]
       |some r=>obtain⟨e,cs⟩:=r;simp only[orE,isApp]
      |some r=>obtain⟨e,es⟩:=r;simp only;cases bf P e<;>simp only[orE,isApp]
    ·cases h
   ·cases h
 case makeSlice ty l c =>
  cases dst with
  |none=>cases h
  |some k =>
   simp only at h;split at h
   ·rename_i hn;split at h
    ·rename_i hw;simp only[cm] at h;subst h;refine⟨⟨λq=>match q with
      |some _=>none
      |none=>(match exN P ⟨some k,.makeSlice ty l c,t,pos,af,g⟩ (ev env) cv k with
       |some (pre,v,H')=>(match H' k with
        |some ch=>some (pre,v,ch)
        |none=>none)
       |none=>none),λG=>?_⟩,hw⟩
     simp only[fc];rw[if_pos hn];simp only[exN];cases hG:G k with
     |some _=>simp only[orE,isApp]
     |none =>
      simp only[show cv k=none from rfl];split
      ·split
       ·split
        ·simp only[orE,bh,if_true]
        ·simp only[orE,isApp]
       ·simp only[orE,isApp]
      ·simp only[orE,isApp]
    ·cases h
   ·cases h
 case call cl =>
  have hk:(zw own ops ⟨dst,.call cl,t,pos,af,g⟩).isSome=true:=by rw[h];rfl
  have hst:adU own ⟨dst,.call cl,t,pos,af,g⟩ env:=hs.2 hk;unfold zw at h;unfold adU at hst;split at h
  ·rename_i a s heq;obtain⟨t1,t2,aBe⟩:=zv heq;rw[heq] at hst;simp only at hst;simp only[Op.call.injEq] at aBe;subst aBe;split at h
   ·rename_i hw;simp only[cm] at h;subst h;rw[Bool.and_eq_true] at hw;obtain⟨⟨aW,h1⟩,x,h2⟩:=hst;have yB:ev env (.tmp a) = .row (oI own a) aW:=h1;have hsrc:∀G:aq,ve G (.p x)=ve cv (.p x):=λG=>by
     cases x with
     |val v =>
      cases v with
      |slice a n c=>cases n<;>rfl
      |_=>rfl
     |_=>rfl
    refine⟨⟨λc=>match eU P t1 t2,c with
     | some (e', sz', sy), some (.row v e sz es) => if v = aW ∧ e = e' ∧ sz = sz' then (match ve cv (.p x) with
       |some ns=>some ((es.length+ns.length) * sy<=140737488355328/\∀x∈ns,x.length=sz,.row (oI own a) (aW+1),.row (aW+1) e sz (es++ns))
       |none=>none) else none
     |_,_=>none,λG=>?_⟩,hw.2⟩
    have hM:fc P own ⟨dst,.call ⟨.builtin .append,#[.tmp a,s],#[t1,t2]⟩,t,pos,af,g⟩ (ev env) G=jU P ⟨dst,.call ⟨.builtin .append,#[.tmp a,s],#[t1,t2]⟩,t,pos,af,g⟩ (ev env) G:=by
     unfold fc;cases dst with
     |none=>rfl
     |some k =>
      simp only;split
      ·have:exN P ⟨some k,.call ⟨.builtin .append,#[.tmp a,s],#[t1,t2]⟩,t,pos,af,g⟩ (ev env) G k=none:=by
        unfold exN;cases G k with
        |some _=>rfl
        |none=>simp only[List.map_cons,List.map_nil,yB]
       rw[this];rfl
      ·rfl
    rw[hM,ae8,yB,h2,akG];cases hT:eU P t1 t2 with
    |none=>simp only[axO]
    |some r =>
     obtain⟨e',sz',sy⟩:=r;rw[akH,hsrc];cases hG:G (oI own a) with
     |none=>simp only
     |some c =>
      cases c with
      |row v e sz es =>
       simp only;split
       ·cases ve cv (.p x)<;>simp only
       ·rfl
      |box cs=>simp only
      |tail v e sz es=>simp only
      |shut v es=>simp only
      |deep v e sz k e' sz' es=>simp only
   ·cases h
  ·cases h
 case alloc e =>
  cases dst with
  |none=>cases h
  |some k =>
   simp only at h;split at h
   ·cases h
   ·rename_i hn;split at h
    ·rename_i hw;simp only[cm] at h;subst h;refine⟨⟨λc=>match c,dn P e with
      |none,some zs=>if zs.all (·.oneCell')=true then some (True,.ptr k 0,.box (zs.map λz=>.p (.val z))) else none
      |_,_=>none,λG=>?_⟩,hw⟩
     simp only[fc];rw[if_neg hn,aiV rfl];simp only[vY];cases hG:G k with
     |some _=>simp only
     |none =>
      cases dn P e with
      |none=>simp only
      |some zs=>simp only;split<;>rfl
    ·cases h
 case box e x =>
  cases dst with
  |none=>cases h
  |some k =>
   simp only at h;split at h
   ·cases h
   ·rename_i hn;split at h
    ·rename_i hw;simp only[cm] at h;subst h;refine⟨⟨λc=>match c with
      |none=>if (bO (ev env x)).all oo=true then some (True,.ptr k 0,.box (bO (ev env x))) else none
      |some _=>none,λG=>?_⟩,hw⟩
     simp only[fc];rw[if_neg hn,aiV rfl];simp only[vY];cases hG:G k with
     |some _=>simp only
     |none=>simp only;split<;>rfl
    ·cases h
 case store e a x =>
  cases a with
  |tmp k =>
   cases dst with
   |some _=>cases h
   |none =>
    simp only at h;split at h
    ·rename_i hw;simp only[cm] at h;subst h;obtain⟨off,hp⟩:=hs.1 hw;refine⟨⟨λc=>match bf P e with
      |some n=>if (bO (ev env x)).length=n/\(bO (ev env x)).all oo=true then match c with
       |some (.box cs)=>if off+n<=cs.length then some (True,.dead,.box (splice cs off (bO (ev env x)))) else none
       |_=>none
       else none
      |none=>none,λG=>?_⟩,hw⟩
     have he:ev env (.tmp k) = .ptr k off:=hp;simp only[fc];rw[aiV rfl];simp only[vY,he];cases bf P e with
     |none=>simp only
     |some n =>
      simp only;split
      ·cases hG:G k with
       |none=>simp only
       |some c =>
        cases c<;>simp only
        split<;>rfl
      ·rfl
    ·cases h
  |_=>cases h
def afg(P:Program)(own:List Nat)(ops:Array Oper)(o:Oper)(ρ:Operand->AV)(H:aq)(v:AV)(H':aq):Prop :=
 ∃k dP ps b r,∃id:Nat,cB o ρ=some (k,dP)/\dO (fW (ou own ops H)) dP=some (ps,b)/\aZ P k ps (λx=>x=r)/\(b=true->r.flat=true) /\
  (∀i,id<=i->i<(cq id r).2->H i=none/\mA own ops i=false)/\v=(cq id r).1/\H'=fU id H r
theorem akU:∀ (r:RV) (k:Nat) (H:aq) (d:Nat) (c:Chunk),(d<k\/(cq k r).2<=d)->fU k (bh H d c) r=bh (fU k H r) d c:=by
 intro r;refine RV.rec (motive_1:=λr=>∀k (H:aq) d c,(d<k\/(cq k r).2<=d)->fU k (bh H d c) r=bh (fU k H r) d c) (motive_2:=λrs=>∀k (H:aq) d c,(d<k\/(iP k rs).2<=d)->kF k (bh H d c) rs=bh (kF k H rs) d c) ?_ ?_ ?_ ?_ ?_ ?_ ?_ r
 ·intro x k H d c _;rfl
 ·intro e sz es k H d c hd;have hne:d≠k:=by
   rintro rfl;rcases hd with h|h
   ·exact Nat.lt_irrefl _ h
   ·exact Nat.lt_irrefl _ h
  exact acV H c _ hne
 ·intro e sz j e' sz' es k H d c hd;have hne:d≠k:=by
   rintro rfl;rcases hd with h|h
   ·exact Nat.lt_irrefl _ h
   ·exact Nat.lt_irrefl _ h
  exact acV H c _ hne
 ·intro rs ih k H d c hd;exact ih k H d c hd
 ·intro rs ih k H d c hd;exact ih k H d c hd
 ·intro k H d c _;rfl
 ·intro r rs ih1 ih2 k H d c hd;show kF _ (fU k (bh H d c) r) rs=bh (kF _ (fU k H r) rs) d c;have h1:=zo r k;have h2:=ac3 rs (cq k r).2;have hd':d<k\/(iP (cq k r).2 rs).2<=d:=hd;rw[ih1 k H d c (by omega),ih2 _ _ d c (by omega)]
theorem zx{o:Oper}{ρ:Operand->AV}{H H':aq}{v:AV}(h:afg P own ops o ρ H v H'):HSub H H':=by
 obtain⟨k,dP,ps,b,r,id,_,_,_,_,h5,_,rfl⟩:=h;intro i c hc;rw[abr r id H i,hc];rcases Nat.lt_or_ge i id with h|h
 ·exact .inl h
 ·rcases Nat.lt_or_ge i (cq id r).2 with h'|h'
  ·rw[(h5 i h h').1] at hc;cases hc
  ·exact .inr h'
theorem ab5{o:Oper}{ρ ρ':Operand->AV}{H H':aq}{v:AV}(h:∀x∈o.op.operands,ρ x=ρ' x)(hc:afg P own ops o ρ H v H'):afg P own ops o ρ' H v H':=by obtain⟨k,dP,ps,b,r,id,h1,h2⟩:=hc;exact⟨k,dP,ps,b,r,id,(zu h) ▸ h1,h2⟩
theorem anG{o:Oper}{ρ:Operand->AV}{H:aq}(hq:bw own o=true){x:FuncId×List AV}(h1:cB o ρ=some x):fc P own o ρ H=none:=by
 have hq':=hq;unfold bw at hq;rw[Bool.and_eq_true] at hq;rw[jL hq.1,ac8 hq'];unfold cB at h1;split at h1
 ·rename_i c hop;split at h1
  ·rename_i f hc;unfold uO xp lZ xh yO;simp only[hop,hc]
  ·cases h1
 ·cases h1
def jo(P:Program)(own:List Nat)(ops:Array Oper)(c:oh)(o:Oper)(env:Env)(H:aq)(v:AV)(H':aq):Prop:=match c with
 | .p=>∃pre,uO P o (ev env)=some (pre,v)/\pre/\H'=H/\(match o.dst with|some d=>!own.contains d|none=>true)=true
 | .q=>bw own o=true/\H'=H/\((∃pre,jU P o (ev env) H=some (pre,v,H)/\pre)\/(∃x,v = .p x/\zm P o (ev env) H x/\fc P own o (ev env) H=none))
 | .b=>bw own o=true/\H'=H/\∃pre,jU P o (ev env) (rU H)=some (pre,v,rU H)/\pre
 | .w=>∃pre,fc P own o (ev env) H=some (pre,v,H')/\pre
 | .s=>∃pre,fc P own o (ev env) H=some (pre,v,H')/\pre
 | .f=>bw own o=true/\afg P own ops o (ev env) H v H'
 | .t=>False
 | .o=>bw own o=true/\H'=H/\((∃pre,jU P o (ev env) (ou own ops H)=some (pre,v,ou own ops H)/\pre)\/(∃x,v = .p x/\zm P o (ev env) (ou own ops H) x/\fc P own o (ev env) (ou own ops H)=none))
theorem apB{o:Oper}{env:Env}{H H':aq}{v:AV}(h:jo P own ops .b o env H v H'):jo P own ops .q o env H v H':=by obtain⟨h1,rfl,pre,h2,h3⟩:=h;exact⟨h1,rfl,.inl ⟨pre,ot (akS _) h1 h2,h3⟩⟩
theorem apC{o:Oper}{env:Env}{H H':aq}{v:AV}(h:jo P own ops .o o env H v H'):jo P own ops .q o env H v H':=by
 obtain⟨h1,rfl,⟨pre,h2,h3⟩|⟨x,h2,h3,h4⟩⟩:=h
 ·exact⟨h1,rfl,.inl ⟨pre,ot (afe own ops _) h1 h2,h3⟩⟩
 ·exact⟨h1,rfl,.inr ⟨x,h2,ada (afe own ops _) h3,abw h1 h3⟩⟩
theorem auF{c:oh}{o:Oper}{env:Env}{H H':aq}{v:AV}(h:jo P own ops c o env H v H'){W:Env->aq->Prop}(hW:W (bZ env o.dst v) H') :
  match fc P own o (ev env) H with
   |some (pre,v,H')=>pre/\W (bZ env o.dst v) H'
   |none=>kf P o W env H:=by
 have hq : jo P own ops .q o env H v H' → (match fc P own o (ev env) H with
   |some (pre,v,H')=>pre/\W (bZ env o.dst v) H'
   |none=>kf P o W env H):=λh=>by
  obtain⟨h1,rfl,h2|⟨x,rfl,h2,h3⟩⟩:=h
  ·obtain⟨pre,h3,h4⟩:=h2;unfold bw at h1;rw[Bool.and_eq_true] at h1;rw[jL h1.1,h3];exact⟨h4,hW⟩
  ·rw[h3];exact .inl (.inl ⟨[],aeZ h2 hW⟩)
 cases c with
 |p=>obtain⟨pre,h1,h2,rfl,h3⟩:=h;rw[jL h3];unfold jU;rw[h1];exact⟨h2,hW⟩
 |b=>exact hq (apB h)
 |q=>exact hq h
 |o=>exact hq (apC h)
 |w=>obtain⟨pre,h1,h2⟩:=h;rw[h1];exact⟨h2,hW⟩
 |s=>obtain⟨pre,h1,h2⟩:=h;rw[h1];exact⟨h2,hW⟩
 |f=>obtain⟨hq',k,dP,ps,b,r,id,h1,h2,h3,h4,h5,rfl,rfl⟩:=h;rw[anG hq' h1];exact .inl (.inr (.inr ⟨[],.inl ⟨k,dP,ps,b,_,id,h1,nR (λa r=>ahc (afe own ops H)) h2,h3,λr' hr=>by subst hr;exact⟨h4,λi a b=>(h5 i a b).1,hW⟩⟩⟩))
 |t=>exact h.elim
theorem adV{o:Oper}{W W':Env->aq->Prop}{env:Env}{H:aq}(h:∀e G,W e G->W' e G)(hh:ae3 P o W env H):ae3 P o W' env H:=by
 rcases hh with ⟨ids,k,dP,ps,b,Q,h1,h2,h3,h4⟩|⟨k,ps,x,h1,h2,h3⟩|⟨ids,⟨k,dP,ps,b,Q,id,h1,h2,h3,h4⟩|⟨k,id,v,e,sz,es,dP,ps,b,Q,h1,h2,h3,h4,h5⟩⟩
 ·exact .inl ⟨ids,k,dP,ps,b,Q,h1,h2,h3,λr hr=>⟨(h4 r hr).1,h _ _ (h4 r hr).2⟩⟩
 ·exact .inr (.inl ⟨k,ps,x,h1,h2,h _ _ h3⟩)
 ·exact .inr (.inr ⟨ids,.inl ⟨k,dP,ps,b,Q,id,h1,h2,h3,λr hr=>⟨(h4 r hr).1,(h4 r hr).2.1,h _ _ (h4 r hr).2.2⟩⟩⟩)
 ·refine .inr (.inr ⟨ids,.inr ⟨k,id,v,e,sz,es,dP,ps,b,Q,h1,h2,h3,h4,λa c hq=>?_⟩⟩);obtain⟨v',e',sz',es',a',q1,q2,q3,q4⟩:=h5 a c hq;exact⟨v',e',sz',es',a',q1,q2,q3,h _ _ q4⟩
theorem anH{o:Oper}{W W':Env->aq->Prop}{env:Env}{H:aq}(h:∀e G,W e G->W' e G)(hh:kf P o W env H):kf P o W' env H:=by
 have hC:∀ {env H},aa3 P o W env H->aa3 P o W' env H:=λhc C I L tm w σ hs hσ=>by obtain⟨k,args,q1,q2⟩:=hc C I L tm w σ hs hσ;exact⟨k,args,q1,q2.mono λe w' ⟨v,I',L',a,H',m1,m2,m3⟩=>⟨v,I',L',a,H',m1,h _ _ m2,m3⟩⟩
 have hR:∀ {env H},akl P o W env H->akl P o W' env H:=λ⟨v,H',q1,q2⟩=>⟨v,H',h _ _ q1,q2⟩
 rcases hh with hh|⟨e2,H2,q1,⟨pre,v,H',q2,q3,q4⟩|q|q|q⟩|hh|hh
 ·exact .inl (adV h hh)
 ·exact .inr (.inl ⟨e2,H2,q1,.inl ⟨pre,v,H',q2,q3,h _ _ q4⟩⟩)
 ·exact .inr (.inl ⟨e2,H2,q1,.inr (.inl (adV h q))⟩)
 ·exact .inr (.inl ⟨e2,H2,q1,.inr (.inr (.inl (hR q)))⟩)
 ·exact .inr (.inl ⟨e2,H2,q1,.inr (.inr (.inr (hC q)))⟩)
 ·exact .inr (.inr (.inl (hR hh)))
 ·exact .inr (.inr (.inr (hC hh)))
def opK(P:Program)(own:List Nat)(o:Oper)(W:Env->aq->Prop)(env:Env)(H:aq):Prop:=match fc P own o (ev env) H with
 |some (pre,v,H')=>pre/\W (bZ env o.dst v) H'
 |none=>kf P o W env H
theorem afh{o:Oper}{W W':Env->aq->Prop}{env:Env}{H:aq}(h:∀e G,W e G->W' e G)(hh:opK P own o W env H):opK P own o W' env H:=by
 unfold opK at *;split at hh
 ·exact⟨hh.1,h _ _ hh.2⟩
 ·exact anH h hh
def adW(P:Program)(own:List Nat)(ops:Array Oper)(o:Oper)(W:Env->aq->Prop)(env:Env)(H:aq):Prop:=(lB ops o env=some false/\W (bZ env o.dst (.dg [])) H)\/(lB ops o env=some true/\opK P own o W env H)
def aOp(P:Program)(own:List Nat)(ops:Array Oper)(tl:Nat->Bool)(i:Nat)(W:Env->aq->Prop)(env:Env)(H:aq):Prop:=match ops[i]? with
 |none=>W env H
 |some o=>(lB ops o env=some false/\W (bZ env o.dst (.dg [])) H)\/(lB ops o env=some true/\((adb own ops o env/\∃c v H',jo P own ops c o env H v H'/\W (bZ env o.dst v) H')\/(tl i=true/\opK P own o W env H)))
def aiW(P:Program)(own:List Nat)(ops:Array Oper)(tl:Nat->Bool)(K:Env->aq->Prop):Nat->Array Bool->Env->aq->Prop
 |0,listed,env,H=>Region.ready .any ops listed=[]/\K env H
 |fuel+1,listed,env,H=>(Region.ready .any ops listed=[]->K env H) /\
  ∀i∈Region.ready .any ops listed,aOp P own ops tl i (aiW P own ops tl K fuel (listed.setIfInBounds i true)) env H
theorem qz{C:Ctx}(hd:∀ (i:Nat) o,ops[i]? = some o->tB C.n o.dst){Q:Exit->Act->World->Prop}
  (hK:∀env H I L tm w,K env H->fV C env H I L tm w->Q .normal ⟨tm,[]⟩ w):∀ (fuel:Nat) (listed:Array Bool) (env:Env) (H:aq) (I:Mem) (L:bg) (tm:Array Value) (w:World),
  aiW P own ops tl K fuel listed env H->fV C env H I L tm w->wpAny P .any ops Q fuel listed ⟨tm,[]⟩ w
 |0,listed,env,H,I,L,tm,w,h,hs=>⟨h.1,hK env H I L tm w h.2 hs⟩
 |fuel+1,listed,env,H,I,L,tm,w,h,hs=>by
  refine⟨λh0=>hK env H I L tm w (h.1 h0) hs,λi hi=>?_⟩;have hi:=h.2 i hi;unfold aOp at hi;unfold wpOp;cases ho:ops[i]? with
  |none=>rw[ho] at hi;exact qz hd hK fuel _ env H I L tm w hi hs
  |some o =>
   rw[ho] at hi;simp only[];have hdo:=hd i o ho;rcases hi with ⟨hg,hi⟩|⟨hg,⟨_,c,v,H',hst,hi⟩|⟨_,hi⟩⟩
   ·rw[if_neg (by rw[l7 hg hs];simp)];have e:(Act.put ⟨tm,[]⟩ o.dst undef:Act)=⟨(Act.put ⟨tm,[]⟩ o.dst undef).tmps,[]⟩:=by cases o.dst<;>rfl
    rw[e];exact qz hd hK fuel _ _ H I L _ w hi (hs.bZ hdo (.dg [] [] rfl (by simp)) [])
   ·rw[if_pos (l7 hg hs)];exact .inl (aiK (auF hst hi) hs hdo λenv' H' I' L' tm' w' hw hs'=>qz hd hK fuel _ env' H' I' L' tm' w' hw hs')
   ·rw[if_pos (l7 hg hs)];exact .inl (aiK hi hs hdo λenv' H' I' L' tm' w' hw hs'=>qz hd hK fuel _ env' H' I' L' tm' w' hw hs')
def afi(ops:Array Oper)(anc:Nat->Nat->Bool):Bool :=
 (List.range ops.size).all λj=>(List.range ops.size).all λi=>!anc j i||match ops[j]? with
  |some o=>o.after.toList.any λe=>Region.binds .any e&&decide (e.on<j)&&(e.on == i||anc e.on i)
  |none=>false
theorem afj{anc:Nat->Nat->Bool}(h:afi ops anc=true){i j:Nat}{o:Oper}(hj:ops[j]? = some o)(hi:i<ops.size)(ha:anc j i=true) :
  ∃e∈o.after,Region.binds .any e=true/\e.on<j/\(e.on=i\/anc e.on i=true):=by
 have aD4:j<ops.size:=(Array.getElem?_eq_some_iff.1 hj).1;have h1:=List.all_eq_true.1 h j (List.mem_range.2 aD4);have h2:=List.all_eq_true.1 h1 i (List.mem_range.2 hi);rw[ha,hj] at h2;simp only[Bool.not_true,Bool.false_or] at h2;obtain⟨e,he,h3⟩:=List.any_eq_true.1 h2;simp only[Bool.and_eq_true,decide_eq_true_eq,Bool.or_eq_true,beq_iff_eq] at h3;exact⟨e,by simpa using he,h3.1.1,h3.1.2,h3.2⟩
def xw(ops:Array Oper)(listed:Array Bool):Prop:=listed.size=ops.size/\∀j o,ops[j]? = some o->listed.getD j false=true->∀e∈o.after,Region.binds .any e=true->listed.getD e.on false=true
theorem xw.set{listed:Array Bool}(h:xw ops listed){i:Nat}(hi:i∈Region.ready .any ops listed):xw ops (listed.setIfInBounds i true):=by
 obtain⟨_,oi,hoi,hall⟩:=mem_ready.1 hi;refine⟨by simpa using h.1,λj o hj hl e he hb=>?_⟩;by_cases hij:i=j
 ·subst hij;have:o=oi:=Option.some.inj (hj.symm.trans hoi);subst this;exact getD_set_true (hall e he hb)
 ·rw[getD_set_ne false hij] at hl;exact getD_set_true (h.2 j o hj hl e he hb)
theorem agG{anc:Nat->Nat->Bool}(hA:afi ops anc=true){listed:Array Bool}(hc:xw ops listed){i:Nat}(hi:i<ops.size) :
  ∀ (j:Nat),listed.getD j false=true->anc j i=true->listed.getD i false=true:=by
 intro j
 induction j using Nat.strongRecOn with
 |_ j ih =>
  intro hl ha;have hjl:j<ops.size:=by
   rw[<-hc.1];rcases Nat.lt_or_ge j listed.size with h|h
   ·exact h
   ·simp[Array.getElem?_eq_none h] at hl
  obtain⟨o,ho⟩:∃o,ops[j]? = some o:=⟨ops[j],by simp[hjl]⟩;obtain⟨e,he,hb,hlt,h1⟩:=afj hA ho hi ha;have hle:=hc.2 j o ho hl e he hb;rcases h1 with rfl|h1
  ·exact hle
  ·exact ih e.on hlt hle h1
theorem ahh{anc:Nat->Nat->Bool}(hA:afi ops anc=true){listed:Array Bool}(hc:xw ops listed){i j:Nat}(hi:i∈Region.ready .any ops listed)(hj:j∈Region.ready .any ops listed):anc j i=false:=by
 cases ha:anc j i with
 |false=>rfl
 |true =>
  exfalso;obtain⟨hiu,oi,hoi,_⟩:=mem_ready.1 hi;obtain⟨_,oj,hoj,hall⟩:=mem_ready.1 hj;have hil:i<ops.size:=(Array.getElem?_eq_some_iff.1 hoi).1;obtain⟨e,he,hb,hlt,h1⟩:=afj hA hoj hil ha;have hle:=hall e he hb;have:listed.getD i false=true:=by
   rcases h1 with rfl|h1
   ·exact hle
   ·exact agG hA hc hil e.on hle h1
  have h2:i<listed.size:=by rw[hc.1];exact hil
  simp[h2] at hiu this;rw[hiu] at this;cases this
theorem az9{env:Env}{d:Option Tmp}{v:AV}{x:Operand}(h:∀k,d=some k->x≠.tmp k):ev (bZ env d v) x=ev env x:=by
 cases d with
 |none=>rfl
 |some k =>
  cases x with
  |tmp t =>
   have hne:t≠k:=λe=>h k rfl (by rw[e])
   show cD env k v t=env t;unfold cD;rw[if_neg hne]
  |_=>rfl
theorem art{o:Oper}{t:Tmp}(h:Operand.tmp t∈o.op.operands):t∈o.looksAt ops:=by unfold Oper.looksAt;rw[List.mem_append];left;exact List.mem_filterMap.2 ⟨.tmp t,by simpa using h,rfl⟩
theorem ab6{o:Oper}{env:Env}{d:Option Tmp}{v:AV}(h:∀k,d=some k->k ∉ o.looksAt ops):∀x∈o.op.operands,ev (bZ env d v) x=ev env x:=λx hx=>az9 λk hk e=>h k hk (art (by rw[<-e];exact hx))
theorem abx{o:Oper}{env:Env}{d:Option Tmp}{v:AV}(h:∀k,d=some k->k ∉ o.looksAt ops):lB ops o (bZ env d v)=lB ops o env:=by
 unfold lB;cases hg:o.guard with
 |none=>rfl
 |some gw =>
  obtain⟨j,want⟩:=gw;simp only[];cases hd:(ops[j]?).bind (·.dst) with
  |none=>rfl
  |some s =>
   simp only[];have:bZ env d v s=env s:=by
    cases d with
    |none=>rfl
    |some k =>
     have hk:=h k rfl;have hne:s≠k:=λe=>hk (by
      unfold Oper.looksAt;rw[List.mem_append];right;rw[hg];simp only[];rw[hd,e];simp)
     show cD env k v s=env s;unfold cD;rw[if_neg hne]
   rw[this]
theorem ahi{env:Env}{d e:Option Tmp}{v u:AV}(h:∀k,d=some k->e≠some k):bZ (bZ env d v) e u=bZ (bZ env e u) d v:=by
 cases d with
 |none=>rfl
 |some k =>
  cases e with
  |none=>rfl
  |some m=>exact ate env v u λhkm=>h k rfl (by rw[hkm])
theorem akV{o:Oper}{env:Env}{d:Option Tmp}{v:AV}(h:∀k,d=some k->k ∉ o.looksAt ops):adb own ops o (bZ env d v)↔adb own ops o env:=by
 have hop:∀x∈o.op.operands,ev (bZ env d v) x=ev env x:=ab6 (ops:=ops) h;have h2:adU own o (bZ env d v)↔adU own o env:=by
  unfold adU;cases ha:appArg o.op with
  |none=>rfl
  |some r=>obtain⟨a,s⟩:=r;obtain⟨t1,t2,e⟩:=zv ha;have e1:ev (bZ env d v) (.tmp a)=ev env (.tmp a):=hop _ (by rw[e];simp[Op.operands,Call.operands]);have e2:ev (bZ env d v) s=ev env s:=hop _ (by rw[e];simp[Op.operands,Call.operands]);have e1':bZ env d v a=env a:=e1;simp only[e1',e2]
 unfold adb;rw[h2];cases ho:o.op with
 |store t a x =>
  cases a with
  |tmp k=>have h1:ev (bZ env d v) (.tmp k)=ev env (.tmp k):=hop _ (by rw[ho];simp[Op.operands]);have h2:bZ env d v k=env k:=h1;simp only[h2]
  |_=>rfl
 |_=>rfl
theorem ahj{c:oh}{o:Oper}{env:Env}{H H':aq}{v u:AV}{d:Option Tmp}(h:∀k,d=some k->k ∉ o.looksAt ops):jo P own ops c o (bZ env d u) H v H'↔jo P own ops c o env H v H':=by
 have hop:∀x∈o.op.operands,ev (bZ env d u) x=ev env x:=ab6 (ops:=ops) h;have aAa:∀x∈o.op.operands,ev env x=ev (bZ env d u) x:=λx hx=>(hop x hx).symm
 cases c with
 |p=>simp only[jo,aha hop]
 |q =>
  simp only[jo,aaA hop,vh hop];constructor
  ·rintro⟨h1,h2,h3|⟨x,h3,h4,h5⟩⟩
   ·exact⟨h1,h2,.inl h3⟩
   ·exact⟨h1,h2,.inr ⟨x,h3,vi hop h4,h5⟩⟩
  ·rintro⟨h1,h2,h3|⟨x,h3,h4,h5⟩⟩
   ·exact⟨h1,h2,.inl h3⟩
   ·exact⟨h1,h2,.inr ⟨x,h3,vi aAa h4,h5⟩⟩
 |o =>
  simp only[jo,aaA hop,vh hop];constructor
  ·rintro⟨h1,h2,h3|⟨x,h3,h4,h5⟩⟩
   ·exact⟨h1,h2,.inl h3⟩
   ·exact⟨h1,h2,.inr ⟨x,h3,vi hop h4,h5⟩⟩
  ·rintro⟨h1,h2,h3|⟨x,h3,h4,h5⟩⟩
   ·exact⟨h1,h2,.inl h3⟩
   ·exact⟨h1,h2,.inr ⟨x,h3,vi aAa h4,h5⟩⟩
 |b=>simp only[jo,aaA hop]
 |w=>simp only[jo,vh hop]
 |s=>simp only[jo,vh hop]
 |f=>exact⟨λh=>⟨h.1,ab5 hop h.2⟩,λh=>⟨h.1,ab5 aAa h.2⟩⟩
 |t=>exact Iff.rfl
theorem zy{c:oh}{o:Oper}{env:Env}{H H':aq}{v:AV}(hq:bw own o=true)(h:jo P own ops c o env H v H'):HSub H H':=by
 have key:H'=H->HSub H H':=λe=>by rw[e];exact λ_ _ h=>h
 cases c with
 |p=>obtain⟨_,_,_,h,_⟩:=h;exact key h
 |q=>exact key h.2.1
 |b=>exact key h.2.1
 |o=>exact key h.2.1
 |w=>obtain⟨pre,h1,_⟩:=h;exact key (rA hq h1)
 |s=>obtain⟨pre,h1,_⟩:=h;exact key (rA hq h1)
 |f=>exact zx h.2
 |t=>exact h.elim
theorem aby{c:oh}{o:Oper}{env:Env}{H H':aq}{v:AV}(hq:tC own o=true)(h:jo P own ops c o env H v H'):H'=H/\∀G,jo P own ops .p o env G v G:=by
 have hown:(match o.dst with|some d=>!own.contains d|none=>true)=true:=by unfold tC at hq;rw[Bool.and_eq_true] at hq;exact hq.1
 have hqq:jo P own ops .q o env H v H'->H'=H/\∀G,jo P own ops .p o env G v G:=λh=>by
  obtain⟨_,rfl,⟨pre,h1,h2⟩|⟨x,_,h1,_⟩⟩:=h
  ·rw[akR hq] at h1;cases hp:uO P o (ev env) with
   |none=>rw[hp] at h1;cases h1
   |some r=>obtain⟨pre',v'⟩:=r;rw[hp] at h1;simp only[cm,gD] at h1;obtain⟨rfl,rfl,_⟩:=h1;exact⟨rfl,λG=>⟨pre',hp,h2,rfl,hown⟩⟩
  ·obtain⟨k,dP,ps,b,hc,_⟩:=h1;rw[ahb hq] at hc;cases hc
 cases c with
 |p=>obtain⟨pre,h1,h2,h3,h4⟩:=h;exact⟨h3,λG=>⟨pre,h1,h2,rfl,h4⟩⟩
 |t=>exact h.elim
 |b=>exact hqq (apB h)
 |q=>exact hqq h
 |o=>exact hqq (apC h)
 |w =>
  obtain⟨pre,h1,h2⟩:=h;rw[afc hq] at h1;cases hp:uO P o (ev env) with
  |none=>rw[hp] at h1;cases h1
  |some r=>obtain⟨pre',v'⟩:=r;rw[hp] at h1;simp only[cm,gD] at h1;obtain⟨rfl,rfl,rfl⟩:=h1;exact⟨rfl,λG=>⟨pre',hp,h2,rfl,hown⟩⟩
 |s =>
  obtain⟨pre,h1,h2⟩:=h;rw[afc hq] at h1;cases hp:uO P o (ev env) with
  |none=>rw[hp] at h1;cases h1
  |some r=>obtain⟨pre',v'⟩:=r;rw[hp] at h1;simp only[cm,gD] at h1;obtain⟨rfl,rfl,rfl⟩:=h1;exact⟨rfl,λG=>⟨pre',hp,h2,rfl,hown⟩⟩
 |f=>obtain⟨_,k,dP,ps,b,r,id,h1,_⟩:=h;rw[ahb hq] at h1;cases h1
def Head(P:Program)(own:List Nat)(ops:Array Oper)(c:oh)(o:Oper)(env:Env)(H:aq)(v:AV)(H':aq):Prop:=(lB ops o env=some false/\v = .dg []/\H'=H)\/(lB ops o env=some true/\adb own ops o env/\jo P own ops c o env H v H')
theorem Head.aOp{c:oh}{i:Nat}{o:Oper}{env:Env}{H H':aq}{v:AV}(hi:ops[i]? = some o)(h:Head P own ops c o env H v H'){W:Env->aq->Prop}(hW:W (bZ env o.dst v) H'):aOp P own ops tl i W env H:=by
 unfold bP.aOp;rw[hi];rcases h with ⟨h1,rfl,rfl⟩|⟨h1,hst,h2⟩
 ·exact .inl ⟨h1,hW⟩
 ·exact .inr ⟨h1,.inl ⟨hst,c,v,H',h2,hW⟩⟩
theorem Head.put{c:oh}{o:Oper}{env:Env}{H H':aq}{v u:AV}{d:Option Tmp}(h:∀k,d=some k->k ∉ o.looksAt ops)(hh:Head P own ops c o env H v H'):Head P own ops c o (bZ env d u) H v H':=by unfold Head at *;rw[abx h,ahj h,akV h];exact hh
def aiX(own:List Nat)(ops:Array Oper)(c:oh)(oi oj:Oper):Bool:=oi.apart ops oj&&match c with
 | .p=>true
 | .b=>bw own oj||ahd own oj||auE oj
 | .q=>bw own oj||ahd own oj
 | .o=>bw own oj||ahd own oj||(tD own ops oj).isSome
 | .w=>tC own oj||(match tD own ops oi,tD own ops oj with
  |some x,some y=>x != y
  |_,_=>false)
 | .s=>tC own oj||(match tD own ops oi,tD own ops oj with
  |some x,some y=>x != y
  |_,_=>false)
 | .f=>tC own oj||(tD own ops oj).isSome
 | .t=>false
theorem ade{c:oh}{o:Oper}{env:Env}{H H':aq}{v:AV}(hn:ahd own o=true)(h:jo P own ops c o env H v H'):HSub H H':=by
 cases c with
 |p=>obtain⟨_,_,_,h3,_⟩:=h;rw[h3];exact λ_ _ h=>h
 |b=>rw[h.2.1];exact λ_ _ h=>h
 |q=>rw[h.2.1];exact λ_ _ h=>h
 |o=>rw[h.2.1];exact λ_ _ h=>h
 |w=>obtain⟨pre,h1,_⟩:=h;exact ahe hn h1
 |s=>obtain⟨pre,h1,_⟩:=h;exact ahe hn h1
 |f=>exact zx h.2
 |t=>exact h.elim
theorem aru{c:oh}{o:Oper}{env:Env}{H H':aq}{v:AV}(hn:auE o=true)(h:jo P own ops c o env H v H'):HSub (rU H) (rU H'):=by
 cases c with
 |p=>obtain⟨_,_,_,h3,_⟩:=h;rw[h3];exact λ_ _ h=>h
 |t=>exact h.elim
 |b=>rw[h.2.1];exact λ_ _ h=>h
 |q=>rw[h.2.1];exact λ_ _ h=>h
 |o=>rw[h.2.1];exact λ_ _ h=>h
 |w=>obtain⟨pre,h1,_⟩:=h;exact ahf hn h1
 |s=>obtain⟨pre,h1,_⟩:=h;exact ahf hn h1
 |f=>exact aaD (zx h.2)
theorem Head.sub{o:Oper}{env:Env}{H G:aq}{v:AV}(hs:HSub H G)(h:Head P own ops .q o env H v H):Head P own ops .q o env G v G:=by
 rcases h with ⟨h1,h2,_⟩|⟨h1,hst,h2,_,h3|⟨x,h3,h4,h5⟩⟩
 ·exact .inl ⟨h1,h2,rfl⟩
 ·obtain⟨pre,h3,h4⟩:=h3;exact .inr ⟨h1,hst,h2,rfl,.inl ⟨pre,ot hs h2 h3,h4⟩⟩
 ·exact .inr ⟨h1,hst,h2,rfl,.inr ⟨x,h3,ada hs h4,abw h2 h4⟩⟩
theorem Head.aD5{o:Oper}{env:Env}{H G:aq}{v:AV}(hs:HSub (ou own ops H) (ou own ops G))(h:Head P own ops .o o env H v H):Head P own ops .o o env G v G:=by
 rcases h with ⟨h1,h2,_⟩|⟨h1,hst,h2,_,h3|⟨x,h3,h4,h5⟩⟩
 ·exact .inl ⟨h1,h2,rfl⟩
 ·obtain⟨pre,h3,h4⟩:=h3;exact .inr ⟨h1,hst,h2,rfl,.inl ⟨pre,ot hs h2 h3,h4⟩⟩
 ·exact .inr ⟨h1,hst,h2,rfl,.inr ⟨x,h3,ada hs h4,abw h2 h4⟩⟩
theorem ab7{c:oh}{o:Oper}{env:Env}{H H':aq}{v:AV}{d:Nat}(hl:tD own ops o=some d)(hs:adb own ops o env)(h:jo P own ops c o env H v H'):∃pre,fc P own o (ev env) H=some (pre,v,H')/\pre:=by
 obtain⟨dst,op,t,pos,af,g⟩:=o;have hw:(jo P own ops .w ⟨dst,op,t,pos,af,g⟩ env H v H'->∃pre,fc P own ⟨dst,op,t,pos,af,g⟩ (ev env) H=some (pre,v,H')/\pre):=λh=>h
 have hcl:∀cl,op = .call cl->bw own ⟨dst,op,t,pos,af,g⟩=false/\uO P ⟨dst,op,t,pos,af,g⟩ (ev env)=none:=by
  intro cl e;subst e;have hl':zw own ops ⟨dst,.call cl,t,pos,af,g⟩=some d:=hl;have hst:=hs.2 (by rw[hl'];rfl);unfold zw at hl';unfold adU at hst;cases ha:appArg (Op.call cl) with
  |none=>simp only[ha] at hl';cases hl'
  |some r=>obtain⟨a,s⟩:=r;obtain⟨t1,t2,e2⟩:=zv ha;simp only[ha] at hst;obtain⟨⟨aW,h1⟩,x,h2⟩:=hst;simp only[Op.call.injEq] at e2;subst e2;refine⟨by simp[bw],?_⟩;have yB:ev env (.tmp a) = .row (oI own a) aW:=h1;simp[uO,tv,aix,isNil,yB,h2]
 cases c with
 |t=>exact h.elim
 |w=>exact h
 |s=>exact h
 |p =>
  obtain⟨pre,h1,_,_,h4⟩:=h;cases op<;>simp only[tD] at hl<;>try (cases hl;done)
  case call cl=>rw[(hcl cl rfl).2] at h1;cases h1
  case buildSlice =>
   exfalso;cases dst with
   |none=>cases hl
   |some k =>
    simp only at hl h4;split at hl
    ·rename_i hn;rw[hn] at h4;cases h4
    ·cases hl
  case makeSlice =>
   exfalso;cases dst with
   |none=>cases hl
   |some k =>
    simp only at hl h4;split at hl
    ·rename_i hn;rw[hn] at h4;cases h4
    ·cases hl
  all_goals simp[uO] at h1
 |b|q|o|f =>
  exfalso;have hq:=h.1;cases op<;>simp only[tD] at hl<;>try (cases hl;done)
  case call cl=>rw[(hcl cl rfl).1] at hq;cases hq
  all_goals(cases dst<;>simp[bw] at hq hl)<;>exact hq hl.1
theorem akW{ci cj:oh}{oi oj:Oper}{env:Env}{H H' Hj:aq}{v v':AV}{d d':Nat}(hi:tD own ops oi=some d)(hj:tD own ops oj=some d')(hne:d≠d')(hsi:adb own ops oi env)(hsj:adb own ops oj env)
  (h1:jo P own ops ci oi env H v H') (h2:jo P own ops cj oj env H' v' Hj):∃G,jo P own ops .w oj env H v' G/\jo P own ops .w oi env G v Hj/\HSub (ou own ops H) (ou own ops G):=by
 obtain⟨pre,e1,hp⟩:=ab7 hi hsi h1;obtain⟨pre',e2,hp'⟩:=ab7 hj hsj h2;obtain⟨⟨φ,hφ⟩,n1⟩:=ab4 (P:=P) hi hsi;obtain⟨⟨ψ,hψ⟩,n2⟩:=ab4 (P:=P) hj hsj;rw[hφ] at e1;rw[hψ] at e2;cases a1:φ (H d) with
 |none=>rw[a1] at e1;cases e1
 |some r =>
  obtain⟨p1,v1,c1⟩:=r;rw[a1] at e1;simp only[cm,gD] at e1;obtain⟨rfl,rfl,rfl⟩:=e1;have a2:bh H d c1 d'=H d':=by simp[bh,Ne.symm hne]
  rw[a2] at e2;cases a3:ψ (H d') with
  |none=>rw[a3] at e2;cases e2
  |some r =>
   obtain⟨p2,v2,c2⟩:=r;rw[a3] at e2;simp only[cm,gD] at e2;obtain⟨rfl,rfl,rfl⟩:=e2;refine⟨bh H d' c2,⟨p2,by rw[hψ,a3],hp'⟩,⟨p1,?_,hp⟩,by rw[aff own ops H c2 n2];exact λ_ _ h=>h⟩;have a4:bh H d' c2 d=H d:=by simp[bh,hne]
   rw[hφ,a4,a1,acV H c1 c2 hne]
theorem ax3{c:oh}{o:Oper}{env:Env}{H H':aq}{v:AV}{d:Nat}(hl:tD own ops o=some d)(hs:adb own ops o env)(h:jo P own ops c o env H v H'):ou own ops H'=ou own ops H:=by
 obtain⟨pre,e1,hp⟩:=ab7 hl hs h;obtain⟨⟨φ,hφ⟩,n1⟩:=ab4 (P:=P) hl hs;rw[hφ] at e1;cases a1:φ (H d) with
 |none=>rw[a1] at e1;cases e1
 |some r=>obtain⟨p1,v1,c1⟩:=r;rw[a1] at e1;simp only[cm,gD] at e1;obtain⟨rfl,rfl,rfl⟩:=e1;exact aff own ops H c1 n1
theorem arv{cj:oh}{oi oj:Oper}{env:Env}{H H' Hj:aq}{v v':AV}{d':Nat}(hj:tD own ops oj=some d')(hsj:adb own ops oj env)
  (h1:jo P own ops .f oi env H v H') (h2:jo P own ops cj oj env H' v' Hj):∃G,jo P own ops .w oj env H v' G/\jo P own ops .f oi env G v Hj:=by
 obtain⟨pre',e2,hp'⟩:=ab7 hj hsj h2;obtain⟨⟨ψ,hψ⟩,n2⟩:=ab4 (P:=P) hj hsj;obtain⟨hq,k,dP,ps,b,r,id,g1,g2,g3,g4,g5,rfl,rfl⟩:=h1;have hd:d'<id\/(cq id r).2<=d':=by
  rcases Nat.lt_or_ge d' id with h|h
  ·exact .inl h
  ·rcases Nat.lt_or_ge d' (cq id r).2 with h'|h'
   ·rw[(g5 d' h h').2] at n2;cases n2
   ·exact .inr h'
 rw[hψ,abr r id H d' hd] at e2;cases a3:ψ (H d') with
 |none=>rw[a3] at e2;cases e2
 |some q =>
  obtain⟨p2,v2,c2⟩:=q;rw[a3] at e2;simp only[cm,gD] at e2;obtain⟨rfl,rfl,rfl⟩:=e2;refine⟨bh H d' c2,⟨p2,by rw[hψ,a3],hp'⟩,hq,k,dP,ps,b,r,id,g1,by rw[aff own ops H c2 n2];exact g2,g3,g4,λi hi1 hi2=>⟨?_,(g5 i hi1 hi2).2⟩,rfl,(akU r id H d' c2 hd).symm⟩;have hne:i≠d':=by omega
  simp only[bh,if_neg hne];exact (g5 i hi1 hi2).1
theorem Head.aD6{o:Oper}{env:Env}{H G:aq}{v:AV}(hs:HSub (rU H) (rU G))(h:Head P own ops .b o env H v H):Head P own ops .b o env G v G:=by
 rcases h with ⟨h1,h2,_⟩|⟨h1,hst,h2,_,pre,h3,h4⟩
 ·exact .inl ⟨h1,h2,rfl⟩
 ·exact .inr ⟨h1,hst,h2,rfl,pre,ot hs h2 h3,h4⟩
theorem arw{anc:Nat->Nat->Bool}(hA:afi ops anc=true){i:Nat}{oi:Oper}{c:oh}{v:AV}(hi:ops[i]? = some oi) :
  ∀ (fuel:Nat) (listed:Array Bool) (env:Env) (H H':aq),xw ops listed ->
   (∀j oj,ops[j]? = some oj->j≠i->listed.getD j true=false->anc j i=false->aiX own ops c oi oj=true/\tl j=false) ->
   i∈Region.ready .any ops listed->Head P own ops c oi env H v H'->(c≠.w->c≠.s->c≠.f->H'=H) ->
   aiW P own ops tl K fuel (listed.setIfInBounds i true) (bZ env oi.dst v) H'->aiW P own ops tl K (fuel+1) listed env H:=by
 intro fuel
 induction fuel with
 |zero =>
  intro listed env H H' _ _ hr hy _ hk;refine⟨λh=>(by rw[h] at hr;cases hr),λj hj=>?_⟩;by_cases hji:j=i
  ·subst hji;exact hy.aOp hi hk
  ·have:=ready_mono hj hji;rw[hk.1] at this;cases this
 |succ fuel ih =>
  intro listed env H H' hcl hfree hr hy hqH hk;refine⟨λh=>(by rw[h] at hr;cases hr),λj hj=>?_⟩;by_cases hji:j=i
  ·subst hji;exact hy.aOp hi hk
  ·have h1:=hk.2 j (ready_mono hj hji);obtain⟨ax4,oj,hoj,hall⟩:=mem_ready.1 hj;have hnot:∀e∈oj.after,Region.binds .any e=true->e.on≠i:=λe he hb heq=>by
    have h1:=hall e he hb;have h0:=(mem_ready.1 hr).1;rw[heq] at h1;rcases Nat.lt_or_ge i listed.size with h'|h'
    ·simp[h'] at h0 h1;rw[h0] at h1;cases h1
    ·simp[Array.getElem?_eq_none h'] at h1
   obtain⟨hsw,htl⟩:=hfree j oj hoj hji ax4 (ahh hA hcl hr hj);unfold aiX at hsw;rw[Bool.and_eq_true] at hsw;obtain⟨a1,a2,a3⟩:=Oper.apart_spec hsw.1;have pN:∀k ok,ops[k]? = some ok->k≠i->(listed.setIfInBounds j true).getD k true=false->anc k i=false->aiX own ops c oi ok=true/\tl k=false:=λk ok hk hki hun hno=>by
    refine hfree k ok hk hki ?_ hno;by_cases hjk:j=k
    ·subst hjk;exact ax4
    ·rw[getD_set_ne true hjk] at hun;exact hun
   have qA:=hcl.set hj;have hri:=ready_mono hr (Ne.symm hji);unfold bP.aOp at h1 ⊢;rw[hoj] at h1 ⊢;rw[Array.setIfInBounds_comm _ _ (Ne.symm hji)] at h1;rcases h1 with ⟨hg,hw⟩|⟨hg,⟨hso,c',v',Hj,hst,hw⟩|⟨aBf,_⟩⟩
   ·rw[abx a1] at hg;refine .inl ⟨hg,ih _ _ H H' qA pN hri (hy.put a3) hqH ?_⟩;rw[ahi a2] at hw;exact hw
   ·rw[abx a1] at hg;rw[ahj a1] at hst;rw[akV a1] at hso;rw[ahi a2] at hw;cases c with
    |p =>
     have e1:H'=H:=hqH (by simp) (by simp) (by simp);subst e1;refine .inr ⟨hg,.inl ⟨hso,c',v',Hj,hst,ih _ _ Hj Hj qA pN hri ?_ (λ_ _ _=>rfl) hw⟩⟩;have hy':=hy.put (d:=oj.dst) (u:=v') a3;rcases hy' with ⟨k1,k2,_⟩|⟨k1,ko,pre,k2,k3,_,k4⟩
     ·exact .inl ⟨k1,k2,rfl⟩
     ·exact .inr ⟨k1,ko,pre,k2,k3,rfl,k4⟩
    |q =>
     have e1:H'=H:=hqH (by simp) (by simp) (by simp);subst e1;have hs2:HSub H' Hj:=by
      rcases (Eq.to_iff (Bool.or_eq_true _ _)).mp hsw.2 with h|h
      ·exact zy h hst
      ·exact ade h hst
     exact .inr ⟨hg,.inl ⟨hso,c',v',_,hst,ih _ _ _ _ qA pN hri ((hy.put a3).sub hs2) (λ_ _ _=>rfl) hw⟩⟩
    |b =>
     have e1:H'=H:=hqH (by simp) (by simp) (by simp);subst e1;have hs2:HSub (rU H') (rU Hj):=by
      rcases (Eq.to_iff (Bool.or_eq_true _ _)).mp hsw.2 with h|h
      ·rcases (Eq.to_iff (Bool.or_eq_true _ _)).mp h with h|h
       ·exact aaD (zy h hst)
       ·exact aaD (ade h hst)
      ·exact aru h hst
     exact .inr ⟨hg,.inl ⟨hso,c',v',_,hst,ih _ _ _ _ qA pN hri ((hy.put a3).aD6 hs2) (λ_ _ _=>rfl) hw⟩⟩
    |w =>
     rcases (Eq.to_iff (Bool.or_eq_true _ _)).mp hsw.2 with hp|hl
     ·obtain⟨e2,hpure⟩:=aby hp hst;subst e2;exact .inr ⟨hg,.inl ⟨hso,.p,v',H,hpure H,ih _ _ H _ qA pN hri (hy.put a3) (λh=>absurd rfl h) hw⟩⟩
     ·split at hl
      ·rename_i d d' hd hd';have hne:d≠d':=by simpa using hl
       rcases hy with ⟨k1,k2,k3⟩|⟨k1,ko,k2⟩
       ·subst k3;exact .inr ⟨hg,.inl ⟨hso,c',v',Hj,hst,ih _ _ Hj Hj qA pN hri (Head.put a3 (.inl ⟨k1,k2,rfl⟩)) (λh=>absurd rfl h) hw⟩⟩
       ·obtain⟨G,m1,m2,_⟩:=akW hd hd' hne ko hso k2 hst;exact .inr ⟨hg,.inl ⟨hso,.w,v',G,m1,ih _ _ G Hj qA pN hri (Head.put a3 (.inr ⟨k1,ko,m2⟩)) (λh=>absurd rfl h) hw⟩⟩
      ·cases hl
    |o =>
     have e1:H'=H:=hqH (by simp) (by simp) (by simp);subst e1;have hs2:HSub (ou own ops H') (ou own ops Hj):=by
      rcases (Eq.to_iff (Bool.or_eq_true _ _)).mp hsw.2 with h|h
      ·rcases (Eq.to_iff (Bool.or_eq_true _ _)).mp h with h|h
       ·exact ahg own ops (zy h hst)
       ·exact ahg own ops (ade h hst)
      ·obtain⟨d,hd⟩:=Option.isSome_iff_exists.1 h;rw[ax3 hd hso hst];exact λ_ _ h=>h
     exact .inr ⟨hg,.inl ⟨hso,c',v',_,hst,ih _ _ _ _ qA pN hri ((hy.put a3).aD5 hs2) (λ_ _ _=>rfl) hw⟩⟩
    |s =>
     rcases (Eq.to_iff (Bool.or_eq_true _ _)).mp hsw.2 with hp|hl
     ·obtain⟨e2,hpure⟩:=aby hp hst;subst e2;exact .inr ⟨hg,.inl ⟨hso,.p,v',H,hpure H,ih _ _ H _ qA pN hri (hy.put a3) (λ_ h=>absurd rfl h) hw⟩⟩
     ·split at hl
      ·rename_i d d' hd hd';have hne:d≠d':=by simpa using hl
       rcases hy with ⟨k1,k2,k3⟩|⟨k1,ko,k2⟩
       ·subst k3;exact .inr ⟨hg,.inl ⟨hso,c',v',Hj,hst,ih _ _ Hj Hj qA pN hri (Head.put a3 (.inl ⟨k1,k2,rfl⟩)) (λ_ h=>absurd rfl h) hw⟩⟩
       ·obtain⟨G,m1,m2s,_⟩:=akW hd hd' hne ko hso k2 hst;exact .inr ⟨hg,.inl ⟨hso,.w,v',G,m1,ih _ _ G Hj qA pN hri (Head.put a3 (.inr ⟨k1,ko,m2s⟩)) (λ_ h=>absurd rfl h) hw⟩⟩
      ·cases hl
    |f =>
     rcases (Eq.to_iff (Bool.or_eq_true _ _)).mp hsw.2 with hp|hl
     ·obtain⟨e2,hpure⟩:=aby hp hst;subst e2;exact .inr ⟨hg,.inl ⟨hso,.p,v',H,hpure H,ih _ _ H _ qA pN hri (hy.put a3) (λ_ _ h=>absurd rfl h) hw⟩⟩
     ·obtain⟨d',hd'⟩:=Option.isSome_iff_exists.1 hl;rcases hy with ⟨k1,k2,k3⟩|⟨k1,ko,k2⟩
      ·subst k3;exact .inr ⟨hg,.inl ⟨hso,c',v',Hj,hst,ih _ _ Hj Hj qA pN hri (Head.put a3 (.inl ⟨k1,k2,rfl⟩)) (λ_ _ h=>absurd rfl h) hw⟩⟩
      ·obtain⟨G,m1,m2⟩:=arv hd' hso k2 hst;exact .inr ⟨hg,.inl ⟨hso,.w,v',G,m1,ih _ _ G Hj qA pN hri (Head.put a3 (.inr ⟨k1,ko,m2⟩)) (λ_ _ h=>absurd rfl h) hw⟩⟩
    |t=>cases hsw.2
   ·rw[htl] at aBf;cases aBf
theorem auG{anc:Nat->Nat->Bool}(hA:afi ops anc=true){i:Nat}{oi:Oper}(hi:ops[i]? = some oi){fuel:Nat}{listed:Array Bool}{env:Env}{H:aq}(hcl:xw ops listed)(htl:tl i=true)
  (hall:∀j oj,ops[j]? = some oj->j≠i->listed.getD j true=false->anc j i=true) (hr:i∈Region.ready .any ops listed) (hw:adW P own ops oi (aiW P own ops tl K fuel (listed.setIfInBounds i true)) env H) :
  aiW P own ops tl K (fuel+1) listed env H:=by
 refine⟨λh=>(by rw[h] at hr;cases hr),λj hj=>?_⟩;by_cases hji:j=i
 ·subst hji;unfold bP.aOp;rw[hi];rcases hw with h|⟨h1,h2⟩
  ·exact .inl h
  ·exact .inr ⟨h1,.inr ⟨htl,h2⟩⟩
 ·obtain⟨ax4,oj,hoj,_⟩:=mem_ready.1 hj;have h1:=hall j oj hoj hji ax4;rw[ahh hA hcl hr hj] at h1;cases h1
def isT:oh->Bool
 | .t=>true
 |_=>false
def aD7(l:List (Nat×oh))(i:Nat):Bool:=l.any λx=>x.1 == i&&isT x.2
def zz(own:List Nat)(ops:Array Oper)(anc:Nat->Nat->Bool)(tl:Nat->Bool):List (Nat×oh)->Array Bool->Bool
 | [],listed=>(Region.ready .any ops listed).isEmpty
 | (i, c) :: rest, listed => (Region.ready .any ops listed).contains i && (match ops[i]? with
   |some oi=>(!isT c||tl i)&&(List.range ops.size).all λj=>j == i||listed.getD j true||anc j i||(match ops[j]? with
    |some oj=>!isT c&&aiX own ops c oi oj && !tl j
    |none=>true)
   |none=>false)&&zz own ops anc tl rest (listed.setIfInBounds i true)
def akX(P:Program)(N:Nat)(own:List Nat)(ops:Array Oper):List (Oper×oh)->(Env->aq->Prop)->Env->aq->Prop
 | [],K,env,H=>K env H
 | (o, c) :: rest, K, env, H => tB N o.dst ∧ ((isT c = true ∧ adW P own ops o (akX P N own ops rest K) env H) ∨
   (isT c=false/\∃v H',Head P own ops c o env H v H'/\(match c with | .w=>True | .s=>True | .f=>True|_=>H'=H)/\akX P N own ops rest K (bZ env o.dst v) H'))
theorem afk{o:Oper}{W W':Env->aq->Prop}{env:Env}{H:aq}(h:∀e G,W e G->W' e G)(hh:adW P own ops o W env H):adW P own ops o W' env H:=hh.imp (λx=>⟨x.1,h _ _ x.2⟩) λx=>⟨x.1,afh h x.2⟩
theorem xx{anc:Nat->Nat->Bool}(hA:afi ops anc=true):∀ (l:List (Nat×oh)) (os:List (Oper×oh)) (listed:Array Bool) (env:Env) (H:aq),xw ops listed ->
  os.map (·.1)=l.filterMap (λx=>ops[x.1]?)->os.map (·.2)=l.map (·.2)->zz own ops anc tl l listed=true->akX P N own ops os K env H->aiW P own ops tl K l.length listed env H
 | [],os,listed,env,H,_,h1,h2,h3,hw=>by
  have:os=[]:=by simpa using h2
  subst this;exact⟨by simpa[zz] using h3,hw⟩
 |(i,c) :: l,[],listed,env,H,_,h1,h2,h3,hw=>by simp at h2
 |(i,c) :: l,(o,c') :: os,listed,env,H,hcl,h1,h2,h3,hw=>by
  simp only[zz,Bool.and_eq_true] at h3;obtain⟨⟨hr,hs⟩,ae0⟩:=h3;cases hi:ops[i]? with
  |none=>rw[hi] at hs;cases hs
  |some oi =>
   rw[hi] at hs;simp only[List.map_cons,List.filterMap_cons,hi,List.cons.injEq] at h1 h2;obtain⟨e1,h1⟩:=h1;obtain⟨e2,h2⟩:=h2;subst e1 e2;simp only[Bool.and_eq_true] at hs;obtain⟨ht,hs⟩:=hs;have aiY:i∈Region.ready .any ops listed:=by simpa using hr
   obtain⟨_,⟨hc,hw⟩|⟨hc,v,H',hy,hq,hw⟩⟩:=hw
   ·refine auG hA hi hcl (by rw[hc] at ht;simpa using ht) (λj oj hoj hji hun=>?_) aiY (afk (λe G hw=>xx hA l os _ e G (hcl.set aiY) h1 h2 ae0 hw) hw);have hjl:j<ops.size:=(Array.getElem?_eq_some_iff.1 hoj).1;have:=List.all_eq_true.1 hs j (List.mem_range.2 hjl);simp only[hun,hoj,hc,Bool.or_eq_true,beq_iff_eq,Bool.or_false,Bool.not_true,Bool.false_and] at this;rcases this with h|h
    ·exact absurd h hji
    ·exact h
   ·refine arw hA hi l.length listed env H H' hcl (λj oj hoj hji hun hno=>?_) aiY hy (λhne aD8 aD9=>by cases c'<;>first|exact hq|exact absurd rfl hne|exact absurd rfl aD8|exact absurd rfl aD9)
     (xx hA l os _ _ H' (hcl.set aiY) h1 h2 ae0 hw)
    have hjl:j<ops.size:=(Array.getElem?_eq_some_iff.1 hoj).1;have:=List.all_eq_true.1 hs j (List.mem_range.2 hjl);simp only[hun,hno,hoj,hc,Bool.or_eq_true,beq_iff_eq,Bool.or_false,Bool.not_false,Bool.true_and,Bool.and_eq_true,Bool.not_eq_true'] at this;rcases this with h|h
    ·exact absurd h hji
    ·exact h
def masks(ops:Array Oper):List Nat:=(Region.before ops).toList
def aBg(m:List Nat)(j i:Nat):Bool:=(m.getD j 0).testBit i
def afl(own:List Nat)(ops:Array Oper)(m:List Nat)(l:List (Nat×oh)):Bool:=afi ops (aBg m)&&zz own ops (aBg m) (aD7 l) l (Array.replicate ops.size false)&&l.length == ops.size&&ops.toList.all λo=>match o.dst with|some _=>true|none=>true
theorem ahk{env:Env}{H:aq}(m:List Nat)(l:List (Nat×oh))(os:List (Oper×oh))(hok:afl own ops m l=true)(h1:os.map (·.1)=l.filterMap (λx=>ops[x.1]?))(h2:os.map (·.2)=l.map (·.2))
  (hd:∀ (i:Nat) o,ops[i]? = some o->tB N o.dst) (hw:akX P N own ops os K env H):vf P N own ops K env H:=by
 unfold afl at hok;simp only[Bool.and_eq_true,beq_iff_eq] at hok;obtain⟨⟨⟨hA,hD⟩,hlen⟩,_⟩:=hok;intro C I L tm w hN hs;have hcl:xw ops (Array.replicate ops.size false):=⟨by simp,λj o hj hl=>by
  rcases Nat.lt_or_ge j ops.size with h|h
  ·simp[h] at hl
  ·simp[h] at hl⟩
 have akY:=xx (N:=N) hA l os _ env H hcl h1 h2 hD hw;rw[hlen] at akY;have hs':fV C env H I L tm { w with drawn:=w.drawn+1 }:=(Fr.drew C I L H w) env tm hs;exact qz (by rw[hN];exact hd) (λenv' H' I' L' tm' w' hk aAb=>⟨rfl,rfl,env',H',I',L',hk,aAb⟩) ops.size _ env H I L tm _ akY hs'
end Go.bP
