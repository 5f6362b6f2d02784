/- Joined texts, part 2: lemmas for the statement. No condition. -/
import Derived.Test.YtllicmcihlfajaaGreatJ1
set_option maxHeartbeats 4000000
set_option linter.unusedSimpArgs false
set_option linter.unusedVariables false
open Nat (reduceEqDiff reduceLT reduceLeDiff reduceMul reduceAdd reduceSub)
namespace Go.cE
open Go.RowKit
variable {P:Program} {I:Mem} {L:bt}
inductive RV where
 | p (x:PV)
 | row (e:TypeId) (sz:Nat) (es:List (List PV))
 | deep (e:TypeId) (sz k:Nat) (e':TypeId) (sz':Nat) (es:List (List PV))
 | agg (rs:List RV)
 | dB (rs:List RV)
instance:Inhabited RV:=⟨.p default⟩
theorem yb {w:World} {B:Nat} {e:TypeId} {sz:Nat} {bD:Value} {n:Nat} {us:List Value} (h:w.ownsRow B e sz bD n us) {b:Nat} (hb:bD.ownBlock=some b):B<=b:=by
 rcases h.2 with ⟨rfl,_⟩ | ⟨g,cap,cur,rfl,h1,h2,_⟩
 ·cases hb
 ·have:g=b:=by simpa[Value.ownBlock] using hb
  subst this; exact h1
theorem abp {w:World} {base base':Nat} {e:TypeId} {size:Nat} {v:Value} {n:Nat} {xs:List Value} (h:w.ownsRow base e size v n xs) (hb:base'<=base):w.ownsRow base' e size v n xs:=by
 refine⟨h.1,?_⟩; rcases h.2 with h | ⟨g,cap,cur,h1,h2,h3⟩
 ·exact .inl h
 ·exact .inr ⟨g,cap,cur,h1,Nat.le_trans hb h2,h3⟩
inductive vX (w:World) (B:Nat) (I:Mem):Value->RV->List Nat->Prop
 | p (u:Value) (x:PV) (h:VR I u x):vX w B I u (.p x) []
 | row (bD:Value) (e:TypeId) (sz:Nat) (es:List (List PV)) (us:List Value) (h:qV w B I bD e sz es us) (h1:bD.oneCell'=true):vX w B I bD (.row e sz es) bD.ownBlock.toList
 | deep (bD : Value) (e : TypeId) (sz k : Nat) (e' : TypeId) (sz' : Nat) (es : List (List PV)) (us : List Value) (cT : Nat → Value) (h : qV w B I bD e sz (eT k cT es) us) (h1 : bD.oneCell' = true) (hk : k < sz) (hall : ∀ x ∈ es, x.length = sz)
   (hin:ath w B I k e' sz' cT es) (hap:aea bD cT es.length):vX w B I bD (.deep e sz k e' sz' es) (xQ bD cT es.length)
 | agg (us : List Value) (rs : List RV) (bs : List (List Nat)) (hl : us.length = rs.length) (hl' : us.length = bs.length)
   (hv:∀ (j:Nat) u r b,us[j]? = some u->rs[j]? = some r->bs[j]? = some b->vX w B I u r b) (hone:∀u∈us,u.oneCell'=true):vX w B I (.agg us.toArray) (.agg rs) bs.flatten
 | dB (us : List Value) (rs : List RV) (bs : List (List Nat)) (hl : us.length = rs.length) (hl' : us.length = bs.length)
   (hv:∀ (j:Nat) u r b,us[j]? = some u->rs[j]? = some r->bs[j]? = some b->vX w B I u r b):vX w B I (.tuple us.toArray) (.dB rs) bs.flatten
def bu (P:Program) (f:FuncId) (args:List PV) (Q:RV->Prop):Prop :=
 gL P f=true/\∀ (I:Mem) (w:World) (vs:List Value),I.zy w->VRs I vs args ->
  Calls P f vs.toArray w λe w'=>∃v r bs I',e = .returned v/\Q r/\vX w' w.heap.size I' v r bs/\bs.Nodup/\(∀b∈bs,w.heap.size<=b/\b<w'.heap.size) /\
   Below w.heap.size w w'/\I.sub I'/\I'.zy w'/\∀b,b<w.heap.size->∀o,I' b o=I b o
theorem bu.mono {f:FuncId} {args:List PV} {Q Q':RV->Prop} (h:bu P f args Q) (hq:∀r,Q r->Q' r):bu P f args Q':=⟨h.1,λI w vs hI hv=>(h.2 I w vs hI hv).mono λ_ _ ⟨v,r,bs,I',h1,h2,h3⟩=>⟨v,r,bs,I',h1,hq r h2,h3⟩⟩
mutual
def cF (k:Nat):RV->AV×Nat
 | .p x=>(.p x,k)
 | .row _ _ _=>(.row k 0,k+1)
 | .deep _ _ _ _ _ _=>(.eC k 0,k+1)
 | .agg rs=>(w6 (iX k rs).1,(iX k rs).2)
 | .dB rs=>(.dB (iX k rs).1,(iX k rs).2)
def iX (k:Nat):List RV->List AV×Nat
 | []=>([],k)
 | r :: rs=>((cF k r).1 :: (iX (cF k r).2 rs).1,(iX (cF k r).2 rs).2)
end
mutual
def fR (k:Nat) (H:ay):RV->ay
 | .p _=>H
 | .row e sz es=>bl H k (.row 0 e sz es)
 | .deep e sz j e' sz' es=>bl H k (.deep 0 e sz j e' sz' es)
 | .agg rs=>kz k H rs
 | .dB rs=>kz k H rs
def kz (k:Nat) (H:ay):List RV->ay
 | []=>H
 | r :: rs=>kz (cF k r).2 (fR k H r) rs
end
theorem gE.add {C:Ctx} {env:Env} {H:ay} {tm:Array Value} {w:World} (h:gE C env H I L tm w) {id:Nat} (hid:H id=none) (l:Loc) (ch:Chunk)
  (hch:pF I (b6 L id l) w C.B id ch) (hl:∀b,l.has b->C.B<=b/\b<w.heap.size/\(∀i li,L i=some li->¬ li.has b)/\(C.w0.heap.size<=b\/C.alG b)):gE C env (bl H id ch) I (b6 L id l) tm w:=by
 have hL:=h.qW hid; have hle:=dx.sW hL l; exact
 {h with
  env:=λt=>(h.env t).mono (Mem.dR I) hle
  dom:=λi li hi=>by
   by_cases e:i=id
   ·exact⟨ch,by simp[bl,e]⟩
   ·obtain⟨c,hc⟩:=h.dom i li (by simpa[b6,e] using hi); exact⟨c,by simpa[bl,e] using hc⟩
  chunk:=λi c hc=>by
   by_cases e:i=id
   ·subst e; have:ch=c:=by simpa[bl] using hc
    subst this; exact hch
   ·exact (h.chunk i c (by simpa[bl,e] using hc)).keep (Mem.dR I) hle (by simp[b6,e]) λ_ _ _ _=>⟨rfl,λ_=>rfl⟩
  loc:=h.loc.trans hle
  jc:=λi li b hi hlb=>by
   by_cases e:i=id
   ·subst e; have:l=li:=by simpa[b6] using hi
    subst this; exact (hl b hlb).2.2.2
   ·exact h.jc i li b (by simpa[b6,e] using hi) hlb
  fe:=λi li b hi hlb=>by
   by_cases e:i=id
   ·subst e; have:l=li:=by simpa[b6] using hi
    subst this; exact⟨(hl b hlb).1,(hl b hlb).2.1⟩
   ·exact h.fe i li b (by simpa[b6,e] using hi) hlb
  apart:=λi j li lj b hi hj qt tS=>by
   by_cases ei:i=id<;>by_cases ej:j=id
   ·rw[ei,ej]
   ·subst ei; have:l=li:=by simpa[b6] using hi
    subst this; exact absurd tS ((hl b qt).2.2.1 j lj (by simpa[b6,ej] using hj))
   ·subst ej; have:l=lj:=by simpa[b6] using hj
    subst this; exact absurd qt ((hl b tS).2.2.1 i li (by simpa[b6,ei] using hi))
   ·exact h.apart i j li lj b (by simpa[b6,ei] using hi) (by simpa[b6,ej] using hj) qt tS }
def aty (C:Ctx) (env:Env) (tm:Array Value) (w:World) (I:Mem) (L:bt) (H':ay) (bs:List Nat) (R:bt->Prop):Prop:=∃L',gE C env H' I L' tm w/\dx L L'/\(∀id l b,L' id=some l->l.has b->(L id=some l)\/b∈bs)/\R L'
theorem yc:(∀ (r:RV) (k:Nat),k<=(cF k r).2):=by
 intro r; refine RV.rec (motive_1:=λr=>∀k,k<=(cF k r).2) (motive_2:=λrs=>∀k,k<=(iX k rs).2) ?_ ?_ ?_ ?_ ?_ ?_ ?_ r
 ·intro x k; exact Nat.le_refl _
 ·intro e sz es k; exact Nat.le_succ _
 ·intro e sz j e' sz' es k; exact Nat.le_succ _
 ·intro rs ih k; exact ih k
 ·intro rs ih k; exact ih k
 ·intro k; exact Nat.le_refl _
 ·intro r rs ih1 ih2 k; exact Nat.le_trans (ih1 k) (ih2 _)
theorem acu (rs:List RV):∀k:Nat,k<=(iX k rs).2:=by
 induction rs with
 | nil=>intro k; exact Nat.le_refl _
 | cons r rs ih=>intro k; exact Nat.le_trans (yc r k) (ih _)
theorem aax:∀ (r:RV) (k:Nat) (H:ay) (i:Nat),(i<k\/(cF k r).2<=i)->fR k H r i=H i:=by
 intro r; refine RV.rec (motive_1:=λr=>∀k (H:ay) i,(i<k\/(cF k r).2<=i)->fR k H r i=H i) (motive_2:=λrs=>∀k (H:ay) i,(i<k\/(iX k rs).2<=i)->kz k H rs i=H i) ?_ ?_ ?_ ?_ ?_ ?_ ?_ r
 ·intro x k H i _; rfl
 ·intro e sz es k H i hi; show bl H k _ i=H i; unfold bl; rw[if_neg]; rintro rfl; rcases hi with h | h
  ·exact Nat.lt_irrefl _ h
  ·exact Nat.lt_irrefl _ h
 ·intro e sz j e' sz' es k H i hi; show bl H k _ i=H i; unfold bl; rw[if_neg]; rintro rfl; rcases hi with h | h
  ·exact Nat.lt_irrefl _ h
  ·exact Nat.lt_irrefl _ h
 ·intro rs ih k H i hi; exact ih k H i hi
 ·intro rs ih k H i hi; exact ih k H i hi
 ·intro k H i _; rfl
 ·intro r rs ih1 ih2 k H i hi; show kz _ (fR k H r) rs i=H i; have h1:=yc r k; have h2:=acu rs (cF k r).2; have hi':i<k\/(iX (cF k r).2 rs).2<=i:=hi; rw[ih2 _ _ i (by omega),ih1 k H i (by omega)]
section
variable {C:Ctx} {env:Env} {tm:Array Value} {w:World} {B:Nat}
def aoL (C:Ctx) (env:Env) (tm:Array Value) (w:World) (B:Nat) (I:Mem) (r:RV):Prop :=
 ∀ (k:Nat) (H:ay) (L:bt) (u:Value) (bs:List Nat),gE C env H I L tm w->vX w B I u r bs->C.w0.heap.size<=B->bs.Nodup->(∀b∈bs,B<=b/\b<w.heap.size) ->
  (∀b∈bs,∀i li,L i=some li->¬ li.has b)->(∀i,k<=i->i<(cF k r).2->H i=none)->aty C env tm w I L (fR k H r) bs λL'=>dU I L' u (cF k r).1
def atz (C:Ctx) (env:Env) (tm:Array Value) (w:World) (B:Nat) (I:Mem) (rs:List RV):Prop :=
 ∀ (k:Nat) (H:ay) (L:bt) (us:List Value) (bs:List (List Nat)),gE C env H I L tm w->us.length=rs.length->us.length=bs.length ->
  (∀ (j:Nat) u r b,us[j]? = some u->rs[j]? = some r->bs[j]? = some b->vX w B I u r b)->C.w0.heap.size<=B->bs.flatten.Nodup->(∀b∈bs.flatten,B<=b/\b<w.heap.size) ->
  (∀b∈bs.flatten,∀i li,L i=some li->¬ li.has b)->(∀i,k<=i->i<(iX k rs).2->H i=none)->aty C env tm w I L (kz k H rs) bs.flatten λL'=>nZ I L' us (iX k rs).1
theorem atA (r:RV):aoL C env tm w B I r:=by
 refine RV.rec (motive_1:=aoL C env tm w B I) (motive_2:=atz C env tm w B I) ?_ ?_ ?_ ?_ ?_ ?_ ?_ r
 ·intro x k H L u bs hs hr _ _ _ _ _; cases hr with
  | p _ _ h=>exact⟨L,hs,dx.refl L,λid l b hl _=>.inl hl,.p _ _ h⟩
 ·intro e sz es k H L u bs hs hr hB hnd hbs hap hfr; cases hr with
  | row _ _ _ _ us h h1 =>
   have hk:H k=none:=hfr k (Nat.le_refl _) (Nat.lt_succ_self _); refine⟨b6 L k (.row 0 u sz),hs.add hk _ _ ?_ ?_,dx.sW (hs.qW hk) _,?_,.row _ _ _ 0 u sz (by simp[b6]) (Nat.le_refl _) (λ_=>rfl) h1⟩
   ·exact⟨u,us,by simp[b6],abp h.own (Nat.le_trans C.hB hB),h.pos,h.all,h.val,h.one,h.free⟩
   ·intro b hb; have hm:b∈u.ownBlock.toList:=by have:u.ownBlock=some b:=hb; simp[this]
    exact⟨Nat.le_trans (Nat.le_trans C.hB hB) (hbs b hm).1,(hbs b hm).2,hap b hm,.inl (Nat.le_trans hB (hbs b hm).1)⟩
   ·intro id l b hl hb; by_cases e:id=k
    ·subst e; have:Loc.row 0 u sz=l:=by simpa[b6] using hl
     subst this; right; have:u.ownBlock=some b:=hb; simp[this]
    ·exact .inl (by simpa[b6,e] using hl)
 ·intro e sz j e' sz' es k H L u bs hs hr hB hnd hbs hap hfr; cases hr with
  | deep _ _ _ _ _ _ _ us cT h h1 hk hall hin aED =>
   have hkn:H k=none:=hfr k (Nat.le_refl _) (Nat.lt_succ_self _); have aBj:C.B<=B:=Nat.le_trans C.hB hB; have low:∀ {v:Value} {e:TypeId} {sz:Nat} {es:List (List PV)} {us:List Value},qV w B I v e sz es us->qV w C.B I v e sz es us:=λh=>⟨abp h.own aBj,h.pos,h.all,h.val,h.one,h.free⟩
   refine⟨b6 L k (.deep 0 u sz sz' cT es.length),hs.add hkn _ _ ?_ ?_,dx.sW (hs.qW hkn) _,?_,.eC _ _ _ 0 u sz sz' cT es.length (by simp[b6]) (Nat.le_refl _) (λ_=>rfl) h1⟩
   ·exact⟨u,us,cT,by simp[b6],low h,h1,hk,hall,λi x hx=>by
     obtain⟨l,us',q1,q2,q3⟩:=hin i x hx; exact⟨l,us',q1,low q2,q3⟩,aED⟩
   ·intro b hb; have hm:b∈xQ u cT es.length:=aan.2 hb; exact⟨Nat.le_trans aBj (hbs b hm).1,(hbs b hm).2,hap b hm,.inl (Nat.le_trans hB (hbs b hm).1)⟩
   ·intro id l b hl hb; by_cases e:id=k
    ·subst e; have:Loc.deep 0 u sz sz' cT es.length=l:=by simpa[b6] using hl
     subst this; exact .inr (aan.2 hb)
    ·exact .inl (by simpa[b6,e] using hl)
 ·intro rs ih k H L u bs hs hr hB hnd hbs hap hfr; cases hr with
  | agg us _ bs hl hl' hv hone=>obtain⟨L',h1,h2,h3,h4⟩:=ih k H L us bs hs hl hl' hv hB hnd hbs hap hfr; exact⟨L',h1,h2,h3,ue h4.1 h4.2 hone⟩
 ·intro rs ih k H L u bs hs hr hB hnd hbs hap hfr; cases hr with
  | dB us _ bs hl hl' hv=>obtain⟨L',h1,h2,h3,h4⟩:=ih k H L us bs hs hl hl' hv hB hnd hbs hap hfr; exact⟨L',h1,h2,h3,.dB us _ h4.1 h4.2⟩
 ·intro k H L us bs hs hl hl' _ _ _ _ _ _; have:us=[]:=by simpa using hl
  subst this; exact⟨L,hs,dx.refl L,λid l b hl _=>.inl hl,rfl,by simp⟩
 ·intro r rs ih1 ih2 k H L us bs hs hl hl' hv hB hnd hbs hap hfr; cases us with
  | nil=>simp at hl
  | cons u us =>
   cases bs with
   | nil=>simp at hl'
   | cons b bs =>
    simp only[List.flatten_cons,List.nodup_append,List.mem_append] at hnd hbs hap; obtain⟨L1,a1,a2,a3,a4⟩:=ih1 k H L u b hs (hv 0 u r b rfl rfl rfl) hB hnd.1 (λx hx=>hbs x (.inl hx)) (λx hx=>hap x (.inl hx)) (λi h1 h2=>hfr i h1 (Nat.lt_of_lt_of_le h2 (acu rs _))); obtain⟨L2,b1,b2,b3,b4⟩:=ih2 (cF k r).2 (fR k H r) L1 us bs a1 (by simpa using hl) (by simpa using hl') (λj u r b hu hr hb=>hv (j+1) u r b hu hr hb) hB hnd.2.1 (λx hx=>hbs x (.inr hx)) (λx hx i li hi hli=>by
     rcases a3 i li x hi hli with h | h
     ·exact hap x (.inr hx) i li h hli
     ·exact hnd.2.2 x h x hx rfl) (λi h1 h2=>by
      rw[aax r k H i (.inr h1)]; exact hfr i (Nat.le_trans (yc r k) h1) h2)
    refine⟨L2,b1,λid=>?_,λid l x hl hx=>?_,by simp[iX,b4.1],λj v a vh ha=>?_⟩
    ·exact (a2.trans b2) id
    ·rcases b3 id l x hl hx with h | h
     ·rcases a3 id l x h hx with h | h
      ·exact .inl h
      ·exact .inr (by simp[h])
     ·exact .inr (by
       rw[List.flatten_cons]; exact List.mem_append_right _ h)
    ·cases j with
     | zero =>
      simp at vh ha; subst vh; have ha':(cF k r).1=a:=by simpa[iX] using ha
      rw[<-ha']; exact a4.mono (Mem.dR I) b2
     | succ j=>exact b4.2 j v a (by simpa using vh) (by simpa[iX] using ha)
end
mutual
def RV.flat:RV->Bool
 | .p x=>x.scalar
 | .row _ _ es=>es.all λx=>x.all isVal
 | .deep _ _ _ _ _ _=>false
 | .agg rs=>RV.zZ rs
 | .dB rs=>RV.zZ rs
def RV.zZ:List RV->Bool
 | []=>true
 | r :: rs=>r.flat&&RV.zZ rs
end
theorem qV.flat {w:World} {B:Nat} {J:Mem} {bD:Value} {e:TypeId} {sz:Nat} {es:List (List PV)} {us:List Value} (h:qV w B J bD e sz es us) (hf:(es.all λx=>x.all isVal)=true) (hI:∀b,bD.ownBlock=some b->∀o,I b o=none) :
  qV w B I bD e sz es us :=
 {h with
  val:=λj u c hu hc=>(h.val j u c hu hc).isVal (by
   have hm:=List.mem_of_getElem? hc; obtain⟨x,hx,hcx⟩:=List.mem_flatten.1 hm; exact List.all_eq_true.1 (List.all_eq_true.1 hf x hx) c hcx)
  free:=hI }
theorem vX.flat {w:World} {B:Nat} {J:Mem} {u:Value} {r:RV} {bs:List Nat} (h:vX w B J u r bs):r.flat=true->(∀b∈bs,∀o,I b o=none)->vX w B I u r bs:=by
 induction h with
 | p u x h=>exact λhf _=>.p _ _ (h.scalar hf)
 | row bD e sz es us h h1=>intro hf hI; exact .row bD e sz es us (h.flat hf λb hb=>hI b (by simp[hb])) h1
 | deep=>intro hf; cases hf
 | agg us rs bs hl hl' hv hone ih =>
  intro hf hI; have hall:∀rs:List RV,RV.zZ rs=true->∀r∈rs,r.flat=true:=by
   intro rs
   induction rs with
   | nil=>intro _ r hr; cases hr
   | cons a r ih =>
    intro h x hx; simp only[RV.zZ,Bool.and_eq_true] at h; rcases List.mem_cons.1 hx with rfl | hx
    ·exact h.1
    ·exact ih h.2 x hx
  exact .agg us rs bs hl hl' (λj u r b hu hr hb=>ih j u r b hu hr hb (hall rs hf r (List.mem_of_getElem? hr)) λx hx=>hI x (List.mem_flatten.2 ⟨b,List.mem_of_getElem? hb,hx⟩)) hone
 | dB us rs bs hl hl' hv ih =>
  intro hf hI; have hall:∀rs:List RV,RV.zZ rs=true->∀r∈rs,r.flat=true:=by
   intro rs
   induction rs with
   | nil=>intro _ r hr; cases hr
   | cons a r ih =>
    intro h x hx; simp only[RV.zZ,Bool.and_eq_true] at h; rcases List.mem_cons.1 hx with rfl | hx
    ·exact h.1
    ·exact ih h.2 x hx
  exact .dB us rs bs hl hl' (λj u r b hu hr hb=>ih j u r b hu hr hb (hall rs hf r (List.mem_of_getElem? hr)) λx hx=>hI x (List.mem_flatten.2 ⟨b,List.mem_of_getElem? hb,hx⟩))
def atB (P:Program) (o:Oper) (ρ:Operand->AV) (H:ay) (Kr:AV->ay->Prop):Prop :=
 ∃k en ps b Q,∃id:Nat,di o ρ=some (k,en)/\dS (fZ H) en=some (ps,b)/\bu P k ps Q /\
  ∀r,Q r->(b=true->r.flat=true)/\(∀i,id<=i->i<(cF id r).2->H i=none)/\Kr (cF id r).1 (fR id H r)
theorem ahL {o:Oper} {ρ:Operand->AV} {H:ay} {Kr:AV->ay->Prop} (h:atB P o ρ H Kr) {C:Ctx} {env:Env} {tm:Array Value} {w:World} (hs:gE C env H I L tm w) {σ:Operand->Value} (hσ:∀x,dU I L (σ x) (ρ x)) :
  ∃k args,(execOp σ o).run P w = .ok (.enter k args) w/\Calls P k args w λe w'=>∃v I' L' a H',e = .returned v/\Kr a H'/\dU I' L' v a/\gE C env H' I' L' tm w':=by
 obtain⟨k,en,ps,b,Q,id,h1,h2,h3,h4⟩:=h; obtain⟨us,hr,hu⟩:=pH h1 h3.1 hσ w; refine⟨k,_,hr,?_⟩
 have fin : ∀ {I' : Mem} {w' : World} {v : Value} {r : RV} {bs : List Nat}, gE C env H I' L tm w' → vX w' w.heap.size I' v r bs → bs.Nodup → (∀ b ∈ bs, w.heap.size ≤ b ∧ b < w'.heap.size) → (∀ i, id ≤ i → i < (cF id r).2 → H i = none) →
   ∃L',gE C env (fR id H r) I' L' tm w'/\dU I' L' v (cF id r).1:=by
  intro I' w' v r bs hs' hrv hnd hbs hfr; obtain⟨L',k1,_,_,k4⟩:=atA r id H L v bs hs' hrv hs.below.size hnd hbs (λb hb i li hi hli=>by
   have h1:=(hs.fe i li b hi hli).2; have h2:=(hbs b hb).1; omega) hfr
  exact⟨L',k1,k4⟩
 cases b with
 | false =>
  obtain⟨k1,_,k3⟩:=jS (oh hs (sK H) (lq hs.mem) ((qu L w).g H)) en ps false h2 us hu.1 hu.2; refine (h3.2 I w us hs.mem ⟨k1,k3 rfl⟩).mono λe w' ⟨v,r,bs,I',q1,q2,q3,q4,q5,q6,q7,q8,q9⟩=>?_
  obtain⟨_,m2,m3⟩:=h4 r q2; obtain⟨L',n1,n2⟩:=fin (hs.grow q6 q7 q8 q9) q3 q4 q5 m2; exact⟨v,I',L',_,_,q1,m3,n2,n1⟩
 | true =>
  obtain⟨k1,k2,_⟩:=jS (oh hs (sK H) (lq hs.mem) ((qu L w).g H)) en ps true h2 us hu.1 hu.2; refine (h3.2 (snap w) w us (aeg w) ⟨k1,k2⟩).mono λe w' ⟨v,r,bs,I',q1,q2,q3,q4,q5,q6,q7,q8,q9⟩=>?_
  obtain⟨m1,m2,m3⟩:=h4 r q2; have hfree:∀b∈bs,∀o,I b o=none:=λb hb o=>by
   cases hI:I b o with
   | none=>rfl
   | some u=>exact absurd (hs.mem.lt hI) (by have:=(q5 b hb).1; omega)
  obtain⟨L',n1,n2⟩:=fin (hs.world (q6.mono hs.leB) λb hb=>q6.block b hb) (q3.flat (m1 rfl) hfree) q4 q5 m2; exact⟨v,I,L',_,_,q1,m3,n2,n1⟩
mutual
def RV.pv:RV->PV
 | .p x=>x
 | .row _ _ es=>.aU es
 | .deep _ _ _ _ _ es=>.aU es
 | .agg rs=>.agg (RV.pvL rs)
 | .dB rs=>.dB (RV.pvL rs)
def RV.pvL:List RV->List PV
 | []=>[]
 | r :: rs=>r.pv :: RV.pvL rs
end
theorem RV.ahM:∀ (rs:List RV) (j:Nat) (c:PV),(RV.pvL rs)[j]? = some c->∃r,rs[j]? = some r/\r.pv=c
 | [],j,c,h=>by simp[RV.pvL] at h
 | r :: rs,j,c,h=>by
  cases j with
  | zero=>simp[RV.pvL] at h; exact⟨r,rfl,h⟩
  | succ j=>obtain⟨r',h1,h2⟩:=RV.ahM rs j c (by simpa[RV.pvL] using h); exact⟨r',by simpa using h1,h2⟩
theorem RV.ahN:∀ (rs:List RV),(RV.pvL rs).length=rs.length
 | []=>rfl
 | r :: rs=>by simp[RV.pvL,RV.ahN rs]
theorem vX.pv {w:World} {B:Nat} {J:Mem} {u:Value} {r:RV} {bs:List Nat} (h:vX w B J u r bs):∀ {K:Mem},J.sub K->(∀b,B<=b->∀o u,w.cell? ⟨b,o,none⟩=some u->K b o=some u)->VR K u r.pv:=by
 induction h with
 | p u x h=>exact λhK _=>h.mono hK
 | row bD e sz es us h h1 =>
  intro K hK acv; show VR K bD (.aU es); have hfl:=bC h.all; have hlen:us.length=es.flatten.length:=by rw[hfl]; exact h.own.1
  rcases h.own.2 with ⟨rfl,hn⟩ | ⟨g,cap,cur,rfl,hb,hg,hnc,hcm,hcs,kN⟩
  ·have he:es=[]:=List.length_eq_zero_iff.1 hn; subst he; exact .aU none 0 0 [] us sz rfl (by simp) hlen (λj u c hu hc=>(h.val j u c hu hc).mono hK) h.one (.inl (List.length_eq_zero_iff.1 (by simpa using hlen))) (λ_=>⟨rfl,rfl⟩) (Nat.le_refl _)
  ·refine .aU _ _ _ es us sz rfl h.all hlen (λj u c hu hc=>(h.val j u c hu hc).mono hK) h.one (.inr ⟨g,0,rfl,λj u hu=>?_⟩) (by simp) hnc; rw[Nat.zero_add]; refine acv g hb j u ?_; rw[fG hg]; rw[<-kN,List.getElem?_take] at hu; split at hu
   ·simpa using hu
   ·cases hu
 | deep bD e sz k e' sz' es us cT h h1 hk hall hin hap =>
  intro K hK acv; exact aoI h hall hin hK λb hb=>acv b (by
   rcases hb with hb | ⟨i,hi,hb⟩
   ·exact (yb h.own hb)
   ·obtain⟨l,us',q1,q2,q3⟩:=hin i _ (List.getElem?_eq_getElem hi); exact yb q2.own hb)
 | agg us rs bs hl hl' hv hone ih =>
  intro K hK acv; show VR K (.agg us.toArray) (.agg (RV.pvL rs)); refine .agg us _ (by rw[RV.ahN]; exact hl) (λj u c hu hc=>?_) hone; obtain⟨r,h1,rfl⟩:=RV.ahM rs j c hc; obtain⟨b,hb⟩:∃b,bs[j]? = some b:=by have hj:j<us.length:=(List.getElem?_eq_some_iff.1 hu).1; exact⟨bs[j]'(by omega),by simp[hl' ▸ hj]⟩
  exact ih j u r b hu h1 hb hK acv
 | dB us rs bs hl hl' hv ih =>
  intro K hK acv; show VR K (.tuple us.toArray) (.dB (RV.pvL rs)); refine .dB us _ (by rw[RV.ahN]; exact hl) (λj u c hu hc=>?_); obtain⟨r,h1,rfl⟩:=RV.ahM rs j c hc; obtain⟨b,hb⟩:∃b,bs[j]? = some b:=by have hj:j<us.length:=(List.getElem?_eq_some_iff.1 hu).1; exact⟨bs[j]'(by omega),by simp[hl' ▸ hj]⟩
  exact ih j u r b hu h1 hb hK acv
def Mem.apK (I:Mem) (B:Nat) (w:World):Mem:=λb o=>if b<B then I b o else w.cell? ⟨b,o,none⟩
theorem bu.toV {f:FuncId} {args:List PV} {Q:RV->Prop} (h:bu P f args Q):aS P f args λx=>∃r,Q r/\x=r.pv :=
 ⟨h.1,λI w vs hI hv=>(h.2 I w vs hI hv).mono λe w' ⟨v,r,bs,I',q1,q2,q3,q4,q5,q6,q7,q8,q9⟩=>by
  have hsub:I'.sub (I'.apK w.heap.size w'):=λb o u hu=>by
   unfold Mem.apK; split
   ·exact hu
   ·exact q8 b o u hu
  refine⟨v,r.pv,I'.apK w.heap.size w',q1,⟨r,q2,rfl⟩,q3.pv hsub (λb hb o u hu=>?_),q6,Mem.lg q7 hsub,λb o u hu=>?_,λb hb o=>?_⟩
  ·unfold Mem.apK; rw[if_neg (by omega)]; exact hu
  ·unfold Mem.apK at hu; split at hu
   ·exact q8 b o u hu
   ·exact hu
  ·unfold Mem.apK; rw[if_pos hb]; exact q9 b hb o⟩
theorem bu.aAi {f:FuncId} {args:List PV} {r0:RV} (h:bu P f args λr=>r=r0):aS P f args λx=>x=r0.pv:=h.toV.mono λx ⟨r,h1,h2⟩=>by rw[h2,h1]
end Go.cE
namespace Go.cE
open Go.RowKit
variable {P:Program} {I:Mem} {L:bt}
def Ctx.atC (w:World) (I:Mem) (n B v sz:Nat) (bD:Value) (hB:B<=w.heap.size):Ctx :=
 ⟨w,I,n,B,λb=>bD.ownBlock=some b,λi=>if i=1000000 then some (.row v bD sz) else none,hB,λi l h=>by
  split at h
  ·omega
  ·cases h⟩
def j5 (P:Program) (f:FuncId) (v:Nat) (e:TypeId) (sz:Nat) (es:List (List PV)) (ps:List PV) (Q:AV->Option Chunk->Prop):Prop :=
 gL P f=true/\∀ (B:Nat) (I:Mem) (w:World) (bD:Value) (us vs:List Value) (hB:B<=w.heap.size),I.zy w->qV w B I bD e sz es us->bD.oneCell'=true->VRs I vs ps ->
  Calls P f (bD :: vs).toArray w λx w'=>∃u a H' I' L',x = .returned u/\Q a (H' 1000000)/\dU I' L' u a/\gE (Ctx.atC w I 0 B v sz bD hB) fA H' I' L' #[] w'
theorem j5.mono {f:FuncId} {v:Nat} {e:TypeId} {sz:Nat} {es:List (List PV)} {ps:List PV} {Q Q':AV->Option Chunk->Prop} (h:j5 P f v e sz es ps Q) (hq:∀a c,Q a c->Q' a c):j5 P f v e sz es ps Q':=⟨h.1,λB I w bD us vs hB hI hr h1 hv=>(h.2 B I w bD us vs hB hI hr h1 hv).mono λ_ _ ⟨u,a,H',I',L',q1,q2,q3⟩=>⟨u,a,H',I',L',q1,hq _ _ q2,q3⟩⟩
def aoM (id:Nat):AV->Option AV
 | .p x=>some (.p x)
 | .row i v=>if i=1000000 then some (.row id v) else none
 | .dB []=>some (.dB [])
 | _=>none
theorem uM {w:World} {B:Nat} {e:TypeId} {sz:Nat} {bD:Value} {n:Nat} {us:List Value} (h:w.ownsRow B e sz bD n us) {b:Nat} (hb:bD.ownBlock=some b):B<=b/\b<w.heap.size:=by
 rcases h.2 with ⟨rfl,_⟩ | ⟨g,cap,cur,rfl,h1,h2,_⟩
 ·cases hb
 ·have:g=b:=by simpa[Value.ownBlock] using hb
  subst this; refine⟨h1,?_⟩; rcases Nat.lt_or_ge g w.heap.size with h | h
  ·exact h
  ·simp[Array.getElem?_eq_none h] at h2
section
variable {C:Ctx} {env:Env} {H H':ay} {tm:Array Value} {w w':World} {id v sz:Nat} {e:TypeId} {es:List (List PV)} {bD:Value} {J I':Mem} {L':bt}
theorem gE.back (h:gE C env H I L tm w) (hid:H id=some (.row v e sz es)) (hl:L id=some (.row v bD sz)) (hJ:I.sub J) (hJn:∀b,bD.ownBlock=some b->∀o,J b o=none)
  (hs':gE (Ctx.atC w J 0 C.B v sz bD h.leB) fA H' I' L' #[] w') {v':Nat} {e':TypeId} {sz':Nat} {es':List (List PV)} (hch:H' 1000000=some (.row v' e' sz' es'))
  {K:Mem} (hK:(J=I/\K=I')\/(K=I/\(es'.all λx=>x.all isVal)=true)) :
  ∃eA,L' 1000000=some (.row v' eA sz')/\gE C env (bl H id (.row v' e' sz' es')) K (b6 L id (.row v' eA sz')) tm w'/\dx L (b6 L id (.row v' eA sz')):=by
 obtain⟨eA,us',k1,k2,k3,k4,k5,k6,k7⟩:=hs'.chunk 1000000 _ hch; have ai5:dx L (b6 L id (.row v' eA sz')):=λi=>by
  by_cases hi:i=id
  ·subst hi; rw[hl]; have:=hs'.loc 1000000; simp only[Ctx.atC,if_true,k1] at this; obtain⟨v1,js,m1,m2,m3⟩:=this; simp only[Option.some.injEq,Loc.row.injEq] at m1; obtain⟨rfl,rfl,rfl⟩:=m1; exact⟨v',eA,by simp[b6],m2,m3⟩
  ·have:b6 L id (.row v' eA sz') i=L i:=by simp[b6,hi]
   rw[this]; exact dx.refl L i
 have hown:∀b,bD.ownBlock=some b->C.w0.heap.size<=b\/C.alG b:=λb hb=>h.jc id _ b hl hb
 have hfr:∀b,b<w.heap.size->bD.ownBlock≠some b->w'.heap[b]? = w.heap[b]?:=λb hb hn=>hs'.frame b hb hn
 have hIn:∀b o,b<w.heap.size->bD.ownBlock≠some b->I' b o=J b o:=λb o hb hn=>hs'.lp b hb hn o
 have atD:∀b,bD.ownBlock=some b->∀o,I b o=none:=λb hb o=>by
  cases hI:I b o with
  | none=>rfl
  | some u=>have:=hJ b o u hI; rw[hJn b hb o] at this; cases this
 have atE:I.sub K:=by
  rcases hK with ⟨e1,e2⟩ | ⟨e1,_⟩
  ·rw[e2]; exact Mem.lg hJ hs'.ku
  ·rw[e1]; exact Mem.dR I
 have hKn:∀b o,b<w.heap.size->bD.ownBlock≠some b->K b o=I b o:=λb o hb hn=>by
  rcases hK with ⟨e1,e2⟩ | ⟨e1,_⟩
  ·rw[e2,hIn b o hb hn,e1]
  ·rw[e1]
 have hKw:K.zy w':=by
  rcases hK with ⟨_,e2⟩ | ⟨e1,_⟩
  ·rw[e2]; exact hs'.mem
  ·rw[e1]; exact h.mem.keep λb ⟨o,u,hu⟩=>hfr b (h.mem.lt hu) λhb=>by rw[atD b hb o] at hu; cases hu
 have hblk:∀b,eA.ownBlock=some b->bD.ownBlock=some b\/w.heap.size<=b:=λb hb=>(hs'.jc 1000000 _ b k1 hb).symm
 refine⟨eA,k1,?_,ai5⟩; exact
 {below:=h.below.trans hs'.below
  mem:=hKw
  ku:=Mem.lg h.ku atE
  lp:=λb hb hf o=>by
   have hn:bD.ownBlock≠some b:=λhb'=>by
    rcases hown b hb' with h1 | h1
    ·omega
    ·exact hf h1
   rw[hKn b o (Nat.lt_of_lt_of_le hb h.below.size) hn]; exact h.lp b hb hf o
  frame:=λb hb hf=>by
   have hn:bD.ownBlock≠some b:=λhb'=>by
    rcases hown b hb' with h1 | h1
    ·omega
    ·exact hf h1
   exact (hfr b (Nat.lt_of_lt_of_le hb h.below.size) hn).trans (h.frame b hb hf)
  loc:=h.loc.trans ai5
  jc:=λi li b hi hlb=>by
   by_cases ei:i=id
   ·subst ei; have:Loc.row v' eA sz'=li:=by simpa[b6] using hi
    subst this; rcases hblk b hlb with h1 | h1
    ·exact hown b h1
    ·exact .inl (Nat.le_trans h.below.size h1)
   ·exact h.jc i li b (by simpa[b6,ei] using hi) hlb
  size:=h.size
  env:=λt=>(h.env t).mono atE ai5
  dom:=λi li hi=>by
   by_cases ei:i=id
   ·exact⟨.row v' e' sz' es',by simp[bl,ei]⟩
   ·obtain⟨c,hc⟩:=h.dom i li (by simpa[b6,ei] using hi); exact⟨c,by simpa[bl,ei] using hc⟩
  chunk:=λi c hc=>by
   by_cases ei:i=id
   ·subst ei; have:Chunk.row v' e' sz' es'=c:=by simpa[bl] using hc
    subst this; refine⟨eA,us',by simp[b6],k2,k3,k4,λj u c hu hc=>?_,k6,λb hb o=>?_⟩
    ·rcases hK with ⟨_,e2⟩ | ⟨e1,aBk⟩
     ·rw[e2]; exact k5 j u c hu hc
     ·rw[e1]; refine (k5 j u c hu hc).isVal ?_; obtain⟨x,hx,hcx⟩:=List.mem_flatten.1 (List.mem_of_getElem? hc); exact List.all_eq_true.1 (List.all_eq_true.1 aBk x hx) c hcx
    ·rcases hK with ⟨_,e2⟩ | ⟨e1,_⟩
     ·rw[e2]; exact k7 b hb o
     ·rw[e1]; rcases hblk b hb with h1 | h1
      ·exact atD b h1 o
      ·cases hI:I b o with
       | none=>rfl
       | some u=>exact absurd (h.mem.lt hI) (by omega)
   ·refine (h.chunk i c (by simpa[bl,ei] using hc)).keep atE ai5 (by simp[b6,ei]) λli b hi hlb=>?_
    have hn:bD.ownBlock≠some b:=λhb'=>ei (h.apart i id li _ b hi hl hlb hb')
    have hlt:=(h.fe i li b hi hlb).2; exact⟨hfr b hlt hn,λo=>hKn b o hlt hn⟩
  fe:=λi li b hi hlb=>by
   by_cases ei:i=id
   ·subst ei; have:Loc.row v' eA sz'=li:=by simpa[b6] using hi
    subst this; exact hs'.fe 1000000 _ b k1 hlb
   ·have:=h.fe i li b (by simpa[b6,ei] using hi) hlb; exact⟨this.1,Nat.lt_of_lt_of_le this.2 hs'.below.size⟩
  apart:=λi j li lj b hi hj qt tS=>by
   have one:∀k lk,k≠id->L k=some lk->lk.has b->eA.ownBlock≠some b:=λk lk hk hlk hbk hb'=>by
    rcases hblk b hb' with h1 | h1
    ·exact hk (h.apart k id lk _ b hlk hl hbk h1)
    ·have:=(h.fe k lk b hlk hbk).2; omega
   by_cases ei:i=id<;>by_cases ej:j=id
   ·rw[ei,ej]
   ·subst ei; have:Loc.row v' eA sz'=li:=by simpa[b6] using hi
    subst this; exact absurd qt (one j lj ej (by simpa[b6,ej] using hj) tS)
   ·subst ej; have:Loc.row v' eA sz'=lj:=by simpa[b6] using hj
    subst this; exact absurd tS (one i li ei (by simpa[b6,ei] using hi) qt)
   ·exact h.apart i j li lj b (by simpa[b6,ei] using hi) (by simpa[b6,ej] using hj) qt tS }
end
def afN (H:ay) (id:Nat):ay:=λi=>if i=id then none else H i
theorem aem (H:ay) (id:Nat):HSub (afN H id) H:=λi c h=>by
 unfold afN at h; split at h
 ·cases h
 ·exact h
def sk (w:World) (r:Option Nat):Mem:=λb o=>if r=some b then none else w.cell? ⟨b,o,none⟩
def atF (P:Program) (o:Oper) (ρ:Operand->AV) (H:ay) (Kr:AV->ay->Prop):Prop :=
 ∃k id v e sz es en ps b Q,di o ρ=some (k,.row id v :: en)/\H id=some (.row v e sz es)/\dS (fZ (afN H id)) en=some (ps,b)/\j5 P k v e sz es ps Q /\
  ∀a c,Q a c->∃v' e' sz' es' a',c=some (.row v' e' sz' es')/\aoM id a=some a'/\(b=true->(es'.all λx=>x.all isVal)=true/\(match a' with | .p x=>x.scalar | _=>true)=true)/\Kr a' (bl H id (.row v' e' sz' es'))
theorem ai6 {J K:Mem} {L':bt} {u:Value} {a a':AV} {id v' sz':Nat} {eA:Value} (h:dU J L' u a) (hb:aoM id a=some a') (hl:L' 1000000=some (.row v' eA sz')) (hK:∀x,a' = .p x->VR J u x->VR K u x) :
  dU K (b6 L id (.row v' eA sz')) u a':=by
 unfold aoM at hb; split at hb
 ·simp only[Option.some.injEq] at hb; subst hb; exact .p _ _ (hK _ rfl h.mS)
 ·split at hb
  ·rename_i i v hi; simp only[Option.some.injEq] at hb; subst hb; subst hi; cases h with
   | row _ _ _ v1 js sz1 lV hle hh h1=>rw[hl] at lV; simp only[Option.some.injEq,Loc.row.injEq] at lV; obtain⟨rfl,rfl,rfl⟩:=lV; exact .row u id v _ eA sz' (by simp[b6]) hle hh h1
  ·cases hb
 ·simp only[Option.some.injEq] at hb; subst hb; cases h with
  | dB us _ hl hv=>exact .dB us [] hl (by simp)
 ·cases hb
theorem ahO {o:Oper} {ρ:Operand->AV} {H:ay} {Kr:AV->ay->Prop} (h:atF P o ρ H Kr) {C:Ctx} {env:Env} {tm:Array Value} {w:World} (hs:gE C env H I L tm w) {σ:Operand->Value} (hσ:∀x,dU I L (σ x) (ρ x)) :
  ∃k args,(execOp σ o).run P w = .ok (.enter k args) w/\Calls P k args w λe w'=>∃v I' L' a H',e = .returned v/\Kr a H'/\dU I' L' v a/\gE C env H' I' L' tm w':=by
 obtain⟨k,id,v,e,sz,es,en,ps,b,Q,h1,h2,h3,h4,h5⟩:=h; obtain⟨us,hr,hu⟩:=pH h1 h4.1 hσ w; refine⟨k,_,hr,?_⟩; cases us with
 | nil=>have:=hu.1; simp at this
 | cons afO vs =>
  obtain⟨bD,ws,q1,q2,q3,q4,q5,q6,q7⟩:=hs.chunk id _ h2; have hu0:=hu.2 0 afO _ rfl rfl; have hone:afO=bD/\bD.oneCell'=true:=by
   cases hu0 with
   | row _ _ _ v1 js sz1 hl hle hh h1=>rw[q1] at hl; simp only[Option.some.injEq,Loc.row.injEq] at hl; obtain⟨_,r2,_⟩:=hl; subst r2; have:=hh (by assumption); subst this; exact⟨rfl,h1⟩
  obtain⟨rfl,h1c⟩:=hone; have z6:nZ I L vs en:=⟨by simpa using hu.1,λj u c hj hc=>hu.2 (j+1) u c hj hc⟩; cases b with
  | false =>
   obtain⟨k1,_,k3⟩:=jS (oh hs (aem H id) (lq hs.mem) ((qu L w).g _)) en ps false h3 vs z6.1 z6.2; refine (h4.2 C.B I w afO ws vs hs.leB hs.mem ⟨q2,q3,q4,q5,q6,q7⟩ h1c ⟨k1,k3 rfl⟩).mono λx w' ⟨u,a,H',I',L',m1,m2,m3,m4⟩=>?_
   obtain⟨v',e',sz',es',a',n1,n2,_,n4⟩:=h5 a _ m2; obtain⟨eA,g1,g2,g3⟩:=hs.back h2 q1 (Mem.dR I) q7 m4 n1 (K:=I') (.inl ⟨rfl,rfl⟩); exact⟨u,I',_,a',_,m1,n4,ai6 m3 n2 g1 λ_ _ h=>h,g2⟩
  | true =>
   have hJ:I.sub (sk w afO.ownBlock):=λb o u hu=>by
    unfold sk; split
    ·rename_i hb; rw[q7 b hb o] at hu; cases hu
    ·exact hs.mem b o u hu
   have hJn:∀b,afO.ownBlock=some b->∀o,sk w afO.ownBlock b o=none:=λb hb o=>by unfold sk; rw[if_pos hb]
   have hJw:(sk w afO.ownBlock).zy w:=λb o u hu=>by
    unfold sk at hu; split at hu
    ·cases hu
    ·exact hu
   have acv:aek (afN H id) L w (sk w afO.ownBlock):=λi ch hi l b hl hb o u hu=>by
    unfold sk; rw[if_neg]
    ·exact hu
    ·intro hb'; have:=hs.apart i id l _ b hl q1 hb hb'; subst this; simp[afN] at hi
   obtain⟨k1,k2,_⟩:=jS (oh hs (aem H id) hJ acv) en ps true h3 vs z6.1 z6.2; refine (h4.2 C.B (sk w afO.ownBlock) w afO ws vs hs.leB hJw ⟨q2,q3,q4,λj u c hu hc=>(q5 j u c hu hc).mono hJ,q6,hJn⟩ h1c ⟨k1,k2⟩).mono λx w' ⟨u,a,H',I',L',m1,m2,m3,m4⟩=>?_
   obtain⟨v',e',sz',es',a',n1,n2,n3,n4⟩:=h5 a _ m2; obtain⟨n5,n6⟩:=n3 rfl; obtain⟨eA,g1,g2,g3⟩:=hs.back h2 q1 hJ hJn m4 n1 (K:=I) (.inr ⟨rfl,n5⟩); exact⟨u,I,_,a',_,m1,n4,ai6 m3 n2 g1 λx hx h=>by subst hx; exact h.scalar n6,g2⟩
end Go.cE
namespace Go.cE
open Go.RowKit
variable {P:Program} {I:Mem} {L:bt}
open Classical in
noncomputable def Mem.rL (I:Mem) (L:bt) (w:World) (id:Nat):Mem:=λb o=>match L id with
 | some l=>if l.has b then w.cell? ⟨b,o,none⟩ else I b o
 | none=>I b o
theorem Mem.aen {I:Mem} {w:World} (h:I.zy w) (L:bt) (id:Nat):I.sub (I.rL L w id):=λb o u hu=>by
 unfold Mem.rL; split
 ·split
  ·exact h b o u hu
  ·exact hu
 ·exact hu
theorem Fr.shut (C:Ctx) (I:Mem) (L:bt) {H:ay} (w:World) {id v sz:Nat} {e:TypeId} {es:List (List PV)} (hH:H id=some (.row v e sz es)) :
  Fr C I L H w (I.rL L w id) L (bl H id (.shut v es)) w:=λenv tm hs=>by
 have hsub:=Mem.aen hs.mem L id; have acv:∀l b,L id=some l->l.has b->∀o u,w.cell? ⟨b,o,none⟩=some u->I.rL L w id b o=some u:=λl b hl hb o u hu=>by unfold Mem.rL; rw[hl]; simp[hb,hu]
 have aAj:∀i l b,i≠id->L i=some l->l.has b->∀o,I.rL L w id b o=I b o:=λi l b hne hl hb o=>by
  unfold Mem.rL; split
  ·rename_i l' hl'; split
   ·rename_i hb'; exact absurd (hs.apart i id l l' b hl hl' hb hb') hne
   ·rfl
  ·rfl
 obtain⟨bD,us,h1,h2,h3,h4,h5,h6,h7⟩:=hs.chunk id _ hH; exact
 {below:=hs.below
  mem:=λb o u hu=>by
   unfold Mem.rL at hu; split at hu
   ·split at hu
    ·exact hu
    ·exact hs.mem b o u hu
   ·exact hs.mem b o u hu
  ku:=Mem.lg hs.ku hsub
  lp:=λb hb hf o=>by
   rw[<-hs.lp b hb hf o]; unfold Mem.rL; split
   ·rename_i l hl; split
    ·rename_i hlb; rcases hs.jc id l b hl hlb with h | h
     ·omega
     ·exact absurd h hf
    ·rfl
   ·rfl
  frame:=hs.frame
  loc:=hs.loc
  jc:=hs.jc
  size:=hs.size
  env:=λt=>(hs.env t).mono hsub (dx.refl L)
  dom:=λi l hl=>by
   obtain⟨c,hc⟩:=hs.dom i l hl; by_cases e:i=id
   ·exact⟨.shut v es,by simp[bl,e]⟩
   ·exact⟨c,by simpa[bl,e] using hc⟩
  chunk:=λi c hc=>by
   by_cases e:i=id
   ·subst e; have:Chunk.shut v es=c:=by simpa[bl] using hc
    subst this; refine⟨bD,sz,h1,?_,h4,?_⟩
    ·have hfl:=bC h4; have hlen:us.length=es.flatten.length:=by rw[hfl]; exact h2.1
     rcases h2.2 with ⟨rfl,hn⟩ | ⟨g,cap,cur,rfl,hb,hg,hnc,hcm,hcs,kN⟩
     ·have he:es=[]:=List.length_eq_zero_iff.1 hn; subst he; exact .aU none 0 0 [] us sz rfl (by simp) hlen (λj u c hu hc=>(h5 j u c hu hc).mono hsub) h6 (.inl (List.length_eq_zero_iff.1 (by simpa using hlen))) (λ_=>⟨rfl,rfl⟩) (Nat.le_refl _)
     ·refine .aU _ _ _ es us sz rfl h4 hlen (λj u c hu hc=>(h5 j u c hu hc).mono hsub) h6 (.inr ⟨g,0,rfl,λj u hu=>?_⟩) (by simp) hnc; rw[Nat.zero_add]; refine acv _ g h1 rfl j u ?_; rw[fG hg]; rw[<-kN,List.getElem?_take] at hu; split at hu
      ·simpa using hu
      ·cases hu
    ·intro hne; rcases h2.2 with ⟨rfl,hn⟩ | ⟨g,cap,cur,rfl,_⟩
     ·exact absurd (List.length_eq_zero_iff.1 hn) hne
     ·exact⟨g,0,_,cap,rfl⟩
   ·exact (hs.chunk i c (by simpa[bl,e] using hc)).keep hsub (dx.refl L) rfl λl b hl hb=>⟨rfl,λo=>aAj i l b e hl hb o⟩
  fe:=hs.fe
  apart:=hs.apart }
def aoN (H:ay) (id:Nat):ay:=match H id with
 | some (.row v _ _ es)=>bl H id (.shut v es)
 | _=>H
def cO:List Nat->ay->ay
 | [],H=>H
 | id :: r,H=>cO r (aoN H id)
theorem Fr.cO (C:Ctx) (L:bt) (w:World):∀ (ids:List Nat) (H:ay) (I:Mem),(I.zy w)->∃I',I.sub I'/\I'.zy w/\Fr C I L H w I' L (cO ids H) w
 | [],H,I,hw=>⟨I,Mem.dR I,hw,Fr.refl C I L H w⟩
 | id :: r,H,I,hw=>by
  unfold cE.cO aoN; split
  ·rename_i v e sz es hH; have hw':(I.rL L w id).zy w:=λb o u hu=>by
    unfold Mem.rL at hu; split at hu
    ·split at hu
     ·exact hu
     ·exact hw b o u hu
    ·exact hw b o u hu
   obtain⟨I',h1,h2,h3⟩:=Fr.cO C L w r (bl H id (.shut v es)) (I.rL L w id) hw'; exact⟨I',Mem.lg (Mem.aen hw L id) h1,h2,(Fr.shut C I L w hH).trans h3⟩
  ·exact Fr.cO C L w r H I hw
def sq:List AV->List Nat
 | []=>[]
 | .row id _ :: r=>id :: sq r
 | _ :: r=>sq r
def oa:List (Nat×AV)->List Nat
 | []=>[]
 | (_,.row id _) :: r=>id :: oa r
 | (_,.agg cs) :: r=>sq cs++oa r
 | _ :: r=>oa r
def z7 (H:ay) (a:AV):AV:=match a with
 | .row id bg=>match H id with
  | some (.shut v es)=>if v=bg then .p (.aU es) else .row id bg
  | _=>.row id bg
 | a=>a
def w9 (H:ay) (a:AV):AV:=match a with
 | .agg cs=>.agg (cs.map (z7 H))
 | a=>z7 H a
theorem adk (a:AV):z7 b8 a=a:=by unfold z7; cases a<;>rfl
theorem ai7 (a:AV):w9 b8 a=a:=by
 unfold w9; cases a with
 | agg cs =>
  have:cs.map (z7 b8)=cs:=by rw[List.map_congr_left (λx _=>adk x),List.map_id']
  simp only[this]
 | _=>exact adk _
def xb (P:Program) (o:Oper) (ρ:Operand->AV) (H:ay):Option (Prop×AV×ay):=match o.op with
 | .buildSlice t n parts=>match kW P t n ((parts.toList.map λx=>(x.1,ρ x.2)).map λx=>(x.1,w9 (cO (oa (parts.toList.map λx=>(x.1,ρ x.2))) H) x.2)) with
  | some (_,es)=>some (True,.p (.aU es),cO (oa (parts.toList.map λx=>(x.1,ρ x.2))) H)
  | none=>none
 | _=>none
theorem adl {C:Ctx} {H:ay} {env:Env} {tm:Array Value} {w:World} (hs:gE C env H I L tm w) {u:Value} {a:AV} (hu:dU I L u a):dU I L u (z7 H a):=by
 unfold z7; split
 ·rename_i id bg; split
  ·rename_i v es hH; split
   ·rename_i hv; subst hv; obtain⟨bD,sz,h1,h2,_⟩:=hs.chunk id _ hH; cases hu with
    | row _ _ _ v1 js sz1 hl hle hh hone=>rw[h1] at hl; simp only[Option.some.injEq,Loc.row.injEq] at hl; obtain⟨r1,r2,r3⟩:=hl; subst r1 r2 r3; rw[hh rfl]; exact .p _ _ h2
   ·exact hu
  ·exact hu
 ·exact hu
theorem ai8 {C:Ctx} {H:ay} {env:Env} {tm:Array Value} {w:World} (hs:gE C env H I L tm w) {u:Value} {a:AV} (hu:dU I L u a):dU I L u (w9 H a):=by
 unfold w9; split
 ·rename_i cs; cases hu with
  | agg us _ hl hv hone =>
   refine .agg us _ (by simpa using hl) (λj u c hu hc=>?_) hone; rw[List.getElem?_map] at hc; cases hj:cs[j]? with
   | none=>rw[hj] at hc; cases hc
   | some a=>rw[hj] at hc; simp only[Option.map_some,Option.some.injEq] at hc; subst hc; exact adl hs (hv j u a hu hj)
 ·exact adl hs hu
theorem apL {o:Oper} {ρ:Operand->AV} {v:AV} {pre:Prop} {H H':ay} (h:xb P o ρ H=some (pre,v,H')) {C:Ctx} {env:Env} {tm:Array Value} {w:World}
  (hs:gE C env H I L tm w) {σ:Operand->Value} (hσ:∀x,dU I L (σ x) (ρ x)):nU P C H I L w ((execOp σ o).run P w) v H':=by
 unfold xb at h; unfold execOp; split at h
 ·rename_i t n parts hop; simp only[hop]; split at h
  ·rename_i e es hb; simp only[Option.some.injEq,Prod.mk.injEq] at h; obtain⟨_,h2,h3⟩:=h; subst h2 h3; obtain⟨I',hsub,hw,hfr⟩:=Fr.cO C L w (oa (parts.toList.map λx=>(x.1,ρ x.2))) H I hs.mem; have hs':=hfr env tm hs; have hpr:=vl (I:=I) (L:=L) hσ parts.toList; have aEE:aec I' L (parts.toList.map λx=>(x.1,σ x.2)) ((parts.toList.map λx=>(x.1,ρ x.2)).map λx=>(x.1,w9 (cO (oa (parts.toList.map λx=>(x.1,ρ x.2))) H) x.2)):=by
    refine⟨by simp,λj x y hx hy=>?_⟩; rw[List.getElem?_map] at hy; cases hj:(parts.toList.map λx=>(x.1,ρ x.2))[j]? with
    | none=>simp[hj] at hy
    | some z=>rw[hj] at hy; simp only[Option.map_some,Option.some.injEq] at hy; obtain⟨k1,k2⟩:=hpr.2 j x z hx hj; subst hy; exact⟨k1,ai8 hs' (k2.mono hsub (dx.refl L))⟩
   obtain⟨uo,sz,hr,_,_,hpos,hn,hall,hl,hv,hone⟩:=uL hb aEE w; have hr':(Instr.buildSlice t n (parts.map λx=>(x.1,σ x.2))).run P w = .ok (.slice (some ⟨w.heap.size,0,none⟩) n n) (w.alloc (.cells uo.toArray e)):=by rw[<-hr]; congr 2; apply Array.ext'; simp
   refine⟨.slice (some ⟨w.heap.size,0,none⟩) n n,_,I'.with w.heap.size uo.toArray,L,.inl (by rw[run_lift,hr']; rfl),?_,hfr.trans (Fr.imm C I' L _ w _ e)⟩; have:=VR.ahy (w:=w) (us:=uo) (rest:=[]) hw hall hl hv hone (cap:=n) (by omega); rw[List.append_nil] at this; rw[hn] at this; exact .p _ _ this
  ·cases h
 ·cases h
def fW (P:Program) (o:Oper) (ρ:Operand->AV) (H:ay):Option (Prop×AV×ay):=match nH P o ρ with
 | some (pre,v)=>some (pre,v,H)
 | none=>match ri P o ρ H with
  | some (pre,v)=>some (pre,v,H)
  | none=>match vP P o ρ H with
   | some r=>some r
   | none=>xb P o ρ H
def isApp:Op->Bool
 | .call c=>(match c.callee with
  | .builtin .append=>true
  | _=>false)
 | _=>false
def orE (x:Option (Prop×AV×ay)) (b:Bool) (y:Option (Prop×AV×ay)):Option (Prop×AV×ay):=match x,b with
 | some r,_=>some r
 | none,true=>y
 | none,false=>none
def fI (P:Program) (own:List Nat) (o:Oper) (ρ:Operand->AV) (H:ay):Option (Prop×AV×ay):=match o.dst with
 | some d=>if own.contains d=true then orE (exN P o ρ H d) (isApp o.op) (fW P o ρ H) else fW P o ρ H
 | none=>fW P o ρ H
theorem y4 {o:Oper} {ρ:Operand->AV} {v:AV} {pre:Prop} {H H':ay} (h:fW P o ρ H=some (pre,v,H')) (hp:pre) {C:Ctx} {env:Env} {tm:Array Value} {w:World}
  (hs:gE C env H I L tm w) {σ:Operand->Value} (hσ:∀x,dU I L (σ x) (ρ x)):nU P C H I L w ((execOp σ o).run P w) v H':=by
 unfold fW at h; split at h
 ·rename_i hx; simp only[Option.some.injEq,Prod.mk.injEq] at h; obtain⟨rfl,rfl,rfl⟩:=h; exact apC hx hp hs hσ
 ·split at h
  ·rename_i hx; simp only[Option.some.injEq,Prod.mk.injEq] at h; obtain⟨rfl,rfl,rfl⟩:=h; exact apG hx hp hs hσ
  ·split at h
   ·rename_i hx; simp only[Option.some.injEq] at h; subst h; exact apH hx hp hs hσ
   ·exact apL h hs hσ
theorem ai9 {own:List Nat} {o:Oper} {ρ:Operand->AV} {v:AV} {pre:Prop} {H H':ay} (h:fI P own o ρ H=some (pre,v,H')) (hp:pre) {C:Ctx} {env:Env} {tm:Array Value} {w:World}
  (hs:gE C env H I L tm w) {σ:Operand->Value} (hσ:∀x,dU I L (σ x) (ρ x)):nU P C H I L w ((execOp σ o).run P w) v H':=by
 unfold fI at h; split at h
 ·split at h
  ·unfold orE at h; split at h
   ·rename_i hx; exact apJ (hx.trans h) hp hs hσ
   ·exact y4 h hp hs hσ
   ·cases h
  ·exact y4 h hp hs hσ
 ·exact y4 h hp hs hσ
def cA (env:Env) (d:Option Nat) (v:AV):Env:=match d with
 | some d=>ct env d v
 | none=>env
def vn (N:Nat) (d:Option Nat):Prop:=match d with
 | some d=>d<N
 | none=>True
theorem gE.cA {C:Ctx} {env:Env} {H:ay} {tm:Array Value} {w:World} (h:gE C env H I L tm w) {d:Option Nat} {u:Value} {v:AV} (hd:vn C.n d) (hv:dU I L u v) (ds:List Deferred) :
  gE C (cA env d v) H I L (Act.put ⟨tm,ds⟩ d u).tmps w:=by
 cases d with
 | none=>exact h
 | some d=>exact h.put hd hv
theorem dU.axV {u:Value} (h:dU I L u (.dB [])):u = .tuple #[]:=by
 cases h with
 | dB us _ hl _=>have:us=[]:=List.length_eq_zero_iff.1 (by simpa using hl); rw[this]
def l8 (ops:Array Oper) (o:Oper) (env:Env):Option Bool:=match o.guard with
 | none=>some true
 | some (j,want)=>match (ops[j]?).bind (·.dst) with
  | some d=>match env d with
   | .p (.val (.bool b))=>some (b == want)
   | .dB []=>some false
   | _=>none
  | none=>none
theorem pI {ops:Array Oper} {o:Oper} {env:Env} {g:Bool} (h:l8 ops o env=some g) {C:Ctx} {H:ay} {tm:Array Value} {w:World} (hs:gE C env H I L tm w) :
  Region.wanted o (yielded ops tm)=g:=by
 unfold l8 at h; unfold Region.wanted; split at h
 ·rename_i hg; simp at h; subst h; simp[hg]
 ·rename_i j want hg; rw[hg]; dsimp only; split at h
  ·rename_i d hd; split at h
   ·rename_i b hb; simp at h; subst h; have hu:=hs.env d; rw[hb] at hu; have hu:=hu.ek.1; have hlt:d<tm.size:=by
     rcases Nat.lt_or_ge d tm.size with h | h
     ·exact h
     ·simp[Array.getElem?_eq_none h,undef] at hu
    have:tm[d]? = some (.bool b):=by rw[<-hu]; simp[hlt]
    simp[yielded,hd,this]
   ·rename_i hb; simp at h; subst h; have hu:=hs.env d; rw[hb] at hu; have hu:=hu.axV; have:∀b,tm[d]?≠some (.bool b):=λb hb=>by rw[Array.getD_eq_getD_getElem?,hb] at hu; cases hu
    cases ht:tm[d]? with
    | none=>simp[yielded,hd,ht]
    | some u =>
     cases u with
     | bool b=>exact absurd ht (this b)
     | _=>simp[yielded,hd,ht]
   ·cases h
  ·cases h
def alT (x:AV):List Nat->Env->Env
 | [],env=>env
 | t :: r,env=>alT x r (cA env (some t) x)
theorem atG (x:AV) (env:Env):alT x [] env=env:=rfl
theorem apM (x:AV) (t:Nat) (r:List Nat) (env:Env):alT x (t :: r) env=alT x r (cA env (some t) x):=rfl
def holds (env:Env) (id v:Nat):List Nat->Prop
 | []=>True
 | t :: r=>env t = .row id v/\holds env id v r
theorem apN (env:Env) (id v:Nat):holds env id v []=True:=rfl
theorem alU (env:Env) (id v t:Nat) (r:List Nat):holds env id v (t :: r)=(env t = .row id v/\holds env id v r):=rfl
theorem atH {C:Ctx} {env:Env} {H:ay} {I:Mem} {L:bt} {tm:Array Value} {w:World} {id v t:Nat} {es:List (List PV)} (hs:gE C env H I L tm w) (hH:H id=some (.shut v es)) (ht:env t = .row id v) :
  gE C (cA env (some t) (.p (.aU es))) H I L tm w:=by
 refine { hs with env:=λi=>?_ }; unfold cA; simp only; unfold ct; split
 ·rename_i hi; subst hi; have h1:=hs.env i; rw[ht] at h1; generalize tm.getD i undef=u at h1 ⊢; obtain⟨bD,sz,g1,g2,_⟩:=hs.chunk id _ hH; cases h1 with
  | row _ _ _ v' eA sz' hl hle h h1=>rw[g1] at hl; simp only[Option.some.injEq,Loc.row.injEq] at hl; obtain⟨rfl,rfl,rfl⟩:=hl; rw[h rfl]; exact .p _ _ g2
 ·exact hs.env i
theorem acw {C:Ctx} {H:ay} {I:Mem} {L:bt} {tm:Array Value} {w:World} {id v:Nat} {es:List (List PV)} (hH:H id=some (.shut v es)):∀ (ts:List Nat) (env:Env),ts.Nodup->gE C env H I L tm w->holds env id v ts ->
  gE C (alT (.p (.aU es)) ts env) H I L tm w
 | [],env,_,hs,_=>hs
 | t :: r,env,hn,hs,ht=>by
  rw[List.nodup_cons] at hn; refine acw hH r _ hn.2 (atH hs hH ht.1) ?_; have:∀r:List Nat,t ∉ r->holds env id v r->holds (cA env (some t) (.p (.aU es))) id v r:=by
   intro r
   induction r with
   | nil=>intro _ _; exact trivial
   | cons u r ih=>intro hn hh; refine⟨?_,ih (λh=>hn (List.mem_cons_of_mem _ h)) hh.2⟩; rw[<-hh.1]; unfold cA; simp only; unfold ct; rw[if_neg]; intro e; exact hn (by rw[e]; exact List.mem_cons_self)
  exact this r hn.1 ht.2
def dP (env:Env) (H:ay) (env':Env) (H':ay):Prop:=∀C I L tm w,gE C env H I L tm w->∃I' L',gE C env' H' I' L' tm w
def acy (P:Program) (o:Oper) (W:Env->ay->Prop) (env:Env) (H:ay):Prop :=
 (∃ids,atx P o (ev env) (cO ids H) λx=>W (cA env o.dst (.p x)) (cO ids H))\/aBi P o (ev env) (λx=>W (cA env o.dst (.p x)) H) \/
  ∃ids,atB P o (ev env) (cO ids H) (λa H'=>W (cA env o.dst a) H')\/atF P o (ev env) (cO ids H) λa H'=>W (cA env o.dst a) H'
def agp (P:Program) (o:Oper) (W:Env->ay->Prop) (env:Env) (H:ay):Prop:=∃v H',W (cA env o.dst v) H'/\∀ (C:Ctx) (I:Mem) (L:bt) (tm:Array Value) (w:World) (σ:Operand->Value),gE C env H I L tm w->(∀x,dU I L (σ x) (ev env x))->nU P C H I L w ((execOp σ o).run P w) v H'
def abq (P:Program) (o:Oper) (W:Env->ay->Prop) (env:Env) (H:ay):Prop :=
 ∀ (C:Ctx) (I:Mem) (L:bt) (tm:Array Value) (w:World) (σ:Operand->Value),gE C env H I L tm w->(∀x,dU I L (σ x) (ev env x)) ->
  ∃k args,(execOp σ o).run P w = .ok (.enter k args) w/\Calls P k args w λe w'=>∃v I' L' a H',e = .returned v/\W (cA env o.dst a) H'/\dU I' L' v a/\gE C env H' I' L' tm w'
def aBl (P:Program) (o:Oper) (W:Env->ay->Prop) (env:Env) (H:ay):Prop:=∃rM H2,dP env H rM H2/\((∃pre v H',fW P o (ev rM) H2=some (pre,v,H')/\pre/\W (cA rM o.dst v) H')\/acy P o W rM H2\/agp P o W rM H2\/abq P o W rM H2)
def iL (P:Program) (o:Oper) (W:Env->ay->Prop) (env:Env) (H:ay):Prop:=acy P o W env H\/aBl P o W env H\/agp P o W env H\/abq P o W env H
def walk (P:Program) (N:Nat) (own:List Nat) (ops:Array Oper):List Oper->(Env->ay->Prop)->Env->ay->Prop
 | [],K,env,H=>K env H
 | o :: rest,K,env,H=>vn N o.dst/\match l8 ops o env with
  | some true=>(match fI P own o (ev env) H with
   | some (pre,v,H')=>pre/\walk P N own ops rest K (cA env o.dst v) H'
   | none=>iL P o (walk P N own ops rest K) env H)
  | some false=>walk P N own ops rest K (cA env o.dst (.dB [])) H
  | none=>False
theorem nU.upon {C:Ctx} {H H':ay} {w:World} {r:Result Next} {v:AV} (h:nU P C H I L w r v H') {o:Oper} {a:Act} {next:Act->World->Prop} {Q:Exit->Act->World->Prop}
  (hn:∀u w' I' L',dU I' L' u v->Fr C I L H w I' L' H' w'->next (a.put o.dst u) w'):o.upon P a next Q r:=by
 obtain⟨u,w',I',L',hr,ha,hf⟩:=h; rcases hr with rfl | ⟨rfl,rfl⟩
 ·exact hn u w' I' L' ha hf
 ·exact hn undef w' I' L' ha hf
theorem y5 {o:Oper} {env:Env} {H:ay} {W:Env->ay->Prop} (h:acy P o W env H\/agp P o W env H\/abq P o W env H) {C:Ctx} {tm:Array Value} {ds:List Deferred} {w:World} (hs:gE C env H I L tm w) (hd:vn C.n o.dst) {next:Act->World->Prop} {Q:Exit->Act->World->Prop}
  (hW:∀env' H' I' L' tm' w',W env' H'->gE C env' H' I' L' tm' w'->next ⟨tm',ds⟩ w'):o.wp P ⟨tm,ds⟩ w next Q:=by
 have hσ:=λx=>sX hs ds x
 unfold Oper.wp; have hput:∀ {w':World} {I' L':_} {H':ay} {u:Value} {v:AV},W (cA env o.dst v) H'->dU I' L' u v->Fr C I L H w I' L' H' w'->next (Act.put ⟨tm,ds⟩ o.dst u) w':=by
  intro w' I' L' H' u v hw ha hf; have:=(hf env tm hs).cA hd ha ds; have e:(Act.put ⟨tm,ds⟩ o.dst u:Act)=⟨(Act.put ⟨tm,ds⟩ o.dst u).tmps,ds⟩:=by cases o.dst<;>rfl
  rw[e]; exact hW _ _ I' L' _ w' hw this
 rcases h with h | ⟨v,H',hw,hy⟩ | h
 ·rcases h with ⟨ids,hc⟩ | he | ⟨ids,hc⟩
  case inr.inl=>obtain⟨u,x,hr,hv,hw⟩:=alS he (w:=w) hσ; exact (nU.still (C:=C) (H:=H) hr (dU.p _ _ hv)).upon λu w' I' L' ha hf=>hput hw ha hf
  case inr.inr =>
   obtain⟨I1,hsub,hw1,hfr⟩:=Fr.cO C L w ids H I hs.mem; have hs1:=hfr env tm hs; obtain⟨k,args,hr,aeo⟩:=hc.elim (λhc=>ahL hc hs1 (λx=>sX hs1 ds x)) (λhc=>ahO hc hs1 (λx=>sX hs1 ds x)); rw[hr,Oper.upon_enter]; refine aeo.mono λe w' ⟨v,I',L',a,H',he,hw,hv,hs'⟩=>?_
   subst he; have:=hs'.cA hd hv ds; have e:(Act.put ⟨tm,ds⟩ o.dst v:Act)=⟨(Act.put ⟨tm,ds⟩ o.dst v).tmps,ds⟩:=by cases o.dst<;>rfl
   show next (Act.put ⟨tm,ds⟩ o.dst v) w'
   rw[e]; exact hW _ _ I' L' _ w' hw this
  obtain⟨I1,hsub,hw1,hfr⟩:=Fr.cO C L w ids H I hs.mem; have hs1:=hfr env tm hs; obtain⟨k,args,hr,aeo⟩:=ai4 hc hs1 (λx=>sX hs1 ds x); rw[hr,Oper.upon_enter]; refine aeo.mono λe w' ⟨v,I',x,he,hw,hv,hf⟩=>?_
  subst he; exact hput hw (.p _ _ hv) (hfr.trans hf)
 ·exact (hy C I L tm w _ hs hσ).upon λu w' I' L' ha hf=>hput hw ha hf
 ·obtain⟨k,args,hr,aeo⟩:=h C I L tm w _ hs hσ; rw[hr,Oper.upon_enter]; refine aeo.mono λe w' ⟨v,I',L',a,H',he,hw,hv,hs'⟩=>?_
  subst he; have:=hs'.cA hd hv ds; have e:(Act.put ⟨tm,ds⟩ o.dst v:Act)=⟨(Act.put ⟨tm,ds⟩ o.dst v).tmps,ds⟩:=by cases o.dst<;>rfl
  show next (Act.put ⟨tm,ds⟩ o.dst v) w'
  rw[e]; exact hW _ _ I' L' _ w' hw this
theorem ahP {own:List Nat} {o:Oper} {env:Env} {H:ay} {W:Env->ay->Prop} (h:match fI P own o (ev env) H with
   | some (pre,v,H')=>pre/\W (cA env o.dst v) H'
   | none=>iL P o W env H) {C:Ctx} {tm:Array Value} {ds:List Deferred} {w:World} (hs:gE C env H I L tm w) (hd:vn C.n o.dst) {next:Act->World->Prop} {Q:Exit->Act->World->Prop}
  (hW:∀env' H' I' L' tm' w',W env' H'->gE C env' H' I' L' tm' w'->next ⟨tm',ds⟩ w'):o.wp P ⟨tm,ds⟩ w next Q:=by
 split at h
 ·rename_i pre v H' hx; obtain⟨hp,hw⟩:=h; have hσ:=λx=>sX hs ds x
  unfold Oper.wp; refine (ai9 hx hp hs hσ).upon λu w' I' L' ha hf=>?_
  have:=(hf env tm hs).cA hd ha ds; have e:(Act.put ⟨tm,ds⟩ o.dst u:Act)=⟨(Act.put ⟨tm,ds⟩ o.dst u).tmps,ds⟩:=by cases o.dst<;>rfl
  rw[e]; exact hW _ _ I' L' _ w' hw this
 ·rcases h with h | ⟨rM,H2,q1,h⟩ | h | h
  ·exact y5 (.inl h) hs hd hW
  ·obtain⟨I2,L2,h2⟩:=q1 C I L tm w hs; rcases h with ⟨pre,v,H',q4,q5,q6⟩ | h
   ·unfold Oper.wp; refine (y4 q4 q5 h2 (λy=>sX h2 ds y)).upon λu w' I' L' ha hf=>?_
    have:=(hf _ tm h2).cA hd ha ds; have e:(Act.put ⟨tm,ds⟩ o.dst u:Act)=⟨(Act.put ⟨tm,ds⟩ o.dst u).tmps,ds⟩:=by cases o.dst<;>rfl
    rw[e]; exact hW _ _ I' L' _ w' q6 this
   ·exact y5 h h2 hd hW
  ·exact y5 (.inr (.inl h)) hs hd hW
  ·exact y5 (.inr (.inr h)) hs hd hW
theorem aay {N:Nat} {own:List Nat} {ops:Array Oper} {K:Env->ay->Prop} {Q:Exit->Act->World->Prop} {C:Ctx} {ds:List Deferred} (hN:C.n=N)
  (hK:∀env H I L tm w,K env H->gE C env H I L tm w->Q .normal ⟨tm,ds⟩ w):∀ (l:List Oper) (env:Env) (H:ay) (I:Mem) (L:bt) (tm:Array Value) (w:World),
  walk P N own ops l K env H->gE C env H I L tm w->wpList P ops Q l ⟨tm,ds⟩ w
 | [],env,H,I,L,tm,w,h,hs=>hK env H I L tm w h hs
 | o :: rest,env,H,I,L,tm,w,h,hs=>by
  obtain⟨hd,h⟩:=h; rw[<-hN] at hd; unfold wpList; split at h
  ·rename_i hg; rw[if_pos (pI hg hs)]; exact .inl (ahP h hs hd λenv' H' I' L' tm' w' hw hs'=>aay hN hK rest env' H' I' L' tm' w' hw hs')
  ·rename_i hg; rw[if_neg (by rw[pI hg hs]; simp)]; have e:(Act.put ⟨tm,ds⟩ o.dst undef:Act)=⟨(Act.put ⟨tm,ds⟩ o.dst undef).tmps,ds⟩:=by cases o.dst<;>rfl
   rw[e]; exact aay hN hK rest _ H I L _ w h (hs.cA hd (.dB [] [] rfl (by simp)) ds)
  ·exact h.elim
end Go.cE
namespace Go.cE
open Go.RowKit
variable {P:Program} {I:Mem} {L:bt}
abbrev pJ:=Exit->Env->ay->Prop
theorem dP.refl (env:Env) (H:ay):dP env H env H:=λ_ I L _ _ h=>⟨I,L,h⟩
theorem dP.trans {e1 e2 e3:Env} {H1 H2 H3:ay} (h:dP e1 H1 e2 H2) (k:dP e2 H2 e3 H3):dP e1 H1 e3 H3:=λC I L tm w hs=>by obtain⟨I1,L1,h1⟩:=h C I L tm w hs; exact k C I1 L1 tm w h1
def xd (P:Program) (N:Nat) (own:List Nat) (ops:Array Oper) (K:Env->ay->Prop) (env:Env) (H:ay):Prop:=∀C I L tm w,C.n=N->gE C env H I L tm w->wpAny P .any ops (λe a w'=>a.defers=[]/\e = .normal/\∃env' H' I' L',K env' H'/\gE C env' H' I' L' a.tmps w') ops.size (Array.replicate ops.size false) ⟨tm,[]⟩ { w with drawn:=w.drawn+1 }
def aja (W:pJ->Env->ay->Prop) (K:pJ) (env:Env) (H:ay):Prop :=
 ∃Inv:Nat->Env->ay->Prop,(∃n e2 H2,Inv n e2 H2/\dP env H e2 H2) /\
  ∀n e H,Inv n e H->W (λx e' H'=>match x with
   | .normal=>∃m e2 H2,m<n/\Inv m e2 H2/\dP e' H' e2 H2
   | x=>K x e' H') e H
def vo (X Y:Prop) (c:AV):Prop:=match c with
 | .p (.val (.bool b))=>(b=true->X)/\(b=false->Y)
 | _=>False
def cw (P:Program) (N:Nat) (own:List Nat):Code->pJ->Env->ay->Prop
 | .skip,K,env,H=>K .normal env H
 | .label _,K,env,H=>K .normal env H
 | .region _ ops false,K,env,H=>walk P N own ops ops.toList (K .normal) env H
 | .region _ ops true,K,env,H=>xd P N own ops (K .normal) env H
 | .seq a b, K, env, H => cw P N own a (fun x e' H' => match x with
   | .normal=>cw P N own b K e' H'
   | x=>K x e' H') env H
 | .cond c a b,K,env,H=>vo (cw P N own a K env H) (cw P N own b K env H) (ev env c)
 | .block id c, K, env, H => cw P N own c (fun x e' H' => match x with
   | .exit id'=>if id'=id then K .normal e' H' else K (.exit id') e' H'
   | x=>K x e' H') env H
 | .loop c,K,env,H=>aja (cw P N own c) K env H
 | .exit id,K,env,H=>K (.exit id) env H
 | .ret,K,env,H=>K .ret env H
 | _,_,_,_=>False
def lift (C:Ctx) (K:pJ):Exit->Act->World->Prop:=λe a w=>a.defers=[]/\∃env H I L,K e env H/\gE C env H I L a.tmps w
theorem om {N:Nat} {own:List Nat} (hm:P.follows .mixedOrders=true):∀ (c:Code) (K:pJ) (C:Ctx),C.n=N->∀env H I L tm w,cw P N own c K env H->gE C env H I L tm w->c.wp P (lift C K) ⟨tm,[]⟩ w
 | .skip,K,C,hN,env,H,I,L,tm,w,h,hs=>wp_skip ⟨rfl,env,H,I,L,h,hs⟩
 | .label _,K,C,hN,env,H,I,L,tm,w,h,hs=>wp_label ⟨rfl,env,H,I,L,h,hs⟩
 | .region _ ops false,K,C,hN,env,H,I,L,tm,w,h,hs=>by refine wp_region ?_; have:=wpOps_eq_wpList (P:=P) (ops:=ops) (Q:=lift C K) ops.toList 0 (by simp); rw[List.range_eq_range',<-Array.length_toList,this]; exact aay hN (λenv H I L tm w hk hs=>⟨rfl,env,H,I,L,hk,hs⟩) ops.toList env H I L tm w h hs
 | .region _ ops true,K,C,hN,env,H,I,L,tm,w,h,hs=>by refine wp_mono (Q:=λe a w'=>a.defers=[]/\e = .normal/\∃env' H' I' L',K .normal env' H'/\gE C env' H' I' L' a.tmps w') (wp_region_any hm (h C I L tm w hN hs)) ?_; rintro e a w ⟨h1,rfl,env',H',I',L',h2,h3⟩; exact⟨h1,env',H',I',L',h2,h3⟩
 | .seq a b,K,C,hN,env,H,I,L,tm,w,h,hs=>by
  refine wp_seq (wp_mono (om hm a _ C hN env H I L tm w h hs) ?_); rintro e ac w ⟨h1,env',H',I',L',h2,h3⟩; cases ac with
  | mk tmps ds =>
   simp only at h1 h3; subst h1; cases e with
   | normal=>exact om hm b K C hN env' H' I' L' tmps w h2 h3
   | _=>exact⟨rfl,env',H',I',L',h2,h3⟩
 | .cond c a b,K,C,hN,env,H,I,L,tm,w,h,hs=>by
  have h:vo (cw P N own a K env H) (cw P N own b K env H) (ev env c):=h; have hc:=sX hs [] c; unfold vo at h; split at h
  ·rename_i t ht; rw[ht] at hc; exact wp_cond_split hc.ek.1 (λht=>om hm a K C hN env H I L tm w (h.1 ht) hs) (λht=>om hm b K C hN env H I L tm w (h.2 ht) hs)
  ·exact h.elim
 | .block id c,K,C,hN,env,H,I,L,tm,w,h,hs=>by
  refine wp_block (wp_mono (om hm c _ C hN env H I L tm w h hs) ?_); rintro e ac w ⟨h1,env',H',I',L',h2,h3⟩; cases e with
  | exit id' =>
   simp only[Exit.inBlock]; dsimp only at h2; split
   ·rename_i he; rw[if_pos he] at h2; exact⟨h1,env',H',I',L',h2,h3⟩
   ·rename_i he; rw[if_neg he] at h2; exact⟨h1,env',H',I',L',h2,h3⟩
  | _=>exact⟨h1,env',H',I',L',h2,h3⟩
 | .loop c,K,C,hN,env,H,I,L,tm,w,h,hs=>by
  obtain⟨Inv,⟨n0,e0,H0,hi0,hw0⟩,aAk⟩:=h; intro b k cs
  have key : ∀ n, ∀ e H I L tm w, Inv n e H → gE C e H I L tm w →
    ∃x a' w',lift C K x a' w'/\Arrives P (lone (b.at ⟨tm,[]⟩ (.code c :: .inLoop c :: k)) cs w) b k cs x a' w':=by
   intro n
   induction n using Nat.strongRecOn with
   | _ n ih =>
    intro e H I L tm w hi hs; obtain⟨x,a',w',hq,abn⟩:=om hm c _ C hN e H I L tm w (aAk n e H hi) hs b (.inLoop c :: k) cs; obtain⟨hd,e',H',I',L',hq,hs'⟩:=hq; cases a' with
    | mk tmps ds =>
     simp only at hd hs'; subst hd; cases x with
     | normal=>obtain⟨m,e2,H2,hlt,hi2,hwk⟩:=hq; obtain⟨I2,L2,hs2⟩:=hwk C I' L' tmps w' hs'; obtain⟨x,a2,w2,hq2,aBm⟩:=ih m hlt e2 H2 I2 L2 tmps w' hi2 hs2; exact⟨x,a2,w2,hq2,.of_steps (Steps.trans abn (.one step_inLoop)) aBm⟩
     | exit id=>exact⟨_,_,w',⟨rfl,e',H',I',L',hq,hs'⟩,.pass (x:=.inLoop c) rfl (λ_ _=>.inl (by simp)) abn⟩
     | goto l=>exact⟨_,_,w',⟨rfl,e',H',I',L',hq,hs'⟩,.pass (x:=.inLoop c) rfl (λ_ _=>.inl (by simp)) abn⟩
     | ret=>exact⟨_,_,w',⟨rfl,e',H',I',L',hq,hs'⟩,.pass (x:=.inLoop c) rfl (λ_ _=>.inl (by simp)) abn⟩
     | panic ch=>exact⟨_,_,w',⟨rfl,e',H',I',L',hq,hs'⟩,.pass (x:=.inLoop c) rfl (λ_ _=>.inl (by simp)) abn⟩
     | outgrown=>exact⟨_,_,w',⟨rfl,e',H',I',L',hq,hs'⟩,.pass (x:=.inLoop c) rfl (λ_ _=>.inl (by simp)) abn⟩
  obtain⟨I0,L0,hs0⟩:=hw0 C I L tm w hs; obtain⟨x,a',w',hq,abn⟩:=key n0 e0 H0 I0 L0 tm w hi0 hs0; exact⟨x,a',w',hq,.of_steps (.one step_loop) abn⟩
 | .exit id,K,C,hN,env,H,I,L,tm,w,h,hs=>wp_exit ⟨rfl,env,H,I,L,h,hs⟩
 | .ret,K,C,hN,env,H,I,L,tm,w,h,hs=>wp_ret ⟨rfl,env,H,I,L,h,hs⟩
 | .goto _,K,C,hN,env,H,I,L,tm,w,h,hs=>h.elim
 | .rangeFunc _ _ _ _,K,C,hN,env,H,I,L,tm,w,h,hs=>h.elim
 | .scope _,K,C,hN,env,H,I,L,tm,w,h,hs=>h.elim
 | .refuse _,K,C,hN,env,H,I,L,tm,w,h,hs=>h.elim
def iu (args:List PV):Env:=λt=>match args[t]? with
 | some x=>.p x
 | none=>.dead
def zi (P:Program) (env:Env) (H:ay):ResultVar->Option AV
 | .tmp t=>some (env t)
 | .cell a t=>match env a with
  | .ptr id off=>match H id with
   | some (.box cs)=>qX P t cs off
   | _=>none
  | _=>none
def ajb (P:Program) (env:Env) (H:ay):List ResultVar->Option (List AV)
 | []=>some []
 | r :: rs=>match zi P env H r,ajb P env H rs with
  | some a,some en=>some (a :: en)
  | _,_=>none
def oo (P:Program) (env:Env) (H:ay) (rs:List ResultVar):Option AV:=match ajb P env H rs with
 | some [a]=>some a
 | some en=>some (.dB en)
 | none=>none
def atI (P:Program) (env:Env) (H:ay) (rs:List ResultVar):Option PV:=match oo P env H rs with
 | some a=>match adj H a with
  | some (x,_)=>some x
  | none=>none
 | none=>none
def aAl (P:Program) (rs:List ResultVar) (Q:PV->Prop):pJ:=λe env H=>match e with
 | .normal | .ret=>(match atI P env H rs with
  | some r=>Q r
  | none=>False)
 | _=>False
def aep (tm:Array Value):ResultVar->Sem Value
 | .tmp t=>pure (tm.getD t undef)
 | .cell a t=>do loadVar t (<-asAddr (tm.getD a undef))
theorem aaz {C:Ctx} {env:Env} {H:ay} {tm:Array Value} {w:World} (hs:gE C env H I L tm w):∀ (rs:List ResultVar) (en:List AV),ajb P env H rs=some en ->
  ∃us:List Value,(rs.mapM (aep tm)).run P w = .ok us w/\nZ I L us en
 | [],en,h=>by simp[ajb] at h; subst h; exact⟨[],by simp,rfl,by simp⟩
 | r :: rs,en,h=>by
  simp only[ajb] at h; split at h
  ·rename_i a as' h1 h2; simp only[Option.some.injEq] at h; subst h; obtain⟨us,hr,hu⟩:=aaz hs rs as' h2; have one:∃u,(aep tm r).run P w = .ok u w/\dU I L u a:=by
    unfold zi at h1; split at h1
    ·rename_i t; simp only[Option.some.injEq] at h1; subst h1; exact⟨_,rfl,hs.env t⟩
    ·rename_i b t; split at h1
     ·rename_i id off hb; split at h1
      ·rename_i cs hH; have hbv:=hs.env b; rw[hb] at hbv; obtain⟨blk,arr,e,g1,g2,g3,g4,g5,g6⟩:=hs.chunk id _ hH; have hres:∀ub,tm.getD b undef=ub->(aep tm (.cell b t)).run P w=(do loadVar t (<-asAddr ub):Sem Value).run P w:=λub h=>by show (do loadVar t (<-asAddr (tm.getD b undef)):Sem Value).run P w=_; rw[h]
       rw[hres _ rfl]; generalize tm.getD b undef=ub at hbv ⊢; cases hbv with
       | ptr _ b' _ hl =>
        rw[g1] at hl; simp only[Option.some.injEq,Loc.box.injEq] at hl; subst hl; obtain⟨u,hru,hua⟩:=yX (I:=I) (L:=L) (w:=w) (b:=blk) (base:=0) (us:=arr.toList) h1 (by simpa using g3) (λj u c hu hc=>g4 j u c (by simpa using hu) hc)
         (λu hu=>by
          obtain⟨j,hj⟩:=List.mem_iff_getElem?.1 hu; exact g5 j u (by simpa using hj)) (λj u hu=>by rw[Nat.zero_add,fG g2]; simpa using hu)
        rw[Nat.zero_add] at hru; exact⟨u,by simp[asAddr,hru],hua⟩
      ·cases h1
     ·cases h1
   obtain⟨u,hru,hua⟩:=one; refine⟨u :: us,?_,by simp[hu.1],λj v b hv hb=>?_⟩
   ·simp only[List.mapM_cons,Sem.run_bind,hru,Result.andThen_ok,hr,Sem.run_pure]
   ·cases j with
    | zero=>simp at hv hb; subst hv hb; exact hua
    | succ j=>exact hu.2 j v b (by simpa using hv) (by simpa using hb)
  ·cases h
theorem uq {C:Ctx} {env:Env} {H:ay} {tm:Array Value} {w:World} (hs:gE C env H I L tm w) {fn:Func} {a:AV} (h:oo P env H fn.results.toList=some a) :
  ∃u,(results fn tm).run P w = .ok u w/\dU I L u a:=by
 have hres:∀us:List Value,(fn.results.toList.mapM (aep tm)).run P w = .ok us w->(results fn tm).run P w = .ok (if h:us.toArray.size=1 then us.toArray[0] else .tuple us.toArray) w:=by
  intro us hr; have e:results fn tm=(do let vs <-fn.results.mapM (aep tm); pure (if h:vs.size=1 then vs[0] else .tuple vs)):=by unfold results; congr 2
  rw[e,Sem.run_bind,Array.mapM_eq_mapM_toList,Sem.run_map,hr]; rfl
 unfold oo at h; split at h
 ·rename_i a' hl; simp only[Option.some.injEq] at h; subst h; obtain⟨us,hr,hu⟩:=aaz hs _ _ hl; refine⟨_,hres us hr,?_⟩; have hlen:us.length=1:=by simpa using hu.1
  rw[dif_pos (by simpa using hlen)]; cases us with
  | nil=>simp at hlen
  | cons u r=>exact hu.2 0 u _ rfl rfl
 ·rename_i en hne hl; simp only[Option.some.injEq] at h; subst h; obtain⟨us,hr,hu⟩:=aaz hs _ _ hl; refine⟨_,hres us hr,?_⟩; have hlen:¬ us.length=1:=λe=>by
   have:en.length=1:=by rw[<-hu.1]; exact e
   cases en with
   | nil=>simp at this
   | cons a r =>
    have:r=[]:=by simpa using this
    subst this; exact hne a rfl
  rw[dif_neg (by simpa using hlen)]; exact .dB us en hu.1 hu.2
 ·cases h
def Mem.all (I:Mem) (B:Nat) (w:World):Mem:=λb o=>if b<B then I b o else w.cell? ⟨b,o,none⟩
theorem ajc {f:FuncId} {fn:Func} {c:Code} {args:List PV} {Q:PV->Prop} (own:List Nat) (hm:P.follows .mixedOrders=true) (hf:P.funcs[f]? = some fn) (hb:fn.body=some c)
  (hc:gL P f=true) (hn:args.length<=fn.ntmps) (h:cw P fn.ntmps own c (aAl P fn.results.toList Q) (iu args) b8):aS P f args Q:=by
 refine⟨hc,λI w vs hI hv=>calls_of_wp hf hb ?_⟩; let C:Ctx:=Ctx.of w I fn.ntmps; have hlen:vs.length<=fn.ntmps:=by rw[hv.1]; exact hn
 have hs:gE C (iu args) b8 I (λ_=>none) (vs.toArray++Array.replicate (fn.ntmps - vs.toArray.size) undef) w :=
  {below:=Below.refl _ _
   mem:=hI
   ku:=Mem.dR I
   lp:=λ_ _ _ _=>rfl
   frame:=λ_ _ _=>rfl
   loc:=λ_=>trivial
   jc:=λid l b h=>by cases h
   size:=by simp; show vs.length+(fn.ntmps - vs.length)=fn.ntmps; omega
   env:=λt=>by
    unfold iu; split
    ·rename_i x hx; have ht:t<vs.length:=by rw[hv.1]; exact (List.getElem?_eq_some_iff.1 hx).1
     refine .p _ _ (hv.2 t _ x ?_ hx); rw[List.getElem?_eq_getElem ht]; simp[Array.getElem?_append,ht]
    ·exact .dead _
   dom:=λid l h=>by cases h
   chunk:=λid ch h=>by cases h
   fe:=λid l b h=>by cases h
   apart:=λi j li lj b h=>by cases h }
 refine wp_mono (om hm c _ C rfl _ _ I _ _ w h hs) ?_; rintro e a w' ⟨hd,env',H',I',L',hk,hs'⟩; have fin:(match atI P env' H' fn.results.toList with | some r=>Q r | none=>False)->bodyPost P fn (λe w'=>∃v r I',e = .returned v/\Q r/\VR I' v r/\Below w.heap.size w w'/\I.sub I'/\I'.zy w'/\∀b,b<w.heap.size->∀o,I' b o=I b o) .normal a w':=by
  intro hk; unfold atI at hk; split at hk
  ·rename_i r hr; split at hr
   ·rename_i av hav; split at hr
    ·rename_i x b hl; simp only[Option.some.injEq] at hr; subst hr; obtain⟨u,hru,hua⟩:=uq hs' hav; have hsub:I'.sub (I'.all C.B w'):=λb o u hu=>by
      unfold Mem.all; split
      ·exact hu
      ·exact hs'.mem b o u hu
     have acv:axU L' w' (I'.all C.B w'):=λid l b hl hlb o u hu=>by unfold Mem.all; rw[if_neg (by have:=(hs'.fe id l b hl hlb).1; omega)]; exact hu
     refine⟨hd,u,hru,u,x,I'.all C.B w',rfl,hk,(atw hs' (sK H') hsub (acv.g H') u av x b hua hl).1,hs'.below,Mem.lg hs'.ku hsub,?_,?_⟩
     ·intro b o u hu; unfold Mem.all at hu; split at hu
      ·exact hs'.mem b o u hu
      ·exact hu
     ·intro b hb o; unfold Mem.all; rw[if_pos (show b<C.B from hb)]; exact hs'.lp b hb (λh=>h) o
    ·cases hr
   ·cases hr
  ·exact hk.elim
 cases e with
 | normal=>exact fin hk
 | ret=>exact fin hk
 | exit id=>exact hk.elim
 | goto l=>exact hk.elim
 | panic c=>exact hk.elim
 | outgrown=>exact hk.elim
mutual
def oN (H:ay):AV->Option (RV×List Nat)
 | .p x=>some (.p x,[])
 | .row id bg=>match H id with
  | some (.row v e sz es)=>if v=bg then some (.row e sz es,[id]) else none
  | some (.shut v es)=>if v=bg then some (.p (.aU es),[]) else none
  | _=>none
 | .eC id bg=>match H id with
  | some (.deep v e sz k e' sz' es)=>if v=bg then some (.deep e sz k e' sz' es,[id]) else none
  | _=>none
 | .agg cs=>match vp H cs with
  | some (rs,ids)=>some (.agg rs,ids)
  | none=>none
 | .dB cs=>match vp H cs with
  | some (rs,ids)=>some (.dB rs,ids)
  | none=>none
 | _=>none
def vp (H:ay):List AV->Option (List RV×List Nat)
 | []=>some ([],[])
 | a :: r=>match oN H a,vp H r with
  | some (x,i),some (xs,j)=>some (x :: xs,i++j)
  | _,_=>none
end
inductive RLe:RV->RV->Prop
 | refl (r:RV):RLe r r
 | nil (e:TypeId) (sz:Nat) (h:0<sz):RLe (.p (.val (.slice none 0 0))) (.row e sz [])
 | aBn:RLe (.p (.val (.slice none 0 0))) (.p (.aU []))
 | agg (rs rs':List RV) (hl:rs'.length=rs.length) (h:∀ (j:Nat) r' r,rs'[j]? = some r'->rs[j]? = some r->RLe r' r):RLe (.agg rs') (.agg rs)
 | dB (rs rs':List RV) (hl:rs'.length=rs.length) (h:∀ (j:Nat) r' r,rs'[j]? = some r'->rs[j]? = some r->RLe r' r):RLe (.dB rs') (.dB rs)
def aAm (P:Program) (rs:List ResultVar) (Q:RV->Prop):pJ:=λe env H=>match e with
 | .normal | .ret=>(match oo P env H rs with
  | some a=>(match oN H a with
   | some (r,ids)=>ids.Nodup/\∃r',RLe r r'/\Q r'
   | none=>False)
  | none=>False)
 | _=>False
theorem RLe.sound {r r':RV} (h:RLe r r'):∀ {w:World} {B:Nat} {J:Mem} {u:Value} {bs:List Nat},vX w B J u r bs->vX w B J u r' bs:=by
 induction h with
 | refl r=>exact λh=>h
 | nil e sz hsz =>
  intro w B J u bs h; cases h with
  | p _ _ h=>cases h; exact .row (.slice none 0 0) e sz [] [] ⟨⟨by simp,.inl ⟨rfl,rfl⟩⟩,hsz,by simp,by simp,by simp,λb hb=>by simp[Value.ownBlock] at hb⟩ rfl
 | aBn =>
  intro w B J u bs h; cases h with
  | p _ _ h=>cases h; exact .p _ _ (.aU none 0 0 [] [] 1 rfl (by simp) rfl (by simp) (by simp) (.inl rfl) (λ_=>⟨rfl,rfl⟩) (Nat.le_refl _))
 | agg rs rs' hl h ih =>
  intro w B J u bs hr; cases hr with
  | agg us _ bs q1 q2 q3 q4 =>
   refine .agg us rs bs (q1.trans hl) q2 (λj u r b hu hr hb=>?_) q4; obtain⟨r',hr'⟩:∃r',rs'[j]? = some r':=by have hj:j<us.length:=(List.getElem?_eq_some_iff.1 hu).1; exact⟨rs'[j]'(by omega),by simp[q1 ▸ hj]⟩
   exact ih j r' r hr' hr (q3 j u r' b hu hr' hb)
 | dB rs rs' hl h ih =>
  intro w B J u bs hr; cases hr with
  | dB us _ bs q1 q2 q3 =>
   refine .dB us rs bs (q1.trans hl) q2 (λj u r b hu hr hb=>?_); obtain⟨r',hr'⟩:∃r',rs'[j]? = some r':=by have hj:j<us.length:=(List.getElem?_eq_some_iff.1 hu).1; exact⟨rs'[j]'(by omega),by simp[q1 ▸ hj]⟩
   exact ih j r' r hr' hr (q3 j u r' b hu hr' hb)
def mb (L:bt):List Nat->List Nat
 | []=>[]
 | id :: r=>(match L id with
  | some l=>l.aiT
  | none=>[])++mb L r
theorem alV (L:bt) (a b:List Nat):mb L (a++b)=mb L a++mb L b:=by
 induction a with
 | nil=>rfl
 | cons x r ih=>simp[mb,ih,List.append_assoc]
theorem aaA {L:bt} : ∀ {ids:List Nat} {b:Nat},b∈mb L ids->∃id l,id∈ids/\L id=some l/\l.has b
 | [],b,h=>by simp[mb] at h
 | id :: r,b,h=>by
  simp only[mb,List.mem_append] at h; rcases h with h | h
  ·cases hL:L id with
   | none=>rw[hL] at h; cases h
   | some l=>rw[hL] at h; exact⟨id,l,by simp,hL,Loc.aiU.1 h⟩
  ·obtain⟨i,l,h1,h2⟩:=aaA h; exact⟨i,l,by simp[h1],h2⟩
theorem gE.alW {C:Ctx} {H:ay} {env:Env} {tm:Array Value} {w:World} (hs:gE C env H I L tm w) {id:Nat} {l:Loc} (hl:L id=some l):l.aiT.Nodup:=by
 cases l with
 | box b=>simp[Loc.aiT]
 | row v bD sz=>show bD.ownBlock.toList.Nodup; generalize bD.ownBlock=x; cases x<;>simp
 | deep v bD sz sz' cT n =>
  obtain⟨ch,hch⟩:=hs.dom id _ hl; have hc:=hs.chunk id ch hch; cases ch with
  | box cs=>obtain⟨b,arr,e,h1,_⟩:=hc; rw[h1] at hl; cases hl
  | row v' e sz es=>obtain⟨eA,us,h1,_⟩:=hc; rw[h1] at hl; cases hl
  | shut v' es=>obtain⟨eA,sz,h1,_⟩:=hc; rw[h1] at hl; cases hl
  | tail v' e sz es=>obtain⟨g,o,cap,arr,h1,_⟩:=hc; rw[h1] at hl; cases hl
  | deep v' e sz1 k e' sz2 es=>obtain⟨eA,us,kG,h1,h2,h3,h4,h5,h6,h7⟩:=hc; rw[h1] at hl; simp only[Option.some.injEq,Loc.deep.injEq] at hl; obtain⟨_,rfl,_,_,rfl,rfl⟩:=hl; exact ahw h7
theorem abr {C:Ctx} {H:ay} {env:Env} {tm:Array Value} {w:World} (hs:gE C env H I L tm w):∀ {ids:List Nat},ids.Nodup->(mb L ids).Nodup
 | [],_=>by simp[mb]
 | id :: r,h=>by
  rw[List.nodup_cons] at h; simp only[mb,List.nodup_append]; refine⟨?_,abr hs h.2,?_⟩
  ·cases hL:L id with
   | none=>simp
   | some l=>exact hs.alW hL
  ·intro a ha b hb hab; subst hab; obtain⟨i,l,h1,h2,h3⟩:=aaA hb; cases hL:L id with
   | none=>rw[hL] at ha; cases ha
   | some l'=>rw[hL] at ha; have:=hs.apart id i l' l a hL h2 (Loc.aiU.1 ha) h3; subst this; exact h.1 h1
def aBo (C:Ctx) (I:Mem) (L:bt) (w:World) (H:ay) (a:AV):Prop:=∀u r ids,dU I L u a->oN H a=some (r,ids)->vX w C.B I u r (mb L ids)
def aBp (C:Ctx) (I:Mem) (L:bt) (w:World) (H:ay) (en:List AV):Prop :=
 ∀us rs ids,nZ I L us en->vp H en=some (rs,ids)->us.length=rs.length/\∃bs:List (List Nat),us.length=bs.length/\bs.flatten=mb L ids /\
  ∀ (j:Nat) u r b,us[j]? = some u->rs[j]? = some r->bs[j]? = some b->vX w C.B I u r b
theorem axW {C:Ctx} {H:ay} {env:Env} {tm:Array Value} {w:World} (hs:gE C env H I L tm w) (a:AV):aBo C I L w H a:=by
 refine AV.rec (motive_1:=aBo C I L w H) (motive_2:=aBp C I L w H) ?_ ?_ ?_ ?_ ?_ ?_ ?_ ?_ ?_ ?_ ?_ ?_ ?_ ?_ ?_ ?_ a
 ·intro x u r ids hu hr; simp only[oN,Option.some.injEq,Prod.mk.injEq] at hr; obtain⟨rfl,rfl⟩:=hr; exact .p _ _ hu.mS
 ·intro id bg u r ids hu hr; simp only[oN] at hr; split at hr
  ·rename_i v e sz es hH; split at hr
   ·rename_i hv; subst hv; simp only[Option.some.injEq,Prod.mk.injEq] at hr; obtain⟨rfl,rfl⟩:=hr; obtain⟨bD,us,h1,h2,h3,h4,h5,h6,h7⟩:=hs.chunk id _ hH; cases hu with
    | row _ _ _ v1 js sz1 hl hle hh hone =>
     rw[h1] at hl; simp only[Option.some.injEq,Loc.row.injEq] at hl; obtain⟨r1,r2,r3⟩:=hl; subst r1 r2 r3; have hxe:=hh rfl; subst hxe; have hb:mb L [id]=u.ownBlock.toList:=by simp[mb,h1,Loc.aiT]
     rw[hb]; exact .row u e sz es us ⟨h2,h3,h4,h5,h6,h7⟩ hone
   ·cases hr
  ·rename_i v es hH; split at hr
   ·rename_i hv; subst hv; simp only[Option.some.injEq,Prod.mk.injEq] at hr; obtain⟨rfl,rfl⟩:=hr; obtain⟨bD,sz,h1,h2,_⟩:=hs.chunk id _ hH; cases hu with
    | row _ _ _ v1 js sz1 hl hle hh hone=>rw[h1] at hl; simp only[Option.some.injEq,Loc.row.injEq] at hl; obtain⟨r1,r2,r3⟩:=hl; subst r1 r2 r3; rw[hh rfl]; exact .p _ _ h2
   ·cases hr
  ·cases hr
 ·intro id off u r ids hu hr; simp[oN] at hr
 ·intro id bg i off u r ids hu hr; simp[oN] at hr
 ·intro cs ih u r ids hu hr; simp only[oN] at hr; split at hr
  ·rename_i rs ids' hrs; simp only[Option.some.injEq,Prod.mk.injEq] at hr; obtain⟨rfl,rfl⟩:=hr; cases hu with
   | agg us _ hl hv hone=>obtain⟨k1,bs,k2,k3,k4⟩:=ih us rs ids' ⟨hl,hv⟩ hrs; rw[<-k3]; exact .agg us rs bs k1 k2 k4 hone
  ·cases hr
 ·intro cs ih u r ids hu hr; simp only[oN] at hr; split at hr
  ·rename_i rs ids' hrs; simp only[Option.some.injEq,Prod.mk.injEq] at hr; obtain⟨rfl,rfl⟩:=hr; cases hu with
   | dB us _ hl hv=>obtain⟨k1,bs,k2,k3,k4⟩:=ih us rs ids' ⟨hl,hv⟩ hrs; rw[<-k3]; exact .dB us rs bs k1 k2 k4
  ·cases hr
 ·intro fn fs cs _ _ u r ids hu hr; simp[oN] at hr
 ·intro id bg u r ids hu hr; simp only[oN] at hr; split at hr
  ·rename_i v e sz k e' sz' es hH; split at hr
   ·rename_i hv; subst hv; simp only[Option.some.injEq,Prod.mk.injEq] at hr; obtain⟨rfl,rfl⟩:=hr; obtain⟨bD,us,cT,h1,h2,h3,h4,h5,h6,h7⟩:=hs.chunk id _ hH; have hb:mb L [id]=xQ bD cT es.length:=by simp[mb,h1,Loc.aiT]
    rw[hb]; cases hu with
    | eC _ _ _ v1 js _ _ p4 n1 hl hle hh hone=>rw[h1] at hl; simp only[Option.some.injEq,Loc.deep.injEq] at hl; obtain⟨e1,e2,e3,e4,e5,e6⟩:=hl; subst e1 e2 e3 e4 e5 e6; rw[hh rfl]; exact .deep bD e sz k e' sz' es us cT h2 h3 h4 h5 h6 h7
   ·cases hr
  ·cases hr
 ·intro id bg i off u r ids hu hr; simp[oN] at hr
 ·intro id bg i u r ids hu hr; simp[oN] at hr
 ·intro id bg i j off u r ids hu hr; simp[oN] at hr
 ·intro id n u r ids hu hr; simp[oN] at hr
 ·intro id bg off n m sz u r ids hu hr; simp[oN] at hr
 ·intro u r ids hu hr; simp[oN] at hr
 ·intro us rs ids hu hr; simp only[vp,Option.some.injEq,Prod.mk.injEq] at hr; obtain⟨rfl,rfl⟩:=hr; exact⟨hu.1,[],hu.1,rfl,by simp⟩
 ·intro a en ih1 ih2 us rs ids hu hr; simp only[vp] at hr; split at hr
  ·rename_i x i xs j hx hxs; simp only[Option.some.injEq,Prod.mk.injEq] at hr; obtain⟨rfl,rfl⟩:=hr; cases us with
   | nil=>have:=hu.1; simp at this
   | cons u us =>
    obtain⟨k1,bs,k2,k3,k4⟩:=ih2 us xs j ⟨by simpa using hu.1,λj u c hu' hc=>hu.2 (j+1) u c hu' hc⟩ hxs; have k0:=ih1 u x i (hu.2 0 u a rfl rfl) hx; refine⟨by simp[k1],mb L i :: bs,by simp[k2],by rw[List.flatten_cons,k3,alV],λj v r b hv hr hb=>?_⟩; cases j with
    | zero=>simp at hv hr hb; subst hv hr hb; exact k0
    | succ j=>exact k4 j v r b (by simpa using hv) (by simpa using hr) (by simpa using hb)
  ·cases hr
theorem vX.low {w:World} {B B':Nat} {J:Mem} {u:Value} {r:RV} {bs:List Nat} (h:vX w B J u r bs) (hB:B=B'):vX w B' J u r bs:=hB ▸ h
theorem ajd {f:FuncId} {fn:Func} {c:Code} {args:List PV} {Q:RV->Prop} (own:List Nat) (hm:P.follows .mixedOrders=true) (hf:P.funcs[f]? = some fn) (hb:fn.body=some c)
  (hc:gL P f=true) (hn:args.length<=fn.ntmps) (h:cw P fn.ntmps own c (aAm P fn.results.toList Q) (iu args) b8):bu P f args Q:=by
 refine⟨hc,λI w vs hI hv=>calls_of_wp hf hb ?_⟩; let C:Ctx:=Ctx.of w I fn.ntmps; have hlen:vs.length<=fn.ntmps:=by rw[hv.1]; exact hn
 have hs:gE C (iu args) b8 I (λ_=>none) (vs.toArray++Array.replicate (fn.ntmps - vs.toArray.size) undef) w :=
  {below:=Below.refl _ _
   mem:=hI
   ku:=Mem.dR I
   lp:=λ_ _ _ _=>rfl
   frame:=λ_ _ _=>rfl
   loc:=λ_=>trivial
   jc:=λid l b h=>by cases h
   size:=by simp; show vs.length+(fn.ntmps - vs.length)=fn.ntmps; omega
   env:=λt=>by
    unfold iu; split
    ·rename_i x hx; have ht:t<vs.length:=by rw[hv.1]; exact (List.getElem?_eq_some_iff.1 hx).1
     refine .p _ _ (hv.2 t _ x ?_ hx); rw[List.getElem?_eq_getElem ht]; simp[Array.getElem?_append,ht]
    ·exact .dead _
   dom:=λid l h=>by cases h
   chunk:=λid ch h=>by cases h
   fe:=λid l b h=>by cases h
   apart:=λi j li lj b h=>by cases h }
 refine wp_mono (om hm c _ C rfl _ _ I _ _ w h hs) ?_; rintro e a w' ⟨hd,env',H',I',L',hk,hs'⟩; have fin:(match oo P env' H' fn.results.toList with
  | some a=>(match oN H' a with
   | some (r,ids)=>ids.Nodup/\∃r',RLe r r'/\Q r'
   | none=>False)
  | none=>False)->bodyPost P fn (λe w'=>∃v r bs I',e = .returned v/\Q r/\vX w' w.heap.size I' v r bs/\bs.Nodup/\(∀b∈bs,w.heap.size<=b/\b<w'.heap.size) /\
   Below w.heap.size w w'/\I.sub I'/\I'.zy w'/\∀b,b<w.heap.size->∀o,I' b o=I b o) .normal a w':=by
  intro hk; split at hk
  ·rename_i av hav; split at hk
   ·rename_i r ids hr; obtain⟨hnd,r',hle,hq⟩:=hk; obtain⟨u,hru,hua⟩:=uq hs' hav; exact⟨hd,u,hru,u,r',mb L' ids,I',rfl,hq,hle.sound (axW hs' av u r ids hua hr),abr hs' hnd,λb hb=>by
     obtain⟨i,l,_,h2,h3⟩:=aaA hb; exact hs'.fe i l b h2 h3,hs'.below,hs'.ku,hs'.mem,λb hb o=>hs'.lp b hb (λh=>h) o⟩
   ·exact hk.elim
  ·exact hk.elim
 cases e with
 | normal=>exact fin hk
 | ret=>exact fin hk
 | exit id=>exact hk.elim
 | goto l=>exact hk.elim
 | panic c=>exact hk.elim
 | outgrown=>exact hk.elim
def adm (en:List AV):Env:=λt=>match en[t]? with
 | some a=>a
 | none=>.dead
def aAn (P:Program) (rs:List ResultVar) (Q:AV->Option Chunk->Prop):pJ:=λe env H=>match e with
 | .normal | .ret=>(match oo P env H rs with
  | some a=>Q a (H 1000000)
  | none=>False)
 | _=>False
theorem lW {f:FuncId} {fn:Func} {c:Code} {v:Nat} {e:TypeId} {sz:Nat} {es:List (List PV)} {ps:List PV} {Q:AV->Option Chunk->Prop} (own:List Nat) (hm:P.follows .mixedOrders=true) (hf:P.funcs[f]? = some fn) (hb:fn.body=some c)
  (hc:gL P f=true) (hn:ps.length+1<=fn.ntmps) (h:cw P fn.ntmps own c (aAn P fn.results.toList Q) (adm (.row 1000000 v :: ps.map AV.p)) (bl b8 1000000 (.row v e sz es))):j5 P f v e sz es ps Q:=by
 refine⟨hc,λB I w bD us vs hB hI hr h1 hv=>calls_of_wp hf hb ?_⟩; let C:Ctx:=Ctx.atC w I fn.ntmps B v sz bD hB; let L:bt:=λi=>if i=1000000 then some (.row v bD sz) else none
 have hlen:(bD :: vs).length<=fn.ntmps:=by have:=hv.1; simp only[List.length_cons]; omega
 have hL:∀i l,L i=some l->i=1000000/\l = .row v bD sz:=λi l h=>by
  simp only[L] at h; split at h
  ·rename_i hi; exact⟨hi,by simpa using h.symm⟩
  ·cases h
 have hs:gE C (adm (.row 1000000 v :: ps.map AV.p)) (bl b8 1000000 (.row v e sz es)) I L ((bD :: vs).toArray++Array.replicate (fn.ntmps - (bD :: vs).toArray.size) undef) w :=
  {below:=Below.refl _ _
   mem:=hI
   ku:=Mem.dR I
   lp:=λ_ _ _ _=>rfl
   frame:=λ_ _ _=>rfl
   loc:=dx.refl _
   jc:=λid l b hl hb=>by obtain⟨_,rfl⟩:=hL id l hl; exact .inr hb
   size:=by simp only[Array.size_append,List.size_toArray,Array.size_replicate]; show (bD :: vs).length+(fn.ntmps - (bD :: vs).length)=fn.ntmps; omega
   env:=λt=>by
    unfold adm; split
    ·rename_i a ha; have htl:t<(bD :: vs).length:=by have:=(List.getElem?_eq_some_iff.1 ha).1; simp only[List.length_cons,List.length_map] at this ⊢; rw[hv.1]; exact this
     have uN:((bD :: vs).toArray++Array.replicate (fn.ntmps - (bD :: vs).toArray.size) undef).getD t undef=(bD :: vs)[t]:=by simp only[Array.getD_eq_getD_getElem?,Array.getElem?_append,List.size_toArray,if_pos htl,List.getElem?_toArray,List.getElem?_eq_getElem htl,Option.getD_some]
     rw[uN]; cases t with
     | zero=>simp at ha; subst ha; exact .row bD 1000000 v v bD sz (by simp[L]) (Nat.le_refl _) (λ_=>rfl) h1
     | succ t =>
      simp only[List.getElem?_cons_succ,List.getElem?_map] at ha; cases hp:ps[t]? with
      | none=>rw[hp] at ha; cases ha
      | some p =>
       rw[hp] at ha; simp only[Option.map_some,Option.some.injEq] at ha; subst ha; have htv:t<vs.length:=by simpa using htl
       exact .p _ _ (hv.2 t _ p (by simp[htv]) hp)
    ·exact .dead _
   dom:=λid l hl=>by obtain⟨rfl,_⟩:=hL id l hl; exact⟨_,by simp[bl]; rfl⟩
   chunk:=λid ch hch=>by
    unfold bl at hch; split at hch
    ·rename_i hi; subst hi; simp only[Option.some.injEq] at hch; subst hch; exact⟨bD,us,by simp[L],hr.own,hr.pos,hr.all,hr.val,hr.one,hr.free⟩
    ·cases hch
   fe:=λid l b hl hb=>by obtain⟨_,rfl⟩:=hL id l hl; exact uM hr.own hb
   apart:=λi j li lj b hi hj _ _=>by
    rw[(hL i li hi).1,(hL j lj hj).1] }
 refine wp_mono (om hm c _ C rfl _ _ I L _ w h hs) ?_; rintro x a w' ⟨hd,env',H',I',L',hk,hs'⟩; have fin:(match oo P env' H' fn.results.toList with
  | some a=>Q a (H' 1000000)
  | none=>False)->bodyPost P fn (λx w'=>∃u a H' I' L',x = .returned u/\Q a (H' 1000000)/\dU I' L' u a/\gE (Ctx.atC w I 0 B v sz bD hB) fA H' I' L' #[] w') .normal a w':=by
  intro hk; split at hk
  ·rename_i av hav; obtain⟨u,hru,hua⟩:=uq hs' hav; refine⟨hd,u,hru,u,av,H',I',L',rfl,hk,hua,?_⟩; exact
   {below:=hs'.below
    mem:=hs'.mem
    ku:=hs'.ku
    lp:=hs'.lp
    frame:=hs'.frame
    loc:=hs'.loc
    jc:=hs'.jc
    size:=rfl
    env:=λt=>.dead _
    dom:=hs'.dom
    chunk:=hs'.chunk
    fe:=hs'.fe
    apart:=hs'.apart }
  ·exact hk.elim
 cases x with
 | normal=>exact fin hk
 | ret=>exact fin hk
 | exit id=>exact hk.elim
 | goto l=>exact hk.elim
 | panic c=>exact hk.elim
 | outgrown=>exact hk.elim
end Go.cE
namespace Go.cE
open Go.RowKit
section
variable {P:Program} {N:Nat} {own:List Nat} {ops:Array Oper} {K:Env->ay->Prop} {env:Env} {H:ay}
def aje (P:Program) (N:Nat) (own:List Nat) (ops:Array Oper) (r:Option (Prop×AV×ay)) (o:Oper) (rest:List Oper) (K:Env->ay->Prop) (env:Env) (H:ay):Prop:=match r with
 | some (pre,v,H')=>pre/\walk P N own ops rest K (cA env o.dst v) H'
 | none=>iL P o (walk P N own ops rest K) env H
def z8 (P:Program) (N:Nat) (own:List Nat) (ops:Array Oper) (g:Option Bool) (o:Oper) (rest:List Oper) (K:Env->ay->Prop) (env:Env) (H:ay):Prop:=match g with
 | some true=>aje P N own ops (fI P own o (ev env) H) o rest K env H
 | some false=>walk P N own ops rest K (cA env o.dst (.dB [])) H
 | none=>False
theorem atJ:walk P N own ops [] K env H=K env H:=rfl
theorem apO (o:Oper) (rest:List Oper):walk P N own ops (o :: rest) K env H=(vn N o.dst/\z8 P N own ops (l8 ops o env) o rest K env H):=by rw[walk]; unfold z8 aje; congr 1
theorem alX (o:Oper) (rest:List Oper):z8 P N own ops (some true) o rest K env H=aje P N own ops (fI P own o (ev env) H) o rest K env H:=rfl
theorem ajf (o:Oper) (rest:List Oper):z8 P N own ops (some false) o rest K env H=walk P N own ops rest K (cA env o.dst (.dB [])) H:=rfl
theorem alY (pre:Prop) (v:AV) (H':ay) (o:Oper) (rest:List Oper):aje P N own ops (some (pre,v,H')) o rest K env H=(pre/\walk P N own ops rest K (cA env o.dst v) H'):=rfl
theorem alZ (o:Oper) (rest:List Oper):aje P N own ops none o rest K env H=iL P o (walk P N own ops rest K) env H:=rfl
theorem al0 (d:Nat):vn N (some d)=(d<N):=rfl
theorem al1:vn N none=True:=rfl
theorem apP (d:Nat) (v:AV):cA env (some d) v=ct env d v:=rfl
theorem apQ (v:AV):cA env none v=env:=rfl
theorem ajg (d:Option Tmp) (op:Op) (t:TypeId) (pos:String) (a:Array Edge):l8 ops ⟨d,op,t,pos,a,none⟩ env=some true:=rfl
def acz (v:AV) (want:Bool):Option Bool:=match v with
 | .p (.val (.bool b))=>some (b == want)
 | .dB []=>some false
 | _=>none
def al2 (d:Option Tmp) (want:Bool) (env:Env):Option Bool:=match d with
 | some d=>acz (env d) want
 | none=>none
theorem ajh (d:Option Tmp) (op:Op) (t:TypeId) (pos:String) (a:Array Edge) (j:Nat) (want:Bool):l8 ops ⟨d,op,t,pos,a,some (j,want)⟩ env=al2 ((ops[j]?).bind (·.dst)) want env:=by unfold l8 al2 acz; rfl
theorem aji (d:Tmp) (want:Bool):al2 (some d) want env=acz (env d) want:=rfl
theorem al3 (want:Bool):acz (.dB []) want=some false:=rfl
theorem atK (b:Bool):acz (.p (.val (.bool b))) true=some b:=by cases b<;>rfl
theorem atL (b:Bool):acz (.p (.val (.bool b))) false=some (!b):=by cases b<;>rfl
def up3 (r:Option (Prop×AV)) (H:ay):Option (Prop×AV×ay):=match r with
 | some (pre,v)=>some (pre,v,H)
 | none=>none
theorem atM (pre:Prop) (v:AV):up3 (some (pre,v)) H=some (pre,v,H):=rfl
theorem atN:up3 none H=none:=rfl
variable (d:Option Tmp) (ty:TypeId) (pos:String) (af:Array Edge) (g:Option (Nat×Bool)) (ρ:Operand->AV)
theorem apR (own:List Nat) (op:Op) (k:Tmp):fI P own ⟨some k,op,ty,pos,af,g⟩ ρ H=if own.contains k=true then orE (exN P ⟨some k,op,ty,pos,af,g⟩ ρ H k) (isApp op) (fW P ⟨some k,op,ty,pos,af,g⟩ ρ H) else fW P ⟨some k,op,ty,pos,af,g⟩ ρ H:=rfl
theorem al4 (own:List Nat) (op:Op):fI P own ⟨none,op,ty,pos,af,g⟩ ρ H=fW P ⟨none,op,ty,pos,af,g⟩ ρ H:=rfl
theorem atO (x:Operand):fW P ⟨d,.move x,ty,pos,af,g⟩ ρ H=some (True,ρ x,H):=rfl
theorem al5 (x:Operand):fW P ⟨d,.assign x,ty,pos,af,g⟩ ρ H=some (True,ρ x,H):=rfl
theorem atP (c a b:Operand):fW P ⟨d,.pick c a b,ty,pos,af,g⟩ ρ H=up3 (agl (ρ c) (ρ a) (ρ b)) H:=by simp only[fW,nH,ri,mw,w8,xO,vP,xb,up3]; try (cases agl (ρ c) (ρ a) (ρ b)<;>rfl)
theorem ajj (x:Operand) (k:Nat):fW P ⟨d,.extract x k,ty,pos,af,g⟩ ρ H=up3 (sY (ρ x) k) H:=by simp only[fW,nH,ri,mw,w8,xO,vP,xb,up3]; try (cases sY (ρ x) k<;>rfl)
theorem apS (op:BinOp) (t u:TypeId) (x y:Operand):fW P ⟨d,.binOp op t x y u,ty,pos,af,g⟩ ρ H=up3 (oM P op t (ρ x) (ρ y)) H:=by simp only[fW,nH,ri,mw,w8,xO,vP,xb,up3]; try (cases oM P op t (ρ x) (ρ y)<;>rfl)
theorem atQ (op:UnOp) (t:TypeId) (x:Operand):fW P ⟨d,.unOp op t x,ty,pos,af,g⟩ ρ H=up3 (unX op (ρ x)) H:=by simp only[fW,nH,ri,mw,w8,xO,vP,xb,up3]; try (cases unX op (ρ x)<;>rfl)
theorem ahQ (fn:Fn) (f c:Array Operand):fW P ⟨d,.makeFunc fn f c,ty,pos,af,g⟩ ρ H=some (True,ai0 fn (f.toList.map ρ) (c.toList.map ρ),H):=rfl
theorem apT (t:TypeId) (ps:Array (Nat×Operand)):fW P ⟨d,.build t ps,ty,pos,af,g⟩ ρ H=up3 (aco P t (ps.toList.map λx=>(x.1,ρ x.2))) H:=by simp only[fW,nH,ri,mw,w8,xO,vP,xb,up3]; try (cases aco P t (ps.toList.map λx=>(x.1,ρ x.2))<;>rfl)
theorem apU (t:TypeId) (x i:Operand):fW P ⟨d,.index t x i,ty,pos,af,g⟩ ρ H=up3 (alJ P t (ρ x) (ρ i)) H:=by simp only[fW,nH,ri,mw,w8,xO,vP,xb,up3]; try (cases alJ P t (ρ x) (ρ i)<;>rfl)
theorem apV (t:TypeId) (x:Operand) (lo hi mx:Option Operand):fW P ⟨d,.slice t x lo hi mx,ty,pos,af,g⟩ ρ H=up3 (rJ P t (ρ x) (lo.map ρ) (hi.map ρ) (mx.map ρ)) H:=by simp only[fW,nH,ri,mw,w8,xO,vP,xb,up3]; try (cases rJ P t (ρ x) (lo.map ρ) (hi.map ρ) (mx.map ρ)<;>rfl)
theorem ahR (x:Operand):fW P ⟨d,.nilCheck x,ty,pos,af,g⟩ ρ H=up3 (apB (ρ x)) H:=by simp only[fW,nH,ri,mw,w8,xO,vP,xb,up3]; try (cases apB (ρ x)<;>rfl)
def aeq (P:Program) (t:TypeId) (a:AV) (H:ay):Option (Prop×AV×ay):=match a with
 | .p (.dJ cs off)=>(match qY P t cs off with | some x=>some (True,.p x,H) | none=>none)
 | .ptr id off => (match H id with
   | some (.box cs)=>match qX P t cs off with | some v=>some (True,v,H) | none=>none
   | _=>none)
 | .iO id bg i off => (match rowOf H id bg with
   | some es=>match qY P t (es.getD i []) off with | some x=>some (i<es.length/\0<(es.getD i []).length,.p x,H) | none=>none
   | none=>none)
 | .j0 id bg i off => (match cB H id bg with
   | some (k,es)=>match qX P t (aau id bg i k (es.getD i [])) off with | some v=>some (i<es.length,v,H) | none=>none
   | none=>none)
 | .mu id bg i j off => (match mz (cB H id bg) i with
   | some l=>match qY P t (l.getD j []) off with | some x=>some (j<l.length,.p x,H) | none=>none
   | none=>none)
 | _=>none
theorem atS (t:TypeId) (a:Operand):fW P ⟨d,.load t a,ty,pos,af,g⟩ ρ H=aeq P t (ρ a) H:=by
  simp only[fW,nH,ri,mw,w8,xO,vP,xb,aoF,aeq]; generalize ρ a=v; cases v with
  | p x => cases x <;> simp only []
           case dJ cs off=>cases qY P t cs off<;>rfl
  | ptr id off =>
    simp only[]; cases H id with
    | none=>rfl
    | some c=>cases c with
      | box cs=>simp only[]; cases qX P t cs off<;>rfl
      | _=>rfl
  | iO id bg i off =>
    simp only[]; cases rowOf H id bg with
    | none=>rfl
    | some es=>simp only[]; cases qY P t (es.getD i []) off<;>rfl
  | j0 id bg i off =>
    simp only[]; cases cB H id bg with
    | none=>rfl
    | some r=>obtain⟨k,es⟩:=r; simp only[]; cases qX P t (aau id bg i k (es.getD i [])) off<;>rfl
  | mu id bg i j off =>
    simp only[]; cases mz (cB H id bg) i with
    | none=>rfl
    | some l=>simp only[]; cases qY P t (l.getD j []) off<;>rfl
  | _=>rfl
def acA (P:Program) (f:Option (Nat×Nat)) (a:AV) (H:ay):Option (Prop×AV×ay):=match f with
 | some (o,n)=>(match a with
  | .p (.dJ cs off)=>some (n≠0,.p (.dJ cs (off+o)),H)
  | .ptr id off=>some (n≠0,.ptr id (off+o),H)
  | .iO id bg i off=>(match rowOf H id bg with
   | some _=>some (n≠0,.iO id bg i (off+o),H)
   | none=>none)
  | .j0 id bg i off=>(match cB H id bg with
   | some _=>some (n≠0,.j0 id bg i (off+o),H)
   | none=>none)
  | _=>none)
 | none=>none
theorem afP (s:TypeId) (a:Operand) (k:Nat):fW P ⟨d,.fieldAddr s a k,ty,pos,af,g⟩ ρ H=acA P (bV P s k) (ρ a) H:=by
 simp only[fW,nH,ri,mw,w8,xO,vP,xb,ahA,acA]; generalize ρ a=v; cases bV P s k with
 | none=>cases v<;>rfl
 | some x =>
  obtain⟨o,n⟩:=x; cases v with
  | p x=>cases x<;>rfl
  | iO id bg i off=>simp only[]; cases rowOf H id bg<;>rfl
  | j0 id bg i off=>simp only[]; cases cB H id bg<;>rfl
  | _=>rfl
def oc (P:Program) (t:TypeId) (x i:AV) (H:ay):Option (Prop×AV×ay):=match x with
 | .row id bg=>(match i with
  | .p (.val (.int _ n))=>(match rowOf H id bg,cH P t with
   | some es,some e=>(match bw P e with
    | some sz=>some ((0<=n/\n<es.length)/\(es.getD n.toNat []).length=sz/\0<sz,.iO id bg n.toNat 0,H)
    | none=>none)
   | _,_=>none)
  | _=>none)
 | .eC id bg=>(match i with
  | .p (.val (.int _ n))=>(match cB H id bg,cH P t with
   | some (_,es),some e=>(match bw P e with
    | some sz=>some ((0<=n/\n<es.length)/\(es.getD n.toNat []).length=sz,.j0 id bg n.toNat 0,H)
    | none=>none)
   | _,_=>none)
  | _=>none)
 | .j4 id bg ii=>(match i with
  | .p (.val (.int _ n))=>(match mz (cB H id bg) ii,cH P t with
   | some l,some e=>(match bw P e with
    | some sz=>some ((0<=n/\n<l.length)/\(l.getD n.toNat []).length=sz,.mu id bg ii n.toNat 0,H)
    | none=>none)
   | _,_=>none)
  | _=>none)
 | .gU id bg off m _ _=>(match i with
  | .p (.val (.int _ n))=>(match acq H id bg,cH P t with
   | some (sz,es),some e=>(match bw P e with
    | some sz'=>some ((0<=n/\n<m/\off+m<=es.length)/\sz'=sz,.iO id bg (off+n.toNat) 0,H)
    | none=>none)
   | _,_=>none)
  | _=>none)
 | x=>up3 (n9 P t x i) H
theorem afQ (t:TypeId) (x i:Operand):fW P ⟨d,.indexAddr t x i,ty,pos,af,g⟩ ρ H=oc P t (ρ x) (ρ i) H:=by
 simp only[fW,nH,ri,mw,w8,xO,vP,xb,oc]; generalize ρ x=v; generalize ρ i=u; cases v with
 | row id bg =>
  have:n9 P t (.row id bg) u=none:=by
   unfold n9; cases u with
   | p y=>cases y with
    | val z=>cases z<;>rfl
    | _=>rfl
   | _=>rfl
  rw[this]; simp only[]; cases u with
  | p y=>cases y with
   | val z=>cases z with
    | int k n =>
     simp only[]; cases rowOf H id bg<;>cases cH P t<;>simp only[]
     rename_i es e; cases bw P e<;>rfl
    | _=>rfl
   | _=>rfl
  | _=>rfl
 | eC id bg =>
  have:n9 P t (.eC id bg) u=none:=by
   unfold n9; cases u with
   | p y=>cases y with
    | val z=>cases z<;>rfl
    | _=>rfl
   | _=>rfl
  rw[this]; simp only[]; cases u with
  | p y=>cases y with
   | val z=>cases z with
    | int k n =>
     simp only[]; cases cB H id bg<;>cases cH P t<;>simp only[]
     rename_i r e; obtain⟨_,es⟩:=r; simp only[]; all_goals(cases bw P e<;>rfl)
    | _=>rfl
   | _=>rfl
  | _=>rfl
 | j4 id bg ii =>
  have:n9 P t (.j4 id bg ii) u=none:=by
   unfold n9; cases u with
   | p y=>cases y with
    | val z=>cases z<;>rfl
    | _=>rfl
   | _=>rfl
  rw[this]; simp only[]; cases u with
  | p y=>cases y with
   | val z=>cases z with
    | int k n =>
     simp only[]; cases mz (cB H id bg) ii<;>cases cH P t<;>simp only[]
     rename_i l e; cases bw P e<;>rfl
    | _=>rfl
   | _=>rfl
  | _=>rfl
 | gU id bg off m m' z =>
  have:n9 P t (.gU id bg off m m' z) u=none:=by
   unfold n9; cases u with
   | p y=>cases y with
    | val z=>cases z<;>rfl
    | _=>rfl
   | _=>rfl
  rw[this]; simp only[]; cases u with
  | p y=>cases y with
   | val z=>cases z with
    | int k n =>
     simp only[]; cases acq H id bg<;>cases cH P t<;>simp only[]
     rename_i r e; obtain⟨sz,es⟩:=r; simp only[]; all_goals(cases bw P e<;>rfl)
    | _=>rfl
   | _=>rfl
  | _=>rfl
 | _=>simp only[]; generalize n9 P t _ u=r; cases r<;>rfl
theorem apW (t:TypeId) (a x:Operand):fW P ⟨d,.store t a x,ty,pos,af,g⟩ ρ H=vP P ⟨d,.store t a x,ty,pos,af,g⟩ ρ H:=by simp only[fW,nH,ri,mw,w8,xO,xb]; split<;>simp_all
theorem apX (t:TypeId):fW P ⟨d,.alloc t,ty,pos,af,g⟩ ρ H=vP P ⟨d,.alloc t,ty,pos,af,g⟩ ρ H:=by simp only[fW,nH,ri,mw,w8,xO,xb]; split<;>simp_all
theorem axX (t:TypeId) (x:Operand):fW P ⟨d,.box t x,ty,pos,af,g⟩ ρ H=vP P ⟨d,.box t x,ty,pos,af,g⟩ ρ H:=by simp only[fW,nH,ri,mw,w8,xO,xb]; split<;>simp_all
theorem aer (f:Operand) (args:Array Operand) (ts:Array TypeId):fW P ⟨d,.call ⟨.value f,args,ts⟩,ty,pos,af,g⟩ ρ H=none:=rfl
def adI (P:Program) (t:TypeId) (a:AV) (H:ay):Option (Prop×AV×ay):=match a with
 | .row id bg=>(match rowOf H id bg with
  | some es=>up3 (p5 P t (.p (.aU es))) H
  | none=>none)
 | .eC id bg=>(match cB H id bg with
  | some (_,es)=>up3 (p5 P t (.p (.aU es))) H
  | none=>none)
 | .j4 id bg i=>(match mz (cB H id bg) i with
  | some l=>up3 (p5 P t (.p (.aU l))) H
  | none=>none)
 | a=>up3 (p5 P t a) H
theorem pK (t:TypeId) (a:Operand):fW P ⟨d,.call ⟨.builtin .len,#[a],#[t]⟩,ty,pos,af,g⟩ ρ H=adI P t (ρ a) H:=by
 simp only[fW,nH,ri,mw,w8,xO,vP,xb,adI,sZ,List.map_cons,List.map_nil]; generalize ρ a=v; cases v with
 | row id bg =>
  have:p5 P t (.row id bg)=none:=rfl; rw[this]; simp only[]; cases rowOf H id bg with
  | none=>rfl
  | some es=>simp only[]; generalize p5 P t _=r; cases r<;>rfl
 | eC id bg =>
  have:p5 P t (.eC id bg)=none:=rfl; rw[this]; simp only[]; cases cB H id bg with
  | none=>rfl
  | some r=>obtain⟨_,es⟩:=r; simp only[]; generalize p5 P t _=r; cases r<;>rfl
 | j4 id bg i =>
  have:p5 P t (.j4 id bg i)=none:=rfl; rw[this]; simp only[]; cases mz (cB H id bg) i with
  | none=>rfl
  | some l=>simp only[]; generalize p5 P t _=r; cases r<;>rfl
 | _=>simp only[]; generalize p5 P t _=r; cases r<;>rfl
def adJ (P:Program) (t1 t2:TypeId) (a b:AV) (H:ay):Option (Prop×AV×ay):=match acp P t1 t2 a b with
 | some (pre,v)=>some (pre,v,H)
 | none=>abm P t1 t2 a b H
theorem aes (t1 t2:TypeId) (a b:Operand):fW P ⟨d,.call ⟨.builtin .append,#[a,b],#[t1,t2]⟩,ty,pos,af,g⟩ ρ H=adJ P t1 t2 (ρ a) (ρ b) H:=by
 simp only[fW,nH,ri,mw,w8,xO,vP,xb,adJ,sZ,List.map_cons,List.map_nil]; cases acp P t1 t2 (ρ a) (ρ b) with
 | some r=>rfl
 | none=>simp only[]; cases abm P t1 t2 (ρ a) (ρ b) H<;>rfl
def ahS (P:Program) (t:TypeId) (n:Nat) (parts:List (Nat×AV)) (H:ay):Option (Prop×AV×ay):=match kW P t n parts with
 | some (_,es)=>(match n with
  | 0=>some (True,.p .emp,H)
  | _=>some (True,.p (.aU es),H))
 | none=>match kW P t n (parts.map λx=>(x.1,w9 (cO (oa parts) H) x.2)) with
  | some (_,es)=>some (True,.p (.aU es),cO (oa parts) H)
  | none=>none
theorem aet (t:TypeId) (n:Nat) (ps:Array (Nat×Operand)):fW P ⟨d,.buildSlice t n ps,ty,pos,af,g⟩ ρ H=ahS P t n (ps.toList.map λx=>(x.1,ρ x.2)) H:=by
 simp only[fW,nH,ri,mw,w8,xO,vP,xb,ahS]; cases kW P t n (ps.toList.map λx=>(x.1,ρ x.2)) with
 | some r=>obtain⟨e,es⟩:=r; cases n<;>rfl
 | none=>rfl
end
section
variable {P:Program} {N:Nat} {own:List Nat} {K:pJ} {env:Env} {H:ay}
def axY (P:Program) (N:Nat) (own:List Nat) (b:Code) (K:pJ):pJ:=λx e' H'=>match x with
 | .normal=>cw P N own b K e' H'
 | x=>K x e' H'
def ahT (id:Nat) (K:pJ):pJ:=λx e' H'=>match x with
 | .exit id'=>if id'=id then K .normal e' H' else K (.exit id') e' H'
 | x=>K x e' H'
def abt (P:Program) (N:Nat) (own:List Nat) (v:AV) (a b:Code) (K:pJ) (env:Env) (H:ay):Prop:=vo (cw P N own a K env H) (cw P N own b K env H) v
def abu (P:Program) (N:Nat) (own:List Nat) (c:Code) (K:pJ) (env:Env) (H:ay):Prop:=aja (cw P N own c) K env H
theorem axZ:cw P N own .skip K env H=K .normal env H:=rfl
theorem apY (id:Nat) (l:List Oper):cw P N own (.region id l.toArray false) K env H=walk P N own l.toArray l (K .normal) env H:=rfl
theorem ax0 (id:Nat) (l:List Oper):cw P N own (.region id l.toArray true) K env H=xd P N own l.toArray (K .normal) env H:=rfl
theorem aAo (a b:Code):cw P N own (.seq a b) K env H=cw P N own a (axY P N own b K) env H:=rfl
theorem ax1 (c:Operand) (a b:Code):cw P N own (.cond c a b) K env H=abt P N own (ev env c) a b K env H:=rfl
theorem atT (id:Nat) (c:Code):cw P N own (.block id c) K env H=cw P N own c (ahT id K) env H:=rfl
theorem ax2 (c:Code):cw P N own (.loop c) K env H=abu P N own c K env H:=rfl
theorem ax3 (id:Nat):cw P N own (.exit id) K env H=K (.exit id) env H:=rfl
theorem aAp:cw P N own .ret K env H=K .ret env H:=rfl
theorem ajk (b:Code):axY P N own b K .normal env H=cw P N own b K env H:=rfl
theorem apZ (b:Code) (id:Nat):axY P N own b K (.exit id) env H=K (.exit id) env H:=rfl
theorem atU (b:Code):axY P N own b K .ret env H=K .ret env H:=rfl
theorem afR (id:Nat):ahT id K .normal env H=K .normal env H:=rfl
theorem ajl (id id':Nat):ahT id K (.exit id') env H=if id'=id then K .normal env H else K (.exit id') env H:=rfl
theorem al6 (id:Nat):ahT id K .ret env H=K .ret env H:=rfl
theorem al7 (a b:Code):abt P N own (.p (.val (.bool true))) a b K env H=cw P N own a K env H:=by simp[abt,vo]
theorem ajm (a b:Code):abt P N own (.p (.val (.bool false))) a b K env H=cw P N own b K env H:=by simp[abt,vo]
theorem aL {b:Bool} {x y:Code} (h1:b=true->cw P N own x K env H) (h2:b=false->cw P N own y K env H):abt P N own (.p (.val (.bool b))) x y K env H:=⟨h1,h2⟩
def aBq (r:Option PV) (Q:PV->Prop):Prop:=match r with
 | some r=>Q r
 | none=>False
theorem atV (rs:List ResultVar) (Q:PV->Prop):aAl P rs Q .ret env H=aBq (atI P env H rs) Q:=rfl
theorem ap0 (r:PV) (Q:PV->Prop):aBq (some r) Q=Q r:=rfl
theorem aAq (t:Tmp):ev env (.tmp t)=env t:=rfl
theorem aAr (k:IntKind) (n:Int):ev env (.const (.int k n)) = .p (.val (.int k n)):=rfl
theorem ax4 (b:Bool):ev env (.const (.bool b)) = .p (.val (.bool b)):=rfl
theorem ap1 (b:ByteArray):ev env (.const (.string b)) = .p (.val (.string b)):=rfl
theorem atW (a:Option Addr) (n c:Nat):ev env (.const (.slice a n c)) = .p (.val (.slice a n c)):=rfl
theorem ax5 (f:FuncId):ev env (.func f) = .p (.gR (.func f) [] []):=rfl
theorem atX:iu []=fA:=by funext t; simp[iu,fA]
theorem atY (a:PV):iu [a]=ct fA 0 (.p a):=by funext t; unfold iu ct fA; rcases t with _ | t<;>simp
theorem at0 (a b:PV):iu [a,b]=ct (ct fA 0 (.p a)) 1 (.p b):=by funext t; unfold iu ct fA; rcases t with _ | _ | t<;>simp
theorem at1 (a b c:PV):iu [a,b,c]=ct (ct (ct fA 0 (.p a)) 1 (.p b)) 2 (.p c):=by funext t; unfold iu ct fA; rcases t with _ | _ | _ | t<;>simp
theorem at2 (a b c d:PV):iu [a,b,c,d]=ct (ct (ct (ct fA 0 (.p a)) 1 (.p b)) 2 (.p c)) 3 (.p d):=by funext t; unfold iu ct fA; rcases t with _ | _ | _ | _ | t<;>simp
theorem at3 (a b c d e:PV):iu [a,b,c,d,e]=ct (ct (ct (ct (ct fA 0 (.p a)) 1 (.p b)) 2 (.p c)) 3 (.p d)) 4 (.p e):=by funext t; unfold iu ct fA; rcases t with _ | _ | _ | _ | _ | t<;>simp
end
end Go.cE
namespace Go.cE
open Go.RowKit
section
variable {P:Program} {t:TypeId} {k:IntKind} {a b:Int}
theorem at4:oM P .add t (.p (.val (.int k a))) (.p (.val (.int k b)))=some (True,.p (.val (.int k (k.wrap (a+b))))):=by simp[oM,acn]
theorem at5:oM P .sub t (.p (.val (.int k a))) (.p (.val (.int k b)))=some (True,.p (.val (.int k (k.wrap (a - b))))):=by simp[oM,acn]
theorem at6:oM P .eql t (.p (.val (.int k a))) (.p (.val (.int k b)))=some (True,.p (.val (.bool (decide (a=b))))):=by simp[oM,acn]
theorem at7:oM P .neq t (.p (.val (.int k a))) (.p (.val (.int k b)))=some (True,.p (.val (.bool (!decide (a=b))))):=by simp[oM,acn]
theorem at8:oM P .lss t (.p (.val (.int k a))) (.p (.val (.int k b)))=some (True,.p (.val (.bool (decide (a<b))))):=by simp[oM,acn]
theorem at9:oM P .leq t (.p (.val (.int k a))) (.p (.val (.int k b)))=some (True,.p (.val (.bool (decide (a<=b))))):=by simp[oM,acn]
theorem aua:oM P .gtr t (.p (.val (.int k a))) (.p (.val (.int k b)))=some (True,.p (.val (.bool (decide (b<a))))):=by simp[oM,acn]
theorem aub:oM P .geq t (.p (.val (.int k a))) (.p (.val (.int k b)))=some (True,.p (.val (.bool (decide (b<=a))))):=by simp[oM,acn]
theorem ap2 {x y:ByteArray} : oM P .eql t (.p (.val (.string x))) (.p (.val (.string y)))=some (True,.p (.val (.bool (decide (x=y))))):=by simp[oM,acn]
theorem auc {es:List (List PV)} (h:isSlice P t=true):oM P .eql t (.p (.aU es)) (.p (.val (.slice none 0 0)))=some (es≠[],.p (.val (.bool false))):=by simp[oM,h]
theorem ap3 {ao:Option Addr} {n c:Nat} (h:isSlice P t=true):oM P .eql t (.p (.val (.slice ao n c))) (.p (.val (.slice none 0 0)))=some (True,.p (.val (.bool ao.isNone))):=by
 unfold isSlice at h; unfold oM acn; split at h
 ·rename_i e he; simp[he]
 ·cases h
def aEF (P:Program) (t:TypeId):Bool:=match P.underlying t with
 | some .bool=>true
 | _=>false
def eqX (op:BinOp) (r:Option Bool):Option (Prop×AV):=match op,r with
 | .eql,some b=>some (True,.p (.val (.bool b)))
 | .neq,some b=>some (True,.p (.val (.bool !b)))
 | _,_=>none
theorem ax6 (b:Bool):eqX .eql (some b)=some (True,.p (.val (.bool b))):=rfl
theorem ax7 (b:Bool):eqX .neq (some b)=some (True,.p (.val (.bool !b))):=rfl
theorem aud {op:BinOp} {cs ds:List PV} {ks:List BK} (h:pG P t=some ks):oM P op t (.p (.agg cs)) (.p (.agg ds))=eqX op (eqK ks cs ds):=by unfold oM eqX; simp only[h]; try rfl
theorem ax8:eqK [] [] []=some true:=rfl
def ajn (b:Bool) (r:Option Bool):Option Bool:=match r with
 | some r=>some (b&&r)
 | none=>none
theorem al8 (a b:Bool):ajn a (some b)=some (a&&b):=rfl
theorem aBr (ks:List BK) (k:IntKind) (a b:Int) (cs ds:List PV):eqK (.i :: ks) (.val (.int k a) :: cs) (.val (.int k b) :: ds)=ajn (decide (a=b)) (eqK ks cs ds):=by simp only[eqK,if_true,ajn]; all_goals(cases eqK ks cs ds<;>rfl)
theorem aBs (ks:List BK) (a b:Bool) (cs ds:List PV):eqK (.b :: ks) (.val (.bool a) :: cs) (.val (.bool b) :: ds)=ajn (a == b) (eqK ks cs ds):=by simp only[eqK,ajn]; all_goals(cases eqK ks cs ds<;>rfl)
theorem ax9 {x:Bool} : unX .not (.p (.val (.bool x)))=some (True,.p (.val (.bool !x))):=rfl
theorem al9 {x y:AV} : agl (.p (.val (.bool true))) x y=some (True,x):=rfl
theorem ajo {x y:AV} : agl (.p (.val (.bool false))) x y=some (True,y):=rfl
theorem ama (vs:List PV) (n:Nat):sY (.p (.dB vs)) n=(match vs[n]? with | some x=>some (True,.p x) | none=>none):=rfl
theorem amb (vs:List AV) (n:Nat):sY (.dB vs) n=(match vs[n]? with | some x=>some (True,x) | none=>none):=rfl
theorem amc (H:ay) (cs:List PV) (off:Nat):aeq P t (.p (.dJ cs off)) H=(match qY P t cs off with | some x=>some (True,.p x,H) | none=>none):=rfl
def aoO (P:Program) (t:TypeId) (c:Option Chunk) (off:Nat) (H:ay):Option (Prop×AV×ay):=match c with
 | some (.box cs)=>(match qX P t cs off with | some v=>some (True,v,H) | none=>none)
 | _=>none
theorem ap4 (H:ay) (id off:Nat):aeq P t (.ptr id off) H=aoO P t (H id) off H:=rfl
theorem ajp (H:ay) (cs:List AV) (off:Nat):aoO P t (some (.box cs)) off H=(match qX P t cs off with | some v=>some (True,v,H) | none=>none):=rfl
theorem amd (H:ay) (id bg i off:Nat):aeq P t (.iO id bg i off) H=(match rowOf H id bg with
   | some es=>(match qY P t (es.getD i []) off with | some x=>some (i<es.length/\0<(es.getD i []).length,.p x,H) | none=>none)
   | none=>none):=rfl
def rdA (g:Option Bool) (n:Option Nat) (cs:List AV) (off:Nat):Option AV:=match g with
 | some true=>(match n with
  | some n=>if off+n<=cs.length then some (w6 ((cs.drop off).take n)) else none
  | none=>none)
 | some false=>cs[off]?
 | none=>none
def rdP (g:Option Bool) (n:Option Nat) (cs:List PV) (off:Nat):Option PV:=match g with
 | some true=>(match n with
  | some n=>if off+n<=cs.length then some (.agg ((cs.drop off).take n)) else none
  | none=>none)
 | some false=>cs[off]?
 | none=>none
theorem aue {cs:List AV} {off:Nat} : qX P t cs off=rdA (gF P t) (bw P t) cs off:=rfl
theorem auf {cs:List PV} {off:Nat} : qY P t cs off=rdP (gF P t) (bw P t) cs off:=rfl
theorem aya {cs:List AV} {off:Nat} {n:Option Nat} : rdA (some false) n cs off=cs[off]?:=rfl
theorem ayb {cs:List PV} {off:Nat} {n:Option Nat} : rdP (some false) n cs off=cs[off]?:=rfl
theorem ayc {cs:List AV} {off n:Nat} : rdA (some true) (some n) cs off=if off+n<=cs.length then some (w6 ((cs.drop off).take n)) else none:=rfl
theorem ayd {cs:List PV} {off n:Nat} : rdP (some true) (some n) cs off=if off+n<=cs.length then some (.agg ((cs.drop off).take n)) else none:=rfl
theorem ajq (H:ay) (o n:Nat) (cs:List PV) (off:Nat):acA P (some (o,n)) (.p (.dJ cs off)) H=some (n≠0,.p (.dJ cs (off+o)),H):=rfl
theorem ame (H:ay) (o n:Nat) (id off:Nat):acA P (some (o,n)) (.ptr id off) H=some (n≠0,.ptr id (off+o),H):=rfl
theorem ajr (H:ay) (o n:Nat) (id bg i off:Nat):acA P (some (o,n)) (.iO id bg i off) H=(match rowOf H id bg with
   | some _=>some (n≠0,.iO id bg i (off+o),H)
   | none=>none):=rfl
def aAs (e:Option TypeId) (sz:TypeId->Option Nat) (es:List (List PV)) (a:Int) (H:ay):Option (Prop×AV×ay):=match e with
 | some e=>(match sz e with
  | some sz=>some ((0<=a/\a<es.length)/\(es.getD a.toNat []).length=sz/\0<sz,.p (.dJ (es.getD a.toNat []) 0),H)
  | none=>none)
 | none=>none
theorem amf {H:ay} {es:List (List PV)} : oc P t (.p (.aU es)) (.p (.val (.int k a))) H=aAs (cH P t) (bw P) es a H:=by
 unfold oc n9 aAs up3; cases cH P t with
 | none=>rfl
 | some e=>simp only[]; cases bw P e<;>rfl
theorem ap5 {e:TypeId} {f:TypeId->Option Nat} {es:List (List PV)} {H:ay} : aAs (some e) f es a H=(match f e with
  | some sz=>some ((0<=a/\a<es.length)/\(es.getD a.toNat []).length=sz/\0<sz,.p (.dJ (es.getD a.toNat []) 0),H)
  | none=>none):=rfl
def aAt (r:Option (List (List PV))) (e:Option TypeId) (sz:TypeId->Option Nat) (id bg:Nat) (a:Int) (H:ay):Option (Prop×AV×ay):=match r,e with
 | some es,some e=>(match sz e with
  | some sz=>some ((0<=a/\a<es.length)/\(es.getD a.toNat []).length=sz/\0<sz,.iO id bg a.toNat 0,H)
  | none=>none)
 | _,_=>none
theorem amg {H:ay} {id bg:Nat} : oc P t (.row id bg) (.p (.val (.int k a))) H=aAt (rowOf H id bg) (cH P t) (bw P) id bg a H:=by unfold oc aAt; rfl
theorem ap6 {es:List (List PV)} {e:TypeId} {f:TypeId->Option Nat} {id bg:Nat} {H:ay} : aAt (some es) (some e) f id bg a H=(match f e with
  | some sz=>some ((0<=a/\a<es.length)/\(es.getD a.toNat []).length=sz/\0<sz,.iO id bg a.toNat 0,H)
  | none=>none):=rfl
theorem aug (H:ay) (id bg:Nat):rowOf H id bg=(match H id with
 | some (.row v _ _ es)=>if v=bg then some es else none
 | some (.shut v es)=>if v=bg then some es else none
 | some (.tail v _ _ es)=>if v=bg then some es else none
 | _=>none):=rfl
theorem auh {H:ay} {es:List (List PV)} (h:isSlice P t=true):adI P t (.p (.aU es)) H=some (True,.p (.val (.int .i64 es.length)),H):=by simp[adI,p5,h,up3]
theorem aui {H:ay} {s:ByteArray} (h:xS P t=true):adI P t (.p (.val (.string s))) H=some (True,.p (.val (.int .i64 s.size)),H):=by simp[adI,p5,h,up3]
theorem auj {H:ay} {id bg:Nat} (h:isSlice P t=true):adI P t (.row id bg) H=(match rowOf H id bg with
  | some es=>some (True,.p (.val (.int .i64 es.length)),H)
  | none=>none):=by
 simp only[adI,p5,h]; all_goals(cases rowOf H id bg<;>rfl)
theorem auk {s:ByteArray} (h:xS P t=true):alJ P t (.p (.val (.string s))) (.p (.val (.int k a)))=some (0<=a/\a<s.size,.p (.val (.int .u8 (nT s a.toNat)))):=by simp[alJ,h]
def aul (P : Program) (t : TypeId) (a v : AV) (H : ay) : Option (Prop × AV × ay) := match bw P t with
  | some n => if (bT v).length = n ∧ (bT v).all nq = true then (match a with
    | .ptr id off=>(match H id with
     | some (.box cs)=>if off+n<=cs.length then some (True,.dead,bl H id (.box (splice cs off (bT v)))) else none
     | _=>none)
    | .iO id bg i off=>(match H id,si (bT v) with
     | some (.row v0 e sz es),some ps=>if v0=bg then some (i<es.length/\off+n<=sz,.dead,bl H id (.row v0 e sz (es.set i (splice (es.getD i []) off ps)))) else none
     | _,_=>none)
    | _=>none)
   else none
  | none=>none
theorem amh (d:Option Tmp) (ty:TypeId) (pos:String) (af:Array Edge) (g:Option (Nat×Bool)) (ρ:Operand->AV) (H:ay) (x y:Operand):fW P ⟨d,.store t x y,ty,pos,af,g⟩ ρ H=aul P t (ρ x) (ρ y) H:=by rw[apW]; rfl
def aBt (d : Option Tmp) (v : AV) (H : ay) : Option (Prop × AV × ay) := match d with
  | some d=>(match H d with
   | none=>if (bT v).all nq=true then some (True,.ptr d 0,bl H d (.box (bT v))) else none
   | some _=>none)
  | none=>none
theorem aum (d:Option Tmp) (ty:TypeId) (pos:String) (af:Array Edge) (g:Option (Nat×Bool)) (ρ:Operand->AV) (H:ay) (x:Operand):fW P ⟨d,.box t x,ty,pos,af,g⟩ ρ H=aBt d (ρ x) H:=by rw[axX]; rfl
def aun (P : Program) (d : Option Tmp) (e : TypeId) (H : ay) : Option (Prop × AV × ay) := match d with
  | some d=>(match H d,cI P e with
   | none,some zs=>if zs.all (·.oneCell')=true then some (True,.ptr d 0,bl H d (.box (zs.map λz=>.p (.val z)))) else none
   | _,_=>none)
  | none=>none
theorem ami (d:Option Tmp) (ty:TypeId) (pos:String) (af:Array Edge) (g:Option (Nat×Bool)) (ρ:Operand->AV) (H:ay) (e:TypeId):fW P ⟨d,.alloc e,ty,pos,af,g⟩ ρ H=aun P d e H:=by rw[apX]; rfl
def aBu (P:Program) (e:Option TypeId) (n:Nat) (parts:List (Nat×AV)):Option (TypeId×List (List PV)):=match e with
 | some e=>(match bw P e,cI P e with
  | some sz, some zs => if zs.length = sz ∧ 0 < sz ∧ n * sz ≤ 16777216 ∧ zs.all (·.oneCell') = true then
    (match qd (λi=>some (i * sz,sz)) (gY zs n) parts with
    | some cs=>(match si cs with
     | some ps=>if ps.length=n * sz then some (e,chunk sz n ps) else none
     | none=>none)
    | none=>none)
   else none
  | _,_=>none)
 | none=>none
theorem amj (n:Nat) (parts:List (Nat×AV)):kW P t n parts=aBu P (cH P t) n parts:=rfl
theorem ap7 (e:TypeId) (n:Nat) (parts:List (Nat×AV)):aBu P (some e) n parts=(match bw P e,cI P e with
  | some sz, some zs => if zs.length = sz ∧ 0 < sz ∧ n * sz ≤ 16777216 ∧ zs.all (·.oneCell') = true then
    (match qd (λi=>some (i * sz,sz)) (gY zs n) parts with
    | some cs=>(match si cs with
     | some ps=>if ps.length=n * sz then some (e,chunk sz n ps) else none
     | none=>none)
    | none=>none)
   else none
  | _,_=>none):=rfl
theorem amk (n:Nat) (parts:List (Nat×AV)) (H:ay):ahS P t n parts H=(match kW P t n parts with
 | some (_,es)=>(match n with
  | 0=>some (True,.p .emp,H)
  | _=>some (True,.p (.aU es),H))
 | none=>(match kW P t n (parts.map λx=>(x.1,w9 (cO (oa parts) H) x.2)) with
  | some (_,es)=>some (True,.p (.aU es),cO (oa parts) H)
  | none=>none)):=rfl
def auo (place : Nat → Option (Nat × Nat)) (p : Option (Nat × Nat)) (cells : List AV) (v : AV) (rest : List (Nat × AV)) : Option (List AV) := match p with
  | some (off,size)=>if (bT v).length=size/\off+size<=cells.length/\(bT v).all nq=true then qd place (splice cells off (bT v)) rest else none
  | none=>none
theorem ap8 (place:Nat->Option (Nat×Nat)) (cells:List AV):qd place cells []=some cells:=rfl
theorem aml (place:Nat->Option (Nat×Nat)) (cells:List AV) (i:Nat) (v:AV) (rest:List (Nat×AV)):qd place cells ((i,v) :: rest)=auo place (place i) cells v rest:=by simp only[qd,auo]; try rfl
theorem amm (place:Nat->Option (Nat×Nat)) (cells:List AV) (off size:Nat) (v:AV) (rest:List (Nat×AV)):auo place (some (off,size)) cells v rest=if (bT v).length=size/\off+size<=cells.length/\(bT v).all nq=true then qd place (splice cells off (bT v)) rest else none:=rfl
theorem afS (zs:List Value):gY zs 0=[]:=rfl
theorem afT (zs:List Value) (n:Nat):gY zs (n+1)=(zs.map λz=>AV.p (.val z))++gY zs n:=by simp[gY,List.replicate_succ]
theorem amn {α:Type} (sz:Nat) (l:List α):chunk sz 0 l=[]:=rfl
theorem amo {α:Type} (sz n:Nat) (l:List α):chunk sz (n+1) l=l.take sz :: chunk sz n (l.drop sz):=rfl
def aBv (z:Option (List Value)) (pl:Option (List (Nat×Nat))) (parts:List (Nat×AV)):Option (Prop×AV):=match z,pl with
 | some zs, some pl => if zs.all (·.oneCell') = true then
   (match qd (λi=>pl[i]?) (zs.map λz=>.p (.val z)) parts with
   | some cs=>some (True,w6 cs)
   | none=>none)
  else none
 | _,_=>none
theorem ap9 (parts:List (Nat×AV)):aco P t parts=aBv (cI P t) (fH P t) parts:=rfl
theorem aqa (zs:List Value) (pl:List (Nat×Nat)) (parts:List (Nat×AV)):aBv (some zs) (some pl) parts=if zs.all (·.oneCell')=true then
   (match qd (λi=>pl[i]?) (zs.map λz=>.p (.val z)) parts with
   | some cs=>some (True,w6 cs)
   | none=>none)
  else none:=rfl
theorem aye (k:IntKind) (n:Int):Value.oneCell' (.int k n)=true:=rfl
theorem aup (b:Bool):Value.oneCell' (.bool b)=true:=rfl
theorem amp (b:ByteArray):Value.oneCell' (.string b)=true:=rfl
theorem aqb (a:Option Addr) (n c:Nat):Value.oneCell' (.slice a n c)=true:=rfl
def ayf (ty:Option (TypeId×Nat×Nat)) (a b:AV) (H:ay):Option (Prop×AV×ay):=match ty with
 | some (e',sz',qf)=>(match a with
  | .row id bg=>(match H id with
   | some (.row v e sz es) => if v = bg ∧ e = e' ∧ sz = sz' then (match uk H b with
     | some ns=>some ((es.length+ns.length) * qf<=140737488355328/\∀x∈ns,x.length=sz,.row id (bg+1),bl H id (.row (bg+1) e sz (es++ns)))
     | none=>none)
    else none
   | _=>none)
  | _=>none)
 | none=>none
theorem ajs (t1 t2:TypeId) (id bg:Nat) (b:AV) (H:ay):adJ P t1 t2 (.row id bg) b H=ayf (dg P t1 t2) (.row id bg) b H:=by
 unfold adJ acp abm ayf; simp only[isNil]; cases dg P t1 t2 with
 | none=>rfl
 | some x=>rfl
theorem aqc (H:ay) (ns:List (List PV)):uk H (.p (.aU ns))=some ns:=rfl
theorem aqd (H:ay) (ao:Option Addr) (c:Nat):uk H (.p (.val (.slice ao 0 c)))=some []:=rfl
theorem aqe (H:ay) (id bg:Nat):uk H (.row id bg)=rowOf H id bg:=rfl
theorem ajt (e':TypeId) (sz' qf:Nat) (id bg:Nat) (b:AV) (H:ay):ayf (some (e',sz',qf)) (.row id bg) b H=(match H id with
   | some (.row v e sz es) => if v = bg ∧ e = e' ∧ sz = sz' then (match uk H b with
     | some ns=>some ((es.length+ns.length) * qf<=140737488355328/\∀x∈ns,x.length=sz,.row id (bg+1),bl H id (.row (bg+1) e sz (es++ns)))
     | none=>none)
    else none
   | _=>none):=rfl
def auq (ty:Option (TypeId×Nat×Nat)) (es:List (List PV)) (H:ay):Option (Prop×AV×ay):=match ty with
 | some (_,sz,qf)=>some (es.length * qf<=140737488355328/\∀x∈es,x.length=sz,.p (.aU es),H)
 | none=>none
theorem aqf (e':TypeId) (sz' qf:Nat) (es:List (List PV)) (H:ay):auq (some (e',sz',qf)) es H=some (es.length * qf<=140737488355328/\∀x∈es,x.length=sz',.p (.aU es),H):=rfl
theorem aur (t1 t2:TypeId) (es:List (List PV)) (H:ay):adJ P t1 t2 (.p .emp) (.p (.aU es)) H=auq (dg P t1 t2) es H:=by
 unfold adJ acp abm auq; simp only[isNil]; cases dg P t1 t2 with
 | none=>rfl
 | some x=>rfl
theorem aus (t1 t2:TypeId) (es:List (List PV)) (H:ay):adJ P t1 t2 (.p (.val (.slice none 0 0))) (.p (.aU es)) H=auq (dg P t1 t2) es H:=by
 unfold adJ acp abm auq; simp only[isNil]; cases dg P t1 t2 with
 | none=>rfl
 | some x=>rfl
theorem aut (cs:List AV):w6 cs=(match si cs with | some ps=>.p (.agg ps) | none=>.agg cs):=rfl
theorem auu:si []=some []:=rfl
theorem aAu (x:PV) (r:List AV):si (.p x :: r)=(match si r with | some ps=>some (x :: ps) | none=>none):=rfl
theorem auv (i v:Nat) (r:List AV):si (.row i v :: r)=none:=rfl
theorem auw (i v:Nat) (r:List AV):si (.ptr i v :: r)=none:=rfl
theorem aju (cs:List AV):bT (.agg cs)=cs:=rfl
theorem ahU (cs:List PV):bT (.p (.agg cs))=cs.map AV.p:=rfl
theorem ajv (v:Value):bT (.p (.val v))=[.p (.val v)]:=rfl
theorem ajw (v:List (List PV)):bT (.p (.aU v))=[.p (.aU v)]:=rfl
theorem ajx (i v:Nat):bT (.row i v)=[.row i v]:=rfl
theorem ajy (i v:Nat):bT (.ptr i v)=[.ptr i v]:=rfl
theorem aqg (v:Value):nq (.p (.val v))=true:=rfl
theorem aqh (v:List (List PV)):nq (.p (.aU v))=true:=rfl
theorem aqi (i v:Nat):nq (.row i v)=true:=rfl
theorem aqj (i v:Nat):nq (.ptr i v)=true:=rfl
theorem qv {α:Type} (cs:List α) (off:Nat) (new:List α):splice cs off new=cs.take off++new++cs.drop (off+new.length):=rfl
theorem ayg {env:Env} {H:ay} (rs:List ResultVar):atI P env H rs=(match oo P env H rs with
 | some a=>(match adj H a with
  | some (x,_)=>some x
  | none=>none)
 | none=>none):=rfl
theorem aqk {env:Env} {H:ay} (r:ResultVar):oo P env H [r]=(match zi P env H r with | some a=>some a | none=>none):=by simp only[oo,ajb]; cases zi P env H r<;>rfl
theorem aql {env:Env} {H:ay} (r s:ResultVar):oo P env H [r,s]=(match zi P env H r with | some a=>(match zi P env H s with | some b=>some (.dB [a,b]) | none=>none) | none=>none):=by simp only[oo,ajb]; cases zi P env H r<;>cases zi P env H s<;>rfl
theorem ajz {env:Env} {H:ay} (r s t:ResultVar):oo P env H [r,s,t]=(match zi P env H r with | some a=>(match zi P env H s with | some b=>(match zi P env H t with | some c=>some (.dB [a,b,c]) | none=>none) | none=>none) | none=>none):=by simp only[oo,ajb]; cases zi P env H r<;>cases zi P env H s<;>cases zi P env H t<;>rfl
theorem auy {env:Env} {H:ay} (t:Tmp):zi P env H (.tmp t)=some (env t):=rfl
def aBw (P:Program) (t:TypeId) (H:ay) (a:AV):Option AV:=match a with
 | .ptr id off=>(match H id with
  | some (.box cs)=>qX P t cs off
  | _=>none)
 | _=>none
theorem aqm {env:Env} {H:ay} (a:Tmp) (t:TypeId):zi P env H (.cell a t)=aBw P t H (env a):=rfl
theorem auz {H:ay} (id off:Nat):aBw P t H (.ptr id off)=(match H id with
  | some (.box cs)=>qX P t cs off
  | _=>none):=rfl
theorem ayh (H:ay) (x:PV):adj H (.p x)=some (x,false):=rfl
theorem aqn (H:ay) (id bg:Nat):adj H (.row id bg)=oV H (.row id bg):=rfl
theorem aqo (H:ay) (cs:List AV):adj H (.agg cs)=(match dS (nr H) cs with
  | some (ps,b)=>some (.agg ps,b)
  | none=>none):=rfl
theorem aqp (H:ay) (cs:List AV):adj H (.dB cs)=(match dS (fZ H) cs with
  | some (ps,b)=>some (.dB ps,b)
  | none=>none):=rfl
theorem ahV (H:ay) (x:PV):fZ H (.p x)=some (x,false):=rfl
theorem aqq (H:ay) (id bg:Nat):fZ H (.row id bg)=oV H (.row id bg):=rfl
theorem aqr (H:ay) (id off:Nat):fZ H (.ptr id off)=nr H (.ptr id off):=rfl
theorem aqs (H:ay) (cs:List AV):fZ H (.agg cs)=(match dS (nr H) cs with
  | some (ps,b)=>some (.agg ps,b)
  | none=>none):=rfl
theorem aqt (H:ay) (fn:Fn) (fs cs:List AV):fZ H (.gR fn fs cs)=(match dS (nr H) fs,dS (nr H) cs with
  | some (f,b),some (c,d)=>some (.gR fn f c,b||d)
  | _,_=>none):=rfl
theorem ayi (H:ay) (x:PV):nr H (.p x)=some (x,false):=rfl
theorem aqu (H:ay) (id bg:Nat):nr H (.row id bg)=oV H (.row id bg):=rfl
theorem aqv (H:ay) (id off:Nat):nr H (.ptr id off)=(match H id with
  | some (.box cs)=>(match dS (zY H) cs with
   | some (ps,_)=>some (.dJ ps off,true)
   | none=>none)
  | _=>none):=rfl
theorem aqw (H:ay) (id off:Nat):zY H (.ptr id off)=(match H id with
  | some (.box cs)=>(match dS (oV H) cs with
   | some (ps,_)=>some (.dJ ps off,true)
   | none=>none)
  | _=>none):=rfl
theorem ayj (H:ay) (x:PV):zY H (.p x)=some (x,false):=rfl
theorem aqx (H:ay) (id bg:Nat):oV H (.row id bg)=(match H id with
  | some (.row v _ _ es)=>if v=bg then some (.aU es,true) else none
  | some (.shut v es)=>if v=bg then some (.aU es,false) else none
  | _=>none):=rfl
theorem aqy (f:AV->Option (PV×Bool)):dS f []=some ([],false):=rfl
theorem amq (f:AV->Option (PV×Bool)) (a:AV) (r:List AV):dS f (a :: r)=(match f a,dS f r with
  | some (x,b),some (xs,c)=>some (x :: xs,b||c)
  | _,_=>none):=rfl
theorem auA (fn:Fn) (fs cs:List AV):ai0 fn fs cs=(match si fs,si cs with
 | some f,some c=>.p (.gR fn f c)
 | _,_=>.gR fn fs cs):=rfl
end
attribute [go_sem] axZ apY ax0 aAo ax1 atT ax2 ax3 aAp ajk apZ atU afR ajl al6 al7 ajm atV ap0 atJ apO alX ajf alY alZ al0 al1 apP apQ ajg ajh aji atK atL al3 atM atN atO al5 atP ajj apS atQ ahQ apT apU apV ahR atS afP afQ amh ami aum aer pK aes aet aAq aAr ax4 ap1 atW ax5 atX atY at0 at1 at2 at3 aAc axR at4 at5 at6 at7 at8 at9 aua aub ap2 auc ax9 al9 ajo ama amb amc ap4 ajp amd aue auf aya ayb ayc ayd ajq ame ajr amf ap5 amg ap6 aug auh aui auj auk aul aBt aun amj ap7 amk ap8 aml amm afS afT amn amo ap9 aqa aye aup amp aqb ajs aqc aqd ap3 aud ax6 ax7 ax8 al8 aBr aBs Option.isNone_none Option.isNone_some aqe ajt aqf aur aus aut auu aAu auv auw aju ahU ajv ajw ajx ajy aqg aqh aqi aqj qv ayg aqk aql ajz auy aqm auz ayh aqn aqo aqp ahV aqq aqr aqs aqt ayi aqu aqv ayj aqw aqx aqy amq auA
attribute [go_sem] true_and and_true if_true if_false ite_true ite_false not_true_eq_false not_false_eq_true Bool.not_true Bool.not_false Bool.false_eq_true ne_eq Option.bind_some Option.bind_none Option.map_some Option.map_none List.map_cons List.map_nil List.length_cons List.length_nil List.drop_zero List.drop_succ_cons List.take_zero List.take_succ_cons List.cons_append List.nil_append List.append_nil List.drop_nil List.take_nil Nat.zero_add Nat.add_zero AV.p.injEq PV.val.injEq PV.aU.injEq PV.dB.injEq PV.agg.injEq Value.int.injEq Value.bool.injEq Value.string.injEq Option.some.injEq List.cons.injEq List.mem_cons List.not_mem_nil forall_eq_or_imp forall_eq or_false false_or and_self List.getElem?_toArray List.getElem?_cons_zero List.getElem?_cons_succ List.all_cons List.all_nil Bool.and_true Bool.true_and Bool.and_self Bool.or_false Bool.false_or Bool.false_and Bool.and_false Bool.or_true Bool.true_or beq_self_eq_true List.length_map List.length_append Int.ofNat_lt Int.natCast_nonneg Int.toNat_natCast List.append_assoc
end Go.cE
namespace Go.cE
open Go.RowKit
variable {P:Program} {I:Mem} {L:bt}
mutual
def oq (H:ay):AV->Prop
 | .p _=>True
 | .row id _=>H id≠none
 | .ptr id _=>H id≠none
 | .iO id _ _ _=>H id≠none
 | .agg cs=>mc H cs
 | .dB cs=>mc H cs
 | .gR _ fs cs=>mc H fs/\mc H cs
 | .eC id _=>H id≠none
 | .j0 id _ _ _=>H id≠none
 | .j4 id _ _=>H id≠none
 | .mu id _ _ _ _=>H id≠none
 | .zz id _=>H id≠none
 | .gU id _ _ _ _ _=>H id≠none
 | .dead=>True
def mc (H:ay):List AV->Prop
 | []=>True
 | a :: r=>oq H a/\mc H r
end
theorem nt {H:ay} : ∀ {cs:List AV},mc H cs->∀ (j:Nat) c,cs[j]? = some c->oq H c
 | [],_,j,c,h=>by simp at h
 | a :: r,h,j,c,hc=>by
  cases j with
  | zero=>simp at hc; subst hc; exact h.1
  | succ j=>exact nt h.2 j c (by simpa using hc)
def bt.to (L:bt) (H:ay):bt:=λid=>match H id with
 | some _=>L id
 | none=>none
theorem kX {H:ay} {id:Nat} (h:H id≠none):L.to H id=L id:=by
 unfold bt.to; cases hH:H id with
 | none=>exact absurd hH h
 | some c=>rfl
theorem to_eq {H:ay} {id:Nat} {l:Loc} (h:L.to H id=some l):L id=some l/\∃c,H id=some c:=by
 unfold bt.to at h; cases hH:H id with
 | none=>simp[hH] at h
 | some c=>simp[hH] at h; exact⟨h,c,rfl⟩
theorem dU.to {u:Value} {a:AV} (h:dU I L u a) {H:ay} : oq H a->dU I (L.to H) u a:=by
 induction h with
 | p u x h=>exact λ_=>.p u x h
 | row u id bg v bD sz hl hle h h1=>exact λhi=>.row u id bg v bD sz ((kX hi).trans hl) hle h h1
 | ptr id b off hl=>exact λhi=>.ptr id b off ((kX hi).trans hl)
 | iO u id bg v i off bD sz hl hle h h1=>exact λhi=>.iO u id bg v i off bD sz ((kX hi).trans hl) hle h h1
 | agg us cs hl _ hone ih=>exact λhi=>.agg us cs hl (λj u c hu hc=>ih j u c hu hc (nt hi j c hc)) hone
 | dB us cs hl _ ih=>exact λhi=>.dB us cs hl (λj u c hu hc=>ih j u c hu hc (nt hi j c hc))
 | gR fn us vs fs cs hl hl' _ _ ih ih'=>exact λhi=>.gR fn us vs fs cs hl hl' (λj u c hu hc=>ih j u c hu hc (nt hi.1 j c hc)) (λj u c hu hc=>ih' j u c hu hc (nt hi.2 j c hc))
 | eC u id bg v bD sz sz' cT n hl hle h h1=>exact λhi=>.eC u id bg v bD sz sz' cT n ((kX hi).trans hl) hle h h1
 | j0 u id bg v i off bD sz sz' cT n hl hle h h1=>exact λhi=>.j0 u id bg v i off bD sz sz' cT n ((kX hi).trans hl) hle h h1
 | j4 u id bg v i bD sz sz' cT n hl hle h h1=>exact λhi=>.j4 u id bg v i bD sz sz' cT n ((kX hi).trans hl) hle h h1
 | mu u id bg v i j off bD sz sz' cT n hl hle h h1=>exact λhi=>.mu u id bg v i j off bD sz sz' cT n ((kX hi).trans hl) hle h h1
 | zz id b n hl=>exact λhi=>.zz id b n ((kX hi).trans hl)
 | gU a id bg v off n m c bD sz hl hle hn hm hz h=>exact λhi=>.gU a id bg v off n m c bD sz ((kX hi).trans hl) hle hn hm hz h
 | dead u=>exact λ_=>.dead u
def aeu (e' e:Env):Prop:=∀t,e' t = .dead\/e' t=e t
def acB (e:Env) (H:ay):Prop:=∀t,oq H (e t)
def pL (H' H:ay):Prop:=∀id cs,H' id=some (.box cs)->mc H cs
theorem auB (e:Env):aeu fA e:=λ_=>.inl rfl
theorem ayk {e' e:Env} {d:Nat} {v:AV} (h:aeu e' e) (hv:e d=v):aeu (ct e' d v) e:=λt=>by
 unfold ct; split
 ·rename_i ht; subst ht; exact .inr hv.symm
 ·exact h t
theorem aBx (H:ay):HSub b8 H:=λ_ _ h=>by cases h
theorem aqz {H' H:ay} {id:Nat} {c:Chunk} (h:HSub H' H) (hc:H id=some c):HSub (bl H' id c) H:=λi c' hi=>by
 unfold bl at hi; split at hi
 ·rename_i hid; subst hid; simp at hi; subst hi; exact hc
 ·exact h i c' hi
theorem auC (H:ay):acB fA H:=λ_=>trivial
theorem ayl {e:Env} {H:ay} {d:Nat} {v:AV} (h:acB e H) (hv:oq H v):acB (ct e d v) H:=λt=>by
 unfold ct; split
 ·exact hv
 ·exact h t
theorem aym (H:ay):pL b8 H:=λ_ _ h=>by cases h
theorem amr {H' H:ay} {id:Nat} {cs:List AV} (h:pL H' H) (hc:mc H cs):pL (bl H' id (.box cs)) H:=λi c' hi=>by
 unfold bl at hi; split at hi
 ·simp at hi; subst hi; exact hc
 ·exact h i c' hi
theorem ams {H' H:ay} {id v:Nat} {e:TypeId} {sz:Nat} {es:List (List PV)} (h:pL H' H):pL (bl H' id (.row v e sz es)) H:=λi c' hi=>by
 unfold bl at hi; split at hi
 ·simp at hi
 ·exact h i c' hi
theorem ajA {H' H:ay} {id v:Nat} {es:List (List PV)} (h:pL H' H):pL (bl H' id (.shut v es)) H:=λi c' hi=>by
 unfold bl at hi; split at hi
 ·simp at hi
 ·exact h i c' hi
def lu (H H':ay):Prop:=∀i,1000000<=i->H i≠none->H' i≠none
theorem azO (H':ay):lu b8 H':=λ_ _ h=>absurd rfl h
theorem ajB {H H':ay} {i:Nat} {c:Chunk} (hi:i<1000000) (h:lu H H'):lu (bl H i c) H':=λj hj hn=>by refine h j hj ?_; unfold bl at hn; rw[if_neg (by omega)] at hn; exact hn
theorem aqA {H H':ay} {i:Nat} {c:Chunk} (hi:H' i≠none) (h:lu H H'):lu (bl H i c) H':=λj hj hn=>by
 by_cases e:j=i
 ·rw[e]; exact hi
 ·refine h j hj ?_; unfold bl at hn; rw[if_neg e] at hn; exact hn
theorem ayn {e e':Env} {H H':ay} (h1:aeu e' e) (h2:HSub H' H) (h3:acB e' H') (h4:pL H' H') (h5:lu H H'):dP e H e' H':=λC I L tm w hs=>by
 refine⟨I,L.to H',?_⟩; exact
 {below:=hs.below
  mem:=hs.mem
  ku:=hs.ku
  lp:=hs.lp
  frame:=hs.frame
  loc:=λi=>by
   cases hi:C.L0 i with
   | none=>trivial
   | some l0 =>
    have h0:=hs.loc i; rw[hi] at h0; have hL:L i≠none:=by
     cases l0 with
     | box b=>intro e; rw[e] at h0; cases h0
     | row v bD sz=>obtain⟨_,_,h0,_⟩:=h0; intro e; rw[e] at h0; cases h0
     | deep v bD sz sz' cT n=>obtain⟨_,_,_,_,h0,_⟩:=h0; intro e; rw[e] at h0; cases h0
    have hH:H i≠none:=by
     cases hLi:L i with
     | none=>exact absurd hLi hL
     | some l=>obtain⟨c,hc⟩:=hs.dom i l hLi; rw[hc]; simp
    have e:=kX (L:=L) (h5 i (C.hL0 i l0 hi) hH); rw[e]; exact h0
  jc:=λid l b hl hb=>hs.jc id l b (to_eq hl).1 hb
  size:=hs.size
  env:=λt=>by
   rcases h1 t with h | h
   ·rw[h]; exact .dead _
   ·have:=hs.env t; rw[<-h] at this; exact this.to (h3 t)
  dom:=λid l hl=>(to_eq hl).2
  chunk:=λid ch hch=>by
   have hc:=hs.chunk id ch (h2 id ch hch); have hid:L.to H' id=L id:=kX (by rw[hch]; simp); cases ch with
   | box cs=>obtain⟨b,arr,e,g1,g2,g3,g4,g5,g6⟩:=hc; exact⟨b,arr,e,hid.trans g1,g2,g3,λj u c hu hc=>(g4 j u c hu hc).to (nt (h4 id cs hch) j c hc),g5,g6⟩
   | row bg e sz es=>obtain⟨bD,us,g1,g2⟩:=hc; exact⟨bD,us,hid.trans g1,g2⟩
   | shut bg es=>obtain⟨bD,sz,g1,g2⟩:=hc; exact⟨bD,sz,hid.trans g1,g2⟩
   | tail bg e sz es=>obtain⟨g,o,cap,arr,g1,g2⟩:=hc; exact⟨g,o,cap,arr,hid.trans g1,g2⟩
   | deep bg e sz k e' sz' es=>obtain⟨bD,us,cT,g1,g2⟩:=hc; exact⟨bD,us,cT,hid.trans g1,g2⟩
  fe:=λid l b hl hb=>hs.fe id l b (to_eq hl).1 hb
  apart:=λi j li lj b hi hj qt tS=>hs.apart i j li lj b (to_eq hi).1 (to_eq hj).1 qt tS }
theorem iQ {e:Env} {H:ay} (t id:Nat) (ty:TypeId) (sz:Nat) (ht:e t = .p (.val (.slice none 0 0))) (hid:H id=none) (hsz:0<sz) :
  dP e H (ct e t (.row id 0)) (bl H id (.row 0 ty sz [])):=λC I L tm w hs=>by
 obtain⟨n1,n2,n3⟩:=ahJ hs hid ty hsz; have hs':=n2 e tm hs; refine⟨I,_,{ hs' with env:=λi=>?_ }⟩; unfold ct; split
 ·rename_i hi; subst hi; have:=hs.env i; rw[ht] at this; rw[this.ek.1]; exact n1
 ·exact hs'.env i
theorem cC {e:Env} {H:ay} (b off id:Nat) (ty:TypeId) (sz:Nat) (cs:List AV) (hb:H b=some (.box cs)) (ho:cs[off]? = some (.p (.val (.slice none 0 0)))) (hid:H id=none) (hsz:0<sz) :
  dP e H e (bl (bl H id (.row 0 ty sz [])) b (.box (cs.set off (.row id 0)))):=λC I L tm w hs=>by
 obtain⟨n1,n2,n3⟩:=ahJ hs hid ty hsz; have hs':=n2 e tm hs; have hne:b≠id:=λh=>by rw[h,hid] at hb; cases hb
 obtain⟨blk,arr,et,g1,g2,g3,g4,g5,g6⟩:=hs.chunk b _ hb; refine⟨I,_,{ hs' with dom:=λi l hl=>?_,chunk:=λi ch hch=>?_ }⟩
 ·obtain⟨c,hc⟩:=hs'.dom i l hl; by_cases hi:i=b
  ·exact⟨.box (cs.set off (.row id 0)),by unfold bl; rw[if_pos hi]⟩
  ·exact⟨c,by unfold bl at hc ⊢; rw[if_neg hi]; exact hc⟩
 ·by_cases hi:i=b
  ·subst hi; have:Chunk.box (cs.set off (.row id 0))=ch:=by simpa[bl] using hch
   subst this; refine⟨blk,arr,et,by simp[b6,hne,g1],g2,by simpa using g3,λj u c hu hc=>?_,g5,g6⟩; rw[List.getElem?_set] at hc; split at hc
   ·rename_i hj; subst hj; split at hc
    ·simp at hc; subst hc; have:=g4 off u _ hu ho; rw[this.ek.1]; exact n1
    ·cases hc
   ·exact (g4 j u c hu hc).mono (Mem.dR I) n3
  ·exact hs'.chunk i ch (by unfold bl at hch ⊢; rw[if_neg hi] at hch; exact hch)
section
variable {N:Nat} {own:List Nat} {σ:Type}
def auD (inv:σ->Env) (jE:σ->ay) (φ:σ->Prop) (μ:σ->Nat) (x:σ) (env:Env) (H:ay):Prop:=∃y,φ y/\μ y<μ x/\dP env H (inv y) (jE y)
def ajC (inv:σ->Env) (jE:σ->ay) (φ:σ->Prop) (μ:σ->Nat) (x:σ) (K:pJ):pJ:=λe env H=>match e with
 | .normal=>auD inv jE φ μ x env H
 | e=>K e env H
theorem ahW {inv:σ->Env} {jE:σ->ay} {φ:σ->Prop} {μ:σ->Nat} {x:σ} {K:pJ} {env:Env} {H:ay} : ajC inv jE φ μ x K .normal env H=auD inv jE φ μ x env H:=rfl
theorem amt {inv:σ->Env} {jE:σ->ay} {φ:σ->Prop} {μ:σ->Nat} {x:σ} {K:pJ} {env:Env} {H:ay} {id:Nat} : ajC inv jE φ μ x K (.exit id) env H=K (.exit id) env H:=rfl
theorem aqB {inv:σ->Env} {jE:σ->ay} {φ:σ->Prop} {μ:σ->Nat} {x:σ} {K:pJ} {env:Env} {H:ay} : ajC inv jE φ μ x K .ret env H=K .ret env H:=rfl
theorem bH {c:Code} {K:pJ} {env:Env} {H:ay} (inv:σ->Env) (jE:σ->ay) (φ:σ->Prop) (μ:σ->Nat) (x0:σ) (h0:φ x0) (hw:dP env H (inv x0) (jE x0))
  (hr:∀x,φ x->cw P N own c (ajC inv jE φ μ x K) (inv x) (jE x)):abu P N own c K env H:=by
 refine⟨λn e H=>∃x,φ x/\μ x=n/\e=inv x/\H=jE x,⟨μ x0,_,_,⟨x0,h0,rfl,rfl,rfl⟩,hw⟩,?_⟩; rintro n e H ⟨x,hx,rfl,rfl,rfl⟩
 have hk : (ajC inv jE φ μ x K) = (fun z e' H' => match z with
   | .normal=>∃m e2 H2,m<μ x/\(∃x,φ x/\μ x=m/\e2=inv x/\H2=jE x)/\dP e' H' e2 H2
   | z=>K z e' H'):=by
  funext z e' H'; cases z<;>try rfl
  apply propext; constructor
  ·rintro⟨y,h1,h2,h3⟩; exact⟨μ y,_,_,h2,⟨y,h1,rfl,rfl,rfl⟩,h3⟩
  ·rintro⟨m,e2,H2,h1,⟨y,h2,rfl,rfl,rfl⟩,h3⟩; exact⟨y,h2,h1,h3⟩
 have:=hr x hx; rw[hk] at this; exact this
theorem bJ {inv:σ->Env} {jE:σ->ay} {φ:σ->Prop} {μ:σ->Nat} {x:σ} {env:Env} {H:ay} (y:σ) (h1:φ y) (h2:μ y<μ x) (h3:dP env H (inv y) (jE y)):auD inv jE φ μ x env H:=⟨y,h1,h2,h3⟩
end
attribute [go_sem] ahW amt aqB
end Go.cE
namespace Go.cE
open Go.RowKit
variable {P:Program} {o:Oper} {ρ ρ':Operand->AV}
theorem pM {l:List (Nat×Operand)} (h:∀x∈l.map (·.2),ρ x=ρ' x):(l.map λx=>(x.1,ρ x.2))=l.map λx=>(x.1,ρ' x.2):=by apply List.map_congr_left; intro x hx; rw[h x.2 (List.mem_map.2 ⟨x,hx,rfl⟩)]
theorem agq (h:∀x∈o.op.operands,ρ x=ρ' x):nH P o ρ=nH P o ρ':=by
 unfold nH; cases hop:o.op<;>simp only[hop,Op.operands] at h ⊢
 case build t ps=>rw[pM (l:=ps.toList) (λx hx=>h x (by simpa using hx))]
 case buildSlice t n ps=>rw[pM (l:=ps.toList) (λx hx=>h x (by simpa using hx))]
 case makeFunc fn f c =>
  have h1:f.toList.map ρ=f.toList.map ρ':=List.map_congr_left λx hx=>h x (by simp at hx; simp[hx])
  have h2:c.toList.map ρ=c.toList.map ρ':=List.map_congr_left λx hx=>h x (by simp at hx; simp[hx])
  rw[h1,h2]
 case slice t x lo hi mx =>
  rw[h x (by simp)]; have h1:lo.map ρ=lo.map ρ':=by
   cases lo with
   | none=>rfl
   | some y=>simp[h y (by simp)]
  have h2:hi.map ρ=hi.map ρ':=by
   cases hi with
   | none=>rfl
   | some y=>simp[h y (by simp)]
  have h3:mx.map ρ=mx.map ρ':=by
   cases mx with
   | none=>rfl
   | some y=>simp[h y (by simp)]
  rw[h1,h2,h3]
 case call c =>
  have h1:c.args.toList.map ρ=c.args.toList.map ρ':=List.map_congr_left λx hx=>h x (by simp at hx; simp[Call.operands,hx])
  rw[h1]
 all_goals first
  | rfl
  | (simp at h; simp[h])
theorem amu {H:ay} (h:∀x∈o.op.operands,ρ x=ρ' x):mw P o ρ H=mw P o ρ' H:=by
 unfold mw; cases hop:o.op<;>simp only[hop,Op.operands] at h ⊢
 case call c =>
  have h1:c.args.toList.map ρ=c.args.toList.map ρ':=List.map_congr_left λx hx=>h x (by simp at hx; simp[Call.operands,hx])
  rw[h1]
 all_goals first
  | rfl
  | (simp at h; simp[h])
theorem aqC {H:ay} (h:∀x∈o.op.operands,ρ x=ρ' x):w8 P o ρ H=w8 P o ρ' H:=by
 unfold w8; cases hop:o.op<;>simp only[hop,Op.operands] at h ⊢
 case call c =>
  have h1:c.args.toList.map ρ=c.args.toList.map ρ':=List.map_congr_left λx hx=>h x (by simp at hx; simp[Call.operands,hx])
  rw[h1]
 all_goals first
  | rfl
  | (simp at h; simp[h])
theorem aqD {H:ay} (h:∀x∈o.op.operands,ρ x=ρ' x):xO P o ρ H=xO P o ρ' H:=by
 unfold xO; cases hop:o.op<;>simp only[hop,Op.operands] at h ⊢
 case indexAddr t x i=>rw[h x (by simp),h i (by simp)]
theorem aqE {H:ay} (h:∀x∈o.op.operands,ρ x=ρ' x):ri P o ρ H=ri P o ρ' H:=by unfold ri; rw[amu h,aqC h,aqD h]
theorem aqF {H:ay} (h:∀x∈o.op.operands,ρ x=ρ' x):vP P o ρ H=vP P o ρ' H:=by
 unfold vP; cases hop:o.op<;>simp only[hop,Op.operands] at h ⊢
 case call c =>
  have h1:c.args.toList.map ρ=c.args.toList.map ρ':=List.map_congr_left λx hx=>h x (by simp at hx; simp[Call.operands,hx])
  rw[h1]
 all_goals first
  | rfl
  | (simp at h; simp[h])
theorem aqG {H:ay} (h:∀x∈o.op.operands,ρ x=ρ' x):xb P o ρ H=xb P o ρ' H:=by
 unfold xb; cases hop:o.op<;>simp only[hop,Op.operands] at h ⊢
 case buildSlice t n ps=>rw[pM (l:=ps.toList) (λx hx=>h x (by simpa using hx))]
theorem aqH {H:ay} {d:Nat} (h:∀x∈o.op.operands,ρ x=ρ' x):exN P o ρ H d=exN P o ρ' H d:=by
 unfold exN; cases H d with
 | some _=>rfl
 | none =>
  simp only[]; cases hop:o.op<;>simp only[hop,Op.operands] at h ⊢
  case buildSlice t n ps=>rw[pM (l:=ps.toList) (λx hx=>h x (by simpa using hx))]
  case call c =>
   have h1:c.args.toList.map ρ=c.args.toList.map ρ':=List.map_congr_left λx hx=>h x (by simp at hx; simp[Call.operands,hx])
   rw[h1]
  all_goals(simp at h; simp[h])
theorem y6 {H:ay} (h:∀x∈o.op.operands,ρ x=ρ' x):fW P o ρ H=fW P o ρ' H:=by unfold fW; rw[agq h,aqE h,aqF h,aqG h]
theorem ur {own:List Nat} {H:ay} (h:∀x∈o.op.operands,ρ x=ρ' x):fI P own o ρ H=fI P own o ρ' H:=by
 unfold fI; rw[y6 h]; cases o.dst with
 | none=>rfl
 | some d=>simp only[aqH h]
theorem yd (h:∀x∈o.op.operands,ρ x=ρ' x):di o ρ=di o ρ':=by
 unfold di; cases hop:o.op<;>simp only[hop,Op.operands] at h ⊢
 case call c =>
  have h1:c.args.toList.map ρ=c.args.toList.map ρ':=List.map_congr_left λx hx=>h x (by simp at hx; simp[Call.operands,hx])
  rw[h1]; cases hc:c.callee with
  | value f=>have:ρ f=ρ' f:=h f (by simp[Call.operands,hc]); simp only[this]
  | _=>rfl
theorem uu {H:ay} {x:PV} (h:∀x∈o.op.operands,ρ x=ρ' x) (hc:ya P o ρ H x):ya P o ρ' H x:=by obtain⟨k,en,ps,b,h1,h2⟩:=hc; exact⟨k,en,ps,b,(yd h) ▸ h1,h2⟩
def bM (own:List Nat) (o:Oper):Bool:=(match o.dst with
 | some d=>!own.contains d
 | none=>true)&&match o.op with
 | .store .. | .alloc _ | .box .. | .buildSlice ..=>false
 | .call c=>match c.callee with
  | .builtin .append=>false
  | _=>true
 | _=>true
def ta (own:List Nat) (o:Oper):Bool:=(match o.dst with
 | some d=>!own.contains d
 | none=>true)&&match o.op with
 | .move _ | .assign _ | .pick .. | .extract .. | .binOp .. | .unOp .. | .convert .. | .makeFunc .. | .build .. | .index .. | .slice .. | .nilCheck _=>true
 | _=>false
theorem jN {own:List Nat} {H:ay} (h:(match o.dst with
 | some d=>!own.contains d
 | none=>true)=true):fI P own o ρ H=fW P o ρ H:=by
 unfold fI; cases hd:o.dst with
 | none=>rfl
 | some d =>
  rw[hd] at h; have:own.contains d=false:=by simpa using h
  simp only[this]; try rfl
theorem rj {own:List Nat} {H H':ay} {pre:Prop} {v:AV} (hq:bM own o=true) (h:fI P own o ρ H=some (pre,v,H')):H'=H:=by
 unfold bM at hq; rw[Bool.and_eq_true] at hq; rw[jN hq.1] at h; have hk:=hq.2; unfold fW at h; split at h
 ·simp at h; exact h.2.2.symm
 ·split at h
  ·simp at h; exact h.2.2.symm
  ·exfalso; have hw:vP P o ρ H=none:=by
    unfold vP; cases hop:o.op<;>simp only[hop] at hk ⊢<;>try (cases hk; done)
    case call c =>
     cases hc:c.callee with
     | builtin b=>rw[hc] at hk; cases b<;>first | rfl | cases hk
     | _=>rfl
   have hs:xb P o ρ H=none:=by
    unfold xb; cases hop:o.op<;>simp only[hop] at hk ⊢
    cases hk
   rw[hw,hs] at h; cases h
theorem ajD {own:List Nat} {H:ay} (hq:ta own o=true):fW P o ρ H=match nH P o ρ with
  | some (pre,v)=>some (pre,v,H)
  | none=>none:=by
 unfold ta at hq; rw[Bool.and_eq_true] at hq; have hk:=hq.2; unfold fW; cases hp:nH P o ρ with
 | some r=>rfl
 | none =>
  have h1:ri P o ρ H=none:=by unfold ri mw w8 xO; cases hop:o.op<;>simp only[hop] at hk ⊢<;>cases hk
  have h2:vP P o ρ H=none:=by unfold vP; cases hop:o.op<;>simp only[hop] at hk ⊢<;>cases hk
  have h3:xb P o ρ H=none:=by unfold xb; cases hop:o.op<;>simp only[hop] at hk ⊢<;>cases hk
  rw[h1,h2,h3]
theorem aev {own:List Nat} {H:ay} (hq:ta own o=true):fI P own o ρ H=match nH P o ρ with
  | some (pre,v)=>some (pre,v,H)
  | none=>none:=by
 have hq':=hq; unfold ta at hq; rw[Bool.and_eq_true] at hq; rw[jN hq.1]; exact ajD hq'
theorem agr {own:List Nat} (hq:ta own o=true):di o ρ=none:=by
 unfold ta at hq; rw[Bool.and_eq_true] at hq; have hk:=hq.2; unfold di; cases hop:o.op<;>simp only[hop] at hk ⊢
 cases hk
def me (o:Oper):Bool:=match o.op with
 | .alloc _ | .box ..=>false
 | _=>true
theorem aaa:∀ids,cO ids b8=b8
 | []=>rfl
 | _ :: r=>aaa r
theorem aqI {pre:Prop} {v:AV} {H':ay} (hn:me o=true) (h:fW P o ρ b8=some (pre,v,H')):nH P o ρ=some (pre,v):=by
 unfold fW at h; split at h
 ·rename_i hp; simp only[Option.some.injEq,Prod.mk.injEq] at h; obtain⟨rfl,rfl,_⟩:=h; exact hp
 ·rename_i hp; exfalso; have h0:mw P o ρ b8=none:=by
   unfold mw; cases hop:o.op<;>simp only[]
   case load t a=>cases ρ a<;>rfl
   case fieldAddr s a k=>cases ρ a<;>cases bV P s k<;>rfl
   case indexAddr t x i =>
    cases ρ x<;>try rfl
    cases ρ i<;>try rfl
    rename_i x; cases x<;>try rfl
    rename_i z; cases z<;>rfl
   case call c =>
    split
    ·rfl
    ·rfl
  have hD:w8 P o ρ b8=none:=by
   unfold w8; cases hop:o.op<;>simp only[]
   case load t a=>cases ρ a<;>rfl
   case fieldAddr s a k=>cases ρ a<;>cases bV P s k<;>rfl
   case indexAddr t x i =>
    cases ρ x<;>try rfl
    all_goals
     cases ρ i<;>try rfl
     rename_i x; cases x<;>try rfl
     rename_i z; cases z<;>rfl
   case call c=>split<;>rfl
  have hE:xO P o ρ b8=none:=by
   unfold xO; cases hop:o.op<;>simp only[]
   case indexAddr t x i =>
    cases ρ x<;>try rfl
    cases ρ i<;>try rfl
    rename_i x; cases x<;>try rfl
    rename_i z; cases z<;>rfl
  have h1:ri P o ρ b8=none:=by unfold ri; rw[h0,hD,hE]
  have h2:vP P o ρ b8=none:=by
   unfold vP; cases hop:o.op<;>simp only[me,hop] at hn ⊢<;>try (cases hn; done)
   case store t a x =>
    cases bw P t with
    | none=>rfl
    | some n =>
     simp only[]; split
     ·cases ρ a<;>simp only[b8]
     ·rfl
   case call c =>
    split
    ·rename_i t1 t2 a b _ _ _; unfold abm; cases a<;>try rfl
     cases dg P t1 t2<;>rfl
    ·rfl
  have h3:xb P o ρ b8=none:=by
   unfold xb; cases hop:o.op<;>simp only[]
   case buildSlice t n ps =>
    rw[aaa]; have:((ps.toList.map λx=>(x.1,ρ x.2)).map λx=>(x.1,w9 b8 x.2))=ps.toList.map λx=>(x.1,ρ x.2):=by rw[List.map_map]; apply List.map_congr_left; intro x _; have:w9 b8 (ρ x.2)=ρ x.2:=ai7 _; simp[this]
    rw[this]; unfold nH at hp; simp only[hop] at hp; cases hb:kW P t n (ps.toList.map λx=>(x.1,ρ x.2)) with
    | none=>rfl
    | some r=>obtain⟨e,es⟩:=r; rw[hb] at hp; cases n<;>simp at hp
  rw[h1,h2,h3] at h; cases h
theorem acC {own:List Nat} {H:ay} (hq:bM own o=true):fW P o ρ H=match nH P o ρ with
  | some (pre,v)=>some (pre,v,H)
  | none=>(match ri P o ρ H with
   | some (pre,v)=>some (pre,v,H)
   | none=>none):=by
 unfold bM at hq; rw[Bool.and_eq_true] at hq; have hk:=hq.2; unfold fW; cases hp:nH P o ρ with
 | some r=>rfl
 | none =>
  cases hx:ri P o ρ H with
  | some r=>rfl
  | none =>
   have hw:vP P o ρ H=none:=by
    unfold vP; cases hop:o.op<;>simp only[hop] at hk ⊢<;>try (cases hk; done)
    case call c =>
     cases hc:c.callee with
     | builtin b=>rw[hc] at hk; cases b<;>first | rfl | cases hk
     | _=>rfl
   have hs:xb P o ρ H=none:=by
    unfold xb; cases hop:o.op<;>simp only[hop] at hk ⊢
    cases hk
   rw[hw,hs]
theorem y7 {H H':ay} (h:HSub H H') {id bg:Nat} {es:List (List PV)} (hr:rowOf H id bg=some es):rowOf H' id bg=some es:=by
 unfold rowOf at hr ⊢; cases hH:H id with
 | none=>rw[hH] at hr; cases hr
 | some c=>rw[h id c hH]; rw[hH] at hr; exact hr
theorem auE {H H':ay} (h:HSub H H') {r:Prop×AV} (hx:mw P o ρ H=some r):mw P o ρ H'=some r:=by
 unfold mw at hx ⊢; cases hop:o.op<;>simp only[hop] at hx ⊢<;>try (cases hx; done)
 case load t a =>
  cases ha:ρ a<;>simp only[ha] at hx ⊢<;>try (cases hx; done)
  case ptr id off =>
   cases hH:H id with
   | none=>rw[hH] at hx; cases hx
   | some c=>rw[h id c hH]; rw[hH] at hx; exact hx
  case iO id bg i off =>
   cases hr:rowOf H id bg with
   | none=>rw[hr] at hx; cases hx
   | some es=>rw[y7 h hr]; rw[hr] at hx; exact hx
 case fieldAddr s a k =>
  cases ha:ρ a<;>simp only[ha] at hx ⊢<;>try (cases hx; done)
  case iO id bg i off =>
   cases hf:bV P s k with
   | none=>rw[hf] at hx; cases hx
   | some f =>
    rw[hf] at hx; cases hr:rowOf H id bg with
    | none=>simp only[hr] at hx; cases hx
    | some es=>simp only[y7 h hr]; simp only[hr] at hx; exact hx
 case indexAddr t x i =>
  split at hx
  ·rename_i id bg k n hx1 hx2; cases hr:rowOf H id bg with
   | none=>rw[hr] at hx; cases hx
   | some es=>rw[y7 h hr]; rw[hr] at hx; exact hx
  ·cases hx
 case call c =>
  split at hx
  ·rename_i t id bg h1 h2 h3; cases hr:rowOf H id bg with
   | none=>rw[hr] at hx; cases hx
   | some es=>rw[y7 h hr]; rw[hr] at hx; exact hx
  ·cases hx
theorem qw {H H':ay} (h:HSub H H') {id bg:Nat} {r:Nat×List (List PV)} (hr:cB H id bg=some r):cB H' id bg=some r:=by
 unfold cB at hr ⊢; cases hH:H id with
 | none=>rw[hH] at hr; cases hr
 | some c=>rw[h id c hH]; rw[hH] at hr; exact hr
theorem y8 {H H':ay} (h:HSub H H') {id bg i:Nat} {l:List (List PV)} (hr:mz (cB H id bg) i=some l):mz (cB H' id bg) i=some l:=by
 cases hd:cB H id bg with
 | none=>rw[hd] at hr; cases hr
 | some r=>rw[qw h hd,<-hd]; exact hr
theorem ayo {H H':ay} (h:HSub H H') {r:Prop×AV} (hx:w8 P o ρ H=some r):w8 P o ρ H'=some r:=by
 unfold w8 at hx ⊢; cases hop:o.op<;>simp only[hop] at hx ⊢<;>try (cases hx; done)
 case load t a =>
  cases ha:ρ a<;>simp only[ha] at hx ⊢<;>try (cases hx; done)
  case j0 id bg i off =>
   cases hr:cB H id bg with
   | none=>rw[hr] at hx; cases hx
   | some c=>rw[qw h hr]; rw[hr] at hx; exact hx
  case mu id bg i j off =>
   cases hr:mz (cB H id bg) i with
   | none=>rw[hr] at hx; cases hx
   | some es=>rw[y8 h hr]; rw[hr] at hx; exact hx
 case fieldAddr s a k =>
  cases ha:ρ a<;>simp only[ha] at hx ⊢<;>try (cases hx; done)
  case j0 id bg i off =>
   cases hf:bV P s k with
   | none=>rw[hf] at hx; cases hx
   | some f =>
    rw[hf] at hx; cases hr:cB H id bg with
    | none=>simp only[hr] at hx; cases hx
    | some es=>simp only[qw h hr]; simp only[hr] at hx; exact hx
 case indexAddr t x i =>
  split at hx
  ·rename_i id bg k n hx1 hx2; cases hr:cB H id bg with
   | none=>rw[hr] at hx; cases hx
   | some es=>rw[qw h hr]; rw[hr] at hx; exact hx
  ·rename_i id bg ii k n hx1 hx2; cases hr:mz (cB H id bg) ii with
   | none=>rw[hr] at hx; cases hx
   | some es=>rw[y8 h hr]; rw[hr] at hx; exact hx
  ·cases hx
 case call c =>
  split at hx
  ·rename_i t id bg h1 h2 h3; cases hr:cB H id bg with
   | none=>rw[hr] at hx; cases hx
   | some es=>rw[qw h hr]; rw[hr] at hx; exact hx
  ·rename_i t id bg ii h1 h2 h3; cases hr:mz (cB H id bg) ii with
   | none=>rw[hr] at hx; cases hx
   | some es=>rw[y8 h hr]; rw[hr] at hx; exact hx
  ·cases hx
theorem ayp {H G:ay} {r:Prop×AV} (hx:w8 P o ρ H=some r):mw P o ρ G=none:=by
 unfold w8 at hx; unfold mw; cases hop:o.op<;>simp only[hop] at hx ⊢<;>try (cases hx; done)
 case load t a=>cases ha:ρ a<;>simp only[ha] at hx ⊢<;>(cases hx; done)
 case fieldAddr s a k=>cases ha:ρ a<;>simp only[ha] at hx ⊢<;>(cases hx; done)
 case indexAddr t x i =>
  split at hx
  ·rename_i id bg k n hx1 hx2; rw[hx1]
  ·rename_i id bg ii k n hx1 hx2; rw[hx1]
  ·cases hx
 case call c =>
  split at hx
  ·rename_i t id bg h1 h2 h3; rw[h3]; split
   ·rename_i h; cases h
   ·rfl
  ·rename_i t id bg ii h1 h2 h3; rw[h3]; split
   ·rename_i h; cases h
   ·rfl
  ·cases hx
theorem auF {H H':ay} (h:HSub H H') {id bg:Nat} {r:Nat×List (List PV)} (hr:acq H id bg=some r):acq H' id bg=some r:=by
 unfold acq at hr ⊢; cases hH:H id with
 | none=>rw[hH] at hr; cases hr
 | some c=>rw[h id c hH]; rw[hH] at hr; exact hr
theorem ayq {H H':ay} (h:HSub H H') {r:Prop×AV} (hx:xO P o ρ H=some r):xO P o ρ H'=some r:=by
 unfold xO at hx ⊢; cases hop:o.op<;>simp only[hop] at hx ⊢<;>try (cases hx; done)
 case indexAddr t x i =>
  split at hx
  ·rename_i id bg off m _ _ k n hx1 hx2; cases hr:acq H id bg with
   | none=>rw[hr] at hx; cases hx
   | some es=>rw[auF h hr]; rw[hr] at hx; exact hx
  ·cases hx
theorem ayr {H G:ay} {r:Prop×AV} (hx:xO P o ρ H=some r):mw P o ρ G=none/\w8 P o ρ G=none:=by
 unfold xO at hx; unfold mw w8; cases hop:o.op<;>simp only[hop] at hx ⊢<;>try (cases hx; done)
 case indexAddr t x i =>
  split at hx
  ·rename_i id bg off m _ _ k n hx1 hx2; rw[hx1]; exact⟨rfl,rfl⟩
  ·cases hx
theorem ays {H H':ay} (h:HSub H H') {r:Prop×AV} (hx:ri P o ρ H=some r):ri P o ρ H'=some r:=by
 unfold ri at hx ⊢; split at hx
 ·rename_i r' h0; rw[auE h h0]; exact hx
 ·split at hx
  ·rename_i r' hD; rw[ayp hD,ayo h hD]; exact hx
  ·obtain⟨e1,e2⟩:=ayr (G:=H') hx; rw[e1,e2]; exact ayq h hx
theorem ot {own:List Nat} {H H':ay} (h:HSub H H') (hq:bM own o=true) {pre:Prop} {v:AV} (hx:fW P o ρ H=some (pre,v,H)):fW P o ρ H'=some (pre,v,H'):=by
 rw[acC hq] at hx ⊢; cases hp:nH P o ρ with
 | some r=>rw[hp] at hx; simp only[Option.some.injEq,Prod.mk.injEq] at hx ⊢; exact⟨hx.1,hx.2.1,trivial⟩
 | none =>
  rw[hp] at hx; cases hQ:ri P o ρ H with
  | none=>rw[hQ] at hx; cases hx
  | some r=>rw[hQ] at hx; rw[ays h hQ]; simp only[Option.some.injEq,Prod.mk.injEq] at hx ⊢; exact⟨hx.1,hx.2.1,trivial⟩
theorem acD {H H':ay} (h:HSub H H'):∀ {a:AV} {r:PV×Bool},oV H a=some r->oV H' a=some r
 | .row id bg,r,hx=>by
  simp only[oV] at hx ⊢; cases hH:H id with
  | none=>rw[hH] at hx; cases hx
  | some c=>rw[h id c hH]; rw[hH] at hx; exact hx
 | .p _,_,hx=>hx
 | .ptr _ _,_,hx=>by cases hx
 | .iO _ _ _ _,_,hx=>by cases hx
 | .agg _,_,hx=>by cases hx
 | .dB _,_,hx=>by cases hx
 | .gR _ _ _,_,hx=>by cases hx
 | .eC id bg,r,hx=>by
  simp only[oV] at hx ⊢; cases hd:cB H id bg with
  | none=>rw[hd] at hx; cases hx
  | some c=>rw[qw h hd]; rw[hd] at hx; exact hx
 | .j4 id bg i,r,hx=>by
  simp only[oV] at hx ⊢; cases hd:mz (cB H id bg) i with
  | none=>rw[hd] at hx; cases hx
  | some c=>rw[y8 h hd]; rw[hd] at hx; exact hx
 | .j0 _ _ _ _,_,hx=>by cases hx
 | .mu _ _ _ _ _,_,hx=>by cases hx
 | .zz _ _,_,hx=>by cases hx
 | .gU _ _ _ _ _ _,_,hx=>by cases hx
 | .dead,_,hx=>by cases hx
theorem nI {f g:AV->Option (PV×Bool)} (hfg:∀a r,f a=some r->g a=some r):∀ {en:List AV} {r:List PV×Bool},dS f en=some r->dS g en=some r
 | [],r,hx=>hx
 | a :: en,r,hx=>by
  unfold dS at hx ⊢; cases hf:f a with
  | none=>rw[hf] at hx; cases hx
  | some x =>
   rw[hf] at hx; rw[hfg a x hf]; cases hl:dS f en with
   | none=>rw[hl] at hx; cases hx
   | some y=>rw[nI hfg hl]; rw[hl] at hx; exact hx
theorem aqJ {H H':ay} (h:HSub H H') {a:AV} {r:PV×Bool} (hx:zY H a=some r):zY H' a=some r:=by
 unfold zY at hx ⊢; cases a<;>try exact acD h hx
 case ptr id off =>
  simp only[] at hx ⊢; cases hH:H id with
  | none=>rw[hH] at hx; cases hx
  | some c =>
   rw[h id c hH]; rw[hH] at hx; cases c<;>simp only[] at hx ⊢<;>try (cases hx; done)
   case box cs =>
    cases hl:dS (oV H) cs with
    | none=>rw[hl] at hx; cases hx
    | some y=>rw[nI (λa r=>acD h) hl]; rw[hl] at hx; exact hx
theorem vq {H H':ay} (h:HSub H H') {a:AV} {r:PV×Bool} (hx:nr H a=some r):nr H' a=some r:=by
 unfold nr at hx ⊢; cases a<;>try exact acD h hx
 case ptr id off =>
  simp only[] at hx ⊢; cases hH:H id with
  | none=>rw[hH] at hx; cases hx
  | some c =>
   rw[h id c hH]; rw[hH] at hx; cases c<;>simp only[] at hx ⊢<;>try (cases hx; done)
   case box cs =>
    cases hl:dS (zY H) cs with
    | none=>rw[hl] at hx; cases hx
    | some y=>rw[nI (λa r=>aqJ h) hl]; rw[hl] at hx; exact hx
theorem ags {H H':ay} (h:HSub H H') {a:AV} {r:PV×Bool} (hx:fZ H a=some r):fZ H' a=some r:=by
 unfold fZ at hx ⊢; cases a<;>try exact vq h hx
 case agg cs =>
  simp only[] at hx ⊢; cases hl:dS (nr H) cs with
  | none=>rw[hl] at hx; cases hx
  | some y=>rw[nI (λa r=>vq h) hl]; rw[hl] at hx; exact hx
 case dB cs =>
  simp only[] at hx ⊢; cases hl:dS (nr H) cs with
  | none=>rw[hl] at hx; cases hx
  | some y=>rw[nI (λa r=>vq h) hl]; rw[hl] at hx; exact hx
 case gR fn fs cs =>
  simp only[] at hx ⊢; cases hf:dS (nr H) fs with
  | none=>rw[hf] at hx; cases hx
  | some x =>
   rw[nI (λa r=>vq h) hf]; rw[hf] at hx; cases hl:dS (nr H) cs with
   | none=>rw[hl] at hx; cases hx
   | some y=>rw[nI (λa r=>vq h) hl]; rw[hl] at hx; exact hx
theorem acE {H H':ay} (h:HSub H H') {x:PV} (hc:ya P o ρ H x):ya P o ρ H' x:=by obtain⟨k,en,ps,b,h1,h2,h3,h4⟩:=hc; exact⟨k,en,ps,b,h1,nI (λa r=>ags h) h2,h3,h4⟩
theorem aaB {own:List Nat} {H:ay} (hq:bM own o=true) {x:PV} {G:ay} (hc:ya P o ρ G x):fI P own o ρ H=none:=by
 obtain⟨k,en,ps,b,h1,h2,h3,h4⟩:=hc; have hq':=hq; unfold bM at hq; rw[Bool.and_eq_true] at hq; rw[jN hq.1,acC hq']; unfold di at h1; split at h1
 ·rename_i c hop; split at h1
  ·rename_i f hc; unfold nH ri mw w8 xO; simp only[hop,hc]
  ·cases h1
 ·cases h1
def agt (own:List Nat) (o:Oper):Bool:=match o.op with
 | .buildSlice .. | .makeSlice ..=>(match o.dst with
  | some d=>own.contains d
  | none=>false)
 | .alloc _ | .box ..=>true
 | _=>false
theorem aew {H:ay} {d:Nat} (hH:H d=none) (c:Chunk):HSub H (bl H d c):=λid x hx=>by
 unfold bl; split
 ·rename_i hi; rw[hi,hH] at hx; cases hx
 ·exact hx
theorem aoP {H H':ay} {pre:Prop} {v:AV} {d:Nat} (h:exN P o ρ H d=some (pre,v,H')):HSub H H':=by
  unfold exN at h; cases hH:H d with
  | some c=>rw[hH] at h; cases h
  | none =>
    rw[hH] at h; simp only[] at h
    repeat' split at h
    all_goals first
      | (cases h; done)
      | (simp only [Option.some.injEq, Prod.mk.injEq] at h
         obtain⟨_,_,h3⟩:=h; rw[<-h3]; exact aew hH _)
theorem aoQ {H H':ay} {pre:Prop} {v:AV} (hn:(match o.op with | .alloc _ | .box ..=>true | _=>false)=true) (h:fW P o ρ H=some (pre,v,H')):HSub H H':=by
 unfold fW at h; split at h
 ·simp only[Option.some.injEq,Prod.mk.injEq] at h; rw[<-h.2.2]; exact λ_ _ h=>h
 ·split at h
  ·simp only[Option.some.injEq,Prod.mk.injEq] at h; rw[<-h.2.2]; exact λ_ _ h=>h
  ·have hs:xb P o ρ H=none:=by unfold xb; cases hop:o.op<;>simp only[hop] at hn ⊢<;>cases hn
   rw[hs] at h; split at h
   ·rename_i r hr; simp only[Option.some.injEq] at h; subst h; unfold vP at hr; cases hop:o.op<;>simp only[hop] at hn hr<;>try (cases hn; done)
    case alloc e =>
     split at hr
     ·split at hr
      ·rename_i hH _; split at hr
       ·simp only[Option.some.injEq,Prod.mk.injEq] at hr; rw[<-hr.2.2]; exact aew hH _
       ·cases hr
      ·cases hr
     ·cases hr
    case box e x =>
     split at hr
     ·split at hr
      ·rename_i hH; split at hr
       ·simp only[Option.some.injEq,Prod.mk.injEq] at hr; rw[<-hr.2.2]; exact aew hH _
       ·cases hr
      ·cases hr
     ·cases hr
   ·cases h
theorem agu {own:List Nat} {H H':ay} {pre:Prop} {v:AV} (hn:agt own o=true) (h:fI P own o ρ H=some (pre,v,H')):HSub H H':=by
 have own_case:∀d,o.dst=some d->own.contains d=true->isApp o.op=false->HSub H H':=λd hd hc ha=>by
  unfold fI at h; simp only[hd,hc,if_true,ha] at h; unfold orE at h; split at h
  ·rename_i hx; exact aoP (hx.trans h)
  ·rename_i hb; cases hb
  ·cases h
 have ab_case:(match o.op with | .alloc _ | .box ..=>true | _=>false)=true->isApp o.op=false->HSub H H':=λhab ha=>by
  unfold fI at h; split at h
  ·rename_i d hd; split at h
   ·rename_i hc; exact own_case d hd hc ha
   ·exact aoQ hab h
  ·exact aoQ hab h
 unfold agt at hn; cases hop:o.op<;>simp only[hop] at hn<;>try (cases hn; done)
 case buildSlice =>
  split at hn
  ·rename_i d hd; exact own_case d hd hn (by rw[hop]; rfl)
  ·cases hn
 case makeSlice =>
  split at hn
  ·rename_i d hd; exact own_case d hd hn (by rw[hop]; rfl)
  ·cases hn
 case alloc=>exact ab_case (by rw[hop]) (by rw[hop]; rfl)
 case box=>exact ab_case (by rw[hop]) (by rw[hop]; rfl)
def rN (H:ay):ay:=λid=>match H id with
 | some (.box cs)=>some (.box cs)
 | _=>none
theorem ajE (H:ay):HSub (rN H) H:=λid c h=>by
 unfold rN at h; split at h
 ·rename_i cs hH; rw[hH]; exact h
 ·cases h
def auG (o:Oper):Bool:=isApp o.op
theorem y9 {H H':ay} (h:HSub H H'):HSub (rN H) (rN H'):=λid c hc=>by
 have:=h id c (ajE H id c hc); unfold rN at hc ⊢; split at hc
 ·rename_i cs hH; rw[h id _ hH]; exact hc
 ·cases hc
theorem ahX {H H':ay} {pre:Prop} {v:AV} (hn:isApp o.op=true) (h:fW P o ρ H=some (pre,v,H')):HSub (rN H) (rN H'):=by
 have hk:=hn; unfold isApp at hk; unfold fW at h; split at h
 ·simp only[Option.some.injEq,Prod.mk.injEq] at h; rw[<-h.2.2]; exact λ_ _ h=>h
 ·split at h
  ·simp only[Option.some.injEq,Prod.mk.injEq] at h; rw[<-h.2.2]; exact λ_ _ h=>h
  ·cases hop:o.op<;>simp only[hop] at hk<;>try (cases hk; done)
   case call c =>
    have hs:xb P o ρ H=none:=by unfold xb; simp only[hop]
    rw[hs] at h; unfold vP at h; simp only[hop] at h; split at h
    ·rename_i r hr; split at hr
     ·unfold abm at hr; split at hr
      ·rename_i id bg _ _ _ _ _; cases hH:H id with
       | none=>rw[hH] at hr; cases hr
       | some ch =>
        rw[hH] at hr; cases ch<;>simp only[] at hr<;>try (cases hr; done)
        split at hr
        ·split at hr
         ·simp only[Option.some.injEq] at hr h; subst hr; simp only[Prod.mk.injEq] at h; rw[<-h.2.2]; intro i c' pN; unfold rN bl at *; by_cases hi:i=id
          ·rw[hi,hH] at pN; cases pN
          ·rw[if_neg hi]; exact pN
         ·cases hr
        ·cases hr
      ·cases hr
     ·cases hr
    ·cases h
theorem agv {own:List Nat} {H H':ay} {pre:Prop} {v:AV} (hn:auG o=true) (h:fI P own o ρ H=some (pre,v,H')):HSub (rN H) (rN H'):=by
 unfold fI at h; split at h
 ·split at h
  ·unfold orE at h; split at h
   ·rename_i hx; exact y9 (aoP (hx.trans h))
   ·exact ahX hn h
   ·cases h
  ·exact ahX hn h
 ·exact ahX hn h
end Go.cE
namespace Go.cE
open Go.RowKit
variable {P:Program} {N:Nat} {own:List Nat} {ops:Array Oper} {K:Env->ay->Prop} {tl:Nat->Bool}
inductive og where
 | p | b | q | w | o | s | f | t
def kO (own:List Nat) (ops:Array Oper) (d:Nat):Bool:=(ops.toList.any λo=>o.dst == some d&&match o.op with
 | .alloc _=>true
 | .box ..=>true
 | .buildSlice ..=>true
 | .makeSlice ..=>true
 | _=>false)||own.contains (2000000+d)
def appArg:Op->Option (Nat×Operand)
 | .call c=>(match c.callee,c.args.toList,c.argTypes.toList with
  | .builtin .append,[.tmp a,s],[_,_]=>some (a,s)
  | _,_,_=>none)
 | _=>none
theorem ye {o:Op} {a:Nat} {s:Operand} (h:appArg o=some (a,s)):∃t1 t2,o = .call ⟨.builtin .append,#[.tmp a,s],#[t1,t2]⟩:=by
 unfold appArg at h; split at h
 ·rename_i c; obtain⟨ce,ar,ts⟩:=c; simp only at h; split at h
  ·rename_i a' s' t1 t2 h1 h2; simp only[Option.some.injEq,Prod.mk.injEq] at h; obtain⟨rfl,rfl⟩:=h; refine⟨t1,t2,?_⟩; cases ar; cases ts; simp only at h1 h2; subst h1 h2; rfl
  ·cases h
 ·cases h
def oO:List Nat->Nat->Nat
 | [],a=>a
 | c :: r,a=>if 9000000<=c then (if (c - 9000000) / 1000=a then 1000000+(c - 9000000) % 1000 else oO r a) else oO r a
theorem amv (a:Nat):oO [] a=a:=rfl
theorem ajF (c:Nat) (r:List Nat) (a:Nat):oO (c :: r) a=if 9000000<=c then (if (c - 9000000) / 1000=a then 1000000+(c - 9000000) % 1000 else oO r a) else oO r a:=rfl
def yf (own:List Nat) (ops:Array Oper) (o:Oper):Option Nat:=match appArg o.op with
 | some (a,_)=>if ((own.contains a||oO own a != a)&&kO own ops (oO own a))=true then some (oO own a) else none
 | none=>none
def adn (own:List Nat) (o:Oper) (env:Env):Prop:=match appArg o.op with
 | some (a,s)=>(∃v,env a = .row (oO own a) v)/\∃x,ev env s = .p x
 | none=>True
def oW (own:List Nat) (ops:Array Oper) (o:Oper):Bool:=(match o.op with
 | .store _ (.tmp d) _=>kO own ops d
 | _=>false)||(yf own ops o).isSome
def acF (own:List Nat) (ops:Array Oper) (o:Oper) (env:Env):Prop:=(match o.op with
 | .store _ (.tmp d) _=>kO own ops d=true->∃off,env d = .ptr d off
 | _=>True)/\((yf own ops o).isSome=true->adn own o env)
def ou (own:List Nat) (ops:Array Oper) (H:ay):ay:=λi=>if kO own ops i then none else H i
theorem aex (own:List Nat) (ops:Array Oper) (H:ay):HSub (ou own ops H) H:=λi c h=>by
 unfold ou at h; split at h
 ·cases h
 ·exact h
theorem agw (own:List Nat) (ops:Array Oper) {H G:ay} (h:HSub H G):HSub (ou own ops H) (ou own ops G):=λi c hc=>by
 unfold ou at hc ⊢; split at hc
 ·cases hc
 ·rename_i hn; rw[if_neg hn]; exact h i c hc
theorem aey (own:List Nat) (ops:Array Oper) (H:ay) {d:Nat} (c:Chunk) (h:kO own ops d=true):ou own ops (bl H d c)=ou own ops H:=by
 funext i; unfold ou bl; split
 ·rfl
 ·rename_i hn; rw[if_neg]; intro hi; subst hi; exact hn h
def tc (own:List Nat) (ops:Array Oper) (o:Oper):Option Nat:=match o.op with
 | .alloc _=>(match o.dst with | some d=>if own.contains d=true then none else if kO own ops d=true then some d else none | none=>none)
 | .box ..=>(match o.dst with | some d=>if own.contains d=true then none else if kO own ops d=true then some d else none | none=>none)
 | .store _ (.tmp d) _=>(match o.dst with | some _=>none | none=>if kO own ops d=true then some d else none)
 | .buildSlice ..=>(match o.dst with | some d=>if own.contains d=true then (if kO own ops d=true then some d else none) else none | none=>none)
 | .makeSlice ..=>(match o.dst with | some d=>if own.contains d=true then (if kO own ops d=true then some d else none) else none | none=>none)
 | .call _=>yf own ops o
 | _=>none
theorem ahY {o:Oper} {ρ:Operand->AV} {H:ay} (ho:(match o.op with | .alloc _=>true | .box ..=>true | .store ..=>true | _=>false)=true):fW P o ρ H=vP P o ρ H:=by
 obtain⟨d,op,t,pos,af,g⟩:=o; cases op<;>first | (cases ho; done) | skip
 all_goals
  simp only[fW,nH,ri,mw,w8,xO,xb]; all_goals(cases vP P _ ρ H<;>rfl)
def ayt (P:Program) (own:List Nat) (o:Oper) (ρ:Operand->AV) (d:Nat):Prop:=∃φ:Option Chunk->Option (Prop×AV×Chunk),∀G,fI P own o ρ G=match φ (G d) with | some (pre,v,c)=>some (pre,v,bl G d c) | none=>none
theorem abv {o:Oper} {env:Env} {d:Nat} (h:tc own ops o=some d) (hs:acF own ops o env):ayt P own o (ev env) d/\kO own ops d=true:=by
 obtain⟨dst,op,t,pos,af,g⟩:=o; unfold tc at h; cases op<;>simp only at h<;>try (cases h; done)
 case buildSlice ty n parts =>
  cases dst with
  | none=>cases h
  | some k =>
   simp only at h; split at h
   ·rename_i hn; split at h
    ·rename_i hw; simp only[Option.some.injEq] at h; subst h; refine⟨⟨λc=>match c with
      | some _=>none
      | none=>(match kW P ty n (parts.toList.map λx=>(x.1,ev env x.2)) with
       | some (e,es)=>(match bw P e with
        | some sz=>some (True,.row k 0,.row 0 e sz es)
        | none=>none)
       | none=>(match uj P ty n (parts.toList.map λx=>(x.1,ev env x.2)) with
        | some (_,cs)=>some (True,.zz k n,.box cs)
        | none=>none)),λG=>?_⟩,hw⟩
     simp only[fI]; rw[if_pos hn]; simp only[exN]; cases hG:G k with
     | some _=>simp only[orE,isApp]
     | none =>
      simp only; cases kW P ty n (parts.toList.map λx=>(x.1,ev env x.2)) with
      | none =>
       simp only; cases uj P ty n (parts.toList.map λx=>(x.1,ev env x.2)) with
       | none=>simp only[orE,isApp]
       | some r=>obtain⟨e,cs⟩:=r; simp only[orE,isApp]
      | some r=>obtain⟨e,es⟩:=r; simp only; cases bw P e<;>simp only[orE,isApp]
    ·cases h
   ·cases h
 case makeSlice ty l c =>
  cases dst with
  | none=>cases h
  | some k =>
   simp only at h; split at h
   ·rename_i hn; split at h
    ·rename_i hw; simp only[Option.some.injEq] at h; subst h; refine⟨⟨λq=>match q with
      | some _=>none
      | none=>(match exN P ⟨some k,.makeSlice ty l c,t,pos,af,g⟩ (ev env) b8 k with
       | some (pre,v,H')=>(match H' k with
        | some ch=>some (pre,v,ch)
        | none=>none)
       | none=>none),λG=>?_⟩,hw⟩
     simp only[fI]; rw[if_pos hn]; simp only[exN]; cases hG:G k with
     | some _=>simp only[orE,isApp]
     | none =>
      simp only[show b8 k=none from rfl]; split
      ·split
       ·split
        ·simp only[orE,bl,if_true]
        ·simp only[orE,isApp]
       ·simp only[orE,isApp]
      ·simp only[orE,isApp]
    ·cases h
   ·cases h
 case call cl =>
  have hk:(yf own ops ⟨dst,.call cl,t,pos,af,g⟩).isSome=true:=by rw[h]; rfl
  have hst:adn own ⟨dst,.call cl,t,pos,af,g⟩ env:=hs.2 hk; unfold yf at h; unfold adn at hst; split at h
  ·rename_i a s heq; obtain⟨t1,t2,aBy⟩:=ye heq; rw[heq] at hst; simp only at hst; simp only[Op.call.injEq] at aBy; subst aBy; split at h
   ·rename_i hw; simp only[Option.some.injEq] at h; subst h; rw[Bool.and_eq_true] at hw; obtain⟨⟨bg,h1⟩,x,h2⟩:=hst; have sr:ev env (.tmp a) = .row (oO own a) bg:=h1; have hsrc:∀G:ay,uk G (.p x)=uk b8 (.p x):=λG=>by
     cases x with
     | val v =>
      cases v with
      | slice a n c=>cases n<;>rfl
      | _=>rfl
     | _=>rfl
    refine⟨⟨λc=>match dg P t1 t2,c with
     | some (e', sz', qf), some (.row v e sz es) => if v = bg ∧ e = e' ∧ sz = sz' then (match uk b8 (.p x) with
       | some ns=>some ((es.length+ns.length) * qf<=140737488355328/\∀x∈ns,x.length=sz,.row (oO own a) (bg+1),.row (bg+1) e sz (es++ns))
       | none=>none) else none
     | _,_=>none,λG=>?_⟩,hw.2⟩
    have hM:fI P own ⟨dst,.call ⟨.builtin .append,#[.tmp a,s],#[t1,t2]⟩,t,pos,af,g⟩ (ev env) G=fW P ⟨dst,.call ⟨.builtin .append,#[.tmp a,s],#[t1,t2]⟩,t,pos,af,g⟩ (ev env) G:=by
     unfold fI; cases dst with
     | none=>rfl
     | some k =>
      simp only; split
      ·have:exN P ⟨some k,.call ⟨.builtin .append,#[.tmp a,s],#[t1,t2]⟩,t,pos,af,g⟩ (ev env) G k=none:=by
        unfold exN; cases G k with
        | some _=>rfl
        | none=>simp only[List.map_cons,List.map_nil,sr]
       rw[this]; rfl
      ·rfl
    rw[hM,aes,sr,h2,ajs]; cases hT:dg P t1 t2 with
    | none=>simp only[ayf]
    | some r =>
     obtain⟨e',sz',qf⟩:=r; rw[ajt,hsrc]; cases hG:G (oO own a) with
     | none=>simp only
     | some c =>
      cases c with
      | row v e sz es =>
       simp only; split
       ·cases uk b8 (.p x)<;>simp only
       ·rfl
      | box cs=>simp only
      | tail v e sz es=>simp only
      | shut v es=>simp only
      | deep v e sz k e' sz' es=>simp only
   ·cases h
  ·cases h
 case alloc e =>
  cases dst with
  | none=>cases h
  | some k =>
   simp only at h; split at h
   ·cases h
   ·rename_i hn; split at h
    ·rename_i hw; simp only[Option.some.injEq] at h; subst h; refine⟨⟨λc=>match c,cI P e with
      | none,some zs=>if zs.all (·.oneCell')=true then some (True,.ptr k 0,.box (zs.map λz=>.p (.val z))) else none
      | _,_=>none,λG=>?_⟩,hw⟩
     simp only[fI]; rw[if_neg hn,ahY rfl]; simp only[vP]; cases hG:G k with
     | some _=>simp only
     | none =>
      cases cI P e with
      | none=>simp only
      | some zs=>simp only; split<;>rfl
    ·cases h
 case box e x =>
  cases dst with
  | none=>cases h
  | some k =>
   simp only at h; split at h
   ·cases h
   ·rename_i hn; split at h
    ·rename_i hw; simp only[Option.some.injEq] at h; subst h; refine⟨⟨λc=>match c with
      | none=>if (bT (ev env x)).all nq=true then some (True,.ptr k 0,.box (bT (ev env x))) else none
      | some _=>none,λG=>?_⟩,hw⟩
     simp only[fI]; rw[if_neg hn,ahY rfl]; simp only[vP]; cases hG:G k with
     | some _=>simp only
     | none=>simp only; split<;>rfl
    ·cases h
 case store e a x =>
  cases a with
  | tmp k =>
   cases dst with
   | some _=>cases h
   | none =>
    simp only at h; split at h
    ·rename_i hw; simp only[Option.some.injEq] at h; subst h; obtain⟨off,hp⟩:=hs.1 hw; refine⟨⟨λc=>match bw P e with
      | some n=>if (bT (ev env x)).length=n/\(bT (ev env x)).all nq=true then match c with
       | some (.box cs)=>if off+n<=cs.length then some (True,.dead,.box (splice cs off (bT (ev env x)))) else none
       | _=>none
       else none
      | none=>none,λG=>?_⟩,hw⟩
     have he:ev env (.tmp k) = .ptr k off:=hp; simp only[fI]; rw[ahY rfl]; simp only[vP,he]; cases bw P e with
     | none=>simp only
     | some n =>
      simp only; split
      ·cases hG:G k with
       | none=>simp only
       | some c =>
        cases c<;>simp only
        split<;>rfl
      ·rfl
    ·cases h
  | _=>cases h
def aez (P:Program) (own:List Nat) (ops:Array Oper) (o:Oper) (ρ:Operand->AV) (H:ay) (v:AV) (H':ay):Prop :=
 ∃k en ps b r,∃id:Nat,di o ρ=some (k,en)/\dS (fZ (ou own ops H)) en=some (ps,b)/\bu P k ps (λx=>x=r)/\(b=true->r.flat=true) /\
  (∀i,id<=i->i<(cF id r).2->H i=none/\kO own ops i=false)/\v=(cF id r).1/\H'=fR id H r
theorem ajG:∀ (r:RV) (k:Nat) (H:ay) (d:Nat) (c:Chunk),(d<k\/(cF k r).2<=d)->fR k (bl H d c) r=bl (fR k H r) d c:=by
 intro r; refine RV.rec (motive_1:=λr=>∀k (H:ay) d c,(d<k\/(cF k r).2<=d)->fR k (bl H d c) r=bl (fR k H r) d c) (motive_2:=λrs=>∀k (H:ay) d c,(d<k\/(iX k rs).2<=d)->kz k (bl H d c) rs=bl (kz k H rs) d c) ?_ ?_ ?_ ?_ ?_ ?_ ?_ r
 ·intro x k H d c _; rfl
 ·intro e sz es k H d c hd; have hne:d≠k:=by
   rintro rfl; rcases hd with h | h
   ·exact Nat.lt_irrefl _ h
   ·exact Nat.lt_irrefl _ h
  exact j7 H c _ hne
 ·intro e sz j e' sz' es k H d c hd; have hne:d≠k:=by
   rintro rfl; rcases hd with h | h
   ·exact Nat.lt_irrefl _ h
   ·exact Nat.lt_irrefl _ h
  exact j7 H c _ hne
 ·intro rs ih k H d c hd; exact ih k H d c hd
 ·intro rs ih k H d c hd; exact ih k H d c hd
 ·intro k H d c _; rfl
 ·intro r rs ih1 ih2 k H d c hd; show kz _ (fR k (bl H d c) r) rs=bl (kz _ (fR k H r) rs) d c; have h1:=yc r k; have h2:=acu rs (cF k r).2; have hd':d<k\/(iX (cF k r).2 rs).2<=d:=hd; rw[ih1 k H d c (by omega),ih2 _ _ d c (by omega)]
theorem yg {o:Oper} {ρ:Operand->AV} {H H':ay} {v:AV} (h:aez P own ops o ρ H v H'):HSub H H':=by
 obtain⟨k,en,ps,b,r,id,_,_,_,_,h5,_,rfl⟩:=h; intro i c hc; rw[aax r id H i,hc]; rcases Nat.lt_or_ge i id with h | h
 ·exact .inl h
 ·rcases Nat.lt_or_ge i (cF id r).2 with h' | h'
  ·rw[(h5 i h h').1] at hc; cases hc
  ·exact .inr h'
theorem abw {o:Oper} {ρ ρ':Operand->AV} {H H':ay} {v:AV} (h:∀x∈o.op.operands,ρ x=ρ' x) (hc:aez P own ops o ρ H v H'):aez P own ops o ρ' H v H':=by obtain⟨k,en,ps,b,r,id,h1,h2⟩:=hc; exact⟨k,en,ps,b,r,id,(yd h) ▸ h1,h2⟩
theorem amw {o:Oper} {ρ:Operand->AV} {H:ay} (hq:bM own o=true) {x:FuncId×List AV} (h1:di o ρ=some x):fI P own o ρ H=none:=by
 have hq':=hq; unfold bM at hq; rw[Bool.and_eq_true] at hq; rw[jN hq.1,acC hq']; unfold di at h1; split at h1
 ·rename_i c hop; split at h1
  ·rename_i f hc; unfold nH ri mw w8 xO; simp only[hop,hc]
  ·cases h1
 ·cases h1
def jt (P:Program) (own:List Nat) (ops:Array Oper) (c:og) (o:Oper) (env:Env) (H:ay) (v:AV) (H':ay):Prop:=match c with
 | .p=>∃pre,nH P o (ev env)=some (pre,v)/\pre/\H'=H/\(match o.dst with | some d=>!own.contains d | none=>true)=true
 | .q=>bM own o=true/\H'=H/\((∃pre,fW P o (ev env) H=some (pre,v,H)/\pre)\/(∃x,v = .p x/\ya P o (ev env) H x/\fI P own o (ev env) H=none))
 | .b=>bM own o=true/\H'=H/\∃pre,fW P o (ev env) (rN H)=some (pre,v,rN H)/\pre
 | .w=>∃pre,fI P own o (ev env) H=some (pre,v,H')/\pre
 | .s=>∃pre,fI P own o (ev env) H=some (pre,v,H')/\pre
 | .f=>bM own o=true/\aez P own ops o (ev env) H v H'
 | .t=>False
 | .o=>bM own o=true/\H'=H/\((∃pre,fW P o (ev env) (ou own ops H)=some (pre,v,ou own ops H)/\pre)\/(∃x,v = .p x/\ya P o (ev env) (ou own ops H) x/\fI P own o (ev env) (ou own ops H)=none))
theorem aoR {o:Oper} {env:Env} {H H':ay} {v:AV} (h:jt P own ops .b o env H v H'):jt P own ops .q o env H v H':=by obtain⟨h1,rfl,pre,h2,h3⟩:=h; exact⟨h1,rfl,.inl ⟨pre,ot (ajE _) h1 h2,h3⟩⟩
theorem aoS {o:Oper} {env:Env} {H H':ay} {v:AV} (h:jt P own ops .o o env H v H'):jt P own ops .q o env H v H':=by
 obtain⟨h1,rfl,⟨pre,h2,h3⟩ | ⟨x,h2,h3,h4⟩⟩:=h
 ·exact⟨h1,rfl,.inl ⟨pre,ot (aex own ops _) h1 h2,h3⟩⟩
 ·exact⟨h1,rfl,.inr ⟨x,h2,acE (aex own ops _) h3,aaB h1 h3⟩⟩
theorem auH {c:og} {o:Oper} {env:Env} {H H':ay} {v:AV} (h:jt P own ops c o env H v H') {W:Env->ay->Prop} (hW:W (cA env o.dst v) H') :
  match fI P own o (ev env) H with
   | some (pre,v,H')=>pre/\W (cA env o.dst v) H'
   | none=>iL P o W env H:=by
 have hq : jt P own ops .q o env H v H' → (match fI P own o (ev env) H with
   | some (pre,v,H')=>pre/\W (cA env o.dst v) H'
   | none=>iL P o W env H):=λh=>by
  obtain⟨h1,rfl,h2 | ⟨x,rfl,h2,h3⟩⟩:=h
  ·obtain⟨pre,h3,h4⟩:=h2; unfold bM at h1; rw[Bool.and_eq_true] at h1; rw[jN h1.1,h3]; exact⟨h4,hW⟩
  ·rw[h3]; exact .inl (.inl ⟨[],vW h2 hW⟩)
 cases c with
 | p=>obtain⟨pre,h1,h2,rfl,h3⟩:=h; rw[jN h3]; unfold fW; rw[h1]; exact⟨h2,hW⟩
 | b=>exact hq (aoR h)
 | q=>exact hq h
 | o=>exact hq (aoS h)
 | w=>obtain⟨pre,h1,h2⟩:=h; rw[h1]; exact⟨h2,hW⟩
 | s=>obtain⟨pre,h1,h2⟩:=h; rw[h1]; exact⟨h2,hW⟩
 | f=>obtain⟨hq',k,en,ps,b,r,id,h1,h2,h3,h4,h5,rfl,rfl⟩:=h; rw[amw hq' h1]; exact .inl (.inr (.inr ⟨[],.inl ⟨k,en,ps,b,_,id,h1,nI (λa r=>ags (aex own ops H)) h2,h3,λr' hr=>by subst hr; exact⟨h4,λi a b=>(h5 i a b).1,hW⟩⟩⟩))
 | t=>exact h.elim
theorem ado {o:Oper} {W W':Env->ay->Prop} {env:Env} {H:ay} (h:∀e G,W e G->W' e G) (hh:acy P o W env H):acy P o W' env H:=by
 rcases hh with ⟨ids,k,en,ps,b,Q,h1,h2,h3,h4⟩ | ⟨k,ps,x,h1,h2,h3⟩ | ⟨ids,⟨k,en,ps,b,Q,id,h1,h2,h3,h4⟩ | ⟨k,id,v,e,sz,es,en,ps,b,Q,h1,h2,h3,h4,h5⟩⟩
 ·exact .inl ⟨ids,k,en,ps,b,Q,h1,h2,h3,λr hr=>⟨(h4 r hr).1,h _ _ (h4 r hr).2⟩⟩
 ·exact .inr (.inl ⟨k,ps,x,h1,h2,h _ _ h3⟩)
 ·exact .inr (.inr ⟨ids,.inl ⟨k,en,ps,b,Q,id,h1,h2,h3,λr hr=>⟨(h4 r hr).1,(h4 r hr).2.1,h _ _ (h4 r hr).2.2⟩⟩⟩)
 ·refine .inr (.inr ⟨ids,.inr ⟨k,id,v,e,sz,es,en,ps,b,Q,h1,h2,h3,h4,λa c hq=>?_⟩⟩); obtain⟨v',e',sz',es',a',q1,q2,q3,q4⟩:=h5 a c hq; exact⟨v',e',sz',es',a',q1,q2,q3,h _ _ q4⟩
theorem amx {o:Oper} {W W':Env->ay->Prop} {env:Env} {H:ay} (h:∀e G,W e G->W' e G) (hh:iL P o W env H):iL P o W' env H:=by
 have hC:∀ {env H},abq P o W env H->abq P o W' env H:=λhc C I L tm w σ hs hσ=>by obtain⟨k,args,q1,q2⟩:=hc C I L tm w σ hs hσ; exact⟨k,args,q1,q2.mono λe w' ⟨v,I',L',a,H',m1,m2,m3⟩=>⟨v,I',L',a,H',m1,h _ _ m2,m3⟩⟩
 have hR:∀ {env H},agp P o W env H->agp P o W' env H:=λ⟨v,H',q1,q2⟩=>⟨v,H',h _ _ q1,q2⟩
 rcases hh with hh | ⟨e2,H2,q1,⟨pre,v,H',q2,q3,q4⟩ | q | q | q⟩ | hh | hh
 ·exact .inl (ado h hh)
 ·exact .inr (.inl ⟨e2,H2,q1,.inl ⟨pre,v,H',q2,q3,h _ _ q4⟩⟩)
 ·exact .inr (.inl ⟨e2,H2,q1,.inr (.inl (ado h q))⟩)
 ·exact .inr (.inl ⟨e2,H2,q1,.inr (.inr (.inl (hR q)))⟩)
 ·exact .inr (.inl ⟨e2,H2,q1,.inr (.inr (.inr (hC q)))⟩)
 ·exact .inr (.inr (.inl (hR hh)))
 ·exact .inr (.inr (.inr (hC hh)))
def opK (P:Program) (own:List Nat) (o:Oper) (W:Env->ay->Prop) (env:Env) (H:ay):Prop:=match fI P own o (ev env) H with
 | some (pre,v,H')=>pre/\W (cA env o.dst v) H'
 | none=>iL P o W env H
theorem ajH {o:Oper} {W W':Env->ay->Prop} {env:Env} {H:ay} (h:∀e G,W e G->W' e G) (hh:opK P own o W env H):opK P own o W' env H:=by
 unfold opK at *; split at hh
 ·exact⟨hh.1,h _ _ hh.2⟩
 ·exact amx h hh
def aoT (P:Program) (own:List Nat) (ops:Array Oper) (o:Oper) (W:Env->ay->Prop) (env:Env) (H:ay):Prop:=(l8 ops o env=some false/\W (cA env o.dst (.dB [])) H)\/(l8 ops o env=some true/\opK P own o W env H)
def aOp (P:Program) (own:List Nat) (ops:Array Oper) (tl:Nat->Bool) (i:Nat) (W:Env->ay->Prop) (env:Env) (H:ay):Prop:=match ops[i]? with
 | none=>W env H
 | some o=>(l8 ops o env=some false/\W (cA env o.dst (.dB [])) H)\/(l8 ops o env=some true/\((acF own ops o env/\∃c v H',jt P own ops c o env H v H'/\W (cA env o.dst v) H')\/(tl i=true/\opK P own o W env H)))
def ajI (P:Program) (own:List Nat) (ops:Array Oper) (tl:Nat->Bool) (K:Env->ay->Prop):Nat->Array Bool->Env->ay->Prop
 | 0,listed,env,H=>Region.ready .any ops listed=[]/\K env H
 | fuel+1,listed,env,H=>(Region.ready .any ops listed=[]->K env H) /\
  ∀i∈Region.ready .any ops listed,aOp P own ops tl i (ajI P own ops tl K fuel (listed.setIfInBounds i true)) env H
theorem qx {C:Ctx} (hd:∀ (i:Nat) o,ops[i]? = some o->vn C.n o.dst) {Q:Exit->Act->World->Prop}
  (hK:∀env H I L tm w,K env H->gE C env H I L tm w->Q .normal ⟨tm,[]⟩ w):∀ (fuel:Nat) (listed:Array Bool) (env:Env) (H:ay) (I:Mem) (L:bt) (tm:Array Value) (w:World),
  ajI P own ops tl K fuel listed env H->gE C env H I L tm w->wpAny P .any ops Q fuel listed ⟨tm,[]⟩ w
 | 0,listed,env,H,I,L,tm,w,h,hs=>⟨h.1,hK env H I L tm w h.2 hs⟩
 | fuel+1,listed,env,H,I,L,tm,w,h,hs=>by
  refine⟨λh0=>hK env H I L tm w (h.1 h0) hs,λi hi=>?_⟩; have hi:=h.2 i hi; unfold aOp at hi; unfold wpOp; cases ho:ops[i]? with
  | none=>rw[ho] at hi; exact qx hd hK fuel _ env H I L tm w hi hs
  | some o =>
   rw[ho] at hi; simp only[]; have hdo:=hd i o ho; rcases hi with ⟨hg,hi⟩ | ⟨hg,⟨_,c,v,H',hst,hi⟩ | ⟨_,hi⟩⟩
   ·rw[if_neg (by rw[pI hg hs]; simp)]; have e:(Act.put ⟨tm,[]⟩ o.dst undef:Act)=⟨(Act.put ⟨tm,[]⟩ o.dst undef).tmps,[]⟩:=by cases o.dst<;>rfl
    rw[e]; exact qx hd hK fuel _ _ H I L _ w hi (hs.cA hdo (.dB [] [] rfl (by simp)) [])
   ·rw[if_pos (pI hg hs)]; exact .inl (ahP (auH hst hi) hs hdo λenv' H' I' L' tm' w' hw hs'=>qx hd hK fuel _ env' H' I' L' tm' w' hw hs')
   ·rw[if_pos (pI hg hs)]; exact .inl (ahP hi hs hdo λenv' H' I' L' tm' w' hw hs'=>qx hd hK fuel _ env' H' I' L' tm' w' hw hs')
def aeA (ops:Array Oper) (anc:Nat->Nat->Bool):Bool :=
 (List.range ops.size).all λj=>(List.range ops.size).all λi=>!anc j i||match ops[j]? with
  | some o=>o.after.toList.any λe=>Region.binds .any e&&decide (e.on<j)&&(e.on == i||anc e.on i)
  | none=>false
theorem aeB {anc:Nat->Nat->Bool} (h:aeA ops anc=true) {i j:Nat} {o:Oper} (hj:ops[j]? = some o) (hi:i<ops.size) (ha:anc j i=true) :
  ∃e∈o.after,Region.binds .any e=true/\e.on<j/\(e.on=i\/anc e.on i=true):=by
 have aEG:j<ops.size:=(Array.getElem?_eq_some_iff.1 hj).1; have h1:=List.all_eq_true.1 h j (List.mem_range.2 aEG); have h2:=List.all_eq_true.1 h1 i (List.mem_range.2 hi); rw[ha,hj] at h2; simp only[Bool.not_true,Bool.false_or] at h2; obtain⟨e,he,h3⟩:=List.any_eq_true.1 h2; simp only[Bool.and_eq_true,decide_eq_true_eq,Bool.or_eq_true,beq_iff_eq] at h3; exact⟨e,by simpa using he,h3.1.1,h3.1.2,h3.2⟩
def qy (ops:Array Oper) (listed:Array Bool):Prop:=listed.size=ops.size/\∀j o,ops[j]? = some o->listed.getD j false=true->∀e∈o.after,Region.binds .any e=true->listed.getD e.on false=true
theorem qy.set {listed:Array Bool} (h:qy ops listed) {i:Nat} (hi:i∈Region.ready .any ops listed):qy ops (listed.setIfInBounds i true):=by
 obtain⟨_,oi,hoi,hall⟩:=mem_ready.1 hi; refine⟨by simpa using h.1,λj o hj hl e he hb=>?_⟩; by_cases hij:i=j
 ·subst hij; have:o=oi:=Option.some.inj (hj.symm.trans hoi); subst this; exact getD_set_true (hall e he hb)
 ·rw[getD_set_ne false hij] at hl; exact getD_set_true (h.2 j o hj hl e he hb)
theorem afU {anc:Nat->Nat->Bool} (hA:aeA ops anc=true) {listed:Array Bool} (hc:qy ops listed) {i:Nat} (hi:i<ops.size) :
  ∀ (j:Nat),listed.getD j false=true->anc j i=true->listed.getD i false=true:=by
 intro j
 induction j using Nat.strongRecOn with
 | _ j ih =>
  intro hl ha; have hjl:j<ops.size:=by
   rw[<-hc.1]; rcases Nat.lt_or_ge j listed.size with h | h
   ·exact h
   ·simp[Array.getElem?_eq_none h] at hl
  obtain⟨o,ho⟩:∃o,ops[j]? = some o:=⟨ops[j],by simp[hjl]⟩; obtain⟨e,he,hb,hlt,h1⟩:=aeB hA ho hi ha; have hle:=hc.2 j o ho hl e he hb; rcases h1 with rfl | h1
  ·exact hle
  ·exact ih e.on hlt hle h1
theorem agx {anc:Nat->Nat->Bool} (hA:aeA ops anc=true) {listed:Array Bool} (hc:qy ops listed) {i j:Nat} (hi:i∈Region.ready .any ops listed) (hj:j∈Region.ready .any ops listed):anc j i=false:=by
 cases ha:anc j i with
 | false=>rfl
 | true =>
  exfalso; obtain⟨hiu,oi,hoi,_⟩:=mem_ready.1 hi; obtain⟨_,oj,hoj,hall⟩:=mem_ready.1 hj; have qg:i<ops.size:=(Array.getElem?_eq_some_iff.1 hoi).1; obtain⟨e,he,hb,hlt,h1⟩:=aeB hA hoj qg ha; have hle:=hall e he hb; have:listed.getD i false=true:=by
   rcases h1 with rfl | h1
   ·exact hle
   ·exact afU hA hc qg e.on hle h1
  have h2:i<listed.size:=by rw[hc.1]; exact qg
  simp[h2] at hiu this; rw[hiu] at this; cases this
theorem aAv {env:Env} {d:Option Tmp} {v:AV} {x:Operand} (h:∀k,d=some k->x≠.tmp k):ev (cA env d v) x=ev env x:=by
 cases d with
 | none=>rfl
 | some k =>
  cases x with
  | tmp t =>
   have hne:t≠k:=λe=>h k rfl (by rw[e])
   show ct env k v t=env t; unfold ct; rw[if_neg hne]
  | _=>rfl
theorem aqK {o:Oper} {t:Tmp} (h:Operand.tmp t∈o.op.operands):t∈o.looksAt ops:=by unfold Oper.looksAt; rw[List.mem_append]; left; exact List.mem_filterMap.2 ⟨.tmp t,by simpa using h,rfl⟩
theorem abx {o:Oper} {env:Env} {d:Option Tmp} {v:AV} (h:∀k,d=some k->k ∉ o.looksAt ops):∀x∈o.op.operands,ev (cA env d v) x=ev env x:=λx hx=>aAv λk hk e=>h k hk (aqK (by rw[<-e]; exact hx))
theorem aaC {o:Oper} {env:Env} {d:Option Tmp} {v:AV} (h:∀k,d=some k->k ∉ o.looksAt ops):l8 ops o (cA env d v)=l8 ops o env:=by
 unfold l8; cases hg:o.guard with
 | none=>rfl
 | some gw =>
  obtain⟨j,want⟩:=gw; simp only[]; cases hd:(ops[j]?).bind (·.dst) with
  | none=>rfl
  | some s =>
   simp only[]; have:cA env d v s=env s:=by
    cases d with
    | none=>rfl
    | some k =>
     have hk:=h k rfl; have hne:s≠k:=λe=>hk (by
      unfold Oper.looksAt; rw[List.mem_append]; right; rw[hg]; simp only[]; rw[hd,e]; simp)
     show ct env k v s=env s; unfold ct; rw[if_neg hne]
   rw[this]
theorem agy {env:Env} {d e:Option Tmp} {v u:AV} (h:∀k,d=some k->e≠some k):cA (cA env d v) e u=cA (cA env e u) d v:=by
 cases d with
 | none=>rfl
 | some k =>
  cases e with
  | none=>rfl
  | some m=>exact atg env v u λhkm=>h k rfl (by rw[hkm])
theorem ajJ {o:Oper} {env:Env} {d:Option Tmp} {v:AV} (h:∀k,d=some k->k ∉ o.looksAt ops):acF own ops o (cA env d v)↔acF own ops o env:=by
 have hop:∀x∈o.op.operands,ev (cA env d v) x=ev env x:=abx (ops:=ops) h; have h2:adn own o (cA env d v)↔adn own o env:=by
  unfold adn; cases ha:appArg o.op with
  | none=>rfl
  | some r=>obtain⟨a,s⟩:=r; obtain⟨t1,t2,e⟩:=ye ha; have e1:ev (cA env d v) (.tmp a)=ev env (.tmp a):=hop _ (by rw[e]; simp[Op.operands,Call.operands]); have e2:ev (cA env d v) s=ev env s:=hop _ (by rw[e]; simp[Op.operands,Call.operands]); have e1':cA env d v a=env a:=e1; simp only[e1',e2]
 unfold acF; rw[h2]; cases ho:o.op with
 | store t a x =>
  cases a with
  | tmp k=>have h1:ev (cA env d v) (.tmp k)=ev env (.tmp k):=hop _ (by rw[ho]; simp[Op.operands]); have h2:cA env d v k=env k:=h1; simp only[h2]
  | _=>rfl
 | _=>rfl
theorem agz {c:og} {o:Oper} {env:Env} {H H':ay} {v u:AV} {d:Option Tmp} (h:∀k,d=some k->k ∉ o.looksAt ops):jt P own ops c o (cA env d u) H v H'↔jt P own ops c o env H v H':=by
 have hop:∀x∈o.op.operands,ev (cA env d u) x=ev env x:=abx (ops:=ops) h; have aAw:∀x∈o.op.operands,ev env x=ev (cA env d u) x:=λx hx=>(hop x hx).symm
 cases c with
 | p=>simp only[jt,agq hop]
 | q =>
  simp only[jt,y6 hop,ur hop]; constructor
  ·rintro⟨h1,h2,h3 | ⟨x,h3,h4,h5⟩⟩
   ·exact⟨h1,h2,.inl h3⟩
   ·exact⟨h1,h2,.inr ⟨x,h3,uu hop h4,h5⟩⟩
  ·rintro⟨h1,h2,h3 | ⟨x,h3,h4,h5⟩⟩
   ·exact⟨h1,h2,.inl h3⟩
   ·exact⟨h1,h2,.inr ⟨x,h3,uu aAw h4,h5⟩⟩
 | o =>
  simp only[jt,y6 hop,ur hop]; constructor
  ·rintro⟨h1,h2,h3 | ⟨x,h3,h4,h5⟩⟩
   ·exact⟨h1,h2,.inl h3⟩
   ·exact⟨h1,h2,.inr ⟨x,h3,uu hop h4,h5⟩⟩
  ·rintro⟨h1,h2,h3 | ⟨x,h3,h4,h5⟩⟩
   ·exact⟨h1,h2,.inl h3⟩
   ·exact⟨h1,h2,.inr ⟨x,h3,uu aAw h4,h5⟩⟩
 | b=>simp only[jt,y6 hop]
 | w=>simp only[jt,ur hop]
 | s=>simp only[jt,ur hop]
 | f=>exact⟨λh=>⟨h.1,abw hop h.2⟩,λh=>⟨h.1,abw aAw h.2⟩⟩
 | t=>exact Iff.rfl
theorem yh {c:og} {o:Oper} {env:Env} {H H':ay} {v:AV} (hq:bM own o=true) (h:jt P own ops c o env H v H'):HSub H H':=by
 have key:H'=H->HSub H H':=λe=>by rw[e]; exact λ_ _ h=>h
 cases c with
 | p=>obtain⟨_,_,_,h,_⟩:=h; exact key h
 | q=>exact key h.2.1
 | b=>exact key h.2.1
 | o=>exact key h.2.1
 | w=>obtain⟨pre,h1,_⟩:=h; exact key (rj hq h1)
 | s=>obtain⟨pre,h1,_⟩:=h; exact key (rj hq h1)
 | f=>exact yg h.2
 | t=>exact h.elim
theorem aaD {c:og} {o:Oper} {env:Env} {H H':ay} {v:AV} (hq:ta own o=true) (h:jt P own ops c o env H v H'):H'=H/\∀G,jt P own ops .p o env G v G:=by
 have hown:(match o.dst with | some d=>!own.contains d | none=>true)=true:=by unfold ta at hq; rw[Bool.and_eq_true] at hq; exact hq.1
 have hqq:jt P own ops .q o env H v H'->H'=H/\∀G,jt P own ops .p o env G v G:=λh=>by
  obtain⟨_,rfl,⟨pre,h1,h2⟩ | ⟨x,_,h1,_⟩⟩:=h
  ·rw[ajD hq] at h1; cases hp:nH P o (ev env) with
   | none=>rw[hp] at h1; cases h1
   | some r=>obtain⟨pre',v'⟩:=r; rw[hp] at h1; simp only[Option.some.injEq,Prod.mk.injEq] at h1; obtain⟨rfl,rfl,_⟩:=h1; exact⟨rfl,λG=>⟨pre',hp,h2,rfl,hown⟩⟩
  ·obtain⟨k,en,ps,b,hc,_⟩:=h1; rw[agr hq] at hc; cases hc
 cases c with
 | p=>obtain⟨pre,h1,h2,h3,h4⟩:=h; exact⟨h3,λG=>⟨pre,h1,h2,rfl,h4⟩⟩
 | t=>exact h.elim
 | b=>exact hqq (aoR h)
 | q=>exact hqq h
 | o=>exact hqq (aoS h)
 | w =>
  obtain⟨pre,h1,h2⟩:=h; rw[aev hq] at h1; cases hp:nH P o (ev env) with
  | none=>rw[hp] at h1; cases h1
  | some r=>obtain⟨pre',v'⟩:=r; rw[hp] at h1; simp only[Option.some.injEq,Prod.mk.injEq] at h1; obtain⟨rfl,rfl,rfl⟩:=h1; exact⟨rfl,λG=>⟨pre',hp,h2,rfl,hown⟩⟩
 | s =>
  obtain⟨pre,h1,h2⟩:=h; rw[aev hq] at h1; cases hp:nH P o (ev env) with
  | none=>rw[hp] at h1; cases h1
  | some r=>obtain⟨pre',v'⟩:=r; rw[hp] at h1; simp only[Option.some.injEq,Prod.mk.injEq] at h1; obtain⟨rfl,rfl,rfl⟩:=h1; exact⟨rfl,λG=>⟨pre',hp,h2,rfl,hown⟩⟩
 | f=>obtain⟨_,k,en,ps,b,r,id,h1,_⟩:=h; rw[agr hq] at h1; cases h1
def Head (P:Program) (own:List Nat) (ops:Array Oper) (c:og) (o:Oper) (env:Env) (H:ay) (v:AV) (H':ay):Prop:=(l8 ops o env=some false/\v = .dB []/\H'=H)\/(l8 ops o env=some true/\acF own ops o env/\jt P own ops c o env H v H')
theorem Head.aOp {c:og} {i:Nat} {o:Oper} {env:Env} {H H':ay} {v:AV} (hi:ops[i]? = some o) (h:Head P own ops c o env H v H') {W:Env->ay->Prop} (hW:W (cA env o.dst v) H'):aOp P own ops tl i W env H:=by
 unfold cE.aOp; rw[hi]; rcases h with ⟨h1,rfl,rfl⟩ | ⟨h1,hst,h2⟩
 ·exact .inl ⟨h1,hW⟩
 ·exact .inr ⟨h1,.inl ⟨hst,c,v,H',h2,hW⟩⟩
theorem Head.put {c:og} {o:Oper} {env:Env} {H H':ay} {v u:AV} {d:Option Tmp} (h:∀k,d=some k->k ∉ o.looksAt ops) (hh:Head P own ops c o env H v H'):Head P own ops c o (cA env d u) H v H':=by unfold Head at *; rw[aaC h,agz h,ajJ h]; exact hh
def ahZ (own:List Nat) (ops:Array Oper) (c:og) (oi oj:Oper):Bool:=oi.apart ops oj&&match c with
 | .p=>true
 | .b=>bM own oj||agt own oj||auG oj
 | .q=>bM own oj||agt own oj
 | .o=>bM own oj||agt own oj||(tc own ops oj).isSome
 | .w=>ta own oj||(match tc own ops oi,tc own ops oj with
  | some x,some y=>x != y
  | _,_=>false)
 | .s=>ta own oj||(match tc own ops oi,tc own ops oj with
  | some x,some y=>x != y
  | _,_=>false)
 | .f=>ta own oj||(tc own ops oj).isSome
 | .t=>false
theorem acG {c:og} {o:Oper} {env:Env} {H H':ay} {v:AV} (hn:agt own o=true) (h:jt P own ops c o env H v H'):HSub H H':=by
 cases c with
 | p=>obtain⟨_,_,_,h3,_⟩:=h; rw[h3]; exact λ_ _ h=>h
 | b=>rw[h.2.1]; exact λ_ _ h=>h
 | q=>rw[h.2.1]; exact λ_ _ h=>h
 | o=>rw[h.2.1]; exact λ_ _ h=>h
 | w=>obtain⟨pre,h1,_⟩:=h; exact agu hn h1
 | s=>obtain⟨pre,h1,_⟩:=h; exact agu hn h1
 | f=>exact yg h.2
 | t=>exact h.elim
theorem aqL {c:og} {o:Oper} {env:Env} {H H':ay} {v:AV} (hn:auG o=true) (h:jt P own ops c o env H v H'):HSub (rN H) (rN H'):=by
 cases c with
 | p=>obtain⟨_,_,_,h3,_⟩:=h; rw[h3]; exact λ_ _ h=>h
 | t=>exact h.elim
 | b=>rw[h.2.1]; exact λ_ _ h=>h
 | q=>rw[h.2.1]; exact λ_ _ h=>h
 | o=>rw[h.2.1]; exact λ_ _ h=>h
 | w=>obtain⟨pre,h1,_⟩:=h; exact agv hn h1
 | s=>obtain⟨pre,h1,_⟩:=h; exact agv hn h1
 | f=>exact y9 (yg h.2)
theorem Head.sub {o:Oper} {env:Env} {H G:ay} {v:AV} (hs:HSub H G) (h:Head P own ops .q o env H v H):Head P own ops .q o env G v G:=by
 rcases h with ⟨h1,h2,_⟩ | ⟨h1,hst,h2,_,h3 | ⟨x,h3,h4,h5⟩⟩
 ·exact .inl ⟨h1,h2,rfl⟩
 ·obtain⟨pre,h3,h4⟩:=h3; exact .inr ⟨h1,hst,h2,rfl,.inl ⟨pre,ot hs h2 h3,h4⟩⟩
 ·exact .inr ⟨h1,hst,h2,rfl,.inr ⟨x,h3,acE hs h4,aaB h2 h4⟩⟩
theorem Head.aEH {o:Oper} {env:Env} {H G:ay} {v:AV} (hs:HSub (ou own ops H) (ou own ops G)) (h:Head P own ops .o o env H v H):Head P own ops .o o env G v G:=by
 rcases h with ⟨h1,h2,_⟩ | ⟨h1,hst,h2,_,h3 | ⟨x,h3,h4,h5⟩⟩
 ·exact .inl ⟨h1,h2,rfl⟩
 ·obtain⟨pre,h3,h4⟩:=h3; exact .inr ⟨h1,hst,h2,rfl,.inl ⟨pre,ot hs h2 h3,h4⟩⟩
 ·exact .inr ⟨h1,hst,h2,rfl,.inr ⟨x,h3,acE hs h4,aaB h2 h4⟩⟩
theorem aby {c:og} {o:Oper} {env:Env} {H H':ay} {v:AV} {d:Nat} (hl:tc own ops o=some d) (hs:acF own ops o env) (h:jt P own ops c o env H v H'):∃pre,fI P own o (ev env) H=some (pre,v,H')/\pre:=by
 obtain⟨dst,op,t,pos,af,g⟩:=o; have hw:(jt P own ops .w ⟨dst,op,t,pos,af,g⟩ env H v H'->∃pre,fI P own ⟨dst,op,t,pos,af,g⟩ (ev env) H=some (pre,v,H')/\pre):=λh=>h
 have hcl:∀cl,op = .call cl->bM own ⟨dst,op,t,pos,af,g⟩=false/\nH P ⟨dst,op,t,pos,af,g⟩ (ev env)=none:=by
  intro cl e; subst e; have hl':yf own ops ⟨dst,.call cl,t,pos,af,g⟩=some d:=hl; have hst:=hs.2 (by rw[hl']; rfl); unfold yf at hl'; unfold adn at hst; cases ha:appArg (Op.call cl) with
  | none=>simp only[ha] at hl'; cases hl'
  | some r=>obtain⟨a,s⟩:=r; obtain⟨t1,t2,e2⟩:=ye ha; simp only[ha] at hst; obtain⟨⟨bg,h1⟩,x,h2⟩:=hst; simp only[Op.call.injEq] at e2; subst e2; refine⟨by simp[bM],?_⟩; have sr:ev env (.tmp a) = .row (oO own a) bg:=h1; simp[nH,sZ,acp,isNil,sr,h2]
 cases c with
 | t=>exact h.elim
 | w=>exact h
 | s=>exact h
 | p =>
  obtain⟨pre,h1,_,_,h4⟩:=h; cases op<;>simp only[tc] at hl<;>try (cases hl; done)
  case call cl=>rw[(hcl cl rfl).2] at h1; cases h1
  case buildSlice =>
   exfalso; cases dst with
   | none=>cases hl
   | some k =>
    simp only at hl h4; split at hl
    ·rename_i hn; rw[hn] at h4; cases h4
    ·cases hl
  case makeSlice =>
   exfalso; cases dst with
   | none=>cases hl
   | some k =>
    simp only at hl h4; split at hl
    ·rename_i hn; rw[hn] at h4; cases h4
    ·cases hl
  all_goals simp[nH] at h1
 | b | q | o | f =>
  exfalso; have hq:=h.1; cases op<;>simp only[tc] at hl<;>try (cases hl; done)
  case call cl=>rw[(hcl cl rfl).1] at hq; cases hq
  all_goals(cases dst<;>simp[bM] at hq hl)<;>exact hq hl.1
theorem ajK {ci cj:og} {oi oj:Oper} {env:Env} {H H' Hj:ay} {v v':AV} {d d':Nat} (hi:tc own ops oi=some d) (hj:tc own ops oj=some d') (hne:d≠d') (hsi:acF own ops oi env) (hsj:acF own ops oj env)
  (h1:jt P own ops ci oi env H v H') (h2:jt P own ops cj oj env H' v' Hj):∃G,jt P own ops .w oj env H v' G/\jt P own ops .w oi env G v Hj/\HSub (ou own ops H) (ou own ops G):=by
 obtain⟨pre,e1,hp⟩:=aby hi hsi h1; obtain⟨pre',e2,hp'⟩:=aby hj hsj h2; obtain⟨⟨φ,hφ⟩,n1⟩:=abv (P:=P) hi hsi; obtain⟨⟨ψ,hψ⟩,n2⟩:=abv (P:=P) hj hsj; rw[hφ] at e1; rw[hψ] at e2; cases a1:φ (H d) with
 | none=>rw[a1] at e1; cases e1
 | some r =>
  obtain⟨p1,v1,c1⟩:=r; rw[a1] at e1; simp only[Option.some.injEq,Prod.mk.injEq] at e1; obtain⟨rfl,rfl,rfl⟩:=e1; have a2:bl H d c1 d'=H d':=by simp[bl,Ne.symm hne]
  rw[a2] at e2; cases a3:ψ (H d') with
  | none=>rw[a3] at e2; cases e2
  | some r =>
   obtain⟨p2,v2,c2⟩:=r; rw[a3] at e2; simp only[Option.some.injEq,Prod.mk.injEq] at e2; obtain⟨rfl,rfl,rfl⟩:=e2; refine⟨bl H d' c2,⟨p2,by rw[hψ,a3],hp'⟩,⟨p1,?_,hp⟩,by rw[aey own ops H c2 n2]; exact λ_ _ h=>h⟩; have a4:bl H d' c2 d=H d:=by simp[bl,hne]
   rw[hφ,a4,a1,j7 H c1 c2 hne]
theorem ayu {c:og} {o:Oper} {env:Env} {H H':ay} {v:AV} {d:Nat} (hl:tc own ops o=some d) (hs:acF own ops o env) (h:jt P own ops c o env H v H'):ou own ops H'=ou own ops H:=by
 obtain⟨pre,e1,hp⟩:=aby hl hs h; obtain⟨⟨φ,hφ⟩,n1⟩:=abv (P:=P) hl hs; rw[hφ] at e1; cases a1:φ (H d) with
 | none=>rw[a1] at e1; cases e1
 | some r=>obtain⟨p1,v1,c1⟩:=r; rw[a1] at e1; simp only[Option.some.injEq,Prod.mk.injEq] at e1; obtain⟨rfl,rfl,rfl⟩:=e1; exact aey own ops H c1 n1
theorem aqM {cj:og} {oi oj:Oper} {env:Env} {H H' Hj:ay} {v v':AV} {d':Nat} (hj:tc own ops oj=some d') (hsj:acF own ops oj env)
  (h1:jt P own ops .f oi env H v H') (h2:jt P own ops cj oj env H' v' Hj):∃G,jt P own ops .w oj env H v' G/\jt P own ops .f oi env G v Hj:=by
 obtain⟨pre',e2,hp'⟩:=aby hj hsj h2; obtain⟨⟨ψ,hψ⟩,n2⟩:=abv (P:=P) hj hsj; obtain⟨hq,k,en,ps,b,r,id,g1,g2,g3,g4,g5,rfl,rfl⟩:=h1; have hd:d'<id\/(cF id r).2<=d':=by
  rcases Nat.lt_or_ge d' id with h | h
  ·exact .inl h
  ·rcases Nat.lt_or_ge d' (cF id r).2 with h' | h'
   ·rw[(g5 d' h h').2] at n2; cases n2
   ·exact .inr h'
 rw[hψ,aax r id H d' hd] at e2; cases a3:ψ (H d') with
 | none=>rw[a3] at e2; cases e2
 | some q =>
  obtain⟨p2,v2,c2⟩:=q; rw[a3] at e2; simp only[Option.some.injEq,Prod.mk.injEq] at e2; obtain⟨rfl,rfl,rfl⟩:=e2; refine⟨bl H d' c2,⟨p2,by rw[hψ,a3],hp'⟩,hq,k,en,ps,b,r,id,g1,by rw[aey own ops H c2 n2]; exact g2,g3,g4,λi hi1 hi2=>⟨?_,(g5 i hi1 hi2).2⟩,rfl,(ajG r id H d' c2 hd).symm⟩; have hne:i≠d':=by omega
  simp only[bl,if_neg hne]; exact (g5 i hi1 hi2).1
theorem Head.aEI {o:Oper} {env:Env} {H G:ay} {v:AV} (hs:HSub (rN H) (rN G)) (h:Head P own ops .b o env H v H):Head P own ops .b o env G v G:=by
 rcases h with ⟨h1,h2,_⟩ | ⟨h1,hst,h2,_,pre,h3,h4⟩
 ·exact .inl ⟨h1,h2,rfl⟩
 ·exact .inr ⟨h1,hst,h2,rfl,pre,ot hs h2 h3,h4⟩
theorem aqN {anc:Nat->Nat->Bool} (hA:aeA ops anc=true) {i:Nat} {oi:Oper} {c:og} {v:AV} (hi:ops[i]? = some oi) :
  ∀ (fuel:Nat) (listed:Array Bool) (env:Env) (H H':ay),qy ops listed ->
   (∀j oj,ops[j]? = some oj->j≠i->listed.getD j true=false->anc j i=false->ahZ own ops c oi oj=true/\tl j=false) ->
   i∈Region.ready .any ops listed->Head P own ops c oi env H v H'->(c≠.w->c≠.s->c≠.f->H'=H) ->
   ajI P own ops tl K fuel (listed.setIfInBounds i true) (cA env oi.dst v) H'->ajI P own ops tl K (fuel+1) listed env H:=by
 intro fuel
 induction fuel with
 | zero =>
  intro listed env H H' _ _ hr hy _ hk; refine⟨λh=>(by rw[h] at hr; cases hr),λj hj=>?_⟩; by_cases hji:j=i
  ·subst hji; exact hy.aOp hi hk
  ·have:=ready_mono hj hji; rw[hk.1] at this; cases this
 | succ fuel ih =>
  intro listed env H H' hcl hfree hr hy hqH hk; refine⟨λh=>(by rw[h] at hr; cases hr),λj hj=>?_⟩; by_cases hji:j=i
  ·subst hji; exact hy.aOp hi hk
  ·have h1:=hk.2 j (ready_mono hj hji); obtain⟨ayv,oj,hoj,hall⟩:=mem_ready.1 hj; have hnot:∀e∈oj.after,Region.binds .any e=true->e.on≠i:=λe he hb heq=>by
    have h1:=hall e he hb; have h0:=(mem_ready.1 hr).1; rw[heq] at h1; rcases Nat.lt_or_ge i listed.size with h' | h'
    ·simp[h'] at h0 h1; rw[h0] at h1; cases h1
    ·simp[Array.getElem?_eq_none h'] at h1
   obtain⟨hsw,htl⟩:=hfree j oj hoj hji ayv (agx hA hcl hr hj); unfold ahZ at hsw; rw[Bool.and_eq_true] at hsw; obtain⟨a1,a2,a3⟩:=Oper.apart_spec hsw.1; have pO:∀k ok,ops[k]? = some ok->k≠i->(listed.setIfInBounds j true).getD k true=false->anc k i=false->ahZ own ops c oi ok=true/\tl k=false:=λk ok hk hki hun hno=>by
    refine hfree k ok hk hki ?_ hno; by_cases hjk:j=k
    ·subst hjk; exact ayv
    ·rw[getD_set_ne true hjk] at hun; exact hun
   have qz:=hcl.set hj; have hri:=ready_mono hr (Ne.symm hji); unfold cE.aOp at h1 ⊢; rw[hoj] at h1 ⊢; rw[Array.setIfInBounds_comm _ _ (Ne.symm hji)] at h1; rcases h1 with ⟨hg,hw⟩ | ⟨hg,⟨hso,c',v',Hj,hst,hw⟩ | ⟨aBz,_⟩⟩
   ·rw[aaC a1] at hg; refine .inl ⟨hg,ih _ _ H H' qz pO hri (hy.put a3) hqH ?_⟩; rw[agy a2] at hw; exact hw
   ·rw[aaC a1] at hg; rw[agz a1] at hst; rw[ajJ a1] at hso; rw[agy a2] at hw; cases c with
    | p =>
     have e1:H'=H:=hqH (by simp) (by simp) (by simp); subst e1; refine .inr ⟨hg,.inl ⟨hso,c',v',Hj,hst,ih _ _ Hj Hj qz pO hri ?_ (λ_ _ _=>rfl) hw⟩⟩; have hy':=hy.put (d:=oj.dst) (u:=v') a3; rcases hy' with ⟨k1,k2,_⟩ | ⟨k1,ko,pre,k2,k3,_,k4⟩
     ·exact .inl ⟨k1,k2,rfl⟩
     ·exact .inr ⟨k1,ko,pre,k2,k3,rfl,k4⟩
    | q =>
     have e1:H'=H:=hqH (by simp) (by simp) (by simp); subst e1; have hs2:HSub H' Hj:=by
      rcases (Eq.to_iff (Bool.or_eq_true _ _)).mp hsw.2 with h | h
      ·exact yh h hst
      ·exact acG h hst
     exact .inr ⟨hg,.inl ⟨hso,c',v',_,hst,ih _ _ _ _ qz pO hri ((hy.put a3).sub hs2) (λ_ _ _=>rfl) hw⟩⟩
    | b =>
     have e1:H'=H:=hqH (by simp) (by simp) (by simp); subst e1; have hs2:HSub (rN H') (rN Hj):=by
      rcases (Eq.to_iff (Bool.or_eq_true _ _)).mp hsw.2 with h | h
      ·rcases (Eq.to_iff (Bool.or_eq_true _ _)).mp h with h | h
       ·exact y9 (yh h hst)
       ·exact y9 (acG h hst)
      ·exact aqL h hst
     exact .inr ⟨hg,.inl ⟨hso,c',v',_,hst,ih _ _ _ _ qz pO hri ((hy.put a3).aEI hs2) (λ_ _ _=>rfl) hw⟩⟩
    | w =>
     rcases (Eq.to_iff (Bool.or_eq_true _ _)).mp hsw.2 with hp | hl
     ·obtain⟨e2,hpure⟩:=aaD hp hst; subst e2; exact .inr ⟨hg,.inl ⟨hso,.p,v',H,hpure H,ih _ _ H _ qz pO hri (hy.put a3) (λh=>absurd rfl h) hw⟩⟩
     ·split at hl
      ·rename_i d d' hd hd'; have hne:d≠d':=by simpa using hl
       rcases hy with ⟨k1,k2,k3⟩ | ⟨k1,ko,k2⟩
       ·subst k3; exact .inr ⟨hg,.inl ⟨hso,c',v',Hj,hst,ih _ _ Hj Hj qz pO hri (Head.put a3 (.inl ⟨k1,k2,rfl⟩)) (λh=>absurd rfl h) hw⟩⟩
       ·obtain⟨G,m1,m2,_⟩:=ajK hd hd' hne ko hso k2 hst; exact .inr ⟨hg,.inl ⟨hso,.w,v',G,m1,ih _ _ G Hj qz pO hri (Head.put a3 (.inr ⟨k1,ko,m2⟩)) (λh=>absurd rfl h) hw⟩⟩
      ·cases hl
    | o =>
     have e1:H'=H:=hqH (by simp) (by simp) (by simp); subst e1; have hs2:HSub (ou own ops H') (ou own ops Hj):=by
      rcases (Eq.to_iff (Bool.or_eq_true _ _)).mp hsw.2 with h | h
      ·rcases (Eq.to_iff (Bool.or_eq_true _ _)).mp h with h | h
       ·exact agw own ops (yh h hst)
       ·exact agw own ops (acG h hst)
      ·obtain⟨d,hd⟩:=Option.isSome_iff_exists.1 h; rw[ayu hd hso hst]; exact λ_ _ h=>h
     exact .inr ⟨hg,.inl ⟨hso,c',v',_,hst,ih _ _ _ _ qz pO hri ((hy.put a3).aEH hs2) (λ_ _ _=>rfl) hw⟩⟩
    | s =>
     rcases (Eq.to_iff (Bool.or_eq_true _ _)).mp hsw.2 with hp | hl
     ·obtain⟨e2,hpure⟩:=aaD hp hst; subst e2; exact .inr ⟨hg,.inl ⟨hso,.p,v',H,hpure H,ih _ _ H _ qz pO hri (hy.put a3) (λ_ h=>absurd rfl h) hw⟩⟩
     ·split at hl
      ·rename_i d d' hd hd'; have hne:d≠d':=by simpa using hl
       rcases hy with ⟨k1,k2,k3⟩ | ⟨k1,ko,k2⟩
       ·subst k3; exact .inr ⟨hg,.inl ⟨hso,c',v',Hj,hst,ih _ _ Hj Hj qz pO hri (Head.put a3 (.inl ⟨k1,k2,rfl⟩)) (λ_ h=>absurd rfl h) hw⟩⟩
       ·obtain⟨G,m1,m2s,_⟩:=ajK hd hd' hne ko hso k2 hst; exact .inr ⟨hg,.inl ⟨hso,.w,v',G,m1,ih _ _ G Hj qz pO hri (Head.put a3 (.inr ⟨k1,ko,m2s⟩)) (λ_ h=>absurd rfl h) hw⟩⟩
      ·cases hl
    | f =>
     rcases (Eq.to_iff (Bool.or_eq_true _ _)).mp hsw.2 with hp | hl
     ·obtain⟨e2,hpure⟩:=aaD hp hst; subst e2; exact .inr ⟨hg,.inl ⟨hso,.p,v',H,hpure H,ih _ _ H _ qz pO hri (hy.put a3) (λ_ _ h=>absurd rfl h) hw⟩⟩
     ·obtain⟨d',hd'⟩:=Option.isSome_iff_exists.1 hl; rcases hy with ⟨k1,k2,k3⟩ | ⟨k1,ko,k2⟩
      ·subst k3; exact .inr ⟨hg,.inl ⟨hso,c',v',Hj,hst,ih _ _ Hj Hj qz pO hri (Head.put a3 (.inl ⟨k1,k2,rfl⟩)) (λ_ _ h=>absurd rfl h) hw⟩⟩
      ·obtain⟨G,m1,m2⟩:=aqM hd' hso k2 hst; exact .inr ⟨hg,.inl ⟨hso,.w,v',G,m1,ih _ _ G Hj qz pO hri (Head.put a3 (.inr ⟨k1,ko,m2⟩)) (λ_ _ h=>absurd rfl h) hw⟩⟩
    | t=>cases hsw.2
   ·rw[htl] at aBz; cases aBz
theorem auI {anc:Nat->Nat->Bool} (hA:aeA ops anc=true) {i:Nat} {oi:Oper} (hi:ops[i]? = some oi) {fuel:Nat} {listed:Array Bool} {env:Env} {H:ay} (hcl:qy ops listed) (htl:tl i=true)
  (hall:∀j oj,ops[j]? = some oj->j≠i->listed.getD j true=false->anc j i=true) (hr:i∈Region.ready .any ops listed) (hw:aoT P own ops oi (ajI P own ops tl K fuel (listed.setIfInBounds i true)) env H) :
  ajI P own ops tl K (fuel+1) listed env H:=by
 refine⟨λh=>(by rw[h] at hr; cases hr),λj hj=>?_⟩; by_cases hji:j=i
 ·subst hji; unfold cE.aOp; rw[hi]; rcases hw with h | ⟨h1,h2⟩
  ·exact .inl h
  ·exact .inr ⟨h1,.inr ⟨htl,h2⟩⟩
 ·obtain⟨ayv,oj,hoj,_⟩:=mem_ready.1 hj; have h1:=hall j oj hoj hji ayv; rw[agx hA hcl hr hj] at h1; cases h1
def isT:og->Bool
 | .t=>true
 | _=>false
def aEJ (l:List (Nat×og)) (i:Nat):Bool:=l.any λx=>x.1 == i&&isT x.2
def yj (own:List Nat) (ops:Array Oper) (anc:Nat->Nat->Bool) (tl:Nat->Bool):List (Nat×og)->Array Bool->Bool
 | [],listed=>(Region.ready .any ops listed).isEmpty
 | (i, c) :: rest, listed => (Region.ready .any ops listed).contains i && (match ops[i]? with
   | some oi=>(!isT c||tl i)&&(List.range ops.size).all λj=>j == i||listed.getD j true||anc j i||(match ops[j]? with
    | some oj=>!isT c&&ahZ own ops c oi oj && !tl j
    | none=>true)
   | none=>false)&&yj own ops anc tl rest (listed.setIfInBounds i true)
def ajL (P:Program) (N:Nat) (own:List Nat) (ops:Array Oper):List (Oper×og)->(Env->ay->Prop)->Env->ay->Prop
 | [],K,env,H=>K env H
 | (o, c) :: rest, K, env, H => vn N o.dst ∧ ((isT c = true ∧ aoT P own ops o (ajL P N own ops rest K) env H) ∨
   (isT c=false/\∃v H',Head P own ops c o env H v H'/\(match c with | .w=>True | .s=>True | .f=>True | _=>H'=H)/\ajL P N own ops rest K (cA env o.dst v) H'))
theorem amy {o:Oper} {W W':Env->ay->Prop} {env:Env} {H:ay} (h:∀e G,W e G->W' e G) (hh:aoT P own ops o W env H):aoT P own ops o W' env H:=hh.imp (λx=>⟨x.1,h _ _ x.2⟩) λx=>⟨x.1,ajH h x.2⟩
theorem vY {anc:Nat->Nat->Bool} (hA:aeA ops anc=true):∀ (l:List (Nat×og)) (os:List (Oper×og)) (listed:Array Bool) (env:Env) (H:ay),qy ops listed ->
  os.map (·.1)=l.filterMap (λx=>ops[x.1]?)->os.map (·.2)=l.map (·.2)->yj own ops anc tl l listed=true->ajL P N own ops os K env H->ajI P own ops tl K l.length listed env H
 | [],os,listed,env,H,_,h1,h2,h3,hw=>by
  have:os=[]:=by simpa using h2
  subst this; exact⟨by simpa[yj] using h3,hw⟩
 | (i,c) :: l,[],listed,env,H,_,h1,h2,h3,hw=>by simp at h2
 | (i,c) :: l,(o,c') :: os,listed,env,H,hcl,h1,h2,h3,hw=>by
  simp only[yj,Bool.and_eq_true] at h3; obtain⟨⟨hr,hs⟩,z6⟩:=h3; cases hi:ops[i]? with
  | none=>rw[hi] at hs; cases hs
  | some oi =>
   rw[hi] at hs; simp only[List.map_cons,List.filterMap_cons,hi,List.cons.injEq] at h1 h2; obtain⟨e1,h1⟩:=h1; obtain⟨e2,h2⟩:=h2; subst e1 e2; simp only[Bool.and_eq_true] at hs; obtain⟨ht,hs⟩:=hs; have ah0:i∈Region.ready .any ops listed:=by simpa using hr
   obtain⟨_,⟨hc,hw⟩ | ⟨hc,v,H',hy,hq,hw⟩⟩:=hw
   ·refine auI hA hi hcl (by rw[hc] at ht; simpa using ht) (λj oj hoj hji hun=>?_) ah0 (amy (λe G hw=>vY hA l os _ e G (hcl.set ah0) h1 h2 z6 hw) hw); have hjl:j<ops.size:=(Array.getElem?_eq_some_iff.1 hoj).1; have:=List.all_eq_true.1 hs j (List.mem_range.2 hjl); simp only[hun,hoj,hc,Bool.or_eq_true,beq_iff_eq,Bool.or_false,Bool.not_true,Bool.false_and] at this; rcases this with h | h
    ·exact absurd h hji
    ·exact h
   ·refine aqN hA hi l.length listed env H H' hcl (λj oj hoj hji hun hno=>?_) ah0 hy (λhne aEK aEL=>by cases c'<;>first | exact hq | exact absurd rfl hne | exact absurd rfl aEK | exact absurd rfl aEL)
     (vY hA l os _ _ H' (hcl.set ah0) h1 h2 z6 hw)
    have hjl:j<ops.size:=(Array.getElem?_eq_some_iff.1 hoj).1; have:=List.all_eq_true.1 hs j (List.mem_range.2 hjl); simp only[hun,hno,hoj,hc,Bool.or_eq_true,beq_iff_eq,Bool.or_false,Bool.not_false,Bool.true_and,Bool.and_eq_true,Bool.not_eq_true'] at this; rcases this with h | h
    ·exact absurd h hji
    ·exact h
def masks (ops:Array Oper):List Nat:=(Region.before ops).toList
def aBA (m:List Nat) (j i:Nat):Bool:=(m.getD j 0).testBit i
def aeC (own:List Nat) (ops:Array Oper) (m:List Nat) (l:List (Nat×og)):Bool:=aeA ops (aBA m)&&yj own ops (aBA m) (aEJ l) l (Array.replicate ops.size false)&&l.length == ops.size&&ops.toList.all λo=>match o.dst with | some _=>true | none=>true
theorem agA {env:Env} {H:ay} (m:List Nat) (l:List (Nat×og)) (os:List (Oper×og)) (hok:aeC own ops m l=true) (h1:os.map (·.1)=l.filterMap (λx=>ops[x.1]?)) (h2:os.map (·.2)=l.map (·.2))
  (hd:∀ (i:Nat) o,ops[i]? = some o->vn N o.dst) (hw:ajL P N own ops os K env H):xd P N own ops K env H:=by
 unfold aeC at hok; simp only[Bool.and_eq_true,beq_iff_eq] at hok; obtain⟨⟨⟨hA,hD⟩,hlen⟩,_⟩:=hok; intro C I L tm w hN hs; have hcl:qy ops (Array.replicate ops.size false):=⟨by simp,λj o hj hl=>by
  rcases Nat.lt_or_ge j ops.size with h | h
  ·simp[h] at hl
  ·simp[h] at hl⟩
 have aeD:=vY (N:=N) hA l os _ env H hcl h1 h2 hD hw; rw[hlen] at aeD; have hs':gE C env H I L tm { w with drawn:=w.drawn+1 }:=(Fr.drew C I L H w) env tm hs; exact qx (by rw[hN]; exact hd) (λenv' H' I' L' tm' w' hk aAx=>⟨rfl,rfl,env',H',I',L',hk,aAx⟩) ops.size _ env H I L tm _ aeD hs'
end Go.cE
