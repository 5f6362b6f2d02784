/- Joined texts, part 2: lemmas for the statement. No condition. -/
import Derived.Test.YtjhkgjlmiolfoaaGreatL1
set_option maxHeartbeats 4000000
set_option linter.unusedSimpArgs false
set_option linter.unusedVariables false
open Nat (reduceEqDiff reduceLT reduceLeDiff reduceMul reduceAdd reduceSub)
open Go.IntKind (i64)
open List hiding Mem cons nil tail
open Nat (le_trans le_refl lt_irrefl zero_add lt_or_ge)
open Bool (and_eq_true or_eq_true)
open Option (map_some)
namespace Go.cv
open Go.RowKit
variable{P:Program}{I:Mem}{L:bA}
inductive RV where
 |p (x:PV)
 |row (e:TypeId) (sz:Nat) (es:List (List PV))
 |deep (e:TypeId) (sz k:Nat) (e':TypeId) (sz':Nat) (es:List (List PV))
 |agg (rs:List RV)
 |dW (rs:List RV)
instance:Inhabited RV:=⟨.p default⟩
theorem y6{w:World}{B:Nat}{e:TypeId}{sz:Nat}{bI:Value}{n:Nat}{us:List Value}(h:w.ownsRow B e sz bI n us){b:Nat}(hb:bI.ownBlock=some b):B<=b:=by
 rcases h.2 with ⟨rfl,_⟩|⟨g,cap,cur,rfl,h1,h2,_⟩
 ·cases hb
 ·have:g=b:=by simpa[Value.ownBlock] using hb
  subst this;exact h1
theorem ab1{w:World}{base base':Nat}{e:TypeId}{size:Nat}{v:Value}{n:Nat}{xs:List Value}(h:w.ownsRow base e size v n xs)(hb:base'<=base):w.ownsRow base' e size v n xs:=by
 refine⟨h.1,?_⟩;rcases h.2 with h|⟨g,cap,cur,h1,h2,h3⟩
 ·exact .inl h
 ·exact .inr ⟨g,cap,cur,h1,le_trans hb h2,h3⟩
inductive xR(w:World)(B:Nat)(I:Mem):Value->RV->List Nat->Prop
 |p (u:Value) (x:PV) (h:VR I u x):xR w B I u (.p x) []
 |row (bI:Value) (e:TypeId) (sz:Nat) (es:List (List PV)) (us:List Value) (h:sE w B I bI e sz es us) (h1:bI.oneCell'=true):xR w B I bI (.row e sz es) bI.ownBlock.toList
 | deep (bI : Value) (e : TypeId) (sz k : Nat) (e' : TypeId) (sz' : Nat) (es : List (List PV)) (us : List Value) (dr : Nat → Value) (h : sE w B I bI e sz (fG k dr es) us) (h1 : bI.oneCell' = true) (hk : k < sz) (hall : ∀ x ∈ es, x.length = sz)
   (hin:avB w B I k e' sz' dr es) (hap:ae6 bI dr es.length):xR w B I bI (.deep e sz k e' sz' es) (yS bI dr es.length)
 | agg (us : List Value) (rs : List RV) (bs : List (List Nat)) (hl : us.length = rs.length) (hl' : us.length = bs.length)
   (hv:∀ (j:Nat) u r b,us[j]? = some u->rs[j]? = some r->bs[j]? = some b->xR w B I u r b) (hone:∀u∈us,u.oneCell'=true):xR w B I (.agg us.toArray) (.agg rs) bs.flatten
 | dW (us : List Value) (rs : List RV) (bs : List (List Nat)) (hl : us.length = rs.length) (hl' : us.length = bs.length)
   (hv:∀ (j:Nat) u r b,us[j]? = some u->rs[j]? = some r->bs[j]? = some b->xR w B I u r b):xR w B I (.tuple us.toArray) (.dW rs) bs.flatten
def bt(P:Program)(f:FuncId)(args:List PV)(Q:RV->Prop):Prop :=
 gF P f=true/\∀ (I:Mem) (w:World) (vs:List Value),I.inW w->VRs I vs args ->
  Calls P f vs.toArray w λe w'=>∃v r bs I',e = .returned v/\Q r/\xR w' w.heap.size I' v r bs/\bs.Nodup/\(∀b∈bs,w.heap.size<=b/\b<w'.heap.size) /\
   Below w.heap.size w w'/\I.sub I'/\I'.inW w'/\∀b,b<w.heap.size->∀o,I' b o=I b o
theorem bt.mono{f:FuncId}{args:List PV}{Q Q':RV->Prop}(h:bt P f args Q)(hq:∀r,Q r->Q' r):bt P f args Q':=⟨h.1,λI w vs hI hv=>(h.2 I w vs hI hv).mono λ_ _ ⟨v,r,bs,I',h1,h2,h3⟩=>⟨v,r,bs,I',h1,hq r h2,h3⟩⟩
mutual
def dw(k:Nat):RV->AV×Nat
 | .p x=>(.p x,k)
 | .row _ _ _=>(.row k 0,k+1)
 | .deep _ _ _ _ _ _=>(.eP k 0,k+1)
 | .agg rs=>(yu (jt k rs).1,(jt k rs).2)
 | .dW rs=>(.dW (jt k rs).1,(jt k rs).2)
def jt(k:Nat):List RV->List AV×Nat
 | []=>([],k)
 |r :: rs=>((dw k r).1 :: (jt (dw k r).2 rs).1,(jt (dw k r).2 rs).2)
end
mutual
def iC(k:Nat)(H:aA):RV->aA
 | .p _=>H
 | .row e sz es=>bh H k (.row 0 e sz es)
 | .deep e sz j e' sz' es=>bh H k (.deep 0 e sz j e' sz' es)
 | .agg rs=>kY k H rs
 | .dW rs=>kY k H rs
def kY(k:Nat)(H:aA):List RV->aA
 | []=>H
 |r :: rs=>kY (dw k r).2 (iC k H r) rs
end
theorem gQ.add{C:Ctx}{env:Env}{H:aA}{tm:Array Value}{w:World}(h:gQ C env H I L tm w){id:Nat}(hid:H id=none)(l:Loc)(ch:Chunk)
  (hch:qx I (cg L id l) w C.B id ch) (hl:∀b,l.has b->C.B<=b/\b<w.heap.size/\(∀i li,L i=some li->¬ li.has b)/\(C.w0.heap.size<=b\/C.anw b)):gQ C env (bh H id ch) I (cg L id l) tm w:=by
 have hL:=h.sF hid;have hle:=dQ.uK hL l;exact
 {h with
  env:=λt=>(h.env t).mono (Mem.en I) hle
  dom:=λi li hi=>by
   by_cases e:i=id
   ·exact⟨ch,by simp[bh,e]⟩
   ·obtain⟨c,hc⟩:=h.dom i li (by simpa[cg,e] using hi);exact⟨c,by simpa[bh,e] using hc⟩
  chunk:=λi c hc=>by
   by_cases e:i=id
   ·subst e;have:ch=c:=by simpa[bh] using hc
    subst this;exact hch
   ·exact (h.chunk i c (by simpa[bh,e] using hc)).keep (Mem.en I) hle (by simp[cg,e]) λ_ _ _ _=>⟨rfl,λ_=>rfl⟩
  loc:=h.loc.trans hle
  jA:=λi li b hi hlb=>by
   by_cases e:i=id
   ·subst e;have:l=li:=by simpa[cg] using hi
    subst this;exact (hl b hlb).2.2.2
   ·exact h.jA i li b (by simpa[cg,e] using hi) hlb
  fM:=λi li b hi hlb=>by
   by_cases e:i=id
   ·subst e;have:l=li:=by simpa[cg] using hi
    subst this;exact⟨(hl b hlb).1,(hl b hlb).2.1⟩
   ·exact h.fM i li b (by simpa[cg,e] using hi) hlb
  apart:=λi j li lj b hi hj rK vq=>by
   by_cases ei:i=id<;>by_cases ej:j=id
   ·rw[ei,ej]
   ·subst ei;have:l=li:=by simpa[cg] using hi
    subst this;exact absurd vq ((hl b rK).2.2.1 j lj (by simpa[cg,ej] using hj))
   ·subst ej;have:l=lj:=by simpa[cg] using hj
    subst this;exact absurd rK ((hl b vq).2.2.1 i li (by simpa[cg,ei] using hi))
   ·exact h.apart i j li lj b (by simpa[cg,ei] using hi) (by simpa[cg,ej] using hj) rK vq }
def avQ(C:Ctx)(env:Env)(tm:Array Value)(w:World)(I:Mem)(L:bA)(H':aA)(bs:List Nat)(R:bA->Prop):Prop:=∃L',gQ C env H' I L' tm w/\dQ L L'/\(∀id l b,L' id=some l->l.has b->(L id=some l)\/b∈bs)/\R L'
theorem y7:(∀ (r:RV) (k:Nat),k<=(dw k r).2):=by
 intro r;refine RV.rec (motive_1:=λr=>∀k,k<=(dw k r).2) (motive_2:=λrs=>∀k,k<=(jt k rs).2) ?_ ?_ ?_ ?_ ?_ ?_ ?_ r
 ·intro x k;exact le_refl _
 ·intro e sz es k;exact Nat.le_succ _
 ·intro e sz j e' sz' es k;exact Nat.le_succ _
 ·intro rs ih k;exact ih k
 ·intro rs ih k;exact ih k
 ·intro k;exact le_refl _
 ·intro r rs ih1 ih2 k;exact le_trans (ih1 k) (ih2 _)
theorem ade(rs:List RV):∀k:Nat,k<=(jt k rs).2:=by
 induction rs with
 |nil=>intro k;exact le_refl _
 |cons r rs ih=>intro k;exact le_trans (y7 r k) (ih _)
theorem abd:∀ (r:RV) (k:Nat) (H:aA) (i:Nat),(i<k\/(dw k r).2<=i)->iC k H r i=H i:=by
 intro r;refine RV.rec (motive_1:=λr=>∀k (H:aA) i,(i<k\/(dw k r).2<=i)->iC k H r i=H i) (motive_2:=λrs=>∀k (H:aA) i,(i<k\/(jt k rs).2<=i)->kY k H rs i=H i) ?_ ?_ ?_ ?_ ?_ ?_ ?_ r
 ·intro x k H i _;rfl
 ·intro e sz es k H i hi;show bh H k _ i=H i;unfold bh;rw[if_neg];rintro rfl;rcases hi with h|h
  ·exact lt_irrefl _ h
  ·exact lt_irrefl _ h
 ·intro e sz j e' sz' es k H i hi;show bh H k _ i=H i;unfold bh;rw[if_neg];rintro rfl;rcases hi with h|h
  ·exact lt_irrefl _ h
  ·exact lt_irrefl _ h
 ·intro rs ih k H i hi;exact ih k H i hi
 ·intro rs ih k H i hi;exact ih k H i hi
 ·intro k H i _;rfl
 ·intro r rs ih1 ih2 k H i hi;show kY _ (iC k H r) rs i=H i;have h1:=y7 r k;have h2:=ade rs (dw k r).2;have hi':i<k\/(jt (dw k r).2 rs).2<=i:=hi;rw[ih2 _ _ i (by omega),ih1 k H i (by omega)]
section
variable{C:Ctx}{env:Env}{tm:Array Value}{w:World}{B:Nat}
def aqL(C:Ctx)(env:Env)(tm:Array Value)(w:World)(B:Nat)(I:Mem)(r:RV):Prop :=
 ∀ (k:Nat) (H:aA) (L:bA) (u:Value) (bs:List Nat),gQ C env H I L tm w->xR w B I u r bs->C.w0.heap.size<=B->bs.Nodup->(∀b∈bs,B<=b/\b<w.heap.size) ->
  (∀b∈bs,∀i li,L i=some li->¬ li.has b)->(∀i,k<=i->i<(dw k r).2->H i=none)->avQ C env tm w I L (iC k H r) bs λL'=>dR I L' u (dw k r).1
def avR(C:Ctx)(env:Env)(tm:Array Value)(w:World)(B:Nat)(I:Mem)(rs:List RV):Prop :=
 ∀ (k:Nat) (H:aA) (L:bA) (us:List Value) (bs:List (List Nat)),gQ C env H I L tm w->us.length=rs.length->us.length=bs.length ->
  (∀ (j:Nat) u r b,us[j]? = some u->rs[j]? = some r->bs[j]? = some b->xR w B I u r b)->C.w0.heap.size<=B->bs.flatten.Nodup->(∀b∈bs.flatten,B<=b/\b<w.heap.size) ->
  (∀b∈bs.flatten,∀i li,L i=some li->¬ li.has b)->(∀i,k<=i->i<(jt k rs).2->H i=none)->avQ C env tm w I L (kY k H rs) bs.flatten λL'=>oZ I L' us (jt k rs).1
theorem avS(r:RV):aqL C env tm w B I r:=by
 refine RV.rec (motive_1:=aqL C env tm w B I) (motive_2:=avR C env tm w B I) ?_ ?_ ?_ ?_ ?_ ?_ ?_ r
 ·intro x k H L u bs hs hr _ _ _ _ _;cases hr with
  |p _ _ h=>exact⟨L,hs,dQ.refl L,λid l b hl _=>.inl hl,.p _ _ h⟩
 ·intro e sz es k H L u bs hs hr hB hnd hbs hap hfr;cases hr with
  |row _ _ _ _ us h h1 =>
   have hk:H k=none:=hfr k (le_refl _) (Nat.lt_succ_self _);refine⟨cg L k (.row 0 u sz),hs.add hk _ _ ?_ ?_,dQ.uK (hs.sF hk) _,?_,.row _ _ _ 0 u sz (by simp[cg]) (le_refl _) (λ_=>rfl) h1⟩
   ·exact⟨u,us,by simp[cg],ab1 h.own (le_trans C.hB hB),h.pos,h.all,h.val,h.one,h.free⟩
   ·intro b hb;have hm:b∈u.ownBlock.toList:=by have:u.ownBlock=some b:=hb;simp[this]
    exact⟨le_trans (le_trans C.hB hB) (hbs b hm).1,(hbs b hm).2,hap b hm,.inl (le_trans hB (hbs b hm).1)⟩
   ·intro id l b hl hb;by_cases e:id=k
    ·subst e;have:Loc.row 0 u sz=l:=by simpa[cg] using hl
     subst this;right;have:u.ownBlock=some b:=hb;simp[this]
    ·exact .inl (by simpa[cg,e] using hl)
 ·intro e sz j e' sz' es k H L u bs hs hr hB hnd hbs hap hfr;cases hr with
  |deep _ _ _ _ _ _ _ us dr h h1 hk hall hin aHz =>
   have hkn:H k=none:=hfr k (le_refl _) (Nat.lt_succ_self _);have aAv:C.B<=B:=le_trans C.hB hB;have low:∀ {v:Value} {e:TypeId} {sz:Nat} {es:List (List PV)} {us:List Value},sE w B I v e sz es us->sE w C.B I v e sz es us:=λh=>⟨ab1 h.own aAv,h.pos,h.all,h.val,h.one,h.free⟩
   refine⟨cg L k (.deep 0 u sz sz' dr es.length),hs.add hkn _ _ ?_ ?_,dQ.uK (hs.sF hkn) _,?_,.eP _ _ _ 0 u sz sz' dr es.length (by simp[cg]) (le_refl _) (λ_=>rfl) h1⟩
   ·exact⟨u,us,dr,by simp[cg],low h,h1,hk,hall,λi x hx=>by
     obtain⟨l,us',q1,q2,q3⟩:=hin i x hx;exact⟨l,us',q1,low q2,q3⟩,aHz⟩
   ·intro b hb;have hm:b∈yS u dr es.length:=aa3.2 hb;exact⟨le_trans aAv (hbs b hm).1,(hbs b hm).2,hap b hm,.inl (le_trans hB (hbs b hm).1)⟩
   ·intro id l b hl hb;by_cases e:id=k
    ·subst e;have:Loc.deep 0 u sz sz' dr es.length=l:=by simpa[cg] using hl
     subst this;exact .inr (aa3.2 hb)
    ·exact .inl (by simpa[cg,e] using hl)
 ·intro rs ih k H L u bs hs hr hB hnd hbs hap hfr;cases hr with
  |agg us _ bs hl hl' hv hone=>obtain⟨L',h1,h2,h3,h4⟩:=ih k H L us bs hs hl hl' hv hB hnd hbs hap hfr;exact⟨L',h1,h2,h3,vC h4.1 h4.2 hone⟩
 ·intro rs ih k H L u bs hs hr hB hnd hbs hap hfr;cases hr with
  |dW us _ bs hl hl' hv=>obtain⟨L',h1,h2,h3,h4⟩:=ih k H L us bs hs hl hl' hv hB hnd hbs hap hfr;exact⟨L',h1,h2,h3,.dW us _ h4.1 h4.2⟩
 ·intro k H L us bs hs hl hl' _ _ _ _ _ _;have:us=[]:=by simpa using hl
  subst this;exact⟨L,hs,dQ.refl L,λid l b hl _=>.inl hl,rfl,by simp⟩
 ·intro r rs ih1 ih2 k H L us bs hs hl hl' hv hB hnd hbs hap hfr;cases us with
  |nil=>simp at hl
  |cons u us =>
   cases bs with
   |nil=>simp at hl'
   |cons b bs =>
    simp only[flatten_cons,nodup_append,mem_append] at hnd hbs hap;obtain⟨L1,a1,a2,a3,a4⟩:=ih1 k H L u b hs (hv 0 u r b rfl rfl rfl) hB hnd.1 (λx hx=>hbs x (.inl hx)) (λx hx=>hap x (.inl hx)) (λi h1 h2=>hfr i h1 (Nat.lt_of_lt_of_le h2 (ade rs _)));obtain⟨L2,b1,b2,b3,b4⟩:=ih2 (dw k r).2 (iC k H r) L1 us bs a1 (by simpa using hl) (by simpa using hl') (λj u r b hu hr hb=>hv (j+1) u r b hu hr hb) hB hnd.2.1 (λx hx=>hbs x (.inr hx)) (λx hx i li hi hli=>by
     rcases a3 i li x hi hli with h|h
     ·exact hap x (.inr hx) i li h hli
     ·exact hnd.2.2 x h x hx rfl) (λi h1 h2=>by
      rw[abd r k H i (.inr h1)];exact hfr i (le_trans (y7 r k) h1) h2)
    refine⟨L2,b1,λid=>?_,λid l x hl hx=>?_,by simp[jt,b4.1],λj v a wL ha=>?_⟩
    ·exact (a2.trans b2) id
    ·rcases b3 id l x hl hx with h|h
     ·rcases a3 id l x h hx with h|h
      ·exact .inl h
      ·exact .inr (by simp[h])
     ·exact .inr (by
       rw[flatten_cons];exact mem_append_right _ h)
    ·cases j with
     |zero =>
      simp at wL ha;subst wL;have ha':(dw k r).1=a:=by simpa[jt] using ha
      rw[<-ha'];exact a4.mono (Mem.en I) b2
     |succ j=>exact b4.2 j v a (by simpa using wL) (by simpa[jt] using ha)
end
mutual
def RV.flat:RV->Bool
 | .p x=>x.scalar
 | .row _ _ es=>es.all λx=>x.all isVal
 | .deep _ _ _ _ _ _=>false
 | .agg rs=>RV.ab2 rs
 | .dW rs=>RV.ab2 rs
def RV.ab2:List RV->Bool
 | []=>true
 |r :: rs=>r.flat&&RV.ab2 rs
end
theorem sE.flat{w:World}{B:Nat}{J:Mem}{bI:Value}{e:TypeId}{sz:Nat}{es:List (List PV)}{us:List Value}(h:sE w B J bI e sz es us)(hf:(es.all λx=>x.all isVal)=true)(hI:∀b,bI.ownBlock=some b->∀o,I b o=none) :
  sE w B I bI e sz es us :=
 {h with
  val:=λj u c hu hc=>(h.val j u c hu hc).isVal (by
   have hm:=mem_of_getElem? hc;obtain⟨x,hx,hcx⟩:=mem_flatten.1 hm;exact all_eq_true.1 (all_eq_true.1 hf x hx) c hcx)
  free:=hI }
theorem xR.flat{w:World}{B:Nat}{J:Mem}{u:Value}{r:RV}{bs:List Nat}(h:xR w B J u r bs):r.flat=true->(∀b∈bs,∀o,I b o=none)->xR w B I u r bs:=by
 induction h with
 |p u x h=>exact λhf _=>.p _ _ (h.scalar hf)
 |row bI e sz es us h h1=>intro hf hI;exact .row bI e sz es us (h.flat hf λb hb=>hI b (by simp[hb])) h1
 |deep=>intro hf;cases hf
 |agg us rs bs hl hl' hv hone ih =>
  intro hf hI;have hall:∀rs:List RV,RV.ab2 rs=true->∀r∈rs,r.flat=true:=by
   intro rs
   induction rs with
   |nil=>intro _ r hr;cases hr
   |cons a r ih =>
    intro h x hx;simp only[RV.ab2,and_eq_true] at h;rcases mem_cons.1 hx with rfl|hx
    ·exact h.1
    ·exact ih h.2 x hx
  exact .agg us rs bs hl hl' (λj u r b hu hr hb=>ih j u r b hu hr hb (hall rs hf r (mem_of_getElem? hr)) λx hx=>hI x (mem_flatten.2 ⟨b,mem_of_getElem? hb,hx⟩)) hone
 |dW us rs bs hl hl' hv ih =>
  intro hf hI;have hall:∀rs:List RV,RV.ab2 rs=true->∀r∈rs,r.flat=true:=by
   intro rs
   induction rs with
   |nil=>intro _ r hr;cases hr
   |cons a r ih =>
    intro h x hx;simp only[RV.ab2,and_eq_true] at h;rcases mem_cons.1 hx with rfl|hx
    ·exact h.1
    ·exact ih h.2 x hx
  exact .dW us rs bs hl hl' (λj u r b hu hr hb=>ih j u r b hu hr hb (hall rs hf r (mem_of_getElem? hr)) λx hx=>hI x (mem_flatten.2 ⟨b,mem_of_getElem? hb,hx⟩))
def avT(P:Program)(o:Oper)(ρ:Operand->AV)(H:aA)(Kr:AV->aA->Prop):Prop :=
 ∃k eS ps b Q,∃id:Nat,dP o ρ=some (k,eS)/\eC (gR H) eS=some (ps,b)/\bt P k ps Q /\
  ∀r,Q r->(b=true->r.flat=true)/\(∀i,id<=i->i<(dw id r).2->H i=none)/\Kr (dw id r).1 (iC id H r)
theorem ajh{o:Oper}{ρ:Operand->AV}{H:aA}{Kr:AV->aA->Prop}(h:avT P o ρ H Kr){C:Ctx}{env:Env}{tm:Array Value}{w:World}(hs:gQ C env H I L tm w){σ:Operand->Value}(hσ:∀x,dR I L (σ x) (ρ x)) :
  ∃k args,(execOp σ o).run P w = .ok (.enter k args) w/\Calls P k args w λe w'=>∃v I' L' a H',e = .returned v/\Kr a H'/\dR I' L' v a/\gQ C env H' I' L' tm w':=by
 obtain⟨k,eS,ps,b,Q,id,h1,h2,h3,h4⟩:=h;obtain⟨us,hr,hu⟩:=qA h1 h3.1 hσ w;refine⟨k,_,hr,?_⟩
 have fin : ∀ {I' : Mem} {w' : World} {v : Value} {r : RV} {bs : List Nat}, gQ C env H I' L tm w' → xR w' w.heap.size I' v r bs → bs.Nodup → (∀ b ∈ bs, w.heap.size ≤ b ∧ b < w'.heap.size) → (∀ i, id ≤ i → i < (dw id r).2 → H i = none) →
   ∃L',gQ C env (iC id H r) I' L' tm w'/\dR I' L' v (dw id r).1:=by
  intro I' w' v r bs hs' hrv hnd hbs hfr;obtain⟨L',k1,_,_,k4⟩:=avS r id H L v bs hs' hrv hs.below.size hnd hbs (λb hb i li hi hli=>by
   have h1:=(hs.fM i li b hi hli).2;have h2:=(hbs b hb).1;omega) hfr
  exact⟨L',k1,k4⟩
 cases b with
 |false =>
  obtain⟨k1,_,k3⟩:=kB (pq hs (uk H) (lZ hs.mem) ((rM L w).g H)) eS ps false h2 us hu.1 hu.2;refine (h3.2 I w us hs.mem ⟨k1,k3 rfl⟩).mono λe w' ⟨v,r,bs,I',q1,q2,q3,q4,q5,q6,q7,q8,q9⟩=>?_
  obtain⟨_,m2,m3⟩:=h4 r q2;obtain⟨L',n1,n2⟩:=fin (hs.grow q6 q7 q8 q9) q3 q4 q5 m2;exact⟨v,I',L',_,_,q1,m3,n2,n1⟩
 |true =>
  obtain⟨k1,k2,_⟩:=kB (pq hs (uk H) (lZ hs.mem) ((rM L w).g H)) eS ps true h2 us hu.1 hu.2;refine (h3.2 (snap w) w us (afd w) ⟨k1,k2⟩).mono λe w' ⟨v,r,bs,I',q1,q2,q3,q4,q5,q6,q7,q8,q9⟩=>?_
  obtain⟨m1,m2,m3⟩:=h4 r q2;have hfree:∀b∈bs,∀o,I b o=none:=λb hb o=>by
   cases hI:I b o with
   |none=>rfl
   |some u=>exact absurd (hs.mem.lt hI) (by have:=(q5 b hb).1;omega)
  obtain⟨L',n1,n2⟩:=fin (hs.world (q6.mono hs.leB) λb hb=>q6.block b hb) (q3.flat (m1 rfl) hfree) q4 q5 m2;exact⟨v,I,L',_,_,q1,m3,n2,n1⟩
mutual
def RV.pv:RV->PV
 | .p x=>x
 | .row _ _ es=>.aU es
 | .deep _ _ _ _ _ es=>.aU es
 | .agg rs=>.agg (RV.pvL rs)
 | .dW rs=>.dW (RV.pvL rs)
def RV.pvL:List RV->List PV
 | []=>[]
 |r :: rs=>r.pv :: RV.pvL rs
end
theorem RV.aji:∀ (rs:List RV) (j:Nat) (c:PV),(RV.pvL rs)[j]? = some c->∃r,rs[j]? = some r/\r.pv=c
 | [],j,c,h=>by simp[RV.pvL] at h
 |r :: rs,j,c,h=>by
  cases j with
  |zero=>simp[RV.pvL] at h;exact⟨r,rfl,h⟩
  |succ j=>obtain⟨r',h1,h2⟩:=RV.aji rs j c (by simpa[RV.pvL] using h);exact⟨r',by simpa using h1,h2⟩
theorem RV.ajj:∀ (rs:List RV),(RV.pvL rs).length=rs.length
 | []=>rfl
 |r :: rs=>by simp[RV.pvL,RV.ajj rs]
theorem xR.pv{w:World}{B:Nat}{J:Mem}{u:Value}{r:RV}{bs:List Nat}(h:xR w B J u r bs):∀ {K:Mem},J.sub K->(∀b,B<=b->∀o u,w.cell? ⟨b,o,none⟩=some u->K b o=some u)->VR K u r.pv:=by
 induction h with
 |p u x h=>exact λhK _=>h.mono hK
 |row bI e sz es us h h1 =>
  intro K hK adf;show VR K bI (.aU es);have hfl:=bH h.all;have hlen:us.length=es.flatten.length:=by rw[hfl];exact h.own.1
  rcases h.own.2 with ⟨rfl,hn⟩|⟨g,cap,cur,rfl,hb,hg,hnc,hcm,hcs,jN⟩
  ·have he:es=[]:=length_eq_zero_iff.1 hn;subst he;exact .aU none 0 0 [] us sz rfl (by simp) hlen (λj u c hu hc=>(h.val j u c hu hc).mono hK) h.one (.inl (length_eq_zero_iff.1 (by simpa using hlen))) (λ_=>⟨rfl,rfl⟩) (le_refl _)
  ·refine .aU _ _ _ es us sz rfl h.all hlen (λj u c hu hc=>(h.val j u c hu hc).mono hK) h.one (.inr ⟨g,0,rfl,λj u hu=>?_⟩) (by simp) hnc;rw[zero_add];refine adf g hb j u ?_;rw[fP hg];rw[<-jN,getElem?_take] at hu;split at hu
   ·simpa using hu
   ·cases hu
 |deep bI e sz k e' sz' es us dr h h1 hk hall hin hap =>
  intro K hK adf;exact aqI h hall hin hK λb hb=>adf b (by
   rcases hb with hb|⟨i,hi,hb⟩
   ·exact (y6 h.own hb)
   ·obtain⟨l,us',q1,q2,q3⟩:=hin i _ (getElem?_eq_getElem hi);exact y6 q2.own hb)
 |agg us rs bs hl hl' hv hone ih =>
  intro K hK adf;show VR K (.agg us.toArray) (.agg (RV.pvL rs));refine .agg us _ (by rw[RV.ajj];exact hl) (λj u c hu hc=>?_) hone;obtain⟨r,h1,rfl⟩:=RV.aji rs j c hc;obtain⟨b,hb⟩:∃b,bs[j]? = some b:=by have hj:j<us.length:=(List.getElem?_eq_some_iff.1 hu).1;exact⟨bs[j]'(by omega),by simp[hl' ▸ hj]⟩
  exact ih j u r b hu h1 hb hK adf
 |dW us rs bs hl hl' hv ih =>
  intro K hK adf;show VR K (.tuple us.toArray) (.dW (RV.pvL rs));refine .dW us _ (by rw[RV.ajj];exact hl) (λj u c hu hc=>?_);obtain⟨r,h1,rfl⟩:=RV.aji rs j c hc;obtain⟨b,hb⟩:∃b,bs[j]? = some b:=by have hj:j<us.length:=(List.getElem?_eq_some_iff.1 hu).1;exact⟨bs[j]'(by omega),by simp[hl' ▸ hj]⟩
  exact ih j u r b hu h1 hb hK adf
def Mem.arL(I:Mem)(B:Nat)(w:World):Mem:=λb o=>if b<B then I b o else w.cell? ⟨b,o,none⟩
theorem bt.toV{f:FuncId}{args:List PV}{Q:RV->Prop}(h:bt P f args Q):aS P f args λx=>∃r,Q r/\x=r.pv :=
 ⟨h.1,λI w vs hI hv=>(h.2 I w vs hI hv).mono λe w' ⟨v,r,bs,I',q1,q2,q3,q4,q5,q6,q7,q8,q9⟩=>by
  have hsub:I'.sub (I'.arL w.heap.size w'):=λb o u hu=>by
   unfold Mem.arL;split
   ·exact hu
   ·exact q8 b o u hu
  refine⟨v,r.pv,I'.arL w.heap.size w',q1,⟨r,q2,rfl⟩,q3.pv hsub (λb hb o u hu=>?_),q6,Mem.lX q7 hsub,λb o u hu=>?_,λb hb o=>?_⟩
  ·unfold Mem.arL;rw[if_neg (by omega)];exact hu
  ·unfold Mem.arL at hu;split at hu
   ·exact q8 b o u hu
   ·exact hu
  ·unfold Mem.arL;rw[if_pos hb];exact q9 b hb o⟩
theorem bt.anJ{f:FuncId}{args:List PV}{r0:RV}(h:bt P f args λr=>r=r0):aS P f args λx=>x=r0.pv:=h.toV.mono λx ⟨r,h1,h2⟩=>by rw[h2,h1]
end Go.cv
namespace Go.cv
open Go.RowKit
variable{P:Program}{I:Mem}{L:bA}
def Ctx.avU(w:World)(I:Mem)(n B v sz:Nat)(bI:Value)(hB:B<=w.heap.size):Ctx :=
 ⟨w,I,n,B,λb=>bI.ownBlock=some b,λi=>if i=1000000 then some (.row v bI sz) else none,hB,λi l h=>by
  split at h
  ·omega
  ·cases h⟩
def kJ(P:Program)(f:FuncId)(v:Nat)(e:TypeId)(sz:Nat)(es:List (List PV))(ps:List PV)(Q:AV->Option Chunk->Prop):Prop :=
 gF P f=true/\∀ (B:Nat) (I:Mem) (w:World) (bI:Value) (us vs:List Value) (hB:B<=w.heap.size),I.inW w->sE w B I bI e sz es us->bI.oneCell'=true->VRs I vs ps ->
  Calls P f (bI :: vs).toArray w λx w'=>∃u a H' I' L',x = .returned u/\Q a (H' 1000000)/\dR I' L' u a/\gQ (Ctx.avU w I 0 B v sz bI hB) fS H' I' L' #[] w'
theorem kJ.mono{f:FuncId}{v:Nat}{e:TypeId}{sz:Nat}{es:List (List PV)}{ps:List PV}{Q Q':AV->Option Chunk->Prop}(h:kJ P f v e sz es ps Q)(hq:∀a c,Q a c->Q' a c):kJ P f v e sz es ps Q':=⟨h.1,λB I w bI us vs hB hI hr h1 hv=>(h.2 B I w bI us vs hB hI hr h1 hv).mono λ_ _ ⟨u,a,H',I',L',q1,q2,q3⟩=>⟨u,a,H',I',L',q1,hq _ _ q2,q3⟩⟩
def aqM(id:Nat):AV->Option AV
 | .p x=>some (.p x)
 | .row i v=>if i=1000000 then some (.row id v) else none
 | .dW []=>some (.dW [])
 |_=>none
theorem wg{w:World}{B:Nat}{e:TypeId}{sz:Nat}{bI:Value}{n:Nat}{us:List Value}(h:w.ownsRow B e sz bI n us){b:Nat}(hb:bI.ownBlock=some b):B<=b/\b<w.heap.size:=by
 rcases h.2 with ⟨rfl,_⟩|⟨g,cap,cur,rfl,h1,h2,_⟩
 ·cases hb
 ·have:g=b:=by simpa[Value.ownBlock] using hb
  subst this;refine⟨h1,?_⟩;rcases lt_or_ge g w.heap.size with h|h
  ·exact h
  ·simp[Array.getElem?_eq_none h] at h2
section
variable{C:Ctx}{env:Env}{H H':aA}{tm:Array Value}{w w':World}{id v sz:Nat}{e:TypeId}{es:List (List PV)}{bI:Value}{J I':Mem}{L':bA}
theorem gQ.back(h:gQ C env H I L tm w)(hid:H id=some (.row v e sz es))(hl:L id=some (.row v bI sz))(hJ:I.sub J)(hJn:∀b,bI.ownBlock=some b->∀o,J b o=none)
  (hs':gQ (Ctx.avU w J 0 C.B v sz bI h.leB) fS H' I' L' #[] w') {v':Nat} {e':TypeId} {sz':Nat} {es':List (List PV)} (hch:H' 1000000=some (.row v' e' sz' es'))
  {K:Mem} (hK:(J=I/\K=I')\/(K=I/\(es'.all λx=>x.all isVal)=true)) :
  ∃eX,L' 1000000=some (.row v' eX sz')/\gQ C env (bh H id (.row v' e' sz' es')) K (cg L id (.row v' eX sz')) tm w'/\dQ L (cg L id (.row v' eX sz')):=by
 obtain⟨eX,us',k1,k2,k3,k4,k5,k6,k7⟩:=hs'.chunk 1000000 _ hch;have akC:dQ L (cg L id (.row v' eX sz')):=λi=>by
  by_cases hi:i=id
  ·subst hi;rw[hl];have:=hs'.loc 1000000;simp only[Ctx.avU,if_true,k1] at this;obtain⟨v1,jD,m1,m2,m3⟩:=this;simp only[cA,Loc.row.injEq] at m1;obtain⟨rfl,rfl,rfl⟩:=m1;exact⟨v',eX,by simp[cg],m2,m3⟩
  ·have:cg L id (.row v' eX sz') i=L i:=by simp[cg,hi]
   rw[this];exact dQ.refl L i
 have hown:∀b,bI.ownBlock=some b->C.w0.heap.size<=b\/C.anw b:=λb hb=>h.jA id _ b hl hb
 have hfr:∀b,b<w.heap.size->bI.ownBlock≠some b->w'.heap[b]? = w.heap[b]?:=λb hb hn=>hs'.frame b hb hn
 have hIn:∀b o,b<w.heap.size->bI.ownBlock≠some b->I' b o=J b o:=λb o hb hn=>hs'.lY b hb hn o
 have avV:∀b,bI.ownBlock=some b->∀o,I b o=none:=λb hb o=>by
  cases hI:I b o with
  |none=>rfl
  |some u=>have:=hJ b o u hI;rw[hJn b hb o] at this;cases this
 have avW:I.sub K:=by
  rcases hK with ⟨e1,e2⟩|⟨e1,_⟩
  ·rw[e2];exact Mem.lX hJ hs'.kX
  ·rw[e1];exact Mem.en I
 have hKn:∀b o,b<w.heap.size->bI.ownBlock≠some b->K b o=I b o:=λb o hb hn=>by
  rcases hK with ⟨e1,e2⟩|⟨e1,_⟩
  ·rw[e2,hIn b o hb hn,e1]
  ·rw[e1]
 have hKw:K.inW w':=by
  rcases hK with ⟨_,e2⟩|⟨e1,_⟩
  ·rw[e2];exact hs'.mem
  ·rw[e1];exact h.mem.keep λb ⟨o,u,hu⟩=>hfr b (h.mem.lt hu) λhb=>by rw[avV b hb o] at hu;cases hu
 have hblk:∀b,eX.ownBlock=some b->bI.ownBlock=some b\/w.heap.size<=b:=λb hb=>(hs'.jA 1000000 _ b k1 hb).symm
 refine⟨eX,k1,?_,akC⟩;exact
 {below:=h.below.trans hs'.below
  mem:=hKw
  kX:=Mem.lX h.kX avW
  lY:=λb hb hf o=>by
   have hn:bI.ownBlock≠some b:=λhb'=>by
    rcases hown b hb' with h1|h1
    ·omega
    ·exact hf h1
   rw[hKn b o (Nat.lt_of_lt_of_le hb h.below.size) hn];exact h.lY b hb hf o
  frame:=λb hb hf=>by
   have hn:bI.ownBlock≠some b:=λhb'=>by
    rcases hown b hb' with h1|h1
    ·omega
    ·exact hf h1
   exact (hfr b (Nat.lt_of_lt_of_le hb h.below.size) hn).trans (h.frame b hb hf)
  loc:=h.loc.trans akC
  jA:=λi li b hi hlb=>by
   by_cases ei:i=id
   ·subst ei;have:Loc.row v' eX sz'=li:=by simpa[cg] using hi
    subst this;rcases hblk b hlb with h1|h1
    ·exact hown b h1
    ·exact .inl (le_trans h.below.size h1)
   ·exact h.jA i li b (by simpa[cg,ei] using hi) hlb
  size:=h.size
  env:=λt=>(h.env t).mono avW akC
  dom:=λi li hi=>by
   by_cases ei:i=id
   ·exact⟨.row v' e' sz' es',by simp[bh,ei]⟩
   ·obtain⟨c,hc⟩:=h.dom i li (by simpa[cg,ei] using hi);exact⟨c,by simpa[bh,ei] using hc⟩
  chunk:=λi c hc=>by
   by_cases ei:i=id
   ·subst ei;have:Chunk.row v' e' sz' es'=c:=by simpa[bh] using hc
    subst this;refine⟨eX,us',by simp[cg],k2,k3,k4,λj u c hu hc=>?_,k6,λb hb o=>?_⟩
    ·rcases hK with ⟨_,e2⟩|⟨e1,aD6⟩
     ·rw[e2];exact k5 j u c hu hc
     ·rw[e1];refine (k5 j u c hu hc).isVal ?_;obtain⟨x,hx,hcx⟩:=mem_flatten.1 (mem_of_getElem? hc);exact all_eq_true.1 (all_eq_true.1 aD6 x hx) c hcx
    ·rcases hK with ⟨_,e2⟩|⟨e1,_⟩
     ·rw[e2];exact k7 b hb o
     ·rw[e1];rcases hblk b hb with h1|h1
      ·exact avV b h1 o
      ·cases hI:I b o with
       |none=>rfl
       |some u=>exact absurd (h.mem.lt hI) (by omega)
   ·refine (h.chunk i c (by simpa[bh,ei] using hc)).keep avW akC (by simp[cg,ei]) λli b hi hlb=>?_
    have hn:bI.ownBlock≠some b:=λhb'=>ei (h.apart i id li _ b hi hl hlb hb')
    have hlt:=(h.fM i li b hi hlb).2;exact⟨hfr b hlt hn,λo=>hKn b o hlt hn⟩
  fM:=λi li b hi hlb=>by
   by_cases ei:i=id
   ·subst ei;have:Loc.row v' eX sz'=li:=by simpa[cg] using hi
    subst this;exact hs'.fM 1000000 _ b k1 hlb
   ·have:=h.fM i li b (by simpa[cg,ei] using hi) hlb;exact⟨this.1,Nat.lt_of_lt_of_le this.2 hs'.below.size⟩
  apart:=λi j li lj b hi hj rK vq=>by
   have one:∀k lk,k≠id->L k=some lk->lk.has b->eX.ownBlock≠some b:=λk lk hk hlk hbk hb'=>by
    rcases hblk b hb' with h1|h1
    ·exact hk (h.apart k id lk _ b hlk hl hbk h1)
    ·have:=(h.fM k lk b hlk hbk).2;omega
   by_cases ei:i=id<;>by_cases ej:j=id
   ·rw[ei,ej]
   ·subst ei;have:Loc.row v' eX sz'=li:=by simpa[cg] using hi
    subst this;exact absurd rK (one j lj ej (by simpa[cg,ej] using hj) vq)
   ·subst ej;have:Loc.row v' eX sz'=lj:=by simpa[cg] using hj
    subst this;exact absurd vq (one i li ei (by simpa[cg,ei] using hi) rK)
   ·exact h.apart i j li lj b (by simpa[cg,ei] using hi) (by simpa[cg,ej] using hj) rK vq }
end
def agZ(H:aA)(id:Nat):aA:=λi=>if i=id then none else H i
theorem afj(H:aA)(id:Nat):HSub (agZ H id) H:=λi c h=>by
 unfold agZ at h;split at h
 ·cases h
 ·exact h
def tP(w:World)(r:Option Nat):Mem:=λb o=>if r=some b then none else w.cell? ⟨b,o,none⟩
def avX(P:Program)(o:Oper)(ρ:Operand->AV)(H:aA)(Kr:AV->aA->Prop):Prop :=
 ∃k id v e sz es eS ps b Q,dP o ρ=some (k,.row id v :: eS)/\H id=some (.row v e sz es)/\eC (gR (agZ H id)) eS=some (ps,b)/\kJ P k v e sz es ps Q /\
  ∀a c,Q a c->∃v' e' sz' es' a',c=some (.row v' e' sz' es')/\aqM id a=some a'/\(b=true->(es'.all λx=>x.all isVal)=true/\(match a' with | .p x=>x.scalar|_=>true)=true)/\Kr a' (bh H id (.row v' e' sz' es'))
theorem akD{J K:Mem}{L':bA}{u:Value}{a a':AV}{id v' sz':Nat}{eX:Value}(h:dR J L' u a)(hb:aqM id a=some a')(hl:L' 1000000=some (.row v' eX sz'))(hK:∀x,a' = .p x->VR J u x->VR K u x) :
  dR K (cg L id (.row v' eX sz')) u a':=by
 unfold aqM at hb;split at hb
 ·simp only[cA] at hb;subst hb;exact .p _ _ (hK _ rfl h.nM)
 ·split at hb
  ·rename_i i v hi;simp only[cA] at hb;subst hb;subst hi;cases h with
   |row _ _ _ v1 jD sz1 lS hle hh h1=>rw[hl] at lS;simp only[cA,Loc.row.injEq] at lS;obtain⟨rfl,rfl,rfl⟩:=lS;exact .row u id v _ eX sz' (by simp[cg]) hle hh h1
  ·cases hb
 ·simp only[cA] at hb;subst hb;cases h with
  |dW us _ hl hv=>exact .dW us [] hl (by simp)
 ·cases hb
theorem ajk{o:Oper}{ρ:Operand->AV}{H:aA}{Kr:AV->aA->Prop}(h:avX P o ρ H Kr){C:Ctx}{env:Env}{tm:Array Value}{w:World}(hs:gQ C env H I L tm w){σ:Operand->Value}(hσ:∀x,dR I L (σ x) (ρ x)) :
  ∃k args,(execOp σ o).run P w = .ok (.enter k args) w/\Calls P k args w λe w'=>∃v I' L' a H',e = .returned v/\Kr a H'/\dR I' L' v a/\gQ C env H' I' L' tm w':=by
 obtain⟨k,id,v,e,sz,es,eS,ps,b,Q,h1,h2,h3,h4,h5⟩:=h;obtain⟨us,hr,hu⟩:=qA h1 h4.1 hσ w;refine⟨k,_,hr,?_⟩;cases us with
 |nil=>have:=hu.1;simp at this
 |cons ag0 vs =>
  obtain⟨bI,ws,q1,q2,q3,q4,q5,q6,q7⟩:=hs.chunk id _ h2;have hu0:=hu.2 0 ag0 _ rfl rfl;have hone:ag0=bI/\bI.oneCell'=true:=by
   cases hu0 with
   |row _ _ _ v1 jD sz1 hl hle hh h1=>rw[q1] at hl;simp only[cA,Loc.row.injEq] at hl;obtain⟨_,r2,_⟩:=hl;subst r2;have:=hh (by assumption);subst this;exact⟨rfl,h1⟩
  obtain⟨rfl,h1c⟩:=hone;have aaL:oZ I L vs eS:=⟨by simpa using hu.1,λj u c hj hc=>hu.2 (j+1) u c hj hc⟩;cases b with
  |false =>
   obtain⟨k1,_,k3⟩:=kB (pq hs (afj H id) (lZ hs.mem) ((rM L w).g _)) eS ps false h3 vs aaL.1 aaL.2;refine (h4.2 C.B I w ag0 ws vs hs.leB hs.mem ⟨q2,q3,q4,q5,q6,q7⟩ h1c ⟨k1,k3 rfl⟩).mono λx w' ⟨u,a,H',I',L',m1,m2,m3,m4⟩=>?_
   obtain⟨v',e',sz',es',a',n1,n2,_,n4⟩:=h5 a _ m2;obtain⟨eX,g1,g2,g3⟩:=hs.back h2 q1 (Mem.en I) q7 m4 n1 (K:=I') (.inl ⟨rfl,rfl⟩);exact⟨u,I',_,a',_,m1,n4,akD m3 n2 g1 λ_ _ h=>h,g2⟩
  |true =>
   have hJ:I.sub (tP w ag0.ownBlock):=λb o u hu=>by
    unfold tP;split
    ·rename_i hb;rw[q7 b hb o] at hu;cases hu
    ·exact hs.mem b o u hu
   have hJn:∀b,ag0.ownBlock=some b->∀o,tP w ag0.ownBlock b o=none:=λb hb o=>by unfold tP;rw[if_pos hb]
   have hJw:(tP w ag0.ownBlock).inW w:=λb o u hu=>by
    unfold tP at hu;split at hu
    ·cases hu
    ·exact hu
   have adf:afh (agZ H id) L w (tP w ag0.ownBlock):=λi ch hi l b hl hb o u hu=>by
    unfold tP;rw[if_neg]
    ·exact hu
    ·intro hb';have:=hs.apart i id l _ b hl q1 hb hb';subst this;simp[agZ] at hi
   obtain⟨k1,k2,_⟩:=kB (pq hs (afj H id) hJ adf) eS ps true h3 vs aaL.1 aaL.2;refine (h4.2 C.B (tP w ag0.ownBlock) w ag0 ws vs hs.leB hJw ⟨q2,q3,q4,λj u c hu hc=>(q5 j u c hu hc).mono hJ,q6,hJn⟩ h1c ⟨k1,k2⟩).mono λx w' ⟨u,a,H',I',L',m1,m2,m3,m4⟩=>?_
   obtain⟨v',e',sz',es',a',n1,n2,n3,n4⟩:=h5 a _ m2;obtain⟨n5,n6⟩:=n3 rfl;obtain⟨eX,g1,g2,g3⟩:=hs.back h2 q1 hJ hJn m4 n1 (K:=I) (.inr ⟨rfl,n5⟩);exact⟨u,I,_,a',_,m1,n4,akD m3 n2 g1 λx hx h=>by subst hx;exact h.scalar n6,g2⟩
end Go.cv
namespace Go.cv
open Go.RowKit
variable{P:Program}{I:Mem}{L:bA}
open Classical in
noncomputable def Mem.s0(I:Mem)(L:bA)(w:World)(id:Nat):Mem:=λb o=>match L id with
 |some l=>if l.has b then w.cell? ⟨b,o,none⟩ else I b o
 |none=>I b o
theorem Mem.afk{I:Mem}{w:World}(h:I.inW w)(L:bA)(id:Nat):I.sub (I.s0 L w id):=λb o u hu=>by
 unfold Mem.s0;split
 ·split
  ·exact h b o u hu
  ·exact hu
 ·exact hu
theorem Fr.shut(C:Ctx)(I:Mem)(L:bA){H:aA}(w:World){id v sz:Nat}{e:TypeId}{es:List (List PV)}(hH:H id=some (.row v e sz es)) :
  Fr C I L H w (I.s0 L w id) L (bh H id (.shut v es)) w:=λenv tm hs=>by
 have hsub:=Mem.afk hs.mem L id;have adf:∀l b,L id=some l->l.has b->∀o u,w.cell? ⟨b,o,none⟩=some u->I.s0 L w id b o=some u:=λl b hl hb o u hu=>by unfold Mem.s0;rw[hl];simp[hb,hu]
 have aC7:∀i l b,i≠id->L i=some l->l.has b->∀o,I.s0 L w id b o=I b o:=λi l b hne hl hb o=>by
  unfold Mem.s0;split
  ·rename_i l' hl';split
   ·rename_i hb';exact absurd (hs.apart i id l l' b hl hl' hb hb') hne
   ·rfl
  ·rfl
 obtain⟨bI,us,h1,h2,h3,h4,h5,h6,h7⟩:=hs.chunk id _ hH;exact
 {below:=hs.below
  mem:=λb o u hu=>by
   unfold Mem.s0 at hu;split at hu
   ·split at hu
    ·exact hu
    ·exact hs.mem b o u hu
   ·exact hs.mem b o u hu
  kX:=Mem.lX hs.kX hsub
  lY:=λb hb hf o=>by
   rw[<-hs.lY b hb hf o];unfold Mem.s0;split
   ·rename_i l hl;split
    ·rename_i hlb;rcases hs.jA id l b hl hlb with h|h
     ·omega
     ·exact absurd h hf
    ·rfl
   ·rfl
  frame:=hs.frame
  loc:=hs.loc
  jA:=hs.jA
  size:=hs.size
  env:=λt=>(hs.env t).mono hsub (dQ.refl L)
  dom:=λi l hl=>by
   obtain⟨c,hc⟩:=hs.dom i l hl;by_cases e:i=id
   ·exact⟨.shut v es,by simp[bh,e]⟩
   ·exact⟨c,by simpa[bh,e] using hc⟩
  chunk:=λi c hc=>by
   by_cases e:i=id
   ·subst e;have:Chunk.shut v es=c:=by simpa[bh] using hc
    subst this;refine⟨bI,sz,h1,?_,h4,?_⟩
    ·have hfl:=bH h4;have hlen:us.length=es.flatten.length:=by rw[hfl];exact h2.1
     rcases h2.2 with ⟨rfl,hn⟩|⟨g,cap,cur,rfl,hb,hg,hnc,hcm,hcs,jN⟩
     ·have he:es=[]:=length_eq_zero_iff.1 hn;subst he;exact .aU none 0 0 [] us sz rfl (by simp) hlen (λj u c hu hc=>(h5 j u c hu hc).mono hsub) h6 (.inl (length_eq_zero_iff.1 (by simpa using hlen))) (λ_=>⟨rfl,rfl⟩) (le_refl _)
     ·refine .aU _ _ _ es us sz rfl h4 hlen (λj u c hu hc=>(h5 j u c hu hc).mono hsub) h6 (.inr ⟨g,0,rfl,λj u hu=>?_⟩) (by simp) hnc;rw[zero_add];refine adf _ g h1 rfl j u ?_;rw[fP hg];rw[<-jN,getElem?_take] at hu;split at hu
      ·simpa using hu
      ·cases hu
    ·intro hne;rcases h2.2 with ⟨rfl,hn⟩|⟨g,cap,cur,rfl,_⟩
     ·exact absurd (length_eq_zero_iff.1 hn) hne
     ·exact⟨g,0,_,cap,rfl⟩
   ·exact (hs.chunk i c (by simpa[bh,e] using hc)).keep hsub (dQ.refl L) rfl λl b hl hb=>⟨rfl,λo=>aC7 i l b e hl hb o⟩
  fM:=hs.fM
  apart:=hs.apart }
def aqN(H:aA)(id:Nat):aA:=match H id with
 |some (.row v _ _ es)=>bh H id (.shut v es)
 |_=>H
def eD:List Nat->aA->aA
 | [],H=>H
 |id :: r,H=>eD r (aqN H id)
theorem Fr.eD(C:Ctx)(L:bA)(w:World):∀ (ids:List Nat) (H:aA) (I:Mem),(I.inW w)->∃I',I.sub I'/\I'.inW w/\Fr C I L H w I' L (eD ids H) w
 | [],H,I,hw=>⟨I,Mem.en I,hw,Fr.refl C I L H w⟩
 |id :: r,H,I,hw=>by
  unfold cv.eD aqN;split
  ·rename_i v e sz es hH;have hw':(I.s0 L w id).inW w:=λb o u hu=>by
    unfold Mem.s0 at hu;split at hu
    ·split at hu
     ·exact hu
     ·exact hw b o u hu
    ·exact hw b o u hu
   obtain⟨I',h1,h2,h3⟩:=Fr.eD C L w r (bh H id (.shut v es)) (I.s0 L w id) hw';exact⟨I',Mem.lX (Mem.afk hw L id) h1,h2,(Fr.shut C I L w hH).trans h3⟩
  ·exact Fr.eD C L w r H I hw
def tQ:List AV->List Nat
 | []=>[]
 | .row id _ :: r=>id :: tQ r
 |_ :: r=>tQ r
def o5:List (Nat×AV)->List Nat
 | []=>[]
 |(_,.row id _) :: r=>id :: o5 r
 |(_,.agg cs) :: r=>tQ cs++o5 r
 |_ :: r=>o5 r
def aaM(H:aA)(a:AV):AV:=match a with
 | .row id bf=>match H id with
  |some (.shut v es)=>if v=bf then .p (.aU es) else .row id bf
  |_=>.row id bf
 |a=>a
def yx(H:aA)(a:AV):AV:=match a with
 | .agg cs=>.agg (cs.map (aaM H))
 |a=>aaM H a
theorem ad9(a:AV):aaM cq a=a:=by unfold aaM;cases a<;>rfl
theorem akE(a:AV):yx cq a=a:=by
 unfold yx;cases a with
 |agg cs =>
  have:cs.map (aaM cq)=cs:=by rw[map_congr_left (λx _=>ad9 x),map_id']
  simp only[this]
 |_=>exact ad9 _
def xH(P:Program)(o:Oper)(ρ:Operand->AV)(H:aA):Option (Prop×AV×aA):=match o.op with
 | .buildSlice t n parts=>match lT P t n ((parts.toList.map λx=>(x.1,ρ x.2)).map λx=>(x.1,yx (eD (o5 (parts.toList.map λx=>(x.1,ρ x.2))) H) x.2)) with
  |some (_,es)=>some (True,.p (.aU es),eD (o5 (parts.toList.map λx=>(x.1,ρ x.2))) H)
  |none=>none
 |_=>none
theorem aea{C:Ctx}{H:aA}{env:Env}{tm:Array Value}{w:World}(hs:gQ C env H I L tm w){u:Value}{a:AV}(hu:dR I L u a):dR I L u (aaM H a):=by
 unfold aaM;split
 ·rename_i id bf;split
  ·rename_i v es hH;split
   ·rename_i hv;subst hv;obtain⟨bI,sz,h1,h2,_⟩:=hs.chunk id _ hH;cases hu with
    |row _ _ _ v1 jD sz1 hl hle hh hone=>rw[h1] at hl;simp only[cA,Loc.row.injEq] at hl;obtain⟨r1,r2,r3⟩:=hl;subst r1 r2 r3;rw[hh rfl];exact .p _ _ h2
   ·exact hu
  ·exact hu
 ·exact hu
theorem akF{C:Ctx}{H:aA}{env:Env}{tm:Array Value}{w:World}(hs:gQ C env H I L tm w){u:Value}{a:AV}(hu:dR I L u a):dR I L u (yx H a):=by
 unfold yx;split
 ·rename_i cs;cases hu with
  |agg us _ hl hv hone =>
   refine .agg us _ (by simpa using hl) (λj u c hu hc=>?_) hone;rw[getElem?_map] at hc;cases hj:cs[j]? with
   |none=>rw[hj] at hc;cases hc
   |some a=>rw[hj] at hc;simp only[map_some,cA] at hc;subst hc;exact aea hs (hv j u a hu hj)
 ·exact aea hs hu
theorem arM{o:Oper}{ρ:Operand->AV}{v:AV}{pre:Prop}{H H':aA}(h:xH P o ρ H=some (pre,v,H')){C:Ctx}{env:Env}{tm:Array Value}{w:World}
  (hs:gQ C env H I L tm w) {σ:Operand->Value} (hσ:∀x,dR I L (σ x) (ρ x)):nT P C H I L w ((execOp σ o).run P w) v H':=by
 unfold xH at h;unfold execOp;split at h
 ·rename_i t n parts hop;simp only[hop];split at h
  ·rename_i e es hb;simp only[cA,iL] at h;obtain⟨_,h2,h3⟩:=h;subst h2 h3;obtain⟨I',hsub,hw,hfr⟩:=Fr.eD C L w (o5 (parts.toList.map λx=>(x.1,ρ x.2))) H I hs.mem;have hs':=hfr env tm hs;have hpr:=wQ (I:=I) (L:=L) hσ parts.toList;have aHA:ae9 I' L (parts.toList.map λx=>(x.1,σ x.2)) ((parts.toList.map λx=>(x.1,ρ x.2)).map λx=>(x.1,yx (eD (o5 (parts.toList.map λx=>(x.1,ρ x.2))) H) x.2)):=by
    refine⟨by simp,λj x y hx hy=>?_⟩;rw[getElem?_map] at hy;cases hj:(parts.toList.map λx=>(x.1,ρ x.2))[j]? with
    |none=>simp[hj] at hy
    |some z=>rw[hj] at hy;simp only[map_some,cA] at hy;obtain⟨k1,k2⟩:=hpr.2 j x z hx hj;subst hy;exact⟨k1,akF hs' (k2.mono hsub (dQ.refl L))⟩
   obtain⟨uo,sz,hr,_,_,hpos,hn,hall,hl,hv,hone⟩:=we hb aHA w;have hr':(Instr.buildSlice t n (parts.map λx=>(x.1,σ x.2))).run P w = .ok (.slice (some ⟨w.heap.size,0,none⟩) n n) (w.alloc (.cells uo.toArray e)):=by rw[<-hr];congr 2;apply Array.ext';simp
   refine⟨.slice (some ⟨w.heap.size,0,none⟩) n n,_,I'.with w.heap.size uo.toArray,L,.inl (by rw[run_lift,hr'];rfl),?_,hfr.trans (Fr.imm C I' L _ w _ e)⟩;have:=VR.ai3 (w:=w) (us:=uo) (rest:=[]) hw hall hl hv hone (cap:=n) (by omega);rw[append_nil] at this;rw[hn] at this;exact .p _ _ this
  ·cases h
 ·cases h
def gC(P:Program)(o:Oper)(ρ:Operand->AV)(H:aA):Option (Prop×AV×aA):=match oc P o ρ with
 |some (pre,v)=>some (pre,v,H)
 |none=>match rL P o ρ H with
  |some (pre,v)=>some (pre,v,H)
  |none=>match wK P o ρ H with
   |some r=>some r
   |none=>xH P o ρ H
def isApp:Op->Bool
 | .call c=>(match c.callee with
  | .builtin .append=>true
  |_=>false)
 |_=>false
def orE(x:Option (Prop×AV×aA))(b:Bool)(y:Option (Prop×AV×aA)):Option (Prop×AV×aA):=match x,b with
 |some r,_=>some r
 |none,true=>y
 |none,false=>none
def gj(P:Program)(own:List Nat)(o:Oper)(ρ:Operand->AV)(H:aA):Option (Prop×AV×aA):=match o.dst with
 |some d=>if own.contains d=true then orE (exN P o ρ H d) (isApp o.op) (gC P o ρ H) else gC P o ρ H
 |none=>gC P o ρ H
theorem uq{o:Oper}{ρ:Operand->AV}{v:AV}{pre:Prop}{H H':aA}(h:gC P o ρ H=some (pre,v,H'))(hp:pre){C:Ctx}{env:Env}{tm:Array Value}{w:World}
  (hs:gQ C env H I L tm w) {σ:Operand->Value} (hσ:∀x,dR I L (σ x) (ρ x)):nT P C H I L w ((execOp σ o).run P w) v H':=by
 unfold gC at h;split at h
 ·rename_i hx;simp only[cA,iL] at h;obtain⟨rfl,rfl,rfl⟩:=h;exact arD hx hp hs hσ
 ·split at h
  ·rename_i hx;simp only[cA,iL] at h;obtain⟨rfl,rfl,rfl⟩:=h;exact arH hx hp hs hσ
  ·split at h
   ·rename_i hx;simp only[cA] at h;subst h;exact arI hx hp hs hσ
   ·exact arM h hs hσ
theorem akG{own:List Nat}{o:Oper}{ρ:Operand->AV}{v:AV}{pre:Prop}{H H':aA}(h:gj P own o ρ H=some (pre,v,H'))(hp:pre){C:Ctx}{env:Env}{tm:Array Value}{w:World}
  (hs:gQ C env H I L tm w) {σ:Operand->Value} (hσ:∀x,dR I L (σ x) (ρ x)):nT P C H I L w ((execOp σ o).run P w) v H':=by
 unfold gj at h;split at h
 ·split at h
  ·unfold orE at h;split at h
   ·rename_i hx;exact arK (hx.trans h) hp hs hσ
   ·exact uq h hp hs hσ
   ·cases h
  ·exact uq h hp hs hσ
 ·exact uq h hp hs hσ
def cL(env:Env)(d:Option Nat)(v:AV):Env:=match d with
 |some d=>cE env d v
 |none=>env
def uO(N:Nat)(d:Option Nat):Prop:=match d with
 |some d=>d<N
 |none=>True
theorem gQ.cL{C:Ctx}{env:Env}{H:aA}{tm:Array Value}{w:World}(h:gQ C env H I L tm w){d:Option Nat}{u:Value}{v:AV}(hd:uO C.n d)(hv:dR I L u v)(ds:List Deferred) :
  gQ C (cL env d v) H I L (Act.put ⟨tm,ds⟩ d u).tmps w:=by
 cases d with
 |none=>exact h
 |some d=>exact h.put hd hv
theorem dR.aAw{u:Value}(h:dR I L u (.dW [])):u = .tuple #[]:=by
 cases h with
 |dW us _ hl _=>have:us=[]:=length_eq_zero_iff.1 (by simpa using hl);rw[this]
def lE(ops:Array Oper)(o:Oper)(env:Env):Option Bool:=match o.guard with
 |none=>some true
 |some (j,want)=>match (ops[j]?).bind (·.dst) with
  |some d=>match env d with
   | .p (.val (.bool b))=>some (b == want)
   | .dW []=>some false
   |_=>none
  |none=>none
theorem mX{ops:Array Oper}{o:Oper}{env:Env}{g:Bool}(h:lE ops o env=some g){C:Ctx}{H:aA}{tm:Array Value}{w:World}(hs:gQ C env H I L tm w) :
  Region.wanted o (yielded ops tm)=g:=by
 unfold lE at h;unfold Region.wanted;split at h
 ·rename_i hg;simp at h;subst h;simp[hg]
 ·rename_i j want hg;rw[hg];dsimp only;split at h
  ·rename_i d hd;split at h
   ·rename_i b hb;simp at h;subst h;have hu:=hs.env d;rw[hb] at hu;have hu:=hu.dK.1;have hlt:d<tm.size:=by
     rcases lt_or_ge d tm.size with h|h
     ·exact h
     ·simp[Array.getElem?_eq_none h,undef] at hu
    have:tm[d]? = some (.bool b):=by rw[<-hu];simp[hlt]
    simp[yielded,hd,this]
   ·rename_i hb;simp at h;subst h;have hu:=hs.env d;rw[hb] at hu;have hu:=hu.aAw;have:∀b,tm[d]?≠some (.bool b):=λb hb=>by rw[Array.getD_eq_getD_getElem?,hb] at hu;cases hu
    cases ht:tm[d]? with
    |none=>simp[yielded,hd,ht]
    |some u =>
     cases u with
     |bool b=>exact absurd ht (this b)
     |_=>simp[yielded,hd,ht]
   ·cases h
  ·cases h
def anK(x:AV):List Nat->Env->Env
 | [],env=>env
 |t :: r,env=>anK x r (cL env (some t) x)
theorem avY(x:AV)(env:Env):anK x [] env=env:=rfl
theorem arN(x:AV)(t:Nat)(r:List Nat)(env:Env):anK x (t :: r) env=anK x r (cL env (some t) x):=rfl
def holds(env:Env)(id v:Nat):List Nat->Prop
 | []=>True
 |t :: r=>env t = .row id v/\holds env id v r
theorem arO(env:Env)(id v:Nat):holds env id v []=True:=rfl
theorem anL(env:Env)(id v t:Nat)(r:List Nat):holds env id v (t :: r)=(env t = .row id v/\holds env id v r):=rfl
theorem avZ{C:Ctx}{env:Env}{H:aA}{I:Mem}{L:bA}{tm:Array Value}{w:World}{id v t:Nat}{es:List (List PV)}(hs:gQ C env H I L tm w)(hH:H id=some (.shut v es))(ht:env t = .row id v) :
  gQ C (cL env (some t) (.p (.aU es))) H I L tm w:=by
 refine { hs with env:=λi=>?_ };unfold cL;simp only;unfold cE;split
 ·rename_i hi;subst hi;have h1:=hs.env i;rw[ht] at h1;generalize tm.getD i undef=u at h1 ⊢;obtain⟨bI,sz,g1,g2,_⟩:=hs.chunk id _ hH;cases h1 with
  |row _ _ _ v' eX sz' hl hle h h1=>rw[g1] at hl;simp only[cA,Loc.row.injEq] at hl;obtain⟨rfl,rfl,rfl⟩:=hl;rw[h rfl];exact .p _ _ g2
 ·exact hs.env i
theorem adg{C:Ctx}{H:aA}{I:Mem}{L:bA}{tm:Array Value}{w:World}{id v:Nat}{es:List (List PV)}(hH:H id=some (.shut v es)):∀ (ts:List Nat) (env:Env),ts.Nodup->gQ C env H I L tm w->holds env id v ts ->
  gQ C (anK (.p (.aU es)) ts env) H I L tm w
 | [],env,_,hs,_=>hs
 |t :: r,env,hn,hs,ht=>by
  rw[nodup_cons] at hn;refine adg hH r _ hn.2 (avZ hs hH ht.1) ?_;have:∀r:List Nat,t ∉ r->holds env id v r->holds (cL env (some t) (.p (.aU es))) id v r:=by
   intro r
   induction r with
   |nil=>intro _ _;exact trivial
   |cons u r ih=>intro hn hh;refine⟨?_,ih (λh=>hn (mem_cons_of_mem _ h)) hh.2⟩;rw[<-hh.1];unfold cL;simp only;unfold cE;rw[if_neg];intro e;exact hn (by rw[e];exact mem_cons_self)
  exact this r hn.1 ht.2
def dx(env:Env)(H:aA)(env':Env)(H':aA):Prop:=∀C I L tm w,gQ C env H I L tm w->∃I' L',gQ C env' H' I' L' tm w
def adh(P:Program)(o:Oper)(W:Env->aA->Prop)(env:Env)(H:aA):Prop :=
 (∃ids,avP P o (ev env) (eD ids H) λx=>W (cL env o.dst (.p x)) (eD ids H))\/aD5 P o (ev env) (λx=>W (cL env o.dst (.p x)) H) \/
  ∃ids,avT P o (ev env) (eD ids H) (λa H'=>W (cL env o.dst a) H')\/avX P o (ev env) (eD ids H) λa H'=>W (cL env o.dst a) H'
def ahF(P:Program)(o:Oper)(W:Env->aA->Prop)(env:Env)(H:aA):Prop:=∃v H',W (cL env o.dst v) H'/\∀ (C:Ctx) (I:Mem) (L:bA) (tm:Array Value) (w:World) (σ:Operand->Value),gQ C env H I L tm w->(∀x,dR I L (σ x) (ev env x))->nT P C H I L w ((execOp σ o).run P w) v H'
def ab3(P:Program)(o:Oper)(W:Env->aA->Prop)(env:Env)(H:aA):Prop :=
 ∀ (C:Ctx) (I:Mem) (L:bA) (tm:Array Value) (w:World) (σ:Operand->Value),gQ C env H I L tm w->(∀x,dR I L (σ x) (ev env x)) ->
  ∃k args,(execOp σ o).run P w = .ok (.enter k args) w/\Calls P k args w λe w'=>∃v I' L' a H',e = .returned v/\W (cL env o.dst a) H'/\dR I' L' v a/\gQ C env H' I' L' tm w'
def aD7(P:Program)(o:Oper)(W:Env->aA->Prop)(env:Env)(H:aA):Prop:=∃ta H2,dx env H ta H2/\((∃pre v H',gC P o (ev ta) H2=some (pre,v,H')/\pre/\W (cL ta o.dst v) H')\/adh P o W ta H2\/ahF P o W ta H2\/ab3 P o W ta H2)
def jF(P:Program)(o:Oper)(W:Env->aA->Prop)(env:Env)(H:aA):Prop:=adh P o W env H\/aD7 P o W env H\/ahF P o W env H\/ab3 P o W env H
def walk(P:Program)(N:Nat)(own:List Nat)(ops:Array Oper):List Oper->(Env->aA->Prop)->Env->aA->Prop
 | [],K,env,H=>K env H
 |o :: rest,K,env,H=>uO N o.dst/\match lE ops o env with
  |some true=>(match gj P own o (ev env) H with
   |some (pre,v,H')=>pre/\walk P N own ops rest K (cL env o.dst v) H'
   |none=>jF P o (walk P N own ops rest K) env H)
  |some false=>walk P N own ops rest K (cL env o.dst (.dW [])) H
  |none=>False
theorem nT.upon{C:Ctx}{H H':aA}{w:World}{r:Result Next}{v:AV}(h:nT P C H I L w r v H'){o:Oper}{a:Act}{next:Act->World->Prop}{Q:Exit->Act->World->Prop}
  (hn:∀u w' I' L',dR I' L' u v->Fr C I L H w I' L' H' w'->next (a.put o.dst u) w'):o.upon P a next Q r:=by
 obtain⟨u,w',I',L',hr,ha,hf⟩:=h;rcases hr with rfl|⟨rfl,rfl⟩
 ·exact hn u w' I' L' ha hf
 ·exact hn undef w' I' L' ha hf
theorem aaq{o:Oper}{env:Env}{H:aA}{W:Env->aA->Prop}(h:adh P o W env H\/ahF P o W env H\/ab3 P o W env H){C:Ctx}{tm:Array Value}{ds:List Deferred}{w:World}(hs:gQ C env H I L tm w)(hd:uO C.n o.dst){next:Act->World->Prop}{Q:Exit->Act->World->Prop}
  (hW:∀env' H' I' L' tm' w',W env' H'->gQ C env' H' I' L' tm' w'->next ⟨tm',ds⟩ w'):o.wp P ⟨tm,ds⟩ w next Q:=by
 have hσ:=λx=>qy hs ds x
 unfold Oper.wp;have hput:∀ {w':World} {I' L':_} {H':aA} {u:Value} {v:AV},W (cL env o.dst v) H'->dR I' L' u v->Fr C I L H w I' L' H' w'->next (Act.put ⟨tm,ds⟩ o.dst u) w':=by
  intro w' I' L' H' u v hw ha hf;have:=(hf env tm hs).cL hd ha ds;have e:(Act.put ⟨tm,ds⟩ o.dst u:Act)=⟨(Act.put ⟨tm,ds⟩ o.dst u).tmps,ds⟩:=by cases o.dst<;>rfl
  rw[e];exact hW _ _ I' L' _ w' hw this
 rcases h with h|⟨v,H',hw,hy⟩|h
 ·rcases h with ⟨ids,hc⟩|he|⟨ids,hc⟩
  case inr.inl=>obtain⟨u,x,hr,hv,hw⟩:=anI he (w:=w) hσ;exact (nT.still (C:=C) (H:=H) hr (dR.p _ _ hv)).upon λu w' I' L' ha hf=>hput hw ha hf
  case inr.inr =>
   obtain⟨I1,hsub,hw1,hfr⟩:=Fr.eD C L w ids H I hs.mem;have hs1:=hfr env tm hs;obtain⟨k,args,hr,afl⟩:=hc.elim (λhc=>ajh hc hs1 (λx=>qy hs1 ds x)) (λhc=>ajk hc hs1 (λx=>qy hs1 ds x));rw[hr,Oper.upon_enter];refine afl.mono λe w' ⟨v,I',L',a,H',he,hw,hv,hs'⟩=>?_
   subst he;have:=hs'.cL hd hv ds;have e:(Act.put ⟨tm,ds⟩ o.dst v:Act)=⟨(Act.put ⟨tm,ds⟩ o.dst v).tmps,ds⟩:=by cases o.dst<;>rfl
   show next (Act.put ⟨tm,ds⟩ o.dst v) w'
   rw[e];exact hW _ _ I' L' _ w' hw this
  obtain⟨I1,hsub,hw1,hfr⟩:=Fr.eD C L w ids H I hs.mem;have hs1:=hfr env tm hs;obtain⟨k,args,hr,afl⟩:=akB hc hs1 (λx=>qy hs1 ds x);rw[hr,Oper.upon_enter];refine afl.mono λe w' ⟨v,I',x,he,hw,hv,hf⟩=>?_
  subst he;exact hput hw (.p _ _ hv) (hfr.trans hf)
 ·exact (hy C I L tm w _ hs hσ).upon λu w' I' L' ha hf=>hput hw ha hf
 ·obtain⟨k,args,hr,afl⟩:=h C I L tm w _ hs hσ;rw[hr,Oper.upon_enter];refine afl.mono λe w' ⟨v,I',L',a,H',he,hw,hv,hs'⟩=>?_
  subst he;have:=hs'.cL hd hv ds;have e:(Act.put ⟨tm,ds⟩ o.dst v:Act)=⟨(Act.put ⟨tm,ds⟩ o.dst v).tmps,ds⟩:=by cases o.dst<;>rfl
  show next (Act.put ⟨tm,ds⟩ o.dst v) w'
  rw[e];exact hW _ _ I' L' _ w' hw this
theorem ajl{own:List Nat}{o:Oper}{env:Env}{H:aA}{W:Env->aA->Prop}(h:match gj P own o (ev env) H with
   |some (pre,v,H')=>pre/\W (cL env o.dst v) H'
   |none=>jF P o W env H) {C:Ctx} {tm:Array Value} {ds:List Deferred} {w:World} (hs:gQ C env H I L tm w) (hd:uO C.n o.dst) {next:Act->World->Prop} {Q:Exit->Act->World->Prop}
  (hW:∀env' H' I' L' tm' w',W env' H'->gQ C env' H' I' L' tm' w'->next ⟨tm',ds⟩ w'):o.wp P ⟨tm,ds⟩ w next Q:=by
 split at h
 ·rename_i pre v H' hx;obtain⟨hp,hw⟩:=h;have hσ:=λx=>qy hs ds x
  unfold Oper.wp;refine (akG hx hp hs hσ).upon λu w' I' L' ha hf=>?_
  have:=(hf env tm hs).cL hd ha ds;have e:(Act.put ⟨tm,ds⟩ o.dst u:Act)=⟨(Act.put ⟨tm,ds⟩ o.dst u).tmps,ds⟩:=by cases o.dst<;>rfl
  rw[e];exact hW _ _ I' L' _ w' hw this
 ·rcases h with h|⟨ta,H2,q1,h⟩|h|h
  ·exact aaq (.inl h) hs hd hW
  ·obtain⟨I2,L2,h2⟩:=q1 C I L tm w hs;rcases h with ⟨pre,v,H',q4,q5,q6⟩|h
   ·unfold Oper.wp;refine (uq q4 q5 h2 (λy=>qy h2 ds y)).upon λu w' I' L' ha hf=>?_
    have:=(hf _ tm h2).cL hd ha ds;have e:(Act.put ⟨tm,ds⟩ o.dst u:Act)=⟨(Act.put ⟨tm,ds⟩ o.dst u).tmps,ds⟩:=by cases o.dst<;>rfl
    rw[e];exact hW _ _ I' L' _ w' q6 this
   ·exact aaq h h2 hd hW
  ·exact aaq (.inr (.inl h)) hs hd hW
  ·exact aaq (.inr (.inr h)) hs hd hW
theorem abe{N:Nat}{own:List Nat}{ops:Array Oper}{K:Env->aA->Prop}{Q:Exit->Act->World->Prop}{C:Ctx}{ds:List Deferred}(hN:C.n=N)
  (hK:∀env H I L tm w,K env H->gQ C env H I L tm w->Q .normal ⟨tm,ds⟩ w):∀ (l:List Oper) (env:Env) (H:aA) (I:Mem) (L:bA) (tm:Array Value) (w:World),
  walk P N own ops l K env H->gQ C env H I L tm w->wpList P ops Q l ⟨tm,ds⟩ w
 | [],env,H,I,L,tm,w,h,hs=>hK env H I L tm w h hs
 |o :: rest,env,H,I,L,tm,w,h,hs=>by
  obtain⟨hd,h⟩:=h;rw[<-hN] at hd;unfold wpList;split at h
  ·rename_i hg;rw[if_pos (mX hg hs)];exact .inl (ajl h hs hd λenv' H' I' L' tm' w' hw hs'=>abe hN hK rest env' H' I' L' tm' w' hw hs')
  ·rename_i hg;rw[if_neg (by rw[mX hg hs];simp)];have e:(Act.put ⟨tm,ds⟩ o.dst undef:Act)=⟨(Act.put ⟨tm,ds⟩ o.dst undef).tmps,ds⟩:=by cases o.dst<;>rfl
   rw[e];exact abe hN hK rest _ H I L _ w h (hs.cL hd (.dW [] [] rfl (by simp)) ds)
  ·exact h.elim
end Go.cv
namespace Go.cv
open Go.RowKit
variable{P:Program}{I:Mem}{L:bA}
abbrev qB:=Exit->Env->aA->Prop
theorem dx.refl(env:Env)(H:aA):dx env H env H:=λ_ I L _ _ h=>⟨I,L,h⟩
theorem dx.trans{e1 e2 e3:Env}{H1 H2 H3:aA}(h:dx e1 H1 e2 H2)(k:dx e2 H2 e3 H3):dx e1 H1 e3 H3:=λC I L tm w hs=>by obtain⟨I1,L1,h1⟩:=h C I L tm w hs;exact k C I1 L1 tm w h1
def vI(P:Program)(N:Nat)(own:List Nat)(ops:Array Oper)(K:Env->aA->Prop)(env:Env)(H:aA):Prop:=∀C I L tm w,C.n=N->gQ C env H I L tm w->wpAny P .any ops (λe a w'=>a.defers=[]/\e = .normal/\∃env' H' I' L',K env' H'/\gQ C env' H' I' L' a.tmps w') ops.size (Array.replicate ops.size false) ⟨tm,[]⟩ { w with drawn:=w.drawn+1 }
def akH(W:qB->Env->aA->Prop)(K:qB)(env:Env)(H:aA):Prop :=
 ∃Inv:Nat->Env->aA->Prop,(∃n e2 H2,Inv n e2 H2/\dx env H e2 H2) /\
  ∀n e H,Inv n e H->W (λx e' H'=>match x with
   | .normal=>∃m e2 H2,m<n/\Inv m e2 H2/\dx e' H' e2 H2
   |x=>K x e' H') e H
def wT(X Y:Prop)(c:AV):Prop:=match c with
 | .p (.val (.bool b))=>(b=true->X)/\(b=false->Y)
 |_=>False
def cw(P:Program)(N:Nat)(own:List Nat):Code->qB->Env->aA->Prop
 | .skip,K,env,H=>K .normal env H
 | .label _,K,env,H=>K .normal env H
 | .region _ ops false,K,env,H=>walk P N own ops ops.toList (K .normal) env H
 | .region _ ops true,K,env,H=>vI P N own ops (K .normal) env H
 | .seq a b, K, env, H => cw P N own a (fun x e' H' => match x with
   | .normal=>cw P N own b K e' H'
   |x=>K x e' H') env H
 | .cond c a b,K,env,H=>wT (cw P N own a K env H) (cw P N own b K env H) (ev env c)
 | .block id c, K, env, H => cw P N own c (fun x e' H' => match x with
   | .exit id'=>if id'=id then K .normal e' H' else K (.exit id') e' H'
   |x=>K x e' H') env H
 | .loop c,K,env,H=>akH (cw P N own c) K env H
 | .exit id,K,env,H=>K (.exit id) env H
 | .ret,K,env,H=>K .ret env H
 |_,_,_,_=>False
def lift(C:Ctx)(K:qB):Exit->Act->World->Prop:=λe a w=>a.defers=[]/\∃env H I L,K e env H/\gQ C env H I L a.tmps w
theorem pz{N:Nat}{own:List Nat}(hm:P.follows .mixedOrders=true):∀ (c:Code) (K:qB) (C:Ctx),C.n=N->∀env H I L tm w,cw P N own c K env H->gQ C env H I L tm w->c.wp P (lift C K) ⟨tm,[]⟩ w
 | .skip,K,C,hN,env,H,I,L,tm,w,h,hs=>wp_skip ⟨rfl,env,H,I,L,h,hs⟩
 | .label _,K,C,hN,env,H,I,L,tm,w,h,hs=>wp_label ⟨rfl,env,H,I,L,h,hs⟩
 | .region _ ops false,K,C,hN,env,H,I,L,tm,w,h,hs=>by refine wp_region ?_;have:=wpOps_eq_wpList (P:=P) (ops:=ops) (Q:=lift C K) ops.toList 0 (by simp);rw[range_eq_range',<-Array.length_toList,this];exact abe hN (λenv H I L tm w hk hs=>⟨rfl,env,H,I,L,hk,hs⟩) ops.toList env H I L tm w h hs
 | .region _ ops true,K,C,hN,env,H,I,L,tm,w,h,hs=>by refine wp_mono (Q:=λe a w'=>a.defers=[]/\e = .normal/\∃env' H' I' L',K .normal env' H'/\gQ C env' H' I' L' a.tmps w') (wp_region_any hm (h C I L tm w hN hs)) ?_;rintro e a w ⟨h1,rfl,env',H',I',L',h2,h3⟩;exact⟨h1,env',H',I',L',h2,h3⟩
 | .seq a b,K,C,hN,env,H,I,L,tm,w,h,hs=>by
  refine wp_seq (wp_mono (pz hm a _ C hN env H I L tm w h hs) ?_);rintro e ac w ⟨h1,env',H',I',L',h2,h3⟩;cases ac with
  |mk tmps ds =>
   simp only at h1 h3;subst h1;cases e with
   |normal=>exact pz hm b K C hN env' H' I' L' tmps w h2 h3
   |_=>exact⟨rfl,env',H',I',L',h2,h3⟩
 | .cond c a b,K,C,hN,env,H,I,L,tm,w,h,hs=>by
  have h:wT (cw P N own a K env H) (cw P N own b K env H) (ev env c):=h;have hc:=qy hs [] c;unfold wT at h;split at h
  ·rename_i t ht;rw[ht] at hc;exact wp_cond_split hc.dK.1 (λht=>pz hm a K C hN env H I L tm w (h.1 ht) hs) (λht=>pz hm b K C hN env H I L tm w (h.2 ht) hs)
  ·exact h.elim
 | .block id c,K,C,hN,env,H,I,L,tm,w,h,hs=>by
  refine wp_block (wp_mono (pz hm c _ C hN env H I L tm w h hs) ?_);rintro e ac w ⟨h1,env',H',I',L',h2,h3⟩;cases e with
  |exit id' =>
   simp only[Exit.inBlock];dsimp only at h2;split
   ·rename_i he;rw[if_pos he] at h2;exact⟨h1,env',H',I',L',h2,h3⟩
   ·rename_i he;rw[if_neg he] at h2;exact⟨h1,env',H',I',L',h2,h3⟩
  |_=>exact⟨h1,env',H',I',L',h2,h3⟩
 | .loop c,K,C,hN,env,H,I,L,tm,w,h,hs=>by
  obtain⟨Inv,⟨n0,e0,H0,hi0,hw0⟩,aC8⟩:=h;intro b k cs
  have key : ∀ n, ∀ e H I L tm w, Inv n e H → gQ C e H I L tm w →
    ∃x a' w',lift C K x a' w'/\Arrives P (lone (b.at ⟨tm,[]⟩ (.code c :: .inLoop c :: k)) cs w) b k cs x a' w':=by
   intro n
   induction n using Nat.strongRecOn with
   |_ n ih =>
    intro e H I L tm w hi hs;obtain⟨x,a',w',hq,abZ⟩:=pz hm c _ C hN e H I L tm w (aC8 n e H hi) hs b (.inLoop c :: k) cs;obtain⟨hd,e',H',I',L',hq,hs'⟩:=hq;cases a' with
    |mk tmps ds =>
     simp only at hd hs';subst hd;cases x with
     |normal=>obtain⟨m,e2,H2,hlt,hi2,hwk⟩:=hq;obtain⟨I2,L2,hs2⟩:=hwk C I' L' tmps w' hs';obtain⟨x,a2,w2,hq2,aD8⟩:=ih m hlt e2 H2 I2 L2 tmps w' hi2 hs2;exact⟨x,a2,w2,hq2,.of_steps (Steps.trans abZ (.one step_inLoop)) aD8⟩
     |exit id=>exact⟨_,_,w',⟨rfl,e',H',I',L',hq,hs'⟩,.pass (x:=.inLoop c) rfl (λ_ _=>.inl (by simp)) abZ⟩
     |goto l=>exact⟨_,_,w',⟨rfl,e',H',I',L',hq,hs'⟩,.pass (x:=.inLoop c) rfl (λ_ _=>.inl (by simp)) abZ⟩
     |ret=>exact⟨_,_,w',⟨rfl,e',H',I',L',hq,hs'⟩,.pass (x:=.inLoop c) rfl (λ_ _=>.inl (by simp)) abZ⟩
     |panic ch=>exact⟨_,_,w',⟨rfl,e',H',I',L',hq,hs'⟩,.pass (x:=.inLoop c) rfl (λ_ _=>.inl (by simp)) abZ⟩
     |outgrown=>exact⟨_,_,w',⟨rfl,e',H',I',L',hq,hs'⟩,.pass (x:=.inLoop c) rfl (λ_ _=>.inl (by simp)) abZ⟩
  obtain⟨I0,L0,hs0⟩:=hw0 C I L tm w hs;obtain⟨x,a',w',hq,abZ⟩:=key n0 e0 H0 I0 L0 tm w hi0 hs0;exact⟨x,a',w',hq,.of_steps (.one step_loop) abZ⟩
 | .exit id,K,C,hN,env,H,I,L,tm,w,h,hs=>wp_exit ⟨rfl,env,H,I,L,h,hs⟩
 | .ret,K,C,hN,env,H,I,L,tm,w,h,hs=>wp_ret ⟨rfl,env,H,I,L,h,hs⟩
 | .goto _,K,C,hN,env,H,I,L,tm,w,h,hs=>h.elim
 | .rangeFunc _ _ _ _,K,C,hN,env,H,I,L,tm,w,h,hs=>h.elim
 | .scope _,K,C,hN,env,H,I,L,tm,w,h,hs=>h.elim
 | .refuse _,K,C,hN,env,H,I,L,tm,w,h,hs=>h.elim
def iw(args:List PV):Env:=λt=>match args[t]? with
 |some x=>.p x
 |none=>.dead
def aaD(P:Program)(env:Env)(H:aA):ResultVar->Option AV
 | .tmp t=>some (env t)
 | .cell a t=>match env a with
  | .ptr id off=>match H id with
   |some (.box cs)=>sG P t cs off
   |_=>none
  |_=>none
def akI(P:Program)(env:Env)(H:aA):List ResultVar->Option (List AV)
 | []=>some []
 |r :: rs=>match aaD P env H r,akI P env H rs with
  |some a,some eS=>some (a :: eS)
  |_,_=>none
def pE(P:Program)(env:Env)(H:aA)(rs:List ResultVar):Option AV:=match akI P env H rs with
 |some [a]=>some a
 |some eS=>some (.dW eS)
 |none=>none
def av0(P:Program)(env:Env)(H:aA)(rs:List ResultVar):Option PV:=match pE P env H rs with
 |some a=>match ad8 H a with
  |some (x,_)=>some x
  |none=>none
 |none=>none
def aAx(P:Program)(rs:List ResultVar)(Q:PV->Prop):qB:=λe env H=>match e with
 | .normal | .ret=>(match av0 P env H rs with
  |some r=>Q r
  |none=>False)
 |_=>False
def afm(tm:Array Value):ResultVar->Sem Value
 | .tmp t=>pure (tm.getD t undef)
 | .cell a t=>do loadVar t (<-asAddr (tm.getD a undef))
theorem abf{C:Ctx}{env:Env}{H:aA}{tm:Array Value}{w:World}(hs:gQ C env H I L tm w):∀ (rs:List ResultVar) (eS:List AV),akI P env H rs=some eS ->
  ∃us:List Value,(rs.mapM (afm tm)).run P w = .ok us w/\oZ I L us eS
 | [],eS,h=>by simp[akI] at h;subst h;exact⟨[],by simp,rfl,by simp⟩
 |r :: rs,eS,h=>by
  simp only[akI] at h;split at h
  ·rename_i a as' h1 h2;simp only[cA] at h;subst h;obtain⟨us,hr,hu⟩:=abf hs rs as' h2;have one:∃u,(afm tm r).run P w = .ok u w/\dR I L u a:=by
    unfold aaD at h1;split at h1
    ·rename_i t;simp only[cA] at h1;subst h1;exact⟨_,rfl,hs.env t⟩
    ·rename_i b t;split at h1
     ·rename_i id off hb;split at h1
      ·rename_i cs hH;have hbv:=hs.env b;rw[hb] at hbv;obtain⟨blk,arr,e,g1,g2,g3,g4,g5,g6⟩:=hs.chunk id _ hH;have hres:∀ub,tm.getD b undef=ub->(afm tm (.cell b t)).run P w=(do loadVar t (<-asAddr ub):Sem Value).run P w:=λub h=>by show (do loadVar t (<-asAddr (tm.getD b undef)):Sem Value).run P w=_;rw[h]
       rw[hres _ rfl];generalize tm.getD b undef=ub at hbv ⊢;cases hbv with
       |ptr _ b' _ hl =>
        rw[g1] at hl;simp only[cA,Loc.box.injEq] at hl;subst hl;obtain⟨u,hru,hua⟩:=aao (I:=I) (L:=L) (w:=w) (b:=blk) (base:=0) (us:=arr.toList) h1 (by simpa using g3) (λj u c hu hc=>g4 j u c (by simpa using hu) hc)
         (λu hu=>by
          obtain⟨j,hj⟩:=mem_iff_getElem?.1 hu;exact g5 j u (by simpa using hj)) (λj u hu=>by rw[zero_add,fP g2];simpa using hu)
        rw[zero_add] at hru;exact⟨u,by simp[asAddr,hru],hua⟩
      ·cases h1
     ·cases h1
   obtain⟨u,hru,hua⟩:=one;refine⟨u :: us,?_,by simp[hu.1],λj v b hv hb=>?_⟩
   ·simp only[mapM_cons,Sem.run_bind,hru,Result.andThen_ok,hr,Sem.run_pure]
   ·cases j with
    |zero=>simp at hv hb;subst hv hb;exact hua
    |succ j=>exact hu.2 j v b (by simpa using hv) (by simpa using hb)
  ·cases h
theorem vJ{C:Ctx}{env:Env}{H:aA}{tm:Array Value}{w:World}(hs:gQ C env H I L tm w){fn:Func}{a:AV}(h:pE P env H fn.results.toList=some a) :
  ∃u,(results fn tm).run P w = .ok u w/\dR I L u a:=by
 have hres:∀us:List Value,(fn.results.toList.mapM (afm tm)).run P w = .ok us w->(results fn tm).run P w = .ok (if h:us.toArray.size=1 then us.toArray[0] else .tuple us.toArray) w:=by
  intro us hr;have e:results fn tm=(do let vs <-fn.results.mapM (afm tm);pure (if h:vs.size=1 then vs[0] else .tuple vs)):=by unfold results;congr 2
  rw[e,Sem.run_bind,Array.mapM_eq_mapM_toList,Sem.run_map,hr];rfl
 unfold pE at h;split at h
 ·rename_i a' hl;simp only[cA] at h;subst h;obtain⟨us,hr,hu⟩:=abf hs _ _ hl;refine⟨_,hres us hr,?_⟩;have hlen:us.length=1:=by simpa using hu.1
  rw[dif_pos (by simpa using hlen)];cases us with
  |nil=>simp at hlen
  |cons u r=>exact hu.2 0 u _ rfl rfl
 ·rename_i eS hne hl;simp only[cA] at h;subst h;obtain⟨us,hr,hu⟩:=abf hs _ _ hl;refine⟨_,hres us hr,?_⟩;have hlen:¬ us.length=1:=λe=>by
   have:eS.length=1:=by rw[<-hu.1];exact e
   cases eS with
   |nil=>simp at this
   |cons a r =>
    have:r=[]:=by simpa using this
    subst this;exact hne a rfl
  rw[dif_neg (by simpa using hlen)];exact .dW us eS hu.1 hu.2
 ·cases h
def Mem.all(I:Mem)(B:Nat)(w:World):Mem:=λb o=>if b<B then I b o else w.cell? ⟨b,o,none⟩
theorem aeb{f:FuncId}{fn:Func}{c:Code}{args:List PV}{Q:PV->Prop}(own:List Nat)(hm:P.follows .mixedOrders=true)(hf:P.funcs[f]? = some fn)(hb:fn.body=some c)
  (hc:gF P f=true) (hn:args.length<=fn.ntmps) (h:cw P fn.ntmps own c (aAx P fn.results.toList Q) (iw args) cq):aS P f args Q:=by
 refine⟨hc,λI w vs hI hv=>calls_of_wp hf hb ?_⟩;let C:Ctx:=Ctx.of w I fn.ntmps;have hlen:vs.length<=fn.ntmps:=by rw[hv.1];exact hn
 have hs:gQ C (iw args) cq I (λ_=>none) (vs.toArray++Array.replicate (fn.ntmps-vs.toArray.size) undef) w :=
  {below:=Below.refl _ _
   mem:=hI
   kX:=Mem.en I
   lY:=λ_ _ _ _=>rfl
   frame:=λ_ _ _=>rfl
   loc:=λ_=>trivial
   jA:=λid l b h=>by cases h
   size:=by simp;show vs.length+(fn.ntmps-vs.length)=fn.ntmps;omega
   env:=λt=>by
    unfold iw;split
    ·rename_i x hx;have ht:t<vs.length:=by rw[hv.1];exact (List.getElem?_eq_some_iff.1 hx).1
     refine .p _ _ (hv.2 t _ x ?_ hx);rw[getElem?_eq_getElem ht];simp[Array.getElem?_append,ht]
    ·exact .dead _
   dom:=λid l h=>by cases h
   chunk:=λid ch h=>by cases h
   fM:=λid l b h=>by cases h
   apart:=λi j li lj b h=>by cases h }
 refine wp_mono (pz hm c _ C rfl _ _ I _ _ w h hs) ?_;rintro e a w' ⟨hd,env',H',I',L',hk,hs'⟩;have fin:(match av0 P env' H' fn.results.toList with|some r=>Q r|none=>False)->bodyPost P fn (λe w'=>∃v r I',e = .returned v/\Q r/\VR I' v r/\Below w.heap.size w w'/\I.sub I'/\I'.inW w'/\∀b,b<w.heap.size->∀o,I' b o=I b o) .normal a w':=by
  intro hk;unfold av0 at hk;split at hk
  ·rename_i r hr;split at hr
   ·rename_i av hav;split at hr
    ·rename_i x b hl;simp only[cA] at hr;subst hr;obtain⟨u,hru,hua⟩:=vJ hs' hav;have hsub:I'.sub (I'.all C.B w'):=λb o u hu=>by
      unfold Mem.all;split
      ·exact hu
      ·exact hs'.mem b o u hu
     have adf:aAu L' w' (I'.all C.B w'):=λid l b hl hlb o u hu=>by unfold Mem.all;rw[if_neg (by have:=(hs'.fM id l b hl hlb).1;omega)];exact hu
     refine⟨hd,u,hru,u,x,I'.all C.B w',rfl,hk,(avO hs' (uk H') hsub (adf.g H') u av x b hua hl).1,hs'.below,Mem.lX hs'.kX hsub,?_,?_⟩
     ·intro b o u hu;unfold Mem.all at hu;split at hu
      ·exact hs'.mem b o u hu
      ·exact hu
     ·intro b hb o;unfold Mem.all;rw[if_pos (show b<C.B from hb)];exact hs'.lY b hb (λh=>h) o
    ·cases hr
   ·cases hr
  ·exact hk.elim
 cases e with
 |normal=>exact fin hk
 |ret=>exact fin hk
 |exit id=>exact hk.elim
 |goto l=>exact hk.elim
 |panic c=>exact hk.elim
 |outgrown=>exact hk.elim
mutual
def pZ(H:aA):AV->Option (RV×List Nat)
 | .p x=>some (.p x,[])
 | .row id bf=>match H id with
  |some (.row v e sz es)=>if v=bf then some (.row e sz es,[id]) else none
  |some (.shut v es)=>if v=bf then some (.p (.aU es),[]) else none
  |_=>none
 | .eP id bf=>match H id with
  |some (.deep v e sz k e' sz' es)=>if v=bf then some (.deep e sz k e' sz' es,[id]) else none
  |_=>none
 | .agg cs=>match wU H cs with
  |some (rs,ids)=>some (.agg rs,ids)
  |none=>none
 | .dW cs=>match wU H cs with
  |some (rs,ids)=>some (.dW rs,ids)
  |none=>none
 |_=>none
def wU(H:aA):List AV->Option (List RV×List Nat)
 | []=>some ([],[])
 |a :: r=>match pZ H a,wU H r with
  |some (x,i),some (xs,j)=>some (x :: xs,i++j)
  |_,_=>none
end
inductive RLe:RV->RV->Prop
 |refl (r:RV):RLe r r
 |nil (e:TypeId) (sz:Nat) (h:0<sz):RLe (.p (.val (.slice none 0 0))) (.row e sz [])
 |aD9:RLe (.p (.val (.slice none 0 0))) (.p (.aU []))
 |agg (rs rs':List RV) (hl:rs'.length=rs.length) (h:∀ (j:Nat) r' r,rs'[j]? = some r'->rs[j]? = some r->RLe r' r):RLe (.agg rs') (.agg rs)
 |dW (rs rs':List RV) (hl:rs'.length=rs.length) (h:∀ (j:Nat) r' r,rs'[j]? = some r'->rs[j]? = some r->RLe r' r):RLe (.dW rs') (.dW rs)
def aAy(P:Program)(rs:List ResultVar)(Q:RV->Prop):qB:=λe env H=>match e with
 | .normal | .ret=>(match pE P env H rs with
  |some a=>(match pZ H a with
   |some (r,ids)=>ids.Nodup/\∃r',RLe r r'/\Q r'
   |none=>False)
  |none=>False)
 |_=>False
theorem RLe.sound{r r':RV}(h:RLe r r'):∀ {w:World} {B:Nat} {J:Mem} {u:Value} {bs:List Nat},xR w B J u r bs->xR w B J u r' bs:=by
 induction h with
 |refl r=>exact λh=>h
 |nil e sz hsz =>
  intro w B J u bs h;cases h with
  |p _ _ h=>cases h;exact .row (.slice none 0 0) e sz [] [] ⟨⟨by simp,.inl ⟨rfl,rfl⟩⟩,hsz,by simp,by simp,by simp,λb hb=>by simp[Value.ownBlock] at hb⟩ rfl
 |aD9 =>
  intro w B J u bs h;cases h with
  |p _ _ h=>cases h;exact .p _ _ (.aU none 0 0 [] [] 1 rfl (by simp) rfl (by simp) (by simp) (.inl rfl) (λ_=>⟨rfl,rfl⟩) (le_refl _))
 |agg rs rs' hl h ih =>
  intro w B J u bs hr;cases hr with
  |agg us _ bs q1 q2 q3 q4 =>
   refine .agg us rs bs (q1.trans hl) q2 (λj u r b hu hr hb=>?_) q4;obtain⟨r',hr'⟩:∃r',rs'[j]? = some r':=by have hj:j<us.length:=(List.getElem?_eq_some_iff.1 hu).1;exact⟨rs'[j]'(by omega),by simp[q1 ▸ hj]⟩
   exact ih j r' r hr' hr (q3 j u r' b hu hr' hb)
 |dW rs rs' hl h ih =>
  intro w B J u bs hr;cases hr with
  |dW us _ bs q1 q2 q3 =>
   refine .dW us rs bs (q1.trans hl) q2 (λj u r b hu hr hb=>?_);obtain⟨r',hr'⟩:∃r',rs'[j]? = some r':=by have hj:j<us.length:=(List.getElem?_eq_some_iff.1 hu).1;exact⟨rs'[j]'(by omega),by simp[q1 ▸ hj]⟩
   exact ih j r' r hr' hr (q3 j u r' b hu hr' hb)
def mY(L:bA):List Nat->List Nat
 | []=>[]
 |id :: r=>(match L id with
  |some l=>l.akq
  |none=>[])++mY L r
theorem anM(L:bA)(a b:List Nat):mY L (a++b)=mY L a++mY L b:=by
 induction a with
 |nil=>rfl
 |cons x r ih=>simp[mY,ih,append_assoc]
theorem abg{L:bA} : ∀ {ids:List Nat} {b:Nat},b∈mY L ids->∃id l,id∈ids/\L id=some l/\l.has b
 | [],b,h=>by simp[mY] at h
 |id :: r,b,h=>by
  simp only[mY,mem_append] at h;rcases h with h|h
  ·cases hL:L id with
   |none=>rw[hL] at h;cases h
   |some l=>rw[hL] at h;exact⟨id,l,by simp,hL,Loc.akr.1 h⟩
  ·obtain⟨i,l,h1,h2⟩:=abg h;exact⟨i,l,by simp[h1],h2⟩
theorem gQ.anN{C:Ctx}{H:aA}{env:Env}{tm:Array Value}{w:World}(hs:gQ C env H I L tm w){id:Nat}{l:Loc}(hl:L id=some l):l.akq.Nodup:=by
 cases l with
 |box b=>simp[Loc.akq]
 |row v bI sz=>show bI.ownBlock.toList.Nodup;generalize bI.ownBlock=x;cases x<;>simp
 |deep v bI sz sz' dr n =>
  obtain⟨ch,hch⟩:=hs.dom id _ hl;have hc:=hs.chunk id ch hch;cases ch with
  |box cs=>obtain⟨b,arr,e,h1,_⟩:=hc;rw[h1] at hl;cases hl
  |row v' e sz es=>obtain⟨eX,us,h1,_⟩:=hc;rw[h1] at hl;cases hl
  |shut v' es=>obtain⟨eX,sz,h1,_⟩:=hc;rw[h1] at hl;cases hl
  |tail v' e sz es=>obtain⟨g,o,cap,arr,h1,_⟩:=hc;rw[h1] at hl;cases hl
  |deep v' e sz1 k e' sz2 es=>obtain⟨eX,us,lD,h1,h2,h3,h4,h5,h6,h7⟩:=hc;rw[h1] at hl;simp only[cA,Loc.deep.injEq] at hl;obtain⟨_,rfl,_,_,rfl,rfl⟩:=hl;exact ai1 h7
theorem ab4{C:Ctx}{H:aA}{env:Env}{tm:Array Value}{w:World}(hs:gQ C env H I L tm w):∀ {ids:List Nat},ids.Nodup->(mY L ids).Nodup
 | [],_=>by simp[mY]
 |id :: r,h=>by
  rw[nodup_cons] at h;simp only[mY,nodup_append];refine⟨?_,ab4 hs h.2,?_⟩
  ·cases hL:L id with
   |none=>simp
   |some l=>exact hs.anN hL
  ·intro a ha b hb hab;subst hab;obtain⟨i,l,h1,h2,h3⟩:=abg hb;cases hL:L id with
   |none=>rw[hL] at ha;cases ha
   |some l'=>rw[hL] at ha;have:=hs.apart id i l' l a hL h2 (Loc.akr.1 ha) h3;subst this;exact h.1 h1
def aEa(C:Ctx)(I:Mem)(L:bA)(w:World)(H:aA)(a:AV):Prop:=∀u r ids,dR I L u a->pZ H a=some (r,ids)->xR w C.B I u r (mY L ids)
def aEb(C:Ctx)(I:Mem)(L:bA)(w:World)(H:aA)(eS:List AV):Prop :=
 ∀us rs ids,oZ I L us eS->wU H eS=some (rs,ids)->us.length=rs.length/\∃bs:List (List Nat),us.length=bs.length/\bs.flatten=mY L ids /\
  ∀ (j:Nat) u r b,us[j]? = some u->rs[j]? = some r->bs[j]? = some b->xR w C.B I u r b
theorem aAz{C:Ctx}{H:aA}{env:Env}{tm:Array Value}{w:World}(hs:gQ C env H I L tm w)(a:AV):aEa C I L w H a:=by
 refine AV.rec (motive_1:=aEa C I L w H) (motive_2:=aEb C I L w H) ?_ ?_ ?_ ?_ ?_ ?_ ?_ ?_ ?_ ?_ ?_ ?_ ?_ ?_ ?_ ?_ a
 ·intro x u r ids hu hr;simp only[pZ,cA,iL] at hr;obtain⟨rfl,rfl⟩:=hr;exact .p _ _ hu.nM
 ·intro id bf u r ids hu hr;simp only[pZ] at hr;split at hr
  ·rename_i v e sz es hH;split at hr
   ·rename_i hv;subst hv;simp only[cA,iL] at hr;obtain⟨rfl,rfl⟩:=hr;obtain⟨bI,us,h1,h2,h3,h4,h5,h6,h7⟩:=hs.chunk id _ hH;cases hu with
    |row _ _ _ v1 jD sz1 hl hle hh hone =>
     rw[h1] at hl;simp only[cA,Loc.row.injEq] at hl;obtain⟨r1,r2,r3⟩:=hl;subst r1 r2 r3;have hxe:=hh rfl;subst hxe;have hb:mY L [id]=u.ownBlock.toList:=by simp[mY,h1,Loc.akq]
     rw[hb];exact .row u e sz es us ⟨h2,h3,h4,h5,h6,h7⟩ hone
   ·cases hr
  ·rename_i v es hH;split at hr
   ·rename_i hv;subst hv;simp only[cA,iL] at hr;obtain⟨rfl,rfl⟩:=hr;obtain⟨bI,sz,h1,h2,_⟩:=hs.chunk id _ hH;cases hu with
    |row _ _ _ v1 jD sz1 hl hle hh hone=>rw[h1] at hl;simp only[cA,Loc.row.injEq] at hl;obtain⟨r1,r2,r3⟩:=hl;subst r1 r2 r3;rw[hh rfl];exact .p _ _ h2
   ·cases hr
  ·cases hr
 ·intro id off u r ids hu hr;simp[pZ] at hr
 ·intro id bf i off u r ids hu hr;simp[pZ] at hr
 ·intro cs ih u r ids hu hr;simp only[pZ] at hr;split at hr
  ·rename_i rs ids' hrs;simp only[cA,iL] at hr;obtain⟨rfl,rfl⟩:=hr;cases hu with
   |agg us _ hl hv hone=>obtain⟨k1,bs,k2,k3,k4⟩:=ih us rs ids' ⟨hl,hv⟩ hrs;rw[<-k3];exact .agg us rs bs k1 k2 k4 hone
  ·cases hr
 ·intro cs ih u r ids hu hr;simp only[pZ] at hr;split at hr
  ·rename_i rs ids' hrs;simp only[cA,iL] at hr;obtain⟨rfl,rfl⟩:=hr;cases hu with
   |dW us _ hl hv=>obtain⟨k1,bs,k2,k3,k4⟩:=ih us rs ids' ⟨hl,hv⟩ hrs;rw[<-k3];exact .dW us rs bs k1 k2 k4
  ·cases hr
 ·intro fn fs cs _ _ u r ids hu hr;simp[pZ] at hr
 ·intro id bf u r ids hu hr;simp only[pZ] at hr;split at hr
  ·rename_i v e sz k e' sz' es hH;split at hr
   ·rename_i hv;subst hv;simp only[cA,iL] at hr;obtain⟨rfl,rfl⟩:=hr;obtain⟨bI,us,dr,h1,h2,h3,h4,h5,h6,h7⟩:=hs.chunk id _ hH;have hb:mY L [id]=yS bI dr es.length:=by simp[mY,h1,Loc.akq]
    rw[hb];cases hu with
    |eP _ _ _ v1 jD _ _ rm n1 hl hle hh hone=>rw[h1] at hl;simp only[cA,Loc.deep.injEq] at hl;obtain⟨e1,e2,e3,e4,e5,e6⟩:=hl;subst e1 e2 e3 e4 e5 e6;rw[hh rfl];exact .deep bI e sz k e' sz' es us dr h2 h3 h4 h5 h6 h7
   ·cases hr
  ·cases hr
 ·intro id bf i off u r ids hu hr;simp[pZ] at hr
 ·intro id bf i u r ids hu hr;simp[pZ] at hr
 ·intro id bf i j off u r ids hu hr;simp[pZ] at hr
 ·intro id n u r ids hu hr;simp[pZ] at hr
 ·intro id bf off n m sz u r ids hu hr;simp[pZ] at hr
 ·intro u r ids hu hr;simp[pZ] at hr
 ·intro us rs ids hu hr;simp only[wU,cA,iL] at hr;obtain⟨rfl,rfl⟩:=hr;exact⟨hu.1,[],hu.1,rfl,by simp⟩
 ·intro a eS ih1 ih2 us rs ids hu hr;simp only[wU] at hr;split at hr
  ·rename_i x i xs j hx hxs;simp only[cA,iL] at hr;obtain⟨rfl,rfl⟩:=hr;cases us with
   |nil=>have:=hu.1;simp at this
   |cons u us =>
    obtain⟨k1,bs,k2,k3,k4⟩:=ih2 us xs j ⟨by simpa using hu.1,λj u c hu' hc=>hu.2 (j+1) u c hu' hc⟩ hxs;have k0:=ih1 u x i (hu.2 0 u a rfl rfl) hx;refine⟨by simp[k1],mY L i :: bs,by simp[k2],by rw[flatten_cons,k3,anM],λj v r b hv hr hb=>?_⟩;cases j with
    |zero=>simp at hv hr hb;subst hv hr hb;exact k0
    |succ j=>exact k4 j v r b (by simpa using hv) (by simpa using hr) (by simpa using hb)
  ·cases hr
theorem xR.low{w:World}{B B':Nat}{J:Mem}{u:Value}{r:RV}{bs:List Nat}(h:xR w B J u r bs)(hB:B=B'):xR w B' J u r bs:=hB ▸ h
theorem aec{f:FuncId}{fn:Func}{c:Code}{args:List PV}{Q:RV->Prop}(own:List Nat)(hm:P.follows .mixedOrders=true)(hf:P.funcs[f]? = some fn)(hb:fn.body=some c)
  (hc:gF P f=true) (hn:args.length<=fn.ntmps) (h:cw P fn.ntmps own c (aAy P fn.results.toList Q) (iw args) cq):bt P f args Q:=by
 refine⟨hc,λI w vs hI hv=>calls_of_wp hf hb ?_⟩;let C:Ctx:=Ctx.of w I fn.ntmps;have hlen:vs.length<=fn.ntmps:=by rw[hv.1];exact hn
 have hs:gQ C (iw args) cq I (λ_=>none) (vs.toArray++Array.replicate (fn.ntmps-vs.toArray.size) undef) w :=
  {below:=Below.refl _ _
   mem:=hI
   kX:=Mem.en I
   lY:=λ_ _ _ _=>rfl
   frame:=λ_ _ _=>rfl
   loc:=λ_=>trivial
   jA:=λid l b h=>by cases h
   size:=by simp;show vs.length+(fn.ntmps-vs.length)=fn.ntmps;omega
   env:=λt=>by
    unfold iw;split
    ·rename_i x hx;have ht:t<vs.length:=by rw[hv.1];exact (List.getElem?_eq_some_iff.1 hx).1
     refine .p _ _ (hv.2 t _ x ?_ hx);rw[getElem?_eq_getElem ht];simp[Array.getElem?_append,ht]
    ·exact .dead _
   dom:=λid l h=>by cases h
   chunk:=λid ch h=>by cases h
   fM:=λid l b h=>by cases h
   apart:=λi j li lj b h=>by cases h }
 refine wp_mono (pz hm c _ C rfl _ _ I _ _ w h hs) ?_;rintro e a w' ⟨hd,env',H',I',L',hk,hs'⟩;have fin:(match pE P env' H' fn.results.toList with
  |some a=>(match pZ H' a with
   |some (r,ids)=>ids.Nodup/\∃r',RLe r r'/\Q r'
   |none=>False)
  |none=>False)->bodyPost P fn (λe w'=>∃v r bs I',e = .returned v/\Q r/\xR w' w.heap.size I' v r bs/\bs.Nodup/\(∀b∈bs,w.heap.size<=b/\b<w'.heap.size) /\
   Below w.heap.size w w'/\I.sub I'/\I'.inW w'/\∀b,b<w.heap.size->∀o,I' b o=I b o) .normal a w':=by
  intro hk;split at hk
  ·rename_i av hav;split at hk
   ·rename_i r ids hr;obtain⟨hnd,r',hle,hq⟩:=hk;obtain⟨u,hru,hua⟩:=vJ hs' hav;exact⟨hd,u,hru,u,r',mY L' ids,I',rfl,hq,hle.sound (aAz hs' av u r ids hua hr),ab4 hs' hnd,λb hb=>by
     obtain⟨i,l,_,h2,h3⟩:=abg hb;exact hs'.fM i l b h2 h3,hs'.below,hs'.kX,hs'.mem,λb hb o=>hs'.lY b hb (λh=>h) o⟩
   ·exact hk.elim
  ·exact hk.elim
 cases e with
 |normal=>exact fin hk
 |ret=>exact fin hk
 |exit id=>exact hk.elim
 |goto l=>exact hk.elim
 |panic c=>exact hk.elim
 |outgrown=>exact hk.elim
def aed(eS:List AV):Env:=λt=>match eS[t]? with
 |some a=>a
 |none=>.dead
def aC9(P:Program)(rs:List ResultVar)(Q:AV->Option Chunk->Prop):qB:=λe env H=>match e with
 | .normal | .ret=>(match pE P env H rs with
  |some a=>Q a (H 1000000)
  |none=>False)
 |_=>False
theorem mP{f:FuncId}{fn:Func}{c:Code}{v:Nat}{e:TypeId}{sz:Nat}{es:List (List PV)}{ps:List PV}{Q:AV->Option Chunk->Prop}(own:List Nat)(hm:P.follows .mixedOrders=true)(hf:P.funcs[f]? = some fn)(hb:fn.body=some c)
  (hc:gF P f=true) (hn:ps.length+1<=fn.ntmps) (h:cw P fn.ntmps own c (aC9 P fn.results.toList Q) (aed (.row 1000000 v :: ps.map AV.p)) (bh cq 1000000 (.row v e sz es))):kJ P f v e sz es ps Q:=by
 refine⟨hc,λB I w bI us vs hB hI hr h1 hv=>calls_of_wp hf hb ?_⟩;let C:Ctx:=Ctx.avU w I fn.ntmps B v sz bI hB;let L:bA:=λi=>if i=1000000 then some (.row v bI sz) else none
 have hlen:(bI :: vs).length<=fn.ntmps:=by have:=hv.1;simp only[length_cons];omega
 have hL:∀i l,L i=some l->i=1000000/\l = .row v bI sz:=λi l h=>by
  simp only[L] at h;split at h
  ·rename_i hi;exact⟨hi,by simpa using h.symm⟩
  ·cases h
 have hs:gQ C (aed (.row 1000000 v :: ps.map AV.p)) (bh cq 1000000 (.row v e sz es)) I L ((bI :: vs).toArray++Array.replicate (fn.ntmps-(bI :: vs).toArray.size) undef) w :=
  {below:=Below.refl _ _
   mem:=hI
   kX:=Mem.en I
   lY:=λ_ _ _ _=>rfl
   frame:=λ_ _ _=>rfl
   loc:=dQ.refl _
   jA:=λid l b hl hb=>by obtain⟨_,rfl⟩:=hL id l hl;exact .inr hb
   size:=by simp only[Array.size_append,size_toArray,Array.size_replicate];show (bI :: vs).length+(fn.ntmps-(bI :: vs).length)=fn.ntmps;omega
   env:=λt=>by
    unfold aed;split
    ·rename_i a ha;have htl:t<(bI :: vs).length:=by have:=(List.getElem?_eq_some_iff.1 ha).1;simp only[length_cons,length_map] at this ⊢;rw[hv.1];exact this
     have wh:((bI :: vs).toArray++Array.replicate (fn.ntmps-(bI :: vs).toArray.size) undef).getD t undef=(bI :: vs)[t]:=by simp only[Array.getD_eq_getD_getElem?,Array.getElem?_append,size_toArray,if_pos htl,getElem?_toArray,getElem?_eq_getElem htl,Option.getD_some]
     rw[wh];cases t with
     |zero=>simp at ha;subst ha;exact .row bI 1000000 v v bI sz (by simp[L]) (le_refl _) (λ_=>rfl) h1
     |succ t =>
      simp only[getElem?_cons_succ,getElem?_map] at ha;cases hp:ps[t]? with
      |none=>rw[hp] at ha;cases ha
      |some p =>
       rw[hp] at ha;simp only[map_some,cA] at ha;subst ha;have htv:t<vs.length:=by simpa using htl
       exact .p _ _ (hv.2 t _ p (by simp[htv]) hp)
    ·exact .dead _
   dom:=λid l hl=>by obtain⟨rfl,_⟩:=hL id l hl;exact⟨_,by simp[bh];rfl⟩
   chunk:=λid ch hch=>by
    unfold bh at hch;split at hch
    ·rename_i hi;subst hi;simp only[cA] at hch;subst hch;exact⟨bI,us,by simp[L],hr.own,hr.pos,hr.all,hr.val,hr.one,hr.free⟩
    ·cases hch
   fM:=λid l b hl hb=>by obtain⟨_,rfl⟩:=hL id l hl;exact wg hr.own hb
   apart:=λi j li lj b hi hj _ _=>by
    rw[(hL i li hi).1,(hL j lj hj).1] }
 refine wp_mono (pz hm c _ C rfl _ _ I L _ w h hs) ?_;rintro x a w' ⟨hd,env',H',I',L',hk,hs'⟩;have fin:(match pE P env' H' fn.results.toList with
  |some a=>Q a (H' 1000000)
  |none=>False)->bodyPost P fn (λx w'=>∃u a H' I' L',x = .returned u/\Q a (H' 1000000)/\dR I' L' u a/\gQ (Ctx.avU w I 0 B v sz bI hB) fS H' I' L' #[] w') .normal a w':=by
  intro hk;split at hk
  ·rename_i av hav;obtain⟨u,hru,hua⟩:=vJ hs' hav;refine⟨hd,u,hru,u,av,H',I',L',rfl,hk,hua,?_⟩;exact
   {below:=hs'.below
    mem:=hs'.mem
    kX:=hs'.kX
    lY:=hs'.lY
    frame:=hs'.frame
    loc:=hs'.loc
    jA:=hs'.jA
    size:=rfl
    env:=λt=>.dead _
    dom:=hs'.dom
    chunk:=hs'.chunk
    fM:=hs'.fM
    apart:=hs'.apart }
  ·exact hk.elim
 cases x with
 |normal=>exact fin hk
 |ret=>exact fin hk
 |exit id=>exact hk.elim
 |goto l=>exact hk.elim
 |panic c=>exact hk.elim
 |outgrown=>exact hk.elim
end Go.cv
namespace Go.cv
open Go.RowKit
section
variable{P:Program}{N:Nat}{own:List Nat}{ops:Array Oper}{K:Env->aA->Prop}{env:Env}{H:aA}
def akJ(P:Program)(N:Nat)(own:List Nat)(ops:Array Oper)(r:Option (Prop×AV×aA))(o:Oper)(rest:List Oper)(K:Env->aA->Prop)(env:Env)(H:aA):Prop:=match r with
 |some (pre,v,H')=>pre/\walk P N own ops rest K (cL env o.dst v) H'
 |none=>jF P o (walk P N own ops rest K) env H
def aaN(P:Program)(N:Nat)(own:List Nat)(ops:Array Oper)(g:Option Bool)(o:Oper)(rest:List Oper)(K:Env->aA->Prop)(env:Env)(H:aA):Prop:=match g with
 |some true=>akJ P N own ops (gj P own o (ev env) H) o rest K env H
 |some false=>walk P N own ops rest K (cL env o.dst (.dW [])) H
 |none=>False
theorem av1:walk P N own ops [] K env H=K env H:=rfl
theorem arP(o:Oper)(rest:List Oper):walk P N own ops (o :: rest) K env H=(uO N o.dst/\aaN P N own ops (lE ops o env) o rest K env H):=by rw[walk];unfold aaN akJ;congr 1
theorem anO(o:Oper)(rest:List Oper):aaN P N own ops (some true) o rest K env H=akJ P N own ops (gj P own o (ev env) H) o rest K env H:=rfl
theorem akK(o:Oper)(rest:List Oper):aaN P N own ops (some false) o rest K env H=walk P N own ops rest K (cL env o.dst (.dW [])) H:=rfl
theorem anP(pre:Prop)(v:AV)(H':aA)(o:Oper)(rest:List Oper):akJ P N own ops (some (pre,v,H')) o rest K env H=(pre/\walk P N own ops rest K (cL env o.dst v) H'):=rfl
theorem anQ(o:Oper)(rest:List Oper):akJ P N own ops none o rest K env H=jF P o (walk P N own ops rest K) env H:=rfl
theorem anR(d:Nat):uO N (some d)=(d<N):=rfl
theorem anS:uO N none=True:=rfl
theorem arQ(d:Nat)(v:AV):cL env (some d) v=cE env d v:=rfl
theorem arR(v:AV):cL env none v=env:=rfl
theorem akL(d:Option Tmp)(op:Op)(t:TypeId)(pos:String)(a:Array Edge):lE ops ⟨d,op,t,pos,a,none⟩ env=some true:=rfl
def adi(v:AV)(want:Bool):Option Bool:=match v with
 | .p (.val (.bool b))=>some (b == want)
 | .dW []=>some false
 |_=>none
def anT(d:Option Tmp)(want:Bool)(env:Env):Option Bool:=match d with
 |some d=>adi (env d) want
 |none=>none
theorem akM(d:Option Tmp)(op:Op)(t:TypeId)(pos:String)(a:Array Edge)(j:Nat)(want:Bool):lE ops ⟨d,op,t,pos,a,some (j,want)⟩ env=anT ((ops[j]?).bind (·.dst)) want env:=by unfold lE anT adi;rfl
theorem akN(d:Tmp)(want:Bool):anT (some d) want env=adi (env d) want:=rfl
theorem anU(want:Bool):adi (.dW []) want=some false:=rfl
theorem av2(b:Bool):adi (.p (.val (.bool b))) true=some b:=by cases b<;>rfl
theorem av3(b:Bool):adi (.p (.val (.bool b))) false=some (!b):=by cases b<;>rfl
def up3(r:Option (Prop×AV))(H:aA):Option (Prop×AV×aA):=match r with
 |some (pre,v)=>some (pre,v,H)
 |none=>none
theorem av4(pre:Prop)(v:AV):up3 (some (pre,v)) H=some (pre,v,H):=rfl
theorem av5:up3 none H=none:=rfl
variable(d:Option Tmp)(ty:TypeId)(pos:String)(af:Array Edge)(g:Option (Nat×Bool))(ρ:Operand->AV)
theorem arS(own:List Nat)(op:Op)(k:Tmp):gj P own ⟨some k,op,ty,pos,af,g⟩ ρ H=if own.contains k=true then orE (exN P ⟨some k,op,ty,pos,af,g⟩ ρ H k) (isApp op) (gC P ⟨some k,op,ty,pos,af,g⟩ ρ H) else gC P ⟨some k,op,ty,pos,af,g⟩ ρ H:=rfl
theorem anV(own:List Nat)(op:Op):gj P own ⟨none,op,ty,pos,af,g⟩ ρ H=gC P ⟨none,op,ty,pos,af,g⟩ ρ H:=rfl
theorem av6(x:Operand):gC P ⟨d,.move x,ty,pos,af,g⟩ ρ H=some (True,ρ x,H):=rfl
theorem anW(x:Operand):gC P ⟨d,.assign x,ty,pos,af,g⟩ ρ H=some (True,ρ x,H):=rfl
theorem av7(c a b:Operand):gC P ⟨d,.pick c a b,ty,pos,af,g⟩ ρ H=up3 (ahB (ρ c) (ρ a) (ρ b)) H:=by simp only[gC,oc,rL,mO,xG,yw,wK,xH,up3];try (cases ahB (ρ c) (ρ a) (ρ b)<;>rfl)
theorem akO(x:Operand)(k:Nat):gC P ⟨d,.extract x k,ty,pos,af,g⟩ ρ H=up3 (uL (ρ x) k) H:=by simp only[gC,oc,rL,mO,xG,yw,wK,xH,up3];try (cases uL (ρ x) k<;>rfl)
theorem arT(op:BinOp)(t u:TypeId)(x y:Operand):gC P ⟨d,.binOp op t x y u,ty,pos,af,g⟩ ρ H=up3 (mM P op t (ρ x) (ρ y)) H:=by simp only[gC,oc,rL,mO,xG,yw,wK,xH,up3];try (cases mM P op t (ρ x) (ρ y)<;>rfl)
theorem av8(op:UnOp)(t:TypeId)(x:Operand):gC P ⟨d,.unOp op t x,ty,pos,af,g⟩ ρ H=up3 (unX op (ρ x)) H:=by simp only[gC,oc,rL,mO,xG,yw,wK,xH,up3];try (cases unX op (ρ x)<;>rfl)
theorem akP(s e:TypeId)(x:Operand):gC P ⟨d,.convert s e x,ty,pos,af,g⟩ ρ H=up3 (ae7 P s e (ρ x)) H:=by simp only[gC,oc,rL,mO,xG,yw,wK,xH,up3];try (cases ae7 P s e (ρ x)<;>rfl)
theorem ajm(fn:Fn)(f c:Array Operand):gC P ⟨d,.makeFunc fn f c,ty,pos,af,g⟩ ρ H=some (True,akx fn (f.toList.map ρ) (c.toList.map ρ),H):=rfl
theorem arU(t:TypeId)(ps:Array (Nat×Operand)):gC P ⟨d,.build t ps,ty,pos,af,g⟩ ρ H=up3 (ac7 P t (ps.toList.map λx=>(x.1,ρ x.2))) H:=by simp only[gC,oc,rL,mO,xG,yw,wK,xH,up3];try (cases ac7 P t (ps.toList.map λx=>(x.1,ρ x.2))<;>rfl)
theorem arV(t:TypeId)(x i:Operand):gC P ⟨d,.index t x i,ty,pos,af,g⟩ ρ H=up3 (anA P t (ρ x) (ρ i)) H:=by simp only[gC,oc,rL,mO,xG,yw,wK,xH,up3];try (cases anA P t (ρ x) (ρ i)<;>rfl)
theorem arW(t:TypeId)(x:Operand)(lo hi mx:Option Operand):gC P ⟨d,.slice t x lo hi mx,ty,pos,af,g⟩ ρ H=up3 (sY P t (ρ x) (lo.map ρ) (hi.map ρ) (mx.map ρ)) H:=by simp only[gC,oc,rL,mO,xG,yw,wK,xH,up3];try (cases sY P t (ρ x) (lo.map ρ) (hi.map ρ) (mx.map ρ)<;>rfl)
theorem ajn(x:Operand):gC P ⟨d,.nilCheck x,ty,pos,af,g⟩ ρ H=up3 (arC (ρ x)) H:=by simp only[gC,oc,rL,mO,xG,yw,wK,xH,up3];try (cases arC (ρ x)<;>rfl)
def afn(P:Program)(t:TypeId)(a:AV)(H:aA):Option (Prop×AV×aA):=match a with
 | .p (.ee cs off)=>(match sH P t cs off with|some x=>some (True,.p x,H)|none=>none)
 | .ptr id off => (match H id with
   |some (.box cs)=>match sG P t cs off with|some v=>some (True,v,H)|none=>none
   |_=>none)
 | .jo id bf i off => (match rowOf H id bf with
   |some es=>match sH P t (es.getD i []) off with|some x=>some (i<es.length/\0<(es.getD i []).length,.p x,H)|none=>none
   |none=>none)
 | .kH id bf i off => (match cO H id bf with
   |some (k,es)=>match sG P t (aba id bf i k (es.getD i [])) off with|some v=>some (i<es.length,v,H)|none=>none
   |none=>none)
 | .nv id bf i j off => (match nw (cO H id bf) i with
   |some l=>match sH P t (l.getD j []) off with|some x=>some (j<l.length,.p x,H)|none=>none
   |none=>none)
 |_=>none
theorem av9(t:TypeId)(a:Operand):gC P ⟨d,.load t a,ty,pos,af,g⟩ ρ H=afn P t (ρ a) H:=by
  simp only[gC,oc,rL,mO,xG,yw,wK,xH,aqG,afn];generalize ρ a=v;cases v with
  | p x => cases x <;> simp only []
           case ee cs off=>cases sH P t cs off<;>rfl
  |ptr id off =>
    simp only[];cases H id with
    |none=>rfl
    |some c=>cases c with
      |box cs=>simp only[];cases sG P t cs off<;>rfl
      |_=>rfl
  |jo id bf i off =>
    simp only[];cases rowOf H id bf with
    |none=>rfl
    |some es=>simp only[];cases sH P t (es.getD i []) off<;>rfl
  |kH id bf i off =>
    simp only[];cases cO H id bf with
    |none=>rfl
    |some r=>obtain⟨k,es⟩:=r;simp only[];cases sG P t (aba id bf i k (es.getD i [])) off<;>rfl
  |nv id bf i j off =>
    simp only[];cases nw (cO H id bf) i with
    |none=>rfl
    |some l=>simp only[];cases sH P t (l.getD j []) off<;>rfl
  |_=>rfl
def adj(P:Program)(f:Option (Nat×Nat))(a:AV)(H:aA):Option (Prop×AV×aA):=match f with
 |some (o,n)=>(match a with
  | .p (.ee cs off)=>some (n≠0,.p (.ee cs (off+o)),H)
  | .ptr id off=>some (n≠0,.ptr id (off+o),H)
  | .jo id bf i off=>(match rowOf H id bf with
   |some _=>some (n≠0,.jo id bf i (off+o),H)
   |none=>none)
  | .kH id bf i off=>(match cO H id bf with
   |some _=>some (n≠0,.kH id bf i (off+o),H)
   |none=>none)
  |_=>none)
 |none=>none
theorem ag1(s:TypeId)(a:Operand)(k:Nat):gC P ⟨d,.fieldAddr s a k,ty,pos,af,g⟩ ρ H=adj P (bP P s k) (ρ a) H:=by
 simp only[gC,oc,rL,mO,xG,yw,wK,xH,ai5,adj];generalize ρ a=v;cases bP P s k with
 |none=>cases v<;>rfl
 |some x =>
  obtain⟨o,n⟩:=x;cases v with
  |p x=>cases x<;>rfl
  |jo id bf i off=>simp only[];cases rowOf H id bf<;>rfl
  |kH id bf i off=>simp only[];cases cO H id bf<;>rfl
  |_=>rfl
def o6(P:Program)(t:TypeId)(x i:AV)(H:aA):Option (Prop×AV×aA):=match x with
 | .row id bf=>(match i with
  | .p (.val (.int _ n))=>(match rowOf H id bf,cG P t with
   |some es,some e=>(match bl P e with
    |some sz=>some ((0<=n/\n<es.length)/\(es.getD n.toNat []).length=sz/\0<sz,.jo id bf n.toNat 0,H)
    |none=>none)
   |_,_=>none)
  |_=>none)
 | .eP id bf=>(match i with
  | .p (.val (.int _ n))=>(match cO H id bf,cG P t with
   |some (_,es),some e=>(match bl P e with
    |some sz=>some ((0<=n/\n<es.length)/\(es.getD n.toNat []).length=sz,.kH id bf n.toNat 0,H)
    |none=>none)
   |_,_=>none)
  |_=>none)
 | .kI id bf ii=>(match i with
  | .p (.val (.int _ n))=>(match nw (cO H id bf) ii,cG P t with
   |some l,some e=>(match bl P e with
    |some sz=>some ((0<=n/\n<l.length)/\(l.getD n.toNat []).length=sz,.nv id bf ii n.toNat 0,H)
    |none=>none)
   |_,_=>none)
  |_=>none)
 | .iM id bf off m _ _=>(match i with
  | .p (.val (.int _ n))=>(match ac9 H id bf,cG P t with
   |some (sz,es),some e=>(match bl P e with
    |some sz'=>some ((0<=n/\n<m/\off+m<=es.length)/\sz'=sz,.jo id bf (off+n.toNat) 0,H)
    |none=>none)
   |_,_=>none)
  |_=>none)
 |x=>up3 (o4 P t x i) H
theorem ag2(t:TypeId)(x i:Operand):gC P ⟨d,.indexAddr t x i,ty,pos,af,g⟩ ρ H=o6 P t (ρ x) (ρ i) H:=by
 simp only[gC,oc,rL,mO,xG,yw,wK,xH,o6];generalize ρ x=v;generalize ρ i=u;cases v with
 |row id bf =>
  have:o4 P t (.row id bf) u=none:=by
   unfold o4;cases u with
   |p y=>cases y with
    |val z=>cases z<;>rfl
    |_=>rfl
   |_=>rfl
  rw[this];simp only[];cases u with
  |p y=>cases y with
   |val z=>cases z with
    |int k n =>
     simp only[];cases rowOf H id bf<;>cases cG P t<;>simp only[]
     rename_i es e;cases bl P e<;>rfl
    |_=>rfl
   |_=>rfl
  |_=>rfl
 |eP id bf =>
  have:o4 P t (.eP id bf) u=none:=by
   unfold o4;cases u with
   |p y=>cases y with
    |val z=>cases z<;>rfl
    |_=>rfl
   |_=>rfl
  rw[this];simp only[];cases u with
  |p y=>cases y with
   |val z=>cases z with
    |int k n =>
     simp only[];cases cO H id bf<;>cases cG P t<;>simp only[]
     rename_i r e;obtain⟨_,es⟩:=r;simp only[];all_goals(cases bl P e<;>rfl)
    |_=>rfl
   |_=>rfl
  |_=>rfl
 |kI id bf ii =>
  have:o4 P t (.kI id bf ii) u=none:=by
   unfold o4;cases u with
   |p y=>cases y with
    |val z=>cases z<;>rfl
    |_=>rfl
   |_=>rfl
  rw[this];simp only[];cases u with
  |p y=>cases y with
   |val z=>cases z with
    |int k n =>
     simp only[];cases nw (cO H id bf) ii<;>cases cG P t<;>simp only[]
     rename_i l e;cases bl P e<;>rfl
    |_=>rfl
   |_=>rfl
  |_=>rfl
 |iM id bf off m m' z =>
  have:o4 P t (.iM id bf off m m' z) u=none:=by
   unfold o4;cases u with
   |p y=>cases y with
    |val z=>cases z<;>rfl
    |_=>rfl
   |_=>rfl
  rw[this];simp only[];cases u with
  |p y=>cases y with
   |val z=>cases z with
    |int k n =>
     simp only[];cases ac9 H id bf<;>cases cG P t<;>simp only[]
     rename_i r e;obtain⟨sz,es⟩:=r;simp only[];all_goals(cases bl P e<;>rfl)
    |_=>rfl
   |_=>rfl
  |_=>rfl
 |_=>simp only[];generalize o4 P t _ u=r;cases r<;>rfl
theorem arX(t:TypeId)(a x:Operand):gC P ⟨d,.store t a x,ty,pos,af,g⟩ ρ H=wK P ⟨d,.store t a x,ty,pos,af,g⟩ ρ H:=by simp only[gC,oc,rL,mO,xG,yw,xH];split<;>simp_all
theorem arY(t:TypeId):gC P ⟨d,.alloc t,ty,pos,af,g⟩ ρ H=wK P ⟨d,.alloc t,ty,pos,af,g⟩ ρ H:=by simp only[gC,oc,rL,mO,xG,yw,xH];split<;>simp_all
theorem aAA(t:TypeId)(x:Operand):gC P ⟨d,.box t x,ty,pos,af,g⟩ ρ H=wK P ⟨d,.box t x,ty,pos,af,g⟩ ρ H:=by simp only[gC,oc,rL,mO,xG,yw,xH];split<;>simp_all
theorem afo(f:Operand)(args:Array Operand)(ts:Array TypeId):gC P ⟨d,.call ⟨.value f,args,ts⟩,ty,pos,af,g⟩ ρ H=none:=rfl
def aeC(P:Program)(t:TypeId)(a:AV)(H:aA):Option (Prop×AV×aA):=match a with
 | .row id bf=>(match rowOf H id bf with
  |some es=>up3 (rq P t (.p (.aU es))) H
  |none=>none)
 | .eP id bf=>(match cO H id bf with
  |some (_,es)=>up3 (rq P t (.p (.aU es))) H
  |none=>none)
 | .kI id bf i=>(match nw (cO H id bf) i with
  |some l=>up3 (rq P t (.p (.aU l))) H
  |none=>none)
 |a=>up3 (rq P t a) H
theorem sv(t:TypeId)(a:Operand):gC P ⟨d,.call ⟨.builtin .len,#[a],#[t]⟩,ty,pos,af,g⟩ ρ H=aeC P t (ρ a) H:=by
 simp only[gC,oc,rL,mO,xG,yw,wK,xH,aeC,sI,map_cons,map_nil];generalize ρ a=v;cases v with
 |row id bf =>
  have:rq P t (.row id bf)=none:=rfl;rw[this];simp only[];cases rowOf H id bf with
  |none=>rfl
  |some es=>simp only[];generalize rq P t _=r;cases r<;>rfl
 |eP id bf =>
  have:rq P t (.eP id bf)=none:=rfl;rw[this];simp only[];cases cO H id bf with
  |none=>rfl
  |some r=>obtain⟨_,es⟩:=r;simp only[];generalize rq P t _=r;cases r<;>rfl
 |kI id bf i =>
  have:rq P t (.kI id bf i)=none:=rfl;rw[this];simp only[];cases nw (cO H id bf) i with
  |none=>rfl
  |some l=>simp only[];generalize rq P t _=r;cases r<;>rfl
 |_=>simp only[];generalize rq P t _=r;cases r<;>rfl
def aeD(P:Program)(t1 t2:TypeId)(a b:AV)(H:aA):Option (Prop×AV×aA):=match ac8 P t1 t2 a b with
 |some (pre,v)=>some (pre,v,H)
 |none=>abY P t1 t2 a b H
theorem afp(t1 t2:TypeId)(a b:Operand):gC P ⟨d,.call ⟨.builtin .append,#[a,b],#[t1,t2]⟩,ty,pos,af,g⟩ ρ H=aeD P t1 t2 (ρ a) (ρ b) H:=by
 simp only[gC,oc,rL,mO,xG,yw,wK,xH,aeD,sI,map_cons,map_nil];cases ac8 P t1 t2 (ρ a) (ρ b) with
 |some r=>rfl
 |none=>simp only[];cases abY P t1 t2 (ρ a) (ρ b) H<;>rfl
def ajo(P:Program)(t:TypeId)(n:Nat)(parts:List (Nat×AV))(H:aA):Option (Prop×AV×aA):=match lT P t n parts with
 |some (_,es)=>(match n with
  |0=>some (True,.p .emp,H)
  |_=>some (True,.p (.aU es),H))
 |none=>match lT P t n (parts.map λx=>(x.1,yx (eD (o5 parts) H) x.2)) with
  |some (_,es)=>some (True,.p (.aU es),eD (o5 parts) H)
  |none=>none
theorem afq(t:TypeId)(n:Nat)(ps:Array (Nat×Operand)):gC P ⟨d,.buildSlice t n ps,ty,pos,af,g⟩ ρ H=ajo P t n (ps.toList.map λx=>(x.1,ρ x.2)) H:=by
 simp only[gC,oc,rL,mO,xG,yw,wK,xH,ajo];cases lT P t n (ps.toList.map λx=>(x.1,ρ x.2)) with
 |some r=>obtain⟨e,es⟩:=r;cases n<;>rfl
 |none=>rfl
end
section
variable{P:Program}{N:Nat}{own:List Nat}{K:qB}{env:Env}{H:aA}
def aAB(P:Program)(N:Nat)(own:List Nat)(b:Code)(K:qB):qB:=λx e' H'=>match x with
 | .normal=>cw P N own b K e' H'
 |x=>K x e' H'
def ajp(id:Nat)(K:qB):qB:=λx e' H'=>match x with
 | .exit id'=>if id'=id then K .normal e' H' else K (.exit id') e' H'
 |x=>K x e' H'
def ab5(P:Program)(N:Nat)(own:List Nat)(v:AV)(a b:Code)(K:qB)(env:Env)(H:aA):Prop:=wT (cw P N own a K env H) (cw P N own b K env H) v
def aaO(P:Program)(N:Nat)(own:List Nat)(c:Code)(K:qB)(env:Env)(H:aA):Prop:=akH (cw P N own c) K env H
theorem aAC:cw P N own .skip K env H=K .normal env H:=rfl
theorem arZ(id:Nat)(l:List Oper):cw P N own (.region id l.toArray false) K env H=walk P N own l.toArray l (K .normal) env H:=rfl
theorem aAD(id:Nat)(l:List Oper):cw P N own (.region id l.toArray true) K env H=vI P N own l.toArray (K .normal) env H:=rfl
theorem aDa(a b:Code):cw P N own (.seq a b) K env H=cw P N own a (aAB P N own b K) env H:=rfl
theorem aAE(c:Operand)(a b:Code):cw P N own (.cond c a b) K env H=ab5 P N own (ev env c) a b K env H:=rfl
theorem awa(id:Nat)(c:Code):cw P N own (.block id c) K env H=cw P N own c (ajp id K) env H:=rfl
theorem aAF(c:Code):cw P N own (.loop c) K env H=aaO P N own c K env H:=rfl
theorem aAG(id:Nat):cw P N own (.exit id) K env H=K (.exit id) env H:=rfl
theorem aDb:cw P N own .ret K env H=K .ret env H:=rfl
theorem akQ(b:Code):aAB P N own b K .normal env H=cw P N own b K env H:=rfl
theorem ar0(b:Code)(id:Nat):aAB P N own b K (.exit id) env H=K (.exit id) env H:=rfl
theorem awb(b:Code):aAB P N own b K .ret env H=K .ret env H:=rfl
theorem ag3(id:Nat):ajp id K .normal env H=K .normal env H:=rfl
theorem akR(id id':Nat):ajp id K (.exit id') env H=if id'=id then K .normal env H else K (.exit id') env H:=rfl
theorem anX(id:Nat):ajp id K .ret env H=K .ret env H:=rfl
theorem anY(a b:Code):ab5 P N own (.p (.val (.bool true))) a b K env H=cw P N own a K env H:=by simp[ab5,wT]
theorem akS(a b:Code):ab5 P N own (.p (.val (.bool false))) a b K env H=cw P N own b K env H:=by simp[ab5,wT]
theorem aL{b:Bool}{x y:Code}(h1:b=true->cw P N own x K env H)(h2:b=false->cw P N own y K env H):ab5 P N own (.p (.val (.bool b))) x y K env H:=⟨h1,h2⟩
def aEc(r:Option PV)(Q:PV->Prop):Prop:=match r with
 |some r=>Q r
 |none=>False
theorem awc(rs:List ResultVar)(Q:PV->Prop):aAx P rs Q .ret env H=aEc (av0 P env H rs) Q:=rfl
theorem ar1(r:PV)(Q:PV->Prop):aEc (some r) Q=Q r:=rfl
theorem aDc(t:Tmp):ev env (.tmp t)=env t:=rfl
theorem aDd(k:IntKind)(n:Int):ev env (.const (.int k n)) = .p (.val (.int k n)):=rfl
theorem aAH(b:Bool):ev env (.const (.bool b)) = .p (.val (.bool b)):=rfl
theorem ar2(b:ByteArray):ev env (.const (.string b)) = .p (.val (.string b)):=rfl
theorem awd(a:Option Addr)(n c:Nat):ev env (.const (.slice a n c)) = .p (.val (.slice a n c)):=rfl
theorem aAI(f:FuncId):ev env (.func f) = .p (.iK (.func f) [] []):=rfl
theorem awe:iw []=fS:=by funext t;simp[iw,fS]
theorem awf(a:PV):iw [a]=cE fS 0 (.p a):=by funext t;unfold iw cE fS;rcases t with _|t<;>simp
theorem awg(a b:PV):iw [a,b]=cE (cE fS 0 (.p a)) 1 (.p b):=by funext t;unfold iw cE fS;rcases t with _|_|t<;>simp
theorem awh(a b c:PV):iw [a,b,c]=cE (cE (cE fS 0 (.p a)) 1 (.p b)) 2 (.p c):=by funext t;unfold iw cE fS;rcases t with _|_|_|t<;>simp
theorem awi(a b c d:PV):iw [a,b,c,d]=cE (cE (cE (cE fS 0 (.p a)) 1 (.p b)) 2 (.p c)) 3 (.p d):=by funext t;unfold iw cE fS;rcases t with _|_|_|_|t<;>simp
theorem awj(a b c d e:PV):iw [a,b,c,d,e]=cE (cE (cE (cE (cE fS 0 (.p a)) 1 (.p b)) 2 (.p c)) 3 (.p d)) 4 (.p e):=by funext t;unfold iw cE fS;rcases t with _|_|_|_|_|t<;>simp
end
section
variable{P:Program}{t:TypeId}{k:IntKind}{a b:Int}
theorem awk:mM P .add t (.p (.val (.int k a))) (.p (.val (.int k b)))=some (True,.p (.val (.int k (k.wrap (a+b))))):=by simp[mM,yO]
theorem awl:mM P .sub t (.p (.val (.int k a))) (.p (.val (.int k b)))=some (True,.p (.val (.int k (k.wrap (a-b))))):=by simp[mM,yO]
theorem awm:mM P .mul t (.p (.val (.int k a))) (.p (.val (.int k b)))=some (True,.p (.val (.int k (k.wrap (a * b))))):=by simp[mM,yO]
theorem awn:mM P .quo t (.p (.val (.int k a))) (.p (.val (.int k b)))=some (b≠0,.p (.val (.int k (k.wrap (a.tdiv b))))):=by simp[mM,yO]
theorem awo:mM P .rem t (.p (.val (.int k a))) (.p (.val (.int k b)))=some (b≠0,.p (.val (.int k (a.tmod b)))):=by simp[mM,yO]
theorem awp:mM P .eql t (.p (.val (.int k a))) (.p (.val (.int k b)))=some (True,.p (.val (.bool (decide (a=b))))):=by simp[mM,yO]
theorem awq:mM P .neq t (.p (.val (.int k a))) (.p (.val (.int k b)))=some (True,.p (.val (.bool (!decide (a=b))))):=by simp[mM,yO]
theorem awr:mM P .lss t (.p (.val (.int k a))) (.p (.val (.int k b)))=some (True,.p (.val (.bool (decide (a<b))))):=by simp[mM,yO]
theorem aws:mM P .leq t (.p (.val (.int k a))) (.p (.val (.int k b)))=some (True,.p (.val (.bool (decide (a<=b))))):=by simp[mM,yO]
theorem awt:mM P .gtr t (.p (.val (.int k a))) (.p (.val (.int k b)))=some (True,.p (.val (.bool (decide (b<a))))):=by simp[mM,yO]
theorem awu:mM P .geq t (.p (.val (.int k a))) (.p (.val (.int k b)))=some (True,.p (.val (.bool (decide (b<=a))))):=by simp[mM,yO]
theorem awv{k':IntKind} : mM P .shr t (.p (.val (.int k a))) (.p (.val (.int k' b)))=some (0<=b,.p (.val (.int k (a.fdiv (2 ^ (min b.toNat k.bits)))))):=by simp[mM,yO]
theorem ar3{x y:ByteArray} : mM P .eql t (.p (.val (.string x))) (.p (.val (.string y)))=some (True,.p (.val (.bool (decide (x=y))))):=by simp[mM,yO]
theorem aww{es:List (List PV)}(h:isSlice P t=true):mM P .eql t (.p (.aU es)) (.p (.val (.slice none 0 0)))=some (es≠[],.p (.val (.bool false))):=by simp[mM,h]
theorem ar4{ao:Option Addr}{n c:Nat}(h:isSlice P t=true):mM P .eql t (.p (.val (.slice ao n c))) (.p (.val (.slice none 0 0)))=some (True,.p (.val (.bool ao.isNone))):=by
 unfold isSlice at h;unfold mM yO;split at h
 ·rename_i e he;simp[he]
 ·cases h
def aHB(P:Program)(t:TypeId):Bool:=match P.underlying t with
 |some .bool=>true
 |_=>false
def eqX(op:BinOp)(r:Option Bool):Option (Prop×AV):=match op,r with
 | .eql,some b=>some (True,.p (.val (.bool b)))
 | .neq,some b=>some (True,.p (.val (.bool !b)))
 |_,_=>none
theorem aAJ(b:Bool):eqX .eql (some b)=some (True,.p (.val (.bool b))):=rfl
theorem aAK(b:Bool):eqX .neq (some b)=some (True,.p (.val (.bool !b))):=rfl
theorem awx{op:BinOp}{cs ds:List PV}{ks:List BK}(h:vD P t=some ks):mM P op t (.p (.agg cs)) (.p (.agg ds))=eqX op (eqK ks cs ds):=by unfold mM eqX;simp only[h];try rfl
theorem aAL:eqK [] [] []=some true:=rfl
def akT(b:Bool)(r:Option Bool):Option Bool:=match r with
 |some r=>some (b&&r)
 |none=>none
theorem anZ(a b:Bool):akT a (some b)=some (a&&b):=rfl
theorem aEd(ks:List BK)(k:IntKind)(a b:Int)(cs ds:List PV):eqK (.i :: ks) (.val (.int k a) :: cs) (.val (.int k b) :: ds)=akT (decide (a=b)) (eqK ks cs ds):=by simp only[eqK,if_true,akT];all_goals(cases eqK ks cs ds<;>rfl)
theorem aEe(ks:List BK)(a b:Bool)(cs ds:List PV):eqK (.b :: ks) (.val (.bool a) :: cs) (.val (.bool b) :: ds)=akT (a == b) (eqK ks cs ds):=by simp only[eqK,akT];all_goals(cases eqK ks cs ds<;>rfl)
theorem aAM{x:Bool} : unX .not (.p (.val (.bool x)))=some (True,.p (.val (.bool !x))):=rfl
theorem an0{x y:AV} : ahB (.p (.val (.bool true))) x y=some (True,x):=rfl
theorem akU{x y:AV} : ahB (.p (.val (.bool false))) x y=some (True,y):=rfl
theorem an1(vs:List PV)(n:Nat):uL (.p (.dW vs)) n=(match vs[n]? with|some x=>some (True,.p x)|none=>none):=rfl
theorem an2(vs:List AV)(n:Nat):uL (.dW vs) n=(match vs[n]? with|some x=>some (True,x)|none=>none):=rfl
theorem an3(H:aA)(cs:List PV)(off:Nat):afn P t (.p (.ee cs off)) H=(match sH P t cs off with|some x=>some (True,.p x,H)|none=>none):=rfl
def aqO(P:Program)(t:TypeId)(c:Option Chunk)(off:Nat)(H:aA):Option (Prop×AV×aA):=match c with
 |some (.box cs)=>(match sG P t cs off with|some v=>some (True,v,H)|none=>none)
 |_=>none
theorem ar5(H:aA)(id off:Nat):afn P t (.ptr id off) H=aqO P t (H id) off H:=rfl
theorem akV(H:aA)(cs:List AV)(off:Nat):aqO P t (some (.box cs)) off H=(match sG P t cs off with|some v=>some (True,v,H)|none=>none):=rfl
theorem an4(H:aA)(id bf i off:Nat):afn P t (.jo id bf i off) H=(match rowOf H id bf with
   |some es=>(match sH P t (es.getD i []) off with|some x=>some (i<es.length/\0<(es.getD i []).length,.p x,H)|none=>none)
   |none=>none):=rfl
def rdA(g:Option Bool)(n:Option Nat)(cs:List AV)(off:Nat):Option AV:=match g with
 |some true=>(match n with
  |some n=>if off+n<=cs.length then some (yu ((cs.drop off).take n)) else none
  |none=>none)
 |some false=>cs[off]?
 |none=>none
def rdP(g:Option Bool)(n:Option Nat)(cs:List PV)(off:Nat):Option PV:=match g with
 |some true=>(match n with
  |some n=>if off+n<=cs.length then some (.agg ((cs.drop off).take n)) else none
  |none=>none)
 |some false=>cs[off]?
 |none=>none
theorem awy{cs:List AV}{off:Nat} : sG P t cs off=rdA (fT P t) (bl P t) cs off:=rfl
theorem awz{cs:List PV}{off:Nat} : sH P t cs off=rdP (fT P t) (bl P t) cs off:=rfl
theorem aAN{cs:List AV}{off:Nat}{n:Option Nat} : rdA (some false) n cs off=cs[off]?:=rfl
theorem aAO{cs:List PV}{off:Nat}{n:Option Nat} : rdP (some false) n cs off=cs[off]?:=rfl
theorem aAP{cs:List AV}{off n:Nat} : rdA (some true) (some n) cs off=if off+n<=cs.length then some (yu ((cs.drop off).take n)) else none:=rfl
theorem aAQ{cs:List PV}{off n:Nat} : rdP (some true) (some n) cs off=if off+n<=cs.length then some (.agg ((cs.drop off).take n)) else none:=rfl
theorem akW(H:aA)(o n:Nat)(cs:List PV)(off:Nat):adj P (some (o,n)) (.p (.ee cs off)) H=some (n≠0,.p (.ee cs (off+o)),H):=rfl
theorem an5(H:aA)(o n:Nat)(id off:Nat):adj P (some (o,n)) (.ptr id off) H=some (n≠0,.ptr id (off+o),H):=rfl
theorem akX(H:aA)(o n:Nat)(id bf i off:Nat):adj P (some (o,n)) (.jo id bf i off) H=(match rowOf H id bf with
   |some _=>some (n≠0,.jo id bf i (off+o),H)
   |none=>none):=rfl
def aDe(e:Option TypeId)(sz:TypeId->Option Nat)(es:List (List PV))(a:Int)(H:aA):Option (Prop×AV×aA):=match e with
 |some e=>(match sz e with
  |some sz=>some ((0<=a/\a<es.length)/\(es.getD a.toNat []).length=sz/\0<sz,.p (.ee (es.getD a.toNat []) 0),H)
  |none=>none)
 |none=>none
theorem an6{H:aA}{es:List (List PV)} : o6 P t (.p (.aU es)) (.p (.val (.int k a))) H=aDe (cG P t) (bl P) es a H:=by
 unfold o6 o4 aDe up3;cases cG P t with
 |none=>rfl
 |some e=>simp only[];cases bl P e<;>rfl
theorem ar6{e:TypeId}{f:TypeId->Option Nat}{es:List (List PV)}{H:aA} : aDe (some e) f es a H=(match f e with
  |some sz=>some ((0<=a/\a<es.length)/\(es.getD a.toNat []).length=sz/\0<sz,.p (.ee (es.getD a.toNat []) 0),H)
  |none=>none):=rfl
def aDf(r:Option (List (List PV)))(e:Option TypeId)(sz:TypeId->Option Nat)(id bf:Nat)(a:Int)(H:aA):Option (Prop×AV×aA):=match r,e with
 |some es,some e=>(match sz e with
  |some sz=>some ((0<=a/\a<es.length)/\(es.getD a.toNat []).length=sz/\0<sz,.jo id bf a.toNat 0,H)
  |none=>none)
 |_,_=>none
theorem an7{H:aA}{id bf:Nat} : o6 P t (.row id bf) (.p (.val (.int k a))) H=aDf (rowOf H id bf) (cG P t) (bl P) id bf a H:=by unfold o6 aDf;rfl
theorem ar7{es:List (List PV)}{e:TypeId}{f:TypeId->Option Nat}{id bf:Nat}{H:aA} : aDf (some es) (some e) f id bf a H=(match f e with
  |some sz=>some ((0<=a/\a<es.length)/\(es.getD a.toNat []).length=sz/\0<sz,.jo id bf a.toNat 0,H)
  |none=>none):=rfl
theorem awA(H:aA)(id bf:Nat):rowOf H id bf=(match H id with
 |some (.row v _ _ es)=>if v=bf then some es else none
 |some (.shut v es)=>if v=bf then some es else none
 |some (.tail v _ _ es)=>if v=bf then some es else none
 |_=>none):=rfl
theorem awB{H:aA}{es:List (List PV)}(h:isSlice P t=true):aeC P t (.p (.aU es)) H=some (True,.p (.val (.int .i64 es.length)),H):=by simp[aeC,rq,h,up3]
theorem awC{H:aA}{s:ByteArray}(h:yT P t=true):aeC P t (.p (.val (.string s))) H=some (True,.p (.val (.int .i64 s.size)),H):=by simp[aeC,rq,h,up3]
theorem awD{H:aA}{id bf:Nat}(h:isSlice P t=true):aeC P t (.row id bf) H=(match rowOf H id bf with
  |some es=>some (True,.p (.val (.int .i64 es.length)),H)
  |none=>none):=by
 simp only[aeC,rq,h];all_goals(cases rowOf H id bf<;>rfl)
theorem awE{s:ByteArray}(h:yT P t=true):anA P t (.p (.val (.string s))) (.p (.val (.int k a)))=some (0<=a/\a<s.size,.p (.val (.int .u8 (lJ s a.toNat)))):=by simp[anA,h]
def cvI(b:Bool)(d:Option IntKind)(a:Int):Option (Prop×AV):=match b,d with
 |true,some k=>some (True,.p (.val (.int k (k.wrap a))))
 |_,_=>none
theorem ar8{s:TypeId} : ae7 P s t (.p (.val (.int k a)))=cvI (P.underlying s).isSome (ahz P t) a:=by unfold ae7 cvI;cases (P.underlying s).isSome<;>cases ahz P t<;>rfl
theorem awF{k:IntKind} : cvI true (some k) a=some (True,.p (.val (.int k (k.wrap a)))):=rfl
def awG(P : Program)(t : TypeId)(a v : AV)(H : aA) : Option (Prop × AV × aA) := match bl P t with
  | some n => if (b6 v).length = n ∧ (b6 v).all od = true then (match a with
    | .ptr id off=>(match H id with
     |some (.box cs)=>if off+n<=cs.length then some (True,.dead,bh H id (.box (splice cs off (b6 v)))) else none
     |_=>none)
    | .jo id bf i off=>(match H id,tN (b6 v) with
     |some (.row v0 e sz es),some ps=>if v0=bf then some (i<es.length/\off+n<=sz,.dead,bh H id (.row v0 e sz (es.set i (splice (es.getD i []) off ps)))) else none
     |_,_=>none)
    |_=>none)
   else none
  |none=>none
theorem an8(d:Option Tmp)(ty:TypeId)(pos:String)(af:Array Edge)(g:Option (Nat×Bool))(ρ:Operand->AV)(H:aA)(x y:Operand):gC P ⟨d,.store t x y,ty,pos,af,g⟩ ρ H=awG P t (ρ x) (ρ y) H:=by rw[arX];rfl
def aEf(d : Option Tmp)(v : AV)(H : aA) : Option (Prop × AV × aA) := match d with
  |some d=>(match H d with
   |none=>if (b6 v).all od=true then some (True,.ptr d 0,bh H d (.box (b6 v))) else none
   |some _=>none)
  |none=>none
theorem awH(d:Option Tmp)(ty:TypeId)(pos:String)(af:Array Edge)(g:Option (Nat×Bool))(ρ:Operand->AV)(H:aA)(x:Operand):gC P ⟨d,.box t x,ty,pos,af,g⟩ ρ H=aEf d (ρ x) H:=by rw[aAA];rfl
def awI(P : Program)(d : Option Tmp)(e : TypeId)(H : aA) : Option (Prop × AV × aA) := match d with
  |some d=>(match H d,cN P e with
   |none,some zs=>if zs.all (·.oneCell')=true then some (True,.ptr d 0,bh H d (.box (zs.map λz=>.p (.val z)))) else none
   |_,_=>none)
  |none=>none
theorem an9(d:Option Tmp)(ty:TypeId)(pos:String)(af:Array Edge)(g:Option (Nat×Bool))(ρ:Operand->AV)(H:aA)(e:TypeId):gC P ⟨d,.alloc e,ty,pos,af,g⟩ ρ H=awI P d e H:=by rw[arY];rfl
def aEg(P:Program)(e:Option TypeId)(n:Nat)(parts:List (Nat×AV)):Option (TypeId×List (List PV)):=match e with
 |some e=>(match bl P e,cN P e with
  | some sz, some zs => if zs.length = sz ∧ 0 < sz ∧ n * sz ≤ 16777216 ∧ zs.all (·.oneCell') = true then
    (match rE (λi=>some (i * sz,sz)) (iP zs n) parts with
    |some cs=>(match tN cs with
     |some ps=>if ps.length=n * sz then some (e,chunk sz n ps) else none
     |none=>none)
    |none=>none)
   else none
  |_,_=>none)
 |none=>none
theorem aoa(n:Nat)(parts:List (Nat×AV)):lT P t n parts=aEg P (cG P t) n parts:=rfl
theorem ar9(e:TypeId)(n:Nat)(parts:List (Nat×AV)):aEg P (some e) n parts=(match bl P e,cN P e with
  | some sz, some zs => if zs.length = sz ∧ 0 < sz ∧ n * sz ≤ 16777216 ∧ zs.all (·.oneCell') = true then
    (match rE (λi=>some (i * sz,sz)) (iP zs n) parts with
    |some cs=>(match tN cs with
     |some ps=>if ps.length=n * sz then some (e,chunk sz n ps) else none
     |none=>none)
    |none=>none)
   else none
  |_,_=>none):=rfl
theorem aob(n:Nat)(parts:List (Nat×AV))(H:aA):ajo P t n parts H=(match lT P t n parts with
 |some (_,es)=>(match n with
  |0=>some (True,.p .emp,H)
  |_=>some (True,.p (.aU es),H))
 |none=>(match lT P t n (parts.map λx=>(x.1,yx (eD (o5 parts) H) x.2)) with
  |some (_,es)=>some (True,.p (.aU es),eD (o5 parts) H)
  |none=>none)):=rfl
def awJ(place : Nat → Option (Nat × Nat))(p : Option (Nat × Nat))(cells : List AV)(v : AV)(rest : List (Nat × AV)) : Option (List AV) := match p with
  |some (off,size)=>if (b6 v).length=size/\off+size<=cells.length/\(b6 v).all od=true then rE place (splice cells off (b6 v)) rest else none
  |none=>none
theorem asa(place:Nat->Option (Nat×Nat))(cells:List AV):rE place cells []=some cells:=rfl
theorem aoc(place:Nat->Option (Nat×Nat))(cells:List AV)(i:Nat)(v:AV)(rest:List (Nat×AV)):rE place cells ((i,v) :: rest)=awJ place (place i) cells v rest:=by simp only[rE,awJ];try rfl
theorem aod(place:Nat->Option (Nat×Nat))(cells:List AV)(off size:Nat)(v:AV)(rest:List (Nat×AV)):awJ place (some (off,size)) cells v rest=if (b6 v).length=size/\off+size<=cells.length/\(b6 v).all od=true then rE place (splice cells off (b6 v)) rest else none:=rfl
theorem ag4(zs:List Value):iP zs 0=[]:=rfl
theorem ag5(zs:List Value)(n:Nat):iP zs (n+1)=(zs.map λz=>AV.p (.val z))++iP zs n:=by simp[iP,replicate_succ]
theorem aoe{α:Type}(sz:Nat)(l:List α):chunk sz 0 l=[]:=rfl
theorem aof{α:Type}(sz n:Nat)(l:List α):chunk sz (n+1) l=l.take sz :: chunk sz n (l.drop sz):=rfl
def aEh(z:Option (List Value))(pl:Option (List (Nat×Nat)))(parts:List (Nat×AV)):Option (Prop×AV):=match z,pl with
 | some zs, some pl => if zs.all (·.oneCell') = true then
   (match rE (λi=>pl[i]?) (zs.map λz=>.p (.val z)) parts with
   |some cs=>some (True,yu cs)
   |none=>none)
  else none
 |_,_=>none
theorem asb(parts:List (Nat×AV)):ac7 P t parts=aEh (cN P t) (fh P t) parts:=rfl
theorem asc(zs:List Value)(pl:List (Nat×Nat))(parts:List (Nat×AV)):aEh (some zs) (some pl) parts=if zs.all (·.oneCell')=true then
   (match rE (λi=>pl[i]?) (zs.map λz=>.p (.val z)) parts with
   |some cs=>some (True,yu cs)
   |none=>none)
  else none:=rfl
theorem aAR(k:IntKind)(n:Int):Value.oneCell' (.int k n)=true:=rfl
theorem awK(b:Bool):Value.oneCell' (.bool b)=true:=rfl
theorem aog(b:ByteArray):Value.oneCell' (.string b)=true:=rfl
theorem asd(a:Option Addr)(n c:Nat):Value.oneCell' (.slice a n c)=true:=rfl
def aAS(ty:Option (TypeId×Nat×Nat))(a b:AV)(H:aA):Option (Prop×AV×aA):=match ty with
 |some (e',sz',qz)=>(match a with
  | .row id bf=>(match H id with
   | some (.row v e sz es) => if v = bf ∧ e = e' ∧ sz = sz' then (match vG H b with
     |some ns=>some ((es.length+ns.length) * qz<=140737488355328/\∀x∈ns,x.length=sz,.row id (bf+1),bh H id (.row (bf+1) e sz (es++ns)))
     |none=>none)
    else none
   |_=>none)
  |_=>none)
 |none=>none
theorem akY(t1 t2:TypeId)(id bf:Nat)(b:AV)(H:aA):aeD P t1 t2 (.row id bf) b H=aAS (dy P t1 t2) (.row id bf) b H:=by
 unfold aeD ac8 abY aAS;simp only[isNil];cases dy P t1 t2 with
 |none=>rfl
 |some x=>rfl
theorem ase(H:aA)(ns:List (List PV)):vG H (.p (.aU ns))=some ns:=rfl
theorem asf(H:aA)(ao:Option Addr)(c:Nat):vG H (.p (.val (.slice ao 0 c)))=some []:=rfl
theorem asg(H:aA)(id bf:Nat):vG H (.row id bf)=rowOf H id bf:=rfl
theorem akZ(e':TypeId)(sz' qz:Nat)(id bf:Nat)(b:AV)(H:aA):aAS (some (e',sz',qz)) (.row id bf) b H=(match H id with
   | some (.row v e sz es) => if v = bf ∧ e = e' ∧ sz = sz' then (match vG H b with
     |some ns=>some ((es.length+ns.length) * qz<=140737488355328/\∀x∈ns,x.length=sz,.row id (bf+1),bh H id (.row (bf+1) e sz (es++ns)))
     |none=>none)
    else none
   |_=>none):=rfl
def awL(ty:Option (TypeId×Nat×Nat))(es:List (List PV))(H:aA):Option (Prop×AV×aA):=match ty with
 |some (_,sz,qz)=>some (es.length * qz<=140737488355328/\∀x∈es,x.length=sz,.p (.aU es),H)
 |none=>none
theorem ash(e':TypeId)(sz' qz:Nat)(es:List (List PV))(H:aA):awL (some (e',sz',qz)) es H=some (es.length * qz<=140737488355328/\∀x∈es,x.length=sz',.p (.aU es),H):=rfl
theorem awM(t1 t2:TypeId)(es:List (List PV))(H:aA):aeD P t1 t2 (.p .emp) (.p (.aU es)) H=awL (dy P t1 t2) es H:=by
 unfold aeD ac8 abY awL;simp only[isNil];cases dy P t1 t2 with
 |none=>rfl
 |some x=>rfl
theorem awN(t1 t2:TypeId)(es:List (List PV))(H:aA):aeD P t1 t2 (.p (.val (.slice none 0 0))) (.p (.aU es)) H=awL (dy P t1 t2) es H:=by
 unfold aeD ac8 abY awL;simp only[isNil];cases dy P t1 t2 with
 |none=>rfl
 |some x=>rfl
theorem awO(cs:List AV):yu cs=(match tN cs with|some ps=>.p (.agg ps)|none=>.agg cs):=rfl
theorem awP:tN []=some []:=rfl
theorem aDg(x:PV)(r:List AV):tN (.p x :: r)=(match tN r with|some ps=>some (x :: ps)|none=>none):=rfl
theorem awQ(i v:Nat)(r:List AV):tN (.row i v :: r)=none:=rfl
theorem awR(i v:Nat)(r:List AV):tN (.ptr i v :: r)=none:=rfl
theorem ak0(cs:List AV):b6 (.agg cs)=cs:=rfl
theorem ajq(cs:List PV):b6 (.p (.agg cs))=cs.map AV.p:=rfl
theorem ak1(v:Value):b6 (.p (.val v))=[.p (.val v)]:=rfl
theorem ak2(v:List (List PV)):b6 (.p (.aU v))=[.p (.aU v)]:=rfl
theorem ak3(i v:Nat):b6 (.row i v)=[.row i v]:=rfl
theorem ak4(i v:Nat):b6 (.ptr i v)=[.ptr i v]:=rfl
theorem asi(v:Value):od (.p (.val v))=true:=rfl
theorem asj(v:List (List PV)):od (.p (.aU v))=true:=rfl
theorem asl(i v:Nat):od (.row i v)=true:=rfl
theorem asm(i v:Nat):od (.ptr i v)=true:=rfl
theorem rN{α:Type}(cs:List α)(off:Nat)(new:List α):splice cs off new=cs.take off++new++cs.drop (off+new.length):=rfl
theorem aAT{env:Env}{H:aA}(rs:List ResultVar):av0 P env H rs=(match pE P env H rs with
 |some a=>(match ad8 H a with
  |some (x,_)=>some x
  |none=>none)
 |none=>none):=rfl
theorem asn{env:Env}{H:aA}(r:ResultVar):pE P env H [r]=(match aaD P env H r with|some a=>some a|none=>none):=by simp only[pE,akI];cases aaD P env H r<;>rfl
theorem aso{env:Env}{H:aA}(r s:ResultVar):pE P env H [r,s]=(match aaD P env H r with|some a=>(match aaD P env H s with|some b=>some (.dW [a,b])|none=>none)|none=>none):=by simp only[pE,akI];cases aaD P env H r<;>cases aaD P env H s<;>rfl
theorem ak5{env:Env}{H:aA}(r s t:ResultVar):pE P env H [r,s,t]=(match aaD P env H r with|some a=>(match aaD P env H s with|some b=>(match aaD P env H t with|some c=>some (.dW [a,b,c])|none=>none)|none=>none)|none=>none):=by simp only[pE,akI];cases aaD P env H r<;>cases aaD P env H s<;>cases aaD P env H t<;>rfl
theorem awS{env:Env}{H:aA}(t:Tmp):aaD P env H (.tmp t)=some (env t):=rfl
def aEi(P:Program)(t:TypeId)(H:aA)(a:AV):Option AV:=match a with
 | .ptr id off=>(match H id with
  |some (.box cs)=>sG P t cs off
  |_=>none)
 |_=>none
theorem asp{env:Env}{H:aA}(a:Tmp)(t:TypeId):aaD P env H (.cell a t)=aEi P t H (env a):=rfl
theorem awT{H:aA}(id off:Nat):aEi P t H (.ptr id off)=(match H id with
  |some (.box cs)=>sG P t cs off
  |_=>none):=rfl
theorem aAU(H:aA)(x:PV):ad8 H (.p x)=some (x,false):=rfl
theorem asq(H:aA)(id bf:Nat):ad8 H (.row id bf)=qb H (.row id bf):=rfl
theorem asr(H:aA)(cs:List AV):ad8 H (.agg cs)=(match eC (oe H) cs with
  |some (ps,b)=>some (.agg ps,b)
  |none=>none):=rfl
theorem ass(H:aA)(cs:List AV):ad8 H (.dW cs)=(match eC (gR H) cs with
  |some (ps,b)=>some (.dW ps,b)
  |none=>none):=rfl
theorem ajr(H:aA)(x:PV):gR H (.p x)=some (x,false):=rfl
theorem ast(H:aA)(id bf:Nat):gR H (.row id bf)=qb H (.row id bf):=rfl
theorem asu(H:aA)(id off:Nat):gR H (.ptr id off)=oe H (.ptr id off):=rfl
theorem asv(H:aA)(cs:List AV):gR H (.agg cs)=(match eC (oe H) cs with
  |some (ps,b)=>some (.agg ps,b)
  |none=>none):=rfl
theorem asw(H:aA)(fn:Fn)(fs cs:List AV):gR H (.iK fn fs cs)=(match eC (oe H) fs,eC (oe H) cs with
  |some (f,b),some (c,d)=>some (.iK fn f c,b||d)
  |_,_=>none):=rfl
theorem aAV(H:aA)(x:PV):oe H (.p x)=some (x,false):=rfl
theorem asx(H:aA)(id bf:Nat):oe H (.row id bf)=qb H (.row id bf):=rfl
theorem asy(H:aA)(id off:Nat):oe H (.ptr id off)=(match H id with
  |some (.box cs)=>(match eC (aaK H) cs with
   |some (ps,_)=>some (.ee ps off,true)
   |none=>none)
  |_=>none):=rfl
theorem asz(H:aA)(id off:Nat):aaK H (.ptr id off)=(match H id with
  |some (.box cs)=>(match eC (qb H) cs with
   |some (ps,_)=>some (.ee ps off,true)
   |none=>none)
  |_=>none):=rfl
theorem aAW(H:aA)(x:PV):aaK H (.p x)=some (x,false):=rfl
theorem asA(H:aA)(id bf:Nat):qb H (.row id bf)=(match H id with
  |some (.row v _ _ es)=>if v=bf then some (.aU es,true) else none
  |some (.shut v es)=>if v=bf then some (.aU es,false) else none
  |_=>none):=rfl
theorem asB(f:AV->Option (PV×Bool)):eC f []=some ([],false):=rfl
theorem aoh(f:AV->Option (PV×Bool))(a:AV)(r:List AV):eC f (a :: r)=(match f a,eC f r with
  |some (x,b),some (xs,c)=>some (x :: xs,b||c)
  |_,_=>none):=rfl
theorem awU(fn:Fn)(fs cs:List AV):akx fn fs cs=(match tN fs,tN cs with
 |some f,some c=>.p (.iK fn f c)
 |_,_=>.iK fn fs cs):=rfl
end
attribute [go_sem] aAC arZ aAD aDa aAE awa aAF aAG aDb akQ ar0 awb ag3 akR anX anY akS awc ar1 av1 arP anO akK anP anQ anR anS arQ arR akL akM akN av2 av3 anU av4 av5 av6 anW av7 akO arT av8 akP ajm arU arV arW ajn av9 ag1 ag2 an8 an9 awH afo sv afp afq aDc aDd aAH ar2 awd aAI awe awf awg awh awi awj aC1 aAs awk awl awm awn awo awp awq awr aws awt awu awv ar3 aww aAM an0 akU an1 an2 an3 ar5 akV an4 awy awz aAN aAO aAP aAQ akW an5 akX an6 ar6 an7 ar7 awA awB awC awD awE ar8 awF awG aEf awI aoa ar9 aob asa aoc aod ag4 ag5 aoe aof asb asc aAR awK aog asd akY ase asf ar4 awx aAJ aAK aAL anZ aEd aEe Option.isNone_none Option.isNone_some asg akZ ash awM awN awO awP aDg awQ awR ak0 ajq ak1 ak2 ak3 ak4 asi asj asl asm rN aAT asn aso ak5 awS asp awT aAU asq asr ass ajr ast asu asv asw aAV asx asy aAW asz asA asB aoh awU
attribute [go_sem] true_and and_true if_true if_false ite_true ite_false not_true_eq_false not_false_eq_true Bool.not_true Bool.not_false Bool.false_eq_true ne_eq Option.bind_some Option.bind_none map_some Option.map_none map_cons map_nil length_cons length_nil drop_zero drop_succ_cons take_zero take_succ_cons cons_append nil_append append_nil drop_nil take_nil zero_add Nat.add_zero AV.p.injEq PV.val.injEq PV.aU.injEq PV.dW.injEq PV.agg.injEq Value.int.injEq Value.bool.injEq Value.string.injEq cA List.cons.injEq mem_cons not_mem_nil forall_eq_or_imp forall_eq or_false false_or and_self getElem?_toArray getElem?_cons_zero getElem?_cons_succ all_cons all_nil Bool.and_true Bool.true_and Bool.and_self Bool.or_false Bool.false_or Bool.false_and Bool.and_false Bool.or_true Bool.true_or beq_self_eq_true length_map length_append Int.ofNat_lt Int.natCast_nonneg Int.toNat_natCast append_assoc
variable{P:Program}{I:Mem}{L:bA}
mutual
def pF(H:aA):AV->Prop
 | .p _=>True
 | .row id _=>H id≠none
 | .ptr id _=>H id≠none
 | .jo id _ _ _=>H id≠none
 | .agg cs=>mZ H cs
 | .dW cs=>mZ H cs
 | .iK _ fs cs=>mZ H fs/\mZ H cs
 | .eP id _=>H id≠none
 | .kH id _ _ _=>H id≠none
 | .kI id _ _=>H id≠none
 | .nv id _ _ _ _=>H id≠none
 | .bsl id _=>H id≠none
 | .iM id _ _ _ _ _=>H id≠none
 | .dead=>True
def mZ(H:aA):List AV->Prop
 | []=>True
 |a :: r=>pF H a/\mZ H r
end
theorem og{H:aA} : ∀ {cs:List AV},mZ H cs->∀ (j:Nat) c,cs[j]? = some c->pF H c
 | [],_,j,c,h=>by simp at h
 |a :: r,h,j,c,hc=>by
  cases j with
  |zero=>simp at hc;subst hc;exact h.1
  |succ j=>exact og h.2 j c (by simpa using hc)
def bA.to(L:bA)(H:aA):bA:=λid=>match H id with
 |some _=>L id
 |none=>none
theorem lU{H:aA}{id:Nat}(h:H id≠none):L.to H id=L id:=by
 unfold bA.to;cases hH:H id with
 |none=>exact absurd hH h
 |some c=>rfl
theorem to_eq{H:aA}{id:Nat}{l:Loc}(h:L.to H id=some l):L id=some l/\∃c,H id=some c:=by
 unfold bA.to at h;cases hH:H id with
 |none=>simp[hH] at h
 |some c=>simp[hH] at h;exact⟨h,c,rfl⟩
theorem dR.to{u:Value}{a:AV}(h:dR I L u a){H:aA} : pF H a->dR I (L.to H) u a:=by
 induction h with
 |p u x h=>exact λ_=>.p u x h
 |row u id bf v bI sz hl hle h h1=>exact λhi=>.row u id bf v bI sz ((lU hi).trans hl) hle h h1
 |ptr id b off hl=>exact λhi=>.ptr id b off ((lU hi).trans hl)
 |jo u id bf v i off bI sz hl hle h h1=>exact λhi=>.jo u id bf v i off bI sz ((lU hi).trans hl) hle h h1
 |agg us cs hl _ hone ih=>exact λhi=>.agg us cs hl (λj u c hu hc=>ih j u c hu hc (og hi j c hc)) hone
 |dW us cs hl _ ih=>exact λhi=>.dW us cs hl (λj u c hu hc=>ih j u c hu hc (og hi j c hc))
 |iK fn us vs fs cs hl hl' _ _ ih ih'=>exact λhi=>.iK fn us vs fs cs hl hl' (λj u c hu hc=>ih j u c hu hc (og hi.1 j c hc)) (λj u c hu hc=>ih' j u c hu hc (og hi.2 j c hc))
 |eP u id bf v bI sz sz' dr n hl hle h h1=>exact λhi=>.eP u id bf v bI sz sz' dr n ((lU hi).trans hl) hle h h1
 |kH u id bf v i off bI sz sz' dr n hl hle h h1=>exact λhi=>.kH u id bf v i off bI sz sz' dr n ((lU hi).trans hl) hle h h1
 |kI u id bf v i bI sz sz' dr n hl hle h h1=>exact λhi=>.kI u id bf v i bI sz sz' dr n ((lU hi).trans hl) hle h h1
 |nv u id bf v i j off bI sz sz' dr n hl hle h h1=>exact λhi=>.nv u id bf v i j off bI sz sz' dr n ((lU hi).trans hl) hle h h1
 |bsl id b n hl=>exact λhi=>.bsl id b n ((lU hi).trans hl)
 |iM a id bf v off n m c bI sz hl hle hn hm hz h=>exact λhi=>.iM a id bf v off n m c bI sz ((lU hi).trans hl) hle hn hm hz h
 |dead u=>exact λ_=>.dead u
def afr(e' e:Env):Prop:=∀t,e' t = .dead\/e' t=e t
def adk(e:Env)(H:aA):Prop:=∀t,pF H (e t)
def qC(H' H:aA):Prop:=∀id cs,H' id=some (.box cs)->mZ H cs
theorem awV(e:Env):afr fS e:=λ_=>.inl rfl
theorem aAX{e' e:Env}{d:Nat}{v:AV}(h:afr e' e)(hv:e d=v):afr (cE e' d v) e:=λt=>by
 unfold cE;split
 ·rename_i ht;subst ht;exact .inr hv.symm
 ·exact h t
theorem aEj(H:aA):HSub cq H:=λ_ _ h=>by cases h
theorem asC{H' H:aA}{id:Nat}{c:Chunk}(h:HSub H' H)(hc:H id=some c):HSub (bh H' id c) H:=λi c' hi=>by
 unfold bh at hi;split at hi
 ·rename_i hid;subst hid;simp at hi;subst hi;exact hc
 ·exact h i c' hi
theorem awW(H:aA):adk fS H:=λ_=>trivial
theorem aAY{e:Env}{H:aA}{d:Nat}{v:AV}(h:adk e H)(hv:pF H v):adk (cE e d v) H:=λt=>by
 unfold cE;split
 ·exact hv
 ·exact h t
theorem aAZ(H:aA):qC cq H:=λ_ _ h=>by cases h
theorem aoi{H' H:aA}{id:Nat}{cs:List AV}(h:qC H' H)(hc:mZ H cs):qC (bh H' id (.box cs)) H:=λi c' hi=>by
 unfold bh at hi;split at hi
 ·simp at hi;subst hi;exact hc
 ·exact h i c' hi
theorem aoj{H' H:aA}{id v:Nat}{e:TypeId}{sz:Nat}{es:List (List PV)}(h:qC H' H):qC (bh H' id (.row v e sz es)) H:=λi c' hi=>by
 unfold bh at hi;split at hi
 ·simp at hi
 ·exact h i c' hi
theorem ak6{H' H:aA}{id v:Nat}{es:List (List PV)}(h:qC H' H):qC (bh H' id (.shut v es)) H:=λi c' hi=>by
 unfold bh at hi;split at hi
 ·simp at hi
 ·exact h i c' hi
def l6(H H':aA):Prop:=∀i,1000000<=i->H i≠none->H' i≠none
theorem aCy(H':aA):l6 cq H':=λ_ _ h=>absurd rfl h
theorem ak7{H H':aA}{i:Nat}{c:Chunk}(hi:i<1000000)(h:l6 H H'):l6 (bh H i c) H':=λj hj hn=>by refine h j hj ?_;unfold bh at hn;rw[if_neg (by omega)] at hn;exact hn
theorem asD{H H':aA}{i:Nat}{c:Chunk}(hi:H' i≠none)(h:l6 H H'):l6 (bh H i c) H':=λj hj hn=>by
 by_cases e:j=i
 ·rw[e];exact hi
 ·refine h j hj ?_;unfold bh at hn;rw[if_neg e] at hn;exact hn
theorem aA0{e e':Env}{H H':aA}(h1:afr e' e)(h2:HSub H' H)(h3:adk e' H')(h4:qC H' H')(h5:l6 H H'):dx e H e' H':=λC I L tm w hs=>by
 refine⟨I,L.to H',?_⟩;exact
 {below:=hs.below
  mem:=hs.mem
  kX:=hs.kX
  lY:=hs.lY
  frame:=hs.frame
  loc:=λi=>by
   cases hi:C.L0 i with
   |none=>trivial
   |some l0 =>
    have h0:=hs.loc i;rw[hi] at h0;have hL:L i≠none:=by
     cases l0 with
     |box b=>intro e;rw[e] at h0;cases h0
     |row v bI sz=>obtain⟨_,_,h0,_⟩:=h0;intro e;rw[e] at h0;cases h0
     |deep v bI sz sz' dr n=>obtain⟨_,_,_,_,h0,_⟩:=h0;intro e;rw[e] at h0;cases h0
    have hH:H i≠none:=by
     cases hLi:L i with
     |none=>exact absurd hLi hL
     |some l=>obtain⟨c,hc⟩:=hs.dom i l hLi;rw[hc];simp
    have e:=lU (L:=L) (h5 i (C.hL0 i l0 hi) hH);rw[e];exact h0
  jA:=λid l b hl hb=>hs.jA id l b (to_eq hl).1 hb
  size:=hs.size
  env:=λt=>by
   rcases h1 t with h|h
   ·rw[h];exact .dead _
   ·have:=hs.env t;rw[<-h] at this;exact this.to (h3 t)
  dom:=λid l hl=>(to_eq hl).2
  chunk:=λid ch hch=>by
   have hc:=hs.chunk id ch (h2 id ch hch);have hid:L.to H' id=L id:=lU (by rw[hch];simp);cases ch with
   |box cs=>obtain⟨b,arr,e,g1,g2,g3,g4,g5,g6⟩:=hc;exact⟨b,arr,e,hid.trans g1,g2,g3,λj u c hu hc=>(g4 j u c hu hc).to (og (h4 id cs hch) j c hc),g5,g6⟩
   |row bf e sz es=>obtain⟨bI,us,g1,g2⟩:=hc;exact⟨bI,us,hid.trans g1,g2⟩
   |shut bf es=>obtain⟨bI,sz,g1,g2⟩:=hc;exact⟨bI,sz,hid.trans g1,g2⟩
   |tail bf e sz es=>obtain⟨g,o,cap,arr,g1,g2⟩:=hc;exact⟨g,o,cap,arr,hid.trans g1,g2⟩
   |deep bf e sz k e' sz' es=>obtain⟨bI,us,dr,g1,g2⟩:=hc;exact⟨bI,us,dr,hid.trans g1,g2⟩
  fM:=λid l b hl hb=>hs.fM id l b (to_eq hl).1 hb
  apart:=λi j li lj b hi hj rK vq=>hs.apart i j li lj b (to_eq hi).1 (to_eq hj).1 rK vq }
theorem ja{e:Env}{H:aA}(t id:Nat)(ty:TypeId)(sz:Nat)(ht:e t = .p (.val (.slice none 0 0)))(hid:H id=none)(hsz:0<sz) :
  dx e H (cE e t (.row id 0)) (bh H id (.row 0 ty sz [])):=λC I L tm w hs=>by
 obtain⟨n1,n2,n3⟩:=ajf hs hid ty hsz;have hs':=n2 e tm hs;refine⟨I,_,{ hs' with env:=λi=>?_ }⟩;unfold cE;split
 ·rename_i hi;subst hi;have:=hs.env i;rw[ht] at this;rw[this.dK.1];exact n1
 ·exact hs'.env i
theorem cz{e:Env}{H:aA}(b off id:Nat)(ty:TypeId)(sz:Nat)(cs:List AV)(hb:H b=some (.box cs))(ho:cs[off]? = some (.p (.val (.slice none 0 0))))(hid:H id=none)(hsz:0<sz) :
  dx e H e (bh (bh H id (.row 0 ty sz [])) b (.box (cs.set off (.row id 0)))):=λC I L tm w hs=>by
 obtain⟨n1,n2,n3⟩:=ajf hs hid ty hsz;have hs':=n2 e tm hs;have hne:b≠id:=λh=>by rw[h,hid] at hb;cases hb
 obtain⟨blk,arr,et,g1,g2,g3,g4,g5,g6⟩:=hs.chunk b _ hb;refine⟨I,_,{ hs' with dom:=λi l hl=>?_,chunk:=λi ch hch=>?_ }⟩
 ·obtain⟨c,hc⟩:=hs'.dom i l hl;by_cases hi:i=b
  ·exact⟨.box (cs.set off (.row id 0)),by unfold bh;rw[if_pos hi]⟩
  ·exact⟨c,by unfold bh at hc ⊢;rw[if_neg hi];exact hc⟩
 ·by_cases hi:i=b
  ·subst hi;have:Chunk.box (cs.set off (.row id 0))=ch:=by simpa[bh] using hch
   subst this;refine⟨blk,arr,et,by simp[cg,hne,g1],g2,by simpa using g3,λj u c hu hc=>?_,g5,g6⟩;rw[getElem?_set] at hc;split at hc
   ·rename_i hj;subst hj;split at hc
    ·simp at hc;subst hc;have:=g4 off u _ hu ho;rw[this.dK.1];exact n1
    ·cases hc
   ·exact (g4 j u c hu hc).mono (Mem.en I) n3
  ·exact hs'.chunk i ch (by unfold bh at hch ⊢;rw[if_neg hi] at hch;exact hch)
section
variable{N:Nat}{own:List Nat}{σ:Type}
def awX(inv:σ->Env)(jX:σ->aA)(φ:σ->Prop)(μ:σ->Nat)(x:σ)(env:Env)(H:aA):Prop:=∃y,φ y/\μ y<μ x/\dx env H (inv y) (jX y)
def ak8(inv:σ->Env)(jX:σ->aA)(φ:σ->Prop)(μ:σ->Nat)(x:σ)(K:qB):qB:=λe env H=>match e with
 | .normal=>awX inv jX φ μ x env H
 |e=>K e env H
theorem ajs{inv:σ->Env}{jX:σ->aA}{φ:σ->Prop}{μ:σ->Nat}{x:σ}{K:qB}{env:Env}{H:aA} : ak8 inv jX φ μ x K .normal env H=awX inv jX φ μ x env H:=rfl
theorem aok{inv:σ->Env}{jX:σ->aA}{φ:σ->Prop}{μ:σ->Nat}{x:σ}{K:qB}{env:Env}{H:aA}{id:Nat} : ak8 inv jX φ μ x K (.exit id) env H=K (.exit id) env H:=rfl
theorem asE{inv:σ->Env}{jX:σ->aA}{φ:σ->Prop}{μ:σ->Nat}{x:σ}{K:qB}{env:Env}{H:aA} : ak8 inv jX φ μ x K .ret env H=K .ret env H:=rfl
theorem bM{c:Code}{K:qB}{env:Env}{H:aA}(inv:σ->Env)(jX:σ->aA)(φ:σ->Prop)(μ:σ->Nat)(x0:σ)(h0:φ x0)(hw:dx env H (inv x0) (jX x0))
  (hr:∀x,φ x->cw P N own c (ak8 inv jX φ μ x K) (inv x) (jX x)):aaO P N own c K env H:=by
 refine⟨λn e H=>∃x,φ x/\μ x=n/\e=inv x/\H=jX x,⟨μ x0,_,_,⟨x0,h0,rfl,rfl,rfl⟩,hw⟩,?_⟩;rintro n e H ⟨x,hx,rfl,rfl,rfl⟩
 have hk : (ak8 inv jX φ μ x K) = (fun z e' H' => match z with
   | .normal=>∃m e2 H2,m<μ x/\(∃x,φ x/\μ x=m/\e2=inv x/\H2=jX x)/\dx e' H' e2 H2
   |z=>K z e' H'):=by
  funext z e' H';cases z<;>try rfl
  apply propext;constructor
  ·rintro⟨y,h1,h2,h3⟩;exact⟨μ y,_,_,h2,⟨y,h1,rfl,rfl,rfl⟩,h3⟩
  ·rintro⟨m,e2,H2,h1,⟨y,h2,rfl,rfl,rfl⟩,h3⟩;exact⟨y,h2,h1,h3⟩
 have:=hr x hx;rw[hk] at this;exact this
theorem bO{inv:σ->Env}{jX:σ->aA}{φ:σ->Prop}{μ:σ->Nat}{x:σ}{env:Env}{H:aA}(y:σ)(h1:φ y)(h2:μ y<μ x)(h3:dx env H (inv y) (jX y)):awX inv jX φ μ x env H:=⟨y,h1,h2,h3⟩
end
attribute [go_sem] ajs aok asE
end Go.cv
namespace Go.cv
open Go.RowKit
variable{P:Program}{o:Oper}{ρ ρ':Operand->AV}
theorem qD{l:List (Nat×Operand)}(h:∀x∈l.map (·.2),ρ x=ρ' x):(l.map λx=>(x.1,ρ x.2))=l.map λx=>(x.1,ρ' x.2):=by apply map_congr_left;intro x hx;rw[h x.2 (mem_map.2 ⟨x,hx,rfl⟩)]
theorem ahG(h:∀x∈o.op.operands,ρ x=ρ' x):oc P o ρ=oc P o ρ':=by
 unfold oc;cases hop:o.op<;>simp only[hop,Op.operands] at h ⊢
 case build t ps=>rw[qD (l:=ps.toList) (λx hx=>h x (by simpa using hx))]
 case buildSlice t n ps=>rw[qD (l:=ps.toList) (λx hx=>h x (by simpa using hx))]
 case makeFunc fn f c =>
  have h1:f.toList.map ρ=f.toList.map ρ':=map_congr_left λx hx=>h x (by simp at hx;simp[hx])
  have h2:c.toList.map ρ=c.toList.map ρ':=map_congr_left λx hx=>h x (by simp at hx;simp[hx])
  rw[h1,h2]
 case slice t x lo hi mx =>
  rw[h x (by simp)];have h1:lo.map ρ=lo.map ρ':=by
   cases lo with
   |none=>rfl
   |some y=>simp[h y (by simp)]
  have h2:hi.map ρ=hi.map ρ':=by
   cases hi with
   |none=>rfl
   |some y=>simp[h y (by simp)]
  have h3:mx.map ρ=mx.map ρ':=by
   cases mx with
   |none=>rfl
   |some y=>simp[h y (by simp)]
  rw[h1,h2,h3]
 case call c =>
  have h1:c.args.toList.map ρ=c.args.toList.map ρ':=map_congr_left λx hx=>h x (by simp at hx;simp[Call.operands,hx])
  rw[h1]
 all_goals first
  |rfl
  |(simp at h;simp[h])
theorem aol{H:aA}(h:∀x∈o.op.operands,ρ x=ρ' x):mO P o ρ H=mO P o ρ' H:=by
 unfold mO;cases hop:o.op<;>simp only[hop,Op.operands] at h ⊢
 case call c =>
  have h1:c.args.toList.map ρ=c.args.toList.map ρ':=map_congr_left λx hx=>h x (by simp at hx;simp[Call.operands,hx])
  rw[h1]
 all_goals first
  |rfl
  |(simp at h;simp[h])
theorem asF{H:aA}(h:∀x∈o.op.operands,ρ x=ρ' x):xG P o ρ H=xG P o ρ' H:=by
 unfold xG;cases hop:o.op<;>simp only[hop,Op.operands] at h ⊢
 case call c =>
  have h1:c.args.toList.map ρ=c.args.toList.map ρ':=map_congr_left λx hx=>h x (by simp at hx;simp[Call.operands,hx])
  rw[h1]
 all_goals first
  |rfl
  |(simp at h;simp[h])
theorem asG{H:aA}(h:∀x∈o.op.operands,ρ x=ρ' x):yw P o ρ H=yw P o ρ' H:=by
 unfold yw;cases hop:o.op<;>simp only[hop,Op.operands] at h ⊢
 case indexAddr t x i=>rw[h x (by simp),h i (by simp)]
theorem asH{H:aA}(h:∀x∈o.op.operands,ρ x=ρ' x):rL P o ρ H=rL P o ρ' H:=by unfold rL;rw[aol h,asF h,asG h]
theorem asI{H:aA}(h:∀x∈o.op.operands,ρ x=ρ' x):wK P o ρ H=wK P o ρ' H:=by
 unfold wK;cases hop:o.op<;>simp only[hop,Op.operands] at h ⊢
 case call c =>
  have h1:c.args.toList.map ρ=c.args.toList.map ρ':=map_congr_left λx hx=>h x (by simp at hx;simp[Call.operands,hx])
  rw[h1]
 all_goals first
  |rfl
  |(simp at h;simp[h])
theorem asJ{H:aA}(h:∀x∈o.op.operands,ρ x=ρ' x):xH P o ρ H=xH P o ρ' H:=by
 unfold xH;cases hop:o.op<;>simp only[hop,Op.operands] at h ⊢
 case buildSlice t n ps=>rw[qD (l:=ps.toList) (λx hx=>h x (by simpa using hx))]
theorem asK{H:aA}{d:Nat}(h:∀x∈o.op.operands,ρ x=ρ' x):exN P o ρ H d=exN P o ρ' H d:=by
 unfold exN;cases H d with
 |some _=>rfl
 |none =>
  simp only[];cases hop:o.op<;>simp only[hop,Op.operands] at h ⊢
  case buildSlice t n ps=>rw[qD (l:=ps.toList) (λx hx=>h x (by simpa using hx))]
  case call c =>
   have h1:c.args.toList.map ρ=c.args.toList.map ρ':=map_congr_left λx hx=>h x (by simp at hx;simp[Call.operands,hx])
   rw[h1]
  all_goals(simp at h;simp[h])
theorem aar{H:aA}(h:∀x∈o.op.operands,ρ x=ρ' x):gC P o ρ H=gC P o ρ' H:=by unfold gC;rw[ahG h,asH h,asI h,asJ h]
theorem vK{own:List Nat}{H:aA}(h:∀x∈o.op.operands,ρ x=ρ' x):gj P own o ρ H=gj P own o ρ' H:=by
 unfold gj;rw[aar h];cases o.dst with
 |none=>rfl
 |some d=>simp only[asK h]
theorem y8(h:∀x∈o.op.operands,ρ x=ρ' x):dP o ρ=dP o ρ':=by
 unfold dP;cases hop:o.op<;>simp only[hop,Op.operands] at h ⊢
 case call c =>
  have h1:c.args.toList.map ρ=c.args.toList.map ρ':=map_congr_left λx hx=>h x (by simp at hx;simp[Call.operands,hx])
  rw[h1];cases hc:c.callee with
  |value f=>have:ρ f=ρ' f:=h f (by simp[Call.operands,hc]);simp only[this]
  |_=>rfl
theorem vL{H:aA}{x:PV}(h:∀x∈o.op.operands,ρ x=ρ' x)(hc:y5 P o ρ H x):y5 P o ρ' H x:=by obtain⟨k,eS,ps,b,h1,h2⟩:=hc;exact⟨k,eS,ps,b,(y8 h) ▸ h1,h2⟩
def bS(own:List Nat)(o:Oper):Bool:=(match o.dst with
 |some d=>!own.contains d
 |none=>true)&&match o.op with
 | .store .. | .alloc _ | .box .. | .buildSlice ..=>false
 | .call c=>match c.callee with
  | .builtin .append=>false
  |_=>true
 |_=>true
def uP(own:List Nat)(o:Oper):Bool:=(match o.dst with
 |some d=>!own.contains d
 |none=>true)&&match o.op with
 | .move _ | .assign _ | .pick .. | .extract .. | .binOp .. | .unOp .. | .convert .. | .makeFunc .. | .build .. | .index .. | .slice .. | .nilCheck _=>true
 |_=>false
theorem j4{own:List Nat}{H:aA}(h:(match o.dst with
 |some d=>!own.contains d
 |none=>true)=true):gj P own o ρ H=gC P o ρ H:=by
 unfold gj;cases hd:o.dst with
 |none=>rfl
 |some d =>
  rw[hd] at h;have:own.contains d=false:=by simpa using h
  simp only[this];try rfl
theorem sK{own:List Nat}{H H':aA}{pre:Prop}{v:AV}(hq:bS own o=true)(h:gj P own o ρ H=some (pre,v,H')):H'=H:=by
 unfold bS at hq;rw[and_eq_true] at hq;rw[j4 hq.1] at h;have hk:=hq.2;unfold gC at h;split at h
 ·simp at h;exact h.2.2.symm
 ·split at h
  ·simp at h;exact h.2.2.symm
  ·exfalso;have hw:wK P o ρ H=none:=by
    unfold wK;cases hop:o.op<;>simp only[hop] at hk ⊢<;>try (cases hk;done)
    case call c =>
     cases hc:c.callee with
     |builtin b=>rw[hc] at hk;cases b<;>first|rfl|cases hk
     |_=>rfl
   have hs:xH P o ρ H=none:=by
    unfold xH;cases hop:o.op<;>simp only[hop] at hk ⊢
    cases hk
   rw[hw,hs] at h;cases h
theorem ak9{own:List Nat}{H:aA}(hq:uP own o=true):gC P o ρ H=match oc P o ρ with
  |some (pre,v)=>some (pre,v,H)
  |none=>none:=by
 unfold uP at hq;rw[and_eq_true] at hq;have hk:=hq.2;unfold gC;cases hp:oc P o ρ with
 |some r=>rfl
 |none =>
  have h1:rL P o ρ H=none:=by unfold rL mO xG yw;cases hop:o.op<;>simp only[hop] at hk ⊢<;>cases hk
  have h2:wK P o ρ H=none:=by unfold wK;cases hop:o.op<;>simp only[hop] at hk ⊢<;>cases hk
  have h3:xH P o ρ H=none:=by unfold xH;cases hop:o.op<;>simp only[hop] at hk ⊢<;>cases hk
  rw[h1,h2,h3]
theorem afs{own:List Nat}{H:aA}(hq:uP own o=true):gj P own o ρ H=match oc P o ρ with
  |some (pre,v)=>some (pre,v,H)
  |none=>none:=by
 have hq':=hq;unfold uP at hq;rw[and_eq_true] at hq;rw[j4 hq.1];exact ak9 hq'
theorem ahH{own:List Nat}(hq:uP own o=true):dP o ρ=none:=by
 unfold uP at hq;rw[and_eq_true] at hq;have hk:=hq.2;unfold dP;cases hop:o.op<;>simp only[hop] at hk ⊢
 cases hk
def nc(o:Oper):Bool:=match o.op with
 | .alloc _ | .box ..=>false
 |_=>true
theorem aaP:∀ids,eD ids cq=cq
 | []=>rfl
 |_ :: r=>aaP r
theorem asL{pre:Prop}{v:AV}{H':aA}(hn:nc o=true)(h:gC P o ρ cq=some (pre,v,H')):oc P o ρ=some (pre,v):=by
 unfold gC at h;split at h
 ·rename_i hp;simp only[cA,iL] at h;obtain⟨rfl,rfl,_⟩:=h;exact hp
 ·rename_i hp;exfalso;have h0:mO P o ρ cq=none:=by
   unfold mO;cases hop:o.op<;>simp only[]
   case load t a=>cases ρ a<;>rfl
   case fieldAddr s a k=>cases ρ a<;>cases bP P s k<;>rfl
   case indexAddr t x i =>
    cases ρ x<;>try rfl
    cases ρ i<;>try rfl
    rename_i x;cases x<;>try rfl
    rename_i z;cases z<;>rfl
   case call c =>
    split
    ·rfl
    ·rfl
  have hD:xG P o ρ cq=none:=by
   unfold xG;cases hop:o.op<;>simp only[]
   case load t a=>cases ρ a<;>rfl
   case fieldAddr s a k=>cases ρ a<;>cases bP P s k<;>rfl
   case indexAddr t x i =>
    cases ρ x<;>try rfl
    all_goals
     cases ρ i<;>try rfl
     rename_i x;cases x<;>try rfl
     rename_i z;cases z<;>rfl
   case call c=>split<;>rfl
  have hE:yw P o ρ cq=none:=by
   unfold yw;cases hop:o.op<;>simp only[]
   case indexAddr t x i =>
    cases ρ x<;>try rfl
    cases ρ i<;>try rfl
    rename_i x;cases x<;>try rfl
    rename_i z;cases z<;>rfl
  have h1:rL P o ρ cq=none:=by unfold rL;rw[h0,hD,hE]
  have h2:wK P o ρ cq=none:=by
   unfold wK;cases hop:o.op<;>simp only[nc,hop] at hn ⊢<;>try (cases hn;done)
   case store t a x =>
    cases bl P t with
    |none=>rfl
    |some n =>
     simp only[];split
     ·cases ρ a<;>simp only[cq]
     ·rfl
   case call c =>
    split
    ·rename_i t1 t2 a b _ _ _;unfold abY;cases a<;>try rfl
     cases dy P t1 t2<;>rfl
    ·rfl
  have h3:xH P o ρ cq=none:=by
   unfold xH;cases hop:o.op<;>simp only[]
   case buildSlice t n ps =>
    rw[aaP];have:((ps.toList.map λx=>(x.1,ρ x.2)).map λx=>(x.1,yx cq x.2))=ps.toList.map λx=>(x.1,ρ x.2):=by rw[map_map];apply map_congr_left;intro x _;have:yx cq (ρ x.2)=ρ x.2:=akE _;simp[this]
    rw[this];unfold oc at hp;simp only[hop] at hp;cases hb:lT P t n (ps.toList.map λx=>(x.1,ρ x.2)) with
    |none=>rfl
    |some r=>obtain⟨e,es⟩:=r;rw[hb] at hp;cases n<;>simp at hp
  rw[h1,h2,h3] at h;cases h
theorem adl{own:List Nat}{H:aA}(hq:bS own o=true):gC P o ρ H=match oc P o ρ with
  |some (pre,v)=>some (pre,v,H)
  |none=>(match rL P o ρ H with
   |some (pre,v)=>some (pre,v,H)
   |none=>none):=by
 unfold bS at hq;rw[and_eq_true] at hq;have hk:=hq.2;unfold gC;cases hp:oc P o ρ with
 |some r=>rfl
 |none =>
  cases hx:rL P o ρ H with
  |some r=>rfl
  |none =>
   have hw:wK P o ρ H=none:=by
    unfold wK;cases hop:o.op<;>simp only[hop] at hk ⊢<;>try (cases hk;done)
    case call c =>
     cases hc:c.callee with
     |builtin b=>rw[hc] at hk;cases b<;>first|rfl|cases hk
     |_=>rfl
   have hs:xH P o ρ H=none:=by
    unfold xH;cases hop:o.op<;>simp only[hop] at hk ⊢
    cases hk
   rw[hw,hs]
theorem aas{H H':aA}(h:HSub H H'){id bf:Nat}{es:List (List PV)}(hr:rowOf H id bf=some es):rowOf H' id bf=some es:=by
 unfold rowOf at hr ⊢;cases hH:H id with
 |none=>rw[hH] at hr;cases hr
 |some c=>rw[h id c hH];rw[hH] at hr;exact hr
theorem awY{H H':aA}(h:HSub H H'){r:Prop×AV}(hx:mO P o ρ H=some r):mO P o ρ H'=some r:=by
 unfold mO at hx ⊢;cases hop:o.op<;>simp only[hop] at hx ⊢<;>try (cases hx;done)
 case load t a =>
  cases ha:ρ a<;>simp only[ha] at hx ⊢<;>try (cases hx;done)
  case ptr id off =>
   cases hH:H id with
   |none=>rw[hH] at hx;cases hx
   |some c=>rw[h id c hH];rw[hH] at hx;exact hx
  case jo id bf i off =>
   cases hr:rowOf H id bf with
   |none=>rw[hr] at hx;cases hx
   |some es=>rw[aas h hr];rw[hr] at hx;exact hx
 case fieldAddr s a k =>
  cases ha:ρ a<;>simp only[ha] at hx ⊢<;>try (cases hx;done)
  case jo id bf i off =>
   cases hf:bP P s k with
   |none=>rw[hf] at hx;cases hx
   |some f =>
    rw[hf] at hx;cases hr:rowOf H id bf with
    |none=>simp only[hr] at hx;cases hx
    |some es=>simp only[aas h hr];simp only[hr] at hx;exact hx
 case indexAddr t x i =>
  split at hx
  ·rename_i id bf k n hx1 hx2;cases hr:rowOf H id bf with
   |none=>rw[hr] at hx;cases hx
   |some es=>rw[aas h hr];rw[hr] at hx;exact hx
  ·cases hx
 case call c =>
  split at hx
  ·rename_i t id bf h1 h2 h3;cases hr:rowOf H id bf with
   |none=>rw[hr] at hx;cases hx
   |some es=>rw[aas h hr];rw[hr] at hx;exact hx
  ·cases hx
theorem rO{H H':aA}(h:HSub H H'){id bf:Nat}{r:Nat×List (List PV)}(hr:cO H id bf=some r):cO H' id bf=some r:=by
 unfold cO at hr ⊢;cases hH:H id with
 |none=>rw[hH] at hr;cases hr
 |some c=>rw[h id c hH];rw[hH] at hr;exact hr
theorem aat{H H':aA}(h:HSub H H'){id bf i:Nat}{l:List (List PV)}(hr:nw (cO H id bf) i=some l):nw (cO H' id bf) i=some l:=by
 cases hd:cO H id bf with
 |none=>rw[hd] at hr;cases hr
 |some r=>rw[rO h hd,<-hd];exact hr
theorem aA1{H H':aA}(h:HSub H H'){r:Prop×AV}(hx:xG P o ρ H=some r):xG P o ρ H'=some r:=by
 unfold xG at hx ⊢;cases hop:o.op<;>simp only[hop] at hx ⊢<;>try (cases hx;done)
 case load t a =>
  cases ha:ρ a<;>simp only[ha] at hx ⊢<;>try (cases hx;done)
  case kH id bf i off =>
   cases hr:cO H id bf with
   |none=>rw[hr] at hx;cases hx
   |some c=>rw[rO h hr];rw[hr] at hx;exact hx
  case nv id bf i j off =>
   cases hr:nw (cO H id bf) i with
   |none=>rw[hr] at hx;cases hx
   |some es=>rw[aat h hr];rw[hr] at hx;exact hx
 case fieldAddr s a k =>
  cases ha:ρ a<;>simp only[ha] at hx ⊢<;>try (cases hx;done)
  case kH id bf i off =>
   cases hf:bP P s k with
   |none=>rw[hf] at hx;cases hx
   |some f =>
    rw[hf] at hx;cases hr:cO H id bf with
    |none=>simp only[hr] at hx;cases hx
    |some es=>simp only[rO h hr];simp only[hr] at hx;exact hx
 case indexAddr t x i =>
  split at hx
  ·rename_i id bf k n hx1 hx2;cases hr:cO H id bf with
   |none=>rw[hr] at hx;cases hx
   |some es=>rw[rO h hr];rw[hr] at hx;exact hx
  ·rename_i id bf ii k n hx1 hx2;cases hr:nw (cO H id bf) ii with
   |none=>rw[hr] at hx;cases hx
   |some es=>rw[aat h hr];rw[hr] at hx;exact hx
  ·cases hx
 case call c =>
  split at hx
  ·rename_i t id bf h1 h2 h3;cases hr:cO H id bf with
   |none=>rw[hr] at hx;cases hx
   |some es=>rw[rO h hr];rw[hr] at hx;exact hx
  ·rename_i t id bf ii h1 h2 h3;cases hr:nw (cO H id bf) ii with
   |none=>rw[hr] at hx;cases hx
   |some es=>rw[aat h hr];rw[hr] at hx;exact hx
  ·cases hx
theorem aA2{H G:aA}{r:Prop×AV}(hx:xG P o ρ H=some r):mO P o ρ G=none:=by
 unfold xG at hx;unfold mO;cases hop:o.op<;>simp only[hop] at hx ⊢<;>try (cases hx;done)
 case load t a=>cases ha:ρ a<;>simp only[ha] at hx ⊢<;>(cases hx;done)
 case fieldAddr s a k=>cases ha:ρ a<;>simp only[ha] at hx ⊢<;>(cases hx;done)
 case indexAddr t x i =>
  split at hx
  ·rename_i id bf k n hx1 hx2;rw[hx1]
  ·rename_i id bf ii k n hx1 hx2;rw[hx1]
  ·cases hx
 case call c =>
  split at hx
  ·rename_i t id bf h1 h2 h3;rw[h3];split
   ·rename_i h;cases h
   ·rfl
  ·rename_i t id bf ii h1 h2 h3;rw[h3];split
   ·rename_i h;cases h
   ·rfl
  ·cases hx
theorem awZ{H H':aA}(h:HSub H H'){id bf:Nat}{r:Nat×List (List PV)}(hr:ac9 H id bf=some r):ac9 H' id bf=some r:=by
 unfold ac9 at hr ⊢;cases hH:H id with
 |none=>rw[hH] at hr;cases hr
 |some c=>rw[h id c hH];rw[hH] at hr;exact hr
theorem aA3{H H':aA}(h:HSub H H'){r:Prop×AV}(hx:yw P o ρ H=some r):yw P o ρ H'=some r:=by
 unfold yw at hx ⊢;cases hop:o.op<;>simp only[hop] at hx ⊢<;>try (cases hx;done)
 case indexAddr t x i =>
  split at hx
  ·rename_i id bf off m _ _ k n hx1 hx2;cases hr:ac9 H id bf with
   |none=>rw[hr] at hx;cases hx
   |some es=>rw[awZ h hr];rw[hr] at hx;exact hx
  ·cases hx
theorem aA4{H G:aA}{r:Prop×AV}(hx:yw P o ρ H=some r):mO P o ρ G=none/\xG P o ρ G=none:=by
 unfold yw at hx;unfold mO xG;cases hop:o.op<;>simp only[hop] at hx ⊢<;>try (cases hx;done)
 case indexAddr t x i =>
  split at hx
  ·rename_i id bf off m _ _ k n hx1 hx2;rw[hx1];exact⟨rfl,rfl⟩
  ·cases hx
theorem aA5{H H':aA}(h:HSub H H'){r:Prop×AV}(hx:rL P o ρ H=some r):rL P o ρ H'=some r:=by
 unfold rL at hx ⊢;split at hx
 ·rename_i r' h0;rw[awY h h0];exact hx
 ·split at hx
  ·rename_i r' hD;rw[aA2 hD,aA1 h hD];exact hx
  ·obtain⟨e1,e2⟩:=aA4 (G:=H') hx;rw[e1,e2];exact aA3 h hx
theorem pG{own:List Nat}{H H':aA}(h:HSub H H')(hq:bS own o=true){pre:Prop}{v:AV}(hx:gC P o ρ H=some (pre,v,H)):gC P o ρ H'=some (pre,v,H'):=by
 rw[adl hq] at hx ⊢;cases hp:oc P o ρ with
 |some r=>rw[hp] at hx;simp only[cA,iL] at hx ⊢;exact⟨hx.1,hx.2.1,trivial⟩
 |none =>
  rw[hp] at hx;cases hQ:rL P o ρ H with
  |none=>rw[hQ] at hx;cases hx
  |some r=>rw[hQ] at hx;rw[aA5 h hQ];simp only[cA,iL] at hx ⊢;exact⟨hx.1,hx.2.1,trivial⟩
theorem adm{H H':aA}(h:HSub H H'):∀ {a:AV} {r:PV×Bool},qb H a=some r->qb H' a=some r
 | .row id bf,r,hx=>by
  simp only[qb] at hx ⊢;cases hH:H id with
  |none=>rw[hH] at hx;cases hx
  |some c=>rw[h id c hH];rw[hH] at hx;exact hx
 | .p _,_,hx=>hx
 | .ptr _ _,_,hx=>by cases hx
 | .jo _ _ _ _,_,hx=>by cases hx
 | .agg _,_,hx=>by cases hx
 | .dW _,_,hx=>by cases hx
 | .iK _ _ _,_,hx=>by cases hx
 | .eP id bf,r,hx=>by
  simp only[qb] at hx ⊢;cases hd:cO H id bf with
  |none=>rw[hd] at hx;cases hx
  |some c=>rw[rO h hd];rw[hd] at hx;exact hx
 | .kI id bf i,r,hx=>by
  simp only[qb] at hx ⊢;cases hd:nw (cO H id bf) i with
  |none=>rw[hd] at hx;cases hx
  |some c=>rw[aat h hd];rw[hd] at hx;exact hx
 | .kH _ _ _ _,_,hx=>by cases hx
 | .nv _ _ _ _ _,_,hx=>by cases hx
 | .bsl _ _,_,hx=>by cases hx
 | .iM _ _ _ _ _ _,_,hx=>by cases hx
 | .dead,_,hx=>by cases hx
theorem oF{f g:AV->Option (PV×Bool)}(hfg:∀a r,f a=some r->g a=some r):∀ {eS:List AV} {r:List PV×Bool},eC f eS=some r->eC g eS=some r
 | [],r,hx=>hx
 |a :: eS,r,hx=>by
  unfold eC at hx ⊢;cases hf:f a with
  |none=>rw[hf] at hx;cases hx
  |some x =>
   rw[hf] at hx;rw[hfg a x hf];cases hl:eC f eS with
   |none=>rw[hl] at hx;cases hx
   |some y=>rw[oF hfg hl];rw[hl] at hx;exact hx
theorem asM{H H':aA}(h:HSub H H'){a:AV}{r:PV×Bool}(hx:aaK H a=some r):aaK H' a=some r:=by
 unfold aaK at hx ⊢;cases a<;>try exact adm h hx
 case ptr id off =>
  simp only[] at hx ⊢;cases hH:H id with
  |none=>rw[hH] at hx;cases hx
  |some c =>
   rw[h id c hH];rw[hH] at hx;cases c<;>simp only[] at hx ⊢<;>try (cases hx;done)
   case box cs =>
    cases hl:eC (qb H) cs with
    |none=>rw[hl] at hx;cases hx
    |some y=>rw[oF (λa r=>adm h) hl];rw[hl] at hx;exact hx
theorem wV{H H':aA}(h:HSub H H'){a:AV}{r:PV×Bool}(hx:oe H a=some r):oe H' a=some r:=by
 unfold oe at hx ⊢;cases a<;>try exact adm h hx
 case ptr id off =>
  simp only[] at hx ⊢;cases hH:H id with
  |none=>rw[hH] at hx;cases hx
  |some c =>
   rw[h id c hH];rw[hH] at hx;cases c<;>simp only[] at hx ⊢<;>try (cases hx;done)
   case box cs =>
    cases hl:eC (aaK H) cs with
    |none=>rw[hl] at hx;cases hx
    |some y=>rw[oF (λa r=>asM h) hl];rw[hl] at hx;exact hx
theorem ahI{H H':aA}(h:HSub H H'){a:AV}{r:PV×Bool}(hx:gR H a=some r):gR H' a=some r:=by
 unfold gR at hx ⊢;cases a<;>try exact wV h hx
 case agg cs =>
  simp only[] at hx ⊢;cases hl:eC (oe H) cs with
  |none=>rw[hl] at hx;cases hx
  |some y=>rw[oF (λa r=>wV h) hl];rw[hl] at hx;exact hx
 case dW cs =>
  simp only[] at hx ⊢;cases hl:eC (oe H) cs with
  |none=>rw[hl] at hx;cases hx
  |some y=>rw[oF (λa r=>wV h) hl];rw[hl] at hx;exact hx
 case iK fn fs cs =>
  simp only[] at hx ⊢;cases hf:eC (oe H) fs with
  |none=>rw[hf] at hx;cases hx
  |some x =>
   rw[oF (λa r=>wV h) hf];rw[hf] at hx;cases hl:eC (oe H) cs with
   |none=>rw[hl] at hx;cases hx
   |some y=>rw[oF (λa r=>wV h) hl];rw[hl] at hx;exact hx
theorem adn{H H':aA}(h:HSub H H'){x:PV}(hc:y5 P o ρ H x):y5 P o ρ H' x:=by obtain⟨k,eS,ps,b,h1,h2,h3,h4⟩:=hc;exact⟨k,eS,ps,b,h1,oF (λa r=>ahI h) h2,h3,h4⟩
theorem abh{own:List Nat}{H:aA}(hq:bS own o=true){x:PV}{G:aA}(hc:y5 P o ρ G x):gj P own o ρ H=none:=by
 obtain⟨k,eS,ps,b,h1,h2,h3,h4⟩:=hc;have hq':=hq;unfold bS at hq;rw[and_eq_true] at hq;rw[j4 hq.1,adl hq'];unfold dP at h1;split at h1
 ·rename_i c hop;split at h1
  ·rename_i f hc;unfold oc rL mO xG yw;simp only[hop,hc]
  ·cases h1
 ·cases h1
def ahJ(own:List Nat)(o:Oper):Bool:=match o.op with
 | .buildSlice .. | .makeSlice ..=>(match o.dst with
  |some d=>own.contains d
  |none=>false)
 | .alloc _ | .box ..=>true
 |_=>false
theorem aft{H:aA}{d:Nat}(hH:H d=none)(c:Chunk):HSub H (bh H d c):=λid x hx=>by
 unfold bh;split
 ·rename_i hi;rw[hi,hH] at hx;cases hx
 ·exact hx
theorem aqP{H H':aA}{pre:Prop}{v:AV}{d:Nat}(h:exN P o ρ H d=some (pre,v,H')):HSub H H':=by
  unfold exN at h;cases hH:H d with
  |some c=>rw[hH] at h;cases h
  |none =>
    rw[hH] at h;simp only[] at h
    repeat' split at h
    all_goals first
      |(cases h;done)
      | (simp only [cA, iL] at h
         obtain⟨_,_,h3⟩:=h;rw[<-h3];exact aft hH _)
theorem aqQ{H H':aA}{pre:Prop}{v:AV}(hn:(match o.op with | .alloc _ | .box ..=>true|_=>false)=true)(h:gC P o ρ H=some (pre,v,H')):HSub H H':=by
 unfold gC at h;split at h
 ·simp only[cA,iL] at h;rw[<-h.2.2];exact λ_ _ h=>h
 ·split at h
  ·simp only[cA,iL] at h;rw[<-h.2.2];exact λ_ _ h=>h
  ·have hs:xH P o ρ H=none:=by unfold xH;cases hop:o.op<;>simp only[hop] at hn ⊢<;>cases hn
   rw[hs] at h;split at h
   ·rename_i r hr;simp only[cA] at h;subst h;unfold wK at hr;cases hop:o.op<;>simp only[hop] at hn hr<;>try (cases hn;done)
    case alloc e =>
     split at hr
     ·split at hr
      ·rename_i hH _;split at hr
       ·simp only[cA,iL] at hr;rw[<-hr.2.2];exact aft hH _
       ·cases hr
      ·cases hr
     ·cases hr
    case box e x =>
     split at hr
     ·split at hr
      ·rename_i hH;split at hr
       ·simp only[cA,iL] at hr;rw[<-hr.2.2];exact aft hH _
       ·cases hr
      ·cases hr
     ·cases hr
   ·cases h
theorem ahK{own:List Nat}{H H':aA}{pre:Prop}{v:AV}(hn:ahJ own o=true)(h:gj P own o ρ H=some (pre,v,H')):HSub H H':=by
 have own_case:∀d,o.dst=some d->own.contains d=true->isApp o.op=false->HSub H H':=λd hd hc ha=>by
  unfold gj at h;simp only[hd,hc,if_true,ha] at h;unfold orE at h;split at h
  ·rename_i hx;exact aqP (hx.trans h)
  ·rename_i hb;cases hb
  ·cases h
 have ab_case:(match o.op with | .alloc _ | .box ..=>true|_=>false)=true->isApp o.op=false->HSub H H':=λhab ha=>by
  unfold gj at h;split at h
  ·rename_i d hd;split at h
   ·rename_i hc;exact own_case d hd hc ha
   ·exact aqQ hab h
  ·exact aqQ hab h
 unfold ahJ at hn;cases hop:o.op<;>simp only[hop] at hn<;>try (cases hn;done)
 case buildSlice =>
  split at hn
  ·rename_i d hd;exact own_case d hd hn (by rw[hop];rfl)
  ·cases hn
 case makeSlice =>
  split at hn
  ·rename_i d hd;exact own_case d hd hn (by rw[hop];rfl)
  ·cases hn
 case alloc=>exact ab_case (by rw[hop]) (by rw[hop];rfl)
 case box=>exact ab_case (by rw[hop]) (by rw[hop];rfl)
def tc(H:aA):aA:=λid=>match H id with
 |some (.box cs)=>some (.box cs)
 |_=>none
theorem ala(H:aA):HSub (tc H) H:=λid c h=>by
 unfold tc at h;split at h
 ·rename_i cs hH;rw[hH];exact h
 ·cases h
def aw0(o:Oper):Bool:=isApp o.op
theorem aau{H H':aA}(h:HSub H H'):HSub (tc H) (tc H'):=λid c hc=>by
 have:=h id c (ala H id c hc);unfold tc at hc ⊢;split at hc
 ·rename_i cs hH;rw[h id _ hH];exact hc
 ·cases hc
theorem ajt{H H':aA}{pre:Prop}{v:AV}(hn:isApp o.op=true)(h:gC P o ρ H=some (pre,v,H')):HSub (tc H) (tc H'):=by
 have hk:=hn;unfold isApp at hk;unfold gC at h;split at h
 ·simp only[cA,iL] at h;rw[<-h.2.2];exact λ_ _ h=>h
 ·split at h
  ·simp only[cA,iL] at h;rw[<-h.2.2];exact λ_ _ h=>h
  ·cases hop:o.op<;>simp only[hop] at hk<;>try (cases hk;done)
   case call c =>
    have hs:xH P o ρ H=none:=by unfold xH;simp only[hop]
    rw[hs] at h;unfold wK at h;simp only[hop] at h;split at h
    ·rename_i r hr;split at hr
     ·unfold abY at hr;split at hr
      ·rename_i id bf _ _ _ _ _;cases hH:H id with
       |none=>rw[hH] at hr;cases hr
       |some ch =>
        rw[hH] at hr;cases ch<;>simp only[] at hr<;>try (cases hr;done)
        split at hr
        ·split at hr
         ·simp only[cA] at hr h;subst hr;simp only[iL] at h;rw[<-h.2.2];intro i c' qE;unfold tc bh at *;by_cases hi:i=id
          ·rw[hi,hH] at qE;cases qE
          ·rw[if_neg hi];exact qE
         ·cases hr
        ·cases hr
      ·cases hr
     ·cases hr
    ·cases h
theorem ahL{own:List Nat}{H H':aA}{pre:Prop}{v:AV}(hn:aw0 o=true)(h:gj P own o ρ H=some (pre,v,H')):HSub (tc H) (tc H'):=by
 unfold gj at h;split at h
 ·split at h
  ·unfold orE at h;split at h
   ·rename_i hx;exact aau (aqP (hx.trans h))
   ·exact ajt hn h
   ·cases h
  ·exact ajt hn h
 ·exact ajt hn h
end Go.cv
namespace Go.cv
open Go.RowKit
variable{P:Program}{N:Nat}{own:List Nat}{ops:Array Oper}{K:Env->aA->Prop}{tl:Nat->Bool}
inductive oE where
 |p|b|q|w|o|s|f|t
def lK(own:List Nat)(ops:Array Oper)(d:Nat):Bool:=(ops.toList.any λo=>o.dst == some d&&match o.op with
 | .alloc _=>true
 | .box ..=>true
 | .buildSlice ..=>true
 | .makeSlice ..=>true
 |_=>false)||own.contains (2000000+d)
def appArg:Op->Option (Nat×Operand)
 | .call c=>(match c.callee,c.args.toList,c.argTypes.toList with
  | .builtin .append,[.tmp a,s],[_,_]=>some (a,s)
  |_,_,_=>none)
 |_=>none
theorem y9{o:Op}{a:Nat}{s:Operand}(h:appArg o=some (a,s)):∃t1 t2,o = .call ⟨.builtin .append,#[.tmp a,s],#[t1,t2]⟩:=by
 unfold appArg at h;split at h
 ·rename_i c;obtain⟨ce,ar,ts⟩:=c;simp only at h;split at h
  ·rename_i a' s' t1 t2 h1 h2;simp only[cA,iL] at h;obtain⟨rfl,rfl⟩:=h;refine⟨t1,t2,?_⟩;cases ar;cases ts;simp only at h1 h2;subst h1 h2;rfl
  ·cases h
 ·cases h
def p0:List Nat->Nat->Nat
 | [],a=>a
 |c :: r,a=>if 9000000<=c then (if (c-9000000) / 1000=a then 1000000+(c-9000000) % 1000 else p0 r a) else p0 r a
theorem aom(a:Nat):p0 [] a=a:=rfl
theorem alb(c:Nat)(r:List Nat)(a:Nat):p0 (c :: r) a=if 9000000<=c then (if (c-9000000) / 1000=a then 1000000+(c-9000000) % 1000 else p0 r a) else p0 r a:=rfl
def za(own:List Nat)(ops:Array Oper)(o:Oper):Option Nat:=match appArg o.op with
 |some (a,_)=>if ((own.contains a||p0 own a != a)&&lK own ops (p0 own a))=true then some (p0 own a) else none
 |none=>none
def aee(own:List Nat)(o:Oper)(env:Env):Prop:=match appArg o.op with
 |some (a,s)=>(∃v,env a = .row (p0 own a) v)/\∃x,ev env s = .p x
 |none=>True
def qc(own:List Nat)(ops:Array Oper)(o:Oper):Bool:=(match o.op with
 | .store _ (.tmp d) _=>lK own ops d
 |_=>false)||(za own ops o).isSome
def ado(own:List Nat)(ops:Array Oper)(o:Oper)(env:Env):Prop:=(match o.op with
 | .store _ (.tmp d) _=>lK own ops d=true->∃off,env d = .ptr d off
 |_=>True)/\((za own ops o).isSome=true->aee own o env)
def pH(own:List Nat)(ops:Array Oper)(H:aA):aA:=λi=>if lK own ops i then none else H i
theorem afu(own:List Nat)(ops:Array Oper)(H:aA):HSub (pH own ops H) H:=λi c h=>by
 unfold pH at h;split at h
 ·cases h
 ·exact h
theorem ahM(own:List Nat)(ops:Array Oper){H G:aA}(h:HSub H G):HSub (pH own ops H) (pH own ops G):=λi c hc=>by
 unfold pH at hc ⊢;split at hc
 ·cases hc
 ·rename_i hn;rw[if_neg hn];exact h i c hc
theorem afv(own:List Nat)(ops:Array Oper)(H:aA){d:Nat}(c:Chunk)(h:lK own ops d=true):pH own ops (bh H d c)=pH own ops H:=by
 funext i;unfold pH bh;split
 ·rfl
 ·rename_i hn;rw[if_neg];intro hi;subst hi;exact hn h
def uQ(own:List Nat)(ops:Array Oper)(o:Oper):Option Nat:=match o.op with
 | .alloc _=>(match o.dst with|some d=>if own.contains d=true then none else if lK own ops d=true then some d else none|none=>none)
 | .box ..=>(match o.dst with|some d=>if own.contains d=true then none else if lK own ops d=true then some d else none|none=>none)
 | .store _ (.tmp d) _=>(match o.dst with|some _=>none|none=>if lK own ops d=true then some d else none)
 | .buildSlice ..=>(match o.dst with|some d=>if own.contains d=true then (if lK own ops d=true then some d else none) else none|none=>none)
 | .makeSlice ..=>(match o.dst with|some d=>if own.contains d=true then (if lK own ops d=true then some d else none) else none|none=>none)
 | .call _=>za own ops o
 |_=>none
theorem aju{o:Oper}{ρ:Operand->AV}{H:aA}(ho:(match o.op with | .alloc _=>true | .box ..=>true | .store ..=>true|_=>false)=true):gC P o ρ H=wK P o ρ H:=by
 obtain⟨d,op,t,pos,af,g⟩:=o;cases op<;>first|(cases ho;done)|skip
 all_goals
  simp only[gC,oc,rL,mO,xG,yw,xH];all_goals(cases wK P _ ρ H<;>rfl)
def aA6(P:Program)(own:List Nat)(o:Oper)(ρ:Operand->AV)(d:Nat):Prop:=∃φ:Option Chunk->Option (Prop×AV×Chunk),∀G,gj P own o ρ G=match φ (G d) with|some (pre,v,c)=>some (pre,v,bh G d c)|none=>none
theorem ab6{o:Oper}{env:Env}{d:Nat}(h:uQ own ops o=some d)(hs:ado own ops o env):aA6 P own o (ev env) d/\lK own ops d=true:=by
 obtain⟨dst,op,t,pos,af,g⟩:=o;unfold uQ at h;cases op<;>simp only at h<;>try (cases h;done)
 case buildSlice ty n parts =>
  cases dst with
  |none=>cases h
  |some k =>
   simp only at h;split at h
   ·rename_i hn;split at h
    ·rename_i hw;simp only[cA] at h;subst h;refine⟨⟨λc=>match c with
      |some _=>none
      |none=>(match lT P ty n (parts.toList.map λx=>(x.1,ev env x.2)) with
       |some (e,es)=>(match bl P e with
        |some sz=>some (True,.row k 0,.row 0 e sz es)
        |none=>none)
       |none=>(match vF P ty n (parts.toList.map λx=>(x.1,ev env x.2)) with
        |some (_,cs)=>some (True,.bsl k n,.box cs)
        |none=>none)),λG=>?_⟩,hw⟩
     simp only[gj];rw[if_pos hn];simp only[exN];cases hG:G k with
     |some _=>simp only[orE,isApp]
     |none =>
      simp only;cases lT P ty n (parts.toList.map λx=>(x.1,ev env x.2)) with
      |none =>
       simp only;cases vF P ty n (parts.toList.map λx=>(x.1,ev env x.2)) with
       |none=>simp only[orE,isApp]
       |some r=>obtain⟨e,cs⟩:=r;simp only[orE,isApp]
      |some r=>obtain⟨e,es⟩:=r;simp only;cases bl P e<;>simp only[orE,isApp]
    ·cases h
   ·cases h
 case makeSlice ty l c =>
  cases dst with
  |none=>cases h
  |some k =>
   simp only at h;split at h
   ·rename_i hn;split at h
    ·rename_i hw;simp only[cA] at h;subst h;refine⟨⟨λq=>match q with
      |some _=>none
      |none=>(match exN P ⟨some k,.makeSlice ty l c,t,pos,af,g⟩ (ev env) cq k with
       |some (pre,v,H')=>(match H' k with
        |some ch=>some (pre,v,ch)
        |none=>none)
       |none=>none),λG=>?_⟩,hw⟩
     simp only[gj];rw[if_pos hn];simp only[exN];cases hG:G k with
     |some _=>simp only[orE,isApp]
     |none =>
      simp only[show cq k=none from rfl];split
      ·split
       ·split
        ·simp only[orE,bh,if_true]
        ·simp only[orE,isApp]
       ·simp only[orE,isApp]
      ·simp only[orE,isApp]
    ·cases h
   ·cases h
 case call cl =>
  have hk:(za own ops ⟨dst,.call cl,t,pos,af,g⟩).isSome=true:=by rw[h];rfl
  have hst:aee own ⟨dst,.call cl,t,pos,af,g⟩ env:=hs.2 hk;unfold za at h;unfold aee at hst;split at h
  ·rename_i a s heq;obtain⟨t1,t2,aEk⟩:=y9 heq;rw[heq] at hst;simp only at hst;simp only[Op.call.injEq] at aEk;subst aEk;split at h
   ·rename_i hw;simp only[cA] at h;subst h;rw[and_eq_true] at hw;obtain⟨⟨bf,h1⟩,x,h2⟩:=hst;have ur:ev env (.tmp a) = .row (p0 own a) bf:=h1;have hsrc:∀G:aA,vG G (.p x)=vG cq (.p x):=λG=>by
     cases x with
     |val v =>
      cases v with
      |slice a n c=>cases n<;>rfl
      |_=>rfl
     |_=>rfl
    refine⟨⟨λc=>match dy P t1 t2,c with
     | some (e', sz', qz), some (.row v e sz es) => if v = bf ∧ e = e' ∧ sz = sz' then (match vG cq (.p x) with
       |some ns=>some ((es.length+ns.length) * qz<=140737488355328/\∀x∈ns,x.length=sz,.row (p0 own a) (bf+1),.row (bf+1) e sz (es++ns))
       |none=>none) else none
     |_,_=>none,λG=>?_⟩,hw.2⟩
    have hM:gj P own ⟨dst,.call ⟨.builtin .append,#[.tmp a,s],#[t1,t2]⟩,t,pos,af,g⟩ (ev env) G=gC P ⟨dst,.call ⟨.builtin .append,#[.tmp a,s],#[t1,t2]⟩,t,pos,af,g⟩ (ev env) G:=by
     unfold gj;cases dst with
     |none=>rfl
     |some k =>
      simp only;split
      ·have:exN P ⟨some k,.call ⟨.builtin .append,#[.tmp a,s],#[t1,t2]⟩,t,pos,af,g⟩ (ev env) G k=none:=by
        unfold exN;cases G k with
        |some _=>rfl
        |none=>simp only[map_cons,map_nil,ur]
       rw[this];rfl
      ·rfl
    rw[hM,afp,ur,h2,akY];cases hT:dy P t1 t2 with
    |none=>simp only[aAS]
    |some r =>
     obtain⟨e',sz',qz⟩:=r;rw[akZ,hsrc];cases hG:G (p0 own a) with
     |none=>simp only
     |some c =>
      cases c with
      |row v e sz es =>
       simp only;split
       ·cases vG cq (.p x)<;>simp only
       ·rfl
      |box cs=>simp only
      |tail v e sz es=>simp only
      |shut v es=>simp only
      |deep v e sz k e' sz' es=>simp only
   ·cases h
  ·cases h
 case alloc e =>
  cases dst with
  |none=>cases h
  |some k =>
   simp only at h;split at h
   ·cases h
   ·rename_i hn;split at h
    ·rename_i hw;simp only[cA] at h;subst h;refine⟨⟨λc=>match c,cN P e with
      |none,some zs=>if zs.all (·.oneCell')=true then some (True,.ptr k 0,.box (zs.map λz=>.p (.val z))) else none
      |_,_=>none,λG=>?_⟩,hw⟩
     simp only[gj];rw[if_neg hn,aju rfl];simp only[wK];cases hG:G k with
     |some _=>simp only
     |none =>
      cases cN P e with
      |none=>simp only
      |some zs=>simp only;split<;>rfl
    ·cases h
 case box e x =>
  cases dst with
  |none=>cases h
  |some k =>
   simp only at h;split at h
   ·cases h
   ·rename_i hn;split at h
    ·rename_i hw;simp only[cA] at h;subst h;refine⟨⟨λc=>match c with
      |none=>if (b6 (ev env x)).all od=true then some (True,.ptr k 0,.box (b6 (ev env x))) else none
      |some _=>none,λG=>?_⟩,hw⟩
     simp only[gj];rw[if_neg hn,aju rfl];simp only[wK];cases hG:G k with
     |some _=>simp only
     |none=>simp only;split<;>rfl
    ·cases h
 case store e a x =>
  cases a with
  |tmp k =>
   cases dst with
   |some _=>cases h
   |none =>
    simp only at h;split at h
    ·rename_i hw;simp only[cA] at h;subst h;obtain⟨off,hp⟩:=hs.1 hw;refine⟨⟨λc=>match bl P e with
      |some n=>if (b6 (ev env x)).length=n/\(b6 (ev env x)).all od=true then match c with
       |some (.box cs)=>if off+n<=cs.length then some (True,.dead,.box (splice cs off (b6 (ev env x)))) else none
       |_=>none
       else none
      |none=>none,λG=>?_⟩,hw⟩
     have he:ev env (.tmp k) = .ptr k off:=hp;simp only[gj];rw[aju rfl];simp only[wK,he];cases bl P e with
     |none=>simp only
     |some n =>
      simp only;split
      ·cases hG:G k with
       |none=>simp only
       |some c =>
        cases c<;>simp only
        split<;>rfl
      ·rfl
    ·cases h
  |_=>cases h
def afw(P:Program)(own:List Nat)(ops:Array Oper)(o:Oper)(ρ:Operand->AV)(H:aA)(v:AV)(H':aA):Prop :=
 ∃k eS ps b r,∃id:Nat,dP o ρ=some (k,eS)/\eC (gR (pH own ops H)) eS=some (ps,b)/\bt P k ps (λx=>x=r)/\(b=true->r.flat=true) /\
  (∀i,id<=i->i<(dw id r).2->H i=none/\lK own ops i=false)/\v=(dw id r).1/\H'=iC id H r
theorem alc:∀ (r:RV) (k:Nat) (H:aA) (d:Nat) (c:Chunk),(d<k\/(dw k r).2<=d)->iC k (bh H d c) r=bh (iC k H r) d c:=by
 intro r;refine RV.rec (motive_1:=λr=>∀k (H:aA) d c,(d<k\/(dw k r).2<=d)->iC k (bh H d c) r=bh (iC k H r) d c) (motive_2:=λrs=>∀k (H:aA) d c,(d<k\/(jt k rs).2<=d)->kY k (bh H d c) rs=bh (kY k H rs) d c) ?_ ?_ ?_ ?_ ?_ ?_ ?_ r
 ·intro x k H d c _;rfl
 ·intro e sz es k H d c hd;have hne:d≠k:=by
   rintro rfl;rcases hd with h|h
   ·exact lt_irrefl _ h
   ·exact lt_irrefl _ h
  exact kP H c _ hne
 ·intro e sz j e' sz' es k H d c hd;have hne:d≠k:=by
   rintro rfl;rcases hd with h|h
   ·exact lt_irrefl _ h
   ·exact lt_irrefl _ h
  exact kP H c _ hne
 ·intro rs ih k H d c hd;exact ih k H d c hd
 ·intro rs ih k H d c hd;exact ih k H d c hd
 ·intro k H d c _;rfl
 ·intro r rs ih1 ih2 k H d c hd;show kY _ (iC k (bh H d c) r) rs=bh (kY _ (iC k H r) rs) d c;have h1:=y7 r k;have h2:=ade rs (dw k r).2;have hd':d<k\/(jt (dw k r).2 rs).2<=d:=hd;rw[ih1 k H d c (by omega),ih2 _ _ d c (by omega)]
theorem zb{o:Oper}{ρ:Operand->AV}{H H':aA}{v:AV}(h:afw P own ops o ρ H v H'):HSub H H':=by
 obtain⟨k,eS,ps,b,r,id,_,_,_,_,h5,_,rfl⟩:=h;intro i c hc;rw[abd r id H i,hc];rcases lt_or_ge i id with h|h
 ·exact .inl h
 ·rcases lt_or_ge i (dw id r).2 with h'|h'
  ·rw[(h5 i h h').1] at hc;cases hc
  ·exact .inr h'
theorem ab7{o:Oper}{ρ ρ':Operand->AV}{H H':aA}{v:AV}(h:∀x∈o.op.operands,ρ x=ρ' x)(hc:afw P own ops o ρ H v H'):afw P own ops o ρ' H v H':=by obtain⟨k,eS,ps,b,r,id,h1,h2⟩:=hc;exact⟨k,eS,ps,b,r,id,(y8 h) ▸ h1,h2⟩
theorem aon{o:Oper}{ρ:Operand->AV}{H:aA}(hq:bS own o=true){x:FuncId×List AV}(h1:dP o ρ=some x):gj P own o ρ H=none:=by
 have hq':=hq;unfold bS at hq;rw[and_eq_true] at hq;rw[j4 hq.1,adl hq'];unfold dP at h1;split at h1
 ·rename_i c hop;split at h1
  ·rename_i f hc;unfold oc rL mO xG yw;simp only[hop,hc]
  ·cases h1
 ·cases h1
def jO(P:Program)(own:List Nat)(ops:Array Oper)(c:oE)(o:Oper)(env:Env)(H:aA)(v:AV)(H':aA):Prop:=match c with
 | .p=>∃pre,oc P o (ev env)=some (pre,v)/\pre/\H'=H/\(match o.dst with|some d=>!own.contains d|none=>true)=true
 | .q=>bS own o=true/\H'=H/\((∃pre,gC P o (ev env) H=some (pre,v,H)/\pre)\/(∃x,v = .p x/\y5 P o (ev env) H x/\gj P own o (ev env) H=none))
 | .b=>bS own o=true/\H'=H/\∃pre,gC P o (ev env) (tc H)=some (pre,v,tc H)/\pre
 | .w=>∃pre,gj P own o (ev env) H=some (pre,v,H')/\pre
 | .s=>∃pre,gj P own o (ev env) H=some (pre,v,H')/\pre
 | .f=>bS own o=true/\afw P own ops o (ev env) H v H'
 | .t=>False
 | .o=>bS own o=true/\H'=H/\((∃pre,gC P o (ev env) (pH own ops H)=some (pre,v,pH own ops H)/\pre)\/(∃x,v = .p x/\y5 P o (ev env) (pH own ops H) x/\gj P own o (ev env) (pH own ops H)=none))
theorem aqR{o:Oper}{env:Env}{H H':aA}{v:AV}(h:jO P own ops .b o env H v H'):jO P own ops .q o env H v H':=by obtain⟨h1,rfl,pre,h2,h3⟩:=h;exact⟨h1,rfl,.inl ⟨pre,pG (ala _) h1 h2,h3⟩⟩
theorem aqS{o:Oper}{env:Env}{H H':aA}{v:AV}(h:jO P own ops .o o env H v H'):jO P own ops .q o env H v H':=by
 obtain⟨h1,rfl,⟨pre,h2,h3⟩|⟨x,h2,h3,h4⟩⟩:=h
 ·exact⟨h1,rfl,.inl ⟨pre,pG (afu own ops _) h1 h2,h3⟩⟩
 ·exact⟨h1,rfl,.inr ⟨x,h2,adn (afu own ops _) h3,abh h1 h3⟩⟩
theorem aw1{c:oE}{o:Oper}{env:Env}{H H':aA}{v:AV}(h:jO P own ops c o env H v H'){W:Env->aA->Prop}(hW:W (cL env o.dst v) H') :
  match gj P own o (ev env) H with
   |some (pre,v,H')=>pre/\W (cL env o.dst v) H'
   |none=>jF P o W env H:=by
 have hq : jO P own ops .q o env H v H' → (match gj P own o (ev env) H with
   |some (pre,v,H')=>pre/\W (cL env o.dst v) H'
   |none=>jF P o W env H):=λh=>by
  obtain⟨h1,rfl,h2|⟨x,rfl,h2,h3⟩⟩:=h
  ·obtain⟨pre,h3,h4⟩:=h2;unfold bS at h1;rw[and_eq_true] at h1;rw[j4 h1.1,h3];exact⟨h4,hW⟩
  ·rw[h3];exact .inl (.inl ⟨[],xQ h2 hW⟩)
 cases c with
 |p=>obtain⟨pre,h1,h2,rfl,h3⟩:=h;rw[j4 h3];unfold gC;rw[h1];exact⟨h2,hW⟩
 |b=>exact hq (aqR h)
 |q=>exact hq h
 |o=>exact hq (aqS h)
 |w=>obtain⟨pre,h1,h2⟩:=h;rw[h1];exact⟨h2,hW⟩
 |s=>obtain⟨pre,h1,h2⟩:=h;rw[h1];exact⟨h2,hW⟩
 |f=>obtain⟨hq',k,eS,ps,b,r,id,h1,h2,h3,h4,h5,rfl,rfl⟩:=h;rw[aon hq' h1];exact .inl (.inr (.inr ⟨[],.inl ⟨k,eS,ps,b,_,id,h1,oF (λa r=>ahI (afu own ops H)) h2,h3,λr' hr=>by subst hr;exact⟨h4,λi a b=>(h5 i a b).1,hW⟩⟩⟩))
 |t=>exact h.elim
theorem aef{o:Oper}{W W':Env->aA->Prop}{env:Env}{H:aA}(h:∀e G,W e G->W' e G)(hh:adh P o W env H):adh P o W' env H:=by
 rcases hh with ⟨ids,k,eS,ps,b,Q,h1,h2,h3,h4⟩|⟨k,ps,x,h1,h2,h3⟩|⟨ids,⟨k,eS,ps,b,Q,id,h1,h2,h3,h4⟩|⟨k,id,v,e,sz,es,eS,ps,b,Q,h1,h2,h3,h4,h5⟩⟩
 ·exact .inl ⟨ids,k,eS,ps,b,Q,h1,h2,h3,λr hr=>⟨(h4 r hr).1,h _ _ (h4 r hr).2⟩⟩
 ·exact .inr (.inl ⟨k,ps,x,h1,h2,h _ _ h3⟩)
 ·exact .inr (.inr ⟨ids,.inl ⟨k,eS,ps,b,Q,id,h1,h2,h3,λr hr=>⟨(h4 r hr).1,(h4 r hr).2.1,h _ _ (h4 r hr).2.2⟩⟩⟩)
 ·refine .inr (.inr ⟨ids,.inr ⟨k,id,v,e,sz,es,eS,ps,b,Q,h1,h2,h3,h4,λa c hq=>?_⟩⟩);obtain⟨v',e',sz',es',a',q1,q2,q3,q4⟩:=h5 a c hq;exact⟨v',e',sz',es',a',q1,q2,q3,h _ _ q4⟩
theorem aoo{o:Oper}{W W':Env->aA->Prop}{env:Env}{H:aA}(h:∀e G,W e G->W' e G)(hh:jF P o W env H):jF P o W' env H:=by
 have hC:∀ {env H},ab3 P o W env H->ab3 P o W' env H:=λhc C I L tm w σ hs hσ=>by obtain⟨k,args,q1,q2⟩:=hc C I L tm w σ hs hσ;exact⟨k,args,q1,q2.mono λe w' ⟨v,I',L',a,H',m1,m2,m3⟩=>⟨v,I',L',a,H',m1,h _ _ m2,m3⟩⟩
 have hR:∀ {env H},ahF P o W env H->ahF P o W' env H:=λ⟨v,H',q1,q2⟩=>⟨v,H',h _ _ q1,q2⟩
 rcases hh with hh|⟨e2,H2,q1,⟨pre,v,H',q2,q3,q4⟩|q|q|q⟩|hh|hh
 ·exact .inl (aef h hh)
 ·exact .inr (.inl ⟨e2,H2,q1,.inl ⟨pre,v,H',q2,q3,h _ _ q4⟩⟩)
 ·exact .inr (.inl ⟨e2,H2,q1,.inr (.inl (aef h q))⟩)
 ·exact .inr (.inl ⟨e2,H2,q1,.inr (.inr (.inl (hR q)))⟩)
 ·exact .inr (.inl ⟨e2,H2,q1,.inr (.inr (.inr (hC q)))⟩)
 ·exact .inr (.inr (.inl (hR hh)))
 ·exact .inr (.inr (.inr (hC hh)))
def opK(P:Program)(own:List Nat)(o:Oper)(W:Env->aA->Prop)(env:Env)(H:aA):Prop:=match gj P own o (ev env) H with
 |some (pre,v,H')=>pre/\W (cL env o.dst v) H'
 |none=>jF P o W env H
theorem ald{o:Oper}{W W':Env->aA->Prop}{env:Env}{H:aA}(h:∀e G,W e G->W' e G)(hh:opK P own o W env H):opK P own o W' env H:=by
 unfold opK at *;split at hh
 ·exact⟨hh.1,h _ _ hh.2⟩
 ·exact aoo h hh
def aqT(P:Program)(own:List Nat)(ops:Array Oper)(o:Oper)(W:Env->aA->Prop)(env:Env)(H:aA):Prop:=(lE ops o env=some false/\W (cL env o.dst (.dW [])) H)\/(lE ops o env=some true/\opK P own o W env H)
def aOp(P:Program)(own:List Nat)(ops:Array Oper)(tl:Nat->Bool)(i:Nat)(W:Env->aA->Prop)(env:Env)(H:aA):Prop:=match ops[i]? with
 |none=>W env H
 |some o=>(lE ops o env=some false/\W (cL env o.dst (.dW [])) H)\/(lE ops o env=some true/\((ado own ops o env/\∃c v H',jO P own ops c o env H v H'/\W (cL env o.dst v) H')\/(tl i=true/\opK P own o W env H)))
def ale(P:Program)(own:List Nat)(ops:Array Oper)(tl:Nat->Bool)(K:Env->aA->Prop):Nat->Array Bool->Env->aA->Prop
 |0,listed,env,H=>Region.ready .any ops listed=[]/\K env H
 |fuel+1,listed,env,H=>(Region.ready .any ops listed=[]->K env H) /\
  ∀i∈Region.ready .any ops listed,aOp P own ops tl i (ale P own ops tl K fuel (listed.setIfInBounds i true)) env H
theorem rP{C:Ctx}(hd:∀ (i:Nat) o,ops[i]? = some o->uO C.n o.dst){Q:Exit->Act->World->Prop}
  (hK:∀env H I L tm w,K env H->gQ C env H I L tm w->Q .normal ⟨tm,[]⟩ w):∀ (fuel:Nat) (listed:Array Bool) (env:Env) (H:aA) (I:Mem) (L:bA) (tm:Array Value) (w:World),
  ale P own ops tl K fuel listed env H->gQ C env H I L tm w->wpAny P .any ops Q fuel listed ⟨tm,[]⟩ w
 |0,listed,env,H,I,L,tm,w,h,hs=>⟨h.1,hK env H I L tm w h.2 hs⟩
 |fuel+1,listed,env,H,I,L,tm,w,h,hs=>by
  refine⟨λh0=>hK env H I L tm w (h.1 h0) hs,λi hi=>?_⟩;have hi:=h.2 i hi;unfold aOp at hi;unfold wpOp;cases ho:ops[i]? with
  |none=>rw[ho] at hi;exact rP hd hK fuel _ env H I L tm w hi hs
  |some o =>
   rw[ho] at hi;simp only[];have hdo:=hd i o ho;rcases hi with ⟨hg,hi⟩|⟨hg,⟨_,c,v,H',hst,hi⟩|⟨_,hi⟩⟩
   ·rw[if_neg (by rw[mX hg hs];simp)];have e:(Act.put ⟨tm,[]⟩ o.dst undef:Act)=⟨(Act.put ⟨tm,[]⟩ o.dst undef).tmps,[]⟩:=by cases o.dst<;>rfl
    rw[e];exact rP hd hK fuel _ _ H I L _ w hi (hs.cL hdo (.dW [] [] rfl (by simp)) [])
   ·rw[if_pos (mX hg hs)];exact .inl (ajl (aw1 hst hi) hs hdo λenv' H' I' L' tm' w' hw hs'=>rP hd hK fuel _ env' H' I' L' tm' w' hw hs')
   ·rw[if_pos (mX hg hs)];exact .inl (ajl hi hs hdo λenv' H' I' L' tm' w' hw hs'=>rP hd hK fuel _ env' H' I' L' tm' w' hw hs')
def afx(ops:Array Oper)(anc:Nat->Nat->Bool):Bool :=
 (range ops.size).all λj=>(range ops.size).all λi=>!anc j i||match ops[j]? with
  |some o=>o.after.toList.any λe=>Region.binds .any e&&decide (e.on<j)&&(e.on == i||anc e.on i)
  |none=>false
theorem afy{anc:Nat->Nat->Bool}(h:afx ops anc=true){i j:Nat}{o:Oper}(hj:ops[j]? = some o)(hi:i<ops.size)(ha:anc j i=true) :
  ∃e∈o.after,Region.binds .any e=true/\e.on<j/\(e.on=i\/anc e.on i=true):=by
 have aHC:j<ops.size:=(Array.getElem?_eq_some_iff.1 hj).1;have h1:=all_eq_true.1 h j (mem_range.2 aHC);have h2:=all_eq_true.1 h1 i (mem_range.2 hi);rw[ha,hj] at h2;simp only[Bool.not_true,Bool.false_or] at h2;obtain⟨e,he,h3⟩:=any_eq_true.1 h2;simp only[and_eq_true,decide_eq_true_eq,or_eq_true,beq_iff_eq] at h3;exact⟨e,by simpa using he,h3.1.1,h3.1.2,h3.2⟩
def rQ(ops:Array Oper)(listed:Array Bool):Prop:=listed.size=ops.size/\∀j o,ops[j]? = some o->listed.getD j false=true->∀e∈o.after,Region.binds .any e=true->listed.getD e.on false=true
theorem rQ.set{listed:Array Bool}(h:rQ ops listed){i:Nat}(hi:i∈Region.ready .any ops listed):rQ ops (listed.setIfInBounds i true):=by
 obtain⟨_,oi,hoi,hall⟩:=mem_ready.1 hi;refine⟨by simpa using h.1,λj o hj hl e he hb=>?_⟩;by_cases hij:i=j
 ·subst hij;have:o=oi:=Option.some.inj (hj.symm.trans hoi);subst this;exact getD_set_true (hall e he hb)
 ·rw[getD_set_ne false hij] at hl;exact getD_set_true (h.2 j o hj hl e he hb)
theorem ag6{anc:Nat->Nat->Bool}(hA:afx ops anc=true){listed:Array Bool}(hc:rQ ops listed){i:Nat}(hi:i<ops.size) :
  ∀ (j:Nat),listed.getD j false=true->anc j i=true->listed.getD i false=true:=by
 intro j
 induction j using Nat.strongRecOn with
 |_ j ih =>
  intro hl ha;have hjl:j<ops.size:=by
   rw[<-hc.1];rcases lt_or_ge j listed.size with h|h
   ·exact h
   ·simp[Array.getElem?_eq_none h] at hl
  obtain⟨o,ho⟩:∃o,ops[j]? = some o:=⟨ops[j],by simp[hjl]⟩;obtain⟨e,he,hb,hlt,h1⟩:=afy hA ho hi ha;have hle:=hc.2 j o ho hl e he hb;rcases h1 with rfl|h1
  ·exact hle
  ·exact ih e.on hlt hle h1
theorem ahN{anc:Nat->Nat->Bool}(hA:afx ops anc=true){listed:Array Bool}(hc:rQ ops listed){i j:Nat}(hi:i∈Region.ready .any ops listed)(hj:j∈Region.ready .any ops listed):anc j i=false:=by
 cases ha:anc j i with
 |false=>rfl
 |true =>
  exfalso;obtain⟨hiu,oi,hoi,_⟩:=mem_ready.1 hi;obtain⟨_,oj,hoj,hall⟩:=mem_ready.1 hj;have ri:i<ops.size:=(Array.getElem?_eq_some_iff.1 hoi).1;obtain⟨e,he,hb,hlt,h1⟩:=afy hA hoj ri ha;have hle:=hall e he hb;have:listed.getD i false=true:=by
   rcases h1 with rfl|h1
   ·exact hle
   ·exact ag6 hA hc ri e.on hle h1
  have h2:i<listed.size:=by rw[hc.1];exact ri
  simp[h2] at hiu this;rw[hiu] at this;cases this
theorem aDh{env:Env}{d:Option Tmp}{v:AV}{x:Operand}(h:∀k,d=some k->x≠.tmp k):ev (cL env d v) x=ev env x:=by
 cases d with
 |none=>rfl
 |some k =>
  cases x with
  |tmp t =>
   have hne:t≠k:=λe=>h k rfl (by rw[e])
   show cE env k v t=env t;unfold cE;rw[if_neg hne]
  |_=>rfl
theorem asN{o:Oper}{t:Tmp}(h:Operand.tmp t∈o.op.operands):t∈o.looksAt ops:=by unfold Oper.looksAt;rw[mem_append];left;exact mem_filterMap.2 ⟨.tmp t,by simpa using h,rfl⟩
theorem ab8{o:Oper}{env:Env}{d:Option Tmp}{v:AV}(h:∀k,d=some k->k ∉ o.looksAt ops):∀x∈o.op.operands,ev (cL env d v) x=ev env x:=λx hx=>aDh λk hk e=>h k hk (asN (by rw[<-e];exact hx))
theorem abi{o:Oper}{env:Env}{d:Option Tmp}{v:AV}(h:∀k,d=some k->k ∉ o.looksAt ops):lE ops o (cL env d v)=lE ops o env:=by
 unfold lE;cases hg:o.guard with
 |none=>rfl
 |some gw =>
  obtain⟨j,want⟩:=gw;simp only[];cases hd:(ops[j]?).bind (·.dst) with
  |none=>rfl
  |some s =>
   simp only[];have:cL env d v s=env s:=by
    cases d with
    |none=>rfl
    |some k =>
     have hk:=h k rfl;have hne:s≠k:=λe=>hk (by
      unfold Oper.looksAt;rw[mem_append];right;rw[hg];simp only[];rw[hd,e];simp)
     show cE env k v s=env s;unfold cE;rw[if_neg hne]
   rw[this]
theorem ahO{env:Env}{d e:Option Tmp}{v u:AV}(h:∀k,d=some k->e≠some k):cL (cL env d v) e u=cL (cL env e u) d v:=by
 cases d with
 |none=>rfl
 |some k =>
  cases e with
  |none=>rfl
  |some m=>exact avA env v u λhkm=>h k rfl (by rw[hkm])
theorem alf{o:Oper}{env:Env}{d:Option Tmp}{v:AV}(h:∀k,d=some k->k ∉ o.looksAt ops):ado own ops o (cL env d v)↔ado own ops o env:=by
 have hop:∀x∈o.op.operands,ev (cL env d v) x=ev env x:=ab8 (ops:=ops) h;have h2:aee own o (cL env d v)↔aee own o env:=by
  unfold aee;cases ha:appArg o.op with
  |none=>rfl
  |some r=>obtain⟨a,s⟩:=r;obtain⟨t1,t2,e⟩:=y9 ha;have e1:ev (cL env d v) (.tmp a)=ev env (.tmp a):=hop _ (by rw[e];simp[Op.operands,Call.operands]);have e2:ev (cL env d v) s=ev env s:=hop _ (by rw[e];simp[Op.operands,Call.operands]);have e1':cL env d v a=env a:=e1;simp only[e1',e2]
 unfold ado;rw[h2];cases ho:o.op with
 |store t a x =>
  cases a with
  |tmp k=>have h1:ev (cL env d v) (.tmp k)=ev env (.tmp k):=hop _ (by rw[ho];simp[Op.operands]);have h2:cL env d v k=env k:=h1;simp only[h2]
  |_=>rfl
 |_=>rfl
theorem ahP{c:oE}{o:Oper}{env:Env}{H H':aA}{v u:AV}{d:Option Tmp}(h:∀k,d=some k->k ∉ o.looksAt ops):jO P own ops c o (cL env d u) H v H'↔jO P own ops c o env H v H':=by
 have hop:∀x∈o.op.operands,ev (cL env d u) x=ev env x:=ab8 (ops:=ops) h;have aDi:∀x∈o.op.operands,ev env x=ev (cL env d u) x:=λx hx=>(hop x hx).symm
 cases c with
 |p=>simp only[jO,ahG hop]
 |q =>
  simp only[jO,aar hop,vK hop];constructor
  ·rintro⟨h1,h2,h3|⟨x,h3,h4,h5⟩⟩
   ·exact⟨h1,h2,.inl h3⟩
   ·exact⟨h1,h2,.inr ⟨x,h3,vL hop h4,h5⟩⟩
  ·rintro⟨h1,h2,h3|⟨x,h3,h4,h5⟩⟩
   ·exact⟨h1,h2,.inl h3⟩
   ·exact⟨h1,h2,.inr ⟨x,h3,vL aDi h4,h5⟩⟩
 |o =>
  simp only[jO,aar hop,vK hop];constructor
  ·rintro⟨h1,h2,h3|⟨x,h3,h4,h5⟩⟩
   ·exact⟨h1,h2,.inl h3⟩
   ·exact⟨h1,h2,.inr ⟨x,h3,vL hop h4,h5⟩⟩
  ·rintro⟨h1,h2,h3|⟨x,h3,h4,h5⟩⟩
   ·exact⟨h1,h2,.inl h3⟩
   ·exact⟨h1,h2,.inr ⟨x,h3,vL aDi h4,h5⟩⟩
 |b=>simp only[jO,aar hop]
 |w=>simp only[jO,vK hop]
 |s=>simp only[jO,vK hop]
 |f=>exact⟨λh=>⟨h.1,ab7 hop h.2⟩,λh=>⟨h.1,ab7 aDi h.2⟩⟩
 |t=>exact Iff.rfl
theorem zc{c:oE}{o:Oper}{env:Env}{H H':aA}{v:AV}(hq:bS own o=true)(h:jO P own ops c o env H v H'):HSub H H':=by
 have key:H'=H->HSub H H':=λe=>by rw[e];exact λ_ _ h=>h
 cases c with
 |p=>obtain⟨_,_,_,h,_⟩:=h;exact key h
 |q=>exact key h.2.1
 |b=>exact key h.2.1
 |o=>exact key h.2.1
 |w=>obtain⟨pre,h1,_⟩:=h;exact key (sK hq h1)
 |s=>obtain⟨pre,h1,_⟩:=h;exact key (sK hq h1)
 |f=>exact zb h.2
 |t=>exact h.elim
theorem abj{c:oE}{o:Oper}{env:Env}{H H':aA}{v:AV}(hq:uP own o=true)(h:jO P own ops c o env H v H'):H'=H/\∀G,jO P own ops .p o env G v G:=by
 have hown:(match o.dst with|some d=>!own.contains d|none=>true)=true:=by unfold uP at hq;rw[and_eq_true] at hq;exact hq.1
 have hqq:jO P own ops .q o env H v H'->H'=H/\∀G,jO P own ops .p o env G v G:=λh=>by
  obtain⟨_,rfl,⟨pre,h1,h2⟩|⟨x,_,h1,_⟩⟩:=h
  ·rw[ak9 hq] at h1;cases hp:oc P o (ev env) with
   |none=>rw[hp] at h1;cases h1
   |some r=>obtain⟨pre',v'⟩:=r;rw[hp] at h1;simp only[cA,iL] at h1;obtain⟨rfl,rfl,_⟩:=h1;exact⟨rfl,λG=>⟨pre',hp,h2,rfl,hown⟩⟩
  ·obtain⟨k,eS,ps,b,hc,_⟩:=h1;rw[ahH hq] at hc;cases hc
 cases c with
 |p=>obtain⟨pre,h1,h2,h3,h4⟩:=h;exact⟨h3,λG=>⟨pre,h1,h2,rfl,h4⟩⟩
 |t=>exact h.elim
 |b=>exact hqq (aqR h)
 |q=>exact hqq h
 |o=>exact hqq (aqS h)
 |w =>
  obtain⟨pre,h1,h2⟩:=h;rw[afs hq] at h1;cases hp:oc P o (ev env) with
  |none=>rw[hp] at h1;cases h1
  |some r=>obtain⟨pre',v'⟩:=r;rw[hp] at h1;simp only[cA,iL] at h1;obtain⟨rfl,rfl,rfl⟩:=h1;exact⟨rfl,λG=>⟨pre',hp,h2,rfl,hown⟩⟩
 |s =>
  obtain⟨pre,h1,h2⟩:=h;rw[afs hq] at h1;cases hp:oc P o (ev env) with
  |none=>rw[hp] at h1;cases h1
  |some r=>obtain⟨pre',v'⟩:=r;rw[hp] at h1;simp only[cA,iL] at h1;obtain⟨rfl,rfl,rfl⟩:=h1;exact⟨rfl,λG=>⟨pre',hp,h2,rfl,hown⟩⟩
 |f=>obtain⟨_,k,eS,ps,b,r,id,h1,_⟩:=h;rw[ahH hq] at h1;cases h1
def Head(P:Program)(own:List Nat)(ops:Array Oper)(c:oE)(o:Oper)(env:Env)(H:aA)(v:AV)(H':aA):Prop:=(lE ops o env=some false/\v = .dW []/\H'=H)\/(lE ops o env=some true/\ado own ops o env/\jO P own ops c o env H v H')
theorem Head.aOp{c:oE}{i:Nat}{o:Oper}{env:Env}{H H':aA}{v:AV}(hi:ops[i]? = some o)(h:Head P own ops c o env H v H'){W:Env->aA->Prop}(hW:W (cL env o.dst v) H'):aOp P own ops tl i W env H:=by
 unfold cv.aOp;rw[hi];rcases h with ⟨h1,rfl,rfl⟩|⟨h1,hst,h2⟩
 ·exact .inl ⟨h1,hW⟩
 ·exact .inr ⟨h1,.inl ⟨hst,c,v,H',h2,hW⟩⟩
theorem Head.put{c:oE}{o:Oper}{env:Env}{H H':aA}{v u:AV}{d:Option Tmp}(h:∀k,d=some k->k ∉ o.looksAt ops)(hh:Head P own ops c o env H v H'):Head P own ops c o (cL env d u) H v H':=by unfold Head at *;rw[abi h,ahP h,alf h];exact hh
def ajv(own:List Nat)(ops:Array Oper)(c:oE)(oi oj:Oper):Bool:=oi.apart ops oj&&match c with
 | .p=>true
 | .b=>bS own oj||ahJ own oj||aw0 oj
 | .q=>bS own oj||ahJ own oj
 | .o=>bS own oj||ahJ own oj||(uQ own ops oj).isSome
 | .w=>uP own oj||(match uQ own ops oi,uQ own ops oj with
  |some x,some y=>x != y
  |_,_=>false)
 | .s=>uP own oj||(match uQ own ops oi,uQ own ops oj with
  |some x,some y=>x != y
  |_,_=>false)
 | .f=>uP own oj||(uQ own ops oj).isSome
 | .t=>false
theorem adp{c:oE}{o:Oper}{env:Env}{H H':aA}{v:AV}(hn:ahJ own o=true)(h:jO P own ops c o env H v H'):HSub H H':=by
 cases c with
 |p=>obtain⟨_,_,_,h3,_⟩:=h;rw[h3];exact λ_ _ h=>h
 |b=>rw[h.2.1];exact λ_ _ h=>h
 |q=>rw[h.2.1];exact λ_ _ h=>h
 |o=>rw[h.2.1];exact λ_ _ h=>h
 |w=>obtain⟨pre,h1,_⟩:=h;exact ahK hn h1
 |s=>obtain⟨pre,h1,_⟩:=h;exact ahK hn h1
 |f=>exact zb h.2
 |t=>exact h.elim
theorem asO{c:oE}{o:Oper}{env:Env}{H H':aA}{v:AV}(hn:aw0 o=true)(h:jO P own ops c o env H v H'):HSub (tc H) (tc H'):=by
 cases c with
 |p=>obtain⟨_,_,_,h3,_⟩:=h;rw[h3];exact λ_ _ h=>h
 |t=>exact h.elim
 |b=>rw[h.2.1];exact λ_ _ h=>h
 |q=>rw[h.2.1];exact λ_ _ h=>h
 |o=>rw[h.2.1];exact λ_ _ h=>h
 |w=>obtain⟨pre,h1,_⟩:=h;exact ahL hn h1
 |s=>obtain⟨pre,h1,_⟩:=h;exact ahL hn h1
 |f=>exact aau (zb h.2)
theorem Head.sub{o:Oper}{env:Env}{H G:aA}{v:AV}(hs:HSub H G)(h:Head P own ops .q o env H v H):Head P own ops .q o env G v G:=by
 rcases h with ⟨h1,h2,_⟩|⟨h1,hst,h2,_,h3|⟨x,h3,h4,h5⟩⟩
 ·exact .inl ⟨h1,h2,rfl⟩
 ·obtain⟨pre,h3,h4⟩:=h3;exact .inr ⟨h1,hst,h2,rfl,.inl ⟨pre,pG hs h2 h3,h4⟩⟩
 ·exact .inr ⟨h1,hst,h2,rfl,.inr ⟨x,h3,adn hs h4,abh h2 h4⟩⟩
theorem Head.aHD{o:Oper}{env:Env}{H G:aA}{v:AV}(hs:HSub (pH own ops H) (pH own ops G))(h:Head P own ops .o o env H v H):Head P own ops .o o env G v G:=by
 rcases h with ⟨h1,h2,_⟩|⟨h1,hst,h2,_,h3|⟨x,h3,h4,h5⟩⟩
 ·exact .inl ⟨h1,h2,rfl⟩
 ·obtain⟨pre,h3,h4⟩:=h3;exact .inr ⟨h1,hst,h2,rfl,.inl ⟨pre,pG hs h2 h3,h4⟩⟩
 ·exact .inr ⟨h1,hst,h2,rfl,.inr ⟨x,h3,adn hs h4,abh h2 h4⟩⟩
theorem ab9{c:oE}{o:Oper}{env:Env}{H H':aA}{v:AV}{d:Nat}(hl:uQ own ops o=some d)(hs:ado own ops o env)(h:jO P own ops c o env H v H'):∃pre,gj P own o (ev env) H=some (pre,v,H')/\pre:=by
 obtain⟨dst,op,t,pos,af,g⟩:=o;have hw:(jO P own ops .w ⟨dst,op,t,pos,af,g⟩ env H v H'->∃pre,gj P own ⟨dst,op,t,pos,af,g⟩ (ev env) H=some (pre,v,H')/\pre):=λh=>h
 have hcl:∀cl,op = .call cl->bS own ⟨dst,op,t,pos,af,g⟩=false/\oc P ⟨dst,op,t,pos,af,g⟩ (ev env)=none:=by
  intro cl e;subst e;have hl':za own ops ⟨dst,.call cl,t,pos,af,g⟩=some d:=hl;have hst:=hs.2 (by rw[hl'];rfl);unfold za at hl';unfold aee at hst;cases ha:appArg (Op.call cl) with
  |none=>simp only[ha] at hl';cases hl'
  |some r=>obtain⟨a,s⟩:=r;obtain⟨t1,t2,e2⟩:=y9 ha;simp only[ha] at hst;obtain⟨⟨bf,h1⟩,x,h2⟩:=hst;simp only[Op.call.injEq] at e2;subst e2;refine⟨by simp[bS],?_⟩;have ur:ev env (.tmp a) = .row (p0 own a) bf:=h1;simp[oc,sI,ac8,isNil,ur,h2]
 cases c with
 |t=>exact h.elim
 |w=>exact h
 |s=>exact h
 |p =>
  obtain⟨pre,h1,_,_,h4⟩:=h;cases op<;>simp only[uQ] at hl<;>try (cases hl;done)
  case call cl=>rw[(hcl cl rfl).2] at h1;cases h1
  case buildSlice =>
   exfalso;cases dst with
   |none=>cases hl
   |some k =>
    simp only at hl h4;split at hl
    ·rename_i hn;rw[hn] at h4;cases h4
    ·cases hl
  case makeSlice =>
   exfalso;cases dst with
   |none=>cases hl
   |some k =>
    simp only at hl h4;split at hl
    ·rename_i hn;rw[hn] at h4;cases h4
    ·cases hl
  all_goals simp[oc] at h1
 |b|q|o|f =>
  exfalso;have hq:=h.1;cases op<;>simp only[uQ] at hl<;>try (cases hl;done)
  case call cl=>rw[(hcl cl rfl).1] at hq;cases hq
  all_goals(cases dst<;>simp[bS] at hq hl)<;>exact hq hl.1
theorem alg{ci cj:oE}{oi oj:Oper}{env:Env}{H H' Hj:aA}{v v':AV}{d d':Nat}(hi:uQ own ops oi=some d)(hj:uQ own ops oj=some d')(hne:d≠d')(hsi:ado own ops oi env)(hsj:ado own ops oj env)
  (h1:jO P own ops ci oi env H v H') (h2:jO P own ops cj oj env H' v' Hj):∃G,jO P own ops .w oj env H v' G/\jO P own ops .w oi env G v Hj/\HSub (pH own ops H) (pH own ops G):=by
 obtain⟨pre,e1,hp⟩:=ab9 hi hsi h1;obtain⟨pre',e2,hp'⟩:=ab9 hj hsj h2;obtain⟨⟨φ,hφ⟩,n1⟩:=ab6 (P:=P) hi hsi;obtain⟨⟨ψ,hψ⟩,n2⟩:=ab6 (P:=P) hj hsj;rw[hφ] at e1;rw[hψ] at e2;cases a1:φ (H d) with
 |none=>rw[a1] at e1;cases e1
 |some r =>
  obtain⟨p1,v1,c1⟩:=r;rw[a1] at e1;simp only[cA,iL] at e1;obtain⟨rfl,rfl,rfl⟩:=e1;have a2:bh H d c1 d'=H d':=by simp[bh,Ne.symm hne]
  rw[a2] at e2;cases a3:ψ (H d') with
  |none=>rw[a3] at e2;cases e2
  |some r =>
   obtain⟨p2,v2,c2⟩:=r;rw[a3] at e2;simp only[cA,iL] at e2;obtain⟨rfl,rfl,rfl⟩:=e2;refine⟨bh H d' c2,⟨p2,by rw[hψ,a3],hp'⟩,⟨p1,?_,hp⟩,by rw[afv own ops H c2 n2];exact λ_ _ h=>h⟩;have a4:bh H d' c2 d=H d:=by simp[bh,hne]
   rw[hφ,a4,a1,kP H c1 c2 hne]
theorem aA7{c:oE}{o:Oper}{env:Env}{H H':aA}{v:AV}{d:Nat}(hl:uQ own ops o=some d)(hs:ado own ops o env)(h:jO P own ops c o env H v H'):pH own ops H'=pH own ops H:=by
 obtain⟨pre,e1,hp⟩:=ab9 hl hs h;obtain⟨⟨φ,hφ⟩,n1⟩:=ab6 (P:=P) hl hs;rw[hφ] at e1;cases a1:φ (H d) with
 |none=>rw[a1] at e1;cases e1
 |some r=>obtain⟨p1,v1,c1⟩:=r;rw[a1] at e1;simp only[cA,iL] at e1;obtain⟨rfl,rfl,rfl⟩:=e1;exact afv own ops H c1 n1
theorem asP{cj:oE}{oi oj:Oper}{env:Env}{H H' Hj:aA}{v v':AV}{d':Nat}(hj:uQ own ops oj=some d')(hsj:ado own ops oj env)
  (h1:jO P own ops .f oi env H v H') (h2:jO P own ops cj oj env H' v' Hj):∃G,jO P own ops .w oj env H v' G/\jO P own ops .f oi env G v Hj:=by
 obtain⟨pre',e2,hp'⟩:=ab9 hj hsj h2;obtain⟨⟨ψ,hψ⟩,n2⟩:=ab6 (P:=P) hj hsj;obtain⟨hq,k,eS,ps,b,r,id,g1,g2,g3,g4,g5,rfl,rfl⟩:=h1;have hd:d'<id\/(dw id r).2<=d':=by
  rcases lt_or_ge d' id with h|h
  ·exact .inl h
  ·rcases lt_or_ge d' (dw id r).2 with h'|h'
   ·rw[(g5 d' h h').2] at n2;cases n2
   ·exact .inr h'
 rw[hψ,abd r id H d' hd] at e2;cases a3:ψ (H d') with
 |none=>rw[a3] at e2;cases e2
 |some q =>
  obtain⟨p2,v2,c2⟩:=q;rw[a3] at e2;simp only[cA,iL] at e2;obtain⟨rfl,rfl,rfl⟩:=e2;refine⟨bh H d' c2,⟨p2,by rw[hψ,a3],hp'⟩,hq,k,eS,ps,b,r,id,g1,by rw[afv own ops H c2 n2];exact g2,g3,g4,λi hi1 hi2=>⟨?_,(g5 i hi1 hi2).2⟩,rfl,(alc r id H d' c2 hd).symm⟩;have hne:i≠d':=by omega
  simp only[bh,if_neg hne];exact (g5 i hi1 hi2).1
theorem Head.aHE{o:Oper}{env:Env}{H G:aA}{v:AV}(hs:HSub (tc H) (tc G))(h:Head P own ops .b o env H v H):Head P own ops .b o env G v G:=by
 rcases h with ⟨h1,h2,_⟩|⟨h1,hst,h2,_,pre,h3,h4⟩
 ·exact .inl ⟨h1,h2,rfl⟩
 ·exact .inr ⟨h1,hst,h2,rfl,pre,pG hs h2 h3,h4⟩
theorem asQ{anc:Nat->Nat->Bool}(hA:afx ops anc=true){i:Nat}{oi:Oper}{c:oE}{v:AV}(hi:ops[i]? = some oi) :
  ∀ (fuel:Nat) (listed:Array Bool) (env:Env) (H H':aA),rQ ops listed ->
   (∀j oj,ops[j]? = some oj->j≠i->listed.getD j true=false->anc j i=false->ajv own ops c oi oj=true/\tl j=false) ->
   i∈Region.ready .any ops listed->Head P own ops c oi env H v H'->(c≠.w->c≠.s->c≠.f->H'=H) ->
   ale P own ops tl K fuel (listed.setIfInBounds i true) (cL env oi.dst v) H'->ale P own ops tl K (fuel+1) listed env H:=by
 intro fuel
 induction fuel with
 |zero =>
  intro listed env H H' _ _ hr hy _ hk;refine⟨λh=>(by rw[h] at hr;cases hr),λj hj=>?_⟩;by_cases hji:j=i
  ·subst hji;exact hy.aOp hi hk
  ·have:=ready_mono hj hji;rw[hk.1] at this;cases this
 |succ fuel ih =>
  intro listed env H H' hcl hfree hr hy hqH hk;refine⟨λh=>(by rw[h] at hr;cases hr),λj hj=>?_⟩;by_cases hji:j=i
  ·subst hji;exact hy.aOp hi hk
  ·have h1:=hk.2 j (ready_mono hj hji);obtain⟨aA8,oj,hoj,hall⟩:=mem_ready.1 hj;have hnot:∀e∈oj.after,Region.binds .any e=true->e.on≠i:=λe he hb heq=>by
    have h1:=hall e he hb;have h0:=(mem_ready.1 hr).1;rw[heq] at h1;rcases lt_or_ge i listed.size with h'|h'
    ·simp[h'] at h0 h1;rw[h0] at h1;cases h1
    ·simp[Array.getElem?_eq_none h'] at h1
   obtain⟨hsw,htl⟩:=hfree j oj hoj hji aA8 (ahN hA hcl hr hj);unfold ajv at hsw;rw[and_eq_true] at hsw;obtain⟨a1,a2,a3⟩:=Oper.apart_spec hsw.1;have qF:∀k ok,ops[k]? = some ok->k≠i->(listed.setIfInBounds j true).getD k true=false->anc k i=false->ajv own ops c oi ok=true/\tl k=false:=λk ok hk hki hun hno=>by
    refine hfree k ok hk hki ?_ hno;by_cases hjk:j=k
    ·subst hjk;exact aA8
    ·rw[getD_set_ne true hjk] at hun;exact hun
   have rR:=hcl.set hj;have hri:=ready_mono hr (Ne.symm hji);unfold cv.aOp at h1 ⊢;rw[hoj] at h1 ⊢;rw[Array.setIfInBounds_comm _ _ (Ne.symm hji)] at h1;rcases h1 with ⟨hg,hw⟩|⟨hg,⟨hso,c',v',Hj,hst,hw⟩|⟨aEl,_⟩⟩
   ·rw[abi a1] at hg;refine .inl ⟨hg,ih _ _ H H' rR qF hri (hy.put a3) hqH ?_⟩;rw[ahO a2] at hw;exact hw
   ·rw[abi a1] at hg;rw[ahP a1] at hst;rw[alf a1] at hso;rw[ahO a2] at hw;cases c with
    |p =>
     have e1:H'=H:=hqH (by simp) (by simp) (by simp);subst e1;refine .inr ⟨hg,.inl ⟨hso,c',v',Hj,hst,ih _ _ Hj Hj rR qF hri ?_ (λ_ _ _=>rfl) hw⟩⟩;have hy':=hy.put (d:=oj.dst) (u:=v') a3;rcases hy' with ⟨k1,k2,_⟩|⟨k1,ko,pre,k2,k3,_,k4⟩
     ·exact .inl ⟨k1,k2,rfl⟩
     ·exact .inr ⟨k1,ko,pre,k2,k3,rfl,k4⟩
    |q =>
     have e1:H'=H:=hqH (by simp) (by simp) (by simp);subst e1;have hs2:HSub H' Hj:=by
      rcases (Eq.to_iff (or_eq_true _ _)).mp hsw.2 with h|h
      ·exact zc h hst
      ·exact adp h hst
     exact .inr ⟨hg,.inl ⟨hso,c',v',_,hst,ih _ _ _ _ rR qF hri ((hy.put a3).sub hs2) (λ_ _ _=>rfl) hw⟩⟩
    |b =>
     have e1:H'=H:=hqH (by simp) (by simp) (by simp);subst e1;have hs2:HSub (tc H') (tc Hj):=by
      rcases (Eq.to_iff (or_eq_true _ _)).mp hsw.2 with h|h
      ·rcases (Eq.to_iff (or_eq_true _ _)).mp h with h|h
       ·exact aau (zc h hst)
       ·exact aau (adp h hst)
      ·exact asO h hst
     exact .inr ⟨hg,.inl ⟨hso,c',v',_,hst,ih _ _ _ _ rR qF hri ((hy.put a3).aHE hs2) (λ_ _ _=>rfl) hw⟩⟩
    |w =>
     rcases (Eq.to_iff (or_eq_true _ _)).mp hsw.2 with hp|hl
     ·obtain⟨e2,hpure⟩:=abj hp hst;subst e2;exact .inr ⟨hg,.inl ⟨hso,.p,v',H,hpure H,ih _ _ H _ rR qF hri (hy.put a3) (λh=>absurd rfl h) hw⟩⟩
     ·split at hl
      ·rename_i d d' hd hd';have hne:d≠d':=by simpa using hl
       rcases hy with ⟨k1,k2,k3⟩|⟨k1,ko,k2⟩
       ·subst k3;exact .inr ⟨hg,.inl ⟨hso,c',v',Hj,hst,ih _ _ Hj Hj rR qF hri (Head.put a3 (.inl ⟨k1,k2,rfl⟩)) (λh=>absurd rfl h) hw⟩⟩
       ·obtain⟨G,m1,m2,_⟩:=alg hd hd' hne ko hso k2 hst;exact .inr ⟨hg,.inl ⟨hso,.w,v',G,m1,ih _ _ G Hj rR qF hri (Head.put a3 (.inr ⟨k1,ko,m2⟩)) (λh=>absurd rfl h) hw⟩⟩
      ·cases hl
    |o =>
     have e1:H'=H:=hqH (by simp) (by simp) (by simp);subst e1;have hs2:HSub (pH own ops H') (pH own ops Hj):=by
      rcases (Eq.to_iff (or_eq_true _ _)).mp hsw.2 with h|h
      ·rcases (Eq.to_iff (or_eq_true _ _)).mp h with h|h
       ·exact ahM own ops (zc h hst)
       ·exact ahM own ops (adp h hst)
      ·obtain⟨d,hd⟩:=Option.isSome_iff_exists.1 h;rw[aA7 hd hso hst];exact λ_ _ h=>h
     exact .inr ⟨hg,.inl ⟨hso,c',v',_,hst,ih _ _ _ _ rR qF hri ((hy.put a3).aHD hs2) (λ_ _ _=>rfl) hw⟩⟩
    |s =>
     rcases (Eq.to_iff (or_eq_true _ _)).mp hsw.2 with hp|hl
     ·obtain⟨e2,hpure⟩:=abj hp hst;subst e2;exact .inr ⟨hg,.inl ⟨hso,.p,v',H,hpure H,ih _ _ H _ rR qF hri (hy.put a3) (λ_ h=>absurd rfl h) hw⟩⟩
     ·split at hl
      ·rename_i d d' hd hd';have hne:d≠d':=by simpa using hl
       rcases hy with ⟨k1,k2,k3⟩|⟨k1,ko,k2⟩
       ·subst k3;exact .inr ⟨hg,.inl ⟨hso,c',v',Hj,hst,ih _ _ Hj Hj rR qF hri (Head.put a3 (.inl ⟨k1,k2,rfl⟩)) (λ_ h=>absurd rfl h) hw⟩⟩
       ·obtain⟨G,m1,m2s,_⟩:=alg hd hd' hne ko hso k2 hst;exact .inr ⟨hg,.inl ⟨hso,.w,v',G,m1,ih _ _ G Hj rR qF hri (Head.put a3 (.inr ⟨k1,ko,m2s⟩)) (λ_ h=>absurd rfl h) hw⟩⟩
      ·cases hl
    |f =>
     rcases (Eq.to_iff (or_eq_true _ _)).mp hsw.2 with hp|hl
     ·obtain⟨e2,hpure⟩:=abj hp hst;subst e2;exact .inr ⟨hg,.inl ⟨hso,.p,v',H,hpure H,ih _ _ H _ rR qF hri (hy.put a3) (λ_ _ h=>absurd rfl h) hw⟩⟩
     ·obtain⟨d',hd'⟩:=Option.isSome_iff_exists.1 hl;rcases hy with ⟨k1,k2,k3⟩|⟨k1,ko,k2⟩
      ·subst k3;exact .inr ⟨hg,.inl ⟨hso,c',v',Hj,hst,ih _ _ Hj Hj rR qF hri (Head.put a3 (.inl ⟨k1,k2,rfl⟩)) (λ_ _ h=>absurd rfl h) hw⟩⟩
      ·obtain⟨G,m1,m2⟩:=asP hd' hso k2 hst;exact .inr ⟨hg,.inl ⟨hso,.w,v',G,m1,ih _ _ G Hj rR qF hri (Head.put a3 (.inr ⟨k1,ko,m2⟩)) (λ_ _ h=>absurd rfl h) hw⟩⟩
    |t=>cases hsw.2
   ·rw[htl] at aEl;cases aEl
theorem aw2{anc:Nat->Nat->Bool}(hA:afx ops anc=true){i:Nat}{oi:Oper}(hi:ops[i]? = some oi){fuel:Nat}{listed:Array Bool}{env:Env}{H:aA}(hcl:rQ ops listed)(htl:tl i=true)
  (hall:∀j oj,ops[j]? = some oj->j≠i->listed.getD j true=false->anc j i=true) (hr:i∈Region.ready .any ops listed) (hw:aqT P own ops oi (ale P own ops tl K fuel (listed.setIfInBounds i true)) env H) :
  ale P own ops tl K (fuel+1) listed env H:=by
 refine⟨λh=>(by rw[h] at hr;cases hr),λj hj=>?_⟩;by_cases hji:j=i
 ·subst hji;unfold cv.aOp;rw[hi];rcases hw with h|⟨h1,h2⟩
  ·exact .inl h
  ·exact .inr ⟨h1,.inr ⟨htl,h2⟩⟩
 ·obtain⟨aA8,oj,hoj,_⟩:=mem_ready.1 hj;have h1:=hall j oj hoj hji aA8;rw[ahN hA hcl hr hj] at h1;cases h1
def isT:oE->Bool
 | .t=>true
 |_=>false
def aHF(l:List (Nat×oE))(i:Nat):Bool:=l.any λx=>x.1 == i&&isT x.2
def zd(own:List Nat)(ops:Array Oper)(anc:Nat->Nat->Bool)(tl:Nat->Bool):List (Nat×oE)->Array Bool->Bool
 | [],listed=>(Region.ready .any ops listed).isEmpty
 | (i, c) :: rest, listed => (Region.ready .any ops listed).contains i && (match ops[i]? with
   |some oi=>(!isT c||tl i)&&(range ops.size).all λj=>j == i||listed.getD j true||anc j i||(match ops[j]? with
    |some oj=>!isT c&&ajv own ops c oi oj && !tl j
    |none=>true)
   |none=>false)&&zd own ops anc tl rest (listed.setIfInBounds i true)
def alh(P:Program)(N:Nat)(own:List Nat)(ops:Array Oper):List (Oper×oE)->(Env->aA->Prop)->Env->aA->Prop
 | [],K,env,H=>K env H
 | (o, c) :: rest, K, env, H => uO N o.dst ∧ ((isT c = true ∧ aqT P own ops o (alh P N own ops rest K) env H) ∨
   (isT c=false/\∃v H',Head P own ops c o env H v H'/\(match c with | .w=>True | .s=>True | .f=>True|_=>H'=H)/\alh P N own ops rest K (cL env o.dst v) H'))
theorem aop{o:Oper}{W W':Env->aA->Prop}{env:Env}{H:aA}(h:∀e G,W e G->W' e G)(hh:aqT P own ops o W env H):aqT P own ops o W' env H:=hh.imp (λx=>⟨x.1,h _ _ x.2⟩) λx=>⟨x.1,ald h x.2⟩
theorem xS{anc:Nat->Nat->Bool}(hA:afx ops anc=true):∀ (l:List (Nat×oE)) (os:List (Oper×oE)) (listed:Array Bool) (env:Env) (H:aA),rQ ops listed ->
  os.map (·.1)=l.filterMap (λx=>ops[x.1]?)->os.map (·.2)=l.map (·.2)->zd own ops anc tl l listed=true->alh P N own ops os K env H->ale P own ops tl K l.length listed env H
 | [],os,listed,env,H,_,h1,h2,h3,hw=>by
  have:os=[]:=by simpa using h2
  subst this;exact⟨by simpa[zd] using h3,hw⟩
 |(i,c) :: l,[],listed,env,H,_,h1,h2,h3,hw=>by simp at h2
 |(i,c) :: l,(o,c') :: os,listed,env,H,hcl,h1,h2,h3,hw=>by
  simp only[zd,and_eq_true] at h3;obtain⟨⟨hr,hs⟩,aaL⟩:=h3;cases hi:ops[i]? with
  |none=>rw[hi] at hs;cases hs
  |some oi =>
   rw[hi] at hs;simp only[map_cons,filterMap_cons,hi,List.cons.injEq] at h1 h2;obtain⟨e1,h1⟩:=h1;obtain⟨e2,h2⟩:=h2;subst e1 e2;simp only[and_eq_true] at hs;obtain⟨ht,hs⟩:=hs;have ajw:i∈Region.ready .any ops listed:=by simpa using hr
   obtain⟨_,⟨hc,hw⟩|⟨hc,v,H',hy,hq,hw⟩⟩:=hw
   ·refine aw2 hA hi hcl (by rw[hc] at ht;simpa using ht) (λj oj hoj hji hun=>?_) ajw (aop (λe G hw=>xS hA l os _ e G (hcl.set ajw) h1 h2 aaL hw) hw);have hjl:j<ops.size:=(Array.getElem?_eq_some_iff.1 hoj).1;have:=all_eq_true.1 hs j (mem_range.2 hjl);simp only[hun,hoj,hc,or_eq_true,beq_iff_eq,Bool.or_false,Bool.not_true,Bool.false_and] at this;rcases this with h|h
    ·exact absurd h hji
    ·exact h
   ·refine asQ hA hi l.length listed env H H' hcl (λj oj hoj hji hun hno=>?_) ajw hy (λhne aHG aHH=>by cases c'<;>first|exact hq|exact absurd rfl hne|exact absurd rfl aHG|exact absurd rfl aHH)
     (xS hA l os _ _ H' (hcl.set ajw) h1 h2 aaL hw)
    have hjl:j<ops.size:=(Array.getElem?_eq_some_iff.1 hoj).1;have:=all_eq_true.1 hs j (mem_range.2 hjl);simp only[hun,hno,hoj,hc,or_eq_true,beq_iff_eq,Bool.or_false,Bool.not_false,Bool.true_and,and_eq_true,Bool.not_eq_true'] at this;rcases this with h|h
    ·exact absurd h hji
    ·exact h
def masks(ops:Array Oper):List Nat:=(Region.before ops).toList
def aEm(m:List Nat)(j i:Nat):Bool:=(m.getD j 0).testBit i
def afz(own:List Nat)(ops:Array Oper)(m:List Nat)(l:List (Nat×oE)):Bool:=afx ops (aEm m)&&zd own ops (aEm m) (aHF l) l (Array.replicate ops.size false)&&l.length == ops.size&&ops.toList.all λo=>match o.dst with|some _=>true|none=>true
theorem ahQ{env:Env}{H:aA}(m:List Nat)(l:List (Nat×oE))(os:List (Oper×oE))(hok:afz own ops m l=true)(h1:os.map (·.1)=l.filterMap (λx=>ops[x.1]?))(h2:os.map (·.2)=l.map (·.2))
  (hd:∀ (i:Nat) o,ops[i]? = some o->uO N o.dst) (hw:alh P N own ops os K env H):vI P N own ops K env H:=by
 unfold afz at hok;simp only[and_eq_true,beq_iff_eq] at hok;obtain⟨⟨⟨hA,hD⟩,hlen⟩,_⟩:=hok;intro C I L tm w hN hs;have hcl:rQ ops (Array.replicate ops.size false):=⟨by simp,λj o hj hl=>by
  rcases lt_or_ge j ops.size with h|h
  ·simp[h] at hl
  ·simp[h] at hl⟩
 have adq:=xS (N:=N) hA l os _ env H hcl h1 h2 hD hw;rw[hlen] at adq;have hs':gQ C env H I L tm { w with drawn:=w.drawn+1 }:=(Fr.drew C I L H w) env tm hs;exact rP (by rw[hN];exact hd) (λenv' H' I' L' tm' w' hk aDj=>⟨rfl,rfl,env',H',I',L',hk,aDj⟩) ops.size _ env H I L tm _ adq hs'
end Go.cv
