/- Joined texts, part 2: lemmas for the statement. No condition. -/
import Derived.Test.YtjhkgjlmiolfoaaGreatJ1
set_option maxHeartbeats 4000000
set_option linter.unusedSimpArgs false
set_option linter.unusedVariables false
open Nat (reduceEqDiff reduceLT reduceLeDiff reduceMul reduceAdd reduceSub)
open Go.IntKind (i64)
namespace Go.cr
open Go.RowKit
variable{P:Program}{I:Mem}{L:bA}
inductive RV where
 |p (x:PV)
 |row (e:TypeId) (sz:Nat) (es:List (List PV))
 |deep (e:TypeId) (sz k:Nat) (e':TypeId) (sz':Nat) (es:List (List PV))
 |agg (rs:List RV)
 |dQ (rs:List RV)
instance:Inhabited RV:=⟨.p default⟩
theorem yO{w:World}{B:Nat}{e:TypeId}{sz:Nat}{bH:Value}{n:Nat}{us:List Value}(h:w.ownsRow B e sz bH n us){b:Nat}(hb:bH.ownBlock=some b):B<=b:=by
 rcases h.2 with ⟨rfl,_⟩|⟨g,cap,cur,rfl,h1,h2,_⟩
 ·cases hb
 ·have:g=b:=by simpa[Value.ownBlock] using hb
  subst this;exact h1
theorem abP{w:World}{base base':Nat}{e:TypeId}{size:Nat}{v:Value}{n:Nat}{xs:List Value}(h:w.ownsRow base e size v n xs)(hb:base'<=base):w.ownsRow base' e size v n xs:=by
 refine⟨h.1,?_⟩;rcases h.2 with h|⟨g,cap,cur,h1,h2,h3⟩
 ·exact .inl h
 ·exact .inr ⟨g,cap,cur,h1,Nat.le_trans hb h2,h3⟩
inductive w9(w:World)(B:Nat)(I:Mem):Value->RV->List Nat->Prop
 |p (u:Value) (x:PV) (h:VR I u x):w9 w B I u (.p x) []
 |row (bH:Value) (e:TypeId) (sz:Nat) (es:List (List PV)) (us:List Value) (h:rW w B I bH e sz es us) (h1:bH.oneCell'=true):w9 w B I bH (.row e sz es) bH.ownBlock.toList
 | deep (bH : Value) (e : TypeId) (sz k : Nat) (e' : TypeId) (sz' : Nat) (es : List (List PV)) (us : List Value) (di : Nat → Value) (h : rW w B I bH e sz (fA k di es) us) (h1 : bH.oneCell' = true) (hk : k < sz) (hall : ∀ x ∈ es, x.length = sz)
   (hin:auY w B I k e' sz' di es) (hap:aeB bH di es.length):w9 w B I bH (.deep e sz k e' sz' es) (yC bH di es.length)
 | agg (us : List Value) (rs : List RV) (bs : List (List Nat)) (hl : us.length = rs.length) (hl' : us.length = bs.length)
   (hv:∀ (j:Nat) u r b,us[j]? = some u->rs[j]? = some r->bs[j]? = some b->w9 w B I u r b) (hone:∀u∈us,u.oneCell'=true):w9 w B I (.agg us.toArray) (.agg rs) bs.flatten
 | dQ (us : List Value) (rs : List RV) (bs : List (List Nat)) (hl : us.length = rs.length) (hl' : us.length = bs.length)
   (hv:∀ (j:Nat) u r b,us[j]? = some u->rs[j]? = some r->bs[j]? = some b->w9 w B I u r b):w9 w B I (.tuple us.toArray) (.dQ rs) bs.flatten
def br(P:Program)(f:FuncId)(args:List PV)(Q:RV->Prop):Prop :=
 hU P f=true/\∀ (I:Mem) (w:World) (vs:List Value),I.inW w->VRs I vs args ->
  Calls P f vs.toArray w λe w'=>∃v r bs I',e = .returned v/\Q r/\w9 w' w.heap.size I' v r bs/\bs.Nodup/\(∀b∈bs,w.heap.size<=b/\b<w'.heap.size) /\
   Below w.heap.size w w'/\I.sub I'/\I'.inW w'/\∀b,b<w.heap.size->∀o,I' b o=I b o
theorem br.mono{f:FuncId}{args:List PV}{Q Q':RV->Prop}(h:br P f args Q)(hq:∀r,Q r->Q' r):br P f args Q':=⟨h.1,λI w vs hI hv=>(h.2 I w vs hI hv).mono λ_ _ ⟨v,r,bs,I',h1,h2,h3⟩=>⟨v,r,bs,I',h1,hq r h2,h3⟩⟩
mutual
def cO(k:Nat):RV->AV×Nat
 | .p x=>(.p x,k)
 | .row _ _ _=>(.row k 0,k+1)
 | .deep _ _ _ _ _ _=>(.eG k 0,k+1)
 | .agg rs=>(xS (jv k rs).1,(jv k rs).2)
 | .dQ rs=>(.dQ (jv k rs).1,(jv k rs).2)
def jv(k:Nat):List RV->List AV×Nat
 | []=>([],k)
 |r :: rs=>((cO k r).1 :: (jv (cO k r).2 rs).1,(jv (cO k r).2 rs).2)
end
mutual
def gj(k:Nat)(H:ay):RV->ay
 | .p _=>H
 | .row e sz es=>bk H k (.row 0 e sz es)
 | .deep e sz j e' sz' es=>bk H k (.deep 0 e sz j e' sz' es)
 | .agg rs=>kQ k H rs
 | .dQ rs=>kQ k H rs
def kQ(k:Nat)(H:ay):List RV->ay
 | []=>H
 |r :: rs=>kQ (cO k r).2 (gj k H r) rs
end
theorem gV.add{C:Ctx}{env:Env}{H:ay}{tm:Array Value}{w:World}(h:gV C env H I L tm w){id:Nat}(hid:H id=none)(l:Loc)(ch:Chunk)
  (hch:qd I (ck L id l) w C.B id ch) (hl:∀b,l.has b->C.B<=b/\b<w.heap.size/\(∀i li,L i=some li->¬ li.has b)/\(C.w0.heap.size<=b\/C.amY b)):gV C env (bk H id ch) I (ck L id l) tm w:=by
 have hL:=h.rX hid;have hle:=dL.tY hL l;exact
 {h with
  env:=λt=>(h.env t).mono (Mem.dV I) hle
  dom:=λi li hi=>by
   by_cases e:i=id
   ·exact⟨ch,by simp[bk,e]⟩
   ·obtain⟨c,hc⟩:=h.dom i li (by simpa[ck,e] using hi);exact⟨c,by simpa[bk,e] using hc⟩
  chunk:=λi c hc=>by
   by_cases e:i=id
   ·subst e;have:ch=c:=by simpa[bk] using hc
    subst this;exact hch
   ·exact (h.chunk i c (by simpa[bk,e] using hc)).keep (Mem.dV I) hle (by simp[ck,e]) λ_ _ _ _=>⟨rfl,λ_=>rfl⟩
  loc:=h.loc.trans hle
  jB:=λi li b hi hlb=>by
   by_cases e:i=id
   ·subst e;have:l=li:=by simpa[ck] using hi
    subst this;exact (hl b hlb).2.2.2
   ·exact h.jB i li b (by simpa[ck,e] using hi) hlb
  fK:=λi li b hi hlb=>by
   by_cases e:i=id
   ·subst e;have:l=li:=by simpa[ck] using hi
    subst this;exact⟨(hl b hlb).1,(hl b hlb).2.1⟩
   ·exact h.fK i li b (by simpa[ck,e] using hi) hlb
  apart:=λi j li lj b hi hj qX uR=>by
   by_cases ei:i=id<;>by_cases ej:j=id
   ·rw[ei,ej]
   ·subst ei;have:l=li:=by simpa[ck] using hi
    subst this;exact absurd uR ((hl b qX).2.2.1 j lj (by simpa[ck,ej] using hj))
   ·subst ej;have:l=lj:=by simpa[ck] using hj
    subst this;exact absurd qX ((hl b uR).2.2.1 i li (by simpa[ck,ei] using hi))
   ·exact h.apart i j li lj b (by simpa[ck,ei] using hi) (by simpa[ck,ej] using hj) qX uR }
def avd(C:Ctx)(env:Env)(tm:Array Value)(w:World)(I:Mem)(L:bA)(H':ay)(bs:List Nat)(R:bA->Prop):Prop:=∃L',gV C env H' I L' tm w/\dL L L'/\(∀id l b,L' id=some l->l.has b->(L id=some l)\/b∈bs)/\R L'
theorem yP:(∀ (r:RV) (k:Nat),k<=(cO k r).2):=by
 intro r;refine RV.rec (motive_1:=λr=>∀k,k<=(cO k r).2) (motive_2:=λrs=>∀k,k<=(jv k rs).2) ?_ ?_ ?_ ?_ ?_ ?_ ?_ r
 ·intro x k;exact Nat.le_refl _
 ·intro e sz es k;exact Nat.le_succ _
 ·intro e sz j e' sz' es k;exact Nat.le_succ _
 ·intro rs ih k;exact ih k
 ·intro rs ih k;exact ih k
 ·intro k;exact Nat.le_refl _
 ·intro r rs ih1 ih2 k;exact Nat.le_trans (ih1 k) (ih2 _)
theorem acP(rs:List RV):∀k:Nat,k<=(jv k rs).2:=by
 induction rs with
 |nil=>intro k;exact Nat.le_refl _
 |cons r rs ih=>intro k;exact Nat.le_trans (yP r k) (ih _)
theorem aa8:∀ (r:RV) (k:Nat) (H:ay) (i:Nat),(i<k\/(cO k r).2<=i)->gj k H r i=H i:=by
 intro r;refine RV.rec (motive_1:=λr=>∀k (H:ay) i,(i<k\/(cO k r).2<=i)->gj k H r i=H i) (motive_2:=λrs=>∀k (H:ay) i,(i<k\/(jv k rs).2<=i)->kQ k H rs i=H i) ?_ ?_ ?_ ?_ ?_ ?_ ?_ r
 ·intro x k H i _;rfl
 ·intro e sz es k H i hi;show bk H k _ i=H i;unfold bk;rw[if_neg];rintro rfl;rcases hi with h|h
  ·exact Nat.lt_irrefl _ h
  ·exact Nat.lt_irrefl _ h
 ·intro e sz j e' sz' es k H i hi;show bk H k _ i=H i;unfold bk;rw[if_neg];rintro rfl;rcases hi with h|h
  ·exact Nat.lt_irrefl _ h
  ·exact Nat.lt_irrefl _ h
 ·intro rs ih k H i hi;exact ih k H i hi
 ·intro rs ih k H i hi;exact ih k H i hi
 ·intro k H i _;rfl
 ·intro r rs ih1 ih2 k H i hi;show kQ _ (gj k H r) rs i=H i;have h1:=yP r k;have h2:=acP rs (cO k r).2;have hi':i<k\/(jv (cO k r).2 rs).2<=i:=hi;rw[ih2 _ _ i (by omega),ih1 k H i (by omega)]
section
variable{C:Ctx}{env:Env}{tm:Array Value}{w:World}{B:Nat}
def ap8(C:Ctx)(env:Env)(tm:Array Value)(w:World)(B:Nat)(I:Mem)(r:RV):Prop :=
 ∀ (k:Nat) (H:ay) (L:bA) (u:Value) (bs:List Nat),gV C env H I L tm w->w9 w B I u r bs->C.w0.heap.size<=B->bs.Nodup->(∀b∈bs,B<=b/\b<w.heap.size) ->
  (∀b∈bs,∀i li,L i=some li->¬ li.has b)->(∀i,k<=i->i<(cO k r).2->H i=none)->avd C env tm w I L (gj k H r) bs λL'=>eo I L' u (cO k r).1
def ave(C:Ctx)(env:Env)(tm:Array Value)(w:World)(B:Nat)(I:Mem)(rs:List RV):Prop :=
 ∀ (k:Nat) (H:ay) (L:bA) (us:List Value) (bs:List (List Nat)),gV C env H I L tm w->us.length=rs.length->us.length=bs.length ->
  (∀ (j:Nat) u r b,us[j]? = some u->rs[j]? = some r->bs[j]? = some b->w9 w B I u r b)->C.w0.heap.size<=B->bs.flatten.Nodup->(∀b∈bs.flatten,B<=b/\b<w.heap.size) ->
  (∀b∈bs.flatten,∀i li,L i=some li->¬ li.has b)->(∀i,k<=i->i<(jv k rs).2->H i=none)->avd C env tm w I L (kQ k H rs) bs.flatten λL'=>oQ I L' us (jv k rs).1
theorem avf(r:RV):ap8 C env tm w B I r:=by
 refine RV.rec (motive_1:=ap8 C env tm w B I) (motive_2:=ave C env tm w B I) ?_ ?_ ?_ ?_ ?_ ?_ ?_ r
 ·intro x k H L u bs hs hr _ _ _ _ _;cases hr with
  |p _ _ h=>exact⟨L,hs,dL.refl L,λid l b hl _=>.inl hl,.p _ _ h⟩
 ·intro e sz es k H L u bs hs hr hB hnd hbs hap hfr;cases hr with
  |row _ _ _ _ us h h1 =>
   have hk:H k=none:=hfr k (Nat.le_refl _) (Nat.lt_succ_self _);refine⟨ck L k (.row 0 u sz),hs.add hk _ _ ?_ ?_,dL.tY (hs.rX hk) _,?_,.row _ _ _ 0 u sz (by simp[ck]) (Nat.le_refl _) (λ_=>rfl) h1⟩
   ·exact⟨u,us,by simp[ck],abP h.own (Nat.le_trans C.hB hB),h.pos,h.all,h.val,h.one,h.free⟩
   ·intro b hb;have hm:b∈u.ownBlock.toList:=by have:u.ownBlock=some b:=hb;simp[this]
    exact⟨Nat.le_trans (Nat.le_trans C.hB hB) (hbs b hm).1,(hbs b hm).2,hap b hm,.inl (Nat.le_trans hB (hbs b hm).1)⟩
   ·intro id l b hl hb;by_cases e:id=k
    ·subst e;have:Loc.row 0 u sz=l:=by simpa[ck] using hl
     subst this;right;have:u.ownBlock=some b:=hb;simp[this]
    ·exact .inl (by simpa[ck,e] using hl)
 ·intro e sz j e' sz' es k H L u bs hs hr hB hnd hbs hap hfr;cases hr with
  |deep _ _ _ _ _ _ _ us di h h1 hk hall hin aGH =>
   have hkn:H k=none:=hfr k (Nat.le_refl _) (Nat.lt_succ_self _);have aDh:C.B<=B:=Nat.le_trans C.hB hB;have low:∀ {v:Value} {e:TypeId} {sz:Nat} {es:List (List PV)} {us:List Value},rW w B I v e sz es us->rW w C.B I v e sz es us:=λh=>⟨abP h.own aDh,h.pos,h.all,h.val,h.one,h.free⟩
   refine⟨ck L k (.deep 0 u sz sz' di es.length),hs.add hkn _ _ ?_ ?_,dL.tY (hs.rX hkn) _,?_,.eG _ _ _ 0 u sz sz' di es.length (by simp[ck]) (Nat.le_refl _) (λ_=>rfl) h1⟩
   ·exact⟨u,us,di,by simp[ck],low h,h1,hk,hall,λi x hx=>by
     obtain⟨l,us',q1,q2,q3⟩:=hin i x hx;exact⟨l,us',q1,low q2,q3⟩,aGH⟩
   ·intro b hb;have hm:b∈yC u di es.length:=aaY.2 hb;exact⟨Nat.le_trans aDh (hbs b hm).1,(hbs b hm).2,hap b hm,.inl (Nat.le_trans hB (hbs b hm).1)⟩
   ·intro id l b hl hb;by_cases e:id=k
    ·subst e;have:Loc.deep 0 u sz sz' di es.length=l:=by simpa[ck] using hl
     subst this;exact .inr (aaY.2 hb)
    ·exact .inl (by simpa[ck,e] using hl)
 ·intro rs ih k H L u bs hs hr hB hnd hbs hap hfr;cases hr with
  |agg us _ bs hl hl' hv hone=>obtain⟨L',h1,h2,h3,h4⟩:=ih k H L us bs hs hl hl' hv hB hnd hbs hap hfr;exact⟨L',h1,h2,h3,vc h4.1 h4.2 hone⟩
 ·intro rs ih k H L u bs hs hr hB hnd hbs hap hfr;cases hr with
  |dQ us _ bs hl hl' hv=>obtain⟨L',h1,h2,h3,h4⟩:=ih k H L us bs hs hl hl' hv hB hnd hbs hap hfr;exact⟨L',h1,h2,h3,.dQ us _ h4.1 h4.2⟩
 ·intro k H L us bs hs hl hl' _ _ _ _ _ _;have:us=[]:=by simpa using hl
  subst this;exact⟨L,hs,dL.refl L,λid l b hl _=>.inl hl,rfl,by simp⟩
 ·intro r rs ih1 ih2 k H L us bs hs hl hl' hv hB hnd hbs hap hfr;cases us with
  |nil=>simp at hl
  |cons u us =>
   cases bs with
   |nil=>simp at hl'
   |cons b bs =>
    simp only[List.flatten_cons,List.nodup_append,List.mem_append] at hnd hbs hap;obtain⟨L1,a1,a2,a3,a4⟩:=ih1 k H L u b hs (hv 0 u r b rfl rfl rfl) hB hnd.1 (λx hx=>hbs x (.inl hx)) (λx hx=>hap x (.inl hx)) (λi h1 h2=>hfr i h1 (Nat.lt_of_lt_of_le h2 (acP rs _)));obtain⟨L2,b1,b2,b3,b4⟩:=ih2 (cO k r).2 (gj k H r) L1 us bs a1 (by simpa using hl) (by simpa using hl') (λj u r b hu hr hb=>hv (j+1) u r b hu hr hb) hB hnd.2.1 (λx hx=>hbs x (.inr hx)) (λx hx i li hi hli=>by
     rcases a3 i li x hi hli with h|h
     ·exact hap x (.inr hx) i li h hli
     ·exact hnd.2.2 x h x hx rfl) (λi h1 h2=>by
      rw[aa8 r k H i (.inr h1)];exact hfr i (Nat.le_trans (yP r k) h1) h2)
    refine⟨L2,b1,λid=>?_,λid l x hl hx=>?_,by simp[jv,b4.1],λj v a we ha=>?_⟩
    ·exact (a2.trans b2) id
    ·rcases b3 id l x hl hx with h|h
     ·rcases a3 id l x h hx with h|h
      ·exact .inl h
      ·exact .inr (by simp[h])
     ·exact .inr (by
       rw[List.flatten_cons];exact List.mem_append_right _ h)
    ·cases j with
     |zero =>
      simp at we ha;subst we;have ha':(cO k r).1=a:=by simpa[jv] using ha
      rw[<-ha'];exact a4.mono (Mem.dV I) b2
     |succ j=>exact b4.2 j v a (by simpa using we) (by simpa[jv] using ha)
end
mutual
def RV.flat:RV->Bool
 | .p x=>x.scalar
 | .row _ _ es=>es.all λx=>x.all isVal
 | .deep _ _ _ _ _ _=>false
 | .agg rs=>RV.aaG rs
 | .dQ rs=>RV.aaG rs
def RV.aaG:List RV->Bool
 | []=>true
 |r :: rs=>r.flat&&RV.aaG rs
end
theorem rW.flat{w:World}{B:Nat}{J:Mem}{bH:Value}{e:TypeId}{sz:Nat}{es:List (List PV)}{us:List Value}(h:rW w B J bH e sz es us)(hf:(es.all λx=>x.all isVal)=true)(hI:∀b,bH.ownBlock=some b->∀o,I b o=none) :
  rW w B I bH e sz es us :=
 {h with
  val:=λj u c hu hc=>(h.val j u c hu hc).isVal (by
   have hm:=List.mem_of_getElem? hc;obtain⟨x,hx,hcx⟩:=List.mem_flatten.1 hm;exact List.all_eq_true.1 (List.all_eq_true.1 hf x hx) c hcx)
  free:=hI }
theorem w9.flat{w:World}{B:Nat}{J:Mem}{u:Value}{r:RV}{bs:List Nat}(h:w9 w B J u r bs):r.flat=true->(∀b∈bs,∀o,I b o=none)->w9 w B I u r bs:=by
 induction h with
 |p u x h=>exact λhf _=>.p _ _ (h.scalar hf)
 |row bH e sz es us h h1=>intro hf hI;exact .row bH e sz es us (h.flat hf λb hb=>hI b (by simp[hb])) h1
 |deep=>intro hf;cases hf
 |agg us rs bs hl hl' hv hone ih =>
  intro hf hI;have hall:∀rs:List RV,RV.aaG rs=true->∀r∈rs,r.flat=true:=by
   intro rs
   induction rs with
   |nil=>intro _ r hr;cases hr
   |cons a r ih =>
    intro h x hx;simp only[RV.aaG,Bool.and_eq_true] at h;rcases List.mem_cons.1 hx with rfl|hx
    ·exact h.1
    ·exact ih h.2 x hx
  exact .agg us rs bs hl hl' (λj u r b hu hr hb=>ih j u r b hu hr hb (hall rs hf r (List.mem_of_getElem? hr)) λx hx=>hI x (List.mem_flatten.2 ⟨b,List.mem_of_getElem? hb,hx⟩)) hone
 |dQ us rs bs hl hl' hv ih =>
  intro hf hI;have hall:∀rs:List RV,RV.aaG rs=true->∀r∈rs,r.flat=true:=by
   intro rs
   induction rs with
   |nil=>intro _ r hr;cases hr
   |cons a r ih =>
    intro h x hx;simp only[RV.aaG,Bool.and_eq_true] at h;rcases List.mem_cons.1 hx with rfl|hx
    ·exact h.1
    ·exact ih h.2 x hx
  exact .dQ us rs bs hl hl' (λj u r b hu hr hb=>ih j u r b hu hr hb (hall rs hf r (List.mem_of_getElem? hr)) λx hx=>hI x (List.mem_flatten.2 ⟨b,List.mem_of_getElem? hb,hx⟩))
def avg(P:Program)(o:Oper)(ρ:Operand->AV)(H:ay)(Kr:AV->ay->Prop):Prop :=
 ∃k eL ps b Q,∃id:Nat,dH o ρ=some (k,eL)/\ek (gA H) eL=some (ps,b)/\br P k ps Q /\
  ∀r,Q r->(b=true->r.flat=true)/\(∀i,id<=i->i<(cO id r).2->H i=none)/\Kr (cO id r).1 (gj id H r)
theorem aiE{o:Oper}{ρ:Operand->AV}{H:ay}{Kr:AV->ay->Prop}(h:avg P o ρ H Kr){C:Ctx}{env:Env}{tm:Array Value}{w:World}(hs:gV C env H I L tm w){σ:Operand->Value}(hσ:∀x,eo I L (σ x) (ρ x)) :
  ∃k args,(execOp σ o).run P w = .ok (.enter k args) w/\Calls P k args w λe w'=>∃v I' L' a H',e = .returned v/\Kr a H'/\eo I' L' v a/\gV C env H' I' L' tm w':=by
 obtain⟨k,eL,ps,b,Q,id,h1,h2,h3,h4⟩:=h;obtain⟨us,hr,hu⟩:=qg h1 h3.1 hσ w;refine⟨k,_,hr,?_⟩
 have fin : ∀ {I' : Mem} {w' : World} {v : Value} {r : RV} {bs : List Nat}, gV C env H I' L tm w' → w9 w' w.heap.size I' v r bs → bs.Nodup → (∀ b ∈ bs, w.heap.size ≤ b ∧ b < w'.heap.size) → (∀ i, id ≤ i → i < (cO id r).2 → H i = none) →
   ∃L',gV C env (gj id H r) I' L' tm w'/\eo I' L' v (cO id r).1:=by
  intro I' w' v r bs hs' hrv hnd hbs hfr;obtain⟨L',k1,_,_,k4⟩:=avf r id H L v bs hs' hrv hs.below.size hnd hbs (λb hb i li hi hli=>by
   have h1:=(hs.fK i li b hi hli).2;have h2:=(hbs b hb).1;omega) hfr
  exact⟨L',k1,k4⟩
 cases b with
 |false =>
  obtain⟨k1,_,k3⟩:=kg (o4 hs (tO H) (lR hs.mem) ((qY L w).g H)) eL ps false h2 us hu.1 hu.2;refine (h3.2 I w us hs.mem ⟨k1,k3 rfl⟩).mono λe w' ⟨v,r,bs,I',q1,q2,q3,q4,q5,q6,q7,q8,q9⟩=>?_
  obtain⟨_,m2,m3⟩:=h4 r q2;obtain⟨L',n1,n2⟩:=fin (hs.grow q6 q7 q8 q9) q3 q4 q5 m2;exact⟨v,I',L',_,_,q1,m3,n2,n1⟩
 |true =>
  obtain⟨k1,k2,_⟩:=kg (o4 hs (tO H) (lR hs.mem) ((qY L w).g H)) eL ps true h2 us hu.1 hu.2;refine (h3.2 (snap w) w us (aeI w) ⟨k1,k2⟩).mono λe w' ⟨v,r,bs,I',q1,q2,q3,q4,q5,q6,q7,q8,q9⟩=>?_
  obtain⟨m1,m2,m3⟩:=h4 r q2;have hfree:∀b∈bs,∀o,I b o=none:=λb hb o=>by
   cases hI:I b o with
   |none=>rfl
   |some u=>exact absurd (hs.mem.lt hI) (by have:=(q5 b hb).1;omega)
  obtain⟨L',n1,n2⟩:=fin (hs.world (q6.mono hs.leB) λb hb=>q6.block b hb) (q3.flat (m1 rfl) hfree) q4 q5 m2;exact⟨v,I,L',_,_,q1,m3,n2,n1⟩
mutual
def RV.pv:RV->PV
 | .p x=>x
 | .row _ _ es=>.aV es
 | .deep _ _ _ _ _ es=>.aV es
 | .agg rs=>.agg (RV.pvL rs)
 | .dQ rs=>.dQ (RV.pvL rs)
def RV.pvL:List RV->List PV
 | []=>[]
 |r :: rs=>r.pv :: RV.pvL rs
end
theorem RV.aiF:∀ (rs:List RV) (j:Nat) (c:PV),(RV.pvL rs)[j]? = some c->∃r,rs[j]? = some r/\r.pv=c
 | [],j,c,h=>by simp[RV.pvL] at h
 |r :: rs,j,c,h=>by
  cases j with
  |zero=>simp[RV.pvL] at h;exact⟨r,rfl,h⟩
  |succ j=>obtain⟨r',h1,h2⟩:=RV.aiF rs j c (by simpa[RV.pvL] using h);exact⟨r',by simpa using h1,h2⟩
theorem RV.aiG:∀ (rs:List RV),(RV.pvL rs).length=rs.length
 | []=>rfl
 |r :: rs=>by simp[RV.pvL,RV.aiG rs]
theorem w9.pv{w:World}{B:Nat}{J:Mem}{u:Value}{r:RV}{bs:List Nat}(h:w9 w B J u r bs):∀ {K:Mem},J.sub K->(∀b,B<=b->∀o u,w.cell? ⟨b,o,none⟩=some u->K b o=some u)->VR K u r.pv:=by
 induction h with
 |p u x h=>exact λhK _=>h.mono hK
 |row bH e sz es us h h1 =>
  intro K hK acQ;show VR K bH (.aV es);have hfl:=bG h.all;have hlen:us.length=es.flatten.length:=by rw[hfl];exact h.own.1
  rcases h.own.2 with ⟨rfl,hn⟩|⟨g,cap,cur,rfl,hb,hg,hnc,hcm,hcs,lB⟩
  ·have he:es=[]:=List.length_eq_zero_iff.1 hn;subst he;exact .aV none 0 0 [] us sz rfl (by simp) hlen (λj u c hu hc=>(h.val j u c hu hc).mono hK) h.one (.inl (List.length_eq_zero_iff.1 (by simpa using hlen))) (λ_=>⟨rfl,rfl⟩) (Nat.le_refl _)
  ·refine .aV _ _ _ es us sz rfl h.all hlen (λj u c hu hc=>(h.val j u c hu hc).mono hK) h.one (.inr ⟨g,0,rfl,λj u hu=>?_⟩) (by simp) hnc;rw[Nat.zero_add];refine acQ g hb j u ?_;rw[fV hg];rw[<-lB,List.getElem?_take] at hu;split at hu
   ·simpa using hu
   ·cases hu
 |deep bH e sz k e' sz' es us di h h1 hk hall hin hap =>
  intro K hK acQ;exact ap5 h hall hin hK λb hb=>acQ b (by
   rcases hb with hb|⟨i,hi,hb⟩
   ·exact (yO h.own hb)
   ·obtain⟨l,us',q1,q2,q3⟩:=hin i _ (List.getElem?_eq_getElem hi);exact yO q2.own hb)
 |agg us rs bs hl hl' hv hone ih =>
  intro K hK acQ;show VR K (.agg us.toArray) (.agg (RV.pvL rs));refine .agg us _ (by rw[RV.aiG];exact hl) (λj u c hu hc=>?_) hone;obtain⟨r,h1,rfl⟩:=RV.aiF rs j c hc;obtain⟨b,hb⟩:∃b,bs[j]? = some b:=by have hj:j<us.length:=(List.getElem?_eq_some_iff.1 hu).1;exact⟨bs[j]'(by omega),by simp[hl' ▸ hj]⟩
  exact ih j u r b hu h1 hb hK acQ
 |dQ us rs bs hl hl' hv ih =>
  intro K hK acQ;show VR K (.tuple us.toArray) (.dQ (RV.pvL rs));refine .dQ us _ (by rw[RV.aiG];exact hl) (λj u c hu hc=>?_);obtain⟨r,h1,rfl⟩:=RV.aiF rs j c hc;obtain⟨b,hb⟩:∃b,bs[j]? = some b:=by have hj:j<us.length:=(List.getElem?_eq_some_iff.1 hu).1;exact⟨bs[j]'(by omega),by simp[hl' ▸ hj]⟩
  exact ih j u r b hu h1 hb hK acQ
def Mem.aq9(I:Mem)(B:Nat)(w:World):Mem:=λb o=>if b<B then I b o else w.cell? ⟨b,o,none⟩
theorem br.toV{f:FuncId}{args:List PV}{Q:RV->Prop}(h:br P f args Q):aS P f args λx=>∃r,Q r/\x=r.pv :=
 ⟨h.1,λI w vs hI hv=>(h.2 I w vs hI hv).mono λe w' ⟨v,r,bs,I',q1,q2,q3,q4,q5,q6,q7,q8,q9⟩=>by
  have hsub:I'.sub (I'.aq9 w.heap.size w'):=λb o u hu=>by
   unfold Mem.aq9;split
   ·exact hu
   ·exact q8 b o u hu
  refine⟨v,r.pv,I'.aq9 w.heap.size w',q1,⟨r,q2,rfl⟩,q3.pv hsub (λb hb o u hu=>?_),q6,Mem.lP q7 hsub,λb o u hu=>?_,λb hb o=>?_⟩
  ·unfold Mem.aq9;rw[if_neg (by omega)];exact hu
  ·unfold Mem.aq9 at hu;split at hu
   ·exact q8 b o u hu
   ·exact hu
  ·unfold Mem.aq9;rw[if_pos hb];exact q9 b hb o⟩
theorem br.azN{f:FuncId}{args:List PV}{r0:RV}(h:br P f args λr=>r=r0):aS P f args λx=>x=r0.pv:=h.toV.mono λx ⟨r,h1,h2⟩=>by rw[h2,h1]
end Go.cr
namespace Go.cr
open Go.RowKit
variable{P:Program}{I:Mem}{L:bA}
def Ctx.avh(w:World)(I:Mem)(n B v sz:Nat)(bH:Value)(hB:B<=w.heap.size):Ctx :=
 ⟨w,I,n,B,λb=>bH.ownBlock=some b,λi=>if i=1000000 then some (.row v bH sz) else none,hB,λi l h=>by
  split at h
  ·omega
  ·cases h⟩
def kE(P:Program)(f:FuncId)(v:Nat)(e:TypeId)(sz:Nat)(es:List (List PV))(ps:List PV)(Q:AV->Option Chunk->Prop):Prop :=
 hU P f=true/\∀ (B:Nat) (I:Mem) (w:World) (bH:Value) (us vs:List Value) (hB:B<=w.heap.size),I.inW w->rW w B I bH e sz es us->bH.oneCell'=true->VRs I vs ps ->
  Calls P f (bH :: vs).toArray w λx w'=>∃u a H' I' L',x = .returned u/\Q a (H' 1000000)/\eo I' L' u a/\gV (Ctx.avh w I 0 B v sz bH hB) fT H' I' L' #[] w'
theorem kE.mono{f:FuncId}{v:Nat}{e:TypeId}{sz:Nat}{es:List (List PV)}{ps:List PV}{Q Q':AV->Option Chunk->Prop}(h:kE P f v e sz es ps Q)(hq:∀a c,Q a c->Q' a c):kE P f v e sz es ps Q':=⟨h.1,λB I w bH us vs hB hI hr h1 hv=>(h.2 B I w bH us vs hB hI hr h1 hv).mono λ_ _ ⟨u,a,H',I',L',q1,q2,q3⟩=>⟨u,a,H',I',L',q1,hq _ _ q2,q3⟩⟩
def ap9(id:Nat):AV->Option AV
 | .p x=>some (.p x)
 | .row i v=>if i=1000000 then some (.row id v) else none
 | .dQ []=>some (.dQ [])
 |_=>none
theorem vH{w:World}{B:Nat}{e:TypeId}{sz:Nat}{bH:Value}{n:Nat}{us:List Value}(h:w.ownsRow B e sz bH n us){b:Nat}(hb:bH.ownBlock=some b):B<=b/\b<w.heap.size:=by
 rcases h.2 with ⟨rfl,_⟩|⟨g,cap,cur,rfl,h1,h2,_⟩
 ·cases hb
 ·have:g=b:=by simpa[Value.ownBlock] using hb
  subst this;refine⟨h1,?_⟩;rcases Nat.lt_or_ge g w.heap.size with h|h
  ·exact h
  ·simp[Array.getElem?_eq_none h] at h2
section
variable{C:Ctx}{env:Env}{H H':ay}{tm:Array Value}{w w':World}{id v sz:Nat}{e:TypeId}{es:List (List PV)}{bH:Value}{J I':Mem}{L':bA}
theorem gV.back(h:gV C env H I L tm w)(hid:H id=some (.row v e sz es))(hl:L id=some (.row v bH sz))(hJ:I.sub J)(hJn:∀b,bH.ownBlock=some b->∀o,J b o=none)
  (hs':gV (Ctx.avh w J 0 C.B v sz bH h.leB) fT H' I' L' #[] w') {v':Nat} {e':TypeId} {sz':Nat} {es':List (List PV)} (hch:H' 1000000=some (.row v' e' sz' es'))
  {K:Mem} (hK:(J=I/\K=I')\/(K=I/\(es'.all λx=>x.all isVal)=true)) :
  ∃eV,L' 1000000=some (.row v' eV sz')/\gV C env (bk H id (.row v' e' sz' es')) K (ck L id (.row v' eV sz')) tm w'/\dL L (ck L id (.row v' eV sz')):=by
 obtain⟨eV,us',k1,k2,k3,k4,k5,k6,k7⟩:=hs'.chunk 1000000 _ hch;have aj4:dL L (ck L id (.row v' eV sz')):=λi=>by
  by_cases hi:i=id
  ·subst hi;rw[hl];have:=hs'.loc 1000000;simp only[Ctx.avh,if_true,k1] at this;obtain⟨v1,jJ,m1,m2,m3⟩:=this;simp only[cA,Loc.row.injEq] at m1;obtain⟨rfl,rfl,rfl⟩:=m1;exact⟨v',eV,by simp[ck],m2,m3⟩
  ·have:ck L id (.row v' eV sz') i=L i:=by simp[ck,hi]
   rw[this];exact dL.refl L i
 have hown:∀b,bH.ownBlock=some b->C.w0.heap.size<=b\/C.amY b:=λb hb=>h.jB id _ b hl hb
 have hfr:∀b,b<w.heap.size->bH.ownBlock≠some b->w'.heap[b]? = w.heap[b]?:=λb hb hn=>hs'.frame b hb hn
 have hIn:∀b o,b<w.heap.size->bH.ownBlock≠some b->I' b o=J b o:=λb o hb hn=>hs'.lQ b hb hn o
 have avi:∀b,bH.ownBlock=some b->∀o,I b o=none:=λb hb o=>by
  cases hI:I b o with
  |none=>rfl
  |some u=>have:=hJ b o u hI;rw[hJn b hb o] at this;cases this
 have avj:I.sub K:=by
  rcases hK with ⟨e1,e2⟩|⟨e1,_⟩
  ·rw[e2];exact Mem.lP hJ hs'.kP
  ·rw[e1];exact Mem.dV I
 have hKn:∀b o,b<w.heap.size->bH.ownBlock≠some b->K b o=I b o:=λb o hb hn=>by
  rcases hK with ⟨e1,e2⟩|⟨e1,_⟩
  ·rw[e2,hIn b o hb hn,e1]
  ·rw[e1]
 have hKw:K.inW w':=by
  rcases hK with ⟨_,e2⟩|⟨e1,_⟩
  ·rw[e2];exact hs'.mem
  ·rw[e1];exact h.mem.keep λb ⟨o,u,hu⟩=>hfr b (h.mem.lt hu) λhb=>by rw[avi b hb o] at hu;cases hu
 have hblk:∀b,eV.ownBlock=some b->bH.ownBlock=some b\/w.heap.size<=b:=λb hb=>(hs'.jB 1000000 _ b k1 hb).symm
 refine⟨eV,k1,?_,aj4⟩;exact
 {below:=h.below.trans hs'.below
  mem:=hKw
  kP:=Mem.lP h.kP avj
  lQ:=λb hb hf o=>by
   have hn:bH.ownBlock≠some b:=λhb'=>by
    rcases hown b hb' with h1|h1
    ·omega
    ·exact hf h1
   rw[hKn b o (Nat.lt_of_lt_of_le hb h.below.size) hn];exact h.lQ b hb hf o
  frame:=λb hb hf=>by
   have hn:bH.ownBlock≠some b:=λhb'=>by
    rcases hown b hb' with h1|h1
    ·omega
    ·exact hf h1
   exact (hfr b (Nat.lt_of_lt_of_le hb h.below.size) hn).trans (h.frame b hb hf)
  loc:=h.loc.trans aj4
  jB:=λi li b hi hlb=>by
   by_cases ei:i=id
   ·subst ei;have:Loc.row v' eV sz'=li:=by simpa[ck] using hi
    subst this;rcases hblk b hlb with h1|h1
    ·exact hown b h1
    ·exact .inl (Nat.le_trans h.below.size h1)
   ·exact h.jB i li b (by simpa[ck,ei] using hi) hlb
  size:=h.size
  env:=λt=>(h.env t).mono avj aj4
  dom:=λi li hi=>by
   by_cases ei:i=id
   ·exact⟨.row v' e' sz' es',by simp[bk,ei]⟩
   ·obtain⟨c,hc⟩:=h.dom i li (by simpa[ck,ei] using hi);exact⟨c,by simpa[bk,ei] using hc⟩
  chunk:=λi c hc=>by
   by_cases ei:i=id
   ·subst ei;have:Chunk.row v' e' sz' es'=c:=by simpa[bk] using hc
    subst this;refine⟨eV,us',by simp[ck],k2,k3,k4,λj u c hu hc=>?_,k6,λb hb o=>?_⟩
    ·rcases hK with ⟨_,e2⟩|⟨e1,aDi⟩
     ·rw[e2];exact k5 j u c hu hc
     ·rw[e1];refine (k5 j u c hu hc).isVal ?_;obtain⟨x,hx,hcx⟩:=List.mem_flatten.1 (List.mem_of_getElem? hc);exact List.all_eq_true.1 (List.all_eq_true.1 aDi x hx) c hcx
    ·rcases hK with ⟨_,e2⟩|⟨e1,_⟩
     ·rw[e2];exact k7 b hb o
     ·rw[e1];rcases hblk b hb with h1|h1
      ·exact avi b h1 o
      ·cases hI:I b o with
       |none=>rfl
       |some u=>exact absurd (h.mem.lt hI) (by omega)
   ·refine (h.chunk i c (by simpa[bk,ei] using hc)).keep avj aj4 (by simp[ck,ei]) λli b hi hlb=>?_
    have hn:bH.ownBlock≠some b:=λhb'=>ei (h.apart i id li _ b hi hl hlb hb')
    have hlt:=(h.fK i li b hi hlb).2;exact⟨hfr b hlt hn,λo=>hKn b o hlt hn⟩
  fK:=λi li b hi hlb=>by
   by_cases ei:i=id
   ·subst ei;have:Loc.row v' eV sz'=li:=by simpa[ck] using hi
    subst this;exact hs'.fK 1000000 _ b k1 hlb
   ·have:=h.fK i li b (by simpa[ck,ei] using hi) hlb;exact⟨this.1,Nat.lt_of_lt_of_le this.2 hs'.below.size⟩
  apart:=λi j li lj b hi hj qX uR=>by
   have one:∀k lk,k≠id->L k=some lk->lk.has b->eV.ownBlock≠some b:=λk lk hk hlk hbk hb'=>by
    rcases hblk b hb' with h1|h1
    ·exact hk (h.apart k id lk _ b hlk hl hbk h1)
    ·have:=(h.fK k lk b hlk hbk).2;omega
   by_cases ei:i=id<;>by_cases ej:j=id
   ·rw[ei,ej]
   ·subst ei;have:Loc.row v' eV sz'=li:=by simpa[ck] using hi
    subst this;exact absurd qX (one j lj ej (by simpa[ck,ej] using hj) uR)
   ·subst ej;have:Loc.row v' eV sz'=lj:=by simpa[ck] using hj
    subst this;exact absurd uR (one i li ei (by simpa[ck,ei] using hi) qX)
   ·exact h.apart i j li lj b (by simpa[ck,ei] using hi) (by simpa[ck,ej] using hj) qX uR }
end
def agw(H:ay)(id:Nat):ay:=λi=>if i=id then none else H i
theorem aeO(H:ay)(id:Nat):HSub (agw H id) H:=λi c h=>by
 unfold agw at h;split at h
 ·cases h
 ·exact h
def tv(w:World)(r:Option Nat):Mem:=λb o=>if r=some b then none else w.cell? ⟨b,o,none⟩
def avk(P:Program)(o:Oper)(ρ:Operand->AV)(H:ay)(Kr:AV->ay->Prop):Prop :=
 ∃k id v e sz es eL ps b Q,dH o ρ=some (k,.row id v :: eL)/\H id=some (.row v e sz es)/\ek (gA (agw H id)) eL=some (ps,b)/\kE P k v e sz es ps Q /\
  ∀a c,Q a c->∃v' e' sz' es' a',c=some (.row v' e' sz' es')/\ap9 id a=some a'/\(b=true->(es'.all λx=>x.all isVal)=true/\(match a' with | .p x=>x.scalar|_=>true)=true)/\Kr a' (bk H id (.row v' e' sz' es'))
theorem aj5{J K:Mem}{L':bA}{u:Value}{a a':AV}{id v' sz':Nat}{eV:Value}(h:eo J L' u a)(hb:ap9 id a=some a')(hl:L' 1000000=some (.row v' eV sz'))(hK:∀x,a' = .p x->VR J u x->VR K u x) :
  eo K (ck L id (.row v' eV sz')) u a':=by
 unfold ap9 at hb;split at hb
 ·simp only[cA] at hb;subst hb;exact .p _ _ (hK _ rfl h.nJ)
 ·split at hb
  ·rename_i i v hi;simp only[cA] at hb;subst hb;subst hi;cases h with
   |row _ _ _ v1 jJ sz1 mJ hle hh h1=>rw[hl] at mJ;simp only[cA,Loc.row.injEq] at mJ;obtain⟨rfl,rfl,rfl⟩:=mJ;exact .row u id v _ eV sz' (by simp[ck]) hle hh h1
  ·cases hb
 ·simp only[cA] at hb;subst hb;cases h with
  |dQ us _ hl hv=>exact .dQ us [] hl (by simp)
 ·cases hb
theorem aiH{o:Oper}{ρ:Operand->AV}{H:ay}{Kr:AV->ay->Prop}(h:avk P o ρ H Kr){C:Ctx}{env:Env}{tm:Array Value}{w:World}(hs:gV C env H I L tm w){σ:Operand->Value}(hσ:∀x,eo I L (σ x) (ρ x)) :
  ∃k args,(execOp σ o).run P w = .ok (.enter k args) w/\Calls P k args w λe w'=>∃v I' L' a H',e = .returned v/\Kr a H'/\eo I' L' v a/\gV C env H' I' L' tm w':=by
 obtain⟨k,id,v,e,sz,es,eL,ps,b,Q,h1,h2,h3,h4,h5⟩:=h;obtain⟨us,hr,hu⟩:=qg h1 h4.1 hσ w;refine⟨k,_,hr,?_⟩;cases us with
 |nil=>have:=hu.1;simp at this
 |cons agx vs =>
  obtain⟨bH,ws,q1,q2,q3,q4,q5,q6,q7⟩:=hs.chunk id _ h2;have hu0:=hu.2 0 agx _ rfl rfl;have hone:agx=bH/\bH.oneCell'=true:=by
   cases hu0 with
   |row _ _ _ v1 jJ sz1 hl hle hh h1=>rw[q1] at hl;simp only[cA,Loc.row.injEq] at hl;obtain⟨_,r2,_⟩:=hl;subst r2;have:=hh (by assumption);subst this;exact⟨rfl,h1⟩
  obtain⟨rfl,h1c⟩:=hone;have aaH:oQ I L vs eL:=⟨by simpa using hu.1,λj u c hj hc=>hu.2 (j+1) u c hj hc⟩;cases b with
  |false =>
   obtain⟨k1,_,k3⟩:=kg (o4 hs (aeO H id) (lR hs.mem) ((qY L w).g _)) eL ps false h3 vs aaH.1 aaH.2;refine (h4.2 C.B I w agx ws vs hs.leB hs.mem ⟨q2,q3,q4,q5,q6,q7⟩ h1c ⟨k1,k3 rfl⟩).mono λx w' ⟨u,a,H',I',L',m1,m2,m3,m4⟩=>?_
   obtain⟨v',e',sz',es',a',n1,n2,_,n4⟩:=h5 a _ m2;obtain⟨eV,g1,g2,g3⟩:=hs.back h2 q1 (Mem.dV I) q7 m4 n1 (K:=I') (.inl ⟨rfl,rfl⟩);exact⟨u,I',_,a',_,m1,n4,aj5 m3 n2 g1 λ_ _ h=>h,g2⟩
  |true =>
   have hJ:I.sub (tv w agx.ownBlock):=λb o u hu=>by
    unfold tv;split
    ·rename_i hb;rw[q7 b hb o] at hu;cases hu
    ·exact hs.mem b o u hu
   have hJn:∀b,agx.ownBlock=some b->∀o,tv w agx.ownBlock b o=none:=λb hb o=>by unfold tv;rw[if_pos hb]
   have hJw:(tv w agx.ownBlock).inW w:=λb o u hu=>by
    unfold tv at hu;split at hu
    ·cases hu
    ·exact hu
   have acQ:aeM (agw H id) L w (tv w agx.ownBlock):=λi ch hi l b hl hb o u hu=>by
    unfold tv;rw[if_neg]
    ·exact hu
    ·intro hb';have:=hs.apart i id l _ b hl q1 hb hb';subst this;simp[agw] at hi
   obtain⟨k1,k2,_⟩:=kg (o4 hs (aeO H id) hJ acQ) eL ps true h3 vs aaH.1 aaH.2;refine (h4.2 C.B (tv w agx.ownBlock) w agx ws vs hs.leB hJw ⟨q2,q3,q4,λj u c hu hc=>(q5 j u c hu hc).mono hJ,q6,hJn⟩ h1c ⟨k1,k2⟩).mono λx w' ⟨u,a,H',I',L',m1,m2,m3,m4⟩=>?_
   obtain⟨v',e',sz',es',a',n1,n2,n3,n4⟩:=h5 a _ m2;obtain⟨n5,n6⟩:=n3 rfl;obtain⟨eV,g1,g2,g3⟩:=hs.back h2 q1 hJ hJn m4 n1 (K:=I) (.inr ⟨rfl,n5⟩);exact⟨u,I,_,a',_,m1,n4,aj5 m3 n2 g1 λx hx h=>by subst hx;exact h.scalar n6,g2⟩
end Go.cr
namespace Go.cr
open Go.RowKit
variable{P:Program}{I:Mem}{L:bA}
open Classical in
noncomputable def Mem.sJ(I:Mem)(L:bA)(w:World)(id:Nat):Mem:=λb o=>match L id with
 |some l=>if l.has b then w.cell? ⟨b,o,none⟩ else I b o
 |none=>I b o
theorem Mem.aeP{I:Mem}{w:World}(h:I.inW w)(L:bA)(id:Nat):I.sub (I.sJ L w id):=λb o u hu=>by
 unfold Mem.sJ;split
 ·split
  ·exact h b o u hu
  ·exact hu
 ·exact hu
theorem Fr.shut(C:Ctx)(I:Mem)(L:bA){H:ay}(w:World){id v sz:Nat}{e:TypeId}{es:List (List PV)}(hH:H id=some (.row v e sz es)) :
  Fr C I L H w (I.sJ L w id) L (bk H id (.shut v es)) w:=λenv tm hs=>by
 have hsub:=Mem.aeP hs.mem L id;have acQ:∀l b,L id=some l->l.has b->∀o u,w.cell? ⟨b,o,none⟩=some u->I.sJ L w id b o=some u:=λl b hl hb o u hu=>by unfold Mem.sJ;rw[hl];simp[hb,hu]
 have aCj:∀i l b,i≠id->L i=some l->l.has b->∀o,I.sJ L w id b o=I b o:=λi l b hne hl hb o=>by
  unfold Mem.sJ;split
  ·rename_i l' hl';split
   ·rename_i hb';exact absurd (hs.apart i id l l' b hl hl' hb hb') hne
   ·rfl
  ·rfl
 obtain⟨bH,us,h1,h2,h3,h4,h5,h6,h7⟩:=hs.chunk id _ hH;exact
 {below:=hs.below
  mem:=λb o u hu=>by
   unfold Mem.sJ at hu;split at hu
   ·split at hu
    ·exact hu
    ·exact hs.mem b o u hu
   ·exact hs.mem b o u hu
  kP:=Mem.lP hs.kP hsub
  lQ:=λb hb hf o=>by
   rw[<-hs.lQ b hb hf o];unfold Mem.sJ;split
   ·rename_i l hl;split
    ·rename_i hlb;rcases hs.jB id l b hl hlb with h|h
     ·omega
     ·exact absurd h hf
    ·rfl
   ·rfl
  frame:=hs.frame
  loc:=hs.loc
  jB:=hs.jB
  size:=hs.size
  env:=λt=>(hs.env t).mono hsub (dL.refl L)
  dom:=λi l hl=>by
   obtain⟨c,hc⟩:=hs.dom i l hl;by_cases e:i=id
   ·exact⟨.shut v es,by simp[bk,e]⟩
   ·exact⟨c,by simpa[bk,e] using hc⟩
  chunk:=λi c hc=>by
   by_cases e:i=id
   ·subst e;have:Chunk.shut v es=c:=by simpa[bk] using hc
    subst this;refine⟨bH,sz,h1,?_,h4,?_⟩
    ·have hfl:=bG h4;have hlen:us.length=es.flatten.length:=by rw[hfl];exact h2.1
     rcases h2.2 with ⟨rfl,hn⟩|⟨g,cap,cur,rfl,hb,hg,hnc,hcm,hcs,lB⟩
     ·have he:es=[]:=List.length_eq_zero_iff.1 hn;subst he;exact .aV none 0 0 [] us sz rfl (by simp) hlen (λj u c hu hc=>(h5 j u c hu hc).mono hsub) h6 (.inl (List.length_eq_zero_iff.1 (by simpa using hlen))) (λ_=>⟨rfl,rfl⟩) (Nat.le_refl _)
     ·refine .aV _ _ _ es us sz rfl h4 hlen (λj u c hu hc=>(h5 j u c hu hc).mono hsub) h6 (.inr ⟨g,0,rfl,λj u hu=>?_⟩) (by simp) hnc;rw[Nat.zero_add];refine acQ _ g h1 rfl j u ?_;rw[fV hg];rw[<-lB,List.getElem?_take] at hu;split at hu
      ·simpa using hu
      ·cases hu
    ·intro hne;rcases h2.2 with ⟨rfl,hn⟩|⟨g,cap,cur,rfl,_⟩
     ·exact absurd (List.length_eq_zero_iff.1 hn) hne
     ·exact⟨g,0,_,cap,rfl⟩
   ·exact (hs.chunk i c (by simpa[bk,e] using hc)).keep hsub (dL.refl L) rfl λl b hl hb=>⟨rfl,λo=>aCj i l b e hl hb o⟩
  fK:=hs.fK
  apart:=hs.apart }
def aqa(H:ay)(id:Nat):ay:=match H id with
 |some (.row v _ _ es)=>bk H id (.shut v es)
 |_=>H
def dc:List Nat->ay->ay
 | [],H=>H
 |id :: r,H=>dc r (aqa H id)
theorem Fr.dc(C:Ctx)(L:bA)(w:World):∀ (ids:List Nat) (H:ay) (I:Mem),(I.inW w)->∃I',I.sub I'/\I'.inW w/\Fr C I L H w I' L (dc ids H) w
 | [],H,I,hw=>⟨I,Mem.dV I,hw,Fr.refl C I L H w⟩
 |id :: r,H,I,hw=>by
  unfold cr.dc aqa;split
  ·rename_i v e sz es hH;have hw':(I.sJ L w id).inW w:=λb o u hu=>by
    unfold Mem.sJ at hu;split at hu
    ·split at hu
     ·exact hu
     ·exact hw b o u hu
    ·exact hw b o u hu
   obtain⟨I',h1,h2,h3⟩:=Fr.dc C L w r (bk H id (.shut v es)) (I.sJ L w id) hw';exact⟨I',Mem.lP (Mem.aeP hw L id) h1,h2,(Fr.shut C I L w hH).trans h3⟩
  ·exact Fr.dc C L w r H I hw
def tw:List AV->List Nat
 | []=>[]
 | .row id _ :: r=>id :: tw r
 |_ :: r=>tw r
def oS:List (Nat×AV)->List Nat
 | []=>[]
 |(_,.row id _) :: r=>id :: oS r
 |(_,.agg cs) :: r=>tw cs++oS r
 |_ :: r=>oS r
def aaI(H:ay)(a:AV):AV:=match a with
 | .row id bf=>match H id with
  |some (.shut v es)=>if v=bf then .p (.aV es) else .row id bf
  |_=>.row id bf
 |a=>a
def xT(H:ay)(a:AV):AV:=match a with
 | .agg cs=>.agg (cs.map (aaI H))
 |a=>aaI H a
theorem adG(a:AV):aaI cm a=a:=by unfold aaI;cases a<;>rfl
theorem aj6(a:AV):xT cm a=a:=by
 unfold xT;cases a with
 |agg cs =>
  have:cs.map (aaI cm)=cs:=by rw[List.map_congr_left (λx _=>adG x),List.map_id']
  simp only[this]
 |_=>exact adG _
def xb(P:Program)(o:Oper)(ρ:Operand->AV)(H:ay):Option (Prop×AV×ay):=match o.op with
 | .buildSlice t n parts=>match lJ P t n ((parts.toList.map λx=>(x.1,ρ x.2)).map λx=>(x.1,xT (dc (oS (parts.toList.map λx=>(x.1,ρ x.2))) H) x.2)) with
  |some (_,es)=>some (True,.p (.aV es),dc (oS (parts.toList.map λx=>(x.1,ρ x.2))) H)
  |none=>none
 |_=>none
theorem adH{C:Ctx}{H:ay}{env:Env}{tm:Array Value}{w:World}(hs:gV C env H I L tm w){u:Value}{a:AV}(hu:eo I L u a):eo I L u (aaI H a):=by
 unfold aaI;split
 ·rename_i id bf;split
  ·rename_i v es hH;split
   ·rename_i hv;subst hv;obtain⟨bH,sz,h1,h2,_⟩:=hs.chunk id _ hH;cases hu with
    |row _ _ _ v1 jJ sz1 hl hle hh hone=>rw[h1] at hl;simp only[cA,Loc.row.injEq] at hl;obtain⟨r1,r2,r3⟩:=hl;subst r1 r2 r3;rw[hh rfl];exact .p _ _ h2
   ·exact hu
  ·exact hu
 ·exact hu
theorem aj7{C:Ctx}{H:ay}{env:Env}{tm:Array Value}{w:World}(hs:gV C env H I L tm w){u:Value}{a:AV}(hu:eo I L u a):eo I L u (xT H a):=by
 unfold xT;split
 ·rename_i cs;cases hu with
  |agg us _ hl hv hone =>
   refine .agg us _ (by simpa using hl) (λj u c hu hc=>?_) hone;rw[List.getElem?_map] at hc;cases hj:cs[j]? with
   |none=>rw[hj] at hc;cases hc
   |some a=>rw[hj] at hc;simp only[Option.map_some,cA] at hc;subst hc;exact adH hs (hv j u a hu hj)
 ·exact adH hs hu
theorem ara{o:Oper}{ρ:Operand->AV}{v:AV}{pre:Prop}{H H':ay}(h:xb P o ρ H=some (pre,v,H')){C:Ctx}{env:Env}{tm:Array Value}{w:World}
  (hs:gV C env H I L tm w) {σ:Operand->Value} (hσ:∀x,eo I L (σ x) (ρ x)):oJ P C H I L w ((execOp σ o).run P w) v H':=by
 unfold xb at h;unfold execOp;split at h
 ·rename_i t n parts hop;simp only[hop];split at h
  ·rename_i e es hb;simp only[cA,iz] at h;obtain⟨_,h2,h3⟩:=h;subst h2 h3;obtain⟨I',hsub,hw,hfr⟩:=Fr.dc C L w (oS (parts.toList.map λx=>(x.1,ρ x.2))) H I hs.mem;have hs':=hfr env tm hs;have hpr:=wm (I:=I) (L:=L) hσ parts.toList;have aGI:aeE I' L (parts.toList.map λx=>(x.1,σ x.2)) ((parts.toList.map λx=>(x.1,ρ x.2)).map λx=>(x.1,xT (dc (oS (parts.toList.map λx=>(x.1,ρ x.2))) H) x.2)):=by
    refine⟨by simp,λj x y hx hy=>?_⟩;rw[List.getElem?_map] at hy;cases hj:(parts.toList.map λx=>(x.1,ρ x.2))[j]? with
    |none=>simp[hj] at hy
    |some z=>rw[hj] at hy;simp only[Option.map_some,cA] at hy;obtain⟨k1,k2⟩:=hpr.2 j x z hx hj;subst hy;exact⟨k1,aj7 hs' (k2.mono hsub (dL.refl L))⟩
   obtain⟨uo,sz,hr,_,_,hpos,hn,hall,hl,hv,hone⟩:=vG hb aGI w;have hr':(Instr.buildSlice t n (parts.map λx=>(x.1,σ x.2))).run P w = .ok (.slice (some ⟨w.heap.size,0,none⟩) n n) (w.alloc (.cells uo.toArray e)):=by rw[<-hr];congr 2;apply Array.ext';simp
   refine⟨.slice (some ⟨w.heap.size,0,none⟩) n n,_,I'.with w.heap.size uo.toArray,L,.inl (by rw[run_lift,hr'];rfl),?_,hfr.trans (Fr.imm C I' L _ w _ e)⟩;have:=VR.air (w:=w) (us:=uo) (rest:=[]) hw hall hl hv hone (cap:=n) (by omega);rw[List.append_nil] at this;rw[hn] at this;exact .p _ _ this
  ·cases h
 ·cases h
def gi(P:Program)(o:Oper)(ρ:Operand->AV)(H:ay):Option (Prop×AV×ay):=match oa P o ρ with
 |some (pre,v)=>some (pre,v,H)
 |none=>match rP P o ρ H with
  |some (pre,v)=>some (pre,v,H)
  |none=>match wo P o ρ H with
   |some r=>some r
   |none=>xb P o ρ H
def isApp:Op->Bool
 | .call c=>(match c.callee with
  | .builtin .append=>true
  |_=>false)
 |_=>false
def orE(x:Option (Prop×AV×ay))(b:Bool)(y:Option (Prop×AV×ay)):Option (Prop×AV×ay):=match x,b with
 |some r,_=>some r
 |none,true=>y
 |none,false=>none
def fW(P:Program)(own:List Nat)(o:Oper)(ρ:Operand->AV)(H:ay):Option (Prop×AV×ay):=match o.dst with
 |some d=>if own.contains d=true then orE (exN P o ρ H d) (isApp o.op) (gi P o ρ H) else gi P o ρ H
 |none=>gi P o ρ H
theorem aag{o:Oper}{ρ:Operand->AV}{v:AV}{pre:Prop}{H H':ay}(h:gi P o ρ H=some (pre,v,H'))(hp:pre){C:Ctx}{env:Env}{tm:Array Value}{w:World}
  (hs:gV C env H I L tm w) {σ:Operand->Value} (hσ:∀x,eo I L (σ x) (ρ x)):oJ P C H I L w ((execOp σ o).run P w) v H':=by
 unfold gi at h;split at h
 ·rename_i hx;simp only[cA,iz] at h;obtain⟨rfl,rfl,rfl⟩:=h;exact aq1 hx hp hs hσ
 ·split at h
  ·rename_i hx;simp only[cA,iz] at h;obtain⟨rfl,rfl,rfl⟩:=h;exact aq5 hx hp hs hσ
  ·split at h
   ·rename_i hx;simp only[cA] at h;subst h;exact aq6 hx hp hs hσ
   ·exact ara h hs hσ
theorem aj8{own:List Nat}{o:Oper}{ρ:Operand->AV}{v:AV}{pre:Prop}{H H':ay}(h:fW P own o ρ H=some (pre,v,H'))(hp:pre){C:Ctx}{env:Env}{tm:Array Value}{w:World}
  (hs:gV C env H I L tm w) {σ:Operand->Value} (hσ:∀x,eo I L (σ x) (ρ x)):oJ P C H I L w ((execOp σ o).run P w) v H':=by
 unfold fW at h;split at h
 ·split at h
  ·unfold orE at h;split at h
   ·rename_i hx;exact aq8 (hx.trans h) hp hs hσ
   ·exact aag h hp hs hσ
   ·cases h
  ·exact aag h hp hs hσ
 ·exact aag h hp hs hσ
def cH(env:Env)(d:Option Nat)(v:AV):Env:=match d with
 |some d=>cE env d v
 |none=>env
def wu(N:Nat)(d:Option Nat):Prop:=match d with
 |some d=>d<N
 |none=>True
theorem gV.cH{C:Ctx}{env:Env}{H:ay}{tm:Array Value}{w:World}(h:gV C env H I L tm w){d:Option Nat}{u:Value}{v:AV}(hd:wu C.n d)(hv:eo I L u v)(ds:List Deferred) :
  gV C (cH env d v) H I L (Act.put ⟨tm,ds⟩ d u).tmps w:=by
 cases d with
 |none=>exact h
 |some d=>exact h.put hd hv
theorem eo.azO{u:Value}(h:eo I L u (.dQ [])):u = .tuple #[]:=by
 cases h with
 |dQ us _ hl _=>have:us=[]:=List.length_eq_zero_iff.1 (by simpa using hl);rw[this]
def mR(ops:Array Oper)(o:Oper)(env:Env):Option Bool:=match o.guard with
 |none=>some true
 |some (j,want)=>match (ops[j]?).bind (·.dst) with
  |some d=>match env d with
   | .p (.val (.bool b))=>some (b == want)
   | .dQ []=>some false
   |_=>none
  |none=>none
theorem qh{ops:Array Oper}{o:Oper}{env:Env}{g:Bool}(h:mR ops o env=some g){C:Ctx}{H:ay}{tm:Array Value}{w:World}(hs:gV C env H I L tm w) :
  Region.wanted o (yielded ops tm)=g:=by
 unfold mR at h;unfold Region.wanted;split at h
 ·rename_i hg;simp at h;subst h;simp[hg]
 ·rename_i j want hg;rw[hg];dsimp only;split at h
  ·rename_i d hd;split at h
   ·rename_i b hb;simp at h;subst h;have hu:=hs.env d;rw[hb] at hu;have hu:=hu.eC.1;have hlt:d<tm.size:=by
     rcases Nat.lt_or_ge d tm.size with h|h
     ·exact h
     ·simp[Array.getElem?_eq_none h,undef] at hu
    have:tm[d]? = some (.bool b):=by rw[<-hu];simp[hlt]
    simp[yielded,hd,this]
   ·rename_i hb;simp at h;subst h;have hu:=hs.env d;rw[hb] at hu;have hu:=hu.azO;have:∀b,tm[d]?≠some (.bool b):=λb hb=>by rw[Array.getD_eq_getD_getElem?,hb] at hu;cases hu
    cases ht:tm[d]? with
    |none=>simp[yielded,hd,ht]
    |some u =>
     cases u with
     |bool b=>exact absurd ht (this b)
     |_=>simp[yielded,hd,ht]
   ·cases h
  ·cases h
def anb(x:AV):List Nat->Env->Env
 | [],env=>env
 |t :: r,env=>anb x r (cH env (some t) x)
theorem avl(x:AV)(env:Env):anb x [] env=env:=rfl
theorem arb(x:AV)(t:Nat)(r:List Nat)(env:Env):anb x (t :: r) env=anb x r (cH env (some t) x):=rfl
def holds(env:Env)(id v:Nat):List Nat->Prop
 | []=>True
 |t :: r=>env t = .row id v/\holds env id v r
theorem arc(env:Env)(id v:Nat):holds env id v []=True:=rfl
theorem ane(env:Env)(id v t:Nat)(r:List Nat):holds env id v (t :: r)=(env t = .row id v/\holds env id v r):=rfl
theorem avm{C:Ctx}{env:Env}{H:ay}{I:Mem}{L:bA}{tm:Array Value}{w:World}{id v t:Nat}{es:List (List PV)}(hs:gV C env H I L tm w)(hH:H id=some (.shut v es))(ht:env t = .row id v) :
  gV C (cH env (some t) (.p (.aV es))) H I L tm w:=by
 refine { hs with env:=λi=>?_ };unfold cH;simp only;unfold cE;split
 ·rename_i hi;subst hi;have h1:=hs.env i;rw[ht] at h1;generalize tm.getD i undef=u at h1 ⊢;obtain⟨bH,sz,g1,g2,_⟩:=hs.chunk id _ hH;cases h1 with
  |row _ _ _ v' eV sz' hl hle h h1=>rw[g1] at hl;simp only[cA,Loc.row.injEq] at hl;obtain⟨rfl,rfl,rfl⟩:=hl;rw[h rfl];exact .p _ _ g2
 ·exact hs.env i
theorem acR{C:Ctx}{H:ay}{I:Mem}{L:bA}{tm:Array Value}{w:World}{id v:Nat}{es:List (List PV)}(hH:H id=some (.shut v es)):∀ (ts:List Nat) (env:Env),ts.Nodup->gV C env H I L tm w->holds env id v ts ->
  gV C (anb (.p (.aV es)) ts env) H I L tm w
 | [],env,_,hs,_=>hs
 |t :: r,env,hn,hs,ht=>by
  rw[List.nodup_cons] at hn;refine acR hH r _ hn.2 (avm hs hH ht.1) ?_;have:∀r:List Nat,t ∉ r->holds env id v r->holds (cH env (some t) (.p (.aV es))) id v r:=by
   intro r
   induction r with
   |nil=>intro _ _;exact trivial
   |cons u r ih=>intro hn hh;refine⟨?_,ih (λh=>hn (List.mem_cons_of_mem _ h)) hh.2⟩;rw[<-hh.1];unfold cH;simp only;unfold cE;rw[if_neg];intro e;exact hn (by rw[e];exact List.mem_cons_self)
  exact this r hn.1 ht.2
def cU(env:Env)(H:ay)(env':Env)(H':ay):Prop:=∀C I L tm w,gV C env H I L tm w->∃I' L',gV C env' H' I' L' tm w
def acS(P:Program)(o:Oper)(W:Env->ay->Prop)(env:Env)(H:ay):Prop :=
 (∃ids,avc P o (ev env) (dc ids H) λx=>W (cH env o.dst (.p x)) (dc ids H))\/aDg P o (ev env) (λx=>W (cH env o.dst (.p x)) H) \/
  ∃ids,avg P o (ev env) (dc ids H) (λa H'=>W (cH env o.dst a) H')\/avk P o (ev env) (dc ids H) λa H'=>W (cH env o.dst a) H'
def ag9(P:Program)(o:Oper)(W:Env->ay->Prop)(env:Env)(H:ay):Prop:=∃v H',W (cH env o.dst v) H'/\∀ (C:Ctx) (I:Mem) (L:bA) (tm:Array Value) (w:World) (σ:Operand->Value),gV C env H I L tm w->(∀x,eo I L (σ x) (ev env x))->oJ P C H I L w ((execOp σ o).run P w) v H'
def abQ(P:Program)(o:Oper)(W:Env->ay->Prop)(env:Env)(H:ay):Prop :=
 ∀ (C:Ctx) (I:Mem) (L:bA) (tm:Array Value) (w:World) (σ:Operand->Value),gV C env H I L tm w->(∀x,eo I L (σ x) (ev env x)) ->
  ∃k args,(execOp σ o).run P w = .ok (.enter k args) w/\Calls P k args w λe w'=>∃v I' L' a H',e = .returned v/\W (cH env o.dst a) H'/\eo I' L' v a/\gV C env H' I' L' tm w'
def aDj(P:Program)(o:Oper)(W:Env->ay->Prop)(env:Env)(H:ay):Prop:=∃sK H2,cU env H sK H2/\((∃pre v H',gi P o (ev sK) H2=some (pre,v,H')/\pre/\W (cH sK o.dst v) H')\/acS P o W sK H2\/ag9 P o W sK H2\/abQ P o W sK H2)
def jh(P:Program)(o:Oper)(W:Env->ay->Prop)(env:Env)(H:ay):Prop:=acS P o W env H\/aDj P o W env H\/ag9 P o W env H\/abQ P o W env H
def walk(P:Program)(N:Nat)(own:List Nat)(ops:Array Oper):List Oper->(Env->ay->Prop)->Env->ay->Prop
 | [],K,env,H=>K env H
 |o :: rest,K,env,H=>wu N o.dst/\match mR ops o env with
  |some true=>(match fW P own o (ev env) H with
   |some (pre,v,H')=>pre/\walk P N own ops rest K (cH env o.dst v) H'
   |none=>jh P o (walk P N own ops rest K) env H)
  |some false=>walk P N own ops rest K (cH env o.dst (.dQ [])) H
  |none=>False
theorem oJ.upon{C:Ctx}{H H':ay}{w:World}{r:Result Next}{v:AV}(h:oJ P C H I L w r v H'){o:Oper}{a:Act}{next:Act->World->Prop}{Q:Exit->Act->World->Prop}
  (hn:∀u w' I' L',eo I' L' u v->Fr C I L H w I' L' H' w'->next (a.put o.dst u) w'):o.upon P a next Q r:=by
 obtain⟨u,w',I',L',hr,ha,hf⟩:=h;rcases hr with rfl|⟨rfl,rfl⟩
 ·exact hn u w' I' L' ha hf
 ·exact hn undef w' I' L' ha hf
theorem aah{o:Oper}{env:Env}{H:ay}{W:Env->ay->Prop}(h:acS P o W env H\/ag9 P o W env H\/abQ P o W env H){C:Ctx}{tm:Array Value}{ds:List Deferred}{w:World}(hs:gV C env H I L tm w)(hd:wu C.n o.dst){next:Act->World->Prop}{Q:Exit->Act->World->Prop}
  (hW:∀env' H' I' L' tm' w',W env' H'->gV C env' H' I' L' tm' w'->next ⟨tm',ds⟩ w'):o.wp P ⟨tm,ds⟩ w next Q:=by
 have hσ:=λx=>tZ hs ds x
 unfold Oper.wp;have hput:∀ {w':World} {I' L':_} {H':ay} {u:Value} {v:AV},W (cH env o.dst v) H'->eo I' L' u v->Fr C I L H w I' L' H' w'->next (Act.put ⟨tm,ds⟩ o.dst u) w':=by
  intro w' I' L' H' u v hw ha hf;have:=(hf env tm hs).cH hd ha ds;have e:(Act.put ⟨tm,ds⟩ o.dst u:Act)=⟨(Act.put ⟨tm,ds⟩ o.dst u).tmps,ds⟩:=by cases o.dst<;>rfl
  rw[e];exact hW _ _ I' L' _ w' hw this
 rcases h with h|⟨v,H',hw,hy⟩|h
 ·rcases h with ⟨ids,hc⟩|he|⟨ids,hc⟩
  case inr.inl=>obtain⟨u,x,hr,hv,hw⟩:=ana he (w:=w) hσ;exact (oJ.still (C:=C) (H:=H) hr (eo.p _ _ hv)).upon λu w' I' L' ha hf=>hput hw ha hf
  case inr.inr =>
   obtain⟨I1,hsub,hw1,hfr⟩:=Fr.dc C L w ids H I hs.mem;have hs1:=hfr env tm hs;obtain⟨k,args,hr,aeQ⟩:=hc.elim (λhc=>aiE hc hs1 (λx=>tZ hs1 ds x)) (λhc=>aiH hc hs1 (λx=>tZ hs1 ds x));rw[hr,Oper.upon_enter];refine aeQ.mono λe w' ⟨v,I',L',a,H',he,hw,hv,hs'⟩=>?_
   subst he;have:=hs'.cH hd hv ds;have e:(Act.put ⟨tm,ds⟩ o.dst v:Act)=⟨(Act.put ⟨tm,ds⟩ o.dst v).tmps,ds⟩:=by cases o.dst<;>rfl
   show next (Act.put ⟨tm,ds⟩ o.dst v) w'
   rw[e];exact hW _ _ I' L' _ w' hw this
  obtain⟨I1,hsub,hw1,hfr⟩:=Fr.dc C L w ids H I hs.mem;have hs1:=hfr env tm hs;obtain⟨k,args,hr,aeQ⟩:=aj3 hc hs1 (λx=>tZ hs1 ds x);rw[hr,Oper.upon_enter];refine aeQ.mono λe w' ⟨v,I',x,he,hw,hv,hf⟩=>?_
  subst he;exact hput hw (.p _ _ hv) (hfr.trans hf)
 ·exact (hy C I L tm w _ hs hσ).upon λu w' I' L' ha hf=>hput hw ha hf
 ·obtain⟨k,args,hr,aeQ⟩:=h C I L tm w _ hs hσ;rw[hr,Oper.upon_enter];refine aeQ.mono λe w' ⟨v,I',L',a,H',he,hw,hv,hs'⟩=>?_
  subst he;have:=hs'.cH hd hv ds;have e:(Act.put ⟨tm,ds⟩ o.dst v:Act)=⟨(Act.put ⟨tm,ds⟩ o.dst v).tmps,ds⟩:=by cases o.dst<;>rfl
  show next (Act.put ⟨tm,ds⟩ o.dst v) w'
  rw[e];exact hW _ _ I' L' _ w' hw this
theorem aiI{own:List Nat}{o:Oper}{env:Env}{H:ay}{W:Env->ay->Prop}(h:match fW P own o (ev env) H with
   |some (pre,v,H')=>pre/\W (cH env o.dst v) H'
   |none=>jh P o W env H) {C:Ctx} {tm:Array Value} {ds:List Deferred} {w:World} (hs:gV C env H I L tm w) (hd:wu C.n o.dst) {next:Act->World->Prop} {Q:Exit->Act->World->Prop}
  (hW:∀env' H' I' L' tm' w',W env' H'->gV C env' H' I' L' tm' w'->next ⟨tm',ds⟩ w'):o.wp P ⟨tm,ds⟩ w next Q:=by
 split at h
 ·rename_i pre v H' hx;obtain⟨hp,hw⟩:=h;have hσ:=λx=>tZ hs ds x
  unfold Oper.wp;refine (aj8 hx hp hs hσ).upon λu w' I' L' ha hf=>?_
  have:=(hf env tm hs).cH hd ha ds;have e:(Act.put ⟨tm,ds⟩ o.dst u:Act)=⟨(Act.put ⟨tm,ds⟩ o.dst u).tmps,ds⟩:=by cases o.dst<;>rfl
  rw[e];exact hW _ _ I' L' _ w' hw this
 ·rcases h with h|⟨sK,H2,q1,h⟩|h|h
  ·exact aah (.inl h) hs hd hW
  ·obtain⟨I2,L2,h2⟩:=q1 C I L tm w hs;rcases h with ⟨pre,v,H',q4,q5,q6⟩|h
   ·unfold Oper.wp;refine (aag q4 q5 h2 (λy=>tZ h2 ds y)).upon λu w' I' L' ha hf=>?_
    have:=(hf _ tm h2).cH hd ha ds;have e:(Act.put ⟨tm,ds⟩ o.dst u:Act)=⟨(Act.put ⟨tm,ds⟩ o.dst u).tmps,ds⟩:=by cases o.dst<;>rfl
    rw[e];exact hW _ _ I' L' _ w' q6 this
   ·exact aah h h2 hd hW
  ·exact aah (.inr (.inl h)) hs hd hW
  ·exact aah (.inr (.inr h)) hs hd hW
theorem aa9{N:Nat}{own:List Nat}{ops:Array Oper}{K:Env->ay->Prop}{Q:Exit->Act->World->Prop}{C:Ctx}{ds:List Deferred}(hN:C.n=N)
  (hK:∀env H I L tm w,K env H->gV C env H I L tm w->Q .normal ⟨tm,ds⟩ w):∀ (l:List Oper) (env:Env) (H:ay) (I:Mem) (L:bA) (tm:Array Value) (w:World),
  walk P N own ops l K env H->gV C env H I L tm w->wpList P ops Q l ⟨tm,ds⟩ w
 | [],env,H,I,L,tm,w,h,hs=>hK env H I L tm w h hs
 |o :: rest,env,H,I,L,tm,w,h,hs=>by
  obtain⟨hd,h⟩:=h;rw[<-hN] at hd;unfold wpList;split at h
  ·rename_i hg;rw[if_pos (qh hg hs)];exact .inl (aiI h hs hd λenv' H' I' L' tm' w' hw hs'=>aa9 hN hK rest env' H' I' L' tm' w' hw hs')
  ·rename_i hg;rw[if_neg (by rw[qh hg hs];simp)];have e:(Act.put ⟨tm,ds⟩ o.dst undef:Act)=⟨(Act.put ⟨tm,ds⟩ o.dst undef).tmps,ds⟩:=by cases o.dst<;>rfl
   rw[e];exact aa9 hN hK rest _ H I L _ w h (hs.cH hd (.dQ [] [] rfl (by simp)) ds)
  ·exact h.elim
end Go.cr
namespace Go.cr
open Go.RowKit
variable{P:Program}{I:Mem}{L:bA}
abbrev qi:=Exit->Env->ay->Prop
theorem cU.refl(env:Env)(H:ay):cU env H env H:=λ_ I L _ _ h=>⟨I,L,h⟩
theorem cU.trans{e1 e2 e3:Env}{H1 H2 H3:ay}(h:cU e1 H1 e2 H2)(k:cU e2 H2 e3 H3):cU e1 H1 e3 H3:=λC I L tm w hs=>by obtain⟨I1,L1,h1⟩:=h C I L tm w hs;exact k C I1 L1 tm w h1
def vh(P:Program)(N:Nat)(own:List Nat)(ops:Array Oper)(K:Env->ay->Prop)(env:Env)(H:ay):Prop:=∀C I L tm w,C.n=N->gV C env H I L tm w->wpAny P .any ops (λe a w'=>a.defers=[]/\e = .normal/\∃env' H' I' L',K env' H'/\gV C env' H' I' L' a.tmps w') ops.size (Array.replicate ops.size false) ⟨tm,[]⟩ { w with drawn:=w.drawn+1 }
def aj9(W:qi->Env->ay->Prop)(K:qi)(env:Env)(H:ay):Prop :=
 ∃Inv:Nat->Env->ay->Prop,(∃n e2 H2,Inv n e2 H2/\cU env H e2 H2) /\
  ∀n e H,Inv n e H->W (λx e' H'=>match x with
   | .normal=>∃m e2 H2,m<n/\Inv m e2 H2/\cU e' H' e2 H2
   |x=>K x e' H') e H
def wv(X Y:Prop)(c:AV):Prop:=match c with
 | .p (.val (.bool b))=>(b=true->X)/\(b=false->Y)
 |_=>False
def cw(P:Program)(N:Nat)(own:List Nat):Code->qi->Env->ay->Prop
 | .skip,K,env,H=>K .normal env H
 | .label _,K,env,H=>K .normal env H
 | .region _ ops false,K,env,H=>walk P N own ops ops.toList (K .normal) env H
 | .region _ ops true,K,env,H=>vh P N own ops (K .normal) env H
 | .seq a b, K, env, H => cw P N own a (fun x e' H' => match x with
   | .normal=>cw P N own b K e' H'
   |x=>K x e' H') env H
 | .cond c a b,K,env,H=>wv (cw P N own a K env H) (cw P N own b K env H) (ev env c)
 | .block id c, K, env, H => cw P N own c (fun x e' H' => match x with
   | .exit id'=>if id'=id then K .normal e' H' else K (.exit id') e' H'
   |x=>K x e' H') env H
 | .loop c,K,env,H=>aj9 (cw P N own c) K env H
 | .exit id,K,env,H=>K (.exit id) env H
 | .ret,K,env,H=>K .ret env H
 |_,_,_,_=>False
def lift(C:Ctx)(K:qi):Exit->Act->World->Prop:=λe a w=>a.defers=[]/\∃env H I L,K e env H/\gV C env H I L a.tmps w
theorem o5{N:Nat}{own:List Nat}(hm:P.follows .mixedOrders=true):∀ (c:Code) (K:qi) (C:Ctx),C.n=N->∀env H I L tm w,cw P N own c K env H->gV C env H I L tm w->c.wp P (lift C K) ⟨tm,[]⟩ w
 | .skip,K,C,hN,env,H,I,L,tm,w,h,hs=>wp_skip ⟨rfl,env,H,I,L,h,hs⟩
 | .label _,K,C,hN,env,H,I,L,tm,w,h,hs=>wp_label ⟨rfl,env,H,I,L,h,hs⟩
 | .region _ ops false,K,C,hN,env,H,I,L,tm,w,h,hs=>by refine wp_region ?_;have:=wpOps_eq_wpList (P:=P) (ops:=ops) (Q:=lift C K) ops.toList 0 (by simp);rw[List.range_eq_range',<-Array.length_toList,this];exact aa9 hN (λenv H I L tm w hk hs=>⟨rfl,env,H,I,L,hk,hs⟩) ops.toList env H I L tm w h hs
 | .region _ ops true,K,C,hN,env,H,I,L,tm,w,h,hs=>by refine wp_mono (Q:=λe a w'=>a.defers=[]/\e = .normal/\∃env' H' I' L',K .normal env' H'/\gV C env' H' I' L' a.tmps w') (wp_region_any hm (h C I L tm w hN hs)) ?_;rintro e a w ⟨h1,rfl,env',H',I',L',h2,h3⟩;exact⟨h1,env',H',I',L',h2,h3⟩
 | .seq a b,K,C,hN,env,H,I,L,tm,w,h,hs=>by
  refine wp_seq (wp_mono (o5 hm a _ C hN env H I L tm w h hs) ?_);rintro e ac w ⟨h1,env',H',I',L',h2,h3⟩;cases ac with
  |mk tmps ds =>
   simp only at h1 h3;subst h1;cases e with
   |normal=>exact o5 hm b K C hN env' H' I' L' tmps w h2 h3
   |_=>exact⟨rfl,env',H',I',L',h2,h3⟩
 | .cond c a b,K,C,hN,env,H,I,L,tm,w,h,hs=>by
  have h:wv (cw P N own a K env H) (cw P N own b K env H) (ev env c):=h;have hc:=tZ hs [] c;unfold wv at h;split at h
  ·rename_i t ht;rw[ht] at hc;exact wp_cond_split hc.eC.1 (λht=>o5 hm a K C hN env H I L tm w (h.1 ht) hs) (λht=>o5 hm b K C hN env H I L tm w (h.2 ht) hs)
  ·exact h.elim
 | .block id c,K,C,hN,env,H,I,L,tm,w,h,hs=>by
  refine wp_block (wp_mono (o5 hm c _ C hN env H I L tm w h hs) ?_);rintro e ac w ⟨h1,env',H',I',L',h2,h3⟩;cases e with
  |exit id' =>
   simp only[Exit.inBlock];dsimp only at h2;split
   ·rename_i he;rw[if_pos he] at h2;exact⟨h1,env',H',I',L',h2,h3⟩
   ·rename_i he;rw[if_neg he] at h2;exact⟨h1,env',H',I',L',h2,h3⟩
  |_=>exact⟨h1,env',H',I',L',h2,h3⟩
 | .loop c,K,C,hN,env,H,I,L,tm,w,h,hs=>by
  obtain⟨Inv,⟨n0,e0,H0,hi0,hw0⟩,aCk⟩:=h;intro b k cs
  have key : ∀ n, ∀ e H I L tm w, Inv n e H → gV C e H I L tm w →
    ∃x a' w',lift C K x a' w'/\Arrives P (lone (b.at ⟨tm,[]⟩ (.code c :: .inLoop c :: k)) cs w) b k cs x a' w':=by
   intro n
   induction n using Nat.strongRecOn with
   |_ n ih =>
    intro e H I L tm w hi hs;obtain⟨x,a',w',hq,abN⟩:=o5 hm c _ C hN e H I L tm w (aCk n e H hi) hs b (.inLoop c :: k) cs;obtain⟨hd,e',H',I',L',hq,hs'⟩:=hq;cases a' with
    |mk tmps ds =>
     simp only at hd hs';subst hd;cases x with
     |normal=>obtain⟨m,e2,H2,hlt,hi2,hwk⟩:=hq;obtain⟨I2,L2,hs2⟩:=hwk C I' L' tmps w' hs';obtain⟨x,a2,w2,hq2,aDk⟩:=ih m hlt e2 H2 I2 L2 tmps w' hi2 hs2;exact⟨x,a2,w2,hq2,.of_steps (Steps.trans abN (.one step_inLoop)) aDk⟩
     |exit id=>exact⟨_,_,w',⟨rfl,e',H',I',L',hq,hs'⟩,.pass (x:=.inLoop c) rfl (λ_ _=>.inl (by simp)) abN⟩
     |goto l=>exact⟨_,_,w',⟨rfl,e',H',I',L',hq,hs'⟩,.pass (x:=.inLoop c) rfl (λ_ _=>.inl (by simp)) abN⟩
     |ret=>exact⟨_,_,w',⟨rfl,e',H',I',L',hq,hs'⟩,.pass (x:=.inLoop c) rfl (λ_ _=>.inl (by simp)) abN⟩
     |panic ch=>exact⟨_,_,w',⟨rfl,e',H',I',L',hq,hs'⟩,.pass (x:=.inLoop c) rfl (λ_ _=>.inl (by simp)) abN⟩
     |outgrown=>exact⟨_,_,w',⟨rfl,e',H',I',L',hq,hs'⟩,.pass (x:=.inLoop c) rfl (λ_ _=>.inl (by simp)) abN⟩
  obtain⟨I0,L0,hs0⟩:=hw0 C I L tm w hs;obtain⟨x,a',w',hq,abN⟩:=key n0 e0 H0 I0 L0 tm w hi0 hs0;exact⟨x,a',w',hq,.of_steps (.one step_loop) abN⟩
 | .exit id,K,C,hN,env,H,I,L,tm,w,h,hs=>wp_exit ⟨rfl,env,H,I,L,h,hs⟩
 | .ret,K,C,hN,env,H,I,L,tm,w,h,hs=>wp_ret ⟨rfl,env,H,I,L,h,hs⟩
 | .goto _,K,C,hN,env,H,I,L,tm,w,h,hs=>h.elim
 | .rangeFunc _ _ _ _,K,C,hN,env,H,I,L,tm,w,h,hs=>h.elim
 | .scope _,K,C,hN,env,H,I,L,tm,w,h,hs=>h.elim
 | .refuse _,K,C,hN,env,H,I,L,tm,w,h,hs=>h.elim
def iO(args:List PV):Env:=λt=>match args[t]? with
 |some x=>.p x
 |none=>.dead
def aay(P:Program)(env:Env)(H:ay):ResultVar->Option AV
 | .tmp t=>some (env t)
 | .cell a t=>match env a with
  | .ptr id off=>match H id with
   |some (.box cs)=>rY P t cs off
   |_=>none
  |_=>none
def aka(P:Program)(env:Env)(H:ay):List ResultVar->Option (List AV)
 | []=>some []
 |r :: rs=>match aay P env H r,aka P env H rs with
  |some a,some eL=>some (a :: eL)
  |_,_=>none
def o6(P:Program)(env:Env)(H:ay)(rs:List ResultVar):Option AV:=match aka P env H rs with
 |some [a]=>some a
 |some eL=>some (.dQ eL)
 |none=>none
def avn(P:Program)(env:Env)(H:ay)(rs:List ResultVar):Option PV:=match o6 P env H rs with
 |some a=>match adF H a with
  |some (x,_)=>some x
  |none=>none
 |none=>none
def aCl(P:Program)(rs:List ResultVar)(Q:PV->Prop):qi:=λe env H=>match e with
 | .normal | .ret=>(match avn P env H rs with
  |some r=>Q r
  |none=>False)
 |_=>False
def aeR(tm:Array Value):ResultVar->Sem Value
 | .tmp t=>pure (tm.getD t undef)
 | .cell a t=>do loadVar t (<-asAddr (tm.getD a undef))
theorem aba{C:Ctx}{env:Env}{H:ay}{tm:Array Value}{w:World}(hs:gV C env H I L tm w):∀ (rs:List ResultVar) (eL:List AV),aka P env H rs=some eL ->
  ∃us:List Value,(rs.mapM (aeR tm)).run P w = .ok us w/\oQ I L us eL
 | [],eL,h=>by simp[aka] at h;subst h;exact⟨[],by simp,rfl,by simp⟩
 |r :: rs,eL,h=>by
  simp only[aka] at h;split at h
  ·rename_i a as' h1 h2;simp only[cA] at h;subst h;obtain⟨us,hr,hu⟩:=aba hs rs as' h2;have one:∃u,(aeR tm r).run P w = .ok u w/\eo I L u a:=by
    unfold aay at h1;split at h1
    ·rename_i t;simp only[cA] at h1;subst h1;exact⟨_,rfl,hs.env t⟩
    ·rename_i b t;split at h1
     ·rename_i id off hb;split at h1
      ·rename_i cs hH;have hbv:=hs.env b;rw[hb] at hbv;obtain⟨blk,arr,e,g1,g2,g3,g4,g5,g6⟩:=hs.chunk id _ hH;have hres:∀ub,tm.getD b undef=ub->(aeR tm (.cell b t)).run P w=(do loadVar t (<-asAddr ub):Sem Value).run P w:=λub h=>by show (do loadVar t (<-asAddr (tm.getD b undef)):Sem Value).run P w=_;rw[h]
       rw[hres _ rfl];generalize tm.getD b undef=ub at hbv ⊢;cases hbv with
       |ptr _ b' _ hl =>
        rw[g1] at hl;simp only[cA,Loc.box.injEq] at hl;subst hl;obtain⟨u,hru,hua⟩:=aad (I:=I) (L:=L) (w:=w) (b:=blk) (base:=0) (us:=arr.toList) h1 (by simpa using g3) (λj u c hu hc=>g4 j u c (by simpa using hu) hc)
         (λu hu=>by
          obtain⟨j,hj⟩:=List.mem_iff_getElem?.1 hu;exact g5 j u (by simpa using hj)) (λj u hu=>by rw[Nat.zero_add,fV g2];simpa using hu)
        rw[Nat.zero_add] at hru;exact⟨u,by simp[asAddr,hru],hua⟩
      ·cases h1
     ·cases h1
   obtain⟨u,hru,hua⟩:=one;refine⟨u :: us,?_,by simp[hu.1],λj v b hv hb=>?_⟩
   ·simp only[List.mapM_cons,Sem.run_bind,hru,Result.andThen_ok,hr,Sem.run_pure]
   ·cases j with
    |zero=>simp at hv hb;subst hv hb;exact hua
    |succ j=>exact hu.2 j v b (by simpa using hv) (by simpa using hb)
  ·cases h
theorem vi{C:Ctx}{env:Env}{H:ay}{tm:Array Value}{w:World}(hs:gV C env H I L tm w){fn:Func}{a:AV}(h:o6 P env H fn.results.toList=some a) :
  ∃u,(results fn tm).run P w = .ok u w/\eo I L u a:=by
 have hres:∀us:List Value,(fn.results.toList.mapM (aeR tm)).run P w = .ok us w->(results fn tm).run P w = .ok (if h:us.toArray.size=1 then us.toArray[0] else .tuple us.toArray) w:=by
  intro us hr;have e:results fn tm=(do let vs <-fn.results.mapM (aeR tm);pure (if h:vs.size=1 then vs[0] else .tuple vs)):=by unfold results;congr 2
  rw[e,Sem.run_bind,Array.mapM_eq_mapM_toList,Sem.run_map,hr];rfl
 unfold o6 at h;split at h
 ·rename_i a' hl;simp only[cA] at h;subst h;obtain⟨us,hr,hu⟩:=aba hs _ _ hl;refine⟨_,hres us hr,?_⟩;have hlen:us.length=1:=by simpa using hu.1
  rw[dif_pos (by simpa using hlen)];cases us with
  |nil=>simp at hlen
  |cons u r=>exact hu.2 0 u _ rfl rfl
 ·rename_i eL hne hl;simp only[cA] at h;subst h;obtain⟨us,hr,hu⟩:=aba hs _ _ hl;refine⟨_,hres us hr,?_⟩;have hlen:¬ us.length=1:=λe=>by
   have:eL.length=1:=by rw[<-hu.1];exact e
   cases eL with
   |nil=>simp at this
   |cons a r =>
    have:r=[]:=by simpa using this
    subst this;exact hne a rfl
  rw[dif_neg (by simpa using hlen)];exact .dQ us eL hu.1 hu.2
 ·cases h
def Mem.all(I:Mem)(B:Nat)(w:World):Mem:=λb o=>if b<B then I b o else w.cell? ⟨b,o,none⟩
theorem akb{f:FuncId}{fn:Func}{c:Code}{args:List PV}{Q:PV->Prop}(own:List Nat)(hm:P.follows .mixedOrders=true)(hf:P.funcs[f]? = some fn)(hb:fn.body=some c)
  (hc:hU P f=true) (hn:args.length<=fn.ntmps) (h:cw P fn.ntmps own c (aCl P fn.results.toList Q) (iO args) cm):aS P f args Q:=by
 refine⟨hc,λI w vs hI hv=>calls_of_wp hf hb ?_⟩;let C:Ctx:=Ctx.of w I fn.ntmps;have hlen:vs.length<=fn.ntmps:=by rw[hv.1];exact hn
 have hs:gV C (iO args) cm I (λ_=>none) (vs.toArray++Array.replicate (fn.ntmps-vs.toArray.size) undef) w :=
  {below:=Below.refl _ _
   mem:=hI
   kP:=Mem.dV I
   lQ:=λ_ _ _ _=>rfl
   frame:=λ_ _ _=>rfl
   loc:=λ_=>trivial
   jB:=λid l b h=>by cases h
   size:=by simp;show vs.length+(fn.ntmps-vs.length)=fn.ntmps;omega
   env:=λt=>by
    unfold iO;split
    ·rename_i x hx;have ht:t<vs.length:=by rw[hv.1];exact (List.getElem?_eq_some_iff.1 hx).1
     refine .p _ _ (hv.2 t _ x ?_ hx);rw[List.getElem?_eq_getElem ht];simp[Array.getElem?_append,ht]
    ·exact .dead _
   dom:=λid l h=>by cases h
   chunk:=λid ch h=>by cases h
   fK:=λid l b h=>by cases h
   apart:=λi j li lj b h=>by cases h }
 refine wp_mono (o5 hm c _ C rfl _ _ I _ _ w h hs) ?_;rintro e a w' ⟨hd,env',H',I',L',hk,hs'⟩;have fin:(match avn P env' H' fn.results.toList with|some r=>Q r|none=>False)->bodyPost P fn (λe w'=>∃v r I',e = .returned v/\Q r/\VR I' v r/\Below w.heap.size w w'/\I.sub I'/\I'.inW w'/\∀b,b<w.heap.size->∀o,I' b o=I b o) .normal a w':=by
  intro hk;unfold avn at hk;split at hk
  ·rename_i r hr;split at hr
   ·rename_i av hav;split at hr
    ·rename_i x b hl;simp only[cA] at hr;subst hr;obtain⟨u,hru,hua⟩:=vi hs' hav;have hsub:I'.sub (I'.all C.B w'):=λb o u hu=>by
      unfold Mem.all;split
      ·exact hu
      ·exact hs'.mem b o u hu
     have acQ:azM L' w' (I'.all C.B w'):=λid l b hl hlb o u hu=>by unfold Mem.all;rw[if_neg (by have:=(hs'.fK id l b hl hlb).1;omega)];exact hu
     refine⟨hd,u,hru,u,x,I'.all C.B w',rfl,hk,(avb hs' (tO H') hsub (acQ.g H') u av x b hua hl).1,hs'.below,Mem.lP hs'.kP hsub,?_,?_⟩
     ·intro b o u hu;unfold Mem.all at hu;split at hu
      ·exact hs'.mem b o u hu
      ·exact hu
     ·intro b hb o;unfold Mem.all;rw[if_pos (show b<C.B from hb)];exact hs'.lQ b hb (λh=>h) o
    ·cases hr
   ·cases hr
  ·exact hk.elim
 cases e with
 |normal=>exact fin hk
 |ret=>exact fin hk
 |exit id=>exact hk.elim
 |goto l=>exact hk.elim
 |panic c=>exact hk.elim
 |outgrown=>exact hk.elim
mutual
def pN(H:ay):AV->Option (RV×List Nat)
 | .p x=>some (.p x,[])
 | .row id bf=>match H id with
  |some (.row v e sz es)=>if v=bf then some (.row e sz es,[id]) else none
  |some (.shut v es)=>if v=bf then some (.p (.aV es),[]) else none
  |_=>none
 | .eG id bf=>match H id with
  |some (.deep v e sz k e' sz' es)=>if v=bf then some (.deep e sz k e' sz' es,[id]) else none
  |_=>none
 | .agg cs=>match wz H cs with
  |some (rs,ids)=>some (.agg rs,ids)
  |none=>none
 | .dQ cs=>match wz H cs with
  |some (rs,ids)=>some (.dQ rs,ids)
  |none=>none
 |_=>none
def wz(H:ay):List AV->Option (List RV×List Nat)
 | []=>some ([],[])
 |a :: r=>match pN H a,wz H r with
  |some (x,i),some (xs,j)=>some (x :: xs,i++j)
  |_,_=>none
end
inductive RLe:RV->RV->Prop
 |refl (r:RV):RLe r r
 |nil (e:TypeId) (sz:Nat) (h:0<sz):RLe (.p (.val (.slice none 0 0))) (.row e sz [])
 |aDl:RLe (.p (.val (.slice none 0 0))) (.p (.aV []))
 |agg (rs rs':List RV) (hl:rs'.length=rs.length) (h:∀ (j:Nat) r' r,rs'[j]? = some r'->rs[j]? = some r->RLe r' r):RLe (.agg rs') (.agg rs)
 |dQ (rs rs':List RV) (hl:rs'.length=rs.length) (h:∀ (j:Nat) r' r,rs'[j]? = some r'->rs[j]? = some r->RLe r' r):RLe (.dQ rs') (.dQ rs)
def aCm(P:Program)(rs:List ResultVar)(Q:RV->Prop):qi:=λe env H=>match e with
 | .normal | .ret=>(match o6 P env H rs with
  |some a=>(match pN H a with
   |some (r,ids)=>ids.Nodup/\∃r',RLe r r'/\Q r'
   |none=>False)
  |none=>False)
 |_=>False
theorem RLe.sound{r r':RV}(h:RLe r r'):∀ {w:World} {B:Nat} {J:Mem} {u:Value} {bs:List Nat},w9 w B J u r bs->w9 w B J u r' bs:=by
 induction h with
 |refl r=>exact λh=>h
 |nil e sz hsz =>
  intro w B J u bs h;cases h with
  |p _ _ h=>cases h;exact .row (.slice none 0 0) e sz [] [] ⟨⟨by simp,.inl ⟨rfl,rfl⟩⟩,hsz,by simp,by simp,by simp,λb hb=>by simp[Value.ownBlock] at hb⟩ rfl
 |aDl =>
  intro w B J u bs h;cases h with
  |p _ _ h=>cases h;exact .p _ _ (.aV none 0 0 [] [] 1 rfl (by simp) rfl (by simp) (by simp) (.inl rfl) (λ_=>⟨rfl,rfl⟩) (Nat.le_refl _))
 |agg rs rs' hl h ih =>
  intro w B J u bs hr;cases hr with
  |agg us _ bs q1 q2 q3 q4 =>
   refine .agg us rs bs (q1.trans hl) q2 (λj u r b hu hr hb=>?_) q4;obtain⟨r',hr'⟩:∃r',rs'[j]? = some r':=by have hj:j<us.length:=(List.getElem?_eq_some_iff.1 hu).1;exact⟨rs'[j]'(by omega),by simp[q1 ▸ hj]⟩
   exact ih j r' r hr' hr (q3 j u r' b hu hr' hb)
 |dQ rs rs' hl h ih =>
  intro w B J u bs hr;cases hr with
  |dQ us _ bs q1 q2 q3 =>
   refine .dQ us rs bs (q1.trans hl) q2 (λj u r b hu hr hb=>?_);obtain⟨r',hr'⟩:∃r',rs'[j]? = some r':=by have hj:j<us.length:=(List.getElem?_eq_some_iff.1 hu).1;exact⟨rs'[j]'(by omega),by simp[q1 ▸ hj]⟩
   exact ih j r' r hr' hr (q3 j u r' b hu hr' hb)
def mS(L:bA):List Nat->List Nat
 | []=>[]
 |id :: r=>(match L id with
  |some l=>l.ajR
  |none=>[])++mS L r
theorem anf(L:bA)(a b:List Nat):mS L (a++b)=mS L a++mS L b:=by
 induction a with
 |nil=>rfl
 |cons x r ih=>simp[mS,ih,List.append_assoc]
theorem abb{L:bA} : ∀ {ids:List Nat} {b:Nat},b∈mS L ids->∃id l,id∈ids/\L id=some l/\l.has b
 | [],b,h=>by simp[mS] at h
 |id :: r,b,h=>by
  simp only[mS,List.mem_append] at h;rcases h with h|h
  ·cases hL:L id with
   |none=>rw[hL] at h;cases h
   |some l=>rw[hL] at h;exact⟨id,l,by simp,hL,Loc.ajS.1 h⟩
  ·obtain⟨i,l,h1,h2⟩:=abb h;exact⟨i,l,by simp[h1],h2⟩
theorem gV.ang{C:Ctx}{H:ay}{env:Env}{tm:Array Value}{w:World}(hs:gV C env H I L tm w){id:Nat}{l:Loc}(hl:L id=some l):l.ajR.Nodup:=by
 cases l with
 |box b=>simp[Loc.ajR]
 |row v bH sz=>show bH.ownBlock.toList.Nodup;generalize bH.ownBlock=x;cases x<;>simp
 |deep v bH sz sz' di n =>
  obtain⟨ch,hch⟩:=hs.dom id _ hl;have hc:=hs.chunk id ch hch;cases ch with
  |box cs=>obtain⟨b,arr,e,h1,_⟩:=hc;rw[h1] at hl;cases hl
  |row v' e sz es=>obtain⟨eV,us,h1,_⟩:=hc;rw[h1] at hl;cases hl
  |shut v' es=>obtain⟨eV,sz,h1,_⟩:=hc;rw[h1] at hl;cases hl
  |tail v' e sz es=>obtain⟨g,o,cap,arr,h1,_⟩:=hc;rw[h1] at hl;cases hl
  |deep v' e sz1 k e' sz2 es=>obtain⟨eV,us,kY,h1,h2,h3,h4,h5,h6,h7⟩:=hc;rw[h1] at hl;simp only[cA,Loc.deep.injEq] at hl;obtain⟨_,rfl,_,_,rfl,rfl⟩:=hl;exact aip h7
theorem abR{C:Ctx}{H:ay}{env:Env}{tm:Array Value}{w:World}(hs:gV C env H I L tm w):∀ {ids:List Nat},ids.Nodup->(mS L ids).Nodup
 | [],_=>by simp[mS]
 |id :: r,h=>by
  rw[List.nodup_cons] at h;simp only[mS,List.nodup_append];refine⟨?_,abR hs h.2,?_⟩
  ·cases hL:L id with
   |none=>simp
   |some l=>exact hs.ang hL
  ·intro a ha b hb hab;subst hab;obtain⟨i,l,h1,h2,h3⟩:=abb hb;cases hL:L id with
   |none=>rw[hL] at ha;cases ha
   |some l'=>rw[hL] at ha;have:=hs.apart id i l' l a hL h2 (Loc.ajS.1 ha) h3;subst this;exact h.1 h1
def aDm(C:Ctx)(I:Mem)(L:bA)(w:World)(H:ay)(a:AV):Prop:=∀u r ids,eo I L u a->pN H a=some (r,ids)->w9 w C.B I u r (mS L ids)
def aDn(C:Ctx)(I:Mem)(L:bA)(w:World)(H:ay)(eL:List AV):Prop :=
 ∀us rs ids,oQ I L us eL->wz H eL=some (rs,ids)->us.length=rs.length/\∃bs:List (List Nat),us.length=bs.length/\bs.flatten=mS L ids /\
  ∀ (j:Nat) u r b,us[j]? = some u->rs[j]? = some r->bs[j]? = some b->w9 w C.B I u r b
theorem azP{C:Ctx}{H:ay}{env:Env}{tm:Array Value}{w:World}(hs:gV C env H I L tm w)(a:AV):aDm C I L w H a:=by
 refine AV.rec (motive_1:=aDm C I L w H) (motive_2:=aDn C I L w H) ?_ ?_ ?_ ?_ ?_ ?_ ?_ ?_ ?_ ?_ ?_ ?_ ?_ ?_ ?_ ?_ a
 ·intro x u r ids hu hr;simp only[pN,cA,iz] at hr;obtain⟨rfl,rfl⟩:=hr;exact .p _ _ hu.nJ
 ·intro id bf u r ids hu hr;simp only[pN] at hr;split at hr
  ·rename_i v e sz es hH;split at hr
   ·rename_i hv;subst hv;simp only[cA,iz] at hr;obtain⟨rfl,rfl⟩:=hr;obtain⟨bH,us,h1,h2,h3,h4,h5,h6,h7⟩:=hs.chunk id _ hH;cases hu with
    |row _ _ _ v1 jJ sz1 hl hle hh hone =>
     rw[h1] at hl;simp only[cA,Loc.row.injEq] at hl;obtain⟨r1,r2,r3⟩:=hl;subst r1 r2 r3;have hxe:=hh rfl;subst hxe;have hb:mS L [id]=u.ownBlock.toList:=by simp[mS,h1,Loc.ajR]
     rw[hb];exact .row u e sz es us ⟨h2,h3,h4,h5,h6,h7⟩ hone
   ·cases hr
  ·rename_i v es hH;split at hr
   ·rename_i hv;subst hv;simp only[cA,iz] at hr;obtain⟨rfl,rfl⟩:=hr;obtain⟨bH,sz,h1,h2,_⟩:=hs.chunk id _ hH;cases hu with
    |row _ _ _ v1 jJ sz1 hl hle hh hone=>rw[h1] at hl;simp only[cA,Loc.row.injEq] at hl;obtain⟨r1,r2,r3⟩:=hl;subst r1 r2 r3;rw[hh rfl];exact .p _ _ h2
   ·cases hr
  ·cases hr
 ·intro id off u r ids hu hr;simp[pN] at hr
 ·intro id bf i off u r ids hu hr;simp[pN] at hr
 ·intro cs ih u r ids hu hr;simp only[pN] at hr;split at hr
  ·rename_i rs ids' hrs;simp only[cA,iz] at hr;obtain⟨rfl,rfl⟩:=hr;cases hu with
   |agg us _ hl hv hone=>obtain⟨k1,bs,k2,k3,k4⟩:=ih us rs ids' ⟨hl,hv⟩ hrs;rw[<-k3];exact .agg us rs bs k1 k2 k4 hone
  ·cases hr
 ·intro cs ih u r ids hu hr;simp only[pN] at hr;split at hr
  ·rename_i rs ids' hrs;simp only[cA,iz] at hr;obtain⟨rfl,rfl⟩:=hr;cases hu with
   |dQ us _ hl hv=>obtain⟨k1,bs,k2,k3,k4⟩:=ih us rs ids' ⟨hl,hv⟩ hrs;rw[<-k3];exact .dQ us rs bs k1 k2 k4
  ·cases hr
 ·intro fn fs cs _ _ u r ids hu hr;simp[pN] at hr
 ·intro id bf u r ids hu hr;simp only[pN] at hr;split at hr
  ·rename_i v e sz k e' sz' es hH;split at hr
   ·rename_i hv;subst hv;simp only[cA,iz] at hr;obtain⟨rfl,rfl⟩:=hr;obtain⟨bH,us,di,h1,h2,h3,h4,h5,h6,h7⟩:=hs.chunk id _ hH;have hb:mS L [id]=yC bH di es.length:=by simp[mS,h1,Loc.ajR]
    rw[hb];cases hu with
    |eG _ _ _ v1 jJ _ _ qK n1 hl hle hh hone=>rw[h1] at hl;simp only[cA,Loc.deep.injEq] at hl;obtain⟨e1,e2,e3,e4,e5,e6⟩:=hl;subst e1 e2 e3 e4 e5 e6;rw[hh rfl];exact .deep bH e sz k e' sz' es us di h2 h3 h4 h5 h6 h7
   ·cases hr
  ·cases hr
 ·intro id bf i off u r ids hu hr;simp[pN] at hr
 ·intro id bf i u r ids hu hr;simp[pN] at hr
 ·intro id bf i j off u r ids hu hr;simp[pN] at hr
 ·intro id n u r ids hu hr;simp[pN] at hr
 ·intro id bf off n m sz u r ids hu hr;simp[pN] at hr
 ·intro u r ids hu hr;simp[pN] at hr
 ·intro us rs ids hu hr;simp only[wz,cA,iz] at hr;obtain⟨rfl,rfl⟩:=hr;exact⟨hu.1,[],hu.1,rfl,by simp⟩
 ·intro a eL ih1 ih2 us rs ids hu hr;simp only[wz] at hr;split at hr
  ·rename_i x i xs j hx hxs;simp only[cA,iz] at hr;obtain⟨rfl,rfl⟩:=hr;cases us with
   |nil=>have:=hu.1;simp at this
   |cons u us =>
    obtain⟨k1,bs,k2,k3,k4⟩:=ih2 us xs j ⟨by simpa using hu.1,λj u c hu' hc=>hu.2 (j+1) u c hu' hc⟩ hxs;have k0:=ih1 u x i (hu.2 0 u a rfl rfl) hx;refine⟨by simp[k1],mS L i :: bs,by simp[k2],by rw[List.flatten_cons,k3,anf],λj v r b hv hr hb=>?_⟩;cases j with
    |zero=>simp at hv hr hb;subst hv hr hb;exact k0
    |succ j=>exact k4 j v r b (by simpa using hv) (by simpa using hr) (by simpa using hb)
  ·cases hr
theorem w9.low{w:World}{B B':Nat}{J:Mem}{u:Value}{r:RV}{bs:List Nat}(h:w9 w B J u r bs)(hB:B=B'):w9 w B' J u r bs:=hB ▸ h
theorem akc{f:FuncId}{fn:Func}{c:Code}{args:List PV}{Q:RV->Prop}(own:List Nat)(hm:P.follows .mixedOrders=true)(hf:P.funcs[f]? = some fn)(hb:fn.body=some c)
  (hc:hU P f=true) (hn:args.length<=fn.ntmps) (h:cw P fn.ntmps own c (aCm P fn.results.toList Q) (iO args) cm):br P f args Q:=by
 refine⟨hc,λI w vs hI hv=>calls_of_wp hf hb ?_⟩;let C:Ctx:=Ctx.of w I fn.ntmps;have hlen:vs.length<=fn.ntmps:=by rw[hv.1];exact hn
 have hs:gV C (iO args) cm I (λ_=>none) (vs.toArray++Array.replicate (fn.ntmps-vs.toArray.size) undef) w :=
  {below:=Below.refl _ _
   mem:=hI
   kP:=Mem.dV I
   lQ:=λ_ _ _ _=>rfl
   frame:=λ_ _ _=>rfl
   loc:=λ_=>trivial
   jB:=λid l b h=>by cases h
   size:=by simp;show vs.length+(fn.ntmps-vs.length)=fn.ntmps;omega
   env:=λt=>by
    unfold iO;split
    ·rename_i x hx;have ht:t<vs.length:=by rw[hv.1];exact (List.getElem?_eq_some_iff.1 hx).1
     refine .p _ _ (hv.2 t _ x ?_ hx);rw[List.getElem?_eq_getElem ht];simp[Array.getElem?_append,ht]
    ·exact .dead _
   dom:=λid l h=>by cases h
   chunk:=λid ch h=>by cases h
   fK:=λid l b h=>by cases h
   apart:=λi j li lj b h=>by cases h }
 refine wp_mono (o5 hm c _ C rfl _ _ I _ _ w h hs) ?_;rintro e a w' ⟨hd,env',H',I',L',hk,hs'⟩;have fin:(match o6 P env' H' fn.results.toList with
  |some a=>(match pN H' a with
   |some (r,ids)=>ids.Nodup/\∃r',RLe r r'/\Q r'
   |none=>False)
  |none=>False)->bodyPost P fn (λe w'=>∃v r bs I',e = .returned v/\Q r/\w9 w' w.heap.size I' v r bs/\bs.Nodup/\(∀b∈bs,w.heap.size<=b/\b<w'.heap.size) /\
   Below w.heap.size w w'/\I.sub I'/\I'.inW w'/\∀b,b<w.heap.size->∀o,I' b o=I b o) .normal a w':=by
  intro hk;split at hk
  ·rename_i av hav;split at hk
   ·rename_i r ids hr;obtain⟨hnd,r',hle,hq⟩:=hk;obtain⟨u,hru,hua⟩:=vi hs' hav;exact⟨hd,u,hru,u,r',mS L' ids,I',rfl,hq,hle.sound (azP hs' av u r ids hua hr),abR hs' hnd,λb hb=>by
     obtain⟨i,l,_,h2,h3⟩:=abb hb;exact hs'.fK i l b h2 h3,hs'.below,hs'.kP,hs'.mem,λb hb o=>hs'.lQ b hb (λh=>h) o⟩
   ·exact hk.elim
  ·exact hk.elim
 cases e with
 |normal=>exact fin hk
 |ret=>exact fin hk
 |exit id=>exact hk.elim
 |goto l=>exact hk.elim
 |panic c=>exact hk.elim
 |outgrown=>exact hk.elim
def adI(eL:List AV):Env:=λt=>match eL[t]? with
 |some a=>a
 |none=>.dead
def aCn(P:Program)(rs:List ResultVar)(Q:AV->Option Chunk->Prop):qi:=λe env H=>match e with
 | .normal | .ret=>(match o6 P env H rs with
  |some a=>Q a (H 1000000)
  |none=>False)
 |_=>False
theorem mK{f:FuncId}{fn:Func}{c:Code}{v:Nat}{e:TypeId}{sz:Nat}{es:List (List PV)}{ps:List PV}{Q:AV->Option Chunk->Prop}(own:List Nat)(hm:P.follows .mixedOrders=true)(hf:P.funcs[f]? = some fn)(hb:fn.body=some c)
  (hc:hU P f=true) (hn:ps.length+1<=fn.ntmps) (h:cw P fn.ntmps own c (aCn P fn.results.toList Q) (adI (.row 1000000 v :: ps.map AV.p)) (bk cm 1000000 (.row v e sz es))):kE P f v e sz es ps Q:=by
 refine⟨hc,λB I w bH us vs hB hI hr h1 hv=>calls_of_wp hf hb ?_⟩;let C:Ctx:=Ctx.avh w I fn.ntmps B v sz bH hB;let L:bA:=λi=>if i=1000000 then some (.row v bH sz) else none
 have hlen:(bH :: vs).length<=fn.ntmps:=by have:=hv.1;simp only[List.length_cons];omega
 have hL:∀i l,L i=some l->i=1000000/\l = .row v bH sz:=λi l h=>by
  simp only[L] at h;split at h
  ·rename_i hi;exact⟨hi,by simpa using h.symm⟩
  ·cases h
 have hs:gV C (adI (.row 1000000 v :: ps.map AV.p)) (bk cm 1000000 (.row v e sz es)) I L ((bH :: vs).toArray++Array.replicate (fn.ntmps-(bH :: vs).toArray.size) undef) w :=
  {below:=Below.refl _ _
   mem:=hI
   kP:=Mem.dV I
   lQ:=λ_ _ _ _=>rfl
   frame:=λ_ _ _=>rfl
   loc:=dL.refl _
   jB:=λid l b hl hb=>by obtain⟨_,rfl⟩:=hL id l hl;exact .inr hb
   size:=by simp only[Array.size_append,List.size_toArray,Array.size_replicate];show (bH :: vs).length+(fn.ntmps-(bH :: vs).length)=fn.ntmps;omega
   env:=λt=>by
    unfold adI;split
    ·rename_i a ha;have htl:t<(bH :: vs).length:=by have:=(List.getElem?_eq_some_iff.1 ha).1;simp only[List.length_cons,List.length_map] at this ⊢;rw[hv.1];exact this
     have vI:((bH :: vs).toArray++Array.replicate (fn.ntmps-(bH :: vs).toArray.size) undef).getD t undef=(bH :: vs)[t]:=by simp only[Array.getD_eq_getD_getElem?,Array.getElem?_append,List.size_toArray,if_pos htl,List.getElem?_toArray,List.getElem?_eq_getElem htl,Option.getD_some]
     rw[vI];cases t with
     |zero=>simp at ha;subst ha;exact .row bH 1000000 v v bH sz (by simp[L]) (Nat.le_refl _) (λ_=>rfl) h1
     |succ t =>
      simp only[List.getElem?_cons_succ,List.getElem?_map] at ha;cases hp:ps[t]? with
      |none=>rw[hp] at ha;cases ha
      |some p =>
       rw[hp] at ha;simp only[Option.map_some,cA] at ha;subst ha;have htv:t<vs.length:=by simpa using htl
       exact .p _ _ (hv.2 t _ p (by simp[htv]) hp)
    ·exact .dead _
   dom:=λid l hl=>by obtain⟨rfl,_⟩:=hL id l hl;exact⟨_,by simp[bk];rfl⟩
   chunk:=λid ch hch=>by
    unfold bk at hch;split at hch
    ·rename_i hi;subst hi;simp only[cA] at hch;subst hch;exact⟨bH,us,by simp[L],hr.own,hr.pos,hr.all,hr.val,hr.one,hr.free⟩
    ·cases hch
   fK:=λid l b hl hb=>by obtain⟨_,rfl⟩:=hL id l hl;exact vH hr.own hb
   apart:=λi j li lj b hi hj _ _=>by
    rw[(hL i li hi).1,(hL j lj hj).1] }
 refine wp_mono (o5 hm c _ C rfl _ _ I L _ w h hs) ?_;rintro x a w' ⟨hd,env',H',I',L',hk,hs'⟩;have fin:(match o6 P env' H' fn.results.toList with
  |some a=>Q a (H' 1000000)
  |none=>False)->bodyPost P fn (λx w'=>∃u a H' I' L',x = .returned u/\Q a (H' 1000000)/\eo I' L' u a/\gV (Ctx.avh w I 0 B v sz bH hB) fT H' I' L' #[] w') .normal a w':=by
  intro hk;split at hk
  ·rename_i av hav;obtain⟨u,hru,hua⟩:=vi hs' hav;refine⟨hd,u,hru,u,av,H',I',L',rfl,hk,hua,?_⟩;exact
   {below:=hs'.below
    mem:=hs'.mem
    kP:=hs'.kP
    lQ:=hs'.lQ
    frame:=hs'.frame
    loc:=hs'.loc
    jB:=hs'.jB
    size:=rfl
    env:=λt=>.dead _
    dom:=hs'.dom
    chunk:=hs'.chunk
    fK:=hs'.fK
    apart:=hs'.apart }
  ·exact hk.elim
 cases x with
 |normal=>exact fin hk
 |ret=>exact fin hk
 |exit id=>exact hk.elim
 |goto l=>exact hk.elim
 |panic c=>exact hk.elim
 |outgrown=>exact hk.elim
end Go.cr
namespace Go.cr
open Go.RowKit
section
variable{P:Program}{N:Nat}{own:List Nat}{ops:Array Oper}{K:Env->ay->Prop}{env:Env}{H:ay}
def akd(P:Program)(N:Nat)(own:List Nat)(ops:Array Oper)(r:Option (Prop×AV×ay))(o:Oper)(rest:List Oper)(K:Env->ay->Prop)(env:Env)(H:ay):Prop:=match r with
 |some (pre,v,H')=>pre/\walk P N own ops rest K (cH env o.dst v) H'
 |none=>jh P o (walk P N own ops rest K) env H
def aaJ(P:Program)(N:Nat)(own:List Nat)(ops:Array Oper)(g:Option Bool)(o:Oper)(rest:List Oper)(K:Env->ay->Prop)(env:Env)(H:ay):Prop:=match g with
 |some true=>akd P N own ops (fW P own o (ev env) H) o rest K env H
 |some false=>walk P N own ops rest K (cH env o.dst (.dQ [])) H
 |none=>False
theorem avo:walk P N own ops [] K env H=K env H:=rfl
theorem ard(o:Oper)(rest:List Oper):walk P N own ops (o :: rest) K env H=(wu N o.dst/\aaJ P N own ops (mR ops o env) o rest K env H):=by rw[walk];unfold aaJ akd;congr 1
theorem anh(o:Oper)(rest:List Oper):aaJ P N own ops (some true) o rest K env H=akd P N own ops (fW P own o (ev env) H) o rest K env H:=rfl
theorem ake(o:Oper)(rest:List Oper):aaJ P N own ops (some false) o rest K env H=walk P N own ops rest K (cH env o.dst (.dQ [])) H:=rfl
theorem ani(pre:Prop)(v:AV)(H':ay)(o:Oper)(rest:List Oper):akd P N own ops (some (pre,v,H')) o rest K env H=(pre/\walk P N own ops rest K (cH env o.dst v) H'):=rfl
theorem anj(o:Oper)(rest:List Oper):akd P N own ops none o rest K env H=jh P o (walk P N own ops rest K) env H:=rfl
theorem ank(d:Nat):wu N (some d)=(d<N):=rfl
theorem anl:wu N none=True:=rfl
theorem arf(d:Nat)(v:AV):cH env (some d) v=cE env d v:=rfl
theorem arh(v:AV):cH env none v=env:=rfl
theorem akf(d:Option Tmp)(op:Op)(t:TypeId)(pos:String)(a:Array Edge):mR ops ⟨d,op,t,pos,a,none⟩ env=some true:=rfl
def acT(v:AV)(want:Bool):Option Bool:=match v with
 | .p (.val (.bool b))=>some (b == want)
 | .dQ []=>some false
 |_=>none
def anm(d:Option Tmp)(want:Bool)(env:Env):Option Bool:=match d with
 |some d=>acT (env d) want
 |none=>none
theorem akg(d:Option Tmp)(op:Op)(t:TypeId)(pos:String)(a:Array Edge)(j:Nat)(want:Bool):mR ops ⟨d,op,t,pos,a,some (j,want)⟩ env=anm ((ops[j]?).bind (·.dst)) want env:=by unfold mR anm acT;rfl
theorem akh(d:Tmp)(want:Bool):anm (some d) want env=acT (env d) want:=rfl
theorem ann(want:Bool):acT (.dQ []) want=some false:=rfl
theorem avp(b:Bool):acT (.p (.val (.bool b))) true=some b:=by cases b<;>rfl
theorem avq(b:Bool):acT (.p (.val (.bool b))) false=some (!b):=by cases b<;>rfl
def up3(r:Option (Prop×AV))(H:ay):Option (Prop×AV×ay):=match r with
 |some (pre,v)=>some (pre,v,H)
 |none=>none
theorem avr(pre:Prop)(v:AV):up3 (some (pre,v)) H=some (pre,v,H):=rfl
theorem avs:up3 none H=none:=rfl
variable(d:Option Tmp)(ty:TypeId)(pos:String)(af:Array Edge)(g:Option (Nat×Bool))(ρ:Operand->AV)
theorem ari(own:List Nat)(op:Op)(k:Tmp):fW P own ⟨some k,op,ty,pos,af,g⟩ ρ H=if own.contains k=true then orE (exN P ⟨some k,op,ty,pos,af,g⟩ ρ H k) (isApp op) (gi P ⟨some k,op,ty,pos,af,g⟩ ρ H) else gi P ⟨some k,op,ty,pos,af,g⟩ ρ H:=rfl
theorem ano(own:List Nat)(op:Op):fW P own ⟨none,op,ty,pos,af,g⟩ ρ H=gi P ⟨none,op,ty,pos,af,g⟩ ρ H:=rfl
theorem avt(x:Operand):gi P ⟨d,.move x,ty,pos,af,g⟩ ρ H=some (True,ρ x,H):=rfl
theorem anp(x:Operand):gi P ⟨d,.assign x,ty,pos,af,g⟩ ρ H=some (True,ρ x,H):=rfl
theorem avu(c a b:Operand):gi P ⟨d,.pick c a b,ty,pos,af,g⟩ ρ H=up3 (ag5 (ρ c) (ρ a) (ρ b)) H:=by simp only[gi,oa,rP,mQ,wZ,yp,wo,xb,up3];try (cases ag5 (ρ c) (ρ a) (ρ b)<;>rfl)
theorem aki(x:Operand)(k:Nat):gi P ⟨d,.extract x k,ty,pos,af,g⟩ ρ H=up3 (uc (ρ x) k) H:=by simp only[gi,oa,rP,mQ,wZ,yp,wo,xb,up3];try (cases uc (ρ x) k<;>rfl)
theorem arj(op:BinOp)(t u:TypeId)(x y:Operand):gi P ⟨d,.binOp op t x y u,ty,pos,af,g⟩ ρ H=up3 (nK P op t (ρ x) (ρ y)) H:=by simp only[gi,oa,rP,mQ,wZ,yp,wo,xb,up3];try (cases nK P op t (ρ x) (ρ y)<;>rfl)
theorem avv(op:UnOp)(t:TypeId)(x:Operand):gi P ⟨d,.unOp op t x,ty,pos,af,g⟩ ρ H=up3 (unX op (ρ x)) H:=by simp only[gi,oa,rP,mQ,wZ,yp,wo,xb,up3];try (cases unX op (ρ x)<;>rfl)
theorem akj(s e:TypeId)(x:Operand):gi P ⟨d,.convert s e x,ty,pos,af,g⟩ ρ H=up3 (aeC P s e (ρ x)) H:=by simp only[gi,oa,rP,mQ,wZ,yp,wo,xb,up3];try (cases aeC P s e (ρ x)<;>rfl)
theorem aiJ(fn:Fn)(f c:Array Operand):gi P ⟨d,.makeFunc fn f c,ty,pos,af,g⟩ ρ H=some (True,ajZ fn (f.toList.map ρ) (c.toList.map ρ),H):=rfl
theorem ark(t:TypeId)(ps:Array (Nat×Operand)):gi P ⟨d,.build t ps,ty,pos,af,g⟩ ρ H=up3 (acK P t (ps.toList.map λx=>(x.1,ρ x.2))) H:=by simp only[gi,oa,rP,mQ,wZ,yp,wo,xb,up3];try (cases acK P t (ps.toList.map λx=>(x.1,ρ x.2))<;>rfl)
theorem arl(t:TypeId)(x i:Operand):gi P ⟨d,.index t x i,ty,pos,af,g⟩ ρ H=up3 (am1 P t (ρ x) (ρ i)) H:=by simp only[gi,oa,rP,mQ,wZ,yp,wo,xb,up3];try (cases am1 P t (ρ x) (ρ i)<;>rfl)
theorem arn(t:TypeId)(x:Operand)(lo hi mx:Option Operand):gi P ⟨d,.slice t x lo hi mx,ty,pos,af,g⟩ ρ H=up3 (sH P t (ρ x) (lo.map ρ) (hi.map ρ) (mx.map ρ)) H:=by simp only[gi,oa,rP,mQ,wZ,yp,wo,xb,up3];try (cases sH P t (ρ x) (lo.map ρ) (hi.map ρ) (mx.map ρ)<;>rfl)
theorem aiK(x:Operand):gi P ⟨d,.nilCheck x,ty,pos,af,g⟩ ρ H=up3 (aq0 (ρ x)) H:=by simp only[gi,oa,rP,mQ,wZ,yp,wo,xb,up3];try (cases aq0 (ρ x)<;>rfl)
def aeS(P:Program)(t:TypeId)(a:AV)(H:ay):Option (Prop×AV×ay):=match a with
 | .p (.dU cs off)=>(match rZ P t cs off with|some x=>some (True,.p x,H)|none=>none)
 | .ptr id off => (match H id with
   |some (.box cs)=>match rY P t cs off with|some v=>some (True,v,H)|none=>none
   |_=>none)
 | .jm id bf i off => (match rowOf H id bf with
   |some es=>match rZ P t (es.getD i []) off with|some x=>some (i<es.length/\0<(es.getD i []).length,.p x,H)|none=>none
   |none=>none)
 | .kC id bf i off => (match cI H id bf with
   |some (k,es)=>match rY P t (aa5 id bf i k (es.getD i [])) off with|some v=>some (i<es.length,v,H)|none=>none
   |none=>none)
 | .ng id bf i j off => (match nh (cI H id bf) i with
   |some l=>match rZ P t (l.getD j []) off with|some x=>some (j<l.length,.p x,H)|none=>none
   |none=>none)
 |_=>none
theorem avw(t:TypeId)(a:Operand):gi P ⟨d,.load t a,ty,pos,af,g⟩ ρ H=aeS P t (ρ a) H:=by
  simp only[gi,oa,rP,mQ,wZ,yp,wo,xb,ap2,aeS];generalize ρ a=v;cases v with
  | p x => cases x <;> simp only []
           case dU cs off=>cases rZ P t cs off<;>rfl
  |ptr id off =>
    simp only[];cases H id with
    |none=>rfl
    |some c=>cases c with
      |box cs=>simp only[];cases rY P t cs off<;>rfl
      |_=>rfl
  |jm id bf i off =>
    simp only[];cases rowOf H id bf with
    |none=>rfl
    |some es=>simp only[];cases rZ P t (es.getD i []) off<;>rfl
  |kC id bf i off =>
    simp only[];cases cI H id bf with
    |none=>rfl
    |some r=>obtain⟨k,es⟩:=r;simp only[];cases rY P t (aa5 id bf i k (es.getD i [])) off<;>rfl
  |ng id bf i j off =>
    simp only[];cases nh (cI H id bf) i with
    |none=>rfl
    |some l=>simp only[];cases rZ P t (l.getD j []) off<;>rfl
  |_=>rfl
def acU(P:Program)(f:Option (Nat×Nat))(a:AV)(H:ay):Option (Prop×AV×ay):=match f with
 |some (o,n)=>(match a with
  | .p (.dU cs off)=>some (n≠0,.p (.dU cs (off+o)),H)
  | .ptr id off=>some (n≠0,.ptr id (off+o),H)
  | .jm id bf i off=>(match rowOf H id bf with
   |some _=>some (n≠0,.jm id bf i (off+o),H)
   |none=>none)
  | .kC id bf i off=>(match cI H id bf with
   |some _=>some (n≠0,.kC id bf i (off+o),H)
   |none=>none)
  |_=>none)
 |none=>none
theorem agy(s:TypeId)(a:Operand)(k:Nat):gi P ⟨d,.fieldAddr s a k,ty,pos,af,g⟩ ρ H=acU P (bS P s k) (ρ a) H:=by
 simp only[gi,oa,rP,mQ,wZ,yp,wo,xb,ait,acU];generalize ρ a=v;cases bS P s k with
 |none=>cases v<;>rfl
 |some x =>
  obtain⟨o,n⟩:=x;cases v with
  |p x=>cases x<;>rfl
  |jm id bf i off=>simp only[];cases rowOf H id bf<;>rfl
  |kC id bf i off=>simp only[];cases cI H id bf<;>rfl
  |_=>rfl
def oT(P:Program)(t:TypeId)(x i:AV)(H:ay):Option (Prop×AV×ay):=match x with
 | .row id bf=>(match i with
  | .p (.val (.int _ n))=>(match rowOf H id bf,cM P t with
   |some es,some e=>(match bu P e with
    |some sz=>some ((0<=n/\n<es.length)/\(es.getD n.toNat []).length=sz/\0<sz,.jm id bf n.toNat 0,H)
    |none=>none)
   |_,_=>none)
  |_=>none)
 | .eG id bf=>(match i with
  | .p (.val (.int _ n))=>(match cI H id bf,cM P t with
   |some (_,es),some e=>(match bu P e with
    |some sz=>some ((0<=n/\n<es.length)/\(es.getD n.toNat []).length=sz,.kC id bf n.toNat 0,H)
    |none=>none)
   |_,_=>none)
  |_=>none)
 | .kD id bf ii=>(match i with
  | .p (.val (.int _ n))=>(match nh (cI H id bf) ii,cM P t with
   |some l,some e=>(match bu P e with
    |some sz=>some ((0<=n/\n<l.length)/\(l.getD n.toNat []).length=sz,.ng id bf ii n.toNat 0,H)
    |none=>none)
   |_,_=>none)
  |_=>none)
 | .iA id bf off m _ _=>(match i with
  | .p (.val (.int _ n))=>(match acM H id bf,cM P t with
   |some (sz,es),some e=>(match bu P e with
    |some sz'=>some ((0<=n/\n<m/\off+m<=es.length)/\sz'=sz,.jm id bf (off+n.toNat) 0,H)
    |none=>none)
   |_,_=>none)
  |_=>none)
 |x=>up3 (oR P t x i) H
theorem agz(t:TypeId)(x i:Operand):gi P ⟨d,.indexAddr t x i,ty,pos,af,g⟩ ρ H=oT P t (ρ x) (ρ i) H:=by
 simp only[gi,oa,rP,mQ,wZ,yp,wo,xb,oT];generalize ρ x=v;generalize ρ i=u;cases v with
 |row id bf =>
  have:oR P t (.row id bf) u=none:=by
   unfold oR;cases u with
   |p y=>cases y with
    |val z=>cases z<;>rfl
    |_=>rfl
   |_=>rfl
  rw[this];simp only[];cases u with
  |p y=>cases y with
   |val z=>cases z with
    |int k n =>
     simp only[];cases rowOf H id bf<;>cases cM P t<;>simp only[]
     rename_i es e;cases bu P e<;>rfl
    |_=>rfl
   |_=>rfl
  |_=>rfl
 |eG id bf =>
  have:oR P t (.eG id bf) u=none:=by
   unfold oR;cases u with
   |p y=>cases y with
    |val z=>cases z<;>rfl
    |_=>rfl
   |_=>rfl
  rw[this];simp only[];cases u with
  |p y=>cases y with
   |val z=>cases z with
    |int k n =>
     simp only[];cases cI H id bf<;>cases cM P t<;>simp only[]
     rename_i r e;obtain⟨_,es⟩:=r;simp only[];all_goals(cases bu P e<;>rfl)
    |_=>rfl
   |_=>rfl
  |_=>rfl
 |kD id bf ii =>
  have:oR P t (.kD id bf ii) u=none:=by
   unfold oR;cases u with
   |p y=>cases y with
    |val z=>cases z<;>rfl
    |_=>rfl
   |_=>rfl
  rw[this];simp only[];cases u with
  |p y=>cases y with
   |val z=>cases z with
    |int k n =>
     simp only[];cases nh (cI H id bf) ii<;>cases cM P t<;>simp only[]
     rename_i l e;cases bu P e<;>rfl
    |_=>rfl
   |_=>rfl
  |_=>rfl
 |iA id bf off m m' z =>
  have:oR P t (.iA id bf off m m' z) u=none:=by
   unfold oR;cases u with
   |p y=>cases y with
    |val z=>cases z<;>rfl
    |_=>rfl
   |_=>rfl
  rw[this];simp only[];cases u with
  |p y=>cases y with
   |val z=>cases z with
    |int k n =>
     simp only[];cases acM H id bf<;>cases cM P t<;>simp only[]
     rename_i r e;obtain⟨sz,es⟩:=r;simp only[];all_goals(cases bu P e<;>rfl)
    |_=>rfl
   |_=>rfl
  |_=>rfl
 |_=>simp only[];generalize oR P t _ u=r;cases r<;>rfl
theorem aro(t:TypeId)(a x:Operand):gi P ⟨d,.store t a x,ty,pos,af,g⟩ ρ H=wo P ⟨d,.store t a x,ty,pos,af,g⟩ ρ H:=by simp only[gi,oa,rP,mQ,wZ,yp,xb];split<;>simp_all
theorem arp(t:TypeId):gi P ⟨d,.alloc t,ty,pos,af,g⟩ ρ H=wo P ⟨d,.alloc t,ty,pos,af,g⟩ ρ H:=by simp only[gi,oa,rP,mQ,wZ,yp,xb];split<;>simp_all
theorem azQ(t:TypeId)(x:Operand):gi P ⟨d,.box t x,ty,pos,af,g⟩ ρ H=wo P ⟨d,.box t x,ty,pos,af,g⟩ ρ H:=by simp only[gi,oa,rP,mQ,wZ,yp,xb];split<;>simp_all
theorem aeT(f:Operand)(args:Array Operand)(ts:Array TypeId):gi P ⟨d,.call ⟨.value f,args,ts⟩,ty,pos,af,g⟩ ρ H=none:=rfl
def ad7(P:Program)(t:TypeId)(a:AV)(H:ay):Option (Prop×AV×ay):=match a with
 | .row id bf=>(match rowOf H id bf with
  |some es=>up3 (qL P t (.p (.aV es))) H
  |none=>none)
 | .eG id bf=>(match cI H id bf with
  |some (_,es)=>up3 (qL P t (.p (.aV es))) H
  |none=>none)
 | .kD id bf i=>(match nh (cI H id bf) i with
  |some l=>up3 (qL P t (.p (.aV l))) H
  |none=>none)
 |a=>up3 (qL P t a) H
theorem rR(t:TypeId)(a:Operand):gi P ⟨d,.call ⟨.builtin .len,#[a],#[t]⟩,ty,pos,af,g⟩ ρ H=ad7 P t (ρ a) H:=by
 simp only[gi,oa,rP,mQ,wZ,yp,wo,xb,ad7,ud,List.map_cons,List.map_nil];generalize ρ a=v;cases v with
 |row id bf =>
  have:qL P t (.row id bf)=none:=rfl;rw[this];simp only[];cases rowOf H id bf with
  |none=>rfl
  |some es=>simp only[];generalize qL P t _=r;cases r<;>rfl
 |eG id bf =>
  have:qL P t (.eG id bf)=none:=rfl;rw[this];simp only[];cases cI H id bf with
  |none=>rfl
  |some r=>obtain⟨_,es⟩:=r;simp only[];generalize qL P t _=r;cases r<;>rfl
 |kD id bf i =>
  have:qL P t (.kD id bf i)=none:=rfl;rw[this];simp only[];cases nh (cI H id bf) i with
  |none=>rfl
  |some l=>simp only[];generalize qL P t _=r;cases r<;>rfl
 |_=>simp only[];generalize qL P t _=r;cases r<;>rfl
def ad8(P:Program)(t1 t2:TypeId)(a b:AV)(H:ay):Option (Prop×AV×ay):=match acL P t1 t2 a b with
 |some (pre,v)=>some (pre,v,H)
 |none=>abM P t1 t2 a b H
theorem aeU(t1 t2:TypeId)(a b:Operand):gi P ⟨d,.call ⟨.builtin .append,#[a,b],#[t1,t2]⟩,ty,pos,af,g⟩ ρ H=ad8 P t1 t2 (ρ a) (ρ b) H:=by
 simp only[gi,oa,rP,mQ,wZ,yp,wo,xb,ad8,ud,List.map_cons,List.map_nil];cases acL P t1 t2 (ρ a) (ρ b) with
 |some r=>rfl
 |none=>simp only[];cases abM P t1 t2 (ρ a) (ρ b) H<;>rfl
def aiL(P:Program)(t:TypeId)(n:Nat)(parts:List (Nat×AV))(H:ay):Option (Prop×AV×ay):=match lJ P t n parts with
 |some (_,es)=>(match n with
  |0=>some (True,.p .emp,H)
  |_=>some (True,.p (.aV es),H))
 |none=>match lJ P t n (parts.map λx=>(x.1,xT (dc (oS parts) H) x.2)) with
  |some (_,es)=>some (True,.p (.aV es),dc (oS parts) H)
  |none=>none
theorem aeV(t:TypeId)(n:Nat)(ps:Array (Nat×Operand)):gi P ⟨d,.buildSlice t n ps,ty,pos,af,g⟩ ρ H=aiL P t n (ps.toList.map λx=>(x.1,ρ x.2)) H:=by
 simp only[gi,oa,rP,mQ,wZ,yp,wo,xb,aiL];cases lJ P t n (ps.toList.map λx=>(x.1,ρ x.2)) with
 |some r=>obtain⟨e,es⟩:=r;cases n<;>rfl
 |none=>rfl
end
section
variable{P:Program}{N:Nat}{own:List Nat}{K:qi}{env:Env}{H:ay}
def azR(P:Program)(N:Nat)(own:List Nat)(b:Code)(K:qi):qi:=λx e' H'=>match x with
 | .normal=>cw P N own b K e' H'
 |x=>K x e' H'
def aiM(id:Nat)(K:qi):qi:=λx e' H'=>match x with
 | .exit id'=>if id'=id then K .normal e' H' else K (.exit id') e' H'
 |x=>K x e' H'
def abS(P:Program)(N:Nat)(own:List Nat)(v:AV)(a b:Code)(K:qi)(env:Env)(H:ay):Prop:=wv (cw P N own a K env H) (cw P N own b K env H) v
def aaK(P:Program)(N:Nat)(own:List Nat)(c:Code)(K:qi)(env:Env)(H:ay):Prop:=aj9 (cw P N own c) K env H
theorem azS:cw P N own .skip K env H=K .normal env H:=rfl
theorem arq(id:Nat)(l:List Oper):cw P N own (.region id l.toArray false) K env H=walk P N own l.toArray l (K .normal) env H:=rfl
theorem azT(id:Nat)(l:List Oper):cw P N own (.region id l.toArray true) K env H=vh P N own l.toArray (K .normal) env H:=rfl
theorem aCo(a b:Code):cw P N own (.seq a b) K env H=cw P N own a (azR P N own b K) env H:=rfl
theorem azU(c:Operand)(a b:Code):cw P N own (.cond c a b) K env H=abS P N own (ev env c) a b K env H:=rfl
theorem avx(id:Nat)(c:Code):cw P N own (.block id c) K env H=cw P N own c (aiM id K) env H:=rfl
theorem azV(c:Code):cw P N own (.loop c) K env H=aaK P N own c K env H:=rfl
theorem azW(id:Nat):cw P N own (.exit id) K env H=K (.exit id) env H:=rfl
theorem aCp:cw P N own .ret K env H=K .ret env H:=rfl
theorem akk(b:Code):azR P N own b K .normal env H=cw P N own b K env H:=rfl
theorem ars(b:Code)(id:Nat):azR P N own b K (.exit id) env H=K (.exit id) env H:=rfl
theorem avy(b:Code):azR P N own b K .ret env H=K .ret env H:=rfl
theorem agA(id:Nat):aiM id K .normal env H=K .normal env H:=rfl
theorem akl(id id':Nat):aiM id K (.exit id') env H=if id'=id then K .normal env H else K (.exit id') env H:=rfl
theorem anq(id:Nat):aiM id K .ret env H=K .ret env H:=rfl
theorem anr(a b:Code):abS P N own (.p (.val (.bool true))) a b K env H=cw P N own a K env H:=by simp[abS,wv]
theorem akm(a b:Code):abS P N own (.p (.val (.bool false))) a b K env H=cw P N own b K env H:=by simp[abS,wv]
theorem aK{b:Bool}{x y:Code}(h1:b=true->cw P N own x K env H)(h2:b=false->cw P N own y K env H):abS P N own (.p (.val (.bool b))) x y K env H:=⟨h1,h2⟩
def aDo(r:Option PV)(Q:PV->Prop):Prop:=match r with
 |some r=>Q r
 |none=>False
theorem avz(rs:List ResultVar)(Q:PV->Prop):aCl P rs Q .ret env H=aDo (avn P env H rs) Q:=rfl
theorem art(r:PV)(Q:PV->Prop):aDo (some r) Q=Q r:=rfl
theorem aCq(t:Tmp):ev env (.tmp t)=env t:=rfl
theorem aCr(k:IntKind)(n:Int):ev env (.const (.int k n)) = .p (.val (.int k n)):=rfl
theorem azX(b:Bool):ev env (.const (.bool b)) = .p (.val (.bool b)):=rfl
theorem aru(b:ByteArray):ev env (.const (.string b)) = .p (.val (.string b)):=rfl
theorem avA(a:Option Addr)(n c:Nat):ev env (.const (.slice a n c)) = .p (.val (.slice a n c)):=rfl
theorem azY(f:FuncId):ev env (.func f) = .p (.iw (.func f) [] []):=rfl
theorem avB:iO []=fT:=by funext t;simp[iO,fT]
theorem avC(a:PV):iO [a]=cE fT 0 (.p a):=by funext t;unfold iO cE fT;rcases t with _|t<;>simp
theorem avD(a b:PV):iO [a,b]=cE (cE fT 0 (.p a)) 1 (.p b):=by funext t;unfold iO cE fT;rcases t with _|_|t<;>simp
theorem avE(a b c:PV):iO [a,b,c]=cE (cE (cE fT 0 (.p a)) 1 (.p b)) 2 (.p c):=by funext t;unfold iO cE fT;rcases t with _|_|_|t<;>simp
theorem avF(a b c d:PV):iO [a,b,c,d]=cE (cE (cE (cE fT 0 (.p a)) 1 (.p b)) 2 (.p c)) 3 (.p d):=by funext t;unfold iO cE fT;rcases t with _|_|_|_|t<;>simp
theorem avG(a b c d e:PV):iO [a,b,c,d,e]=cE (cE (cE (cE (cE fT 0 (.p a)) 1 (.p b)) 2 (.p c)) 3 (.p d)) 4 (.p e):=by funext t;unfold iO cE fT;rcases t with _|_|_|_|_|t<;>simp
end
section
variable{P:Program}{t:TypeId}{k:IntKind}{a b:Int}
theorem avH:nK P .add t (.p (.val (.int k a))) (.p (.val (.int k b)))=some (True,.p (.val (.int k (k.wrap (a+b))))):=by simp[nK,aax]
theorem avI:nK P .sub t (.p (.val (.int k a))) (.p (.val (.int k b)))=some (True,.p (.val (.int k (k.wrap (a-b))))):=by simp[nK,aax]
theorem avJ:nK P .mul t (.p (.val (.int k a))) (.p (.val (.int k b)))=some (True,.p (.val (.int k (k.wrap (a * b))))):=by simp[nK,aax]
theorem avK:nK P .quo t (.p (.val (.int k a))) (.p (.val (.int k b)))=some (b≠0,.p (.val (.int k (k.wrap (a.tdiv b))))):=by simp[nK,aax]
theorem avL:nK P .rem t (.p (.val (.int k a))) (.p (.val (.int k b)))=some (b≠0,.p (.val (.int k (a.tmod b)))):=by simp[nK,aax]
theorem avM:nK P .eql t (.p (.val (.int k a))) (.p (.val (.int k b)))=some (True,.p (.val (.bool (decide (a=b))))):=by simp[nK,aax]
theorem avN:nK P .neq t (.p (.val (.int k a))) (.p (.val (.int k b)))=some (True,.p (.val (.bool (!decide (a=b))))):=by simp[nK,aax]
theorem avO:nK P .lss t (.p (.val (.int k a))) (.p (.val (.int k b)))=some (True,.p (.val (.bool (decide (a<b))))):=by simp[nK,aax]
theorem avP:nK P .leq t (.p (.val (.int k a))) (.p (.val (.int k b)))=some (True,.p (.val (.bool (decide (a<=b))))):=by simp[nK,aax]
theorem avQ:nK P .gtr t (.p (.val (.int k a))) (.p (.val (.int k b)))=some (True,.p (.val (.bool (decide (b<a))))):=by simp[nK,aax]
theorem avR:nK P .geq t (.p (.val (.int k a))) (.p (.val (.int k b)))=some (True,.p (.val (.bool (decide (b<=a))))):=by simp[nK,aax]
theorem arv{x y:ByteArray} : nK P .eql t (.p (.val (.string x))) (.p (.val (.string y)))=some (True,.p (.val (.bool (decide (x=y))))):=by simp[nK,aax]
theorem avS{es:List (List PV)}(h:isSlice P t=true):nK P .eql t (.p (.aV es)) (.p (.val (.slice none 0 0)))=some (es≠[],.p (.val (.bool false))):=by simp[nK,h]
theorem arw{ao:Option Addr}{n c:Nat}(h:isSlice P t=true):nK P .eql t (.p (.val (.slice ao n c))) (.p (.val (.slice none 0 0)))=some (True,.p (.val (.bool ao.isNone))):=by
 unfold isSlice at h;unfold nK aax;split at h
 ·rename_i e he;simp[he]
 ·cases h
def aGJ(P:Program)(t:TypeId):Bool:=match P.underlying t with
 |some .bool=>true
 |_=>false
def eqX(op:BinOp)(r:Option Bool):Option (Prop×AV):=match op,r with
 | .eql,some b=>some (True,.p (.val (.bool b)))
 | .neq,some b=>some (True,.p (.val (.bool !b)))
 |_,_=>none
theorem azZ(b:Bool):eqX .eql (some b)=some (True,.p (.val (.bool b))):=rfl
theorem az0(b:Bool):eqX .neq (some b)=some (True,.p (.val (.bool !b))):=rfl
theorem avT{op:BinOp}{cs ds:List PV}{ks:List BK}(h:qf P t=some ks):nK P op t (.p (.agg cs)) (.p (.agg ds))=eqX op (eqK ks cs ds):=by unfold nK eqX;simp only[h];try rfl
theorem az1:eqK [] [] []=some true:=rfl
def akn(b:Bool)(r:Option Bool):Option Bool:=match r with
 |some r=>some (b&&r)
 |none=>none
theorem ans(a b:Bool):akn a (some b)=some (a&&b):=rfl
theorem aDp(ks:List BK)(k:IntKind)(a b:Int)(cs ds:List PV):eqK (.i :: ks) (.val (.int k a) :: cs) (.val (.int k b) :: ds)=akn (decide (a=b)) (eqK ks cs ds):=by simp only[eqK,if_true,akn];all_goals(cases eqK ks cs ds<;>rfl)
theorem aDq(ks:List BK)(a b:Bool)(cs ds:List PV):eqK (.b :: ks) (.val (.bool a) :: cs) (.val (.bool b) :: ds)=akn (a == b) (eqK ks cs ds):=by simp only[eqK,akn];all_goals(cases eqK ks cs ds<;>rfl)
theorem az2{x:Bool} : unX .not (.p (.val (.bool x)))=some (True,.p (.val (.bool !x))):=rfl
theorem ant{x y:AV} : ag5 (.p (.val (.bool true))) x y=some (True,x):=rfl
theorem ako{x y:AV} : ag5 (.p (.val (.bool false))) x y=some (True,y):=rfl
theorem anu(vs:List PV)(n:Nat):uc (.p (.dQ vs)) n=(match vs[n]? with|some x=>some (True,.p x)|none=>none):=rfl
theorem anv(vs:List AV)(n:Nat):uc (.dQ vs) n=(match vs[n]? with|some x=>some (True,x)|none=>none):=rfl
theorem anw(H:ay)(cs:List PV)(off:Nat):aeS P t (.p (.dU cs off)) H=(match rZ P t cs off with|some x=>some (True,.p x,H)|none=>none):=rfl
def aqb(P:Program)(t:TypeId)(c:Option Chunk)(off:Nat)(H:ay):Option (Prop×AV×ay):=match c with
 |some (.box cs)=>(match rY P t cs off with|some v=>some (True,v,H)|none=>none)
 |_=>none
theorem arx(H:ay)(id off:Nat):aeS P t (.ptr id off) H=aqb P t (H id) off H:=rfl
theorem akp(H:ay)(cs:List AV)(off:Nat):aqb P t (some (.box cs)) off H=(match rY P t cs off with|some v=>some (True,v,H)|none=>none):=rfl
theorem anx(H:ay)(id bf i off:Nat):aeS P t (.jm id bf i off) H=(match rowOf H id bf with
   |some es=>(match rZ P t (es.getD i []) off with|some x=>some (i<es.length/\0<(es.getD i []).length,.p x,H)|none=>none)
   |none=>none):=rfl
def rdA(g:Option Bool)(n:Option Nat)(cs:List AV)(off:Nat):Option AV:=match g with
 |some true=>(match n with
  |some n=>if off+n<=cs.length then some (xS ((cs.drop off).take n)) else none
  |none=>none)
 |some false=>cs[off]?
 |none=>none
def rdP(g:Option Bool)(n:Option Nat)(cs:List PV)(off:Nat):Option PV:=match g with
 |some true=>(match n with
  |some n=>if off+n<=cs.length then some (.agg ((cs.drop off).take n)) else none
  |none=>none)
 |some false=>cs[off]?
 |none=>none
theorem avU{cs:List AV}{off:Nat} : rY P t cs off=rdA (fL P t) (bu P t) cs off:=rfl
theorem avV{cs:List PV}{off:Nat} : rZ P t cs off=rdP (fL P t) (bu P t) cs off:=rfl
theorem az3{cs:List AV}{off:Nat}{n:Option Nat} : rdA (some false) n cs off=cs[off]?:=rfl
theorem az4{cs:List PV}{off:Nat}{n:Option Nat} : rdP (some false) n cs off=cs[off]?:=rfl
theorem az5{cs:List AV}{off n:Nat} : rdA (some true) (some n) cs off=if off+n<=cs.length then some (xS ((cs.drop off).take n)) else none:=rfl
theorem az6{cs:List PV}{off n:Nat} : rdP (some true) (some n) cs off=if off+n<=cs.length then some (.agg ((cs.drop off).take n)) else none:=rfl
theorem akq(H:ay)(o n:Nat)(cs:List PV)(off:Nat):acU P (some (o,n)) (.p (.dU cs off)) H=some (n≠0,.p (.dU cs (off+o)),H):=rfl
theorem anz(H:ay)(o n:Nat)(id off:Nat):acU P (some (o,n)) (.ptr id off) H=some (n≠0,.ptr id (off+o),H):=rfl
theorem akr(H:ay)(o n:Nat)(id bf i off:Nat):acU P (some (o,n)) (.jm id bf i off) H=(match rowOf H id bf with
   |some _=>some (n≠0,.jm id bf i (off+o),H)
   |none=>none):=rfl
def aCs(e:Option TypeId)(sz:TypeId->Option Nat)(es:List (List PV))(a:Int)(H:ay):Option (Prop×AV×ay):=match e with
 |some e=>(match sz e with
  |some sz=>some ((0<=a/\a<es.length)/\(es.getD a.toNat []).length=sz/\0<sz,.p (.dU (es.getD a.toNat []) 0),H)
  |none=>none)
 |none=>none
theorem anA{H:ay}{es:List (List PV)} : oT P t (.p (.aV es)) (.p (.val (.int k a))) H=aCs (cM P t) (bu P) es a H:=by
 unfold oT oR aCs up3;cases cM P t with
 |none=>rfl
 |some e=>simp only[];cases bu P e<;>rfl
theorem ary{e:TypeId}{f:TypeId->Option Nat}{es:List (List PV)}{H:ay} : aCs (some e) f es a H=(match f e with
  |some sz=>some ((0<=a/\a<es.length)/\(es.getD a.toNat []).length=sz/\0<sz,.p (.dU (es.getD a.toNat []) 0),H)
  |none=>none):=rfl
def aCt(r:Option (List (List PV)))(e:Option TypeId)(sz:TypeId->Option Nat)(id bf:Nat)(a:Int)(H:ay):Option (Prop×AV×ay):=match r,e with
 |some es,some e=>(match sz e with
  |some sz=>some ((0<=a/\a<es.length)/\(es.getD a.toNat []).length=sz/\0<sz,.jm id bf a.toNat 0,H)
  |none=>none)
 |_,_=>none
theorem anB{H:ay}{id bf:Nat} : oT P t (.row id bf) (.p (.val (.int k a))) H=aCt (rowOf H id bf) (cM P t) (bu P) id bf a H:=by unfold oT aCt;rfl
theorem arz{es:List (List PV)}{e:TypeId}{f:TypeId->Option Nat}{id bf:Nat}{H:ay} : aCt (some es) (some e) f id bf a H=(match f e with
  |some sz=>some ((0<=a/\a<es.length)/\(es.getD a.toNat []).length=sz/\0<sz,.jm id bf a.toNat 0,H)
  |none=>none):=rfl
theorem avW(H:ay)(id bf:Nat):rowOf H id bf=(match H id with
 |some (.row v _ _ es)=>if v=bf then some es else none
 |some (.shut v es)=>if v=bf then some es else none
 |some (.tail v _ _ es)=>if v=bf then some es else none
 |_=>none):=rfl
theorem avX{H:ay}{es:List (List PV)}(h:isSlice P t=true):ad7 P t (.p (.aV es)) H=some (True,.p (.val (.int .i64 es.length)),H):=by simp[ad7,qL,h,up3]
theorem avY{H:ay}{s:ByteArray}(h:yD P t=true):ad7 P t (.p (.val (.string s))) H=some (True,.p (.val (.int .i64 s.size)),H):=by simp[ad7,qL,h,up3]
theorem avZ{H:ay}{id bf:Nat}(h:isSlice P t=true):ad7 P t (.row id bf) H=(match rowOf H id bf with
  |some es=>some (True,.p (.val (.int .i64 es.length)),H)
  |none=>none):=by
 simp only[ad7,qL,h];all_goals(cases rowOf H id bf<;>rfl)
theorem av0{s:ByteArray}(h:yD P t=true):am1 P t (.p (.val (.string s))) (.p (.val (.int k a)))=some (0<=a/\a<s.size,.p (.val (.int .u8 (lu s a.toNat)))):=by simp[am1,h]
def cvI(b:Bool)(d:Option IntKind)(a:Int):Option (Prop×AV):=match b,d with
 |true,some k=>some (True,.p (.val (.int k (k.wrap a))))
 |_,_=>none
theorem arA{s:TypeId} : aeC P s t (.p (.val (.int k a)))=cvI (P.underlying s).isSome (ajT P t) a:=by unfold aeC cvI;cases (P.underlying s).isSome<;>cases ajT P t<;>rfl
theorem av1{k:IntKind} : cvI true (some k) a=some (True,.p (.val (.int k (k.wrap a)))):=rfl
def av2(P : Program)(t : TypeId)(a v : AV)(H : ay) : Option (Prop × AV × ay) := match bu P t with
  | some n => if (b5 v).length = n ∧ (b5 v).all n9 = true then (match a with
    | .ptr id off=>(match H id with
     |some (.box cs)=>if off+n<=cs.length then some (True,.dead,bk H id (.box (splice cs off (b5 v)))) else none
     |_=>none)
    | .jm id bf i off=>(match H id,tq (b5 v) with
     |some (.row v0 e sz es),some ps=>if v0=bf then some (i<es.length/\off+n<=sz,.dead,bk H id (.row v0 e sz (es.set i (splice (es.getD i []) off ps)))) else none
     |_,_=>none)
    |_=>none)
   else none
  |none=>none
theorem anC(d:Option Tmp)(ty:TypeId)(pos:String)(af:Array Edge)(g:Option (Nat×Bool))(ρ:Operand->AV)(H:ay)(x y:Operand):gi P ⟨d,.store t x y,ty,pos,af,g⟩ ρ H=av2 P t (ρ x) (ρ y) H:=by rw[aro];rfl
def aDr(d : Option Tmp)(v : AV)(H : ay) : Option (Prop × AV × ay) := match d with
  |some d=>(match H d with
   |none=>if (b5 v).all n9=true then some (True,.ptr d 0,bk H d (.box (b5 v))) else none
   |some _=>none)
  |none=>none
theorem av3(d:Option Tmp)(ty:TypeId)(pos:String)(af:Array Edge)(g:Option (Nat×Bool))(ρ:Operand->AV)(H:ay)(x:Operand):gi P ⟨d,.box t x,ty,pos,af,g⟩ ρ H=aDr d (ρ x) H:=by rw[azQ];rfl
def av4(P : Program)(d : Option Tmp)(e : TypeId)(H : ay) : Option (Prop × AV × ay) := match d with
  |some d=>(match H d,cN P e with
   |none,some zs=>if zs.all (·.oneCell')=true then some (True,.ptr d 0,bk H d (.box (zs.map λz=>.p (.val z)))) else none
   |_,_=>none)
  |none=>none
theorem anD(d:Option Tmp)(ty:TypeId)(pos:String)(af:Array Edge)(g:Option (Nat×Bool))(ρ:Operand->AV)(H:ay)(e:TypeId):gi P ⟨d,.alloc e,ty,pos,af,g⟩ ρ H=av4 P d e H:=by rw[arp];rfl
def aDs(P:Program)(e:Option TypeId)(n:Nat)(parts:List (Nat×AV)):Option (TypeId×List (List PV)):=match e with
 |some e=>(match bu P e,cN P e with
  | some sz, some zs => if zs.length = sz ∧ 0 < sz ∧ n * sz ≤ 16777216 ∧ zs.all (·.oneCell') = true then
    (match qS (λi=>some (i * sz,sz)) (iE zs n) parts with
    |some cs=>(match tq cs with
     |some ps=>if ps.length=n * sz then some (e,chunk sz n ps) else none
     |none=>none)
    |none=>none)
   else none
  |_,_=>none)
 |none=>none
theorem anE(n:Nat)(parts:List (Nat×AV)):lJ P t n parts=aDs P (cM P t) n parts:=rfl
theorem arB(e:TypeId)(n:Nat)(parts:List (Nat×AV)):aDs P (some e) n parts=(match bu P e,cN P e with
  | some sz, some zs => if zs.length = sz ∧ 0 < sz ∧ n * sz ≤ 16777216 ∧ zs.all (·.oneCell') = true then
    (match qS (λi=>some (i * sz,sz)) (iE zs n) parts with
    |some cs=>(match tq cs with
     |some ps=>if ps.length=n * sz then some (e,chunk sz n ps) else none
     |none=>none)
    |none=>none)
   else none
  |_,_=>none):=rfl
theorem anF(n:Nat)(parts:List (Nat×AV))(H:ay):aiL P t n parts H=(match lJ P t n parts with
 |some (_,es)=>(match n with
  |0=>some (True,.p .emp,H)
  |_=>some (True,.p (.aV es),H))
 |none=>(match lJ P t n (parts.map λx=>(x.1,xT (dc (oS parts) H) x.2)) with
  |some (_,es)=>some (True,.p (.aV es),dc (oS parts) H)
  |none=>none)):=rfl
def av5(place : Nat → Option (Nat × Nat))(p : Option (Nat × Nat))(cells : List AV)(v : AV)(rest : List (Nat × AV)) : Option (List AV) := match p with
  |some (off,size)=>if (b5 v).length=size/\off+size<=cells.length/\(b5 v).all n9=true then qS place (splice cells off (b5 v)) rest else none
  |none=>none
theorem arC(place:Nat->Option (Nat×Nat))(cells:List AV):qS place cells []=some cells:=rfl
theorem anG(place:Nat->Option (Nat×Nat))(cells:List AV)(i:Nat)(v:AV)(rest:List (Nat×AV)):qS place cells ((i,v) :: rest)=av5 place (place i) cells v rest:=by simp only[qS,av5];try rfl
theorem anH(place:Nat->Option (Nat×Nat))(cells:List AV)(off size:Nat)(v:AV)(rest:List (Nat×AV)):av5 place (some (off,size)) cells v rest=if (b5 v).length=size/\off+size<=cells.length/\(b5 v).all n9=true then qS place (splice cells off (b5 v)) rest else none:=rfl
theorem agB(zs:List Value):iE zs 0=[]:=rfl
theorem agC(zs:List Value)(n:Nat):iE zs (n+1)=(zs.map λz=>AV.p (.val z))++iE zs n:=by simp[iE,List.replicate_succ]
theorem anI{α:Type}(sz:Nat)(l:List α):chunk sz 0 l=[]:=rfl
theorem anJ{α:Type}(sz n:Nat)(l:List α):chunk sz (n+1) l=l.take sz :: chunk sz n (l.drop sz):=rfl
def aDt(z:Option (List Value))(pl:Option (List (Nat×Nat)))(parts:List (Nat×AV)):Option (Prop×AV):=match z,pl with
 | some zs, some pl => if zs.all (·.oneCell') = true then
   (match qS (λi=>pl[i]?) (zs.map λz=>.p (.val z)) parts with
   |some cs=>some (True,xS cs)
   |none=>none)
  else none
 |_,_=>none
theorem arD(parts:List (Nat×AV)):acK P t parts=aDt (cN P t) (fc P t) parts:=rfl
theorem arE(zs:List Value)(pl:List (Nat×Nat))(parts:List (Nat×AV)):aDt (some zs) (some pl) parts=if zs.all (·.oneCell')=true then
   (match qS (λi=>pl[i]?) (zs.map λz=>.p (.val z)) parts with
   |some cs=>some (True,xS cs)
   |none=>none)
  else none:=rfl
theorem az7(k:IntKind)(n:Int):Value.oneCell' (.int k n)=true:=rfl
theorem av6(b:Bool):Value.oneCell' (.bool b)=true:=rfl
theorem anK(b:ByteArray):Value.oneCell' (.string b)=true:=rfl
theorem arF(a:Option Addr)(n c:Nat):Value.oneCell' (.slice a n c)=true:=rfl
def az8(ty:Option (TypeId×Nat×Nat))(a b:AV)(H:ay):Option (Prop×AV×ay):=match ty with
 |some (e',sz',qT)=>(match a with
  | .row id bf=>(match H id with
   | some (.row v e sz es) => if v = bf ∧ e = e' ∧ sz = sz' then (match vg H b with
     |some ns=>some ((es.length+ns.length) * qT<=140737488355328/\∀x∈ns,x.length=sz,.row id (bf+1),bk H id (.row (bf+1) e sz (es++ns)))
     |none=>none)
    else none
   |_=>none)
  |_=>none)
 |none=>none
theorem aks(t1 t2:TypeId)(id bf:Nat)(b:AV)(H:ay):ad8 P t1 t2 (.row id bf) b H=az8 (dr P t1 t2) (.row id bf) b H:=by
 unfold ad8 acL abM az8;simp only[isNil];cases dr P t1 t2 with
 |none=>rfl
 |some x=>rfl
theorem arG(H:ay)(ns:List (List PV)):vg H (.p (.aV ns))=some ns:=rfl
theorem arH(H:ay)(ao:Option Addr)(c:Nat):vg H (.p (.val (.slice ao 0 c)))=some []:=rfl
theorem arI(H:ay)(id bf:Nat):vg H (.row id bf)=rowOf H id bf:=rfl
theorem akt(e':TypeId)(sz' qT:Nat)(id bf:Nat)(b:AV)(H:ay):az8 (some (e',sz',qT)) (.row id bf) b H=(match H id with
   | some (.row v e sz es) => if v = bf ∧ e = e' ∧ sz = sz' then (match vg H b with
     |some ns=>some ((es.length+ns.length) * qT<=140737488355328/\∀x∈ns,x.length=sz,.row id (bf+1),bk H id (.row (bf+1) e sz (es++ns)))
     |none=>none)
    else none
   |_=>none):=rfl
def av7(ty:Option (TypeId×Nat×Nat))(es:List (List PV))(H:ay):Option (Prop×AV×ay):=match ty with
 |some (_,sz,qT)=>some (es.length * qT<=140737488355328/\∀x∈es,x.length=sz,.p (.aV es),H)
 |none=>none
theorem arJ(e':TypeId)(sz' qT:Nat)(es:List (List PV))(H:ay):av7 (some (e',sz',qT)) es H=some (es.length * qT<=140737488355328/\∀x∈es,x.length=sz',.p (.aV es),H):=rfl
theorem av8(t1 t2:TypeId)(es:List (List PV))(H:ay):ad8 P t1 t2 (.p .emp) (.p (.aV es)) H=av7 (dr P t1 t2) es H:=by
 unfold ad8 acL abM av7;simp only[isNil];cases dr P t1 t2 with
 |none=>rfl
 |some x=>rfl
theorem av9(t1 t2:TypeId)(es:List (List PV))(H:ay):ad8 P t1 t2 (.p (.val (.slice none 0 0))) (.p (.aV es)) H=av7 (dr P t1 t2) es H:=by
 unfold ad8 acL abM av7;simp only[isNil];cases dr P t1 t2 with
 |none=>rfl
 |some x=>rfl
theorem awa(cs:List AV):xS cs=(match tq cs with|some ps=>.p (.agg ps)|none=>.agg cs):=rfl
theorem awb:tq []=some []:=rfl
theorem aCu(x:PV)(r:List AV):tq (.p x :: r)=(match tq r with|some ps=>some (x :: ps)|none=>none):=rfl
theorem awc(i v:Nat)(r:List AV):tq (.row i v :: r)=none:=rfl
theorem awd(i v:Nat)(r:List AV):tq (.ptr i v :: r)=none:=rfl
theorem aku(cs:List AV):b5 (.agg cs)=cs:=rfl
theorem aiN(cs:List PV):b5 (.p (.agg cs))=cs.map AV.p:=rfl
theorem akv(v:Value):b5 (.p (.val v))=[.p (.val v)]:=rfl
theorem akw(v:List (List PV)):b5 (.p (.aV v))=[.p (.aV v)]:=rfl
theorem akx(i v:Nat):b5 (.row i v)=[.row i v]:=rfl
theorem aky(i v:Nat):b5 (.ptr i v)=[.ptr i v]:=rfl
theorem arK(v:Value):n9 (.p (.val v))=true:=rfl
theorem arL(v:List (List PV)):n9 (.p (.aV v))=true:=rfl
theorem arM(i v:Nat):n9 (.row i v)=true:=rfl
theorem arN(i v:Nat):n9 (.ptr i v)=true:=rfl
theorem qZ{α:Type}(cs:List α)(off:Nat)(new:List α):splice cs off new=cs.take off++new++cs.drop (off+new.length):=rfl
theorem az9{env:Env}{H:ay}(rs:List ResultVar):avn P env H rs=(match o6 P env H rs with
 |some a=>(match adF H a with
  |some (x,_)=>some x
  |none=>none)
 |none=>none):=rfl
theorem arO{env:Env}{H:ay}(r:ResultVar):o6 P env H [r]=(match aay P env H r with|some a=>some a|none=>none):=by simp only[o6,aka];cases aay P env H r<;>rfl
theorem arP{env:Env}{H:ay}(r s:ResultVar):o6 P env H [r,s]=(match aay P env H r with|some a=>(match aay P env H s with|some b=>some (.dQ [a,b])|none=>none)|none=>none):=by simp only[o6,aka];cases aay P env H r<;>cases aay P env H s<;>rfl
theorem akz{env:Env}{H:ay}(r s t:ResultVar):o6 P env H [r,s,t]=(match aay P env H r with|some a=>(match aay P env H s with|some b=>(match aay P env H t with|some c=>some (.dQ [a,b,c])|none=>none)|none=>none)|none=>none):=by simp only[o6,aka];cases aay P env H r<;>cases aay P env H s<;>cases aay P env H t<;>rfl
theorem awe{env:Env}{H:ay}(t:Tmp):aay P env H (.tmp t)=some (env t):=rfl
def aDu(P:Program)(t:TypeId)(H:ay)(a:AV):Option AV:=match a with
 | .ptr id off=>(match H id with
  |some (.box cs)=>rY P t cs off
  |_=>none)
 |_=>none
theorem arQ{env:Env}{H:ay}(a:Tmp)(t:TypeId):aay P env H (.cell a t)=aDu P t H (env a):=rfl
theorem awf{H:ay}(id off:Nat):aDu P t H (.ptr id off)=(match H id with
  |some (.box cs)=>rY P t cs off
  |_=>none):=rfl
theorem aAa(H:ay)(x:PV):adF H (.p x)=some (x,false):=rfl
theorem arR(H:ay)(id bf:Nat):adF H (.row id bf)=pX H (.row id bf):=rfl
theorem arS(H:ay)(cs:List AV):adF H (.agg cs)=(match ek (oc H) cs with
  |some (ps,b)=>some (.agg ps,b)
  |none=>none):=rfl
theorem arT(H:ay)(cs:List AV):adF H (.dQ cs)=(match ek (gA H) cs with
  |some (ps,b)=>some (.dQ ps,b)
  |none=>none):=rfl
theorem aiO(H:ay)(x:PV):gA H (.p x)=some (x,false):=rfl
theorem arU(H:ay)(id bf:Nat):gA H (.row id bf)=pX H (.row id bf):=rfl
theorem arV(H:ay)(id off:Nat):gA H (.ptr id off)=oc H (.ptr id off):=rfl
theorem arW(H:ay)(cs:List AV):gA H (.agg cs)=(match ek (oc H) cs with
  |some (ps,b)=>some (.agg ps,b)
  |none=>none):=rfl
theorem arX(H:ay)(fn:Fn)(fs cs:List AV):gA H (.iw fn fs cs)=(match ek (oc H) fs,ek (oc H) cs with
  |some (f,b),some (c,d)=>some (.iw fn f c,b||d)
  |_,_=>none):=rfl
theorem aAb(H:ay)(x:PV):oc H (.p x)=some (x,false):=rfl
theorem arY(H:ay)(id bf:Nat):oc H (.row id bf)=pX H (.row id bf):=rfl
theorem arZ(H:ay)(id off:Nat):oc H (.ptr id off)=(match H id with
  |some (.box cs)=>(match ek (aaF H) cs with
   |some (ps,_)=>some (.dU ps off,true)
   |none=>none)
  |_=>none):=rfl
theorem ar0(H:ay)(id off:Nat):aaF H (.ptr id off)=(match H id with
  |some (.box cs)=>(match ek (pX H) cs with
   |some (ps,_)=>some (.dU ps off,true)
   |none=>none)
  |_=>none):=rfl
theorem aAc(H:ay)(x:PV):aaF H (.p x)=some (x,false):=rfl
theorem ar1(H:ay)(id bf:Nat):pX H (.row id bf)=(match H id with
  |some (.row v _ _ es)=>if v=bf then some (.aV es,true) else none
  |some (.shut v es)=>if v=bf then some (.aV es,false) else none
  |_=>none):=rfl
theorem ar2(f:AV->Option (PV×Bool)):ek f []=some ([],false):=rfl
theorem anL(f:AV->Option (PV×Bool))(a:AV)(r:List AV):ek f (a :: r)=(match f a,ek f r with
  |some (x,b),some (xs,c)=>some (x :: xs,b||c)
  |_,_=>none):=rfl
theorem awg(fn:Fn)(fs cs:List AV):ajZ fn fs cs=(match tq fs,tq cs with
 |some f,some c=>.p (.iw fn f c)
 |_,_=>.iw fn fs cs):=rfl
end
attribute [go_sem] azS arq azT aCo azU avx azV azW aCp akk ars avy agA akl anq anr akm avz art avo ard anh ake ani anj ank anl arf arh akf akg akh avp avq ann avr avs avt anp avu aki arj avv akj aiJ ark arl arn aiK avw agy agz anC anD av3 aeT rR aeU aeV aCq aCr azX aru avA azY avB avC avD avE avF avG aCd azK avH avI avJ avK avL avM avN avO avP avQ avR arv avS az2 ant ako anu anv anw arx akp anx avU avV az3 az4 az5 az6 akq anz akr anA ary anB arz avW avX avY avZ av0 arA av1 av2 aDr av4 anE arB anF arC anG anH agB agC anI anJ arD arE az7 av6 anK arF aks arG arH arw avT azZ az0 az1 ans aDp aDq Option.isNone_none Option.isNone_some arI akt arJ av8 av9 awa awb aCu awc awd aku aiN akv akw akx aky arK arL arM arN qZ az9 arO arP akz awe arQ awf aAa arR arS arT aiO arU arV arW arX aAb arY arZ aAc ar0 ar1 ar2 anL awg
attribute [go_sem] true_and and_true if_true if_false ite_true ite_false not_true_eq_false not_false_eq_true Bool.not_true Bool.not_false Bool.false_eq_true ne_eq Option.bind_some Option.bind_none Option.map_some Option.map_none List.map_cons List.map_nil List.length_cons List.length_nil List.drop_zero List.drop_succ_cons List.take_zero List.take_succ_cons List.cons_append List.nil_append List.append_nil List.drop_nil List.take_nil Nat.zero_add Nat.add_zero AV.p.injEq PV.val.injEq PV.aV.injEq PV.dQ.injEq PV.agg.injEq Value.int.injEq Value.bool.injEq Value.string.injEq cA List.cons.injEq List.mem_cons List.not_mem_nil forall_eq_or_imp forall_eq or_false false_or and_self List.getElem?_toArray List.getElem?_cons_zero List.getElem?_cons_succ List.all_cons List.all_nil Bool.and_true Bool.true_and Bool.and_self Bool.or_false Bool.false_or Bool.false_and Bool.and_false Bool.or_true Bool.true_or beq_self_eq_true List.length_map List.length_append Int.ofNat_lt Int.natCast_nonneg Int.toNat_natCast List.append_assoc
variable{P:Program}{I:Mem}{L:bA}
mutual
def o7(H:ay):AV->Prop
 | .p _=>True
 | .row id _=>H id≠none
 | .ptr id _=>H id≠none
 | .jm id _ _ _=>H id≠none
 | .agg cs=>mT H cs
 | .dQ cs=>mT H cs
 | .iw _ fs cs=>mT H fs/\mT H cs
 | .eG id _=>H id≠none
 | .kC id _ _ _=>H id≠none
 | .kD id _ _=>H id≠none
 | .ng id _ _ _ _=>H id≠none
 | .bsl id _=>H id≠none
 | .iA id _ _ _ _ _=>H id≠none
 | .dead=>True
def mT(H:ay):List AV->Prop
 | []=>True
 |a :: r=>o7 H a/\mT H r
end
theorem od{H:ay} : ∀ {cs:List AV},mT H cs->∀ (j:Nat) c,cs[j]? = some c->o7 H c
 | [],_,j,c,h=>by simp at h
 |a :: r,h,j,c,hc=>by
  cases j with
  |zero=>simp at hc;subst hc;exact h.1
  |succ j=>exact od h.2 j c (by simpa using hc)
def bA.to(L:bA)(H:ay):bA:=λid=>match H id with
 |some _=>L id
 |none=>none
theorem lK{H:ay}{id:Nat}(h:H id≠none):L.to H id=L id:=by
 unfold bA.to;cases hH:H id with
 |none=>exact absurd hH h
 |some c=>rfl
theorem to_eq{H:ay}{id:Nat}{l:Loc}(h:L.to H id=some l):L id=some l/\∃c,H id=some c:=by
 unfold bA.to at h;cases hH:H id with
 |none=>simp[hH] at h
 |some c=>simp[hH] at h;exact⟨h,c,rfl⟩
theorem eo.to{u:Value}{a:AV}(h:eo I L u a){H:ay} : o7 H a->eo I (L.to H) u a:=by
 induction h with
 |p u x h=>exact λ_=>.p u x h
 |row u id bf v bH sz hl hle h h1=>exact λhi=>.row u id bf v bH sz ((lK hi).trans hl) hle h h1
 |ptr id b off hl=>exact λhi=>.ptr id b off ((lK hi).trans hl)
 |jm u id bf v i off bH sz hl hle h h1=>exact λhi=>.jm u id bf v i off bH sz ((lK hi).trans hl) hle h h1
 |agg us cs hl _ hone ih=>exact λhi=>.agg us cs hl (λj u c hu hc=>ih j u c hu hc (od hi j c hc)) hone
 |dQ us cs hl _ ih=>exact λhi=>.dQ us cs hl (λj u c hu hc=>ih j u c hu hc (od hi j c hc))
 |iw fn us vs fs cs hl hl' _ _ ih ih'=>exact λhi=>.iw fn us vs fs cs hl hl' (λj u c hu hc=>ih j u c hu hc (od hi.1 j c hc)) (λj u c hu hc=>ih' j u c hu hc (od hi.2 j c hc))
 |eG u id bf v bH sz sz' di n hl hle h h1=>exact λhi=>.eG u id bf v bH sz sz' di n ((lK hi).trans hl) hle h h1
 |kC u id bf v i off bH sz sz' di n hl hle h h1=>exact λhi=>.kC u id bf v i off bH sz sz' di n ((lK hi).trans hl) hle h h1
 |kD u id bf v i bH sz sz' di n hl hle h h1=>exact λhi=>.kD u id bf v i bH sz sz' di n ((lK hi).trans hl) hle h h1
 |ng u id bf v i j off bH sz sz' di n hl hle h h1=>exact λhi=>.ng u id bf v i j off bH sz sz' di n ((lK hi).trans hl) hle h h1
 |bsl id b n hl=>exact λhi=>.bsl id b n ((lK hi).trans hl)
 |iA a id bf v off n m c bH sz hl hle hn hm hz h=>exact λhi=>.iA a id bf v off n m c bH sz ((lK hi).trans hl) hle hn hm hz h
 |dead u=>exact λ_=>.dead u
def aeW(e' e:Env):Prop:=∀t,e' t = .dead\/e' t=e t
def acV(e:Env)(H:ay):Prop:=∀t,o7 H (e t)
def qj(H' H:ay):Prop:=∀id cs,H' id=some (.box cs)->mT H cs
theorem awh(e:Env):aeW fT e:=λ_=>.inl rfl
theorem aAd{e' e:Env}{d:Nat}{v:AV}(h:aeW e' e)(hv:e d=v):aeW (cE e' d v) e:=λt=>by
 unfold cE;split
 ·rename_i ht;subst ht;exact .inr hv.symm
 ·exact h t
theorem aDv(H:ay):HSub cm H:=λ_ _ h=>by cases h
theorem ar3{H' H:ay}{id:Nat}{c:Chunk}(h:HSub H' H)(hc:H id=some c):HSub (bk H' id c) H:=λi c' hi=>by
 unfold bk at hi;split at hi
 ·rename_i hid;subst hid;simp at hi;subst hi;exact hc
 ·exact h i c' hi
theorem awi(H:ay):acV fT H:=λ_=>trivial
theorem aAe{e:Env}{H:ay}{d:Nat}{v:AV}(h:acV e H)(hv:o7 H v):acV (cE e d v) H:=λt=>by
 unfold cE;split
 ·exact hv
 ·exact h t
theorem aAf(H:ay):qj cm H:=λ_ _ h=>by cases h
theorem anM{H' H:ay}{id:Nat}{cs:List AV}(h:qj H' H)(hc:mT H cs):qj (bk H' id (.box cs)) H:=λi c' hi=>by
 unfold bk at hi;split at hi
 ·simp at hi;subst hi;exact hc
 ·exact h i c' hi
theorem anN{H' H:ay}{id v:Nat}{e:TypeId}{sz:Nat}{es:List (List PV)}(h:qj H' H):qj (bk H' id (.row v e sz es)) H:=λi c' hi=>by
 unfold bk at hi;split at hi
 ·simp at hi
 ·exact h i c' hi
theorem akA{H' H:ay}{id v:Nat}{es:List (List PV)}(h:qj H' H):qj (bk H' id (.shut v es)) H:=λi c' hi=>by
 unfold bk at hi;split at hi
 ·simp at hi
 ·exact h i c' hi
def lS(H H':ay):Prop:=∀i,1000000<=i->H i≠none->H' i≠none
theorem aBO(H':ay):lS cm H':=λ_ _ h=>absurd rfl h
theorem akB{H H':ay}{i:Nat}{c:Chunk}(hi:i<1000000)(h:lS H H'):lS (bk H i c) H':=λj hj hn=>by refine h j hj ?_;unfold bk at hn;rw[if_neg (by omega)] at hn;exact hn
theorem ar4{H H':ay}{i:Nat}{c:Chunk}(hi:H' i≠none)(h:lS H H'):lS (bk H i c) H':=λj hj hn=>by
 by_cases e:j=i
 ·rw[e];exact hi
 ·refine h j hj ?_;unfold bk at hn;rw[if_neg e] at hn;exact hn
theorem aAg{e e':Env}{H H':ay}(h1:aeW e' e)(h2:HSub H' H)(h3:acV e' H')(h4:qj H' H')(h5:lS H H'):cU e H e' H':=λC I L tm w hs=>by
 refine⟨I,L.to H',?_⟩;exact
 {below:=hs.below
  mem:=hs.mem
  kP:=hs.kP
  lQ:=hs.lQ
  frame:=hs.frame
  loc:=λi=>by
   cases hi:C.L0 i with
   |none=>trivial
   |some l0 =>
    have h0:=hs.loc i;rw[hi] at h0;have hL:L i≠none:=by
     cases l0 with
     |box b=>intro e;rw[e] at h0;cases h0
     |row v bH sz=>obtain⟨_,_,h0,_⟩:=h0;intro e;rw[e] at h0;cases h0
     |deep v bH sz sz' di n=>obtain⟨_,_,_,_,h0,_⟩:=h0;intro e;rw[e] at h0;cases h0
    have hH:H i≠none:=by
     cases hLi:L i with
     |none=>exact absurd hLi hL
     |some l=>obtain⟨c,hc⟩:=hs.dom i l hLi;rw[hc];simp
    have e:=lK (L:=L) (h5 i (C.hL0 i l0 hi) hH);rw[e];exact h0
  jB:=λid l b hl hb=>hs.jB id l b (to_eq hl).1 hb
  size:=hs.size
  env:=λt=>by
   rcases h1 t with h|h
   ·rw[h];exact .dead _
   ·have:=hs.env t;rw[<-h] at this;exact this.to (h3 t)
  dom:=λid l hl=>(to_eq hl).2
  chunk:=λid ch hch=>by
   have hc:=hs.chunk id ch (h2 id ch hch);have hid:L.to H' id=L id:=lK (by rw[hch];simp);cases ch with
   |box cs=>obtain⟨b,arr,e,g1,g2,g3,g4,g5,g6⟩:=hc;exact⟨b,arr,e,hid.trans g1,g2,g3,λj u c hu hc=>(g4 j u c hu hc).to (od (h4 id cs hch) j c hc),g5,g6⟩
   |row bf e sz es=>obtain⟨bH,us,g1,g2⟩:=hc;exact⟨bH,us,hid.trans g1,g2⟩
   |shut bf es=>obtain⟨bH,sz,g1,g2⟩:=hc;exact⟨bH,sz,hid.trans g1,g2⟩
   |tail bf e sz es=>obtain⟨g,o,cap,arr,g1,g2⟩:=hc;exact⟨g,o,cap,arr,hid.trans g1,g2⟩
   |deep bf e sz k e' sz' es=>obtain⟨bH,us,di,g1,g2⟩:=hc;exact⟨bH,us,di,hid.trans g1,g2⟩
  fK:=λid l b hl hb=>hs.fK id l b (to_eq hl).1 hb
  apart:=λi j li lj b hi hj qX uR=>hs.apart i j li lj b (to_eq hi).1 (to_eq hj).1 qX uR }
theorem iF{e:Env}{H:ay}(t id:Nat)(ty:TypeId)(sz:Nat)(ht:e t = .p (.val (.slice none 0 0)))(hid:H id=none)(hsz:0<sz) :
  cU e H (cE e t (.row id 0)) (bk H id (.row 0 ty sz [])):=λC I L tm w hs=>by
 obtain⟨n1,n2,n3⟩:=aiC hs hid ty hsz;have hs':=n2 e tm hs;refine⟨I,_,{ hs' with env:=λi=>?_ }⟩;unfold cE;split
 ·rename_i hi;subst hi;have:=hs.env i;rw[ht] at this;rw[this.eC.1];exact n1
 ·exact hs'.env i
theorem bT{e:Env}{H:ay}(b off id:Nat)(ty:TypeId)(sz:Nat)(cs:List AV)(hb:H b=some (.box cs))(ho:cs[off]? = some (.p (.val (.slice none 0 0))))(hid:H id=none)(hsz:0<sz) :
  cU e H e (bk (bk H id (.row 0 ty sz [])) b (.box (cs.set off (.row id 0)))):=λC I L tm w hs=>by
 obtain⟨n1,n2,n3⟩:=aiC hs hid ty hsz;have hs':=n2 e tm hs;have hne:b≠id:=λh=>by rw[h,hid] at hb;cases hb
 obtain⟨blk,arr,et,g1,g2,g3,g4,g5,g6⟩:=hs.chunk b _ hb;refine⟨I,_,{ hs' with dom:=λi l hl=>?_,chunk:=λi ch hch=>?_ }⟩
 ·obtain⟨c,hc⟩:=hs'.dom i l hl;by_cases hi:i=b
  ·exact⟨.box (cs.set off (.row id 0)),by unfold bk;rw[if_pos hi]⟩
  ·exact⟨c,by unfold bk at hc ⊢;rw[if_neg hi];exact hc⟩
 ·by_cases hi:i=b
  ·subst hi;have:Chunk.box (cs.set off (.row id 0))=ch:=by simpa[bk] using hch
   subst this;refine⟨blk,arr,et,by simp[ck,hne,g1],g2,by simpa using g3,λj u c hu hc=>?_,g5,g6⟩;rw[List.getElem?_set] at hc;split at hc
   ·rename_i hj;subst hj;split at hc
    ·simp at hc;subst hc;have:=g4 off u _ hu ho;rw[this.eC.1];exact n1
    ·cases hc
   ·exact (g4 j u c hu hc).mono (Mem.dV I) n3
  ·exact hs'.chunk i ch (by unfold bk at hch ⊢;rw[if_neg hi] at hch;exact hch)
section
variable{N:Nat}{own:List Nat}{σ:Type}
def awj(inv:σ->Env)(jS:σ->ay)(φ:σ->Prop)(μ:σ->Nat)(x:σ)(env:Env)(H:ay):Prop:=∃y,φ y/\μ y<μ x/\cU env H (inv y) (jS y)
def akC(inv:σ->Env)(jS:σ->ay)(φ:σ->Prop)(μ:σ->Nat)(x:σ)(K:qi):qi:=λe env H=>match e with
 | .normal=>awj inv jS φ μ x env H
 |e=>K e env H
theorem aiP{inv:σ->Env}{jS:σ->ay}{φ:σ->Prop}{μ:σ->Nat}{x:σ}{K:qi}{env:Env}{H:ay} : akC inv jS φ μ x K .normal env H=awj inv jS φ μ x env H:=rfl
theorem anO{inv:σ->Env}{jS:σ->ay}{φ:σ->Prop}{μ:σ->Nat}{x:σ}{K:qi}{env:Env}{H:ay}{id:Nat} : akC inv jS φ μ x K (.exit id) env H=K (.exit id) env H:=rfl
theorem ar5{inv:σ->Env}{jS:σ->ay}{φ:σ->Prop}{μ:σ->Nat}{x:σ}{K:qi}{env:Env}{H:ay} : akC inv jS φ μ x K .ret env H=K .ret env H:=rfl
theorem bL{c:Code}{K:qi}{env:Env}{H:ay}(inv:σ->Env)(jS:σ->ay)(φ:σ->Prop)(μ:σ->Nat)(x0:σ)(h0:φ x0)(hw:cU env H (inv x0) (jS x0))
  (hr:∀x,φ x->cw P N own c (akC inv jS φ μ x K) (inv x) (jS x)):aaK P N own c K env H:=by
 refine⟨λn e H=>∃x,φ x/\μ x=n/\e=inv x/\H=jS x,⟨μ x0,_,_,⟨x0,h0,rfl,rfl,rfl⟩,hw⟩,?_⟩;rintro n e H ⟨x,hx,rfl,rfl,rfl⟩
 have hk : (akC inv jS φ μ x K) = (fun z e' H' => match z with
   | .normal=>∃m e2 H2,m<μ x/\(∃x,φ x/\μ x=m/\e2=inv x/\H2=jS x)/\cU e' H' e2 H2
   |z=>K z e' H'):=by
  funext z e' H';cases z<;>try rfl
  apply propext;constructor
  ·rintro⟨y,h1,h2,h3⟩;exact⟨μ y,_,_,h2,⟨y,h1,rfl,rfl,rfl⟩,h3⟩
  ·rintro⟨m,e2,H2,h1,⟨y,h2,rfl,rfl,rfl⟩,h3⟩;exact⟨y,h2,h1,h3⟩
 have:=hr x hx;rw[hk] at this;exact this
theorem bM{inv:σ->Env}{jS:σ->ay}{φ:σ->Prop}{μ:σ->Nat}{x:σ}{env:Env}{H:ay}(y:σ)(h1:φ y)(h2:μ y<μ x)(h3:cU env H (inv y) (jS y)):awj inv jS φ μ x env H:=⟨y,h1,h2,h3⟩
end
attribute [go_sem] aiP anO ar5
end Go.cr
namespace Go.cr
open Go.RowKit
variable{P:Program}{o:Oper}{ρ ρ':Operand->AV}
theorem qk{l:List (Nat×Operand)}(h:∀x∈l.map (·.2),ρ x=ρ' x):(l.map λx=>(x.1,ρ x.2))=l.map λx=>(x.1,ρ' x.2):=by apply List.map_congr_left;intro x hx;rw[h x.2 (List.mem_map.2 ⟨x,hx,rfl⟩)]
theorem aha(h:∀x∈o.op.operands,ρ x=ρ' x):oa P o ρ=oa P o ρ':=by
 unfold oa;cases hop:o.op<;>simp only[hop,Op.operands] at h ⊢
 case build t ps=>rw[qk (l:=ps.toList) (λx hx=>h x (by simpa using hx))]
 case buildSlice t n ps=>rw[qk (l:=ps.toList) (λx hx=>h x (by simpa using hx))]
 case makeFunc fn f c =>
  have h1:f.toList.map ρ=f.toList.map ρ':=List.map_congr_left λx hx=>h x (by simp at hx;simp[hx])
  have h2:c.toList.map ρ=c.toList.map ρ':=List.map_congr_left λx hx=>h x (by simp at hx;simp[hx])
  rw[h1,h2]
 case slice t x lo hi mx =>
  rw[h x (by simp)];have h1:lo.map ρ=lo.map ρ':=by
   cases lo with
   |none=>rfl
   |some y=>simp[h y (by simp)]
  have h2:hi.map ρ=hi.map ρ':=by
   cases hi with
   |none=>rfl
   |some y=>simp[h y (by simp)]
  have h3:mx.map ρ=mx.map ρ':=by
   cases mx with
   |none=>rfl
   |some y=>simp[h y (by simp)]
  rw[h1,h2,h3]
 case call c =>
  have h1:c.args.toList.map ρ=c.args.toList.map ρ':=List.map_congr_left λx hx=>h x (by simp at hx;simp[Call.operands,hx])
  rw[h1]
 all_goals first
  |rfl
  |(simp at h;simp[h])
theorem anP{H:ay}(h:∀x∈o.op.operands,ρ x=ρ' x):mQ P o ρ H=mQ P o ρ' H:=by
 unfold mQ;cases hop:o.op<;>simp only[hop,Op.operands] at h ⊢
 case call c =>
  have h1:c.args.toList.map ρ=c.args.toList.map ρ':=List.map_congr_left λx hx=>h x (by simp at hx;simp[Call.operands,hx])
  rw[h1]
 all_goals first
  |rfl
  |(simp at h;simp[h])
theorem ar6{H:ay}(h:∀x∈o.op.operands,ρ x=ρ' x):wZ P o ρ H=wZ P o ρ' H:=by
 unfold wZ;cases hop:o.op<;>simp only[hop,Op.operands] at h ⊢
 case call c =>
  have h1:c.args.toList.map ρ=c.args.toList.map ρ':=List.map_congr_left λx hx=>h x (by simp at hx;simp[Call.operands,hx])
  rw[h1]
 all_goals first
  |rfl
  |(simp at h;simp[h])
theorem ar7{H:ay}(h:∀x∈o.op.operands,ρ x=ρ' x):yp P o ρ H=yp P o ρ' H:=by
 unfold yp;cases hop:o.op<;>simp only[hop,Op.operands] at h ⊢
 case indexAddr t x i=>rw[h x (by simp),h i (by simp)]
theorem ar8{H:ay}(h:∀x∈o.op.operands,ρ x=ρ' x):rP P o ρ H=rP P o ρ' H:=by unfold rP;rw[anP h,ar6 h,ar7 h]
theorem ar9{H:ay}(h:∀x∈o.op.operands,ρ x=ρ' x):wo P o ρ H=wo P o ρ' H:=by
 unfold wo;cases hop:o.op<;>simp only[hop,Op.operands] at h ⊢
 case call c =>
  have h1:c.args.toList.map ρ=c.args.toList.map ρ':=List.map_congr_left λx hx=>h x (by simp at hx;simp[Call.operands,hx])
  rw[h1]
 all_goals first
  |rfl
  |(simp at h;simp[h])
theorem asa{H:ay}(h:∀x∈o.op.operands,ρ x=ρ' x):xb P o ρ H=xb P o ρ' H:=by
 unfold xb;cases hop:o.op<;>simp only[hop,Op.operands] at h ⊢
 case buildSlice t n ps=>rw[qk (l:=ps.toList) (λx hx=>h x (by simpa using hx))]
theorem asb{H:ay}{d:Nat}(h:∀x∈o.op.operands,ρ x=ρ' x):exN P o ρ H d=exN P o ρ' H d:=by
 unfold exN;cases H d with
 |some _=>rfl
 |none =>
  simp only[];cases hop:o.op<;>simp only[hop,Op.operands] at h ⊢
  case buildSlice t n ps=>rw[qk (l:=ps.toList) (λx hx=>h x (by simpa using hx))]
  case call c =>
   have h1:c.args.toList.map ρ=c.args.toList.map ρ':=List.map_congr_left λx hx=>h x (by simp at hx;simp[Call.operands,hx])
   rw[h1]
  all_goals(simp at h;simp[h])
theorem aai{H:ay}(h:∀x∈o.op.operands,ρ x=ρ' x):gi P o ρ H=gi P o ρ' H:=by unfold gi;rw[aha h,ar8 h,ar9 h,asa h]
theorem vj{own:List Nat}{H:ay}(h:∀x∈o.op.operands,ρ x=ρ' x):fW P own o ρ H=fW P own o ρ' H:=by
 unfold fW;rw[aai h];cases o.dst with
 |none=>rfl
 |some d=>simp only[asb h]
theorem yQ(h:∀x∈o.op.operands,ρ x=ρ' x):dH o ρ=dH o ρ':=by
 unfold dH;cases hop:o.op<;>simp only[hop,Op.operands] at h ⊢
 case call c =>
  have h1:c.args.toList.map ρ=c.args.toList.map ρ':=List.map_congr_left λx hx=>h x (by simp at hx;simp[Call.operands,hx])
  rw[h1];cases hc:c.callee with
  |value f=>have:ρ f=ρ' f:=h f (by simp[Call.operands,hc]);simp only[this]
  |_=>rfl
theorem vk{H:ay}{x:PV}(h:∀x∈o.op.operands,ρ x=ρ' x)(hc:yN P o ρ H x):yN P o ρ' H x:=by obtain⟨k,eL,ps,b,h1,h2⟩:=hc;exact⟨k,eL,ps,b,(yQ h) ▸ h1,h2⟩
def bO(own:List Nat)(o:Oper):Bool:=(match o.dst with
 |some d=>!own.contains d
 |none=>true)&&match o.op with
 | .store .. | .alloc _ | .box .. | .buildSlice ..=>false
 | .call c=>match c.callee with
  | .builtin .append=>false
  |_=>true
 |_=>true
def ug(own:List Nat)(o:Oper):Bool:=(match o.dst with
 |some d=>!own.contains d
 |none=>true)&&match o.op with
 | .move _ | .assign _ | .pick .. | .extract .. | .binOp .. | .unOp .. | .convert .. | .makeFunc .. | .build .. | .index .. | .slice .. | .nilCheck _=>true
 |_=>false
theorem jY{own:List Nat}{H:ay}(h:(match o.dst with
 |some d=>!own.contains d
 |none=>true)=true):fW P own o ρ H=gi P o ρ H:=by
 unfold fW;cases hd:o.dst with
 |none=>rfl
 |some d =>
  rw[hd] at h;have:own.contains d=false:=by simpa using h
  simp only[this];try rfl
theorem si{own:List Nat}{H H':ay}{pre:Prop}{v:AV}(hq:bO own o=true)(h:fW P own o ρ H=some (pre,v,H')):H'=H:=by
 unfold bO at hq;rw[Bool.and_eq_true] at hq;rw[jY hq.1] at h;have hk:=hq.2;unfold gi at h;split at h
 ·simp at h;exact h.2.2.symm
 ·split at h
  ·simp at h;exact h.2.2.symm
  ·exfalso;have hw:wo P o ρ H=none:=by
    unfold wo;cases hop:o.op<;>simp only[hop] at hk ⊢<;>try (cases hk;done)
    case call c =>
     cases hc:c.callee with
     |builtin b=>rw[hc] at hk;cases b<;>first|rfl|cases hk
     |_=>rfl
   have hs:xb P o ρ H=none:=by
    unfold xb;cases hop:o.op<;>simp only[hop] at hk ⊢
    cases hk
   rw[hw,hs] at h;cases h
theorem akD{own:List Nat}{H:ay}(hq:ug own o=true):gi P o ρ H=match oa P o ρ with
  |some (pre,v)=>some (pre,v,H)
  |none=>none:=by
 unfold ug at hq;rw[Bool.and_eq_true] at hq;have hk:=hq.2;unfold gi;cases hp:oa P o ρ with
 |some r=>rfl
 |none =>
  have h1:rP P o ρ H=none:=by unfold rP mQ wZ yp;cases hop:o.op<;>simp only[hop] at hk ⊢<;>cases hk
  have h2:wo P o ρ H=none:=by unfold wo;cases hop:o.op<;>simp only[hop] at hk ⊢<;>cases hk
  have h3:xb P o ρ H=none:=by unfold xb;cases hop:o.op<;>simp only[hop] at hk ⊢<;>cases hk
  rw[h1,h2,h3]
theorem aeX{own:List Nat}{H:ay}(hq:ug own o=true):fW P own o ρ H=match oa P o ρ with
  |some (pre,v)=>some (pre,v,H)
  |none=>none:=by
 have hq':=hq;unfold ug at hq;rw[Bool.and_eq_true] at hq;rw[jY hq.1];exact akD hq'
theorem ahb{own:List Nat}(hq:ug own o=true):dH o ρ=none:=by
 unfold ug at hq;rw[Bool.and_eq_true] at hq;have hk:=hq.2;unfold dH;cases hop:o.op<;>simp only[hop] at hk ⊢
 cases hk
def mU(o:Oper):Bool:=match o.op with
 | .alloc _ | .box ..=>false
 |_=>true
theorem aaL:∀ids,dc ids cm=cm
 | []=>rfl
 |_ :: r=>aaL r
theorem asc{pre:Prop}{v:AV}{H':ay}(hn:mU o=true)(h:gi P o ρ cm=some (pre,v,H')):oa P o ρ=some (pre,v):=by
 unfold gi at h;split at h
 ·rename_i hp;simp only[cA,iz] at h;obtain⟨rfl,rfl,_⟩:=h;exact hp
 ·rename_i hp;exfalso;have h0:mQ P o ρ cm=none:=by
   unfold mQ;cases hop:o.op<;>simp only[]
   case load t a=>cases ρ a<;>rfl
   case fieldAddr s a k=>cases ρ a<;>cases bS P s k<;>rfl
   case indexAddr t x i =>
    cases ρ x<;>try rfl
    cases ρ i<;>try rfl
    rename_i x;cases x<;>try rfl
    rename_i z;cases z<;>rfl
   case call c =>
    split
    ·rfl
    ·rfl
  have hD:wZ P o ρ cm=none:=by
   unfold wZ;cases hop:o.op<;>simp only[]
   case load t a=>cases ρ a<;>rfl
   case fieldAddr s a k=>cases ρ a<;>cases bS P s k<;>rfl
   case indexAddr t x i =>
    cases ρ x<;>try rfl
    all_goals
     cases ρ i<;>try rfl
     rename_i x;cases x<;>try rfl
     rename_i z;cases z<;>rfl
   case call c=>split<;>rfl
  have hE:yp P o ρ cm=none:=by
   unfold yp;cases hop:o.op<;>simp only[]
   case indexAddr t x i =>
    cases ρ x<;>try rfl
    cases ρ i<;>try rfl
    rename_i x;cases x<;>try rfl
    rename_i z;cases z<;>rfl
  have h1:rP P o ρ cm=none:=by unfold rP;rw[h0,hD,hE]
  have h2:wo P o ρ cm=none:=by
   unfold wo;cases hop:o.op<;>simp only[mU,hop] at hn ⊢<;>try (cases hn;done)
   case store t a x =>
    cases bu P t with
    |none=>rfl
    |some n =>
     simp only[];split
     ·cases ρ a<;>simp only[cm]
     ·rfl
   case call c =>
    split
    ·rename_i t1 t2 a b _ _ _;unfold abM;cases a<;>try rfl
     cases dr P t1 t2<;>rfl
    ·rfl
  have h3:xb P o ρ cm=none:=by
   unfold xb;cases hop:o.op<;>simp only[]
   case buildSlice t n ps =>
    rw[aaL];have:((ps.toList.map λx=>(x.1,ρ x.2)).map λx=>(x.1,xT cm x.2))=ps.toList.map λx=>(x.1,ρ x.2):=by rw[List.map_map];apply List.map_congr_left;intro x _;have:xT cm (ρ x.2)=ρ x.2:=aj6 _;simp[this]
    rw[this];unfold oa at hp;simp only[hop] at hp;cases hb:lJ P t n (ps.toList.map λx=>(x.1,ρ x.2)) with
    |none=>rfl
    |some r=>obtain⟨e,es⟩:=r;rw[hb] at hp;cases n<;>simp at hp
  rw[h1,h2,h3] at h;cases h
theorem acW{own:List Nat}{H:ay}(hq:bO own o=true):gi P o ρ H=match oa P o ρ with
  |some (pre,v)=>some (pre,v,H)
  |none=>(match rP P o ρ H with
   |some (pre,v)=>some (pre,v,H)
   |none=>none):=by
 unfold bO at hq;rw[Bool.and_eq_true] at hq;have hk:=hq.2;unfold gi;cases hp:oa P o ρ with
 |some r=>rfl
 |none =>
  cases hx:rP P o ρ H with
  |some r=>rfl
  |none =>
   have hw:wo P o ρ H=none:=by
    unfold wo;cases hop:o.op<;>simp only[hop] at hk ⊢<;>try (cases hk;done)
    case call c =>
     cases hc:c.callee with
     |builtin b=>rw[hc] at hk;cases b<;>first|rfl|cases hk
     |_=>rfl
   have hs:xb P o ρ H=none:=by
    unfold xb;cases hop:o.op<;>simp only[hop] at hk ⊢
    cases hk
   rw[hw,hs]
theorem aaj{H H':ay}(h:HSub H H'){id bf:Nat}{es:List (List PV)}(hr:rowOf H id bf=some es):rowOf H' id bf=some es:=by
 unfold rowOf at hr ⊢;cases hH:H id with
 |none=>rw[hH] at hr;cases hr
 |some c=>rw[h id c hH];rw[hH] at hr;exact hr
theorem awk{H H':ay}(h:HSub H H'){r:Prop×AV}(hx:mQ P o ρ H=some r):mQ P o ρ H'=some r:=by
 unfold mQ at hx ⊢;cases hop:o.op<;>simp only[hop] at hx ⊢<;>try (cases hx;done)
 case load t a =>
  cases ha:ρ a<;>simp only[ha] at hx ⊢<;>try (cases hx;done)
  case ptr id off =>
   cases hH:H id with
   |none=>rw[hH] at hx;cases hx
   |some c=>rw[h id c hH];rw[hH] at hx;exact hx
  case jm id bf i off =>
   cases hr:rowOf H id bf with
   |none=>rw[hr] at hx;cases hx
   |some es=>rw[aaj h hr];rw[hr] at hx;exact hx
 case fieldAddr s a k =>
  cases ha:ρ a<;>simp only[ha] at hx ⊢<;>try (cases hx;done)
  case jm id bf i off =>
   cases hf:bS P s k with
   |none=>rw[hf] at hx;cases hx
   |some f =>
    rw[hf] at hx;cases hr:rowOf H id bf with
    |none=>simp only[hr] at hx;cases hx
    |some es=>simp only[aaj h hr];simp only[hr] at hx;exact hx
 case indexAddr t x i =>
  split at hx
  ·rename_i id bf k n hx1 hx2;cases hr:rowOf H id bf with
   |none=>rw[hr] at hx;cases hx
   |some es=>rw[aaj h hr];rw[hr] at hx;exact hx
  ·cases hx
 case call c =>
  split at hx
  ·rename_i t id bf h1 h2 h3;cases hr:rowOf H id bf with
   |none=>rw[hr] at hx;cases hx
   |some es=>rw[aaj h hr];rw[hr] at hx;exact hx
  ·cases hx
theorem ri{H H':ay}(h:HSub H H'){id bf:Nat}{r:Nat×List (List PV)}(hr:cI H id bf=some r):cI H' id bf=some r:=by
 unfold cI at hr ⊢;cases hH:H id with
 |none=>rw[hH] at hr;cases hr
 |some c=>rw[h id c hH];rw[hH] at hr;exact hr
theorem aak{H H':ay}(h:HSub H H'){id bf i:Nat}{l:List (List PV)}(hr:nh (cI H id bf) i=some l):nh (cI H' id bf) i=some l:=by
 cases hd:cI H id bf with
 |none=>rw[hd] at hr;cases hr
 |some r=>rw[ri h hd,<-hd];exact hr
theorem aAh{H H':ay}(h:HSub H H'){r:Prop×AV}(hx:wZ P o ρ H=some r):wZ P o ρ H'=some r:=by
 unfold wZ at hx ⊢;cases hop:o.op<;>simp only[hop] at hx ⊢<;>try (cases hx;done)
 case load t a =>
  cases ha:ρ a<;>simp only[ha] at hx ⊢<;>try (cases hx;done)
  case kC id bf i off =>
   cases hr:cI H id bf with
   |none=>rw[hr] at hx;cases hx
   |some c=>rw[ri h hr];rw[hr] at hx;exact hx
  case ng id bf i j off =>
   cases hr:nh (cI H id bf) i with
   |none=>rw[hr] at hx;cases hx
   |some es=>rw[aak h hr];rw[hr] at hx;exact hx
 case fieldAddr s a k =>
  cases ha:ρ a<;>simp only[ha] at hx ⊢<;>try (cases hx;done)
  case kC id bf i off =>
   cases hf:bS P s k with
   |none=>rw[hf] at hx;cases hx
   |some f =>
    rw[hf] at hx;cases hr:cI H id bf with
    |none=>simp only[hr] at hx;cases hx
    |some es=>simp only[ri h hr];simp only[hr] at hx;exact hx
 case indexAddr t x i =>
  split at hx
  ·rename_i id bf k n hx1 hx2;cases hr:cI H id bf with
   |none=>rw[hr] at hx;cases hx
   |some es=>rw[ri h hr];rw[hr] at hx;exact hx
  ·rename_i id bf ii k n hx1 hx2;cases hr:nh (cI H id bf) ii with
   |none=>rw[hr] at hx;cases hx
   |some es=>rw[aak h hr];rw[hr] at hx;exact hx
  ·cases hx
 case call c =>
  split at hx
  ·rename_i t id bf h1 h2 h3;cases hr:cI H id bf with
   |none=>rw[hr] at hx;cases hx
   |some es=>rw[ri h hr];rw[hr] at hx;exact hx
  ·rename_i t id bf ii h1 h2 h3;cases hr:nh (cI H id bf) ii with
   |none=>rw[hr] at hx;cases hx
   |some es=>rw[aak h hr];rw[hr] at hx;exact hx
  ·cases hx
theorem aAi{H G:ay}{r:Prop×AV}(hx:wZ P o ρ H=some r):mQ P o ρ G=none:=by
 unfold wZ at hx;unfold mQ;cases hop:o.op<;>simp only[hop] at hx ⊢<;>try (cases hx;done)
 case load t a=>cases ha:ρ a<;>simp only[ha] at hx ⊢<;>(cases hx;done)
 case fieldAddr s a k=>cases ha:ρ a<;>simp only[ha] at hx ⊢<;>(cases hx;done)
 case indexAddr t x i =>
  split at hx
  ·rename_i id bf k n hx1 hx2;rw[hx1]
  ·rename_i id bf ii k n hx1 hx2;rw[hx1]
  ·cases hx
 case call c =>
  split at hx
  ·rename_i t id bf h1 h2 h3;rw[h3];split
   ·rename_i h;cases h
   ·rfl
  ·rename_i t id bf ii h1 h2 h3;rw[h3];split
   ·rename_i h;cases h
   ·rfl
  ·cases hx
theorem awl{H H':ay}(h:HSub H H'){id bf:Nat}{r:Nat×List (List PV)}(hr:acM H id bf=some r):acM H' id bf=some r:=by
 unfold acM at hr ⊢;cases hH:H id with
 |none=>rw[hH] at hr;cases hr
 |some c=>rw[h id c hH];rw[hH] at hr;exact hr
theorem aAj{H H':ay}(h:HSub H H'){r:Prop×AV}(hx:yp P o ρ H=some r):yp P o ρ H'=some r:=by
 unfold yp at hx ⊢;cases hop:o.op<;>simp only[hop] at hx ⊢<;>try (cases hx;done)
 case indexAddr t x i =>
  split at hx
  ·rename_i id bf off m _ _ k n hx1 hx2;cases hr:acM H id bf with
   |none=>rw[hr] at hx;cases hx
   |some es=>rw[awl h hr];rw[hr] at hx;exact hx
  ·cases hx
theorem aAk{H G:ay}{r:Prop×AV}(hx:yp P o ρ H=some r):mQ P o ρ G=none/\wZ P o ρ G=none:=by
 unfold yp at hx;unfold mQ wZ;cases hop:o.op<;>simp only[hop] at hx ⊢<;>try (cases hx;done)
 case indexAddr t x i =>
  split at hx
  ·rename_i id bf off m _ _ k n hx1 hx2;rw[hx1];exact⟨rfl,rfl⟩
  ·cases hx
theorem aAl{H H':ay}(h:HSub H H'){r:Prop×AV}(hx:rP P o ρ H=some r):rP P o ρ H'=some r:=by
 unfold rP at hx ⊢;split at hx
 ·rename_i r' h0;rw[awk h h0];exact hx
 ·split at hx
  ·rename_i r' hD;rw[aAi hD,aAh h hD];exact hx
  ·obtain⟨e1,e2⟩:=aAk (G:=H') hx;rw[e1,e2];exact aAj h hx
theorem o8{own:List Nat}{H H':ay}(h:HSub H H')(hq:bO own o=true){pre:Prop}{v:AV}(hx:gi P o ρ H=some (pre,v,H)):gi P o ρ H'=some (pre,v,H'):=by
 rw[acW hq] at hx ⊢;cases hp:oa P o ρ with
 |some r=>rw[hp] at hx;simp only[cA,iz] at hx ⊢;exact⟨hx.1,hx.2.1,trivial⟩
 |none =>
  rw[hp] at hx;cases hQ:rP P o ρ H with
  |none=>rw[hQ] at hx;cases hx
  |some r=>rw[hQ] at hx;rw[aAl h hQ];simp only[cA,iz] at hx ⊢;exact⟨hx.1,hx.2.1,trivial⟩
theorem acX{H H':ay}(h:HSub H H'):∀ {a:AV} {r:PV×Bool},pX H a=some r->pX H' a=some r
 | .row id bf,r,hx=>by
  simp only[pX] at hx ⊢;cases hH:H id with
  |none=>rw[hH] at hx;cases hx
  |some c=>rw[h id c hH];rw[hH] at hx;exact hx
 | .p _,_,hx=>hx
 | .ptr _ _,_,hx=>by cases hx
 | .jm _ _ _ _,_,hx=>by cases hx
 | .agg _,_,hx=>by cases hx
 | .dQ _,_,hx=>by cases hx
 | .iw _ _ _,_,hx=>by cases hx
 | .eG id bf,r,hx=>by
  simp only[pX] at hx ⊢;cases hd:cI H id bf with
  |none=>rw[hd] at hx;cases hx
  |some c=>rw[ri h hd];rw[hd] at hx;exact hx
 | .kD id bf i,r,hx=>by
  simp only[pX] at hx ⊢;cases hd:nh (cI H id bf) i with
  |none=>rw[hd] at hx;cases hx
  |some c=>rw[aak h hd];rw[hd] at hx;exact hx
 | .kC _ _ _ _,_,hx=>by cases hx
 | .ng _ _ _ _ _,_,hx=>by cases hx
 | .bsl _ _,_,hx=>by cases hx
 | .iA _ _ _ _ _ _,_,hx=>by cases hx
 | .dead,_,hx=>by cases hx
theorem oA{f g:AV->Option (PV×Bool)}(hfg:∀a r,f a=some r->g a=some r):∀ {eL:List AV} {r:List PV×Bool},ek f eL=some r->ek g eL=some r
 | [],r,hx=>hx
 |a :: eL,r,hx=>by
  unfold ek at hx ⊢;cases hf:f a with
  |none=>rw[hf] at hx;cases hx
  |some x =>
   rw[hf] at hx;rw[hfg a x hf];cases hl:ek f eL with
   |none=>rw[hl] at hx;cases hx
   |some y=>rw[oA hfg hl];rw[hl] at hx;exact hx
theorem asd{H H':ay}(h:HSub H H'){a:AV}{r:PV×Bool}(hx:aaF H a=some r):aaF H' a=some r:=by
 unfold aaF at hx ⊢;cases a<;>try exact acX h hx
 case ptr id off =>
  simp only[] at hx ⊢;cases hH:H id with
  |none=>rw[hH] at hx;cases hx
  |some c =>
   rw[h id c hH];rw[hH] at hx;cases c<;>simp only[] at hx ⊢<;>try (cases hx;done)
   case box cs =>
    cases hl:ek (pX H) cs with
    |none=>rw[hl] at hx;cases hx
    |some y=>rw[oA (λa r=>acX h) hl];rw[hl] at hx;exact hx
theorem wA{H H':ay}(h:HSub H H'){a:AV}{r:PV×Bool}(hx:oc H a=some r):oc H' a=some r:=by
 unfold oc at hx ⊢;cases a<;>try exact acX h hx
 case ptr id off =>
  simp only[] at hx ⊢;cases hH:H id with
  |none=>rw[hH] at hx;cases hx
  |some c =>
   rw[h id c hH];rw[hH] at hx;cases c<;>simp only[] at hx ⊢<;>try (cases hx;done)
   case box cs =>
    cases hl:ek (aaF H) cs with
    |none=>rw[hl] at hx;cases hx
    |some y=>rw[oA (λa r=>asd h) hl];rw[hl] at hx;exact hx
theorem ahc{H H':ay}(h:HSub H H'){a:AV}{r:PV×Bool}(hx:gA H a=some r):gA H' a=some r:=by
 unfold gA at hx ⊢;cases a<;>try exact wA h hx
 case agg cs =>
  simp only[] at hx ⊢;cases hl:ek (oc H) cs with
  |none=>rw[hl] at hx;cases hx
  |some y=>rw[oA (λa r=>wA h) hl];rw[hl] at hx;exact hx
 case dQ cs =>
  simp only[] at hx ⊢;cases hl:ek (oc H) cs with
  |none=>rw[hl] at hx;cases hx
  |some y=>rw[oA (λa r=>wA h) hl];rw[hl] at hx;exact hx
 case iw fn fs cs =>
  simp only[] at hx ⊢;cases hf:ek (oc H) fs with
  |none=>rw[hf] at hx;cases hx
  |some x =>
   rw[oA (λa r=>wA h) hf];rw[hf] at hx;cases hl:ek (oc H) cs with
   |none=>rw[hl] at hx;cases hx
   |some y=>rw[oA (λa r=>wA h) hl];rw[hl] at hx;exact hx
theorem acY{H H':ay}(h:HSub H H'){x:PV}(hc:yN P o ρ H x):yN P o ρ H' x:=by obtain⟨k,eL,ps,b,h1,h2,h3,h4⟩:=hc;exact⟨k,eL,ps,b,h1,oA (λa r=>ahc h) h2,h3,h4⟩
theorem abc{own:List Nat}{H:ay}(hq:bO own o=true){x:PV}{G:ay}(hc:yN P o ρ G x):fW P own o ρ H=none:=by
 obtain⟨k,eL,ps,b,h1,h2,h3,h4⟩:=hc;have hq':=hq;unfold bO at hq;rw[Bool.and_eq_true] at hq;rw[jY hq.1,acW hq'];unfold dH at h1;split at h1
 ·rename_i c hop;split at h1
  ·rename_i f hc;unfold oa rP mQ wZ yp;simp only[hop,hc]
  ·cases h1
 ·cases h1
def ahd(own:List Nat)(o:Oper):Bool:=match o.op with
 | .buildSlice .. | .makeSlice ..=>(match o.dst with
  |some d=>own.contains d
  |none=>false)
 | .alloc _ | .box ..=>true
 |_=>false
theorem aeY{H:ay}{d:Nat}(hH:H d=none)(c:Chunk):HSub H (bk H d c):=λid x hx=>by
 unfold bk;split
 ·rename_i hi;rw[hi,hH] at hx;cases hx
 ·exact hx
theorem aqc{H H':ay}{pre:Prop}{v:AV}{d:Nat}(h:exN P o ρ H d=some (pre,v,H')):HSub H H':=by
  unfold exN at h;cases hH:H d with
  |some c=>rw[hH] at h;cases h
  |none =>
    rw[hH] at h;simp only[] at h
    repeat' split at h
    all_goals first
      |(cases h;done)
      | (simp only [cA, iz] at h
         obtain⟨_,_,h3⟩:=h;rw[<-h3];exact aeY hH _)
theorem aqd{H H':ay}{pre:Prop}{v:AV}(hn:(match o.op with | .alloc _ | .box ..=>true|_=>false)=true)(h:gi P o ρ H=some (pre,v,H')):HSub H H':=by
 unfold gi at h;split at h
 ·simp only[cA,iz] at h;rw[<-h.2.2];exact λ_ _ h=>h
 ·split at h
  ·simp only[cA,iz] at h;rw[<-h.2.2];exact λ_ _ h=>h
  ·have hs:xb P o ρ H=none:=by unfold xb;cases hop:o.op<;>simp only[hop] at hn ⊢<;>cases hn
   rw[hs] at h;split at h
   ·rename_i r hr;simp only[cA] at h;subst h;unfold wo at hr;cases hop:o.op<;>simp only[hop] at hn hr<;>try (cases hn;done)
    case alloc e =>
     split at hr
     ·split at hr
      ·rename_i hH _;split at hr
       ·simp only[cA,iz] at hr;rw[<-hr.2.2];exact aeY hH _
       ·cases hr
      ·cases hr
     ·cases hr
    case box e x =>
     split at hr
     ·split at hr
      ·rename_i hH;split at hr
       ·simp only[cA,iz] at hr;rw[<-hr.2.2];exact aeY hH _
       ·cases hr
      ·cases hr
     ·cases hr
   ·cases h
theorem ahe{own:List Nat}{H H':ay}{pre:Prop}{v:AV}(hn:ahd own o=true)(h:fW P own o ρ H=some (pre,v,H')):HSub H H':=by
 have own_case:∀d,o.dst=some d->own.contains d=true->isApp o.op=false->HSub H H':=λd hd hc ha=>by
  unfold fW at h;simp only[hd,hc,if_true,ha] at h;unfold orE at h;split at h
  ·rename_i hx;exact aqc (hx.trans h)
  ·rename_i hb;cases hb
  ·cases h
 have ab_case:(match o.op with | .alloc _ | .box ..=>true|_=>false)=true->isApp o.op=false->HSub H H':=λhab ha=>by
  unfold fW at h;split at h
  ·rename_i d hd;split at h
   ·rename_i hc;exact own_case d hd hc ha
   ·exact aqd hab h
  ·exact aqd hab h
 unfold ahd at hn;cases hop:o.op<;>simp only[hop] at hn<;>try (cases hn;done)
 case buildSlice =>
  split at hn
  ·rename_i d hd;exact own_case d hd hn (by rw[hop];rfl)
  ·cases hn
 case makeSlice =>
  split at hn
  ·rename_i d hd;exact own_case d hd hn (by rw[hop];rfl)
  ·cases hn
 case alloc=>exact ab_case (by rw[hop]) (by rw[hop];rfl)
 case box=>exact ab_case (by rw[hop]) (by rw[hop];rfl)
def sL(H:ay):ay:=λid=>match H id with
 |some (.box cs)=>some (.box cs)
 |_=>none
theorem akE(H:ay):HSub (sL H) H:=λid c h=>by
 unfold sL at h;split at h
 ·rename_i cs hH;rw[hH];exact h
 ·cases h
def awm(o:Oper):Bool:=isApp o.op
theorem aal{H H':ay}(h:HSub H H'):HSub (sL H) (sL H'):=λid c hc=>by
 have:=h id c (akE H id c hc);unfold sL at hc ⊢;split at hc
 ·rename_i cs hH;rw[h id _ hH];exact hc
 ·cases hc
theorem aiQ{H H':ay}{pre:Prop}{v:AV}(hn:isApp o.op=true)(h:gi P o ρ H=some (pre,v,H')):HSub (sL H) (sL H'):=by
 have hk:=hn;unfold isApp at hk;unfold gi at h;split at h
 ·simp only[cA,iz] at h;rw[<-h.2.2];exact λ_ _ h=>h
 ·split at h
  ·simp only[cA,iz] at h;rw[<-h.2.2];exact λ_ _ h=>h
  ·cases hop:o.op<;>simp only[hop] at hk<;>try (cases hk;done)
   case call c =>
    have hs:xb P o ρ H=none:=by unfold xb;simp only[hop]
    rw[hs] at h;unfold wo at h;simp only[hop] at h;split at h
    ·rename_i r hr;split at hr
     ·unfold abM at hr;split at hr
      ·rename_i id bf _ _ _ _ _;cases hH:H id with
       |none=>rw[hH] at hr;cases hr
       |some ch =>
        rw[hH] at hr;cases ch<;>simp only[] at hr<;>try (cases hr;done)
        split at hr
        ·split at hr
         ·simp only[cA] at hr h;subst hr;simp only[iz] at h;rw[<-h.2.2];intro i c' ql;unfold sL bk at *;by_cases hi:i=id
          ·rw[hi,hH] at ql;cases ql
          ·rw[if_neg hi];exact ql
         ·cases hr
        ·cases hr
      ·cases hr
     ·cases hr
    ·cases h
theorem ahf{own:List Nat}{H H':ay}{pre:Prop}{v:AV}(hn:awm o=true)(h:fW P own o ρ H=some (pre,v,H')):HSub (sL H) (sL H'):=by
 unfold fW at h;split at h
 ·split at h
  ·unfold orE at h;split at h
   ·rename_i hx;exact aal (aqc (hx.trans h))
   ·exact aiQ hn h
   ·cases h
  ·exact aiQ hn h
 ·exact aiQ hn h
end Go.cr
namespace Go.cr
open Go.RowKit
variable{P:Program}{N:Nat}{own:List Nat}{ops:Array Oper}{K:Env->ay->Prop}{tl:Nat->Bool}
inductive oZ where
 |p|b|q|w|o|s|f|t
def lC(own:List Nat)(ops:Array Oper)(d:Nat):Bool:=(ops.toList.any λo=>o.dst == some d&&match o.op with
 | .alloc _=>true
 | .box ..=>true
 | .buildSlice ..=>true
 | .makeSlice ..=>true
 |_=>false)||own.contains (2000000+d)
def appArg:Op->Option (Nat×Operand)
 | .call c=>(match c.callee,c.args.toList,c.argTypes.toList with
  | .builtin .append,[.tmp a,s],[_,_]=>some (a,s)
  |_,_,_=>none)
 |_=>none
theorem yR{o:Op}{a:Nat}{s:Operand}(h:appArg o=some (a,s)):∃t1 t2,o = .call ⟨.builtin .append,#[.tmp a,s],#[t1,t2]⟩:=by
 unfold appArg at h;split at h
 ·rename_i c;obtain⟨ce,ar,ts⟩:=c;simp only at h;split at h
  ·rename_i a' s' t1 t2 h1 h2;simp only[cA,iz] at h;obtain⟨rfl,rfl⟩:=h;refine⟨t1,t2,?_⟩;cases ar;cases ts;simp only at h1 h2;subst h1 h2;rfl
  ·cases h
 ·cases h
def pO:List Nat->Nat->Nat
 | [],a=>a
 |c :: r,a=>if 9000000<=c then (if (c-9000000) / 1000=a then 1000000+(c-9000000) % 1000 else pO r a) else pO r a
theorem anQ(a:Nat):pO [] a=a:=rfl
theorem akF(c:Nat)(r:List Nat)(a:Nat):pO (c :: r) a=if 9000000<=c then (if (c-9000000) / 1000=a then 1000000+(c-9000000) % 1000 else pO r a) else pO r a:=rfl
def yS(own:List Nat)(ops:Array Oper)(o:Oper):Option Nat:=match appArg o.op with
 |some (a,_)=>if ((own.contains a||pO own a != a)&&lC own ops (pO own a))=true then some (pO own a) else none
 |none=>none
def adJ(own:List Nat)(o:Oper)(env:Env):Prop:=match appArg o.op with
 |some (a,s)=>(∃v,env a = .row (pO own a) v)/\∃x,ev env s = .p x
 |none=>True
def pY(own:List Nat)(ops:Array Oper)(o:Oper):Bool:=(match o.op with
 | .store _ (.tmp d) _=>lC own ops d
 |_=>false)||(yS own ops o).isSome
def acZ(own:List Nat)(ops:Array Oper)(o:Oper)(env:Env):Prop:=(match o.op with
 | .store _ (.tmp d) _=>lC own ops d=true->∃off,env d = .ptr d off
 |_=>True)/\((yS own ops o).isSome=true->adJ own o env)
def o9(own:List Nat)(ops:Array Oper)(H:ay):ay:=λi=>if lC own ops i then none else H i
theorem aeZ(own:List Nat)(ops:Array Oper)(H:ay):HSub (o9 own ops H) H:=λi c h=>by
 unfold o9 at h;split at h
 ·cases h
 ·exact h
theorem ahg(own:List Nat)(ops:Array Oper){H G:ay}(h:HSub H G):HSub (o9 own ops H) (o9 own ops G):=λi c hc=>by
 unfold o9 at hc ⊢;split at hc
 ·cases hc
 ·rename_i hn;rw[if_neg hn];exact h i c hc
theorem ae0(own:List Nat)(ops:Array Oper)(H:ay){d:Nat}(c:Chunk)(h:lC own ops d=true):o9 own ops (bk H d c)=o9 own ops H:=by
 funext i;unfold o9 bk;split
 ·rfl
 ·rename_i hn;rw[if_neg];intro hi;subst hi;exact hn h
def uj(own:List Nat)(ops:Array Oper)(o:Oper):Option Nat:=match o.op with
 | .alloc _=>(match o.dst with|some d=>if own.contains d=true then none else if lC own ops d=true then some d else none|none=>none)
 | .box ..=>(match o.dst with|some d=>if own.contains d=true then none else if lC own ops d=true then some d else none|none=>none)
 | .store _ (.tmp d) _=>(match o.dst with|some _=>none|none=>if lC own ops d=true then some d else none)
 | .buildSlice ..=>(match o.dst with|some d=>if own.contains d=true then (if lC own ops d=true then some d else none) else none|none=>none)
 | .makeSlice ..=>(match o.dst with|some d=>if own.contains d=true then (if lC own ops d=true then some d else none) else none|none=>none)
 | .call _=>yS own ops o
 |_=>none
theorem aiR{o:Oper}{ρ:Operand->AV}{H:ay}(ho:(match o.op with | .alloc _=>true | .box ..=>true | .store ..=>true|_=>false)=true):gi P o ρ H=wo P o ρ H:=by
 obtain⟨d,op,t,pos,af,g⟩:=o;cases op<;>first|(cases ho;done)|skip
 all_goals
  simp only[gi,oa,rP,mQ,wZ,yp,xb];all_goals(cases wo P _ ρ H<;>rfl)
def aAm(P:Program)(own:List Nat)(o:Oper)(ρ:Operand->AV)(d:Nat):Prop:=∃φ:Option Chunk->Option (Prop×AV×Chunk),∀G,fW P own o ρ G=match φ (G d) with|some (pre,v,c)=>some (pre,v,bk G d c)|none=>none
theorem abT{o:Oper}{env:Env}{d:Nat}(h:uj own ops o=some d)(hs:acZ own ops o env):aAm P own o (ev env) d/\lC own ops d=true:=by
 obtain⟨dst,op,t,pos,af,g⟩:=o;unfold uj at h;cases op<;>simp only at h<;>try (cases h;done)
 case buildSlice ty n parts =>
  cases dst with
  |none=>cases h
  |some k =>
   simp only at h;split at h
   ·rename_i hn;split at h
    ·rename_i hw;simp only[cA] at h;subst h;refine⟨⟨λc=>match c with
      |some _=>none
      |none=>(match lJ P ty n (parts.toList.map λx=>(x.1,ev env x.2)) with
       |some (e,es)=>(match bu P e with
        |some sz=>some (True,.row k 0,.row 0 e sz es)
        |none=>none)
       |none=>(match vf P ty n (parts.toList.map λx=>(x.1,ev env x.2)) with
        |some (_,cs)=>some (True,.bsl k n,.box cs)
        |none=>none)),λG=>?_⟩,hw⟩
     simp only[fW];rw[if_pos hn];simp only[exN];cases hG:G k with
     |some _=>simp only[orE,isApp]
     |none =>
      simp only;cases lJ P ty n (parts.toList.map λx=>(x.1,ev env x.2)) with
      |none =>
       simp only;cases vf P ty n (parts.toList.map λx=>(x.1,ev env x.2)) with
       |none=>simp only[orE,isApp]
       |some r=>obtain⟨e,cs⟩:=r;simp only[orE,isApp]
      |some r=>obtain⟨e,es⟩:=r;simp only;cases bu P e<;>simp only[orE,isApp]
    ·cases h
   ·cases h
 case makeSlice ty l c =>
  cases dst with
  |none=>cases h
  |some k =>
   simp only at h;split at h
   ·rename_i hn;split at h
    ·rename_i hw;simp only[cA] at h;subst h;refine⟨⟨λq=>match q with
      |some _=>none
      |none=>(match exN P ⟨some k,.makeSlice ty l c,t,pos,af,g⟩ (ev env) cm k with
       |some (pre,v,H')=>(match H' k with
        |some ch=>some (pre,v,ch)
        |none=>none)
       |none=>none),λG=>?_⟩,hw⟩
     simp only[fW];rw[if_pos hn];simp only[exN];cases hG:G k with
     |some _=>simp only[orE,isApp]
     |none =>
      simp only[show cm k=none from rfl];split
      ·split
       ·split
        ·simp only[orE,bk,if_true]
        ·simp only[orE,isApp]
       ·simp only[orE,isApp]
      ·simp only[orE,isApp]
    ·cases h
   ·cases h
 case call cl =>
  have hk:(yS own ops ⟨dst,.call cl,t,pos,af,g⟩).isSome=true:=by rw[h];rfl
  have hst:adJ own ⟨dst,.call cl,t,pos,af,g⟩ env:=hs.2 hk;unfold yS at h;unfold adJ at hst;split at h
  ·rename_i a s heq;obtain⟨t1,t2,aDw⟩:=yR heq;rw[heq] at hst;simp only at hst;simp only[Op.call.injEq] at aDw;subst aDw;split at h
   ·rename_i hw;simp only[cA] at h;subst h;rw[Bool.and_eq_true] at hw;obtain⟨⟨bf,h1⟩,x,h2⟩:=hst;have tA:ev env (.tmp a) = .row (pO own a) bf:=h1;have hsrc:∀G:ay,vg G (.p x)=vg cm (.p x):=λG=>by
     cases x with
     |val v =>
      cases v with
      |slice a n c=>cases n<;>rfl
      |_=>rfl
     |_=>rfl
    refine⟨⟨λc=>match dr P t1 t2,c with
     | some (e', sz', qT), some (.row v e sz es) => if v = bf ∧ e = e' ∧ sz = sz' then (match vg cm (.p x) with
       |some ns=>some ((es.length+ns.length) * qT<=140737488355328/\∀x∈ns,x.length=sz,.row (pO own a) (bf+1),.row (bf+1) e sz (es++ns))
       |none=>none) else none
     |_,_=>none,λG=>?_⟩,hw.2⟩
    have hM:fW P own ⟨dst,.call ⟨.builtin .append,#[.tmp a,s],#[t1,t2]⟩,t,pos,af,g⟩ (ev env) G=gi P ⟨dst,.call ⟨.builtin .append,#[.tmp a,s],#[t1,t2]⟩,t,pos,af,g⟩ (ev env) G:=by
     unfold fW;cases dst with
     |none=>rfl
     |some k =>
      simp only;split
      ·have:exN P ⟨some k,.call ⟨.builtin .append,#[.tmp a,s],#[t1,t2]⟩,t,pos,af,g⟩ (ev env) G k=none:=by
        unfold exN;cases G k with
        |some _=>rfl
        |none=>simp only[List.map_cons,List.map_nil,tA]
       rw[this];rfl
      ·rfl
    rw[hM,aeU,tA,h2,aks];cases hT:dr P t1 t2 with
    |none=>simp only[az8]
    |some r =>
     obtain⟨e',sz',qT⟩:=r;rw[akt,hsrc];cases hG:G (pO own a) with
     |none=>simp only
     |some c =>
      cases c with
      |row v e sz es =>
       simp only;split
       ·cases vg cm (.p x)<;>simp only
       ·rfl
      |box cs=>simp only
      |tail v e sz es=>simp only
      |shut v es=>simp only
      |deep v e sz k e' sz' es=>simp only
   ·cases h
  ·cases h
 case alloc e =>
  cases dst with
  |none=>cases h
  |some k =>
   simp only at h;split at h
   ·cases h
   ·rename_i hn;split at h
    ·rename_i hw;simp only[cA] at h;subst h;refine⟨⟨λc=>match c,cN P e with
      |none,some zs=>if zs.all (·.oneCell')=true then some (True,.ptr k 0,.box (zs.map λz=>.p (.val z))) else none
      |_,_=>none,λG=>?_⟩,hw⟩
     simp only[fW];rw[if_neg hn,aiR rfl];simp only[wo];cases hG:G k with
     |some _=>simp only
     |none =>
      cases cN P e with
      |none=>simp only
      |some zs=>simp only;split<;>rfl
    ·cases h
 case box e x =>
  cases dst with
  |none=>cases h
  |some k =>
   simp only at h;split at h
   ·cases h
   ·rename_i hn;split at h
    ·rename_i hw;simp only[cA] at h;subst h;refine⟨⟨λc=>match c with
      |none=>if (b5 (ev env x)).all n9=true then some (True,.ptr k 0,.box (b5 (ev env x))) else none
      |some _=>none,λG=>?_⟩,hw⟩
     simp only[fW];rw[if_neg hn,aiR rfl];simp only[wo];cases hG:G k with
     |some _=>simp only
     |none=>simp only;split<;>rfl
    ·cases h
 case store e a x =>
  cases a with
  |tmp k =>
   cases dst with
   |some _=>cases h
   |none =>
    simp only at h;split at h
    ·rename_i hw;simp only[cA] at h;subst h;obtain⟨off,hp⟩:=hs.1 hw;refine⟨⟨λc=>match bu P e with
      |some n=>if (b5 (ev env x)).length=n/\(b5 (ev env x)).all n9=true then match c with
       |some (.box cs)=>if off+n<=cs.length then some (True,.dead,.box (splice cs off (b5 (ev env x)))) else none
       |_=>none
       else none
      |none=>none,λG=>?_⟩,hw⟩
     have he:ev env (.tmp k) = .ptr k off:=hp;simp only[fW];rw[aiR rfl];simp only[wo,he];cases bu P e with
     |none=>simp only
     |some n =>
      simp only;split
      ·cases hG:G k with
       |none=>simp only
       |some c =>
        cases c<;>simp only
        split<;>rfl
      ·rfl
    ·cases h
  |_=>cases h
def ae1(P:Program)(own:List Nat)(ops:Array Oper)(o:Oper)(ρ:Operand->AV)(H:ay)(v:AV)(H':ay):Prop :=
 ∃k eL ps b r,∃id:Nat,dH o ρ=some (k,eL)/\ek (gA (o9 own ops H)) eL=some (ps,b)/\br P k ps (λx=>x=r)/\(b=true->r.flat=true) /\
  (∀i,id<=i->i<(cO id r).2->H i=none/\lC own ops i=false)/\v=(cO id r).1/\H'=gj id H r
theorem akG:∀ (r:RV) (k:Nat) (H:ay) (d:Nat) (c:Chunk),(d<k\/(cO k r).2<=d)->gj k (bk H d c) r=bk (gj k H r) d c:=by
 intro r;refine RV.rec (motive_1:=λr=>∀k (H:ay) d c,(d<k\/(cO k r).2<=d)->gj k (bk H d c) r=bk (gj k H r) d c) (motive_2:=λrs=>∀k (H:ay) d c,(d<k\/(jv k rs).2<=d)->kQ k (bk H d c) rs=bk (kQ k H rs) d c) ?_ ?_ ?_ ?_ ?_ ?_ ?_ r
 ·intro x k H d c _;rfl
 ·intro e sz es k H d c hd;have hne:d≠k:=by
   rintro rfl;rcases hd with h|h
   ·exact Nat.lt_irrefl _ h
   ·exact Nat.lt_irrefl _ h
  exact kI H c _ hne
 ·intro e sz j e' sz' es k H d c hd;have hne:d≠k:=by
   rintro rfl;rcases hd with h|h
   ·exact Nat.lt_irrefl _ h
   ·exact Nat.lt_irrefl _ h
  exact kI H c _ hne
 ·intro rs ih k H d c hd;exact ih k H d c hd
 ·intro rs ih k H d c hd;exact ih k H d c hd
 ·intro k H d c _;rfl
 ·intro r rs ih1 ih2 k H d c hd;show kQ _ (gj k (bk H d c) r) rs=bk (kQ _ (gj k H r) rs) d c;have h1:=yP r k;have h2:=acP rs (cO k r).2;have hd':d<k\/(jv (cO k r).2 rs).2<=d:=hd;rw[ih1 k H d c (by omega),ih2 _ _ d c (by omega)]
theorem yT{o:Oper}{ρ:Operand->AV}{H H':ay}{v:AV}(h:ae1 P own ops o ρ H v H'):HSub H H':=by
 obtain⟨k,eL,ps,b,r,id,_,_,_,_,h5,_,rfl⟩:=h;intro i c hc;rw[aa8 r id H i,hc];rcases Nat.lt_or_ge i id with h|h
 ·exact .inl h
 ·rcases Nat.lt_or_ge i (cO id r).2 with h'|h'
  ·rw[(h5 i h h').1] at hc;cases hc
  ·exact .inr h'
theorem abU{o:Oper}{ρ ρ':Operand->AV}{H H':ay}{v:AV}(h:∀x∈o.op.operands,ρ x=ρ' x)(hc:ae1 P own ops o ρ H v H'):ae1 P own ops o ρ' H v H':=by obtain⟨k,eL,ps,b,r,id,h1,h2⟩:=hc;exact⟨k,eL,ps,b,r,id,(yQ h) ▸ h1,h2⟩
theorem anR{o:Oper}{ρ:Operand->AV}{H:ay}(hq:bO own o=true){x:FuncId×List AV}(h1:dH o ρ=some x):fW P own o ρ H=none:=by
 have hq':=hq;unfold bO at hq;rw[Bool.and_eq_true] at hq;rw[jY hq.1,acW hq'];unfold dH at h1;split at h1
 ·rename_i c hop;split at h1
  ·rename_i f hc;unfold oa rP mQ wZ yp;simp only[hop,hc]
  ·cases h1
 ·cases h1
def jK(P:Program)(own:List Nat)(ops:Array Oper)(c:oZ)(o:Oper)(env:Env)(H:ay)(v:AV)(H':ay):Prop:=match c with
 | .p=>∃pre,oa P o (ev env)=some (pre,v)/\pre/\H'=H/\(match o.dst with|some d=>!own.contains d|none=>true)=true
 | .q=>bO own o=true/\H'=H/\((∃pre,gi P o (ev env) H=some (pre,v,H)/\pre)\/(∃x,v = .p x/\yN P o (ev env) H x/\fW P own o (ev env) H=none))
 | .b=>bO own o=true/\H'=H/\∃pre,gi P o (ev env) (sL H)=some (pre,v,sL H)/\pre
 | .w=>∃pre,fW P own o (ev env) H=some (pre,v,H')/\pre
 | .s=>∃pre,fW P own o (ev env) H=some (pre,v,H')/\pre
 | .f=>bO own o=true/\ae1 P own ops o (ev env) H v H'
 | .t=>False
 | .o=>bO own o=true/\H'=H/\((∃pre,gi P o (ev env) (o9 own ops H)=some (pre,v,o9 own ops H)/\pre)\/(∃x,v = .p x/\yN P o (ev env) (o9 own ops H) x/\fW P own o (ev env) (o9 own ops H)=none))
theorem aqe{o:Oper}{env:Env}{H H':ay}{v:AV}(h:jK P own ops .b o env H v H'):jK P own ops .q o env H v H':=by obtain⟨h1,rfl,pre,h2,h3⟩:=h;exact⟨h1,rfl,.inl ⟨pre,o8 (akE _) h1 h2,h3⟩⟩
theorem aqf{o:Oper}{env:Env}{H H':ay}{v:AV}(h:jK P own ops .o o env H v H'):jK P own ops .q o env H v H':=by
 obtain⟨h1,rfl,⟨pre,h2,h3⟩|⟨x,h2,h3,h4⟩⟩:=h
 ·exact⟨h1,rfl,.inl ⟨pre,o8 (aeZ own ops _) h1 h2,h3⟩⟩
 ·exact⟨h1,rfl,.inr ⟨x,h2,acY (aeZ own ops _) h3,abc h1 h3⟩⟩
theorem awn{c:oZ}{o:Oper}{env:Env}{H H':ay}{v:AV}(h:jK P own ops c o env H v H'){W:Env->ay->Prop}(hW:W (cH env o.dst v) H') :
  match fW P own o (ev env) H with
   |some (pre,v,H')=>pre/\W (cH env o.dst v) H'
   |none=>jh P o W env H:=by
 have hq : jK P own ops .q o env H v H' → (match fW P own o (ev env) H with
   |some (pre,v,H')=>pre/\W (cH env o.dst v) H'
   |none=>jh P o W env H):=λh=>by
  obtain⟨h1,rfl,h2|⟨x,rfl,h2,h3⟩⟩:=h
  ·obtain⟨pre,h3,h4⟩:=h2;unfold bO at h1;rw[Bool.and_eq_true] at h1;rw[jY h1.1,h3];exact⟨h4,hW⟩
  ·rw[h3];exact .inl (.inl ⟨[],w8 h2 hW⟩)
 cases c with
 |p=>obtain⟨pre,h1,h2,rfl,h3⟩:=h;rw[jY h3];unfold gi;rw[h1];exact⟨h2,hW⟩
 |b=>exact hq (aqe h)
 |q=>exact hq h
 |o=>exact hq (aqf h)
 |w=>obtain⟨pre,h1,h2⟩:=h;rw[h1];exact⟨h2,hW⟩
 |s=>obtain⟨pre,h1,h2⟩:=h;rw[h1];exact⟨h2,hW⟩
 |f=>obtain⟨hq',k,eL,ps,b,r,id,h1,h2,h3,h4,h5,rfl,rfl⟩:=h;rw[anR hq' h1];exact .inl (.inr (.inr ⟨[],.inl ⟨k,eL,ps,b,_,id,h1,oA (λa r=>ahc (aeZ own ops H)) h2,h3,λr' hr=>by subst hr;exact⟨h4,λi a b=>(h5 i a b).1,hW⟩⟩⟩))
 |t=>exact h.elim
theorem adK{o:Oper}{W W':Env->ay->Prop}{env:Env}{H:ay}(h:∀e G,W e G->W' e G)(hh:acS P o W env H):acS P o W' env H:=by
 rcases hh with ⟨ids,k,eL,ps,b,Q,h1,h2,h3,h4⟩|⟨k,ps,x,h1,h2,h3⟩|⟨ids,⟨k,eL,ps,b,Q,id,h1,h2,h3,h4⟩|⟨k,id,v,e,sz,es,eL,ps,b,Q,h1,h2,h3,h4,h5⟩⟩
 ·exact .inl ⟨ids,k,eL,ps,b,Q,h1,h2,h3,λr hr=>⟨(h4 r hr).1,h _ _ (h4 r hr).2⟩⟩
 ·exact .inr (.inl ⟨k,ps,x,h1,h2,h _ _ h3⟩)
 ·exact .inr (.inr ⟨ids,.inl ⟨k,eL,ps,b,Q,id,h1,h2,h3,λr hr=>⟨(h4 r hr).1,(h4 r hr).2.1,h _ _ (h4 r hr).2.2⟩⟩⟩)
 ·refine .inr (.inr ⟨ids,.inr ⟨k,id,v,e,sz,es,eL,ps,b,Q,h1,h2,h3,h4,λa c hq=>?_⟩⟩);obtain⟨v',e',sz',es',a',q1,q2,q3,q4⟩:=h5 a c hq;exact⟨v',e',sz',es',a',q1,q2,q3,h _ _ q4⟩
theorem anS{o:Oper}{W W':Env->ay->Prop}{env:Env}{H:ay}(h:∀e G,W e G->W' e G)(hh:jh P o W env H):jh P o W' env H:=by
 have hC:∀ {env H},abQ P o W env H->abQ P o W' env H:=λhc C I L tm w σ hs hσ=>by obtain⟨k,args,q1,q2⟩:=hc C I L tm w σ hs hσ;exact⟨k,args,q1,q2.mono λe w' ⟨v,I',L',a,H',m1,m2,m3⟩=>⟨v,I',L',a,H',m1,h _ _ m2,m3⟩⟩
 have hR:∀ {env H},ag9 P o W env H->ag9 P o W' env H:=λ⟨v,H',q1,q2⟩=>⟨v,H',h _ _ q1,q2⟩
 rcases hh with hh|⟨e2,H2,q1,⟨pre,v,H',q2,q3,q4⟩|q|q|q⟩|hh|hh
 ·exact .inl (adK h hh)
 ·exact .inr (.inl ⟨e2,H2,q1,.inl ⟨pre,v,H',q2,q3,h _ _ q4⟩⟩)
 ·exact .inr (.inl ⟨e2,H2,q1,.inr (.inl (adK h q))⟩)
 ·exact .inr (.inl ⟨e2,H2,q1,.inr (.inr (.inl (hR q)))⟩)
 ·exact .inr (.inl ⟨e2,H2,q1,.inr (.inr (.inr (hC q)))⟩)
 ·exact .inr (.inr (.inl (hR hh)))
 ·exact .inr (.inr (.inr (hC hh)))
def opK(P:Program)(own:List Nat)(o:Oper)(W:Env->ay->Prop)(env:Env)(H:ay):Prop:=match fW P own o (ev env) H with
 |some (pre,v,H')=>pre/\W (cH env o.dst v) H'
 |none=>jh P o W env H
theorem akH{o:Oper}{W W':Env->ay->Prop}{env:Env}{H:ay}(h:∀e G,W e G->W' e G)(hh:opK P own o W env H):opK P own o W' env H:=by
 unfold opK at *;split at hh
 ·exact⟨hh.1,h _ _ hh.2⟩
 ·exact anS h hh
def aqg(P:Program)(own:List Nat)(ops:Array Oper)(o:Oper)(W:Env->ay->Prop)(env:Env)(H:ay):Prop:=(mR ops o env=some false/\W (cH env o.dst (.dQ [])) H)\/(mR ops o env=some true/\opK P own o W env H)
def aOp(P:Program)(own:List Nat)(ops:Array Oper)(tl:Nat->Bool)(i:Nat)(W:Env->ay->Prop)(env:Env)(H:ay):Prop:=match ops[i]? with
 |none=>W env H
 |some o=>(mR ops o env=some false/\W (cH env o.dst (.dQ [])) H)\/(mR ops o env=some true/\((acZ own ops o env/\∃c v H',jK P own ops c o env H v H'/\W (cH env o.dst v) H')\/(tl i=true/\opK P own o W env H)))
def akI(P:Program)(own:List Nat)(ops:Array Oper)(tl:Nat->Bool)(K:Env->ay->Prop):Nat->Array Bool->Env->ay->Prop
 |0,listed,env,H=>Region.ready .any ops listed=[]/\K env H
 |fuel+1,listed,env,H=>(Region.ready .any ops listed=[]->K env H) /\
  ∀i∈Region.ready .any ops listed,aOp P own ops tl i (akI P own ops tl K fuel (listed.setIfInBounds i true)) env H
theorem rj{C:Ctx}(hd:∀ (i:Nat) o,ops[i]? = some o->wu C.n o.dst){Q:Exit->Act->World->Prop}
  (hK:∀env H I L tm w,K env H->gV C env H I L tm w->Q .normal ⟨tm,[]⟩ w):∀ (fuel:Nat) (listed:Array Bool) (env:Env) (H:ay) (I:Mem) (L:bA) (tm:Array Value) (w:World),
  akI P own ops tl K fuel listed env H->gV C env H I L tm w->wpAny P .any ops Q fuel listed ⟨tm,[]⟩ w
 |0,listed,env,H,I,L,tm,w,h,hs=>⟨h.1,hK env H I L tm w h.2 hs⟩
 |fuel+1,listed,env,H,I,L,tm,w,h,hs=>by
  refine⟨λh0=>hK env H I L tm w (h.1 h0) hs,λi hi=>?_⟩;have hi:=h.2 i hi;unfold aOp at hi;unfold wpOp;cases ho:ops[i]? with
  |none=>rw[ho] at hi;exact rj hd hK fuel _ env H I L tm w hi hs
  |some o =>
   rw[ho] at hi;simp only[];have hdo:=hd i o ho;rcases hi with ⟨hg,hi⟩|⟨hg,⟨_,c,v,H',hst,hi⟩|⟨_,hi⟩⟩
   ·rw[if_neg (by rw[qh hg hs];simp)];have e:(Act.put ⟨tm,[]⟩ o.dst undef:Act)=⟨(Act.put ⟨tm,[]⟩ o.dst undef).tmps,[]⟩:=by cases o.dst<;>rfl
    rw[e];exact rj hd hK fuel _ _ H I L _ w hi (hs.cH hdo (.dQ [] [] rfl (by simp)) [])
   ·rw[if_pos (qh hg hs)];exact .inl (aiI (awn hst hi) hs hdo λenv' H' I' L' tm' w' hw hs'=>rj hd hK fuel _ env' H' I' L' tm' w' hw hs')
   ·rw[if_pos (qh hg hs)];exact .inl (aiI hi hs hdo λenv' H' I' L' tm' w' hw hs'=>rj hd hK fuel _ env' H' I' L' tm' w' hw hs')
def ae2(ops:Array Oper)(anc:Nat->Nat->Bool):Bool :=
 (List.range ops.size).all λj=>(List.range ops.size).all λi=>!anc j i||match ops[j]? with
  |some o=>o.after.toList.any λe=>Region.binds .any e&&decide (e.on<j)&&(e.on == i||anc e.on i)
  |none=>false
theorem ae3{anc:Nat->Nat->Bool}(h:ae2 ops anc=true){i j:Nat}{o:Oper}(hj:ops[j]? = some o)(hi:i<ops.size)(ha:anc j i=true) :
  ∃e∈o.after,Region.binds .any e=true/\e.on<j/\(e.on=i\/anc e.on i=true):=by
 have aGK:j<ops.size:=(Array.getElem?_eq_some_iff.1 hj).1;have h1:=List.all_eq_true.1 h j (List.mem_range.2 aGK);have h2:=List.all_eq_true.1 h1 i (List.mem_range.2 hi);rw[ha,hj] at h2;simp only[Bool.not_true,Bool.false_or] at h2;obtain⟨e,he,h3⟩:=List.any_eq_true.1 h2;simp only[Bool.and_eq_true,decide_eq_true_eq,Bool.or_eq_true,beq_iff_eq] at h3;exact⟨e,by simpa using he,h3.1.1,h3.1.2,h3.2⟩
def rm(ops:Array Oper)(listed:Array Bool):Prop:=listed.size=ops.size/\∀j o,ops[j]? = some o->listed.getD j false=true->∀e∈o.after,Region.binds .any e=true->listed.getD e.on false=true
theorem rm.set{listed:Array Bool}(h:rm ops listed){i:Nat}(hi:i∈Region.ready .any ops listed):rm ops (listed.setIfInBounds i true):=by
 obtain⟨_,oi,hoi,hall⟩:=mem_ready.1 hi;refine⟨by simpa using h.1,λj o hj hl e he hb=>?_⟩;by_cases hij:i=j
 ·subst hij;have:o=oi:=Option.some.inj (hj.symm.trans hoi);subst this;exact getD_set_true (hall e he hb)
 ·rw[getD_set_ne false hij] at hl;exact getD_set_true (h.2 j o hj hl e he hb)
theorem agD{anc:Nat->Nat->Bool}(hA:ae2 ops anc=true){listed:Array Bool}(hc:rm ops listed){i:Nat}(hi:i<ops.size) :
  ∀ (j:Nat),listed.getD j false=true->anc j i=true->listed.getD i false=true:=by
 intro j
 induction j using Nat.strongRecOn with
 |_ j ih =>
  intro hl ha;have hjl:j<ops.size:=by
   rw[<-hc.1];rcases Nat.lt_or_ge j listed.size with h|h
   ·exact h
   ·simp[Array.getElem?_eq_none h] at hl
  obtain⟨o,ho⟩:∃o,ops[j]? = some o:=⟨ops[j],by simp[hjl]⟩;obtain⟨e,he,hb,hlt,h1⟩:=ae3 hA ho hi ha;have hle:=hc.2 j o ho hl e he hb;rcases h1 with rfl|h1
  ·exact hle
  ·exact ih e.on hlt hle h1
theorem ahh{anc:Nat->Nat->Bool}(hA:ae2 ops anc=true){listed:Array Bool}(hc:rm ops listed){i j:Nat}(hi:i∈Region.ready .any ops listed)(hj:j∈Region.ready .any ops listed):anc j i=false:=by
 cases ha:anc j i with
 |false=>rfl
 |true =>
  exfalso;obtain⟨hiu,oi,hoi,_⟩:=mem_ready.1 hi;obtain⟨_,oj,hoj,hall⟩:=mem_ready.1 hj;have qI:i<ops.size:=(Array.getElem?_eq_some_iff.1 hoi).1;obtain⟨e,he,hb,hlt,h1⟩:=ae3 hA hoj qI ha;have hle:=hall e he hb;have:listed.getD i false=true:=by
   rcases h1 with rfl|h1
   ·exact hle
   ·exact agD hA hc qI e.on hle h1
  have h2:i<listed.size:=by rw[hc.1];exact qI
  simp[h2] at hiu this;rw[hiu] at this;cases this
theorem aCv{env:Env}{d:Option Tmp}{v:AV}{x:Operand}(h:∀k,d=some k->x≠.tmp k):ev (cH env d v) x=ev env x:=by
 cases d with
 |none=>rfl
 |some k =>
  cases x with
  |tmp t =>
   have hne:t≠k:=λe=>h k rfl (by rw[e])
   show cE env k v t=env t;unfold cE;rw[if_neg hne]
  |_=>rfl
theorem ase{o:Oper}{t:Tmp}(h:Operand.tmp t∈o.op.operands):t∈o.looksAt ops:=by unfold Oper.looksAt;rw[List.mem_append];left;exact List.mem_filterMap.2 ⟨.tmp t,by simpa using h,rfl⟩
theorem abV{o:Oper}{env:Env}{d:Option Tmp}{v:AV}(h:∀k,d=some k->k ∉ o.looksAt ops):∀x∈o.op.operands,ev (cH env d v) x=ev env x:=λx hx=>aCv λk hk e=>h k hk (ase (by rw[<-e];exact hx))
theorem abd{o:Oper}{env:Env}{d:Option Tmp}{v:AV}(h:∀k,d=some k->k ∉ o.looksAt ops):mR ops o (cH env d v)=mR ops o env:=by
 unfold mR;cases hg:o.guard with
 |none=>rfl
 |some gw =>
  obtain⟨j,want⟩:=gw;simp only[];cases hd:(ops[j]?).bind (·.dst) with
  |none=>rfl
  |some s =>
   simp only[];have:cH env d v s=env s:=by
    cases d with
    |none=>rfl
    |some k =>
     have hk:=h k rfl;have hne:s≠k:=λe=>hk (by
      unfold Oper.looksAt;rw[List.mem_append];right;rw[hg];simp only[];rw[hd,e];simp)
     show cE env k v s=env s;unfold cE;rw[if_neg hne]
   rw[this]
theorem ahi{env:Env}{d e:Option Tmp}{v u:AV}(h:∀k,d=some k->e≠some k):cH (cH env d v) e u=cH (cH env e u) d v:=by
 cases d with
 |none=>rfl
 |some k =>
  cases e with
  |none=>rfl
  |some m=>exact auX env v u λhkm=>h k rfl (by rw[hkm])
theorem akJ{o:Oper}{env:Env}{d:Option Tmp}{v:AV}(h:∀k,d=some k->k ∉ o.looksAt ops):acZ own ops o (cH env d v)↔acZ own ops o env:=by
 have hop:∀x∈o.op.operands,ev (cH env d v) x=ev env x:=abV (ops:=ops) h;have h2:adJ own o (cH env d v)↔adJ own o env:=by
  unfold adJ;cases ha:appArg o.op with
  |none=>rfl
  |some r=>obtain⟨a,s⟩:=r;obtain⟨t1,t2,e⟩:=yR ha;have e1:ev (cH env d v) (.tmp a)=ev env (.tmp a):=hop _ (by rw[e];simp[Op.operands,Call.operands]);have e2:ev (cH env d v) s=ev env s:=hop _ (by rw[e];simp[Op.operands,Call.operands]);have e1':cH env d v a=env a:=e1;simp only[e1',e2]
 unfold acZ;rw[h2];cases ho:o.op with
 |store t a x =>
  cases a with
  |tmp k=>have h1:ev (cH env d v) (.tmp k)=ev env (.tmp k):=hop _ (by rw[ho];simp[Op.operands]);have h2:cH env d v k=env k:=h1;simp only[h2]
  |_=>rfl
 |_=>rfl
theorem ahj{c:oZ}{o:Oper}{env:Env}{H H':ay}{v u:AV}{d:Option Tmp}(h:∀k,d=some k->k ∉ o.looksAt ops):jK P own ops c o (cH env d u) H v H'↔jK P own ops c o env H v H':=by
 have hop:∀x∈o.op.operands,ev (cH env d u) x=ev env x:=abV (ops:=ops) h;have aCw:∀x∈o.op.operands,ev env x=ev (cH env d u) x:=λx hx=>(hop x hx).symm
 cases c with
 |p=>simp only[jK,aha hop]
 |q =>
  simp only[jK,aai hop,vj hop];constructor
  ·rintro⟨h1,h2,h3|⟨x,h3,h4,h5⟩⟩
   ·exact⟨h1,h2,.inl h3⟩
   ·exact⟨h1,h2,.inr ⟨x,h3,vk hop h4,h5⟩⟩
  ·rintro⟨h1,h2,h3|⟨x,h3,h4,h5⟩⟩
   ·exact⟨h1,h2,.inl h3⟩
   ·exact⟨h1,h2,.inr ⟨x,h3,vk aCw h4,h5⟩⟩
 |o =>
  simp only[jK,aai hop,vj hop];constructor
  ·rintro⟨h1,h2,h3|⟨x,h3,h4,h5⟩⟩
   ·exact⟨h1,h2,.inl h3⟩
   ·exact⟨h1,h2,.inr ⟨x,h3,vk hop h4,h5⟩⟩
  ·rintro⟨h1,h2,h3|⟨x,h3,h4,h5⟩⟩
   ·exact⟨h1,h2,.inl h3⟩
   ·exact⟨h1,h2,.inr ⟨x,h3,vk aCw h4,h5⟩⟩
 |b=>simp only[jK,aai hop]
 |w=>simp only[jK,vj hop]
 |s=>simp only[jK,vj hop]
 |f=>exact⟨λh=>⟨h.1,abU hop h.2⟩,λh=>⟨h.1,abU aCw h.2⟩⟩
 |t=>exact Iff.rfl
theorem yU{c:oZ}{o:Oper}{env:Env}{H H':ay}{v:AV}(hq:bO own o=true)(h:jK P own ops c o env H v H'):HSub H H':=by
 have key:H'=H->HSub H H':=λe=>by rw[e];exact λ_ _ h=>h
 cases c with
 |p=>obtain⟨_,_,_,h,_⟩:=h;exact key h
 |q=>exact key h.2.1
 |b=>exact key h.2.1
 |o=>exact key h.2.1
 |w=>obtain⟨pre,h1,_⟩:=h;exact key (si hq h1)
 |s=>obtain⟨pre,h1,_⟩:=h;exact key (si hq h1)
 |f=>exact yT h.2
 |t=>exact h.elim
theorem abe{c:oZ}{o:Oper}{env:Env}{H H':ay}{v:AV}(hq:ug own o=true)(h:jK P own ops c o env H v H'):H'=H/\∀G,jK P own ops .p o env G v G:=by
 have hown:(match o.dst with|some d=>!own.contains d|none=>true)=true:=by unfold ug at hq;rw[Bool.and_eq_true] at hq;exact hq.1
 have hqq:jK P own ops .q o env H v H'->H'=H/\∀G,jK P own ops .p o env G v G:=λh=>by
  obtain⟨_,rfl,⟨pre,h1,h2⟩|⟨x,_,h1,_⟩⟩:=h
  ·rw[akD hq] at h1;cases hp:oa P o (ev env) with
   |none=>rw[hp] at h1;cases h1
   |some r=>obtain⟨pre',v'⟩:=r;rw[hp] at h1;simp only[cA,iz] at h1;obtain⟨rfl,rfl,_⟩:=h1;exact⟨rfl,λG=>⟨pre',hp,h2,rfl,hown⟩⟩
  ·obtain⟨k,eL,ps,b,hc,_⟩:=h1;rw[ahb hq] at hc;cases hc
 cases c with
 |p=>obtain⟨pre,h1,h2,h3,h4⟩:=h;exact⟨h3,λG=>⟨pre,h1,h2,rfl,h4⟩⟩
 |t=>exact h.elim
 |b=>exact hqq (aqe h)
 |q=>exact hqq h
 |o=>exact hqq (aqf h)
 |w =>
  obtain⟨pre,h1,h2⟩:=h;rw[aeX hq] at h1;cases hp:oa P o (ev env) with
  |none=>rw[hp] at h1;cases h1
  |some r=>obtain⟨pre',v'⟩:=r;rw[hp] at h1;simp only[cA,iz] at h1;obtain⟨rfl,rfl,rfl⟩:=h1;exact⟨rfl,λG=>⟨pre',hp,h2,rfl,hown⟩⟩
 |s =>
  obtain⟨pre,h1,h2⟩:=h;rw[aeX hq] at h1;cases hp:oa P o (ev env) with
  |none=>rw[hp] at h1;cases h1
  |some r=>obtain⟨pre',v'⟩:=r;rw[hp] at h1;simp only[cA,iz] at h1;obtain⟨rfl,rfl,rfl⟩:=h1;exact⟨rfl,λG=>⟨pre',hp,h2,rfl,hown⟩⟩
 |f=>obtain⟨_,k,eL,ps,b,r,id,h1,_⟩:=h;rw[ahb hq] at h1;cases h1
def Head(P:Program)(own:List Nat)(ops:Array Oper)(c:oZ)(o:Oper)(env:Env)(H:ay)(v:AV)(H':ay):Prop:=(mR ops o env=some false/\v = .dQ []/\H'=H)\/(mR ops o env=some true/\acZ own ops o env/\jK P own ops c o env H v H')
theorem Head.aOp{c:oZ}{i:Nat}{o:Oper}{env:Env}{H H':ay}{v:AV}(hi:ops[i]? = some o)(h:Head P own ops c o env H v H'){W:Env->ay->Prop}(hW:W (cH env o.dst v) H'):aOp P own ops tl i W env H:=by
 unfold cr.aOp;rw[hi];rcases h with ⟨h1,rfl,rfl⟩|⟨h1,hst,h2⟩
 ·exact .inl ⟨h1,hW⟩
 ·exact .inr ⟨h1,.inl ⟨hst,c,v,H',h2,hW⟩⟩
theorem Head.put{c:oZ}{o:Oper}{env:Env}{H H':ay}{v u:AV}{d:Option Tmp}(h:∀k,d=some k->k ∉ o.looksAt ops)(hh:Head P own ops c o env H v H'):Head P own ops c o (cH env d u) H v H':=by unfold Head at *;rw[abd h,ahj h,akJ h];exact hh
def aiS(own:List Nat)(ops:Array Oper)(c:oZ)(oi oj:Oper):Bool:=oi.apart ops oj&&match c with
 | .p=>true
 | .b=>bO own oj||ahd own oj||awm oj
 | .q=>bO own oj||ahd own oj
 | .o=>bO own oj||ahd own oj||(uj own ops oj).isSome
 | .w=>ug own oj||(match uj own ops oi,uj own ops oj with
  |some x,some y=>x != y
  |_,_=>false)
 | .s=>ug own oj||(match uj own ops oi,uj own ops oj with
  |some x,some y=>x != y
  |_,_=>false)
 | .f=>ug own oj||(uj own ops oj).isSome
 | .t=>false
theorem ac0{c:oZ}{o:Oper}{env:Env}{H H':ay}{v:AV}(hn:ahd own o=true)(h:jK P own ops c o env H v H'):HSub H H':=by
 cases c with
 |p=>obtain⟨_,_,_,h3,_⟩:=h;rw[h3];exact λ_ _ h=>h
 |b=>rw[h.2.1];exact λ_ _ h=>h
 |q=>rw[h.2.1];exact λ_ _ h=>h
 |o=>rw[h.2.1];exact λ_ _ h=>h
 |w=>obtain⟨pre,h1,_⟩:=h;exact ahe hn h1
 |s=>obtain⟨pre,h1,_⟩:=h;exact ahe hn h1
 |f=>exact yT h.2
 |t=>exact h.elim
theorem asf{c:oZ}{o:Oper}{env:Env}{H H':ay}{v:AV}(hn:awm o=true)(h:jK P own ops c o env H v H'):HSub (sL H) (sL H'):=by
 cases c with
 |p=>obtain⟨_,_,_,h3,_⟩:=h;rw[h3];exact λ_ _ h=>h
 |t=>exact h.elim
 |b=>rw[h.2.1];exact λ_ _ h=>h
 |q=>rw[h.2.1];exact λ_ _ h=>h
 |o=>rw[h.2.1];exact λ_ _ h=>h
 |w=>obtain⟨pre,h1,_⟩:=h;exact ahf hn h1
 |s=>obtain⟨pre,h1,_⟩:=h;exact ahf hn h1
 |f=>exact aal (yT h.2)
theorem Head.sub{o:Oper}{env:Env}{H G:ay}{v:AV}(hs:HSub H G)(h:Head P own ops .q o env H v H):Head P own ops .q o env G v G:=by
 rcases h with ⟨h1,h2,_⟩|⟨h1,hst,h2,_,h3|⟨x,h3,h4,h5⟩⟩
 ·exact .inl ⟨h1,h2,rfl⟩
 ·obtain⟨pre,h3,h4⟩:=h3;exact .inr ⟨h1,hst,h2,rfl,.inl ⟨pre,o8 hs h2 h3,h4⟩⟩
 ·exact .inr ⟨h1,hst,h2,rfl,.inr ⟨x,h3,acY hs h4,abc h2 h4⟩⟩
theorem Head.aGL{o:Oper}{env:Env}{H G:ay}{v:AV}(hs:HSub (o9 own ops H) (o9 own ops G))(h:Head P own ops .o o env H v H):Head P own ops .o o env G v G:=by
 rcases h with ⟨h1,h2,_⟩|⟨h1,hst,h2,_,h3|⟨x,h3,h4,h5⟩⟩
 ·exact .inl ⟨h1,h2,rfl⟩
 ·obtain⟨pre,h3,h4⟩:=h3;exact .inr ⟨h1,hst,h2,rfl,.inl ⟨pre,o8 hs h2 h3,h4⟩⟩
 ·exact .inr ⟨h1,hst,h2,rfl,.inr ⟨x,h3,acY hs h4,abc h2 h4⟩⟩
theorem abW{c:oZ}{o:Oper}{env:Env}{H H':ay}{v:AV}{d:Nat}(hl:uj own ops o=some d)(hs:acZ own ops o env)(h:jK P own ops c o env H v H'):∃pre,fW P own o (ev env) H=some (pre,v,H')/\pre:=by
 obtain⟨dst,op,t,pos,af,g⟩:=o;have hw:(jK P own ops .w ⟨dst,op,t,pos,af,g⟩ env H v H'->∃pre,fW P own ⟨dst,op,t,pos,af,g⟩ (ev env) H=some (pre,v,H')/\pre):=λh=>h
 have hcl:∀cl,op = .call cl->bO own ⟨dst,op,t,pos,af,g⟩=false/\oa P ⟨dst,op,t,pos,af,g⟩ (ev env)=none:=by
  intro cl e;subst e;have hl':yS own ops ⟨dst,.call cl,t,pos,af,g⟩=some d:=hl;have hst:=hs.2 (by rw[hl'];rfl);unfold yS at hl';unfold adJ at hst;cases ha:appArg (Op.call cl) with
  |none=>simp only[ha] at hl';cases hl'
  |some r=>obtain⟨a,s⟩:=r;obtain⟨t1,t2,e2⟩:=yR ha;simp only[ha] at hst;obtain⟨⟨bf,h1⟩,x,h2⟩:=hst;simp only[Op.call.injEq] at e2;subst e2;refine⟨by simp[bO],?_⟩;have tA:ev env (.tmp a) = .row (pO own a) bf:=h1;simp[oa,ud,acL,isNil,tA,h2]
 cases c with
 |t=>exact h.elim
 |w=>exact h
 |s=>exact h
 |p =>
  obtain⟨pre,h1,_,_,h4⟩:=h;cases op<;>simp only[uj] at hl<;>try (cases hl;done)
  case call cl=>rw[(hcl cl rfl).2] at h1;cases h1
  case buildSlice =>
   exfalso;cases dst with
   |none=>cases hl
   |some k =>
    simp only at hl h4;split at hl
    ·rename_i hn;rw[hn] at h4;cases h4
    ·cases hl
  case makeSlice =>
   exfalso;cases dst with
   |none=>cases hl
   |some k =>
    simp only at hl h4;split at hl
    ·rename_i hn;rw[hn] at h4;cases h4
    ·cases hl
  all_goals simp[oa] at h1
 |b|q|o|f =>
  exfalso;have hq:=h.1;cases op<;>simp only[uj] at hl<;>try (cases hl;done)
  case call cl=>rw[(hcl cl rfl).1] at hq;cases hq
  all_goals(cases dst<;>simp[bO] at hq hl)<;>exact hq hl.1
theorem akK{ci cj:oZ}{oi oj:Oper}{env:Env}{H H' Hj:ay}{v v':AV}{d d':Nat}(hi:uj own ops oi=some d)(hj:uj own ops oj=some d')(hne:d≠d')(hsi:acZ own ops oi env)(hsj:acZ own ops oj env)
  (h1:jK P own ops ci oi env H v H') (h2:jK P own ops cj oj env H' v' Hj):∃G,jK P own ops .w oj env H v' G/\jK P own ops .w oi env G v Hj/\HSub (o9 own ops H) (o9 own ops G):=by
 obtain⟨pre,e1,hp⟩:=abW hi hsi h1;obtain⟨pre',e2,hp'⟩:=abW hj hsj h2;obtain⟨⟨φ,hφ⟩,n1⟩:=abT (P:=P) hi hsi;obtain⟨⟨ψ,hψ⟩,n2⟩:=abT (P:=P) hj hsj;rw[hφ] at e1;rw[hψ] at e2;cases a1:φ (H d) with
 |none=>rw[a1] at e1;cases e1
 |some r =>
  obtain⟨p1,v1,c1⟩:=r;rw[a1] at e1;simp only[cA,iz] at e1;obtain⟨rfl,rfl,rfl⟩:=e1;have a2:bk H d c1 d'=H d':=by simp[bk,Ne.symm hne]
  rw[a2] at e2;cases a3:ψ (H d') with
  |none=>rw[a3] at e2;cases e2
  |some r =>
   obtain⟨p2,v2,c2⟩:=r;rw[a3] at e2;simp only[cA,iz] at e2;obtain⟨rfl,rfl,rfl⟩:=e2;refine⟨bk H d' c2,⟨p2,by rw[hψ,a3],hp'⟩,⟨p1,?_,hp⟩,by rw[ae0 own ops H c2 n2];exact λ_ _ h=>h⟩;have a4:bk H d' c2 d=H d:=by simp[bk,hne]
   rw[hφ,a4,a1,kI H c1 c2 hne]
theorem aAn{c:oZ}{o:Oper}{env:Env}{H H':ay}{v:AV}{d:Nat}(hl:uj own ops o=some d)(hs:acZ own ops o env)(h:jK P own ops c o env H v H'):o9 own ops H'=o9 own ops H:=by
 obtain⟨pre,e1,hp⟩:=abW hl hs h;obtain⟨⟨φ,hφ⟩,n1⟩:=abT (P:=P) hl hs;rw[hφ] at e1;cases a1:φ (H d) with
 |none=>rw[a1] at e1;cases e1
 |some r=>obtain⟨p1,v1,c1⟩:=r;rw[a1] at e1;simp only[cA,iz] at e1;obtain⟨rfl,rfl,rfl⟩:=e1;exact ae0 own ops H c1 n1
theorem asg{cj:oZ}{oi oj:Oper}{env:Env}{H H' Hj:ay}{v v':AV}{d':Nat}(hj:uj own ops oj=some d')(hsj:acZ own ops oj env)
  (h1:jK P own ops .f oi env H v H') (h2:jK P own ops cj oj env H' v' Hj):∃G,jK P own ops .w oj env H v' G/\jK P own ops .f oi env G v Hj:=by
 obtain⟨pre',e2,hp'⟩:=abW hj hsj h2;obtain⟨⟨ψ,hψ⟩,n2⟩:=abT (P:=P) hj hsj;obtain⟨hq,k,eL,ps,b,r,id,g1,g2,g3,g4,g5,rfl,rfl⟩:=h1;have hd:d'<id\/(cO id r).2<=d':=by
  rcases Nat.lt_or_ge d' id with h|h
  ·exact .inl h
  ·rcases Nat.lt_or_ge d' (cO id r).2 with h'|h'
   ·rw[(g5 d' h h').2] at n2;cases n2
   ·exact .inr h'
 rw[hψ,aa8 r id H d' hd] at e2;cases a3:ψ (H d') with
 |none=>rw[a3] at e2;cases e2
 |some q =>
  obtain⟨p2,v2,c2⟩:=q;rw[a3] at e2;simp only[cA,iz] at e2;obtain⟨rfl,rfl,rfl⟩:=e2;refine⟨bk H d' c2,⟨p2,by rw[hψ,a3],hp'⟩,hq,k,eL,ps,b,r,id,g1,by rw[ae0 own ops H c2 n2];exact g2,g3,g4,λi hi1 hi2=>⟨?_,(g5 i hi1 hi2).2⟩,rfl,(akG r id H d' c2 hd).symm⟩;have hne:i≠d':=by omega
  simp only[bk,if_neg hne];exact (g5 i hi1 hi2).1
theorem Head.aGM{o:Oper}{env:Env}{H G:ay}{v:AV}(hs:HSub (sL H) (sL G))(h:Head P own ops .b o env H v H):Head P own ops .b o env G v G:=by
 rcases h with ⟨h1,h2,_⟩|⟨h1,hst,h2,_,pre,h3,h4⟩
 ·exact .inl ⟨h1,h2,rfl⟩
 ·exact .inr ⟨h1,hst,h2,rfl,pre,o8 hs h2 h3,h4⟩
theorem ash{anc:Nat->Nat->Bool}(hA:ae2 ops anc=true){i:Nat}{oi:Oper}{c:oZ}{v:AV}(hi:ops[i]? = some oi) :
  ∀ (fuel:Nat) (listed:Array Bool) (env:Env) (H H':ay),rm ops listed ->
   (∀j oj,ops[j]? = some oj->j≠i->listed.getD j true=false->anc j i=false->aiS own ops c oi oj=true/\tl j=false) ->
   i∈Region.ready .any ops listed->Head P own ops c oi env H v H'->(c≠.w->c≠.s->c≠.f->H'=H) ->
   akI P own ops tl K fuel (listed.setIfInBounds i true) (cH env oi.dst v) H'->akI P own ops tl K (fuel+1) listed env H:=by
 intro fuel
 induction fuel with
 |zero =>
  intro listed env H H' _ _ hr hy _ hk;refine⟨λh=>(by rw[h] at hr;cases hr),λj hj=>?_⟩;by_cases hji:j=i
  ·subst hji;exact hy.aOp hi hk
  ·have:=ready_mono hj hji;rw[hk.1] at this;cases this
 |succ fuel ih =>
  intro listed env H H' hcl hfree hr hy hqH hk;refine⟨λh=>(by rw[h] at hr;cases hr),λj hj=>?_⟩;by_cases hji:j=i
  ·subst hji;exact hy.aOp hi hk
  ·have h1:=hk.2 j (ready_mono hj hji);obtain⟨aAo,oj,hoj,hall⟩:=mem_ready.1 hj;have hnot:∀e∈oj.after,Region.binds .any e=true->e.on≠i:=λe he hb heq=>by
    have h1:=hall e he hb;have h0:=(mem_ready.1 hr).1;rw[heq] at h1;rcases Nat.lt_or_ge i listed.size with h'|h'
    ·simp[h'] at h0 h1;rw[h0] at h1;cases h1
    ·simp[Array.getElem?_eq_none h'] at h1
   obtain⟨hsw,htl⟩:=hfree j oj hoj hji aAo (ahh hA hcl hr hj);unfold aiS at hsw;rw[Bool.and_eq_true] at hsw;obtain⟨a1,a2,a3⟩:=Oper.apart_spec hsw.1;have qm:∀k ok,ops[k]? = some ok->k≠i->(listed.setIfInBounds j true).getD k true=false->anc k i=false->aiS own ops c oi ok=true/\tl k=false:=λk ok hk hki hun hno=>by
    refine hfree k ok hk hki ?_ hno;by_cases hjk:j=k
    ·subst hjk;exact aAo
    ·rw[getD_set_ne true hjk] at hun;exact hun
   have rq:=hcl.set hj;have hri:=ready_mono hr (Ne.symm hji);unfold cr.aOp at h1 ⊢;rw[hoj] at h1 ⊢;rw[Array.setIfInBounds_comm _ _ (Ne.symm hji)] at h1;rcases h1 with ⟨hg,hw⟩|⟨hg,⟨hso,c',v',Hj,hst,hw⟩|⟨aDx,_⟩⟩
   ·rw[abd a1] at hg;refine .inl ⟨hg,ih _ _ H H' rq qm hri (hy.put a3) hqH ?_⟩;rw[ahi a2] at hw;exact hw
   ·rw[abd a1] at hg;rw[ahj a1] at hst;rw[akJ a1] at hso;rw[ahi a2] at hw;cases c with
    |p =>
     have e1:H'=H:=hqH (by simp) (by simp) (by simp);subst e1;refine .inr ⟨hg,.inl ⟨hso,c',v',Hj,hst,ih _ _ Hj Hj rq qm hri ?_ (λ_ _ _=>rfl) hw⟩⟩;have hy':=hy.put (d:=oj.dst) (u:=v') a3;rcases hy' with ⟨k1,k2,_⟩|⟨k1,ko,pre,k2,k3,_,k4⟩
     ·exact .inl ⟨k1,k2,rfl⟩
     ·exact .inr ⟨k1,ko,pre,k2,k3,rfl,k4⟩
    |q =>
     have e1:H'=H:=hqH (by simp) (by simp) (by simp);subst e1;have hs2:HSub H' Hj:=by
      rcases (Eq.to_iff (Bool.or_eq_true _ _)).mp hsw.2 with h|h
      ·exact yU h hst
      ·exact ac0 h hst
     exact .inr ⟨hg,.inl ⟨hso,c',v',_,hst,ih _ _ _ _ rq qm hri ((hy.put a3).sub hs2) (λ_ _ _=>rfl) hw⟩⟩
    |b =>
     have e1:H'=H:=hqH (by simp) (by simp) (by simp);subst e1;have hs2:HSub (sL H') (sL Hj):=by
      rcases (Eq.to_iff (Bool.or_eq_true _ _)).mp hsw.2 with h|h
      ·rcases (Eq.to_iff (Bool.or_eq_true _ _)).mp h with h|h
       ·exact aal (yU h hst)
       ·exact aal (ac0 h hst)
      ·exact asf h hst
     exact .inr ⟨hg,.inl ⟨hso,c',v',_,hst,ih _ _ _ _ rq qm hri ((hy.put a3).aGM hs2) (λ_ _ _=>rfl) hw⟩⟩
    |w =>
     rcases (Eq.to_iff (Bool.or_eq_true _ _)).mp hsw.2 with hp|hl
     ·obtain⟨e2,hpure⟩:=abe hp hst;subst e2;exact .inr ⟨hg,.inl ⟨hso,.p,v',H,hpure H,ih _ _ H _ rq qm hri (hy.put a3) (λh=>absurd rfl h) hw⟩⟩
     ·split at hl
      ·rename_i d d' hd hd';have hne:d≠d':=by simpa using hl
       rcases hy with ⟨k1,k2,k3⟩|⟨k1,ko,k2⟩
       ·subst k3;exact .inr ⟨hg,.inl ⟨hso,c',v',Hj,hst,ih _ _ Hj Hj rq qm hri (Head.put a3 (.inl ⟨k1,k2,rfl⟩)) (λh=>absurd rfl h) hw⟩⟩
       ·obtain⟨G,m1,m2,_⟩:=akK hd hd' hne ko hso k2 hst;exact .inr ⟨hg,.inl ⟨hso,.w,v',G,m1,ih _ _ G Hj rq qm hri (Head.put a3 (.inr ⟨k1,ko,m2⟩)) (λh=>absurd rfl h) hw⟩⟩
      ·cases hl
    |o =>
     have e1:H'=H:=hqH (by simp) (by simp) (by simp);subst e1;have hs2:HSub (o9 own ops H') (o9 own ops Hj):=by
      rcases (Eq.to_iff (Bool.or_eq_true _ _)).mp hsw.2 with h|h
      ·rcases (Eq.to_iff (Bool.or_eq_true _ _)).mp h with h|h
       ·exact ahg own ops (yU h hst)
       ·exact ahg own ops (ac0 h hst)
      ·obtain⟨d,hd⟩:=Option.isSome_iff_exists.1 h;rw[aAn hd hso hst];exact λ_ _ h=>h
     exact .inr ⟨hg,.inl ⟨hso,c',v',_,hst,ih _ _ _ _ rq qm hri ((hy.put a3).aGL hs2) (λ_ _ _=>rfl) hw⟩⟩
    |s =>
     rcases (Eq.to_iff (Bool.or_eq_true _ _)).mp hsw.2 with hp|hl
     ·obtain⟨e2,hpure⟩:=abe hp hst;subst e2;exact .inr ⟨hg,.inl ⟨hso,.p,v',H,hpure H,ih _ _ H _ rq qm hri (hy.put a3) (λ_ h=>absurd rfl h) hw⟩⟩
     ·split at hl
      ·rename_i d d' hd hd';have hne:d≠d':=by simpa using hl
       rcases hy with ⟨k1,k2,k3⟩|⟨k1,ko,k2⟩
       ·subst k3;exact .inr ⟨hg,.inl ⟨hso,c',v',Hj,hst,ih _ _ Hj Hj rq qm hri (Head.put a3 (.inl ⟨k1,k2,rfl⟩)) (λ_ h=>absurd rfl h) hw⟩⟩
       ·obtain⟨G,m1,m2s,_⟩:=akK hd hd' hne ko hso k2 hst;exact .inr ⟨hg,.inl ⟨hso,.w,v',G,m1,ih _ _ G Hj rq qm hri (Head.put a3 (.inr ⟨k1,ko,m2s⟩)) (λ_ h=>absurd rfl h) hw⟩⟩
      ·cases hl
    |f =>
     rcases (Eq.to_iff (Bool.or_eq_true _ _)).mp hsw.2 with hp|hl
     ·obtain⟨e2,hpure⟩:=abe hp hst;subst e2;exact .inr ⟨hg,.inl ⟨hso,.p,v',H,hpure H,ih _ _ H _ rq qm hri (hy.put a3) (λ_ _ h=>absurd rfl h) hw⟩⟩
     ·obtain⟨d',hd'⟩:=Option.isSome_iff_exists.1 hl;rcases hy with ⟨k1,k2,k3⟩|⟨k1,ko,k2⟩
      ·subst k3;exact .inr ⟨hg,.inl ⟨hso,c',v',Hj,hst,ih _ _ Hj Hj rq qm hri (Head.put a3 (.inl ⟨k1,k2,rfl⟩)) (λ_ _ h=>absurd rfl h) hw⟩⟩
      ·obtain⟨G,m1,m2⟩:=asg hd' hso k2 hst;exact .inr ⟨hg,.inl ⟨hso,.w,v',G,m1,ih _ _ G Hj rq qm hri (Head.put a3 (.inr ⟨k1,ko,m2⟩)) (λ_ _ h=>absurd rfl h) hw⟩⟩
    |t=>cases hsw.2
   ·rw[htl] at aDx;cases aDx
theorem awo{anc:Nat->Nat->Bool}(hA:ae2 ops anc=true){i:Nat}{oi:Oper}(hi:ops[i]? = some oi){fuel:Nat}{listed:Array Bool}{env:Env}{H:ay}(hcl:rm ops listed)(htl:tl i=true)
  (hall:∀j oj,ops[j]? = some oj->j≠i->listed.getD j true=false->anc j i=true) (hr:i∈Region.ready .any ops listed) (hw:aqg P own ops oi (akI P own ops tl K fuel (listed.setIfInBounds i true)) env H) :
  akI P own ops tl K (fuel+1) listed env H:=by
 refine⟨λh=>(by rw[h] at hr;cases hr),λj hj=>?_⟩;by_cases hji:j=i
 ·subst hji;unfold cr.aOp;rw[hi];rcases hw with h|⟨h1,h2⟩
  ·exact .inl h
  ·exact .inr ⟨h1,.inr ⟨htl,h2⟩⟩
 ·obtain⟨aAo,oj,hoj,_⟩:=mem_ready.1 hj;have h1:=hall j oj hoj hji aAo;rw[ahh hA hcl hr hj] at h1;cases h1
def isT:oZ->Bool
 | .t=>true
 |_=>false
def aGN(l:List (Nat×oZ))(i:Nat):Bool:=l.any λx=>x.1 == i&&isT x.2
def yV(own:List Nat)(ops:Array Oper)(anc:Nat->Nat->Bool)(tl:Nat->Bool):List (Nat×oZ)->Array Bool->Bool
 | [],listed=>(Region.ready .any ops listed).isEmpty
 | (i, c) :: rest, listed => (Region.ready .any ops listed).contains i && (match ops[i]? with
   |some oi=>(!isT c||tl i)&&(List.range ops.size).all λj=>j == i||listed.getD j true||anc j i||(match ops[j]? with
    |some oj=>!isT c&&aiS own ops c oi oj && !tl j
    |none=>true)
   |none=>false)&&yV own ops anc tl rest (listed.setIfInBounds i true)
def akL(P:Program)(N:Nat)(own:List Nat)(ops:Array Oper):List (Oper×oZ)->(Env->ay->Prop)->Env->ay->Prop
 | [],K,env,H=>K env H
 | (o, c) :: rest, K, env, H => wu N o.dst ∧ ((isT c = true ∧ aqg P own ops o (akL P N own ops rest K) env H) ∨
   (isT c=false/\∃v H',Head P own ops c o env H v H'/\(match c with | .w=>True | .s=>True | .f=>True|_=>H'=H)/\akL P N own ops rest K (cH env o.dst v) H'))
theorem anT{o:Oper}{W W':Env->ay->Prop}{env:Env}{H:ay}(h:∀e G,W e G->W' e G)(hh:aqg P own ops o W env H):aqg P own ops o W' env H:=hh.imp (λx=>⟨x.1,h _ _ x.2⟩) λx=>⟨x.1,akH h x.2⟩
theorem xd{anc:Nat->Nat->Bool}(hA:ae2 ops anc=true):∀ (l:List (Nat×oZ)) (os:List (Oper×oZ)) (listed:Array Bool) (env:Env) (H:ay),rm ops listed ->
  os.map (·.1)=l.filterMap (λx=>ops[x.1]?)->os.map (·.2)=l.map (·.2)->yV own ops anc tl l listed=true->akL P N own ops os K env H->akI P own ops tl K l.length listed env H
 | [],os,listed,env,H,_,h1,h2,h3,hw=>by
  have:os=[]:=by simpa using h2
  subst this;exact⟨by simpa[yV] using h3,hw⟩
 |(i,c) :: l,[],listed,env,H,_,h1,h2,h3,hw=>by simp at h2
 |(i,c) :: l,(o,c') :: os,listed,env,H,hcl,h1,h2,h3,hw=>by
  simp only[yV,Bool.and_eq_true] at h3;obtain⟨⟨hr,hs⟩,aaH⟩:=h3;cases hi:ops[i]? with
  |none=>rw[hi] at hs;cases hs
  |some oi =>
   rw[hi] at hs;simp only[List.map_cons,List.filterMap_cons,hi,List.cons.injEq] at h1 h2;obtain⟨e1,h1⟩:=h1;obtain⟨e2,h2⟩:=h2;subst e1 e2;simp only[Bool.and_eq_true] at hs;obtain⟨ht,hs⟩:=hs;have aiT:i∈Region.ready .any ops listed:=by simpa using hr
   obtain⟨_,⟨hc,hw⟩|⟨hc,v,H',hy,hq,hw⟩⟩:=hw
   ·refine awo hA hi hcl (by rw[hc] at ht;simpa using ht) (λj oj hoj hji hun=>?_) aiT (anT (λe G hw=>xd hA l os _ e G (hcl.set aiT) h1 h2 aaH hw) hw);have hjl:j<ops.size:=(Array.getElem?_eq_some_iff.1 hoj).1;have:=List.all_eq_true.1 hs j (List.mem_range.2 hjl);simp only[hun,hoj,hc,Bool.or_eq_true,beq_iff_eq,Bool.or_false,Bool.not_true,Bool.false_and] at this;rcases this with h|h
    ·exact absurd h hji
    ·exact h
   ·refine ash hA hi l.length listed env H H' hcl (λj oj hoj hji hun hno=>?_) aiT hy (λhne aGO aGP=>by cases c'<;>first|exact hq|exact absurd rfl hne|exact absurd rfl aGO|exact absurd rfl aGP)
     (xd hA l os _ _ H' (hcl.set aiT) h1 h2 aaH hw)
    have hjl:j<ops.size:=(Array.getElem?_eq_some_iff.1 hoj).1;have:=List.all_eq_true.1 hs j (List.mem_range.2 hjl);simp only[hun,hno,hoj,hc,Bool.or_eq_true,beq_iff_eq,Bool.or_false,Bool.not_false,Bool.true_and,Bool.and_eq_true,Bool.not_eq_true'] at this;rcases this with h|h
    ·exact absurd h hji
    ·exact h
def masks(ops:Array Oper):List Nat:=(Region.before ops).toList
def aDy(m:List Nat)(j i:Nat):Bool:=(m.getD j 0).testBit i
def ae4(own:List Nat)(ops:Array Oper)(m:List Nat)(l:List (Nat×oZ)):Bool:=ae2 ops (aDy m)&&yV own ops (aDy m) (aGN l) l (Array.replicate ops.size false)&&l.length == ops.size&&ops.toList.all λo=>match o.dst with|some _=>true|none=>true
theorem ahk{env:Env}{H:ay}(m:List Nat)(l:List (Nat×oZ))(os:List (Oper×oZ))(hok:ae4 own ops m l=true)(h1:os.map (·.1)=l.filterMap (λx=>ops[x.1]?))(h2:os.map (·.2)=l.map (·.2))
  (hd:∀ (i:Nat) o,ops[i]? = some o->wu N o.dst) (hw:akL P N own ops os K env H):vh P N own ops K env H:=by
 unfold ae4 at hok;simp only[Bool.and_eq_true,beq_iff_eq] at hok;obtain⟨⟨⟨hA,hD⟩,hlen⟩,_⟩:=hok;intro C I L tm w hN hs;have hcl:rm ops (Array.replicate ops.size false):=⟨by simp,λj o hj hl=>by
  rcases Nat.lt_or_ge j ops.size with h|h
  ·simp[h] at hl
  ·simp[h] at hl⟩
 have ae5:=xd (N:=N) hA l os _ env H hcl h1 h2 hD hw;rw[hlen] at ae5;have hs':gV C env H I L tm { w with drawn:=w.drawn+1 }:=(Fr.drew C I L H w) env tm hs;exact rj (by rw[hN];exact hd) (λenv' H' I' L' tm' w' hk aCx=>⟨rfl,rfl,env',H',I',L',hk,aCx⟩) ops.size _ env H I L tm _ ae5 hs'
end Go.cr
