/- Joined texts, part 2: lemmas for the statement. No condition. -/
import Derived.Test.YteambpeibacfpaaGreatJ1
set_option maxHeartbeats 4000000
set_option linter.unusedSimpArgs false
set_option linter.unusedVariables false
open Nat (reduceEqDiff reduceLT reduceLeDiff reduceMul reduceAdd reduceSub)
open Go.IntKind (i64)
open List hiding Mem cons nil tail
open Nat (le_trans le_refl lt_irrefl zero_add lt_or_ge)
open Bool (and_eq_true or_eq_true)
open Option (map_some)
namespace Go.b7
open Go.RowKit
variable{P:Program}{I:Mem}{L:bA}
inductive RV where
 |p (x:PV)
 |row (e:TypeId) (sz:Nat) (es:List (List PV))
 |deep (e:TypeId) (sz k:Nat) (e':TypeId) (sz':Nat) (es:List (List PV))
 |agg (rs:List RV)
 |dH (rs:List RV)
instance:Inhabited RV:=⟨.p default⟩
theorem aa9{w:World}{B:Nat}{e:TypeId}{sz:Nat}{hdr:Value}{n:Nat}{us:List Value}(h:w.ownsRow B e sz hdr n us){b:Nat}(hb:hdr.ownBlock=some b):B<=b:=by
 rcases h.2 with ⟨rfl,_⟩|⟨g,cap,cur,rfl,h1,h2,_⟩
 ·cases hb
 ·have:g=b:=by simpa[Value.ownBlock] using hb
  subst this;exact h1
theorem aec{w:World}{base base':Nat}{e:TypeId}{size:Nat}{v:Value}{n:Nat}{xs:List Value}(h:w.ownsRow base e size v n xs)(hb:base'<=base):w.ownsRow base' e size v n xs:=by
 refine⟨h.1,?_⟩;rcases h.2 with h|⟨g,cap,cur,h1,h2,h3⟩
 ·exact .inl h
 ·exact .inr ⟨g,cap,cur,h1,le_trans hb h2,h3⟩
inductive ze(w:World)(B:Nat)(I:Mem):Value->RV->List Nat->Prop
 |p (u:Value) (x:PV) (h:VR I u x):ze w B I u (.p x) []
 |row (hdr:Value) (e:TypeId) (sz:Nat) (es:List (List PV)) (us:List Value) (h:qK w B I hdr e sz es us) (h1:hdr.oneCell'=true):ze w B I hdr (.row e sz es) hdr.ownBlock.toList
 | deep (hdr : Value) (e : TypeId) (sz k : Nat) (e' : TypeId) (sz' : Nat) (es : List (List PV)) (us : List Value) (dx : Nat → Value) (h : qK w B I hdr e sz (fJ k dx es) us) (h1 : hdr.oneCell' = true) (hk : k < sz) (hall : ∀ x ∈ es, x.length = sz)
   (hin:awg w B I k e' sz' dx es) (hap:agS hdr dx es.length):ze w B I hdr (.deep e sz k e' sz' es) (aaY hdr dx es.length)
 | agg (us : List Value) (rs : List RV) (bs : List (List Nat)) (hl : us.length = rs.length) (hl' : us.length = bs.length)
   (hv:∀ (j:Nat) u r b,us[j]? = some u->rs[j]? = some r->bs[j]? = some b->ze w B I u r b) (hone:∀u∈us,u.oneCell'=true):ze w B I (.agg us.toArray) (.agg rs) bs.flatten
 | dH (us : List Value) (rs : List RV) (bs : List (List Nat)) (hl : us.length = rs.length) (hl' : us.length = bs.length)
   (hv:∀ (j:Nat) u r b,us[j]? = some u->rs[j]? = some r->bs[j]? = some b->ze w B I u r b):ze w B I (.tuple us.toArray) (.dH rs) bs.flatten
def bl(P:Program)(f:FuncId)(args:List PV)(Q:RV->Prop):Prop :=
 gA P f=true/\∀ (I:Mem) (w:World) (vs:List Value),I.inW w->VRs I vs args ->
  Calls P f vs.toArray w λe w'=>∃v r bs I',e = .returned v/\Q r/\ze w' w.heap.size I' v r bs/\bs.Nodup/\(∀b∈bs,w.heap.size<=b/\b<w'.heap.size) /\
   Below w.heap.size w w'/\I.sub I'/\I'.inW w'/\∀b,b<w.heap.size->∀o,I' b o=I b o
theorem bl.mono{f:FuncId}{args:List PV}{Q Q':RV->Prop}(h:bl P f args Q)(hq:∀r,Q r->Q' r):bl P f args Q':=⟨h.1,λI w vs hI hv=>(h.2 I w vs hI hv).mono λ_ _ ⟨v,r,bs,I',h1,h2,h3⟩=>⟨v,r,bs,I',h1,hq r h2,h3⟩⟩
mutual
def cT(k:Nat):RV->AV×Nat
 | .p x=>(.p x,k)
 | .row _ _ _=>(.row k 0,k+1)
 | .deep _ _ _ _ _ _=>(.fm k 0,k+1)
 | .agg rs=>(aaz (jw k rs).1,(jw k rs).2)
 | .dH rs=>(.dH (jw k rs).1,(jw k rs).2)
def jw(k:Nat):List RV->List AV×Nat
 | []=>([],k)
 |r :: rs=>((cT k r).1 :: (jw (cT k r).2 rs).1,(jw (cT k r).2 rs).2)
end
mutual
def gB(k:Nat)(H:au):RV->au
 | .p _=>H
 | .row e sz es=>br H k (.row 0 e sz es)
 | .deep e sz j e' sz' es=>br H k (.deep 0 e sz j e' sz' es)
 | .agg rs=>lI k H rs
 | .dH rs=>lI k H rs
def lI(k:Nat)(H:au):List RV->au
 | []=>H
 |r :: rs=>lI (cT k r).2 (gB k H r) rs
end
theorem gK.add{C:Ctx}{env:Env}{H:au}{tm:Array Value}{w:World}(h:gK C env H I L tm w){id:Nat}(hid:H id=none)(l:Loc)(ch:Chunk)
  (hch:qL I (cc L id l) w C.B id ch) (hl:∀b,l.has b->C.B<=b/\b<w.heap.size/\(∀i li,L i=some li->¬ li.has b)/\(C.w0.heap.size<=b\/C.aoR b)):gK C env (br H id ch) I (cc L id l) tm w:=by
 have hL:=h.tw hid;have hle:=dS.vn hL l;exact
 {h with
  env:=λt=>(h.env t).mono (Mem.eA I) hle
  dom:=λi li hi=>by
   by_cases e:i=id
   ·exact⟨ch,by simp[br,e]⟩
   ·obtain⟨c,hc⟩:=h.dom i li (by simpa[cc,e] using hi);exact⟨c,by simpa[br,e] using hc⟩
  chunk:=λi c hc=>by
   by_cases e:i=id
   ·subst e;have:ch=c:=by simpa[br] using hc
    subst this;exact hch
   ·exact (h.chunk i c (by simpa[br,e] using hc)).keep (Mem.eA I) hle (by simp[cc,e]) λ_ _ _ _=>⟨rfl,λ_=>rfl⟩
  loc:=h.loc.trans hle
  jO:=λi li b hi hlb=>by
   by_cases e:i=id
   ·subst e;have:l=li:=by simpa[cc] using hi
    subst this;exact (hl b hlb).2.2.2
   ·exact h.jO i li b (by simpa[cc,e] using hi) hlb
  fT:=λi li b hi hlb=>by
   by_cases e:i=id
   ·subst e;have:l=li:=by simpa[cc] using hi
    subst this;exact⟨(hl b hlb).1,(hl b hlb).2.1⟩
   ·exact h.fT i li b (by simpa[cc,e] using hi) hlb
  apart:=λi j li lj b hi hj tA wJ=>by
   by_cases ei:i=id<;>by_cases ej:j=id
   ·rw[ei,ej]
   ·subst ei;have:l=li:=by simpa[cc] using hi
    subst this;exact absurd wJ ((hl b tA).2.2.1 j lj (by simpa[cc,ej] using hj))
   ·subst ej;have:l=lj:=by simpa[cc] using hj
    subst this;exact absurd tA ((hl b wJ).2.2.1 i li (by simpa[cc,ei] using hi))
   ·exact h.apart i j li lj b (by simpa[cc,ei] using hi) (by simpa[cc,ej] using hj) tA wJ }
def awu(C:Ctx)(env:Env)(tm:Array Value)(w:World)(I:Mem)(L:bA)(H':au)(bs:List Nat)(R:bA->Prop):Prop:=∃L',gK C env H' I L' tm w/\dS L L'/\(∀id l b,L' id=some l->l.has b->(L id=some l)\/b∈bs)/\R L'
theorem aba:(∀ (r:RV) (k:Nat),k<=(cT k r).2):=by
 intro r;refine RV.rec (motive_1:=λr=>∀k,k<=(cT k r).2) (motive_2:=λrs=>∀k,k<=(jw k rs).2) ?_ ?_ ?_ ?_ ?_ ?_ ?_ r
 ·intro x k;exact le_refl _
 ·intro e sz es k;exact Nat.le_succ _
 ·intro e sz j e' sz' es k;exact Nat.le_succ _
 ·intro rs ih k;exact ih k
 ·intro rs ih k;exact ih k
 ·intro k;exact le_refl _
 ·intro r rs ih1 ih2 k;exact le_trans (ih1 k) (ih2 _)
theorem afc(rs:List RV):∀k:Nat,k<=(jw k rs).2:=by
 induction rs with
 |nil=>intro k;exact le_refl _
 |cons r rs ih=>intro k;exact le_trans (aba r k) (ih _)
theorem adA:∀ (r:RV) (k:Nat) (H:au) (i:Nat),(i<k\/(cT k r).2<=i)->gB k H r i=H i:=by
 intro r;refine RV.rec (motive_1:=λr=>∀k (H:au) i,(i<k\/(cT k r).2<=i)->gB k H r i=H i) (motive_2:=λrs=>∀k (H:au) i,(i<k\/(jw k rs).2<=i)->lI k H rs i=H i) ?_ ?_ ?_ ?_ ?_ ?_ ?_ r
 ·intro x k H i _;rfl
 ·intro e sz es k H i hi;show br H k _ i=H i;unfold br;rw[if_neg];rintro rfl;rcases hi with h|h
  ·exact lt_irrefl _ h
  ·exact lt_irrefl _ h
 ·intro e sz j e' sz' es k H i hi;show br H k _ i=H i;unfold br;rw[if_neg];rintro rfl;rcases hi with h|h
  ·exact lt_irrefl _ h
  ·exact lt_irrefl _ h
 ·intro rs ih k H i hi;exact ih k H i hi
 ·intro rs ih k H i hi;exact ih k H i hi
 ·intro k H i _;rfl
 ·intro r rs ih1 ih2 k H i hi;show lI _ (gB k H r) rs i=H i;have h1:=aba r k;have h2:=afc rs (cT k r).2;have hi':i<k\/(jw (cT k r).2 rs).2<=i:=hi;rw[ih2 _ _ i (by omega),ih1 k H i (by omega)]
section
variable{C:Ctx}{env:Env}{tm:Array Value}{w:World}{B:Nat}
def arS(C:Ctx)(env:Env)(tm:Array Value)(w:World)(B:Nat)(I:Mem)(r:RV):Prop :=
 ∀ (k:Nat) (H:au) (L:bA) (u:Value) (bs:List Nat),gK C env H I L tm w->ze w B I u r bs->C.w0.heap.size<=B->bs.Nodup->(∀b∈bs,B<=b/\b<w.heap.size) ->
  (∀b∈bs,∀i li,L i=some li->¬ li.has b)->(∀i,k<=i->i<(cT k r).2->H i=none)->awu C env tm w I L (gB k H r) bs λL'=>dV I L' u (cT k r).1
def awv(C:Ctx)(env:Env)(tm:Array Value)(w:World)(B:Nat)(I:Mem)(rs:List RV):Prop :=
 ∀ (k:Nat) (H:au) (L:bA) (us:List Value) (bs:List (List Nat)),gK C env H I L tm w->us.length=rs.length->us.length=bs.length ->
  (∀ (j:Nat) u r b,us[j]? = some u->rs[j]? = some r->bs[j]? = some b->ze w B I u r b)->C.w0.heap.size<=B->bs.flatten.Nodup->(∀b∈bs.flatten,B<=b/\b<w.heap.size) ->
  (∀b∈bs.flatten,∀i li,L i=some li->¬ li.has b)->(∀i,k<=i->i<(jw k rs).2->H i=none)->awu C env tm w I L (lI k H rs) bs.flatten λL'=>oW I L' us (jw k rs).1
theorem aww(r:RV):arS C env tm w B I r:=by
 refine RV.rec (motive_1:=arS C env tm w B I) (motive_2:=awv C env tm w B I) ?_ ?_ ?_ ?_ ?_ ?_ ?_ r
 ·intro x k H L u bs hs hr _ _ _ _ _;cases hr with
  |p _ _ h=>exact⟨L,hs,dS.refl L,λid l b hl _=>.inl hl,.p _ _ h⟩
 ·intro e sz es k H L u bs hs hr hB hnd hbs hap hfr;cases hr with
  |row _ _ _ _ us h h1 =>
   have hk:H k=none:=hfr k (le_refl _) (Nat.lt_succ_self _);refine⟨cc L k (.row 0 u sz),hs.add hk _ _ ?_ ?_,dS.vn (hs.tw hk) _,?_,.row _ _ _ 0 u sz (by simp[cc]) (le_refl _) (λ_=>rfl) h1⟩
   ·exact⟨u,us,by simp[cc],aec h.own (le_trans C.hB hB),h.pos,h.all,h.val,h.one,h.free⟩
   ·intro b hb;have hm:b∈u.ownBlock.toList:=by have:u.ownBlock=some b:=hb;simp[this]
    exact⟨le_trans (le_trans C.hB hB) (hbs b hm).1,(hbs b hm).2,hap b hm,.inl (le_trans hB (hbs b hm).1)⟩
   ·intro id l b hl hb;by_cases e:id=k
    ·subst e;have:Loc.row 0 u sz=l:=by simpa[cc] using hl
     subst this;right;have:u.ownBlock=some b:=hb;simp[this]
    ·exact .inl (by simpa[cc,e] using hl)
 ·intro e sz j e' sz' es k H L u bs hs hr hB hnd hbs hap hfr;cases hr with
  |deep _ _ _ _ _ _ _ us dx h h1 hk hall hin aHs =>
   have hkn:H k=none:=hfr k (le_refl _) (Nat.lt_succ_self _);have aDF:C.B<=B:=le_trans C.hB hB;have low:∀ {v:Value} {e:TypeId} {sz:Nat} {es:List (List PV)} {us:List Value},qK w B I v e sz es us->qK w C.B I v e sz es us:=λh=>⟨aec h.own aDF,h.pos,h.all,h.val,h.one,h.free⟩
   refine⟨cc L k (.deep 0 u sz sz' dx es.length),hs.add hkn _ _ ?_ ?_,dS.vn (hs.tw hkn) _,?_,.fm _ _ _ 0 u sz sz' dx es.length (by simp[cc]) (le_refl _) (λ_=>rfl) h1⟩
   ·exact⟨u,us,dx,by simp[cc],low h,h1,hk,hall,λi x hx=>by
     obtain⟨l,us',q1,q2,q3⟩:=hin i x hx;exact⟨l,us',q1,low q2,q3⟩,aHs⟩
   ·intro b hb;have hm:b∈aaY u dx es.length:=adr.2 hb;exact⟨le_trans aDF (hbs b hm).1,(hbs b hm).2,hap b hm,.inl (le_trans hB (hbs b hm).1)⟩
   ·intro id l b hl hb;by_cases e:id=k
    ·subst e;have:Loc.deep 0 u sz sz' dx es.length=l:=by simpa[cc] using hl
     subst this;exact .inr (adr.2 hb)
    ·exact .inl (by simpa[cc,e] using hl)
 ·intro rs ih k H L u bs hs hr hB hnd hbs hap hfr;cases hr with
  |agg us _ bs hl hl' hv hone=>obtain⟨L',h1,h2,h3,h4⟩:=ih k H L us bs hs hl hl' hv hB hnd hbs hap hfr;exact⟨L',h1,h2,h3,wL h4.1 h4.2 hone⟩
 ·intro rs ih k H L u bs hs hr hB hnd hbs hap hfr;cases hr with
  |dH us _ bs hl hl' hv=>obtain⟨L',h1,h2,h3,h4⟩:=ih k H L us bs hs hl hl' hv hB hnd hbs hap hfr;exact⟨L',h1,h2,h3,.dH us _ h4.1 h4.2⟩
 ·intro k H L us bs hs hl hl' _ _ _ _ _ _;have:us=[]:=by simpa using hl
  subst this;exact⟨L,hs,dS.refl L,λid l b hl _=>.inl hl,rfl,by simp⟩
 ·intro r rs ih1 ih2 k H L us bs hs hl hl' hv hB hnd hbs hap hfr;cases us with
  |nil=>simp at hl
  |cons u us =>
   cases bs with
   |nil=>simp at hl'
   |cons b bs =>
    simp only[flatten_cons,nodup_append,mem_append] at hnd hbs hap;obtain⟨L1,a1,a2,a3,a4⟩:=ih1 k H L u b hs (hv 0 u r b rfl rfl rfl) hB hnd.1 (λx hx=>hbs x (.inl hx)) (λx hx=>hap x (.inl hx)) (λi h1 h2=>hfr i h1 (Nat.lt_of_lt_of_le h2 (afc rs _)));obtain⟨L2,b1,b2,b3,b4⟩:=ih2 (cT k r).2 (gB k H r) L1 us bs a1 (by simpa using hl) (by simpa using hl') (λj u r b hu hr hb=>hv (j+1) u r b hu hr hb) hB hnd.2.1 (λx hx=>hbs x (.inr hx)) (λx hx i li hi hli=>by
     rcases a3 i li x hi hli with h|h
     ·exact hap x (.inr hx) i li h hli
     ·exact hnd.2.2 x h x hx rfl) (λi h1 h2=>by
      rw[adA r k H i (.inr h1)];exact hfr i (le_trans (aba r k) h1) h2)
    refine⟨L2,b1,λid=>?_,λid l x hl hx=>?_,by simp[jw,b4.1],λj v a xD ha=>?_⟩
    ·exact (a2.trans b2) id
    ·rcases b3 id l x hl hx with h|h
     ·rcases a3 id l x h hx with h|h
      ·exact .inl h
      ·exact .inr (by simp[h])
     ·exact .inr (by
       rw[flatten_cons];exact mem_append_right _ h)
    ·cases j with
     |zero =>
      simp at xD ha;subst xD;have ha':(cT k r).1=a:=by simpa[jw] using ha
      rw[<-ha'];exact a4.mono (Mem.eA I) b2
     |succ j=>exact b4.2 j v a (by simpa using xD) (by simpa[jw] using ha)
end
mutual
def RV.flat:RV->Bool
 | .p x=>x.scalar
 | .row _ _ es=>es.all λx=>x.all isVal
 | .deep _ _ _ _ _ _=>false
 | .agg rs=>RV.ac5 rs
 | .dH rs=>RV.ac5 rs
def RV.ac5:List RV->Bool
 | []=>true
 |r :: rs=>r.flat&&RV.ac5 rs
end
theorem qK.flat{w:World}{B:Nat}{J:Mem}{hdr:Value}{e:TypeId}{sz:Nat}{es:List (List PV)}{us:List Value}(h:qK w B J hdr e sz es us)(hf:(es.all λx=>x.all isVal)=true)(hI:∀b,hdr.ownBlock=some b->∀o,I b o=none) :
  qK w B I hdr e sz es us :=
 {h with
  val:=λj u c hu hc=>(h.val j u c hu hc).isVal (by
   have hm:=mem_of_getElem? hc;obtain⟨x,hx,hcx⟩:=mem_flatten.1 hm;exact all_eq_true.1 (all_eq_true.1 hf x hx) c hcx)
  free:=hI }
theorem ze.flat{w:World}{B:Nat}{J:Mem}{u:Value}{r:RV}{bs:List Nat}(h:ze w B J u r bs):r.flat=true->(∀b∈bs,∀o,I b o=none)->ze w B I u r bs:=by
 induction h with
 |p u x h=>exact λhf _=>.p _ _ (h.scalar hf)
 |row hdr e sz es us h h1=>intro hf hI;exact .row hdr e sz es us (h.flat hf λb hb=>hI b (by simp[hb])) h1
 |deep=>intro hf;cases hf
 |agg us rs bs hl hl' hv hone ih =>
  intro hf hI;have hall:∀rs:List RV,RV.ac5 rs=true->∀r∈rs,r.flat=true:=by
   intro rs
   induction rs with
   |nil=>intro _ r hr;cases hr
   |cons a r ih =>
    intro h x hx;simp only[RV.ac5,and_eq_true] at h;rcases mem_cons.1 hx with rfl|hx
    ·exact h.1
    ·exact ih h.2 x hx
  exact .agg us rs bs hl hl' (λj u r b hu hr hb=>ih j u r b hu hr hb (hall rs hf r (mem_of_getElem? hr)) λx hx=>hI x (mem_flatten.2 ⟨b,mem_of_getElem? hb,hx⟩)) hone
 |dH us rs bs hl hl' hv ih =>
  intro hf hI;have hall:∀rs:List RV,RV.ac5 rs=true->∀r∈rs,r.flat=true:=by
   intro rs
   induction rs with
   |nil=>intro _ r hr;cases hr
   |cons a r ih =>
    intro h x hx;simp only[RV.ac5,and_eq_true] at h;rcases mem_cons.1 hx with rfl|hx
    ·exact h.1
    ·exact ih h.2 x hx
  exact .dH us rs bs hl hl' (λj u r b hu hr hb=>ih j u r b hu hr hb (hall rs hf r (mem_of_getElem? hr)) λx hx=>hI x (mem_flatten.2 ⟨b,mem_of_getElem? hb,hx⟩))
def awx(P:Program)(o:Oper)(ρ:Operand->AV)(H:au)(Kr:AV->au->Prop):Prop :=
 ∃k eZ ps b Q,∃id:Nat,dA o ρ=some (k,eZ)/\eT (gL H) eZ=some (ps,b)/\bl P k ps Q /\
  ∀r,Q r->(b=true->r.flat=true)/\(∀i,id<=i->i<(cT id r).2->H i=none)/\Kr (cT id r).1 (gB id H r)
theorem akU{o:Oper}{ρ:Operand->AV}{H:au}{Kr:AV->au->Prop}(h:awx P o ρ H Kr){C:Ctx}{env:Env}{tm:Array Value}{w:World}(hs:gK C env H I L tm w){σ:Operand->Value}(hσ:∀x,dV I L (σ x) (ρ x)) :
  ∃k args,(execOp σ o).run P w = .ok (.enter k args) w/\Calls P k args w λe w'=>∃v I' L' a H',e = .returned v/\Kr a H'/\dV I' L' v a/\gK C env H' I' L' tm w':=by
 obtain⟨k,eZ,ps,b,Q,id,h1,h2,h3,h4⟩:=h;obtain⟨us,hr,hu⟩:=ni h1 h3.1 hσ w;refine⟨k,_,hr,?_⟩
 have fin : ∀ {I' : Mem} {w' : World} {v : Value} {r : RV} {bs : List Nat}, gK C env H I' L tm w' → ze w' w.heap.size I' v r bs → bs.Nodup → (∀ b ∈ bs, w.heap.size ≤ b ∧ b < w'.heap.size) → (∀ i, id ≤ i → i < (cT id r).2 → H i = none) →
   ∃L',gK C env (gB id H r) I' L' tm w'/\dV I' L' v (cT id r).1:=by
  intro I' w' v r bs hs' hrv hnd hbs hfr;obtain⟨L',k1,_,_,k4⟩:=aww r id H L v bs hs' hrv hs.below.size hnd hbs (λb hb i li hi hli=>by
   have h1:=(hs.fT i li b hi hli).2;have h2:=(hbs b hb).1;omega) hfr
  exact⟨L',k1,k4⟩
 cases b with
 |false =>
  obtain⟨k1,_,k3⟩:=kM (pX hs (vg H) (mD hs.mem) ((sv L w).g H)) eZ ps false h2 us hu.1 hu.2;refine (h3.2 I w us hs.mem ⟨k1,k3 rfl⟩).mono λe w' ⟨v,r,bs,I',q1,q2,q3,q4,q5,q6,q7,q8,q9⟩=>?_
  obtain⟨_,m2,m3⟩:=h4 r q2;obtain⟨L',n1,n2⟩:=fin (hs.grow q6 q7 q8 q9) q3 q4 q5 m2;exact⟨v,I',L',_,_,q1,m3,n2,n1⟩
 |true =>
  obtain⟨k1,k2,_⟩:=kM (pX hs (vg H) (mD hs.mem) ((sv L w).g H)) eZ ps true h2 us hu.1 hu.2;refine (h3.2 (snap w) w us (agZ w) ⟨k1,k2⟩).mono λe w' ⟨v,r,bs,I',q1,q2,q3,q4,q5,q6,q7,q8,q9⟩=>?_
  obtain⟨m1,m2,m3⟩:=h4 r q2;have hfree:∀b∈bs,∀o,I b o=none:=λb hb o=>by
   cases hI:I b o with
   |none=>rfl
   |some u=>exact absurd (hs.mem.lt hI) (by have:=(q5 b hb).1;omega)
  obtain⟨L',n1,n2⟩:=fin (hs.world (q6.mono hs.leB) λb hb=>q6.block b hb) (q3.flat (m1 rfl) hfree) q4 q5 m2;exact⟨v,I,L',_,_,q1,m3,n2,n1⟩
mutual
def RV.pv:RV->PV
 | .p x=>x
 | .row _ _ es=>.aL es
 | .deep _ _ _ _ _ es=>.aL es
 | .agg rs=>.agg (RV.pvL rs)
 | .dH rs=>.dH (RV.pvL rs)
def RV.pvL:List RV->List PV
 | []=>[]
 |r :: rs=>r.pv :: RV.pvL rs
end
theorem RV.akV:∀ (rs:List RV) (j:Nat) (c:PV),(RV.pvL rs)[j]? = some c->∃r,rs[j]? = some r/\r.pv=c
 | [],j,c,h=>by simp[RV.pvL] at h
 |r :: rs,j,c,h=>by
  cases j with
  |zero=>simp[RV.pvL] at h;exact⟨r,rfl,h⟩
  |succ j=>obtain⟨r',h1,h2⟩:=RV.akV rs j c (by simpa[RV.pvL] using h);exact⟨r',by simpa using h1,h2⟩
theorem RV.akW:∀ (rs:List RV),(RV.pvL rs).length=rs.length
 | []=>rfl
 |r :: rs=>by simp[RV.pvL,RV.akW rs]
theorem ze.pv{w:World}{B:Nat}{J:Mem}{u:Value}{r:RV}{bs:List Nat}(h:ze w B J u r bs):∀ {K:Mem},J.sub K->(∀b,B<=b->∀o u,w.cell? ⟨b,o,none⟩=some u->K b o=some u)->VR K u r.pv:=by
 induction h with
 |p u x h=>exact λhK _=>h.mono hK
 |row hdr e sz es us h h1 =>
  intro K hK afd;show VR K hdr (.aL es);have hfl:=bJ h.all;have hlen:us.length=es.flatten.length:=by rw[hfl];exact h.own.1
  rcases h.own.2 with ⟨rfl,hn⟩|⟨g,cap,cur,rfl,hb,hg,hnc,hcm,hcs,kL⟩
  ·have he:es=[]:=length_eq_zero_iff.1 hn;subst he;exact .aL none 0 0 [] us sz rfl (by simp) hlen (λj u c hu hc=>(h.val j u c hu hc).mono hK) h.one (.inl (length_eq_zero_iff.1 (by simpa using hlen))) (λ_=>⟨rfl,rfl⟩) (le_refl _)
  ·refine .aL _ _ _ es us sz rfl h.all hlen (λj u c hu hc=>(h.val j u c hu hc).mono hK) h.one (.inr ⟨g,0,rfl,λj u hu=>?_⟩) (by simp) hnc;rw[zero_add];refine afd g hb j u ?_;rw[gM hg];rw[<-kL,getElem?_take] at hu;split at hu
   ·simpa using hu
   ·cases hu
 |deep hdr e sz k e' sz' es us dx h h1 hk hall hin hap =>
  intro K hK afd;exact arP h hall hin hK λb hb=>afd b (by
   rcases hb with hb|⟨i,hi,hb⟩
   ·exact (aa9 h.own hb)
   ·obtain⟨l,us',q1,q2,q3⟩:=hin i _ (getElem?_eq_getElem hi);exact aa9 q2.own hb)
 |agg us rs bs hl hl' hv hone ih =>
  intro K hK afd;show VR K (.agg us.toArray) (.agg (RV.pvL rs));refine .agg us _ (by rw[RV.akW];exact hl) (λj u c hu hc=>?_) hone;obtain⟨r,h1,rfl⟩:=RV.akV rs j c hc;obtain⟨b,hb⟩:∃b,bs[j]? = some b:=by have hj:j<us.length:=(List.getElem?_eq_some_iff.1 hu).1;exact⟨bs[j]'(by omega),by simp[hl' ▸ hj]⟩
  exact ih j u r b hu h1 hb hK afd
 |dH us rs bs hl hl' hv ih =>
  intro K hK afd;show VR K (.tuple us.toArray) (.dH (RV.pvL rs));refine .dH us _ (by rw[RV.akW];exact hl) (λj u c hu hc=>?_);obtain⟨r,h1,rfl⟩:=RV.akV rs j c hc;obtain⟨b,hb⟩:∃b,bs[j]? = some b:=by have hj:j<us.length:=(List.getElem?_eq_some_iff.1 hu).1;exact⟨bs[j]'(by omega),by simp[hl' ▸ hj]⟩
  exact ih j u r b hu h1 hb hK afd
def Mem.asL(I:Mem)(B:Nat)(w:World):Mem:=λb o=>if b<B then I b o else w.cell? ⟨b,o,none⟩
theorem bl.toV{f:FuncId}{args:List PV}{Q:RV->Prop}(h:bl P f args Q):aD P f args λx=>∃r,Q r/\x=r.pv :=
 ⟨h.1,λI w vs hI hv=>(h.2 I w vs hI hv).mono λe w' ⟨v,r,bs,I',q1,q2,q3,q4,q5,q6,q7,q8,q9⟩=>by
  have hsub:I'.sub (I'.asL w.heap.size w'):=λb o u hu=>by
   unfold Mem.asL;split
   ·exact hu
   ·exact q8 b o u hu
  refine⟨v,r.pv,I'.asL w.heap.size w',q1,⟨r,q2,rfl⟩,q3.pv hsub (λb hb o u hu=>?_),q6,Mem.nK q7 hsub,λb o u hu=>?_,λb hb o=>?_⟩
  ·unfold Mem.asL;rw[if_neg (by omega)];exact hu
  ·unfold Mem.asL at hu;split at hu
   ·exact q8 b o u hu
   ·exact hu
  ·unfold Mem.asL;rw[if_pos hb];exact q9 b hb o⟩
theorem bl.aAC{f:FuncId}{args:List PV}{r0:RV}(h:bl P f args λr=>r=r0):aD P f args λx=>x=r0.pv:=h.toV.mono λx ⟨r,h1,h2⟩=>by rw[h2,h1]
end Go.b7
namespace Go.b7
open Go.RowKit
variable{P:Program}{I:Mem}{L:bA}
def Ctx.ao4(w:World)(I:Mem)(n B v sz:Nat)(hdr:Value)(hB:B<=w.heap.size):Ctx :=
 ⟨w,I,n,B,λb=>hdr.ownBlock=some b,λi=>if i=1000000 then some (.row v hdr sz) else none,hB,λi l h=>by
  split at h
  ·omega
  ·cases h⟩
def mb(P:Program)(f:FuncId)(v:Nat)(e:TypeId)(sz:Nat)(es:List (List PV))(ps:List PV)(Q:AV->Option Chunk->Prop):Prop :=
 gA P f=true/\∀ (B:Nat) (I:Mem) (w:World) (hdr:Value) (us vs:List Value) (hB:B<=w.heap.size),I.inW w->qK w B I hdr e sz es us->hdr.oneCell'=true->VRs I vs ps ->
  Calls P f (hdr :: vs).toArray w λx w'=>∃u a H' I' L',x = .returned u/\Q a (H' 1000000)/\dV I' L' u a/\gK (Ctx.ao4 w I 0 B v sz hdr hB) gI H' I' L' #[] w'
theorem mb.mono{f:FuncId}{v:Nat}{e:TypeId}{sz:Nat}{es:List (List PV)}{ps:List PV}{Q Q':AV->Option Chunk->Prop}(h:mb P f v e sz es ps Q)(hq:∀a c,Q a c->Q' a c):mb P f v e sz es ps Q':=⟨h.1,λB I w hdr us vs hB hI hr h1 hv=>(h.2 B I w hdr us vs hB hI hr h1 hv).mono λ_ _ ⟨u,a,H',I',L',q1,q2,q3⟩=>⟨u,a,H',I',L',q1,hq _ _ q2,q3⟩⟩
def arT(id:Nat):AV->Option AV
 | .p x=>some (.p x)
 | .row i v=>if i=1000000 then some (.row id v) else none
 | .dH []=>some (.dH [])
 |_=>none
theorem td{w:World}{B:Nat}{e:TypeId}{sz:Nat}{hdr:Value}{n:Nat}{us:List Value}(h:w.ownsRow B e sz hdr n us){b:Nat}(hb:hdr.ownBlock=some b):B<=b/\b<w.heap.size:=by
 rcases h.2 with ⟨rfl,_⟩|⟨g,cap,cur,rfl,h1,h2,_⟩
 ·cases hb
 ·have:g=b:=by simpa[Value.ownBlock] using hb
  subst this;refine⟨h1,?_⟩;rcases lt_or_ge g w.heap.size with h|h
  ·exact h
  ·simp[Array.getElem?_eq_none h] at h2
section
variable{C:Ctx}{env:Env}{H H':au}{tm:Array Value}{w w':World}{id v sz:Nat}{e:TypeId}{es:List (List PV)}{hdr:Value}{J I':Mem}{L':bA}
theorem gK.back(h:gK C env H I L tm w)(hid:H id=some (.row v e sz es))(hl:L id=some (.row v hdr sz))(hJ:I.sub J)(hJn:∀b,hdr.ownBlock=some b->∀o,J b o=none)
  (hs':gK (Ctx.ao4 w J 0 C.B v sz hdr h.leB) gI H' I' L' #[] w') {v':Nat} {e':TypeId} {sz':Nat} {es':List (List PV)} (hch:H' 1000000=some (.row v' e' sz' es'))
  {K:Mem} (hK:(J=I/\K=I')\/(K=I/\(es'.all λx=>x.all isVal)=true)) :
  ∃fz,L' 1000000=some (.row v' fz sz')/\gK C env (br H id (.row v' e' sz' es')) K (cc L id (.row v' fz sz')) tm w'/\dS L (cc L id (.row v' fz sz')):=by
 obtain⟨fz,us',k1,k2,k3,k4,k5,k6,k7⟩:=hs'.chunk 1000000 _ hch;have amo:dS L (cc L id (.row v' fz sz')):=λi=>by
  by_cases hi:i=id
  ·subst hi;rw[hl];have:=hs'.loc 1000000;simp only[Ctx.ao4,if_true,k1] at this;obtain⟨v1,mT,m1,m2,m3⟩:=this;simp only[cC,Loc.row.injEq] at m1;obtain⟨rfl,rfl,rfl⟩:=m1;exact⟨v',fz,by simp[cc],m2,m3⟩
  ·have:cc L id (.row v' fz sz') i=L i:=by simp[cc,hi]
   rw[this];exact dS.refl L i
 have hown:∀b,hdr.ownBlock=some b->C.w0.heap.size<=b\/C.aoR b:=λb hb=>h.jO id _ b hl hb
 have hfr:∀b,b<w.heap.size->hdr.ownBlock≠some b->w'.heap[b]? = w.heap[b]?:=λb hb hn=>hs'.frame b hb hn
 have hIn:∀b o,b<w.heap.size->hdr.ownBlock≠some b->I' b o=J b o:=λb o hb hn=>hs'.mS b hb hn o
 have awy:∀b,hdr.ownBlock=some b->∀o,I b o=none:=λb hb o=>by
  cases hI:I b o with
  |none=>rfl
  |some u=>have:=hJ b o u hI;rw[hJn b hb o] at this;cases this
 have awz:I.sub K:=by
  rcases hK with ⟨e1,e2⟩|⟨e1,_⟩
  ·rw[e2];exact Mem.nK hJ hs'.lW
  ·rw[e1];exact Mem.eA I
 have hKn:∀b o,b<w.heap.size->hdr.ownBlock≠some b->K b o=I b o:=λb o hb hn=>by
  rcases hK with ⟨e1,e2⟩|⟨e1,_⟩
  ·rw[e2,hIn b o hb hn,e1]
  ·rw[e1]
 have hKw:K.inW w':=by
  rcases hK with ⟨_,e2⟩|⟨e1,_⟩
  ·rw[e2];exact hs'.mem
  ·rw[e1];exact h.mem.keep λb ⟨o,u,hu⟩=>hfr b (h.mem.lt hu) λhb=>by rw[awy b hb o] at hu;cases hu
 have hblk:∀b,fz.ownBlock=some b->hdr.ownBlock=some b\/w.heap.size<=b:=λb hb=>(hs'.jO 1000000 _ b k1 hb).symm
 refine⟨fz,k1,?_,amo⟩;exact
 {below:=h.below.trans hs'.below
  mem:=hKw
  lW:=Mem.nK h.lW awz
  mS:=λb hb hf o=>by
   have hn:hdr.ownBlock≠some b:=λhb'=>by
    rcases hown b hb' with h1|h1
    ·omega
    ·exact hf h1
   rw[hKn b o (Nat.lt_of_lt_of_le hb h.below.size) hn];exact h.mS b hb hf o
  frame:=λb hb hf=>by
   have hn:hdr.ownBlock≠some b:=λhb'=>by
    rcases hown b hb' with h1|h1
    ·omega
    ·exact hf h1
   exact (hfr b (Nat.lt_of_lt_of_le hb h.below.size) hn).trans (h.frame b hb hf)
  loc:=h.loc.trans amo
  jO:=λi li b hi hlb=>by
   by_cases ei:i=id
   ·subst ei;have:Loc.row v' fz sz'=li:=by simpa[cc] using hi
    subst this;rcases hblk b hlb with h1|h1
    ·exact hown b h1
    ·exact .inl (le_trans h.below.size h1)
   ·exact h.jO i li b (by simpa[cc,ei] using hi) hlb
  size:=h.size
  env:=λt=>(h.env t).mono awz amo
  dom:=λi li hi=>by
   by_cases ei:i=id
   ·exact⟨.row v' e' sz' es',by simp[br,ei]⟩
   ·obtain⟨c,hc⟩:=h.dom i li (by simpa[cc,ei] using hi);exact⟨c,by simpa[br,ei] using hc⟩
  chunk:=λi c hc=>by
   by_cases ei:i=id
   ·subst ei;have:Chunk.row v' e' sz' es'=c:=by simpa[br] using hc
    subst this;refine⟨fz,us',by simp[cc],k2,k3,k4,λj u c hu hc=>?_,k6,λb hb o=>?_⟩
    ·rcases hK with ⟨_,e2⟩|⟨e1,aDG⟩
     ·rw[e2];exact k5 j u c hu hc
     ·rw[e1];refine (k5 j u c hu hc).isVal ?_;obtain⟨x,hx,hcx⟩:=mem_flatten.1 (mem_of_getElem? hc);exact all_eq_true.1 (all_eq_true.1 aDG x hx) c hcx
    ·rcases hK with ⟨_,e2⟩|⟨e1,_⟩
     ·rw[e2];exact k7 b hb o
     ·rw[e1];rcases hblk b hb with h1|h1
      ·exact awy b h1 o
      ·cases hI:I b o with
       |none=>rfl
       |some u=>exact absurd (h.mem.lt hI) (by omega)
   ·refine (h.chunk i c (by simpa[br,ei] using hc)).keep awz amo (by simp[cc,ei]) λli b hi hlb=>?_
    have hn:hdr.ownBlock≠some b:=λhb'=>ei (h.apart i id li _ b hi hl hlb hb')
    have hlt:=(h.fT i li b hi hlb).2;exact⟨hfr b hlt hn,λo=>hKn b o hlt hn⟩
  fT:=λi li b hi hlb=>by
   by_cases ei:i=id
   ·subst ei;have:Loc.row v' fz sz'=li:=by simpa[cc] using hi
    subst this;exact hs'.fT 1000000 _ b k1 hlb
   ·have:=h.fT i li b (by simpa[cc,ei] using hi) hlb;exact⟨this.1,Nat.lt_of_lt_of_le this.2 hs'.below.size⟩
  apart:=λi j li lj b hi hj tA wJ=>by
   have one:∀k lk,k≠id->L k=some lk->lk.has b->fz.ownBlock≠some b:=λk lk hk hlk hbk hb'=>by
    rcases hblk b hb' with h1|h1
    ·exact hk (h.apart k id lk _ b hlk hl hbk h1)
    ·have:=(h.fT k lk b hlk hbk).2;omega
   by_cases ei:i=id<;>by_cases ej:j=id
   ·rw[ei,ej]
   ·subst ei;have:Loc.row v' fz sz'=li:=by simpa[cc] using hi
    subst this;exact absurd tA (one j lj ej (by simpa[cc,ej] using hj) wJ)
   ·subst ej;have:Loc.row v' fz sz'=lj:=by simpa[cc] using hj
    subst this;exact absurd wJ (one i li ei (by simpa[cc,ei] using hi) tA)
   ·exact h.apart i j li lj b (by simpa[cc,ei] using hi) (by simpa[cc,ej] using hj) tA wJ }
end
def akX(H:au)(id:Nat):au:=λi=>if i=id then none else H i
theorem ag5(H:au)(id:Nat):HSub (akX H id) H:=λi c h=>by
 unfold akX at h;split at h
 ·cases h
 ·exact h
def uV(w:World)(r:Option Nat):Mem:=λb o=>if r=some b then none else w.cell? ⟨b,o,none⟩
def awA(P:Program)(o:Oper)(ρ:Operand->AV)(H:au)(Kr:AV->au->Prop):Prop :=
 ∃k id v e sz es eZ ps b Q,dA o ρ=some (k,.row id v :: eZ)/\H id=some (.row v e sz es)/\eT (gL (akX H id)) eZ=some (ps,b)/\mb P k v e sz es ps Q /\
  ∀a c,Q a c->∃v' e' sz' es' a',c=some (.row v' e' sz' es')/\arT id a=some a'/\(b=true->(es'.all λx=>x.all isVal)=true/\(match a' with | .p x=>x.scalar|_=>true)=true)/\Kr a' (br H id (.row v' e' sz' es'))
theorem amp{J K:Mem}{L':bA}{u:Value}{a a':AV}{id v' sz':Nat}{fz:Value}(h:dV J L' u a)(hb:arT id a=some a')(hl:L' 1000000=some (.row v' fz sz'))(hK:∀x,a' = .p x->VR J u x->VR K u x) :
  dV K (cc L id (.row v' fz sz')) u a':=by
 unfold arT at hb;split at hb
 ·simp only[cC] at hb;subst hb;exact .p _ _ (hK _ rfl h.nE)
 ·split at hb
  ·rename_i i v hi;simp only[cC] at hb;subst hb;subst hi;cases h with
   |row _ _ _ v1 mT sz1 qq hle hh h1=>rw[hl] at qq;simp only[cC,Loc.row.injEq] at qq;obtain⟨rfl,rfl,rfl⟩:=qq;exact .row u id v _ fz sz' (by simp[cc]) hle hh h1
  ·cases hb
 ·simp only[cC] at hb;subst hb;cases h with
  |dH us _ hl hv=>exact .dH us [] hl (by simp)
 ·cases hb
theorem akY{o:Oper}{ρ:Operand->AV}{H:au}{Kr:AV->au->Prop}(h:awA P o ρ H Kr){C:Ctx}{env:Env}{tm:Array Value}{w:World}(hs:gK C env H I L tm w){σ:Operand->Value}(hσ:∀x,dV I L (σ x) (ρ x)) :
  ∃k args,(execOp σ o).run P w = .ok (.enter k args) w/\Calls P k args w λe w'=>∃v I' L' a H',e = .returned v/\Kr a H'/\dV I' L' v a/\gK C env H' I' L' tm w':=by
 obtain⟨k,id,v,e,sz,es,eZ,ps,b,Q,h1,h2,h3,h4,h5⟩:=h;obtain⟨us,hr,hu⟩:=ni h1 h4.1 hσ w;refine⟨k,_,hr,?_⟩;cases us with
 |nil=>have:=hu.1;simp at this
 |cons aiY vs =>
  obtain⟨hdr,ws,q1,q2,q3,q4,q5,q6,q7⟩:=hs.chunk id _ h2;have hu0:=hu.2 0 aiY _ rfl rfl;have hone:aiY=hdr/\hdr.oneCell'=true:=by
   cases hu0 with
   |row _ _ _ v1 mT sz1 hl hle hh h1=>rw[q1] at hl;simp only[cC,Loc.row.injEq] at hl;obtain⟨_,r2,_⟩:=hl;subst r2;have:=hh (by assumption);subst this;exact⟨rfl,h1⟩
  obtain⟨rfl,h1c⟩:=hone;have ac6:oW I L vs eZ:=⟨by simpa using hu.1,λj u c hj hc=>hu.2 (j+1) u c hj hc⟩;cases b with
  |false =>
   obtain⟨k1,_,k3⟩:=kM (pX hs (ag5 H id) (mD hs.mem) ((sv L w).g _)) eZ ps false h3 vs ac6.1 ac6.2;refine (h4.2 C.B I w aiY ws vs hs.leB hs.mem ⟨q2,q3,q4,q5,q6,q7⟩ h1c ⟨k1,k3 rfl⟩).mono λx w' ⟨u,a,H',I',L',m1,m2,m3,m4⟩=>?_
   obtain⟨v',e',sz',es',a',n1,n2,_,n4⟩:=h5 a _ m2;obtain⟨fz,g1,g2,g3⟩:=hs.back h2 q1 (Mem.eA I) q7 m4 n1 (K:=I') (.inl ⟨rfl,rfl⟩);exact⟨u,I',_,a',_,m1,n4,amp m3 n2 g1 λ_ _ h=>h,g2⟩
  |true =>
   have hJ:I.sub (uV w aiY.ownBlock):=λb o u hu=>by
    unfold uV;split
    ·rename_i hb;rw[q7 b hb o] at hu;cases hu
    ·exact hs.mem b o u hu
   have hJn:∀b,aiY.ownBlock=some b->∀o,uV w aiY.ownBlock b o=none:=λb hb o=>by unfold uV;rw[if_pos hb]
   have hJw:(uV w aiY.ownBlock).inW w:=λb o u hu=>by
    unfold uV at hu;split at hu
    ·cases hu
    ·exact hu
   have afd:ag3 (akX H id) L w (uV w aiY.ownBlock):=λi ch hi l b hl hb o u hu=>by
    unfold uV;rw[if_neg]
    ·exact hu
    ·intro hb';have:=hs.apart i id l _ b hl q1 hb hb';subst this;simp[akX] at hi
   obtain⟨k1,k2,_⟩:=kM (pX hs (ag5 H id) hJ afd) eZ ps true h3 vs ac6.1 ac6.2;refine (h4.2 C.B (uV w aiY.ownBlock) w aiY ws vs hs.leB hJw ⟨q2,q3,q4,λj u c hu hc=>(q5 j u c hu hc).mono hJ,q6,hJn⟩ h1c ⟨k1,k2⟩).mono λx w' ⟨u,a,H',I',L',m1,m2,m3,m4⟩=>?_
   obtain⟨v',e',sz',es',a',n1,n2,n3,n4⟩:=h5 a _ m2;obtain⟨n5,n6⟩:=n3 rfl;obtain⟨fz,g1,g2,g3⟩:=hs.back h2 q1 hJ hJn m4 n1 (K:=I) (.inr ⟨rfl,n5⟩);exact⟨u,I,_,a',_,m1,n4,amp m3 n2 g1 λx hx h=>by subst hx;exact h.scalar n6,g2⟩
end Go.b7
namespace Go.b7
open Go.RowKit
variable{P:Program}{I:Mem}{L:bA}
open Classical in
noncomputable def Mem.uj(I:Mem)(L:bA)(w:World)(id:Nat):Mem:=λb o=>match L id with
 |some l=>if l.has b then w.cell? ⟨b,o,none⟩ else I b o
 |none=>I b o
theorem Mem.ag6{I:Mem}{w:World}(h:I.inW w)(L:bA)(id:Nat):I.sub (I.uj L w id):=λb o u hu=>by
 unfold Mem.uj;split
 ·split
  ·exact h b o u hu
  ·exact hu
 ·exact hu
theorem Fr.shut(C:Ctx)(I:Mem)(L:bA){H:au}(w:World){id v sz:Nat}{e:TypeId}{es:List (List PV)}(hH:H id=some (.row v e sz es)) :
  Fr C I L H w (I.uj L w id) L (br H id (.shut v es)) w:=λenv tm hs=>by
 have hsub:=Mem.ag6 hs.mem L id;have afd:∀l b,L id=some l->l.has b->∀o u,w.cell? ⟨b,o,none⟩=some u->I.uj L w id b o=some u:=λl b hl hb o u hu=>by unfold Mem.uj;rw[hl];simp[hb,hu]
 have aCN:∀i l b,i≠id->L i=some l->l.has b->∀o,I.uj L w id b o=I b o:=λi l b hne hl hb o=>by
  unfold Mem.uj;split
  ·rename_i l' hl';split
   ·rename_i hb';exact absurd (hs.apart i id l l' b hl hl' hb hb') hne
   ·rfl
  ·rfl
 obtain⟨hdr,us,h1,h2,h3,h4,h5,h6,h7⟩:=hs.chunk id _ hH;exact
 {below:=hs.below
  mem:=λb o u hu=>by
   unfold Mem.uj at hu;split at hu
   ·split at hu
    ·exact hu
    ·exact hs.mem b o u hu
   ·exact hs.mem b o u hu
  lW:=Mem.nK hs.lW hsub
  mS:=λb hb hf o=>by
   rw[<-hs.mS b hb hf o];unfold Mem.uj;split
   ·rename_i l hl;split
    ·rename_i hlb;rcases hs.jO id l b hl hlb with h|h
     ·omega
     ·exact absurd h hf
    ·rfl
   ·rfl
  frame:=hs.frame
  loc:=hs.loc
  jO:=hs.jO
  size:=hs.size
  env:=λt=>(hs.env t).mono hsub (dS.refl L)
  dom:=λi l hl=>by
   obtain⟨c,hc⟩:=hs.dom i l hl;by_cases e:i=id
   ·exact⟨.shut v es,by simp[br,e]⟩
   ·exact⟨c,by simpa[br,e] using hc⟩
  chunk:=λi c hc=>by
   by_cases e:i=id
   ·subst e;have:Chunk.shut v es=c:=by simpa[br] using hc
    subst this;refine⟨hdr,sz,h1,?_,h4,?_⟩
    ·have hfl:=bJ h4;have hlen:us.length=es.flatten.length:=by rw[hfl];exact h2.1
     rcases h2.2 with ⟨rfl,hn⟩|⟨g,cap,cur,rfl,hb,hg,hnc,hcm,hcs,kL⟩
     ·have he:es=[]:=length_eq_zero_iff.1 hn;subst he;exact .aL none 0 0 [] us sz rfl (by simp) hlen (λj u c hu hc=>(h5 j u c hu hc).mono hsub) h6 (.inl (length_eq_zero_iff.1 (by simpa using hlen))) (λ_=>⟨rfl,rfl⟩) (le_refl _)
     ·refine .aL _ _ _ es us sz rfl h4 hlen (λj u c hu hc=>(h5 j u c hu hc).mono hsub) h6 (.inr ⟨g,0,rfl,λj u hu=>?_⟩) (by simp) hnc;rw[zero_add];refine afd _ g h1 rfl j u ?_;rw[gM hg];rw[<-kL,getElem?_take] at hu;split at hu
      ·simpa using hu
      ·cases hu
    ·intro hne;rcases h2.2 with ⟨rfl,hn⟩|⟨g,cap,cur,rfl,_⟩
     ·exact absurd (length_eq_zero_iff.1 hn) hne
     ·exact⟨g,0,_,cap,rfl⟩
   ·exact (hs.chunk i c (by simpa[br,e] using hc)).keep hsub (dS.refl L) rfl λl b hl hb=>⟨rfl,λo=>aCN i l b e hl hb o⟩
  fT:=hs.fT
  apart:=hs.apart }
def arU(H:au)(id:Nat):au:=match H id with
 |some (.row v _ _ es)=>br H id (.shut v es)
 |_=>H
def dr:List Nat->au->au
 | [],H=>H
 |id :: r,H=>dr r (arU H id)
theorem Fr.dr(C:Ctx)(L:bA)(w:World):∀ (ids:List Nat) (H:au) (I:Mem),(I.inW w)->∃I',I.sub I'/\I'.inW w/\Fr C I L H w I' L (dr ids H) w
 | [],H,I,hw=>⟨I,Mem.eA I,hw,Fr.refl C I L H w⟩
 |id :: r,H,I,hw=>by
  unfold b7.dr arU;split
  ·rename_i v e sz es hH;have hw':(I.uj L w id).inW w:=λb o u hu=>by
    unfold Mem.uj at hu;split at hu
    ·split at hu
     ·exact hu
     ·exact hw b o u hu
    ·exact hw b o u hu
   obtain⟨I',h1,h2,h3⟩:=Fr.dr C L w r (br H id (.shut v es)) (I.uj L w id) hw';exact⟨I',Mem.nK (Mem.ag6 hw L id) h1,h2,(Fr.shut C I L w hH).trans h3⟩
  ·exact Fr.dr C L w r H I hw
def uW:List AV->List Nat
 | []=>[]
 | .row id _ :: r=>id :: uW r
 |_ :: r=>uW r
def pK:List (Nat×AV)->List Nat
 | []=>[]
 |(_,.row id _) :: r=>id :: pK r
 |(_,.agg cs) :: r=>uW cs++pK r
 |_ :: r=>pK r
def ac7(H:au)(a:AV):AV:=match a with
 | .row id bg=>match H id with
  |some (.shut v es)=>if v=bg then .p (.aL es) else .row id bg
  |_=>.row id bg
 |a=>a
def aaA(H:au)(a:AV):AV:=match a with
 | .agg cs=>.agg (cs.map (ac7 H))
 |a=>ac7 H a
theorem afY(a:AV):ac7 ct a=a:=by unfold ac7;cases a<;>rfl
theorem amq(a:AV):aaA ct a=a:=by
 unfold aaA;cases a with
 |agg cs =>
  have:cs.map (ac7 ct)=cs:=by rw[map_congr_left (λx _=>afY x),map_id']
  simp only[this]
 |_=>exact afY _
def y4(P:Program)(o:Oper)(ρ:Operand->AV)(H:au):Option (Prop×AV×au):=match o.op with
 | .buildSlice t n parts=>match mm P t n ((parts.toList.map λx=>(x.1,ρ x.2)).map λx=>(x.1,aaA (dr (pK (parts.toList.map λx=>(x.1,ρ x.2))) H) x.2)) with
  |some (_,es)=>some (True,.p (.aL es),dr (pK (parts.toList.map λx=>(x.1,ρ x.2))) H)
  |none=>none
 |_=>none
theorem afZ{C:Ctx}{H:au}{env:Env}{tm:Array Value}{w:World}(hs:gK C env H I L tm w){u:Value}{a:AV}(hu:dV I L u a):dV I L u (ac7 H a):=by
 unfold ac7;split
 ·rename_i id bg;split
  ·rename_i v es hH;split
   ·rename_i hv;subst hv;obtain⟨hdr,sz,h1,h2,_⟩:=hs.chunk id _ hH;cases hu with
    |row _ _ _ v1 mT sz1 hl hle hh hone=>rw[h1] at hl;simp only[cC,Loc.row.injEq] at hl;obtain⟨r1,r2,r3⟩:=hl;subst r1 r2 r3;rw[hh rfl];exact .p _ _ h2
   ·exact hu
  ·exact hu
 ·exact hu
theorem amr{C:Ctx}{H:au}{env:Env}{tm:Array Value}{w:World}(hs:gK C env H I L tm w){u:Value}{a:AV}(hu:dV I L u a):dV I L u (aaA H a):=by
 unfold aaA;split
 ·rename_i cs;cases hu with
  |agg us _ hl hv hone =>
   refine .agg us _ (by simpa using hl) (λj u c hu hc=>?_) hone;rw[getElem?_map] at hc;cases hj:cs[j]? with
   |none=>rw[hj] at hc;cases hc
   |some a=>rw[hj] at hc;simp only[map_some,cC] at hc;subst hc;exact afZ hs (hv j u a hu hj)
 ·exact afZ hs hu
theorem asM{o:Oper}{ρ:Operand->AV}{v:AV}{pre:Prop}{H H':au}(h:y4 P o ρ H=some (pre,v,H')){C:Ctx}{env:Env}{tm:Array Value}{w:World}
  (hs:gK C env H I L tm w) {σ:Operand->Value} (hσ:∀x,dV I L (σ x) (ρ x)):nV P C H I L w ((execOp σ o).run P w) v H':=by
 unfold y4 at h;unfold execOp;split at h
 ·rename_i t n parts hop;simp only[hop];split at h
  ·rename_i e es hb;simp only[cC,iF] at h;obtain⟨_,h2,h3⟩:=h;subst h2 h3;obtain⟨I',hsub,hw,hfr⟩:=Fr.dr C L w (pK (parts.toList.map λx=>(x.1,ρ x.2))) H I hs.mem;have hs':=hfr env tm hs;have hpr:=x3 (I:=I) (L:=L) hσ parts.toList;have aHt:agV I' L (parts.toList.map λx=>(x.1,σ x.2)) ((parts.toList.map λx=>(x.1,ρ x.2)).map λx=>(x.1,aaA (dr (pK (parts.toList.map λx=>(x.1,ρ x.2))) H) x.2)):=by
    refine⟨by simp,λj x y hx hy=>?_⟩;rw[getElem?_map] at hy;cases hj:(parts.toList.map λx=>(x.1,ρ x.2))[j]? with
    |none=>simp[hj] at hy
    |some z=>rw[hj] at hy;simp only[map_some,cC] at hy;obtain⟨k1,k2⟩:=hpr.2 j x z hx hj;subst hy;exact⟨k1,amr hs' (k2.mono hsub (dS.refl L))⟩
   obtain⟨uo,sz,hr,_,_,hpos,hn,hall,hl,hv,hone⟩:=xF hb aHt w;have hr':(Instr.buildSlice t n (parts.map λx=>(x.1,σ x.2))).run P w = .ok (.slice (some ⟨w.heap.size,0,none⟩) n n) (w.alloc (.cells uo.toArray e)):=by rw[<-hr];congr 2;apply Array.ext';simp
   refine⟨.slice (some ⟨w.heap.size,0,none⟩) n n,_,I'.with w.heap.size uo.toArray,L,.inl (by rw[run_lift,hr'];rfl),?_,hfr.trans (Fr.imm C I' L _ w _ e)⟩;have:=VR.akF (w:=w) (us:=uo) (rest:=[]) hw hall hl hv hone (cap:=n) (by omega);rw[append_nil] at this;rw[hn] at this;exact .p _ _ this
  ·cases h
 ·cases h
def kD(P:Program)(o:Oper)(ρ:Operand->AV)(H:au):Option (Prop×AV×au):=match vp P o ρ with
 |some (pre,v)=>some (pre,v,H)
 |none=>match ya P o ρ H with
  |some (pre,v)=>some (pre,v,H)
  |none=>match xU P o ρ H with
   |some r=>some r
   |none=>y4 P o ρ H
def isApp:Op->Bool
 | .call c=>(match c.callee with
  | .builtin .append=>true
  |_=>false)
 |_=>false
def orE(x:Option (Prop×AV×au))(b:Bool)(y:Option (Prop×AV×au)):Option (Prop×AV×au):=match x,b with
 |some r,_=>some r
 |none,true=>y
 |none,false=>none
def gi(P:Program)(own:List Nat)(o:Oper)(ρ:Operand->AV)(H:au):Option (Prop×AV×au):=match o.dst with
 |some d=>if own.contains d=true then orE (exN P o ρ H d) (isApp o.op) (kD P o ρ H) else kD P o ρ H
 |none=>kD P o ρ H
theorem vh{o:Oper}{ρ:Operand->AV}{v:AV}{pre:Prop}{H H':au}(h:kD P o ρ H=some (pre,v,H'))(hp:pre){C:Ctx}{env:Env}{tm:Array Value}{w:World}
  (hs:gK C env H I L tm w) {σ:Operand->Value} (hσ:∀x,dV I L (σ x) (ρ x)):nV P C H I L w ((execOp σ o).run P w) v H':=by
 unfold kD at h;split at h
 ·rename_i hx;simp only[cC,iF] at h;obtain⟨rfl,rfl,rfl⟩:=h;exact asD hx hp hs hσ
 ·split at h
  ·rename_i hx;simp only[cC,iF] at h;obtain⟨rfl,rfl,rfl⟩:=h;exact asH hx hp hs hσ
  ·split at h
   ·rename_i hx;simp only[cC] at h;subst h;exact asI hx hp hs hσ
   ·exact asM h hs hσ
theorem ams{own:List Nat}{o:Oper}{ρ:Operand->AV}{v:AV}{pre:Prop}{H H':au}(h:gi P own o ρ H=some (pre,v,H'))(hp:pre){C:Ctx}{env:Env}{tm:Array Value}{w:World}
  (hs:gK C env H I L tm w) {σ:Operand->Value} (hσ:∀x,dV I L (σ x) (ρ x)):nV P C H I L w ((execOp σ o).run P w) v H':=by
 unfold gi at h;split at h
 ·split at h
  ·unfold orE at h;split at h
   ·rename_i hx;exact asK (hx.trans h) hp hs hσ
   ·exact vh h hp hs hσ
   ·cases h
  ·exact vh h hp hs hσ
 ·exact vh h hp hs hσ
def cA(env:Env)(d:Option Nat)(v:AV):Env:=match d with
 |some d=>c9 env d v
 |none=>env
def vt(N:Nat)(d:Option Nat):Prop:=match d with
 |some d=>d<N
 |none=>True
theorem gK.cA{C:Ctx}{env:Env}{H:au}{tm:Array Value}{w:World}(h:gK C env H I L tm w){d:Option Nat}{u:Value}{v:AV}(hd:vt C.n d)(hv:dV I L u v)(ds:List Deferred) :
  gK C (cA env d v) H I L (Act.put ⟨tm,ds⟩ d u).tmps w:=by
 cases d with
 |none=>exact h
 |some d=>exact h.put hd hv
theorem dV.aAD{u:Value}(h:dV I L u (.dH [])):u = .tuple #[]:=by
 cases h with
 |dH us _ hl _=>have:us=[]:=length_eq_zero_iff.1 (by simpa using hl);rw[this]
def lX(ops:Array Oper)(o:Oper)(env:Env):Option Bool:=match o.guard with
 |none=>some true
 |some (j,want)=>match (ops[j]?).bind (·.dst) with
  |some d=>match env d with
   | .p (.val (.bool b))=>some (b == want)
   | .dH []=>some false
   |_=>none
  |none=>none
theorem nj{ops:Array Oper}{o:Oper}{env:Env}{g:Bool}(h:lX ops o env=some g){C:Ctx}{H:au}{tm:Array Value}{w:World}(hs:gK C env H I L tm w) :
  Region.wanted o (yielded ops tm)=g:=by
 unfold lX at h;unfold Region.wanted;split at h
 ·rename_i hg;simp at h;subst h;simp[hg]
 ·rename_i j want hg;rw[hg];dsimp only;split at h
  ·rename_i d hd;split at h
   ·rename_i b hb;simp at h;subst h;have hu:=hs.env d;rw[hb] at hu;have hu:=hu.dI.1;have hlt:d<tm.size:=by
     rcases lt_or_ge d tm.size with h|h
     ·exact h
     ·simp[Array.getElem?_eq_none h,undef] at hu
    have:tm[d]? = some (.bool b):=by rw[<-hu];simp[hlt]
    simp[yielded,hd,this]
   ·rename_i hb;simp at h;subst h;have hu:=hs.env d;rw[hb] at hu;have hu:=hu.aAD;have:∀b,tm[d]?≠some (.bool b):=λb hb=>by rw[Array.getD_eq_getD_getElem?,hb] at hu;cases hu
    cases ht:tm[d]? with
    |none=>simp[yielded,hd,ht]
    |some u =>
     cases u with
     |bool b=>exact absurd ht (this b)
     |_=>simp[yielded,hd,ht]
   ·cases h
  ·cases h
def ao5(x:AV):List Nat->Env->Env
 | [],env=>env
 |t :: r,env=>ao5 x r (cA env (some t) x)
theorem awB(x:AV)(env:Env):ao5 x [] env=env:=rfl
theorem asN(x:AV)(t:Nat)(r:List Nat)(env:Env):ao5 x (t :: r) env=ao5 x r (cA env (some t) x):=rfl
def holds(env:Env)(id v:Nat):List Nat->Prop
 | []=>True
 |t :: r=>env t = .row id v/\holds env id v r
theorem asO(env:Env)(id v:Nat):holds env id v []=True:=rfl
theorem ao6(env:Env)(id v t:Nat)(r:List Nat):holds env id v (t :: r)=(env t = .row id v/\holds env id v r):=rfl
theorem awC{C:Ctx}{env:Env}{H:au}{I:Mem}{L:bA}{tm:Array Value}{w:World}{id v t:Nat}{es:List (List PV)}(hs:gK C env H I L tm w)(hH:H id=some (.shut v es))(ht:env t = .row id v) :
  gK C (cA env (some t) (.p (.aL es))) H I L tm w:=by
 refine { hs with env:=λi=>?_ };unfold cA;simp only;unfold c9;split
 ·rename_i hi;subst hi;have h1:=hs.env i;rw[ht] at h1;generalize tm.getD i undef=u at h1 ⊢;obtain⟨hdr,sz,g1,g2,_⟩:=hs.chunk id _ hH;cases h1 with
  |row _ _ _ v' fz sz' hl hle h h1=>rw[g1] at hl;simp only[cC,Loc.row.injEq] at hl;obtain⟨rfl,rfl,rfl⟩:=hl;rw[h rfl];exact .p _ _ g2
 ·exact hs.env i
theorem afe{C:Ctx}{H:au}{I:Mem}{L:bA}{tm:Array Value}{w:World}{id v:Nat}{es:List (List PV)}(hH:H id=some (.shut v es)):∀ (ts:List Nat) (env:Env),ts.Nodup->gK C env H I L tm w->holds env id v ts ->
  gK C (ao5 (.p (.aL es)) ts env) H I L tm w
 | [],env,_,hs,_=>hs
 |t :: r,env,hn,hs,ht=>by
  rw[nodup_cons] at hn;refine afe hH r _ hn.2 (awC hs hH ht.1) ?_;have:∀r:List Nat,t ∉ r->holds env id v r->holds (cA env (some t) (.p (.aL es))) id v r:=by
   intro r
   induction r with
   |nil=>intro _ _;exact trivial
   |cons u r ih=>intro hn hh;refine⟨?_,ih (λh=>hn (mem_cons_of_mem _ h)) hh.2⟩;rw[<-hh.1];unfold cA;simp only;unfold c9;rw[if_neg];intro e;exact hn (by rw[e];exact mem_cons_self)
  exact this r hn.1 ht.2
def c8(env:Env)(H:au)(env':Env)(H':au):Prop:=∀C I L tm w,gK C env H I L tm w->∃I' L',gK C env' H' I' L' tm w
def aff(P:Program)(o:Oper)(W:Env->au->Prop)(env:Env)(H:au):Prop :=
 (∃ids,awt P o (ev env) (dr ids H) λx=>W (cA env o.dst (.p x)) (dr ids H))\/aDE P o (ev env) (λx=>W (cA env o.dst (.p x)) H) \/
  ∃ids,awx P o (ev env) (dr ids H) (λa H'=>W (cA env o.dst a) H')\/awA P o (ev env) (dr ids H) λa H'=>W (cA env o.dst a) H'
def ajt(P:Program)(o:Oper)(W:Env->au->Prop)(env:Env)(H:au):Prop:=∃v H',W (cA env o.dst v) H'/\∀ (C:Ctx) (I:Mem) (L:bA) (tm:Array Value) (w:World) (σ:Operand->Value),gK C env H I L tm w->(∀x,dV I L (σ x) (ev env x))->nV P C H I L w ((execOp σ o).run P w) v H'
def abb(P:Program)(o:Oper)(W:Env->au->Prop)(env:Env)(H:au):Prop :=
 ∀ (C:Ctx) (I:Mem) (L:bA) (tm:Array Value) (w:World) (σ:Operand->Value),gK C env H I L tm w->(∀x,dV I L (σ x) (ev env x)) ->
  ∃k args,(execOp σ o).run P w = .ok (.enter k args) w/\Calls P k args w λe w'=>∃v I' L' a H',e = .returned v/\W (cA env o.dst a) H'/\dV I' L' v a/\gK C env H' I' L' tm w'
def aDH(P:Program)(o:Oper)(W:Env->au->Prop)(env:Env)(H:au):Prop:=∃xG H2,c8 env H xG H2/\((∃pre v H',kD P o (ev xG) H2=some (pre,v,H')/\pre/\W (cA xG o.dst v) H')\/aff P o W xG H2\/ajt P o W xG H2\/abb P o W xG H2)
def iU(P:Program)(o:Oper)(W:Env->au->Prop)(env:Env)(H:au):Prop:=aff P o W env H\/aDH P o W env H\/ajt P o W env H\/abb P o W env H
def walk(P:Program)(N:Nat)(own:List Nat)(ops:Array Oper):List Oper->(Env->au->Prop)->Env->au->Prop
 | [],K,env,H=>K env H
 |o :: rest,K,env,H=>vt N o.dst/\match lX ops o env with
  |some true=>(match gi P own o (ev env) H with
   |some (pre,v,H')=>pre/\walk P N own ops rest K (cA env o.dst v) H'
   |none=>iU P o (walk P N own ops rest K) env H)
  |some false=>walk P N own ops rest K (cA env o.dst (.dH [])) H
  |none=>False
theorem nV.upon{C:Ctx}{H H':au}{w:World}{r:Result Next}{v:AV}(h:nV P C H I L w r v H'){o:Oper}{a:Act}{next:Act->World->Prop}{Q:Exit->Act->World->Prop}
  (hn:∀u w' I' L',dV I' L' u v->Fr C I L H w I' L' H' w'->next (a.put o.dst u) w'):o.upon P a next Q r:=by
 obtain⟨u,w',I',L',hr,ha,hf⟩:=h;rcases hr with rfl|⟨rfl,rfl⟩
 ·exact hn u w' I' L' ha hf
 ·exact hn undef w' I' L' ha hf
theorem aci{o:Oper}{env:Env}{H:au}{W:Env->au->Prop}(h:aff P o W env H\/ajt P o W env H\/abb P o W env H){C:Ctx}{tm:Array Value}{ds:List Deferred}{w:World}(hs:gK C env H I L tm w)(hd:vt C.n o.dst){next:Act->World->Prop}{Q:Exit->Act->World->Prop}
  (hW:∀env' H' I' L' tm' w',W env' H'->gK C env' H' I' L' tm' w'->next ⟨tm',ds⟩ w'):o.wp P ⟨tm,ds⟩ w next Q:=by
 have hσ:=λx=>qM hs ds x
 unfold Oper.wp;have hput:∀ {w':World} {I' L':_} {H':au} {u:Value} {v:AV},W (cA env o.dst v) H'->dV I' L' u v->Fr C I L H w I' L' H' w'->next (Act.put ⟨tm,ds⟩ o.dst u) w':=by
  intro w' I' L' H' u v hw ha hf;have:=(hf env tm hs).cA hd ha ds;have e:(Act.put ⟨tm,ds⟩ o.dst u:Act)=⟨(Act.put ⟨tm,ds⟩ o.dst u).tmps,ds⟩:=by cases o.dst<;>rfl
  rw[e];exact hW _ _ I' L' _ w' hw this
 rcases h with h|⟨v,H',hw,hy⟩|h
 ·rcases h with ⟨ids,hc⟩|he|⟨ids,hc⟩
  case inr.inl=>obtain⟨u,x,hr,hv,hw⟩:=ao3 he (w:=w) hσ;exact (nV.still (C:=C) (H:=H) hr (dV.p _ _ hv)).upon λu w' I' L' ha hf=>hput hw ha hf
  case inr.inr =>
   obtain⟨I1,hsub,hw1,hfr⟩:=Fr.dr C L w ids H I hs.mem;have hs1:=hfr env tm hs;obtain⟨k,args,hr,ag7⟩:=hc.elim (λhc=>akU hc hs1 (λx=>qM hs1 ds x)) (λhc=>akY hc hs1 (λx=>qM hs1 ds x));rw[hr,Oper.upon_enter];refine ag7.mono λe w' ⟨v,I',L',a,H',he,hw,hv,hs'⟩=>?_
   subst he;have:=hs'.cA hd hv ds;have e:(Act.put ⟨tm,ds⟩ o.dst v:Act)=⟨(Act.put ⟨tm,ds⟩ o.dst v).tmps,ds⟩:=by cases o.dst<;>rfl
   show next (Act.put ⟨tm,ds⟩ o.dst v) w'
   rw[e];exact hW _ _ I' L' _ w' hw this
  obtain⟨I1,hsub,hw1,hfr⟩:=Fr.dr C L w ids H I hs.mem;have hs1:=hfr env tm hs;obtain⟨k,args,hr,ag7⟩:=amn hc hs1 (λx=>qM hs1 ds x);rw[hr,Oper.upon_enter];refine ag7.mono λe w' ⟨v,I',x,he,hw,hv,hf⟩=>?_
  subst he;exact hput hw (.p _ _ hv) (hfr.trans hf)
 ·exact (hy C I L tm w _ hs hσ).upon λu w' I' L' ha hf=>hput hw ha hf
 ·obtain⟨k,args,hr,ag7⟩:=h C I L tm w _ hs hσ;rw[hr,Oper.upon_enter];refine ag7.mono λe w' ⟨v,I',L',a,H',he,hw,hv,hs'⟩=>?_
  subst he;have:=hs'.cA hd hv ds;have e:(Act.put ⟨tm,ds⟩ o.dst v:Act)=⟨(Act.put ⟨tm,ds⟩ o.dst v).tmps,ds⟩:=by cases o.dst<;>rfl
  show next (Act.put ⟨tm,ds⟩ o.dst v) w'
  rw[e];exact hW _ _ I' L' _ w' hw this
theorem akZ{own:List Nat}{o:Oper}{env:Env}{H:au}{W:Env->au->Prop}(h:match gi P own o (ev env) H with
   |some (pre,v,H')=>pre/\W (cA env o.dst v) H'
   |none=>iU P o W env H) {C:Ctx} {tm:Array Value} {ds:List Deferred} {w:World} (hs:gK C env H I L tm w) (hd:vt C.n o.dst) {next:Act->World->Prop} {Q:Exit->Act->World->Prop}
  (hW:∀env' H' I' L' tm' w',W env' H'->gK C env' H' I' L' tm' w'->next ⟨tm',ds⟩ w'):o.wp P ⟨tm,ds⟩ w next Q:=by
 split at h
 ·rename_i pre v H' hx;obtain⟨hp,hw⟩:=h;have hσ:=λx=>qM hs ds x
  unfold Oper.wp;refine (ams hx hp hs hσ).upon λu w' I' L' ha hf=>?_
  have:=(hf env tm hs).cA hd ha ds;have e:(Act.put ⟨tm,ds⟩ o.dst u:Act)=⟨(Act.put ⟨tm,ds⟩ o.dst u).tmps,ds⟩:=by cases o.dst<;>rfl
  rw[e];exact hW _ _ I' L' _ w' hw this
 ·rcases h with h|⟨xG,H2,q1,h⟩|h|h
  ·exact aci (.inl h) hs hd hW
  ·obtain⟨I2,L2,h2⟩:=q1 C I L tm w hs;rcases h with ⟨pre,v,H',q4,q5,q6⟩|h
   ·unfold Oper.wp;refine (vh q4 q5 h2 (λy=>qM h2 ds y)).upon λu w' I' L' ha hf=>?_
    have:=(hf _ tm h2).cA hd ha ds;have e:(Act.put ⟨tm,ds⟩ o.dst u:Act)=⟨(Act.put ⟨tm,ds⟩ o.dst u).tmps,ds⟩:=by cases o.dst<;>rfl
    rw[e];exact hW _ _ I' L' _ w' q6 this
   ·exact aci h h2 hd hW
  ·exact aci (.inr (.inl h)) hs hd hW
  ·exact aci (.inr (.inr h)) hs hd hW
theorem adB{N:Nat}{own:List Nat}{ops:Array Oper}{K:Env->au->Prop}{Q:Exit->Act->World->Prop}{C:Ctx}{ds:List Deferred}(hN:C.n=N)
  (hK:∀env H I L tm w,K env H->gK C env H I L tm w->Q .normal ⟨tm,ds⟩ w):∀ (l:List Oper) (env:Env) (H:au) (I:Mem) (L:bA) (tm:Array Value) (w:World),
  walk P N own ops l K env H->gK C env H I L tm w->wpList P ops Q l ⟨tm,ds⟩ w
 | [],env,H,I,L,tm,w,h,hs=>hK env H I L tm w h hs
 |o :: rest,env,H,I,L,tm,w,h,hs=>by
  obtain⟨hd,h⟩:=h;rw[<-hN] at hd;unfold wpList;split at h
  ·rename_i hg;rw[if_pos (nj hg hs)];exact .inl (akZ h hs hd λenv' H' I' L' tm' w' hw hs'=>adB hN hK rest env' H' I' L' tm' w' hw hs')
  ·rename_i hg;rw[if_neg (by rw[nj hg hs];simp)];have e:(Act.put ⟨tm,ds⟩ o.dst undef:Act)=⟨(Act.put ⟨tm,ds⟩ o.dst undef).tmps,ds⟩:=by cases o.dst<;>rfl
   rw[e];exact adB hN hK rest _ H I L _ w h (hs.cA hd (.dH [] [] rfl (by simp)) ds)
  ·exact h.elim
end Go.b7
namespace Go.b7
open Go.RowKit
variable{P:Program}{I:Mem}{L:bA}
abbrev qN:=Exit->Env->au->Prop
theorem c8.refl(env:Env)(H:au):c8 env H env H:=λ_ I L _ _ h=>⟨I,L,h⟩
theorem c8.trans{e1 e2 e3:Env}{H1 H2 H3:au}(h:c8 e1 H1 e2 H2)(k:c8 e2 H2 e3 H3):c8 e1 H1 e3 H3:=λC I L tm w hs=>by obtain⟨I1,L1,h1⟩:=h C I L tm w hs;exact k C I1 L1 tm w h1
def wR(P:Program)(N:Nat)(own:List Nat)(ops:Array Oper)(K:Env->au->Prop)(env:Env)(H:au):Prop:=∀C I L tm w,C.n=N->gK C env H I L tm w->wpAny P .any ops (λe a w'=>a.defers=[]/\e = .normal/\∃env' H' I' L',K env' H'/\gK C env' H' I' L' a.tmps w') ops.size (Array.replicate ops.size false) ⟨tm,[]⟩ { w with drawn:=w.drawn+1 }
def amt(W:qN->Env->au->Prop)(K:qN)(env:Env)(H:au):Prop :=
 ∃Inv:Nat->Env->au->Prop,(∃n e2 H2,Inv n e2 H2/\c8 env H e2 H2) /\
  ∀n e H,Inv n e H->W (λx e' H'=>match x with
   | .normal=>∃m e2 H2,m<n/\Inv m e2 H2/\c8 e' H' e2 H2
   |x=>K x e' H') e H
def yd(X Y:Prop)(c:AV):Prop:=match c with
 | .p (.val (.bool b))=>(b=true->X)/\(b=false->Y)
 |_=>False
def cw(P:Program)(N:Nat)(own:List Nat):Code->qN->Env->au->Prop
 | .skip,K,env,H=>K .normal env H
 | .label _,K,env,H=>K .normal env H
 | .region _ ops false,K,env,H=>walk P N own ops ops.toList (K .normal) env H
 | .region _ ops true,K,env,H=>wR P N own ops (K .normal) env H
 | .seq a b, K, env, H => cw P N own a (fun x e' H' => match x with
   | .normal=>cw P N own b K e' H'
   |x=>K x e' H') env H
 | .cond c a b,K,env,H=>yd (cw P N own a K env H) (cw P N own b K env H) (ev env c)
 | .block id c, K, env, H => cw P N own c (fun x e' H' => match x with
   | .exit id'=>if id'=id then K .normal e' H' else K (.exit id') e' H'
   |x=>K x e' H') env H
 | .loop c,K,env,H=>amt (cw P N own c) K env H
 | .exit id,K,env,H=>K (.exit id) env H
 | .ret,K,env,H=>K .ret env H
 |_,_,_,_=>False
def lift(C:Ctx)(K:qN):Exit->Act->World->Prop:=λe a w=>a.defers=[]/\∃env H I L,K e env H/\gK C env H I L a.tmps w
theorem pY{N:Nat}{own:List Nat}(hm:P.follows .mixedOrders=true):∀ (c:Code) (K:qN) (C:Ctx),C.n=N->∀env H I L tm w,cw P N own c K env H->gK C env H I L tm w->c.wp P (lift C K) ⟨tm,[]⟩ w
 | .skip,K,C,hN,env,H,I,L,tm,w,h,hs=>wp_skip ⟨rfl,env,H,I,L,h,hs⟩
 | .label _,K,C,hN,env,H,I,L,tm,w,h,hs=>wp_label ⟨rfl,env,H,I,L,h,hs⟩
 | .region _ ops false,K,C,hN,env,H,I,L,tm,w,h,hs=>by refine wp_region ?_;have:=wpOps_eq_wpList (P:=P) (ops:=ops) (Q:=lift C K) ops.toList 0 (by simp);rw[range_eq_range',<-Array.length_toList,this];exact adB hN (λenv H I L tm w hk hs=>⟨rfl,env,H,I,L,hk,hs⟩) ops.toList env H I L tm w h hs
 | .region _ ops true,K,C,hN,env,H,I,L,tm,w,h,hs=>by refine wp_mono (Q:=λe a w'=>a.defers=[]/\e = .normal/\∃env' H' I' L',K .normal env' H'/\gK C env' H' I' L' a.tmps w') (wp_region_any hm (h C I L tm w hN hs)) ?_;rintro e a w ⟨h1,rfl,env',H',I',L',h2,h3⟩;exact⟨h1,env',H',I',L',h2,h3⟩
 | .seq a b,K,C,hN,env,H,I,L,tm,w,h,hs=>by
  refine wp_seq (wp_mono (pY hm a _ C hN env H I L tm w h hs) ?_);rintro e ac w ⟨h1,env',H',I',L',h2,h3⟩;cases ac with
  |mk tmps ds =>
   simp only at h1 h3;subst h1;cases e with
   |normal=>exact pY hm b K C hN env' H' I' L' tmps w h2 h3
   |_=>exact⟨rfl,env',H',I',L',h2,h3⟩
 | .cond c a b,K,C,hN,env,H,I,L,tm,w,h,hs=>by
  have h:yd (cw P N own a K env H) (cw P N own b K env H) (ev env c):=h;have hc:=qM hs [] c;unfold yd at h;split at h
  ·rename_i t ht;rw[ht] at hc;exact wp_cond_split hc.dI.1 (λht=>pY hm a K C hN env H I L tm w (h.1 ht) hs) (λht=>pY hm b K C hN env H I L tm w (h.2 ht) hs)
  ·exact h.elim
 | .block id c,K,C,hN,env,H,I,L,tm,w,h,hs=>by
  refine wp_block (wp_mono (pY hm c _ C hN env H I L tm w h hs) ?_);rintro e ac w ⟨h1,env',H',I',L',h2,h3⟩;cases e with
  |exit id' =>
   simp only[Exit.inBlock];dsimp only at h2;split
   ·rename_i he;rw[if_pos he] at h2;exact⟨h1,env',H',I',L',h2,h3⟩
   ·rename_i he;rw[if_neg he] at h2;exact⟨h1,env',H',I',L',h2,h3⟩
  |_=>exact⟨h1,env',H',I',L',h2,h3⟩
 | .loop c,K,C,hN,env,H,I,L,tm,w,h,hs=>by
  obtain⟨Inv,⟨n0,e0,H0,hi0,hw0⟩,aCO⟩:=h;intro b k cs
  have key : ∀ n, ∀ e H I L tm w, Inv n e H → gK C e H I L tm w →
    ∃x a' w',lift C K x a' w'/\Arrives P (lone (b.at ⟨tm,[]⟩ (.code c :: .inLoop c :: k)) cs w) b k cs x a' w':=by
   intro n
   induction n using Nat.strongRecOn with
   |_ n ih =>
    intro e H I L tm w hi hs;obtain⟨x,a',w',hq,aea⟩:=pY hm c _ C hN e H I L tm w (aCO n e H hi) hs b (.inLoop c :: k) cs;obtain⟨hd,e',H',I',L',hq,hs'⟩:=hq;cases a' with
    |mk tmps ds =>
     simp only at hd hs';subst hd;cases x with
     |normal=>obtain⟨m,e2,H2,hlt,hi2,hwk⟩:=hq;obtain⟨I2,L2,hs2⟩:=hwk C I' L' tmps w' hs';obtain⟨x,a2,w2,hq2,aDI⟩:=ih m hlt e2 H2 I2 L2 tmps w' hi2 hs2;exact⟨x,a2,w2,hq2,.of_steps (Steps.trans aea (.one step_inLoop)) aDI⟩
     |exit id=>exact⟨_,_,w',⟨rfl,e',H',I',L',hq,hs'⟩,.pass (x:=.inLoop c) rfl (λ_ _=>.inl (by simp)) aea⟩
     |goto l=>exact⟨_,_,w',⟨rfl,e',H',I',L',hq,hs'⟩,.pass (x:=.inLoop c) rfl (λ_ _=>.inl (by simp)) aea⟩
     |ret=>exact⟨_,_,w',⟨rfl,e',H',I',L',hq,hs'⟩,.pass (x:=.inLoop c) rfl (λ_ _=>.inl (by simp)) aea⟩
     |panic ch=>exact⟨_,_,w',⟨rfl,e',H',I',L',hq,hs'⟩,.pass (x:=.inLoop c) rfl (λ_ _=>.inl (by simp)) aea⟩
     |outgrown=>exact⟨_,_,w',⟨rfl,e',H',I',L',hq,hs'⟩,.pass (x:=.inLoop c) rfl (λ_ _=>.inl (by simp)) aea⟩
  obtain⟨I0,L0,hs0⟩:=hw0 C I L tm w hs;obtain⟨x,a',w',hq,aea⟩:=key n0 e0 H0 I0 L0 tm w hi0 hs0;exact⟨x,a',w',hq,.of_steps (.one step_loop) aea⟩
 | .exit id,K,C,hN,env,H,I,L,tm,w,h,hs=>wp_exit ⟨rfl,env,H,I,L,h,hs⟩
 | .ret,K,C,hN,env,H,I,L,tm,w,h,hs=>wp_ret ⟨rfl,env,H,I,L,h,hs⟩
 | .goto _,K,C,hN,env,H,I,L,tm,w,h,hs=>h.elim
 | .rangeFunc _ _ _ _,K,C,hN,env,H,I,L,tm,w,h,hs=>h.elim
 | .scope _,K,C,hN,env,H,I,L,tm,w,h,hs=>h.elim
 | .refuse _,K,C,hN,env,H,I,L,tm,w,h,hs=>h.elim
def iR(args:List PV):Env:=λt=>match args[t]? with
 |some x=>.p x
 |none=>.dead
def acC(P:Program)(env:Env)(H:au):ResultVar->Option AV
 | .tmp t=>some (env t)
 | .cell a t=>match env a with
  | .ptr id off=>match H id with
   |some (.box cs)=>tB P t cs off
   |_=>none
  |_=>none
def amu(P:Program)(env:Env)(H:au):List ResultVar->Option (List AV)
 | []=>some []
 |r :: rs=>match acC P env H r,amu P env H rs with
  |some a,some eZ=>some (a :: eZ)
  |_,_=>none
def pq(P:Program)(env:Env)(H:au)(rs:List ResultVar):Option AV:=match amu P env H rs with
 |some [a]=>some a
 |some eZ=>some (.dH eZ)
 |none=>none
def awD(P:Program)(env:Env)(H:au)(rs:List ResultVar):Option PV:=match pq P env H rs with
 |some a=>match afX H a with
  |some (x,_)=>some x
  |none=>none
 |none=>none
def aAE(P:Program)(rs:List ResultVar)(Q:PV->Prop):qN:=λe env H=>match e with
 | .normal | .ret=>(match awD P env H rs with
  |some r=>Q r
  |none=>False)
 |_=>False
def ag8(tm:Array Value):ResultVar->Sem Value
 | .tmp t=>pure (tm.getD t undef)
 | .cell a t=>do loadVar t (<-asAddr (tm.getD a undef))
theorem adC{C:Ctx}{env:Env}{H:au}{tm:Array Value}{w:World}(hs:gK C env H I L tm w):∀ (rs:List ResultVar) (eZ:List AV),amu P env H rs=some eZ ->
  ∃us:List Value,(rs.mapM (ag8 tm)).run P w = .ok us w/\oW I L us eZ
 | [],eZ,h=>by simp[amu] at h;subst h;exact⟨[],by simp,rfl,by simp⟩
 |r :: rs,eZ,h=>by
  simp only[amu] at h;split at h
  ·rename_i a as' h1 h2;simp only[cC] at h;subst h;obtain⟨us,hr,hu⟩:=adC hs rs as' h2;have one:∃u,(ag8 tm r).run P w = .ok u w/\dV I L u a:=by
    unfold acC at h1;split at h1
    ·rename_i t;simp only[cC] at h1;subst h1;exact⟨_,rfl,hs.env t⟩
    ·rename_i b t;split at h1
     ·rename_i id off hb;split at h1
      ·rename_i cs hH;have hbv:=hs.env b;rw[hb] at hbv;obtain⟨blk,arr,e,g1,g2,g3,g4,g5,g6⟩:=hs.chunk id _ hH;have hres:∀ub,tm.getD b undef=ub->(ag8 tm (.cell b t)).run P w=(do loadVar t (<-asAddr ub):Sem Value).run P w:=λub h=>by show (do loadVar t (<-asAddr (tm.getD b undef)):Sem Value).run P w=_;rw[h]
       rw[hres _ rfl];generalize tm.getD b undef=ub at hbv ⊢;cases hbv with
       |ptr _ b' _ hl =>
        rw[g1] at hl;simp only[cC,Loc.box.injEq] at hl;subst hl;obtain⟨u,hru,hua⟩:=acg (I:=I) (L:=L) (w:=w) (b:=blk) (base:=0) (us:=arr.toList) h1 (by simpa using g3) (λj u c hu hc=>g4 j u c (by simpa using hu) hc)
         (λu hu=>by
          obtain⟨j,hj⟩:=mem_iff_getElem?.1 hu;exact g5 j u (by simpa using hj)) (λj u hu=>by rw[zero_add,gM g2];simpa using hu)
        rw[zero_add] at hru;exact⟨u,by simp[asAddr,hru],hua⟩
      ·cases h1
     ·cases h1
   obtain⟨u,hru,hua⟩:=one;refine⟨u :: us,?_,by simp[hu.1],λj v b hv hb=>?_⟩
   ·simp only[mapM_cons,Sem.run_bind,hru,Result.andThen_ok,hr,Sem.run_pure]
   ·cases j with
    |zero=>simp at hv hb;subst hv hb;exact hua
    |succ j=>exact hu.2 j v b (by simpa using hv) (by simpa using hb)
  ·cases h
theorem wS{C:Ctx}{env:Env}{H:au}{tm:Array Value}{w:World}(hs:gK C env H I L tm w){fn:Func}{a:AV}(h:pq P env H fn.results.toList=some a) :
  ∃u,(results fn tm).run P w = .ok u w/\dV I L u a:=by
 have hres:∀us:List Value,(fn.results.toList.mapM (ag8 tm)).run P w = .ok us w->(results fn tm).run P w = .ok (if h:us.toArray.size=1 then us.toArray[0] else .tuple us.toArray) w:=by
  intro us hr;have e:results fn tm=(do let vs <-fn.results.mapM (ag8 tm);pure (if h:vs.size=1 then vs[0] else .tuple vs)):=by unfold results;congr 2
  rw[e,Sem.run_bind,Array.mapM_eq_mapM_toList,Sem.run_map,hr];rfl
 unfold pq at h;split at h
 ·rename_i a' hl;simp only[cC] at h;subst h;obtain⟨us,hr,hu⟩:=adC hs _ _ hl;refine⟨_,hres us hr,?_⟩;have hlen:us.length=1:=by simpa using hu.1
  rw[dif_pos (by simpa using hlen)];cases us with
  |nil=>simp at hlen
  |cons u r=>exact hu.2 0 u _ rfl rfl
 ·rename_i eZ hne hl;simp only[cC] at h;subst h;obtain⟨us,hr,hu⟩:=adC hs _ _ hl;refine⟨_,hres us hr,?_⟩;have hlen:¬ us.length=1:=λe=>by
   have:eZ.length=1:=by rw[<-hu.1];exact e
   cases eZ with
   |nil=>simp at this
   |cons a r =>
    have:r=[]:=by simpa using this
    subst this;exact hne a rfl
  rw[dif_neg (by simpa using hlen)];exact .dH us eZ hu.1 hu.2
 ·cases h
def Mem.all(I:Mem)(B:Nat)(w:World):Mem:=λb o=>if b<B then I b o else w.cell? ⟨b,o,none⟩
theorem af0{f:FuncId}{fn:Func}{c:Code}{args:List PV}{Q:PV->Prop}(own:List Nat)(hm:P.follows .mixedOrders=true)(hf:P.funcs[f]? = some fn)(hb:fn.body=some c)
  (hc:gA P f=true) (hn:args.length<=fn.ntmps) (h:cw P fn.ntmps own c (aAE P fn.results.toList Q) (iR args) ct):aD P f args Q:=by
 refine⟨hc,λI w vs hI hv=>calls_of_wp hf hb ?_⟩;let C:Ctx:=Ctx.of w I fn.ntmps;have hlen:vs.length<=fn.ntmps:=by rw[hv.1];exact hn
 have hs:gK C (iR args) ct I (λ_=>none) (vs.toArray++Array.replicate (fn.ntmps-vs.toArray.size) undef) w :=
  {below:=Below.refl _ _
   mem:=hI
   lW:=Mem.eA I
   mS:=λ_ _ _ _=>rfl
   frame:=λ_ _ _=>rfl
   loc:=λ_=>trivial
   jO:=λid l b h=>by cases h
   size:=by simp;show vs.length+(fn.ntmps-vs.length)=fn.ntmps;omega
   env:=λt=>by
    unfold iR;split
    ·rename_i x hx;have ht:t<vs.length:=by rw[hv.1];exact (List.getElem?_eq_some_iff.1 hx).1
     refine .p _ _ (hv.2 t _ x ?_ hx);rw[getElem?_eq_getElem ht];simp[Array.getElem?_append,ht]
    ·exact .dead _
   dom:=λid l h=>by cases h
   chunk:=λid ch h=>by cases h
   fT:=λid l b h=>by cases h
   apart:=λi j li lj b h=>by cases h }
 refine wp_mono (pY hm c _ C rfl _ _ I _ _ w h hs) ?_;rintro e a w' ⟨hd,env',H',I',L',hk,hs'⟩;have fin:(match awD P env' H' fn.results.toList with|some r=>Q r|none=>False)->bodyPost P fn (λe w'=>∃v r I',e = .returned v/\Q r/\VR I' v r/\Below w.heap.size w w'/\I.sub I'/\I'.inW w'/\∀b,b<w.heap.size->∀o,I' b o=I b o) .normal a w':=by
  intro hk;unfold awD at hk;split at hk
  ·rename_i r hr;split at hr
   ·rename_i av hav;split at hr
    ·rename_i x b hl;simp only[cC] at hr;subst hr;obtain⟨u,hru,hua⟩:=wS hs' hav;have hsub:I'.sub (I'.all C.B w'):=λb o u hu=>by
      unfold Mem.all;split
      ·exact hu
      ·exact hs'.mem b o u hu
     have afd:aAB L' w' (I'.all C.B w'):=λid l b hl hlb o u hu=>by unfold Mem.all;rw[if_neg (by have:=(hs'.fT id l b hl hlb).1;omega)];exact hu
     refine⟨hd,u,hru,u,x,I'.all C.B w',rfl,hk,(aws hs' (vg H') hsub (afd.g H') u av x b hua hl).1,hs'.below,Mem.nK hs'.lW hsub,?_,?_⟩
     ·intro b o u hu;unfold Mem.all at hu;split at hu
      ·exact hs'.mem b o u hu
      ·exact hu
     ·intro b hb o;unfold Mem.all;rw[if_pos (show b<C.B from hb)];exact hs'.mS b hb (λh=>h) o
    ·cases hr
   ·cases hr
  ·exact hk.elim
 cases e with
 |normal=>exact fin hk
 |ret=>exact fin hk
 |exit id=>exact hk.elim
 |goto l=>exact hk.elim
 |panic c=>exact hk.elim
 |outgrown=>exact hk.elim
mutual
def qg(H:au):AV->Option (RV×List Nat)
 | .p x=>some (.p x,[])
 | .row id bg=>match H id with
  |some (.row v e sz es)=>if v=bg then some (.row e sz es,[id]) else none
  |some (.shut v es)=>if v=bg then some (.p (.aL es),[]) else none
  |_=>none
 | .fm id bg=>match H id with
  |some (.deep v e sz k e' sz' es)=>if v=bg then some (.deep e sz k e' sz' es,[id]) else none
  |_=>none
 | .agg cs=>match ye H cs with
  |some (rs,ids)=>some (.agg rs,ids)
  |none=>none
 | .dH cs=>match ye H cs with
  |some (rs,ids)=>some (.dH rs,ids)
  |none=>none
 |_=>none
def ye(H:au):List AV->Option (List RV×List Nat)
 | []=>some ([],[])
 |a :: r=>match qg H a,ye H r with
  |some (x,i),some (xs,j)=>some (x :: xs,i++j)
  |_,_=>none
end
inductive RLe:RV->RV->Prop
 |refl (r:RV):RLe r r
 |nil (e:TypeId) (sz:Nat) (h:0<sz):RLe (.p (.val (.slice none 0 0))) (.row e sz [])
 |aDJ:RLe (.p (.val (.slice none 0 0))) (.p (.aL []))
 |agg (rs rs':List RV) (hl:rs'.length=rs.length) (h:∀ (j:Nat) r' r,rs'[j]? = some r'->rs[j]? = some r->RLe r' r):RLe (.agg rs') (.agg rs)
 |dH (rs rs':List RV) (hl:rs'.length=rs.length) (h:∀ (j:Nat) r' r,rs'[j]? = some r'->rs[j]? = some r->RLe r' r):RLe (.dH rs') (.dH rs)
def aAF(P:Program)(rs:List ResultVar)(Q:RV->Prop):qN:=λe env H=>match e with
 | .normal | .ret=>(match pq P env H rs with
  |some a=>(match qg H a with
   |some (r,ids)=>ids.Nodup/\∃r',RLe r r'/\Q r'
   |none=>False)
  |none=>False)
 |_=>False
theorem RLe.sound{r r':RV}(h:RLe r r'):∀ {w:World} {B:Nat} {J:Mem} {u:Value} {bs:List Nat},ze w B J u r bs->ze w B J u r' bs:=by
 induction h with
 |refl r=>exact λh=>h
 |nil e sz hsz =>
  intro w B J u bs h;cases h with
  |p _ _ h=>cases h;exact .row (.slice none 0 0) e sz [] [] ⟨⟨by simp,.inl ⟨rfl,rfl⟩⟩,hsz,by simp,by simp,by simp,λb hb=>by simp[Value.ownBlock] at hb⟩ rfl
 |aDJ =>
  intro w B J u bs h;cases h with
  |p _ _ h=>cases h;exact .p _ _ (.aL none 0 0 [] [] 1 rfl (by simp) rfl (by simp) (by simp) (.inl rfl) (λ_=>⟨rfl,rfl⟩) (le_refl _))
 |agg rs rs' hl h ih =>
  intro w B J u bs hr;cases hr with
  |agg us _ bs q1 q2 q3 q4 =>
   refine .agg us rs bs (q1.trans hl) q2 (λj u r b hu hr hb=>?_) q4;obtain⟨r',hr'⟩:∃r',rs'[j]? = some r':=by have hj:j<us.length:=(List.getElem?_eq_some_iff.1 hu).1;exact⟨rs'[j]'(by omega),by simp[q1 ▸ hj]⟩
   exact ih j r' r hr' hr (q3 j u r' b hu hr' hb)
 |dH rs rs' hl h ih =>
  intro w B J u bs hr;cases hr with
  |dH us _ bs q1 q2 q3 =>
   refine .dH us rs bs (q1.trans hl) q2 (λj u r b hu hr hb=>?_);obtain⟨r',hr'⟩:∃r',rs'[j]? = some r':=by have hj:j<us.length:=(List.getElem?_eq_some_iff.1 hu).1;exact⟨rs'[j]'(by omega),by simp[q1 ▸ hj]⟩
   exact ih j r' r hr' hr (q3 j u r' b hu hr' hb)
def nk(L:bA):List Nat->List Nat
 | []=>[]
 |id :: r=>(match L id with
  |some l=>l.amc
  |none=>[])++nk L r
theorem ao7(L:bA)(a b:List Nat):nk L (a++b)=nk L a++nk L b:=by
 induction a with
 |nil=>rfl
 |cons x r ih=>simp[nk,ih,append_assoc]
theorem adD{L:bA} : ∀ {ids:List Nat} {b:Nat},b∈nk L ids->∃id l,id∈ids/\L id=some l/\l.has b
 | [],b,h=>by simp[nk] at h
 |id :: r,b,h=>by
  simp only[nk,mem_append] at h;rcases h with h|h
  ·cases hL:L id with
   |none=>rw[hL] at h;cases h
   |some l=>rw[hL] at h;exact⟨id,l,by simp,hL,Loc.amd.1 h⟩
  ·obtain⟨i,l,h1,h2⟩:=adD h;exact⟨i,l,by simp[h1],h2⟩
theorem gK.ao8{C:Ctx}{H:au}{env:Env}{tm:Array Value}{w:World}(hs:gK C env H I L tm w){id:Nat}{l:Loc}(hl:L id=some l):l.amc.Nodup:=by
 cases l with
 |box b=>simp[Loc.amc]
 |row v hdr sz=>show hdr.ownBlock.toList.Nodup;generalize hdr.ownBlock=x;cases x<;>simp
 |deep v hdr sz sz' dx n =>
  obtain⟨ch,hch⟩:=hs.dom id _ hl;have hc:=hs.chunk id ch hch;cases ch with
  |box cs=>obtain⟨b,arr,e,h1,_⟩:=hc;rw[h1] at hl;cases hl
  |row v' e sz es=>obtain⟨fz,us,h1,_⟩:=hc;rw[h1] at hl;cases hl
  |shut v' es=>obtain⟨fz,sz,h1,_⟩:=hc;rw[h1] at hl;cases hl
  |tail v' e sz es=>obtain⟨g,o,cap,arr,h1,_⟩:=hc;rw[h1] at hl;cases hl
  |deep v' e sz1 k e' sz2 es=>obtain⟨fz,us,lV,h1,h2,h3,h4,h5,h6,h7⟩:=hc;rw[h1] at hl;simp only[cC,Loc.deep.injEq] at hl;obtain⟨_,rfl,_,_,rfl,rfl⟩:=hl;exact akD h7
theorem aed{C:Ctx}{H:au}{env:Env}{tm:Array Value}{w:World}(hs:gK C env H I L tm w):∀ {ids:List Nat},ids.Nodup->(nk L ids).Nodup
 | [],_=>by simp[nk]
 |id :: r,h=>by
  rw[nodup_cons] at h;simp only[nk,nodup_append];refine⟨?_,aed hs h.2,?_⟩
  ·cases hL:L id with
   |none=>simp
   |some l=>exact hs.ao8 hL
  ·intro a ha b hb hab;subst hab;obtain⟨i,l,h1,h2,h3⟩:=adD hb;cases hL:L id with
   |none=>rw[hL] at ha;cases ha
   |some l'=>rw[hL] at ha;have:=hs.apart id i l' l a hL h2 (Loc.amd.1 ha) h3;subst this;exact h.1 h1
def aDK(C:Ctx)(I:Mem)(L:bA)(w:World)(H:au)(a:AV):Prop:=∀u r ids,dV I L u a->qg H a=some (r,ids)->ze w C.B I u r (nk L ids)
def aDL(C:Ctx)(I:Mem)(L:bA)(w:World)(H:au)(eZ:List AV):Prop :=
 ∀us rs ids,oW I L us eZ->ye H eZ=some (rs,ids)->us.length=rs.length/\∃bs:List (List Nat),us.length=bs.length/\bs.flatten=nk L ids /\
  ∀ (j:Nat) u r b,us[j]? = some u->rs[j]? = some r->bs[j]? = some b->ze w C.B I u r b
theorem aAG{C:Ctx}{H:au}{env:Env}{tm:Array Value}{w:World}(hs:gK C env H I L tm w)(a:AV):aDK C I L w H a:=by
 refine AV.rec (motive_1:=aDK C I L w H) (motive_2:=aDL C I L w H) ?_ ?_ ?_ ?_ ?_ ?_ ?_ ?_ ?_ ?_ ?_ ?_ ?_ ?_ ?_ ?_ a
 ·intro x u r ids hu hr;simp only[qg,cC,iF] at hr;obtain⟨rfl,rfl⟩:=hr;exact .p _ _ hu.nE
 ·intro id bg u r ids hu hr;simp only[qg] at hr;split at hr
  ·rename_i v e sz es hH;split at hr
   ·rename_i hv;subst hv;simp only[cC,iF] at hr;obtain⟨rfl,rfl⟩:=hr;obtain⟨hdr,us,h1,h2,h3,h4,h5,h6,h7⟩:=hs.chunk id _ hH;cases hu with
    |row _ _ _ v1 mT sz1 hl hle hh hone =>
     rw[h1] at hl;simp only[cC,Loc.row.injEq] at hl;obtain⟨r1,r2,r3⟩:=hl;subst r1 r2 r3;have hxe:=hh rfl;subst hxe;have hb:nk L [id]=u.ownBlock.toList:=by simp[nk,h1,Loc.amc]
     rw[hb];exact .row u e sz es us ⟨h2,h3,h4,h5,h6,h7⟩ hone
   ·cases hr
  ·rename_i v es hH;split at hr
   ·rename_i hv;subst hv;simp only[cC,iF] at hr;obtain⟨rfl,rfl⟩:=hr;obtain⟨hdr,sz,h1,h2,_⟩:=hs.chunk id _ hH;cases hu with
    |row _ _ _ v1 mT sz1 hl hle hh hone=>rw[h1] at hl;simp only[cC,Loc.row.injEq] at hl;obtain⟨r1,r2,r3⟩:=hl;subst r1 r2 r3;rw[hh rfl];exact .p _ _ h2
   ·cases hr
  ·cases hr
 ·intro id off u r ids hu hr;simp[qg] at hr
 ·intro id bg i off u r ids hu hr;simp[qg] at hr
 ·intro cs ih u r ids hu hr;simp only[qg] at hr;split at hr
  ·rename_i rs ids' hrs;simp only[cC,iF] at hr;obtain⟨rfl,rfl⟩:=hr;cases hu with
   |agg us _ hl hv hone=>obtain⟨k1,bs,k2,k3,k4⟩:=ih us rs ids' ⟨hl,hv⟩ hrs;rw[<-k3];exact .agg us rs bs k1 k2 k4 hone
  ·cases hr
 ·intro cs ih u r ids hu hr;simp only[qg] at hr;split at hr
  ·rename_i rs ids' hrs;simp only[cC,iF] at hr;obtain⟨rfl,rfl⟩:=hr;cases hu with
   |dH us _ hl hv=>obtain⟨k1,bs,k2,k3,k4⟩:=ih us rs ids' ⟨hl,hv⟩ hrs;rw[<-k3];exact .dH us rs bs k1 k2 k4
  ·cases hr
 ·intro fn fs cs _ _ u r ids hu hr;simp[qg] at hr
 ·intro id bg u r ids hu hr;simp only[qg] at hr;split at hr
  ·rename_i v e sz k e' sz' es hH;split at hr
   ·rename_i hv;subst hv;simp only[cC,iF] at hr;obtain⟨rfl,rfl⟩:=hr;obtain⟨hdr,us,dx,h1,h2,h3,h4,h5,h6,h7⟩:=hs.chunk id _ hH;have hb:nk L [id]=aaY hdr dx es.length:=by simp[nk,h1,Loc.amc]
    rw[hb];cases hu with
    |fm _ _ _ v1 mT _ _ aaZ n1 hl hle hh hone=>rw[h1] at hl;simp only[cC,Loc.deep.injEq] at hl;obtain⟨e1,e2,e3,e4,e5,e6⟩:=hl;subst e1 e2 e3 e4 e5 e6;rw[hh rfl];exact .deep hdr e sz k e' sz' es us dx h2 h3 h4 h5 h6 h7
   ·cases hr
  ·cases hr
 ·intro id bg i off u r ids hu hr;simp[qg] at hr
 ·intro id bg i u r ids hu hr;simp[qg] at hr
 ·intro id bg i j off u r ids hu hr;simp[qg] at hr
 ·intro id n u r ids hu hr;simp[qg] at hr
 ·intro id bg off n m sz u r ids hu hr;simp[qg] at hr
 ·intro u r ids hu hr;simp[qg] at hr
 ·intro us rs ids hu hr;simp only[ye,cC,iF] at hr;obtain⟨rfl,rfl⟩:=hr;exact⟨hu.1,[],hu.1,rfl,by simp⟩
 ·intro a eZ ih1 ih2 us rs ids hu hr;simp only[ye] at hr;split at hr
  ·rename_i x i xs j hx hxs;simp only[cC,iF] at hr;obtain⟨rfl,rfl⟩:=hr;cases us with
   |nil=>have:=hu.1;simp at this
   |cons u us =>
    obtain⟨k1,bs,k2,k3,k4⟩:=ih2 us xs j ⟨by simpa using hu.1,λj u c hu' hc=>hu.2 (j+1) u c hu' hc⟩ hxs;have k0:=ih1 u x i (hu.2 0 u a rfl rfl) hx;refine⟨by simp[k1],nk L i :: bs,by simp[k2],by rw[flatten_cons,k3,ao7],λj v r b hv hr hb=>?_⟩;cases j with
    |zero=>simp at hv hr hb;subst hv hr hb;exact k0
    |succ j=>exact k4 j v r b (by simpa using hv) (by simpa using hr) (by simpa using hb)
  ·cases hr
theorem ze.low{w:World}{B B':Nat}{J:Mem}{u:Value}{r:RV}{bs:List Nat}(h:ze w B J u r bs)(hB:B=B'):ze w B' J u r bs:=hB ▸ h
theorem af1{f:FuncId}{fn:Func}{c:Code}{args:List PV}{Q:RV->Prop}(own:List Nat)(hm:P.follows .mixedOrders=true)(hf:P.funcs[f]? = some fn)(hb:fn.body=some c)
  (hc:gA P f=true) (hn:args.length<=fn.ntmps) (h:cw P fn.ntmps own c (aAF P fn.results.toList Q) (iR args) ct):bl P f args Q:=by
 refine⟨hc,λI w vs hI hv=>calls_of_wp hf hb ?_⟩;let C:Ctx:=Ctx.of w I fn.ntmps;have hlen:vs.length<=fn.ntmps:=by rw[hv.1];exact hn
 have hs:gK C (iR args) ct I (λ_=>none) (vs.toArray++Array.replicate (fn.ntmps-vs.toArray.size) undef) w :=
  {below:=Below.refl _ _
   mem:=hI
   lW:=Mem.eA I
   mS:=λ_ _ _ _=>rfl
   frame:=λ_ _ _=>rfl
   loc:=λ_=>trivial
   jO:=λid l b h=>by cases h
   size:=by simp;show vs.length+(fn.ntmps-vs.length)=fn.ntmps;omega
   env:=λt=>by
    unfold iR;split
    ·rename_i x hx;have ht:t<vs.length:=by rw[hv.1];exact (List.getElem?_eq_some_iff.1 hx).1
     refine .p _ _ (hv.2 t _ x ?_ hx);rw[getElem?_eq_getElem ht];simp[Array.getElem?_append,ht]
    ·exact .dead _
   dom:=λid l h=>by cases h
   chunk:=λid ch h=>by cases h
   fT:=λid l b h=>by cases h
   apart:=λi j li lj b h=>by cases h }
 refine wp_mono (pY hm c _ C rfl _ _ I _ _ w h hs) ?_;rintro e a w' ⟨hd,env',H',I',L',hk,hs'⟩;have fin:(match pq P env' H' fn.results.toList with
  |some a=>(match qg H' a with
   |some (r,ids)=>ids.Nodup/\∃r',RLe r r'/\Q r'
   |none=>False)
  |none=>False)->bodyPost P fn (λe w'=>∃v r bs I',e = .returned v/\Q r/\ze w' w.heap.size I' v r bs/\bs.Nodup/\(∀b∈bs,w.heap.size<=b/\b<w'.heap.size) /\
   Below w.heap.size w w'/\I.sub I'/\I'.inW w'/\∀b,b<w.heap.size->∀o,I' b o=I b o) .normal a w':=by
  intro hk;split at hk
  ·rename_i av hav;split at hk
   ·rename_i r ids hr;obtain⟨hnd,r',hle,hq⟩:=hk;obtain⟨u,hru,hua⟩:=wS hs' hav;exact⟨hd,u,hru,u,r',nk L' ids,I',rfl,hq,hle.sound (aAG hs' av u r ids hua hr),aed hs' hnd,λb hb=>by
     obtain⟨i,l,_,h2,h3⟩:=adD hb;exact hs'.fT i l b h2 h3,hs'.below,hs'.lW,hs'.mem,λb hb o=>hs'.mS b hb (λh=>h) o⟩
   ·exact hk.elim
  ·exact hk.elim
 cases e with
 |normal=>exact fin hk
 |ret=>exact fin hk
 |exit id=>exact hk.elim
 |goto l=>exact hk.elim
 |panic c=>exact hk.elim
 |outgrown=>exact hk.elim
def af2(eZ:List AV):Env:=λt=>match eZ[t]? with
 |some a=>a
 |none=>.dead
def aCP(P:Program)(rs:List ResultVar)(Q:AV->Option Chunk->Prop):qN:=λe env H=>match e with
 | .normal | .ret=>(match pq P env H rs with
  |some a=>Q a (H 1000000)
  |none=>False)
 |_=>False
theorem abc{f:FuncId}{fn:Func}{c:Code}{v:Nat}{e:TypeId}{sz:Nat}{es:List (List PV)}{ps:List PV}{Q:AV->Option Chunk->Prop}(own:List Nat)(hm:P.follows .mixedOrders=true)(hf:P.funcs[f]? = some fn)(hb:fn.body=some c)
  (hc:gA P f=true) (hn:ps.length+1<=fn.ntmps) (h:cw P fn.ntmps own c (aCP P fn.results.toList Q) (af2 (.row 1000000 v :: ps.map AV.p)) (br ct 1000000 (.row v e sz es))):mb P f v e sz es ps Q:=by
 refine⟨hc,λB I w hdr us vs hB hI hr h1 hv=>calls_of_wp hf hb ?_⟩;let C:Ctx:=Ctx.ao4 w I fn.ntmps B v sz hdr hB;let L:bA:=λi=>if i=1000000 then some (.row v hdr sz) else none
 have hlen:(hdr :: vs).length<=fn.ntmps:=by have:=hv.1;simp only[length_cons];omega
 have hL:∀i l,L i=some l->i=1000000/\l = .row v hdr sz:=λi l h=>by
  simp only[L] at h;split at h
  ·rename_i hi;exact⟨hi,by simpa using h.symm⟩
  ·cases h
 have hs:gK C (af2 (.row 1000000 v :: ps.map AV.p)) (br ct 1000000 (.row v e sz es)) I L ((hdr :: vs).toArray++Array.replicate (fn.ntmps-(hdr :: vs).toArray.size) undef) w :=
  {below:=Below.refl _ _
   mem:=hI
   lW:=Mem.eA I
   mS:=λ_ _ _ _=>rfl
   frame:=λ_ _ _=>rfl
   loc:=dS.refl _
   jO:=λid l b hl hb=>by obtain⟨_,rfl⟩:=hL id l hl;exact .inr hb
   size:=by simp only[Array.size_append,size_toArray,Array.size_replicate];show (hdr :: vs).length+(fn.ntmps-(hdr :: vs).length)=fn.ntmps;omega
   env:=λt=>by
    unfold af2;split
    ·rename_i a ha;have htl:t<(hdr :: vs).length:=by have:=(List.getElem?_eq_some_iff.1 ha).1;simp only[length_cons,length_map] at this ⊢;rw[hv.1];exact this
     have aCQ:((hdr :: vs).toArray++Array.replicate (fn.ntmps-(hdr :: vs).toArray.size) undef).getD t undef=(hdr :: vs)[t]:=by simp only[Array.getD_eq_getD_getElem?,Array.getElem?_append,size_toArray,if_pos htl,getElem?_toArray,getElem?_eq_getElem htl,Option.getD_some]
     rw[aCQ];cases t with
     |zero=>simp at ha;subst ha;exact .row hdr 1000000 v v hdr sz (by simp[L]) (le_refl _) (λ_=>rfl) h1
     |succ t =>
      simp only[getElem?_cons_succ,getElem?_map] at ha;cases hp:ps[t]? with
      |none=>rw[hp] at ha;cases ha
      |some p =>
       rw[hp] at ha;simp only[map_some,cC] at ha;subst ha;have htv:t<vs.length:=by simpa using htl
       exact .p _ _ (hv.2 t _ p (by simp[htv]) hp)
    ·exact .dead _
   dom:=λid l hl=>by obtain⟨rfl,_⟩:=hL id l hl;exact⟨_,by simp[br];rfl⟩
   chunk:=λid ch hch=>by
    unfold br at hch;split at hch
    ·rename_i hi;subst hi;simp only[cC] at hch;subst hch;exact⟨hdr,us,by simp[L],hr.own,hr.pos,hr.all,hr.val,hr.one,hr.free⟩
    ·cases hch
   fT:=λid l b hl hb=>by obtain⟨_,rfl⟩:=hL id l hl;exact td hr.own hb
   apart:=λi j li lj b hi hj _ _=>by
    rw[(hL i li hi).1,(hL j lj hj).1] }
 refine wp_mono (pY hm c _ C rfl _ _ I L _ w h hs) ?_;rintro x a w' ⟨hd,env',H',I',L',hk,hs'⟩;have fin:(match pq P env' H' fn.results.toList with
  |some a=>Q a (H' 1000000)
  |none=>False)->bodyPost P fn (λx w'=>∃u a H' I' L',x = .returned u/\Q a (H' 1000000)/\dV I' L' u a/\gK (Ctx.ao4 w I 0 B v sz hdr hB) gI H' I' L' #[] w') .normal a w':=by
  intro hk;split at hk
  ·rename_i av hav;obtain⟨u,hru,hua⟩:=wS hs' hav;refine⟨hd,u,hru,u,av,H',I',L',rfl,hk,hua,?_⟩;exact
   {below:=hs'.below
    mem:=hs'.mem
    lW:=hs'.lW
    mS:=hs'.mS
    frame:=hs'.frame
    loc:=hs'.loc
    jO:=hs'.jO
    size:=rfl
    env:=λt=>.dead _
    dom:=hs'.dom
    chunk:=hs'.chunk
    fT:=hs'.fT
    apart:=hs'.apart }
  ·exact hk.elim
 cases x with
 |normal=>exact fin hk
 |ret=>exact fin hk
 |exit id=>exact hk.elim
 |goto l=>exact hk.elim
 |panic c=>exact hk.elim
 |outgrown=>exact hk.elim
end Go.b7
namespace Go.b7
open Go.RowKit
section
variable{P:Program}{N:Nat}{own:List Nat}{ops:Array Oper}{K:Env->au->Prop}{env:Env}{H:au}
def amv(P:Program)(N:Nat)(own:List Nat)(ops:Array Oper)(r:Option (Prop×AV×au))(o:Oper)(rest:List Oper)(K:Env->au->Prop)(env:Env)(H:au):Prop:=match r with
 |some (pre,v,H')=>pre/\walk P N own ops rest K (cA env o.dst v) H'
 |none=>iU P o (walk P N own ops rest K) env H
def ac8(P:Program)(N:Nat)(own:List Nat)(ops:Array Oper)(g:Option Bool)(o:Oper)(rest:List Oper)(K:Env->au->Prop)(env:Env)(H:au):Prop:=match g with
 |some true=>amv P N own ops (gi P own o (ev env) H) o rest K env H
 |some false=>walk P N own ops rest K (cA env o.dst (.dH [])) H
 |none=>False
theorem awE:walk P N own ops [] K env H=K env H:=rfl
theorem asP(o:Oper)(rest:List Oper):walk P N own ops (o :: rest) K env H=(vt N o.dst/\ac8 P N own ops (lX ops o env) o rest K env H):=by rw[walk];unfold ac8 amv;congr 1
theorem ao9(o:Oper)(rest:List Oper):ac8 P N own ops (some true) o rest K env H=amv P N own ops (gi P own o (ev env) H) o rest K env H:=rfl
theorem amw(o:Oper)(rest:List Oper):ac8 P N own ops (some false) o rest K env H=walk P N own ops rest K (cA env o.dst (.dH [])) H:=rfl
theorem apa(pre:Prop)(v:AV)(H':au)(o:Oper)(rest:List Oper):amv P N own ops (some (pre,v,H')) o rest K env H=(pre/\walk P N own ops rest K (cA env o.dst v) H'):=rfl
theorem apb(o:Oper)(rest:List Oper):amv P N own ops none o rest K env H=iU P o (walk P N own ops rest K) env H:=rfl
theorem apc(d:Nat):vt N (some d)=(d<N):=rfl
theorem apd:vt N none=True:=rfl
theorem asQ(d:Nat)(v:AV):cA env (some d) v=c9 env d v:=rfl
theorem asR(v:AV):cA env none v=env:=rfl
theorem amx(d:Option Tmp)(op:Op)(t:TypeId)(pos:String)(a:Array Edge):lX ops ⟨d,op,t,pos,a,none⟩ env=some true:=rfl
def afg(v:AV)(want:Bool):Option Bool:=match v with
 | .p (.val (.bool b))=>some (b == want)
 | .dH []=>some false
 |_=>none
def ape(d:Option Tmp)(want:Bool)(env:Env):Option Bool:=match d with
 |some d=>afg (env d) want
 |none=>none
theorem amy(d:Option Tmp)(op:Op)(t:TypeId)(pos:String)(a:Array Edge)(j:Nat)(want:Bool):lX ops ⟨d,op,t,pos,a,some (j,want)⟩ env=ape ((ops[j]?).bind (·.dst)) want env:=by unfold lX ape afg;rfl
theorem amz(d:Tmp)(want:Bool):ape (some d) want env=afg (env d) want:=rfl
theorem apf(want:Bool):afg (.dH []) want=some false:=rfl
theorem awF(b:Bool):afg (.p (.val (.bool b))) true=some b:=by cases b<;>rfl
theorem awG(b:Bool):afg (.p (.val (.bool b))) false=some (!b):=by cases b<;>rfl
def up3(r:Option (Prop×AV))(H:au):Option (Prop×AV×au):=match r with
 |some (pre,v)=>some (pre,v,H)
 |none=>none
theorem awH(pre:Prop)(v:AV):up3 (some (pre,v)) H=some (pre,v,H):=rfl
theorem awI:up3 none H=none:=rfl
variable(d:Option Tmp)(ty:TypeId)(pos:String)(af:Array Edge)(g:Option (Nat×Bool))(ρ:Operand->AV)
theorem asS(own:List Nat)(op:Op)(k:Tmp):gi P own ⟨some k,op,ty,pos,af,g⟩ ρ H=if own.contains k=true then orE (exN P ⟨some k,op,ty,pos,af,g⟩ ρ H k) (isApp op) (kD P ⟨some k,op,ty,pos,af,g⟩ ρ H) else kD P ⟨some k,op,ty,pos,af,g⟩ ρ H:=rfl
theorem apg(own:List Nat)(op:Op):gi P own ⟨none,op,ty,pos,af,g⟩ ρ H=kD P ⟨none,op,ty,pos,af,g⟩ ρ H:=rfl
theorem awJ(x:Operand):kD P ⟨d,.move x,ty,pos,af,g⟩ ρ H=some (True,ρ x,H):=rfl
theorem aph(x:Operand):kD P ⟨d,.assign x,ty,pos,af,g⟩ ρ H=some (True,ρ x,H):=rfl
theorem awK(c a b:Operand):kD P ⟨d,.pick c a b,ty,pos,af,g⟩ ρ H=up3 (ajp (ρ c) (ρ a) (ρ b)) H:=by simp only[kD,vp,ya,mU,y3,exE,xU,y4,up3];try (cases ajp (ρ c) (ρ a) (ρ b)<;>rfl)
theorem amA(x:Operand)(k:Nat):kD P ⟨d,.extract x k,ty,pos,af,g⟩ ρ H=up3 (vo (ρ x) k) H:=by simp only[kD,vp,ya,mU,y3,exE,xU,y4,up3];try (cases vo (ρ x) k<;>rfl)
theorem asT(op:BinOp)(t u:TypeId)(x y:Operand):kD P ⟨d,.binOp op t x y u,ty,pos,af,g⟩ ρ H=up3 (lH P op t (ρ x) (ρ y)) H:=by simp only[kD,vp,ya,mU,y3,exE,xU,y4,up3];try (cases lH P op t (ρ x) (ρ y)<;>rfl)
theorem awL(op:UnOp)(t:TypeId)(x:Operand):kD P ⟨d,.unOp op t x,ty,pos,af,g⟩ ρ H=up3 (unX op (ρ x)) H:=by simp only[kD,vp,ya,mU,y3,exE,xU,y4,up3];try (cases unX op (ρ x)<;>rfl)
theorem amB(s e:TypeId)(x:Operand):kD P ⟨d,.convert s e x,ty,pos,af,g⟩ ρ H=up3 (agT P s e (ρ x)) H:=by simp only[kD,vp,ya,mU,y3,exE,xU,y4,up3];try (cases agT P s e (ρ x)<;>rfl)
theorem ak0(fn:Fn)(f c:Array Operand):kD P ⟨d,.makeFunc fn f c,ty,pos,af,g⟩ ρ H=some (True,amj fn (f.toList.map ρ) (c.toList.map ρ),H):=rfl
theorem asU(t:TypeId)(ps:Array (Nat×Operand)):kD P ⟨d,.build t ps,ty,pos,af,g⟩ ρ H=up3 (ae8 P t (ps.toList.map λx=>(x.1,ρ x.2))) H:=by simp only[kD,vp,ya,mU,y3,exE,xU,y4,up3];try (cases ae8 P t (ps.toList.map λx=>(x.1,ρ x.2))<;>rfl)
theorem asV(t:TypeId)(x i:Operand):kD P ⟨d,.index t x i,ty,pos,af,g⟩ ρ H=up3 (aoU P t (ρ x) (ρ i)) H:=by simp only[kD,vp,ya,mU,y3,exE,xU,y4,up3];try (cases aoU P t (ρ x) (ρ i)<;>rfl)
theorem asW(t:TypeId)(x:Operand)(lo hi mx:Option Operand):kD P ⟨d,.slice t x lo hi mx,ty,pos,af,g⟩ ρ H=up3 (ue P t (ρ x) (lo.map ρ) (hi.map ρ) (mx.map ρ)) H:=by simp only[kD,vp,ya,mU,y3,exE,xU,y4,up3];try (cases ue P t (ρ x) (lo.map ρ) (hi.map ρ) (mx.map ρ)<;>rfl)
theorem ak1(x:Operand):kD P ⟨d,.nilCheck x,ty,pos,af,g⟩ ρ H=up3 (asC (ρ x)) H:=by simp only[kD,vp,ya,mU,y3,exE,xU,y4,up3];try (cases asC (ρ x)<;>rfl)
def ag9(P:Program)(t:TypeId)(a:AV)(H:au):Option (Prop×AV×au):=match a with
 | .p (.ez cs off)=>(match tC P t cs off with|some x=>some (True,.p x,H)|none=>none)
 | .ptr id off => (match H id with
   |some (.box cs)=>match tB P t cs off with|some v=>some (True,v,H)|none=>none
   |_=>none)
 | .jG id bg i off => (match rowOf H id bg with
   |some es=>match tC P t (es.getD i []) off with|some x=>some (i<es.length/\0<(es.getD i []).length,.p x,H)|none=>none
   |none=>none)
 | .lF id bg i off => (match cO H id bg with
   |some (k,es)=>match tB P t (adx id bg i k (es.getD i [])) off with|some v=>some (i<es.length,v,H)|none=>none
   |none=>none)
 | .oB id bg i j off => (match nF (cO H id bg) i with
   |some l=>match tC P t (l.getD j []) off with|some x=>some (j<l.length,.p x,H)|none=>none
   |none=>none)
 |_=>none
theorem awM(t:TypeId)(a:Operand):kD P ⟨d,.load t a,ty,pos,af,g⟩ ρ H=ag9 P t (ρ a) H:=by
  simp only[kD,vp,ya,mU,y3,exE,xU,y4,arM,ag9];generalize ρ a=v;cases v with
  | p x => cases x <;> simp only []
           case ez cs off=>cases tC P t cs off<;>rfl
  |ptr id off =>
    simp only[];cases H id with
    |none=>rfl
    |some c=>cases c with
      |box cs=>simp only[];cases tB P t cs off<;>rfl
      |_=>rfl
  |jG id bg i off =>
    simp only[];cases rowOf H id bg with
    |none=>rfl
    |some es=>simp only[];cases tC P t (es.getD i []) off<;>rfl
  |lF id bg i off =>
    simp only[];cases cO H id bg with
    |none=>rfl
    |some r=>obtain⟨k,es⟩:=r;simp only[];cases tB P t (adx id bg i k (es.getD i [])) off<;>rfl
  |oB id bg i j off =>
    simp only[];cases nF (cO H id bg) i with
    |none=>rfl
    |some l=>simp only[];cases tC P t (l.getD j []) off<;>rfl
  |_=>rfl
def afh(P:Program)(f:Option (Nat×Nat))(a:AV)(H:au):Option (Prop×AV×au):=match f with
 |some (o,n)=>(match a with
  | .p (.ez cs off)=>some (n≠0,.p (.ez cs (off+o)),H)
  | .ptr id off=>some (n≠0,.ptr id (off+o),H)
  | .jG id bg i off=>(match rowOf H id bg with
   |some _=>some (n≠0,.jG id bg i (off+o),H)
   |none=>none)
  | .lF id bg i off=>(match cO H id bg with
   |some _=>some (n≠0,.lF id bg i (off+o),H)
   |none=>none)
  |_=>none)
 |none=>none
theorem aiZ(s:TypeId)(a:Operand)(k:Nat):kD P ⟨d,.fieldAddr s a k,ty,pos,af,g⟩ ρ H=afh P (bB P s k) (ρ a) H:=by
 simp only[kD,vp,ya,mU,y3,exE,xU,y4,akH,afh];generalize ρ a=v;cases bB P s k with
 |none=>cases v<;>rfl
 |some x =>
  obtain⟨o,n⟩:=x;cases v with
  |p x=>cases x<;>rfl
  |jG id bg i off=>simp only[];cases rowOf H id bg<;>rfl
  |lF id bg i off=>simp only[];cases cO H id bg<;>rfl
  |_=>rfl
def qO(P:Program)(t:TypeId)(x i:AV)(H:au):Option (Prop×AV×au):=match x with
 | .row id bg=>(match i with
  | .p (.val (.int _ n))=>(match rowOf H id bg,cN P t with
   |some es,some e=>(match bf P e with
    |some sz=>some ((0<=n/\n<es.length)/\(es.getD n.toNat []).length=sz/\0<sz,.jG id bg n.toNat 0,H)
    |none=>none)
   |_,_=>none)
  |_=>none)
 | .fm id bg=>(match i with
  | .p (.val (.int _ n))=>(match cO H id bg,cN P t with
   |some (_,es),some e=>(match bf P e with
    |some sz=>some ((0<=n/\n<es.length)/\(es.getD n.toNat []).length=sz,.lF id bg n.toNat 0,H)
    |none=>none)
   |_,_=>none)
  |_=>none)
 | .lG id bg ii=>(match i with
  | .p (.val (.int _ n))=>(match nF (cO H id bg) ii,cN P t with
   |some l,some e=>(match bf P e with
    |some sz=>some ((0<=n/\n<l.length)/\(l.getD n.toNat []).length=sz,.oB id bg ii n.toNat 0,H)
    |none=>none)
   |_,_=>none)
  |_=>none)
 | .iV id bg off m _ _=>(match i with
  | .p (.val (.int _ n))=>(match akO H id bg,cN P t with
   |some (sz,es),some e=>(match bf P e with
    |some sz'=>some ((0<=n/\n<m/\off+m<=es.length)/\sz'=sz,.jG id bg (off+n.toNat) 0,H)
    |none=>none)
   |_,_=>none)
  |_=>none)
 |x=>up3 (pJ P t x i) H
theorem ai0(t:TypeId)(x i:Operand):kD P ⟨d,.indexAddr t x i,ty,pos,af,g⟩ ρ H=qO P t (ρ x) (ρ i) H:=by
 simp only[kD,vp,ya,mU,y3,exE,xU,y4,qO];generalize ρ x=v;generalize ρ i=u;cases v with
 |row id bg =>
  have:pJ P t (.row id bg) u=none:=by
   unfold pJ;cases u with
   |p y=>cases y with
    |val z=>cases z<;>rfl
    |_=>rfl
   |_=>rfl
  rw[this];simp only[];cases u with
  |p y=>cases y with
   |val z=>cases z with
    |int k n =>
     simp only[];cases rowOf H id bg<;>cases cN P t<;>simp only[]
     rename_i es e;cases bf P e<;>rfl
    |_=>rfl
   |_=>rfl
  |_=>rfl
 |fm id bg =>
  have:pJ P t (.fm id bg) u=none:=by
   unfold pJ;cases u with
   |p y=>cases y with
    |val z=>cases z<;>rfl
    |_=>rfl
   |_=>rfl
  rw[this];simp only[];cases u with
  |p y=>cases y with
   |val z=>cases z with
    |int k n =>
     simp only[];cases cO H id bg<;>cases cN P t<;>simp only[]
     rename_i r e;obtain⟨_,es⟩:=r;simp only[];all_goals(cases bf P e<;>rfl)
    |_=>rfl
   |_=>rfl
  |_=>rfl
 |lG id bg ii =>
  have:pJ P t (.lG id bg ii) u=none:=by
   unfold pJ;cases u with
   |p y=>cases y with
    |val z=>cases z<;>rfl
    |_=>rfl
   |_=>rfl
  rw[this];simp only[];cases u with
  |p y=>cases y with
   |val z=>cases z with
    |int k n =>
     simp only[];cases nF (cO H id bg) ii<;>cases cN P t<;>simp only[]
     rename_i l e;cases bf P e<;>rfl
    |_=>rfl
   |_=>rfl
  |_=>rfl
 |iV id bg off m m' z =>
  have:pJ P t (.iV id bg off m m' z) u=none:=by
   unfold pJ;cases u with
   |p y=>cases y with
    |val z=>cases z<;>rfl
    |_=>rfl
   |_=>rfl
  rw[this];simp only[];cases u with
  |p y=>cases y with
   |val z=>cases z with
    |int k n =>
     simp only[];cases akO H id bg<;>cases cN P t<;>simp only[]
     rename_i r e;obtain⟨sz,es⟩:=r;simp only[];all_goals(cases bf P e<;>rfl)
    |_=>rfl
   |_=>rfl
  |_=>rfl
 |_=>simp only[];generalize pJ P t _ u=r;cases r<;>rfl
theorem asX(t:TypeId)(a x:Operand):kD P ⟨d,.store t a x,ty,pos,af,g⟩ ρ H=xU P ⟨d,.store t a x,ty,pos,af,g⟩ ρ H:=by simp only[kD,vp,ya,mU,y3,exE,y4];split<;>simp_all
theorem asY(t:TypeId):kD P ⟨d,.alloc t,ty,pos,af,g⟩ ρ H=xU P ⟨d,.alloc t,ty,pos,af,g⟩ ρ H:=by simp only[kD,vp,ya,mU,y3,exE,y4];split<;>simp_all
theorem aAH(t:TypeId)(x:Operand):kD P ⟨d,.box t x,ty,pos,af,g⟩ ρ H=xU P ⟨d,.box t x,ty,pos,af,g⟩ ρ H:=by simp only[kD,vp,ya,mU,y3,exE,y4];split<;>simp_all
theorem aha(f:Operand)(args:Array Operand)(ts:Array TypeId):kD P ⟨d,.call ⟨.value f,args,ts⟩,ty,pos,af,g⟩ ρ H=none:=rfl
def agq(P:Program)(t:TypeId)(a:AV)(H:au):Option (Prop×AV×au):=match a with
 | .row id bg=>(match rowOf H id bg with
  |some es=>up3 (rU P t (.p (.aL es))) H
  |none=>none)
 | .fm id bg=>(match cO H id bg with
  |some (_,es)=>up3 (rU P t (.p (.aL es))) H
  |none=>none)
 | .lG id bg i=>(match nF (cO H id bg) i with
  |some l=>up3 (rU P t (.p (.aL l))) H
  |none=>none)
 |a=>up3 (rU P t a) H
theorem aAI(t:TypeId)(a:Operand):kD P ⟨d,.call ⟨.builtin .len,#[a],#[t]⟩,ty,pos,af,g⟩ ρ H=agq P t (ρ a) H:=by
 simp only[kD,vp,ya,mU,y3,exE,xU,y4,agq,tD,map_cons,map_nil];generalize ρ a=v;cases v with
 |row id bg =>
  have:rU P t (.row id bg)=none:=rfl;rw[this];simp only[];cases rowOf H id bg with
  |none=>rfl
  |some es=>simp only[];generalize rU P t _=r;cases r<;>rfl
 |fm id bg =>
  have:rU P t (.fm id bg)=none:=rfl;rw[this];simp only[];cases cO H id bg with
  |none=>rfl
  |some r=>obtain⟨_,es⟩:=r;simp only[];generalize rU P t _=r;cases r<;>rfl
 |lG id bg i =>
  have:rU P t (.lG id bg i)=none:=rfl;rw[this];simp only[];cases nF (cO H id bg) i with
  |none=>rfl
  |some l=>simp only[];generalize rU P t _=r;cases r<;>rfl
 |_=>simp only[];generalize rU P t _=r;cases r<;>rfl
def agr(P:Program)(t1 t2:TypeId)(a b:AV)(H:au):Option (Prop×AV×au):=match ae9 P t1 t2 a b with
 |some (pre,v)=>some (pre,v,H)
 |none=>ad9 P t1 t2 a b H
theorem ahb(t1 t2:TypeId)(a b:Operand):kD P ⟨d,.call ⟨.builtin .append,#[a,b],#[t1,t2]⟩,ty,pos,af,g⟩ ρ H=agr P t1 t2 (ρ a) (ρ b) H:=by
 simp only[kD,vp,ya,mU,y3,exE,xU,y4,agr,tD,map_cons,map_nil];cases ae9 P t1 t2 (ρ a) (ρ b) with
 |some r=>rfl
 |none=>simp only[];cases ad9 P t1 t2 (ρ a) (ρ b) H<;>rfl
def ak2(P:Program)(t:TypeId)(n:Nat)(parts:List (Nat×AV))(H:au):Option (Prop×AV×au):=match mm P t n parts with
 |some (_,es)=>(match n with
  |0=>some (True,.p .emp,H)
  |_=>some (True,.p (.aL es),H))
 |none=>match mm P t n (parts.map λx=>(x.1,aaA (dr (pK parts) H) x.2)) with
  |some (_,es)=>some (True,.p (.aL es),dr (pK parts) H)
  |none=>none
theorem ahc(t:TypeId)(n:Nat)(ps:Array (Nat×Operand)):kD P ⟨d,.buildSlice t n ps,ty,pos,af,g⟩ ρ H=ak2 P t n (ps.toList.map λx=>(x.1,ρ x.2)) H:=by
 simp only[kD,vp,ya,mU,y3,exE,xU,y4,ak2];cases mm P t n (ps.toList.map λx=>(x.1,ρ x.2)) with
 |some r=>obtain⟨e,es⟩:=r;cases n<;>rfl
 |none=>rfl
end
section
variable{P:Program}{N:Nat}{own:List Nat}{K:qN}{env:Env}{H:au}
def aAJ(P:Program)(N:Nat)(own:List Nat)(b:Code)(K:qN):qN:=λx e' H'=>match x with
 | .normal=>cw P N own b K e' H'
 |x=>K x e' H'
def ak3(id:Nat)(K:qN):qN:=λx e' H'=>match x with
 | .exit id'=>if id'=id then K .normal e' H' else K (.exit id') e' H'
 |x=>K x e' H'
def aee(P:Program)(N:Nat)(own:List Nat)(v:AV)(a b:Code)(K:qN)(env:Env)(H:au):Prop:=yd (cw P N own a K env H) (cw P N own b K env H) v
def aef(P:Program)(N:Nat)(own:List Nat)(c:Code)(K:qN)(env:Env)(H:au):Prop:=amt (cw P N own c) K env H
theorem aAK:cw P N own .skip K env H=K .normal env H:=rfl
theorem asZ(id:Nat)(l:List Oper):cw P N own (.region id l.toArray false) K env H=walk P N own l.toArray l (K .normal) env H:=rfl
theorem aAL(id:Nat)(l:List Oper):cw P N own (.region id l.toArray true) K env H=wR P N own l.toArray (K .normal) env H:=rfl
theorem aCR(a b:Code):cw P N own (.seq a b) K env H=cw P N own a (aAJ P N own b K) env H:=rfl
theorem aAM(c:Operand)(a b:Code):cw P N own (.cond c a b) K env H=aee P N own (ev env c) a b K env H:=rfl
theorem awN(id:Nat)(c:Code):cw P N own (.block id c) K env H=cw P N own c (ak3 id K) env H:=rfl
theorem aAN(c:Code):cw P N own (.loop c) K env H=aef P N own c K env H:=rfl
theorem aAO(id:Nat):cw P N own (.exit id) K env H=K (.exit id) env H:=rfl
theorem aCS:cw P N own .ret K env H=K .ret env H:=rfl
theorem amC(b:Code):aAJ P N own b K .normal env H=cw P N own b K env H:=rfl
theorem as0(b:Code)(id:Nat):aAJ P N own b K (.exit id) env H=K (.exit id) env H:=rfl
theorem awO(b:Code):aAJ P N own b K .ret env H=K .ret env H:=rfl
theorem ai1(id:Nat):ak3 id K .normal env H=K .normal env H:=rfl
theorem amD(id id':Nat):ak3 id K (.exit id') env H=if id'=id then K .normal env H else K (.exit id') env H:=rfl
theorem api(id:Nat):ak3 id K .ret env H=K .ret env H:=rfl
theorem apj(a b:Code):aee P N own (.p (.val (.bool true))) a b K env H=cw P N own a K env H:=by simp[aee,yd]
theorem amE(a b:Code):aee P N own (.p (.val (.bool false))) a b K env H=cw P N own b K env H:=by simp[aee,yd]
theorem aI{b:Bool}{x y:Code}(h1:b=true->cw P N own x K env H)(h2:b=false->cw P N own y K env H):aee P N own (.p (.val (.bool b))) x y K env H:=⟨h1,h2⟩
def aDM(r:Option PV)(Q:PV->Prop):Prop:=match r with
 |some r=>Q r
 |none=>False
theorem awP(rs:List ResultVar)(Q:PV->Prop):aAE P rs Q .ret env H=aDM (awD P env H rs) Q:=rfl
theorem as1(r:PV)(Q:PV->Prop):aDM (some r) Q=Q r:=rfl
theorem aCT(t:Tmp):ev env (.tmp t)=env t:=rfl
theorem aCU(k:IntKind)(n:Int):ev env (.const (.int k n)) = .p (.val (.int k n)):=rfl
theorem aAP(b:Bool):ev env (.const (.bool b)) = .p (.val (.bool b)):=rfl
theorem as2(b:ByteArray):ev env (.const (.string b)) = .p (.val (.string b)):=rfl
theorem awQ(a:Option Addr)(n c:Nat):ev env (.const (.slice a n c)) = .p (.val (.slice a n c)):=rfl
theorem aAQ(f:FuncId):ev env (.func f) = .p (.jk (.func f) [] []):=rfl
theorem awR:iR []=gI:=by funext t;simp[iR,gI]
theorem awS(a:PV):iR [a]=c9 gI 0 (.p a):=by funext t;unfold iR c9 gI;rcases t with _|t<;>simp
theorem awT(a b:PV):iR [a,b]=c9 (c9 gI 0 (.p a)) 1 (.p b):=by funext t;unfold iR c9 gI;rcases t with _|_|t<;>simp
theorem awU(a b c:PV):iR [a,b,c]=c9 (c9 (c9 gI 0 (.p a)) 1 (.p b)) 2 (.p c):=by funext t;unfold iR c9 gI;rcases t with _|_|_|t<;>simp
theorem awV(a b c d:PV):iR [a,b,c,d]=c9 (c9 (c9 (c9 gI 0 (.p a)) 1 (.p b)) 2 (.p c)) 3 (.p d):=by funext t;unfold iR c9 gI;rcases t with _|_|_|_|t<;>simp
theorem awW(a b c d e:PV):iR [a,b,c,d,e]=c9 (c9 (c9 (c9 (c9 gI 0 (.p a)) 1 (.p b)) 2 (.p c)) 3 (.p d)) 4 (.p e):=by funext t;unfold iR c9 gI;rcases t with _|_|_|_|_|t<;>simp
end
section
variable{P:Program}{t:TypeId}{k:IntKind}{a b:Int}
theorem awX:lH P .add t (.p (.val (.int k a))) (.p (.val (.int k b)))=some (True,.p (.val (.int k (k.wrap (a+b))))):=by simp[lH,y7]
theorem awY:lH P .sub t (.p (.val (.int k a))) (.p (.val (.int k b)))=some (True,.p (.val (.int k (k.wrap (a-b))))):=by simp[lH,y7]
theorem awZ:lH P .mul t (.p (.val (.int k a))) (.p (.val (.int k b)))=some (True,.p (.val (.int k (k.wrap (a * b))))):=by simp[lH,y7]
theorem aw0:lH P .quo t (.p (.val (.int k a))) (.p (.val (.int k b)))=some (b≠0,.p (.val (.int k (k.wrap (a.tdiv b))))):=by simp[lH,y7]
theorem aw1:lH P .rem t (.p (.val (.int k a))) (.p (.val (.int k b)))=some (b≠0,.p (.val (.int k (a.tmod b)))):=by simp[lH,y7]
theorem aw2:lH P .eql t (.p (.val (.int k a))) (.p (.val (.int k b)))=some (True,.p (.val (.bool (decide (a=b))))):=by simp[lH,y7]
theorem aw3:lH P .neq t (.p (.val (.int k a))) (.p (.val (.int k b)))=some (True,.p (.val (.bool (!decide (a=b))))):=by simp[lH,y7]
theorem aw4:lH P .lss t (.p (.val (.int k a))) (.p (.val (.int k b)))=some (True,.p (.val (.bool (decide (a<b))))):=by simp[lH,y7]
theorem aw5:lH P .leq t (.p (.val (.int k a))) (.p (.val (.int k b)))=some (True,.p (.val (.bool (decide (a<=b))))):=by simp[lH,y7]
theorem aw6:lH P .gtr t (.p (.val (.int k a))) (.p (.val (.int k b)))=some (True,.p (.val (.bool (decide (b<a))))):=by simp[lH,y7]
theorem aw7:lH P .geq t (.p (.val (.int k a))) (.p (.val (.int k b)))=some (True,.p (.val (.bool (decide (b<=a))))):=by simp[lH,y7]
theorem aw8{k':IntKind} : lH P .shr t (.p (.val (.int k a))) (.p (.val (.int k' b)))=some (0<=b,.p (.val (.int k (a.fdiv (2 ^ (min b.toNat k.bits)))))):=by simp[lH,y7]
theorem as3{x y:ByteArray} : lH P .eql t (.p (.val (.string x))) (.p (.val (.string y)))=some (True,.p (.val (.bool (decide (x=y))))):=by simp[lH,y7]
theorem aw9{es:List (List PV)}(h:isSlice P t=true):lH P .eql t (.p (.aL es)) (.p (.val (.slice none 0 0)))=some (es≠[],.p (.val (.bool false))):=by simp[lH,h]
theorem as4{ao:Option Addr}{n c:Nat}(h:isSlice P t=true):lH P .eql t (.p (.val (.slice ao n c))) (.p (.val (.slice none 0 0)))=some (True,.p (.val (.bool ao.isNone))):=by
 unfold isSlice at h;unfold lH y7;split at h
 ·rename_i e he;simp[he]
 ·cases h
def apk(P:Program)(t:TypeId):Bool:=match P.underlying t with
 |some .bool=>true
 |_=>false
theorem as5{x y:Bool}(h:apk P t=true):lH P .eql t (.p (.val (.bool x))) (.p (.val (.bool y)))=some (True,.p (.val (.bool (x == y)))):=by
 unfold apk at h;unfold lH y7;split at h
 ·rename_i he;simp[he]
 ·cases h
def eqX(op:BinOp)(r:Option Bool):Option (Prop×AV):=match op,r with
 | .eql,some b=>some (True,.p (.val (.bool b)))
 | .neq,some b=>some (True,.p (.val (.bool !b)))
 |_,_=>none
theorem aAR(b:Bool):eqX .eql (some b)=some (True,.p (.val (.bool b))):=rfl
theorem aAS(b:Bool):eqX .neq (some b)=some (True,.p (.val (.bool !b))):=rfl
theorem axa{op:BinOp}{cs ds:List PV}{ks:List BK}(h:wM P t=some ks):lH P op t (.p (.agg cs)) (.p (.agg ds))=eqX op (eqK ks cs ds):=by unfold lH eqX;simp only[h];try rfl
theorem aAT:eqK [] [] []=some true:=rfl
def axb(b:Bool)(r:Option Bool):Option Bool:=match r with
 |some r=>some (b&&r)
 |none=>none
theorem apl(a b:Bool):axb a (some b)=some (a&&b):=rfl
theorem aDN(ks:List BK)(k:IntKind)(a b:Int)(cs ds:List PV):eqK (.i :: ks) (.val (.int k a) :: cs) (.val (.int k b) :: ds)=axb (decide (a=b)) (eqK ks cs ds):=by simp only[eqK,if_true,axb];all_goals(cases eqK ks cs ds<;>rfl)
theorem aAU{x:Bool} : unX .not (.p (.val (.bool x)))=some (True,.p (.val (.bool !x))):=rfl
theorem apm{x y:AV} : ajp (.p (.val (.bool true))) x y=some (True,x):=rfl
theorem amF{x y:AV} : ajp (.p (.val (.bool false))) x y=some (True,y):=rfl
theorem apn(vs:List PV)(n:Nat):vo (.p (.dH vs)) n=(match vs[n]? with|some x=>some (True,.p x)|none=>none):=rfl
theorem apo(vs:List AV)(n:Nat):vo (.dH vs) n=(match vs[n]? with|some x=>some (True,x)|none=>none):=rfl
theorem apq(H:au)(cs:List PV)(off:Nat):ag9 P t (.p (.ez cs off)) H=(match tC P t cs off with|some x=>some (True,.p x,H)|none=>none):=rfl
def arV(P:Program)(t:TypeId)(c:Option Chunk)(off:Nat)(H:au):Option (Prop×AV×au):=match c with
 |some (.box cs)=>(match tB P t cs off with|some v=>some (True,v,H)|none=>none)
 |_=>none
theorem as6(H:au)(id off:Nat):ag9 P t (.ptr id off) H=arV P t (H id) off H:=rfl
theorem amG(H:au)(cs:List AV)(off:Nat):arV P t (some (.box cs)) off H=(match tB P t cs off with|some v=>some (True,v,H)|none=>none):=rfl
theorem apr(H:au)(id bg i off:Nat):ag9 P t (.jG id bg i off) H=(match rowOf H id bg with
   |some es=>(match tC P t (es.getD i []) off with|some x=>some (i<es.length/\0<(es.getD i []).length,.p x,H)|none=>none)
   |none=>none):=rfl
def rdA(g:Option Bool)(n:Option Nat)(cs:List AV)(off:Nat):Option AV:=match g with
 |some true=>(match n with
  |some n=>if off+n<=cs.length then some (aaz ((cs.drop off).take n)) else none
  |none=>none)
 |some false=>cs[off]?
 |none=>none
def rdP(g:Option Bool)(n:Option Nat)(cs:List PV)(off:Nat):Option PV:=match g with
 |some true=>(match n with
  |some n=>if off+n<=cs.length then some (.agg ((cs.drop off).take n)) else none
  |none=>none)
 |some false=>cs[off]?
 |none=>none
theorem axc{cs:List AV}{off:Nat} : tB P t cs off=rdA (eL P t) (bf P t) cs off:=rfl
theorem axd{cs:List PV}{off:Nat} : tC P t cs off=rdP (eL P t) (bf P t) cs off:=rfl
theorem aAV{cs:List AV}{off:Nat}{n:Option Nat} : rdA (some false) n cs off=cs[off]?:=rfl
theorem aAW{cs:List PV}{off:Nat}{n:Option Nat} : rdP (some false) n cs off=cs[off]?:=rfl
theorem aAX{cs:List AV}{off n:Nat} : rdA (some true) (some n) cs off=if off+n<=cs.length then some (aaz ((cs.drop off).take n)) else none:=rfl
theorem aAY{cs:List PV}{off n:Nat} : rdP (some true) (some n) cs off=if off+n<=cs.length then some (.agg ((cs.drop off).take n)) else none:=rfl
theorem amH(H:au)(o n:Nat)(cs:List PV)(off:Nat):afh P (some (o,n)) (.p (.ez cs off)) H=some (n≠0,.p (.ez cs (off+o)),H):=rfl
theorem aps(H:au)(o n:Nat)(id off:Nat):afh P (some (o,n)) (.ptr id off) H=some (n≠0,.ptr id (off+o),H):=rfl
theorem amI(H:au)(o n:Nat)(id bg i off:Nat):afh P (some (o,n)) (.jG id bg i off) H=(match rowOf H id bg with
   |some _=>some (n≠0,.jG id bg i (off+o),H)
   |none=>none):=rfl
def aCV(e:Option TypeId)(sz:TypeId->Option Nat)(es:List (List PV))(a:Int)(H:au):Option (Prop×AV×au):=match e with
 |some e=>(match sz e with
  |some sz=>some ((0<=a/\a<es.length)/\(es.getD a.toNat []).length=sz/\0<sz,.p (.ez (es.getD a.toNat []) 0),H)
  |none=>none)
 |none=>none
theorem apt{H:au}{es:List (List PV)} : qO P t (.p (.aL es)) (.p (.val (.int k a))) H=aCV (cN P t) (bf P) es a H:=by
 unfold qO pJ aCV up3;cases cN P t with
 |none=>rfl
 |some e=>simp only[];cases bf P e<;>rfl
theorem as7{e:TypeId}{f:TypeId->Option Nat}{es:List (List PV)}{H:au} : aCV (some e) f es a H=(match f e with
  |some sz=>some ((0<=a/\a<es.length)/\(es.getD a.toNat []).length=sz/\0<sz,.p (.ez (es.getD a.toNat []) 0),H)
  |none=>none):=rfl
def aCW(r:Option (List (List PV)))(e:Option TypeId)(sz:TypeId->Option Nat)(id bg:Nat)(a:Int)(H:au):Option (Prop×AV×au):=match r,e with
 |some es,some e=>(match sz e with
  |some sz=>some ((0<=a/\a<es.length)/\(es.getD a.toNat []).length=sz/\0<sz,.jG id bg a.toNat 0,H)
  |none=>none)
 |_,_=>none
theorem apu{H:au}{id bg:Nat} : qO P t (.row id bg) (.p (.val (.int k a))) H=aCW (rowOf H id bg) (cN P t) (bf P) id bg a H:=by unfold qO aCW;rfl
theorem as8{es:List (List PV)}{e:TypeId}{f:TypeId->Option Nat}{id bg:Nat}{H:au} : aCW (some es) (some e) f id bg a H=(match f e with
  |some sz=>some ((0<=a/\a<es.length)/\(es.getD a.toNat []).length=sz/\0<sz,.jG id bg a.toNat 0,H)
  |none=>none):=rfl
theorem axe(H:au)(id bg:Nat):rowOf H id bg=(match H id with
 |some (.row v _ _ es)=>if v=bg then some es else none
 |some (.shut v es)=>if v=bg then some es else none
 |some (.tail v _ _ es)=>if v=bg then some es else none
 |_=>none):=rfl
theorem axf{H:au}{es:List (List PV)}(h:isSlice P t=true):agq P t (.p (.aL es)) H=some (True,.p (.val (.int .i64 es.length)),H):=by simp[agq,rU,h,up3]
theorem axg{H:au}{s:ByteArray}(h:aa0 P t=true):agq P t (.p (.val (.string s))) H=some (True,.p (.val (.int .i64 s.size)),H):=by simp[agq,rU,h,up3]
theorem axh{H:au}{id bg:Nat}(h:isSlice P t=true):agq P t (.row id bg) H=(match rowOf H id bg with
  |some es=>some (True,.p (.val (.int .i64 es.length)),H)
  |none=>none):=by
 simp only[agq,rU,h];all_goals(cases rowOf H id bg<;>rfl)
theorem axi{s:ByteArray}(h:aa0 P t=true):aoU P t (.p (.val (.string s))) (.p (.val (.int k a)))=some (0<=a/\a<s.size,.p (.val (.int .u8 (l9 s a.toNat)))):=by simp[aoU,h]
def cvI(b:Bool)(d:Option IntKind)(a:Int):Option (Prop×AV):=match b,d with
 |true,some k=>some (True,.p (.val (.int k (k.wrap a))))
 |_,_=>none
theorem as9{s:TypeId} : agT P s t (.p (.val (.int k a)))=cvI (P.underlying s).isSome (ajn P t) a:=by unfold agT cvI;cases (P.underlying s).isSome<;>cases ajn P t<;>rfl
theorem axj{k:IntKind} : cvI true (some k) a=some (True,.p (.val (.int k (k.wrap a)))):=rfl
def axk(P : Program)(t : TypeId)(a v : AV)(H : au) : Option (Prop × AV × au) := match bf P t with
  | some n => if (b8 v).length = n ∧ (b8 v).all oC = true then (match a with
    | .ptr id off=>(match H id with
     |some (.box cs)=>if off+n<=cs.length then some (True,.dead,br H id (.box (splice cs off (b8 v)))) else none
     |_=>none)
    | .jG id bg i off=>(match H id,uT (b8 v) with
     |some (.row v0 e sz es),some ps=>if v0=bg then some (i<es.length/\off+n<=sz,.dead,br H id (.row v0 e sz (es.set i (splice (es.getD i []) off ps)))) else none
     |_,_=>none)
    |_=>none)
   else none
  |none=>none
theorem apv(d:Option Tmp)(ty:TypeId)(pos:String)(af:Array Edge)(g:Option (Nat×Bool))(ρ:Operand->AV)(H:au)(x y:Operand):kD P ⟨d,.store t x y,ty,pos,af,g⟩ ρ H=axk P t (ρ x) (ρ y) H:=by rw[asX];rfl
def aDO(d : Option Tmp)(v : AV)(H : au) : Option (Prop × AV × au) := match d with
  |some d=>(match H d with
   |none=>if (b8 v).all oC=true then some (True,.ptr d 0,br H d (.box (b8 v))) else none
   |some _=>none)
  |none=>none
theorem axl(d:Option Tmp)(ty:TypeId)(pos:String)(af:Array Edge)(g:Option (Nat×Bool))(ρ:Operand->AV)(H:au)(x:Operand):kD P ⟨d,.box t x,ty,pos,af,g⟩ ρ H=aDO d (ρ x) H:=by rw[aAH];rfl
def axm(P : Program)(d : Option Tmp)(e : TypeId)(H : au) : Option (Prop × AV × au) := match d with
  |some d=>(match H d,cH P e with
   |none,some zs=>if zs.all (·.oneCell')=true then some (True,.ptr d 0,br H d (.box (zs.map λz=>.p (.val z)))) else none
   |_,_=>none)
  |none=>none
theorem apw(d:Option Tmp)(ty:TypeId)(pos:String)(af:Array Edge)(g:Option (Nat×Bool))(ρ:Operand->AV)(H:au)(e:TypeId):kD P ⟨d,.alloc e,ty,pos,af,g⟩ ρ H=axm P d e H:=by rw[asY];rfl
def aDP(P:Program)(e:Option TypeId)(n:Nat)(parts:List (Nat×AV)):Option (TypeId×List (List PV)):=match e with
 |some e=>(match bf P e,cH P e with
  | some sz, some zs => if zs.length = sz ∧ 0 < sz ∧ n * sz ≤ 16777216 ∧ zs.all (·.oneCell') = true then
    (match rX (λi=>some (i * sz,sz)) (iK zs n) parts with
    |some cs=>(match uT cs with
     |some ps=>if ps.length=n * sz then some (e,chunk sz n ps) else none
     |none=>none)
    |none=>none)
   else none
  |_,_=>none)
 |none=>none
theorem apx(n:Nat)(parts:List (Nat×AV)):mm P t n parts=aDP P (cN P t) n parts:=rfl
theorem ata(e:TypeId)(n:Nat)(parts:List (Nat×AV)):aDP P (some e) n parts=(match bf P e,cH P e with
  | some sz, some zs => if zs.length = sz ∧ 0 < sz ∧ n * sz ≤ 16777216 ∧ zs.all (·.oneCell') = true then
    (match rX (λi=>some (i * sz,sz)) (iK zs n) parts with
    |some cs=>(match uT cs with
     |some ps=>if ps.length=n * sz then some (e,chunk sz n ps) else none
     |none=>none)
    |none=>none)
   else none
  |_,_=>none):=rfl
theorem apy(n:Nat)(parts:List (Nat×AV))(H:au):ak2 P t n parts H=(match mm P t n parts with
 |some (_,es)=>(match n with
  |0=>some (True,.p .emp,H)
  |_=>some (True,.p (.aL es),H))
 |none=>(match mm P t n (parts.map λx=>(x.1,aaA (dr (pK parts) H) x.2)) with
  |some (_,es)=>some (True,.p (.aL es),dr (pK parts) H)
  |none=>none)):=rfl
def axn(place : Nat → Option (Nat × Nat))(p : Option (Nat × Nat))(cells : List AV)(v : AV)(rest : List (Nat × AV)) : Option (List AV) := match p with
  |some (off,size)=>if (b8 v).length=size/\off+size<=cells.length/\(b8 v).all oC=true then rX place (splice cells off (b8 v)) rest else none
  |none=>none
theorem atb(place:Nat->Option (Nat×Nat))(cells:List AV):rX place cells []=some cells:=rfl
theorem apz(place:Nat->Option (Nat×Nat))(cells:List AV)(i:Nat)(v:AV)(rest:List (Nat×AV)):rX place cells ((i,v) :: rest)=axn place (place i) cells v rest:=by simp only[rX,axn];try rfl
theorem apA(place:Nat->Option (Nat×Nat))(cells:List AV)(off size:Nat)(v:AV)(rest:List (Nat×AV)):axn place (some (off,size)) cells v rest=if (b8 v).length=size/\off+size<=cells.length/\(b8 v).all oC=true then rX place (splice cells off (b8 v)) rest else none:=rfl
theorem ai2(zs:List Value):iK zs 0=[]:=rfl
theorem ai3(zs:List Value)(n:Nat):iK zs (n+1)=(zs.map λz=>AV.p (.val z))++iK zs n:=by simp[iK,replicate_succ]
theorem apB{α:Type}(sz:Nat)(l:List α):chunk sz 0 l=[]:=rfl
theorem apC{α:Type}(sz n:Nat)(l:List α):chunk sz (n+1) l=l.take sz :: chunk sz n (l.drop sz):=rfl
def aDQ(z:Option (List Value))(pl:Option (List (Nat×Nat)))(parts:List (Nat×AV)):Option (Prop×AV):=match z,pl with
 | some zs, some pl => if zs.all (·.oneCell') = true then
   (match rX (λi=>pl[i]?) (zs.map λz=>.p (.val z)) parts with
   |some cs=>some (True,aaz cs)
   |none=>none)
  else none
 |_,_=>none
theorem atc(parts:List (Nat×AV)):ae8 P t parts=aDQ (cH P t) (dZ P t) parts:=rfl
theorem atd(zs:List Value)(pl:List (Nat×Nat))(parts:List (Nat×AV)):aDQ (some zs) (some pl) parts=if zs.all (·.oneCell')=true then
   (match rX (λi=>pl[i]?) (zs.map λz=>.p (.val z)) parts with
   |some cs=>some (True,aaz cs)
   |none=>none)
  else none:=rfl
theorem aAZ(k:IntKind)(n:Int):Value.oneCell' (.int k n)=true:=rfl
theorem axo(b:Bool):Value.oneCell' (.bool b)=true:=rfl
theorem apD(b:ByteArray):Value.oneCell' (.string b)=true:=rfl
theorem ate(a:Option Addr)(n c:Nat):Value.oneCell' (.slice a n c)=true:=rfl
def aA0(ty:Option (TypeId×Nat×Nat))(a b:AV)(H:au):Option (Prop×AV×au):=match ty with
 |some (e',sz',rY)=>(match a with
  | .row id bg=>(match H id with
   | some (.row v e sz es) => if v = bg ∧ e = e' ∧ sz = sz' then (match wP H b with
     |some ns=>some ((es.length+ns.length) * rY<=140737488355328/\∀x∈ns,x.length=sz,.row id (bg+1),br H id (.row (bg+1) e sz (es++ns)))
     |none=>none)
    else none
   |_=>none)
  |_=>none)
 |none=>none
theorem amJ(t1 t2:TypeId)(id bg:Nat)(b:AV)(H:au):agr P t1 t2 (.row id bg) b H=aA0 (dM P t1 t2) (.row id bg) b H:=by
 unfold agr ae9 ad9 aA0;simp only[isNil];cases dM P t1 t2 with
 |none=>rfl
 |some x=>rfl
theorem atf(H:au)(ns:List (List PV)):wP H (.p (.aL ns))=some ns:=rfl
theorem atg(H:au)(ao:Option Addr)(c:Nat):wP H (.p (.val (.slice ao 0 c)))=some []:=rfl
theorem ath(H:au)(id bg:Nat):wP H (.row id bg)=rowOf H id bg:=rfl
theorem amK(e':TypeId)(sz' rY:Nat)(id bg:Nat)(b:AV)(H:au):aA0 (some (e',sz',rY)) (.row id bg) b H=(match H id with
   | some (.row v e sz es) => if v = bg ∧ e = e' ∧ sz = sz' then (match wP H b with
     |some ns=>some ((es.length+ns.length) * rY<=140737488355328/\∀x∈ns,x.length=sz,.row id (bg+1),br H id (.row (bg+1) e sz (es++ns)))
     |none=>none)
    else none
   |_=>none):=rfl
def axp(ty:Option (TypeId×Nat×Nat))(es:List (List PV))(H:au):Option (Prop×AV×au):=match ty with
 |some (_,sz,rY)=>some (es.length * rY<=140737488355328/\∀x∈es,x.length=sz,.p (.aL es),H)
 |none=>none
theorem ati(e':TypeId)(sz' rY:Nat)(es:List (List PV))(H:au):axp (some (e',sz',rY)) es H=some (es.length * rY<=140737488355328/\∀x∈es,x.length=sz',.p (.aL es),H):=rfl
theorem axq(t1 t2:TypeId)(es:List (List PV))(H:au):agr P t1 t2 (.p .emp) (.p (.aL es)) H=axp (dM P t1 t2) es H:=by
 unfold agr ae9 ad9 axp;simp only[isNil];cases dM P t1 t2 with
 |none=>rfl
 |some x=>rfl
theorem axr(t1 t2:TypeId)(es:List (List PV))(H:au):agr P t1 t2 (.p (.val (.slice none 0 0))) (.p (.aL es)) H=axp (dM P t1 t2) es H:=by
 unfold agr ae9 ad9 axp;simp only[isNil];cases dM P t1 t2 with
 |none=>rfl
 |some x=>rfl
theorem axt(cs:List AV):aaz cs=(match uT cs with|some ps=>.p (.agg ps)|none=>.agg cs):=rfl
theorem axu:uT []=some []:=rfl
theorem aCX(x:PV)(r:List AV):uT (.p x :: r)=(match uT r with|some ps=>some (x :: ps)|none=>none):=rfl
theorem axv(i v:Nat)(r:List AV):uT (.row i v :: r)=none:=rfl
theorem axw(i v:Nat)(r:List AV):uT (.ptr i v :: r)=none:=rfl
theorem amL(cs:List AV):b8 (.agg cs)=cs:=rfl
theorem ak4(cs:List PV):b8 (.p (.agg cs))=cs.map AV.p:=rfl
theorem amM(v:Value):b8 (.p (.val v))=[.p (.val v)]:=rfl
theorem amN(v:List (List PV)):b8 (.p (.aL v))=[.p (.aL v)]:=rfl
theorem amO(i v:Nat):b8 (.row i v)=[.row i v]:=rfl
theorem amP(i v:Nat):b8 (.ptr i v)=[.ptr i v]:=rfl
theorem atj(v:Value):oC (.p (.val v))=true:=rfl
theorem atk(v:List (List PV)):oC (.p (.aL v))=true:=rfl
theorem atl(i v:Nat):oC (.row i v)=true:=rfl
theorem atm(i v:Nat):oC (.ptr i v)=true:=rfl
theorem afi{α:Type}(cs:List α)(off:Nat)(new:List α):splice cs off new=cs.take off++new++cs.drop (off+new.length):=rfl
theorem aA1{env:Env}{H:au}(rs:List ResultVar):awD P env H rs=(match pq P env H rs with
 |some a=>(match afX H a with
  |some (x,_)=>some x
  |none=>none)
 |none=>none):=rfl
theorem atn{env:Env}{H:au}(r:ResultVar):pq P env H [r]=(match acC P env H r with|some a=>some a|none=>none):=by simp only[pq,amu];cases acC P env H r<;>rfl
theorem ato{env:Env}{H:au}(r s:ResultVar):pq P env H [r,s]=(match acC P env H r with|some a=>(match acC P env H s with|some b=>some (.dH [a,b])|none=>none)|none=>none):=by simp only[pq,amu];cases acC P env H r<;>cases acC P env H s<;>rfl
theorem amQ{env:Env}{H:au}(r s t:ResultVar):pq P env H [r,s,t]=(match acC P env H r with|some a=>(match acC P env H s with|some b=>(match acC P env H t with|some c=>some (.dH [a,b,c])|none=>none)|none=>none)|none=>none):=by simp only[pq,amu];cases acC P env H r<;>cases acC P env H s<;>cases acC P env H t<;>rfl
theorem axx{env:Env}{H:au}(t:Tmp):acC P env H (.tmp t)=some (env t):=rfl
def aDR(P:Program)(t:TypeId)(H:au)(a:AV):Option AV:=match a with
 | .ptr id off=>(match H id with
  |some (.box cs)=>tB P t cs off
  |_=>none)
 |_=>none
theorem atp{env:Env}{H:au}(a:Tmp)(t:TypeId):acC P env H (.cell a t)=aDR P t H (env a):=rfl
theorem axy{H:au}(id off:Nat):aDR P t H (.ptr id off)=(match H id with
  |some (.box cs)=>tB P t cs off
  |_=>none):=rfl
theorem aA2(H:au)(x:PV):afX H (.p x)=some (x,false):=rfl
theorem atq(H:au)(id bg:Nat):afX H (.row id bg)=qt H (.row id bg):=rfl
theorem atr(H:au)(cs:List AV):afX H (.agg cs)=(match eT (oD H) cs with
  |some (ps,b)=>some (.agg ps,b)
  |none=>none):=rfl
theorem att(H:au)(cs:List AV):afX H (.dH cs)=(match eT (gL H) cs with
  |some (ps,b)=>some (.dH ps,b)
  |none=>none):=rfl
theorem ak5(H:au)(x:PV):gL H (.p x)=some (x,false):=rfl
theorem atu(H:au)(id bg:Nat):gL H (.row id bg)=qt H (.row id bg):=rfl
theorem atv(H:au)(id off:Nat):gL H (.ptr id off)=oD H (.ptr id off):=rfl
theorem atw(H:au)(cs:List AV):gL H (.agg cs)=(match eT (oD H) cs with
  |some (ps,b)=>some (.agg ps,b)
  |none=>none):=rfl
theorem atx(H:au)(fn:Fn)(fs cs:List AV):gL H (.jk fn fs cs)=(match eT (oD H) fs,eT (oD H) cs with
  |some (f,b),some (c,d)=>some (.jk fn f c,b||d)
  |_,_=>none):=rfl
theorem aA3(H:au)(x:PV):oD H (.p x)=some (x,false):=rfl
theorem aty(H:au)(id bg:Nat):oD H (.row id bg)=qt H (.row id bg):=rfl
theorem atz(H:au)(id off:Nat):oD H (.ptr id off)=(match H id with
  |some (.box cs)=>(match eT (ac4 H) cs with
   |some (ps,_)=>some (.ez ps off,true)
   |none=>none)
  |_=>none):=rfl
theorem atA(H:au)(id off:Nat):ac4 H (.ptr id off)=(match H id with
  |some (.box cs)=>(match eT (qt H) cs with
   |some (ps,_)=>some (.ez ps off,true)
   |none=>none)
  |_=>none):=rfl
theorem aA4(H:au)(x:PV):ac4 H (.p x)=some (x,false):=rfl
theorem atB(H:au)(id bg:Nat):qt H (.row id bg)=(match H id with
  |some (.row v _ _ es)=>if v=bg then some (.aL es,true) else none
  |some (.shut v es)=>if v=bg then some (.aL es,false) else none
  |_=>none):=rfl
theorem atC(f:AV->Option (PV×Bool)):eT f []=some ([],false):=rfl
theorem apE(f:AV->Option (PV×Bool))(a:AV)(r:List AV):eT f (a :: r)=(match f a,eT f r with
  |some (x,b),some (xs,c)=>some (x :: xs,b||c)
  |_,_=>none):=rfl
theorem axz(fn:Fn)(fs cs:List AV):amj fn fs cs=(match uT fs,uT cs with
 |some f,some c=>.p (.jk fn f c)
 |_,_=>.jk fn fs cs):=rfl
end
attribute [go_sem] aAK asZ aAL aCR aAM awN aAN aAO aCS amC as0 awO ai1 amD api apj amE awP as1 awE asP ao9 amw apa apb apc apd asQ asR amx amy amz awF awG apf awH awI awJ aph awK amA asT awL amB ak0 asU asV asW ak1 awM aiZ ai0 apv apw axl aha aAI ahb ahc aCT aCU aAP as2 awQ aAQ awR awS awT awU awV awW aCH aAz awX awY awZ aw0 aw1 aw2 aw3 aw4 aw5 aw6 aw7 aw8 as3 aw9 aAU apm amF apn apo apq as6 amG apr axc axd aAV aAW aAX aAY amH aps amI apt as7 apu as8 axe axf axg axh axi as9 axj axk aDO axm apx ata apy atb apz apA ai2 ai3 apB apC atc atd aAZ axo apD ate amJ atf atg as5 as4 axa aAR aAS aAT apl aDN Option.isNone_none Option.isNone_some ath amK ati axq axr axt axu aCX axv axw amL ak4 amM amN amO amP atj atk atl atm afi aA1 atn ato amQ axx atp axy aA2 atq atr att ak5 atu atv atw atx aA3 aty atz aA4 atA atB atC apE axz
attribute [go_sem] true_and and_true if_true if_false ite_true ite_false not_true_eq_false not_false_eq_true Bool.not_true Bool.not_false Bool.false_eq_true ne_eq Option.bind_some Option.bind_none map_some Option.map_none map_cons map_nil length_cons length_nil drop_zero drop_succ_cons take_zero take_succ_cons cons_append nil_append append_nil drop_nil take_nil zero_add Nat.add_zero AV.p.injEq PV.val.injEq PV.aL.injEq PV.dH.injEq PV.agg.injEq Value.int.injEq Value.bool.injEq Value.string.injEq cC List.cons.injEq mem_cons not_mem_nil forall_eq_or_imp forall_eq or_false false_or and_self getElem?_toArray getElem?_cons_zero getElem?_cons_succ all_cons all_nil Bool.and_true Bool.true_and Bool.and_self Bool.or_false Bool.false_or Bool.false_and Bool.and_false Bool.or_true Bool.true_or beq_self_eq_true length_map length_append Int.ofNat_lt Int.natCast_nonneg Int.toNat_natCast append_assoc
variable{P:Program}{I:Mem}{L:bA}
mutual
def oE(H:au):AV->Prop
 | .p _=>True
 | .row id _=>H id≠none
 | .ptr id _=>H id≠none
 | .jG id _ _ _=>H id≠none
 | .agg cs=>nQ H cs
 | .dH cs=>nQ H cs
 | .jk _ fs cs=>nQ H fs/\nQ H cs
 | .fm id _=>H id≠none
 | .lF id _ _ _=>H id≠none
 | .lG id _ _=>H id≠none
 | .oB id _ _ _ _=>H id≠none
 | .bsl id _=>H id≠none
 | .iV id _ _ _ _ _=>H id≠none
 | .dead=>True
def nQ(H:au):List AV->Prop
 | []=>True
 |a :: r=>oE H a/\nQ H r
end
theorem oF{H:au} : ∀ {cs:List AV},nQ H cs->∀ (j:Nat) c,cs[j]? = some c->oE H c
 | [],_,j,c,h=>by simp at h
 |a :: r,h,j,c,hc=>by
  cases j with
  |zero=>simp at hc;subst hc;exact h.1
  |succ j=>exact oF h.2 j c (by simpa using hc)
def bA.to(L:bA)(H:au):bA:=λid=>match H id with
 |some _=>L id
 |none=>none
theorem mo{H:au}{id:Nat}(h:H id≠none):L.to H id=L id:=by
 unfold bA.to;cases hH:H id with
 |none=>exact absurd hH h
 |some c=>rfl
theorem to_eq{H:au}{id:Nat}{l:Loc}(h:L.to H id=some l):L id=some l/\∃c,H id=some c:=by
 unfold bA.to at h;cases hH:H id with
 |none=>simp[hH] at h
 |some c=>simp[hH] at h;exact⟨h,c,rfl⟩
theorem dV.to{u:Value}{a:AV}(h:dV I L u a){H:au} : oE H a->dV I (L.to H) u a:=by
 induction h with
 |p u x h=>exact λ_=>.p u x h
 |row u id bg v hdr sz hl hle h h1=>exact λhi=>.row u id bg v hdr sz ((mo hi).trans hl) hle h h1
 |ptr id b off hl=>exact λhi=>.ptr id b off ((mo hi).trans hl)
 |jG u id bg v i off hdr sz hl hle h h1=>exact λhi=>.jG u id bg v i off hdr sz ((mo hi).trans hl) hle h h1
 |agg us cs hl _ hone ih=>exact λhi=>.agg us cs hl (λj u c hu hc=>ih j u c hu hc (oF hi j c hc)) hone
 |dH us cs hl _ ih=>exact λhi=>.dH us cs hl (λj u c hu hc=>ih j u c hu hc (oF hi j c hc))
 |jk fn us vs fs cs hl hl' _ _ ih ih'=>exact λhi=>.jk fn us vs fs cs hl hl' (λj u c hu hc=>ih j u c hu hc (oF hi.1 j c hc)) (λj u c hu hc=>ih' j u c hu hc (oF hi.2 j c hc))
 |fm u id bg v hdr sz sz' dx n hl hle h h1=>exact λhi=>.fm u id bg v hdr sz sz' dx n ((mo hi).trans hl) hle h h1
 |lF u id bg v i off hdr sz sz' dx n hl hle h h1=>exact λhi=>.lF u id bg v i off hdr sz sz' dx n ((mo hi).trans hl) hle h h1
 |lG u id bg v i hdr sz sz' dx n hl hle h h1=>exact λhi=>.lG u id bg v i hdr sz sz' dx n ((mo hi).trans hl) hle h h1
 |oB u id bg v i j off hdr sz sz' dx n hl hle h h1=>exact λhi=>.oB u id bg v i j off hdr sz sz' dx n ((mo hi).trans hl) hle h h1
 |bsl id b n hl=>exact λhi=>.bsl id b n ((mo hi).trans hl)
 |iV a id bg v off n m c hdr sz hl hle hn hm hz h=>exact λhi=>.iV a id bg v off n m c hdr sz ((mo hi).trans hl) hle hn hm hz h
 |dead u=>exact λ_=>.dead u
def ahd(e' e:Env):Prop:=∀t,e' t = .dead\/e' t=e t
def afj(e:Env)(H:au):Prop:=∀t,oE H (e t)
def qP(H' H:au):Prop:=∀id cs,H' id=some (.box cs)->nQ H cs
theorem axA(e:Env):ahd gI e:=λ_=>.inl rfl
theorem aA5{e' e:Env}{d:Nat}{v:AV}(h:ahd e' e)(hv:e d=v):ahd (c9 e' d v) e:=λt=>by
 unfold c9;split
 ·rename_i ht;subst ht;exact .inr hv.symm
 ·exact h t
theorem aDS(H:au):HSub ct H:=λ_ _ h=>by cases h
theorem atD{H' H:au}{id:Nat}{c:Chunk}(h:HSub H' H)(hc:H id=some c):HSub (br H' id c) H:=λi c' hi=>by
 unfold br at hi;split at hi
 ·rename_i hid;subst hid;simp at hi;subst hi;exact hc
 ·exact h i c' hi
theorem axB(H:au):afj gI H:=λ_=>trivial
theorem aA6{e:Env}{H:au}{d:Nat}{v:AV}(h:afj e H)(hv:oE H v):afj (c9 e d v) H:=λt=>by
 unfold c9;split
 ·exact hv
 ·exact h t
theorem aA7(H:au):qP ct H:=λ_ _ h=>by cases h
theorem apF{H' H:au}{id:Nat}{cs:List AV}(h:qP H' H)(hc:nQ H cs):qP (br H' id (.box cs)) H:=λi c' hi=>by
 unfold br at hi;split at hi
 ·simp at hi;subst hi;exact hc
 ·exact h i c' hi
theorem apG{H' H:au}{id v:Nat}{e:TypeId}{sz:Nat}{es:List (List PV)}(h:qP H' H):qP (br H' id (.row v e sz es)) H:=λi c' hi=>by
 unfold br at hi;split at hi
 ·simp at hi
 ·exact h i c' hi
theorem amR{H' H:au}{id v:Nat}{es:List (List PV)}(h:qP H' H):qP (br H' id (.shut v es)) H:=λi c' hi=>by
 unfold br at hi;split at hi
 ·simp at hi
 ·exact h i c' hi
def kN(H H':au):Prop:=∀i,1000000<=i->H i≠none->H' i≠none
theorem aCp(H':au):kN ct H':=λ_ _ h=>absurd rfl h
theorem amS{H H':au}{i:Nat}{c:Chunk}(hi:i<1000000)(h:kN H H'):kN (br H i c) H':=λj hj hn=>by refine h j hj ?_;unfold br at hn;rw[if_neg (by omega)] at hn;exact hn
theorem aju{H H':au}{i:Nat}{c:Chunk}(hi:H' i≠none)(h:kN H H'):kN (br H i c) H':=λj hj hn=>by
 by_cases e:j=i
 ·rw[e];exact hi
 ·refine h j hj ?_;unfold br at hn;rw[if_neg e] at hn;exact hn
theorem aA8{e e':Env}{H H':au}(h1:ahd e' e)(h2:HSub H' H)(h3:afj e' H')(h4:qP H' H')(h5:kN H H'):c8 e H e' H':=λC I L tm w hs=>by
 refine⟨I,L.to H',?_⟩;exact
 {below:=hs.below
  mem:=hs.mem
  lW:=hs.lW
  mS:=hs.mS
  frame:=hs.frame
  loc:=λi=>by
   cases hi:C.L0 i with
   |none=>trivial
   |some l0 =>
    have h0:=hs.loc i;rw[hi] at h0;have hL:L i≠none:=by
     cases l0 with
     |box b=>intro e;rw[e] at h0;cases h0
     |row v hdr sz=>obtain⟨_,_,h0,_⟩:=h0;intro e;rw[e] at h0;cases h0
     |deep v hdr sz sz' dx n=>obtain⟨_,_,_,_,h0,_⟩:=h0;intro e;rw[e] at h0;cases h0
    have hH:H i≠none:=by
     cases hLi:L i with
     |none=>exact absurd hLi hL
     |some l=>obtain⟨c,hc⟩:=hs.dom i l hLi;rw[hc];simp
    have e:=mo (L:=L) (h5 i (C.hL0 i l0 hi) hH);rw[e];exact h0
  jO:=λid l b hl hb=>hs.jO id l b (to_eq hl).1 hb
  size:=hs.size
  env:=λt=>by
   rcases h1 t with h|h
   ·rw[h];exact .dead _
   ·have:=hs.env t;rw[<-h] at this;exact this.to (h3 t)
  dom:=λid l hl=>(to_eq hl).2
  chunk:=λid ch hch=>by
   have hc:=hs.chunk id ch (h2 id ch hch);have hid:L.to H' id=L id:=mo (by rw[hch];simp);cases ch with
   |box cs=>obtain⟨b,arr,e,g1,g2,g3,g4,g5,g6⟩:=hc;exact⟨b,arr,e,hid.trans g1,g2,g3,λj u c hu hc=>(g4 j u c hu hc).to (oF (h4 id cs hch) j c hc),g5,g6⟩
   |row bg e sz es=>obtain⟨hdr,us,g1,g2⟩:=hc;exact⟨hdr,us,hid.trans g1,g2⟩
   |shut bg es=>obtain⟨hdr,sz,g1,g2⟩:=hc;exact⟨hdr,sz,hid.trans g1,g2⟩
   |tail bg e sz es=>obtain⟨g,o,cap,arr,g1,g2⟩:=hc;exact⟨g,o,cap,arr,hid.trans g1,g2⟩
   |deep bg e sz k e' sz' es=>obtain⟨hdr,us,dx,g1,g2⟩:=hc;exact⟨hdr,us,dx,hid.trans g1,g2⟩
  fT:=λid l b hl hb=>hs.fT id l b (to_eq hl).1 hb
  apart:=λi j li lj b hi hj tA wJ=>hs.apart i j li lj b (to_eq hi).1 (to_eq hj).1 tA wJ }
theorem jm{e:Env}{H:au}(t id:Nat)(ty:TypeId)(sz:Nat)(ht:e t = .p (.val (.slice none 0 0)))(hid:H id=none)(hsz:0<sz) :
  c8 e H (c9 e t (.row id 0)) (br H id (.row 0 ty sz [])):=λC I L tm w hs=>by
 obtain⟨n1,n2,n3⟩:=akS hs hid ty hsz;have hs':=n2 e tm hs;refine⟨I,_,{ hs' with env:=λi=>?_ }⟩;unfold c9;split
 ·rename_i hi;subst hi;have:=hs.env i;rw[ht] at this;rw[this.dI.1];exact n1
 ·exact hs'.env i
theorem bK{e:Env}{H:au}(b off id:Nat)(ty:TypeId)(sz:Nat)(cs:List AV)(hb:H b=some (.box cs))(ho:cs[off]? = some (.p (.val (.slice none 0 0))))(hid:H id=none)(hsz:0<sz) :
  c8 e H e (br (br H id (.row 0 ty sz [])) b (.box (cs.set off (.row id 0)))):=λC I L tm w hs=>by
 obtain⟨n1,n2,n3⟩:=akS hs hid ty hsz;have hs':=n2 e tm hs;have hne:b≠id:=λh=>by rw[h,hid] at hb;cases hb
 obtain⟨blk,arr,et,g1,g2,g3,g4,g5,g6⟩:=hs.chunk b _ hb;refine⟨I,_,{ hs' with dom:=λi l hl=>?_,chunk:=λi ch hch=>?_ }⟩
 ·obtain⟨c,hc⟩:=hs'.dom i l hl;by_cases hi:i=b
  ·exact⟨.box (cs.set off (.row id 0)),by unfold br;rw[if_pos hi]⟩
  ·exact⟨c,by unfold br at hc ⊢;rw[if_neg hi];exact hc⟩
 ·by_cases hi:i=b
  ·subst hi;have:Chunk.box (cs.set off (.row id 0))=ch:=by simpa[br] using hch
   subst this;refine⟨blk,arr,et,by simp[cc,hne,g1],g2,by simpa using g3,λj u c hu hc=>?_,g5,g6⟩;rw[getElem?_set] at hc;split at hc
   ·rename_i hj;subst hj;split at hc
    ·simp at hc;subst hc;have:=g4 off u _ hu ho;rw[this.dI.1];exact n1
    ·cases hc
   ·exact (g4 j u c hu hc).mono (Mem.eA I) n3
  ·exact hs'.chunk i ch (by unfold br at hch ⊢;rw[if_neg hi] at hch;exact hch)
section
variable{N:Nat}{own:List Nat}{σ:Type}
def axC(inv:σ->Env)(jX:σ->au)(φ:σ->Prop)(μ:σ->Nat)(x:σ)(env:Env)(H:au):Prop:=∃y,φ y/\μ y<μ x/\c8 env H (inv y) (jX y)
def amT(inv:σ->Env)(jX:σ->au)(φ:σ->Prop)(μ:σ->Nat)(x:σ)(K:qN):qN:=λe env H=>match e with
 | .normal=>axC inv jX φ μ x env H
 |e=>K e env H
theorem ak6{inv:σ->Env}{jX:σ->au}{φ:σ->Prop}{μ:σ->Nat}{x:σ}{K:qN}{env:Env}{H:au} : amT inv jX φ μ x K .normal env H=axC inv jX φ μ x env H:=rfl
theorem apH{inv:σ->Env}{jX:σ->au}{φ:σ->Prop}{μ:σ->Nat}{x:σ}{K:qN}{env:Env}{H:au}{id:Nat} : amT inv jX φ μ x K (.exit id) env H=K (.exit id) env H:=rfl
theorem atE{inv:σ->Env}{jX:σ->au}{φ:σ->Prop}{μ:σ->Nat}{x:σ}{K:qN}{env:Env}{H:au} : amT inv jX φ μ x K .ret env H=K .ret env H:=rfl
theorem bV{c:Code}{K:qN}{env:Env}{H:au}(inv:σ->Env)(jX:σ->au)(φ:σ->Prop)(μ:σ->Nat)(x0:σ)(h0:φ x0)(hw:c8 env H (inv x0) (jX x0))
  (hr:∀x,φ x->cw P N own c (amT inv jX φ μ x K) (inv x) (jX x)):aef P N own c K env H:=by
 refine⟨λn e H=>∃x,φ x/\μ x=n/\e=inv x/\H=jX x,⟨μ x0,_,_,⟨x0,h0,rfl,rfl,rfl⟩,hw⟩,?_⟩;rintro n e H ⟨x,hx,rfl,rfl,rfl⟩
 have hk : (amT inv jX φ μ x K) = (fun z e' H' => match z with
   | .normal=>∃m e2 H2,m<μ x/\(∃x,φ x/\μ x=m/\e2=inv x/\H2=jX x)/\c8 e' H' e2 H2
   |z=>K z e' H'):=by
  funext z e' H';cases z<;>try rfl
  apply propext;constructor
  ·rintro⟨y,h1,h2,h3⟩;exact⟨μ y,_,_,h2,⟨y,h1,rfl,rfl,rfl⟩,h3⟩
  ·rintro⟨m,e2,H2,h1,⟨y,h2,rfl,rfl,rfl⟩,h3⟩;exact⟨y,h2,h1,h3⟩
 have:=hr x hx;rw[hk] at this;exact this
theorem cr{inv:σ->Env}{jX:σ->au}{φ:σ->Prop}{μ:σ->Nat}{x:σ}{env:Env}{H:au}(y:σ)(h1:φ y)(h2:μ y<μ x)(h3:c8 env H (inv y) (jX y)):axC inv jX φ μ x env H:=⟨y,h1,h2,h3⟩
end
attribute [go_sem] ak6 apH atE
end Go.b7
namespace Go.b7
open Go.RowKit
variable{P:Program}{o:Oper}{ρ ρ':Operand->AV}
theorem qQ{l:List (Nat×Operand)}(h:∀x∈l.map (·.2),ρ x=ρ' x):(l.map λx=>(x.1,ρ x.2))=l.map λx=>(x.1,ρ' x.2):=by apply map_congr_left;intro x hx;rw[h x.2 (mem_map.2 ⟨x,hx,rfl⟩)]
theorem ajv(h:∀x∈o.op.operands,ρ x=ρ' x):vp P o ρ=vp P o ρ':=by
 unfold vp;cases hop:o.op<;>simp only[hop,Op.operands] at h ⊢
 case build t ps=>rw[qQ (l:=ps.toList) (λx hx=>h x (by simpa using hx))]
 case buildSlice t n ps=>rw[qQ (l:=ps.toList) (λx hx=>h x (by simpa using hx))]
 case makeFunc fn f c =>
  have h1:f.toList.map ρ=f.toList.map ρ':=map_congr_left λx hx=>h x (by simp at hx;simp[hx])
  have h2:c.toList.map ρ=c.toList.map ρ':=map_congr_left λx hx=>h x (by simp at hx;simp[hx])
  rw[h1,h2]
 case slice t x lo hi mx =>
  rw[h x (by simp)];have h1:lo.map ρ=lo.map ρ':=by
   cases lo with
   |none=>rfl
   |some y=>simp[h y (by simp)]
  have h2:hi.map ρ=hi.map ρ':=by
   cases hi with
   |none=>rfl
   |some y=>simp[h y (by simp)]
  have h3:mx.map ρ=mx.map ρ':=by
   cases mx with
   |none=>rfl
   |some y=>simp[h y (by simp)]
  rw[h1,h2,h3]
 case call c =>
  have h1:c.args.toList.map ρ=c.args.toList.map ρ':=map_congr_left λx hx=>h x (by simp at hx;simp[Call.operands,hx])
  rw[h1]
 all_goals first
  |rfl
  |(simp at h;simp[h])
theorem apI{H:au}(h:∀x∈o.op.operands,ρ x=ρ' x):mU P o ρ H=mU P o ρ' H:=by
 unfold mU;cases hop:o.op<;>simp only[hop,Op.operands] at h ⊢
 case call c =>
  have h1:c.args.toList.map ρ=c.args.toList.map ρ':=map_congr_left λx hx=>h x (by simp at hx;simp[Call.operands,hx])
  rw[h1]
 all_goals first
  |rfl
  |(simp at h;simp[h])
theorem atF{H:au}(h:∀x∈o.op.operands,ρ x=ρ' x):y3 P o ρ H=y3 P o ρ' H:=by
 unfold y3;cases hop:o.op<;>simp only[hop,Op.operands] at h ⊢
 case call c =>
  have h1:c.args.toList.map ρ=c.args.toList.map ρ':=map_congr_left λx hx=>h x (by simp at hx;simp[Call.operands,hx])
  rw[h1]
 all_goals first
  |rfl
  |(simp at h;simp[h])
theorem atG{H:au}(h:∀x∈o.op.operands,ρ x=ρ' x):exE P o ρ H=exE P o ρ' H:=by
 unfold exE;cases hop:o.op<;>simp only[hop,Op.operands] at h ⊢
 case indexAddr t x i=>rw[h x (by simp),h i (by simp)]
theorem atH{H:au}(h:∀x∈o.op.operands,ρ x=ρ' x):ya P o ρ H=ya P o ρ' H:=by unfold ya;rw[apI h,atF h,atG h]
theorem atJ{H:au}(h:∀x∈o.op.operands,ρ x=ρ' x):xU P o ρ H=xU P o ρ' H:=by
 unfold xU;cases hop:o.op<;>simp only[hop,Op.operands] at h ⊢
 case call c =>
  have h1:c.args.toList.map ρ=c.args.toList.map ρ':=map_congr_left λx hx=>h x (by simp at hx;simp[Call.operands,hx])
  rw[h1]
 all_goals first
  |rfl
  |(simp at h;simp[h])
theorem atK{H:au}(h:∀x∈o.op.operands,ρ x=ρ' x):y4 P o ρ H=y4 P o ρ' H:=by
 unfold y4;cases hop:o.op<;>simp only[hop,Op.operands] at h ⊢
 case buildSlice t n ps=>rw[qQ (l:=ps.toList) (λx hx=>h x (by simpa using hx))]
theorem atL{H:au}{d:Nat}(h:∀x∈o.op.operands,ρ x=ρ' x):exN P o ρ H d=exN P o ρ' H d:=by
 unfold exN;cases H d with
 |some _=>rfl
 |none =>
  simp only[];cases hop:o.op<;>simp only[hop,Op.operands] at h ⊢
  case buildSlice t n ps=>rw[qQ (l:=ps.toList) (λx hx=>h x (by simpa using hx))]
  case call c =>
   have h1:c.args.toList.map ρ=c.args.toList.map ρ':=map_congr_left λx hx=>h x (by simp at hx;simp[Call.operands,hx])
   rw[h1]
  all_goals(simp at h;simp[h])
theorem acj{H:au}(h:∀x∈o.op.operands,ρ x=ρ' x):kD P o ρ H=kD P o ρ' H:=by unfold kD;rw[ajv h,atH h,atJ h,atK h]
theorem wT{own:List Nat}{H:au}(h:∀x∈o.op.operands,ρ x=ρ' x):gi P own o ρ H=gi P own o ρ' H:=by
 unfold gi;rw[acj h];cases o.dst with
 |none=>rfl
 |some d=>simp only[atL h]
theorem abd(h:∀x∈o.op.operands,ρ x=ρ' x):dA o ρ=dA o ρ':=by
 unfold dA;cases hop:o.op<;>simp only[hop,Op.operands] at h ⊢
 case call c =>
  have h1:c.args.toList.map ρ=c.args.toList.map ρ':=map_congr_left λx hx=>h x (by simp at hx;simp[Call.operands,hx])
  rw[h1];cases hc:c.callee with
  |value f=>have:ρ f=ρ' f:=h f (by simp[Call.operands,hc]);simp only[this]
  |_=>rfl
theorem wU{H:au}{x:PV}(h:∀x∈o.op.operands,ρ x=ρ' x)(hc:aa8 P o ρ H x):aa8 P o ρ' H x:=by obtain⟨k,eZ,ps,b,h1,h2⟩:=hc;exact⟨k,eZ,ps,b,(abd h) ▸ h1,h2⟩
def bP(own:List Nat)(o:Oper):Bool:=(match o.dst with
 |some d=>!own.contains d
 |none=>true)&&match o.op with
 | .store .. | .alloc _ | .box .. | .buildSlice ..=>false
 | .call c=>match c.callee with
  | .builtin .append=>false
  |_=>true
 |_=>true
def vu(own:List Nat)(o:Oper):Bool:=(match o.dst with
 |some d=>!own.contains d
 |none=>true)&&match o.op with
 | .move _ | .assign _ | .pick .. | .extract .. | .binOp .. | .unOp .. | .convert .. | .makeFunc .. | .build .. | .index .. | .slice .. | .nilCheck _=>true
 |_=>false
theorem kr{own:List Nat}{H:au}(h:(match o.dst with
 |some d=>!own.contains d
 |none=>true)=true):gi P own o ρ H=kD P o ρ H:=by
 unfold gi;cases hd:o.dst with
 |none=>rfl
 |some d =>
  rw[hd] at h;have:own.contains d=false:=by simpa using h
  simp only[this];try rfl
theorem tE{own:List Nat}{H H':au}{pre:Prop}{v:AV}(hq:bP own o=true)(h:gi P own o ρ H=some (pre,v,H')):H'=H:=by
 unfold bP at hq;rw[and_eq_true] at hq;rw[kr hq.1] at h;have hk:=hq.2;unfold kD at h;split at h
 ·simp at h;exact h.2.2.symm
 ·split at h
  ·simp at h;exact h.2.2.symm
  ·exfalso;have hw:xU P o ρ H=none:=by
    unfold xU;cases hop:o.op<;>simp only[hop] at hk ⊢<;>try (cases hk;done)
    case call c =>
     cases hc:c.callee with
     |builtin b=>rw[hc] at hk;cases b<;>first|rfl|cases hk
     |_=>rfl
   have hs:y4 P o ρ H=none:=by
    unfold y4;cases hop:o.op<;>simp only[hop] at hk ⊢
    cases hk
   rw[hw,hs] at h;cases h
theorem amU{own:List Nat}{H:au}(hq:vu own o=true):kD P o ρ H=match vp P o ρ with
  |some (pre,v)=>some (pre,v,H)
  |none=>none:=by
 unfold vu at hq;rw[and_eq_true] at hq;have hk:=hq.2;unfold kD;cases hp:vp P o ρ with
 |some r=>rfl
 |none =>
  have h1:ya P o ρ H=none:=by unfold ya mU y3 exE;cases hop:o.op<;>simp only[hop] at hk ⊢<;>cases hk
  have h2:xU P o ρ H=none:=by unfold xU;cases hop:o.op<;>simp only[hop] at hk ⊢<;>cases hk
  have h3:y4 P o ρ H=none:=by unfold y4;cases hop:o.op<;>simp only[hop] at hk ⊢<;>cases hk
  rw[h1,h2,h3]
theorem ahe{own:List Nat}{H:au}(hq:vu own o=true):gi P own o ρ H=match vp P o ρ with
  |some (pre,v)=>some (pre,v,H)
  |none=>none:=by
 have hq':=hq;unfold vu at hq;rw[and_eq_true] at hq;rw[kr hq.1];exact amU hq'
theorem ajw{own:List Nat}(hq:vu own o=true):dA o ρ=none:=by
 unfold vu at hq;rw[and_eq_true] at hq;have hk:=hq.2;unfold dA;cases hop:o.op<;>simp only[hop] at hk ⊢
 cases hk
def nq(o:Oper):Bool:=match o.op with
 | .alloc _ | .box ..=>false
 |_=>true
theorem ac9:∀ids,dr ids ct=ct
 | []=>rfl
 |_ :: r=>ac9 r
theorem atM{pre:Prop}{v:AV}{H':au}(hn:nq o=true)(h:kD P o ρ ct=some (pre,v,H')):vp P o ρ=some (pre,v):=by
 unfold kD at h;split at h
 ·rename_i hp;simp only[cC,iF] at h;obtain⟨rfl,rfl,_⟩:=h;exact hp
 ·rename_i hp;exfalso;have h0:mU P o ρ ct=none:=by
   unfold mU;cases hop:o.op<;>simp only[]
   case load t a=>cases ρ a<;>rfl
   case fieldAddr s a k=>cases ρ a<;>cases bB P s k<;>rfl
   case indexAddr t x i =>
    cases ρ x<;>try rfl
    cases ρ i<;>try rfl
    rename_i x;cases x<;>try rfl
    rename_i z;cases z<;>rfl
   case call c =>
    split
    ·rfl
    ·rfl
  have hD:y3 P o ρ ct=none:=by
   unfold y3;cases hop:o.op<;>simp only[]
   case load t a=>cases ρ a<;>rfl
   case fieldAddr s a k=>cases ρ a<;>cases bB P s k<;>rfl
   case indexAddr t x i =>
    cases ρ x<;>try rfl
    all_goals
     cases ρ i<;>try rfl
     rename_i x;cases x<;>try rfl
     rename_i z;cases z<;>rfl
   case call c=>split<;>rfl
  have hE:exE P o ρ ct=none:=by
   unfold exE;cases hop:o.op<;>simp only[]
   case indexAddr t x i =>
    cases ρ x<;>try rfl
    cases ρ i<;>try rfl
    rename_i x;cases x<;>try rfl
    rename_i z;cases z<;>rfl
  have h1:ya P o ρ ct=none:=by unfold ya;rw[h0,hD,hE]
  have h2:xU P o ρ ct=none:=by
   unfold xU;cases hop:o.op<;>simp only[nq,hop] at hn ⊢<;>try (cases hn;done)
   case store t a x =>
    cases bf P t with
    |none=>rfl
    |some n =>
     simp only[];split
     ·cases ρ a<;>simp only[ct]
     ·rfl
   case call c =>
    split
    ·rename_i t1 t2 a b _ _ _;unfold ad9;cases a<;>try rfl
     cases dM P t1 t2<;>rfl
    ·rfl
  have h3:y4 P o ρ ct=none:=by
   unfold y4;cases hop:o.op<;>simp only[]
   case buildSlice t n ps =>
    rw[ac9];have:((ps.toList.map λx=>(x.1,ρ x.2)).map λx=>(x.1,aaA ct x.2))=ps.toList.map λx=>(x.1,ρ x.2):=by rw[map_map];apply map_congr_left;intro x _;have:aaA ct (ρ x.2)=ρ x.2:=amq _;simp[this]
    rw[this];unfold vp at hp;simp only[hop] at hp;cases hb:mm P t n (ps.toList.map λx=>(x.1,ρ x.2)) with
    |none=>rfl
    |some r=>obtain⟨e,es⟩:=r;rw[hb] at hp;cases n<;>simp at hp
  rw[h1,h2,h3] at h;cases h
theorem afk{own:List Nat}{H:au}(hq:bP own o=true):kD P o ρ H=match vp P o ρ with
  |some (pre,v)=>some (pre,v,H)
  |none=>(match ya P o ρ H with
   |some (pre,v)=>some (pre,v,H)
   |none=>none):=by
 unfold bP at hq;rw[and_eq_true] at hq;have hk:=hq.2;unfold kD;cases hp:vp P o ρ with
 |some r=>rfl
 |none =>
  cases hx:ya P o ρ H with
  |some r=>rfl
  |none =>
   have hw:xU P o ρ H=none:=by
    unfold xU;cases hop:o.op<;>simp only[hop] at hk ⊢<;>try (cases hk;done)
    case call c =>
     cases hc:c.callee with
     |builtin b=>rw[hc] at hk;cases b<;>first|rfl|cases hk
     |_=>rfl
   have hs:y4 P o ρ H=none:=by
    unfold y4;cases hop:o.op<;>simp only[hop] at hk ⊢
    cases hk
   rw[hw,hs]
theorem ack{H H':au}(h:HSub H H'){id bg:Nat}{es:List (List PV)}(hr:rowOf H id bg=some es):rowOf H' id bg=some es:=by
 unfold rowOf at hr ⊢;cases hH:H id with
 |none=>rw[hH] at hr;cases hr
 |some c=>rw[h id c hH];rw[hH] at hr;exact hr
theorem axD{H H':au}(h:HSub H H'){r:Prop×AV}(hx:mU P o ρ H=some r):mU P o ρ H'=some r:=by
 unfold mU at hx ⊢;cases hop:o.op<;>simp only[hop] at hx ⊢<;>try (cases hx;done)
 case load t a =>
  cases ha:ρ a<;>simp only[ha] at hx ⊢<;>try (cases hx;done)
  case ptr id off =>
   cases hH:H id with
   |none=>rw[hH] at hx;cases hx
   |some c=>rw[h id c hH];rw[hH] at hx;exact hx
  case jG id bg i off =>
   cases hr:rowOf H id bg with
   |none=>rw[hr] at hx;cases hx
   |some es=>rw[ack h hr];rw[hr] at hx;exact hx
 case fieldAddr s a k =>
  cases ha:ρ a<;>simp only[ha] at hx ⊢<;>try (cases hx;done)
  case jG id bg i off =>
   cases hf:bB P s k with
   |none=>rw[hf] at hx;cases hx
   |some f =>
    rw[hf] at hx;cases hr:rowOf H id bg with
    |none=>simp only[hr] at hx;cases hx
    |some es=>simp only[ack h hr];simp only[hr] at hx;exact hx
 case indexAddr t x i =>
  split at hx
  ·rename_i id bg k n hx1 hx2;cases hr:rowOf H id bg with
   |none=>rw[hr] at hx;cases hx
   |some es=>rw[ack h hr];rw[hr] at hx;exact hx
  ·cases hx
 case call c =>
  split at hx
  ·rename_i t id bg h1 h2 h3;cases hr:rowOf H id bg with
   |none=>rw[hr] at hx;cases hx
   |some es=>rw[ack h hr];rw[hr] at hx;exact hx
  ·cases hx
theorem sx{H H':au}(h:HSub H H'){id bg:Nat}{r:Nat×List (List PV)}(hr:cO H id bg=some r):cO H' id bg=some r:=by
 unfold cO at hr ⊢;cases hH:H id with
 |none=>rw[hH] at hr;cases hr
 |some c=>rw[h id c hH];rw[hH] at hr;exact hr
theorem acm{H H':au}(h:HSub H H'){id bg i:Nat}{l:List (List PV)}(hr:nF (cO H id bg) i=some l):nF (cO H' id bg) i=some l:=by
 cases hd:cO H id bg with
 |none=>rw[hd] at hr;cases hr
 |some r=>rw[sx h hd,<-hd];exact hr
theorem aA9{H H':au}(h:HSub H H'){r:Prop×AV}(hx:y3 P o ρ H=some r):y3 P o ρ H'=some r:=by
 unfold y3 at hx ⊢;cases hop:o.op<;>simp only[hop] at hx ⊢<;>try (cases hx;done)
 case load t a =>
  cases ha:ρ a<;>simp only[ha] at hx ⊢<;>try (cases hx;done)
  case lF id bg i off =>
   cases hr:cO H id bg with
   |none=>rw[hr] at hx;cases hx
   |some c=>rw[sx h hr];rw[hr] at hx;exact hx
  case oB id bg i j off =>
   cases hr:nF (cO H id bg) i with
   |none=>rw[hr] at hx;cases hx
   |some es=>rw[acm h hr];rw[hr] at hx;exact hx
 case fieldAddr s a k =>
  cases ha:ρ a<;>simp only[ha] at hx ⊢<;>try (cases hx;done)
  case lF id bg i off =>
   cases hf:bB P s k with
   |none=>rw[hf] at hx;cases hx
   |some f =>
    rw[hf] at hx;cases hr:cO H id bg with
    |none=>simp only[hr] at hx;cases hx
    |some es=>simp only[sx h hr];simp only[hr] at hx;exact hx
 case indexAddr t x i =>
  split at hx
  ·rename_i id bg k n hx1 hx2;cases hr:cO H id bg with
   |none=>rw[hr] at hx;cases hx
   |some es=>rw[sx h hr];rw[hr] at hx;exact hx
  ·rename_i id bg ii k n hx1 hx2;cases hr:nF (cO H id bg) ii with
   |none=>rw[hr] at hx;cases hx
   |some es=>rw[acm h hr];rw[hr] at hx;exact hx
  ·cases hx
 case call c =>
  split at hx
  ·rename_i t id bg h1 h2 h3;cases hr:cO H id bg with
   |none=>rw[hr] at hx;cases hx
   |some es=>rw[sx h hr];rw[hr] at hx;exact hx
  ·rename_i t id bg ii h1 h2 h3;cases hr:nF (cO H id bg) ii with
   |none=>rw[hr] at hx;cases hx
   |some es=>rw[acm h hr];rw[hr] at hx;exact hx
  ·cases hx
theorem aBa{H G:au}{r:Prop×AV}(hx:y3 P o ρ H=some r):mU P o ρ G=none:=by
 unfold y3 at hx;unfold mU;cases hop:o.op<;>simp only[hop] at hx ⊢<;>try (cases hx;done)
 case load t a=>cases ha:ρ a<;>simp only[ha] at hx ⊢<;>(cases hx;done)
 case fieldAddr s a k=>cases ha:ρ a<;>simp only[ha] at hx ⊢<;>(cases hx;done)
 case indexAddr t x i =>
  split at hx
  ·rename_i id bg k n hx1 hx2;rw[hx1]
  ·rename_i id bg ii k n hx1 hx2;rw[hx1]
  ·cases hx
 case call c =>
  split at hx
  ·rename_i t id bg h1 h2 h3;rw[h3];split
   ·rename_i h;cases h
   ·rfl
  ·rename_i t id bg ii h1 h2 h3;rw[h3];split
   ·rename_i h;cases h
   ·rfl
  ·cases hx
theorem axE{H H':au}(h:HSub H H'){id bg:Nat}{r:Nat×List (List PV)}(hr:akO H id bg=some r):akO H' id bg=some r:=by
 unfold akO at hr ⊢;cases hH:H id with
 |none=>rw[hH] at hr;cases hr
 |some c=>rw[h id c hH];rw[hH] at hr;exact hr
theorem aBb{H H':au}(h:HSub H H'){r:Prop×AV}(hx:exE P o ρ H=some r):exE P o ρ H'=some r:=by
 unfold exE at hx ⊢;cases hop:o.op<;>simp only[hop] at hx ⊢<;>try (cases hx;done)
 case indexAddr t x i =>
  split at hx
  ·rename_i id bg off m _ _ k n hx1 hx2;cases hr:akO H id bg with
   |none=>rw[hr] at hx;cases hx
   |some es=>rw[axE h hr];rw[hr] at hx;exact hx
  ·cases hx
theorem aBc{H G:au}{r:Prop×AV}(hx:exE P o ρ H=some r):mU P o ρ G=none/\y3 P o ρ G=none:=by
 unfold exE at hx;unfold mU y3;cases hop:o.op<;>simp only[hop] at hx ⊢<;>try (cases hx;done)
 case indexAddr t x i =>
  split at hx
  ·rename_i id bg off m _ _ k n hx1 hx2;rw[hx1];exact⟨rfl,rfl⟩
  ·cases hx
theorem aBd{H H':au}(h:HSub H H'){r:Prop×AV}(hx:ya P o ρ H=some r):ya P o ρ H'=some r:=by
 unfold ya at hx ⊢;split at hx
 ·rename_i r' h0;rw[axD h h0];exact hx
 ·split at hx
  ·rename_i r' hD;rw[aBa hD,aA9 h hD];exact hx
  ·obtain⟨e1,e2⟩:=aBc (G:=H') hx;rw[e1,e2];exact aBb h hx
theorem pZ{own:List Nat}{H H':au}(h:HSub H H')(hq:bP own o=true){pre:Prop}{v:AV}(hx:kD P o ρ H=some (pre,v,H)):kD P o ρ H'=some (pre,v,H'):=by
 rw[afk hq] at hx ⊢;cases hp:vp P o ρ with
 |some r=>rw[hp] at hx;simp only[cC,iF] at hx ⊢;exact⟨hx.1,hx.2.1,trivial⟩
 |none =>
  rw[hp] at hx;cases hQ:ya P o ρ H with
  |none=>rw[hQ] at hx;cases hx
  |some r=>rw[hQ] at hx;rw[aBd h hQ];simp only[cC,iF] at hx ⊢;exact⟨hx.1,hx.2.1,trivial⟩
theorem afl{H H':au}(h:HSub H H'):∀ {a:AV} {r:PV×Bool},qt H a=some r->qt H' a=some r
 | .row id bg,r,hx=>by
  simp only[qt] at hx ⊢;cases hH:H id with
  |none=>rw[hH] at hx;cases hx
  |some c=>rw[h id c hH];rw[hH] at hx;exact hx
 | .p _,_,hx=>hx
 | .ptr _ _,_,hx=>by cases hx
 | .jG _ _ _ _,_,hx=>by cases hx
 | .agg _,_,hx=>by cases hx
 | .dH _,_,hx=>by cases hx
 | .jk _ _ _,_,hx=>by cases hx
 | .fm id bg,r,hx=>by
  simp only[qt] at hx ⊢;cases hd:cO H id bg with
  |none=>rw[hd] at hx;cases hx
  |some c=>rw[sx h hd];rw[hd] at hx;exact hx
 | .lG id bg i,r,hx=>by
  simp only[qt] at hx ⊢;cases hd:nF (cO H id bg) i with
  |none=>rw[hd] at hx;cases hx
  |some c=>rw[acm h hd];rw[hd] at hx;exact hx
 | .lF _ _ _ _,_,hx=>by cases hx
 | .oB _ _ _ _ _,_,hx=>by cases hx
 | .bsl _ _,_,hx=>by cases hx
 | .iV _ _ _ _ _ _,_,hx=>by cases hx
 | .dead,_,hx=>by cases hx
theorem oZ{f g:AV->Option (PV×Bool)}(hfg:∀a r,f a=some r->g a=some r):∀ {eZ:List AV} {r:List PV×Bool},eT f eZ=some r->eT g eZ=some r
 | [],r,hx=>hx
 |a :: eZ,r,hx=>by
  unfold eT at hx ⊢;cases hf:f a with
  |none=>rw[hf] at hx;cases hx
  |some x =>
   rw[hf] at hx;rw[hfg a x hf];cases hl:eT f eZ with
   |none=>rw[hl] at hx;cases hx
   |some y=>rw[oZ hfg hl];rw[hl] at hx;exact hx
theorem atN{H H':au}(h:HSub H H'){a:AV}{r:PV×Bool}(hx:ac4 H a=some r):ac4 H' a=some r:=by
 unfold ac4 at hx ⊢;cases a<;>try exact afl h hx
 case ptr id off =>
  simp only[] at hx ⊢;cases hH:H id with
  |none=>rw[hH] at hx;cases hx
  |some c =>
   rw[h id c hH];rw[hH] at hx;cases c<;>simp only[] at hx ⊢<;>try (cases hx;done)
   case box cs =>
    cases hl:eT (qt H) cs with
    |none=>rw[hl] at hx;cases hx
    |some y=>rw[oZ (λa r=>afl h) hl];rw[hl] at hx;exact hx
theorem yf{H H':au}(h:HSub H H'){a:AV}{r:PV×Bool}(hx:oD H a=some r):oD H' a=some r:=by
 unfold oD at hx ⊢;cases a<;>try exact afl h hx
 case ptr id off =>
  simp only[] at hx ⊢;cases hH:H id with
  |none=>rw[hH] at hx;cases hx
  |some c =>
   rw[h id c hH];rw[hH] at hx;cases c<;>simp only[] at hx ⊢<;>try (cases hx;done)
   case box cs =>
    cases hl:eT (ac4 H) cs with
    |none=>rw[hl] at hx;cases hx
    |some y=>rw[oZ (λa r=>atN h) hl];rw[hl] at hx;exact hx
theorem ajx{H H':au}(h:HSub H H'){a:AV}{r:PV×Bool}(hx:gL H a=some r):gL H' a=some r:=by
 unfold gL at hx ⊢;cases a<;>try exact yf h hx
 case agg cs =>
  simp only[] at hx ⊢;cases hl:eT (oD H) cs with
  |none=>rw[hl] at hx;cases hx
  |some y=>rw[oZ (λa r=>yf h) hl];rw[hl] at hx;exact hx
 case dH cs =>
  simp only[] at hx ⊢;cases hl:eT (oD H) cs with
  |none=>rw[hl] at hx;cases hx
  |some y=>rw[oZ (λa r=>yf h) hl];rw[hl] at hx;exact hx
 case jk fn fs cs =>
  simp only[] at hx ⊢;cases hf:eT (oD H) fs with
  |none=>rw[hf] at hx;cases hx
  |some x =>
   rw[oZ (λa r=>yf h) hf];rw[hf] at hx;cases hl:eT (oD H) cs with
   |none=>rw[hl] at hx;cases hx
   |some y=>rw[oZ (λa r=>yf h) hl];rw[hl] at hx;exact hx
theorem afm{H H':au}(h:HSub H H'){x:PV}(hc:aa8 P o ρ H x):aa8 P o ρ H' x:=by obtain⟨k,eZ,ps,b,h1,h2,h3,h4⟩:=hc;exact⟨k,eZ,ps,b,h1,oZ (λa r=>ajx h) h2,h3,h4⟩
theorem adE{own:List Nat}{H:au}(hq:bP own o=true){x:PV}{G:au}(hc:aa8 P o ρ G x):gi P own o ρ H=none:=by
 obtain⟨k,eZ,ps,b,h1,h2,h3,h4⟩:=hc;have hq':=hq;unfold bP at hq;rw[and_eq_true] at hq;rw[kr hq.1,afk hq'];unfold dA at h1;split at h1
 ·rename_i c hop;split at h1
  ·rename_i f hc;unfold vp ya mU y3 exE;simp only[hop,hc]
  ·cases h1
 ·cases h1
def ajy(own:List Nat)(o:Oper):Bool:=match o.op with
 | .buildSlice .. | .makeSlice ..=>(match o.dst with
  |some d=>own.contains d
  |none=>false)
 | .alloc _ | .box ..=>true
 |_=>false
theorem ahf{H:au}{d:Nat}(hH:H d=none)(c:Chunk):HSub H (br H d c):=λid x hx=>by
 unfold br;split
 ·rename_i hi;rw[hi,hH] at hx;cases hx
 ·exact hx
theorem arW{H H':au}{pre:Prop}{v:AV}{d:Nat}(h:exN P o ρ H d=some (pre,v,H')):HSub H H':=by
  unfold exN at h;cases hH:H d with
  |some c=>rw[hH] at h;cases h
  |none =>
    rw[hH] at h;simp only[] at h
    repeat' split at h
    all_goals first
      |(cases h;done)
      | (simp only [cC, iF] at h
         obtain⟨_,_,h3⟩:=h;rw[<-h3];exact ahf hH _)
theorem arX{H H':au}{pre:Prop}{v:AV}(hn:(match o.op with | .alloc _ | .box ..=>true|_=>false)=true)(h:kD P o ρ H=some (pre,v,H')):HSub H H':=by
 unfold kD at h;split at h
 ·simp only[cC,iF] at h;rw[<-h.2.2];exact λ_ _ h=>h
 ·split at h
  ·simp only[cC,iF] at h;rw[<-h.2.2];exact λ_ _ h=>h
  ·have hs:y4 P o ρ H=none:=by unfold y4;cases hop:o.op<;>simp only[hop] at hn ⊢<;>cases hn
   rw[hs] at h;split at h
   ·rename_i r hr;simp only[cC] at h;subst h;unfold xU at hr;cases hop:o.op<;>simp only[hop] at hn hr<;>try (cases hn;done)
    case alloc e =>
     split at hr
     ·split at hr
      ·rename_i hH _;split at hr
       ·simp only[cC,iF] at hr;rw[<-hr.2.2];exact ahf hH _
       ·cases hr
      ·cases hr
     ·cases hr
    case box e x =>
     split at hr
     ·split at hr
      ·rename_i hH;split at hr
       ·simp only[cC,iF] at hr;rw[<-hr.2.2];exact ahf hH _
       ·cases hr
      ·cases hr
     ·cases hr
   ·cases h
theorem ajz{own:List Nat}{H H':au}{pre:Prop}{v:AV}(hn:ajy own o=true)(h:gi P own o ρ H=some (pre,v,H')):HSub H H':=by
 have own_case:∀d,o.dst=some d->own.contains d=true->isApp o.op=false->HSub H H':=λd hd hc ha=>by
  unfold gi at h;simp only[hd,hc,if_true,ha] at h;unfold orE at h;split at h
  ·rename_i hx;exact arW (hx.trans h)
  ·rename_i hb;cases hb
  ·cases h
 have ab_case:(match o.op with | .alloc _ | .box ..=>true|_=>false)=true->isApp o.op=false->HSub H H':=λhab ha=>by
  unfold gi at h;split at h
  ·rename_i d hd;split at h
   ·rename_i hc;exact own_case d hd hc ha
   ·exact arX hab h
  ·exact arX hab h
 unfold ajy at hn;cases hop:o.op<;>simp only[hop] at hn<;>try (cases hn;done)
 case buildSlice =>
  split at hn
  ·rename_i d hd;exact own_case d hd hn (by rw[hop];rfl)
  ·cases hn
 case makeSlice =>
  split at hn
  ·rename_i d hd;exact own_case d hd hn (by rw[hop];rfl)
  ·cases hn
 case alloc=>exact ab_case (by rw[hop]) (by rw[hop];rfl)
 case box=>exact ab_case (by rw[hop]) (by rw[hop];rfl)
def uk(H:au):au:=λid=>match H id with
 |some (.box cs)=>some (.box cs)
 |_=>none
theorem amV(H:au):HSub (uk H) H:=λid c h=>by
 unfold uk at h;split at h
 ·rename_i cs hH;rw[hH];exact h
 ·cases h
def axF(o:Oper):Bool:=isApp o.op
theorem acn{H H':au}(h:HSub H H'):HSub (uk H) (uk H'):=λid c hc=>by
 have:=h id c (amV H id c hc);unfold uk at hc ⊢;split at hc
 ·rename_i cs hH;rw[h id _ hH];exact hc
 ·cases hc
theorem ak7{H H':au}{pre:Prop}{v:AV}(hn:isApp o.op=true)(h:kD P o ρ H=some (pre,v,H')):HSub (uk H) (uk H'):=by
 have hk:=hn;unfold isApp at hk;unfold kD at h;split at h
 ·simp only[cC,iF] at h;rw[<-h.2.2];exact λ_ _ h=>h
 ·split at h
  ·simp only[cC,iF] at h;rw[<-h.2.2];exact λ_ _ h=>h
  ·cases hop:o.op<;>simp only[hop] at hk<;>try (cases hk;done)
   case call c =>
    have hs:y4 P o ρ H=none:=by unfold y4;simp only[hop]
    rw[hs] at h;unfold xU at h;simp only[hop] at h;split at h
    ·rename_i r hr;split at hr
     ·unfold ad9 at hr;split at hr
      ·rename_i id bg _ _ _ _ _;cases hH:H id with
       |none=>rw[hH] at hr;cases hr
       |some ch =>
        rw[hH] at hr;cases ch<;>simp only[] at hr<;>try (cases hr;done)
        split at hr
        ·split at hr
         ·simp only[cC] at hr h;subst hr;simp only[iF] at h;rw[<-h.2.2];intro i c' wm;unfold uk br at *;by_cases hi:i=id
          ·rw[hi,hH] at wm;cases wm
          ·rw[if_neg hi];exact wm
         ·cases hr
        ·cases hr
      ·cases hr
     ·cases hr
    ·cases h
theorem ajA{own:List Nat}{H H':au}{pre:Prop}{v:AV}(hn:axF o=true)(h:gi P own o ρ H=some (pre,v,H')):HSub (uk H) (uk H'):=by
 unfold gi at h;split at h
 ·split at h
  ·unfold orE at h;split at h
   ·rename_i hx;exact acn (arW (hx.trans h))
   ·exact ak7 hn h
   ·cases h
  ·exact ak7 hn h
 ·exact ak7 hn h
end Go.b7
namespace Go.b7
open Go.RowKit
variable{P:Program}{N:Nat}{own:List Nat}{ops:Array Oper}{K:Env->au->Prop}{tl:Nat->Bool}
inductive oV where
 |p|b|q|w|o|s|f|t
def mc(own:List Nat)(ops:Array Oper)(d:Nat):Bool:=(ops.toList.any λo=>o.dst == some d&&match o.op with
 | .alloc _=>true
 | .box ..=>true
 | .buildSlice ..=>true
 | .makeSlice ..=>true
 |_=>false)||own.contains (2000000+d)
def appArg:Op->Option (Nat×Operand)
 | .call c=>(match c.callee,c.args.toList,c.argTypes.toList with
  | .builtin .append,[.tmp a,s],[_,_]=>some (a,s)
  |_,_,_=>none)
 |_=>none
theorem abe{o:Op}{a:Nat}{s:Operand}(h:appArg o=some (a,s)):∃t1 t2,o = .call ⟨.builtin .append,#[.tmp a,s],#[t1,t2]⟩:=by
 unfold appArg at h;split at h
 ·rename_i c;obtain⟨ce,ar,ts⟩:=c;simp only at h;split at h
  ·rename_i a' s' t1 t2 h1 h2;simp only[cC,iF] at h;obtain⟨rfl,rfl⟩:=h;refine⟨t1,t2,?_⟩;cases ar;cases ts;simp only at h1 h2;subst h1 h2;rfl
  ·cases h
 ·cases h
def qh:List Nat->Nat->Nat
 | [],a=>a
 |c :: r,a=>if 9000000<=c then (if (c-9000000) / 1000=a then 1000000+(c-9000000) % 1000 else qh r a) else qh r a
theorem apJ(a:Nat):qh [] a=a:=rfl
theorem amW(c:Nat)(r:List Nat)(a:Nat):qh (c :: r) a=if 9000000<=c then (if (c-9000000) / 1000=a then 1000000+(c-9000000) % 1000 else qh r a) else qh r a:=rfl
def abf(own:List Nat)(ops:Array Oper)(o:Oper):Option Nat:=match appArg o.op with
 |some (a,_)=>if ((own.contains a||qh own a != a)&&mc own ops (qh own a))=true then some (qh own a) else none
 |none=>none
def af3(own:List Nat)(o:Oper)(env:Env):Prop:=match appArg o.op with
 |some (a,s)=>(∃v,env a = .row (qh own a) v)/\∃x,ev env s = .p x
 |none=>True
def qu(own:List Nat)(ops:Array Oper)(o:Oper):Bool:=(match o.op with
 | .store _ (.tmp d) _=>mc own ops d
 |_=>false)||(abf own ops o).isSome
def afn(own:List Nat)(ops:Array Oper)(o:Oper)(env:Env):Prop:=(match o.op with
 | .store _ (.tmp d) _=>mc own ops d=true->∃off,env d = .ptr d off
 |_=>True)/\((abf own ops o).isSome=true->af3 own o env)
def p0(own:List Nat)(ops:Array Oper)(H:au):au:=λi=>if mc own ops i then none else H i
theorem ahg(own:List Nat)(ops:Array Oper)(H:au):HSub (p0 own ops H) H:=λi c h=>by
 unfold p0 at h;split at h
 ·cases h
 ·exact h
theorem ajB(own:List Nat)(ops:Array Oper){H G:au}(h:HSub H G):HSub (p0 own ops H) (p0 own ops G):=λi c hc=>by
 unfold p0 at hc ⊢;split at hc
 ·cases hc
 ·rename_i hn;rw[if_neg hn];exact h i c hc
theorem ahh(own:List Nat)(ops:Array Oper)(H:au){d:Nat}(c:Chunk)(h:mc own ops d=true):p0 own ops (br H d c)=p0 own ops H:=by
 funext i;unfold p0 br;split
 ·rfl
 ·rename_i hn;rw[if_neg];intro hi;subst hi;exact hn h
def vv(own:List Nat)(ops:Array Oper)(o:Oper):Option Nat:=match o.op with
 | .alloc _=>(match o.dst with|some d=>if own.contains d=true then none else if mc own ops d=true then some d else none|none=>none)
 | .box ..=>(match o.dst with|some d=>if own.contains d=true then none else if mc own ops d=true then some d else none|none=>none)
 | .store _ (.tmp d) _=>(match o.dst with|some _=>none|none=>if mc own ops d=true then some d else none)
 | .buildSlice ..=>(match o.dst with|some d=>if own.contains d=true then (if mc own ops d=true then some d else none) else none|none=>none)
 | .makeSlice ..=>(match o.dst with|some d=>if own.contains d=true then (if mc own ops d=true then some d else none) else none|none=>none)
 | .call _=>abf own ops o
 |_=>none
theorem ak8{o:Oper}{ρ:Operand->AV}{H:au}(ho:(match o.op with | .alloc _=>true | .box ..=>true | .store ..=>true|_=>false)=true):kD P o ρ H=xU P o ρ H:=by
 obtain⟨d,op,t,pos,af,g⟩:=o;cases op<;>first|(cases ho;done)|skip
 all_goals
  simp only[kD,vp,ya,mU,y3,exE,y4];all_goals(cases xU P _ ρ H<;>rfl)
def aBe(P:Program)(own:List Nat)(o:Oper)(ρ:Operand->AV)(d:Nat):Prop:=∃φ:Option Chunk->Option (Prop×AV×Chunk),∀G,gi P own o ρ G=match φ (G d) with|some (pre,v,c)=>some (pre,v,br G d c)|none=>none
theorem aeg{o:Oper}{env:Env}{d:Nat}(h:vv own ops o=some d)(hs:afn own ops o env):aBe P own o (ev env) d/\mc own ops d=true:=by
 obtain⟨dst,op,t,pos,af,g⟩:=o;unfold vv at h;cases op<;>simp only at h<;>try (cases h;done)
 case buildSlice ty n parts =>
  cases dst with
  |none=>cases h
  |some k =>
   simp only at h;split at h
   ·rename_i hn;split at h
    ·rename_i hw;simp only[cC] at h;subst h;refine⟨⟨λc=>match c with
      |some _=>none
      |none=>(match mm P ty n (parts.toList.map λx=>(x.1,ev env x.2)) with
       |some (e,es)=>(match bf P e with
        |some sz=>some (True,.row k 0,.row 0 e sz es)
        |none=>none)
       |none=>(match wO P ty n (parts.toList.map λx=>(x.1,ev env x.2)) with
        |some (_,cs)=>some (True,.bsl k n,.box cs)
        |none=>none)),λG=>?_⟩,hw⟩
     simp only[gi];rw[if_pos hn];simp only[exN];cases hG:G k with
     |some _=>simp only[orE,isApp]
     |none =>
      simp only;cases mm P ty n (parts.toList.map λx=>(x.1,ev env x.2)) with
      |none =>
       simp only;cases wO P ty n (parts.toList.map λx=>(x.1,ev env x.2)) with
       |none=>simp only[orE,isApp]
       |some r=>obtain⟨e,cs⟩:=r;simp only[orE,isApp]
      |some r=>obtain⟨e,es⟩:=r;simp only;cases bf P e<;>simp only[orE,isApp]
    ·cases h
   ·cases h
 case makeSlice ty l c =>
  cases dst with
  |none=>cases h
  |some k =>
   simp only at h;split at h
   ·rename_i hn;split at h
    ·rename_i hw;simp only[cC] at h;subst h;refine⟨⟨λq=>match q with
      |some _=>none
      |none=>(match exN P ⟨some k,.makeSlice ty l c,t,pos,af,g⟩ (ev env) ct k with
       |some (pre,v,H')=>(match H' k with
        |some ch=>some (pre,v,ch)
        |none=>none)
       |none=>none),λG=>?_⟩,hw⟩
     simp only[gi];rw[if_pos hn];simp only[exN];cases hG:G k with
     |some _=>simp only[orE,isApp]
     |none =>
      simp only[show ct k=none from rfl];split
      ·split
       ·split
        ·simp only[orE,br,if_true]
        ·simp only[orE,isApp]
       ·simp only[orE,isApp]
      ·simp only[orE,isApp]
    ·cases h
   ·cases h
 case call cl =>
  have hk:(abf own ops ⟨dst,.call cl,t,pos,af,g⟩).isSome=true:=by rw[h];rfl
  have hst:af3 own ⟨dst,.call cl,t,pos,af,g⟩ env:=hs.2 hk;unfold abf at h;unfold af3 at hst;split at h
  ·rename_i a s heq;obtain⟨t1,t2,aDT⟩:=abe heq;rw[heq] at hst;simp only at hst;simp only[Op.call.injEq] at aDT;subst aDT;split at h
   ·rename_i hw;simp only[cC] at h;subst h;rw[and_eq_true] at hw;obtain⟨⟨bg,h1⟩,x,h2⟩:=hst;have uq:ev env (.tmp a) = .row (qh own a) bg:=h1;have hsrc:∀G:au,wP G (.p x)=wP ct (.p x):=λG=>by
     cases x with
     |val v =>
      cases v with
      |slice a n c=>cases n<;>rfl
      |_=>rfl
     |_=>rfl
    refine⟨⟨λc=>match dM P t1 t2,c with
     | some (e', sz', rY), some (.row v e sz es) => if v = bg ∧ e = e' ∧ sz = sz' then (match wP ct (.p x) with
       |some ns=>some ((es.length+ns.length) * rY<=140737488355328/\∀x∈ns,x.length=sz,.row (qh own a) (bg+1),.row (bg+1) e sz (es++ns))
       |none=>none) else none
     |_,_=>none,λG=>?_⟩,hw.2⟩
    have hM:gi P own ⟨dst,.call ⟨.builtin .append,#[.tmp a,s],#[t1,t2]⟩,t,pos,af,g⟩ (ev env) G=kD P ⟨dst,.call ⟨.builtin .append,#[.tmp a,s],#[t1,t2]⟩,t,pos,af,g⟩ (ev env) G:=by
     unfold gi;cases dst with
     |none=>rfl
     |some k =>
      simp only;split
      ·have:exN P ⟨some k,.call ⟨.builtin .append,#[.tmp a,s],#[t1,t2]⟩,t,pos,af,g⟩ (ev env) G k=none:=by
        unfold exN;cases G k with
        |some _=>rfl
        |none=>simp only[map_cons,map_nil,uq]
       rw[this];rfl
      ·rfl
    rw[hM,ahb,uq,h2,amJ];cases hT:dM P t1 t2 with
    |none=>simp only[aA0]
    |some r =>
     obtain⟨e',sz',rY⟩:=r;rw[amK,hsrc];cases hG:G (qh own a) with
     |none=>simp only
     |some c =>
      cases c with
      |row v e sz es =>
       simp only;split
       ·cases wP ct (.p x)<;>simp only
       ·rfl
      |box cs=>simp only
      |tail v e sz es=>simp only
      |shut v es=>simp only
      |deep v e sz k e' sz' es=>simp only
   ·cases h
  ·cases h
 case alloc e =>
  cases dst with
  |none=>cases h
  |some k =>
   simp only at h;split at h
   ·cases h
   ·rename_i hn;split at h
    ·rename_i hw;simp only[cC] at h;subst h;refine⟨⟨λc=>match c,cH P e with
      |none,some zs=>if zs.all (·.oneCell')=true then some (True,.ptr k 0,.box (zs.map λz=>.p (.val z))) else none
      |_,_=>none,λG=>?_⟩,hw⟩
     simp only[gi];rw[if_neg hn,ak8 rfl];simp only[xU];cases hG:G k with
     |some _=>simp only
     |none =>
      cases cH P e with
      |none=>simp only
      |some zs=>simp only;split<;>rfl
    ·cases h
 case box e x =>
  cases dst with
  |none=>cases h
  |some k =>
   simp only at h;split at h
   ·cases h
   ·rename_i hn;split at h
    ·rename_i hw;simp only[cC] at h;subst h;refine⟨⟨λc=>match c with
      |none=>if (b8 (ev env x)).all oC=true then some (True,.ptr k 0,.box (b8 (ev env x))) else none
      |some _=>none,λG=>?_⟩,hw⟩
     simp only[gi];rw[if_neg hn,ak8 rfl];simp only[xU];cases hG:G k with
     |some _=>simp only
     |none=>simp only;split<;>rfl
    ·cases h
 case store e a x =>
  cases a with
  |tmp k =>
   cases dst with
   |some _=>cases h
   |none =>
    simp only at h;split at h
    ·rename_i hw;simp only[cC] at h;subst h;obtain⟨off,hp⟩:=hs.1 hw;refine⟨⟨λc=>match bf P e with
      |some n=>if (b8 (ev env x)).length=n/\(b8 (ev env x)).all oC=true then match c with
       |some (.box cs)=>if off+n<=cs.length then some (True,.dead,.box (splice cs off (b8 (ev env x)))) else none
       |_=>none
       else none
      |none=>none,λG=>?_⟩,hw⟩
     have he:ev env (.tmp k) = .ptr k off:=hp;simp only[gi];rw[ak8 rfl];simp only[xU,he];cases bf P e with
     |none=>simp only
     |some n =>
      simp only;split
      ·cases hG:G k with
       |none=>simp only
       |some c =>
        cases c<;>simp only
        split<;>rfl
      ·rfl
    ·cases h
  |_=>cases h
def ahi(P:Program)(own:List Nat)(ops:Array Oper)(o:Oper)(ρ:Operand->AV)(H:au)(v:AV)(H':au):Prop :=
 ∃k eZ ps b r,∃id:Nat,dA o ρ=some (k,eZ)/\eT (gL (p0 own ops H)) eZ=some (ps,b)/\bl P k ps (λx=>x=r)/\(b=true->r.flat=true) /\
  (∀i,id<=i->i<(cT id r).2->H i=none/\mc own ops i=false)/\v=(cT id r).1/\H'=gB id H r
theorem amX:∀ (r:RV) (k:Nat) (H:au) (d:Nat) (c:Chunk),(d<k\/(cT k r).2<=d)->gB k (br H d c) r=br (gB k H r) d c:=by
 intro r;refine RV.rec (motive_1:=λr=>∀k (H:au) d c,(d<k\/(cT k r).2<=d)->gB k (br H d c) r=br (gB k H r) d c) (motive_2:=λrs=>∀k (H:au) d c,(d<k\/(jw k rs).2<=d)->lI k (br H d c) rs=br (lI k H rs) d c) ?_ ?_ ?_ ?_ ?_ ?_ ?_ r
 ·intro x k H d c _;rfl
 ·intro e sz es k H d c hd;have hne:d≠k:=by
   rintro rfl;rcases hd with h|h
   ·exact lt_irrefl _ h
   ·exact lt_irrefl _ h
  exact lB H c _ hne
 ·intro e sz j e' sz' es k H d c hd;have hne:d≠k:=by
   rintro rfl;rcases hd with h|h
   ·exact lt_irrefl _ h
   ·exact lt_irrefl _ h
  exact lB H c _ hne
 ·intro rs ih k H d c hd;exact ih k H d c hd
 ·intro rs ih k H d c hd;exact ih k H d c hd
 ·intro k H d c _;rfl
 ·intro r rs ih1 ih2 k H d c hd;show lI _ (gB k (br H d c) r) rs=br (lI _ (gB k H r) rs) d c;have h1:=aba r k;have h2:=afc rs (cT k r).2;have hd':d<k\/(jw (cT k r).2 rs).2<=d:=hd;rw[ih1 k H d c (by omega),ih2 _ _ d c (by omega)]
theorem abg{o:Oper}{ρ:Operand->AV}{H H':au}{v:AV}(h:ahi P own ops o ρ H v H'):HSub H H':=by
 obtain⟨k,eZ,ps,b,r,id,_,_,_,_,h5,_,rfl⟩:=h;intro i c hc;rw[adA r id H i,hc];rcases lt_or_ge i id with h|h
 ·exact .inl h
 ·rcases lt_or_ge i (cT id r).2 with h'|h'
  ·rw[(h5 i h h').1] at hc;cases hc
  ·exact .inr h'
theorem aeh{o:Oper}{ρ ρ':Operand->AV}{H H':au}{v:AV}(h:∀x∈o.op.operands,ρ x=ρ' x)(hc:ahi P own ops o ρ H v H'):ahi P own ops o ρ' H v H':=by obtain⟨k,eZ,ps,b,r,id,h1,h2⟩:=hc;exact⟨k,eZ,ps,b,r,id,(abd h) ▸ h1,h2⟩
theorem apK{o:Oper}{ρ:Operand->AV}{H:au}(hq:bP own o=true){x:FuncId×List AV}(h1:dA o ρ=some x):gi P own o ρ H=none:=by
 have hq':=hq;unfold bP at hq;rw[and_eq_true] at hq;rw[kr hq.1,afk hq'];unfold dA at h1;split at h1
 ·rename_i c hop;split at h1
  ·rename_i f hc;unfold vp ya mU y3 exE;simp only[hop,hc]
  ·cases h1
 ·cases h1
def jP(P:Program)(own:List Nat)(ops:Array Oper)(c:oV)(o:Oper)(env:Env)(H:au)(v:AV)(H':au):Prop:=match c with
 | .p=>∃pre,vp P o (ev env)=some (pre,v)/\pre/\H'=H/\(match o.dst with|some d=>!own.contains d|none=>true)=true
 | .q=>bP own o=true/\H'=H/\((∃pre,kD P o (ev env) H=some (pre,v,H)/\pre)\/(∃x,v = .p x/\aa8 P o (ev env) H x/\gi P own o (ev env) H=none))
 | .b=>bP own o=true/\H'=H/\∃pre,kD P o (ev env) (uk H)=some (pre,v,uk H)/\pre
 | .w=>∃pre,gi P own o (ev env) H=some (pre,v,H')/\pre
 | .s=>∃pre,gi P own o (ev env) H=some (pre,v,H')/\pre
 | .f=>bP own o=true/\ahi P own ops o (ev env) H v H'
 | .t=>False
 | .o=>bP own o=true/\H'=H/\((∃pre,kD P o (ev env) (p0 own ops H)=some (pre,v,p0 own ops H)/\pre)\/(∃x,v = .p x/\aa8 P o (ev env) (p0 own ops H) x/\gi P own o (ev env) (p0 own ops H)=none))
theorem arY{o:Oper}{env:Env}{H H':au}{v:AV}(h:jP P own ops .b o env H v H'):jP P own ops .q o env H v H':=by obtain⟨h1,rfl,pre,h2,h3⟩:=h;exact⟨h1,rfl,.inl ⟨pre,pZ (amV _) h1 h2,h3⟩⟩
theorem arZ{o:Oper}{env:Env}{H H':au}{v:AV}(h:jP P own ops .o o env H v H'):jP P own ops .q o env H v H':=by
 obtain⟨h1,rfl,⟨pre,h2,h3⟩|⟨x,h2,h3,h4⟩⟩:=h
 ·exact⟨h1,rfl,.inl ⟨pre,pZ (ahg own ops _) h1 h2,h3⟩⟩
 ·exact⟨h1,rfl,.inr ⟨x,h2,afm (ahg own ops _) h3,adE h1 h3⟩⟩
theorem axG{c:oV}{o:Oper}{env:Env}{H H':au}{v:AV}(h:jP P own ops c o env H v H'){W:Env->au->Prop}(hW:W (cA env o.dst v) H') :
  match gi P own o (ev env) H with
   |some (pre,v,H')=>pre/\W (cA env o.dst v) H'
   |none=>iU P o W env H:=by
 have hq : jP P own ops .q o env H v H' → (match gi P own o (ev env) H with
   |some (pre,v,H')=>pre/\W (cA env o.dst v) H'
   |none=>iU P o W env H):=λh=>by
  obtain⟨h1,rfl,h2|⟨x,rfl,h2,h3⟩⟩:=h
  ·obtain⟨pre,h3,h4⟩:=h2;unfold bP at h1;rw[and_eq_true] at h1;rw[kr h1.1,h3];exact⟨h4,hW⟩
  ·rw[h3];exact .inl (.inl ⟨[],zc h2 hW⟩)
 cases c with
 |p=>obtain⟨pre,h1,h2,rfl,h3⟩:=h;rw[kr h3];unfold kD;rw[h1];exact⟨h2,hW⟩
 |b=>exact hq (arY h)
 |q=>exact hq h
 |o=>exact hq (arZ h)
 |w=>obtain⟨pre,h1,h2⟩:=h;rw[h1];exact⟨h2,hW⟩
 |s=>obtain⟨pre,h1,h2⟩:=h;rw[h1];exact⟨h2,hW⟩
 |f=>obtain⟨hq',k,eZ,ps,b,r,id,h1,h2,h3,h4,h5,rfl,rfl⟩:=h;rw[apK hq' h1];exact .inl (.inr (.inr ⟨[],.inl ⟨k,eZ,ps,b,_,id,h1,oZ (λa r=>ajx (ahg own ops H)) h2,h3,λr' hr=>by subst hr;exact⟨h4,λi a b=>(h5 i a b).1,hW⟩⟩⟩))
 |t=>exact h.elim
theorem af4{o:Oper}{W W':Env->au->Prop}{env:Env}{H:au}(h:∀e G,W e G->W' e G)(hh:aff P o W env H):aff P o W' env H:=by
 rcases hh with ⟨ids,k,eZ,ps,b,Q,h1,h2,h3,h4⟩|⟨k,ps,x,h1,h2,h3⟩|⟨ids,⟨k,eZ,ps,b,Q,id,h1,h2,h3,h4⟩|⟨k,id,v,e,sz,es,eZ,ps,b,Q,h1,h2,h3,h4,h5⟩⟩
 ·exact .inl ⟨ids,k,eZ,ps,b,Q,h1,h2,h3,λr hr=>⟨(h4 r hr).1,h _ _ (h4 r hr).2⟩⟩
 ·exact .inr (.inl ⟨k,ps,x,h1,h2,h _ _ h3⟩)
 ·exact .inr (.inr ⟨ids,.inl ⟨k,eZ,ps,b,Q,id,h1,h2,h3,λr hr=>⟨(h4 r hr).1,(h4 r hr).2.1,h _ _ (h4 r hr).2.2⟩⟩⟩)
 ·refine .inr (.inr ⟨ids,.inr ⟨k,id,v,e,sz,es,eZ,ps,b,Q,h1,h2,h3,h4,λa c hq=>?_⟩⟩);obtain⟨v',e',sz',es',a',q1,q2,q3,q4⟩:=h5 a c hq;exact⟨v',e',sz',es',a',q1,q2,q3,h _ _ q4⟩
theorem apL{o:Oper}{W W':Env->au->Prop}{env:Env}{H:au}(h:∀e G,W e G->W' e G)(hh:iU P o W env H):iU P o W' env H:=by
 have hC:∀ {env H},abb P o W env H->abb P o W' env H:=λhc C I L tm w σ hs hσ=>by obtain⟨k,args,q1,q2⟩:=hc C I L tm w σ hs hσ;exact⟨k,args,q1,q2.mono λe w' ⟨v,I',L',a,H',m1,m2,m3⟩=>⟨v,I',L',a,H',m1,h _ _ m2,m3⟩⟩
 have hR:∀ {env H},ajt P o W env H->ajt P o W' env H:=λ⟨v,H',q1,q2⟩=>⟨v,H',h _ _ q1,q2⟩
 rcases hh with hh|⟨e2,H2,q1,⟨pre,v,H',q2,q3,q4⟩|q|q|q⟩|hh|hh
 ·exact .inl (af4 h hh)
 ·exact .inr (.inl ⟨e2,H2,q1,.inl ⟨pre,v,H',q2,q3,h _ _ q4⟩⟩)
 ·exact .inr (.inl ⟨e2,H2,q1,.inr (.inl (af4 h q))⟩)
 ·exact .inr (.inl ⟨e2,H2,q1,.inr (.inr (.inl (hR q)))⟩)
 ·exact .inr (.inl ⟨e2,H2,q1,.inr (.inr (.inr (hC q)))⟩)
 ·exact .inr (.inr (.inl (hR hh)))
 ·exact .inr (.inr (.inr (hC hh)))
def opK(P:Program)(own:List Nat)(o:Oper)(W:Env->au->Prop)(env:Env)(H:au):Prop:=match gi P own o (ev env) H with
 |some (pre,v,H')=>pre/\W (cA env o.dst v) H'
 |none=>iU P o W env H
theorem amY{o:Oper}{W W':Env->au->Prop}{env:Env}{H:au}(h:∀e G,W e G->W' e G)(hh:opK P own o W env H):opK P own o W' env H:=by
 unfold opK at *;split at hh
 ·exact⟨hh.1,h _ _ hh.2⟩
 ·exact apL h hh
def ar0(P:Program)(own:List Nat)(ops:Array Oper)(o:Oper)(W:Env->au->Prop)(env:Env)(H:au):Prop:=(lX ops o env=some false/\W (cA env o.dst (.dH [])) H)\/(lX ops o env=some true/\opK P own o W env H)
def aOp(P:Program)(own:List Nat)(ops:Array Oper)(tl:Nat->Bool)(i:Nat)(W:Env->au->Prop)(env:Env)(H:au):Prop:=match ops[i]? with
 |none=>W env H
 |some o=>(lX ops o env=some false/\W (cA env o.dst (.dH [])) H)\/(lX ops o env=some true/\((afn own ops o env/\∃c v H',jP P own ops c o env H v H'/\W (cA env o.dst v) H')\/(tl i=true/\opK P own o W env H)))
def amZ(P:Program)(own:List Nat)(ops:Array Oper)(tl:Nat->Bool)(K:Env->au->Prop):Nat->Array Bool->Env->au->Prop
 |0,listed,env,H=>Region.ready .any ops listed=[]/\K env H
 |fuel+1,listed,env,H=>(Region.ready .any ops listed=[]->K env H) /\
  ∀i∈Region.ready .any ops listed,aOp P own ops tl i (amZ P own ops tl K fuel (listed.setIfInBounds i true)) env H
theorem sA{C:Ctx}(hd:∀ (i:Nat) o,ops[i]? = some o->vt C.n o.dst){Q:Exit->Act->World->Prop}
  (hK:∀env H I L tm w,K env H->gK C env H I L tm w->Q .normal ⟨tm,[]⟩ w):∀ (fuel:Nat) (listed:Array Bool) (env:Env) (H:au) (I:Mem) (L:bA) (tm:Array Value) (w:World),
  amZ P own ops tl K fuel listed env H->gK C env H I L tm w->wpAny P .any ops Q fuel listed ⟨tm,[]⟩ w
 |0,listed,env,H,I,L,tm,w,h,hs=>⟨h.1,hK env H I L tm w h.2 hs⟩
 |fuel+1,listed,env,H,I,L,tm,w,h,hs=>by
  refine⟨λh0=>hK env H I L tm w (h.1 h0) hs,λi hi=>?_⟩;have hi:=h.2 i hi;unfold aOp at hi;unfold wpOp;cases ho:ops[i]? with
  |none=>rw[ho] at hi;exact sA hd hK fuel _ env H I L tm w hi hs
  |some o =>
   rw[ho] at hi;simp only[];have hdo:=hd i o ho;rcases hi with ⟨hg,hi⟩|⟨hg,⟨_,c,v,H',hst,hi⟩|⟨_,hi⟩⟩
   ·rw[if_neg (by rw[nj hg hs];simp)];have e:(Act.put ⟨tm,[]⟩ o.dst undef:Act)=⟨(Act.put ⟨tm,[]⟩ o.dst undef).tmps,[]⟩:=by cases o.dst<;>rfl
    rw[e];exact sA hd hK fuel _ _ H I L _ w hi (hs.cA hdo (.dH [] [] rfl (by simp)) [])
   ·rw[if_pos (nj hg hs)];exact .inl (akZ (axG hst hi) hs hdo λenv' H' I' L' tm' w' hw hs'=>sA hd hK fuel _ env' H' I' L' tm' w' hw hs')
   ·rw[if_pos (nj hg hs)];exact .inl (akZ hi hs hdo λenv' H' I' L' tm' w' hw hs'=>sA hd hK fuel _ env' H' I' L' tm' w' hw hs')
def ahj(ops:Array Oper)(anc:Nat->Nat->Bool):Bool :=
 (range ops.size).all λj=>(range ops.size).all λi=>!anc j i||match ops[j]? with
  |some o=>o.after.toList.any λe=>Region.binds .any e&&decide (e.on<j)&&(e.on == i||anc e.on i)
  |none=>false
theorem ahk{anc:Nat->Nat->Bool}(h:ahj ops anc=true){i j:Nat}{o:Oper}(hj:ops[j]? = some o)(hi:i<ops.size)(ha:anc j i=true) :
  ∃e∈o.after,Region.binds .any e=true/\e.on<j/\(e.on=i\/anc e.on i=true):=by
 have aHu:j<ops.size:=(Array.getElem?_eq_some_iff.1 hj).1;have h1:=all_eq_true.1 h j (mem_range.2 aHu);have h2:=all_eq_true.1 h1 i (mem_range.2 hi);rw[ha,hj] at h2;simp only[Bool.not_true,Bool.false_or] at h2;obtain⟨e,he,h3⟩:=any_eq_true.1 h2;simp only[and_eq_true,decide_eq_true_eq,or_eq_true,beq_iff_eq] at h3;exact⟨e,by simpa using he,h3.1.1,h3.1.2,h3.2⟩
def sB(ops:Array Oper)(listed:Array Bool):Prop:=listed.size=ops.size/\∀j o,ops[j]? = some o->listed.getD j false=true->∀e∈o.after,Region.binds .any e=true->listed.getD e.on false=true
theorem sB.set{listed:Array Bool}(h:sB ops listed){i:Nat}(hi:i∈Region.ready .any ops listed):sB ops (listed.setIfInBounds i true):=by
 obtain⟨_,oi,hoi,hall⟩:=mem_ready.1 hi;refine⟨by simpa using h.1,λj o hj hl e he hb=>?_⟩;by_cases hij:i=j
 ·subst hij;have:o=oi:=Option.some.inj (hj.symm.trans hoi);subst this;exact getD_set_true (hall e he hb)
 ·rw[getD_set_ne false hij] at hl;exact getD_set_true (h.2 j o hj hl e he hb)
theorem ai4{anc:Nat->Nat->Bool}(hA:ahj ops anc=true){listed:Array Bool}(hc:sB ops listed){i:Nat}(hi:i<ops.size) :
  ∀ (j:Nat),listed.getD j false=true->anc j i=true->listed.getD i false=true:=by
 intro j
 induction j using Nat.strongRecOn with
 |_ j ih =>
  intro hl ha;have hjl:j<ops.size:=by
   rw[<-hc.1];rcases lt_or_ge j listed.size with h|h
   ·exact h
   ·simp[Array.getElem?_eq_none h] at hl
  obtain⟨o,ho⟩:∃o,ops[j]? = some o:=⟨ops[j],by simp[hjl]⟩;obtain⟨e,he,hb,hlt,h1⟩:=ahk hA ho hi ha;have hle:=hc.2 j o ho hl e he hb;rcases h1 with rfl|h1
  ·exact hle
  ·exact ih e.on hlt hle h1
theorem ajC{anc:Nat->Nat->Bool}(hA:ahj ops anc=true){listed:Array Bool}(hc:sB ops listed){i j:Nat}(hi:i∈Region.ready .any ops listed)(hj:j∈Region.ready .any ops listed):anc j i=false:=by
 cases ha:anc j i with
 |false=>rfl
 |true =>
  exfalso;obtain⟨hiu,oi,hoi,_⟩:=mem_ready.1 hi;obtain⟨_,oj,hoj,hall⟩:=mem_ready.1 hj;have hil:i<ops.size:=(Array.getElem?_eq_some_iff.1 hoi).1;obtain⟨e,he,hb,hlt,h1⟩:=ahk hA hoj hil ha;have hle:=hall e he hb;have:listed.getD i false=true:=by
   rcases h1 with rfl|h1
   ·exact hle
   ·exact ai4 hA hc hil e.on hle h1
  have h2:i<listed.size:=by rw[hc.1];exact hil
  simp[h2] at hiu this;rw[hiu] at this;cases this
theorem aCY{env:Env}{d:Option Tmp}{v:AV}{x:Operand}(h:∀k,d=some k->x≠.tmp k):ev (cA env d v) x=ev env x:=by
 cases d with
 |none=>rfl
 |some k =>
  cases x with
  |tmp t =>
   have hne:t≠k:=λe=>h k rfl (by rw[e])
   show c9 env k v t=env t;unfold c9;rw[if_neg hne]
  |_=>rfl
theorem atO{o:Oper}{t:Tmp}(h:Operand.tmp t∈o.op.operands):t∈o.looksAt ops:=by unfold Oper.looksAt;rw[mem_append];left;exact mem_filterMap.2 ⟨.tmp t,by simpa using h,rfl⟩
theorem aei{o:Oper}{env:Env}{d:Option Tmp}{v:AV}(h:∀k,d=some k->k ∉ o.looksAt ops):∀x∈o.op.operands,ev (cA env d v) x=ev env x:=λx hx=>aCY λk hk e=>h k hk (atO (by rw[<-e];exact hx))
theorem adF{o:Oper}{env:Env}{d:Option Tmp}{v:AV}(h:∀k,d=some k->k ∉ o.looksAt ops):lX ops o (cA env d v)=lX ops o env:=by
 unfold lX;cases hg:o.guard with
 |none=>rfl
 |some gw =>
  obtain⟨j,want⟩:=gw;simp only[];cases hd:(ops[j]?).bind (·.dst) with
  |none=>rfl
  |some s =>
   simp only[];have:cA env d v s=env s:=by
    cases d with
    |none=>rfl
    |some k =>
     have hk:=h k rfl;have hne:s≠k:=λe=>hk (by
      unfold Oper.looksAt;rw[mem_append];right;rw[hg];simp only[];rw[hd,e];simp)
     show c9 env k v s=env s;unfold c9;rw[if_neg hne]
   rw[this]
theorem ajD{env:Env}{d e:Option Tmp}{v u:AV}(h:∀k,d=some k->e≠some k):cA (cA env d v) e u=cA (cA env e u) d v:=by
 cases d with
 |none=>rfl
 |some k =>
  cases e with
  |none=>rfl
  |some m=>exact awf env v u λhkm=>h k rfl (by rw[hkm])
theorem am0{o:Oper}{env:Env}{d:Option Tmp}{v:AV}(h:∀k,d=some k->k ∉ o.looksAt ops):afn own ops o (cA env d v)↔afn own ops o env:=by
 have hop:∀x∈o.op.operands,ev (cA env d v) x=ev env x:=aei (ops:=ops) h;have h2:af3 own o (cA env d v)↔af3 own o env:=by
  unfold af3;cases ha:appArg o.op with
  |none=>rfl
  |some r=>obtain⟨a,s⟩:=r;obtain⟨t1,t2,e⟩:=abe ha;have e1:ev (cA env d v) (.tmp a)=ev env (.tmp a):=hop _ (by rw[e];simp[Op.operands,Call.operands]);have e2:ev (cA env d v) s=ev env s:=hop _ (by rw[e];simp[Op.operands,Call.operands]);have e1':cA env d v a=env a:=e1;simp only[e1',e2]
 unfold afn;rw[h2];cases ho:o.op with
 |store t a x =>
  cases a with
  |tmp k=>have h1:ev (cA env d v) (.tmp k)=ev env (.tmp k):=hop _ (by rw[ho];simp[Op.operands]);have h2:cA env d v k=env k:=h1;simp only[h2]
  |_=>rfl
 |_=>rfl
theorem ajE{c:oV}{o:Oper}{env:Env}{H H':au}{v u:AV}{d:Option Tmp}(h:∀k,d=some k->k ∉ o.looksAt ops):jP P own ops c o (cA env d u) H v H'↔jP P own ops c o env H v H':=by
 have hop:∀x∈o.op.operands,ev (cA env d u) x=ev env x:=aei (ops:=ops) h;have aCZ:∀x∈o.op.operands,ev env x=ev (cA env d u) x:=λx hx=>(hop x hx).symm
 cases c with
 |p=>simp only[jP,ajv hop]
 |q =>
  simp only[jP,acj hop,wT hop];constructor
  ·rintro⟨h1,h2,h3|⟨x,h3,h4,h5⟩⟩
   ·exact⟨h1,h2,.inl h3⟩
   ·exact⟨h1,h2,.inr ⟨x,h3,wU hop h4,h5⟩⟩
  ·rintro⟨h1,h2,h3|⟨x,h3,h4,h5⟩⟩
   ·exact⟨h1,h2,.inl h3⟩
   ·exact⟨h1,h2,.inr ⟨x,h3,wU aCZ h4,h5⟩⟩
 |o =>
  simp only[jP,acj hop,wT hop];constructor
  ·rintro⟨h1,h2,h3|⟨x,h3,h4,h5⟩⟩
   ·exact⟨h1,h2,.inl h3⟩
   ·exact⟨h1,h2,.inr ⟨x,h3,wU hop h4,h5⟩⟩
  ·rintro⟨h1,h2,h3|⟨x,h3,h4,h5⟩⟩
   ·exact⟨h1,h2,.inl h3⟩
   ·exact⟨h1,h2,.inr ⟨x,h3,wU aCZ h4,h5⟩⟩
 |b=>simp only[jP,acj hop]
 |w=>simp only[jP,wT hop]
 |s=>simp only[jP,wT hop]
 |f=>exact⟨λh=>⟨h.1,aeh hop h.2⟩,λh=>⟨h.1,aeh aCZ h.2⟩⟩
 |t=>exact Iff.rfl
theorem abh{c:oV}{o:Oper}{env:Env}{H H':au}{v:AV}(hq:bP own o=true)(h:jP P own ops c o env H v H'):HSub H H':=by
 have key:H'=H->HSub H H':=λe=>by rw[e];exact λ_ _ h=>h
 cases c with
 |p=>obtain⟨_,_,_,h,_⟩:=h;exact key h
 |q=>exact key h.2.1
 |b=>exact key h.2.1
 |o=>exact key h.2.1
 |w=>obtain⟨pre,h1,_⟩:=h;exact key (tE hq h1)
 |s=>obtain⟨pre,h1,_⟩:=h;exact key (tE hq h1)
 |f=>exact abg h.2
 |t=>exact h.elim
theorem adG{c:oV}{o:Oper}{env:Env}{H H':au}{v:AV}(hq:vu own o=true)(h:jP P own ops c o env H v H'):H'=H/\∀G,jP P own ops .p o env G v G:=by
 have hown:(match o.dst with|some d=>!own.contains d|none=>true)=true:=by unfold vu at hq;rw[and_eq_true] at hq;exact hq.1
 have hqq:jP P own ops .q o env H v H'->H'=H/\∀G,jP P own ops .p o env G v G:=λh=>by
  obtain⟨_,rfl,⟨pre,h1,h2⟩|⟨x,_,h1,_⟩⟩:=h
  ·rw[amU hq] at h1;cases hp:vp P o (ev env) with
   |none=>rw[hp] at h1;cases h1
   |some r=>obtain⟨pre',v'⟩:=r;rw[hp] at h1;simp only[cC,iF] at h1;obtain⟨rfl,rfl,_⟩:=h1;exact⟨rfl,λG=>⟨pre',hp,h2,rfl,hown⟩⟩
  ·obtain⟨k,eZ,ps,b,hc,_⟩:=h1;rw[ajw hq] at hc;cases hc
 cases c with
 |p=>obtain⟨pre,h1,h2,h3,h4⟩:=h;exact⟨h3,λG=>⟨pre,h1,h2,rfl,h4⟩⟩
 |t=>exact h.elim
 |b=>exact hqq (arY h)
 |q=>exact hqq h
 |o=>exact hqq (arZ h)
 |w =>
  obtain⟨pre,h1,h2⟩:=h;rw[ahe hq] at h1;cases hp:vp P o (ev env) with
  |none=>rw[hp] at h1;cases h1
  |some r=>obtain⟨pre',v'⟩:=r;rw[hp] at h1;simp only[cC,iF] at h1;obtain⟨rfl,rfl,rfl⟩:=h1;exact⟨rfl,λG=>⟨pre',hp,h2,rfl,hown⟩⟩
 |s =>
  obtain⟨pre,h1,h2⟩:=h;rw[ahe hq] at h1;cases hp:vp P o (ev env) with
  |none=>rw[hp] at h1;cases h1
  |some r=>obtain⟨pre',v'⟩:=r;rw[hp] at h1;simp only[cC,iF] at h1;obtain⟨rfl,rfl,rfl⟩:=h1;exact⟨rfl,λG=>⟨pre',hp,h2,rfl,hown⟩⟩
 |f=>obtain⟨_,k,eZ,ps,b,r,id,h1,_⟩:=h;rw[ajw hq] at h1;cases h1
def Head(P:Program)(own:List Nat)(ops:Array Oper)(c:oV)(o:Oper)(env:Env)(H:au)(v:AV)(H':au):Prop:=(lX ops o env=some false/\v = .dH []/\H'=H)\/(lX ops o env=some true/\afn own ops o env/\jP P own ops c o env H v H')
theorem Head.aOp{c:oV}{i:Nat}{o:Oper}{env:Env}{H H':au}{v:AV}(hi:ops[i]? = some o)(h:Head P own ops c o env H v H'){W:Env->au->Prop}(hW:W (cA env o.dst v) H'):aOp P own ops tl i W env H:=by
 unfold b7.aOp;rw[hi];rcases h with ⟨h1,rfl,rfl⟩|⟨h1,hst,h2⟩
 ·exact .inl ⟨h1,hW⟩
 ·exact .inr ⟨h1,.inl ⟨hst,c,v,H',h2,hW⟩⟩
theorem Head.put{c:oV}{o:Oper}{env:Env}{H H':au}{v u:AV}{d:Option Tmp}(h:∀k,d=some k->k ∉ o.looksAt ops)(hh:Head P own ops c o env H v H'):Head P own ops c o (cA env d u) H v H':=by unfold Head at *;rw[adF h,ajE h,am0 h];exact hh
def ak9(own:List Nat)(ops:Array Oper)(c:oV)(oi oj:Oper):Bool:=oi.apart ops oj&&match c with
 | .p=>true
 | .b=>bP own oj||ajy own oj||axF oj
 | .q=>bP own oj||ajy own oj
 | .o=>bP own oj||ajy own oj||(vv own ops oj).isSome
 | .w=>vu own oj||(match vv own ops oi,vv own ops oj with
  |some x,some y=>x != y
  |_,_=>false)
 | .s=>vu own oj||(match vv own ops oi,vv own ops oj with
  |some x,some y=>x != y
  |_,_=>false)
 | .f=>vu own oj||(vv own ops oj).isSome
 | .t=>false
theorem afo{c:oV}{o:Oper}{env:Env}{H H':au}{v:AV}(hn:ajy own o=true)(h:jP P own ops c o env H v H'):HSub H H':=by
 cases c with
 |p=>obtain⟨_,_,_,h3,_⟩:=h;rw[h3];exact λ_ _ h=>h
 |b=>rw[h.2.1];exact λ_ _ h=>h
 |q=>rw[h.2.1];exact λ_ _ h=>h
 |o=>rw[h.2.1];exact λ_ _ h=>h
 |w=>obtain⟨pre,h1,_⟩:=h;exact ajz hn h1
 |s=>obtain⟨pre,h1,_⟩:=h;exact ajz hn h1
 |f=>exact abg h.2
 |t=>exact h.elim
theorem atP{c:oV}{o:Oper}{env:Env}{H H':au}{v:AV}(hn:axF o=true)(h:jP P own ops c o env H v H'):HSub (uk H) (uk H'):=by
 cases c with
 |p=>obtain⟨_,_,_,h3,_⟩:=h;rw[h3];exact λ_ _ h=>h
 |t=>exact h.elim
 |b=>rw[h.2.1];exact λ_ _ h=>h
 |q=>rw[h.2.1];exact λ_ _ h=>h
 |o=>rw[h.2.1];exact λ_ _ h=>h
 |w=>obtain⟨pre,h1,_⟩:=h;exact ajA hn h1
 |s=>obtain⟨pre,h1,_⟩:=h;exact ajA hn h1
 |f=>exact acn (abg h.2)
theorem Head.sub{o:Oper}{env:Env}{H G:au}{v:AV}(hs:HSub H G)(h:Head P own ops .q o env H v H):Head P own ops .q o env G v G:=by
 rcases h with ⟨h1,h2,_⟩|⟨h1,hst,h2,_,h3|⟨x,h3,h4,h5⟩⟩
 ·exact .inl ⟨h1,h2,rfl⟩
 ·obtain⟨pre,h3,h4⟩:=h3;exact .inr ⟨h1,hst,h2,rfl,.inl ⟨pre,pZ hs h2 h3,h4⟩⟩
 ·exact .inr ⟨h1,hst,h2,rfl,.inr ⟨x,h3,afm hs h4,adE h2 h4⟩⟩
theorem Head.aHv{o:Oper}{env:Env}{H G:au}{v:AV}(hs:HSub (p0 own ops H) (p0 own ops G))(h:Head P own ops .o o env H v H):Head P own ops .o o env G v G:=by
 rcases h with ⟨h1,h2,_⟩|⟨h1,hst,h2,_,h3|⟨x,h3,h4,h5⟩⟩
 ·exact .inl ⟨h1,h2,rfl⟩
 ·obtain⟨pre,h3,h4⟩:=h3;exact .inr ⟨h1,hst,h2,rfl,.inl ⟨pre,pZ hs h2 h3,h4⟩⟩
 ·exact .inr ⟨h1,hst,h2,rfl,.inr ⟨x,h3,afm hs h4,adE h2 h4⟩⟩
theorem aej{c:oV}{o:Oper}{env:Env}{H H':au}{v:AV}{d:Nat}(hl:vv own ops o=some d)(hs:afn own ops o env)(h:jP P own ops c o env H v H'):∃pre,gi P own o (ev env) H=some (pre,v,H')/\pre:=by
 obtain⟨dst,op,t,pos,af,g⟩:=o;have hw:(jP P own ops .w ⟨dst,op,t,pos,af,g⟩ env H v H'->∃pre,gi P own ⟨dst,op,t,pos,af,g⟩ (ev env) H=some (pre,v,H')/\pre):=λh=>h
 have hcl:∀cl,op = .call cl->bP own ⟨dst,op,t,pos,af,g⟩=false/\vp P ⟨dst,op,t,pos,af,g⟩ (ev env)=none:=by
  intro cl e;subst e;have hl':abf own ops ⟨dst,.call cl,t,pos,af,g⟩=some d:=hl;have hst:=hs.2 (by rw[hl'];rfl);unfold abf at hl';unfold af3 at hst;cases ha:appArg (Op.call cl) with
  |none=>simp only[ha] at hl';cases hl'
  |some r=>obtain⟨a,s⟩:=r;obtain⟨t1,t2,e2⟩:=abe ha;simp only[ha] at hst;obtain⟨⟨bg,h1⟩,x,h2⟩:=hst;simp only[Op.call.injEq] at e2;subst e2;refine⟨by simp[bP],?_⟩;have uq:ev env (.tmp a) = .row (qh own a) bg:=h1;simp[vp,tD,ae9,isNil,uq,h2]
 cases c with
 |t=>exact h.elim
 |w=>exact h
 |s=>exact h
 |p =>
  obtain⟨pre,h1,_,_,h4⟩:=h;cases op<;>simp only[vv] at hl<;>try (cases hl;done)
  case call cl=>rw[(hcl cl rfl).2] at h1;cases h1
  case buildSlice =>
   exfalso;cases dst with
   |none=>cases hl
   |some k =>
    simp only at hl h4;split at hl
    ·rename_i hn;rw[hn] at h4;cases h4
    ·cases hl
  case makeSlice =>
   exfalso;cases dst with
   |none=>cases hl
   |some k =>
    simp only at hl h4;split at hl
    ·rename_i hn;rw[hn] at h4;cases h4
    ·cases hl
  all_goals simp[vp] at h1
 |b|q|o|f =>
  exfalso;have hq:=h.1;cases op<;>simp only[vv] at hl<;>try (cases hl;done)
  case call cl=>rw[(hcl cl rfl).1] at hq;cases hq
  all_goals(cases dst<;>simp[bP] at hq hl)<;>exact hq hl.1
theorem am1{ci cj:oV}{oi oj:Oper}{env:Env}{H H' Hj:au}{v v':AV}{d d':Nat}(hi:vv own ops oi=some d)(hj:vv own ops oj=some d')(hne:d≠d')(hsi:afn own ops oi env)(hsj:afn own ops oj env)
  (h1:jP P own ops ci oi env H v H') (h2:jP P own ops cj oj env H' v' Hj):∃G,jP P own ops .w oj env H v' G/\jP P own ops .w oi env G v Hj/\HSub (p0 own ops H) (p0 own ops G):=by
 obtain⟨pre,e1,hp⟩:=aej hi hsi h1;obtain⟨pre',e2,hp'⟩:=aej hj hsj h2;obtain⟨⟨φ,hφ⟩,n1⟩:=aeg (P:=P) hi hsi;obtain⟨⟨ψ,hψ⟩,n2⟩:=aeg (P:=P) hj hsj;rw[hφ] at e1;rw[hψ] at e2;cases a1:φ (H d) with
 |none=>rw[a1] at e1;cases e1
 |some r =>
  obtain⟨p1,v1,c1⟩:=r;rw[a1] at e1;simp only[cC,iF] at e1;obtain⟨rfl,rfl,rfl⟩:=e1;have a2:br H d c1 d'=H d':=by simp[br,Ne.symm hne]
  rw[a2] at e2;cases a3:ψ (H d') with
  |none=>rw[a3] at e2;cases e2
  |some r =>
   obtain⟨p2,v2,c2⟩:=r;rw[a3] at e2;simp only[cC,iF] at e2;obtain⟨rfl,rfl,rfl⟩:=e2;refine⟨br H d' c2,⟨p2,by rw[hψ,a3],hp'⟩,⟨p1,?_,hp⟩,by rw[ahh own ops H c2 n2];exact λ_ _ h=>h⟩;have a4:br H d' c2 d=H d:=by simp[br,hne]
   rw[hφ,a4,a1,lB H c1 c2 hne]
theorem aBf{c:oV}{o:Oper}{env:Env}{H H':au}{v:AV}{d:Nat}(hl:vv own ops o=some d)(hs:afn own ops o env)(h:jP P own ops c o env H v H'):p0 own ops H'=p0 own ops H:=by
 obtain⟨pre,e1,hp⟩:=aej hl hs h;obtain⟨⟨φ,hφ⟩,n1⟩:=aeg (P:=P) hl hs;rw[hφ] at e1;cases a1:φ (H d) with
 |none=>rw[a1] at e1;cases e1
 |some r=>obtain⟨p1,v1,c1⟩:=r;rw[a1] at e1;simp only[cC,iF] at e1;obtain⟨rfl,rfl,rfl⟩:=e1;exact ahh own ops H c1 n1
theorem atQ{cj:oV}{oi oj:Oper}{env:Env}{H H' Hj:au}{v v':AV}{d':Nat}(hj:vv own ops oj=some d')(hsj:afn own ops oj env)
  (h1:jP P own ops .f oi env H v H') (h2:jP P own ops cj oj env H' v' Hj):∃G,jP P own ops .w oj env H v' G/\jP P own ops .f oi env G v Hj:=by
 obtain⟨pre',e2,hp'⟩:=aej hj hsj h2;obtain⟨⟨ψ,hψ⟩,n2⟩:=aeg (P:=P) hj hsj;obtain⟨hq,k,eZ,ps,b,r,id,g1,g2,g3,g4,g5,rfl,rfl⟩:=h1;have hd:d'<id\/(cT id r).2<=d':=by
  rcases lt_or_ge d' id with h|h
  ·exact .inl h
  ·rcases lt_or_ge d' (cT id r).2 with h'|h'
   ·rw[(g5 d' h h').2] at n2;cases n2
   ·exact .inr h'
 rw[hψ,adA r id H d' hd] at e2;cases a3:ψ (H d') with
 |none=>rw[a3] at e2;cases e2
 |some q =>
  obtain⟨p2,v2,c2⟩:=q;rw[a3] at e2;simp only[cC,iF] at e2;obtain⟨rfl,rfl,rfl⟩:=e2;refine⟨br H d' c2,⟨p2,by rw[hψ,a3],hp'⟩,hq,k,eZ,ps,b,r,id,g1,by rw[ahh own ops H c2 n2];exact g2,g3,g4,λi hi1 hi2=>⟨?_,(g5 i hi1 hi2).2⟩,rfl,(amX r id H d' c2 hd).symm⟩;have hne:i≠d':=by omega
  simp only[br,if_neg hne];exact (g5 i hi1 hi2).1
theorem Head.aHw{o:Oper}{env:Env}{H G:au}{v:AV}(hs:HSub (uk H) (uk G))(h:Head P own ops .b o env H v H):Head P own ops .b o env G v G:=by
 rcases h with ⟨h1,h2,_⟩|⟨h1,hst,h2,_,pre,h3,h4⟩
 ·exact .inl ⟨h1,h2,rfl⟩
 ·exact .inr ⟨h1,hst,h2,rfl,pre,pZ hs h2 h3,h4⟩
theorem atS{anc:Nat->Nat->Bool}(hA:ahj ops anc=true){i:Nat}{oi:Oper}{c:oV}{v:AV}(hi:ops[i]? = some oi) :
  ∀ (fuel:Nat) (listed:Array Bool) (env:Env) (H H':au),sB ops listed ->
   (∀j oj,ops[j]? = some oj->j≠i->listed.getD j true=false->anc j i=false->ak9 own ops c oi oj=true/\tl j=false) ->
   i∈Region.ready .any ops listed->Head P own ops c oi env H v H'->(c≠.w->c≠.s->c≠.f->H'=H) ->
   amZ P own ops tl K fuel (listed.setIfInBounds i true) (cA env oi.dst v) H'->amZ P own ops tl K (fuel+1) listed env H:=by
 intro fuel
 induction fuel with
 |zero =>
  intro listed env H H' _ _ hr hy _ hk;refine⟨λh=>(by rw[h] at hr;cases hr),λj hj=>?_⟩;by_cases hji:j=i
  ·subst hji;exact hy.aOp hi hk
  ·have:=ready_mono hj hji;rw[hk.1] at this;cases this
 |succ fuel ih =>
  intro listed env H H' hcl hfree hr hy hqH hk;refine⟨λh=>(by rw[h] at hr;cases hr),λj hj=>?_⟩;by_cases hji:j=i
  ·subst hji;exact hy.aOp hi hk
  ·have h1:=hk.2 j (ready_mono hj hji);obtain⟨aBg,oj,hoj,hall⟩:=mem_ready.1 hj;have hnot:∀e∈oj.after,Region.binds .any e=true->e.on≠i:=λe he hb heq=>by
    have h1:=hall e he hb;have h0:=(mem_ready.1 hr).1;rw[heq] at h1;rcases lt_or_ge i listed.size with h'|h'
    ·simp[h'] at h0 h1;rw[h0] at h1;cases h1
    ·simp[Array.getElem?_eq_none h'] at h1
   obtain⟨hsw,htl⟩:=hfree j oj hoj hji aBg (ajC hA hcl hr hj);unfold ak9 at hsw;rw[and_eq_true] at hsw;obtain⟨a1,a2,a3⟩:=Oper.apart_spec hsw.1;have qR:∀k ok,ops[k]? = some ok->k≠i->(listed.setIfInBounds j true).getD k true=false->anc k i=false->ak9 own ops c oi ok=true/\tl k=false:=λk ok hk hki hun hno=>by
    refine hfree k ok hk hki ?_ hno;by_cases hjk:j=k
    ·subst hjk;exact aBg
    ·rw[getD_set_ne true hjk] at hun;exact hun
   have sC:=hcl.set hj;have hri:=ready_mono hr (Ne.symm hji);unfold b7.aOp at h1 ⊢;rw[hoj] at h1 ⊢;rw[Array.setIfInBounds_comm _ _ (Ne.symm hji)] at h1;rcases h1 with ⟨hg,hw⟩|⟨hg,⟨hso,c',v',Hj,hst,hw⟩|⟨aDU,_⟩⟩
   ·rw[adF a1] at hg;refine .inl ⟨hg,ih _ _ H H' sC qR hri (hy.put a3) hqH ?_⟩;rw[ajD a2] at hw;exact hw
   ·rw[adF a1] at hg;rw[ajE a1] at hst;rw[am0 a1] at hso;rw[ajD a2] at hw;cases c with
    |p =>
     have e1:H'=H:=hqH (by simp) (by simp) (by simp);subst e1;refine .inr ⟨hg,.inl ⟨hso,c',v',Hj,hst,ih _ _ Hj Hj sC qR hri ?_ (λ_ _ _=>rfl) hw⟩⟩;have hy':=hy.put (d:=oj.dst) (u:=v') a3;rcases hy' with ⟨k1,k2,_⟩|⟨k1,ko,pre,k2,k3,_,k4⟩
     ·exact .inl ⟨k1,k2,rfl⟩
     ·exact .inr ⟨k1,ko,pre,k2,k3,rfl,k4⟩
    |q =>
     have e1:H'=H:=hqH (by simp) (by simp) (by simp);subst e1;have hs2:HSub H' Hj:=by
      rcases (Eq.to_iff (or_eq_true _ _)).mp hsw.2 with h|h
      ·exact abh h hst
      ·exact afo h hst
     exact .inr ⟨hg,.inl ⟨hso,c',v',_,hst,ih _ _ _ _ sC qR hri ((hy.put a3).sub hs2) (λ_ _ _=>rfl) hw⟩⟩
    |b =>
     have e1:H'=H:=hqH (by simp) (by simp) (by simp);subst e1;have hs2:HSub (uk H') (uk Hj):=by
      rcases (Eq.to_iff (or_eq_true _ _)).mp hsw.2 with h|h
      ·rcases (Eq.to_iff (or_eq_true _ _)).mp h with h|h
       ·exact acn (abh h hst)
       ·exact acn (afo h hst)
      ·exact atP h hst
     exact .inr ⟨hg,.inl ⟨hso,c',v',_,hst,ih _ _ _ _ sC qR hri ((hy.put a3).aHw hs2) (λ_ _ _=>rfl) hw⟩⟩
    |w =>
     rcases (Eq.to_iff (or_eq_true _ _)).mp hsw.2 with hp|hl
     ·obtain⟨e2,hpure⟩:=adG hp hst;subst e2;exact .inr ⟨hg,.inl ⟨hso,.p,v',H,hpure H,ih _ _ H _ sC qR hri (hy.put a3) (λh=>absurd rfl h) hw⟩⟩
     ·split at hl
      ·rename_i d d' hd hd';have hne:d≠d':=by simpa using hl
       rcases hy with ⟨k1,k2,k3⟩|⟨k1,ko,k2⟩
       ·subst k3;exact .inr ⟨hg,.inl ⟨hso,c',v',Hj,hst,ih _ _ Hj Hj sC qR hri (Head.put a3 (.inl ⟨k1,k2,rfl⟩)) (λh=>absurd rfl h) hw⟩⟩
       ·obtain⟨G,m1,m2,_⟩:=am1 hd hd' hne ko hso k2 hst;exact .inr ⟨hg,.inl ⟨hso,.w,v',G,m1,ih _ _ G Hj sC qR hri (Head.put a3 (.inr ⟨k1,ko,m2⟩)) (λh=>absurd rfl h) hw⟩⟩
      ·cases hl
    |o =>
     have e1:H'=H:=hqH (by simp) (by simp) (by simp);subst e1;have hs2:HSub (p0 own ops H') (p0 own ops Hj):=by
      rcases (Eq.to_iff (or_eq_true _ _)).mp hsw.2 with h|h
      ·rcases (Eq.to_iff (or_eq_true _ _)).mp h with h|h
       ·exact ajB own ops (abh h hst)
       ·exact ajB own ops (afo h hst)
      ·obtain⟨d,hd⟩:=Option.isSome_iff_exists.1 h;rw[aBf hd hso hst];exact λ_ _ h=>h
     exact .inr ⟨hg,.inl ⟨hso,c',v',_,hst,ih _ _ _ _ sC qR hri ((hy.put a3).aHv hs2) (λ_ _ _=>rfl) hw⟩⟩
    |s =>
     rcases (Eq.to_iff (or_eq_true _ _)).mp hsw.2 with hp|hl
     ·obtain⟨e2,hpure⟩:=adG hp hst;subst e2;exact .inr ⟨hg,.inl ⟨hso,.p,v',H,hpure H,ih _ _ H _ sC qR hri (hy.put a3) (λ_ h=>absurd rfl h) hw⟩⟩
     ·split at hl
      ·rename_i d d' hd hd';have hne:d≠d':=by simpa using hl
       rcases hy with ⟨k1,k2,k3⟩|⟨k1,ko,k2⟩
       ·subst k3;exact .inr ⟨hg,.inl ⟨hso,c',v',Hj,hst,ih _ _ Hj Hj sC qR hri (Head.put a3 (.inl ⟨k1,k2,rfl⟩)) (λ_ h=>absurd rfl h) hw⟩⟩
       ·obtain⟨G,m1,m2s,_⟩:=am1 hd hd' hne ko hso k2 hst;exact .inr ⟨hg,.inl ⟨hso,.w,v',G,m1,ih _ _ G Hj sC qR hri (Head.put a3 (.inr ⟨k1,ko,m2s⟩)) (λ_ h=>absurd rfl h) hw⟩⟩
      ·cases hl
    |f =>
     rcases (Eq.to_iff (or_eq_true _ _)).mp hsw.2 with hp|hl
     ·obtain⟨e2,hpure⟩:=adG hp hst;subst e2;exact .inr ⟨hg,.inl ⟨hso,.p,v',H,hpure H,ih _ _ H _ sC qR hri (hy.put a3) (λ_ _ h=>absurd rfl h) hw⟩⟩
     ·obtain⟨d',hd'⟩:=Option.isSome_iff_exists.1 hl;rcases hy with ⟨k1,k2,k3⟩|⟨k1,ko,k2⟩
      ·subst k3;exact .inr ⟨hg,.inl ⟨hso,c',v',Hj,hst,ih _ _ Hj Hj sC qR hri (Head.put a3 (.inl ⟨k1,k2,rfl⟩)) (λ_ _ h=>absurd rfl h) hw⟩⟩
      ·obtain⟨G,m1,m2⟩:=atQ hd' hso k2 hst;exact .inr ⟨hg,.inl ⟨hso,.w,v',G,m1,ih _ _ G Hj sC qR hri (Head.put a3 (.inr ⟨k1,ko,m2⟩)) (λ_ _ h=>absurd rfl h) hw⟩⟩
    |t=>cases hsw.2
   ·rw[htl] at aDU;cases aDU
theorem axH{anc:Nat->Nat->Bool}(hA:ahj ops anc=true){i:Nat}{oi:Oper}(hi:ops[i]? = some oi){fuel:Nat}{listed:Array Bool}{env:Env}{H:au}(hcl:sB ops listed)(htl:tl i=true)
  (hall:∀j oj,ops[j]? = some oj->j≠i->listed.getD j true=false->anc j i=true) (hr:i∈Region.ready .any ops listed) (hw:ar0 P own ops oi (amZ P own ops tl K fuel (listed.setIfInBounds i true)) env H) :
  amZ P own ops tl K (fuel+1) listed env H:=by
 refine⟨λh=>(by rw[h] at hr;cases hr),λj hj=>?_⟩;by_cases hji:j=i
 ·subst hji;unfold b7.aOp;rw[hi];rcases hw with h|⟨h1,h2⟩
  ·exact .inl h
  ·exact .inr ⟨h1,.inr ⟨htl,h2⟩⟩
 ·obtain⟨aBg,oj,hoj,_⟩:=mem_ready.1 hj;have h1:=hall j oj hoj hji aBg;rw[ajC hA hcl hr hj] at h1;cases h1
def isT:oV->Bool
 | .t=>true
 |_=>false
def aHx(l:List (Nat×oV))(i:Nat):Bool:=l.any λx=>x.1 == i&&isT x.2
def abi(own:List Nat)(ops:Array Oper)(anc:Nat->Nat->Bool)(tl:Nat->Bool):List (Nat×oV)->Array Bool->Bool
 | [],listed=>(Region.ready .any ops listed).isEmpty
 | (i, c) :: rest, listed => (Region.ready .any ops listed).contains i && (match ops[i]? with
   |some oi=>(!isT c||tl i)&&(range ops.size).all λj=>j == i||listed.getD j true||anc j i||(match ops[j]? with
    |some oj=>!isT c&&ak9 own ops c oi oj && !tl j
    |none=>true)
   |none=>false)&&abi own ops anc tl rest (listed.setIfInBounds i true)
def am2(P:Program)(N:Nat)(own:List Nat)(ops:Array Oper):List (Oper×oV)->(Env->au->Prop)->Env->au->Prop
 | [],K,env,H=>K env H
 | (o, c) :: rest, K, env, H => vt N o.dst ∧ ((isT c = true ∧ ar0 P own ops o (am2 P N own ops rest K) env H) ∨
   (isT c=false/\∃v H',Head P own ops c o env H v H'/\(match c with | .w=>True | .s=>True | .f=>True|_=>H'=H)/\am2 P N own ops rest K (cA env o.dst v) H'))
theorem apM{o:Oper}{W W':Env->au->Prop}{env:Env}{H:au}(h:∀e G,W e G->W' e G)(hh:ar0 P own ops o W env H):ar0 P own ops o W' env H:=hh.imp (λx=>⟨x.1,h _ _ x.2⟩) λx=>⟨x.1,amY h x.2⟩
theorem zf{anc:Nat->Nat->Bool}(hA:ahj ops anc=true):∀ (l:List (Nat×oV)) (os:List (Oper×oV)) (listed:Array Bool) (env:Env) (H:au),sB ops listed ->
  os.map (·.1)=l.filterMap (λx=>ops[x.1]?)->os.map (·.2)=l.map (·.2)->abi own ops anc tl l listed=true->am2 P N own ops os K env H->amZ P own ops tl K l.length listed env H
 | [],os,listed,env,H,_,h1,h2,h3,hw=>by
  have:os=[]:=by simpa using h2
  subst this;exact⟨by simpa[abi] using h3,hw⟩
 |(i,c) :: l,[],listed,env,H,_,h1,h2,h3,hw=>by simp at h2
 |(i,c) :: l,(o,c') :: os,listed,env,H,hcl,h1,h2,h3,hw=>by
  simp only[abi,and_eq_true] at h3;obtain⟨⟨hr,hs⟩,ac6⟩:=h3;cases hi:ops[i]? with
  |none=>rw[hi] at hs;cases hs
  |some oi =>
   rw[hi] at hs;simp only[map_cons,filterMap_cons,hi,List.cons.injEq] at h1 h2;obtain⟨e1,h1⟩:=h1;obtain⟨e2,h2⟩:=h2;subst e1 e2;simp only[and_eq_true] at hs;obtain⟨ht,hs⟩:=hs;have ala:i∈Region.ready .any ops listed:=by simpa using hr
   obtain⟨_,⟨hc,hw⟩|⟨hc,v,H',hy,hq,hw⟩⟩:=hw
   ·refine axH hA hi hcl (by rw[hc] at ht;simpa using ht) (λj oj hoj hji hun=>?_) ala (apM (λe G hw=>zf hA l os _ e G (hcl.set ala) h1 h2 ac6 hw) hw);have hjl:j<ops.size:=(Array.getElem?_eq_some_iff.1 hoj).1;have:=all_eq_true.1 hs j (mem_range.2 hjl);simp only[hun,hoj,hc,or_eq_true,beq_iff_eq,Bool.or_false,Bool.not_true,Bool.false_and] at this;rcases this with h|h
    ·exact absurd h hji
    ·exact h
   ·refine atS hA hi l.length listed env H H' hcl (λj oj hoj hji hun hno=>?_) ala hy (λhne aHy aHz=>by cases c'<;>first|exact hq|exact absurd rfl hne|exact absurd rfl aHy|exact absurd rfl aHz)
     (zf hA l os _ _ H' (hcl.set ala) h1 h2 ac6 hw)
    have hjl:j<ops.size:=(Array.getElem?_eq_some_iff.1 hoj).1;have:=all_eq_true.1 hs j (mem_range.2 hjl);simp only[hun,hno,hoj,hc,or_eq_true,beq_iff_eq,Bool.or_false,Bool.not_false,Bool.true_and,and_eq_true,Bool.not_eq_true'] at this;rcases this with h|h
    ·exact absurd h hji
    ·exact h
def masks(ops:Array Oper):List Nat:=(Region.before ops).toList
def aDV(m:List Nat)(j i:Nat):Bool:=(m.getD j 0).testBit i
def ahl(own:List Nat)(ops:Array Oper)(m:List Nat)(l:List (Nat×oV)):Bool:=ahj ops (aDV m)&&abi own ops (aDV m) (aHx l) l (Array.replicate ops.size false)&&l.length == ops.size&&ops.toList.all λo=>match o.dst with|some _=>true|none=>true
theorem ajF{env:Env}{H:au}(m:List Nat)(l:List (Nat×oV))(os:List (Oper×oV))(hok:ahl own ops m l=true)(h1:os.map (·.1)=l.filterMap (λx=>ops[x.1]?))(h2:os.map (·.2)=l.map (·.2))
  (hd:∀ (i:Nat) o,ops[i]? = some o->vt N o.dst) (hw:am2 P N own ops os K env H):wR P N own ops K env H:=by
 unfold ahl at hok;simp only[and_eq_true,beq_iff_eq] at hok;obtain⟨⟨⟨hA,hD⟩,hlen⟩,_⟩:=hok;intro C I L tm w hN hs;have hcl:sB ops (Array.replicate ops.size false):=⟨by simp,λj o hj hl=>by
  rcases lt_or_ge j ops.size with h|h
  ·simp[h] at hl
  ·simp[h] at hl⟩
 have ahm:=zf (N:=N) hA l os _ env H hcl h1 h2 hD hw;rw[hlen] at ahm;have hs':gK C env H I L tm { w with drawn:=w.drawn+1 }:=(Fr.drew C I L H w) env tm hs;exact sA (by rw[hN];exact hd) (λenv' H' I' L' tm' w' hk aC0=>⟨rfl,rfl,env',H',I',L',hk,aC0⟩) ops.size _ env H I L tm _ ahm hs'
end Go.b7
