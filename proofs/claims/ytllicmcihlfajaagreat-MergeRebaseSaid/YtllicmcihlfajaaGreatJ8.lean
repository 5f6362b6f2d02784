/- Joined texts, part 8: lemmas for the statement. No condition. -/
import Derived.Test.YtllicmcihlfajaaGreatJ7
set_option maxHeartbeats 4000000
set_option linter.unusedSimpArgs false
set_option linter.unusedVariables false
open Nat (reduceEqDiff reduceLT reduceLeDiff reduceMul reduceAdd reduceSub)
namespace Go.Proofs.YtllicmcihlfajaaGreat
open Go.cE
theorem aho {σ O:Type} {f:Nat->σ->(σ->Option O)->(σ->Option O)->Option O} {K:σ->Option O} {bad:Option O} (n:Nat) (ok:Nat->Bool) (step:σ->Nat->σ) (inv:Nat->σ->Prop)
  (h:∀i s,i<n->inv i s->(ok i=true->inv (i+1) (step s i))/\∀cv,f i s cv K=cond (ok i) (cv (step s i)) bad):∀ (k i:Nat) (s:σ),i+k=n->inv i s ->
  bP f k i s K=cond ((List.range' i k).all ok) (K ((List.range' i k).foldl step s)) bad
 | 0,i,s,_,_=>rfl
 | k+1,i,s,hk,hi=>by
  obtain⟨h1,h2⟩:=h i s (by omega) hi; rw[bP,h2,List.range'_succ,List.all_cons,List.foldl_cons]; cases ho:ok i with
  | false=>rfl
  | true=>rw[Bool.true_and,cond_true]; exact aho n ok step inv h k (i+1) _ (by omega) (h1 ho)
theorem zg {σ O:Type} {f:Nat->σ->(σ->Option O)->(σ->Option O)->Option O} {K:σ->Option O} {bad:Option O} {s:σ} (n:Nat) (ok:Nat->Bool) (step:σ->Nat->σ) (inv:Nat->σ->Prop) (h0:inv 0 s)
  (h:∀i s,i<n->inv i s->(ok i=true->inv (i+1) (step s i))/\∀cv,f i s cv K=cond (ok i) (cv (step s i)) bad) :
  bP f (n - 0) 0 s K=cond ((List.range n).all ok) (K ((List.range n).foldl step s)) bad:=by
 rw[aho n ok step inv h (n - 0) 0 s (by omega) h0,Nat.sub_zero,List.range_eq_range']
theorem ahp {α β γ:Type} (b:α->Bool) (f:α->β) (g:α->List γ):∀ (l:List α) (s:List β×List γ),l.foldl (λs a=>if b a=true then (s.1++[f a],s.2) else (s.1,s.2++g a)) s=(s.1++(l.filter b).map f,s.2++(l.filter λa=>!b a).flatMap g)
 | [],s=>by simp
 | a :: r,s=>by rw[List.foldl_cons,ahp b f g r,List.filter_cons,List.filter_cons]; cases h:b a<;>simp
theorem apw {α β:Type} (b:α->Bool) (f:α->β):∀ (l:List α) (s:List β),l.foldl (λs a=>if b a=true then s++[f a] else s) s=s++(l.filter b).map f
 | [],s=>by simp
 | a :: r,s=>by rw[List.foldl_cons,apw b f r,List.filter_cons]; cases h:b a<;>simp
theorem alA {α β:Type} (q:β->Bool) (f:α->β) (l:List α):wD q (l.map f)=wD (λa=>q (f a)) l:=by unfold wD; rw[List.findIdx?_map]; rfl
theorem azH {α:Type} {q:α->Bool} {l:List α} (h:0<=wD q l):(wD q l).toNat<l.length:=by
 unfold wD at *; cases hf:l.findIdx? q with
 | none=>rw[hf] at h; exact absurd h (by decide)
 | some i=>obtain⟨hi,_⟩:=List.findIdx?_eq_some_iff_getElem.1 hf; simpa using hi
def qQ (ids:List Int) (n:Int):Bool:=decide (cr ids n<0)
def adD (a b:az):List aj:=((List.range a.nodes.length).filter λi=>qQ b.nodes (bI a i).id).map (bI a)
def ahq (a b:az):List ak:=((List.range a.au.length).filter λi=>qQ b.au (eR a i).id).map (eR a)
def okN (a b:az) (i:Nat):Bool:=!decide (0<=cr b.au (bI a i).id)&&(!decide (0<=cr b.nodes (bI a i).id)||decide ((bI b (cr b.nodes (bI a i).id).toNat).type=(bI a i).type))
def okD (a b:az) (i:Nat):Bool:=!decide (0<=cr b.nodes (eR a i).id)&&(!decide (0<=cr b.au (eR a i).id)||rB (eR b (cr b.au (eR a i).id).toNat) (eR a i))
def agh (id:Int) (l m:List Int) (k:Nat):List aO:=if l.getD k default=m.getD k default then [] else [⟨id,(k:Int),l.getD k default,m.getD k default⟩]
def aoD (a b:az) (i:Nat):List aO:=(List.range (bI a i).values.length).flatMap (agh (bI a i).id (bI a i).values (bI b (cr b.nodes (bI a i).id).toNat).values)
def apx (a b:az):List aO:=((List.range a.nodes.length).filter λi=>!qQ b.nodes (bI a i).id).flatMap (aoD a b)
def tR:aG:=⟨[],[],[],[],[],⟨0,0⟩⟩
def wQ (a b:az):Bool:=(List.range a.nodes.length).all (okN a b)&&(List.range a.au.length).all (okD a b)
def aam (a b:az):aG×Bool:=if wQ a b=true then (⟨adD a b,ahq a b,adD b a,ahq b a,apx a b,⟨a.next,b.next⟩⟩,true) else (tR,false)
def afF (t:Types) (a b:az):aG×Int :=
 if kK t a≠0 then (tR,kK t a)
 else if kK t b≠0 then (tR,kK t b)
 else if wQ a b=true then ((aam a b).1,0) else (tR,11)
section
variable {t:Types} {a b:az}
theorem xD (h:jo t a) (hv:∀l∈a.host.values,l.length<=1000000):kr a=some (bZ a):=by
 have hn:=h.n40; unfold kr; rw[br (bk (by omega)),jD a.nodes.length (λi=>[bI a i]) 1 (λ_ _=>Nat.le_refl _) λi hi s hs cv=>by
  have h1:i<a.host.graph.nodes.length:=by rw[<-h.vH]; exact hi
  have h2:i<a.host.values.length:=by rw[h.host.aol]; exact h1
  have h3:=hv _ (List.getElem_mem h2); rw[List.length_nil] at hs; rw[bL hi,bL h1,bL h2,aT (adx h3),br (by omega)]; unfold bI; simp[hi,h1,h2]]
 rw[List.nil_append,uG]; rfl
theorem afG (hb:b.nodes.length<=1000000) (n:Int):iY (bZ b) n=some (cr b.nodes n):=by unfold iY; rw[aT (mI (p:=λx=>jX x n) (λx=>decide (x.id=n)) (by rw[kL]; exact hb) λx _=>rfl),<-alA (λy=>decide (y=n)) aj.id,aaX]; rfl
theorem afH (hb:b.au.length<=1000000) (n:Int):iZ (fu b) n=some (cr b.au n):=by unfold iZ; rw[aT (mJ (p:=λx=>jY x n) (λx=>decide (x.id=n)) (by rw[jZ]; exact hb) λx _=>rfl),<-alA (λy=>decide (y=n)) ak.id,aaY]; rfl
theorem vM {ids:List Int} {n:Int} (h:0<=cr ids n):(cr ids n).toNat<ids.length:=azH h
theorem aa2 (a:az) {i:Nat} (h:i<(bZ a).length):(bZ a)[i]=bI a i:=by simp[bZ]
theorem aa3 (a:az) {i:Nat} (h:i<(fu a).length):(fu a)[i]=eR a i:=by simp[fu]
theorem alB (ha:jo t a) (hb:jo t b) {i j:Nat} (hi:i<a.nodes.length) (hj:j<b.nodes.length) (he:(bI b j).type=(bI a i).type):(bI b j).values.length=(bI a i).values.length:=by
 have key:∀ {x:az},jo t x->∀ {k:Nat},k<x.nodes.length->(bI x k).values.length=(bp t (bI x k).type.toNat).length:=λ{x} hx {k} hk=>by
  have:=hx.host.node k (by rw[<-hx.vH]; exact hk); unfold oA at this; split at this
  ·cases this
  ·split at this
   ·cases this
   ·split at this
    ·cases this
    ·rename_i h; exact Decidable.of_not_not h
 rw[key ha hi,key hb hj,he]
theorem afI (h:jo t a) (hb:tU a.host) {i:Nat} (hi:i<a.nodes.length):(bI a i).values.length<=1000:=o9 h hb _ (List.mem_map.2 ⟨i,List.mem_range.2 hi,rfl⟩)
theorem alC (id:Int) (l m:List Int) (k:Nat):(agh id l m k).length<=1:=by unfold agh; split<;>simp
theorem afJ (h:jo t a) (hb:tU a.host) {i:Nat} (hi:i<a.nodes.length):(aoD a b i).length<=1000:=by
 have:=afI h hb hi; unfold aoD; have key:∀l:List Nat,(l.flatMap (agh (bI a i).id (bI a i).values (bI b (cr b.nodes (bI a i).id).toNat).values)).length<=l.length:=λl=>by
  induction l with
  | nil=>simp
  | cons x r ih=>have h1:=alC (bI a i).id (bI a i).values (bI b (cr b.nodes (bI a i).id).toNat).values x; rw[List.flatMap_cons,List.length_append,List.length_cons]; omega
 have:=key (List.range (bI a i).values.length); rw[List.length_range] at this; omega
def apy (a b:az) (s:List aj×List aO) (i:Nat):List aj×List aO:=if qQ b.nodes (bI a i).id=true then (s.1++[bI a i],s.2) else (s.1,s.2++aoD a b i)
theorem axM (ha:jo t a) (hb:jo t b) (ba:jJ a) (bb:jJ b):lI a b=some (aam a b):=by
 have n1:=ha.n40; have n2:=ha.e80; have n3:=hb.n40; have n4:=hb.e80; have r1:∀l∈a.host.values,l.length<=1000000:=λl hl=>Nat.le_trans (ba.host.row l hl) (by decide)
 have r2:∀l∈b.host.values,l.length<=1000000:=λl hl=>Nat.le_trans (bb.host.row l hl) (by decide)
 unfold lI; rw[aT (xD ha r1),aT (rX ha),aT (xD hb r2),aT (rX hb)]; rw[kL,br (bk (by omega))]; rw[zg (bad:=some (tR,false)) a.nodes.length (okN a b) (apy a b) (λi s=>s.1.length<=i/\s.2.length<=1000 * i) ⟨Nat.le_refl _,Nat.le_refl _⟩ λi s hi hs=>by
  have hv:=afJ (b:=b) ha ba.host hi; have hrow:=afI ha ba.host hi; refine⟨λ_=>?_,λcv=>?_⟩
  ·unfold apy; split
   ·exact⟨by simp only[List.length_append,List.length_cons,List.length_nil]; omega,by simp only; omega⟩
   ·exact⟨by simp only; omega,by simp only[List.length_append]; omega⟩
  ·have hi':i<(bZ a).length:=by rw[kL]; exact hi
   rw[bL hi',aa2 a hi',aT (afG (by omega) _),aT (afH (by omega) _)]
   have inner : ∀ m : List Int, m.length = (bI a i).values.length → ∀ f : Nat → List aO → (List aO → Option (aG × Bool)) → (List aO → Option (aG × Bool)) → Option (aG × Bool),
     (∀k s' vL brk,(hk:k<(bI a i).values.length)->(hk2:k<m.length)->s'.length<=1000000->f k s' vL brk=cond (decide ((bI a i).values[k]=m[k])) (vL s') (vL (s'++[⟨(bI a i).id,(k:Int),(bI a i).values[k],m[k]⟩]))) ->
     cU ((bI a i).values.length<=fuel) (bP f ((bI a i).values.length - 0) 0 s.2 λaDi=>cv (s.1,aDi))=cv (s.1,s.2++(List.range (bI a i).values.length).flatMap (agh (bI a i).id (bI a i).values m)):=λm hm f hf=>by
    rw[br (bk (by omega)),jD (bI a i).values.length (agh (bI a i).id (bI a i).values m) 1 (λk _=>alC _ _ _ k) λk hk s' hs' vL=>by
     rw[hf k s' vL _ hk (by omega) (by omega),aW]; have e1:(bI a i).values.getD k default=(bI a i).values[k]:=by simp[hk]
     have e2:m.getD k default=m[k]'(by omega):=by simp[show k<m.length by omega]
     unfold agh; rw[e1,e2]; split
     ·rw[List.append_nil]
     ·rfl]
   unfold okN apy qQ; by_cases c1:0<=cr b.au (bI a i).id
   ·rw[decide_eq_true c1,cond_true]; rfl
   rw[decide_eq_false c1,cond_false,Bool.not_false,Bool.true_and]; by_cases c2:0<=cr b.nodes (bI a i).id
   ·have c3:¬ cr b.nodes (bI a i).id<0:=by omega
    have hj:=vM c2; have hj':(cr b.nodes (bI a i).id).toNat<(bZ b).length:=by rw[kL]; exact hj
    rw[decide_eq_true c2,cond_true,fQ c2 hj',aa2 b hj',Bool.not_true,Bool.false_or]; by_cases c4:(bI b (cr b.nodes (bI a i).id).toNat).type=(bI a i).type
    ·rw[decide_eq_true c4,cond_true,cond_true,decide_eq_false c3,cond_false,if_neg (by decide)]; have hl:=alB ha hb hi hj c4; rw[inner _ hl _ λk s' vL brk hk hk2 hs'=>by rw[bL hk,bL hk2,br (by omega)]]; rfl
    ·rw[decide_eq_false c4,cond_false,cond_false]; rfl
   ·have c3:cr b.nodes (bI a i).id<0:=by omega
    rw[decide_eq_false c2,cond_false,Bool.not_false,Bool.true_or,cond_true,decide_eq_true c3,cond_true,if_pos rfl,br (by omega)]]
 cases hN:(List.range a.nodes.length).all (okN a b) with
 | false=>unfold aam wQ; rw[hN,cond_false]; rfl
 | true =>
 rw[cond_true]; have aoH:(List.range a.nodes.length).foldl (apy a b) ([],[])=(adD a b,apx a b):=by have:=ahp (λi=>qQ b.nodes (bI a i).id) (bI a) (aoD a b) (List.range a.nodes.length) ([],[]); rw[List.nil_append,List.nil_append] at this; exact this
 rw[aoH,jZ,br (bk (by omega))]; rw[zg (bad:=some (tR,false)) a.au.length (okD a b) (λs i=>if qQ b.au (eR a i).id=true then s++[eR a i] else s) (λi s=>s.length<=i) (Nat.le_refl _) λi s hi hs=>by
  refine⟨λ_=>?_,λcv=>?_⟩
  ·split
   ·rw[List.length_append,List.length_singleton]; omega
   ·omega
  ·have hi':i<(fu a).length:=by rw[jZ]; exact hi
   rw[bL hi',aa3 a hi',aT (afH (by omega) _),aT (afG (by omega) _)]; unfold okD qQ; by_cases c1:0<=cr b.nodes (eR a i).id
   ·rw[decide_eq_true c1,cond_true]; rfl
   rw[decide_eq_false c1,cond_false,Bool.not_false,Bool.true_and]; by_cases c2:0<=cr b.au (eR a i).id
   ·have c3:¬ cr b.au (eR a i).id<0:=by omega
    have hj:=vM c2; have hj':(cr b.au (eR a i).id).toNat<(fu b).length:=by rw[jZ]; exact hj
    rw[decide_eq_true c2,cond_true,fQ c2 hj',aa3 b hj',Bool.not_true,Bool.false_or,decide_eq_false c3,cond_false,if_neg (by decide)]; rfl
   ·have c3:cr b.au (eR a i).id<0:=by omega
    rw[decide_eq_false c2,cond_false,Bool.not_false,Bool.true_or,cond_true,decide_eq_true c3,cond_true,if_pos rfl,br (by omega)]]
 cases hE:(List.range a.au.length).all (okD a b) with
 | false=>unfold aam wQ; rw[hE,cond_false,Bool.and_false]; rfl
 | true =>
 rw[cond_true,kL,br (bk (by omega)),apw (λi=>qQ b.au (eR a i).id) (eR a)]
 have aDj : ∀ (f : Nat → List aj → (List aj → Option (aG × Bool)) → (List aj → Option (aG × Bool)) → Option (aG × Bool)) (K : List aj → Option (aG × Bool)),
   (∀k s' vL,(hk:k<(bZ b).length)->s'.length<=1000000->f k s' vL K=cond (qQ a.nodes (bI b k).id) (vL (s'++[bI b k])) (vL s'))->bP f (b.nodes.length - 0) 0 [] K=K (adD b a):=λf K hf=>by
  rw[jD b.nodes.length (λi=>if qQ a.nodes (bI b i).id=true then [bI b i] else []) 1 (λi _=>by split<;>simp) λi hi s' hs' cv=>by
   rw[List.length_nil] at hs'; rw[hf i s' cv (by rw[kL]; exact hi) (by omega)]; cases qQ a.nodes (bI b i).id
   ·simp
   ·simp]
  rw[List.nil_append,jK]; rfl
 rw[aDj _ _ λk s' vL hk hs'=>by rw[bL hk,aa2 b hk,aT (afG (by omega) _),br (by omega)]; rfl]
 have aBd : ∀ (f : Nat → List ak → (List ak → Option (aG × Bool)) → (List ak → Option (aG × Bool)) → Option (aG × Bool)) (K : List ak → Option (aG × Bool)),
   (∀k s' vL,(hk:k<(fu b).length)->s'.length<=1000000->f k s' vL K=cond (qQ a.au (eR b k).id) (vL (s'++[eR b k])) (vL s'))->bP f (b.au.length - 0) 0 [] K=K (ahq b a):=λf K hf=>by
  rw[jD b.au.length (λi=>if qQ a.au (eR b i).id=true then [eR b i] else []) 1 (λi _=>by split<;>simp) λi hi s' hs' cv=>by
   rw[List.length_nil] at hs'; rw[hf i s' cv (by rw[jZ]; exact hi) (by omega)]; cases qQ a.au (eR b i).id
   ·simp
   ·simp]
  rw[List.nil_append,jK]; rfl
 rw[jZ,br (bk (by omega)),aBd _ _ λk s' vL hk hs'=>by rw[bL hk,aa3 b hk,aT (afH (by omega) _),br (by omega)]; rfl]; unfold aam wQ; rw[hN,hE]; rfl
theorem afK (ht:ga t) (ba:jJ a) (bb:jJ b):lJ t a b=some (afF t a b):=by
 unfold lJ afF; rw[aT (show fh t a=_ from mK ht ba),aW]; by_cases h1:kK t a=0; rotate_left
 ·rw[if_neg h1,if_pos h1]; rfl
 rw[if_pos h1,if_neg (λh=>h h1),aT (show fh t b=_ from mK ht bb),aW]; by_cases h2:kK t b=0; rotate_left
 ·rw[if_neg h2,if_pos h2]; rfl
 rw[if_pos h2,if_neg (λh=>h h2),aT (axM (ef.1 h1) (ef.1 h2) ba bb)]; unfold aam; split
 ·rfl
 ·rfl
end
end Go.Proofs.YtllicmcihlfajaaGreat
namespace Go.Proofs.YtllicmcihlfajaaGreat
open Go.cE
section
variable {t:Types} {a b:az}
theorem aiS {a:az} {i:Nat} (h:i<a.nodes.length):(bI a i).id=a.nodes[i]:=by unfold bI; simp[h]
theorem apz {a:az} {i:Nat} (h:i<a.au.length):(eR a i).id=a.au[i]:=by unfold eR; simp[h]
theorem ahr (ha:jo t a) (hb:jo t b) (ba:jJ a):eY a b=some (adD a b,ahq a b):=by
 have n1:=ha.n40; have n2:=ha.e80; have n3:=hb.n40; have n4:=hb.e80; have r1:∀l∈a.host.values,l.length<=1000000:=λl hl=>Nat.le_trans (ba.host.row l hl) (by decide)
 unfold eY; rw[br (bk (by omega)),jD a.nodes.length (λi=>if qQ b.nodes (bI a i).id=true then [bI a i] else []) 1 (λi _=>by split<;>simp) λi hi s hs cv=>by
  rw[List.length_nil] at hs; rw[bL hi,aT (cN (by omega) _),aT (axc ha hi r1),br (by omega),<-aiS hi]; show cond (qQ b.nodes (bI a i).id) _ _=_; cases qQ b.nodes (bI a i).id
  ·simp
  ·simp]
 rw[List.nil_append,jK,br (bk (by omega)),jD a.au.length (λi=>if qQ b.au (eR a i).id=true then [eR a i] else []) 1 (λi _=>by split<;>simp) λi hi s hs cv=>by
  rw[List.length_nil] at hs; rw[bL hi,aT (cN (by omega) _),aT (aiL ha hi),br (by omega),<-apz hi]; show cond (qQ b.au (eR a i).id) _ _=_; cases qQ b.au (eR a i).id
  ·simp
  ·simp]
 rw[List.nil_append,jK]; rfl
theorem azI (ha:jo t a) (hb:jo t b):iq a b=some (wQ a b):=by
 have n1:=ha.n40; have n2:=ha.e80; have n3:=hb.n40; have n4:=hb.e80; unfold iq wQ; rw[br (bk (by omega)),zg (bad:=some false) a.nodes.length (okN a b) (λs _=>s) (λ_ _=>True) trivial λi s hi hs=>⟨λ_=>trivial,λcv=>by
  have h1:i<a.host.graph.nodes.length:=by rw[<-ha.vH]; exact hi
  rw[bL hi,aT (cN (by omega) _),aT (cN (by omega) _),<-aiS hi]; show cond (decide (0<=cr b.au (bI a i).id)) _ (cond (decide (0<=cr b.nodes (bI a i).id)) (thn a.host.graph.nodes[i]? λaHa=>thn (oI b.host.graph.nodes (cr b.nodes (bI a i).id)) _) _)=_; unfold okN; by_cases c1:0<=cr b.au (bI a i).id
  ·rw[decide_eq_true c1,cond_true]; rfl
  rw[decide_eq_false c1,cond_false,Bool.not_false,Bool.true_and]; by_cases c2:0<=cr b.nodes (bI a i).id
  ·have hj:=vM c2; have hj':(cr b.nodes (bI a i).id).toNat<b.host.graph.nodes.length:=by rw[<-hb.vH]; exact hj
   rw[decide_eq_true c2,cond_true,bL h1,fQ c2 hj',Bool.not_true,Bool.false_or]; have e1:(bI a i).type=a.host.graph.nodes[i]:=by unfold bI; simp[h1]
   have e2:(bI b (cr b.nodes (bI a i).id).toNat).type=b.host.graph.nodes[(cr b.nodes (bI a i).id).toNat]:=by show b.host.graph.nodes.getD _ default=_; simp[hj']
   rw[e1,e2]; by_cases c4:a.host.graph.nodes[i]=b.host.graph.nodes[(cr b.nodes (bI a i).id).toNat]
   ·rw[decide_eq_true c4,decide_eq_true c4.symm]
   ·rw[decide_eq_false c4,decide_eq_false λh=>c4 h.symm]
  ·rw[decide_eq_false c2,cond_false,Bool.not_false,Bool.true_or,cond_true]⟩]
 cases hN:(List.range a.nodes.length).all (okN a b) with
 | false=>rfl
 | true =>
 rw[cond_true,br (bk (by omega)),zg (bad:=some false) a.au.length (okD a b) (λs _=>s) (λ_ _=>True) trivial λi s hi hs=>⟨λ_=>trivial,λcv=>by
  rw[bL hi,aT (cN (by omega) _),aT (cN (by omega) _),<-apz hi]; show cond (decide (0<=cr b.nodes (eR a i).id)) _ (cond (decide (0<=cr b.au (eR a i).id)) (thn (cZ a i) λaHb=>thn (cZ b (cr b.au (eR a i).id)) _) _)=_; unfold okD; by_cases c1:0<=cr b.nodes (eR a i).id
  ·rw[decide_eq_true c1,cond_true]; rfl
  rw[decide_eq_false c1,cond_false,Bool.not_false,Bool.true_and]; by_cases c2:0<=cr b.au (eR a i).id
  ·have hj:=vM c2; have az8:=aiL hb hj; rw[show (((cr b.au (eR a i).id).toNat:Nat):Int)=cr b.au (eR a i).id by omega] at az8; rw[decide_eq_true c2,cond_true,aT (aiL ha hi),aT az8,Bool.not_true,Bool.false_or]; have:(decide ((eR a i).id=(eR b (cr b.au (eR a i).id).toNat).id)&&(decide ((eR a i).type=(eR b (cr b.au (eR a i).id).toNat).type)&&(decide ((eR a i).src=(eR b (cr b.au (eR a i).id).toNat).src)&&decide ((eR a i).dst=(eR b (cr b.au (eR a i).id).toNat).dst))))=rB (eR b (cr b.au (eR a i).id).toNat) (eR a i):=by unfold rB; simp only[eq_comm]
   rw[this]
  ·rw[decide_eq_false c2,cond_false,Bool.not_false,Bool.true_or,cond_true]⟩]
 cases (List.range a.au.length).all (okD a b)<;>rfl
theorem adf {O:Type} (id:Int) (l m:List Int) (hm:m.length=l.length) (hl:l.length<=1000000) {f:Int×List aO->(Int×List aO->Option O)->(Int×List aO->Option O)->Option O} {K:Int×List aO->Option O}
  (h:∀k s cv,(hk:k<l.length)->(hk2:k<m.length)->s.length<=2000000->f ((k:Int),s) cv K=cond (decide (l[k]=m[k])) (cv (IntKind.i64.wrap ((k:Int)+1),s)) (cv (IntKind.i64.wrap ((k:Int)+1),s++[⟨id,(k:Int),l[k],m[k]⟩]))) (he:∀s cv,f ((l.length:Int),s) cv K=K ((l.length:Int),s)) :
  ∀ (d k:Nat) (s:List aO) (n:Nat),k+d=l.length->d<n->s.length<=1000000+k->iter f n ((k:Int),s) K=K ((l.length:Int),s++(List.range' k d).flatMap (agh id l m))
 | 0,k,s,n,hd,hn,hs=>by
  obtain⟨n,rfl⟩:∃j,n=j+1:=⟨n - 1,by omega⟩; rw[iter]; obtain rfl:k=l.length:=by omega
  rw[he]; simp
 | d+1,k,s,n,hd,hn,hs=>by
  obtain⟨n,rfl⟩:∃j,n=j+1:=⟨n - 1,by omega⟩; have hk:k<l.length:=by omega
  rw[iter,h k s _ hk (by omega) (by omega),gT (by omega),aW,List.range'_succ,List.flatMap_cons]; have e1:l.getD k default=l[k]:=by simp[hk]
  have e2:m.getD k default=m[k]'(by omega):=by simp[show k<m.length by omega]
  have hv:agh id l m k=if l[k]=m[k]'(by omega) then [] else [⟨id,(k:Int),l[k],m[k]'(by omega)⟩]:=by unfold agh; rw[e1,e2]
  rw[hv,show ((k:Int)+1)=((k+1:Nat):Int) by omega]; split
  ·rw[adf id l m hm hl h he d (k+1) _ n (by omega) (by omega) (by omega),List.nil_append]
  ·rw[adf id l m hm hl h he d (k+1) _ n (by omega) (by omega) (by rw[List.length_append,List.length_singleton]; omega),List.append_assoc]
theorem ahs {α β:Type} (b:α->Bool) (g:α->List β):∀l:List α,l.flatMap (λa=>if b a=true then [] else g a)=(l.filter λa=>!b a).flatMap g
 | []=>rfl
 | a :: r=>by rw[List.flatMap_cons,ahs b g r,List.filter_cons]; cases b a<;>simp
theorem axN (hall:(List.range a.nodes.length).all (okN a b)=true) {i:Nat} (hi:i<a.nodes.length) (c2:0<=cr b.nodes (bI a i).id):(bI b (cr b.nodes (bI a i).id).toNat).type=(bI a i).type:=by have:=List.all_eq_true.1 hall i (List.mem_range.2 hi); unfold okN at this; rw[decide_eq_true c2,Bool.not_true,Bool.false_or,Bool.and_eq_true] at this; exact of_decide_eq_true this.2
theorem aBe (ha:jo t a) (hb:jo t b) (ba:jJ a) (bb:jJ b):iH a b=some (aam a b):=by
  have n1:=ha.n40; have n2:=ha.e80; have n3:=hb.n40; have n4:=hb.e80; unfold iH aam; rw[aT (azI ha hb)]; cases hg:wQ a b with
  | false=>rw[cond_false]; rfl
  | true =>
  have hN:(List.range a.nodes.length).all (okN a b)=true:=by unfold wQ at hg; rw[Bool.and_eq_true] at hg; exact hg.1
  rw[cond_true,aT (ahr ha hb ba),aT (ahr hb ha bb),br (bk (by omega)),if_pos rfl]; rw[jD a.nodes.length (λi=>if qQ b.nodes (bI a i).id=true then [] else aoD a b i) 1000 (λi hi=>by
    have:=afJ (b:=b) ha ba.host hi; split
    · simp
    · exact this) λi hi s hs cv=>by
    rw[List.length_nil] at hs; have h2:i<a.host.values.length:=by rw[ha.host.aol,<-ha.vH]; exact hi
    have hrow:=afI ha ba.host hi; rw[bL hi,aT (cN (by omega) _),<-aiS hi]; show cond (qQ b.nodes (bI a i).id) _ (iter _ fuel (0,s) _)=_; by_cases c2:0<=cr b.nodes (bI a i).id
    · have ho:qQ b.nodes (bI a i).id=false:=decide_eq_false (by omega); have hj:=vM c2; have hj2:(cr b.nodes (bI a i).id).toNat<b.host.values.length:=by rw[hb.host.aol,<-hb.vH]; exact hj
      have hty:=axN hN hi c2; have hl:=alB ha hb hi hj hty; have e1:a.host.values[i]=(bI a i).values:=by unfold bI; simp[h2]
      have e2:b.host.values[(cr b.nodes (bI a i).id).toNat]=(bI b (cr b.nodes (bI a i).id).toNat).values:=by show _=b.host.values.getD _ default; simp[hj2]
      rw[ho,cond_false,if_neg (by decide)]; have:=adf (O:=aG×Bool) (bI a i).id (bI a i).values _ hl (by omega) (K:=λvN=>cv vN.2) (f:=λ(vN:Int×(List aO)) alD axO =>
    thn (a.host.values[i]?) λaz9 =>
    cond (decide (vN.1<((az9.length:Nat):Int))) (
     thn (oI az9 vN.1) λaAa =>
     thn (oI b.host.values (cr b.nodes (bI a i).id)) λaDk =>
     thn (oI aDk vN.1) λaAb =>
     cond (decide (aAa=aAb)) (
      alD ((IntKind.i64.wrap (vN.1+1)),vN.2)) <|
     cU (vN.2.length+1<=68719476736) <|
     alD ((IntKind.i64.wrap (vN.1+1)),(vN.2++[(⟨(bI a i).id,vN.1,aAa,aAb⟩:aO)]))) <|
    axO (vN.1, vN.2)) (fun k s' vL hk hk2 hs' => by
        dsimp only; rw[bL h2,e1,decide_eq_true (by omega),cond_true,fQ (by omega) (by simpa using hk),fQ c2 hj2,e2,fQ (by omega) (by simpa using hk2),br (by omega)]; rfl) (λs' vL=>by
        dsimp only; rw[bL h2,e1,decide_eq_false (by omega),cond_false]) (bI a i).values.length 0 s fuel (by omega) (by unfold fuel; omega) (by omega)
      rw[<-List.range_eq_range'] at this; exact this
    · have ho:qQ b.nodes (bI a i).id=true:=decide_eq_true (by omega); rw[ho,cond_true,if_pos rfl,List.append_nil]]
  rw[List.nil_append,ahs]; rfl
theorem azJ (ht:ga t) (ba:jJ a) (bb:jJ b):gj t a b=some (afF t a b):=by
 unfold gj afF; rw[aT (show cg t a=_ from nQ ht ba),aW]; by_cases h1:kK t a=0; rotate_left
 ·rw[if_neg h1,if_pos h1]; rfl
 rw[if_pos h1,if_neg (λh=>h h1),aT (show cg t b=_ from nQ ht bb),aW]; by_cases h2:kK t b=0; rotate_left
 ·rw[if_neg h2,if_pos h2]; rfl
 rw[if_pos h2,if_neg (λh=>h h2),aT (aBe (ef.1 h1) (ef.1 h2) ba bb)]; unfold aam; split
 ·rfl
 ·rfl
def zh (t:Types) (a:az) (p q:aG):aG×Int :=
 if kM t a p q≠0 then (tR,kM t a p q)
 else if 0<(pe a p q).length then (tR,11)
 else if (eS t a p q).2≠0 then (tR,(eS t a p q).2)
 else afF t (bU a p) (eS t a p q).1
variable {p q:aG}
theorem axP (ht:ga t) (hb:jJ a) (hp:gm p) (hq:gm q):lK t a p q=some (zh t a p q):=by
 unfold lK zh; rw[aT (show jg t a p q=_ from vb ht hb hp hq),aW]; by_cases h0:kM t a p q=0; rotate_left
 ·rw[if_neg h0,if_pos h0]; rfl
 have h:=jq.1 h0; rw[if_pos h0,if_neg (λh=>h h0),aT (oU h.ap h.aq hb.host),vJ h.ap h.aq,aW]; by_cases h1:0<(pe a p q).length
 ·rw[if_pos (by omega),if_pos h1]; rfl
 rw[if_neg (by omega),if_neg h1]; obtain⟨x,e,ex⟩:=tQ ht h hb hp hq; rw[aT e,aW]; by_cases h2:(eS t a p q).2=0
 ·rw[if_pos h2,if_neg (λh=>h h2),ex h2]; obtain⟨k1,k2⟩:=mq hb h hp hq h2; rw[aT (show lJ ⟨t.nodes,t.au⟩ _ _=_ from afK ht (h.ap.agd hb.host hp) k2)]
 ·rw[if_neg h2,if_pos h2]; rfl
theorem atd (ht:ga t) (hb:jJ a) (hp:gm p) (hq:gm q):fE t a p q=some (zh t a p q):=by
 unfold fE zh; rw[aT (show dm t a p q=_ from aiM ht hb hp hq),aW]; by_cases h0:kM t a p q=0; rotate_left
 ·rw[if_neg h0,if_pos h0]; rfl
 have h:=jq.1 h0; rw[if_pos h0,if_neg (λh=>h h0),aT (vf h.ap.tk hb.host hp hq),aW]; by_cases h1:0<(pe a p q).length
 ·rw[if_pos (by omega),if_pos h1]; rfl
 rw[if_neg (by omega),if_neg h1,aT (ada ht h hb hp hq (aa1 h h1)),aW]; by_cases h2:(eS t a p q).2=0
 ·obtain⟨k1,k2⟩:=mq hb h hp hq h2; rw[if_pos h2,if_neg (λh=>h h2),aT (show bE t a p=_ from tN ht hb hp),nR h.ap]; rw[aT (show gj ⟨t.nodes,t.au⟩ _ _=_ from azJ ht (h.ap.agd hb.host hp) k2)]
 ·rw[if_neg h2,if_pos h2]; rfl
structure azK (p:aG):Prop where
 rn:p.ax.length<=1000000
 re:p.aD.length<=1000000
 an:p.aQ.length<=1000000
 ae:p.aM.length<=1000000
 va:p.values.length<=1000000
 rr:∀n∈p.ax,n.values.length<=1000000
 ar:∀n∈p.aQ,n.values.length<=1000000
theorem adE {l:List aj} (h:l.length<=1000000) (hv:∀n∈l,n.values.length<=1000000):ep l l=some true:=by refine Ok.eq ?_; unfold ep; refine pz (decide_eq_true rfl) (jG (bk (by omega)) ?_); refine vg l (λ_=>True) (λi cv hi hn=>?_) (λ_=>.mk rfl); exact mV hi (mV hi (ok_eq (afn _ _ (hv _ (List.getElem_mem hi))) (pz (sR.2 rfl) (hn trivial))))
theorem adF {l:List ak} (h:l.length<=1000000):er l l=some true:=by refine Ok.eq ?_; unfold er; refine pz (decide_eq_true rfl) (jG (bk (by omega)) ?_); refine vg l (λ_=>True) (λi cv hi hn=>?_) (λ_=>.mk rfl); exact mV hi (mV hi (pz (by simp) (hn trivial)))
theorem alE (h:azK p):fN p p=some true:=by have:=h.va; refine Ok.eq ?_; unfold fN; refine ok_eq (adE h.rn h.rr) (pz rfl (ok_eq (adE h.an h.ar) (pz rfl (ok_eq (adF h.re) (pz rfl (ok_eq (adF h.ae) (pz rfl (pz (decide_eq_true rfl) (jG (bk (by omega)) ?_))))))))); refine vg p.values (λ_=>True) (λi cv hi hn=>?_) (λ_=>.mk (by simp)); exact mV hi (mV hi (pz (by simp) (hn trivial)))
theorem sV:azK tR:=⟨by simp[tR],by simp[tR],by simp[tR],by simp[tR],by simp[tR],λn hn=>(by cases hn),λn hn=>(by cases hn)⟩
theorem aht {n:aj} (h:n∈adD a b):n∈bZ a:=by obtain⟨i,hi,rfl⟩:=List.mem_map.1 h; exact List.mem_map.2 ⟨i,(List.mem_filter.1 hi).1,rfl⟩
theorem ahu:(adD a b).length<=a.nodes.length:=by unfold adD; rw[List.length_map]; exact Nat.le_trans (List.length_filter_le _ _) (by simp)
theorem ahv:(ahq a b).length<=a.au.length:=by unfold ahq; rw[List.length_map]; exact Nat.le_trans (List.length_filter_le _ _) (by simp)
theorem alF {α β:Type} (g:α->List β) (k:Nat):∀l:List α,(∀a∈l,(g a).length<=k)->(l.flatMap g).length<=k * l.length
 | [],_=>by simp
 | a :: r,h=>by
  have h1:=h a (List.mem_cons_self ..); have h2:=alF g k r λx hx=>h x (List.mem_cons_of_mem _ hx)
  rw[List.flatMap_cons,List.length_append,List.length_cons,Nat.mul_add]; omega
theorem ate (ha:jo t a) (ba:jJ a):(apx a b).length<=40000:=by
 have n1:=ha.n40; have:=alF (aoD a b) 1000 ((List.range a.nodes.length).filter λi=>!qQ b.nodes (bI a i).id) λi hi=>afJ ha ba.host (List.mem_range.1 (List.mem_filter.1 hi).1)
 have h2:=List.length_filter_le (λi=>!qQ b.nodes (bI a i).id) (List.range a.nodes.length); rw[List.length_range] at h2; unfold apx; omega
theorem atf (ba:jJ a) (bb:jJ b):azK (afF t a b).1:=by
 unfold afF; split
 ·exact sV
 rename_i h1; split
 ·exact sV
 rename_i h2; have ha:=ef.1 (Decidable.of_not_not h1); have hb:=ef.1 (Decidable.of_not_not h2); have n1:=ha.n40; have n2:=ha.e80; have n3:=hb.n40; have n4:=hb.e80; split
 ·rename_i h3; unfold aam; rw[if_pos h3]; have l1:=@ahu a b; have l2:=@ahv a b; have l3:=@ahu b a; have l4:=@ahv b a; have l5:=ate (b:=b) ha ba; exact⟨by dsimp only; omega,by dsimp only; omega,by dsimp only; omega,by dsimp only; omega,by dsimp only; omega,λn hn=>Nat.le_trans (o9 ha ba.host n (aht hn)) (by decide),λn hn=>Nat.le_trans (o9 hb bb.host n (aht hn)) (by decide)⟩
 ·exact sV
theorem aoE (hb:jJ a) (hp:gm p) (hq:gm q):azK (zh t a p q).1:=by
 unfold zh; by_cases h0:kM t a p q=0; rotate_left
 ·rw[if_pos h0]; exact sV
 have h:=jq.1 h0; rw[if_neg (λh=>h h0)]; split
 ·exact sV
 ·split
  ·exact sV
  ·rename_i h2; obtain⟨k1,k2⟩:=mq hb h hp hq (Decidable.of_not_not h2); exact atf (h.ap.agd hb.host hp) k2
end
theorem agi (t:Types) (x:aZ) (h:axE t x):eV t x=some true:=by
 unfold eV; rw[aT qP,cond_true]; obtain⟨b,hb,hf⟩:=aov h; rw[aT (show cc ⟨x.a,x.p,x.q⟩ ⟨t.nodes,t.au⟩=_ from hb)]; cases b with
 | false=>rw[cond_false,aT qP]
 | true =>
 obtain⟨ht,ha,hp,hq⟩:=hf rfl; rw[cond_true,aT (aci ha),aT (jj hp),aT (jj hq),aT (show lK ⟨t.nodes,t.au⟩ x.a x.p x.q=_ from axP ht ha hp hq),aT (show fE ⟨t.nodes,t.au⟩ x.a x.p x.q=_ from atd ht ha hp hq),decide_eq_true rfl,cond_true,aT (alE (aoE ha hp hq))]
end Go.Proofs.YtllicmcihlfajaaGreat
