/- Joined texts, part 8: lemmas for the statement. No condition. -/
import Derived.Test.YteambpeibacfpaaGreatJ7
import Derived.Test.YteambpeibacfpaaGreatJ5
set_option maxHeartbeats 4000000
set_option linter.unusedSimpArgs false
set_option linter.unusedVariables false
open Nat (reduceEqDiff reduceLT reduceLeDiff reduceMul reduceAdd reduceSub)
open Go.IntKind (i64)
open Go.Proofs.Tryz
open List hiding cons iter nil take_set
open Nat (le_trans zero_le le_refl not_lt_zero lt_or_ge)
open Bool (not_eq_true not_not and_eq_true eq_false_iff not_eq_true')
open Int (toNat_natCast le_refl le_trans)
namespace Go.Proofs.YteambpeibacfpaaGreat
open Go.b7
theorem yI{α O:Type}{l:List α}(R:α->α->Prop) [DecidableRel R](tr:∀a b c,R a b->R b c->R a c){f:Nat->Unit->(Unit->Option O)->(Unit->Option O)->Option O}{K:Unit->Option O}(y n:Option O)(hy:K ()=y)
  (h:∀i (hi:i<l.length) (_:1<=i) eE,f i () eE K=cond (decide (R (l[i-1]'(by omega)) l[i])) (eE ()) n):bZ f (l.length-1) 1 () K=if l.Pairwise R then y else n:=by
 rw[afI (λj=>decide (∀h:j<l.length,1<=j->R (l[j-1]'(by omega)) l[j])) (λ_=>n) (l.length-1) 1 λj h1 h2 eE=>?_]
 ·rw[v8,hy];congr 1;rw[eq_iff_iff,all_eq_true,pairwise_iff_getElem];constructor
  ·intro h;have step:∀k,(hk:k+1<l.length)->R (l[k]'(by omega)) l[k+1]:=λk hk=>bX (h (k+1) (mem_range'_1.2 ⟨by omega,by omega⟩)) hk (by omega)
   have key:∀k i,(hk:i+1+k<l.length)->R (l[i]'(by omega)) l[i+1+k]:=λk=>by
    induction k with
    |zero=>exact λi hi=>step i hi
    |succ k ih=>exact λi hi=>tr _ _ _ (ih i (by omega)) (step (i+1+k) hi)
   intro i j hi hj hij;obtain⟨k,rfl⟩:∃k,j=i+1+k:=⟨j-(i+1),by omega⟩;exact key k i hj
  ·intro h j hj;exact ew λh1 h2=>h _ _ _ _ (by omega)
 ·rw[h j (by omega) h1 eE];congr 1;rw[decide_eq_decide];exact⟨λh _ _=>h,λh=>h _ h1⟩
instance{α:Type}(f:α->Int)(l:List α):Decidable (jE f l):=inferInstanceAs (Decidable (l.Pairwise λa b=>f a<f b))
def ltV(a b:aO):Prop:=a.id<b.id\/a.id=b.id/\a.attr<b.attr
instance:DecidableRel ltV:=λa b=>inferInstanceAs (Decidable (a.id<b.id\/a.id=b.id/\a.attr<b.attr))
theorem az9(a b c:aO)(h1:ltV a b)(h2:ltV b c):ltV a c:=by unfold ltV at *;omega
structure Ordered(p:aQ):Prop where
 rn:jE aj.id p.aG
 re:jE ax.id p.aM
 an:jE aj.id p.aV
 ae:jE ax.id p.bn
 va:p.values.Pairwise ltV
def tu(p:aQ):Int :=
 if 500<p.aG.length\/500<p.aM.length\/500<p.aV.length\/500<p.bn.length\/500<p.values.length then 3
 else if jE aj.id p.aG/\jE ax.id p.aM/\jE aj.id p.aV/\jE ax.id p.bn/\p.values.Pairwise ltV then 0 else 12
structure wH(p:aQ):Prop where
 rn:p.aG.length<=1000000
 re:p.aM.length<=1000000
 an:p.aV.length<=1000000
 ae:p.bn.length<=1000000
 va:p.values.length<=1000000
 rv:∀n∈p.aG,n.values.length<=1000
 av:∀n∈p.aV,n.values.length<=1000
structure Small(p:aQ):Prop where
 rn:p.aG.length<=500
 re:p.aM.length<=500
 an:p.aV.length<=500
 ae:p.bn.length<=500
 va:p.values.length<=500
theorem vb{p:aQ} : tu p=0↔Small p/\Ordered p:=by
 unfold tu;constructor
 ·intro h;split at h
  ·cases h
  ·split at h
   ·rename_i h1 h2;exact⟨⟨by omega,by omega,by omega,by omega,by omega⟩,⟨h2.1,h2.2.1,h2.2.2.1,h2.2.2.2.1,h2.2.2.2.2⟩⟩
   ·cases h
 ·rintro⟨h1,h2⟩;have a1:=h1.rn;have a2:=h1.re;have a3:=h1.an;have a4:=h1.ae;have a5:=h1.va;rw[if_neg (by omega),if_pos ⟨h2.rn,h2.re,h2.an,h2.ae,h2.va⟩]
theorem mP{l:List aj}(hl:l.length<=1000000):ek l=some (decide (jE aj.id l)):=by
 unfold ek;rw[cv (bU (by omega))];rw[yI (λa b:aj=>a.id<b.id) (λa b c h1 h2=>by omega) (some true) (some false) rfl λi hi h1 eE=>?_]
 ·by_cases h:l.Pairwise λa b:aj=>a.id<b.id
  ·rw[if_pos h,ew (show jE aj.id l from h)]
  ·rw[if_neg h,gd (show ¬ jE aj.id l from h)]
 ·have e:l[(((i:Nat):Int)-1).toNat]'(by omega)=l[i-1]'(by omega):=by congr 1;omega
  rw[eo hi,gl (by omega),iE (by omega) (by omega),e,bh,bh];by_cases h:l[i].id<=(l[i-1]'(by omega)).id
  ·rw[if_pos h,if_neg (by omega)]
  ·rw[if_neg h,if_pos (by omega)]
theorem mQ{l:List ax}(hl:l.length<=1000000):en l=some (decide (jE ax.id l)):=by
 unfold en;rw[cv (bU (by omega))];rw[yI (λa b:ax=>a.id<b.id) (λa b c h1 h2=>by omega) (some true) (some false) rfl λi hi h1 eE=>?_]
 ·by_cases h:l.Pairwise λa b:ax=>a.id<b.id
  ·rw[if_pos h,ew (show jE ax.id l from h)]
  ·rw[if_neg h,gd (show ¬ jE ax.id l from h)]
 ·have e:l[(((i:Nat):Int)-1).toNat]'(by omega)=l[i-1]'(by omega):=by congr 1;omega
  rw[eo hi,gl (by omega),iE (by omega) (by omega),e,bh,bh];by_cases h:l[i].id<=(l[i-1]'(by omega)).id
  ·rw[if_pos h,if_neg (by omega)]
  ·rw[if_neg h,if_pos (by omega)]
theorem agF{l:List aO}(hl:l.length<=1000000):fq l=some (decide (l.Pairwise ltV)):=by
 unfold fq;rw[cv (bU (by omega))];rw[yI ltV az9 (some true) (some false) rfl λi hi h1 eE=>?_]
 ·by_cases h:l.Pairwise ltV
  ·rw[if_pos h,ew h]
  ·rw[if_neg h,gd h]
 ·have e:l[(((i:Nat):Int)-1).toNat]'(by omega)=l[i-1]'(by omega):=by congr 1;omega
  rw[eo hi,gl (by omega),iE (by omega) (by omega),e,bh,bh,bh,bh];generalize l[i]=x;generalize l[i-1]'(by omega)=y;have hv:ltV y x↔(y.id<x.id\/y.id=x.id/\y.attr<x.attr):=Iff.rfl;by_cases h1:x.id<y.id
  ·rw[if_pos h1,if_neg λh=>by have:=hv.1 h;omega]
  rw[if_neg h1];by_cases h2:x.id=y.id
  ·rw[if_pos h2];by_cases h3:x.attr<=y.attr
   ·rw[if_pos h3,if_neg λh=>by have:=hv.1 h;omega]
   ·rw[if_neg h3,if_pos (hv.2 (by omega))]
  ·rw[if_neg h2,if_pos (hv.2 (by omega))]
theorem l_ordered{p:aQ}(hp:wH p):gZ p=some (tu p):=by
 unfold gZ tu;rw[bh,bh,bh,bh,bh];by_cases h1:500<p.aG.length
 ·rw[if_pos (by omega),if_pos (.inl h1)]
 rw[if_neg (by omega)];by_cases h2:500<p.aM.length
 ·rw[if_pos (by omega),if_pos (.inr (.inl h2))]
 rw[if_neg (by omega)];by_cases h3:500<p.aV.length
 ·rw[if_pos (by omega),if_pos (.inr (.inr (.inl h3)))]
 rw[if_neg (by omega)];by_cases h4:500<p.bn.length
 ·rw[if_pos (by omega),if_pos (.inr (.inr (.inr (.inl h4))))]
 rw[if_neg (by omega)];by_cases h5:500<p.values.length
 ·rw[if_pos (by omega),if_pos (.inr (.inr (.inr (.inr h5))))]
 rw[if_neg (by omega),if_neg (show ¬ (_\/_) by omega)];rw[aR (mP hp.rn),bh];by_cases g1:jE aj.id p.aG;rotate_left
 ·rw[if_neg g1,if_neg λh=>g1 h.1]
 rw[if_pos g1,aR (mQ hp.re),bh];by_cases g2:jE ax.id p.aM;rotate_left
 ·rw[if_neg g2,if_neg λh=>g2 h.2.1]
 rw[if_pos g2,aR (mP hp.an),bh];by_cases g3:jE aj.id p.aV;rotate_left
 ·rw[if_neg g3,if_neg λh=>g3 h.2.2.1]
 rw[if_pos g3,aR (mQ hp.ae),bh];by_cases g4:jE ax.id p.bn;rotate_left
 ·rw[if_neg g4,if_neg λh=>g4 h.2.2.2.1]
 rw[if_pos g4,aR (agF hp.va),bh];by_cases g5:p.values.Pairwise ltV
 ·rw[if_pos g5,if_pos ⟨g1,g2,g3,g4,g5⟩]
 ·rw[if_neg g5,if_neg λh=>g5 h.2.2.2.2]
theorem asp(a b:Int):ig a b=some (rj a b):=by
 unfold ig;rw[aR (show gH a=some false by unfold gH;simp),aR (show gH b=some false by unfold gH;simp),cond_false,cond_false,bh,bh];unfold rj;split
 ·rfl
 ·split<;>rfl
theorem aJw(a b:Int):rq [a,b]=some (if a=0 then b else a):=by
 unfold rq;rw[cv (bU (by simp))];show bZ _ 2 0 () _=_;simp only[bZ,getElem?_cons_zero,getElem?_cons_succ,aow,bh];by_cases h:a=0
 ·rw[if_pos h,if_pos h];by_cases h2:b=0
  ·rw[if_pos h2,h2]
  ·rw[if_neg h2]
 ·rw[if_neg h,if_neg h]
theorem aeW{a b:Int} : ¬ (0<=rj a b)↔a<b:=by
 unfold rj;split
 ·omega
 ·split<;>omega
theorem aAa(a b:aj):gP a b=some (rj a.id b.id):=by unfold gP;rw[aR (asp _ _)]
theorem aAb(a b:ax):gQ a b=some (rj a.id b.id):=by unfold gQ;rw[aR (asp _ _)]
theorem avT(a b:aO):iZ a b=some (if rj a.id b.id=0 then rj a.attr b.attr else rj a.id b.id):=by unfold iZ;rw[aR (asp _ _),aR (asp _ _),aR (aJw _ _)]
theorem aaH{l:List aj}(hl:l.length<=1000000):eM l (λa b=>gP a b)=some (decide (jE aj.id l)):=by
 unfold eM;rw[cv (bU (by omega))];rw[yI (λa b:aj=>a.id<b.id) (λa b c h1 h2=>by omega) (some true) (some false) rfl λi hi h1 eE=>?_]
 ·by_cases h:l.Pairwise λa b:aj=>a.id<b.id
  ·rw[if_pos h,ew (show jE aj.id l from h)]
  ·rw[if_neg h,gd (show ¬ jE aj.id l from h)]
 ·have e:l[(((i:Nat):Int)-1).toNat]'(by omega)=l[i-1]'(by omega):=by congr 1;omega
  rw[gl (by omega),iE (by omega) (by omega),eo hi,e];rw[aR (aAa _ _),bh,bh];by_cases h:(l[i-1]'(by omega)).id<l[i].id
  ·rw[if_pos h,if_neg (aeW.2 h)]
  ·rw[if_neg h,if_pos (Decidable.of_not_not λh2=>h (aeW.1 h2))]
theorem aaI{l:List ax}(hl:l.length<=1000000):eN l (λa b=>gQ a b)=some (decide (jE ax.id l)):=by
 unfold eN;rw[cv (bU (by omega))];rw[yI (λa b:ax=>a.id<b.id) (λa b c h1 h2=>by omega) (some true) (some false) rfl λi hi h1 eE=>?_]
 ·by_cases h:l.Pairwise λa b:ax=>a.id<b.id
  ·rw[if_pos h,ew (show jE ax.id l from h)]
  ·rw[if_neg h,gd (show ¬ jE ax.id l from h)]
 ·have e:l[(((i:Nat):Int)-1).toNat]'(by omega)=l[i-1]'(by omega):=by congr 1;omega
  rw[gl (by omega),iE (by omega) (by omega),eo hi,e];rw[aR (aAb _ _),bh,bh];by_cases h:(l[i-1]'(by omega)).id<l[i].id
  ·rw[if_pos h,if_neg (aeW.2 h)]
  ·rw[if_neg h,if_pos (Decidable.of_not_not λh2=>h (aeW.1 h2))]
theorem afJ{l:List aO}(hl:l.length<=1000000):fC l (λa b=>iZ a b)=some (decide (l.Pairwise ltV)):=by
 unfold fC;rw[cv (bU (by omega))];rw[yI ltV az9 (some true) (some false) rfl λi hi h1 eE=>?_]
 ·by_cases h:l.Pairwise ltV
  ·rw[if_pos h,ew h]
  ·rw[if_neg h,gd h]
 ·have e:l[(((i:Nat):Int)-1).toNat]'(by omega)=l[i-1]'(by omega):=by congr 1;omega
  rw[gl (by omega),iE (by omega) (by omega),eo hi,e];rw[aR (avT _ _),bh,bh];generalize l[i]=x;generalize l[i-1]'(by omega)=y;have hv:ltV y x↔(y.id<x.id\/y.id=x.id/\y.attr<x.attr):=Iff.rfl;have hc:(0<=if rj y.id x.id=0 then rj y.attr x.attr else rj y.id x.id)↔¬ ltV y x:=by
   rw[hv];unfold rj;by_cases h1:y.id<x.id
   ·rw[if_pos h1,if_neg (by omega)];omega
   ·rw[if_neg h1];by_cases h2:y.id > x.id
    ·rw[if_pos h2,if_neg (by omega)];omega
    ·rw[if_neg h2,if_pos rfl];split
     ·omega
     ·split<;>omega
  by_cases h:ltV y x
  ·rw[if_pos h,if_neg λh2=>hc.1 h2 h]
  ·rw[if_neg h,if_pos (hc.2 h)]
theorem aAc{p:aQ}(hp:wH p):mH p=some (tu p):=by
 unfold mH tu;rw[bh];by_cases h0:500<p.aG.length\/500<p.aM.length\/500<p.aV.length\/500<p.bn.length\/500<p.values.length
 ·rw[if_pos (by omega),if_pos h0]
 rw[if_neg (by omega),if_neg h0];rw[aR (aaH hp.rn),bh];by_cases g1:jE aj.id p.aG;rotate_left
 ·rw[if_neg g1,if_neg λh=>g1 h.1]
 rw[if_pos g1,aR (aaH hp.an),bh];by_cases g3:jE aj.id p.aV;rotate_left
 ·rw[if_neg g3,if_neg λh=>g3 h.2.2.1]
 rw[if_pos g3,aR (aaI hp.re),bh];by_cases g2:jE ax.id p.aM;rotate_left
 ·rw[if_neg g2,if_neg λh=>g2 h.2.1]
 rw[if_pos g2,aR (aaI hp.ae),bh];by_cases g4:jE ax.id p.bn;rotate_left
 ·rw[if_neg g4,if_neg λh=>g4 h.2.2.2.1]
 rw[if_pos g4,aR (afJ hp.va),bh];by_cases g5:p.values.Pairwise ltV
 ·rw[if_pos g5,if_pos ⟨g1,g2,g3,g4,g5⟩]
 ·rw[if_neg g5,if_neg λh=>g5 h.2.2.2.2]
theorem abL{α:Type}{q:α->α->Bool}{l:List α}{n:α} : ((yH q l n).1).Sublist l:=by
 unfold yH;split
 ·exact Sublist.refl _
 ·rw[<-eraseIdx_eq_take_drop_succ];exact eraseIdx_sublist ..
theorem ait(x:List aj):∀ (r y:List ax),oR (λ(x:List aj) y e=>((x,(yH rZ y e).1),(yH rZ y e).2)) x y r=((x,(iI rZ y r).1),(iI rZ y r).2)
 | [],y=>rfl
 |e :: r,y=>by
  rw[oR,iI];simp only;split
  ·exact ait x r _
  ·rename_i h;simp only[not_eq_true] at h;rw[h]
theorem aiu(y:List ax):∀ (r x:List aj),oR (λx (y:List ax) e=>(((yH eC x e).1,y),(yH eC x e).2)) x y r=(((iI eC x r).1,y),(iI eC x r).2)
 | [],x=>rfl
 |e :: r,x=>by
  rw[oR,iI];simp only;split
  ·exact aiu y r _
  ·rename_i h;simp only[not_eq_true] at h;rw[h]
theorem ako(y:List ax):∀ (r:List aO) (x:List aj),oR (λx (y:List ax) v=>((x.map (qJ v),y),x.any (lg v))) x y r=(((ep x r).1,y),(ep x r).2)
 | [],x=>rfl
 |e :: r,x=>by
  rw[oR,ep];simp only;split
  ·exact ako y r _
  ·rename_i h;simp only[not_eq_true] at h;rw[h]
def aAd(s:aH)(p:aQ):aH×Bool :=
 if (iI rZ s.ah p.aM).2=true then
  if (iI eC s.nodes p.aG).2=true then (⟨(ep (iI eC s.nodes p.aG).1 p.values).1,(iI rZ s.ah p.aM).1⟩,(ep (iI eC s.nodes p.aG).1 p.values).2)
  else (⟨(iI eC s.nodes p.aG).1,(iI rZ s.ah p.aM).1⟩,false)
 else (⟨s.nodes,(iI rZ s.ah p.aM).1⟩,false)
def Rows(l:List aj):Prop:=∀n∈l,n.values.length<=1000
theorem afK{l:List aj}(h:Rows l)(v:aO):Rows (l.map (qJ v)):=λn hn=>by obtain⟨m,hm,rfl⟩:=mem_map.1 hn;rw[aim];exact h m hm
def xS{α O:Type}(l:List α)(f:aH->α->Option (aH×Bool))(s:Bool×Int×List aj×List ax)(eE brk:Bool×Int×List aj×List ax->Option O):Option O :=
  cond (decide (s.2.1<((l.length:Nat):Int))) (
   cond s.1 (
    thn (iX l s.2.1) λe =>
    thn (f (⟨s.2.2.1,s.2.2.2⟩:aH) e) λr =>
    eE (r.2,(i64.wrap (s.2.1+1)),r.1.nodes,r.1.ah)) <|
   brk (s.1,s.2.1,s.2.2.1,s.2.2.2)) <|
  brk (s.1,s.2.1,s.2.2.1,s.2.2.2)
theorem abM{α O:Type}{K:Bool×Int×List aj×List ax->Option O}(l:List α)(f:aH->α->Option (aH×Bool))(step:List aj->List ax->α->(List aj×List ax)×Bool)(inv:List aj->List ax->Prop)(hl:l.length<=1000000)
  (h:∀x y e,inv x y->f ⟨x,y⟩ e=some (⟨(step x y e).1.1,(step x y e).1.2⟩,(step x y e).2)/\inv (step x y e).1.1 (step x y e).1.2) (b:Bool) (x:List aj) (y:List ax) (hv:inv x y) :
  ∃j,iter (xS l f) fuel (b,0,x,y) K=K (if b=true then (oR step x y l).2 else false,j,if b=true then (oR step x y l).1.1 else x,if b=true then (oR step x y l).1.2 else y)/\(b=true->inv (oR step x y l).1.1 (oR step x y l).1.2):=by
 refine az6 l step inv hl (λi x y eE=>?_) (λx y eE=>?_) (λi hi x y eE hxy=>?_) b x y hv
 ·unfold xS;simp only;cases decide (i<((l.length:Nat):Int))<;>rfl
 ·unfold xS;simp
 ·obtain⟨h1,h2⟩:=h x y l[i] hxy;unfold xS;simp only;rw[ew (by omega),cond_true,cond_true,iE (by omega) (by simpa using hi),gl (by omega)];exact⟨by rw[show l[((i:Nat):Int).toNat]'(by simpa using hi)=l[i] from rfl,aR h1];rfl,h2⟩
theorem aDr(s:aH)(p:aQ)(hn:s.nodes.length<=1000000)(he:s.ah.length<=1000000)(hv:Rows s.nodes)(hp:wH p):fZ s p=some (aAd s p):=by
 unfold fZ;show iter (xS p.aM cG) fuel (true,0,s.nodes,s.ah) (λs1=>iter (xS p.aG cg) fuel (s1.1,0,s1.2.2.1,s1.2.2.2) λs2=>iter (xS p.values cS) fuel (s2.1,0,s2.2.2.1,s2.2.2.2) λs3=>some ((⟨s3.2.2.1,s3.2.2.2⟩:aH),s3.1))=_;obtain⟨j1,e1,_⟩:=abM (K:=λs1=>iter (xS p.aG cg) fuel (s1.1,0,s1.2.2.1,s1.2.2.2) λs2=>iter (xS p.values cS) fuel (s2.1,0,s2.2.2.1,s2.2.2.2) λs3=>some ((⟨s3.2.2.1,s3.2.2.2⟩:aH),s3.1)) p.aM cG (λ(x:List aj) y e=>((x,(yH rZ y e).1),(yH rZ y e).2)) (λx y=>y.length<=1000000) hp.re
  (λx y e hy=>⟨akm ⟨x,y⟩ e hy,le_trans (abL (q:=rZ)).length_le hy⟩) true s.nodes s.ah he
 rw[e1];simp only[if_true,ait];obtain⟨j2,e2,i2⟩:=abM (K:=λs2=>iter (xS p.values cS) fuel (s2.1,0,s2.2.2.1,s2.2.2.2) λs3=>some ((⟨s3.2.2.1,s3.2.2.2⟩:aH),s3.1)) p.aG cg (λx (y:List ax) e=>(((yH eC x e).1,y),(yH eC x e).2)) (λx y=>x.length<=1000000/\Rows x) hp.rn
  (λx y e hy=>⟨akn ⟨x,y⟩ e hy.1 λn hn=>by have:=hy.2 n hn;omega,le_trans (abL (q:=eC)).length_le hy.1,λn hn=>hy.2 n (abL.mem hn)⟩) (iI rZ s.ah p.aM).2 s.nodes (iI rZ s.ah p.aM).1 ⟨hn,hv⟩
 rw[e2];simp only[aiu] at i2 ⊢;obtain⟨j3,e3,_⟩:=abM (K:=λs3=>some ((⟨s3.2.2.1,s3.2.2.2⟩:aH),s3.1)) p.values cS (λx (y:List ax) v=>((x.map (qJ v),y),x.any (lg v))) (λx y=>x.length<=1000000/\Rows x) hp.va
  (λx y v hy=>⟨aFo ⟨x,y⟩ v hy.1 λn hn=>by have:=hy.2 n hn;omega,by simpa using hy.1,afK hy.2 _⟩) (if (iI rZ s.ah p.aM).2=true then (iI eC s.nodes p.aG).2 else false) (if (iI rZ s.ah p.aM).2=true then (iI eC s.nodes p.aG).1 else s.nodes) (if (iI rZ s.ah p.aM).2=true then (iI rZ s.ah p.aM).1 else (iI rZ s.ah p.aM).1) (by
  split
  ·rename_i h;exact i2 h
  ·exact⟨hn,hv⟩)
 rw[e3];simp only[ako];unfold aAd;cases h1:(iI rZ s.ah p.aM).2 with
 |false=>simp
 |true =>
  simp only[if_true];cases h2:(iI eC s.nodes p.aG).2 with
  |false=>simp
  |true=>simp
theorem aCA(s:aH)(id:Int)(hn:s.nodes.length<=1000000)(he:s.ah.length<=1000000):fk s id=some (l6 s.nodes s.ah id):=by
 unfold fk l6;rw[cv (bU (by omega))];rw[yF s.nodes (λn=>!decide (n.id=id)) (λ_=>some true) (λi hi eE=>by rw[eo hi,kJ]),v8];by_cases h1:(s.nodes.all λn=>!decide (n.id=id))=true
 ·rw[if_pos h1,cv (bU (by omega))];rw[yF s.ah (λn=>!decide (n.id=id)) (λ_=>some true) (λi hi eE=>by rw[eo hi,kJ]),v8];rw[all_eq_not_any_not] at h1 ⊢;simp only[not_not] at h1 ⊢;rw[show (s.nodes.any λn=>decide (n.id=id))=false by simpa using h1,Bool.false_or];cases s.ah.any λn=>decide (n.id=id)<;>rfl
 ·rw[if_neg h1];rw[all_eq_not_any_not] at h1;simp only[not_not] at h1;rw[show (s.nodes.any λn=>decide (n.id=id))=true by simpa using h1];rfl
def aAe(s:aH)(p:aQ):aH×Bool:=if iA s.nodes s.ah p=true then (s,false) else (⟨qA (s.nodes++p.aV),sg (s.ah++p.bn)⟩,true)
theorem aDs(s:aH)(p:aQ)(hn:s.nodes.length<=1000000)(he:s.ah.length<=1000000)(aN:jE aj.id s.nodes)(aE:jE ax.id s.ah)(hp:wH p)(ho:Ordered p):ga s p=some (aAe s p):=by
 have hpn:=hp.an;have hpe:=hp.ae;unfold ga aAe;rw[cv (bU (by omega))];rw[yF p.aV (λn=>!l6 s.nodes s.ah n.id) (λ_=>some (s,false)) (λi hi eE=>by rw[eo hi,aR (aCA s _ hn he),kJ]),v8];by_cases h1:(p.aV.all λn=>!l6 s.nodes s.ah n.id)=true;rotate_left
 ·rw[if_neg h1];rw[all_eq_not_any_not] at h1;simp only[not_not] at h1;have e:iA s.nodes s.ah p=true:=by unfold iA;rw[show (p.aV.any λn=>l6 s.nodes s.ah n.id)=true by simpa using h1];rfl
  rw[if_pos e]
 rw[if_pos h1,cv (bU (by omega))];rw[all_eq_not_any_not] at h1;simp only[not_not] at h1;have uq:(p.aV.any λn=>l6 s.nodes s.ah n.id)=false:=by simpa using h1
 rw[yF p.bn (λn=>!l6 s.nodes s.ah n.id) (λ_=>some (s,false)) (λi hi eE=>by rw[eo hi,aR (aCA s _ hn he),kJ]),v8];by_cases h2:(p.bn.all λn=>!l6 s.nodes s.ah n.id)=true;rotate_left
 ·rw[if_neg h2];rw[all_eq_not_any_not] at h2;simp only[not_not] at h2;have e:iA s.nodes s.ah p=true:=by unfold iA;rw[show (p.bn.any λn=>l6 s.nodes s.ah n.id)=true by simpa using h2,Bool.or_true]
  rw[if_pos e]
 rw[if_pos h2];rw[all_eq_not_any_not] at h2;simp only[not_not] at h2;have h2':(p.bn.any λn=>l6 s.nodes s.ah n.id)=false:=by simpa using h2
 have ht:iA s.nodes s.ah p=false:=by unfold iA;rw[uq,h2'];rfl
 rw[if_neg (by rw[ht];simp)];obtain⟨f1,f2⟩:=adX ht;have dN:∀a∈s.nodes,∀b∈p.aV,a.id≠b.id:=λa ha b hb=>(f1 b hb).1 a ha
 have dE:∀a∈s.ah,∀b∈p.bn,a.id≠b.id:=λa ha b hb=>(f2 b hb).2 a ha
 refine Ok.eq ?_;refine age aj.id s.nodes p.aV aN ho.an dN hn hp.an λout az7 hmem _ _=>?_
 have e1:out=qA (s.nodes++p.aV):=az7.ext (akk (rS aN ho.an dN)) λx=>by rw[hmem,acr,mem_append]
 refine age ax.id s.ah p.bn aE ho.ae dE he hp.ae λaJx aFp aFq _ _=>?_
 have e2:aJx=sg (s.ah++p.bn):=aFp.ext (akl (rS aE ho.ae dE)) λx=>by rw[aFq,acs,mem_append]
 subst e1 e2;exact Ok.mk rfl
def bD(ids:List Int)(n:Int):Int:=aaR (λy=>decide (y=n)) ids
def oS(ids:List Int)(e:ax):Edge:=⟨e.type,bD ids e.src,bD ids e.dst⟩
def fA(N:List aj)(E:List ax)(next:Int):ay:=⟨⟨⟨N.map aj.type,E.map (oS (N.map aj.id))⟩,N.map aj.values⟩,N.map aj.id,E.map ax.id,next⟩
theorem adY:∀ (l:List aj) (a:List Int×List (List Int)×List Int),l.foldl (λ(s:List Int×List (List Int)×List Int) n=>(s.1++[n.type],s.2.1++[n.values],s.2.2++[n.id])) a=(a.1++l.map aj.type,a.2.1++l.map aj.values,a.2.2++l.map aj.id)
 | [],a=>by simp
 |n :: l,a=>by rw[foldl_cons,adY l];simp
theorem aiv(ids:List Int):∀ (l:List ax) (a:List Edge×List Int),l.foldl (λ(s:List Edge×List Int) e=>(s.1++[oS ids e],s.2++[e.id])) a=(a.1++l.map (oS ids),a.2++l.map ax.id)
 | [],a=>by simp
 |n :: l,a=>by rw[foldl_cons,aiv ids l];simp
theorem uL(s:aH)(next:Int)(hn:s.nodes.length<=1000000)(he:s.ah.length<=1000000)(hv:Rows s.nodes):dg s next=some (fA s.nodes s.ah next):=by
 unfold dg;rw[cv (bU (by omega))];rw[(yG s.nodes (λ(s:List Int×List (List Int)×List Int) n=>(s.1++[n.type],s.2.1++[n.values],s.2.2++[n.id])) (λi s=>s.1.length=i/\s.2.1.length=i/\s.2.2.length=i) ⟨rfl,rfl,rfl⟩ ?_).1]
 ·rw[adY];simp only[nil_append];rw[cv (bU (by omega))];rw[(yG s.ah (λ(s1:List Edge×List Int) e=>(s1.1++[oS (s.nodes.map aj.id) e],s1.2++[e.id])) (λi s=>s.1.length=i/\s.2.length=i) ⟨rfl,rfl⟩ ?_).1]
  ·rw[aiv];rfl
  ·rintro i hi ⟨a,b⟩ ⟨h1,h2⟩;simp only at h1 h2;refine⟨λeE=>?_,by simp[h1],by simp[h2]⟩;rw[eo hi,cv (by simp only;omega),aR (dm (by simpa using hn) _),aR (dm (by simpa using hn) _),cv (by simp only;omega)];rfl
 ·rintro i hi ⟨a,b,c⟩ ⟨h1,h2,h3⟩;simp only at h1 h2 h3;refine⟨λeE=>?_,by simp[h1],by simp[h2],by simp[h3]⟩;have:=hv _ (pT hi);rw[eo hi,cv (by simp only;omega),cv (by simp only;omega),cv (by omega),cv (by simp only;omega)]
def abN(ids:List Int)(e:ax):Bool:=decide (0<=bD ids e.src)&&decide (0<=bD ids e.dst)
theorem tZ{l:List Int}(h:l.length<=1000000):cZ l=some l:=yp h
theorem aeX(N:List aj)(E:List ax)(next:Int)(hn:N.length<=1000000)(he:E.length<=1000000)(hv:Rows N):lQ N E next=some (if E.all (abN (N.map aj.id))=true then (fA N E next,true) else (mh,false)):=by
 unfold lQ;rw[cv (bU (by omega))];rw[(yG N (λ(s:List Int×List (List Int)×List Int) n=>(s.1++[n.type],s.2.1++[n.values],s.2.2++[n.id])) (λi s=>s.1.length=i/\s.2.1.length=i/\s.2.2.length=i) ⟨rfl,rfl,rfl⟩ ?_).1]
 ·rw[adY];simp only[nil_append];rw[cv (bU (by omega))];refine Ok.eq ?_;refine nZ (λj s=>j<=E.length/\s=((E.take j).map (oS (N.map aj.id)),(E.take j).map ax.id)/\(E.take j).all (abN (N.map aj.id))=true) (zero_le _) ⟨zero_le _,by simp,by simp⟩ ?_ ?_
  ·rintro j s eE _ hj ⟨_,rfl,ha⟩ hnx;refine nI hj (ok_eq (qo (by simpa using hn) _) (ok_eq (qo (by simpa using hn) _) ?_));have hno:abN (N.map aj.id) E[j]=false->(if E.all (abN (N.map aj.id))=true then (fA N E next,true) else (mh,false))=(mh,false):=λh=>by rw[if_neg];intro h2;rw[all_eq_true.1 h2 _ (pT hj)] at h;cases h
   refine b9 (λhc=>?_) λhc=>?_
   ·refine Ok.mk ?_;rw[hno]
    ·rfl
    ·unfold abN bD;have:=bX hc;rw[gd (by omega),Bool.false_and]
   refine b9 (λhc2=>?_) λhc2=>?_
   ·refine Ok.mk ?_;rw[hno]
    ·rfl
    ·unfold abN bD;have:=bX hc2;rw[gd (p:=0<=aaR (λy=>decide (y=E[j].dst)) (N.map aj.id)) (by omega),Bool.and_false]
   have c1:=eu hc;have c2:=eu hc2;have he2:abN (N.map aj.id) E[j]=true:=by unfold abN;rw[and_eq_true];exact⟨ew (Int.not_lt.1 c1),ew (Int.not_lt.1 c2)⟩
   refine b6 (by simp;omega) (b6 (by simp;omega) (hnx _ ⟨hj,?_,?_⟩))
   ·rw[take_add_one,getElem?_eq_getElem hj,Option.toList_some,map_append,map_append];rfl
   ·rw[take_add_one,getElem?_eq_getElem hj,Option.toList_some,all_append,ha];simpa using he2
  ·rintro s ⟨_,rfl,ha⟩;rw[take_length] at ha ⊢;rw[if_pos ha];exact Ok.mk rfl
 ·rintro i hi ⟨a,b,c⟩ ⟨h1,h2,h3⟩;simp only at h1 h2 h3;refine⟨λeE=>?_,by simp[h1],by simp[h2],by simp[h3]⟩;have:=hv _ (pT hi);rw[eo hi,cv (by simp only;omega),cv (by simp only;omega),aR (tZ (by omega)),cv (by simp only;omega)]
theorem aiw{t:Types}{N:List aj}{E:List ax}{next:Int}(h:dY t (fA N E next)):E.all (abN (N.map aj.id))=true:=by
 rw[all_eq_true];intro e he;obtain⟨j,hj,rfl⟩:=getElem_of_mem he;have:=h.host.graph.xN j (by simpa[fA] using hj);simp only[fA] at this;have hg:(E.map (oS (N.map aj.id))).getD j default=oS (N.map aj.id) E[j]:=by simp[hj]
 rw[hg] at this;unfold abN;rw[and_eq_true];exact⟨ew this.2.1.1,ew this.2.2.1⟩
def aix(a:ay)(p:aQ):Option (List aj×List ax) :=
 if ow eC (bG a) p.aG=true/\ow rZ (cD a) p.aM=true then
  if (ep (less eC (bG a) p.aG) p.values).2=true then
   if iA (ep (less eC (bG a) p.aG) p.values).1 (less rZ (cD a) p.aM) p=true then none
   else some (qA ((ep (less eC (bG a) p.aG) p.values).1++p.aV),sg (less rZ (cD a) p.aM++p.bn))
  else none
 else none
def xw(t:Types)(a:ay)(p:aQ):ay×Int :=
 if tu p≠0 then (mh,tu p) else if p.next.x0≠a.next then (mh,11) else match aix a p with
 |none=>(mh,11)
 |some s=>if l8 t (fA s.1 s.2 p.next.x1)≠0 then (mh,1) else (fA s.1 s.2 p.next.x1,0)
def kB(t:Types)(a:ay)(p:aQ):ay×Int:=if l8 t a≠0 then (mh,l8 t a) else xw t a p
section
variable{t:Types}{a:ay}{p:aQ}
theorem jN(ha:dY t a)(hb:vF a.host):Rows (bG a):=λn hn=>by
 obtain⟨i,hi,rfl⟩:=mem_map.1 hn;have hi:i<a.nodes.length:=by simpa using hi
 refine hb.row _ ?_;have:i<a.host.values.length:=by rw[ha.host.aiq,<-ha.aag];exact hi
 simp[aZ,this]
theorem aiy{α:Type}{q:α->α->Bool}{l r:List α} : (less q l r).length<=l.length:=length_filter_le _ _
theorem agf:∀ (r:List aO) (l:List aj),Rows l->Rows (ep l r).1
 | [],l,h=>h
 |v :: r,l,h=>by
  rw[ep];split
  ·exact agf r _ (afK h v)
  ·exact afK h v
theorem avU{N:List aj}{E:List ax}{next:Int}(h1:N.length<=1000)(h2:E.length<=1000)(h3:Rows N):oQ (fA N E next) :=
 ⟨⟨⟨by simpa[fA] using h1,by simpa[fA] using h2⟩,by simpa[fA] using h1,λl hl=>by
  obtain⟨n,hn,rfl⟩:=mem_map.1 hl;exact h3 n hn⟩,by simp[fA];omega,by simp[fA];omega⟩
structure Mid(a:ay)(p:aQ):Prop where
 n:(ep (less eC (bG a) p.aG) p.values).1.length<=40
 e:(less rZ (cD a) p.aM).length<=80
 rows:Rows (ep (less eC (bG a) p.aG) p.values).1
 agD:jE aj.id (ep (less eC (bG a) p.aG) p.values).1
 agE:jE ax.id (less rZ (cD a) p.aM)
theorem arv(ha:dY t a)(hb:vF a.host):Mid a p:=by have h1:=ha.n40;have h2:=ha.e80;have l1:=aiy (q:=eC) (l:=bG a) (r:=p.aG);have l2:=aiy (q:=rZ) (l:=cD a) (r:=p.aM);rw[iJ] at l1;rw[ia] at l2;exact⟨by rw[(agd _ _).len];omega,by omega,agf _ _ λn hn=>jN ha hb n (mem_filter.1 hn).1,aio _ _ (aij ha.agD),aij ha.agE⟩
theorem Small.add(hs:Small p)(hm:Mid a p)(hp:wH p)(next:Int):oQ (fA (qA ((ep (less eC (bG a) p.aG) p.values).1++p.aV)) (sg (less rZ (cD a) p.aM++p.bn)) next):=by
 have h1:=hm.n;have h2:=hm.e;have h3:=hs.an;have h4:=hs.ae;refine avU (by rw[avR,length_append];omega) (by rw[avS,length_append];omega) λn hn=>?_
 rcases mem_append.1 (acr.1 hn) with h|h
 ·exact hm.rows n h
 ·exact hp.av n h
theorem aoy(ho:Ordered p):p.aG.Pairwise λa b=>a.id≠b.id:=Pairwise.imp (λh=>by omega) ho.rn
theorem aoz(ho:Ordered p):p.aM.Pairwise λa b=>a.id≠b.id:=Pairwise.imp (λh=>by omega) ho.re
theorem akp(ht:iq t)(ha:dY t a)(hb:vF a.host)(hp:wH p):dU t a p=some (xw t a p):=by
 have h1:=ha.n40;have h2:=ha.e80;unfold dU xw;rw[aR (l_ordered hp),bh];by_cases hsh:tu p=0;rotate_left
 ·rw[if_neg hsh,if_pos hsh];rfl
 obtain⟨hs,ho⟩:=vb.1 hsh;rw[if_pos hsh,if_neg (λh=>h hsh),bh];by_cases hx:p.next.x0=a.next
 rotate_left
 ·rw[if_neg hx,if_pos hx];rfl
 rw[if_pos hx,if_neg (λh=>h hx),aR (show fe ⟨a.host,a.nodes,a.ah,a.next⟩=_ from air ha λl hl=>by have:=hb.row l hl;omega)];rw[aR (aDr ⟨bG a,cD a⟩ p (by rw[iJ];omega) (by rw[ia];omega) (jN ha hb) hp)];obtain⟨c1,c2⟩:=abJ (q:=eC) (λ_ _=>pe) p.aG (bG a) ha.agD (aoy ho);obtain⟨d1,d2⟩:=abJ (q:=rZ) (λ_ _=>u9) p.aM (cD a) ha.agE (aoz ho);unfold aAd aix;simp only[c1,d1] at c2 d2 ⊢;by_cases g1:ow rZ (cD a) p.aM=true;rotate_left
 ·rw[if_neg g1,cond_false,if_neg λh=>g1 h.2];rfl
 by_cases g2:ow eC (bG a) p.aG=true;rotate_left
 ·rw[if_pos g1,if_neg g2,cond_false,if_neg λh=>g2 h.1];rfl
 rw[if_pos g1,if_pos g2,if_pos ⟨g2,g1⟩,c2 g2,d2 g1];have hm:=arv (p:=p) ha hb;have m1:=hm.n;have m2:=hm.e;by_cases g3:(ep (less eC (bG a) p.aG) p.values).2=true;rotate_left
 ·rw[if_neg g3];simp only[not_eq_true] at g3;simp only[g3,cond_false];try rfl
 rw[if_pos g3];simp only[g3,cond_true];rw[aR (aDs _ p (by simp only;omega) (by simp only;omega) hm.agD hm.agE hp ho)];unfold aAe;simp only;by_cases g4:iA (ep (less eC (bG a) p.aG) p.values).1 (less rZ (cD a) p.aM) p=true
 ·rw[if_pos g4,if_pos g4];rfl
 rw[if_neg g4,if_neg g4];simp only[cond_true];have hbt:=hs.add hm hp p.next.x1
 have e1:=hbt.nodes;have e2:=hbt.ah;have e3:=hbt.host.row;rw[aR (uL _ _ (by simpa[fA] using e1) (by simpa[fA] using e2) λn hn=>e3 _ (mem_map_of_mem hn))];rw[aR (show bO ⟨t.nodes,t.ah⟩ _=_ from kK ht hbt),bh];by_cases g5:l8 t (fA (qA ((ep (less eC (bG a) p.aG) p.values).1++p.aV)) (sg (less rZ (cD a) p.aM++p.bn)) p.next.x1)=0
 ·rw[if_pos g5,if_neg (λh=>h g5)]
 ·rw[if_neg g5,if_pos g5];rfl
theorem aAf(ht:iq t)(hb:oQ a)(hp:wH p):gy t a p=some (kB t a p):=by
 unfold gy kB;rw[aR (show bO ⟨t.nodes,t.ah⟩ ⟨a.host,a.nodes,a.ah,a.next⟩=_ from kK ht hb),bh];by_cases h:l8 t a=0
 ·rw[if_pos h,if_neg (λh2=>h2 h),aR (show dU ⟨t.nodes,t.ah⟩ ⟨a.host,a.nodes,a.ah,a.next⟩ p=_ from akp ht (ef.1 h) hb.host hp)]
 ·rw[if_neg h,if_pos h];rfl
theorem aoA(ht:iq t)(ha:dY t a)(hb:vF a.host)(hp:wH p):iN t a p=some (xw t a p):=by
 have h1:=ha.n40;have h2:=ha.e80;unfold iN xw;rw[aR (aAc hp),kJ,bh];by_cases hsh:tu p=0;rotate_left
 ·rw[if_neg hsh,if_pos hsh]
 obtain⟨hs,ho⟩:=vb.1 hsh;have s1:=hs.rn;have s2:=hs.re;have s3:=hs.an;have s4:=hs.ae;have s5:=hs.va;rw[if_pos hsh,if_neg (λh=>h hsh)];rw[aR (yp ⟨by rw[ha.aag];exact Nat.le_refl _,by rw[ha.host.aiq,ha.aag];exact Nat.le_refl _,by omega,λl hl=>by have:=hb.row l hl;omega,by omega,by omega,by omega,by omega,by omega,λn hn=>by have:=hp.rv n hn;omega⟩)];rw[aR (uK ha),aR (yp (by rw[ia];omega)),kJ,bh];by_cases hx:p.next.x0=a.next
 rotate_left
 ·rw[if_neg hx,if_pos hx]
 rw[if_pos hx,if_neg (λh=>h hx)];obtain⟨c1,c2⟩:=aii (q:=eC) (λ_ _=>pe) p.aG (bG a) 0 ha.agD (aoy ho);obtain⟨d1,d2⟩:=aii (q:=rZ) (λ_ _=>u9) p.aM (cD a) 0 ha.agE (aoz ho);rw[aik,ail,c1,d1,kJ];unfold aix;by_cases g1:ow eC (bG a) p.aG=true/\ow rZ (cD a) p.aM=true;rotate_left
 ·rw[if_neg g1];have:(ow eC (bG a) p.aG&&ow rZ (cD a) p.aM)=false:=by rw[eq_false_iff];intro h;exact g1 (by rw[and_eq_true] at h;exact h)
  rw[this,cond_false]
 rw[if_pos g1,g1.1,g1.2,Bool.and_true,cond_true,c2 (c1.trans g1.1),d2 (d1.trans g1.2)];have hm:=arv (p:=p) ha hb;have m1:=hm.n;have m2:=hm.e;have l1:=aiy (q:=eC) (l:=bG a) (r:=p.aG);rw[iJ] at l1;rw[aR (yp ⟨by omega,by omega⟩)];obtain⟨v1,v2⟩:=ain p.values (less eC (bG a) p.aG) (aij ha.agD);rw[v1,kJ];by_cases g3:(ep (less eC (bG a) p.aG) p.values).2=true;rotate_left
 ·rw[if_neg g3];simp only[not_eq_true] at g3;rw[g3,cond_false]
 rw[if_pos g3,g3,cond_true,v2 (v1.trans g3)];rw[aR (yp ⟨by omega,λhf=>⟨aox (rS hm.agD ho.an λa ha b hb=>((adX hf).1 b hb).1 a ha),aox (rS hm.agE ho.ae λa ha b hb=>((adX hf).2 b hb).2 a ha)⟩⟩)];by_cases g4:iA (ep (less eC (bG a) p.aG) p.values).1 (less rZ (cD a) p.aM) p=true
 ·rw[if_pos g4,g4,cond_true]
 rw[if_neg g4];simp only[not_eq_true] at g4;rw[g4,cond_false];have hbt:=hs.add hm hp p.next.x1
 have e1:=hbt.nodes;have e2:=hbt.ah;have e3:=hbt.host.row;rw[aR (aeX _ _ _ (by simpa[fA] using e1) (by simpa[fA] using e2) λn hn=>e3 _ (mem_map_of_mem hn)),kJ];simp only;by_cases g5:l8 t (fA (qA ((ep (less eC (bG a) p.aG) p.values).1++p.aV)) (sg (less rZ (cD a) p.aM++p.bn)) p.next.x1)=0
 ·rw[if_pos (aiw (ef.1 g5)),if_neg (λh=>h g5),cond_true,aR (lE ht hbt),kJ,bh,if_pos g5]
 ·rw[if_pos (c:=_≠_) g5];split
  ·rw[cond_true,aR (lE ht hbt),kJ,bh,if_neg g5]
  ·rw[cond_false]
theorem aai(ht:iq t)(hb:oQ a)(hp:wH p):cV t a p=some (kB t a p):=by
 unfold cV kB;rw[aR (show er ⟨t.nodes,t.ah⟩ ⟨a.host,a.nodes,a.ah,a.next⟩=_ from lE ht hb),bh];by_cases h:l8 t a=0
 ·rw[if_pos h,if_neg (λh2=>h2 h),aR (show iN ⟨t.nodes,t.ah⟩ ⟨a.host,a.nodes,a.ah,a.next⟩ p=_ from aoA ht (ef.1 h) hb.host hp)]
 ·rw[if_neg h,if_pos h];rfl
end
def al1(a:ay)(p:aQ):List aj:=(ep (less eC (bG a) p.aG) p.values).1
def arw(a:ay)(p:aQ):List ax:=less rZ (cD a) p.aM
def jD(a:ay)(p:aQ):ay:=fA (qA (al1 a p++p.aV)) (sg (arw a p++p.bn)) p.next.x1
structure gb(t:Types)(a:ay)(p:aQ):Prop where
 tk:dY t a
 small:Small p
 ord:Ordered p
 next:p.next.x0=a.next
 rn:ow eC (bG a) p.aG=true
 re:ow rZ (cD a) p.aM=true
 va:(ep (less eC (bG a) p.aG) p.values).2=true
 free:iA (al1 a p) (arw a p) p=false
 ok:dY t (jD a p)
theorem iw{t:Types}{a:ay}{p:aQ}(h:gb t a p):kB t a p=(jD a p,0):=by unfold kB xw aix;rw[if_neg (λh2=>h2 (ef.2 h.tk)),if_neg (λh2=>h2 (vb.2 ⟨h.small,h.ord⟩)),if_neg (λh2=>h2 h.next),if_pos ⟨h.rn,h.re⟩,if_pos h.va,if_neg (λh2=>by have h3:=h.free;unfold al1 arw at h3;rw[h3] at h2;cases h2)];exact if_neg (λh2=>h2 (ef.2 h.ok))
theorem qB{t:Types}{a:ay}{p:aQ} : (kB t a p).2=0↔gb t a p:=by
 constructor
 ·intro h;unfold kB at h;split at h
  ·rename_i h1;exact absurd h h1
  rename_i h1;unfold xw at h;split at h
  ·rename_i h2;exact absurd h h2
  rename_i h2;split at h
  ·cases h
  rename_i h3;obtain⟨s1,s2⟩:=vb.1 (Decidable.of_not_not h2);split at h
  ·cases h
  rename_i s hs;split at h
  ·cases h
  rename_i h4;unfold aix at hs;split at hs;rotate_left
  ·cases hs
  rename_i h5;split at hs;rotate_left
  ·cases hs
  rename_i h6;split at hs
  ·cases hs
  rename_i h7;cases hs;exact⟨ef.1 (Decidable.of_not_not h1),s1,s2,Decidable.of_not_not h3,h5.1,h5.2,h6,eq_false_iff.2 h7,ef.1 (Decidable.of_not_not h4)⟩
 ·intro h;rw[iw h]
theorem avV{α:Type}{q:α->α->Bool}(hq:∀a b,q a b=true↔a=b){l r:List α}(h:ow q l r=true):∀x∈r,x∈l:=λx hx=>by obtain⟨m,hm,e⟩:=any_eq_true.1 (all_eq_true.1 h x hx);rw[<- (hq _ _).1 e];exact hm
theorem asq:∀ (r:List aO) (l:List aj),(ep l r).2=true->∀v∈r,∃n∈l,n.id=v.id/\0<=v.attr/\v.attr<n.values.length
 | [],l,_,v,hv=>by cases hv
 |w :: r,l,h,v,hv=>by
  rw[ep] at h;split at h;rotate_left
  ·cases h
  rename_i ha;rcases mem_cons.1 hv with e|hv
  ·subst e;obtain⟨n,hn,hf⟩:=any_eq_true.1 ha;unfold lg okV at hf;simp only[and_eq_true,not_eq_true',decide_eq_true_eq,decide_eq_false_iff_not] at hf;exact⟨n,hn,hf.1,by omega,by omega⟩
  ·obtain⟨n,hn,h1,h2,h3⟩:=asq r _ h v hv;obtain⟨m,hm,rfl⟩:=mem_map.1 hn;rw[agN] at h1;rw[aim] at h3;exact⟨m,hm,h1,h2,h3⟩
section
variable{t:Types}{a:ay}{p q:aQ}
theorem gb.aHo(h:gb t a p){n:aj}(hn:n∈p.aG):n∈bG a:=avV (q:=eC) (λ_ _=>pe) h.rn n hn
theorem abO{n:aj}(hn:n∈bG a):n.id∈a.nodes:=by rw[<-sZ];exact mem_map_of_mem hn
theorem tv{n:ax}(hn:n∈cD a):n.id∈a.ah:=by rw[<-qp];exact mem_map_of_mem hn
theorem gb.value(h:gb t a p){v:aO}(hv:v∈p.values):∃n∈bG a,n.id=v.id/\0<=v.attr/\v.attr<n.values.length/\n ∉ p.aG:=by obtain⟨n,hn,h1,h2,h3⟩:=asq p.values _ h.va v hv;obtain⟨hn1,hn2⟩:=mem_filter.1 hn;refine⟨n,hn1,h1,h2,h3,λhm=>?_⟩;have:(p.aG.any λm=>eC n m)=true:=any_eq_true.2 ⟨n,hm,pe.2 rfl⟩;rw[this] at hn2;cases hn2
theorem gb.n1(h:gb t a p):0<=p.next.x1/\p.next.x1<=1000000:=h.ok.next
theorem gb.n0(h:gb t a p):0<=p.next.x0/\p.next.x0<=1000000:=by rw[h.next];exact h.tk.next
theorem gb.ids(h:gb t a p):(∀n∈p.aV,0<=n.id/\n.id<p.next.x1)/\∀e∈p.bn,0<=e.id/\e.id<p.next.x1:=⟨λn hn=>h.ok.nid.1 _ (mem_map_of_mem (acr.2 (mem_append_right _ hn))),λn hn=>h.ok.eid.1 _ (mem_map_of_mem (acs.2 (mem_append_right _ hn)))⟩
end
structure aCB(p:aQ):Prop where
 next:p.next.x0<=p.next.x1
 n:∀n∈p.aV,p.next.x0<=n.id
 e:∀n∈p.bn,p.next.x0<=n.id
section
variable{t:Types}{a:ay}{p q:aQ}
structure Both(t:Types)(a:ay)(p q:aQ):Prop where
 ap:gb t a p
 aq:gb t a q
 gp:aCB p
 gq:aCB q
 next:p.next.x1+q.next.x1-q.next.x0<=1000000
end
def aiz(p:aQ)(id:Int):Bool:=p.aG.any λn=>decide (n.id=id)
section
variable{p q:aQ}
end
theorem akq{α β:Type}(g:α->List β):∀ (l:List α) (s:List β),l.foldl (λs a=>s++g a) s=s++l.flatMap g
 | [],s=>by simp
 |a :: l,s=>by rw[foldl_cons,akq g l];simp
theorem yJ{α β O:Type}{f:Nat->List β->(List β->Option O)->(List β->Option O)->Option O}{K:List β->Option O}{s:List β}(l:List α)(g:α->List β)(k:Nat)(hg:∀a∈l,(g a).length<=k)
  (h:∀i (hi:i<l.length) (s':List β),s'.length<=s.length+k * i->∀eE,f i s' eE K=eE (s'++g l[i])):bZ f (l.length-0) 0 s K=K (s++l.flatMap g):=by
 rw[(yG l (λs a=>s++g a) (λi s'=>s'.length<=s.length+k * i) (by simp) λi hi s' hs'=>⟨λeE=>h i hi s' hs' eE,by
  have:=hg _ (pT hi);rw[length_append,Nat.mul_add];omega⟩).1,akq]
section
variable{p q:aQ}
end
theorem s0{β O:Type}{f:Nat->List β->(List β->Option O)->(List β->Option O)->Option O}{K:List β->Option O}{s:List β}(n:Nat)(g:Nat->List β)(k:Nat)(hg:∀i,i<n->(g i).length<=k)
  (h:∀i (hi:i<n) (s':List β),s'.length<=s.length+k * i->∀eE,f i s' eE K=eE (s'++g i)):bZ f (n-0) 0 s K=K (s++(range n).flatMap g):=by
 have:=yJ (f:=f) (K:=K) (s:=s) (range n) g k (λi hi=>hg i (mem_range.1 hi)) λi hi s' hs' eE=>by rw[getElem_range];exact h i (by simpa using hi) s' hs' eE
 rwa [length_range] at this
section
variable{t:Types}{a:ay}{p q:aQ}
theorem aaj{α β:Type}(b:α->Bool)(f:α->β)(l:List α):(l.flatMap λa=>if b a=true then [f a] else [])=(l.filter b).map f:=by
 induction l with
 |nil=>rfl
 |cons x l ih=>rw[flatMap_cons,ih,filter_cons];split<;>simp
theorem al2{id:Int} : aiz p id=true↔∃n∈p.aG,n.id=id:=by unfold aiz;rw[any_eq_true];simp only[decide_eq_true_eq]
theorem dY.small(h:dY t a){id:Int}(hi:id∈a.nodes):0<=id/\id<=1000000:=by
 have h1:=h.nid.1 id hi;have h2:=h.next
 omega
end
section
variable{t:Types}{a:ay}{p q:aQ}
theorem acu{n:aj}(h:n∈bG a):∃i,i<a.nodes.length/\n=aZ a i:=by obtain⟨i,hi,rfl⟩:=mem_map.1 h;exact⟨i,by simpa using hi,rfl⟩
end
section
variable{t:Types}{a:ay}{p q:aQ}
theorem iQ{ids:List Int}{n:Int} : 0<=bD ids n↔n∈ids:=by
 unfold bD;have:=agM (q:=λy=>decide (y=n)) (l:=ids);constructor
 ·intro h;rw[ew h] at this;obtain⟨y,hy,e⟩:=any_eq_true.1 this.symm;rw[<-bX e];exact hy
 ·intro h;rw[any_eq_true.2 ⟨n,h,ew rfl⟩] at this;exact bX this
theorem gb.ends(h:gb t a p){e:ax}(he:e∈arw a p++p.bn):e.src∈(qA (al1 a p++p.aV)).map aj.id/\e.dst∈(qA (al1 a p++p.aV)).map aj.id:=by have:=all_eq_true.1 (aiw (N:=qA (al1 a p++p.aV)) (E:=sg (arw a p++p.bn)) (next:=p.next.x1) h.ok) e (acs.2 he);unfold abN at this;rw[and_eq_true] at this;exact⟨iQ.1 (bX this.1),iQ.1 (bX this.2)⟩
end
structure Nums(p q:aQ):Prop where
 x0:0<=p.next.x0/\p.next.x0<=1000000
 x1:0<=p.next.x1/\p.next.x1<=1000000
 y0:0<=q.next.x0/\q.next.x0<=1000000
 y1:0<=q.next.x1/\q.next.x1<=1000000
 n:∀n∈q.aV,0<=n.id/\n.id<=1000000
 e:∀e∈q.bn,(0<=e.id/\e.id<=1000000)/\(0<=e.src/\e.src<=1000000)/\0<=e.dst/\e.dst<=1000000
theorem adn{l:List aj}(h:l.length<=1000000)(hv:Rows l):eO l=some l:=by
 unfold eO;rw[cv (bU (by omega))];rw[yJ l (λn=>[n]) 1 (λn _=>by simp) λi hi s hs eE=>?_]
 ·simp
 ·have:=hv _ (pT hi);simp only[length_nil] at hs;rw[eo hi,cv (by omega),cv (by omega)]
theorem ado{p:aQ}(hp:wH p):eP p=some p:=by have h1:=hp.re;have h2:=hp.ae;have h3:=hp.va;unfold eP;rw[aR (adn hp.rn hp.rv),cv (by omega),aR (adn hp.an hp.av),cv (by omega),cv (by omega)]
theorem agh{α β:Type}(f:α->β)(l:List α):(l.flatMap λa=>[f a])=l.map f:=by
 induction l with
 |nil=>rfl
 |cons x l ih=>rw[flatMap_cons,ih];rfl
section
variable{p q:aQ}
end
section
variable{t:Types}{h:Host}
end
section
variable{t:Types}{a:ay}{p q:aQ}
theorem gb.aoB(h:gb t a p)(hb:vF a.host)(hp:wH p):oQ (jD a p):=h.small.add (arv h.tk hb) hp _
theorem agi:∀ (r:List aO) (l:List aj) (n:aj),n∈l->(∀v∈r,v.id≠n.id)->n∈(ep l r).1
 | [],l,n,h,_=>h
 |v :: r,l,n,h,hv=>by
  have hp:qJ v n=n:=by unfold qJ;rw[if_neg];unfold lg;rw[gd λe=>hv v (mem_cons_self ..) e.symm,Bool.false_and];simp
  have h':n∈l.map (qJ v):=mem_map.2 ⟨n,h,hp⟩;rw[ep];split
  ·exact agi r _ n h' λw hw=>hv w (mem_cons_of_mem _ hw)
  ·exact h'
theorem gb.keep(h:gb t a p){n:aj}(hn:n∈bG a)(hr:aiz p n.id=false)(hv:∀v∈p.values,v.id≠n.id):n∈al1 a p:=by
 refine agi _ _ n (mem_filter.2 ⟨hn,?_⟩) hv;cases hx:p.aG.any λm=>eC n m with
 |false=>rfl
 |true=>obtain⟨m,hm,e⟩:=any_eq_true.1 hx;have:=pe.1 e;subst this;rw[al2.2 ⟨n,hm,rfl⟩] at hr;cases hr
theorem gb.agD(h:gb t a p):jE aj.id (qA (al1 a p++p.aV)):=jE.asm (f:=id) h.ok.nid.2
theorem gb.agE(h:gb t a p):jE ax.id (sg (arw a p++p.bn)):=jE.asm (f:=id) h.ok.eid.2
theorem alZ.ids{l m:List aj}(h:alZ l m):l.map aj.id=m.map aj.id:=by have:=congrArg (List.map λx:Int×Int×Nat=>x.1) h;rw[map_map,map_map] at this;exact this
end
section
variable{t:Types}{x:ay}
end
section
variable{t:Types}{a x y z:ay}{p q:aQ}
theorem yK{x:ay}(hx:oQ x):cm x=some x:=by
 have h1:=hx.nodes;have h2:=hx.ah;have h3:=hx.host.graph.nodes;have h4:=hx.host.graph.ah;have h5:=hx.host.values;unfold cm;rw[aR (show ck x.host=some x.host by
  unfold ck;rw[aR (show iB x.host.graph=some x.host.graph by unfold iB;rw[cv (by omega),cv (by omega)]),cv (bU (by omega))];rw[yJ x.host.values (λl=>[l]) 1 (λ_ _=>by simp) λi hi s hs eE=>?_]
  ·simp
  ·have:=hx.host.row _ (pT hi);simp only[length_nil] at hs;rw[eo hi,cv (by omega),cv (by omega)]),cv (by omega),cv (by omega)]
end
theorem agO{α:Type} [Inhabited α]{l:List α}{i:Nat}(h:i<l.length):l.getD i default=l[i]:=by simp[h]
theorem aCd{α:Type} [Inhabited α]{l:List α}{x:α}(h:x∈l):∃j,j<l.length/\l.getD j default=x:=by obtain⟨j,hj,rfl⟩:=getElem_of_mem h;exact⟨j,hj,by simp[hj]⟩
structure arx(t:Types):Prop where
 attrs:∀n∈t.nodes,n.attrs.length<=1125899906842624
theorem aDt{t:Types}(hm:arx t):Ok (jq t) (λb=>b=true->iq t):=by
 have no:Ok (some false) (λb=>b=true->iq t):=Ok.mk (λh=>absurd h (by decide));unfold jq;refine b9 (λ_=>no) (λh1=>b9 (λ_=>no) (λh2=>?_));have h1:=eu h1;have h2:=eu h2;refine b6 (bU (by omega)) ?_;refine nZ (λi (s:Int)=>(0<=s/\s<=30)/\∀j,j<i->(t.nodes.getD j default).attrs.length<=30/\(t.nodes.getD j default).name.size<=40/\∀a∈(t.nodes.getD j default).attrs,a.name.size<=40/\a.names.length<=25/\∀s∈a.names,s.size<=40) (zero_le _) ⟨⟨by omega,by omega⟩,λj hj=>absurd hj (not_lt_zero j)⟩ ?_ ?_
 ·rintro i s eE _ hi ⟨hs,hq⟩ hn;have hA:=hm.attrs _ (pT hi);refine nI hi ?_;rw[gl (by omega)];refine b9 (λ_=>no) (λh3=>b9 (λ_=>no) (λh4=>?_));have h3:=eu h3;have h4:=eu h4;refine b6 (bU (by omega)) ?_;refine nZ (λk (_:Unit)=>∀j,j<k->((t.nodes[i].attrs.getD j default).name.size<=40/\(t.nodes[i].attrs.getD j default).names.length<=25/\∀s∈(t.nodes[i].attrs.getD j default).names,s.size<=40)) (zero_le _) (λj hj=>absurd hj (not_lt_zero j)) ?_ ?_
  ·rintro k _ yL _ hk hq2 hn2;refine nI hk (b9 (λ_=>no) (λh5=>b9 (λ_=>no) (λh6=>?_)));have h5:=eu h5;have h6:=eu h6;refine b6 (bU (by omega)) ?_;refine nZ (λm (_:Unit)=>∀j,j<m->(t.nodes[i].attrs[k].names.getD j default).size<=40) (zero_le _) (λj hj=>absurd hj (not_lt_zero j)) ?_ ?_
   ·rintro m _ nxt3 _ hm3 hq3 hn3;refine nI hm3 (b9 (λ_=>no) (λh7=>hn3 _ λj hj=>?_));have h7:=eu h7;rcases Nat.lt_succ_iff_lt_or_eq.1 hj with h|h
    ·exact hq3 j h
    ·subst h;rw[agO hm3];omega
   ·rintro _ hq3;refine hn2 _ λj hj=>?_
    rcases Nat.lt_succ_iff_lt_or_eq.1 hj with h|h
    ·exact hq2 j h
    ·subst h;rw[agO hk];refine⟨by omega,by omega,λs hs=>?_⟩;obtain⟨j,hj,rfl⟩:=aCd hs;exact hq3 j hj
  ·rintro _ hq2;refine hn _ ⟨⟨by omega,by omega⟩,λj hj=>?_⟩;rcases Nat.lt_succ_iff_lt_or_eq.1 hj with h|h
   ·exact hq j h
   ·subst h;rw[agO hi];refine⟨by omega,by omega,λa ha=>?_⟩;obtain⟨j,hj,rfl⟩:=aCd ha;exact hq2 j hj
 ·rintro s ⟨_,hq⟩;refine b6 (bU (by omega)) ?_;refine nZ (λk (_:Unit)=>∀j,j<k->(t.ah.getD j default).name.size<=40) (zero_le _) (λj hj=>absurd hj (not_lt_zero j)) ?_ ?_
  ·rintro k _ yL _ hk hq2 hn2;refine nI hk (b9 (λ_=>no) (λh5=>hn2 _ λj hj=>?_));have h5:=eu h5;rcases Nat.lt_succ_iff_lt_or_eq.1 hj with h|h
   ·exact hq2 j h
   ·subst h;rw[agO hk];omega
  ·rintro _ hq2;have hall:∀n∈t.nodes,n.attrs.length<=30/\n.name.size<=40/\∀a∈n.attrs,a.name.size<=40/\a.names.length<=25/\∀s∈a.names,s.size<=40:=λn hn=>by obtain⟨j,hj,rfl⟩:=aCd hn;exact hq j hj
   exact Ok.mk λ_=>⟨by omega,by omega,λn hn=>(hall n hn).1,λn hn=>(hall n hn).2.1,λn hn a ha=>((hall n hn).2.2 a ha).1,λn hn a ha=>((hall n hn).2.2 a ha).2.1,λn hn a ha=>((hall n hn).2.2 a ha).2.2,λe he=>by
    obtain⟨j,hj,rfl⟩:=aCd he;exact hq2 j hj⟩
theorem aDu(g:bE):Ok (jr g) (λb=>b=true->auv g):=by unfold jr;refine b9 (λh1=>Ok.mk λh2=>?_) (λ_=>Ok.mk λh=>absurd h (by decide));have h1:=bX h1;have h2:=bX h2;exact⟨by omega,by omega⟩
theorem abP{α O:Type}{Q:O->Prop}{f:Nat->Unit->(Unit->Option O)->(Unit->Option O)->Option O}{K:Unit->Option O}(l:List α)(p:α->Prop)
  (hr:∀j (eE:Unit->Option O) (hj:j<l.length),(p l[j]->Ok (eE ()) Q)->Ok (f j () eE K) Q) (he:(∀x∈l,p x)->Ok (K ()) Q):Ok (bZ f (l.length-0) 0 () K) Q:=by
 refine nZ (λj _=>∀i (h:i<l.length),i<j->p l[i]) (zero_le _) (λi _ h=>absurd h (not_lt_zero i)) (λj s eE _ hj hq hn=>?_) (λs hq=>?_)
 ·refine hr j eE hj λhp=>hn () λi h hi=>?_
  rcases Nat.lt_succ_iff_lt_or_eq.1 hi with h'|h'
  ·exact hq i h h'
  ·subst h';exact hp
 ·refine he λx hx=>?_
  obtain⟨i,hi,rfl⟩:=mem_iff_getElem.1 hx;exact hq i hi hi
theorem aDv(h:Host):Ok (js h) (λb=>b=true->aBH h):=by
 have no:∀ {Q:Prop},(false=true->Q):=λh=>by cases h
 unfold js;refine qY (aDu h.graph) λb hb=>?_
 refine b9 (λh1=>?_) (λ_=>.mk no);refine b9 (λ_=>.mk no) (λh2=>?_);have h2':=eu h2;refine b6 (bU (by omega)) ?_;refine abP h.values (λl=>l.length<=12) (λi eE hi hn=>?_) (λhall=>.mk λ_=>⟨hb h1,by omega,hall⟩);refine nI hi ?_;refine b9 (λ_=>.mk no) (λh7=>?_);have h7':=eu h7;exact hn (by omega)
structure aoC(x:ay):Prop where
 nodes:x.nodes.length<=1125899906842624
 ah:x.ah.length<=1125899906842624
theorem aDw{x:ay}(hx:aoC x):Ok (jt x) (λb=>b=true->oQ x):=by
 have h1:=hx.nodes;have h2:=hx.ah;unfold jt;refine qY (aDv x.host) λb hb=>?_
 refine b9 (λh0=>.mk λh=>?_) (λ_=>.mk λh=>by cases h);have h:=bX h;rw[gl (by omega)] at h;exact⟨(hb h0).xL,by omega,by omega⟩
theorem aAg(p:aQ):Ok (dL p) (λb=>b=true->wH p):=by
  have no:∀ {Q:Prop},(false=true->Q):=λh=>by cases h
  unfold dL;refine b9 (λ_=>.mk no) (λh1=>?_);have h1:=eu h1;have b1:p.aG.length<=510:=by omega
  have b2:p.aM.length<=510:=by omega
  have b3:p.aV.length<=510:=by omega
  have b4:p.bn.length<=510:=by omega
  have b5:p.values.length<=510:=by omega
  have fin:Ok (cz (p.aG.length<=fuel) <|
 bZ (λaFr (aFs:Unit) aAh aFt =>
  thn (p.aG[aFr]?) λaFu =>
  cond (decide (12<((aFu.values.length:Nat):Int))) (
   some false) <|
  aAh ())
 (p.aG.length-0) 0 () λaFs =>
 cz (p.aV.length<=fuel) <|
 bZ (λaFv (aFw:Unit) aAi aFx =>
  thn (p.aV[aFv]?) λaFy =>
  cond (decide (12<((aFy.values.length:Nat):Int))) (
   some false) <|
  aAi ())
 (p.aV.length-0) 0 () λaFw =>
 some true) (fun b => b = true → wH p) := by
    refine b6 (bU (by omega)) ?_;refine abP p.aG (λn=>n.values.length<=12) (λi eE hi hn=>?_) (λh2=>?_)
    · refine nI hi (b9 (λ_=>.mk no) (λh7=>?_));have h7':=eu h7;exact hn (by omega)
    refine b6 (bU (by omega)) ?_;refine abP p.aV (λn=>n.values.length<=12) (λi eE hi hn=>?_) (λh3=>?_)
    · refine nI hi (b9 (λ_=>.mk no) (λh7=>?_));have h7':=eu h7;exact hn (by omega)
    exact .mk λ_=>⟨by omega,by omega,by omega,by omega,by omega,λn hn=>by have:=h2 n hn;omega,λn hn=>by have:=h3 n hn;omega⟩
  refine b9 (λ_=>b9 (λ_=>.mk no) (λ_=>fin)) (λ_=>fin)
theorem avW{a:List Int}(h:a.length<=1000000):gY a a=some 0:=by
 refine Ok.eq ?_;unfold gY;refine agJ (λs:Int=>0<=s/\s<=a.length) (λs:Int=>((a.length:Int)-s).toNat) ⟨by simp,by simp⟩ (by unfold fuel;simp;omega) (λs eE hs hn=>?_);refine b9 (λh1=>?_) (λh1=>.mk ?_)
 ·have uq:=bX h1;refine tM h1 ?_;refine nT hs.1 (by omega) ?_;refine nT hs.1 (by omega) ?_;refine tM (ew rfl) ?_;rw[gl (by omega)];exact hn _ ⟨by omega,by omega⟩ (by omega)
 ·rw[Int.sub_self];rfl
theorem aCe{g:bE}(h:alv g):jc g g=some true:=by have h1:=h.nodes;have h2:=h.ah;refine Ok.eq ?_;unfold jc;refine ok_eq (aah (by omega)) (tM (ew rfl) (tM (ew rfl) (b6 (bU (by omega)) ?_)));refine abP g.ah (λ_=>True) (λi eE hi hn=>?_) (λ_=>.mk rfl);exact nI hi (nI hi (tM (by simp) (hn trivial)))
theorem aCf{h:Host}(hb:vF h):jd h h=some true:=by have h1:=hb.values;refine Ok.eq ?_;unfold jd;refine ok_eq (aCe hb.graph) (tM rfl (tM (ew rfl) (b6 (bU (by omega)) ?_)));refine abP h.values (λ_=>True) (λi eE hi hn=>?_) (λ_=>.mk rfl);exact nI hi (nI hi (ok_eq (avW (by have:=hb.row _ (pT hi);omega)) (tM rfl (hn trivial))))
theorem al3{x:ay}(hx:oQ x):eW x x=some true:=by have h1:=hx.nodes;have h2:=hx.ah;refine Ok.eq ?_;unfold eW;exact ok_eq (aCf hx.host) (tM rfl (ok_eq (aah h1) (tM (ew rfl) (ok_eq (aah h2) (tM (ew rfl) (.mk (ew rfl)))))))
theorem avX:oQ mh:=⟨⟨⟨by simp[mh],by simp[mh]⟩,by simp[mh],λl hl=>by cases hl⟩,by simp[mh],by simp[mh]⟩
section
variable{t:Types}{a:ay}{p q:aQ}
end
def vp:aQ:=⟨[⟨1,1,[10]⟩],[⟨3,0,0,1⟩],[],[],[],⟨5,5⟩⟩
def ya:aQ:=⟨[],[],[],[⟨5,1,1,2⟩],[],⟨5,6⟩⟩
theorem akr{σ O:Type}{f:Nat->σ->(σ->Option O)->(σ->Option O)->Option O}{K:σ->Option O}{bad:Option O}(n:Nat)(ok:Nat->Bool)(step:σ->Nat->σ)(inv:Nat->σ->Prop)
  (h:∀i s,i<n->inv i s->(ok i=true->inv (i+1) (step s i))/\∀eE,f i s eE K=cond (ok i) (eE (step s i)) bad):∀ (k i:Nat) (s:σ),i+k=n->inv i s ->
  bZ f k i s K=cond ((range' i k).all ok) (K ((range' i k).foldl step s)) bad
 |0,i,s,_,_=>rfl
 |k+1,i,s,hk,hi=>by
  obtain⟨h1,h2⟩:=h i s (by omega) hi;rw[bZ,h2,range'_succ,all_cons,foldl_cons];cases ho:ok i with
  |false=>rfl
  |true=>rw[Bool.true_and,cond_true];exact akr n ok step inv h k (i+1) _ (by omega) (h1 ho)
theorem acv{σ O:Type}{f:Nat->σ->(σ->Option O)->(σ->Option O)->Option O}{K:σ->Option O}{bad:Option O}{s:σ}(n:Nat)(ok:Nat->Bool)(step:σ->Nat->σ)(inv:Nat->σ->Prop)(h0:inv 0 s)
  (h:∀i s,i<n->inv i s->(ok i=true->inv (i+1) (step s i))/\∀eE,f i s eE K=cond (ok i) (eE (step s i)) bad) :
  bZ f (n-0) 0 s K=cond ((range n).all ok) (K ((range n).foldl step s)) bad:=by
 rw[akr n ok step inv h (n-0) 0 s (by omega) h0,Nat.sub_zero,range_eq_range']
theorem aks{α β γ:Type}(b:α->Bool)(f:α->β)(g:α->List γ):∀ (l:List α) (s:List β×List γ),l.foldl (λs a=>if b a=true then (s.1++[f a],s.2) else (s.1,s.2++g a)) s=(s.1++(l.filter b).map f,s.2++(l.filter λa=>!b a).flatMap g)
 | [],s=>by simp
 |a :: r,s=>by rw[foldl_cons,aks b f g r,filter_cons,filter_cons];cases h:b a<;>simp
theorem asr{α β:Type}(b:α->Bool)(f:α->β):∀ (l:List α) (s:List β),l.foldl (λs a=>if b a=true then s++[f a] else s) s=s++(l.filter b).map f
 | [],s=>by simp
 |a :: r,s=>by rw[foldl_cons,asr b f r,filter_cons];cases h:b a<;>simp
theorem aoD{α β:Type}(q:β->Bool)(f:α->β)(l:List α):aaR q (l.map f)=aaR (λa=>q (f a)) l:=by unfold aaR;rw[findIdx?_map];rfl
theorem aCg{α:Type}{q:α->Bool}{l:List α}(h:0<=aaR q l):(aaR q l).toNat<l.length:=by
 unfold aaR at *;cases hf:l.findIdx? q with
 |none=>rw[hf] at h;exact absurd h (by decide)
 |some i=>obtain⟨hi,_⟩:=findIdx?_eq_some_iff_getElem.1 hf;simpa using hi
def mW(ids:List Int)(n:Int):Bool:=decide (bD ids n<0)
theorem wh{ids:List Int}{n:Int} : mW ids n=true↔n ∉ ids:=by unfold mW;rw[decide_eq_true_iff,<-iQ];omega
def oz(a b:ay):List aj:=((range a.nodes.length).filter λi=>mW b.nodes (aZ a i).id).map (aZ a)
def sq(a b:ay):List ax:=((range a.ah.length).filter λi=>mW b.ah (cE a i).id).map (cE a)
def okN(a b:ay)(i:Nat):Bool:=!decide (0<=bD b.ah (aZ a i).id)&&(!decide (0<=bD b.nodes (aZ a i).id)||decide ((aZ b (bD b.nodes (aZ a i).id).toNat).type=(aZ a i).type))
def okD(a b:ay)(i:Nat):Bool:=!decide (0<=bD b.nodes (cE a i).id)&&(!decide (0<=bD b.ah (cE a i).id)||rZ (cE b (bD b.ah (cE a i).id).toNat) (cE a i))
def wI(id:Int)(l m:List Int)(k:Nat):List aO:=if l.getD k default=m.getD k default then [] else [⟨id,(k:Int),l.getD k default,m.getD k default⟩]
def aaT(a b:ay)(i:Nat):List aO:=(range (aZ a i).values.length).flatMap (wI (aZ a i).id (aZ a i).values (aZ b (bD b.nodes (aZ a i).id).toNat).values)
def sr(a b:ay):List aO:=((range a.nodes.length).filter λi=>!mW b.nodes (aZ a i).id).flatMap (aaT a b)
def wj:aQ:=⟨[],[],[],[],[],⟨0,0⟩⟩
def gh(a b:ay):Bool:=(range a.nodes.length).all (okN a b)&&(range a.ah.length).all (okD a b)
def xx(a b:ay):aQ×Bool:=if gh a b=true then (⟨oz a b,sq a b,oz b a,sq b a,sr a b,⟨a.next,b.next⟩⟩,true) else (wj,false)
def xy(t:Types)(a b:ay):aQ×Int :=
 if l8 t a≠0 then (wj,l8 t a)
 else if l8 t b≠0 then (wj,l8 t b)
 else if gh a b=true then ((xx a b).1,0) else (wj,11)
section
variable{t:Types}{a b:ay}
theorem aaJ(h:dY t a)(hv:∀l∈a.host.values,l.length<=1000000):lD a=some (bG a):=by
 have hn:=h.n40;unfold lD;rw[cv (bU (by omega)),s0 a.nodes.length (λi=>[aZ a i]) 1 (λ_ _=>Nat.le_refl _) λi hi s hs eE=>by
  have h1:i<a.host.graph.nodes.length:=by rw[<-h.aag];exact hi
  have h2:i<a.host.values.length:=by rw[h.host.aiq];exact h1
  have h3:=hv _ (pT h2);rw[length_nil] at hs;rw[eo hi,eo h1,eo h2,aR (tZ h3),cv (by omega)];unfold aZ;simp[hi,h1,h2]]
 rw[nil_append,agh];rfl
theorem aiA(hb:b.nodes.length<=1000000)(n:Int):jA (bG b) n=some (bD b.nodes n):=by unfold jA;rw[aR (uH (p:=λx=>kS x n) (λx=>decide (x.id=n)) (by rw[iJ];exact hb) λx _=>rfl),<-aoD (λy=>decide (y=n)) aj.id,sZ];rfl
theorem aiB(hb:b.ah.length<=1000000)(n:Int):jB (cD b) n=some (bD b.ah n):=by unfold jB;rw[aR (uI (p:=λx=>kT x n) (λx=>decide (x.id=n)) (by rw[ia];exact hb) λx _=>rfl),<-aoD (λy=>decide (y=n)) ax.id,qp];rfl
theorem gV{ids:List Int}{n:Int}(h:0<=bD ids n):(bD ids n).toNat<ids.length:=aCg h
theorem adZ(a:ay){i:Nat}(h:i<(bG a).length):(bG a)[i]=aZ a i:=by simp[bG]
theorem ad0(a:ay){i:Nat}(h:i<(cD a).length):(cD a)[i]=cE a i:=by simp[cD]
theorem aeY(ha:dY t a)(hb:dY t b){i j:Nat}(hi:i<a.nodes.length)(hj:j<b.nodes.length)(he:(aZ b j).type=(aZ a i).type):(aZ b j).values.length=(aZ a i).values.length:=by
 have key:∀ {x:ay},dY t x->∀ {k:Nat},k<x.nodes.length->(aZ x k).values.length=(bk t (aZ x k).type.toNat).length:=λ{x} hx {k} hk=>by
  have:=hx.host.node k (by rw[<-hx.aag];exact hk);unfold nH at this;split at this
  ·cases this
  ·split at this
   ·cases this
   ·split at this
    ·cases this
    ·rename_i h;exact Decidable.of_not_not h
 rw[key ha hi,key hb hj,he]
theorem aiC(h:dY t a)(hb:vF a.host){i:Nat}(hi:i<a.nodes.length):(aZ a i).values.length<=1000:=jN h hb _ (mem_map.2 ⟨i,mem_range.2 hi,rfl⟩)
theorem aiD(id:Int)(l m:List Int)(k:Nat):(wI id l m k).length<=1:=by unfold wI;split<;>simp
theorem aiE(h:dY t a)(hb:vF a.host){i:Nat}(hi:i<a.nodes.length):(aaT a b i).length<=1000:=by
 have:=aiC h hb hi;unfold aaT;have key:∀l:List Nat,(l.flatMap (wI (aZ a i).id (aZ a i).values (aZ b (bD b.nodes (aZ a i).id).toNat).values)).length<=l.length:=λl=>by
  induction l with
  |nil=>simp
  |cons x r ih=>have h1:=aiD (aZ a i).id (aZ a i).values (aZ b (bD b.nodes (aZ a i).id).toNat).values x;rw[flatMap_cons,length_append,length_cons];omega
 have:=key (range (aZ a i).values.length);rw[length_range] at this;omega
def ass(a b:ay)(s:List aj×List aO)(i:Nat):List aj×List aO:=if mW b.nodes (aZ a i).id=true then (s.1++[aZ a i],s.2) else (s.1,s.2++aaT a b i)
theorem aoE(ha:dY t a)(hb:dY t b)(ba:oQ a)(bb:oQ b):iO a b=some (xx a b):=by
 have n1:=ha.n40;have n2:=ha.e80;have n3:=hb.n40;have n4:=hb.e80;have r1:∀l∈a.host.values,l.length<=1000000:=λl hl=>le_trans (ba.host.row l hl) (by decide)
 have r2:∀l∈b.host.values,l.length<=1000000:=λl hl=>le_trans (bb.host.row l hl) (by decide)
 unfold iO;rw[aR (aaJ ha r1),aR (uK ha),aR (aaJ hb r2),aR (uK hb)];rw[iJ,cv (bU (by omega))];rw[acv (bad:=some (wj,false)) a.nodes.length (okN a b) (ass a b) (λi s=>s.1.length<=i/\s.2.length<=1000 * i) ⟨Nat.le_refl _,Nat.le_refl _⟩ λi s hi hs=>by
  have hv:=aiE (b:=b) ha ba.host hi;have hrow:=aiC ha ba.host hi;refine⟨λ_=>?_,λeE=>?_⟩
  ·unfold ass;split
   ·exact⟨by simp only[length_append,length_cons,length_nil];omega,by simp only;omega⟩
   ·exact⟨by simp only;omega,by simp only[length_append];omega⟩
  ·have hi':i<(bG a).length:=by rw[iJ];exact hi
   rw[eo hi',adZ a hi',aR (aiA (by omega) _),aR (aiB (by omega) _)]
   have inner : ∀ m : List Int, m.length = (aZ a i).values.length → ∀ f : Nat → List aO → (List aO → Option (aQ × Bool)) → (List aO → Option (aQ × Bool)) → Option (aQ × Bool),
     (∀k s' yL brk,(hk:k<(aZ a i).values.length)->(hk2:k<m.length)->s'.length<=1000000->f k s' yL brk=cond (decide ((aZ a i).values[k]=m[k])) (yL s') (yL (s'++[⟨(aZ a i).id,(k:Int),(aZ a i).values[k],m[k]⟩]))) ->
     cz ((aZ a i).values.length<=fuel) (bZ f ((aZ a i).values.length-0) 0 s.2 λaFz=>eE (s.1,aFz))=eE (s.1,s.2++(range (aZ a i).values.length).flatMap (wI (aZ a i).id (aZ a i).values m)):=λm hm f hf=>by
    rw[cv (bU (by omega)),s0 (aZ a i).values.length (wI (aZ a i).id (aZ a i).values m) 1 (λk _=>aiD _ _ _ k) λk hk s' hs' yL=>by
     rw[hf k s' yL _ hk (by omega) (by omega),bh];have e1:(aZ a i).values.getD k default=(aZ a i).values[k]:=by simp[hk]
     have e2:m.getD k default=m[k]'(by omega):=by simp[show k<m.length by omega]
     unfold wI;rw[e1,e2];split
     ·rw[append_nil]
     ·rfl]
   unfold okN ass mW;by_cases c1:0<=bD b.ah (aZ a i).id
   ·rw[ew c1,cond_true];rfl
   rw[gd c1,cond_false,Bool.not_false,Bool.true_and];by_cases c2:0<=bD b.nodes (aZ a i).id
   ·have c3:¬ bD b.nodes (aZ a i).id<0:=by omega
    have hj:=gV c2;have hj':(bD b.nodes (aZ a i).id).toNat<(bG b).length:=by rw[iJ];exact hj
    rw[ew c2,cond_true,iE c2 hj',adZ b hj',Bool.not_true,Bool.false_or];by_cases c4:(aZ b (bD b.nodes (aZ a i).id).toNat).type=(aZ a i).type
    ·rw[ew c4,cond_true,cond_true,gd c3,cond_false,if_neg (by decide)];have hl:=aeY ha hb hi hj c4;rw[inner _ hl _ λk s' yL brk hk hk2 hs'=>by rw[eo hk,eo hk2,cv (by omega)]];rfl
    ·rw[gd c4,cond_false,cond_false];rfl
   ·have c3:bD b.nodes (aZ a i).id<0:=by omega
    rw[gd c2,cond_false,Bool.not_false,Bool.true_or,cond_true,ew c3,cond_true,if_pos rfl,cv (by omega)]]
 cases hN:(range a.nodes.length).all (okN a b) with
 |false=>unfold xx gh;rw[hN,cond_false];rfl
 |true =>
 rw[cond_true];have arO:(range a.nodes.length).foldl (ass a b) ([],[])=(oz a b,sr a b):=by have:=aks (λi=>mW b.nodes (aZ a i).id) (aZ a) (aaT a b) (range a.nodes.length) ([],[]);rw[nil_append,nil_append] at this;exact this
 rw[arO,ia,cv (bU (by omega))];rw[acv (bad:=some (wj,false)) a.ah.length (okD a b) (λs i=>if mW b.ah (cE a i).id=true then s++[cE a i] else s) (λi s=>s.length<=i) (Nat.le_refl _) λi s hi hs=>by
  refine⟨λ_=>?_,λeE=>?_⟩
  ·split
   ·rw[length_append,length_singleton];omega
   ·omega
  ·have hi':i<(cD a).length:=by rw[ia];exact hi
   rw[eo hi',ad0 a hi',aR (aiB (by omega) _),aR (aiA (by omega) _)];unfold okD mW;by_cases c1:0<=bD b.nodes (cE a i).id
   ·rw[ew c1,cond_true];rfl
   rw[gd c1,cond_false,Bool.not_false,Bool.true_and];by_cases c2:0<=bD b.ah (cE a i).id
   ·have c3:¬ bD b.ah (cE a i).id<0:=by omega
    have hj:=gV c2;have hj':(bD b.ah (cE a i).id).toNat<(cD b).length:=by rw[ia];exact hj
    rw[ew c2,cond_true,iE c2 hj',ad0 b hj',Bool.not_true,Bool.false_or,gd c3,cond_false,if_neg (by decide)];rfl
   ·have c3:bD b.ah (cE a i).id<0:=by omega
    rw[gd c2,cond_false,Bool.not_false,Bool.true_or,cond_true,ew c3,cond_true,if_pos rfl,cv (by omega)]]
 cases hE:(range a.ah.length).all (okD a b) with
 |false=>unfold xx gh;rw[hE,cond_false,Bool.and_false];rfl
 |true =>
 rw[cond_true,iJ,cv (bU (by omega)),asr (λi=>mW b.ah (cE a i).id) (cE a)]
 have aFA : ∀ (f : Nat → List aj → (List aj → Option (aQ × Bool)) → (List aj → Option (aQ × Bool)) → Option (aQ × Bool)) (K : List aj → Option (aQ × Bool)),
   (∀k s' yL,(hk:k<(bG b).length)->s'.length<=1000000->f k s' yL K=cond (mW a.nodes (aZ b k).id) (yL (s'++[aZ b k])) (yL s'))->bZ f (b.nodes.length-0) 0 [] K=K (oz b a):=λf K hf=>by
  rw[s0 b.nodes.length (λi=>if mW a.nodes (aZ b i).id=true then [aZ b i] else []) 1 (λi _=>by split<;>simp) λi hi s' hs' eE=>by
   rw[length_nil] at hs';rw[hf i s' eE (by rw[iJ];exact hi) (by omega)];cases mW a.nodes (aZ b i).id
   ·simp
   ·simp]
  rw[nil_append,aaj];rfl
 rw[aFA _ _ λk s' yL hk hs'=>by rw[eo hk,adZ b hk,aR (aiA (by omega) _),cv (by omega)];rfl]
 have aDx : ∀ (f : Nat → List ax → (List ax → Option (aQ × Bool)) → (List ax → Option (aQ × Bool)) → Option (aQ × Bool)) (K : List ax → Option (aQ × Bool)),
   (∀k s' yL,(hk:k<(cD b).length)->s'.length<=1000000->f k s' yL K=cond (mW a.ah (cE b k).id) (yL (s'++[cE b k])) (yL s'))->bZ f (b.ah.length-0) 0 [] K=K (sq b a):=λf K hf=>by
  rw[s0 b.ah.length (λi=>if mW a.ah (cE b i).id=true then [cE b i] else []) 1 (λi _=>by split<;>simp) λi hi s' hs' eE=>by
   rw[length_nil] at hs';rw[hf i s' eE (by rw[ia];exact hi) (by omega)];cases mW a.ah (cE b i).id
   ·simp
   ·simp]
  rw[nil_append,aaj];rfl
 rw[ia,cv (bU (by omega)),aDx _ _ λk s' yL hk hs'=>by rw[eo hk,ad0 b hk,aR (aiB (by omega) _),cv (by omega)];rfl];unfold xx gh;rw[hN,hE];rfl
theorem mR(ht:iq t)(ba:oQ a)(bb:oQ b):dW t a b=some (xy t a b):=by
 unfold dW xy;rw[aR (show er t a=_ from lE ht ba),bh];by_cases h1:l8 t a=0;rotate_left
 ·rw[if_neg h1,if_pos h1];rfl
 rw[if_pos h1,if_neg (λh=>h h1),aR (show er t b=_ from lE ht bb),bh];by_cases h2:l8 t b=0;rotate_left
 ·rw[if_neg h2,if_pos h2];rfl
 rw[if_pos h2,if_neg (λh=>h h2),aR (aoE (ef.1 h1) (ef.1 h2) ba bb)];unfold xx;split
 ·rfl
 ·rfl
end
section
variable{t:Types}{a b:ay}
theorem jW{a:ay}{i:Nat}(h:i<a.nodes.length):(aZ a i).id=a.nodes[i]:=by unfold aZ;simp[h]
theorem vc{a:ay}{i:Nat}(h:i<a.ah.length):(cE a i).id=a.ah[i]:=by unfold cE;simp[h]
theorem akt(ha:dY t a)(hb:dY t b)(ba:oQ a):fP a b=some (oz a b,sq a b):=by
 have n1:=ha.n40;have n2:=ha.e80;have n3:=hb.n40;have n4:=hb.e80;have r1:∀l∈a.host.values,l.length<=1000000:=λl hl=>le_trans (ba.host.row l hl) (by decide)
 unfold fP;rw[cv (bU (by omega)),s0 a.nodes.length (λi=>if mW b.nodes (aZ a i).id=true then [aZ a i] else []) 1 (λi _=>by split<;>simp) λi hi s hs eE=>by
  rw[length_nil] at hs;rw[eo hi,aR (dm (by omega) _),aR (az8 ha hi r1),cv (by omega),<-jW hi];show cond (mW b.nodes (aZ a i).id) _ _=_;cases mW b.nodes (aZ a i).id
  ·simp
  ·simp]
 rw[nil_append,aaj,cv (bU (by omega)),s0 a.ah.length (λi=>if mW b.ah (cE a i).id=true then [cE a i] else []) 1 (λi _=>by split<;>simp) λi hi s hs eE=>by
  rw[length_nil] at hs;rw[eo hi,aR (dm (by omega) _),aR (al0 ha hi),cv (by omega),<-vc hi];show cond (mW b.ah (cE a i).id) _ _=_;cases mW b.ah (cE a i).id
  ·simp
  ·simp]
 rw[nil_append,aaj];rfl
theorem aCh(ha:dY t a)(hb:dY t b):iP a b=some (gh a b):=by
 have n1:=ha.n40;have n2:=ha.e80;have n3:=hb.n40;have n4:=hb.e80;unfold iP gh;rw[cv (bU (by omega)),acv (bad:=some false) a.nodes.length (okN a b) (λs _=>s) (λ_ _=>True) trivial λi s hi hs=>⟨λ_=>trivial,λeE=>by
  have h1:i<a.host.graph.nodes.length:=by rw[<-ha.aag];exact hi
  rw[eo hi,aR (dm (by omega) _),aR (dm (by omega) _),<-jW hi];show cond (decide (0<=bD b.ah (aZ a i).id)) _ (cond (decide (0<=bD b.nodes (aZ a i).id)) (thn a.host.graph.nodes[i]? λaKG=>thn (iX b.host.graph.nodes (bD b.nodes (aZ a i).id)) _) _)=_;unfold okN;by_cases c1:0<=bD b.ah (aZ a i).id
  ·rw[ew c1,cond_true];rfl
  rw[gd c1,cond_false,Bool.not_false,Bool.true_and];by_cases c2:0<=bD b.nodes (aZ a i).id
  ·have hj:=gV c2;have hj':(bD b.nodes (aZ a i).id).toNat<b.host.graph.nodes.length:=by rw[<-hb.aag];exact hj
   rw[ew c2,cond_true,eo h1,iE c2 hj',Bool.not_true,Bool.false_or];have e1:(aZ a i).type=a.host.graph.nodes[i]:=by unfold aZ;simp[h1]
   have e2:(aZ b (bD b.nodes (aZ a i).id).toNat).type=b.host.graph.nodes[(bD b.nodes (aZ a i).id).toNat]:=by show b.host.graph.nodes.getD _ default=_;simp[hj']
   rw[e1,e2];by_cases c4:a.host.graph.nodes[i]=b.host.graph.nodes[(bD b.nodes (aZ a i).id).toNat]
   ·rw[ew c4,ew c4.symm]
   ·rw[gd c4,gd λh=>c4 h.symm]
  ·rw[gd c2,cond_false,Bool.not_false,Bool.true_or,cond_true]⟩]
 cases hN:(range a.nodes.length).all (okN a b) with
 |false=>rfl
 |true =>
 rw[cond_true,cv (bU (by omega)),acv (bad:=some false) a.ah.length (okD a b) (λs _=>s) (λ_ _=>True) trivial λi s hi hs=>⟨λ_=>trivial,λeE=>by
  rw[eo hi,aR (dm (by omega) _),aR (dm (by omega) _),<-vc hi];show cond (decide (0<=bD b.nodes (cE a i).id)) _ (cond (decide (0<=bD b.ah (cE a i).id)) (thn (dG a i) λaKH=>thn (dG b (bD b.ah (cE a i).id)) _) _)=_;unfold okD;by_cases c1:0<=bD b.nodes (cE a i).id
  ·rw[ew c1,cond_true];rfl
  rw[gd c1,cond_false,Bool.not_false,Bool.true_and];by_cases c2:0<=bD b.ah (cE a i).id
  ·have hj:=gV c2;have aCC:=al0 hb hj;rw[show (((bD b.ah (cE a i).id).toNat:Nat):Int)=bD b.ah (cE a i).id by omega] at aCC;rw[ew c2,cond_true,aR (al0 ha hi),aR aCC,Bool.not_true,Bool.false_or];have:(decide ((cE a i).id=(cE b (bD b.ah (cE a i).id).toNat).id)&&(decide ((cE a i).type=(cE b (bD b.ah (cE a i).id).toNat).type)&&(decide ((cE a i).src=(cE b (bD b.ah (cE a i).id).toNat).src)&&decide ((cE a i).dst=(cE b (bD b.ah (cE a i).id).toNat).dst))))=rZ (cE b (bD b.ah (cE a i).id).toNat) (cE a i):=by unfold rZ;simp only[eq_comm]
   rw[this]
  ·rw[gd c2,cond_false,Bool.not_false,Bool.true_or,cond_true]⟩]
 cases (range a.ah.length).all (okD a b)<;>rfl
theorem afL{O:Type}(id:Int)(l m:List Int)(hm:m.length=l.length)(hl:l.length<=1000000){f:Int×List aO->(Int×List aO->Option O)->(Int×List aO->Option O)->Option O}{K:Int×List aO->Option O}
  (h:∀k s eE,(hk:k<l.length)->(hk2:k<m.length)->s.length<=2000000->f ((k:Int),s) eE K=cond (decide (l[k]=m[k])) (eE (i64.wrap ((k:Int)+1),s)) (eE (i64.wrap ((k:Int)+1),s++[⟨id,(k:Int),l[k],m[k]⟩]))) (he:∀s eE,f ((l.length:Int),s) eE K=K ((l.length:Int),s)) :
  ∀ (d k:Nat) (s:List aO) (n:Nat),k+d=l.length->d<n->s.length<=1000000+k->iter f n ((k:Int),s) K=K ((l.length:Int),s++(range' k d).flatMap (wI id l m))
 |0,k,s,n,hd,hn,hs=>by
  obtain⟨n,rfl⟩:∃j,n=j+1:=⟨n-1,by omega⟩;rw[iter];obtain rfl:k=l.length:=by omega
  rw[he];simp
 |d+1,k,s,n,hd,hn,hs=>by
  obtain⟨n,rfl⟩:∃j,n=j+1:=⟨n-1,by omega⟩;have hk:k<l.length:=by omega
  rw[iter,h k s _ hk (by omega) (by omega),gl (by omega),bh,range'_succ,flatMap_cons];have e1:l.getD k default=l[k]:=by simp[hk]
  have e2:m.getD k default=m[k]'(by omega):=by simp[show k<m.length by omega]
  have hv:wI id l m k=if l[k]=m[k]'(by omega) then [] else [⟨id,(k:Int),l[k],m[k]'(by omega)⟩]:=by unfold wI;rw[e1,e2]
  rw[hv,show ((k:Int)+1)=((k+1:Nat):Int) by omega];split
  ·rw[afL id l m hm hl h he d (k+1) _ n (by omega) (by omega) (by omega),nil_append]
  ·rw[afL id l m hm hl h he d (k+1) _ n (by omega) (by omega) (by rw[length_append,length_singleton];omega),append_assoc]
theorem aku{α β:Type}(b:α->Bool)(g:α->List β):∀l:List α,l.flatMap (λa=>if b a=true then [] else g a)=(l.filter λa=>!b a).flatMap g
 | []=>rfl
 |a :: r=>by rw[flatMap_cons,aku b g r,filter_cons];cases b a<;>simp
theorem aoF(hall:(range a.nodes.length).all (okN a b)=true){i:Nat}(hi:i<a.nodes.length)(c2:0<=bD b.nodes (aZ a i).id):(aZ b (bD b.nodes (aZ a i).id).toNat).type=(aZ a i).type:=by have:=all_eq_true.1 hall i (mem_range.2 hi);unfold okN at this;rw[ew c2,Bool.not_true,Bool.false_or,and_eq_true] at this;exact bX this.2
theorem aDy(ha:dY t a)(hb:dY t b)(ba:oQ a)(bb:oQ b):je a b=some (xx a b):=by
  have n1:=ha.n40;have n2:=ha.e80;have n3:=hb.n40;have n4:=hb.e80;unfold je xx;rw[aR (aCh ha hb)];cases hg:gh a b with
  |false=>rw[cond_false];rfl
  |true =>
  have hN:(range a.nodes.length).all (okN a b)=true:=by unfold gh at hg;rw[and_eq_true] at hg;exact hg.1
  rw[cond_true,aR (akt ha hb ba),aR (akt hb ha bb),cv (bU (by omega)),if_pos rfl];rw[s0 a.nodes.length (λi=>if mW b.nodes (aZ a i).id=true then [] else aaT a b i) 1000 (λi hi=>by
    have:=aiE (b:=b) ha ba.host hi;split
    · simp
    · exact this) λi hi s hs eE=>by
    rw[length_nil] at hs;have h2:i<a.host.values.length:=by rw[ha.host.aiq,<-ha.aag];exact hi
    have hrow:=aiC ha ba.host hi;rw[eo hi,aR (dm (by omega) _),<-jW hi];show cond (mW b.nodes (aZ a i).id) _ (iter _ fuel (0,s) _)=_;by_cases c2:0<=bD b.nodes (aZ a i).id
    · have ho:mW b.nodes (aZ a i).id=false:=gd (by omega);have hj:=gV c2;have hj2:(bD b.nodes (aZ a i).id).toNat<b.host.values.length:=by rw[hb.host.aiq,<-hb.aag];exact hj
      have hty:=aoF hN hi c2;have hl:=aeY ha hb hi hj hty;have e1:a.host.values[i]=(aZ a i).values:=by unfold aZ;simp[h2]
      have e2:b.host.values[(bD b.nodes (aZ a i).id).toNat]=(aZ b (bD b.nodes (aZ a i).id).toNat).values:=by show _=b.host.values.getD _ default;simp[hj2]
      rw[ho,cond_false,if_neg (by decide)];have:=afL (O:=aQ×Bool) (aZ a i).id (aZ a i).values _ hl (by omega) (K:=λyM=>eE yM.2) (f:=λ(yM:Int×(List aO)) aoG aAj =>
    thn (a.host.values[i]?) λaCD =>
    cond (decide (yM.1<((aCD.length:Nat):Int))) (
     thn (iX aCD yM.1) λaCE =>
     thn (iX b.host.values (bD b.nodes (aZ a i).id)) λaFB =>
     thn (iX aFB yM.1) λaCF =>
     cond (decide (aCE=aCF)) (
      aoG ((i64.wrap (yM.1+1)),yM.2)) <|
     cz (yM.2.length+1<=68719476736) <|
     aoG ((i64.wrap (yM.1+1)),(yM.2++[(⟨(aZ a i).id,yM.1,aCE,aCF⟩:aO)]))) <|
    aAj (yM.1, yM.2)) (fun k s' yL hk hk2 hs' => by
        dsimp only;rw[eo h2,e1,ew (by omega),cond_true,iE (by omega) (by simpa using hk),iE c2 hj2,e2,iE (by omega) (by simpa using hk2),cv (by omega)];rfl) (λs' yL=>by
        dsimp only;rw[eo h2,e1,gd (by omega),cond_false]) (aZ a i).values.length 0 s fuel (by omega) (by unfold fuel;omega) (by omega)
      rw[<-range_eq_range'] at this;exact this
    · have ho:mW b.nodes (aZ a i).id=true:=ew (by omega);rw[ho,cond_true,if_pos rfl,append_nil]]
  rw[nil_append,aku];rfl
theorem ast(ht:iq t)(ba:oQ a)(bb:oQ b):eX t a b=some (xy t a b):=by
 unfold eX xy;rw[aR (show bO t a=_ from kK ht ba),bh];by_cases h1:l8 t a=0;rotate_left
 ·rw[if_neg h1,if_pos h1];rfl
 rw[if_pos h1,if_neg (λh=>h h1),aR (show bO t b=_ from kK ht bb),bh];by_cases h2:l8 t b=0;rotate_left
 ·rw[if_neg h2,if_pos h2];rfl
 rw[if_pos h2,if_neg (λh=>h h2),aR (aDy (ef.1 h1) (ef.1 h2) ba bb)];unfold xx;split
 ·rfl
 ·rfl
variable{p q:aQ}
structure ary(p:aQ):Prop where
 rn:p.aG.length<=1000000
 re:p.aM.length<=1000000
 an:p.aV.length<=1000000
 ae:p.bn.length<=1000000
 va:p.values.length<=1000000
 rr:∀n∈p.aG,n.values.length<=1000000
 ar:∀n∈p.aV,n.values.length<=1000000
theorem agj{l:List aj}(h:l.length<=1000000)(hv:∀n∈l,n.values.length<=1000000):ff l l=some true:=by refine Ok.eq ?_;unfold ff;refine tM (ew rfl) (b6 (bU (by omega)) ?_);refine abP l (λ_=>True) (λi eE hi hn=>?_) (λ_=>.mk rfl);exact nI hi (nI hi (ok_eq (ais _ _ (hv _ (pT hi))) (tM (pe.2 rfl) (hn trivial))))
theorem agk{l:List ax}(h:l.length<=1000000):fh l l=some true:=by refine Ok.eq ?_;unfold fh;refine tM (ew rfl) (b6 (bU (by omega)) ?_);refine abP l (λ_=>True) (λi eE hi hn=>?_) (λ_=>.mk rfl);exact nI hi (nI hi (tM (by simp) (hn trivial)))
theorem qC(h:ary p):bR p p=some true:=by have:=h.va;refine Ok.eq ?_;unfold bR;refine ok_eq (agj h.rn h.rr) (tM rfl (ok_eq (agj h.an h.ar) (tM rfl (ok_eq (agk h.re) (tM rfl (ok_eq (agk h.ae) (tM rfl (tM (ew rfl) (b6 (bU (by omega)) ?_)))))))));refine abP p.values (λ_=>True) (λi eE hi hn=>?_) (λ_=>.mk (by simp));exact nI hi (nI hi (tM (by simp) (hn trivial)))
theorem yN:ary wj:=⟨by simp[wj],by simp[wj],by simp[wj],by simp[wj],by simp[wj],λn hn=>(by cases hn),λn hn=>(by cases hn)⟩
theorem acw{n:aj}(h:n∈oz a b):n∈bG a:=by obtain⟨i,hi,rfl⟩:=mem_map.1 h;exact mem_map.2 ⟨i,(mem_filter.1 hi).1,rfl⟩
theorem acy:(oz a b).length<=a.nodes.length:=by unfold oz;rw[length_map];exact le_trans (length_filter_le _ _) (by simp)
theorem acz:(sq a b).length<=a.ah.length:=by unfold sq;rw[length_map];exact le_trans (length_filter_le _ _) (by simp)
theorem aeZ{α β:Type}(g:α->List β)(k:Nat):∀l:List α,(∀a∈l,(g a).length<=k)->(l.flatMap g).length<=k * l.length
 | [],_=>by simp
 |a :: r,h=>by
  have h1:=h a (mem_cons_self ..);have h2:=aeZ g k r λx hx=>h x (mem_cons_of_mem _ hx)
  rw[flatMap_cons,length_append,length_cons,Nat.mul_add];omega
theorem avY(ha:dY t a)(ba:oQ a):(sr a b).length<=40000:=by
 have n1:=ha.n40;have:=aeZ (aaT a b) 1000 ((range a.nodes.length).filter λi=>!mW b.nodes (aZ a i).id) λi hi=>aiE ha ba.host (mem_range.1 (mem_filter.1 hi).1)
 have h2:=length_filter_le (λi=>!mW b.nodes (aZ a i).id) (range a.nodes.length);rw[length_range] at h2;unfold sr;omega
theorem acA(ba:oQ a)(bb:oQ b):ary (xy t a b).1:=by
 unfold xy;split
 ·exact yN
 rename_i h1;split
 ·exact yN
 rename_i h2;have ha:=ef.1 (Decidable.of_not_not h1);have hb:=ef.1 (Decidable.of_not_not h2);have n1:=ha.n40;have n2:=ha.e80;have n3:=hb.n40;have n4:=hb.e80;split
 ·rename_i h3;unfold xx;rw[if_pos h3];have l1:=@acy a b;have l2:=@acz a b;have l3:=@acy b a;have l4:=@acz b a;have l5:=avY (b:=b) ha ba;exact⟨by dsimp only;omega,by dsimp only;omega,by dsimp only;omega,by dsimp only;omega,by dsimp only;omega,λn hn=>le_trans (jN ha ba.host n (acw hn)) (by decide),λn hn=>le_trans (jN hb bb.host n (acw hn)) (by decide)⟩
 ·exact yN
end
section
variable{t:Types}{a b:ay}
theorem aiF{ids:List Int}{n:Int}(h:0<=bD ids n):ids[(bD ids n).toNat]? = some n:=by
 unfold bD aaR at *;cases hf:ids.findIdx? λy=>decide (y=n) with
 |none=>rw[hf] at h;exact absurd h (by decide)
 |some i=>obtain⟨hi,h1,_⟩:=findIdx?_eq_some_iff_getElem.1 hf;show ids[((i:Nat):Int).toNat]? = some n;rw[toNat_natCast,getElem?_eq_getElem hi,bX h1]
theorem afM{ids:List Int}{n:Int}(h:0<=bD ids n):ids[(bD ids n).toNat]'(gV h)=n:=by have:=aiF h;rw[getElem?_eq_getElem (gV h)] at this;exact Option.some.inj this
theorem pg{ids:List Int}(h:jE id ids){i:Nat}(hi:i<ids.length):bD ids ids[i]=(i:Int):=by have h0:0<=bD ids ids[i]:=iQ.2 (pT hi);have h1:=afM h0;have:=h.art (gV h0) hi h1;omega
theorem aoH{ids:List Int}{n:Int} : (!mW ids n)=true↔n∈ids:=by rw[not_eq_true',eq_false_iff,Ne,wh];exact Decidable.not_not
theorem agP(h:dY t b){n:Int}(h0:0<=bD b.nodes n):(aZ b (bD b.nodes n).toNat).id=n:=by rw[jW (gV h0)];exact afM h0
theorem al4(h:dY t b){n:Int}(h0:0<=bD b.ah n):(cE b (bD b.ah n).toNat).id=n:=by rw[vc (gV h0)];exact afM h0
theorem qD{i:Nat}(h:i<a.nodes.length):aZ a i∈bG a:=mem_map.2 ⟨i,mem_range.2 h,rfl⟩
theorem qE{i:Nat}(h:i<a.ah.length):cE a i∈cD a:=mem_map.2 ⟨i,mem_range.2 h,rfl⟩
theorem afN{i:Nat}(h:k9 t i=0):(bk t i).length<=8:=by
 unfold k9 at h;split at h
 ·cases h
 split at h
 ·cases h
 split at h
 ·cases h
 split at h
 ·cases h
 split at h
 ·cases h
 ·omega
theorem aAk(ht:iq t)(ha:dY t a){i:Nat}(hi:i<a.nodes.length):(aZ a i).values.length<=8:=by
 have hT:=zi ht ha.host.types;have hp:=hT.pos;have:=ha.host.node i (by rw[<-ha.aag];exact hi);unfold nH at this;split at this
 ·cases this
 rename_i h1;split at this
 ·cases this
 split at this
 ·cases this
 rename_i h2;have h2:=Decidable.of_not_not h2;have h3:=afN (hT.node (a.host.graph.nodes.getD i default).toNat (by omega));show (a.host.values.getD i default).length<=8;omega
theorem ae0:oz a b=(bG a).filter λn=>mW b.nodes n.id:=by unfold oz bG;rw[filter_map];rfl
theorem ae1:sq a b=(cD a).filter λn=>mW b.ah n.id:=by unfold sq cD;rw[filter_map];rfl
theorem uc{n:aj} : n∈oz a b↔n∈bG a/\n.id ∉ b.nodes:=by rw[ae0,mem_filter,wh]
theorem ud{n:ax} : n∈sq a b↔n∈cD a/\n.id ∉ b.ah:=by rw[ae1,mem_filter,wh]
def su(a b:ay):List Nat:=(range a.nodes.length).filter λi=>!mW b.nodes (aZ a i).id
theorem qF{i:Nat} : i∈su a b↔i<a.nodes.length/\(aZ a i).id∈b.nodes:=by unfold su;rw[mem_filter,mem_range,aoH]
theorem arz:less eC (bG a) (oz a b)=(su a b).map (aZ a):=by
 have e:less eC (bG a) (oz a b)=(bG a).filter λn=>!mW b.nodes n.id:=by
  unfold less;refine filter_congr λm hm=>?_
  congr 1;rw[Bool.eq_iff_iff,any_eq_true];constructor
  ·rintro⟨n,hn,h⟩;have:=pe.1 h;subst this;exact wh.2 (uc.1 hn).2
  ·intro h;exact⟨m,uc.2 ⟨hm,wh.1 h⟩,pe.2 rfl⟩
 rw[e];unfold bG su;rw[filter_map];rfl
theorem aiG:less rZ (cD a) (sq a b)=(cD a).filter λn=>!mW b.ah n.id:=by
 unfold less;refine filter_congr λm hm=>?_
 congr 1;rw[Bool.eq_iff_iff,any_eq_true];constructor
 ·rintro⟨n,hn,h⟩;have:=u9.1 h;subst this;exact wh.2 (ud.1 hn).2
 ·intro h;exact⟨m,ud.2 ⟨hm,wh.1 h⟩,u9.2 rfl⟩
theorem aiH:∀ (r1 r2:List aO) (l m:List aj),ep l r1=(m,true)->ep l (r1++r2)=ep m r2
 | [],r2,l,m,h=>by rw[ep] at h;cases h;rfl
 |v :: r,r2,l,m,h=>by
  rw[ep] at h;rw[cons_append,ep];split at h
  ·rename_i h1;rw[if_pos h1];exact aiH r r2 _ m h
  ·cases h
theorem aiI{v:aO}{l:List aj}(h:∀n∈l,n.id≠v.id):l.map (qJ v)=l:=by
 refine (map_congr_left λn hn=>?_).trans (map_id l);unfold qJ;rw[if_neg]
 ·rfl
 ·intro hf;unfold lg at hf;rw[and_eq_true] at hf;exact h n hn (bX hf.1)
theorem take_set{l m:List Int}{k:Nat}(hk:k<l.length)(hm:k<m.length):(m.take k++l.drop k).set k m[k]=m.take (k+1)++l.drop (k+1):=by rw[set_append,if_neg (by rw[length_take];omega),length_take,Nat.min_eq_left (by omega),Nat.sub_self,drop_eq_getElem_cons hk,set_cons_zero,take_succ_eq_append_getElem hm,append_assoc];rfl
theorem avZ{l m:List Int}{k:Nat}(hk:k<l.length)(hm:k<m.length)(e:l[k]=m[k]):m.take k++l.drop k=m.take (k+1)++l.drop (k+1):=by rw[drop_eq_getElem_cons hk,e,take_succ_eq_append_getElem hm,append_assoc];rfl
theorem afO(id ty:Int)(l m:List Int)(hm:m.length=l.length)(pre post:List aj)(h1:∀n∈pre,n.id≠id)(h2:∀n∈post,n.id≠id):∀ (d k:Nat),k+d=l.length ->
  ep (pre++⟨id,ty,m.take k++l.drop k⟩ :: post) ((range' k d).flatMap (wI id l m))=(pre++⟨id,ty,m⟩ :: post,true)
 |0,k,hk=>by rw[drop_eq_nil_of_le (by omega),take_of_length_le (by omega),append_nil];rfl
 |d+1,k,hk=>by
  have qG:k<l.length:=by omega
  have hkm:k<m.length:=by omega
  rw[range'_succ,flatMap_cons];have e1:l.getD k default=l[k]:=by simp[qG]
  have e2:m.getD k default=m[k]:=by simp[hkm]
  have hv:wI id l m k=if l[k]=m[k] then [] else [⟨id,(k:Int),l[k],m[k]⟩]:=by unfold wI;rw[e1,e2]
  rw[hv];split
  ·rename_i e;rw[nil_append,avZ qG hkm e];exact afO id ty l m hm pre post h1 h2 d (k+1) (by omega)
  ·rename_i hne;have hat:(m.take k++l.drop k).getD k default=l[k]:=by rw[getD_eq_getElem?_getD,getElem?_append_right (by rw[length_take];omega),length_take,Nat.min_eq_left (by omega),Nat.sub_self,getElem?_drop,Nat.add_zero,getElem?_eq_getElem qG];rfl
   have hfit:lg ⟨id,(k:Int),l[k],m[k]⟩ ⟨id,ty,m.take k++l.drop k⟩=true:=by
    unfold lg okV;simp only[toNat_natCast,hat];have c1:¬ ((k:Int)<0):=by omega
    have c2:¬ (((m.take k++l.drop k).length:Int)<=(k:Int)):=by rw[length_append,length_take,length_drop];omega
    have c3:¬ m[k]=l[k]:=λh=>hne h.symm
    rw[gd c1,gd c2,gd c3];rfl
   rw[singleton_append,ep,if_pos (any_eq_true.2 ⟨_,mem_append_right _ (mem_cons_self ..),hfit⟩)];rw[map_append,map_cons,aiI (v:=⟨id,(k:Int),l[k],m[k]⟩) h1,aiI (v:=⟨id,(k:Int),l[k],m[k]⟩) h2];have hp:qJ ⟨id,(k:Int),l[k],m[k]⟩ ⟨id,ty,m.take k++l.drop k⟩=⟨id,ty,m.take (k+1)++l.drop (k+1)⟩:=by unfold qJ;rw[if_pos hfit];simp only[toNat_natCast,take_set qG hkm]
   rw[hp];exact afO id ty l m hm pre post h1 h2 d (k+1) (by omega)
def al5(a b:ay)(i:Nat):aj:=⟨(aZ a i).id,(aZ a i).type,(aZ b (bD b.nodes (aZ a i).id).toNat).values⟩
theorem aiJ:∀ (r:List Nat) (pre:List aj),(∀i∈r,(aZ b (bD b.nodes (aZ a i).id).toNat).values.length=(aZ a i).values.length)->(∀i∈r,∀n∈pre,n.id≠(aZ a i).id)->r.Pairwise (λi j=>(aZ a i).id≠(aZ a j).id) ->
  ep (pre++r.map (aZ a)) (r.flatMap (aaT a b))=(pre++r.map (al5 a b),true)
 | [],pre,_,_,_=>rfl
 |i :: r,pre,hl,hp,hd=>by
  rw[pairwise_cons] at hd;rw[map_cons,flatMap_cons];have hg:=afO (aZ a i).id (aZ a i).type (aZ a i).values _ (hl i (mem_cons_self ..)) pre (r.map (aZ a)) (hp i (mem_cons_self ..)) (λn hn=>by
   obtain⟨j,hj,rfl⟩:=mem_map.1 hn;exact λe=>hd.1 j hj e.symm) (aZ a i).values.length 0 (by omega)
  rw[<-range_eq_range'] at hg;have hg:ep (pre++aZ a i :: r.map (aZ a)) (aaT a b i)=(pre++al5 a b i :: r.map (aZ a),true):=hg;rw[aiH (aaT a b i) _ _ _ hg];have:=aiJ r (pre++[al5 a b i]) (λj hj=>hl j (mem_cons_of_mem _ hj)) (λj hj n hn=>by
   rcases mem_append.1 hn with h|h
   ·exact hp j (mem_cons_of_mem _ hj) n h
   ·rw[mem_singleton.1 h];exact hd.1 j hj) hd.2
  rw[append_assoc,append_assoc] at this;exact this
theorem ta(hA:gh a b=true){i:Nat}(hi:i<a.nodes.length):(aZ a i).id ∉ b.ah/\((aZ a i).id∈b.nodes->(aZ b (bD b.nodes (aZ a i).id).toNat).type=(aZ a i).type):=by unfold gh at hA;rw[and_eq_true] at hA;have:=all_eq_true.1 hA.1 i (mem_range.2 hi);unfold okN at this;rw[and_eq_true] at this;refine⟨λh=>?_,λh=>aoF hA.1 hi (iQ.2 h)⟩;have h1:=this.1;rw[ew (iQ.2 h)] at h1;cases h1
theorem wk(h:gh a b=true){i:Nat}(hi:i<a.ah.length):(cE a i).id ∉ b.nodes/\((cE a i).id∈b.ah->cE b (bD b.ah (cE a i).id).toNat=cE a i):=by
 unfold gh at h;rw[and_eq_true] at h;have:=all_eq_true.1 h.2 i (mem_range.2 hi);unfold okD at this;rw[and_eq_true] at this;refine⟨λh=>?_,λh=>?_⟩
 ·have h1:=this.1;rw[ew (iQ.2 h)] at h1;cases h1
 ·have h1:=this.2;rw[ew (iQ.2 h),Bool.not_true,Bool.false_or] at h1;exact u9.1 h1
def kW(a b:ay):aQ:=⟨oz a b,sq a b,oz b a,sq b a,sr a b,⟨a.next,b.next⟩⟩
theorem xz(ha:dY t a):(su a b).Pairwise λi j=>(aZ a i).id<(aZ a j).id:=by
 have h1:(range a.nodes.length).Pairwise λi j=>i<a.nodes.length/\j<a.nodes.length/\i<j:=by refine Pairwise.imp_of_mem (λhi hj h=>⟨mem_range.1 hi,mem_range.1 hj,h⟩) pairwise_lt_range
 refine Pairwise.imp (λ⟨h1,h2,h3⟩=>?_) (Pairwise.filter _ h1);rw[jW h1,jW h2];exact ha.nid.2.agc h3 h2
theorem asu(h:gh a b=true)(hb:dY t b){i:Nat}(hi:i∈su a b):al5 a b i=aZ b (bD b.nodes (aZ a i).id).toNat:=by
 obtain⟨h1,h2⟩:=qF.1 hi;have e1:=(ta h h1).2 h2;have e2:=agP hb (iQ.2 h2);unfold al5;rw[<-e1]
 conv=>lhs;arg 1;rw[<-e2]
theorem aiK(ha:dY t a)(hb:dY t b)(h:gh a b=true):ep (less eC (bG a) (oz a b)) (sr a b)=((su a b).map (al5 a b),true):=by
 rw[arz];have:=aiJ (a:=a) (b:=b) (su a b) [] (λi hi=>by
  obtain⟨h1,h2⟩:=qF.1 hi;exact aeY ha hb h1 (gV (iQ.2 h2)) ((ta h h1).2 h2)) (λ_ _ n hn=>by cases hn) (Pairwise.imp (λh e=>by omega) (xz ha))
 exact this
theorem agQ(ha:dY t a)(hb:dY t b)(h:gh a b=true){x:aj} : x∈(su a b).map (al5 a b)↔x∈bG b/\x.id∈a.nodes:=by
 rw[mem_map];constructor
 ·rintro⟨i,hi,rfl⟩;obtain⟨h1,h2⟩:=qF.1 hi;have h3:(aZ a i).id∈a.nodes:=by rw[jW h1];exact pT h1
  rw[asu h hb hi,agP hb (iQ.2 h2)];exact⟨qD (gV (iQ.2 h2)),h3⟩
 ·rintro⟨h1,h2⟩;obtain⟨j,hj,rfl⟩:=acu h1;obtain⟨i,hi,e⟩:=getElem_of_mem h2;have hk:i∈su a b:=qF.2 ⟨hi,by rw[jW hi,e];exact abO h1⟩;refine⟨i,hk,?_⟩;rw[asu h hb hk,jW hi,e,jW hj,pg hb.nid.2 hj];rfl
theorem aiL(hb:dY t b)(h:gh a b=true){x:ax} : x∈(cD a).filter (λn=>!mW b.ah n.id)↔x∈cD a/\x∈cD b:=by
 rw[mem_filter,aoH];constructor
 ·rintro⟨h1,h2⟩;refine⟨h1,?_⟩;obtain⟨i,hi,rfl⟩:=mem_map.1 h1;rw[<- (wk h (mem_range.1 hi)).2 h2];exact qE (gV (iQ.2 h2))
 ·rintro⟨h1,h2⟩;exact⟨h1,tv h2⟩
theorem arA(hb:dY t b):fA (bG b) (cD b) b.next=b:=by
 unfold fA;rw[sZ,qp];have e1:(bG b).map aj.type=b.host.graph.nodes:=by unfold bG;rw[map_map,hb.aag];exact we b.host.graph.nodes
 have e2:(bG b).map aj.values=b.host.values:=by unfold bG;rw[map_map,hb.aag,<-hb.host.aiq];exact we b.host.values
 have e3:(cD b).map (oS b.nodes)=b.host.graph.ah:=by
  unfold cD;rw[map_map,hb.aru];refine (map_congr_left λi hi=>?_).trans (we b.host.graph.ah);have hi:=mem_range.1 hi;have hE:=hb.host.graph.xN i hi;rw[<-hb.aag] at hE;have hg:b.host.graph.ah.getD i default=b.host.graph.ah[i]:=by simp[hi]
  show oS b.nodes (cE b i)=_;unfold oS cE;rw[hg] at hE ⊢;have key:∀s:Int,0<=s->s<b.nodes.length->bD b.nodes (b.nodes.getD s.toNat default)=s:=λs h0 h1=>by
   have h2:s.toNat<b.nodes.length:=by omega
   have e:b.nodes.getD s.toNat default=b.nodes[s.toNat]:=by simp[h2]
   rw[e,pg hb.nid.2 h2];omega
  rw[key _ hE.2.1.1 (by omega),key _ hE.2.2.1 (by omega)]
 rw[e1,e2,e3]
theorem arB(ha:dY t a)(hb:dY t b)(h:gh a b=true):qA ((su a b).map (al5 a b)++oz b a)=bG b:=by
 refine (akk ?_).ext hb.agD λx=>?_
 ·rw[map_append,nodup_append];refine⟨?_,?_,?_⟩
  ·rw[map_map];refine Pairwise.imp (λh e=>?_) (pairwise_map.2 (xz (b:=b) ha));have e:(_:Int)=_:=e;omega
  ·refine Nodup.sublist ?_ hb.nid.2.nodup;rw[<-sZ,ae0];exact filter_sublist.map _
  ·intro x hx y hy e;obtain⟨n,hn,rfl⟩:=mem_map.1 hx;obtain⟨m,hm,rfl⟩:=mem_map.1 hy;exact (uc.1 hm).2 (e ▸ ((agQ ha hb h).1 hn).2)
 ·rw[acr,mem_append,agQ ha hb h,uc];constructor
  ·rintro (h|h)<;>exact h.1
  ·intro h;by_cases hx:x.id∈a.nodes
   ·exact .inl ⟨h,hx⟩
   ·exact .inr ⟨h,hx⟩
theorem arC(ha:dY t a)(hb:dY t b)(h:gh a b=true):sg ((cD a).filter (λn=>!mW b.ah n.id)++sq b a)=cD b:=by
 refine (akl ?_).ext hb.agE λx=>?_
 ·rw[map_append,nodup_append];refine⟨?_,?_,?_⟩
  ·refine Nodup.sublist ?_ ha.eid.2.nodup;rw[show a.ah=(cD a).map ax.id from (qp a).symm];exact filter_sublist.map _
  ·refine Nodup.sublist ?_ hb.eid.2.nodup;rw[<-qp,ae1];exact filter_sublist.map _
  ·intro x hx y hy e;obtain⟨n,hn,rfl⟩:=mem_map.1 hx;obtain⟨m,hm,rfl⟩:=mem_map.1 hy;exact (ud.1 hm).2 (e ▸ tv (mem_filter.1 hn).1)
 ·rw[acs,mem_append,aiL hb h,ud];constructor
  ·rintro (h|h)
   ·exact h.2
   ·exact h.1
  ·intro h1;by_cases hx:x.id∈a.ah
   ·refine .inl ⟨?_,h1⟩;obtain⟨i,hi,e⟩:=getElem_of_mem hx;have h2:(cE a i).id∈b.ah:=by rw[vc hi,e];exact tv h1
    have h3:=(wk h hi).2 h2;have h4:cE b (bD b.ah (cE a i).id).toNat=x:=hb.agE.inj (qE (gV (iQ.2 h2))) h1 (by rw[al4 hb (iQ.2 h2),vc hi,e]);rw[<-h4,h3];exact qE hi
   ·exact .inr ⟨h1,hx⟩
theorem aoI{i:Nat}{v:aO}(h:v∈aaT a b i):v.id=(aZ a i).id:=by
 obtain⟨k,_,hv⟩:=mem_flatMap.1 h;unfold wI at hv;split at hv
 ·cases hv
 ·rw[mem_singleton.1 hv]
theorem aAl{i:Nat} : (aaT a b i).Pairwise ltV:=by
 unfold aaT;rw[pairwise_flatMap];refine⟨λk _=>?_,?_⟩
 ·unfold wI;split<;>simp
 ·refine Pairwise.imp (λ{k l} h x hx y hy=>?_) pairwise_lt_range;unfold wI at hx hy;split at hx
  ·cases hx
  split at hy
  ·cases hy
  rw[mem_singleton.1 hx,mem_singleton.1 hy];refine .inr ⟨rfl,?_⟩;simp only;omega
theorem al6(ha:dY t a)(hb:dY t b):Ordered (kW a b):=by
 refine⟨?_,?_,?_,?_,?_⟩
 ·show jE _ (oz a b);rw[ae0];exact ha.agD.sub filter_sublist
 ·show jE _ (sq a b);rw[ae1];exact ha.agE.sub filter_sublist
 ·show jE _ (oz b a);rw[ae0];exact hb.agD.sub filter_sublist
 ·show jE _ (sq b a);rw[ae1];exact hb.agE.sub filter_sublist
 ·show (sr a b).Pairwise ltV;unfold sr;rw[pairwise_flatMap];refine⟨λi _=>aAl,Pairwise.imp (λh x hx y hy=>.inl ?_) (xz (b:=b) ha)⟩;rw[aoI hx,aoI hy];exact h
theorem arD(ht:iq t)(ha:dY t a)(hb:dY t b):Small (kW a b):=by
 have n1:=ha.n40;have n2:=ha.e80;have n3:=hb.n40;have n4:=hb.e80;have l1:=@acy a b;have l2:=@acz a b;have l3:=@acy b a;have l4:=@acz b a;refine⟨le_trans l1 (by omega),le_trans l2 (by omega),le_trans l3 (by omega),le_trans l4 (by omega),?_⟩;have h1:=aeZ (aaT a b) 8 ((range a.nodes.length).filter λi=>!mW b.nodes (aZ a i).id) λi hi=>by
  have h8:=aAk ht ha (mem_range.1 (mem_filter.1 hi).1);have:=aeZ (wI (aZ a i).id (aZ a i).values (aZ b (bD b.nodes (aZ a i).id).toNat).values) 1 (range (aZ a i).values.length) λk _=>aiD _ _ _ k
  rw[length_range] at this;unfold aaT;omega
 have h2:=length_filter_le (λi=>!mW b.nodes (aZ a i).id) (range a.nodes.length);rw[length_range] at h2;show (sr a b).length<=500;unfold sr;omega
theorem oT(ha:dY t a)(hb:dY t b)(h:gh a b=true):jD a (kW a b)=b:=by
 show fA (qA ((ep (less eC (bG a) (oz a b)) (sr a b)).1++oz b a)) (sg (less rZ (cD a) (sq a b)++sq b a)) b.next=b
 rw[aiK ha hb h,arB ha hb h,aiG,arC ha hb h,arA hb]
theorem aiM{l:List aj}{m:List ax}{n:Int} : l6 l m n=true↔(∃x∈l,x.id=n)\/∃x∈m,x.id=n:=by unfold l6;rw[Bool.or_eq_true,any_eq_true,any_eq_true];simp only[decide_eq_true_eq]
theorem pn(ht:iq t)(ha:dY t a)(hb:dY t b)(h:gh a b=true):gb t a (kW a b) where
 tk:=ha
 small:=arD ht ha hb
 ord:=al6 ha hb
 next:=rfl
 rn:=all_eq_true.2 λn hn=>any_eq_true.2 ⟨n,(uc.1 hn).1,pe.2 rfl⟩
 re:=all_eq_true.2 λn hn=>any_eq_true.2 ⟨n,(ud.1 hn).1,u9.2 rfl⟩
 va:=by show (ep (less eC (bG a) (oz a b)) (sr a b)).2=true;rw[aiK ha hb h]
 free:=by
  rw[eq_false_iff];intro hT;have hN:al1 a (kW a b)=(su a b).map (al5 a b):=by show (ep (less eC (bG a) (oz a b)) (sr a b)).1=_;rw[aiK ha hb h]
  have hE:arw a (kW a b)=(cD a).filter (λn=>!mW b.ah n.id):=aiG;rw[hN,hE] at hT;unfold iA at hT;rw[Bool.or_eq_true,any_eq_true,any_eq_true] at hT;rcases hT with ⟨n,hn,hx⟩|⟨n,hn,hx⟩
  ·obtain⟨hn1,hn2⟩:=uc.1 hn;rcases aiM.1 hx with ⟨x,hx,e⟩|⟨x,hx,e⟩
   ·exact hn2 (e ▸ ((agQ ha hb h).1 hx).2)
   ·obtain⟨i,hi,rfl⟩:=mem_map.1 ((aiL hb h).1 hx).1;exact (wk h (mem_range.1 hi)).1 (e ▸ abO hn1)
  ·obtain⟨hn1,hn2⟩:=ud.1 hn;rcases aiM.1 hx with ⟨x,hx,e⟩|⟨x,hx,e⟩
   ·obtain⟨i,hi,e2⟩:=getElem_of_mem ((agQ ha hb h).1 hx).2;refine (ta h hi).1 ?_;rw[jW hi,e2,e];exact tv hn1
   ·exact hn2 (e ▸ tv ((aiL hb h).1 hx).1)
 ok:=by rw[oT ha hb h];exact hb
end
def noP(n:Int):aQ:=⟨[],[],[],[],[],⟨n,n⟩⟩
theorem aCi(n:Int):ary (noP n):=⟨by simp[noP],by simp[noP],by simp[noP],by simp[noP],by simp[noP],λn hn=>(by cases hn),λn hn=>(by cases hn)⟩
section
variable{t:Types}{a:ay}{p:aQ}
theorem tc{ids:List Int}{n:Int}(h:n ∉ ids):bD ids n<0:=by
 have:¬ 0<=bD ids n:=λh2=>h (iQ.1 h2)
 omega
theorem arE(h:dY t a):gh a a=true:=by
 unfold gh;rw[and_eq_true,all_eq_true,all_eq_true];refine⟨λi hi=>?_,λi hi=>?_⟩
 ·have hi:=mem_range.1 hi;have h1:(aZ a i).id∈a.nodes:=by rw[jW hi];exact pT hi
  have h2:bD a.ah (aZ a i).id<0:=tc λh3=>h.apart _ h3 h1
  unfold okN;rw[gd (by omega:¬ 0<=bD a.ah (aZ a i).id)];have h4:bD a.nodes (aZ a i).id=(i:Int):=by rw[jW hi];exact pg h.nid.2 hi
  rw[h4,ew (show (aZ a ((i:Int)).toNat).type=(aZ a i).type from rfl)];simp
 ·have hi:=mem_range.1 hi;have h1:(cE a i).id∈a.ah:=by rw[vc hi];exact pT hi
  have h2:bD a.nodes (cE a i).id<0:=tc (h.apart _ h1);unfold okD;rw[gd (by omega:¬ 0<=bD a.nodes (cE a i).id)];have h4:bD a.ah (cE a i).id=(i:Int):=by rw[vc hi];exact pg h.eid.2 hi
  rw[h4,(u9 (a:=cE a ((i:Int)).toNat) (b:=cE a i)).2 rfl];simp
theorem av0(h:dY t a):kW a a=noP a.next:=by
 have h1:oz a a=[]:=eq_nil_iff_forall_not_mem.2 λn hn=>(uc.1 hn).2 (abO (uc.1 hn).1)
 have h2:sq a a=[]:=eq_nil_iff_forall_not_mem.2 λn hn=>(ud.1 hn).2 (tv (ud.1 hn).1)
 have h3:sr a a=[]:=by
  unfold sr;refine flatMap_eq_nil_iff.2 λi hi=>?_
  have hi:=(mem_filter.1 hi).1;have hi:=mem_range.1 hi;unfold aaT;refine flatMap_eq_nil_iff.2 λk _=>?_
  have h4:bD a.nodes (aZ a i).id=(i:Int):=by rw[jW hi];exact pg h.nid.2 hi
  rw[h4];unfold wI;exact if_pos rfl
 unfold kW;rw[h1,h2,h3];rfl
theorem diff_eq{b:ay}(ha:dY t a)(hb:dY t b)(h:gh a b=true):xy t a b=(kW a b,0):=by unfold xy xx;rw[if_neg (λh2=>h2 (ef.2 ha)),if_neg (λh2=>h2 (ef.2 hb)),if_pos h,if_pos h];rfl
end
def upS:ByteArray:=⟨#[65,66,67,68,69,70]⟩
def aiN:ByteArray:=⟨#[117,118,119,120,121,122]⟩
def al7:ByteArray:=⟨#[101,102,103,104,105]⟩
def aAm:List ByteArray:=[⟨#[111,102,102]⟩,⟨#[111,110]⟩]
structure adp(i:Nat)(x:Attr):Prop where
 name:x.name=aiN.extract i (i+1)
 how:(x.names=[]/\x.low = -3/\3<=x.high/\x.high<=11)\/(x.names=aAm/\x.low=0/\x.high=1)
structure adq(i:Nat)(n:iy):Prop where
 name:n.name=upS.extract i (i+1)
 par : -1<=n.parent/\n.parent<i
 attrs:n.attrs=[]\/∃x,adp i x/\n.attrs=[x]
structure aoJ(n i:Nat)(e:nW):Prop where
 name:e.name=al7.extract i (i+1)
 src:0<=e.src/\e.src<n
 dst:0<=e.dst/\e.dst<n
 bounds:(e.vz=0/\e.qS = -1)/\e.abl=0/\e.vA = -1
structure oU(t:Types):Prop where
 pos:0<t.nodes.length
 n6:t.nodes.length<=6
 m5:t.ah.length<=5
 node:∀i,i<t.nodes.length->adq i (t.nodes.getD i default)
 xN:∀i,i<t.ah.length->aoJ t.nodes.length i (t.ah.getD i default)
theorem vm{P:Nat->Prop}(h:P 0/\P 1/\P 2/\P 3/\P 4/\P 5){i:Nat}(hi:i<6):P i:=by
 obtain⟨h0,h1,h2,h3,h4,h5⟩:=h
 match i,hi with
 |0,_=>exact h0
 |1,_=>exact h1
 |2,_=>exact h2
 |3,_=>exact h3
 |4,_=>exact h4
 |5,_=>exact h5
theorem ad1{P:Nat->Prop}(h:P 0/\P 1/\P 2/\P 3/\P 4){i:Nat}(hi:i<5):P i:=by
 obtain⟨h0,h1,h2,h3,h4⟩:=h
 match i,hi with
 |0,_=>exact h0
 |1,_=>exact h1
 |2,_=>exact h2
 |3,_=>exact h3
 |4,_=>exact h4
theorem aAn{i:Nat}(hi:i<6):lJ (upS.extract i (i+1))=true:=vm (P:=λi=>lJ (upS.extract i (i+1))=true) ⟨by kernel_rfl,by kernel_rfl,by kernel_rfl,by kernel_rfl,by kernel_rfl,by kernel_rfl⟩ hi
theorem av1{i:Nat}(hi:i<6):lJ (aiN.extract i (i+1))=true:=vm (P:=λi=>lJ (aiN.extract i (i+1))=true) ⟨by kernel_rfl,by kernel_rfl,by kernel_rfl,by kernel_rfl,by kernel_rfl,by kernel_rfl⟩ hi
theorem av2{i:Nat}(hi:i<5):lJ (al7.extract i (i+1))=true:=ad1 (P:=λi=>lJ (al7.extract i (i+1))=true) ⟨by kernel_rfl,by kernel_rfl,by kernel_rfl,by kernel_rfl,by kernel_rfl⟩ hi
theorem aAo{i:Nat}(hi:i<6):l9 (upS.extract i (i+1)) 0=65+(i:Int):=vm (P:=λi=>l9 (upS.extract i (i+1)) 0=65+(i:Int)) ⟨by kernel_rfl,by kernel_rfl,by kernel_rfl,by kernel_rfl,by kernel_rfl,by kernel_rfl⟩ hi
theorem asv{i:Nat}(hi:i<6):l9 (aiN.extract i (i+1)) 0=117+(i:Int):=vm (P:=λi=>l9 (aiN.extract i (i+1)) 0=117+(i:Int)) ⟨by kernel_rfl,by kernel_rfl,by kernel_rfl,by kernel_rfl,by kernel_rfl,by kernel_rfl⟩ hi
theorem asw{i:Nat}(hi:i<5):l9 (al7.extract i (i+1)) 0=101+(i:Int):=ad1 (P:=λi=>l9 (al7.extract i (i+1)) 0=101+(i:Int)) ⟨by kernel_rfl,by kernel_rfl,by kernel_rfl,by kernel_rfl,by kernel_rfl⟩ hi
theorem aAp{i:Nat}(hi:i<6):(upS.extract i (i+1)).size<=40:=vm (P:=λi=>(upS.extract i (i+1)).size<=40) ⟨by decide,by decide,by decide,by decide,by decide,by decide⟩ hi
theorem av3{i:Nat}(hi:i<6):(aiN.extract i (i+1)).size<=40:=vm (P:=λi=>(aiN.extract i (i+1)).size<=40) ⟨by decide,by decide,by decide,by decide,by decide,by decide⟩ hi
theorem av4{i:Nat}(hi:i<5):(al7.extract i (i+1)).size<=40:=ad1 (P:=λi=>(al7.extract i (i+1)).size<=40) ⟨by decide,by decide,by decide,by decide,by decide⟩ hi
theorem aCj{i j:Nat}(hi:i<6)(hj:j<6)(e:upS.extract i (i+1)=upS.extract j (j+1)):i=j:=by have h1:=aAo hi;rw[e,aAo hj] at h1;omega
theorem aAq{i j:Nat}(hi:i<6)(hj:j<6)(e:aiN.extract i (i+1)=aiN.extract j (j+1)):i=j:=by have h1:=asv hi;rw[e,asv hj] at h1;omega
theorem aAr{i j:Nat}(hi:i<5)(hj:j<5)(e:al7.extract i (i+1)=al7.extract j (j+1)):i=j:=by have h1:=asw hi;rw[e,asw hj] at h1;omega
section
variable{t:Types}
theorem adq.abQ{i:Nat}{n:iy}(h:adq i n){x:Attr}(hx:x∈n.attrs):adp i x:=by
 rcases h.attrs with e|⟨y,hy,e⟩
 ·rw[e] at hx;cases hx
 ·rw[e] at hx;rcases mem_cons.1 hx with rfl|h
  ·exact hy
  ·cases h
theorem adq.afP{i:Nat}{n:iy}(h:adq i n):n.attrs.length<=1:=by rcases h.attrs with e|⟨y,hy,e⟩<;>rw[e]<;>simp
theorem aoK{s:ByteArray}(h:s∈aAm):s.size<=40:=by
 unfold aAm at h;rcases mem_cons.1 h with rfl|h
 ·decide
 rcases mem_cons.1 h with rfl|h
 ·decide
 ·cases h
theorem adp.asx{i:Nat}{x:Attr}(h:adp i x):x.names.length<=25/\∀s∈x.names,s.size<=40:=by
 rcases h.how with ⟨e,_⟩|⟨e,_⟩
 ·rw[e];exact⟨by simp,λs hs=>(by cases hs)⟩
 ·rw[e];exact⟨by decide,λs hs=>aoK hs⟩
theorem oU.mem(h:oU t){n:iy}(hn:n∈t.nodes):∃i,i<6/\adq i n:=by
 obtain⟨i,hi,e⟩:=getElem_of_mem hn;have h1:=h.node i hi;have e2:t.nodes.getD i default=t.nodes[i]:=by simp[hi]
 rw[e2,e] at h1;have:=h.n6;exact⟨i,by omega,h1⟩
theorem oU.aJy(h:oU t){n:nW}(hn:n∈t.ah):∃i,i<5/\aoJ t.nodes.length i n:=by
 obtain⟨i,hi,e⟩:=getElem_of_mem hn;have h1:=h.xN i hi;have e2:t.ah.getD i default=t.ah[i]:=by simp[hi]
 rw[e2,e] at h1;have:=h.m5;exact⟨i,by omega,h1⟩
theorem oU.few(h:oU t):iq t where
 nodes:=by have:=h.n6;omega
 ah:=by have:=h.m5;omega
 attrs:=λn hn=>by obtain⟨i,_,h1⟩:=h.mem hn;have:=h1.afP;omega
 name:=λn hn=>by obtain⟨i,hi,h1⟩:=h.mem hn;rw[h1.name];exact aAp hi
 aCt:=λn hn a ha=>by obtain⟨i,hi,h1⟩:=h.mem hn;rw[(h1.abQ ha).name];exact av3 hi
 names:=λn hn a ha=>by obtain⟨i,hi,h1⟩:=h.mem hn;exact (h1.abQ ha).asx.1
 word:=λn hn a ha=>by obtain⟨i,hi,h1⟩:=h.mem hn;exact (h1.abQ ha).asx.2
 ayr:=λe he=>by obtain⟨i,hi,h1⟩:=h.aJy he;rw[h1.name];exact av4 hi
theorem oU.par(h:oU t){n:Nat}(hn:n<=t.nodes.length):qV t n:=λj hj=>(h.node j (by omega)).par
theorem xA(h:oU t):∀ (k a:Nat),a<t.nodes.length->(∀x∈pL t k a,∃j,j<=a/\adp j x)/\(pL t k a).length<=a+1
 |0,a,_=>by unfold pL;exact⟨λx hx=>(by cases hx),by simp⟩
 |k+1,a,ha=>by
  have hn:=h.node a ha;have hl:=hn.afP;unfold pL;split
  ·rename_i h0;have h2:=hn.par;obtain⟨q1,q2⟩:=xA h k (t.nodes.getD a default).parent.toNat (by omega);refine⟨λx hx=>?_,by rw[length_append];omega⟩;rcases mem_append.1 hx with hx|hx
   ·obtain⟨j,hj,hm⟩:=q1 x hx;exact⟨j,by omega,hm⟩
   ·exact⟨a,Nat.le_refl _,hn.abQ hx⟩
  ·exact⟨λx hx=>⟨a,Nat.le_refl _,hn.abQ hx⟩,by rw[nil_append];omega⟩
theorem arF{i:Nat}{x:Attr}(h:adp i x):wW x=0:=by
 unfold wW;have hr:adK x=true:=by
  rw[vD];rcases h.how with ⟨e,h1,h2,h3⟩|⟨e,h1,h2⟩
  ·right;rw[e,h1];exact⟨rfl,by decide,by omega,by omega⟩
  ·left;rw[e,h1,h2];exact⟨by decide,rfl,by decide⟩
 have hn:abo x.names=0:=by
  rcases h.how with ⟨e,_⟩|⟨e,_⟩
  ·rw[e];rfl
  ·rw[e];kernel_rfl
 rw[if_neg (by rw[hn];simp),if_pos hr]
theorem av5(h:oU t){i:Nat}(hi:i<t.nodes.length):k9 t i=0:=by
 have hn:=h.node i hi;have h6:=h.n6;have hl:=hn.afP;have hp:=hn.par;unfold k9;have h1:lJ (t.nodes.getD i default).name=true:=by rw[hn.name];exact aAn (by omega)
 have h2:¬ (t.nodes.take i).any (λy=>decide (y.name=(t.nodes.getD i default).name))=true:=by
  intro hh;rw[any_eq_true] at hh;obtain⟨y,hy,hq⟩:=hh;obtain⟨j,hj,e⟩:=getElem_of_mem hy;rw[length_take] at hj;rw[getElem_take] at e;have hj2:=h.node j (by omega);have e2:t.nodes.getD j default=t.nodes[j]:=by simp[show j<t.nodes.length by omega]
  rw[e2,e] at hj2;have hq:=bX hq;rw[hj2.name,hn.name] at hq;have:=aCj (by omega) (by omega) hq;omega
 rw[if_neg (by rw[h1];decide),if_neg h2,if_neg (λhh=>hh hp),if_neg (by omega)];obtain⟨_,g2⟩:=xA h (i+1) i hi;have g2:(bk t i).length<=i+1:=g2;rw[if_neg (by omega)];refine tI λk hk1 hk2=>?_
 have hat:=sE (t:=t) (a:=i) (h.par (by omega));have hlen:=congrArg length hat;rw[length_append] at hlen;rcases hn.attrs with e|⟨x,hx,e⟩
 ·rw[e] at hlen hk1;simp only[length_nil] at hlen hk1;omega
 ·rw[e] at hlen hk1 hat;simp only[length_cons,length_nil] at hlen hk1;generalize hP:(if 0<=(t.nodes.getD i default).parent then bk t (t.nodes.getD i default).parent.toNat else [])=P at hat hlen;have hk:k=P.length:=by omega
  subst hk;rw[hat,take_left,show (P++[x]).getD P.length default=x by simp];unfold uM;have hnm:lJ x.name=true:=by rw[hx.name];exact av1 (by omega)
  have hno:¬ P.any (λy=>decide (y.name=x.name))=true:=by
   intro hh;rw[any_eq_true] at hh;obtain⟨y,hy,hq⟩:=hh;rw[<-hP] at hy;split at hy
   ·rename_i h0;obtain⟨j,hj,hm⟩:=(xA h _ _ (by omega)).1 y hy;have hq:=bX hq;rw[hm.name,hx.name] at hq;have:=aAq (by omega) (by omega) hq;omega
   ·cases hy
  rw[if_neg (by rw[hnm];decide),if_neg hno,arF hx]
theorem av6(h:oU t){i:Nat}(hi:i<t.ah.length):nX t i=0:=by
 have hn:=h.xN i hi;have h5:=h.m5;unfold nX;have h1:lJ (t.ah.getD i default).name=true:=by rw[hn.name];exact av2 (by omega)
 have h2:¬ (t.ah.take i).any (λy=>decide (y.name=(t.ah.getD i default).name))=true:=by
  intro hh;rw[any_eq_true] at hh;obtain⟨y,hy,hq⟩:=hh;obtain⟨j,hj,e⟩:=getElem_of_mem hy;rw[length_take] at hj;rw[getElem_take] at e;have hj2:=h.xN j (by omega);have e2:t.ah.getD j default=t.ah[j]:=by simp[show j<t.ah.length by omega]
  rw[e2,e] at hj2;have hq:=bX hq;rw[hj2.name,hn.name] at hq;have:=aAr (by omega) (by omega) hq;omega
 obtain⟨⟨b1,b2⟩,b3,b4⟩:=hn.bounds;rw[if_neg (by rw[h1];decide),if_neg h2,if_pos];rw[b1,b2,b3,b4,zj.2 hn.src,zj.2 hn.dst];decide
theorem oU.valid(h:oU t):(gD t).2=0:=by have h1:=h.pos;have h2:=h.n6;have h3:=h.m5;unfold gD;rw[if_neg (by omega),if_neg (by omega),gC λj _ hj=>av5 h hj];dsimp only;rw[gC λj _ hj=>av6 h hj]
theorem oU.ok(h:oU t):OkT t:=zi h.few h.valid
theorem oU.range(h:oU t){a:Nat}(ha:a<t.nodes.length){x:Attr}(hx:x∈bk t a) : -3<=x.low/\x.low<=x.high/\x.high<=11:=by obtain⟨j,_,hm⟩:=(xA h _ _ ha).1 x hx;rcases hm.how with ⟨_,h1,h2,h3⟩|⟨_,h1,h2⟩<;>omega
end
theorem al8(N:List aj)(E:List ax)(next:Int):bG (fA N E next)=N:=by
 unfold bG fA aZ;refine ext_getElem (by simp) λi h1 h2=>?_
 simp[h2]
section
variable{t:Types}{a:ay}{p q:aQ}
end
theorem aak{α β:Type}{f g:α->List β} : ∀ {l:List α},(∀a∈l,f a=g a)->l.flatMap f=l.flatMap g
 | [],_=>rfl
 |a :: r,h=>by rw[flatMap_cons,flatMap_cons,h a (mem_cons_self ..),aak λx hx=>h x (mem_cons_of_mem _ hx)]
structure aaK(a b:ay):Prop where
 next:a.next<=b.next
 node:∀n∈bG b,a.next<=n.id\/∃m∈bG a,m.id=n.id/\m.type=n.type
 xN:∀e∈cD b,a.next<=e.id\/e∈cD a
theorem aaK.refl(a:ay):aaK a a:=⟨Int.le_refl _,λn hn=>.inr ⟨n,hn,rfl,rfl⟩,λe he=>.inr he⟩
theorem aaK.trans{a b c:ay}(h:aaK a b)(k:aaK b c):aaK a c:=by
 refine⟨le_trans h.next k.next,λn hn=>?_,λe he=>?_⟩
 ·rcases k.node n hn with h1|⟨m,hm,e1,e2⟩
  ·exact .inl (le_trans h.next h1)
  ·rcases h.node m hm with h1|⟨m2,hm2,e3,e4⟩
   ·exact .inl (by rw[<-e1];exact h1)
   ·exact .inr ⟨m2,hm2,e3.trans e1,e4.trans e2⟩
 ·rcases k.xN e he with h1|h1
  ·exact .inl (le_trans h.next h1)
  ·exact h.xN e h1
section
variable{t:Types}{a b:ay}
theorem xB(ha:dY t a)(hb:dY t b)(h:aaK a b):gh a b=true:=by
 unfold gh;rw[and_eq_true,all_eq_true,all_eq_true];refine⟨λi hi=>?_,λi hi=>?_⟩
 ·have hi:=mem_range.1 hi;have hm:=qD (a:=a) hi;have hid:(aZ a i).id∈a.nodes:=abO hm;have hlt:=(ha.nid.1 _ hid).2;have h2:bD b.ah (aZ a i).id<0:=tc λh3=>by
   rw[<-qp] at h3;obtain⟨e,he,q⟩:=mem_map.1 h3;rcases h.xN e he with h4|h4
   ·omega
   ·exact ha.apart _ (tv h4) (q ▸ hid)
  unfold okN;rw[gd (by omega:¬ 0<=bD b.ah (aZ a i).id),Bool.not_false,Bool.true_and];by_cases h0:0<=bD b.nodes (aZ a i).id
  ·have hb2:=qD (gV h0);have hq:=agP hb h0;rcases h.node _ hb2 with h4|⟨m,hm2,e1,e2⟩
   ·omega
   ·have:=ha.agD.inj hm2 hm (e1.trans hq);subst this;rw[ew h0,ew e2.symm];rfl
  ·rw[gd h0];rfl
 ·have hi:=mem_range.1 hi;have hm:=qE (a:=a) hi;have hid:(cE a i).id∈a.ah:=tv hm;have hlt:=(ha.eid.1 _ hid).2;have h2:bD b.nodes (cE a i).id<0:=tc λh3=>by
   rw[<-sZ] at h3;obtain⟨e,he,q⟩:=mem_map.1 h3;rcases h.node e he with h4|⟨m,hm2,e1,_⟩
   ·omega
   ·exact ha.apart _ hid (by rw[<-q,<-e1];exact abO hm2)
  unfold okD;rw[gd (by omega:¬ 0<=bD b.nodes (cE a i).id),Bool.not_false,Bool.true_and];by_cases h0:0<=bD b.ah (cE a i).id
  ·have hb2:=qE (gV h0);have hq:=al4 hb h0;rcases h.xN _ hb2 with h4|h4
   ·omega
   ·have:=ha.agE.inj h4 hm hq;rw[this,ew h0,u9.2 rfl];rfl
  ·rw[gd h0];rfl
theorem aiO(ha:dY t a)(hb:dY t b)(h:gh a b=true):gh b a=true:=by
 unfold gh;rw[and_eq_true,all_eq_true,all_eq_true];refine⟨λi hi=>?_,λi hi=>?_⟩
 ·have hi:=mem_range.1 hi;have hm:=qD (a:=b) hi;have h2:bD a.ah (aZ b i).id<0:=tc λh3=>by obtain⟨j,hj,e⟩:=getElem_of_mem h3;exact (wk h hj).1 (by rw[vc hj,e];exact abO hm)
  unfold okN;rw[gd (by omega:¬ 0<=bD a.ah (aZ b i).id),Bool.not_false,Bool.true_and];by_cases h0:0<=bD a.nodes (aZ b i).id
  ·have hq:=agP ha h0;have h3:=(ta h (gV h0)).2 (by rw[hq];exact abO hm);have h4:(bD b.nodes (aZ b i).id).toNat=i:=by rw[jW hi,pg hb.nid.2 hi,toNat_natCast]
   rw[hq,h4] at h3;rw[ew h0,ew h3.symm];rfl
  ·rw[gd h0];rfl
 ·have hi:=mem_range.1 hi;have hm:=qE (a:=b) hi;have h2:bD a.nodes (cE b i).id<0:=tc λh3=>by obtain⟨j,hj,e⟩:=getElem_of_mem h3;exact (ta h hj).1 (by rw[jW hj,e];exact tv hm)
  unfold okD;rw[gd (by omega:¬ 0<=bD a.nodes (cE b i).id),Bool.not_false,Bool.true_and];by_cases h0:0<=bD a.ah (cE b i).id
  ·have hq:=al4 ha h0;have h3:=(wk h (gV h0)).2 (by rw[hq];exact tv hm);rw[hq] at h3;have h4:cE b (bD b.ah (cE b i).id).toNat=cE b i:=by rw[vc hi,pg hb.eid.2 hi,toNat_natCast]
   rw[h4] at h3;rw[ew h0,<-h3,u9.2 rfl];rfl
  ·rw[gd h0];rfl
def asy(v:aO):aO:=⟨v.id,v.attr,v.new,v.old⟩
def aFC(p:aQ):aQ:=⟨p.aV,p.bn,p.aG,p.aM,p.values.map asy,⟨p.next.x1,p.next.x0⟩⟩
theorem av7(id:Int)(l m:List Int)(k:Nat):wI id m l k=(wI id l m k).map asy:=by
 unfold wI;by_cases h:l.getD k default=m.getD k default
 ·rw[if_pos h,if_pos h.symm];rfl
 ·rw[if_neg h,if_neg λe=>h e.symm];rfl
def aal(a:ay)(id:Int):List Int:=(aZ a (bD a.nodes id).toNat).values
def aAs(a b:ay)(id:Int):List aO:=(range (aal a id).length).flatMap (wI id (aal a id) (aal b id))
theorem akv(ha:dY t a):sr a b=((su a b).map λi=>(aZ a i).id).flatMap (aAs a b):=by
 rw[flatMap_map];show (su a b).flatMap (aaT a b)=_;refine aak λi hi=>?_
 have h1:=(qF.1 hi).1;have e:aal a (aZ a i).id=(aZ a i).values:=by unfold aal;rw[jW h1,pg ha.nid.2 h1,toNat_natCast]
 unfold aAs aaT;rw[e];rfl
theorem aAt(ha:dY t a)(hb:dY t b):((su a b).map λi=>(aZ a i).id)=(su b a).map λi=>(aZ b i).id:=by
 have asc:∀ {x y:ay},dY t x->jE id ((su x y).map λi=>(aZ x i).id):=λhx=>pairwise_map.2 (xz hx)
 have mem:∀ {x y:ay},dY t x->∀n,n∈((su x y).map λi=>(aZ x i).id)↔n∈x.nodes/\n∈y.nodes:=λ{x y} hx n=>by
  rw[mem_map];constructor
  ·rintro⟨i,hi,rfl⟩;obtain⟨h1,h2⟩:=qF.1 hi;exact⟨abO (qD h1),h2⟩
  ·rintro⟨h1,h2⟩;obtain⟨i,hi,rfl⟩:=getElem_of_mem h1;exact⟨i,qF.2 ⟨hi,by rw[jW hi];exact h2⟩,jW hi⟩
 refine (asc ha).ext (asc hb) λn=>?_
 rw[mem ha,mem hb];exact And.comm
theorem arG(ha:dY t a)(hb:dY t b)(h:gh a b=true):sr b a=(sr a b).map asy:=by
 rw[akv hb,akv ha,aAt hb ha,map_flatMap];refine aak λn hn=>?_
 obtain⟨i,hi,rfl⟩:=mem_map.1 hn;obtain⟨h1,h2⟩:=qF.1 hi;have e:aal a (aZ a i).id=(aZ a i).values:=by unfold aal;rw[jW h1,pg ha.nid.2 h1,toNat_natCast]
 have hl:(aal b (aZ a i).id).length=(aal a (aZ a i).id).length:=by rw[e];exact aeY ha hb h1 (gV (iQ.2 h2)) ((ta h h1).2 h2)
 unfold aAs;rw[map_flatMap,hl];exact aak λk _=>av7 _ _ _ k
theorem aoL(ha:dY t a)(hb:dY t b)(h:gh a b=true):aFC (kW a b)=kW b a:=by unfold kW;rw[arG ha hb h];rfl
end
section
variable{t:Types}{a:ay}{p q:aQ}
theorem al9{N:List aj}{E:List ax}{next:Int}(h:∀e∈E,0<=bD (N.map aj.id) e.src/\0<=bD (N.map aj.id) e.dst):cD (fA N E next)=E:=by
 unfold cD;refine ext_getElem (by simp[fA]) λi h1 h2=>?_
 obtain⟨k1,k2⟩:=h _ (pT h2);rw[getElem_map,getElem_range];have g:∀n,0<=bD (N.map aj.id) n->(N.map aj.id).getD (bD (N.map aj.id) n).toNat default=n:=λn hn=>by rw[getD_eq_getElem?_getD,aiF hn];rfl
 have e1:(E.map ax.id).getD i default=E[i].id:=by simp[h2]
 have e2:(E.map (oS (N.map aj.id))).getD i default=oS (N.map aj.id) E[i]:=by simp[h2]
 show (⟨(E.map ax.id).getD i default,((E.map (oS (N.map aj.id))).getD i default).type,(N.map aj.id).getD ((E.map (oS (N.map aj.id))).getD i default).src.toNat default,(N.map aj.id).getD ((E.map (oS (N.map aj.id))).getD i default).dst.toNat default⟩:ax)=_;rw[e1,e2];unfold oS;rw[g _ k1,g _ k2]
theorem alZ.mem{l m:List aj}(h:alZ l m){n:aj}(hn:n∈l):∃x∈m,x.id=n.id/\x.type=n.type:=by
 have h1:(n.id,n.type,n.values.length)∈l.map λn=>(n.id,n.type,n.values.length):=mem_map_of_mem (f:=λn:aj=>(n.id,n.type,n.values.length)) hn
 rw[show l.map (λn=>(n.id,n.type,n.values.length))=m.map λn=>(n.id,n.type,n.values.length) from h] at h1;obtain⟨x,hx,e⟩:=mem_map.1 h1;simp only[iF] at e;exact⟨x,hx,e.1,e.2.1⟩
end
def OkU(l:List dJ):Prop:=∀x∈l,(0<=x.x0/\x.x0<=255)/\(0<=x.x1/\x.x1<=255)
theorem yO{a b:Int}(ha:0<=a)(hb:0<b):0<=a.tmod b/\a.tmod b<b:=⟨Int.tmod_nonneg _ ha,Int.tmod_lt_of_pos _ hb⟩
theorem aFD{a b:Int}(ha:0<=a)(hb:0<b):0<=a.tdiv b/\a.tdiv b<=a:=by rw[Int.tdiv_eq_ediv_of_nonneg ha];exact⟨Int.ediv_nonneg ha (by omega),Int.ediv_le_self _ ha⟩
theorem av8{x:Int}(h:0<=x/\x<=255):3<=i64.wrap (3+(i64.wrap (IntKind.u8.wrap (x.tdiv 4))).tmod 9)/\i64.wrap (3+(i64.wrap (IntKind.u8.wrap (x.tdiv 4))).tmod 9)<=11:=by have h1:=aFD (b:=4) h.1 (by decide);rw[aDq (by omega),gl (n:=x.tdiv 4) (by omega)];have h2:=yO (b:=9) h1.1 (by decide);rw[gl (by omega)];omega
theorem arH{i:Nat}{x:Int}(h:0<=x/\x<=255):adp i ⟨aiN.extract i (i+1),-3,i64.wrap (3+(i64.wrap (IntKind.u8.wrap (x.tdiv 4))).tmod 9),[]⟩:=⟨rfl,.inl ⟨rfl,rfl,av8 h⟩⟩
theorem arI{i:Nat} : adp i ⟨aiN.extract i (i+1),0,1,[(⟨#[111,102,102]⟩:ByteArray),(⟨#[111,110]⟩:ByteArray)]⟩:=⟨rfl,.inr ⟨rfl,rfl,rfl⟩⟩
theorem aFE{i:Nat}{x:Int}(hi:i<6)(h:0<=x/\x<=255){ab:Bool}{at_:List Attr}(ha:at_=[]\/∃x,adp i x/\at_=[x]) :
  adq i ⟨upS.extract i (i+1),i64.wrap ((i64.wrap x).tmod ((i:Int)+1)-1),ab,at_⟩:=by
 refine⟨rfl,?_,ha⟩;have:=yO (b:=(i:Int)+1) h.1 (by omega);dsimp only;rw[gl (n:=x) (by omega),gl (by omega)];omega
theorem akw{α:Type} [Inhabited α]{P:Nat->α->Prop}{l:List α}{x:α}(h:∀i,i<l.length->P i (l.getD i default))(hx:P l.length x):∀i,i<(l++[x]).length->P i ((l++[x]).getD i default):=λi hi=>by
 rw[length_append] at hi;simp only[length_cons,length_nil] at hi;rcases lt_or_ge i l.length with h1|h1
 ·have e:(l++[x]).getD i default=l.getD i default:=by simp[getD_eq_getElem?_getD,getElem?_append_left h1]
  rw[e];exact h i h1
 ·have e1:i=l.length:=by omega
  subst e1;have e:(l++[x]).getD l.length default=x:=by simp
  rw[e];exact hx
theorem aCk{ns es:List dJ}(hn:OkU ns)(he:OkU es):Ok (jf ns es) oU:=by
 unfold jf;have s1:(((#[65,66,67,68,69,70]:Array UInt8).size:Nat):Int)=6:=rfl;have s2:(((#[117,118,119,120,121,122]:Array UInt8).size:Nat):Int)=6:=rfl;have s3:(((#[101,102,103,104,105]:Array UInt8).size:Nat):Int)=5:=rfl;refine aeT (λs:Int×List iy=>s.1=s.2.length/\s.2.length<=6/\∀i,i<s.2.length->adq i (s.2.getD i default))
  (λs=>(0<s.2.length/\s.2.length<=6)/\∀i,i<s.2.length->adq i (s.2.getD i default)) (λs=>6-s.2.length) ⟨rfl,by decide,λi hi=>absurd hi (not_lt_zero i)⟩ (by unfold fuel;simp) ?_ ?_
 ·rintro⟨k,l⟩ eE brk ⟨h1,h2,h3⟩ hnx hbr;dsimp only at h1 h2 h3 hnx hbr ⊢;subst h1;have w1:i64.wrap ((l.length:Int)+1)=(l.length:Int)+1:=gl (by omega);have w2:((l.length:Int)+1).toNat=l.length+1:=by omega
  have go : ∀ (x0 x1 : Int) (ab : Bool), (0 ≤ x0 ∧ x0 ≤ 255) → (0 ≤ x1 ∧ x1 ≤ 255) → l.length < 6 → ∀ at_ : List Attr, (at_ = [] ∨ ∃ x, adp l.length x ∧ at_ = [x]) →
    Ok (eE ((l.length:Int)+1,l++[⟨upS.extract l.length (l.length+1),i64.wrap ((i64.wrap x0).tmod ((l.length:Int)+1)-1),ab,at_⟩])) oU:=λx0 x1 ab g0 g1 hl at_ has =>
   hnx _ ⟨by simp,by simp;omega,akw (P:=adq) h3 (aFE hl g0 has)⟩ (by simp;omega)
  rw[w1,s1,s2,toNat_natCast,w2];refine b9 (λc0=>?_) (λc0=>?_)
  ·have c0:=bX c0;have hl:l.length<6:=by omega
   refine b9 (λc1=>?_) (λc1=>?_)
   ·have c1:=bX c1;have hlt:((l.length:Int)).toNat<ns.length:=by omega
    refine nT (by omega) hlt ?_;obtain⟨q0,q1⟩:=hn _ (pT hlt);generalize ns[((l.length:Int)).toNat]=e at q0 q1 ⊢;refine b6 (by omega) (b6 (by omega) (b6 (by omega) ?_));refine b9 (λ_=>b6 (by omega) (go _ _ _ q0 q1 hl _ (.inr ⟨_,arH q1,rfl⟩))) (λ_=>?_);exact b9 (λ_=>b6 (by omega) (go _ _ _ q0 q1 hl _ (.inr ⟨_,arI,rfl⟩))) (λ_=>b6 (by omega) (go _ _ _ q0 q1 hl _ (.inl rfl)))
   ·have z:(0:Int)<=0/\(0:Int)<=255:=by decide
    refine b6 (by omega) (b6 (by omega) (b6 (by omega) ?_));refine b9 (λ_=>b6 (by omega) (go _ _ _ z z hl _ (.inr ⟨_,arH z,rfl⟩))) (λ_=>?_);exact b9 (λ_=>b6 (by omega) (go _ _ _ z z hl _ (.inr ⟨_,arI,rfl⟩))) (λ_=>b6 (by omega) (go _ _ _ z z hl _ (.inl rfl)))
  ·have c0:=eu c0;have hb:Ok (brk ((l.length:Int),l)) oU:=hbr _ ⟨⟨by dsimp only;omega,h2⟩,h3⟩;refine b9 (λc1=>?_) (λ_=>hb);have c1:=bX c1;refine b9 (λc2=>?_) (λ_=>hb);have hl:l.length<6:=by have:=bX c2;omega
   have hlt:((l.length:Int)).toNat<ns.length:=by omega
   refine nT (by omega) hlt ?_;obtain⟨q0,q1⟩:=hn _ (pT hlt);generalize ns[((l.length:Int)).toNat]=e at q0 q1 ⊢;refine b6 (by omega) (b6 (by omega) (b6 (by omega) ?_));refine b9 (λ_=>b6 (by omega) (go _ _ _ q0 q1 hl _ (.inr ⟨_,arH q1,rfl⟩))) (λ_=>?_);exact b9 (λ_=>b6 (by omega) (go _ _ _ q0 q1 hl _ (.inr ⟨_,arI,rfl⟩))) (λ_=>b6 (by omega) (go _ _ _ q0 q1 hl _ (.inl rfl)))
 ·rintro⟨k,l⟩ ⟨⟨h0,h2⟩,h3⟩;dsimp only at h0 h2 h3 ⊢;refine aeT (λs:Int×List nW=>s.1=s.2.length/\s.2.length<=5/\∀i,i<s.2.length->aoJ l.length i (s.2.getD i default))
   (λs=>s.2.length<=5/\∀i,i<s.2.length->aoJ l.length i (s.2.getD i default)) (λs=>5-s.2.length) ⟨rfl,by decide,λi hi=>absurd hi (not_lt_zero i)⟩ (by unfold fuel;simp) ?_ ?_
  ·rintro⟨k,m⟩ eE brk ⟨h4,h5,h6⟩ hnx hbr;dsimp only at h4 h5 h6 hnx hbr ⊢;subst h4;have w1:i64.wrap ((m.length:Int)+1)=(m.length:Int)+1:=gl (by omega);have w2:((m.length:Int)+1).toNat=m.length+1:=by omega
   have hb:Ok (brk ((m.length:Int),m)) oU:=hbr _ ⟨h5,h6⟩;rw[w1,s3,toNat_natCast,w2];refine b9 (λc1=>?_) (λ_=>hb);have c1:=bX c1;refine b9 (λc2=>?_) (λ_=>hb);have hl:m.length<5:=by have:=bX c2;omega
   have hlt:((m.length:Int)).toNat<es.length:=by omega
   refine b6 (by omega) ?_;refine nT (by omega) hlt ?_;obtain⟨q0,q1⟩:=he _ (pT hlt);generalize es[((m.length:Int)).toNat]=e at q0 q1 ⊢;refine b6 (by omega) (b6 (by omega) (b6 (by omega) ?_));have t0:=yO (b:=(l.length:Int)) q0.1 (by omega);have t1:=yO (b:=(l.length:Int)) q1.1 (by omega);rw[gl (n:=e.x0) (by omega),gl (n:=e.x1) (by omega)];exact hnx _ ⟨by simp,by simp;omega,akw (P:=aoJ l.length) h6 ⟨rfl,t0,t1,⟨rfl,rfl⟩,rfl,rfl⟩⟩ (by simp;omega)
  ·rintro⟨k,m⟩ ⟨h5,h6⟩;exact .mk ⟨h0,h2,h5,h3,h6⟩
def ama(d:dP):Prop:=(∀x∈d.nodes,(0<=x.x0/\x.x0<=255)/\(0<=x.x1/\x.x1<=255))/\(∀x∈d.ah,(0<=x.x0/\x.x0<=255)/\(0<=x.x1/\x.x1<=255)/\(0<=x.x2/\x.x2<=255))
structure Roomy(t:Types):Prop where
 few:iq t
 valid:(gD t).2=0
 room:∀a,a<t.nodes.length->∀x∈bk t a,-1000000<=x.low/\x.low<=x.high/\x.high<=1000000
theorem oU.roomy{t:Types}(h:oU t):Roomy t:=⟨h.few,h.valid,λa ha x hx=>by have:=h.range ha hx;omega⟩
section
variable{t:Types}
theorem Roomy.ok(h:Roomy t):OkT t:=zi h.few h.valid
theorem Roomy.aDz(h:Roomy t){a:Nat}(ha:a<t.nodes.length):(bk t a).length<=8:=afN (h.ok.node a ha)
theorem aoM(h:Roomy t):Ok (gG t) (λl=>∀k∈l,(0<=k/\k<t.nodes.length)/\(t.nodes.getD k.toNat default).abs=false):=by
 have hn:=h.few.nodes;unfold gG;refine b6 (bU (by omega)) ?_;refine nZ (λi (l:List Int)=>l.length<=i/\∀k∈l,(0<=k/\k<t.nodes.length)/\(t.nodes.getD k.toNat default).abs=false) (zero_le _) ⟨by simp,λk hk=>(by cases hk)⟩ ?_ ?_
 ·rintro i l eE _ hi ⟨h1,h2⟩ hx;refine nI hi (b9 (λ_=>hx _ ⟨by omega,h2⟩) (λc=>b6 (by omega) (hx _ ⟨by simp;omega,λk hk=>?_⟩)));rcases mem_append.1 hk with hk|hk
  ·exact h2 k hk
  ·simp only[mem_cons,not_mem_nil,or_false] at hk;subst hk;refine⟨⟨by omega,by omega⟩,?_⟩;rw[toNat_natCast];have e:t.nodes.getD i default=t.nodes[i]:=by simp[hi]
   rw[e];exact c
 ·rintro l ⟨_,h2⟩;exact .mk h2
def asz(t:Types)(k:Int)(v:List Int):Prop:=(0<=k/\k<t.nodes.length)/\nH t k v=0
theorem aCl{k:Int}{v:List Int}(hk:0<=k/\k<t.nodes.length)(ha:(t.nodes.getD k.toNat default).abs=false)(hl:v.length=(bk t k.toNat).length)(hv:∀j,j<v.length->((bk t k.toNat).getD j default).low<=v.getD j default/\v.getD j default<=((bk t k.toNat).getD j default).high):asz t k v:=by
 refine⟨hk,?_⟩;unfold nH;rw[if_neg (by omega),if_neg (by rw[ha];decide),if_neg (λh=>h hl)];refine tI λj _ hj=>?_
 have:=hv j hj;unfold nR;rw[if_neg (by omega)]
theorem kC{α:Type} [Inhabited α]{l:List α}{x:α}{i:Nat}(h:i<l.length):(l++[x]).getD i default=l.getD i default:=by simp[getD_eq_getElem?_getD,getElem?_append_left h]
theorem rT{α:Type} [Inhabited α]{l:List α}{x:α} : (l++[x]).getD l.length default=x:=by simp
theorem atI{α:Type} [Inhabited α]{l:List α}{i:Nat}(h:i<l.length):l.getD i default=l[i]:=by simp[h]
structure aCG(t:Types)(h:Host):Prop where
 ok:aaf t h
 n8:h.graph.nodes.length<=8
 m10:h.graph.ah.length<=10
theorem aAu(hr:Roomy t){ns:List Int}{vs:List (List Int)}{es:List Edge}(h1:ns.length<=8)(h2:vs.length=ns.length)(h3:∀j,j<ns.length->asz t (ns.getD j default) (vs.getD j default))(h4:es.length<=10)
  (h5:∀e∈es,(0<=e.type/\e.type<t.ah.length)/\(0<=e.src/\e.src<ns.length)/\(0<=e.dst/\e.dst<ns.length)/\qW t e.type (ns.getD e.src.toNat default) (ns.getD e.dst.toNat default)=true):aCG t ⟨⟨ns,es⟩,vs⟩:=by
 have n12:=hr.ok.n12;have m20:=hr.ok.m20;refine⟨⟨hr.valid,?_,h2,λi hi=>(h3 i hi).2,λi hi=>?_⟩,h1,h4⟩
 ·unfold qj;rw[if_neg (by dsimp only;omega),if_neg,if_neg]
  ·intro hh;obtain⟨e,he,hb⟩:=any_eq_true.1 hh;obtain⟨g1,g2,g3,_⟩:=h5 e he;rw[not_eq_true'] at hb;unfold vE uN at hb;rw[ew g1.1,ew (by omega:e.type<=99),ew g2.1,ew (by dsimp only;omega:e.src<=(_:Int)-1),ew g3.1,ew (by dsimp only;omega:e.dst<=(_:Int)-1)] at hb;cases hb
  ·intro hh;obtain⟨k,hk,hb⟩:=any_eq_true.1 hh;have hk:k∈ns:=hk;obtain⟨j,hj,rfl⟩:=getElem_of_mem hk;have:=(h3 j hj).1;rw[atI hj] at this;rw[not_eq_true'] at hb;unfold uN at hb;rw[ew this.1,ew (by omega:ns[j]<=99)] at hb;cases hb
 ·have hi:i<es.length:=hi;obtain⟨g1,_,_,g4⟩:=h5 _ (pT hi);unfold uO;dsimp only;rw[atI hi,if_neg (by omega),if_pos g4]
theorem asA(hr:Roomy t){d:dP}(hd:ama d):Ok (gT t d) (aCG t):=by
 have hT:=hr.ok;have n12:=hT.n12;have m20:=hT.m20;unfold gT;refine qY (aoM hr) λC hC=>?_
 refine aeT (λs:Int×List Int×List (List Int)=>s.1=s.2.1.length/\s.2.1.length<=8/\s.2.2.length=s.2.1.length/\∀j,j<s.2.1.length->asz t (s.2.1.getD j default) (s.2.2.getD j default))
  (λs=>s.2.1.length<=8/\s.2.2.length=s.2.1.length/\∀j,j<s.2.1.length->asz t (s.2.1.getD j default) (s.2.2.getD j default)) (λs=>8-s.2.1.length) ⟨rfl,by decide,rfl,λi hi=>absurd hi (not_lt_zero i)⟩ (by unfold fuel;simp) ?_ ?_
 ·rintro⟨k,ns,vs⟩ eE brk ⟨h1,h2,h3,h4⟩ hn hb;dsimp only at h1 h2 h3 h4 hn hb ⊢;subst h1;refine b9 (λc1=>?_) (λ_=>hb _ ⟨h2,h3,h4⟩);refine b9 (λc2=>?_) (λ_=>hb _ ⟨h2,h3,h4⟩);refine b9 (λc3=>?_) (λ_=>hb _ ⟨h2,h3,h4⟩);have c1:=bX c1;have c2:=bX c2;have c3:=bX c3;have hlt:((ns.length:Int)).toNat<d.nodes.length:=by omega
  refine nT (by omega) hlt ?_;obtain⟨q0,q1⟩:=hd.1 _ (pT hlt);generalize d.nodes[((ns.length:Int)).toNat]=e at q0 q1 ⊢;refine b6 (by omega) ?_;rw[gl (n:=e.x0) (by omega)];have t0:=yO (b:=(C.length:Int)) q0.1 c3;have hc:(e.x0.tmod (C.length:Int)).toNat<C.length:=by omega
  refine nT t0.1 hc ?_;obtain⟨g1,g2⟩:=hC _ (pT hc);generalize C[(e.x0.tmod (C.length:Int)).toNat]=kd at g1 g2 ⊢;refine ok_eq (show mG t kd=some (bk t kd.toNat,0) from yp ⟨hT,g1⟩) ?_;have qG:kd.toNat<t.nodes.length:=by omega
  have h8:=hr.aDz qG;have hroom:=hr.room kd.toNat qG;dsimp only;generalize hA:bk t kd.toNat=A at h8 hroom ⊢;refine b6 (bU (by omega)) ?_;refine nZ (λi (v:List Int)=>v.length=i/\∀j,j<i->(A.getD j default).low<=v.getD j default/\v.getD j default<=(A.getD j default).high) (zero_le _) ⟨rfl,λj hj=>absurd hj (not_lt_zero j)⟩ ?_ ?_
  ·rintro i v nx2 _ hi ⟨k1,k2⟩ hn2;refine nI hi ?_;have r:=hroom _ (pT hi);have w1:i64.wrap (i64.wrap (A[i].high-A[i].low)+1)=A[i].high-A[i].low+1:=by rw[gl (n:=A[i].high-A[i].low) (by omega),gl (by omega)]
   have w2:i64.wrap (i64.wrap e.x1+i64.wrap (7 * ((i:Nat):Int)))=e.x1+7 * (i:Int):=by rw[gl (n:=e.x1) (by omega),gl (n:=7 * ((i:Nat):Int)) (by omega),gl (by omega)]
   rw[w1,w2];have t1:=yO (a:=e.x1+7 * (i:Int)) (b:=A[i].high-A[i].low+1) (by omega) (by omega);refine b6 (by omega) (b6 (by omega) ?_);rw[gl (n:=A[i].low+(e.x1+7 * (i:Int)).tmod (A[i].high-A[i].low+1)) (by omega)];refine hn2 _ ⟨by simp;omega,λj hj=>?_⟩;rcases lt_or_ge j i with hji|hji
   ·rw[kC (by omega)];exact k2 j hji
   ·have:j=i:=by omega
    subst this;subst k1;rw[rT,atI hi];omega
  ·rintro v ⟨k1,k2⟩;refine b6 (by omega) (b6 (by omega) ?_);rw[gl (n:=(ns.length:Int)+1) (by omega)];refine hn _ ⟨by simp,by simp;omega,by simp;omega,λj hj=>?_⟩ (by simp;omega);dsimp only at hj ⊢;rw[length_append] at hj;simp only[length_cons,length_nil] at hj;rcases lt_or_ge j ns.length with hji|hji
   ·rw[kC hji,kC (by omega)];exact h4 j hji
   ·have e1:j=ns.length:=by omega
    subst e1;have e2:(vs++[v]).getD ns.length default=v:=by rw[<-h3];exact rT
    rw[rT,e2];subst hA;exact aCl g1 g2 k1 λj hj=>k2 j (by omega)
 ·rintro⟨k,ns,vs⟩ ⟨h2,h3,h4⟩;dsimp only at h2 h3 h4 ⊢;refine aeT (λs:Int×List Edge=>(0<=s.1/\s.1<=10/\s.2.length<=s.1)/\∀e∈s.2,(0<=e.type/\e.type<t.ah.length)/\(0<=e.src/\e.src<ns.length)/\(0<=e.dst/\e.dst<ns.length)/\qW t e.type (ns.getD e.src.toNat default) (ns.getD e.dst.toNat default)=true)
   (λs=>s.2.length<=10/\∀e∈s.2,(0<=e.type/\e.type<t.ah.length)/\(0<=e.src/\e.src<ns.length)/\(0<=e.dst/\e.dst<ns.length)/\qW t e.type (ns.getD e.src.toNat default) (ns.getD e.dst.toNat default)=true)
   (λs=>(10-s.1).toNat) ⟨by simp,by simp⟩ (by unfold fuel;simp) ?_ ?_
  ·rintro⟨j,es⟩ eE brk ⟨g1,g2⟩ hn hb;dsimp only at g1 g2 hn hb ⊢;refine b9 (λc1=>?_) (λ_=>hb _ ⟨by simp only;omega,g2⟩);refine b9 (λc2=>?_) (λ_=>hb _ ⟨by simp only;omega,g2⟩);refine b9 (λc3=>?_) (λ_=>hb _ ⟨by simp only;omega,g2⟩);refine b9 (λc4=>?_) (λ_=>hb _ ⟨by simp only;omega,g2⟩);have c1:=bX c1;have c2:=bX c2;have c3:=bX c3;have c4:=bX c4;have hj:j.toNat<d.ah.length:=by omega
   refine nT g1.1 hj ?_;obtain⟨q0,q1,q2⟩:=hd.2 _ (pT hj);generalize d.ah[j.toNat]=e at q0 q1 q2 ⊢;refine b6 (by omega) (b6 (by omega) (b6 (by omega) ?_));rw[gl (n:=e.x0) (by omega),gl (n:=e.x1) (by omega),gl (n:=e.x2) (by omega),gl (n:=j+1) (by omega)];have m0:=yO (b:=(t.ah.length:Int)) q0.1 c4;have m1:=yO (b:=(ns.length:Int)) q1.1 c3;have m2:=yO (b:=(ns.length:Int)) q2.1 c3;have b1:(e.x1.tmod (ns.length:Int)).toNat<ns.length:=by omega
   have b2:(e.x2.tmod (ns.length:Int)).toNat<ns.length:=by omega
   refine nT m1.1 b1 (nT m2.1 b2 ?_);refine ok_eq (yp hr.few) ?_;refine b9 (λf1=>?_) (λ_=>hn _ ⟨by simp only;omega,g2⟩ (by simp only;omega));refine b6 (by omega) ?_;refine hn _ ⟨by simp only[length_append,length_cons,length_nil];omega,λx hx=>?_⟩ (by simp only;omega);rcases mem_append.1 hx with h|h
   ·exact g2 x h
   ·simp only[mem_cons,not_mem_nil,or_false] at h;subst h;refine⟨m0,m1,m2,?_⟩;dsimp only;rw[atI b1,atI b2];exact f1
  ·rintro⟨j,es⟩ ⟨g1,g2⟩;exact .mk (aAu hr h2 h3 h4 g1 g2)
end
section
variable{t:Types}{x y:ay}
theorem aiP(ht:OkT t){k:Int}{v:List Int}(hk:0<=k)(h:nH t k v=0):v.length<=8:=by
 unfold nH at h;split at h
 ·cases h
 rename_i h1;split at h
 ·cases h
 split at h
 ·cases h
 rename_i h2;have h2:=Decidable.of_not_not h2;have h3:=afN (ht.node k.toNat (by omega));omega
theorem aaf.xL(hf:iq t){h:Host}(hh:aaf t h):vF h:=by have hg:=hh.graph;have h1:=hg.nodes;have h2:=hg.ah;have h3:=hh.aiq;refine⟨⟨by omega,by omega⟩,by omega,λl hl=>?_⟩;obtain⟨i,hi,rfl⟩:=getElem_of_mem hl;have h4:=hh.node i (by omega);rw[atI hi] at h4;have:=aiP (zi hf hh.types) (hg.kind i (by omega)).1 h4;omega
theorem dY.xL(hf:iq t)(h:dY t x):oQ x:=⟨h.host.xL hf,by have:=h.n40;omega,by have:=h.e80;omega⟩
theorem aiQ{N:List aj}{E:List ax}{next:Int}(h:dY t (fA N E next)):cD (fA N E next)=E:=by
 refine al9 λe he=>?_
 obtain⟨i,hi,rfl⟩:=getElem_of_mem he;have hl:(fA N E next).host.graph.ah.length=E.length:=by simp[fA]
 have hE:=h.host.graph.xN i (by omega);have e2:(fA N E next).host.graph.ah.getD i default=oS (N.map aj.id) E[i]:=by simp[fA,hi]
 rw[e2] at hE;exact⟨hE.2.1.1,hE.2.2.1⟩
theorem av9{N:List aj}{E:List ax}{next:Int}(h1:N.length<=1000)(h2:E.length<=1000)(h3:Rows N):oQ (fA N E next):=by refine⟨⟨⟨by simpa[fA] using h1,by simpa[fA] using h2⟩,by simpa[fA] using h1,λl hl=>?_⟩,by simp[fA];omega,by simp[fA];omega⟩;obtain⟨n,hn,rfl⟩:=mem_map.1 hl;exact h3 n hn
def akx(t:Types)(x y:ay):Prop:=oQ y/\(dY t y->aaK x y)
theorem awa(hf:iq t)(hx:dY t x):akx t x x:=⟨hx.xL hf,λ_=>aaK.refl x⟩
theorem arJ(hf:iq t)(hx:dY t x){i j:Nat}(hi:i<x.host.values.length)(v:Int):akx t x ⟨⟨x.host.graph,x.host.values.set i ((x.host.values[i]).set j v)⟩,x.nodes,x.ah,x.next⟩:=by
 have hb:=hx.xL hf;refine⟨⟨⟨hb.host.graph,by simpa using hb.host.values,λl hl=>?_⟩,hb.nodes,hb.ah⟩,λhy=>⟨Int.le_refl _,λn hn=>?_,λe he=>.inr he⟩⟩
 ·rcases mem_or_eq_of_mem_set hl with h|h
  ·exact hb.host.row l h
  ·rw[h,length_set];exact hb.host.row _ (pT hi)
 ·obtain⟨k,hk,rfl⟩:=acu hn;exact .inr ⟨aZ x k,qD hk,rfl,rfl⟩
theorem aoN(hf:iq t)(hx:dY t x){N:List aj}{E:List ax}(hN:N.Sublist (bG x))(hE:E.Sublist (cD x)):akx t x (fA N E x.next):=by
 have hb:=hx.xL hf;have h1:=hN.length_le;have h2:=hE.length_le;have n1:=hx.n40;have n2:=hx.e80;rw[iJ] at h1;rw[ia] at h2;refine⟨av9 (by omega) (by omega) (λn hn=>jN hx hb.host n (hN.subset hn)),λhy=>⟨Int.le_refl _,λn hn=>?_,λe he=>?_⟩⟩
 ·rw[al8] at hn;exact .inr ⟨n,hN.subset hn,rfl,rfl⟩
 ·rw[aiQ hy] at he;exact .inr (hE.subset he)
theorem awb(hf:iq t)(hx:dY t x)(k:Int){v:List Int}(hv:v.length<=8):akx t x ⟨⟨⟨x.host.graph.nodes++[k],x.host.graph.ah⟩,x.host.values++[v]⟩,x.nodes++[x.next],x.ah,x.next+1⟩:=by
 have hb:=hx.xL hf;have n1:=hx.n40;have n2:=hx.aag;have n3:=hx.host.aiq;refine⟨⟨⟨⟨by simp;omega,hb.host.graph.ah⟩,by simp;omega,λl hl=>?_⟩,by simp;omega,hb.ah⟩,λhy=>⟨by dsimp only;omega,λn hn=>?_,λe he=>?_⟩⟩
 ·rcases mem_append.1 hl with h|h
  ·exact hb.host.row l h
  ·simp only[mem_cons,not_mem_nil,or_false] at h;subst h;omega
 ·obtain⟨j,hj,rfl⟩:=acu hn;dsimp only at hj;rw[length_append] at hj;simp only[length_cons,length_nil] at hj;rcases lt_or_ge j x.nodes.length with h|h
  ·refine .inr ⟨aZ x j,qD h,?_,?_⟩
   ·show x.nodes.getD j default=(x.nodes++[x.next]).getD j default;rw[kC h]
   ·show x.host.graph.nodes.getD j default=(x.host.graph.nodes++[k]).getD j default;rw[kC (by omega)]
  ·have e1:j=x.nodes.length:=by omega
   subst e1;refine .inl ?_;show x.next<=(x.nodes++[x.next]).getD x.nodes.length default
   rw[rT];exact Int.le_refl _
 ·obtain⟨j,hj,rfl⟩:=mem_map.1 he;have hj:j<x.ah.length:=mem_range.1 hj;have hE:=hx.host.graph.xN j (by rw[<-hx.aru];exact hj);refine .inr ?_;have e:cE ⟨⟨⟨x.host.graph.nodes++[k],x.host.graph.ah⟩,x.host.values++[v]⟩,x.nodes++[x.next],x.ah,x.next+1⟩ j=cE x j:=by unfold cE;dsimp only;rw[kC (by omega),kC (by omega)]
  rw[e];exact qE hj
theorem awc(hf:iq t)(hx:dY t x)(e:Edge):akx t x ⟨⟨⟨x.host.graph.nodes,x.host.graph.ah++[e]⟩,x.host.values⟩,x.nodes,x.ah++[x.next],x.next+1⟩:=by
 have hb:=hx.xL hf;have n1:=hx.e80;have n2:=hx.aru;refine⟨⟨⟨⟨hb.host.graph.nodes,by simp;omega⟩,hb.host.values,hb.host.row⟩,hb.nodes,by simp;omega⟩,λhy=>⟨by dsimp only;omega,λn hn=>?_,λf he=>?_⟩⟩
 ·obtain⟨k,hk,rfl⟩:=acu hn;exact .inr ⟨aZ x k,qD hk,rfl,rfl⟩
 ·obtain⟨j,hj,rfl⟩:=mem_map.1 he;have hj:=mem_range.1 hj;dsimp only at hj;rw[length_append] at hj;simp only[length_cons,length_nil] at hj;rcases lt_or_ge j x.ah.length with h|h
  ·refine .inr ?_;have e:cE ⟨⟨⟨x.host.graph.nodes,x.host.graph.ah++[e]⟩,x.host.values⟩,x.nodes,x.ah++[x.next],x.next+1⟩ j=cE x j:=by unfold cE;dsimp only;rw[kC h,kC (by omega)]
   rw[e];exact qE h
  ·have e1:j=x.ah.length:=by omega
   subst e1;refine .inl ?_;show x.next<=(x.ah++[x.next]).getD x.ah.length default
   rw[rT];exact Int.le_refl _
def OkC(l:List eB):Prop:=∀x∈l,(0<=x.x0/\x.x0<=255)/\(0<=x.x1/\x.x1<=255)/\(0<=x.x2/\x.x2<=255)
theorem awd(hr:Roomy t)(hx:dY t x){c:eB}(hc:(0<=c.x0/\c.x0<=255)/\(0<=c.x1/\c.x1<=255)/\(0<=c.x2/\c.x2<=255)):Ok (hU t x c) (akx t x):=by
 have hf:=hr.few;have hb:=hx.xL hf;have n1:=hx.n40;have n2:=hx.e80;have n3:=hx.aag;have n4:=hx.aru;have n5:=hx.host.aiq;have nx:=hx.next
 have agl:=awa hf hx;have hv:∀l∈x.host.values,l.length<=1000000:=λl hl=>le_trans (hb.host.row l hl) (by decide)
 have hrows:∀n∈bG x,n.values.length<=1000000:=λn hn=>le_trans (jN hx hb.host n hn) (by decide)
 unfold hU;refine ok_eq (yK hb) ?_;rw[gl (n:=c.x0) (by omega),gl (n:=c.x1) (by omega),gl (n:=c.x2) (by omega)];refine b9 (λ_=>?_) (λ_=>?_)
 ·refine b9 (λc1=>?_) (λ_=>.mk agl);have c1:=bX c1;have m1:=yO (b:=(x.nodes.length:Int)) hc.2.1.1 c1;refine b6 (by omega) ?_;have hi:(c.x1.tmod (x.nodes.length:Int)).toNat<x.host.values.length:=by omega
  refine nT m1.1 hi ?_;refine b9 (λc2=>?_) (λ_=>.mk agl);have c2:=bX c2;have m2:=yO (b:=((x.host.values[(c.x1.tmod (x.nodes.length:Int)).toNat]).length:Int)) hc.2.2.1 c2;refine b6 (by omega) (b6 (by omega) ?_);refine nT m2.1 (by omega) ?_;exact .mk (arJ hf hx hi _)
 refine b9 (λ_=>?_) (λ_=>?_)
 ·refine b9 (λc1=>?_) (λ_=>.mk agl);have c1:=bX c1;have m1:=yO (b:=(x.nodes.length:Int)) hc.2.1.1 c1;refine b6 (by omega) ?_;unfold fR;rw[aR (air hx hv),cond_false];have hi:(c.x1.tmod (x.nodes.length:Int)).toNat<(bG x).length:=by rw[iJ];omega
  rw[iE m1.1 hi,aR (akn ⟨bG x,cD x⟩ _ (by rw[iJ];omega) hrows)];have hs:=abL (q:=eC) (l:=bG x) (n:=(bG x)[(c.x1.tmod (x.nodes.length:Int)).toNat]);have hl:=hs.length_le;rw[iJ] at hl;rw[aR (uL _ x.next (by dsimp only;omega) (by dsimp only;rw[ia];omega) (λn hn=>jN hx hb.host n (hs.subset hn)))];exact .mk (aoN hf hx hs (Sublist.refl _))
 refine b9 (λ_=>?_) (λ_=>?_)
 ·refine b9 (λc1=>?_) (λ_=>.mk agl);have c1:=bX c1;have m1:=yO (b:=(x.ah.length:Int)) hc.2.1.1 c1;refine b6 (by omega) ?_;unfold fR;rw[aR (air hx hv),cond_true];have hi:(c.x1.tmod (x.ah.length:Int)).toNat<(cD x).length:=by rw[ia];omega
  rw[iE m1.1 hi,aR (akm ⟨bG x,cD x⟩ _ (by rw[ia];omega))];have hs:=abL (q:=rZ) (l:=cD x) (n:=(cD x)[(c.x1.tmod (x.ah.length:Int)).toNat]);have hl:=hs.length_le;rw[ia] at hl;rw[aR (uL _ x.next (by dsimp only;rw[iJ];omega) (by dsimp only;omega) (jN hx hb.host))];exact .mk (aoN hf hx (Sublist.refl _) hs)
 refine b9 (λ_=>?_) (λ_=>?_)
 ·refine qY (asA hr (d:=⟨[⟨c.x1,c.x2⟩],[]⟩) ⟨λz hz=>?_,λz hz=>by cases hz⟩) λp hp=>?_
  ·simp only[mem_cons,not_mem_nil,or_false] at hz;subst hz;exact hc.2
  refine b9 (λc1=>?_) (λ_=>.mk agl);have c1:=bX c1;have h1:=hp.ok.aiq;have hp0:0<p.graph.nodes.length:=by omega
  refine nI (by omega) (nI (by omega) ?_);refine b6 (by omega) (b6 (by omega) (b6 (by omega) ?_));rw[gl (n:=x.next+1) (by omega)];have h2:=hp.ok.node 0 hp0;have h3:=(hp.ok.graph.kind 0 hp0).1;rw[atI (l:=p.values) (by omega)] at h2;exact .mk (awb hf hx _ (aiP hr.ok h3 h2))
 refine b9 (λ_=>?_) (λ_=>.mk agl);refine b9 (λc1=>?_) (λ_=>.mk agl);refine b9 (λc2=>?_) (λ_=>.mk agl);have c1:=bX c1;have c2:=bX c2;refine b6 (by omega) (b6 (by omega) (b6 (by omega) (b6 (by omega) (b6 (by omega) ?_))));rw[gl (n:=x.next+1) (by omega)];exact .mk (awc hf hx _)
theorem afQ(hr:Roomy t)(hx:dY t x){l:List eB}(hl:l.length<=1000000)(hc:OkC l):Ok (eS t x l) (λy=>dY t y/\aaK x y):=by
 unfold eS;refine b6 (bU (by omega)) ?_;refine nZ (λ_ (s:List Int×List Edge×List (List Int)×List Int×List Int×Int)=>dY t ⟨⟨⟨s.1,s.2.1⟩,s.2.2.1⟩,s.2.2.2.1,s.2.2.2.2.1,s.2.2.2.2.2⟩/\aaK x ⟨⟨⟨s.1,s.2.1⟩,s.2.2.1⟩,s.2.2.2.1,s.2.2.2.2.1,s.2.2.2.2.2⟩) (zero_le _) ⟨hx,aaK.refl x⟩ ?_ ?_
 ·rintro i s eE _ hi ⟨h1,h2⟩ hn;refine nI hi ?_;refine qY (awd hr h1 (hc _ (pT hi))) λy hy=>?_
  refine ok_eq (kK hr.few hy.1) ?_;refine b9 (λc1=>?_) (λ_=>hn _ ⟨h1,h2⟩);have hk:=ef.1 (bX c1);exact hn _ ⟨hk,h2.trans (hy.2 hk)⟩
 ·rintro s ⟨h1,h2⟩;exact .mk ⟨h1,h2⟩
end
section
variable{t:Types}{a b:ay}{p q:aQ}
theorem aky(s:Int)(n:Nat)(hs:0<=s/\s<=1000000)(hn:n<=1000000):fO s (n:Int)=some ((range n).map λi:Nat=>s+(i:Int)):=by refine Ok.eq ?_;unfold fO;rw[toNat_natCast];refine b6 (bU (by omega)) ?_;refine nZ (λi (l:List Int)=>l=(range i).map λi:Nat=>s+(i:Int)) (zero_le _) rfl ?_ (λl h=>.mk h);rintro i l eE _ hi rfl hx;refine b6 (by simp;omega) ?_;rw[gl (by omega)];exact hx _ (by rw[range_succ,map_append];rfl)
def agG(h:Host):ay:=⟨h,(range h.graph.nodes.length).map λi:Nat=>(i:Int),(range h.graph.ah.length).map λi:Nat=>(h.graph.nodes.length:Int)+(i:Int),(h.graph.nodes.length:Int)+(h.graph.ah.length:Int)⟩
theorem akz(s:Int)(n:Nat):jE id ((range n).map λi:Nat=>s+(i:Int)):=by refine pairwise_map.2 (Pairwise.imp (λ{i j} h=>?_) pairwise_lt_range);show s+(i:Int)<s+(j:Int);omega
theorem aDA{h:Host}(hh:aaf t h):dY t (agG h):=by
 have n1:=hh.graph.nodes;have n2:=hh.graph.ah;refine⟨hh,by simp[agG],by simp[agG],⟨by simp only[agG];omega,by simp only[agG];omega⟩,⟨λn hn=>?_,?_⟩,⟨λn hn=>?_,akz _ _⟩,λe he hn=>?_⟩
 ·obtain⟨i,hi,rfl⟩:=mem_map.1 hn;have:=mem_range.1 hi;simp only[agG];omega
 ·have:=akz 0 h.graph.nodes.length;simpa[agG] using this
 ·obtain⟨i,hi,rfl⟩:=mem_map.1 hn;have:=mem_range.1 hi;simp only[agG];omega
 ·obtain⟨i,hi,rfl⟩:=mem_map.1 he;obtain⟨j,hj,e⟩:=mem_map.1 hn;have:=mem_range.1 hj;omega
theorem ae2{h:Host}(hb:vF h):ck h=some h:=by
 have hx:oQ ⟨h,[],[],0⟩:=⟨hb,by simp,by simp⟩;have:=yK hx;unfold cm at this;cases hc:ck h with
 |none=>rw[hc] at this;cases this
 |some r=>rw[show ck (⟨h,[],[],0⟩:ay).host=some r from hc,aow,cv (by simp),cv (by simp)] at this;have:=Option.some.inj this;rw[ay.mk.injEq] at this;rw[<-this.1]
def newR(t:Types)(h:Host):ay×Int:=if (jI t h).2≠0 then (mh,(jI t h).2) else (agG h,0)
theorem aAv(hf:iq t){h:Host}(hb:vF h):ir t h=some (newR t h):=by
 unfold ir newR;rw[aR (abK hf),bh];by_cases h0:(gD t).2=0;rotate_left
 ·rw[if_neg h0,aae h0,if_pos h0];rfl
 rw[if_pos h0,aR (adm hf hb),bh];by_cases h1:(jI t h).2=0;rotate_left
 ·rw[if_neg h1,if_pos h1];rfl
 rw[if_pos h1,if_neg (λh=>h h1)];have hh:=tY.1 h1;have n1:=hh.graph.nodes;have n2:=hh.graph.ah;rw[gl (n:=(((h.graph.nodes.length:Nat):Int)+((h.graph.ah.length:Nat):Int))) (by omega),gl (n:=(((h.graph.nodes.length:Nat):Int)+((h.graph.ah.length:Nat):Int))-((h.graph.nodes.length:Nat):Int)) (by omega)];rw[show ((h.graph.nodes.length:Nat):Int)+((h.graph.ah.length:Nat):Int)-((h.graph.nodes.length:Nat):Int)=((h.graph.ah.length:Nat):Int) by omega];rw[aR (ae2 hb),aR (aky 0 _ (by omega) (by omega)),aR (aky _ _ (by omega) (by omega))];have e:((range h.graph.nodes.length).map λi:Nat=>(0:Int)+(i:Int))=(range h.graph.nodes.length).map λi:Nat=>(i:Int):=map_congr_left λi _=>Int.zero_add _
 rw[e];rfl
theorem aAw{h:Host}(hh:aaf t h):newR t h=(agG h,0):=by unfold newR;rw[if_neg (λh2=>h2 (tY.2 hh))]
theorem awe(ba:oQ a)(bb:oQ b):wH (xy t a b).1:=by
 have hf:=acA (t:=t) ba bb;refine⟨hf.rn,hf.re,hf.an,hf.ae,hf.va,λn hn=>?_,λn hn=>?_⟩;all_goals
  unfold xy at hn;split at hn
  ·cases hn
  rename_i h1;split at hn
  ·cases hn
  rename_i h2;have ha:=ef.1 (Decidable.of_not_not h1);have hb:=ef.1 (Decidable.of_not_not h2);split at hn
  ·rename_i h3;unfold xx at hn;rw[if_pos h3] at hn
   first
    |exact jN ha ba.host n (acw hn)
    |exact jN hb bb.host n (acw hn)
  ·cases hn
end
theorem oA:bu=some true:=by kernel_rfl
section
variable{t:Types}{a b x:ay}{p q:aQ}
theorem ajk(h:iq t):lY t=some (gD t):=yp h
theorem amb{l:List Edge}(h:l.length<=1000000):j9 l=some l:=yp h
theorem afR{h:Host}(hb:vF h):kG h=some h:=by
 have h3:=hb.graph.nodes;have h4:=hb.graph.ah;have h5:=hb.values;unfold kG;rw[aR (tZ (by omega)),aR (amb (by omega)),cv (bU (by omega))];rw[yJ h.values (λl=>[l]) 1 (λ_ _=>by simp) λi hi s hs eE=>?_]
 ·simp
 ·have:=hb.row _ (pT hi);simp only[length_nil] at hs;rw[eo hi,aR (tZ (by omega)),cv (by omega)]
theorem akA(s:Int)(n:Nat)(hs:0<=s/\s<=1000000)(hn:n<=1000000):jT s (n:Int)=some ((range n).map λi:Nat=>s+(i:Int)):=by refine Ok.eq ?_;unfold jT;rw[toNat_natCast];refine b6 (bU (by omega)) ?_;refine nZ (λi (l:List Int)=>l=(range i).map λi:Nat=>s+(i:Int)) (zero_le _) rfl ?_ (λl h=>.mk h);rintro i l eE _ hi rfl hx;refine b6 (by simp;omega) ?_;rw[gl (by omega)];exact hx _ (by rw[range_succ,map_append];rfl)
theorem aFF(hf:iq t){h:Host}(hb:vF h):nP t h=some (newR t h):=by
 unfold nP newR;rw[aR (ajk hf),bh];by_cases h0:(gD t).2=0;rotate_left
 ·rw[if_neg h0,aae h0,if_pos h0];rfl
 rw[if_pos h0,aR (aeU hf hb),bh];by_cases h1:(jI t h).2=0;rotate_left
 ·rw[if_neg h1,if_pos h1];rfl
 rw[if_pos h1,if_neg (λh=>h h1)];have hh:=tY.1 h1;have n1:=hh.graph.nodes;have n2:=hh.graph.ah;rw[aR (afR hb),aR (akA 0 _ (by omega) (by omega)),aR (akA _ _ (by omega) (by omega))];rw[gl (n:=(((h.graph.nodes.length:Nat):Int)+((h.graph.ah.length:Nat):Int))) (by omega)];have e:((range h.graph.nodes.length).map λi:Nat=>(0:Int)+(i:Int))=(range h.graph.nodes.length).map λi:Nat=>(i:Int):=map_congr_left λi _=>Int.zero_add _
 rw[e];rfl
theorem aAx{h:Host}(hb:vF h):oQ (newR t h).1:=by
 have h1:=hb.graph.nodes;have h2:=hb.graph.ah;unfold newR;split
 ·exact avX
 ·exact⟨hb,by simp[agG];omega,by simp[agG];omega⟩
theorem agR(ht:arx t)(hx:aoC x):Ok (cU t x) (λb=>b=true->iq t/\oQ x):=by
 unfold cU;refine qY (aDt ht) λb hb=>?_
 refine b9 (λh1=>?_) (λ_=>.mk λh=>by cases h);refine qY (aDw hx) λc hc=>?_
 exact .mk λh=>⟨hb h1,hc h⟩
theorem aiR(t:Types)(x:ay)(ht:arx t)(hx:aoC x):fD t x=some true:=by
 unfold fD;rw[aR oA,cond_true];obtain⟨b,hb,hf⟩:=agR ht hx;rw[aR (show cU t x=_ from hb)];cases b with
 |false=>rw[cond_false,aR oA]
 |true =>
 obtain⟨ft,bx⟩:=hf rfl;rw[cond_true,aR (ae2 bx.host),aR (aFF ft bx.host),aR (aAv ft bx.host),ew rfl,cond_true,aR (al3 (aAx bx.host)),cond_true];rw[aR (yK bx),aR (show er t x=_ from lE ft bx),aR (show bO t x=_ from kK ft bx),ew rfl]
theorem ajl(t:Types)(a b:ay)(ht:arx t)(ha:aoC a)(hb:aoC b):fK t a b=some true:=by
 unfold fK;rw[aR oA,cond_true];obtain⟨c,hc,hf⟩:=agR ht ha;rw[aR (show cU t a=_ from hc)];cases c with
 |false=>rw[cond_false,aR oA]
 |true =>
 obtain⟨ft,ba⟩:=hf rfl;rw[cond_true];obtain⟨d,hd,hg⟩:=agR ht hb;rw[aR (show cU t b=_ from hd)];cases d with
 |false=>rw[cond_false,aR oA]
 |true =>
 obtain⟨_,bb⟩:=hg rfl;rw[cond_true,aR (yK ba),aR (yK bb),aR (show dW t a b=_ from mR ft ba bb),aR (show eX t a b=_ from ast ft ba bb),ew rfl,cond_true,aR (qC (acA ba bb))]
def lU(t:Types)(a:ay)(p q:aQ):aQ×Int :=
 if (kB t a p).2≠0 then (wj,(kB t a p).2) else
 if (kB t (kB t a p).1 q).2≠0 then (wj,(kB t (kB t a p).1 q).2) else xy t a (kB t (kB t a p).1 q).1
theorem ae3(h:dY t a):xw t a p=kB t a p:=by unfold kB;rw[if_neg (λh2=>h2 (ef.2 h))]
theorem aoO(ha:dY t a)(hb:dY t b):xy t a b=if gh a b=true then (kW a b,0) else (wj,11):=by
 unfold xy xx;rw[if_neg (λh=>h (ef.2 ha)),if_neg (λh=>h (ef.2 hb))];by_cases h:gh a b=true
 ·rw[if_pos h,if_pos h,if_pos h];rfl
 ·rw[if_neg h,if_neg h]
theorem afS(ht:iq t)(hb:oQ a)(hp:wH p)(hq:wH q):fH t a p q=some (lU t a p q):=by
 unfold fH lU;rw[aR (show cV t a p=_ from aai ht hb hp),bh];by_cases h1:(kB t a p).2=0;rotate_left
 ·rw[if_neg h1,if_pos h1];rfl
 rw[if_pos h1,if_neg (λh=>h h1)];have hA:=qB.1 h1;rw[iw hA];have hx:=hA.aoB hb.host hp;rw[aR (show iN t (jD a p) q=_ from aoA ht hA.ok hx.host hq),ae3 hA.ok,bh];by_cases h2:(kB t (jD a p) q).2=0;rotate_left
 ·rw[if_neg h2,if_pos h2];rfl
 rw[if_pos h2,if_neg (λh=>h h2)];have hB:=qB.1 h2;rw[iw hB];have hy:=hB.aoB hx.host hq;rw[aR (show iO a (jD (jD a p) q)=_ from aoE hA.tk hB.ok hb hy),aoO hA.tk hB.ok];unfold xx;split
 ·rfl
 ·rfl
theorem arK(ht:iq t)(hb:oQ a)(hp:wH p)(hq:wH q):fQ t a p q=some (lU t a p q):=by
 unfold fQ lU;rw[aR (show gy t a p=_ from aAf ht hb hp),bh];by_cases h1:(kB t a p).2=0;rotate_left
 ·rw[if_neg h1,if_pos h1];rfl
 rw[if_pos h1,if_neg (λh=>h h1)];have hA:=qB.1 h1;rw[iw hA];have hx:=hA.aoB hb.host hp;rw[aR (show dU t (jD a p) q=_ from akp ht hA.ok hx.host hq),ae3 hA.ok,bh];by_cases h2:(kB t (jD a p) q).2=0;rotate_left
 ·rw[if_neg h2,if_pos h2];rfl
 rw[if_pos h2,if_neg (λh=>h h2)];have hB:=qB.1 h2;rw[iw hB];have hy:=hB.aoB hx.host hq;rw[aR (show eX t a (jD (jD a p) q)=_ from ast ht hb hy)]
theorem agm(hb:oQ a)(hp:wH p)(hq:wH q):ary (lU t a p q).1:=by
 unfold lU;split
 ·exact yN
 rename_i h1;have hA:=qB.1 (Decidable.of_not_not h1);split
 ·exact yN
 rename_i h2;rw[iw hA] at h2;have hB:=qB.1 (Decidable.of_not_not h2);rw[iw hA];show ary (xy t a (kB t (jD a p) q).1).1;rw[iw hB];exact acA hb (hB.aoB (hA.aoB hb.host hp).host hq)
theorem arL(h:(lU t a p q).2=0):gb t a p/\gb t (jD a p) q/\gh a (jD (jD a p) q)=true/\lU t a p q=(kW a (jD (jD a p) q),0):=by
 unfold lU at h ⊢;split at h
 ·rename_i h1;exact absurd h h1
 rename_i h1;rw[if_neg h1];have hA:=qB.1 (Decidable.of_not_not h1);rw[iw hA] at h ⊢;dsimp only at h ⊢;split at h
 ·rename_i h2;exact absurd h h2
 rename_i h2;rw[if_neg h2];have hB:=qB.1 (Decidable.of_not_not h2);rw[iw hB] at h ⊢;dsimp only at h ⊢;rw[aoO hA.tk hB.ok] at h ⊢;split at h
 ·rename_i h3;rw[if_pos h3];exact⟨hA,hB,h3,rfl⟩
 ·cases h
theorem aiS(hA:gb t a p)(hB:gb t (jD a p) q)(hg:gh a (jD (jD a p) q)=true):lU t a p q=(kW a (jD (jD a p) q),0):=by unfold lU;rw[iw hA,if_neg (λh=>h rfl)];show (if (kB t (jD a p) q).2≠0 then _ else _)=_;rw[iw hB,if_neg (λh=>h rfl)];exact diff_eq hA.tk hB.ok hg
theorem yP(ht:iq t)(ha:dY t a)(hb:dY t b)(hg:gh a b=true):wH (kW a b):=by have:=awe (t:=t) (ha.xL ht) (hb.xL ht);rw[diff_eq ha hb hg] at this;exact this
theorem aoP(ht:iq t)(ha:dY t a)(hb:dY t b)(hg:gh a b=true):ary (kW a b):=by have:=acA (t:=t) (ha.xL ht) (hb.xL ht);rw[diff_eq ha hb hg] at this;exact this
structure FitC(t:Types)(a:ay):Prop where
 t:arx t
 a:aoC a
theorem afT(t:Types)(a:ay)(x:eF)(ht:arx t)(ha:aoC a):eY t a x=some true:=by
 unfold eY;rw[aR oA,cond_true];obtain⟨c,hc,hf⟩:=agR ht ha;rw[aR (show cU t a=_ from hc)];cases c with
 |false=>rw[cond_false,aR oA]
 |true =>
 obtain⟨ft,ba⟩:=hf rfl;rw[cond_true];obtain⟨d,hd,hg⟩:=aAg x.p;rw[aR (show dL x.p=_ from hd)];cases d with
 |false=>rw[cond_false,aR oA]
 |true =>
 have bp:=hg rfl;rw[cond_true];obtain⟨d,hd,hg⟩:=aAg x.q;rw[aR (show dL x.q=_ from hd)];cases d with
 |false=>rw[cond_false,aR oA]
 |true =>
 have bq:=hg rfl;rw[cond_true,aR (yK ba),aR (ado bp),aR (ado bq),aR (show fH t a x.p x.q=_ from afS ft ba bp bq),aR (show fQ t a x.p x.q=_ from arK ft ba bp bq)];rw[ew rfl,cond_true,aR (qC (agm ba bp bq)),cond_true,bh];by_cases h0:(lU t a x.p x.q).2=0;rotate_left
 ·rw[if_neg h0,aR (qC (agm ba bp bq))]
 rw[if_pos h0];obtain⟨hA,hB,hag,he⟩:=arL h0;have hx:=hA.aoB ba.host bp;have hy:=hB.aoB hx.host bq;have hD:=pn ft hA.tk hB.ok hag;rw[he,aR (show cV t a x.p=_ from aai ft ba bp),iw hA,aR (show cV t (jD a x.p) x.q=_ from aai ft hx bq),iw hB];rw[aR (show cV t a (kW a (jD (jD a x.p) x.q))=_ from aai ft ba (yP ft hA.tk hB.ok hag)),iw hD,oT hA.tk hB.ok hag];rw[ew rfl,cond_true,cond_true,cond_true,aR (al3 hy)]
theorem agn{l:List aj}(h:l.length<=1000000)(hv:Rows l):jh l=some l:=by
 unfold jh;rw[cv (bU (by omega))];rw[yJ l (λn=>[n]) 1 (λn _=>by simp) λi hi s hs eE=>?_]
 ·simp
 ·have:=hv _ (pT hi);simp only[length_nil] at hs;rw[eo hi,aR (tZ (by omega)),cv (by omega)]
theorem xC{l:List ax}(h:l.length<=1000000):iC l=some l:=by
 unfold iC
 first
  |exact yp h
  |rw[cv (by omega)]
theorem akB(ht:iq t)(hb:oQ a)(hp:wH p)(hA:gb t a p):ij t a p=some (aFC p,0):=by
 have h3:=hp.va;unfold ij;rw[aR (show cV t a p=_ from aai ht hb hp),iw hA,bh,if_pos rfl];rw[aR (agn hp.an hp.av),aR (xC hp.ae),aR (agn hp.rn hp.rv),aR (xC hp.re),cv (bU (by omega))];rw[yJ p.values (λv=>[asy v]) 1 (λn _=>by simp) λi hi s hs eE=>?_]
 ·rw[agh];rfl
 ·simp only[length_nil] at hs;rw[eo hi,cv (by omega)];rfl
structure acB(d:bC):Prop where
 types:OkU d.types
 ends:OkU d.ends
 host:ama d.host
theorem aoQ{d:bC}(hd:acB d):Ok (gU d) (λR=>Roomy R.1/\dY R.1 R.2):=by
 unfold gU;refine qY (aCk hd.types hd.ends) λt ht=>?_
 have hr:=ht.roomy;refine qY (asA hr hd.host) λh hh=>?_
 refine ok_eq (aAv hr.few (hh.ok.xL hr.few)) ?_;rw[aAw hh.ok];exact .mk ⟨hr,aDA hh.ok⟩
theorem aiT{d:bC}{l:List eB}(hd:acB d)(hl:OkC l):fG d l=some true:=by
 unfold fG;rw[aR oA,cond_true];refine Ok.eq ?_;refine b9 (λ_=>?_) (λc1=>?_)
 ·rw[aR oA];exact .mk rfl
 have c1:=eu c1;refine qY (aoQ hd) λR hR=>?_
 obtain⟨t,a⟩:=R;obtain⟨hr,ha⟩:=hR;dsimp only at hr ha;refine qY (afQ hr ha (by omega) hl) λb hb=>?_
 obtain⟨hb,hL⟩:=hb;have ht:=hr.few;have hg:=xB ha hb hL;have hg':=aiO ha hb hg;have bp:=yP ht ha hb hg;have bq:=yP ht hb ha hg';have hA:=pn ht ha hb hg;have hB:=pn ht hb ha hg';have hd1:=diff_eq ha hb hg;have hd2:=diff_eq hb ha hg';refine Ok.of ?_;rw[aR (show dW t a b=_ from mR ht (ha.xL ht) (hb.xL ht)),hd1];rw[aR (show cV t a (kW a b)=_ from aai ht (ha.xL ht) bp),iw hA,oT ha hb hg];rw[aR (show ij t a (kW a b)=_ from akB ht (ha.xL ht) bp hA),aoL ha hb hg];rw[aR (show dW t b a=_ from mR ht (hb.xL ht) (ha.xL ht)),hd2];rw[aR (show cV t b (kW b a)=_ from aai ht (hb.xL ht) bq),iw hB,oT hb ha hg'];rw[ew rfl,cond_true,cond_true,cond_true,cond_true,cond_true,aR (al3 (hb.xL ht)),cond_true,aR (qC (aoP ht hb ha hg')),cond_true,aR (al3 (ha.xL ht))]
theorem ae4{d:bC}{l m:List eB}(hd:acB d)(hl:OkC l)(hm:OkC m):eR d l m=some true:=by
 unfold eR;rw[aR oA,cond_true];refine Ok.eq ?_;refine b9 (λ_=>?_) (λc1=>b9 (λ_=>?_) (λc2=>?_))
 ·rw[aR oA];exact .mk rfl
 ·rw[aR oA];exact .mk rfl
 have c1:=eu c1;have c2:=eu c2;refine qY (aoQ hd) λR hR=>?_
 obtain⟨t,a⟩:=R;obtain⟨hr,ha⟩:=hR;dsimp only at hr ha;refine qY (afQ hr ha (by omega) hl) λb hb=>?_
 obtain⟨hb,hL⟩:=hb;refine qY (afQ hr hb (by omega) hm) λc hc=>?_
 obtain⟨hc,hM⟩:=hc;have ht:=hr.few;have g1:=xB ha hb hL;have g2:=xB hb hc hM;have g3:=xB ha hc (hL.trans hM);have g4:=aiO ha hb g1;have b1:=yP ht ha hb g1;have b2:=yP ht hb hc g2;have b4:=yP ht hb ha g4;have hA:=pn ht ha hb g1;have hB:=pn ht hb hc g2;have hD:=pn ht hb ha g4;have k1:lU t a (kW a b) (kW b c)=(kW a c,0):=by have e1:=oT ha hb g1;have e2:=oT hb hc g2;have:=aiS hA (by rw[e1];exact hB) (by rw[e1,e2];exact g3);rw[e1,e2] at this;exact this
 have k2:lU t a (kW a b) (kW b a)=(noP a.next,0):=by have e1:=oT ha hb g1;have e2:=oT hb ha g4;have:=aiS hA (by rw[e1];exact hD) (by rw[e1,e2];exact arE ha);rw[e1,e2,av0 ha] at this;exact this
 refine Ok.of ?_;rw[aR (show dW t a b=_ from mR ht (ha.xL ht) (hb.xL ht)),diff_eq ha hb g1];rw[aR (show dW t b c=_ from mR ht (hb.xL ht) (hc.xL ht)),diff_eq hb hc g2];rw[aR (show dW t a c=_ from mR ht (ha.xL ht) (hc.xL ht)),diff_eq ha hc g3];rw[aR (show fH t a (kW a b) (kW b c)=_ from afS ht (ha.xL ht) b1 b2),k1];rw[aR (show ij t a (kW a b)=_ from akB ht (ha.xL ht) b1 hA),aoL ha hb g1];rw[aR (show fH t a (kW a b) (kW b a)=_ from afS ht (ha.xL ht) b1 b4),k2];rw[ew rfl,cond_true,cond_true,cond_true,cond_true,cond_true,cond_true,aR (qC (aoP ht ha hc g3)),cond_true];rw[aR (show bR (noP a.next) ⟨[],[],[],[],[],⟨a.next,a.next⟩⟩=_ from qC (aCi _))]
end
theorem aiU:reachBytes<=1125899906842624:=by decide
theorem aiV{t:Types}(h:G25 t):arx t:=⟨λn hn=>le_trans (h.1.1 n hn).2.2.2.1.2 aiU⟩
theorem ae5{x:ay}(h:G34 x):aoC x:=⟨le_trans h.2.1.2 aiU,le_trans h.2.2.1.2 aiU⟩
theorem aAy{n:Int}(h:G5 n):0<=n/\n<=255:=h
theorem okU{l:List dJ}(h:G61 l):OkU l:=λx hx=>⟨aAy (h.1 x hx).1,aAy (h.1 x hx).2.1⟩
theorem okC{l:List eB}(h:G62 l):OkC l:=λx hx=>⟨aAy (h.1 x hx).1,aAy (h.1 x hx).2.1,aAy (h.1 x hx).2.2.1⟩
theorem aCm{d:dP}(h:G64 d):ama d:=⟨okU h.1,okC h.2.1⟩
theorem akC{d:bC}(h:G66 d):acB d:=⟨okU h.1,okU h.2.1,aCm h.2.2.1⟩
end Go.Proofs.YteambpeibacfpaaGreat
