/- Joined texts, part 8: lemmas for the statement. No condition. -/
import Derived.Test.YtldllhbhnpjlcaaGreatJ7
import Derived.Test.YtldllhbhnpjlcaaGreatJ5
set_option maxHeartbeats 4000000
set_option linter.unusedSimpArgs false
set_option linter.unusedVariables false
open Nat (reduceEqDiff reduceLT reduceLeDiff reduceMul reduceAdd reduceSub)
open Go.IntKind (i64)
namespace Go.bP.qj
def g(x:List Int)(p:Int):Int:=x.getD p.toNat 0
def m(D:List Int)(x:List Int):Int:=D.foldl (λn q=>max n (g x q)) 0
def cD(U:List (Int×Int))(x:List Int):List Int:=U.foldl (λx u=>x.set u.1.toNat (max (g x u.1) u.2)) x
abbrev Eff:=List Int×List Int
def ups(E:List Eff)(x:List Int):List (Int×Int):=E.flatMap λe=>e.2.map λp=>(p,m e.1 x+1)
def FF(E:List Eff)(x:List Int):List Int:=cD (ups E x) x
def jac(E:List Eff):Nat->List Int->Option (List Int)
 |0,_=>none
 |k+1,x=>if x=FF E x then some x else jac E k (FF E x)
theorem api(D x:List Int):∀n:Int,n<=D.foldl (λn q=>max n (g x q)) n/\(∀q∈D,g x q<=D.foldl (λn q=>max n (g x q)) n)/\(D.foldl (λn q=>max n (g x q)) n=n\/∃q∈D,D.foldl (λn q=>max n (g x q)) n=g x q):=by
 induction D with
 |nil=>intro n;simp
 |cons a D ih =>
  intro n;simp only[List.foldl_cons];obtain⟨h1,h2,h3⟩:=ih (max n (g x a));refine⟨by omega,λq hq=>?_,?_⟩
  ·rcases List.mem_cons.1 hq with rfl|hq
   ·omega
   ·exact h2 q hq
  ·rcases h3 with h3|⟨q,hq,h3⟩
   ·rcases Int.le_total n (g x a) with h4|h4
    ·exact .inr ⟨a,List.mem_cons_self,by rw[h3];omega⟩
    ·exact .inl (by rw[h3];omega)
   ·exact .inr ⟨q,List.mem_cons_of_mem _ hq,h3⟩
theorem aCA(D x:List Int):0<=m D x:=(api D x 0).1
theorem azf{D x:List Int}{q:Int}(h:q∈D):g x q<=m D x:=(api D x 0).2.1 q h
theorem aAP(D x:List Int):m D x=0\/∃q∈D,m D x=g x q:=(api D x 0).2.2
theorem aAQ{D x:List Int}{b:Int}(h0:0<=b)(h:∀q∈D,g x q<=b):m D x<=b:=by
 rcases aAP D x with h1|⟨q,hq,h1⟩
 ·omega
 ·rw[h1];exact h q hq
def In(n:Nat)(p:Int):Prop:=0<=p/\p<n
theorem aw6{x:List Int}{n:Nat}(hx:x.length=n){p q:Int}(hp:In n p)(hq:In n q)(v:Int):g (x.set p.toNat v) q=if q=p then v else g x q:=by
 unfold g;obtain⟨h1,h2⟩:=hp;obtain⟨h3,h4⟩:=hq;simp only[List.getD_eq_getElem?_getD,List.getElem?_set];by_cases h:q=p
 ·subst h;simp only[if_true];rw[if_pos (by omega)];rfl
 ·rw[if_neg (by omega),if_neg h]
theorem azg(U:List (Int×Int))(x:List Int):(cD U x).length=x.length:=by
 unfold cD
 induction U generalizing x with
 |nil=>rfl
 |cons u U ih=>rw[List.foldl_cons,ih,List.length_set]
theorem ajO{n:Nat}(U:List (Int×Int)):∀ (x:List Int),x.length=n->(∀u∈U,In n u.1)->∀p,In n p ->
  g x p<=g (cD U x) p/\(∀v,(p,v)∈U->v<=g (cD U x) p)/\(g (cD U x) p=g x p\/∃v,(p,v)∈U/\g (cD U x) p=v):=by
 induction U with
 |nil=>intro x _ _ p _;simp[cD]
 |cons u U ih =>
  intro x hx hU p hp;have hu:=hU u List.mem_cons_self;obtain⟨h1,h2,h3⟩:=ih (x.set u.1.toNat (max (g x u.1) u.2)) (by simpa using hx) (λw hw=>hU w (List.mem_cons_of_mem _ hw)) p hp;have e:cD (u :: U) x=cD U (x.set u.1.toNat (max (g x u.1) u.2)):=rfl;rw[e];rw[aw6 hx hu hp] at h1 h3;by_cases hpu:p=u.1
  ·subst hpu;simp only[if_true] at h1 h3;refine⟨by omega,λv hv=>?_,?_⟩
   ·rcases List.mem_cons.1 hv with h4|h4
    ·have:v=u.2:=by rw[<-h4]
     omega
    ·exact h2 v h4
   ·rcases h3 with h3|⟨v,h4,h3⟩
    ·rcases Int.le_total (g x u.1) u.2 with h5|h5
     ·exact .inr ⟨u.2,by simp,by omega⟩
     ·exact .inl (by omega)
    ·exact .inr ⟨v,List.mem_cons_of_mem _ h4,h3⟩
  ·rw[if_neg hpu] at h1 h3;refine⟨h1,λv hv=>?_,?_⟩
   ·rcases List.mem_cons.1 hv with h4|h4
    ·exact absurd (by rw[<-h4]) hpu
    ·exact h2 v h4
   ·rcases h3 with h3|⟨v,h4,h3⟩
    ·exact .inl h3
    ·exact .inr ⟨v,List.mem_cons_of_mem _ h4,h3⟩
def Ok(E:List Eff)(n:Nat):Prop:=∀e∈E,(∀q∈e.1,In n q)/\(∀p∈e.2,In n p)
theorem ajP{E:List Eff}{x:List Int}{p v:Int} : (p,v)∈ups E x↔∃e∈E,p∈e.2/\v=m e.1 x+1:=by
 unfold ups;simp only[List.mem_flatMap,List.mem_map,gD];constructor
 ·rintro⟨e,he,a,ha,rfl,rfl⟩;exact⟨e,he,ha,rfl⟩
 ·rintro⟨e,he,hp,rfl⟩;exact⟨e,he,p,hp,rfl,rfl⟩
theorem apj{E:List Eff}{n:Nat}(hE:Ok E n){x:List Int} : ∀u∈ups E x,In n u.1:=by rintro⟨p,v⟩ hu;obtain⟨e,he,hp,_⟩:=ajP.1 hu;exact (hE e he).2 p hp
theorem agn(E:List Eff)(x:List Int):(FF E x).length=x.length:=azg _ _
section
variable{E:List Eff}{n:Nat}(hE:Ok E n){x:List Int}(hx:x.length=n)
include hE hx
theorem ap1{p:Int}(hp:In n p):g x p<=g (FF E x) p:=(ajO _ x hx (apj hE) p hp).1
theorem azM{e:Eff}(he:e∈E){p:Int}(hp:p∈e.2):m e.1 x+1<=g (FF E x) p:=(ajO _ x hx (apj hE) p ((hE e he).2 p hp)).2.1 _ (ajP.2 ⟨e,he,hp,rfl⟩)
theorem azN{p:Int}(hp:In n p):g (FF E x) p=g x p\/∃e∈E,p∈e.2/\g (FF E x) p=m e.1 x+1:=by
 rcases (ajO _ x hx (apj hE) p hp).2.2 with h|⟨v,h,h'⟩
 ·exact .inl h
 ·obtain⟨e,he,hp,rfl⟩:=ajP.1 h;exact .inr ⟨e,he,hp,h'⟩
end
theorem azO{n:Nat}{x y:List Int}(hx:x.length=n)(hy:y.length=n)(h:∀p,In n p->g x p=g y p):x=y:=by
 refine List.ext_getElem (by omega) λi h1 h2=>?_
 have:=h i ⟨by omega,by omega⟩;unfold g at this;simpa[h1,h2] using this
def Sol(E:List Eff)(n:Nat)(f:Int->Int):Prop:=(∀p,In n p->0<=f p)/\∀e∈E,∀q∈e.1,∀p∈e.2,f q<f p
def Full(E:List Eff):Prop:=∀e∈E,e.1≠[]
section
variable{E:List Eff}{n:Nat}(hE:Ok E n)(hF:Full E)
include hE hF
theorem azP{f:Int->Int}(hf:Sol E n f){e:Eff}(he:e∈E){x:List Int}(hx:∀p,In n p->g x p<=f p){p:Int}(hp:p∈e.2):m e.1 x+1<=f p:=by
 rcases aAP e.1 x with h|⟨q,hq,h⟩
 ·obtain⟨q,hq⟩:=List.exists_mem_of_ne_nil _ (hF e he);have h1:=hf.2 e he q hq p hp;have h2:=hf.1 q ((hE e he).1 q hq);omega
 ·have h1:=hf.2 e he q hq p hp;have h2:=hx q ((hE e he).1 q hq);omega
theorem aw7{f:Int->Int}(hf:Sol E n f){x:List Int}(hx:x.length=n)(h:∀p,In n p->g x p<=f p):∀p,In n p->g (FF E x) p<=f p:=by
 intro p hp;rcases azN hE hx hp with h1|⟨e,he,h2,h1⟩
 ·rw[h1];exact h p hp
 ·rw[h1];exact azP hE hF hf he h h2
omit hF in
theorem ap2{x:List Int}(hx:x.length=n)(h0:∀p,In n p->0<=g x p)(h:x=FF E x):Sol E n (g x):=by refine⟨h0,λe he q hq p hp=>?_⟩;have h1:=azM hE hx he hp;rw[<-h] at h1;have:=azf (x:=x) hq;omega
omit hF in
theorem aid{f:Int->Int}(hf:Sol E n f):∃f',Sol E n f'/\∀p,In n p->f' p<n:=by
 refine⟨λp=>(((List.range n).countP λi:Nat=>decide (f (i:Int)<f p)):Int),⟨λp _=>Int.natCast_nonneg _,λe he q hq p hp=>?_⟩,λp hp=>?_⟩
 ·simp only;have hlt:=hf.2 e he q hq p hp;have hqn:=(hE e he).1 q hq;have key:∀l:List Nat,(l.countP λi:Nat=>decide (f (i:Int)<f q))<=(l.countP λi:Nat=>decide (f (i:Int)<f p))/\(q.toNat∈l->(l.countP λi:Nat=>decide (f (i:Int)<f q))<(l.countP λi:Nat=>decide (f (i:Int)<f p))):=by
   intro l
   induction l with
   |nil=>exact⟨Nat.le_refl _,λh=>by cases h⟩
   |cons a l ih =>
    obtain⟨h1,h2⟩:=ih;simp only[List.countP_cons];by_cases c1:f (a:Int)<f q
    ·have c2:f (a:Int)<f p:=by omega
     simp only[c1,c2,decide_true,if_true];refine⟨by omega,λh=>?_⟩;rcases List.mem_cons.1 h with h|h
     ·exfalso;rw[<-h,Int.toNat_of_nonneg hqn.1] at c1;omega
     ·have:=h2 h;omega
    ·by_cases c2:f (a:Int)<f p
     ·simp only[c1,c2,decide_true,decide_false,if_true];exact⟨by simp;omega,λ_=>by simp;omega⟩
     ·simp only[c1,c2,decide_false];refine⟨by simpa using h1,λh=>?_⟩;rcases List.mem_cons.1 h with h|h
      ·exfalso;rw[<-h,Int.toNat_of_nonneg hqn.1] at c2;omega
      ·simpa using h2 h
  have:=(key (List.range n)).2 (List.mem_range.2 (by have:=hqn.1;have:=hqn.2;omega));omega
 ·simp only;have key:∀l:List Nat,p.toNat∈l->(l.countP λi:Nat=>decide (f (i:Int)<f p))<l.length:=by
   intro l
   induction l with
   |nil=>intro h;cases h
   |cons a l ih =>
    intro h;simp only[List.countP_cons,List.length_cons];rcases List.mem_cons.1 h with h|h
    ·rw[<-h,Int.toNat_of_nonneg hp.1];have:¬ f p<f p:=by omega
     simp only[this,decide_false];have:=List.countP_le_length (p:=λi:Nat=>decide (f (i:Int)<f p)) (l:=l);simp;omega
    ·have:=ih h;split<;>omega
  have:=key (List.range n) (List.mem_range.2 (by have:=hp.1;have:=hp.2;omega));simp only[List.length_range] at this;omega
omit hE hF in
theorem ap3:∀p,In n p->0<=g (List.replicate n 0) p:=by intro p hp;unfold g;rw[List.getD_eq_getElem?_getD,List.getElem?_replicate];split<;>simp
theorem azh{f:Int->Int}(hf:Sol E n f)(hfn:∀p,In n p->f p<n):∀ (k j:Nat) (x:List Int),x.length=n->(∀p,In n p->0<=g x p/\g x p<=f p)->(∀p,In n p->g x p≠g (FF E x) p->(j:Int)+1<=g (FF E x) p)->n<=j+k ->
  ∃y,jac E (k+1) x=some y:=by
 intro k
 induction k with
 |zero =>
  intro j x hx hb hch hj;refine⟨x,?_⟩;have:x=FF E x:=by
   refine azO hx (by rw[agn,hx]) λp hp=>?_
   by_cases h:g x p=g (FF E x) p
   ·exact h
   ·have h1:=hch p hp h;have h2:=aw7 hE hF hf hx (λp hp=>(hb p hp).2) p hp;have h3:=hfn p hp;omega
  rw[jac,if_pos this]
 |succ k ih =>
  intro j x hx hb hch hj;by_cases h:x=FF E x
  ·exact⟨x,by rw[jac,if_pos h]⟩
  rw[jac,if_neg h];refine ih (j+1) (FF E x) (by rw[agn,hx]) (λp hp=>⟨?_,aw7 hE hF hf hx (λp hp=>(hb p hp).2) p hp⟩) ?_ (by omega)
  ·have:=ap1 hE hx hp;have:=(hb p hp).1;omega
  intro p hp hne;rcases azN hE (x:=FF E x) (by rw[agn,hx]) hp with h1|⟨e,he,h2,h1⟩
  ·exact absurd h1.symm hne
  have h3:=azM hE hx he h2;have h4:=ap1 hE (x:=FF E x) (by rw[agn,hx]) hp;have h5:=aCA e.1 x;rcases aAP e.1 (FF E x) with h6|⟨q,hq,h6⟩
  ·omega
  ·have h7:=azf (x:=x) hq;have h8:=hch q ((hE e he).1 q hq) (by omega);omega
theorem aw8{f:Int->Int}(hf:Sol E n f):∃y,jac E (n+2) (List.replicate n 0)=some y:=by
 obtain⟨f',h1,h2⟩:=aid hE hf;have hz:∀p,In n p->g (List.replicate n 0) p=0:=by intro p hp;unfold g;rw[List.getD_eq_getElem?_getD,List.getElem?_replicate];split<;>rfl
 refine azh hE hF h1 h2 (n+1) 0 _ (by simp) (λp hp=>⟨by rw[hz p hp];omega,by rw[hz p hp];exact h1.1 p hp⟩) (λp hp hne=>?_) (by omega);have:=ap1 hE (x:=List.replicate n 0) (by simp) hp;rw[hz p hp] at hne this;omega
theorem aie:∀ (k:Nat) (x y:List Int),x.length=n->(∀p,In n p->0<=g x p)->jac E k x=some y->y.length=n/\(∀p,In n p->0<=g y p)/\y=FF E y/\∀f,Sol E n f->(∀p,In n p->g x p<=f p)->∀p,In n p->g y p<=f p:=by
 intro k
 induction k with
 |zero=>intro x y _ _ h;cases h
 |succ k ih =>
  intro x y hx h0 h;rw[jac] at h;split at h
  ·cases h;rename_i h1;exact⟨hx,h0,h1,λf _ h2=>h2⟩
  ·obtain⟨q1,q2,q3,q4⟩:=ih (FF E x) y (by rw[agn,hx]) (λp hp=>by have:=ap1 hE hx hp;have:=h0 p hp;omega) h;exact⟨q1,q2,q3,λf hf h2=>q4 f hf (aw7 hE hF hf hx h2)⟩
theorem aAR{y:List Int}(hy:y.length=n)(hs:Sol E n (g y))(hl:∀f,Sol E n f->∀p,In n p->g y p<=f p):jac E (n+2) (List.replicate n 0)=some y:=by
 obtain⟨z,hz⟩:=aw8 hE hF hs;obtain⟨q1,q2,q3,q4⟩:=aie hE hF _ _ _ (by simp) (ap3) hz;have h1:=ap2 hE q1 q2 q3;rw[hz];congr 1;refine azO q1 hy λp hp=>?_
 have a:=hl _ h1 p hp;have b:=q4 _ hs (λp hp=>by
  have:g (List.replicate n 0) p=0:=by unfold g;rw[List.getD_eq_getElem?_getD,List.getElem?_replicate];split<;>rfl
  rw[this];exact hs.1 p hp) p hp
 omega
theorem aw9(h:∀f,¬ Sol E n f):jac E (n+2) (List.replicate n 0)=none:=by
 cases hz:jac E (n+2) (List.replicate n 0) with
 |none=>rfl
 |some z=>obtain⟨q1,q2,q3,_⟩:=aie hE hF _ _ _ (by simp) (ap3) hz;exact absurd (ap2 hE q1 q2 q3) (h _)
end
end Go.bP.qj
namespace Go.Proofs.YtldllhbhnpjlcaaGreat
open Go.bP
theorem aCB{x:List Int}{i:Nat}(h:i<x.length):qj.g x (i:Int)=x[i]:=by unfold qj.g;simp[h]
theorem aAS{D:List Int}{n:Nat}(hD:∀q∈D,qj.In n q){x y:List Int}(h:∀p,qj.In n p->qj.g x p<=qj.g y p):qj.m D x<=qj.m D y:=qj.aAQ (qj.aCA _ _) λq hq=>by have:=h q (hD q hq);have:=qj.azf (x:=y) hq;omega
def EE(es:List eW):List qj.Eff:=es.map λe=>(e.pQ,e.ack)
structure EOk(es:List eW)(n:Nat):Prop where
 few:es.length<=6
 n32:n<=32
 each:∀e∈es,(∀q∈e.pQ,qj.In n q)/\(∀p∈e.ack,qj.In n p)/\e.pQ.length<=32/\e.ack.length<=32
theorem EOk.ok{es:List eW}{n:Nat}(h:EOk es n):qj.Ok (EE es) n:=by intro e he;obtain⟨a,ha,rfl⟩:=List.mem_map.1 he;have:=h.each a ha;exact⟨this.1,this.2.1⟩
def ap4(es:List eW):Bool:=es.any λe=>decide (((e.pQ.length:Nat):Int)=0)
theorem ajQ{es:List eW}(h:ap4 es=false):qj.Full (EE es):=by intro e he;obtain⟨a,ha,rfl⟩:=List.mem_map.1 he;intro h0;have h0:a.pQ=[]:=h0;have:ap4 es=true:=List.any_eq_true.2 ⟨a,ha,c7 (by rw[h0];rfl)⟩;rw[h] at this;cases this
def ajR(es:List eW)(n:Nat):Option (List Int):=if ap4 es=true then none else qj.jac (EE es) (n+2) (List.replicate n 0)
def apk(es:List eW)(y:List Int):List Int:=es.map λe=>qj.m e.pQ y
structure agW(es:List eW)(n:Nat)(x r:List Int):Prop where
 xl:x.length=n
 rl:r.length=es.length
 xnn:∀p,qj.In n p->0<=qj.g x p
 low:∀f,qj.Sol (EE es) n f->∀p,qj.In n p->qj.g x p<=f p
 rr:∀i (hi:i<es.length),0<=qj.g r (i:Int)/\qj.g r (i:Int)<=qj.m es[i].pQ x
section
variable{es:List eW}{n:Nat}(hE:EOk es n)(hF:ap4 es=false)
include hE hF
omit hF in
theorem agW.rule{x r:List Int}(h:agW es n x r){i:Nat}(hi:i<es.length){q:Int}(hq:q∈es[i].pQ):agW es n x (r.set i (qj.g x q)):=by
 refine⟨h.xl,by simp[h.rl],h.xnn,h.low,λj hj=>?_⟩;have e:=qj.aw6 (x:=r) h.rl (p:=(i:Int)) (q:=(j:Int)) ⟨by omega,by omega⟩ ⟨by omega,by omega⟩ (qj.g x q);rw[Int.toNat_natCast] at e;rw[e];split
 ·have:j=i:=by omega
  subst this;exact⟨h.xnn q ((hE.each _ (pz hi)).1 q hq),qj.azf hq⟩
 ·exact h.rr j hj
theorem agW.place{x r:List Int}(h:agW es n x r){i:Nat}(hi:i<es.length){p:Int}(hp:p∈es[i].ack)(hle:qj.g x p<=qj.g r (i:Int)):agW es n (x.set p.toNat (qj.g r (i:Int)+1)) r/\∀q,qj.In n q->qj.g x q<=qj.g (x.set p.toNat (qj.g r (i:Int)+1)) q:=by
 have hpn:=(hE.each _ (pz hi)).2.1 p hp;have hri:=h.rr i hi;have e:=λq (hq:qj.In n q)=>qj.aw6 (x:=x) h.xl (p:=p) (q:=q) hpn hq (qj.g r (i:Int)+1)
 have hge:∀q,qj.In n q->qj.g x q<=qj.g (x.set p.toNat (qj.g r (i:Int)+1)) q:=by
  intro q hq;rw[e q hq];split
  ·rename_i h1;subst h1;omega
  ·omega
 refine⟨⟨by simp[h.xl],h.rl,λq hq=>?_,λf hf q hq=>?_,λj hj=>⟨(h.rr j hj).1,?_⟩⟩,hge⟩
 ·have:=h.xnn q hq;have:=hge q hq;omega
 ·rw[e q hq];split
  ·rename_i h1;subst h1;have:=qj.azP hE.ok (ajQ hF) hf (List.mem_map.2 ⟨_,pz hi,rfl⟩) (h.low f hf) (p:=q) hp;simp only at this;omega
  ·exact h.low f hf q hq
 ·have:=(h.rr j hj).2;have:=aAS (hE.each _ (pz hj)).1 hge;omega
theorem agW.big{x r:List Int}(h:agW es n x r){i:Nat}(hi:i<es.length)(hb:100<qj.g r (i:Int)):ajR es n=none:=by
 unfold ajR;rw[if_neg (by rw[hF];decide)];refine qj.aw9 hE.ok (ajQ hF) λf hf=>?_
 obtain⟨f',h1,h2⟩:=qj.aid hE.ok hf;have hr:=(h.rr i hi).2;have h32:=hE.n32;have:qj.m es[i].pQ x<=32:=qj.aAQ (by omega) λq hq=>by have hq':=(hE.each _ (pz hi)).1 q hq;have:=h.low f' h1 q hq';have:=h2 q hq';omega
 omega
theorem agW.done{x r:List Int}(h:agW es n x r)(hs:∀j (hj:j<es.length),(∀q∈es[j].pQ,qj.g x q<=qj.g r (j:Int))/\∀p∈es[j].ack,qj.g r (j:Int)<qj.g x p):ajR es n=some x/\r=apk es x:=by
 constructor
 ·unfold ajR;rw[if_neg (by rw[hF];decide)];refine qj.aAR hE.ok (ajQ hF) h.xl ⟨h.xnn,λe he q hq p hp=>?_⟩ h.low;obtain⟨a,ha,rfl⟩:=List.mem_map.1 he;obtain⟨j,hj,rfl⟩:=List.mem_iff_getElem.1 ha;have h1:=(hs j hj).1 q hq;have h2:=(hs j hj).2 p hp;omega
 ·refine List.ext_getElem (by simp[apk,h.rl]) λj h1 h2=>?_
  have hj:j<es.length:=by rw[<-h.rl];exact h1
  have e1:=(h.rr j hj);have e2:=qj.aAQ (D:=es[j].pQ) (x:=x) e1.1 λq hq=>(hs j hj).1 q hq
  rw[aCB h1] at e1 e2;simp only[apk,List.getElem_map];omega
end
theorem as8{α:Type} [Inhabited α] [DecidableEq α](a b:List α)(h:a.length=b.length):((List.range a.length).all λi:Nat=>decide (a.getD i default=b.getD i default))=decide (a=b):=by
 rw[Bool.eq_iff_iff,List.all_eq_true,decide_eq_true_eq];constructor
 ·intro k;refine List.ext_getElem h λi h1 h2=>?_
  have:=bY (k i (List.mem_range.2 h1));rwa [bI h1,bI h2] at this
 ·rintro rfl i _;exact c7 rfl
theorem yt{a b:List Int}(ha:a.length<=1000000):dz a b=some (decide (a=b)):=by
 unfold dz;rw[aP (p:=((a.length:Nat):Int)=((b.length:Nat):Int))];by_cases h:((a.length:Nat):Int)=((b.length:Nat):Int)
 ·have h':a.length=b.length:=by omega
  rw[if_pos h,dA (bk (by omega))];rw[nC (n:=a.length) (λi=>decide (a.getD i default=b.getD i default)) (λ_=>some false) (λi hi eF=>by
   rw[eS hi,eS (show i<b.length by omega),bI hi,bI (show i<b.length by omega)])]
  rw[iw,as8 a b h'];cases decide (a=b)<;>rfl
 ·rw[if_neg h,jz (λe=>h (by rw[e]))]
theorem amA{σ O:Type}(f:Nat->σ->(σ->Option O)->(σ->Option O)->Option O)(i:Nat)(s:σ)(K:σ->Option O):bH f 2 i s K=f i s (λs'=>f (i+1) s' (λs''=>K s'') K) K:=rfl
theorem axa{x y:List Int}(h:x.length<=1000/\y.length<=1000):jI [x,y]=some (x++y):=by refine Ok.eq ?_;unfold jI;refine cr (by unfold fuel;simp) ?_;show Ok (bH _ 2 0 0 _) _;rw[amA];refine ok_eq (r:=x) rfl ?_;rw[gm (by omega)];refine abI (jz (by omega)) ?_;refine ok_eq (r:=y) rfl ?_;rw[gm (by omega)];refine abI (jz (by omega)) ?_;refine ok_eq (r:=[]) (qt ⟨rfl,by omega,by omega⟩) ?_;refine cr (by unfold fuel;simp) ?_;show Ok (bH _ 2 0 [] _) _;rw[amA];refine ok_eq (r:=x) rfl ?_;refine cr (by simp;omega) ?_;refine ok_eq (r:=y) rfl ?_;refine cr (by simp;omega) ?_;exact .mk rfl
structure aFO(L:aoF):Prop where
 rules:L.rules.length<=1000000
 nodes:L.nodes.length<=1000000
 ag:L.ag.length<=1000000
structure axb(t:Types):Prop where
 attrs:∀n∈t.nodes,n.attrs.length<=1125899906842624
theorem aAT{t:Types}(hm:axb t):Ok (iK t) (λb=>b=true->jB t):=by
 have no:Ok (some false) (λb=>b=true->jB t):=Ok.mk (λh=>absurd h (by decide));unfold iK;refine bD (λ_=>no) (λh1=>bD (λ_=>no) (λh2=>?_));have h1:=dm h1;have h2:=dm h2;refine cr (bk (by omega)) ?_;refine fX (λi (s:Int)=>(0<=s/\s<=30)/\∀j,j<i->(t.nodes.getD j default).attrs.length<=30/\(t.nodes.getD j default).name.size<=40/\∀a∈(t.nodes.getD j default).attrs,a.name.size<=40/\a.names.length<=25/\∀s∈a.names,s.size<=40) (Nat.zero_le _) ⟨⟨by omega,by omega⟩,λj hj=>absurd hj (Nat.not_lt_zero j)⟩ ?_ ?_
 ·rintro i s eF _ hi ⟨hs,hq⟩ hn;have hA:=hm.attrs _ (pz hi);refine lX hi ?_;rw[gm (by omega)];refine bD (λ_=>no) (λh3=>bD (λ_=>no) (λh4=>?_));have h3:=dm h3;have h4:=dm h4;refine cr (bk (by omega)) ?_;refine fX (λk (_:Unit)=>∀j,j<k->((t.nodes[i].attrs.getD j default).name.size<=40/\(t.nodes[i].attrs.getD j default).names.length<=25/\∀s∈(t.nodes[i].attrs.getD j default).names,s.size<=40)) (Nat.zero_le _) (λj hj=>absurd hj (Nat.not_lt_zero j)) ?_ ?_
  ·rintro k _ aCu _ hk hq2 hn2;refine lX hk (bD (λ_=>no) (λh5=>bD (λ_=>no) (λh6=>?_)));have h5:=dm h5;have h6:=dm h6;refine cr (bk (by omega)) ?_;refine fX (λm (_:Unit)=>∀j,j<m->(t.nodes[i].attrs[k].names.getD j default).size<=40) (Nat.zero_le _) (λj hj=>absurd hj (Nat.not_lt_zero j)) ?_ ?_
   ·rintro m _ nxt3 _ hm3 hq3 hn3;refine lX hm3 (bD (λ_=>no) (λh7=>hn3 _ λj hj=>?_));have h7:=dm h7;rcases Nat.lt_succ_iff_lt_or_eq.1 hj with h|h
    ·exact hq3 j h
    ·subst h;rw[bI hm3];omega
   ·rintro _ hq3;refine hn2 _ λj hj=>?_
    rcases Nat.lt_succ_iff_lt_or_eq.1 hj with h|h
    ·exact hq2 j h
    ·subst h;rw[bI hk];refine⟨by omega,by omega,λs hs=>?_⟩;obtain⟨j,hj,rfl⟩:=aaX hs;exact hq3 j hj
  ·rintro _ hq2;refine hn _ ⟨⟨by omega,by omega⟩,λj hj=>?_⟩;rcases Nat.lt_succ_iff_lt_or_eq.1 hj with h|h
   ·exact hq j h
   ·subst h;rw[bI hi];refine⟨by omega,by omega,λa ha=>?_⟩;obtain⟨j,hj,rfl⟩:=aaX ha;exact hq2 j hj
 ·rintro s ⟨_,hq⟩;refine cr (bk (by omega)) ?_;refine fX (λk (_:Unit)=>∀j,j<k->(t.ag.getD j default).name.size<=40) (Nat.zero_le _) (λj hj=>absurd hj (Nat.not_lt_zero j)) ?_ ?_
  ·rintro k _ aCu _ hk hq2 hn2;refine lX hk (bD (λ_=>no) (λh5=>hn2 _ λj hj=>?_));have h5:=dm h5;rcases Nat.lt_succ_iff_lt_or_eq.1 hj with h|h
   ·exact hq2 j h
   ·subst h;rw[bI hk];omega
  ·rintro _ hq2;have hall:∀n∈t.nodes,n.attrs.length<=30/\n.name.size<=40/\∀a∈n.attrs,a.name.size<=40/\a.names.length<=25/\∀s∈a.names,s.size<=40:=λn hn=>by obtain⟨j,hj,rfl⟩:=aaX hn;exact hq j hj
   exact Ok.mk λ_=>⟨by omega,by omega,λn hn=>(hall n hn).1,λn hn=>(hall n hn).2.1,λn hn a ha=>((hall n hn).2.2 a ha).1,λn hn a ha=>((hall n hn).2.2 a ha).2.1,λn hn a ha=>((hall n hn).2.2 a ha).2.2,λe he=>by
    obtain⟨j,hj,rfl⟩:=aaX he;exact hq2 j hj⟩
theorem axc(g:au):Ok (gi g) (λb=>b=true->rD g):=by unfold gi;refine bD (λh1=>Ok.mk λh2=>?_) (λ_=>Ok.mk λh=>absurd h (by decide));have h1:=bY h1;have h2:=bY h2;exact⟨by omega,by omega⟩
theorem apl(p:ak):Ok (eR p) (λb=>b=true->agU p):=by
 unfold eR;refine qI (axc p.graph) λb hb=>?_
 refine bD (λh0=>bD (λh1=>Ok.mk λh2=>?_) (λ_=>Ok.mk λh=>absurd h (by decide))) (λ_=>Ok.mk λh=>absurd h (by decide));have h1:=bY h1;have h2:=bY h2;exact⟨hb h0,by omega,by omega⟩
def ajS(a b:List Int):Prop:=a.length<=1125899906842624/\b.length<=1125899906842624
theorem as9(p:aO)(h:ajS p.nodes p.ag):iL p 140=some (decide (p.nodes.length+p.ag.length<=140)):=by have:=h.1;have:=h.2;unfold iL;rw[gm (by omega)];congr 1;rw[Bool.eq_iff_iff,decide_eq_true_eq,decide_eq_true_eq];omega
theorem amB(p:ah)(h:ajS p.nodes p.ag):cP p 140=some (decide (p.nodes.length+p.ag.length<=140)):=by have:=h.1;have:=h.2;unfold cP;rw[gm (by omega)];congr 1;rw[Bool.eq_iff_iff,decide_eq_true_eq,decide_eq_true_eq];omega
inductive agX:aj->Prop
 |mk (c:aj):ajS c.map.nodes c.map.ag->(∀k∈c.kids,agX k)->agX c
theorem agX.map{c:aj}(h:agX c):ajS c.map.nodes c.map.ag:=by cases h;assumption
theorem agX.kids{c:aj}(h:agX c):∀k∈c.kids,agX k:=by cases h;assumption
theorem ata(l:List aj):acF l↔∀k∈l,uB k:=by
 induction l with
 |nil=>rw[acF];simp
 |cons a l ih=>rw[acF,ih];simp
theorem agY(l m:List aj):lQ (l++m)=lQ l+lQ m:=by
 induction l with
 |nil=>rw[List.nil_append,lQ];omega
 |cons a l ih=>rw[List.cons_append,lQ,lQ,ih];omega
theorem aAU:∀ (n:Nat) (c:aj) (most:Int),agX c->0<=most->most<=1000->most<n->Ok (fH n c most) (λv=>(-1<=v/\v<=most-1)/\(0<=v->uB c/\(m7 c:Int)<=most-v)):=by
 intro n
 induction n with
 |zero=>intro c most _ h0 _ h;omega
 |succ n ih =>
  intro c most hc h0 h1 h2;have no:Ok (some (-1:Int)) (λv=>(-1<=v/\v<=most-1)/\(0<=v->uB c/\(m7 c:Int)<=most-v)):=Ok.mk ⟨⟨by omega,by omega⟩,λh=>by omega⟩;rw[fH];refine qI (apl c.pattern) λb hb=>bD (λh3=>?_) (λ_=>no)
  refine ok_eq (amB c.map hc.map) (bD (λh4=>?_) (λ_=>no));have h4:=bY h4;rw[gm (by omega)];have fin:∀s:Int×Int,(-1<=s.1/\s.1<=most-1)->(0<=s.1->(∀k∈c.kids,uB k)/\(lQ c.kids:Int)<=most-1-s.1)->Ok (some s.1) (λv=>(-1<=v/\v<=most-1)/\(0<=v->uB c/\(m7 c:Int)<=most-v)):=λs hs hk=>Ok.mk ⟨hs,λh=>by
   obtain⟨k1,k2⟩:=hk h;refine⟨?_,by rw[acG];omega⟩;have:=hb h3;cases c;rw[uB];exact⟨this,h4,(ata _).2 k1⟩⟩
  refine aji (λs:Int×Int=>(-1<=s.1/\s.1<=most-1-s.2)/\(0<=s.2/\s.2<=c.kids.length)/\(0<=s.1->(∀k∈c.kids.take s.2.toNat,uB k)/\(lQ (c.kids.take s.2.toNat):Int)<=most-1-s.1)) (λs=>(most+5-s.2).toNat) ⟨⟨by dsimp only;omega,by dsimp only;omega⟩,⟨by dsimp only;omega,by dsimp only;omega⟩,λh=>⟨λk hk=>by simp at hk,by
   have:lQ (c.kids.take (0:Int).toNat)=0:=by rw[Int.toNat_zero,List.take_zero,lQ]
   dsimp only at h ⊢;rw[this];omega⟩⟩ (by dsimp only;unfold fuel;omega) ?_
  rintro⟨v,i⟩ eF ⟨hv,hi,hk⟩ hn;dsimp only at hv hi hk ⊢;refine bD (λh5=>bD (λh6=>?_) (λh6=>?_)) (λh5=>?_)
  ·have h5:=bY h5;have h6:=bY h6;have hlt:i.toNat<c.kids.length:=by omega
   obtain⟨k1,k2⟩:=hk h6;refine iQ hi.1 hlt ?_;refine qI (ih _ v (hc.kids _ (pz hlt)) h6 (by omega) (by omega)) ?_;rintro v2 ⟨hv2,hk2⟩;rw[gm (by omega)];refine hn _ ⟨⟨by dsimp only;omega,by dsimp only;omega⟩,⟨by dsimp only;omega,by dsimp only;omega⟩,λh7=>?_⟩ (by dsimp only;omega);dsimp only at h7 ⊢;obtain⟨k3,k4⟩:=hk2 h7;have e:c.kids.take (i+1).toNat=c.kids.take i.toNat++[c.kids[i.toNat]]:=by rw[show (i+1).toNat=i.toNat+1 by omega,List.take_add_one,List.getElem?_eq_getElem hlt];rfl
   rw[e,agY,lQ,lQ];refine⟨λk hk=>?_,by omega⟩;rcases List.mem_append.1 hk with hk|hk
   ·exact k1 k hk
   ·rw[List.mem_singleton.1 hk];exact k3
  ·have h6:=dm h6;exact fin (v,i) ⟨hv.1,by dsimp only;omega⟩ λh=>by dsimp only at h;omega
  ·have h5:=dm h5;refine fin (v,i) ⟨hv.1,by dsimp only;omega⟩ λh=>?_
   have:=hk h;rwa [List.take_of_length_le (by omega)] at this
structure ajT(r:aF):Prop where
 keep:ajS r.keep.nodes r.keep.ag
 into:ajS r.into.nodes r.into.ag
 cond:agX r.condition
theorem atb{r:aF}(h:ajT r):Ok (gj r) (λb=>b=true->oN r):=by
 have no:Ok (some false) (λb=>b=true->oN r):=Ok.mk (λh=>absurd h (by decide));unfold gj;refine bD (λh1=>?_) (λ_=>no);have h1:=bY h1;refine qI (apl r.left) λb2 hb2=>bD (λh2=>?_) (λ_=>no)
 refine qI (apl r.right) λb3 hb3=>bD (λh3=>?_) (λ_=>no)
 refine ok_eq (as9 r.keep h.keep) (bD (λh4=>?_) (λ_=>no));refine ok_eq (amB r.into h.into) (bD (λh5=>?_) (λ_=>no));have h4:=bY h4;have h5:=bY h5;unfold j6;refine qI (Q:=λb=>b=true->oN r) (R:=λb=>b=true->uB r.condition/\m7 r.condition<=1000) ?_ λb6 hb6=>Ok.mk λh6=>?_
 ·refine qI (aAU fuel r.condition 40 h.cond (by omega) (by omega) (by unfold fuel;omega)) ?_;rintro v ⟨_,hv⟩;refine Ok.mk λh6=>?_
  have h6:=bY h6;obtain⟨k1,k2⟩:=hv h6;exact⟨k1,by omega⟩
 ·obtain⟨k1,k2⟩:=hb6 h6;exact⟨⟨by omega,hb2 h2,hb3 h3,h4,h5⟩,k1,k2⟩
theorem axd{t:Types}{r:aF}(ht:jB t)(hv:(cZ t).2=0)(hr:oN r)(h1:kX r.name=true)(h2:rO t r.left=0)(h3:og t r=0)(h4:bS r=some 0)(h5:r.into.nodes.Nodup)(h6:r.into.ag.Nodup)(h7:sH t r.right.graph (kj r) (lP r)=true)(h8:dG t r.left r.condition=some 0):oa t r=0:=by
 have hb:=hr.base;have hT:=xB ht hv;have hi:=hb.into;obtain⟨g1,g2⟩:=acH h2;obtain⟨g3,g4⟩:=wX h3;have hrn:=hb.right.graph.nodes;have hre:=hb.right.graph.ag;have l1:=mM r.right.graph.nodes.length r.into.nodes;have l2:=mM r.right.graph.ag.length r.into.ag;obtain⟨m1,m2⟩:=adK ht g3 g4 (nodes:=kj r) (ag:=lP r) qb qb (by unfold kj;omega) (by unfold lP;omega);rw[h7] at m2;have key:bn t r=some 0:=by unfold bn;rw[aD (nI ht),aP (p:=(cZ t).2=0),if_pos hv,aD (adG (by have:=hb.name;omega)),h1,cond_true,aD (iW ht hb.left),aP (p:=rO t r.left=0),if_pos h2,aD (vS (r:=r) hT hb),aP (p:=og t r=0),if_pos h3];rw[aD (show bS ⟨r.name,r.left,r.right,r.keep,r.into,r.injective,r.condition⟩=_ from h4),c7 rfl,cond_true,aD (nJ (by omega)),c7 h5,cond_true,aD (nJ (by omega)),c7 h6,cond_true];rw[aD (show cT ⟨r.name,r.left,r.right,r.keep,r.into,r.injective,r.condition⟩=_ from (aaG hb).2),aD m2,cond_true,aD h8]
 unfold oa;rw[key];rfl
theorem azi{r:aF}(hr:acB r)(h0:cL r.left.graph=0)(h1:cx r.left.graph r.keep=some 0)(h2:aY (dW r.left.graph r.keep) r.right.graph r.into=some 0):bS r=some 0:=by
 have hk:=hr.keep;have hv:b8 r.left.graph r.keep=some 0:=by unfold b8;rw[aD (iy hr.left.graph),aP (p:=cL r.left.graph=0),if_pos h0,aD (show cx ⟨r.left.graph.nodes,r.left.graph.ag⟩ ⟨r.keep.nodes,r.keep.ag⟩=_ from h1)]
 obtain⟨e,_,k2,k3⟩:=yl hr.left.graph (p:=r.keep) ⟨by omega,by omega⟩;have he:e=0:=by rw[hv] at k2;exact (Option.some.inj k2).symm
 obtain⟨hp,_⟩:=k3 he;unfold bS;rw[aD hv,c7 rfl,cond_true,aD (ajE hp ⟨by omega,by omega⟩ hv),aD h2]
def noP:ak:=⟨⟨[],[]⟩,[],0,[]⟩
def noC:aj:=⟨1,[],⟨[],[]⟩,noP⟩
theorem azj:uB noC/\m7 noC<=1000:=by unfold noC;rw[uB,acF,m7,lQ];exact⟨⟨⟨⟨by decide,by decide⟩,by decide,by decide⟩,by decide,trivial⟩,by decide⟩
def xh:av7:=⟨0,5,5,1⟩
theorem amC{l:List Int}{n:Int}(h:agV l n):ao4 l n=0:=by
 refine ahR.2 λi hi=>?_
 have hi:=List.mem_range.1 hi;unfold ahW;simp only[List.getElem?_eq_getElem hi];have h1:=h.range _ (pz hi);rw[if_neg (by omega),if_neg (by omega)];split
 ·rename_i h0;have e:l.getD (i-1) 0=l[i-1]'(by omega):=by simp[show i-1<l.length by omega]
  have:=(List.pairwise_iff_getElem.1 h.asc) (i-1) i (by omega) hi (by omega);rw[if_neg (by rw[e];omega)]
 ·rfl
theorem ago{g:au}{p:aO}(hp:p.nodes.length<=1000/\p.ag.length<=1000)(h:oE g p):cx g p=some 0:=by refine Ok.eq ?_;unfold cx;refine ok_eq (aeD _ _ (by omega)) ?_;rw[amC h.nodes];refine sN rfl ?_;refine ok_eq (aeD _ _ (by omega)) ?_;rw[amC h.ag];refine sN rfl ?_;refine cr (bk (by omega)) ?_;refine fX (λ_ _=>True) (Nat.zero_le _) trivial (λj s eF _ hj _ hn=>?_) (λ_ _=>.mk rfl);obtain⟨c1,c2⟩:=yj h.ag hj;have he:=h.ends _ (pz hj);rw[bI c2] at he;refine lX hj (iQ c1 c2 ?_);refine ok_eq (j8 (by omega) _) (sN (c7 he.1) ?_);exact ok_eq (j8 (by omega) _) (sN (c7 he.2) (hn _ trivial))
theorem nW{g:au}(h:rE g):cL g=0:=aal h.nodes h.ag (λ_ hk=>h.amp hk) (λ_ he=>h.ah3 he)
theorem axe{a b:au}(ha:rD a)(hb:rD b){m:ah}(va:cL a=0)(vb:cL b=0)(h:vT a b m):aY a b m=some 0:=by obtain⟨e,h1,h2⟩:=ajJ ha hb (m:=m);rw[<-aaj,h1,h2.2 ⟨va,vb,h⟩]
theorem apm{t:Types}(ht:jB t){p:ak}(hp:agU p)(h:rO t p=0):dG t p aao=some 0:=by unfold dG;rw[aD (iW ht hp),aP (p:=rO t p=0),if_pos h];rw[aD (show fk aao=some 0 by decide +kernel),c7 rfl,cond_true];rw[show fuel=4611686018427387903+1 from rfl,bW];rfl
theorem ap5{g:au}{p:aO}(hg:rE g)(hp:oE g p):rD (dW g p):=by have a1:=jy hp.nodes;have a2:=jy hp.ag;have b1:=hg.nodes;have b2:=hg.ag;exact⟨by simp[dW];omega,by simp[dW];omega⟩
theorem azk{r:aF}(hr:acB r)(h:bS r=some 0):oE r.left.graph r.keep/\vT (dW r.left.graph r.keep) r.right.graph r.into:=by
 have hk:=hr.keep;obtain⟨e,_,h2,h3⟩:=yl hr.left.graph (p:=r.keep) ⟨by omega,by omega⟩;unfold bS at h;rw[aD h2,aP (p:=e=0)] at h;by_cases h0:¬ (e=0)
 ·rw[if_neg h0] at h;exact absurd (Option.some.inj h) h0
 have h0:=Decidable.of_not_not h0;subst h0;obtain⟨hp,hg⟩:=h3 rfl;rw[if_pos rfl,aD (ajE hp ⟨by omega,by omega⟩ h2)] at h;obtain⟨e,m1,m2⟩:=ajJ (ap5 hg hp) hr.right.graph (m:=r.into);rw[aaj] at m1;rw[aD (show aY (dW r.left.graph r.keep) r.right.graph r.into=_ from m1)] at h;cases h;exact⟨hp,(m2.1 rfl).2.2⟩
theorem ap6{t:Types}(ht:jB t){r:aF}(hr:oN r)(h:oa t r=0):mH t r:=by
 have key:=(oO ht hr).2.1;rw[h] at key;have hb:=hr.base;have hi:=hb.into;unfold bn at key;rw[aD (nI ht),aP (p:=(cZ t).2=0)] at key;by_cases h1:¬ ((cZ t).2=0)
 ·rw[if_neg h1] at key;exact absurd (Option.some.inj key) h1
 have h1:=Decidable.of_not_not h1;have hT:=xB ht h1;rw[if_pos h1,aD (adG (by have:=hb.name;omega))] at key;have hn:kX r.name=true:=by
  cases hq:kX r.name with
  |true=>rfl
  |false=>rw[hq] at key;cases key
 rw[hn,cond_true,aD (iW ht hb.left),aP (p:=rO t r.left=0)] at key;by_cases h2:¬ (rO t r.left=0)
 ·rw[if_neg h2] at key;exact absurd (Option.some.inj key) h2
 have h2:=Decidable.of_not_not h2;rw[if_pos h2,aD (vS (r:=r) hT hb),aP (p:=og t r=0)] at key;by_cases h3:¬ (og t r=0)
 ·rw[if_neg h3] at key;exact absurd (Option.some.inj key) h3
 have h3:=Decidable.of_not_not h3;obtain⟨g1,g2⟩:=acH h2;obtain⟨g3,g4⟩:=wX h3;obtain⟨e,k1,_,k3⟩:=ah2 hb;rw[if_pos h3,aD (show bS ⟨r.name,r.left,r.right,r.keep,r.into,r.injective,r.condition⟩=_ from k1),aP (p:=e=0)] at key;by_cases h4:¬ (e=0)
 ·rw[if_neg h4] at key;exact absurd (Option.some.inj key) h4
 have h4:=Decidable.of_not_not h4;subst h4;obtain⟨s1,s2⟩:=azk hb k1;rw[if_pos rfl,aD (nJ (by omega))] at key;have n1:r.into.nodes.Nodup:=by
  by_cases hq:r.into.nodes.Nodup
  ·exact hq
  ·rw[jz hq] at key;cases key
 rw[c7 n1,cond_true,aD (nJ (by omega))] at key;have n2:r.into.ag.Nodup:=by
  by_cases hq:r.into.ag.Nodup
  ·exact hq
  ·rw[jz hq] at key;cases key
 rw[c7 n2,cond_true,aD (show cT ⟨r.name,r.left,r.right,r.keep,r.into,r.injective,r.condition⟩=_ from (aaG hb).2)] at key;have hrn:=hb.right.graph.nodes;have hre:=hb.right.graph.ag;have l1:=mM r.right.graph.nodes.length r.into.nodes;have l2:=mM r.right.graph.ag.length r.into.ag;obtain⟨_,m2⟩:=adK ht g3 g4 (nodes:=kj r) (ag:=lP r) qb qb (by unfold kj;omega) (by unfold lP;omega);rw[aD m2] at key;have mk:sH t r.right.graph (kj r) (lP r)=true:=by
  cases hq:sH t r.right.graph (kj r) (lP r) with
  |true=>rfl
  |false=>rw[hq] at key;cases key
 exact⟨h1,hn,h2,h3,s1,s2,n1,n2,mk⟩
theorem aif{t:Types}(ht:jB t){r:aF}(hr:oN r)(h:mH t r)(hc:r.condition=aao):oa t r=0 :=
 have hk:=hr.base.keep
 axd ht h.types hr h.name h.pat h.right (azi hr.base (nW h.ym) (ago ⟨by omega,by omega⟩ h.part) (axe (ap5 h.ym h.part) hr.base.right.graph (nW (aeI h.ym h.part)) (nW h.rok) h.mor)) h.nn h.ne h.make (hc ▸ apm ht hr.base.left h.pat)
theorem yu:bT=some true:=by kernel_rfl
def qU(s n:Nat):List Int:=(List.range n).map λi:Nat=>(s:Int)+(i:Int)
theorem yw(s n:Nat)(hs:s<=1000000)(hn:n<=1000000):iC (s:Int) (n:Int)=some (qU s n):=by refine Ok.eq ?_;unfold iC;rw[Int.toNat_natCast];refine cr (bk (by omega)) ?_;refine fX (λi (l:List Int)=>l=qU s i) (Nat.zero_le _) rfl ?_ (λl h=>.mk h);rintro i l eF _ hi rfl hx;refine cr (by simp[qU];omega) ?_;rw[gm (by omega)];exact hx _ (by unfold qU;rw[List.range_succ,List.map_append];rfl)
theorem qV(s n:Nat)(hs:s<=1000000)(hn:n<=1000000):br (s:Int) (n:Int)=some (qU s n):=by refine Ok.eq ?_;unfold br;rw[Int.toNat_natCast];refine cr (bk (by omega)) ?_;refine fX (λi (l:List Int)=>l=qU s i) (Nat.zero_le _) rfl ?_ (λl h=>.mk h);rintro i l eF _ hi rfl hx;refine cr (by simp[qU];omega) ?_;rw[gm (by omega)];exact hx _ (by unfold qU;rw[List.range_succ,List.map_append];rfl)
theorem aeg(n:Nat):qU 0 n=lR n:=by unfold qU lR;exact List.map_congr_left λi _=>by simp
theorem ap7{O:Type}{K:List Edge->Option O}{es s0:List Edge}{n:Nat}(hs:∀e∈es,(0<=e.src/\e.src<=1000)/\(0<=e.dst/\e.dst<=1000))(hn:n<=1000)(hl:s0.length+es.length<=1000) :
  bH (λi (s:List Edge) eF brk=>thn (es[i]?) λe=>cA (s.length+1<=68719476736) <| eF (s++[(⟨e.type,(i64.wrap (e.src+((n:Nat):Int))),(i64.wrap (e.dst+((n:Nat):Int)))⟩:Edge)])) (es.length-0) 0 s0 K=K (s0++es.map (upE n)):=by
 rw[(wT es (λs e=>s++[upE n e]) (λi s=>s.length=s0.length+i) (by simp) (λi hi s hs2=>⟨λeF=>by
  have:=hs _ (pz hi);rw[eS hi,dA (by omega),gm (by omega),gm (by omega)];rfl,by simp[hs2];omega⟩)).1,yd]
theorem ap8{O:Type}{K:List Int->Option O}{l s0:List Int}{n:Nat}(hs:∀x∈l,0<=x/\x<=1000)(hn:n<=1000)(hl:s0.length+l.length<=1000) :
  bH (λi (s:List Int) eF brk=>thn (l[i]?) λe=>cA (s.length+1<=68719476736) <| eF (s++[(i64.wrap (e+((n:Nat):Int)))])) (l.length-0) 0 s0 K=K (iX s0 l n):=by
 rw[(wT l (λs e=>s++[e+(n:Int)]) (λi s=>s.length=s0.length+i) (by simp) (λi hi s hs2=>⟨λeF=>by
  have:=hs _ (pz hi);rw[eS hi,dA (by omega),gm (by omega)],by simp[hs2];omega⟩)).1,yd]
 rfl
theorem aaL{a b:List Int}{n:Nat}(hs:∀x∈b,0<=x/\x<=1000)(hn:n<=1000)(hl:a.length+b.length<=1000):fA a b (n:Int)=some (iX a b n):=by unfold fA;rw[aD (ajI (by omega)),dA (bk (by omega)),ap8 hs hn hl]
theorem aeJ{a b:List Int}{n:Nat}(hs:∀x∈b,0<=x/\x<=1000)(hn:n<=1000)(hl:a.length+b.length<=1000):dH a b (n:Int)=some (iX a b n):=by unfold dH;rw[dA (by omega),dA (bk (by omega)),ap8 hs hn hl]
theorem acO{l:List Edge}(h:l.length<=1000000):iA l=some l:=qt h
def ajU(s1 s2 n1 n2:Nat):ah:=⟨qU s1 n1,qU s2 n2⟩
def axf(g h:au):au×ah×ah×Int:=(iz g h,ajU 0 0 g.nodes.length g.ag.length,ajU g.nodes.length g.ag.length h.nodes.length h.ag.length,0)
theorem rE.ends{g:au}(h:rE g):∀e∈g.ag,(0<=e.src/\e.src<=1000)/\(0<=e.dst/\e.dst<=1000):=λe he=>by have:=h.ah3 he;have:=h.nodes;omega
section
variable{g h:au}(hg:rE g)(hh:rE h)
include hg hh
theorem abj(h1:g.nodes.length+h.nodes.length<=40)(h2:g.ag.length+h.ag.length<=80):mL g h=some (axf g h):=by unfold mL;rw[amd,dA (bk (by decide))];show bH _ 2 0 () _=_;rw[amA,aD (show ([g,h]:List au)[0]? = some g from rfl),aD (kW ⟨by omega,by omega⟩),nW hg,c7 rfl,cond_true,aD (show ([g,h]:List au)[0+1]? = some h from rfl),aD (kW ⟨by omega,by omega⟩),nW hh,c7 rfl,cond_true];rw[gm (by omega),gm (by omega),jz (by omega),cond_false,jz (by omega),cond_false,aD (axa ⟨by omega,by omega⟩),aD (acO (by omega)),dA (bk (by omega)),ap7 hh.ends (by omega) (by omega)];rw[show (0:Int)=((0:Nat):Int) from rfl,aD (yw _ _ (by omega) (by omega)),aD (yw _ _ (by omega) (by omega)),aD (yw _ _ (by omega) (by omega)),aD (yw _ _ (by omega) (by omega))];rfl
theorem amD:fm g h=some (if g.nodes.length+h.nodes.length<=40/\g.ag.length+h.ag.length<=80 then axf g h else (⟨[],[]⟩,⟨[],[]⟩,⟨[],[]⟩,3)):=by
 have a1:=hg.nodes;have a2:=hg.ag;have b1:=hh.nodes;have b2:=hh.ag;unfold fm;rw[aD (iy ⟨by omega,by omega⟩),nW hg,c7 rfl,cond_true,aD (iy ⟨by omega,by omega⟩),nW hh,c7 rfl,cond_true];rw[gm (by omega),gm (by omega),aP,aP];by_cases h1:(40:Int)<((g.nodes.length:Nat):Int)+((h.nodes.length:Nat):Int)
 ·rw[if_pos h1,if_neg (by omega)]
 rw[if_neg h1];by_cases h2:(80:Int)<((g.ag.length:Nat):Int)+((h.ag.length:Nat):Int)
 ·rw[if_pos h2,if_neg (by omega)]
 rw[if_neg h2,if_pos (by omega)];rw[aD (show bV g=some g by unfold bV;rw[dA (by omega),dA (by omega)]),dA (by omega),dA (bk (by omega)),ap7 hh.ends (by omega) (by omega)];rw[show (0:Int)=((0:Nat):Int) from rfl,aD (qV _ _ (by omega) (by omega)),aD (qV _ _ (by omega) (by omega)),aD (qV _ _ (by omega) (by omega)),aD (qV _ _ (by omega) (by omega))];rfl
end
def sr(a:aF):Bool:=decide (a.left.vars=0)&&(decide (a.left.slots.length+a.left.tests.length+a.right.slots.length=0)&&decide (a.condition.kind=1))
noncomputable def qd(t:Types)(a b:aF):Int:=if (cZ t).2=0 then if oa t a=0 then if oa t b=0 then if (sr a&&sr b)=true then 0 else 8 else oa t b else oa t a else (cZ t).2
theorem aeK{a:aF}(ha:acB a):fG a=some (sr a)/\dJ a=some (sr a):=by
 have h1:=ha.left.slots;have h2:=ha.left.tests;have h3:=ha.right.slots;have key:fG a=some (sr a):=by
  unfold fG sr;rw[gm (n:=((a.left.slots.length:Nat):Int)+((a.left.tests.length:Nat):Int)) (by omega),gm (by omega)];have e:decide (((a.left.slots.length:Nat):Int)+((a.left.tests.length:Nat):Int)+((a.right.slots.length:Nat):Int)=0)=decide (a.left.slots.length+a.left.tests.length+a.right.slots.length=0):=by congr 1;exact propext (by omega)
  rw[e];cases decide (a.left.vars=0)<;>cases decide (a.left.slots.length+a.left.tests.length+a.right.slots.length=0)<;>rfl
 exact⟨key,key⟩
section
variable{t:Types}(ht:jB t){a b:aF}(ha:oN a)(hb:oN b)
include ht ha hb
theorem amE:iT t a b=some (qd t a b):=by
 unfold iT qd;rw[aD (vR ht),aP (p:=(cZ t).2=0)];by_cases h1:¬ ((cZ t).2=0)
 ·rw[if_neg h1,if_neg h1]
 have h1:=Decidable.of_not_not h1;rw[if_pos h1,if_pos h1,amd,dA (bk (by decide))];show bH _ 2 0 () _=_;rw[amA,aD (show ([a,b]:List aF)[0]? = some a from rfl),aD (oO ht ha).1,aP (p:=oa t a=0)];by_cases h2:¬ (oa t a=0)
 ·rw[if_neg h2,if_neg h2]
 have h2:=Decidable.of_not_not h2;rw[if_pos h2,if_pos h2,aD (show ([a,b]:List aF)[0+1]? = some b from rfl),aD (oO ht hb).1,aP (p:=oa t b=0)];by_cases h3:¬ (oa t b=0)
 ·rw[if_neg h3,if_neg h3]
 have h3:=Decidable.of_not_not h3;rw[if_pos h3,if_pos h3,aD (show fG ⟨a.name,a.left,a.right,a.keep,a.into,a.injective,a.condition⟩=_ from (aeK ha.base).1)];cases sr a with
 |false=>rfl
 |true =>
 rw[cond_true,aD (show fG ⟨b.name,b.left,b.right,b.keep,b.into,b.injective,b.condition⟩=_ from (aeK hb.base).1)];cases sr b<;>rfl
theorem amF:fl t a b=some (qd t a b):=by
 unfold fl qd;rw[aD (nI ht),aP (p:=(cZ t).2=0)];by_cases h1:¬ ((cZ t).2=0)
 ·rw[if_neg h1,if_neg h1]
 have h1:=Decidable.of_not_not h1;rw[if_pos h1,if_pos h1,aD (show bn t ⟨a.name,a.left,a.right,a.keep,a.into,a.injective,a.condition⟩=_ from (oO ht ha).2.1),aP (p:=oa t a=0)];by_cases h2:¬ (oa t a=0)
 ·rw[if_neg h2,if_neg h2]
 have h2:=Decidable.of_not_not h2;rw[if_pos h2,if_pos h2,aD (show bn t ⟨b.name,b.left,b.right,b.keep,b.into,b.injective,b.condition⟩=_ from (oO ht hb).2.1),aP (p:=oa t b=0)];by_cases h3:¬ (oa t b=0)
 ·rw[if_neg h3,if_neg h3]
 have h3:=Decidable.of_not_not h3;rw[if_pos h3,if_pos h3,aD (show dJ ⟨a.name,a.left,a.right,a.keep,a.into,a.injective,a.condition⟩=_ from (aeK ha.base).2)];cases sr a with
 |false=>rfl
 |true =>
 rw[cond_true,aD (show dJ ⟨b.name,b.left,b.right,b.keep,b.into,b.injective,b.condition⟩=_ from (aeK hb.base).2)];cases sr b<;>rfl
end
theorem aap{t:Types}(ht:jB t){a b:aF}(ha:oN a)(hb:oN b)(h:qd t a b=0):mH t a/\mH t b/\sr a=true/\sr b=true:=by
 unfold qd at h;split at h
 ·split at h
  ·rename_i h2;split at h
   ·rename_i h3;split at h
    ·rename_i h4;rw[Bool.and_eq_true] at h4;exact⟨ap6 ht ha h2,ap6 ht hb h3,h4.1,h4.2⟩
    ·cases h
   ·rename_i h3;exact absurd h h3
  ·rename_i h2;exact absurd h h2
 ·rename_i h1;exact absurd h h1
def adL:aF:=⟨⟨#[]⟩,⟨⟨[],[]⟩,[],0,[]⟩,⟨⟨[],[]⟩,[],0,[]⟩,⟨[],[]⟩,⟨[],[]⟩,false,⟨0,[],⟨[],[]⟩,⟨⟨[],[]⟩,[],0,[]⟩⟩⟩
def vv(a b:aF):Prop:=(a.left.graph.nodes.length+b.left.graph.nodes.length<=40/\a.left.graph.ag.length+b.left.graph.ag.length<=80)/\(a.right.graph.nodes.length+b.right.graph.nodes.length<=40/\a.right.graph.ag.length+b.right.graph.ag.length<=80)
instance(a b:aF):Decidable (vv a b):=by unfold vv;exact inferInstance
noncomputable def aaq(t:Types)(a b:aF):aF×ah×ah×Int:=if qd t a b=0 then if vv a b then (acL a b,ajU 0 0 a.left.graph.nodes.length a.left.graph.ag.length,ajU a.left.graph.nodes.length a.left.graph.ag.length b.left.graph.nodes.length b.left.graph.ag.length,0) else (adL,⟨[],[]⟩,⟨[],[]⟩,3) else (adL,⟨[],[]⟩,⟨[],[]⟩,qd t a b)
theorem ajV(n m:Nat):iU (n:Int) (m:Int)=some (decide (40<n\/80<m)):=by
 unfold iU;rw[aP];by_cases h:(40:Int)<(n:Int)
 ·rw[if_pos h,c7 (.inl (by omega))]
 ·rw[if_neg h];congr 1;exact decide_eq_decide.2 (by omega)
section
variable{t:Types}(ht:jB t){a b:aF}(ha:oN a)(hb:oN b)
include ht ha hb
theorem azl:gL t a b=some (aaq t a b):=by
 unfold gL aaq;rw[aD (show iT ⟨t.nodes,t.ag⟩ ⟨a.name,a.left,a.right,a.keep,a.into,a.injective,a.condition⟩ ⟨b.name,b.left,b.right,b.keep,b.into,b.injective,b.condition⟩=_ from amE ht ha hb),aP (p:=qd t a b=0)];by_cases h1:¬ (qd t a b=0)
 ·rw[if_neg h1,if_neg h1];rfl
 have h1:=Decidable.of_not_not h1;obtain⟨pa,pb,_,_⟩:=aap ht ha hb h1;have l1:=pa.ym.nodes;have l2:=pa.ym.ag;have l3:=pb.ym.nodes;have l4:=pb.ym.ag;have r1:=pa.rok.nodes;have r2:=pa.rok.ag;have r3:=pb.rok.nodes;have r4:=pb.rok.ag;have k1:=jy pa.part.nodes;have k2:=jy pa.part.ag;have k3:=jy pb.part.nodes;have k4:=jy pb.part.ag;have i1:=ha.base.into;have i2:=hb.base.into;rw[if_pos h1,if_pos h1]
 suffices h:jS a b=some (if vv a b then (acL a b,ajU 0 0 a.left.graph.nodes.length a.left.graph.ag.length,ajU a.left.graph.nodes.length a.left.graph.ag.length b.left.graph.nodes.length b.left.graph.ag.length,0) else (adL,⟨[],[]⟩,⟨[],[]⟩,3)) by rw[aD (show jS a ⟨b.name,b.left,b.right,b.keep,b.into,b.injective,b.condition⟩=_ from h)]
 unfold jS;rw[gm (by omega),gm (by omega),gm (by omega),gm (by omega)];rw[<-Int.natCast_add,<-Int.natCast_add,<-Int.natCast_add,<-Int.natCast_add,aD (ajV _ _),aP];by_cases h2:40<a.left.graph.nodes.length+b.left.graph.nodes.length\/80<a.left.graph.ag.length+b.left.graph.ag.length
 ·rw[if_pos h2,if_neg (show ¬ vv a b from λh=>by unfold vv at h;omega)];rfl
 rw[if_neg h2,aD (ajV _ _),aP];by_cases h3:40<a.right.graph.nodes.length+b.right.graph.nodes.length\/80<a.right.graph.ag.length+b.right.graph.ag.length
 ·rw[if_pos h3,if_neg (show ¬ vv a b from λh=>by unfold vv at h;omega)];rfl
 rw[if_neg h3,if_pos (show vv a b by unfold vv;omega),aD (abj pa.ym pb.ym (by omega) (by omega))];show cond (decide ((0:Int)=0)) _ _=_;rw[c7 rfl,cond_true,aD (abj pa.rok pb.rok (by omega) (by omega))];show cond (decide ((0:Int)=0)) _ _=_;rw[c7 rfl,cond_true];rw[aD (aaL (λx hx=>by have:=pb.part.nodes.range x hx;omega) (by omega) (by omega)),aD (aaL (λx hx=>by have:=pb.part.ag.range x hx;omega) (by omega) (by omega)),
  aD (aaL (λx hx=>by have:=pb.mor.qS x hx;omega) (by omega) (by omega)),aD (aaL (λx hx=>by have:=pb.mor.vU x hx;omega) (by omega) (by omega))]
 rfl
theorem apn:gQ t a b=some (aaq t a b):=by
 unfold gQ aaq;rw[aD (amF ht ha hb),aP (p:=qd t a b=0)];by_cases h1:¬ (qd t a b=0)
 ·rw[if_neg h1,if_neg h1];rfl
 have h1:=Decidable.of_not_not h1;obtain⟨pa,pb,_,_⟩:=aap ht ha hb h1;have l1:=pa.ym.nodes;have l2:=pa.ym.ag;have l3:=pb.ym.nodes;have l4:=pb.ym.ag;have r1:=pa.rok.nodes;have r2:=pa.rok.ag;have r3:=pb.rok.nodes;have r4:=pb.rok.ag;have k1:=jy pa.part.nodes;have k2:=jy pa.part.ag;have k3:=jy pb.part.nodes;have k4:=jy pb.part.ag;have i1:=ha.base.into;have i2:=hb.base.into;rw[if_pos h1,if_pos h1,aD (amD pa.ym pb.ym)];by_cases h2:a.left.graph.nodes.length+b.left.graph.nodes.length<=40/\a.left.graph.ag.length+b.left.graph.ag.length<=80
 ·rw[if_pos h2];show cond (decide ((0:Int)=0)) _ _=_;rw[c7 rfl,cond_true,aD (amD pa.rok pb.rok)];by_cases h3:a.right.graph.nodes.length+b.right.graph.nodes.length<=40/\a.right.graph.ag.length+b.right.graph.ag.length<=80
  ·rw[if_pos h3,if_pos (show vv a b from ⟨h2,h3⟩)];show cond (decide ((0:Int)=0)) _ _=_;rw[c7 rfl,cond_true];rw[aD (aeJ (λx hx=>by have:=pb.part.nodes.range x hx;omega) (by omega) (by omega)),aD (aeJ (λx hx=>by have:=pb.part.ag.range x hx;omega) (by omega) (by omega)),
    aD (aeJ (λx hx=>by have:=pb.mor.qS x hx;omega) (by omega) (by omega)),aD (aeJ (λx hx=>by have:=pb.mor.vU x hx;omega) (by omega) (by omega))]
   rfl
  ·rw[if_neg h3,if_neg (show ¬ vv a b from λh=>h3 h.2)];rfl
 ·rw[if_neg h2,if_neg (show ¬ vv a b from λh=>h2 h.1)];rfl
end
theorem acP{a:List Int}(ha:a.length<=1000000):fB a a=some true:=by have h:=yt (a:=a) (b:=a) ha;rw[c7 rfl] at h;exact h
theorem aar{m:ah}(h:m.nodes.length<=1000000/\m.ag.length<=1000000):c6 m m=some true:=by unfold c6;rw[aD (acP h.1),cond_true,aD (acP h.2)]
theorem axg{m:aO}(h:m.nodes.length<=1000000/\m.ag.length<=1000000):ir m m=some true:=by unfold ir;rw[aD (yt h.1),c7 rfl,cond_true,aD (yt h.2),c7 rfl]
theorem axh{g:au}(h:g.nodes.length<=1000000/\g.ag.length<=1000000):iq g g=some true:=by
 unfold iq;rw[aD (yt h.1),c7 rfl,cond_true,c7 rfl,cond_true,dA (bk (by omega))];rw[fM g.ag (λ_=>true) (λ_=>some false) (λi hi eF=>by
  rw[eS hi,eS hi,c7 rfl,c7 rfl,c7 rfl];rfl)]
 rw[iw,if_pos (by simp)]
def agp(p:ak):Prop:=p.slots=[]/\p.tests=[]
theorem agq{p:ak}(h:p.graph.nodes.length<=1000000/\p.graph.ag.length<=1000000)(hb:agp p):eD p p=some true:=by unfold eD;rw[aD (axh h),cond_true,c7 rfl,cond_true,c7 rfl,cond_true,c7 rfl,cond_true,hb.1,hb.2];rfl
theorem axi{c:aj}(hk:c.kids=[])(hm:c.map=⟨[],[]⟩)(hp:c.pattern=⟨⟨[],[]⟩,[],0,[]⟩):fJ fuel c c=some true:=by rw[show fuel=4611686018427387903+1 from rfl,fJ,c7 rfl,cond_true,c7 rfl,cond_true,hm,aD (aar (by simp)),cond_true,hp,aD (agq (by simp) ⟨rfl,rfl⟩),cond_true,hk];rfl
structure axj(r:aF):Prop where
 lb:agp r.left
 rb:agp r.right
 lg:r.left.graph.nodes.length<=1000000/\r.left.graph.ag.length<=1000000
 rg:r.right.graph.nodes.length<=1000000/\r.right.graph.ag.length<=1000000
 keep:r.keep.nodes.length<=1000000/\r.keep.ag.length<=1000000
 into:r.into.nodes.length<=1000000/\r.into.ag.length<=1000000
 kids:r.condition.kids=[]
 map:r.condition.map=⟨[],[]⟩
 pat:r.condition.pattern=⟨⟨[],[]⟩,[],0,[]⟩
theorem aas{r:aF}(h:axj r):fK r r=some true:=by unfold fK;rw[c7 rfl,cond_true,beq_self_eq_true,cond_true,aD (agq h.lg h.lb),cond_true,aD (agq h.rg h.rb),cond_true,aD (axg h.keep),cond_true,aD (aar h.into),cond_true,aD (axi h.kids h.map h.pat)]
theorem ajW:axj adL:=⟨⟨rfl,rfl⟩,⟨rfl,rfl⟩,by decide,by decide,by decide,by decide,rfl,rfl,rfl⟩
theorem aih:uB aao/\m7 aao<=1000:=azj
theorem axk{r:aF}{t:Types}(h:mH t r)(hn:r.name.size<=60)(hl:agp r.left)(hr:agp r.right)(hc:r.condition=aao):oN r:=by
 have l1:=h.ym.nodes;have l2:=h.ym.ag;have r1:=h.rok.nodes;have r2:=h.rok.ag;have k1:=jy h.part.nodes;have k2:=jy h.part.ag;have i1:=h.mor.adJ;have i2:=h.mor.ajF;have e1:(dW r.left.graph r.keep).nodes.length=r.keep.nodes.length:=by simp[dW]
 have e2:(dW r.left.graph r.keep).ag.length=r.keep.ag.length:=by simp[dW]
 refine⟨⟨hn,⟨⟨by omega,by omega⟩,by rw[hl.1];simp,by rw[hl.2];simp⟩,⟨⟨by omega,by omega⟩,by rw[hr.1];simp,by rw[hr.2];simp⟩,by omega,by omega⟩,?_,?_⟩
 ·rw[hc];exact aih.1
 ·rw[hc];exact aih.2
theorem ap9{r:aF}{t:Types}(h:mH t r)(hl:agp r.left)(hr:agp r.right)(hc:r.condition=aao):axj r:=by
 have l1:=h.ym.nodes;have l2:=h.ym.ag;have r1:=h.rok.nodes;have r2:=h.rok.ag;have k1:=jy h.part.nodes;have k2:=jy h.part.ag;have i1:=h.mor.adJ;have i2:=h.mor.ajF;have e1:(dW r.left.graph r.keep).nodes.length=r.keep.nodes.length:=by simp[dW]
 have e2:(dW r.left.graph r.keep).ag.length=r.keep.ag.length:=by simp[dW]
 exact⟨hl,hr,by omega,by omega,by omega,by omega,by rw[hc];rfl,by rw[hc];rfl,by rw[hc];rfl⟩
theorem amG{a b n m:Nat}(hn:n<=1000)(hm:m<=1000):(ajU a b n m).nodes.length<=1000000/\(ajU a b n m).ag.length<=1000000:=by simp[ajU,qU];omega
theorem amH{r:aF}(h:ajT r):Ok (eA r) (λb=>b=false->oN r):=by
 unfold eA;refine qI (R:=λb=>b=true->oN r) (show Ok (gj ⟨r.name,r.left,r.right,r.keep,r.into,r.injective,r.condition⟩) _ from atb h) λb hb=>.mk λhh=>hb ?_
 cases b
 ·cases hh
 ·rfl
theorem aqa{t:Types}(hT:axb t){a b:aF}(ha:ajT a)(hb:ajT b):Ok (dZ t [a,b]) (λx=>x=true->jB t/\oN a/\oN b):=by
 have no:Ok (some false) (λx=>x=true->jB t/\oN a/\oN b):=.mk λh=>by cases h
 unfold dZ;refine qI (aAT hT) λx hx=>bD (λh1=>?_) (λ_=>no)
 unfold ie ju;refine qI (R:=λb2=>b2=false->oN a/\oN b) ?_ λb2 h2=>.mk λh=>⟨hx h1,h2 (by cases b2<;>simp_all)⟩
 refine qI (R:=λn:Int=>n<0->oN a/\oN b) ?_ λn hn=>.mk λh=>hn (by have:=dm h;omega)
 refine cr (by unfold fuel;simp) ?_;show Ok (bH _ 2 0 () _) _;rw[amA];refine ok_eq (r:=a) rfl ?_;refine qI (amH ha) λb2 h2=>bD (λ_=>.mk λh=>by omega) (λh3=>?_)
 refine ok_eq (r:=b) rfl ?_;refine qI (amH hb) λb4 h4=>bD (λ_=>.mk λh=>by omega) (λh5=>.mk λ_=>⟨h2 h3,h4 h5⟩)
theorem aez(t:Types)(a b:aF)(hT:axb t)(hA:ajT a)(hB:ajT b):dS t a b=some true:=by
 unfold dS;rw[aD yu,cond_true];obtain⟨x,hx,hs⟩:=aqa hT hA hB;rw[aD (show dZ ⟨t.nodes,t.ag⟩ [⟨a.name,a.left,a.right,a.keep,a.into,a.injective,a.condition⟩,b]=_ from hx)];cases x with
 |false=>rw[cond_false,aD yu]
 |true =>
 obtain⟨ht,ha,hb⟩:=hs rfl;rw[cond_true,aD (show gL ⟨t.nodes,t.ag⟩ ⟨a.name,a.left,a.right,a.keep,a.into,a.injective,a.condition⟩ b=_ from azl ht ha hb),aD (apn ht ha hb)];have nm:c6 ⟨[],[]⟩ ⟨[],[]⟩=some true:=aar (by decide);unfold aaq;by_cases h1:¬ (qd t a b=0)
 ·rw[if_neg h1,aD (aas ajW),cond_true,aD nm,cond_true,aD nm,cond_true,c7 rfl,cond_true,jz h1,cond_false]
 have h1:=Decidable.of_not_not h1;obtain⟨pa,pb,_,_⟩:=aap ht ha hb h1;rw[if_pos h1];by_cases h2:¬ vv a b
 ·rw[if_neg h2,aD (aas ajW),cond_true,aD nm,cond_true,aD nm,cond_true,c7 rfl,cond_true];rfl
 have h2:=Decidable.of_not_not h2;have hu:=ape pa pb h2.1.1 h2.1.2 h2.2.1 h2.2.2;have hf:oN (acL a b):=axk hu ha.base.name ⟨rfl,rfl⟩ ⟨rfl,rfl⟩ rfl;have l1:=pa.ym.nodes;have l2:=pa.ym.ag;have l3:=pb.ym.nodes;have l4:=pb.ym.ag;rw[if_pos h2,aD (aas (ap9 hu ⟨rfl,rfl⟩ ⟨rfl,rfl⟩ rfl)),cond_true,aD (aar (amG (by show a.left.graph.nodes.length<=1000;omega) (by show a.left.graph.ag.length<=1000;omega))),cond_true,aD (aar (amG (by omega) (by omega))),cond_true,c7 rfl,cond_true];show cond (decide ((0:Int)=0)) _ _=_;rw[c7 rfl,cond_true,aD (show bn ⟨t.nodes,t.ag⟩ (acL a b)=_ from (oO ht hf).2.1),aif ht hf hu rfl];rfl
theorem aeL{l:List Int}{x:Int} : decide (0<=sX l x)=decide (x∈l):=by unfold sX;rw[ye,acC]
theorem aii{l:List Int}(hl:l.length<=1000000)(x:Int):fz l x=some (sX l x):=by unfold fz;rw[dA (bk (by omega)),p9 l (λy=>decide (x=y)) (λi hi eF=>by rw[eS hi]) rfl];congr 1;unfold sX;congr 1;funext y;exact decide_eq_decide.2 eq_comm
theorem xb{l:List Int}(hl:l.length<=1000000)(x:Int):bN l x=some (sX l x):=by unfold bN;rw[dA (bk (by omega)),p9 l (λy=>decide (y=x)) (λi hi eF=>by rw[eS hi]) rfl];rfl
theorem acQ{l:List Int}(hl:l.length<=1000000)(x:Int):dD l x=some (decide (x∈l)):=by unfold dD;rw[aD (xb hl x),aeL]
theorem axl{l:List Int}(hl:l.length<=1000000)(x:Int):gR l x=some (decide (x∈l)):=by
 unfold gR;rw[dA (bk (by omega))];rw[fM l (λy=>!decide (y=x)) (λ_=>some true) (λi hi eF=>by
  rw[eS hi];cases decide (l[i]=x)<;>rfl),iw]
 rw[<-acC,<-Bool.not_not (List.any _ _),<-List.not_any_eq_all_not];simp only[Bool.not_not];cases l.any λy=>decide (y=x)<;>simp
def yx(n:Nat)(a b:List Int):Bool:=(List.range n).all λi=>decide ((i:Int)∈a)||decide ((i:Int)∈b)
theorem aaM{n:Nat}{a b:List Int} : yx n a b=true↔∀i:Nat,i<n->(i:Int)∈a\/(i:Int)∈b:=by unfold yx;rw[List.all_eq_true];simp only[List.mem_range,Bool.or_eq_true,decide_eq_true_eq]
theorem aij{n:Nat}{a b:List Int}(hn:n<=1000000)(ha:a.length<=1000000)(hb:b.length<=1000000):jT (n:Int) a b=some (yx n a b):=by
 unfold jT;rw[Int.toNat_natCast,dA (bk (by omega))];rw[nC (λi:Nat=>decide ((i:Int)∈a)||decide ((i:Int)∈b)) (λ_=>some false) (λi hi eF=>by
  rw[aD (nK ha _),aD (nK hb _)];cases decide ((i:Int)∈a)<;>cases decide ((i:Int)∈b)<;>rfl),iw]
 unfold yx;cases (List.range n).all _<;>rfl
theorem amI{n:Nat}{a b:List Int}(hn:n<=1000000)(ha:a.length<=1000000)(hb:b.length<=1000000):eM a b (n:Int)=some (yx n a b):=by
 unfold eM;rw[Int.toNat_natCast,dA (bk (by omega))];rw[nC (λi:Nat=>decide ((i:Int)∈a)||decide ((i:Int)∈b)) (λ_=>some false) (λi hi eF=>by
  rw[aD (axl ha _),aD (axl hb _)];cases decide ((i:Int)∈a)<;>cases decide ((i:Int)∈b)<;>rfl),iw]
 unfold yx;cases (List.range n).all _<;>rfl
theorem aik{α:Type}(p:α->Bool)(a:α):[a].filter p=if p a=true then [a] else []:=by simp only[List.filter_cons,List.filter_nil]
theorem acR{α:Type} [Inhabited α]{l:List α}{i j:Nat}{a:α}(hj:j<l.length):(l.set i a).getD j default=if j=i then a else l.getD j default:=by
 rw[bI (by simpa using hj),bI hj,List.getElem_set];by_cases h:i=j
 ·rw[if_pos h,if_pos h.symm]
 ·rw[if_neg h,if_neg (λe=>h e.symm)]
theorem amJ{α:Type} [Inhabited α]{a b:List α}(hl:a.length=b.length)(h:∀i,i<a.length->a.getD i default=b.getD i default):a=b:=by
 refine List.ext_getElem hl λi h1 h2=>?_
 have:=h i h1;rwa [bI h1,bI h2] at this
theorem agr{α:Type} [Inhabited α]{n i:Nat}(f:Nat->α)(h:i<n):((List.range n).map f).getD i default=f i:=by rw[bI (by simpa using h)];simp
def uC(im keep:List Int)(i:Nat):Int:=if ct im keep i=true then 2 else if (i:Int)∈im then 1 else 0
theorem amK{im keep:List Int}{i:Nat}(h:ct im keep i=true):(i:Int)∈im:=by obtain⟨k,hk,e,_⟩:=oQ.1 h;rw[<-e];exact oP hk
section
variable{n:Nat}{im keep:List Int}(hn:n<=1000)(hi:im.length<=1000)(hk:keep.length<=1000)(hr:∀x∈im,0<=x/\x<n)
include hn hi hk hr
theorem acS:dM (n:Int) im keep=some ((List.range n).map (ct im keep)):=by
 refine Ok.eq ?_;unfold dM;rw[Int.toNat_natCast];refine cr (by omega) ?_;refine cr (bk (by omega)) ?_;refine fX (λk (s:List Bool)=>s.length=n/\∀i,i<n->(s.getD i default=true↔∃j,j<k/\j<im.length/\im.getD j default=(i:Int)/\(j:Int) ∉ keep)) (Nat.zero_le _) ⟨by simp,λi h=>?_⟩ ?_ ?_
 ·rw[bI (by simpa using h)];simp
 ·rintro k s eF _ hk2 ⟨hl,hs⟩ hx;have hkr:=hr _ (pz hk2);have ek:im.getD k default=im[k]:=bI hk2;refine ok_eq (acQ (by omega) _) ?_;refine bD (λh=>hx _ ⟨hl,λi h2=>?_⟩) (λh=>?_)
  ·have h:=bY h;rw[hs i h2];refine⟨λ⟨j,a,b⟩=>⟨j,by omega,b⟩,λ⟨j,a,b,c,d⟩=>⟨j,?_,b,c,d⟩⟩;rcases Nat.lt_or_ge j k with h3|h3
   ·exact h3
   ·have:j=k:=by omega
    subst this;exact absurd h d
  ·have h:=dm h;refine lX hk2 ?_;refine iQ hkr.1 (by omega) ?_;refine hx _ ⟨by simpa using hl,λi h2=>?_⟩;rw[acR (by omega)];by_cases h3:i=im[k].toNat
   ·rw[if_pos h3];exact⟨λ_=>⟨k,by omega,hk2,by rw[ek];omega,h⟩,λ_=>rfl⟩
   ·rw[if_neg h3,hs i h2];refine⟨λ⟨j,a,b⟩=>⟨j,by omega,b⟩,λ⟨j,a,b,c,d⟩=>⟨j,?_,b,c,d⟩⟩;rcases Nat.lt_or_ge j k with h4|h4
    ·exact h4
    ·have:j=k:=by omega
     subst this;rw[ek] at c;omega
 ·rintro s ⟨hl,hs⟩;refine .mk (amJ (by simpa using hl) λi h=>?_);rw[agr _ (by omega),Bool.eq_iff_iff,hs i (by omega),oQ];exact⟨λ⟨j,_,b⟩=>⟨j,b⟩,λ⟨j,b⟩=>⟨j,b.1,b⟩⟩
theorem acT(hd:im.Nodup):gd (n:Int) im keep=some ((List.range n).map (uC im keep)):=by
 refine Ok.eq ?_;unfold gd;rw[Int.toNat_natCast];refine cr (by omega) ?_;refine cr (bk (by omega)) ?_;refine fX (λk (s:List Int)=>s.length=n/\∀i,i<n->((∃j,j<k/\j<im.length/\im.getD j default=(i:Int)/\s.getD i default=if (j:Int)∈keep then 1 else 2)\/((∀j,j<k->j<im.length->im.getD j default≠(i:Int))/\s.getD i default=0))) (Nat.zero_le _) ⟨by simp,λi h=>.inr ⟨λj h=>by omega,?_⟩⟩ ?_ ?_
 ·rw[bI (by simpa using h)];simp
 ·rintro k s eF _ hk2 ⟨hl,hs⟩ hx;have hkr:=hr _ (pz hk2);have ek:im.getD k default=im[k]:=bI hk2;have go:∀s':List Int,s'.length=n->(∀i,i<n->s'.getD i default=if i=im[k].toNat then (if (k:Int)∈keep then 1 else 2) else s.getD i default)->Ok (eF s') (λy=>y=(List.range n).map (uC im keep)):=λs' h1 h2=>hx _ ⟨h1,λi h3=>by
   rw[h2 i h3];by_cases h4:i=im[k].toNat
   ·rw[if_pos h4];exact .inl ⟨k,by omega,hk2,by rw[ek];omega,rfl⟩
   ·rw[if_neg h4];rcases hs i h3 with ⟨j,a,b⟩|⟨a,b⟩
    ·exact .inl ⟨j,by omega,b⟩
    ·refine .inr ⟨λj h5 h6=>?_,b⟩;rcases Nat.lt_or_ge j k with h7|h7
     ·exact a j h7 h6
     ·have:j=k:=by omega
      subst this;rw[ek];omega⟩
  refine lX hk2 ?_;refine iQ hkr.1 (by omega) ?_;refine ok_eq (nK (by omega) _) ?_;refine bD (λh=>?_) (λh=>?_)
  ·have h:=bY h;refine iQ hkr.1 (by simp;omega) ?_;refine go _ (by simpa using hl) λi h3=>?_
   rw[acR (by simp;omega),acR (by omega),if_pos h];by_cases h4:i=im[k].toNat
   ·rw[if_pos h4,if_pos h4]
   ·rw[if_neg h4,if_neg h4,if_neg h4]
  ·have h:=dm h;refine go _ (by simpa using hl) λi h3=>?_
   rw[acR (by omega),if_neg h]
 ·rintro s ⟨hl,hs⟩;refine .mk (amJ (by simpa using hl) λi h=>?_);rw[agr _ (by omega)];unfold uC;rcases hs i (by omega) with ⟨j,_,b,c,e⟩|⟨a,b⟩
  ·have hm:(i:Int)∈im:=by rw[<-c];exact oP b
   rw[e];by_cases h1:(j:Int)∈keep
   ·rw[if_pos h1,if_neg,if_pos hm];intro h2;obtain⟨k,hk2,e2,h3⟩:=oQ.1 h2;exact h3 (agi hd hk2 b (by rw[e2,c]) ▸ h1)
   ·rw[if_neg h1,if_pos (oQ.2 ⟨j,b,c,h1⟩)]
  ·have hm:(i:Int) ∉ im:=λh2=>by obtain⟨j,hj,e⟩:=aaX h2;exact a j hj hj e
   rw[b,if_neg (λh2=>hm (amK h2)),if_neg hm]
end
section
variable{n:Nat}{mN dV oR eE:List Int}(hn:n<=1000)
include hn
theorem aeh:gM ((List.range n).map (uC mN dV)) ((List.range n).map (uC oR eE))=some (if oS n mN dV oR eE=true then (leftOf n mN dV oR eE,true) else ([],false)):=by
 refine Ok.eq ?_;unfold gM;have ql:((List.range n).map (uC mN dV)).length=n:=by simp
 have hl2:((List.range n).map (uC oR eE)).length=n:=by simp
 refine cr (bk (by omega)) ?_;rw[ql];refine fX (λk (s:List Int)=>s=((List.range k).filter λi=>!ct mN dV i && !ct oR eE i).map (λi:Nat=>(i:Int))/\∀i,i<k->(i:Int)∈mN->(i:Int)∈oR->ct mN dV i=ct oR eE i) (Nat.zero_le _) ⟨rfl,λi h=>by omega⟩ ?_ ?_
 ·rintro k s eF _ hk ⟨rfl,hs⟩ hx;have e1:((List.range n).map (uC mN dV))[k]? = some (uC mN dV k):=by simp[hk]
  have e2:((List.range n).map (uC oR eE))[k]? = some (uC oR eE k):=by simp[hk]
  have hlen:(((List.range k).filter λi=>!ct mN dV i && !ct oR eE i).map (λi:Nat=>(i:Int))).length<=k:=by rw[List.length_map];exact Nat.le_trans (List.length_filter_le _ _) (by simp)
  have app:∀b:Bool,(!ct mN dV k && !ct oR eE k)=b->((List.range (k+1)).filter λi=>!ct mN dV i && !ct oR eE i).map (λi:Nat=>(i:Int))=(((List.range k).filter λi=>!ct mN dV i && !ct oR eE i).map (λi:Nat=>(i:Int)))++(if b=true then [(k:Int)] else []):=λb hb=>by rw[List.range_succ,List.filter_append,List.map_append,aik];rw[hb];cases b<;>rfl
  have st:∀ {im keep:List Int},(uC im keep k=2/\ct im keep k=true/\(k:Int)∈im)\/(uC im keep k=1/\ct im keep k=false/\(k:Int)∈im)\/(uC im keep k=0/\ct im keep k=false/\(k:Int) ∉ im):=λ{im keep}=>by
   unfold uC;cases h:ct im keep k with
   |true=>exact .inl ⟨rfl,rfl,amK h⟩
   |false =>
    rw[if_neg (by simp)];by_cases h2:(k:Int)∈im
    ·exact .inr (.inl ⟨if_pos h2,rfl,h2⟩)
    ·exact .inr (.inr ⟨if_neg h2,rfl,h2⟩)
  have good:∀ (hg:(k:Int)∈mN->(k:Int)∈oR->ct mN dV k=ct oR eE k),∀i,i<k+1->(i:Int)∈mN->(i:Int)∈oR->ct mN dV i=ct oR eE i:=λhg i hi a b=>by
   rcases Nat.lt_or_ge i k with h|h
   ·exact hs i h a b
   ·have:i=k:=by omega
    subst this;exact hg a b
  have bad:(k:Int)∈mN->(k:Int)∈oR->ct mN dV k≠ct oR eE k->oS n mN dV oR eE=false:=λa b c=>by rw[Bool.eq_false_iff];exact λh=>c (w5.1 h k hk a b)
  refine ok_eq e1 ?_;rcases st (im:=mN) (keep:=dV) with ⟨s1,g1,m1⟩|⟨s1,g1,m1⟩|⟨s1,g1,m1⟩<;>rcases st (im:=oR) (keep:=eE) with ⟨s2,g2,m2⟩|⟨s2,g2,m2⟩|⟨s2,g2,m2⟩<;>rw[s1]
  ·refine sN rfl (ok_eq e2 ?_);rw[s2];refine sN rfl (sN rfl (abI rfl (hx _ ⟨?_,good λ_ _=>by rw[g1,g2]⟩)));rw[app false (by rw[g1];rfl)];simp
  ·refine sN rfl (ok_eq e2 ?_);rw[s2];refine sN rfl (abI rfl (.mk ?_));rw[bad m1 m2 (by rw[g1,g2];decide)];rfl
  ·refine sN rfl (ok_eq e2 ?_);rw[s2];refine abI rfl (abI rfl (hx _ ⟨?_,good λ_ h=>absurd h m2⟩));rw[app false (by rw[g1];rfl)];simp
  ·refine sN rfl (ok_eq e2 ?_);rw[s2];refine sN rfl (abI rfl (.mk ?_));rw[bad m1 m2 (by rw[g1,g2];decide)];rfl
  ·refine sN rfl (ok_eq e2 ?_);rw[s2];refine sN rfl (sN rfl (sN rfl (cr (by omega) (hx _ ⟨?_,good λ_ _=>by rw[g1,g2]⟩))));rw[app true (by rw[g1,g2];rfl)];simp
  ·refine sN rfl (ok_eq e2 ?_);rw[s2];refine abI rfl (sN rfl (cr (by omega) (hx _ ⟨?_,good λ_ h=>absurd h m2⟩)));rw[app true (by rw[g1,g2];rfl)];simp
  ·refine abI rfl (ok_eq e2 ?_);rw[s2];refine abI rfl (hx _ ⟨?_,good λh _=>absurd h m1⟩);rw[app false (by rw[g1,g2];rfl)];simp
  ·refine abI rfl (ok_eq e2 ?_);rw[s2];refine sN rfl (cr (by omega) (hx _ ⟨?_,good λh _=>absurd h m1⟩));rw[app true (by rw[g1,g2];rfl)];simp
  ·refine abI rfl (ok_eq e2 ?_);rw[s2];refine sN rfl (cr (by omega) (hx _ ⟨?_,good λh _=>absurd h m1⟩));rw[app true (by rw[g1,g2];rfl)];simp
 ·rintro s ⟨rfl,hs⟩;refine .mk ?_;rw[if_pos (w5.2 hs)];rfl
theorem aqb(h1:mN.length<=1000)(h2:oR.length<=1000):fo mN oR ((List.range n).map (ct mN dV)) ((List.range n).map (ct oR eE))=some (oS n mN dV oR eE):=by
 unfold fo;have ql:((List.range n).map (ct mN dV)).length=n:=by simp
 rw[ql,dA (bk (by omega))];rw[nC (λi:Nat=>!(decide ((i:Int)∈mN)&&decide ((i:Int)∈oR))||(ct mN dV i == ct oR eE i)) (λ_=>some false) (λi hi eF=>by
  have e1:((List.range n).map (ct mN dV))[i]? = some (ct mN dV i):=by simp[hi]
  have e2:((List.range n).map (ct oR eE))[i]? = some (ct oR eE i):=by simp[hi]
  rw[aD (acQ (by omega) _),aD (acQ (by omega) _),aD e1,aD e2];cases decide ((i:Int)∈mN)<;>cases decide ((i:Int)∈oR)<;>simp),iw]
 unfold oS;cases (List.range n).all _<;>rfl
theorem aaN:cU ((List.range n).map (ct mN dV)) ((List.range n).map (ct oR eE))=some (leftOf n mN dV oR eE):=by
 refine Ok.eq ?_;unfold cU;have ql:((List.range n).map (ct mN dV)).length=n:=by simp
 rw[ql];refine cr (bk (by omega)) ?_;refine fX (λk (s:List Int)=>s=((List.range k).filter λi=>!ct mN dV i && !ct oR eE i).map (λi:Nat=>(i:Int))) (Nat.zero_le _) rfl ?_ (λs h=>.mk h);rintro k s eF _ hk rfl hx;have e1:((List.range n).map (ct mN dV))[k]? = some (ct mN dV k):=by simp[hk]
 have e2:((List.range n).map (ct oR eE))[k]? = some (ct oR eE k):=by simp[hk]
 have hlen:(((List.range k).filter λi=>!ct mN dV i && !ct oR eE i).map (λi:Nat=>(i:Int))).length<=k:=by rw[List.length_map];exact Nat.le_trans (List.length_filter_le _ _) (by simp)
 refine ok_eq e1 ?_;cases g1:ct mN dV k with
 |true=>refine sN rfl (hx _ ?_);rw[List.range_succ,List.filter_append,List.map_append,aik];simp[g1]
 |false =>
  refine abI rfl (ok_eq e2 ?_);cases g2:ct oR eE k with
  |true=>refine sN rfl (hx _ ?_);rw[List.range_succ,List.filter_append,List.map_append,aik];simp[g1,g2]
  |false=>refine abI rfl (cr (by omega) (hx _ ?_));rw[List.range_succ,List.filter_append,List.map_append,aik];simp[g1,g2]
end
theorem ail(into:List Int)(i:Nat):aaY into (i+1)=aaY into i+if (i:Int)∈into then 0 else 1:=by
 unfold aaY;rw[List.range_succ,List.filter_append,List.length_append,aik];by_cases h:(i:Int)∈into
 ·simp[h]
 ·simp[h]
theorem acU(into:List Int)(i:Nat):aaY into i<=i:=by unfold aaY;exact Nat.le_trans (List.length_filter_le _ _) (by simp)
def rP{α:Type}(f:Nat->α)(into:List Int)(i:Nat):List α:=((List.range i).filter λj:Nat=>!decide ((j:Int)∈into)).map f
theorem xd{α:Type}(f:Nat->α)(into:List Int)(i:Nat):(rP f into i).length=aaY into i:=by simp[rP,aaY]
theorem nL{α:Type}(f:Nat->α)(into:List Int)(i:Nat):rP f into (i+1)=rP f into i++if (i:Int)∈into then [] else [f i]:=by
 unfold rP;rw[List.range_succ,List.filter_append,List.map_append,aik];by_cases h:(i:Int)∈into
 ·simp[h]
 ·simp[h]
theorem ags{α:Type}(f:Int->α)(into:List Int)(n:Nat):rP (λj:Nat=>f (j:Int)) into n=(mG n into).map f:=by unfold rP mG;rw[List.map_map];rfl
theorem lS{α:Type}(f:Nat->α)(i:Nat):(List.range (i+1)).map f=(List.range i).map f++[f i]:=by rw[List.range_succ,List.map_append];rfl
section
variable{g x:au}{r:aF}{m:ah}{K:aO}
theorem agt(hs:apg r x m K){i:Nat}(h:(i:Int)∈r.into.nodes):∃ (h1:(sX r.into.nodes i).toNat<r.keep.nodes.length) (h2:(r.keep.nodes[(sX r.into.nodes i).toNat]).toNat<m.nodes.length),0<=sX r.into.nodes i/\0<=r.keep.nodes[(sX r.into.nodes i).toNat]/\qT g r m K i=sX K.nodes (m.nodes[(r.keep.nodes[(sX r.into.nodes i).toNat]).toNat]):=by
 obtain⟨h1,h2⟩:=acM h;have n1:r.into.nodes.length=r.keep.nodes.length:=by have:=hs.mor.adJ;simpa[dW] using this
 have hlt:(sX r.into.nodes i).toNat<r.keep.nodes.length:=by omega
 have hk:=hs.part.nodes.range _ (pz hlt);have n2:=hs.lft.adJ;refine⟨hlt,by omega,h1.1,hk.1,?_⟩;unfold qT;rw[if_pos h,bI hlt,bI (show (r.keep.nodes[(sX r.into.nodes i).toNat]).toNat<m.nodes.length by omega)]
theorem aim{i:Nat}(h:(i:Int) ∉ r.into.nodes):qT g r m K i=(g.nodes.length:Int)+(aaY r.into.nodes i:Nat):=by unfold qT;rw[if_neg h]
theorem agu:(jm g r m K).nodes=g.nodes++rP (λj:Nat=>r.right.graph.nodes.getD j default) r.into.nodes r.right.graph.nodes.length:=by unfold jm kj;dsimp only;rw[<-ags];rfl
theorem agv:(jm g r m K).ag=g.ag++rP (λj:Nat=>amy g r m K (j:Int)) r.into.ag r.right.graph.ag.length:=by unfold jm lP;dsimp only;rw[<-ags]
variable(hs:apg r x m K)(hn:g.nodes.length<=1000)(he:g.ag.length<=1000)(hr:acB r)(hK:K.nodes.length<=1000)
include hs hn he hr hK
theorem azQ:gn g r m K=some ((jm g r m K).nodes,(jm g r m K).ag):=by
 have i1:=hr.into;have r1:=hr.right.graph.nodes;have r2:=hr.right.graph.ag;rw[agu,agv];refine Ok.eq ?_;unfold gn;refine cr (bk (by omega)) ?_;refine fX (λi (s:List Int×List Int)=>s.1=(List.range i).map (qT g r m K)/\s.2=g.nodes++rP (λj:Nat=>r.right.graph.nodes.getD j default) r.into.nodes i) (Nat.zero_le _) ⟨rfl,by simp[rP]⟩ ?_ ?_
 ·rintro i ⟨s1,s2⟩ eF _ hi ⟨h1,h2⟩ hx;dsimp only at h1 h2;subst h1 h2;have hc:=acU r.into.nodes i;refine lX hi ?_;refine ok_eq (aii (by omega) _) ?_;refine bD (λh=>?_) (λh=>?_)
  ·rw[aeL] at h;have h:=bY h;obtain⟨a1,a2,a3,a4,a5⟩:=agt (g:=g) hs h;refine iQ a3 a1 (iQ a4 a2 ?_);refine ok_eq (aii (by omega) _) ?_;refine cr (by simp;omega) (hx _ ⟨?_,?_⟩)
   ·dsimp only;rw[lS,a5]
   ·dsimp only;rw[nL,if_pos h,List.append_nil]
  ·rw[aeL] at h;have h:=dm h;refine cr (by simp;omega) (cr (by rw[List.length_append,xd];omega) (hx _ ⟨?_,?_⟩))
   ·dsimp only;rw[lS,aim h,List.length_append,xd];simp
   ·dsimp only;rw[nL,if_neg h,List.append_assoc,bI hi]
 ·rintro⟨s1,s2⟩ ⟨h1,h2⟩;dsimp only at h1 h2;subst h1 h2;refine cr (bk (by omega)) ?_;refine fX (λi (s:List Edge)=>s=g.ag++rP (λj:Nat=>amy g r m K (j:Int)) r.into.ag i) (Nat.zero_le _) (by simp[rP]) ?_ ?_
  ·rintro i s eF _ hi rfl hx;have hc:=acU r.into.ag i;have hr3:=(hs.rok.oK i hi).2;rw[bI hi] at hr3;refine lX hi ?_;refine ok_eq (nK (by omega) _) ?_;refine bD (λh=>?_) (λh=>?_)
   ·have h:=bY h;exact hx _ (by rw[nL,if_pos h,List.append_nil])
   ·have h:=dm h;refine iQ hr3.1.1 (by simp;omega) (iQ hr3.2.1 (by simp;omega) ?_);refine cr (by rw[List.length_append,xd];omega) (hx _ ?_);rw[nL,if_neg h,List.append_assoc];unfold amy;simp only[List.getElem_map,List.getElem_range,Int.toNat_natCast,bI hi]
  ·rintro s rfl;exact .mk rfl
theorem apo:fC (r.right.graph.nodes.length:Nat) m.nodes K.nodes r.keep.nodes r.into.nodes (g.nodes.length:Nat)=some ((List.range r.right.graph.nodes.length).map (qT g r m K)):=by
 have _q:=he;have i1:=hr.into;have r1:=hr.right.graph.nodes;refine Ok.eq ?_;unfold fC;rw[Int.toNat_natCast];refine cr (bk (by omega)) ?_;refine fX (λi (s:Int×List Int)=>s.1=(g.nodes.length:Int)+(aaY r.into.nodes i:Nat)/\s.2=(List.range i).map (qT g r m K)) (Nat.zero_le _) ⟨by simp[aaY],rfl⟩ ?_ ?_
 ·rintro i ⟨s1,s2⟩ eF _ hi ⟨h1,h2⟩ hx;dsimp only at h1 h2;subst h1 h2;have hc:=acU r.into.nodes i;refine ok_eq (xb (by omega) _) ?_;have e:decide (sX r.into.nodes (i:Int)<0) = !decide ((i:Int)∈r.into.nodes):=by rw[<-aeL,<-decide_not];exact decide_eq_decide.2 (by omega)
  rw[e];refine bD (λh=>?_) (λh=>?_)
  ·have h:(i:Int) ∉ r.into.nodes:=by simpa using h
   refine cr (by simp;omega) (hx _ ⟨?_,?_⟩)
   ·dsimp only;rw[gm (by omega),ail,if_neg h];omega
   ·dsimp only;rw[lS,aim h]
  ·have h:(i:Int)∈r.into.nodes:=by simpa using h
   obtain⟨a1,a2,a3,a4,a5⟩:=agt (g:=g) hs h;refine iQ a3 a1 (iQ a4 a2 ?_);refine ok_eq (xb (by omega) _) ?_;refine cr (by simp;omega) (hx _ ⟨?_,?_⟩)
   ·dsimp only;rw[ail,if_pos h];simp
   ·dsimp only;rw[lS,a5]
 ·rintro⟨s1,s2⟩ ⟨_,h2⟩;dsimp only at h2;subst h2;exact .mk rfl
theorem aqc:bG g r m K=some (jm g r m K):=by
 have i1:=hr.into;have r1:=hr.right.graph.nodes;have r2:=hr.right.graph.ag;have e0:jm g r m K=⟨(jm g r m K).nodes,(jm g r m K).ag⟩:=rfl;rw[e0,agu,agv];refine Ok.eq ?_;unfold bG;refine ok_eq (show bV g=some g by unfold bV;rw[dA (by omega),dA (by omega)]) ?_;refine ok_eq (apo hs hn he hr hK) ?_;refine cr (bk (by omega)) ?_;refine fX (λi (s:List Int)=>s=g.nodes++rP (λj:Nat=>r.right.graph.nodes.getD j default) r.into.nodes i) (Nat.zero_le _) (by simp[rP]) ?_ ?_
 ·rintro i s eF _ hi rfl hx;have hc:=acU r.into.nodes i;refine ok_eq (acQ (by omega) _) ?_;refine bD (λh=>?_) (λh=>?_)
  ·have h:=bY h;exact hx _ (by rw[nL,if_pos h,List.append_nil])
  ·have h:=dm h;refine lX hi (cr (by rw[List.length_append,xd];omega) (hx _ ?_));rw[nL,if_neg h,List.append_assoc,bI hi]
 ·rintro s rfl;refine cr (bk (by omega)) ?_;refine fX (λi (s:List Edge)=>s=g.ag++rP (λj:Nat=>amy g r m K (j:Int)) r.into.ag i) (Nat.zero_le _) (by simp[rP]) ?_ ?_
  ·rintro i s eF _ hi rfl hx;have hc:=acU r.into.ag i;have hr3:=(hs.rok.oK i hi).2;rw[bI hi] at hr3;refine lX hi ?_;refine ok_eq (acQ (by omega) _) ?_;refine bD (λh=>?_) (λh=>?_)
   ·have h:=bY h;exact hx _ (by rw[nL,if_pos h,List.append_nil])
   ·have h:=dm h;refine iQ hr3.1.1 (by simp;omega) (iQ hr3.2.1 (by simp;omega) ?_);refine cr (by rw[List.length_append,xd];omega) (hx _ ?_);rw[nL,if_neg h,List.append_assoc];unfold amy;simp only[List.getElem_map,List.getElem_range,Int.toNat_natCast,bI hi]
  ·rintro s rfl;exact .mk rfl
end
noncomputable def mE(a b:au)(m:ah):Int:=(aY a b m).getD 0
theorem ajX{a b:au}(ha:rD a)(hb:rD b)(m:ah):b7 a b m=some (mE a b m)/\aY a b m=some (mE a b m)/\(mE a b m=0↔cL a=0/\cL b=0/\vT a b m):=by
 obtain⟨e,h1,h2⟩:=ajJ ha hb (m:=m);have h3:=h1;rw[aaj] at h3;have:mE a b m=e:=by unfold mE;rw[h3];rfl
 rw[this];exact⟨h1,h3,h2⟩
def aeA(m:ah):Bool:=decide m.nodes.Nodup&&decide m.ag.Nodup
def aat(o:cM):Bool:=yx o.graph.nodes.length o.left.nodes o.right.nodes&&yx o.graph.ag.length o.left.ag o.right.ag
def aqd(a b:aF)(o:cM):Bool:=oS o.graph.nodes.length o.left.nodes a.keep.nodes o.right.nodes b.keep.nodes&&oS o.graph.ag.length o.left.ag a.keep.ag o.right.ag b.keep.ag
def lY(a b:aF)(o:cM):au:=qc a b o.graph o.left o.right
noncomputable def oH(t:Types)(a b:aF)(o:cM):aF×Int :=
 if qd t a b=0 then
  if mE a.left.graph o.graph o.left=0 then
   if mE b.left.graph o.graph o.right=0 then
    if (aeA o.left&&(aeA o.right&&aat o))=true then
     if aqd a b o=true then
      if (lY a b o).nodes.length<=40/\(lY a b o).ag.length<=80 then (aef a b o.graph o.left o.right,0) else (adL,3)
     else (adL,11)
    else (adL,1)
   else (adL,mE b.left.graph o.graph o.right)
  else (adL,mE a.left.graph o.graph o.left)
 else (adL,qd t a b)
structure azm(o:cM):Prop where
 graph:rD o.graph
 left:o.left.nodes.length+o.left.ag.length<=150
 right:o.right.nodes.length+o.right.ag.length<=150
structure AmP(t:Types)(a b:aF)(o:cM):Prop where
 pa:mH t a
 pb:mH t b
 ok:abi a b o.graph o.left o.right
section
variable{a b:aF}{o:cM}
theorem azn{g h:au}(ho:azm o)(hl:aY g o.graph o.left=some 0)(hr:aY h o.graph o.right=some 0):lJ g h o.graph o.left o.right=some (aat o)/\fS g h o.graph o.left o.right=some (aat o):=by
 have h1:=ho.graph.nodes;have h2:=ho.graph.ag;have h3:=ho.left;have h4:=ho.right;unfold lJ fS aat;rw[aD (show b7 g o.graph o.left=some 0 by rw[aaj];exact hl),aD (show b7 h o.graph o.right=some 0 by rw[aaj];exact hr),aD hl,aD hr,c7 rfl,cond_true,cond_true,cond_true,cond_true];rw[aD (aij (by omega) (by omega) (by omega)),aD (amI (by omega) (by omega) (by omega))];cases yx o.graph.nodes.length o.left.nodes o.right.nodes with
 |false=>exact⟨rfl,rfl⟩
 |true=>rw[cond_true,cond_true,aD (aij (by omega) (by omega) (by omega)),aD (amI (by omega) (by omega) (by omega))];exact⟨rfl,rfl⟩
end
section
variable{t:Types}{a b:aF}{o:cM}(h:AmP t a b o)(ha:oN a)(hb:oN b)(ho:azm o)
include h ha hb ho
theorem qW:(aX a b o.graph o.left o.right).nodes.length<=45/\(aX a b o.graph o.left o.right).ag.length<=90:=by have _q:=ha;have _q:=hb;have hp:=aaJ h.pa.ym h.pb.ym h.pa.part h.pb.part h.ok;have a1:=jy hp.nodes;have a2:=jy hp.ag;have h1:=ho.graph.nodes;have h2:=ho.graph.ag;omega
theorem atc:dQ o.graph (aX a b o.graph o.left o.right)=some (dW o.graph (aX a b o.graph o.left o.right),⟨(aX a b o.graph o.left o.right).nodes,(aX a b o.graph o.left o.right).ag⟩,0):=by
 obtain⟨k1,k2⟩:=qW h ha hb ho;have hp:=aaJ h.pa.ym h.pb.ym h.pa.part h.pb.part h.ok;have p1:(aX a b o.graph o.left o.right).nodes.length<=1000:=by omega
 have p2:(aX a b o.graph o.left o.right).ag.length<=1000:=by omega
 obtain⟨e,e1,e2,_⟩:=yl ho.graph (p:=aX a b o.graph o.left o.right) ⟨p1,p2⟩;have e0:b8 o.graph (aX a b o.graph o.left o.right)=some 0:=by unfold b8;rw[aD (iy ho.graph),nW h.ok.xok,c7 rfl,cond_true,aD (show cx ⟨o.graph.nodes,o.graph.ag⟩ ⟨(aX a b o.graph o.left o.right).nodes,(aX a b o.graph o.left o.right).ag⟩=_ from ago ⟨p1,p2⟩ hp)]
 rw[e0] at e2;cases e2;exact awY hp ⟨by omega,by omega⟩ e1
theorem agw:(dW o.graph (aX a b o.graph o.left o.right)).nodes.length<=45/\(dW o.graph (aX a b o.graph o.left o.right)).ag.length<=90/\(jm (dW o.graph (aX a b o.graph o.left o.right)) a o.left (aX a b o.graph o.left o.right)).nodes.length<=90/\(jm (dW o.graph (aX a b o.graph o.left o.right)) a o.left (aX a b o.graph o.left o.right)).ag.length<=180/\(lY a b o).nodes.length<=135/\(lY a b o).ag.length<=270:=by
 obtain⟨k1,k2⟩:=qW h ha hb ho;have a1:=ha.base.right.graph.nodes;have a2:=ha.base.right.graph.ag;have b1:=hb.base.right.graph.nodes;have b2:=hb.base.right.graph.ag;have c1:=mM a.right.graph.nodes.length a.into.nodes;have c2:=mM a.right.graph.ag.length a.into.ag;have d1:=mM b.right.graph.nodes.length b.into.nodes;have d2:=mM b.right.graph.ag.length b.into.ag;have e1:(dW o.graph (aX a b o.graph o.left o.right)).nodes.length=(aX a b o.graph o.left o.right).nodes.length:=by simp[dW]
 have e2:(dW o.graph (aX a b o.graph o.left o.right)).ag.length=(aX a b o.graph o.left o.right).ag.length:=by simp[dW]
 have q1:=pq (g:=dW o.graph (aX a b o.graph o.left o.right)) (r:=a) (m:=o.left) (K:=aX a b o.graph o.left o.right);have q2:=w6 (g:=dW o.graph (aX a b o.graph o.left o.right)) (r:=a) (m:=o.left) (K:=aX a b o.graph o.left o.right);have q3:=pq (g:=jm (dW o.graph (aX a b o.graph o.left o.right)) a o.left (aX a b o.graph o.left o.right)) (r:=b) (m:=o.right) (K:=aX a b o.graph o.left o.right);have q4:=w6 (g:=jm (dW o.graph (aX a b o.graph o.left o.right)) a o.left (aX a b o.graph o.left o.right)) (r:=b) (m:=o.right) (K:=aX a b o.graph o.left o.right);unfold kj at q1 q3;unfold lP at q2 q4;unfold lY qc;omega
theorem axm:gn (dW o.graph (aX a b o.graph o.left o.right)) a o.left (aX a b o.graph o.left o.right)=some ((jm (dW o.graph (aX a b o.graph o.left o.right)) a o.left (aX a b o.graph o.left o.right)).nodes,(jm (dW o.graph (aX a b o.graph o.left o.right)) a o.left (aX a b o.graph o.left o.right)).ag)
  /\ gn (jm (dW o.graph (aX a b o.graph o.left o.right)) a o.left (aX a b o.graph o.left o.right)) b o.right (aX a b o.graph o.left o.right)=some ((lY a b o).nodes,(lY a b o).ag):=by
 obtain⟨k1,k2⟩:=qW h ha hb ho;obtain⟨l1,l2,l3,l4,_,_⟩:=agw h ha hb ho;exact⟨azQ (ajN h.pa h.ok) (by omega) (by omega) ha.base (by omega),azQ (aph h.pb h.ok) (by omega) (by omega) hb.base (by omega)⟩
theorem axn:bG (dW o.graph (aX a b o.graph o.left o.right)) a o.left (aX a b o.graph o.left o.right)=some (jm (dW o.graph (aX a b o.graph o.left o.right)) a o.left (aX a b o.graph o.left o.right))
  /\ bG (jm (dW o.graph (aX a b o.graph o.left o.right)) a o.left (aX a b o.graph o.left o.right)) b o.right (aX a b o.graph o.left o.right)=some (lY a b o):=by
 obtain⟨k1,k2⟩:=qW h ha hb ho;obtain⟨l1,l2,l3,l4,_,_⟩:=agw h ha hb ho;exact⟨aqc (ajN h.pa h.ok) (by omega) (by omega) ha.base (by omega),aqc (aph h.pb h.ok) (by omega) (by omega) hb.base (by omega)⟩
theorem atd{O:Type}{Kt:List Int×List Edge->Option O} : (thn (gn (dW o.graph (aX a b o.graph o.left o.right)) a o.left (aX a b o.graph o.left o.right)) λr=>thn (gn ⟨r.1,r.2⟩ b o.right (aX a b o.graph o.left o.right)) λr2=>Kt r2)=Kt ((lY a b o).nodes,(lY a b o).ag):=by obtain⟨d1,d2⟩:=axm h ha hb ho;rw[aD d1];exact aD d2
theorem apq:bM (lY a b o)=some (cL (lY a b o))/\(cL (lY a b o)=0↔(lY a b o).nodes.length<=40/\(lY a b o).ag.length<=80):=by
 obtain⟨l1,l2,l3,l4,l5,l6⟩:=agw h ha hb ho;refine⟨qt ⟨by omega,by omega⟩,λhv=>?_,λhl=>?_⟩
 ·have:=okG hv;exact⟨this.nodes,this.ag⟩
 ·have hr:=aic h.pa h.pb h.ok hl.1 hl.2;exact nW hr.rok
theorem amL:jl (aX a b o.graph o.left o.right)=some ⟨lR (aX a b o.graph o.left o.right).nodes.length,lR (aX a b o.graph o.left o.right).ag.length⟩:=by
 obtain⟨k1,k2⟩:=qW h ha hb ho;refine Ok.eq ?_;unfold jl;refine cr (bk (by omega)) ?_;refine fX (λi (s:List Int)=>s=lR i) (Nat.zero_le _) rfl (λi s eF _ hi hs hx=>?_) λs hs=>?_
 ·subst hs;refine cr (by rw[aaK];omega) (hx _ ?_);unfold lR;rw[lS]
 subst hs;refine cr (bk (by omega)) ?_;refine fX (λi (s:List Int)=>s=lR i) (Nat.zero_le _) rfl (λi s eF _ hi hs hx=>?_) λs hs=>?_
 ·subst hs;refine cr (by rw[aaK];omega) (hx _ ?_);unfold lR;rw[lS]
 ·subst hs;exact .mk rfl
theorem ain{O:Type}{Kt:au->Option O} :
  (cA ((aX a b o.graph o.left o.right).nodes.length<=fuel) <| bH (λi (s:List Int) eF brk=>thn ((aX a b o.graph o.left o.right).nodes[i]?) λe=>thn (jd o.graph.nodes e) λe2=>cA (s.length+1<=68719476736) <| eF (s++[e2])) ((aX a b o.graph o.left o.right).nodes.length-0) 0 ([]:List Int) λs =>
   cA ((aX a b o.graph o.left o.right).ag.length<=fuel) <| bH (λi (s:List Edge) eF brk=>thn ((aX a b o.graph o.left o.right).ag[i]?) λe=>thn (jd o.graph.ag e) λe2=>thn (bN (aX a b o.graph o.left o.right).nodes e2.src) λr=>thn (bN (aX a b o.graph o.left o.right).nodes e2.dst) λr2=>cA (s.length+1<=68719476736) <| eF (s++[(⟨e2.type,r,r2⟩:Edge)])) ((aX a b o.graph o.left o.right).ag.length-0) 0 ([]:List Edge) λs2 =>
   thn (bG ⟨s,s2⟩ a o.left ⟨(aX a b o.graph o.left o.right).nodes,(aX a b o.graph o.left o.right).ag⟩) λg1=>thn (bG g1 b o.right ⟨(aX a b o.graph o.left o.right).nodes,(aX a b o.graph o.left o.right).ag⟩) λg2=>Kt g2)=Kt (lY a b o):=by
 obtain⟨k1,k2⟩:=qW h ha hb ho;have hp:=aaJ h.pa.ym h.pb.ym h.pa.part h.pb.part h.ok;obtain⟨d1,d2⟩:=axn h ha hb ho;rw[dA (bk (by omega))];rw[(wT (aX a b o.graph o.left o.right).nodes (λs e=>s++[o.graph.nodes.getD e.toNat default]) (λi s=>s.length=i) rfl (λi hi s hs=>⟨λeF=>by
  rw[eS hi,aD (ay9 (hp.nodes.range _ (pz hi))),dA (by omega)],by simp[hs]⟩)).1,yd,List.nil_append]
 rw[dA (bk (by omega))];rw[(wT (aX a b o.graph o.left o.right).ag (λs e=>s++[(⟨(o.graph.ag.getD e.toNat default).type,kZ (aX a b o.graph o.left o.right).nodes (o.graph.ag.getD e.toNat default).src,kZ (aX a b o.graph o.left o.right).nodes (o.graph.ag.getD e.toNat default).dst⟩:Edge)]) (λi s=>s.length=i) rfl (λi hi s hs=>⟨λeF=>by
  have he:=hp.ends _ (pz hi);rw[eS hi,aD (aza (hp.ag.range _ (pz hi))),aD (xb (by omega) _),aD (xb (by omega) _),dA (by omega),amx hp.nodes.asc he.1,amx hp.nodes.asc he.2],by simp[hs]⟩)).1,yd,List.nil_append]
 rw[aD (show bG ⟨_,_⟩ a o.left ⟨(aX a b o.graph o.left o.right).nodes,(aX a b o.graph o.left o.right).ag⟩=_ from d1),aD (show bG _ b o.right ⟨(aX a b o.graph o.left o.right).nodes,(aX a b o.graph o.left o.right).ag⟩=_ from d2)]
end
section
variable{t:Types}(ht:jB t){a b:aF}(ha:oN a)(hb:oN b){o:cM}(ho:azm o)
include ht ha hb ho
theorem ajY:gh t a b o=some (oH t a b o)/\dK t a b o=some (oH t a b o):=by
 unfold gh dK oH;rw[aD (amE ht ha hb),aD (amF ht ha hb),aP (p:=qd t a b=0),aP (p:=qd t a b=0)];by_cases h1:¬ (qd t a b=0)
 ·rw[if_neg h1,if_neg h1,if_neg h1];exact⟨rfl,rfl⟩
 have h1:=Decidable.of_not_not h1;obtain⟨pa,pb,_,_⟩:=aap ht ha hb h1;obtain⟨m1,m2,m3⟩:=ajX ha.base.left.graph ho.graph o.left;obtain⟨n1,n2,n3⟩:=ajX hb.base.left.graph ho.graph o.right;rw[if_pos h1,if_pos h1,if_pos h1,aD m1,aD m2,aP (p:=mE a.left.graph o.graph o.left=0),aP (p:=mE a.left.graph o.graph o.left=0)];by_cases h2:¬ (mE a.left.graph o.graph o.left=0)
 ·rw[if_neg h2,if_neg h2,if_neg h2];exact⟨rfl,rfl⟩
 have h2:=Decidable.of_not_not h2;rw[if_pos h2,if_pos h2,if_pos h2,aD n1,aD n2,aP (p:=mE b.left.graph o.graph o.right=0),aP (p:=mE b.left.graph o.graph o.right=0)];by_cases h3:¬ (mE b.left.graph o.graph o.right=0)
 ·rw[if_neg h3,if_neg h3,if_neg h3];exact⟨rfl,rfl⟩
 have h3:=Decidable.of_not_not h3;rw[h2] at m2;rw[h3] at n2;have o1:=ho.left;have o2:=ho.right;have g1:=ho.graph.nodes;have g2:=ho.graph.ag;obtain⟨i1,i2⟩:=acE ha.base.left.graph ho.graph (m:=o.left) ⟨by omega,by omega⟩ m2;obtain⟨j1,j2⟩:=acE hb.base.left.graph ho.graph (m:=o.right) ⟨by omega,by omega⟩ n2;obtain⟨c1,c2⟩:=azn ho m2 n2;rw[if_pos h3,if_pos h3,if_pos h3,aD (show c8 a.left.graph o.graph o.left=some (aeA o.left) from i1),aD (show b9 a.left.graph o.graph o.left=some (aeA o.left) from i2)];cases hi:aeA o.left with
 |false=>exact⟨rfl,rfl⟩
 |true =>
 rw[cond_true,cond_true,aD (show c8 b.left.graph o.graph o.right=some (aeA o.right) from j1),aD (show b9 b.left.graph o.graph o.right=some (aeA o.right) from j2)];cases hj:aeA o.right with
 |false=>exact⟨rfl,rfl⟩
 |true =>
 rw[cond_true,cond_true,aD c1,aD c2];cases hc:aat o with
 |false=>exact⟨rfl,rfl⟩
 |true =>
 obtain⟨_,vx,ml⟩:=m3.1 h2;obtain⟨_,_,mr⟩:=n3.1 h3;have gx:=okG vx;unfold aeA at hi hj;unfold aat at hc;rw[Bool.and_eq_true,decide_eq_true_eq,decide_eq_true_eq] at hi hj;rw[Bool.and_eq_true] at hc;have ka:=ha.base.keep;have kb:=hb.base.keep;rw[cond_true,cond_true,if_pos (show (true&&(true&&true))=true from rfl)];rw[aD (acT (by omega) (by omega) (by omega) ml.qS hi.1),aD (acT (by omega) (by omega) (by omega) mr.qS hj.1),aD (aeh (by omega)),aD (acT (by omega) (by omega) (by omega) ml.vU hi.2),aD (acT (by omega) (by omega) (by omega) mr.vU hj.2),aD (aeh (by omega))];rw[aD (acS (by omega) (by omega) (by omega) ml.qS),aD (acS (by omega) (by omega) (by omega) mr.qS),aD (acS (by omega) (by omega) (by omega) ml.vU),aD (acS (by omega) (by omega) (by omega) mr.vU),aD (aqb (by omega) (by omega) (by omega))];unfold aqd;cases hn:oS o.graph.nodes.length o.left.nodes a.keep.nodes o.right.nodes b.keep.nodes with
 |false=>exact⟨rfl,rfl⟩
 |true =>
 rw[if_pos rfl,cond_true,cond_true,aD (aqb (by omega) (by omega) (by omega))];cases he:oS o.graph.ag.length o.left.ag a.keep.ag o.right.ag b.keep.ag with
 |false=>exact⟨rfl,rfl⟩
 |true =>
 have hA:AmP t a b o:=⟨pa,pb,⟨gx,ml,mr,hi.1,hi.2,hj.1,hj.2,aaM.1 hc.1,aaM.1 hc.2,hn,he⟩⟩;obtain⟨k1,k2⟩:=qW hA ha hb ho;obtain⟨d1,d2⟩:=axm hA ha hb ho;obtain⟨v1,v2⟩:=apq hA ha hb ho;rw[if_pos rfl,cond_true,cond_true,if_pos (show (true&&true)=true from rfl)];constructor
 ·rw[aD (show dQ o.graph ⟨leftOf o.graph.nodes.length o.left.nodes a.keep.nodes o.right.nodes b.keep.nodes,leftOf o.graph.ag.length o.left.ag a.keep.ag o.right.ag b.keep.ag⟩=_ from atc hA ha hb ho)];show cond (decide ((0:Int)=0)) _ _=_;rw[c7 rfl,cond_true];refine (atd hA ha hb ho).trans ?_;rw[aD (ajV _ _),aP];by_cases h9:40<(lY a b o).nodes.length\/80<(lY a b o).ag.length
  ·rw[if_pos h9,if_neg (by omega)];rfl
  rw[if_neg h9,if_pos (by omega),aD (ajI (by omega)),aD (acO (by omega))];refine (aD (amL hA ha hb ho)).trans ?_;unfold aef;cases a.injective<;>rfl
 ·rw[aD (show bV o.graph=some o.graph by unfold bV;rw[dA (by omega),dA (by omega)])];have fin:∀x:Bool,thn (bM (lY a b o)) (λr=>cond (decide (r=0)) (some ((⟨a.name,⟨o.graph,[],0,[]⟩,⟨lY a b o,[],0,[]⟩,aX a b o.graph o.left o.right,⟨lR (aX a b o.graph o.left o.right).nodes.length,lR (aX a b o.graph o.left o.right).ag.length⟩,x,aao⟩:aF),(0:Int))) (some (adL,3)))=some (if (lY a b o).nodes.length<=40/\(lY a b o).ag.length<=80 then (⟨a.name,⟨o.graph,[],0,[]⟩,⟨lY a b o,[],0,[]⟩,aX a b o.graph o.left o.right,⟨lR (aX a b o.graph o.left o.right).nodes.length,lR (aX a b o.graph o.left o.right).ag.length⟩,x,aao⟩,0) else (adL,3)):=λx=>by
   rw[aD v1,aP];by_cases h9:cL (lY a b o)=0
   ·rw[if_pos h9,if_pos (v2.1 h9)]
   ·rw[if_neg h9,if_neg (λh=>h9 (v2.2 h))]
  have nN:br 0 (((leftOf o.graph.nodes.length o.left.nodes a.keep.nodes o.right.nodes b.keep.nodes).length:Nat):Int)=some (lR (aX a b o.graph o.left o.right).nodes.length):=by have q:=qV 0 (aX a b o.graph o.left o.right).nodes.length (by omega) (by omega);rw[aeg] at q;exact q
  have nE:br 0 (((leftOf o.graph.ag.length o.left.ag a.keep.ag o.right.ag b.keep.ag).length:Nat):Int)=some (lR (aX a b o.graph o.left o.right).ag.length):=by have q:=qV 0 (aX a b o.graph o.left o.right).ag.length (by omega) (by omega);rw[aeg] at q;exact q
  cases hq:a.injective with
  |true=>rw[cond_true,aD (aaN (by omega)),aD (aaN (by omega)),aD nN,aD nE];refine (ain hA ha hb ho).trans ((fin b.injective).trans ?_);unfold aef;rw[hq];rfl
  |false=>rw[cond_false,aD (aaN (by omega)),aD (aaN (by omega)),aD nN,aD nE];refine (ain hA ha hb ho).trans ((fin false).trans ?_);unfold aef;rw[hq];rfl
theorem azo(h:(oH t a b o).2=0):mH t (oH t a b o).1/\(oH t a b o).1=aef a b o.graph o.left o.right:=by
 unfold oH at h ⊢;by_cases h1:¬ (qd t a b=0)
 ·rw[if_neg h1] at h;exact absurd h h1
 have h1:=Decidable.of_not_not h1;obtain⟨pa,pb,_,_⟩:=aap ht ha hb h1;rw[if_pos h1] at h ⊢;by_cases h2:¬ (mE a.left.graph o.graph o.left=0)
 ·rw[if_neg h2] at h;exact absurd h h2
 have h2:=Decidable.of_not_not h2;rw[if_pos h2] at h ⊢;by_cases h3:¬ (mE b.left.graph o.graph o.right=0)
 ·rw[if_neg h3] at h;exact absurd h h3
 have h3:=Decidable.of_not_not h3;rw[if_pos h3] at h ⊢;by_cases h4:¬ ((aeA o.left&&(aeA o.right&&aat o))=true)
 ·rw[if_neg h4] at h;cases h
 have h4:=Decidable.of_not_not h4;rw[if_pos h4] at h ⊢;by_cases h5:¬ (aqd a b o=true)
 ·rw[if_neg h5] at h;cases h
 have h5:=Decidable.of_not_not h5;rw[if_pos h5] at h ⊢;by_cases h6:¬ ((lY a b o).nodes.length<=40/\(lY a b o).ag.length<=80)
 ·rw[if_neg h6] at h;cases h
 have h6:=Decidable.of_not_not h6;rw[if_pos h6];obtain⟨_,vx,ml⟩:=(ajX ha.base.left.graph ho.graph o.left).2.2.1 h2;obtain⟨_,_,mr⟩:=(ajX hb.base.left.graph ho.graph o.right).2.2.1 h3;unfold aeA aat at h4;unfold aqd at h5;simp only[Bool.and_eq_true,decide_eq_true_eq] at h4 h5;exact⟨aic pa pb ⟨okG vx,ml,mr,h4.1.1,h4.1.2,h4.2.1.1,h4.2.1.2,aaM.1 h4.2.2.1,aaM.1 h4.2.2.2,h5.1,h5.2⟩ h6.1 h6.2,rfl⟩
omit ht ha hb ho in
theorem azp:(oH t a b o).1=aef a b o.graph o.left o.right/\(oH t a b o).2=0\/(oH t a b o).1=adL:=by
 unfold oH
 repeat' split
 all_goals first|exact .inl ⟨rfl,rfl⟩|exact .inr rfl
end
theorem aei(p:ah)(h:ajS p.nodes p.ag):cP p 150=some (decide (p.nodes.length+p.ag.length<=150)):=by have:=h.1;have:=h.2;unfold cP;rw[gm (by omega)];congr 1;rw[Bool.eq_iff_iff,decide_eq_true_eq,decide_eq_true_eq];omega
structure aCC(o:cM):Prop where
 left:ajS o.left.nodes o.left.ag
 right:ajS o.right.nodes o.right.ag
theorem aau(t:Types)(x:dB)(o:cM)(hT:axb t)(hA:ajT x.a)(hB:ajT x.b)(hO:aCC o):cX t x o=some true:=by
 unfold cX;rw[aD yu,cond_true];obtain⟨y,hx,hs⟩:=aqa hT hA hB;rw[aD hx];cases y with
 |false=>rw[cond_false,aD yu]
 |true =>
 obtain⟨ht,ha,hb⟩:=hs rfl;obtain⟨z,hz,hg⟩:=axc o.graph;rw[cond_true,aD hz];cases z with
 |false=>rw[cond_false,aD yu]
 |true =>
 rw[cond_true,aD (aei _ hO.left),aP];by_cases h1:¬ (o.left.nodes.length+o.left.ag.length<=150)
 ·rw[if_neg h1,aD yu]
 have h1:=Decidable.of_not_not h1;rw[if_pos h1,aD (aei _ hO.right),aP];by_cases h2:¬ (o.right.nodes.length+o.right.ag.length<=150)
 ·rw[if_neg h2,aD yu]
 have h2:=Decidable.of_not_not h2;have ho:azm o:=⟨hg rfl,h1,h2⟩;obtain⟨q1,q2⟩:=ajY ht ha hb ho;rw[if_pos h2,aD q1,aD (show dK t x.a x.b ⟨o.graph,o.left,o.right⟩=_ from q2)];have hok:=azo ht ha hb ho;rcases azp (t:=t) (a:=x.a) (b:=x.b) (o:=o) with ⟨e1,e2⟩|e1
 ·obtain⟨hr,_⟩:=hok e2;rw[e1] at hr;have hf:oN (aef x.a x.b o.graph o.left o.right):=axk hr ha.base.name ⟨rfl,rfl⟩ ⟨rfl,rfl⟩ rfl;rw[e1,aD (aas (ap9 hr ⟨rfl,rfl⟩ ⟨rfl,rfl⟩ rfl)),cond_true,c7 rfl,cond_true,e2,c7 rfl,cond_true,aD (oO ht hf).2.1,aif ht hf hr rfl];rfl
 ·rw[e1,aD (aas ajW),cond_true,c7 rfl,cond_true,aP];by_cases h3:(oH t x.a x.b o).2=0
  ·obtain⟨hr,h4⟩:=hok h3;rw[e1] at hr;exact absurd hr.name (by decide)
  ·rw[if_neg h3]
theorem nM:reachBytes<=1125899906842624:=by decide
theorem azq{c:aj}(h:G60 c):agX c:=by
 induction h with
 |mk x h1 h2 h3 h4 h5 ih=>exact .mk x ⟨Nat.le_trans h4.1.2 nM,Nat.le_trans h4.2.1.2 nM⟩ ih
theorem aeM{r:aF}(h:G62 r):ajT r:=by obtain⟨_,_,_,h4,h5,_,h7,_⟩:=h;exact⟨⟨Nat.le_trans h4.1.2 nM,Nat.le_trans h4.2.1.2 nM⟩,⟨Nat.le_trans h5.1.2 nM,Nat.le_trans h5.2.1.2 nM⟩,azq h7⟩
theorem amM{t:Types}(h:G33 t):axb t:=⟨λn hn=>Nat.le_trans (h.1.1 n hn).2.2.2.1.2 nM⟩
theorem azr{o:cM}(h:G73 o):aCC o:=⟨⟨Nat.le_trans h.2.1.1.2 nM,Nat.le_trans h.2.1.2.1.2 nM⟩,⟨Nat.le_trans h.2.2.1.1.2 nM,Nat.le_trans h.2.2.1.2.1.2 nM⟩⟩
end Go.Proofs.YtldllhbhnpjlcaaGreat
