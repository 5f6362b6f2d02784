/- Joined texts, part 8: lemmas for the statement. No condition. -/
import Derived.Test.YtjhkgjlmiolfoaaGreatK7
set_option maxHeartbeats 4000000
set_option linter.unusedSimpArgs false
set_option linter.unusedVariables false
open Nat (reduceEqDiff reduceLT reduceLeDiff reduceMul reduceAdd reduceSub)
open Go.IntKind (i64)
open Go.Proofs.Tryz
namespace Go.Proofs.YtjhkgjlmiolfoaaGreat
open Go.cq
def eD(p q:aG):aG:=oq p (jW p q)
theorem ni{p q:aG}(hq:jf q):jf (jW p q) :=
 ⟨hq.rn,hq.re,by simp[jW];exact hq.an,by simp[jW];exact hq.ae,hq.va,hq.rv,λn hn=>by
  obtain⟨m,hm,rfl⟩:=List.mem_map.1 hn;exact hq.av m hm⟩
theorem sN{p q:aG}(hq:jf q):jf (oq p q):=⟨Nat.le_trans (List.length_filter_le _ _) hq.rn,Nat.le_trans (List.length_filter_le _ _) hq.re,hq.an,hq.ae,Nat.le_trans (List.length_filter_le _ _) hq.va,λn hn=>hq.rv n (List.mem_filter.1 hn).1,hq.av⟩
def tooMany(a:ax)(p q:aG):Bool:=decide ((40:Int)<((bD a p).nodes.length:Int)+(eD p q).aR.length-(eD p q).az.length)||decide ((80:Int)<((bD a p).ak.length:Int)+(eD p q).aP.length-(eD p q).aF.length)
def fz(t:Types)(a:ax)(p q:aG):ax×Int:=if tooMany a p q=true then (kD,3) else nQ t (bD a p) (eD p q)
section
variable{t:Types}{a:ax}{p q:aG}
theorem cL.ahg(h:cL t a p)(hb:sV a.host)(hp:jf p):j4 (bD a p):=h.small.add (apR h.tk hb) hp _
theorem aik(p q:aG):(eD p q).aR.length=q.aR.length/\(eD p q).aP.length=q.aP.length/\(eD p q).az.length<=q.az.length/\(eD p q).aF.length<=q.aF.length:=⟨by simp[eD,oq,jW],by simp[eD,oq,jW],List.length_filter_le _ _,List.length_filter_le _ _⟩
theorem uV(ht:fC t)(h:vj t a p q)(hb:j4 a)(hp:jf p)(hq:jf q):∃x,kE t a p q=some (x,(fz t a p q).1,(fz t a p q).2)/\((fz t a p q).2=0->x=bD a p):=by
 have hx:=h.ap.ahg hb.host hp;have e1:=h.ap.ok.n40;have e2:=h.ap.ok.e80;obtain⟨r1,r2,r3,r4⟩:=aik p q;have s1:=h.aq.small.an;have s2:=h.aq.small.ae;have s3:=h.aq.small.rn;have s4:=h.aq.small.re;unfold kE fz tooMany;rw[aT (acP ht hb hp),nK h.ap,dB rfl,cond_true,aT (yq h.aBs hq),aT (aeC hp (ni hq))];rw[show oq p (jW p q)=eD p q from rfl];dsimp only;rw[dJ (n:=(((bD a p).nodes.length:Nat):Int)+(((eD p q).aR.length:Nat):Int)) (by omega),dJ (n:=(((bD a p).nodes.length:Nat):Int)+(((eD p q).aR.length:Nat):Int)-(((eD p q).az.length:Nat):Int)) (by omega)];rw[dJ (n:=(((bD a p).ak.length:Nat):Int)+(((eD p q).aP.length:Nat):Int)) (by omega),dJ (n:=(((bD a p).ak.length:Nat):Int)+(((eD p q).aP.length:Nat):Int)-(((eD p q).aF.length:Nat):Int)) (by omega)];cases h1:decide ((40:Int)<(((bD a p).nodes.length:Nat):Int)+(((eD p q).aR.length:Nat):Int)-(((eD p q).az.length:Nat):Int)) with
 |true=>exact⟨kD,by rw[cond_true];rfl,λh=>by cases h⟩
 |false =>
  rw[cond_false,Bool.false_or];cases h2:decide ((80:Int)<(((bD a p).ak.length:Nat):Int)+(((eD p q).aP.length:Nat):Int)-(((eD p q).aF.length:Nat):Int)) with
  |true=>exact⟨kD,by rw[cond_true];rfl,λh=>by cases h⟩
  |false=>rw[cond_false,aT (show fc t (bD a p) (eD p q)=_ from acP ht hx (sN (ni hq)))];exact⟨bD a p,rfl,λ_=>rfl⟩
def azj(p q:aG):Prop:=(∀v∈q.values,dL p v.id=false)/\∀v∈p.values,dL q v.id=false
theorem aei:∀ (r:List aK) (l:List ah) (n:ah),n∈l->(∀v∈r,v.id≠n.id)->n∈(dH l r).1
 | [],l,n,h,_=>h
 |v :: r,l,n,h,hv=>by
  have hp:ng v n=n:=by unfold ng;rw[if_neg];unfold j9;rw[eT λe=>hv v (List.mem_cons_self ..) e.symm,Bool.false_and];simp
  have h':n∈l.map (ng v):=List.mem_map.2 ⟨n,h,hp⟩;rw[dH];split
  ·exact aei r _ n h' λw hw=>hv w (List.mem_cons_of_mem _ hw)
  ·exact h'
theorem cL.keep(h:cL t a p){n:ah}(hn:n∈bC a)(hr:dL p n.id=false)(hv:∀v∈p.values,v.id≠n.id):n∈lK a p:=by
 refine aei _ _ n (List.mem_filter.2 ⟨hn,?_⟩) hv;cases hx:p.az.any λm=>dV n m with
 |false=>rfl
 |true=>obtain⟨m,hm,e⟩:=List.any_eq_true.1 hx;have:=oK.1 e;subst this;rw[tS.2 ⟨n,hm,rfl⟩] at hr;cases hr
theorem auJ{a:ax}{p:aG}{k:Nat}(hk:k<(bD a p).nodes.length):∃h1:k<(j7 (lK a p++p.aR)).length,∃h2:k<(bD a p).host.values.length,(bD a p).nodes[k]=(j7 (lK a p++p.aR))[k].id/\(bD a p).host.values[k]=(j7 (lK a p++p.aR))[k].values:=by
 have h1:k<(j7 (lK a p++p.aR)).length:=by simpa[bD,dr] using hk
 exact⟨h1,by simpa[bD,dr] using h1,by simp[bD,dr],by simp[bD,dr]⟩
theorem cL.abL(h:cL t a p):iA ah.id (j7 (lK a p++p.aR)):=iA.aqM (f:=id) h.ok.nid.2
theorem cL.adG(h:cL t a p):iA au.id (mc (oL a p++p.aP)):=iA.aqM (f:=id) h.ok.eid.2
theorem auK(ht:fC t)(h:vj t a p q)(hb:j4 a)(hp:jf p)(hq:jf q)(hc:azj p q):fU t a p q=some (fz t a p q):=by
 have hx:=h.ap.ahg hb.host hp;have e1:=h.ap.ok.n40;have e2:=h.ap.ok.e80;obtain⟨r1,r2,r3,r4⟩:=aik p q;have s1:=h.aq.small.an;have s2:=h.aq.small.ae;have s3:=h.aq.small.rn;have s4:=h.aq.small.re;unfold fU fz tooMany;rw[aT (sK ht hb hp),nK h.ap,dB rfl,cond_true];rw[aT (show eA ⟨p.az,p.aF,p.aR,p.aP,p.values,p.next⟩ q=_ from aij h.aBs hq)];rw[aT (show gJ ⟨p.az,p.aF,p.aR,p.aP,p.values,p.next⟩ _=_ from aC2 hp (ni hq))];rw[show oq p (jW p q)=eD p q from rfl];dsimp only;have aE3:(bD a p).host.values.length=(bD a p).nodes.length:=by simp[bD,dr]
 have hW:dM (eD p q) (bD a p)=some (eD p q):=aeD (sN (ni hq)) (by omega) aE3 λn hn k hk he=>by
  obtain⟨hn1,hn2⟩:=List.mem_filter.1 hn;have hnp:dL p n.id=false:=by simpa[dL] using hn2
  have hmid:n∈lK a p:=h.ap.keep (h.aq.aqR hn1) hnp λv hv e=>by have:=hc.2 v hv;rw[e,tS (p:=q) |>.2 ⟨n,hn1,rfl⟩] at this;cases this
  obtain⟨k1,k2,k3,k4⟩:=auJ hk;rw[k4];rw[k3] at he;rw[h.ap.abL.inj (nR k1) (nJ.2 (List.mem_append_left _ hmid)) he]
 rw[aT hW];rw[dJ (n:=(((bD a p).nodes.length:Nat):Int)-(((eD p q).az.length:Nat):Int)) (by omega),dJ (n:=(((bD a p).nodes.length:Nat):Int)-(((eD p q).az.length:Nat):Int)+(((eD p q).aR.length:Nat):Int)) (by omega)];rw[dJ (n:=(((bD a p).ak.length:Nat):Int)-(((eD p q).aF.length:Nat):Int)) (by omega),dJ (n:=(((bD a p).ak.length:Nat):Int)-(((eD p q).aF.length:Nat):Int)+(((eD p q).aP.length:Nat):Int)) (by omega)];rw[show (((bD a p).nodes.length:Nat):Int)-(((eD p q).az.length:Nat):Int)+(((eD p q).aR.length:Nat):Int)=(((bD a p).nodes.length:Nat):Int)+(((eD p q).aR.length:Nat):Int)-(((eD p q).az.length:Nat):Int) by omega];rw[show (((bD a p).ak.length:Nat):Int)-(((eD p q).aF.length:Nat):Int)+(((eD p q).aP.length:Nat):Int)=(((bD a p).ak.length:Nat):Int)+(((eD p q).aP.length:Nat):Int)-(((eD p q).aF.length:Nat):Int) by omega];cases h1:decide ((40:Int)<(((bD a p).nodes.length:Nat):Int)+(((eD p q).aR.length:Nat):Int)-(((eD p q).az.length:Nat):Int)) with
 |true=>rw[cond_true];rfl
 |false =>
  rw[cond_false,Bool.false_or];cases h2:decide ((80:Int)<(((bD a p).ak.length:Nat):Int)+(((eD p q).aP.length:Nat):Int)-(((eD p q).aF.length:Nat):Int)) with
  |true=>rw[cond_true];rfl
  |false=>rw[cond_false,aT (show bK ⟨t.nodes,t.ak⟩ (bD a p) (eD p q)=_ from sK ht hx (sN (ni hq)))];rfl
theorem ail(h:oz a p q=[])(hp:cL t a p)(hq:cL t a q):azj p q/\(∀id,dL p id=true->yp q id=false)/\(∀id,dL q id=true->yp p id=false)/\∀v∈p.values,∀w∈q.values,v.id=w.id->v.attr=w.attr->v.new=w.new:=by
 rw[<-aaB hp hq] at h;unfold amC at h;obtain⟨h12,h3⟩:=List.append_eq_nil_iff.1 h;obtain⟨h1,h2⟩:=List.append_eq_nil_iff.1 h12;have nil_of:∀ {K:Int} {l:List aI},(∀x∈l,x.kind=K)->iT l=[]->∀x,x ∉ l:=λ{K l} hk ho x hx=>by
  have:=(aa5 hk).2 x |>.2 hx
  rw[ho] at this;cases this
 have n1:=nil_of (K:=1) (λx hx=>by rcases List.mem_append.1 hx with h|h<;>(obtain⟨id,_,_,rfl⟩:=sL.1 h;rfl)) h1;have n2:=nil_of (K:=2) (λx hx=>by rcases List.mem_append.1 hx with h|h<;>(obtain⟨id,_,_,rfl⟩:=sM.1 h;rfl)) h2;have n3:=nil_of (K:=3) (λx hx=>by obtain⟨v,_,_,_,_,_,_,rfl⟩:=zS.1 hx;rfl) h3;refine⟨⟨λv hv=>?_,λv hv=>?_⟩,λid hr=>?_,λid hr=>?_,λv hv w hw h1 h2=>?_⟩
 ·cases hr:dL p v.id with
  |false=>rfl
  |true=>exact absurd (List.mem_append_left _ (sM.2 ⟨v,hv,hr,rfl⟩)) (n2 _)
 ·cases hr:dL q v.id with
  |false=>rfl
  |true=>exact absurd (List.mem_append_right _ (sM.2 ⟨v,hv,hr,rfl⟩)) (n2 _)
 ·cases hu:yp q id with
  |false=>rfl
  |true=>exact absurd (List.mem_append_left _ (sL.2 ⟨id,hr,hu,rfl⟩)) (n1 _)
 ·cases hu:yp p id with
  |false=>rfl
  |true=>exact absurd (List.mem_append_right _ (sL.2 ⟨id,hr,hu,rfl⟩)) (n1 _)
 ·by_cases he:v.new=w.new
  ·exact he
  ·exact absurd (zS.2 ⟨v,hv,w,hw,h1,h2,he,rfl⟩) (n3 _)
theorem qf{x0 d:Int}(hd:0<=d){m n:Int}(h:m<n):iq x0 d m<iq x0 d n:=by unfold iq;split<;>split<;>omega
theorem abN{x0 d:Int}(hd:0<=d){m n:Int}(h:iq x0 d m=iq x0 d n):m=n:=by unfold iq at h;split at h<;>split at h<;>omega
theorem xU{x0 d m:Int}(h:m<x0):iq x0 d m=m:=by unfold iq;rw[if_neg (by omega)]
theorem aim{l m:List ah}(h1:iA ah.id l)(h2:iA ah.id m)(h:∀a∈l,∀b∈m,a.id<b.id):j7 (l++m)=l++m:=(aay (mw h1 h2 λa ha b hb=>by have:=h a ha b hb;omega)).ext (h1.app h2 h) λx=>nJ
theorem ain{l m:List au}(h1:iA au.id l)(h2:iA au.id m)(h:∀a∈l,∀b∈m,a.id<b.id):mc (l++m)=l++m:=(aaz (mw h1 h2 λa ha b hb=>by have:=h a ha b hb;omega)).ext (h1.app h2 h) λx=>rO
theorem ajP.ids{l m:List ah}(h:ajP l m):l.map ah.id=m.map ah.id:=by have:=congrArg (List.map λx:Int×Int×Nat=>x.1) h;rw[List.map_map,List.map_map] at this;exact this
theorem aqW{n:ah}(hn:n∈lK a p):n.id∈a.nodes:=by have:n.id∈(lK a p).map ah.id:=List.mem_map_of_mem hn;unfold lK at this;rw[(vC _ _).ids] at this;obtain⟨m,hm,e⟩:=List.mem_map.1 this;rw[<-e];exact zM (List.mem_filter.1 hm).1
theorem aqX{n:au}(hn:n∈oL a p):n.id∈a.ak:=vE (List.mem_filter.1 hn).1
theorem aio(h:dX t a){e:au}(he:e∈oL a p):e.src<a.next/\e.dst<a.next:=by
 obtain⟨i,hi,rfl⟩:=List.mem_map.1 (List.mem_filter.1 he).1;have hi:i<a.ak.length:=by simpa using hi
 have hE:=h.host.graph.gR i (by rw[<-h.ahd];exact hi);rw[<-h.rP] at hE;unfold cW;have g:∀n:Int,0<=n->n<(a.nodes.length:Int)->a.nodes.getD n.toNat default<a.next:=λn h0 h1=>by
  have hlt:n.toNat<a.nodes.length:=by omega
  have:=(h.nid.1 _ (nR hlt)).2;simpa[hlt] using this
 exact⟨g _ hE.2.1.1 hE.2.1.2,g _ hE.2.2.1 hE.2.2.2⟩
theorem agh{f:Int->Int}(hf:∀m n,f m=f n->m=n)(ids:List Int)(n:Int):bF (ids.map f) (f n)=bF ids n:=by
 unfold bF wQ;rw[List.findIdx?_map];have:((λy=>decide (y=f n)) ∘ f)=λy=>decide (y=n):=by funext y;simp only[Function.comp,decide_eq_decide];exact⟨λh=>hf _ _ h,λh=>by rw[h]⟩
 rw[this]
def ajT(p q:aG)(n0:Int):aG:=⟨q.az,q.aF,q.aR.map (o6 q.next.x0 (p.next.x1-p.next.x0)),q.aP.map (oA q.next.x0 (p.next.x1-p.next.x0)),q.values,⟨n0,p.next.x1+q.next.x1-q.next.x0⟩⟩
def jx(a:ax)(p q:aG):ax:=bD a (ajT p q 0)
theorem adN(h:vj t a p q):jx a p q=⟨(bD a q).host,(bD a q).nodes.map (iq q.next.x0 (p.next.x1-p.next.x0)),(bD a q).ak.map (iq q.next.x0 (p.next.x1-p.next.x0)),p.next.x1+q.next.x1-q.next.x0⟩/\j7 (lK a q++q.aR)=lK a q++q.aR/\mc (oL a q++q.aP)=oL a q++q.aP:=by
 have hd:0<=p.next.x1-p.next.x0:=by have:=h.gp.next;omega
 have hN:∀m∈lK a q,m.id<q.next.x0:=λm hm=>by rw[h.aq.next];exact (h.aq.tk.nid.1 _ (aqW hm)).2
 have hE:∀m∈oL a q,m.id<q.next.x0:=λm hm=>by rw[h.aq.next];exact (h.aq.tk.eid.1 _ (aqX hm)).2
 have aN:iA ah.id (lK a q):=abJ _ _ (zv h.aq.tk.abL);have aE:iA au.id (oL a q):=zv h.aq.tk.adG;have s1:j7 (lK a q++q.aR)=lK a q++q.aR:=aim aN h.aq.ord.an λx hx y hy=>by have:=hN x hx;have:=h.gq.n y hy;omega
 have s2:mc (oL a q++q.aP)=oL a q++q.aP:=ain aE h.aq.ord.ae λx hx y hy=>by have:=hE x hx;have:=h.gq.e y hy;omega
 have mN:iA ah.id (q.aR.map (o6 q.next.x0 (p.next.x1-p.next.x0))):=iA.map (List.Pairwise.imp (λh=>qf hd h) h.aq.ord.an);have mE:iA au.id (q.aP.map (oA q.next.x0 (p.next.x1-p.next.x0))):=iA.map (List.Pairwise.imp (λh=>qf hd h) h.aq.ord.ae);have t1:j7 (lK a q++q.aR.map (o6 q.next.x0 (p.next.x1-p.next.x0)))=lK a q++q.aR.map (o6 q.next.x0 (p.next.x1-p.next.x0)):=aim aN mN λx hx y hy=>by obtain⟨z,hz,rfl⟩:=List.mem_map.1 hy;have h1:=hN x hx;have h2:=h.gq.n z hz;simp only[o6,iq];rw[if_pos h2];omega
 have t2:mc (oL a q++q.aP.map (oA q.next.x0 (p.next.x1-p.next.x0)))=oL a q++q.aP.map (oA q.next.x0 (p.next.x1-p.next.x0)):=ain aE mE λx hx y hy=>by obtain⟨z,hz,rfl⟩:=List.mem_map.1 hy;have h1:=hE x hx;have h2:=h.gq.e z hz;simp only[oA,iq];rw[if_pos h2];omega
 have aIx:(lK a q).map (o6 q.next.x0 (p.next.x1-p.next.x0))=lK a q:=by
  have:∀l:List ah,(∀m∈l,m.id<q.next.x0)->l.map (o6 q.next.x0 (p.next.x1-p.next.x0))=l:=λl hl=>by
   induction l with
   |nil=>rfl
   |cons x l ih=>rw[List.map_cons,ih λm hm=>hl m (List.mem_cons_of_mem _ hm)];congr 1;unfold o6;rw[xU (hl x (List.mem_cons_self ..))]
  exact this _ hN
 have aIy:(oL a q).map (oA q.next.x0 (p.next.x1-p.next.x0))=oL a q:=by
  have:∀l:List au,(∀m∈l,m.id<q.next.x0/\m.src<q.next.x0/\m.dst<q.next.x0)->l.map (oA q.next.x0 (p.next.x1-p.next.x0))=l:=λl hl=>by
   induction l with
   |nil=>rfl
   |cons x l ih=>rw[List.map_cons,ih λm hm=>hl m (List.mem_cons_of_mem _ hm)];obtain⟨h1,h2,h3⟩:=hl x (List.mem_cons_self ..);congr 1;unfold oA;rw[xU h1,xU h2,xU h3]
  exact this _ λm hm=>⟨hE m hm,by rw[h.aq.next];exact (aio h.aq.tk hm).1,by rw[h.aq.next];exact (aio h.aq.tk hm).2⟩
 refine⟨?_,s1,s2⟩;show dr (j7 (lK a q++q.aR.map (o6 q.next.x0 (p.next.x1-p.next.x0)))) (mc (oL a q++q.aP.map (oA q.next.x0 (p.next.x1-p.next.x0)))) _=_;unfold bD;rw[t1,t2,s1,s2];have eN:lK a q++q.aR.map (o6 q.next.x0 (p.next.x1-p.next.x0))=(lK a q++q.aR).map (o6 q.next.x0 (p.next.x1-p.next.x0)):=by rw[List.map_append,aIx]
 have eE:oL a q++q.aP.map (oA q.next.x0 (p.next.x1-p.next.x0))=(oL a q++q.aP).map (oA q.next.x0 (p.next.x1-p.next.x0)):=by rw[List.map_append,aIy]
 rw[eN,eE];unfold dr;simp only[List.map_map,ax.mk.injEq,Host.mk.injEq,eU.mk.injEq];have ids:((lK a q++q.aR).map (ah.id ∘ o6 q.next.x0 (p.next.x1-p.next.x0)))=((lK a q++q.aR).map ah.id).map (iq q.next.x0 (p.next.x1-p.next.x0)):=by rw[List.map_map];rfl
 refine⟨⟨⟨rfl,?_⟩,rfl⟩,rfl,rfl,rfl⟩;rw[ids];refine List.map_congr_left λe _=>?_
 show lu _ (oA _ _ e)=lu _ e;unfold lu oA;simp only[Edge.mk.injEq];exact⟨trivial,agh (λm n=>abN hd) _ _,agh (λm n=>abN hd) _ _⟩
theorem wV(h:vj t a p q):dX t (jx a p q):=by
 have hd:0<=p.next.x1-p.next.x0:=by have:=h.gp.next;omega
 have ho:=h.aq.ok;have n1:=h.aq.n1;have n0:=h.aq.n0;have hg:=h.gq.next
 have hnx:=h.next
 have hp0:=h.ap.n0;have e0:p.next.x0=q.next.x0:=by rw[h.ap.next,h.aq.next]
 rw[(adN h).1];have bound:∀m,0<=m/\m<q.next.x1->0<=iq q.next.x0 (p.next.x1-p.next.x0) m/\iq q.next.x0 (p.next.x1-p.next.x0) m<p.next.x1+q.next.x1-q.next.x0:=λm hm=>by unfold iq;split<;>omega
 refine⟨ho.host,by simp only[List.length_map];exact ho.rP,by simp only[List.length_map];exact ho.ahd,⟨by simp only;omega,by simp only;omega⟩,⟨λm hm=>?_,?_⟩,⟨λm hm=>?_,?_⟩,λe he hn=>?_⟩
 ·obtain⟨x,hx,rfl⟩:=List.mem_map.1 hm;exact bound x (ho.nid.1 x hx)
 ·exact iA.map (List.Pairwise.imp (λh=>qf hd h) ho.nid.2)
 ·obtain⟨x,hx,rfl⟩:=List.mem_map.1 hm;exact bound x (ho.eid.1 x hx)
 ·exact iA.map (List.Pairwise.imp (λh=>qf hd h) ho.eid.2)
 ·obtain⟨x,hx,rfl⟩:=List.mem_map.1 he;obtain⟨y,hy,e⟩:=List.mem_map.1 hn;have:=abN hd e;subst this;exact ho.apart y hx hy
theorem aa8(h:vj t a p q){n0:Int}(hT:dX t ⟨a.host,a.nodes,a.ak,n0⟩):cL t ⟨a.host,a.nodes,a.ak,n0⟩ (ajT p q n0):=by
 have hd:0<=p.next.x1-p.next.x0:=by have:=h.gp.next;omega
 have hs:=h.aq.small;have ho:=h.aq.ord;refine⟨hT,⟨hs.rn,hs.re,by simp[ajT];exact hs.an,by simp[ajT];exact hs.ae,hs.va⟩,⟨ho.rn,ho.re,iA.map (List.Pairwise.imp (λh=>qf hd h) ho.an),iA.map (List.Pairwise.imp (λh=>qf hd h) ho.ae),ho.va⟩,rfl,h.aq.rn,h.aq.re,h.aq.va,?_,(show dX t (jx a p q) from wV h)⟩;have hN:∀m∈lK a q,m.id<q.next.x0:=λm hm=>by rw[h.aq.next];exact (h.aq.tk.nid.1 _ (aqW hm)).2
 have hE:∀m∈oL a q,m.id<q.next.x0:=λm hm=>by rw[h.aq.next];exact (h.aq.tk.eid.1 _ (aqX hm)).2
 have free:∀m,q.next.x0<=m->kC (lK a q) (oL a q) (iq q.next.x0 (p.next.x1-p.next.x0) m)=false:=λm hm=>by unfold kC iq;rw[if_pos hm,Bool.or_eq_false_iff];simp only[List.any_eq_false,decide_eq_true_eq];exact⟨λx hx e=>by have:=hN x hx;omega,λx hx e=>by have:=hE x hx;omega⟩
 show gm (lK a q) (oL a q) _=false;unfold gm;rw[Bool.or_eq_false_iff];simp only[List.any_eq_false];refine⟨λx hx=>?_,λx hx=>?_⟩
 ·obtain⟨z,hz,rfl⟩:=List.mem_map.1 hx;rw[show (o6 q.next.x0 (p.next.x1-p.next.x0) z).id=iq q.next.x0 (p.next.x1-p.next.x0) z.id from rfl,free _ (h.gq.n z hz)];simp
 ·obtain⟨z,hz,rfl⟩:=List.mem_map.1 hx;rw[show (oA q.next.x0 (p.next.x1-p.next.x0) z).id=iq q.next.x0 (p.next.x1-p.next.x0) z.id from rfl,free _ (h.gq.e z hz)];simp
theorem ahh(ht:fC t)(h:vj t a p q)(hb:j4 a)(hp:jf p)(hq:jf q):pK t a p q=some (jx a p q,0):=by have hA:=aa8 h (n0:=a.next) h.ap.tk;unfold pK;rw[aT (yq h.aBs hq)];have hsb:=ni (p:=p) hq;rw[aT (show fc t a ⟨(jW p q).az,(jW p q).aF,(jW p q).aR,(jW p q).aP,(jW p q).values,⟨a.next,(jW p q).next.x1⟩⟩=_ from acP ht hb ⟨hsb.rn,hsb.re,hsb.an,hsb.ae,hsb.va,hsb.rv,hsb.av⟩)];have e:nQ t a ⟨(jW p q).az,(jW p q).aF,(jW p q).aR,(jW p q).aP,(jW p q).values,⟨a.next,(jW p q).next.x1⟩⟩=(jx a p q,0):=nK hA;rw[e]
theorem azk(ht:fC t)(h:vj t a p q)(hb:j4 a)(hq:jf q):bK t ⟨a.host,a.nodes,a.ak,p.next.x1⟩ (jW p q)=some (jx a p q,0):=by
 have ha:=h.ap.tk;have hx:=h.ap.n1;have hg:=h.gp.next
 rw[h.ap.next] at hg;have hT:dX t ⟨a.host,a.nodes,a.ak,p.next.x1⟩:=⟨ha.host,ha.rP,ha.ahd,hx,⟨λn hn=>by have:=ha.nid.1 n hn;simp only;omega,ha.nid.2⟩,⟨λn hn=>by have:=ha.eid.1 n hn;simp only;omega,ha.eid.2⟩,ha.apart⟩;have hA:=aa8 h hT;refine (sK ht (a:=⟨a.host,a.nodes,a.ak,p.next.x1⟩) ⟨hb.host,hb.nodes,hb.ak⟩ (ni hq)).trans ?_;congr 1;exact nK hA
end
def gj(t:Types)(x:ax):List bt:=(agf t x.host).map λy=>⟨x.nodes.getD y.node.toNat default,y.gR,y.out⟩
def toR(v:bt):bL:=⟨v.id,v.gR,v.out⟩
section
variable{t:Types}{x:ax}
theorem agi{h:Host}{y:cF}(hy:y∈agf t h):∃k i:Nat,k<t.ak.length/\i<h.graph.nodes.length/\y.gR=(k:Int)/\y.node=(i:Int):=by
 unfold agf aeE qG at hy;obtain⟨k,hk,hy⟩:=List.mem_flatMap.1 hy;have hk:=List.mem_range.1 hk;rcases List.mem_append.1 hy with hy|hy
 ·obtain⟨i,hi,rfl⟩:=List.mem_map.1 hy;exact⟨k,i,hk,List.mem_range.1 (List.mem_filter.1 hi).1,rfl,rfl⟩
 ·obtain⟨i,hi,rfl⟩:=List.mem_map.1 hy;exact⟨k,i,hk,List.mem_range.1 (List.mem_filter.1 hi).1,rfl,rfl⟩
theorem agj(hf:fC t)(hx:dX t x):(agf t x.host).length<=100000:=by
 have hE:=hf.ak;have hn:=hx.host.graph.nodes;have:=acR (aeE t x.host.graph) (List.range t.ak.length) [] 80 λk _=>by unfold aeE;rw[List.length_append];have h1:=k9 (t:=t) x.host.graph (k:Int) true (t.ak.getD k default).src (t.ak.getD k default).nN (t.ak.getD k default).jZ;have h2:=k9 (t:=t) x.host.graph (k:Int) false (t.ak.getD k default).dst (t.ak.getD k default).tj (t.ak.getD k default).og;omega
 rw[ue,List.length_range] at this;simp only[List.nil_append,List.length_nil] at this;unfold agf;omega
theorem rW(hf:fC t)(hx:dX t x):(gj t x).length<=100000:=by unfold gj;rw[List.length_map];exact agj hf hx
theorem aqY(hx:dX t x){v:bt}(hv:v∈gj t x):v.id∈x.nodes/\∃k:Nat,k<t.ak.length/\v.gR=(k:Int):=by
 unfold gj at hv;obtain⟨y,hy,rfl⟩:=List.mem_map.1 hv;obtain⟨k,i,hk,hi,e1,e2⟩:=agi hy;have hi':i<x.nodes.length:=by rw[hx.rP];exact hi
 refine⟨?_,k,hk,e1⟩;rw[e2];simp[hi']
theorem oM(hf:fC t)(hx:dX t x)(hb:j4 x):iK t x=some (gj t x):=by
 have hl:=agj hf hx;unfold iK gj;rw[aT (apW hf hx.host hb.host),bw (bu (by simp only;omega))];rw[jH (agf t x.host) (λy=>[(⟨x.nodes.getD y.node.toNat default,y.gR,y.out⟩:bt)]) 1 (λ_ _=>by simp) λi hi s hs cz=>?_,vF]
 ·rfl
 ·obtain⟨k,j,hk,hj,e1,e2⟩:=agi (nR hi);have hj':j<x.nodes.length:=by rw[hx.rP];exact hj
  simp only[List.length_nil] at hs;rw[bS hi,fS (by omega) (by omega),bw (by omega)];simp[e2,hj']
theorem vH(hf:fC t)(hx:dX t x)(hb:j4 x):dG t x=some ((gj t x).map toR):=by
 have hl:=agj hf hx;unfold dG gj;rw[aT (amO hf hx.host hb.host),bw (bu (by simp only;omega))];rw[jH (agf t x.host) (λy=>[(⟨x.nodes.getD y.node.toNat default,y.gR,y.out⟩:bL)]) 1 (λ_ _=>by simp) λi hi s hs cz=>?_,vF]
 ·rw[List.map_map];rfl
 ·obtain⟨k,j,hk,hj,e1,e2⟩:=agi (nR hi);have hj':j<x.nodes.length:=by rw[hx.rP];exact hj
  simp only[List.length_nil] at hs;rw[bS hi,fS (by omega) (by omega),bw (by omega)];simp[e2,hj']
end
def eqX(v w:bt):Bool:=decide (v.id=w.id)&&(decide (v.gR=w.gR)&&(v.out == w.out))
theorem azl(v w:bt):eqX v w=eqX w v:=by unfold eqX;rw[Bool.eq_iff_iff];simp only[Bool.and_eq_true,decide_eq_true_eq,beq_iff_eq];exact⟨λ⟨a,b,c⟩=>⟨a.symm,b.symm,c.symm⟩,λ⟨a,b,c⟩=>⟨a.symm,b.symm,c.symm⟩⟩
def rR(t:Types)(a x z:ax)(v:bt):Bool:=(gj t a++gj t x++gj t z).any λw=>eqX v w
def auL(t:Types)(a x z y:ax):List aI:=((gj t y).filter λv=>!rR t a x z v).map λv=>⟨4,v.id,v.gR⟩
def azm(t:Types)(a x z y:ax):List aI:=(List.range y.nodes.length).flatMap λi=>((List.range t.ak.length).filter λk:Nat=>(gj t y).any λv=>decide (v.id=y.nodes.getD i default)&&(decide (v.gR=(k:Int)) && !rR t a x z v)).map λk:Nat=>⟨4,y.nodes.getD i default,(k:Int)⟩
section
variable{t:Types}{a x y z:ax}{p q:aG}
theorem azn(hy:dX t y):iT (auL t a x z y)=azm t a x z y:=by
 refine xR (K:=4) (λc hc=>?_) ?_ λc=>?_
 ·obtain⟨v,_,rfl⟩:=List.mem_map.1 hc;rfl
 ·unfold azm;rw[List.pairwise_flatMap];constructor
  ·intro i _;rw[List.pairwise_map];exact (List.Pairwise.sublist List.filter_sublist List.pairwise_lt_range).imp λh=>.inr ⟨rfl,by simp only;omega⟩
  ·refine List.Pairwise.imp_of_mem ?_ (List.pairwise_lt_range (n:=y.nodes.length));intro i j hi hj hij c hc d hd;have hi:=List.mem_range.1 hi;have hj:=List.mem_range.1 hj;obtain⟨k,_,rfl⟩:=List.mem_map.1 hc;obtain⟨m,_,rfl⟩:=List.mem_map.1 hd;left;have:=hy.nid.2.aa4 hij hj;simpa[hi,hj] using this
 ·unfold auL azm;simp only[List.mem_map,List.mem_filter,List.mem_flatMap,List.mem_range,List.any_eq_true,Bool.and_eq_true,decide_eq_true_eq];constructor
  ·rintro⟨v,⟨hv,hn⟩,rfl⟩;obtain⟨h1,k,hk,h2⟩:=aqY hy hv;obtain⟨i,hi,e⟩:=List.getElem_of_mem h1;have hg:y.nodes.getD i default=v.id:=by rw[<-e];simp[hi]
   exact⟨i,hi,k,⟨hk,v,hv,hg.symm,h2,hn⟩,by rw[hg,h2]⟩
  ·rintro⟨i,hi,k,⟨hk,v,hv,e1,e2,hn⟩,rfl⟩;exact⟨v,⟨hv,hn⟩,by rw[e1,e2]⟩
theorem ahi{l:List bt}(hl:l.length<=1000000)(v:bt):fo l v=some (l.any λw=>eqX v w):=by
 unfold fo;rw[aT (show gb l v=some (wQ (λw=>eqX v w) l) by
  unfold gb;rw[bw (bu (by omega))];exact wR l _ (λi hi cz=>by rw[bS hi];rfl) rfl),xK]
theorem aIz{l:List bt}(hl:l.length<=1000000)(v:bt):gy (l.map toR) (toR v)=some (l.any λw=>eqX v w):=by
 unfold gy;rw[bw (bu (by rw[List.length_map];omega))];rw[acQ (b:=λw=>eqX v ⟨w.id,w.gR,w.out⟩) (λi hi cz=>?_) rfl,List.any_map]
 ·rfl
 ·rw[bS hi];congr 1;have:=azl v ⟨(l.map toR)[i].id,(l.map toR)[i].gR,(l.map toR)[i].out⟩;rw[this];rfl
theorem auM{n:Int}(h:0<=n/\n<=1000000):kB ([]:List bt) n=some []:=tw ⟨rfl,by omega⟩
theorem apX(x y z:List bt)(h:x.length<=300000/\y.length<=300000/\z.length<=300000):fR [x,y,z]=some (x++y++z):=by unfold fR;rw[bw (bu (by simp))];show bZ _ 3 0 0 _=_;simp only[bZ,List.getElem?_cons_zero,List.getElem?_cons_succ,mu];rw[dJ (n:=0+((x.length:Nat):Int)) (by omega),eT (by omega),cond_false];rw[dJ (n:=0+((x.length:Nat):Int)+((y.length:Nat):Int)) (by omega),eT (by omega),cond_false];rw[dJ (n:=0+((x.length:Nat):Int)+((y.length:Nat):Int)+((z.length:Nat):Int)) (by omega),eT (by omega),cond_false];rw[aT (auM (by omega)),bw (bu (by simp))];show bZ _ 3 0 [] _=_;simp only[bZ,List.getElem?_cons_zero,List.getElem?_cons_succ,mu];rw[bw (by simp;omega),bw (by simp;omega),bw (by simp;omega)];simp
theorem vj.amP(h:vj t a p q)(hb:j4 a)(hq:jf q):j4 (jx a p q):=by have:=h.aq.ahg hb.host hq;rw[(adN h).1];exact⟨this.host,by simp only[List.length_map];exact this.nodes,by simp only[List.length_map];exact this.ak⟩
def ahj(t:Types)(a:ax)(p q:aG)(y:ax):List aI:=azm t a (bD a p) (jx a p q) y
theorem zZ(ht:fC t)(h:vj t a p q)(hb:j4 a)(hp:jf p)(hq:jf q)(hy:dX t y)(hby:j4 y):mg t a p q (bD a p) y=some (ahj t a p q y,0):=by
 have hx:=h.ap.ahg hb.host hp;have hz:=h.amP hb hq;have n1:=rW ht h.ap.tk;have n2:=rW ht h.ap.ok;have n3:=rW ht (wV h);have n4:=rW ht hy;unfold mg ahj;rw[aT (ahh ht h hb hp hq),dB rfl,cond_true,aT (oM ht h.ap.tk hb),aT (oM ht h.ap.ok hx),aT (oM ht (wV h) hz),aT (apX _ _ _ ⟨by omega,by omega,by omega⟩),aT (oM ht hy hby),bw (bu (by omega))];have hlen:(gj t a++gj t (bD a p)++gj t (jx a p q)).length<=1000000:=by rw[List.length_append,List.length_append];omega
 rw[jH (gj t y) (λv=>if rR t a (bD a p) (jx a p q) v=true then [] else [(⟨4,v.id,v.gR⟩:aI)]) 1 (λ_ _=>by split<;>simp) λi hi s hs cz=>?_]
 ·have e:((gj t y).flatMap λv=>if rR t a (bD a p) (jx a p q) v=true then [] else [(⟨4,v.id,v.gR⟩:aI)])=auL t a (bD a p) (jx a p q) y:=by unfold auL;rw[<-jV];congr 1;funext v;cases rR t a (bD a p) (jx a p q) v<;>rfl
  rw[List.nil_append,e];rw[aT (show eZ (auL t a (bD a p) (jx a p q) y)=_ from qz ⟨by
   unfold auL;rw[List.length_map];exact Nat.le_trans (List.length_filter_le _ _) (by omega),4,λc hc=>by
    obtain⟨v,hv,rfl⟩:=List.mem_map.1 hc;obtain⟨h1,k,hk,h2⟩:=aqY hy (List.mem_filter.1 hv).1;have h3:=hy.small h1;have hE:=ht.ak;exact⟨rfl,by unfold ot;simp only;omega⟩⟩),azn hy]
 ·simp only[List.length_nil] at hs;rw[bS hi,aT (ahi hlen _),bw (by omega)];show cond (rR t a (bD a p) (jx a p q) (gj t y)[i]) _ _=_;cases rR t a (bD a p) (jx a p q) (gj t y)[i]<;>simp
theorem agk{x:ax}(hx:j4 x):dz x=some x:=by
 have h1:=hx.nodes;have h2:=hx.ak;have h3:=hx.host.graph.nodes;have h4:=hx.host.graph.ak;have h5:=hx.host.values;unfold dz;rw[aT (show cB x.host=some x.host by
  unfold cB;rw[aT (show ic x.host.graph=some x.host.graph by unfold ic;rw[bw (by omega),bw (by omega)]),bw (bu (by omega))];rw[jH x.host.values (λl=>[l]) 1 (λ_ _=>by simp) λi hi s hs cz=>?_]
  ·simp
  ·have:=hx.host.row _ (nR hi);simp only[List.length_nil] at hs;rw[bS hi,bw (by omega),bw (by omega)]),bw (by omega),bw (by omega)]
theorem azo(ht:fC t)(h:vj t a p q)(hb:j4 a)(hp:jf p)(hq:jf q)(hy:dX t y)(hby:j4 y):ig t a p q y=some (ahj t a p q y):=by
  have hx:=h.ap.ahg hb.host hp;have hz:=h.amP hb hq;have n1:=rW ht h.ap.tk;have n2:=rW ht h.ap.ok;have n3:=rW ht (wV h);have n4:=rW ht hy;have hE:=ht.ak;have hyn:=hy.n40;unfold ig ahj;rw[aT (sK ht hb hp),nK h.ap,aT (agk hb),aT (aij h.aBs hq),aT (azk ht h hb hq)];rw[aT (vH ht h.ap.tk hb),aT (vH ht h.ap.ok hx),bw (by simp only[List.length_map];omega),aT (vH ht (wV h) hz),bw (by simp only[List.length_map];omega),aT (vH ht hy hby),bw (bu (by omega))];have hlen:(gj t a++gj t (bD a p)++gj t (jx a p q)).length<=1000000:=by rw[List.length_append,List.length_append];omega
  have hmap:(gj t a).map toR++(gj t (bD a p)).map toR++(gj t (jx a p q)).map toR=(gj t a++gj t (bD a p)++gj t (jx a p q)).map toR:=by rw[List.map_append,List.map_append]
  rw[hmap];unfold azm;rw[jQ y.nodes.length (λi=>((List.range t.ak.length).filter λk:Nat=>(gj t y).any λv=>decide (v.id=y.nodes.getD i default)&&(decide (v.gR=(k:Int)) && !rR t a (bD a p) (jx a p q) v)).map λk:Nat=>(⟨4,y.nodes.getD i default,(k:Int)⟩:aI)) 1000 (λi hi=>by
    rw[List.length_map];refine Nat.le_trans (List.length_filter_le _ _) ?_;rw[List.length_range];omega) λi hi s hs cz=>?_]
  · rfl
  · have hg:y.nodes.getD i default=y.nodes[i]:=by simp[hi]
    simp only[List.length_nil] at hs;have hs':s.length<=100000:=by have:1000 * i<=1000 * 40:=Nat.mul_le_mul_left _ (by omega);omega
    rw[hg,bw (bu (by omega))];rw[jQ t.ak.length (λk=>if ((gj t y).any λv=>decide (v.id=y.nodes[i])&&(decide (v.gR=(k:Int)) && !rR t a (bD a p) (jx a p q) v))=true then [(⟨4,y.nodes[i],(k:Int)⟩:aI)] else []) 1 (λ_ _=>by split<;>simp) λk hk s2 hs2 cz=>?_,jV];rw[bw (bu (by rw[List.length_map];omega))];have key:=(rN (O:=List aI) (K:=λazp =>
   cond azp (
    thn (y.nodes[i]?) λaE4 =>
    cC (s2.length+1<=68719476736) <|
    cz (s2++[(⟨4,aE4,((k:Nat):Int)⟩:aI)])) <|
   cz s2) (s:=false) (f:=λaE5 (azp:Bool) acT aE6 =>
    cond azp (
     acT true) <|
    thn (((gj t y).map toR)[aE5]?) λazq =>
    thn (y.nodes[i]?) λaE7 =>
    cond (decide (azq.id=aE7)) (
     cond (decide (azq.gR=((k:Nat):Int))) (
      thn (gy ((gj t a++gj t (bD a p)++gj t (jx a p q)).map toR) azq) λaE8 =>
      acT (!aE8)) <|
     acT false) <|
    acT false) ((gj t y).map toR) (λb e=>b||(decide (e.id=y.nodes[i])&&(decide (e.gR=(k:Int)) && !rR t a (bD a p) (jx a p q) ⟨e.id,e.gR,e.out⟩))) (λ_ _=>True) trivial λj hj b _=>by
      refine⟨λcz=>?_,trivial⟩;cases b with
      |true=>rfl
      |false =>
        rw[cond_false,bS hj,bS hi,Bool.false_or];have hin:=aIz hlen ⟨((gj t y).map toR)[j].id,((gj t y).map toR)[j].gR,((gj t y).map toR)[j].out⟩;rw[aT (show gy _ ((gj t y).map toR)[j]=_ from hin)];show cond _ (cond _ (cz (!rR t a (bD a p) (jx a p q) ⟨((gj t y).map toR)[j].id,((gj t y).map toR)[j].gR,((gj t y).map toR)[j].out⟩)) _) _=_;cases decide (((gj t y).map toR)[j].id=y.nodes[i])<;>cases decide (((gj t y).map toR)[j].gR=(k:Int))<;>rfl).1
    rw[key];have fold_any:∀ (l:List bL) (b:Bool) (g:bL->Bool),l.foldl (λb e=>b||g e) b=(b||l.any g):=λl b g=>by
      induction l generalizing b with
      |nil=>simp
      |cons e l ih=>rw[List.foldl_cons,ih,List.any_cons,Bool.or_assoc]
    rw[fold_any,Bool.false_or,List.any_map];show cond ((gj t y).any λv=>decide (v.id=y.nodes[i])&&(decide (v.gR=(k:Int)) && !rR t a (bD a p) (jx a p q) v)) _ _=_;rw[bS hi,bw (by omega)];cases (gj t y).any λv=>decide (v.id=y.nodes[i])&&(decide (v.gR=(k:Int)) && !rR t a (bD a p) (jx a p q) v)<;>simp
theorem aip(h:(fz t a p q).2=0):fz t a p q=(bD (bD a p) (eD p q),0)/\cL t (bD a p) (eD p q):=by
 unfold fz at h ⊢;split at h
 ·cases h
 ·rename_i hn;rw[if_neg hn];exact⟨nK (nL.1 h),nL.1 h⟩
def xV(t:Types)(a:ax)(p q:aG):List aI×Int :=
 if ow t a p q≠0 then ([],ow t a p q)
 else if 0<(oz a p q).length then (oz a p q,0)
 else if (fz t a p q).2≠0 then ([],(fz t a p q).2)
 else (ahj t a p q (fz t a p q).1,0)
def aaC(t:Types)(a:ax)(p q:aG):ax×Int :=
 if (fz t a p q).2≠0 then (kD,(fz t a p q).2)
 else if 0<(ahj t a p q (fz t a p q).1).length then (kD,11)
 else ((fz t a p q).1,0)
def wj(t:Types)(a:ax)(p q:aG):ax×Int :=
 if ow t a p q≠0 then (kD,ow t a p q)
 else if 0<(oz a p q).length then (kD,11)
 else aaC t a p q
theorem xW(hb:j4 a)(h:vj t a p q)(hp:jf p)(hq:jf q)(hm:(fz t a p q).2=0):dX t (fz t a p q).1/\j4 (fz t a p q).1:=by obtain⟨e,hA⟩:=aip hm;rw[e];exact⟨hA.ok,hA.ahg (h.ap.ahg hb.host hp).host (sN (ni hq))⟩
theorem amQ(ht:fC t)(hb:j4 a)(hp:jf p)(hq:jf q):iZ t a p q=some (xV t a p q):=by
 unfold iZ xV;rw[aT (show jB ⟨t.nodes,t.ak⟩ ⟨a.host,a.nodes,a.ak,a.next⟩ p q=_ from wg ht hb hp hq),aX];by_cases h0:ow t a p q=0;rotate_left
 ·rw[if_neg h0,if_pos h0]
 have h:=mQ.1 h0;rw[if_pos h0,if_neg (λh=>h h0),aT (p0 h.ap h.aq hb.host),aaB h.ap h.aq,aX];by_cases h1:0<(oz a p q).length
 ·rw[if_pos (by omega),if_pos h1]
 rw[if_neg (by omega),if_neg h1];obtain⟨x,e,ex⟩:=uV ht h hb hp hq;rw[aT e,aX];by_cases h2:(fz t a p q).2=0
 ·rw[if_pos h2,if_neg (λh=>h h2),ex h2];obtain⟨k1,k2⟩:=xW hb h hp hq h2;rw[aT (zZ ht h hb hp hq k1 k2)]
 ·rw[if_neg h2,if_pos h2]
theorem apY(h:vj t a p q)(h1:¬ 0<(oz a p q).length):azj p q:=(ail (List.eq_nil_of_length_eq_zero (by omega)) h.ap h.aq).1
theorem ajU(ht:fC t)(hb:j4 a)(hp:jf p)(hq:jf q):ga t a p q=some (xV t a p q):=by
 unfold ga xV;rw[aT (show gf ⟨t.nodes,t.ak⟩ ⟨a.host,a.nodes,a.ak,a.next⟩ p q=_ from aBn ht hb hp hq),aX];by_cases h0:ow t a p q=0;rotate_left
 ·rw[if_neg h0,if_pos h0]
 have h:=mQ.1 h0;rw[if_pos h0,if_neg (λh=>h h0),aT (show eG ⟨a.host,a.nodes,a.ak,a.next⟩ ⟨p.az,p.aF,p.aR,p.aP,p.values,p.next⟩ q=some (oz a p q) from ahf h.ap.tk hb.host hp hq),aX];by_cases h1:0<(oz a p q).length
 ·rw[if_pos (by omega),if_pos h1]
 rw[if_neg (by omega),if_neg h1];rw[aT (show fU ⟨t.nodes,t.ak⟩ a ⟨p.az,p.aF,p.aR,p.aP,p.values,p.next⟩ q=_ from auK ht h hb hp hq (apY h h1)),aX];by_cases h2:(fz t a p q).2=0
 ·rw[if_pos h2,if_neg (λh=>h h2)];obtain⟨k1,k2⟩:=xW hb h hp hq h2;rw[aT (azo ht h hb hp hq k1 k2)]
 ·rw[if_neg h2,if_pos h2]
theorem aqZ(ht:fC t)(hb:j4 a)(hp:jf p)(hq:jf q):j8 t a p q=some (wj t a p q):=by
 unfold j8 wj;rw[aT (wg ht hb hp hq),aX];by_cases h0:ow t a p q=0;rotate_left
 ·rw[if_neg h0,if_pos h0];rfl
 have h:=mQ.1 h0;rw[if_pos h0,if_neg (λh=>h h0),aT (p0 h.ap h.aq hb.host),aaB h.ap h.aq,aX];by_cases h1:0<(oz a p q).length
 ·rw[if_pos (by omega),if_pos h1];rfl
 rw[if_neg (by omega),if_neg h1];rw[aT (show qB t a p q=some (aaC t a p q) by
  unfold qB aaC;obtain⟨x,e,ex⟩:=uV ht h hb hp hq;rw[aT e,aX];by_cases h2:(fz t a p q).2=0
  ·rw[if_pos h2,if_neg (λh=>h h2),ex h2];obtain⟨k1,k2⟩:=xW hb h hp hq h2;rw[aT (zZ ht h hb hp hq k1 k2),dB rfl,cond_true,aX];by_cases h3:0<(ahj t a p q (fz t a p q).1).length
   ·rw[if_pos (by simp only;omega),if_pos h3];rfl
   ·rw[if_neg (by simp only;omega),if_neg h3]
  ·rw[if_neg h2,if_pos h2];rfl)]
end
structure aIA(t:Types):Prop where
 attrs:∀n∈t.nodes,n.attrs.length<=1125899906842624
theorem agl{α O:Type}{Q:O->Prop}{f:Nat->Unit->(Unit->Option O)->(Unit->Option O)->Option O}{K:Unit->Option O}(l:List α)(p:α->Prop)
  (hr:∀j (cz:Unit->Option O) (hj:j<l.length),(p l[j]->Ok (cz ()) Q)->Ok (f j () cz K) Q) (he:(∀x∈l,p x)->Ok (K ()) Q):Ok (bZ f (l.length-0) 0 () K) Q:=by
 refine tL (λj _=>∀i (h:i<l.length),i<j->p l[i]) (Nat.zero_le _) (λi _ h=>absurd h (Nat.not_lt_zero i)) (λj s cz _ hj hq hn=>?_) (λs hq=>?_)
 ·refine hr j cz hj λhp=>hn () λi h hi=>?_
  rcases Nat.lt_succ_iff_lt_or_eq.1 hi with h'|h'
  ·exact hq i h h'
  ·subst h';exact hp
 ·refine he λx hx=>?_
  obtain⟨i,hi,rfl⟩:=List.mem_iff_getElem.1 hx;exact hq i hi hi
structure aIB(x:ax):Prop where
 nodes:x.nodes.length<=1125899906842624
 ak:x.ak.length<=1125899906842624
structure Fit3(t:Types)(x:bV):Prop where
 t:aIA t
 a:aIB x.a
theorem azr{l:List aI}(h:l.length<=1000000):ij l l=some true:=by refine Ok.eq ?_;unfold ij;refine vR (dB rfl) (cA (bu (by omega)) ?_);refine agl l (λ_=>True) (λi cz hi hn=>?_) (λ_=>.mk rfl);exact sG hi (sG hi (vR (by simp) (hn trivial)))
theorem aej{l:List Int}(h:l.length<=1000000):gz l l=some true:=by refine Ok.eq ?_;unfold gz;refine vR (dB rfl) (cA (bu (by omega)) ?_);refine agl l (λ_=>True) (λi cz hi hn=>?_) (λ_=>.mk rfl);exact sG hi (sG hi (vR (by simp) (hn trivial)))
theorem auN{a:List Int}(h:a.length<=1000000):gQ a a=some 0:=by
 refine Ok.eq ?_;unfold gQ;refine aeH (λs:Int=>0<=s/\s<=a.length) (λs:Int=>((a.length:Int)-s).toNat) ⟨by simp,by simp⟩ (by unfold fuel;simp;omega) (λs cz hs hn=>?_);refine cV (λh1=>?_) (λh1=>.mk ?_)
 ·have tG:=cm h1;refine vR h1 ?_;refine lY hs.1 (by omega) ?_;refine lY hs.1 (by omega) ?_;refine vR (dB rfl) ?_;rw[dJ (by omega)];exact hn _ ⟨by omega,by omega⟩ (by omega)
 ·rw[Int.sub_self];rfl
theorem aBu{g:eU}(h:alG g):ja g g=some true:=by have h1:=h.nodes;have h2:=h.ak;refine Ok.eq ?_;unfold ja;refine ok_eq (xO (by omega)) (vR (dB rfl) (vR (dB rfl) (cA (bu (by omega)) ?_)));refine agl g.ak (λ_=>True) (λi cz hi hn=>?_) (λ_=>.mk rfl);exact sG hi (sG hi (vR (by simp) (hn trivial)))
theorem aBv{h:Host}(hb:sV h):jb h h=some true:=by have h1:=hb.values;refine Ok.eq ?_;unfold jb;refine ok_eq (aBu hb.graph) (vR rfl (vR (dB rfl) (cA (bu (by omega)) ?_)));refine agl h.values (λ_=>True) (λi cz hi hn=>?_) (λ_=>.mk rfl);exact sG hi (sG hi (ok_eq (auN (by have:=hb.row _ (nR hi);omega)) (vR rfl (hn trivial))))
theorem aC3{x:ax}(hx:j4 x):jc x x=some true:=by have h1:=hx.nodes;have h2:=hx.ak;refine Ok.eq ?_;unfold jc;exact ok_eq (aBv hx.host) (vR rfl (ok_eq (xO h1) (vR (dB rfl) (ok_eq (xO h2) (vR (dB rfl) (.mk (dB rfl)))))))
section
variable{t:Types}{a:ax}{p q:aG}
end
theorem apZ{l:List ah}(h:iA ah.id l):j7 l=l:=(aay h.xL).ext h λ_=>nJ
theorem ap0{l:List au}(h:iA au.id l):mc l=l:=(aaz h.xL).ext h λ_=>rO
theorem xX{a:ax}{p:aG}(h1:iA ah.id (lK a p++p.aR))(h2:iA au.id (oL a p++p.aP)):bD a p=dr (lK a p++p.aR) (oL a p++p.aP) p.next.x1:=by unfold bD;rw[apZ h1,ap0 h2]
def exT:Types:=(gO).get rfl
theorem aC4:gO=some exT:=rfl
theorem aB4:fC exT:=⟨by decide +kernel,by decide +kernel,by decide +kernel,by decide +kernel,by decide +kernel,by decide +kernel,by decide +kernel,by decide +kernel⟩
def exB:ax:=(gK).get rfl
theorem azs:gK=some exB:=rfl
def oc:aG:=⟨[⟨1,1,[10]⟩],[⟨3,0,0,1⟩],[],[],[],⟨5,5⟩⟩
def rU:aG:=⟨[],[],[],[⟨5,1,1,2⟩],[],⟨5,6⟩⟩
def exR:aG:=⟨[],[],[],[],[⟨2,0,5,7⟩],⟨5,5⟩⟩
theorem aq0:j4 exB:=⟨⟨⟨by decide,by decide⟩,by decide,by decide⟩,by decide,by decide⟩
theorem ap1:dX exT exB:=dm.1 (by decide +kernel)
theorem aq1:jf oc:=⟨by decide,by decide,by decide,by decide,by decide,by decide,by decide⟩
theorem aiq:bD exB oc=dr (lK exB oc++oc.aR) (oL exB oc++oc.aP) oc.next.x1:=xX (by decide +kernel) (by decide +kernel)
theorem aq2:cL exT exB oc:=⟨ap1,⟨by decide,by decide,by decide,by decide,by decide⟩,⟨by decide,by decide,by decide,by decide,by decide⟩,by decide,by decide +kernel,by decide +kernel,by decide +kernel,by decide +kernel,by rw[aiq];exact dm.1 (by decide +kernel)⟩
theorem air:aeg oc:=⟨by decide,by decide,by decide⟩
theorem aBw:jf rU:=⟨by decide,by decide,by decide,by decide,by decide,by decide,by decide⟩
theorem auO:bD exB rU=dr (lK exB rU++rU.aR) (oL exB rU++rU.aP) rU.next.x1:=xX (by decide +kernel) (by decide +kernel)
theorem aBx:cL exT exB rU:=⟨ap1,⟨by decide,by decide,by decide,by decide,by decide⟩,⟨by decide,by decide,by decide,by decide,by decide⟩,by decide,by decide +kernel,by decide +kernel,by decide +kernel,by decide +kernel,by rw[auO];exact dm.1 (by decide +kernel)⟩
theorem auP:aeg rU:=⟨by decide,by decide,by decide⟩
theorem aBy:jf exR:=⟨by decide,by decide,by decide,by decide,by decide,by decide,by decide⟩
theorem ais:bD exB exR=dr (lK exB exR++exR.aR) (oL exB exR++exR.aP) exR.next.x1:=xX (by decide +kernel) (by decide +kernel)
theorem aBz:cL exT exB exR:=⟨ap1,⟨by decide,by decide,by decide,by decide,by decide⟩,⟨by decide,by decide,by decide,by decide,by decide⟩,by decide,by decide +kernel,by decide +kernel,by decide +kernel,by decide +kernel,by rw[ais];exact dm.1 (by decide +kernel)⟩
theorem auQ:aeg exR:=⟨by decide,by decide,by decide⟩
theorem aIC:vj exT exB oc rU:=⟨aq2,aBx,air,auP,by decide⟩
theorem aE9:vj exT exB oc exR:=⟨aq2,aBz,air,auQ,by decide⟩
theorem auR:oz exB oc rU=[⟨1,1,-1⟩]:=by kernel_rfl
theorem auS:oz exB oc exR=[]:=by kernel_rfl
theorem ap2:xV exT exB oc rU=([⟨1,1,-1⟩],0):=by unfold xV;rw[if_neg (λh=>h (mQ.2 aIC)),auR];rfl
def exX:ax:=⟨⟨⟨[3,1],[⟨0,0,1⟩]⟩,[[],[5]]⟩,[0,2],[4],5⟩
theorem azt:bD exB oc=exX:=by rw[aiq];kernel_rfl
def exY:ax:=⟨⟨⟨[3,1],[⟨0,0,1⟩]⟩,[[],[7]]⟩,[0,2],[4],5⟩
theorem azu:bD exX (eD oc exR)=exY:=by rw[xX (by decide +kernel) (by decide +kernel)];kernel_rfl
theorem aBA:cL exT exX (eD oc exR):=⟨dm.1 (by decide +kernel),⟨by decide,by decide,by decide,by decide,by decide⟩,⟨by decide +kernel,by decide +kernel,by decide +kernel,by decide +kernel,by decide +kernel⟩,by decide +kernel,by decide +kernel,by decide +kernel,by decide +kernel,by decide +kernel,by rw[azu];exact dm.1 (by decide +kernel)⟩
theorem amR:fz exT exB oc exR=(exY,0):=by unfold fz tooMany;rw[azt,if_neg (by decide +kernel),nK aBA,azu]
theorem ap3:jx exB oc exR=⟨⟨⟨[3,1,1],[⟨0,0,1⟩,⟨0,0,2⟩]⟩,[[],[10],[7]]⟩,[0,1,2],[3,4],5⟩:=by rw[(adN aE9).1,ais];kernel_rfl
theorem azv:ahj exT exB oc exR exY=[]:=by unfold ahj;rw[azt,ap3];kernel_rfl
theorem ap4:wj exT exB oc exR=(exY,0):=by unfold wj aaC;rw[if_neg (λh=>h (mQ.2 aE9)),auS,amR,azv];rfl
theorem agm:fq=some true:=by unfold fq;rw[aT aC4,aT azs];show thn (iZ exT exB oc rU) _=_;rw[aT (show iZ exT exB oc rU=_ from amQ aB4 aq0 aq1 aBw),ap2];rw[aT azs];show thn (j8 exT exB oc exR) _=_;rw[aT (show j8 exT exB oc exR=_ from aqZ aB4 aq0 aq1 aBy),ap4];rw[dB rfl,cond_true,aT (azr (by simp)),cond_true,cond_true];show thn (gz [0,2] [0,2]) _=_;rw[aT (aej (by simp))];show thn (gz [7] [7]) (λr=>some r)=_;rw[aT (aej (by simp))]
theorem ait{σ O:Type}{f:Nat->σ->(σ->Option O)->(σ->Option O)->Option O}{K:σ->Option O}{bad:Option O}(n:Nat)(ok:Nat->Bool)(step:σ->Nat->σ)(inv:Nat->σ->Prop)
  (h:∀i s,i<n->inv i s->(ok i=true->inv (i+1) (step s i))/\∀cz,f i s cz K=cond (ok i) (cz (step s i)) bad):∀ (k i:Nat) (s:σ),i+k=n->inv i s ->
  bZ f k i s K=cond ((List.range' i k).all ok) (K ((List.range' i k).foldl step s)) bad
 |0,i,s,_,_=>rfl
 |k+1,i,s,hk,hi=>by
  obtain⟨h1,h2⟩:=h i s (by omega) hi;rw[bZ,h2,List.range'_succ,List.all_cons,List.foldl_cons];cases ho:ok i with
  |false=>rfl
  |true=>rw[Bool.true_and,cond_true];exact ait n ok step inv h k (i+1) _ (by omega) (h1 ho)
theorem aaD{σ O:Type}{f:Nat->σ->(σ->Option O)->(σ->Option O)->Option O}{K:σ->Option O}{bad:Option O}{s:σ}(n:Nat)(ok:Nat->Bool)(step:σ->Nat->σ)(inv:Nat->σ->Prop)(h0:inv 0 s)
  (h:∀i s,i<n->inv i s->(ok i=true->inv (i+1) (step s i))/\∀cz,f i s cz K=cond (ok i) (cz (step s i)) bad) :
  bZ f (n-0) 0 s K=cond ((List.range n).all ok) (K ((List.range n).foldl step s)) bad:=by
 rw[ait n ok step inv h (n-0) 0 s (by omega) h0,Nat.sub_zero,List.range_eq_range']
theorem aiu{α β γ:Type}(b:α->Bool)(f:α->β)(g:α->List γ):∀ (l:List α) (s:List β×List γ),l.foldl (λs a=>if b a=true then (s.1++[f a],s.2) else (s.1,s.2++g a)) s=(s.1++(l.filter b).map f,s.2++(l.filter λa=>!b a).flatMap g)
 | [],s=>by simp
 |a :: r,s=>by rw[List.foldl_cons,aiu b f g r,List.filter_cons,List.filter_cons];cases h:b a<;>simp
theorem aq3{α β:Type}(b:α->Bool)(f:α->β):∀ (l:List α) (s:List β),l.foldl (λs a=>if b a=true then s++[f a] else s) s=s++(l.filter b).map f
 | [],s=>by simp
 |a :: r,s=>by rw[List.foldl_cons,aq3 b f r,List.filter_cons];cases h:b a<;>simp
theorem amS{α β:Type}(q:β->Bool)(f:α->β)(l:List α):wQ q (l.map f)=wQ (λa=>q (f a)) l:=by unfold wQ;rw[List.findIdx?_map];rfl
theorem aBB{α:Type}{q:α->Bool}{l:List α}(h:0<=wQ q l):(wQ q l).toNat<l.length:=by
 unfold wQ at *;cases hf:l.findIdx? q with
 |none=>rw[hf] at h;exact absurd h (by decide)
 |some i=>obtain⟨hi,_⟩:=List.findIdx?_eq_some_iff_getElem.1 hf;simpa using hi
def mF(ids:List Int)(n:Int):Bool:=decide (bF ids n<0)
theorem uW{ids:List Int}{n:Int} : mF ids n=true↔n ∉ ids:=by unfold mF;rw[decide_eq_true_iff,<-iN];omega
def oB(a b:ax):List ah:=((List.range a.nodes.length).filter λi=>mF b.nodes (bn a i).id).map (bn a)
def sO(a b:ax):List au:=((List.range a.ak.length).filter λi=>mF b.ak (cW a i).id).map (cW a)
def okN(a b:ax)(i:Nat):Bool:=!decide (0<=bF b.ak (bn a i).id)&&(!decide (0<=bF b.nodes (bn a i).id)||decide ((bn b (bF b.nodes (bn a i).id).toNat).type=(bn a i).type))
def okD(a b:ax)(i:Nat):Bool:=!decide (0<=bF b.nodes (cW a i).id)&&(!decide (0<=bF b.ak (cW a i).id)||qU (cW b (bF b.ak (cW a i).id).toNat) (cW a i))
def z6(id:Int)(l m:List Int)(k:Nat):List aK:=if l.getD k default=m.getD k default then [] else [⟨id,(k:Int),l.getD k default,m.getD k default⟩]
def abO(a b:ax)(i:Nat):List aK:=(List.range (bn a i).values.length).flatMap (z6 (bn a i).id (bn a i).values (bn b (bF b.nodes (bn a i).id).toNat).values)
def wW(a b:ax):List aK:=((List.range a.nodes.length).filter λi=>!mF b.nodes (bn a i).id).flatMap (abO a b)
def uX:aG:=⟨[],[],[],[],[],⟨0,0⟩⟩
def j5(a b:ax):Bool:=(List.range a.nodes.length).all (okN a b)&&(List.range a.ak.length).all (okD a b)
def yu(a b:ax):aG×Bool:=if j5 a b=true then (⟨oB a b,sO a b,oB b a,sO b a,wW a b,⟨a.next,b.next⟩⟩,true) else (uX,false)
def z7(t:Types)(a b:ax):aG×Int :=
 if lq t a≠0 then (uX,lq t a)
 else if lq t b≠0 then (uX,lq t b)
 else if j5 a b=true then ((yu a b).1,0) else (uX,11)
section
variable{t:Types}{a b:ax}
theorem yw(h:dX t a)(hv:∀l∈a.host.values,l.length<=1000000):kS a=some (bC a):=by
 have hn:=h.n40;unfold kS;rw[bw (bu (by omega)),jQ a.nodes.length (λi=>[bn a i]) 1 (λ_ _=>Nat.le_refl _) λi hi s hs cz=>by
  have h1:i<a.host.graph.nodes.length:=by rw[<-h.rP];exact hi
  have h2:i<a.host.values.length:=by rw[h.host.adF];exact h1
  have h3:=hv _ (nR h2);rw[List.length_nil] at hs;rw[bS hi,bS h1,bS h2,aT (aee h3),bw (by omega)];unfold bn;simp[hi,h1,h2]]
 rw[List.nil_append,vF];rfl
theorem agn(hb:b.nodes.length<=1000000)(n:Int):jt (bC b) n=some (bF b.nodes n):=by unfold jt;rw[aT (nA (p:=λx=>kF x n) (λx=>decide (x.id=n)) (by rw[iC];exact hb) λx _=>rfl),<-amS (λy=>decide (y=n)) ah.id,rQ];rfl
theorem ago(hb:b.ak.length<=1000000)(n:Int):jv (ct b) n=some (bF b.ak n):=by unfold jv;rw[aT (nB (p:=λx=>kG x n) (λx=>decide (x.id=n)) (by rw[gT];exact hb) λx _=>rfl),<-amS (λy=>decide (y=n)) au.id,pY];rfl
theorem iO{ids:List Int}{n:Int}(h:0<=bF ids n):(bF ids n).toNat<ids.length:=aBB h
theorem abP(a:ax){i:Nat}(h:i<(bC a).length):(bC a)[i]=bn a i:=by simp[bC]
theorem abQ(a:ax){i:Nat}(h:i<(ct a).length):(ct a)[i]=cW a i:=by simp[ct]
theorem agp(ha:dX t a)(hb:dX t b){i j:Nat}(hi:i<a.nodes.length)(hj:j<b.nodes.length)(he:(bn b j).type=(bn a i).type):(bn b j).values.length=(bn a i).values.length:=by
 have key:∀ {x:ax},dX t x->∀ {k:Nat},k<x.nodes.length->(bn x k).values.length=(bg t (bn x k).type.toNat).length:=λ{x} hx {k} hk=>by
  have:=hx.host.node k (by rw[<-hx.rP];exact hk);unfold mI at this;split at this
  ·cases this
  ·split at this
   ·cases this
   ·split at this
    ·cases this
    ·rename_i h;exact Decidable.of_not_not h
 rw[key ha hi,key hb hj,he]
theorem agq(h:dX t a)(hb:sV a.host){i:Nat}(hi:i<a.nodes.length):(bn a i).values.length<=1000:=ji h hb _ (List.mem_map.2 ⟨i,List.mem_range.2 hi,rfl⟩)
theorem agr(id:Int)(l m:List Int)(k:Nat):(z6 id l m k).length<=1:=by unfold z6;split<;>simp
theorem ags(h:dX t a)(hb:sV a.host){i:Nat}(hi:i<a.nodes.length):(abO a b i).length<=1000:=by
 have:=agq h hb hi;unfold abO;have key:∀l:List Nat,(l.flatMap (z6 (bn a i).id (bn a i).values (bn b (bF b.nodes (bn a i).id).toNat).values)).length<=l.length:=λl=>by
  induction l with
  |nil=>simp
  |cons x r ih=>have h1:=agr (bn a i).id (bn a i).values (bn b (bF b.nodes (bn a i).id).toNat).values x;rw[List.flatMap_cons,List.length_append,List.length_cons];omega
 have:=key (List.range (bn a i).values.length);rw[List.length_range] at this;omega
def aq4(a b:ax)(s:List ah×List aK)(i:Nat):List ah×List aK:=if mF b.nodes (bn a i).id=true then (s.1++[bn a i],s.2) else (s.1,s.2++abO a b i)
theorem azw(ha:dX t a)(hb:dX t b)(ba:j4 a)(bb:j4 b):mh a b=some (yu a b):=by
 have n1:=ha.n40;have n2:=ha.e80;have n3:=hb.n40;have n4:=hb.e80;have r1:∀l∈a.host.values,l.length<=1000000:=λl hl=>Nat.le_trans (ba.host.row l hl) (by decide)
 have r2:∀l∈b.host.values,l.length<=1000000:=λl hl=>Nat.le_trans (bb.host.row l hl) (by decide)
 unfold mh;rw[aT (yw ha r1),aT (tf ha),aT (yw hb r2),aT (tf hb)];rw[iC,bw (bu (by omega))];rw[aaD (bad:=some (uX,false)) a.nodes.length (okN a b) (aq4 a b) (λi s=>s.1.length<=i/\s.2.length<=1000 * i) ⟨Nat.le_refl _,Nat.le_refl _⟩ λi s hi hs=>by
  have hv:=ags (b:=b) ha ba.host hi;have hrow:=agq ha ba.host hi;refine⟨λ_=>?_,λcz=>?_⟩
  ·unfold aq4;split
   ·exact⟨by simp only[List.length_append,List.length_cons,List.length_nil];omega,by simp only;omega⟩
   ·exact⟨by simp only;omega,by simp only[List.length_append];omega⟩
  ·have hi':i<(bC a).length:=by rw[iC];exact hi
   rw[bS hi',abP a hi',aT (agn (by omega) _),aT (ago (by omega) _)]
   have inner : ∀ m : List Int, m.length = (bn a i).values.length → ∀ f : Nat → List aK → (List aK → Option (aG × Bool)) → (List aK → Option (aG × Bool)) → Option (aG × Bool),
     (∀k s' yF brk,(hk:k<(bn a i).values.length)->(hk2:k<m.length)->s'.length<=1000000->f k s' yF brk=cond (decide ((bn a i).values[k]=m[k])) (yF s') (yF (s'++[⟨(bn a i).id,(k:Int),(bn a i).values[k],m[k]⟩]))) ->
     cC ((bn a i).values.length<=fuel) (bZ f ((bn a i).values.length-0) 0 s.2 λaFa=>cz (s.1,aFa))=cz (s.1,s.2++(List.range (bn a i).values.length).flatMap (z6 (bn a i).id (bn a i).values m)):=λm hm f hf=>by
    rw[bw (bu (by omega)),jQ (bn a i).values.length (z6 (bn a i).id (bn a i).values m) 1 (λk _=>agr _ _ _ k) λk hk s' hs' yF=>by
     rw[hf k s' yF _ hk (by omega) (by omega),aX];have e1:(bn a i).values.getD k default=(bn a i).values[k]:=by simp[hk]
     have e2:m.getD k default=m[k]'(by omega):=by simp[show k<m.length by omega]
     unfold z6;rw[e1,e2];split
     ·rw[List.append_nil]
     ·rfl]
   unfold okN aq4 mF;by_cases c1:0<=bF b.ak (bn a i).id
   ·rw[dB c1,cond_true];rfl
   rw[eT c1,cond_false,Bool.not_false,Bool.true_and];by_cases c2:0<=bF b.nodes (bn a i).id
   ·have c3:¬ bF b.nodes (bn a i).id<0:=by omega
    have hj:=iO c2;have hj':(bF b.nodes (bn a i).id).toNat<(bC b).length:=by rw[iC];exact hj
    rw[dB c2,cond_true,fS c2 hj',abP b hj',Bool.not_true,Bool.false_or];by_cases c4:(bn b (bF b.nodes (bn a i).id).toNat).type=(bn a i).type
    ·rw[dB c4,cond_true,cond_true,eT c3,cond_false,if_neg (by decide)];have hl:=agp ha hb hi hj c4;rw[inner _ hl _ λk s' yF brk hk hk2 hs'=>by rw[bS hk,bS hk2,bw (by omega)]];rfl
    ·rw[eT c4,cond_false,cond_false];rfl
   ·have c3:bF b.nodes (bn a i).id<0:=by omega
    rw[eT c2,cond_false,Bool.not_false,Bool.true_or,cond_true,dB c3,cond_true,if_pos rfl,bw (by omega)]]
 cases hN:(List.range a.nodes.length).all (okN a b) with
 |false=>unfold yu j5;rw[hN,cond_false];rfl
 |true =>
 rw[cond_true];have aqi:(List.range a.nodes.length).foldl (aq4 a b) ([],[])=(oB a b,wW a b):=by have:=aiu (λi=>mF b.nodes (bn a i).id) (bn a) (abO a b) (List.range a.nodes.length) ([],[]);rw[List.nil_append,List.nil_append] at this;exact this
 rw[aqi,gT,bw (bu (by omega))];rw[aaD (bad:=some (uX,false)) a.ak.length (okD a b) (λs i=>if mF b.ak (cW a i).id=true then s++[cW a i] else s) (λi s=>s.length<=i) (Nat.le_refl _) λi s hi hs=>by
  refine⟨λ_=>?_,λcz=>?_⟩
  ·split
   ·rw[List.length_append,List.length_singleton];omega
   ·omega
  ·have hi':i<(ct a).length:=by rw[gT];exact hi
   rw[bS hi',abQ a hi',aT (ago (by omega) _),aT (agn (by omega) _)];unfold okD mF;by_cases c1:0<=bF b.nodes (cW a i).id
   ·rw[dB c1,cond_true];rfl
   rw[eT c1,cond_false,Bool.not_false,Bool.true_and];by_cases c2:0<=bF b.ak (cW a i).id
   ·have c3:¬ bF b.ak (cW a i).id<0:=by omega
    have hj:=iO c2;have hj':(bF b.ak (cW a i).id).toNat<(ct b).length:=by rw[gT];exact hj
    rw[dB c2,cond_true,fS c2 hj',abQ b hj',Bool.not_true,Bool.false_or,eT c3,cond_false,if_neg (by decide)];rfl
   ·have c3:bF b.ak (cW a i).id<0:=by omega
    rw[eT c2,cond_false,Bool.not_false,Bool.true_or,cond_true,dB c3,cond_true,if_pos rfl,bw (by omega)]]
 cases hE:(List.range a.ak.length).all (okD a b) with
 |false=>unfold yu j5;rw[hE,cond_false,Bool.and_false];rfl
 |true =>
 rw[cond_true,iC,bw (bu (by omega)),aq3 (λi=>mF b.ak (cW a i).id) (cW a)]
 have aFb : ∀ (f : Nat → List ah → (List ah → Option (aG × Bool)) → (List ah → Option (aG × Bool)) → Option (aG × Bool)) (K : List ah → Option (aG × Bool)),
   (∀k s' yF,(hk:k<(bC b).length)->s'.length<=1000000->f k s' yF K=cond (mF a.nodes (bn b k).id) (yF (s'++[bn b k])) (yF s'))->bZ f (b.nodes.length-0) 0 [] K=K (oB b a):=λf K hf=>by
  rw[jQ b.nodes.length (λi=>if mF a.nodes (bn b i).id=true then [bn b i] else []) 1 (λi _=>by split<;>simp) λi hi s' hs' cz=>by
   rw[List.length_nil] at hs';rw[hf i s' cz (by rw[iC];exact hi) (by omega)];cases mF a.nodes (bn b i).id
   ·simp
   ·simp]
  rw[List.nil_append,jV];rfl
 rw[aFb _ _ λk s' yF hk hs'=>by rw[bS hk,abP b hk,aT (agn (by omega) _),bw (by omega)];rfl]
 have aC5 : ∀ (f : Nat → List au → (List au → Option (aG × Bool)) → (List au → Option (aG × Bool)) → Option (aG × Bool)) (K : List au → Option (aG × Bool)),
   (∀k s' yF,(hk:k<(ct b).length)->s'.length<=1000000->f k s' yF K=cond (mF a.ak (cW b k).id) (yF (s'++[cW b k])) (yF s'))->bZ f (b.ak.length-0) 0 [] K=K (sO b a):=λf K hf=>by
  rw[jQ b.ak.length (λi=>if mF a.ak (cW b i).id=true then [cW b i] else []) 1 (λi _=>by split<;>simp) λi hi s' hs' cz=>by
   rw[List.length_nil] at hs';rw[hf i s' cz (by rw[gT];exact hi) (by omega)];cases mF a.ak (cW b i).id
   ·simp
   ·simp]
  rw[List.nil_append,jV];rfl
 rw[gT,bw (bu (by omega)),aC5 _ _ λk s' yF hk hs'=>by rw[bS hk,abQ b hk,aT (ago (by omega) _),bw (by omega)];rfl];unfold yu j5;rw[hN,hE];rfl
theorem agt(ht:fC t)(ba:j4 a)(bb:j4 b):mj t a b=some (z7 t a b):=by
 unfold mj z7;rw[aT (show fO t a=_ from nC ht ba),aX];by_cases h1:lq t a=0;rotate_left
 ·rw[if_neg h1,if_pos h1];rfl
 rw[if_pos h1,if_neg (λh=>h h1),aT (show fO t b=_ from nC ht bb),aX];by_cases h2:lq t b=0;rotate_left
 ·rw[if_neg h2,if_pos h2];rfl
 rw[if_pos h2,if_neg (λh=>h h2),aT (azw (dm.1 h1) (dm.1 h2) ba bb)];unfold yu;split
 ·rfl
 ·rfl
end
section
variable{t:Types}{a b:ax}
theorem qH{a:ax}{i:Nat}(h:i<a.nodes.length):(bn a i).id=a.nodes[i]:=by unfold bn;simp[h]
theorem acU{a:ax}{i:Nat}(h:i<a.ak.length):(cW a i).id=a.ak[i]:=by unfold cW;simp[h]
theorem aiv(ha:dX t a)(hb:dX t b)(ba:j4 a):fG a b=some (oB a b,sO a b):=by
 have n1:=ha.n40;have n2:=ha.e80;have n3:=hb.n40;have n4:=hb.e80;have r1:∀l∈a.host.values,l.length<=1000000:=λl hl=>Nat.le_trans (ba.host.row l hl) (by decide)
 unfold fG;rw[bw (bu (by omega)),jQ a.nodes.length (λi=>if mF b.nodes (bn a i).id=true then [bn a i] else []) 1 (λi _=>by split<;>simp) λi hi s hs cz=>by
  rw[List.length_nil] at hs;rw[bS hi,aT (dc (by omega) _),aT (ay2 ha hi r1),bw (by omega),<-qH hi];show cond (mF b.nodes (bn a i).id) _ _=_;cases mF b.nodes (bn a i).id
  ·simp
  ·simp]
 rw[List.nil_append,jV,bw (bu (by omega)),jQ a.ak.length (λi=>if mF b.ak (cW a i).id=true then [cW a i] else []) 1 (λi _=>by split<;>simp) λi hi s hs cz=>by
  rw[List.length_nil] at hs;rw[bS hi,aT (dc (by omega) _),aT (ajQ ha hi),bw (by omega),<-acU hi];show cond (mF b.ak (cW a i).id) _ _=_;cases mF b.ak (cW a i).id
  ·simp
  ·simp]
 rw[List.nil_append,jV];rfl
theorem aBC(ha:dX t a)(hb:dX t b):iJ a b=some (j5 a b):=by
 have n1:=ha.n40;have n2:=ha.e80;have n3:=hb.n40;have n4:=hb.e80;unfold iJ j5;rw[bw (bu (by omega)),aaD (bad:=some false) a.nodes.length (okN a b) (λs _=>s) (λ_ _=>True) trivial λi s hi hs=>⟨λ_=>trivial,λcz=>by
  have h1:i<a.host.graph.nodes.length:=by rw[<-ha.rP];exact hi
  rw[bS hi,aT (dc (by omega) _),aT (dc (by omega) _),<-qH hi];show cond (decide (0<=bF b.ak (bn a i).id)) _ (cond (decide (0<=bF b.nodes (bn a i).id)) (thn a.host.graph.nodes[i]? λaJF=>thn (mJ b.host.graph.nodes (bF b.nodes (bn a i).id)) _) _)=_;unfold okN;by_cases c1:0<=bF b.ak (bn a i).id
  ·rw[dB c1,cond_true];rfl
  rw[eT c1,cond_false,Bool.not_false,Bool.true_and];by_cases c2:0<=bF b.nodes (bn a i).id
  ·have hj:=iO c2;have hj':(bF b.nodes (bn a i).id).toNat<b.host.graph.nodes.length:=by rw[<-hb.rP];exact hj
   rw[dB c2,cond_true,bS h1,fS c2 hj',Bool.not_true,Bool.false_or];have e1:(bn a i).type=a.host.graph.nodes[i]:=by unfold bn;simp[h1]
   have e2:(bn b (bF b.nodes (bn a i).id).toNat).type=b.host.graph.nodes[(bF b.nodes (bn a i).id).toNat]:=by show b.host.graph.nodes.getD _ default=_;simp[hj']
   rw[e1,e2];by_cases c4:a.host.graph.nodes[i]=b.host.graph.nodes[(bF b.nodes (bn a i).id).toNat]
   ·rw[dB c4,dB c4.symm]
   ·rw[eT c4,eT λh=>c4 h.symm]
  ·rw[eT c2,cond_false,Bool.not_false,Bool.true_or,cond_true]⟩]
 cases hN:(List.range a.nodes.length).all (okN a b) with
 |false=>rfl
 |true =>
 rw[cond_true,bw (bu (by omega)),aaD (bad:=some false) a.ak.length (okD a b) (λs _=>s) (λ_ _=>True) trivial λi s hi hs=>⟨λ_=>trivial,λcz=>by
  rw[bS hi,aT (dc (by omega) _),aT (dc (by omega) _),<-acU hi];show cond (decide (0<=bF b.nodes (cW a i).id)) _ (cond (decide (0<=bF b.ak (cW a i).id)) (thn (dA a i) λaJG=>thn (dA b (bF b.ak (cW a i).id)) _) _)=_;unfold okD;by_cases c1:0<=bF b.nodes (cW a i).id
  ·rw[dB c1,cond_true];rfl
  rw[eT c1,cond_false,Bool.not_false,Bool.true_and];by_cases c2:0<=bF b.ak (cW a i).id
  ·have hj:=iO c2;have aB5:=ajQ hb hj;rw[show (((bF b.ak (cW a i).id).toNat:Nat):Int)=bF b.ak (cW a i).id by omega] at aB5;rw[dB c2,cond_true,aT (ajQ ha hi),aT aB5,Bool.not_true,Bool.false_or];have:(decide ((cW a i).id=(cW b (bF b.ak (cW a i).id).toNat).id)&&(decide ((cW a i).type=(cW b (bF b.ak (cW a i).id).toNat).type)&&(decide ((cW a i).src=(cW b (bF b.ak (cW a i).id).toNat).src)&&decide ((cW a i).dst=(cW b (bF b.ak (cW a i).id).toNat).dst))))=qU (cW b (bF b.ak (cW a i).id).toNat) (cW a i):=by unfold qU;simp only[eq_comm]
   rw[this]
  ·rw[eT c2,cond_false,Bool.not_false,Bool.true_or,cond_true]⟩]
 cases (List.range a.ak.length).all (okD a b)<;>rfl
theorem adO{O:Type}(id:Int)(l m:List Int)(hm:m.length=l.length)(hl:l.length<=1000000){f:Int×List aK->(Int×List aK->Option O)->(Int×List aK->Option O)->Option O}{K:Int×List aK->Option O}
  (h:∀k s cz,(hk:k<l.length)->(hk2:k<m.length)->s.length<=2000000->f ((k:Int),s) cz K=cond (decide (l[k]=m[k])) (cz (i64.wrap ((k:Int)+1),s)) (cz (i64.wrap ((k:Int)+1),s++[⟨id,(k:Int),l[k],m[k]⟩]))) (he:∀s cz,f ((l.length:Int),s) cz K=K ((l.length:Int),s)) :
  ∀ (d k:Nat) (s:List aK) (n:Nat),k+d=l.length->d<n->s.length<=1000000+k->iter f n ((k:Int),s) K=K ((l.length:Int),s++(List.range' k d).flatMap (z6 id l m))
 |0,k,s,n,hd,hn,hs=>by
  obtain⟨n,rfl⟩:∃j,n=j+1:=⟨n-1,by omega⟩;rw[iter];obtain rfl:k=l.length:=by omega
  rw[he];simp
 |d+1,k,s,n,hd,hn,hs=>by
  obtain⟨n,rfl⟩:∃j,n=j+1:=⟨n-1,by omega⟩;have hk:k<l.length:=by omega
  rw[iter,h k s _ hk (by omega) (by omega),dJ (by omega),aX,List.range'_succ,List.flatMap_cons];have e1:l.getD k default=l[k]:=by simp[hk]
  have e2:m.getD k default=m[k]'(by omega):=by simp[show k<m.length by omega]
  have hv:z6 id l m k=if l[k]=m[k]'(by omega) then [] else [⟨id,(k:Int),l[k],m[k]'(by omega)⟩]:=by unfold z6;rw[e1,e2]
  rw[hv,show ((k:Int)+1)=((k+1:Nat):Int) by omega];split
  ·rw[adO id l m hm hl h he d (k+1) _ n (by omega) (by omega) (by omega),List.nil_append]
  ·rw[adO id l m hm hl h he d (k+1) _ n (by omega) (by omega) (by rw[List.length_append,List.length_singleton];omega),List.append_assoc]
theorem aiw{α β:Type}(b:α->Bool)(g:α->List β):∀l:List α,l.flatMap (λa=>if b a=true then [] else g a)=(l.filter λa=>!b a).flatMap g
 | []=>rfl
 |a :: r=>by rw[List.flatMap_cons,aiw b g r,List.filter_cons];cases b a<;>simp
theorem amT(hall:(List.range a.nodes.length).all (okN a b)=true){i:Nat}(hi:i<a.nodes.length)(c2:0<=bF b.nodes (bn a i).id):(bn b (bF b.nodes (bn a i).id).toNat).type=(bn a i).type:=by have:=List.all_eq_true.1 hall i (List.mem_range.2 hi);unfold okN at this;rw[dB c2,Bool.not_true,Bool.false_or,Bool.and_eq_true] at this;exact cm this.2
theorem aC6(ha:dX t a)(hb:dX t b)(ba:j4 a)(bb:j4 b):iX a b=some (yu a b):=by
  have n1:=ha.n40;have n2:=ha.e80;have n3:=hb.n40;have n4:=hb.e80;unfold iX yu;rw[aT (aBC ha hb)];cases hg:j5 a b with
  |false=>rw[cond_false];rfl
  |true =>
  have hN:(List.range a.nodes.length).all (okN a b)=true:=by unfold j5 at hg;rw[Bool.and_eq_true] at hg;exact hg.1
  rw[cond_true,aT (aiv ha hb ba),aT (aiv hb ha bb),bw (bu (by omega)),if_pos rfl];rw[jQ a.nodes.length (λi=>if mF b.nodes (bn a i).id=true then [] else abO a b i) 1000 (λi hi=>by
    have:=ags (b:=b) ha ba.host hi;split
    · simp
    · exact this) λi hi s hs cz=>by
    rw[List.length_nil] at hs;have h2:i<a.host.values.length:=by rw[ha.host.adF,<-ha.rP];exact hi
    have hrow:=agq ha ba.host hi;rw[bS hi,aT (dc (by omega) _),<-qH hi];show cond (mF b.nodes (bn a i).id) _ (iter _ fuel (0,s) _)=_;by_cases c2:0<=bF b.nodes (bn a i).id
    · have ho:mF b.nodes (bn a i).id=false:=eT (by omega);have hj:=iO c2;have hj2:(bF b.nodes (bn a i).id).toNat<b.host.values.length:=by rw[hb.host.adF,<-hb.rP];exact hj
      have hty:=amT hN hi c2;have hl:=agp ha hb hi hj hty;have e1:a.host.values[i]=(bn a i).values:=by unfold bn;simp[h2]
      have e2:b.host.values[(bF b.nodes (bn a i).id).toNat]=(bn b (bF b.nodes (bn a i).id).toNat).values:=by show _=b.host.values.getD _ default;simp[hj2]
      rw[ho,cond_false,if_neg (by decide)];have:=adO (O:=aG×Bool) (bn a i).id (bn a i).values _ hl (by omega) (K:=λwX=>cz wX.2) (f:=λ(wX:Int×(List aK)) amU azx =>
    thn (a.host.values[i]?) λaB6 =>
    cond (decide (wX.1<((aB6.length:Nat):Int))) (
     thn (mJ aB6 wX.1) λaB7 =>
     thn (mJ b.host.values (bF b.nodes (bn a i).id)) λaFc =>
     thn (mJ aFc wX.1) λaB8 =>
     cond (decide (aB7=aB8)) (
      amU ((i64.wrap (wX.1+1)),wX.2)) <|
     cC (wX.2.length+1<=68719476736) <|
     amU ((i64.wrap (wX.1+1)),(wX.2++[(⟨(bn a i).id,wX.1,aB7,aB8⟩:aK)]))) <|
    azx (wX.1, wX.2)) (fun k s' yF hk hk2 hs' => by
        dsimp only;rw[bS h2,e1,dB (by omega),cond_true,fS (by omega) (by simpa using hk),fS c2 hj2,e2,fS (by omega) (by simpa using hk2),bw (by omega)];rfl) (λs' yF=>by
        dsimp only;rw[bS h2,e1,eT (by omega),cond_false]) (bn a i).values.length 0 s fuel (by omega) (by unfold fuel;omega) (by omega)
      rw[<-List.range_eq_range'] at this;exact this
    · have ho:mF b.nodes (bn a i).id=true:=dB (by omega);rw[ho,cond_true,if_pos rfl,List.append_nil]]
  rw[List.nil_append,aiw];rfl
theorem aq5(ht:fC t)(ba:j4 a)(bb:j4 b):gI t a b=some (z7 t a b):=by
 unfold gI z7;rw[aT (show b8 t a=_ from mz ht ba),aX];by_cases h1:lq t a=0;rotate_left
 ·rw[if_neg h1,if_pos h1];rfl
 rw[if_pos h1,if_neg (λh=>h h1),aT (show b8 t b=_ from mz ht bb),aX];by_cases h2:lq t b=0;rotate_left
 ·rw[if_neg h2,if_pos h2];rfl
 rw[if_pos h2,if_neg (λh=>h h2),aT (aC6 (dm.1 h1) (dm.1 h2) ba bb)];unfold yu;split
 ·rfl
 ·rfl
def aeM(t:Types)(a:ax)(p q:aG):aG×Int :=
 if ow t a p q≠0 then (uX,ow t a p q)
 else if 0<(oz a p q).length then (uX,11)
 else if (fz t a p q).2≠0 then (uX,(fz t a p q).2)
 else z7 t (bD a p) (fz t a p q).1
variable{p q:aG}
theorem azy(ht:fC t)(hb:j4 a)(hp:jf p)(hq:jf q):ou t a p q=some (aeM t a p q):=by
 unfold ou aeM;rw[aT (show jB t a p q=_ from wg ht hb hp hq),aX];by_cases h0:ow t a p q=0;rotate_left
 ·rw[if_neg h0,if_pos h0];rfl
 have h:=mQ.1 h0;rw[if_pos h0,if_neg (λh=>h h0),aT (p0 h.ap h.aq hb.host),aaB h.ap h.aq,aX];by_cases h1:0<(oz a p q).length
 ·rw[if_pos (by omega),if_pos h1];rfl
 rw[if_neg (by omega),if_neg h1];obtain⟨x,e,ex⟩:=uV ht h hb hp hq;rw[aT e,aX];by_cases h2:(fz t a p q).2=0
 ·rw[if_pos h2,if_neg (λh=>h h2),ex h2];obtain⟨k1,k2⟩:=xW hb h hp hq h2;rw[aT (show mj ⟨t.nodes,t.ak⟩ _ _=_ from agt ht (h.ap.ahg hb.host hp) k2)]
 ·rw[if_neg h2,if_pos h2];rfl
structure aFd(p:aG):Prop where
 rn:p.az.length<=1000000
 re:p.aF.length<=1000000
 an:p.aR.length<=1000000
 ae:p.aP.length<=1000000
 va:p.values.length<=1000000
 rr:∀n∈p.az,n.values.length<=1000000
 ar:∀n∈p.aR,n.values.length<=1000000
theorem adP:aFd uX:=⟨by simp[uX],by simp[uX],by simp[uX],by simp[uX],by simp[uX],λn hn=>(by cases hn),λn hn=>(by cases hn)⟩
theorem aaE{n:ah}(h:n∈oB a b):n∈bC a:=by obtain⟨i,hi,rfl⟩:=List.mem_map.1 h;exact List.mem_map.2 ⟨i,(List.mem_filter.1 hi).1,rfl⟩
theorem aaF:(oB a b).length<=a.nodes.length:=by unfold oB;rw[List.length_map];exact Nat.le_trans (List.length_filter_le _ _) (by simp)
theorem aaG:(sO a b).length<=a.ak.length:=by unfold sO;rw[List.length_map];exact Nat.le_trans (List.length_filter_le _ _) (by simp)
theorem acV{α β:Type}(g:α->List β)(k:Nat):∀l:List α,(∀a∈l,(g a).length<=k)->(l.flatMap g).length<=k * l.length
 | [],_=>by simp
 |a :: r,h=>by
  have h1:=h a (List.mem_cons_self ..);have h2:=acV g k r λx hx=>h x (List.mem_cons_of_mem _ hx)
  rw[List.flatMap_cons,List.length_append,List.length_cons,Nat.mul_add];omega
theorem auT(ha:dX t a)(ba:j4 a):(wW a b).length<=40000:=by
 have n1:=ha.n40;have:=acV (abO a b) 1000 ((List.range a.nodes.length).filter λi=>!mF b.nodes (bn a i).id) λi hi=>ags ha ba.host (List.mem_range.1 (List.mem_filter.1 hi).1)
 have h2:=List.length_filter_le (λi=>!mF b.nodes (bn a i).id) (List.range a.nodes.length);rw[List.length_range] at h2;unfold wW;omega
theorem auU(ba:j4 a)(bb:j4 b):aFd (z7 t a b).1:=by
 unfold z7;split
 ·exact adP
 rename_i h1;split
 ·exact adP
 rename_i h2;have ha:=dm.1 (Decidable.of_not_not h1);have hb:=dm.1 (Decidable.of_not_not h2);have n1:=ha.n40;have n2:=ha.e80;have n3:=hb.n40;have n4:=hb.e80;split
 ·rename_i h3;unfold yu;rw[if_pos h3];have l1:=@aaF a b;have l2:=@aaG a b;have l3:=@aaF b a;have l4:=@aaG b a;have l5:=auT (b:=b) ha ba;exact⟨by dsimp only;omega,by dsimp only;omega,by dsimp only;omega,by dsimp only;omega,by dsimp only;omega,λn hn=>Nat.le_trans (ji ha ba.host n (aaE hn)) (by decide),λn hn=>Nat.le_trans (ji hb bb.host n (aaE hn)) (by decide)⟩
 ·exact adP
end
section
variable{t:Types}{a b:ax}
theorem agu{ids:List Int}{n:Int}(h:0<=bF ids n):ids[(bF ids n).toNat]? = some n:=by
 unfold bF wQ at *;cases hf:ids.findIdx? λy=>decide (y=n) with
 |none=>rw[hf] at h;exact absurd h (by decide)
 |some i=>obtain⟨hi,h1,_⟩:=List.findIdx?_eq_some_iff_getElem.1 hf;show ids[((i:Nat):Int).toNat]? = some n;rw[Int.toNat_natCast,List.getElem?_eq_getElem hi,cm h1]
theorem adQ{ids:List Int}{n:Int}(h:0<=bF ids n):ids[(bF ids n).toNat]'(iO h)=n:=by have:=agu h;rw[List.getElem?_eq_getElem (iO h)] at this;exact Option.some.inj this
theorem aix{ids:List Int}(h:iA id ids){i:Nat}(hi:i<ids.length):bF ids ids[i]=(i:Int):=by have h0:0<=bF ids ids[i]:=iN.2 (nR hi);have h1:=adQ h0;have:=h.apP (iO h0) hi h1;omega
theorem amV{ids:List Int}{n:Int} : (!mF ids n)=true↔n∈ids:=by rw[Bool.not_eq_true',Bool.eq_false_iff,Ne,uW];exact Decidable.not_not
theorem aeN(h:dX t b){n:Int}(h0:0<=bF b.nodes n):(bn b (bF b.nodes n).toNat).id=n:=by rw[qH (iO h0)];exact adQ h0
theorem aq6(h:dX t b){n:Int}(h0:0<=bF b.ak n):(cW b (bF b.ak n).toNat).id=n:=by rw[acU (iO h0)];exact adQ h0
theorem rS{i:Nat}(h:i<a.nodes.length):bn a i∈bC a:=List.mem_map.2 ⟨i,List.mem_range.2 h,rfl⟩
theorem rT{i:Nat}(h:i<a.ak.length):cW a i∈ct a:=List.mem_map.2 ⟨i,List.mem_range.2 h,rfl⟩
theorem adR{i:Nat}(h:kK t i=0):(bg t i).length<=8:=by
 unfold kK at h;split at h
 ·cases h
 split at h
 ·cases h
 split at h
 ·cases h
 split at h
 ·cases h
 split at h
 ·cases h
 ·omega
theorem azz(ht:fC t)(ha:dX t a){i:Nat}(hi:i<a.nodes.length):(bn a i).values.length<=8:=by
 have hT:=rY ht ha.host.types;have hp:=hT.pos;have:=ha.host.node i (by rw[<-ha.rP];exact hi);unfold mI at this;split at this
 ·cases this
 rename_i h1;split at this
 ·cases this
 split at this
 ·cases this
 rename_i h2;have h2:=Decidable.of_not_not h2;have h3:=adR (hT.node (a.host.graph.nodes.getD i default).toNat (by omega));show (a.host.values.getD i default).length<=8;omega
theorem acW:oB a b=(bC a).filter λn=>mF b.nodes n.id:=by unfold oB bC;rw[List.filter_map];rfl
theorem acX:sO a b=(ct a).filter λn=>mF b.ak n.id:=by unfold sO ct;rw[List.filter_map];rfl
theorem wY{n:ah} : n∈oB a b↔n∈bC a/\n.id ∉ b.nodes:=by rw[acW,List.mem_filter,uW]
theorem wZ{n:au} : n∈sO a b↔n∈ct a/\n.id ∉ b.ak:=by rw[acX,List.mem_filter,uW]
def yx(a b:ax):List Nat:=(List.range a.nodes.length).filter λi=>!mF b.nodes (bn a i).id
theorem aaH{i:Nat} : i∈yx a b↔i<a.nodes.length/\(bn a i).id∈b.nodes:=by unfold yx;rw[List.mem_filter,List.mem_range,amV]
theorem ap5:less dV (bC a) (oB a b)=(yx a b).map (bn a):=by
 have e:less dV (bC a) (oB a b)=(bC a).filter λn=>!mF b.nodes n.id:=by
  unfold less;refine List.filter_congr λm hm=>?_
  congr 1;rw[Bool.eq_iff_iff,List.any_eq_true];constructor
  ·rintro⟨n,hn,h⟩;have:=oK.1 h;subst this;exact uW.2 (wY.1 hn).2
  ·intro h;exact⟨m,wY.2 ⟨hm,uW.1 h⟩,oK.2 rfl⟩
 rw[e];unfold bC yx;rw[List.filter_map];rfl
theorem agv:less qU (ct a) (sO a b)=(ct a).filter λn=>!mF b.ak n.id:=by
 unfold less;refine List.filter_congr λm hm=>?_
 congr 1;rw[Bool.eq_iff_iff,List.any_eq_true];constructor
 ·rintro⟨n,hn,h⟩;have:=xM.1 h;subst this;exact uW.2 (wZ.1 hn).2
 ·intro h;exact⟨m,wZ.2 ⟨hm,uW.1 h⟩,xM.2 rfl⟩
theorem agw:∀ (r1 r2:List aK) (l m:List ah),dH l r1=(m,true)->dH l (r1++r2)=dH m r2
 | [],r2,l,m,h=>by rw[dH] at h;cases h;rfl
 |v :: r,r2,l,m,h=>by
  rw[dH] at h;rw[List.cons_append,dH];split at h
  ·rename_i h1;rw[if_pos h1];exact agw r r2 _ m h
  ·cases h
theorem agx{v:aK}{l:List ah}(h:∀n∈l,n.id≠v.id):l.map (ng v)=l:=by
 refine (List.map_congr_left λn hn=>?_).trans (List.map_id l);unfold ng;rw[if_neg]
 ·rfl
 ·intro hf;unfold j9 at hf;rw[Bool.and_eq_true] at hf;exact h n hn (cm hf.1)
theorem take_set{l m:List Int}{k:Nat}(hk:k<l.length)(hm:k<m.length):(m.take k++l.drop k).set k m[k]=m.take (k+1)++l.drop (k+1):=by rw[List.set_append,if_neg (by rw[List.length_take];omega),List.length_take,Nat.min_eq_left (by omega),Nat.sub_self,List.drop_eq_getElem_cons hk,List.set_cons_zero,List.take_succ_eq_append_getElem hm,List.append_assoc];rfl
theorem auV{l m:List Int}{k:Nat}(hk:k<l.length)(hm:k<m.length)(e:l[k]=m[k]):m.take k++l.drop k=m.take (k+1)++l.drop (k+1):=by rw[List.drop_eq_getElem_cons hk,e,List.take_succ_eq_append_getElem hm,List.append_assoc];rfl
theorem adS(id ty:Int)(l m:List Int)(hm:m.length=l.length)(pre post:List ah)(h1:∀n∈pre,n.id≠id)(h2:∀n∈post,n.id≠id):∀ (d k:Nat),k+d=l.length ->
  dH (pre++⟨id,ty,m.take k++l.drop k⟩ :: post) ((List.range' k d).flatMap (z6 id l m))=(pre++⟨id,ty,m⟩ :: post,true)
 |0,k,hk=>by rw[List.drop_eq_nil_of_le (by omega),List.take_of_length_le (by omega),List.append_nil];rfl
 |d+1,k,hk=>by
  have pU:k<l.length:=by omega
  have hkm:k<m.length:=by omega
  rw[List.range'_succ,List.flatMap_cons];have e1:l.getD k default=l[k]:=by simp[pU]
  have e2:m.getD k default=m[k]:=by simp[hkm]
  have hv:z6 id l m k=if l[k]=m[k] then [] else [⟨id,(k:Int),l[k],m[k]⟩]:=by unfold z6;rw[e1,e2]
  rw[hv];split
  ·rename_i e;rw[List.nil_append,auV pU hkm e];exact adS id ty l m hm pre post h1 h2 d (k+1) (by omega)
  ·rename_i hne;have hat:(m.take k++l.drop k).getD k default=l[k]:=by rw[List.getD_eq_getElem?_getD,List.getElem?_append_right (by rw[List.length_take];omega),List.length_take,Nat.min_eq_left (by omega),Nat.sub_self,List.getElem?_drop,Nat.add_zero,List.getElem?_eq_getElem pU];rfl
   have hfit:j9 ⟨id,(k:Int),l[k],m[k]⟩ ⟨id,ty,m.take k++l.drop k⟩=true:=by
    unfold j9 okV;simp only[Int.toNat_natCast,hat];have c1:¬ ((k:Int)<0):=by omega
    have c2:¬ (((m.take k++l.drop k).length:Int)<=(k:Int)):=by rw[List.length_append,List.length_take,List.length_drop];omega
    have c3:¬ m[k]=l[k]:=λh=>hne h.symm
    rw[eT c1,eT c2,eT c3];rfl
   rw[List.singleton_append,dH,if_pos (List.any_eq_true.2 ⟨_,List.mem_append_right _ (List.mem_cons_self ..),hfit⟩)];rw[List.map_append,List.map_cons,agx (v:=⟨id,(k:Int),l[k],m[k]⟩) h1,agx (v:=⟨id,(k:Int),l[k],m[k]⟩) h2];have hp:ng ⟨id,(k:Int),l[k],m[k]⟩ ⟨id,ty,m.take k++l.drop k⟩=⟨id,ty,m.take (k+1)++l.drop (k+1)⟩:=by unfold ng;rw[if_pos hfit];simp only[Int.toNat_natCast,take_set pU hkm]
   rw[hp];exact adS id ty l m hm pre post h1 h2 d (k+1) (by omega)
def ajV(a b:ax)(i:Nat):ah:=⟨(bn a i).id,(bn a i).type,(bn b (bF b.nodes (bn a i).id).toNat).values⟩
theorem agy:∀ (r:List Nat) (pre:List ah),(∀i∈r,(bn b (bF b.nodes (bn a i).id).toNat).values.length=(bn a i).values.length)->(∀i∈r,∀n∈pre,n.id≠(bn a i).id)->r.Pairwise (λi j=>(bn a i).id≠(bn a j).id) ->
  dH (pre++r.map (bn a)) (r.flatMap (abO a b))=(pre++r.map (ajV a b),true)
 | [],pre,_,_,_=>rfl
 |i :: r,pre,hl,hp,hd=>by
  rw[List.pairwise_cons] at hd;rw[List.map_cons,List.flatMap_cons];have hg:=adS (bn a i).id (bn a i).type (bn a i).values _ (hl i (List.mem_cons_self ..)) pre (r.map (bn a)) (hp i (List.mem_cons_self ..)) (λn hn=>by
   obtain⟨j,hj,rfl⟩:=List.mem_map.1 hn;exact λe=>hd.1 j hj e.symm) (bn a i).values.length 0 (by omega)
  rw[<-List.range_eq_range'] at hg;have hg:dH (pre++bn a i :: r.map (bn a)) (abO a b i)=(pre++ajV a b i :: r.map (bn a),true):=hg;rw[agw (abO a b i) _ _ _ hg];have:=agy r (pre++[ajV a b i]) (λj hj=>hl j (List.mem_cons_of_mem _ hj)) (λj hj n hn=>by
   rcases List.mem_append.1 hn with h|h
   ·exact hp j (List.mem_cons_of_mem _ hj) n h
   ·rw[List.mem_singleton.1 h];exact hd.1 j hj) hd.2
  rw[List.append_assoc,List.append_assoc] at this;exact this
theorem abR(hA:j5 a b=true){i:Nat}(hi:i<a.nodes.length):(bn a i).id ∉ b.ak/\((bn a i).id∈b.nodes->(bn b (bF b.nodes (bn a i).id).toNat).type=(bn a i).type):=by unfold j5 at hA;rw[Bool.and_eq_true] at hA;have:=List.all_eq_true.1 hA.1 i (List.mem_range.2 hi);unfold okN at this;rw[Bool.and_eq_true] at this;refine⟨λh=>?_,λh=>amT hA.1 hi (iN.2 h)⟩;have h1:=this.1;rw[dB (iN.2 h)] at h1;cases h1
theorem abS(h:j5 a b=true){i:Nat}(hi:i<a.ak.length):(cW a i).id ∉ b.nodes/\((cW a i).id∈b.ak->cW b (bF b.ak (cW a i).id).toNat=cW a i):=by
 unfold j5 at h;rw[Bool.and_eq_true] at h;have:=List.all_eq_true.1 h.2 i (List.mem_range.2 hi);unfold okD at this;rw[Bool.and_eq_true] at this;refine⟨λh=>?_,λh=>?_⟩
 ·have h1:=this.1;rw[dB (iN.2 h)] at h1;cases h1
 ·have h1:=this.2;rw[dB (iN.2 h),Bool.not_true,Bool.false_or] at h1;exact xM.1 h1
def acY(a b:ax):aG:=⟨oB a b,sO a b,oB b a,sO b a,wW a b,⟨a.next,b.next⟩⟩
theorem z8(ha:dX t a):(yx a b).Pairwise λi j=>(bn a i).id<(bn a j).id:=by
 have h1:(List.range a.nodes.length).Pairwise λi j=>i<a.nodes.length/\j<a.nodes.length/\i<j:=by refine List.Pairwise.imp_of_mem (λhi hj h=>⟨List.mem_range.1 hi,List.mem_range.1 hj,h⟩) List.pairwise_lt_range
 refine List.Pairwise.imp (λ⟨h1,h2,h3⟩=>?_) (List.Pairwise.filter _ h1);rw[qH h1,qH h2];exact ha.nid.2.aa4 h3 h2
theorem aq7(h:j5 a b=true)(hb:dX t b){i:Nat}(hi:i∈yx a b):ajV a b i=bn b (bF b.nodes (bn a i).id).toNat:=by
 obtain⟨h1,h2⟩:=aaH.1 hi;have e1:=(abR h h1).2 h2;have e2:=aeN hb (iN.2 h2);unfold ajV;rw[<-e1]
 conv=>lhs;arg 1;rw[<-e2]
theorem agz(ha:dX t a)(hb:dX t b)(h:j5 a b=true):dH (less dV (bC a) (oB a b)) (wW a b)=((yx a b).map (ajV a b),true):=by
 rw[ap5];have:=agy (a:=a) (b:=b) (yx a b) [] (λi hi=>by
  obtain⟨h1,h2⟩:=aaH.1 hi;exact agp ha hb h1 (iO (iN.2 h2)) ((abR h h1).2 h2)) (λ_ _ n hn=>by cases hn) (List.Pairwise.imp (λh e=>by omega) (z8 ha))
 exact this
theorem aeO(ha:dX t a)(hb:dX t b)(h:j5 a b=true){x:ah} : x∈(yx a b).map (ajV a b)↔x∈bC b/\x.id∈a.nodes:=by
 rw[List.mem_map];constructor
 ·rintro⟨i,hi,rfl⟩;obtain⟨h1,h2⟩:=aaH.1 hi;have h3:(bn a i).id∈a.nodes:=by rw[qH h1];exact nR h1
  rw[aq7 h hb hi,aeN hb (iN.2 h2)];exact⟨rS (iO (iN.2 h2)),h3⟩
 ·rintro⟨h1,h2⟩;obtain⟨j,hj,rfl⟩:=wU h1;obtain⟨i,hi,e⟩:=List.getElem_of_mem h2;have hk:i∈yx a b:=aaH.2 ⟨hi,by rw[qH hi,e];exact zM h1⟩;refine⟨i,hk,?_⟩;rw[aq7 h hb hk,qH hi,e,qH hj,aix hb.nid.2 hj];rfl
theorem agA(hb:dX t b)(h:j5 a b=true){x:au} : x∈(ct a).filter (λn=>!mF b.ak n.id)↔x∈ct a/\x∈ct b:=by
 rw[List.mem_filter,amV];constructor
 ·rintro⟨h1,h2⟩;refine⟨h1,?_⟩;obtain⟨i,hi,rfl⟩:=List.mem_map.1 h1;rw[<- (abS h (List.mem_range.1 hi)).2 h2];exact rT (iO (iN.2 h2))
 ·rintro⟨h1,h2⟩;exact⟨h1,vE h2⟩
theorem ap6(hb:dX t b):dr (bC b) (ct b) b.next=b:=by
 unfold dr;rw[rQ,pY];have e1:(bC b).map ah.type=b.host.graph.nodes:=by unfold bC;rw[List.map_map,hb.rP];exact uR b.host.graph.nodes
 have e2:(bC b).map ah.values=b.host.values:=by unfold bC;rw[List.map_map,hb.rP,<-hb.host.adF];exact uR b.host.values
 have e3:(ct b).map (lu b.nodes)=b.host.graph.ak:=by
  unfold ct;rw[List.map_map,hb.ahd];refine (List.map_congr_left λi hi=>?_).trans (uR b.host.graph.ak);have hi:=List.mem_range.1 hi;have hE:=hb.host.graph.gR i hi;rw[<-hb.rP] at hE;have hg:b.host.graph.ak.getD i default=b.host.graph.ak[i]:=by simp[hi]
  show lu b.nodes (cW b i)=_;unfold lu cW;rw[hg] at hE ⊢;have key:∀s:Int,0<=s->s<b.nodes.length->bF b.nodes (b.nodes.getD s.toNat default)=s:=λs h0 h1=>by
   have h2:s.toNat<b.nodes.length:=by omega
   have e:b.nodes.getD s.toNat default=b.nodes[s.toNat]:=by simp[h2]
   rw[e,aix hb.nid.2 h2];omega
  rw[key _ hE.2.1.1 (by omega),key _ hE.2.2.1 (by omega)]
 rw[e1,e2,e3]
theorem ap7(ha:dX t a)(hb:dX t b)(h:j5 a b=true):j7 ((yx a b).map (ajV a b)++oB b a)=bC b:=by
 refine (aay ?_).ext hb.abL λx=>?_
 ·rw[List.map_append,List.nodup_append];refine⟨?_,?_,?_⟩
  ·rw[List.map_map];refine List.Pairwise.imp (λh e=>?_) (List.pairwise_map.2 (z8 (b:=b) ha));have e:(_:Int)=_:=e;omega
  ·refine List.Nodup.sublist ?_ hb.nid.2.nodup;rw[<-rQ,acW];exact List.filter_sublist.map _
  ·intro x hx y hy e;obtain⟨n,hn,rfl⟩:=List.mem_map.1 hx;obtain⟨m,hm,rfl⟩:=List.mem_map.1 hy;exact (wY.1 hm).2 (e ▸ ((aeO ha hb h).1 hn).2)
 ·rw[nJ,List.mem_append,aeO ha hb h,wY];constructor
  ·rintro (h|h)<;>exact h.1
  ·intro h;by_cases hx:x.id∈a.nodes
   ·exact .inl ⟨h,hx⟩
   ·exact .inr ⟨h,hx⟩
theorem ap8(ha:dX t a)(hb:dX t b)(h:j5 a b=true):mc ((ct a).filter (λn=>!mF b.ak n.id)++sO b a)=ct b:=by
 refine (aaz ?_).ext hb.adG λx=>?_
 ·rw[List.map_append,List.nodup_append];refine⟨?_,?_,?_⟩
  ·refine List.Nodup.sublist ?_ ha.eid.2.nodup;rw[show a.ak=(ct a).map au.id from (pY a).symm];exact List.filter_sublist.map _
  ·refine List.Nodup.sublist ?_ hb.eid.2.nodup;rw[<-pY,acX];exact List.filter_sublist.map _
  ·intro x hx y hy e;obtain⟨n,hn,rfl⟩:=List.mem_map.1 hx;obtain⟨m,hm,rfl⟩:=List.mem_map.1 hy;exact (wZ.1 hm).2 (e ▸ vE (List.mem_filter.1 hn).1)
 ·rw[rO,List.mem_append,agA hb h,wZ];constructor
  ·rintro (h|h)
   ·exact h.2
   ·exact h.1
  ·intro h1;by_cases hx:x.id∈a.ak
   ·refine .inl ⟨?_,h1⟩;obtain⟨i,hi,e⟩:=List.getElem_of_mem hx;have h2:(cW a i).id∈b.ak:=by rw[acU hi,e];exact vE h1
    have h3:=(abS h hi).2 h2;have h4:cW b (bF b.ak (cW a i).id).toNat=x:=hb.adG.inj (rT (iO (iN.2 h2))) h1 (by rw[aq6 hb (iN.2 h2),acU hi,e]);rw[<-h4,h3];exact rT hi
   ·exact .inr ⟨h1,hx⟩
theorem amW{i:Nat}{v:aK}(h:v∈abO a b i):v.id=(bn a i).id:=by
 obtain⟨k,_,hv⟩:=List.mem_flatMap.1 h;unfold z6 at hv;split at hv
 ·cases hv
 ·rw[List.mem_singleton.1 hv]
theorem azA{i:Nat} : (abO a b i).Pairwise ltV:=by
 unfold abO;rw[List.pairwise_flatMap];refine⟨λk _=>?_,?_⟩
 ·unfold z6;split<;>simp
 ·refine List.Pairwise.imp (λ{k l} h x hx y hy=>?_) List.pairwise_lt_range;unfold z6 at hx hy;split at hx
  ·cases hx
  split at hy
  ·cases hy
  rw[List.mem_singleton.1 hx,List.mem_singleton.1 hy];refine .inr ⟨rfl,?_⟩;simp only;omega
theorem ajW(ha:dX t a)(hb:dX t b):Ordered (acY a b):=by
 refine⟨?_,?_,?_,?_,?_⟩
 ·show iA _ (oB a b);rw[acW];exact ha.abL.sub List.filter_sublist
 ·show iA _ (sO a b);rw[acX];exact ha.adG.sub List.filter_sublist
 ·show iA _ (oB b a);rw[acW];exact hb.abL.sub List.filter_sublist
 ·show iA _ (sO b a);rw[acX];exact hb.adG.sub List.filter_sublist
 ·show (wW a b).Pairwise ltV;unfold wW;rw[List.pairwise_flatMap];refine⟨λi _=>azA,List.Pairwise.imp (λh x hx y hy=>.inl ?_) (z8 (b:=b) ha)⟩;rw[amW hx,amW hy];exact h
theorem ap9(ht:fC t)(ha:dX t a)(hb:dX t b):Small (acY a b):=by
 have n1:=ha.n40;have n2:=ha.e80;have n3:=hb.n40;have n4:=hb.e80;have l1:=@aaF a b;have l2:=@aaG a b;have l3:=@aaF b a;have l4:=@aaG b a;refine⟨Nat.le_trans l1 (by omega),Nat.le_trans l2 (by omega),Nat.le_trans l3 (by omega),Nat.le_trans l4 (by omega),?_⟩;have h1:=acV (abO a b) 8 ((List.range a.nodes.length).filter λi=>!mF b.nodes (bn a i).id) λi hi=>by
  have h8:=azz ht ha (List.mem_range.1 (List.mem_filter.1 hi).1);have:=acV (z6 (bn a i).id (bn a i).values (bn b (bF b.nodes (bn a i).id).toNat).values) 1 (List.range (bn a i).values.length) λk _=>agr _ _ _ k
  rw[List.length_range] at this;unfold abO;omega
 have h2:=List.length_filter_le (λi=>!mF b.nodes (bn a i).id) (List.range a.nodes.length);rw[List.length_range] at h2;show (wW a b).length<=500;unfold wW;omega
theorem agB(ha:dX t a)(hb:dX t b)(h:j5 a b=true):bD a (acY a b)=b:=by
 show dr (j7 ((dH (less dV (bC a) (oB a b)) (wW a b)).1++oB b a)) (mc (less qU (ct a) (sO a b)++sO b a)) b.next=b
 rw[agz ha hb h,ap7 ha hb h,agv,ap8 ha hb h,ap6 hb]
theorem agC{l:List ah}{m:List au}{n:Int} : kC l m n=true↔(∃x∈l,x.id=n)\/∃x∈m,x.id=n:=by unfold kC;rw[Bool.or_eq_true,List.any_eq_true,List.any_eq_true];simp only[decide_eq_true_eq]
theorem ajX(ht:fC t)(ha:dX t a)(hb:dX t b)(h:j5 a b=true):cL t a (acY a b) where
 tk:=ha
 small:=ap9 ht ha hb
 ord:=ajW ha hb
 next:=rfl
 rn:=List.all_eq_true.2 λn hn=>List.any_eq_true.2 ⟨n,(wY.1 hn).1,oK.2 rfl⟩
 re:=List.all_eq_true.2 λn hn=>List.any_eq_true.2 ⟨n,(wZ.1 hn).1,xM.2 rfl⟩
 va:=by show (dH (less dV (bC a) (oB a b)) (wW a b)).2=true;rw[agz ha hb h]
 free:=by
  rw[Bool.eq_false_iff];intro hT;have hN:lK a (acY a b)=(yx a b).map (ajV a b):=by show (dH (less dV (bC a) (oB a b)) (wW a b)).1=_;rw[agz ha hb h]
  have hE:oL a (acY a b)=(ct a).filter (λn=>!mF b.ak n.id):=agv;rw[hN,hE] at hT;unfold gm at hT;rw[Bool.or_eq_true,List.any_eq_true,List.any_eq_true] at hT;rcases hT with ⟨n,hn,hx⟩|⟨n,hn,hx⟩
  ·obtain⟨hn1,hn2⟩:=wY.1 hn;rcases agC.1 hx with ⟨x,hx,e⟩|⟨x,hx,e⟩
   ·exact hn2 (e ▸ ((aeO ha hb h).1 hx).2)
   ·obtain⟨i,hi,rfl⟩:=List.mem_map.1 ((agA hb h).1 hx).1;exact (abS h (List.mem_range.1 hi)).1 (e ▸ zM hn1)
  ·obtain⟨hn1,hn2⟩:=wZ.1 hn;rcases agC.1 hx with ⟨x,hx,e⟩|⟨x,hx,e⟩
   ·obtain⟨i,hi,e2⟩:=List.getElem_of_mem ((aeO ha hb h).1 hx).2;refine (abR h hi).1 ?_;rw[qH hi,e2,e];exact vE hn1
   ·exact hn2 (e ▸ vE ((agA hb h).1 hx).1)
 ok:=by rw[agB ha hb h];exact hb
end
section
variable{t:Types}{a:ax}{p:aG}
theorem agD{ids:List Int}{n:Int}(h:n ∉ ids):bF ids n<0:=by
 have:¬ 0<=bF ids n:=λh2=>h (iN.1 h2)
 omega
theorem diff_eq{b:ax}(ha:dX t a)(hb:dX t b)(h:j5 a b=true):z7 t a b=(acY a b,0):=by unfold z7 yu;rw[if_neg (λh2=>h2 (dm.2 ha)),if_neg (λh2=>h2 (dm.2 hb)),if_pos h,if_pos h];rfl
end
def upS:ByteArray:=⟨#[65,66,67,68,69,70]⟩
def agE:ByteArray:=⟨#[117,118,119,120,121,122]⟩
def ajY:ByteArray:=⟨#[101,102,103,104,105]⟩
def azB:List ByteArray:=[⟨#[111,102,102]⟩,⟨#[111,110]⟩]
structure aa9(i:Nat)(x:Attr):Prop where
 name:x.name=agE.extract i (i+1)
 how:(x.names=[]/\x.low = -3/\3<=x.high/\x.high<=11)\/(x.names=azB/\x.low=0/\x.high=1)
structure aba(i:Nat)(n:gB):Prop where
 name:n.name=upS.extract i (i+1)
 par : -1<=n.parent/\n.parent<i
 attrs:n.attrs=[]\/∃x,aa9 i x/\n.attrs=[x]
structure amX(n i:Nat)(e:lW):Prop where
 name:e.name=ajY.extract i (i+1)
 src:0<=e.src/\e.src<n
 dst:0<=e.dst/\e.dst<n
 bounds:(e.nN=0/\e.jZ = -1)/\e.tj=0/\e.og = -1
structure oC(t:Types):Prop where
 pos:0<t.nodes.length
 n6:t.nodes.length<=6
 m5:t.ak.length<=5
 node:∀i,i<t.nodes.length->aba i (t.nodes.getD i default)
 gR:∀i,i<t.ak.length->amX t.nodes.length i (t.ak.getD i default)
theorem ug{P:Nat->Prop}(h:P 0/\P 1/\P 2/\P 3/\P 4/\P 5){i:Nat}(hi:i<6):P i:=by
 obtain⟨h0,h1,h2,h3,h4,h5⟩:=h
 match i,hi with
 |0,_=>exact h0
 |1,_=>exact h1
 |2,_=>exact h2
 |3,_=>exact h3
 |4,_=>exact h4
 |5,_=>exact h5
theorem abT{P:Nat->Prop}(h:P 0/\P 1/\P 2/\P 3/\P 4){i:Nat}(hi:i<5):P i:=by
 obtain⟨h0,h1,h2,h3,h4⟩:=h
 match i,hi with
 |0,_=>exact h0
 |1,_=>exact h1
 |2,_=>exact h2
 |3,_=>exact h3
 |4,_=>exact h4
theorem azC{i:Nat}(hi:i<6):lE (upS.extract i (i+1))=true:=ug (P:=λi=>lE (upS.extract i (i+1))=true) ⟨by kernel_rfl,by kernel_rfl,by kernel_rfl,by kernel_rfl,by kernel_rfl,by kernel_rfl⟩ hi
theorem auW{i:Nat}(hi:i<6):lE (agE.extract i (i+1))=true:=ug (P:=λi=>lE (agE.extract i (i+1))=true) ⟨by kernel_rfl,by kernel_rfl,by kernel_rfl,by kernel_rfl,by kernel_rfl,by kernel_rfl⟩ hi
theorem auX{i:Nat}(hi:i<5):lE (ajY.extract i (i+1))=true:=abT (P:=λi=>lE (ajY.extract i (i+1))=true) ⟨by kernel_rfl,by kernel_rfl,by kernel_rfl,by kernel_rfl,by kernel_rfl⟩ hi
theorem azD{i:Nat}(hi:i<6):lB (upS.extract i (i+1)) 0=65+(i:Int):=ug (P:=λi=>lB (upS.extract i (i+1)) 0=65+(i:Int)) ⟨by kernel_rfl,by kernel_rfl,by kernel_rfl,by kernel_rfl,by kernel_rfl,by kernel_rfl⟩ hi
theorem aq8{i:Nat}(hi:i<6):lB (agE.extract i (i+1)) 0=117+(i:Int):=ug (P:=λi=>lB (agE.extract i (i+1)) 0=117+(i:Int)) ⟨by kernel_rfl,by kernel_rfl,by kernel_rfl,by kernel_rfl,by kernel_rfl,by kernel_rfl⟩ hi
theorem aq9{i:Nat}(hi:i<5):lB (ajY.extract i (i+1)) 0=101+(i:Int):=abT (P:=λi=>lB (ajY.extract i (i+1)) 0=101+(i:Int)) ⟨by kernel_rfl,by kernel_rfl,by kernel_rfl,by kernel_rfl,by kernel_rfl⟩ hi
theorem azE{i:Nat}(hi:i<6):(upS.extract i (i+1)).size<=40:=ug (P:=λi=>(upS.extract i (i+1)).size<=40) ⟨by decide,by decide,by decide,by decide,by decide,by decide⟩ hi
theorem auY{i:Nat}(hi:i<6):(agE.extract i (i+1)).size<=40:=ug (P:=λi=>(agE.extract i (i+1)).size<=40) ⟨by decide,by decide,by decide,by decide,by decide,by decide⟩ hi
theorem auZ{i:Nat}(hi:i<5):(ajY.extract i (i+1)).size<=40:=abT (P:=λi=>(ajY.extract i (i+1)).size<=40) ⟨by decide,by decide,by decide,by decide,by decide⟩ hi
theorem aBD{i j:Nat}(hi:i<6)(hj:j<6)(e:upS.extract i (i+1)=upS.extract j (j+1)):i=j:=by have h1:=azD hi;rw[e,azD hj] at h1;omega
theorem azF{i j:Nat}(hi:i<6)(hj:j<6)(e:agE.extract i (i+1)=agE.extract j (j+1)):i=j:=by have h1:=aq8 hi;rw[e,aq8 hj] at h1;omega
theorem azG{i j:Nat}(hi:i<5)(hj:j<5)(e:ajY.extract i (i+1)=ajY.extract j (j+1)):i=j:=by have h1:=aq9 hi;rw[e,aq9 hj] at h1;omega
section
variable{t:Types}
theorem aba.aaa{i:Nat}{n:gB}(h:aba i n){x:Attr}(hx:x∈n.attrs):aa9 i x:=by
 rcases h.attrs with e|⟨y,hy,e⟩
 ·rw[e] at hx;cases hx
 ·rw[e] at hx;rcases List.mem_cons.1 hx with rfl|h
  ·exact hy
  ·cases h
theorem aba.adT{i:Nat}{n:gB}(h:aba i n):n.attrs.length<=1:=by rcases h.attrs with e|⟨y,hy,e⟩<;>rw[e]<;>simp
theorem amY{s:ByteArray}(h:s∈azB):s.size<=40:=by
 unfold azB at h;rcases List.mem_cons.1 h with rfl|h
 ·decide
 rcases List.mem_cons.1 h with rfl|h
 ·decide
 ·cases h
theorem aa9.ara{i:Nat}{x:Attr}(h:aa9 i x):x.names.length<=25/\∀s∈x.names,s.size<=40:=by
 rcases h.how with ⟨e,_⟩|⟨e,_⟩
 ·rw[e];exact⟨by simp,λs hs=>(by cases hs)⟩
 ·rw[e];exact⟨by decide,λs hs=>amY hs⟩
theorem oC.mem(h:oC t){n:gB}(hn:n∈t.nodes):∃i,i<6/\aba i n:=by
 obtain⟨i,hi,e⟩:=List.getElem_of_mem hn;have h1:=h.node i hi;have e2:t.nodes.getD i default=t.nodes[i]:=by simp[hi]
 rw[e2,e] at h1;have:=h.n6;exact⟨i,by omega,h1⟩
theorem oC.aID(h:oC t){n:lW}(hn:n∈t.ak):∃i,i<5/\amX t.nodes.length i n:=by
 obtain⟨i,hi,e⟩:=List.getElem_of_mem hn;have h1:=h.gR i hi;have e2:t.ak.getD i default=t.ak[i]:=by simp[hi]
 rw[e2,e] at h1;have:=h.m5;exact⟨i,by omega,h1⟩
theorem oC.wI(h:oC t):fC t where
 nodes:=by have:=h.n6;omega
 ak:=by have:=h.m5;omega
 attrs:=λn hn=>by obtain⟨i,_,h1⟩:=h.mem hn;have:=h1.adT;omega
 name:=λn hn=>by obtain⟨i,hi,h1⟩:=h.mem hn;rw[h1.name];exact azE hi
 aBP:=λn hn a ha=>by obtain⟨i,hi,h1⟩:=h.mem hn;rw[(h1.aaa ha).name];exact auY hi
 names:=λn hn a ha=>by obtain⟨i,hi,h1⟩:=h.mem hn;exact (h1.aaa ha).ara.1
 word:=λn hn a ha=>by obtain⟨i,hi,h1⟩:=h.mem hn;exact (h1.aaa ha).ara.2
 axh:=λe he=>by obtain⟨i,hi,h1⟩:=h.aID he;rw[h1.name];exact auZ hi
theorem oC.par(h:oC t){n:Nat}(hn:n<=t.nodes.length):qt t n:=λj hj=>(h.node j (by omega)).par
theorem vI(h:oC t):∀ (k a:Nat),a<t.nodes.length->(∀x∈o4 t k a,∃j,j<=a/\aa9 j x)/\(o4 t k a).length<=a+1
 |0,a,_=>by unfold o4;exact⟨λx hx=>(by cases hx),by simp⟩
 |k+1,a,ha=>by
  have hn:=h.node a ha;have hl:=hn.adT;unfold o4;split
  ·rename_i h0;have h2:=hn.par;obtain⟨q1,q2⟩:=vI h k (t.nodes.getD a default).parent.toNat (by omega);refine⟨λx hx=>?_,by rw[List.length_append];omega⟩;rcases List.mem_append.1 hx with hx|hx
   ·obtain⟨j,hj,hm⟩:=q1 x hx;exact⟨j,by omega,hm⟩
   ·exact⟨a,Nat.le_refl _,hn.aaa hx⟩
  ·exact⟨λx hx=>⟨a,Nat.le_refl _,hn.aaa hx⟩,by rw[List.nil_append];omega⟩
theorem aqa{i:Nat}{x:Attr}(h:aa9 i x):vt x=0:=by
 unfold vt;have hr:abw x=true:=by
  rw[uB];rcases h.how with ⟨e,h1,h2,h3⟩|⟨e,h1,h2⟩
  ·right;rw[e,h1];exact⟨rfl,by decide,by omega,by omega⟩
  ·left;rw[e,h1,h2];exact⟨by decide,rfl,by decide⟩
 have hn:y8 x.names=0:=by
  rcases h.how with ⟨e,_⟩|⟨e,_⟩
  ·rw[e];rfl
  ·rw[e];kernel_rfl
 rw[if_neg (by rw[hn];simp),if_pos hr]
theorem au0(h:oC t){i:Nat}(hi:i<t.nodes.length):kK t i=0:=by
 have hn:=h.node i hi;have h6:=h.n6;have hl:=hn.adT;have hp:=hn.par;unfold kK;have h1:lE (t.nodes.getD i default).name=true:=by rw[hn.name];exact azC (by omega)
 have h2:¬ (t.nodes.take i).any (λy=>decide (y.name=(t.nodes.getD i default).name))=true:=by
  intro hh;rw[List.any_eq_true] at hh;obtain⟨y,hy,hq⟩:=hh;obtain⟨j,hj,e⟩:=List.getElem_of_mem hy;rw[List.length_take] at hj;rw[List.getElem_take] at e;have hj2:=h.node j (by omega);have e2:t.nodes.getD j default=t.nodes[j]:=by simp[show j<t.nodes.length by omega]
  rw[e2,e] at hj2;have hq:=cm hq;rw[hj2.name,hn.name] at hq;have:=aBD (by omega) (by omega) hq;omega
 rw[if_neg (by rw[h1];decide),if_neg h2,if_neg (λhh=>hh hp),if_neg (by omega)];obtain⟨_,g2⟩:=vI h (i+1) i hi;have g2:(bg t i).length<=i+1:=g2;rw[if_neg (by omega)];refine sA λk hk1 hk2=>?_
 have hat:=rz (t:=t) (a:=i) (h.par (by omega));have hlen:=congrArg List.length hat;rw[List.length_append] at hlen;rcases hn.attrs with e|⟨x,hx,e⟩
 ·rw[e] at hlen hk1;simp only[List.length_nil] at hlen hk1;omega
 ·rw[e] at hlen hk1 hat;simp only[List.length_cons,List.length_nil] at hlen hk1;generalize hP:(if 0<=(t.nodes.getD i default).parent then bg t (t.nodes.getD i default).parent.toNat else [])=P at hat hlen;have hk:k=P.length:=by omega
  subst hk;rw[hat,List.take_left,show (P++[x]).getD P.length default=x by simp];unfold tq;have hnm:lE x.name=true:=by rw[hx.name];exact auW (by omega)
  have hno:¬ P.any (λy=>decide (y.name=x.name))=true:=by
   intro hh;rw[List.any_eq_true] at hh;obtain⟨y,hy,hq⟩:=hh;rw[<-hP] at hy;split at hy
   ·rename_i h0;obtain⟨j,hj,hm⟩:=(vI h _ _ (by omega)).1 y hy;have hq:=cm hq;rw[hm.name,hx.name] at hq;have:=azF (by omega) (by omega) hq;omega
   ·cases hy
  rw[if_neg (by rw[hnm];decide),if_neg hno,aqa hx]
theorem au1(h:oC t){i:Nat}(hi:i<t.ak.length):nS t i=0:=by
 have hn:=h.gR i hi;have h5:=h.m5;unfold nS;have h1:lE (t.ak.getD i default).name=true:=by rw[hn.name];exact auX (by omega)
 have h2:¬ (t.ak.take i).any (λy=>decide (y.name=(t.ak.getD i default).name))=true:=by
  intro hh;rw[List.any_eq_true] at hh;obtain⟨y,hy,hq⟩:=hh;obtain⟨j,hj,e⟩:=List.getElem_of_mem hy;rw[List.length_take] at hj;rw[List.getElem_take] at e;have hj2:=h.gR j (by omega);have e2:t.ak.getD j default=t.ak[j]:=by simp[show j<t.ak.length by omega]
  rw[e2,e] at hj2;have hq:=cm hq;rw[hj2.name,hn.name] at hq;have:=azG (by omega) (by omega) hq;omega
 obtain⟨⟨b1,b2⟩,b3,b4⟩:=hn.bounds;rw[if_neg (by rw[h1];decide),if_neg h2,if_pos];rw[b1,b2,b3,b4,xx.2 hn.src,xx.2 hn.dst];decide
theorem oC.valid(h:oC t):(gC t).2=0:=by have h1:=h.pos;have h2:=h.n6;have h3:=h.m5;unfold gC;rw[if_neg (by omega),if_neg (by omega),gl λj _ hj=>au0 h hj];dsimp only;rw[gl λj _ hj=>au1 h hj]
theorem oC.ok(h:oC t):OkT t:=rY h.wI h.valid
theorem oC.range(h:oC t){a:Nat}(ha:a<t.nodes.length){x:Attr}(hx:x∈bg t a) : -3<=x.low/\x.low<=x.high/\x.high<=11:=by obtain⟨j,_,hm⟩:=(vI h _ _ ha).1 x hx;rcases hm.how with ⟨_,h1,h2,h3⟩|⟨_,h1,h2⟩<;>omega
end
theorem acZ(N:List ah)(E:List au)(next:Int):bC (dr N E next)=N:=by
 unfold bC dr bn;refine List.ext_getElem (by simp) λi h1 h2=>?_
 simp[h2]
theorem aab:∀ (r:List aK) (l:List ah) (n:ah) (k:Nat),n∈l->(∀v∈r,v.id=n.id->v.attr≠(k:Int))->∃m∈(dH l r).1,m.id=n.id/\m.values[k]? = n.values[k]?
 | [],l,n,k,h,_=>⟨n,h,rfl,rfl⟩
 |v :: r,l,n,k,h,hv=>by
  have hm:ng v n∈l.map (ng v):=List.mem_map_of_mem h;have hk:(ng v n).values[k]? = n.values[k]?:=by
   unfold ng;split
   ·rename_i hf;unfold j9 okV at hf;simp only[Bool.and_eq_true,Bool.not_eq_true',decide_eq_true_eq,decide_eq_false_iff_not] at hf;have h1:=hv v (List.mem_cons_self ..) hf.1.symm;show (n.values.set v.attr.toNat v.new)[k]? = _;rw[List.getElem?_set_ne (by omega)]
   ·rfl
  have hr:∀w∈r,w.id=(ng v n).id->w.attr≠(k:Int):=λw hw e=>hv w (List.mem_cons_of_mem _ hw) (by rw[tQ] at e;exact e)
  rw[dH];split
  ·obtain⟨m,h1,h2,h3⟩:=aab r _ _ k hm hr;exact⟨m,h1,by rw[h2,tQ],by rw[h3,hk]⟩
  ·exact⟨_,hm,tQ v n,hk⟩
theorem agF:∀ (r:List aK) (l:List ah),r.Pairwise ltV->(dH l r).2=true->∀v∈r,∃m∈(dH l r).1,m.id=v.id/\0<=v.attr/\m.values[v.attr.toNat]? = some v.new
 | [],l,_,_,v,hv=>by cases hv
 |w :: r,l,hp,h,v,hv=>by
  obtain⟨p1,p2⟩:=List.pairwise_cons.1 hp;rw[dH] at h ⊢;split at h;rotate_left
  ·cases h
  rename_i ha;rw[if_pos ha];rcases List.mem_cons.1 hv with e|hv
  ·subst e;obtain⟨n,hn,hf⟩:=List.any_eq_true.1 ha;have hf0:=hf;unfold j9 okV at hf;simp only[Bool.and_eq_true,Bool.not_eq_true',decide_eq_true_eq,decide_eq_false_iff_not] at hf;have he:ng v n={ n with values:=n.values.set v.attr.toNat v.new }:=by unfold ng;rw[if_pos hf0]
   have hm:ng v n∈l.map (ng v):=List.mem_map_of_mem hn;obtain⟨m,h1,h2,h3⟩:=aab r _ _ v.attr.toNat hm λx hx e=>by rw[tQ] at e;rcases p1 x hx with h4|h4<;>omega
   refine⟨m,h1,by rw[h2,tQ];exact hf.1,by omega,?_⟩;rw[h3,he];show (n.values.set v.attr.toNat v.new)[v.attr.toNat]? = _;rw[List.getElem?_set_self (by omega)]
  ·exact agF r _ p2 h v hv
def amZ(m:ax)(l:List aK):Prop:=∀v∈l,∃n∈bC m,n.id=v.id/\0<=v.attr/\n.values[v.attr.toNat]? = some v.new
section
variable{t:Types}{a:ax}{p q:aG}
theorem xY:bC (bD a p)=j7 (lK a p++p.aR):=acZ ..
theorem aek(h:cL t a p):amZ (bD a p) p.values:=λv hv=>by obtain⟨m,h1,h2⟩:=agF p.values _ h.ord.va h.va v hv;exact⟨m,by rw[xY];exact nJ.2 (List.mem_append_left _ h1),h2⟩
theorem aqb(h:vj t a p q)(hc:oz a p q=[])(hr:cL t (bD a p) (eD p q)):amZ (bD (bD a p) (eD p q)) p.values/\amZ (bD (bD a p) (eD p q)) q.values:=by
 obtain⟨c1,_,_,c4⟩:=ail hc h.ap h.aq;have gp:amZ (bD (bD a p) (eD p q)) p.values:=λv hv=>by
  obtain⟨n,h1,h2,h3,h4⟩:=aek h.ap v hv;have hl:n∈less dV (bC (bD a p)) (eD p q).az:=by
   refine List.mem_filter.2 ⟨h1,?_⟩;rw[Bool.not_eq_true',List.any_eq_false];intro x hx e;have e:=oK.1 e;have hx:n∈(eD p q).az:=by rw[e];exact hx
   have hq:n∈q.az:=(List.mem_filter.1 hx).1;have:=c1.2 v hv;rw[tS.2 ⟨n,hq,h2⟩] at this;cases this
  obtain⟨m,g1,g2,g3⟩:=aab (eD p q).values _ n v.attr.toNat hl λw hw e e2=>by obtain⟨_,hw2⟩:=List.mem_filter.1 hw;rw[Bool.not_eq_true',List.any_eq_false] at hw2;refine hw2 v hv ?_;rw[Bool.and_eq_true];exact⟨dB (by omega),dB (by omega)⟩
  exact⟨m,by rw[xY];exact nJ.2 (List.mem_append_left _ g1),by rw[g2,h2],h3,by rw[g3,h4]⟩
 refine⟨gp,λv hv=>?_⟩;cases hb:p.values.any λw=>decide (v.id=w.id)&&decide (v.attr=w.attr) with
 |true=>obtain⟨w,hw,e⟩:=List.any_eq_true.1 hb;rw[Bool.and_eq_true] at e;have e1:=cm e.1;have e2:=cm e.2;obtain⟨n,h1,h2,h3,h4⟩:=gp w hw;rw[e1,e2,<-c4 w hw v hv e1.symm e2.symm];exact⟨n,h1,h2,h3,h4⟩
 |false=>exact aek hr v (List.mem_filter.2 ⟨hv,by rw[Bool.not_eq_true'];exact hb⟩)
end
structure w5(a b:ax):Prop where
 next:a.next<=b.next
 node:∀n∈bC b,a.next<=n.id\/∃m∈bC a,m.id=n.id/\m.type=n.type
 gR:∀e∈ct b,a.next<=e.id\/e∈ct a
theorem w5.refl(a:ax):w5 a a:=⟨Int.le_refl _,λn hn=>.inr ⟨n,hn,rfl,rfl⟩,λe he=>.inr he⟩
theorem w5.trans{a b c:ax}(h:w5 a b)(k:w5 b c):w5 a c:=by
 refine⟨Int.le_trans h.next k.next,λn hn=>?_,λe he=>?_⟩
 ·rcases k.node n hn with h1|⟨m,hm,e1,e2⟩
  ·exact .inl (Int.le_trans h.next h1)
  ·rcases h.node m hm with h1|⟨m2,hm2,e3,e4⟩
   ·exact .inl (by rw[<-e1];exact h1)
   ·exact .inr ⟨m2,hm2,e3.trans e1,e4.trans e2⟩
 ·rcases k.gR e he with h1|h1
  ·exact .inl (Int.le_trans h.next h1)
  ·exact h.gR e h1
section
variable{t:Types}{a b:ax}
theorem am0(ha:dX t a)(hb:dX t b)(h:w5 a b):j5 a b=true:=by
 unfold j5;rw[Bool.and_eq_true,List.all_eq_true,List.all_eq_true];refine⟨λi hi=>?_,λi hi=>?_⟩
 ·have hi:=List.mem_range.1 hi;have hm:=rS (a:=a) hi;have hid:(bn a i).id∈a.nodes:=zM hm;have hlt:=(ha.nid.1 _ hid).2;have h2:bF b.ak (bn a i).id<0:=agD λh3=>by
   rw[<-pY] at h3;obtain⟨e,he,q⟩:=List.mem_map.1 h3;rcases h.gR e he with h4|h4
   ·omega
   ·exact ha.apart _ (vE h4) (q ▸ hid)
  unfold okN;rw[eT (by omega:¬ 0<=bF b.ak (bn a i).id),Bool.not_false,Bool.true_and];by_cases h0:0<=bF b.nodes (bn a i).id
  ·have hb2:=rS (iO h0);have hq:=aeN hb h0;rcases h.node _ hb2 with h4|⟨m,hm2,e1,e2⟩
   ·omega
   ·have:=ha.abL.inj hm2 hm (e1.trans hq);subst this;rw[dB h0,dB e2.symm];rfl
  ·rw[eT h0];rfl
 ·have hi:=List.mem_range.1 hi;have hm:=rT (a:=a) hi;have hid:(cW a i).id∈a.ak:=vE hm;have hlt:=(ha.eid.1 _ hid).2;have h2:bF b.nodes (cW a i).id<0:=agD λh3=>by
   rw[<-rQ] at h3;obtain⟨e,he,q⟩:=List.mem_map.1 h3;rcases h.node e he with h4|⟨m,hm2,e1,_⟩
   ·omega
   ·exact ha.apart _ hid (by rw[<-q,<-e1];exact zM hm2)
  unfold okD;rw[eT (by omega:¬ 0<=bF b.nodes (cW a i).id),Bool.not_false,Bool.true_and];by_cases h0:0<=bF b.ak (cW a i).id
  ·have hb2:=rT (iO h0);have hq:=aq6 hb h0;rcases h.gR _ hb2 with h4|h4
   ·omega
   ·have:=ha.adG.inj h4 hm hq;rw[this,dB h0,xM.2 rfl];rfl
  ·rw[eT h0];rfl
end
section
variable{t:Types}{a:ax}{p q:aG}
theorem ac0{N:List ah}{E:List au}{next:Int}(h:∀e∈E,0<=bF (N.map ah.id) e.src/\0<=bF (N.map ah.id) e.dst):ct (dr N E next)=E:=by
 unfold ct;refine List.ext_getElem (by simp[dr]) λi h1 h2=>?_
 obtain⟨k1,k2⟩:=h _ (nR h2);rw[List.getElem_map,List.getElem_range];have g:∀n,0<=bF (N.map ah.id) n->(N.map ah.id).getD (bF (N.map ah.id) n).toNat default=n:=λn hn=>by rw[List.getD_eq_getElem?_getD,agu hn];rfl
 have e1:(E.map au.id).getD i default=E[i].id:=by simp[h2]
 have e2:(E.map (lu (N.map ah.id))).getD i default=lu (N.map ah.id) E[i]:=by simp[h2]
 show (⟨(E.map au.id).getD i default,((E.map (lu (N.map ah.id))).getD i default).type,(N.map ah.id).getD ((E.map (lu (N.map ah.id))).getD i default).src.toNat default,(N.map ah.id).getD ((E.map (lu (N.map ah.id))).getD i default).dst.toNat default⟩:au)=_;rw[e1,e2];unfold lu;rw[g _ k1,g _ k2]
theorem ajZ(h:dX t (bD a p)):ct (bD a p)=mc (oL a p++p.aP):=by
 refine ac0 λe he=>?_
 obtain⟨i,hi,rfl⟩:=List.getElem_of_mem he;have hl:(bD a p).host.graph.ak.length=(mc (oL a p++p.aP)).length:=by simp[bD,dr]
 have hE:=h.host.graph.gR i (by omega);have e2:(bD a p).host.graph.ak.getD i default=lu ((j7 (lK a p++p.aR)).map ah.id) (mc (oL a p++p.aP))[i]:=by simp[bD,dr,hi]
 rw[e2] at hE;exact⟨hE.2.1.1,hE.2.2.1⟩
theorem ajP.mem{l m:List ah}(h:ajP l m){n:ah}(hn:n∈l):∃x∈m,x.id=n.id/\x.type=n.type:=by
 have h1:(n.id,n.type,n.values.length)∈l.map λn=>(n.id,n.type,n.values.length):=List.mem_map_of_mem (f:=λn:ah=>(n.id,n.type,n.values.length)) hn
 rw[show l.map (λn=>(n.id,n.type,n.values.length))=m.map λn=>(n.id,n.type,n.values.length) from h] at h1;obtain⟨x,hx,e⟩:=List.mem_map.1 h1;simp only[iw] at e;exact⟨x,hx,e.1,e.2.1⟩
theorem am1(h:cL t a p)(hg:aeg p):w5 a (bD a p):=by
 have hn:=h.next
 refine⟨by rw[<-hn];exact hg.next,λn hn2=>?_,λe he=>?_⟩
 ·rw[xY,nJ] at hn2;rcases List.mem_append.1 hn2 with h1|h1
  ·obtain⟨m,hm,e1,e2⟩:=(vC _ _).mem h1;exact .inr ⟨m,(List.mem_filter.1 hm).1,e1,e2⟩
  ·exact .inl (by rw[<-hn];exact hg.n n h1)
 ·rw[ajZ h.ok,rO] at he;rcases List.mem_append.1 he with h1|h1
  ·exact .inr (List.mem_filter.1 h1).1
  ·exact .inl (by rw[<-hn];exact hg.e e h1)
theorem aqc(h:vj t a p q):aeg (eD p q):=by
 have e0:p.next.x0=q.next.x0:=by rw[h.ap.next,h.aq.next]
 have g1:=h.gq.next
 refine⟨by show p.next.x1<=p.next.x1+q.next.x1-q.next.x0;omega,λn hn=>?_,λn hn=>?_⟩
 ·obtain⟨m,hm,rfl⟩:=List.mem_map.1 hn;have:=h.gq.n m hm;show p.next.x1<=iq q.next.x0 (p.next.x1-p.next.x0) m.id
  unfold iq;rw[if_pos this];omega
 ·obtain⟨m,hm,rfl⟩:=List.mem_map.1 hn;have:=h.gq.e m hm;show p.next.x1<=iq q.next.x0 (p.next.x1-p.next.x0) m.id
  unfold iq;rw[if_pos this];omega
end
def OkU(l:List cu):Prop:=∀x∈l,(0<=x.x0/\x.x0<=255)/\(0<=x.x1/\x.x1<=255)
theorem w6{a b:Int}(ha:0<=a)(hb:0<b):0<=a.tmod b/\a.tmod b<b:=⟨Int.tmod_nonneg _ ha,Int.tmod_lt_of_pos _ hb⟩
theorem aFe{a b:Int}(ha:0<=a)(hb:0<b):0<=a.tdiv b/\a.tdiv b<=a:=by rw[Int.tdiv_eq_ediv_of_nonneg ha];exact⟨Int.ediv_nonneg ha (by omega),Int.ediv_le_self _ ha⟩
theorem au2{x:Int}(h:0<=x/\x<=255):3<=i64.wrap (3+(i64.wrap (IntKind.u8.wrap (x.tdiv 4))).tmod 9)/\i64.wrap (3+(i64.wrap (IntKind.u8.wrap (x.tdiv 4))).tmod 9)<=11:=by have h1:=aFe (b:=4) h.1 (by decide);rw[aCX (by omega),dJ (n:=x.tdiv 4) (by omega)];have h2:=w6 (b:=9) h1.1 (by decide);rw[dJ (by omega)];omega
theorem aqd{i:Nat}{x:Int}(h:0<=x/\x<=255):aa9 i ⟨agE.extract i (i+1),-3,i64.wrap (3+(i64.wrap (IntKind.u8.wrap (x.tdiv 4))).tmod 9),[]⟩:=⟨rfl,.inl ⟨rfl,rfl,au2 h⟩⟩
theorem aqe{i:Nat} : aa9 i ⟨agE.extract i (i+1),0,1,[(⟨#[111,102,102]⟩:ByteArray),(⟨#[111,110]⟩:ByteArray)]⟩:=⟨rfl,.inr ⟨rfl,rfl,rfl⟩⟩
theorem aFf{i:Nat}{x:Int}(hi:i<6)(h:0<=x/\x<=255){ab:Bool}{at_:List Attr}(ha:at_=[]\/∃x,aa9 i x/\at_=[x]) :
  aba i ⟨upS.extract i (i+1),i64.wrap ((i64.wrap x).tmod ((i:Int)+1)-1),ab,at_⟩:=by
 refine⟨rfl,?_,ha⟩;have:=w6 (b:=(i:Int)+1) h.1 (by omega);dsimp only;rw[dJ (n:=x) (by omega),dJ (by omega)];omega
theorem aiy{α:Type} [Inhabited α]{P:Nat->α->Prop}{l:List α}{x:α}(h:∀i,i<l.length->P i (l.getD i default))(hx:P l.length x):∀i,i<(l++[x]).length->P i ((l++[x]).getD i default):=λi hi=>by
 rw[List.length_append] at hi;simp only[List.length_cons,List.length_nil] at hi;rcases Nat.lt_or_ge i l.length with h1|h1
 ·have e:(l++[x]).getD i default=l.getD i default:=by simp[List.getD_eq_getElem?_getD,List.getElem?_append_left h1]
  rw[e];exact h i h1
 ·have e1:i=l.length:=by omega
  subst e1;have e:(l++[x]).getD l.length default=x:=by simp
  rw[e];exact hx
theorem aBE{ns es:List cu}(hn:OkU ns)(he:OkU es):Ok (iW ns es) oC:=by
 unfold iW;have s1:(((#[65,66,67,68,69,70]:Array UInt8).size:Nat):Int)=6:=rfl;have s2:(((#[117,118,119,120,121,122]:Array UInt8).size:Nat):Int)=6:=rfl;have s3:(((#[101,102,103,104,105]:Array UInt8).size:Nat):Int)=5:=rfl;refine acJ (λs:Int×List gB=>s.1=s.2.length/\s.2.length<=6/\∀i,i<s.2.length->aba i (s.2.getD i default))
  (λs=>(0<s.2.length/\s.2.length<=6)/\∀i,i<s.2.length->aba i (s.2.getD i default)) (λs=>6-s.2.length) ⟨rfl,by decide,λi hi=>absurd hi (Nat.not_lt_zero i)⟩ (by unfold fuel;simp) ?_ ?_
 ·rintro⟨k,l⟩ cz brk ⟨h1,h2,h3⟩ hnx hbr;dsimp only at h1 h2 h3 hnx hbr ⊢;subst h1;have w1:i64.wrap ((l.length:Int)+1)=(l.length:Int)+1:=dJ (by omega);have w2:((l.length:Int)+1).toNat=l.length+1:=by omega
  have go : ∀ (x0 x1 : Int) (ab : Bool), (0 ≤ x0 ∧ x0 ≤ 255) → (0 ≤ x1 ∧ x1 ≤ 255) → l.length < 6 → ∀ at_ : List Attr, (at_ = [] ∨ ∃ x, aa9 l.length x ∧ at_ = [x]) →
    Ok (cz ((l.length:Int)+1,l++[⟨upS.extract l.length (l.length+1),i64.wrap ((i64.wrap x0).tmod ((l.length:Int)+1)-1),ab,at_⟩])) oC:=λx0 x1 ab g0 g1 hl at_ has =>
   hnx _ ⟨by simp,by simp;omega,aiy (P:=aba) h3 (aFf hl g0 has)⟩ (by simp;omega)
  rw[w1,s1,s2,Int.toNat_natCast,w2];refine cV (λc0=>?_) (λc0=>?_)
  ·have c0:=cm c0;have hl:l.length<6:=by omega
   refine cV (λc1=>?_) (λc1=>?_)
   ·have c1:=cm c1;have hlt:((l.length:Int)).toNat<ns.length:=by omega
    refine lY (by omega) hlt ?_;obtain⟨q0,q1⟩:=hn _ (nR hlt);generalize ns[((l.length:Int)).toNat]=e at q0 q1 ⊢;refine cA (by omega) (cA (by omega) (cA (by omega) ?_));refine cV (λ_=>cA (by omega) (go _ _ _ q0 q1 hl _ (.inr ⟨_,aqd q1,rfl⟩))) (λ_=>?_);exact cV (λ_=>cA (by omega) (go _ _ _ q0 q1 hl _ (.inr ⟨_,aqe,rfl⟩))) (λ_=>cA (by omega) (go _ _ _ q0 q1 hl _ (.inl rfl)))
   ·have z:(0:Int)<=0/\(0:Int)<=255:=by decide
    refine cA (by omega) (cA (by omega) (cA (by omega) ?_));refine cV (λ_=>cA (by omega) (go _ _ _ z z hl _ (.inr ⟨_,aqd z,rfl⟩))) (λ_=>?_);exact cV (λ_=>cA (by omega) (go _ _ _ z z hl _ (.inr ⟨_,aqe,rfl⟩))) (λ_=>cA (by omega) (go _ _ _ z z hl _ (.inl rfl)))
  ·have c0:=ew c0;have hb:Ok (brk ((l.length:Int),l)) oC:=hbr _ ⟨⟨by dsimp only;omega,h2⟩,h3⟩;refine cV (λc1=>?_) (λ_=>hb);have c1:=cm c1;refine cV (λc2=>?_) (λ_=>hb);have hl:l.length<6:=by have:=cm c2;omega
   have hlt:((l.length:Int)).toNat<ns.length:=by omega
   refine lY (by omega) hlt ?_;obtain⟨q0,q1⟩:=hn _ (nR hlt);generalize ns[((l.length:Int)).toNat]=e at q0 q1 ⊢;refine cA (by omega) (cA (by omega) (cA (by omega) ?_));refine cV (λ_=>cA (by omega) (go _ _ _ q0 q1 hl _ (.inr ⟨_,aqd q1,rfl⟩))) (λ_=>?_);exact cV (λ_=>cA (by omega) (go _ _ _ q0 q1 hl _ (.inr ⟨_,aqe,rfl⟩))) (λ_=>cA (by omega) (go _ _ _ q0 q1 hl _ (.inl rfl)))
 ·rintro⟨k,l⟩ ⟨⟨h0,h2⟩,h3⟩;dsimp only at h0 h2 h3 ⊢;refine acJ (λs:Int×List lW=>s.1=s.2.length/\s.2.length<=5/\∀i,i<s.2.length->amX l.length i (s.2.getD i default))
   (λs=>s.2.length<=5/\∀i,i<s.2.length->amX l.length i (s.2.getD i default)) (λs=>5-s.2.length) ⟨rfl,by decide,λi hi=>absurd hi (Nat.not_lt_zero i)⟩ (by unfold fuel;simp) ?_ ?_
  ·rintro⟨k,m⟩ cz brk ⟨h4,h5,h6⟩ hnx hbr;dsimp only at h4 h5 h6 hnx hbr ⊢;subst h4;have w1:i64.wrap ((m.length:Int)+1)=(m.length:Int)+1:=dJ (by omega);have w2:((m.length:Int)+1).toNat=m.length+1:=by omega
   have hb:Ok (brk ((m.length:Int),m)) oC:=hbr _ ⟨h5,h6⟩;rw[w1,s3,Int.toNat_natCast,w2];refine cV (λc1=>?_) (λ_=>hb);have c1:=cm c1;refine cV (λc2=>?_) (λ_=>hb);have hl:m.length<5:=by have:=cm c2;omega
   have hlt:((m.length:Int)).toNat<es.length:=by omega
   refine cA (by omega) ?_;refine lY (by omega) hlt ?_;obtain⟨q0,q1⟩:=he _ (nR hlt);generalize es[((m.length:Int)).toNat]=e at q0 q1 ⊢;refine cA (by omega) (cA (by omega) (cA (by omega) ?_));have t0:=w6 (b:=(l.length:Int)) q0.1 (by omega);have t1:=w6 (b:=(l.length:Int)) q1.1 (by omega);rw[dJ (n:=e.x0) (by omega),dJ (n:=e.x1) (by omega)];exact hnx _ ⟨by simp,by simp;omega,aiy (P:=amX l.length) h6 ⟨rfl,t0,t1,⟨rfl,rfl⟩,rfl,rfl⟩⟩ (by simp;omega)
  ·rintro⟨k,m⟩ ⟨h5,h6⟩;exact .mk ⟨h0,h2,h5,h3,h6⟩
def aj0(d:c8):Prop:=(∀x∈d.nodes,(0<=x.x0/\x.x0<=255)/\(0<=x.x1/\x.x1<=255))/\(∀x∈d.ak,(0<=x.x0/\x.x0<=255)/\(0<=x.x1/\x.x1<=255)/\(0<=x.x2/\x.x2<=255))
structure Roomy(t:Types):Prop where
 wI:fC t
 valid:(gC t).2=0
 room:∀a,a<t.nodes.length->∀x∈bg t a,-1000000<=x.low/\x.low<=x.high/\x.high<=1000000
theorem oC.roomy{t:Types}(h:oC t):Roomy t:=⟨h.wI,h.valid,λa ha x hx=>by have:=h.range ha hx;omega⟩
section
variable{t:Types}
theorem Roomy.ok(h:Roomy t):OkT t:=rY h.wI h.valid
theorem Roomy.aC7(h:Roomy t){a:Nat}(ha:a<t.nodes.length):(bg t a).length<=8:=adR (h.ok.node a ha)
theorem am2(h:Roomy t):Ok (gn t) (λl=>∀k∈l,(0<=k/\k<t.nodes.length)/\(t.nodes.getD k.toNat default).abs=false):=by
 have hn:=h.wI.nodes;unfold gn;refine cA (bu (by omega)) ?_;refine tL (λi (l:List Int)=>l.length<=i/\∀k∈l,(0<=k/\k<t.nodes.length)/\(t.nodes.getD k.toNat default).abs=false) (Nat.zero_le _) ⟨by simp,λk hk=>(by cases hk)⟩ ?_ ?_
 ·rintro i l cz _ hi ⟨h1,h2⟩ hx;refine sG hi (cV (λ_=>hx _ ⟨by omega,h2⟩) (λc=>cA (by omega) (hx _ ⟨by simp;omega,λk hk=>?_⟩)));rcases List.mem_append.1 hk with hk|hk
  ·exact h2 k hk
  ·simp only[List.mem_cons,List.not_mem_nil,or_false] at hk;subst hk;refine⟨⟨by omega,by omega⟩,?_⟩;rw[Int.toNat_natCast];have e:t.nodes.getD i default=t.nodes[i]:=by simp[hi]
   rw[e];exact c
 ·rintro l ⟨_,h2⟩;exact .mk h2
def arb(t:Types)(k:Int)(v:List Int):Prop:=(0<=k/\k<t.nodes.length)/\mI t k v=0
theorem aBF{k:Int}{v:List Int}(hk:0<=k/\k<t.nodes.length)(ha:(t.nodes.getD k.toNat default).abs=false)(hl:v.length=(bg t k.toNat).length)(hv:∀j,j<v.length->((bg t k.toNat).getD j default).low<=v.getD j default/\v.getD j default<=((bg t k.toNat).getD j default).high):arb t k v:=by
 refine⟨hk,?_⟩;unfold mI;rw[if_neg (by omega),if_neg (by rw[ha];decide),if_neg (λh=>h hl)];refine sA λj _ hj=>?_
 have:=hv j hj;unfold nO;rw[if_neg (by omega)]
theorem j6{α:Type} [Inhabited α]{l:List α}{x:α}{i:Nat}(h:i<l.length):(l++[x]).getD i default=l.getD i default:=by simp[List.getD_eq_getElem?_getD,List.getElem?_append_left h]
theorem qI{α:Type} [Inhabited α]{l:List α}{x:α} : (l++[x]).getD l.length default=x:=by simp
theorem atI{α:Type} [Inhabited α]{l:List α}{i:Nat}(h:i<l.length):l.getD i default=l[i]:=by simp[h]
structure aB9(t:Types)(h:Host):Prop where
 ok:o5 t h
 n8:h.graph.nodes.length<=8
 m10:h.graph.ak.length<=10
theorem azH(hr:Roomy t){ns:List Int}{vs:List (List Int)}{es:List Edge}(h1:ns.length<=8)(h2:vs.length=ns.length)(h3:∀j,j<ns.length->arb t (ns.getD j default) (vs.getD j default))(h4:es.length<=10)
  (h5:∀e∈es,(0<=e.type/\e.type<t.ak.length)/\(0<=e.src/\e.src<ns.length)/\(0<=e.dst/\e.dst<ns.length)/\qT t e.type (ns.getD e.src.toNat default) (ns.getD e.dst.toNat default)=true):aB9 t ⟨⟨ns,es⟩,vs⟩:=by
 have n12:=hr.ok.n12;have m20:=hr.ok.m20;refine⟨⟨hr.valid,?_,h2,λi hi=>(h3 i hi).2,λi hi=>?_⟩,h1,h4⟩
 ·unfold qv;rw[if_neg (by dsimp only;omega),if_neg,if_neg]
  ·intro hh;obtain⟨e,he,hb⟩:=List.any_eq_true.1 hh;obtain⟨g1,g2,g3,_⟩:=h5 e he;rw[Bool.not_eq_true'] at hb;unfold uC tu at hb;rw[dB g1.1,dB (by omega:e.type<=99),dB g2.1,dB (by dsimp only;omega:e.src<=(_:Int)-1),dB g3.1,dB (by dsimp only;omega:e.dst<=(_:Int)-1)] at hb;cases hb
  ·intro hh;obtain⟨k,hk,hb⟩:=List.any_eq_true.1 hh;have hk:k∈ns:=hk;obtain⟨j,hj,rfl⟩:=List.getElem_of_mem hk;have:=(h3 j hj).1;rw[atI hj] at this;rw[Bool.not_eq_true'] at hb;unfold tu at hb;rw[dB this.1,dB (by omega:ns[j]<=99)] at hb;cases hb
 ·have hi:i<es.length:=hi;obtain⟨g1,_,_,g4⟩:=h5 _ (nR hi);unfold tv;dsimp only;rw[atI hi,if_neg (by omega),if_pos g4]
theorem arc(hr:Roomy t){d:c8}(hd:aj0 d):Ok (gG t d) (aB9 t):=by
 have hT:=hr.ok;have n12:=hT.n12;have m20:=hT.m20;unfold gG;refine zk (am2 hr) λC hC=>?_
 refine acJ (λs:Int×List Int×List (List Int)=>s.1=s.2.1.length/\s.2.1.length<=8/\s.2.2.length=s.2.1.length/\∀j,j<s.2.1.length->arb t (s.2.1.getD j default) (s.2.2.getD j default))
  (λs=>s.2.1.length<=8/\s.2.2.length=s.2.1.length/\∀j,j<s.2.1.length->arb t (s.2.1.getD j default) (s.2.2.getD j default)) (λs=>8-s.2.1.length) ⟨rfl,by decide,rfl,λi hi=>absurd hi (Nat.not_lt_zero i)⟩ (by unfold fuel;simp) ?_ ?_
 ·rintro⟨k,ns,vs⟩ cz brk ⟨h1,h2,h3,h4⟩ hn hb;dsimp only at h1 h2 h3 h4 hn hb ⊢;subst h1;refine cV (λc1=>?_) (λ_=>hb _ ⟨h2,h3,h4⟩);refine cV (λc2=>?_) (λ_=>hb _ ⟨h2,h3,h4⟩);refine cV (λc3=>?_) (λ_=>hb _ ⟨h2,h3,h4⟩);have c1:=cm c1;have c2:=cm c2;have c3:=cm c3;have hlt:((ns.length:Int)).toNat<d.nodes.length:=by omega
  refine lY (by omega) hlt ?_;obtain⟨q0,q1⟩:=hd.1 _ (nR hlt);generalize d.nodes[((ns.length:Int)).toNat]=e at q0 q1 ⊢;refine cA (by omega) ?_;rw[dJ (n:=e.x0) (by omega)];have t0:=w6 (b:=(C.length:Int)) q0.1 c3;have hc:(e.x0.tmod (C.length:Int)).toNat<C.length:=by omega
  refine lY t0.1 hc ?_;obtain⟨g1,g2⟩:=hC _ (nR hc);generalize C[(e.x0.tmod (C.length:Int)).toNat]=kd at g1 g2 ⊢;refine ok_eq (show l8 t kd=some (bg t kd.toNat,0) from tw ⟨hT,g1⟩) ?_;have pU:kd.toNat<t.nodes.length:=by omega
  have h8:=hr.aC7 pU;have hroom:=hr.room kd.toNat pU;dsimp only;generalize hA:bg t kd.toNat=A at h8 hroom ⊢;refine cA (bu (by omega)) ?_;refine tL (λi (v:List Int)=>v.length=i/\∀j,j<i->(A.getD j default).low<=v.getD j default/\v.getD j default<=(A.getD j default).high) (Nat.zero_le _) ⟨rfl,λj hj=>absurd hj (Nat.not_lt_zero j)⟩ ?_ ?_
  ·rintro i v nx2 _ hi ⟨k1,k2⟩ hn2;refine sG hi ?_;have r:=hroom _ (nR hi);have w1:i64.wrap (i64.wrap (A[i].high-A[i].low)+1)=A[i].high-A[i].low+1:=by rw[dJ (n:=A[i].high-A[i].low) (by omega),dJ (by omega)]
   have w2:i64.wrap (i64.wrap e.x1+i64.wrap (7 * ((i:Nat):Int)))=e.x1+7 * (i:Int):=by rw[dJ (n:=e.x1) (by omega),dJ (n:=7 * ((i:Nat):Int)) (by omega),dJ (by omega)]
   rw[w1,w2];have t1:=w6 (a:=e.x1+7 * (i:Int)) (b:=A[i].high-A[i].low+1) (by omega) (by omega);refine cA (by omega) (cA (by omega) ?_);rw[dJ (n:=A[i].low+(e.x1+7 * (i:Int)).tmod (A[i].high-A[i].low+1)) (by omega)];refine hn2 _ ⟨by simp;omega,λj hj=>?_⟩;rcases Nat.lt_or_ge j i with hji|hji
   ·rw[j6 (by omega)];exact k2 j hji
   ·have:j=i:=by omega
    subst this;subst k1;rw[qI,atI hi];omega
  ·rintro v ⟨k1,k2⟩;refine cA (by omega) (cA (by omega) ?_);rw[dJ (n:=(ns.length:Int)+1) (by omega)];refine hn _ ⟨by simp,by simp;omega,by simp;omega,λj hj=>?_⟩ (by simp;omega);dsimp only at hj ⊢;rw[List.length_append] at hj;simp only[List.length_cons,List.length_nil] at hj;rcases Nat.lt_or_ge j ns.length with hji|hji
   ·rw[j6 hji,j6 (by omega)];exact h4 j hji
   ·have e1:j=ns.length:=by omega
    subst e1;have e2:(vs++[v]).getD ns.length default=v:=by rw[<-h3];exact qI
    rw[qI,e2];subst hA;exact aBF g1 g2 k1 λj hj=>k2 j (by omega)
 ·rintro⟨k,ns,vs⟩ ⟨h2,h3,h4⟩;dsimp only at h2 h3 h4 ⊢;refine acJ (λs:Int×List Edge=>(0<=s.1/\s.1<=10/\s.2.length<=s.1)/\∀e∈s.2,(0<=e.type/\e.type<t.ak.length)/\(0<=e.src/\e.src<ns.length)/\(0<=e.dst/\e.dst<ns.length)/\qT t e.type (ns.getD e.src.toNat default) (ns.getD e.dst.toNat default)=true)
   (λs=>s.2.length<=10/\∀e∈s.2,(0<=e.type/\e.type<t.ak.length)/\(0<=e.src/\e.src<ns.length)/\(0<=e.dst/\e.dst<ns.length)/\qT t e.type (ns.getD e.src.toNat default) (ns.getD e.dst.toNat default)=true)
   (λs=>(10-s.1).toNat) ⟨by simp,by simp⟩ (by unfold fuel;simp) ?_ ?_
  ·rintro⟨j,es⟩ cz brk ⟨g1,g2⟩ hn hb;dsimp only at g1 g2 hn hb ⊢;refine cV (λc1=>?_) (λ_=>hb _ ⟨by simp only;omega,g2⟩);refine cV (λc2=>?_) (λ_=>hb _ ⟨by simp only;omega,g2⟩);refine cV (λc3=>?_) (λ_=>hb _ ⟨by simp only;omega,g2⟩);refine cV (λc4=>?_) (λ_=>hb _ ⟨by simp only;omega,g2⟩);have c1:=cm c1;have c2:=cm c2;have c3:=cm c3;have c4:=cm c4;have hj:j.toNat<d.ak.length:=by omega
   refine lY g1.1 hj ?_;obtain⟨q0,q1,q2⟩:=hd.2 _ (nR hj);generalize d.ak[j.toNat]=e at q0 q1 q2 ⊢;refine cA (by omega) (cA (by omega) (cA (by omega) ?_));rw[dJ (n:=e.x0) (by omega),dJ (n:=e.x1) (by omega),dJ (n:=e.x2) (by omega),dJ (n:=j+1) (by omega)];have m0:=w6 (b:=(t.ak.length:Int)) q0.1 c4;have m1:=w6 (b:=(ns.length:Int)) q1.1 c3;have m2:=w6 (b:=(ns.length:Int)) q2.1 c3;have b1:(e.x1.tmod (ns.length:Int)).toNat<ns.length:=by omega
   have b2:(e.x2.tmod (ns.length:Int)).toNat<ns.length:=by omega
   refine lY m1.1 b1 (lY m2.1 b2 ?_);refine ok_eq (tw hr.wI) ?_;refine cV (λf1=>?_) (λ_=>hn _ ⟨by simp only;omega,g2⟩ (by simp only;omega));refine cA (by omega) ?_;refine hn _ ⟨by simp only[List.length_append,List.length_cons,List.length_nil];omega,λx hx=>?_⟩ (by simp only;omega);rcases List.mem_append.1 hx with h|h
   ·exact g2 x h
   ·simp only[List.mem_cons,List.not_mem_nil,or_false] at h;subst h;refine⟨m0,m1,m2,?_⟩;dsimp only;rw[atI b1,atI b2];exact f1
  ·rintro⟨j,es⟩ ⟨g1,g2⟩;exact .mk (azH hr h2 h3 h4 g1 g2)
end
section
variable{t:Types}{x y:ax}
theorem agG(ht:OkT t){k:Int}{v:List Int}(hk:0<=k)(h:mI t k v=0):v.length<=8:=by
 unfold mI at h;split at h
 ·cases h
 rename_i h1;split at h
 ·cases h
 split at h
 ·cases h
 rename_i h2;have h2:=Decidable.of_not_not h2;have h3:=adR (ht.node k.toNat (by omega));omega
theorem o5.za(hf:fC t){h:Host}(hh:o5 t h):sV h:=by have hg:=hh.graph;have h1:=hg.nodes;have h2:=hg.ak;have h3:=hh.adF;refine⟨⟨by omega,by omega⟩,by omega,λl hl=>?_⟩;obtain⟨i,hi,rfl⟩:=List.getElem_of_mem hl;have h4:=hh.node i (by omega);rw[atI hi] at h4;have:=agG (rY hf hh.types) (hg.kind i (by omega)).1 h4;omega
theorem dX.za(hf:fC t)(h:dX t x):j4 x:=⟨h.host.za hf,by have:=h.n40;omega,by have:=h.e80;omega⟩
theorem agH{N:List ah}{E:List au}{next:Int}(h:dX t (dr N E next)):ct (dr N E next)=E:=by
 refine ac0 λe he=>?_
 obtain⟨i,hi,rfl⟩:=List.getElem_of_mem he;have hl:(dr N E next).host.graph.ak.length=E.length:=by simp[dr]
 have hE:=h.host.graph.gR i (by omega);have e2:(dr N E next).host.graph.ak.getD i default=lu (N.map ah.id) E[i]:=by simp[dr,hi]
 rw[e2] at hE;exact⟨hE.2.1.1,hE.2.2.1⟩
theorem au3{N:List ah}{E:List au}{next:Int}(h1:N.length<=1000)(h2:E.length<=1000)(h3:Rows N):j4 (dr N E next):=by refine⟨⟨⟨by simpa[dr] using h1,by simpa[dr] using h2⟩,by simpa[dr] using h1,λl hl=>?_⟩,by simp[dr];omega,by simp[dr];omega⟩;obtain⟨n,hn,rfl⟩:=List.mem_map.1 hl;exact h3 n hn
def aiz(t:Types)(x y:ax):Prop:=j4 y/\(dX t y->w5 x y)
theorem au4(hf:fC t)(hx:dX t x):aiz t x x:=⟨hx.za hf,λ_=>w5.refl x⟩
theorem aqf(hf:fC t)(hx:dX t x){i j:Nat}(hi:i<x.host.values.length)(v:Int):aiz t x ⟨⟨x.host.graph,x.host.values.set i ((x.host.values[i]).set j v)⟩,x.nodes,x.ak,x.next⟩:=by
 have hb:=hx.za hf;refine⟨⟨⟨hb.host.graph,by simpa using hb.host.values,λl hl=>?_⟩,hb.nodes,hb.ak⟩,λhy=>⟨Int.le_refl _,λn hn=>?_,λe he=>.inr he⟩⟩
 ·rcases List.mem_or_eq_of_mem_set hl with h|h
  ·exact hb.host.row l h
  ·rw[h,List.length_set];exact hb.host.row _ (nR hi)
 ·obtain⟨k,hk,rfl⟩:=wU hn;exact .inr ⟨bn x k,rS hk,rfl,rfl⟩
theorem am3(hf:fC t)(hx:dX t x){N:List ah}{E:List au}(hN:N.Sublist (bC x))(hE:E.Sublist (ct x)):aiz t x (dr N E x.next):=by
 have hb:=hx.za hf;have h1:=hN.length_le;have h2:=hE.length_le;have n1:=hx.n40;have n2:=hx.e80;rw[iC] at h1;rw[gT] at h2;refine⟨au3 (by omega) (by omega) (λn hn=>ji hx hb.host n (hN.subset hn)),λhy=>⟨Int.le_refl _,λn hn=>?_,λe he=>?_⟩⟩
 ·rw[acZ] at hn;exact .inr ⟨n,hN.subset hn,rfl,rfl⟩
 ·rw[agH hy] at he;exact .inr (hE.subset he)
theorem au5(hf:fC t)(hx:dX t x)(k:Int){v:List Int}(hv:v.length<=8):aiz t x ⟨⟨⟨x.host.graph.nodes++[k],x.host.graph.ak⟩,x.host.values++[v]⟩,x.nodes++[x.next],x.ak,x.next+1⟩:=by
 have hb:=hx.za hf;have n1:=hx.n40;have n2:=hx.rP;have n3:=hx.host.adF;refine⟨⟨⟨⟨by simp;omega,hb.host.graph.ak⟩,by simp;omega,λl hl=>?_⟩,by simp;omega,hb.ak⟩,λhy=>⟨by dsimp only;omega,λn hn=>?_,λe he=>?_⟩⟩
 ·rcases List.mem_append.1 hl with h|h
  ·exact hb.host.row l h
  ·simp only[List.mem_cons,List.not_mem_nil,or_false] at h;subst h;omega
 ·obtain⟨j,hj,rfl⟩:=wU hn;dsimp only at hj;rw[List.length_append] at hj;simp only[List.length_cons,List.length_nil] at hj;rcases Nat.lt_or_ge j x.nodes.length with h|h
  ·refine .inr ⟨bn x j,rS h,?_,?_⟩
   ·show x.nodes.getD j default=(x.nodes++[x.next]).getD j default;rw[j6 h]
   ·show x.host.graph.nodes.getD j default=(x.host.graph.nodes++[k]).getD j default;rw[j6 (by omega)]
  ·have e1:j=x.nodes.length:=by omega
   subst e1;refine .inl ?_;show x.next<=(x.nodes++[x.next]).getD x.nodes.length default
   rw[qI];exact Int.le_refl _
 ·obtain⟨j,hj,rfl⟩:=List.mem_map.1 he;have hj:j<x.ak.length:=List.mem_range.1 hj;have hE:=hx.host.graph.gR j (by rw[<-hx.ahd];exact hj);refine .inr ?_;have e:cW ⟨⟨⟨x.host.graph.nodes++[k],x.host.graph.ak⟩,x.host.values++[v]⟩,x.nodes++[x.next],x.ak,x.next+1⟩ j=cW x j:=by unfold cW;dsimp only;rw[j6 (by omega),j6 (by omega)]
  rw[e];exact rT hj
theorem au6(hf:fC t)(hx:dX t x)(e:Edge):aiz t x ⟨⟨⟨x.host.graph.nodes,x.host.graph.ak++[e]⟩,x.host.values⟩,x.nodes,x.ak++[x.next],x.next+1⟩:=by
 have hb:=hx.za hf;have n1:=hx.e80;have n2:=hx.ahd;refine⟨⟨⟨⟨hb.host.graph.nodes,by simp;omega⟩,hb.host.values,hb.host.row⟩,hb.nodes,by simp;omega⟩,λhy=>⟨by dsimp only;omega,λn hn=>?_,λf he=>?_⟩⟩
 ·obtain⟨k,hk,rfl⟩:=wU hn;exact .inr ⟨bn x k,rS hk,rfl,rfl⟩
 ·obtain⟨j,hj,rfl⟩:=List.mem_map.1 he;have hj:=List.mem_range.1 hj;dsimp only at hj;rw[List.length_append] at hj;simp only[List.length_cons,List.length_nil] at hj;rcases Nat.lt_or_ge j x.ak.length with h|h
  ·refine .inr ?_;have e:cW ⟨⟨⟨x.host.graph.nodes,x.host.graph.ak++[e]⟩,x.host.values⟩,x.nodes,x.ak++[x.next],x.next+1⟩ j=cW x j:=by unfold cW;dsimp only;rw[j6 h,j6 (by omega)]
   rw[e];exact rT h
  ·have e1:j=x.ak.length:=by omega
   subst e1;refine .inl ?_;show x.next<=(x.ak++[x.next]).getD x.ak.length default
   rw[qI];exact Int.le_refl _
def OkC(l:List jE):Prop:=∀x∈l,(0<=x.x0/\x.x0<=255)/\(0<=x.x1/\x.x1<=255)/\(0<=x.x2/\x.x2<=255)
theorem au7(hr:Roomy t)(hx:dX t x){c:jE}(hc:(0<=c.x0/\c.x0<=255)/\(0<=c.x1/\c.x1<=255)/\(0<=c.x2/\c.x2<=255)):Ok (gM t x c) (aiz t x):=by
 have hf:=hr.wI;have hb:=hx.za hf;have n1:=hx.n40;have n2:=hx.e80;have n3:=hx.rP;have n4:=hx.ahd;have n5:=hx.host.adF;have nx:=hx.next
 have aa7:=au4 hf hx;have hv:∀l∈x.host.values,l.length<=1000000:=λl hl=>Nat.le_trans (hb.host.row l hl) (by decide)
 have hrows:∀n∈bC x,n.values.length<=1000000:=λn hn=>Nat.le_trans (ji hx hb.host n hn) (by decide)
 unfold gM;refine ok_eq (agk hb) ?_;rw[dJ (n:=c.x0) (by omega),dJ (n:=c.x1) (by omega),dJ (n:=c.x2) (by omega)];refine cV (λ_=>?_) (λ_=>?_)
 ·refine cV (λc1=>?_) (λ_=>.mk aa7);have c1:=cm c1;have m1:=w6 (b:=(x.nodes.length:Int)) hc.2.1.1 c1;refine cA (by omega) ?_;have hi:(c.x1.tmod (x.nodes.length:Int)).toNat<x.host.values.length:=by omega
  refine lY m1.1 hi ?_;refine cV (λc2=>?_) (λ_=>.mk aa7);have c2:=cm c2;have m2:=w6 (b:=((x.host.values[(c.x1.tmod (x.nodes.length:Int)).toNat]).length:Int)) hc.2.2.1 c2;refine cA (by omega) (cA (by omega) ?_);refine lY m2.1 (by omega) ?_;exact .mk (aqf hf hx hi _)
 refine cV (λ_=>?_) (λ_=>?_)
 ·refine cV (λc1=>?_) (λ_=>.mk aa7);have c1:=cm c1;have m1:=w6 (b:=(x.nodes.length:Int)) hc.2.1.1 c1;refine cA (by omega) ?_;unfold fE;rw[aT (af4 hx hv),cond_false];have hi:(c.x1.tmod (x.nodes.length:Int)).toNat<(bC x).length:=by rw[iC];omega
  rw[fS m1.1 hi,aT (aie ⟨bC x,ct x⟩ _ (by rw[iC];omega) hrows)];have hs:=zx (q:=dV) (l:=bC x) (n:=(bC x)[(c.x1.tmod (x.nodes.length:Int)).toNat]);have hl:=hs.length_le;rw[iC] at hl;rw[aT (tg _ x.next (by dsimp only;omega) (by dsimp only;rw[gT];omega) (λn hn=>ji hx hb.host n (hs.subset hn)))];exact .mk (am3 hf hx hs (List.Sublist.refl _))
 refine cV (λ_=>?_) (λ_=>?_)
 ·refine cV (λc1=>?_) (λ_=>.mk aa7);have c1:=cm c1;have m1:=w6 (b:=(x.ak.length:Int)) hc.2.1.1 c1;refine cA (by omega) ?_;unfold fE;rw[aT (af4 hx hv),cond_true];have hi:(c.x1.tmod (x.ak.length:Int)).toNat<(ct x).length:=by rw[gT];omega
  rw[fS m1.1 hi,aT (aid ⟨bC x,ct x⟩ _ (by rw[gT];omega))];have hs:=zx (q:=qU) (l:=ct x) (n:=(ct x)[(c.x1.tmod (x.ak.length:Int)).toNat]);have hl:=hs.length_le;rw[gT] at hl;rw[aT (tg _ x.next (by dsimp only;rw[iC];omega) (by dsimp only;omega) (ji hx hb.host))];exact .mk (am3 hf hx (List.Sublist.refl _) hs)
 refine cV (λ_=>?_) (λ_=>?_)
 ·refine zk (arc hr (d:=⟨[⟨c.x1,c.x2⟩],[]⟩) ⟨λz hz=>?_,λz hz=>by cases hz⟩) λp hp=>?_
  ·simp only[List.mem_cons,List.not_mem_nil,or_false] at hz;subst hz;exact hc.2
  refine cV (λc1=>?_) (λ_=>.mk aa7);have c1:=cm c1;have h1:=hp.ok.adF;have hp0:0<p.graph.nodes.length:=by omega
  refine sG (by omega) (sG (by omega) ?_);refine cA (by omega) (cA (by omega) (cA (by omega) ?_));rw[dJ (n:=x.next+1) (by omega)];have h2:=hp.ok.node 0 hp0;have h3:=(hp.ok.graph.kind 0 hp0).1;rw[atI (l:=p.values) (by omega)] at h2;exact .mk (au5 hf hx _ (agG hr.ok h3 h2))
 refine cV (λ_=>?_) (λ_=>.mk aa7);refine cV (λc1=>?_) (λ_=>.mk aa7);refine cV (λc2=>?_) (λ_=>.mk aa7);have c1:=cm c1;have c2:=cm c2;refine cA (by omega) (cA (by omega) (cA (by omega) (cA (by omega) (cA (by omega) ?_))));rw[dJ (n:=x.next+1) (by omega)];exact .mk (au6 hf hx _)
theorem adU(hr:Roomy t)(hx:dX t x){l:List jE}(hl:l.length<=1000000)(hc:OkC l):Ok (ez t x l) (λy=>dX t y/\w5 x y):=by
 unfold ez;refine cA (bu (by omega)) ?_;refine tL (λ_ (s:List Int×List Edge×List (List Int)×List Int×List Int×Int)=>dX t ⟨⟨⟨s.1,s.2.1⟩,s.2.2.1⟩,s.2.2.2.1,s.2.2.2.2.1,s.2.2.2.2.2⟩/\w5 x ⟨⟨⟨s.1,s.2.1⟩,s.2.2.1⟩,s.2.2.2.1,s.2.2.2.2.1,s.2.2.2.2.2⟩) (Nat.zero_le _) ⟨hx,w5.refl x⟩ ?_ ?_
 ·rintro i s cz _ hi ⟨h1,h2⟩ hn;refine sG hi ?_;refine zk (au7 hr h1 (hc _ (nR hi))) λy hy=>?_
  refine ok_eq (mz hr.wI hy.1) ?_;refine cV (λc1=>?_) (λ_=>hn _ ⟨h1,h2⟩);have hk:=dm.1 (cm c1);exact hn _ ⟨hk,h2.trans (hy.2 hk)⟩
 ·rintro s ⟨h1,h2⟩;exact .mk ⟨h1,h2⟩
end
section
variable{t:Types}{a b:ax}{p q:aG}
theorem aiA(s:Int)(n:Nat)(hs:0<=s/\s<=1000000)(hn:n<=1000000):fD s (n:Int)=some ((List.range n).map λi:Nat=>s+(i:Int)):=by refine Ok.eq ?_;unfold fD;rw[Int.toNat_natCast];refine cA (bu (by omega)) ?_;refine tL (λi (l:List Int)=>l=(List.range i).map λi:Nat=>s+(i:Int)) (Nat.zero_le _) rfl ?_ (λl h=>.mk h);rintro i l cz _ hi rfl hx;refine cA (by simp;omega) ?_;rw[dJ (by omega)];exact hx _ (by rw[List.range_succ,List.map_append];rfl)
def ahk(h:Host):ax:=⟨h,(List.range h.graph.nodes.length).map λi:Nat=>(i:Int),(List.range h.graph.ak.length).map λi:Nat=>(h.graph.nodes.length:Int)+(i:Int),(h.graph.nodes.length:Int)+(h.graph.ak.length:Int)⟩
theorem aiB(s:Int)(n:Nat):iA id ((List.range n).map λi:Nat=>s+(i:Int)):=by refine List.pairwise_map.2 (List.Pairwise.imp (λ{i j} h=>?_) List.pairwise_lt_range);show s+(i:Int)<s+(j:Int);omega
theorem aC8{h:Host}(hh:o5 t h):dX t (ahk h):=by
 have n1:=hh.graph.nodes;have n2:=hh.graph.ak;refine⟨hh,by simp[ahk],by simp[ahk],⟨by simp only[ahk];omega,by simp only[ahk];omega⟩,⟨λn hn=>?_,?_⟩,⟨λn hn=>?_,aiB _ _⟩,λe he hn=>?_⟩
 ·obtain⟨i,hi,rfl⟩:=List.mem_map.1 hn;have:=List.mem_range.1 hi;simp only[ahk];omega
 ·have:=aiB 0 h.graph.nodes.length;simpa[ahk] using this
 ·obtain⟨i,hi,rfl⟩:=List.mem_map.1 hn;have:=List.mem_range.1 hi;simp only[ahk];omega
 ·obtain⟨i,hi,rfl⟩:=List.mem_map.1 he;obtain⟨j,hj,e⟩:=List.mem_map.1 hn;have:=List.mem_range.1 hj;omega
theorem aj1{h:Host}(hb:sV h):cB h=some h:=by
 have hx:j4 ⟨h,[],[],0⟩:=⟨hb,by simp,by simp⟩;have:=agk hx;unfold dz at this;cases hc:cB h with
 |none=>rw[hc] at this;cases this
 |some r=>rw[show cB (⟨h,[],[],0⟩:ax).host=some r from hc,mu,bw (by simp),bw (by simp)] at this;have:=Option.some.inj this;rw[ax.mk.injEq] at this;rw[<-this.1]
def newR(t:Types)(h:Host):ax×Int:=if (jT t h).2≠0 then (kD,(jT t h).2) else (ahk h,0)
theorem aC9(hf:fC t){h:Host}(hb:sV h):jr t h=some (newR t h):=by
 unfold jr newR;rw[aT (zw hf),aX];by_cases h0:(gC t).2=0;rotate_left
 ·rw[if_neg h0,acL h0,if_pos h0];rfl
 rw[if_pos h0,aT (v8 hf hb),aX];by_cases h1:(jT t h).2=0;rotate_left
 ·rw[if_neg h1,if_pos h1];rfl
 rw[if_pos h1,if_neg (λh=>h h1)];have hh:=qd.1 h1;have n1:=hh.graph.nodes;have n2:=hh.graph.ak;rw[dJ (n:=(((h.graph.nodes.length:Nat):Int)+((h.graph.ak.length:Nat):Int))) (by omega),dJ (n:=(((h.graph.nodes.length:Nat):Int)+((h.graph.ak.length:Nat):Int))-((h.graph.nodes.length:Nat):Int)) (by omega)];rw[show ((h.graph.nodes.length:Nat):Int)+((h.graph.ak.length:Nat):Int)-((h.graph.nodes.length:Nat):Int)=((h.graph.ak.length:Nat):Int) by omega];rw[aT (aj1 hb),aT (aiA 0 _ (by omega) (by omega)),aT (aiA _ _ (by omega) (by omega))];have e:((List.range h.graph.nodes.length).map λi:Nat=>(0:Int)+(i:Int))=(List.range h.graph.nodes.length).map λi:Nat=>(i:Int):=List.map_congr_left λi _=>Int.zero_add _
 rw[e];rfl
theorem azI{h:Host}(hh:o5 t h):newR t h=(ahk h,0):=by unfold newR;rw[if_neg (λh2=>h2 (qd.2 hh))]
theorem adV(ba:j4 a)(bb:j4 b):jf (z7 t a b).1:=by
 have hf:=auU (t:=t) ba bb;refine⟨hf.rn,hf.re,hf.an,hf.ae,hf.va,λn hn=>?_,λn hn=>?_⟩;all_goals
  unfold z7 at hn;split at hn
  ·cases hn
  rename_i h1;split at hn
  ·cases hn
  rename_i h2;have ha:=dm.1 (Decidable.of_not_not h1);have hb:=dm.1 (Decidable.of_not_not h2);split at hn
  ·rename_i h3;unfold yu at hn;rw[if_pos h3] at hn
   first
    |exact ji ha ba.host n (aaE hn)
    |exact ji hb bb.host n (aaE hn)
  ·cases hn
structure agI(d:bQ):Prop where
 nodes:OkU d.nodes
 ak:OkU d.ak
 h:aj0 d.h
 first:OkC d.first
 p:OkC d.p
 q:OkC d.q
structure aBG(R:Types×bV×Bool):Prop where
 wI:fC R.1
 za:j4 R.2.1.a
 bp:jf R.2.1.p
 bq:jf R.2.1.q
 both:vj R.1 R.2.1.a R.2.1.p R.2.1.q
 merged:oz R.2.1.a R.2.1.p R.2.1.q=[]->(fz R.1 R.2.1.a R.2.1.p R.2.1.q).2=0
 aJH:(xV R.1 R.2.1.a R.2.1.p R.2.1.q).2=0
theorem am4(h:(xV t a p q).2=0):vj t a p q/\(oz a p q=[]->(fz t a p q).2=0):=by
 unfold xV at h;split at h
 ·rename_i h1;exact absurd h h1
 rename_i h1;refine⟨mQ.1 (Decidable.of_not_not h1),λhc=>?_⟩;rw[hc,if_neg (by simp)] at h;split at h
 ·rename_i h2;exact absurd h h2
 ·rename_i h2;exact Decidable.of_not_not h2
theorem aBH{d:bQ}(hd:agI d):Ok (fm d) (λR=>R.2.2=true->aBG R):=by
 have no:∀ {Q:Prop},(false=true->Q):=λh=>by cases h
 unfold fm;refine cV (λ_=>.mk no) (λ_=>cV (λ_=>.mk no) (λ_=>cV (λ_=>.mk no) (λ_=>cV (λ_=>.mk no) (λ_=>cV (λ_=>.mk no) (λc1=>cV (λ_=>.mk no) (λc2=>cV (λ_=>.mk no) (λc3=>?_)))))));have c1:=ew c1;have c2:=ew c2;have c3:=ew c3;refine zk (aBE hd.nodes hd.ak) λt ht=>?_
 have hr:=ht.roomy;refine zk (arc hr hd.h) λh hh=>?_
 refine ok_eq (aC9 hr.wI (hh.ok.za hr.wI)) ?_;rw[azI hh.ok];refine zk (adU hr (aC8 hh.ok) (by omega) hd.first) λa ha=>?_
 have ha:=ha.1;refine zk (adU hr ha (by omega) hd.p) λx hx=>?_
 refine ok_eq (aq5 hr.wI (ha.za hr.wI) (hx.1.za hr.wI)) ?_;refine zk (adU hr ha (by omega) hd.q) λy hy=>?_
 refine ok_eq (aq5 hr.wI (ha.za hr.wI) (hy.1.za hr.wI)) ?_;have bp:=adV (t:=t) (ha.za hr.wI) (hx.1.za hr.wI);have bq:=adV (t:=t) (ha.za hr.wI) (hy.1.za hr.wI);refine ok_eq (ajU hr.wI (ha.za hr.wI) bp bq) ?_;refine cV (λ_=>cV (λ_=>.mk λh=>?_) (λ_=>.mk no)) (λ_=>.mk no);have h:=cm h;exact⟨hr.wI,ha.za hr.wI,bp,bq,(am4 h).1,(am4 h).2,h⟩
theorem am5{m:ax}(hm:dX t m){l:List aK}(hl:l.length<=1000000)(hg:amZ m l):gh m l=some true:=by
 have n1:=hm.n40;have n2:=hm.rP;have n3:=hm.host.adF;refine Ok.eq ?_;unfold gh;refine cA (bu (by omega)) ?_;refine agl l (λ_=>True) (λi cz hi hn=>?_) (λ_=>.mk rfl);refine sG hi ?_;obtain⟨n,hnm,g1,g2,g3⟩:=hg _ (nR hi);have hin:l[i].id∈m.nodes:=by rw[<-g1];exact zM hnm
 refine ok_eq (show fJ m.nodes l[i].id=some (bF m.nodes l[i].id) from nh (by omega) _) ?_;have h0:=iN.2 hin;have hlt:=iO h0;have hq:=aeN hm h0;have e:=hm.abL.inj (rS hlt) hnm (hq.trans g1.symm);refine apg (eT (by omega)) ?_;refine lY h0 (by omega) ?_;have hv:m.host.values[(bF m.nodes l[i].id).toNat]'(by omega)=n.values:=by rw[<-e];show _=m.host.values.getD (bF m.nodes l[i].id).toNat default;rw[atI (by omega)]
 rw[hv];have hk:l[i].attr.toNat<n.values.length:=by
  rcases Nat.lt_or_ge l[i].attr.toNat n.values.length with h|h
  ·exact h
  ·rw[List.getElem?_eq_none h] at g3;cases g3
 refine apg (eT (by omega)) ?_;refine lY g2 hk ?_;rw[List.getElem?_eq_getElem hk] at g3;rw[Option.some.inj g3];exact vR (dB rfl) (hn trivial)
end
theorem agJ{d:bQ}(hd:agI d):fu d=some true:=by
 obtain⟨R,e,h⟩:=aBH hd;unfold fu;rw[aT e,aT agm,cond_true];cases hb:R.2.2 with
 |false=>rw[cond_false,aT agm]
 |true =>
 have P:=h hb;have hA:=P.both.ap;have hx:=hA.ahg P.za.host P.bp;rw[cond_true,aT (aqZ P.wI P.za P.bp P.bq),aX];have g0:¬ ow R.1 R.2.1.a R.2.1.p R.2.1.q≠0:=λh2=>h2 (mQ.2 P.both)
 by_cases hc:oz R.2.1.a R.2.1.p R.2.1.q=[];rotate_left
 ·have hc0:0<(oz R.2.1.a R.2.1.p R.2.1.q).length:=List.length_pos_iff.2 hc;have em:wj R.1 R.2.1.a R.2.1.p R.2.1.q=(kD,11):=by unfold wj;rw[if_neg g0,if_pos hc0]
  rw[em,if_neg (by decide)];rfl
 have hm:=P.merged hc;obtain⟨em,hR⟩:=aip hm;have hy:=hR.ahg hx.host (sN (ni P.bq));have hN:¬ 0<(oz R.2.1.a R.2.1.p R.2.1.q).length:=by rw[hc];simp
 by_cases aFg:0<(ahj R.1 R.2.1.a R.2.1.p R.2.1.q (fz R.1 R.2.1.a R.2.1.p R.2.1.q).1).length
 ·have em2:wj R.1 R.2.1.a R.2.1.p R.2.1.q=(kD,11):=by unfold wj aaC;rw[if_neg g0,if_neg hN,if_neg (λh2=>h2 hm),if_pos aFg]
  rw[em2,if_neg (by decide)];rfl
 have em2:wj R.1 R.2.1.a R.2.1.p R.2.1.q=(bD (bD R.2.1.a R.2.1.p) (eD R.2.1.p R.2.1.q),0):=by unfold wj aaC;rw[if_neg g0,if_neg hN,if_neg (λh2=>h2 hm),if_neg aFg,em]
 have hag:=am0 hA.ok hR.ok (am1 hR (aqc P.both));have er:aeM R.1 R.2.1.a R.2.1.p R.2.1.q=(acY (bD R.2.1.a R.2.1.p) (bD (bD R.2.1.a R.2.1.p) (eD R.2.1.p R.2.1.q)),0):=by unfold aeM;rw[if_neg g0,if_neg hN,if_neg (λh2=>h2 hm),em];exact diff_eq hA.ok hR.ok hag
 have hP2:=ajX P.wI hA.ok hR.ok hag;have hbig:jf (acY (bD R.2.1.a R.2.1.p) (bD (bD R.2.1.a R.2.1.p) (eD R.2.1.p R.2.1.q))):=by have:=adV (t:=R.1) hx hy;rw[diff_eq hA.ok hR.ok hag] at this;exact this
 obtain⟨gp,gq⟩:=aqb P.both hc hR;rw[em2,if_pos rfl,aT (azy P.wI P.za P.bp P.bq),er,aT (sK P.wI P.za P.bp),nK hA];rw[aT (sK P.wI hx hbig),nK hP2,agB hA.ok hR.ok hag];rw[dB rfl,cond_true,cond_true,cond_true,aT (aC3 hy),cond_true,aT (am5 hR.ok P.bp.va gp),cond_true,aT (am5 hR.ok P.bq.va gq)]
theorem azJ{n:Int}(h:G5 n):0<=n/\n<=255:=h
theorem okU{l:List cu}(h:G22 l):OkU l:=λx hx=>⟨azJ (h.1 x hx).1,azJ (h.1 x hx).2.1⟩
theorem okC{l:List jE}(h:G23 l):OkC l:=λx hx=>⟨azJ (h.1 x hx).1,azJ (h.1 x hx).2.1,azJ (h.1 x hx).2.2.1⟩
theorem aBI{d:c8}(h:G25 d):aj0 d:=⟨okU h.1,okC h.2.1⟩
theorem azK{d:bQ}(h:G27 d):agI d:=⟨okU h.1,okU h.2.1,aBI h.2.2.1,okC h.2.2.2.1,okC h.2.2.2.2.1,okC h.2.2.2.2.2.1⟩
end Go.Proofs.YtjhkgjlmiolfoaaGreat
