/- Joined texts, part 8: lemmas for the statement. No condition. -/
import Derived.Test.YtjhkgjlmiolfoaaGreatJ7
set_option maxHeartbeats 4000000
set_option linter.unusedSimpArgs false
set_option linter.unusedVariables false
open Nat (reduceEqDiff reduceLT reduceLeDiff reduceMul reduceAdd reduceSub)
open Go.IntKind (i64)
open Go.Proofs.Tryz
namespace Go.Proofs.YtjhkgjlmiolfoaaGreat
open Go.cr
def fJ(p q:aG):aG:=nk p (jA p q)
theorem ow{p q:aG}(hq:jf q):jf (jA p q) :=
 ⟨hq.rn,hq.re,by simp[jA];exact hq.an,by simp[jA];exact hq.ae,hq.va,hq.rv,λn hn=>by
  obtain⟨m,hm,rfl⟩:=List.mem_map.1 hn;exact hq.av m hm⟩
theorem vA{p q:aG}(hq:jf q):jf (nk p q):=⟨Nat.le_trans (List.length_filter_le _ _) hq.rn,Nat.le_trans (List.length_filter_le _ _) hq.re,hq.an,hq.ae,Nat.le_trans (List.length_filter_le _ _) hq.va,λn hn=>hq.rv n (List.mem_filter.1 hn).1,hq.av⟩
def tooMany(a:ax)(p q:aG):Bool:=decide ((40:Int)<((bD a p).nodes.length:Int)+(fJ p q).aR.length-(fJ p q).az.length)||decide ((80:Int)<((bD a p).au.length:Int)+(fJ p q).aP.length-(fJ p q).aF.length)
def eF(t:Types)(a:ax)(p q:aG):ax×Int:=if tooMany a p q=true then (kV,3) else nP t (bD a p) (fJ p q)
section
variable{t:Types}{a:ax}{p q:aG}
theorem cg.ajH(h:cg t a p)(hb:sM a.host)(hp:jf p):j4 (bD a p):=h.small.add (apH h.tk hb) hp _
theorem ah3(p q:aG):(fJ p q).aR.length=q.aR.length/\(fJ p q).aP.length=q.aP.length/\(fJ p q).az.length<=q.az.length/\(fJ p q).aF.length<=q.aF.length:=⟨by simp[fJ,nk,jA],by simp[fJ,nk,jA],List.length_filter_le _ _,List.length_filter_le _ _⟩
theorem uP(ht:fM t)(h:vb t a p q)(hb:j4 a)(hp:jf p)(hq:jf q):∃x,kz t a p q=some (x,(eF t a p q).1,(eF t a p q).2)/\((eF t a p q).2=0->x=bD a p):=by
 have hx:=h.ap.ajH hb.host hp;have e1:=h.ap.ok.n40;have e2:=h.ap.ok.e80;obtain⟨r1,r2,r3,r4⟩:=ah3 p q;have s1:=h.aq.small.an;have s2:=h.aq.small.ae;have s3:=h.aq.small.rn;have s4:=h.aq.small.re;unfold kz eF tooMany;rw[aT (acC ht hb hp),mD h.ap,dK rfl,cond_true,aT (yf h.aBq hq),aT (aeo hp (ow hq))];rw[show nk p (jA p q)=fJ p q from rfl];dsimp only;rw[dJ (n:=(((bD a p).nodes.length:Nat):Int)+(((fJ p q).aR.length:Nat):Int)) (by omega),dJ (n:=(((bD a p).nodes.length:Nat):Int)+(((fJ p q).aR.length:Nat):Int)-(((fJ p q).az.length:Nat):Int)) (by omega)];rw[dJ (n:=(((bD a p).au.length:Nat):Int)+(((fJ p q).aP.length:Nat):Int)) (by omega),dJ (n:=(((bD a p).au.length:Nat):Int)+(((fJ p q).aP.length:Nat):Int)-(((fJ p q).aF.length:Nat):Int)) (by omega)];cases h1:decide ((40:Int)<(((bD a p).nodes.length:Nat):Int)+(((fJ p q).aR.length:Nat):Int)-(((fJ p q).az.length:Nat):Int)) with
 |true=>exact⟨kV,by rw[cond_true];rfl,λh=>by cases h⟩
 |false =>
  rw[cond_false,Bool.false_or];cases h2:decide ((80:Int)<(((bD a p).au.length:Nat):Int)+(((fJ p q).aP.length:Nat):Int)-(((fJ p q).aF.length:Nat):Int)) with
  |true=>exact⟨kV,by rw[cond_true];rfl,λh=>by cases h⟩
  |false=>rw[cond_false,aT (show eY t (bD a p) (fJ p q)=_ from acC ht hx (vA (ow hq)))];exact⟨bD a p,rfl,λ_=>rfl⟩
def azb(p q:aG):Prop:=(∀v∈q.values,dg p v.id=false)/\∀v∈p.values,dg q v.id=false
theorem adZ:∀ (r:List aM) (l:List ah) (n:ah),n∈l->(∀v∈r,v.id≠n.id)->n∈(gy l r).1
 | [],l,n,h,_=>h
 |v :: r,l,n,h,hv=>by
  have hp:sD v n=n:=by unfold sD;rw[if_neg];unfold mw;rw[eZ λe=>hv v (List.mem_cons_self ..) e.symm,Bool.false_and];simp
  have h':n∈l.map (sD v):=List.mem_map.2 ⟨n,h,hp⟩;rw[gy];split
  ·exact adZ r _ n h' λw hw=>hv w (List.mem_cons_of_mem _ hw)
  ·exact h'
theorem cg.keep(h:cg t a p){n:ah}(hn:n∈bC a)(hr:dg p n.id=false)(hv:∀v∈p.values,v.id≠n.id):n∈lp a p:=by
 refine adZ _ _ n (List.mem_filter.2 ⟨hn,?_⟩) hv;cases hx:p.az.any λm=>eD n m with
 |false=>rfl
 |true=>obtain⟨m,hm,e⟩:=List.any_eq_true.1 hx;have:=rO.1 e;subst this;rw[xN.2 ⟨n,hm,rfl⟩] at hr;cases hr
theorem aur{a:ax}{p:aG}{k:Nat}(hk:k<(bD a p).nodes.length):∃h1:k<(kG (lp a p++p.aR)).length,∃h2:k<(bD a p).host.values.length,(bD a p).nodes[k]=(kG (lp a p++p.aR))[k].id/\(bD a p).host.values[k]=(kG (lp a p++p.aR))[k].values:=by
 have h1:k<(kG (lp a p++p.aR)).length:=by simpa[bD,dF] using hk
 exact⟨h1,by simpa[bD,dF] using h1,by simp[bD,dF],by simp[bD,dF]⟩
theorem cg.aem(h:cg t a p):iS ah.id (kG (lp a p++p.aR)):=iS.aqy (f:=id) h.ok.nid.2
theorem cg.agX(h:cg t a p):iS ak.id (nT (oH a p++p.aP)):=iS.aqy (f:=id) h.ok.eid.2
theorem aus(ht:fM t)(h:vb t a p q)(hb:j4 a)(hp:jf p)(hq:jf q)(hc:azb p q):fU t a p q=some (eF t a p q):=by
 have hx:=h.ap.ajH hb.host hp;have e1:=h.ap.ok.n40;have e2:=h.ap.ok.e80;obtain⟨r1,r2,r3,r4⟩:=ah3 p q;have s1:=h.aq.small.an;have s2:=h.aq.small.ae;have s3:=h.aq.small.rn;have s4:=h.aq.small.re;unfold fU eF tooMany;rw[aT (uM ht hb hp),mD h.ap,dK rfl,cond_true];rw[aT (show er ⟨p.az,p.aF,p.aR,p.aP,p.values,p.next⟩ q=_ from ah2 h.aBq hq)];rw[aT (show gJ ⟨p.az,p.aF,p.aR,p.aP,p.values,p.next⟩ _=_ from aC5 hp (ow hq))];rw[show nk p (jA p q)=fJ p q from rfl];dsimp only;have aE6:(bD a p).host.values.length=(bD a p).nodes.length:=by simp[bD,dF]
 have hW:dM (fJ p q) (bD a p)=some (fJ p q):=aep (vA (ow hq)) (by omega) aE6 λn hn k hk he=>by
  obtain⟨hn1,hn2⟩:=List.mem_filter.1 hn;have hnp:dg p n.id=false:=by simpa[dg] using hn2
  have hmid:n∈lp a p:=h.ap.keep (h.aq.aqD hn1) hnp λv hv e=>by have:=hc.2 v hv;rw[e,xN (p:=q) |>.2 ⟨n,hn1,rfl⟩] at this;cases this
  obtain⟨k1,k2,k3,k4⟩:=aur hk;rw[k4];rw[k3] at he;rw[h.ap.aem.inj (nI k1) (tV.2 (List.mem_append_left _ hmid)) he]
 rw[aT hW];rw[dJ (n:=(((bD a p).nodes.length:Nat):Int)-(((fJ p q).az.length:Nat):Int)) (by omega),dJ (n:=(((bD a p).nodes.length:Nat):Int)-(((fJ p q).az.length:Nat):Int)+(((fJ p q).aR.length:Nat):Int)) (by omega)];rw[dJ (n:=(((bD a p).au.length:Nat):Int)-(((fJ p q).aF.length:Nat):Int)) (by omega),dJ (n:=(((bD a p).au.length:Nat):Int)-(((fJ p q).aF.length:Nat):Int)+(((fJ p q).aP.length:Nat):Int)) (by omega)];rw[show (((bD a p).nodes.length:Nat):Int)-(((fJ p q).az.length:Nat):Int)+(((fJ p q).aR.length:Nat):Int)=(((bD a p).nodes.length:Nat):Int)+(((fJ p q).aR.length:Nat):Int)-(((fJ p q).az.length:Nat):Int) by omega];rw[show (((bD a p).au.length:Nat):Int)-(((fJ p q).aF.length:Nat):Int)+(((fJ p q).aP.length:Nat):Int)=(((bD a p).au.length:Nat):Int)+(((fJ p q).aP.length:Nat):Int)-(((fJ p q).aF.length:Nat):Int) by omega];cases h1:decide ((40:Int)<(((bD a p).nodes.length:Nat):Int)+(((fJ p q).aR.length:Nat):Int)-(((fJ p q).az.length:Nat):Int)) with
 |true=>rw[cond_true];rfl
 |false =>
  rw[cond_false,Bool.false_or];cases h2:decide ((80:Int)<(((bD a p).au.length:Nat):Int)+(((fJ p q).aP.length:Nat):Int)-(((fJ p q).aF.length:Nat):Int)) with
  |true=>rw[cond_true];rfl
  |false=>rw[cond_false,aT (show bN ⟨t.nodes,t.au⟩ (bD a p) (fJ p q)=_ from uM ht hx (vA (ow hq)))];rfl
theorem aut(h:ov a p q=[])(hp:cg t a p)(hq:cg t a q):azb p q/\(∀id,dg p id=true->vv q id=false)/\(∀id,dg q id=true->vv p id=false)/\∀v∈p.values,∀w∈q.values,v.id=w.id->v.attr=w.attr->v.new=w.new:=by
 rw[<-aar hp hq] at h;unfold amp at h;obtain⟨h12,h3⟩:=List.append_eq_nil_iff.1 h;obtain⟨h1,h2⟩:=List.append_eq_nil_iff.1 h12;have nil_of:∀ {K:Int} {l:List aI},(∀x∈l,x.kind=K)->iU l=[]->∀x,x ∉ l:=λ{K l} hk ho x hx=>by
  have:=(aaS hk).2 x |>.2 hx
  rw[ho] at this;cases this
 have n1:=nil_of (K:=1) (λx hx=>by rcases List.mem_append.1 hx with h|h<;>(obtain⟨id,_,_,rfl⟩:=sF.1 h;rfl)) h1;have n2:=nil_of (K:=2) (λx hx=>by rcases List.mem_append.1 hx with h|h<;>(obtain⟨id,_,_,rfl⟩:=sG.1 h;rfl)) h2;have n3:=nil_of (K:=3) (λx hx=>by obtain⟨v,_,_,_,_,_,_,rfl⟩:=zu.1 hx;rfl) h3;refine⟨⟨λv hv=>?_,λv hv=>?_⟩,λid hr=>?_,λid hr=>?_,λv hv w hw h1 h2=>?_⟩
 ·cases hr:dg p v.id with
  |false=>rfl
  |true=>exact absurd (List.mem_append_left _ (sG.2 ⟨v,hv,hr,rfl⟩)) (n2 _)
 ·cases hr:dg q v.id with
  |false=>rfl
  |true=>exact absurd (List.mem_append_right _ (sG.2 ⟨v,hv,hr,rfl⟩)) (n2 _)
 ·cases hu:vv q id with
  |false=>rfl
  |true=>exact absurd (List.mem_append_left _ (sF.2 ⟨id,hr,hu,rfl⟩)) (n1 _)
 ·cases hu:vv p id with
  |false=>rfl
  |true=>exact absurd (List.mem_append_right _ (sF.2 ⟨id,hr,hu,rfl⟩)) (n1 _)
 ·by_cases he:v.new=w.new
  ·exact he
  ·exact absurd (zu.2 ⟨v,hv,w,hw,h1,h2,he,rfl⟩) (n3 _)
theorem p9{x0 d:Int}(hd:0<=d){m n:Int}(h:m<n):iQ x0 d m<iQ x0 d n:=by unfold iQ;split<;>split<;>omega
theorem abz{x0 d:Int}(hd:0<=d){m n:Int}(h:iQ x0 d m=iQ x0 d n):m=n:=by unfold iQ at h;split at h<;>split at h<;>omega
theorem xO{x0 d m:Int}(h:m<x0):iQ x0 d m=m:=by unfold iQ;rw[if_neg (by omega)]
theorem ah4{l m:List ah}(h1:iS ah.id l)(h2:iS ah.id m)(h:∀a∈l,∀b∈m,a.id<b.id):kG (l++m)=l++m:=(ado (mq h1 h2 λa ha b hb=>by have:=h a ha b hb;omega)).ext (h1.app h2 h) λx=>tV
theorem ah5{l m:List ak}(h1:iS ak.id l)(h2:iS ak.id m)(h:∀a∈l,∀b∈m,a.id<b.id):nT (l++m)=l++m:=(adp (mq h1 h2 λa ha b hb=>by have:=h a ha b hb;omega)).ext (h1.app h2 h) λx=>wO
theorem ajC.ids{l m:List ah}(h:ajC l m):l.map ah.id=m.map ah.id:=by have:=congrArg (List.map λx:Int×Int×Nat=>x.1) h;rw[List.map_map,List.map_map] at this;exact this
theorem aqJ{n:ah}(hn:n∈lp a p):n.id∈a.nodes:=by have:n.id∈(lp a p).map ah.id:=List.mem_map_of_mem hn;unfold lp at this;rw[(vt _ _).ids] at this;obtain⟨m,hm,e⟩:=List.mem_map.1 this;rw[<-e];exact ajE (List.mem_filter.1 hm).1
theorem aqK{n:ak}(hn:n∈oH a p):n.id∈a.au:=aqE (List.mem_filter.1 hn).1
theorem ah6(h:gd t a){e:ak}(he:e∈oH a p):e.src<a.next/\e.dst<a.next:=by
 obtain⟨i,hi,rfl⟩:=List.mem_map.1 (List.mem_filter.1 he).1;have hi:i<a.au.length:=by simpa using hi
 have hE:=h.host.graph.iu i (by rw[<-h.agW];exact hi);rw[<-h.sW] at hE;unfold dG;have g:∀n:Int,0<=n->n<(a.nodes.length:Int)->a.nodes.getD n.toNat default<a.next:=λn h0 h1=>by
  have hlt:n.toNat<a.nodes.length:=by omega
  have:=(h.nid.1 _ (nI hlt)).2;simpa[hlt] using this
 exact⟨g _ hE.2.1.1 hE.2.1.2,g _ hE.2.2.1 hE.2.2.2⟩
theorem af4{f:Int->Int}(hf:∀m n,f m=f n->m=n)(ids:List Int)(n:Int):bK (ids.map f) (f n)=bK ids n:=by
 unfold bK wL;rw[List.findIdx?_map];have:((λy=>decide (y=f n)) ∘ f)=λy=>decide (y=n):=by funext y;simp only[Function.comp,decide_eq_decide];exact⟨λh=>hf _ _ h,λh=>by rw[h]⟩
 rw[this]
def af5(p q:aG)(n0:Int):aG:=⟨q.az,q.aF,q.aR.map (mG q.next.x0 (p.next.x1-p.next.x0)),q.aP.map (lq q.next.x0 (p.next.x1-p.next.x0)),q.values,⟨n0,p.next.x1+q.next.x1-q.next.x0⟩⟩
def jg(a:ax)(p q:aG):ax:=bD a (af5 p q 0)
theorem adw(h:vb t a p q):jg a p q=⟨(bD a q).host,(bD a q).nodes.map (iQ q.next.x0 (p.next.x1-p.next.x0)),(bD a q).au.map (iQ q.next.x0 (p.next.x1-p.next.x0)),p.next.x1+q.next.x1-q.next.x0⟩/\kG (lp a q++q.aR)=lp a q++q.aR/\nT (oH a q++q.aP)=oH a q++q.aP:=by
 have hd:0<=p.next.x1-p.next.x0:=by have:=h.gp.next;omega
 have hN:∀m∈lp a q,m.id<q.next.x0:=λm hm=>by rw[h.aq.next];exact (h.aq.tk.nid.1 _ (aqJ hm)).2
 have hE:∀m∈oH a q,m.id<q.next.x0:=λm hm=>by rw[h.aq.next];exact (h.aq.tk.eid.1 _ (aqK hm)).2
 have aN:iS ah.id (lp a q):=abw _ _ (zm h.aq.tk.aem);have aE:iS ak.id (oH a q):=zm h.aq.tk.agX;have s1:kG (lp a q++q.aR)=lp a q++q.aR:=ah4 aN h.aq.ord.an λx hx y hy=>by have:=hN x hx;have:=h.gq.n y hy;omega
 have s2:nT (oH a q++q.aP)=oH a q++q.aP:=ah5 aE h.aq.ord.ae λx hx y hy=>by have:=hE x hx;have:=h.gq.e y hy;omega
 have mN:iS ah.id (q.aR.map (mG q.next.x0 (p.next.x1-p.next.x0))):=iS.map (List.Pairwise.imp (λh=>p9 hd h) h.aq.ord.an);have mE:iS ak.id (q.aP.map (lq q.next.x0 (p.next.x1-p.next.x0))):=iS.map (List.Pairwise.imp (λh=>p9 hd h) h.aq.ord.ae);have t1:kG (lp a q++q.aR.map (mG q.next.x0 (p.next.x1-p.next.x0)))=lp a q++q.aR.map (mG q.next.x0 (p.next.x1-p.next.x0)):=ah4 aN mN λx hx y hy=>by obtain⟨z,hz,rfl⟩:=List.mem_map.1 hy;have h1:=hN x hx;have h2:=h.gq.n z hz;simp only[mG,iQ];rw[if_pos h2];omega
 have t2:nT (oH a q++q.aP.map (lq q.next.x0 (p.next.x1-p.next.x0)))=oH a q++q.aP.map (lq q.next.x0 (p.next.x1-p.next.x0)):=ah5 aE mE λx hx y hy=>by obtain⟨z,hz,rfl⟩:=List.mem_map.1 hy;have h1:=hE x hx;have h2:=h.gq.e z hz;simp only[lq,iQ];rw[if_pos h2];omega
 have aIx:(lp a q).map (mG q.next.x0 (p.next.x1-p.next.x0))=lp a q:=by
  have:∀l:List ah,(∀m∈l,m.id<q.next.x0)->l.map (mG q.next.x0 (p.next.x1-p.next.x0))=l:=λl hl=>by
   induction l with
   |nil=>rfl
   |cons x l ih=>rw[List.map_cons,ih λm hm=>hl m (List.mem_cons_of_mem _ hm)];congr 1;unfold mG;rw[xO (hl x (List.mem_cons_self ..))]
  exact this _ hN
 have aIy:(oH a q).map (lq q.next.x0 (p.next.x1-p.next.x0))=oH a q:=by
  have:∀l:List ak,(∀m∈l,m.id<q.next.x0/\m.src<q.next.x0/\m.dst<q.next.x0)->l.map (lq q.next.x0 (p.next.x1-p.next.x0))=l:=λl hl=>by
   induction l with
   |nil=>rfl
   |cons x l ih=>rw[List.map_cons,ih λm hm=>hl m (List.mem_cons_of_mem _ hm)];obtain⟨h1,h2,h3⟩:=hl x (List.mem_cons_self ..);congr 1;unfold lq;rw[xO h1,xO h2,xO h3]
  exact this _ λm hm=>⟨hE m hm,by rw[h.aq.next];exact (ah6 h.aq.tk hm).1,by rw[h.aq.next];exact (ah6 h.aq.tk hm).2⟩
 refine⟨?_,s1,s2⟩;show dF (kG (lp a q++q.aR.map (mG q.next.x0 (p.next.x1-p.next.x0)))) (nT (oH a q++q.aP.map (lq q.next.x0 (p.next.x1-p.next.x0)))) _=_;unfold bD;rw[t1,t2,s1,s2];have eN:lp a q++q.aR.map (mG q.next.x0 (p.next.x1-p.next.x0))=(lp a q++q.aR).map (mG q.next.x0 (p.next.x1-p.next.x0)):=by rw[List.map_append,aIx]
 have eE:oH a q++q.aP.map (lq q.next.x0 (p.next.x1-p.next.x0))=(oH a q++q.aP).map (lq q.next.x0 (p.next.x1-p.next.x0)):=by rw[List.map_append,aIy]
 rw[eN,eE];unfold dF;simp only[List.map_map,ax.mk.injEq,Host.mk.injEq,eS.mk.injEq];have ids:((lp a q++q.aR).map (ah.id ∘ mG q.next.x0 (p.next.x1-p.next.x0)))=((lp a q++q.aR).map ah.id).map (iQ q.next.x0 (p.next.x1-p.next.x0)):=by rw[List.map_map];rfl
 refine⟨⟨⟨rfl,?_⟩,rfl⟩,rfl,rfl,rfl⟩;rw[ids];refine List.map_congr_left λe _=>?_
 show mC _ (lq _ _ e)=mC _ e;unfold mC lq;simp only[Edge.mk.injEq];exact⟨trivial,af4 (λm n=>abz hd) _ _,af4 (λm n=>abz hd) _ _⟩
theorem wR(h:vb t a p q):gd t (jg a p q):=by
 have hd:0<=p.next.x1-p.next.x0:=by have:=h.gp.next;omega
 have ho:=h.aq.ok;have n1:=h.aq.n1;have n0:=h.aq.n0;have hg:=h.gq.next
 have hnx:=h.next
 have hp0:=h.ap.n0;have e0:p.next.x0=q.next.x0:=by rw[h.ap.next,h.aq.next]
 rw[(adw h).1];have bound:∀m,0<=m/\m<q.next.x1->0<=iQ q.next.x0 (p.next.x1-p.next.x0) m/\iQ q.next.x0 (p.next.x1-p.next.x0) m<p.next.x1+q.next.x1-q.next.x0:=λm hm=>by unfold iQ;split<;>omega
 refine⟨ho.host,by simp only[List.length_map];exact ho.sW,by simp only[List.length_map];exact ho.agW,⟨by simp only;omega,by simp only;omega⟩,⟨λm hm=>?_,?_⟩,⟨λm hm=>?_,?_⟩,λe he hn=>?_⟩
 ·obtain⟨x,hx,rfl⟩:=List.mem_map.1 hm;exact bound x (ho.nid.1 x hx)
 ·exact iS.map (List.Pairwise.imp (λh=>p9 hd h) ho.nid.2)
 ·obtain⟨x,hx,rfl⟩:=List.mem_map.1 hm;exact bound x (ho.eid.1 x hx)
 ·exact iS.map (List.Pairwise.imp (λh=>p9 hd h) ho.eid.2)
 ·obtain⟨x,hx,rfl⟩:=List.mem_map.1 he;obtain⟨y,hy,e⟩:=List.mem_map.1 hn;have:=abz hd e;subst this;exact ho.apart y hx hy
theorem aaV(h:vb t a p q){n0:Int}(hT:gd t ⟨a.host,a.nodes,a.au,n0⟩):cg t ⟨a.host,a.nodes,a.au,n0⟩ (af5 p q n0):=by
 have hd:0<=p.next.x1-p.next.x0:=by have:=h.gp.next;omega
 have hs:=h.aq.small;have ho:=h.aq.ord;refine⟨hT,⟨hs.rn,hs.re,by simp[af5];exact hs.an,by simp[af5];exact hs.ae,hs.va⟩,⟨ho.rn,ho.re,iS.map (List.Pairwise.imp (λh=>p9 hd h) ho.an),iS.map (List.Pairwise.imp (λh=>p9 hd h) ho.ae),ho.va⟩,rfl,h.aq.rn,h.aq.re,h.aq.va,?_,(show gd t (jg a p q) from wR h)⟩;have hN:∀m∈lp a q,m.id<q.next.x0:=λm hm=>by rw[h.aq.next];exact (h.aq.tk.nid.1 _ (aqJ hm)).2
 have hE:∀m∈oH a q,m.id<q.next.x0:=λm hm=>by rw[h.aq.next];exact (h.aq.tk.eid.1 _ (aqK hm)).2
 have free:∀m,q.next.x0<=m->k9 (lp a q) (oH a q) (iQ q.next.x0 (p.next.x1-p.next.x0) m)=false:=λm hm=>by unfold k9 iQ;rw[if_pos hm,Bool.or_eq_false_iff];simp only[List.any_eq_false,decide_eq_true_eq];exact⟨λx hx e=>by have:=hN x hx;omega,λx hx e=>by have:=hE x hx;omega⟩
 show gM (lp a q) (oH a q) _=false;unfold gM;rw[Bool.or_eq_false_iff];simp only[List.any_eq_false];refine⟨λx hx=>?_,λx hx=>?_⟩
 ·obtain⟨z,hz,rfl⟩:=List.mem_map.1 hx;rw[show (mG q.next.x0 (p.next.x1-p.next.x0) z).id=iQ q.next.x0 (p.next.x1-p.next.x0) z.id from rfl,free _ (h.gq.n z hz)];simp
 ·obtain⟨z,hz,rfl⟩:=List.mem_map.1 hx;rw[show (lq q.next.x0 (p.next.x1-p.next.x0) z).id=iQ q.next.x0 (p.next.x1-p.next.x0) z.id from rfl,free _ (h.gq.e z hz)];simp
theorem ag0(ht:fM t)(h:vb t a p q)(hb:j4 a)(hp:jf p)(hq:jf q):pG t a p q=some (jg a p q,0):=by have hA:=aaV h (n0:=a.next) h.ap.tk;unfold pG;rw[aT (yf h.aBq hq)];have hsb:=ow (p:=p) hq;rw[aT (show eY t a ⟨(jA p q).az,(jA p q).aF,(jA p q).aR,(jA p q).aP,(jA p q).values,⟨a.next,(jA p q).next.x1⟩⟩=_ from acC ht hb ⟨hsb.rn,hsb.re,hsb.an,hsb.ae,hsb.va,hsb.rv,hsb.av⟩)];have e:nP t a ⟨(jA p q).az,(jA p q).aF,(jA p q).aR,(jA p q).aP,(jA p q).values,⟨a.next,(jA p q).next.x1⟩⟩=(jg a p q,0):=mD hA;rw[e]
theorem azc(ht:fM t)(h:vb t a p q)(hb:j4 a)(hq:jf q):bN t ⟨a.host,a.nodes,a.au,p.next.x1⟩ (jA p q)=some (jg a p q,0):=by
 have ha:=h.ap.tk;have hx:=h.ap.n1;have hg:=h.gp.next
 rw[h.ap.next] at hg;have hT:gd t ⟨a.host,a.nodes,a.au,p.next.x1⟩:=⟨ha.host,ha.sW,ha.agW,hx,⟨λn hn=>by have:=ha.nid.1 n hn;simp only;omega,ha.nid.2⟩,⟨λn hn=>by have:=ha.eid.1 n hn;simp only;omega,ha.eid.2⟩,ha.apart⟩;have hA:=aaV h hT;refine (uM ht (a:=⟨a.host,a.nodes,a.au,p.next.x1⟩) ⟨hb.host,hb.nodes,hb.au⟩ (ow hq)).trans ?_;congr 1;exact mD hA
end
def gi(t:Types)(x:ax):List bn:=(af3 t x.host).map λy=>⟨x.nodes.getD y.node.toNat default,y.iu,y.out⟩
def toR(v:bn):bJ:=⟨v.id,v.iu,v.out⟩
section
variable{t:Types}{x:ax}
theorem af6{h:Host}{y:cF}(hy:y∈af3 t h):∃k i:Nat,k<t.au.length/\i<h.graph.nodes.length/\y.iu=(k:Int)/\y.node=(i:Int):=by
 unfold af3 aeq qF at hy;obtain⟨k,hk,hy⟩:=List.mem_flatMap.1 hy;have hk:=List.mem_range.1 hk;rcases List.mem_append.1 hy with hy|hy
 ·obtain⟨i,hi,rfl⟩:=List.mem_map.1 hy;exact⟨k,i,hk,List.mem_range.1 (List.mem_filter.1 hi).1,rfl,rfl⟩
 ·obtain⟨i,hi,rfl⟩:=List.mem_map.1 hy;exact⟨k,i,hk,List.mem_range.1 (List.mem_filter.1 hi).1,rfl,rfl⟩
theorem af7(hf:fM t)(hx:gd t x):(af3 t x.host).length<=100000:=by
 have hE:=hf.au;have hn:=hx.host.graph.nodes;have:=acE (aeq t x.host.graph) (List.range t.au.length) [] 80 λk _=>by unfold aeq;rw[List.length_append];have h1:=kX (t:=t) x.host.graph (k:Int) true (t.au.getD k default).src (t.au.getD k default).nL (t.au.getD k default).jZ;have h2:=kX (t:=t) x.host.graph (k:Int) false (t.au.getD k default).dst (t.au.getD k default).ta (t.au.getD k default).oe;omega
 rw[tW,List.length_range] at this;simp only[List.nil_append,List.length_nil] at this;unfold af3;omega
theorem rR(hf:fM t)(hx:gd t x):(gi t x).length<=100000:=by unfold gi;rw[List.length_map];exact af7 hf hx
theorem aqL(hx:gd t x){v:bn}(hv:v∈gi t x):v.id∈x.nodes/\∃k:Nat,k<t.au.length/\v.iu=(k:Int):=by
 unfold gi at hv;obtain⟨y,hy,rfl⟩:=List.mem_map.1 hv;obtain⟨k,i,hk,hi,e1,e2⟩:=af6 hy;have hi':i<x.nodes.length:=by rw[hx.sW];exact hi
 refine⟨?_,k,hk,e1⟩;rw[e2];simp[hi']
theorem oI(hf:fM t)(hx:gd t x)(hb:j4 x):iL t x=some (gi t x):=by
 have hl:=af7 hf hx;unfold iL gi;rw[aT (apM hf hx.host hb.host),bw (bt (by simp only;omega))];rw[jI (af3 t x.host) (λy=>[(⟨x.nodes.getD y.node.toNat default,y.iu,y.out⟩:bn)]) 1 (λ_ _=>by simp) λi hi s hs cv=>?_,vw]
 ·rfl
 ·obtain⟨k,j,hk,hj,e1,e2⟩:=af6 (nI hi);have hj':j<x.nodes.length:=by rw[hx.sW];exact hj
  simp only[List.length_nil] at hs;rw[bR hi,fS (by omega) (by omega),bw (by omega)];simp[e2,hj']
theorem vB(hf:fM t)(hx:gd t x)(hb:j4 x):dD t x=some ((gi t x).map toR):=by
 have hl:=af7 hf hx;unfold dD gi;rw[aT (amB hf hx.host hb.host),bw (bt (by simp only;omega))];rw[jI (af3 t x.host) (λy=>[(⟨x.nodes.getD y.node.toNat default,y.iu,y.out⟩:bJ)]) 1 (λ_ _=>by simp) λi hi s hs cv=>?_,vw]
 ·rw[List.map_map];rfl
 ·obtain⟨k,j,hk,hj,e1,e2⟩:=af6 (nI hi);have hj':j<x.nodes.length:=by rw[hx.sW];exact hj
  simp only[List.length_nil] at hs;rw[bR hi,fS (by omega) (by omega),bw (by omega)];simp[e2,hj']
end
def eqX(v w:bn):Bool:=decide (v.id=w.id)&&(decide (v.iu=w.iu)&&(v.out == w.out))
theorem azd(v w:bn):eqX v w=eqX w v:=by unfold eqX;rw[Bool.eq_iff_iff];simp only[Bool.and_eq_true,decide_eq_true_eq,beq_iff_eq];exact⟨λ⟨a,b,c⟩=>⟨a.symm,b.symm,c.symm⟩,λ⟨a,b,c⟩=>⟨a.symm,b.symm,c.symm⟩⟩
def qG(t:Types)(a x z:ax)(v:bn):Bool:=(gi t a++gi t x++gi t z).any λw=>eqX v w
def auu(t:Types)(a x z y:ax):List aI:=((gi t y).filter λv=>!qG t a x z v).map λv=>⟨4,v.id,v.iu⟩
def apN(t:Types)(a x z y:ax):List aI:=(List.range y.nodes.length).flatMap λi=>((List.range t.au.length).filter λk:Nat=>(gi t y).any λv=>decide (v.id=y.nodes.getD i default)&&(decide (v.iu=(k:Int)) && !qG t a x z v)).map λk:Nat=>⟨4,y.nodes.getD i default,(k:Int)⟩
section
variable{t:Types}{a x y z:ax}{p q:aG}
theorem aze(hy:gd t y):iU (auu t a x z y)=apN t a x z y:=by
 refine xK (K:=4) (λc hc=>?_) ?_ λc=>?_
 ·obtain⟨v,_,rfl⟩:=List.mem_map.1 hc;rfl
 ·unfold apN;rw[List.pairwise_flatMap];constructor
  ·intro i _;rw[List.pairwise_map];exact (List.Pairwise.sublist List.filter_sublist List.pairwise_lt_range).imp λh=>.inr ⟨rfl,by simp only;omega⟩
  ·refine List.Pairwise.imp_of_mem ?_ (List.pairwise_lt_range (n:=y.nodes.length));intro i j hi hj hij c hc d hd;have hi:=List.mem_range.1 hi;have hj:=List.mem_range.1 hj;obtain⟨k,_,rfl⟩:=List.mem_map.1 hc;obtain⟨m,_,rfl⟩:=List.mem_map.1 hd;left;have:=hy.nid.2.acv hij hj;simpa[hi,hj] using this
 ·unfold auu apN;simp only[List.mem_map,List.mem_filter,List.mem_flatMap,List.mem_range,List.any_eq_true,Bool.and_eq_true,decide_eq_true_eq];constructor
  ·rintro⟨v,⟨hv,hn⟩,rfl⟩;obtain⟨h1,k,hk,h2⟩:=aqL hy hv;obtain⟨i,hi,e⟩:=List.getElem_of_mem h1;have hg:y.nodes.getD i default=v.id:=by rw[<-e];simp[hi]
   exact⟨i,hi,k,⟨hk,v,hv,hg.symm,h2,hn⟩,by rw[hg,h2]⟩
  ·rintro⟨i,hi,k,⟨hk,v,hv,e1,e2,hn⟩,rfl⟩;exact⟨v,⟨hv,hn⟩,by rw[e1,e2]⟩
theorem ag1{l:List bn}(hl:l.length<=1000000)(v:bn):fo l v=some (l.any λw=>eqX v w):=by
 unfold fo;rw[aT (show gb l v=some (wL (λw=>eqX v w) l) by
  unfold gb;rw[bw (bt (by omega))];exact wM l _ (λi hi cv=>by rw[bR hi];rfl) rfl),xC]
theorem aIz{l:List bn}(hl:l.length<=1000000)(v:bn):gr (l.map toR) (toR v)=some (l.any λw=>eqX v w):=by
 unfold gr;rw[bw (bt (by rw[List.length_map];omega))];rw[acD (b:=λw=>eqX v ⟨w.id,w.iu,w.out⟩) (λi hi cv=>?_) rfl,List.any_map]
 ·rfl
 ·rw[bR hi];congr 1;have:=azd v ⟨(l.map toR)[i].id,(l.map toR)[i].iu,(l.map toR)[i].out⟩;rw[this];rfl
theorem auv{n:Int}(h:0<=n/\n<=1000000):ku ([]:List bn) n=some []:=tg ⟨rfl,by omega⟩
theorem apO(x y z:List bn)(h:x.length<=300000/\y.length<=300000/\z.length<=300000):fR [x,y,z]=some (x++y++z):=by unfold fR;rw[bw (bt (by simp))];show bZ _ 3 0 0 _=_;simp only[bZ,List.getElem?_cons_zero,List.getElem?_cons_succ,mo];rw[dJ (n:=0+((x.length:Nat):Int)) (by omega),eZ (by omega),cond_false];rw[dJ (n:=0+((x.length:Nat):Int)+((y.length:Nat):Int)) (by omega),eZ (by omega),cond_false];rw[dJ (n:=0+((x.length:Nat):Int)+((y.length:Nat):Int)+((z.length:Nat):Int)) (by omega),eZ (by omega),cond_false];rw[aT (auv (by omega)),bw (bt (by simp))];show bZ _ 3 0 [] _=_;simp only[bZ,List.getElem?_cons_zero,List.getElem?_cons_succ,mo];rw[bw (by simp;omega),bw (by simp;omega),bw (by simp;omega)];simp
theorem vb.amC(h:vb t a p q)(hb:j4 a)(hq:jf q):j4 (jg a p q):=by have:=h.aq.ajH hb.host hq;rw[(adw h).1];exact⟨this.host,by simp only[List.length_map];exact this.nodes,by simp only[List.length_map];exact this.au⟩
def adx(t:Types)(a:ax)(p q:aG)(y:ax):List aI:=apN t a (bD a p) (jg a p q) y
theorem zx(ht:fM t)(h:vb t a p q)(hb:j4 a)(hp:jf p)(hq:jf q)(hy:gd t y)(hby:j4 y):mb t a p q (bD a p) y=some (adx t a p q y,0):=by
 have hx:=h.ap.ajH hb.host hp;have hz:=h.amC hb hq;have n1:=rR ht h.ap.tk;have n2:=rR ht h.ap.ok;have n3:=rR ht (wR h);have n4:=rR ht hy;unfold mb adx;rw[aT (ag0 ht h hb hp hq),dK rfl,cond_true,aT (oI ht h.ap.tk hb),aT (oI ht h.ap.ok hx),aT (oI ht (wR h) hz),aT (apO _ _ _ ⟨by omega,by omega,by omega⟩),aT (oI ht hy hby),bw (bt (by omega))];have hlen:(gi t a++gi t (bD a p)++gi t (jg a p q)).length<=1000000:=by rw[List.length_append,List.length_append];omega
 rw[jI (gi t y) (λv=>if qG t a (bD a p) (jg a p q) v=true then [] else [(⟨4,v.id,v.iu⟩:aI)]) 1 (λ_ _=>by split<;>simp) λi hi s hs cv=>?_]
 ·have e:((gi t y).flatMap λv=>if qG t a (bD a p) (jg a p q) v=true then [] else [(⟨4,v.id,v.iu⟩:aI)])=auu t a (bD a p) (jg a p q) y:=by unfold auu;rw[<-jW];congr 1;funext v;cases qG t a (bD a p) (jg a p q) v<;>rfl
  rw[List.nil_append,e];rw[aT (show eX (auu t a (bD a p) (jg a p q) y)=_ from qx ⟨by
   unfold auu;rw[List.length_map];exact Nat.le_trans (List.length_filter_le _ _) (by omega),4,λc hc=>by
    obtain⟨v,hv,rfl⟩:=List.mem_map.1 hc;obtain⟨h1,k,hk,h2⟩:=aqL hy (List.mem_filter.1 hv).1;have h3:=hy.small h1;have hE:=ht.au;exact⟨rfl,by unfold oo;simp only;omega⟩⟩),aze hy]
 ·simp only[List.length_nil] at hs;rw[bR hi,aT (ag1 hlen _),bw (by omega)];show cond (qG t a (bD a p) (jg a p q) (gi t y)[i]) _ _=_;cases qG t a (bD a p) (jg a p q) (gi t y)[i]<;>simp
theorem af8{x:ax}(hx:j4 x):dy x=some x:=by
 have h1:=hx.nodes;have h2:=hx.au;have h3:=hx.host.graph.nodes;have h4:=hx.host.graph.au;have h5:=hx.host.values;unfold dy;rw[aT (show cC x.host=some x.host by
  unfold cC;rw[aT (show ig x.host.graph=some x.host.graph by unfold ig;rw[bw (by omega),bw (by omega)]),bw (bt (by omega))];rw[jI x.host.values (λl=>[l]) 1 (λ_ _=>by simp) λi hi s hs cv=>?_]
  ·simp
  ·have:=hx.host.row _ (nI hi);simp only[List.length_nil] at hs;rw[bR hi,bw (by omega),bw (by omega)]),bw (by omega),bw (by omega)]
theorem azf(ht:fM t)(h:vb t a p q)(hb:j4 a)(hp:jf p)(hq:jf q)(hy:gd t y)(hby:j4 y):ij t a p q y=some (adx t a p q y):=by
  have hx:=h.ap.ajH hb.host hp;have hz:=h.amC hb hq;have n1:=rR ht h.ap.tk;have n2:=rR ht h.ap.ok;have n3:=rR ht (wR h);have n4:=rR ht hy;have hE:=ht.au;have hyn:=hy.n40;unfold ij adx;rw[aT (uM ht hb hp),mD h.ap,aT (af8 hb),aT (ah2 h.aBq hq),aT (azc ht h hb hq)];rw[aT (vB ht h.ap.tk hb),aT (vB ht h.ap.ok hx),bw (by simp only[List.length_map];omega),aT (vB ht (wR h) hz),bw (by simp only[List.length_map];omega),aT (vB ht hy hby),bw (bt (by omega))];have hlen:(gi t a++gi t (bD a p)++gi t (jg a p q)).length<=1000000:=by rw[List.length_append,List.length_append];omega
  have hmap:(gi t a).map toR++(gi t (bD a p)).map toR++(gi t (jg a p q)).map toR=(gi t a++gi t (bD a p)++gi t (jg a p q)).map toR:=by rw[List.map_append,List.map_append]
  rw[hmap];unfold apN;rw[jR y.nodes.length (λi=>((List.range t.au.length).filter λk:Nat=>(gi t y).any λv=>decide (v.id=y.nodes.getD i default)&&(decide (v.iu=(k:Int)) && !qG t a (bD a p) (jg a p q) v)).map λk:Nat=>(⟨4,y.nodes.getD i default,(k:Int)⟩:aI)) 1000 (λi hi=>by
    rw[List.length_map];refine Nat.le_trans (List.length_filter_le _ _) ?_;rw[List.length_range];omega) λi hi s hs cv=>?_]
  · rfl
  · have hg:y.nodes.getD i default=y.nodes[i]:=by simp[hi]
    simp only[List.length_nil] at hs;have hs':s.length<=100000:=by have:1000 * i<=1000 * 40:=Nat.mul_le_mul_left _ (by omega);omega
    rw[hg,bw (bt (by omega))];rw[jR t.au.length (λk=>if ((gi t y).any λv=>decide (v.id=y.nodes[i])&&(decide (v.iu=(k:Int)) && !qG t a (bD a p) (jg a p q) v))=true then [(⟨4,y.nodes[i],(k:Int)⟩:aI)] else []) 1 (λ_ _=>by split<;>simp) λk hk s2 hs2 cv=>?_,jW];rw[bw (bt (by rw[List.length_map];omega))];have key:=(rN (O:=List aI) (K:=λazg =>
   cond azg (
    thn (y.nodes[i]?) λaE7 =>
    cB (s2.length+1<=68719476736) <|
    cv (s2++[(⟨4,aE7,((k:Nat):Int)⟩:aI)])) <|
   cv s2) (s:=false) (f:=λaE8 (azg:Bool) acG aE9 =>
    cond azg (
     acG true) <|
    thn (((gi t y).map toR)[aE8]?) λazh =>
    thn (y.nodes[i]?) λaFa =>
    cond (decide (azh.id=aFa)) (
     cond (decide (azh.iu=((k:Nat):Int))) (
      thn (gr ((gi t a++gi t (bD a p)++gi t (jg a p q)).map toR) azh) λaFb =>
      acG (!aFb)) <|
     acG false) <|
    acG false) ((gi t y).map toR) (λb e=>b||(decide (e.id=y.nodes[i])&&(decide (e.iu=(k:Int)) && !qG t a (bD a p) (jg a p q) ⟨e.id,e.iu,e.out⟩))) (λ_ _=>True) trivial λj hj b _=>by
      refine⟨λcv=>?_,trivial⟩;cases b with
      |true=>rfl
      |false =>
        rw[cond_false,bR hj,bR hi,Bool.false_or];have hin:=aIz hlen ⟨((gi t y).map toR)[j].id,((gi t y).map toR)[j].iu,((gi t y).map toR)[j].out⟩;rw[aT (show gr _ ((gi t y).map toR)[j]=_ from hin)];show cond _ (cond _ (cv (!qG t a (bD a p) (jg a p q) ⟨((gi t y).map toR)[j].id,((gi t y).map toR)[j].iu,((gi t y).map toR)[j].out⟩)) _) _=_;cases decide (((gi t y).map toR)[j].id=y.nodes[i])<;>cases decide (((gi t y).map toR)[j].iu=(k:Int))<;>rfl).1
    rw[key];have fold_any:∀ (l:List bJ) (b:Bool) (g:bJ->Bool),l.foldl (λb e=>b||g e) b=(b||l.any g):=λl b g=>by
      induction l generalizing b with
      |nil=>simp
      |cons e l ih=>rw[List.foldl_cons,ih,List.any_cons,Bool.or_assoc]
    rw[fold_any,Bool.false_or,List.any_map];show cond ((gi t y).any λv=>decide (v.id=y.nodes[i])&&(decide (v.iu=(k:Int)) && !qG t a (bD a p) (jg a p q) v)) _ _=_;rw[bR hi,bw (by omega)];cases (gi t y).any λv=>decide (v.id=y.nodes[i])&&(decide (v.iu=(k:Int)) && !qG t a (bD a p) (jg a p q) v)<;>simp
theorem auw(h:(eF t a p q).2=0):eF t a p q=(bD (bD a p) (fJ p q),0)/\cg t (bD a p) (fJ p q):=by
 unfold eF at h ⊢;split at h
 ·cases h
 ·rename_i hn;rw[if_neg hn];exact⟨mD (nF.1 h),nF.1 h⟩
def xP(t:Types)(a:ax)(p q:aG):List aI×Int :=
 if oW t a p q≠0 then ([],oW t a p q)
 else if 0<(ov a p q).length then (ov a p q,0)
 else if (eF t a p q).2≠0 then ([],(eF t a p q).2)
 else (adx t a p q (eF t a p q).1,0)
def aas(t:Types)(a:ax)(p q:aG):ax×Int :=
 if (eF t a p q).2≠0 then (kV,(eF t a p q).2)
 else if 0<(adx t a p q (eF t a p q).1).length then (kV,11)
 else ((eF t a p q).1,0)
def v8(t:Types)(a:ax)(p q:aG):ax×Int :=
 if oW t a p q≠0 then (kV,oW t a p q)
 else if 0<(ov a p q).length then (kV,11)
 else aas t a p q
theorem xQ(hb:j4 a)(h:vb t a p q)(hp:jf p)(hq:jf q)(hm:(eF t a p q).2=0):gd t (eF t a p q).1/\j4 (eF t a p q).1:=by obtain⟨e,hA⟩:=auw hm;rw[e];exact⟨hA.ok,hA.ajH (h.ap.ajH hb.host hp).host (vA (ow hq))⟩
theorem amD(ht:fM t)(hb:j4 a)(hp:jf p)(hq:jf q):ja t a p q=some (xP t a p q):=by
 unfold ja xP;rw[aT (show jD ⟨t.nodes,t.au⟩ ⟨a.host,a.nodes,a.au,a.next⟩ p q=_ from vZ ht hb hp hq),aX];by_cases h0:oW t a p q=0;rotate_left
 ·rw[if_neg h0,if_pos h0]
 have h:=j6.1 h0;rw[if_pos h0,if_neg (λh=>h h0),aT (pU h.ap h.aq hb.host),aar h.ap h.aq,aX];by_cases h1:0<(ov a p q).length
 ·rw[if_pos (by omega),if_pos h1]
 rw[if_neg (by omega),if_neg h1];obtain⟨x,e,ex⟩:=uP ht h hb hp hq;rw[aT e,aX];by_cases h2:(eF t a p q).2=0
 ·rw[if_pos h2,if_neg (λh=>h h2),ex h2];obtain⟨k1,k2⟩:=xQ hb h hp hq h2;rw[aT (zx ht h hb hp hq k1 k2)]
 ·rw[if_neg h2,if_pos h2]
theorem apP(h:vb t a p q)(h1:¬ 0<(ov a p q).length):azb p q:=(aut (List.eq_nil_of_length_eq_zero (by omega)) h.ap h.aq).1
theorem ajI(ht:fM t)(hb:j4 a)(hp:jf p)(hq:jf q):ga t a p q=some (xP t a p q):=by
 unfold ga xP;rw[aT (show gh ⟨t.nodes,t.au⟩ ⟨a.host,a.nodes,a.au,a.next⟩ p q=_ from aBl ht hb hp hq),aX];by_cases h0:oW t a p q=0;rotate_left
 ·rw[if_neg h0,if_pos h0]
 have h:=j6.1 h0;rw[if_pos h0,if_neg (λh=>h h0),aT (show ez ⟨a.host,a.nodes,a.au,a.next⟩ ⟨p.az,p.aF,p.aR,p.aP,p.values,p.next⟩ q=some (ov a p q) from agZ h.ap.tk hb.host hp hq),aX];by_cases h1:0<(ov a p q).length
 ·rw[if_pos (by omega),if_pos h1]
 rw[if_neg (by omega),if_neg h1];rw[aT (show fU ⟨t.nodes,t.au⟩ a ⟨p.az,p.aF,p.aR,p.aP,p.values,p.next⟩ q=_ from aus ht h hb hp hq (apP h h1)),aX];by_cases h2:(eF t a p q).2=0
 ·rw[if_pos h2,if_neg (λh=>h h2)];obtain⟨k1,k2⟩:=xQ hb h hp hq h2;rw[aT (azf ht h hb hp hq k1 k2)]
 ·rw[if_neg h2,if_pos h2]
theorem ajJ(ht:fM t)(hb:j4 a)(hp:jf p)(hq:jf q):iq t a p q=some (v8 t a p q):=by
 unfold iq v8;rw[aT (vZ ht hb hp hq),aX];by_cases h0:oW t a p q=0;rotate_left
 ·rw[if_neg h0,if_pos h0];rfl
 have h:=j6.1 h0;rw[if_pos h0,if_neg (λh=>h h0),aT (pU h.ap h.aq hb.host),aar h.ap h.aq,aX];by_cases h1:0<(ov a p q).length
 ·rw[if_pos (by omega),if_pos h1];rfl
 rw[if_neg (by omega),if_neg h1];rw[aT (show qz t a p q=some (aas t a p q) by
  unfold qz aas;obtain⟨x,e,ex⟩:=uP ht h hb hp hq;rw[aT e,aX];by_cases h2:(eF t a p q).2=0
  ·rw[if_pos h2,if_neg (λh=>h h2),ex h2];obtain⟨k1,k2⟩:=xQ hb h hp hq h2;rw[aT (zx ht h hb hp hq k1 k2),dK rfl,cond_true,aX];by_cases h3:0<(adx t a p q (eF t a p q).1).length
   ·rw[if_pos (by simp only;omega),if_pos h3];rfl
   ·rw[if_neg (by simp only;omega),if_neg h3]
  ·rw[if_neg h2,if_pos h2];rfl)]
end
structure aIA(t:Types):Prop where
 attrs:∀n∈t.nodes,n.attrs.length<=1125899906842624
theorem abA{α O:Type}{Q:O->Prop}{f:Nat->Unit->(Unit->Option O)->(Unit->Option O)->Option O}{K:Unit->Option O}(l:List α)(p:α->Prop)
  (hr:∀j (cv:Unit->Option O) (hj:j<l.length),(p l[j]->Ok (cv ()) Q)->Ok (f j () cv K) Q) (he:(∀x∈l,p x)->Ok (K ()) Q):Ok (bZ f (l.length-0) 0 () K) Q:=by
 refine tG (λj _=>∀i (h:i<l.length),i<j->p l[i]) (Nat.zero_le _) (λi _ h=>absurd h (Nat.not_lt_zero i)) (λj s cv _ hj hq hn=>?_) (λs hq=>?_)
 ·refine hr j cv hj λhp=>hn () λi h hi=>?_
  rcases Nat.lt_succ_iff_lt_or_eq.1 hi with h'|h'
  ·exact hq i h h'
  ·subst h';exact hp
 ·refine he λx hx=>?_
  obtain⟨i,hi,rfl⟩:=List.mem_iff_getElem.1 hx;exact hq i hi hi
structure aIB(x:ax):Prop where
 nodes:x.nodes.length<=1125899906842624
 au:x.au.length<=1125899906842624
structure Fit3(t:Types)(x:bV):Prop where
 t:aIA t
 a:aIB x.a
theorem azi{l:List aI}(h:l.length<=1000000):ir l l=some true:=by refine Ok.eq ?_;unfold ir;refine qc (dK rfl) (cq (bt (by omega)) ?_);refine abA l (λ_=>True) (λi cv hi hn=>?_) (λ_=>.mk rfl);exact oL hi (oL hi (qc (by simp) (hn trivial)))
theorem ad0{l:List Int}(h:l.length<=1000000):gx l l=some true:=by refine Ok.eq ?_;unfold gx;refine qc (dK rfl) (cq (bt (by omega)) ?_);refine abA l (λ_=>True) (λi cv hi hn=>?_) (λ_=>.mk rfl);exact oL hi (oL hi (qc (by simp) (hn trivial)))
theorem auy{a:List Int}(h:a.length<=1000000):gT a a=some 0:=by
 refine Ok.eq ?_;unfold gT;refine aet (λs:Int=>0<=s/\s<=a.length) (λs:Int=>((a.length:Int)-s).toNat) ⟨by simp,by simp⟩ (by unfold fuel;simp;omega) (λs cv hs hn=>?_);refine cV (λh1=>?_) (λh1=>.mk ?_)
 ·have tA:=cu h1;refine qc h1 ?_;refine nO hs.1 (by omega) ?_;refine nO hs.1 (by omega) ?_;refine qc (dK rfl) ?_;rw[dJ (by omega)];exact hn _ ⟨by omega,by omega⟩ (by omega)
 ·rw[Int.sub_self];rfl
theorem aBs{g:eS}(h:alu g):jb g g=some true:=by have h1:=h.nodes;have h2:=h.au;refine Ok.eq ?_;unfold jb;refine ok_eq (xH (by omega)) (qc (dK rfl) (qc (dK rfl) (cq (bt (by omega)) ?_)));refine abA g.au (λ_=>True) (λi cv hi hn=>?_) (λ_=>.mk rfl);exact oL hi (oL hi (qc (by simp) (hn trivial)))
theorem aBt{h:Host}(hb:sM h):jc h h=some true:=by have h1:=hb.values;refine Ok.eq ?_;unfold jc;refine ok_eq (aBs hb.graph) (qc rfl (qc (dK rfl) (cq (bt (by omega)) ?_)));refine abA h.values (λ_=>True) (λi cv hi hn=>?_) (λ_=>.mk rfl);exact oL hi (oL hi (ok_eq (auy (by have:=hb.row _ (nI hi);omega)) (qc rfl (hn trivial))))
theorem azj{x:ax}(hx:j4 x):gL x x=some true:=by have h1:=hx.nodes;have h2:=hx.au;refine Ok.eq ?_;unfold gL;exact ok_eq (aBt hx.host) (qc rfl (ok_eq (xH h1) (qc (dK rfl) (ok_eq (xH h2) (qc (dK rfl) (.mk (dK rfl)))))))
section
variable{t:Types}{a:ax}{p q:aG}
end
theorem af9{l:List ah}(h:iS ah.id l):kG l=l:=(ado h.xD).ext h λ_=>tV
theorem aga{l:List ak}(h:iS ak.id l):nT l=l:=(adp h.xD).ext h λ_=>wO
theorem xR{a:ax}{p:aG}(h1:iS ah.id (lp a p++p.aR))(h2:iS ak.id (oH a p++p.aP)):bD a p=dF (lp a p++p.aR) (oH a p++p.aP) p.next.x1:=by unfold bD;rw[af9 h1,aga h2]
def exT:Types:=(gQ).get rfl
theorem aC6:gQ=some exT:=rfl
theorem aB7:fM exT:=⟨by decide +kernel,by decide +kernel,by decide +kernel,by decide +kernel,by decide +kernel,by decide +kernel,by decide +kernel,by decide +kernel⟩
def exB:ax:=(gK).get rfl
theorem azk:gK=some exB:=rfl
def oa:aG:=⟨[⟨1,1,[10]⟩],[⟨3,0,0,1⟩],[],[],[],⟨5,5⟩⟩
def rP:aG:=⟨[],[],[],[⟨5,1,1,2⟩],[],⟨5,6⟩⟩
def exR:aG:=⟨[],[],[],[],[⟨2,0,5,7⟩],⟨5,5⟩⟩
theorem aqM:j4 exB:=⟨⟨⟨by decide,by decide⟩,by decide,by decide⟩,by decide,by decide⟩
theorem apQ:gd exT exB:=dm.1 (by decide +kernel)
theorem aqN:jf oa:=⟨by decide,by decide,by decide,by decide,by decide,by decide,by decide⟩
theorem ah7:bD exB oa=dF (lp exB oa++oa.aR) (oH exB oa++oa.aP) oa.next.x1:=xR (by decide +kernel) (by decide +kernel)
theorem aqO:cg exT exB oa:=⟨apQ,⟨by decide,by decide,by decide,by decide,by decide⟩,⟨by decide,by decide,by decide,by decide,by decide⟩,by decide,by decide +kernel,by decide +kernel,by decide +kernel,by decide +kernel,by rw[ah7];exact dm.1 (by decide +kernel)⟩
theorem ah8:ye oa:=⟨by decide,by decide,by decide⟩
theorem aBu:jf rP:=⟨by decide,by decide,by decide,by decide,by decide,by decide,by decide⟩
theorem auz:bD exB rP=dF (lp exB rP++rP.aR) (oH exB rP++rP.aP) rP.next.x1:=xR (by decide +kernel) (by decide +kernel)
theorem aBv:cg exT exB rP:=⟨apQ,⟨by decide,by decide,by decide,by decide,by decide⟩,⟨by decide,by decide,by decide,by decide,by decide⟩,by decide,by decide +kernel,by decide +kernel,by decide +kernel,by decide +kernel,by rw[auz];exact dm.1 (by decide +kernel)⟩
theorem auA:ye rP:=⟨by decide,by decide,by decide⟩
theorem aBw:jf exR:=⟨by decide,by decide,by decide,by decide,by decide,by decide,by decide⟩
theorem ah9:bD exB exR=dF (lp exB exR++exR.aR) (oH exB exR++exR.aP) exR.next.x1:=xR (by decide +kernel) (by decide +kernel)
theorem aBx:cg exT exB exR:=⟨apQ,⟨by decide,by decide,by decide,by decide,by decide⟩,⟨by decide,by decide,by decide,by decide,by decide⟩,by decide,by decide +kernel,by decide +kernel,by decide +kernel,by decide +kernel,by rw[ah9];exact dm.1 (by decide +kernel)⟩
theorem auB:ye exR:=⟨by decide,by decide,by decide⟩
theorem aIC:vb exT exB oa rP:=⟨aqO,aBv,ah8,auA,by decide⟩
theorem aFc:vb exT exB oa exR:=⟨aqO,aBx,ah8,auB,by decide⟩
theorem auC:ov exB oa rP=[⟨1,1,-1⟩]:=by kernel_rfl
theorem auD:ov exB oa exR=[]:=by kernel_rfl
theorem apR:xP exT exB oa rP=([⟨1,1,-1⟩],0):=by unfold xP;rw[if_neg (λh=>h (j6.2 aIC)),auC];rfl
def exX:ax:=⟨⟨⟨[3,1],[⟨0,0,1⟩]⟩,[[],[5]]⟩,[0,2],[4],5⟩
theorem azl:bD exB oa=exX:=by rw[ah7];kernel_rfl
def exY:ax:=⟨⟨⟨[3,1],[⟨0,0,1⟩]⟩,[[],[7]]⟩,[0,2],[4],5⟩
theorem azm:bD exX (fJ oa exR)=exY:=by rw[xR (by decide +kernel) (by decide +kernel)];kernel_rfl
theorem aBy:cg exT exX (fJ oa exR):=⟨dm.1 (by decide +kernel),⟨by decide,by decide,by decide,by decide,by decide⟩,⟨by decide +kernel,by decide +kernel,by decide +kernel,by decide +kernel,by decide +kernel⟩,by decide +kernel,by decide +kernel,by decide +kernel,by decide +kernel,by decide +kernel,by rw[azm];exact dm.1 (by decide +kernel)⟩
theorem amE:eF exT exB oa exR=(exY,0):=by unfold eF tooMany;rw[azl,if_neg (by decide +kernel),mD aBy,azm]
theorem apS:jg exB oa exR=⟨⟨⟨[3,1,1],[⟨0,0,1⟩,⟨0,0,2⟩]⟩,[[],[10],[7]]⟩,[0,1,2],[3,4],5⟩:=by rw[(adw aFc).1,ah9];kernel_rfl
theorem azn:adx exT exB oa exR exY=[]:=by unfold adx;rw[azl,apS];kernel_rfl
theorem apT:v8 exT exB oa exR=(exY,0):=by unfold v8 aas;rw[if_neg (λh=>h (j6.2 aFc)),auD,amE,azn];rfl
theorem agb:fq=some true:=by unfold fq;rw[aT aC6,aT azk];show thn (ja exT exB oa rP) _=_;rw[aT (show ja exT exB oa rP=_ from amD aB7 aqM aqN aBu),apR];rw[aT azk];show thn (iq exT exB oa exR) _=_;rw[aT (show iq exT exB oa exR=_ from ajJ aB7 aqM aqN aBw),apT];rw[dK rfl,cond_true,aT (azi (by simp)),cond_true,cond_true];show thn (gx [0,2] [0,2]) _=_;rw[aT (ad0 (by simp))];show thn (gx [7] [7]) (λr=>some r)=_;rw[aT (ad0 (by simp))]
theorem aia{σ O:Type}{f:Nat->σ->(σ->Option O)->(σ->Option O)->Option O}{K:σ->Option O}{bad:Option O}(n:Nat)(ok:Nat->Bool)(step:σ->Nat->σ)(inv:Nat->σ->Prop)
  (h:∀i s,i<n->inv i s->(ok i=true->inv (i+1) (step s i))/\∀cv,f i s cv K=cond (ok i) (cv (step s i)) bad):∀ (k i:Nat) (s:σ),i+k=n->inv i s ->
  bZ f k i s K=cond ((List.range' i k).all ok) (K ((List.range' i k).foldl step s)) bad
 |0,i,s,_,_=>rfl
 |k+1,i,s,hk,hi=>by
  obtain⟨h1,h2⟩:=h i s (by omega) hi;rw[bZ,h2,List.range'_succ,List.all_cons,List.foldl_cons];cases ho:ok i with
  |false=>rfl
  |true=>rw[Bool.true_and,cond_true];exact aia n ok step inv h k (i+1) _ (by omega) (h1 ho)
theorem aat{σ O:Type}{f:Nat->σ->(σ->Option O)->(σ->Option O)->Option O}{K:σ->Option O}{bad:Option O}{s:σ}(n:Nat)(ok:Nat->Bool)(step:σ->Nat->σ)(inv:Nat->σ->Prop)(h0:inv 0 s)
  (h:∀i s,i<n->inv i s->(ok i=true->inv (i+1) (step s i))/\∀cv,f i s cv K=cond (ok i) (cv (step s i)) bad) :
  bZ f (n-0) 0 s K=cond ((List.range n).all ok) (K ((List.range n).foldl step s)) bad:=by
 rw[aia n ok step inv h (n-0) 0 s (by omega) h0,Nat.sub_zero,List.range_eq_range']
theorem aib{α β γ:Type}(b:α->Bool)(f:α->β)(g:α->List γ):∀ (l:List α) (s:List β×List γ),l.foldl (λs a=>if b a=true then (s.1++[f a],s.2) else (s.1,s.2++g a)) s=(s.1++(l.filter b).map f,s.2++(l.filter λa=>!b a).flatMap g)
 | [],s=>by simp
 |a :: r,s=>by rw[List.foldl_cons,aib b f g r,List.filter_cons,List.filter_cons];cases h:b a<;>simp
theorem aqP{α β:Type}(b:α->Bool)(f:α->β):∀ (l:List α) (s:List β),l.foldl (λs a=>if b a=true then s++[f a] else s) s=s++(l.filter b).map f
 | [],s=>by simp
 |a :: r,s=>by rw[List.foldl_cons,aqP b f r,List.filter_cons];cases h:b a<;>simp
theorem amF{α β:Type}(q:β->Bool)(f:α->β)(l:List α):wL q (l.map f)=wL (λa=>q (f a)) l:=by unfold wL;rw[List.findIdx?_map];rfl
theorem aBz{α:Type}{q:α->Bool}{l:List α}(h:0<=wL q l):(wL q l).toNat<l.length:=by
 unfold wL at *;cases hf:l.findIdx? q with
 |none=>rw[hf] at h;exact absurd h (by decide)
 |some i=>obtain⟨hi,_⟩:=List.findIdx?_eq_some_iff_getElem.1 hf;simpa using hi
def pW(ids:List Int)(n:Int):Bool:=decide (bK ids n<0)
theorem amG{ids:List Int}{n:Int} : pW ids n=true↔n ∉ ids:=by unfold pW;rw[decide_eq_true_iff,<-wQ];omega
def vC(a b:ax):List ah:=((List.range a.nodes.length).filter λi=>pW b.nodes (bF a i).id).map (bF a)
def yh(a b:ax):List ak:=((List.range a.au.length).filter λi=>pW b.au (dG a i).id).map (dG a)
def okN(a b:ax)(i:Nat):Bool:=!decide (0<=bK b.au (bF a i).id)&&(!decide (0<=bK b.nodes (bF a i).id)||decide ((bF b (bK b.nodes (bF a i).id).toNat).type=(bF a i).type))
def okD(a b:ax)(i:Nat):Bool:=!decide (0<=bK b.nodes (dG a i).id)&&(!decide (0<=bK b.au (dG a i).id)||rU (dG b (bK b.au (dG a i).id).toNat) (dG a i))
def agc(id:Int)(l m:List Int)(k:Nat):List aM:=if l.getD k default=m.getD k default then [] else [⟨id,(k:Int),l.getD k default,m.getD k default⟩]
def amH(a b:ax)(i:Nat):List aM:=(List.range (bF a i).values.length).flatMap (agc (bF a i).id (bF a i).values (bF b (bK b.nodes (bF a i).id).toNat).values)
def agd(a b:ax):List aM:=((List.range a.nodes.length).filter λi=>!pW b.nodes (bF a i).id).flatMap (amH a b)
def uQ:aG:=⟨[],[],[],[],[],⟨0,0⟩⟩
def s0(a b:ax):Bool:=(List.range a.nodes.length).all (okN a b)&&(List.range a.au.length).all (okD a b)
def yj(a b:ax):aG×Bool:=if s0 a b=true then (⟨vC a b,yh a b,vC b a,yh b a,agd a b,⟨a.next,b.next⟩⟩,true) else (uQ,false)
def ym(t:Types)(a b:ax):aG×Int :=
 if lg t a≠0 then (uQ,lg t a)
 else if lg t b≠0 then (uQ,lg t b)
 else if s0 a b=true then ((yj a b).1,0) else (uQ,11)
section
variable{t:Types}{a b:ax}
theorem yo(h:gd t a)(hv:∀l∈a.host.values,l.length<=1000000):kO a=some (bC a):=by
 have hn:=h.n40;unfold kO;rw[bw (bt (by omega)),jR a.nodes.length (λi=>[bF a i]) 1 (λ_ _=>Nat.le_refl _) λi hi s hs cv=>by
  have h1:i<a.host.graph.nodes.length:=by rw[<-h.sW];exact hi
  have h2:i<a.host.values.length:=by rw[h.host.ael];exact h1
  have h3:=hv _ (nI h2);rw[List.length_nil] at hs;rw[bR hi,bR h1,bR h2,aT (adW h3),bw (by omega)];unfold bF;simp[hi,h1,h2]]
 rw[List.nil_append,vw];rfl
theorem age(hb:b.nodes.length<=1000000)(n:Int):jw (bC b) n=some (bK b.nodes n):=by unfold jw;rw[aT (nw (p:=λx=>kA x n) (λx=>decide (x.id=n)) (by rw[gU];exact hb) λx _=>rfl),<-amF (λy=>decide (y=n)) ah.id,xF];rfl
theorem agf(hb:b.au.length<=1000000)(n:Int):jx (cT b) n=some (bK b.au n):=by unfold jx;rw[aT (ny (p:=λx=>kB x n) (λx=>decide (x.id=n)) (by rw[gz];exact hb) λx _=>rfl),<-amF (λy=>decide (y=n)) ak.id,xG];rfl
theorem qa{ids:List Int}{n:Int}(h:0<=bK ids n):(bK ids n).toNat<ids.length:=aBz h
theorem abB(a:ax){i:Nat}(h:i<(bC a).length):(bC a)[i]=bF a i:=by simp[bC]
theorem abC(a:ax){i:Nat}(h:i<(cT a).length):(cT a)[i]=dG a i:=by simp[cT]
theorem amI(ha:gd t a)(hb:gd t b){i j:Nat}(hi:i<a.nodes.length)(hj:j<b.nodes.length)(he:(bF b j).type=(bF a i).type):(bF b j).values.length=(bF a i).values.length:=by
 have key:∀ {x:ax},gd t x->∀ {k:Nat},k<x.nodes.length->(bF x k).values.length=(bg t (bF x k).type.toNat).length:=λ{x} hx {k} hk=>by
  have:=hx.host.node k (by rw[<-hx.sW];exact hk);unfold ni at this;split at this
  ·cases this
  ·split at this
   ·cases this
   ·split at this
    ·cases this
    ·rename_i h;exact Decidable.of_not_not h
 rw[key ha hi,key hb hj,he]
theorem agh(h:gd t a)(hb:sM a.host){i:Nat}(hi:i<a.nodes.length):(bF a i).values.length<=1000:=jl h hb _ (List.mem_map.2 ⟨i,List.mem_range.2 hi,rfl⟩)
theorem amJ(id:Int)(l m:List Int)(k:Nat):(agc id l m k).length<=1:=by unfold agc;split<;>simp
theorem agi(h:gd t a)(hb:sM a.host){i:Nat}(hi:i<a.nodes.length):(amH a b i).length<=1000:=by
 have:=agh h hb hi;unfold amH;have key:∀l:List Nat,(l.flatMap (agc (bF a i).id (bF a i).values (bF b (bK b.nodes (bF a i).id).toNat).values)).length<=l.length:=λl=>by
  induction l with
  |nil=>simp
  |cons x r ih=>have h1:=amJ (bF a i).id (bF a i).values (bF b (bK b.nodes (bF a i).id).toNat).values x;rw[List.flatMap_cons,List.length_append,List.length_cons];omega
 have:=key (List.range (bF a i).values.length);rw[List.length_range] at this;omega
def aqQ(a b:ax)(s:List ah×List aM)(i:Nat):List ah×List aM:=if pW b.nodes (bF a i).id=true then (s.1++[bF a i],s.2) else (s.1,s.2++amH a b i)
theorem azo(ha:gd t a)(hb:gd t b)(ba:j4 a)(bb:j4 b):mc a b=some (yj a b):=by
 have n1:=ha.n40;have n2:=ha.e80;have n3:=hb.n40;have n4:=hb.e80;have r1:∀l∈a.host.values,l.length<=1000000:=λl hl=>Nat.le_trans (ba.host.row l hl) (by decide)
 have r2:∀l∈b.host.values,l.length<=1000000:=λl hl=>Nat.le_trans (bb.host.row l hl) (by decide)
 unfold mc;rw[aT (yo ha r1),aT (sX ha),aT (yo hb r2),aT (sX hb)];rw[gU,bw (bt (by omega))];rw[aat (bad:=some (uQ,false)) a.nodes.length (okN a b) (aqQ a b) (λi s=>s.1.length<=i/\s.2.length<=1000 * i) ⟨Nat.le_refl _,Nat.le_refl _⟩ λi s hi hs=>by
  have hv:=agi (b:=b) ha ba.host hi;have hrow:=agh ha ba.host hi;refine⟨λ_=>?_,λcv=>?_⟩
  ·unfold aqQ;split
   ·exact⟨by simp only[List.length_append,List.length_cons,List.length_nil];omega,by simp only;omega⟩
   ·exact⟨by simp only;omega,by simp only[List.length_append];omega⟩
  ·have hi':i<(bC a).length:=by rw[gU];exact hi
   rw[bR hi',abB a hi',aT (age (by omega) _),aT (agf (by omega) _)]
   have inner : ∀ m : List Int, m.length = (bF a i).values.length → ∀ f : Nat → List aM → (List aM → Option (aG × Bool)) → (List aM → Option (aG × Bool)) → Option (aG × Bool),
     (∀k s' yz brk,(hk:k<(bF a i).values.length)->(hk2:k<m.length)->s'.length<=1000000->f k s' yz brk=cond (decide ((bF a i).values[k]=m[k])) (yz s') (yz (s'++[⟨(bF a i).id,(k:Int),(bF a i).values[k],m[k]⟩]))) ->
     cB ((bF a i).values.length<=fuel) (bZ f ((bF a i).values.length-0) 0 s.2 λaFd=>cv (s.1,aFd))=cv (s.1,s.2++(List.range (bF a i).values.length).flatMap (agc (bF a i).id (bF a i).values m)):=λm hm f hf=>by
    rw[bw (bt (by omega)),jR (bF a i).values.length (agc (bF a i).id (bF a i).values m) 1 (λk _=>amJ _ _ _ k) λk hk s' hs' yz=>by
     rw[hf k s' yz _ hk (by omega) (by omega),aX];have e1:(bF a i).values.getD k default=(bF a i).values[k]:=by simp[hk]
     have e2:m.getD k default=m[k]'(by omega):=by simp[show k<m.length by omega]
     unfold agc;rw[e1,e2];split
     ·rw[List.append_nil]
     ·rfl]
   unfold okN aqQ pW;by_cases c1:0<=bK b.au (bF a i).id
   ·rw[dK c1,cond_true];rfl
   rw[eZ c1,cond_false,Bool.not_false,Bool.true_and];by_cases c2:0<=bK b.nodes (bF a i).id
   ·have c3:¬ bK b.nodes (bF a i).id<0:=by omega
    have hj:=qa c2;have hj':(bK b.nodes (bF a i).id).toNat<(bC b).length:=by rw[gU];exact hj
    rw[dK c2,cond_true,fS c2 hj',abB b hj',Bool.not_true,Bool.false_or];by_cases c4:(bF b (bK b.nodes (bF a i).id).toNat).type=(bF a i).type
    ·rw[dK c4,cond_true,cond_true,eZ c3,cond_false,if_neg (by decide)];have hl:=amI ha hb hi hj c4;rw[inner _ hl _ λk s' yz brk hk hk2 hs'=>by rw[bR hk,bR hk2,bw (by omega)]];rfl
    ·rw[eZ c4,cond_false,cond_false];rfl
   ·have c3:bK b.nodes (bF a i).id<0:=by omega
    rw[eZ c2,cond_false,Bool.not_false,Bool.true_or,cond_true,dK c3,cond_true,if_pos rfl,bw (by omega)]]
 cases hN:(List.range a.nodes.length).all (okN a b) with
 |false=>unfold yj s0;rw[hN,cond_false];rfl
 |true =>
 rw[cond_true];have ap4:(List.range a.nodes.length).foldl (aqQ a b) ([],[])=(vC a b,agd a b):=by have:=aib (λi=>pW b.nodes (bF a i).id) (bF a) (amH a b) (List.range a.nodes.length) ([],[]);rw[List.nil_append,List.nil_append] at this;exact this
 rw[ap4,gz,bw (bt (by omega))];rw[aat (bad:=some (uQ,false)) a.au.length (okD a b) (λs i=>if pW b.au (dG a i).id=true then s++[dG a i] else s) (λi s=>s.length<=i) (Nat.le_refl _) λi s hi hs=>by
  refine⟨λ_=>?_,λcv=>?_⟩
  ·split
   ·rw[List.length_append,List.length_singleton];omega
   ·omega
  ·have hi':i<(cT a).length:=by rw[gz];exact hi
   rw[bR hi',abC a hi',aT (agf (by omega) _),aT (age (by omega) _)];unfold okD pW;by_cases c1:0<=bK b.nodes (dG a i).id
   ·rw[dK c1,cond_true];rfl
   rw[eZ c1,cond_false,Bool.not_false,Bool.true_and];by_cases c2:0<=bK b.au (dG a i).id
   ·have c3:¬ bK b.au (dG a i).id<0:=by omega
    have hj:=qa c2;have hj':(bK b.au (dG a i).id).toNat<(cT b).length:=by rw[gz];exact hj
    rw[dK c2,cond_true,fS c2 hj',abC b hj',Bool.not_true,Bool.false_or,eZ c3,cond_false,if_neg (by decide)];rfl
   ·have c3:bK b.au (dG a i).id<0:=by omega
    rw[eZ c2,cond_false,Bool.not_false,Bool.true_or,cond_true,dK c3,cond_true,if_pos rfl,bw (by omega)]]
 cases hE:(List.range a.au.length).all (okD a b) with
 |false=>unfold yj s0;rw[hE,cond_false,Bool.and_false];rfl
 |true =>
 rw[cond_true,gU,bw (bt (by omega)),aqP (λi=>pW b.au (dG a i).id) (dG a)]
 have aFe : ∀ (f : Nat → List ah → (List ah → Option (aG × Bool)) → (List ah → Option (aG × Bool)) → Option (aG × Bool)) (K : List ah → Option (aG × Bool)),
   (∀k s' yz,(hk:k<(bC b).length)->s'.length<=1000000->f k s' yz K=cond (pW a.nodes (bF b k).id) (yz (s'++[bF b k])) (yz s'))->bZ f (b.nodes.length-0) 0 [] K=K (vC b a):=λf K hf=>by
  rw[jR b.nodes.length (λi=>if pW a.nodes (bF b i).id=true then [bF b i] else []) 1 (λi _=>by split<;>simp) λi hi s' hs' cv=>by
   rw[List.length_nil] at hs';rw[hf i s' cv (by rw[gU];exact hi) (by omega)];cases pW a.nodes (bF b i).id
   ·simp
   ·simp]
  rw[List.nil_append,jW];rfl
 rw[aFe _ _ λk s' yz hk hs'=>by rw[bR hk,abB b hk,aT (age (by omega) _),bw (by omega)];rfl]
 have aC7 : ∀ (f : Nat → List ak → (List ak → Option (aG × Bool)) → (List ak → Option (aG × Bool)) → Option (aG × Bool)) (K : List ak → Option (aG × Bool)),
   (∀k s' yz,(hk:k<(cT b).length)->s'.length<=1000000->f k s' yz K=cond (pW a.au (dG b k).id) (yz (s'++[dG b k])) (yz s'))->bZ f (b.au.length-0) 0 [] K=K (yh b a):=λf K hf=>by
  rw[jR b.au.length (λi=>if pW a.au (dG b i).id=true then [dG b i] else []) 1 (λi _=>by split<;>simp) λi hi s' hs' cv=>by
   rw[List.length_nil] at hs';rw[hf i s' cv (by rw[gz];exact hi) (by omega)];cases pW a.au (dG b i).id
   ·simp
   ·simp]
  rw[List.nil_append,jW];rfl
 rw[gz,bw (bt (by omega)),aC7 _ _ λk s' yz hk hs'=>by rw[bR hk,abC b hk,aT (agf (by omega) _),bw (by omega)];rfl];unfold yj s0;rw[hN,hE];rfl
theorem agj(ht:fM t)(ba:j4 a)(bb:j4 b):me t a b=some (ym t a b):=by
 unfold me ym;rw[aT (show fO t a=_ from nA ht ba),aX];by_cases h1:lg t a=0;rotate_left
 ·rw[if_neg h1,if_pos h1];rfl
 rw[if_pos h1,if_neg (λh=>h h1),aT (show fO t b=_ from nA ht bb),aX];by_cases h2:lg t b=0;rotate_left
 ·rw[if_neg h2,if_pos h2];rfl
 rw[if_pos h2,if_neg (λh=>h h2),aT (azo (dm.1 h1) (dm.1 h2) ba bb)];unfold yj;split
 ·rfl
 ·rfl
end
section
variable{t:Types}{a b:ax}
theorem aau{a:ax}{i:Nat}(h:i<a.nodes.length):(bF a i).id=a.nodes[i]:=by unfold bF;simp[h]
theorem aeA{a:ax}{i:Nat}(h:i<a.au.length):(dG a i).id=a.au[i]:=by unfold dG;simp[h]
theorem aic(ha:gd t a)(hb:gd t b)(ba:j4 a):fE a b=some (vC a b,yh a b):=by
 have n1:=ha.n40;have n2:=ha.e80;have n3:=hb.n40;have n4:=hb.e80;have r1:∀l∈a.host.values,l.length<=1000000:=λl hl=>Nat.le_trans (ba.host.row l hl) (by decide)
 unfold fE;rw[bw (bt (by omega)),jR a.nodes.length (λi=>if pW b.nodes (bF a i).id=true then [bF a i] else []) 1 (λi _=>by split<;>simp) λi hi s hs cv=>by
  rw[List.length_nil] at hs;rw[bR hi,aT (c9 (by omega) _),aT (ayU ha hi r1),bw (by omega),<-aau hi];show cond (pW b.nodes (bF a i).id) _ _=_;cases pW b.nodes (bF a i).id
  ·simp
  ·simp]
 rw[List.nil_append,jW,bw (bt (by omega)),jR a.au.length (λi=>if pW b.au (dG a i).id=true then [dG a i] else []) 1 (λi _=>by split<;>simp) λi hi s hs cv=>by
  rw[List.length_nil] at hs;rw[bR hi,aT (c9 (by omega) _),aT (ajD ha hi),bw (by omega),<-aeA hi];show cond (pW b.au (dG a i).id) _ _=_;cases pW b.au (dG a i).id
  ·simp
  ·simp]
 rw[List.nil_append,jW];rfl
theorem aBA(ha:gd t a)(hb:gd t b):iK a b=some (s0 a b):=by
 have n1:=ha.n40;have n2:=ha.e80;have n3:=hb.n40;have n4:=hb.e80;unfold iK s0;rw[bw (bt (by omega)),aat (bad:=some false) a.nodes.length (okN a b) (λs _=>s) (λ_ _=>True) trivial λi s hi hs=>⟨λ_=>trivial,λcv=>by
  have h1:i<a.host.graph.nodes.length:=by rw[<-ha.sW];exact hi
  rw[bR hi,aT (c9 (by omega) _),aT (c9 (by omega) _),<-aau hi];show cond (decide (0<=bK b.au (bF a i).id)) _ (cond (decide (0<=bK b.nodes (bF a i).id)) (thn a.host.graph.nodes[i]? λaJG=>thn (nc b.host.graph.nodes (bK b.nodes (bF a i).id)) _) _)=_;unfold okN;by_cases c1:0<=bK b.au (bF a i).id
  ·rw[dK c1,cond_true];rfl
  rw[eZ c1,cond_false,Bool.not_false,Bool.true_and];by_cases c2:0<=bK b.nodes (bF a i).id
  ·have hj:=qa c2;have hj':(bK b.nodes (bF a i).id).toNat<b.host.graph.nodes.length:=by rw[<-hb.sW];exact hj
   rw[dK c2,cond_true,bR h1,fS c2 hj',Bool.not_true,Bool.false_or];have e1:(bF a i).type=a.host.graph.nodes[i]:=by unfold bF;simp[h1]
   have e2:(bF b (bK b.nodes (bF a i).id).toNat).type=b.host.graph.nodes[(bK b.nodes (bF a i).id).toNat]:=by show b.host.graph.nodes.getD _ default=_;simp[hj']
   rw[e1,e2];by_cases c4:a.host.graph.nodes[i]=b.host.graph.nodes[(bK b.nodes (bF a i).id).toNat]
   ·rw[dK c4,dK c4.symm]
   ·rw[eZ c4,eZ λh=>c4 h.symm]
  ·rw[eZ c2,cond_false,Bool.not_false,Bool.true_or,cond_true]⟩]
 cases hN:(List.range a.nodes.length).all (okN a b) with
 |false=>rfl
 |true =>
 rw[cond_true,bw (bt (by omega)),aat (bad:=some false) a.au.length (okD a b) (λs _=>s) (λ_ _=>True) trivial λi s hi hs=>⟨λ_=>trivial,λcv=>by
  rw[bR hi,aT (c9 (by omega) _),aT (c9 (by omega) _),<-aeA hi];show cond (decide (0<=bK b.nodes (dG a i).id)) _ (cond (decide (0<=bK b.au (dG a i).id)) (thn (dz a i) λaJH=>thn (dz b (bK b.au (dG a i).id)) _) _)=_;unfold okD;by_cases c1:0<=bK b.nodes (dG a i).id
  ·rw[dK c1,cond_true];rfl
  rw[eZ c1,cond_false,Bool.not_false,Bool.true_and];by_cases c2:0<=bK b.au (dG a i).id
  ·have hj:=qa c2;have aB8:=ajD hb hj;rw[show (((bK b.au (dG a i).id).toNat:Nat):Int)=bK b.au (dG a i).id by omega] at aB8;rw[dK c2,cond_true,aT (ajD ha hi),aT aB8,Bool.not_true,Bool.false_or];have:(decide ((dG a i).id=(dG b (bK b.au (dG a i).id).toNat).id)&&(decide ((dG a i).type=(dG b (bK b.au (dG a i).id).toNat).type)&&(decide ((dG a i).src=(dG b (bK b.au (dG a i).id).toNat).src)&&decide ((dG a i).dst=(dG b (bK b.au (dG a i).id).toNat).dst))))=rU (dG b (bK b.au (dG a i).id).toNat) (dG a i):=by unfold rU;simp only[eq_comm]
   rw[this]
  ·rw[eZ c2,cond_false,Bool.not_false,Bool.true_or,cond_true]⟩]
 cases (List.range a.au.length).all (okD a b)<;>rfl
theorem ady{O:Type}(id:Int)(l m:List Int)(hm:m.length=l.length)(hl:l.length<=1000000){f:Int×List aM->(Int×List aM->Option O)->(Int×List aM->Option O)->Option O}{K:Int×List aM->Option O}
  (h:∀k s cv,(hk:k<l.length)->(hk2:k<m.length)->s.length<=2000000->f ((k:Int),s) cv K=cond (decide (l[k]=m[k])) (cv (i64.wrap ((k:Int)+1),s)) (cv (i64.wrap ((k:Int)+1),s++[⟨id,(k:Int),l[k],m[k]⟩]))) (he:∀s cv,f ((l.length:Int),s) cv K=K ((l.length:Int),s)) :
  ∀ (d k:Nat) (s:List aM) (n:Nat),k+d=l.length->d<n->s.length<=1000000+k->iter f n ((k:Int),s) K=K ((l.length:Int),s++(List.range' k d).flatMap (agc id l m))
 |0,k,s,n,hd,hn,hs=>by
  obtain⟨n,rfl⟩:∃j,n=j+1:=⟨n-1,by omega⟩;rw[iter];obtain rfl:k=l.length:=by omega
  rw[he];simp
 |d+1,k,s,n,hd,hn,hs=>by
  obtain⟨n,rfl⟩:∃j,n=j+1:=⟨n-1,by omega⟩;have hk:k<l.length:=by omega
  rw[iter,h k s _ hk (by omega) (by omega),dJ (by omega),aX,List.range'_succ,List.flatMap_cons];have e1:l.getD k default=l[k]:=by simp[hk]
  have e2:m.getD k default=m[k]'(by omega):=by simp[show k<m.length by omega]
  have hv:agc id l m k=if l[k]=m[k]'(by omega) then [] else [⟨id,(k:Int),l[k],m[k]'(by omega)⟩]:=by unfold agc;rw[e1,e2]
  rw[hv,show ((k:Int)+1)=((k+1:Nat):Int) by omega];split
  ·rw[ady id l m hm hl h he d (k+1) _ n (by omega) (by omega) (by omega),List.nil_append]
  ·rw[ady id l m hm hl h he d (k+1) _ n (by omega) (by omega) (by rw[List.length_append,List.length_singleton];omega),List.append_assoc]
theorem aid{α β:Type}(b:α->Bool)(g:α->List β):∀l:List α,l.flatMap (λa=>if b a=true then [] else g a)=(l.filter λa=>!b a).flatMap g
 | []=>rfl
 |a :: r=>by rw[List.flatMap_cons,aid b g r,List.filter_cons];cases b a<;>simp
theorem azp(hall:(List.range a.nodes.length).all (okN a b)=true){i:Nat}(hi:i<a.nodes.length)(c2:0<=bK b.nodes (bF a i).id):(bF b (bK b.nodes (bF a i).id).toNat).type=(bF a i).type:=by have:=List.all_eq_true.1 hall i (List.mem_range.2 hi);unfold okN at this;rw[dK c2,Bool.not_true,Bool.false_or,Bool.and_eq_true] at this;exact cu this.2
theorem aC8(ha:gd t a)(hb:gd t b)(ba:j4 a)(bb:j4 b):iY a b=some (yj a b):=by
  have n1:=ha.n40;have n2:=ha.e80;have n3:=hb.n40;have n4:=hb.e80;unfold iY yj;rw[aT (aBA ha hb)];cases hg:s0 a b with
  |false=>rw[cond_false];rfl
  |true =>
  have hN:(List.range a.nodes.length).all (okN a b)=true:=by unfold s0 at hg;rw[Bool.and_eq_true] at hg;exact hg.1
  rw[cond_true,aT (aic ha hb ba),aT (aic hb ha bb),bw (bt (by omega)),if_pos rfl];rw[jR a.nodes.length (λi=>if pW b.nodes (bF a i).id=true then [] else amH a b i) 1000 (λi hi=>by
    have:=agi (b:=b) ha ba.host hi;split
    · simp
    · exact this) λi hi s hs cv=>by
    rw[List.length_nil] at hs;have h2:i<a.host.values.length:=by rw[ha.host.ael,<-ha.sW];exact hi
    have hrow:=agh ha ba.host hi;rw[bR hi,aT (c9 (by omega) _),<-aau hi];show cond (pW b.nodes (bF a i).id) _ (iter _ fuel (0,s) _)=_;by_cases c2:0<=bK b.nodes (bF a i).id
    · have ho:pW b.nodes (bF a i).id=false:=eZ (by omega);have hj:=qa c2;have hj2:(bK b.nodes (bF a i).id).toNat<b.host.values.length:=by rw[hb.host.ael,<-hb.sW];exact hj
      have hty:=azp hN hi c2;have hl:=amI ha hb hi hj hty;have e1:a.host.values[i]=(bF a i).values:=by unfold bF;simp[h2]
      have e2:b.host.values[(bK b.nodes (bF a i).id).toNat]=(bF b (bK b.nodes (bF a i).id).toNat).values:=by show _=b.host.values.getD _ default;simp[hj2]
      rw[ho,cond_false,if_neg (by decide)];have:=ady (O:=aG×Bool) (bF a i).id (bF a i).values _ hl (by omega) (K:=λwS=>cv wS.2) (f:=λ(wS:Int×(List aM)) amK azq =>
    thn (a.host.values[i]?) λaB9 =>
    cond (decide (wS.1<((aB9.length:Nat):Int))) (
     thn (nc aB9 wS.1) λaCa =>
     thn (nc b.host.values (bK b.nodes (bF a i).id)) λaFf =>
     thn (nc aFf wS.1) λaCb =>
     cond (decide (aCa=aCb)) (
      amK ((i64.wrap (wS.1+1)),wS.2)) <|
     cB (wS.2.length+1<=68719476736) <|
     amK ((i64.wrap (wS.1+1)),(wS.2++[(⟨(bF a i).id,wS.1,aCa,aCb⟩:aM)]))) <|
    azq (wS.1, wS.2)) (fun k s' yz hk hk2 hs' => by
        dsimp only;rw[bR h2,e1,dK (by omega),cond_true,fS (by omega) (by simpa using hk),fS c2 hj2,e2,fS (by omega) (by simpa using hk2),bw (by omega)];rfl) (λs' yz=>by
        dsimp only;rw[bR h2,e1,eZ (by omega),cond_false]) (bF a i).values.length 0 s fuel (by omega) (by unfold fuel;omega) (by omega)
      rw[<-List.range_eq_range'] at this;exact this
    · have ho:pW b.nodes (bF a i).id=true:=dK (by omega);rw[ho,cond_true,if_pos rfl,List.append_nil]]
  rw[List.nil_append,aid];rfl
theorem aqR(ht:fM t)(ba:j4 a)(bb:j4 b):gI t a b=some (ym t a b):=by
 unfold gI ym;rw[aT (show b8 t a=_ from mz ht ba),aX];by_cases h1:lg t a=0;rotate_left
 ·rw[if_neg h1,if_pos h1];rfl
 rw[if_pos h1,if_neg (λh=>h h1),aT (show b8 t b=_ from mz ht bb),aX];by_cases h2:lg t b=0;rotate_left
 ·rw[if_neg h2,if_pos h2];rfl
 rw[if_pos h2,if_neg (λh=>h h2),aT (aC8 (dm.1 h1) (dm.1 h2) ba bb)];unfold yj;split
 ·rfl
 ·rfl
def acH(t:Types)(a:ax)(p q:aG):aG×Int :=
 if oW t a p q≠0 then (uQ,oW t a p q)
 else if 0<(ov a p q).length then (uQ,11)
 else if (eF t a p q).2≠0 then (uQ,(eF t a p q).2)
 else ym t (bD a p) (eF t a p q).1
variable{p q:aG}
theorem azr(ht:fM t)(hb:j4 a)(hp:jf p)(hq:jf q):mg t a p q=some (acH t a p q):=by
 unfold mg acH;rw[aT (show jD t a p q=_ from vZ ht hb hp hq),aX];by_cases h0:oW t a p q=0;rotate_left
 ·rw[if_neg h0,if_pos h0];rfl
 have h:=j6.1 h0;rw[if_pos h0,if_neg (λh=>h h0),aT (pU h.ap h.aq hb.host),aar h.ap h.aq,aX];by_cases h1:0<(ov a p q).length
 ·rw[if_pos (by omega),if_pos h1];rfl
 rw[if_neg (by omega),if_neg h1];obtain⟨x,e,ex⟩:=uP ht h hb hp hq;rw[aT e,aX];by_cases h2:(eF t a p q).2=0
 ·rw[if_pos h2,if_neg (λh=>h h2),ex h2];obtain⟨k1,k2⟩:=xQ hb h hp hq h2;rw[aT (show me ⟨t.nodes,t.au⟩ _ _=_ from agj ht (h.ap.ajH hb.host hp) k2)]
 ·rw[if_neg h2,if_pos h2];rfl
structure aBB(p:aG):Prop where
 rn:p.az.length<=1000000
 re:p.aF.length<=1000000
 an:p.aR.length<=1000000
 ae:p.aP.length<=1000000
 va:p.values.length<=1000000
 rr:∀n∈p.az,n.values.length<=1000000
 ar:∀n∈p.aR,n.values.length<=1000000
theorem ad1{l:List ah}(h:l.length<=1000000)(hv:∀n∈l,n.values.length<=1000000):eO l l=some true:=by refine Ok.eq ?_;unfold eO;refine qc (dK rfl) (cq (bt (by omega)) ?_);refine abA l (λ_=>True) (λi cv hi hn=>?_) (λ_=>.mk rfl);exact oL hi (oL hi (ok_eq (afQ _ _ (hv _ (nI hi))) (qc (rO.2 rfl) (hn trivial))))
theorem ad2{l:List ak}(h:l.length<=1000000):eP l l=some true:=by refine Ok.eq ?_;unfold eP;refine qc (dK rfl) (cq (bt (by omega)) ?_);refine abA l (λ_=>True) (λi cv hi hn=>?_) (λ_=>.mk rfl);exact oL hi (oL hi (qc (by simp) (hn trivial)))
theorem amL(h:aBB p):eR p p=some true:=by have:=h.va;refine Ok.eq ?_;unfold eR;refine ok_eq (ad1 h.rn h.rr) (qc rfl (ok_eq (ad1 h.an h.ar) (qc rfl (ok_eq (ad2 h.re) (qc rfl (ok_eq (ad2 h.ae) (qc rfl (qc (dK rfl) (cq (bt (by omega)) ?_)))))))));refine abA p.values (λ_=>True) (λi cv hi hn=>?_) (λ_=>.mk (by simp));exact oL hi (oL hi (qc (by simp) (hn trivial)))
theorem adz:aBB uQ:=⟨by simp[uQ],by simp[uQ],by simp[uQ],by simp[uQ],by simp[uQ],λn hn=>(by cases hn),λn hn=>(by cases hn)⟩
theorem aav{n:ah}(h:n∈vC a b):n∈bC a:=by obtain⟨i,hi,rfl⟩:=List.mem_map.1 h;exact List.mem_map.2 ⟨i,(List.mem_filter.1 hi).1,rfl⟩
theorem aie:(vC a b).length<=a.nodes.length:=by unfold vC;rw[List.length_map];exact Nat.le_trans (List.length_filter_le _ _) (by simp)
theorem aif:(yh a b).length<=a.au.length:=by unfold yh;rw[List.length_map];exact Nat.le_trans (List.length_filter_le _ _) (by simp)
theorem amM{α β:Type}(g:α->List β)(k:Nat):∀l:List α,(∀a∈l,(g a).length<=k)->(l.flatMap g).length<=k * l.length
 | [],_=>by simp
 |a :: r,h=>by
  have h1:=h a (List.mem_cons_self ..);have h2:=amM g k r λx hx=>h x (List.mem_cons_of_mem _ hx)
  rw[List.flatMap_cons,List.length_append,List.length_cons,Nat.mul_add];omega
theorem auE(ha:gd t a)(ba:j4 a):(agd a b).length<=40000:=by
 have n1:=ha.n40;have:=amM (amH a b) 1000 ((List.range a.nodes.length).filter λi=>!pW b.nodes (bF a i).id) λi hi=>agi ha ba.host (List.mem_range.1 (List.mem_filter.1 hi).1)
 have h2:=List.length_filter_le (λi=>!pW b.nodes (bF a i).id) (List.range a.nodes.length);rw[List.length_range] at h2;unfold agd;omega
theorem auF(ba:j4 a)(bb:j4 b):aBB (ym t a b).1:=by
 unfold ym;split
 ·exact adz
 rename_i h1;split
 ·exact adz
 rename_i h2;have ha:=dm.1 (Decidable.of_not_not h1);have hb:=dm.1 (Decidable.of_not_not h2);have n1:=ha.n40;have n2:=ha.e80;have n3:=hb.n40;have n4:=hb.e80;split
 ·rename_i h3;unfold yj;rw[if_pos h3];have l1:=@aie a b;have l2:=@aif a b;have l3:=@aie b a;have l4:=@aif b a;have l5:=auE (b:=b) ha ba;exact⟨by dsimp only;omega,by dsimp only;omega,by dsimp only;omega,by dsimp only;omega,by dsimp only;omega,λn hn=>Nat.le_trans (jl ha ba.host n (aav hn)) (by decide),λn hn=>Nat.le_trans (jl hb bb.host n (aav hn)) (by decide)⟩
 ·exact adz
end
section
variable{t:Types}{a b:ax}
theorem agk{ids:List Int}{n:Int}(h:0<=bK ids n):ids[(bK ids n).toNat]? = some n:=by
 unfold bK wL at *;cases hf:ids.findIdx? λy=>decide (y=n) with
 |none=>rw[hf] at h;exact absurd h (by decide)
 |some i=>obtain⟨hi,h1,_⟩:=List.findIdx?_eq_some_iff_getElem.1 hf;show ids[((i:Nat):Int).toNat]? = some n;rw[Int.toNat_natCast,List.getElem?_eq_getElem hi,cu h1]
theorem auG{ids:List Int}{n:Int}(h:0<=bK ids n):ids[(bK ids n).toNat]'(qa h)=n:=by have:=agk h;rw[List.getElem?_eq_getElem (qa h)] at this;exact Option.some.inj this
theorem aaw{ids:List Int}(h:iS id ids){i:Nat}(hi:i<ids.length):bK ids ids[i]=(i:Int):=by have h0:0<=bK ids ids[i]:=wQ.2 (nI hi);have h1:=auG h0;have:=h.apG (qa h0) hi h1;omega
theorem adA{i:Nat}(h:i<a.nodes.length):bF a i∈bC a:=List.mem_map.2 ⟨i,List.mem_range.2 h,rfl⟩
theorem aih{i:Nat}(h:i<a.au.length):dG a i∈cT a:=List.mem_map.2 ⟨i,List.mem_range.2 h,rfl⟩
theorem aii{i:Nat}(h:kF t i=0):(bg t i).length<=8:=by
 unfold kF at h;split at h
 ·cases h
 split at h
 ·cases h
 split at h
 ·cases h
 split at h
 ·cases h
 split at h
 ·cases h
 ·omega
theorem azs:vC a b=(bC a).filter λn=>pW b.nodes n.id:=by unfold vC bC;rw[List.filter_map];rfl
theorem azt:yh a b=(cT a).filter λn=>pW b.au n.id:=by unfold yh cT;rw[List.filter_map];rfl
theorem amN{n:ah} : n∈vC a b↔n∈bC a/\n.id ∉ b.nodes:=by rw[azs,List.mem_filter,amG]
theorem amO{n:ak} : n∈yh a b↔n∈cT a/\n.id ∉ b.au:=by rw[azt,List.mem_filter,amG]
theorem take_set{l m:List Int}{k:Nat}(hk:k<l.length)(hm:k<m.length):(m.take k++l.drop k).set k m[k]=m.take (k+1)++l.drop (k+1):=by rw[List.set_append,if_neg (by rw[List.length_take];omega),List.length_take,Nat.min_eq_left (by omega),Nat.sub_self,List.drop_eq_getElem_cons hk,List.set_cons_zero,List.take_succ_eq_append_getElem hm,List.append_assoc];rfl
def azu(a b:ax):aG:=⟨vC a b,yh a b,vC b a,yh b a,agd a b,⟨a.next,b.next⟩⟩
theorem apU(hb:gd t b):dF (bC b) (cT b) b.next=b:=by
 unfold dF;rw[xF,xG];have e1:(bC b).map ah.type=b.host.graph.nodes:=by unfold bC;rw[List.map_map,hb.sW];exact uK b.host.graph.nodes
 have e2:(bC b).map ah.values=b.host.values:=by unfold bC;rw[List.map_map,hb.sW,<-hb.host.ael];exact uK b.host.values
 have e3:(cT b).map (mC b.nodes)=b.host.graph.au:=by
  unfold cT;rw[List.map_map,hb.agW];refine (List.map_congr_left λi hi=>?_).trans (uK b.host.graph.au);have hi:=List.mem_range.1 hi;have hE:=hb.host.graph.iu i hi;rw[<-hb.sW] at hE;have hg:b.host.graph.au.getD i default=b.host.graph.au[i]:=by simp[hi]
  show mC b.nodes (dG b i)=_;unfold mC dG;rw[hg] at hE ⊢;have key:∀s:Int,0<=s->s<b.nodes.length->bK b.nodes (b.nodes.getD s.toNat default)=s:=λs h0 h1=>by
   have h2:s.toNat<b.nodes.length:=by omega
   have e:b.nodes.getD s.toNat default=b.nodes[s.toNat]:=by simp[h2]
   rw[e,aaw hb.nid.2 h2];omega
  rw[key _ hE.2.1.1 (by omega),key _ hE.2.2.1 (by omega)]
 rw[e1,e2,e3]
end
def qR(n:Int):aG:=⟨[],[],[],[],[],⟨n,n⟩⟩
theorem agl{α:Type}{q:α->α->Bool}{l:List α} : less q l []=l:=by unfold less;exact List.filter_eq_self.2 λ_ _=>rfl
theorem ajK(n:Int):jf (qR n):=⟨by simp[qR],by simp[qR],by simp[qR],by simp[qR],by simp[qR],λn hn=>(by cases hn),λn hn=>(by cases hn)⟩
theorem aBC(n:Int):aBB (qR n):=⟨by simp[qR],by simp[qR],by simp[qR],by simp[qR],by simp[qR],λn hn=>(by cases hn),λn hn=>(by cases hn)⟩
section
variable{t:Types}{a:ax}{p:aG}
theorem aBD(n:Int):lp a (qR n)=bC a:=by show (gy (less eD (bC a) []) []).1=_;rw[agl];rfl
theorem aBE(n:Int):oH a (qR n)=cT a:=agl
theorem acI(h:gd t a):bD a (qR a.next)=a:=by
 unfold bD;rw[aBD,aBE];show dF (kG (bC a++[])) (nT (cT a++[])) a.next=a
 rw[List.append_nil,List.append_nil,af9 h.aem,aga h.agX,apU h]
theorem abD(h:gd t a):cg t a (qR a.next) where
 tk:=h
 small:=⟨by simp[qR],by simp[qR],by simp[qR],by simp[qR],by simp[qR]⟩
 ord:=⟨List.Pairwise.nil,List.Pairwise.nil,List.Pairwise.nil,List.Pairwise.nil,List.Pairwise.nil⟩
 next:=rfl
 rn:=rfl
 re:=rfl
 va:=rfl
 free:=rfl
 ok:=by rw[acI h];exact h
theorem amP(n:Int):ye (qR n):=⟨Int.le_refl _,λn hn=>(by cases hn),λn hn=>(by cases hn)⟩
theorem aqS(h:cg t a p)(hg:ye p):vb t a p (qR a.next):=⟨h,abD h.tk,hg,amP _,by show p.next.x1+a.next-a.next<=1000000;have:=h.n1;omega⟩
theorem azv(h:cg t a p)(hg:ye p):vb t a (qR a.next) p:=⟨abD h.tk,h,amP _,hg,by show a.next+p.next.x1-p.next.x0<=1000000;have:=h.n1;have:=h.next;omega⟩
theorem amQ(n:Int):ov a p (qR n)=[]:=by
 unfold ov;have h1:∀id,adt p (qR n) id=false:=λid=>by simp[adt,vv,dg,qR]
 have h2:∀i,zv a p (qR n) i=[]:=λi=>by unfold zv;rw[List.filter_eq_nil_iff.2 λk _=>by simp[ajF,ou,dg,qR]];rfl
 have h3:∀v,apL (qR n) v=false:=λv=>rfl
 rw[List.filter_eq_nil_iff.2 λx _=>by rw[h1];simp,List.filter_eq_nil_iff.2 λx _=>by rw[h3];simp,List.flatMap_eq_nil_iff.2 λi _=>h2 i];rfl
theorem auH(n:Int):ov a (qR n) p=[]:=by
 unfold ov;have h1:∀id,adt (qR n) p id=false:=λid=>by simp[adt,vv,dg,qR]
 have h2:∀i,zv a (qR n) p i=[]:=λi=>by unfold zv;rw[List.filter_eq_nil_iff.2 λk _=>by simp[ajF,ou,dg,qR]];rfl
 rw[List.filter_eq_nil_iff.2 λx _=>by rw[h1];simp,List.flatMap_eq_nil_iff.2 λi _=>h2 i];rfl
theorem aqT(n:Int):fJ p (qR n)=qR p.next.x1:=by show (⟨[],[],[],[],[],⟨p.next.x1,p.next.x1+n-n⟩⟩:aG)=_;rw[Int.add_sub_cancel];rfl
theorem vD(x0 id:Int):iQ x0 0 id=id:=by unfold iQ;split<;>omega
theorem ad3(x0:Int)(l:List ah):l.map (mG x0 0)=l:=by refine (List.map_congr_left λn _=>?_).trans (List.map_id l);unfold mG;rw[vD];rfl
theorem ad4(x0:Int)(l:List ak):l.map (lq x0 0)=l:=by refine (List.map_congr_left λn _=>?_).trans (List.map_id l);unfold lq;rw[vD,vD,vD];rfl
theorem agm{α:Type}{b:α->Bool}{l:List α}(h:∀x,b x=true):l.filter b=l:=List.filter_eq_self.2 λx _=>h x
theorem azw(n:Int)(h:p.next.x0=n):jA (qR n) p=p:=by unfold jA;show (⟨p.az,p.aF,p.aR.map (mG p.next.x0 (n-n)),p.aP.map (lq p.next.x0 (n-n)),p.values,⟨n,n+p.next.x1-p.next.x0⟩⟩:aG)=p;rw[Int.sub_self,ad3,ad4,show n+p.next.x1-p.next.x0=p.next.x1 by omega,<-h]
theorem amR(n:Int)(h:p.next.x0=n):fJ (qR n) p=p:=by unfold fJ;rw[azw n h];unfold nk;rw[agm (b:=λm=>!(qR n).az.any _) λ_=>rfl,agm (b:=λm=>!(qR n).aF.any _) λ_=>rfl,agm (b:=λm=>!(qR n).values.any _) λ_=>rfl]
theorem aij(h:cg t a p):eF t a p (qR a.next)=(bD a p,0):=by
 unfold eF;have h1:=h.ok.n40;have h2:=h.ok.e80;have hn:tooMany a p (qR a.next)=false:=by unfold tooMany;rw[aqT];show (decide ((40:Int)<((bD a p).nodes.length:Int)+0-0)||decide ((80:Int)<((bD a p).au.length:Int)+0-0))=false;rw[Bool.or_eq_false_iff];exact⟨eZ (by omega),eZ (by omega)⟩
 rw[hn,if_neg (by simp),aqT,show p.next.x1=(bD a p).next from rfl,mD (abD h.ok),acI h.ok]
theorem abE{α:Type}{f:α->Int}{q:α->α->Bool}(hq:∀a b,q a b=true↔a=b):∀ (r l:List α),iS f l->r.Pairwise (λa b=>f a≠f b)->mu q l r=true->(less q l r).length+r.length=l.length
 | [],l,_,_,_=>by rw[agl];rfl
 |n :: r,l,hl,hr,hi=>by
  obtain⟨hr1,hr2⟩:=List.pairwise_cons.1 hr;have hm:n∈l:=ahZ hq hi n (List.mem_cons_self ..);obtain⟨s1,s2⟩:=adn (f:=f) hq (l:=l) (r:=r) (n:=n) hr1;have hi2:mu q l r=true:=by unfold mu at hi ⊢;rw[List.all_cons,Bool.and_eq_true] at hi;exact hi.2
  have e:=abE hq r (l.filter λm=>!q m n) (hl.sub List.filter_sublist) hr2 (s1.trans hi2);rw[s2] at e;obtain⟨i,qI,hin⟩:=List.getElem_of_mem hm;have e2:=erase_filter hq hl qI hin;have e3:=congrArg List.length e2;rw[List.length_append,List.length_take,List.length_drop] at e3;rw[List.length_cons];omega
theorem apV(h:cg t a p):(bD a p).nodes.length+p.az.length=a.nodes.length+p.aR.length/\(bD a p).au.length+p.aF.length=a.au.length+p.aP.length:=by
 have h1:=abE (f:=ah.id) (λ_ _=>rO) p.az (bC a) h.tk.aem (afX h.ord) h.rn;have h2:=abE (f:=ak.id) (λ_ _=>aew) p.aF (cT a) h.tk.agX (afY h.ord) h.re;have h3:=(vt p.values (less eD (bC a) p.az)).len;rw[gU] at h1;rw[gz] at h2;have e1:(bD a p).nodes.length=(lp a p).length+p.aR.length:=by show ((kG (lp a p++p.aR)).map ah.id).length=_;rw[List.length_map,ahU,List.length_append]
 have e2:(bD a p).au.length=(oH a p).length+p.aP.length:=by show ((nT (oH a p++p.aP)).map ak.id).length=_;rw[List.length_map,ahV,List.length_append]
 have e3:(lp a p).length+p.az.length=a.nodes.length:=(congrArg (· + p.az.length) h3).trans h1;have e4:(oH a p).length+p.aF.length=a.au.length:=h2;omega
theorem apW(h:cg t a p):eF t a (qR a.next) p=(bD a p,0):=by
 unfold eF;have h1:=h.ok.n40;have h2:=h.ok.e80;obtain⟨h3,h4⟩:=apV h;have hn:tooMany a (qR a.next) p=false:=by unfold tooMany;rw[amR _ h.next,acI h.tk,Bool.or_eq_false_iff];exact⟨eZ (by omega),eZ (by omega)⟩
 rw[hn,if_neg (by simp),amR _ h.next,acI h.tk,mD h]
theorem agn{a x z y:ax}(h:∀v∈gi t y,qG t a x z v=true):apN t a x z y=[]:=by
 unfold apN;refine List.flatMap_eq_nil_iff.2 λi _=>?_
 rw[List.filter_eq_nil_iff.2 λk _=>?_]
 ·rfl
 ·rw[Bool.not_eq_true,List.any_eq_false];intro v hv;rw[h v hv];simp
theorem amS(v:bn):eqX v v=true:=by simp[eqX]
theorem aC9(h:cg t a p):adx t a p (qR a.next) (bD a p)=[]:=agn λv hv=>List.any_eq_true.2 ⟨v,List.mem_append_left _ (List.mem_append_right _ hv),amS v⟩
theorem azx(h:cg t a p):jg a (qR a.next) p=bD a p:=by unfold jg af5;show bD a ⟨p.az,p.aF,p.aR.map (mG p.next.x0 (a.next-a.next)),p.aP.map (lq p.next.x0 (a.next-a.next)),p.values,⟨0,a.next+p.next.x1-p.next.x0⟩⟩=_;rw[Int.sub_self,ad3,ad4,show a.next+p.next.x1-p.next.x0=p.next.x1 by have:=h.next;omega];rfl
theorem aBF(h:cg t a p):adx t a (qR a.next) p (bD a p)=[]:=agn λv hv=>List.any_eq_true.2 ⟨v,List.mem_append_right _ (by rw[azx h];exact hv),amS v⟩
theorem azy(h:cg t a p)(hg:ye p):v8 t a p (qR a.next)=(bD a p,0):=by unfold v8 aas;rw[if_neg (λh2=>h2 (j6.2 (aqS h hg))),amQ,aij h,if_neg (by simp),if_neg (by simp)];show (if 0<(adx t a p (qR a.next) (bD a p)).length then _ else _)=_;rw[aC9 h];rfl
theorem auI(h:cg t a p)(hg:ye p):v8 t a (qR a.next) p=(bD a p,0):=by unfold v8 aas;rw[if_neg (λh2=>h2 (j6.2 (azv h hg))),auH,apW h,if_neg (by simp),if_neg (by simp)];show (if 0<(adx t a (qR a.next) p (bD a p)).length then _ else _)=_;rw[aBF h];rfl
theorem ago{ids:List Int}{n:Int}(h:n ∉ ids):bK ids n<0:=by
 have:¬ 0<=bK ids n:=λh2=>h (wQ.1 h2)
 omega
theorem apX(h:gd t a):s0 a a=true:=by
 unfold s0;rw[Bool.and_eq_true,List.all_eq_true,List.all_eq_true];refine⟨λi hi=>?_,λi hi=>?_⟩
 ·have hi:=List.mem_range.1 hi;have h1:(bF a i).id∈a.nodes:=by rw[aau hi];exact nI hi
  have h2:bK a.au (bF a i).id<0:=ago λh3=>h.apart _ h3 h1
  unfold okN;rw[eZ (by omega:¬ 0<=bK a.au (bF a i).id)];have h4:bK a.nodes (bF a i).id=(i:Int):=by rw[aau hi];exact aaw h.nid.2 hi
  rw[h4,dK (show (bF a ((i:Int)).toNat).type=(bF a i).type from rfl)];simp
 ·have hi:=List.mem_range.1 hi;have h1:(dG a i).id∈a.au:=by rw[aeA hi];exact nI hi
  have h2:bK a.nodes (dG a i).id<0:=ago (h.apart _ h1);unfold okD;rw[eZ (by omega:¬ 0<=bK a.nodes (dG a i).id)];have h4:bK a.au (dG a i).id=(i:Int):=by rw[aeA hi];exact aaw h.eid.2 hi
  rw[h4,(aew (a:=dG a ((i:Int)).toNat) (b:=dG a i)).2 rfl];simp
theorem auJ(h:gd t a):azu a a=qR a.next:=by
 have h1:vC a a=[]:=List.eq_nil_iff_forall_not_mem.2 λn hn=>(amN.1 hn).2 (ajE (amN.1 hn).1)
 have h2:yh a a=[]:=List.eq_nil_iff_forall_not_mem.2 λn hn=>(amO.1 hn).2 (aqE (amO.1 hn).1)
 have h3:agd a a=[]:=by
  unfold agd;refine List.flatMap_eq_nil_iff.2 λi hi=>?_
  have hi:=(List.mem_filter.1 hi).1;have hi:=List.mem_range.1 hi;unfold amH;refine List.flatMap_eq_nil_iff.2 λk _=>?_
  have h4:bK a.nodes (bF a i).id=(i:Int):=by rw[aau hi];exact aaw h.nid.2 hi
  rw[h4];unfold agc;exact if_pos rfl
 unfold azu;rw[h1,h2,h3];rfl
theorem diff_eq{b:ax}(ha:gd t a)(hb:gd t b)(h:s0 a b=true):ym t a b=(azu a b,0):=by unfold ym yj;rw[if_neg (λh2=>h2 (dm.2 ha)),if_neg (λh2=>h2 (dm.2 hb)),if_pos h,if_pos h];rfl
theorem auK(h:cg t a p)(hg:ye p):acH t a p (qR a.next)=(qR p.next.x1,0):=by unfold acH;rw[if_neg (λh2=>h2 (j6.2 (aqS h hg))),amQ,aij h,if_neg (by simp),if_neg (by simp)];show ym t (bD a p) (bD a p)=_;rw[diff_eq h.ok h.ok (apX h.ok),auJ h.ok];rfl
end
def upS:ByteArray:=⟨#[65,66,67,68,69,70]⟩
def agp:ByteArray:=⟨#[117,118,119,120,121,122]⟩
def ajL:ByteArray:=⟨#[101,102,103,104,105]⟩
def azz:List ByteArray:=[⟨#[111,102,102]⟩,⟨#[111,110]⟩]
structure aaW(i:Nat)(x:Attr):Prop where
 name:x.name=agp.extract i (i+1)
 how:(x.names=[]/\x.low = -3/\3<=x.high/\x.high<=11)\/(x.names=azz/\x.low=0/\x.high=1)
structure aaX(i:Nat)(n:gB):Prop where
 name:n.name=upS.extract i (i+1)
 par : -1<=n.parent/\n.parent<i
 attrs:n.attrs=[]\/∃x,aaW i x/\n.attrs=[x]
structure amT(n i:Nat)(e:lU):Prop where
 name:e.name=ajL.extract i (i+1)
 src:0<=e.src/\e.src<n
 dst:0<=e.dst/\e.dst<n
 bounds:(e.nL=0/\e.jZ = -1)/\e.ta=0/\e.oe = -1
structure oz(t:Types):Prop where
 pos:0<t.nodes.length
 n6:t.nodes.length<=6
 m5:t.au.length<=5
 node:∀i,i<t.nodes.length->aaX i (t.nodes.getD i default)
 iu:∀i,i<t.au.length->amT t.nodes.length i (t.au.getD i default)
theorem tX{P:Nat->Prop}(h:P 0/\P 1/\P 2/\P 3/\P 4/\P 5){i:Nat}(hi:i<6):P i:=by
 obtain⟨h0,h1,h2,h3,h4,h5⟩:=h
 match i,hi with
 |0,_=>exact h0
 |1,_=>exact h1
 |2,_=>exact h2
 |3,_=>exact h3
 |4,_=>exact h4
 |5,_=>exact h5
theorem abF{P:Nat->Prop}(h:P 0/\P 1/\P 2/\P 3/\P 4){i:Nat}(hi:i<5):P i:=by
 obtain⟨h0,h1,h2,h3,h4⟩:=h
 match i,hi with
 |0,_=>exact h0
 |1,_=>exact h1
 |2,_=>exact h2
 |3,_=>exact h3
 |4,_=>exact h4
theorem azA{i:Nat}(hi:i<6):lD (upS.extract i (i+1))=true:=tX (P:=λi=>lD (upS.extract i (i+1))=true) ⟨by kernel_rfl,by kernel_rfl,by kernel_rfl,by kernel_rfl,by kernel_rfl,by kernel_rfl⟩ hi
theorem auL{i:Nat}(hi:i<6):lD (agp.extract i (i+1))=true:=tX (P:=λi=>lD (agp.extract i (i+1))=true) ⟨by kernel_rfl,by kernel_rfl,by kernel_rfl,by kernel_rfl,by kernel_rfl,by kernel_rfl⟩ hi
theorem auM{i:Nat}(hi:i<5):lD (ajL.extract i (i+1))=true:=abF (P:=λi=>lD (ajL.extract i (i+1))=true) ⟨by kernel_rfl,by kernel_rfl,by kernel_rfl,by kernel_rfl,by kernel_rfl⟩ hi
theorem azB{i:Nat}(hi:i<6):lu (upS.extract i (i+1)) 0=65+(i:Int):=tX (P:=λi=>lu (upS.extract i (i+1)) 0=65+(i:Int)) ⟨by kernel_rfl,by kernel_rfl,by kernel_rfl,by kernel_rfl,by kernel_rfl,by kernel_rfl⟩ hi
theorem aqU{i:Nat}(hi:i<6):lu (agp.extract i (i+1)) 0=117+(i:Int):=tX (P:=λi=>lu (agp.extract i (i+1)) 0=117+(i:Int)) ⟨by kernel_rfl,by kernel_rfl,by kernel_rfl,by kernel_rfl,by kernel_rfl,by kernel_rfl⟩ hi
theorem aqV{i:Nat}(hi:i<5):lu (ajL.extract i (i+1)) 0=101+(i:Int):=abF (P:=λi=>lu (ajL.extract i (i+1)) 0=101+(i:Int)) ⟨by kernel_rfl,by kernel_rfl,by kernel_rfl,by kernel_rfl,by kernel_rfl⟩ hi
theorem azC{i:Nat}(hi:i<6):(upS.extract i (i+1)).size<=40:=tX (P:=λi=>(upS.extract i (i+1)).size<=40) ⟨by decide,by decide,by decide,by decide,by decide,by decide⟩ hi
theorem auN{i:Nat}(hi:i<6):(agp.extract i (i+1)).size<=40:=tX (P:=λi=>(agp.extract i (i+1)).size<=40) ⟨by decide,by decide,by decide,by decide,by decide,by decide⟩ hi
theorem auO{i:Nat}(hi:i<5):(ajL.extract i (i+1)).size<=40:=abF (P:=λi=>(ajL.extract i (i+1)).size<=40) ⟨by decide,by decide,by decide,by decide,by decide⟩ hi
theorem aBG{i j:Nat}(hi:i<6)(hj:j<6)(e:upS.extract i (i+1)=upS.extract j (j+1)):i=j:=by have h1:=azB hi;rw[e,azB hj] at h1;omega
theorem azD{i j:Nat}(hi:i<6)(hj:j<6)(e:agp.extract i (i+1)=agp.extract j (j+1)):i=j:=by have h1:=aqU hi;rw[e,aqU hj] at h1;omega
theorem azE{i j:Nat}(hi:i<5)(hj:j<5)(e:ajL.extract i (i+1)=ajL.extract j (j+1)):i=j:=by have h1:=aqV hi;rw[e,aqV hj] at h1;omega
section
variable{t:Types}
theorem aaX.zy{i:Nat}{n:gB}(h:aaX i n){x:Attr}(hx:x∈n.attrs):aaW i x:=by
 rcases h.attrs with e|⟨y,hy,e⟩
 ·rw[e] at hx;cases hx
 ·rw[e] at hx;rcases List.mem_cons.1 hx with rfl|h
  ·exact hy
  ·cases h
theorem aaX.adB{i:Nat}{n:gB}(h:aaX i n):n.attrs.length<=1:=by rcases h.attrs with e|⟨y,hy,e⟩<;>rw[e]<;>simp
theorem amU{s:ByteArray}(h:s∈azz):s.size<=40:=by
 unfold azz at h;rcases List.mem_cons.1 h with rfl|h
 ·decide
 rcases List.mem_cons.1 h with rfl|h
 ·decide
 ·cases h
theorem aaW.aqW{i:Nat}{x:Attr}(h:aaW i x):x.names.length<=25/\∀s∈x.names,s.size<=40:=by
 rcases h.how with ⟨e,_⟩|⟨e,_⟩
 ·rw[e];exact⟨by simp,λs hs=>(by cases hs)⟩
 ·rw[e];exact⟨by decide,λs hs=>amU hs⟩
theorem oz.mem(h:oz t){n:gB}(hn:n∈t.nodes):∃i,i<6/\aaX i n:=by
 obtain⟨i,hi,e⟩:=List.getElem_of_mem hn;have h1:=h.node i hi;have e2:t.nodes.getD i default=t.nodes[i]:=by simp[hi]
 rw[e2,e] at h1;have:=h.n6;exact⟨i,by omega,h1⟩
theorem oz.aID(h:oz t){n:lU}(hn:n∈t.au):∃i,i<5/\amT t.nodes.length i n:=by
 obtain⟨i,hi,e⟩:=List.getElem_of_mem hn;have h1:=h.iu i hi;have e2:t.au.getD i default=t.au[i]:=by simp[hi]
 rw[e2,e] at h1;have:=h.m5;exact⟨i,by omega,h1⟩
theorem oz.wU(h:oz t):fM t where
 nodes:=by have:=h.n6;omega
 au:=by have:=h.m5;omega
 attrs:=λn hn=>by obtain⟨i,_,h1⟩:=h.mem hn;have:=h1.adB;omega
 name:=λn hn=>by obtain⟨i,hi,h1⟩:=h.mem hn;rw[h1.name];exact azC hi
 aBS:=λn hn a ha=>by obtain⟨i,hi,h1⟩:=h.mem hn;rw[(h1.zy ha).name];exact auN hi
 names:=λn hn a ha=>by obtain⟨i,hi,h1⟩:=h.mem hn;exact (h1.zy ha).aqW.1
 word:=λn hn a ha=>by obtain⟨i,hi,h1⟩:=h.mem hn;exact (h1.zy ha).aqW.2
 aw6:=λe he=>by obtain⟨i,hi,h1⟩:=h.aID he;rw[h1.name];exact auO hi
theorem oz.par(h:oz t){n:Nat}(hn:n<=t.nodes.length):qp t n:=λj hj=>(h.node j (by omega)).par
theorem vE(h:oz t):∀ (k a:Nat),a<t.nodes.length->(∀x∈oU t k a,∃j,j<=a/\aaW j x)/\(oU t k a).length<=a+1
 |0,a,_=>by unfold oU;exact⟨λx hx=>(by cases hx),by simp⟩
 |k+1,a,ha=>by
  have hn:=h.node a ha;have hl:=hn.adB;unfold oU;split
  ·rename_i h0;have h2:=hn.par;obtain⟨q1,q2⟩:=vE h k (t.nodes.getD a default).parent.toNat (by omega);refine⟨λx hx=>?_,by rw[List.length_append];omega⟩;rcases List.mem_append.1 hx with hx|hx
   ·obtain⟨j,hj,hm⟩:=q1 x hx;exact⟨j,by omega,hm⟩
   ·exact⟨a,Nat.le_refl _,hn.zy hx⟩
  ·exact⟨λx hx=>⟨a,Nat.le_refl _,hn.zy hx⟩,by rw[List.nil_append];omega⟩
theorem apY{i:Nat}{x:Attr}(h:aaW i x):vl x=0:=by
 unfold vl;have hr:abi x=true:=by
  rw[ur];rcases h.how with ⟨e,h1,h2,h3⟩|⟨e,h1,h2⟩
  ·right;rw[e,h1];exact⟨rfl,by decide,by omega,by omega⟩
  ·left;rw[e,h1,h2];exact⟨by decide,rfl,by decide⟩
 have hn:y3 x.names=0:=by
  rcases h.how with ⟨e,_⟩|⟨e,_⟩
  ·rw[e];rfl
  ·rw[e];kernel_rfl
 rw[if_neg (by rw[hn];simp),if_pos hr]
theorem auP(h:oz t){i:Nat}(hi:i<t.nodes.length):kF t i=0:=by
 have hn:=h.node i hi;have h6:=h.n6;have hl:=hn.adB;have hp:=hn.par;unfold kF;have h1:lD (t.nodes.getD i default).name=true:=by rw[hn.name];exact azA (by omega)
 have h2:¬ (t.nodes.take i).any (λy=>decide (y.name=(t.nodes.getD i default).name))=true:=by
  intro hh;rw[List.any_eq_true] at hh;obtain⟨y,hy,hq⟩:=hh;obtain⟨j,hj,e⟩:=List.getElem_of_mem hy;rw[List.length_take] at hj;rw[List.getElem_take] at e;have hj2:=h.node j (by omega);have e2:t.nodes.getD j default=t.nodes[j]:=by simp[show j<t.nodes.length by omega]
  rw[e2,e] at hj2;have hq:=cu hq;rw[hj2.name,hn.name] at hq;have:=aBG (by omega) (by omega) hq;omega
 rw[if_neg (by rw[h1];decide),if_neg h2,if_neg (λhh=>hh hp),if_neg (by omega)];obtain⟨_,g2⟩:=vE h (i+1) i hi;have g2:(bg t i).length<=i+1:=g2;rw[if_neg (by omega)];refine sq λk hk1 hk2=>?_
 have hat:=rz (t:=t) (a:=i) (h.par (by omega));have hlen:=congrArg List.length hat;rw[List.length_append] at hlen;rcases hn.attrs with e|⟨x,hx,e⟩
 ·rw[e] at hlen hk1;simp only[List.length_nil] at hlen hk1;omega
 ·rw[e] at hlen hk1 hat;simp only[List.length_cons,List.length_nil] at hlen hk1;generalize hP:(if 0<=(t.nodes.getD i default).parent then bg t (t.nodes.getD i default).parent.toNat else [])=P at hat hlen;have hk:k=P.length:=by omega
  subst hk;rw[hat,List.take_left,show (P++[x]).getD P.length default=x by simp];unfold tc;have hnm:lD x.name=true:=by rw[hx.name];exact auL (by omega)
  have hno:¬ P.any (λy=>decide (y.name=x.name))=true:=by
   intro hh;rw[List.any_eq_true] at hh;obtain⟨y,hy,hq⟩:=hh;rw[<-hP] at hy;split at hy
   ·rename_i h0;obtain⟨j,hj,hm⟩:=(vE h _ _ (by omega)).1 y hy;have hq:=cu hq;rw[hm.name,hx.name] at hq;have:=azD (by omega) (by omega) hq;omega
   ·cases hy
  rw[if_neg (by rw[hnm];decide),if_neg hno,apY hx]
theorem auQ(h:oz t){i:Nat}(hi:i<t.au.length):nQ t i=0:=by
 have hn:=h.iu i hi;have h5:=h.m5;unfold nQ;have h1:lD (t.au.getD i default).name=true:=by rw[hn.name];exact auM (by omega)
 have h2:¬ (t.au.take i).any (λy=>decide (y.name=(t.au.getD i default).name))=true:=by
  intro hh;rw[List.any_eq_true] at hh;obtain⟨y,hy,hq⟩:=hh;obtain⟨j,hj,e⟩:=List.getElem_of_mem hy;rw[List.length_take] at hj;rw[List.getElem_take] at e;have hj2:=h.iu j (by omega);have e2:t.au.getD j default=t.au[j]:=by simp[show j<t.au.length by omega]
  rw[e2,e] at hj2;have hq:=cu hq;rw[hj2.name,hn.name] at hq;have:=azE (by omega) (by omega) hq;omega
 obtain⟨⟨b1,b2⟩,b3,b4⟩:=hn.bounds;rw[if_neg (by rw[h1];decide),if_neg h2,if_pos];rw[b1,b2,b3,b4,xh.2 hn.src,xh.2 hn.dst];decide
theorem oz.valid(h:oz t):(gC t).2=0:=by have h1:=h.pos;have h2:=h.n6;have h3:=h.m5;unfold gC;rw[if_neg (by omega),if_neg (by omega),gl λj _ hj=>auP h hj];dsimp only;rw[gl λj _ hj=>auQ h hj]
theorem oz.ok(h:oz t):OkT t:=tD h.wU h.valid
theorem oz.range(h:oz t){a:Nat}(ha:a<t.nodes.length){x:Attr}(hx:x∈bg t a) : -3<=x.low/\x.low<=x.high/\x.high<=11:=by obtain⟨j,_,hm⟩:=(vE h _ _ ha).1 x hx;rcases hm.how with ⟨_,h1,h2,h3⟩|⟨_,h1,h2⟩<;>omega
end
theorem ajM(N:List ah)(E:List ak)(next:Int):bC (dF N E next)=N:=by
 unfold bC dF bF;refine List.ext_getElem (by simp) λi h1 h2=>?_
 simp[h2]
section
variable{t:Types}{a:ax}{p q:aG}
end
structure zz(a b:ax):Prop where
 next:a.next<=b.next
 node:∀n∈bC b,a.next<=n.id\/∃m∈bC a,m.id=n.id/\m.type=n.type
 iu:∀e∈cT b,a.next<=e.id\/e∈cT a
theorem zz.refl(a:ax):zz a a:=⟨Int.le_refl _,λn hn=>.inr ⟨n,hn,rfl,rfl⟩,λe he=>.inr he⟩
theorem zz.trans{a b c:ax}(h:zz a b)(k:zz b c):zz a c:=by
 refine⟨Int.le_trans h.next k.next,λn hn=>?_,λe he=>?_⟩
 ·rcases k.node n hn with h1|⟨m,hm,e1,e2⟩
  ·exact .inl (Int.le_trans h.next h1)
  ·rcases h.node m hm with h1|⟨m2,hm2,e3,e4⟩
   ·exact .inl (by rw[<-e1];exact h1)
   ·exact .inr ⟨m2,hm2,e3.trans e1,e4.trans e2⟩
 ·rcases k.iu e he with h1|h1
  ·exact .inl (Int.le_trans h.next h1)
  ·exact h.iu e h1
section
variable{t:Types}{a b:ax}
end
section
variable{t:Types}{a:ax}{p q:aG}
theorem ajN{N:List ah}{E:List ak}{next:Int}(h:∀e∈E,0<=bK (N.map ah.id) e.src/\0<=bK (N.map ah.id) e.dst):cT (dF N E next)=E:=by
 unfold cT;refine List.ext_getElem (by simp[dF]) λi h1 h2=>?_
 obtain⟨k1,k2⟩:=h _ (nI h2);rw[List.getElem_map,List.getElem_range];have g:∀n,0<=bK (N.map ah.id) n->(N.map ah.id).getD (bK (N.map ah.id) n).toNat default=n:=λn hn=>by rw[List.getD_eq_getElem?_getD,agk hn];rfl
 have e1:(E.map ak.id).getD i default=E[i].id:=by simp[h2]
 have e2:(E.map (mC (N.map ah.id))).getD i default=mC (N.map ah.id) E[i]:=by simp[h2]
 show (⟨(E.map ak.id).getD i default,((E.map (mC (N.map ah.id))).getD i default).type,(N.map ah.id).getD ((E.map (mC (N.map ah.id))).getD i default).src.toNat default,(N.map ah.id).getD ((E.map (mC (N.map ah.id))).getD i default).dst.toNat default⟩:ak)=_;rw[e1,e2];unfold mC;rw[g _ k1,g _ k2]
theorem ajC.mem{l m:List ah}(h:ajC l m){n:ah}(hn:n∈l):∃x∈m,x.id=n.id/\x.type=n.type:=by
 have h1:(n.id,n.type,n.values.length)∈l.map λn=>(n.id,n.type,n.values.length):=List.mem_map_of_mem (f:=λn:ah=>(n.id,n.type,n.values.length)) hn
 rw[show l.map (λn=>(n.id,n.type,n.values.length))=m.map λn=>(n.id,n.type,n.values.length) from h] at h1;obtain⟨x,hx,e⟩:=List.mem_map.1 h1;simp only[iz] at e;exact⟨x,hx,e.1,e.2.1⟩
end
def OkU(l:List cz):Prop:=∀x∈l,(0<=x.x0/\x.x0<=255)/\(0<=x.x1/\x.x1<=255)
theorem wT{a b:Int}(ha:0<=a)(hb:0<b):0<=a.tmod b/\a.tmod b<b:=⟨Int.tmod_nonneg _ ha,Int.tmod_lt_of_pos _ hb⟩
theorem aFg{a b:Int}(ha:0<=a)(hb:0<b):0<=a.tdiv b/\a.tdiv b<=a:=by rw[Int.tdiv_eq_ediv_of_nonneg ha];exact⟨Int.ediv_nonneg ha (by omega),Int.ediv_le_self _ ha⟩
theorem auR{x:Int}(h:0<=x/\x<=255):3<=i64.wrap (3+(i64.wrap (IntKind.u8.wrap (x.tdiv 4))).tmod 9)/\i64.wrap (3+(i64.wrap (IntKind.u8.wrap (x.tdiv 4))).tmod 9)<=11:=by have h1:=aFg (b:=4) h.1 (by decide);rw[aC0 (by omega),dJ (n:=x.tdiv 4) (by omega)];have h2:=wT (b:=9) h1.1 (by decide);rw[dJ (by omega)];omega
theorem apZ{i:Nat}{x:Int}(h:0<=x/\x<=255):aaW i ⟨agp.extract i (i+1),-3,i64.wrap (3+(i64.wrap (IntKind.u8.wrap (x.tdiv 4))).tmod 9),[]⟩:=⟨rfl,.inl ⟨rfl,rfl,auR h⟩⟩
theorem ap0{i:Nat} : aaW i ⟨agp.extract i (i+1),0,1,[(⟨#[111,102,102]⟩:ByteArray),(⟨#[111,110]⟩:ByteArray)]⟩:=⟨rfl,.inr ⟨rfl,rfl,rfl⟩⟩
theorem aFh{i:Nat}{x:Int}(hi:i<6)(h:0<=x/\x<=255){ab:Bool}{at_:List Attr}(ha:at_=[]\/∃x,aaW i x/\at_=[x]) :
  aaX i ⟨upS.extract i (i+1),i64.wrap ((i64.wrap x).tmod ((i:Int)+1)-1),ab,at_⟩:=by
 refine⟨rfl,?_,ha⟩;have:=wT (b:=(i:Int)+1) h.1 (by omega);dsimp only;rw[dJ (n:=x) (by omega),dJ (by omega)];omega
theorem aik{α:Type} [Inhabited α]{P:Nat->α->Prop}{l:List α}{x:α}(h:∀i,i<l.length->P i (l.getD i default))(hx:P l.length x):∀i,i<(l++[x]).length->P i ((l++[x]).getD i default):=λi hi=>by
 rw[List.length_append] at hi;simp only[List.length_cons,List.length_nil] at hi;rcases Nat.lt_or_ge i l.length with h1|h1
 ·have e:(l++[x]).getD i default=l.getD i default:=by simp[List.getD_eq_getElem?_getD,List.getElem?_append_left h1]
  rw[e];exact h i h1
 ·have e1:i=l.length:=by omega
  subst e1;have e:(l++[x]).getD l.length default=x:=by simp
  rw[e];exact hx
theorem aBH{ns es:List cz}(hn:OkU ns)(he:OkU es):Ok (iX ns es) oz:=by
 unfold iX;have s1:(((#[65,66,67,68,69,70]:Array UInt8).size:Nat):Int)=6:=rfl;have s2:(((#[117,118,119,120,121,122]:Array UInt8).size:Nat):Int)=6:=rfl;have s3:(((#[101,102,103,104,105]:Array UInt8).size:Nat):Int)=5:=rfl;refine acu (λs:Int×List gB=>s.1=s.2.length/\s.2.length<=6/\∀i,i<s.2.length->aaX i (s.2.getD i default))
  (λs=>(0<s.2.length/\s.2.length<=6)/\∀i,i<s.2.length->aaX i (s.2.getD i default)) (λs=>6-s.2.length) ⟨rfl,by decide,λi hi=>absurd hi (Nat.not_lt_zero i)⟩ (by unfold fuel;simp) ?_ ?_
 ·rintro⟨k,l⟩ cv brk ⟨h1,h2,h3⟩ hnx hbr;dsimp only at h1 h2 h3 hnx hbr ⊢;subst h1;have w1:i64.wrap ((l.length:Int)+1)=(l.length:Int)+1:=dJ (by omega);have w2:((l.length:Int)+1).toNat=l.length+1:=by omega
  have go : ∀ (x0 x1 : Int) (ab : Bool), (0 ≤ x0 ∧ x0 ≤ 255) → (0 ≤ x1 ∧ x1 ≤ 255) → l.length < 6 → ∀ at_ : List Attr, (at_ = [] ∨ ∃ x, aaW l.length x ∧ at_ = [x]) →
    Ok (cv ((l.length:Int)+1,l++[⟨upS.extract l.length (l.length+1),i64.wrap ((i64.wrap x0).tmod ((l.length:Int)+1)-1),ab,at_⟩])) oz:=λx0 x1 ab g0 g1 hl at_ has =>
   hnx _ ⟨by simp,by simp;omega,aik (P:=aaX) h3 (aFh hl g0 has)⟩ (by simp;omega)
  rw[w1,s1,s2,Int.toNat_natCast,w2];refine cV (λc0=>?_) (λc0=>?_)
  ·have c0:=cu c0;have hl:l.length<6:=by omega
   refine cV (λc1=>?_) (λc1=>?_)
   ·have c1:=cu c1;have hlt:((l.length:Int)).toNat<ns.length:=by omega
    refine nO (by omega) hlt ?_;obtain⟨q0,q1⟩:=hn _ (nI hlt);generalize ns[((l.length:Int)).toNat]=e at q0 q1 ⊢;refine cq (by omega) (cq (by omega) (cq (by omega) ?_));refine cV (λ_=>cq (by omega) (go _ _ _ q0 q1 hl _ (.inr ⟨_,apZ q1,rfl⟩))) (λ_=>?_);exact cV (λ_=>cq (by omega) (go _ _ _ q0 q1 hl _ (.inr ⟨_,ap0,rfl⟩))) (λ_=>cq (by omega) (go _ _ _ q0 q1 hl _ (.inl rfl)))
   ·have z:(0:Int)<=0/\(0:Int)<=255:=by decide
    refine cq (by omega) (cq (by omega) (cq (by omega) ?_));refine cV (λ_=>cq (by omega) (go _ _ _ z z hl _ (.inr ⟨_,apZ z,rfl⟩))) (λ_=>?_);exact cV (λ_=>cq (by omega) (go _ _ _ z z hl _ (.inr ⟨_,ap0,rfl⟩))) (λ_=>cq (by omega) (go _ _ _ z z hl _ (.inl rfl)))
  ·have c0:=en c0;have hb:Ok (brk ((l.length:Int),l)) oz:=hbr _ ⟨⟨by dsimp only;omega,h2⟩,h3⟩;refine cV (λc1=>?_) (λ_=>hb);have c1:=cu c1;refine cV (λc2=>?_) (λ_=>hb);have hl:l.length<6:=by have:=cu c2;omega
   have hlt:((l.length:Int)).toNat<ns.length:=by omega
   refine nO (by omega) hlt ?_;obtain⟨q0,q1⟩:=hn _ (nI hlt);generalize ns[((l.length:Int)).toNat]=e at q0 q1 ⊢;refine cq (by omega) (cq (by omega) (cq (by omega) ?_));refine cV (λ_=>cq (by omega) (go _ _ _ q0 q1 hl _ (.inr ⟨_,apZ q1,rfl⟩))) (λ_=>?_);exact cV (λ_=>cq (by omega) (go _ _ _ q0 q1 hl _ (.inr ⟨_,ap0,rfl⟩))) (λ_=>cq (by omega) (go _ _ _ q0 q1 hl _ (.inl rfl)))
 ·rintro⟨k,l⟩ ⟨⟨h0,h2⟩,h3⟩;dsimp only at h0 h2 h3 ⊢;refine acu (λs:Int×List lU=>s.1=s.2.length/\s.2.length<=5/\∀i,i<s.2.length->amT l.length i (s.2.getD i default))
   (λs=>s.2.length<=5/\∀i,i<s.2.length->amT l.length i (s.2.getD i default)) (λs=>5-s.2.length) ⟨rfl,by decide,λi hi=>absurd hi (Nat.not_lt_zero i)⟩ (by unfold fuel;simp) ?_ ?_
  ·rintro⟨k,m⟩ cv brk ⟨h4,h5,h6⟩ hnx hbr;dsimp only at h4 h5 h6 hnx hbr ⊢;subst h4;have w1:i64.wrap ((m.length:Int)+1)=(m.length:Int)+1:=dJ (by omega);have w2:((m.length:Int)+1).toNat=m.length+1:=by omega
   have hb:Ok (brk ((m.length:Int),m)) oz:=hbr _ ⟨h5,h6⟩;rw[w1,s3,Int.toNat_natCast,w2];refine cV (λc1=>?_) (λ_=>hb);have c1:=cu c1;refine cV (λc2=>?_) (λ_=>hb);have hl:m.length<5:=by have:=cu c2;omega
   have hlt:((m.length:Int)).toNat<es.length:=by omega
   refine cq (by omega) ?_;refine nO (by omega) hlt ?_;obtain⟨q0,q1⟩:=he _ (nI hlt);generalize es[((m.length:Int)).toNat]=e at q0 q1 ⊢;refine cq (by omega) (cq (by omega) (cq (by omega) ?_));have t0:=wT (b:=(l.length:Int)) q0.1 (by omega);have t1:=wT (b:=(l.length:Int)) q1.1 (by omega);rw[dJ (n:=e.x0) (by omega),dJ (n:=e.x1) (by omega)];exact hnx _ ⟨by simp,by simp;omega,aik (P:=amT l.length) h6 ⟨rfl,t0,t1,⟨rfl,rfl⟩,rfl,rfl⟩⟩ (by simp;omega)
  ·rintro⟨k,m⟩ ⟨h5,h6⟩;exact .mk ⟨h0,h2,h5,h3,h6⟩
def ajO(d:cZ):Prop:=(∀x∈d.nodes,(0<=x.x0/\x.x0<=255)/\(0<=x.x1/\x.x1<=255))/\(∀x∈d.au,(0<=x.x0/\x.x0<=255)/\(0<=x.x1/\x.x1<=255)/\(0<=x.x2/\x.x2<=255))
structure Roomy(t:Types):Prop where
 wU:fM t
 valid:(gC t).2=0
 room:∀a,a<t.nodes.length->∀x∈bg t a,-1000000<=x.low/\x.low<=x.high/\x.high<=1000000
theorem oz.roomy{t:Types}(h:oz t):Roomy t:=⟨h.wU,h.valid,λa ha x hx=>by have:=h.range ha hx;omega⟩
section
variable{t:Types}
theorem Roomy.ok(h:Roomy t):OkT t:=tD h.wU h.valid
theorem Roomy.aDa(h:Roomy t){a:Nat}(ha:a<t.nodes.length):(bg t a).length<=8:=aii (h.ok.node a ha)
theorem amV(h:Roomy t):Ok (gm t) (λl=>∀k∈l,(0<=k/\k<t.nodes.length)/\(t.nodes.getD k.toNat default).abs=false):=by
 have hn:=h.wU.nodes;unfold gm;refine cq (bt (by omega)) ?_;refine tG (λi (l:List Int)=>l.length<=i/\∀k∈l,(0<=k/\k<t.nodes.length)/\(t.nodes.getD k.toNat default).abs=false) (Nat.zero_le _) ⟨by simp,λk hk=>(by cases hk)⟩ ?_ ?_
 ·rintro i l cv _ hi ⟨h1,h2⟩ hx;refine oL hi (cV (λ_=>hx _ ⟨by omega,h2⟩) (λc=>cq (by omega) (hx _ ⟨by simp;omega,λk hk=>?_⟩)));rcases List.mem_append.1 hk with hk|hk
  ·exact h2 k hk
  ·simp only[List.mem_cons,List.not_mem_nil,or_false] at hk;subst hk;refine⟨⟨by omega,by omega⟩,?_⟩;rw[Int.toNat_natCast];have e:t.nodes.getD i default=t.nodes[i]:=by simp[hi]
   rw[e];exact c
 ·rintro l ⟨_,h2⟩;exact .mk h2
def aqX(t:Types)(k:Int)(v:List Int):Prop:=(0<=k/\k<t.nodes.length)/\ni t k v=0
theorem aBI{k:Int}{v:List Int}(hk:0<=k/\k<t.nodes.length)(ha:(t.nodes.getD k.toNat default).abs=false)(hl:v.length=(bg t k.toNat).length)(hv:∀j,j<v.length->((bg t k.toNat).getD j default).low<=v.getD j default/\v.getD j default<=((bg t k.toNat).getD j default).high):aqX t k v:=by
 refine⟨hk,?_⟩;unfold ni;rw[if_neg (by omega),if_neg (by rw[ha];decide),if_neg (λh=>h hl)];refine sq λj _ hj=>?_
 have:=hv j hj;unfold nM;rw[if_neg (by omega)]
theorem j5{α:Type} [Inhabited α]{l:List α}{x:α}{i:Nat}(h:i<l.length):(l++[x]).getD i default=l.getD i default:=by simp[List.getD_eq_getElem?_getD,List.getElem?_append_left h]
theorem qH{α:Type} [Inhabited α]{l:List α}{x:α} : (l++[x]).getD l.length default=x:=by simp
theorem atI{α:Type} [Inhabited α]{l:List α}{i:Nat}(h:i<l.length):l.getD i default=l[i]:=by simp[h]
structure aCc(t:Types)(h:Host):Prop where
 ok:oV t h
 n8:h.graph.nodes.length<=8
 m10:h.graph.au.length<=10
theorem azF(hr:Roomy t){ns:List Int}{vs:List (List Int)}{es:List Edge}(h1:ns.length<=8)(h2:vs.length=ns.length)(h3:∀j,j<ns.length->aqX t (ns.getD j default) (vs.getD j default))(h4:es.length<=10)
  (h5:∀e∈es,(0<=e.type/\e.type<t.au.length)/\(0<=e.src/\e.src<ns.length)/\(0<=e.dst/\e.dst<ns.length)/\qU t e.type (ns.getD e.src.toNat default) (ns.getD e.dst.toNat default)=true):aCc t ⟨⟨ns,es⟩,vs⟩:=by
 have n12:=hr.ok.n12;have m20:=hr.ok.m20;refine⟨⟨hr.valid,?_,h2,λi hi=>(h3 i hi).2,λi hi=>?_⟩,h1,h4⟩
 ·unfold qt;rw[if_neg (by dsimp only;omega),if_neg,if_neg]
  ·intro hh;obtain⟨e,he,hb⟩:=List.any_eq_true.1 hh;obtain⟨g1,g2,g3,_⟩:=h5 e he;rw[Bool.not_eq_true'] at hb;unfold uu td at hb;rw[dK g1.1,dK (by omega:e.type<=99),dK g2.1,dK (by dsimp only;omega:e.src<=(_:Int)-1),dK g3.1,dK (by dsimp only;omega:e.dst<=(_:Int)-1)] at hb;cases hb
  ·intro hh;obtain⟨k,hk,hb⟩:=List.any_eq_true.1 hh;have hk:k∈ns:=hk;obtain⟨j,hj,rfl⟩:=List.getElem_of_mem hk;have:=(h3 j hj).1;rw[atI hj] at this;rw[Bool.not_eq_true'] at hb;unfold td at hb;rw[dK this.1,dK (by omega:ns[j]<=99)] at hb;cases hb
 ·have hi:i<es.length:=hi;obtain⟨g1,_,_,g4⟩:=h5 _ (nI hi);unfold tf;dsimp only;rw[atI hi,if_neg (by omega),if_pos g4]
theorem aqY(hr:Roomy t){d:cZ}(hd:ajO d):Ok (gG t d) (aCc t):=by
 have hT:=hr.ok;have n12:=hT.n12;have m20:=hT.m20;unfold gG;refine ze (amV hr) λC hC=>?_
 refine acu (λs:Int×List Int×List (List Int)=>s.1=s.2.1.length/\s.2.1.length<=8/\s.2.2.length=s.2.1.length/\∀j,j<s.2.1.length->aqX t (s.2.1.getD j default) (s.2.2.getD j default))
  (λs=>s.2.1.length<=8/\s.2.2.length=s.2.1.length/\∀j,j<s.2.1.length->aqX t (s.2.1.getD j default) (s.2.2.getD j default)) (λs=>8-s.2.1.length) ⟨rfl,by decide,rfl,λi hi=>absurd hi (Nat.not_lt_zero i)⟩ (by unfold fuel;simp) ?_ ?_
 ·rintro⟨k,ns,vs⟩ cv brk ⟨h1,h2,h3,h4⟩ hn hb;dsimp only at h1 h2 h3 h4 hn hb ⊢;subst h1;refine cV (λc1=>?_) (λ_=>hb _ ⟨h2,h3,h4⟩);refine cV (λc2=>?_) (λ_=>hb _ ⟨h2,h3,h4⟩);refine cV (λc3=>?_) (λ_=>hb _ ⟨h2,h3,h4⟩);have c1:=cu c1;have c2:=cu c2;have c3:=cu c3;have hlt:((ns.length:Int)).toNat<d.nodes.length:=by omega
  refine nO (by omega) hlt ?_;obtain⟨q0,q1⟩:=hd.1 _ (nI hlt);generalize d.nodes[((ns.length:Int)).toNat]=e at q0 q1 ⊢;refine cq (by omega) ?_;rw[dJ (n:=e.x0) (by omega)];have t0:=wT (b:=(C.length:Int)) q0.1 c3;have hc:(e.x0.tmod (C.length:Int)).toNat<C.length:=by omega
  refine nO t0.1 hc ?_;obtain⟨g1,g2⟩:=hC _ (nI hc);generalize C[(e.x0.tmod (C.length:Int)).toNat]=kd at g1 g2 ⊢;refine ok_eq (show lY t kd=some (bg t kd.toNat,0) from tg ⟨hT,g1⟩) ?_;have qJ:kd.toNat<t.nodes.length:=by omega
  have h8:=hr.aDa qJ;have hroom:=hr.room kd.toNat qJ;dsimp only;generalize hA:bg t kd.toNat=A at h8 hroom ⊢;refine cq (bt (by omega)) ?_;refine tG (λi (v:List Int)=>v.length=i/\∀j,j<i->(A.getD j default).low<=v.getD j default/\v.getD j default<=(A.getD j default).high) (Nat.zero_le _) ⟨rfl,λj hj=>absurd hj (Nat.not_lt_zero j)⟩ ?_ ?_
  ·rintro i v nx2 _ hi ⟨k1,k2⟩ hn2;refine oL hi ?_;have r:=hroom _ (nI hi);have w1:i64.wrap (i64.wrap (A[i].high-A[i].low)+1)=A[i].high-A[i].low+1:=by rw[dJ (n:=A[i].high-A[i].low) (by omega),dJ (by omega)]
   have w2:i64.wrap (i64.wrap e.x1+i64.wrap (7 * ((i:Nat):Int)))=e.x1+7 * (i:Int):=by rw[dJ (n:=e.x1) (by omega),dJ (n:=7 * ((i:Nat):Int)) (by omega),dJ (by omega)]
   rw[w1,w2];have t1:=wT (a:=e.x1+7 * (i:Int)) (b:=A[i].high-A[i].low+1) (by omega) (by omega);refine cq (by omega) (cq (by omega) ?_);rw[dJ (n:=A[i].low+(e.x1+7 * (i:Int)).tmod (A[i].high-A[i].low+1)) (by omega)];refine hn2 _ ⟨by simp;omega,λj hj=>?_⟩;rcases Nat.lt_or_ge j i with hji|hji
   ·rw[j5 (by omega)];exact k2 j hji
   ·have:j=i:=by omega
    subst this;subst k1;rw[qH,atI hi];omega
  ·rintro v ⟨k1,k2⟩;refine cq (by omega) (cq (by omega) ?_);rw[dJ (n:=(ns.length:Int)+1) (by omega)];refine hn _ ⟨by simp,by simp;omega,by simp;omega,λj hj=>?_⟩ (by simp;omega);dsimp only at hj ⊢;rw[List.length_append] at hj;simp only[List.length_cons,List.length_nil] at hj;rcases Nat.lt_or_ge j ns.length with hji|hji
   ·rw[j5 hji,j5 (by omega)];exact h4 j hji
   ·have e1:j=ns.length:=by omega
    subst e1;have e2:(vs++[v]).getD ns.length default=v:=by rw[<-h3];exact qH
    rw[qH,e2];subst hA;exact aBI g1 g2 k1 λj hj=>k2 j (by omega)
 ·rintro⟨k,ns,vs⟩ ⟨h2,h3,h4⟩;dsimp only at h2 h3 h4 ⊢;refine acu (λs:Int×List Edge=>(0<=s.1/\s.1<=10/\s.2.length<=s.1)/\∀e∈s.2,(0<=e.type/\e.type<t.au.length)/\(0<=e.src/\e.src<ns.length)/\(0<=e.dst/\e.dst<ns.length)/\qU t e.type (ns.getD e.src.toNat default) (ns.getD e.dst.toNat default)=true)
   (λs=>s.2.length<=10/\∀e∈s.2,(0<=e.type/\e.type<t.au.length)/\(0<=e.src/\e.src<ns.length)/\(0<=e.dst/\e.dst<ns.length)/\qU t e.type (ns.getD e.src.toNat default) (ns.getD e.dst.toNat default)=true)
   (λs=>(10-s.1).toNat) ⟨by simp,by simp⟩ (by unfold fuel;simp) ?_ ?_
  ·rintro⟨j,es⟩ cv brk ⟨g1,g2⟩ hn hb;dsimp only at g1 g2 hn hb ⊢;refine cV (λc1=>?_) (λ_=>hb _ ⟨by simp only;omega,g2⟩);refine cV (λc2=>?_) (λ_=>hb _ ⟨by simp only;omega,g2⟩);refine cV (λc3=>?_) (λ_=>hb _ ⟨by simp only;omega,g2⟩);refine cV (λc4=>?_) (λ_=>hb _ ⟨by simp only;omega,g2⟩);have c1:=cu c1;have c2:=cu c2;have c3:=cu c3;have c4:=cu c4;have hj:j.toNat<d.au.length:=by omega
   refine nO g1.1 hj ?_;obtain⟨q0,q1,q2⟩:=hd.2 _ (nI hj);generalize d.au[j.toNat]=e at q0 q1 q2 ⊢;refine cq (by omega) (cq (by omega) (cq (by omega) ?_));rw[dJ (n:=e.x0) (by omega),dJ (n:=e.x1) (by omega),dJ (n:=e.x2) (by omega),dJ (n:=j+1) (by omega)];have m0:=wT (b:=(t.au.length:Int)) q0.1 c4;have m1:=wT (b:=(ns.length:Int)) q1.1 c3;have m2:=wT (b:=(ns.length:Int)) q2.1 c3;have b1:(e.x1.tmod (ns.length:Int)).toNat<ns.length:=by omega
   have b2:(e.x2.tmod (ns.length:Int)).toNat<ns.length:=by omega
   refine nO m1.1 b1 (nO m2.1 b2 ?_);refine ok_eq (tg hr.wU) ?_;refine cV (λf1=>?_) (λ_=>hn _ ⟨by simp only;omega,g2⟩ (by simp only;omega));refine cq (by omega) ?_;refine hn _ ⟨by simp only[List.length_append,List.length_cons,List.length_nil];omega,λx hx=>?_⟩ (by simp only;omega);rcases List.mem_append.1 hx with h|h
   ·exact g2 x h
   ·simp only[List.mem_cons,List.not_mem_nil,or_false] at h;subst h;refine⟨m0,m1,m2,?_⟩;dsimp only;rw[atI b1,atI b2];exact f1
  ·rintro⟨j,es⟩ ⟨g1,g2⟩;exact .mk (azF hr h2 h3 h4 g1 g2)
end
section
variable{t:Types}{x y:ax}
theorem agq(ht:OkT t){k:Int}{v:List Int}(hk:0<=k)(h:ni t k v=0):v.length<=8:=by
 unfold ni at h;split at h
 ·cases h
 rename_i h1;split at h
 ·cases h
 split at h
 ·cases h
 rename_i h2;have h2:=Decidable.of_not_not h2;have h3:=aii (ht.node k.toNat (by omega));omega
theorem oV.yB(hf:fM t){h:Host}(hh:oV t h):sM h:=by have hg:=hh.graph;have h1:=hg.nodes;have h2:=hg.au;have h3:=hh.ael;refine⟨⟨by omega,by omega⟩,by omega,λl hl=>?_⟩;obtain⟨i,hi,rfl⟩:=List.getElem_of_mem hl;have h4:=hh.node i (by omega);rw[atI hi] at h4;have:=agq (tD hf hh.types) (hg.kind i (by omega)).1 h4;omega
theorem gd.yB(hf:fM t)(h:gd t x):j4 x:=⟨h.host.yB hf,by have:=h.n40;omega,by have:=h.e80;omega⟩
theorem agr{N:List ah}{E:List ak}{next:Int}(h:gd t (dF N E next)):cT (dF N E next)=E:=by
 refine ajN λe he=>?_
 obtain⟨i,hi,rfl⟩:=List.getElem_of_mem he;have hl:(dF N E next).host.graph.au.length=E.length:=by simp[dF]
 have hE:=h.host.graph.iu i (by omega);have e2:(dF N E next).host.graph.au.getD i default=mC (N.map ah.id) E[i]:=by simp[dF,hi]
 rw[e2] at hE;exact⟨hE.2.1.1,hE.2.2.1⟩
theorem auS{N:List ah}{E:List ak}{next:Int}(h1:N.length<=1000)(h2:E.length<=1000)(h3:Rows N):j4 (dF N E next):=by refine⟨⟨⟨by simpa[dF] using h1,by simpa[dF] using h2⟩,by simpa[dF] using h1,λl hl=>?_⟩,by simp[dF];omega,by simp[dF];omega⟩;obtain⟨n,hn,rfl⟩:=List.mem_map.1 hl;exact h3 n hn
def ail(t:Types)(x y:ax):Prop:=j4 y/\(gd t y->zz x y)
theorem auT(hf:fM t)(hx:gd t x):ail t x x:=⟨hx.yB hf,λ_=>zz.refl x⟩
theorem ap1(hf:fM t)(hx:gd t x){i j:Nat}(hi:i<x.host.values.length)(v:Int):ail t x ⟨⟨x.host.graph,x.host.values.set i ((x.host.values[i]).set j v)⟩,x.nodes,x.au,x.next⟩:=by
 have hb:=hx.yB hf;refine⟨⟨⟨hb.host.graph,by simpa using hb.host.values,λl hl=>?_⟩,hb.nodes,hb.au⟩,λhy=>⟨Int.le_refl _,λn hn=>?_,λe he=>.inr he⟩⟩
 ·rcases List.mem_or_eq_of_mem_set hl with h|h
  ·exact hb.host.row l h
  ·rw[h,List.length_set];exact hb.host.row _ (nI hi)
 ·obtain⟨k,hk,rfl⟩:=aaq hn;exact .inr ⟨bF x k,adA hk,rfl,rfl⟩
theorem amW(hf:fM t)(hx:gd t x){N:List ah}{E:List ak}(hN:N.Sublist (bC x))(hE:E.Sublist (cT x)):ail t x (dF N E x.next):=by
 have hb:=hx.yB hf;have h1:=hN.length_le;have h2:=hE.length_le;have n1:=hx.n40;have n2:=hx.e80;rw[gU] at h1;rw[gz] at h2;refine⟨auS (by omega) (by omega) (λn hn=>jl hx hb.host n (hN.subset hn)),λhy=>⟨Int.le_refl _,λn hn=>?_,λe he=>?_⟩⟩
 ·rw[ajM] at hn;exact .inr ⟨n,hN.subset hn,rfl,rfl⟩
 ·rw[agr hy] at he;exact .inr (hE.subset he)
theorem auU(hf:fM t)(hx:gd t x)(k:Int){v:List Int}(hv:v.length<=8):ail t x ⟨⟨⟨x.host.graph.nodes++[k],x.host.graph.au⟩,x.host.values++[v]⟩,x.nodes++[x.next],x.au,x.next+1⟩:=by
 have hb:=hx.yB hf;have n1:=hx.n40;have n2:=hx.sW;have n3:=hx.host.ael;refine⟨⟨⟨⟨by simp;omega,hb.host.graph.au⟩,by simp;omega,λl hl=>?_⟩,by simp;omega,hb.au⟩,λhy=>⟨by dsimp only;omega,λn hn=>?_,λe he=>?_⟩⟩
 ·rcases List.mem_append.1 hl with h|h
  ·exact hb.host.row l h
  ·simp only[List.mem_cons,List.not_mem_nil,or_false] at h;subst h;omega
 ·obtain⟨j,hj,rfl⟩:=aaq hn;dsimp only at hj;rw[List.length_append] at hj;simp only[List.length_cons,List.length_nil] at hj;rcases Nat.lt_or_ge j x.nodes.length with h|h
  ·refine .inr ⟨bF x j,adA h,?_,?_⟩
   ·show x.nodes.getD j default=(x.nodes++[x.next]).getD j default;rw[j5 h]
   ·show x.host.graph.nodes.getD j default=(x.host.graph.nodes++[k]).getD j default;rw[j5 (by omega)]
  ·have e1:j=x.nodes.length:=by omega
   subst e1;refine .inl ?_;show x.next<=(x.nodes++[x.next]).getD x.nodes.length default
   rw[qH];exact Int.le_refl _
 ·obtain⟨j,hj,rfl⟩:=List.mem_map.1 he;have hj:j<x.au.length:=List.mem_range.1 hj;have hE:=hx.host.graph.iu j (by rw[<-hx.agW];exact hj);refine .inr ?_;have e:dG ⟨⟨⟨x.host.graph.nodes++[k],x.host.graph.au⟩,x.host.values++[v]⟩,x.nodes++[x.next],x.au,x.next+1⟩ j=dG x j:=by unfold dG;dsimp only;rw[j5 (by omega),j5 (by omega)]
  rw[e];exact aih hj
theorem auV(hf:fM t)(hx:gd t x)(e:Edge):ail t x ⟨⟨⟨x.host.graph.nodes,x.host.graph.au++[e]⟩,x.host.values⟩,x.nodes,x.au++[x.next],x.next+1⟩:=by
 have hb:=hx.yB hf;have n1:=hx.e80;have n2:=hx.agW;refine⟨⟨⟨⟨hb.host.graph.nodes,by simp;omega⟩,hb.host.values,hb.host.row⟩,hb.nodes,by simp;omega⟩,λhy=>⟨by dsimp only;omega,λn hn=>?_,λf he=>?_⟩⟩
 ·obtain⟨k,hk,rfl⟩:=aaq hn;exact .inr ⟨bF x k,adA hk,rfl,rfl⟩
 ·obtain⟨j,hj,rfl⟩:=List.mem_map.1 he;have hj:=List.mem_range.1 hj;dsimp only at hj;rw[List.length_append] at hj;simp only[List.length_cons,List.length_nil] at hj;rcases Nat.lt_or_ge j x.au.length with h|h
  ·refine .inr ?_;have e:dG ⟨⟨⟨x.host.graph.nodes,x.host.graph.au++[e]⟩,x.host.values⟩,x.nodes,x.au++[x.next],x.next+1⟩ j=dG x j:=by unfold dG;dsimp only;rw[j5 h,j5 (by omega)]
   rw[e];exact aih h
  ·have e1:j=x.au.length:=by omega
   subst e1;refine .inl ?_;show x.next<=(x.au++[x.next]).getD x.au.length default
   rw[qH];exact Int.le_refl _
def OkC(l:List jF):Prop:=∀x∈l,(0<=x.x0/\x.x0<=255)/\(0<=x.x1/\x.x1<=255)/\(0<=x.x2/\x.x2<=255)
theorem auW(hr:Roomy t)(hx:gd t x){c:jF}(hc:(0<=c.x0/\c.x0<=255)/\(0<=c.x1/\c.x1<=255)/\(0<=c.x2/\c.x2<=255)):Ok (gO t x c) (ail t x):=by
 have hf:=hr.wU;have hb:=hx.yB hf;have n1:=hx.n40;have n2:=hx.e80;have n3:=hx.sW;have n4:=hx.agW;have n5:=hx.host.ael;have nx:=hx.next
 have aaU:=auT hf hx;have hv:∀l∈x.host.values,l.length<=1000000:=λl hl=>Nat.le_trans (hb.host.row l hl) (by decide)
 have hrows:∀n∈bC x,n.values.length<=1000000:=λn hn=>Nat.le_trans (jl hx hb.host n hn) (by decide)
 unfold gO;refine ok_eq (af8 hb) ?_;rw[dJ (n:=c.x0) (by omega),dJ (n:=c.x1) (by omega),dJ (n:=c.x2) (by omega)];refine cV (λ_=>?_) (λ_=>?_)
 ·refine cV (λc1=>?_) (λ_=>.mk aaU);have c1:=cu c1;have m1:=wT (b:=(x.nodes.length:Int)) hc.2.1.1 c1;refine cq (by omega) ?_;have hi:(c.x1.tmod (x.nodes.length:Int)).toNat<x.host.values.length:=by omega
  refine nO m1.1 hi ?_;refine cV (λc2=>?_) (λ_=>.mk aaU);have c2:=cu c2;have m2:=wT (b:=((x.host.values[(c.x1.tmod (x.nodes.length:Int)).toNat]).length:Int)) hc.2.2.1 c2;refine cq (by omega) (cq (by omega) ?_);refine nO m2.1 (by omega) ?_;exact .mk (ap1 hf hx hi _)
 refine cV (λ_=>?_) (λ_=>?_)
 ·refine cV (λc1=>?_) (λ_=>.mk aaU);have c1:=cu c1;have m1:=wT (b:=(x.nodes.length:Int)) hc.2.1.1 c1;refine cq (by omega) ?_;unfold fD;rw[aT (afP hx hv),cond_false];have hi:(c.x1.tmod (x.nodes.length:Int)).toNat<(bC x).length:=by rw[gU];omega
  rw[fS m1.1 hi,aT (ahX ⟨bC x,cT x⟩ _ (by rw[gU];omega) hrows)];have hs:=zo (q:=eD) (l:=bC x) (n:=(bC x)[(c.x1.tmod (x.nodes.length:Int)).toNat]);have hl:=hs.length_le;rw[gU] at hl;rw[aT (sY _ x.next (by dsimp only;omega) (by dsimp only;rw[gz];omega) (λn hn=>jl hx hb.host n (hs.subset hn)))];exact .mk (amW hf hx hs (List.Sublist.refl _))
 refine cV (λ_=>?_) (λ_=>?_)
 ·refine cV (λc1=>?_) (λ_=>.mk aaU);have c1:=cu c1;have m1:=wT (b:=(x.au.length:Int)) hc.2.1.1 c1;refine cq (by omega) ?_;unfold fD;rw[aT (afP hx hv),cond_true];have hi:(c.x1.tmod (x.au.length:Int)).toNat<(cT x).length:=by rw[gz];omega
  rw[fS m1.1 hi,aT (ahW ⟨bC x,cT x⟩ _ (by rw[gz];omega))];have hs:=zo (q:=rU) (l:=cT x) (n:=(cT x)[(c.x1.tmod (x.au.length:Int)).toNat]);have hl:=hs.length_le;rw[gz] at hl;rw[aT (sY _ x.next (by dsimp only;rw[gU];omega) (by dsimp only;omega) (jl hx hb.host))];exact .mk (amW hf hx (List.Sublist.refl _) hs)
 refine cV (λ_=>?_) (λ_=>?_)
 ·refine ze (aqY hr (d:=⟨[⟨c.x1,c.x2⟩],[]⟩) ⟨λz hz=>?_,λz hz=>by cases hz⟩) λp hp=>?_
  ·simp only[List.mem_cons,List.not_mem_nil,or_false] at hz;subst hz;exact hc.2
  refine cV (λc1=>?_) (λ_=>.mk aaU);have c1:=cu c1;have h1:=hp.ok.ael;have hp0:0<p.graph.nodes.length:=by omega
  refine oL (by omega) (oL (by omega) ?_);refine cq (by omega) (cq (by omega) (cq (by omega) ?_));rw[dJ (n:=x.next+1) (by omega)];have h2:=hp.ok.node 0 hp0;have h3:=(hp.ok.graph.kind 0 hp0).1;rw[atI (l:=p.values) (by omega)] at h2;exact .mk (auU hf hx _ (agq hr.ok h3 h2))
 refine cV (λ_=>?_) (λ_=>.mk aaU);refine cV (λc1=>?_) (λ_=>.mk aaU);refine cV (λc2=>?_) (λ_=>.mk aaU);have c1:=cu c1;have c2:=cu c2;refine cq (by omega) (cq (by omega) (cq (by omega) (cq (by omega) (cq (by omega) ?_))));rw[dJ (n:=x.next+1) (by omega)];exact .mk (auV hf hx _)
theorem adC(hr:Roomy t)(hx:gd t x){l:List jF}(hl:l.length<=1000000)(hc:OkC l):Ok (ep t x l) (λy=>gd t y/\zz x y):=by
 unfold ep;refine cq (bt (by omega)) ?_;refine tG (λ_ (s:List Int×List Edge×List (List Int)×List Int×List Int×Int)=>gd t ⟨⟨⟨s.1,s.2.1⟩,s.2.2.1⟩,s.2.2.2.1,s.2.2.2.2.1,s.2.2.2.2.2⟩/\zz x ⟨⟨⟨s.1,s.2.1⟩,s.2.2.1⟩,s.2.2.2.1,s.2.2.2.2.1,s.2.2.2.2.2⟩) (Nat.zero_le _) ⟨hx,zz.refl x⟩ ?_ ?_
 ·rintro i s cv _ hi ⟨h1,h2⟩ hn;refine oL hi ?_;refine ze (auW hr h1 (hc _ (nI hi))) λy hy=>?_
  refine ok_eq (mz hr.wU hy.1) ?_;refine cV (λc1=>?_) (λ_=>hn _ ⟨h1,h2⟩);have hk:=dm.1 (cu c1);exact hn _ ⟨hk,h2.trans (hy.2 hk)⟩
 ·rintro s ⟨h1,h2⟩;exact .mk ⟨h1,h2⟩
end
section
variable{t:Types}{a b:ax}{p q:aG}
theorem aim(s:Int)(n:Nat)(hs:0<=s/\s<=1000000)(hn:n<=1000000):fC s (n:Int)=some ((List.range n).map λi:Nat=>s+(i:Int)):=by refine Ok.eq ?_;unfold fC;rw[Int.toNat_natCast];refine cq (bt (by omega)) ?_;refine tG (λi (l:List Int)=>l=(List.range i).map λi:Nat=>s+(i:Int)) (Nat.zero_le _) rfl ?_ (λl h=>.mk h);rintro i l cv _ hi rfl hx;refine cq (by simp;omega) ?_;rw[dJ (by omega)];exact hx _ (by rw[List.range_succ,List.map_append];rfl)
def ag2(h:Host):ax:=⟨h,(List.range h.graph.nodes.length).map λi:Nat=>(i:Int),(List.range h.graph.au.length).map λi:Nat=>(h.graph.nodes.length:Int)+(i:Int),(h.graph.nodes.length:Int)+(h.graph.au.length:Int)⟩
theorem ain(s:Int)(n:Nat):iS id ((List.range n).map λi:Nat=>s+(i:Int)):=by refine List.pairwise_map.2 (List.Pairwise.imp (λ{i j} h=>?_) List.pairwise_lt_range);show s+(i:Int)<s+(j:Int);omega
theorem aDb{h:Host}(hh:oV t h):gd t (ag2 h):=by
 have n1:=hh.graph.nodes;have n2:=hh.graph.au;refine⟨hh,by simp[ag2],by simp[ag2],⟨by simp only[ag2];omega,by simp only[ag2];omega⟩,⟨λn hn=>?_,?_⟩,⟨λn hn=>?_,ain _ _⟩,λe he hn=>?_⟩
 ·obtain⟨i,hi,rfl⟩:=List.mem_map.1 hn;have:=List.mem_range.1 hi;simp only[ag2];omega
 ·have:=ain 0 h.graph.nodes.length;simpa[ag2] using this
 ·obtain⟨i,hi,rfl⟩:=List.mem_map.1 hn;have:=List.mem_range.1 hi;simp only[ag2];omega
 ·obtain⟨i,hi,rfl⟩:=List.mem_map.1 he;obtain⟨j,hj,e⟩:=List.mem_map.1 hn;have:=List.mem_range.1 hj;omega
theorem ajP{h:Host}(hb:sM h):cC h=some h:=by
 have hx:j4 ⟨h,[],[],0⟩:=⟨hb,by simp,by simp⟩;have:=af8 hx;unfold dy at this;cases hc:cC h with
 |none=>rw[hc] at this;cases this
 |some r=>rw[show cC (⟨h,[],[],0⟩:ax).host=some r from hc,mo,bw (by simp),bw (by simp)] at this;have:=Option.some.inj this;rw[ax.mk.injEq] at this;rw[<-this.1]
def newR(t:Types)(h:Host):ax×Int:=if (jU t h).2≠0 then (kV,(jU t h).2) else (ag2 h,0)
theorem aDc(hf:fM t){h:Host}(hb:sM h):js t h=some (newR t h):=by
 unfold js newR;rw[aT (zn hf),aX];by_cases h0:(gC t).2=0;rotate_left
 ·rw[if_neg h0,acy h0,if_pos h0];rfl
 rw[if_pos h0,aT (vX hf hb),aX];by_cases h1:(jU t h).2=0;rotate_left
 ·rw[if_neg h1,if_pos h1];rfl
 rw[if_pos h1,if_neg (λh=>h h1)];have hh:=p8.1 h1;have n1:=hh.graph.nodes;have n2:=hh.graph.au;rw[dJ (n:=(((h.graph.nodes.length:Nat):Int)+((h.graph.au.length:Nat):Int))) (by omega),dJ (n:=(((h.graph.nodes.length:Nat):Int)+((h.graph.au.length:Nat):Int))-((h.graph.nodes.length:Nat):Int)) (by omega)];rw[show ((h.graph.nodes.length:Nat):Int)+((h.graph.au.length:Nat):Int)-((h.graph.nodes.length:Nat):Int)=((h.graph.au.length:Nat):Int) by omega];rw[aT (ajP hb),aT (aim 0 _ (by omega) (by omega)),aT (aim _ _ (by omega) (by omega))];have e:((List.range h.graph.nodes.length).map λi:Nat=>(0:Int)+(i:Int))=(List.range h.graph.nodes.length).map λi:Nat=>(i:Int):=List.map_congr_left λi _=>Int.zero_add _
 rw[e];rfl
theorem azG{h:Host}(hh:oV t h):newR t h=(ag2 h,0):=by unfold newR;rw[if_neg (λh2=>h2 (p8.2 hh))]
theorem aio(ba:j4 a)(bb:j4 b):jf (ym t a b).1:=by
 have hf:=auF (t:=t) ba bb;refine⟨hf.rn,hf.re,hf.an,hf.ae,hf.va,λn hn=>?_,λn hn=>?_⟩;all_goals
  unfold ym at hn;split at hn
  ·cases hn
  rename_i h1;split at hn
  ·cases hn
  rename_i h2;have ha:=dm.1 (Decidable.of_not_not h1);have hb:=dm.1 (Decidable.of_not_not h2);split at hn
  ·rename_i h3;unfold yj at hn;rw[if_pos h3] at hn
   first
    |exact jl ha ba.host n (aav hn)
    |exact jl hb bb.host n (aav hn)
  ·cases hn
structure ags(d:bQ):Prop where
 nodes:OkU d.nodes
 au:OkU d.au
 h:ajO d.h
 first:OkC d.first
 p:OkC d.p
 q:OkC d.q
structure aBJ(R:Types×bV×Bool):Prop where
 wU:fM R.1
 yB:j4 R.2.1.a
 bp:jf R.2.1.p
 bq:jf R.2.1.q
 both:vb R.1 R.2.1.a R.2.1.p R.2.1.q
 merged:ov R.2.1.a R.2.1.p R.2.1.q=[]->(eF R.1 R.2.1.a R.2.1.p R.2.1.q).2=0
 aJI:(xP R.1 R.2.1.a R.2.1.p R.2.1.q).2=0
theorem amX(h:(xP t a p q).2=0):vb t a p q/\(ov a p q=[]->(eF t a p q).2=0):=by
 unfold xP at h;split at h
 ·rename_i h1;exact absurd h h1
 rename_i h1;refine⟨j6.1 (Decidable.of_not_not h1),λhc=>?_⟩;rw[hc,if_neg (by simp)] at h;split at h
 ·rename_i h2;exact absurd h h2
 ·rename_i h2;exact Decidable.of_not_not h2
theorem aBK{d:bQ}(hd:ags d):Ok (fm d) (λR=>R.2.2=true->aBJ R):=by
 have no:∀ {Q:Prop},(false=true->Q):=λh=>by cases h
 unfold fm;refine cV (λ_=>.mk no) (λ_=>cV (λ_=>.mk no) (λ_=>cV (λ_=>.mk no) (λ_=>cV (λ_=>.mk no) (λ_=>cV (λ_=>.mk no) (λc1=>cV (λ_=>.mk no) (λc2=>cV (λ_=>.mk no) (λc3=>?_)))))));have c1:=en c1;have c2:=en c2;have c3:=en c3;refine ze (aBH hd.nodes hd.au) λt ht=>?_
 have hr:=ht.roomy;refine ze (aqY hr hd.h) λh hh=>?_
 refine ok_eq (aDc hr.wU (hh.ok.yB hr.wU)) ?_;rw[azG hh.ok];refine ze (adC hr (aDb hh.ok) (by omega) hd.first) λa ha=>?_
 have ha:=ha.1;refine ze (adC hr ha (by omega) hd.p) λx hx=>?_
 refine ok_eq (aqR hr.wU (ha.yB hr.wU) (hx.1.yB hr.wU)) ?_;refine ze (adC hr ha (by omega) hd.q) λy hy=>?_
 refine ok_eq (aqR hr.wU (ha.yB hr.wU) (hy.1.yB hr.wU)) ?_;have bp:=aio (t:=t) (ha.yB hr.wU) (hx.1.yB hr.wU);have bq:=aio (t:=t) (ha.yB hr.wU) (hy.1.yB hr.wU);refine ok_eq (ajI hr.wU (ha.yB hr.wU) bp bq) ?_;refine cV (λ_=>cV (λ_=>.mk λh=>?_) (λ_=>.mk no)) (λ_=>.mk no);have h:=cu h;exact⟨hr.wU,ha.yB hr.wU,bp,bq,(amX h).1,(amX h).2,h⟩
end
theorem agt{d:bQ}(hd:ags d):fu d=some true:=by
 obtain⟨R,e,h⟩:=aBK hd;unfold fu;rw[aT e,aT agb,cond_true];cases hb:R.2.2 with
 |false=>rw[cond_false,aT agb]
 |true =>
 have P:=h hb;have hA:=P.both.ap;have hG:=P.both.gp;have hx:=hA.ajH P.yB.host P.bp;rw[cond_true,aT (uM P.wU P.yB P.bp),mD hA];rw[aT (show iq R.1 R.2.1.a R.2.1.p ⟨[],[],[],[],[],⟨R.2.1.a.next,R.2.1.a.next⟩⟩=_ from ajJ P.wU P.yB P.bp (ajK _)),show v8 R.1 R.2.1.a R.2.1.p ⟨[],[],[],[],[],⟨R.2.1.a.next,R.2.1.a.next⟩⟩=_ from azy hA hG];rw[aT (show iq R.1 R.2.1.a ⟨[],[],[],[],[],⟨R.2.1.a.next,R.2.1.a.next⟩⟩ R.2.1.p=_ from ajJ P.wU P.yB (ajK _) P.bp),show v8 R.1 R.2.1.a ⟨[],[],[],[],[],⟨R.2.1.a.next,R.2.1.a.next⟩⟩ R.2.1.p=_ from auI hA hG];rw[aT (show mg R.1 R.2.1.a R.2.1.p ⟨[],[],[],[],[],⟨R.2.1.a.next,R.2.1.a.next⟩⟩=_ from azr P.wU P.yB P.bp (ajK _)),show acH R.1 R.2.1.a R.2.1.p ⟨[],[],[],[],[],⟨R.2.1.a.next,R.2.1.a.next⟩⟩=_ from auK hA hG];rw[dK rfl,cond_true,cond_true,cond_true,cond_true,aT (azj hx),cond_true,aT (azj hx),cond_true];rw[aT (show eR (qR R.2.1.p.next.x1) ⟨[],[],[],[],[],⟨(bD R.2.1.a R.2.1.p).next,(bD R.2.1.a R.2.1.p).next⟩⟩=_ from amL (aBC _))]
theorem azH{n:Int}(h:G5 n):0<=n/\n<=255:=h
theorem okU{l:List cz}(h:G22 l):OkU l:=λx hx=>⟨azH (h.1 x hx).1,azH (h.1 x hx).2.1⟩
theorem okC{l:List jF}(h:G23 l):OkC l:=λx hx=>⟨azH (h.1 x hx).1,azH (h.1 x hx).2.1,azH (h.1 x hx).2.2.1⟩
theorem aBL{d:cZ}(h:G25 d):ajO d:=⟨okU h.1,okC h.2.1⟩
theorem azI{d:bQ}(h:G27 d):ags d:=⟨okU h.1,okU h.2.1,aBL h.2.2.1,okC h.2.2.2.1,okC h.2.2.2.2.1,okC h.2.2.2.2.2.1⟩
end Go.Proofs.YtjhkgjlmiolfoaaGreat
