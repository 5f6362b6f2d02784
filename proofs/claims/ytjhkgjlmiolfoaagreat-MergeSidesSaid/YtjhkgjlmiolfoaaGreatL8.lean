/- Laws. -/
import Derived.Test.YtjhkgjlmiolfoaaGreatL7
set_option maxHeartbeats 4000000
set_option linter.unusedSimpArgs false
set_option linter.unusedVariables false
open Go.IntKind (i64)
open Go.Proofs.Tryz
open List hiding cons erase_filter iter nil take_set
open Nat (le_trans zero_le not_lt_zero lt_or_ge)
open Bool (or_eq_false_iff and_eq_true or_eq_true not_eq_true' eq_false_iff)
open Int (toNat_natCast le_refl le_trans)
namespace Go.Proofs.YtjhkgjlmiolfoaaGreat
open Go.cv
def cU(p q:aF):aF:=mm p (jw p q)
theorem oB{p q:aF}(hq:ir q):ir (jw p q) :=
 ⟨hq.rn,hq.re,by simp[jw];exact hq.an,by simp[jw];exact hq.ae,hq.va,hq.rv,λn hn=>by
  obtain⟨m,hm,rfl⟩:=mem_map.1 hn;exact hq.av m hm⟩
theorem vV{p q:aF}(hq:ir q):ir (mm p q):=⟨le_trans (length_filter_le _ _) hq.rn,le_trans (length_filter_le _ _) hq.re,hq.an,hq.ae,le_trans (length_filter_le _ _) hq.va,λn hn=>hq.rv n (mem_filter.1 hn).1,hq.av⟩
def tooMany(a:az)(p q:aF):Bool:=decide ((40:Int)<((bu a p).nodes.length:Int)+(cU p q).aM.length-(cU p q).au.length)||decide ((80:Int)<((bu a p).ak.length:Int)+(cU p q).aK.length-(cU p q).aC.length)
def eU(t:Types)(a:az)(p q:aF):az×Int:=if tooMany a p q=true then (lu,3) else nt t (bu a p) (cU p q)
section
variable{t:Types}{a:az}{p q:aF}
theorem b5.aqn(h:b5 t a p)(hb:tT a.host)(hp:ir p):kN (bu a p):=h.small.add (aqh h.tk hb) hp _
theorem aix(p q:aF):(cU p q).aM.length=q.aM.length/\(cU p q).aK.length=q.aK.length/\(cU p q).au.length<=q.au.length/\(cU p q).aC.length<=q.aC.length:=⟨by simp[cU,mm,jw],by simp[cU,mm,jw],length_filter_le _ _,length_filter_le _ _⟩
theorem vm(ht:fm t)(h:p7 t a p q)(hb:kN a)(hp:ir p)(hq:ir q):∃x,mq t a p q=some (x,(eU t a p q).1,(eU t a p q).2)/\((eU t a p q).2=0->x=bu a p):=by
 have hx:=h.ap.aqn hb.host hp;have e1:=h.ap.ok.n40;have e2:=h.ap.ok.e80;obtain⟨r1,r2,r3,r4⟩:=aix p q;have s1:=h.aq.small.an;have s2:=h.aq.small.ae;have s3:=h.aq.small.rn;have s4:=h.aq.small.re;unfold mq eU tooMany;rw[aT (acU ht hb hp),qu h.ap,dB rfl,cond_true,aT (yM h.aCd hq),aT (aeT hp (oB hq))];rw[show mm p (jw p q)=cU p q from rfl];dsimp only;rw[dA (n:=(((bu a p).nodes.length:Nat):Int)+(((cU p q).aM.length:Nat):Int)) (by omega),dA (n:=(((bu a p).nodes.length:Nat):Int)+(((cU p q).aM.length:Nat):Int)-(((cU p q).au.length:Nat):Int)) (by omega)];rw[dA (n:=(((bu a p).ak.length:Nat):Int)+(((cU p q).aK.length:Nat):Int)) (by omega),dA (n:=(((bu a p).ak.length:Nat):Int)+(((cU p q).aK.length:Nat):Int)-(((cU p q).aC.length:Nat):Int)) (by omega)];cases h1:decide ((40:Int)<(((bu a p).nodes.length:Nat):Int)+(((cU p q).aM.length:Nat):Int)-(((cU p q).au.length:Nat):Int)) with
 |true=>exact⟨lu,by rw[cond_true];rfl,λh=>by cases h⟩
 |false =>
  rw[cond_false,Bool.false_or];cases h2:decide ((80:Int)<(((bu a p).ak.length:Nat):Int)+(((cU p q).aK.length:Nat):Int)-(((cU p q).aC.length:Nat):Int)) with
  |true=>exact⟨lu,by rw[cond_true];rfl,λh=>by cases h⟩
  |false=>rw[cond_false,aT (show ff t (bu a p) (cU p q)=_ from acU ht hx (vV (oB hq)))];exact⟨bu a p,rfl,λ_=>rfl⟩
def azQ(p q:aF):Prop:=(∀v∈q.values,bR p v.id=false)/\∀v∈p.values,bR q v.id=false
theorem aet:∀ (r:List aO) (l:List ah) (n:ah),n∈l->(∀v∈r,v.id≠n.id)->n∈(eB l r).1
 | [],l,n,h,_=>h
 |v :: r,l,n,h,hv=>by
  have hp:mF v n=n:=by unfold mF;rw[if_neg];unfold jy;rw[gf λe=>hv v (mem_cons_self ..) e.symm,Bool.false_and];simp
  have h':n∈l.map (mF v):=mem_map.2 ⟨n,h,hp⟩;rw[eB];split
  ·exact aet r _ n h' λw hw=>hv w (mem_cons_of_mem _ hw)
  ·exact h'
theorem b5.keep(h:b5 t a p){n:ah}(hn:n∈bD a)(hr:bR p n.id=false)(hv:∀v∈p.values,v.id≠n.id):n∈iZ a p:=by
 refine aet _ _ n (mem_filter.2 ⟨hn,?_⟩) hv;cases hx:p.au.any λm=>dS n m with
 |false=>rfl
 |true=>obtain⟨m,hm,e⟩:=any_eq_true.1 hx;have:=oM.1 e;subst this;rw[gy.2 ⟨n,hm,rfl⟩] at hr;cases hr
theorem au9{a:az}{p:aF}{k:Nat}(hk:k<(bu a p).nodes.length):∃h1:k<(kF (iZ a p++p.aM)).length,∃h2:k<(bu a p).host.values.length,(bu a p).nodes[k]=(kF (iZ a p++p.aM))[k].id/\(bu a p).host.values[k]=(kF (iZ a p++p.aM))[k].values:=by
 have h1:k<(kF (iZ a p++p.aM)).length:=by simpa[bu,c9] using hk
 exact⟨h1,by simpa[bu,c9] using h1,by simp[bu,c9],by simp[bu,c9]⟩
theorem b5.xu(h:b5 t a p):iJ ah.id (kF (iZ a p++p.aM)):=iJ.arc (f:=id) h.ok.nid.2
theorem b5.agu(h:b5 t a p):iJ ax.id (mR (kO a p++p.aK)):=iJ.arc (f:=id) h.ok.eid.2
theorem ava(ht:fm t)(h:p7 t a p q)(hb:kN a)(hp:ir p)(hq:ir q)(hc:azQ p q):gh t a p q=some (eU t a p q):=by
 have hx:=h.ap.aqn hb.host hp;have e1:=h.ap.ok.n40;have e2:=h.ap.ok.e80;obtain⟨r1,r2,r3,r4⟩:=aix p q;have s1:=h.aq.small.an;have s2:=h.aq.small.ae;have s3:=h.aq.small.rn;have s4:=h.aq.small.re;unfold gh eU tooMany;rw[aT (xx ht hb hp),qu h.ap,dB rfl,cond_true];rw[aT (show eG ⟨p.au,p.aC,p.aM,p.aK,p.values,p.next⟩ q=_ from aiw h.aCd hq)];rw[aT (show gZ ⟨p.au,p.aC,p.aM,p.aK,p.values,p.next⟩ _=_ from aDU hp (oB hq))];rw[show mm p (jw p q)=cU p q from rfl];dsimp only;have aFU:(bu a p).host.values.length=(bu a p).nodes.length:=by simp[bu,c9]
 have hW:dX (cU p q) (bu a p)=some (cU p q):=aeU (vV (oB hq)) (by omega) aFU λn hn k hk he=>by
  obtain⟨hn1,hn2⟩:=mem_filter.1 hn;have hnp:bR p n.id=false:=by simpa[bR] using hn2
  have hmid:n∈iZ a p:=h.ap.keep (h.aq.ud hn1) hnp λv hv e=>by have:=hc.2 v hv;rw[e,gy (p:=q) |>.2 ⟨n,hn1,rfl⟩] at this;cases this
  obtain⟨k1,k2,k3,k4⟩:=au9 hk;rw[k4];rw[k3] at he;rw[h.ap.xu.inj (nS k1) (nI.2 (mem_append_left _ hmid)) he]
 rw[aT hW];rw[dA (n:=(((bu a p).nodes.length:Nat):Int)-(((cU p q).au.length:Nat):Int)) (by omega),dA (n:=(((bu a p).nodes.length:Nat):Int)-(((cU p q).au.length:Nat):Int)+(((cU p q).aM.length:Nat):Int)) (by omega)];rw[dA (n:=(((bu a p).ak.length:Nat):Int)-(((cU p q).aC.length:Nat):Int)) (by omega),dA (n:=(((bu a p).ak.length:Nat):Int)-(((cU p q).aC.length:Nat):Int)+(((cU p q).aK.length:Nat):Int)) (by omega)];rw[show (((bu a p).nodes.length:Nat):Int)-(((cU p q).au.length:Nat):Int)+(((cU p q).aM.length:Nat):Int)=(((bu a p).nodes.length:Nat):Int)+(((cU p q).aM.length:Nat):Int)-(((cU p q).au.length:Nat):Int) by omega];rw[show (((bu a p).ak.length:Nat):Int)-(((cU p q).aC.length:Nat):Int)+(((cU p q).aK.length:Nat):Int)=(((bu a p).ak.length:Nat):Int)+(((cU p q).aK.length:Nat):Int)-(((cU p q).aC.length:Nat):Int) by omega];cases h1:decide ((40:Int)<(((bu a p).nodes.length:Nat):Int)+(((cU p q).aM.length:Nat):Int)-(((cU p q).au.length:Nat):Int)) with
 |true=>rw[cond_true];rfl
 |false =>
  rw[cond_false,Bool.false_or];cases h2:decide ((80:Int)<(((bu a p).ak.length:Nat):Int)+(((cU p q).aK.length:Nat):Int)-(((cU p q).aC.length:Nat):Int)) with
  |true=>rw[cond_true];rfl
  |false=>rw[cond_false,aT (show bX ⟨t.nodes,t.ak⟩ (bu a p) (cU p q)=_ from xx ht hx (vV (oB hq)))];rfl
theorem adW(h:qv a p q=[])(hp:b5 t a p)(hq:b5 t a q):azQ p q/\(∀id,bR p id=true->qX q id=false)/\(∀id,bR q id=true->qX p id=false)/\∀v∈p.values,∀w∈q.values,v.id=w.id->v.attr=w.attr->v.new=w.new:=by
 rw[<-xB hp hq] at h;unfold xz at h;obtain⟨h12,h3⟩:=append_eq_nil_iff.1 h;obtain⟨h1,h2⟩:=append_eq_nil_iff.1 h12;have nil_of:∀ {K:Int} {l:List aG},(∀x∈l,x.kind=K)->jc l=[]->∀x,x ∉ l:=λ{K l} hk ho x hx=>by
  have:=(pU hk).2 x |>.2 hx
  rw[ho] at this;cases this
 have n1:=nil_of (K:=1) (λx hx=>by rcases mem_append.1 hx with h|h<;>(obtain⟨id,_,_,rfl⟩:=mJ.1 h;rfl)) h1;have n2:=nil_of (K:=2) (λx hx=>by rcases mem_append.1 hx with h|h<;>(obtain⟨id,_,_,rfl⟩:=mK.1 h;rfl)) h2;have n3:=nil_of (K:=3) (λx hx=>by obtain⟨v,_,_,_,_,_,_,rfl⟩:=sX.1 hx;rfl) h3;refine⟨⟨λv hv=>?_,λv hv=>?_⟩,λid hr=>?_,λid hr=>?_,λv hv w hw h1 h2=>?_⟩
 ·cases hr:bR p v.id with
  |false=>rfl
  |true=>exact absurd (mem_append_left _ (mK.2 ⟨v,hv,hr,rfl⟩)) (n2 _)
 ·cases hr:bR q v.id with
  |false=>rfl
  |true=>exact absurd (mem_append_right _ (mK.2 ⟨v,hv,hr,rfl⟩)) (n2 _)
 ·cases hu:qX q id with
  |false=>rfl
  |true=>exact absurd (mem_append_left _ (mJ.2 ⟨id,hr,hu,rfl⟩)) (n1 _)
 ·cases hu:qX p id with
  |false=>rfl
  |true=>exact absurd (mem_append_right _ (mJ.2 ⟨id,hr,hu,rfl⟩)) (n1 _)
 ·by_cases he:v.new=w.new
  ·exact he
  ·exact absurd (sX.2 ⟨v,hv,w,hw,h1,h2,he,rfl⟩) (n3 _)
theorem kj{x0 d:Int}(hd:0<=d){m n:Int}(h:m<n):gi x0 d m<gi x0 d n:=by unfold gi;split<;>split<;>omega
theorem yo{x0 d:Int}(hd:0<=d){m n:Int}(h:gi x0 d m=gi x0 d n):m=n:=by unfold gi at h;split at h<;>split at h<;>omega
theorem vn{x0 d m:Int}(h:m<x0):gi x0 d m=m:=by unfold gi;rw[if_neg (by omega)]
theorem adX{l m:List ah}(h1:iJ ah.id l)(h2:iJ ah.id m)(h:∀a∈l,∀b∈m,a.id<b.id):kF (l++m)=l++m:=(adM (mD h1 h2 λa ha b hb=>by have:=h a ha b hb;omega)).ext (h1.app h2 h) λx=>nI
theorem adY{l m:List ax}(h1:iJ ax.id l)(h2:iJ ax.id m)(h:∀a∈l,∀b∈m,a.id<b.id):mR (l++m)=l++m:=(adN (mD h1 h2 λa ha b hb=>by have:=h a ha b hb;omega)).ext (h1.app h2 h) λx=>uE
theorem ahr.ids{l m:List ah}(h:ahr l m):l.map ah.id=m.map ah.id:=by have:=congrArg (List.map λx:Int×Int×Nat=>x.1) h;rw[map_map,map_map] at this;exact this
theorem acY{n:ah}(hn:n∈iZ a p):n.id∈a.nodes:=by have:n.id∈(iZ a p).map ah.id:=mem_map_of_mem hn;unfold iZ at this;rw[(qq _ _).ids] at this;obtain⟨m,hm,e⟩:=mem_map.1 this;rw[<-e];exact wF (mem_filter.1 hm).1
theorem ae3{n:ax}(hn:n∈kO a p):n.id∈a.ak:=akc (mem_filter.1 hn).1
theorem adZ(h:fD t a){e:ax}(he:e∈kO a p):e.src<a.next/\e.dst<a.next:=by
 obtain⟨i,hi,rfl⟩:=mem_map.1 (mem_filter.1 he).1;have hi:i<a.ak.length:=by simpa using hi
 have hE:=h.host.graph.ia i (by rw[<-h.ahs];exact hi);rw[<-h.uc] at hE;unfold gP;have g:∀n:Int,0<=n->n<(a.nodes.length:Int)->a.nodes.getD n.toNat default<a.next:=λn h0 h1=>by
  have hlt:n.toNat<a.nodes.length:=by omega
  have:=(h.nid.1 _ (nS hlt)).2;simpa[hlt] using this
 exact⟨g _ hE.2.1.1 hE.2.1.2,g _ hE.2.2.1 hE.2.2.2⟩
theorem agJ{f:Int->Int}(hf:∀m n,f m=f n->m=n)(ids:List Int)(n:Int):cu (ids.map f) (f n)=cu ids n:=by
 unfold cu z7;rw[findIdx?_map];have:((λy=>decide (y=f n)) ∘ f)=λy=>decide (y=n):=by funext y;simp only[Function.comp,decide_eq_decide];exact⟨λh=>hf _ _ h,λh=>by rw[h]⟩
 rw[this]
def akf(p q:aF)(n0:Int):aF:=⟨q.au,q.aC,q.aM.map (oz q.next.x0 (p.next.x1-p.next.x0)),q.aK.map (oA q.next.x0 (p.next.x1-p.next.x0)),q.values,⟨n0,p.next.x1+q.next.x1-q.next.x0⟩⟩
def jx(a:az)(p q:aF):az:=bu a (akf p q 0)
theorem ad0(h:p7 t a p q):jx a p q=⟨(bu a q).host,(bu a q).nodes.map (gi q.next.x0 (p.next.x1-p.next.x0)),(bu a q).ak.map (gi q.next.x0 (p.next.x1-p.next.x0)),p.next.x1+q.next.x1-q.next.x0⟩/\kF (iZ a q++q.aM)=iZ a q++q.aM/\mR (kO a q++q.aK)=kO a q++q.aK:=by
 have hd:0<=p.next.x1-p.next.x0:=by have:=h.gp.next;omega
 have hN:∀m∈iZ a q,m.id<q.next.x0:=λm hm=>by rw[h.aq.next];exact (h.aq.tk.nid.1 _ (acY hm)).2
 have hE:∀m∈kO a q,m.id<q.next.x0:=λm hm=>by rw[h.aq.next];exact (h.aq.tk.eid.1 _ (ae3 hm)).2
 have aN:iJ ah.id (iZ a q):=yf _ _ (vh h.aq.tk.xu);have aE:iJ ax.id (kO a q):=vh h.aq.tk.agu;have s1:kF (iZ a q++q.aM)=iZ a q++q.aM:=adX aN h.aq.ord.an λx hx y hy=>by have:=hN x hx;have:=h.gq.n y hy;omega
 have s2:mR (kO a q++q.aK)=kO a q++q.aK:=adY aE h.aq.ord.ae λx hx y hy=>by have:=hE x hx;have:=h.gq.e y hy;omega
 have mN:iJ ah.id (q.aM.map (oz q.next.x0 (p.next.x1-p.next.x0))):=iJ.map (Pairwise.imp (λh=>kj hd h) h.aq.ord.an);have mE:iJ ax.id (q.aK.map (oA q.next.x0 (p.next.x1-p.next.x0))):=iJ.map (Pairwise.imp (λh=>kj hd h) h.aq.ord.ae);have t1:kF (iZ a q++q.aM.map (oz q.next.x0 (p.next.x1-p.next.x0)))=iZ a q++q.aM.map (oz q.next.x0 (p.next.x1-p.next.x0)):=adX aN mN λx hx y hy=>by obtain⟨z,hz,rfl⟩:=mem_map.1 hy;have h1:=hN x hx;have h2:=h.gq.n z hz;simp only[oz,gi];rw[if_pos h2];omega
 have t2:mR (kO a q++q.aK.map (oA q.next.x0 (p.next.x1-p.next.x0)))=kO a q++q.aK.map (oA q.next.x0 (p.next.x1-p.next.x0)):=adY aE mE λx hx y hy=>by obtain⟨z,hz,rfl⟩:=mem_map.1 hy;have h1:=hE x hx;have h2:=h.gq.e z hz;simp only[oA,gi];rw[if_pos h2];omega
 have aJu:(iZ a q).map (oz q.next.x0 (p.next.x1-p.next.x0))=iZ a q:=by
  have:∀l:List ah,(∀m∈l,m.id<q.next.x0)->l.map (oz q.next.x0 (p.next.x1-p.next.x0))=l:=λl hl=>by
   induction l with
   |nil=>rfl
   |cons x l ih=>rw[map_cons,ih λm hm=>hl m (mem_cons_of_mem _ hm)];congr 1;unfold oz;rw[vn (hl x (mem_cons_self ..))]
  exact this _ hN
 have aJv:(kO a q).map (oA q.next.x0 (p.next.x1-p.next.x0))=kO a q:=by
  have:∀l:List ax,(∀m∈l,m.id<q.next.x0/\m.src<q.next.x0/\m.dst<q.next.x0)->l.map (oA q.next.x0 (p.next.x1-p.next.x0))=l:=λl hl=>by
   induction l with
   |nil=>rfl
   |cons x l ih=>rw[map_cons,ih λm hm=>hl m (mem_cons_of_mem _ hm)];obtain⟨h1,h2,h3⟩:=hl x (mem_cons_self ..);congr 1;unfold oA;rw[vn h1,vn h2,vn h3]
  exact this _ λm hm=>⟨hE m hm,by rw[h.aq.next];exact (adZ h.aq.tk hm).1,by rw[h.aq.next];exact (adZ h.aq.tk hm).2⟩
 refine⟨?_,s1,s2⟩;show c9 (kF (iZ a q++q.aM.map (oz q.next.x0 (p.next.x1-p.next.x0)))) (mR (kO a q++q.aK.map (oA q.next.x0 (p.next.x1-p.next.x0)))) _=_;unfold bu;rw[t1,t2,s1,s2];have eN:iZ a q++q.aM.map (oz q.next.x0 (p.next.x1-p.next.x0))=(iZ a q++q.aM).map (oz q.next.x0 (p.next.x1-p.next.x0)):=by rw[map_append,aJu]
 have eE:kO a q++q.aK.map (oA q.next.x0 (p.next.x1-p.next.x0))=(kO a q++q.aK).map (oA q.next.x0 (p.next.x1-p.next.x0)):=by rw[map_append,aJv]
 rw[eN,eE];unfold c9;simp only[map_map,az.mk.injEq,Host.mk.injEq,eY.mk.injEq];have ids:((iZ a q++q.aM).map (ah.id ∘ oz q.next.x0 (p.next.x1-p.next.x0)))=((iZ a q++q.aM).map ah.id).map (gi q.next.x0 (p.next.x1-p.next.x0)):=by rw[map_map];rfl
 refine⟨⟨⟨rfl,?_⟩,rfl⟩,rfl,rfl,rfl⟩;rw[ids];refine map_congr_left λe _=>?_
 show jL _ (oA _ _ e)=jL _ e;unfold jL oA;simp only[Edge.mk.injEq];exact⟨trivial,agJ (λm n=>yo hd) _ _,agJ (λm n=>yo hd) _ _⟩
theorem xC(h:p7 t a p q):fD t (jx a p q):=by
 have hd:0<=p.next.x1-p.next.x0:=by have:=h.gp.next;omega
 have ho:=h.aq.ok;have n1:=h.aq.n1;have n0:=h.aq.n0;have hg:=h.gq.next
 have hnx:=h.next
 have hp0:=h.ap.n0;have e0:p.next.x0=q.next.x0:=by rw[h.ap.next,h.aq.next]
 rw[(ad0 h).1];have bound:∀m,0<=m/\m<q.next.x1->0<=gi q.next.x0 (p.next.x1-p.next.x0) m/\gi q.next.x0 (p.next.x1-p.next.x0) m<p.next.x1+q.next.x1-q.next.x0:=λm hm=>by unfold gi;split<;>omega
 refine⟨ho.host,by simp only[length_map];exact ho.uc,by simp only[length_map];exact ho.ahs,⟨by simp only;omega,by simp only;omega⟩,⟨λm hm=>?_,?_⟩,⟨λm hm=>?_,?_⟩,λe he hn=>?_⟩
 ·obtain⟨x,hx,rfl⟩:=mem_map.1 hm;exact bound x (ho.nid.1 x hx)
 ·exact iJ.map (Pairwise.imp (λh=>kj hd h) ho.nid.2)
 ·obtain⟨x,hx,rfl⟩:=mem_map.1 hm;exact bound x (ho.eid.1 x hx)
 ·exact iJ.map (Pairwise.imp (λh=>kj hd h) ho.eid.2)
 ·obtain⟨x,hx,rfl⟩:=mem_map.1 he;obtain⟨y,hy,e⟩:=mem_map.1 hn;have:=yo hd e;subst this;exact ho.apart y hx hy
theorem aaZ(h:p7 t a p q){n0:Int}(hT:fD t ⟨a.host,a.nodes,a.ak,n0⟩):b5 t ⟨a.host,a.nodes,a.ak,n0⟩ (akf p q n0):=by
 have hd:0<=p.next.x1-p.next.x0:=by have:=h.gp.next;omega
 have hs:=h.aq.small;have ho:=h.aq.ord;refine⟨hT,⟨hs.rn,hs.re,by simp[akf];exact hs.an,by simp[akf];exact hs.ae,hs.va⟩,⟨ho.rn,ho.re,iJ.map (Pairwise.imp (λh=>kj hd h) ho.an),iJ.map (Pairwise.imp (λh=>kj hd h) ho.ae),ho.va⟩,rfl,h.aq.rn,h.aq.re,h.aq.va,?_,(show fD t (jx a p q) from xC h)⟩;have hN:∀m∈iZ a q,m.id<q.next.x0:=λm hm=>by rw[h.aq.next];exact (h.aq.tk.nid.1 _ (acY hm)).2
 have hE:∀m∈kO a q,m.id<q.next.x0:=λm hm=>by rw[h.aq.next];exact (h.aq.tk.eid.1 _ (ae3 hm)).2
 have free:∀m,q.next.x0<=m->j6 (iZ a q) (kO a q) (gi q.next.x0 (p.next.x1-p.next.x0) m)=false:=λm hm=>by unfold j6 gi;rw[if_pos hm,or_eq_false_iff];simp only[any_eq_false,decide_eq_true_eq];exact⟨λx hx e=>by have:=hN x hx;omega,λx hx e=>by have:=hE x hx;omega⟩
 show gm (iZ a q) (kO a q) _=false;unfold gm;rw[or_eq_false_iff];simp only[any_eq_false];refine⟨λx hx=>?_,λx hx=>?_⟩
 ·obtain⟨z,hz,rfl⟩:=mem_map.1 hx;rw[show (oz q.next.x0 (p.next.x1-p.next.x0) z).id=gi q.next.x0 (p.next.x1-p.next.x0) z.id from rfl,free _ (h.gq.n z hz)];simp
 ·obtain⟨z,hz,rfl⟩:=mem_map.1 hx;rw[show (oA q.next.x0 (p.next.x1-p.next.x0) z).id=gi q.next.x0 (p.next.x1-p.next.x0) z.id from rfl,free _ (h.gq.e z hz)];simp
theorem ahu(ht:fm t)(h:p7 t a p q)(hb:kN a)(hp:ir p)(hq:ir q):pR t a p q=some (jx a p q,0):=by have hA:=aaZ h (n0:=a.next) h.ap.tk;unfold pR;rw[aT (yM h.aCd hq)];have hsb:=oB (p:=p) hq;rw[aT (show ff t a ⟨(jw p q).au,(jw p q).aC,(jw p q).aM,(jw p q).aK,(jw p q).values,⟨a.next,(jw p q).next.x1⟩⟩=_ from acU ht hb ⟨hsb.rn,hsb.re,hsb.an,hsb.ae,hsb.va,hsb.rv,hsb.av⟩)];have e:nt t a ⟨(jw p q).au,(jw p q).aC,(jw p q).aM,(jw p q).aK,(jw p q).values,⟨a.next,(jw p q).next.x1⟩⟩=(jx a p q,0):=qu hA;rw[e]
theorem azR(ht:fm t)(h:p7 t a p q)(hb:kN a)(hq:ir q):bX t ⟨a.host,a.nodes,a.ak,p.next.x1⟩ (jw p q)=some (jx a p q,0):=by
 have ha:=h.ap.tk;have hx:=h.ap.n1;have hg:=h.gp.next
 rw[h.ap.next] at hg;have hT:fD t ⟨a.host,a.nodes,a.ak,p.next.x1⟩:=⟨ha.host,ha.uc,ha.ahs,hx,⟨λn hn=>by have:=ha.nid.1 n hn;simp only;omega,ha.nid.2⟩,⟨λn hn=>by have:=ha.eid.1 n hn;simp only;omega,ha.eid.2⟩,ha.apart⟩;have hA:=aaZ h hT;refine (xx ht (a:=⟨a.host,a.nodes,a.ak,p.next.x1⟩) ⟨hb.host,hb.nodes,hb.ak⟩ (oB hq)).trans ?_;congr 1;exact qu hA
end
def gC(t:Types)(x:az):List bn:=(agI t x.host).map λy=>⟨x.nodes.getD y.node.toNat default,y.ia,y.out⟩
def toR(v:bn):bK:=⟨v.id,v.ia,v.out⟩
section
variable{t:Types}{x:az}
theorem agK{h:Host}{y:cI}(hy:y∈agI t h):∃k i:Nat,k<t.ak.length/\i<h.graph.nodes.length/\y.ia=(k:Int)/\y.node=(i:Int):=by
 unfold agI aeV qY at hy;obtain⟨k,hk,hy⟩:=mem_flatMap.1 hy;have hk:=mem_range.1 hk;rcases mem_append.1 hy with hy|hy
 ·obtain⟨i,hi,rfl⟩:=mem_map.1 hy;exact⟨k,i,hk,mem_range.1 (mem_filter.1 hi).1,rfl,rfl⟩
 ·obtain⟨i,hi,rfl⟩:=mem_map.1 hy;exact⟨k,i,hk,mem_range.1 (mem_filter.1 hi).1,rfl,rfl⟩
theorem agL(hf:fm t)(hx:fD t x):(agI t x.host).length<=100000:=by
 have hE:=hf.ak;have hn:=hx.host.graph.nodes;have:=acW (aeV t x.host.graph) (range t.ak.length) [] 80 λk _=>by unfold aeV;rw[length_append];have h1:=lC (t:=t) x.host.graph (k:Int) true (t.ak.getD k default).src (t.ak.getD k default).nN (t.ak.getD k default).j5;have h2:=lC (t:=t) x.host.graph (k:Int) false (t.ak.getD k default).dst (t.ak.getD k default).tH (t.ak.getD k default).oh;omega
 rw[uF,length_range] at this;simp only[nil_append,length_nil] at this;unfold agI;omega
theorem sv(hf:fm t)(hx:fD t x):(gC t x).length<=100000:=by unfold gC;rw[length_map];exact agL hf hx
theorem aro(hx:fD t x){v:bn}(hv:v∈gC t x):v.id∈x.nodes/\∃k:Nat,k<t.ak.length/\v.ia=(k:Int):=by
 unfold gC at hv;obtain⟨y,hy,rfl⟩:=mem_map.1 hv;obtain⟨k,i,hk,hi,e1,e2⟩:=agK hy;have hi':i<x.nodes.length:=by rw[hx.uc];exact hi
 refine⟨?_,k,hk,e1⟩;rw[e2];simp[hi']
theorem oO(hf:fm t)(hx:fD t x)(hb:kN x):iV t x=some (gC t x):=by
 have hl:=agL hf hx;unfold iV gC;rw[aT (aqm hf hx.host hb.host),bC (bB (by simp only;omega))];rw[jM (agI t x.host) (λy=>[(⟨x.nodes.getD y.node.toNat default,y.ia,y.out⟩:bn)]) 1 (λ_ _=>by simp) λi hi s hs cH=>?_,aaf]
 ·rfl
 ·obtain⟨k,j,hk,hj,e1,e2⟩:=agK (nS hi);have hj':j<x.nodes.length:=by rw[hx.uc];exact hj
  simp only[length_nil] at hs;rw[ck hi,gD (by omega) (by omega),bC (by omega)];simp[e2,hj']
theorem vW(hf:fm t)(hx:fD t x)(hb:kN x):dO t x=some ((gC t x).map toR):=by
 have hl:=agL hf hx;unfold dO gC;rw[aT (am8 hf hx.host hb.host),bC (bB (by simp only;omega))];rw[jM (agI t x.host) (λy=>[(⟨x.nodes.getD y.node.toNat default,y.ia,y.out⟩:bK)]) 1 (λ_ _=>by simp) λi hi s hs cH=>?_,aaf]
 ·rw[map_map];rfl
 ·obtain⟨k,j,hk,hj,e1,e2⟩:=agK (nS hi);have hj':j<x.nodes.length:=by rw[hx.uc];exact hj
  simp only[length_nil] at hs;rw[ck hi,gD (by omega) (by omega),bC (by omega)];simp[e2,hj']
end
def eqX(v w:bn):Bool:=decide (v.id=w.id)&&(decide (v.ia=w.ia)&&(v.out == w.out))
theorem azS(v w:bn):eqX v w=eqX w v:=by unfold eqX;rw[Bool.eq_iff_iff];simp only[and_eq_true,decide_eq_true_eq,beq_iff_eq];exact⟨λ⟨a,b,c⟩=>⟨a.symm,b.symm,c.symm⟩,λ⟨a,b,c⟩=>⟨a.symm,b.symm,c.symm⟩⟩
def su(t:Types)(a x z:az)(v:bn):Bool:=(gC t a++gC t x++gC t z).any λw=>eqX v w
def avb(t:Types)(a x z y:az):List aG:=((gC t y).filter λv=>!su t a x z v).map λv=>⟨4,v.id,v.ia⟩
def azT(t:Types)(a x z y:az):List aG:=(range y.nodes.length).flatMap λi=>((range t.ak.length).filter λk:Nat=>(gC t y).any λv=>decide (v.id=y.nodes.getD i default)&&(decide (v.ia=(k:Int)) && !su t a x z v)).map λk:Nat=>⟨4,y.nodes.getD i default,(k:Int)⟩
section
variable{t:Types}{a x y z:az}{p q:aF}
theorem azU(hy:fD t y):jc (avb t a x z y)=azT t a x z y:=by
 refine ym (K:=4) (λc hc=>?_) ?_ λc=>?_
 ·obtain⟨v,_,rfl⟩:=mem_map.1 hc;rfl
 ·unfold azT;rw[pairwise_flatMap];constructor
  ·intro i _;rw[pairwise_map];exact (Pairwise.sublist filter_sublist pairwise_lt_range).imp λh=>.inr ⟨rfl,by simp only;omega⟩
  ·refine Pairwise.imp_of_mem ?_ (pairwise_lt_range (n:=y.nodes.length));intro i j hi hj hij c hc d hd;have hi:=mem_range.1 hi;have hj:=mem_range.1 hj;obtain⟨k,_,rfl⟩:=mem_map.1 hc;obtain⟨m,_,rfl⟩:=mem_map.1 hd;left;have:=hy.nid.2.acO hij hj;simpa[hi,hj] using this
 ·unfold avb azT;simp only[mem_map,mem_filter,mem_flatMap,mem_range,any_eq_true,and_eq_true,decide_eq_true_eq];constructor
  ·rintro⟨v,⟨hv,hn⟩,rfl⟩;obtain⟨h1,k,hk,h2⟩:=aro hy hv;obtain⟨i,hi,e⟩:=getElem_of_mem h1;have hg:y.nodes.getD i default=v.id:=by rw[<-e];simp[hi]
   exact⟨i,hi,k,⟨hk,v,hv,hg.symm,h2,hn⟩,by rw[hg,h2]⟩
  ·rintro⟨i,hi,k,⟨hk,v,hv,e1,e2,hn⟩,rfl⟩;exact⟨v,⟨hv,hn⟩,by rw[e1,e2]⟩
theorem ahv{l:List bn}(hl:l.length<=1000000)(v:bn):fA l v=some (l.any λw=>eqX v w):=by
 unfold fA;rw[aT (show gr l v=some (z7 (λw=>eqX v w) l) by
  unfold gr;rw[bC (bB (by omega))];exact xo l _ (λi hi cH=>by rw[ck hi];rfl) rfl),yd]
theorem aJw{l:List bn}(hl:l.length<=1000000)(v:bn):gM (l.map toR) (toR v)=some (l.any λw=>eqX v w):=by
 unfold gM;rw[bC (bB (by rw[length_map];omega))];rw[acV (b:=λw=>eqX v ⟨w.id,w.ia,w.out⟩) (λi hi cH=>?_) rfl,any_map]
 ·rfl
 ·rw[ck hi];congr 1;have:=azS v ⟨(l.map toR)[i].id,(l.map toR)[i].ia,(l.map toR)[i].out⟩;rw[this];rfl
theorem avc{n:Int}(h:0<=n/\n<=1000000):kE ([]:List bn) n=some []:=qJ ⟨rfl,by omega⟩
theorem aqo(x y z:List bn)(h:x.length<=300000/\y.length<=300000/\z.length<=300000):gb [x,y,z]=some (x++y++z):=by unfold gb;rw[bC (bB (by simp))];show cr _ 3 0 0 _=_;simp only[cr,getElem?_cons_zero,getElem?_cons_succ,mC];rw[dA (n:=0+((x.length:Nat):Int)) (by omega),gf (by omega),cond_false];rw[dA (n:=0+((x.length:Nat):Int)+((y.length:Nat):Int)) (by omega),gf (by omega),cond_false];rw[dA (n:=0+((x.length:Nat):Int)+((y.length:Nat):Int)+((z.length:Nat):Int)) (by omega),gf (by omega),cond_false];rw[aT (avc (by omega)),bC (bB (by simp))];show cr _ 3 0 [] _=_;simp only[cr,getElem?_cons_zero,getElem?_cons_succ,mC];rw[bC (by simp;omega),bC (by simp;omega),bC (by simp;omega)];simp
theorem p7.am9(h:p7 t a p q)(hb:kN a)(hq:ir q):kN (jx a p q):=by have:=h.aq.aqn hb.host hq;rw[(ad0 h).1];exact⟨this.host,by simp only[length_map];exact this.nodes,by simp only[length_map];exact this.ak⟩
def ahw(t:Types)(a:az)(p q:aF)(y:az):List aG:=azT t a (bu a p) (jx a p q) y
theorem vo(ht:fm t)(h:p7 t a p q)(hb:kN a)(hp:ir p)(hq:ir q)(hy:fD t y)(hby:kN y):mu t a p q (bu a p) y=some (ahw t a p q y,0):=by
 have hx:=h.ap.aqn hb.host hp;have hz:=h.am9 hb hq;have n1:=sv ht h.ap.tk;have n2:=sv ht h.ap.ok;have n3:=sv ht (xC h);have n4:=sv ht hy;unfold mu ahw;rw[aT (ahu ht h hb hp hq),dB rfl,cond_true,aT (oO ht h.ap.tk hb),aT (oO ht h.ap.ok hx),aT (oO ht (xC h) hz),aT (aqo _ _ _ ⟨by omega,by omega,by omega⟩),aT (oO ht hy hby),bC (bB (by omega))];have hlen:(gC t a++gC t (bu a p)++gC t (jx a p q)).length<=1000000:=by rw[length_append,length_append];omega
 rw[jM (gC t y) (λv=>if su t a (bu a p) (jx a p q) v=true then [] else [(⟨4,v.id,v.ia⟩:aG)]) 1 (λ_ _=>by split<;>simp) λi hi s hs cH=>?_]
 ·have e:((gC t y).flatMap λv=>if su t a (bu a p) (jx a p q) v=true then [] else [(⟨4,v.id,v.ia⟩:aG)])=avb t a (bu a p) (jx a p q) y:=by unfold avb;rw[<-lI];congr 1;funext v;cases su t a (bu a p) (jx a p q) v<;>rfl
  rw[nil_append,e];rw[aT (show fe (avb t a (bu a p) (jx a p q) y)=_ from qO ⟨by
   unfold avb;rw[length_map];exact le_trans (length_filter_le _ _) (by omega),4,λc hc=>by
    obtain⟨v,hv,rfl⟩:=mem_map.1 hc;obtain⟨h1,k,hk,h2⟩:=aro hy (mem_filter.1 hv).1;have h3:=hy.small h1;have hE:=ht.ak;exact⟨rfl,by unfold ov;simp only;omega⟩⟩),azU hy]
 ·simp only[length_nil] at hs;rw[ck hi,aT (ahv hlen _),bC (by omega)];show cond (su t a (bu a p) (jx a p q) (gC t y)[i]) _ _=_;cases su t a (bu a p) (jx a p q) (gC t y)[i]<;>simp
theorem agM{x:az}(hx:kN x):dG x=some x:=by
 have h1:=hx.nodes;have h2:=hx.ak;have h3:=hx.host.graph.nodes;have h4:=hx.host.graph.ak;have h5:=hx.host.values;unfold dG;rw[aT (show cD x.host=some x.host by
  unfold cD;rw[aT (show iF x.host.graph=some x.host.graph by unfold iF;rw[bC (by omega),bC (by omega)]),bC (bB (by omega))];rw[jM x.host.values (λl=>[l]) 1 (λ_ _=>by simp) λi hi s hs cH=>?_]
  ·simp
  ·have:=hx.host.row _ (nS hi);simp only[length_nil] at hs;rw[ck hi,bC (by omega),bC (by omega)]),bC (by omega),bC (by omega)]
theorem azV(ht:fm t)(h:p7 t a p q)(hb:kN a)(hp:ir p)(hq:ir q)(hy:fD t y)(hby:kN y):iG t a p q y=some (ahw t a p q y):=by
  have hx:=h.ap.aqn hb.host hp;have hz:=h.am9 hb hq;have n1:=sv ht h.ap.tk;have n2:=sv ht h.ap.ok;have n3:=sv ht (xC h);have n4:=sv ht hy;have hE:=ht.ak;have hyn:=hy.n40;unfold iG ahw;rw[aT (xx ht hb hp),qu h.ap,aT (agM hb),aT (aiw h.aCd hq),aT (azR ht h hb hq)];rw[aT (vW ht h.ap.tk hb),aT (vW ht h.ap.ok hx),bC (by simp only[length_map];omega),aT (vW ht (xC h) hz),bC (by simp only[length_map];omega),aT (vW ht hy hby),bC (bB (by omega))];have hlen:(gC t a++gC t (bu a p)++gC t (jx a p q)).length<=1000000:=by rw[length_append,length_append];omega
  have hmap:(gC t a).map toR++(gC t (bu a p)).map toR++(gC t (jx a p q)).map toR=(gC t a++gC t (bu a p)++gC t (jx a p q)).map toR:=by rw[map_append,map_append]
  rw[hmap];unfold azT;rw[nL y.nodes.length (λi=>((range t.ak.length).filter λk:Nat=>(gC t y).any λv=>decide (v.id=y.nodes.getD i default)&&(decide (v.ia=(k:Int)) && !su t a (bu a p) (jx a p q) v)).map λk:Nat=>(⟨4,y.nodes.getD i default,(k:Int)⟩:aG)) 1000 (λi hi=>by
    rw[length_map];refine le_trans (length_filter_le _ _) ?_;rw[length_range];omega) λi hi s hs cH=>?_]
  · rfl
  · have hg:y.nodes.getD i default=y.nodes[i]:=by simp[hi]
    simp only[length_nil] at hs;have hs':s.length<=100000:=by have:1000 * i<=1000 * 40:=Nat.mul_le_mul_left _ (by omega);omega
    rw[hg,bC (bB (by omega))];rw[nL t.ak.length (λk=>if ((gC t y).any λv=>decide (v.id=y.nodes[i])&&(decide (v.ia=(k:Int)) && !su t a (bu a p) (jx a p q) v))=true then [(⟨4,y.nodes[i],(k:Int)⟩:aG)] else []) 1 (λ_ _=>by split<;>simp) λk hk s2 hs2 cH=>?_,lI];rw[bC (bB (by rw[length_map];omega))];have key:=(sk (O:=List aG) (K:=λazW =>
   cond azW (
    thn (y.nodes[i]?) λaFV =>
    cT (s2.length+1<=68719476736) <|
    cH (s2++[(⟨4,aFV,((k:Nat):Int)⟩:aG)])) <|
   cH s2) (s:=false) (f:=λaFW (azW:Bool) acZ aFX =>
    cond azW (
     acZ true) <|
    thn (((gC t y).map toR)[aFW]?) λazX =>
    thn (y.nodes[i]?) λaFY =>
    cond (decide (azX.id=aFY)) (
     cond (decide (azX.ia=((k:Nat):Int))) (
      thn (gM ((gC t a++gC t (bu a p)++gC t (jx a p q)).map toR) azX) λaFZ =>
      acZ (!aFZ)) <|
     acZ false) <|
    acZ false) ((gC t y).map toR) (λb e=>b||(decide (e.id=y.nodes[i])&&(decide (e.ia=(k:Int)) && !su t a (bu a p) (jx a p q) ⟨e.id,e.ia,e.out⟩))) (λ_ _=>True) trivial λj hj b _=>by
      refine⟨λcH=>?_,trivial⟩;cases b with
      |true=>rfl
      |false =>
        rw[cond_false,ck hj,ck hi,Bool.false_or];have hin:=aJw hlen ⟨((gC t y).map toR)[j].id,((gC t y).map toR)[j].ia,((gC t y).map toR)[j].out⟩;rw[aT (show gM _ ((gC t y).map toR)[j]=_ from hin)];show cond _ (cond _ (cH (!su t a (bu a p) (jx a p q) ⟨((gC t y).map toR)[j].id,((gC t y).map toR)[j].ia,((gC t y).map toR)[j].out⟩)) _) _=_;cases decide (((gC t y).map toR)[j].id=y.nodes[i])<;>cases decide (((gC t y).map toR)[j].ia=(k:Int))<;>rfl).1
    rw[key];have fold_any:∀ (l:List bK) (b:Bool) (g:bK->Bool),l.foldl (λb e=>b||g e) b=(b||l.any g):=λl b g=>by
      induction l generalizing b with
      |nil=>simp
      |cons e l ih=>rw[foldl_cons,ih,any_cons,Bool.or_assoc]
    rw[fold_any,Bool.false_or,any_map];show cond ((gC t y).any λv=>decide (v.id=y.nodes[i])&&(decide (v.ia=(k:Int)) && !su t a (bu a p) (jx a p q) v)) _ _=_;rw[ck hi,bC (by omega)];cases (gC t y).any λv=>decide (v.id=y.nodes[i])&&(decide (v.ia=(k:Int)) && !su t a (bu a p) (jx a p q) v)<;>simp
theorem aiy(h:(eU t a p q).2=0):eU t a p q=(bu (bu a p) (cU p q),0)/\b5 t (bu a p) (cU p q):=by
 unfold eU at h ⊢;split at h
 ·cases h
 ·rename_i hn;rw[if_neg hn];exact⟨qu (nJ.1 h),nJ.1 h⟩
def qa(t:Types)(a:az)(p q:aF):List aG×Int :=
 if sr t a p q≠0 then ([],sr t a p q)
 else if 0<(qv a p q).length then (qv a p q,0)
 else if (eU t a p q).2≠0 then ([],(eU t a p q).2)
 else (ahw t a p q (eU t a p q).1,0)
def vX(t:Types)(a:az)(p q:aF):az×Int :=
 if (eU t a p q).2≠0 then (lu,(eU t a p q).2)
 else if 0<(ahw t a p q (eU t a p q).1).length then (lu,11)
 else ((eU t a p q).1,0)
def akg(t:Types)(a:az)(p q:aF):az×Int :=
 if sr t a p q≠0 then (lu,sr t a p q)
 else if 0<(qv a p q).length then (lu,11)
 else vX t a p q
theorem yp(hb:kN a)(h:p7 t a p q)(hp:ir p)(hq:ir q)(hm:(eU t a p q).2=0):fD t (eU t a p q).1/\kN (eU t a p q).1:=by obtain⟨e,hA⟩:=aiy hm;rw[e];exact⟨hA.ok,hA.aqn (h.ap.aqn hb.host hp).host (vV (oB hq))⟩
theorem aah(ht:fm t)(hb:kN a)(hp:ir p)(hq:ir q):gx t a p q=some (qa t a p q):=by
 unfold gx qa;rw[aT (show kg ⟨t.nodes,t.ak⟩ ⟨a.host,a.nodes,a.ak,a.next⟩ p q=_ from wG ht hb hp hq),aY];by_cases h0:sr t a p q=0;rotate_left
 ·rw[if_neg h0,if_pos h0]
 have h:=mW.1 h0;rw[if_pos h0,if_neg (λh=>h h0),aT (p9 h.ap h.aq hb.host),xB h.ap h.aq,aY];by_cases h1:0<(qv a p q).length
 ·rw[if_pos (by omega),if_pos h1]
 rw[if_neg (by omega),if_neg h1];obtain⟨x,e,ex⟩:=vm ht h hb hp hq;rw[aT e,aY];by_cases h2:(eU t a p q).2=0
 ·rw[if_pos h2,if_neg (λh=>h h2),ex h2];obtain⟨k1,k2⟩:=yp hb h hp hq h2;rw[aT (vo ht h hb hp hq k1 k2)]
 ·rw[if_neg h2,if_pos h2]
theorem aqp(h:p7 t a p q)(h1:¬ 0<(qv a p q).length):azQ p q:=(adW (eq_nil_of_length_eq_zero (by omega)) h.ap h.aq).1
theorem akh(ht:fm t)(hb:kN a)(hp:ir p)(hq:ir q):gn t a p q=some (qa t a p q):=by
 unfold gn qa;rw[aT (show gA ⟨t.nodes,t.ak⟩ ⟨a.host,a.nodes,a.ak,a.next⟩ p q=_ from aB8 ht hb hp hq),aY];by_cases h0:sr t a p q=0;rotate_left
 ·rw[if_neg h0,if_pos h0]
 have h:=mW.1 h0;rw[if_pos h0,if_neg (λh=>h h0),aT (show eM ⟨a.host,a.nodes,a.ak,a.next⟩ ⟨p.au,p.aC,p.aM,p.aK,p.values,p.next⟩ q=some (qv a p q) from aht h.ap.tk hb.host hp hq),aY];by_cases h1:0<(qv a p q).length
 ·rw[if_pos (by omega),if_pos h1]
 rw[if_neg (by omega),if_neg h1];rw[aT (show gh ⟨t.nodes,t.ak⟩ a ⟨p.au,p.aC,p.aM,p.aK,p.values,p.next⟩ q=_ from ava ht h hb hp hq (aqp h h1)),aY];by_cases h2:(eU t a p q).2=0
 ·rw[if_pos h2,if_neg (λh=>h h2)];obtain⟨k1,k2⟩:=yp hb h hp hq h2;rw[aT (azV ht h hb hp hq k1 k2)]
 ·rw[if_neg h2,if_pos h2]
theorem aCf(ht:fm t)(hb:kN a)(hp:ir p)(hq:ir q):lG t a p q=some (akg t a p q):=by
 unfold lG akg;rw[aT (wG ht hb hp hq),aY];by_cases h0:sr t a p q=0;rotate_left
 ·rw[if_neg h0,if_pos h0];rfl
 have h:=mW.1 h0;rw[if_pos h0,if_neg (λh=>h h0),aT (p9 h.ap h.aq hb.host),xB h.ap h.aq,aY];by_cases h1:0<(qv a p q).length
 ·rw[if_pos (by omega),if_pos h1];rfl
 rw[if_neg (by omega),if_neg h1];rw[aT (show j7 t a p q=some (vX t a p q) by
  unfold j7 vX;obtain⟨x,e,ex⟩:=vm ht h hb hp hq;rw[aT e,aY];by_cases h2:(eU t a p q).2=0
  ·rw[if_pos h2,if_neg (λh=>h h2),ex h2];obtain⟨k1,k2⟩:=yp hb h hp hq h2;rw[aT (vo ht h hb hp hq k1 k2),dB rfl,cond_true,aY];by_cases h3:0<(ahw t a p q (eU t a p q).1).length
   ·rw[if_pos (by simp only;omega),if_pos h3];rfl
   ·rw[if_neg (by simp only;omega),if_neg h3]
  ·rw[if_neg h2,if_pos h2];rfl)]
end
structure aJx(t:Types):Prop where
 attrs:∀n∈t.nodes,n.attrs.length<=1125899906842624
theorem aki{α O:Type}{Q:O->Prop}{f:Nat->Unit->(Unit->Option O)->(Unit->Option O)->Option O}{K:Unit->Option O}(l:List α)(p:α->Prop)
  (hr:∀j (cH:Unit->Option O) (hj:j<l.length),(p l[j]->Ok (cH ()) Q)->Ok (f j () cH K) Q) (he:(∀x∈l,p x)->Ok (K ()) Q):Ok (cr f (l.length-0) 0 () K) Q:=by
 refine sB (λj _=>∀i (h:i<l.length),i<j->p l[i]) (zero_le _) (λi _ h=>absurd h (not_lt_zero i)) (λj s cH _ hj hq hn=>?_) (λs hq=>?_)
 ·refine hr j cH hj λhp=>hn () λi h hi=>?_
  rcases Nat.lt_succ_iff_lt_or_eq.1 hi with h'|h'
  ·exact hq i h h'
  ·subst h';exact hp
 ·refine he λx hx=>?_
  obtain⟨i,hi,rfl⟩:=mem_iff_getElem.1 hx;exact hq i hi hi
structure aJy(x:az):Prop where
 nodes:x.nodes.length<=1125899906842624
 ak:x.ak.length<=1125899906842624
structure Fit3(t:Types)(x:bV):Prop where
 t:aJx t
 a:aJy x.a
theorem azY{l:List aG}(h:l.length<=1000000):iH l l=some true:=by refine Ok.eq ?_;unfold iH;refine af8 (dB rfl) (cC (bB (by omega)) ?_);refine aki l (λ_=>True) (λi cH hi hn=>?_) (λ_=>.mk rfl);exact tK hi (tK hi (af8 (by simp) (hn trivial)))
theorem aeu{l:List Int}(h:l.length<=1000000):gO l l=some true:=by refine Ok.eq ?_;unfold gO;refine af8 (dB rfl) (cC (bB (by omega)) ?_);refine aki l (λ_=>True) (λi cH hi hn=>?_) (λ_=>.mk rfl);exact tK hi (tK hi (af8 (by simp) (hn trivial)))
section
variable{t:Types}{a:az}{p q:aF}
end
theorem aqq{l:List ah}(h:iJ ah.id l):kF l=l:=(adM h.ye).ext h λ_=>nI
theorem aqr{l:List ax}(h:iJ ax.id l):mR l=l:=(adN h.ye).ext h λ_=>uE
theorem yq{a:az}{p:aF}(h1:iJ ah.id (iZ a p++p.aM))(h2:iJ ax.id (kO a p++p.aK)):bu a p=c9 (iZ a p++p.aM) (kO a p++p.aK) p.next.x1:=by unfold bu;rw[aqq h1,aqr h2]
def exT:Types:=(ij).get rfl
theorem aDV:ij=some exT:=rfl
theorem aCT:fm exT:=by constructor<;>decide +kernel
def exB:az:=(hU).get rfl
theorem azZ:hU=some exB:=rfl
def oc:aF:=⟨[⟨1,1,[10]⟩],[⟨3,0,0,1⟩],[],[],[],⟨5,5⟩⟩
def rL:aF:=⟨[],[],[],[⟨5,1,1,2⟩],[],⟨5,6⟩⟩
def exR:aF:=⟨[],[],[],[],[⟨2,0,5,7⟩],⟨5,5⟩⟩
theorem arp:kN exB:=⟨⟨⟨by decide,by decide⟩,by decide,by decide⟩,by decide,by decide⟩
theorem aqs:fD exT exB:=dU.1 (by decide +kernel)
theorem arq:ir oc:=by constructor<;>decide
theorem aiz:bu exB oc=c9 (iZ exB oc++oc.aM) (kO exB oc++oc.aK) oc.next.x1:=yq (by decide +kernel) (by decide +kernel)
theorem ars:b5 exT exB oc:=⟨aqs,by constructor<;>decide,by constructor<;>decide,by decide,by decide +kernel,by decide +kernel,by decide +kernel,by decide +kernel,by rw[aiz];exact dU.1 (by decide +kernel)⟩
theorem aiA:vj oc:=by constructor<;>decide
theorem aCg:ir rL:=by constructor<;>decide
theorem avd:bu exB rL=c9 (iZ exB rL++rL.aM) (kO exB rL++rL.aK) rL.next.x1:=yq (by decide +kernel) (by decide +kernel)
theorem aCh:b5 exT exB rL:=⟨aqs,by constructor<;>decide,by constructor<;>decide,by decide,by decide +kernel,by decide +kernel,by decide +kernel,by decide +kernel,by rw[avd];exact dU.1 (by decide +kernel)⟩
theorem ave:vj rL:=by constructor<;>decide
theorem aCi:ir exR:=by constructor<;>decide
theorem aiB:bu exB exR=c9 (iZ exB exR++exR.aM) (kO exB exR++exR.aK) exR.next.x1:=yq (by decide +kernel) (by decide +kernel)
theorem aCj:b5 exT exB exR:=⟨aqs,by constructor<;>decide,by constructor<;>decide,by decide,by decide +kernel,by decide +kernel,by decide +kernel,by decide +kernel,by rw[aiB];exact dU.1 (by decide +kernel)⟩
theorem avf:vj exR:=by constructor<;>decide
theorem aJz:p7 exT exB oc rL:=⟨ars,aCh,aiA,ave,by decide⟩
theorem aF0:p7 exT exB oc exR:=⟨ars,aCj,aiA,avf,by decide⟩
theorem avg:qv exB oc rL=[⟨1,1,-1⟩]:=by kernel_rfl
theorem avh:qv exB oc exR=[]:=by kernel_rfl
theorem aqt:qa exT exB oc rL=([⟨1,1,-1⟩],0):=by unfold qa;rw[if_neg (λh=>h (mW.2 aJz)),avg];rfl
def exX:az:=⟨⟨⟨[3,1],[⟨0,0,1⟩]⟩,[[],[5]]⟩,[0,2],[4],5⟩
theorem az0:bu exB oc=exX:=by rw[aiz];kernel_rfl
def exY:az:=⟨⟨⟨[3,1],[⟨0,0,1⟩]⟩,[[],[7]]⟩,[0,2],[4],5⟩
theorem az1:bu exX (cU oc exR)=exY:=by rw[yq (by decide +kernel) (by decide +kernel)];kernel_rfl
theorem aCk:b5 exT exX (cU oc exR):=⟨dU.1 (by decide +kernel),by constructor<;>decide,by constructor<;>decide +kernel,by decide +kernel,by decide +kernel,by decide +kernel,by decide +kernel,by decide +kernel,by rw[az1];exact dU.1 (by decide +kernel)⟩
theorem ana:eU exT exB oc exR=(exY,0):=by unfold eU tooMany;rw[az0,if_neg (by decide +kernel),qu aCk,az1]
theorem aqu:jx exB oc exR=⟨⟨⟨[3,1,1],[⟨0,0,1⟩,⟨0,0,2⟩]⟩,[[],[10],[7]]⟩,[0,1,2],[3,4],5⟩:=by rw[(ad0 aF0).1,aiB];kernel_rfl
theorem az2:ahw exT exB oc exR exY=[]:=by unfold ahw;rw[az0,aqu];kernel_rfl
theorem aqv:akg exT exB oc exR=(exY,0):=by unfold akg vX;rw[if_neg (λh=>h (mW.2 aF0)),avh,ana,az2];rfl
theorem agN:fB=some true:=by unfold fB;rw[aT aDV,aT azZ];show thn (gx exT exB oc rL) _=_;rw[aT (show gx exT exB oc rL=_ from aah aCT arp arq aCg),aqt];rw[aT azZ];show thn (lG exT exB oc exR) _=_;rw[aT (show lG exT exB oc exR=_ from aCf aCT arp arq aCi),aqv];rw[dB rfl,cond_true,aT (azY (by simp)),cond_true,cond_true];show thn (gO [0,2] [0,2]) _=_;rw[aT (aeu (by simp))];show thn (gO [7] [7]) (λr=>some r)=_;rw[aT (aeu (by simp))]
theorem aiC{σ O:Type}{f:Nat->σ->(σ->Option O)->(σ->Option O)->Option O}{K:σ->Option O}{bad:Option O}(n:Nat)(ok:Nat->Bool)(step:σ->Nat->σ)(inv:Nat->σ->Prop)
  (h:∀i s,i<n->inv i s->(ok i=true->inv (i+1) (step s i))/\∀cH,f i s cH K=cond (ok i) (cH (step s i)) bad):∀ (k i:Nat) (s:σ),i+k=n->inv i s ->
  cr f k i s K=cond ((range' i k).all ok) (K ((range' i k).foldl step s)) bad
 |0,i,s,_,_=>rfl
 |k+1,i,s,hk,hi=>by
  obtain⟨h1,h2⟩:=h i s (by omega) hi;rw[cr,h2,range'_succ,all_cons,foldl_cons];cases ho:ok i with
  |false=>rfl
  |true=>rw[Bool.true_and,cond_true];exact aiC n ok step inv h k (i+1) _ (by omega) (h1 ho)
theorem aiD{σ O:Type}{f:Nat->σ->(σ->Option O)->(σ->Option O)->Option O}{K:σ->Option O}{bad:Option O}{s:σ}(n:Nat)(ok:Nat->Bool)(step:σ->Nat->σ)(inv:Nat->σ->Prop)(h0:inv 0 s)
  (h:∀i s,i<n->inv i s->(ok i=true->inv (i+1) (step s i))/\∀cH,f i s cH K=cond (ok i) (cH (step s i)) bad) :
  cr f (n-0) 0 s K=cond ((range n).all ok) (K ((range n).foldl step s)) bad:=by
 rw[aiC n ok step inv h (n-0) 0 s (by omega) h0,Nat.sub_zero,range_eq_range']
theorem aCl{α:Type}{q:α->Bool}{l:List α}(h:0<=z7 q l):(z7 q l).toNat<l.length:=by
 unfold z7 at *;cases hf:l.findIdx? q with
 |none=>rw[hf] at h;exact absurd h (by decide)
 |some i=>obtain⟨hi,_⟩:=findIdx?_eq_some_iff_getElem.1 hf;simpa using hi
def abE(ids:List Int)(n:Int):Bool:=decide (cu ids n<0)
def aiE(a b:az):List ah:=((range a.nodes.length).filter λi=>abE b.nodes (cK a i).id).map (cK a)
def anb(a b:az):List ax:=((range a.ak.length).filter λi=>abE b.ak (gP a i).id).map (gP a)
def okN(a b:az)(i:Nat):Bool:=!decide (0<=cu b.ak (cK a i).id)&&(!decide (0<=cu b.nodes (cK a i).id)||decide ((cK b (cu b.nodes (cK a i).id).toNat).type=(cK a i).type))
def okD(a b:az)(i:Nat):Bool:=!decide (0<=cu b.nodes (gP a i).id)&&(!decide (0<=cu b.ak (gP a i).id)||ql (gP b (cu b.ak (gP a i).id).toNat) (gP a i))
def aqw(id:Int)(l m:List Int)(k:Nat):List aO:=if l.getD k default=m.getD k default then [] else [⟨id,(k:Int),l.getD k default,m.getD k default⟩]
def az3(a b:az)(i:Nat):List aO:=(range (cK a i).values.length).flatMap (aqw (cK a i).id (cK a i).values (cK b (cu b.nodes (cK a i).id).toNat).values)
def az4(a b:az):List aO:=((range a.nodes.length).filter λi=>!abE b.nodes (cK a i).id).flatMap (az3 a b)
def aa0:aF:=⟨[],[],[],[],[],⟨0,0⟩⟩
def ad1(a b:az):Bool:=(range a.nodes.length).all (okN a b)&&(range a.ak.length).all (okD a b)
def aiF(a b:az):aF×Bool:=if ad1 a b=true then (⟨aiE a b,anb a b,aiE b a,anb b a,az4 a b,⟨a.next,b.next⟩⟩,true) else (aa0,false)
def aiG(t:Types)(a b:az):aF×Int :=
 if nr t a≠0 then (aa0,nr t a)
 else if nr t b≠0 then (aa0,nr t b)
 else if ad1 a b=true then ((aiF a b).1,0) else (aa0,11)
section
variable{t:Types}{a b:az}
theorem qw{ids:List Int}{n:Int}(h:0<=cu ids n):(cu ids n).toNat<ids.length:=aCl h
theorem az5(ha:fD t a)(hb:fD t b){i j:Nat}(hi:i<a.nodes.length)(hj:j<b.nodes.length)(he:(cK b j).type=(cK a i).type):(cK b j).values.length=(cK a i).values.length:=by
 have key:∀ {x:az},fD t x->∀ {k:Nat},k<x.nodes.length->(cK x k).values.length=(bg t (cK x k).type.toNat).length:=λ{x} hx {k} hk=>by
  have:=hx.host.node k (by rw[<-hx.uc];exact hk);unfold kZ at this;split at this
  ·cases this
  ·split at this
   ·cases this
   ·split at this
    ·cases this
    ·rename_i h;exact Decidable.of_not_not h
 rw[key ha hi,key hb hj,he]
theorem ane(h:fD t a)(hb:tT a.host){i:Nat}(hi:i<a.nodes.length):(cK a i).values.length<=1000:=jm h hb _ (mem_map.2 ⟨i,mem_range.2 hi,rfl⟩)
theorem az6(id:Int)(l m:List Int)(k:Nat):(aqw id l m k).length<=1:=by unfold aqw;split<;>simp
theorem anf(h:fD t a)(hb:tT a.host){i:Nat}(hi:i<a.nodes.length):(az3 a b i).length<=1000:=by
 have:=ane h hb hi;unfold az3;have key:∀l:List Nat,(l.flatMap (aqw (cK a i).id (cK a i).values (cK b (cu b.nodes (cK a i).id).toNat).values)).length<=l.length:=λl=>by
  induction l with
  |nil=>simp
  |cons x r ih=>have h1:=az6 (cK a i).id (cK a i).values (cK b (cu b.nodes (cK a i).id).toNat).values x;rw[flatMap_cons,length_append,length_cons];omega
 have:=key (range (cK a i).values.length);rw[length_range] at this;omega
end
section
variable{t:Types}{a b:az}
theorem ae4{a:az}{i:Nat}(h:i<a.nodes.length):(cK a i).id=a.nodes[i]:=by unfold cK;simp[h]
theorem art{a:az}{i:Nat}(h:i<a.ak.length):(gP a i).id=a.ak[i]:=by unfold gP;simp[h]
theorem aiH(ha:fD t a)(hb:fD t b)(ba:kN a):fK a b=some (aiE a b,anb a b):=by
 have n1:=ha.n40;have n2:=ha.e80;have n3:=hb.n40;have n4:=hb.e80;have r1:∀l∈a.host.values,l.length<=1000000:=λl hl=>le_trans (ba.host.row l hl) (by decide)
 unfold fK;rw[bC (bB (by omega)),nL a.nodes.length (λi=>if abE b.nodes (cK a i).id=true then [cK a i] else []) 1 (λi _=>by split<;>simp) λi hi s hs cH=>by
  rw[length_nil] at hs;rw[ck hi,aT (dm (by omega) _),aT (azy ha hi r1),bC (by omega),<-ae4 hi];show cond (abE b.nodes (cK a i).id) _ _=_;cases abE b.nodes (cK a i).id
  ·simp
  ·simp]
 rw[nil_append,lI,bC (bB (by omega)),nL a.ak.length (λi=>if abE b.ak (gP a i).id=true then [gP a i] else []) 1 (λi _=>by split<;>simp) λi hi s hs cH=>by
  rw[length_nil] at hs;rw[ck hi,aT (dm (by omega) _),aT (akb ha hi),bC (by omega),<-art hi];show cond (abE b.ak (gP a i).id) _ _=_;cases abE b.ak (gP a i).id
  ·simp
  ·simp]
 rw[nil_append,lI];rfl
theorem aCm(ha:fD t a)(hb:fD t b):iU a b=some (ad1 a b):=by
 have n1:=ha.n40;have n2:=ha.e80;have n3:=hb.n40;have n4:=hb.e80;unfold iU ad1;rw[bC (bB (by omega)),aiD (bad:=some false) a.nodes.length (okN a b) (λs _=>s) (λ_ _=>True) trivial λi s hi hs=>⟨λ_=>trivial,λcH=>by
  have h1:i<a.host.graph.nodes.length:=by rw[<-ha.uc];exact hi
  rw[ck hi,aT (dm (by omega) _),aT (dm (by omega) _),<-ae4 hi];show cond (decide (0<=cu b.ak (cK a i).id)) _ (cond (decide (0<=cu b.nodes (cK a i).id)) (thn a.host.graph.nodes[i]? λaKB=>thn (nO b.host.graph.nodes (cu b.nodes (cK a i).id)) _) _)=_;unfold okN;by_cases c1:0<=cu b.ak (cK a i).id
  ·rw[dB c1,cond_true];rfl
  rw[gf c1,cond_false,Bool.not_false,Bool.true_and];by_cases c2:0<=cu b.nodes (cK a i).id
  ·have hj:=qw c2;have hj':(cu b.nodes (cK a i).id).toNat<b.host.graph.nodes.length:=by rw[<-hb.uc];exact hj
   rw[dB c2,cond_true,ck h1,gD c2 hj',Bool.not_true,Bool.false_or];have e1:(cK a i).type=a.host.graph.nodes[i]:=by unfold cK;simp[h1]
   have e2:(cK b (cu b.nodes (cK a i).id).toNat).type=b.host.graph.nodes[(cu b.nodes (cK a i).id).toNat]:=by show b.host.graph.nodes.getD _ default=_;simp[hj']
   rw[e1,e2];by_cases c4:a.host.graph.nodes[i]=b.host.graph.nodes[(cu b.nodes (cK a i).id).toNat]
   ·rw[dB c4,dB c4.symm]
   ·rw[gf c4,gf λh=>c4 h.symm]
  ·rw[gf c2,cond_false,Bool.not_false,Bool.true_or,cond_true]⟩]
 cases hN:(range a.nodes.length).all (okN a b) with
 |false=>rfl
 |true =>
 rw[cond_true,bC (bB (by omega)),aiD (bad:=some false) a.ak.length (okD a b) (λs _=>s) (λ_ _=>True) trivial λi s hi hs=>⟨λ_=>trivial,λcH=>by
  rw[ck hi,aT (dm (by omega) _),aT (dm (by omega) _),<-art hi];show cond (decide (0<=cu b.nodes (gP a i).id)) _ (cond (decide (0<=cu b.ak (gP a i).id)) (thn (dH a i) λaKC=>thn (dH b (cu b.ak (gP a i).id)) _) _)=_;unfold okD;by_cases c1:0<=cu b.nodes (gP a i).id
  ·rw[dB c1,cond_true];rfl
  rw[gf c1,cond_false,Bool.not_false,Bool.true_and];by_cases c2:0<=cu b.ak (gP a i).id
  ·have hj:=qw c2;have aCU:=akb hb hj;rw[show (((cu b.ak (gP a i).id).toNat:Nat):Int)=cu b.ak (gP a i).id by omega] at aCU;rw[dB c2,cond_true,aT (akb ha hi),aT aCU,Bool.not_true,Bool.false_or];have:(decide ((gP a i).id=(gP b (cu b.ak (gP a i).id).toNat).id)&&(decide ((gP a i).type=(gP b (cu b.ak (gP a i).id).toNat).type)&&(decide ((gP a i).src=(gP b (cu b.ak (gP a i).id).toNat).src)&&decide ((gP a i).dst=(gP b (cu b.ak (gP a i).id).toNat).dst))))=ql (gP b (cu b.ak (gP a i).id).toNat) (gP a i):=by unfold ql;simp only[eq_comm]
   rw[this]
  ·rw[gf c2,cond_false,Bool.not_false,Bool.true_or,cond_true]⟩]
 cases (range a.ak.length).all (okD a b)<;>rfl
theorem ad2{O:Type}(id:Int)(l m:List Int)(hm:m.length=l.length)(hl:l.length<=1000000){f:Int×List aO->(Int×List aO->Option O)->(Int×List aO->Option O)->Option O}{K:Int×List aO->Option O}
  (h:∀k s cH,(hk:k<l.length)->(hk2:k<m.length)->s.length<=2000000->f ((k:Int),s) cH K=cond (decide (l[k]=m[k])) (cH (i64.wrap ((k:Int)+1),s)) (cH (i64.wrap ((k:Int)+1),s++[⟨id,(k:Int),l[k],m[k]⟩]))) (he:∀s cH,f ((l.length:Int),s) cH K=K ((l.length:Int),s)) :
  ∀ (d k:Nat) (s:List aO) (n:Nat),k+d=l.length->d<n->s.length<=1000000+k->iter f n ((k:Int),s) K=K ((l.length:Int),s++(range' k d).flatMap (aqw id l m))
 |0,k,s,n,hd,hn,hs=>by
  obtain⟨n,rfl⟩:∃j,n=j+1:=⟨n-1,by omega⟩;rw[iter];obtain rfl:k=l.length:=by omega
  rw[he];simp
 |d+1,k,s,n,hd,hn,hs=>by
  obtain⟨n,rfl⟩:∃j,n=j+1:=⟨n-1,by omega⟩;have hk:k<l.length:=by omega
  rw[iter,h k s _ hk (by omega) (by omega),dA (by omega),aY,range'_succ,flatMap_cons];have e1:l.getD k default=l[k]:=by simp[hk]
  have e2:m.getD k default=m[k]'(by omega):=by simp[show k<m.length by omega]
  have hv:aqw id l m k=if l[k]=m[k]'(by omega) then [] else [⟨id,(k:Int),l[k],m[k]'(by omega)⟩]:=by unfold aqw;rw[e1,e2]
  rw[hv,show ((k:Int)+1)=((k+1:Nat):Int) by omega];split
  ·rw[ad2 id l m hm hl h he d (k+1) _ n (by omega) (by omega) (by omega),nil_append]
  ·rw[ad2 id l m hm hl h he d (k+1) _ n (by omega) (by omega) (by rw[length_append,length_singleton];omega),append_assoc]
theorem aiI{α β:Type}(b:α->Bool)(g:α->List β):∀l:List α,l.flatMap (λa=>if b a=true then [] else g a)=(l.filter λa=>!b a).flatMap g
 | []=>rfl
 |a :: r=>by rw[flatMap_cons,aiI b g r,filter_cons];cases b a<;>simp
theorem az7(hall:(range a.nodes.length).all (okN a b)=true){i:Nat}(hi:i<a.nodes.length)(c2:0<=cu b.nodes (cK a i).id):(cK b (cu b.nodes (cK a i).id).toNat).type=(cK a i).type:=by have:=all_eq_true.1 hall i (mem_range.2 hi);unfold okN at this;rw[dB c2,Bool.not_true,Bool.false_or,and_eq_true] at this;exact ct this.2
theorem aDW(ha:fD t a)(hb:fD t b)(ba:kN a)(bb:kN b):jg a b=some (aiF a b):=by
  have n1:=ha.n40;have n2:=ha.e80;have n3:=hb.n40;have n4:=hb.e80;unfold jg aiF;rw[aT (aCm ha hb)];cases hg:ad1 a b with
  |false=>rw[cond_false];rfl
  |true =>
  have hN:(range a.nodes.length).all (okN a b)=true:=by unfold ad1 at hg;rw[and_eq_true] at hg;exact hg.1
  rw[cond_true,aT (aiH ha hb ba),aT (aiH hb ha bb),bC (bB (by omega)),if_pos rfl];rw[nL a.nodes.length (λi=>if abE b.nodes (cK a i).id=true then [] else az3 a b i) 1000 (λi hi=>by
    have:=anf (b:=b) ha ba.host hi;split
    · simp
    · exact this) λi hi s hs cH=>by
    rw[length_nil] at hs;have h2:i<a.host.values.length:=by rw[ha.host.agr,<-ha.uc];exact hi
    have hrow:=ane ha ba.host hi;rw[ck hi,aT (dm (by omega) _),<-ae4 hi];show cond (abE b.nodes (cK a i).id) _ (iter _ fuel (0,s) _)=_;by_cases c2:0<=cu b.nodes (cK a i).id
    · have ho:abE b.nodes (cK a i).id=false:=gf (by omega);have hj:=qw c2;have hj2:(cu b.nodes (cK a i).id).toNat<b.host.values.length:=by rw[hb.host.agr,<-hb.uc];exact hj
      have hty:=az7 hN hi c2;have hl:=az5 ha hb hi hj hty;have e1:a.host.values[i]=(cK a i).values:=by unfold cK;simp[h2]
      have e2:b.host.values[(cu b.nodes (cK a i).id).toNat]=(cK b (cu b.nodes (cK a i).id).toNat).values:=by show _=b.host.values.getD _ default;simp[hj2]
      rw[ho,cond_false,if_neg (by decide)];have:=ad2 (O:=aF×Bool) (cK a i).id (cK a i).values _ hl (by omega) (K:=λxD=>cH xD.2) (f:=λ(xD:Int×(List aO)) ang az8 =>
    thn (a.host.values[i]?) λaCV =>
    cond (decide (xD.1<((aCV.length:Nat):Int))) (
     thn (nO aCV xD.1) λaCW =>
     thn (nO b.host.values (cu b.nodes (cK a i).id)) λaF1 =>
     thn (nO aF1 xD.1) λaCX =>
     cond (decide (aCW=aCX)) (
      ang ((i64.wrap (xD.1+1)),xD.2)) <|
     cT (xD.2.length+1<=68719476736) <|
     ang ((i64.wrap (xD.1+1)),(xD.2++[(⟨(cK a i).id,xD.1,aCW,aCX⟩:aO)]))) <|
    az8 (xD.1, xD.2)) (fun k s' aJA hk hk2 hs' => by
        dsimp only;rw[ck h2,e1,dB (by omega),cond_true,gD (by omega) (by simpa using hk),gD c2 hj2,e2,gD (by omega) (by simpa using hk2),bC (by omega)];rfl) (λs' aJA=>by
        dsimp only;rw[ck h2,e1,gf (by omega),cond_false]) (cK a i).values.length 0 s fuel (by omega) (by unfold fuel;omega) (by omega)
      rw[<-range_eq_range'] at this;exact this
    · have ho:abE b.nodes (cK a i).id=true:=dB (by omega);rw[ho,cond_true,if_pos rfl,append_nil]]
  rw[nil_append,aiI];rfl
theorem aru(ht:fm t)(ba:kN a)(bb:kN b):gY t a b=some (aiG t a b):=by
 unfold gY aiG;rw[aT (show b9 t a=_ from mG ht ba),aY];by_cases h1:nr t a=0;rotate_left
 ·rw[if_neg h1,if_pos h1];rfl
 rw[if_pos h1,if_neg (λh=>h h1),aT (show b9 t b=_ from mG ht bb),aY];by_cases h2:nr t b=0;rotate_left
 ·rw[if_neg h2,if_pos h2];rfl
 rw[if_pos h2,if_neg (λh=>h h2),aT (aDW (dU.1 h1) (dU.1 h2) ba bb)];unfold aiF;split
 ·rfl
 ·rfl
variable{p q:aF}
structure aF2(p:aF):Prop where
 rn:p.au.length<=1000000
 re:p.aC.length<=1000000
 an:p.aM.length<=1000000
 ae:p.aK.length<=1000000
 va:p.values.length<=1000000
 rr:∀n∈p.au,n.values.length<=1000000
 ar:∀n∈p.aM,n.values.length<=1000000
theorem ad3:aF2 aa0:=⟨by simp[aa0],by simp[aa0],by simp[aa0],by simp[aa0],by simp[aa0],λn hn=>(by cases hn),λn hn=>(by cases hn)⟩
theorem aaA{n:ah}(h:n∈aiE a b):n∈bD a:=by obtain⟨i,hi,rfl⟩:=mem_map.1 h;exact mem_map.2 ⟨i,(mem_filter.1 hi).1,rfl⟩
theorem aiJ:(aiE a b).length<=a.nodes.length:=by unfold aiE;rw[length_map];exact le_trans (length_filter_le _ _) (by simp)
theorem aiK:(anb a b).length<=a.ak.length:=by unfold anb;rw[length_map];exact le_trans (length_filter_le _ _) (by simp)
theorem anh{α β:Type}(g:α->List β)(k:Nat):∀l:List α,(∀a∈l,(g a).length<=k)->(l.flatMap g).length<=k * l.length
 | [],_=>by simp
 |a :: r,h=>by
  have h1:=h a (mem_cons_self ..);have h2:=anh g k r λx hx=>h x (mem_cons_of_mem _ hx)
  rw[flatMap_cons,length_append,length_cons,Nat.mul_add];omega
theorem avi(ha:fD t a)(ba:kN a):(az4 a b).length<=40000:=by
 have n1:=ha.n40;have:=anh (az3 a b) 1000 ((range a.nodes.length).filter λi=>!abE b.nodes (cK a i).id) λi hi=>anf ha ba.host (mem_range.1 (mem_filter.1 hi).1)
 have h2:=length_filter_le (λi=>!abE b.nodes (cK a i).id) (range a.nodes.length);rw[length_range] at h2;unfold az4;omega
theorem avj(ba:kN a)(bb:kN b):aF2 (aiG t a b).1:=by
 unfold aiG;split
 ·exact ad3
 rename_i h1;split
 ·exact ad3
 rename_i h2;have ha:=dU.1 (Decidable.of_not_not h1);have hb:=dU.1 (Decidable.of_not_not h2);have n1:=ha.n40;have n2:=ha.e80;have n3:=hb.n40;have n4:=hb.e80;split
 ·rename_i h3;unfold aiF;rw[if_pos h3];have l1:=@aiJ a b;have l2:=@aiK a b;have l3:=@aiJ b a;have l4:=@aiK b a;have l5:=avi (b:=b) ha ba;refine ⟨?_,?_,?_,?_,?_,λn hn=>le_trans (jm ha ba.host n (aaA hn)) (by decide),λn hn=>le_trans (jm hb bb.host n (aaA hn)) (by decide)⟩<;>dsimp only<;>omega
 ·exact ad3
end
section
variable{t:Types}{a b:az}
theorem agO{ids:List Int}{n:Int}(h:0<=cu ids n):ids[(cu ids n).toNat]? = some n:=by
 unfold cu z7 at *;cases hf:ids.findIdx? λy=>decide (y=n) with
 |none=>rw[hf] at h;exact absurd h (by decide)
 |some i=>obtain⟨hi,h1,_⟩:=findIdx?_eq_some_iff_getElem.1 hf;show ids[((i:Nat):Int).toNat]? = some n;rw[toNat_natCast,getElem?_eq_getElem hi,ct h1]
theorem aiL{ids:List Int}{n:Int}(h:0<=cu ids n):ids[(cu ids n).toNat]'(qw h)=n:=by have:=agO h;rw[getElem?_eq_getElem (qw h)] at this;exact Option.some.inj this
theorem aCn(h:fD t b){n:Int}(h0:0<=cu b.nodes n):(cK b (cu b.nodes n).toNat).id=n:=by rw[ae4 (qw h0)];exact aiL h0
theorem uH{i:Nat}(h:i<a.nodes.length):cK a i∈bD a:=mem_map.2 ⟨i,mem_range.2 h,rfl⟩
theorem aiM{i:Nat}(h:i<a.ak.length):gP a i∈dI a:=mem_map.2 ⟨i,mem_range.2 h,rfl⟩
theorem aiN{i:Nat}(h:kK t i=0):(bg t i).length<=8:=by
 unfold kK at h;split at h
 ·cases h
 split at h
 ·cases h
 split at h
 ·cases h
 split at h
 ·cases h
 split at h
 ·cases h
 ·omega
theorem take_set{l m:List Int}{k:Nat}(hk:k<l.length)(hm:k<m.length):(m.take k++l.drop k).set k m[k]=m.take (k+1)++l.drop (k+1):=by rw[set_append,if_neg (by rw[length_take];omega),length_take,Nat.min_eq_left (by omega),Nat.sub_self,drop_eq_getElem_cons hk,set_cons_zero,take_succ_eq_append_getElem hm,append_assoc];rfl
theorem aqx{l:List ah}{m:List ax}{n:Int} : j6 l m n=true↔(∃x∈l,x.id=n)\/∃x∈m,x.id=n:=by unfold j6;rw[or_eq_true,any_eq_true,any_eq_true];simp only[decide_eq_true_eq]
end
theorem az9{α:Type}{q:α->α->Bool}{l:List α} : less q l []=l:=by unfold less;exact filter_eq_self.2 λ_ _=>rfl
section
variable{t:Types}{a:az}{p:aF}
theorem abF{α:Type}{f:α->Int}{q:α->α->Bool}(hq:∀a b,q a b=true↔a=b):∀ (r l:List α),iJ f l->r.Pairwise (λa b=>f a≠f b)->jK q l r=true->(less q l r).length+r.length=l.length
 | [],l,_,_,_=>by rw[az9];rfl
 |n :: r,l,hl,hr,hi=>by
  obtain⟨hr1,hr2⟩:=pairwise_cons.1 hr;have hm:n∈l:=adR hq hi n (mem_cons_self ..);obtain⟨s1,s2⟩:=adK (f:=f) hq (l:=l) (r:=r) (n:=n) hr1;have hi2:jK q l r=true:=by unfold jK at hi ⊢;rw[all_cons,and_eq_true] at hi;exact hi.2
  have e:=abF hq r (l.filter λm=>!q m n) (hl.sub filter_sublist) hr2 (s1.trans hi2);rw[s2] at e;obtain⟨i,ri,hin⟩:=getElem_of_mem hm;have e2:=erase_filter hq hl ri hin;have e3:=congrArg length e2;rw[length_append,length_take,length_drop] at e3;rw[length_cons];omega
end
def upS:ByteArray:=⟨#[65,66,67,68,69,70]⟩
def agP:ByteArray:=⟨#[117,118,119,120,121,122]⟩
def akj:ByteArray:=⟨#[101,102,103,104,105]⟩
def aAa:List ByteArray:=[⟨#[111,102,102]⟩,⟨#[111,110]⟩]
structure aa1(i:Nat)(x:Attr):Prop where
 name:x.name=agP.extract i (i+1)
 how:(x.names=[]/\x.low = -3/\3<=x.high/\x.high<=11)\/(x.names=aAa/\x.low=0/\x.high=1)
structure aa2(i:Nat)(n:gT):Prop where
 name:n.name=upS.extract i (i+1)
 par : -1<=n.parent/\n.parent<i
 attrs:n.attrs=[]\/∃x,aa1 i x/\n.attrs=[x]
structure ani(n i:Nat)(e:l8):Prop where
 name:e.name=akj.extract i (i+1)
 src:0<=e.src/\e.src<n
 dst:0<=e.dst/\e.dst<n
 bounds:(e.nN=0/\e.j5 = -1)/\e.tH=0/\e.oh = -1
structure oC(t:Types):Prop where
 pos:0<t.nodes.length
 n6:t.nodes.length<=6
 m5:t.ak.length<=5
 node:∀i,i<t.nodes.length->aa2 i (t.nodes.getD i default)
 ia:∀i,i<t.ak.length->ani t.nodes.length i (t.ak.getD i default)
theorem uI{P:Nat->Prop}(h:P 0/\P 1/\P 2/\P 3/\P 4/\P 5){i:Nat}(hi:i<6):P i:=by
 obtain⟨h0,h1,h2,h3,h4,h5⟩:=h
 match i,hi with
 |0,_=>exact h0
 |1,_=>exact h1
 |2,_=>exact h2
 |3,_=>exact h3
 |4,_=>exact h4
 |5,_=>exact h5
theorem abG{P:Nat->Prop}(h:P 0/\P 1/\P 2/\P 3/\P 4){i:Nat}(hi:i<5):P i:=by
 obtain⟨h0,h1,h2,h3,h4⟩:=h
 match i,hi with
 |0,_=>exact h0
 |1,_=>exact h1
 |2,_=>exact h2
 |3,_=>exact h3
 |4,_=>exact h4
theorem aAb{i:Nat}(hi:i<6):lM (upS.extract i (i+1))=true:=uI (P:=λi=>lM (upS.extract i (i+1))=true) (by and_intros<;>kernel_rfl) hi
theorem avk{i:Nat}(hi:i<6):lM (agP.extract i (i+1))=true:=uI (P:=λi=>lM (agP.extract i (i+1))=true) (by and_intros<;>kernel_rfl) hi
theorem avl{i:Nat}(hi:i<5):lM (akj.extract i (i+1))=true:=abG (P:=λi=>lM (akj.extract i (i+1))=true) (by and_intros<;>kernel_rfl) hi
theorem aAc{i:Nat}(hi:i<6):lJ (upS.extract i (i+1)) 0=65+(i:Int):=uI (P:=λi=>lJ (upS.extract i (i+1)) 0=65+(i:Int)) (by and_intros<;>kernel_rfl) hi
theorem arv{i:Nat}(hi:i<6):lJ (agP.extract i (i+1)) 0=117+(i:Int):=uI (P:=λi=>lJ (agP.extract i (i+1)) 0=117+(i:Int)) (by and_intros<;>kernel_rfl) hi
theorem arw{i:Nat}(hi:i<5):lJ (akj.extract i (i+1)) 0=101+(i:Int):=abG (P:=λi=>lJ (akj.extract i (i+1)) 0=101+(i:Int)) (by and_intros<;>kernel_rfl) hi
theorem aAd{i:Nat}(hi:i<6):(upS.extract i (i+1)).size<=40:=uI (P:=λi=>(upS.extract i (i+1)).size<=40) (by decide) hi
theorem avm{i:Nat}(hi:i<6):(agP.extract i (i+1)).size<=40:=uI (P:=λi=>(agP.extract i (i+1)).size<=40) (by decide) hi
theorem avn{i:Nat}(hi:i<5):(akj.extract i (i+1)).size<=40:=abG (P:=λi=>(akj.extract i (i+1)).size<=40) (by decide) hi
theorem aCo{i j:Nat}(hi:i<6)(hj:j<6)(e:upS.extract i (i+1)=upS.extract j (j+1)):i=j:=by have h1:=aAc hi;rw[e,aAc hj] at h1;omega
theorem aAe{i j:Nat}(hi:i<6)(hj:j<6)(e:agP.extract i (i+1)=agP.extract j (j+1)):i=j:=by have h1:=arv hi;rw[e,arv hj] at h1;omega
theorem aAf{i j:Nat}(hi:i<5)(hj:j<5)(e:akj.extract i (i+1)=akj.extract j (j+1)):i=j:=by have h1:=arw hi;rw[e,arw hj] at h1;omega
section
variable{t:Types}
theorem aa2.aai{i:Nat}{n:gT}(h:aa2 i n){x:Attr}(hx:x∈n.attrs):aa1 i x:=by
 rcases h.attrs with e|⟨y,hy,e⟩
 ·rw[e] at hx;cases hx
 ·rw[e] at hx;rcases mem_cons.1 hx with rfl|h
  ·exact hy
  ·cases h
theorem aa2.ad4{i:Nat}{n:gT}(h:aa2 i n):n.attrs.length<=1:=by rcases h.attrs with e|⟨y,hy,e⟩<;>rw[e]<;>simp
theorem anj{s:ByteArray}(h:s∈aAa):s.size<=40:=by
 unfold aAa at h;rcases mem_cons.1 h with rfl|h
 ·decide
 rcases mem_cons.1 h with rfl|h
 ·decide
 ·cases h
theorem aa1.arx{i:Nat}{x:Attr}(h:aa1 i x):x.names.length<=25/\∀s∈x.names,s.size<=40:=by
 rcases h.how with ⟨e,_⟩|⟨e,_⟩
 ·rw[e];exact⟨by simp,λs hs=>(by cases hs)⟩
 ·rw[e];exact⟨by decide,λs hs=>anj hs⟩
theorem oC.mem(h:oC t){n:gT}(hn:n∈t.nodes):∃i,i<6/\aa2 i n:=by
 obtain⟨i,hi,e⟩:=getElem_of_mem hn;have h1:=h.node i hi;have e2:t.nodes.getD i default=t.nodes[i]:=by simp[hi]
 rw[e2,e] at h1;have:=h.n6;exact⟨i,by omega,h1⟩
theorem oC.aJB(h:oC t){n:l8}(hn:n∈t.ak):∃i,i<5/\ani t.nodes.length i n:=by
 obtain⟨i,hi,e⟩:=getElem_of_mem hn;have h1:=h.ia i hi;have e2:t.ak.getD i default=t.ak[i]:=by simp[hi]
 rw[e2,e] at h1;have:=h.m5;exact⟨i,by omega,h1⟩
theorem oC.xJ(h:oC t):fm t where
 nodes:=by have:=h.n6;omega
 ak:=by have:=h.m5;omega
 attrs:=λn hn=>by obtain⟨i,_,h1⟩:=h.mem hn;have:=h1.ad4;omega
 name:=λn hn=>by obtain⟨i,hi,h1⟩:=h.mem hn;rw[h1.name];exact aAd hi
 aCC:=λn hn a ha=>by obtain⟨i,hi,h1⟩:=h.mem hn;rw[(h1.aai ha).name];exact avm hi
 names:=λn hn a ha=>by obtain⟨i,hi,h1⟩:=h.mem hn;exact (h1.aai ha).arx.1
 word:=λn hn a ha=>by obtain⟨i,hi,h1⟩:=h.mem hn;exact (h1.aai ha).arx.2
 axN:=λe he=>by obtain⟨i,hi,h1⟩:=h.aJB he;rw[h1.name];exact avn hi
theorem oC.par(h:oC t){n:Nat}(hn:n<=t.nodes.length):qH t n:=λj hj=>(h.node j (by omega)).par
theorem vY(h:oC t):∀ (k a:Nat),a<t.nodes.length->(∀x∈o7 t k a,∃j,j<=a/\aa1 j x)/\(o7 t k a).length<=a+1
 |0,a,_=>by unfold o7;exact⟨λx hx=>(by cases hx),by simp⟩
 |k+1,a,ha=>by
  have hn:=h.node a ha;have hl:=hn.ad4;unfold o7;split
  ·rename_i h0;have h2:=hn.par;obtain⟨q1,q2⟩:=vY h k (t.nodes.getD a default).parent.toNat (by omega);refine⟨λx hx=>?_,by rw[length_append];omega⟩;rcases mem_append.1 hx with hx|hx
   ·obtain⟨j,hj,hm⟩:=q1 x hx;exact⟨j,by omega,hm⟩
   ·exact⟨a,Nat.le_refl _,hn.aai hx⟩
  ·exact⟨λx hx=>⟨a,Nat.le_refl _,hn.aai hx⟩,by rw[nil_append];omega⟩
theorem aqy{i:Nat}{x:Attr}(h:aa1 i x):vN x=0:=by
 unfold vN;have hr:abn x=true:=by
  rw[uT];rcases h.how with ⟨e,h1,h2,h3⟩|⟨e,h1,h2⟩
  ·right;rw[e,h1];exact⟨rfl,by decide,by omega,by omega⟩
  ·left;rw[e,h1,h2];exact⟨by decide,rfl,by decide⟩
 have hn:zh x.names=0:=by
  rcases h.how with ⟨e,_⟩|⟨e,_⟩
  ·rw[e];rfl
  ·rw[e];kernel_rfl
 rw[if_neg (by rw[hn];simp),if_pos hr]
theorem avo(h:oC t){i:Nat}(hi:i<t.nodes.length):kK t i=0:=by
 have hn:=h.node i hi;have h6:=h.n6;have hl:=hn.ad4;have hp:=hn.par;unfold kK;have h1:lM (t.nodes.getD i default).name=true:=by rw[hn.name];exact aAb (by omega)
 have h2:¬ (t.nodes.take i).any (λy=>decide (y.name=(t.nodes.getD i default).name))=true:=by
  intro hh;rw[any_eq_true] at hh;obtain⟨y,hy,hq⟩:=hh;obtain⟨j,hj,e⟩:=getElem_of_mem hy;rw[length_take] at hj;rw[getElem_take] at e;have hj2:=h.node j (by omega);have e2:t.nodes.getD j default=t.nodes[j]:=by simp[show j<t.nodes.length by omega]
  rw[e2,e] at hj2;have hq:=ct hq;rw[hj2.name,hn.name] at hq;have:=aCo (by omega) (by omega) hq;omega
 rw[if_neg (by rw[h1];decide),if_neg h2,if_neg (λhh=>hh hp),if_neg (by omega)];obtain⟨_,g2⟩:=vY h (i+1) i hi;have g2:(bg t i).length<=i+1:=g2;rw[if_neg (by omega)];refine qd λk hk1 hk2=>?_
 have hat:=rT (t:=t) (a:=i) (h.par (by omega));have hlen:=congrArg length hat;rw[length_append] at hlen;rcases hn.attrs with e|⟨x,hx,e⟩
 ·rw[e] at hlen hk1;simp only[length_nil] at hlen hk1;omega
 ·rw[e] at hlen hk1 hat;simp only[length_cons,length_nil] at hlen hk1;generalize hP:(if 0<=(t.nodes.getD i default).parent then bg t (t.nodes.getD i default).parent.toNat else [])=P at hat hlen;have hk:k=P.length:=by omega
  subst hk;rw[hat,take_left,show (P++[x]).getD P.length default=x by simp];unfold tI;have hnm:lM x.name=true:=by rw[hx.name];exact avk (by omega)
  have hno:¬ P.any (λy=>decide (y.name=x.name))=true:=by
   intro hh;rw[any_eq_true] at hh;obtain⟨y,hy,hq⟩:=hh;rw[<-hP] at hy;split at hy
   ·rename_i h0;obtain⟨j,hj,hm⟩:=(vY h _ _ (by omega)).1 y hy;have hq:=ct hq;rw[hm.name,hx.name] at hq;have:=aAe (by omega) (by omega) hq;omega
   ·cases hy
  rw[if_neg (by rw[hnm];decide),if_neg hno,aqy hx]
theorem avp(h:oC t){i:Nat}(hi:i<t.ak.length):nV t i=0:=by
 have hn:=h.ia i hi;have h5:=h.m5;unfold nV;have h1:lM (t.ak.getD i default).name=true:=by rw[hn.name];exact avl (by omega)
 have h2:¬ (t.ak.take i).any (λy=>decide (y.name=(t.ak.getD i default).name))=true:=by
  intro hh;rw[any_eq_true] at hh;obtain⟨y,hy,hq⟩:=hh;obtain⟨j,hj,e⟩:=getElem_of_mem hy;rw[length_take] at hj;rw[getElem_take] at e;have hj2:=h.ia j (by omega);have e2:t.ak.getD j default=t.ak[j]:=by simp[show j<t.ak.length by omega]
  rw[e2,e] at hj2;have hq:=ct hq;rw[hj2.name,hn.name] at hq;have:=aAf (by omega) (by omega) hq;omega
 obtain⟨⟨b1,b2⟩,b3,b4⟩:=hn.bounds;rw[if_neg (by rw[h1];decide),if_neg h2,if_pos];rw[b1,b2,b3,b4,xU.2 hn.src,xU.2 hn.dst];decide
theorem oC.valid(h:oC t):(gH t).2=0:=by have h1:=h.pos;have h2:=h.n6;have h3:=h.m5;unfold gH;rw[if_neg (by omega),if_neg (by omega),gG λj _ hj=>avo h hj];dsimp only;rw[gG λj _ hj=>avp h hj]
theorem oC.ok(h:oC t):OkT t:=sA h.xJ h.valid
theorem oC.range(h:oC t){a:Nat}(ha:a<t.nodes.length){x:Attr}(hx:x∈bg t a) : -3<=x.low/\x.low<=x.high/\x.high<=11:=by obtain⟨j,_,hm⟩:=(vY h _ _ ha).1 x hx;rcases hm.how with ⟨_,h1,h2,h3⟩|⟨_,h1,h2⟩<;>omega
end
theorem ac0(N:List ah)(E:List ax)(next:Int):bD (c9 N E next)=N:=by
 unfold bD c9 cK;refine ext_getElem (by simp) λi h1 h2=>?_
 simp[h2]
theorem aaj:∀ (r:List aO) (l:List ah) (n:ah) (k:Nat),n∈l->(∀v∈r,v.id=n.id->v.attr≠(k:Int))->∃m∈(eB l r).1,m.id=n.id/\m.values[k]? = n.values[k]?
 | [],l,n,k,h,_=>⟨n,h,rfl,rfl⟩
 |v :: r,l,n,k,h,hv=>by
  have hm:mF v n∈l.map (mF v):=mem_map_of_mem h;have hk:(mF v n).values[k]? = n.values[k]?:=by
   unfold mF;split
   ·rename_i hf;unfold jy okV at hf;simp only[and_eq_true,not_eq_true',decide_eq_true_eq,decide_eq_false_iff_not] at hf;have h1:=hv v (mem_cons_self ..) hf.1.symm;show (n.values.set v.attr.toNat v.new)[k]? = _;rw[getElem?_set_ne (by omega)]
   ·rfl
  have hr:∀w∈r,w.id=(mF v n).id->w.attr≠(k:Int):=λw hw e=>hv w (mem_cons_of_mem _ hw) (by rw[oN] at e;exact e)
  rw[eB];split
  ·obtain⟨m,h1,h2,h3⟩:=aaj r _ _ k hm hr;exact⟨m,h1,by rw[h2,oN],by rw[h3,hk]⟩
  ·exact⟨_,hm,oN v n,hk⟩
theorem abH:∀ (r:List aO) (l:List ah),r.Pairwise ltV->(eB l r).2=true->∀v∈r,∃m∈(eB l r).1,m.id=v.id/\0<=v.attr/\m.values[v.attr.toNat]? = some v.new
 | [],l,_,_,v,hv=>by cases hv
 |w :: r,l,hp,h,v,hv=>by
  obtain⟨p1,p2⟩:=pairwise_cons.1 hp;rw[eB] at h ⊢;split at h;rotate_left
  ·cases h
  rename_i ha;rw[if_pos ha];rcases mem_cons.1 hv with e|hv
  ·subst e;obtain⟨n,hn,hf⟩:=any_eq_true.1 ha;have hf0:=hf;unfold jy okV at hf;simp only[and_eq_true,not_eq_true',decide_eq_true_eq,decide_eq_false_iff_not] at hf;have he:mF v n={ n with values:=n.values.set v.attr.toNat v.new }:=by unfold mF;rw[if_pos hf0]
   have hm:mF v n∈l.map (mF v):=mem_map_of_mem hn;obtain⟨m,h1,h2,h3⟩:=aaj r _ _ v.attr.toNat hm λx hx e=>by rw[oN] at e;rcases p1 x hx with h4|h4<;>omega
   refine⟨m,h1,by rw[h2,oN];exact hf.1,by omega,?_⟩;rw[h3,he];show (n.values.set v.attr.toNat v.new)[v.attr.toNat]? = _;rw[getElem?_set_self (by omega)]
  ·exact abH r _ p2 h v hv
def agQ(m:az)(l:List aO):Prop:=∀v∈l,∃n∈bD m,n.id=v.id/\0<=v.attr/\n.values[v.attr.toNat]? = some v.new
section
variable{t:Types}{a:az}{p q:aF}
theorem ue:bD (bu a p)=kF (iZ a p++p.aM):=ac0 ..
theorem aev(h:b5 t a p):agQ (bu a p) p.values:=λv hv=>by obtain⟨m,h1,h2⟩:=abH p.values _ h.ord.va h.va v hv;exact⟨m,by rw[ue];exact nI.2 (mem_append_left _ h1),h2⟩
theorem aqz(h:p7 t a p q)(hc:qv a p q=[])(hr:b5 t (bu a p) (cU p q)):agQ (bu (bu a p) (cU p q)) p.values/\agQ (bu (bu a p) (cU p q)) q.values:=by
 obtain⟨c1,_,_,c4⟩:=adW hc h.ap h.aq;have gp:agQ (bu (bu a p) (cU p q)) p.values:=λv hv=>by
  obtain⟨n,h1,h2,h3,h4⟩:=aev h.ap v hv;have hl:n∈less dS (bD (bu a p)) (cU p q).au:=by
   refine mem_filter.2 ⟨h1,?_⟩;rw[not_eq_true',any_eq_false];intro x hx e;have e:=oM.1 e;have hx:n∈(cU p q).au:=by rw[e];exact hx
   have hq:n∈q.au:=(mem_filter.1 hx).1;have:=c1.2 v hv;rw[gy.2 ⟨n,hq,h2⟩] at this;cases this
  obtain⟨m,g1,g2,g3⟩:=aaj (cU p q).values _ n v.attr.toNat hl λw hw e e2=>by obtain⟨_,hw2⟩:=mem_filter.1 hw;rw[not_eq_true',any_eq_false] at hw2;refine hw2 v hv ?_;rw[and_eq_true];exact⟨dB (by omega),dB (by omega)⟩
  exact⟨m,by rw[ue];exact nI.2 (mem_append_left _ g1),by rw[g2,h2],h3,by rw[g3,h4]⟩
 refine⟨gp,λv hv=>?_⟩;cases hb:p.values.any λw=>decide (v.id=w.id)&&decide (v.attr=w.attr) with
 |true=>obtain⟨w,hw,e⟩:=any_eq_true.1 hb;rw[and_eq_true] at e;have e1:=ct e.1;have e2:=ct e.2;obtain⟨n,h1,h2,h3,h4⟩:=gp w hw;rw[e1,e2,<-c4 w hw v hv e1.symm e2.symm];exact⟨n,h1,h2,h3,h4⟩
 |false=>exact aev hr v (mem_filter.2 ⟨hv,by rw[not_eq_true'];exact hb⟩)
end
structure aak(a b:az):Prop where
 next:a.next<=b.next
 node:∀n∈bD b,a.next<=n.id\/∃m∈bD a,m.id=n.id/\m.type=n.type
 ia:∀e∈dI b,a.next<=e.id\/e∈dI a
theorem aak.refl(a:az):aak a a:=⟨le_refl _,λn hn=>.inr ⟨n,hn,rfl,rfl⟩,λe he=>.inr he⟩
theorem aak.trans{a b c:az}(h:aak a b)(k:aak b c):aak a c:=by
 refine⟨le_trans h.next k.next,λn hn=>?_,λe he=>?_⟩
 ·rcases k.node n hn with h1|⟨m,hm,e1,e2⟩
  ·exact .inl (le_trans h.next h1)
  ·rcases h.node m hm with h1|⟨m2,hm2,e3,e4⟩
   ·exact .inl (by rw[<-e1];exact h1)
   ·exact .inr ⟨m2,hm2,e3.trans e1,e4.trans e2⟩
 ·rcases k.ia e he with h1|h1
  ·exact .inl (le_trans h.next h1)
  ·exact h.ia e h1
section
variable{t:Types}{a b:az}
end
section
variable{t:Types}{a:az}{p q:aF}
theorem ac1{N:List ah}{E:List ax}{next:Int}(h:∀e∈E,0<=cu (N.map ah.id) e.src/\0<=cu (N.map ah.id) e.dst):dI (c9 N E next)=E:=by
 unfold dI;refine ext_getElem (by simp[c9]) λi h1 h2=>?_
 obtain⟨k1,k2⟩:=h _ (nS h2);rw[getElem_map,getElem_range];have g:∀n,0<=cu (N.map ah.id) n->(N.map ah.id).getD (cu (N.map ah.id) n).toNat default=n:=λn hn=>by rw[getD_eq_getElem?_getD,agO hn];rfl
 have e1:(E.map ax.id).getD i default=E[i].id:=by simp[h2]
 have e2:(E.map (jL (N.map ah.id))).getD i default=jL (N.map ah.id) E[i]:=by simp[h2]
 show (⟨(E.map ax.id).getD i default,((E.map (jL (N.map ah.id))).getD i default).type,(N.map ah.id).getD ((E.map (jL (N.map ah.id))).getD i default).src.toNat default,(N.map ah.id).getD ((E.map (jL (N.map ah.id))).getD i default).dst.toNat default⟩:ax)=_;rw[e1,e2];unfold jL;rw[g _ k1,g _ k2]
theorem akk(h:fD t (bu a p)):dI (bu a p)=mR (kO a p++p.aK):=by
 refine ac1 λe he=>?_
 obtain⟨i,hi,rfl⟩:=getElem_of_mem he;have hl:(bu a p).host.graph.ak.length=(mR (kO a p++p.aK)).length:=by simp[bu,c9]
 have hE:=h.host.graph.ia i (by omega);have e2:(bu a p).host.graph.ak.getD i default=jL ((kF (iZ a p++p.aM)).map ah.id) (mR (kO a p++p.aK))[i]:=by simp[bu,c9,hi]
 rw[e2] at hE;exact⟨hE.2.1.1,hE.2.2.1⟩
theorem ahr.mem{l m:List ah}(h:ahr l m){n:ah}(hn:n∈l):∃x∈m,x.id=n.id/\x.type=n.type:=by
 have h1:(n.id,n.type,n.values.length)∈l.map λn=>(n.id,n.type,n.values.length):=mem_map_of_mem (f:=λn:ah=>(n.id,n.type,n.values.length)) hn
 rw[show l.map (λn=>(n.id,n.type,n.values.length))=m.map λn=>(n.id,n.type,n.values.length) from h] at h1;obtain⟨x,hx,e⟩:=mem_map.1 h1;simp only[iL] at e;exact⟨x,hx,e.1,e.2.1⟩
theorem agR(h:p7 t a p q):vj (cU p q):=by
 have e0:p.next.x0=q.next.x0:=by rw[h.ap.next,h.aq.next]
 have g1:=h.gq.next
 refine⟨by show p.next.x1<=p.next.x1+q.next.x1-q.next.x0;omega,λn hn=>?_,λn hn=>?_⟩
 ·obtain⟨m,hm,rfl⟩:=mem_map.1 hn;have:=h.gq.n m hm;show p.next.x1<=gi q.next.x0 (p.next.x1-p.next.x0) m.id
  unfold gi;rw[if_pos this];omega
 ·obtain⟨m,hm,rfl⟩:=mem_map.1 hn;have:=h.gq.e m hm;show p.next.x1<=gi q.next.x0 (p.next.x1-p.next.x0) m.id
  unfold gi;rw[if_pos this];omega
end
def OkU(l:List dz):Prop:=∀x∈l,(0<=x.x0/\x.x0<=255)/\(0<=x.x1/\x.x1<=255)
theorem xE{a b:Int}(ha:0<=a)(hb:0<b):0<=a.tmod b/\a.tmod b<b:=⟨Int.tmod_nonneg _ ha,Int.tmod_lt_of_pos _ hb⟩
theorem aF3{a b:Int}(ha:0<=a)(hb:0<b):0<=a.tdiv b/\a.tdiv b<=a:=by rw[Int.tdiv_eq_ediv_of_nonneg ha];exact⟨Int.ediv_nonneg ha (by omega),Int.ediv_le_self _ ha⟩
theorem avq{x:Int}(h:0<=x/\x<=255):3<=i64.wrap (3+(i64.wrap (IntKind.u8.wrap (x.tdiv 4))).tmod 9)/\i64.wrap (3+(i64.wrap (IntKind.u8.wrap (x.tdiv 4))).tmod 9)<=11:=by have h1:=aF3 (b:=4) h.1 (by decide);rw[aDP (by omega),dA (n:=x.tdiv 4) (by omega)];have h2:=xE (b:=9) h1.1 (by decide);rw[dA (by omega)];omega
theorem aqA{i:Nat}{x:Int}(h:0<=x/\x<=255):aa1 i ⟨agP.extract i (i+1),-3,i64.wrap (3+(i64.wrap (IntKind.u8.wrap (x.tdiv 4))).tmod 9),[]⟩:=⟨rfl,.inl ⟨rfl,rfl,avq h⟩⟩
theorem aqB{i:Nat} : aa1 i ⟨agP.extract i (i+1),0,1,[(⟨#[111,102,102]⟩:ByteArray),(⟨#[111,110]⟩:ByteArray)]⟩:=⟨rfl,.inr ⟨rfl,rfl,rfl⟩⟩
theorem aF4{i:Nat}{x:Int}(hi:i<6)(h:0<=x/\x<=255){ab:Bool}{at_:List Attr}(ha:at_=[]\/∃x,aa1 i x/\at_=[x]) :
  aa2 i ⟨upS.extract i (i+1),i64.wrap ((i64.wrap x).tmod ((i:Int)+1)-1),ab,at_⟩:=by
 refine⟨rfl,?_,ha⟩;have:=xE (b:=(i:Int)+1) h.1 (by omega);dsimp only;rw[dA (n:=x) (by omega),dA (by omega)];omega
theorem aiO{α:Type} [Inhabited α]{P:Nat->α->Prop}{l:List α}{x:α}(h:∀i,i<l.length->P i (l.getD i default))(hx:P l.length x):∀i,i<(l++[x]).length->P i ((l++[x]).getD i default):=λi hi=>by
 rw[length_append] at hi;simp only[length_cons,length_nil] at hi;rcases lt_or_ge i l.length with h1|h1
 ·have e:(l++[x]).getD i default=l.getD i default:=by simp[getD_eq_getElem?_getD,getElem?_append_left h1]
  rw[e];exact h i h1
 ·have e1:i=l.length:=by omega
  subst e1;have e:(l++[x]).getD l.length default=x:=by simp
  rw[e];exact hx
theorem aCp{ns es:List dz}(hn:OkU ns)(he:OkU es):Ok (jf ns es) oC:=by
 unfold jf;have s1:(((#[65,66,67,68,69,70]:Array UInt8).size:Nat):Int)=6:=rfl;have s2:(((#[117,118,119,120,121,122]:Array UInt8).size:Nat):Int)=6:=rfl;have s3:(((#[101,102,103,104,105]:Array UInt8).size:Nat):Int)=5:=rfl;refine acN (λs:Int×List gT=>s.1=s.2.length/\s.2.length<=6/\∀i,i<s.2.length->aa2 i (s.2.getD i default))
  (λs=>(0<s.2.length/\s.2.length<=6)/\∀i,i<s.2.length->aa2 i (s.2.getD i default)) (λs=>6-s.2.length) ⟨rfl,by decide,λi hi=>absurd hi (not_lt_zero i)⟩ (by unfold fuel;simp) ?_ ?_
 ·rintro⟨k,l⟩ cH brk ⟨h1,h2,h3⟩ hnx hbr;dsimp only at h1 h2 h3 hnx hbr ⊢;subst h1;have w1:i64.wrap ((l.length:Int)+1)=(l.length:Int)+1:=dA (by omega);have w2:((l.length:Int)+1).toNat=l.length+1:=by omega
  have go : ∀ (x0 x1 : Int) (ab : Bool), (0 ≤ x0 ∧ x0 ≤ 255) → (0 ≤ x1 ∧ x1 ≤ 255) → l.length < 6 → ∀ at_ : List Attr, (at_ = [] ∨ ∃ x, aa1 l.length x ∧ at_ = [x]) →
    Ok (cH ((l.length:Int)+1,l++[⟨upS.extract l.length (l.length+1),i64.wrap ((i64.wrap x0).tmod ((l.length:Int)+1)-1),ab,at_⟩])) oC:=λx0 x1 ab g0 g1 hl at_ has =>
   hnx _ ⟨by simp,by simp;omega,aiO (P:=aa2) h3 (aF4 hl g0 has)⟩ (by simp;omega)
  rw[w1,s1,s2,toNat_natCast,w2];refine cW (λc0=>?_) (λc0=>?_)
  ·have c0:=ct c0;have hl:l.length<6:=by omega
   refine cW (λc1=>?_) (λc1=>?_)
   ·have c1:=ct c1;have hlt:((l.length:Int)).toNat<ns.length:=by omega
    refine nQ (by omega) hlt ?_;obtain⟨q0,q1⟩:=hn _ (nS hlt);generalize ns[((l.length:Int)).toNat]=e at q0 q1 ⊢;refine cC (by omega) (cC (by omega) (cC (by omega) ?_));refine cW (λ_=>cC (by omega) (go _ _ _ q0 q1 hl _ (.inr ⟨_,aqA q1,rfl⟩))) (λ_=>?_);exact cW (λ_=>cC (by omega) (go _ _ _ q0 q1 hl _ (.inr ⟨_,aqB,rfl⟩))) (λ_=>cC (by omega) (go _ _ _ q0 q1 hl _ (.inl rfl)))
   ·have z:(0:Int)<=0/\(0:Int)<=255:=by decide
    refine cC (by omega) (cC (by omega) (cC (by omega) ?_));refine cW (λ_=>cC (by omega) (go _ _ _ z z hl _ (.inr ⟨_,aqA z,rfl⟩))) (λ_=>?_);exact cW (λ_=>cC (by omega) (go _ _ _ z z hl _ (.inr ⟨_,aqB,rfl⟩))) (λ_=>cC (by omega) (go _ _ _ z z hl _ (.inl rfl)))
  ·have c0:=dV c0;have hb:Ok (brk ((l.length:Int),l)) oC:=hbr _ ⟨⟨by dsimp only;omega,h2⟩,h3⟩;refine cW (λc1=>?_) (λ_=>hb);have c1:=ct c1;refine cW (λc2=>?_) (λ_=>hb);have hl:l.length<6:=by have:=ct c2;omega
   have hlt:((l.length:Int)).toNat<ns.length:=by omega
   refine nQ (by omega) hlt ?_;obtain⟨q0,q1⟩:=hn _ (nS hlt);generalize ns[((l.length:Int)).toNat]=e at q0 q1 ⊢;refine cC (by omega) (cC (by omega) (cC (by omega) ?_));refine cW (λ_=>cC (by omega) (go _ _ _ q0 q1 hl _ (.inr ⟨_,aqA q1,rfl⟩))) (λ_=>?_);exact cW (λ_=>cC (by omega) (go _ _ _ q0 q1 hl _ (.inr ⟨_,aqB,rfl⟩))) (λ_=>cC (by omega) (go _ _ _ q0 q1 hl _ (.inl rfl)))
 ·rintro⟨k,l⟩ ⟨⟨h0,h2⟩,h3⟩;dsimp only at h0 h2 h3 ⊢;refine acN (λs:Int×List l8=>s.1=s.2.length/\s.2.length<=5/\∀i,i<s.2.length->ani l.length i (s.2.getD i default))
   (λs=>s.2.length<=5/\∀i,i<s.2.length->ani l.length i (s.2.getD i default)) (λs=>5-s.2.length) ⟨rfl,by decide,λi hi=>absurd hi (not_lt_zero i)⟩ (by unfold fuel;simp) ?_ ?_
  ·rintro⟨k,m⟩ cH brk ⟨h4,h5,h6⟩ hnx hbr;dsimp only at h4 h5 h6 hnx hbr ⊢;subst h4;have w1:i64.wrap ((m.length:Int)+1)=(m.length:Int)+1:=dA (by omega);have w2:((m.length:Int)+1).toNat=m.length+1:=by omega
   have hb:Ok (brk ((m.length:Int),m)) oC:=hbr _ ⟨h5,h6⟩;rw[w1,s3,toNat_natCast,w2];refine cW (λc1=>?_) (λ_=>hb);have c1:=ct c1;refine cW (λc2=>?_) (λ_=>hb);have hl:m.length<5:=by have:=ct c2;omega
   have hlt:((m.length:Int)).toNat<es.length:=by omega
   refine cC (by omega) ?_;refine nQ (by omega) hlt ?_;obtain⟨q0,q1⟩:=he _ (nS hlt);generalize es[((m.length:Int)).toNat]=e at q0 q1 ⊢;refine cC (by omega) (cC (by omega) (cC (by omega) ?_));have t0:=xE (b:=(l.length:Int)) q0.1 (by omega);have t1:=xE (b:=(l.length:Int)) q1.1 (by omega);rw[dA (n:=e.x0) (by omega),dA (n:=e.x1) (by omega)];exact hnx _ ⟨by simp,by simp;omega,aiO (P:=ani l.length) h6 ⟨rfl,t0,t1,⟨rfl,rfl⟩,rfl,rfl⟩⟩ (by simp;omega)
  ·rintro⟨k,m⟩ ⟨h5,h6⟩;exact .mk ⟨h0,h2,h5,h3,h6⟩
def akl(d:dg):Prop:=(∀x∈d.nodes,(0<=x.x0/\x.x0<=255)/\(0<=x.x1/\x.x1<=255))/\(∀x∈d.ak,(0<=x.x0/\x.x0<=255)/\(0<=x.x1/\x.x1<=255)/\(0<=x.x2/\x.x2<=255))
structure Roomy(t:Types):Prop where
 xJ:fm t
 valid:(gH t).2=0
 room:∀a,a<t.nodes.length->∀x∈bg t a,-1000000<=x.low/\x.low<=x.high/\x.high<=1000000
theorem oC.roomy{t:Types}(h:oC t):Roomy t:=⟨h.xJ,h.valid,λa ha x hx=>by have:=h.range ha hx;omega⟩
section
variable{t:Types}
theorem Roomy.ok(h:Roomy t):OkT t:=sA h.xJ h.valid
theorem Roomy.aDX(h:Roomy t){a:Nat}(ha:a<t.nodes.length):(bg t a).length<=8:=aiN (h.ok.node a ha)
theorem ank(h:Roomy t):Ok (gI t) (λl=>∀k∈l,(0<=k/\k<t.nodes.length)/\(t.nodes.getD k.toNat default).abs=false):=by
 have hn:=h.xJ.nodes;unfold gI;refine cC (bB (by omega)) ?_;refine sB (λi (l:List Int)=>l.length<=i/\∀k∈l,(0<=k/\k<t.nodes.length)/\(t.nodes.getD k.toNat default).abs=false) (zero_le _) ⟨by simp,λk hk=>(by cases hk)⟩ ?_ ?_
 ·rintro i l cH _ hi ⟨h1,h2⟩ hx;refine tK hi (cW (λ_=>hx _ ⟨by omega,h2⟩) (λc=>cC (by omega) (hx _ ⟨by simp;omega,λk hk=>?_⟩)));rcases mem_append.1 hk with hk|hk
  ·exact h2 k hk
  ·simp only[mem_cons,not_mem_nil,or_false] at hk;subst hk;refine⟨⟨by omega,by omega⟩,?_⟩;rw[toNat_natCast];have e:t.nodes.getD i default=t.nodes[i]:=by simp[hi]
   rw[e];exact c
 ·rintro l ⟨_,h2⟩;exact .mk h2
def ary(t:Types)(k:Int)(v:List Int):Prop:=(0<=k/\k<t.nodes.length)/\kZ t k v=0
theorem aCq{k:Int}{v:List Int}(hk:0<=k/\k<t.nodes.length)(ha:(t.nodes.getD k.toNat default).abs=false)(hl:v.length=(bg t k.toNat).length)(hv:∀j,j<v.length->((bg t k.toNat).getD j default).low<=v.getD j default/\v.getD j default<=((bg t k.toNat).getD j default).high):ary t k v:=by
 refine⟨hk,?_⟩;unfold kZ;rw[if_neg (by omega),if_neg (by rw[ha];decide),if_neg (λh=>h hl)];refine qd λj _ hj=>?_
 have:=hv j hj;unfold mc;rw[if_neg (by omega)]
theorem j9{α:Type} [Inhabited α]{l:List α}{x:α}{i:Nat}(h:i<l.length):(l++[x]).getD i default=l.getD i default:=by simp[getD_eq_getElem?_getD,getElem?_append_left h]
theorem qZ{α:Type} [Inhabited α]{l:List α}{x:α} : (l++[x]).getD l.length default=x:=by simp
theorem atI{α:Type} [Inhabited α]{l:List α}{i:Nat}(h:i<l.length):l.getD i default=l[i]:=by simp[h]
structure aCY(t:Types)(h:Host):Prop where
 ok:pg t h
 n8:h.graph.nodes.length<=8
 m10:h.graph.ak.length<=10
theorem aAg(hr:Roomy t){ns:List Int}{vs:List (List Int)}{es:List Edge}(h1:ns.length<=8)(h2:vs.length=ns.length)(h3:∀j,j<ns.length->ary t (ns.getD j default) (vs.getD j default))(h4:es.length<=10)
  (h5:∀e∈es,(0<=e.type/\e.type<t.ak.length)/\(0<=e.src/\e.src<ns.length)/\(0<=e.dst/\e.dst<ns.length)/\qf t e.type (ns.getD e.src.toNat default) (ns.getD e.dst.toNat default)=true):aCY t ⟨⟨ns,es⟩,vs⟩:=by
 have n12:=hr.ok.n12;have m20:=hr.ok.m20;refine⟨⟨hr.valid,?_,h2,λi hi=>(h3 i hi).2,λi hi=>?_⟩,h1,h4⟩
 ·unfold o8;rw[if_neg (by dsimp only;omega),if_neg,if_neg]
  ·intro hh;obtain⟨e,he,hb⟩:=any_eq_true.1 hh;obtain⟨g1,g2,g3,_⟩:=h5 e he;rw[not_eq_true'] at hb;unfold tJ rF at hb;rw[dB g1.1,dB (by omega:e.type<=99),dB g2.1,dB (by dsimp only;omega:e.src<=(_:Int)-1),dB g3.1,dB (by dsimp only;omega:e.dst<=(_:Int)-1)] at hb;cases hb
  ·intro hh;obtain⟨k,hk,hb⟩:=any_eq_true.1 hh;have hk:k∈ns:=hk;obtain⟨j,hj,rfl⟩:=getElem_of_mem hk;have:=(h3 j hj).1;rw[atI hj] at this;rw[not_eq_true'] at hb;unfold rF at hb;rw[dB this.1,dB (by omega:ns[j]<=99)] at hb;cases hb
 ·have hi:i<es.length:=hi;obtain⟨g1,_,_,g4⟩:=h5 _ (nS hi);unfold rG;dsimp only;rw[atI hi,if_neg (by omega),if_pos g4]
theorem arz(hr:Roomy t){d:dg}(hd:akl d):Ok (gW t d) (aCY t):=by
 have hT:=hr.ok;have n12:=hT.n12;have m20:=hT.m20;unfold gW;refine zv (ank hr) λC hC=>?_
 refine acN (λs:Int×List Int×List (List Int)=>s.1=s.2.1.length/\s.2.1.length<=8/\s.2.2.length=s.2.1.length/\∀j,j<s.2.1.length->ary t (s.2.1.getD j default) (s.2.2.getD j default))
  (λs=>s.2.1.length<=8/\s.2.2.length=s.2.1.length/\∀j,j<s.2.1.length->ary t (s.2.1.getD j default) (s.2.2.getD j default)) (λs=>8-s.2.1.length) ⟨rfl,by decide,rfl,λi hi=>absurd hi (not_lt_zero i)⟩ (by unfold fuel;simp) ?_ ?_
 ·rintro⟨k,ns,vs⟩ cH brk ⟨h1,h2,h3,h4⟩ hn hb;dsimp only at h1 h2 h3 h4 hn hb ⊢;subst h1;refine cW (λc1=>?_) (λ_=>hb _ ⟨h2,h3,h4⟩);refine cW (λc2=>?_) (λ_=>hb _ ⟨h2,h3,h4⟩);refine cW (λc3=>?_) (λ_=>hb _ ⟨h2,h3,h4⟩);have c1:=ct c1;have c2:=ct c2;have c3:=ct c3;have hlt:((ns.length:Int)).toNat<d.nodes.length:=by omega
  refine nQ (by omega) hlt ?_;obtain⟨q0,q1⟩:=hd.1 _ (nS hlt);generalize d.nodes[((ns.length:Int)).toNat]=e at q0 q1 ⊢;refine cC (by omega) ?_;rw[dA (n:=e.x0) (by omega)];have t0:=xE (b:=(C.length:Int)) q0.1 c3;have hc:(e.x0.tmod (C.length:Int)).toNat<C.length:=by omega
  refine nQ t0.1 hc ?_;obtain⟨g1,g2⟩:=hC _ (nS hc);generalize C[(e.x0.tmod (C.length:Int)).toNat]=kd at g1 g2 ⊢;refine ok_eq (show mh t kd=some (bg t kd.toNat,0) from qJ ⟨hT,g1⟩) ?_;have rj:kd.toNat<t.nodes.length:=by omega
  have h8:=hr.aDX rj;have hroom:=hr.room kd.toNat rj;dsimp only;generalize hA:bg t kd.toNat=A at h8 hroom ⊢;refine cC (bB (by omega)) ?_;refine sB (λi (v:List Int)=>v.length=i/\∀j,j<i->(A.getD j default).low<=v.getD j default/\v.getD j default<=(A.getD j default).high) (zero_le _) ⟨rfl,λj hj=>absurd hj (not_lt_zero j)⟩ ?_ ?_
  ·rintro i v nx2 _ hi ⟨k1,k2⟩ hn2;refine tK hi ?_;have r:=hroom _ (nS hi);have w1:i64.wrap (i64.wrap (A[i].high-A[i].low)+1)=A[i].high-A[i].low+1:=by rw[dA (n:=A[i].high-A[i].low) (by omega),dA (by omega)]
   have w2:i64.wrap (i64.wrap e.x1+i64.wrap (7 * ((i:Nat):Int)))=e.x1+7 * (i:Int):=by rw[dA (n:=e.x1) (by omega),dA (n:=7 * ((i:Nat):Int)) (by omega),dA (by omega)]
   rw[w1,w2];have t1:=xE (a:=e.x1+7 * (i:Int)) (b:=A[i].high-A[i].low+1) (by omega) (by omega);refine cC (by omega) (cC (by omega) ?_);rw[dA (n:=A[i].low+(e.x1+7 * (i:Int)).tmod (A[i].high-A[i].low+1)) (by omega)];refine hn2 _ ⟨by simp;omega,λj hj=>?_⟩;rcases lt_or_ge j i with hji|hji
   ·rw[j9 (by omega)];exact k2 j hji
   ·have:j=i:=by omega
    subst this;subst k1;rw[qZ,atI hi];omega
  ·rintro v ⟨k1,k2⟩;refine cC (by omega) (cC (by omega) ?_);rw[dA (n:=(ns.length:Int)+1) (by omega)];refine hn _ ⟨by simp,by simp;omega,by simp;omega,λj hj=>?_⟩ (by simp;omega);dsimp only at hj ⊢;rw[length_append] at hj;simp only[length_cons,length_nil] at hj;rcases lt_or_ge j ns.length with hji|hji
   ·rw[j9 hji,j9 (by omega)];exact h4 j hji
   ·have e1:j=ns.length:=by omega
    subst e1;have e2:(vs++[v]).getD ns.length default=v:=by rw[<-h3];exact qZ
    rw[qZ,e2];subst hA;exact aCq g1 g2 k1 λj hj=>k2 j (by omega)
 ·rintro⟨k,ns,vs⟩ ⟨h2,h3,h4⟩;dsimp only at h2 h3 h4 ⊢;refine acN (λs:Int×List Edge=>(0<=s.1/\s.1<=10/\s.2.length<=s.1)/\∀e∈s.2,(0<=e.type/\e.type<t.ak.length)/\(0<=e.src/\e.src<ns.length)/\(0<=e.dst/\e.dst<ns.length)/\qf t e.type (ns.getD e.src.toNat default) (ns.getD e.dst.toNat default)=true)
   (λs=>s.2.length<=10/\∀e∈s.2,(0<=e.type/\e.type<t.ak.length)/\(0<=e.src/\e.src<ns.length)/\(0<=e.dst/\e.dst<ns.length)/\qf t e.type (ns.getD e.src.toNat default) (ns.getD e.dst.toNat default)=true)
   (λs=>(10-s.1).toNat) ⟨by simp,by simp⟩ (by unfold fuel;simp) ?_ ?_
  ·rintro⟨j,es⟩ cH brk ⟨g1,g2⟩ hn hb;dsimp only at g1 g2 hn hb ⊢;refine cW (λc1=>?_) (λ_=>hb _ ⟨by simp only;omega,g2⟩);refine cW (λc2=>?_) (λ_=>hb _ ⟨by simp only;omega,g2⟩);refine cW (λc3=>?_) (λ_=>hb _ ⟨by simp only;omega,g2⟩);refine cW (λc4=>?_) (λ_=>hb _ ⟨by simp only;omega,g2⟩);have c1:=ct c1;have c2:=ct c2;have c3:=ct c3;have c4:=ct c4;have hj:j.toNat<d.ak.length:=by omega
   refine nQ g1.1 hj ?_;obtain⟨q0,q1,q2⟩:=hd.2 _ (nS hj);generalize d.ak[j.toNat]=e at q0 q1 q2 ⊢;refine cC (by omega) (cC (by omega) (cC (by omega) ?_));rw[dA (n:=e.x0) (by omega),dA (n:=e.x1) (by omega),dA (n:=e.x2) (by omega),dA (n:=j+1) (by omega)];have m0:=xE (b:=(t.ak.length:Int)) q0.1 c4;have m1:=xE (b:=(ns.length:Int)) q1.1 c3;have m2:=xE (b:=(ns.length:Int)) q2.1 c3;have b1:(e.x1.tmod (ns.length:Int)).toNat<ns.length:=by omega
   have b2:(e.x2.tmod (ns.length:Int)).toNat<ns.length:=by omega
   refine nQ m1.1 b1 (nQ m2.1 b2 ?_);refine ok_eq (qJ hr.xJ) ?_;refine cW (λf1=>?_) (λ_=>hn _ ⟨by simp only;omega,g2⟩ (by simp only;omega));refine cC (by omega) ?_;refine hn _ ⟨by simp only[length_append,length_cons,length_nil];omega,λx hx=>?_⟩ (by simp only;omega);rcases mem_append.1 hx with h|h
   ·exact g2 x h
   ·simp only[mem_cons,not_mem_nil,or_false] at h;subst h;refine⟨m0,m1,m2,?_⟩;dsimp only;rw[atI b1,atI b2];exact f1
  ·rintro⟨j,es⟩ ⟨g1,g2⟩;exact .mk (aAg hr h2 h3 h4 g1 g2)
end
section
variable{t:Types}{x y:az}
theorem agS(ht:OkT t){k:Int}{v:List Int}(hk:0<=k)(h:kZ t k v=0):v.length<=8:=by
 unfold kZ at h;split at h
 ·cases h
 rename_i h1;split at h
 ·cases h
 split at h
 ·cases h
 rename_i h2;have h2:=Decidable.of_not_not h2;have h3:=aiN (ht.node k.toNat (by omega));omega
theorem pg.xI(hf:fm t){h:Host}(hh:pg t h):tT h:=by have hg:=hh.graph;have h1:=hg.nodes;have h2:=hg.ak;have h3:=hh.agr;refine⟨⟨by omega,by omega⟩,by omega,λl hl=>?_⟩;obtain⟨i,hi,rfl⟩:=getElem_of_mem hl;have h4:=hh.node i (by omega);rw[atI hi] at h4;have:=agS (sA hf hh.types) (hg.kind i (by omega)).1 h4;omega
theorem fD.xI(hf:fm t)(h:fD t x):kN x:=⟨h.host.xI hf,by have:=h.n40;omega,by have:=h.e80;omega⟩
theorem agT{N:List ah}{E:List ax}{next:Int}(h:fD t (c9 N E next)):dI (c9 N E next)=E:=by
 refine ac1 λe he=>?_
 obtain⟨i,hi,rfl⟩:=getElem_of_mem he;have hl:(c9 N E next).host.graph.ak.length=E.length:=by simp[c9]
 have hE:=h.host.graph.ia i (by omega);have e2:(c9 N E next).host.graph.ak.getD i default=jL (N.map ah.id) E[i]:=by simp[c9,hi]
 rw[e2] at hE;exact⟨hE.2.1.1,hE.2.2.1⟩
theorem avr{N:List ah}{E:List ax}{next:Int}(h1:N.length<=1000)(h2:E.length<=1000)(h3:Rows N):kN (c9 N E next):=by refine⟨⟨⟨by simpa[c9] using h1,by simpa[c9] using h2⟩,by simpa[c9] using h1,λl hl=>?_⟩,by simp[c9];omega,by simp[c9];omega⟩;obtain⟨n,hn,rfl⟩:=mem_map.1 hl;exact h3 n hn
def aiP(t:Types)(x y:az):Prop:=kN y/\(fD t y->aak x y)
theorem avs(hf:fm t)(hx:fD t x):aiP t x x:=⟨hx.xI hf,λ_=>aak.refl x⟩
theorem aqC(hf:fm t)(hx:fD t x){i j:Nat}(hi:i<x.host.values.length)(v:Int):aiP t x ⟨⟨x.host.graph,x.host.values.set i ((x.host.values[i]).set j v)⟩,x.nodes,x.ak,x.next⟩:=by
 have hb:=hx.xI hf;refine⟨⟨⟨hb.host.graph,by simpa using hb.host.values,λl hl=>?_⟩,hb.nodes,hb.ak⟩,λhy=>⟨le_refl _,λn hn=>?_,λe he=>.inr he⟩⟩
 ·rcases mem_or_eq_of_mem_set hl with h|h
  ·exact hb.host.row l h
  ·rw[h,length_set];exact hb.host.row _ (nS hi)
 ·obtain⟨k,hk,rfl⟩:=xA hn;exact .inr ⟨cK x k,uH hk,rfl,rfl⟩
theorem anl(hf:fm t)(hx:fD t x){N:List ah}{E:List ax}(hN:N.Sublist (bD x))(hE:E.Sublist (dI x)):aiP t x (c9 N E x.next):=by
 have hb:=hx.xI hf;have h1:=hN.length_le;have h2:=hE.length_le;have n1:=hx.n40;have n2:=hx.e80;rw[lH] at h1;rw[kG] at h2;refine⟨avr (by omega) (by omega) (λn hn=>jm hx hb.host n (hN.subset hn)),λhy=>⟨le_refl _,λn hn=>?_,λe he=>?_⟩⟩
 ·rw[ac0] at hn;exact .inr ⟨n,hN.subset hn,rfl,rfl⟩
 ·rw[agT hy] at he;exact .inr (hE.subset he)
theorem avt(hf:fm t)(hx:fD t x)(k:Int){v:List Int}(hv:v.length<=8):aiP t x ⟨⟨⟨x.host.graph.nodes++[k],x.host.graph.ak⟩,x.host.values++[v]⟩,x.nodes++[x.next],x.ak,x.next+1⟩:=by
 have hb:=hx.xI hf;have n1:=hx.n40;have n2:=hx.uc;have n3:=hx.host.agr;refine⟨⟨⟨⟨by simp;omega,hb.host.graph.ak⟩,by simp;omega,λl hl=>?_⟩,by simp;omega,hb.ak⟩,λhy=>⟨by dsimp only;omega,λn hn=>?_,λe he=>?_⟩⟩
 ·rcases mem_append.1 hl with h|h
  ·exact hb.host.row l h
  ·simp only[mem_cons,not_mem_nil,or_false] at h;subst h;omega
 ·obtain⟨j,hj,rfl⟩:=xA hn;dsimp only at hj;rw[length_append] at hj;simp only[length_cons,length_nil] at hj;rcases lt_or_ge j x.nodes.length with h|h
  ·refine .inr ⟨cK x j,uH h,?_,?_⟩
   ·show x.nodes.getD j default=(x.nodes++[x.next]).getD j default;rw[j9 h]
   ·show x.host.graph.nodes.getD j default=(x.host.graph.nodes++[k]).getD j default;rw[j9 (by omega)]
  ·have e1:j=x.nodes.length:=by omega
   subst e1;refine .inl ?_;show x.next<=(x.nodes++[x.next]).getD x.nodes.length default
   rw[qZ];exact le_refl _
 ·obtain⟨j,hj,rfl⟩:=mem_map.1 he;have hj:j<x.ak.length:=mem_range.1 hj;have hE:=hx.host.graph.ia j (by rw[<-hx.ahs];exact hj);refine .inr ?_;have e:gP ⟨⟨⟨x.host.graph.nodes++[k],x.host.graph.ak⟩,x.host.values++[v]⟩,x.nodes++[x.next],x.ak,x.next+1⟩ j=gP x j:=by unfold gP;dsimp only;rw[j9 (by omega),j9 (by omega)]
  rw[e];exact aiM hj
theorem avu(hf:fm t)(hx:fD t x)(e:Edge):aiP t x ⟨⟨⟨x.host.graph.nodes,x.host.graph.ak++[e]⟩,x.host.values⟩,x.nodes,x.ak++[x.next],x.next+1⟩:=by
 have hb:=hx.xI hf;have n1:=hx.e80;have n2:=hx.ahs;refine⟨⟨⟨⟨hb.host.graph.nodes,by simp;omega⟩,hb.host.values,hb.host.row⟩,hb.nodes,by simp;omega⟩,λhy=>⟨by dsimp only;omega,λn hn=>?_,λf he=>?_⟩⟩
 ·obtain⟨k,hk,rfl⟩:=xA hn;exact .inr ⟨cK x k,uH hk,rfl,rfl⟩
 ·obtain⟨j,hj,rfl⟩:=mem_map.1 he;have hj:=mem_range.1 hj;dsimp only at hj;rw[length_append] at hj;simp only[length_cons,length_nil] at hj;rcases lt_or_ge j x.ak.length with h|h
  ·refine .inr ?_;have e:gP ⟨⟨⟨x.host.graph.nodes,x.host.graph.ak++[e]⟩,x.host.values⟩,x.nodes,x.ak++[x.next],x.next+1⟩ j=gP x j:=by unfold gP;dsimp only;rw[j9 h,j9 (by omega)]
   rw[e];exact aiM h
  ·have e1:j=x.ak.length:=by omega
   subst e1;refine .inl ?_;show x.next<=(x.ak++[x.next]).getD x.ak.length default
   rw[qZ];exact le_refl _
def OkC(l:List jH):Prop:=∀x∈l,(0<=x.x0/\x.x0<=255)/\(0<=x.x1/\x.x1<=255)/\(0<=x.x2/\x.x2<=255)
theorem avv(hr:Roomy t)(hx:fD t x){c:jH}(hc:(0<=c.x0/\c.x0<=255)/\(0<=c.x1/\c.x1<=255)/\(0<=c.x2/\c.x2<=255)):Ok (ic t x c) (aiP t x):=by
 have hf:=hr.xJ;have hb:=hx.xI hf;have n1:=hx.n40;have n2:=hx.e80;have n3:=hx.uc;have n4:=hx.ahs;have n5:=hx.host.agr;have nx:=hx.next
 have aaY:=avs hf hx;have hv:∀l∈x.host.values,l.length<=1000000:=λl hl=>le_trans (hb.host.row l hl) (by decide)
 have hrows:∀n∈bD x,n.values.length<=1000000:=λn hn=>le_trans (jm hx hb.host n hn) (by decide)
 unfold ic;refine ok_eq (agM hb) ?_;rw[dA (n:=c.x0) (by omega),dA (n:=c.x1) (by omega),dA (n:=c.x2) (by omega)];refine cW (λ_=>?_) (λ_=>?_)
 ·refine cW (λc1=>?_) (λ_=>.mk aaY);have c1:=ct c1;have m1:=xE (b:=(x.nodes.length:Int)) hc.2.1.1 c1;refine cC (by omega) ?_;have hi:(c.x1.tmod (x.nodes.length:Int)).toNat<x.host.values.length:=by omega
  refine nQ m1.1 hi ?_;refine cW (λc2=>?_) (λ_=>.mk aaY);have c2:=ct c2;have m2:=xE (b:=((x.host.values[(c.x1.tmod (x.nodes.length:Int)).toNat]).length:Int)) hc.2.2.1 c2;refine cC (by omega) (cC (by omega) ?_);refine nQ m2.1 (by omega) ?_;exact .mk (aqC hf hx hi _)
 refine cW (λ_=>?_) (λ_=>?_)
 ·refine cW (λc1=>?_) (λ_=>.mk aaY);have c1:=ct c1;have m1:=xE (b:=(x.nodes.length:Int)) hc.2.1.1 c1;refine cC (by omega) ?_;unfold fJ;rw[aT (agv hx hv),cond_false];have hi:(c.x1.tmod (x.nodes.length:Int)).toNat<(bD x).length:=by rw[lH];omega
  rw[gD m1.1 hi,aT (ais ⟨bD x,dI x⟩ _ (by rw[lH];omega) hrows)];have hs:=aac (q:=dS) (l:=bD x) (n:=(bD x)[(c.x1.tmod (x.nodes.length:Int)).toNat]);have hl:=hs.length_le;rw[lH] at hl;rw[aT (tF _ x.next (by dsimp only;omega) (by dsimp only;rw[kG];omega) (λn hn=>jm hx hb.host n (hs.subset hn)))];exact .mk (anl hf hx hs (Sublist.refl _))
 refine cW (λ_=>?_) (λ_=>?_)
 ·refine cW (λc1=>?_) (λ_=>.mk aaY);have c1:=ct c1;have m1:=xE (b:=(x.ak.length:Int)) hc.2.1.1 c1;refine cC (by omega) ?_;unfold fJ;rw[aT (agv hx hv),cond_true];have hi:(c.x1.tmod (x.ak.length:Int)).toNat<(dI x).length:=by rw[kG];omega
  rw[gD m1.1 hi,aT (air ⟨bD x,dI x⟩ _ (by rw[kG];omega))];have hs:=aac (q:=ql) (l:=dI x) (n:=(dI x)[(c.x1.tmod (x.ak.length:Int)).toNat]);have hl:=hs.length_le;rw[kG] at hl;rw[aT (tF _ x.next (by dsimp only;rw[lH];omega) (by dsimp only;omega) (jm hx hb.host))];exact .mk (anl hf hx (Sublist.refl _) hs)
 refine cW (λ_=>?_) (λ_=>?_)
 ·refine zv (arz hr (d:=⟨[⟨c.x1,c.x2⟩],[]⟩) ⟨λz hz=>?_,λz hz=>by cases hz⟩) λp hp=>?_
  ·simp only[mem_cons,not_mem_nil,or_false] at hz;subst hz;exact hc.2
  refine cW (λc1=>?_) (λ_=>.mk aaY);have c1:=ct c1;have h1:=hp.ok.agr;have hp0:0<p.graph.nodes.length:=by omega
  refine tK (by omega) (tK (by omega) ?_);refine cC (by omega) (cC (by omega) (cC (by omega) ?_));rw[dA (n:=x.next+1) (by omega)];have h2:=hp.ok.node 0 hp0;have h3:=(hp.ok.graph.kind 0 hp0).1;rw[atI (l:=p.values) (by omega)] at h2;exact .mk (avt hf hx _ (agS hr.ok h3 h2))
 refine cW (λ_=>?_) (λ_=>.mk aaY);refine cW (λc1=>?_) (λ_=>.mk aaY);refine cW (λc2=>?_) (λ_=>.mk aaY);have c1:=ct c1;have c2:=ct c2;refine cC (by omega) (cC (by omega) (cC (by omega) (cC (by omega) (cC (by omega) ?_))));rw[dA (n:=x.next+1) (by omega)];exact .mk (avu hf hx _)
theorem ad5(hr:Roomy t)(hx:fD t x){l:List jH}(hl:l.length<=1000000)(hc:OkC l):Ok (eF t x l) (λy=>fD t y/\aak x y):=by
 unfold eF;refine cC (bB (by omega)) ?_;refine sB (λ_ (s:List Int×List Edge×List (List Int)×List Int×List Int×Int)=>fD t ⟨⟨⟨s.1,s.2.1⟩,s.2.2.1⟩,s.2.2.2.1,s.2.2.2.2.1,s.2.2.2.2.2⟩/\aak x ⟨⟨⟨s.1,s.2.1⟩,s.2.2.1⟩,s.2.2.2.1,s.2.2.2.2.1,s.2.2.2.2.2⟩) (zero_le _) ⟨hx,aak.refl x⟩ ?_ ?_
 ·rintro i s cH _ hi ⟨h1,h2⟩ hn;refine tK hi ?_;refine zv (avv hr h1 (hc _ (nS hi))) λy hy=>?_
  refine ok_eq (mG hr.xJ hy.1) ?_;refine cW (λc1=>?_) (λ_=>hn _ ⟨h1,h2⟩);have hk:=dU.1 (ct c1);exact hn _ ⟨hk,h2.trans (hy.2 hk)⟩
 ·rintro s ⟨h1,h2⟩;exact .mk ⟨h1,h2⟩
end
section
variable{t:Types}{a b:az}{p q:aF}
theorem aiQ(s:Int)(n:Nat)(hs:0<=s/\s<=1000000)(hn:n<=1000000):fI s (n:Int)=some ((range n).map λi:Nat=>s+(i:Int)):=by refine Ok.eq ?_;unfold fI;rw[toNat_natCast];refine cC (bB (by omega)) ?_;refine sB (λi (l:List Int)=>l=(range i).map λi:Nat=>s+(i:Int)) (zero_le _) rfl ?_ (λl h=>.mk h);rintro i l cH _ hi rfl hx;refine cC (by simp;omega) ?_;rw[dA (by omega)];exact hx _ (by rw[range_succ,map_append];rfl)
def ahx(h:Host):az:=⟨h,(range h.graph.nodes.length).map λi:Nat=>(i:Int),(range h.graph.ak.length).map λi:Nat=>(h.graph.nodes.length:Int)+(i:Int),(h.graph.nodes.length:Int)+(h.graph.ak.length:Int)⟩
theorem aiR(s:Int)(n:Nat):iJ id ((range n).map λi:Nat=>s+(i:Int)):=by refine pairwise_map.2 (Pairwise.imp (λ{i j} h=>?_) pairwise_lt_range);show s+(i:Int)<s+(j:Int);omega
theorem aDY{h:Host}(hh:pg t h):fD t (ahx h):=by
 have n1:=hh.graph.nodes;have n2:=hh.graph.ak;refine⟨hh,by simp[ahx],by simp[ahx],⟨by simp only[ahx];omega,by simp only[ahx];omega⟩,⟨λn hn=>?_,?_⟩,⟨λn hn=>?_,aiR _ _⟩,λe he hn=>?_⟩
 ·obtain⟨i,hi,rfl⟩:=mem_map.1 hn;have:=mem_range.1 hi;simp only[ahx];omega
 ·have:=aiR 0 h.graph.nodes.length;simpa[ahx] using this
 ·obtain⟨i,hi,rfl⟩:=mem_map.1 hn;have:=mem_range.1 hi;simp only[ahx];omega
 ·obtain⟨i,hi,rfl⟩:=mem_map.1 he;obtain⟨j,hj,e⟩:=mem_map.1 hn;have:=mem_range.1 hj;omega
theorem akm{h:Host}(hb:tT h):cD h=some h:=by
 have hx:kN ⟨h,[],[],0⟩:=⟨hb,by simp,by simp⟩;have:=agM hx;unfold dG at this;cases hc:cD h with
 |none=>rw[hc] at this;cases this
 |some r=>rw[show cD (⟨h,[],[],0⟩:az).host=some r from hc,mC,bC (by simp),bC (by simp)] at this;have:=Option.some.inj this;rw[az.mk.injEq] at this;rw[<-this.1]
def newR(t:Types)(h:Host):az×Int:=if (jY t h).2≠0 then (lu,(jY t h).2) else (ahx h,0)
theorem aDZ(hf:fm t){h:Host}(hb:tT h):js t h=some (newR t h):=by
 unfold js newR;rw[aT (aab hf),aY];by_cases h0:(gH t).2=0;rotate_left
 ·rw[if_neg h0,acQ h0,if_pos h0];rfl
 rw[if_pos h0,aT (wD hf hb),aY];by_cases h1:(jY t h).2=0;rotate_left
 ·rw[if_neg h1,if_pos h1];rfl
 rw[if_pos h1,if_neg (λh=>h h1)];have hh:=qt.1 h1;have n1:=hh.graph.nodes;have n2:=hh.graph.ak;rw[dA (n:=(((h.graph.nodes.length:Nat):Int)+((h.graph.ak.length:Nat):Int))) (by omega),dA (n:=(((h.graph.nodes.length:Nat):Int)+((h.graph.ak.length:Nat):Int))-((h.graph.nodes.length:Nat):Int)) (by omega)];rw[show ((h.graph.nodes.length:Nat):Int)+((h.graph.ak.length:Nat):Int)-((h.graph.nodes.length:Nat):Int)=((h.graph.ak.length:Nat):Int) by omega];rw[aT (akm hb),aT (aiQ 0 _ (by omega) (by omega)),aT (aiQ _ _ (by omega) (by omega))];have e:((range h.graph.nodes.length).map λi:Nat=>(0:Int)+(i:Int))=(range h.graph.nodes.length).map λi:Nat=>(i:Int):=map_congr_left λi _=>Int.zero_add _
 rw[e];rfl
theorem aAh{h:Host}(hh:pg t h):newR t h=(ahx h,0):=by unfold newR;rw[if_neg (λh2=>h2 (qt.2 hh))]
theorem aiS(ba:kN a)(bb:kN b):ir (aiG t a b).1:=by
 have hf:=avj (t:=t) ba bb;refine⟨hf.rn,hf.re,hf.an,hf.ae,hf.va,λn hn=>?_,λn hn=>?_⟩;all_goals
  unfold aiG at hn;split at hn
  ·cases hn
  rename_i h1;split at hn
  ·cases hn
  rename_i h2;have ha:=dU.1 (Decidable.of_not_not h1);have hb:=dU.1 (Decidable.of_not_not h2);split at hn
  ·rename_i h3;unfold aiF at hn;rw[if_pos h3] at hn
   first
    |exact jm ha ba.host n (aaA hn)
    |exact jm hb bb.host n (aaA hn)
  ·cases hn
structure agU(d:bT):Prop where
 nodes:OkU d.nodes
 ak:OkU d.ak
 h:akl d.h
 first:OkC d.first
 p:OkC d.p
 q:OkC d.q
structure aCr(R:Types×bV×Bool):Prop where
 xJ:fm R.1
 xI:kN R.2.1.a
 bp:ir R.2.1.p
 bq:ir R.2.1.q
 both:p7 R.1 R.2.1.a R.2.1.p R.2.1.q
 merged:qv R.2.1.a R.2.1.p R.2.1.q=[]->(eU R.1 R.2.1.a R.2.1.p R.2.1.q).2=0
 aF5:(qa R.1 R.2.1.a R.2.1.p R.2.1.q).2=0
theorem anm(h:(qa t a p q).2=0):p7 t a p q/\(qv a p q=[]->(eU t a p q).2=0):=by
 unfold qa at h;split at h
 ·rename_i h1;exact absurd h h1
 rename_i h1;refine⟨mW.1 (Decidable.of_not_not h1),λhc=>?_⟩;rw[hc,if_neg (by simp)] at h;split at h
 ·rename_i h2;exact absurd h h2
 ·rename_i h2;exact Decidable.of_not_not h2
theorem aCs{d:bT}(hd:agU d):Ok (fz d) (λR=>R.2.2=true->aCr R):=by
 have no:∀ {Q:Prop},(false=true->Q):=λh=>by cases h
 unfold fz;refine cW (λ_=>.mk no) (λ_=>cW (λ_=>.mk no) (λ_=>cW (λ_=>.mk no) (λ_=>cW (λ_=>.mk no) (λ_=>cW (λ_=>.mk no) (λc1=>cW (λ_=>.mk no) (λc2=>cW (λ_=>.mk no) (λc3=>?_)))))));have c1:=dV c1;have c2:=dV c2;have c3:=dV c3;refine zv (aCp hd.nodes hd.ak) λt ht=>?_
 have hr:=ht.roomy;refine zv (arz hr hd.h) λh hh=>?_
 refine ok_eq (aDZ hr.xJ (hh.ok.xI hr.xJ)) ?_;rw[aAh hh.ok];refine zv (ad5 hr (aDY hh.ok) (by omega) hd.first) λa ha=>?_
 have ha:=ha.1;refine zv (ad5 hr ha (by omega) hd.p) λx hx=>?_
 refine ok_eq (aru hr.xJ (ha.xI hr.xJ) (hx.1.xI hr.xJ)) ?_;refine zv (ad5 hr ha (by omega) hd.q) λy hy=>?_
 refine ok_eq (aru hr.xJ (ha.xI hr.xJ) (hy.1.xI hr.xJ)) ?_;have bp:=aiS (t:=t) (ha.xI hr.xJ) (hx.1.xI hr.xJ);have bq:=aiS (t:=t) (ha.xI hr.xJ) (hy.1.xI hr.xJ);refine ok_eq (akh hr.xJ (ha.xI hr.xJ) bp bq) ?_;refine cW (λ_=>cW (λ_=>.mk λh=>?_) (λ_=>.mk no)) (λ_=>.mk no);have h:=ct h;exact⟨hr.xJ,ha.xI hr.xJ,bp,bq,(anm h).1,(anm h).2,h⟩
theorem aAi{m:az}(hm:fD t m){l:List aO}(hl:l.length<=1000000)(hg:agQ m l):fC m l=some true:=by
 have n1:=hm.n40;have n2:=hm.uc;have n3:=hm.host.agr;refine Ok.eq ?_;unfold fC;refine cC (bB (by omega)) ?_;refine aki l (λ_=>True) (λi cH hi hn=>?_) (λ_=>.mk rfl);refine tK hi ?_;obtain⟨n,hnm,g1,g2,g3⟩:=hg _ (nS hi);have hin:l[i].id∈m.nodes:=by rw[<-g1];exact wF hnm
 refine ok_eq (show fQ m.nodes l[i].id=some (cu m.nodes l[i].id) from nq (by omega) _) ?_;have h0:=aaz.2 hin;have hlt:=qw h0;have hq:=aCn hm h0;have e:=hm.xu.inj (uH hlt) hnm (hq.trans g1.symm);refine ahk (gf (by omega)) ?_;refine nQ h0 (by omega) ?_;have hv:m.host.values[(cu m.nodes l[i].id).toNat]'(by omega)=n.values:=by rw[<-e];show _=m.host.values.getD (cu m.nodes l[i].id).toNat default;rw[atI (by omega)]
 rw[hv];have hk:l[i].attr.toNat<n.values.length:=by
  rcases lt_or_ge l[i].attr.toNat n.values.length with h|h
  ·exact h
  ·rw[getElem?_eq_none h] at g3;cases g3
 refine ahk (gf (by omega)) ?_;refine nQ g2 hk ?_;rw[getElem?_eq_getElem hk] at g3;rw[Option.some.inj g3];exact af8 (dB rfl) (hn trivial)
end
theorem aAj{n:Int}(h:G5 n):0<=n/\n<=255:=h
theorem okU{l:List dz}(h:G22 l):OkU l:=λx hx=>⟨aAj (h.1 x hx).1,aAj (h.1 x hx).2.1⟩
theorem okC{l:List jH}(h:G23 l):OkC l:=λx hx=>⟨aAj (h.1 x hx).1,aAj (h.1 x hx).2.1,aAj (h.1 x hx).2.2.1⟩
theorem aCt{d:dg}(h:G25 d):akl d:=⟨okU h.1,okC h.2.1⟩
theorem aAk{d:bT}(h:G27 d):agU d:=⟨okU h.1,okU h.2.1,aCt h.2.2.1,okC h.2.2.2.1,okC h.2.2.2.2.1,okC h.2.2.2.2.2.1⟩
def InR(t:Types)(ty:Int)(k:Nat)(c:Int):Prop:=((bg t ty.toNat).getD k default).low<=c/\c<=((bg t ty.toNat).getD k default).high
theorem aqD{f:Nat->Int}{n:Nat}(h:oo f 0 n=0):∀j,j<n->f j=0:=by
 unfold oo at h;split at h
 ·rename_i k hk;exact absurd h (sN hk)
 ·rename_i hk;exact uU hk
theorem aaB{t:Types}{k:Int}{v:List Int} : kZ t k v=0↔(k<(t.nodes.length:Int)/\(t.nodes.getD k.toNat default).abs=false/\v.length=(bg t k.toNat).length)/\∀j,j<v.length->InR t k j (v.getD j default):=by
 unfold kZ;constructor
 ·intro h;split at h
  ·cases h
  rename_i h1;split at h
  ·cases h
  rename_i h2;split at h
  ·cases h
  rename_i h3;refine⟨⟨by omega,by simpa using h2,Decidable.of_not_not h3⟩,λj hj=>?_⟩;have:=aqD h j hj;unfold mc at this;split at this
  ·cases this
  ·rename_i h4;unfold InR;omega
 ·rintro⟨⟨h1,h2,h3⟩,h4⟩;rw[if_neg (by omega),if_neg (by rw[h2];decide),if_neg (λh=>h h3)];refine qd λj _ hj=>?_
  have:=h4 j hj;unfold InR at this;unfold mc;rw[if_neg (by omega)]
def aew(t:Types)(n:ah):Prop:=0<=n.type/\kZ t n.type n.values=0
def aiT(t:Types)(N:List ah)(e:ax):Prop:=(0<=e.type/\e.type<t.ak.length)/\∃n∈N,∃m∈N,n.id=e.src/\m.id=e.dst/\qf t e.type n.type m.type=true
theorem avw{ns:List Int}{es:List Edge}(h1:ns.length<=40)(h2:es.length<=80)(h3:∀k∈ns,0<=k/\k<=99)(h4:∀e∈es,(0<=e.type/\e.type<=99)/\(0<=e.src/\e.src<ns.length)/\(0<=e.dst/\e.dst<ns.length)):o8 ⟨ns,es⟩=0:=by
 unfold o8;dsimp only;rw[if_neg (by omega),if_neg,if_neg]
 ·intro hh;obtain⟨e,he,hb⟩:=any_eq_true.1 hh;obtain⟨g1,g2,g3⟩:=h4 e he;rw[not_eq_true'] at hb;unfold tJ rF at hb;rw[dB g1.1,dB g1.2,dB g2.1,dB (by omega:e.src<=(ns.length:Int)-1),dB g3.1,dB (by omega:e.dst<=(ns.length:Int)-1)] at hb;cases hb
 ·intro hh;obtain⟨k,hk,hb⟩:=any_eq_true.1 hh;have:=h3 k hk;rw[not_eq_true'] at hb;unfold rF at hb;rw[dB this.1,dB this.2] at hb;cases hb
section
variable{t:Types}{x a:az}{p q:aF}
theorem ac2(h:fD t x){n:ah}(hn:n∈bD x):aew t n:=by
 obtain⟨i,hi,rfl⟩:=xA hn;have hi:i<x.host.graph.nodes.length:=by rw[<-h.uc];exact hi
 exact⟨(h.host.graph.kind i hi).1,h.host.node i hi⟩
theorem xF(h:fD t x){e:ax}(he:e∈dI x):aiT t (bD x) e:=by
 obtain⟨i,hi,rfl⟩:=mem_map.1 he;have hi:i<x.host.graph.ak.length:=by rw[<-h.ahs];exact mem_range.1 hi
 have hE:=h.host.graph.ia i hi;have hH:=h.host.ia i hi;unfold rG at hH;split at hH
 ·cases hH
 rename_i h1;split at hH;rotate_left
 ·cases hH
 rename_i h2;have n1:=h.uc;exact⟨⟨hE.1.1,by show (x.host.graph.ak.getD i default).type<_;omega⟩,cK x (x.host.graph.ak.getD i default).src.toNat,uH (by omega),cK x (x.host.graph.ak.getD i default).dst.toNat,uH (by omega),rfl,rfl,h2⟩
theorem aAl(hf:fm t)(hv:(gH t).2=0){N:List ah}{E:List ax}{next:Int}(n40:N.length<=40)(e80:E.length<=80)(aN:iJ ah.id N)(aE:iJ ax.id E)(hx:0<=next/\next<=1000000)
  (bN:∀n∈N,0<=n.id/\n.id<next) (bE:∀e∈E,0<=e.id/\e.id<next) (ap:∀e∈E,∀n∈N,e.id≠n.id) (fN:∀n∈N,aew t n) (fE:∀e∈E,aiT t N e):fD t (c9 N E next):=by
 have hT:=sA hf hv;have n12:=hT.n12;have m20:=hT.m20;have at1:∀s,(∃n∈N,n.id=s)->0<=cu (N.map ah.id) s/\(cu (N.map ah.id) s).toNat<N.length:=λs ⟨n,hn,e⟩=>by have h0:0<=cu (N.map ah.id) s:=aaz.2 (e ▸ mem_map_of_mem hn);have h1:=qw h0;rw[length_map] at h1;exact⟨h0,h1⟩
 have at2:∀n∈N,(N.map ah.type).getD (cu (N.map ah.id) n.id).toNat default=n.type:=λn hn=>by obtain⟨h0,h1⟩:=at1 n.id ⟨n,hn,rfl⟩;have h2:=aiL h0;rw[getElem_map] at h2;rw[atI (by rw[length_map];exact h1),getElem_map,aN.inj (nS h1) hn h2]
 refine⟨⟨hv,avw (by rw[length_map];exact n40) (by rw[length_map];exact e80) (λk hk=>?_) (λe he=>?_),by simp[c9],λi hi=>?_,λi hi=>?_⟩,by simp[c9],by simp[c9],hx,⟨λn hn=>?_,pairwise_map.2 aN⟩,⟨λn hn=>?_,pairwise_map.2 aE⟩,λe he hn=>?_⟩
 ·obtain⟨n,hn,rfl⟩:=mem_map.1 hk;obtain⟨g1,g2⟩:=fN n hn;have:=(aaB.1 g2).1.1;omega
 ·obtain⟨f,hf,rfl⟩:=mem_map.1 he;obtain⟨g1,n,hn,m,hm,e1,e2,_⟩:=fE f hf;obtain⟨k1,k2⟩:=at1 f.src ⟨n,hn,e1⟩;obtain⟨k3,k4⟩:=at1 f.dst ⟨m,hm,e2⟩;rw[length_map];unfold jL;dsimp only;omega
 ·have hi:i<N.length:=by simpa[c9] using hi
  have g:=(fN _ (nS hi)).2;show kZ t ((N.map ah.type).getD i default) ((N.map ah.values).getD i default)=0;rw[atI (by rw[length_map];exact hi),atI (by rw[length_map];exact hi),getElem_map,getElem_map];exact g
 ·have hi:i<E.length:=by simpa[c9] using hi
  obtain⟨g1,n,hn,m,hm,e1,e2,g2⟩:=fE _ (nS hi);have e3:(E.map (jL (N.map ah.id))).getD i default=jL (N.map ah.id) E[i]:=by rw[atI (by rw[length_map];exact hi),getElem_map]
  unfold rG;show (if (t.ak.length:Int)<=((E.map (jL (N.map ah.id))).getD i default).type then 6 else if qf t ((E.map (jL (N.map ah.id))).getD i default).type ((N.map ah.type).getD ((E.map (jL (N.map ah.id))).getD i default).src.toNat default) ((N.map ah.type).getD ((E.map (jL (N.map ah.id))).getD i default).dst.toNat default)=true then 0 else 13)=(0:Int);rw[e3];unfold jL;dsimp only;rw[<-e1,<-e2,at2 n hn,at2 m hm,if_neg (by omega),if_pos g2]
 ·obtain⟨m,hm,rfl⟩:=mem_map.1 hn;exact bN m hm
 ·obtain⟨m,hm,rfl⟩:=mem_map.1 hn;exact bE m hm
 ·obtain⟨f,hf,rfl⟩:=mem_map.1 he;obtain⟨m,hm,e⟩:=mem_map.1 hn;exact ap f hf m hm e.symm
theorem aiU:∀ (r:List aO) (l:List ah) (n:ah),n∈(eB l r).1->∃m∈l,m.id=n.id/\m.type=n.type/\n.values.length=m.values.length/\∀k:Nat,n.values[k]? = m.values[k]?\/∃v∈r,v.id=n.id/\v.attr=(k:Int)/\n.values[k]? = some v.new
 | [],l,n,h=>⟨n,h,rfl,rfl,rfl,λk=>.inl rfl⟩
 |v :: r,l,n,h=>by
  have put:∀m:ah,∀k:Nat,(mF v m).values[k]? = m.values[k]?\/(v.id=m.id/\v.attr=(k:Int)/\(mF v m).values[k]? = some v.new):=λm k=>by
   unfold mF;split
   ·rename_i hf;unfold jy okV at hf;simp only[and_eq_true,not_eq_true',decide_eq_true_eq,decide_eq_false_iff_not] at hf;by_cases hk:v.attr=(k:Int)
    ·refine .inr ⟨hf.1.symm,hk,?_⟩;show (m.values.set v.attr.toNat v.new)[k]? = _;rw[hk,toNat_natCast,getElem?_set_self (by omega)]
    ·refine .inl ?_;show (m.values.set v.attr.toNat v.new)[k]? = _;rw[getElem?_set_ne (by omega)]
   ·exact .inl rfl
  rw[eB] at h;split at h
  ·obtain⟨m',hm',e1,e2,e3,e4⟩:=aiU r _ n h;obtain⟨m,hm,rfl⟩:=mem_map.1 hm';refine⟨m,hm,by rw[<-e1,oN],by rw[<-e2,adL],by rw[e3,aaa],λk=>?_⟩;rcases e4 k with h1|⟨w,hw,h2⟩
   ·rcases put m k with h3|⟨h3,h4,h5⟩
    ·exact .inl (h1.trans h3)
    ·exact .inr ⟨v,mem_cons_self ..,by rw[h3,<-e1,oN],h4,h1.trans h5⟩
   ·exact .inr ⟨w,mem_cons_of_mem _ hw,h2⟩
  ·obtain⟨m,hm,rfl⟩:=mem_map.1 h;refine⟨m,hm,(oN v m).symm,(adL v m).symm,aaa v m,λk=>?_⟩;rcases put m k with h3|⟨h3,h4,h5⟩
   ·exact .inl h3
   ·exact .inr ⟨v,mem_cons_self ..,by rw[h3,oN],h4,h5⟩
theorem aAm{m n:ah}(hm:aew t m)(ht:m.type=n.type)(hl:n.values.length=m.values.length)(hk:∀k:Nat,n.values[k]? = m.values[k]?\/∃c,n.values[k]? = some c/\InR t n.type k c):aew t n:=by
 obtain⟨h1,h2⟩:=hm;rw[ht] at h1 h2;obtain⟨h3,h4⟩:=aaB.1 h2;refine⟨h1,aaB.2 ⟨⟨h3.1,h3.2.1,by rw[hl];exact h3.2.2⟩,λj hj=>?_⟩⟩;rcases hk j with h|⟨c,h,hc⟩
 ·have:=h4 j (by omega);rw[getD_eq_getElem?_getD] at this ⊢;rw[h];exact this
 ·rw[getD_eq_getElem?_getD,h];exact hc
theorem vp{n:ah}(hn:n∈iZ a p):∃m∈bD a,m.id=n.id/\m.type=n.type/\m ∉ p.au:=by obtain⟨m,hm,e1,e2⟩:=(qq _ _).mem hn;obtain⟨h1,h2⟩:=mem_filter.1 hm;refine⟨m,h1,e1,e2,λh=>?_⟩;rw[any_eq_true.2 ⟨m,h,oM.2 rfl⟩] at h2;cases h2
theorem aex(h:b5 t a q){v:aO}(hv:v∈q.values):∃m∈bD a,m.id=v.id/\0<=v.attr/\InR t m.type v.attr.toNat v.new/\m ∉ q.au:=by
 obtain⟨n,hn,e1,e2,e3⟩:=abH q.values _ h.ord.va h.va v hv;obtain⟨m,hm,g1,g2,g3⟩:=vp (p:=q) hn;have hf:=ac2 h.ok (n:=n) (by rw[ue];exact nI.2 (mem_append_left _ hn));have hl:v.attr.toNat<n.values.length:=by
  rcases lt_or_ge v.attr.toNat n.values.length with h|h
  ·exact h
  ·rw[getElem?_eq_none h] at e3;cases e3
 have:=(aaB.1 hf.2).2 _ hl;rw[getD_eq_getElem?_getD,e3] at this;exact⟨m,hm,g1.trans e1,e2,by rw[g2];exact this,g3⟩
structure yt(q' q:aF):Prop where
 rn:q'.au.Sublist q.au
 re:q'.aC=q.aC
 an:q'.aM=q.aM
 ae:q'.aK.Sublist q.aK
 va:q'.values.Sublist q.values
 next:q'.next=q.next
theorem yt.refl(q:aF):yt q q:=⟨Sublist.refl _,rfl,rfl,Sublist.refl _,Sublist.refl _,rfl⟩
theorem aAn{v w:aO}(h:ltV w v\/ltV v w)(n:ah):jy v (mF w n)=jy v n:=by
 unfold mF;split
 ·rename_i hf;unfold jy okV at hf ⊢;simp only[and_eq_true,not_eq_true',decide_eq_true_eq,decide_eq_false_iff_not] at hf;by_cases he:n.id=v.id
  ·have hne:v.attr≠w.attr:=by rcases h with h|h<;>unfold ltV at h<;>omega
   by_cases h0:v.attr<0
   ·simp[h0]
   have e:(n.values.set w.attr.toNat w.new).getD v.attr.toNat default=n.values.getD v.attr.toNat default:=by rw[getD_eq_getElem?_getD,getD_eq_getElem?_getD,getElem?_set_ne (by omega)]
   dsimp only;rw[e,length_set]
  ·simp[he]
 ·rfl
theorem vZ:∀ (r:List aO) (l:List ah),r.Pairwise ltV->((eB l r).2=true↔∀v∈r,l.any (jy v)=true)
 | [],l,_=>⟨λ_ v hv=>(by cases hv),λ_=>rfl⟩
 |v :: r,l,h=>by
  obtain⟨h1,h2⟩:=pairwise_cons.1 h;have e:∀w∈r,(l.map (mF v)).any (jy w)=l.any (jy w):=λw hw=>by rw[any_map];congr 1;funext n;exact aAn (.inl (h1 w hw)) n
  rw[eB];constructor
  ·intro hs;split at hs;rotate_left
   ·cases hs
   rename_i ha;intro w hw;rcases mem_cons.1 hw with rfl|hw
   ·exact ha
   ·rw[<-e w hw];exact (vZ r _ h2).1 hs w hw
  ·intro hs;rw[if_pos (hs v (mem_cons_self ..))];exact (vZ r _ h2).2 λw hw=>by rw[e w hw];exact hs w (mem_cons_of_mem _ hw)
theorem avx{α:Type}{q:α->α->Bool}{l r r':List α}(h:∀x∈r',x∈r){x:α}(hx:x∈less q l r):x∈less q l r':=by obtain⟨h1,h2⟩:=mem_filter.1 hx;refine mem_filter.2 ⟨h1,?_⟩;rw[not_eq_true',any_eq_false] at h2 ⊢;exact λy hy=>h2 y (h y hy)
theorem aAo{l r:List ah}{n:ah}(h1:n∈l)(h2:n ∉ r):n∈less dS l r:=by refine mem_filter.2 ⟨h1,?_⟩;rw[not_eq_true',any_eq_false];intro m hm e;exact h2 (oM.1 e ▸ hm)
theorem avy{l r:List ax}{n:ax}(h1:n∈l)(h2:n ∉ r):n∈less ql l r:=by refine mem_filter.2 ⟨h1,?_⟩;rw[not_eq_true',any_eq_false];intro m hm e;exact h2 (aay.1 e ▸ hm)
theorem aiV{l r:List ax}{n:ax}(h:n∈less ql l r):n∈l/\n ∉ r:=by obtain⟨h1,h2⟩:=mem_filter.1 h;refine⟨h1,λhr=>?_⟩;rw[any_eq_true.2 ⟨n,hr,aay.2 rfl⟩] at h2;cases h2
theorem ae5{m:ah}(h1:m∈bD a)(h2:m ∉ p.au):∃n∈iZ a p,n.id=m.id/\n.type=m.type:=by obtain⟨n,hn,e1,e2⟩:=ahr.mem (qq p.values (less dS (bD a) p.au)).symm (aAo h1 h2);exact⟨n,hn,e1,e2⟩
end
section
variable{t:Types}{a:az}{p q q':aF}
theorem aaC(h:fD t a){n:ah}(hn:n∈iZ a p):0<=n.id/\n.id<a.next:=h.nid.1 _ (acY hn)
theorem aal(h:fD t a){n:ax}(hn:n∈kO a p):0<=n.id/\n.id<a.next:=h.eid.1 _ (ae3 hn)
theorem ann(h:fD t a):iJ ah.id (iZ a p):=yf _ _ (vh h.xu)
theorem ano(h:fD t a):iJ ax.id (kO a p):=vh h.agu
theorem anp(h:fD t a)(ho:Ordered p)(hr:jK dS (bD a) p.au=true):(iZ a p).length+p.au.length=a.nodes.length:=by have h1:=abF (f:=ah.id) (λ_ _=>oM) p.au (bD a) h.xu (agB ho) hr;have h3:=(qq p.values (less dS (bD a) p.au)).len;rw[lH] at h1;exact (congrArg (· + p.au.length) h3).trans h1
theorem anq(h:fD t a)(ho:Ordered p)(hr:jK ql (dI a) p.aC=true):(kO a p).length+p.aC.length=a.ak.length:=by have h2:=abF (f:=ax.id) (λ_ _=>aay) p.aC (dI a) h.agu (agC ho) hr;rw[kG] at h2;exact h2
theorem anr(hf:fm t)(h:fD t a)(ho:Ordered p)(hn:p.next.x0=a.next)(h1:p.next.x1<=1000000)(hg:vj p)(bN:∀n∈p.aM,n.id<p.next.x1)(bE:∀n∈p.aK,n.id<p.next.x1)(ap:∀e∈p.aK,∀n∈p.aM,e.id≠n.id)
  (n40:(iZ a p).length+p.aM.length<=40) (e80:(kO a p).length+p.aK.length<=80) (fN:∀n∈iZ a p,aew t n) (gN:∀n∈p.aM,aew t n)
  (fE:∀e∈kO a p,aiT t (iZ a p++p.aM) e) (gE:∀e∈p.aK,aiT t (iZ a p++p.aM) e):fD t (bu a p):=by
 have nx:=h.next
 have g0:=hg.next
 have s1:kF (iZ a p++p.aM)=iZ a p++p.aM:=adX (ann h) ho.an λx hx y hy=>by have:=aaC h hx;have:=hg.n y hy;omega
 have s2:mR (kO a p++p.aK)=kO a p++p.aK:=adY (ano h) ho.ae λx hx y hy=>by have:=aal h hx;have:=hg.e y hy;omega
 unfold bu;rw[s1,s2];refine aAl hf h.host.types (by rw[length_append];exact n40) (by rw[length_append];exact e80) ((ann h).app ho.an λx hx y hy=>by have:=aaC h hx;have:=hg.n y hy;omega) ((ano h).app ho.ae λx hx y hy=>by have:=aal h hx;have:=hg.e y hy;omega) (by omega) (λn hn2=>?_) (λn hn2=>?_) (λe he n hn2=>?_) (λn hn2=>?_) (λe he=>?_)
 ·rcases mem_append.1 hn2 with k|k
  ·have:=aaC h k;omega
  ·have:=hg.n n k;have:=bN n k;omega
 ·rcases mem_append.1 hn2 with k|k
  ·have:=aal h k;omega
  ·have:=hg.e n k;have:=bE n k;omega
 ·rcases mem_append.1 he with k|k<;>rcases mem_append.1 hn2 with l|l
  ·exact λe2=>h.apart _ (ae3 k) (e2 ▸ acY l)
  ·have:=aal h k;have:=hg.n n l;omega
  ·have:=hg.e e k;have:=aaC h l;omega
  ·exact ap e k n l
 ·rcases mem_append.1 hn2 with k|k
  ·exact fN n k
  ·exact gN n k
 ·rcases mem_append.1 he with k|k
  ·exact fE e k
  ·exact gE e k
theorem ans(h:fD t a)(hv:∀v∈p.values,∀m∈bD a,m.id=v.id->InR t m.type v.attr.toNat v.new){n:ah}(hn:n∈iZ a p):aew t n:=by
 obtain⟨m,hm,e1,e2,e3,e4⟩:=aiU p.values _ n hn;have hm2:=(mem_filter.1 hm).1;refine aAm (ac2 h hm2) e2 e3 λk=>?_
 rcases e4 k with h1|⟨v,hv1,h2,h3,h4⟩
 ·exact .inl h1
 ·refine .inr ⟨v.new,h4,?_⟩;have:=hv v hv1 m hm2 (e1.trans h2.symm);rw[<-e2];rw[h3,toNat_natCast] at this;exact this
theorem aAp(h:b5 t a q){v:aO}(hv:v∈q.values){m:ah}(hm:m∈bD a)(e:m.id=v.id):InR t m.type v.attr.toNat v.new:=by obtain⟨m',hm',e1,_,h3,_⟩:=aex h hv;have:=h.tk.xu.inj hm' hm (e1.trans e.symm);subst this;exact h3
theorem kW(h:b5 t a q){n:ah} : n∈bD (bu a q)↔n∈iZ a q\/n∈q.aM:=by rw[ue,nI,mem_append]
theorem oD(h:b5 t a q){e:ax} : e∈dI (bu a q)↔e∈kO a q\/e∈q.aK:=by rw[akk h.ok,uE,mem_append]
theorem abI{N M:List ah}{e:ax}(h:aiT t N e)(hNM:∀n∈N,(n.id=e.src\/n.id=e.dst)->∃m∈M,m.id=n.id/\m.type=n.type):aiT t M e:=by obtain⟨h1,n,hn,m,hm,e1,e2,h2⟩:=h;obtain⟨n',hn',k1,k2⟩:=hNM n hn (.inl e1);obtain⟨m',hm',k3,k4⟩:=hNM m hm (.inr e2);exact⟨h1,n',hn',m',hm',k1.trans e1,k3.trans e2,by rw[k2,k4];exact h2⟩
theorem aey(hf:fm t)(h:b5 t a q)(hg:vj q)(hs:yt q' q)(c1:a.nodes.length+q'.aM.length<=40+q'.au.length)(c2:a.ak.length+q'.aK.length<=80+q'.aC.length):b5 t a q':=by
 have hT:=h.tk;have ho:Ordered q':=⟨h.ord.rn.sub hs.rn,by rw[hs.re];exact h.ord.re,by rw[hs.an];exact h.ord.an,h.ord.ae.sub hs.ae,Pairwise.sublist hs.va h.ord.va⟩;have hrn:jK dS (bD a) q'.au=true:=all_eq_true.2 λn hn=>all_eq_true.1 h.rn n (hs.rn.subset hn)
 have hre:jK ql (dI a) q'.aC=true:=by rw[hs.re];exact h.re
 have hn0:q'.next.x0=a.next:=by rw[hs.next];exact h.next
 have hg':vj q':=⟨by rw[hs.next];exact hg.next,λn hn=>by rw[hs.next];rw[hs.an] at hn;exact hg.n n hn,λn hn=>by rw[hs.next];exact hg.e n (hs.ae.subset hn)⟩;have hva:(eB (less dS (bD a) q'.au) q'.values).2=true:=(vZ _ _ ho.va).2 λv hv=>by obtain⟨n,hn,e⟩:=any_eq_true.1 ((vZ _ _ h.ord.va).1 h.va v (hs.va.subset hv));exact any_eq_true.2 ⟨n,avx (λx hx=>hs.rn.subset hx) hn,e⟩
 have keep:∀n∈bD (bu a q),∃m∈iZ a q'++q'.aM,m.id=n.id/\m.type=n.type:=λn hn=>by
  rcases (kW h).1 hn with k|k
  ·obtain⟨m,hm,e1,e2,e3⟩:=vp k;obtain⟨m',hm',e4,e5⟩:=ae5 (p:=q') hm λhx=>e3 (hs.rn.subset hx)
   exact⟨m',mem_append_left _ hm',e4.trans e1,e5.trans e2⟩
  ·exact⟨n,mem_append_right _ (by rw[hs.an];exact k),rfl,rfl⟩
 have l1:=anp hT ho hrn;have l2:=anq hT ho hre;refine⟨hT,⟨le_trans hs.rn.length_le h.small.rn,by rw[hs.re];exact h.small.re,by rw[hs.an];exact h.small.an,le_trans hs.ae.length_le h.small.ae,le_trans hs.va.length_le h.small.va⟩,ho,hn0,hrn,hre,hva,?_,?_⟩
 ·unfold gm;have free:∀m,a.next<=m->j6 (iZ a q') (kO a q') m=false:=λm hm=>by
   rw[eq_false_iff];intro hx;rcases aqx.1 hx with ⟨x,hx,e⟩|⟨x,hx,e⟩
   ·have:=aaC hT hx;omega
   ·have:=aal hT hx;omega
  rw[or_eq_false_iff,any_eq_false,any_eq_false];exact⟨λx hx=>by rw[free _ (by rw[<-hn0];exact hg'.n x hx)];simp,λx hx=>by rw[free _ (by rw[<-hn0];exact hg'.e x hx)];simp⟩
 ·have hid:=h.ids;refine anr hf hT ho hn0 (by rw[hs.next];exact h.n1.2) hg' (λn hn=>by rw[hs.next];rw[hs.an] at hn;exact (hid.1 n hn).2) (λn hn=>by rw[hs.next];exact (hid.2 n (hs.ae.subset hn)).2) (λe he n hn=>?_) (by omega) (by omega) (λn hn=>ans hT (λv hv m hm e=>aAp h (hs.va.subset hv) hm e) hn) (λn hn=>?_) (λe he=>?_) (λe he=>?_)
  ·intro e2;rw[hs.an] at hn;have q1:e∈dI (bu a q):=(oD h).2 (.inr (hs.ae.subset he));have q2:n∈bD (bu a q):=(kW h).2 (.inr hn);exact h.ok.apart _ (akc q1) (e2 ▸ wF q2)
  ·rw[hs.an] at hn;exact ac2 h.ok ((kW h).2 (.inr hn))
  ·have he2:e∈kO a q:=by unfold kO at he ⊢;rw[hs.re] at he;exact he
   exact abI (xF h.ok ((oD h).2 (.inl he2))) λn hn _=>keep n hn
  ·exact abI (xF h.ok ((oD h).2 (.inr (hs.ae.subset he)))) λn hn _=>keep n hn
def aCZ(p q:aF):Prop:=(∀id,bR p id=true->qX q id=false)/\∀id,bR q id=true->qX p id=false
theorem aam{id:Int} : bR p id=true↔∃n∈p.au,n.id=id:=gy
theorem aCu(hf:fm t)(h:p7 t a p q)(hu:aCZ p q)(hm:tooMany a p q=false)(hn:jK dS (bD (bu a p)) (cU p q).au=true)(he:jK ql (dI (bu a p)) (cU p q).aC=true):fD t (bu (bu a p) (cU p q)):=by
 have hp:=h.ap;have hq:=h.aq;have hT:=hp.tk;have hx:=hp.ok;have e0:p.next.x0=q.next.x0:=by rw[hp.next,hq.next]
 have d0:0<=p.next.x1-p.next.x0:=by have:=h.gp.next;omega
 have hgr:=agR h;have hnx:=h.next
 have ho:Ordered (cU p q):=⟨hq.ord.rn.sub filter_sublist,hq.ord.re.sub filter_sublist,iJ.map (Pairwise.imp (λk=>kj d0 k) hq.ord.an),iJ.map (Pairwise.imp (λk=>kj d0 k) hq.ord.ae),Pairwise.sublist filter_sublist hq.ord.va⟩;have hr0:(cU p q).next.x0=(bu a p).next:=rfl
 have hr1:(cU p q).next.x1=p.next.x1+q.next.x1-q.next.x0:=rfl
 have old:∀n∈iZ a q,bR p n.id=false->∃m∈iZ (bu a p) (cU p q),m.id=n.id/\m.type=n.type:=λn hn hr=>by
  obtain⟨m,hm,e1,e2,e3⟩:=vp hn;obtain⟨m1,hm1,e4,e5⟩:=ae5 (p:=p) hm λk=>by rw[aam.2 ⟨m,k,e1⟩] at hr;cases hr
  obtain⟨m2,hm2,e6,e7⟩:=ae5 (a:=bu a p) (p:=cU p q) ((kW hp).2 (.inl hm1)) λk=>by have k:=(mem_filter.1 k).1;have k2:=hq.ud k;have:=hT.xu.inj k2 hm e4;exact e3 (this ▸ k)
  exact⟨m2,hm2,e6.trans (e4.trans e1),e7.trans (e5.trans e2)⟩
 have fst:∀n∈bD (bu a p),bR q n.id=false->∃m∈iZ (bu a p) (cU p q),m.id=n.id/\m.type=n.type:=λn hn hr=>ae5 hn λk=>by have k:n∈q.au:=(mem_filter.1 k).1;rw[aam.2 ⟨n,k,rfl⟩] at hr;cases hr
 have add:∀n∈q.aM,oz q.next.x0 (p.next.x1-p.next.x0) n∈(cU p q).aM:=λn hn=>mem_map_of_mem hn
 have l1:=anp hx ho hn;have l2:=anq hx ho he;unfold tooMany at hm;rw[or_eq_false_iff] at hm;have t1:=dV hm.1;have t2:=dV hm.2;have hid:=hq.ids;have sh:∀m,q.next.x0<=m->m<q.next.x1->gi q.next.x0 (p.next.x1-p.next.x0) m<p.next.x1+q.next.x1-q.next.x0:=λm h1 h2=>by unfold gi;rw[if_pos h1];omega
 refine anr hf hx ho hr0 (by rw[hr1];omega) hgr (λn hn=>?_) (λn hn=>?_) (λe he2 n hn2=>?_) (by omega) (by omega) (λn hn=>ans hx (λv hv m hm e=>?_) hn) (λn hn=>?_) (λe he2=>?_) (λe he2=>?_)
 ·obtain⟨m,hm,rfl⟩:=mem_map.1 hn;rw[hr1];exact sh _ (h.gq.n m hm) (hid.1 m hm).2
 ·obtain⟨m,hm,rfl⟩:=mem_map.1 hn;rw[hr1];exact sh _ (h.gq.e m hm) (hid.2 m hm).2
 ·obtain⟨f,hf2,rfl⟩:=mem_map.1 he2;obtain⟨m,hm,rfl⟩:=mem_map.1 hn2;intro k;have k:=yo d0 (show gi q.next.x0 (p.next.x1-p.next.x0) f.id=gi q.next.x0 (p.next.x1-p.next.x0) m.id from k);exact hq.ok.apart _ (akc ((oD hq).2 (.inr hf2))) (k ▸ wF ((kW hq).2 (.inr hm)))
 ·-- a value of q at a node behind p
  have hv1:=(mem_filter.1 hv).1;obtain⟨m0,hm0,e1,_,h3,_⟩:=aex hq hv1;rcases (kW hp).1 hm with k|k
  ·obtain⟨m1,hm1,e2,e3,_⟩:=vp k;have:=hT.xu.inj hm0 hm1 (e1.trans (e.symm.trans e2.symm));subst this;rw[<-e3];exact h3
  ·have:=h.gp.n m k;have k2:=(hT.nid.1 _ (wF hm0)).2;have k3:=hp.next
   omega
 ·obtain⟨m,hm,rfl⟩:=mem_map.1 hn;exact (ac2 hq.ok ((kW hq).2 (.inr hm)):aew t m)
 ·-- an ia that aHv
  obtain⟨k1,k2⟩:=aiV he2;have hfe:=xF hx k1;refine abI hfe λn hn2 aD0=>?_
  have aJC:bR q n.id=false:=by
   rcases (oD hp).1 k1 with g|g
   ·obtain⟨g1,g2⟩:=aiV g;have hnq:e ∉ q.aC:=λhr=>k2 (mem_filter.2 ⟨hr,by
     rw[not_eq_true',any_eq_false];intro y hy ey;have ey:=ct ey;have:=hT.agu.inj g1 (hp.azG hy) ey;exact g2 (this ▸ hy)⟩)
    obtain⟨_,n1,hn1,m1,hm1,e1,e2,_⟩:=xF hq.ok ((oD hq).2 (.inl (avy g1 hnq)));have low:n.id<a.next:=by have:=adZ hT g;rcases aD0 with k|k<;>omega
    have key:∀z∈bD (bu a q),z.id=n.id->bR q n.id=false:=λz hz ez=>by
     rw[eq_false_iff];intro hr;obtain⟨r,hr1,hr2⟩:=aam.1 hr;rcases (kW hq).1 hz with w|w
     ·obtain⟨m,hm,e3,_,e4⟩:=vp w;have:=hT.xu.inj (hq.ud hr1) hm (hr2.trans (ez.symm.trans e3.symm));exact e4 (this ▸ hr1)
     ·have:=h.gq.n z w;have k3:=hq.next
      omega
    rcases aD0 with k|k
    ·exact key n1 hn1 (e1.trans k.symm)
    ·exact key m1 hm1 (e2.trans k.symm)
   ·rw[eq_false_iff];intro hr;have:=hu.2 _ hr;unfold qX at this;rw[any_eq_false] at this;refine this e g ?_;rw[or_eq_true];rcases aD0 with k|k
    ·exact .inl (dB k.symm)
    ·exact .inr (dB k.symm)
  obtain⟨m,hm,e1,e2⟩:=fst n hn2 aJC;exact⟨m,mem_append_left _ hm,e1,e2⟩
 ·-- an ia that q adds
  obtain⟨f,hf2,rfl⟩:=mem_map.1 he2;obtain⟨g0,n,hn2,m,hm2,e1,e2,g1⟩:=xF hq.ok ((oD hq).2 (.inr hf2));have key:∀z∈bD (bu a q),(z.id=f.src\/z.id=f.dst)->∃y∈iZ (bu a p) (cU p q)++(cU p q).aM,y.id=gi q.next.x0 (p.next.x1-p.next.x0) z.id/\y.type=z.type:=λz hz hez=>by
   rcases (kW hq).1 hz with w|w
   ·have aAv:z.id<q.next.x0:=by rw[hq.next];exact (aaC hT w).2
    have hr:bR p z.id=false:=by
     rw[eq_false_iff];intro hr;have:=hu.1 _ hr;unfold qX at this;rw[any_eq_false] at this;refine this f hf2 ?_;rw[or_eq_true];rcases hez with k|k
     ·exact .inl (dB k.symm)
     ·exact .inr (dB k.symm)
    obtain⟨y,hy,k1,k2⟩:=old z w hr;exact⟨y,mem_append_left _ hy,by rw[k1,vn aAv],k2⟩
   ·exact⟨_,mem_append_right _ (add z w),rfl,rfl⟩
  obtain⟨y1,hy1,k1,k2⟩:=key n hn2 (.inl e1);obtain⟨y2,hy2,k3,k4⟩:=key m hm2 (.inr e2);exact⟨g0,y1,hy1,y2,hy2,by rw[k1,e1];rfl,by rw[k3,e2];rfl,by rw[k2,k4];exact g1⟩
theorem aqE(hf:fm t)(h:p7 t a p q)(hu:aCZ p q):(eU t a p q).2=0\/(eU t a p q).2=3\/(eU t a p q).2=11:=by
 unfold eU;cases hm:tooMany a p q with
 |true=>rw[if_pos rfl];exact .inr (.inl rfl)
 |false =>
 rw[if_neg (by simp)];unfold nt;rw[if_neg (λk=>k (dU.2 h.ap.ok))];unfold vT;have d0:0<=p.next.x1-p.next.x0:=by have:=h.gp.next;omega
 have hq:=h.aq;have ho:Ordered (cU p q):=⟨hq.ord.rn.sub filter_sublist,hq.ord.re.sub filter_sublist,iJ.map (Pairwise.imp (λk=>kj d0 k) hq.ord.an),iJ.map (Pairwise.imp (λk=>kj d0 k) hq.ord.ae),Pairwise.sublist filter_sublist hq.ord.va⟩;have hs:Small (cU p q):=⟨le_trans (length_filter_le _ _) hq.small.rn,le_trans (length_filter_le _ _) hq.small.re,by simp[cU,mm,jw];exact hq.small.an,by simp[cU,mm,jw];exact hq.small.ae,le_trans (length_filter_le _ _) hq.small.va⟩;rw[if_neg (λk=>k (qW.2 ⟨hs,ho⟩)),if_neg (λk=>k rfl)];unfold adQ;by_cases h1:jK dS (bD (bu a p)) (cU p q).au=true/\jK ql (dI (bu a p)) (cU p q).aC=true;rotate_left
 ·rw[if_neg h1];exact .inr (.inr rfl)
 rw[if_pos h1];by_cases h2:(eB (less dS (bD (bu a p)) (cU p q).au) (cU p q).values).2=true;rotate_left
 ·rw[if_neg h2];exact .inr (.inr rfl)
 rw[if_pos h2];by_cases h3:gm (eB (less dS (bD (bu a p)) (cU p q).au) (cU p q).values).1 (less ql (dI (bu a p)) (cU p q).aC) (cU p q)=true
 ·rw[if_pos h3];exact .inr (.inr rfl)
 rw[if_neg h3];dsimp only;have:=dU.2 (aCu hf h hu hm h1.1 h1.2);unfold bu iZ kO at this;rw[if_neg (λk=>k this)];exact .inl rfl
end
def aan(P:aF)(c:aG)(b:Bool)(L:aF):aF :=
 if c.kind=3 then ⟨L.au,L.aC,L.aM,L.aK,aep L.values c,L.next⟩
 else if bR P c.id=b then ⟨L.au.filter (λn=>!decide (n.id=c.id)),L.aC,L.aM,L.aK,L.values,L.next⟩
 else if c.kind=1 then ⟨L.au,L.aC,L.aM,L.aK.filter (λe=>!(decide (e.src=c.id)||decide (e.dst=c.id))),L.values,L.next⟩
 else ⟨L.au,L.aC,L.aM,L.aK,aep L.values c,L.next⟩
structure ant(P:aF)(c:aG)(b:Bool)(L:aF):Prop where
 v3:c.kind=3->∀v∈L.values,¬ (v.id=c.id/\v.attr=c.attr)
 n:c.kind≠3->bR P c.id=b->∀n∈L.au,n.id≠c.id
 e:c.kind=1->bR P c.id≠b->∀e∈L.aK,e.src≠c.id/\e.dst≠c.id
 v:c.kind≠3->c.kind≠1->bR P c.id≠b->∀v∈L.values,¬ (v.id=c.id/\v.attr=c.attr)
section
variable{P Q p q L L':aF}{c:aG}{b:Bool}
theorem yt.trans(h:yt L' L)(k:yt L P):yt L' P:=⟨h.rn.trans k.rn,h.re.trans k.re,h.an.trans k.an,h.ae.trans k.ae,h.va.trans k.va,h.next.trans k.next⟩
theorem yt.xI(h:yt L P)(hp:ir P):ir L:=⟨le_trans h.rn.length_le hp.rn,by rw[h.re];exact hp.re,by rw[h.an];exact hp.an,le_trans h.ae.length_le hp.ae,le_trans h.va.length_le hp.va,λn hn=>hp.rv n (h.rn.subset hn),λn hn=>by rw[h.an] at hn;exact hp.av n hn⟩
theorem ac3:yt (aan P c b L) L:=by
 have r:∀ {α:Type} (l:List α),l.Sublist l:=λl=>Sublist.refl l
 unfold aan;split
 ·exact⟨r _,rfl,rfl,r _,filter_sublist,rfl⟩
 split
 ·exact⟨filter_sublist,rfl,rfl,r _,r _,rfl⟩
 split
 ·exact⟨r _,rfl,rfl,filter_sublist,r _,rfl⟩
 ·exact⟨r _,rfl,rfl,r _,filter_sublist,rfl⟩
theorem anu{l:List aO} : ∀v∈aep l c,¬ (v.id=c.id/\v.attr=c.attr):=λv hv h=>by have:=(mem_filter.1 hv).2;unfold amT at this;rw[h.1,h.2,dB rfl,dB rfl] at this;cases this
theorem aiW:ant P c b (aan P c b L):=by
 unfold aan;split
 ·rename_i h;exact⟨λ_=>anu,λk=>absurd h k,λk=>(by omega),λk=>absurd h k⟩
 rename_i h;split
 ·rename_i h1;refine⟨λk=>absurd k h,λ_ _ n hn e=>?_,λ_ k=>absurd h1 k,λ_ _ k=>absurd h1 k⟩;have:=(mem_filter.1 hn).2;rw[e,dB rfl] at this;cases this
 rename_i h1;split
 ·rename_i h2;refine⟨λk=>absurd k h,λ_ k=>absurd k h1,λ_ _ e he=>?_,λ_ k=>absurd h2 k⟩;have:=(mem_filter.1 he).2;rw[not_eq_true',or_eq_false_iff] at this;exact⟨dV this.1,dV this.2⟩
 ·rename_i h2;exact⟨λk=>absurd k h,λ_ k=>absurd k h1,λk=>absurd k h2,λ_ _ _=>anu⟩
theorem ant.sub(h:ant P c b L)(k:yt L' L):ant P c b L':=⟨λa v hv=>h.v3 a v (k.va.subset hv),λa d n hn=>h.n a d n (k.rn.subset hn),λa d e he=>h.e a d e (k.ae.subset he),λa d f v hv=>h.v a d f v (k.va.subset hv)⟩
theorem aez{l:List aO}(h:l.length<=1000000)(c:aG):n9 l c=some (aep l c):=qJ h
theorem arA(hp:ir p)(hq:ir q)(c:aG)(k:Bool):sC p q c k=some (abA p q c k):=qJ ⟨hp.rn,hq.ae,hq.va⟩
theorem anv(hP:ir P)(hp:ir p)(hq:ir q):mB ⟨P,Q⟩ p q c b=some (if b=true then (aan P c b p,q) else (p,aan P c b q)):=by
 unfold mB aan;rw[aY];by_cases h3:c.kind=3
 ·rw[if_pos h3,if_pos h3,if_pos h3];cases b with
  |true=>rw[cond_true,aT (aez hp.va c),if_pos rfl]
  |false=>rw[cond_false,aT (aez hq.va c),if_neg (by decide)]
 rw[if_neg h3,if_neg h3,if_neg h3,aT (xy hP.rn c.id)];have e1:=arA hp hq c;have e2:=arA hq hp c;cases bR P c.id<;>cases b<;>by_cases h1:c.kind=1<;>simp[e1,e2,thn,abA,h1]
end
section
variable{t:Types}{a:az}{P Q p q:aF}
theorem avz(h:b5 t a p)(hg:vj p){id:Int}(hu:qX p id=true):bR p id=false:=by
 rw[eq_false_iff];intro hr;obtain⟨n,hn,e1⟩:=gy.1 hr;obtain⟨e,he,e2⟩:=uG.1 hu;obtain⟨_,n1,hn1,m1,hm1,k1,k2,_⟩:=xF h.ok ((oD h).2 (.inr he));have no:∀z∈bD (bu a p),z.id≠id:=λz hz ez=>by
  have hna:=h.ud hn;rcases (kW h).1 hz with w|w
  ·obtain⟨m,hm,e3,_,e4⟩:=vp w;have:=h.tk.xu.inj hna hm (e1.trans (ez.symm.trans e3.symm));exact e4 (this ▸ hn)
  ·have lt:=(h.tk.nid.1 _ (wF hna)).2;have:=hg.n z w;have:=h.next
   omega
 rcases e2 with e2|e2
 ·exact no n1 hn1 (k1.trans e2)
 ·exact no m1 hm1 (k2.trans e2)
theorem aAq(h:b5 t a p){v:aO}(hv:v∈p.values):bR p v.id=false:=by rw[eq_false_iff];intro hr;obtain⟨n,hn,e1⟩:=gy.1 hr;obtain⟨m,hm,e2,_,_,e3⟩:=h.value hv;have:=h.tk.xu.inj (h.ud hn) hm (e1.trans e2.symm);exact e3 (this ▸ hn)
theorem uJ{x:aG} : x∈xz p q↔(x∈wH p q++wH q p\/x∈wI p q++wI q p)\/x∈agE p q:=by unfold xz;rw[mem_append,mem_append];rw[(pU (K:=1) λx hx=>by rcases mem_append.1 hx with h|h<;>(obtain⟨id,_,_,rfl⟩:=mJ.1 h;rfl)).2 x];rw[(pU (K:=2) λx hx=>by rcases mem_append.1 hx with h|h<;>(obtain⟨id,_,_,rfl⟩:=mK.1 h;rfl)).2 x];rw[(pU (K:=3) λx hx=>by obtain⟨v,_,_,_,_,_,_,rfl⟩:=sX.1 hx;rfl).2 x]
theorem v7(h:yt p P){id:Int}(hr:bR p id=true):bR P id=true:=by obtain⟨n,hn,e⟩:=gy.1 hr;exact gy.2 ⟨n,h.rn.subset hn,e⟩
theorem agV(h:yt p P){id:Int}(hr:qX p id=true):qX P id=true:=by obtain⟨n,hn,e⟩:=uG.1 hr;exact uG.2 ⟨n,h.ae.subset hn,e⟩
structure ac4(P Q:aF)(b:Bool)(l:List aG)(p q:aF):Prop where
 sp:yt p P
 sq:yt q Q
 win:if b=true then q=Q else p=P
 done:∀c∈l,ant P c b (if b=true then p else q)
theorem akn{b:Bool}(h:p7 t a P Q)(hs:ac4 P Q b (xz P Q) p q):xz p q=[]:=by
 refine eq_nil_iff_forall_not_mem.2 λx hx=>?_
 rcases uJ.1 hx with (hx|hx)|hx
 ·rcases mem_append.1 hx with hx|hx
  ·obtain⟨id,h1,h2,rfl⟩:=mJ.1 hx;have r:=v7 hs.sp h1;have d:=hs.done _ (uJ.2 (.inl (.inl (mem_append_left _ (mJ.2 ⟨id,r,agV hs.sq h2,rfl⟩)))));cases b with
   |true=>obtain⟨n,hn,e⟩:=gy.1 h1;exact d.n (by simp) r n hn e
   |false =>
    obtain⟨e,he,k⟩:=uG.1 h2;obtain⟨k1,k2⟩:=d.e rfl (λz=>by rw[show bR P id=true from r] at z;cases z) e he;rcases k with k|k
    ·exact k1 k
    ·exact k2 k
  ·obtain⟨id,h1,h2,rfl⟩:=mJ.1 hx;have r:=avz h.ap h.gp (agV hs.sp h2);have d:=hs.done _ (uJ.2 (.inl (.inl (mem_append_right _ (mJ.2 ⟨id,v7 hs.sq h1,agV hs.sp h2,rfl⟩)))));cases b with
   |true =>
    obtain⟨e,he,k⟩:=uG.1 h2;obtain⟨k1,k2⟩:=d.e rfl (λz=>by rw[show bR P id=false from r] at z;cases z) e he;rcases k with k|k
    ·exact k1 k
    ·exact k2 k
   |false=>obtain⟨n,hn,e⟩:=gy.1 h1;exact d.n (by simp) r n hn e
 ·rcases mem_append.1 hx with hx|hx
  ·obtain⟨v,hv,h1,rfl⟩:=mK.1 hx;have r:=v7 hs.sp h1;have d:=hs.done _ (uJ.2 (.inl (.inr (mem_append_left _ (mK.2 ⟨v,hs.sq.va.subset hv,r,rfl⟩)))));cases b with
   |true=>obtain⟨n,hn,e⟩:=gy.1 h1;exact d.n (by simp) r n hn e
   |false=>exact d.v (by simp) (by simp) (λz=>by rw[show bR P v.id=true from r] at z;cases z) v hv ⟨rfl,rfl⟩
  ·obtain⟨v,hv,h1,rfl⟩:=mK.1 hx;have r:=aAq h.ap (hs.sp.va.subset hv);have d:=hs.done _ (uJ.2 (.inl (.inr (mem_append_right _ (mK.2 ⟨v,hs.sp.va.subset hv,v7 hs.sq h1,rfl⟩)))));cases b with
   |true=>exact d.v (by simp) (by simp) (λz=>by rw[show bR P v.id=false from r] at z;cases z) v hv ⟨rfl,rfl⟩
   |false=>obtain⟨n,hn,e⟩:=gy.1 h1;exact d.n (by simp) r n hn e
 ·obtain⟨v,hv,w,hw,e1,e2,e3,rfl⟩:=sX.1 hx;have d:=hs.done _ (uJ.2 (.inr (sX.2 ⟨v,hs.sp.va.subset hv,w,hs.sq.va.subset hw,e1,e2,e3,rfl⟩)));cases b with
  |true=>exact d.v3 rfl v hv ⟨rfl,rfl⟩
  |false=>exact d.v3 rfl w hw ⟨e1.symm,e2.symm⟩
theorem aiX(h:yt p P)(hg:vj P):vj p:=⟨by rw[h.next];exact hg.next,λn hn=>by rw[h.next];rw[h.an] at hn;exact hg.n n hn,λn hn=>by rw[h.next];exact hg.e n (h.ae.subset hn)⟩
theorem aD1(ht:fm t)(h:p7 t a p q)(hb:kN a)(hp:ir p)(hq:ir q):j7 t a p q=some (vX t a p q):=by
 unfold j7 vX;obtain⟨x,e,ex⟩:=vm ht h hb hp hq;rw[aT e,aY];by_cases h2:(eU t a p q).2=0
 ·rw[if_pos h2,if_neg (λh=>h h2),ex h2];obtain⟨k1,k2⟩:=yp hb h hp hq h2;rw[aT (vo ht h hb hp hq k1 k2),dB rfl,cond_true,aY];by_cases h3:0<(ahw t a p q (eU t a p q).1).length
  ·rw[if_pos (by simp only;omega),if_pos h3];rfl
  ·rw[if_neg (by simp only;omega),if_neg h3]
 ·rw[if_neg h2,if_pos h2];rfl
theorem gone(h:b5 t a p)(hg:vj p){n:ah}(hn:n∈p.au):n.id ∉ (bu a p).nodes:=λhx=>by
 have hna:=h.ud hn;rw[<-yh] at hx;obtain⟨z,hz,ez⟩:=mem_map.1 hx;rcases (kW h).1 hz with w|w
 ·obtain⟨m,hm,e3,_,e4⟩:=vp w;have:=h.tk.xu.inj hna hm (ez.symm.trans e3.symm);exact e4 (this ▸ hn)
 ·have lt:=(h.tk.nid.1 _ (wF hna)).2;have:=hg.n z w;have:=h.next
  omega
theorem agW(h:b5 t a p)(hg:vj p){id:Int}(h1:id ∉ a.nodes)(h2:id<a.next):id ∉ (bu a p).nodes:=λhx=>by
 rw[<-yh] at hx;obtain⟨z,hz,ez⟩:=mem_map.1 hx;rcases (kW h).1 hz with w|w
 ·exact h1 (ez ▸ acY w)
 ·have:=hg.n z w;have:=h.next
  omega
theorem aiY(h:b5 t a P)(hs:yt p P):jl a p=some (decide ((40:Int)<(a.nodes.length:Int)+p.aM.length-p.au.length)||decide ((80:Int)<(a.ak.length:Int)+p.aK.length-p.aC.length)):=by
 have n1:=h.tk.n40;have n2:=h.tk.e80;have s1:=h.small.an;have s2:=h.small.ae;have s3:=h.small.rn;have s4:=h.small.re;have k1:=hs.rn.length_le;have k2:=hs.ae.length_le;have k3:=congrArg length hs.re;have k4:=congrArg length hs.an;unfold jl;rw[dA (n:=((a.nodes.length:Nat):Int)+((p.aM.length:Nat):Int)) (by omega),dA (n:=((a.nodes.length:Nat):Int)+((p.aM.length:Nat):Int)-((p.au.length:Nat):Int)) (by omega)];rw[dA (n:=((a.ak.length:Nat):Int)+((p.aK.length:Nat):Int)) (by omega),dA (n:=((a.ak.length:Nat):Int)+((p.aK.length:Nat):Int)-((p.aC.length:Nat):Int)) (by omega)];cases decide ((40:Int)<((a.nodes.length:Nat):Int)+((p.aM.length:Nat):Int)-((p.au.length:Nat):Int)) with
 |true=>rfl
 |false=>rw[cond_false,Bool.false_or]
def Won(t:Types)(W:aF)(R:az×Int):Prop:=(R.2=0/\fD t R.1/\agQ R.1 W.values/\∀n∈W.au,n.id ∉ R.1.nodes)\/R.2=11\/R.2=3
theorem aqF{b:Bool}(hf:fm t)(h:p7 t a P Q)(hs:ac4 P Q b (xz P Q) p q)(c1:a.nodes.length+p.aM.length<=40+p.au.length)(c2:a.ak.length+p.aK.length<=80+p.aC.length)(c3:a.nodes.length+q.aM.length<=40+q.au.length)(c4:a.ak.length+q.aK.length<=80+q.aC.length) :
  p7 t a p q/\Won t (if b=true then Q else P) (vX t a p q):=by
 have hp:=aey hf h.ap h.gp hs.sp c1 c2;have hq:=aey hf h.aq h.gq hs.sq c3 c4;have hB:p7 t a p q:=⟨hp,hq,aiX hs.sp h.gp,aiX hs.sq h.gq,by rw[hs.sp.next,hs.sq.next];exact h.next⟩;refine⟨hB,?_⟩;have hc:qv a p q=[]:=by rw[<-xB hp hq];exact akn h hs
 obtain⟨_,u1,u2,_⟩:=adW hc hp hq;have he:=aqE hf hB ⟨u1,u2⟩;generalize hW:(if b=true then Q else P)=W;unfold vX;by_cases h2:(eU t a p q).2=0;rotate_left
 ·rw[if_pos h2];unfold Won;dsimp only;omega
 rw[if_neg (λk=>k h2)];split
 ·exact .inr (.inl rfl)
 obtain⟨em,hR⟩:=aiy h2;have hgr:=agR hB;obtain⟨g1,g2⟩:=aqz hB hc hR;refine .inl ⟨rfl,?_⟩;rw[em];refine⟨hR.ok,?_,λn hn=>?_⟩
 ·cases b with
  |true=>have w:q=Q:=hs.win;subst w;have hW:q=W:=hW;subst hW;exact g2
  |false=>have w:p=P:=hs.win;subst w;have hW:p=W:=hW;subst hW;exact g1
 ·have lt:∀m∈bD a,m.id<(bu a p).next:=λm hm=>by
   have k1:=(hp.tk.nid.1 _ (wF hm)).2;have k2:=hB.gp.next
   have k3:=hp.next
   show m.id<p.next.x1
   omega
  cases b with
  |false=>have w:p=P:=hs.win;subst w;have hW:p=W:=hW;subst hW;exact agW hR hgr (gone hp hB.gp hn) (lt n (hp.ud hn))
  |true =>
   have w:q=Q:=hs.win;subst w;have hW:q=W:=hW;subst hW;cases hr:bR p n.id with
   |true=>obtain⟨m,hm,e⟩:=gy.1 hr;have:=gone hp hB.gp hm;rw[e] at this;exact agW hR hgr this (lt n (hq.ud hn))
   | false => exact gone hR hgr (mem_filter.2 ⟨hn, by
     rw[not_eq_true'];exact hr⟩)
theorem aiZ{b:Bool}(hf:fm t)(hb:kN a)(hP:ir P)(hQ:ir Q)(h:p7 t a P Q)(hl:(xz P Q).length<=100){ch:List Int}(hch:(b=false/\ch=[])\/(b=true/\ch=replicate 100 1)):Ok (kV t a P Q ch) (Won t (if b=true then Q else P)):=by
 have hcl:ch.length<=100:=by rcases hch with ⟨_,rfl⟩|⟨_,rfl⟩<;>simp
 have adq:ch.any (λn=>!decide (n=0) && !decide (n=1))=false:=by
  rw[any_eq_false];intro n hn;rcases hch with ⟨_,rfl⟩|⟨_,rfl⟩
  ·cases hn
  ·rw[(mem_replicate.1 hn).2];decide
 unfold kV;refine ok_eq (wG hf hb hP hQ) ?_;refine af8 (dB (mW.2 h)) ?_;refine ahk (gf (by omega)) ?_;refine ok_eq (oW (p:=λx=>jW x) (λn=>!decide (n=0) && !decide (n=1)) (by omega) λn _=>?_) ?_
 ·unfold jW;cases decide (n=0)<;>rfl
 refine ahk adq ?_;refine ok_eq (p9 h.ap h.aq hb.host) ?_;generalize hC:xz P Q=l at hl;refine cC (bB (by omega)) ?_;refine sB (λi (s:(List ah)×(List ax)×(List ah)×(List ax)×(List aO)×Int×Int×(List ah)×(List ax)×(List ah)×(List ax)×(List aO)×Int×Int) =>
  ac4 P Q b (l.take i) ⟨s.2.2.2.2.2.2.2.1,s.2.2.2.2.2.2.2.2.1,s.2.2.2.2.2.2.2.2.2.1,s.2.2.2.2.2.2.2.2.2.2.1,s.2.2.2.2.2.2.2.2.2.2.2.1,⟨s.2.2.2.2.2.2.2.2.2.2.2.2.1,s.2.2.2.2.2.2.2.2.2.2.2.2.2⟩⟩ ⟨s.1,s.2.1,s.2.2.1,s.2.2.2.1,s.2.2.2.2.1,⟨s.2.2.2.2.2.1,s.2.2.2.2.2.2.1⟩⟩) (zero_le _) ?_ ?_ ?_
 ·refine⟨yt.refl P,yt.refl Q,?_,λc hc=>(by rw[take_zero] at hc;cases hc)⟩;cases b<;>rfl
 ·rintro i s cH _ hi hs hn;refine tK hi ?_;have hp:=hs.sp.xI hP;have hq:=hs.sq.xI hQ;have step:∀ (p q:aF),ac4 P Q b (l.take i) p q->ac4 P Q b (l.take (i+1)) (if b=true then (aan P l[i] b p,q) else (p,aan P l[i] b q)).1 (if b=true then (aan P l[i] b p,q) else (p,aan P l[i] b q)).2:=λp q hs=>by
   have tk:∀c,c∈l.take (i+1)->c∈l.take i\/c=l[i]:=λc hc=>by
    rw[take_succ_eq_append_getElem hi] at hc;rcases mem_append.1 hc with k|k
    ·exact .inl k
    ·exact .inr (mem_singleton.1 k)
   cases b with
   |true =>
    refine⟨ac3.trans hs.sp,hs.sq,hs.win,λc hc=>?_⟩;rcases tk c hc with k|k
    ·exact (hs.done c k).sub ac3
    ·subst k;exact aiW
   |false =>
    refine⟨hs.sp,ac3.trans hs.sq,hs.win,λc hc=>?_⟩;rcases tk c hc with k|k
    ·exact (hs.done c k).sub ac3
    ·subst k;exact aiW
  refine cW (λc1=>?_) (λc1=>?_)
  ·have c1:=ct c1;refine tK c1 ?_;rcases hch with ⟨_,rfl⟩|⟨k,rfl⟩
   ·exact absurd c1 (not_lt_zero _)
   ·subst k;rw[dB (getElem_replicate c1)];refine ok_eq (anv (Q:=Q) (b:=true) hP hp hq) ?_;exact hn _ (step _ _ hs)
  ·have c1:=dV c1;rcases hch with ⟨k,rfl⟩|⟨_,rfl⟩
   ·subst k;refine ok_eq (anv (Q:=Q) (b:=false) hP hp hq) ?_;exact hn _ (step _ _ hs)
   ·rw[length_replicate] at c1;omega
 ·rintro s hs;rw[take_length,<-hC] at hs;generalize hp:(⟨s.2.2.2.2.2.2.2.1,s.2.2.2.2.2.2.2.2.1,s.2.2.2.2.2.2.2.2.2.1,s.2.2.2.2.2.2.2.2.2.2.1,s.2.2.2.2.2.2.2.2.2.2.2.1,⟨s.2.2.2.2.2.2.2.2.2.2.2.2.1,s.2.2.2.2.2.2.2.2.2.2.2.2.2⟩⟩:aF)=p at hs ⊢;generalize hq:(⟨s.1,s.2.1,s.2.2.1,s.2.2.2.1,s.2.2.2.2.1,⟨s.2.2.2.2.2.1,s.2.2.2.2.2.2.1⟩⟩:aF)=q at hs ⊢;refine ok_eq (show jl ⟨a.host,a.nodes,a.ak,a.next⟩ p=_ from aiY h.ap hs.sp) ?_;refine cW (λ_=>.mk (.inr (.inr rfl))) (λk1=>?_);refine ok_eq (show jl ⟨a.host,a.nodes,a.ak,a.next⟩ q=_ from aiY h.aq hs.sq) ?_;refine cW (λ_=>.mk (.inr (.inr rfl))) (λk2=>?_);rw[or_eq_false_iff] at k1 k2;have d1:=dV k1.1;have d2:=dV k1.2;have d3:=dV k2.1;have d4:=dV k2.2;dsimp only at d1 d2 d3 d4;obtain⟨hB,hw⟩:=aqF hf h hs (by omega) (by omega) (by omega) (by omega);refine ok_eq (show j7 ⟨t.nodes,t.ak⟩ ⟨a.host,a.nodes,a.ak,a.next⟩ p q=_ from aD1 hf hB hb (hs.sp.xI hP) (hs.sq.xI hQ)) ?_;exact .mk hw
theorem ai0(h:p7 t a P Q)(hc:(qa t a P Q).1.length<=100)(h0:(qa t a P Q).2=0):(xz P Q).length<=100:=by
 rw[xB h.ap h.aq];by_cases h1:0<(qv a P Q).length
 ·unfold qa at hc;rw[if_neg (λk=>k (mW.2 h)),if_pos h1] at hc;exact hc
 ·omega
end
theorem aC0{t:Types}{m:az}{W:aF}{O:Option Bool}(hm:fD t m)(hW:ir W)(hg:agQ m W.values)(hr:∀n∈W.au,n.id ∉ m.nodes)
  (hO:O=cT (W.au.length<=fuel) (cr (λi (s:Unit) nx br=>thn (W.au[i]?) λe=>thn (eZ m.nodes e.id) λr=>cond r (some false) (nx ())) (W.au.length-0) 0 () λs=>thn (fC m W.values) λr=>some r)):O=some true:=by
 have n1:=hm.n40;have n2:=hW.rn;subst hO;refine Ok.eq (cC (bB (by omega)) (aki W.au (λ_=>True) (λi cH hi hn=>?_) (λ_=>ok_eq (aAi hm hW.va hg) (.mk rfl))));refine tK hi ?_;refine ok_eq (rI (by omega) _) ?_;exact ahk (gf (hr _ (nS hi))) (hn trivial)
theorem ako{d:bT}(hd:agU d)(b:Bool):gd d b=some true:=by
 obtain⟨R,e,h⟩:=aCs hd;unfold gd;rw[aT e,aT agN,cond_true];cases hb:R.2.2 with
 |false=>rw[cond_false,aT agN]
 |true =>
 have P:=h hb;have hc0:(qa R.1 R.2.1.a R.2.1.p R.2.1.q).2=0:=P.aF5;rw[cond_true];cases b with
 |true =>
  rw[cond_true,aT (show pe [1] 100=some (replicate 100 1) from qJ (by decide)),aT (aah P.xJ P.xI P.bp P.bq),hc0,dB rfl,cond_true,aY];by_cases h1:(qa R.1 R.2.1.a R.2.1.p R.2.1.q).1.length<=100;rotate_left
  ·rw[if_pos (by omega)]
  rw[if_neg (by omega)];obtain⟨r,er,hw⟩:=aiZ (b:=true) P.xJ P.xI P.bp P.bq P.both (ai0 P.both h1 hc0) (ch:=replicate 100 1) (.inr ⟨rfl,rfl⟩);rw[aT er];rcases hw with ⟨w0,w1,w2,w3⟩|w|w
  ·rw[w0,dB rfl,cond_true];exact aC0 w1 P.bq w2 w3 rfl
  ·rw[w];rfl
  ·rw[w];rfl
 |false =>
  rw[cond_false,aT (aah P.xJ P.xI P.bp P.bq),hc0,dB rfl,cond_true,aY];by_cases h1:(qa R.1 R.2.1.a R.2.1.p R.2.1.q).1.length<=100;rotate_left
  ·rw[if_pos (by omega)]
  rw[if_neg (by omega)];obtain⟨r,er,hw⟩:=aiZ (b:=false) P.xJ P.xI P.bp P.bq P.both (ai0 P.both h1 hc0) (ch:=[]) (.inl ⟨rfl,rfl⟩);rw[aT er];rcases hw with ⟨w0,w1,w2,w3⟩|w|w
  ·rw[w0,dB rfl,cond_true];exact aC0 w1 P.bp w2 w3 rfl
  ·rw[w];rfl
  ·rw[w];rfl
end Go.Proofs.YtjhkgjlmiolfoaaGreat
