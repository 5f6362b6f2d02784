/- Joined texts, part 6: lemmas for the statement. No condition. -/
import Derived.Test.YtllicmcihlfajaaGreatJ4
import Derived.Test.YtllicmcihlfajaaGreatJ5
set_option maxHeartbeats 4000000
set_option linter.unusedSimpArgs false
set_option linter.unusedVariables false
open Nat (reduceEqDiff reduceLT reduceLeDiff reduceMul reduceAdd reduceSub)
open Go.Proofs.Tryz
namespace Go.cE
open Go.RowKit
variable {P:Program} {N:Nat} {own:List Nat} {ops:Array Oper} {K:Env->ay->Prop} {env:Env} {H:ay}
def uW:List (Nat×Nat×AV)->(Nat->Bool)->Env->Env
 | [],_,env=>env
 | (i,s,a) :: r,f,env=>λt=>if t=s then (if f i=true then a else env t) else uW r f env t
def mj (f:Nat->Bool) (j:Nat):Nat->Bool:=λi=>if i=j then true else f i
def aw3 (j:Nat) (vs:List (Nat×Nat×AV)):Prop:=∀x∈vs,x.1≠j
theorem aaS {f:Nat->Bool} {j:Nat} : ∀ {vs:List (Nat×Nat×AV)},aw3 j vs->uW vs (mj f j) env=uW vs f env
 | [],_=>rfl
 | (i,s,a) :: r,h=>by
  have h1:i≠j:=h (i,s,a) List.mem_cons_self; have h2:=aaS (f:=f) (vs:=r) λx hx=>h x (List.mem_cons_of_mem _ hx)
  funext t; simp only[uW,mj,if_neg h1,h2]
theorem ag4 {f:Nat->Bool} {j s:Nat} {v:AV} : ∀ {vs:List (Nat×Nat×AV)},(vs.map (·.1)).Nodup->(vs.map (·.2.1)).Nodup->(j,s,v)∈vs->uW vs (mj f j) env=ct (uW vs f env) s v
 | [],_,_,h=>by cases h
 | (i,s',a) :: r,h1,h2,h=>by
  rw[List.map_cons,List.nodup_cons] at h1 h2; rcases List.mem_cons.1 h with e | e
  ·simp only[Prod.mk.injEq] at e; obtain⟨rfl,rfl,rfl⟩:=e; have h3:uW r (mj f j) env=uW r f env:=aaS λx hx e=>h1.1 (List.mem_map.2 ⟨x,hx,e⟩)
   funext t; simp only[uW,ct,h3]; by_cases ht:t=s
   ·simp[ht,mj]
   ·simp[ht]
  ·have hne:i≠j:=λe2=>h1.1 (List.mem_map.2 ⟨_,e,e2.symm⟩)
   have hns:s'≠s:=λe2=>h2.1 (List.mem_map.2 ⟨_,e,e2.symm⟩)
   have h3:=ag4 (f:=f) h1.2 h2.2 e; funext t; simp only[uW,ct,h3]; by_cases ht:t=s'
   ·subst ht; rw[if_pos rfl,if_pos rfl,if_neg hns]; simp[mj,hne]
   ·rw[if_neg ht,if_neg ht]
def ae8 (f:Nat->Bool):List Edge->Prop
 | []=>True
 | e :: r=>(Region.binds .any e=true->f e.on=true)/\ae8 f r
theorem ae9 {f:Nat->Bool} : ∀ {l:List Edge},(∀e∈l,Region.binds .any e=true->f e.on=true)->ae8 f l
 | [],_=>trivial
 | e :: r,h=>⟨h e List.mem_cons_self,ae9 λx hx=>h x (List.mem_cons_of_mem _ hx)⟩
def azY (P:Program) (own:List Nat) (ops:Array Oper) (vs:List (Nat×Nat×AV)) (Hf:(Nat->Bool)->ay) (env:Env) (j:Nat) (o:Oper):Prop :=
 ∀f:Nat->Bool,f j=false->ae8 f o.after.toList->(∀i q,ops[i]? = some q->f i=true->ae8 f q.after.toList)->l8 ops o (uW vs f env)=some true/\∃pre v,fI P own o (ev (uW vs f env)) (Hf f)=some (pre,v,Hf (mj f j))/\pre /\
  (match o.dst with
  | some s=>(j,s,v)∈vs
  | none=>aw3 j vs)
def aoi (P:Program) (own:List Nat) (ops:Array Oper) (vs:List (Nat×Nat×AV)) (Hf:(Nat->Bool)->ay) (env:Env):Nat->List Oper->Prop
 | _,[]=>True
 | j,o :: r=>azY P own ops vs Hf env j o/\aoi P own ops vs Hf env (j+1) r
theorem ag5 {vs:List (Nat×Nat×AV)} {Hf:(Nat->Bool)->ay} : ∀ {l:List Oper} {k i:Nat} {o:Oper},aoi P own ops vs Hf env k l->l[i]? = some o->azY P own ops vs Hf env (k+i) o
 | [],_,_,_,_,h=>by simp at h
 | x :: r,k,0,o,h,ho=>by simp only[List.getElem?_cons_zero,Option.some.injEq] at ho; subst ho; exact h.1
 | x :: r,k,i+1,o,h,ho=>by have:=ag5 (i:=i) h.2 (by simpa using ho); rwa [Nat.add_assoc,Nat.add_comm 1 i] at this
def aw4 (own:List Nat) (ops:Array Oper) (N:Nat):Bool:=((List.range ops.size).all λj=>match ops[j]? with
 | some o=>o.after.toList.all (λe=>!Region.binds .any e||decide (e.on<j)) && !oW own ops o
 | none=>true)&&aeG N ops
theorem ag6:∀ (vs:List (Nat×Nat×AV)),uW vs (λ_=>false) env=env
 | []=>rfl
 | (i,s,a) :: r=>by funext t; simp only[uW,ag6 r]; split<;>simp
def dn (listed:Array Bool):Nat->Bool:=λi=>listed.getD i false
theorem afa {listed:Array Bool} {j:Nat} (hj:j<listed.size):listed.getD j true=dn listed j:=by unfold dn; simp[hj]
theorem aw5 {listed:Array Bool} {j:Nat} (hj:j<listed.size):dn (listed.setIfInBounds j true)=mj (dn listed) j:=by
 funext i; unfold dn mj; simp only[Array.getD_eq_getD_getElem?,Array.getElem?_setIfInBounds]; by_cases h:j=i
 ·subst h; simp[hj]
 ·rw[if_neg h,if_neg λe=>h e.symm]
def left (n:Nat) (f:Nat->Bool):Nat:=(List.range n).countP λi=>!f i
theorem asI {n:Nat} {f:Nat->Bool} (h:left n f=0) (i:Nat) (hi:i<n):f i=true:=by unfold left at h; rw[List.countP_eq_zero] at h; have:=h i (List.mem_range.2 hi); simpa using this
theorem ag7 {f:Nat->Bool} {j:Nat} (hf:f j=false):∀n,j<n->left n (mj f j)+1=left n f
 | 0,h=>by omega
 | n+1,h=>by
  unfold left; rw[List.range_succ,List.countP_append,List.countP_append]; rcases Nat.lt_succ_iff_lt_or_eq.1 h with h1 | h1
  ·have:=ag7 hf n h1; unfold left at this; have e:mj f j n=f n:=by unfold mj; rw[if_neg (by omega)]
   simp only[List.countP_cons,List.countP_nil,e]; omega
  ·subst h1; have e:(List.range j).countP (λi=>!mj f j i)=(List.range j).countP λi=>!f i:=by apply List.countP_congr; intro x hx; have:=List.mem_range.1 hx; unfold mj; rw[if_neg (by omega)]
   rw[e]; simp[mj,hf]
theorem asJ {l:List Oper} (vs:List (Nat×Nat×AV)) (Hf:(Nat->Bool)->ay) (hok:aw4 own l.toArray N=true) (h1:(vs.map (·.1)).Nodup) (h2:(vs.map (·.2.1)).Nodup) (hH:Hf (λ_=>false)=H)
  (hs:aoi P own l.toArray vs Hf env 0 l) (hK:K (uW vs (λi=>decide (i<l.length)) env) (Hf λi=>decide (i<l.length))):xd P N own l.toArray K env H:=by
 unfold aw4 at hok; rw[Bool.and_eq_true] at hok; obtain⟨hok,hd⟩:=hok; have hsize:l.toArray.size=l.length:=by simp
 have hop:∀ (j:Nat) (o:Oper),l.toArray[j]? = some o->(∀e∈o.after,Region.binds .any e=true->e.on<j)/\oW own l.toArray o=false:=λj o ho=>by
  have hj:j<l.toArray.size:=(Array.getElem?_eq_some_iff.1 ho).1; have:=List.all_eq_true.1 hok j (List.mem_range.2 hj); rw[ho] at this; simp only[Bool.and_eq_true,Bool.not_eq_true',List.all_eq_true,Bool.or_eq_true,decide_eq_true_eq] at this; refine⟨λe he hb=>?_,this.2⟩; rcases this.1 e (by simpa using he) with h | h
  ·rw[hb] at h; cases h
  ·exact h
 have hend:∀listed:Array Bool,qy l.toArray listed->Region.ready .any l.toArray listed=[]->∀i,i<l.length->dn listed i=true:=λlisted hcl hr=>by
  intro i
  induction i using Nat.strongRecOn with
  | _ i ih =>
   intro hi; cases hv:dn listed i with
   | true=>rfl
   | false =>
    exfalso; have ho:l.toArray[i]? = some l[i]:=by simp[hi]
    have:i∈Region.ready .any l.toArray listed:=mem_ready.2 ⟨by rw[afa (by rw[hcl.1,hsize]; exact hi)]; exact hv,l[i],ho,λe he hb=>ih e.on ((hop i _ ho).1 e he hb) (Nat.lt_trans ((hop i _ ho).1 e he hb) hi)⟩; rw[hr] at this; cases this
 have aCs:∀listed:Array Bool,qy l.toArray listed->(∀i,i<l.length->dn listed i=true)->K (uW vs (dn listed) env) (Hf (dn listed)):=λlisted hcl hall=>by
  have e:dn listed=λi=>decide (i<l.length):=by
   funext i; by_cases hi:i<l.length
   ·rw[hall i hi,decide_eq_true hi]
   ·rw[decide_eq_false hi]; have hsz:=hcl.1; unfold dn; rw[Array.getD_eq_getD_getElem?,Array.getElem?_eq_none (by rw[hsz,hsize]; omega)]; rfl
  rw[e]; exact hK
 have main:∀ (fuel:Nat) (listed:Array Bool),qy l.toArray listed->left l.length (dn listed)<=fuel->ajI P own l.toArray (λ_=>false) K fuel listed (uW vs (dn listed) env) (Hf (dn listed)):=by
  intro fuel
  induction fuel with
  | zero =>
   intro listed hcl hle; have hall:∀i,i<l.length->dn listed i=true:=asI (by omega); refine⟨?_,aCs listed hcl hall⟩; apply List.eq_nil_iff_forall_not_mem.2; intro i hi; obtain⟨hun,o,ho,_⟩:=mem_ready.1 hi; have qg:i<l.length:=by have:=(Array.getElem?_eq_some_iff.1 ho).1; rwa [hsize] at this
   rw[afa (by rw[hcl.1,hsize]; exact qg),hall i qg] at hun; cases hun
  | succ fuel ih =>
   intro listed hcl hle; refine⟨λhr=>aCs listed hcl (hend listed hcl hr),λj hj=>?_⟩; obtain⟨hun,o,ho,aF2⟩:=mem_ready.1 hj; have hjl:j<l.length:=by have:=(Array.getElem?_eq_some_iff.1 ho).1; rwa [hsize] at this
   have hjs:j<listed.size:=by rw[hcl.1,hsize]; exact hjl
   have aCt:dn listed j=false:=by rw[<-afa hjs]; exact hun
   have hst:=ag5 (i:=j) hs (by simpa using ho); rw[Nat.zero_add] at hst; obtain⟨hg,pre,v,hx,hp,hv⟩:=hst (dn listed) aCt (ae9 λe he hb=>aF2 e (by simpa using he) hb) (λi q hq hf=>ae9 λe he hb=>hcl.2 i q hq hf e (by simpa using he) hb); have avs:=ih _ (hcl.set hj) (by have:=ag7 aCt l.length hjl; rw[aw5 hjs]; omega); rw[aw5 hjs] at avs; have hput:uW vs (mj (dn listed) j) env=cA (uW vs (dn listed) env) o.dst v:=by
    cases aCu:o.dst with
    | none=>rw[aCu] at hv; exact aaS hv
    | some s=>rw[aCu] at hv; exact ag4 h1 h2 hv
   rw[hput] at avs; unfold cE.aOp; rw[ho]; exact .inr ⟨hg,.inl ⟨ah1 (λh=>by rw[(hop j o ho).2] at h; cases h),.w,v,_,⟨pre,hx,hp⟩,avs⟩⟩
 intro C I L tm w hN aF3; have aAe:∀i b,i<l.toArray.size->(Array.replicate l.toArray.size false).getD i b=false:=λi b h=>by rw[Array.getD_eq_getD_getElem?,Array.getElem?_replicate,if_pos h]; rfl
 have hd0:dn (Array.replicate l.toArray.size false)=λ_=>false:=by
  funext i; unfold dn; rcases Nat.lt_or_ge i l.toArray.size with h | h
  ·exact aAe i false h
  ·rw[Array.getD_eq_getD_getElem?,Array.getElem?_replicate,if_neg (by omega)]; rfl
 have hcl:qy l.toArray (Array.replicate l.toArray.size false):=⟨Array.size_replicate,λj o hj hl=>by
  have h:=congrFun hd0 j; unfold dn at h; rw[h] at hl; cases hl⟩
 have aeD:=main l.toArray.size _ hcl (by rw[hd0,hsize]; unfold left; exact Nat.le_trans List.countP_le_length (by simp)); rw[hd0,ag6,hH] at aeD; have hs':gE C env H I L tm { w with drawn:=w.drawn+1 }:=(Fr.drew C I L H w) env tm aF3; exact qx (by rw[hN]; exact ym hd) (λenv' H' I' L' tm' w' hk aAx=>⟨rfl,rfl,env',H',I',L',hk,aAx⟩) l.toArray.size _ env H I L tm _ aeD hs'
end Go.cE
namespace Go.Proofs.YtllicmcihlfajaaGreat
open Go.cE
def stF (l:List aj) (v:Nat) (m:List ak) (u:Nat):List (Nat×Chunk):=[(1000000,.box [.row 1000001 v,.row 1000002 u]),(1000001,.row v 79 3 (l.map ag)),(1000002,.row u 84 4 (m.map ah))]
theorem acY (H:ay) (d:Nat) (c c':Chunk):bl (bl H d c) d c'=bl H d c':=by funext i; simp only[bl]; split<;>rfl
theorem aw6 (p:aG) (l:List aj) (m:List ak) (v u:Nat) (hl:l.length<=1000) (hm:m.length<=1000) (h1:p.aQ.length<=1000) (h2:p.aM.length<=1000)
  (hN:gr l m p=false->ak1 aj.id (l++p.aQ)) (hE:gr l m p=false->ak1 ak.id (m++p.aM)) (b:Bool) (hb:gr l m p=b) :
  ads Tryz.prog 182 (b7 (stF l v m u)) [.ptr 1000000 0,.p (.agg (aB p))] λa H=>ny a (.p (.val (.bool (!b))))/\aaK H (if b then stF l v m u else stF (kR (l++p.aQ)) (v+1) (nW (m++p.aM)) (u+1)):=by
 have hc1:=yE (λn=>kI l m n.id) p.aQ (by omega) 212 [] [.dJ [.dJ [.aU (l.map ag),.aU (m.map ah)] 0] 0] (λx _=>azp x l m (by omega) (by omega)); have yz:=yG (λn=>kI l m n.id) p.aM (by omega) 214 [] [.dJ [.dJ [.aU (l.map ag),.aU (m.map ah)] 0] 0] (λx _=>azq x l m (by omega) (by omega)); unfold gr at hb hN hE; refine yA [] Ty.mixed func182 rfl (by kernel_rfl) (by simp[ntmps182]) ?_; rw[ntmps182,results182]; simp -implicitDefEqProofs only[go_sem,aB,stF]; refine aY (hc1) (by simp -implicitDefEqProofs only[go_sem]<;>rfl) (bY rfl) ?_; simp -implicitDefEqProofs only[go_sem]; refine bO (λhx=>?_) (λhx=>?_)
 ·have hbt:b=true:=by rw[<-hb,hx]; rfl
  subst hbt; simp -implicitDefEqProofs only[go_sem,hx,aB,stF]
 simp -implicitDefEqProofs only[go_sem,hx]; refine aY (yz) (by simp -implicitDefEqProofs only[go_sem]<;>rfl) (bY rfl) ?_; simp -implicitDefEqProofs only[go_sem,hx]; refine aL (λhy=>?_) (λhy=>?_)
 ·have hbt:b=true:=by rw[<-hb,hx,hy]; rfl
  subst hbt; simp -implicitDefEqProofs only[go_sem,hx,hy,stF]
 have hbf:b=false:=by rw[<-hb,hx,hy]; rfl
 subst hbf; have hN':=hN (by rw[hx,hy]; rfl); have hE':=hE (by rw[hx,hy]; rfl); simp -implicitDefEqProofs only[go_sem]; refine asJ [(0,15,.ptr 1000000 0),(1,16,.ptr 1000000 0),(2,17,.ptr 1000000 0),(3,18,.ptr 1000000 0),(4,19,.ptr 1000000 0),(5,20,.row 1000001 v),(6,21,.ptr 3 2),(7,22,.p (.aU (p.aQ.map ag))),(8,23,.row 1000001 (v+1)),(9,24,.ptr 1000000 0),(10,25,.ptr 1000000 0),(11,26,.ptr 1000000 1),(12,27,.row 1000002 u),(13,28,.ptr 3 3),(14,29,.p (.aU (p.aM.map ah))),(15,30,.row 1000002 (u+1)),(16,31,.ptr 1000000 0),(17,32,.ptr 1000000 0),(19,33,.ptr 1000000 0),(20,34,.ptr 1000000 1)]
  (λf=>bl (bl (bl (bl (bl b8 1000002 (if f 15=true then .row (u+1) 84 4 ((m++p.aM).map ah) else .row u 84 4 (m.map ah)))
   1000001 (if f 8=true then .row (v+1) 79 3 ((l++p.aQ).map ag) else .row v 79 3 (l.map ag)))
   1000000 (.box [if f 18=true then .row 1000001 (v+1) else .row 1000001 v,if f 21=true then .row 1000002 (u+1) else .row 1000002 u])) 2 (.box [.ptr 1000000 0])) 3 (.box [.p (.aU (p.ax.map ag)),.p (.aU (p.aD.map ah)),.p (.aU (p.aQ.map ag)),.p (.aU (p.aM.map ah)),.p (.aU (p.values.map aH)),.p (.val (.int .i64 p.next.x0)),.p (.val (.int .i64 p.next.x1))])) (by kernel_rfl) (by simp) (by simp) ?_ ?_ ?_
 ·rfl
 ·refine⟨?_,?_,?_,?_,?_,?_,?_,?_,?_,?_,?_,?_,?_,?_,?_,?_,?_,?_,?_,?_,?_,?_,trivial⟩; all_goals
   intro f hf hd hcl; simp[ae8,Region.binds] at hd; have e5:f 5=false->f 18=false:=λh=>by
    cases hx:f 18 with
    | false=>rfl
    | true=>have:=hcl 18 _ rfl hx; simp[ae8,Region.binds,h] at this
   have vB:f 12=false->f 21=false:=λh=>by
    cases hx:f 21 with
    | false=>rfl
    | true=>have:=hcl 21 _ rfl hx; simp[ae8,Region.binds,h] at this
   try simp -implicitDefEqProofs only[go_sem,uW,hd,hf]
   first
    | exact⟨_,_,rfl,trivial,by simp<;>first | exact e5 hf | exact vB hf⟩
    | skip
  ·refine⟨_,_,Prod.ext rfl (Prod.ext rfl ?_),⟨by omega,λx hx=>?_⟩,by simp⟩
   ·rw[j7 _ _ _ (show (3:Nat)≠1000001 by decide),j7 _ _ _ (show (2:Nat)≠1000001 by decide),j7 _ _ _ (show (1000000:Nat)≠1000001 by decide),acY]; rfl
   ·obtain⟨y,_,rfl⟩:=List.mem_map.1 hx; rfl
  ·refine⟨_,_,Prod.ext rfl (Prod.ext rfl ?_),⟨by omega,λx hx=>?_⟩,by simp⟩
   ·rw[j7 _ _ _ (show (3:Nat)≠1000002 by decide),j7 _ _ _ (show (2:Nat)≠1000002 by decide),j7 _ _ _ (show (1000000:Nat)≠1000002 by decide),j7 _ _ _ (show (1000001:Nat)≠1000002 by decide),acY]; simp[mj,hd]
   ·obtain⟨y,_,rfl⟩:=List.mem_map.1 hx; rfl
  all_goals try (refine⟨_,_,Prod.ext rfl (Prod.ext rfl ?_),trivial,by simp⟩; simp[mj,hd]; done)
  all_goals
   refine⟨_,_,Prod.ext rfl (Prod.ext rfl ?_),trivial,by simp[aw3]⟩; rw[j7 _ _ _ (show (3:Nat)≠1000000 by decide),j7 _ _ _ (show (2:Nat)≠1000000 by decide),acY]; simp[mj,hd,hf]
 ·simp -implicitDefEqProofs only[go_sem,uW,List.length_cons,List.length_nil]; have hs1:=aiD (l++p.aQ) (by simp; omega) hN' (v+1); have hs2:=aiE (m++p.aM) (by simp; omega) hE' (u+1); refine abC (hs1) (by simp -implicitDefEqProofs only[go_sem]<;>rfl) (by simp -implicitDefEqProofs only[go_sem]<;>rfl) (by simp -implicitDefEqProofs only[go_sem]<;>rfl) (λh=>by cases h) ?_; simp -implicitDefEqProofs only[go_sem]; refine abC (hs2) (by simp -implicitDefEqProofs only[go_sem]<;>rfl) (by simp -implicitDefEqProofs only[go_sem]<;>rfl) (by simp -implicitDefEqProofs only[go_sem]<;>rfl) (λh=>by cases h) ?_; simp -implicitDefEqProofs only[go_sem,kR,nW]
end Go.Proofs.YtllicmcihlfajaaGreat
namespace Go.Proofs.YtllicmcihlfajaaGreat
open Go.cE
set_option maxRecDepth 20000
theorem acZ (a0:Types) (a1:az) (a2:aG) (r:az×Int) (h:jR a0 a1 a2=some r):aS Tryz.prog 120 [.agg [.aU (a0.nodes.map aJ),.aU (a0.au.map aK)],.agg (aA a1),.agg (aB a2)] (λv=>v = .dB [.agg (aA r.1),.val (.int .i64 r.2)]):=by
 unfold jR at h; refine aS.kP ?_; refine aR [] func120 ?_; rw[ntmps120,results120]; simp -implicitDefEqProofs only[go_sem,aB,aA]; obtain⟨e,he,h⟩:=nx h; refine aoZ (acX a2 e he) (by simp -implicitDefEqProofs only[go_sem,aB,aA]<;>rfl) (gJ _) (λh=>by cases h) ?_; simp -implicitDefEqProofs only[go_sem,aB,aA]; refine aX (λhc=>?_) (λhc=>?_)
 ·rw[hc,Bool.not_true,cond_false] at h; obtain⟨_,hg,h⟩:=nx h; obtain⟨⟨g1,g2,g3,g4,g5,g6,g7,g8,g9,g10⟩,_⟩:=sg hg; obtain⟨es,hes,h⟩:=nx h; obtain⟨_,hg,h⟩:=nx h; obtain⟨g11,_⟩:=sg hg; simp -implicitDefEqProofs only[go_sem,aB,aA]; refine ah8 [(0,.q),(2,.q),(1,.f),(3,.f),(4,.p),(5,.w),(6,.s)] (by kernel_rfl) ?_; simp -implicitDefEqProofs only[go_sem,aB,aA]; refine ad4 1304 (awG a1 g1 g2 (by omega) g4) (by simp -implicitDefEqProofs only[go_sem,aB,aA]<;>rfl) (gJ _) yp (by simp -implicitDefEqProofs only[go_sem,aB,aA]) (by simp -implicitDefEqProofs only[go_sem,aB,aA]) ?_; simp -implicitDefEqProofs only[go_sem,aB,aA]; refine ad4 1336 (rQ a1 es hes) (by simp -implicitDefEqProofs only[go_sem,aB,aA]<;>rfl) (gJ _) yp (by simp -implicitDefEqProofs only[go_sem,aB,aA]) (by simp -implicitDefEqProofs only[go_sem,aB,aA]) ?_; simp -implicitDefEqProofs only[go_sem,aB,aA]
  first | refine⟨⟨by decide,by decide⟩,?_⟩ | refine⟨by decide,?_⟩
  cases hn:decide (a2.next.x0=a1.next)
  ·rw[hn,Bool.not_false,cond_true] at h; cases h; simp -implicitDefEqProofs only[go_sem,hn,jy,aB,aA]; all_goals(and_intros)<;>rfl
  rw[hn,Bool.not_true,cond_false] at h; simp -implicitDefEqProofs only[go_sem,hn,aB,aA]; generalize hR:kY (bZ a1) a2.ax 0=R at h; generalize hS:mW es a2.aD 0=S at h; have hln:(bZ a1).length<=1000:=by simp[bZ]; exact g3
  have hvn:∀n∈bZ a1,n.values.length<=1000000:=λn hn=>by
   obtain⟨i,hi,rfl⟩:=List.mem_map.1 hn; have hi:i<a1.nodes.length:=by simpa using hi
   refine g4 _ ?_; have:i<a1.host.values.length:=by omega
   simp[bI,this]
  have hrm:=asH a2 (bZ a1) es 0 0 (by omega) (by omega) hvn (by omega) (by omega) g10 R hR S hS; refine .inr (.inr (.inr (j9 9 1000000 (by decide) (by simp -implicitDefEqProofs only[go_sem,aB,aA]) (j9 1304 1000001 (by decide) (by simp -implicitDefEqProofs only[go_sem,aB,aA]) (j9 1336 1000002 (by decide) (by simp -implicitDefEqProofs only[go_sem,aB,aA]) (abN hrm (by simp -implicitDefEqProofs only[go_sem,aB,aA]<;>rfl) (by simp -implicitDefEqProofs only[go_sem,stH,aB,aA]<;>rfl) ?_ ?_ ?_ ?_ ?_ ?_ ?_))))))
  ·simp -implicitDefEqProofs only[go_sem,stH,aB,aA]
  ·simp -implicitDefEqProofs only[go_sem,stH,aB,aA]
  ·simp -implicitDefEqProofs only[go_sem,stH,aB,aA]
  ·simp -implicitDefEqProofs only[go_sem,stH,aB,aA]
  ·simp -implicitDefEqProofs only[go_sem,stH,aB,aA]
  ·simp -implicitDefEqProofs only[go_sem,stH,aB,aA]
  simp -implicitDefEqProofs only[go_sem,stH,aB,aA]; cases hb1:(R.1&&S.1)
  ·rw[hb1,Bool.not_false,cond_true] at h; cases h; simp -implicitDefEqProofs only[go_sem,hb1,jy,aB,aA]; all_goals(and_intros)<;>rfl
  rw[hb1,Bool.not_true,cond_false] at h; obtain⟨hr1,hs1⟩:=Bool.and_eq_true_iff.1 hb1; obtain⟨_,hg,h⟩:=nx h; obtain⟨⟨g12,g13⟩,_⟩:=sg hg; simp -implicitDefEqProofs only[go_sem,hb1,hr1,aB,aA]; generalize hV:kZ R.2.1 a2.values=V at h; have hst:=aAY a2 R.2.1 S.2.1 R.2.2 S.2.2 (by omega) (by omega) V hV; refine sL (rM:=qF [(3,.ptr 3 0),(5,.ptr 5 0),(6,.ptr 6 0),(7,.p (.val (.int .i64 0))),(9,.ptr 9 0),(34,.p (.val (.bool false))),(35,.p (.agg (aB a2)))]) (H2:=b7 [(3,.box [.p (.aU (a0.nodes.map aJ)),.p (.aU (a0.au.map aK))]),(5,.box [.p (.aU (a2.ax.map ag)),.p (.aU (a2.aD.map ah)),.p (.aU (a2.aQ.map ag)),.p (.aU (a2.aM.map ah)),.p (.aU (a2.values.map aH)),.p (.val (.int .i64 a2.next.x0)),.p (.val (.int .i64 a2.next.x1))]),(6,.box [.p (.val (.slice none 0 0)),.p (.val (.slice none 0 0)),.p (.val (.slice none 0 0)),.p (.val (.slice none 0 0)),.p (.val (.slice none 0 0)),.p (.val (.int .i64 0))]),(9,.box [.eC 1304 R.2.2,.row 1336 S.2.2]),(1304,.deep R.2.2 79 3 2 3 1 (R.2.1.map ag)),(1336,.row S.2.2 84 4 (S.2.1.map ah))]) (yy (by simp -implicitDefEqProofs only[go_sem,hb1,hr1,aB,aA]<;>(first | exact keepTop (by repeat (first | exact azg _ | refine abU (by decide) ?_ | refine ad5 (by decide) (by decide) ?_)) (by simp -implicitDefEqProofs only[go_sem,aB,aA]) (by simp -implicitDefEqProofs only[go_sem,aB,aA]) (by simp -implicitDefEqProofs only[go_sem,aB,aA]) | skip))) (.inr (.inr (j9 9 1000000 (by decide) (by simp -implicitDefEqProofs only[go_sem,aB,aA]) (j9 1304 1000001 (by decide) (by simp -implicitDefEqProofs only[go_sem,aB,aA]) (j9 1336 1000002 (by decide) (by simp -implicitDefEqProofs only[go_sem,aB,aA]) (abN hst (by simp -implicitDefEqProofs only[go_sem,aB,aA]<;>rfl) (by simp -implicitDefEqProofs only[go_sem,stH,aB,aA]<;>rfl) ?_ ?_ ?_ ?_ ?_ ?_ ?_))))))
  ·simp -implicitDefEqProofs only[go_sem,stH,aB,aA]
  ·simp -implicitDefEqProofs only[go_sem,stH,aB,aA]
  ·simp -implicitDefEqProofs only[go_sem,stH,aB,aA]
  ·simp -implicitDefEqProofs only[go_sem,stH,aB,aA]
  ·simp -implicitDefEqProofs only[go_sem,stH,aB,aA]
  ·simp -implicitDefEqProofs only[go_sem,stH,aB,aA]
  simp -implicitDefEqProofs only[go_sem,stH,aB,aA]; cases hb2:V.1
  ·rw[hb2,Bool.not_false,cond_true] at h; cases h; simp -implicitDefEqProofs only[go_sem,hb2,jy,aB,aA]; all_goals(and_intros)<;>rfl
  rw[hb2,Bool.not_true,cond_false] at h; obtain⟨_,hg,h⟩:=nx h; obtain⟨⟨g14,g15⟩,_⟩:=sg hg; simp -implicitDefEqProofs only[go_sem,hb2,aB,aA]; cases hb3:gr V.2 S.2.1 a2
  ·rw[hb3,cond_false] at h; obtain⟨q1,q2⟩:=g15 hb3; have alL:=aw6 a2 V.2 S.2.1 R.2.2 S.2.2 (by omega) (by omega) (by omega) (by omega) (λ_=>q1) (λ_=>q2) false hb3; simp only[Bool.false_eq_true,if_false,Bool.not_false] at alL; refine sL (rM:=ao7 1304 (qF [(3,.ptr 3 0),(5,.ptr 5 0),(6,.ptr 6 0),(7,.p (.val (.int .i64 0))),(9,.ptr 9 0),(39,.p (.val (.bool false))),(40,.p (.agg (aB a2)))])) (H2:=aad 1304 (b7 [(3,.box [.p (.aU (a0.nodes.map aJ)),.p (.aU (a0.au.map aK))]),(5,.box [.p (.aU (a2.ax.map ag)),.p (.aU (a2.aD.map ah)),.p (.aU (a2.aQ.map ag)),.p (.aU (a2.aM.map ah)),.p (.aU (a2.values.map aH)),.p (.val (.int .i64 a2.next.x0)),.p (.val (.int .i64 a2.next.x1))]),(6,.box [.p (.val (.slice none 0 0)),.p (.val (.slice none 0 0)),.p (.val (.slice none 0 0)),.p (.val (.slice none 0 0)),.p (.val (.slice none 0 0)),.p (.val (.int .i64 0))]),(9,.box [.eC 1304 R.2.2,.row 1336 S.2.2]),(1304,.deep R.2.2 79 3 2 3 1 (V.2.map ag)),(1336,.row S.2.2 84 4 (S.2.1.map ah))])) (dP.trans (yy (by simp -implicitDefEqProofs only[go_sem,hb1,hr1,hb2,aB,aA]<;>(first | exact keepTop (by repeat (first | exact azg _ | refine abU (by decide) ?_ | refine ad5 (by decide) (by decide) ?_)) (by simp -implicitDefEqProofs only[go_sem,aB,aA]) (by simp -implicitDefEqProofs only[go_sem,aB,aA]) (by simp -implicitDefEqProofs only[go_sem,aB,aA]) | skip))) (ag0 1304 R.2.2 79 3 2 3 1 (V.2.map ag) (by decide) (by simp -implicitDefEqProofs only[go_sem,aB,aA]))) (.inr (.inr (j9 9 1000000 (by decide) (by simp -implicitDefEqProofs only[go_sem,aB,aA]) (j9 1304 1000001 (by decide) (by simp -implicitDefEqProofs only[go_sem,aB,aA]) (j9 1336 1000002 (by decide) (by simp -implicitDefEqProofs only[go_sem,aB,aA]) (abN alL (by simp -implicitDefEqProofs only[go_sem,aB,aA]<;>rfl) (by simp -implicitDefEqProofs only[go_sem,stF,aB,aA]<;>rfl) ?_ ?_ ?_ ?_ ?_ ?_ ?_))))))
   ·simp -implicitDefEqProofs only[go_sem,stF,aB,aA]
   ·simp -implicitDefEqProofs only[go_sem,stF,aB,aA]
   ·simp -implicitDefEqProofs only[go_sem,stF,aB,aA]
   ·simp -implicitDefEqProofs only[go_sem,stF,aB,aA]
   ·simp -implicitDefEqProofs only[go_sem,stF,aB,aA]
   ·simp -implicitDefEqProofs only[go_sem,stF,aB,aA]
   simp -implicitDefEqProofs only[go_sem,stF,aB,aA]; obtain⟨x,hx,h⟩:=nx h; generalize kR (V.2++a2.aQ)=sn at hx ⊢; generalize nW (S.2.1++a2.aM)=se at hx ⊢
   first | refine⟨⟨by decide,by decide⟩,?_⟩ | refine⟨by decide,?_⟩
   have hT:=(show aS _ _ _ (λv=>v = .dB [.agg (aA x.1),.val (.bool x.2)]) from (abX sn se a2.next.x1 x hx).aAi); refine sL (dP.trans (yy (l:=[(3,.ptr 3 0),(6,.ptr 6 0),(7,.p (.val (.int .i64 0))),(47,.row 1304 (R.2.2+1)),(49,.row 1336 (S.2.2+1)),(52,.p (.val (.int .i64 a2.next.x1)))]) (hl:=[(3,.box [.p (.aU (a0.nodes.map aJ)),.p (.aU (a0.au.map aK))]),(6,.box [.p (.val (.slice none 0 0)),.p (.val (.slice none 0 0)),.p (.val (.slice none 0 0)),.p (.val (.slice none 0 0)),.p (.val (.slice none 0 0)),.p (.val (.int .i64 0))]),(1304,.row (R.2.2+1) 79 3 (sn.map ag)),(1336,.row (S.2.2+1) 84 4 (se.map ah))]) (by simp -implicitDefEqProofs only[go_sem,hb1,hr1,hb2,aB,aA]<;>(first | exact keepTop (by repeat (first | exact azg _ | refine abU (by decide) ?_ | refine ad5 (by decide) (by decide) ?_ | refine awK (by decide) ?_)) (by simp -implicitDefEqProofs only[go_sem,aB,aA]) (by simp -implicitDefEqProofs only[go_sem,aB,aA]) (by simp -implicitDefEqProofs only[go_sem,aB,aA]) | skip))) (dP.trans (agH 1304 (R.2.2+1) 79 3 (sn.map ag) [47] (by simp -implicitDefEqProofs only[go_sem,aB,aA]<;>rfl) (by simp -implicitDefEqProofs only[go_sem,aB,aA]<;>and_intros<;>rfl) (by decide)) (agH 1336 (S.2.2+1) 84 4 (se.map ah) [49] (by simp -implicitDefEqProofs only[go_sem,aB,aA]<;>rfl) (by simp -implicitDefEqProofs only[go_sem,aB,aA]<;>and_intros<;>rfl) (by decide)))) (.inl (.inl ⟨[],vW (abB hT (by simp -implicitDefEqProofs only[go_sem,aB,aA]<;>rfl) (by first | exact yo | exact bY rfl)) ?_⟩)); simp -implicitDefEqProofs only[go_sem,aB,aA]; cases hx2:x.2
   ·rw[hx2,Bool.not_false,cond_true] at h; cases h; simp -implicitDefEqProofs only[go_sem,hx2,jy,aB,aA]; all_goals(and_intros)<;>rfl
   rw[hx2,Bool.not_true,cond_false] at h; obtain⟨e2,he2,h⟩:=nx h; simp -implicitDefEqProofs only[go_sem,hx2,aB,aA]; refine aoZ (oJ a0 x.1 e2 he2) (by simp -implicitDefEqProofs only[go_sem,aB,aA]<;>rfl) (gJ _) (by first | exact yo | exact bY rfl) ?_; simp -implicitDefEqProofs only[go_sem,aB,aA]; refine aX (λhv=>?_) (λhv=>?_)
   ·rw[hv,Bool.not_true,cond_false] at h; cases h; simp -implicitDefEqProofs only[go_sem,aB,aA]; all_goals(and_intros)<;>rfl
   ·rw[hv,Bool.not_false,cond_true] at h; cases h; simp -implicitDefEqProofs only[go_sem,jy,aB,aA]; all_goals(and_intros)<;>rfl
  ·rw[hb3,cond_true] at h; have alL:=aw6 a2 V.2 S.2.1 R.2.2 S.2.2 (by omega) (by omega) (by omega) (by omega) (λh=>by rw[hb3] at h; cases h) (λh=>by rw[hb3] at h; cases h) true hb3; simp only[if_true,Bool.not_true] at alL; cases h; refine sL (rM:=ao7 1304 (qF [(3,.ptr 3 0),(5,.ptr 5 0),(6,.ptr 6 0),(7,.p (.val (.int .i64 0))),(9,.ptr 9 0),(39,.p (.val (.bool false))),(40,.p (.agg (aB a2)))])) (H2:=aad 1304 (b7 [(3,.box [.p (.aU (a0.nodes.map aJ)),.p (.aU (a0.au.map aK))]),(5,.box [.p (.aU (a2.ax.map ag)),.p (.aU (a2.aD.map ah)),.p (.aU (a2.aQ.map ag)),.p (.aU (a2.aM.map ah)),.p (.aU (a2.values.map aH)),.p (.val (.int .i64 a2.next.x0)),.p (.val (.int .i64 a2.next.x1))]),(6,.box [.p (.val (.slice none 0 0)),.p (.val (.slice none 0 0)),.p (.val (.slice none 0 0)),.p (.val (.slice none 0 0)),.p (.val (.slice none 0 0)),.p (.val (.int .i64 0))]),(9,.box [.eC 1304 R.2.2,.row 1336 S.2.2]),(1304,.deep R.2.2 79 3 2 3 1 (V.2.map ag)),(1336,.row S.2.2 84 4 (S.2.1.map ah))])) (dP.trans (yy (by simp -implicitDefEqProofs only[go_sem,hb1,hr1,hb2,aB,aA]<;>(first | exact keepTop (by repeat (first | exact azg _ | refine abU (by decide) ?_ | refine ad5 (by decide) (by decide) ?_)) (by simp -implicitDefEqProofs only[go_sem,aB,aA]) (by simp -implicitDefEqProofs only[go_sem,aB,aA]) (by simp -implicitDefEqProofs only[go_sem,aB,aA]) | skip))) (ag0 1304 R.2.2 79 3 2 3 1 (V.2.map ag) (by decide) (by simp -implicitDefEqProofs only[go_sem,aB,aA]))) (.inr (.inr (j9 9 1000000 (by decide) (by simp -implicitDefEqProofs only[go_sem,aB,aA]) (j9 1304 1000001 (by decide) (by simp -implicitDefEqProofs only[go_sem,aB,aA]) (j9 1336 1000002 (by decide) (by simp -implicitDefEqProofs only[go_sem,aB,aA]) (abN alL (by simp -implicitDefEqProofs only[go_sem,aB,aA]<;>rfl) (by simp -implicitDefEqProofs only[go_sem,stF,aB,aA]<;>rfl) ?_ ?_ ?_ ?_ ?_ ?_ ?_))))))
   ·simp -implicitDefEqProofs only[go_sem,stF,aB,aA]
   ·simp -implicitDefEqProofs only[go_sem,stF,aB,aA]
   ·simp -implicitDefEqProofs only[go_sem,stF,aB,aA]
   ·simp -implicitDefEqProofs only[go_sem,stF,aB,aA]
   ·simp -implicitDefEqProofs only[go_sem,stF,aB,aA]
   ·simp -implicitDefEqProofs only[go_sem,stF,aB,aA]
   simp -implicitDefEqProofs only[go_sem,stF,jy,aB,aA]; all_goals(and_intros)<;>rfl
 ·rw[hc,Bool.not_false,cond_true] at h; cases h; simp -implicitDefEqProofs only[go_sem,aB,aA]; all_goals(and_intros)<;>rfl
end Go.Proofs.YtllicmcihlfajaaGreat
namespace Go.Proofs.YtllicmcihlfajaaGreat
open Go.cE
theorem oK (v:Nat) (l r:List aI) (h:gQ l=some r):j5 Tryz.prog 74 v 53 3 (l.map aC) [] (λa c=>a = .row 1000000 (v+1)/\c=some (.row (v+1) 53 3 (r.map aC))):=by obtain⟨⟨h1,K,h2⟩,rfl⟩:=sg h; exact aoh K l h1 h2 v
theorem adR (p q:aG) (r:aG) (h:rR p q=some r):bu Tryz.prog 75 [.agg (aB p),.agg (aB q)] (λv=>v = .agg [.row 79 3 (r.ax.map ag),.row 84 4 (r.aD.map ah),.p (.aU (r.aQ.map ag)),.p (.aU (r.aM.map ah)),.row 87 4 (r.values.map aH),.p (.val (.int .i64 r.next.x0)),.p (.val (.int .i64 r.next.x1))]):=by obtain⟨⟨h1,h2,h3,h4,h5,h6⟩,rfl⟩:=sg h; exact anX p q h1 h2 h3 h4 h5 h6 _ rfl
end Go.Proofs.YtllicmcihlfajaaGreat
set_option maxRecDepth 20000
namespace Go.Proofs.YtllicmcihlfajaaGreat
open Go.cE
noncomputable section
theorem aoj (a0:Types) (a1:Int) (a2:Int) (r:Bool) (h:tE a0 a1 a2=some r):aS Tryz.prog 227 [.agg [.aU (a0.nodes.map aJ),.aU (a0.au.map aK)],.val (.int .i64 a1),.val (.int .i64 a2)] (λv=>v = .val (.bool r)):=by
 refine aS.kP ?_; refine aR [] func227 ?_; rw[ntmps227,results227]; unfold tE at h; have F:=trivial; refine zK F h (af8 _ _) λr3 h=>?_
 refine nN F h (λF h=>?_) λF h=>?_
 ·refine zK F h (anS _ _ _) λr4 h=>?_
  exact zR h
 ·exact zR h
theorem xH (a0:dI) (r:Bool) (h:iT a0=some r):aS Tryz.prog 119 [.agg [.aU (a0.nodes.map encI),.aU (a0.au.map bf)]] (λv=>v = .val (.bool r)):=by
 refine aS.kP ?_; refine aR [] func119 ?_; rw[ntmps119,results119]; unfold iT at h; have F:=trivial; refine nN F h (λF h=>?_) λF h=>?_
 ·exact zR h
 ·exact zR h
theorem lM (a0:List ak) (r:Bool) (h:dH a0=some r):aS Tryz.prog 168 [.aU (a0.map ah)] (λv=>v = .val (.bool r)):=by
 refine aS.kP ?_; refine aR [] func168 ?_; rw[ntmps168,results168]; unfold dH at h; have F:=trivial; refine zV ?_; refine zN F h () [0] (λx=>[(3,.p (.val (.int .i64 ((x.1.1:Nat):Int))))]) [] (λx H=>[]) ?_ ?_
 ·intro i1 s1 g1 _ _ F Ns1 h; try dsimp only at h
  refine zD [.q,.q,.q,.q,.q,.q,.q,.q,.q,.q,.q,.q] ?_; refine zI ah F h λe2 F h=>?_
  refine zA ah F h λe3 F h=>?_
  refine zB F h (λF h=>?_) λF h=>?_
  ·exact zR h
  ·exact zX (z:=Ns1 _ () h zW)
 ·intro i1 s1 g1 _ F h; try dsimp only at h
  exact zR h
theorem iy (a0:aP) (a1:aO) (r:aP×Bool) (h:cD a0 a1=some r):bu Tryz.prog 174 [.agg [.aU (a0.nodes.map ag),.aU (a0.au.map ah)],.agg (aH a1)] (λv=>v = .dB [.agg [.row 79 3 (r.1.nodes.map ag),.p (.aU (r.1.au.map ah))],.p (.val (.bool r.2))]):=by
 refine bu.uT ?_; refine bF [61,64,77] func174 ?_; rw[ntmps174,results174]; unfold cD at h; have F:=trivial; refine zV ?_; refine zN F h (0:Nat) [2,3,4,6] (λx=>[(7,.p (.val (.bool x.1.2.2))),(8,.p (.val (.int .i64 ((x.1.1:Nat):Int))))]) [2,3,4] (λx H=>[(6,bx (H 6) [(0,.row 4647 x.2)]),(4647,.row x.2 79 3 (x.1.2.1.map ag))]) ?_ ?_ (hw:=by refine dP.trans (cC 6 0 4647 79 3 _ rfl rfl rfl (by decide)) ?_; exact zW)
 ·intro i2 s2 g2 _ _ F nk h; try dsimp only at h
  refine zI ag F h λe3 F h=>?_
  refine zD [.q,.q,.q,.q,.q,.q,.q,.q,.q,.q,.q,.q,.q,.q,.q,.q,.q,.q,.q,.q,.q,.q,.q,.q,.q,.q,.q,.q,.q,.q,.q,.q,.q,.q,.q,.q] ?_; refine zBd F h (λF h=>?_) λF h=>?_
  ·refine zBd F h (λF h=>?_) λF h=>?_
   ·refine zBd F h (λF h=>?_) λF h=>?_
    ·refine zA encI F h λe4 F h=>?_
     refine zBd F h (λF h=>?_) λF h=>?_
     ·refine kS F h (λF h=>?_) λF h=>?_
      ·refine zC F h λF h=>?_
       refine zF (eq_true (show (s2.1.length+1) * 40<=140737488355328 by omega)) F λF=>?_
       refine zF (bz ag s2.1 [e3] (c:=[[.val (.int .i64 e3.id),.val (.int .i64 e3.type),.aU (e3.values.map encI)]]) rfl) F λF=>?_
       exact zX (z:=nk _ (g2+1) h zW)
      ·refine zC F h λF h=>?_
       refine zF (eq_true (show (e3.values.length) * 8<=140737488355328 by omega)) F λF=>?_
       refine zF (eq_true (fz (n:=1) (f:=encI) (λ_=>rfl) e3.values)) F λF=>?_
       refine zF (abI encI e3.values a1.attr.toNat a1.new (c:=[.val (.int .i64 a1.new)]) rfl) F λF=>?_
       refine zC F h λF h=>?_
       refine zF (eq_true (show (s2.1.length+1) * 40<=140737488355328 by omega)) F λF=>?_
       refine zF (bz ag s2.1 [(⟨e3.id,e3.type,(e3.values.set a1.attr.toNat a1.new)⟩:aj)] (c:=[[.val (.int .i64 e3.id),.val (.int .i64 e3.type),.aU ((e3.values.set a1.attr.toNat a1.new).map encI)]]) rfl) F λF=>?_
       exact zX (z:=nk _ (g2+1) h zW)
     ·refine zC F h λF h=>?_
      refine zF (eq_true (show (s2.1.length+1) * 40<=140737488355328 by omega)) F λF=>?_
      refine zF (bz ag s2.1 [e3] (c:=[[.val (.int .i64 e3.id),.val (.int .i64 e3.type),.aU (e3.values.map encI)]]) rfl) F λF=>?_
      exact zX (z:=nk _ (g2+1) h zW)
    ·refine zC F h λF h=>?_
     refine zF (eq_true (show (s2.1.length+1) * 40<=140737488355328 by omega)) F λF=>?_
     refine zF (bz ag s2.1 [e3] (c:=[[.val (.int .i64 e3.id),.val (.int .i64 e3.type),.aU (e3.values.map encI)]]) rfl) F λF=>?_
     exact zX (z:=nk _ (g2+1) h zW)
   ·refine zC F h λF h=>?_
    refine zF (eq_true (show (s2.1.length+1) * 40<=140737488355328 by omega)) F λF=>?_
    refine zF (bz ag s2.1 [e3] (c:=[[.val (.int .i64 e3.id),.val (.int .i64 e3.type),.aU (e3.values.map encI)]]) rfl) F λF=>?_
    exact zX (z:=nk _ (g2+1) h zW)
  ·refine zC F h λF h=>?_
   refine zF (eq_true (show (s2.1.length+1) * 40<=140737488355328 by omega)) F λF=>?_
   refine zF (bz ag s2.1 [e3] (c:=[[.val (.int .i64 e3.id),.val (.int .i64 e3.type),.aU (e3.values.map encI)]]) rfl) F λF=>?_
   exact zX (z:=nk _ (g2+1) h zW)
 ·intro i2 s2 g2 _ F h; try dsimp only at h
  exact k9 h
end
end Go.Proofs.YtllicmcihlfajaaGreat
set_option maxRecDepth 20000
namespace Go.Proofs.YtllicmcihlfajaaGreat
open Go.cE
noncomputable section
theorem mF (a0:List aj) (p1:aj->Option Bool) (k1:FuncId) (fs1 cs1:List PV) (hp1:∀x0 r,p1 x0=some r->aS Tryz.prog k1 (fs1++[.agg (ag x0)]++cs1) (λv=>v = .val (.bool r))) (r:Int) (h:dX a0 p1=some r):aS Tryz.prog 184 [.aU (a0.map ag),.gR (.func k1) fs1 cs1] (λv=>v = .val (.int .i64 r)):=by
 refine aS.kP ?_; refine aR [] func184 ?_; rw[ntmps184,results184]; unfold dX at h; have F:=trivial; refine zV ?_; refine zN F h () [0,1,7] (λx=>[(8,.p (.val (.int .i64 ((x.1.1:Nat):Int))))]) [] (λx H=>[]) ?_ ?_
 ·intro i2 s2 g2 _ _ F nk h; try dsimp only at h
  refine zI ag F h λe3 F h=>?_
  refine zP F h (hp1 _) λr4 h=>?_
  refine zB F h (λF h=>?_) λF h=>?_
  ·exact zR h
  ·exact zX (z:=nk _ () h zW)
 ·intro i2 s2 g2 _ F h; try dsimp only at h
  exact zR h
theorem adS (a0:ak) (a1:aG) (r:Bool) (h:mC a0 a1=some r):aS Tryz.prog 124 [.agg (ah a0),.dJ (aB a1) 0] (λv=>v = .val (.bool r)):=by
 refine aS.kP ?_; refine aR [] func124 ?_; rw[ntmps124,results124]; unfold mC at h; have F:=trivial; refine zF (show (0:Int)<=0 by decide) F λF=>?_
 refine zF (show (0:Int)<((2:Nat):Int) by decide) F λF=>?_
 exact zR h
theorem xI (a0:Types) (r:Bool) (h:iS a0=some r):aS Tryz.prog 33 [.agg [.aU (a0.nodes.map aJ),.aU (a0.au.map aK)]] (λv=>v = .val (.bool r)):=by
 refine aS.kP ?_; refine aR [] func33 ?_; rw[ntmps33,results33]; unfold iS at h; have F:=trivial; refine sD F h (λF h=>?_) λF h=>?_
 ·exact zR h
 ·refine zB F h (λF h=>?_) λF h=>?_
  ·exact zR h
  ·refine zV ?_; refine zN F h () [1] (λx=>[(3,.p (.val (.int .i64 x.1.2))),(4,.p (.val (.int .i64 ((x.1.1:Nat):Int))))]) [1] (λx H=>[]) ?_ ?_
   ·intro i1 s1 g1 _ _ F Ns1 h; try dsimp only at h
    refine zI aJ F h λe2 F h=>?_
    refine sD F h (λF h=>?_) λF h=>?_
    ·exact zR h
    ·refine zB F h (λF h=>?_) λF h=>?_
     ·exact zR h
     ·refine zV ?_; refine zN F h () [1,3,4] (λx=>[(5,.p (.val (.int .i64 ((x.1.1:Nat):Int))))]) [1] (λx H=>[]) ?_ ?_
      ·intro i3 s3 g3 _ _ F wh h; try dsimp only at h
       refine zI aV F h λe4 F h=>?_
       refine sD F h (λF h=>?_) λF h=>?_
       ·exact zR h
       ·refine zB F h (λF h=>?_) λF h=>?_
        ·exact zR h
        ·refine zV ?_; refine zN F h () [1,3,4,5,6] (λx=>[(7,.p (.val (.int .i64 ((x.1.1:Nat):Int))))]) [1,6] (λx H=>[]) ?_ ?_
         ·intro i5 s5 g5 _ _ F Ns5 h; try dsimp only at h
          refine zI gC F h λe6 F h=>?_
          refine zB F h (λF h=>?_) λF h=>?_
          ·exact zR h
          ·exact zX (z:=Ns5 _ () h zW)
         ·intro i5 s5 g5 _ F h; try dsimp only at h
          exact zX (z:=wh _ () h zW)
      ·intro i3 s3 g3 _ F h; try dsimp only at h
       exact zX (z:=Ns1 _ () h zW)
   ·intro i1 s1 g1 _ F h; try dsimp only at h
    refine zV ?_; refine zN F h () [1] (λx=>[(8,.p (.val (.int .i64 ((x.1.1:Nat):Int))))]) [1] (λx H=>[]) ?_ ?_
    ·intro i7 s7 g7 _ _ F Ns7 h; try dsimp only at h
     refine zI aK F h λe8 F h=>?_
     refine zB F h (λF h=>?_) λF h=>?_
     ·exact zR h
     ·exact zX (z:=Ns7 _ () h zW)
    ·intro i7 s7 g7 _ F h; try dsimp only at h
     exact zR h
theorem iI (a0:List Int) (a1:List Int) (r:Bool) (h:c9 a0 a1=some r):aS Tryz.prog 49 [.aU (a0.map encI),.aU (a1.map encI)] (λv=>v = .val (.bool r)):=by
 refine aS.kP ?_; refine aR [] func49 ?_; rw[ntmps49,results49]; unfold c9 at h; have F:=trivial; refine kS F h (λF h=>?_) λF h=>?_
 ·refine zV ?_; refine zN F h () [0,1] (λx=>[(5,.p (.val (.int .i64 ((x.1.1:Nat):Int))))]) [] (λx H=>[]) ?_ ?_
  ·intro i2 s2 g2 _ _ F nk h; try dsimp only at h
   refine zD [.q,.q,.q,.q,.q,.q,.q,.q,.q] ?_; refine zI encI F h λe3 F h=>?_
   refine zI encI F h λe4 F h=>?_
   refine kS F h (λF h=>?_) λF h=>?_
   ·exact zX (z:=nk _ () h zW)
   ·exact zR h
  ·intro i2 s2 g2 _ F h; try dsimp only at h
   exact zR h
 ·exact zR h
theorem wq (a0:aG) (a1:Int) (r:Bool) (h:iD a0 a1=some r):aS Tryz.prog 146 [.agg (aB a0),.val (.int .i64 a1)] (λv=>v = .val (.bool r)):=by
 refine aS.kP ?_; refine aR [] func146 ?_; rw[ntmps146,results146]; unfold iD at h; have F:=trivial; refine zV ?_; refine zN F h () [1,2] (λx=>[(5,.p (.val (.int .i64 ((x.1.1:Nat):Int))))]) [2] (λx H=>[]) ?_ ?_
 ·intro i2 s2 g2 _ _ F nk h; try dsimp only at h
  refine zI ah F h λe3 F h=>?_
  refine zB F h (λF h=>?_) λF h=>?_
  ·exact zR h
  ·exact zX (z:=nk _ () h zW)
 ·intro i2 s2 g2 _ F h; try dsimp only at h
  exact zR h
end
end Go.Proofs.YtllicmcihlfajaaGreat
set_option maxRecDepth 20000
namespace Go.Proofs.YtllicmcihlfajaaGreat
open Go.cE
noncomputable section
theorem adT (a0:aj) (a1:aG) (r:Bool) (h:mB a0 a1=some r):aS Tryz.prog 122 [.agg (ag a0),.dJ (aB a1) 0] (λv=>v = .val (.bool r)):=by
 refine aS.kP ?_; refine aR [] func122 ?_; rw[ntmps122,results122]; unfold mB at h; have F:=trivial; refine zF (show (0:Int)<=0 by decide) F λF=>?_
 refine zF (show (0:Int)<((2:Nat):Int) by decide) F λF=>?_
 exact zR h
theorem mG (a0:List ak) (p1:ak->Option Bool) (k1:FuncId) (fs1 cs1:List PV) (hp1:∀x0 r,p1 x0=some r->aS Tryz.prog k1 (fs1++[.agg (ah x0)]++cs1) (λv=>v = .val (.bool r))) (r:Int) (h:dY a0 p1=some r):aS Tryz.prog 185 [.aU (a0.map ah),.gR (.func k1) fs1 cs1] (λv=>v = .val (.int .i64 r)):=by
 refine aS.kP ?_; refine aR [] func185 ?_; rw[ntmps185,results185]; unfold dY at h; have F:=trivial; refine zV ?_; refine zN F h () [0,1,7] (λx=>[(8,.p (.val (.int .i64 ((x.1.1:Nat):Int))))]) [] (λx H=>[]) ?_ ?_
 ·intro i2 s2 g2 _ _ F nk h; try dsimp only at h
  refine zI ah F h λe3 F h=>?_
  refine zP F h (hp1 _) λr4 h=>?_
  refine zB F h (λF h=>?_) λF h=>?_
  ·exact zR h
  ·exact zX (z:=nk _ () h zW)
 ·intro i2 s2 g2 _ F h; try dsimp only at h
  exact zR h
theorem ab3 (a0:aj) (a1:Int) (r:Bool) (h:kE a0 a1=some r):aS Tryz.prog 125 [.agg (ag a0),.dJ [.val (.int .i64 a1)] 0] (λv=>v = .val (.bool r)):=by refine aS.kP ?_; refine aR [] func125 ?_; rw[ntmps125,results125]; unfold kE at h; have F:=trivial; exact zR h
theorem p7 (a0:aP) (a1:ak) (r:aP×Bool) (h:cL a0 a1=some r):aS Tryz.prog 172 [.agg [.aU (a0.nodes.map ag),.aU (a0.au.map ah)],.agg (ah a1)] (λv=>v = .dB [.agg [.aU (r.1.nodes.map ag),.aU (r.1.au.map ah)],.val (.bool r.2)]):=by
 refine aS.kP ?_; refine aR [23,28] func172 ?_; rw[ntmps172,results172]; unfold cL at h; have F:=trivial; refine zV ?_; refine zN F h () [2,3,4] (λx=>[(6,.p (.val (.int .i64 ((x.1.1:Nat):Int))))]) [2,3,4] (λx H=>[]) ?_ ?_
 ·intro i2 s2 g2 _ _ F nk h; try dsimp only at h
  have Ws2:=F.2.2; refine zD [.q,.q,.q,.q,.q,.q,.q] ?_; refine zI ah F h λe3 F h=>?_
  refine zB F h (λF h=>?_) λF h=>?_
  ·refine zE [(0,.b),(1,.b),(3,.q),(4,.q),(5,.q),(6,.q),(8,.b),(9,.b),(2,.w),(7,.s),(10,.q),(11,.q),(12,.q),(13,.w),(14,.q),(15,.w),(16,.q)] ?_; refine zC F h λF h=>?_
   refine zF (eq_true (fz (n:=4) (f:=ah) (λ_=>rfl) a0.au)) F λF=>?_
   refine zC F h λF h=>?_
   refine zF (eq_true (show ((a0.au.take i2).length) * 32<=140737488355328 by omega)) F λF=>?_
   refine zF (eq_true (fz (n:=4) (f:=ah) (λ_=>rfl) (a0.au.take i2))) F λF=>?_
   refine zC F h λF h=>?_
   have w:=F.2; simp only[Ws2,Int.toNat_natCast] at w; replace F:=And.intro F w; refine zF (eq_true (fz (n:=4) (f:=ah) (λ_=>rfl) a0.au)) F λF=>?_
   refine zC F h λF h=>?_
   have w:=F.2; simp only[Ws2,Int.toNat_natCast] at w; replace F:=And.intro F w; refine zF (eq_true (show ((a0.au.take i2).length+(a0.au.drop (IntKind.i64.wrap (((i2:Nat):Int)+1)).toNat).length) * 32<=140737488355328 by omega)) F λF=>?_
   have w:=F.2; simp only[Ws2,Int.toNat_natCast] at w; replace F:=And.intro F w; refine zF (eq_true (fz (n:=4) (f:=ah) (λ_=>rfl) (a0.au.drop (IntKind.i64.wrap (((i2:Nat):Int)+1)).toNat))) F λF=>?_
   have w:=F.2; simp only[Ws2,Int.toNat_natCast] at w; replace F:=And.intro F w; exact zR h
  ·exact zX (z:=nk _ () h zW)
 ·intro i2 s2 g2 _ F h; try dsimp only at h
  exact zR h
theorem dW (a0:aG) (a1:Int) (r:Bool) (h:bA a0 a1=some r):aS Tryz.prog 83 [.agg (aB a0),.val (.int .i64 a1)] (λv=>v = .val (.bool r)):=by
 refine aS.kP ?_; refine aR [] func83 ?_; rw[ntmps83,results83]; unfold bA at h; have F:=trivial; refine zV ?_; refine zN F h () [1,2] (λx=>[(5,.p (.val (.int .i64 ((x.1.1:Nat):Int))))]) [2] (λx H=>[]) ?_ ?_
 ·intro i2 s2 g2 _ _ F nk h; try dsimp only at h
  refine zI ag F h λe3 F h=>?_
  refine zB F h (λF h=>?_) λF h=>?_
  ·exact zR h
  ·exact zX (z:=nk _ () h zW)
 ·intro i2 s2 g2 _ F h; try dsimp only at h
  exact zR h
theorem jA (a0:aG) (a1:Int) (a2:Int) (r:aO×Bool) (h:bX a0 a1 a2=some r):aS Tryz.prog 85 [.agg (aB a0),.val (.int .i64 a1),.val (.int .i64 a2)] (λv=>v = .dB [.agg (aH r.1),.val (.bool r.2)]):=by
 refine aS.kP ?_; refine aR [] func85 ?_; rw[ntmps85,results85]; unfold bX at h; have F:=trivial; refine zV ?_; refine zN F h () [1,2,3,6] (λx=>[(8,.p (.val (.int .i64 ((x.1.1:Nat):Int))))]) [3,6] (λx H=>[]) ?_ ?_
 ·intro i3 s3 g3 _ _ F wh h; try dsimp only at h
  refine zI aH F h λe4 F h=>?_
  refine nN F h (λF h=>?_) λF h=>?_
  ·refine zB F h (λF h=>?_) λF h=>?_
   ·exact zR h
   ·exact zX (z:=wh _ () h zW)
  ·exact zX (z:=wh _ () h zW)
 ·intro i3 s3 g3 _ F h; try dsimp only at h
  exact zR h
end
end Go.Proofs.YtllicmcihlfajaaGreat
set_option maxRecDepth 20000
namespace Go.Proofs.YtllicmcihlfajaaGreat
open Go.cE
noncomputable section
theorem tW  (r:Types) (h:gy  = some r):bu Tryz.prog 30 [] (λv=>v = .agg [.row 129 4 (r.nodes.map aJ),.row 131 7 (r.au.map aK)]):=by refine bu.uT ?_; refine bF [10,13] func30 ?_; rw[ntmps30,results30]; unfold gy at h; have F:=trivial; exact k9 h
theorem pX  (r:az) (h:gf  = some r):bu Tryz.prog 31 [] (λv=>v = .agg [.row 3 1 (r.host.graph.nodes.map encI),.row 133 3 (r.host.graph.au.map bf),.row 26 1 (r.host.values.map b9),.row 3 1 (r.nodes.map encI),.row 3 1 (r.au.map encI),.p (.val (.int .i64 r.next))]):=by refine bu.uT ?_; refine bF [1,4,8,10,11] func31 ?_; rw[ntmps31,results31]; unfold gf at h; have F:=trivial; exact k9 h
theorem nB (a0:aG) (r:Bool) (h:eL a0=some r):aS Tryz.prog 35 [.agg (aB a0)] (λv=>v = .val (.bool r)):=by
 refine aS.kP ?_; refine aR [] func35 ?_; rw[ntmps35,results35]; unfold eL at h; have F:=trivial; refine sD F h (λF h=>?_) λF h=>?_
 ·exact zR h
 ·refine nN F h (λF h=>?_) λF h=>?_
  ·refine zB F h (λF h=>?_) λF h=>?_
   ·exact zR h
   ·refine zV ?_; refine zN F h () [1] (λx=>[(4,.p (.val (.int .i64 ((x.1.1:Nat):Int))))]) [1] (λx H=>[]) ?_ ?_
    ·intro i1 s1 g1 _ _ F Ns1 h; try dsimp only at h
     refine zI ag F h λe2 F h=>?_
     refine zB F h (λF h=>?_) λF h=>?_
     ·exact zR h
     ·exact zX (z:=Ns1 _ () h zW)
    ·intro i1 s1 g1 _ F h; try dsimp only at h
     refine zV ?_; refine zN F h () [1] (λx=>[(5,.p (.val (.int .i64 ((x.1.1:Nat):Int))))]) [1] (λx H=>[]) ?_ ?_
     ·intro i3 s3 g3 _ _ F wh h; try dsimp only at h
      refine zI ag F h λe4 F h=>?_
      refine zB F h (λF h=>?_) λF h=>?_
      ·exact zR h
      ·exact zX (z:=wh _ () h zW)
     ·intro i3 s3 g3 _ F h; try dsimp only at h
      exact zR h
  ·refine zV ?_; refine zN F h () [1] (λx=>[(4,.p (.val (.int .i64 ((x.1.1:Nat):Int))))]) [1] (λx H=>[]) ?_ ?_
   ·intro i5 s5 g5 _ _ F Ns5 h; try dsimp only at h
    refine zI ag F h λe6 F h=>?_
    refine zB F h (λF h=>?_) λF h=>?_
    ·exact zR h
    ·exact zX (z:=Ns5 _ () h zW)
   ·intro i5 s5 g5 _ F h; try dsimp only at h
    refine zV ?_; refine zN F h () [1] (λx=>[(5,.p (.val (.int .i64 ((x.1.1:Nat):Int))))]) [1] (λx H=>[]) ?_ ?_
    ·intro i7 s7 g7 _ _ F Ns7 h; try dsimp only at h
     refine zI ag F h λe8 F h=>?_
     refine zB F h (λF h=>?_) λF h=>?_
     ·exact zR h
     ·exact zX (z:=Ns7 _ () h zW)
    ·intro i7 s7 g7 _ F h; try dsimp only at h
     exact zR h
theorem uX (a0:dI) (r:dI) (h:gO a0=some r):bu Tryz.prog 81 [.agg [.aU (a0.nodes.map encI),.aU (a0.au.map bf)]] (λv=>v = .agg [.row 3 1 (r.nodes.map encI),.row 133 3 (r.au.map bf)]):=by
 refine bu.uT ?_; refine bF [3,6,7,10] func81 ?_; rw[ntmps81,results81]; unfold gO at h; have F:=trivial; refine zE [(1,.q),(2,.q),(5,.b),(6,.b),(0,.w),(3,.s),(4,.w),(7,.s),(8,.q),(9,.w)] ?_; refine zC F h λF h=>?_
 refine zF (eq_true (show (a0.nodes.length) * 8<=140737488355328 by omega)) F λF=>?_
 refine zF (eq_true (fz (n:=1) (f:=encI) (λ_=>rfl) a0.nodes)) F λF=>?_
 refine zC F h λF h=>?_
 refine zF (eq_true (show (a0.au.length) * 24<=140737488355328 by omega)) F λF=>?_
 refine zF (eq_true (fz (n:=3) (f:=bf) (λ_=>rfl) a0.au)) F λF=>?_
 exact k9 h
theorem qp (a0:List Int) (a1:Int) (r:Int) (h:gK a0 a1=some r):aS Tryz.prog 107 [.aU (a0.map encI),.val (.int .i64 a1)] (λv=>v = .val (.int .i64 r)):=by
 refine aS.kP ?_; refine aR [] func107 ?_; rw[ntmps107,results107]; unfold gK at h; have F:=trivial; refine zV ?_; refine zN F h () [0,1] (λx=>[(5,.p (.val (.int .i64 ((x.1.1:Nat):Int))))]) [] (λx H=>[]) ?_ ?_
 ·intro i2 s2 g2 _ _ F nk h; try dsimp only at h
  refine zI encI F h λe3 F h=>?_
  refine sD F h (λF h=>?_) λF h=>?_
  ·exact zR h
  ·refine zB F h (λF h=>?_) λF h=>?_
   ·exact zR h
   ·refine zD [.q,.q,.q,.q,.q,.q,.q,.q,.q,.q,.q,.q,.q,.q] ?_; refine zBd F h (λF h=>?_) λF h=>?_
    ·refine zA encI F h λe4 F h=>?_
     refine zB F h (λF h=>?_) λF h=>?_
     ·exact zR h
     ·exact zX (z:=nk _ () h zW)
    ·exact zX (z:=nk _ () h zW)
 ·intro i2 s2 g2 _ F h; try dsimp only at h
  exact zR h
theorem mm (a0:aG) (a1:Int) (r:Bool) (h:fc a0 a1=some r):aS Tryz.prog 84 [.agg (aB a0),.val (.int .i64 a1)] (λv=>v = .val (.bool r)):=by
 refine aS.kP ?_; refine aR [] func84 ?_; rw[ntmps84,results84]; unfold fc at h; have F:=trivial; refine zV ?_; refine zN F h () [1,2] (λx=>[(5,.p (.val (.int .i64 ((x.1.1:Nat):Int))))]) [2] (λx H=>[]) ?_ ?_
 ·intro i2 s2 g2 _ _ F nk h; try dsimp only at h
  refine zI ah F h λe3 F h=>?_
  refine sD F h (λF h=>?_) λF h=>?_
  ·exact zR h
  ·refine zB F h (λF h=>?_) λF h=>?_
   ·exact zR h
   ·exact zX (z:=nk _ () h zW)
 ·intro i2 s2 g2 _ F h; try dsimp only at h
  exact zR h
end
end Go.Proofs.YtllicmcihlfajaaGreat
set_option maxRecDepth 20000
namespace Go.Proofs.YtllicmcihlfajaaGreat
open Go.cE
noncomputable section
theorem mZ (a0:Int) (a1:aG) (a2:Int) (r:Int) (h:gI a0 a1 a2=some r):aS Tryz.prog 142 [.val (.int .i64 a0),.dJ (aB a1) 0,.dJ [.val (.int .i64 a2)] 0] (λv=>v = .val (.int .i64 r)):=by
 refine aS.kP ?_; refine aR [] func142 ?_; rw[ntmps142,results142]; unfold gI at h; have F:=trivial; refine zF (show (0:Int)<=0 by decide) F λF=>?_
 refine zF (show (0:Int)<((2:Nat):Int) by decide) F λF=>?_
 refine zB F h (λF h=>?_) λF h=>?_
 ·exact zR h
 ·exact zR h
theorem sE (a0:List bn) (a1:bn) (r:Int) (h:fK a0 a1=some r):aS Tryz.prog 145 [.aU (a0.map ck),.agg (ck a1)] (λv=>v = .val (.int .i64 r)):=by
 refine aS.kP ?_; refine aR [] func145 ?_; rw[ntmps145,results145]; unfold fK at h; have F:=trivial; refine zV ?_; refine zN F h () [0,3,7] (λx=>[(8,.p (.val (.int .i64 ((x.1.1:Nat):Int))))]) [3] (λx H=>[]) ?_ ?_
 ·intro i2 s2 g2 _ _ F nk h; try dsimp only at h
  refine zD [.q,.q,.q,.q,.q,.q] ?_; refine zI ck F h λe3 F h=>?_
  refine zB F h (λF h=>?_) λF h=>?_
  ·exact zR h
  ·exact zX (z:=nk _ () h zW)
 ·intro i2 s2 g2 _ F h; try dsimp only at h
  exact zR h
theorem p8 (a0:List aO) (r:Bool) (h:ew a0=some r):aS Tryz.prog 169 [.aU (a0.map aH)] (λv=>v = .val (.bool r)):=by
 refine aS.kP ?_; refine aR [] func169 ?_; rw[ntmps169,results169]; unfold ew at h; have F:=trivial; refine zV ?_; refine zN F h () [0] (λx=>[(3,.p (.val (.int .i64 ((x.1.1:Nat):Int))))]) [] (λx H=>[]) ?_ ?_
 ·intro i1 s1 g1 _ _ F Ns1 h; try dsimp only at h
  refine zD [.q,.q,.q,.q,.q,.q,.q,.q,.q,.q,.q,.q,.q,.q,.q,.q,.q,.q,.q,.q,.q,.q,.q,.q,.q,.q,.q,.q,.q,.q,.q,.q,.q,.q,.q,.q,.q,.q,.q,.q] ?_; refine zI aH F h λe2 F h=>?_
  refine zA aH F h λe3 F h=>?_
  refine ak5 F h (λF h=>?_) λF h=>?_
  ·exact zR h
  ·refine zBd F h (λF h=>?_) λF h=>?_
   ·refine zB F h (λF h=>?_) λF h=>?_
    ·exact zR h
    ·exact zX (z:=Ns1 _ () h zW)
   ·exact zX (z:=Ns1 _ () h zW)
 ·intro i1 s1 g1 _ F h; try dsimp only at h
  exact zR h
theorem o7 (a0:aG) (r:Bool) (h:fP a0=some r):aS Tryz.prog 82 [.agg (aB a0)] (λv=>v = .val (.bool r)):=by
 refine aS.kP ?_; refine aR [] func82 ?_; rw[ntmps82,results82]; unfold fP at h; have F:=trivial; refine zV ?_; refine zN F h () [1] (λx=>[(3,.p (.val (.int .i64 ((x.1.1:Nat):Int))))]) [1] (λx H=>[]) ?_ ?_
 ·intro i1 s1 g1 _ _ F Ns1 h; try dsimp only at h
  refine zD [.q,.q,.q,.q,.q,.q,.q,.q,.q,.q] ?_; refine zI ag F h λe2 F h=>?_
  refine zF (show (0:Int)<=0 by decide) F λF=>?_
  refine zF (show (0:Int)<((2:Nat):Int) by decide) F λF=>?_
  refine zB F h (λF h=>?_) λF h=>?_
  ·exact zR h
  ·exact zX (z:=Ns1 _ () h zW)
 ·intro i1 s1 g1 _ F h; try dsimp only at h
  refine zV ?_; refine zN F h () [1] (λx=>[(4,.p (.val (.int .i64 ((x.1.1:Nat):Int))))]) [1] (λx H=>[]) ?_ ?_
  ·intro i3 s3 g3 _ _ F wh h; try dsimp only at h
   refine zD [.q,.q,.q,.q,.q,.q,.q,.q,.q,.q] ?_; refine zI ah F h λe4 F h=>?_
   refine zF (show (0:Int)<=0 by decide) F λF=>?_
   refine zF (show (0:Int)<((2:Nat):Int) by decide) F λF=>?_
   refine zB F h (λF h=>?_) λF h=>?_
   ·exact zR h
   ·exact zX (z:=wh _ () h zW)
  ·intro i3 s3 g3 _ F h; try dsimp only at h
   refine zF (show (0:Int)<=1 by decide) F λF=>?_
   refine zF (show (1:Int)<((2:Nat):Int) by decide) F λF=>?_
   refine zF (show (0:Int)<=0 by decide) F λF=>?_
   refine zF (show (0:Int)<((2:Nat):Int) by decide) F λF=>?_
   exact zR h
theorem tX (a0:List Int) (a1:List Int) (r:Int) (h:gB a0 a1=some r):aS Tryz.prog 92 [.aU (a0.map encI),.aU (a1.map encI)] (λv=>v = .val (.int .i64 r)):=by
 refine aS.kP ?_; refine aR [] func92 ?_; rw[ntmps92,results92]; unfold gB at h; have F:=trivial; refine zV ?_; refine zL F h () [0,1] (λx=>[(5,.p (.val (.int .i64 x.1)))]) [] (λx H=>[]) ?_; intro s2 g2 _ _ F nk h; try dsimp only at h
 refine nN F h (λF h=>?_) λF h=>?_
 ·refine zB F h (λF h=>?_) λF h=>?_
  ·refine zD [.q,.q,.q,.q,.q,.q,.q,.q,.q] ?_; refine zA encI F h λe3 F h=>?_
   refine zA encI F h λe4 F h=>?_
   refine kS F h (λF h=>?_) λF h=>?_
   ·exact zX (z:=nk _ () h zW)
   ·refine zD [.q,.q,.q,.q,.q,.q,.q,.q,.q,.q] ?_; exact zR h
  ·try dsimp only at h
   exact zR h
 ·try dsimp only at h
  exact zR h
theorem aaT (a0:aj) (a1:Int) (r:Bool) (h:jX a0 a1=some r):aS Tryz.prog 201 [.agg (ag a0),.dJ [.val (.int .i64 a1)] 0] (λv=>v = .val (.bool r)):=by refine aS.kP ?_; refine aR [] func201 ?_; rw[ntmps201,results201]; unfold jX at h; have F:=trivial; exact zR h
end
end Go.Proofs.YtllicmcihlfajaaGreat
set_option maxRecDepth 20000
namespace Go.Proofs.YtllicmcihlfajaaGreat
open Go.cE
noncomputable section
theorem rS (a0:List (List bn)) (r:(List bn)) (h:fk a0=some r):bu Tryz.prog 78 [.aU (a0.map hU)] (λv=>v = .row 144 3 (r.map ck)):=by
 refine bu.uT ?_; refine bF [] func78 ?_; rw[ntmps78,results78]; unfold fk at h; have F:=trivial; refine zV ?_; refine zN F h () [0,9,10] (λx=>[(3,.p (.val (.int .i64 x.1.2))),(11,.p (.val (.int .i64 ((x.1.1:Nat):Int))))]) [] (λx H=>[]) ?_ ?_
 ·intro i1 s1 g1 _ _ F Ns1 h; try dsimp only at h
  refine zI hU F h λe2 F h=>?_
  refine zB F h (λF h=>?_) λF h=>?_
  ·cases h
  ·exact zX (z:=Ns1 _ () h zW)
 ·intro i1 s1 g1 _ F h; try dsimp only at h
  refine zG 1384 F h (tB _ _) λr3 h=>?_
  refine zV ?_; refine zN F h (0:Nat) [25,26] (λx=>[(6,.row 1384 x.2),(27,.p (.val (.int .i64 ((x.1.1:Nat):Int))))]) [] (λx H=>[(1384,.row x.2 144 3 (x.1.2.map ck))]) ?_ ?_
  ·intro i4 s4 g4 _ _ F Ns4 h; try dsimp only at h
   refine zI hU F h λe5 F h=>?_
   refine zC F h λF h=>?_
   refine zF (eq_true (show (s4.length+e5.length) * 24<=140737488355328 by omega)) F λF=>?_
   refine zF (eq_true (fz (n:=3) (f:=ck) (λ_=>rfl) e5)) F λF=>?_
   exact zX (z:=Ns4 _ (g4+1) h zW)
  ·intro i4 s4 g4 _ F h; try dsimp only at h
   exact k9 h
theorem cM (a0:List Int) (a1:Int) (r:Int) (h:bQ a0 a1=some r):aS Tryz.prog 108 [.aU (a0.map encI),.val (.int .i64 a1)] (λv=>v = .val (.int .i64 r)):=by
 refine aS.kP ?_; refine aR [] func108 ?_; rw[ntmps108,results108]; unfold bQ at h; have F:=trivial; refine zV ?_; refine zN F h () [0,1] (λx=>[(5,.p (.val (.int .i64 ((x.1.1:Nat):Int))))]) [] (λx H=>[]) ?_ ?_
 ·intro i2 s2 g2 _ _ F nk h; try dsimp only at h
  refine zI encI F h λe3 F h=>?_
  refine zB F h (λF h=>?_) λF h=>?_
  ·exact zR h
  ·exact zX (z:=nk _ () h zW)
 ·intro i2 s2 g2 _ F h; try dsimp only at h
  exact zR h
theorem o8 (a0:dI) (a1:Int) (a2:Int) (a3:Bool) (r:Int) (h:eO a0 a1 a2 a3=some r):aS Tryz.prog 192 [.agg [.aU (a0.nodes.map encI),.aU (a0.au.map bf)],.val (.int .i64 a1),.val (.int .i64 a2),.val (.bool a3)] (λv=>v = .val (.int .i64 r)):=by
 refine aS.kP ?_; refine aR [] func192 ?_; rw[ntmps192,results192]; unfold eO at h; have F:=trivial; refine zV ?_; refine zN F h () [1,2,3,4] (λx=>[(9,.p (.val (.int .i64 x.1.2))),(10,.p (.val (.int .i64 ((x.1.1:Nat):Int))))]) [4] (λx H=>[]) ?_ ?_
 ·intro i4 s4 g4 _ _ F Ns4 h; try dsimp only at h
  refine zI bf F h λe5 F h=>?_
  refine nN F h (λF h=>?_) λF h=>?_
  ·refine nN F h (λF h=>?_) λF h=>?_
   ·refine sD F h (λF h=>?_) λF h=>?_
    ·exact zX (z:=Ns4 _ () h zW)
    ·exact zX (z:=Ns4 _ () h zW)
   ·refine zB F h (λF h=>?_) λF h=>?_
    ·exact zX (z:=Ns4 _ () h zW)
    ·exact zX (z:=Ns4 _ () h zW)
  ·exact zX (z:=Ns4 _ () h zW)
 ·intro i4 s4 g4 _ F h; try dsimp only at h
  exact zR h
theorem yJ (a0:List bG) (a1:bG) (r:Bool) (h:fU a0 a1=some r):aS Tryz.prog 90 [.aU (a0.map bS),.agg (bS a1)] (λv=>v = .val (.bool r)):=by
 refine aS.kP ?_; refine aR [] func90 ?_; rw[ntmps90,results90]; unfold fU at h; have F:=trivial; refine zV ?_; refine zN F h () [0,3] (λx=>[(5,.p (.val (.int .i64 ((x.1.1:Nat):Int))))]) [3] (λx H=>[]) ?_ ?_
 ·intro i2 s2 g2 _ _ F nk h; try dsimp only at h
  refine zD [.q,.q,.q,.q,.q,.q] ?_; refine zI bS F h λe3 F h=>?_
  refine zB F h (λF h=>?_) λF h=>?_
  ·exact zR h
  ·exact zX (z:=nk _ () h zW)
 ·intro i2 s2 g2 _ F h; try dsimp only at h
  exact zR h
theorem aaU (a0:ak) (a1:Int) (r:Bool) (h:jY a0 a1=some r):aS Tryz.prog 202 [.agg (ah a0),.dJ [.val (.int .i64 a1)] 0] (λv=>v = .val (.bool r)):=by refine aS.kP ?_; refine aR [] func202 ?_; rw[ntmps202,results202]; unfold jY at h; have F:=trivial; exact zR h
theorem nc (a0:List ak) (a1:List ak) (r:Bool) (h:er a0 a1=some r):aS Tryz.prog 60 [.aU (a0.map ah),.aU (a1.map ah)] (λv=>v = .val (.bool r)):=by
 refine aS.kP ?_; refine aR [] func60 ?_; rw[ntmps60,results60]; unfold er at h; have F:=trivial; refine kS F h (λF h=>?_) λF h=>?_
 ·refine zV ?_; refine zN F h () [0,1] (λx=>[(5,.p (.val (.int .i64 ((x.1.1:Nat):Int))))]) [] (λx H=>[]) ?_ ?_
  ·intro i2 s2 g2 _ _ F nk h; try dsimp only at h
   refine zD [.q,.q,.q,.q,.q,.q,.q,.q,.q] ?_; refine zI ah F h λe3 F h=>?_
   refine zI ah F h λe4 F h=>?_
   refine kS F h (λF h=>?_) λF h=>?_
   ·exact zX (z:=nk _ () h zW)
   ·exact zR h
  ·intro i2 s2 g2 _ F h; try dsimp only at h
   exact zR h
 ·exact zR h
end
end Go.Proofs.YtllicmcihlfajaaGreat
set_option maxRecDepth 20000
namespace Go.Proofs.YtllicmcihlfajaaGreat
open Go.cE
noncomputable section
theorem tY (a0:List (List aI)) (r:(List aI)) (h:gz a0=some r):bu Tryz.prog 73 [.aU (a0.map jl)] (λv=>v = .row 53 3 (r.map aC)):=by
 refine bu.uT ?_; refine bF [] func73 ?_; rw[ntmps73,results73]; unfold gz at h; have F:=trivial; refine zV ?_; refine zN F h () [0,9,10] (λx=>[(3,.p (.val (.int .i64 x.1.2))),(11,.p (.val (.int .i64 ((x.1.1:Nat):Int))))]) [] (λx H=>[]) ?_ ?_
 ·intro i1 s1 g1 _ _ F Ns1 h; try dsimp only at h
  refine zI jl F h λe2 F h=>?_
  refine zB F h (λF h=>?_) λF h=>?_
  ·cases h
  ·exact zX (z:=Ns1 _ () h zW)
 ·intro i1 s1 g1 _ F h; try dsimp only at h
  refine zG 1384 F h (vw _ _) λr3 h=>?_
  refine zV ?_; refine zN F h (0:Nat) [25,26] (λx=>[(6,.row 1384 x.2),(27,.p (.val (.int .i64 ((x.1.1:Nat):Int))))]) [] (λx H=>[(1384,.row x.2 53 3 (x.1.2.map aC))]) ?_ ?_
  ·intro i4 s4 g4 _ _ F Ns4 h; try dsimp only at h
   refine zI jl F h λe5 F h=>?_
   refine zC F h λF h=>?_
   refine zF (eq_true (show (s4.length+e5.length) * 24<=140737488355328 by omega)) F λF=>?_
   refine zF (eq_true (fz (n:=3) (f:=aC) (λ_=>rfl) e5)) F λF=>?_
   exact zX (z:=Ns4 _ (g4+1) h zW)
  ·intro i4 s4 g4 _ F h; try dsimp only at h
   exact k9 h
theorem aiF (a0:Types) (a1:Host) (r:Int) (h:pU a0 a1=some r):aS Tryz.prog 190 [.agg [.aU (a0.nodes.map aJ),.aU (a0.au.map aK)],.agg (oB a1)] (λv=>v = .val (.int .i64 r)):=by
 refine aS.kP ?_; refine aR [] func190 ?_; rw[ntmps190,results190]; unfold pU at h; have F:=trivial; refine zK F h (abQ _ _) λr2 h=>?_
 exact zR h
theorem oE (a0:List aI) (a1:List aI) (r:Bool) (h:fB a0 a1=some r):aS Tryz.prog 16 [.aU (a0.map aC),.aU (a1.map aC)] (λv=>v = .val (.bool r)):=by
 refine aS.kP ?_; refine aR [] func16 ?_; rw[ntmps16,results16]; unfold fB at h; have F:=trivial; refine kS F h (λF h=>?_) λF h=>?_
 ·refine zV ?_; refine zN F h () [0,1,12] (λx=>[(13,.p (.val (.int .i64 ((x.1.1:Nat):Int))))]) [] (λx H=>[]) ?_ ?_
  ·intro i2 s2 g2 _ _ F nk h; try dsimp only at h
   refine zD [.q,.q,.q,.q,.q,.q,.q,.q,.q] ?_; refine zI aC F h λe3 F h=>?_
   refine zI aC F h λe4 F h=>?_
   refine kS F h (λF h=>?_) λF h=>?_
   ·exact zX (z:=nk _ () h zW)
   ·exact zR h
  ·intro i2 s2 g2 _ F h; try dsimp only at h
   exact zR h
 ·exact zR h
theorem lN (a0:List aj) (r:Bool) (h:dG a0=some r):aS Tryz.prog 167 [.aU (a0.map ag)] (λv=>v = .val (.bool r)):=by
 refine aS.kP ?_; refine aR [] func167 ?_; rw[ntmps167,results167]; unfold dG at h; have F:=trivial; refine zV ?_; refine zN F h () [0] (λx=>[(3,.p (.val (.int .i64 ((x.1.1:Nat):Int))))]) [] (λx H=>[]) ?_ ?_
 ·intro i1 s1 g1 _ _ F Ns1 h; try dsimp only at h
  refine zD [.q,.q,.q,.q,.q,.q,.q,.q,.q,.q,.q,.q] ?_; refine zI ag F h λe2 F h=>?_
  refine zA ag F h λe3 F h=>?_
  refine zB F h (λF h=>?_) λF h=>?_
  ·exact zR h
  ·exact zX (z:=Ns1 _ () h zW)
 ·intro i1 s1 g1 _ F h; try dsimp only at h
  exact zR h
theorem jO (a0:az) (a1:Int) (r:ak) (h:cZ a0 a1=some r):aS Tryz.prog 171 [.agg (aA a0),.val (.int .i64 a1)] (λv=>v = .agg (ah r)):=by
 refine aS.kP ?_; refine aR [] func171 ?_; rw[ntmps171,results171]; unfold cZ at h; have F:=trivial; refine zA bf F h λe2 F h=>?_
 refine zD [.q,.q,.q,.q,.q,.q,.q,.q,.q,.q,.q,.q,.q,.q,.q,.q,.q,.q,.q,.q,.w] ?_; refine zA encI F h λe3 F h=>?_
 refine zA encI F h λe4 F h=>?_
 refine zA encI F h λe5 F h=>?_
 exact zR h
theorem ng (a0:aP) (a1:Int) (r:Bool) (h:eo a0 a1=some r):aS Tryz.prog 175 [.agg [.aU (a0.nodes.map ag),.aU (a0.au.map ah)],.val (.int .i64 a1)] (λv=>v = .val (.bool r)):=by
 refine aS.kP ?_; refine aR [] func175 ?_; rw[ntmps175,results175]; unfold eo at h; have F:=trivial; refine zV ?_; refine zN F h () [1,2] (λx=>[(5,.p (.val (.int .i64 ((x.1.1:Nat):Int))))]) [2] (λx H=>[]) ?_ ?_
 ·intro i2 s2 g2 _ _ F nk h; try dsimp only at h
  refine zI ag F h λe3 F h=>?_
  refine zB F h (λF h=>?_) λF h=>?_
  ·exact zR h
  ·exact zX (z:=nk _ () h zW)
 ·intro i2 s2 g2 _ F h; try dsimp only at h
  refine zV ?_; refine zN F h () [1,2] (λx=>[(6,.p (.val (.int .i64 ((x.1.1:Nat):Int))))]) [2] (λx H=>[]) ?_ ?_
  ·intro i4 s4 g4 _ _ F Ns4 h; try dsimp only at h
   refine zI ah F h λe5 F h=>?_
   refine zB F h (λF h=>?_) λF h=>?_
   ·exact zR h
   ·exact zX (z:=Ns4 _ () h zW)
  ·intro i4 s4 g4 _ F h; try dsimp only at h
   exact zR h
end
end Go.Proofs.YtllicmcihlfajaaGreat
set_option maxRecDepth 20000
namespace Go.Proofs.YtllicmcihlfajaaGreat
open Go.cE
noncomputable section
theorem oL (a0:Types) (a1:az) (a2:aG) (r:az×Int) (h:eD a0 a1 a2=some r):aS Tryz.prog 70 [.agg [.aU (a0.nodes.map aJ),.aU (a0.au.map aK)],.agg (aA a1),.agg (aB a2)] (λv=>v = .dB [.agg (aA r.1),.val (.int .i64 r.2)]):=by
 refine aS.kP ?_; refine aR [] func70 ?_; rw[ntmps70,results70]; unfold eD at h; have F:=trivial; refine zK F h (oJ _ _) λr3 h=>?_
 refine kS F h (λF h=>?_) λF h=>?_
 ·refine zK F h (acZ _ _ _) λr4 h=>?_
  exact zR h
 ·exact zR h
theorem tG (a0:List Int) (a1:List Int) (r:Bool) (h:fS a0 a1=some r):aS Tryz.prog 32 [.aU (a0.map encI),.aU (a1.map encI)] (λv=>v = .val (.bool r)):=by
 refine aS.kP ?_; refine aR [] func32 ?_; rw[ntmps32,results32]; unfold fS at h; have F:=trivial; refine kS F h (λF h=>?_) λF h=>?_
 ·refine zV ?_; refine zN F h () [0,1,12] (λx=>[(13,.p (.val (.int .i64 ((x.1.1:Nat):Int))))]) [] (λx H=>[]) ?_ ?_
  ·intro i2 s2 g2 _ _ F nk h; try dsimp only at h
   refine zD [.q,.q,.q,.q,.q,.q,.q,.q,.q] ?_; refine zI encI F h λe3 F h=>?_
   refine zI encI F h λe4 F h=>?_
   refine kS F h (λF h=>?_) λF h=>?_
   ·exact zX (z:=nk _ () h zW)
   ·exact zR h
  ·intro i2 s2 g2 _ F h; try dsimp only at h
   exact zR h
 ·exact zR h
theorem l6 (a0:List aj) (r:(List aj)) (h:dM a0=some r):bu Tryz.prog 41 [.aU (a0.map ag)] (λv=>v = .row 79 3 (r.map ag)):=by
 refine bu.uT ?_; refine bF [24] func41 ?_; rw[ntmps41,results41]; unfold dM at h; have F:=trivial; refine zV ?_; refine zN F h (0:Nat) [0] (λx=>[(3,.row 4030 x.2),(4,.p (.val (.int .i64 ((x.1.1:Nat):Int))))]) [] (λx H=>[(4030,.row x.2 79 3 (x.1.2.map ag))]) ?_ ?_ (hw:=by refine dP.trans (iQ 3 4030 79 3 rfl rfl (by decide)) ?_; exact zW)
 ·intro i1 s1 g1 _ _ F Ns1 h; try dsimp only at h
  refine zI ag F h λe2 F h=>?_
  refine zC F h λF h=>?_
  refine zF (eq_true (show (e2.values.length) * 8<=140737488355328 by omega)) F λF=>?_
  refine zF (eq_true (fz (n:=1) (f:=encI) (λ_=>rfl) e2.values)) F λF=>?_
  refine zC F h λF h=>?_
  refine zF (eq_true (show (s1.length+1) * 40<=140737488355328 by omega)) F λF=>?_
  refine zF (bz ag s1 [e2] (c:=[[.val (.int .i64 e2.id),.val (.int .i64 e2.type),.aU (e2.values.map encI)]]) rfl) F λF=>?_
  exact zX (z:=Ns1 _ (g1+1) h zW)
 ·intro i1 s1 g1 _ F h; try dsimp only at h
  exact k9 h
theorem pY (a0:az) (a1:Int) (r:aj) (h:gh a0 a1=some r):bu Tryz.prog 170 [.agg (aA a0),.val (.int .i64 a1)] (λv=>v = .agg [.p (.val (.int .i64 r.id)),.p (.val (.int .i64 r.type)),.row 3 1 (r.values.map encI)]):=by
 refine bu.uT ?_; refine bF [17,24] func170 ?_; rw[ntmps170,results170]; unfold gh at h; have F:=trivial; refine zE [(0,.b),(1,.b),(2,.b),(3,.b),(4,.b),(5,.b),(6,.b),(7,.b),(8,.b),(9,.b),(10,.b),(11,.b),(13,.q),(14,.q),(15,.q),(16,.q),(17,.q),(18,.q),(12,.w),(19,.s),(20,.q),(21,.w)] ?_; refine zA encI F h λe2 F h=>?_
 refine zA encI F h λe3 F h=>?_
 refine zA b9 F h λe4 F h=>?_
 refine zC F h λF h=>?_
 refine zF (eq_true (show (e4.length) * 8<=140737488355328 by omega)) F λF=>?_
 refine zF (eq_true (fz (n:=1) (f:=encI) (λ_=>rfl) e4)) F λF=>?_
 exact k9 h
theorem jB (a0:Int) (a1:Int) (a2:Int) (r:Int) (h:dO a0 a1 a2=some r):aS Tryz.prog 147 [.val (.int .i64 a0),.val (.int .i64 a1),.val (.int .i64 a2)] (λv=>v = .val (.int .i64 r)):=by
 refine aS.kP ?_; refine aR [] func147 ?_; rw[ntmps147,results147]; unfold dO at h; have F:=trivial; refine zB F h (λF h=>?_) λF h=>?_
 ·exact zR h
 ·exact zR h
theorem xq (a0:az) (r:(List aj)) (h:kr a0=some r):bu Tryz.prog 163 [.agg (aA a0)] (λv=>v = .row 79 3 (r.map ag)):=by
 refine bu.uT ?_; refine bF [32] func163 ?_; rw[ntmps163,results163]; unfold kr at h; have F:=trivial; refine zV ?_; refine zN F h (0:Nat) [1,7,8] (λx=>[(3,.row 8833 x.2),(9,.p (.val (.int .i64 ((x.1.1:Nat):Int))))]) [1] (λx H=>[(8833,.row x.2 79 3 (x.1.2.map ag))]) ?_ ?_ (hw:=by refine dP.trans (iQ 3 8833 79 3 rfl rfl (by decide)) ?_; exact zW)
 ·intro i1 s1 g1 _ _ F Ns1 h; try dsimp only at h
  refine zI encI F h λe2 F h=>?_
  refine zD [.p,.q,.q,.q,.q,.q,.q,.q,.q,.q,.q,.q,.q,.q,.q,.q,.q,.p,.w,.q] ?_; refine zI encI F h λe3 F h=>?_
  refine zI b9 F h λe4 F h=>?_
  refine xP F h (tA _) λr5 h=>?_
  refine zC F h λF h=>?_
  refine zF (eq_true (show (s1.length+1) * 40<=140737488355328 by omega)) F λF=>?_
  refine zF (bz ag s1 [(⟨e2,e3,r5⟩:aj)] (c:=[[.val (.int .i64 e2),.val (.int .i64 e3),.aU (r5.map encI)]]) rfl) F λF=>?_
  exact zX (z:=Ns1 _ (g1+1) h zW)
 ·intro i1 s1 g1 _ F h; try dsimp only at h
  exact k9 h
end
end Go.Proofs.YtllicmcihlfajaaGreat
set_option maxRecDepth 20000
namespace Go.Proofs.YtllicmcihlfajaaGreat
open Go.cE
noncomputable section
theorem rT (a0:aP) (a1:aG) (r:aP×Bool) (h:fo a0 a1=some r):aS Tryz.prog 112 [.agg [.aU (a0.nodes.map ag),.aU (a0.au.map ah)],.agg (aB a1)] (λv=>v = .dB [.agg [.aU (r.1.nodes.map ag),.aU (r.1.au.map ah)],.val (.bool r.2)]):=by
 refine aS.kP ?_; refine aR [86,147] func112 ?_; rw[ntmps112,results112]; unfold fo at h; have F:=trivial; refine zV ?_; refine zN F h () [2,3,4] (λx=>[(6,.p (.val (.int .i64 ((x.1.1:Nat):Int))))]) [2,3,4] (λx H=>[]) ?_ ?_
 ·intro i2 s2 g2 _ _ F nk h; try dsimp only at h
  refine zD [.q,.q,.q,.q,.q,.q,.q,.q] ?_; refine zI ag F h λe3 F h=>?_
  refine uC F h (ng _ _) λr4 h=>?_
  refine zB F h (λF h=>?_) λF h=>?_
  ·exact zR h
  ·exact zX (z:=nk _ () h zW)
 ·intro i2 s2 g2 _ F h; try dsimp only at h
  refine zV ?_; refine zN F h () [2,3,4] (λx=>[(7,.p (.val (.int .i64 ((x.1.1:Nat):Int))))]) [2,3,4] (λx H=>[]) ?_ ?_
  ·intro i5 s5 g5 _ _ F Ns5 h; try dsimp only at h
   refine zD [.q,.q,.q,.q,.q,.q,.q,.q] ?_; refine zI ah F h λe6 F h=>?_
   refine uC F h (ng _ _) λr7 h=>?_
   refine zB F h (λF h=>?_) λF h=>?_
   ·exact zR h
   ·exact zX (z:=Ns5 _ () h zW)
  ·intro i5 s5 g5 _ F h; try dsimp only at h
   refine zV ?_; refine zL F h (0:Nat) [2,3,4,8] (λx=>[(9,.p (.val (.int .i64 x.1.1))),(10,.p (.val (.int .i64 x.1.2.1)))]) [2,3,4] (λx H=>[(8,bx (H 8) [(0,.row 5492 x.2)]),(5492,.row x.2 79 3 (x.1.2.2.map ag))]) ?_ (hw:=by refine dP.trans (cC 8 0 5492 79 3 _ rfl rfl rfl (by decide)) ?_; exact zW); intro s8 g8 _ _ F Ns8 h; try dsimp only at h
   refine zB F h (λF h=>?_) λF h=>?_
   ·refine zV ?_; refine zL F h (g8:Nat) [2,3,4,8,10] (λx=>[(9,.p (.val (.int .i64 x.1.1)))]) [2,3,4] (λx H=>[(8,bx (H 8) [(0,.row 5492 x.2)]),(5492,.row x.2 79 3 (x.1.2.map ag))]) ?_; intro s9 g9 _ _ F Ns9 h; try dsimp only at h
    refine zD [.q,.q,.q,.q,.q,.q,.q,.q,.q,.q,.q,.q,.q,.q,.q,.q,.q,.q,.q,.q,.q,.q,.q,.q,.q,.q,.q] ?_; refine zBd F h (λF h=>?_) λF h=>?_
    ·refine ak5 F h (λF h=>?_) λF h=>?_
     ·refine zE [(0,.p),(2,.q),(3,.q),(4,.q),(5,.q),(6,.q),(7,.p),(1,.q),(8,.w),(9,.q),(10,.w)] ?_; refine zA ag F h λe10 F h=>?_
      refine zC F h λF h=>?_
      refine zF (eq_true (show (s9.2.length+1) * 40<=140737488355328 by omega)) F λF=>?_
      refine zF (bz ag s9.2 [e10] (c:=[[.val (.int .i64 e10.id),.val (.int .i64 e10.type),.aU (e10.values.map encI)]]) rfl) F λF=>?_
      exact zX (z:=Ns9 _ (g9+1) h zW)
     ·refine zA ag F h λe11 F h=>?_
      refine zAq ag F h λvB aF4 F h=>?_
      refine zB F h (λF h=>?_) λF h=>?_
      ·refine zE [(0,.p),(2,.q),(3,.q),(4,.q),(5,.q),(6,.q),(7,.p),(1,.q),(8,.w),(9,.q),(10,.w)] ?_; refine zC F h λF h=>?_
       refine zF (eq_true (show (s9.2.length+1) * 40<=140737488355328 by omega)) F λF=>?_
       refine zF (bz ag s9.2 [e11] (c:=[[.val (.int .i64 e11.id),.val (.int .i64 e11.type),.aU (e11.values.map encI)]]) rfl) F λF=>?_
       exact zX (z:=Ns9 _ (g9+1) h zW)
      ·try dsimp only at h
       replace h:=yx h (decide_eq_true (by omega)); refine zE [(0,.p),(2,.q),(3,.q),(4,.q),(5,.q),(6,.q),(7,.p),(1,.q),(8,.w),(9,.q),(10,.w)] ?_; refine zU aF4 h λh=>?_
       refine zC F h λF h=>?_
       refine zF (eq_true (show (s9.2.length+1) * 40<=140737488355328 by omega)) F λF=>?_
       refine zF (bz ag s9.2 [vB] (c:=[[.val (.int .i64 vB.id),.val (.int .i64 vB.type),.aU (vB.values.map encI)]]) rfl) F λF=>?_
       exact zX (z:=Ns8 _ (g9+1) h zW)
    ·try dsimp only at h
     refine zB F h (λF h=>?_) λF h=>?_
     ·refine zE [(0,.p),(2,.q),(3,.q),(4,.q),(5,.q),(6,.q),(7,.p),(1,.q),(8,.w),(9,.q),(10,.w)] ?_; refine zAq ag F h λe13 qe13 F h=>?_
      refine zC F h λF h=>?_
      refine zF (eq_true (show (s9.2.length+1) * 40<=140737488355328 by omega)) F λF=>?_
      refine zF (bz ag s9.2 [e13] (c:=[[.val (.int .i64 e13.id),.val (.int .i64 e13.type),.aU (e13.values.map encI)]]) rfl) F λF=>?_
      exact zX (z:=Ns8 _ (g9+1) h zW)
     ·exact zX (z:=Ns8 _ g9 h zW)
   ·try dsimp only at h
    refine zV ?_; refine zL F h (0:Nat) [2,3,4,8] (λx=>[(9,.p (.val (.int .i64 x.1.1))),(11,.p (.val (.int .i64 x.1.2.1)))]) [2,3,4,5492] (λx H=>[(8,bx (H 8) [(1,.row 5777 x.2)]),(5777,.row x.2 84 4 (x.1.2.2.map ah))]) ?_ (hw:=by refine dP.trans (cC 8 1 5777 84 4 _ rfl rfl rfl (by decide)) ?_; exact zW); intro vQ g14 _ _ F afb h; try dsimp only at h
    refine zB F h (λF h=>?_) λF h=>?_
    ·refine zV ?_; refine zL F h (g14:Nat) [2,3,4,8,11] (λx=>[(9,.p (.val (.int .i64 x.1.1)))]) [2,3,4,5492] (λx H=>[(8,bx (H 8) [(1,.row 5777 x.2)]),(5777,.row x.2 84 4 (x.1.2.map ah))]) ?_; intro xo g15 _ _ F af9 h; try dsimp only at h
     refine zD [.q,.q,.q,.q,.q,.q,.q,.q,.q,.q,.q,.q,.q,.q,.q,.q,.q,.q,.q,.q,.q,.q,.q,.q,.q,.q,.q] ?_; refine zBd F h (λF h=>?_) λF h=>?_
     ·refine ak5 F h (λF h=>?_) λF h=>?_
      ·refine zE [(0,.p),(2,.q),(3,.q),(4,.q),(5,.q),(6,.q),(7,.p),(1,.q),(8,.w),(9,.q),(10,.w)] ?_; refine zA ah F h λe16 F h=>?_
       refine zC F h λF h=>?_
       refine zF (eq_true (show (xo.2.length+1) * 32<=140737488355328 by omega)) F λF=>?_
       refine zF (bz ah xo.2 [e16] (c:=[[.val (.int .i64 e16.id),.val (.int .i64 e16.type),.val (.int .i64 e16.src),.val (.int .i64 e16.dst)]]) rfl) F λF=>?_
       exact zX (z:=af9 _ (g15+1) h zW)
      ·refine zA ah F h λe17 F h=>?_
       refine zAq ah F h λe18 aF5 F h=>?_
       refine zB F h (λF h=>?_) λF h=>?_
       ·refine zE [(0,.p),(2,.q),(3,.q),(4,.q),(5,.q),(6,.q),(7,.p),(1,.q),(8,.w),(9,.q),(10,.w)] ?_; refine zC F h λF h=>?_
        refine zF (eq_true (show (xo.2.length+1) * 32<=140737488355328 by omega)) F λF=>?_
        refine zF (bz ah xo.2 [e17] (c:=[[.val (.int .i64 e17.id),.val (.int .i64 e17.type),.val (.int .i64 e17.src),.val (.int .i64 e17.dst)]]) rfl) F λF=>?_
        exact zX (z:=af9 _ (g15+1) h zW)
       ·try dsimp only at h
        replace h:=yx h (decide_eq_true (by omega)); refine zE [(0,.p),(2,.q),(3,.q),(4,.q),(5,.q),(6,.q),(7,.p),(1,.q),(8,.w),(9,.q),(10,.w)] ?_; refine zU aF5 h λh=>?_
        refine zC F h λF h=>?_
        refine zF (eq_true (show (xo.2.length+1) * 32<=140737488355328 by omega)) F λF=>?_
        refine zF (bz ah xo.2 [e18] (c:=[[.val (.int .i64 e18.id),.val (.int .i64 e18.type),.val (.int .i64 e18.src),.val (.int .i64 e18.dst)]]) rfl) F λF=>?_
        exact zX (z:=afb _ (g15+1) h zW)
     ·try dsimp only at h
      refine zB F h (λF h=>?_) λF h=>?_
      ·refine zE [(0,.p),(2,.q),(3,.q),(4,.q),(5,.q),(6,.q),(7,.p),(1,.q),(8,.w),(9,.q),(10,.w)] ?_; refine zAq ah F h λxG qe19 F h=>?_
       refine zC F h λF h=>?_
       refine zF (eq_true (show (xo.2.length+1) * 32<=140737488355328 by omega)) F λF=>?_
       refine zF (bz ah xo.2 [xG] (c:=[[.val (.int .i64 xG.id),.val (.int .i64 xG.type),.val (.int .i64 xG.src),.val (.int .i64 xG.dst)]]) rfl) F λF=>?_
       exact zX (z:=afb _ (g15+1) h zW)
      ·exact zX (z:=afb _ g15 h zW)
    ·try dsimp only at h
     exact zR h
end
end Go.Proofs.YtllicmcihlfajaaGreat
set_option maxRecDepth 20000
namespace Go.Proofs.YtllicmcihlfajaaGreat
open Go.cE
noncomputable section
theorem jI (a0:az) (a1:aG) (a2:aG) (r:(List aI)) (h:cK a0 a1 a2=some r):bu Tryz.prog 43 [.agg (aA a0),.agg (aB a1),.agg (aB a2)] (λv=>v = .row 53 3 (r.map aC)):=by
 refine bu.uT ?_; refine bF [55] func43 ?_; rw[ntmps43,results43]; unfold cK at h; have F:=trivial; refine zV ?_; refine zN F h (0:Nat) [3,4,5] (λx=>[(7,.row 6657 x.2),(8,.p (.val (.int .i64 ((x.1.1:Nat):Int))))]) [3,4,5] (λx H=>[(6657,.row x.2 53 3 (x.1.2.map aC))]) ?_ ?_ (hw:=by refine dP.trans (iQ 7 6657 53 3 rfl rfl (by decide)) ?_; exact zW)
 ·intro i3 s3 g3 _ _ F wh h; try dsimp only at h
  refine zI encI F h λe4 F h=>?_
  refine zK F h (dW _ _) λr5 h=>?_
  refine nN F h (λF h=>?_) λF h=>?_
  ·refine zK F h (mm _ _) λr6 h=>?_
   refine sD F h (λF h=>?_) λF h=>?_
   ·refine zC F h λF h=>?_
    refine zF (eq_true (show (s3.length+1) * 24<=140737488355328 by omega)) F λF=>?_
    refine zF (bz aC s3 [(⟨1,e4,(-1)⟩:aI)] (c:=[[.val (.int .i64 1),.val (.int .i64 e4),.val (.int .i64 (-1))]]) rfl) F λF=>?_
    exact zX (z:=wh _ (g3+1) h zW)
   ·refine zK F h (dW _ _) λr7 h=>?_
    refine nN F h (λF h=>?_) λF h=>?_
    ·refine zK F h (mm _ _) λr8 h=>?_
     refine zB F h (λF h=>?_) λF h=>?_
     ·refine zC F h λF h=>?_
      refine zF (eq_true (show (s3.length+1) * 24<=140737488355328 by omega)) F λF=>?_
      refine zF (bz aC s3 [(⟨1,e4,(-1)⟩:aI)] (c:=[[.val (.int .i64 1),.val (.int .i64 e4),.val (.int .i64 (-1))]]) rfl) F λF=>?_
      exact zX (z:=wh _ (g3+1) h zW)
     ·exact zX (z:=wh _ g3 h zW)
    ·exact zX (z:=wh _ g3 h zW)
  ·refine zK F h (dW _ _) λr9 h=>?_
   refine nN F h (λF h=>?_) λF h=>?_
   ·refine zK F h (mm _ _) λwk h=>?_
    refine zB F h (λF h=>?_) λF h=>?_
    ·refine zC F h λF h=>?_
     refine zF (eq_true (show (s3.length+1) * 24<=140737488355328 by omega)) F λF=>?_
     refine zF (bz aC s3 [(⟨1,e4,(-1)⟩:aI)] (c:=[[.val (.int .i64 1),.val (.int .i64 e4),.val (.int .i64 (-1))]]) rfl) F λF=>?_
     exact zX (z:=wh _ (g3+1) h zW)
    ·exact zX (z:=wh _ g3 h zW)
   ·exact zX (z:=wh _ g3 h zW)
 ·intro i3 s3 g3 _ F h; try dsimp only at h
  refine zV ?_; refine zN F h (g3:Nat) [3,4,5] (λx=>[(7,.row 6657 x.2),(10,.p (.val (.int .i64 ((x.1.1:Nat):Int))))]) [3,4,5] (λx H=>[(6657,.row x.2 53 3 (x.1.2.map aC))]) ?_ ?_
  ·intro i11 s11 g11 _ _ F asK h; try dsimp only at h
   refine zI encI F h λvB F h=>?_
   refine zV ?_; refine zL F h (g11:Nat) [3,4,5,10,11] (λx=>[(7,.row 6657 x.2),(12,.p (.val (.int .i64 x.1.1)))]) [3,4,5] (λx H=>[(6657,.row x.2 53 3 (x.1.2.map aC))]) ?_; intro tT g13 _ _ F aiG h; try dsimp only at h
   refine zI b9 F h λe14 F h=>?_
   refine zB F h (λF h=>?_) λF h=>?_
   ·refine zK F h (jA _ _ _) λr15 h=>?_
    refine zK F h (jA _ _ _) λr16 h=>?_
    refine zK F h (dW _ _) λr17 h=>?_
    refine nN F h (λF h=>?_) λF h=>?_
    ·refine sD F h (λF h=>?_) λF h=>?_
     ·refine zC F h λF h=>?_
      refine zF (eq_true (show (tT.2.length+1) * 24<=140737488355328 by omega)) F λF=>?_
      refine zF (bz aC tT.2 [(⟨2,vB,tT.1⟩:aI)] (c:=[[.val (.int .i64 2),.val (.int .i64 vB),.val (.int .i64 tT.1)]]) rfl) F λF=>?_
      exact zX (z:=aiG _ (g13+1) h zW)
     ·refine zK F h (dW _ _) λr18 h=>?_
      refine nN F h (λF h=>?_) λF h=>?_
      ·refine zB F h (λF h=>?_) λF h=>?_
       ·refine zC F h λF h=>?_
        refine zF (eq_true (show (tT.2.length+1) * 24<=140737488355328 by omega)) F λF=>?_
        refine zF (bz aC tT.2 [(⟨2,vB,tT.1⟩:aI)] (c:=[[.val (.int .i64 2),.val (.int .i64 vB),.val (.int .i64 tT.1)]]) rfl) F λF=>?_
        exact zX (z:=aiG _ (g13+1) h zW)
       ·exact zX (z:=aiG _ g13 h zW)
      ·exact zX (z:=aiG _ g13 h zW)
    ·refine zK F h (dW _ _) λr19 h=>?_
     refine nN F h (λF h=>?_) λF h=>?_
     ·refine zB F h (λF h=>?_) λF h=>?_
      ·refine zC F h λF h=>?_
       refine zF (eq_true (show (tT.2.length+1) * 24<=140737488355328 by omega)) F λF=>?_
       refine zF (bz aC tT.2 [(⟨2,vB,tT.1⟩:aI)] (c:=[[.val (.int .i64 2),.val (.int .i64 vB),.val (.int .i64 tT.1)]]) rfl) F λF=>?_
       exact zX (z:=aiG _ (g13+1) h zW)
      ·exact zX (z:=aiG _ g13 h zW)
     ·exact zX (z:=aiG _ g13 h zW)
   ·try dsimp only at h
    exact zX (z:=asK _ g13 h zW)
  ·intro i11 s11 g11 _ F h; try dsimp only at h
   refine zV ?_; refine zN F h (g11:Nat) [4,5] (λx=>[(7,.row 6657 x.2),(17,.p (.val (.int .i64 ((x.1.1:Nat):Int))))]) [4,5] (λx H=>[(6657,.row x.2 53 3 (x.1.2.map aC))]) ?_ ?_
   ·intro i20 s20 g20 _ _ F aga h; try dsimp only at h
    refine zI aH F h λe21 F h=>?_
    refine zK F h (jA _ _ _) λr22 h=>?_
    refine nN F h (λF h=>?_) λF h=>?_
    ·refine kS F h (λF h=>?_) λF h=>?_
     ·exact zX (z:=aga _ g20 h zW)
     ·refine zC F h λF h=>?_
      refine zF (eq_true (show (s20.length+1) * 24<=140737488355328 by omega)) F λF=>?_
      refine zF (bz aC s20 [(⟨3,e21.id,e21.attr⟩:aI)] (c:=[[.val (.int .i64 3),.val (.int .i64 e21.id),.val (.int .i64 e21.attr)]]) rfl) F λF=>?_
      exact zX (z:=aga _ (g20+1) h zW)
    ·exact zX (z:=aga _ g20 h zW)
   ·intro i20 s20 g20 _ F h; try dsimp only at h
    exact k9 h
end
end Go.Proofs.YtllicmcihlfajaaGreat
set_option maxRecDepth 20000
namespace Go.Proofs.YtllicmcihlfajaaGreat
open Go.cE
noncomputable section
theorem qK (a0:List bn) (a1:bn) (r:Bool) (h:eH a0 a1=some r):aS Tryz.prog 80 [.aU (a0.map ck),.agg (ck a1)] (λv=>v = .val (.bool r)):=by
 refine aS.kP ?_; refine aR [] func80 ?_; rw[ntmps80,results80]; unfold eH at h; have F:=trivial; refine zK F h (sE _ _) λr2 h=>?_
 exact zR h
theorem tH (a0:Types) (a1:Host) (r:(List cu)×Int) (h:fT a0 a1=some r):bu Tryz.prog 148 [.agg [.aU (a0.nodes.map aJ),.aU (a0.au.map aK)],.agg (oB a1)] (λv=>v = .dB [.row 214 4 (r.1.map cW),.p (.val (.int .i64 r.2))]):=by
 refine bu.uT ?_; refine bF [101] func148 ?_; rw[ntmps148,results148]; unfold fT at h; have F:=trivial; refine zK F h (o5 _ _) λr2 h=>?_
 refine kS F h (λF h=>?_) λF h=>?_
 ·refine zV ?_; refine zN F h (0:Nat) [2,3] (λx=>[(8,.row 7702 x.2),(9,.p (.val (.int .i64 ((x.1.1:Nat):Int))))]) [2,3] (λx H=>[(7702,.row x.2 214 4 (x.1.2.map cW))]) ?_ ?_ (hw:=by refine dP.trans (iQ 8 7702 214 4 rfl rfl (by decide)) ?_; exact zW)
  ·intro i3 s3 g3 _ _ F wh h; try dsimp only at h
   refine zI aK F h λe4 F h=>?_
   refine zV ?_; refine zQ 2 F h (g3:Nat) [2,3,9,10] (λx=>[(8,.row 7702 x.2),(11,.p (.val (.int .i64 ((x.1.1:Nat):Int))))]) [2,3,10] (λx H=>[(7702,.row x.2 214 4 (x.1.2.map cW))]) ?_ ?_
   ·intro i5 s5 g5 _ _ F Ns5 h; try dsimp only at h
    refine zD [.q,.q,.q,.q,.q,.q,.q,.q,.q] ?_; refine zB F h (λF h=>?_) λF h=>?_
    ·refine zD [.q,.q,.q,.q,.q,.q,.q,.q,.q] ?_; refine zV ?_; refine zN F h (g5:Nat) [2,3,9,10,11,12,13,14] (λx=>[(8,.row 7702 x.2),(15,.p (.val (.int .i64 ((x.1.1:Nat):Int))))]) [2,3,10] (λx H=>[(7702,.row x.2 214 4 (x.1.2.map cW))]) ?_ ?_
     ·intro i6 s6 g6 _ _ F Ns6 h; try dsimp only at h
      refine zD [.q,.q,.q,.q,.q,.q,.q,.q,.q,.q] ?_; refine zI encI F h λe7 F h=>?_
      refine uC F h (oC _ _ _) λr8 h=>?_
      refine kS F h (λF h=>?_) λF h=>?_
      ·refine zK F h (o8 _ _ _ _) λr9 h=>?_
       refine sD F h (λF h=>?_) λF h=>?_
       ·refine zC F h λF h=>?_
        refine zF (eq_true (show (s6.length+1) * 32<=140737488355328 by omega)) F λF=>?_
        refine zF (bz cW s6 [(⟨((i3:Nat):Int),((i6:Nat):Int),r9,(decide (((i5:Nat):Int)=0))⟩:cu)] (c:=[[.val (.int .i64 ((i3:Nat):Int)),.val (.int .i64 ((i6:Nat):Int)),.val (.int .i64 r9),.val (.bool (decide (((i5:Nat):Int)=0)))]]) rfl) F λF=>?_
        exact zX (z:=Ns6 _ (g6+1) h zW)
       ·refine nN F h (λF h=>?_) λF h=>?_
        ·refine zB F h (λF h=>?_) λF h=>?_
         ·refine zC F h λF h=>?_
          refine zF (eq_true (show (s6.length+1) * 32<=140737488355328 by omega)) F λF=>?_
          refine zF (bz cW s6 [(⟨((i3:Nat):Int),((i6:Nat):Int),r9,(decide (((i5:Nat):Int)=0))⟩:cu)] (c:=[[.val (.int .i64 ((i3:Nat):Int)),.val (.int .i64 ((i6:Nat):Int)),.val (.int .i64 r9),.val (.bool (decide (((i5:Nat):Int)=0)))]]) rfl) F λF=>?_
          exact zX (z:=Ns6 _ (g6+1) h zW)
         ·exact zX (z:=Ns6 _ g6 h zW)
        ·exact zX (z:=Ns6 _ g6 h zW)
      ·exact zX (z:=Ns6 _ g6 h zW)
     ·intro i6 s6 g6 _ F h; try dsimp only at h
      exact zX (z:=Ns5 _ g6 h zW)
    ·refine zV ?_; refine zN F h (g5:Nat) [2,3,9,10,11,12,13,14] (λx=>[(8,.row 7702 x.2),(15,.p (.val (.int .i64 ((x.1.1:Nat):Int))))]) [2,3,10] (λx H=>[(7702,.row x.2 214 4 (x.1.2.map cW))]) ?_ ?_
     ·intro i10 s10 g10 _ _ F afc h; try dsimp only at h
      refine zD [.q,.q,.q,.q,.q,.q,.q,.q,.q,.q] ?_; refine zI encI F h λe11 F h=>?_
      refine uC F h (oC _ _ _) λr12 h=>?_
      refine kS F h (λF h=>?_) λF h=>?_
      ·refine zK F h (o8 _ _ _ _) λr13 h=>?_
       refine sD F h (λF h=>?_) λF h=>?_
       ·refine zC F h λF h=>?_
        refine zF (eq_true (show (s10.length+1) * 32<=140737488355328 by omega)) F λF=>?_
        refine zF (bz cW s10 [(⟨((i3:Nat):Int),((i10:Nat):Int),r13,(decide (((i5:Nat):Int)=0))⟩:cu)] (c:=[[.val (.int .i64 ((i3:Nat):Int)),.val (.int .i64 ((i10:Nat):Int)),.val (.int .i64 r13),.val (.bool (decide (((i5:Nat):Int)=0)))]]) rfl) F λF=>?_
        exact zX (z:=afc _ (g10+1) h zW)
       ·refine nN F h (λF h=>?_) λF h=>?_
        ·refine zB F h (λF h=>?_) λF h=>?_
         ·refine zC F h λF h=>?_
          refine zF (eq_true (show (s10.length+1) * 32<=140737488355328 by omega)) F λF=>?_
          refine zF (bz cW s10 [(⟨((i3:Nat):Int),((i10:Nat):Int),r13,(decide (((i5:Nat):Int)=0))⟩:cu)] (c:=[[.val (.int .i64 ((i3:Nat):Int)),.val (.int .i64 ((i10:Nat):Int)),.val (.int .i64 r13),.val (.bool (decide (((i5:Nat):Int)=0)))]]) rfl) F λF=>?_
          exact zX (z:=afc _ (g10+1) h zW)
         ·exact zX (z:=afc _ g10 h zW)
        ·exact zX (z:=afc _ g10 h zW)
      ·exact zX (z:=afc _ g10 h zW)
     ·intro i10 s10 g10 _ F h; try dsimp only at h
      exact zX (z:=Ns5 _ g10 h zW)
   ·intro i5 s5 g5 _ F h; try dsimp only at h
    exact zX (z:=wh _ g5 h zW)
  ·intro i3 s3 g3 _ F h; try dsimp only at h
   exact k9 h
 ·exact k9 h
end
end Go.Proofs.YtllicmcihlfajaaGreat
set_option maxRecDepth 20000
namespace Go.Proofs.YtllicmcihlfajaaGreat
open Go.cE
noncomputable section
theorem tZ (a0:aG) (r:Int) (h:gA a0=some r):aS Tryz.prog 109 [.agg (aB a0)] (λv=>v = .val (.int .i64 r)):=by
 refine aS.kP ?_; refine aR [] func109 ?_; rw[ntmps109,results109]; unfold gA at h; have F:=trivial; refine sD F h (λF h=>?_) λF h=>?_
 ·exact zR h
 ·refine sD F h (λF h=>?_) λF h=>?_
  ·exact zR h
  ·refine sD F h (λF h=>?_) λF h=>?_
   ·exact zR h
   ·refine sD F h (λF h=>?_) λF h=>?_
    ·exact zR h
    ·refine zB F h (λF h=>?_) λF h=>?_
     ·exact zR h
     ·refine zK F h (lN _) λr1 h=>?_
      refine nN F h (λF h=>?_) λF h=>?_
      ·refine zK F h (lM _) λr2 h=>?_
       refine nN F h (λF h=>?_) λF h=>?_
       ·refine zK F h (lN _) λr3 h=>?_
        refine nN F h (λF h=>?_) λF h=>?_
        ·refine zK F h (lM _) λr4 h=>?_
         refine nN F h (λF h=>?_) λF h=>?_
         ·refine zK F h (p8 _) λr5 h=>?_
          refine kS F h (λF h=>?_) λF h=>?_
          ·exact zR h
          ·exact zR h
         ·exact zR h
        ·exact zR h
       ·exact zR h
      ·exact zR h
theorem p9 (a0:aP) (a1:Int) (r:az) (h:ez a0 a1=some r):bu Tryz.prog 113 [.agg [.aU (a0.nodes.map ag),.aU (a0.au.map ah)],.val (.int .i64 a1)] (λv=>v = .agg [.row 3 1 (r.host.graph.nodes.map encI),.row 133 3 (r.host.graph.au.map bf),.row 26 1 (r.host.values.map b9),.row 3 1 (r.nodes.map encI),.row 3 1 (r.au.map encI),.p (.val (.int .i64 r.next))]):=by
 refine bu.uT ?_; refine bF [29,38,49,50,70,90] func113 ?_; rw[ntmps113,results113]; unfold ez at h; have F:=trivial; refine zV ?_; refine zN F h ((0,0,0):Nat×Nat×Nat) [2,4,5] (λx=>[(6,.p (.val (.int .i64 ((x.1.1:Nat):Int))))]) [2,4] (λx H=>[(5,bx (H 5) [(0,.row 6459 x.2.1),(2,.row 6460 x.2.2.1),(3,.row 6461 x.2.2.2)]),(6459,.row x.2.1 3 1 (x.1.2.1.map encI)),(6460,.row x.2.2.1 26 1 (x.1.2.2.1.map b9)),(6461,.row x.2.2.2 3 1 (x.1.2.2.2.map encI))]) ?_ ?_ (hw:=by refine dP.trans (cC 5 0 6459 3 1 _ rfl rfl rfl (by decide)) ?_; refine dP.trans (cC 5 2 6460 26 1 _ rfl rfl rfl (by decide)) ?_; refine dP.trans (cC 5 3 6461 3 1 _ rfl rfl rfl (by decide)) ?_; exact zW)
 ·intro i2 s2 g2 _ _ F nk h; try dsimp only at h
  refine zI ag F h λe3 F h=>?_
  refine zC F h λF h=>?_
  refine zF (eq_true (show (s2.2.2.length+1) * 8<=140737488355328 by omega)) F λF=>?_
  refine zF (bz encI s2.2.2 [e3.id] (c:=[[.val (.int .i64 e3.id)]]) rfl) F λF=>?_
  refine zC F h λF h=>?_
  refine zF (eq_true (show (s2.1.length+1) * 8<=140737488355328 by omega)) F λF=>?_
  refine zF (bz encI s2.1 [e3.type] (c:=[[.val (.int .i64 e3.type)]]) rfl) F λF=>?_
  refine zE [(0,.p),(1,.p),(3,.p),(2,.b),(4,.q),(5,.q),(6,.w),(7,.w),(8,.w),(9,.q),(10,.q),(11,.w)] ?_; refine zC F h λF h=>?_
  refine zF (eq_true (show (e3.values.length) * 8<=140737488355328 by omega)) F λF=>?_
  refine zF (eq_true (fz (n:=1) (f:=encI) (λ_=>rfl) e3.values)) F λF=>?_
  refine zC F h λF h=>?_
  refine zF (eq_true (show (s2.2.1.length+1) * 24<=140737488355328 by omega)) F λF=>?_
  refine zF (bz b9 s2.2.1 [e3.values] (c:=[[.aU (e3.values.map encI)]]) rfl) F λF=>?_
  exact zX (z:=nk _ (g2.1+1,g2.2.1+1,g2.2.2+1) h zW)
 ·intro i2 s2 g2 _ F h; try dsimp only at h
  refine zV ?_; refine zN F h ((0,0):Nat×Nat) [2,4,5] (λx=>[(8,.p (.val (.int .i64 ((x.1.1:Nat):Int))))]) [2,4,6459,6460,6461] (λx H=>[(5,bx (H 5) [(1,.row 6502 x.2.1),(4,.row 6503 x.2.2)]),(6502,.row x.2.1 133 3 (x.1.2.1.map bf)),(6503,.row x.2.2 3 1 (x.1.2.2.map encI))]) ?_ ?_ (hw:=by refine dP.trans (cC 5 1 6502 133 3 _ rfl rfl rfl (by decide)) ?_; refine dP.trans (cC 5 4 6503 3 1 _ rfl rfl rfl (by decide)) ?_; exact zW)
  ·intro i4 s4 g4 _ _ F Ns4 h; try dsimp only at h
   refine zI ah F h λe5 F h=>?_
   refine zC F h λF h=>?_
   refine zF (eq_true (show (s4.2.length+1) * 8<=140737488355328 by omega)) F λF=>?_
   refine zF (bz encI s4.2 [e5.id] (c:=[[.val (.int .i64 e5.id)]]) rfl) F λF=>?_
   refine zE [(0,.p),(1,.p),(2,.p),(4,.q),(5,.q),(6,.q),(7,.q),(8,.q),(9,.q),(10,.q),(11,.q),(12,.q),(13,.q),(14,.q),(15,.q),(16,.q),(17,.p),(3,.q),(18,.w),(19,.q),(20,.q),(21,.q),(22,.w)] ?_; refine uC F h (cM _ _) λr6 h=>?_
   refine uC F h (cM _ _) λr7 h=>?_
   refine zC F h λF h=>?_
   refine zF (eq_true (show (s4.1.length+1) * 24<=140737488355328 by omega)) F λF=>?_
   refine zF (bz bf s4.1 [(⟨e5.type,r6,r7⟩:Edge)] (c:=[[.val (.int .i64 e5.type),.val (.int .i64 r6),.val (.int .i64 r7)]]) rfl) F λF=>?_
   exact zX (z:=Ns4 _ (g4.1+1,g4.2+1) h zW)
  ·intro i4 s4 g4 _ F h; try dsimp only at h
   exact k9 h
theorem qL (a0:List aj) (a1:Int) (r:Int) (h:iY a0 a1=some r):aS Tryz.prog 165 [.aU (a0.map ag),.val (.int .i64 a1)] (λv=>v = .val (.int .i64 r)):=by
 refine aS.kP ?_; refine aR [] func165 ?_; rw[ntmps165,results165]; unfold iY at h; have F:=trivial; refine zK F h (mF _ (λx2=>jX x2 a1) 201 [] [.dJ [.val (.int .i64 a1)] 0] (λx2 r h=>aaT x2 a1 r h)) λr3 h=>?_
 exact zR h
end
end Go.Proofs.YtllicmcihlfajaaGreat
set_option maxRecDepth 20000
namespace Go.Proofs.YtllicmcihlfajaaGreat
open Go.cE
noncomputable section
theorem kT (a0:List aj) (p1:aj->Option Bool) (k1:FuncId) (fs1 cs1:List PV) (hp1:∀x0 r,p1 x0=some r->aS Tryz.prog k1 (fs1++[.agg (ag x0)]++cs1) (λv=>v = .val (.bool r))) (r:Bool) (h:dz a0 p1=some r):aS Tryz.prog 121 [.aU (a0.map ag),.gR (.func k1) fs1 cs1] (λv=>v = .val (.bool r)):=by
 refine aS.kP ?_; refine aR [] func121 ?_; rw[ntmps121,results121]; unfold dz at h; have F:=trivial; refine zK F h (mF _ p1 k1 fs1 cs1 hp1) λr2 h=>?_
 exact zR h
theorem xu (a0:aG) (a1:aG) (r:aG) (h:kg a0 a1=some r):bu Tryz.prog 76 [.agg (aB a0),.agg (aB a1)] (λv=>v = .agg [.p (.aU (r.ax.map ag)),.p (.aU (r.aD.map ah)),.row 79 3 (r.aQ.map ag),.row 84 4 (r.aM.map ah),.p (.aU (r.values.map aH)),.p (.val (.int .i64 r.next.x0)),.p (.val (.int .i64 r.next.x1))]):=by
 refine bu.uT ?_; refine bF [39,68] func76 ?_; rw[ntmps76,results76]; unfold kg at h; have F:=trivial; refine zF (show (0:Int)<=1 by decide) F λF=>?_
 refine zF (show (1:Int)<((2:Nat):Int) by decide) F λF=>?_
 refine zF (show (0:Int)<=0 by decide) F λF=>?_
 refine zF (show (0:Int)<((2:Nat):Int) by decide) F λF=>?_
 refine zV ?_; refine zN F h (0:Nat) [2,3,4,6,7,24,25] (λx=>[(26,.p (.val (.int .i64 ((x.1.1:Nat):Int))))]) [2,3,4,5] (λx H=>[(7,bx (H 7) [(2,.row 3259 x.2)]),(3259,.row x.2 79 3 (x.1.2.map ag))]) ?_ ?_ (hw:=by refine dP.trans (cC 7 2 3259 79 3 _ rfl rfl rfl (by decide)) ?_; exact zW)
 ·intro i2 s2 g2 _ _ F nk h; try dsimp only at h
  refine zI ag F h λe3 F h=>?_
  refine zK F h (mZ _ _ _) λr4 h=>?_
  refine zC F h λF h=>?_
  refine zF (eq_true (show (s2.length+1) * 40<=140737488355328 by omega)) F λF=>?_
  refine zF (bz ag s2 [(⟨r4,e3.type,e3.values⟩:aj)] (c:=[[.val (.int .i64 r4),.val (.int .i64 e3.type),.aU (e3.values.map encI)]]) rfl) F λF=>?_
  exact zX (z:=nk _ (g2+1) h zW)
 ·intro i2 s2 g2 _ F h; try dsimp only at h
  refine zV ?_; refine zN F h (0:Nat) [2,3,4,6,7,43,44] (λx=>[(45,.p (.val (.int .i64 ((x.1.1:Nat):Int))))]) [2,3,4,5,3259] (λx H=>[(7,bx (H 7) [(3,.row 3279 x.2)]),(3279,.row x.2 84 4 (x.1.2.map ah))]) ?_ ?_ (hw:=by refine dP.trans (cC 7 3 3279 84 4 _ rfl rfl rfl (by decide)) ?_; exact zW)
  ·intro i5 s5 g5 _ _ F Ns5 h; try dsimp only at h
   refine zI ah F h λe6 F h=>?_
   refine zD [.q,.q,.q,.q,.q,.q,.q,.q,.q,.q,.q,.q,.q,.w,.q,.w,.q,.w] ?_; refine uC F h (mZ _ _ _) λr7 h=>?_
   refine uC F h (mZ _ _ _) λr8 h=>?_
   refine uC F h (mZ _ _ _) λr9 h=>?_
   refine zC F h λF h=>?_
   refine zF (eq_true (show (s5.length+1) * 32<=140737488355328 by omega)) F λF=>?_
   refine zF (bz ah s5 [(⟨r7,e6.type,r8,r9⟩:ak)] (c:=[[.val (.int .i64 r7),.val (.int .i64 e6.type),.val (.int .i64 r8),.val (.int .i64 r9)]]) rfl) F λF=>?_
   exact zX (z:=Ns5 _ (g5+1) h zW)
  ·intro i5 s5 g5 _ F h; try dsimp only at h
   refine zF (show (0:Int)<=1 by decide) F λF=>?_
   refine zF (show (1:Int)<((2:Nat):Int) by decide) F λF=>?_
   refine zF (show (0:Int)<=1 by decide) F λF=>?_
   refine zF (show (1:Int)<((2:Nat):Int) by decide) F λF=>?_
   refine zF (show (0:Int)<=1 by decide) F λF=>?_
   refine zF (show (1:Int)<((2:Nat):Int) by decide) F λF=>?_
   refine zF (show (0:Int)<=0 by decide) F λF=>?_
   refine zF (show (0:Int)<((2:Nat):Int) by decide) F λF=>?_
   exact k9 h
theorem uY (a0:Host) (r:Host) (h:gP a0=some r):bu Tryz.prog 40 [.agg (oB a0)] (λv=>v = .agg [.row 3 1 (r.graph.nodes.map encI),.row 133 3 (r.graph.au.map bf),.row 26 1 (r.values.map b9)]):=by
 refine bu.uT ?_; refine bF [25,26] func40 ?_; rw[ntmps40,results40]; unfold gP at h; have F:=trivial; refine zG 1112 F h (uX _) λr1 h=>?_
 refine zV ?_; refine zN F h (0:Nat) [1,2,3] (λx=>[(4,.p (.val (.int .i64 ((x.1.1:Nat):Int))))]) [1,2,1112,1113] (λx H=>[(3,bx (H 3) [(2,.row 3959 x.2)]),(3959,.row x.2 26 1 (x.1.2.map b9))]) ?_ ?_ (hw:=by refine dP.trans (cC 3 2 3959 26 1 _ rfl rfl rfl (by decide)) ?_; exact zW)
 ·intro i2 s2 g2 _ _ F nk h; try dsimp only at h
  refine zE [(0,.p),(2,.p),(1,.b),(3,.q),(4,.q),(5,.q),(6,.q),(7,.q),(8,.w),(9,.w),(10,.w),(11,.q),(12,.w)] ?_; refine zI b9 F h λe3 F h=>?_
  refine zC F h λF h=>?_
  refine zF (eq_true (show (e3.length) * 8<=140737488355328 by omega)) F λF=>?_
  refine zF (eq_true (fz (n:=1) (f:=encI) (λ_=>rfl) e3)) F λF=>?_
  refine zC F h λF h=>?_
  refine zF (eq_true (show (s2.length+1) * 24<=140737488355328 by omega)) F λF=>?_
  refine zF (bz b9 s2 [e3] (c:=[[.aU (e3.map encI)]]) rfl) F λF=>?_
  exact zX (z:=nk _ (g2+1) h zW)
 ·intro i2 s2 g2 _ F h; try dsimp only at h
  exact k9 h
end
end Go.Proofs.YtllicmcihlfajaaGreat
set_option maxRecDepth 20000
namespace Go.Proofs.YtllicmcihlfajaaGreat
open Go.cE
noncomputable section
theorem qa (a0:List ak) (p1:ak->Option Bool) (k1:FuncId) (fs1 cs1:List PV) (hp1:∀x0 r,p1 x0=some r->aS Tryz.prog k1 (fs1++[.agg (ah x0)]++cs1) (λv=>v = .val (.bool r))) (r:Bool) (h:eu a0 p1=some r):aS Tryz.prog 123 [.aU (a0.map ah),.gR (.func k1) fs1 cs1] (λv=>v = .val (.bool r)):=by
 refine aS.kP ?_; refine aR [] func123 ?_; rw[ntmps123,results123]; unfold eu at h; have F:=trivial; refine zK F h (mG _ p1 k1 fs1 cs1 hp1) λr2 h=>?_
 exact zR h
theorem xw (a0:Types) (a1:Host) (a2:Int) (a3:Bool) (a4:Int) (a5:Int) (a6:Int) (r:(List cu)) (h:kj a0 a1 a2 a3 a4 a5 a6=some r):bu Tryz.prog 191 [.agg [.aU (a0.nodes.map aJ),.aU (a0.au.map aK)],.agg (oB a1),.val (.int .i64 a2),.val (.bool a3),.val (.int .i64 a4),.val (.int .i64 a5),.val (.int .i64 a6)] (λv=>v = .row 214 4 (r.map cW)):=by
 refine bu.uT ?_; refine bF [88] func191 ?_; rw[ntmps191,results191]; unfold kj at h; have F:=trivial; refine zV ?_; refine zN F h (0:Nat) [2,3,4,5,6,7,8,23,24] (λx=>[(15,.row 3415 x.2),(25,.p (.val (.int .i64 ((x.1.1:Nat):Int))))]) [7,8] (λx H=>[(3415,.row x.2 214 4 (x.1.2.map cW))]) ?_ ?_ (hw:=by refine dP.trans (iQ 15 3415 214 4 rfl rfl (by decide)) ?_; exact zW)
 ·intro i7 s7 g7 _ _ F Ns7 h; try dsimp only at h
  refine zI encI F h λe8 F h=>?_
  refine zK F h (aoj _ _ _) λr9 h=>?_
  refine kS F h (λF h=>?_) λF h=>?_
  ·refine zV ?_; refine zN F h () [2,3,4,5,6,7,8,15,16,23,24,25,37,38] (λx=>[(18,.p (.val (.int .i64 x.1.2))),(39,.p (.val (.int .i64 ((x.1.1:Nat):Int))))]) [7,8,3415] (λx H=>[]) ?_ ?_
   ·intro i10 s10 g10 _ _ F afc h; try dsimp only at h
    refine zI bf F h λe11 F h=>?_
    refine nN F h (λF h=>?_) λF h=>?_
    ·refine nN F h (λF h=>?_) λF h=>?_
     ·refine sD F h (λF h=>?_) λF h=>?_
      ·exact zX (z:=afc _ () h zW)
      ·exact zX (z:=afc _ () h zW)
     ·refine zB F h (λF h=>?_) λF h=>?_
      ·exact zX (z:=afc _ () h zW)
      ·exact zX (z:=afc _ () h zW)
    ·exact zX (z:=afc _ () h zW)
   ·intro i10 s10 g10 _ F h; try dsimp only at h
    refine sD F h (λF h=>?_) λF h=>?_
    ·refine zC F h λF h=>?_
     refine zF (eq_true (show (s7.length+1) * 32<=140737488355328 by omega)) F λF=>?_
     refine zF (bz cW s7 [(⟨a2,((i7:Nat):Int),s10,a3⟩:cu)] (c:=[[.val (.int .i64 a2),.val (.int .i64 ((i7:Nat):Int)),.val (.int .i64 s10),.val (.bool a3)]]) rfl) F λF=>?_
     exact zX (z:=Ns7 _ (g7+1) h zW)
    ·refine nN F h (λF h=>?_) λF h=>?_
     ·refine zB F h (λF h=>?_) λF h=>?_
      ·refine zC F h λF h=>?_
       refine zF (eq_true (show (s7.length+1) * 32<=140737488355328 by omega)) F λF=>?_
       refine zF (bz cW s7 [(⟨a2,((i7:Nat):Int),s10,a3⟩:cu)] (c:=[[.val (.int .i64 a2),.val (.int .i64 ((i7:Nat):Int)),.val (.int .i64 s10),.val (.bool a3)]]) rfl) F λF=>?_
       exact zX (z:=Ns7 _ (g7+1) h zW)
      ·exact zX (z:=Ns7 _ g7 h zW)
     ·exact zX (z:=Ns7 _ g7 h zW)
  ·exact zX (z:=Ns7 _ g7 h zW)
 ·intro i7 s7 g7 _ F h; try dsimp only at h
  exact k9 h
theorem cm (a0:aG) (r:aG) (h:bB a0=some r):bu Tryz.prog 14 [.agg (aB a0)] (λv=>v = .agg [.row 79 3 (r.ax.map ag),.row 84 4 (r.aD.map ah),.row 79 3 (r.aQ.map ag),.row 84 4 (r.aM.map ah),.row 87 4 (r.values.map aH),.p (.val (.int .i64 r.next.x0)),.p (.val (.int .i64 r.next.x1))]):=by
 refine bu.uT ?_; refine bF [6,9,13,16,17,20] func14 ?_; rw[ntmps14,results14]; unfold bB at h; have F:=trivial; refine zE [(0,.q),(1,.q),(4,.q),(5,.q),(7,.b),(8,.b),(11,.b),(12,.b),(15,.b),(16,.b),(18,.b),(19,.b),(2,.f),(3,.w),(6,.s),(9,.f),(10,.w),(13,.s),(14,.w),(17,.s),(20,.q),(21,.w)] ?_; refine zH 1080 F h (l6 _) λr1 h=>?_
 refine zC F h λF h=>?_
 refine zF (eq_true (show (a0.aD.length) * 32<=140737488355328 by omega)) F λF=>?_
 refine zF (eq_true (fz (n:=4) (f:=ah) (λ_=>rfl) a0.aD)) F λF=>?_
 refine zH 1192 F h (l6 _) λr2 h=>?_
 refine zC F h λF h=>?_
 refine zF (eq_true (show (a0.aM.length) * 32<=140737488355328 by omega)) F λF=>?_
 refine zF (eq_true (fz (n:=4) (f:=ah) (λ_=>rfl) a0.aM)) F λF=>?_
 refine zC F h λF h=>?_
 refine zF (eq_true (show (a0.values.length) * 32<=140737488355328 by omega)) F λF=>?_
 refine zF (eq_true (fz (n:=4) (f:=aH) (λ_=>rfl) a0.values)) F λF=>?_
 exact k9 h
theorem nC (a0:aj) (a1:aj) (r:Bool) (h:eM a0 a1=some r):aS Tryz.prog 106 [.agg (ag a0),.agg (ag a1)] (λv=>v = .val (.bool r)):=by
 refine aS.kP ?_; refine aR [] func106 ?_; rw[ntmps106,results106]; unfold eM at h; have F:=trivial; refine nN F h (λF h=>?_) λF h=>?_
 ·refine nN F h (λF h=>?_) λF h=>?_
  ·refine zK F h (iI _ _) λr2 h=>?_
   exact zR h
  ·exact zR h
 ·exact zR h
end
end Go.Proofs.YtllicmcihlfajaaGreat
set_option maxRecDepth 20000
namespace Go.Proofs.YtllicmcihlfajaaGreat
open Go.cE
noncomputable section
theorem jC (a0:Types) (a1:az) (r:Int) (h:cg a0 a1=some r):aS Tryz.prog 61 [.agg [.aU (a0.nodes.map aJ),.aU (a0.au.map aK)],.agg (aA a1)] (λv=>v = .val (.int .i64 r)):=by
 refine aS.kP ?_; refine aR [] func61 ?_; rw[ntmps61,results61]; unfold cg at h; have F:=trivial; refine zK F h (vv _) λr2 h=>?_
 refine kS F h (λF h=>?_) λF h=>?_
 ·refine zK F h (o5 _ _) λr3 h=>?_
  refine kS F h (λF h=>?_) λF h=>?_
  ·refine nN F h (λF h=>?_) λF h=>?_
   ·refine kS F h (λF h=>?_) λF h=>?_
    ·refine sD F h (λF h=>?_) λF h=>?_
     ·exact zR h
     ·refine zB F h (λF h=>?_) λF h=>?_
      ·exact zR h
      ·refine zK F h (qp _ _) λr4 h=>?_
       refine kS F h (λF h=>?_) λF h=>?_
       ·refine zK F h (qp _ _) λr5 h=>?_
        refine kS F h (λF h=>?_) λF h=>?_
        ·refine zV ?_; refine zN F h () [3] (λx=>[(11,.p (.val (.int .i64 ((x.1.1:Nat):Int))))]) [3] (λx H=>[]) ?_ ?_
         ·intro i6 s6 g6 _ _ F Ns6 h; try dsimp only at h
          refine zD [.q,.q,.q,.q,.q,.q,.q,.q,.q] ?_; refine zI encI F h λe7 F h=>?_
          refine uC F h (cM _ _) λr8 h=>?_
          refine zB F h (λF h=>?_) λF h=>?_
          ·exact zR h
          ·exact zX (z:=Ns6 _ () h zW)
         ·intro i6 s6 g6 _ F h; try dsimp only at h
          exact zR h
        ·exact zR h
       ·exact zR h
    ·exact zR h
   ·exact zR h
  ·exact zR h
 ·exact zR h
theorem wu (a0:dI) (a1:dI) (r:Bool) (h:iE a0 a1=some r):aS Tryz.prog 91 [.agg [.aU (a0.nodes.map encI),.aU (a0.au.map bf)],.agg [.aU (a1.nodes.map encI),.aU (a1.au.map bf)]] (λv=>v = .val (.bool r)):=by
 refine aS.kP ?_; refine aR [] func91 ?_; rw[ntmps91,results91]; unfold iE at h; have F:=trivial; refine zK F h (iI _ _) λr2 h=>?_
 refine nN F h (λF h=>?_) λF h=>?_
 ·refine kS F h (λF h=>?_) λF h=>?_
  ·refine zV ?_; refine zN F h () [2,3] (λx=>[(5,.p (.val (.int .i64 ((x.1.1:Nat):Int))))]) [2,3] (λx H=>[]) ?_ ?_
   ·intro i3 s3 g3 _ _ F wh h; try dsimp only at h
    refine zD [.q,.q,.q,.q,.q,.q,.q,.q,.q,.q,.q] ?_; refine zI bf F h λe4 F h=>?_
    refine zI bf F h λe5 F h=>?_
    refine kS F h (λF h=>?_) λF h=>?_
    ·exact zX (z:=wh _ () h zW)
    ·exact zR h
   ·intro i3 s3 g3 _ F h; try dsimp only at h
    exact zR h
  ·exact zR h
 ·exact zR h
theorem nX (a0:az) (a1:az) (r:(List aj)×(List ak)) (h:eY a0 a1=some r):bu Tryz.prog 157 [.agg (aA a0),.agg (aA a1)] (λv=>v = .dB [.row 79 3 (r.1.map ag),.row 84 4 (r.2.map ah)]):=by
 refine bu.uT ?_; refine bF [31,53] func157 ?_; rw[ntmps157,results157]; unfold eY at h; have F:=trivial; refine zV ?_; refine zN F h (0:Nat) [2,3,7] (λx=>[(6,.row 10148 x.2),(8,.p (.val (.int .i64 ((x.1.1:Nat):Int))))]) [2,3] (λx H=>[(10148,.row x.2 79 3 (x.1.2.map ag))]) ?_ ?_ (hw:=by refine dP.trans (iQ 6 10148 79 3 rfl rfl (by decide)) ?_; exact zW)
 ·intro i2 s2 g2 _ _ F nk h; try dsimp only at h
  refine zD [.q,.q,.q,.q,.q,.q,.q,.q,.q] ?_; refine zI encI F h λe3 F h=>?_
  refine uC F h (cM _ _) λr4 h=>?_
  refine zB F h (λF h=>?_) λF h=>?_
  ·refine zG 1464 F h (pY _ _) λr5 h=>?_
   refine zC F h λF h=>?_
   refine zF (eq_true (show (s2.length+1) * 40<=140737488355328 by omega)) F λF=>?_
   refine zF (bz ag s2 [r5] (c:=[[.val (.int .i64 r5.id),.val (.int .i64 r5.type),.aU (r5.values.map encI)]]) rfl) F λF=>?_
   exact zX (z:=nk _ (g2+1) h zW)
  ·exact zX (z:=nk _ g2 h zW)
 ·intro i2 s2 g2 _ F h; try dsimp only at h
  refine zV ?_; refine zN F h (0:Nat) [2,3,6] (λx=>[(7,.row 10172 x.2),(9,.p (.val (.int .i64 ((x.1.1:Nat):Int))))]) [2,3,10148] (λx H=>[(10172,.row x.2 84 4 (x.1.2.map ah))]) ?_ ?_ (hw:=by refine dP.trans (iQ 7 10172 84 4 rfl rfl (by decide)) ?_; exact zW)
  ·intro i6 s6 g6 _ _ F Ns6 h; try dsimp only at h
   refine zD [.q,.q,.q,.q,.q,.q,.q,.q,.q] ?_; refine zI encI F h λe7 F h=>?_
   refine uC F h (cM _ _) λr8 h=>?_
   refine zB F h (λF h=>?_) λF h=>?_
   ·refine zK F h (jO _ _) λr9 h=>?_
    refine zC F h λF h=>?_
    refine zF (eq_true (show (s6.length+1) * 32<=140737488355328 by omega)) F λF=>?_
    refine zF (bz ah s6 [r9] (c:=[[.val (.int .i64 r9.id),.val (.int .i64 r9.type),.val (.int .i64 r9.src),.val (.int .i64 r9.dst)]]) rfl) F λF=>?_
    exact zX (z:=Ns6 _ (g6+1) h zW)
   ·exact zX (z:=Ns6 _ g6 h zW)
  ·intro i6 s6 g6 _ F h; try dsimp only at h
   exact k9 h
end
end Go.Proofs.YtllicmcihlfajaaGreat
set_option maxRecDepth 20000
namespace Go.Proofs.YtllicmcihlfajaaGreat
open Go.cE
noncomputable section
theorem xJ (a0:Host) (r:Bool) (h:iU a0=some r):aS Tryz.prog 69 [.agg (oB a0)] (λv=>v = .val (.bool r)):=by
 refine aS.kP ?_; refine aR [] func69 ?_; rw[ntmps69,results69]; unfold iU at h; have F:=trivial; refine zK F h (xH _) λr1 h=>?_
 refine nN F h (λF h=>?_) λF h=>?_
 ·refine zB F h (λF h=>?_) λF h=>?_
  ·exact zR h
  ·refine zV ?_; refine zN F h () [1] (λx=>[(3,.p (.val (.int .i64 ((x.1.1:Nat):Int))))]) [1] (λx H=>[]) ?_ ?_
   ·intro i2 s2 g2 _ _ F nk h; try dsimp only at h
    refine zI b9 F h λe3 F h=>?_
    refine zB F h (λF h=>?_) λF h=>?_
    ·exact zR h
    ·exact zX (z:=nk _ () h zW)
   ·intro i2 s2 g2 _ F h; try dsimp only at h
    exact zR h
 ·exact zR h
theorem uZ (a0:az) (r:aP) (h:fC a0=some r):bu Tryz.prog 110 [.agg (aA a0)] (λv=>v = .agg [.row 79 3 (r.nodes.map ag),.row 84 4 (r.au.map ah)]):=by
 refine bu.uT ?_; refine bF [19,34] func110 ?_; rw[ntmps110,results110]; unfold fC at h; have F:=trivial; refine zV ?_; refine zN F h (0:Nat) [1,2,3] (λx=>[(4,.p (.val (.int .i64 ((x.1.1:Nat):Int))))]) [1,2] (λx H=>[(3,bx (H 3) [(0,.row 4320 x.2)]),(4320,.row x.2 79 3 (x.1.2.map ag))]) ?_ ?_ (hw:=by refine dP.trans (cC 3 0 4320 79 3 _ rfl rfl rfl (by decide)) ?_; exact zW)
 ·intro i1 s1 g1 _ _ F Ns1 h; try dsimp only at h
  refine zE [(0,.p),(2,.q),(3,.q),(4,.q),(5,.p),(1,.q),(6,.w),(7,.q),(8,.w)] ?_; refine xP F h (pY _ _) λr2 h=>?_
  refine zC F h λF h=>?_
  refine zF (eq_true (show (s1.length+1) * 40<=140737488355328 by omega)) F λF=>?_
  refine zF (bz ag s1 [r2] (c:=[[.val (.int .i64 r2.id),.val (.int .i64 r2.type),.aU (r2.values.map encI)]]) rfl) F λF=>?_
  exact zX (z:=Ns1 _ (g1+1) h zW)
 ·intro i1 s1 g1 _ F h; try dsimp only at h
  refine zV ?_; refine zN F h (0:Nat) [1,2,3] (λx=>[(5,.p (.val (.int .i64 ((x.1.1:Nat):Int))))]) [1,2,4320] (λx H=>[(3,bx (H 3) [(1,.row 4346 x.2)]),(4346,.row x.2 84 4 (x.1.2.map ah))]) ?_ ?_ (hw:=by refine dP.trans (cC 3 1 4346 84 4 _ rfl rfl rfl (by decide)) ?_; exact zW)
  ·intro i3 s3 g3 _ _ F wh h; try dsimp only at h
   refine zE [(0,.p),(2,.q),(3,.q),(4,.q),(5,.p),(1,.q),(6,.w),(7,.q),(8,.w)] ?_; refine uC F h (jO _ _) λr4 h=>?_
   refine zC F h λF h=>?_
   refine zF (eq_true (show (s3.length+1) * 32<=140737488355328 by omega)) F λF=>?_
   refine zF (bz ah s3 [r4] (c:=[[.val (.int .i64 r4.id),.val (.int .i64 r4.type),.val (.int .i64 r4.src),.val (.int .i64 r4.dst)]]) rfl) F λF=>?_
   exact zX (z:=wh _ (g3+1) h zW)
  ·intro i3 s3 g3 _ F h; try dsimp only at h
   exact k9 h
theorem qM (a0:List ak) (a1:Int) (r:Int) (h:iZ a0 a1=some r):aS Tryz.prog 166 [.aU (a0.map ah),.val (.int .i64 a1)] (λv=>v = .val (.int .i64 r)):=by
 refine aS.kP ?_; refine aR [] func166 ?_; rw[ntmps166,results166]; unfold iZ at h; have F:=trivial; refine zK F h (mG _ (λx2=>jY x2 a1) 202 [] [.dJ [.val (.int .i64 a1)] 0] (λx2 r h=>aaU x2 a1 r h)) λr3 h=>?_
 exact zR h
theorem vC (a0:az) (a1:az) (r:Bool) (h:iq a0 a1=some r):aS Tryz.prog 156 [.agg (aA a0),.agg (aA a1)] (λv=>v = .val (.bool r)):=by
 refine aS.kP ?_; refine aR [] func156 ?_; rw[ntmps156,results156]; unfold iq at h; have F:=trivial; refine zV ?_; refine zN F h () [2,3] (λx=>[(5,.p (.val (.int .i64 ((x.1.1:Nat):Int))))]) [2,3] (λx H=>[]) ?_ ?_
 ·intro i2 s2 g2 _ _ F nk h; try dsimp only at h
  refine zD [.q,.q,.q,.q,.q,.q,.q,.q,.q] ?_; refine zI encI F h λe3 F h=>?_
  refine uC F h (cM _ _) λr4 h=>?_
  refine zD [.q,.q,.q,.q,.q,.q,.q,.q,.q,.q,.q,.q,.q,.q,.q,.q,.q,.q,.q,.q,.q,.q,.q,.q,.q,.q,.q,.q,.q,.q] ?_; refine uC F h (cM _ _) λr5 h=>?_
  refine ak5 F h (λF h=>?_) λF h=>?_
  ·exact zR h
  ·refine zBd F h (λF h=>?_) λF h=>?_
   ·refine zI encI F h λe6 F h=>?_
    refine zA encI F h λe7 F h=>?_
    refine kS F h (λF h=>?_) λF h=>?_
    ·exact zX (z:=nk _ () h zW)
    ·exact zR h
   ·exact zX (z:=nk _ () h zW)
 ·intro i2 s2 g2 _ F h; try dsimp only at h
  refine zV ?_; refine zN F h () [2,3] (λx=>[(7,.p (.val (.int .i64 ((x.1.1:Nat):Int))))]) [2,3] (λx H=>[]) ?_ ?_
  ·intro i8 s8 g8 _ _ F Ns8 h; try dsimp only at h
   refine zD [.q,.q,.q,.q,.q,.q,.q,.q,.q] ?_; refine zI encI F h λe9 F h=>?_
   refine uC F h (cM _ _) λwk h=>?_
   refine zD [.q,.q,.q,.q,.q,.q,.q,.q,.q,.q,.q,.q,.q,.q,.q,.q,.q,.q,.q,.q,.q,.q] ?_; refine uC F h (cM _ _) λr11 h=>?_
   refine ak5 F h (λF h=>?_) λF h=>?_
   ·exact zR h
   ·refine zBd F h (λF h=>?_) λF h=>?_
    ·refine uC F h (jO _ _) λr12 h=>?_
     refine uC F h (jO _ _) λr13 h=>?_
     refine kS F h (λF h=>?_) λF h=>?_
     ·exact zX (z:=Ns8 _ () h zW)
     ·exact zR h
    ·exact zX (z:=Ns8 _ () h zW)
  ·intro i8 s8 g8 _ F h; try dsimp only at h
   exact zR h
end
end Go.Proofs.YtllicmcihlfajaaGreat
set_option maxRecDepth 20000
namespace Go.Proofs.YtllicmcihlfajaaGreat
open Go.cE
noncomputable section
theorem ac0 (a0:az) (a1:az) (r:aG×Bool) (h:lI a0 a1=some r):bu Tryz.prog 105 [.agg (aA a0),.agg (aA a1)] (λv=>v = .dB [.agg [.row 79 3 (r.1.ax.map ag),.row 84 4 (r.1.aD.map ah),.row 79 3 (r.1.aQ.map ag),.row 84 4 (r.1.aM.map ah),.row 87 4 (r.1.values.map aH),.p (.val (.int .i64 r.1.next.x0)),.p (.val (.int .i64 r.1.next.x1))],.p (.val (.bool r.2))]):=by
 refine bu.uT ?_; refine bF [76,106,146,164,182] func105 ?_; rw[ntmps105,results105]; unfold lI at h; have F:=trivial; refine zD [.q,.q,.q,.q,.q,.q,.q,.q,.q,.q,.q,.q] ?_; refine xP F h (xq _) λr2 h=>?_
 refine xP F h (rQ _) λr3 h=>?_
 refine xP F h (xq _) λr4 h=>?_
 refine xP F h (rQ _) λr5 h=>?_
 refine zV ?_; refine zN F h ((0,0):Nat×Nat) [4,6,7,8,9,10,38,39] (λx=>[(40,.p (.val (.int .i64 ((x.1.1:Nat):Int))))]) [4] (λx H=>[(6,bx (H 6) [(0,.row 9807 x.2.1),(4,.row 9808 x.2.2)]),(9807,.row x.2.1 79 3 (x.1.2.1.map ag)),(9808,.row x.2.2 87 4 (x.1.2.2.map aH))]) ?_ ?_ (hw:=by refine dP.trans (cC 6 0 9807 79 3 _ rfl rfl rfl (by decide)) ?_; refine dP.trans (cC 6 4 9808 87 4 _ rfl rfl rfl (by decide)) ?_; exact zW)
 ·intro i6 s6 g6 _ _ F Ns6 h; try dsimp only at h
  refine zI ag F h λe7 F h=>?_
  refine zK F h (qL _ _) λr8 h=>?_
  refine zD [.q,.q,.q,.q,.q,.q,.q,.q,.q,.q,.q,.q,.q,.q,.q,.q,.q,.q,.q,.q] ?_; refine uC F h (qM _ _) λr9 h=>?_
  refine ak5 F h (λF h=>?_) λF h=>?_
  ·exact k9 h
  ·refine zBd F h (λF h=>?_) λF h=>?_
   ·refine zA ag F h λe10 F h=>?_
    refine kS F h (λF h=>?_) λF h=>?_
    ·refine zB F h (λF h=>?_) λF h=>?_
     ·refine zC F h λF h=>?_
      refine zF (eq_true (show (s6.1.length+1) * 40<=140737488355328 by omega)) F λF=>?_
      refine zF (bz ag s6.1 [e7] (c:=[[.val (.int .i64 e7.id),.val (.int .i64 e7.type),.aU (e7.values.map encI)]]) rfl) F λF=>?_
      exact zX (z:=Ns6 _ (g6.1+1,g6.2) h zW)
     ·refine zV ?_; refine zN F h (g6.2:Nat) [4,6,7,8,9,10,12,13,38,39,40,79,80] (λx=>[(81,.p (.val (.int .i64 ((x.1.1:Nat):Int))))]) [4,12,9807] (λx H=>[(6,bx (H 6) [(4,.row 9808 x.2)]),(9808,.row x.2 87 4 (x.1.2.map aH))]) ?_ ?_
      ·intro i11 s11 g11 _ _ F asK h; try dsimp only at h
       refine zI encI F h λvB F h=>?_
       refine zI encI F h λe13 F h=>?_
       refine kS F h (λF h=>?_) λF h=>?_
       ·exact zX (z:=asK _ g11 h zW)
       ·refine zC F h λF h=>?_
        refine zF (eq_true (show (s11.length+1) * 32<=140737488355328 by omega)) F λF=>?_
        refine zF (bz aH s11 [(⟨e7.id,((i11:Nat):Int),vB,e13⟩:aO)] (c:=[[.val (.int .i64 e7.id),.val (.int .i64 ((i11:Nat):Int)),.val (.int .i64 vB),.val (.int .i64 e13)]]) rfl) F λF=>?_
        exact zX (z:=asK _ (g11+1) h zW)
      ·intro i11 s11 g11 _ F h; try dsimp only at h
       exact zX (z:=Ns6 _ (g6.1,g11) h zW)
    ·exact k9 h
   ·refine zB F h (λF h=>?_) λF h=>?_
    ·refine zC F h λF h=>?_
     refine zF (eq_true (show (s6.1.length+1) * 40<=140737488355328 by omega)) F λF=>?_
     refine zF (bz ag s6.1 [e7] (c:=[[.val (.int .i64 e7.id),.val (.int .i64 e7.type),.aU (e7.values.map encI)]]) rfl) F λF=>?_
     exact zX (z:=Ns6 _ (g6.1+1,g6.2) h zW)
    ·refine zV ?_; refine zN F h (g6.2:Nat) [4,6,7,8,9,10,12,13,38,39,40,79,80] (λx=>[(81,.p (.val (.int .i64 ((x.1.1:Nat):Int))))]) [4,12,9807] (λx H=>[(6,bx (H 6) [(4,.row 9808 x.2)]),(9808,.row x.2 87 4 (x.1.2.map aH))]) ?_ ?_
     ·intro i14 vQ g14 _ _ F afb h; try dsimp only at h
      refine zI encI F h λe15 F h=>?_
      refine zA ag F h λe16 F h=>?_
      refine zI encI F h λe17 F h=>?_
      refine kS F h (λF h=>?_) λF h=>?_
      ·exact zX (z:=afb _ g14 h zW)
      ·refine zC F h λF h=>?_
       refine zF (eq_true (show (vQ.length+1) * 32<=140737488355328 by omega)) F λF=>?_
       refine zF (bz aH vQ [(⟨e7.id,((i14:Nat):Int),e15,e17⟩:aO)] (c:=[[.val (.int .i64 e7.id),.val (.int .i64 ((i14:Nat):Int)),.val (.int .i64 e15),.val (.int .i64 e17)]]) rfl) F λF=>?_
       exact zX (z:=afb _ (g14+1) h zW)
     ·intro i14 vQ g14 _ F h; try dsimp only at h
      exact zX (z:=Ns6 _ (g6.1,g14) h zW)
 ·intro i6 s6 g6 _ F h; try dsimp only at h
  refine zV ?_; refine zN F h (0:Nat) [4,6,7,8,9,10,110,111] (λx=>[(112,.p (.val (.int .i64 ((x.1.1:Nat):Int))))]) [4,9807,9808] (λx H=>[(6,bx (H 6) [(1,.row 9945 x.2)]),(9945,.row x.2 84 4 (x.1.2.map ah))]) ?_ ?_ (hw:=by refine dP.trans (cC 6 1 9945 84 4 _ rfl rfl rfl (by decide)) ?_; exact zW)
  ·intro i18 s18 g18 _ _ F asL h; try dsimp only at h
   refine zI ah F h λxG F h=>?_
   refine zK F h (qM _ _) λr20 h=>?_
   refine zD [.q,.q,.q,.q,.q,.q,.q,.q,.q,.q,.q,.q,.q,.q,.q,.q,.q,.q] ?_; refine uC F h (qL _ _) λr21 h=>?_
   refine ak5 F h (λF h=>?_) λF h=>?_
   ·exact k9 h
   ·refine zBd F h (λF h=>?_) λF h=>?_
    ·refine zA ah F h λe22 F h=>?_
     refine kS F h (λF h=>?_) λF h=>?_
     ·refine zB F h (λF h=>?_) λF h=>?_
      ·refine zC F h λF h=>?_
       refine zF (eq_true (show (s18.length+1) * 32<=140737488355328 by omega)) F λF=>?_
       refine zF (bz ah s18 [xG] (c:=[[.val (.int .i64 xG.id),.val (.int .i64 xG.type),.val (.int .i64 xG.src),.val (.int .i64 xG.dst)]]) rfl) F λF=>?_
       exact zX (z:=asL _ (g18+1) h zW)
      ·exact zX (z:=asL _ g18 h zW)
     ·exact k9 h
    ·refine zB F h (λF h=>?_) λF h=>?_
     ·refine zC F h λF h=>?_
      refine zF (eq_true (show (s18.length+1) * 32<=140737488355328 by omega)) F λF=>?_
      refine zF (bz ah s18 [xG] (c:=[[.val (.int .i64 xG.id),.val (.int .i64 xG.type),.val (.int .i64 xG.src),.val (.int .i64 xG.dst)]]) rfl) F λF=>?_
      exact zX (z:=asL _ (g18+1) h zW)
     ·exact zX (z:=asL _ g18 h zW)
  ·intro i18 s18 g18 _ F h; try dsimp only at h
   refine zV ?_; refine zN F h (0:Nat) [4,6,7,8,10,149,150] (λx=>[(151,.p (.val (.int .i64 ((x.1.1:Nat):Int))))]) [4,9807,9945,9808] (λx H=>[(6,bx (H 6) [(2,.row 9984 x.2)]),(9984,.row x.2 79 3 (x.1.2.map ag))]) ?_ ?_ (hw:=by refine dP.trans (cC 6 2 9984 79 3 _ rfl rfl rfl (by decide)) ?_; exact zW)
   ·intro i23 s23 g23 _ _ F aCv h; try dsimp only at h
    refine zI ag F h λe24 F h=>?_
    refine zK F h (qL _ _) λr25 h=>?_
    refine zB F h (λF h=>?_) λF h=>?_
    ·refine zC F h λF h=>?_
     refine zF (eq_true (show (s23.length+1) * 40<=140737488355328 by omega)) F λF=>?_
     refine zF (bz ag s23 [e24] (c:=[[.val (.int .i64 e24.id),.val (.int .i64 e24.type),.aU (e24.values.map encI)]]) rfl) F λF=>?_
     exact zX (z:=aCv _ (g23+1) h zW)
    ·exact zX (z:=aCv _ g23 h zW)
   ·intro i23 s23 g23 _ F h; try dsimp only at h
    refine zV ?_; refine zN F h (0:Nat) [4,6,8,167,168] (λx=>[(169,.p (.val (.int .i64 ((x.1.1:Nat):Int))))]) [4,9807,9945,9984,9808] (λx H=>[(6,bx (H 6) [(3,.row 10005 x.2)]),(10005,.row x.2 84 4 (x.1.2.map ah))]) ?_ ?_ (hw:=by refine dP.trans (cC 6 3 10005 84 4 _ rfl rfl rfl (by decide)) ?_; exact zW)
    ·intro i26 s26 g26 _ _ F aCw h; try dsimp only at h
     refine zI ah F h λe27 F h=>?_
     refine zK F h (qM _ _) λr28 h=>?_
     refine zB F h (λF h=>?_) λF h=>?_
     ·refine zC F h λF h=>?_
      refine zF (eq_true (show (s26.length+1) * 32<=140737488355328 by omega)) F λF=>?_
      refine zF (bz ah s26 [e27] (c:=[[.val (.int .i64 e27.id),.val (.int .i64 e27.type),.val (.int .i64 e27.src),.val (.int .i64 e27.dst)]]) rfl) F λF=>?_
      exact zX (z:=aCw _ (g26+1) h zW)
     ·exact zX (z:=aCw _ g26 h zW)
    ·intro i26 s26 g26 _ F h; try dsimp only at h
     exact k9 h
end
end Go.Proofs.YtllicmcihlfajaaGreat
set_option maxRecDepth 20000
namespace Go.Proofs.YtllicmcihlfajaaGreat
open Go.cE
noncomputable section
theorem wv (a0:aG) (a1:aG) (r:aG) (h:gi a0 a1=some r):bu Tryz.prog 87 [.agg (aB a0),.agg (aB a1)] (λv=>v = .agg [.row 79 3 (r.ax.map ag),.row 84 4 (r.aD.map ah),.row 79 3 (r.aQ.map ag),.row 84 4 (r.aM.map ah),.row 87 4 (r.values.map aH),.p (.val (.int .i64 r.next.x0)),.p (.val (.int .i64 r.next.x1))]):=by
 refine bu.uT ?_; refine bF [40,66,102] func87 ?_; rw[ntmps87,results87]; unfold gi at h; have F:=trivial; refine zG 1192 F h (cm _) λr2 h=>?_
 refine zV ?_; refine zN F h (0:Nat) [2,3,4,5] (λx=>[(6,.p (.val (.int .i64 ((x.1.1:Nat):Int))))]) [2,3,4,1194,1195] (λx H=>[(5,bx (H 5) [(0,.row 7202 x.2)]),(7202,.row x.2 79 3 (x.1.2.map ag))]) ?_ ?_ (hw:=by refine dP.trans (cC 5 0 7202 79 3 _ rfl rfl rfl (by decide)) ?_; exact zW)
 ·intro i3 s3 g3 _ _ F wh h; try dsimp only at h
  refine zD [.q,.q,.q,.q,.q,.q,.q,.q,.q] ?_; refine zI ag F h λe4 F h=>?_
  refine uC F h (dW _ _) λr5 h=>?_
  refine kS F h (λF h=>?_) λF h=>?_
  ·exact zX (z:=wh _ g3 h zW)
  ·refine zE [(0,.p),(2,.q),(3,.q),(4,.q),(5,.q),(6,.q),(7,.p),(1,.q),(8,.w),(9,.q),(10,.w)] ?_; refine zC F h λF h=>?_
   refine zF (eq_true (show (s3.length+1) * 40<=140737488355328 by omega)) F λF=>?_
   refine zF (bz ag s3 [e4] (c:=[[.val (.int .i64 e4.id),.val (.int .i64 e4.type),.aU (e4.values.map encI)]]) rfl) F λF=>?_
   exact zX (z:=wh _ (g3+1) h zW)
 ·intro i3 s3 g3 _ F h; try dsimp only at h
  refine zV ?_; refine zN F h (0:Nat) [2,3,4,5] (λx=>[(7,.p (.val (.int .i64 ((x.1.1:Nat):Int))))]) [2,3,4,7202,1194,1195] (λx H=>[(5,bx (H 5) [(1,.row 7231 x.2)]),(7231,.row x.2 84 4 (x.1.2.map ah))]) ?_ ?_ (hw:=by refine dP.trans (cC 5 1 7231 84 4 _ rfl rfl rfl (by decide)) ?_; exact zW)
  ·intro i6 s6 g6 _ _ F Ns6 h; try dsimp only at h
   refine zD [.q,.q,.q,.q,.q,.q,.q,.q,.q] ?_; refine zI ah F h λe7 F h=>?_
   refine uC F h (wq _ _) λr8 h=>?_
   refine kS F h (λF h=>?_) λF h=>?_
   ·exact zX (z:=Ns6 _ g6 h zW)
   ·refine zE [(0,.p),(2,.q),(3,.q),(4,.q),(5,.q),(6,.q),(7,.p),(1,.q),(8,.w),(9,.q),(10,.w)] ?_; refine zC F h λF h=>?_
    refine zF (eq_true (show (s6.length+1) * 32<=140737488355328 by omega)) F λF=>?_
    refine zF (bz ah s6 [e7] (c:=[[.val (.int .i64 e7.id),.val (.int .i64 e7.type),.val (.int .i64 e7.src),.val (.int .i64 e7.dst)]]) rfl) F λF=>?_
    exact zX (z:=Ns6 _ (g6+1) h zW)
  ·intro i6 s6 g6 _ F h; try dsimp only at h
   refine zV ?_; refine zN F h (0:Nat) [2,3,4,5] (λx=>[(8,.p (.val (.int .i64 ((x.1.1:Nat):Int))))]) [2,3,4,7202,7231,1194,1195] (λx H=>[(5,bx (H 5) [(4,.row 7260 x.2)]),(7260,.row x.2 87 4 (x.1.2.map aH))]) ?_ ?_ (hw:=by refine dP.trans (cC 5 4 7260 87 4 _ rfl rfl rfl (by decide)) ?_; exact zW)
   ·intro i9 s9 g9 _ _ F Ns9 h; try dsimp only at h
    refine zD [.q,.q,.q,.q,.q,.q,.q,.q,.q,.q,.q,.q,.q,.q,.q,.q,.o,.w,.s,.q] ?_; refine zI aH F h λe10 F h=>?_
    refine uC F h (jA _ _ _) λr11 h=>?_
    refine kS F h (λF h=>?_) λF h=>?_
    ·exact zX (z:=Ns9 _ g9 h zW)
    ·refine zE [(0,.p),(2,.q),(3,.q),(4,.q),(5,.q),(6,.q),(7,.p),(1,.q),(8,.w),(9,.q),(10,.w)] ?_; refine zC F h λF h=>?_
     refine zF (eq_true (show (s9.length+1) * 32<=140737488355328 by omega)) F λF=>?_
     refine zF (bz aH s9 [e10] (c:=[[.val (.int .i64 e10.id),.val (.int .i64 e10.attr),.val (.int .i64 e10.old),.val (.int .i64 e10.new)]]) rfl) F λF=>?_
     exact zX (z:=Ns9 _ (g9+1) h zW)
   ·intro i9 s9 g9 _ F h; try dsimp only at h
    exact k9 h
end
end Go.Proofs.YtllicmcihlfajaaGreat
set_option maxRecDepth 20000
namespace Go.Proofs.YtllicmcihlfajaaGreat
open Go.cE
noncomputable section
theorem xK (a0:az) (r:Bool) (h:iV a0=some r):aS Tryz.prog 34 [.agg (aA a0)] (λv=>v = .val (.bool r)):=by
 refine aS.kP ?_; refine aR [] func34 ?_; rw[ntmps34,results34]; unfold iV at h; have F:=trivial; refine zK F h (xJ _) λr1 h=>?_
 refine nN F h (λF h=>?_) λF h=>?_
 ·exact zR h
 ·exact zR h
theorem nY (a0:aG) (a1:aG) (r:aG) (h:dV a0 a1=some r):bu Tryz.prog 88 [.agg (aB a0),.agg (aB a1)] (λv=>v = .agg [.row 79 3 (r.ax.map ag),.row 84 4 (r.aD.map ah),.row 79 3 (r.aQ.map ag),.row 84 4 (r.aM.map ah),.row 87 4 (r.values.map aH),.p (.val (.int .i64 r.next.x0)),.p (.val (.int .i64 r.next.x1))]):=by
 refine bu.uT ?_; refine bF [] func88 ?_; rw[ntmps88,results88]; unfold dV at h; have F:=trivial; refine zG 1192 F h (cm _) λr2 h=>?_
 refine zD [.q,.q,.q,.q,.q,.q,.q,.q,.q,.q,.q,.q] ?_; refine zF (show (0:Int)<=0 by decide) F λF=>?_
 refine zF (show (0:Int)<((2:Nat):Int) by decide) F λF=>?_
 refine zF (show (0:Int)<=1 by decide) F λF=>?_
 refine zF (show (1:Int)<((2:Nat):Int) by decide) F λF=>?_
 refine zF (show (0:Int)<=0 by decide) F λF=>?_
 refine zF (show (0:Int)<((2:Nat):Int) by decide) F λF=>?_
 refine zV ?_; refine zL F h (0:Nat) [2,3,4,5,6,7] (λx=>[(8,.p (.val (.int .i64 x.1.1)))]) [2,3,4,1192,1193,1195,1196] (λx H=>[(5,bx (H 5) [(2,.row 1194 x.2)]),(1194,.row x.2 79 3 (x.1.2.map ag))]) ?_; intro s3 g3 _ _ F wh h; try dsimp only at h
 refine zB F h (λF h=>?_) λF h=>?_
 ·refine zD [.q,.q,.q,.q,.q,.q,.q,.q,.q,.q,.q,.q,.q,.q,.w] ?_; refine zA ag F h λe4 F h=>?_
  refine uC F h (jB _ _ _) λr5 h=>?_
  refine zF (abI ag s3.2 s3.1.toNat (⟨r5,e4.type,e4.values⟩:aj) (c:=[.val (.int .i64 r5),.val (.int .i64 e4.type),.aU (e4.values.map encI)]) rfl) F λF=>?_
  exact zX (z:=wh _ g3 h zW)
 ·try dsimp only at h
  refine zV ?_; refine zL F h (0:Nat) [2,3,4,5,6,7] (λx=>[(9,.p (.val (.int .i64 x.1.1)))]) [2,3,4,1192,1193,1194,1196] (λx H=>[(5,bx (H 5) [(3,.row 1195 x.2)]),(1195,.row x.2 84 4 (x.1.2.map ah))]) ?_; intro s6 g6 _ _ F Ns6 h; try dsimp only at h
  refine zB F h (λF h=>?_) λF h=>?_
  ·refine zA ah F h λe7 F h=>?_
   refine zD [.q,.q,.q,.q,.q,.q,.q,.q,.q,.q,.q,.q,.q,.q,.q,.q,.q,.q,.q,.q,.q,.q,.w] ?_; refine uC F h (jB _ _ _) λr8 h=>?_
   refine uC F h (jB _ _ _) λr9 h=>?_
   refine uC F h (jB _ _ _) λwk h=>?_
   refine zF (abI ah s6.2 s6.1.toNat (⟨r8,e7.type,r9,wk⟩:ak) (c:=[.val (.int .i64 r8),.val (.int .i64 e7.type),.val (.int .i64 r9),.val (.int .i64 wk)]) rfl) F λF=>?_
   exact zX (z:=Ns6 _ g6 h zW)
  ·try dsimp only at h
   refine zF (show (0:Int)<=1 by decide) F λF=>?_
   refine zF (show (1:Int)<((2:Nat):Int) by decide) F λF=>?_
   refine zF (show (0:Int)<=1 by decide) F λF=>?_
   refine zF (show (1:Int)<((2:Nat):Int) by decide) F λF=>?_
   refine zF (show (0:Int)<=1 by decide) F λF=>?_
   refine zF (show (1:Int)<((2:Nat):Int) by decide) F λF=>?_
   refine zF (show (0:Int)<=0 by decide) F λF=>?_
   refine zF (show (0:Int)<((2:Nat):Int) by decide) F λF=>?_
   exact k9 h
end
end Go.Proofs.YtllicmcihlfajaaGreat
set_option maxRecDepth 20000
namespace Go.Proofs.YtllicmcihlfajaaGreat
open Go.cE
noncomputable section
theorem agb (a0:Types) (a1:az) (a2:aG) (a3:aG) (r:az×Int) (h:oD a0 a1 a2 a3=some r):aS Tryz.prog 77 [.agg [.aU (a0.nodes.map aJ),.aU (a0.au.map aK)],.agg (aA a1),.agg (aB a2),.agg (aB a3)] (λv=>v = .dB [.agg (aA r.1),.val (.int .i64 r.2)]):=by
 refine aS.kP ?_; refine aR [] func77 ?_; rw[ntmps77,results77]; unfold oD at h; have F:=trivial; refine zG 1208 F h (xu _ _) λr4 h=>?_
 refine zF (show (0:Int)<=0 by decide) F λF=>?_
 refine zF (show (0:Int)<((2:Nat):Int) by decide) F λF=>?_
 refine zKs [1208,1209] F h (oL _ _ _) λr5 h=>?_
 exact zR h
theorem wz (a0:az) (a1:az) (r:aG×Bool) (h:iH a0 a1=some r):bu Tryz.prog 99 [.agg (aA a0),.agg (aA a1)] (λv=>v = .dB [.agg [.row 79 3 (r.1.ax.map ag),.row 84 4 (r.1.aD.map ah),.row 79 3 (r.1.aQ.map ag),.row 84 4 (r.1.aM.map ah),.row 87 4 (r.1.values.map aH),.p (.val (.int .i64 r.1.next.x0)),.p (.val (.int .i64 r.1.next.x1))],.p (.val (.bool r.2))]):=by
 refine bu.uT ?_; refine bF [100] func99 ?_; rw[ntmps99,results99]; unfold iH at h; have F:=trivial; refine zK F h (vC _ _) λr2 h=>?_
 refine kS F h (λF h=>?_) λF h=>?_
 ·refine zG 1416 F h (nX _ _) λr3 h=>?_
  refine zG 1544 F h (nX _ _) λr4 h=>?_
  refine zV ?_; refine zN F h (0:Nat) [2,3,4,6] (λx=>[(7,.p (.val (.int .i64 ((x.1.1:Nat):Int))))]) [2,3,4,1416,1417,1544,1545] (λx H=>[(6,bx (H 6) [(4,.row 10263 x.2)]),(10263,.row x.2 87 4 (x.1.2.map aH))]) ?_ ?_ (hw:=by refine dP.trans (cC 6 4 10263 87 4 _ rfl rfl rfl (by decide)) ?_; exact zW)
  ·intro i5 s5 g5 _ _ F Ns5 h; try dsimp only at h
   refine zD [.q,.q,.q,.q,.q,.q,.q,.q,.q] ?_; refine zI encI F h λe6 F h=>?_
   refine uC F h (cM _ _) λr7 h=>?_
   refine zB F h (λF h=>?_) λF h=>?_
   ·exact zX (z:=Ns5 _ g5 h zW)
   ·refine zV ?_; refine zL F h (g5:Nat) [2,3,4,6,7,8] (λx=>[(9,.p (.val (.int .i64 x.1.1)))]) [2,3,4,1416,1417,1544,1545] (λx H=>[(6,bx (H 6) [(4,.row 10263 x.2)]),(10263,.row x.2 87 4 (x.1.2.map aH))]) ?_; intro s8 g8 _ _ F Ns8 h; try dsimp only at h
    refine zI b9 F h λe9 F h=>?_
    refine zB F h (λF h=>?_) λF h=>?_
    ·refine zD [.q,.q,.q,.q,.q,.q,.q,.q,.q,.q,.q,.q,.q,.q,.q,.q,.q,.q,.q,.q] ?_; refine zA encI F h λe10 F h=>?_
     refine zA b9 F h λe11 F h=>?_
     refine zA encI F h λvB F h=>?_
     refine kS F h (λF h=>?_) λF h=>?_
     ·exact zX (z:=Ns8 _ g8 h zW)
     ·refine zE [(0,.p),(2,.q),(3,.q),(4,.q),(5,.q),(6,.q),(7,.q),(8,.q),(9,.q),(10,.q),(11,.p),(1,.q),(12,.w),(13,.q),(14,.w)] ?_; refine zC F h λF h=>?_
      refine zF (eq_true (show (s8.2.length+1) * 32<=140737488355328 by omega)) F λF=>?_
      refine zF (bz aH s8.2 [(⟨e6,s8.1,e10,vB⟩:aO)] (c:=[[.val (.int .i64 e6),.val (.int .i64 s8.1),.val (.int .i64 e10),.val (.int .i64 vB)]]) rfl) F λF=>?_
      exact zX (z:=Ns8 _ (g8+1) h zW)
    ·try dsimp only at h
     exact zX (z:=Ns5 _ g8 h zW)
  ·intro i5 s5 g5 _ F h; try dsimp only at h
   exact k9 h
 ·exact k9 h
end
end Go.Proofs.YtllicmcihlfajaaGreat
set_option maxRecDepth 20000
namespace Go.Proofs.YtllicmcihlfajaaGreat
open Go.cE
noncomputable section
theorem tI (a0:Types) (a1:az) (a2:aG) (a3:aG) (r:az×az×Int) (h:jW a0 a1 a2 a3=some r):aS Tryz.prog 38 [.agg [.aU (a0.nodes.map aJ),.aU (a0.au.map aK)],.agg (aA a1),.agg (aB a2),.agg (aB a3)] (λv=>v = .dB [.agg (aA r.1),.agg (aA r.2.1),.val (.int .i64 r.2.2)]):=by
 refine aS.kP ?_; refine aR [2000008] func38 ?_; rw[ntmps38,results38]; unfold jW at h; have F:=trivial; refine zK F h (oL _ _ _) λr4 h=>?_
 refine kS F h (λF h=>?_) λF h=>?_
 ·refine zD [.q,.q,.q,.q,.q,.w,.s] ?_; refine xP F h (xu _ _) λr5 h=>?_
  refine xP F h (adR _ _) λr6 h=>?_
  refine sD F h (λF h=>?_) λF h=>?_
  ·exact zR h
  ·refine zB F h (λF h=>?_) λF h=>?_
   ·exact zR h
   ·refine zK F h (oL _ _ _) λr7 h=>?_
    refine zD [.q,.o,.p,.s,.w,.q] ?_; exact zR h
 ·exact zR h
theorem kU (a0:aP) (a1:aj) (r:aP×Bool) (h:cq a0 a1=some r):aS Tryz.prog 173 [.agg [.aU (a0.nodes.map ag),.aU (a0.au.map ah)],.agg (ag a1)] (λv=>v = .dB [.agg [.aU (r.1.nodes.map ag),.aU (r.1.au.map ah)],.val (.bool r.2)]):=by
 refine aS.kP ?_; refine aR [21,26] func173 ?_; rw[ntmps173,results173]; unfold cq at h; have F:=trivial; refine zV ?_; refine zN F h () [2,3,4] (λx=>[(6,.p (.val (.int .i64 ((x.1.1:Nat):Int))))]) [2,3,4] (λx H=>[]) ?_ ?_
 ·intro i2 s2 g2 _ _ F nk h; try dsimp only at h
  have Ws2:=F.2.2; refine zD [.q,.q,.q,.q,.q,.q,.q] ?_; refine zI ag F h λe3 F h=>?_
  refine uC F h (nC _ _) λr4 h=>?_
  refine zB F h (λF h=>?_) λF h=>?_
  ·refine zE [(1,.q),(2,.q),(3,.q),(4,.q),(6,.b),(7,.b),(8,.b),(9,.b),(10,.b),(12,.b),(13,.b),(0,.w),(5,.s),(11,.w),(14,.q),(15,.w),(16,.q)] ?_; refine zC F h λF h=>?_
   refine zF (eq_true (fz (n:=3) (f:=ag) (λ_=>rfl) a0.nodes)) F λF=>?_
   refine zC F h λF h=>?_
   have w:=F.2; simp only[Ws2,Int.toNat_natCast] at w; replace F:=And.intro F w; refine zF (eq_true (fz (n:=3) (f:=ag) (λ_=>rfl) a0.nodes)) F λF=>?_
   refine zC F h λF h=>?_
   refine zF (eq_true (show ((a0.nodes.take i2).length) * 40<=140737488355328 by omega)) F λF=>?_
   refine zF (eq_true (fz (n:=3) (f:=ag) (λ_=>rfl) (a0.nodes.take i2))) F λF=>?_
   refine zC F h λF h=>?_
   have w:=F.2; simp only[Ws2,Int.toNat_natCast] at w; replace F:=And.intro F w; refine zF (eq_true (show ((a0.nodes.take i2).length+(a0.nodes.drop (IntKind.i64.wrap (((i2:Nat):Int)+1)).toNat).length) * 40<=140737488355328 by omega)) F λF=>?_
   have w:=F.2; simp only[Ws2,Int.toNat_natCast] at w; replace F:=And.intro F w; refine zF (eq_true (fz (n:=3) (f:=ag) (λ_=>rfl) (a0.nodes.drop (IntKind.i64.wrap (((i2:Nat):Int)+1)).toNat))) F λF=>?_
   have w:=F.2; simp only[Ws2,Int.toNat_natCast] at w; replace F:=And.intro F w; exact zR h
  ·exact zX (z:=nk _ () h zW)
 ·intro i2 s2 g2 _ F h; try dsimp only at h
  exact zR h
end
end Go.Proofs.YtllicmcihlfajaaGreat
set_option maxRecDepth 20000
namespace Go.Proofs.YtllicmcihlfajaaGreat
open Go.cE
noncomputable section
theorem qb (a0:aG) (a1:az) (r:aG) (h:dA a0 a1=some r):bu Tryz.prog 86 [.agg (aB a0),.agg (aA a1)] (λv=>v = .agg [.row 79 3 (r.ax.map ag),.row 84 4 (r.aD.map ah),.row 79 3 (r.aQ.map ag),.row 84 4 (r.aM.map ah),.row 87 4 (r.values.map aH),.p (.val (.int .i64 r.next.x0)),.p (.val (.int .i64 r.next.x1))]):=by
 refine bu.uT ?_; refine bF [] func86 ?_; rw[ntmps86,results86]; unfold dA at h; have F:=trivial; refine zG 1144 F h (cm _) λr2 h=>?_
 refine zV ?_; refine zL F h (0:Nat) [3,4,5] (λx=>[(6,.p (.val (.int .i64 x.1.1)))]) [3,4,1145,1146,1147,1148] (λx H=>[(5,bx (H 5) [(0,.row 1144 x.2)]),(1144,.row x.2 79 3 (x.1.2.map ag))]) ?_; intro s3 g3 _ _ F wh h; try dsimp only at h
 refine zB F h (λF h=>?_) λF h=>?_
 ·refine zV ?_; refine zN F h (g3:Nat) [3,4,5,6] (λx=>[(7,.p (.val (.int .i64 ((x.1.1:Nat):Int))))]) [3,4,1145,1146,1147,1148] (λx H=>[(5,bx (H 5) [(0,.row 1144 x.2)]),(1144,.row x.2 79 3 (x.1.2.map ag))]) ?_ ?_
  ·intro i4 s4 g4 _ _ F Ns4 h; try dsimp only at h
   refine zD [.q,.q,.q,.q,.q,.q,.q,.q,.q,.q,.q,.q] ?_; refine zI encI F h λe5 F h=>?_
   refine zA ag F h λe6 F h=>?_
   refine zB F h (λF h=>?_) λF h=>?_
   ·refine zE [(0,.p),(2,.p),(3,.p),(1,.b),(4,.q),(5,.q),(6,.q),(7,.q),(8,.q),(9,.q),(10,.w),(11,.q),(12,.q),(13,.w)] ?_; refine zI b9 F h λe7 F h=>?_
    refine zC F h λF h=>?_
    refine zF (eq_true (show (e7.length) * 8<=140737488355328 by omega)) F λF=>?_
    refine zF (eq_true (fz (n:=1) (f:=encI) (λ_=>rfl) e7)) F λF=>?_
    refine zF (abI ag s4 s3.1.toNat (⟨e6.id,e6.type,e7⟩:aj) (c:=[.val (.int .i64 e6.id),.val (.int .i64 e6.type),.aU (e7.map encI)]) rfl) F λF=>?_
    exact zX (z:=Ns4 _ g4 h zW)
   ·exact zX (z:=Ns4 _ g4 h zW)
  ·intro i4 s4 g4 _ F h; try dsimp only at h
   exact zX (z:=wh _ g4 h zW)
 ·try dsimp only at h
  exact k9 h
theorem wA (a0:Host) (a1:Host) (r:Bool) (h:iF a0 a1=some r):aS Tryz.prog 48 [.agg (oB a0),.agg (oB a1)] (λv=>v = .val (.bool r)):=by
 refine aS.kP ?_; refine aR [] func48 ?_; rw[ntmps48,results48]; unfold iF at h; have F:=trivial; refine zK F h (wu _ _) λr2 h=>?_
 refine nN F h (λF h=>?_) λF h=>?_
 ·refine kS F h (λF h=>?_) λF h=>?_
  ·refine zV ?_; refine zN F h () [2,3] (λx=>[(5,.p (.val (.int .i64 ((x.1.1:Nat):Int))))]) [2,3] (λx H=>[]) ?_ ?_
   ·intro i3 s3 g3 _ _ F wh h; try dsimp only at h
    refine zD [.q,.q,.q,.q,.q,.q,.q,.q,.q,.q,.q,.q] ?_; refine zI b9 F h λe4 F h=>?_
    refine zI b9 F h λe5 F h=>?_
    refine uC F h (tX _ _) λr6 h=>?_
    refine kS F h (λF h=>?_) λF h=>?_
    ·exact zX (z:=wh _ () h zW)
    ·exact zR h
   ·intro i3 s3 g3 _ F h; try dsimp only at h
    exact zR h
  ·exact zR h
 ·exact zR h
end
end Go.Proofs.YtllicmcihlfajaaGreat
set_option maxRecDepth 20000
namespace Go.Proofs.YtllicmcihlfajaaGreat
open Go.cE
noncomputable section
theorem adU (a0:Types) (a1:Host) (r:(List cu)×Int) (h:mD a0 a1=some r):bu Tryz.prog 144 [.agg [.aU (a0.nodes.map aJ),.aU (a0.au.map aK)],.agg (oB a1)] (λv=>v = .dB [.row 214 4 (r.1.map cW),.p (.val (.int .i64 r.2))]):=by
 refine bu.uT ?_; refine bF [35] func144 ?_; rw[ntmps144,results144]; unfold mD at h; have F:=trivial; refine zK F h (aiF _ _) λr2 h=>?_
 refine kS F h (λF h=>?_) λF h=>?_
 ·refine zV ?_; refine zN F h (0:Nat) [2,3,17,18] (λx=>[(7,.row 3495 x.2),(19,.p (.val (.int .i64 ((x.1.1:Nat):Int))))]) [2,3] (λx H=>[(3495,.row x.2 214 4 (x.1.2.map cW))]) ?_ ?_ (hw:=by refine dP.trans (iQ 7 3495 214 4 rfl rfl (by decide)) ?_; exact zW)
  ·intro i3 s3 g3 _ _ F wh h; try dsimp only at h
   refine zI aK F h λe4 F h=>?_
   refine zG 1544 F h (xw _ _ _ _ _ _ _) λr5 h=>?_
   refine zC F h λF h=>?_
   refine zF (eq_true (show (s3.length+r5.length) * 32<=140737488355328 by omega)) F λF=>?_
   refine zF (eq_true (fz (n:=4) (f:=cW) (λ_=>rfl) r5)) F λF=>?_
   refine zG 1736 F h (xw _ _ _ _ _ _ _) λr6 h=>?_
   refine zC F h λF h=>?_
   refine zF (eq_true (show (s3.length+r5.length+r6.length) * 32<=140737488355328 by omega)) F λF=>?_
   refine zF (eq_true (fz (n:=4) (f:=cW) (λ_=>rfl) r6)) F λF=>?_
   exact zX (z:=wh _ (g3+1+1) h zW)
  ·intro i3 s3 g3 _ F h; try dsimp only at h
   exact k9 h
 ·exact k9 h
theorem ji (a0:az) (r:az) (h:dD a0=some r):bu Tryz.prog 13 [.agg (aA a0)] (λv=>v = .agg [.row 3 1 (r.host.graph.nodes.map encI),.row 133 3 (r.host.graph.au.map bf),.row 26 1 (r.host.values.map b9),.row 3 1 (r.nodes.map encI),.row 3 1 (r.au.map encI),.p (.val (.int .i64 r.next))]):=by
 refine bu.uT ?_; refine bF [6,9,10,13] func13 ?_; rw[ntmps13,results13]; unfold dD at h; have F:=trivial; refine zE [(0,.q),(1,.q),(4,.q),(5,.q),(8,.b),(9,.b),(11,.b),(12,.b),(2,.f),(3,.w),(6,.s),(7,.w),(10,.s),(13,.q),(14,.w)] ?_; refine zH 1080 F h (uY _) λr1 h=>?_
 refine zC F h λF h=>?_
 refine zF (eq_true (show (a0.nodes.length) * 8<=140737488355328 by omega)) F λF=>?_
 refine zF (eq_true (fz (n:=1) (f:=encI) (λ_=>rfl) a0.nodes)) F λF=>?_
 refine zC F h λF h=>?_
 refine zF (eq_true (show (a0.au.length) * 8<=140737488355328 by omega)) F λF=>?_
 refine zF (eq_true (fz (n:=1) (f:=encI) (λ_=>rfl) a0.au)) F λF=>?_
 exact k9 h
theorem nh (a0:List aj) (a1:List aj) (r:Bool) (h:ep a0 a1=some r):aS Tryz.prog 59 [.aU (a0.map ag),.aU (a1.map ag)] (λv=>v = .val (.bool r)):=by
 refine aS.kP ?_; refine aR [] func59 ?_; rw[ntmps59,results59]; unfold ep at h; have F:=trivial; refine kS F h (λF h=>?_) λF h=>?_
 ·refine zV ?_; refine zN F h () [0,1] (λx=>[(5,.p (.val (.int .i64 ((x.1.1:Nat):Int))))]) [] (λx H=>[]) ?_ ?_
  ·intro i2 s2 g2 _ _ F nk h; try dsimp only at h
   refine zD [.q,.q,.q,.q,.q,.q,.q,.q,.q,.q] ?_; refine zI ag F h λe3 F h=>?_
   refine zI ag F h λe4 F h=>?_
   refine uC F h (nC _ _) λr5 h=>?_
   refine kS F h (λF h=>?_) λF h=>?_
   ·exact zX (z:=nk _ () h zW)
   ·exact zR h
  ·intro i2 s2 g2 _ F h; try dsimp only at h
   exact zR h
 ·exact zR h
end
end Go.Proofs.YtllicmcihlfajaaGreat
set_option maxRecDepth 20000
namespace Go.Proofs.YtllicmcihlfajaaGreat
open Go.cE
noncomputable section
theorem aae (a0:aG) (r:Bool) (h:mP a0=some r):aS Tryz.prog 71 [.agg (aB a0)] (λv=>v = .val (.bool r)):=by
 refine aS.kP ?_; refine aR [] func71 ?_; rw[ntmps71,results71]; unfold mP at h; have F:=trivial; refine zF (show (0:Int)<=1 by decide) F λF=>?_
 refine zF (show (1:Int)<((2:Nat):Int) by decide) F λF=>?_
 refine zF (show (0:Int)<=0 by decide) F λF=>?_
 refine zF (show (0:Int)<((2:Nat):Int) by decide) F λF=>?_
 refine nN F h (λF h=>?_) λF h=>?_
 ·refine zK F h (kT _ (λx1=>mB x1 (⟨a0.ax,a0.aD,a0.aQ,a0.aM,a0.values,a0.next⟩:aG)) 122 [] [.dJ (aB (⟨a0.ax,a0.aD,a0.aQ,a0.aM,a0.values,a0.next⟩:aG)) 0] (λx1 r h=>adT x1 (⟨a0.ax,a0.aD,a0.aQ,a0.aM,a0.values,a0.next⟩:aG) r h)) λr2 h=>?_
  refine sD F h (λF h=>?_) λF h=>?_
  ·exact zR h
  ·refine zK F h (qa _ (λx3=>mC x3 (⟨a0.ax,a0.aD,a0.aQ,a0.aM,a0.values,a0.next⟩:aG)) 124 [] [.dJ (aB (⟨a0.ax,a0.aD,a0.aQ,a0.aM,a0.values,a0.next⟩:aG)) 0] (λx3 r h=>adS x3 (⟨a0.ax,a0.aD,a0.aQ,a0.aM,a0.values,a0.next⟩:aG) r h)) λr4 h=>?_
   exact zR h
 ·exact zR h
theorem xx (a0:aG) (a1:Int) (r:Bool) (h:iN a0 a1=some r):aS Tryz.prog 72 [.agg (aB a0),.val (.int .i64 a1)] (λv=>v = .val (.bool r)):=by
 refine aS.kP ?_; refine aR [] func72 ?_; rw[ntmps72,results72]; unfold iN at h; have F:=trivial; refine zK F h (kT _ (λx2=>kE x2 a1) 125 [] [.dJ [.val (.int .i64 a1)] 0] (λx2 r h=>ab3 x2 a1 r h)) λr3 h=>?_
 exact zR h
theorem iJ (a0:Types) (a1:az) (r:(List bG)) (h:dc a0 a1=some r):bu Tryz.prog 89 [.agg [.aU (a0.nodes.map aJ),.aU (a0.au.map aK)],.agg (aA a1)] (λv=>v = .row 154 3 (r.map bS)):=by
 refine bu.uT ?_; refine bF [44] func89 ?_; rw[ntmps89,results89]; unfold dc at h; have F:=trivial; refine zG 1208 F h (tH _ _) λr2 h=>?_
 refine zV ?_; refine zN F h (0:Nat) [3,5] (λx=>[(7,.row 8247 x.2),(8,.p (.val (.int .i64 ((x.1.1:Nat):Int))))]) [3,1208] (λx H=>[(8247,.row x.2 154 3 (x.1.2.map bS))]) ?_ ?_ (hw:=by refine dP.trans (iQ 7 8247 154 3 rfl rfl (by decide)) ?_; exact zW)
 ·intro i3 s3 g3 _ _ F wh h; try dsimp only at h
  refine zD [.p,.q,.q,.q,.q,.q,.q,.q,.q,.q,.q,.q,.q,.q,.q,.q,.q,.q,.q,.q,.q,.p,.w,.q] ?_; refine zI cW F h λe4 F h=>?_
  refine zA encI F h λe5 F h=>?_
  refine zC F h λF h=>?_
  refine zF (eq_true (show (s3.length+1) * 24<=140737488355328 by omega)) F λF=>?_
  refine zF (bz bS s3 [(⟨e5,e4.je,e4.out⟩:bG)] (c:=[[.val (.int .i64 e5),.val (.int .i64 e4.je),.val (.bool e4.out)]]) rfl) F λF=>?_
  exact zX (z:=wh _ (g3+1) h zW)
 ·intro i3 s3 g3 _ F h; try dsimp only at h
  exact k9 h
end
end Go.Proofs.YtllicmcihlfajaaGreat
set_option maxRecDepth 20000
namespace Go.Proofs.YtllicmcihlfajaaGreat
open Go.cE
noncomputable section
theorem oR (a0:aG) (a1:aG) (r:(List aI)) (h:gW a0 a1=some r):bu Tryz.prog 37 [.agg (aB a0),.agg (aB a1)] (λv=>v = .row 53 3 (r.map aC)):=by
 refine bu.uT ?_; refine bF [58,81,124] func37 ?_; rw[ntmps37,results37]; unfold gW at h; have F:=trivial; obtain⟨l2,hl3,h⟩:=nx h; have hm4:l2.map lD=[[.aU (a0.ax.map ag),.aU (a0.aD.map ah),.aU (a0.aQ.map ag),.aU (a0.aM.map ah),.aU (a0.values.map aH),.val (.int .i64 a0.next.x0),.val (.int .i64 a0.next.x1),.aU (a1.ax.map ag),.aU (a1.aD.map ah),.aU (a1.aQ.map ag),.aU (a1.aM.map ah),.aU (a1.values.map aH),.val (.int .i64 a1.next.x0),.val (.int .i64 a1.next.x1)],[.aU (a1.ax.map ag),.aU (a1.aD.map ah),.aU (a1.aQ.map ag),.aU (a1.aM.map ah),.aU (a1.values.map aH),.val (.int .i64 a1.next.x0),.val (.int .i64 a1.next.x1),.aU (a0.ax.map ag),.aU (a0.aD.map ah),.aU (a0.aQ.map ag),.aU (a0.aM.map ah),.aU (a0.values.map aH),.val (.int .i64 a0.next.x0),.val (.int .i64 a0.next.x1)]]:=by cases hl3; rfl
 refine zV ?_; refine zN F h ((0,0):Nat×Nat) [2,3,7,27] (λx=>[(5,.row 2827 x.2.1),(6,.row 2828 x.2.2),(26,.p (.aU (l2.map lD))),(28,.p (.val (.int .i64 ((x.1.1:Nat):Int))))]) [2,3] (λx H=>[(2827,.row x.2.1 53 3 (x.1.2.1.map aC)),(2828,.row x.2.2 53 3 (x.1.2.2.map aC))]) ?_ ?_ (hw:=by refine dP.trans (iQ 5 2827 53 3 rfl rfl (by decide)) ?_; refine dP.trans (iQ 6 2828 53 3 rfl rfl (by decide)) ?_; exact yy (by simp -implicitDefEqProofs only[go_sem,F,hm4]<;>and_intros<;>rfl))
 ·intro i5 s5 g5 _ _ F Ns5 h; try dsimp only at h
  refine zI lD F h λe6 F h=>?_
  refine zF (show (0:Int)<=1 by decide) F λF=>?_
  refine zF (show (1:Int)<((2:Nat):Int) by decide) F λF=>?_
  refine zV ?_; refine zN F h (g5.1:Nat) [2,3,6,7,9,26,27,28,34,35] (λx=>[(5,.row 2827 x.2),(36,.p (.val (.int .i64 ((x.1.1:Nat):Int))))]) [2,3,2828,9] (λx H=>[(2827,.row x.2 53 3 (x.1.2.map aC))]) ?_ ?_
  ·intro i7 s7 g7 _ _ F Ns7 h; try dsimp only at h
   refine zI ah F h λe8 F h=>?_
   obtain⟨l9,aF6,h⟩:=nx h; have aF7:l9.map encI=[[.val (.int .i64 e8.src)],[.val (.int .i64 e8.dst)]]:=by cases aF6; rfl
   refine zV ?_; refine zN F h (g7:Nat) [2,3,6,7,9,26,27,28,34,35,36,45] (λx=>[(5,.row 2827 x.2),(44,.p (.aU (l9.map encI))),(46,.p (.val (.int .i64 ((x.1.1:Nat):Int))))]) [2,3,2828,9] (λx H=>[(2827,.row x.2 53 3 (x.1.2.map aC))]) ?_ ?_ (hw:=by exact yy (by simp -implicitDefEqProofs only[go_sem,F,aF7]<;>and_intros<;>rfl))
   ·intro i12 s12 g12 _ _ F aw7 h; try dsimp only at h
    refine zI encI F h λe13 F h=>?_
    refine zF (show (0:Int)<=0 by decide) F λF=>?_
    refine zF (show (0:Int)<((2:Nat):Int) by decide) F λF=>?_
    refine zK F h (xx _ _) λr14 h=>?_
    refine zB F h (λF h=>?_) λF h=>?_
    ·refine zC F h λF h=>?_
     refine zF (eq_true (show (s12.length+1) * 24<=140737488355328 by omega)) F λF=>?_
     refine zF (bz aC s12 [(⟨1,e13,(-1)⟩:aI)] (c:=[[.val (.int .i64 1),.val (.int .i64 e13),.val (.int .i64 (-1))]]) rfl) F λF=>?_
     exact zX (z:=aw7 _ (g12+1) h zW)
    ·exact zX (z:=aw7 _ g12 h zW)
   ·intro i12 s12 g12 _ F h; try dsimp only at h
    exact zX (z:=Ns7 _ g12 h zW)
  ·intro i7 s7 g7 _ F h; try dsimp only at h
   refine zF (show (0:Int)<=1 by decide) F λF=>?_
   refine zF (show (1:Int)<((2:Nat):Int) by decide) F λF=>?_
   refine zV ?_; refine zN F h (g5.2:Nat) [2,3,5,7,9,26,27,28,63,64] (λx=>[(6,.row 2828 x.2),(65,.p (.val (.int .i64 ((x.1.1:Nat):Int))))]) [2,3,2827,9] (λx H=>[(2828,.row x.2 53 3 (x.1.2.map aC))]) ?_ ?_
   ·intro i15 xo g15 _ _ F af9 h; try dsimp only at h
    refine zI aH F h λe16 F h=>?_
    refine zF (show (0:Int)<=0 by decide) F λF=>?_
    refine zF (show (0:Int)<((2:Nat):Int) by decide) F λF=>?_
    refine zK F h (xx _ _) λr17 h=>?_
    refine zB F h (λF h=>?_) λF h=>?_
    ·refine zC F h λF h=>?_
     refine zF (eq_true (show (xo.length+1) * 24<=140737488355328 by omega)) F λF=>?_
     refine zF (bz aC xo [(⟨2,e16.id,e16.attr⟩:aI)] (c:=[[.val (.int .i64 2),.val (.int .i64 e16.id),.val (.int .i64 e16.attr)]]) rfl) F λF=>?_
     exact zX (z:=af9 _ (g15+1) h zW)
    ·exact zX (z:=af9 _ g15 h zW)
   ·intro i15 xo g15 _ F h; try dsimp only at h
    exact zX (z:=Ns5 _ (g7,g15) h zW)
 ·intro i5 s5 g5 _ F h; try dsimp only at h
  refine zV ?_; refine zN F h (0:Nat) [3,5,6,85,86] (λx=>[(7,.row 3113 x.2),(87,.p (.val (.int .i64 ((x.1.1:Nat):Int))))]) [3,2827,2828] (λx H=>[(3113,.row x.2 53 3 (x.1.2.map aC))]) ?_ ?_ (hw:=by refine dP.trans (iQ 7 3113 53 3 rfl rfl (by decide)) ?_; exact zW)
  ·intro i18 s18 g18 _ _ F asL h; try dsimp only at h
   refine zI aH F h λxG F h=>?_
   refine zV ?_; refine zN F h (g18:Nat) [3,5,6,17,85,86,87,92,93] (λx=>[(7,.row 3113 x.2),(94,.p (.val (.int .i64 ((x.1.1:Nat):Int))))]) [3,2827,2828,17] (λx H=>[(3113,.row x.2 53 3 (x.1.2.map aC))]) ?_ ?_
   ·intro i20 s20 g20 _ _ F aga h; try dsimp only at h
    refine zI aH F h λe21 F h=>?_
    refine nN F h (λF h=>?_) λF h=>?_
    ·refine nN F h (λF h=>?_) λF h=>?_
     ·refine kS F h (λF h=>?_) λF h=>?_
      ·exact zX (z:=aga _ g20 h zW)
      ·refine zC F h λF h=>?_
       refine zF (eq_true (show (s20.length+1) * 24<=140737488355328 by omega)) F λF=>?_
       refine zF (bz aC s20 [(⟨3,xG.id,xG.attr⟩:aI)] (c:=[[.val (.int .i64 3),.val (.int .i64 xG.id),.val (.int .i64 xG.attr)]]) rfl) F λF=>?_
       exact zX (z:=aga _ (g20+1) h zW)
     ·exact zX (z:=aga _ g20 h zW)
    ·exact zX (z:=aga _ g20 h zW)
   ·intro i20 s20 g20 _ F h; try dsimp only at h
    exact zX (z:=asL _ g20 h zW)
  ·intro i18 s18 g18 _ F h; try dsimp only at h
   refine zMb F h (oK g5.1 _) λr22 h=>?_
   refine zMb F h (oK g5.2 _) λr23 h=>?_
   refine zMb F h (oK g18 _) λr24 h=>?_
   refine zG 3144 F h (tY _) λr25 h=>?_
   exact k9 h
end
end Go.Proofs.YtllicmcihlfajaaGreat
set_option maxRecDepth 20000
namespace Go.Proofs.YtllicmcihlfajaaGreat
open Go.cE
noncomputable section
theorem rU (a0:aP) (a1:aG) (r:aP×Bool) (h:fm a0 a1=some r):aS Tryz.prog 111 [.agg [.aU (a0.nodes.map ag),.aU (a0.au.map ah)],.agg (aB a1)] (λv=>v = .dB [.agg [.aU (r.1.nodes.map ag),.aU (r.1.au.map ah)],.val (.bool r.2)]):=by
 refine aS.kP ?_; refine aR [] func111 ?_; rw[ntmps111,results111]; unfold fm at h; have F:=trivial; refine zV ?_; refine zL F h () [2,3,4] (λx=>[(6,.p (.val (.bool x.1.1))),(7,.p (.val (.int .i64 x.1.2.1)))]) [3,4] (λx H=>[(2,.box [.p (.aU (x.1.2.2.1.map ag)),.p (.aU (x.1.2.2.2.map ah))])]) ?_; intro s2 g2 _ _ F nk h; try dsimp only at h
 refine nN F h (λF h=>?_) λF h=>?_
 ·refine zB F h (λF h=>?_) λF h=>?_
  ·refine zD [.q,.q,.q,.q,.q,.q,.q,.q,.q,.p,.w,.q] ?_; refine zA ah F h λe3 F h=>?_
   refine uC F h (p7 _ _) λr4 h=>?_
   exact zX (z:=nk _ () h zW)
  ·try dsimp only at h
   refine zV ?_; refine zL F h () [2,3,4] (λx=>[(6,.p (.val (.bool x.1.1))),(8,.p (.val (.int .i64 x.1.2.1)))]) [3,4] (λx H=>[(2,.box [.p (.aU (x.1.2.2.1.map ag)),.p (.aU (x.1.2.2.2.map ah))])]) ?_; intro s5 g5 _ _ F Ns5 h; try dsimp only at h
   refine nN F h (λF h=>?_) λF h=>?_
   ·refine zB F h (λF h=>?_) λF h=>?_
    ·refine zD [.q,.q,.q,.q,.q,.q,.q,.q,.q,.p,.w,.q] ?_; refine zA ag F h λe6 F h=>?_
     refine uC F h (kU _ _) λr7 h=>?_
     exact zX (z:=Ns5 _ () h zW)
    ·try dsimp only at h
     refine zV ?_; refine zL F h () [2,3,4] (λx=>[(6,.p (.val (.bool x.1.1))),(9,.p (.val (.int .i64 x.1.2.1)))]) [3,4] (λx H=>[(2,.box [.p (.aU (x.1.2.2.1.map ag)),.p (.aU (x.1.2.2.2.map ah))])]) ?_; intro s8 g8 _ _ F Ns8 h; try dsimp only at h
     refine nN F h (λF h=>?_) λF h=>?_
     ·refine zB F h (λF h=>?_) λF h=>?_
      ·refine zD [.q,.q,.q,.q,.q,.q,.q,.q,.q,.p,.w,.q] ?_; refine zA aH F h λe9 F h=>?_
       refine xP F h (iy _ _) λwk h=>?_
       exact zX (z:=Ns8 _ () h zW)
      ·try dsimp only at h
       exact zR h
     ·try dsimp only at h
      exact zR h
   ·try dsimp only at h
    refine zV ?_; refine zL F h () [2,3,4] (λx=>[(6,.p (.val (.bool x.1.1))),(9,.p (.val (.int .i64 x.1.2.1)))]) [3,4] (λx H=>[(2,.box [.p (.aU (x.1.2.2.1.map ag)),.p (.aU (x.1.2.2.2.map ah))])]) ?_; intro s11 g11 _ _ F asK h; try dsimp only at h
    refine nN F h (λF h=>?_) λF h=>?_
    ·refine zB F h (λF h=>?_) λF h=>?_
     ·refine zD [.q,.q,.q,.q,.q,.q,.q,.q,.q,.p,.w,.q] ?_; refine zA aH F h λvB F h=>?_
      refine xP F h (iy _ _) λr13 h=>?_
      exact zX (z:=asK _ () h zW)
     ·try dsimp only at h
      exact zR h
    ·try dsimp only at h
     exact zR h
 ·try dsimp only at h
  refine zV ?_; refine zL F h () [2,3,4] (λx=>[(6,.p (.val (.bool x.1.1))),(8,.p (.val (.int .i64 x.1.2.1)))]) [3,4] (λx H=>[(2,.box [.p (.aU (x.1.2.2.1.map ag)),.p (.aU (x.1.2.2.2.map ah))])]) ?_; intro vQ g14 _ _ F afb h; try dsimp only at h
  refine nN F h (λF h=>?_) λF h=>?_
  ·refine zB F h (λF h=>?_) λF h=>?_
   ·refine zD [.q,.q,.q,.q,.q,.q,.q,.q,.q,.p,.w,.q] ?_; refine zA ag F h λe15 F h=>?_
    refine uC F h (kU _ _) λr16 h=>?_
    exact zX (z:=afb _ () h zW)
   ·try dsimp only at h
    refine zV ?_; refine zL F h () [2,3,4] (λx=>[(6,.p (.val (.bool x.1.1))),(9,.p (.val (.int .i64 x.1.2.1)))]) [3,4] (λx H=>[(2,.box [.p (.aU (x.1.2.2.1.map ag)),.p (.aU (x.1.2.2.2.map ah))])]) ?_; intro s17 g17 _ _ F aF8 h; try dsimp only at h
    refine nN F h (λF h=>?_) λF h=>?_
    ·refine zB F h (λF h=>?_) λF h=>?_
     ·refine zD [.q,.q,.q,.q,.q,.q,.q,.q,.q,.p,.w,.q] ?_; refine zA aH F h λe18 F h=>?_
      refine xP F h (iy _ _) λr19 h=>?_
      exact zX (z:=aF8 _ () h zW)
     ·try dsimp only at h
      exact zR h
    ·try dsimp only at h
     exact zR h
  ·try dsimp only at h
   refine zV ?_; refine zL F h () [2,3,4] (λx=>[(6,.p (.val (.bool x.1.1))),(9,.p (.val (.int .i64 x.1.2.1)))]) [3,4] (λx H=>[(2,.box [.p (.aU (x.1.2.2.1.map ag)),.p (.aU (x.1.2.2.2.map ah))])]) ?_; intro s20 g20 _ _ F aga h; try dsimp only at h
   refine nN F h (λF h=>?_) λF h=>?_
   ·refine zB F h (λF h=>?_) λF h=>?_
    ·refine zD [.q,.q,.q,.q,.q,.q,.q,.q,.q,.p,.w,.q] ?_; refine zA aH F h λe21 F h=>?_
     refine xP F h (iy _ _) λr22 h=>?_
     exact zX (z:=aga _ () h zW)
    ·try dsimp only at h
     exact zR h
   ·try dsimp only at h
    exact zR h
end
end Go.Proofs.YtllicmcihlfajaaGreat
set_option maxRecDepth 20000
namespace Go.Proofs.YtllicmcihlfajaaGreat
open Go.cE
noncomputable section
theorem u5 (a0:Types) (a1:az) (a2:aG) (a3:aG) (r:Int) (h:jg a0 a1 a2 a3=some r):aS Tryz.prog 36 [.agg [.aU (a0.nodes.map aJ),.aU (a0.au.map aK)],.agg (aA a1),.agg (aB a2),.agg (aB a3)] (λv=>v = .val (.int .i64 r)):=by
 refine aS.kP ?_; refine aR [] func36 ?_; rw[ntmps36,results36]; unfold jg at h; have F:=trivial; obtain⟨l3,hl5,h⟩:=nx h; have hm4:l3.map aB=[[.aU (a2.ax.map ag),.aU (a2.aD.map ah),.aU (a2.aQ.map ag),.aU (a2.aM.map ah),.aU (a2.values.map aH),.val (.int .i64 a2.next.x0),.val (.int .i64 a2.next.x1)],[.aU (a3.ax.map ag),.aU (a3.aD.map ah),.aU (a3.aQ.map ag),.aU (a3.aM.map ah),.aU (a3.values.map aH),.val (.int .i64 a3.next.x0),.val (.int .i64 a3.next.x1)]]:=by cases hl5; rfl
 refine zV ?_; refine zN F h () [4,5,6,7,16] (λx=>[(15,.p (.aU (l3.map aB))),(17,.p (.val (.int .i64 ((x.1.1:Nat):Int))))]) [4,5,6,7] (λx H=>[]) ?_ ?_ (hw:=by exact yy (by simp -implicitDefEqProofs only[go_sem,F,hm4]<;>and_intros<;>rfl))
 ·intro i6 s6 g6 _ _ F Ns6 h; try dsimp only at h
  refine zI aB F h λe7 F h=>?_
  refine zK F h (oL _ _ _) λr8 h=>?_
  refine kS F h (λF h=>?_) λF h=>?_
  ·exact zX (z:=Ns6 _ () h zW)
  ·exact zR h
 ·intro i6 s6 g6 _ F h; try dsimp only at h
  refine zK F h (aae _) λr9 h=>?_
  refine nN F h (λF h=>?_) λF h=>?_
  ·refine zK F h (aae _) λwk h=>?_
   refine kS F h (λF h=>?_) λF h=>?_
   ·refine zF (show (0:Int)<=1 by decide) F λF=>?_
    refine zF (show (1:Int)<((2:Nat):Int) by decide) F λF=>?_
    refine zF (show (0:Int)<=1 by decide) F λF=>?_
    refine zF (show (1:Int)<((2:Nat):Int) by decide) F λF=>?_
    refine zF (show (0:Int)<=0 by decide) F λF=>?_
    refine zF (show (0:Int)<((2:Nat):Int) by decide) F λF=>?_
    refine zB F h (λF h=>?_) λF h=>?_
    ·exact zR h
    ·exact zR h
   ·exact zR h
  ·exact zR h
end
end Go.Proofs.YtllicmcihlfajaaGreat
set_option maxRecDepth 20000
namespace Go.Proofs.YtllicmcihlfajaaGreat
open Go.cE
noncomputable section
theorem sF (a0:aG) (a1:aG) (r:Bool) (h:fN a0 a1=some r):aS Tryz.prog 24 [.agg (aB a0),.agg (aB a1)] (λv=>v = .val (.bool r)):=by
 refine aS.kP ?_; refine aR [] func24 ?_; rw[ntmps24,results24]; unfold fN at h; have F:=trivial; refine zK F h (nh _ _) λr2 h=>?_
 refine nN F h (λF h=>?_) λF h=>?_
 ·refine zK F h (nh _ _) λr3 h=>?_
  refine nN F h (λF h=>?_) λF h=>?_
  ·refine zK F h (nc _ _) λr4 h=>?_
   refine nN F h (λF h=>?_) λF h=>?_
   ·refine zK F h (nc _ _) λr5 h=>?_
    refine nN F h (λF h=>?_) λF h=>?_
    ·refine kS F h (λF h=>?_) λF h=>?_
     ·refine zV ?_; refine zN F h () [2,3] (λx=>[(5,.p (.val (.int .i64 ((x.1.1:Nat):Int))))]) [2,3] (λx H=>[]) ?_ ?_
      ·intro i6 s6 g6 _ _ F Ns6 h; try dsimp only at h
       refine zD [.q,.q,.q,.q,.q,.q,.q,.q,.q,.q,.q] ?_; refine zI aH F h λe7 F h=>?_
       refine zI aH F h λe8 F h=>?_
       refine kS F h (λF h=>?_) λF h=>?_
       ·exact zX (z:=Ns6 _ () h zW)
       ·exact zR h
      ·intro i6 s6 g6 _ F h; try dsimp only at h
       refine zF (asA (P:=Tryz.prog) .eql 38 (by kernel_rfl)) F λF=>?_
       refine zV ?_; refine awO 38 3 rfl (by kernel_rfl) (by kernel_rfl) (by kernel_rfl) (by kernel_rfl) (by simp -implicitDefEqProofs only[go_sem,F]<;>first | exact⟨rfl,rfl⟩ | rfl) (by simp -implicitDefEqProofs only[go_sem,F]<;>first | exact⟨rfl,rfl⟩ | rfl) ?_; exact zR h
     ·exact zR h
    ·exact zR h
   ·exact zR h
  ·exact zR h
 ·exact zR h
end
end Go.Proofs.YtllicmcihlfajaaGreat
set_option maxRecDepth 20000
namespace Go.Proofs.YtllicmcihlfajaaGreat
open Go.cE
noncomputable section
theorem nO (a0:Types) (a1:az) (r:(List bn)) (h:ig a0 a1=some r):bu Tryz.prog 79 [.agg [.aU (a0.nodes.map aJ),.aU (a0.au.map aK)],.agg (aA a1)] (λv=>v = .row 144 3 (r.map ck)):=by
 refine bu.uT ?_; refine bF [36] func79 ?_; rw[ntmps79,results79]; unfold ig at h; have F:=trivial; refine zG 1224 F h (adU _ _) λr2 h=>?_
 refine zV ?_; refine zN F h (0:Nat) [3,17,18] (λx=>[(7,.row 3538 x.2),(19,.p (.val (.int .i64 ((x.1.1:Nat):Int))))]) [3,1224] (λx H=>[(3538,.row x.2 144 3 (x.1.2.map ck))]) ?_ ?_ (hw:=by refine dP.trans (iQ 7 3538 144 3 rfl rfl (by decide)) ?_; exact zW)
 ·intro i3 s3 g3 _ _ F wh h; try dsimp only at h
  refine zI cW F h λe4 F h=>?_
  refine zD [.p,.q,.q,.q,.q,.q,.q,.q,.q,.q,.q,.q,.p,.w,.q] ?_; refine zA encI F h λe5 F h=>?_
  refine zC F h λF h=>?_
  refine zF (eq_true (show (s3.length+1) * 24<=140737488355328 by omega)) F λF=>?_
  refine zF (bz ck s3 [(⟨e5,e4.je,e4.out⟩:bn)] (c:=[[.val (.int .i64 e5),.val (.int .i64 e4.je),.val (.bool e4.out)]]) rfl) F λF=>?_
  exact zX (z:=wh _ (g3+1) h zW)
 ·intro i3 s3 g3 _ F h; try dsimp only at h
  exact k9 h
end
end Go.Proofs.YtllicmcihlfajaaGreat
set_option maxRecDepth 20000
namespace Go.Proofs.YtllicmcihlfajaaGreat
open Go.cE
noncomputable section
theorem wB (a0:Types) (a1:az) (a2:az) (r:aG×Int) (h:gj a0 a1 a2=some r):bu Tryz.prog 54 [.agg [.aU (a0.nodes.map aJ),.aU (a0.au.map aK)],.agg (aA a1),.agg (aA a2)] (λv=>v = .dB [.agg [.row 79 3 (r.1.ax.map ag),.row 84 4 (r.1.aD.map ah),.row 79 3 (r.1.aQ.map ag),.row 84 4 (r.1.aM.map ah),.row 87 4 (r.1.values.map aH),.p (.val (.int .i64 r.1.next.x0)),.p (.val (.int .i64 r.1.next.x1))],.p (.val (.int .i64 r.2))]):=by
 refine bu.uT ?_; refine bF [] func54 ?_; rw[ntmps54,results54]; unfold gj at h; have F:=trivial; refine zK F h (jC _ _) λr3 h=>?_
 refine kS F h (λF h=>?_) λF h=>?_
 ·refine zK F h (jC _ _) λr4 h=>?_
  refine kS F h (λF h=>?_) λF h=>?_
  ·refine zG 1464 F h (wz _ _) λr5 h=>?_
   refine kS F h (λF h=>?_) λF h=>?_
   ·exact k9 h
   ·exact k9 h
  ·exact k9 h
 ·exact k9 h
end
end Go.Proofs.YtllicmcihlfajaaGreat
set_option maxRecDepth 20000
namespace Go.Proofs.YtllicmcihlfajaaGreat
open Go.cE
noncomputable section
theorem afd (a0:Types) (a1:az) (a2:az) (r:aG×Int) (h:lJ a0 a1 a2=some r):bu Tryz.prog 58 [.agg [.aU (a0.nodes.map aJ),.aU (a0.au.map aK)],.agg (aA a1),.agg (aA a2)] (λv=>v = .dB [.agg [.row 79 3 (r.1.ax.map ag),.row 84 4 (r.1.aD.map ah),.row 79 3 (r.1.aQ.map ag),.row 84 4 (r.1.aM.map ah),.row 87 4 (r.1.values.map aH),.p (.val (.int .i64 r.1.next.x0)),.p (.val (.int .i64 r.1.next.x1))],.p (.val (.int .i64 r.2))]):=by
 refine bu.uT ?_; refine bF [] func58 ?_; rw[ntmps58,results58]; unfold lJ at h; have F:=trivial; refine zK F h (oJ _ _) λr3 h=>?_
 refine kS F h (λF h=>?_) λF h=>?_
 ·refine zK F h (oJ _ _) λr4 h=>?_
  refine kS F h (λF h=>?_) λF h=>?_
  ·refine zG 1464 F h (ac0 _ _) λr5 h=>?_
   refine kS F h (λF h=>?_) λF h=>?_
   ·exact k9 h
   ·exact k9 h
  ·exact k9 h
 ·exact k9 h
end
end Go.Proofs.YtllicmcihlfajaaGreat
set_option maxRecDepth 20000
namespace Go.Proofs.YtllicmcihlfajaaGreat
open Go.cE
noncomputable section
theorem jP (a0:aZ) (a1:Types) (r:Bool) (h:cc a0 a1=some r):aS Tryz.prog 11 [.agg (bN a0),.agg [.aU (a1.nodes.map aJ),.aU (a1.au.map aK)]] (λv=>v = .val (.bool r)):=by
 refine aS.kP ?_; refine aR [] func11 ?_; rw[ntmps11,results11]; unfold cc at h; have F:=trivial; refine zK F h (xI _) λr2 h=>?_
 refine nN F h (λF h=>?_) λF h=>?_
 ·refine zK F h (xK _) λr3 h=>?_
  refine nN F h (λF h=>?_) λF h=>?_
  ·refine zK F h (nB _) λr4 h=>?_
   refine nN F h (λF h=>?_) λF h=>?_
   ·refine zK F h (nB _) λr5 h=>?_
    exact zR h
   ·exact zR h
  ·exact zR h
 ·exact zR h
theorem wC (a0:az) (a1:az) (r:Bool) (h:iG a0 a1=some r):aS Tryz.prog 19 [.agg (aA a0),.agg (aA a1)] (λv=>v = .val (.bool r)):=by
 refine aS.kP ?_; refine aR [] func19 ?_; rw[ntmps19,results19]; unfold iG at h; have F:=trivial; refine zK F h (wA _ _) λr2 h=>?_
 refine nN F h (λF h=>?_) λF h=>?_
 ·refine zK F h (iI _ _) λr3 h=>?_
  refine nN F h (λF h=>?_) λF h=>?_
  ·refine zK F h (iI _ _) λr4 h=>?_
   refine nN F h (λF h=>?_) λF h=>?_
   ·exact zR h
   ·exact zR h
  ·exact zR h
 ·exact zR h
end
end Go.Proofs.YtllicmcihlfajaaGreat
set_option maxRecDepth 20000
namespace Go.Proofs.YtllicmcihlfajaaGreat
open Go.cE
noncomputable section
theorem yK (a0:Types) (a1:az) (a2:aG) (a3:aG) (a4:az) (a5:az) (r:(List aI)×Int) (h:lH a0 a1 a2 a3 a4 a5=some r):bu Tryz.prog 39 [.agg [.aU (a0.nodes.map aJ),.aU (a0.au.map aK)],.agg (aA a1),.agg (aB a2),.agg (aB a3),.agg (aA a4),.agg (aA a5)] (λv=>v = .dB [.row 53 3 (r.1.map aC),.p (.val (.int .i64 r.2))]):=by
 refine bu.uT ?_; refine bF [61] func39 ?_; rw[ntmps39,results39]; unfold lH at h; have F:=trivial; refine zK F h (agb _ _ _ _) λr6 h=>?_
 refine kS F h (λF h=>?_) λF h=>?_
 ·refine zD [.q,.q,.q,.q,.q,.q,.q,.q,.q,.p,.q,.q] ?_; refine xP F h (nO _ _) λr7 h=>?_
  refine xP F h (nO _ _) λr8 h=>?_
  refine xP F h (nO _ _) λr9 h=>?_
  refine xP F h (rS _) λwk h=>?_
  refine zG 1704 F h (nO _ _) λr11 h=>?_
  refine zV ?_; refine zN F h (0:Nat) [16,44,45] (λx=>[(17,.row 3631 x.2),(46,.p (.val (.int .i64 ((x.1.1:Nat):Int))))]) [1704] (λx H=>[(3631,.row x.2 53 3 (x.1.2.map aC))]) ?_ ?_ (hw:=by refine dP.trans (iQ 17 3631 53 3 rfl rfl (by decide)) ?_; exact zW)
  ·intro i12 s12 g12 _ _ F aw7 h; try dsimp only at h
   refine zI ck F h λe13 F h=>?_
   refine zK F h (qK _ _) λr14 h=>?_
   refine kS F h (λF h=>?_) λF h=>?_
   ·exact zX (z:=aw7 _ g12 h zW)
   ·refine zC F h λF h=>?_
    refine zF (eq_true (show (s12.length+1) * 24<=140737488355328 by omega)) F λF=>?_
    refine zF (bz aC s12 [(⟨4,e13.id,e13.je⟩:aI)] (c:=[[.val (.int .i64 4),.val (.int .i64 e13.id),.val (.int .i64 e13.je)]]) rfl) F λF=>?_
    exact zX (z:=aw7 _ (g12+1) h zW)
  ·intro i12 s12 g12 _ F h; try dsimp only at h
   refine zMb F h (oK g12 _) λr15 h=>?_
   exact k9 h
 ·exact k9 h
end
end Go.Proofs.YtllicmcihlfajaaGreat
set_option maxRecDepth 20000
namespace Go.Proofs.YtllicmcihlfajaaGreat
open Go.cE
noncomputable section
theorem uc (a0:Types) (a1:az) (a2:aG) (r:az×Int) (h:eX a0 a1 a2=some r):bu Tryz.prog 62 [.agg [.aU (a0.nodes.map aJ),.aU (a0.au.map aK)],.agg (aA a1),.agg (aB a2)] (λv=>v = .dB [.agg [.row 3 1 (r.1.host.graph.nodes.map encI),.row 133 3 (r.1.host.graph.au.map bf),.row 26 1 (r.1.host.values.map b9),.row 3 1 (r.1.nodes.map encI),.row 3 1 (r.1.au.map encI),.p (.val (.int .i64 r.1.next))],.p (.val (.int .i64 r.2))]):=by
 refine bu.uT ?_; refine bF [] func62 ?_; rw[ntmps62,results62]; unfold eX at h; have F:=trivial; refine zK F h (tZ _) λr3 h=>?_
 refine kS F h (λF h=>?_) λF h=>?_
 ·refine zF (show (0:Int)<=0 by decide) F λF=>?_
  refine zF (show (0:Int)<((2:Nat):Int) by decide) F λF=>?_
  refine kS F h (λF h=>?_) λF h=>?_
  ·refine zD [.q,.q,.q,.q,.q,.q,.o,.w,.s,.q] ?_; refine xP F h (uZ _) λr4 h=>?_
   refine uC F h (rU _ _) λr5 h=>?_
   refine kS F h (λF h=>?_) λF h=>?_
   ·refine zK F h (rT _ _) λr6 h=>?_
    refine kS F h (λF h=>?_) λF h=>?_
    ·refine zF (show (0:Int)<=1 by decide) F λF=>?_
     refine zF (show (1:Int)<((2:Nat):Int) by decide) F λF=>?_
     refine zG 1768 F h (p9 _ _) λr7 h=>?_
     refine zK F h (jC _ _) λr8 h=>?_
     refine kS F h (λF h=>?_) λF h=>?_
     ·exact k9 h
     ·exact k9 h
    ·exact k9 h
   ·exact k9 h
  ·exact k9 h
 ·exact k9 h
end
end Go.Proofs.YtllicmcihlfajaaGreat
set_option maxRecDepth 20000
namespace Go.Proofs.YtllicmcihlfajaaGreat
open Go.cE
noncomputable section
theorem afe (a0:Types) (a1:az) (a2:aG) (a3:aG) (r:aG×Int) (h:lK a0 a1 a2 a3=some r):bu Tryz.prog 22 [.agg [.aU (a0.nodes.map aJ),.aU (a0.au.map aK)],.agg (aA a1),.agg (aB a2),.agg (aB a3)] (λv=>v = .dB [.agg [.row 79 3 (r.1.ax.map ag),.row 84 4 (r.1.aD.map ah),.row 79 3 (r.1.aQ.map ag),.row 84 4 (r.1.aM.map ah),.row 87 4 (r.1.values.map aH),.p (.val (.int .i64 r.1.next.x0)),.p (.val (.int .i64 r.1.next.x1))],.p (.val (.int .i64 r.2))]):=by
 refine bu.uT ?_; refine bF [] func22 ?_; rw[ntmps22,results22]; unfold lK at h; have F:=trivial; refine zK F h (u5 _ _ _ _) λr4 h=>?_
 refine kS F h (λF h=>?_) λF h=>?_
 ·refine zG 1400 F h (oR _ _) λr5 h=>?_
  refine zB F h (λF h=>?_) λF h=>?_
  ·exact k9 h
  ·refine zK F h (tI _ _ _ _) λr6 h=>?_
   refine kS F h (λF h=>?_) λF h=>?_
   ·refine zG 1720 F h (afd _ _ _) λr7 h=>?_
    exact k9 h
   ·exact k9 h
 ·exact k9 h
end
end Go.Proofs.YtllicmcihlfajaaGreat
set_option maxRecDepth 20000
namespace Go.Proofs.YtllicmcihlfajaaGreat
open Go.cE
noncomputable section
theorem uD (a0:Types) (a1:az) (a2:aG) (a3:aG) (r:(List aI)×Int) (h:fL a0 a1 a2 a3=some r):bu Tryz.prog 12 [.agg [.aU (a0.nodes.map aJ),.aU (a0.au.map aK)],.agg (aA a1),.agg (aB a2),.agg (aB a3)] (λv=>v = .dB [.row 53 3 (r.1.map aC),.p (.val (.int .i64 r.2))]):=by
 refine bu.uT ?_; refine bF [] func12 ?_; rw[ntmps12,results12]; unfold fL at h; have F:=trivial; refine zK F h (u5 _ _ _ _) λr4 h=>?_
 refine kS F h (λF h=>?_) λF h=>?_
 ·refine zG 1400 F h (oR _ _) λr5 h=>?_
  refine zB F h (λF h=>?_) λF h=>?_
  ·exact k9 h
  ·refine zK F h (tI _ _ _ _) λr6 h=>?_
   refine kS F h (λF h=>?_) λF h=>?_
   ·refine zG 1768 F h (yK _ _ _ _ _ _) λr7 h=>?_
    exact k9 h
   ·exact k9 h
 ·exact k9 h
end
end Go.Proofs.YtllicmcihlfajaaGreat
set_option maxRecDepth 20000
namespace Go.Proofs.YtllicmcihlfajaaGreat
open Go.cE
noncomputable section
theorem eP (a0:Types) (a1:az) (a2:aG) (r:az×Int) (h:bE a0 a1 a2=some r):bu Tryz.prog 25 [.agg [.aU (a0.nodes.map aJ),.aU (a0.au.map aK)],.agg (aA a1),.agg (aB a2)] (λv=>v = .dB [.agg [.row 3 1 (r.1.host.graph.nodes.map encI),.row 133 3 (r.1.host.graph.au.map bf),.row 26 1 (r.1.host.values.map b9),.row 3 1 (r.1.nodes.map encI),.row 3 1 (r.1.au.map encI),.p (.val (.int .i64 r.1.next))],.p (.val (.int .i64 r.2))]):=by
 refine bu.uT ?_; refine bF [] func25 ?_; rw[ntmps25,results25]; unfold bE at h; have F:=trivial; refine zK F h (jC _ _) λr3 h=>?_
 refine kS F h (λF h=>?_) λF h=>?_
 ·refine zG 1304 F h (uc _ _ _) λr4 h=>?_
  exact k9 h
 ·exact k9 h
end
end Go.Proofs.YtllicmcihlfajaaGreat
set_option maxRecDepth 20000
namespace Go.Proofs.YtllicmcihlfajaaGreat
open Go.cE
noncomputable section
theorem aiH (a0:Types) (a1:az) (a2:aG) (a3:aG) (r:az×Int) (h:pW a0 a1 a2 a3=some r):aS Tryz.prog 46 [.agg [.aU (a0.nodes.map aJ),.aU (a0.au.map aK)],.agg (aA a1),.agg (aB a2),.agg (aB a3)] (λv=>v = .dB [.agg (aA r.1),.val (.int .i64 r.2)]):=by
 refine aS.kP ?_; refine aR [] func46 ?_; rw[ntmps46,results46]; unfold pW at h; have F:=trivial; refine zK F h (tI _ _ _ _) λr4 h=>?_
 refine kS F h (λF h=>?_) λF h=>?_
 ·refine zG 1544 F h (yK _ _ _ _ _ _) λr5 h=>?_
  refine kS F h (λF h=>?_) λF h=>?_
  ·refine zB F h (λF h=>?_) λF h=>?_
   ·exact zR h
   ·exact zR h
  ·exact zR h
 ·exact zR h
end
end Go.Proofs.YtllicmcihlfajaaGreat
set_option maxRecDepth 20000
namespace Go.Proofs.YtllicmcihlfajaaGreat
open Go.cE
noncomputable section
theorem oF (a0:Types) (a1:az) (a2:aG) (a3:aG) (a4:az) (r:(List aI)) (h:fD a0 a1 a2 a3 a4=some r):bu Tryz.prog 45 [.agg [.aU (a0.nodes.map aJ),.aU (a0.au.map aK)],.agg (aA a1),.agg (aB a2),.agg (aB a3),.agg (aA a4)] (λv=>v = .row 53 3 (r.map aC)):=by
 refine bu.uT ?_; refine bF [121] func45 ?_; rw[ntmps45,results45]; unfold fD at h; have F:=trivial; refine zG 1432 F h (eP _ _ _) λr5 h=>?_
 refine zG 1496 F h (ji _) λr6 h=>?_
 refine zF (show (0:Int)<=1 by decide) F λF=>?_
 refine zF (show (1:Int)<((2:Nat):Int) by decide) F λF=>?_
 refine zV ?_; refine eW 1496 0 3 1 (r6.host.graph.nodes.map encI) [] (by simp -implicitDefEqProofs only[go_sem,F]<;>rfl) (by simp -implicitDefEqProofs only[go_sem,F]<;>and_intros<;>rfl) (by decide) ?_; refine eW 1497 0 133 3 (r6.host.graph.au.map bf) [] (by simp -implicitDefEqProofs only[go_sem,F]<;>rfl) (by simp -implicitDefEqProofs only[go_sem,F]<;>and_intros<;>rfl) (by decide) ?_; refine eW 1498 0 26 1 (r6.host.values.map b9) [] (by simp -implicitDefEqProofs only[go_sem,F]<;>rfl) (by simp -implicitDefEqProofs only[go_sem,F]<;>and_intros<;>rfl) (by decide) ?_; refine eW 1499 0 3 1 (r6.nodes.map encI) [] (by simp -implicitDefEqProofs only[go_sem,F]<;>rfl) (by simp -implicitDefEqProofs only[go_sem,F]<;>and_intros<;>rfl) (by decide) ?_; refine eW 1500 0 3 1 (r6.au.map encI) [] (by simp -implicitDefEqProofs only[go_sem,F]<;>rfl) (by simp -implicitDefEqProofs only[go_sem,F]<;>and_intros<;>rfl) (by decide) ?_; refine zD [.q,.q,.q,.q,.q,.f,.q,.q,.o,.w,.s,.q] ?_; refine xP F h (nY _ _) λr7 h=>?_
 refine zH 1672 F h (eP _ _ _) λr8 h=>?_
 refine zV ?_; refine eW 1432 0 3 1 (r5.1.host.graph.nodes.map encI) [] (by simp -implicitDefEqProofs only[go_sem,F]<;>rfl) (by simp -implicitDefEqProofs only[go_sem,F]<;>and_intros<;>rfl) (by decide) ?_; refine eW 1433 0 133 3 (r5.1.host.graph.au.map bf) [] (by simp -implicitDefEqProofs only[go_sem,F]<;>rfl) (by simp -implicitDefEqProofs only[go_sem,F]<;>and_intros<;>rfl) (by decide) ?_; refine eW 1434 0 26 1 (r5.1.host.values.map b9) [] (by simp -implicitDefEqProofs only[go_sem,F]<;>rfl) (by simp -implicitDefEqProofs only[go_sem,F]<;>and_intros<;>rfl) (by decide) ?_; refine eW 1435 0 3 1 (r5.1.nodes.map encI) [] (by simp -implicitDefEqProofs only[go_sem,F]<;>rfl) (by simp -implicitDefEqProofs only[go_sem,F]<;>and_intros<;>rfl) (by decide) ?_; refine eW 1436 0 3 1 (r5.1.au.map encI) [] (by simp -implicitDefEqProofs only[go_sem,F]<;>rfl) (by simp -implicitDefEqProofs only[go_sem,F]<;>and_intros<;>rfl) (by decide) ?_; refine eW 1672 0 3 1 (r8.1.host.graph.nodes.map encI) [] (by simp -implicitDefEqProofs only[go_sem,F]<;>rfl) (by simp -implicitDefEqProofs only[go_sem,F]<;>and_intros<;>rfl) (by decide) ?_; refine eW 1673 0 133 3 (r8.1.host.graph.au.map bf) [] (by simp -implicitDefEqProofs only[go_sem,F]<;>rfl) (by simp -implicitDefEqProofs only[go_sem,F]<;>and_intros<;>rfl) (by decide) ?_; refine eW 1674 0 26 1 (r8.1.host.values.map b9) [] (by simp -implicitDefEqProofs only[go_sem,F]<;>rfl) (by simp -implicitDefEqProofs only[go_sem,F]<;>and_intros<;>rfl) (by decide) ?_; refine eW 1675 0 3 1 (r8.1.nodes.map encI) [] (by simp -implicitDefEqProofs only[go_sem,F]<;>rfl) (by simp -implicitDefEqProofs only[go_sem,F]<;>and_intros<;>rfl) (by decide) ?_; refine eW 1676 0 3 1 (r8.1.au.map encI) [] (by simp -implicitDefEqProofs only[go_sem,F]<;>rfl) (by simp -implicitDefEqProofs only[go_sem,F]<;>and_intros<;>rfl) (by decide) ?_; refine zE [(0,.q),(1,.q),(3,.q),(4,.q),(7,.b),(8,.b),(2,.f),(5,.f),(6,.w),(9,.f),(10,.w),(11,.q)] ?_; refine zH 1752 F h (iJ _ _) λr9 h=>?_
 refine zH 1800 F h (iJ _ _) λwk h=>?_
 refine zC F h λF h=>?_
 refine zF (eq_true (show (r9.length+wk.length) * 24<=140737488355328 by omega)) F λF=>?_
 refine zF (eq_true (fz (n:=3) (f:=bS) (λ_=>rfl) wk)) F λF=>?_
 refine zH 1864 F h (iJ _ _) λr11 h=>?_
 refine zC F h λF h=>?_
 refine zF (eq_true (show (r9.length+wk.length+r11.length) * 24<=140737488355328 by omega)) F λF=>?_
 refine zF (eq_true (fz (n:=3) (f:=bS) (λ_=>rfl) r11)) F λF=>?_
 refine zG 1928 F h (iJ _ _) λr12 h=>?_
 refine zV ?_; refine zN F h (0:Nat) [5,9,16,17] (λx=>[(18,.row 8541 x.2),(19,.p (.val (.int .i64 ((x.1.1:Nat):Int))))]) [5,9,1752,1928] (λx H=>[(8541,.row x.2 53 3 (x.1.2.map aC))]) ?_ ?_ (hw:=by refine dP.trans (iQ 18 8541 53 3 rfl rfl (by decide)) ?_; exact zW)
 ·intro i13 tT g13 _ _ F aiG h; try dsimp only at h
  refine zV ?_; refine zN F h (g13:Nat) [5,9,16,17,19] (λx=>[(18,.row 8541 x.2),(20,.p (.val (.int .i64 ((x.1.1:Nat):Int))))]) [5,9,1752,1928] (λx H=>[(8541,.row x.2 53 3 (x.1.2.map aC))]) ?_ ?_
  ·intro i14 vQ g14 _ _ F afb h; try dsimp only at h
   refine zV ?_; refine zN F h () [5,9,16,17,18,19,20] (λx=>[(21,.p (.val (.bool x.1.2))),(22,.p (.val (.int .i64 ((x.1.1:Nat):Int))))]) [5,9,1752,1928,8541] (λx H=>[]) ?_ ?_
   ·intro i15 xo g15 _ _ F af9 h; try dsimp only at h
    refine zD [.q,.q,.q,.q,.q,.q,.q,.q,.q,.q,.q,.q,.q,.q,.q,.q,.q,.q,.q,.q,.q,.q,.q,.q,.q,.q,.q,.q,.q,.q,.q,.q,.q] ?_; refine ak5 F h (λF h=>?_) λF h=>?_
    ·exact zX (z:=af9 _ () h zW)
    ·refine zI bS F h λe16 F h=>?_
     refine zI encI F h λe17 F h=>?_
     refine zBd F h (λF h=>?_) λF h=>?_
     ·refine zBd F h (λF h=>?_) λF h=>?_
      ·refine uC F h (yJ _ _) λr18 h=>?_
       exact zX (z:=af9 _ () h zW)
      ·exact zX (z:=af9 _ () h zW)
     ·exact zX (z:=af9 _ () h zW)
   ·intro i15 xo g15 _ F h; try dsimp only at h
    refine zB F h (λF h=>?_) λF h=>?_
    ·refine zI encI F h λxG F h=>?_
     refine zC F h λF h=>?_
     refine zF (eq_true (show (vQ.length+1) * 24<=140737488355328 by omega)) F λF=>?_
     refine zF (bz aC vQ [(⟨4,xG,((i14:Nat):Int)⟩:aI)] (c:=[[.val (.int .i64 4),.val (.int .i64 xG),.val (.int .i64 ((i14:Nat):Int))]]) rfl) F λF=>?_
     exact zX (z:=afb _ (g14+1) h zW)
    ·exact zX (z:=afb _ g14 h zW)
  ·intro i14 vQ g14 _ F h; try dsimp only at h
   exact zX (z:=aiG _ g14 h zW)
 ·intro i13 tT g13 _ F h; try dsimp only at h
  exact k9 h
end
end Go.Proofs.YtllicmcihlfajaaGreat
set_option maxRecDepth 20000
namespace Go.Proofs.YtllicmcihlfajaaGreat
open Go.cE
noncomputable section
theorem kJ (a0:Types) (a1:az) (a2:aG) (a3:aG) (r:az×Int) (h:dF a0 a1 a2 a3=some r):bu Tryz.prog 44 [.agg [.aU (a0.nodes.map aJ),.aU (a0.au.map aK)],.agg (aA a1),.agg (aB a2),.agg (aB a3)] (λv=>v = .dB [.agg [.row 3 1 (r.1.host.graph.nodes.map encI),.row 133 3 (r.1.host.graph.au.map bf),.row 26 1 (r.1.host.values.map b9),.row 3 1 (r.1.nodes.map encI),.row 3 1 (r.1.au.map encI),.p (.val (.int .i64 r.1.next))],.p (.val (.int .i64 r.2))]):=by
 refine bu.uT ?_; refine bF [] func44 ?_; rw[ntmps44,results44]; unfold dF at h; have F:=trivial; refine zG 1272 F h (eP _ _ _) λr4 h=>?_
 refine kS F h (λF h=>?_) λF h=>?_
 ·refine zV ?_; refine eW 1272 0 3 1 (r4.1.host.graph.nodes.map encI) [] (by simp -implicitDefEqProofs only[go_sem,F]<;>rfl) (by simp -implicitDefEqProofs only[go_sem,F]<;>and_intros<;>rfl) (by decide) ?_; refine eW 1273 0 133 3 (r4.1.host.graph.au.map bf) [] (by simp -implicitDefEqProofs only[go_sem,F]<;>rfl) (by simp -implicitDefEqProofs only[go_sem,F]<;>and_intros<;>rfl) (by decide) ?_; refine eW 1274 0 26 1 (r4.1.host.values.map b9) [] (by simp -implicitDefEqProofs only[go_sem,F]<;>rfl) (by simp -implicitDefEqProofs only[go_sem,F]<;>and_intros<;>rfl) (by decide) ?_; refine eW 1275 0 3 1 (r4.1.nodes.map encI) [] (by simp -implicitDefEqProofs only[go_sem,F]<;>rfl) (by simp -implicitDefEqProofs only[go_sem,F]<;>and_intros<;>rfl) (by decide) ?_; refine eW 1276 0 3 1 (r4.1.au.map encI) [] (by simp -implicitDefEqProofs only[go_sem,F]<;>rfl) (by simp -implicitDefEqProofs only[go_sem,F]<;>and_intros<;>rfl) (by decide) ?_; refine zD [.q,.q,.q,.q,.q,.q,.q,.w,.s] ?_; refine xP F h (nY _ _) λr5 h=>?_
  refine xP F h (wv _ _) λr6 h=>?_
  refine xP F h (qb _ _) λr7 h=>?_
  refine sD F h (λF h=>?_) λF h=>?_
  ·exact k9 h
  ·refine zB F h (λF h=>?_) λF h=>?_
   ·exact k9 h
   ·refine zG 1976 F h (eP _ _ _) λr8 h=>?_
    exact k9 h
 ·exact k9 h
end
end Go.Proofs.YtllicmcihlfajaaGreat
set_option maxRecDepth 20000
namespace Go.Proofs.YtllicmcihlfajaaGreat
open Go.cE
noncomputable section
theorem lP (a0:Types) (a1:az) (a2:aG) (a3:aG) (r:Int) (h:dm a0 a1 a2 a3=some r):aS Tryz.prog 42 [.agg [.aU (a0.nodes.map aJ),.aU (a0.au.map aK)],.agg (aA a1),.agg (aB a2),.agg (aB a3)] (λv=>v = .val (.int .i64 r)):=by
 refine aS.kP ?_; refine aR [] func42 ?_; rw[ntmps42,results42]; unfold dm at h; have F:=trivial; refine zG 1272 F h (eP _ _ _) λr4 h=>?_
 refine kS F h (λF h=>?_) λF h=>?_
 ·refine zG 1432 F h (eP _ _ _) λr5 h=>?_
  refine kS F h (λF h=>?_) λF h=>?_
  ·refine zK F h (o7 _) λr6 h=>?_
   refine nN F h (λF h=>?_) λF h=>?_
   ·refine zK F h (o7 _) λr7 h=>?_
    refine kS F h (λF h=>?_) λF h=>?_
    ·refine zF (show (0:Int)<=1 by decide) F λF=>?_
     refine zF (show (1:Int)<((2:Nat):Int) by decide) F λF=>?_
     refine zF (show (0:Int)<=1 by decide) F λF=>?_
     refine zF (show (1:Int)<((2:Nat):Int) by decide) F λF=>?_
     refine zF (show (0:Int)<=0 by decide) F λF=>?_
     refine zF (show (0:Int)<((2:Nat):Int) by decide) F λF=>?_
     refine zB F h (λF h=>?_) λF h=>?_
     ·exact zR h
     ·exact zR h
    ·exact zR h
   ·exact zR h
  ·exact zR h
 ·exact zR h
end
end Go.Proofs.YtllicmcihlfajaaGreat
set_option maxRecDepth 20000
namespace Go.Proofs.YtllicmcihlfajaaGreat
open Go.cE
noncomputable section
theorem aaf (a0:Types) (a1:az) (a2:aG) (a3:aG) (r:az×Int) (h:jh a0 a1 a2 a3=some r):aS Tryz.prog 17 [.agg [.aU (a0.nodes.map aJ),.aU (a0.au.map aK)],.agg (aA a1),.agg (aB a2),.agg (aB a3)] (λv=>v = .dB [.agg (aA r.1),.val (.int .i64 r.2)]):=by
 refine aS.kP ?_; refine aR [] func17 ?_; rw[ntmps17,results17]; unfold jh at h; have F:=trivial; refine zK F h (u5 _ _ _ _) λr4 h=>?_
 refine kS F h (λF h=>?_) λF h=>?_
 ·refine zG 1352 F h (oR _ _) λr5 h=>?_
  refine zB F h (λF h=>?_) λF h=>?_
  ·exact zR h
  ·refine zK F h (aiH _ _ _ _) λr6 h=>?_
   exact zR h
 ·exact zR h
end
end Go.Proofs.YtllicmcihlfajaaGreat
set_option maxRecDepth 20000
namespace Go.Proofs.YtllicmcihlfajaaGreat
open Go.cE
noncomputable section
theorem dr  (r:Bool) (h:bW  = some r):aS Tryz.prog 10 [] (λv=>v = .val (.bool r)):=by
 refine aS.kP ?_; refine aR [] func10 ?_; rw[ntmps10,results10]; unfold bW at h; have F:=trivial; refine zG 1144 F h tW λr1 h=>?_
 refine zV ?_; refine eW 1144 0 129 4 (r1.nodes.map aJ) [] (by simp -implicitDefEqProofs only[go_sem,F]<;>rfl) (by simp -implicitDefEqProofs only[go_sem,F]<;>and_intros<;>rfl) (by decide) ?_; refine eW 1145 0 131 7 (r1.au.map aK) [] (by simp -implicitDefEqProofs only[go_sem,F]<;>rfl) (by simp -implicitDefEqProofs only[go_sem,F]<;>and_intros<;>rfl) (by decide) ?_; refine zD [.q,.q,.q,.q,.q,.q,.q,.q,.q,.q] ?_; refine xP F h pX λr2 h=>?_
 refine xP F h (uD _ _ _ _) λr3 h=>?_
 refine zD [.q,.q,.q,.q,.q,.q,.q,.o,.w,.s,.q] ?_; refine xP F h pX λr4 h=>?_
 refine uC F h (aaf _ _ _ _) λr5 h=>?_
 refine nN F h (λF h=>?_) λF h=>?_
 ·refine zK F h (oE _ _) λr6 h=>?_
  refine nN F h (λF h=>?_) λF h=>?_
  ·refine nN F h (λF h=>?_) λF h=>?_
   ·refine zK F h (tG _ _) λr7 h=>?_
    refine nN F h (λF h=>?_) λF h=>?_
    ·refine nN F h (λF h=>?_) λF h=>?_
     ·refine zJ 1 b9 F h λe8 F h=>?_
      refine zK F h (tG _ _) λr9 h=>?_
      exact zR h
     ·exact zR h
    ·exact zR h
   ·exact zR h
  ·exact zR h
 ·exact zR h
end
end Go.Proofs.YtllicmcihlfajaaGreat
set_option maxRecDepth 20000
namespace Go.Proofs.YtllicmcihlfajaaGreat
open Go.cE
noncomputable section
theorem u6 (a0:Types) (a1:az) (a2:aG) (a3:aG) (r:aG×Int) (h:fE a0 a1 a2 a3=some r):bu Tryz.prog 23 [.agg [.aU (a0.nodes.map aJ),.aU (a0.au.map aK)],.agg (aA a1),.agg (aB a2),.agg (aB a3)] (λv=>v = .dB [.agg [.row 79 3 (r.1.ax.map ag),.row 84 4 (r.1.aD.map ah),.row 79 3 (r.1.aQ.map ag),.row 84 4 (r.1.aM.map ah),.row 87 4 (r.1.values.map aH),.p (.val (.int .i64 r.1.next.x0)),.p (.val (.int .i64 r.1.next.x1))],.p (.val (.int .i64 r.2))]):=by
 refine bu.uT ?_; refine bF [] func23 ?_; rw[ntmps23,results23]; unfold fE at h; have F:=trivial; refine zK F h (lP _ _ _ _) λr4 h=>?_
 refine kS F h (λF h=>?_) λF h=>?_
 ·refine zG 1432 F h (jI _ _ _) λr5 h=>?_
  refine zB F h (λF h=>?_) λF h=>?_
  ·exact k9 h
  ·refine zG 1576 F h (kJ _ _ _ _) λr6 h=>?_
   refine kS F h (λF h=>?_) λF h=>?_
   ·refine zG 1752 F h (eP _ _ _) λr7 h=>?_
    refine zGs ([1752,1753,1754,1755,1756,1576,1577,1578,1579,1580],1848) F h (wB _ _ _) λr8 h=>?_
    exact k9 h
   ·exact k9 h
 ·exact k9 h
end
end Go.Proofs.YtllicmcihlfajaaGreat
set_option maxRecDepth 20000
namespace Go.Proofs.YtllicmcihlfajaaGreat
open Go.cE
noncomputable section
theorem sG (a0:Types) (a1:az) (a2:aG) (a3:aG) (r:(List aI)×Int) (h:fM a0 a1 a2 a3=some r):bu Tryz.prog 15 [.agg [.aU (a0.nodes.map aJ),.aU (a0.au.map aK)],.agg (aA a1),.agg (aB a2),.agg (aB a3)] (λv=>v = .dB [.row 53 3 (r.1.map aC),.p (.val (.int .i64 r.2))]):=by
 refine bu.uT ?_; refine bF [] func15 ?_; rw[ntmps15,results15]; unfold fM at h; have F:=trivial; refine zK F h (lP _ _ _ _) λr4 h=>?_
 refine kS F h (λF h=>?_) λF h=>?_
 ·refine zG 1400 F h (jI _ _ _) λr5 h=>?_
  refine zB F h (λF h=>?_) λF h=>?_
  ·exact k9 h
  ·refine zG 1560 F h (kJ _ _ _ _) λr6 h=>?_
   refine kS F h (λF h=>?_) λF h=>?_
   ·refine zG 1736 F h (oF _ _ _ _ _) λr7 h=>?_
    exact k9 h
   ·exact k9 h
 ·exact k9 h
end
end Go.Proofs.YtllicmcihlfajaaGreat
set_option maxRecDepth 20000
namespace Go.Proofs.YtllicmcihlfajaaGreat
open Go.cE
noncomputable section
theorem tJ (a0:Types) (a1:az) (a2:aG) (a3:aG) (r:az×Int) (h:fV a0 a1 a2 a3=some r):bu Tryz.prog 47 [.agg [.aU (a0.nodes.map aJ),.aU (a0.au.map aK)],.agg (aA a1),.agg (aB a2),.agg (aB a3)] (λv=>v = .dB [.agg [.row 3 1 (r.1.host.graph.nodes.map encI),.row 133 3 (r.1.host.graph.au.map bf),.row 26 1 (r.1.host.values.map b9),.row 3 1 (r.1.nodes.map encI),.row 3 1 (r.1.au.map encI),.p (.val (.int .i64 r.1.next))],.p (.val (.int .i64 r.2))]):=by
 refine bu.uT ?_; refine bF [] func47 ?_; rw[ntmps47,results47]; unfold fV at h; have F:=trivial; refine zG 1272 F h (kJ _ _ _ _) λr4 h=>?_
 refine kS F h (λF h=>?_) λF h=>?_
 ·refine zG 1464 F h (oF _ _ _ _ _) λr5 h=>?_
  refine zB F h (λF h=>?_) λF h=>?_
  ·exact k9 h
  ·exact k9 h
 ·exact k9 h
end
end Go.Proofs.YtllicmcihlfajaaGreat
set_option maxRecDepth 20000
namespace Go.Proofs.YtllicmcihlfajaaGreat
open Go.cE
noncomputable section
theorem pZ (a0:Types) (a1:aZ) (r:Bool) (h:ee a0 a1=some r):aS Tryz.prog 3 [.agg [.aU (a0.nodes.map aJ),.aU (a0.au.map aK)],.agg (bN a1)] (λv=>v = .val (.bool r)):=by
 refine aS.kP ?_; refine aR [] func3 ?_; rw[ntmps3,results3]; unfold ee at h; have F:=trivial; refine zK F h dr λr2 h=>?_
 refine nN F h (λF h=>?_) λF h=>?_
 ·refine zK F h (jP _ _) λr3 h=>?_
  refine kS F h (λF h=>?_) λF h=>?_
  ·refine zD [.q,.q,.q,.q,.q,.q,.q,.q,.q,.q,.q,.q,.q,.q,.q,.q] ?_; refine xP F h (ji _) λr4 h=>?_
   refine xP F h (cm _) λr5 h=>?_
   refine xP F h (cm _) λr6 h=>?_
   refine xP F h (uD _ _ _ _) λr7 h=>?_
   refine zG 1640 F h (sG _ _ _ _) λr8 h=>?_
   refine nN F h (λF h=>?_) λF h=>?_
   ·refine zK F h (oE _ _) λr9 h=>?_
    exact zR h
   ·exact zR h
  ·refine zK F h dr λwk h=>?_
   exact zR h
 ·refine zK F h dr λr11 h=>?_
  exact zR h
end
end Go.Proofs.YtllicmcihlfajaaGreat
set_option maxRecDepth 20000
namespace Go.Proofs.YtllicmcihlfajaaGreat
open Go.cE
noncomputable section
theorem rE (a0:Types) (a1:aZ) (r:Bool) (h:eV a0 a1=some r):aS Tryz.prog 6 [.agg [.aU (a0.nodes.map aJ),.aU (a0.au.map aK)],.agg (bN a1)] (λv=>v = .val (.bool r)):=by
 refine aS.kP ?_; refine aR [] func6 ?_; rw[ntmps6,results6]; unfold eV at h; have F:=trivial; refine zK F h dr λr2 h=>?_
 refine nN F h (λF h=>?_) λF h=>?_
 ·refine zK F h (jP _ _) λr3 h=>?_
  refine kS F h (λF h=>?_) λF h=>?_
  ·refine zD [.q,.q,.q,.q,.q,.q,.q,.q,.q,.q,.q,.q,.q,.o,.w,.s,.q] ?_; refine xP F h (ji _) λr4 h=>?_
   refine xP F h (cm _) λr5 h=>?_
   refine xP F h (cm _) λr6 h=>?_
   refine xP F h (afe _ _ _ _) λr7 h=>?_
   refine zG 1640 F h (u6 _ _ _ _) λr8 h=>?_
   refine nN F h (λF h=>?_) λF h=>?_
   ·refine zK F h (sF _ _) λr9 h=>?_
    exact zR h
   ·exact zR h
  ·refine zK F h dr λwk h=>?_
   exact zR h
 ·refine zK F h dr λr11 h=>?_
  exact zR h
end
end Go.Proofs.YtllicmcihlfajaaGreat
set_option maxRecDepth 20000
namespace Go.Proofs.YtllicmcihlfajaaGreat
open Go.cE
noncomputable section
theorem vD (a0:Types) (a1:az) (a2:aG) (a3:aG) (r:az×Int) (h:ij a0 a1 a2 a3=some r):bu Tryz.prog 18 [.agg [.aU (a0.nodes.map aJ),.aU (a0.au.map aK)],.agg (aA a1),.agg (aB a2),.agg (aB a3)] (λv=>v = .dB [.agg [.row 3 1 (r.1.host.graph.nodes.map encI),.row 133 3 (r.1.host.graph.au.map bf),.row 26 1 (r.1.host.values.map b9),.row 3 1 (r.1.nodes.map encI),.row 3 1 (r.1.au.map encI),.p (.val (.int .i64 r.1.next))],.p (.val (.int .i64 r.2))]):=by
 refine bu.uT ?_; refine bF [] func18 ?_; rw[ntmps18,results18]; unfold ij at h; have F:=trivial; refine zK F h (lP _ _ _ _) λr4 h=>?_
 refine kS F h (λF h=>?_) λF h=>?_
 ·refine zG 1368 F h (jI _ _ _) λr5 h=>?_
  refine zB F h (λF h=>?_) λF h=>?_
  ·exact k9 h
  ·refine zG 1496 F h (tJ _ _ _ _) λr6 h=>?_
   exact k9 h
 ·exact k9 h
end
end Go.Proofs.YtllicmcihlfajaaGreat
set_option maxRecDepth 20000
namespace Go.Proofs.YtllicmcihlfajaaGreat
open Go.cE
noncomputable section
theorem rV (a0:Types) (a1:aZ) (r:Bool) (h:fq a0 a1=some r):aS Tryz.prog 4 [.agg [.aU (a0.nodes.map aJ),.aU (a0.au.map aK)],.agg (bN a1)] (λv=>v = .val (.bool r)):=by
 refine aS.kP ?_; refine aR [] func4 ?_; rw[ntmps4,results4]; unfold fq at h; have F:=trivial; refine zK F h dr λr2 h=>?_
 refine nN F h (λF h=>?_) λF h=>?_
 ·refine zK F h (jP _ _) λr3 h=>?_
  refine kS F h (λF h=>?_) λF h=>?_
  ·refine zD [.q,.q,.q,.q,.q,.q,.q,.q,.q,.q,.q,.q,.q,.o,.w,.s,.q] ?_; refine xP F h (ji _) λr4 h=>?_
   refine xP F h (cm _) λr5 h=>?_
   refine xP F h (cm _) λr6 h=>?_
   refine uC F h (aaf _ _ _ _) λr7 h=>?_
   refine zG 1640 F h (vD _ _ _ _) λr8 h=>?_
   refine nN F h (λF h=>?_) λF h=>?_
   ·refine zK F h (wC _ _) λr9 h=>?_
    exact zR h
   ·exact zR h
  ·refine zK F h dr λwk h=>?_
   exact zR h
 ·refine zK F h dr λr11 h=>?_
  exact zR h
end
end Go.Proofs.YtllicmcihlfajaaGreat
namespace Go.Proofs.YtllicmcihlfajaaGreat
open Go.cE
end Go.Proofs.YtllicmcihlfajaaGreat
