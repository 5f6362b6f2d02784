/- Joined texts, part 6: lemmas for the statement. No condition. -/
import Derived.Test.YtjhkgjlmiolfoaaGreatL5
import Derived.Test.YtjhkgjlmiolfoaaGreatL4
set_option maxHeartbeats 4000000
set_option linter.unusedSimpArgs false
set_option linter.unusedVariables false
open Nat (reduceEqDiff reduceLT reduceLeDiff reduceMul reduceAdd reduceSub)
open Go.IntKind (i64)
open Go.Proofs.Tryz
open Go.Proofs.Tryz renaming prog → pw
set_option maxRecDepth 20000
open List hiding Mem idxOf replace
open Int (toNat_natCast)
namespace Go.Proofs.YtjhkgjlmiolfoaaGreat
open Go.cv
theorem agd(k:Nat):∀ (es:List (List PV)) (dr:Nat->Value) (i:Nat),(fG k dr es).drop i=fG k (λj=>dr (j+i)) (es.drop i)
 | [],dr,i=>by simp[fG]
 |x :: r,dr,0=>by simp
 |x :: r,dr,i+1=>by simp only[fG,drop_succ_cons];rw[agd k r _ i];rfl
theorem acI(k:Nat):∀ (es fs:List (List PV)) (dr:Nat->Value),fG k dr (es++fs)=fG k dr es++fG k (λj=>dr (j+es.length)) fs
 | [],fs,dr=>by simp[fG]
 |x :: r,fs,dr=>by simp only[cons_append,fG,length_cons];rw[acI k r fs];rfl
theorem age(k:Nat):∀ (es:List (List PV)) (dr:Nat->Value) (i:Nat),(fG k dr es).take i=fG k dr (es.take i)
 | [],dr,i=>by simp[fG]
 |x :: r,dr,0=>by simp[fG]
 |x :: r,dr,i+1=>by simp only[fG,take_succ_cons,age k r]
theorem amS(k:Nat)(es:List (List PV))(dr:Nat->Value)(i:Nat)(hi:i<es.length):(fG k dr es).take i++(fG k dr es).drop (i+1)=fG k (λj=>dr (if j<i then j else j+1)) (es.take i++es.drop (i+1)):=by
 rw[age,agd,acI];have hl:(es.take i).length=i:=by simp;omega
 rw[hl];congr 1
 ·exact vO k _ _ _ λj hj=>by rw[if_pos (by omega)]
 ·exact vO k _ _ _ λj hj=>by rw[if_neg (by omega)];rfl
theorem auN{α:Type}(es:List α)(i:Nat)(hi:i<es.length)(j:Nat)(hj:j<(es.take i++es.drop (i+1)).length):(if j<i then j else j+1)<es.length/\(es.take i++es.drop (i+1))[j]? = es[if j<i then j else j+1]?:=by
 have hl:(es.take i).length=i:=by simp;omega
 rw[length_append,hl,length_drop] at hj;by_cases h:j<i
 ·rw[if_pos h,getElem?_append_left (by omega),getElem?_take,if_pos h];exact⟨by omega,rfl⟩
 ·rw[if_neg h,getElem?_append_right (by omega),hl,getElem?_drop,show i+1+(j-i)=j+1 by omega];exact⟨by omega,rfl⟩
theorem auO(i:Nat){j k:Nat}(h:(if j<i then j else j+1)=(if k<i then k else k+1)):j=k:=by split at h<;>split at h<;>omega
def stH(l:List ah)(v:Nat)(m:List ax)(u:Nat):List (Nat×Chunk):=[(1000000,.box [.eP 1000001 v,.row 1000002 u]),(1000001,.deep v 75 3 2 3 1 (l.map ag)),(1000002,.row u 102 4 (m.map aj))]
theorem auP(p:aF)(l:List ah)(m:List ax)(v u:Nat)(hl:l.length<=1000000)(hm:m.length<=1000000)(hv:∀n∈l,n.values.length<=1000000)(h1:p.au.length<=1000000)(h2:p.aC.length<=1000000)(h3:∀n∈p.au,n.values.length<=1000000)
  (R:Bool×List ah×Nat) (hR:lV l p.au v=R) (S:Bool×List ax×Nat) (hS:nW m p.aC u=S) :
  aej pw 147 (b8 (stH l v m u)) [.ptr 1000000 0,.p (.agg (aB p))] λa H=>ou a (.p (.val (.bool (R.1&&S.1))))/\abp H (stH R.2.1 R.2.2 (if R.1 then S.2.1 else m) (if R.1 then S.2.2 else u)):=by
 refine zl [] Ty.mixed func147 rfl (by kernel_rfl) (by simp[ntmps147]) ?_;rw[ntmps147,results147];simp only[go_sem,aB,stH];refine bM (σ:=Nat×List ah×Nat) (λx=>(cE (cE (cE (cE (cE fS 0 (.ptr 1000000 0)) 3 (.ptr 3 0)) 12 (.p (.aU (p.au.map ag)))) 13 (.p (.val (.int .i64 p.au.length)))) 14 (.p (.val (.int .i64 x.1))))) (λx=>(bh (bh (bh (bh cq 3 (.box [.p (.aU (p.au.map ag)),.p (.aU (p.aC.map aj)),.p (.aU (p.aM.map ag)),.p (.aU (p.aK.map aj)),.p (.aU (p.values.map aI)),.p (.val (.int .i64 p.next.x0)),.p (.val (.int .i64 p.next.x1))])) 1000000 (.box [.eP 1000001 x.2.2,.row 1000002 u])) 1000001 (.deep x.2.2 75 3 2 3 1 (x.2.1.map ag))) 1000002 (.row u 102 4 (m.map aj))))
  (λx=>x.1<=p.au.length/\lV x.2.1 (p.au.drop x.1) x.2.2=R/\x.2.1.length<=1000000/\∀n∈x.2.1,n.values.length<=1000000) (λx=>p.au.length-x.1) (0,l,v) ⟨Nat.zero_le _,hR,hl,hv⟩ bU ?_
 rintro⟨t,l',v'⟩ ⟨ht,zz,hl',wL⟩;simp only at ht zz hl' wL;simp only[go_sem];refine aL (λhc=>?_) (λhc=>?_)
 ·have hlt:t<p.au.length:=by have:=ct hc;omega
  have bI:p.au.drop t=p.au.getD t default :: p.au.drop (t+1):=by rw[drop_eq_getElem_cons hlt];simp[hlt]
  rw[bI,lV] at zz;simp only[go_sem,getD_map ag hlt,ag];refine⟨hlt,?_⟩;refine cZ [.p,.q,.q,.q,.q,.q,.q,.p] (by kernel_rfl) ?_;simp only[go_sem];refine jG (adF l' hl' (p.au.getD t default).id) (by simp only[go_sem]<;>rfl) (b7 rfl) ?_;simp only[go_sem];cases hfi:l'.findIdx? λm=>decide (m.id=(p.au.getD t default).id) with
  |none =>
   rw[hfi] at zz;simp only at zz;have hidx:idxOf (λn:ah=>decide (n.id=(p.au.getD t default).id)) l' = -1:=by unfold idxOf;rw[hfi]
   simp only[go_sem,hidx];refine cZ [.p,.p,.p,.p,.p,.q,.q,.p,.q,.q,.q,.q,.p,.p] (by kernel_rfl) ?_;have hneg:decide ((-1:Int)<0)=true:=by decide
   simp only[go_sem,hneg];subst zz;simp only[go_sem]
  |some i =>
   rw[hfi] at zz;simp only at zz;have hidx:idxOf (λn:ah=>decide (n.id=(p.au.getD t default).id)) l'=(i:Int):=by unfold idxOf;rw[hfi]
   have ri:i<l'.length:=by rw[findIdx?_eq_some_iff_getElem] at hfi;exact hfi.1
   simp only[go_sem,hidx];refine cZ [.p,.p,.p,.p,.p,.q,.q,.p,.q,.q,.q,.q,.p,.p] (by kernel_rfl) ?_;have hpos:decide ((i:Int)<0)=false:=gf (by omega);simp only[go_sem,hpos,getD_map ag ri,ag];refine⟨ri,ri,?_⟩;have hmi:l'.getD i default∈l':=by simp[ri]
   have hmt:p.au.getD t default∈p.au:=by simp[hlt]
   have hsm:=aB5 (l'.getD i default) (p.au.getD t default) (wL _ hmi) (h3 _ hmt);refine jG (hsm) (by simp only[go_sem,getD_map ag ri,ag]<;>rfl) (b7 rfl) ?_;simp only[go_sem,getD_map ag ri,ag];refine aW (λhs=>?_) (λhs=>?_)
   ·rw[if_pos hs] at zz;simp only[go_sem,bw ri (by omega),getD_map ag ri,ag];have hes:(l'.map ag).take i++(l'.map ag).drop (i+1)=(l'.take i++l'.drop (i+1)).map ag:=by rw[map_append,map_take,map_drop]
    have he:=auN (l'.map ag) i (by rw[length_map];exact ri);rw[hes] at he;refine apu (λj=>if j<i then j else j+1) (es':=(l'.take i++l'.drop (i+1)).map ag) (λdr _=>by
     have hd:=aBR (fG 2 dr (l'.map ag)) i (i+1) v' (by omega) (by rw[fO,length_map];omega) (by rw[fO,length_map];omega);rw[amS 2 _ dr i (by rw[length_map];exact ri),hes] at hd;exact hd) he (λj k _ _ h=>auO i h) (by simp only[go_sem,getD_map ag ri,ag]<;>rfl) (by simp only[go_sem,getD_map ag ri,ag]<;>rfl) (by simp only[go_sem,getD_map ag ri,ag]<;>rfl) ?_
    generalize hL:l'.take i++l'.drop (i+1)=L' at zz ⊢;simp only[go_sem,bw hlt (by omega),getD_map ag ri,ag];refine bO (t+1,L',v'+1) ⟨hlt,zz,by rw[<-hL];simp;omega,λn hn=>?_⟩ (by simp only;omega) ?_
    ·rw[<-hL] at hn;rcases mem_append.1 hn with h|h
     ·exact wL n (mem_of_mem_take h)
     ·exact wL n (mem_of_mem_drop h)
    ·exact bU
   ·rw[if_neg (by rw[hs];simp)] at zz;subst zz;simp only[go_sem,getD_map ag ri,ag]
 ·have:t=p.au.length:=by have:=dV hc;omega
  subst this;rw[drop_length,lV] at zz;subst zz;simp only[go_sem];refine bM (σ:=Nat×List ax×Nat) (λx=>(cE (cE (cE (cE (cE fS 0 (.ptr 1000000 0)) 3 (.ptr 3 0)) 52 (.p (.aU (p.aC.map aj)))) 53 (.p (.val (.int .i64 p.aC.length)))) 54 (.p (.val (.int .i64 x.1))))) (λx=>(bh (bh (bh (bh cq 3 (.box [.p (.aU (p.au.map ag)),.p (.aU (p.aC.map aj)),.p (.aU (p.aM.map ag)),.p (.aU (p.aK.map aj)),.p (.aU (p.values.map aI)),.p (.val (.int .i64 p.next.x0)),.p (.val (.int .i64 p.next.x1))])) 1000000 (.box [.eP 1000001 v',.row 1000002 x.2.2])) 1000001 (.deep v' 75 3 2 3 1 (l'.map ag))) 1000002 (.row x.2.2 102 4 (x.2.1.map aj))))
   (λx=>x.1<=p.aC.length/\nW x.2.1 (p.aC.drop x.1) x.2.2=S/\x.2.1.length<=1000000) (λx=>p.aC.length-x.1) (0,m,u) ⟨Nat.zero_le _,hS,hm⟩ bU ?_
  rintro⟨t,m',u'⟩ ⟨ht,hS',hm'⟩;simp only at ht hS' hm';simp only[go_sem];refine aL (λhc=>?_) (λhc=>?_)
  ·have hlt:t<p.aC.length:=by have:=ct hc;omega
   have bI:p.aC.drop t=p.aC.getD t default :: p.aC.drop (t+1):=by rw[drop_eq_getElem_cons hlt];simp[hlt]
   rw[bI,nW] at hS';simp only[go_sem,getD_map aj hlt,aj];refine⟨hlt,?_⟩;refine cZ [.p,.q,.q,.q,.q,.q,.q,.p] (by kernel_rfl) ?_;simp only[go_sem];refine jG (aih m' hm' (p.aC.getD t default).id) (by simp only[go_sem]<;>rfl) (b7 rfl) ?_;simp only[go_sem];cases hfi:m'.findIdx? λm=>decide (m.id=(p.aC.getD t default).id) with
   |none =>
    rw[hfi] at hS';simp only at hS';have hidx:idxOf (λn:ax=>decide (n.id=(p.aC.getD t default).id)) m' = -1:=by unfold idxOf;rw[hfi]
    have hneg:decide ((-1:Int)<0)=true:=by decide
    simp only[go_sem,hidx];refine cZ [.p,.p,.p,.p,.p,.q,.q,.p,.q,.q,.q,.p,.p] (by kernel_rfl) ?_;simp only[go_sem,hidx,hneg];subst hS';simp only[go_sem]
   |some i =>
    rw[hfi] at hS';simp only at hS';have hidx:idxOf (λn:ax=>decide (n.id=(p.aC.getD t default).id)) m'=(i:Int):=by unfold idxOf;rw[hfi]
    have ri:i<m'.length:=by rw[findIdx?_eq_some_iff_getElem] at hfi;exact hfi.1
    have hpos:decide ((i:Int)<0)=false:=gf (by omega);simp only[go_sem,hidx];refine cZ [.p,.p,.p,.p,.p,.q,.q,.p,.q,.q,.q,.p,.p] (by kernel_rfl) ?_;simp only[go_sem,hpos,getD_map aj ri,aj];refine⟨ri,ri,?_⟩;refine aW (λhs=>?_) (λhs=>?_)
    ·have hs':ql (m'.getD i default) (p.aC.getD t default)=true:=hs;rw[if_pos hs'] at hS';simp only[go_sem,bw ri (by omega)];have hes:(m'.map aj).take i++(m'.map aj).drop (i+1)=(m'.take i++m'.drop (i+1)).map aj:=by rw[map_append,map_take,map_drop]
     have hd:=aBS (m'.map aj) i (i+1) u' (by omega) (by rw[length_map];omega) (by rw[length_map];omega);rw[hes] at hd;refine wX hd (by simp only[go_sem]<;>rfl) (by simp only[go_sem]<;>rfl) (by simp only[go_sem]<;>rfl) (λh=>by cases h) ?_;generalize hL:m'.take i++m'.drop (i+1)=L' at hS' ⊢;simp only[go_sem,bw hlt (by omega)];exact bO (t+1,L',u'+1) ⟨hlt,hS',by rw[<-hL];simp;omega⟩ (by simp only;omega) bU
    ·have hs':ql (m'.getD i default) (p.aC.getD t default)=false:=hs;rw[if_neg (by rw[hs'];simp)] at hS';subst hS';simp only[go_sem]
  ·have:t=p.aC.length:=by have:=dV hc;omega
   subst this;rw[drop_length,nW] at hS';subst hS';simp only[go_sem]
theorem aDM(p:aF)(l:List ah)(m:List ax)(v u:Nat)(hl:l.length<=1000000)(h1:p.values.length<=1000000)
  (R:Bool×List ah) (hR:lW l p.values=R) :
  aej pw 148 (b8 (stH l v m u)) [.ptr 1000000 0,.p (.agg (aB p))] λa H=>ou a (.p (.val (.bool R.1)))/\abp H (stH R.2 v m u):=by
 refine zl [] Ty.mixed func148 rfl (by kernel_rfl) (by simp[ntmps148]) ?_;rw[ntmps148,results148];simp only[go_sem,aB,stH];refine bM (σ:=Nat×List ah) (λx=>(cE (cE (cE (cE (cE fS 0 (.ptr 1000000 0)) 3 (.ptr 3 0)) 9 (.p (.aU (p.values.map aI)))) 10 (.p (.val (.int .i64 p.values.length)))) 11 (.p (.val (.int .i64 x.1))))) (λx=>(bh (bh (bh (bh cq 3 (.box [.p (.aU (p.au.map ag)),.p (.aU (p.aC.map aj)),.p (.aU (p.aM.map ag)),.p (.aU (p.aK.map aj)),.p (.aU (p.values.map aI)),.p (.val (.int .i64 p.next.x0)),.p (.val (.int .i64 p.next.x1))])) 1000000 (.box [.eP 1000001 v,.row 1000002 u])) 1000001 (.deep v 75 3 2 3 1 (x.2.map ag))) 1000002 (.row u 102 4 (m.map aj))))
  (λx=>x.1<=p.values.length/\lW x.2 (p.values.drop x.1)=R/\x.2.length<=1000000) (λx=>p.values.length-x.1) (0,l) ⟨Nat.zero_le _,hR,hl⟩ bU ?_
 rintro⟨t,l'⟩ ⟨ht,zz,hl'⟩;simp only at ht zz hl';simp only[go_sem];refine aL (λhc=>?_) (λhc=>?_)
 ·have hlt:t<p.values.length:=by have:=ct hc;omega
  have bI:p.values.drop t=p.values.getD t default :: p.values.drop (t+1):=by rw[drop_eq_getElem_cons hlt];simp[hlt]
  rw[bI,lW] at zz;simp only[go_sem,getD_map aI hlt,aI];refine⟨hlt,?_⟩;generalize p.values.getD t default=w at zz ⊢;refine cZ [.p,.q,.q,.q,.q,.q,.q,.p] (by kernel_rfl) ?_;simp only[go_sem];refine jG (adF l' hl' w.id) (by simp only[go_sem]<;>rfl) (b7 rfl) ?_;simp only[go_sem];cases hfi:l'.findIdx? λm=>decide (m.id=w.id) with
  |none =>
   rw[hfi] at zz;simp only at zz;have hidx:idxOf (λn:ah=>decide (n.id=w.id)) l' = -1:=by unfold idxOf;rw[hfi]
   have hneg:decide ((-1:Int)<0)=true:=by decide
   simp only[go_sem,hidx];refine cZ [.p,.p,.p,.q,.q,.p,.p,.p,.q,.q,.p,.p,.q,.q,.p,.q,.q,.q,.q,.p,.p,.p,.p,.p,.q,.q,.p,.q,.q,.q,.q,.q,.q,.q,.q,.q,.p,.p,.p,.q,.q,.q,.q,.p,.p] (by kernel_rfl) ?_;simp only[go_sem,hidx,hneg];subst zz;simp only[go_sem]
  |some i =>
   rw[hfi] at zz;simp only at zz;have hidx:idxOf (λn:ah=>decide (n.id=w.id)) l'=(i:Int):=by unfold idxOf;rw[hfi]
   have ri:i<l'.length:=by rw[findIdx?_eq_some_iff_getElem] at hfi;exact hfi.1
   have hpos:decide ((i:Int)<0)=false:=gf (by omega);simp only[go_sem,hidx];refine cZ [.p,.p,.p,.q,.q,.p,.p,.p,.q,.q,.p,.p,.q,.q,.p,.q,.q,.q,.q,.p,.p,.p,.p,.p,.q,.q,.p,.q,.q,.q,.q,.q,.q,.q,.q,.q,.p,.p,.p,.q,.q,.q,.q,.p,.p] (by kernel_rfl) ?_;simp only[go_sem,hpos,getD_map ag ri,ag];cases ha:decide (w.attr<0)
   ·simp only[go_sem,ha,hpos,getD_map ag ri,ag];refine⟨ri,ri,?_⟩;cases hb:decide (((l'.getD i default).values.length:Int)<=w.attr)
    ·have hk0:0<=w.attr:=by have:=dV ha;omega
     have hk1:w.attr<(l'.getD i default).values.length:=by have:=dV hb;omega
     have hk:w.attr.toNat<(l'.getD i default).values.length:=by omega
     simp only[go_sem,hb,getD_map encI hk,encI,hpos,getD_map ag ri,ag];refine⟨ri,ri,⟨hk0,hk1⟩,hk,?_⟩;cases hcv:decide ((l'.getD i default).values.getD w.attr.toNat default=w.old)
     ·have hov:okV (l'.getD i default).values w=false:=by unfold okV;rw[ha,hb,hcv];rfl
      rw[if_neg (by rw[hov];simp)] at zz;subst zz;simp only[go_sem,hcv,hpos,getD_map ag ri,ag]
     ·simp only[go_sem,hcv,hpos,getD_map ag ri,ag];refine aL (λhd=>?_) (λhd=>?_)
      ·have hov:okV (l'.getD i default).values w=false:=by unfold okV;rw[ha,hb,hcv,hd];rfl
       rw[if_neg (by rw[hov];simp)] at zz;subst zz;simp only[go_sem,hpos,getD_map ag ri,ag]
      ·have hov:okV (l'.getD i default).values w=true:=by unfold okV;rw[ha,hb,hcv,hd];rfl
       rw[if_pos hov] at zz;simp only[go_sem,hpos,getD_map ag ri,ag];refine cZ [.p,.p,.q,.q,.p,.q,.q,.q,.q,.q,.q,.q,.q,.t] (by kernel_rfl) ?_;simp only[go_sem,hpos,getD_map ag ri,ag];refine⟨ri,ri,⟨⟨hk0,hk1⟩,by rw[getD_map encI hk];rfl⟩,?_⟩;have hst:(l'.map ag).set i ((ag (l'.getD i default)).set 2 (.aU (((l'.getD i default).values.map encI).set w.attr.toNat [.val (.int .i64 w.new)])))=(l'.set i { l'.getD i default with values:=(l'.getD i default).values.set w.attr.toNat w.new }).map ag:=by rw[map_set];congr 1;show _=[_,_,PV.aU (((l'.getD i default).values.set w.attr.toNat w.new).map encI)];rw[map_set];rfl
       refine afZ 3 _ _ 1000001 v i w.attr.toNat 75 3 2 3 (l'.map ag) (ag (l'.getD i default)) ((l'.getD i default).values.map encI) (.val (.int .i64 w.new)) rfl (by simp only[go_sem,hpos,getD_map ag ri,ag]) (by simp only[go_sem,hpos,getD_map ag ri,ag]) (by simp only[go_sem,hpos,getD_map ag ri,ag]) ⟨rfl,rfl⟩ (by simp only[go_sem,hpos,getD_map ag ri,ag]<;>rfl) (by simp[ri]) rfl (by simpa using hk) ?_;rw[hst];simp only[go_sem,bw hlt (by omega),hpos,getD_map ag ri,ag];exact bO (t+1,_) ⟨hlt,zz,by simpa using hl'⟩ (by simp only;omega) bU
    ·have hov:okV (l'.getD i default).values w=false:=by unfold okV;rw[ha,hb];rfl
     rw[if_neg (by rw[hov];simp)] at zz;subst zz;simp only[go_sem,hb,hpos,getD_map ag ri,ag]
   ·have hov:okV (l'.getD i default).values w=false:=by unfold okV;rw[ha];rfl
    rw[if_neg (by rw[hov];simp)] at zz;subst zz;simp only[go_sem,ha,hpos,getD_map ag ri,ag]
 ·have:t=p.values.length:=by have:=dV hc;omega
  subst this;rw[drop_length,lW] at zz;subst zz;simp only[go_sem]
end Go.Proofs.YtjhkgjlmiolfoaaGreat
namespace Go.cv
open Go.RowKit
variable{P:Program}{N:Nat}{own:List Nat}{ops:Array Oper}{K:Env->aA->Prop}{env:Env}{H:aA}
def wv:List (Nat×Nat×AV)->(Nat->Bool)->Env->Env
 | [],_,env=>env
 |(i,s,a) :: r,f,env=>λt=>if t=s then (if f i=true then a else env t) else wv r f env t
def nj(f:Nat->Bool)(j:Nat):Nat->Bool:=λi=>if i=j then true else f i
def azj(j:Nat)(vs:List (Nat×Nat×AV)):Prop:=∀x∈vs,x.1≠j
theorem abz{f:Nat->Bool}{j:Nat} : ∀ {vs:List (Nat×Nat×AV)},azj j vs->wv vs (nj f j) env=wv vs f env
 | [],_=>rfl
 |(i,s,a) :: r,h=>by
  have h1:i≠j:=h (i,s,a) mem_cons_self;have h2:=abz (f:=f) (vs:=r) λx hx=>h x (mem_cons_of_mem _ hx)
  funext t;simp only[wv,nj,if_neg h1,h2]
theorem aim{f:Nat->Bool}{j s:Nat}{v:AV} : ∀ {vs:List (Nat×Nat×AV)},(vs.map (·.1)).Nodup->(vs.map (·.2.1)).Nodup->(j,s,v)∈vs->wv vs (nj f j) env=cE (wv vs f env) s v
 | [],_,_,h=>by cases h
 |(i,s',a) :: r,h1,h2,h=>by
  rw[map_cons,nodup_cons] at h1 h2;rcases mem_cons.1 h with e|e
  ·simp only[iL] at e;obtain⟨rfl,rfl,rfl⟩:=e;have h3:wv r (nj f j) env=wv r f env:=abz λx hx e=>h1.1 (mem_map.2 ⟨x,hx,e⟩)
   funext t;simp only[wv,cE,h3];by_cases ht:t=s
   ·simp[ht,nj]
   ·simp[ht]
  ·have hne:i≠j:=λe2=>h1.1 (mem_map.2 ⟨_,e,e2.symm⟩)
   have hns:s'≠s:=λe2=>h2.1 (mem_map.2 ⟨_,e,e2.symm⟩)
   have h3:=aim (f:=f) h1.2 h2.2 e;funext t;simp only[wv,cE,h3];by_cases ht:t=s'
   ·subst ht;rw[if_pos rfl,if_pos rfl,if_neg hns];simp[nj,hne]
   ·rw[if_neg ht,if_neg ht]
def agf(f:Nat->Bool):List Edge->Prop
 | []=>True
 |e :: r=>(Region.binds .any e=true->f e.on=true)/\agf f r
theorem agh{f:Nat->Bool} : ∀ {l:List Edge},(∀e∈l,Region.binds .any e=true->f e.on=true)->agf f l
 | [],_=>trivial
 |e :: r,h=>⟨h e mem_cons_self,agh λx hx=>h x (mem_cons_of_mem _ hx)⟩
def aCK(P:Program)(own:List Nat)(ops:Array Oper)(vs:List (Nat×Nat×AV))(Hf:(Nat->Bool)->aA)(env:Env)(j:Nat)(o:Oper):Prop :=
 ∀f:Nat->Bool,f j=false->agf f o.after.toList->(∀i q,ops[i]? = some q->f i=true->agf f q.after.toList)->lE ops o (wv vs f env)=some true/\∃pre v,gj P own o (ev (wv vs f env)) (Hf f)=some (pre,v,Hf (nj f j))/\pre /\
  (match o.dst with
  |some s=>(j,s,v)∈vs
  |none=>azj j vs)
def aqd(P:Program)(own:List Nat)(ops:Array Oper)(vs:List (Nat×Nat×AV))(Hf:(Nat->Bool)->aA)(env:Env):Nat->List Oper->Prop
 |_,[]=>True
 |j,o :: r=>aCK P own ops vs Hf env j o/\aqd P own ops vs Hf env (j+1) r
theorem ain{vs:List (Nat×Nat×AV)}{Hf:(Nat->Bool)->aA} : ∀ {l:List Oper} {k i:Nat} {o:Oper},aqd P own ops vs Hf env k l->l[i]? = some o->aCK P own ops vs Hf env (k+i) o
 | [],_,_,_,_,h=>by simp at h
 |x :: r,k,0,o,h,ho=>by simp only[getElem?_cons_zero,cA] at ho;subst ho;exact h.1
 |x :: r,k,i+1,o,h,ho=>by have:=ain (i:=i) h.2 (by simpa using ho);rwa [Nat.add_assoc,Nat.add_comm 1 i] at this
def azk(own:List Nat)(ops:Array Oper)(N:Nat):Bool:=((range ops.size).all λj=>match ops[j]? with
 |some o=>o.after.toList.all (λe=>!Region.binds .any e||decide (e.on<j)) && !qc own ops o
 |none=>true)&&afC N ops
theorem aio:∀ (vs:List (Nat×Nat×AV)),wv vs (λ_=>false) env=env
 | []=>rfl
 |(i,s,a) :: r=>by funext t;simp only[wv,aio r];split<;>simp
def dn(listed:Array Bool):Nat->Bool:=λi=>listed.getD i false
theorem agi{listed:Array Bool}{j:Nat}(hj:j<listed.size):listed.getD j true=dn listed j:=by unfold dn;simp[hj]
theorem azl{listed:Array Bool}{j:Nat}(hj:j<listed.size):dn (listed.setIfInBounds j true)=nj (dn listed) j:=by
 funext i;unfold dn nj;simp only[Array.getD_eq_getD_getElem?,Array.getElem?_setIfInBounds];by_cases h:j=i
 ·subst h;simp[hj]
 ·rw[if_neg h,if_neg λe=>h e.symm]
def left(n:Nat)(f:Nat->Bool):Nat:=(range n).countP λi=>!f i
theorem auQ{n:Nat}{f:Nat->Bool}(h:left n f=0)(i:Nat)(hi:i<n):f i=true:=by unfold left at h;rw[countP_eq_zero] at h;have:=h i (mem_range.2 hi);simpa using this
theorem aip{f:Nat->Bool}{j:Nat}(hf:f j=false):∀n,j<n->left n (nj f j)+1=left n f
 |0,h=>by omega
 |n+1,h=>by
  unfold left;rw[range_succ,countP_append,countP_append];rcases Nat.lt_succ_iff_lt_or_eq.1 h with h1|h1
  ·have:=aip hf n h1;unfold left at this;have e:nj f j n=f n:=by unfold nj;rw[if_neg (by omega)]
   simp only[countP_cons,countP_nil,e];omega
  ·subst h1;have e:(range j).countP (λi=>!nj f j i)=(range j).countP λi=>!f i:=by apply countP_congr;intro x hx;have:=mem_range.1 hx;unfold nj;rw[if_neg (by omega)]
   rw[e];simp[nj,hf]
theorem auR{l:List Oper}(vs:List (Nat×Nat×AV))(Hf:(Nat->Bool)->aA)(hok:azk own l.toArray N=true)(h1:(vs.map (·.1)).Nodup)(h2:(vs.map (·.2.1)).Nodup)(hH:Hf (λ_=>false)=H)
  (hs:aqd P own l.toArray vs Hf env 0 l) (hK:K (wv vs (λi=>decide (i<l.length)) env) (Hf λi=>decide (i<l.length))):vI P N own l.toArray K env H:=by
 unfold azk at hok;rw[Bool.and_eq_true] at hok;obtain⟨hok,hd⟩:=hok;have hsize:l.toArray.size=l.length:=by simp
 have hop:∀ (j:Nat) (o:Oper),l.toArray[j]? = some o->(∀e∈o.after,Region.binds .any e=true->e.on<j)/\qc own l.toArray o=false:=λj o ho=>by
  have hj:j<l.toArray.size:=(Array.getElem?_eq_some_iff.1 ho).1;have:=all_eq_true.1 hok j (mem_range.2 hj);rw[ho] at this;simp only[Bool.and_eq_true,Bool.not_eq_true',all_eq_true,Bool.or_eq_true,decide_eq_true_eq] at this;refine⟨λe he hb=>?_,this.2⟩;rcases this.1 e (by simpa using he) with h|h
  ·rw[hb] at h;cases h
  ·exact h
 have hend:∀listed:Array Bool,rQ l.toArray listed->Region.ready .any l.toArray listed=[]->∀i,i<l.length->dn listed i=true:=λlisted hcl hr=>by
  intro i
  induction i using Nat.strongRecOn with
  |_ i ih =>
   intro hi;cases hv:dn listed i with
   |true=>rfl
   |false =>
    exfalso;have ho:l.toArray[i]? = some l[i]:=by simp[hi]
    have:i∈Region.ready .any l.toArray listed:=mem_ready.2 ⟨by rw[agi (by rw[hcl.1,hsize];exact hi)];exact hv,l[i],ho,λe he hb=>ih e.on ((hop i _ ho).1 e he hb) (Nat.lt_trans ((hop i _ ho).1 e he hb) hi)⟩;rw[hr] at this;cases this
 have aFp:∀listed:Array Bool,rQ l.toArray listed->(∀i,i<l.length->dn listed i=true)->K (wv vs (dn listed) env) (Hf (dn listed)):=λlisted hcl hall=>by
  have e:dn listed=λi=>decide (i<l.length):=by
   funext i;by_cases hi:i<l.length
   ·rw[hall i hi,dB hi]
   ·rw[gf hi];have hsz:=hcl.1;unfold dn;rw[Array.getD_eq_getD_getElem?,Array.getElem?_eq_none (by rw[hsz,hsize];omega)];rfl
  rw[e];exact hK
 have main:∀ (fuel:Nat) (listed:Array Bool),rQ l.toArray listed->left l.length (dn listed)<=fuel->ale P own l.toArray (λ_=>false) K fuel listed (wv vs (dn listed) env) (Hf (dn listed)):=by
  intro fuel
  induction fuel with
  |zero =>
   intro listed hcl hle;have hall:∀i,i<l.length->dn listed i=true:=auQ (by omega);refine⟨?_,aFp listed hcl hall⟩;apply eq_nil_iff_forall_not_mem.2;intro i hi;obtain⟨hun,o,ho,_⟩:=mem_ready.1 hi;have ri:i<l.length:=by have:=(Array.getElem?_eq_some_iff.1 ho).1;rwa [hsize] at this
   rw[agi (by rw[hcl.1,hsize];exact ri),hall i ri] at hun;cases hun
  |succ fuel ih =>
   intro listed hcl hle;refine⟨λhr=>aFp listed hcl (hend listed hcl hr),λj hj=>?_⟩;obtain⟨hun,o,ho,aJb⟩:=mem_ready.1 hj;have hjl:j<l.length:=by have:=(Array.getElem?_eq_some_iff.1 ho).1;rwa [hsize] at this
   have hjs:j<listed.size:=by rw[hcl.1,hsize];exact hjl
   have aFq:dn listed j=false:=by rw[<-agi hjs];exact hun
   have hst:=ain (i:=j) hs (by simpa using ho);rw[Nat.zero_add] at hst;obtain⟨hg,pre,v,hx,hp,hv⟩:=hst (dn listed) aFq (agh λe he hb=>aJb e (by simpa using he) hb) (λi q hq hf=>agh λe he hb=>hcl.2 i q hq hf e (by simpa using he) hb);have axR:=ih _ (hcl.set hj) (by have:=aip aFq l.length hjl;rw[azl hjs];omega);rw[azl hjs] at axR;have hput:wv vs (nj (dn listed) j) env=cL (wv vs (dn listed) env) o.dst v:=by
    cases aFr:o.dst with
    |none=>rw[aFr] at hv;exact abz hv
    |some s=>rw[aFr] at hv;exact aim h1 h2 hv
   rw[hput] at axR;unfold cv.aOp;rw[ho];exact .inr ⟨hg,.inl ⟨ajx (λh=>by rw[(hop j o ho).2] at h;cases h),.w,v,_,⟨pre,hx,hp⟩,axR⟩⟩
 intro C I L tm w hN aJc;have aC3:∀i b,i<l.toArray.size->(Array.replicate l.toArray.size false).getD i b=false:=λi b h=>by rw[Array.getD_eq_getD_getElem?,Array.getElem?_replicate,if_pos h];rfl
 have hd0:dn (Array.replicate l.toArray.size false)=λ_=>false:=by
  funext i;unfold dn;rcases Nat.lt_or_ge i l.toArray.size with h|h
  ·exact aC3 i false h
  ·rw[Array.getD_eq_getD_getElem?,Array.getElem?_replicate,if_neg (by omega)];rfl
 have hcl:rQ l.toArray (Array.replicate l.toArray.size false):=⟨Array.size_replicate,λj o hj hl=>by
  have h:=congrFun hd0 j;unfold dn at h;rw[h] at hl;cases hl⟩
 have adq:=main l.toArray.size _ hcl (by rw[hd0,hsize];unfold left;exact Nat.le_trans countP_le_length (by simp));rw[hd0,aio,hH] at adq;have hs':gQ C env H I L tm { w with drawn:=w.drawn+1 }:=(Fr.drew C I L H w) env tm aJc;exact rP (by rw[hN];exact ze hd) (λenv' H' I' L' tm' w' hk aDj=>⟨rfl,rfl,env',H',I',L',hk,aDj⟩) l.toArray.size _ env H I L tm _ adq hs'
end Go.cv
namespace Go.Proofs.YtjhkgjlmiolfoaaGreat
open Go.cv
def stF(l:List ah)(v:Nat)(m:List ax)(u:Nat):List (Nat×Chunk):=[(1000000,.box [.row 1000001 v,.row 1000002 u]),(1000001,.row v 75 3 (l.map ag)),(1000002,.row u 102 4 (m.map aj))]
theorem adH(H:aA)(d:Nat)(c c':Chunk):bh (bh H d c) d c'=bh H d c':=by funext i;simp only[bh];split<;>rfl
theorem azm(p:aF)(l:List ah)(m:List ax)(v u:Nat)(hl:l.length<=1000)(hm:m.length<=1000)(h1:p.aM.length<=1000)(h2:p.aK.length<=1000)
  (hN:gm l m p=false->aii ah.id (l++p.aM)) (hE:gm l m p=false->aii ax.id (m++p.aK)) (b:Bool) (hb:gm l m p=b) :
  aej pw 149 (b8 (stF l v m u)) [.ptr 1000000 0,.p (.agg (aB p))] λa H=>ou a (.p (.val (.bool (!b))))/\abp H (if b then stF l v m u else stF (kF (l++p.aM)) (v+1) (mR (m++p.aK)) (u+1)):=by
 have hc1:=zp (λn=>j6 l m n.id) p.aM (by omega) 251 [] [.ee [.ee [.aU (l.map ag),.aU (m.map aj)] 0] 0] (λx _=>aB3 x l m (by omega) (by omega));have zk:=zu (λn=>j6 l m n.id) p.aK (by omega) 253 [] [.ee [.ee [.aU (l.map ag),.aU (m.map aj)] 0] 0] (λx _=>aB4 x l m (by omega) (by omega));unfold gm at hb hN hE;refine zl [] Ty.mixed func149 rfl (by kernel_rfl) (by simp[ntmps149]) ?_;rw[ntmps149,results149];simp only[go_sem,aB,stF];refine aX (hc1) (by simp only[go_sem]<;>rfl) (b7 rfl) ?_;simp only[go_sem];refine bQ (λhx=>?_) (λhx=>?_)
 ·have hbt:b=true:=by rw[<-hb,hx];rfl
  subst hbt;simp only[go_sem,hx,aB,stF]
 simp only[go_sem,hx];refine aX (zk) (by simp only[go_sem]<;>rfl) (b7 rfl) ?_;simp only[go_sem,hx];refine aL (λhy=>?_) (λhy=>?_)
 ·have hbt:b=true:=by rw[<-hb,hx,hy];rfl
  subst hbt;simp only[go_sem,hx,hy,stF]
 have hbf:b=false:=by rw[<-hb,hx,hy];rfl
 subst hbf;have hN':=hN (by rw[hx,hy];rfl);have hE':=hE (by rw[hx,hy];rfl);simp only[go_sem];refine auR [(0,15,.ptr 1000000 0),(1,16,.ptr 1000000 0),(2,17,.ptr 1000000 0),(3,18,.ptr 1000000 0),(4,19,.ptr 1000000 0),(5,20,.row 1000001 v),(6,21,.ptr 3 2),(7,22,.p (.aU (p.aM.map ag))),(8,23,.row 1000001 (v+1)),(9,24,.ptr 1000000 0),(10,25,.ptr 1000000 0),(11,26,.ptr 1000000 1),(12,27,.row 1000002 u),(13,28,.ptr 3 3),(14,29,.p (.aU (p.aK.map aj))),(15,30,.row 1000002 (u+1)),(16,31,.ptr 1000000 0),(17,32,.ptr 1000000 0),(19,33,.ptr 1000000 0),(20,34,.ptr 1000000 1)]
  (λf=>bh (bh (bh (bh (bh cq 1000002 (if f 15=true then .row (u+1) 102 4 ((m++p.aK).map aj) else .row u 102 4 (m.map aj)))
   1000001 (if f 8=true then .row (v+1) 75 3 ((l++p.aM).map ag) else .row v 75 3 (l.map ag)))
   1000000 (.box [if f 18=true then .row 1000001 (v+1) else .row 1000001 v,if f 21=true then .row 1000002 (u+1) else .row 1000002 u])) 2 (.box [.ptr 1000000 0])) 3 (.box [.p (.aU (p.au.map ag)),.p (.aU (p.aC.map aj)),.p (.aU (p.aM.map ag)),.p (.aU (p.aK.map aj)),.p (.aU (p.values.map aI)),.p (.val (.int .i64 p.next.x0)),.p (.val (.int .i64 p.next.x1))])) (by kernel_rfl) (by simp) (by simp) ?_ ?_ ?_
 ·rfl
 ·refine⟨?_,?_,?_,?_,?_,?_,?_,?_,?_,?_,?_,?_,?_,?_,?_,?_,?_,?_,?_,?_,?_,?_,trivial⟩;all_goals
   intro f hf hd hcl;simp[agf,Region.binds] at hd;have e5:f 5=false->f 18=false:=λh=>by
    cases hx:f 18 with
    |false=>rfl
    |true=>have:=hcl 18 _ rfl hx;simp[agf,Region.binds,h] at this
   have yE:f 12=false->f 21=false:=λh=>by
    cases hx:f 21 with
    |false=>rfl
    |true=>have:=hcl 21 _ rfl hx;simp[agf,Region.binds,h] at this
   try simp only[go_sem,wv,hd,hf]
   first
    |exact⟨_,_,rfl,trivial,by simp<;>first|exact e5 hf|exact yE hf⟩
    |skip
  ·refine⟨_,_,Prod.ext rfl (Prod.ext rfl ?_),⟨by omega,λx hx=>?_⟩,by simp⟩
   ·rw[kP _ _ _ (show (3:Nat)≠1000001 by decide),kP _ _ _ (show (2:Nat)≠1000001 by decide),kP _ _ _ (show (1000000:Nat)≠1000001 by decide),adH];rfl
   ·obtain⟨y,_,rfl⟩:=mem_map.1 hx;rfl
  ·refine⟨_,_,Prod.ext rfl (Prod.ext rfl ?_),⟨by omega,λx hx=>?_⟩,by simp⟩
   ·rw[kP _ _ _ (show (3:Nat)≠1000002 by decide),kP _ _ _ (show (2:Nat)≠1000002 by decide),kP _ _ _ (show (1000000:Nat)≠1000002 by decide),kP _ _ _ (show (1000001:Nat)≠1000002 by decide),adH];simp[nj,hd]
   ·obtain⟨y,_,rfl⟩:=mem_map.1 hx;rfl
  all_goals try (refine⟨_,_,Prod.ext rfl (Prod.ext rfl ?_),trivial,by simp⟩;simp[nj,hd];done)
  all_goals
   refine⟨_,_,Prod.ext rfl (Prod.ext rfl ?_),trivial,by simp[azj]⟩;rw[kP _ _ _ (show (3:Nat)≠1000000 by decide),kP _ _ _ (show (2:Nat)≠1000000 by decide),adH];simp[nj,hd,hf]
 ·simp only[go_sem,wv,length_cons,length_nil];have hs1:=aj6 (l++p.aM) (by simp;omega) hN' (v+1);have hs2:=aj7 (m++p.aK) (by simp;omega) hE' (u+1);refine acg (hs1) (by simp only[go_sem]<;>rfl) (by simp only[go_sem]<;>rfl) (by simp only[go_sem]<;>rfl) (λh=>by cases h) ?_;simp only[go_sem];refine acg (hs2) (by simp only[go_sem]<;>rfl) (by simp only[go_sem]<;>rfl) (by simp only[go_sem]<;>rfl) (λh=>by cases h) ?_;simp only[go_sem,kF,mR]
theorem adI(a0:Types)(a1:az)(a2:aF)(r:az×Int)(h:kA a0 a1 a2=some r):aS pw 86 [.agg [.aU (a0.nodes.map aJ),.aU (a0.ak.map aP)],.agg (aD a1),.agg (aB a2)] (λv=>v = .dW [.agg (aD r.1),.val (.int .i64 r.2)]):=by
 unfold kA at h;refine aS.oa ?_;refine aR [] func86 ntmps86 results86 ?_;simp only[go_sem,aB,aD];obtain⟨e,he,h⟩:=ot h;refine al9 (adG a2 e he) (by simp only[go_sem,aB,aD]<;>rfl) (iA _) (λh=>by cases h) ?_;simp only[go_sem,aB,aD];refine aW (λhc=>?_) (λhc=>?_)
 ·rw[hc,Bool.not_true,cond_false] at h;obtain⟨_,hg,h⟩:=ot h;obtain⟨⟨g1,g2,g3,g4,g5,g6,g7,g8,g9,g10⟩,_⟩:=qg hg;obtain⟨es,hes,h⟩:=ot h;obtain⟨_,hg,h⟩:=ot h;obtain⟨g11,_⟩:=qg hg;simp only[go_sem,aB,aD];refine ajE [(0,.q),(2,.q),(1,.f),(3,.f),(4,.p),(5,.w),(6,.s)] (by kernel_rfl) ?_;simp only[go_sem,aB,aD];refine aeZ 1304 (ay3 a1 g1 g2 (by omega) g4) (by simp only[go_sem,aB,aD]<;>rfl) (iA _) vM (by simp only[go_sem,aB,aD]) (by simp only[go_sem,aB,aD]) ?_;simp only[go_sem,aB,aD];refine aeZ 1336 (aeM a1 es hes) (by simp only[go_sem,aB,aD]<;>rfl) (iA _) vM (by simp only[go_sem,aB,aD]) (by simp only[go_sem,aB,aD]) ?_;simp only[go_sem,aB,aD]
  first|refine⟨⟨by decide,by decide⟩,?_⟩|refine⟨by decide,?_⟩
  cases hn:decide (a2.next.x0=a1.next)
  ·rw[hn,Bool.not_false,cond_true] at h;cases h;simp only[go_sem,hn,lu,aB,aD];all_goals(and_intros)<;>rfl
  rw[hn,Bool.not_true,cond_false] at h;simp only[go_sem,hn,aB,aD];generalize hR:lV (bD a1) a2.au 0=R at h;generalize hS:nW es a2.aC 0=S at h;have hln:(bD a1).length<=1000:=by simp[bD];exact g3
  have hvn:∀n∈bD a1,n.values.length<=1000000:=λn hn=>by
   obtain⟨i,hi,rfl⟩:=mem_map.1 hn;have hi:i<a1.nodes.length:=by simpa using hi
   refine g4 _ ?_;have:i<a1.host.values.length:=by omega
   simp[cK,this]
  have hrm:=auP a2 (bD a1) es 0 0 (by omega) (by omega) hvn (by omega) (by omega) g10 R hR S hS;refine .inr (.inr (.inr (kR 9 1000000 (by decide) (by simp only[go_sem,aB,aD]) (kR 1304 1000001 (by decide) (by simp only[go_sem,aB,aD]) (kR 1336 1000002 (by decide) (by simp only[go_sem,aB,aD]) (acq hrm (by simp only[go_sem,aB,aD]<;>rfl) (by simp only[go_sem,stH,aB,aD]<;>rfl) ?_ ?_ ?_ ?_ ?_ ?_ ?_))))))
  ·simp only[go_sem,stH,aB,aD]
  ·simp only[go_sem,stH,aB,aD]
  ·simp only[go_sem,stH,aB,aD]
  ·simp only[go_sem,stH,aB,aD]
  ·simp only[go_sem,stH,aB,aD]
  ·simp only[go_sem,stH,aB,aD]
  simp only[go_sem,stH,aB,aD];cases hb1:(R.1&&S.1)
  ·rw[hb1,Bool.not_false,cond_true] at h;cases h;simp only[go_sem,hb1,lu,aB,aD];all_goals(and_intros)<;>rfl
  rw[hb1,Bool.not_true,cond_false] at h;obtain⟨hr1,hs1⟩:=Bool.and_eq_true_iff.1 hb1;obtain⟨_,hg,h⟩:=ot h;obtain⟨⟨g12,g13⟩,_⟩:=qg hg;simp only[go_sem,hb1,hr1,aB,aD];generalize hV:lW R.2.1 a2.values=V at h;have hst:=aDM a2 R.2.1 S.2.1 R.2.2 S.2.2 (by omega) (by omega) V hV;refine uu (ta:=p4 [(3,.ptr 3 0),(5,.ptr 5 0),(6,.ptr 6 0),(7,.p (.val (.int .i64 0))),(9,.ptr 9 0),(34,.p (.val (.bool false))),(35,.p (.agg (aB a2)))]) (H2:=b8 [(3,.box [.p (.aU (a0.nodes.map aJ)),.p (.aU (a0.ak.map aP))]),(5,.box [.p (.aU (a2.au.map ag)),.p (.aU (a2.aC.map aj)),.p (.aU (a2.aM.map ag)),.p (.aU (a2.aK.map aj)),.p (.aU (a2.values.map aI)),.p (.val (.int .i64 a2.next.x0)),.p (.val (.int .i64 a2.next.x1))]),(6,.box [.p (.val (.slice none 0 0)),.p (.val (.slice none 0 0)),.p (.val (.slice none 0 0)),.p (.val (.slice none 0 0)),.p (.val (.slice none 0 0)),.p (.val (.int .i64 0))]),(9,.box [.eP 1304 R.2.2,.row 1336 S.2.2]),(1304,.deep R.2.2 75 3 2 3 1 (R.2.1.map ag)),(1336,.row S.2.2 102 4 (S.2.1.map aj))]) (yA (by simp only[go_sem,hb1,hr1,aB,aD]<;>(first|exact keepTop (by repeat (first|exact aBU _|refine acA (by decide) ?_|refine ae0 (by decide) (by decide) ?_)) (by simp only[go_sem,aB,aD]) (by simp only[go_sem,aB,aD]) (by simp only[go_sem,aB,aD])|skip))) (.inr (.inr (kR 9 1000000 (by decide) (by simp only[go_sem,aB,aD]) (kR 1304 1000001 (by decide) (by simp only[go_sem,aB,aD]) (kR 1336 1000002 (by decide) (by simp only[go_sem,aB,aD]) (acq hst (by simp only[go_sem,aB,aD]<;>rfl) (by simp only[go_sem,stH,aB,aD]<;>rfl) ?_ ?_ ?_ ?_ ?_ ?_ ?_))))))
  ·simp only[go_sem,stH,aB,aD]
  ·simp only[go_sem,stH,aB,aD]
  ·simp only[go_sem,stH,aB,aD]
  ·simp only[go_sem,stH,aB,aD]
  ·simp only[go_sem,stH,aB,aD]
  ·simp only[go_sem,stH,aB,aD]
  simp only[go_sem,stH,aB,aD];cases hb2:V.1
  ·rw[hb2,Bool.not_false,cond_true] at h;cases h;simp only[go_sem,hb2,lu,aB,aD];all_goals(and_intros)<;>rfl
  rw[hb2,Bool.not_true,cond_false] at h;obtain⟨_,hg,h⟩:=ot h;obtain⟨⟨g14,g15⟩,_⟩:=qg hg;simp only[go_sem,hb2,aB,aD];cases hb3:gm V.2 S.2.1 a2
  ·rw[hb3,cond_false] at h;obtain⟨q1,q2⟩:=g15 hb3;have anC:=azm a2 V.2 S.2.1 R.2.2 S.2.2 (by omega) (by omega) (by omega) (by omega) (λ_=>q1) (λ_=>q2) false hb3;simp only[Bool.false_eq_true,if_false,Bool.not_false] at anC;refine uu (ta:=aq6 1304 (p4 [(3,.ptr 3 0),(5,.ptr 5 0),(6,.ptr 6 0),(7,.p (.val (.int .i64 0))),(9,.ptr 9 0),(39,.p (.val (.bool false))),(40,.p (.agg (aB a2)))])) (H2:=aaS 1304 (b8 [(3,.box [.p (.aU (a0.nodes.map aJ)),.p (.aU (a0.ak.map aP))]),(5,.box [.p (.aU (a2.au.map ag)),.p (.aU (a2.aC.map aj)),.p (.aU (a2.aM.map ag)),.p (.aU (a2.aK.map aj)),.p (.aU (a2.values.map aI)),.p (.val (.int .i64 a2.next.x0)),.p (.val (.int .i64 a2.next.x1))]),(6,.box [.p (.val (.slice none 0 0)),.p (.val (.slice none 0 0)),.p (.val (.slice none 0 0)),.p (.val (.slice none 0 0)),.p (.val (.slice none 0 0)),.p (.val (.int .i64 0))]),(9,.box [.eP 1304 R.2.2,.row 1336 S.2.2]),(1304,.deep R.2.2 75 3 2 3 1 (V.2.map ag)),(1336,.row S.2.2 102 4 (S.2.1.map aj))])) (dx.trans (yA (by simp only[go_sem,hb1,hr1,hb2,aB,aD]<;>(first|exact keepTop (by repeat (first|exact aBU _|refine acA (by decide) ?_|refine ae0 (by decide) (by decide) ?_)) (by simp only[go_sem,aB,aD]) (by simp only[go_sem,aB,aD]) (by simp only[go_sem,aB,aD])|skip))) (ku 1304 R.2.2 75 3 2 3 1 (V.2.map ag) (by decide) (by simp only[go_sem,aB,aD]))) (.inr (.inr (kR 9 1000000 (by decide) (by simp only[go_sem,aB,aD]) (kR 1304 1000001 (by decide) (by simp only[go_sem,aB,aD]) (kR 1336 1000002 (by decide) (by simp only[go_sem,aB,aD]) (acq anC (by simp only[go_sem,aB,aD]<;>rfl) (by simp only[go_sem,stF,aB,aD]<;>rfl) ?_ ?_ ?_ ?_ ?_ ?_ ?_))))))
   ·simp only[go_sem,stF,aB,aD]
   ·simp only[go_sem,stF,aB,aD]
   ·simp only[go_sem,stF,aB,aD]
   ·simp only[go_sem,stF,aB,aD]
   ·simp only[go_sem,stF,aB,aD]
   ·simp only[go_sem,stF,aB,aD]
   simp only[go_sem,stF,aB,aD];obtain⟨x,hx,h⟩:=ot h;generalize kF (V.2++a2.aM)=sn at hx ⊢;generalize mR (S.2.1++a2.aK)=se at hx ⊢
   first|refine⟨⟨by decide,by decide⟩,?_⟩|refine⟨by decide,?_⟩
   have hT:=(show aS _ _ _ (λv=>v = .dW [.agg (aD x.1),.val (.bool x.2)]) from (acD sn se a2.next.x1 x hx).anJ);refine uu (dx.trans (yA (l:=[(3,.ptr 3 0),(6,.ptr 6 0),(7,.p (.val (.int .i64 0))),(47,.row 1304 (R.2.2+1)),(49,.row 1336 (S.2.2+1)),(52,.p (.val (.int .i64 a2.next.x1)))]) (hl:=[(3,.box [.p (.aU (a0.nodes.map aJ)),.p (.aU (a0.ak.map aP))]),(6,.box [.p (.val (.slice none 0 0)),.p (.val (.slice none 0 0)),.p (.val (.slice none 0 0)),.p (.val (.slice none 0 0)),.p (.val (.slice none 0 0)),.p (.val (.int .i64 0))]),(1304,.row (R.2.2+1) 75 3 (sn.map ag)),(1336,.row (S.2.2+1) 102 4 (se.map aj))]) (by simp only[go_sem,hb1,hr1,hb2,aB,aD]<;>(first|exact keepTop (by repeat (first|exact aBU _|refine acA (by decide) ?_|refine ae0 (by decide) (by decide) ?_|refine ay7 (by decide) ?_)) (by simp only[go_sem,aB,aD]) (by simp only[go_sem,aB,aD]) (by simp only[go_sem,aB,aD])|skip))) (dx.trans (ahV 1304 (R.2.2+1) 75 3 (sn.map ag) [47] (by simp only[go_sem,aB,aD]<;>rfl) (by simp only[go_sem,aB,aD]<;>and_intros<;>rfl) (by decide)) (ahV 1336 (S.2.2+1) 102 4 (se.map aj) [49] (by simp only[go_sem,aB,aD]<;>rfl) (by simp only[go_sem,aB,aD]<;>and_intros<;>rfl) (by decide)))) (.inl (.inl ⟨[],xQ (acf hT (by simp only[go_sem,aB,aD]<;>rfl) (by first|exact wW|exact b7 rfl)) ?_⟩));simp only[go_sem,aB,aD];cases hx2:x.2
   ·rw[hx2,Bool.not_false,cond_true] at h;cases h;simp only[go_sem,hx2,lu,aB,aD];all_goals(and_intros)<;>rfl
   rw[hx2,Bool.not_true,cond_false] at h;obtain⟨e2,he2,h⟩:=ot h;simp only[go_sem,hx2,aB,aD];refine al9 (yD a0 x.1 e2 he2) (by simp only[go_sem,aB,aD]<;>rfl) (iA _) (by first|exact wW|exact b7 rfl) ?_;simp only[go_sem,aB,aD];refine aW (λhv=>?_) (λhv=>?_)
   ·rw[hv,Bool.not_true,cond_false] at h;cases h;simp only[go_sem,aB,aD];all_goals(and_intros)<;>rfl
   ·rw[hv,Bool.not_false,cond_true] at h;cases h;simp only[go_sem,lu,aB,aD];all_goals(and_intros)<;>rfl
  ·rw[hb3,cond_true] at h;have anC:=azm a2 V.2 S.2.1 R.2.2 S.2.2 (by omega) (by omega) (by omega) (by omega) (λh=>by rw[hb3] at h;cases h) (λh=>by rw[hb3] at h;cases h) true hb3;simp only[if_true,Bool.not_true] at anC;cases h;refine uu (ta:=aq6 1304 (p4 [(3,.ptr 3 0),(5,.ptr 5 0),(6,.ptr 6 0),(7,.p (.val (.int .i64 0))),(9,.ptr 9 0),(39,.p (.val (.bool false))),(40,.p (.agg (aB a2)))])) (H2:=aaS 1304 (b8 [(3,.box [.p (.aU (a0.nodes.map aJ)),.p (.aU (a0.ak.map aP))]),(5,.box [.p (.aU (a2.au.map ag)),.p (.aU (a2.aC.map aj)),.p (.aU (a2.aM.map ag)),.p (.aU (a2.aK.map aj)),.p (.aU (a2.values.map aI)),.p (.val (.int .i64 a2.next.x0)),.p (.val (.int .i64 a2.next.x1))]),(6,.box [.p (.val (.slice none 0 0)),.p (.val (.slice none 0 0)),.p (.val (.slice none 0 0)),.p (.val (.slice none 0 0)),.p (.val (.slice none 0 0)),.p (.val (.int .i64 0))]),(9,.box [.eP 1304 R.2.2,.row 1336 S.2.2]),(1304,.deep R.2.2 75 3 2 3 1 (V.2.map ag)),(1336,.row S.2.2 102 4 (S.2.1.map aj))])) (dx.trans (yA (by simp only[go_sem,hb1,hr1,hb2,aB,aD]<;>(first|exact keepTop (by repeat (first|exact aBU _|refine acA (by decide) ?_|refine ae0 (by decide) (by decide) ?_)) (by simp only[go_sem,aB,aD]) (by simp only[go_sem,aB,aD]) (by simp only[go_sem,aB,aD])|skip))) (ku 1304 R.2.2 75 3 2 3 1 (V.2.map ag) (by decide) (by simp only[go_sem,aB,aD]))) (.inr (.inr (kR 9 1000000 (by decide) (by simp only[go_sem,aB,aD]) (kR 1304 1000001 (by decide) (by simp only[go_sem,aB,aD]) (kR 1336 1000002 (by decide) (by simp only[go_sem,aB,aD]) (acq anC (by simp only[go_sem,aB,aD]<;>rfl) (by simp only[go_sem,stF,aB,aD]<;>rfl) ?_ ?_ ?_ ?_ ?_ ?_ ?_))))))
   ·simp only[go_sem,stF,aB,aD]
   ·simp only[go_sem,stF,aB,aD]
   ·simp only[go_sem,stF,aB,aD]
   ·simp only[go_sem,stF,aB,aD]
   ·simp only[go_sem,stF,aB,aD]
   ·simp only[go_sem,stF,aB,aD]
   simp only[go_sem,stF,lu,aB,aD];all_goals(and_intros)<;>rfl
 ·rw[hc,Bool.not_false,cond_true] at h;cases h;simp only[go_sem,aB,aD];all_goals(and_intros)<;>rfl
theorem pX(v:Nat)(l r:List aG)(h:fe l=some r):kJ pw 102 v 57 3 (l.map ay) [] (λa c=>a = .row 1000000 (v+1)/\c=some (.row (v+1) 57 3 (r.map ay))):=by
 unfold fe giv at h;split at h;rotate_left
 ·cases h
 rename_i hc;obtain⟨h1,K,h2⟩:=hc;cases h;exact aqc K l h1 h2 v
theorem aeN(p q:aF)(r:aF)(h:tf p q=some r):bt pw 103 [.agg (aB p),.agg (aB q)] (λv=>v = .agg [.row 75 3 (r.au.map ag),.row 102 4 (r.aC.map aj),.p (.aU (r.aM.map ag)),.p (.aU (r.aK.map aj)),.row 105 4 (r.values.map aI),.p (.val (.int .i64 r.next.x0)),.p (.val (.int .i64 r.next.x1))]):=by obtain⟨⟨h1,h2,h3,h4,h5,h6⟩,rfl⟩:=qg h;exact apN p q h1 h2 h3 h4 h5 h6 _ rfl
end Go.Proofs.YtjhkgjlmiolfoaaGreat
namespace Go.cv
open Go.RowKit
theorem aj8{e:Env}{H:aA}(b off id:Nat)(ty:TypeId)(sz k:Nat)(e':TypeId)(sz':Nat)(cs:List AV)(hb:H b=some (.box cs))(ho:cs[off]? = some (.p (.val (.slice none 0 0))))(hid:H id=none)(hsz:k<sz) :
  dx e H e (bh (bh H id (.deep 0 ty sz k e' sz' [])) b (.box (cs.set off (.eP id 0)))):=λC I L tm w hs=>by
 obtain⟨n1,n2,n3⟩:=amg hs hid ty hsz e' sz';have hs':=n2 e tm hs;have hne:b≠id:=λh=>by rw[h,hid] at hb;cases hb
 obtain⟨blk,arr,et,g1,g2,g3,g4,g5,g6⟩:=hs.chunk b _ hb;refine⟨I,_,{ hs' with dom:=λi l hl=>?_,chunk:=λi ch hch=>?_ }⟩
 ·obtain⟨c,hc⟩:=hs'.dom i l hl;by_cases hi:i=b
  ·exact⟨.box (cs.set off (.eP id 0)),by unfold bh;rw[if_pos hi]⟩
  ·exact⟨c,by unfold bh at hc ⊢;rw[if_neg hi];exact hc⟩
 ·by_cases hi:i=b
  ·subst hi;have:Chunk.box (cs.set off (.eP id 0))=ch:=by simpa[bh] using hch
   subst this;refine⟨blk,arr,et,by simp[cg,hne,g1],g2,by simpa using g3,λj u c hu hc=>?_,g5,g6⟩;rw[getElem?_set] at hc;split at hc
   ·rename_i hj;subst hj;split at hc
    ·simp at hc;subst hc;have:=g4 off u _ hu ho;rw[this.dK.1];exact n1
    ·cases hc
   ·exact (g4 j u c hu hc).mono (Mem.en I) n3
  ·exact hs'.chunk i ch (by unfold bh at hch ⊢;rw[if_neg hi] at hch;exact hch)
theorem auS{P:Program}{N:Nat}{own:List Nat}{ops:Array Oper}{K:Env->aA->Prop}{env env':Env}{H H':aA}(h:dx env H env' H')(hw:vI P N own ops K env' H'):vI P N own ops K env H:=λC I L tm w hN hs=>by obtain⟨I',L',hs'⟩:=h C I L tm w hs;exact hw C I' L' tm w hN hs'
end Go.cv
namespace Go.Proofs.YtjhkgjlmiolfoaaGreat
open Go.cv
attribute [local go_sem] encI iQ bJ bk aZ pM aD
theorem vt(a0:Host)(r:Host)(h:cD a0=some r):bt pw 29 [.agg (pM a0)] (λv=>v = .agg [.row 3 1 (r.graph.nodes.map encI),.row 175 3 (r.graph.ak.map aZ),.deep 32 1 0 3 1 (r.values.map bJ)]):=by
 refine bF [18,25] func29 ntmps29 results29 ?_;unfold cD at h;have F:=trivial;refine zG 1112 F h (pP _) λaKz h=>?_
 refine zV ?_;refine zN F h (0:Nat) [1,2,3] (λx=>[(4,.p (.val (.int .i64 ((x.1.1:Nat):Int))))]) [1,2,1112,1113] (λx H=>[(3,bx (H 3) [(2,.eP 3959 x.2)]),(3959,.deep x.2 32 1 0 3 1 (x.1.2.map bJ))]) ?_ ?_ (hw:=by refine dx.trans (aj8 3 2 3959 32 1 0 3 1 _ rfl rfl rfl (by decide)) ?_;exact zW)
 ·intro i s g _ _ F N h;try dsimp only at h
  refine zE [(0,.p),(1,.b),(3,.q),(4,.q),(5,.q),(6,.q),(7,.q),(2,.w),(8,.s),(9,.w),(10,.t),(11,.t),(12,.t)] ?_;refine zI bJ F h λe F h=>?_
  refine zC F h λF h=>?_
  refine dJ e.length 8 F λF=>?_
  refine zF (eq_true (fc (n:=1) (f:=encI) (λ_=>rfl) e)) F λF=>?_
  refine zC F h λF h=>?_
  refine zF (show (s.length+1) * 24<=140737488355328 by omega) F λF=>?_
  refine zF (bz bJ s [e] (c:=[[.aU (e.map encI)]]) rfl) F λF=>?_
  refine zV ?_;refine amh 36 36 _ _ 3959 25 18 g 1 0 32 1 24 3 1 (s.map bJ) (e.map encI) [.val (.slice none 0 0)] rfl (by simp only[go_sem,F]<;>rfl) (by simp only[go_sem,F]) (by simp only[go_sem,F]) (by simp only[go_sem,F]) (by simp only[go_sem,F]) (by simp only[go_sem,F]) rfl (by decide) ?_ ?_
  ·rw[length_map];omega
  exact zX (z:=N _ (g+1) h zW)
 ·intro i s g _ F h;try dsimp only at h
  exact jC h
theorem vu(a0:az)(r:az)(h:dG a0=some r):bt pw 32 [.agg (aD a0)] (λv=>v = .agg [.row 3 1 (r.host.graph.nodes.map encI),.row 175 3 (r.host.graph.ak.map aZ),.deep 32 1 0 3 1 (r.host.values.map bJ),.row 3 1 (r.nodes.map encI),.row 3 1 (r.ak.map encI),.p (.val (.int .i64 r.next))]):=by
 refine bt.uz ?_;refine bF [6,9,10,13] func32 ntmps32 results32 ?_;unfold dG at h;have F:=trivial;refine zE [(0,.q),(1,.q),(4,.q),(5,.q),(8,.b),(9,.b),(11,.b),(12,.b),(2,.f),(3,.w),(6,.s),(7,.w),(10,.s),(13,.q),(14,.w)] ?_;refine zH 1080 F h (vt _) λaKA h=>?_
 refine zC F h λF h=>?_
 refine dJ a0.nodes.length 8 F λF=>?_
 refine zF (eq_true (fc (n:=1) (f:=encI) (λ_=>rfl) a0.nodes)) F λF=>?_
 refine zC F h λF h=>?_
 refine dJ a0.ak.length 8 F λF=>?_
 refine zF (eq_true (fc (n:=1) (f:=encI) (λ_=>rfl) a0.ak)) F λF=>?_
 exact jC h
end Go.Proofs.YtjhkgjlmiolfoaaGreat
namespace Go.Proofs.YtjhkgjlmiolfoaaGreat
open Go.cv
noncomputable section
theorem x9(a0:List dz)(a1:List dz)(r:Types)(h:jf a0 a1=some r):bt pw 44 [.aU (a0.map eo),.aU (a1.map eo)] (λv=>v = .agg [.row 165 4 (r.nodes.map aJ),.row 170 7 (r.ak.map aP)]):=by
 refine bt.uz ?_;refine bF [82,121] func44 ntmps44 results44 ?_;unfold jf at h;have F:=trivial;refine zV ?_;refine zL F h (0:Nat) [0,1,4,5] (λx=>[(6,.p (.val (.int .i64 x.1.1)))]) [4] (λx H=>[(5,bx (H 5) [(0,.row 2741 x.2)]),(2741,.row x.2 165 4 (x.1.2.map aJ))]) ?_ (hw:=by refine dx.trans (cz 5 0 2741 165 4 _ rfl rfl rfl (by decide)) ?_;exact zW);intro s2 g2 _ _ F nu h;try dsimp only at h
 refine pO F h (λF h=>?_) λF h=>?_
 ·refine zB F h (λF h=>?_) λF h=>?_
  ·refine zA eo F h λe3 F h=>?_
   refine fo 17 [.w,.s] ?_;refine zC F h λF h=>?_
   refine bY ((0:Int)<=0) F λF=>?_
   refine bY ((0:Int)<((2:Nat):Int)) F λF=>?_
   refine zC F h λF h=>?_
   refine bY ((0:Int)<=0) F λF=>?_
   refine bY ((0:Int)<((2:Nat):Int)) F λF=>?_
   refine bY (¬ ((16:Int)=0)) F λF=>?_
   refine bY (¬ ((4:Int)=0)) F λF=>?_
   refine zC F h λF h=>?_
   refine bY ((0:Int)<=1) F λF=>?_
   refine bY ((1:Int)<((2:Nat):Int)) F λF=>?_
   refine bY (¬ ((4:Int)=0)) F λF=>?_
   refine zB F h (λF h=>?_) λF h=>?_
   ·refine bY ((0:Int)<=1) F λF=>?_
    refine bY ((1:Int)<((2:Nat):Int)) F λF=>?_
    refine bY (¬ ((4:Int)=0)) F λF=>?_
    refine bY (¬ ((9:Int)=0)) F λF=>?_
    refine zC F h λF h=>?_
    refine dJ (s2.2.length+1) 56 F λF=>?_
    exact zX (z:=nu _ (g2+1) h (by refine dx.trans (rZ 2741 (g2+1) 165 4 aJ s2.2 [(⟨((⟨#[65,66,67,68,69,70]⟩:ByteArray).extract s2.1.toNat (i64.wrap (s2.1+1)).toNat),(i64.wrap (((i64.wrap e3.x0).tmod (i64.wrap (s2.1+1)))-1)),(decide (((IntKind.u8.wrap (e3.x0.tdiv 16)).tmod 4)=3)),[(⟨((⟨#[117,118,119,120,121,122]⟩:ByteArray).extract s2.1.toNat (i64.wrap (s2.1+1)).toNat),(-3),(i64.wrap (3+((i64.wrap (IntKind.u8.wrap (e3.x1.tdiv 4))).tmod 9))),[]⟩:Attr)]⟩:gT)] (by simp -implicitDefEqProofs only[go_sem,F]<;>rfl) (by simp -implicitDefEqProofs only[go_sem,F]<;>and_intros<;>first|rfl|trivial)) ?_;exact zW))
   ·refine zB F h (λF h=>?_) λF h=>?_
    ·refine zC F h λF h=>?_
     refine dJ (s2.2.length+1) 56 F λF=>?_
     refine zF (bz aJ s2.2 [(⟨((⟨#[65,66,67,68,69,70]⟩:ByteArray).extract s2.1.toNat (i64.wrap (s2.1+1)).toNat),(i64.wrap (((i64.wrap e3.x0).tmod (i64.wrap (s2.1+1)))-1)),(decide (((IntKind.u8.wrap (e3.x0.tdiv 16)).tmod 4)=3)),[(⟨((⟨#[117,118,119,120,121,122]⟩:ByteArray).extract s2.1.toNat (i64.wrap (s2.1+1)).toNat),0,1,[(⟨#[111,102,102]⟩:ByteArray),(⟨#[111,110]⟩:ByteArray)]⟩:Attr)]⟩:gT)] (c:=[[.val (.string ((⟨#[65,66,67,68,69,70]⟩:ByteArray).extract s2.1.toNat (i64.wrap (s2.1+1)).toNat)),.val (.int .i64 (i64.wrap (((i64.wrap e3.x0).tmod (i64.wrap (s2.1+1)))-1))),.val (.bool (decide (((IntKind.u8.wrap (e3.x0.tdiv 16)).tmod 4)=3))),.aU [[.val (.string ((⟨#[117,118,119,120,121,122]⟩:ByteArray).extract s2.1.toNat (i64.wrap (s2.1+1)).toNat)),.val (.int .i64 0),.val (.int .i64 1),.aU [[.val (.string (⟨#[111,102,102]⟩:ByteArray))],[.val (.string (⟨#[111,110]⟩:ByteArray))]]]]]]) rfl) F λF=>?_
     exact zX (z:=nu _ (g2+1) h zW)
    ·refine zC F h λF h=>?_
     refine dJ (s2.2.length+1) 56 F λF=>?_
     exact zX (z:=nu _ (g2+1) h (by refine dx.trans (rZ 2741 (g2+1) 165 4 aJ s2.2 [(⟨((⟨#[65,66,67,68,69,70]⟩:ByteArray).extract s2.1.toNat (i64.wrap (s2.1+1)).toNat),(i64.wrap (((i64.wrap e3.x0).tmod (i64.wrap (s2.1+1)))-1)),(decide (((IntKind.u8.wrap (e3.x0.tdiv 16)).tmod 4)=3)),[]⟩:gT)] (by simp -implicitDefEqProofs only[go_sem,F]<;>rfl) (by simp -implicitDefEqProofs only[go_sem,F]<;>and_intros<;>first|rfl|trivial)) ?_;exact zW))
  ·refine fo 17 [.w,.s] ?_;refine zC F h λF h=>?_
   refine bY ((0:Int)<=0) F λF=>?_
   refine bY ((0:Int)<((2:Nat):Int)) F λF=>?_
   refine zC F h λF h=>?_
   refine bY ((0:Int)<=0) F λF=>?_
   refine bY ((0:Int)<((2:Nat):Int)) F λF=>?_
   refine bY (¬ ((16:Int)=0)) F λF=>?_
   refine bY (¬ ((4:Int)=0)) F λF=>?_
   refine zC F h λF h=>?_
   refine bY ((0:Int)<=1) F λF=>?_
   refine bY ((1:Int)<((2:Nat):Int)) F λF=>?_
   refine bY (¬ ((4:Int)=0)) F λF=>?_
   refine zB F h (λF h=>?_) λF h=>?_
   ·refine bY ((0:Int)<=1) F λF=>?_
    refine bY ((1:Int)<((2:Nat):Int)) F λF=>?_
    refine bY (¬ ((4:Int)=0)) F λF=>?_
    refine bY (¬ ((9:Int)=0)) F λF=>?_
    refine zC F h λF h=>?_
    refine dJ (s2.2.length+1) 56 F λF=>?_
    exact zX (z:=nu _ (g2+1) h (by refine dx.trans (rZ 2741 (g2+1) 165 4 aJ s2.2 [(⟨((⟨#[65,66,67,68,69,70]⟩:ByteArray).extract s2.1.toNat (i64.wrap (s2.1+1)).toNat),(i64.wrap (((i64.wrap 0).tmod (i64.wrap (s2.1+1)))-1)),(decide (((IntKind.u8.wrap ((0:Int).tdiv 16)).tmod 4)=3)),[(⟨((⟨#[117,118,119,120,121,122]⟩:ByteArray).extract s2.1.toNat (i64.wrap (s2.1+1)).toNat),(-3),(i64.wrap (3+((i64.wrap (IntKind.u8.wrap ((0:Int).tdiv 4))).tmod 9))),[]⟩:Attr)]⟩:gT)] (by simp -implicitDefEqProofs only[go_sem,F]<;>rfl) (by simp -implicitDefEqProofs only[go_sem,F]<;>and_intros<;>first|rfl|trivial)) ?_;exact zW))
   ·refine zB F h (λF h=>?_) λF h=>?_
    ·refine zC F h λF h=>?_
     refine dJ (s2.2.length+1) 56 F λF=>?_
     refine zF (bz aJ s2.2 [(⟨((⟨#[65,66,67,68,69,70]⟩:ByteArray).extract s2.1.toNat (i64.wrap (s2.1+1)).toNat),(i64.wrap (((i64.wrap 0).tmod (i64.wrap (s2.1+1)))-1)),(decide (((IntKind.u8.wrap ((0:Int).tdiv 16)).tmod 4)=3)),[(⟨((⟨#[117,118,119,120,121,122]⟩:ByteArray).extract s2.1.toNat (i64.wrap (s2.1+1)).toNat),0,1,[(⟨#[111,102,102]⟩:ByteArray),(⟨#[111,110]⟩:ByteArray)]⟩:Attr)]⟩:gT)] (c:=[[.val (.string ((⟨#[65,66,67,68,69,70]⟩:ByteArray).extract s2.1.toNat (i64.wrap (s2.1+1)).toNat)),.val (.int .i64 (i64.wrap (((i64.wrap 0).tmod (i64.wrap (s2.1+1)))-1))),.val (.bool (decide (((IntKind.u8.wrap ((0:Int).tdiv 16)).tmod 4)=3))),.aU [[.val (.string ((⟨#[117,118,119,120,121,122]⟩:ByteArray).extract s2.1.toNat (i64.wrap (s2.1+1)).toNat)),.val (.int .i64 0),.val (.int .i64 1),.aU [[.val (.string (⟨#[111,102,102]⟩:ByteArray))],[.val (.string (⟨#[111,110]⟩:ByteArray))]]]]]]) rfl) F λF=>?_
     exact zX (z:=nu _ (g2+1) h zW)
    ·refine zC F h λF h=>?_
     refine dJ (s2.2.length+1) 56 F λF=>?_
     exact zX (z:=nu _ (g2+1) h (by refine dx.trans (rZ 2741 (g2+1) 165 4 aJ s2.2 [(⟨((⟨#[65,66,67,68,69,70]⟩:ByteArray).extract s2.1.toNat (i64.wrap (s2.1+1)).toNat),(i64.wrap (((i64.wrap 0).tmod (i64.wrap (s2.1+1)))-1)),(decide (((IntKind.u8.wrap ((0:Int).tdiv 16)).tmod 4)=3)),[]⟩:gT)] (by simp -implicitDefEqProofs only[go_sem,F]<;>rfl) (by simp -implicitDefEqProofs only[go_sem,F]<;>and_intros<;>first|rfl|trivial)) ?_;exact zW))
 ·refine oQ F h (λF h=>?_) λF h=>?_
  ·refine zB F h (λF h=>?_) λF h=>?_
   ·refine zA eo F h λe4 F h=>?_
    refine fo 17 [.w,.s] ?_;refine zC F h λF h=>?_
    refine bY ((0:Int)<=0) F λF=>?_
    refine bY ((0:Int)<((2:Nat):Int)) F λF=>?_
    refine zC F h λF h=>?_
    refine bY ((0:Int)<=0) F λF=>?_
    refine bY ((0:Int)<((2:Nat):Int)) F λF=>?_
    refine bY (¬ ((16:Int)=0)) F λF=>?_
    refine bY (¬ ((4:Int)=0)) F λF=>?_
    refine zC F h λF h=>?_
    refine bY ((0:Int)<=1) F λF=>?_
    refine bY ((1:Int)<((2:Nat):Int)) F λF=>?_
    refine bY (¬ ((4:Int)=0)) F λF=>?_
    refine zB F h (λF h=>?_) λF h=>?_
    ·refine bY ((0:Int)<=1) F λF=>?_
     refine bY ((1:Int)<((2:Nat):Int)) F λF=>?_
     refine bY (¬ ((4:Int)=0)) F λF=>?_
     refine bY (¬ ((9:Int)=0)) F λF=>?_
     refine zC F h λF h=>?_
     refine dJ (s2.2.length+1) 56 F λF=>?_
     exact zX (z:=nu _ (g2+1) h (by refine dx.trans (rZ 2741 (g2+1) 165 4 aJ s2.2 [(⟨((⟨#[65,66,67,68,69,70]⟩:ByteArray).extract s2.1.toNat (i64.wrap (s2.1+1)).toNat),(i64.wrap (((i64.wrap e4.x0).tmod (i64.wrap (s2.1+1)))-1)),(decide (((IntKind.u8.wrap (e4.x0.tdiv 16)).tmod 4)=3)),[(⟨((⟨#[117,118,119,120,121,122]⟩:ByteArray).extract s2.1.toNat (i64.wrap (s2.1+1)).toNat),(-3),(i64.wrap (3+((i64.wrap (IntKind.u8.wrap (e4.x1.tdiv 4))).tmod 9))),[]⟩:Attr)]⟩:gT)] (by simp -implicitDefEqProofs only[go_sem,F]<;>rfl) (by simp -implicitDefEqProofs only[go_sem,F]<;>and_intros<;>first|rfl|trivial)) ?_;exact zW))
    ·refine zB F h (λF h=>?_) λF h=>?_
     ·refine zC F h λF h=>?_
      refine dJ (s2.2.length+1) 56 F λF=>?_
      refine zF (bz aJ s2.2 [(⟨((⟨#[65,66,67,68,69,70]⟩:ByteArray).extract s2.1.toNat (i64.wrap (s2.1+1)).toNat),(i64.wrap (((i64.wrap e4.x0).tmod (i64.wrap (s2.1+1)))-1)),(decide (((IntKind.u8.wrap (e4.x0.tdiv 16)).tmod 4)=3)),[(⟨((⟨#[117,118,119,120,121,122]⟩:ByteArray).extract s2.1.toNat (i64.wrap (s2.1+1)).toNat),0,1,[(⟨#[111,102,102]⟩:ByteArray),(⟨#[111,110]⟩:ByteArray)]⟩:Attr)]⟩:gT)] (c:=[[.val (.string ((⟨#[65,66,67,68,69,70]⟩:ByteArray).extract s2.1.toNat (i64.wrap (s2.1+1)).toNat)),.val (.int .i64 (i64.wrap (((i64.wrap e4.x0).tmod (i64.wrap (s2.1+1)))-1))),.val (.bool (decide (((IntKind.u8.wrap (e4.x0.tdiv 16)).tmod 4)=3))),.aU [[.val (.string ((⟨#[117,118,119,120,121,122]⟩:ByteArray).extract s2.1.toNat (i64.wrap (s2.1+1)).toNat)),.val (.int .i64 0),.val (.int .i64 1),.aU [[.val (.string (⟨#[111,102,102]⟩:ByteArray))],[.val (.string (⟨#[111,110]⟩:ByteArray))]]]]]]) rfl) F λF=>?_
      exact zX (z:=nu _ (g2+1) h zW)
     ·refine zC F h λF h=>?_
      refine dJ (s2.2.length+1) 56 F λF=>?_
      exact zX (z:=nu _ (g2+1) h (by refine dx.trans (rZ 2741 (g2+1) 165 4 aJ s2.2 [(⟨((⟨#[65,66,67,68,69,70]⟩:ByteArray).extract s2.1.toNat (i64.wrap (s2.1+1)).toNat),(i64.wrap (((i64.wrap e4.x0).tmod (i64.wrap (s2.1+1)))-1)),(decide (((IntKind.u8.wrap (e4.x0.tdiv 16)).tmod 4)=3)),[]⟩:gT)] (by simp -implicitDefEqProofs only[go_sem,F]<;>rfl) (by simp -implicitDefEqProofs only[go_sem,F]<;>and_intros<;>first|rfl|trivial)) ?_;exact zW))
   ·try dsimp only at h
    refine zV ?_;refine zL F h (0:Nat) [1,4,5] (λx=>[(10,.p (.val (.int .i64 x.1.1)))]) [4,2741] (λx H=>[(5,bx (H 5) [(1,.row 3037 x.2)]),(3037,.row x.2 170 7 (x.1.2.map aP))]) ?_ (hw:=by refine dx.trans (cz 5 1 3037 170 7 _ rfl rfl rfl (by decide)) ?_;exact zW);intro s5 g5 _ _ F Ns5 h;try dsimp only at h
    refine oQ F h (λF h=>?_) λF h=>?_
    ·refine zB F h (λF h=>?_) λF h=>?_
     ·refine zE [(0,.p),(2,.q),(3,.q),(4,.q),(5,.q),(6,.q),(7,.q),(8,.q),(9,.q),(10,.q),(11,.q),(12,.q),(13,.q),(14,.q),(15,.q),(16,.q),(17,.q),(18,.q),(19,.q),(20,.q),(21,.q),(22,.q),(23,.p),(1,.q),(24,.w),(25,.q),(26,.w)] ?_;refine zC F h λF h=>?_
      refine zA eo F h λe6 F h=>?_
      refine bY ((0:Int)<=0) F λF=>?_
      refine bY ((0:Int)<((2:Nat):Int)) F λF=>?_
      refine zC F h λF h=>?_
      refine bY ((0:Int)<=1) F λF=>?_
      refine bY ((1:Int)<((2:Nat):Int)) F λF=>?_
      refine zC F h λF h=>?_
      refine zC F h λF h=>?_
      refine dJ (s5.2.length+1) 64 F λF=>?_
      refine zF (bz aP s5.2 [(⟨((⟨#[101,102,103,104,105]⟩:ByteArray).extract s5.1.toNat (i64.wrap (s5.1+1)).toNat),((i64.wrap e6.x0).tmod ((s2.2.length:Nat):Int)),((i64.wrap e6.x1).tmod ((s2.2.length:Nat):Int)),0,(-1),0,(-1)⟩:l8)] (c:=[[.val (.string ((⟨#[101,102,103,104,105]⟩:ByteArray).extract s5.1.toNat (i64.wrap (s5.1+1)).toNat)),.val (.int .i64 ((i64.wrap e6.x0).tmod ((s2.2.length:Nat):Int))),.val (.int .i64 ((i64.wrap e6.x1).tmod ((s2.2.length:Nat):Int))),.val (.int .i64 0),.val (.int .i64 (-1)),.val (.int .i64 0),.val (.int .i64 (-1))]]) rfl) F λF=>?_
      exact zX (z:=Ns5 _ (g5+1) h zW)
     ·try dsimp only at h
      exact jC h
    ·try dsimp only at h
     exact jC h
  ·try dsimp only at h
   refine zV ?_;refine zL F h (0:Nat) [1,4,5] (λx=>[(10,.p (.val (.int .i64 x.1.1)))]) [4,2741] (λx H=>[(5,bx (H 5) [(1,.row 3144 x.2)]),(3144,.row x.2 170 7 (x.1.2.map aP))]) ?_ (hw:=by refine dx.trans (cz 5 1 3144 170 7 _ rfl rfl rfl (by decide)) ?_;exact zW);intro s7 g7 _ _ F Ns7 h;try dsimp only at h
   refine oQ F h (λF h=>?_) λF h=>?_
   ·refine zB F h (λF h=>?_) λF h=>?_
    ·refine zE [(0,.p),(2,.q),(3,.q),(4,.q),(5,.q),(6,.q),(7,.q),(8,.q),(9,.q),(10,.q),(11,.q),(12,.q),(13,.q),(14,.q),(15,.q),(16,.q),(17,.q),(18,.q),(19,.q),(20,.q),(21,.q),(22,.q),(23,.p),(1,.q),(24,.w),(25,.q),(26,.w)] ?_;refine zC F h λF h=>?_
     refine zA eo F h λe8 F h=>?_
     refine bY ((0:Int)<=0) F λF=>?_
     refine bY ((0:Int)<((2:Nat):Int)) F λF=>?_
     refine zC F h λF h=>?_
     refine bY ((0:Int)<=1) F λF=>?_
     refine bY ((1:Int)<((2:Nat):Int)) F λF=>?_
     refine zC F h λF h=>?_
     refine zC F h λF h=>?_
     refine dJ (s7.2.length+1) 64 F λF=>?_
     refine zF (bz aP s7.2 [(⟨((⟨#[101,102,103,104,105]⟩:ByteArray).extract s7.1.toNat (i64.wrap (s7.1+1)).toNat),((i64.wrap e8.x0).tmod ((s2.2.length:Nat):Int)),((i64.wrap e8.x1).tmod ((s2.2.length:Nat):Int)),0,(-1),0,(-1)⟩:l8)] (c:=[[.val (.string ((⟨#[101,102,103,104,105]⟩:ByteArray).extract s7.1.toNat (i64.wrap (s7.1+1)).toNat)),.val (.int .i64 ((i64.wrap e8.x0).tmod ((s2.2.length:Nat):Int))),.val (.int .i64 ((i64.wrap e8.x1).tmod ((s2.2.length:Nat):Int))),.val (.int .i64 0),.val (.int .i64 (-1)),.val (.int .i64 0),.val (.int .i64 (-1))]]) rfl) F λF=>?_
     exact zX (z:=Ns7 _ (g7+1) h zW)
    ·try dsimp only at h
     exact jC h
   ·try dsimp only at h
    exact jC h
end
noncomputable section
theorem di(a0:List Int)(a1:Int)(r:Int)(h:bW a0 a1=some r):aS pw 83 [.aU (a0.map encI),.val (.int .i64 a1)] (λv=>v = .val (.int .i64 r)):=by
 refine aS.oa ?_;refine aR [] func83 ntmps83 results83 ?_;unfold bW at h;have F:=trivial;refine zV ?_;refine zN F h () [0,1] (λx=>[(5,.p (.val (.int .i64 ((x.1.1:Nat):Int))))]) [] (λx H=>[]) ?_ ?_
 ·intro i2 s2 g2 _ _ F nu h;try dsimp only at h
  refine zI encI F h λe3 F h=>?_
  refine zB F h (λF h=>?_) λF h=>?_
  ·exact zR h
  ·exact zX (z:=nu _ () h zW)
 ·intro i2 s2 g2 _ F h;try dsimp only at h
  exact zR h
theorem iY(a0:aQ)(a1:aO)(r:aQ×Bool)(h:cQ a0 a1=some r):bt pw 198 [.agg [.aU (a0.nodes.map ag),.aU (a0.ak.map aj)],.agg (aI a1)] (λv=>v = .dW [.agg [.row 75 3 (r.1.nodes.map ag),.p (.aU (r.1.ak.map aj))],.p (.val (.bool r.2))]):=by
 refine bt.uz ?_;refine bF [61,64,77] func198 ntmps198 results198 ?_;unfold cQ at h;have F:=trivial;refine zV ?_;refine zN F h (0:Nat) [2,3,4,6] (λx=>[(7,.p (.val (.bool x.1.2.2))),(8,.p (.val (.int .i64 ((x.1.1:Nat):Int))))]) [2,3,4] (λx H=>[(6,bx (H 6) [(0,.row 7030 x.2)]),(7030,.row x.2 75 3 (x.1.2.1.map ag))]) ?_ ?_ (hw:=by refine dx.trans (cz 6 0 7030 75 3 _ rfl rfl rfl (by decide)) ?_;exact zW)
 ·intro i2 s2 g2 _ _ F nu h;try dsimp only at h
  refine zI ag F h λe3 F h=>?_
  refine fo 36 [] ?_;refine zBd F h (λF h=>?_) λF h=>?_
  ·refine zBd F h (λF h=>?_) λF h=>?_
   ·refine zBd F h (λF h=>?_) λF h=>?_
    ·refine zA encI F h λe4 F h=>?_
     refine zBd F h (λF h=>?_) λF h=>?_
     ·refine o9 F h (λF h=>?_) λF h=>?_
      ·refine zC F h λF h=>?_
       refine dJ (s2.1.length+1) 40 F λF=>?_
       refine zF (bz ag s2.1 [e3] (c:=[[.val (.int .i64 e3.id),.val (.int .i64 e3.type),.aU (e3.values.map encI)]]) rfl) F λF=>?_
       exact zX (z:=nu _ (g2+1) h zW)
      ·refine zC F h λF h=>?_
       refine dJ e3.values.length 8 F λF=>?_
       refine zF (eq_true (fc (n:=1) (f:=encI) (λ_=>rfl) e3.values)) F λF=>?_
       refine zF (wZ encI e3.values a1.attr.toNat a1.new (c:=[.val (.int .i64 a1.new)]) rfl) F λF=>?_
       refine zC F h λF h=>?_
       refine dJ (s2.1.length+1) 40 F λF=>?_
       refine zF (bz ag s2.1 [(⟨e3.id,e3.type,(e3.values.set a1.attr.toNat a1.new)⟩:ah)] (c:=[[.val (.int .i64 e3.id),.val (.int .i64 e3.type),.aU ((e3.values.set a1.attr.toNat a1.new).map encI)]]) rfl) F λF=>?_
       exact zX (z:=nu _ (g2+1) h zW)
     ·refine zC F h λF h=>?_
      refine dJ (s2.1.length+1) 40 F λF=>?_
      refine zF (bz ag s2.1 [e3] (c:=[[.val (.int .i64 e3.id),.val (.int .i64 e3.type),.aU (e3.values.map encI)]]) rfl) F λF=>?_
      exact zX (z:=nu _ (g2+1) h zW)
    ·refine zC F h λF h=>?_
     refine dJ (s2.1.length+1) 40 F λF=>?_
     refine zF (bz ag s2.1 [e3] (c:=[[.val (.int .i64 e3.id),.val (.int .i64 e3.type),.aU (e3.values.map encI)]]) rfl) F λF=>?_
     exact zX (z:=nu _ (g2+1) h zW)
   ·refine zC F h λF h=>?_
    refine dJ (s2.1.length+1) 40 F λF=>?_
    refine zF (bz ag s2.1 [e3] (c:=[[.val (.int .i64 e3.id),.val (.int .i64 e3.type),.aU (e3.values.map encI)]]) rfl) F λF=>?_
    exact zX (z:=nu _ (g2+1) h zW)
  ·refine zC F h λF h=>?_
   refine dJ (s2.1.length+1) 40 F λF=>?_
   refine zF (bz ag s2.1 [e3] (c:=[[.val (.int .i64 e3.id),.val (.int .i64 e3.type),.aU (e3.values.map encI)]]) rfl) F λF=>?_
   exact zX (z:=nu _ (g2+1) h zW)
 ·intro i2 s2 g2 _ F h;try dsimp only at h
  exact jC h
theorem jU(a0:Int)(a1:Int)(a2:Int)(r:Int)(h:eA a0 a1 a2=some r):aS pw 257 [.val (.int .i64 a0),.val (.int .i64 a1),.val (.int .i64 a2)] (λv=>v = .val (.int .i64 r)):=by
 refine aS.oa ?_;refine aR [] func257 ntmps257 results257 ?_;unfold eA at h;have F:=trivial;refine zB F h (λF h=>?_) λF h=>?_
 ·exact zR h
 ·exact zR h
theorem zM(a0:List bK)(a1:bK)(r:Bool)(h:gM a0 a1=some r):aS pw 164 [.aU (a0.map bZ),.agg (bZ a1)] (λv=>v = .val (.bool r)):=by
 refine aS.oa ?_;refine aR [] func164 ntmps164 results164 ?_;unfold gM at h;have F:=trivial;refine zV ?_;refine zN F h () [0,3] (λx=>[(5,.p (.val (.int .i64 ((x.1.1:Nat):Int))))]) [3] (λx H=>[]) ?_ ?_
 ·intro i2 s2 g2 _ _ F nu h;try dsimp only at h
  refine fo 6 [] ?_;refine zI bZ F h λe3 F h=>?_
  refine zB F h (λF h=>?_) λF h=>?_
  ·exact zR h
  ·exact zX (z:=nu _ () h zW)
 ·intro i2 s2 g2 _ F h;try dsimp only at h
  exact zR h
end
noncomputable section
theorem oS(a0:Int)(a1:Int)(r:(List Int))(h:fI a0 a1=some r):bt pw 79 [.val (.int .i64 a0),.val (.int .i64 a1)] (λv=>v = .row 3 1 (r.map encI)):=by
 refine bt.uz ?_;refine bF [17] func79 ntmps79 results79 ?_;unfold fI at h;have F:=trivial;refine zV ?_;refine zO F h (0:Nat) [0,1] (λx=>[(5,.row 4980 x.2),(6,.p (.val (.int .i64 ((x.1.1:Nat):Int))))]) [] (λx H=>[(4980,.row x.2 3 1 (x.1.2.map encI))]) ?_ ?_ (hw:=by refine dx.trans (ja 5 4980 3 1 rfl rfl (by decide)) ?_;exact zW)
 ·intro i2 s2 g2 _ _ F nu h;try dsimp only at h
  refine zC F h λF h=>?_
  refine dJ (s2.length+1) 8 F λF=>?_
  refine zF (bz encI s2 [(i64.wrap (a0+((i2:Nat):Int)))] (c:=[[.val (.int .i64 (i64.wrap (a0+((i2:Nat):Int))))]]) rfl) F λF=>?_
  exact zX (z:=nu _ (g2+1) h zW)
 ·intro i2 s2 g2 _ F h;try dsimp only at h
  exact jC h
theorem qQ(a0:az)(a1:Int)(r:ah)(h:gX a0 a1=some r):bt pw 194 [.agg (aD a0),.val (.int .i64 a1)] (λv=>v = .agg [.p (.val (.int .i64 r.id)),.p (.val (.int .i64 r.type)),.row 3 1 (r.values.map encI)]):=by
 refine bt.uz ?_;refine bF [17,24] func194 ntmps194 results194 ?_;unfold gX at h;have F:=trivial;refine zE [(0,.b),(1,.b),(2,.b),(3,.b),(4,.b),(5,.b),(6,.b),(7,.b),(8,.b),(9,.b),(10,.b),(11,.b),(13,.q),(14,.q),(15,.q),(16,.q),(17,.q),(18,.q),(12,.w),(19,.s),(20,.q),(21,.w)] ?_;refine zA encI F h λe2 F h=>?_
 refine zA encI F h λe3 F h=>?_
 refine zA bJ F h λe4 F h=>?_
 refine zC F h λF h=>?_
 refine dJ e4.length 8 F λF=>?_
 refine zF (eq_true (fc (n:=1) (f:=encI) (λ_=>rfl) e4)) F λF=>?_
 exact jC h
theorem j8(a0:az)(a1:Int)(r:ax)(h:dH a0 a1=some r):aS pw 195 [.agg (aD a0),.val (.int .i64 a1)] (λv=>v = .agg (aj r)):=by
 refine aS.oa ?_;refine aR [] func195 ntmps195 results195 ?_;unfold dH at h;have F:=trivial;refine zA aZ F h λe2 F h=>?_
 refine fo 20 [.w] ?_;refine zA encI F h λe3 F h=>?_
 refine zA encI F h λe4 F h=>?_
 refine zA encI F h λe5 F h=>?_
 exact zR h
theorem lP(a0:aQ)(a1:ax)(r:aQ×Bool)(h:cF a0 a1=some r):aS pw 196 [.agg [.aU (a0.nodes.map ag),.aU (a0.ak.map aj)],.agg (aj a1)] (λv=>v = .dW [.agg [.aU (r.1.nodes.map ag),.aU (r.1.ak.map aj)],.val (.bool r.2)]):=by
 refine aS.oa ?_;refine aR [23,28] func196 ntmps196 results196 ?_;unfold cF at h;have F:=trivial;refine zV ?_;refine zN F h () [2,3,4] (λx=>[(6,.p (.val (.int .i64 ((x.1.1:Nat):Int))))]) [2,3,4] (λx H=>[]) ?_ ?_
 ·intro i2 s2 g2 _ _ F nu h;try dsimp only at h
  have Ws2:=F.2.2;refine fo 7 [] ?_;refine zI aj F h λe3 F h=>?_
  refine zB F h (λF h=>?_) λF h=>?_
  ·refine zE [(0,.b),(1,.b),(3,.q),(4,.q),(5,.q),(6,.q),(8,.b),(9,.b),(2,.w),(7,.s),(10,.q),(11,.q),(12,.q),(13,.w),(14,.q),(15,.w),(16,.q)] ?_;refine zC F h λF h=>?_
   refine zF (eq_true (fc (n:=4) (f:=aj) (λ_=>rfl) a0.ak)) F λF=>?_
   refine zC F h λF h=>?_
   refine dJ ((a0.ak.take i2).length) 32 F λF=>?_
   refine zF (eq_true (fc (n:=4) (f:=aj) (λ_=>rfl) (a0.ak.take i2))) F λF=>?_
   refine zC F h λF h=>?_
   have w:=F.2;simp only[Ws2,toNat_natCast] at w;replace F:=And.intro F w;refine zF (eq_true (fc (n:=4) (f:=aj) (λ_=>rfl) a0.ak)) F λF=>?_
   refine zC F h λF h=>?_
   have w:=F.2;simp only[Ws2,toNat_natCast] at w;replace F:=And.intro F w;refine dJ ((a0.ak.take i2).length+(a0.ak.drop (i64.wrap (((i2:Nat):Int)+1)).toNat).length) 32 F λF=>?_
   have w:=F.2;simp only[Ws2,toNat_natCast] at w;replace F:=And.intro F w;refine zF (eq_true (fc (n:=4) (f:=aj) (λ_=>rfl) (a0.ak.drop (i64.wrap (((i2:Nat):Int)+1)).toNat))) F λF=>?_
   have w:=F.2;simp only[Ws2,toNat_natCast] at w;replace F:=And.intro F w;exact zR h
  ·exact zX (z:=nu _ () h zW)
 ·intro i2 s2 g2 _ F h;try dsimp only at h
  exact zR h
theorem mw(a0:List ax)(r:Bool)(h:ek a0=some r):aS pw 192 [.aU (a0.map aj)] (λv=>v = .val (.bool r)):=by
 refine aS.oa ?_;refine aR [] func192 ntmps192 results192 ?_;unfold ek at h;have F:=trivial;refine zV ?_;refine zN F h () [0] (λx=>[(3,.p (.val (.int .i64 ((x.1.1:Nat):Int))))]) [] (λx H=>[]) ?_ ?_
 ·intro i1 s1 g1 _ _ F Ns1 h;try dsimp only at h
  refine fo 12 [] ?_;refine zI aj F h λe2 F h=>?_
  refine zA aj F h λe3 F h=>?_
  refine zB F h (λF h=>?_) λF h=>?_
  ·exact zR h
  ·exact zX (z:=Ns1 _ () h zW)
 ·intro i1 s1 g1 _ F h;try dsimp only at h
  exact zR h
theorem aj9(a0:Types)(a1:Host)(r:Int)(h:qP a0 a1=some r):aS pw 263 [.agg [.aU (a0.nodes.map aJ),.aU (a0.ak.map aP)],.agg (pM a1)] (λv=>v = .val (.int .i64 r)):=by
 refine aS.oa ?_;refine aR [] func263 ntmps263 results263 ?_;unfold qP at h;have F:=trivial;refine zK F h (acv _ _) λr2 h=>?_
 exact zR h
end
noncomputable section
theorem mz(a0:List ah)(r:Bool)(h:ef a0=some r):aS pw 191 [.aU (a0.map ag)] (λv=>v = .val (.bool r)):=by
 refine aS.oa ?_;refine aR [] func191 ntmps191 results191 ?_;unfold ef at h;have F:=trivial;refine zV ?_;refine zN F h () [0] (λx=>[(3,.p (.val (.int .i64 ((x.1.1:Nat):Int))))]) [] (λx H=>[]) ?_ ?_
 ·intro i1 s1 g1 _ _ F Ns1 h;try dsimp only at h
  refine fo 12 [] ?_;refine zI ag F h λe2 F h=>?_
  refine zA ag F h λe3 F h=>?_
  refine zB F h (λF h=>?_) λF h=>?_
  ·exact zR h
  ·exact zX (z:=Ns1 _ () h zW)
 ·intro i1 s1 g1 _ F h;try dsimp only at h
  exact zR h
theorem rA(a0:List aO)(r:Bool)(h:eV a0=some r):aS pw 193 [.aU (a0.map aI)] (λv=>v = .val (.bool r)):=by
 refine aS.oa ?_;refine aR [] func193 ntmps193 results193 ?_;unfold eV at h;have F:=trivial;refine zV ?_;refine zN F h () [0] (λx=>[(3,.p (.val (.int .i64 ((x.1.1:Nat):Int))))]) [] (λx H=>[]) ?_ ?_
 ·intro i1 s1 g1 _ _ F Ns1 h;try dsimp only at h
  refine fo 40 [] ?_;refine zI aI F h λe2 F h=>?_
  refine zA aI F h λe3 F h=>?_
  refine amM F h (λF h=>?_) λF h=>?_
  ·exact zR h
  ·refine zBd F h (λF h=>?_) λF h=>?_
   ·refine zB F h (λF h=>?_) λF h=>?_
    ·exact zR h
    ·exact zX (z:=Ns1 _ () h zW)
   ·exact zX (z:=Ns1 _ () h zW)
 ·intro i1 s1 g1 _ F h;try dsimp only at h
  exact zR h
theorem qm(a0:aF)(r:Bool)(h:gz a0=some r):aS pw 156 [.agg (aB a0)] (λv=>v = .val (.bool r)):=by
 refine aS.oa ?_;refine aR [] func156 ntmps156 results156 ?_;unfold gz at h;have F:=trivial;refine zV ?_;refine zN F h () [1] (λx=>[(3,.p (.val (.int .i64 ((x.1.1:Nat):Int))))]) [1] (λx H=>[]) ?_ ?_
 ·intro i1 s1 g1 _ _ F Ns1 h;try dsimp only at h
  refine fo 10 [] ?_;refine zI ag F h λe2 F h=>?_
  refine bY ((0:Int)<=0) F λF=>?_
  refine bY ((0:Int)<((2:Nat):Int)) F λF=>?_
  refine zB F h (λF h=>?_) λF h=>?_
  ·exact zR h
  ·exact zX (z:=Ns1 _ () h zW)
 ·intro i1 s1 g1 _ F h;try dsimp only at h
  refine zV ?_;refine zN F h () [1] (λx=>[(4,.p (.val (.int .i64 ((x.1.1:Nat):Int))))]) [1] (λx H=>[]) ?_ ?_
  ·intro i3 s3 g3 _ _ F yR h;try dsimp only at h
   refine fo 10 [] ?_;refine zI aj F h λe4 F h=>?_
   refine bY ((0:Int)<=0) F λF=>?_
   refine bY ((0:Int)<((2:Nat):Int)) F λF=>?_
   refine zB F h (λF h=>?_) λF h=>?_
   ·exact zR h
   ·exact zX (z:=yR _ () h zW)
  ·intro i3 s3 g3 _ F h;try dsimp only at h
   refine bY ((0:Int)<=1) F λF=>?_
   refine bY ((1:Int)<((2:Nat):Int)) F λF=>?_
   refine bY ((0:Int)<=0) F λF=>?_
   refine bY ((0:Int)<((2:Nat):Int)) F λF=>?_
   exact zR h
theorem pY(a0:Types)(a1:az)(a2:aF)(r:az×Int)(h:ff a0 a1 a2=some r):aS pw 40 [.agg [.aU (a0.nodes.map aJ),.aU (a0.ak.map aP)],.agg (aD a1),.agg (aB a2)] (λv=>v = .dW [.agg (aD r.1),.val (.int .i64 r.2)]):=by
 refine aS.oa ?_;refine aR [] func40 ntmps40 results40 ?_;unfold ff at h;have F:=trivial;refine zK F h (yD _ _) λr3 h=>?_
 refine o9 F h (λF h=>?_) λF h=>?_
 ·refine zK F h (adI _ _ _) λr4 h=>?_
  exact zR h
 ·exact zR h
theorem nY(a0:Int)(a1:aF)(a2:Int)(r:Int)(h:iz a0 a1 a2=some r):aS pw 185 [.val (.int .i64 a0),.ee (aB a1) 0,.ee [.val (.int .i64 a2)] 0] (λv=>v = .val (.int .i64 r)):=by
 refine aS.oa ?_;refine aR [] func185 ntmps185 results185 ?_;unfold iz at h;have F:=trivial;refine bY ((0:Int)<=0) F λF=>?_
 refine bY ((0:Int)<((2:Nat):Int)) F λF=>?_
 refine zB F h (λF h=>?_) λF h=>?_
 ·exact zR h
 ·exact zR h
theorem wz(a0:List aG)(a1:List aG)(r:Bool)(h:iH a0 a1=some r):aS pw 15 [.aU (a0.map ay),.aU (a1.map ay)] (λv=>v = .val (.bool r)):=by
 refine aS.oa ?_;refine aR [] func15 ntmps15 results15 ?_;unfold iH at h;have F:=trivial;refine o9 F h (λF h=>?_) λF h=>?_
 ·refine zV ?_;refine zN F h () [0,1,12] (λx=>[(13,.p (.val (.int .i64 ((x.1.1:Nat):Int))))]) [] (λx H=>[]) ?_ ?_
  ·intro i2 s2 g2 _ _ F nu h;try dsimp only at h
   refine fo 9 [] ?_;refine zI ay F h λe3 F h=>?_
   refine zI ay F h λe4 F h=>?_
   refine o9 F h (λF h=>?_) λF h=>?_
   ·exact zX (z:=nu _ () h zW)
   ·exact zR h
  ·intro i2 s2 g2 _ F h;try dsimp only at h
   exact zR h
 ·exact zR h
end
noncomputable section
theorem u9(a0:List Int)(a1:List Int)(r:Bool)(h:gJ a0 a1=some r):aS pw 60 [.aU (a0.map encI),.aU (a1.map encI)] (λv=>v = .val (.bool r)):=by
 refine aS.oa ?_;refine aR [] func60 ntmps60 results60 ?_;unfold gJ at h;have F:=trivial;refine o9 F h (λF h=>?_) λF h=>?_
 ·refine zV ?_;refine zN F h () [0,1] (λx=>[(5,.p (.val (.int .i64 ((x.1.1:Nat):Int))))]) [] (λx H=>[]) ?_ ?_
  ·intro i2 s2 g2 _ _ F nu h;try dsimp only at h
   refine fo 9 [] ?_;refine zI encI F h λe3 F h=>?_
   refine zI encI F h λe4 F h=>?_
   refine o9 F h (λF h=>?_) λF h=>?_
   ·exact zX (z:=nu _ () h zW)
   ·exact zR h
  ·intro i2 s2 g2 _ F h;try dsimp only at h
   exact zR h
 ·exact zR h
theorem eH(a0:aF)(a1:Int)(r:Bool)(h:bG a0 a1=some r):aS pw 157 [.agg (aB a0),.val (.int .i64 a1)] (λv=>v = .val (.bool r)):=by
 refine aS.oa ?_;refine aR [] func157 ntmps157 results157 ?_;unfold bG at h;have F:=trivial;refine zV ?_;refine zN F h () [1,2] (λx=>[(5,.p (.val (.int .i64 ((x.1.1:Nat):Int))))]) [2] (λx H=>[]) ?_ ?_
 ·intro i2 s2 g2 _ _ F nu h;try dsimp only at h
  refine zI ag F h λe3 F h=>?_
  refine zB F h (λF h=>?_) λF h=>?_
  ·exact zR h
  ·exact zX (z:=nu _ () h zW)
 ·intro i2 s2 g2 _ F h;try dsimp only at h
  exact zR h
theorem qo(a0:eY)(a1:Int)(a2:Int)(a3:Bool)(r:Int)(h:fu a0 a1 a2 a3=some r):aS pw 301 [.agg [.aU (a0.nodes.map encI),.aU (a0.ak.map aZ)],.val (.int .i64 a1),.val (.int .i64 a2),.val (.bool a3)] (λv=>v = .val (.int .i64 r)):=by
 refine aS.oa ?_;refine aR [] func301 ntmps301 results301 ?_;unfold fu at h;have F:=trivial;refine zV ?_;refine zN F h () [1,2,3,4] (λx=>[(9,.p (.val (.int .i64 x.1.2))),(10,.p (.val (.int .i64 ((x.1.1:Nat):Int))))]) [4] (λx H=>[]) ?_ ?_
 ·intro i4 s4 g4 _ _ F Ns4 h;try dsimp only at h
  refine zI aZ F h λe5 F h=>?_
  refine oQ F h (λF h=>?_) λF h=>?_
  ·refine oQ F h (λF h=>?_) λF h=>?_
   ·refine pO F h (λF h=>?_) λF h=>?_
    ·exact zX (z:=Ns4 _ () h zW)
    ·exact zX (z:=Ns4 _ () h zW)
   ·refine zB F h (λF h=>?_) λF h=>?_
    ·exact zX (z:=Ns4 _ () h zW)
    ·exact zX (z:=Ns4 _ () h zW)
  ·exact zX (z:=Ns4 _ () h zW)
 ·intro i4 s4 g4 _ F h;try dsimp only at h
  exact zR h
theorem aeO(a0:ah)(a1:aF)(r:Bool)(h:nA a0 a1=some r):aS pw 166 [.agg (ag a0),.ee (aB a1) 0] (λv=>v = .val (.bool r)):=by
 refine aS.oa ?_;refine aR [] func166 ntmps166 results166 ?_;unfold nA at h;have F:=trivial;refine bY ((0:Int)<=0) F λF=>?_
 refine bY ((0:Int)<((2:Nat):Int)) F λF=>?_
 exact zR h
theorem tg(a0:List (List bn))(r:(List bn))(h:gb a0=some r):bt pw 106 [.aU (a0.map iR)] (λv=>v = .row 188 3 (r.map cB)):=by
 refine bt.uz ?_;refine bF [] func106 ntmps106 results106 ?_;unfold gb at h;have F:=trivial;refine zV ?_;refine zN F h () [0,9,10] (λx=>[(3,.p (.val (.int .i64 x.1.2))),(11,.p (.val (.int .i64 ((x.1.1:Nat):Int))))]) [] (λx H=>[]) ?_ ?_
 ·intro i1 s1 g1 _ _ F Ns1 h;try dsimp only at h
  refine zI iR F h λe2 F h=>?_
  refine zB F h (λF h=>?_) λF h=>?_
  ·cases h
  ·exact zX (z:=Ns1 _ () h zW)
 ·intro i1 s1 g1 _ F h;try dsimp only at h
  refine zG 1384 F h (uY _ _) λr3 h=>?_
  refine zV ?_;refine zN F h (0:Nat) [25,26] (λx=>[(6,.row 1384 x.2),(27,.p (.val (.int .i64 ((x.1.1:Nat):Int))))]) [] (λx H=>[(1384,.row x.2 188 3 (x.1.2.map cB))]) ?_ ?_
  ·intro i4 s4 g4 _ _ F Ns4 h;try dsimp only at h
   refine zI iR F h λe5 F h=>?_
   refine zC F h λF h=>?_
   refine dJ (s4.length+e5.length) 24 F λF=>?_
   refine zF (eq_true (fc (n:=3) (f:=cB) (λ_=>rfl) e5)) F λF=>?_
   exact zX (z:=Ns4 _ (g4+1) h zW)
  ·intro i4 s4 g4 _ F h;try dsimp only at h
   exact jC h
end
noncomputable section
theorem vb(a0:Types)(r:(List Int))(h:gI a0=some r):bt pw 92 [.agg [.aU (a0.nodes.map aJ),.aU (a0.ak.map aP)]] (λv=>v = .row 3 1 (r.map encI)):=by
 refine bt.uz ?_;refine bF [22] func92 ntmps92 results92 ?_;unfold gI at h;have F:=trivial;refine zV ?_;refine zN F h (0:Nat) [1] (λx=>[(3,.row 3340 x.2),(4,.p (.val (.int .i64 ((x.1.1:Nat):Int))))]) [1] (λx H=>[(3340,.row x.2 3 1 (x.1.2.map encI))]) ?_ ?_ (hw:=by refine dx.trans (ja 3 3340 3 1 rfl rfl (by decide)) ?_;exact zW)
 ·intro i1 s1 g1 _ _ F Ns1 h;try dsimp only at h
  refine zI aJ F h λe2 F h=>?_
  refine o9 F h (λF h=>?_) λF h=>?_
  ·exact zX (z:=Ns1 _ g1 h zW)
  ·refine zC F h λF h=>?_
   refine dJ (s1.length+1) 8 F λF=>?_
   refine zF (bz encI s1 [((i1:Nat):Int)] (c:=[[.val (.int .i64 ((i1:Nat):Int))]]) rfl) F λF=>?_
   exact zX (z:=Ns1 _ (g1+1) h zW)
 ·intro i1 s1 g1 _ F h;try dsimp only at h
  exact jC h
theorem ya(a0:aF)(a1:Int)(r:Bool)(h:jh a0 a1=some r):aS pw 256 [.agg (aB a0),.val (.int .i64 a1)] (λv=>v = .val (.bool r)):=by
 refine aS.oa ?_;refine aR [] func256 ntmps256 results256 ?_;unfold jh at h;have F:=trivial;refine zV ?_;refine zN F h () [1,2] (λx=>[(5,.p (.val (.int .i64 ((x.1.1:Nat):Int))))]) [2] (λx H=>[]) ?_ ?_
 ·intro i2 s2 g2 _ _ F nu h;try dsimp only at h
  refine zI aj F h λe3 F h=>?_
  refine zB F h (λF h=>?_) λF h=>?_
  ·exact zR h
  ·exact zX (z:=nu _ () h zW)
 ·intro i2 s2 g2 _ F h;try dsimp only at h
  exact zR h
theorem th(a0:List ax)(p1:ax->Option Bool)(k1:FuncId)(fs1 cs1:List PV)(hp1:∀x0 r,p1 x0=some r->aS pw k1 (fs1++[.agg (aj x0)]++cs1) (λv=>v = .val (.bool r)))(r:Int)(h:ga a0 p1=some r):aS pw 240 [.aU (a0.map aj),.iK (.func k1) fs1 cs1] (λv=>v = .val (.int .i64 r)):=by
 refine aS.oa ?_;refine aR [] func240 ntmps240 results240 ?_;unfold ga at h;have F:=trivial;refine zV ?_;refine zN F h () [0,1,7] (λx=>[(8,.p (.val (.int .i64 ((x.1.1:Nat):Int))))]) [] (λx H=>[]) ?_ ?_
 ·intro i2 s2 g2 _ _ F nu h;try dsimp only at h
  refine zI aj F h λe3 F h=>?_
  refine zP F h (hp1 _) λr4 h=>?_
  refine zB F h (λF h=>?_) λF h=>?_
  ·exact zR h
  ·exact zX (z:=nu _ () h zW)
 ·intro i2 s2 g2 _ F h;try dsimp only at h
  exact zR h
theorem vv(a0:List (List aG))(r:(List aG))(h:iq a0=some r):bt pw 101 [.aU (a0.map jI)] (λv=>v = .row 57 3 (r.map ay)):=by
 refine bt.uz ?_;refine bF [] func101 ntmps101 results101 ?_;unfold iq at h;have F:=trivial;refine zV ?_;refine zN F h () [0,9,10] (λx=>[(3,.p (.val (.int .i64 x.1.2))),(11,.p (.val (.int .i64 ((x.1.1:Nat):Int))))]) [] (λx H=>[]) ?_ ?_
 ·intro i1 s1 g1 _ _ F Ns1 h;try dsimp only at h
  refine zI jI F h λe2 F h=>?_
  refine zB F h (λF h=>?_) λF h=>?_
  ·cases h
  ·exact zX (z:=Ns1 _ () h zW)
 ·intro i1 s1 g1 _ F h;try dsimp only at h
  refine zG 1384 F h (xd _ _) λr3 h=>?_
  refine zV ?_;refine zN F h (0:Nat) [25,26] (λx=>[(6,.row 1384 x.2),(27,.p (.val (.int .i64 ((x.1.1:Nat):Int))))]) [] (λx H=>[(1384,.row x.2 57 3 (x.1.2.map ay))]) ?_ ?_
  ·intro i4 s4 g4 _ _ F Ns4 h;try dsimp only at h
   refine zI jI F h λe5 F h=>?_
   refine zC F h λF h=>?_
   refine dJ (s4.length+e5.length) 24 F λF=>?_
   refine zF (eq_true (fc (n:=3) (f:=ay) (λ_=>rfl) e5)) F λF=>?_
   exact zX (z:=Ns4 _ (g4+1) h zW)
  ·intro i4 s4 g4 _ F h;try dsimp only at h
   exact jC h
theorem aqe(a0:Types)(a1:Int)(a2:Int)(r:Bool)(h:u7 a0 a1 a2=some r):aS pw 312 [.agg [.aU (a0.nodes.map aJ),.aU (a0.ak.map aP)],.val (.int .i64 a1),.val (.int .i64 a2)] (λv=>v = .val (.bool r)):=by
 refine aS.oa ?_;refine aR [] func312 ntmps312 results312 ?_;unfold u7 at h;have F:=trivial;refine zK F h (ahm _ _) λr3 h=>?_
 refine oQ F h (λF h=>?_) λF h=>?_
 ·refine zK F h (apJ _ _ _) λr4 h=>?_
  exact zR h
 ·exact zR h
theorem vc(a0:List Int)(a1:List Int)(r:Bool)(h:gO a0 a1=some r):aS pw 49 [.aU (a0.map encI),.aU (a1.map encI)] (λv=>v = .val (.bool r)):=by
 refine aS.oa ?_;refine aR [] func49 ntmps49 results49 ?_;unfold gO at h;have F:=trivial;refine o9 F h (λF h=>?_) λF h=>?_
 ·refine zV ?_;refine zN F h () [0,1,12] (λx=>[(13,.p (.val (.int .i64 ((x.1.1:Nat):Int))))]) [] (λx H=>[]) ?_ ?_
  ·intro i2 s2 g2 _ _ F nu h;try dsimp only at h
   refine fo 9 [] ?_;refine zI encI F h λe3 F h=>?_
   refine zI encI F h λe4 F h=>?_
   refine o9 F h (λF h=>?_) λF h=>?_
   ·exact zX (z:=nu _ () h zW)
   ·exact zR h
  ·intro i2 s2 g2 _ F h;try dsimp only at h
   exact zR h
 ·exact zR h
end
noncomputable section
theorem rH(a0:List Int)(a1:Int)(r:Int)(h:iB a0 a1=some r):aS pw 82 [.aU (a0.map encI),.val (.int .i64 a1)] (λv=>v = .val (.int .i64 r)):=by
 refine aS.oa ?_;refine aR [] func82 ntmps82 results82 ?_;unfold iB at h;have F:=trivial;refine zV ?_;refine zN F h () [0,1] (λx=>[(5,.p (.val (.int .i64 ((x.1.1:Nat):Int))))]) [] (λx H=>[]) ?_ ?_
 ·intro i2 s2 g2 _ _ F nu h;try dsimp only at h
  refine zI encI F h λe3 F h=>?_
  refine pO F h (λF h=>?_) λF h=>?_
  ·exact zR h
  ·refine zB F h (λF h=>?_) λF h=>?_
   ·exact zR h
   ·refine fo 14 [] ?_;refine zBd F h (λF h=>?_) λF h=>?_
    ·refine zA encI F h λe4 F h=>?_
     refine zB F h (λF h=>?_) λF h=>?_
     ·exact zR h
     ·exact zX (z:=nu _ () h zW)
    ·exact zX (z:=nu _ () h zW)
 ·intro i2 s2 g2 _ F h;try dsimp only at h
  exact zR h
theorem jV(a0:aF)(a1:Int)(a2:Int)(r:aO×Bool)(h:cc a0 a1 a2=some r):aS pw 159 [.agg (aB a0),.val (.int .i64 a1),.val (.int .i64 a2)] (λv=>v = .dW [.agg (aI r.1),.val (.bool r.2)]):=by
 refine aS.oa ?_;refine aR [] func159 ntmps159 results159 ?_;unfold cc at h;have F:=trivial;refine zV ?_;refine zN F h () [1,2,3,6] (λx=>[(8,.p (.val (.int .i64 ((x.1.1:Nat):Int))))]) [3,6] (λx H=>[]) ?_ ?_
 ·intro i3 s3 g3 _ _ F yR h;try dsimp only at h
  refine zI aI F h λe4 F h=>?_
  refine oQ F h (λF h=>?_) λF h=>?_
  ·refine zB F h (λF h=>?_) λF h=>?_
   ·exact zR h
   ·exact zX (z:=yR _ () h zW)
  ·exact zX (z:=yR _ () h zW)
 ·intro i3 s3 g3 _ F h;try dsimp only at h
  exact zR h
theorem aeP(a0:ax)(a1:aF)(r:Bool)(h:nB a0 a1=some r):aS pw 168 [.agg (aj a0),.ee (aB a1) 0] (λv=>v = .val (.bool r)):=by
 refine aS.oa ?_;refine aR [] func168 ntmps168 results168 ?_;unfold nB at h;have F:=trivial;refine bY ((0:Int)<=0) F λF=>?_
 refine bY ((0:Int)<((2:Nat):Int)) F λF=>?_
 exact zR h
theorem acJ(a0:ah)(a1:Int)(r:Bool)(h:lB a0 a1=some r):aS pw 169 [.agg (ag a0),.ee [.val (.int .i64 a1)] 0] (λv=>v = .val (.bool r)):=by refine aS.oa ?_;refine aR [] func169 ntmps169 results169 ?_;unfold lB at h;have F:=trivial;exact zR h
theorem tY(a0:List bn)(a1:bn)(r:Int)(h:gr a0 a1=some r):aS pw 188 [.aU (a0.map cB),.agg (cB a1)] (λv=>v = .val (.int .i64 r)):=by
 refine aS.oa ?_;refine aR [] func188 ntmps188 results188 ?_;unfold gr at h;have F:=trivial;refine zV ?_;refine zN F h () [0,3,7] (λx=>[(8,.p (.val (.int .i64 ((x.1.1:Nat):Int))))]) [3] (λx H=>[]) ?_ ?_
 ·intro i2 s2 g2 _ _ F nu h;try dsimp only at h
  refine fo 6 [] ?_;refine zI cB F h λe3 F h=>?_
  refine zB F h (λF h=>?_) λF h=>?_
  ·exact zR h
  ·exact zX (z:=nu _ () h zW)
 ·intro i2 s2 g2 _ F h;try dsimp only at h
  exact zR h
theorem qp(a0:az)(a1:List aO)(r:Bool)(h:fC a0 a1=some r):aS pw 22 [.agg (aD a0),.aU (a1.map aI)] (λv=>v = .val (.bool r)):=by
 refine aS.oa ?_;refine aR [] func22 ntmps22 results22 ?_;unfold fC at h;have F:=trivial;refine zV ?_;refine zN F h () [2,8,9] (λx=>[(10,.p (.val (.int .i64 ((x.1.1:Nat):Int))))]) [2] (λx H=>[]) ?_ ?_
 ·intro i2 s2 g2 _ _ F nu h;try dsimp only at h
  refine zI aI F h λe3 F h=>?_
  refine zK F h (ni _ _) λr4 h=>?_
  refine fo 29 [] ?_;refine amM F h (λF h=>?_) λF h=>?_
  ·exact zR h
  ·refine zA bJ F h λe5 F h=>?_
   refine amM F h (λF h=>?_) λF h=>?_
   ·exact zR h
   ·refine zA encI F h λe6 F h=>?_
    refine o9 F h (λF h=>?_) λF h=>?_
    ·exact zX (z:=nu _ () h zW)
    ·exact zR h
 ·intro i2 s2 g2 _ F h;try dsimp only at h
  exact zR h
end
noncomputable section
theorem nZ(a0:aQ)(a1:Int)(r:Bool)(h:eT a0 a1=some r):aS pw 199 [.agg [.aU (a0.nodes.map ag),.aU (a0.ak.map aj)],.val (.int .i64 a1)] (λv=>v = .val (.bool r)):=by
 refine aS.oa ?_;refine aR [] func199 ntmps199 results199 ?_;unfold eT at h;have F:=trivial;refine zV ?_;refine zN F h () [1,2] (λx=>[(5,.p (.val (.int .i64 ((x.1.1:Nat):Int))))]) [2] (λx H=>[]) ?_ ?_
 ·intro i2 s2 g2 _ _ F nu h;try dsimp only at h
  refine zI ag F h λe3 F h=>?_
  refine zB F h (λF h=>?_) λF h=>?_
  ·exact zR h
  ·exact zX (z:=nu _ () h zW)
 ·intro i2 s2 g2 _ F h;try dsimp only at h
  refine zV ?_;refine zN F h () [1,2] (λx=>[(6,.p (.val (.int .i64 ((x.1.1:Nat):Int))))]) [2] (λx H=>[]) ?_ ?_
  ·intro i4 s4 g4 _ _ F Ns4 h;try dsimp only at h
   refine zI aj F h λe5 F h=>?_
   refine zB F h (λF h=>?_) λF h=>?_
   ·exact zR h
   ·exact zX (z:=Ns4 _ () h zW)
  ·intro i4 s4 g4 _ F h;try dsimp only at h
   exact zR h
theorem nk(a0:aF)(a1:Int)(r:Bool)(h:fR a0 a1=some r):aS pw 158 [.agg (aB a0),.val (.int .i64 a1)] (λv=>v = .val (.bool r)):=by
 refine aS.oa ?_;refine aR [] func158 ntmps158 results158 ?_;unfold fR at h;have F:=trivial;refine zV ?_;refine zN F h () [1,2] (λx=>[(5,.p (.val (.int .i64 ((x.1.1:Nat):Int))))]) [2] (λx H=>[]) ?_ ?_
 ·intro i2 s2 g2 _ _ F nu h;try dsimp only at h
  refine zI aj F h λe3 F h=>?_
  refine pO F h (λF h=>?_) λF h=>?_
  ·exact zR h
  ·refine zB F h (λF h=>?_) λF h=>?_
   ·exact zR h
   ·exact zX (z:=nu _ () h zW)
 ·intro i2 s2 g2 _ F h;try dsimp only at h
  exact zR h
theorem mV(a0:List ah)(r:(List ah))(h:ew a0=some r):bt pw 87 [.aU (a0.map ag)] (λv=>v = .row 75 3 (r.map ag)):=by
 refine bt.uz ?_;refine bF [24] func87 ntmps87 results87 ?_;unfold ew at h;have F:=trivial;refine zV ?_;refine zN F h (0:Nat) [0] (λx=>[(3,.row 9778 x.2),(4,.p (.val (.int .i64 ((x.1.1:Nat):Int))))]) [] (λx H=>[(9778,.row x.2 75 3 (x.1.2.map ag))]) ?_ ?_ (hw:=by refine dx.trans (ja 3 9778 75 3 rfl rfl (by decide)) ?_;exact zW)
 ·intro i1 s1 g1 _ _ F Ns1 h;try dsimp only at h
  refine zI ag F h λe2 F h=>?_
  refine zC F h λF h=>?_
  refine dJ e2.values.length 8 F λF=>?_
  refine zF (eq_true (fc (n:=1) (f:=encI) (λ_=>rfl) e2.values)) F λF=>?_
  refine zC F h λF h=>?_
  refine dJ (s1.length+1) 40 F λF=>?_
  refine zF (bz ag s1 [e2] (c:=[[.val (.int .i64 e2.id),.val (.int .i64 e2.type),.aU (e2.values.map encI)]]) rfl) F λF=>?_
  exact zX (z:=Ns1 _ (g1+1) h zW)
 ·intro i1 s1 g1 _ F h;try dsimp only at h
  exact jC h
theorem vw  (r:Types)(h:ij  = some r):bt pw 47 [] (λv=>v = .agg [.row 165 4 (r.nodes.map aJ),.row 170 7 (r.ak.map aP)]):=by refine bt.uz ?_;refine bF [10,13] func47 ntmps47 results47 ?_;unfold ij at h;have F:=trivial;exact jC h
theorem qR  (r:az)(h:hU  = some r):bt pw 48 [] (λv=>v = .agg [.row 3 1 (r.host.graph.nodes.map encI),.row 175 3 (r.host.graph.ak.map aZ),.row 32 1 (r.host.values.map bJ),.row 3 1 (r.nodes.map encI),.row 3 1 (r.ak.map encI),.p (.val (.int .i64 r.next))]):=by refine bt.uz ?_;refine bF [1,4,8,10,11] func48 ntmps48 results48 ?_;unfold hU at h;have F:=trivial;exact jC h
theorem tj(a0:List ah)(p1:ah->Option Bool)(k1:FuncId)(fs1 cs1:List PV)(hp1:∀x0 r,p1 x0=some r->aS pw k1 (fs1++[.agg (ag x0)]++cs1) (λv=>v = .val (.bool r)))(r:Int)(h:fZ a0 p1=some r):aS pw 238 [.aU (a0.map ag),.iK (.func k1) fs1 cs1] (λv=>v = .val (.int .i64 r)):=by
 refine aS.oa ?_;refine aR [] func238 ntmps238 results238 ?_;unfold fZ at h;have F:=trivial;refine zV ?_;refine zN F h () [0,1,7] (λx=>[(8,.p (.val (.int .i64 ((x.1.1:Nat):Int))))]) [] (λx H=>[]) ?_ ?_
 ·intro i2 s2 g2 _ _ F nu h;try dsimp only at h
  refine zI ag F h λe3 F h=>?_
  refine zP F h (hp1 _) λr4 h=>?_
  refine zB F h (λF h=>?_) λF h=>?_
  ·exact zR h
  ·exact zX (z:=nu _ () h zW)
 ·intro i2 s2 g2 _ F h;try dsimp only at h
  exact zR h
end
noncomputable section
theorem qS(a0:Types)(a1:dg)(r:Host)(h:gW a0 a1=some r):bt pw 45 [.agg [.aU (a0.nodes.map aJ),.aU (a0.ak.map aP)],.agg [.aU (a1.nodes.map eo),.aU (a1.ak.map dZ)]] (λv=>v = .agg [.row 3 1 (r.graph.nodes.map encI),.row 175 3 (r.graph.ak.map aZ),.row 32 1 (r.values.map bJ)]):=by
 refine bt.uz ?_;refine bF [53,91,97,102,184] func45 ntmps45 results45 ?_;unfold gW at h;have F:=trivial;refine zG 1272 F h (vb _) λr2 h=>?_
 refine zV ?_;refine zL F h ((0,0):Nat×Nat) [2,3,4,5,6] (λx=>[(7,.p (.val (.int .i64 x.1.1)))]) [2,3,4,1272] (λx H=>[(5,.box [.row 4200 x.2.1,.p (.val (.slice none 0 0)),.row 4201 x.2.2]),(4200,.row x.2.1 3 1 (x.1.2.1.map encI)),(4201,.row x.2.2 32 1 (x.1.2.2.map bJ))]) ?_ (hw:=by refine dx.trans (cz 5 0 4200 3 1 _ rfl rfl rfl (by decide)) ?_;refine dx.trans (cz 5 2 4201 32 1 _ rfl rfl rfl (by decide)) ?_;exact zW);intro s3 g3 _ _ F yR h;try dsimp only at h
 refine oQ F h (λF h=>?_) λF h=>?_
 ·refine oQ F h (λF h=>?_) λF h=>?_
  ·refine zB F h (λF h=>?_) λF h=>?_
   ·refine zA eo F h λe4 F h=>?_
    refine bY ((0:Int)<=0) F λF=>?_
    refine bY ((0:Int)<((2:Nat):Int)) F λF=>?_
    refine zC F h λF h=>?_
    refine zA encI F h λe5 F h=>?_
    refine zK F h (xb _ _) λr6 h=>?_
    refine zV ?_;refine zN F h (0:Nat) [2,3,4,5,6,7,8,9] (λx=>[(11,.row 53 x.2),(12,.p (.val (.int .i64 ((x.1.1:Nat):Int))))]) [2,3,4,5,1272,4200,4201] (λx H=>[(53,.row x.2 3 1 (x.1.2.map encI))]) ?_ ?_
    ·intro i7 s7 g7 _ _ F Ns7 h;try dsimp only at h
     refine zD [.p,.q,.q,.q,.q,.q,.q,.q,.q,.q,.q,.q,.q,.q,.q,.q,.q,.q,.q,.q,.q,.q,.q,.q,.q,.q,.q,.q,.q,.q,.p,.w,.q] ?_;refine zI aV F h λe8 F h=>?_
     refine bY ((0:Int)<=1) F λF=>?_
     refine bY ((1:Int)<((2:Nat):Int)) F λF=>?_
     refine zC F h λF h=>?_
     refine zC F h λF h=>?_
     refine dJ (s7.length+1) 8 F λF=>?_
     refine zF (bz encI s7 [(i64.wrap (e8.low+((i64.wrap ((i64.wrap e4.x1)+(i64.wrap (7 * ((i7:Nat):Int))))).tmod (i64.wrap ((i64.wrap (e8.high-e8.low))+1)))))] (c:=[[.val (.int .i64 (i64.wrap (e8.low+((i64.wrap ((i64.wrap e4.x1)+(i64.wrap (7 * ((i7:Nat):Int))))).tmod (i64.wrap ((i64.wrap (e8.high-e8.low))+1))))))]]) rfl) F λF=>?_
     exact zX (z:=Ns7 _ (g7+1) h zW)
    ·intro i7 s7 g7 _ F h;try dsimp only at h
     refine zV ?_;refine kS 53 g7 3 1 (s7.map encI) [11] (by simp -implicitDefEqProofs only[go_sem,F]<;>rfl) (by simp -implicitDefEqProofs only[go_sem,F]<;>and_intros<;>rfl) (by decide) ?_;refine zE [(0,.p),(1,.p),(3,.p),(4,.p),(6,.p),(8,.b),(9,.p),(2,.q),(7,.b),(5,.w),(11,.b),(12,.b),(10,.w),(13,.w),(14,.q),(15,.w)] ?_;refine zC F h λF h=>?_
     refine dJ (s3.2.1.length+1) 8 F λF=>?_
     refine zF (bz encI s3.2.1 [e5] (c:=[[.val (.int .i64 e5)]]) rfl) F λF=>?_
     refine zC F h λF h=>?_
     refine dJ (s3.2.2.length+1) 24 F λF=>?_
     refine zF (bz bJ s3.2.2 [s7] (c:=[[.aU (s7.map encI)]]) rfl) F λF=>?_
     exact zX (z:=yR _ (g3.1+1,g3.2+1) h zW)
   ·try dsimp only at h
    refine zV ?_;refine zL F h (0:Nat) [2,3,4,5,13] (λx=>[(14,.p (.val (.int .i64 x.1.1)))]) [2,3,4,4200,4201] (λx H=>[(5,bx (H 5) [(1,.row 4434 x.2)]),(4434,.row x.2 175 3 (x.1.2.map aZ))]) ?_ (hw:=by refine dx.trans (cz 5 1 4434 175 3 _ rfl rfl rfl (by decide)) ?_;exact zW);intro s9 g9 _ _ F Ns9 h;try dsimp only at h
    refine oQ F h (λF h=>?_) λF h=>?_
    ·refine oQ F h (λF h=>?_) λF h=>?_
     ·refine oQ F h (λF h=>?_) λF h=>?_
      ·refine zB F h (λF h=>?_) λF h=>?_
       ·refine fo 30 [.w,.s] ?_;refine zA dZ F h λvr F h=>?_
        refine bY ((0:Int)<=0) F λF=>?_
        refine bY ((0:Int)<((3:Nat):Int)) F λF=>?_
        refine zC F h λF h=>?_
        refine bY ((0:Int)<=1) F λF=>?_
        refine bY ((1:Int)<((3:Nat):Int)) F λF=>?_
        refine zC F h λF h=>?_
        refine bY ((0:Int)<=2) F λF=>?_
        refine bY ((2:Int)<((3:Nat):Int)) F λF=>?_
        refine zC F h λF h=>?_
        refine fo 18 [] ?_;refine zA encI F h λe11 F h=>?_
        refine zA encI F h λyE F h=>?_
        refine uD F h (nh _ _ _ _) λyP h=>?_
        refine zB F h (λF h=>?_) λF h=>?_
        ·refine zC F h λF h=>?_
         refine dJ (s9.2.length+1) 24 F λF=>?_
         refine zF (bz aZ s9.2 [(⟨((i64.wrap vr.x0).tmod ((a0.ak.length:Nat):Int)),((i64.wrap vr.x1).tmod ((s3.2.1.length:Nat):Int)),((i64.wrap vr.x2).tmod ((s3.2.1.length:Nat):Int))⟩:Edge)] (c:=[[.val (.int .i64 ((i64.wrap vr.x0).tmod ((a0.ak.length:Nat):Int))),.val (.int .i64 ((i64.wrap vr.x1).tmod ((s3.2.1.length:Nat):Int))),.val (.int .i64 ((i64.wrap vr.x2).tmod ((s3.2.1.length:Nat):Int)))]]) rfl) F λF=>?_
         exact zX (z:=Ns9 _ (g9+1) h zW)
        ·exact zX (z:=Ns9 _ g9 h zW)
       ·try dsimp only at h
        exact jC h
      ·try dsimp only at h
       exact jC h
     ·try dsimp only at h
      exact jC h
    ·try dsimp only at h
     exact jC h
  ·try dsimp only at h
   refine zV ?_;refine zL F h (0:Nat) [2,3,4,5,13] (λx=>[(14,.p (.val (.int .i64 x.1.1)))]) [2,3,4,4200,4201] (λx H=>[(5,bx (H 5) [(1,.row 4544 x.2)]),(4544,.row x.2 175 3 (x.1.2.map aZ))]) ?_ (hw:=by refine dx.trans (cz 5 1 4544 175 3 _ rfl rfl rfl (by decide)) ?_;exact zW);intro s14 g14 _ _ F agj h;try dsimp only at h
   refine oQ F h (λF h=>?_) λF h=>?_
   ·refine oQ F h (λF h=>?_) λF h=>?_
    ·refine oQ F h (λF h=>?_) λF h=>?_
     ·refine zB F h (λF h=>?_) λF h=>?_
      ·refine fo 30 [.w,.s] ?_;refine zA dZ F h λe15 F h=>?_
       refine bY ((0:Int)<=0) F λF=>?_
       refine bY ((0:Int)<((3:Nat):Int)) F λF=>?_
       refine zC F h λF h=>?_
       refine bY ((0:Int)<=1) F λF=>?_
       refine bY ((1:Int)<((3:Nat):Int)) F λF=>?_
       refine zC F h λF h=>?_
       refine bY ((0:Int)<=2) F λF=>?_
       refine bY ((2:Int)<((3:Nat):Int)) F λF=>?_
       refine zC F h λF h=>?_
       refine fo 18 [] ?_;refine zA encI F h λe16 F h=>?_
       refine zA encI F h λe17 F h=>?_
       refine uD F h (nh _ _ _ _) λr18 h=>?_
       refine zB F h (λF h=>?_) λF h=>?_
       ·refine zC F h λF h=>?_
        refine dJ (s14.2.length+1) 24 F λF=>?_
        refine zF (bz aZ s14.2 [(⟨((i64.wrap e15.x0).tmod ((a0.ak.length:Nat):Int)),((i64.wrap e15.x1).tmod ((s3.2.1.length:Nat):Int)),((i64.wrap e15.x2).tmod ((s3.2.1.length:Nat):Int))⟩:Edge)] (c:=[[.val (.int .i64 ((i64.wrap e15.x0).tmod ((a0.ak.length:Nat):Int))),.val (.int .i64 ((i64.wrap e15.x1).tmod ((s3.2.1.length:Nat):Int))),.val (.int .i64 ((i64.wrap e15.x2).tmod ((s3.2.1.length:Nat):Int)))]]) rfl) F λF=>?_
        exact zX (z:=agj _ (g14+1) h zW)
       ·exact zX (z:=agj _ g14 h zW)
      ·try dsimp only at h
       exact jC h
     ·try dsimp only at h
      exact jC h
    ·try dsimp only at h
     exact jC h
   ·try dsimp only at h
    exact jC h
 ·try dsimp only at h
  refine zV ?_;refine zL F h (0:Nat) [2,3,4,5,13] (λx=>[(14,.p (.val (.int .i64 x.1.1)))]) [2,3,4,4200,4201] (λx H=>[(5,bx (H 5) [(1,.row 4654 x.2)]),(4654,.row x.2 175 3 (x.1.2.map aZ))]) ?_ (hw:=by refine dx.trans (cz 5 1 4654 175 3 _ rfl rfl rfl (by decide)) ?_;exact zW);intro s19 g19 _ _ F aFs h;try dsimp only at h
  refine oQ F h (λF h=>?_) λF h=>?_
  ·refine oQ F h (λF h=>?_) λF h=>?_
   ·refine oQ F h (λF h=>?_) λF h=>?_
    ·refine zB F h (λF h=>?_) λF h=>?_
     ·refine fo 30 [.w,.s] ?_;refine zA dZ F h λe20 F h=>?_
      refine bY ((0:Int)<=0) F λF=>?_
      refine bY ((0:Int)<((3:Nat):Int)) F λF=>?_
      refine zC F h λF h=>?_
      refine bY ((0:Int)<=1) F λF=>?_
      refine bY ((1:Int)<((3:Nat):Int)) F λF=>?_
      refine zC F h λF h=>?_
      refine bY ((0:Int)<=2) F λF=>?_
      refine bY ((2:Int)<((3:Nat):Int)) F λF=>?_
      refine zC F h λF h=>?_
      refine fo 18 [] ?_;refine zA encI F h λe21 F h=>?_
      refine zA encI F h λe22 F h=>?_
      refine uD F h (nh _ _ _ _) λr23 h=>?_
      refine zB F h (λF h=>?_) λF h=>?_
      ·refine zC F h λF h=>?_
       refine dJ (s19.2.length+1) 24 F λF=>?_
       refine zF (bz aZ s19.2 [(⟨((i64.wrap e20.x0).tmod ((a0.ak.length:Nat):Int)),((i64.wrap e20.x1).tmod ((s3.2.1.length:Nat):Int)),((i64.wrap e20.x2).tmod ((s3.2.1.length:Nat):Int))⟩:Edge)] (c:=[[.val (.int .i64 ((i64.wrap e20.x0).tmod ((a0.ak.length:Nat):Int))),.val (.int .i64 ((i64.wrap e20.x1).tmod ((s3.2.1.length:Nat):Int))),.val (.int .i64 ((i64.wrap e20.x2).tmod ((s3.2.1.length:Nat):Int)))]]) rfl) F λF=>?_
       exact zX (z:=aFs _ (g19+1) h zW)
      ·exact zX (z:=aFs _ g19 h zW)
     ·try dsimp only at h
      exact jC h
    ·try dsimp only at h
     exact jC h
   ·try dsimp only at h
    exact jC h
  ·try dsimp only at h
   exact jC h
end
noncomputable section
theorem tq(a0:aQ)(a1:aF)(r:aQ×Bool)(h:fW a0 a1=some r):aS pw 117 [.agg [.aU (a0.nodes.map ag),.aU (a0.ak.map aj)],.agg (aB a1)] (λv=>v = .dW [.agg [.aU (r.1.nodes.map ag),.aU (r.1.ak.map aj)],.val (.bool r.2)]):=by
 refine aS.oa ?_;refine aR [86,147] func117 ntmps117 results117 ?_;unfold fW at h;have F:=trivial;refine zV ?_;refine zN F h () [2,3,4] (λx=>[(6,.p (.val (.int .i64 ((x.1.1:Nat):Int))))]) [2,3,4] (λx H=>[]) ?_ ?_
 ·intro i2 s2 g2 _ _ F nu h;try dsimp only at h
  refine fo 8 [] ?_;refine zI ag F h λe3 F h=>?_
  refine uD F h (nZ _ _) λr4 h=>?_
  refine zB F h (λF h=>?_) λF h=>?_
  ·exact zR h
  ·exact zX (z:=nu _ () h zW)
 ·intro i2 s2 g2 _ F h;try dsimp only at h
  refine zV ?_;refine zN F h () [2,3,4] (λx=>[(7,.p (.val (.int .i64 ((x.1.1:Nat):Int))))]) [2,3,4] (λx H=>[]) ?_ ?_
  ·intro i5 s5 g5 _ _ F Ns5 h;try dsimp only at h
   refine fo 8 [] ?_;refine zI aj F h λe6 F h=>?_
   refine uD F h (nZ _ _) λr7 h=>?_
   refine zB F h (λF h=>?_) λF h=>?_
   ·exact zR h
   ·exact zX (z:=Ns5 _ () h zW)
  ·intro i5 s5 g5 _ F h;try dsimp only at h
   refine zV ?_;refine zL F h (0:Nat) [2,3,4,8] (λx=>[(9,.p (.val (.int .i64 x.1.1))),(10,.p (.val (.int .i64 x.1.2.1)))]) [2,3,4] (λx H=>[(8,bx (H 8) [(0,.row 8207 x.2)]),(8207,.row x.2 75 3 (x.1.2.2.map ag))]) ?_ (hw:=by refine dx.trans (cz 8 0 8207 75 3 _ rfl rfl rfl (by decide)) ?_;exact zW);intro s8 g8 _ _ F Ns8 h;try dsimp only at h
   refine zB F h (λF h=>?_) λF h=>?_
   ·refine zV ?_;refine zL F h (g8:Nat) [2,3,4,8,10] (λx=>[(9,.p (.val (.int .i64 x.1.1)))]) [2,3,4] (λx H=>[(8,bx (H 8) [(0,.row 8207 x.2)]),(8207,.row x.2 75 3 (x.1.2.map ag))]) ?_;intro s9 g9 _ _ F Ns9 h;try dsimp only at h
    refine fo 27 [] ?_;refine zBd F h (λF h=>?_) λF h=>?_
    ·refine amM F h (λF h=>?_) λF h=>?_
     ·refine zE [(0,.p),(2,.q),(3,.q),(4,.q),(5,.q),(6,.q),(7,.p),(1,.q),(8,.w),(9,.q),(10,.w)] ?_;refine zA ag F h λvr F h=>?_
      refine zC F h λF h=>?_
      refine dJ (s9.2.length+1) 40 F λF=>?_
      refine zF (bz ag s9.2 [vr] (c:=[[.val (.int .i64 vr.id),.val (.int .i64 vr.type),.aU (vr.values.map encI)]]) rfl) F λF=>?_
      exact zX (z:=Ns9 _ (g9+1) h zW)
     ·refine zA ag F h λe11 F h=>?_
      refine zAq ag F h λyE aJd F h=>?_
      refine zB F h (λF h=>?_) λF h=>?_
      ·refine zE [(0,.p),(2,.q),(3,.q),(4,.q),(5,.q),(6,.q),(7,.p),(1,.q),(8,.w),(9,.q),(10,.w)] ?_;refine zC F h λF h=>?_
       refine dJ (s9.2.length+1) 40 F λF=>?_
       refine zF (bz ag s9.2 [e11] (c:=[[.val (.int .i64 e11.id),.val (.int .i64 e11.type),.aU (e11.values.map encI)]]) rfl) F λF=>?_
       exact zX (z:=Ns9 _ (g9+1) h zW)
      ·try dsimp only at h
       replace h:=zj h (dB (by omega));refine zE [(0,.p),(2,.q),(3,.q),(4,.q),(5,.q),(6,.q),(7,.p),(1,.q),(8,.w),(9,.q),(10,.w)] ?_;refine zU aJd h λh=>?_
       refine zC F h λF h=>?_
       refine dJ (s9.2.length+1) 40 F λF=>?_
       refine zF (bz ag s9.2 [yE] (c:=[[.val (.int .i64 yE.id),.val (.int .i64 yE.type),.aU (yE.values.map encI)]]) rfl) F λF=>?_
       exact zX (z:=Ns8 _ (g9+1) h zW)
    ·try dsimp only at h
     refine zB F h (λF h=>?_) λF h=>?_
     ·refine zE [(0,.p),(2,.q),(3,.q),(4,.q),(5,.q),(6,.q),(7,.p),(1,.q),(8,.w),(9,.q),(10,.w)] ?_;refine zAq ag F h λe13 qe13 F h=>?_
      refine zC F h λF h=>?_
      refine dJ (s9.2.length+1) 40 F λF=>?_
      refine zF (bz ag s9.2 [e13] (c:=[[.val (.int .i64 e13.id),.val (.int .i64 e13.type),.aU (e13.values.map encI)]]) rfl) F λF=>?_
      exact zX (z:=Ns8 _ (g9+1) h zW)
     ·exact zX (z:=Ns8 _ g9 h zW)
   ·try dsimp only at h
    refine zV ?_;refine zL F h (0:Nat) [2,3,4,8] (λx=>[(9,.p (.val (.int .i64 x.1.1))),(11,.p (.val (.int .i64 x.1.2.1)))]) [2,3,4,8207] (λx H=>[(8,bx (H 8) [(1,.row 8619 x.2)]),(8619,.row x.2 102 4 (x.1.2.2.map aj))]) ?_ (hw:=by refine dx.trans (cz 8 1 8619 102 4 _ rfl rfl rfl (by decide)) ?_;exact zW);intro s14 g14 _ _ F agj h;try dsimp only at h
    refine zB F h (λF h=>?_) λF h=>?_
    ·refine zV ?_;refine zL F h (g14:Nat) [2,3,4,8,11] (λx=>[(9,.p (.val (.int .i64 x.1.1)))]) [2,3,4,8207] (λx H=>[(8,bx (H 8) [(1,.row 8619 x.2)]),(8619,.row x.2 102 4 (x.1.2.map aj))]) ?_;intro yF g15 _ _ F ahn h;try dsimp only at h
     refine fo 27 [] ?_;refine zBd F h (λF h=>?_) λF h=>?_
     ·refine amM F h (λF h=>?_) λF h=>?_
      ·refine zE [(0,.p),(2,.q),(3,.q),(4,.q),(5,.q),(6,.q),(7,.p),(1,.q),(8,.w),(9,.q),(10,.w)] ?_;refine zA aj F h λe16 F h=>?_
       refine zC F h λF h=>?_
       refine dJ (yF.2.length+1) 32 F λF=>?_
       refine zF (bz aj yF.2 [e16] (c:=[[.val (.int .i64 e16.id),.val (.int .i64 e16.type),.val (.int .i64 e16.src),.val (.int .i64 e16.dst)]]) rfl) F λF=>?_
       exact zX (z:=ahn _ (g15+1) h zW)
      ·refine zA aj F h λe17 F h=>?_
       refine zAq aj F h λe18 aJe F h=>?_
       refine zB F h (λF h=>?_) λF h=>?_
       ·refine zE [(0,.p),(2,.q),(3,.q),(4,.q),(5,.q),(6,.q),(7,.p),(1,.q),(8,.w),(9,.q),(10,.w)] ?_;refine zC F h λF h=>?_
        refine dJ (yF.2.length+1) 32 F λF=>?_
        refine zF (bz aj yF.2 [e17] (c:=[[.val (.int .i64 e17.id),.val (.int .i64 e17.type),.val (.int .i64 e17.src),.val (.int .i64 e17.dst)]]) rfl) F λF=>?_
        exact zX (z:=ahn _ (g15+1) h zW)
       ·try dsimp only at h
        replace h:=zj h (dB (by omega));refine zE [(0,.p),(2,.q),(3,.q),(4,.q),(5,.q),(6,.q),(7,.p),(1,.q),(8,.w),(9,.q),(10,.w)] ?_;refine zU aJe h λh=>?_
        refine zC F h λF h=>?_
        refine dJ (yF.2.length+1) 32 F λF=>?_
        refine zF (bz aj yF.2 [e18] (c:=[[.val (.int .i64 e18.id),.val (.int .i64 e18.type),.val (.int .i64 e18.src),.val (.int .i64 e18.dst)]]) rfl) F λF=>?_
        exact zX (z:=agj _ (g15+1) h zW)
     ·try dsimp only at h
      refine zB F h (λF h=>?_) λF h=>?_
      ·refine zE [(0,.p),(2,.q),(3,.q),(4,.q),(5,.q),(6,.q),(7,.p),(1,.q),(8,.w),(9,.q),(10,.w)] ?_;refine zAq aj F h λe19 qe19 F h=>?_
       refine zC F h λF h=>?_
       refine dJ (yF.2.length+1) 32 F λF=>?_
       refine zF (bz aj yF.2 [e19] (c:=[[.val (.int .i64 e19.id),.val (.int .i64 e19.type),.val (.int .i64 e19.src),.val (.int .i64 e19.dst)]]) rfl) F λF=>?_
       exact zX (z:=agj _ (g15+1) h zW)
      ·exact zX (z:=agj _ g15 h zW)
    ·try dsimp only at h
     exact zR h
end
noncomputable section
theorem ve(a0:ah)(a1:ah)(r:Bool)(h:gK a0 a1=some r):aS pw 120 [.agg (ag a0),.agg (ag a1)] (λv=>v = .val (.bool r)):=by
 refine aS.oa ?_;refine aR [] func120 ntmps120 results120 ?_;unfold gK at h;have F:=trivial;refine oQ F h (λF h=>?_) λF h=>?_
 ·refine oQ F h (λF h=>?_) λF h=>?_
  ·refine zK F h (u9 _ _) λr2 h=>?_
   exact zR h
  ·exact zR h
 ·exact zR h
theorem tu(a0:az)(a1:aF)(a2:aF)(r:(List aG))(h:eM a0 a1 a2=some r):bt pw 96 [.agg (aD a0),.agg (aB a1),.agg (aB a2)] (λv=>v = .row 57 3 (r.map ay)):=by
 refine bt.uz ?_;refine bF [55] func96 ntmps96 results96 ?_;unfold eM at h;have F:=trivial;refine zV ?_;refine zN F h (0:Nat) [3,4,5] (λx=>[(7,.row 9455 x.2),(8,.p (.val (.int .i64 ((x.1.1:Nat):Int))))]) [3,4,5] (λx H=>[(9455,.row x.2 57 3 (x.1.2.map ay))]) ?_ ?_ (hw:=by refine dx.trans (ja 7 9455 57 3 rfl rfl (by decide)) ?_;exact zW)
 ·intro i3 s3 g3 _ _ F yR h;try dsimp only at h
  refine zI encI F h λe4 F h=>?_
  refine zK F h (eH _ _) λr5 h=>?_
  refine oQ F h (λF h=>?_) λF h=>?_
  ·refine zK F h (nk _ _) λr6 h=>?_
   refine pO F h (λF h=>?_) λF h=>?_
   ·refine zC F h λF h=>?_
    refine dJ (s3.length+1) 24 F λF=>?_
    refine zF (bz ay s3 [(⟨1,e4,(-1)⟩:aG)] (c:=[[.val (.int .i64 1),.val (.int .i64 e4),.val (.int .i64 (-1))]]) rfl) F λF=>?_
    exact zX (z:=yR _ (g3+1) h zW)
   ·refine zK F h (eH _ _) λr7 h=>?_
    refine oQ F h (λF h=>?_) λF h=>?_
    ·refine zK F h (nk _ _) λr8 h=>?_
     refine zB F h (λF h=>?_) λF h=>?_
     ·refine zC F h λF h=>?_
      refine dJ (s3.length+1) 24 F λF=>?_
      refine zF (bz ay s3 [(⟨1,e4,(-1)⟩:aG)] (c:=[[.val (.int .i64 1),.val (.int .i64 e4),.val (.int .i64 (-1))]]) rfl) F λF=>?_
      exact zX (z:=yR _ (g3+1) h zW)
     ·exact zX (z:=yR _ g3 h zW)
    ·exact zX (z:=yR _ g3 h zW)
  ·refine zK F h (eH _ _) λr9 h=>?_
   refine oQ F h (λF h=>?_) λF h=>?_
   ·refine zK F h (nk _ _) λr10 h=>?_
    refine zB F h (λF h=>?_) λF h=>?_
    ·refine zC F h λF h=>?_
     refine dJ (s3.length+1) 24 F λF=>?_
     refine zF (bz ay s3 [(⟨1,e4,(-1)⟩:aG)] (c:=[[.val (.int .i64 1),.val (.int .i64 e4),.val (.int .i64 (-1))]]) rfl) F λF=>?_
     exact zX (z:=yR _ (g3+1) h zW)
    ·exact zX (z:=yR _ g3 h zW)
   ·exact zX (z:=yR _ g3 h zW)
 ·intro i3 s3 g3 _ F h;try dsimp only at h
  refine zV ?_;refine zN F h (g3:Nat) [3,4,5] (λx=>[(7,.row 9455 x.2),(10,.p (.val (.int .i64 ((x.1.1:Nat):Int))))]) [3,4,5] (λx H=>[(9455,.row x.2 57 3 (x.1.2.map ay))]) ?_ ?_
  ·intro i11 s11 g11 _ _ F aDN h;try dsimp only at h
   refine zI encI F h λyE F h=>?_
   refine zV ?_;refine zL F h (g11:Nat) [3,4,5,10,11] (λx=>[(7,.row 9455 x.2),(12,.p (.val (.int .i64 x.1.1)))]) [3,4,5] (λx H=>[(9455,.row x.2 57 3 (x.1.2.map ay))]) ?_;intro tM g13 _ _ F agk h;try dsimp only at h
   refine zI bJ F h λe14 F h=>?_
   refine zB F h (λF h=>?_) λF h=>?_
   ·refine zK F h (jV _ _ _) λr15 h=>?_
    refine zK F h (jV _ _ _) λr16 h=>?_
    refine zK F h (eH _ _) λr17 h=>?_
    refine oQ F h (λF h=>?_) λF h=>?_
    ·refine pO F h (λF h=>?_) λF h=>?_
     ·refine zC F h λF h=>?_
      refine dJ (tM.2.length+1) 24 F λF=>?_
      refine zF (bz ay tM.2 [(⟨2,yE,tM.1⟩:aG)] (c:=[[.val (.int .i64 2),.val (.int .i64 yE),.val (.int .i64 tM.1)]]) rfl) F λF=>?_
      exact zX (z:=agk _ (g13+1) h zW)
     ·refine zK F h (eH _ _) λr18 h=>?_
      refine oQ F h (λF h=>?_) λF h=>?_
      ·refine zB F h (λF h=>?_) λF h=>?_
       ·refine zC F h λF h=>?_
        refine dJ (tM.2.length+1) 24 F λF=>?_
        refine zF (bz ay tM.2 [(⟨2,yE,tM.1⟩:aG)] (c:=[[.val (.int .i64 2),.val (.int .i64 yE),.val (.int .i64 tM.1)]]) rfl) F λF=>?_
        exact zX (z:=agk _ (g13+1) h zW)
       ·exact zX (z:=agk _ g13 h zW)
      ·exact zX (z:=agk _ g13 h zW)
    ·refine zK F h (eH _ _) λr19 h=>?_
     refine oQ F h (λF h=>?_) λF h=>?_
     ·refine zB F h (λF h=>?_) λF h=>?_
      ·refine zC F h λF h=>?_
       refine dJ (tM.2.length+1) 24 F λF=>?_
       refine zF (bz ay tM.2 [(⟨2,yE,tM.1⟩:aG)] (c:=[[.val (.int .i64 2),.val (.int .i64 yE),.val (.int .i64 tM.1)]]) rfl) F λF=>?_
       exact zX (z:=agk _ (g13+1) h zW)
      ·exact zX (z:=agk _ g13 h zW)
     ·exact zX (z:=agk _ g13 h zW)
   ·try dsimp only at h
    exact zX (z:=aDN _ g13 h zW)
  ·intro i11 s11 g11 _ F h;try dsimp only at h
   refine zV ?_;refine zN F h (g11:Nat) [4,5] (λx=>[(7,.row 9455 x.2),(17,.p (.val (.int .i64 ((x.1.1:Nat):Int))))]) [4,5] (λx H=>[(9455,.row x.2 57 3 (x.1.2.map ay))]) ?_ ?_
   ·intro i20 s20 g20 _ _ F aho h;try dsimp only at h
    refine zI aI F h λe21 F h=>?_
    refine zK F h (jV _ _ _) λr22 h=>?_
    refine oQ F h (λF h=>?_) λF h=>?_
    ·refine o9 F h (λF h=>?_) λF h=>?_
     ·exact zX (z:=aho _ g20 h zW)
     ·refine zC F h λF h=>?_
      refine dJ (s20.length+1) 24 F λF=>?_
      refine zF (bz ay s20 [(⟨3,e21.id,e21.attr⟩:aG)] (c:=[[.val (.int .i64 3),.val (.int .i64 e21.id),.val (.int .i64 e21.attr)]]) rfl) F λF=>?_
      exact zX (z:=aho _ (g20+1) h zW)
    ·exact zX (z:=aho _ g20 h zW)
   ·intro i20 s20 g20 _ F h;try dsimp only at h
    exact jC h
end
noncomputable section
theorem vf(a0:Types)(a1:Host)(r:(List cI)×Int)(h:gL a0 a1=some r):bt pw 258 [.agg [.aU (a0.nodes.map aJ),.aU (a0.ak.map aP)],.agg (pM a1)] (λv=>v = .dW [.row 264 4 (r.1.map dF),.p (.val (.int .i64 r.2))]):=by
 refine bt.uz ?_;refine bF [101] func258 ntmps258 results258 ?_;unfold gL at h;have F:=trivial;refine zK F h (mg _ _) λr2 h=>?_
 refine o9 F h (λF h=>?_) λF h=>?_
 ·refine zV ?_;refine zN F h (0:Nat) [2,3] (λx=>[(8,.row 10928 x.2),(9,.p (.val (.int .i64 ((x.1.1:Nat):Int))))]) [2,3] (λx H=>[(10928,.row x.2 264 4 (x.1.2.map dF))]) ?_ ?_ (hw:=by refine dx.trans (ja 8 10928 264 4 rfl rfl (by decide)) ?_;exact zW)
  ·intro i3 s3 g3 _ _ F yR h;try dsimp only at h
   refine zI aP F h λe4 F h=>?_
   refine zV ?_;refine zQ 2 F h (g3:Nat) [2,3,9,10] (λx=>[(8,.row 10928 x.2),(11,.p (.val (.int .i64 ((x.1.1:Nat):Int))))]) [2,3,10] (λx H=>[(10928,.row x.2 264 4 (x.1.2.map dF))]) ?_ ?_
   ·intro i5 s5 g5 _ _ F Ns5 h;try dsimp only at h
    refine fo 9 [] ?_;refine zB F h (λF h=>?_) λF h=>?_
    ·refine fo 9 [] ?_;refine zV ?_;refine zN F h (g5:Nat) [2,3,9,10,11,12,13,14] (λx=>[(8,.row 10928 x.2),(15,.p (.val (.int .i64 ((x.1.1:Nat):Int))))]) [2,3,10] (λx H=>[(10928,.row x.2 264 4 (x.1.2.map dF))]) ?_ ?_
     ·intro i6 s6 g6 _ _ F Ns6 h;try dsimp only at h
      refine fo 10 [] ?_;refine zI encI F h λe7 F h=>?_
      refine uD F h (pN _ _ _) λr8 h=>?_
      refine o9 F h (λF h=>?_) λF h=>?_
      ·refine zK F h (qo _ _ _ _) λr9 h=>?_
       refine pO F h (λF h=>?_) λF h=>?_
       ·refine zC F h λF h=>?_
        refine dJ (s6.length+1) 32 F λF=>?_
        refine zF (bz dF s6 [(⟨((i3:Nat):Int),((i6:Nat):Int),r9,(decide (((i5:Nat):Int)=0))⟩:cI)] (c:=[[.val (.int .i64 ((i3:Nat):Int)),.val (.int .i64 ((i6:Nat):Int)),.val (.int .i64 r9),.val (.bool (decide (((i5:Nat):Int)=0)))]]) rfl) F λF=>?_
        exact zX (z:=Ns6 _ (g6+1) h zW)
       ·refine oQ F h (λF h=>?_) λF h=>?_
        ·refine zB F h (λF h=>?_) λF h=>?_
         ·refine zC F h λF h=>?_
          refine dJ (s6.length+1) 32 F λF=>?_
          refine zF (bz dF s6 [(⟨((i3:Nat):Int),((i6:Nat):Int),r9,(decide (((i5:Nat):Int)=0))⟩:cI)] (c:=[[.val (.int .i64 ((i3:Nat):Int)),.val (.int .i64 ((i6:Nat):Int)),.val (.int .i64 r9),.val (.bool (decide (((i5:Nat):Int)=0)))]]) rfl) F λF=>?_
          exact zX (z:=Ns6 _ (g6+1) h zW)
         ·exact zX (z:=Ns6 _ g6 h zW)
        ·exact zX (z:=Ns6 _ g6 h zW)
      ·exact zX (z:=Ns6 _ g6 h zW)
     ·intro i6 s6 g6 _ F h;try dsimp only at h
      exact zX (z:=Ns5 _ g6 h zW)
    ·refine zV ?_;refine zN F h (g5:Nat) [2,3,9,10,11,12,13,14] (λx=>[(8,.row 10928 x.2),(15,.p (.val (.int .i64 ((x.1.1:Nat):Int))))]) [2,3,10] (λx H=>[(10928,.row x.2 264 4 (x.1.2.map dF))]) ?_ ?_
     ·intro i10 s10 g10 _ _ F agl h;try dsimp only at h
      refine fo 10 [] ?_;refine zI encI F h λe11 F h=>?_
      refine uD F h (pN _ _ _) λxX h=>?_
      refine o9 F h (λF h=>?_) λF h=>?_
      ·refine zK F h (qo _ _ _ _) λyP h=>?_
       refine pO F h (λF h=>?_) λF h=>?_
       ·refine zC F h λF h=>?_
        refine dJ (s10.length+1) 32 F λF=>?_
        refine zF (bz dF s10 [(⟨((i3:Nat):Int),((i10:Nat):Int),yP,(decide (((i5:Nat):Int)=0))⟩:cI)] (c:=[[.val (.int .i64 ((i3:Nat):Int)),.val (.int .i64 ((i10:Nat):Int)),.val (.int .i64 yP),.val (.bool (decide (((i5:Nat):Int)=0)))]]) rfl) F λF=>?_
        exact zX (z:=agl _ (g10+1) h zW)
       ·refine oQ F h (λF h=>?_) λF h=>?_
        ·refine zB F h (λF h=>?_) λF h=>?_
         ·refine zC F h λF h=>?_
          refine dJ (s10.length+1) 32 F λF=>?_
          refine zF (bz dF s10 [(⟨((i3:Nat):Int),((i10:Nat):Int),yP,(decide (((i5:Nat):Int)=0))⟩:cI)] (c:=[[.val (.int .i64 ((i3:Nat):Int)),.val (.int .i64 ((i10:Nat):Int)),.val (.int .i64 yP),.val (.bool (decide (((i5:Nat):Int)=0)))]]) rfl) F λF=>?_
          exact zX (z:=agl _ (g10+1) h zW)
         ·exact zX (z:=agl _ g10 h zW)
        ·exact zX (z:=agl _ g10 h zW)
      ·exact zX (z:=agl _ g10 h zW)
     ·intro i10 s10 g10 _ F h;try dsimp only at h
      exact zX (z:=Ns5 _ g10 h zW)
   ·intro i5 s5 g5 _ F h;try dsimp only at h
    exact zX (z:=yR _ g5 h zW)
  ·intro i3 s3 g3 _ F h;try dsimp only at h
   exact jC h
 ·exact jC h
theorem lQ(a0:List ah)(p1:ah->Option Bool)(k1:FuncId)(fs1 cs1:List PV)(hp1:∀x0 r,p1 x0=some r->aS pw k1 (fs1++[.agg (ag x0)]++cs1) (λv=>v = .val (.bool r)))(r:Bool)(h:dY a0 p1=some r):aS pw 165 [.aU (a0.map ag),.iK (.func k1) fs1 cs1] (λv=>v = .val (.bool r)):=by
 refine aS.oa ?_;refine aR [] func165 ntmps165 results165 ?_;unfold dY at h;have F:=trivial;refine zK F h (tj _ p1 k1 fs1 cs1 hp1) λr2 h=>?_
 exact zR h
end
noncomputable section
theorem jq(a0:aQ)(a1:Int)(r:az)(h:dc a0 a1=some r):bt pw 118 [.agg [.aU (a0.nodes.map ag),.aU (a0.ak.map aj)],.val (.int .i64 a1)] (λv=>v = .agg [.row 3 1 (r.host.graph.nodes.map encI),.row 175 3 (r.host.graph.ak.map aZ),.row 32 1 (r.host.values.map bJ),.row 3 1 (r.nodes.map encI),.row 3 1 (r.ak.map encI),.p (.val (.int .i64 r.next))]):=by
 refine bt.uz ?_;refine bF [29,38,49,50,70,90] func118 ntmps118 results118 ?_;unfold dc at h;have F:=trivial;refine zV ?_;refine zN F h ((0,0,0):Nat×Nat×Nat) [2,4,5] (λx=>[(6,.p (.val (.int .i64 ((x.1.1:Nat):Int))))]) [2,4] (λx H=>[(5,bx (H 5) [(0,.row 5684 x.2.1),(2,.row 5685 x.2.2.1),(3,.row 5686 x.2.2.2)]),(5684,.row x.2.1 3 1 (x.1.2.1.map encI)),(5685,.row x.2.2.1 32 1 (x.1.2.2.1.map bJ)),(5686,.row x.2.2.2 3 1 (x.1.2.2.2.map encI))]) ?_ ?_ (hw:=by refine dx.trans (cz 5 0 5684 3 1 _ rfl rfl rfl (by decide)) ?_;refine dx.trans (cz 5 2 5685 32 1 _ rfl rfl rfl (by decide)) ?_;refine dx.trans (cz 5 3 5686 3 1 _ rfl rfl rfl (by decide)) ?_;exact zW)
 ·intro i2 s2 g2 _ _ F nu h;try dsimp only at h
  refine zI ag F h λe3 F h=>?_
  refine zC F h λF h=>?_
  refine dJ (s2.2.2.length+1) 8 F λF=>?_
  refine zF (bz encI s2.2.2 [e3.id] (c:=[[.val (.int .i64 e3.id)]]) rfl) F λF=>?_
  refine zC F h λF h=>?_
  refine dJ (s2.1.length+1) 8 F λF=>?_
  refine zF (bz encI s2.1 [e3.type] (c:=[[.val (.int .i64 e3.type)]]) rfl) F λF=>?_
  refine zE [(0,.p),(1,.p),(3,.p),(2,.b),(4,.q),(5,.q),(6,.w),(7,.w),(8,.w),(9,.q),(10,.q),(11,.w)] ?_;refine zC F h λF h=>?_
  refine dJ e3.values.length 8 F λF=>?_
  refine zF (eq_true (fc (n:=1) (f:=encI) (λ_=>rfl) e3.values)) F λF=>?_
  refine zC F h λF h=>?_
  refine dJ (s2.2.1.length+1) 24 F λF=>?_
  refine zF (bz bJ s2.2.1 [e3.values] (c:=[[.aU (e3.values.map encI)]]) rfl) F λF=>?_
  exact zX (z:=nu _ (g2.1+1,g2.2.1+1,g2.2.2+1) h zW)
 ·intro i2 s2 g2 _ F h;try dsimp only at h
  refine zV ?_;refine zN F h ((0,0):Nat×Nat) [2,4,5] (λx=>[(8,.p (.val (.int .i64 ((x.1.1:Nat):Int))))]) [2,4,5684,5685,5686] (λx H=>[(5,bx (H 5) [(1,.row 5743 x.2.1),(4,.row 5744 x.2.2)]),(5743,.row x.2.1 175 3 (x.1.2.1.map aZ)),(5744,.row x.2.2 3 1 (x.1.2.2.map encI))]) ?_ ?_ (hw:=by refine dx.trans (cz 5 1 5743 175 3 _ rfl rfl rfl (by decide)) ?_;refine dx.trans (cz 5 4 5744 3 1 _ rfl rfl rfl (by decide)) ?_;exact zW)
  ·intro i4 s4 g4 _ _ F Ns4 h;try dsimp only at h
   refine zI aj F h λe5 F h=>?_
   refine zC F h λF h=>?_
   refine dJ (s4.2.length+1) 8 F λF=>?_
   refine zF (bz encI s4.2 [e5.id] (c:=[[.val (.int .i64 e5.id)]]) rfl) F λF=>?_
   refine zE [(0,.p),(1,.p),(2,.p),(4,.q),(5,.q),(6,.q),(7,.q),(8,.q),(9,.q),(10,.q),(11,.q),(12,.q),(13,.q),(14,.q),(15,.q),(16,.q),(17,.p),(3,.q),(18,.w),(19,.q),(20,.q),(21,.q),(22,.w)] ?_;refine uD F h (di _ _) λr6 h=>?_
   refine uD F h (di _ _) λr7 h=>?_
   refine zC F h λF h=>?_
   refine dJ (s4.1.length+1) 24 F λF=>?_
   refine zF (bz aZ s4.1 [(⟨e5.type,r6,r7⟩:Edge)] (c:=[[.val (.int .i64 e5.type),.val (.int .i64 r6),.val (.int .i64 r7)]]) rfl) F λF=>?_
   exact zX (z:=Ns4 _ (g4.1+1,g4.2+1) h zW)
  ·intro i4 s4 g4 _ F h;try dsimp only at h
   exact jC h
theorem jJ(a0:aF)(r:aF)(h:dM a0=some r):bt pw 38 [.agg (aB a0)] (λv=>v = .agg [.row 75 3 (r.au.map ag),.row 102 4 (r.aC.map aj),.row 75 3 (r.aM.map ag),.row 102 4 (r.aK.map aj),.row 105 4 (r.values.map aI),.p (.val (.int .i64 r.next.x0)),.p (.val (.int .i64 r.next.x1))]):=by
 refine bt.uz ?_;refine bF [6,9,13,16,17,20] func38 ntmps38 results38 ?_;unfold dM at h;have F:=trivial;refine zE [(0,.q),(1,.q),(4,.q),(5,.q),(7,.b),(8,.b),(11,.b),(12,.b),(15,.b),(16,.b),(18,.b),(19,.b),(2,.f),(3,.w),(6,.s),(9,.f),(10,.w),(13,.s),(14,.w),(17,.s),(20,.q),(21,.w)] ?_;refine zH 1080 F h (mV _) λr1 h=>?_
 refine zC F h λF h=>?_
 refine dJ a0.aC.length 32 F λF=>?_
 refine zF (eq_true (fc (n:=4) (f:=aj) (λ_=>rfl) a0.aC)) F λF=>?_
 refine zH 1192 F h (mV _) λr2 h=>?_
 refine zC F h λF h=>?_
 refine dJ a0.aK.length 32 F λF=>?_
 refine zF (eq_true (fc (n:=4) (f:=aj) (λ_=>rfl) a0.aK)) F λF=>?_
 refine zC F h λF h=>?_
 refine dJ a0.values.length 32 F λF=>?_
 refine zF (eq_true (fc (n:=4) (f:=aI) (λ_=>rfl) a0.values)) F λF=>?_
 exact jC h
theorem rB(a0:List ax)(p1:ax->Option Bool)(k1:FuncId)(fs1 cs1:List PV)(hp1:∀x0 r,p1 x0=some r->aS pw k1 (fs1++[.agg (aj x0)]++cs1) (λv=>v = .val (.bool r)))(r:Bool)(h:eW a0 p1=some r):aS pw 167 [.aU (a0.map aj),.iK (.func k1) fs1 cs1] (λv=>v = .val (.bool r)):=by
 refine aS.oa ?_;refine aR [] func167 ntmps167 results167 ?_;unfold eW at h;have F:=trivial;refine zK F h (th _ p1 k1 fs1 cs1 hp1) λr2 h=>?_
 exact zR h
theorem si(a0:List bn)(a1:bn)(r:Bool)(h:fA a0 a1=some r):aS pw 108 [.aU (a0.map cB),.agg (cB a1)] (λv=>v = .val (.bool r)):=by
 refine aS.oa ?_;refine aR [] func108 ntmps108 results108 ?_;unfold fA at h;have F:=trivial;refine zK F h (tY _ _) λr2 h=>?_
 exact zR h
end
noncomputable section
theorem yQ(a0:Types)(a1:Host)(r:az×Int)(h:js a0 a1=some r):bt pw 30 [.agg [.aU (a0.nodes.map aJ),.aU (a0.ak.map aP)],.agg (pM a1)] (λv=>v = .dW [.agg [.row 3 1 (r.1.host.graph.nodes.map encI),.row 175 3 (r.1.host.graph.ak.map aZ),.row 32 1 (r.1.host.values.map bJ),.row 3 1 (r.1.nodes.map encI),.row 3 1 (r.1.ak.map encI),.p (.val (.int .i64 r.1.next))],.p (.val (.int .i64 r.2))]):=by
 refine bt.uz ?_;refine bF [] func30 ntmps30 results30 ?_;unfold js at h;have F:=trivial;refine zK F h (qj _) λr2 h=>?_
 refine o9 F h (λF h=>?_) λF h=>?_
 ·refine zK F h (mg _ _) λr3 h=>?_
  refine o9 F h (λF h=>?_) λF h=>?_
  ·refine zG 1672 F h (pQ _) λr4 h=>?_
   refine zG 1704 F h (oS _ _) λr5 h=>?_
   refine zG 1784 F h (oS _ _) λr6 h=>?_
   exact jC h
  ·exact jC h
 ·exact jC h
theorem iW(a0:Types)(a1:az)(r:Int)(h:b9 a0 a1=some r):aS pw 33 [.agg [.aU (a0.nodes.map aJ),.aU (a0.ak.map aP)],.agg (aD a1)] (λv=>v = .val (.int .i64 r)):=by
 refine aS.oa ?_;refine aR [] func33 ntmps33 results33 ?_;unfold b9 at h;have F:=trivial;refine zK F h (qj _) λr2 h=>?_
 refine o9 F h (λF h=>?_) λF h=>?_
 ·refine zK F h (mg _ _) λr3 h=>?_
  refine o9 F h (λF h=>?_) λF h=>?_
  ·refine oQ F h (λF h=>?_) λF h=>?_
   ·refine o9 F h (λF h=>?_) λF h=>?_
    ·refine pO F h (λF h=>?_) λF h=>?_
     ·exact zR h
     ·refine zB F h (λF h=>?_) λF h=>?_
      ·exact zR h
      ·refine zK F h (rH _ _) λr4 h=>?_
       refine o9 F h (λF h=>?_) λF h=>?_
       ·refine zK F h (rH _ _) λr5 h=>?_
        refine o9 F h (λF h=>?_) λF h=>?_
        ·refine zV ?_;refine zN F h () [3] (λx=>[(11,.p (.val (.int .i64 ((x.1.1:Nat):Int))))]) [3] (λx H=>[]) ?_ ?_
         ·intro i6 s6 g6 _ _ F Ns6 h;try dsimp only at h
          refine fo 9 [] ?_;refine zI encI F h λe7 F h=>?_
          refine uD F h (di _ _) λr8 h=>?_
          refine zB F h (λF h=>?_) λF h=>?_
          ·exact zR h
          ·exact zX (z:=Ns6 _ () h zW)
         ·intro i6 s6 g6 _ F h;try dsimp only at h
          exact zR h
        ·exact zR h
       ·exact zR h
    ·exact zR h
   ·exact zR h
  ·exact zR h
 ·exact zR h
theorem yG(a0:aF)(a1:aF)(r:aF)(h:kT a0 a1=some r):bt pw 104 [.agg (aB a0),.agg (aB a1)] (λv=>v = .agg [.p (.aU (r.au.map ag)),.p (.aU (r.aC.map aj)),.row 75 3 (r.aM.map ag),.row 102 4 (r.aK.map aj),.p (.aU (r.values.map aI)),.p (.val (.int .i64 r.next.x0)),.p (.val (.int .i64 r.next.x1))]):=by
 refine bt.uz ?_;refine bF [39,68] func104 ntmps104 results104 ?_;unfold kT at h;have F:=trivial;refine bY ((0:Int)<=1) F λF=>?_
 refine bY ((1:Int)<((2:Nat):Int)) F λF=>?_
 refine bY ((0:Int)<=0) F λF=>?_
 refine bY ((0:Int)<((2:Nat):Int)) F λF=>?_
 refine zV ?_;refine zN F h (0:Nat) [2,3,4,6,7,24,25] (λx=>[(26,.p (.val (.int .i64 ((x.1.1:Nat):Int))))]) [2,3,4,5] (λx H=>[(7,bx (H 7) [(2,.row 13397 x.2)]),(13397,.row x.2 75 3 (x.1.2.map ag))]) ?_ ?_ (hw:=by refine dx.trans (cz 7 2 13397 75 3 _ rfl rfl rfl (by decide)) ?_;exact zW)
 ·intro i2 s2 g2 _ _ F nu h;try dsimp only at h
  refine zI ag F h λe3 F h=>?_
  refine zK F h (nY _ _ _) λr4 h=>?_
  refine zC F h λF h=>?_
  refine dJ (s2.length+1) 40 F λF=>?_
  refine zF (bz ag s2 [(⟨r4,e3.type,e3.values⟩:ah)] (c:=[[.val (.int .i64 r4),.val (.int .i64 e3.type),.aU (e3.values.map encI)]]) rfl) F λF=>?_
  exact zX (z:=nu _ (g2+1) h zW)
 ·intro i2 s2 g2 _ F h;try dsimp only at h
  refine zV ?_;refine zN F h (0:Nat) [2,3,4,6,7,43,44] (λx=>[(45,.p (.val (.int .i64 ((x.1.1:Nat):Int))))]) [2,3,4,5,13397] (λx H=>[(7,bx (H 7) [(3,.row 13420 x.2)]),(13420,.row x.2 102 4 (x.1.2.map aj))]) ?_ ?_ (hw:=by refine dx.trans (cz 7 3 13420 102 4 _ rfl rfl rfl (by decide)) ?_;exact zW)
  ·intro i5 s5 g5 _ _ F Ns5 h;try dsimp only at h
   refine zI aj F h λe6 F h=>?_
   refine fo 13 [.w,.q,.w,.q,.w] ?_;refine uD F h (nY _ _ _) λr7 h=>?_
   refine uD F h (nY _ _ _) λr8 h=>?_
   refine uD F h (nY _ _ _) λr9 h=>?_
   refine zC F h λF h=>?_
   refine dJ (s5.length+1) 32 F λF=>?_
   refine zF (bz aj s5 [(⟨r7,e6.type,r8,r9⟩:ax)] (c:=[[.val (.int .i64 r7),.val (.int .i64 e6.type),.val (.int .i64 r8),.val (.int .i64 r9)]]) rfl) F λF=>?_
   exact zX (z:=Ns5 _ (g5+1) h zW)
  ·intro i5 s5 g5 _ F h;try dsimp only at h
   refine bY ((0:Int)<=1) F λF=>?_
   refine bY ((1:Int)<((2:Nat):Int)) F λF=>?_
   refine bY ((0:Int)<=1) F λF=>?_
   refine bY ((1:Int)<((2:Nat):Int)) F λF=>?_
   refine bY ((0:Int)<=1) F λF=>?_
   refine bY ((1:Int)<((2:Nat):Int)) F λF=>?_
   refine bY ((0:Int)<=0) F λF=>?_
   refine bY ((0:Int)<((2:Nat):Int)) F λF=>?_
   exact jC h
end
noncomputable section
theorem pS(a0:az)(r:aQ)(h:eR a0=some r):bt pw 115 [.agg (aD a0)] (λv=>v = .agg [.row 75 3 (r.nodes.map ag),.row 102 4 (r.ak.map aj)]):=by
 refine bt.uz ?_;refine bF [19,34] func115 ntmps115 results115 ?_;unfold eR at h;have F:=trivial;refine zV ?_;refine zN F h (0:Nat) [1,2,3] (λx=>[(4,.p (.val (.int .i64 ((x.1.1:Nat):Int))))]) [1,2] (λx H=>[(3,bx (H 3) [(0,.row 5230 x.2)]),(5230,.row x.2 75 3 (x.1.2.map ag))]) ?_ ?_ (hw:=by refine dx.trans (cz 3 0 5230 75 3 _ rfl rfl rfl (by decide)) ?_;exact zW)
 ·intro i1 s1 g1 _ _ F Ns1 h;try dsimp only at h
  refine zE [(0,.p),(2,.q),(3,.q),(4,.q),(5,.p),(1,.q),(6,.w),(7,.q),(8,.w)] ?_;refine zTd F h (qQ _ _) λr2 h=>?_
  refine zC F h λF h=>?_
  refine dJ (s1.length+1) 40 F λF=>?_
  refine zF (bz ag s1 [r2] (c:=[[.val (.int .i64 r2.id),.val (.int .i64 r2.type),.aU (r2.values.map encI)]]) rfl) F λF=>?_
  exact zX (z:=Ns1 _ (g1+1) h zW)
 ·intro i1 s1 g1 _ F h;try dsimp only at h
  refine zV ?_;refine zN F h (0:Nat) [1,2,3] (λx=>[(5,.p (.val (.int .i64 ((x.1.1:Nat):Int))))]) [1,2,5230] (λx H=>[(3,bx (H 3) [(1,.row 5267 x.2)]),(5267,.row x.2 102 4 (x.1.2.map aj))]) ?_ ?_ (hw:=by refine dx.trans (cz 3 1 5267 102 4 _ rfl rfl rfl (by decide)) ?_;exact zW)
  ·intro i3 s3 g3 _ _ F yR h;try dsimp only at h
   refine zE [(0,.p),(2,.q),(3,.q),(4,.q),(5,.p),(1,.q),(6,.w),(7,.q),(8,.w)] ?_;refine uD F h (j8 _ _) λr4 h=>?_
   refine zC F h λF h=>?_
   refine dJ (s3.length+1) 32 F λF=>?_
   refine zF (bz aj s3 [r4] (c:=[[.val (.int .i64 r4.id),.val (.int .i64 r4.type),.val (.int .i64 r4.src),.val (.int .i64 r4.dst)]]) rfl) F λF=>?_
   exact zX (z:=yR _ (g3+1) h zW)
  ·intro i3 s3 g3 _ F h;try dsimp only at h
   exact jC h
theorem yH(a0:Types)(a1:Host)(a2:Int)(a3:Bool)(a4:Int)(a5:Int)(a6:Int)(r:(List cI))(h:kU a0 a1 a2 a3 a4 a5 a6=some r):bt pw 264 [.agg [.aU (a0.nodes.map aJ),.aU (a0.ak.map aP)],.agg (pM a1),.val (.int .i64 a2),.val (.bool a3),.val (.int .i64 a4),.val (.int .i64 a5),.val (.int .i64 a6)] (λv=>v = .row 264 4 (r.map dF)):=by
 refine bt.uz ?_;refine bF [88] func264 ntmps264 results264 ?_;unfold kU at h;have F:=trivial;refine zV ?_;refine zN F h (0:Nat) [2,3,4,5,6,7,8,23,24] (λx=>[(15,.row 13566 x.2),(25,.p (.val (.int .i64 ((x.1.1:Nat):Int))))]) [7,8] (λx H=>[(13566,.row x.2 264 4 (x.1.2.map dF))]) ?_ ?_ (hw:=by refine dx.trans (ja 15 13566 264 4 rfl rfl (by decide)) ?_;exact zW)
 ·intro i7 s7 g7 _ _ F Ns7 h;try dsimp only at h
  refine zI encI F h λe8 F h=>?_
  refine zK F h (aqe _ _ _) λr9 h=>?_
  refine o9 F h (λF h=>?_) λF h=>?_
  ·refine zV ?_;refine zN F h () [2,3,4,5,6,7,8,15,16,23,24,25,37,38] (λx=>[(18,.p (.val (.int .i64 x.1.2))),(39,.p (.val (.int .i64 ((x.1.1:Nat):Int))))]) [7,8,13566] (λx H=>[]) ?_ ?_
   ·intro i10 s10 g10 _ _ F agl h;try dsimp only at h
    refine zI aZ F h λe11 F h=>?_
    refine oQ F h (λF h=>?_) λF h=>?_
    ·refine oQ F h (λF h=>?_) λF h=>?_
     ·refine pO F h (λF h=>?_) λF h=>?_
      ·exact zX (z:=agl _ () h zW)
      ·exact zX (z:=agl _ () h zW)
     ·refine zB F h (λF h=>?_) λF h=>?_
      ·exact zX (z:=agl _ () h zW)
      ·exact zX (z:=agl _ () h zW)
    ·exact zX (z:=agl _ () h zW)
   ·intro i10 s10 g10 _ F h;try dsimp only at h
    refine pO F h (λF h=>?_) λF h=>?_
    ·refine zC F h λF h=>?_
     refine dJ (s7.length+1) 32 F λF=>?_
     refine zF (bz dF s7 [(⟨a2,((i7:Nat):Int),s10,a3⟩:cI)] (c:=[[.val (.int .i64 a2),.val (.int .i64 ((i7:Nat):Int)),.val (.int .i64 s10),.val (.bool a3)]]) rfl) F λF=>?_
     exact zX (z:=Ns7 _ (g7+1) h zW)
    ·refine oQ F h (λF h=>?_) λF h=>?_
     ·refine zB F h (λF h=>?_) λF h=>?_
      ·refine zC F h λF h=>?_
       refine dJ (s7.length+1) 32 F λF=>?_
       refine zF (bz dF s7 [(⟨a2,((i7:Nat):Int),s10,a3⟩:cI)] (c:=[[.val (.int .i64 a2),.val (.int .i64 ((i7:Nat):Int)),.val (.int .i64 s10),.val (.bool a3)]]) rfl) F λF=>?_
       exact zX (z:=Ns7 _ (g7+1) h zW)
      ·exact zX (z:=Ns7 _ g7 h zW)
     ·exact zX (z:=Ns7 _ g7 h zW)
  ·exact zX (z:=Ns7 _ g7 h zW)
 ·intro i7 s7 g7 _ F h;try dsimp only at h
  exact jC h
end
noncomputable section
theorem xk(a0:az)(a1:az)(r:Bool)(h:iU a0 a1=some r):aS pw 144 [.agg (aD a0),.agg (aD a1)] (λv=>v = .val (.bool r)):=by
 refine aS.oa ?_;refine aR [] func144 ntmps144 results144 ?_;unfold iU at h;have F:=trivial;refine zV ?_;refine zN F h () [2,3] (λx=>[(5,.p (.val (.int .i64 ((x.1.1:Nat):Int))))]) [2,3] (λx H=>[]) ?_ ?_
 ·intro i2 s2 g2 _ _ F nu h;try dsimp only at h
  refine fo 9 [] ?_;refine zI encI F h λe3 F h=>?_
  refine uD F h (di _ _) λr4 h=>?_
  refine fo 30 [] ?_;refine uD F h (di _ _) λr5 h=>?_
  refine amM F h (λF h=>?_) λF h=>?_
  ·exact zR h
  ·refine zBd F h (λF h=>?_) λF h=>?_
   ·refine zI encI F h λe6 F h=>?_
    refine zA encI F h λe7 F h=>?_
    refine o9 F h (λF h=>?_) λF h=>?_
    ·exact zX (z:=nu _ () h zW)
    ·exact zR h
   ·exact zX (z:=nu _ () h zW)
 ·intro i2 s2 g2 _ F h;try dsimp only at h
  refine zV ?_;refine zN F h () [2,3] (λx=>[(7,.p (.val (.int .i64 ((x.1.1:Nat):Int))))]) [2,3] (λx H=>[]) ?_ ?_
  ·intro i8 s8 g8 _ _ F Ns8 h;try dsimp only at h
   refine fo 9 [] ?_;refine zI encI F h λe9 F h=>?_
   refine uD F h (di _ _) λr10 h=>?_
   refine fo 22 [] ?_;refine uD F h (di _ _) λr11 h=>?_
   refine amM F h (λF h=>?_) λF h=>?_
   ·exact zR h
   ·refine zBd F h (λF h=>?_) λF h=>?_
    ·refine uD F h (j8 _ _) λxX h=>?_
     refine uD F h (j8 _ _) λyP h=>?_
     refine o9 F h (λF h=>?_) λF h=>?_
     ·exact zX (z:=Ns8 _ () h zW)
     ·exact zR h
    ·exact zX (z:=Ns8 _ () h zW)
  ·intro i8 s8 g8 _ F h;try dsimp only at h
   exact zR h
theorem oT(a0:az)(a1:az)(r:(List ah)×(List ax))(h:fK a0 a1=some r):bt pw 145 [.agg (aD a0),.agg (aD a1)] (λv=>v = .dW [.row 75 3 (r.1.map ag),.row 102 4 (r.2.map aj)]):=by
 refine bt.uz ?_;refine bF [31,53] func145 ntmps145 results145 ?_;unfold fK at h;have F:=trivial;refine zV ?_;refine zN F h (0:Nat) [2,3,7] (λx=>[(6,.row 6520 x.2),(8,.p (.val (.int .i64 ((x.1.1:Nat):Int))))]) [2,3] (λx H=>[(6520,.row x.2 75 3 (x.1.2.map ag))]) ?_ ?_ (hw:=by refine dx.trans (ja 6 6520 75 3 rfl rfl (by decide)) ?_;exact zW)
 ·intro i2 s2 g2 _ _ F nu h;try dsimp only at h
  refine fo 9 [] ?_;refine zI encI F h λe3 F h=>?_
  refine uD F h (di _ _) λr4 h=>?_
  refine zB F h (λF h=>?_) λF h=>?_
  ·refine zG 1464 F h (qQ _ _) λr5 h=>?_
   refine zC F h λF h=>?_
   refine dJ (s2.length+1) 40 F λF=>?_
   refine zF (bz ag s2 [r5] (c:=[[.val (.int .i64 r5.id),.val (.int .i64 r5.type),.aU (r5.values.map encI)]]) rfl) F λF=>?_
   exact zX (z:=nu _ (g2+1) h zW)
  ·exact zX (z:=nu _ g2 h zW)
 ·intro i2 s2 g2 _ F h;try dsimp only at h
  refine zV ?_;refine zN F h (0:Nat) [2,3,6] (λx=>[(7,.row 6550 x.2),(9,.p (.val (.int .i64 ((x.1.1:Nat):Int))))]) [2,3,6520] (λx H=>[(6550,.row x.2 102 4 (x.1.2.map aj))]) ?_ ?_ (hw:=by refine dx.trans (ja 7 6550 102 4 rfl rfl (by decide)) ?_;exact zW)
  ·intro i6 s6 g6 _ _ F Ns6 h;try dsimp only at h
   refine fo 9 [] ?_;refine zI encI F h λe7 F h=>?_
   refine uD F h (di _ _) λr8 h=>?_
   refine zB F h (λF h=>?_) λF h=>?_
   ·refine zK F h (j8 _ _) λr9 h=>?_
    refine zC F h λF h=>?_
    refine dJ (s6.length+1) 32 F λF=>?_
    refine zF (bz aj s6 [r9] (c:=[[.val (.int .i64 r9.id),.val (.int .i64 r9.type),.val (.int .i64 r9.src),.val (.int .i64 r9.dst)]]) rfl) F λF=>?_
    exact zX (z:=Ns6 _ (g6+1) h zW)
   ·exact zX (z:=Ns6 _ g6 h zW)
  ·intro i6 s6 g6 _ F h;try dsimp only at h
   exact jC h
theorem vz(a0:aF)(r:Int)(h:ig a0=some r):aS pw 114 [.agg (aB a0)] (λv=>v = .val (.int .i64 r)):=by
 refine aS.oa ?_;refine aR [] func114 ntmps114 results114 ?_;unfold ig at h;have F:=trivial;refine pO F h (λF h=>?_) λF h=>?_
 ·exact zR h
 ·refine pO F h (λF h=>?_) λF h=>?_
  ·exact zR h
  ·refine pO F h (λF h=>?_) λF h=>?_
   ·exact zR h
   ·refine pO F h (λF h=>?_) λF h=>?_
    ·exact zR h
    ·refine zB F h (λF h=>?_) λF h=>?_
     ·exact zR h
     ·refine zK F h (mz _) λr1 h=>?_
      refine oQ F h (λF h=>?_) λF h=>?_
      ·refine zK F h (mw _) λr2 h=>?_
       refine oQ F h (λF h=>?_) λF h=>?_
       ·refine zK F h (mz _) λr3 h=>?_
        refine oQ F h (λF h=>?_) λF h=>?_
        ·refine zK F h (mw _) λr4 h=>?_
         refine oQ F h (λF h=>?_) λF h=>?_
         ·refine zK F h (rA _) λr5 h=>?_
          refine o9 F h (λF h=>?_) λF h=>?_
          ·exact zR h
          ·exact zR h
         ·exact zR h
        ·exact zR h
       ·exact zR h
      ·exact zR h
end
noncomputable section
end
noncomputable section
theorem yb(a0:aF)(a1:aF)(r:aF)(h:gZ a0 a1=some r):bt pw 161 [.agg (aB a0),.agg (aB a1)] (λv=>v = .agg [.row 75 3 (r.au.map ag),.row 102 4 (r.aC.map aj),.row 75 3 (r.aM.map ag),.row 102 4 (r.aK.map aj),.row 105 4 (r.values.map aI),.p (.val (.int .i64 r.next.x0)),.p (.val (.int .i64 r.next.x1))]):=by
 refine bt.uz ?_;refine bF [40,66,102] func161 ntmps161 results161 ?_;unfold gZ at h;have F:=trivial;refine zG 1192 F h (jJ _) λr2 h=>?_
 refine zV ?_;refine zN F h (0:Nat) [2,3,4,5] (λx=>[(6,.p (.val (.int .i64 ((x.1.1:Nat):Int))))]) [2,3,4,1194,1195] (λx H=>[(5,bx (H 5) [(0,.row 10286 x.2)]),(10286,.row x.2 75 3 (x.1.2.map ag))]) ?_ ?_ (hw:=by refine dx.trans (cz 5 0 10286 75 3 _ rfl rfl rfl (by decide)) ?_;exact zW)
 ·intro i3 s3 g3 _ _ F yR h;try dsimp only at h
  refine fo 9 [] ?_;refine zI ag F h λe4 F h=>?_
  refine uD F h (eH _ _) λr5 h=>?_
  refine o9 F h (λF h=>?_) λF h=>?_
  ·exact zX (z:=yR _ g3 h zW)
  ·refine zE [(0,.p),(2,.q),(3,.q),(4,.q),(5,.q),(6,.q),(7,.p),(1,.q),(8,.w),(9,.q),(10,.w)] ?_;refine zC F h λF h=>?_
   refine dJ (s3.length+1) 40 F λF=>?_
   refine zF (bz ag s3 [e4] (c:=[[.val (.int .i64 e4.id),.val (.int .i64 e4.type),.aU (e4.values.map encI)]]) rfl) F λF=>?_
   exact zX (z:=yR _ (g3+1) h zW)
 ·intro i3 s3 g3 _ F h;try dsimp only at h
  refine zV ?_;refine zN F h (0:Nat) [2,3,4,5] (λx=>[(7,.p (.val (.int .i64 ((x.1.1:Nat):Int))))]) [2,3,4,10286,1194,1195] (λx H=>[(5,bx (H 5) [(1,.row 10329 x.2)]),(10329,.row x.2 102 4 (x.1.2.map aj))]) ?_ ?_ (hw:=by refine dx.trans (cz 5 1 10329 102 4 _ rfl rfl rfl (by decide)) ?_;exact zW)
  ·intro i6 s6 g6 _ _ F Ns6 h;try dsimp only at h
   refine fo 9 [] ?_;refine zI aj F h λe7 F h=>?_
   refine uD F h (ya _ _) λr8 h=>?_
   refine o9 F h (λF h=>?_) λF h=>?_
   ·exact zX (z:=Ns6 _ g6 h zW)
   ·refine zE [(0,.p),(2,.q),(3,.q),(4,.q),(5,.q),(6,.q),(7,.p),(1,.q),(8,.w),(9,.q),(10,.w)] ?_;refine zC F h λF h=>?_
    refine dJ (s6.length+1) 32 F λF=>?_
    refine zF (bz aj s6 [e7] (c:=[[.val (.int .i64 e7.id),.val (.int .i64 e7.type),.val (.int .i64 e7.src),.val (.int .i64 e7.dst)]]) rfl) F λF=>?_
    exact zX (z:=Ns6 _ (g6+1) h zW)
  ·intro i6 s6 g6 _ F h;try dsimp only at h
   refine zV ?_;refine zN F h (0:Nat) [2,3,4,5] (λx=>[(8,.p (.val (.int .i64 ((x.1.1:Nat):Int))))]) [2,3,4,10286,10329,1194,1195] (λx H=>[(5,bx (H 5) [(4,.row 10372 x.2)]),(10372,.row x.2 105 4 (x.1.2.map aI))]) ?_ ?_ (hw:=by refine dx.trans (cz 5 4 10372 105 4 _ rfl rfl rfl (by decide)) ?_;exact zW)
   ·intro i9 s9 g9 _ _ F Ns9 h;try dsimp only at h
    refine fo 16 [.o,.w,.s,.q] ?_;refine zI aI F h λvr F h=>?_
    refine uD F h (jV _ _ _) λr11 h=>?_
    refine o9 F h (λF h=>?_) λF h=>?_
    ·exact zX (z:=Ns9 _ g9 h zW)
    ·refine zE [(0,.p),(2,.q),(3,.q),(4,.q),(5,.q),(6,.q),(7,.p),(1,.q),(8,.w),(9,.q),(10,.w)] ?_;refine zC F h λF h=>?_
     refine dJ (s9.length+1) 32 F λF=>?_
     refine zF (bz aI s9 [vr] (c:=[[.val (.int .i64 vr.id),.val (.int .i64 vr.attr),.val (.int .i64 vr.old),.val (.int .i64 vr.new)]]) rfl) F λF=>?_
     exact zX (z:=Ns9 _ (g9+1) h zW)
   ·intro i9 s9 g9 _ F h;try dsimp only at h
    exact jC h
end
noncomputable section
theorem oU(a0:aF)(a1:aF)(r:aF)(h:eG a0 a1=some r):bt pw 162 [.agg (aB a0),.agg (aB a1)] (λv=>v = .agg [.row 75 3 (r.au.map ag),.row 102 4 (r.aC.map aj),.row 75 3 (r.aM.map ag),.row 102 4 (r.aK.map aj),.row 105 4 (r.values.map aI),.p (.val (.int .i64 r.next.x0)),.p (.val (.int .i64 r.next.x1))]):=by
 refine bt.uz ?_;refine bF [] func162 ntmps162 results162 ?_;unfold eG at h;have F:=trivial;refine zG 1192 F h (jJ _) λr2 h=>?_
 refine fo 12 [] ?_;refine bY ((0:Int)<=0) F λF=>?_
 refine bY ((0:Int)<((2:Nat):Int)) F λF=>?_
 refine bY ((0:Int)<=1) F λF=>?_
 refine bY ((1:Int)<((2:Nat):Int)) F λF=>?_
 refine bY ((0:Int)<=0) F λF=>?_
 refine bY ((0:Int)<((2:Nat):Int)) F λF=>?_
 refine zV ?_;refine zL F h (0:Nat) [2,3,4,5,6,7] (λx=>[(8,.p (.val (.int .i64 x.1.1)))]) [2,3,4,1192,1193,1195,1196] (λx H=>[(5,bx (H 5) [(2,.row 1194 x.2)]),(1194,.row x.2 75 3 (x.1.2.map ag))]) ?_;intro s3 g3 _ _ F yR h;try dsimp only at h
 refine zB F h (λF h=>?_) λF h=>?_
 ·refine fo 14 [.w] ?_;refine zA ag F h λe4 F h=>?_
  refine uD F h (jU _ _ _) λr5 h=>?_
  refine zF (wZ ag s3.2 s3.1.toNat (⟨r5,e4.type,e4.values⟩:ah) (c:=[.val (.int .i64 r5),.val (.int .i64 e4.type),.aU (e4.values.map encI)]) rfl) F λF=>?_
  exact zX (z:=yR _ g3 h zW)
 ·try dsimp only at h
  refine zV ?_;refine zL F h (0:Nat) [2,3,4,5,6,7] (λx=>[(9,.p (.val (.int .i64 x.1.1)))]) [2,3,4,1192,1193,1194,1196] (λx H=>[(5,bx (H 5) [(3,.row 1195 x.2)]),(1195,.row x.2 102 4 (x.1.2.map aj))]) ?_;intro s6 g6 _ _ F Ns6 h;try dsimp only at h
  refine zB F h (λF h=>?_) λF h=>?_
  ·refine zA aj F h λe7 F h=>?_
   refine fo 22 [.w] ?_;refine uD F h (jU _ _ _) λr8 h=>?_
   refine uD F h (jU _ _ _) λr9 h=>?_
   refine uD F h (jU _ _ _) λr10 h=>?_
   refine zF (wZ aj s6.2 s6.1.toNat (⟨r8,e7.type,r9,r10⟩:ax) (c:=[.val (.int .i64 r8),.val (.int .i64 e7.type),.val (.int .i64 r9),.val (.int .i64 r10)]) rfl) F λF=>?_
   exact zX (z:=Ns6 _ g6 h zW)
  ·try dsimp only at h
   refine bY ((0:Int)<=1) F λF=>?_
   refine bY ((1:Int)<((2:Nat):Int)) F λF=>?_
   refine bY ((0:Int)<=1) F λF=>?_
   refine bY ((1:Int)<((2:Nat):Int)) F λF=>?_
   refine bY ((0:Int)<=1) F λF=>?_
   refine bY ((1:Int)<((2:Nat):Int)) F λF=>?_
   refine bY ((0:Int)<=0) F λF=>?_
   refine bY ((0:Int)<((2:Nat):Int)) F λF=>?_
   exact jC h
end
noncomputable section
theorem yc(a0:az)(a1:az)(r:aF×Bool)(h:jg a0 a1=some r):bt pw 85 [.agg (aD a0),.agg (aD a1)] (λv=>v = .dW [.agg [.row 75 3 (r.1.au.map ag),.row 102 4 (r.1.aC.map aj),.row 75 3 (r.1.aM.map ag),.row 102 4 (r.1.aK.map aj),.row 105 4 (r.1.values.map aI),.p (.val (.int .i64 r.1.next.x0)),.p (.val (.int .i64 r.1.next.x1))],.p (.val (.bool r.2))]):=by
 refine bt.uz ?_;refine bF [100] func85 ntmps85 results85 ?_;unfold jg at h;have F:=trivial;refine zK F h (xk _ _) λr2 h=>?_
 refine o9 F h (λF h=>?_) λF h=>?_
 ·refine zG 1416 F h (oT _ _) λr3 h=>?_
  refine zG 1544 F h (oT _ _) λr4 h=>?_
  refine zV ?_;refine zN F h (0:Nat) [2,3,4,6] (λx=>[(7,.p (.val (.int .i64 ((x.1.1:Nat):Int))))]) [2,3,4,1416,1417,1544,1545] (λx H=>[(6,bx (H 6) [(4,.row 6674 x.2)]),(6674,.row x.2 105 4 (x.1.2.map aI))]) ?_ ?_ (hw:=by refine dx.trans (cz 6 4 6674 105 4 _ rfl rfl rfl (by decide)) ?_;exact zW)
  ·intro i5 s5 g5 _ _ F Ns5 h;try dsimp only at h
   refine fo 9 [] ?_;refine zI encI F h λe6 F h=>?_
   refine uD F h (di _ _) λr7 h=>?_
   refine zB F h (λF h=>?_) λF h=>?_
   ·exact zX (z:=Ns5 _ g5 h zW)
   ·refine zV ?_;refine zL F h (g5:Nat) [2,3,4,6,7,8] (λx=>[(9,.p (.val (.int .i64 x.1.1)))]) [2,3,4,1416,1417,1544,1545] (λx H=>[(6,bx (H 6) [(4,.row 6674 x.2)]),(6674,.row x.2 105 4 (x.1.2.map aI))]) ?_;intro s8 g8 _ _ F Ns8 h;try dsimp only at h
    refine zI bJ F h λe9 F h=>?_
    refine zB F h (λF h=>?_) λF h=>?_
    ·refine fo 20 [] ?_;refine zA encI F h λvr F h=>?_
     refine zA bJ F h λe11 F h=>?_
     refine zA encI F h λyE F h=>?_
     refine o9 F h (λF h=>?_) λF h=>?_
     ·exact zX (z:=Ns8 _ g8 h zW)
     ·refine zE [(0,.p),(2,.q),(3,.q),(4,.q),(5,.q),(6,.q),(7,.q),(8,.q),(9,.q),(10,.q),(11,.p),(1,.q),(12,.w),(13,.q),(14,.w)] ?_;refine zC F h λF h=>?_
      refine dJ (s8.2.length+1) 32 F λF=>?_
      refine zF (bz aI s8.2 [(⟨e6,s8.1,vr,yE⟩:aO)] (c:=[[.val (.int .i64 e6),.val (.int .i64 s8.1),.val (.int .i64 vr),.val (.int .i64 yE)]]) rfl) F λF=>?_
      exact zX (z:=Ns8 _ (g8+1) h zW)
    ·try dsimp only at h
     exact zX (z:=Ns5 _ g8 h zW)
  ·intro i5 s5 g5 _ F h;try dsimp only at h
   exact jC h
 ·exact jC h
theorem tv(a0:aF)(a1:Int)(r:Bool)(h:iI a0 a1=some r):aS pw 100 [.agg (aB a0),.val (.int .i64 a1)] (λv=>v = .val (.bool r)):=by
 refine aS.oa ?_;refine aR [] func100 ntmps100 results100 ?_;unfold iI at h;have F:=trivial;refine zK F h (lQ _ (λx2=>lB x2 a1) 169 [] [.ee [.val (.int .i64 a1)] 0] (λx2 r h=>acJ x2 a1 r h)) λr3 h=>?_
 exact zR h
end
noncomputable section
theorem jr(a0:aQ)(a1:ah)(r:aQ×Bool)(h:cm a0 a1=some r):aS pw 197 [.agg [.aU (a0.nodes.map ag),.aU (a0.ak.map aj)],.agg (ag a1)] (λv=>v = .dW [.agg [.aU (r.1.nodes.map ag),.aU (r.1.ak.map aj)],.val (.bool r.2)]):=by
 refine aS.oa ?_;refine aR [21,26] func197 ntmps197 results197 ?_;unfold cm at h;have F:=trivial;refine zV ?_;refine zN F h () [2,3,4] (λx=>[(6,.p (.val (.int .i64 ((x.1.1:Nat):Int))))]) [2,3,4] (λx H=>[]) ?_ ?_
 ·intro i2 s2 g2 _ _ F nu h;try dsimp only at h
  have Ws2:=F.2.2;refine fo 7 [] ?_;refine zI ag F h λe3 F h=>?_
  refine uD F h (ve _ _) λr4 h=>?_
  refine zB F h (λF h=>?_) λF h=>?_
  ·refine zE [(1,.q),(2,.q),(3,.q),(4,.q),(6,.b),(7,.b),(8,.b),(9,.b),(10,.b),(12,.b),(13,.b),(0,.w),(5,.s),(11,.w),(14,.q),(15,.w),(16,.q)] ?_;refine zC F h λF h=>?_
   refine zF (eq_true (fc (n:=3) (f:=ag) (λ_=>rfl) a0.nodes)) F λF=>?_
   refine zC F h λF h=>?_
   have w:=F.2;simp only[Ws2,toNat_natCast] at w;replace F:=And.intro F w;refine zF (eq_true (fc (n:=3) (f:=ag) (λ_=>rfl) a0.nodes)) F λF=>?_
   refine zC F h λF h=>?_
   refine dJ ((a0.nodes.take i2).length) 40 F λF=>?_
   refine zF (eq_true (fc (n:=3) (f:=ag) (λ_=>rfl) (a0.nodes.take i2))) F λF=>?_
   refine zC F h λF h=>?_
   have w:=F.2;simp only[Ws2,toNat_natCast] at w;replace F:=And.intro F w;refine dJ ((a0.nodes.take i2).length+(a0.nodes.drop (i64.wrap (((i2:Nat):Int)+1)).toNat).length) 40 F λF=>?_
   have w:=F.2;simp only[Ws2,toNat_natCast] at w;replace F:=And.intro F w;refine zF (eq_true (fc (n:=3) (f:=ag) (λ_=>rfl) (a0.nodes.drop (i64.wrap (((i2:Nat):Int)+1)).toNat))) F λF=>?_
   have w:=F.2;simp only[Ws2,toNat_natCast] at w;replace F:=And.intro F w;exact zR h
  ·exact zX (z:=nu _ () h zW)
 ·intro i2 s2 g2 _ F h;try dsimp only at h
  exact zR h
theorem zS(a0:Types)(a1:az)(a2:aF)(a3:aF)(r:az×az×Int)(h:mq a0 a1 a2 a3=some r):aS pw 52 [.agg [.aU (a0.nodes.map aJ),.aU (a0.ak.map aP)],.agg (aD a1),.agg (aB a2),.agg (aB a3)] (λv=>v = .dW [.agg (aD r.1),.agg (aD r.2.1),.val (.int .i64 r.2.2)]):=by
 refine aS.oa ?_;refine aR [2000008] func52 ntmps52 results52 ?_;unfold mq at h;have F:=trivial;refine zK F h (pY _ _ _) λr4 h=>?_
 refine o9 F h (λF h=>?_) λF h=>?_
 ·refine fo 5 [.w,.s] ?_;refine zTd F h (yG _ _) λr5 h=>?_
  refine zTd F h (aeN _ _) λr6 h=>?_
  refine pO F h (λF h=>?_) λF h=>?_
  ·exact zR h
  ·refine zB F h (λF h=>?_) λF h=>?_
   ·exact zR h
   ·refine zK F h (pY _ _ _) λr7 h=>?_
    refine zD [.q,.o,.p,.s,.w,.q] ?_;exact zR h
 ·exact zR h
end
noncomputable section
theorem rC(a0:aF)(a1:az)(r:aF)(h:dX a0 a1=some r):bt pw 160 [.agg (aB a0),.agg (aD a1)] (λv=>v = .agg [.row 75 3 (r.au.map ag),.row 102 4 (r.aC.map aj),.row 75 3 (r.aM.map ag),.row 102 4 (r.aK.map aj),.row 105 4 (r.values.map aI),.p (.val (.int .i64 r.next.x0)),.p (.val (.int .i64 r.next.x1))]):=by
 refine bt.uz ?_;refine bF [] func160 ntmps160 results160 ?_;unfold dX at h;have F:=trivial;refine zG 1144 F h (jJ _) λr2 h=>?_
 refine zV ?_;refine zL F h (0:Nat) [3,4,5] (λx=>[(6,.p (.val (.int .i64 x.1.1)))]) [3,4,1145,1146,1147,1148] (λx H=>[(5,bx (H 5) [(0,.row 1144 x.2)]),(1144,.row x.2 75 3 (x.1.2.map ag))]) ?_;intro s3 g3 _ _ F yR h;try dsimp only at h
 refine zB F h (λF h=>?_) λF h=>?_
 ·refine zV ?_;refine zN F h (g3:Nat) [3,4,5,6] (λx=>[(7,.p (.val (.int .i64 ((x.1.1:Nat):Int))))]) [3,4,1145,1146,1147,1148] (λx H=>[(5,bx (H 5) [(0,.row 1144 x.2)]),(1144,.row x.2 75 3 (x.1.2.map ag))]) ?_ ?_
  ·intro i4 s4 g4 _ _ F Ns4 h;try dsimp only at h
   refine fo 12 [] ?_;refine zI encI F h λe5 F h=>?_
   refine zA ag F h λe6 F h=>?_
   refine zB F h (λF h=>?_) λF h=>?_
   ·refine zE [(0,.p),(2,.p),(3,.p),(1,.b),(4,.q),(5,.q),(6,.q),(7,.q),(8,.q),(9,.q),(10,.w),(11,.q),(12,.q),(13,.w)] ?_;refine zI bJ F h λe7 F h=>?_
    refine zC F h λF h=>?_
    refine dJ e7.length 8 F λF=>?_
    refine zF (eq_true (fc (n:=1) (f:=encI) (λ_=>rfl) e7)) F λF=>?_
    refine zF (wZ ag s4 s3.1.toNat (⟨e6.id,e6.type,e7⟩:ah) (c:=[.val (.int .i64 e6.id),.val (.int .i64 e6.type),.aU (e7.map encI)]) rfl) F λF=>?_
    exact zX (z:=Ns4 _ g4 h zW)
   ·exact zX (z:=Ns4 _ g4 h zW)
  ·intro i4 s4 g4 _ F h;try dsimp only at h
   exact zX (z:=yR _ g4 h zW)
 ·try dsimp only at h
  exact jC h
end
noncomputable section
theorem ahp(a0:Types)(a1:az)(a2:aF)(a3:aF)(r:az×Int)(h:pR a0 a1 a2 a3=some r):aS pw 105 [.agg [.aU (a0.nodes.map aJ),.aU (a0.ak.map aP)],.agg (aD a1),.agg (aB a2),.agg (aB a3)] (λv=>v = .dW [.agg (aD r.1),.val (.int .i64 r.2)]):=by
 refine aS.oa ?_;refine aR [] func105 ntmps105 results105 ?_;unfold pR at h;have F:=trivial;refine zG 1208 F h (yG _ _) λr4 h=>?_
 refine bY ((0:Int)<=0) F λF=>?_
 refine bY ((0:Int)<((2:Nat):Int)) F λF=>?_
 refine zKs [1208,1209] F h (pY _ _ _) λr5 h=>?_
 exact zR h
theorem aeQ(a0:Types)(a1:Host)(r:(List cI)×Int)(h:nC a0 a1=some r):bt pw 187 [.agg [.aU (a0.nodes.map aJ),.aU (a0.ak.map aP)],.agg (pM a1)] (λv=>v = .dW [.row 264 4 (r.1.map dF),.p (.val (.int .i64 r.2))]):=by
 refine bt.uz ?_;refine bF [35] func187 ntmps187 results187 ?_;unfold nC at h;have F:=trivial;refine zK F h (aj9 _ _) λr2 h=>?_
 refine o9 F h (λF h=>?_) λF h=>?_
 ·refine zV ?_;refine zN F h (0:Nat) [2,3,17,18] (λx=>[(7,.row 13646 x.2),(19,.p (.val (.int .i64 ((x.1.1:Nat):Int))))]) [2,3] (λx H=>[(13646,.row x.2 264 4 (x.1.2.map dF))]) ?_ ?_ (hw:=by refine dx.trans (ja 7 13646 264 4 rfl rfl (by decide)) ?_;exact zW)
  ·intro i3 s3 g3 _ _ F yR h;try dsimp only at h
   refine zI aP F h λe4 F h=>?_
   refine zG 1544 F h (yH _ _ _ _ _ _ _) λr5 h=>?_
   refine zC F h λF h=>?_
   refine dJ (s3.length+r5.length) 32 F λF=>?_
   refine zF (eq_true (fc (n:=4) (f:=dF) (λ_=>rfl) r5)) F λF=>?_
   refine zG 1736 F h (yH _ _ _ _ _ _ _) λr6 h=>?_
   refine zC F h λF h=>?_
   refine dJ (s3.length+r5.length+r6.length) 32 F λF=>?_
   refine zF (eq_true (fc (n:=4) (f:=dF) (λ_=>rfl) r6)) F λF=>?_
   exact zX (z:=yR _ (g3+1+1) h zW)
  ·intro i3 s3 g3 _ F h;try dsimp only at h
   exact jC h
 ·exact jC h
end
noncomputable section
theorem ji(a0:Types)(a1:az)(r:(List bK))(h:dO a0 a1=some r):bt pw 163 [.agg [.aU (a0.nodes.map aJ),.aU (a0.ak.map aP)],.agg (aD a1)] (λv=>v = .row 241 3 (r.map bZ)):=by
 refine bt.uz ?_;refine bF [44] func163 ntmps163 results163 ?_;unfold dO at h;have F:=trivial;refine zG 1208 F h (vf _ _) λr2 h=>?_
 refine zV ?_;refine zN F h (0:Nat) [3,5] (λx=>[(7,.row 11553 x.2),(8,.p (.val (.int .i64 ((x.1.1:Nat):Int))))]) [3,1208] (λx H=>[(11553,.row x.2 241 3 (x.1.2.map bZ))]) ?_ ?_ (hw:=by refine dx.trans (ja 7 11553 241 3 rfl rfl (by decide)) ?_;exact zW)
 ·intro i3 s3 g3 _ _ F yR h;try dsimp only at h
  refine zD [.p,.q,.q,.q,.q,.q,.q,.q,.q,.q,.q,.q,.q,.q,.q,.q,.q,.q,.q,.q,.q,.p,.w,.q] ?_;refine zI dF F h λe4 F h=>?_
  refine zA encI F h λe5 F h=>?_
  refine zC F h λF h=>?_
  refine dJ (s3.length+1) 24 F λF=>?_
  refine zF (bz bZ s3 [(⟨e5,e4.ia,e4.out⟩:bK)] (c:=[[.val (.int .i64 e5),.val (.int .i64 e4.ia),.val (.bool e4.out)]]) rfl) F λF=>?_
  exact zX (z:=yR _ (g3+1) h zW)
 ·intro i3 s3 g3 _ F h;try dsimp only at h
  exact jC h
theorem aaT(a0:aF)(r:Bool)(h:nH a0=some r):aS pw 99 [.agg (aB a0)] (λv=>v = .val (.bool r)):=by
 refine aS.oa ?_;refine aR [] func99 ntmps99 results99 ?_;unfold nH at h;have F:=trivial;refine bY ((0:Int)<=1) F λF=>?_
 refine bY ((1:Int)<((2:Nat):Int)) F λF=>?_
 refine bY ((0:Int)<=0) F λF=>?_
 refine bY ((0:Int)<((2:Nat):Int)) F λF=>?_
 refine oQ F h (λF h=>?_) λF h=>?_
 ·refine zK F h (lQ _ (λx1=>nA x1 (⟨a0.au,a0.aC,a0.aM,a0.aK,a0.values,a0.next⟩:aF)) 166 [] [.ee (aB (⟨a0.au,a0.aC,a0.aM,a0.aK,a0.values,a0.next⟩:aF)) 0] (λx1 r h=>aeO x1 (⟨a0.au,a0.aC,a0.aM,a0.aK,a0.values,a0.next⟩:aF) r h)) λr2 h=>?_
  refine pO F h (λF h=>?_) λF h=>?_
  ·exact zR h
  ·refine zK F h (rB _ (λx3=>nB x3 (⟨a0.au,a0.aC,a0.aM,a0.aK,a0.values,a0.next⟩:aF)) 168 [] [.ee (aB (⟨a0.au,a0.aC,a0.aM,a0.aK,a0.values,a0.next⟩:aF)) 0] (λx3 r h=>aeP x3 (⟨a0.au,a0.aC,a0.aM,a0.aK,a0.values,a0.next⟩:aF) r h)) λr4 h=>?_
   exact zR h
 ·exact zR h
end
noncomputable section
theorem p6(a0:aF)(a1:aF)(r:(List aG))(h:iN a0 a1=some r):bt pw 51 [.agg (aB a0),.agg (aB a1)] (λv=>v = .row 57 3 (r.map ay)):=by
 refine bt.uz ?_;refine bF [58,81,124] func51 ntmps51 results51 ?_;unfold iN at h;have F:=trivial;obtain⟨l2,hl3,h⟩:=ot h;have hm4:l2.map kz=[[.aU (a0.au.map ag),.aU (a0.aC.map aj),.aU (a0.aM.map ag),.aU (a0.aK.map aj),.aU (a0.values.map aI),.val (.int .i64 a0.next.x0),.val (.int .i64 a0.next.x1),.aU (a1.au.map ag),.aU (a1.aC.map aj),.aU (a1.aM.map ag),.aU (a1.aK.map aj),.aU (a1.values.map aI),.val (.int .i64 a1.next.x0),.val (.int .i64 a1.next.x1)],[.aU (a1.au.map ag),.aU (a1.aC.map aj),.aU (a1.aM.map ag),.aU (a1.aK.map aj),.aU (a1.values.map aI),.val (.int .i64 a1.next.x0),.val (.int .i64 a1.next.x1),.aU (a0.au.map ag),.aU (a0.aC.map aj),.aU (a0.aM.map ag),.aU (a0.aK.map aj),.aU (a0.values.map aI),.val (.int .i64 a0.next.x0),.val (.int .i64 a0.next.x1)]]:=by cases hl3;rfl
 refine zV ?_;refine zN F h ((0,0):Nat×Nat) [2,3,7,27] (λx=>[(5,.row 12959 x.2.1),(6,.row 12960 x.2.2),(26,.p (.aU (l2.map kz))),(28,.p (.val (.int .i64 ((x.1.1:Nat):Int))))]) [2,3] (λx H=>[(12959,.row x.2.1 57 3 (x.1.2.1.map ay)),(12960,.row x.2.2 57 3 (x.1.2.2.map ay))]) ?_ ?_ (hw:=by refine dx.trans (ja 5 12959 57 3 rfl rfl (by decide)) ?_;refine dx.trans (ja 6 12960 57 3 rfl rfl (by decide)) ?_;exact yA (by simp -implicitDefEqProofs only[go_sem,F,hm4]<;>and_intros<;>rfl))
 ·intro i5 s5 g5 _ _ F Ns5 h;try dsimp only at h
  refine zI kz F h λe6 F h=>?_
  refine bY ((0:Int)<=1) F λF=>?_
  refine bY ((1:Int)<((2:Nat):Int)) F λF=>?_
  refine zV ?_;refine zN F h (g5.1:Nat) [2,3,6,7,9,26,27,28,34,35] (λx=>[(5,.row 12959 x.2),(36,.p (.val (.int .i64 ((x.1.1:Nat):Int))))]) [2,3,12960,9] (λx H=>[(12959,.row x.2 57 3 (x.1.2.map ay))]) ?_ ?_
  ·intro i7 s7 g7 _ _ F Ns7 h;try dsimp only at h
   refine zI aj F h λe8 F h=>?_
   obtain⟨l9,aJf,h⟩:=ot h;have aJg:l9.map encI=[[.val (.int .i64 e8.src)],[.val (.int .i64 e8.dst)]]:=by cases aJf;rfl
   refine zV ?_;refine zN F h (g7:Nat) [2,3,6,7,9,26,27,28,34,35,36,45] (λx=>[(5,.row 12959 x.2),(44,.p (.aU (l9.map encI))),(46,.p (.val (.int .i64 ((x.1.1:Nat):Int))))]) [2,3,12960,9] (λx H=>[(12959,.row x.2 57 3 (x.1.2.map ay))]) ?_ ?_ (hw:=by exact yA (by simp -implicitDefEqProofs only[go_sem,F,aJg]<;>and_intros<;>rfl))
   ·intro i12 s12 g12 _ _ F azn h;try dsimp only at h
    refine zI encI F h λe13 F h=>?_
    refine bY ((0:Int)<=0) F λF=>?_
    refine bY ((0:Int)<((2:Nat):Int)) F λF=>?_
    refine zK F h (tv _ _) λr14 h=>?_
    refine zB F h (λF h=>?_) λF h=>?_
    ·refine zC F h λF h=>?_
     refine dJ (s12.length+1) 24 F λF=>?_
     refine zF (bz ay s12 [(⟨1,e13,(-1)⟩:aG)] (c:=[[.val (.int .i64 1),.val (.int .i64 e13),.val (.int .i64 (-1))]]) rfl) F λF=>?_
     exact zX (z:=azn _ (g12+1) h zW)
    ·exact zX (z:=azn _ g12 h zW)
   ·intro i12 s12 g12 _ F h;try dsimp only at h
    exact zX (z:=Ns7 _ g12 h zW)
  ·intro i7 s7 g7 _ F h;try dsimp only at h
   refine bY ((0:Int)<=1) F λF=>?_
   refine bY ((1:Int)<((2:Nat):Int)) F λF=>?_
   refine zV ?_;refine zN F h (g5.2:Nat) [2,3,5,7,9,26,27,28,63,64] (λx=>[(6,.row 12960 x.2),(65,.p (.val (.int .i64 ((x.1.1:Nat):Int))))]) [2,3,12959,9] (λx H=>[(12960,.row x.2 57 3 (x.1.2.map ay))]) ?_ ?_
   ·intro i15 yF g15 _ _ F ahn h;try dsimp only at h
    refine zI aI F h λe16 F h=>?_
    refine bY ((0:Int)<=0) F λF=>?_
    refine bY ((0:Int)<((2:Nat):Int)) F λF=>?_
    refine zK F h (tv _ _) λr17 h=>?_
    refine zB F h (λF h=>?_) λF h=>?_
    ·refine zC F h λF h=>?_
     refine dJ (yF.length+1) 24 F λF=>?_
     refine zF (bz ay yF [(⟨2,e16.id,e16.attr⟩:aG)] (c:=[[.val (.int .i64 2),.val (.int .i64 e16.id),.val (.int .i64 e16.attr)]]) rfl) F λF=>?_
     exact zX (z:=ahn _ (g15+1) h zW)
    ·exact zX (z:=ahn _ g15 h zW)
   ·intro i15 yF g15 _ F h;try dsimp only at h
    exact zX (z:=Ns5 _ (g7,g15) h zW)
 ·intro i5 s5 g5 _ F h;try dsimp only at h
  refine zV ?_;refine zN F h (0:Nat) [3,5,6,85,86] (λx=>[(7,.row 13245 x.2),(87,.p (.val (.int .i64 ((x.1.1:Nat):Int))))]) [3,12959,12960] (λx H=>[(13245,.row x.2 57 3 (x.1.2.map ay))]) ?_ ?_ (hw:=by refine dx.trans (ja 7 13245 57 3 rfl rfl (by decide)) ?_;exact zW)
  ·intro i18 s18 g18 _ _ F aJh h;try dsimp only at h
   refine zI aI F h λe19 F h=>?_
   refine zV ?_;refine zN F h (g18:Nat) [3,5,6,17,85,86,87,92,93] (λx=>[(7,.row 13245 x.2),(94,.p (.val (.int .i64 ((x.1.1:Nat):Int))))]) [3,12959,12960,17] (λx H=>[(13245,.row x.2 57 3 (x.1.2.map ay))]) ?_ ?_
   ·intro i20 s20 g20 _ _ F aho h;try dsimp only at h
    refine zI aI F h λe21 F h=>?_
    refine oQ F h (λF h=>?_) λF h=>?_
    ·refine oQ F h (λF h=>?_) λF h=>?_
     ·refine o9 F h (λF h=>?_) λF h=>?_
      ·exact zX (z:=aho _ g20 h zW)
      ·refine zC F h λF h=>?_
       refine dJ (s20.length+1) 24 F λF=>?_
       refine zF (bz ay s20 [(⟨3,e19.id,e19.attr⟩:aG)] (c:=[[.val (.int .i64 3),.val (.int .i64 e19.id),.val (.int .i64 e19.attr)]]) rfl) F λF=>?_
       exact zX (z:=aho _ (g20+1) h zW)
     ·exact zX (z:=aho _ g20 h zW)
    ·exact zX (z:=aho _ g20 h zW)
   ·intro i20 s20 g20 _ F h;try dsimp only at h
    exact zX (z:=aJh _ g20 h zW)
  ·intro i18 s18 g18 _ F h;try dsimp only at h
   refine zMb F h (pX g5.1 _) λr22 h=>?_
   refine zMb F h (pX g5.2 _) λr23 h=>?_
   refine zMb F h (pX g18 _) λr24 h=>?_
   refine zG 3144 F h (vv _) λr25 h=>?_
   exact jC h
end
noncomputable section
theorem tw(a0:aQ)(a1:aF)(r:aQ×Bool)(h:fV a0 a1=some r):aS pw 116 [.agg [.aU (a0.nodes.map ag),.aU (a0.ak.map aj)],.agg (aB a1)] (λv=>v = .dW [.agg [.aU (r.1.nodes.map ag),.aU (r.1.ak.map aj)],.val (.bool r.2)]):=by
 refine aS.oa ?_;refine aR [] func116 ntmps116 results116 ?_;unfold fV at h;have F:=trivial;refine zV ?_;refine zL F h () [2,3,4] (λx=>[(6,.p (.val (.bool x.1.1))),(7,.p (.val (.int .i64 x.1.2.1)))]) [3,4] (λx H=>[(2,.box [.p (.aU (x.1.2.2.1.map ag)),.p (.aU (x.1.2.2.2.map aj))])]) ?_;intro s2 g2 _ _ F nu h;try dsimp only at h
 refine oQ F h (λF h=>?_) λF h=>?_
 ·refine zB F h (λF h=>?_) λF h=>?_
  ·refine fo 9 [.p,.w,.q] ?_;refine zA aj F h λe3 F h=>?_
   refine uD F h (lP _ _) λr4 h=>?_
   exact zX (z:=nu _ () h zW)
  ·try dsimp only at h
   refine zV ?_;refine zL F h () [2,3,4] (λx=>[(6,.p (.val (.bool x.1.1))),(8,.p (.val (.int .i64 x.1.2.1)))]) [3,4] (λx H=>[(2,.box [.p (.aU (x.1.2.2.1.map ag)),.p (.aU (x.1.2.2.2.map aj))])]) ?_;intro s5 g5 _ _ F Ns5 h;try dsimp only at h
   refine oQ F h (λF h=>?_) λF h=>?_
   ·refine zB F h (λF h=>?_) λF h=>?_
    ·refine fo 9 [.p,.w,.q] ?_;refine zA ag F h λe6 F h=>?_
     refine uD F h (jr _ _) λr7 h=>?_
     exact zX (z:=Ns5 _ () h zW)
    ·try dsimp only at h
     refine zV ?_;refine zL F h () [2,3,4] (λx=>[(6,.p (.val (.bool x.1.1))),(9,.p (.val (.int .i64 x.1.2.1)))]) [3,4] (λx H=>[(2,.box [.p (.aU (x.1.2.2.1.map ag)),.p (.aU (x.1.2.2.2.map aj))])]) ?_;intro s8 g8 _ _ F Ns8 h;try dsimp only at h
     refine oQ F h (λF h=>?_) λF h=>?_
     ·refine zB F h (λF h=>?_) λF h=>?_
      ·refine fo 9 [.p,.w,.q] ?_;refine zA aI F h λe9 F h=>?_
       refine zTd F h (iY _ _) λr10 h=>?_
       exact zX (z:=Ns8 _ () h zW)
      ·try dsimp only at h
       exact zR h
     ·try dsimp only at h
      exact zR h
   ·try dsimp only at h
    refine zV ?_;refine zL F h () [2,3,4] (λx=>[(6,.p (.val (.bool x.1.1))),(9,.p (.val (.int .i64 x.1.2.1)))]) [3,4] (λx H=>[(2,.box [.p (.aU (x.1.2.2.1.map ag)),.p (.aU (x.1.2.2.2.map aj))])]) ?_;intro s11 g11 _ _ F aDN h;try dsimp only at h
    refine oQ F h (λF h=>?_) λF h=>?_
    ·refine zB F h (λF h=>?_) λF h=>?_
     ·refine fo 9 [.p,.w,.q] ?_;refine zA aI F h λyE F h=>?_
      refine zTd F h (iY _ _) λyP h=>?_
      exact zX (z:=aDN _ () h zW)
     ·try dsimp only at h
      exact zR h
    ·try dsimp only at h
     exact zR h
 ·try dsimp only at h
  refine zV ?_;refine zL F h () [2,3,4] (λx=>[(6,.p (.val (.bool x.1.1))),(8,.p (.val (.int .i64 x.1.2.1)))]) [3,4] (λx H=>[(2,.box [.p (.aU (x.1.2.2.1.map ag)),.p (.aU (x.1.2.2.2.map aj))])]) ?_;intro s14 g14 _ _ F agj h;try dsimp only at h
  refine oQ F h (λF h=>?_) λF h=>?_
  ·refine zB F h (λF h=>?_) λF h=>?_
   ·refine fo 9 [.p,.w,.q] ?_;refine zA ag F h λe15 F h=>?_
    refine uD F h (jr _ _) λr16 h=>?_
    exact zX (z:=agj _ () h zW)
   ·try dsimp only at h
    refine zV ?_;refine zL F h () [2,3,4] (λx=>[(6,.p (.val (.bool x.1.1))),(9,.p (.val (.int .i64 x.1.2.1)))]) [3,4] (λx H=>[(2,.box [.p (.aU (x.1.2.2.1.map ag)),.p (.aU (x.1.2.2.2.map aj))])]) ?_;intro s17 g17 _ _ F aJi h;try dsimp only at h
    refine oQ F h (λF h=>?_) λF h=>?_
    ·refine zB F h (λF h=>?_) λF h=>?_
     ·refine fo 9 [.p,.w,.q] ?_;refine zA aI F h λe18 F h=>?_
      refine zTd F h (iY _ _) λr19 h=>?_
      exact zX (z:=aJi _ () h zW)
     ·try dsimp only at h
      exact zR h
    ·try dsimp only at h
     exact zR h
  ·try dsimp only at h
   refine zV ?_;refine zL F h () [2,3,4] (λx=>[(6,.p (.val (.bool x.1.1))),(9,.p (.val (.int .i64 x.1.2.1)))]) [3,4] (λx H=>[(2,.box [.p (.aU (x.1.2.2.1.map ag)),.p (.aU (x.1.2.2.2.map aj))])]) ?_;intro s20 g20 _ _ F aho h;try dsimp only at h
   refine oQ F h (λF h=>?_) λF h=>?_
   ·refine zB F h (λF h=>?_) λF h=>?_
    ·refine fo 9 [.p,.w,.q] ?_;refine zA aI F h λe21 F h=>?_
     refine zTd F h (iY _ _) λr22 h=>?_
     exact zX (z:=aho _ () h zW)
    ·try dsimp only at h
     exact zR h
   ·try dsimp only at h
    exact zR h
end
noncomputable section
theorem wA(a0:Types)(a1:az)(a2:aF)(a3:aF)(r:Int)(h:kg a0 a1 a2 a3=some r):aS pw 50 [.agg [.aU (a0.nodes.map aJ),.aU (a0.ak.map aP)],.agg (aD a1),.agg (aB a2),.agg (aB a3)] (λv=>v = .val (.int .i64 r)):=by
 refine aS.oa ?_;refine aR [] func50 ntmps50 results50 ?_;unfold kg at h;have F:=trivial;obtain⟨l4,hl5,h⟩:=ot h;have hm6:l4.map aB=[[.aU (a2.au.map ag),.aU (a2.aC.map aj),.aU (a2.aM.map ag),.aU (a2.aK.map aj),.aU (a2.values.map aI),.val (.int .i64 a2.next.x0),.val (.int .i64 a2.next.x1)],[.aU (a3.au.map ag),.aU (a3.aC.map aj),.aU (a3.aM.map ag),.aU (a3.aK.map aj),.aU (a3.values.map aI),.val (.int .i64 a3.next.x0),.val (.int .i64 a3.next.x1)]]:=by cases hl5;rfl
 refine zV ?_;refine zN F h () [4,5,6,7,16] (λx=>[(15,.p (.aU (l4.map aB))),(17,.p (.val (.int .i64 ((x.1.1:Nat):Int))))]) [4,5,6,7] (λx H=>[]) ?_ ?_ (hw:=by exact yA (by simp -implicitDefEqProofs only[go_sem,F,hm6]<;>and_intros<;>rfl))
 ·intro i7 s7 g7 _ _ F Ns7 h;try dsimp only at h
  refine zI aB F h λe8 F h=>?_
  refine zK F h (pY _ _ _) λr9 h=>?_
  refine o9 F h (λF h=>?_) λF h=>?_
  ·exact zX (z:=Ns7 _ () h zW)
  ·exact zR h
 ·intro i7 s7 g7 _ F h;try dsimp only at h
  refine zK F h (aaT _) λr10 h=>?_
  refine oQ F h (λF h=>?_) λF h=>?_
  ·refine zK F h (aaT _) λr11 h=>?_
   refine o9 F h (λF h=>?_) λF h=>?_
   ·refine bY ((0:Int)<=1) F λF=>?_
    refine bY ((1:Int)<((2:Nat):Int)) F λF=>?_
    refine bY ((0:Int)<=1) F λF=>?_
    refine bY ((1:Int)<((2:Nat):Int)) F λF=>?_
    refine bY ((0:Int)<=0) F λF=>?_
    refine bY ((0:Int)<((2:Nat):Int)) F λF=>?_
    refine zB F h (λF h=>?_) λF h=>?_
    ·exact zR h
    ·exact zR h
   ·exact zR h
  ·exact zR h
end
noncomputable section
theorem oV(a0:az)(a1:Bool)(a2:Int)(r:az)(h:fJ a0 a1 a2=some r):bt pw 151 [.agg (aD a0),.val (.bool a1),.val (.int .i64 a2)] (λv=>v = .agg [.row 3 1 (r.host.graph.nodes.map encI),.row 175 3 (r.host.graph.ak.map aZ),.row 32 1 (r.host.values.map bJ),.row 3 1 (r.nodes.map encI),.row 3 1 (r.ak.map encI),.p (.val (.int .i64 r.next))]):=by
 refine bt.uz ?_;refine bF [] func151 ntmps151 results151 ?_;unfold fJ at h;have F:=trivial;refine zG 1144 F h (pS _) λr3 h=>?_
 refine zB F h (λF h=>?_) λF h=>?_
 ·refine zV ?_;refine kS 1144 0 75 3 (r3.nodes.map ag) [] (by simp -implicitDefEqProofs only[go_sem,F]<;>rfl) (by simp -implicitDefEqProofs only[go_sem,F]<;>and_intros<;>rfl) (by decide) ?_;refine kS 1145 0 102 4 (r3.ak.map aj) [] (by simp -implicitDefEqProofs only[go_sem,F]<;>rfl) (by simp -implicitDefEqProofs only[go_sem,F]<;>and_intros<;>rfl) (by decide) ?_;refine fo 9 [.p,.w] ?_;refine zA aj F h λe4 F h=>?_
  refine uD F h (lP _ _) λr5 h=>?_
  refine zG 1544 F h (jq _ _) λr6 h=>?_
  exact jC h
 ·refine zV ?_;refine kS 1144 0 75 3 (r3.nodes.map ag) [] (by simp -implicitDefEqProofs only[go_sem,F]<;>rfl) (by simp -implicitDefEqProofs only[go_sem,F]<;>and_intros<;>rfl) (by decide) ?_;refine kS 1145 0 102 4 (r3.ak.map aj) [] (by simp -implicitDefEqProofs only[go_sem,F]<;>rfl) (by simp -implicitDefEqProofs only[go_sem,F]<;>and_intros<;>rfl) (by decide) ?_;refine fo 9 [.p,.w] ?_;refine zA ag F h λe7 F h=>?_
  refine uD F h (jr _ _) λr8 h=>?_
  refine zG 1544 F h (jq _ _) λr9 h=>?_
  exact jC h
end
noncomputable section
end
noncomputable section
theorem oK(a0:Types)(a1:az)(r:(List bn))(h:iV a0 a1=some r):bt pw 107 [.agg [.aU (a0.nodes.map aJ),.aU (a0.ak.map aP)],.agg (aD a1)] (λv=>v = .row 188 3 (r.map cB)):=by
 refine bt.uz ?_;refine bF [36] func107 ntmps107 results107 ?_;unfold iV at h;have F:=trivial;refine zG 1224 F h (aeQ _ _) λr2 h=>?_
 refine zV ?_;refine zN F h (0:Nat) [3,17,18] (λx=>[(7,.row 13695 x.2),(19,.p (.val (.int .i64 ((x.1.1:Nat):Int))))]) [3,1224] (λx H=>[(13695,.row x.2 188 3 (x.1.2.map cB))]) ?_ ?_ (hw:=by refine dx.trans (ja 7 13695 188 3 rfl rfl (by decide)) ?_;exact zW)
 ·intro i3 s3 g3 _ _ F yR h;try dsimp only at h
  refine zI dF F h λe4 F h=>?_
  refine zD [.p,.q,.q,.q,.q,.q,.q,.q,.q,.q,.q,.q,.p,.w,.q] ?_;refine zA encI F h λe5 F h=>?_
  refine zC F h λF h=>?_
  refine dJ (s3.length+1) 24 F λF=>?_
  refine zF (bz cB s3 [(⟨e5,e4.ia,e4.out⟩:bn)] (c:=[[.val (.int .i64 e5),.val (.int .i64 e4.ia),.val (.bool e4.out)]]) rfl) F λF=>?_
  exact zX (z:=yR _ (g3+1) h zW)
 ·intro i3 s3 g3 _ F h;try dsimp only at h
  exact jC h
end
noncomputable section
theorem qT(a0:Types)(a1:az)(a2:az)(r:aF×Int)(h:gY a0 a1 a2=some r):bt pw 35 [.agg [.aU (a0.nodes.map aJ),.aU (a0.ak.map aP)],.agg (aD a1),.agg (aD a2)] (λv=>v = .dW [.agg [.row 75 3 (r.1.au.map ag),.row 102 4 (r.1.aC.map aj),.row 75 3 (r.1.aM.map ag),.row 102 4 (r.1.aK.map aj),.row 105 4 (r.1.values.map aI),.p (.val (.int .i64 r.1.next.x0)),.p (.val (.int .i64 r.1.next.x1))],.p (.val (.int .i64 r.2))]):=by
 refine bt.uz ?_;refine bF [] func35 ntmps35 results35 ?_;unfold gY at h;have F:=trivial;refine zK F h (iW _ _) λr3 h=>?_
 refine o9 F h (λF h=>?_) λF h=>?_
 ·refine zK F h (iW _ _) λr4 h=>?_
  refine o9 F h (λF h=>?_) λF h=>?_
  ·refine zG 1464 F h (yc _ _) λr5 h=>?_
   refine o9 F h (λF h=>?_) λF h=>?_
   ·exact jC h
   ·exact jC h
  ·exact jC h
 ·exact jC h
end
noncomputable section
end
noncomputable section
theorem vA(a0:Types)(a1:az)(a2:jH)(r:az)(h:ic a0 a1 a2=some r):bt pw 88 [.agg [.aU (a0.nodes.map aJ),.aU (a0.ak.map aP)],.agg (aD a1),.agg (dZ a2)] (λv=>v = .agg [.row 3 1 (r.host.graph.nodes.map encI),.row 175 3 (r.host.graph.ak.map aZ),.row 32 1 (r.host.values.map bJ),.row 3 1 (r.nodes.map encI),.row 3 1 (r.ak.map encI),.p (.val (.int .i64 r.next))]):=by
 refine bt.uz ?_;refine bF [115,188] func88 ntmps88 results88 ?_;unfold ic at h;have F:=trivial;refine fo 8 [] ?_;refine bY ((0:Int)<=1) F λF=>?_
 refine bY ((1:Int)<((3:Nat):Int)) F λF=>?_
 refine bY ((0:Int)<=2) F λF=>?_
 refine bY ((2:Int)<((3:Nat):Int)) F λF=>?_
 refine zG 1352 F h (vu _) λr3 h=>?_
 refine fo 8 [] ?_;refine bY ((0:Int)<=0) F λF=>?_
 refine bY ((0:Int)<((3:Nat):Int)) F λF=>?_
 refine bY (¬ ((5:Int)=0)) F λF=>?_
 refine oQ F h (λF h=>?_) λF h=>?_
 ·refine zB F h (λF h=>?_) λF h=>?_
  ·refine fo 9 [] ?_;refine zC F h λF h=>?_
   refine zAq bJ F h λe4 qe4 F h=>?_
   refine zB F h (λF h=>?_) λF h=>?_
   ·refine fo 14 [.t] ?_;refine zC F h λF h=>?_
    refine zC F h λF h=>?_
    refine zA encI F h λe5 F h=>?_
    refine zF (wZ encI e4 (((i64.wrap a2.x2).tmod ((e4.length:Nat):Int)).toNat) (i64.wrap (e5+1)) (c:=[.val (.int .i64 (i64.wrap (e5+1)))]) rfl) F λF=>?_
    refine zF (wZ bJ r3.host.values (((i64.wrap a2.x1).tmod ((a1.nodes.length:Nat):Int)).toNat) (e4.set (((i64.wrap a2.x2).tmod ((e4.length:Nat):Int)).toNat) (i64.wrap (e5+1))) (c:=[.aU ((e4.set (((i64.wrap a2.x2).tmod ((e4.length:Nat):Int)).toNat) (i64.wrap (e5+1))).map encI)]) rfl) F λF=>?_
    refine zV ?_;refine afZ 3 _ _ 1354 0 (((i64.wrap a2.x1).tmod ((a1.nodes.length:Nat):Int)).toNat) (((i64.wrap a2.x2).tmod ((e4.length:Nat):Int)).toNat) 32 1 0 3 (r3.host.values.map bJ) (bJ e4) (e4.map encI) (.val (.int .i64 (i64.wrap (e5+1)))) rfl (by simp -implicitDefEqProofs only[go_sem,F]<;>rfl) (by simp -implicitDefEqProofs only[go_sem,F]) (by simp -implicitDefEqProofs only[go_sem,F]) ⟨rfl,rfl⟩ (by simp -implicitDefEqProofs only[go_sem,F]<;>rfl) (by rw[getElem?_map,aFn qe4];rfl) rfl (by rw[length_map];omega) ?_;refine zV ?_;refine jP _ _ (ku 1354 0 32 1 0 3 1 ((r3.host.values.set (((i64.wrap a2.x1).tmod ((a1.nodes.length:Nat):Int)).toNat) (e4.set (((i64.wrap a2.x2).tmod ((e4.length:Nat):Int)).toNat) (i64.wrap (e5+1)))).map bJ) (by decide) (by simp -implicitDefEqProofs only[go_sem,F]<;>rfl)) (by simp -implicitDefEqProofs only[go_sem,F]<;>rfl) (by first|trivial|(simp -implicitDefEqProofs only[go_sem,F]<;>trivial)) ?_;exact jC h
   ·refine zV ?_;refine jP _ _ (ku 1354 0 32 1 0 3 1 (r3.host.values.map bJ) (by decide) (by simp -implicitDefEqProofs only[go_sem,F]<;>rfl)) (by simp -implicitDefEqProofs only[go_sem,F]<;>rfl) (by first|trivial|(simp -implicitDefEqProofs only[go_sem,F]<;>trivial)) ?_;exact jC h
  ·refine zF (show decide (((i64.wrap a2.x0).tmod 5)=1)=false from gf (by have w:=F;simp only[decide_eq_true_eq] at w;omega)) F λF=>?_
   refine zF (show decide (((i64.wrap a2.x0).tmod 5)=2)=false from gf (by have w:=F;simp only[decide_eq_true_eq] at w;omega)) F λF=>?_
   refine zF (show decide (((i64.wrap a2.x0).tmod 5)=3)=false from gf (by have w:=F;simp only[decide_eq_true_eq] at w;omega)) F λF=>?_
   refine zF (show decide (((i64.wrap a2.x0).tmod 5)=4)=false from gf (by have w:=F;simp only[decide_eq_true_eq] at w;omega)) F λF=>?_
   refine zV ?_;refine jP _ _ (ku 1354 0 32 1 0 3 1 (r3.host.values.map bJ) (by decide) (by simp -implicitDefEqProofs only[go_sem,F]<;>rfl)) (by simp -implicitDefEqProofs only[go_sem,F]<;>rfl) (by first|trivial|(simp -implicitDefEqProofs only[go_sem,F]<;>trivial)) ?_;exact jC h
 ·refine oQ F h (λF h=>?_) λF h=>?_
  ·refine zB F h (λF h=>?_) λF h=>?_
   ·refine fo 4 [.f,.w] ?_;refine zC F h λF h=>?_
    refine zH 2216 F h (oV _ _ _) λr6 h=>?_
    exact jC h
   ·refine zF (show decide (((i64.wrap a2.x0).tmod 5)=2)=false from gf (by have w:=F;simp only[decide_eq_true_eq] at w;omega)) F λF=>?_
    refine zF (show decide (((i64.wrap a2.x0).tmod 5)=3)=false from gf (by have w:=F;simp only[decide_eq_true_eq] at w;omega)) F λF=>?_
    refine zF (show decide (((i64.wrap a2.x0).tmod 5)=4)=false from gf (by have w:=F;simp only[decide_eq_true_eq] at w;omega)) F λF=>?_
    refine zV ?_;refine jP _ _ (ku 1354 0 32 1 0 3 1 (r3.host.values.map bJ) (by decide) (by simp -implicitDefEqProofs only[go_sem,F]<;>rfl)) (by simp -implicitDefEqProofs only[go_sem,F]<;>rfl) (by first|trivial|(simp -implicitDefEqProofs only[go_sem,F]<;>trivial)) ?_;exact jC h
  ·refine oQ F h (λF h=>?_) λF h=>?_
   ·refine zB F h (λF h=>?_) λF h=>?_
    ·refine fo 4 [.f,.w] ?_;refine zC F h λF h=>?_
     refine zH 2408 F h (oV _ _ _) λr7 h=>?_
     exact jC h
    ·refine zF (show decide (((i64.wrap a2.x0).tmod 5)=3)=false from gf (by have w:=F;simp only[decide_eq_true_eq] at w;omega)) F λF=>?_
     refine zF (show decide (((i64.wrap a2.x0).tmod 5)=4)=false from gf (by have w:=F;simp only[decide_eq_true_eq] at w;omega)) F λF=>?_
     refine zV ?_;refine jP _ _ (ku 1354 0 32 1 0 3 1 (r3.host.values.map bJ) (by decide) (by simp -implicitDefEqProofs only[go_sem,F]<;>rfl)) (by simp -implicitDefEqProofs only[go_sem,F]<;>rfl) (by first|trivial|(simp -implicitDefEqProofs only[go_sem,F]<;>trivial)) ?_;exact jC h
   ·refine zB F h (λF h=>?_) λF h=>?_
    ·refine bY ((0:Int)<=1) F λF=>?_
     refine bY ((1:Int)<((3:Nat):Int)) F λF=>?_
     refine bY ((0:Int)<=2) F λF=>?_
     refine bY ((2:Int)<((3:Nat):Int)) F λF=>?_
     refine zT F h (qS _ _) λr8 h=>?_
     refine zB F h (λF h=>?_) λF h=>?_
     ·refine zV ?_;refine auS (ku 1354 0 32 1 0 3 1 (r3.host.values.map bJ) (by decide) (by simp -implicitDefEqProofs only[go_sem,F]<;>rfl)) ?_;refine zE [(0,.p),(1,.p),(2,.p),(4,.p),(5,.p),(11,.p),(12,.p),(14,.b),(15,.b),(16,.b),(17,.b),(18,.p),(3,.q),(6,.q),(7,.q),(8,.q),(13,.b),(9,.w),(10,.w),(20,.b),(21,.b),(22,.b),(19,.w),(23,.w),(24,.q),(25,.q),(26,.w)] ?_;refine zJ 0 bJ F h λe9 F h=>?_
      refine zJ 0 encI F h λvr F h=>?_
      refine zC F h λF h=>?_
      refine dJ (r3.host.graph.nodes.length+1) 8 F λF=>?_
      refine zF (bz encI r3.host.graph.nodes [vr] (c:=[[.val (.int .i64 vr)]]) rfl) F λF=>?_
      refine zC F h λF h=>?_
      refine dJ (r3.host.values.length+1) 24 F λF=>?_
      refine zF (bz bJ r3.host.values [e9] (c:=[[.aU (e9.map encI)]]) rfl) F λF=>?_
      refine zE [(0,.p),(2,.q),(3,.q),(4,.p),(1,.q),(6,.b),(7,.b),(5,.w),(8,.p),(9,.q),(10,.w),(11,.q),(12,.w)] ?_;refine zC F h λF h=>?_
      refine dJ (r3.nodes.length+1) 8 F λF=>?_
      refine zF (bz encI r3.nodes [r3.next] (c:=[[.val (.int .i64 r3.next)]]) rfl) F λF=>?_
      refine zV ?_;refine jP _ _ ((show True->dx _ _ _ _ from λ_ C I L tm w hs=>⟨I,L,hs⟩) (by simp -implicitDefEqProofs only[go_sem,F]<;>rfl)) (by simp -implicitDefEqProofs only[go_sem,F]<;>rfl) (by first|trivial|(simp -implicitDefEqProofs only[go_sem,F]<;>trivial)) ?_;exact jC h
     ·refine zV ?_;refine jP _ _ (ku 1354 0 32 1 0 3 1 (r3.host.values.map bJ) (by decide) (by simp -implicitDefEqProofs only[go_sem,F]<;>rfl)) (by simp -implicitDefEqProofs only[go_sem,F]<;>rfl) (by first|trivial|(simp -implicitDefEqProofs only[go_sem,F]<;>trivial)) ?_;exact jC h
    ·refine oQ F h (λF h=>?_) λF h=>?_
     ·refine oQ F h (λF h=>?_) λF h=>?_
      ·refine zB F h (λF h=>?_) λF h=>?_
       ·refine zE [(0,.p),(1,.p),(2,.p),(4,.q),(5,.q),(6,.q),(7,.q),(8,.q),(9,.q),(10,.q),(11,.q),(12,.q),(13,.q),(14,.q),(15,.q),(16,.q),(17,.p),(3,.q),(18,.w),(19,.q),(20,.q),(21,.q),(22,.w)] ?_;refine zC F h λF h=>?_
        refine bY (¬ ((5:Int)=0)) F λF=>?_
        refine zC F h λF h=>?_
        refine zC F h λF h=>?_
        refine zC F h λF h=>?_
        refine dJ (r3.host.graph.ak.length+1) 24 F λF=>?_
        refine zF (bz aZ r3.host.graph.ak [(⟨((i64.wrap a2.x1).tmod ((a0.ak.length:Nat):Int)),((i64.wrap ((i64.wrap a2.x1).tdiv 5)).tmod ((a1.nodes.length:Nat):Int)),((i64.wrap a2.x2).tmod ((a1.nodes.length:Nat):Int))⟩:Edge)] (c:=[[.val (.int .i64 ((i64.wrap a2.x1).tmod ((a0.ak.length:Nat):Int))),.val (.int .i64 ((i64.wrap ((i64.wrap a2.x1).tdiv 5)).tmod ((a1.nodes.length:Nat):Int))),.val (.int .i64 ((i64.wrap a2.x2).tmod ((a1.nodes.length:Nat):Int)))]]) rfl) F λF=>?_
        refine zE [(0,.p),(2,.q),(3,.q),(4,.p),(1,.q),(6,.b),(7,.b),(5,.w),(8,.p),(9,.q),(10,.w),(11,.q),(12,.w)] ?_;refine zC F h λF h=>?_
        refine dJ (r3.ak.length+1) 8 F λF=>?_
        refine zF (bz encI r3.ak [r3.next] (c:=[[.val (.int .i64 r3.next)]]) rfl) F λF=>?_
        refine zV ?_;refine jP _ _ (ku 1354 0 32 1 0 3 1 (r3.host.values.map bJ) (by decide) (by simp -implicitDefEqProofs only[go_sem,F]<;>rfl)) (by simp -implicitDefEqProofs only[go_sem,F]<;>rfl) (by first|trivial|(simp -implicitDefEqProofs only[go_sem,F]<;>trivial)) ?_;exact jC h
       ·refine zV ?_;refine jP _ _ (ku 1354 0 32 1 0 3 1 (r3.host.values.map bJ) (by decide) (by simp -implicitDefEqProofs only[go_sem,F]<;>rfl)) (by simp -implicitDefEqProofs only[go_sem,F]<;>rfl) (by first|trivial|(simp -implicitDefEqProofs only[go_sem,F]<;>trivial)) ?_;exact jC h
      ·refine zV ?_;refine jP _ _ (ku 1354 0 32 1 0 3 1 (r3.host.values.map bJ) (by decide) (by simp -implicitDefEqProofs only[go_sem,F]<;>rfl)) (by simp -implicitDefEqProofs only[go_sem,F]<;>rfl) (by first|trivial|(simp -implicitDefEqProofs only[go_sem,F]<;>trivial)) ?_;exact jC h
     ·refine zV ?_;refine jP _ _ (ku 1354 0 32 1 0 3 1 (r3.host.values.map bJ) (by decide) (by simp -implicitDefEqProofs only[go_sem,F]<;>rfl)) (by simp -implicitDefEqProofs only[go_sem,F]<;>rfl) (by first|trivial|(simp -implicitDefEqProofs only[go_sem,F]<;>trivial)) ?_;exact jC h
end
noncomputable section
theorem zY(a0:Types)(a1:az)(a2:aF)(a3:aF)(a4:az)(a5:az)(r:(List aG)×Int)(h:mu a0 a1 a2 a3 a4 a5=some r):bt pw 53 [.agg [.aU (a0.nodes.map aJ),.aU (a0.ak.map aP)],.agg (aD a1),.agg (aB a2),.agg (aB a3),.agg (aD a4),.agg (aD a5)] (λv=>v = .dW [.row 57 3 (r.1.map ay),.p (.val (.int .i64 r.2))]):=by
 refine bt.uz ?_;refine bF [61] func53 ntmps53 results53 ?_;unfold mu at h;have F:=trivial;refine zK F h (ahp _ _ _ _) λr6 h=>?_
 refine o9 F h (λF h=>?_) λF h=>?_
 ·refine fo 9 [.p,.q,.q] ?_;refine zTd F h (oK _ _) λr7 h=>?_
  refine zTd F h (oK _ _) λr8 h=>?_
  refine zTd F h (oK _ _) λr9 h=>?_
  refine zTd F h (tg _) λr10 h=>?_
  refine zG 1704 F h (oK _ _) λr11 h=>?_
  refine zV ?_;refine zN F h (0:Nat) [16,44,45] (λx=>[(17,.row 13807 x.2),(46,.p (.val (.int .i64 ((x.1.1:Nat):Int))))]) [1704] (λx H=>[(13807,.row x.2 57 3 (x.1.2.map ay))]) ?_ ?_ (hw:=by refine dx.trans (ja 17 13807 57 3 rfl rfl (by decide)) ?_;exact zW)
  ·intro i12 s12 g12 _ _ F azn h;try dsimp only at h
   refine zI cB F h λe13 F h=>?_
   refine zK F h (si _ _) λr14 h=>?_
   refine o9 F h (λF h=>?_) λF h=>?_
   ·exact zX (z:=azn _ g12 h zW)
   ·refine zC F h λF h=>?_
    refine dJ (s12.length+1) 24 F λF=>?_
    refine zF (bz ay s12 [(⟨4,e13.id,e13.ia⟩:aG)] (c:=[[.val (.int .i64 4),.val (.int .i64 e13.id),.val (.int .i64 e13.ia)]]) rfl) F λF=>?_
    exact zX (z:=azn _ (g12+1) h zW)
  ·intro i12 s12 g12 _ F h;try dsimp only at h
   refine zMb F h (pX g12 _) λr15 h=>?_
   exact jC h
 ·exact jC h
end
noncomputable section
theorem vB(a0:Types)(a1:az)(a2:aF)(r:az×Int)(h:fL a0 a1 a2=some r):bt pw 58 [.agg [.aU (a0.nodes.map aJ),.aU (a0.ak.map aP)],.agg (aD a1),.agg (aB a2)] (λv=>v = .dW [.agg [.row 3 1 (r.1.host.graph.nodes.map encI),.row 175 3 (r.1.host.graph.ak.map aZ),.row 32 1 (r.1.host.values.map bJ),.row 3 1 (r.1.nodes.map encI),.row 3 1 (r.1.ak.map encI),.p (.val (.int .i64 r.1.next))],.p (.val (.int .i64 r.2))]):=by
 refine bt.uz ?_;refine bF [] func58 ntmps58 results58 ?_;unfold fL at h;have F:=trivial;refine zK F h (vz _) λr3 h=>?_
 refine o9 F h (λF h=>?_) λF h=>?_
 ·refine bY ((0:Int)<=0) F λF=>?_
  refine bY ((0:Int)<((2:Nat):Int)) F λF=>?_
  refine o9 F h (λF h=>?_) λF h=>?_
  ·refine fo 6 [.o,.w,.s,.q] ?_;refine zTd F h (pS _) λr4 h=>?_
   refine uD F h (tw _ _) λr5 h=>?_
   refine o9 F h (λF h=>?_) λF h=>?_
   ·refine zK F h (tq _ _) λr6 h=>?_
    refine o9 F h (λF h=>?_) λF h=>?_
    ·refine bY ((0:Int)<=1) F λF=>?_
     refine bY ((1:Int)<((2:Nat):Int)) F λF=>?_
     refine zG 1768 F h (jq _ _) λr7 h=>?_
     refine zK F h (iW _ _) λr8 h=>?_
     refine o9 F h (λF h=>?_) λF h=>?_
     ·exact jC h
     ·exact jC h
    ·exact jC h
   ·exact jC h
  ·exact jC h
 ·exact jC h
end
noncomputable section
end
noncomputable section
theorem kM(a0:Types)(a1:az)(a2:List jH)(r:az)(h:eF a0 a1 a2=some r):aS pw 42 [.agg [.aU (a0.nodes.map aJ),.aU (a0.ak.map aP)],.agg (aD a1),.aU (a2.map dZ)] (λv=>v = .agg (aD r)):=by
 refine aS.oa ?_;refine aR [] func42 ntmps42 results42 ?_;unfold eF at h;have F:=trivial;refine zV ?_;refine zN F h () [2,3,4,6] (λx=>[(7,.p (.val (.int .i64 ((x.1.1:Nat):Int))))]) [3,6] (λx H=>[(4,.box [.p (.aU (x.1.2.1.map encI)),.p (.aU (x.1.2.2.1.map aZ)),.p (.aU (x.1.2.2.2.1.map bJ)),.p (.aU (x.1.2.2.2.2.1.map encI)),.p (.aU (x.1.2.2.2.2.2.1.map encI)),.p (.val (.int .i64 x.1.2.2.2.2.2.2))])]) ?_ ?_
 ·intro i3 s3 g3 _ _ F yR h;try dsimp only at h
  refine fo 7 [.w,.s] ?_;refine zI dZ F h λe4 F h=>?_
  refine zTd F h (vA _ _ _) λr5 h=>?_
  refine zK F h (iW _ _) λr6 h=>?_
  refine zB F h (λF h=>?_) λF h=>?_
  ·exact zX (z:=yR _ () h zW)
  ·exact zX (z:=yR _ () h zW)
 ·intro i3 s3 g3 _ F h;try dsimp only at h
  exact zR h
end
noncomputable section
theorem qU(a0:Types)(a1:az)(a2:aF)(a3:aF)(r:(List aG)×Int)(h:gx a0 a1 a2 a3=some r):bt pw 14 [.agg [.aU (a0.nodes.map aJ),.aU (a0.ak.map aP)],.agg (aD a1),.agg (aB a2),.agg (aB a3)] (λv=>v = .dW [.row 57 3 (r.1.map ay),.p (.val (.int .i64 r.2))]):=by
 refine bt.uz ?_;refine bF [] func14 ntmps14 results14 ?_;unfold gx at h;have F:=trivial;refine zK F h (wA _ _ _ _) λr4 h=>?_
 refine o9 F h (λF h=>?_) λF h=>?_
 ·refine zG 1400 F h (p6 _ _) λr5 h=>?_
  refine zB F h (λF h=>?_) λF h=>?_
  ·exact jC h
  ·refine zK F h (zS _ _ _ _) λr6 h=>?_
   refine o9 F h (λF h=>?_) λF h=>?_
   ·refine zG 1768 F h (zY _ _ _ _ _ _) λr7 h=>?_
    exact jC h
   ·exact jC h
 ·exact jC h
end
noncomputable section
theorem gB(a0:Types)(a1:az)(a2:aF)(r:az×Int)(h:bX a0 a1 a2=some r):bt pw 18 [.agg [.aU (a0.nodes.map aJ),.aU (a0.ak.map aP)],.agg (aD a1),.agg (aB a2)] (λv=>v = .dW [.agg [.row 3 1 (r.1.host.graph.nodes.map encI),.row 175 3 (r.1.host.graph.ak.map aZ),.row 32 1 (r.1.host.values.map bJ),.row 3 1 (r.1.nodes.map encI),.row 3 1 (r.1.ak.map encI),.p (.val (.int .i64 r.1.next))],.p (.val (.int .i64 r.2))]):=by
 refine bt.uz ?_;refine bF [] func18 ntmps18 results18 ?_;unfold bX at h;have F:=trivial;refine zK F h (iW _ _) λr3 h=>?_
 refine o9 F h (λF h=>?_) λF h=>?_
 ·refine zG 1304 F h (vB _ _ _) λr4 h=>?_
  exact jC h
 ·exact jC h
end
noncomputable section
theorem acK(a0:Types)(a1:az)(a2:aF)(a3:aF)(r:az×Int)(h:j7 a0 a1 a2 a3=some r):aS pw 54 [.agg [.aU (a0.nodes.map aJ),.aU (a0.ak.map aP)],.agg (aD a1),.agg (aB a2),.agg (aB a3)] (λv=>v = .dW [.agg (aD r.1),.val (.int .i64 r.2)]):=by
 refine aS.oa ?_;refine aR [] func54 ntmps54 results54 ?_;unfold j7 at h;have F:=trivial;refine zK F h (zS _ _ _ _) λr4 h=>?_
 refine o9 F h (λF h=>?_) λF h=>?_
 ·refine zG 1544 F h (zY _ _ _ _ _ _) λr5 h=>?_
  refine o9 F h (λF h=>?_) λF h=>?_
  ·refine zB F h (λF h=>?_) λF h=>?_
   ·exact zR h
   ·exact zR h
  ·exact zR h
 ·exact zR h
end
end Go.Proofs.YtjhkgjlmiolfoaaGreat
