/- Joined texts, part 6: lemmas for the statement. No condition. -/
import Derived.Test.YtjhkgjlmiolfoaaGreatJ5
import Derived.Test.YtjhkgjlmiolfoaaGreatJ4
set_option maxHeartbeats 4000000
set_option linter.unusedSimpArgs false
set_option linter.unusedVariables false
open Nat (reduceEqDiff reduceLT reduceLeDiff reduceMul reduceAdd reduceSub)
open Go.IntKind (i64)
open Go.Proofs.Tryz
open Go.Proofs.Tryz renaming prog → pw
set_option maxRecDepth 20000
namespace Go.Proofs.YtjhkgjlmiolfoaaGreat
open Go.cr
theorem afB(k:Nat):∀ (es:List (List PV)) (di:Nat->Value) (i:Nat),(fA k di es).drop i=fA k (λj=>di (j+i)) (es.drop i)
 | [],di,i=>by simp[fA]
 |x :: r,di,0=>by simp
 |x :: r,di,i+1=>by simp only[fA,List.drop_succ_cons];rw[afB k r _ i];rfl
theorem acp(k:Nat):∀ (es fs:List (List PV)) (di:Nat->Value),fA k di (es++fs)=fA k di es++fA k (λj=>di (j+es.length)) fs
 | [],fs,di=>by simp[fA]
 |x :: r,fs,di=>by simp only[List.cons_append,fA,List.length_cons];rw[acp k r fs];rfl
theorem afC(k:Nat):∀ (es:List (List PV)) (di:Nat->Value) (i:Nat),(fA k di es).take i=fA k di (es.take i)
 | [],di,i=>by simp[fA]
 |x :: r,di,0=>by simp[fA]
 |x :: r,di,i+1=>by simp only[fA,List.take_succ_cons,afC k r]
theorem amm(k:Nat)(es:List (List PV))(di:Nat->Value)(i:Nat)(hi:i<es.length):(fA k di es).take i++(fA k di es).drop (i+1)=fA k (λj=>di (if j<i then j else j+1)) (es.take i++es.drop (i+1)):=by
 rw[afC,afB,acp];have hl:(es.take i).length=i:=by simp;omega
 rw[hl];congr 1
 ·exact vn k _ _ _ λj hj=>by rw[if_pos (by omega)]
 ·exact vn k _ _ _ λj hj=>by rw[if_neg (by omega)];rfl
theorem aub{α:Type}(es:List α)(i:Nat)(hi:i<es.length)(j:Nat)(hj:j<(es.take i++es.drop (i+1)).length):(if j<i then j else j+1)<es.length/\(es.take i++es.drop (i+1))[j]? = es[if j<i then j else j+1]?:=by
 have hl:(es.take i).length=i:=by simp;omega
 rw[List.length_append,hl,List.length_drop] at hj;by_cases h:j<i
 ·rw[if_pos h,List.getElem?_append_left (by omega),List.getElem?_take,if_pos h];exact⟨by omega,rfl⟩
 ·rw[if_neg h,List.getElem?_append_right (by omega),hl,List.getElem?_drop,show i+1+(j-i)=j+1 by omega];exact⟨by omega,rfl⟩
theorem auc(i:Nat){j k:Nat}(h:(if j<i then j else j+1)=(if k<i then k else k+1)):j=k:=by split at h<;>split at h<;>omega
def stH(l:List ah)(v:Nat)(m:List ak)(u:Nat):List (Nat×Chunk):=[(1000000,.box [.eG 1000001 v,.row 1000002 u]),(1000001,.deep v 75 3 2 3 1 (l.map ag)),(1000002,.row u 102 4 (m.map aj))]
theorem aud(p:aG)(l:List ah)(m:List ak)(v u:Nat)(hl:l.length<=1000000)(hm:m.length<=1000000)(hv:∀n∈l,n.values.length<=1000000)(h1:p.az.length<=1000000)(h2:p.aF.length<=1000000)(h3:∀n∈p.az,n.values.length<=1000000)
  (R:Bool×List ah×Nat) (hR:lM l p.az v=R) (S:Bool×List ak×Nat) (hS:nS m p.aF u=S) :
  adO pw 147 (b7 (stH l v m u)) [.ptr 1000000 0,.p (.agg (aC p))] λa H=>om a (.p (.val (.bool (R.1&&S.1))))/\abk H (stH R.2.1 R.2.2 (if R.1 then S.2.1 else m) (if R.1 then S.2.2 else u)):=by
 refine y7 [] Ty.mixed func147 rfl (by kernel_rfl) (by simp[ntmps147]) ?_;rw[ntmps147,results147];simp only[go_sem,aC,stH];refine bL (σ:=Nat×List ah×Nat) (λx=>(cE (cE (cE (cE (cE fT 0 (.ptr 1000000 0)) 3 (.ptr 3 0)) 12 (.p (.aV (p.az.map ag)))) 13 (.p (.val (.int .i64 p.az.length)))) 14 (.p (.val (.int .i64 x.1))))) (λx=>(bk (bk (bk (bk cm 3 (.box [.p (.aV (p.az.map ag)),.p (.aV (p.aF.map aj)),.p (.aV (p.aR.map ag)),.p (.aV (p.aP.map aj)),.p (.aV (p.values.map aH)),.p (.val (.int .i64 p.next.x0)),.p (.val (.int .i64 p.next.x1))])) 1000000 (.box [.eG 1000001 x.2.2,.row 1000002 u])) 1000001 (.deep x.2.2 75 3 2 3 1 (x.2.1.map ag))) 1000002 (.row u 102 4 (m.map aj))))
  (λx=>x.1<=p.az.length/\lM x.2.1 (p.az.drop x.1) x.2.2=R/\x.2.1.length<=1000000/\∀n∈x.2.1,n.values.length<=1000000) (λx=>p.az.length-x.1) (0,l,v) ⟨Nat.zero_le _,hR,hl,hv⟩ bX ?_
 rintro⟨t,l',v'⟩ ⟨ht,zh,hl',we⟩;simp only at ht zh hl' we;simp only[go_sem];refine aK (λhc=>?_) (λhc=>?_)
 ·have hlt:t<p.az.length:=by have:=cu hc;omega
  have bH:p.az.drop t=p.az.getD t default :: p.az.drop (t+1):=by rw[List.drop_eq_getElem_cons hlt];simp[hlt]
  rw[bH,lM] at zh;simp only[go_sem,getD_map ag hlt,ag];refine⟨hlt,?_⟩;refine dw [.p,.q,.q,.q,.q,.q,.q,.p] (by kernel_rfl) ?_;simp only[go_sem];refine jE (adh l' hl' (p.az.getD t default).id) (by simp only[go_sem]<;>rfl) (b6 rfl) ?_;simp only[go_sem];cases hfi:l'.findIdx? λm=>decide (m.id=(p.az.getD t default).id) with
  |none =>
   rw[hfi] at zh;simp only at zh;have hidx:idxOf (λn:ah=>decide (n.id=(p.az.getD t default).id)) l' = -1:=by unfold idxOf;rw[hfi]
   simp only[go_sem,hidx];refine dw [.p,.p,.p,.p,.p,.q,.q,.p,.q,.q,.q,.q,.p,.p] (by kernel_rfl) ?_;have hneg:decide ((-1:Int)<0)=true:=by decide
   simp only[go_sem,hneg];subst zh;simp only[go_sem]
  |some i =>
   rw[hfi] at zh;simp only at zh;have hidx:idxOf (λn:ah=>decide (n.id=(p.az.getD t default).id)) l'=(i:Int):=by unfold idxOf;rw[hfi]
   have qI:i<l'.length:=by rw[List.findIdx?_eq_some_iff_getElem] at hfi;exact hfi.1
   simp only[go_sem,hidx];refine dw [.p,.p,.p,.p,.p,.q,.q,.p,.q,.q,.q,.q,.p,.p] (by kernel_rfl) ?_;have hpos:decide ((i:Int)<0)=false:=eZ (by omega);simp only[go_sem,hpos,getD_map ag qI,ag];refine⟨qI,qI,?_⟩;have hmi:l'.getD i default∈l':=by simp[qI]
   have hmt:p.az.getD t default∈p.az:=by simp[hlt]
   have hsm:=aBj (l'.getD i default) (p.az.getD t default) (we _ hmi) (h3 _ hmt);refine jE (hsm) (by simp only[go_sem,getD_map ag qI,ag]<;>rfl) (b6 rfl) ?_;simp only[go_sem,getD_map ag qI,ag];refine aW (λhs=>?_) (λhs=>?_)
   ·rw[if_pos hs] at zh;simp only[go_sem,bz qI (by omega),getD_map ag qI,ag];have hes:(l'.map ag).take i++(l'.map ag).drop (i+1)=(l'.take i++l'.drop (i+1)).map ag:=by rw[List.map_append,List.map_take,List.map_drop]
    have he:=aub (l'.map ag) i (by rw[List.length_map];exact qI);rw[hes] at he;refine aoT (λj=>if j<i then j else j+1) (es':=(l'.take i++l'.drop (i+1)).map ag) (λdi _=>by
     have hd:=aA5 (fA 2 di (l'.map ag)) i (i+1) v' (by omega) (by rw[fH,List.length_map];omega) (by rw[fH,List.length_map];omega);rw[amm 2 _ di i (by rw[List.length_map];exact qI),hes] at hd;exact hd) he (λj k _ _ h=>auc i h) (by simp only[go_sem,getD_map ag qI,ag]<;>rfl) (by simp only[go_sem,getD_map ag qI,ag]<;>rfl) (by simp only[go_sem,getD_map ag qI,ag]<;>rfl) ?_
    generalize hL:l'.take i++l'.drop (i+1)=L' at zh ⊢;simp only[go_sem,bz hlt (by omega),getD_map ag qI,ag];refine bM (t+1,L',v'+1) ⟨hlt,zh,by rw[<-hL];simp;omega,λn hn=>?_⟩ (by simp only;omega) ?_
    ·rw[<-hL] at hn;rcases List.mem_append.1 hn with h|h
     ·exact we n (List.mem_of_mem_take h)
     ·exact we n (List.mem_of_mem_drop h)
    ·exact bX
   ·rw[if_neg (by rw[hs];simp)] at zh;subst zh;simp only[go_sem,getD_map ag qI,ag]
 ·have:t=p.az.length:=by have:=en hc;omega
  subst this;rw[List.drop_length,lM] at zh;subst zh;simp only[go_sem];refine bL (σ:=Nat×List ak×Nat) (λx=>(cE (cE (cE (cE (cE fT 0 (.ptr 1000000 0)) 3 (.ptr 3 0)) 52 (.p (.aV (p.aF.map aj)))) 53 (.p (.val (.int .i64 p.aF.length)))) 54 (.p (.val (.int .i64 x.1))))) (λx=>(bk (bk (bk (bk cm 3 (.box [.p (.aV (p.az.map ag)),.p (.aV (p.aF.map aj)),.p (.aV (p.aR.map ag)),.p (.aV (p.aP.map aj)),.p (.aV (p.values.map aH)),.p (.val (.int .i64 p.next.x0)),.p (.val (.int .i64 p.next.x1))])) 1000000 (.box [.eG 1000001 v',.row 1000002 x.2.2])) 1000001 (.deep v' 75 3 2 3 1 (l'.map ag))) 1000002 (.row x.2.2 102 4 (x.2.1.map aj))))
   (λx=>x.1<=p.aF.length/\nS x.2.1 (p.aF.drop x.1) x.2.2=S/\x.2.1.length<=1000000) (λx=>p.aF.length-x.1) (0,m,u) ⟨Nat.zero_le _,hS,hm⟩ bX ?_
  rintro⟨t,m',u'⟩ ⟨ht,hS',hm'⟩;simp only at ht hS' hm';simp only[go_sem];refine aK (λhc=>?_) (λhc=>?_)
  ·have hlt:t<p.aF.length:=by have:=cu hc;omega
   have bH:p.aF.drop t=p.aF.getD t default :: p.aF.drop (t+1):=by rw[List.drop_eq_getElem_cons hlt];simp[hlt]
   rw[bH,nS] at hS';simp only[go_sem,getD_map aj hlt,aj];refine⟨hlt,?_⟩;refine dw [.p,.q,.q,.q,.q,.q,.q,.p] (by kernel_rfl) ?_;simp only[go_sem];refine jE (ahL m' hm' (p.aF.getD t default).id) (by simp only[go_sem]<;>rfl) (b6 rfl) ?_;simp only[go_sem];cases hfi:m'.findIdx? λm=>decide (m.id=(p.aF.getD t default).id) with
   |none =>
    rw[hfi] at hS';simp only at hS';have hidx:idxOf (λn:ak=>decide (n.id=(p.aF.getD t default).id)) m' = -1:=by unfold idxOf;rw[hfi]
    have hneg:decide ((-1:Int)<0)=true:=by decide
    simp only[go_sem,hidx];refine dw [.p,.p,.p,.p,.p,.q,.q,.p,.q,.q,.q,.p,.p] (by kernel_rfl) ?_;simp only[go_sem,hidx,hneg];subst hS';simp only[go_sem]
   |some i =>
    rw[hfi] at hS';simp only at hS';have hidx:idxOf (λn:ak=>decide (n.id=(p.aF.getD t default).id)) m'=(i:Int):=by unfold idxOf;rw[hfi]
    have qI:i<m'.length:=by rw[List.findIdx?_eq_some_iff_getElem] at hfi;exact hfi.1
    have hpos:decide ((i:Int)<0)=false:=eZ (by omega);simp only[go_sem,hidx];refine dw [.p,.p,.p,.p,.p,.q,.q,.p,.q,.q,.q,.p,.p] (by kernel_rfl) ?_;simp only[go_sem,hpos,getD_map aj qI,aj];refine⟨qI,qI,?_⟩;refine aW (λhs=>?_) (λhs=>?_)
    ·have hs':rU (m'.getD i default) (p.aF.getD t default)=true:=hs;rw[if_pos hs'] at hS';simp only[go_sem,bz qI (by omega)];have hes:(m'.map aj).take i++(m'.map aj).drop (i+1)=(m'.take i++m'.drop (i+1)).map aj:=by rw[List.map_append,List.map_take,List.map_drop]
     have hd:=aA6 (m'.map aj) i (i+1) u' (by omega) (by rw[List.length_map];omega) (by rw[List.length_map];omega);rw[hes] at hd;refine wC hd (by simp only[go_sem]<;>rfl) (by simp only[go_sem]<;>rfl) (by simp only[go_sem]<;>rfl) (λh=>by cases h) ?_;generalize hL:m'.take i++m'.drop (i+1)=L' at hS' ⊢;simp only[go_sem,bz hlt (by omega)];exact bM (t+1,L',u'+1) ⟨hlt,hS',by rw[<-hL];simp;omega⟩ (by simp only;omega) bX
    ·have hs':rU (m'.getD i default) (p.aF.getD t default)=false:=hs;rw[if_neg (by rw[hs'];simp)] at hS';subst hS';simp only[go_sem]
  ·have:t=p.aF.length:=by have:=en hc;omega
   subst this;rw[List.drop_length,nS] at hS';subst hS';simp only[go_sem]
theorem aCZ(p:aG)(l:List ah)(m:List ak)(v u:Nat)(hl:l.length<=1000000)(h1:p.values.length<=1000000)
  (R:Bool×List ah) (hR:lN l p.values=R) :
  adO pw 148 (b7 (stH l v m u)) [.ptr 1000000 0,.p (.agg (aC p))] λa H=>om a (.p (.val (.bool R.1)))/\abk H (stH R.2 v m u):=by
 refine y7 [] Ty.mixed func148 rfl (by kernel_rfl) (by simp[ntmps148]) ?_;rw[ntmps148,results148];simp only[go_sem,aC,stH];refine bL (σ:=Nat×List ah) (λx=>(cE (cE (cE (cE (cE fT 0 (.ptr 1000000 0)) 3 (.ptr 3 0)) 9 (.p (.aV (p.values.map aH)))) 10 (.p (.val (.int .i64 p.values.length)))) 11 (.p (.val (.int .i64 x.1))))) (λx=>(bk (bk (bk (bk cm 3 (.box [.p (.aV (p.az.map ag)),.p (.aV (p.aF.map aj)),.p (.aV (p.aR.map ag)),.p (.aV (p.aP.map aj)),.p (.aV (p.values.map aH)),.p (.val (.int .i64 p.next.x0)),.p (.val (.int .i64 p.next.x1))])) 1000000 (.box [.eG 1000001 v,.row 1000002 u])) 1000001 (.deep v 75 3 2 3 1 (x.2.map ag))) 1000002 (.row u 102 4 (m.map aj))))
  (λx=>x.1<=p.values.length/\lN x.2 (p.values.drop x.1)=R/\x.2.length<=1000000) (λx=>p.values.length-x.1) (0,l) ⟨Nat.zero_le _,hR,hl⟩ bX ?_
 rintro⟨t,l'⟩ ⟨ht,zh,hl'⟩;simp only at ht zh hl';simp only[go_sem];refine aK (λhc=>?_) (λhc=>?_)
 ·have hlt:t<p.values.length:=by have:=cu hc;omega
  have bH:p.values.drop t=p.values.getD t default :: p.values.drop (t+1):=by rw[List.drop_eq_getElem_cons hlt];simp[hlt]
  rw[bH,lN] at zh;simp only[go_sem,getD_map aH hlt,aH];refine⟨hlt,?_⟩;generalize p.values.getD t default=w at zh ⊢;refine dw [.p,.q,.q,.q,.q,.q,.q,.p] (by kernel_rfl) ?_;simp only[go_sem];refine jE (adh l' hl' w.id) (by simp only[go_sem]<;>rfl) (b6 rfl) ?_;simp only[go_sem];cases hfi:l'.findIdx? λm=>decide (m.id=w.id) with
  |none =>
   rw[hfi] at zh;simp only at zh;have hidx:idxOf (λn:ah=>decide (n.id=w.id)) l' = -1:=by unfold idxOf;rw[hfi]
   have hneg:decide ((-1:Int)<0)=true:=by decide
   simp only[go_sem,hidx];refine dw [.p,.p,.p,.q,.q,.p,.p,.p,.q,.q,.p,.p,.q,.q,.p,.q,.q,.q,.q,.p,.p,.p,.p,.p,.q,.q,.p,.q,.q,.q,.q,.q,.q,.q,.q,.q,.p,.p,.p,.q,.q,.q,.q,.p,.p] (by kernel_rfl) ?_;simp only[go_sem,hidx,hneg];subst zh;simp only[go_sem]
  |some i =>
   rw[hfi] at zh;simp only at zh;have hidx:idxOf (λn:ah=>decide (n.id=w.id)) l'=(i:Int):=by unfold idxOf;rw[hfi]
   have qI:i<l'.length:=by rw[List.findIdx?_eq_some_iff_getElem] at hfi;exact hfi.1
   have hpos:decide ((i:Int)<0)=false:=eZ (by omega);simp only[go_sem,hidx];refine dw [.p,.p,.p,.q,.q,.p,.p,.p,.q,.q,.p,.p,.q,.q,.p,.q,.q,.q,.q,.p,.p,.p,.p,.p,.q,.q,.p,.q,.q,.q,.q,.q,.q,.q,.q,.q,.p,.p,.p,.q,.q,.q,.q,.p,.p] (by kernel_rfl) ?_;simp only[go_sem,hpos,getD_map ag qI,ag];cases ha:decide (w.attr<0)
   ·simp only[go_sem,ha,hpos,getD_map ag qI,ag];refine⟨qI,qI,?_⟩;cases hb:decide (((l'.getD i default).values.length:Int)<=w.attr)
    ·have hk0:0<=w.attr:=by have:=en ha;omega
     have hk1:w.attr<(l'.getD i default).values.length:=by have:=en hb;omega
     have hk:w.attr.toNat<(l'.getD i default).values.length:=by omega
     simp only[go_sem,hb,getD_map encI hk,encI,hpos,getD_map ag qI,ag];refine⟨qI,qI,⟨hk0,hk1⟩,hk,?_⟩;cases hcv:decide ((l'.getD i default).values.getD w.attr.toNat default=w.old)
     ·have hov:okV (l'.getD i default).values w=false:=by unfold okV;rw[ha,hb,hcv];rfl
      rw[if_neg (by rw[hov];simp)] at zh;subst zh;simp only[go_sem,hcv,hpos,getD_map ag qI,ag]
     ·simp only[go_sem,hcv,hpos,getD_map ag qI,ag];refine aK (λhd=>?_) (λhd=>?_)
      ·have hov:okV (l'.getD i default).values w=false:=by unfold okV;rw[ha,hb,hcv,hd];rfl
       rw[if_neg (by rw[hov];simp)] at zh;subst zh;simp only[go_sem,hpos,getD_map ag qI,ag]
      ·have hov:okV (l'.getD i default).values w=true:=by unfold okV;rw[ha,hb,hcv,hd];rfl
       rw[if_pos hov] at zh;simp only[go_sem,hpos,getD_map ag qI,ag];refine dw [.p,.p,.q,.q,.p,.q,.q,.q,.q,.q,.q,.q,.q,.t] (by kernel_rfl) ?_;simp only[go_sem,hpos,getD_map ag qI,ag];refine⟨qI,qI,⟨⟨hk0,hk1⟩,by rw[getD_map encI hk];rfl⟩,?_⟩;have hst:(l'.map ag).set i ((ag (l'.getD i default)).set 2 (.aV (((l'.getD i default).values.map encI).set w.attr.toNat [.val (.int .i64 w.new)])))=(l'.set i { l'.getD i default with values:=(l'.getD i default).values.set w.attr.toNat w.new }).map ag:=by rw[List.map_set];congr 1;show _=[_,_,PV.aV (((l'.getD i default).values.set w.attr.toNat w.new).map encI)];rw[List.map_set];rfl
       refine afs 3 _ _ 1000001 v i w.attr.toNat 75 3 2 3 (l'.map ag) (ag (l'.getD i default)) ((l'.getD i default).values.map encI) (.val (.int .i64 w.new)) rfl (by simp only[go_sem,hpos,getD_map ag qI,ag]) (by simp only[go_sem,hpos,getD_map ag qI,ag]) (by simp only[go_sem,hpos,getD_map ag qI,ag]) ⟨rfl,rfl⟩ (by simp only[go_sem,hpos,getD_map ag qI,ag]<;>rfl) (by simp[qI]) rfl (by simpa using hk) ?_;rw[hst];simp only[go_sem,bz hlt (by omega),hpos,getD_map ag qI,ag];exact bM (t+1,_) ⟨hlt,zh,by simpa using hl'⟩ (by simp only;omega) bX
    ·have hov:okV (l'.getD i default).values w=false:=by unfold okV;rw[ha,hb];rfl
     rw[if_neg (by rw[hov];simp)] at zh;subst zh;simp only[go_sem,hb,hpos,getD_map ag qI,ag]
   ·have hov:okV (l'.getD i default).values w=false:=by unfold okV;rw[ha];rfl
    rw[if_neg (by rw[hov];simp)] at zh;subst zh;simp only[go_sem,ha,hpos,getD_map ag qI,ag]
 ·have:t=p.values.length:=by have:=en hc;omega
  subst this;rw[List.drop_length,lN] at zh;subst zh;simp only[go_sem]
end Go.Proofs.YtjhkgjlmiolfoaaGreat
namespace Go.cr
open Go.RowKit
variable{P:Program}{N:Nat}{own:List Nat}{ops:Array Oper}{K:Env->ay->Prop}{env:Env}{H:ay}
def vR:List (Nat×Nat×AV)->(Nat->Bool)->Env->Env
 | [],_,env=>env
 |(i,s,a) :: r,f,env=>λt=>if t=s then (if f i=true then a else env t) else vR r f env t
def mY(f:Nat->Bool)(j:Nat):Nat->Bool:=λi=>if i=j then true else f i
def ayM(j:Nat)(vs:List (Nat×Nat×AV)):Prop:=∀x∈vs,x.1≠j
theorem abt{f:Nat->Bool}{j:Nat} : ∀ {vs:List (Nat×Nat×AV)},ayM j vs->vR vs (mY f j) env=vR vs f env
 | [],_=>rfl
 |(i,s,a) :: r,h=>by
  have h1:i≠j:=h (i,s,a) List.mem_cons_self;have h2:=abt (f:=f) (vs:=r) λx hx=>h x (List.mem_cons_of_mem _ hx)
  funext t;simp only[vR,mY,if_neg h1,h2]
theorem ahP{f:Nat->Bool}{j s:Nat}{v:AV} : ∀ {vs:List (Nat×Nat×AV)},(vs.map (·.1)).Nodup->(vs.map (·.2.1)).Nodup->(j,s,v)∈vs->vR vs (mY f j) env=cE (vR vs f env) s v
 | [],_,_,h=>by cases h
 |(i,s',a) :: r,h1,h2,h=>by
  rw[List.map_cons,List.nodup_cons] at h1 h2;rcases List.mem_cons.1 h with e|e
  ·simp only[iz] at e;obtain⟨rfl,rfl,rfl⟩:=e;have h3:vR r (mY f j) env=vR r f env:=abt λx hx e=>h1.1 (List.mem_map.2 ⟨x,hx,e⟩)
   funext t;simp only[vR,cE,h3];by_cases ht:t=s
   ·simp[ht,mY]
   ·simp[ht]
  ·have hne:i≠j:=λe2=>h1.1 (List.mem_map.2 ⟨_,e,e2.symm⟩)
   have hns:s'≠s:=λe2=>h2.1 (List.mem_map.2 ⟨_,e,e2.symm⟩)
   have h3:=ahP (f:=f) h1.2 h2.2 e;funext t;simp only[vR,cE,h3];by_cases ht:t=s'
   ·subst ht;rw[if_pos rfl,if_pos rfl,if_neg hns];simp[mY,hne]
   ·rw[if_neg ht,if_neg ht]
def afD(f:Nat->Bool):List Edge->Prop
 | []=>True
 |e :: r=>(Region.binds .any e=true->f e.on=true)/\afD f r
theorem afE{f:Nat->Bool} : ∀ {l:List Edge},(∀e∈l,Region.binds .any e=true->f e.on=true)->afD f l
 | [],_=>trivial
 |e :: r,h=>⟨h e List.mem_cons_self,afE λx hx=>h x (List.mem_cons_of_mem _ hx)⟩
def aBY(P:Program)(own:List Nat)(ops:Array Oper)(vs:List (Nat×Nat×AV))(Hf:(Nat->Bool)->ay)(env:Env)(j:Nat)(o:Oper):Prop :=
 ∀f:Nat->Bool,f j=false->afD f o.after.toList->(∀i q,ops[i]? = some q->f i=true->afD f q.after.toList)->mR ops o (vR vs f env)=some true/\∃pre v,fW P own o (ev (vR vs f env)) (Hf f)=some (pre,v,Hf (mY f j))/\pre /\
  (match o.dst with
  |some s=>(j,s,v)∈vs
  |none=>ayM j vs)
def apE(P:Program)(own:List Nat)(ops:Array Oper)(vs:List (Nat×Nat×AV))(Hf:(Nat->Bool)->ay)(env:Env):Nat->List Oper->Prop
 |_,[]=>True
 |j,o :: r=>aBY P own ops vs Hf env j o/\apE P own ops vs Hf env (j+1) r
theorem ahQ{vs:List (Nat×Nat×AV)}{Hf:(Nat->Bool)->ay} : ∀ {l:List Oper} {k i:Nat} {o:Oper},apE P own ops vs Hf env k l->l[i]? = some o->aBY P own ops vs Hf env (k+i) o
 | [],_,_,_,_,h=>by simp at h
 |x :: r,k,0,o,h,ho=>by simp only[List.getElem?_cons_zero,cA] at ho;subst ho;exact h.1
 |x :: r,k,i+1,o,h,ho=>by have:=ahQ (i:=i) h.2 (by simpa using ho);rwa [Nat.add_assoc,Nat.add_comm 1 i] at this
def ayN(own:List Nat)(ops:Array Oper)(N:Nat):Bool:=((List.range ops.size).all λj=>match ops[j]? with
 |some o=>o.after.toList.all (λe=>!Region.binds .any e||decide (e.on<j)) && !pY own ops o
 |none=>true)&&ae8 N ops
theorem ahR:∀ (vs:List (Nat×Nat×AV)),vR vs (λ_=>false) env=env
 | []=>rfl
 |(i,s,a) :: r=>by funext t;simp only[vR,ahR r];split<;>simp
def dn(listed:Array Bool):Nat->Bool:=λi=>listed.getD i false
theorem afF{listed:Array Bool}{j:Nat}(hj:j<listed.size):listed.getD j true=dn listed j:=by unfold dn;simp[hj]
theorem ayO{listed:Array Bool}{j:Nat}(hj:j<listed.size):dn (listed.setIfInBounds j true)=mY (dn listed) j:=by
 funext i;unfold dn mY;simp only[Array.getD_eq_getD_getElem?,Array.getElem?_setIfInBounds];by_cases h:j=i
 ·subst h;simp[hj]
 ·rw[if_neg h,if_neg λe=>h e.symm]
def left(n:Nat)(f:Nat->Bool):Nat:=(List.range n).countP λi=>!f i
theorem aue{n:Nat}{f:Nat->Bool}(h:left n f=0)(i:Nat)(hi:i<n):f i=true:=by unfold left at h;rw[List.countP_eq_zero] at h;have:=h i (List.mem_range.2 hi);simpa using this
theorem ahS{f:Nat->Bool}{j:Nat}(hf:f j=false):∀n,j<n->left n (mY f j)+1=left n f
 |0,h=>by omega
 |n+1,h=>by
  unfold left;rw[List.range_succ,List.countP_append,List.countP_append];rcases Nat.lt_succ_iff_lt_or_eq.1 h with h1|h1
  ·have:=ahS hf n h1;unfold left at this;have e:mY f j n=f n:=by unfold mY;rw[if_neg (by omega)]
   simp only[List.countP_cons,List.countP_nil,e];omega
  ·subst h1;have e:(List.range j).countP (λi=>!mY f j i)=(List.range j).countP λi=>!f i:=by apply List.countP_congr;intro x hx;have:=List.mem_range.1 hx;unfold mY;rw[if_neg (by omega)]
   rw[e];simp[mY,hf]
theorem auf{l:List Oper}(vs:List (Nat×Nat×AV))(Hf:(Nat->Bool)->ay)(hok:ayN own l.toArray N=true)(h1:(vs.map (·.1)).Nodup)(h2:(vs.map (·.2.1)).Nodup)(hH:Hf (λ_=>false)=H)
  (hs:apE P own l.toArray vs Hf env 0 l) (hK:K (vR vs (λi=>decide (i<l.length)) env) (Hf λi=>decide (i<l.length))):vh P N own l.toArray K env H:=by
 unfold ayN at hok;rw[Bool.and_eq_true] at hok;obtain⟨hok,hd⟩:=hok;have hsize:l.toArray.size=l.length:=by simp
 have hop:∀ (j:Nat) (o:Oper),l.toArray[j]? = some o->(∀e∈o.after,Region.binds .any e=true->e.on<j)/\pY own l.toArray o=false:=λj o ho=>by
  have hj:j<l.toArray.size:=(Array.getElem?_eq_some_iff.1 ho).1;have:=List.all_eq_true.1 hok j (List.mem_range.2 hj);rw[ho] at this;simp only[Bool.and_eq_true,Bool.not_eq_true',List.all_eq_true,Bool.or_eq_true,decide_eq_true_eq] at this;refine⟨λe he hb=>?_,this.2⟩;rcases this.1 e (by simpa using he) with h|h
  ·rw[hb] at h;cases h
  ·exact h
 have hend:∀listed:Array Bool,rm l.toArray listed->Region.ready .any l.toArray listed=[]->∀i,i<l.length->dn listed i=true:=λlisted hcl hr=>by
  intro i
  induction i using Nat.strongRecOn with
  |_ i ih =>
   intro hi;cases hv:dn listed i with
   |true=>rfl
   |false =>
    exfalso;have ho:l.toArray[i]? = some l[i]:=by simp[hi]
    have:i∈Region.ready .any l.toArray listed:=mem_ready.2 ⟨by rw[afF (by rw[hcl.1,hsize];exact hi)];exact hv,l[i],ho,λe he hb=>ih e.on ((hop i _ ho).1 e he hb) (Nat.lt_trans ((hop i _ ho).1 e he hb) hi)⟩;rw[hr] at this;cases this
 have aEA:∀listed:Array Bool,rm l.toArray listed->(∀i,i<l.length->dn listed i=true)->K (vR vs (dn listed) env) (Hf (dn listed)):=λlisted hcl hall=>by
  have e:dn listed=λi=>decide (i<l.length):=by
   funext i;by_cases hi:i<l.length
   ·rw[hall i hi,dK hi]
   ·rw[eZ hi];have hsz:=hcl.1;unfold dn;rw[Array.getD_eq_getD_getElem?,Array.getElem?_eq_none (by rw[hsz,hsize];omega)];rfl
  rw[e];exact hK
 have main:∀ (fuel:Nat) (listed:Array Bool),rm l.toArray listed->left l.length (dn listed)<=fuel->akI P own l.toArray (λ_=>false) K fuel listed (vR vs (dn listed) env) (Hf (dn listed)):=by
  intro fuel
  induction fuel with
  |zero =>
   intro listed hcl hle;have hall:∀i,i<l.length->dn listed i=true:=aue (by omega);refine⟨?_,aEA listed hcl hall⟩;apply List.eq_nil_iff_forall_not_mem.2;intro i hi;obtain⟨hun,o,ho,_⟩:=mem_ready.1 hi;have qI:i<l.length:=by have:=(Array.getElem?_eq_some_iff.1 ho).1;rwa [hsize] at this
   rw[afF (by rw[hcl.1,hsize];exact qI),hall i qI] at hun;cases hun
  |succ fuel ih =>
   intro listed hcl hle;refine⟨λhr=>aEA listed hcl (hend listed hcl hr),λj hj=>?_⟩;obtain⟨hun,o,ho,aIj⟩:=mem_ready.1 hj;have hjl:j<l.length:=by have:=(Array.getElem?_eq_some_iff.1 ho).1;rwa [hsize] at this
   have hjs:j<listed.size:=by rw[hcl.1,hsize];exact hjl
   have aEB:dn listed j=false:=by rw[<-afF hjs];exact hun
   have hst:=ahQ (i:=j) hs (by simpa using ho);rw[Nat.zero_add] at hst;obtain⟨hg,pre,v,hx,hp,hv⟩:=hst (dn listed) aEB (afE λe he hb=>aIj e (by simpa using he) hb) (λi q hq hf=>afE λe he hb=>hcl.2 i q hq hf e (by simpa using he) hb);have axa:=ih _ (hcl.set hj) (by have:=ahS aEB l.length hjl;rw[ayO hjs];omega);rw[ayO hjs] at axa;have hput:vR vs (mY (dn listed) j) env=cH (vR vs (dn listed) env) o.dst v:=by
    cases aEC:o.dst with
    |none=>rw[aEC] at hv;exact abt hv
    |some s=>rw[aEC] at hv;exact ahP h1 h2 hv
   rw[hput] at axa;unfold cr.aOp;rw[ho];exact .inr ⟨hg,.inl ⟨aiU (λh=>by rw[(hop j o ho).2] at h;cases h),.w,v,_,⟨pre,hx,hp⟩,axa⟩⟩
 intro C I L tm w hN aIk;have aCf:∀i b,i<l.toArray.size->(Array.replicate l.toArray.size false).getD i b=false:=λi b h=>by rw[Array.getD_eq_getD_getElem?,Array.getElem?_replicate,if_pos h];rfl
 have hd0:dn (Array.replicate l.toArray.size false)=λ_=>false:=by
  funext i;unfold dn;rcases Nat.lt_or_ge i l.toArray.size with h|h
  ·exact aCf i false h
  ·rw[Array.getD_eq_getD_getElem?,Array.getElem?_replicate,if_neg (by omega)];rfl
 have hcl:rm l.toArray (Array.replicate l.toArray.size false):=⟨Array.size_replicate,λj o hj hl=>by
  have h:=congrFun hd0 j;unfold dn at h;rw[h] at hl;cases hl⟩
 have ae5:=main l.toArray.size _ hcl (by rw[hd0,hsize];unfold left;exact Nat.le_trans List.countP_le_length (by simp));rw[hd0,ahR,hH] at ae5;have hs':gV C env H I L tm { w with drawn:=w.drawn+1 }:=(Fr.drew C I L H w) env tm aIk;exact rj (by rw[hN];exact yW hd) (λenv' H' I' L' tm' w' hk aCx=>⟨rfl,rfl,env',H',I',L',hk,aCx⟩) l.toArray.size _ env H I L tm _ ae5 hs'
end Go.cr
namespace Go.Proofs.YtjhkgjlmiolfoaaGreat
open Go.cr
def stF(l:List ah)(v:Nat)(m:List ak)(u:Nat):List (Nat×Chunk):=[(1000000,.box [.row 1000001 v,.row 1000002 u]),(1000001,.row v 75 3 (l.map ag)),(1000002,.row u 102 4 (m.map aj))]
theorem adj(H:ay)(d:Nat)(c c':Chunk):bk (bk H d c) d c'=bk H d c':=by funext i;simp only[bk];split<;>rfl
theorem ayP(p:aG)(l:List ah)(m:List ak)(v u:Nat)(hl:l.length<=1000)(hm:m.length<=1000)(h1:p.aR.length<=1000)(h2:p.aP.length<=1000)
  (hN:gM l m p=false->ahM ah.id (l++p.aR)) (hE:gM l m p=false->ahM ak.id (m++p.aP)) (b:Bool) (hb:gM l m p=b) :
  adO pw 149 (b7 (stF l v m u)) [.ptr 1000000 0,.p (.agg (aC p))] λa H=>om a (.p (.val (.bool (!b))))/\abk H (if b then stF l v m u else stF (kG (l++p.aR)) (v+1) (nT (m++p.aP)) (u+1)):=by
 have hc1:=zb (λn=>k9 l m n.id) p.aR (by omega) 251 [] [.dU [.dU [.aV (l.map ag),.aV (m.map aj)] 0] 0] (λx _=>aBh x l m (by omega) (by omega));have y6:=zd (λn=>k9 l m n.id) p.aP (by omega) 253 [] [.dU [.dU [.aV (l.map ag),.aV (m.map aj)] 0] 0] (λx _=>aBi x l m (by omega) (by omega));unfold gM at hb hN hE;refine y7 [] Ty.mixed func149 rfl (by kernel_rfl) (by simp[ntmps149]) ?_;rw[ntmps149,results149];simp only[go_sem,aC,stF];refine aY (hc1) (by simp only[go_sem]<;>rfl) (b6 rfl) ?_;simp only[go_sem];refine bU (λhx=>?_) (λhx=>?_)
 ·have hbt:b=true:=by rw[<-hb,hx];rfl
  subst hbt;simp only[go_sem,hx,aC,stF]
 simp only[go_sem,hx];refine aY (y6) (by simp only[go_sem]<;>rfl) (b6 rfl) ?_;simp only[go_sem,hx];refine aK (λhy=>?_) (λhy=>?_)
 ·have hbt:b=true:=by rw[<-hb,hx,hy];rfl
  subst hbt;simp only[go_sem,hx,hy,stF]
 have hbf:b=false:=by rw[<-hb,hx,hy];rfl
 subst hbf;have hN':=hN (by rw[hx,hy];rfl);have hE':=hE (by rw[hx,hy];rfl);simp only[go_sem];refine auf [(0,15,.ptr 1000000 0),(1,16,.ptr 1000000 0),(2,17,.ptr 1000000 0),(3,18,.ptr 1000000 0),(4,19,.ptr 1000000 0),(5,20,.row 1000001 v),(6,21,.ptr 3 2),(7,22,.p (.aV (p.aR.map ag))),(8,23,.row 1000001 (v+1)),(9,24,.ptr 1000000 0),(10,25,.ptr 1000000 0),(11,26,.ptr 1000000 1),(12,27,.row 1000002 u),(13,28,.ptr 3 3),(14,29,.p (.aV (p.aP.map aj))),(15,30,.row 1000002 (u+1)),(16,31,.ptr 1000000 0),(17,32,.ptr 1000000 0),(19,33,.ptr 1000000 0),(20,34,.ptr 1000000 1)]
  (λf=>bk (bk (bk (bk (bk cm 1000002 (if f 15=true then .row (u+1) 102 4 ((m++p.aP).map aj) else .row u 102 4 (m.map aj)))
   1000001 (if f 8=true then .row (v+1) 75 3 ((l++p.aR).map ag) else .row v 75 3 (l.map ag)))
   1000000 (.box [if f 18=true then .row 1000001 (v+1) else .row 1000001 v,if f 21=true then .row 1000002 (u+1) else .row 1000002 u])) 2 (.box [.ptr 1000000 0])) 3 (.box [.p (.aV (p.az.map ag)),.p (.aV (p.aF.map aj)),.p (.aV (p.aR.map ag)),.p (.aV (p.aP.map aj)),.p (.aV (p.values.map aH)),.p (.val (.int .i64 p.next.x0)),.p (.val (.int .i64 p.next.x1))])) (by kernel_rfl) (by simp) (by simp) ?_ ?_ ?_
 ·rfl
 ·refine⟨?_,?_,?_,?_,?_,?_,?_,?_,?_,?_,?_,?_,?_,?_,?_,?_,?_,?_,?_,?_,?_,?_,trivial⟩;all_goals
   intro f hf hd hcl;simp[afD,Region.binds] at hd;have e5:f 5=false->f 18=false:=λh=>by
    cases hx:f 18 with
    |false=>rfl
    |true=>have:=hcl 18 _ rfl hx;simp[afD,Region.binds,h] at this
   have vr:f 12=false->f 21=false:=λh=>by
    cases hx:f 21 with
    |false=>rfl
    |true=>have:=hcl 21 _ rfl hx;simp[afD,Region.binds,h] at this
   try simp only[go_sem,vR,hd,hf]
   first
    |exact⟨_,_,rfl,trivial,by simp<;>first|exact e5 hf|exact vr hf⟩
    |skip
  ·refine⟨_,_,Prod.ext rfl (Prod.ext rfl ?_),⟨by omega,λx hx=>?_⟩,by simp⟩
   ·rw[kI _ _ _ (show (3:Nat)≠1000001 by decide),kI _ _ _ (show (2:Nat)≠1000001 by decide),kI _ _ _ (show (1000000:Nat)≠1000001 by decide),adj];rfl
   ·obtain⟨y,_,rfl⟩:=List.mem_map.1 hx;rfl
  ·refine⟨_,_,Prod.ext rfl (Prod.ext rfl ?_),⟨by omega,λx hx=>?_⟩,by simp⟩
   ·rw[kI _ _ _ (show (3:Nat)≠1000002 by decide),kI _ _ _ (show (2:Nat)≠1000002 by decide),kI _ _ _ (show (1000000:Nat)≠1000002 by decide),kI _ _ _ (show (1000001:Nat)≠1000002 by decide),adj];simp[mY,hd]
   ·obtain⟨y,_,rfl⟩:=List.mem_map.1 hx;rfl
  all_goals try (refine⟨_,_,Prod.ext rfl (Prod.ext rfl ?_),trivial,by simp⟩;simp[mY,hd];done)
  all_goals
   refine⟨_,_,Prod.ext rfl (Prod.ext rfl ?_),trivial,by simp[ayM]⟩;rw[kI _ _ _ (show (3:Nat)≠1000000 by decide),kI _ _ _ (show (2:Nat)≠1000000 by decide),adj];simp[mY,hd,hf]
 ·simp only[go_sem,vR,List.length_cons,List.length_nil];have hs1:=ajv (l++p.aR) (by simp;omega) hN' (v+1);have hs2:=ajw (m++p.aP) (by simp;omega) hE' (u+1);refine ab0 (hs1) (by simp only[go_sem]<;>rfl) (by simp only[go_sem]<;>rfl) (by simp only[go_sem]<;>rfl) (λh=>by cases h) ?_;simp only[go_sem];refine ab0 (hs2) (by simp only[go_sem]<;>rfl) (by simp only[go_sem]<;>rfl) (by simp only[go_sem]<;>rfl) (λh=>by cases h) ?_;simp only[go_sem,kG,nT]
theorem adk(a0:Types)(a1:ax)(a2:aG)(r:ax×Int)(h:j9 a0 a1 a2=some r):aS pw 86 [.agg [.aV (a0.nodes.map aJ),.aV (a0.au.map aL)],.agg (aA a1),.agg (aC a2)] (λv=>v = .dQ [.agg (aA r.1),.val (.int .i64 r.2)]):=by
 unfold j9 at h;refine aS.mV ?_;refine aQ [] func86 ?_;rw[ntmps86,results86];simp only[go_sem,aC,aA];obtain⟨e,he,h⟩:=nR h;refine alE (adi a2 e he) (by simp only[go_sem,aC,aA]<;>rfl) (gD _) (λh=>by cases h) ?_;simp only[go_sem,aC,aA];refine aW (λhc=>?_) (λhc=>?_)
 ·rw[hc,Bool.not_true,cond_false] at h;obtain⟨_,hg,h⟩:=nR h;obtain⟨⟨g1,g2,g3,g4,g5,g6,g7,g8,g9,g10⟩,_⟩:=sx hg;obtain⟨es,hes,h⟩:=nR h;obtain⟨_,hg,h⟩:=nR h;obtain⟨g11,_⟩:=sx hg;simp only[go_sem,aC,aA];refine ai1 [(0,.q),(2,.q),(1,.f),(3,.f),(4,.p),(5,.w),(6,.s)] (by kernel_rfl) ?_;simp only[go_sem,aC,aA];refine aeu 1304 (ayq a1 g1 g2 (by omega) g4) (by simp only[go_sem,aC,aA]<;>rfl) (gD _) yX (by simp only[go_sem,aC,aA]) (by simp only[go_sem,aC,aA]) ?_;simp only[go_sem,aC,aA];refine aeu 1336 (sO a1 es hes) (by simp only[go_sem,aC,aA]<;>rfl) (gD _) yX (by simp only[go_sem,aC,aA]) (by simp only[go_sem,aC,aA]) ?_;simp only[go_sem,aC,aA]
  first|refine⟨⟨by decide,by decide⟩,?_⟩|refine⟨by decide,?_⟩
  cases hn:decide (a2.next.x0=a1.next)
  ·rw[hn,Bool.not_false,cond_true] at h;cases h;simp only[go_sem,hn,kV,aC,aA];all_goals(and_intros)<;>rfl
  rw[hn,Bool.not_true,cond_false] at h;simp only[go_sem,hn,aC,aA];generalize hR:lM (bC a1) a2.az 0=R at h;generalize hS:nS es a2.aF 0=S at h;have hln:(bC a1).length<=1000:=by simp[bC];exact g3
  have hvn:∀n∈bC a1,n.values.length<=1000000:=λn hn=>by
   obtain⟨i,hi,rfl⟩:=List.mem_map.1 hn;have hi:i<a1.nodes.length:=by simpa using hi
   refine g4 _ ?_;have:i<a1.host.values.length:=by omega
   simp[bF,this]
  have hrm:=aud a2 (bC a1) es 0 0 (by omega) (by omega) hvn (by omega) (by omega) g10 R hR S hS;refine .inr (.inr (.inr (kK 9 1000000 (by decide) (by simp only[go_sem,aC,aA]) (kK 1304 1000001 (by decide) (by simp only[go_sem,aC,aA]) (kK 1336 1000002 (by decide) (by simp only[go_sem,aC,aA]) (ab9 hrm (by simp only[go_sem,aC,aA]<;>rfl) (by simp only[go_sem,stH,aC,aA]<;>rfl) ?_ ?_ ?_ ?_ ?_ ?_ ?_))))))
  ·simp only[go_sem,stH,aC,aA]
  ·simp only[go_sem,stH,aC,aA]
  ·simp only[go_sem,stH,aC,aA]
  ·simp only[go_sem,stH,aC,aA]
  ·simp only[go_sem,stH,aC,aA]
  ·simp only[go_sem,stH,aC,aA]
  simp only[go_sem,stH,aC,aA];cases hb1:(R.1&&S.1)
  ·rw[hb1,Bool.not_false,cond_true] at h;cases h;simp only[go_sem,hb1,kV,aC,aA];all_goals(and_intros)<;>rfl
  rw[hb1,Bool.not_true,cond_false] at h;obtain⟨hr1,hs1⟩:=Bool.and_eq_true_iff.1 hb1;obtain⟨_,hg,h⟩:=nR h;obtain⟨⟨g12,g13⟩,_⟩:=sx hg;simp only[go_sem,hb1,hr1,aC,aA];generalize hV:lN R.2.1 a2.values=V at h;have hst:=aCZ a2 R.2.1 S.2.1 R.2.2 S.2.2 (by omega) (by omega) V hV;refine tP (sK:=pQ [(3,.ptr 3 0),(5,.ptr 5 0),(6,.ptr 6 0),(7,.p (.val (.int .i64 0))),(9,.ptr 9 0),(34,.p (.val (.bool false))),(35,.p (.agg (aC a2)))]) (H2:=b7 [(3,.box [.p (.aV (a0.nodes.map aJ)),.p (.aV (a0.au.map aL))]),(5,.box [.p (.aV (a2.az.map ag)),.p (.aV (a2.aF.map aj)),.p (.aV (a2.aR.map ag)),.p (.aV (a2.aP.map aj)),.p (.aV (a2.values.map aH)),.p (.val (.int .i64 a2.next.x0)),.p (.val (.int .i64 a2.next.x1))]),(6,.box [.p (.val (.slice none 0 0)),.p (.val (.slice none 0 0)),.p (.val (.slice none 0 0)),.p (.val (.slice none 0 0)),.p (.val (.slice none 0 0)),.p (.val (.int .i64 0))]),(9,.box [.eG 1304 R.2.2,.row 1336 S.2.2]),(1304,.deep R.2.2 75 3 2 3 1 (R.2.1.map ag)),(1336,.row S.2.2 102 4 (S.2.1.map aj))]) (xW (by simp only[go_sem,hb1,hr1,aC,aA]<;>(first|exact keepTop (by repeat (first|exact aA8 _|refine aci (by decide) ?_|refine aev (by decide) (by decide) ?_)) (by simp only[go_sem,aC,aA]) (by simp only[go_sem,aC,aA]) (by simp only[go_sem,aC,aA])|skip))) (.inr (.inr (kK 9 1000000 (by decide) (by simp only[go_sem,aC,aA]) (kK 1304 1000001 (by decide) (by simp only[go_sem,aC,aA]) (kK 1336 1000002 (by decide) (by simp only[go_sem,aC,aA]) (ab9 hst (by simp only[go_sem,aC,aA]<;>rfl) (by simp only[go_sem,stH,aC,aA]<;>rfl) ?_ ?_ ?_ ?_ ?_ ?_ ?_))))))
  ·simp only[go_sem,stH,aC,aA]
  ·simp only[go_sem,stH,aC,aA]
  ·simp only[go_sem,stH,aC,aA]
  ·simp only[go_sem,stH,aC,aA]
  ·simp only[go_sem,stH,aC,aA]
  ·simp only[go_sem,stH,aC,aA]
  simp only[go_sem,stH,aC,aA];cases hb2:V.1
  ·rw[hb2,Bool.not_false,cond_true] at h;cases h;simp only[go_sem,hb2,kV,aC,aA];all_goals(and_intros)<;>rfl
  rw[hb2,Bool.not_true,cond_false] at h;obtain⟨_,hg,h⟩:=nR h;obtain⟨⟨g14,g15⟩,_⟩:=sx hg;simp only[go_sem,hb2,aC,aA];cases hb3:gM V.2 S.2.1 a2
  ·rw[hb3,cond_false] at h;obtain⟨q1,q2⟩:=g15 hb3;have am3:=ayP a2 V.2 S.2.1 R.2.2 S.2.2 (by omega) (by omega) (by omega) (by omega) (λ_=>q1) (λ_=>q2) false hb3;simp only[Bool.false_eq_true,if_false,Bool.not_false] at am3;refine tP (sK:=aqs 1304 (pQ [(3,.ptr 3 0),(5,.ptr 5 0),(6,.ptr 6 0),(7,.p (.val (.int .i64 0))),(9,.ptr 9 0),(39,.p (.val (.bool false))),(40,.p (.agg (aC a2)))])) (H2:=aaO 1304 (b7 [(3,.box [.p (.aV (a0.nodes.map aJ)),.p (.aV (a0.au.map aL))]),(5,.box [.p (.aV (a2.az.map ag)),.p (.aV (a2.aF.map aj)),.p (.aV (a2.aR.map ag)),.p (.aV (a2.aP.map aj)),.p (.aV (a2.values.map aH)),.p (.val (.int .i64 a2.next.x0)),.p (.val (.int .i64 a2.next.x1))]),(6,.box [.p (.val (.slice none 0 0)),.p (.val (.slice none 0 0)),.p (.val (.slice none 0 0)),.p (.val (.slice none 0 0)),.p (.val (.slice none 0 0)),.p (.val (.int .i64 0))]),(9,.box [.eG 1304 R.2.2,.row 1336 S.2.2]),(1304,.deep R.2.2 75 3 2 3 1 (V.2.map ag)),(1336,.row S.2.2 102 4 (S.2.1.map aj))])) (cU.trans (xW (by simp only[go_sem,hb1,hr1,hb2,aC,aA]<;>(first|exact keepTop (by repeat (first|exact aA8 _|refine aci (by decide) ?_|refine aev (by decide) (by decide) ?_)) (by simp only[go_sem,aC,aA]) (by simp only[go_sem,aC,aA]) (by simp only[go_sem,aC,aA])|skip))) (j8 1304 R.2.2 75 3 2 3 1 (V.2.map ag) (by decide) (by simp only[go_sem,aC,aA]))) (.inr (.inr (kK 9 1000000 (by decide) (by simp only[go_sem,aC,aA]) (kK 1304 1000001 (by decide) (by simp only[go_sem,aC,aA]) (kK 1336 1000002 (by decide) (by simp only[go_sem,aC,aA]) (ab9 am3 (by simp only[go_sem,aC,aA]<;>rfl) (by simp only[go_sem,stF,aC,aA]<;>rfl) ?_ ?_ ?_ ?_ ?_ ?_ ?_))))))
   ·simp only[go_sem,stF,aC,aA]
   ·simp only[go_sem,stF,aC,aA]
   ·simp only[go_sem,stF,aC,aA]
   ·simp only[go_sem,stF,aC,aA]
   ·simp only[go_sem,stF,aC,aA]
   ·simp only[go_sem,stF,aC,aA]
   simp only[go_sem,stF,aC,aA];obtain⟨x,hx,h⟩:=nR h;generalize kG (V.2++a2.aR)=sn at hx ⊢;generalize nT (S.2.1++a2.aP)=se at hx ⊢
   first|refine⟨⟨by decide,by decide⟩,?_⟩|refine⟨by decide,?_⟩
   have hT:=(show aS _ _ _ (λv=>v = .dQ [.agg (aA x.1),.val (.bool x.2)]) from (acm sn se a2.next.x1 x hx).azN);refine tP (cU.trans (xW (l:=[(3,.ptr 3 0),(6,.ptr 6 0),(7,.p (.val (.int .i64 0))),(47,.row 1304 (R.2.2+1)),(49,.row 1336 (S.2.2+1)),(52,.p (.val (.int .i64 a2.next.x1)))]) (hl:=[(3,.box [.p (.aV (a0.nodes.map aJ)),.p (.aV (a0.au.map aL))]),(6,.box [.p (.val (.slice none 0 0)),.p (.val (.slice none 0 0)),.p (.val (.slice none 0 0)),.p (.val (.slice none 0 0)),.p (.val (.slice none 0 0)),.p (.val (.int .i64 0))]),(1304,.row (R.2.2+1) 75 3 (sn.map ag)),(1336,.row (S.2.2+1) 102 4 (se.map aj))]) (by simp only[go_sem,hb1,hr1,hb2,aC,aA]<;>(first|exact keepTop (by repeat (first|exact aA8 _|refine aci (by decide) ?_|refine aev (by decide) (by decide) ?_|refine ayu (by decide) ?_)) (by simp only[go_sem,aC,aA]) (by simp only[go_sem,aC,aA]) (by simp only[go_sem,aC,aA])|skip))) (cU.trans (ahr 1304 (R.2.2+1) 75 3 (sn.map ag) [47] (by simp only[go_sem,aC,aA]<;>rfl) (by simp only[go_sem,aC,aA]<;>and_intros<;>rfl) (by decide)) (ahr 1336 (S.2.2+1) 102 4 (se.map aj) [49] (by simp only[go_sem,aC,aA]<;>rfl) (by simp only[go_sem,aC,aA]<;>and_intros<;>rfl) (by decide)))) (.inl (.inl ⟨[],w8 (abZ hT (by simp only[go_sem,aC,aA]<;>rfl) (by first|exact yq|exact b6 rfl)) ?_⟩));simp only[go_sem,aC,aA];cases hx2:x.2
   ·rw[hx2,Bool.not_false,cond_true] at h;cases h;simp only[go_sem,hx2,kV,aC,aA];all_goals(and_intros)<;>rfl
   rw[hx2,Bool.not_true,cond_false] at h;obtain⟨e2,he2,h⟩:=nR h;simp only[go_sem,hx2,aC,aA];refine alE (pK a0 x.1 e2 he2) (by simp only[go_sem,aC,aA]<;>rfl) (gD _) (by first|exact yq|exact b6 rfl) ?_;simp only[go_sem,aC,aA];refine aW (λhv=>?_) (λhv=>?_)
   ·rw[hv,Bool.not_true,cond_false] at h;cases h;simp only[go_sem,aC,aA];all_goals(and_intros)<;>rfl
   ·rw[hv,Bool.not_false,cond_true] at h;cases h;simp only[go_sem,kV,aC,aA];all_goals(and_intros)<;>rfl
  ·rw[hb3,cond_true] at h;have am3:=ayP a2 V.2 S.2.1 R.2.2 S.2.2 (by omega) (by omega) (by omega) (by omega) (λh=>by rw[hb3] at h;cases h) (λh=>by rw[hb3] at h;cases h) true hb3;simp only[if_true,Bool.not_true] at am3;cases h;refine tP (sK:=aqs 1304 (pQ [(3,.ptr 3 0),(5,.ptr 5 0),(6,.ptr 6 0),(7,.p (.val (.int .i64 0))),(9,.ptr 9 0),(39,.p (.val (.bool false))),(40,.p (.agg (aC a2)))])) (H2:=aaO 1304 (b7 [(3,.box [.p (.aV (a0.nodes.map aJ)),.p (.aV (a0.au.map aL))]),(5,.box [.p (.aV (a2.az.map ag)),.p (.aV (a2.aF.map aj)),.p (.aV (a2.aR.map ag)),.p (.aV (a2.aP.map aj)),.p (.aV (a2.values.map aH)),.p (.val (.int .i64 a2.next.x0)),.p (.val (.int .i64 a2.next.x1))]),(6,.box [.p (.val (.slice none 0 0)),.p (.val (.slice none 0 0)),.p (.val (.slice none 0 0)),.p (.val (.slice none 0 0)),.p (.val (.slice none 0 0)),.p (.val (.int .i64 0))]),(9,.box [.eG 1304 R.2.2,.row 1336 S.2.2]),(1304,.deep R.2.2 75 3 2 3 1 (V.2.map ag)),(1336,.row S.2.2 102 4 (S.2.1.map aj))])) (cU.trans (xW (by simp only[go_sem,hb1,hr1,hb2,aC,aA]<;>(first|exact keepTop (by repeat (first|exact aA8 _|refine aci (by decide) ?_|refine aev (by decide) (by decide) ?_)) (by simp only[go_sem,aC,aA]) (by simp only[go_sem,aC,aA]) (by simp only[go_sem,aC,aA])|skip))) (j8 1304 R.2.2 75 3 2 3 1 (V.2.map ag) (by decide) (by simp only[go_sem,aC,aA]))) (.inr (.inr (kK 9 1000000 (by decide) (by simp only[go_sem,aC,aA]) (kK 1304 1000001 (by decide) (by simp only[go_sem,aC,aA]) (kK 1336 1000002 (by decide) (by simp only[go_sem,aC,aA]) (ab9 am3 (by simp only[go_sem,aC,aA]<;>rfl) (by simp only[go_sem,stF,aC,aA]<;>rfl) ?_ ?_ ?_ ?_ ?_ ?_ ?_))))))
   ·simp only[go_sem,stF,aC,aA]
   ·simp only[go_sem,stF,aC,aA]
   ·simp only[go_sem,stF,aC,aA]
   ·simp only[go_sem,stF,aC,aA]
   ·simp only[go_sem,stF,aC,aA]
   ·simp only[go_sem,stF,aC,aA]
   simp only[go_sem,stF,kV,aC,aA];all_goals(and_intros)<;>rfl
 ·rw[hc,Bool.not_false,cond_true] at h;cases h;simp only[go_sem,aC,aA];all_goals(and_intros)<;>rfl
theorem pL(v:Nat)(l r:List aI)(h:eX l=some r):kE pw 102 v 57 3 (l.map aB) [] (λa c=>a = .row 1000000 (v+1)/\c=some (.row (v+1) 57 3 (r.map aB))):=by
 unfold eX giv at h;split at h;rotate_left
 ·cases h
 rename_i hc;obtain⟨h1,K,h2⟩:=hc;cases h;exact apD K l h1 h2 v
theorem aeh(p q:aG)(r:aG)(h:sP p q=some r):br pw 103 [.agg (aC p),.agg (aC q)] (λv=>v = .agg [.row 75 3 (r.az.map ag),.row 102 4 (r.aF.map aj),.p (.aV (r.aR.map ag)),.p (.aV (r.aP.map aj)),.row 105 4 (r.values.map aH),.p (.val (.int .i64 r.next.x0)),.p (.val (.int .i64 r.next.x1))]):=by obtain⟨⟨h1,h2,h3,h4,h5,h6⟩,rfl⟩:=sx h;exact apf p q h1 h2 h3 h4 h5 h6 _ rfl
end Go.Proofs.YtjhkgjlmiolfoaaGreat
namespace Go.cr
open Go.RowKit
theorem ajx{e:Env}{H:ay}(b off id:Nat)(ty:TypeId)(sz k:Nat)(e':TypeId)(sz':Nat)(cs:List AV)(hb:H b=some (.box cs))(ho:cs[off]? = some (.p (.val (.slice none 0 0))))(hid:H id=none)(hsz:k<sz) :
  cU e H e (bk (bk H id (.deep 0 ty sz k e' sz' [])) b (.box (cs.set off (.eG id 0)))):=λC I L tm w hs=>by
 obtain⟨n1,n2,n3⟩:=alL hs hid ty hsz e' sz';have hs':=n2 e tm hs;have hne:b≠id:=λh=>by rw[h,hid] at hb;cases hb
 obtain⟨blk,arr,et,g1,g2,g3,g4,g5,g6⟩:=hs.chunk b _ hb;refine⟨I,_,{ hs' with dom:=λi l hl=>?_,chunk:=λi ch hch=>?_ }⟩
 ·obtain⟨c,hc⟩:=hs'.dom i l hl;by_cases hi:i=b
  ·exact⟨.box (cs.set off (.eG id 0)),by unfold bk;rw[if_pos hi]⟩
  ·exact⟨c,by unfold bk at hc ⊢;rw[if_neg hi];exact hc⟩
 ·by_cases hi:i=b
  ·subst hi;have:Chunk.box (cs.set off (.eG id 0))=ch:=by simpa[bk] using hch
   subst this;refine⟨blk,arr,et,by simp[ck,hne,g1],g2,by simpa using g3,λj u c hu hc=>?_,g5,g6⟩;rw[List.getElem?_set] at hc;split at hc
   ·rename_i hj;subst hj;split at hc
    ·simp at hc;subst hc;have:=g4 off u _ hu ho;rw[this.eC.1];exact n1
    ·cases hc
   ·exact (g4 j u c hu hc).mono (Mem.dV I) n3
  ·exact hs'.chunk i ch (by unfold bk at hch ⊢;rw[if_neg hi] at hch;exact hch)
theorem aug{P:Program}{N:Nat}{own:List Nat}{ops:Array Oper}{K:Env->ay->Prop}{env env':Env}{H H':ay}(h:cU env H env' H')(hw:vh P N own ops K env' H'):vh P N own ops K env H:=λC I L tm w hN hs=>by obtain⟨I',L',hs'⟩:=h C I L tm w hs;exact hw C I' L' tm w hN hs'
end Go.cr
namespace Go.Proofs.YtjhkgjlmiolfoaaGreat
open Go.cr
attribute [local go_sem] encI iG bI bl aZ nj aA
theorem uV(a0:Host)(r:Host)(h:cC a0=some r):br pw 29 [.agg (nj a0)] (λv=>v = .agg [.row 3 1 (r.graph.nodes.map encI),.row 175 3 (r.graph.au.map aZ),.deep 32 1 0 3 1 (r.values.map bI)]):=by
 refine bB [18,25] func29 ?_;rw[ntmps29,results29];unfold cC at h;have F:=trivial;refine zG 1112 F h (pE _) λaJE h=>?_
 refine zV ?_;refine zN F h (0:Nat) [1,2,3] (λx=>[(4,.p (.val (.int .i64 ((x.1.1:Nat):Int))))]) [1,2,1112,1113] (λx H=>[(3,bx (H 3) [(2,.eG 3959 x.2)]),(3959,.deep x.2 32 1 0 3 1 (x.1.2.map bI))]) ?_ ?_ (hw:=by refine cU.trans (ajx 3 2 3959 32 1 0 3 1 _ rfl rfl rfl (by decide)) ?_;exact zW)
 ·intro i s g _ _ F N h;try dsimp only at h
  refine zE [(0,.p),(1,.b),(3,.q),(4,.q),(5,.q),(6,.q),(7,.q),(2,.w),(8,.s),(9,.w),(10,.t),(11,.t),(12,.t)] ?_;refine zI bI F h λe F h=>?_
  refine zC F h λF h=>?_
  refine zF (eq_true (show (e.length) * 8<=140737488355328 by omega)) F λF=>?_
  refine zF (eq_true (eW (n:=1) (f:=encI) (λ_=>rfl) e)) F λF=>?_
  refine zC F h λF h=>?_
  refine zF (show (s.length+1) * 24<=140737488355328 by omega) F λF=>?_
  refine zF (bh bI s [e] (c:=[[.aV (e.map encI)]]) rfl) F λF=>?_
  refine zV ?_;refine alM 36 36 _ _ 3959 25 18 g 1 0 32 1 24 3 1 (s.map bI) (e.map encI) [.val (.slice none 0 0)] rfl (by simp only[go_sem,F]<;>rfl) (by simp only[go_sem,F]) (by simp only[go_sem,F]) (by simp only[go_sem,F]) (by simp only[go_sem,F]) (by simp only[go_sem,F]) rfl (by decide) ?_ ?_
  ·rw[List.length_map];omega
  exact zX (z:=N _ (g+1) h zW)
 ·intro i s g _ F h;try dsimp only at h
  exact iR h
theorem uW(a0:ax)(r:ax)(h:dy a0=some r):br pw 32 [.agg (aA a0)] (λv=>v = .agg [.row 3 1 (r.host.graph.nodes.map encI),.row 175 3 (r.host.graph.au.map aZ),.deep 32 1 0 3 1 (r.host.values.map bI),.row 3 1 (r.nodes.map encI),.row 3 1 (r.au.map encI),.p (.val (.int .i64 r.next))]):=by
 refine br.tF ?_;refine bB [6,9,10,13] func32 ?_;rw[ntmps32,results32];unfold dy at h;have F:=trivial;refine zE [(0,.q),(1,.q),(4,.q),(5,.q),(8,.b),(9,.b),(11,.b),(12,.b),(2,.f),(3,.w),(6,.s),(7,.w),(10,.s),(13,.q),(14,.w)] ?_;refine zH 1080 F h (uV _) λaJF h=>?_
 refine zC F h λF h=>?_
 refine zF (eq_true (show (a0.nodes.length) * 8<=140737488355328 by omega)) F λF=>?_
 refine zF (eq_true (eW (n:=1) (f:=encI) (λ_=>rfl) a0.nodes)) F λF=>?_
 refine zC F h λF h=>?_
 refine zF (eq_true (show (a0.au.length) * 8<=140737488355328 by omega)) F λF=>?_
 refine zF (eq_true (eW (n:=1) (f:=encI) (λ_=>rfl) a0.au)) F λF=>?_
 exact iR h
end Go.Proofs.YtjhkgjlmiolfoaaGreat
namespace Go.Proofs.YtjhkgjlmiolfoaaGreat
open Go.cr
noncomputable section
theorem xw(a0:List cz)(a1:List cz)(r:Types)(h:iX a0 a1=some r):br pw 44 [.aV (a0.map dW),.aV (a1.map dW)] (λv=>v = .agg [.row 165 4 (r.nodes.map aJ),.row 170 7 (r.au.map aL)]):=by
 refine br.tF ?_;refine bB [82,121] func44 ?_;rw[ntmps44,results44];unfold iX at h;have F:=trivial;refine zV ?_;refine zL F h (0:Nat) [0,1,4,5] (λx=>[(6,.p (.val (.int .i64 x.1.1)))]) [4] (λx H=>[(5,bx (H 5) [(0,.row 2741 x.2)]),(2741,.row x.2 165 4 (x.1.2.map aJ))]) ?_ (hw:=by refine cU.trans (bT 5 0 2741 165 4 _ rfl rfl rfl (by decide)) ?_;exact zW);intro s2 g2 _ _ F mI h;try dsimp only at h
 refine rG F h (λF h=>?_) λF h=>?_
 ·refine zB F h (λF h=>?_) λF h=>?_
  ·refine zA dW F h λe3 F h=>?_
   refine zD [.q,.q,.q,.q,.q,.q,.q,.q,.q,.q,.q,.q,.q,.q,.q,.q,.q,.w,.s] ?_;refine zC F h λF h=>?_
   refine zF (show (0:Int)<=0 by decide) F λF=>?_
   refine zF (show (0:Int)<((2:Nat):Int) by decide) F λF=>?_
   refine zC F h λF h=>?_
   refine zF (show (0:Int)<=0 by decide) F λF=>?_
   refine zF (show (0:Int)<((2:Nat):Int) by decide) F λF=>?_
   refine zF (show ¬ ((16:Int)=0) by decide) F λF=>?_
   refine zF (show ¬ ((4:Int)=0) by decide) F λF=>?_
   refine zC F h λF h=>?_
   refine zF (show (0:Int)<=1 by decide) F λF=>?_
   refine zF (show (1:Int)<((2:Nat):Int) by decide) F λF=>?_
   refine zF (show ¬ ((4:Int)=0) by decide) F λF=>?_
   refine zB F h (λF h=>?_) λF h=>?_
   ·refine zF (show (0:Int)<=1 by decide) F λF=>?_
    refine zF (show (1:Int)<((2:Nat):Int) by decide) F λF=>?_
    refine zF (show ¬ ((4:Int)=0) by decide) F λF=>?_
    refine zF (show ¬ ((9:Int)=0) by decide) F λF=>?_
    refine zC F h λF h=>?_
    refine zF (eq_true (show (s2.2.length+1) * 56<=140737488355328 by omega)) F λF=>?_
    exact zX (z:=mI _ (g2+1) h (by refine cU.trans (rF 2741 (g2+1) 165 4 aJ s2.2 [(⟨((⟨#[65,66,67,68,69,70]⟩:ByteArray).extract s2.1.toNat (i64.wrap (s2.1+1)).toNat),(i64.wrap (((i64.wrap e3.x0).tmod (i64.wrap (s2.1+1)))-1)),(decide (((IntKind.u8.wrap (e3.x0.tdiv 16)).tmod 4)=3)),[(⟨((⟨#[117,118,119,120,121,122]⟩:ByteArray).extract s2.1.toNat (i64.wrap (s2.1+1)).toNat),(-3),(i64.wrap (3+((i64.wrap (IntKind.u8.wrap (e3.x1.tdiv 4))).tmod 9))),[]⟩:Attr)]⟩:gB)] (by simp -implicitDefEqProofs only[go_sem,F]<;>rfl) (by simp -implicitDefEqProofs only[go_sem,F]<;>and_intros<;>first|rfl|trivial)) ?_;exact zW))
   ·refine zB F h (λF h=>?_) λF h=>?_
    ·refine zC F h λF h=>?_
     refine zF (eq_true (show (s2.2.length+1) * 56<=140737488355328 by omega)) F λF=>?_
     refine zF (bh aJ s2.2 [(⟨((⟨#[65,66,67,68,69,70]⟩:ByteArray).extract s2.1.toNat (i64.wrap (s2.1+1)).toNat),(i64.wrap (((i64.wrap e3.x0).tmod (i64.wrap (s2.1+1)))-1)),(decide (((IntKind.u8.wrap (e3.x0.tdiv 16)).tmod 4)=3)),[(⟨((⟨#[117,118,119,120,121,122]⟩:ByteArray).extract s2.1.toNat (i64.wrap (s2.1+1)).toNat),0,1,[(⟨#[111,102,102]⟩:ByteArray),(⟨#[111,110]⟩:ByteArray)]⟩:Attr)]⟩:gB)] (c:=[[.val (.string ((⟨#[65,66,67,68,69,70]⟩:ByteArray).extract s2.1.toNat (i64.wrap (s2.1+1)).toNat)),.val (.int .i64 (i64.wrap (((i64.wrap e3.x0).tmod (i64.wrap (s2.1+1)))-1))),.val (.bool (decide (((IntKind.u8.wrap (e3.x0.tdiv 16)).tmod 4)=3))),.aV [[.val (.string ((⟨#[117,118,119,120,121,122]⟩:ByteArray).extract s2.1.toNat (i64.wrap (s2.1+1)).toNat)),.val (.int .i64 0),.val (.int .i64 1),.aV [[.val (.string (⟨#[111,102,102]⟩:ByteArray))],[.val (.string (⟨#[111,110]⟩:ByteArray))]]]]]]) rfl) F λF=>?_
     exact zX (z:=mI _ (g2+1) h zW)
    ·refine zC F h λF h=>?_
     refine zF (eq_true (show (s2.2.length+1) * 56<=140737488355328 by omega)) F λF=>?_
     exact zX (z:=mI _ (g2+1) h (by refine cU.trans (rF 2741 (g2+1) 165 4 aJ s2.2 [(⟨((⟨#[65,66,67,68,69,70]⟩:ByteArray).extract s2.1.toNat (i64.wrap (s2.1+1)).toNat),(i64.wrap (((i64.wrap e3.x0).tmod (i64.wrap (s2.1+1)))-1)),(decide (((IntKind.u8.wrap (e3.x0.tdiv 16)).tmod 4)=3)),[]⟩:gB)] (by simp -implicitDefEqProofs only[go_sem,F]<;>rfl) (by simp -implicitDefEqProofs only[go_sem,F]<;>and_intros<;>first|rfl|trivial)) ?_;exact zW))
  ·refine zD [.q,.q,.q,.q,.q,.q,.q,.q,.q,.q,.q,.q,.q,.q,.q,.q,.q,.w,.s] ?_;refine zC F h λF h=>?_
   refine zF (show (0:Int)<=0 by decide) F λF=>?_
   refine zF (show (0:Int)<((2:Nat):Int) by decide) F λF=>?_
   refine zC F h λF h=>?_
   refine zF (show (0:Int)<=0 by decide) F λF=>?_
   refine zF (show (0:Int)<((2:Nat):Int) by decide) F λF=>?_
   refine zF (show ¬ ((16:Int)=0) by decide) F λF=>?_
   refine zF (show ¬ ((4:Int)=0) by decide) F λF=>?_
   refine zC F h λF h=>?_
   refine zF (show (0:Int)<=1 by decide) F λF=>?_
   refine zF (show (1:Int)<((2:Nat):Int) by decide) F λF=>?_
   refine zF (show ¬ ((4:Int)=0) by decide) F λF=>?_
   refine zB F h (λF h=>?_) λF h=>?_
   ·refine zF (show (0:Int)<=1 by decide) F λF=>?_
    refine zF (show (1:Int)<((2:Nat):Int) by decide) F λF=>?_
    refine zF (show ¬ ((4:Int)=0) by decide) F λF=>?_
    refine zF (show ¬ ((9:Int)=0) by decide) F λF=>?_
    refine zC F h λF h=>?_
    refine zF (eq_true (show (s2.2.length+1) * 56<=140737488355328 by omega)) F λF=>?_
    exact zX (z:=mI _ (g2+1) h (by refine cU.trans (rF 2741 (g2+1) 165 4 aJ s2.2 [(⟨((⟨#[65,66,67,68,69,70]⟩:ByteArray).extract s2.1.toNat (i64.wrap (s2.1+1)).toNat),(i64.wrap (((i64.wrap 0).tmod (i64.wrap (s2.1+1)))-1)),(decide (((IntKind.u8.wrap ((0:Int).tdiv 16)).tmod 4)=3)),[(⟨((⟨#[117,118,119,120,121,122]⟩:ByteArray).extract s2.1.toNat (i64.wrap (s2.1+1)).toNat),(-3),(i64.wrap (3+((i64.wrap (IntKind.u8.wrap ((0:Int).tdiv 4))).tmod 9))),[]⟩:Attr)]⟩:gB)] (by simp -implicitDefEqProofs only[go_sem,F]<;>rfl) (by simp -implicitDefEqProofs only[go_sem,F]<;>and_intros<;>first|rfl|trivial)) ?_;exact zW))
   ·refine zB F h (λF h=>?_) λF h=>?_
    ·refine zC F h λF h=>?_
     refine zF (eq_true (show (s2.2.length+1) * 56<=140737488355328 by omega)) F λF=>?_
     refine zF (bh aJ s2.2 [(⟨((⟨#[65,66,67,68,69,70]⟩:ByteArray).extract s2.1.toNat (i64.wrap (s2.1+1)).toNat),(i64.wrap (((i64.wrap 0).tmod (i64.wrap (s2.1+1)))-1)),(decide (((IntKind.u8.wrap ((0:Int).tdiv 16)).tmod 4)=3)),[(⟨((⟨#[117,118,119,120,121,122]⟩:ByteArray).extract s2.1.toNat (i64.wrap (s2.1+1)).toNat),0,1,[(⟨#[111,102,102]⟩:ByteArray),(⟨#[111,110]⟩:ByteArray)]⟩:Attr)]⟩:gB)] (c:=[[.val (.string ((⟨#[65,66,67,68,69,70]⟩:ByteArray).extract s2.1.toNat (i64.wrap (s2.1+1)).toNat)),.val (.int .i64 (i64.wrap (((i64.wrap 0).tmod (i64.wrap (s2.1+1)))-1))),.val (.bool (decide (((IntKind.u8.wrap ((0:Int).tdiv 16)).tmod 4)=3))),.aV [[.val (.string ((⟨#[117,118,119,120,121,122]⟩:ByteArray).extract s2.1.toNat (i64.wrap (s2.1+1)).toNat)),.val (.int .i64 0),.val (.int .i64 1),.aV [[.val (.string (⟨#[111,102,102]⟩:ByteArray))],[.val (.string (⟨#[111,110]⟩:ByteArray))]]]]]]) rfl) F λF=>?_
     exact zX (z:=mI _ (g2+1) h zW)
    ·refine zC F h λF h=>?_
     refine zF (eq_true (show (s2.2.length+1) * 56<=140737488355328 by omega)) F λF=>?_
     exact zX (z:=mI _ (g2+1) h (by refine cU.trans (rF 2741 (g2+1) 165 4 aJ s2.2 [(⟨((⟨#[65,66,67,68,69,70]⟩:ByteArray).extract s2.1.toNat (i64.wrap (s2.1+1)).toNat),(i64.wrap (((i64.wrap 0).tmod (i64.wrap (s2.1+1)))-1)),(decide (((IntKind.u8.wrap ((0:Int).tdiv 16)).tmod 4)=3)),[]⟩:gB)] (by simp -implicitDefEqProofs only[go_sem,F]<;>rfl) (by simp -implicitDefEqProofs only[go_sem,F]<;>and_intros<;>first|rfl|trivial)) ?_;exact zW))
 ·refine mH F h (λF h=>?_) λF h=>?_
  ·refine zB F h (λF h=>?_) λF h=>?_
   ·refine zA dW F h λe4 F h=>?_
    refine zD [.q,.q,.q,.q,.q,.q,.q,.q,.q,.q,.q,.q,.q,.q,.q,.q,.q,.w,.s] ?_;refine zC F h λF h=>?_
    refine zF (show (0:Int)<=0 by decide) F λF=>?_
    refine zF (show (0:Int)<((2:Nat):Int) by decide) F λF=>?_
    refine zC F h λF h=>?_
    refine zF (show (0:Int)<=0 by decide) F λF=>?_
    refine zF (show (0:Int)<((2:Nat):Int) by decide) F λF=>?_
    refine zF (show ¬ ((16:Int)=0) by decide) F λF=>?_
    refine zF (show ¬ ((4:Int)=0) by decide) F λF=>?_
    refine zC F h λF h=>?_
    refine zF (show (0:Int)<=1 by decide) F λF=>?_
    refine zF (show (1:Int)<((2:Nat):Int) by decide) F λF=>?_
    refine zF (show ¬ ((4:Int)=0) by decide) F λF=>?_
    refine zB F h (λF h=>?_) λF h=>?_
    ·refine zF (show (0:Int)<=1 by decide) F λF=>?_
     refine zF (show (1:Int)<((2:Nat):Int) by decide) F λF=>?_
     refine zF (show ¬ ((4:Int)=0) by decide) F λF=>?_
     refine zF (show ¬ ((9:Int)=0) by decide) F λF=>?_
     refine zC F h λF h=>?_
     refine zF (eq_true (show (s2.2.length+1) * 56<=140737488355328 by omega)) F λF=>?_
     exact zX (z:=mI _ (g2+1) h (by refine cU.trans (rF 2741 (g2+1) 165 4 aJ s2.2 [(⟨((⟨#[65,66,67,68,69,70]⟩:ByteArray).extract s2.1.toNat (i64.wrap (s2.1+1)).toNat),(i64.wrap (((i64.wrap e4.x0).tmod (i64.wrap (s2.1+1)))-1)),(decide (((IntKind.u8.wrap (e4.x0.tdiv 16)).tmod 4)=3)),[(⟨((⟨#[117,118,119,120,121,122]⟩:ByteArray).extract s2.1.toNat (i64.wrap (s2.1+1)).toNat),(-3),(i64.wrap (3+((i64.wrap (IntKind.u8.wrap (e4.x1.tdiv 4))).tmod 9))),[]⟩:Attr)]⟩:gB)] (by simp -implicitDefEqProofs only[go_sem,F]<;>rfl) (by simp -implicitDefEqProofs only[go_sem,F]<;>and_intros<;>first|rfl|trivial)) ?_;exact zW))
    ·refine zB F h (λF h=>?_) λF h=>?_
     ·refine zC F h λF h=>?_
      refine zF (eq_true (show (s2.2.length+1) * 56<=140737488355328 by omega)) F λF=>?_
      refine zF (bh aJ s2.2 [(⟨((⟨#[65,66,67,68,69,70]⟩:ByteArray).extract s2.1.toNat (i64.wrap (s2.1+1)).toNat),(i64.wrap (((i64.wrap e4.x0).tmod (i64.wrap (s2.1+1)))-1)),(decide (((IntKind.u8.wrap (e4.x0.tdiv 16)).tmod 4)=3)),[(⟨((⟨#[117,118,119,120,121,122]⟩:ByteArray).extract s2.1.toNat (i64.wrap (s2.1+1)).toNat),0,1,[(⟨#[111,102,102]⟩:ByteArray),(⟨#[111,110]⟩:ByteArray)]⟩:Attr)]⟩:gB)] (c:=[[.val (.string ((⟨#[65,66,67,68,69,70]⟩:ByteArray).extract s2.1.toNat (i64.wrap (s2.1+1)).toNat)),.val (.int .i64 (i64.wrap (((i64.wrap e4.x0).tmod (i64.wrap (s2.1+1)))-1))),.val (.bool (decide (((IntKind.u8.wrap (e4.x0.tdiv 16)).tmod 4)=3))),.aV [[.val (.string ((⟨#[117,118,119,120,121,122]⟩:ByteArray).extract s2.1.toNat (i64.wrap (s2.1+1)).toNat)),.val (.int .i64 0),.val (.int .i64 1),.aV [[.val (.string (⟨#[111,102,102]⟩:ByteArray))],[.val (.string (⟨#[111,110]⟩:ByteArray))]]]]]]) rfl) F λF=>?_
      exact zX (z:=mI _ (g2+1) h zW)
     ·refine zC F h λF h=>?_
      refine zF (eq_true (show (s2.2.length+1) * 56<=140737488355328 by omega)) F λF=>?_
      exact zX (z:=mI _ (g2+1) h (by refine cU.trans (rF 2741 (g2+1) 165 4 aJ s2.2 [(⟨((⟨#[65,66,67,68,69,70]⟩:ByteArray).extract s2.1.toNat (i64.wrap (s2.1+1)).toNat),(i64.wrap (((i64.wrap e4.x0).tmod (i64.wrap (s2.1+1)))-1)),(decide (((IntKind.u8.wrap (e4.x0.tdiv 16)).tmod 4)=3)),[]⟩:gB)] (by simp -implicitDefEqProofs only[go_sem,F]<;>rfl) (by simp -implicitDefEqProofs only[go_sem,F]<;>and_intros<;>first|rfl|trivial)) ?_;exact zW))
   ·try dsimp only at h
    refine zV ?_;refine zL F h (0:Nat) [1,4,5] (λx=>[(10,.p (.val (.int .i64 x.1.1)))]) [4,2741] (λx H=>[(5,bx (H 5) [(1,.row 3037 x.2)]),(3037,.row x.2 170 7 (x.1.2.map aL))]) ?_ (hw:=by refine cU.trans (bT 5 1 3037 170 7 _ rfl rfl rfl (by decide)) ?_;exact zW);intro s5 g5 _ _ F Ns5 h;try dsimp only at h
    refine mH F h (λF h=>?_) λF h=>?_
    ·refine zB F h (λF h=>?_) λF h=>?_
     ·refine zE [(0,.p),(2,.q),(3,.q),(4,.q),(5,.q),(6,.q),(7,.q),(8,.q),(9,.q),(10,.q),(11,.q),(12,.q),(13,.q),(14,.q),(15,.q),(16,.q),(17,.q),(18,.q),(19,.q),(20,.q),(21,.q),(22,.q),(23,.p),(1,.q),(24,.w),(25,.q),(26,.w)] ?_;refine zC F h λF h=>?_
      refine zA dW F h λe6 F h=>?_
      refine zF (show (0:Int)<=0 by decide) F λF=>?_
      refine zF (show (0:Int)<((2:Nat):Int) by decide) F λF=>?_
      refine zC F h λF h=>?_
      refine zF (show (0:Int)<=1 by decide) F λF=>?_
      refine zF (show (1:Int)<((2:Nat):Int) by decide) F λF=>?_
      refine zC F h λF h=>?_
      refine zC F h λF h=>?_
      refine zF (eq_true (show (s5.2.length+1) * 64<=140737488355328 by omega)) F λF=>?_
      refine zF (bh aL s5.2 [(⟨((⟨#[101,102,103,104,105]⟩:ByteArray).extract s5.1.toNat (i64.wrap (s5.1+1)).toNat),((i64.wrap e6.x0).tmod ((s2.2.length:Nat):Int)),((i64.wrap e6.x1).tmod ((s2.2.length:Nat):Int)),0,(-1),0,(-1)⟩:lU)] (c:=[[.val (.string ((⟨#[101,102,103,104,105]⟩:ByteArray).extract s5.1.toNat (i64.wrap (s5.1+1)).toNat)),.val (.int .i64 ((i64.wrap e6.x0).tmod ((s2.2.length:Nat):Int))),.val (.int .i64 ((i64.wrap e6.x1).tmod ((s2.2.length:Nat):Int))),.val (.int .i64 0),.val (.int .i64 (-1)),.val (.int .i64 0),.val (.int .i64 (-1))]]) rfl) F λF=>?_
      exact zX (z:=Ns5 _ (g5+1) h zW)
     ·try dsimp only at h
      exact iR h
    ·try dsimp only at h
     exact iR h
  ·try dsimp only at h
   refine zV ?_;refine zL F h (0:Nat) [1,4,5] (λx=>[(10,.p (.val (.int .i64 x.1.1)))]) [4,2741] (λx H=>[(5,bx (H 5) [(1,.row 3144 x.2)]),(3144,.row x.2 170 7 (x.1.2.map aL))]) ?_ (hw:=by refine cU.trans (bT 5 1 3144 170 7 _ rfl rfl rfl (by decide)) ?_;exact zW);intro s7 g7 _ _ F Ns7 h;try dsimp only at h
   refine mH F h (λF h=>?_) λF h=>?_
   ·refine zB F h (λF h=>?_) λF h=>?_
    ·refine zE [(0,.p),(2,.q),(3,.q),(4,.q),(5,.q),(6,.q),(7,.q),(8,.q),(9,.q),(10,.q),(11,.q),(12,.q),(13,.q),(14,.q),(15,.q),(16,.q),(17,.q),(18,.q),(19,.q),(20,.q),(21,.q),(22,.q),(23,.p),(1,.q),(24,.w),(25,.q),(26,.w)] ?_;refine zC F h λF h=>?_
     refine zA dW F h λe8 F h=>?_
     refine zF (show (0:Int)<=0 by decide) F λF=>?_
     refine zF (show (0:Int)<((2:Nat):Int) by decide) F λF=>?_
     refine zC F h λF h=>?_
     refine zF (show (0:Int)<=1 by decide) F λF=>?_
     refine zF (show (1:Int)<((2:Nat):Int) by decide) F λF=>?_
     refine zC F h λF h=>?_
     refine zC F h λF h=>?_
     refine zF (eq_true (show (s7.2.length+1) * 64<=140737488355328 by omega)) F λF=>?_
     refine zF (bh aL s7.2 [(⟨((⟨#[101,102,103,104,105]⟩:ByteArray).extract s7.1.toNat (i64.wrap (s7.1+1)).toNat),((i64.wrap e8.x0).tmod ((s2.2.length:Nat):Int)),((i64.wrap e8.x1).tmod ((s2.2.length:Nat):Int)),0,(-1),0,(-1)⟩:lU)] (c:=[[.val (.string ((⟨#[101,102,103,104,105]⟩:ByteArray).extract s7.1.toNat (i64.wrap (s7.1+1)).toNat)),.val (.int .i64 ((i64.wrap e8.x0).tmod ((s2.2.length:Nat):Int))),.val (.int .i64 ((i64.wrap e8.x1).tmod ((s2.2.length:Nat):Int))),.val (.int .i64 0),.val (.int .i64 (-1)),.val (.int .i64 0),.val (.int .i64 (-1))]]) rfl) F λF=>?_
     exact zX (z:=Ns7 _ (g7+1) h zW)
    ·try dsimp only at h
     exact iR h
   ·try dsimp only at h
    exact iR h
end
noncomputable section
theorem c8(a0:List Int)(a1:Int)(r:Int)(h:bW a0 a1=some r):aS pw 83 [.aV (a0.map encI),.val (.int .i64 a1)] (λv=>v = .val (.int .i64 r)):=by
 refine aS.mV ?_;refine aQ [] func83 ?_;rw[ntmps83,results83];unfold bW at h;have F:=trivial;refine zV ?_;refine zN F h () [0,1] (λx=>[(5,.p (.val (.int .i64 ((x.1.1:Nat):Int))))]) [] (λx H=>[]) ?_ ?_
 ·intro i2 s2 g2 _ _ F mI h;try dsimp only at h
  refine zI encI F h λe3 F h=>?_
  refine zB F h (λF h=>?_) λF h=>?_
  ·exact zR h
  ·exact zX (z:=mI _ () h zW)
 ·intro i2 s2 g2 _ F h;try dsimp only at h
  exact zR h
theorem iP(a0:aO)(a1:aM)(r:aO×Bool)(h:cK a0 a1=some r):br pw 198 [.agg [.aV (a0.nodes.map ag),.aV (a0.au.map aj)],.agg (aH a1)] (λv=>v = .dQ [.agg [.row 75 3 (r.1.nodes.map ag),.p (.aV (r.1.au.map aj))],.p (.val (.bool r.2))]):=by
 refine br.tF ?_;refine bB [61,64,77] func198 ?_;rw[ntmps198,results198];unfold cK at h;have F:=trivial;refine zV ?_;refine zN F h (0:Nat) [2,3,4,6] (λx=>[(7,.p (.val (.bool x.1.2.2))),(8,.p (.val (.int .i64 ((x.1.1:Nat):Int))))]) [2,3,4] (λx H=>[(6,bx (H 6) [(0,.row 7030 x.2)]),(7030,.row x.2 75 3 (x.1.2.1.map ag))]) ?_ ?_ (hw:=by refine cU.trans (bT 6 0 7030 75 3 _ rfl rfl rfl (by decide)) ?_;exact zW)
 ·intro i2 s2 g2 _ _ F mI h;try dsimp only at h
  refine zI ag F h λe3 F h=>?_
  refine zD [.q,.q,.q,.q,.q,.q,.q,.q,.q,.q,.q,.q,.q,.q,.q,.q,.q,.q,.q,.q,.q,.q,.q,.q,.q,.q,.q,.q,.q,.q,.q,.q,.q,.q,.q,.q] ?_;refine zBd F h (λF h=>?_) λF h=>?_
  ·refine zBd F h (λF h=>?_) λF h=>?_
   ·refine zBd F h (λF h=>?_) λF h=>?_
    ·refine zA encI F h λe4 F h=>?_
     refine zBd F h (λF h=>?_) λF h=>?_
     ·refine l6 F h (λF h=>?_) λF h=>?_
      ·refine zC F h λF h=>?_
       refine zF (eq_true (show (s2.1.length+1) * 40<=140737488355328 by omega)) F λF=>?_
       refine zF (bh ag s2.1 [e3] (c:=[[.val (.int .i64 e3.id),.val (.int .i64 e3.type),.aV (e3.values.map encI)]]) rfl) F λF=>?_
       exact zX (z:=mI _ (g2+1) h zW)
      ·refine zC F h λF h=>?_
       refine zF (eq_true (show (e3.values.length) * 8<=140737488355328 by omega)) F λF=>?_
       refine zF (eq_true (eW (n:=1) (f:=encI) (λ_=>rfl) e3.values)) F λF=>?_
       refine zF (wE encI e3.values a1.attr.toNat a1.new (c:=[.val (.int .i64 a1.new)]) rfl) F λF=>?_
       refine zC F h λF h=>?_
       refine zF (eq_true (show (s2.1.length+1) * 40<=140737488355328 by omega)) F λF=>?_
       refine zF (bh ag s2.1 [(⟨e3.id,e3.type,(e3.values.set a1.attr.toNat a1.new)⟩:ah)] (c:=[[.val (.int .i64 e3.id),.val (.int .i64 e3.type),.aV ((e3.values.set a1.attr.toNat a1.new).map encI)]]) rfl) F λF=>?_
       exact zX (z:=mI _ (g2+1) h zW)
     ·refine zC F h λF h=>?_
      refine zF (eq_true (show (s2.1.length+1) * 40<=140737488355328 by omega)) F λF=>?_
      refine zF (bh ag s2.1 [e3] (c:=[[.val (.int .i64 e3.id),.val (.int .i64 e3.type),.aV (e3.values.map encI)]]) rfl) F λF=>?_
      exact zX (z:=mI _ (g2+1) h zW)
    ·refine zC F h λF h=>?_
     refine zF (eq_true (show (s2.1.length+1) * 40<=140737488355328 by omega)) F λF=>?_
     refine zF (bh ag s2.1 [e3] (c:=[[.val (.int .i64 e3.id),.val (.int .i64 e3.type),.aV (e3.values.map encI)]]) rfl) F λF=>?_
     exact zX (z:=mI _ (g2+1) h zW)
   ·refine zC F h λF h=>?_
    refine zF (eq_true (show (s2.1.length+1) * 40<=140737488355328 by omega)) F λF=>?_
    refine zF (bh ag s2.1 [e3] (c:=[[.val (.int .i64 e3.id),.val (.int .i64 e3.type),.aV (e3.values.map encI)]]) rfl) F λF=>?_
    exact zX (z:=mI _ (g2+1) h zW)
  ·refine zC F h λF h=>?_
   refine zF (eq_true (show (s2.1.length+1) * 40<=140737488355328 by omega)) F λF=>?_
   refine zF (bh ag s2.1 [e3] (c:=[[.val (.int .i64 e3.id),.val (.int .i64 e3.type),.aV (e3.values.map encI)]]) rfl) F λF=>?_
   exact zX (z:=mI _ (g2+1) h zW)
 ·intro i2 s2 g2 _ F h;try dsimp only at h
  exact iR h
theorem jP(a0:Int)(a1:Int)(a2:Int)(r:Int)(h:ee a0 a1 a2=some r):aS pw 257 [.val (.int .i64 a0),.val (.int .i64 a1),.val (.int .i64 a2)] (λv=>v = .val (.int .i64 r)):=by
 refine aS.mV ?_;refine aQ [] func257 ?_;rw[ntmps257,results257];unfold ee at h;have F:=trivial;refine zB F h (λF h=>?_) λF h=>?_
 ·exact zR h
 ·exact zR h
theorem zi(a0:List bJ)(a1:bJ)(r:Bool)(h:gr a0 a1=some r):aS pw 164 [.aV (a0.map bY),.agg (bY a1)] (λv=>v = .val (.bool r)):=by
 refine aS.mV ?_;refine aQ [] func164 ?_;rw[ntmps164,results164];unfold gr at h;have F:=trivial;refine zV ?_;refine zN F h () [0,3] (λx=>[(5,.p (.val (.int .i64 ((x.1.1:Nat):Int))))]) [3] (λx H=>[]) ?_ ?_
 ·intro i2 s2 g2 _ _ F mI h;try dsimp only at h
  refine zD [.q,.q,.q,.q,.q,.q] ?_;refine zI bY F h λe3 F h=>?_
  refine zB F h (λF h=>?_) λF h=>?_
  ·exact zR h
  ·exact zX (z:=mI _ () h zW)
 ·intro i2 s2 g2 _ F h;try dsimp only at h
  exact zR h
theorem abu(a0:ah)(a1:Int)(r:Bool)(h:kA a0 a1=some r):aS pw 239 [.agg (ag a0),.dU [.val (.int .i64 a1)] 0] (λv=>v = .val (.bool r)):=by refine aS.mV ?_;refine aQ [] func239 ?_;rw[ntmps239,results239];unfold kA at h;have F:=trivial;exact zR h
end
noncomputable section
theorem oM(a0:Int)(a1:Int)(r:(List Int))(h:fC a0 a1=some r):br pw 79 [.val (.int .i64 a0),.val (.int .i64 a1)] (λv=>v = .row 3 1 (r.map encI)):=by
 refine br.tF ?_;refine bB [17] func79 ?_;rw[ntmps79,results79];unfold fC at h;have F:=trivial;refine zV ?_;refine zO F h (0:Nat) [0,1] (λx=>[(5,.row 4980 x.2),(6,.p (.val (.int .i64 ((x.1.1:Nat):Int))))]) [] (λx H=>[(4980,.row x.2 3 1 (x.1.2.map encI))]) ?_ ?_ (hw:=by refine cU.trans (iF 5 4980 3 1 rfl rfl (by decide)) ?_;exact zW)
 ·intro i2 s2 g2 _ _ F mI h;try dsimp only at h
  refine zC F h λF h=>?_
  refine zF (eq_true (show (s2.length+1) * 8<=140737488355328 by omega)) F λF=>?_
  refine zF (bh encI s2 [(i64.wrap (a0+((i2:Nat):Int)))] (c:=[[.val (.int .i64 (i64.wrap (a0+((i2:Nat):Int))))]]) rfl) F λF=>?_
  exact zX (z:=mI _ (g2+1) h zW)
 ·intro i2 s2 g2 _ F h;try dsimp only at h
  exact iR h
theorem qA(a0:ax)(a1:Int)(r:ah)(h:gH a0 a1=some r):br pw 194 [.agg (aA a0),.val (.int .i64 a1)] (λv=>v = .agg [.p (.val (.int .i64 r.id)),.p (.val (.int .i64 r.type)),.row 3 1 (r.values.map encI)]):=by
 refine br.tF ?_;refine bB [17,24] func194 ?_;rw[ntmps194,results194];unfold gH at h;have F:=trivial;refine zE [(0,.b),(1,.b),(2,.b),(3,.b),(4,.b),(5,.b),(6,.b),(7,.b),(8,.b),(9,.b),(10,.b),(11,.b),(13,.q),(14,.q),(15,.q),(16,.q),(17,.q),(18,.q),(12,.w),(19,.s),(20,.q),(21,.w)] ?_;refine zA encI F h λe2 F h=>?_
 refine zA encI F h λe3 F h=>?_
 refine zA bI F h λe4 F h=>?_
 refine zC F h λF h=>?_
 refine zF (eq_true (show (e4.length) * 8<=140737488355328 by omega)) F λF=>?_
 refine zF (eq_true (eW (n:=1) (f:=encI) (λ_=>rfl) e4)) F λF=>?_
 exact iR h
theorem j0(a0:ax)(a1:Int)(r:ak)(h:dz a0 a1=some r):aS pw 195 [.agg (aA a0),.val (.int .i64 a1)] (λv=>v = .agg (aj r)):=by
 refine aS.mV ?_;refine aQ [] func195 ?_;rw[ntmps195,results195];unfold dz at h;have F:=trivial;refine zA aZ F h λe2 F h=>?_
 refine zD [.q,.q,.q,.q,.q,.q,.q,.q,.q,.q,.q,.q,.q,.q,.q,.q,.q,.q,.q,.q,.w] ?_;refine zA encI F h λe3 F h=>?_
 refine zA encI F h λe4 F h=>?_
 refine zA encI F h λe5 F h=>?_
 exact zR h
theorem lG(a0:aO)(a1:ak)(r:aO×Bool)(h:cD a0 a1=some r):aS pw 196 [.agg [.aV (a0.nodes.map ag),.aV (a0.au.map aj)],.agg (aj a1)] (λv=>v = .dQ [.agg [.aV (r.1.nodes.map ag),.aV (r.1.au.map aj)],.val (.bool r.2)]):=by
 refine aS.mV ?_;refine aQ [23,28] func196 ?_;rw[ntmps196,results196];unfold cD at h;have F:=trivial;refine zV ?_;refine zN F h () [2,3,4] (λx=>[(6,.p (.val (.int .i64 ((x.1.1:Nat):Int))))]) [2,3,4] (λx H=>[]) ?_ ?_
 ·intro i2 s2 g2 _ _ F mI h;try dsimp only at h
  have Ws2:=F.2.2;refine zD [.q,.q,.q,.q,.q,.q,.q] ?_;refine zI aj F h λe3 F h=>?_
  refine zB F h (λF h=>?_) λF h=>?_
  ·refine zE [(0,.b),(1,.b),(3,.q),(4,.q),(5,.q),(6,.q),(8,.b),(9,.b),(2,.w),(7,.s),(10,.q),(11,.q),(12,.q),(13,.w),(14,.q),(15,.w),(16,.q)] ?_;refine zC F h λF h=>?_
   refine zF (eq_true (eW (n:=4) (f:=aj) (λ_=>rfl) a0.au)) F λF=>?_
   refine zC F h λF h=>?_
   refine zF (eq_true (show ((a0.au.take i2).length) * 32<=140737488355328 by omega)) F λF=>?_
   refine zF (eq_true (eW (n:=4) (f:=aj) (λ_=>rfl) (a0.au.take i2))) F λF=>?_
   refine zC F h λF h=>?_
   have w:=F.2;simp only[Ws2,Int.toNat_natCast] at w;replace F:=And.intro F w;refine zF (eq_true (eW (n:=4) (f:=aj) (λ_=>rfl) a0.au)) F λF=>?_
   refine zC F h λF h=>?_
   have w:=F.2;simp only[Ws2,Int.toNat_natCast] at w;replace F:=And.intro F w;refine zF (eq_true (show ((a0.au.take i2).length+(a0.au.drop (i64.wrap (((i2:Nat):Int)+1)).toNat).length) * 32<=140737488355328 by omega)) F λF=>?_
   have w:=F.2;simp only[Ws2,Int.toNat_natCast] at w;replace F:=And.intro F w;refine zF (eq_true (eW (n:=4) (f:=aj) (λ_=>rfl) (a0.au.drop (i64.wrap (((i2:Nat):Int)+1)).toNat))) F λF=>?_
   have w:=F.2;simp only[Ws2,Int.toNat_natCast] at w;replace F:=And.intro F w;exact zR h
  ·exact zX (z:=mI _ () h zW)
 ·intro i2 s2 g2 _ F h;try dsimp only at h
  exact zR h
theorem mh(a0:List ak)(r:Bool)(h:dS a0=some r):aS pw 192 [.aV (a0.map aj)] (λv=>v = .val (.bool r)):=by
 refine aS.mV ?_;refine aQ [] func192 ?_;rw[ntmps192,results192];unfold dS at h;have F:=trivial;refine zV ?_;refine zN F h () [0] (λx=>[(3,.p (.val (.int .i64 ((x.1.1:Nat):Int))))]) [] (λx H=>[]) ?_ ?_
 ·intro i1 s1 g1 _ _ F Ns1 h;try dsimp only at h
  refine zD [.q,.q,.q,.q,.q,.q,.q,.q,.q,.q,.q,.q] ?_;refine zI aj F h λe2 F h=>?_
  refine zA aj F h λe3 F h=>?_
  refine zB F h (λF h=>?_) λF h=>?_
  ·exact zR h
  ·exact zX (z:=Ns1 _ () h zW)
 ·intro i1 s1 g1 _ F h;try dsimp only at h
  exact zR h
theorem ajy(a0:Types)(a1:Host)(r:Int)(h:qy a0 a1=some r):aS pw 263 [.agg [.aV (a0.nodes.map aJ),.aV (a0.au.map aL)],.agg (nj a1)] (λv=>v = .val (.int .i64 r)):=by
 refine aS.mV ?_;refine aQ [] func263 ?_;rw[ntmps263,results263];unfold qy at h;have F:=trivial;refine zK F h (acf _ _) λr2 h=>?_
 exact zR h
end
noncomputable section
theorem mj(a0:List ah)(r:Bool)(h:dR a0=some r):aS pw 191 [.aV (a0.map ag)] (λv=>v = .val (.bool r)):=by
 refine aS.mV ?_;refine aQ [] func191 ?_;rw[ntmps191,results191];unfold dR at h;have F:=trivial;refine zV ?_;refine zN F h () [0] (λx=>[(3,.p (.val (.int .i64 ((x.1.1:Nat):Int))))]) [] (λx H=>[]) ?_ ?_
 ·intro i1 s1 g1 _ _ F Ns1 h;try dsimp only at h
  refine zD [.q,.q,.q,.q,.q,.q,.q,.q,.q,.q,.q,.q] ?_;refine zI ag F h λe2 F h=>?_
  refine zA ag F h λe3 F h=>?_
  refine zB F h (λF h=>?_) λF h=>?_
  ·exact zR h
  ·exact zX (z:=Ns1 _ () h zW)
 ·intro i1 s1 g1 _ F h;try dsimp only at h
  exact zR h
theorem qN(a0:List aM)(r:Bool)(h:eT a0=some r):aS pw 193 [.aV (a0.map aH)] (λv=>v = .val (.bool r)):=by
 refine aS.mV ?_;refine aQ [] func193 ?_;rw[ntmps193,results193];unfold eT at h;have F:=trivial;refine zV ?_;refine zN F h () [0] (λx=>[(3,.p (.val (.int .i64 ((x.1.1:Nat):Int))))]) [] (λx H=>[]) ?_ ?_
 ·intro i1 s1 g1 _ _ F Ns1 h;try dsimp only at h
  refine zD [.q,.q,.q,.q,.q,.q,.q,.q,.q,.q,.q,.q,.q,.q,.q,.q,.q,.q,.q,.q,.q,.q,.q,.q,.q,.q,.q,.q,.q,.q,.q,.q,.q,.q,.q,.q,.q,.q,.q,.q] ?_;refine zI aH F h λe2 F h=>?_
  refine zA aH F h λe3 F h=>?_
  refine amg F h (λF h=>?_) λF h=>?_
  ·exact zR h
  ·refine zBd F h (λF h=>?_) λF h=>?_
   ·refine zB F h (λF h=>?_) λF h=>?_
    ·exact zR h
    ·exact zX (z:=Ns1 _ () h zW)
   ·exact zX (z:=Ns1 _ () h zW)
 ·intro i1 s1 g1 _ F h;try dsimp only at h
  exact zR h
theorem p6(a0:aG)(r:Bool)(h:gf a0=some r):aS pw 156 [.agg (aC a0)] (λv=>v = .val (.bool r)):=by
 refine aS.mV ?_;refine aQ [] func156 ?_;rw[ntmps156,results156];unfold gf at h;have F:=trivial;refine zV ?_;refine zN F h () [1] (λx=>[(3,.p (.val (.int .i64 ((x.1.1:Nat):Int))))]) [1] (λx H=>[]) ?_ ?_
 ·intro i1 s1 g1 _ _ F Ns1 h;try dsimp only at h
  refine zD [.q,.q,.q,.q,.q,.q,.q,.q,.q,.q] ?_;refine zI ag F h λe2 F h=>?_
  refine zF (show (0:Int)<=0 by decide) F λF=>?_
  refine zF (show (0:Int)<((2:Nat):Int) by decide) F λF=>?_
  refine zB F h (λF h=>?_) λF h=>?_
  ·exact zR h
  ·exact zX (z:=Ns1 _ () h zW)
 ·intro i1 s1 g1 _ F h;try dsimp only at h
  refine zV ?_;refine zN F h () [1] (λx=>[(4,.p (.val (.int .i64 ((x.1.1:Nat):Int))))]) [1] (λx H=>[]) ?_ ?_
  ·intro i3 s3 g3 _ _ F wV h;try dsimp only at h
   refine zD [.q,.q,.q,.q,.q,.q,.q,.q,.q,.q] ?_;refine zI aj F h λe4 F h=>?_
   refine zF (show (0:Int)<=0 by decide) F λF=>?_
   refine zF (show (0:Int)<((2:Nat):Int) by decide) F λF=>?_
   refine zB F h (λF h=>?_) λF h=>?_
   ·exact zR h
   ·exact zX (z:=wV _ () h zW)
  ·intro i3 s3 g3 _ F h;try dsimp only at h
   refine zF (show (0:Int)<=1 by decide) F λF=>?_
   refine zF (show (1:Int)<((2:Nat):Int) by decide) F λF=>?_
   refine zF (show (0:Int)<=0 by decide) F λF=>?_
   refine zF (show (0:Int)<((2:Nat):Int) by decide) F λF=>?_
   exact zR h
theorem pM(a0:Types)(a1:ax)(a2:aG)(r:ax×Int)(h:eY a0 a1 a2=some r):aS pw 40 [.agg [.aV (a0.nodes.map aJ),.aV (a0.au.map aL)],.agg (aA a1),.agg (aC a2)] (λv=>v = .dQ [.agg (aA r.1),.val (.int .i64 r.2)]):=by
 refine aS.mV ?_;refine aQ [] func40 ?_;rw[ntmps40,results40];unfold eY at h;have F:=trivial;refine zK F h (pK _ _) λr3 h=>?_
 refine l6 F h (λF h=>?_) λF h=>?_
 ·refine zK F h (adk _ _ _) λr4 h=>?_
  exact zR h
 ·exact zR h
theorem nW(a0:Int)(a1:aG)(a2:Int)(r:Int)(h:gY a0 a1 a2=some r):aS pw 185 [.val (.int .i64 a0),.dU (aC a1) 0,.dU [.val (.int .i64 a2)] 0] (λv=>v = .val (.int .i64 r)):=by
 refine aS.mV ?_;refine aQ [] func185 ?_;rw[ntmps185,results185];unfold gY at h;have F:=trivial;refine zF (show (0:Int)<=0 by decide) F λF=>?_
 refine zF (show (0:Int)<((2:Nat):Int) by decide) F λF=>?_
 refine zB F h (λF h=>?_) λF h=>?_
 ·exact zR h
 ·exact zR h
theorem vS(a0:List aI)(a1:List aI)(r:Bool)(h:ir a0 a1=some r):aS pw 15 [.aV (a0.map aB),.aV (a1.map aB)] (λv=>v = .val (.bool r)):=by
 refine aS.mV ?_;refine aQ [] func15 ?_;rw[ntmps15,results15];unfold ir at h;have F:=trivial;refine l6 F h (λF h=>?_) λF h=>?_
 ·refine zV ?_;refine zN F h () [0,1,12] (λx=>[(13,.p (.val (.int .i64 ((x.1.1:Nat):Int))))]) [] (λx H=>[]) ?_ ?_
  ·intro i2 s2 g2 _ _ F mI h;try dsimp only at h
   refine zD [.q,.q,.q,.q,.q,.q,.q,.q,.q] ?_;refine zI aB F h λe3 F h=>?_
   refine zI aB F h λe4 F h=>?_
   refine l6 F h (λF h=>?_) λF h=>?_
   ·exact zX (z:=mI _ () h zW)
   ·exact zR h
  ·intro i2 s2 g2 _ F h;try dsimp only at h
   exact zR h
 ·exact zR h
end
noncomputable section
theorem jd(a0:List Int)(a1:List Int)(r:Bool)(h:dA a0 a1=some r):aS pw 60 [.aV (a0.map encI),.aV (a1.map encI)] (λv=>v = .val (.bool r)):=by
 refine aS.mV ?_;refine aQ [] func60 ?_;rw[ntmps60,results60];unfold dA at h;have F:=trivial;refine l6 F h (λF h=>?_) λF h=>?_
 ·refine zV ?_;refine zN F h () [0,1] (λx=>[(5,.p (.val (.int .i64 ((x.1.1:Nat):Int))))]) [] (λx H=>[]) ?_ ?_
  ·intro i2 s2 g2 _ _ F mI h;try dsimp only at h
   refine zD [.q,.q,.q,.q,.q,.q,.q,.q,.q] ?_;refine zI encI F h λe3 F h=>?_
   refine zI encI F h λe4 F h=>?_
   refine l6 F h (λF h=>?_) λF h=>?_
   ·exact zX (z:=mI _ () h zW)
   ·exact zR h
  ·intro i2 s2 g2 _ F h;try dsimp only at h
   exact zR h
 ·exact zR h
theorem eu(a0:aG)(a1:Int)(r:Bool)(h:bE a0 a1=some r):aS pw 157 [.agg (aC a0),.val (.int .i64 a1)] (λv=>v = .val (.bool r)):=by
 refine aS.mV ?_;refine aQ [] func157 ?_;rw[ntmps157,results157];unfold bE at h;have F:=trivial;refine zV ?_;refine zN F h () [1,2] (λx=>[(5,.p (.val (.int .i64 ((x.1.1:Nat):Int))))]) [2] (λx H=>[]) ?_ ?_
 ·intro i2 s2 g2 _ _ F mI h;try dsimp only at h
  refine zI ag F h λe3 F h=>?_
  refine zB F h (λF h=>?_) λF h=>?_
  ·exact zR h
  ·exact zX (z:=mI _ () h zW)
 ·intro i2 s2 g2 _ F h;try dsimp only at h
  exact zR h
theorem p7(a0:eS)(a1:Int)(a2:Int)(a3:Bool)(r:Int)(h:fk a0 a1 a2 a3=some r):aS pw 301 [.agg [.aV (a0.nodes.map encI),.aV (a0.au.map aZ)],.val (.int .i64 a1),.val (.int .i64 a2),.val (.bool a3)] (λv=>v = .val (.int .i64 r)):=by
 refine aS.mV ?_;refine aQ [] func301 ?_;rw[ntmps301,results301];unfold fk at h;have F:=trivial;refine zV ?_;refine zN F h () [1,2,3,4] (λx=>[(9,.p (.val (.int .i64 x.1.2))),(10,.p (.val (.int .i64 ((x.1.1:Nat):Int))))]) [4] (λx H=>[]) ?_ ?_
 ·intro i4 s4 g4 _ _ F Ns4 h;try dsimp only at h
  refine zI aZ F h λe5 F h=>?_
  refine mH F h (λF h=>?_) λF h=>?_
  ·refine mH F h (λF h=>?_) λF h=>?_
   ·refine rG F h (λF h=>?_) λF h=>?_
    ·exact zX (z:=Ns4 _ () h zW)
    ·exact zX (z:=Ns4 _ () h zW)
   ·refine zB F h (λF h=>?_) λF h=>?_
    ·exact zX (z:=Ns4 _ () h zW)
    ·exact zX (z:=Ns4 _ () h zW)
  ·exact zX (z:=Ns4 _ () h zW)
 ·intro i4 s4 g4 _ F h;try dsimp only at h
  exact zR h
theorem aei(a0:ah)(a1:aG)(r:Bool)(h:nq a0 a1=some r):aS pw 166 [.agg (ag a0),.dU (aC a1) 0] (λv=>v = .val (.bool r)):=by
 refine aS.mV ?_;refine aQ [] func166 ?_;rw[ntmps166,results166];unfold nq at h;have F:=trivial;refine zF (show (0:Int)<=0 by decide) F λF=>?_
 refine zF (show (0:Int)<((2:Nat):Int) by decide) F λF=>?_
 exact zR h
theorem sQ(a0:List (List bn))(r:(List bn))(h:fR a0=some r):br pw 106 [.aV (a0.map iH)] (λv=>v = .row 188 3 (r.map ct)):=by
 refine br.tF ?_;refine bB [] func106 ?_;rw[ntmps106,results106];unfold fR at h;have F:=trivial;refine zV ?_;refine zN F h () [0,9,10] (λx=>[(3,.p (.val (.int .i64 x.1.2))),(11,.p (.val (.int .i64 ((x.1.1:Nat):Int))))]) [] (λx H=>[]) ?_ ?_
 ·intro i1 s1 g1 _ _ F Ns1 h;try dsimp only at h
  refine zI iH F h λe2 F h=>?_
  refine zB F h (λF h=>?_) λF h=>?_
  ·cases h
  ·exact zX (z:=Ns1 _ () h zW)
 ·intro i1 s1 g1 _ F h;try dsimp only at h
  refine zG 1384 F h (uB _ _) λr3 h=>?_
  refine zV ?_;refine zN F h (0:Nat) [25,26] (λx=>[(6,.row 1384 x.2),(27,.p (.val (.int .i64 ((x.1.1:Nat):Int))))]) [] (λx H=>[(1384,.row x.2 188 3 (x.1.2.map ct))]) ?_ ?_
  ·intro i4 s4 g4 _ _ F Ns4 h;try dsimp only at h
   refine zI iH F h λe5 F h=>?_
   refine zC F h λF h=>?_
   refine zF (eq_true (show (s4.length+e5.length) * 24<=140737488355328 by omega)) F λF=>?_
   refine zF (eq_true (eW (n:=3) (f:=ct) (λ_=>rfl) e5)) F λF=>?_
   exact zX (z:=Ns4 _ (g4+1) h zW)
  ·intro i4 s4 g4 _ F h;try dsimp only at h
   exact iR h
theorem abv(a0:ak)(a1:Int)(r:Bool)(h:kB a0 a1=some r):aS pw 241 [.agg (aj a0),.dU [.val (.int .i64 a1)] 0] (λv=>v = .val (.bool r)):=by refine aS.mV ?_;refine aQ [] func241 ?_;rw[ntmps241,results241];unfold kB at h;have F:=trivial;exact zR h
theorem nX(a0:List ak)(a1:List ak)(r:Bool)(h:eP a0 a1=some r):aS pw 62 [.aV (a0.map aj),.aV (a1.map aj)] (λv=>v = .val (.bool r)):=by
 refine aS.mV ?_;refine aQ [] func62 ?_;rw[ntmps62,results62];unfold eP at h;have F:=trivial;refine l6 F h (λF h=>?_) λF h=>?_
 ·refine zV ?_;refine zN F h () [0,1] (λx=>[(5,.p (.val (.int .i64 ((x.1.1:Nat):Int))))]) [] (λx H=>[]) ?_ ?_
  ·intro i2 s2 g2 _ _ F mI h;try dsimp only at h
   refine zD [.q,.q,.q,.q,.q,.q,.q,.q,.q] ?_;refine zI aj F h λe3 F h=>?_
   refine zI aj F h λe4 F h=>?_
   refine l6 F h (λF h=>?_) λF h=>?_
   ·exact zX (z:=mI _ () h zW)
   ·exact zR h
  ·intro i2 s2 g2 _ F h;try dsimp only at h
   exact zR h
 ·exact zR h
end
noncomputable section
theorem uF(a0:Types)(r:(List Int))(h:gm a0=some r):br pw 92 [.agg [.aV (a0.nodes.map aJ),.aV (a0.au.map aL)]] (λv=>v = .row 3 1 (r.map encI)):=by
 refine br.tF ?_;refine bB [22] func92 ?_;rw[ntmps92,results92];unfold gm at h;have F:=trivial;refine zV ?_;refine zN F h (0:Nat) [1] (λx=>[(3,.row 3340 x.2),(4,.p (.val (.int .i64 ((x.1.1:Nat):Int))))]) [1] (λx H=>[(3340,.row x.2 3 1 (x.1.2.map encI))]) ?_ ?_ (hw:=by refine cU.trans (iF 3 3340 3 1 rfl rfl (by decide)) ?_;exact zW)
 ·intro i1 s1 g1 _ _ F Ns1 h;try dsimp only at h
  refine zI aJ F h λe2 F h=>?_
  refine l6 F h (λF h=>?_) λF h=>?_
  ·exact zX (z:=Ns1 _ g1 h zW)
  ·refine zC F h λF h=>?_
   refine zF (eq_true (show (s1.length+1) * 8<=140737488355328 by omega)) F λF=>?_
   refine zF (bh encI s1 [((i1:Nat):Int)] (c:=[[.val (.int .i64 ((i1:Nat):Int))]]) rfl) F λF=>?_
   exact zX (z:=Ns1 _ (g1+1) h zW)
 ·intro i1 s1 g1 _ F h;try dsimp only at h
  exact iR h
theorem xx(a0:aG)(a1:Int)(r:Bool)(h:iZ a0 a1=some r):aS pw 256 [.agg (aC a0),.val (.int .i64 a1)] (λv=>v = .val (.bool r)):=by
 refine aS.mV ?_;refine aQ [] func256 ?_;rw[ntmps256,results256];unfold iZ at h;have F:=trivial;refine zV ?_;refine zN F h () [1,2] (λx=>[(5,.p (.val (.int .i64 ((x.1.1:Nat):Int))))]) [2] (λx H=>[]) ?_ ?_
 ·intro i2 s2 g2 _ _ F mI h;try dsimp only at h
  refine zI aj F h λe3 F h=>?_
  refine zB F h (λF h=>?_) λF h=>?_
  ·exact zR h
  ·exact zX (z:=mI _ () h zW)
 ·intro i2 s2 g2 _ F h;try dsimp only at h
  exact zR h
theorem nu(a0:List ak)(p1:ak->Option Bool)(k1:FuncId)(fs1 cs1:List PV)(hp1:∀x0 r,p1 x0=some r->aS pw k1 (fs1++[.agg (aj x0)]++cs1) (λv=>v = .val (.bool r)))(r:Int)(h:eB a0 p1=some r):aS pw 240 [.aV (a0.map aj),.iw (.func k1) fs1 cs1] (λv=>v = .val (.int .i64 r)):=by
 refine aS.mV ?_;refine aQ [] func240 ?_;rw[ntmps240,results240];unfold eB at h;have F:=trivial;refine zV ?_;refine zN F h () [0,1,7] (λx=>[(8,.p (.val (.int .i64 ((x.1.1:Nat):Int))))]) [] (λx H=>[]) ?_ ?_
 ·intro i2 s2 g2 _ _ F mI h;try dsimp only at h
  refine zI aj F h λe3 F h=>?_
  refine zP F h (hp1 _) λr4 h=>?_
  refine zB F h (λF h=>?_) λF h=>?_
  ·exact zR h
  ·exact zX (z:=mI _ () h zW)
 ·intro i2 s2 g2 _ F h;try dsimp only at h
  exact zR h
theorem uX(a0:List (List aI))(r:(List aI))(h:gR a0=some r):br pw 101 [.aV (a0.map jG)] (λv=>v = .row 57 3 (r.map aB)):=by
 refine br.tF ?_;refine bB [] func101 ?_;rw[ntmps101,results101];unfold gR at h;have F:=trivial;refine zV ?_;refine zN F h () [0,9,10] (λx=>[(3,.p (.val (.int .i64 x.1.2))),(11,.p (.val (.int .i64 ((x.1.1:Nat):Int))))]) [] (λx H=>[]) ?_ ?_
 ·intro i1 s1 g1 _ _ F Ns1 h;try dsimp only at h
  refine zI jG F h λe2 F h=>?_
  refine zB F h (λF h=>?_) λF h=>?_
  ·cases h
  ·exact zX (z:=Ns1 _ () h zW)
 ·intro i1 s1 g1 _ F h;try dsimp only at h
  refine zG 1384 F h (wG _ _) λr3 h=>?_
  refine zV ?_;refine zN F h (0:Nat) [25,26] (λx=>[(6,.row 1384 x.2),(27,.p (.val (.int .i64 ((x.1.1:Nat):Int))))]) [] (λx H=>[(1384,.row x.2 57 3 (x.1.2.map aB))]) ?_ ?_
  ·intro i4 s4 g4 _ _ F Ns4 h;try dsimp only at h
   refine zI jG F h λe5 F h=>?_
   refine zC F h λF h=>?_
   refine zF (eq_true (show (s4.length+e5.length) * 24<=140737488355328 by omega)) F λF=>?_
   refine zF (eq_true (eW (n:=3) (f:=aB) (λ_=>rfl) e5)) F λF=>?_
   exact zX (z:=Ns4 _ (g4+1) h zW)
  ·intro i4 s4 g4 _ F h;try dsimp only at h
   exact iR h
theorem apF(a0:Types)(a1:Int)(a2:Int)(r:Bool)(h:uE a0 a1 a2=some r):aS pw 312 [.agg [.aV (a0.nodes.map aJ),.aV (a0.au.map aL)],.val (.int .i64 a1),.val (.int .i64 a2)] (λv=>v = .val (.bool r)):=by
 refine aS.mV ?_;refine aQ [] func312 ?_;rw[ntmps312,results312];unfold uE at h;have F:=trivial;refine zK F h (agS _ _) λr3 h=>?_
 refine mH F h (λF h=>?_) λF h=>?_
 ·refine zK F h (apa _ _ _) λr4 h=>?_
  exact zR h
 ·exact zR h
theorem uG(a0:List Int)(a1:List Int)(r:Bool)(h:gx a0 a1=some r):aS pw 49 [.aV (a0.map encI),.aV (a1.map encI)] (λv=>v = .val (.bool r)):=by
 refine aS.mV ?_;refine aQ [] func49 ?_;rw[ntmps49,results49];unfold gx at h;have F:=trivial;refine l6 F h (λF h=>?_) λF h=>?_
 ·refine zV ?_;refine zN F h () [0,1,12] (λx=>[(13,.p (.val (.int .i64 ((x.1.1:Nat):Int))))]) [] (λx H=>[]) ?_ ?_
  ·intro i2 s2 g2 _ _ F mI h;try dsimp only at h
   refine zD [.q,.q,.q,.q,.q,.q,.q,.q,.q] ?_;refine zI encI F h λe3 F h=>?_
   refine zI encI F h λe4 F h=>?_
   refine l6 F h (λF h=>?_) λF h=>?_
   ·exact zX (z:=mI _ () h zW)
   ·exact zR h
  ·intro i2 s2 g2 _ F h;try dsimp only at h
   exact zR h
 ·exact zR h
end
noncomputable section
theorem qV(a0:List Int)(a1:Int)(r:Int)(h:gZ a0 a1=some r):aS pw 82 [.aV (a0.map encI),.val (.int .i64 a1)] (λv=>v = .val (.int .i64 r)):=by
 refine aS.mV ?_;refine aQ [] func82 ?_;rw[ntmps82,results82];unfold gZ at h;have F:=trivial;refine zV ?_;refine zN F h () [0,1] (λx=>[(5,.p (.val (.int .i64 ((x.1.1:Nat):Int))))]) [] (λx H=>[]) ?_ ?_
 ·intro i2 s2 g2 _ _ F mI h;try dsimp only at h
  refine zI encI F h λe3 F h=>?_
  refine rG F h (λF h=>?_) λF h=>?_
  ·exact zR h
  ·refine zB F h (λF h=>?_) λF h=>?_
   ·exact zR h
   ·refine zD [.q,.q,.q,.q,.q,.q,.q,.q,.q,.q,.q,.q,.q,.q] ?_;refine zBd F h (λF h=>?_) λF h=>?_
    ·refine zA encI F h λe4 F h=>?_
     refine zB F h (λF h=>?_) λF h=>?_
     ·exact zR h
     ·exact zX (z:=mI _ () h zW)
    ·exact zX (z:=mI _ () h zW)
 ·intro i2 s2 g2 _ F h;try dsimp only at h
  exact zR h
theorem jQ(a0:aG)(a1:Int)(a2:Int)(r:aM×Bool)(h:b9 a0 a1 a2=some r):aS pw 159 [.agg (aC a0),.val (.int .i64 a1),.val (.int .i64 a2)] (λv=>v = .dQ [.agg (aH r.1),.val (.bool r.2)]):=by
 refine aS.mV ?_;refine aQ [] func159 ?_;rw[ntmps159,results159];unfold b9 at h;have F:=trivial;refine zV ?_;refine zN F h () [1,2,3,6] (λx=>[(8,.p (.val (.int .i64 ((x.1.1:Nat):Int))))]) [3,6] (λx H=>[]) ?_ ?_
 ·intro i3 s3 g3 _ _ F wV h;try dsimp only at h
  refine zI aH F h λe4 F h=>?_
  refine mH F h (λF h=>?_) λF h=>?_
  ·refine zB F h (λF h=>?_) λF h=>?_
   ·exact zR h
   ·exact zX (z:=wV _ () h zW)
  ·exact zX (z:=wV _ () h zW)
 ·intro i3 s3 g3 _ F h;try dsimp only at h
  exact zR h
theorem aej(a0:ak)(a1:aG)(r:Bool)(h:nr a0 a1=some r):aS pw 168 [.agg (aj a0),.dU (aC a1) 0] (λv=>v = .val (.bool r)):=by
 refine aS.mV ?_;refine aQ [] func168 ?_;rw[ntmps168,results168];unfold nr at h;have F:=trivial;refine zF (show (0:Int)<=0 by decide) F λF=>?_
 refine zF (show (0:Int)<((2:Nat):Int) by decide) F λF=>?_
 exact zR h
theorem acq(a0:ah)(a1:Int)(r:Bool)(h:kW a0 a1=some r):aS pw 169 [.agg (ag a0),.dU [.val (.int .i64 a1)] 0] (λv=>v = .val (.bool r)):=by refine aS.mV ?_;refine aQ [] func169 ?_;rw[ntmps169,results169];unfold kW at h;have F:=trivial;exact zR h
theorem tI(a0:List bn)(a1:bn)(r:Int)(h:gb a0 a1=some r):aS pw 188 [.aV (a0.map ct),.agg (ct a1)] (λv=>v = .val (.int .i64 r)):=by
 refine aS.mV ?_;refine aQ [] func188 ?_;rw[ntmps188,results188];unfold gb at h;have F:=trivial;refine zV ?_;refine zN F h () [0,3,7] (λx=>[(8,.p (.val (.int .i64 ((x.1.1:Nat):Int))))]) [3] (λx H=>[]) ?_ ?_
 ·intro i2 s2 g2 _ _ F mI h;try dsimp only at h
  refine zD [.q,.q,.q,.q,.q,.q] ?_;refine zI ct F h λe3 F h=>?_
  refine zB F h (λF h=>?_) λF h=>?_
  ·exact zR h
  ·exact zX (z:=mI _ () h zW)
 ·intro i2 s2 g2 _ F h;try dsimp only at h
  exact zR h
theorem x6(a0:ax)(r:(List ah))(h:kO a0=some r):br pw 140 [.agg (aA a0)] (λv=>v = .row 75 3 (r.map ag)):=by
 refine br.tF ?_;refine bB [32] func140 ?_;rw[ntmps140,results140];unfold kO at h;have F:=trivial;refine zV ?_;refine zN F h (0:Nat) [1,7,8] (λx=>[(3,.row 13955 x.2),(9,.p (.val (.int .i64 ((x.1.1:Nat):Int))))]) [1] (λx H=>[(13955,.row x.2 75 3 (x.1.2.map ag))]) ?_ ?_ (hw:=by refine cU.trans (iF 3 13955 75 3 rfl rfl (by decide)) ?_;exact zW)
 ·intro i1 s1 g1 _ _ F Ns1 h;try dsimp only at h
  refine zI encI F h λe2 F h=>?_
  refine zD [.p,.q,.q,.q,.q,.q,.q,.q,.q,.q,.q,.q,.q,.q,.q,.q,.q,.p,.w,.q] ?_;refine zI encI F h λe3 F h=>?_
  refine zI bI F h λe4 F h=>?_
  refine zTd F h (uA _) λr5 h=>?_
  refine zC F h λF h=>?_
  refine zF (eq_true (show (s1.length+1) * 40<=140737488355328 by omega)) F λF=>?_
  refine zF (bh ag s1 [(⟨e2,e3,r5⟩:ah)] (c:=[[.val (.int .i64 e2),.val (.int .i64 e3),.aV (r5.map encI)]]) rfl) F λF=>?_
  exact zX (z:=Ns1 _ (g1+1) h zW)
 ·intro i1 s1 g1 _ F h;try dsimp only at h
  exact iR h
end
noncomputable section
theorem nY(a0:aO)(a1:Int)(r:Bool)(h:eM a0 a1=some r):aS pw 199 [.agg [.aV (a0.nodes.map ag),.aV (a0.au.map aj)],.val (.int .i64 a1)] (λv=>v = .val (.bool r)):=by
 refine aS.mV ?_;refine aQ [] func199 ?_;rw[ntmps199,results199];unfold eM at h;have F:=trivial;refine zV ?_;refine zN F h () [1,2] (λx=>[(5,.p (.val (.int .i64 ((x.1.1:Nat):Int))))]) [2] (λx H=>[]) ?_ ?_
 ·intro i2 s2 g2 _ _ F mI h;try dsimp only at h
  refine zI ag F h λe3 F h=>?_
  refine zB F h (λF h=>?_) λF h=>?_
  ·exact zR h
  ·exact zX (z:=mI _ () h zW)
 ·intro i2 s2 g2 _ F h;try dsimp only at h
  refine zV ?_;refine zN F h () [1,2] (λx=>[(6,.p (.val (.int .i64 ((x.1.1:Nat):Int))))]) [2] (λx H=>[]) ?_ ?_
  ·intro i4 s4 g4 _ _ F Ns4 h;try dsimp only at h
   refine zI aj F h λe5 F h=>?_
   refine zB F h (λF h=>?_) λF h=>?_
   ·exact zR h
   ·exact zX (z:=Ns4 _ () h zW)
  ·intro i4 s4 g4 _ F h;try dsimp only at h
   exact zR h
theorem mZ(a0:aG)(a1:Int)(r:Bool)(h:fI a0 a1=some r):aS pw 158 [.agg (aC a0),.val (.int .i64 a1)] (λv=>v = .val (.bool r)):=by
 refine aS.mV ?_;refine aQ [] func158 ?_;rw[ntmps158,results158];unfold fI at h;have F:=trivial;refine zV ?_;refine zN F h () [1,2] (λx=>[(5,.p (.val (.int .i64 ((x.1.1:Nat):Int))))]) [2] (λx H=>[]) ?_ ?_
 ·intro i2 s2 g2 _ _ F mI h;try dsimp only at h
  refine zI aj F h λe3 F h=>?_
  refine rG F h (λF h=>?_) λF h=>?_
  ·exact zR h
  ·refine zB F h (λF h=>?_) λF h=>?_
   ·exact zR h
   ·exact zX (z:=mI _ () h zW)
 ·intro i2 s2 g2 _ F h;try dsimp only at h
  exact zR h
theorem mP(a0:List ah)(r:(List ah))(h:dZ a0=some r):br pw 87 [.aV (a0.map ag)] (λv=>v = .row 75 3 (r.map ag)):=by
 refine br.tF ?_;refine bB [24] func87 ?_;rw[ntmps87,results87];unfold dZ at h;have F:=trivial;refine zV ?_;refine zN F h (0:Nat) [0] (λx=>[(3,.row 9778 x.2),(4,.p (.val (.int .i64 ((x.1.1:Nat):Int))))]) [] (λx H=>[(9778,.row x.2 75 3 (x.1.2.map ag))]) ?_ ?_ (hw:=by refine cU.trans (iF 3 9778 75 3 rfl rfl (by decide)) ?_;exact zW)
 ·intro i1 s1 g1 _ _ F Ns1 h;try dsimp only at h
  refine zI ag F h λe2 F h=>?_
  refine zC F h λF h=>?_
  refine zF (eq_true (show (e2.values.length) * 8<=140737488355328 by omega)) F λF=>?_
  refine zF (eq_true (eW (n:=1) (f:=encI) (λ_=>rfl) e2.values)) F λF=>?_
  refine zC F h λF h=>?_
  refine zF (eq_true (show (s1.length+1) * 40<=140737488355328 by omega)) F λF=>?_
  refine zF (bh ag s1 [e2] (c:=[[.val (.int .i64 e2.id),.val (.int .i64 e2.type),.aV (e2.values.map encI)]]) rfl) F λF=>?_
  exact zX (z:=Ns1 _ (g1+1) h zW)
 ·intro i1 s1 g1 _ F h;try dsimp only at h
  exact iR h
theorem uY  (r:Types)(h:gQ  = some r):br pw 47 [] (λv=>v = .agg [.row 165 4 (r.nodes.map aJ),.row 170 7 (r.au.map aL)]):=by refine br.tF ?_;refine bB [10,13] func47 ?_;rw[ntmps47,results47];unfold gQ at h;have F:=trivial;exact iR h
theorem qB  (r:ax)(h:gK  = some r):br pw 48 [] (λv=>v = .agg [.row 3 1 (r.host.graph.nodes.map encI),.row 175 3 (r.host.graph.au.map aZ),.row 32 1 (r.host.values.map bI),.row 3 1 (r.nodes.map encI),.row 3 1 (r.au.map encI),.p (.val (.int .i64 r.next))]):=by refine br.tF ?_;refine bB [1,4,8,10,11] func48 ?_;rw[ntmps48,results48];unfold gK at h;have F:=trivial;exact iR h
theorem nv(a0:List ah)(p1:ah->Option Bool)(k1:FuncId)(fs1 cs1:List PV)(hp1:∀x0 r,p1 x0=some r->aS pw k1 (fs1++[.agg (ag x0)]++cs1) (λv=>v = .val (.bool r)))(r:Int)(h:eA a0 p1=some r):aS pw 238 [.aV (a0.map ag),.iw (.func k1) fs1 cs1] (λv=>v = .val (.int .i64 r)):=by
 refine aS.mV ?_;refine aQ [] func238 ?_;rw[ntmps238,results238];unfold eA at h;have F:=trivial;refine zV ?_;refine zN F h () [0,1,7] (λx=>[(8,.p (.val (.int .i64 ((x.1.1:Nat):Int))))]) [] (λx H=>[]) ?_ ?_
 ·intro i2 s2 g2 _ _ F mI h;try dsimp only at h
  refine zI ag F h λe3 F h=>?_
  refine zP F h (hp1 _) λr4 h=>?_
  refine zB F h (λF h=>?_) λF h=>?_
  ·exact zR h
  ·exact zX (z:=mI _ () h zW)
 ·intro i2 s2 g2 _ F h;try dsimp only at h
  exact zR h
theorem uZ(a0:List Int)(a1:List Int)(r:Int)(h:gT a0 a1=some r):aS pw 112 [.aV (a0.map encI),.aV (a1.map encI)] (λv=>v = .val (.int .i64 r)):=by
 refine aS.mV ?_;refine aQ [] func112 ?_;rw[ntmps112,results112];unfold gT at h;have F:=trivial;refine zV ?_;refine zL F h () [0,1] (λx=>[(5,.p (.val (.int .i64 x.1)))]) [] (λx H=>[]) ?_;intro s2 g2 _ _ F mI h;try dsimp only at h
 refine mH F h (λF h=>?_) λF h=>?_
 ·refine zB F h (λF h=>?_) λF h=>?_
  ·refine zD [.q,.q,.q,.q,.q,.q,.q,.q,.q] ?_;refine zA encI F h λe3 F h=>?_
   refine zA encI F h λe4 F h=>?_
   refine l6 F h (λF h=>?_) λF h=>?_
   ·exact zX (z:=mI _ () h zW)
   ·refine zD [.q,.q,.q,.q,.q,.q,.q,.q,.q,.q] ?_;exact zR h
  ·try dsimp only at h
   exact zR h
 ·try dsimp only at h
  exact zR h
end
noncomputable section
theorem qC(a0:Types)(a1:cZ)(r:Host)(h:gG a0 a1=some r):br pw 45 [.agg [.aV (a0.nodes.map aJ),.aV (a0.au.map aL)],.agg [.aV (a1.nodes.map dW),.aV (a1.au.map dP)]] (λv=>v = .agg [.row 3 1 (r.graph.nodes.map encI),.row 175 3 (r.graph.au.map aZ),.row 32 1 (r.values.map bI)]):=by
 refine br.tF ?_;refine bB [53,91,97,102,184] func45 ?_;rw[ntmps45,results45];unfold gG at h;have F:=trivial;refine zG 1272 F h (uF _) λr2 h=>?_
 refine zV ?_;refine zL F h ((0,0):Nat×Nat) [2,3,4,5,6] (λx=>[(7,.p (.val (.int .i64 x.1.1)))]) [2,3,4,1272] (λx H=>[(5,.box [.row 4200 x.2.1,.p (.val (.slice none 0 0)),.row 4201 x.2.2]),(4200,.row x.2.1 3 1 (x.1.2.1.map encI)),(4201,.row x.2.2 32 1 (x.1.2.2.map bI))]) ?_ (hw:=by refine cU.trans (bT 5 0 4200 3 1 _ rfl rfl rfl (by decide)) ?_;refine cU.trans (bT 5 2 4201 32 1 _ rfl rfl rfl (by decide)) ?_;exact zW);intro s3 g3 _ _ F wV h;try dsimp only at h
 refine mH F h (λF h=>?_) λF h=>?_
 ·refine mH F h (λF h=>?_) λF h=>?_
  ·refine zB F h (λF h=>?_) λF h=>?_
   ·refine zA dW F h λe4 F h=>?_
    refine zF (show (0:Int)<=0 by decide) F λF=>?_
    refine zF (show (0:Int)<((2:Nat):Int) by decide) F λF=>?_
    refine zC F h λF h=>?_
    refine zA encI F h λe5 F h=>?_
    refine zK F h (wF _ _) λr6 h=>?_
    refine zV ?_;refine zN F h (0:Nat) [2,3,4,5,6,7,8,9] (λx=>[(11,.row 53 x.2),(12,.p (.val (.int .i64 ((x.1.1:Nat):Int))))]) [2,3,4,5,1272,4200,4201] (λx H=>[(53,.row x.2 3 1 (x.1.2.map encI))]) ?_ ?_
    ·intro i7 s7 g7 _ _ F Ns7 h;try dsimp only at h
     refine zD [.p,.q,.q,.q,.q,.q,.q,.q,.q,.q,.q,.q,.q,.q,.q,.q,.q,.q,.q,.q,.q,.q,.q,.q,.q,.q,.q,.q,.q,.q,.p,.w,.q] ?_;refine zI aU F h λe8 F h=>?_
     refine zF (show (0:Int)<=1 by decide) F λF=>?_
     refine zF (show (1:Int)<((2:Nat):Int) by decide) F λF=>?_
     refine zC F h λF h=>?_
     refine zC F h λF h=>?_
     refine zF (eq_true (show (s7.length+1) * 8<=140737488355328 by omega)) F λF=>?_
     refine zF (bh encI s7 [(i64.wrap (e8.low+((i64.wrap ((i64.wrap e4.x1)+(i64.wrap (7 * ((i7:Nat):Int))))).tmod (i64.wrap ((i64.wrap (e8.high-e8.low))+1)))))] (c:=[[.val (.int .i64 (i64.wrap (e8.low+((i64.wrap ((i64.wrap e4.x1)+(i64.wrap (7 * ((i7:Nat):Int))))).tmod (i64.wrap ((i64.wrap (e8.high-e8.low))+1))))))]]) rfl) F λF=>?_
     exact zX (z:=Ns7 _ (g7+1) h zW)
    ·intro i7 s7 g7 _ F h;try dsimp only at h
     refine zV ?_;refine kL 53 g7 3 1 (s7.map encI) [11] (by simp -implicitDefEqProofs only[go_sem,F]<;>rfl) (by simp -implicitDefEqProofs only[go_sem,F]<;>and_intros<;>rfl) (by decide) ?_;refine zE [(0,.p),(1,.p),(3,.p),(4,.p),(6,.p),(8,.b),(9,.p),(2,.q),(7,.b),(5,.w),(11,.b),(12,.b),(10,.w),(13,.w),(14,.q),(15,.w)] ?_;refine zC F h λF h=>?_
     refine zF (eq_true (show (s3.2.1.length+1) * 8<=140737488355328 by omega)) F λF=>?_
     refine zF (bh encI s3.2.1 [e5] (c:=[[.val (.int .i64 e5)]]) rfl) F λF=>?_
     refine zC F h λF h=>?_
     refine zF (eq_true (show (s3.2.2.length+1) * 24<=140737488355328 by omega)) F λF=>?_
     refine zF (bh bI s3.2.2 [s7] (c:=[[.aV (s7.map encI)]]) rfl) F λF=>?_
     exact zX (z:=wV _ (g3.1+1,g3.2+1) h zW)
   ·try dsimp only at h
    refine zV ?_;refine zL F h (0:Nat) [2,3,4,5,13] (λx=>[(14,.p (.val (.int .i64 x.1.1)))]) [2,3,4,4200,4201] (λx H=>[(5,bx (H 5) [(1,.row 4434 x.2)]),(4434,.row x.2 175 3 (x.1.2.map aZ))]) ?_ (hw:=by refine cU.trans (bT 5 1 4434 175 3 _ rfl rfl rfl (by decide)) ?_;exact zW);intro s9 g9 _ _ F Ns9 h;try dsimp only at h
    refine mH F h (λF h=>?_) λF h=>?_
    ·refine mH F h (λF h=>?_) λF h=>?_
     ·refine mH F h (λF h=>?_) λF h=>?_
      ·refine zB F h (λF h=>?_) λF h=>?_
       ·refine zD [.q,.q,.q,.q,.q,.q,.q,.q,.q,.q,.q,.q,.q,.q,.q,.q,.q,.q,.q,.q,.q,.q,.q,.q,.q,.q,.q,.q,.q,.q,.w,.s] ?_;refine zA dP F h λuU F h=>?_
        refine zF (show (0:Int)<=0 by decide) F λF=>?_
        refine zF (show (0:Int)<((3:Nat):Int) by decide) F λF=>?_
        refine zC F h λF h=>?_
        refine zF (show (0:Int)<=1 by decide) F λF=>?_
        refine zF (show (1:Int)<((3:Nat):Int) by decide) F λF=>?_
        refine zC F h λF h=>?_
        refine zF (show (0:Int)<=2 by decide) F λF=>?_
        refine zF (show (2:Int)<((3:Nat):Int) by decide) F λF=>?_
        refine zC F h λF h=>?_
        refine zD [.q,.q,.q,.q,.q,.q,.q,.q,.q,.q,.q,.q,.q,.q,.q,.q,.q,.q] ?_;refine zA encI F h λe11 F h=>?_
        refine zA encI F h λvr F h=>?_
        refine th F h (mW _ _ _ _) λr13 h=>?_
        refine zB F h (λF h=>?_) λF h=>?_
        ·refine zC F h λF h=>?_
         refine zF (eq_true (show (s9.2.length+1) * 24<=140737488355328 by omega)) F λF=>?_
         refine zF (bh aZ s9.2 [(⟨((i64.wrap uU.x0).tmod ((a0.au.length:Nat):Int)),((i64.wrap uU.x1).tmod ((s3.2.1.length:Nat):Int)),((i64.wrap uU.x2).tmod ((s3.2.1.length:Nat):Int))⟩:Edge)] (c:=[[.val (.int .i64 ((i64.wrap uU.x0).tmod ((a0.au.length:Nat):Int))),.val (.int .i64 ((i64.wrap uU.x1).tmod ((s3.2.1.length:Nat):Int))),.val (.int .i64 ((i64.wrap uU.x2).tmod ((s3.2.1.length:Nat):Int)))]]) rfl) F λF=>?_
         exact zX (z:=Ns9 _ (g9+1) h zW)
        ·exact zX (z:=Ns9 _ g9 h zW)
       ·try dsimp only at h
        exact iR h
      ·try dsimp only at h
       exact iR h
     ·try dsimp only at h
      exact iR h
    ·try dsimp only at h
     exact iR h
  ·try dsimp only at h
   refine zV ?_;refine zL F h (0:Nat) [2,3,4,5,13] (λx=>[(14,.p (.val (.int .i64 x.1.1)))]) [2,3,4,4200,4201] (λx H=>[(5,bx (H 5) [(1,.row 4544 x.2)]),(4544,.row x.2 175 3 (x.1.2.map aZ))]) ?_ (hw:=by refine cU.trans (bT 5 1 4544 175 3 _ rfl rfl rfl (by decide)) ?_;exact zW);intro vP g14 _ _ F acr h;try dsimp only at h
   refine mH F h (λF h=>?_) λF h=>?_
   ·refine mH F h (λF h=>?_) λF h=>?_
    ·refine mH F h (λF h=>?_) λF h=>?_
     ·refine zB F h (λF h=>?_) λF h=>?_
      ·refine zD [.q,.q,.q,.q,.q,.q,.q,.q,.q,.q,.q,.q,.q,.q,.q,.q,.q,.q,.q,.q,.q,.q,.q,.q,.q,.q,.q,.q,.q,.q,.w,.s] ?_;refine zA dP F h λe15 F h=>?_
       refine zF (show (0:Int)<=0 by decide) F λF=>?_
       refine zF (show (0:Int)<((3:Nat):Int) by decide) F λF=>?_
       refine zC F h λF h=>?_
       refine zF (show (0:Int)<=1 by decide) F λF=>?_
       refine zF (show (1:Int)<((3:Nat):Int) by decide) F λF=>?_
       refine zC F h λF h=>?_
       refine zF (show (0:Int)<=2 by decide) F λF=>?_
       refine zF (show (2:Int)<((3:Nat):Int) by decide) F λF=>?_
       refine zC F h λF h=>?_
       refine zD [.q,.q,.q,.q,.q,.q,.q,.q,.q,.q,.q,.q,.q,.q,.q,.q,.q,.q] ?_;refine zA encI F h λe16 F h=>?_
       refine zA encI F h λe17 F h=>?_
       refine th F h (mW _ _ _ _) λr18 h=>?_
       refine zB F h (λF h=>?_) λF h=>?_
       ·refine zC F h λF h=>?_
        refine zF (eq_true (show (vP.2.length+1) * 24<=140737488355328 by omega)) F λF=>?_
        refine zF (bh aZ vP.2 [(⟨((i64.wrap e15.x0).tmod ((a0.au.length:Nat):Int)),((i64.wrap e15.x1).tmod ((s3.2.1.length:Nat):Int)),((i64.wrap e15.x2).tmod ((s3.2.1.length:Nat):Int))⟩:Edge)] (c:=[[.val (.int .i64 ((i64.wrap e15.x0).tmod ((a0.au.length:Nat):Int))),.val (.int .i64 ((i64.wrap e15.x1).tmod ((s3.2.1.length:Nat):Int))),.val (.int .i64 ((i64.wrap e15.x2).tmod ((s3.2.1.length:Nat):Int)))]]) rfl) F λF=>?_
        exact zX (z:=acr _ (g14+1) h zW)
       ·exact zX (z:=acr _ g14 h zW)
      ·try dsimp only at h
       exact iR h
     ·try dsimp only at h
      exact iR h
    ·try dsimp only at h
     exact iR h
   ·try dsimp only at h
    exact iR h
 ·try dsimp only at h
  refine zV ?_;refine zL F h (0:Nat) [2,3,4,5,13] (λx=>[(14,.p (.val (.int .i64 x.1.1)))]) [2,3,4,4200,4201] (λx H=>[(5,bx (H 5) [(1,.row 4654 x.2)]),(4654,.row x.2 175 3 (x.1.2.map aZ))]) ?_ (hw:=by refine cU.trans (bT 5 1 4654 175 3 _ rfl rfl rfl (by decide)) ?_;exact zW);intro s19 g19 _ _ F aED h;try dsimp only at h
  refine mH F h (λF h=>?_) λF h=>?_
  ·refine mH F h (λF h=>?_) λF h=>?_
   ·refine mH F h (λF h=>?_) λF h=>?_
    ·refine zB F h (λF h=>?_) λF h=>?_
     ·refine zD [.q,.q,.q,.q,.q,.q,.q,.q,.q,.q,.q,.q,.q,.q,.q,.q,.q,.q,.q,.q,.q,.q,.q,.q,.q,.q,.q,.q,.q,.q,.w,.s] ?_;refine zA dP F h λe20 F h=>?_
      refine zF (show (0:Int)<=0 by decide) F λF=>?_
      refine zF (show (0:Int)<((3:Nat):Int) by decide) F λF=>?_
      refine zC F h λF h=>?_
      refine zF (show (0:Int)<=1 by decide) F λF=>?_
      refine zF (show (1:Int)<((3:Nat):Int) by decide) F λF=>?_
      refine zC F h λF h=>?_
      refine zF (show (0:Int)<=2 by decide) F λF=>?_
      refine zF (show (2:Int)<((3:Nat):Int) by decide) F λF=>?_
      refine zC F h λF h=>?_
      refine zD [.q,.q,.q,.q,.q,.q,.q,.q,.q,.q,.q,.q,.q,.q,.q,.q,.q,.q] ?_;refine zA encI F h λe21 F h=>?_
      refine zA encI F h λe22 F h=>?_
      refine th F h (mW _ _ _ _) λr23 h=>?_
      refine zB F h (λF h=>?_) λF h=>?_
      ·refine zC F h λF h=>?_
       refine zF (eq_true (show (s19.2.length+1) * 24<=140737488355328 by omega)) F λF=>?_
       refine zF (bh aZ s19.2 [(⟨((i64.wrap e20.x0).tmod ((a0.au.length:Nat):Int)),((i64.wrap e20.x1).tmod ((s3.2.1.length:Nat):Int)),((i64.wrap e20.x2).tmod ((s3.2.1.length:Nat):Int))⟩:Edge)] (c:=[[.val (.int .i64 ((i64.wrap e20.x0).tmod ((a0.au.length:Nat):Int))),.val (.int .i64 ((i64.wrap e20.x1).tmod ((s3.2.1.length:Nat):Int))),.val (.int .i64 ((i64.wrap e20.x2).tmod ((s3.2.1.length:Nat):Int)))]]) rfl) F λF=>?_
       exact zX (z:=aED _ (g19+1) h zW)
      ·exact zX (z:=aED _ g19 h zW)
     ·try dsimp only at h
      exact iR h
    ·try dsimp only at h
     exact iR h
   ·try dsimp only at h
    exact iR h
  ·try dsimp only at h
   exact iR h
end
noncomputable section
theorem sR(a0:aO)(a1:aG)(r:aO×Bool)(h:fQ a0 a1=some r):aS pw 117 [.agg [.aV (a0.nodes.map ag),.aV (a0.au.map aj)],.agg (aC a1)] (λv=>v = .dQ [.agg [.aV (r.1.nodes.map ag),.aV (r.1.au.map aj)],.val (.bool r.2)]):=by
 refine aS.mV ?_;refine aQ [86,147] func117 ?_;rw[ntmps117,results117];unfold fQ at h;have F:=trivial;refine zV ?_;refine zN F h () [2,3,4] (λx=>[(6,.p (.val (.int .i64 ((x.1.1:Nat):Int))))]) [2,3,4] (λx H=>[]) ?_ ?_
 ·intro i2 s2 g2 _ _ F mI h;try dsimp only at h
  refine zD [.q,.q,.q,.q,.q,.q,.q,.q] ?_;refine zI ag F h λe3 F h=>?_
  refine th F h (nY _ _) λr4 h=>?_
  refine zB F h (λF h=>?_) λF h=>?_
  ·exact zR h
  ·exact zX (z:=mI _ () h zW)
 ·intro i2 s2 g2 _ F h;try dsimp only at h
  refine zV ?_;refine zN F h () [2,3,4] (λx=>[(7,.p (.val (.int .i64 ((x.1.1:Nat):Int))))]) [2,3,4] (λx H=>[]) ?_ ?_
  ·intro i5 s5 g5 _ _ F Ns5 h;try dsimp only at h
   refine zD [.q,.q,.q,.q,.q,.q,.q,.q] ?_;refine zI aj F h λe6 F h=>?_
   refine th F h (nY _ _) λr7 h=>?_
   refine zB F h (λF h=>?_) λF h=>?_
   ·exact zR h
   ·exact zX (z:=Ns5 _ () h zW)
  ·intro i5 s5 g5 _ F h;try dsimp only at h
   refine zV ?_;refine zL F h (0:Nat) [2,3,4,8] (λx=>[(9,.p (.val (.int .i64 x.1.1))),(10,.p (.val (.int .i64 x.1.2.1)))]) [2,3,4] (λx H=>[(8,bx (H 8) [(0,.row 8207 x.2)]),(8207,.row x.2 75 3 (x.1.2.2.map ag))]) ?_ (hw:=by refine cU.trans (bT 8 0 8207 75 3 _ rfl rfl rfl (by decide)) ?_;exact zW);intro s8 g8 _ _ F Ns8 h;try dsimp only at h
   refine zB F h (λF h=>?_) λF h=>?_
   ·refine zV ?_;refine zL F h (g8:Nat) [2,3,4,8,10] (λx=>[(9,.p (.val (.int .i64 x.1.1)))]) [2,3,4] (λx H=>[(8,bx (H 8) [(0,.row 8207 x.2)]),(8207,.row x.2 75 3 (x.1.2.map ag))]) ?_;intro s9 g9 _ _ F Ns9 h;try dsimp only at h
    refine zD [.q,.q,.q,.q,.q,.q,.q,.q,.q,.q,.q,.q,.q,.q,.q,.q,.q,.q,.q,.q,.q,.q,.q,.q,.q,.q,.q] ?_;refine zBd F h (λF h=>?_) λF h=>?_
    ·refine amg F h (λF h=>?_) λF h=>?_
     ·refine zE [(0,.p),(2,.q),(3,.q),(4,.q),(5,.q),(6,.q),(7,.p),(1,.q),(8,.w),(9,.q),(10,.w)] ?_;refine zA ag F h λuU F h=>?_
      refine zC F h λF h=>?_
      refine zF (eq_true (show (s9.2.length+1) * 40<=140737488355328 by omega)) F λF=>?_
      refine zF (bh ag s9.2 [uU] (c:=[[.val (.int .i64 uU.id),.val (.int .i64 uU.type),.aV (uU.values.map encI)]]) rfl) F λF=>?_
      exact zX (z:=Ns9 _ (g9+1) h zW)
     ·refine zA ag F h λe11 F h=>?_
      refine zAq ag F h λvr aIl F h=>?_
      refine zB F h (λF h=>?_) λF h=>?_
      ·refine zE [(0,.p),(2,.q),(3,.q),(4,.q),(5,.q),(6,.q),(7,.p),(1,.q),(8,.w),(9,.q),(10,.w)] ?_;refine zC F h λF h=>?_
       refine zF (eq_true (show (s9.2.length+1) * 40<=140737488355328 by omega)) F λF=>?_
       refine zF (bh ag s9.2 [e11] (c:=[[.val (.int .i64 e11.id),.val (.int .i64 e11.type),.aV (e11.values.map encI)]]) rfl) F λF=>?_
       exact zX (z:=Ns9 _ (g9+1) h zW)
      ·try dsimp only at h
       replace h:=y5 h (dK (by omega));refine zE [(0,.p),(2,.q),(3,.q),(4,.q),(5,.q),(6,.q),(7,.p),(1,.q),(8,.w),(9,.q),(10,.w)] ?_;refine zU aIl h λh=>?_
       refine zC F h λF h=>?_
       refine zF (eq_true (show (s9.2.length+1) * 40<=140737488355328 by omega)) F λF=>?_
       refine zF (bh ag s9.2 [vr] (c:=[[.val (.int .i64 vr.id),.val (.int .i64 vr.type),.aV (vr.values.map encI)]]) rfl) F λF=>?_
       exact zX (z:=Ns8 _ (g9+1) h zW)
    ·try dsimp only at h
     refine zB F h (λF h=>?_) λF h=>?_
     ·refine zE [(0,.p),(2,.q),(3,.q),(4,.q),(5,.q),(6,.q),(7,.p),(1,.q),(8,.w),(9,.q),(10,.w)] ?_;refine zAq ag F h λe13 qe13 F h=>?_
      refine zC F h λF h=>?_
      refine zF (eq_true (show (s9.2.length+1) * 40<=140737488355328 by omega)) F λF=>?_
      refine zF (bh ag s9.2 [e13] (c:=[[.val (.int .i64 e13.id),.val (.int .i64 e13.type),.aV (e13.values.map encI)]]) rfl) F λF=>?_
      exact zX (z:=Ns8 _ (g9+1) h zW)
     ·exact zX (z:=Ns8 _ g9 h zW)
   ·try dsimp only at h
    refine zV ?_;refine zL F h (0:Nat) [2,3,4,8] (λx=>[(9,.p (.val (.int .i64 x.1.1))),(11,.p (.val (.int .i64 x.1.2.1)))]) [2,3,4,8207] (λx H=>[(8,bx (H 8) [(1,.row 8619 x.2)]),(8619,.row x.2 102 4 (x.1.2.2.map aj))]) ?_ (hw:=by refine cU.trans (bT 8 1 8619 102 4 _ rfl rfl rfl (by decide)) ?_;exact zW);intro vP g14 _ _ F acr h;try dsimp only at h
    refine zB F h (λF h=>?_) λF h=>?_
    ·refine zV ?_;refine zL F h (g14:Nat) [2,3,4,8,11] (λx=>[(9,.p (.val (.int .i64 x.1.1)))]) [2,3,4,8207] (λx H=>[(8,bx (H 8) [(1,.row 8619 x.2)]),(8619,.row x.2 102 4 (x.1.2.map aj))]) ?_;intro xZ g15 _ _ F agT h;try dsimp only at h
     refine zD [.q,.q,.q,.q,.q,.q,.q,.q,.q,.q,.q,.q,.q,.q,.q,.q,.q,.q,.q,.q,.q,.q,.q,.q,.q,.q,.q] ?_;refine zBd F h (λF h=>?_) λF h=>?_
     ·refine amg F h (λF h=>?_) λF h=>?_
      ·refine zE [(0,.p),(2,.q),(3,.q),(4,.q),(5,.q),(6,.q),(7,.p),(1,.q),(8,.w),(9,.q),(10,.w)] ?_;refine zA aj F h λe16 F h=>?_
       refine zC F h λF h=>?_
       refine zF (eq_true (show (xZ.2.length+1) * 32<=140737488355328 by omega)) F λF=>?_
       refine zF (bh aj xZ.2 [e16] (c:=[[.val (.int .i64 e16.id),.val (.int .i64 e16.type),.val (.int .i64 e16.src),.val (.int .i64 e16.dst)]]) rfl) F λF=>?_
       exact zX (z:=agT _ (g15+1) h zW)
      ·refine zA aj F h λe17 F h=>?_
       refine zAq aj F h λe18 aIm F h=>?_
       refine zB F h (λF h=>?_) λF h=>?_
       ·refine zE [(0,.p),(2,.q),(3,.q),(4,.q),(5,.q),(6,.q),(7,.p),(1,.q),(8,.w),(9,.q),(10,.w)] ?_;refine zC F h λF h=>?_
        refine zF (eq_true (show (xZ.2.length+1) * 32<=140737488355328 by omega)) F λF=>?_
        refine zF (bh aj xZ.2 [e17] (c:=[[.val (.int .i64 e17.id),.val (.int .i64 e17.type),.val (.int .i64 e17.src),.val (.int .i64 e17.dst)]]) rfl) F λF=>?_
        exact zX (z:=agT _ (g15+1) h zW)
       ·try dsimp only at h
        replace h:=y5 h (dK (by omega));refine zE [(0,.p),(2,.q),(3,.q),(4,.q),(5,.q),(6,.q),(7,.p),(1,.q),(8,.w),(9,.q),(10,.w)] ?_;refine zU aIm h λh=>?_
        refine zC F h λF h=>?_
        refine zF (eq_true (show (xZ.2.length+1) * 32<=140737488355328 by omega)) F λF=>?_
        refine zF (bh aj xZ.2 [e18] (c:=[[.val (.int .i64 e18.id),.val (.int .i64 e18.type),.val (.int .i64 e18.src),.val (.int .i64 e18.dst)]]) rfl) F λF=>?_
        exact zX (z:=acr _ (g15+1) h zW)
     ·try dsimp only at h
      refine zB F h (λF h=>?_) λF h=>?_
      ·refine zE [(0,.p),(2,.q),(3,.q),(4,.q),(5,.q),(6,.q),(7,.p),(1,.q),(8,.w),(9,.q),(10,.w)] ?_;refine zAq aj F h λyw qe19 F h=>?_
       refine zC F h λF h=>?_
       refine zF (eq_true (show (xZ.2.length+1) * 32<=140737488355328 by omega)) F λF=>?_
       refine zF (bh aj xZ.2 [yw] (c:=[[.val (.int .i64 yw.id),.val (.int .i64 yw.type),.val (.int .i64 yw.src),.val (.int .i64 yw.dst)]]) rfl) F λF=>?_
       exact zX (z:=acr _ (g15+1) h zW)
      ·exact zX (z:=acr _ g15 h zW)
    ·try dsimp only at h
     exact zR h
end
noncomputable section
theorem oq(a0:ah)(a1:ah)(r:Bool)(h:fh a0 a1=some r):aS pw 120 [.agg (ag a0),.agg (ag a1)] (λv=>v = .val (.bool r)):=by
 refine aS.mV ?_;refine aQ [] func120 ?_;rw[ntmps120,results120];unfold fh at h;have F:=trivial;refine mH F h (λF h=>?_) λF h=>?_
 ·refine mH F h (λF h=>?_) λF h=>?_
  ·refine zK F h (jd _ _) λr2 h=>?_
   exact zR h
  ·exact zR h
 ·exact zR h
theorem sS(a0:ax)(a1:aG)(a2:aG)(r:(List aI))(h:ez a0 a1 a2=some r):br pw 96 [.agg (aA a0),.agg (aC a1),.agg (aC a2)] (λv=>v = .row 57 3 (r.map aB)):=by
 refine br.tF ?_;refine bB [55] func96 ?_;rw[ntmps96,results96];unfold ez at h;have F:=trivial;refine zV ?_;refine zN F h (0:Nat) [3,4,5] (λx=>[(7,.row 9455 x.2),(8,.p (.val (.int .i64 ((x.1.1:Nat):Int))))]) [3,4,5] (λx H=>[(9455,.row x.2 57 3 (x.1.2.map aB))]) ?_ ?_ (hw:=by refine cU.trans (iF 7 9455 57 3 rfl rfl (by decide)) ?_;exact zW)
 ·intro i3 s3 g3 _ _ F wV h;try dsimp only at h
  refine zI encI F h λe4 F h=>?_
  refine zK F h (eu _ _) λr5 h=>?_
  refine mH F h (λF h=>?_) λF h=>?_
  ·refine zK F h (mZ _ _) λr6 h=>?_
   refine rG F h (λF h=>?_) λF h=>?_
   ·refine zC F h λF h=>?_
    refine zF (eq_true (show (s3.length+1) * 24<=140737488355328 by omega)) F λF=>?_
    refine zF (bh aB s3 [(⟨1,e4,(-1)⟩:aI)] (c:=[[.val (.int .i64 1),.val (.int .i64 e4),.val (.int .i64 (-1))]]) rfl) F λF=>?_
    exact zX (z:=wV _ (g3+1) h zW)
   ·refine zK F h (eu _ _) λr7 h=>?_
    refine mH F h (λF h=>?_) λF h=>?_
    ·refine zK F h (mZ _ _) λr8 h=>?_
     refine zB F h (λF h=>?_) λF h=>?_
     ·refine zC F h λF h=>?_
      refine zF (eq_true (show (s3.length+1) * 24<=140737488355328 by omega)) F λF=>?_
      refine zF (bh aB s3 [(⟨1,e4,(-1)⟩:aI)] (c:=[[.val (.int .i64 1),.val (.int .i64 e4),.val (.int .i64 (-1))]]) rfl) F λF=>?_
      exact zX (z:=wV _ (g3+1) h zW)
     ·exact zX (z:=wV _ g3 h zW)
    ·exact zX (z:=wV _ g3 h zW)
  ·refine zK F h (eu _ _) λr9 h=>?_
   refine mH F h (λF h=>?_) λF h=>?_
   ·refine zK F h (mZ _ _) λr10 h=>?_
    refine zB F h (λF h=>?_) λF h=>?_
    ·refine zC F h λF h=>?_
     refine zF (eq_true (show (s3.length+1) * 24<=140737488355328 by omega)) F λF=>?_
     refine zF (bh aB s3 [(⟨1,e4,(-1)⟩:aI)] (c:=[[.val (.int .i64 1),.val (.int .i64 e4),.val (.int .i64 (-1))]]) rfl) F λF=>?_
     exact zX (z:=wV _ (g3+1) h zW)
    ·exact zX (z:=wV _ g3 h zW)
   ·exact zX (z:=wV _ g3 h zW)
 ·intro i3 s3 g3 _ F h;try dsimp only at h
  refine zV ?_;refine zN F h (g3:Nat) [3,4,5] (λx=>[(7,.row 9455 x.2),(10,.p (.val (.int .i64 ((x.1.1:Nat):Int))))]) [3,4,5] (λx H=>[(9455,.row x.2 57 3 (x.1.2.map aB))]) ?_ ?_
  ·intro i11 s11 g11 _ _ F auh h;try dsimp only at h
   refine zI encI F h λvr F h=>?_
   refine zV ?_;refine zL F h (g11:Nat) [3,4,5,10,11] (λx=>[(7,.row 9455 x.2),(12,.p (.val (.int .i64 x.1.1)))]) [3,4,5] (λx H=>[(9455,.row x.2 57 3 (x.1.2.map aB))]) ?_;intro uS g13 _ _ F ajz h;try dsimp only at h
   refine zI bI F h λe14 F h=>?_
   refine zB F h (λF h=>?_) λF h=>?_
   ·refine zK F h (jQ _ _ _) λr15 h=>?_
    refine zK F h (jQ _ _ _) λr16 h=>?_
    refine zK F h (eu _ _) λr17 h=>?_
    refine mH F h (λF h=>?_) λF h=>?_
    ·refine rG F h (λF h=>?_) λF h=>?_
     ·refine zC F h λF h=>?_
      refine zF (eq_true (show (uS.2.length+1) * 24<=140737488355328 by omega)) F λF=>?_
      refine zF (bh aB uS.2 [(⟨2,vr,uS.1⟩:aI)] (c:=[[.val (.int .i64 2),.val (.int .i64 vr),.val (.int .i64 uS.1)]]) rfl) F λF=>?_
      exact zX (z:=ajz _ (g13+1) h zW)
     ·refine zK F h (eu _ _) λr18 h=>?_
      refine mH F h (λF h=>?_) λF h=>?_
      ·refine zB F h (λF h=>?_) λF h=>?_
       ·refine zC F h λF h=>?_
        refine zF (eq_true (show (uS.2.length+1) * 24<=140737488355328 by omega)) F λF=>?_
        refine zF (bh aB uS.2 [(⟨2,vr,uS.1⟩:aI)] (c:=[[.val (.int .i64 2),.val (.int .i64 vr),.val (.int .i64 uS.1)]]) rfl) F λF=>?_
        exact zX (z:=ajz _ (g13+1) h zW)
       ·exact zX (z:=ajz _ g13 h zW)
      ·exact zX (z:=ajz _ g13 h zW)
    ·refine zK F h (eu _ _) λr19 h=>?_
     refine mH F h (λF h=>?_) λF h=>?_
     ·refine zB F h (λF h=>?_) λF h=>?_
      ·refine zC F h λF h=>?_
       refine zF (eq_true (show (uS.2.length+1) * 24<=140737488355328 by omega)) F λF=>?_
       refine zF (bh aB uS.2 [(⟨2,vr,uS.1⟩:aI)] (c:=[[.val (.int .i64 2),.val (.int .i64 vr),.val (.int .i64 uS.1)]]) rfl) F λF=>?_
       exact zX (z:=ajz _ (g13+1) h zW)
      ·exact zX (z:=ajz _ g13 h zW)
     ·exact zX (z:=ajz _ g13 h zW)
   ·try dsimp only at h
    exact zX (z:=auh _ g13 h zW)
  ·intro i11 s11 g11 _ F h;try dsimp only at h
   refine zV ?_;refine zN F h (g11:Nat) [4,5] (λx=>[(7,.row 9455 x.2),(17,.p (.val (.int .i64 ((x.1.1:Nat):Int))))]) [4,5] (λx H=>[(9455,.row x.2 57 3 (x.1.2.map aB))]) ?_ ?_
   ·intro i20 s20 g20 _ _ F agU h;try dsimp only at h
    refine zI aH F h λe21 F h=>?_
    refine zK F h (jQ _ _ _) λr22 h=>?_
    refine mH F h (λF h=>?_) λF h=>?_
    ·refine l6 F h (λF h=>?_) λF h=>?_
     ·exact zX (z:=agU _ g20 h zW)
     ·refine zC F h λF h=>?_
      refine zF (eq_true (show (s20.length+1) * 24<=140737488355328 by omega)) F λF=>?_
      refine zF (bh aB s20 [(⟨3,e21.id,e21.attr⟩:aI)] (c:=[[.val (.int .i64 3),.val (.int .i64 e21.id),.val (.int .i64 e21.attr)]]) rfl) F λF=>?_
      exact zX (z:=agU _ (g20+1) h zW)
    ·exact zX (z:=agU _ g20 h zW)
   ·intro i20 s20 g20 _ F h;try dsimp only at h
    exact iR h
end
noncomputable section
theorem uH(a0:Types)(a1:Host)(r:(List cF)×Int)(h:gn a0 a1=some r):br pw 258 [.agg [.aV (a0.nodes.map aJ),.aV (a0.au.map aL)],.agg (nj a1)] (λv=>v = .dQ [.row 264 4 (r.1.map dx),.p (.val (.int .i64 r.2))]):=by
 refine br.tF ?_;refine bB [101] func258 ?_;rw[ntmps258,results258];unfold gn at h;have F:=trivial;refine zK F h (lX _ _) λr2 h=>?_
 refine l6 F h (λF h=>?_) λF h=>?_
 ·refine zV ?_;refine zN F h (0:Nat) [2,3] (λx=>[(8,.row 10928 x.2),(9,.p (.val (.int .i64 ((x.1.1:Nat):Int))))]) [2,3] (λx H=>[(10928,.row x.2 264 4 (x.1.2.map dx))]) ?_ ?_ (hw:=by refine cU.trans (iF 8 10928 264 4 rfl rfl (by decide)) ?_;exact zW)
  ·intro i3 s3 g3 _ _ F wV h;try dsimp only at h
   refine zI aL F h λe4 F h=>?_
   refine zV ?_;refine zQ 2 F h (g3:Nat) [2,3,9,10] (λx=>[(8,.row 10928 x.2),(11,.p (.val (.int .i64 ((x.1.1:Nat):Int))))]) [2,3,10] (λx H=>[(10928,.row x.2 264 4 (x.1.2.map dx))]) ?_ ?_
   ·intro i5 s5 g5 _ _ F Ns5 h;try dsimp only at h
    refine zD [.q,.q,.q,.q,.q,.q,.q,.q,.q] ?_;refine zB F h (λF h=>?_) λF h=>?_
    ·refine zD [.q,.q,.q,.q,.q,.q,.q,.q,.q] ?_;refine zV ?_;refine zN F h (g5:Nat) [2,3,9,10,11,12,13,14] (λx=>[(8,.row 10928 x.2),(15,.p (.val (.int .i64 ((x.1.1:Nat):Int))))]) [2,3,10] (λx H=>[(10928,.row x.2 264 4 (x.1.2.map dx))]) ?_ ?_
     ·intro i6 s6 g6 _ _ F Ns6 h;try dsimp only at h
      refine zD [.q,.q,.q,.q,.q,.q,.q,.q,.q,.q] ?_;refine zI encI F h λe7 F h=>?_
      refine th F h (pq _ _ _) λr8 h=>?_
      refine l6 F h (λF h=>?_) λF h=>?_
      ·refine zK F h (p7 _ _ _ _) λr9 h=>?_
       refine rG F h (λF h=>?_) λF h=>?_
       ·refine zC F h λF h=>?_
        refine zF (eq_true (show (s6.length+1) * 32<=140737488355328 by omega)) F λF=>?_
        refine zF (bh dx s6 [(⟨((i3:Nat):Int),((i6:Nat):Int),r9,(decide (((i5:Nat):Int)=0))⟩:cF)] (c:=[[.val (.int .i64 ((i3:Nat):Int)),.val (.int .i64 ((i6:Nat):Int)),.val (.int .i64 r9),.val (.bool (decide (((i5:Nat):Int)=0)))]]) rfl) F λF=>?_
        exact zX (z:=Ns6 _ (g6+1) h zW)
       ·refine mH F h (λF h=>?_) λF h=>?_
        ·refine zB F h (λF h=>?_) λF h=>?_
         ·refine zC F h λF h=>?_
          refine zF (eq_true (show (s6.length+1) * 32<=140737488355328 by omega)) F λF=>?_
          refine zF (bh dx s6 [(⟨((i3:Nat):Int),((i6:Nat):Int),r9,(decide (((i5:Nat):Int)=0))⟩:cF)] (c:=[[.val (.int .i64 ((i3:Nat):Int)),.val (.int .i64 ((i6:Nat):Int)),.val (.int .i64 r9),.val (.bool (decide (((i5:Nat):Int)=0)))]]) rfl) F λF=>?_
          exact zX (z:=Ns6 _ (g6+1) h zW)
         ·exact zX (z:=Ns6 _ g6 h zW)
        ·exact zX (z:=Ns6 _ g6 h zW)
      ·exact zX (z:=Ns6 _ g6 h zW)
     ·intro i6 s6 g6 _ F h;try dsimp only at h
      exact zX (z:=Ns5 _ g6 h zW)
    ·refine zV ?_;refine zN F h (g5:Nat) [2,3,9,10,11,12,13,14] (λx=>[(8,.row 10928 x.2),(15,.p (.val (.int .i64 ((x.1.1:Nat):Int))))]) [2,3,10] (λx H=>[(10928,.row x.2 264 4 (x.1.2.map dx))]) ?_ ?_
     ·intro i10 s10 g10 _ _ F afG h;try dsimp only at h
      refine zD [.q,.q,.q,.q,.q,.q,.q,.q,.q,.q] ?_;refine zI encI F h λe11 F h=>?_
      refine th F h (pq _ _ _) λr12 h=>?_
      refine l6 F h (λF h=>?_) λF h=>?_
      ·refine zK F h (p7 _ _ _ _) λr13 h=>?_
       refine rG F h (λF h=>?_) λF h=>?_
       ·refine zC F h λF h=>?_
        refine zF (eq_true (show (s10.length+1) * 32<=140737488355328 by omega)) F λF=>?_
        refine zF (bh dx s10 [(⟨((i3:Nat):Int),((i10:Nat):Int),r13,(decide (((i5:Nat):Int)=0))⟩:cF)] (c:=[[.val (.int .i64 ((i3:Nat):Int)),.val (.int .i64 ((i10:Nat):Int)),.val (.int .i64 r13),.val (.bool (decide (((i5:Nat):Int)=0)))]]) rfl) F λF=>?_
        exact zX (z:=afG _ (g10+1) h zW)
       ·refine mH F h (λF h=>?_) λF h=>?_
        ·refine zB F h (λF h=>?_) λF h=>?_
         ·refine zC F h λF h=>?_
          refine zF (eq_true (show (s10.length+1) * 32<=140737488355328 by omega)) F λF=>?_
          refine zF (bh dx s10 [(⟨((i3:Nat):Int),((i10:Nat):Int),r13,(decide (((i5:Nat):Int)=0))⟩:cF)] (c:=[[.val (.int .i64 ((i3:Nat):Int)),.val (.int .i64 ((i10:Nat):Int)),.val (.int .i64 r13),.val (.bool (decide (((i5:Nat):Int)=0)))]]) rfl) F λF=>?_
          exact zX (z:=afG _ (g10+1) h zW)
         ·exact zX (z:=afG _ g10 h zW)
        ·exact zX (z:=afG _ g10 h zW)
      ·exact zX (z:=afG _ g10 h zW)
     ·intro i10 s10 g10 _ F h;try dsimp only at h
      exact zX (z:=Ns5 _ g10 h zW)
   ·intro i5 s5 g5 _ F h;try dsimp only at h
    exact zX (z:=wV _ g5 h zW)
  ·intro i3 s3 g3 _ F h;try dsimp only at h
   exact iR h
 ·exact iR h
theorem lH(a0:List ah)(p1:ah->Option Bool)(k1:FuncId)(fs1 cs1:List PV)(hp1:∀x0 r,p1 x0=some r->aS pw k1 (fs1++[.agg (ag x0)]++cs1) (λv=>v = .val (.bool r)))(r:Bool)(h:dO a0 p1=some r):aS pw 165 [.aV (a0.map ag),.iw (.func k1) fs1 cs1] (λv=>v = .val (.bool r)):=by
 refine aS.mV ?_;refine aQ [] func165 ?_;rw[ntmps165,results165];unfold dO at h;have F:=trivial;refine zK F h (nv _ p1 k1 fs1 cs1 hp1) λr2 h=>?_
 exact zR h
theorem rI(a0:List ak)(a1:Int)(r:Int)(h:jx a0 a1=some r):aS pw 143 [.aV (a0.map aj),.val (.int .i64 a1)] (λv=>v = .val (.int .i64 r)):=by
 refine aS.mV ?_;refine aQ [] func143 ?_;rw[ntmps143,results143];unfold jx at h;have F:=trivial;refine zK F h (nu _ (λx2=>kB x2 a1) 241 [] [.dU [.val (.int .i64 a1)] 0] (λx2 r h=>abv x2 a1 r h)) λr3 h=>?_
 exact zR h
end
noncomputable section
theorem jo(a0:aO)(a1:Int)(r:ax)(h:cW a0 a1=some r):br pw 118 [.agg [.aV (a0.nodes.map ag),.aV (a0.au.map aj)],.val (.int .i64 a1)] (λv=>v = .agg [.row 3 1 (r.host.graph.nodes.map encI),.row 175 3 (r.host.graph.au.map aZ),.row 32 1 (r.host.values.map bI),.row 3 1 (r.nodes.map encI),.row 3 1 (r.au.map encI),.p (.val (.int .i64 r.next))]):=by
 refine br.tF ?_;refine bB [29,38,49,50,70,90] func118 ?_;rw[ntmps118,results118];unfold cW at h;have F:=trivial;refine zV ?_;refine zN F h ((0,0,0):Nat×Nat×Nat) [2,4,5] (λx=>[(6,.p (.val (.int .i64 ((x.1.1:Nat):Int))))]) [2,4] (λx H=>[(5,bx (H 5) [(0,.row 5684 x.2.1),(2,.row 5685 x.2.2.1),(3,.row 5686 x.2.2.2)]),(5684,.row x.2.1 3 1 (x.1.2.1.map encI)),(5685,.row x.2.2.1 32 1 (x.1.2.2.1.map bI)),(5686,.row x.2.2.2 3 1 (x.1.2.2.2.map encI))]) ?_ ?_ (hw:=by refine cU.trans (bT 5 0 5684 3 1 _ rfl rfl rfl (by decide)) ?_;refine cU.trans (bT 5 2 5685 32 1 _ rfl rfl rfl (by decide)) ?_;refine cU.trans (bT 5 3 5686 3 1 _ rfl rfl rfl (by decide)) ?_;exact zW)
 ·intro i2 s2 g2 _ _ F mI h;try dsimp only at h
  refine zI ag F h λe3 F h=>?_
  refine zC F h λF h=>?_
  refine zF (eq_true (show (s2.2.2.length+1) * 8<=140737488355328 by omega)) F λF=>?_
  refine zF (bh encI s2.2.2 [e3.id] (c:=[[.val (.int .i64 e3.id)]]) rfl) F λF=>?_
  refine zC F h λF h=>?_
  refine zF (eq_true (show (s2.1.length+1) * 8<=140737488355328 by omega)) F λF=>?_
  refine zF (bh encI s2.1 [e3.type] (c:=[[.val (.int .i64 e3.type)]]) rfl) F λF=>?_
  refine zE [(0,.p),(1,.p),(3,.p),(2,.b),(4,.q),(5,.q),(6,.w),(7,.w),(8,.w),(9,.q),(10,.q),(11,.w)] ?_;refine zC F h λF h=>?_
  refine zF (eq_true (show (e3.values.length) * 8<=140737488355328 by omega)) F λF=>?_
  refine zF (eq_true (eW (n:=1) (f:=encI) (λ_=>rfl) e3.values)) F λF=>?_
  refine zC F h λF h=>?_
  refine zF (eq_true (show (s2.2.1.length+1) * 24<=140737488355328 by omega)) F λF=>?_
  refine zF (bh bI s2.2.1 [e3.values] (c:=[[.aV (e3.values.map encI)]]) rfl) F λF=>?_
  exact zX (z:=mI _ (g2.1+1,g2.2.1+1,g2.2.2+1) h zW)
 ·intro i2 s2 g2 _ F h;try dsimp only at h
  refine zV ?_;refine zN F h ((0,0):Nat×Nat) [2,4,5] (λx=>[(8,.p (.val (.int .i64 ((x.1.1:Nat):Int))))]) [2,4,5684,5685,5686] (λx H=>[(5,bx (H 5) [(1,.row 5743 x.2.1),(4,.row 5744 x.2.2)]),(5743,.row x.2.1 175 3 (x.1.2.1.map aZ)),(5744,.row x.2.2 3 1 (x.1.2.2.map encI))]) ?_ ?_ (hw:=by refine cU.trans (bT 5 1 5743 175 3 _ rfl rfl rfl (by decide)) ?_;refine cU.trans (bT 5 4 5744 3 1 _ rfl rfl rfl (by decide)) ?_;exact zW)
  ·intro i4 s4 g4 _ _ F Ns4 h;try dsimp only at h
   refine zI aj F h λe5 F h=>?_
   refine zC F h λF h=>?_
   refine zF (eq_true (show (s4.2.length+1) * 8<=140737488355328 by omega)) F λF=>?_
   refine zF (bh encI s4.2 [e5.id] (c:=[[.val (.int .i64 e5.id)]]) rfl) F λF=>?_
   refine zE [(0,.p),(1,.p),(2,.p),(4,.q),(5,.q),(6,.q),(7,.q),(8,.q),(9,.q),(10,.q),(11,.q),(12,.q),(13,.q),(14,.q),(15,.q),(16,.q),(17,.p),(3,.q),(18,.w),(19,.q),(20,.q),(21,.q),(22,.w)] ?_;refine th F h (c8 _ _) λr6 h=>?_
   refine th F h (c8 _ _) λr7 h=>?_
   refine zC F h λF h=>?_
   refine zF (eq_true (show (s4.1.length+1) * 24<=140737488355328 by omega)) F λF=>?_
   refine zF (bh aZ s4.1 [(⟨e5.type,r6,r7⟩:Edge)] (c:=[[.val (.int .i64 e5.type),.val (.int .i64 r6),.val (.int .i64 r7)]]) rfl) F λF=>?_
   exact zX (z:=Ns4 _ (g4.1+1,g4.2+1) h zW)
  ·intro i4 s4 g4 _ F h;try dsimp only at h
   exact iR h
theorem jH(a0:aG)(r:aG)(h:dB a0=some r):br pw 38 [.agg (aC a0)] (λv=>v = .agg [.row 75 3 (r.az.map ag),.row 102 4 (r.aF.map aj),.row 75 3 (r.aR.map ag),.row 102 4 (r.aP.map aj),.row 105 4 (r.values.map aH),.p (.val (.int .i64 r.next.x0)),.p (.val (.int .i64 r.next.x1))]):=by
 refine br.tF ?_;refine bB [6,9,13,16,17,20] func38 ?_;rw[ntmps38,results38];unfold dB at h;have F:=trivial;refine zE [(0,.q),(1,.q),(4,.q),(5,.q),(7,.b),(8,.b),(11,.b),(12,.b),(15,.b),(16,.b),(18,.b),(19,.b),(2,.f),(3,.w),(6,.s),(9,.f),(10,.w),(13,.s),(14,.w),(17,.s),(20,.q),(21,.w)] ?_;refine zH 1080 F h (mP _) λr1 h=>?_
 refine zC F h λF h=>?_
 refine zF (eq_true (show (a0.aF.length) * 32<=140737488355328 by omega)) F λF=>?_
 refine zF (eq_true (eW (n:=4) (f:=aj) (λ_=>rfl) a0.aF)) F λF=>?_
 refine zH 1192 F h (mP _) λr2 h=>?_
 refine zC F h λF h=>?_
 refine zF (eq_true (show (a0.aP.length) * 32<=140737488355328 by omega)) F λF=>?_
 refine zF (eq_true (eW (n:=4) (f:=aj) (λ_=>rfl) a0.aP)) F λF=>?_
 refine zC F h λF h=>?_
 refine zF (eq_true (show (a0.values.length) * 32<=140737488355328 by omega)) F λF=>?_
 refine zF (eq_true (eW (n:=4) (f:=aH) (λ_=>rfl) a0.values)) F λF=>?_
 exact iR h
theorem qO(a0:List ak)(p1:ak->Option Bool)(k1:FuncId)(fs1 cs1:List PV)(hp1:∀x0 r,p1 x0=some r->aS pw k1 (fs1++[.agg (aj x0)]++cs1) (λv=>v = .val (.bool r)))(r:Bool)(h:eU a0 p1=some r):aS pw 167 [.aV (a0.map aj),.iw (.func k1) fs1 cs1] (λv=>v = .val (.bool r)):=by
 refine aS.mV ?_;refine aQ [] func167 ?_;rw[ntmps167,results167];unfold eU at h;have F:=trivial;refine zK F h (nu _ p1 k1 fs1 cs1 hp1) λr2 h=>?_
 exact zR h
theorem rJ(a0:List bn)(a1:bn)(r:Bool)(h:fo a0 a1=some r):aS pw 108 [.aV (a0.map ct),.agg (ct a1)] (λv=>v = .val (.bool r)):=by
 refine aS.mV ?_;refine aQ [] func108 ?_;rw[ntmps108,results108];unfold fo at h;have F:=trivial;refine zK F h (tI _ _) λr2 h=>?_
 exact zR h
end
noncomputable section
theorem yx(a0:Types)(a1:Host)(r:ax×Int)(h:js a0 a1=some r):br pw 30 [.agg [.aV (a0.nodes.map aJ),.aV (a0.au.map aL)],.agg (nj a1)] (λv=>v = .dQ [.agg [.row 3 1 (r.1.host.graph.nodes.map encI),.row 175 3 (r.1.host.graph.au.map aZ),.row 32 1 (r.1.host.values.map bI),.row 3 1 (r.1.nodes.map encI),.row 3 1 (r.1.au.map encI),.p (.val (.int .i64 r.1.next))],.p (.val (.int .i64 r.2))]):=by
 refine br.tF ?_;refine bB [] func30 ?_;rw[ntmps30,results30];unfold js at h;have F:=trivial;refine zK F h (p4 _) λr2 h=>?_
 refine l6 F h (λF h=>?_) λF h=>?_
 ·refine zK F h (lX _ _) λr3 h=>?_
  refine l6 F h (λF h=>?_) λF h=>?_
  ·refine zG 1672 F h (pF _) λr4 h=>?_
   refine zG 1704 F h (oM _ _) λr5 h=>?_
   refine zG 1784 F h (oM _ _) λr6 h=>?_
   exact iR h
  ·exact iR h
 ·exact iR h
theorem iM(a0:Types)(a1:ax)(r:Int)(h:b8 a0 a1=some r):aS pw 33 [.agg [.aV (a0.nodes.map aJ),.aV (a0.au.map aL)],.agg (aA a1)] (λv=>v = .val (.int .i64 r)):=by
 refine aS.mV ?_;refine aQ [] func33 ?_;rw[ntmps33,results33];unfold b8 at h;have F:=trivial;refine zK F h (p4 _) λr2 h=>?_
 refine l6 F h (λF h=>?_) λF h=>?_
 ·refine zK F h (lX _ _) λr3 h=>?_
  refine l6 F h (λF h=>?_) λF h=>?_
  ·refine mH F h (λF h=>?_) λF h=>?_
   ·refine l6 F h (λF h=>?_) λF h=>?_
    ·refine rG F h (λF h=>?_) λF h=>?_
     ·exact zR h
     ·refine zB F h (λF h=>?_) λF h=>?_
      ·exact zR h
      ·refine zK F h (qV _ _) λr4 h=>?_
       refine l6 F h (λF h=>?_) λF h=>?_
       ·refine zK F h (qV _ _) λr5 h=>?_
        refine l6 F h (λF h=>?_) λF h=>?_
        ·refine zV ?_;refine zN F h () [3] (λx=>[(11,.p (.val (.int .i64 ((x.1.1:Nat):Int))))]) [3] (λx H=>[]) ?_ ?_
         ·intro i6 s6 g6 _ _ F Ns6 h;try dsimp only at h
          refine zD [.q,.q,.q,.q,.q,.q,.q,.q,.q] ?_;refine zI encI F h λe7 F h=>?_
          refine th F h (c8 _ _) λr8 h=>?_
          refine zB F h (λF h=>?_) λF h=>?_
          ·exact zR h
          ·exact zX (z:=Ns6 _ () h zW)
         ·intro i6 s6 g6 _ F h;try dsimp only at h
          exact zR h
        ·exact zR h
       ·exact zR h
    ·exact zR h
   ·exact zR h
  ·exact zR h
 ·exact zR h
theorem x9(a0:aG)(a1:aG)(r:aG)(h:kM a0 a1=some r):br pw 104 [.agg (aC a0),.agg (aC a1)] (λv=>v = .agg [.p (.aV (r.az.map ag)),.p (.aV (r.aF.map aj)),.row 75 3 (r.aR.map ag),.row 102 4 (r.aP.map aj),.p (.aV (r.values.map aH)),.p (.val (.int .i64 r.next.x0)),.p (.val (.int .i64 r.next.x1))]):=by
 refine br.tF ?_;refine bB [39,68] func104 ?_;rw[ntmps104,results104];unfold kM at h;have F:=trivial;refine zF (show (0:Int)<=1 by decide) F λF=>?_
 refine zF (show (1:Int)<((2:Nat):Int) by decide) F λF=>?_
 refine zF (show (0:Int)<=0 by decide) F λF=>?_
 refine zF (show (0:Int)<((2:Nat):Int) by decide) F λF=>?_
 refine zV ?_;refine zN F h (0:Nat) [2,3,4,6,7,24,25] (λx=>[(26,.p (.val (.int .i64 ((x.1.1:Nat):Int))))]) [2,3,4,5] (λx H=>[(7,bx (H 7) [(2,.row 13397 x.2)]),(13397,.row x.2 75 3 (x.1.2.map ag))]) ?_ ?_ (hw:=by refine cU.trans (bT 7 2 13397 75 3 _ rfl rfl rfl (by decide)) ?_;exact zW)
 ·intro i2 s2 g2 _ _ F mI h;try dsimp only at h
  refine zI ag F h λe3 F h=>?_
  refine zK F h (nW _ _ _) λr4 h=>?_
  refine zC F h λF h=>?_
  refine zF (eq_true (show (s2.length+1) * 40<=140737488355328 by omega)) F λF=>?_
  refine zF (bh ag s2 [(⟨r4,e3.type,e3.values⟩:ah)] (c:=[[.val (.int .i64 r4),.val (.int .i64 e3.type),.aV (e3.values.map encI)]]) rfl) F λF=>?_
  exact zX (z:=mI _ (g2+1) h zW)
 ·intro i2 s2 g2 _ F h;try dsimp only at h
  refine zV ?_;refine zN F h (0:Nat) [2,3,4,6,7,43,44] (λx=>[(45,.p (.val (.int .i64 ((x.1.1:Nat):Int))))]) [2,3,4,5,13397] (λx H=>[(7,bx (H 7) [(3,.row 13420 x.2)]),(13420,.row x.2 102 4 (x.1.2.map aj))]) ?_ ?_ (hw:=by refine cU.trans (bT 7 3 13420 102 4 _ rfl rfl rfl (by decide)) ?_;exact zW)
  ·intro i5 s5 g5 _ _ F Ns5 h;try dsimp only at h
   refine zI aj F h λe6 F h=>?_
   refine zD [.q,.q,.q,.q,.q,.q,.q,.q,.q,.q,.q,.q,.q,.w,.q,.w,.q,.w] ?_;refine th F h (nW _ _ _) λr7 h=>?_
   refine th F h (nW _ _ _) λr8 h=>?_
   refine th F h (nW _ _ _) λr9 h=>?_
   refine zC F h λF h=>?_
   refine zF (eq_true (show (s5.length+1) * 32<=140737488355328 by omega)) F λF=>?_
   refine zF (bh aj s5 [(⟨r7,e6.type,r8,r9⟩:ak)] (c:=[[.val (.int .i64 r7),.val (.int .i64 e6.type),.val (.int .i64 r8),.val (.int .i64 r9)]]) rfl) F λF=>?_
   exact zX (z:=Ns5 _ (g5+1) h zW)
  ·intro i5 s5 g5 _ F h;try dsimp only at h
   refine zF (show (0:Int)<=1 by decide) F λF=>?_
   refine zF (show (1:Int)<((2:Nat):Int) by decide) F λF=>?_
   refine zF (show (0:Int)<=1 by decide) F λF=>?_
   refine zF (show (1:Int)<((2:Nat):Int) by decide) F λF=>?_
   refine zF (show (0:Int)<=1 by decide) F λF=>?_
   refine zF (show (1:Int)<((2:Nat):Int) by decide) F λF=>?_
   refine zF (show (0:Int)<=0 by decide) F λF=>?_
   refine zF (show (0:Int)<((2:Nat):Int) by decide) F λF=>?_
   exact iR h
end
noncomputable section
theorem pH(a0:ax)(r:aO)(h:eH a0=some r):br pw 115 [.agg (aA a0)] (λv=>v = .agg [.row 75 3 (r.nodes.map ag),.row 102 4 (r.au.map aj)]):=by
 refine br.tF ?_;refine bB [19,34] func115 ?_;rw[ntmps115,results115];unfold eH at h;have F:=trivial;refine zV ?_;refine zN F h (0:Nat) [1,2,3] (λx=>[(4,.p (.val (.int .i64 ((x.1.1:Nat):Int))))]) [1,2] (λx H=>[(3,bx (H 3) [(0,.row 5230 x.2)]),(5230,.row x.2 75 3 (x.1.2.map ag))]) ?_ ?_ (hw:=by refine cU.trans (bT 3 0 5230 75 3 _ rfl rfl rfl (by decide)) ?_;exact zW)
 ·intro i1 s1 g1 _ _ F Ns1 h;try dsimp only at h
  refine zE [(0,.p),(2,.q),(3,.q),(4,.q),(5,.p),(1,.q),(6,.w),(7,.q),(8,.w)] ?_;refine zTd F h (qA _ _) λr2 h=>?_
  refine zC F h λF h=>?_
  refine zF (eq_true (show (s1.length+1) * 40<=140737488355328 by omega)) F λF=>?_
  refine zF (bh ag s1 [r2] (c:=[[.val (.int .i64 r2.id),.val (.int .i64 r2.type),.aV (r2.values.map encI)]]) rfl) F λF=>?_
  exact zX (z:=Ns1 _ (g1+1) h zW)
 ·intro i1 s1 g1 _ F h;try dsimp only at h
  refine zV ?_;refine zN F h (0:Nat) [1,2,3] (λx=>[(5,.p (.val (.int .i64 ((x.1.1:Nat):Int))))]) [1,2,5230] (λx H=>[(3,bx (H 3) [(1,.row 5267 x.2)]),(5267,.row x.2 102 4 (x.1.2.map aj))]) ?_ ?_ (hw:=by refine cU.trans (bT 3 1 5267 102 4 _ rfl rfl rfl (by decide)) ?_;exact zW)
  ·intro i3 s3 g3 _ _ F wV h;try dsimp only at h
   refine zE [(0,.p),(2,.q),(3,.q),(4,.q),(5,.p),(1,.q),(6,.w),(7,.q),(8,.w)] ?_;refine th F h (j0 _ _) λr4 h=>?_
   refine zC F h λF h=>?_
   refine zF (eq_true (show (s3.length+1) * 32<=140737488355328 by omega)) F λF=>?_
   refine zF (bh aj s3 [r4] (c:=[[.val (.int .i64 r4.id),.val (.int .i64 r4.type),.val (.int .i64 r4.src),.val (.int .i64 r4.dst)]]) rfl) F λF=>?_
   exact zX (z:=wV _ (g3+1) h zW)
  ·intro i3 s3 g3 _ F h;try dsimp only at h
   exact iR h
theorem ya(a0:Types)(a1:Host)(a2:Int)(a3:Bool)(a4:Int)(a5:Int)(a6:Int)(r:(List cF))(h:kN a0 a1 a2 a3 a4 a5 a6=some r):br pw 264 [.agg [.aV (a0.nodes.map aJ),.aV (a0.au.map aL)],.agg (nj a1),.val (.int .i64 a2),.val (.bool a3),.val (.int .i64 a4),.val (.int .i64 a5),.val (.int .i64 a6)] (λv=>v = .row 264 4 (r.map dx)):=by
 refine br.tF ?_;refine bB [88] func264 ?_;rw[ntmps264,results264];unfold kN at h;have F:=trivial;refine zV ?_;refine zN F h (0:Nat) [2,3,4,5,6,7,8,23,24] (λx=>[(15,.row 13566 x.2),(25,.p (.val (.int .i64 ((x.1.1:Nat):Int))))]) [7,8] (λx H=>[(13566,.row x.2 264 4 (x.1.2.map dx))]) ?_ ?_ (hw:=by refine cU.trans (iF 15 13566 264 4 rfl rfl (by decide)) ?_;exact zW)
 ·intro i7 s7 g7 _ _ F Ns7 h;try dsimp only at h
  refine zI encI F h λe8 F h=>?_
  refine zK F h (apF _ _ _) λr9 h=>?_
  refine l6 F h (λF h=>?_) λF h=>?_
  ·refine zV ?_;refine zN F h () [2,3,4,5,6,7,8,15,16,23,24,25,37,38] (λx=>[(18,.p (.val (.int .i64 x.1.2))),(39,.p (.val (.int .i64 ((x.1.1:Nat):Int))))]) [7,8,13566] (λx H=>[]) ?_ ?_
   ·intro i10 s10 g10 _ _ F afG h;try dsimp only at h
    refine zI aZ F h λe11 F h=>?_
    refine mH F h (λF h=>?_) λF h=>?_
    ·refine mH F h (λF h=>?_) λF h=>?_
     ·refine rG F h (λF h=>?_) λF h=>?_
      ·exact zX (z:=afG _ () h zW)
      ·exact zX (z:=afG _ () h zW)
     ·refine zB F h (λF h=>?_) λF h=>?_
      ·exact zX (z:=afG _ () h zW)
      ·exact zX (z:=afG _ () h zW)
    ·exact zX (z:=afG _ () h zW)
   ·intro i10 s10 g10 _ F h;try dsimp only at h
    refine rG F h (λF h=>?_) λF h=>?_
    ·refine zC F h λF h=>?_
     refine zF (eq_true (show (s7.length+1) * 32<=140737488355328 by omega)) F λF=>?_
     refine zF (bh dx s7 [(⟨a2,((i7:Nat):Int),s10,a3⟩:cF)] (c:=[[.val (.int .i64 a2),.val (.int .i64 ((i7:Nat):Int)),.val (.int .i64 s10),.val (.bool a3)]]) rfl) F λF=>?_
     exact zX (z:=Ns7 _ (g7+1) h zW)
    ·refine mH F h (λF h=>?_) λF h=>?_
     ·refine zB F h (λF h=>?_) λF h=>?_
      ·refine zC F h λF h=>?_
       refine zF (eq_true (show (s7.length+1) * 32<=140737488355328 by omega)) F λF=>?_
       refine zF (bh dx s7 [(⟨a2,((i7:Nat):Int),s10,a3⟩:cF)] (c:=[[.val (.int .i64 a2),.val (.int .i64 ((i7:Nat):Int)),.val (.int .i64 s10),.val (.bool a3)]]) rfl) F λF=>?_
       exact zX (z:=Ns7 _ (g7+1) h zW)
      ·exact zX (z:=Ns7 _ g7 h zW)
     ·exact zX (z:=Ns7 _ g7 h zW)
  ·exact zX (z:=Ns7 _ g7 h zW)
 ·intro i7 s7 g7 _ F h;try dsimp only at h
  exact iR h
theorem xy(a0:eS)(a1:eS)(r:Bool)(h:jb a0 a1=some r):aS pw 119 [.agg [.aV (a0.nodes.map encI),.aV (a0.au.map aZ)],.agg [.aV (a1.nodes.map encI),.aV (a1.au.map aZ)]] (λv=>v = .val (.bool r)):=by
 refine aS.mV ?_;refine aQ [] func119 ?_;rw[ntmps119,results119];unfold jb at h;have F:=trivial;refine zK F h (jd _ _) λr2 h=>?_
 refine mH F h (λF h=>?_) λF h=>?_
 ·refine l6 F h (λF h=>?_) λF h=>?_
  ·refine zV ?_;refine zN F h () [2,3] (λx=>[(5,.p (.val (.int .i64 ((x.1.1:Nat):Int))))]) [2,3] (λx H=>[]) ?_ ?_
   ·intro i3 s3 g3 _ _ F wV h;try dsimp only at h
    refine zD [.q,.q,.q,.q,.q,.q,.q,.q,.q,.q,.q] ?_;refine zI aZ F h λe4 F h=>?_
    refine zI aZ F h λe5 F h=>?_
    refine l6 F h (λF h=>?_) λF h=>?_
    ·exact zX (z:=wV _ () h zW)
    ·exact zR h
   ·intro i3 s3 g3 _ F h;try dsimp only at h
    exact zR h
  ·exact zR h
 ·exact zR h
end
noncomputable section
theorem wJ(a0:ax)(a1:ax)(r:Bool)(h:iK a0 a1=some r):aS pw 144 [.agg (aA a0),.agg (aA a1)] (λv=>v = .val (.bool r)):=by
 refine aS.mV ?_;refine aQ [] func144 ?_;rw[ntmps144,results144];unfold iK at h;have F:=trivial;refine zV ?_;refine zN F h () [2,3] (λx=>[(5,.p (.val (.int .i64 ((x.1.1:Nat):Int))))]) [2,3] (λx H=>[]) ?_ ?_
 ·intro i2 s2 g2 _ _ F mI h;try dsimp only at h
  refine zD [.q,.q,.q,.q,.q,.q,.q,.q,.q] ?_;refine zI encI F h λe3 F h=>?_
  refine th F h (c8 _ _) λr4 h=>?_
  refine zD [.q,.q,.q,.q,.q,.q,.q,.q,.q,.q,.q,.q,.q,.q,.q,.q,.q,.q,.q,.q,.q,.q,.q,.q,.q,.q,.q,.q,.q,.q] ?_;refine th F h (c8 _ _) λr5 h=>?_
  refine amg F h (λF h=>?_) λF h=>?_
  ·exact zR h
  ·refine zBd F h (λF h=>?_) λF h=>?_
   ·refine zI encI F h λe6 F h=>?_
    refine zA encI F h λe7 F h=>?_
    refine l6 F h (λF h=>?_) λF h=>?_
    ·exact zX (z:=mI _ () h zW)
    ·exact zR h
   ·exact zX (z:=mI _ () h zW)
 ·intro i2 s2 g2 _ F h;try dsimp only at h
  refine zV ?_;refine zN F h () [2,3] (λx=>[(7,.p (.val (.int .i64 ((x.1.1:Nat):Int))))]) [2,3] (λx H=>[]) ?_ ?_
  ·intro i8 s8 g8 _ _ F Ns8 h;try dsimp only at h
   refine zD [.q,.q,.q,.q,.q,.q,.q,.q,.q] ?_;refine zI encI F h λe9 F h=>?_
   refine th F h (c8 _ _) λr10 h=>?_
   refine zD [.q,.q,.q,.q,.q,.q,.q,.q,.q,.q,.q,.q,.q,.q,.q,.q,.q,.q,.q,.q,.q,.q] ?_;refine th F h (c8 _ _) λr11 h=>?_
   refine amg F h (λF h=>?_) λF h=>?_
   ·exact zR h
   ·refine zBd F h (λF h=>?_) λF h=>?_
    ·refine th F h (j0 _ _) λr12 h=>?_
     refine th F h (j0 _ _) λr13 h=>?_
     refine l6 F h (λF h=>?_) λF h=>?_
     ·exact zX (z:=Ns8 _ () h zW)
     ·exact zR h
    ·exact zX (z:=Ns8 _ () h zW)
  ·intro i8 s8 g8 _ F h;try dsimp only at h
   exact zR h
theorem oN(a0:ax)(a1:ax)(r:(List ah)×(List ak))(h:fE a0 a1=some r):br pw 145 [.agg (aA a0),.agg (aA a1)] (λv=>v = .dQ [.row 75 3 (r.1.map ag),.row 102 4 (r.2.map aj)]):=by
 refine br.tF ?_;refine bB [31,53] func145 ?_;rw[ntmps145,results145];unfold fE at h;have F:=trivial;refine zV ?_;refine zN F h (0:Nat) [2,3,7] (λx=>[(6,.row 6520 x.2),(8,.p (.val (.int .i64 ((x.1.1:Nat):Int))))]) [2,3] (λx H=>[(6520,.row x.2 75 3 (x.1.2.map ag))]) ?_ ?_ (hw:=by refine cU.trans (iF 6 6520 75 3 rfl rfl (by decide)) ?_;exact zW)
 ·intro i2 s2 g2 _ _ F mI h;try dsimp only at h
  refine zD [.q,.q,.q,.q,.q,.q,.q,.q,.q] ?_;refine zI encI F h λe3 F h=>?_
  refine th F h (c8 _ _) λr4 h=>?_
  refine zB F h (λF h=>?_) λF h=>?_
  ·refine zG 1464 F h (qA _ _) λr5 h=>?_
   refine zC F h λF h=>?_
   refine zF (eq_true (show (s2.length+1) * 40<=140737488355328 by omega)) F λF=>?_
   refine zF (bh ag s2 [r5] (c:=[[.val (.int .i64 r5.id),.val (.int .i64 r5.type),.aV (r5.values.map encI)]]) rfl) F λF=>?_
   exact zX (z:=mI _ (g2+1) h zW)
  ·exact zX (z:=mI _ g2 h zW)
 ·intro i2 s2 g2 _ F h;try dsimp only at h
  refine zV ?_;refine zN F h (0:Nat) [2,3,6] (λx=>[(7,.row 6550 x.2),(9,.p (.val (.int .i64 ((x.1.1:Nat):Int))))]) [2,3,6520] (λx H=>[(6550,.row x.2 102 4 (x.1.2.map aj))]) ?_ ?_ (hw:=by refine cU.trans (iF 7 6550 102 4 rfl rfl (by decide)) ?_;exact zW)
  ·intro i6 s6 g6 _ _ F Ns6 h;try dsimp only at h
   refine zD [.q,.q,.q,.q,.q,.q,.q,.q,.q] ?_;refine zI encI F h λe7 F h=>?_
   refine th F h (c8 _ _) λr8 h=>?_
   refine zB F h (λF h=>?_) λF h=>?_
   ·refine zK F h (j0 _ _) λr9 h=>?_
    refine zC F h λF h=>?_
    refine zF (eq_true (show (s6.length+1) * 32<=140737488355328 by omega)) F λF=>?_
    refine zF (bh aj s6 [r9] (c:=[[.val (.int .i64 r9.id),.val (.int .i64 r9.type),.val (.int .i64 r9.src),.val (.int .i64 r9.dst)]]) rfl) F λF=>?_
    exact zX (z:=Ns6 _ (g6+1) h zW)
   ·exact zX (z:=Ns6 _ g6 h zW)
  ·intro i6 s6 g6 _ F h;try dsimp only at h
   exact iR h
theorem u5(a0:aG)(r:Int)(h:gP a0=some r):aS pw 114 [.agg (aC a0)] (λv=>v = .val (.int .i64 r)):=by
 refine aS.mV ?_;refine aQ [] func114 ?_;rw[ntmps114,results114];unfold gP at h;have F:=trivial;refine rG F h (λF h=>?_) λF h=>?_
 ·exact zR h
 ·refine rG F h (λF h=>?_) λF h=>?_
  ·exact zR h
  ·refine rG F h (λF h=>?_) λF h=>?_
   ·exact zR h
   ·refine rG F h (λF h=>?_) λF h=>?_
    ·exact zR h
    ·refine zB F h (λF h=>?_) λF h=>?_
     ·exact zR h
     ·refine zK F h (mj _) λr1 h=>?_
      refine mH F h (λF h=>?_) λF h=>?_
      ·refine zK F h (mh _) λr2 h=>?_
       refine mH F h (λF h=>?_) λF h=>?_
       ·refine zK F h (mj _) λr3 h=>?_
        refine mH F h (λF h=>?_) λF h=>?_
        ·refine zK F h (mh _) λr4 h=>?_
         refine mH F h (λF h=>?_) λF h=>?_
         ·refine zK F h (qN _) λr5 h=>?_
          refine l6 F h (λF h=>?_) λF h=>?_
          ·exact zR h
          ·exact zR h
         ·exact zR h
        ·exact zR h
       ·exact zR h
      ·exact zR h
theorem rK(a0:List ah)(a1:Int)(r:Int)(h:jw a0 a1=some r):aS pw 142 [.aV (a0.map ag),.val (.int .i64 a1)] (λv=>v = .val (.int .i64 r)):=by
 refine aS.mV ?_;refine aQ [] func142 ?_;rw[ntmps142,results142];unfold jw at h;have F:=trivial;refine zK F h (nv _ (λx2=>kA x2 a1) 239 [] [.dU [.val (.int .i64 a1)] 0] (λx2 r h=>abu x2 a1 r h)) λr3 h=>?_
 exact zR h
end
noncomputable section
theorem adl(a0:ax)(a1:ax)(r:aG×Bool)(h:mc a0 a1=some r):br pw 84 [.agg (aA a0),.agg (aA a1)] (λv=>v = .dQ [.agg [.row 75 3 (r.1.az.map ag),.row 102 4 (r.1.aF.map aj),.row 75 3 (r.1.aR.map ag),.row 102 4 (r.1.aP.map aj),.row 105 4 (r.1.values.map aH),.p (.val (.int .i64 r.1.next.x0)),.p (.val (.int .i64 r.1.next.x1))],.p (.val (.bool r.2))]):=by
 refine br.tF ?_;refine bB [76,106,146,164,182] func84 ?_;rw[ntmps84,results84];unfold mc at h;have F:=trivial;refine zD [.q,.q,.q,.q,.q,.q,.q,.q,.q,.q,.q,.q] ?_;refine zTd F h (x6 _) λr2 h=>?_
 refine zTd F h (sO _) λr3 h=>?_
 refine zTd F h (x6 _) λr4 h=>?_
 refine zTd F h (sO _) λr5 h=>?_
 refine zV ?_;refine zN F h ((0,0):Nat×Nat) [4,6,7,8,9,10,38,39] (λx=>[(40,.p (.val (.int .i64 ((x.1.1:Nat):Int))))]) [4] (λx H=>[(6,bx (H 6) [(0,.row 15025 x.2.1),(4,.row 15026 x.2.2)]),(15025,.row x.2.1 75 3 (x.1.2.1.map ag)),(15026,.row x.2.2 105 4 (x.1.2.2.map aH))]) ?_ ?_ (hw:=by refine cU.trans (bT 6 0 15025 75 3 _ rfl rfl rfl (by decide)) ?_;refine cU.trans (bT 6 4 15026 105 4 _ rfl rfl rfl (by decide)) ?_;exact zW)
 ·intro i6 s6 g6 _ _ F Ns6 h;try dsimp only at h
  refine zI ag F h λe7 F h=>?_
  refine zK F h (rK _ _) λr8 h=>?_
  refine zD [.q,.q,.q,.q,.q,.q,.q,.q,.q,.q,.q,.q,.q,.q,.q,.q,.q,.q,.q,.q] ?_;refine th F h (rI _ _) λr9 h=>?_
  refine amg F h (λF h=>?_) λF h=>?_
  ·exact iR h
  ·refine zBd F h (λF h=>?_) λF h=>?_
   ·refine zA ag F h λuU F h=>?_
    refine l6 F h (λF h=>?_) λF h=>?_
    ·refine zB F h (λF h=>?_) λF h=>?_
     ·refine zC F h λF h=>?_
      refine zF (eq_true (show (s6.1.length+1) * 40<=140737488355328 by omega)) F λF=>?_
      refine zF (bh ag s6.1 [e7] (c:=[[.val (.int .i64 e7.id),.val (.int .i64 e7.type),.aV (e7.values.map encI)]]) rfl) F λF=>?_
      exact zX (z:=Ns6 _ (g6.1+1,g6.2) h zW)
     ·refine zV ?_;refine zN F h (g6.2:Nat) [4,6,7,8,9,10,12,13,38,39,40,79,80] (λx=>[(81,.p (.val (.int .i64 ((x.1.1:Nat):Int))))]) [4,12,15025] (λx H=>[(6,bx (H 6) [(4,.row 15026 x.2)]),(15026,.row x.2 105 4 (x.1.2.map aH))]) ?_ ?_
      ·intro i11 s11 g11 _ _ F auh h;try dsimp only at h
       refine zI encI F h λvr F h=>?_
       refine zI encI F h λe13 F h=>?_
       refine l6 F h (λF h=>?_) λF h=>?_
       ·exact zX (z:=auh _ g11 h zW)
       ·refine zC F h λF h=>?_
        refine zF (eq_true (show (s11.length+1) * 32<=140737488355328 by omega)) F λF=>?_
        refine zF (bh aH s11 [(⟨e7.id,((i11:Nat):Int),vr,e13⟩:aM)] (c:=[[.val (.int .i64 e7.id),.val (.int .i64 ((i11:Nat):Int)),.val (.int .i64 vr),.val (.int .i64 e13)]]) rfl) F λF=>?_
        exact zX (z:=auh _ (g11+1) h zW)
      ·intro i11 s11 g11 _ F h;try dsimp only at h
       exact zX (z:=Ns6 _ (g6.1,g11) h zW)
    ·exact iR h
   ·refine zB F h (λF h=>?_) λF h=>?_
    ·refine zC F h λF h=>?_
     refine zF (eq_true (show (s6.1.length+1) * 40<=140737488355328 by omega)) F λF=>?_
     refine zF (bh ag s6.1 [e7] (c:=[[.val (.int .i64 e7.id),.val (.int .i64 e7.type),.aV (e7.values.map encI)]]) rfl) F λF=>?_
     exact zX (z:=Ns6 _ (g6.1+1,g6.2) h zW)
    ·refine zV ?_;refine zN F h (g6.2:Nat) [4,6,7,8,9,10,12,13,38,39,40,79,80] (λx=>[(81,.p (.val (.int .i64 ((x.1.1:Nat):Int))))]) [4,12,15025] (λx H=>[(6,bx (H 6) [(4,.row 15026 x.2)]),(15026,.row x.2 105 4 (x.1.2.map aH))]) ?_ ?_
     ·intro i14 vP g14 _ _ F acr h;try dsimp only at h
      refine zI encI F h λe15 F h=>?_
      refine zA ag F h λe16 F h=>?_
      refine zI encI F h λe17 F h=>?_
      refine l6 F h (λF h=>?_) λF h=>?_
      ·exact zX (z:=acr _ g14 h zW)
      ·refine zC F h λF h=>?_
       refine zF (eq_true (show (vP.length+1) * 32<=140737488355328 by omega)) F λF=>?_
       refine zF (bh aH vP [(⟨e7.id,((i14:Nat):Int),e15,e17⟩:aM)] (c:=[[.val (.int .i64 e7.id),.val (.int .i64 ((i14:Nat):Int)),.val (.int .i64 e15),.val (.int .i64 e17)]]) rfl) F λF=>?_
       exact zX (z:=acr _ (g14+1) h zW)
     ·intro i14 vP g14 _ F h;try dsimp only at h
      exact zX (z:=Ns6 _ (g6.1,g14) h zW)
 ·intro i6 s6 g6 _ F h;try dsimp only at h
  refine zV ?_;refine zN F h (0:Nat) [4,6,7,8,9,10,110,111] (λx=>[(112,.p (.val (.int .i64 ((x.1.1:Nat):Int))))]) [4,15025,15026] (λx H=>[(6,bx (H 6) [(1,.row 15169 x.2)]),(15169,.row x.2 102 4 (x.1.2.map aj))]) ?_ ?_ (hw:=by refine cU.trans (bT 6 1 15169 102 4 _ rfl rfl rfl (by decide)) ?_;exact zW)
  ·intro i18 s18 g18 _ _ F aui h;try dsimp only at h
   refine zI aj F h λyw F h=>?_
   refine zK F h (rI _ _) λr20 h=>?_
   refine zD [.q,.q,.q,.q,.q,.q,.q,.q,.q,.q,.q,.q,.q,.q,.q,.q,.q,.q] ?_;refine th F h (rK _ _) λr21 h=>?_
   refine amg F h (λF h=>?_) λF h=>?_
   ·exact iR h
   ·refine zBd F h (λF h=>?_) λF h=>?_
    ·refine zA aj F h λe22 F h=>?_
     refine l6 F h (λF h=>?_) λF h=>?_
     ·refine zB F h (λF h=>?_) λF h=>?_
      ·refine zC F h λF h=>?_
       refine zF (eq_true (show (s18.length+1) * 32<=140737488355328 by omega)) F λF=>?_
       refine zF (bh aj s18 [yw] (c:=[[.val (.int .i64 yw.id),.val (.int .i64 yw.type),.val (.int .i64 yw.src),.val (.int .i64 yw.dst)]]) rfl) F λF=>?_
       exact zX (z:=aui _ (g18+1) h zW)
      ·exact zX (z:=aui _ g18 h zW)
     ·exact iR h
    ·refine zB F h (λF h=>?_) λF h=>?_
     ·refine zC F h λF h=>?_
      refine zF (eq_true (show (s18.length+1) * 32<=140737488355328 by omega)) F λF=>?_
      refine zF (bh aj s18 [yw] (c:=[[.val (.int .i64 yw.id),.val (.int .i64 yw.type),.val (.int .i64 yw.src),.val (.int .i64 yw.dst)]]) rfl) F λF=>?_
      exact zX (z:=aui _ (g18+1) h zW)
     ·exact zX (z:=aui _ g18 h zW)
  ·intro i18 s18 g18 _ F h;try dsimp only at h
   refine zV ?_;refine zN F h (0:Nat) [4,6,7,8,10,149,150] (λx=>[(151,.p (.val (.int .i64 ((x.1.1:Nat):Int))))]) [4,15025,15169,15026] (λx H=>[(6,bx (H 6) [(2,.row 15212 x.2)]),(15212,.row x.2 75 3 (x.1.2.map ag))]) ?_ ?_ (hw:=by refine cU.trans (bT 6 2 15212 75 3 _ rfl rfl rfl (by decide)) ?_;exact zW)
   ·intro i23 s23 g23 _ _ F aEE h;try dsimp only at h
    refine zI ag F h λe24 F h=>?_
    refine zK F h (rK _ _) λr25 h=>?_
    refine zB F h (λF h=>?_) λF h=>?_
    ·refine zC F h λF h=>?_
     refine zF (eq_true (show (s23.length+1) * 40<=140737488355328 by omega)) F λF=>?_
     refine zF (bh ag s23 [e24] (c:=[[.val (.int .i64 e24.id),.val (.int .i64 e24.type),.aV (e24.values.map encI)]]) rfl) F λF=>?_
     exact zX (z:=aEE _ (g23+1) h zW)
    ·exact zX (z:=aEE _ g23 h zW)
   ·intro i23 s23 g23 _ F h;try dsimp only at h
    refine zV ?_;refine zN F h (0:Nat) [4,6,8,167,168] (λx=>[(169,.p (.val (.int .i64 ((x.1.1:Nat):Int))))]) [4,15025,15169,15212,15026] (λx H=>[(6,bx (H 6) [(3,.row 15233 x.2)]),(15233,.row x.2 102 4 (x.1.2.map aj))]) ?_ ?_ (hw:=by refine cU.trans (bT 6 3 15233 102 4 _ rfl rfl rfl (by decide)) ?_;exact zW)
    ·intro i26 s26 g26 _ _ F aEF h;try dsimp only at h
     refine zI aj F h λe27 F h=>?_
     refine zK F h (rI _ _) λr28 h=>?_
     refine zB F h (λF h=>?_) λF h=>?_
     ·refine zC F h λF h=>?_
      refine zF (eq_true (show (s26.length+1) * 32<=140737488355328 by omega)) F λF=>?_
      refine zF (bh aj s26 [e27] (c:=[[.val (.int .i64 e27.id),.val (.int .i64 e27.type),.val (.int .i64 e27.src),.val (.int .i64 e27.dst)]]) rfl) F λF=>?_
      exact zX (z:=aEF _ (g26+1) h zW)
     ·exact zX (z:=aEF _ g26 h zW)
    ·intro i26 s26 g26 _ F h;try dsimp only at h
     exact iR h
end
noncomputable section
theorem xz(a0:aG)(a1:aG)(r:aG)(h:gJ a0 a1=some r):br pw 161 [.agg (aC a0),.agg (aC a1)] (λv=>v = .agg [.row 75 3 (r.az.map ag),.row 102 4 (r.aF.map aj),.row 75 3 (r.aR.map ag),.row 102 4 (r.aP.map aj),.row 105 4 (r.values.map aH),.p (.val (.int .i64 r.next.x0)),.p (.val (.int .i64 r.next.x1))]):=by
 refine br.tF ?_;refine bB [40,66,102] func161 ?_;rw[ntmps161,results161];unfold gJ at h;have F:=trivial;refine zG 1192 F h (jH _) λr2 h=>?_
 refine zV ?_;refine zN F h (0:Nat) [2,3,4,5] (λx=>[(6,.p (.val (.int .i64 ((x.1.1:Nat):Int))))]) [2,3,4,1194,1195] (λx H=>[(5,bx (H 5) [(0,.row 10286 x.2)]),(10286,.row x.2 75 3 (x.1.2.map ag))]) ?_ ?_ (hw:=by refine cU.trans (bT 5 0 10286 75 3 _ rfl rfl rfl (by decide)) ?_;exact zW)
 ·intro i3 s3 g3 _ _ F wV h;try dsimp only at h
  refine zD [.q,.q,.q,.q,.q,.q,.q,.q,.q] ?_;refine zI ag F h λe4 F h=>?_
  refine th F h (eu _ _) λr5 h=>?_
  refine l6 F h (λF h=>?_) λF h=>?_
  ·exact zX (z:=wV _ g3 h zW)
  ·refine zE [(0,.p),(2,.q),(3,.q),(4,.q),(5,.q),(6,.q),(7,.p),(1,.q),(8,.w),(9,.q),(10,.w)] ?_;refine zC F h λF h=>?_
   refine zF (eq_true (show (s3.length+1) * 40<=140737488355328 by omega)) F λF=>?_
   refine zF (bh ag s3 [e4] (c:=[[.val (.int .i64 e4.id),.val (.int .i64 e4.type),.aV (e4.values.map encI)]]) rfl) F λF=>?_
   exact zX (z:=wV _ (g3+1) h zW)
 ·intro i3 s3 g3 _ F h;try dsimp only at h
  refine zV ?_;refine zN F h (0:Nat) [2,3,4,5] (λx=>[(7,.p (.val (.int .i64 ((x.1.1:Nat):Int))))]) [2,3,4,10286,1194,1195] (λx H=>[(5,bx (H 5) [(1,.row 10329 x.2)]),(10329,.row x.2 102 4 (x.1.2.map aj))]) ?_ ?_ (hw:=by refine cU.trans (bT 5 1 10329 102 4 _ rfl rfl rfl (by decide)) ?_;exact zW)
  ·intro i6 s6 g6 _ _ F Ns6 h;try dsimp only at h
   refine zD [.q,.q,.q,.q,.q,.q,.q,.q,.q] ?_;refine zI aj F h λe7 F h=>?_
   refine th F h (xx _ _) λr8 h=>?_
   refine l6 F h (λF h=>?_) λF h=>?_
   ·exact zX (z:=Ns6 _ g6 h zW)
   ·refine zE [(0,.p),(2,.q),(3,.q),(4,.q),(5,.q),(6,.q),(7,.p),(1,.q),(8,.w),(9,.q),(10,.w)] ?_;refine zC F h λF h=>?_
    refine zF (eq_true (show (s6.length+1) * 32<=140737488355328 by omega)) F λF=>?_
    refine zF (bh aj s6 [e7] (c:=[[.val (.int .i64 e7.id),.val (.int .i64 e7.type),.val (.int .i64 e7.src),.val (.int .i64 e7.dst)]]) rfl) F λF=>?_
    exact zX (z:=Ns6 _ (g6+1) h zW)
  ·intro i6 s6 g6 _ F h;try dsimp only at h
   refine zV ?_;refine zN F h (0:Nat) [2,3,4,5] (λx=>[(8,.p (.val (.int .i64 ((x.1.1:Nat):Int))))]) [2,3,4,10286,10329,1194,1195] (λx H=>[(5,bx (H 5) [(4,.row 10372 x.2)]),(10372,.row x.2 105 4 (x.1.2.map aH))]) ?_ ?_ (hw:=by refine cU.trans (bT 5 4 10372 105 4 _ rfl rfl rfl (by decide)) ?_;exact zW)
   ·intro i9 s9 g9 _ _ F Ns9 h;try dsimp only at h
    refine zD [.q,.q,.q,.q,.q,.q,.q,.q,.q,.q,.q,.q,.q,.q,.q,.q,.o,.w,.s,.q] ?_;refine zI aH F h λuU F h=>?_
    refine th F h (jQ _ _ _) λr11 h=>?_
    refine l6 F h (λF h=>?_) λF h=>?_
    ·exact zX (z:=Ns9 _ g9 h zW)
    ·refine zE [(0,.p),(2,.q),(3,.q),(4,.q),(5,.q),(6,.q),(7,.p),(1,.q),(8,.w),(9,.q),(10,.w)] ?_;refine zC F h λF h=>?_
     refine zF (eq_true (show (s9.length+1) * 32<=140737488355328 by omega)) F λF=>?_
     refine zF (bh aH s9 [uU] (c:=[[.val (.int .i64 uU.id),.val (.int .i64 uU.attr),.val (.int .i64 uU.old),.val (.int .i64 uU.new)]]) rfl) F λF=>?_
     exact zX (z:=Ns9 _ (g9+1) h zW)
   ·intro i9 s9 g9 _ F h;try dsimp only at h
    exact iR h
end
noncomputable section
theorem oO(a0:aG)(a1:aG)(r:aG)(h:er a0 a1=some r):br pw 162 [.agg (aC a0),.agg (aC a1)] (λv=>v = .agg [.row 75 3 (r.az.map ag),.row 102 4 (r.aF.map aj),.row 75 3 (r.aR.map ag),.row 102 4 (r.aP.map aj),.row 105 4 (r.values.map aH),.p (.val (.int .i64 r.next.x0)),.p (.val (.int .i64 r.next.x1))]):=by
 refine br.tF ?_;refine bB [] func162 ?_;rw[ntmps162,results162];unfold er at h;have F:=trivial;refine zG 1192 F h (jH _) λr2 h=>?_
 refine zD [.q,.q,.q,.q,.q,.q,.q,.q,.q,.q,.q,.q] ?_;refine zF (show (0:Int)<=0 by decide) F λF=>?_
 refine zF (show (0:Int)<((2:Nat):Int) by decide) F λF=>?_
 refine zF (show (0:Int)<=1 by decide) F λF=>?_
 refine zF (show (1:Int)<((2:Nat):Int) by decide) F λF=>?_
 refine zF (show (0:Int)<=0 by decide) F λF=>?_
 refine zF (show (0:Int)<((2:Nat):Int) by decide) F λF=>?_
 refine zV ?_;refine zL F h (0:Nat) [2,3,4,5,6,7] (λx=>[(8,.p (.val (.int .i64 x.1.1)))]) [2,3,4,1192,1193,1195,1196] (λx H=>[(5,bx (H 5) [(2,.row 1194 x.2)]),(1194,.row x.2 75 3 (x.1.2.map ag))]) ?_;intro s3 g3 _ _ F wV h;try dsimp only at h
 refine zB F h (λF h=>?_) λF h=>?_
 ·refine zD [.q,.q,.q,.q,.q,.q,.q,.q,.q,.q,.q,.q,.q,.q,.w] ?_;refine zA ag F h λe4 F h=>?_
  refine th F h (jP _ _ _) λr5 h=>?_
  refine zF (wE ag s3.2 s3.1.toNat (⟨r5,e4.type,e4.values⟩:ah) (c:=[.val (.int .i64 r5),.val (.int .i64 e4.type),.aV (e4.values.map encI)]) rfl) F λF=>?_
  exact zX (z:=wV _ g3 h zW)
 ·try dsimp only at h
  refine zV ?_;refine zL F h (0:Nat) [2,3,4,5,6,7] (λx=>[(9,.p (.val (.int .i64 x.1.1)))]) [2,3,4,1192,1193,1194,1196] (λx H=>[(5,bx (H 5) [(3,.row 1195 x.2)]),(1195,.row x.2 102 4 (x.1.2.map aj))]) ?_;intro s6 g6 _ _ F Ns6 h;try dsimp only at h
  refine zB F h (λF h=>?_) λF h=>?_
  ·refine zA aj F h λe7 F h=>?_
   refine zD [.q,.q,.q,.q,.q,.q,.q,.q,.q,.q,.q,.q,.q,.q,.q,.q,.q,.q,.q,.q,.q,.q,.w] ?_;refine th F h (jP _ _ _) λr8 h=>?_
   refine th F h (jP _ _ _) λr9 h=>?_
   refine th F h (jP _ _ _) λr10 h=>?_
   refine zF (wE aj s6.2 s6.1.toNat (⟨r8,e7.type,r9,r10⟩:ak) (c:=[.val (.int .i64 r8),.val (.int .i64 e7.type),.val (.int .i64 r9),.val (.int .i64 r10)]) rfl) F λF=>?_
   exact zX (z:=Ns6 _ g6 h zW)
  ·try dsimp only at h
   refine zF (show (0:Int)<=1 by decide) F λF=>?_
   refine zF (show (1:Int)<((2:Nat):Int) by decide) F λF=>?_
   refine zF (show (0:Int)<=1 by decide) F λF=>?_
   refine zF (show (1:Int)<((2:Nat):Int) by decide) F λF=>?_
   refine zF (show (0:Int)<=1 by decide) F λF=>?_
   refine zF (show (1:Int)<((2:Nat):Int) by decide) F λF=>?_
   refine zF (show (0:Int)<=0 by decide) F λF=>?_
   refine zF (show (0:Int)<((2:Nat):Int) by decide) F λF=>?_
   exact iR h
end
noncomputable section
theorem xA(a0:ax)(a1:ax)(r:aG×Bool)(h:iY a0 a1=some r):br pw 85 [.agg (aA a0),.agg (aA a1)] (λv=>v = .dQ [.agg [.row 75 3 (r.1.az.map ag),.row 102 4 (r.1.aF.map aj),.row 75 3 (r.1.aR.map ag),.row 102 4 (r.1.aP.map aj),.row 105 4 (r.1.values.map aH),.p (.val (.int .i64 r.1.next.x0)),.p (.val (.int .i64 r.1.next.x1))],.p (.val (.bool r.2))]):=by
 refine br.tF ?_;refine bB [100] func85 ?_;rw[ntmps85,results85];unfold iY at h;have F:=trivial;refine zK F h (wJ _ _) λr2 h=>?_
 refine l6 F h (λF h=>?_) λF h=>?_
 ·refine zG 1416 F h (oN _ _) λr3 h=>?_
  refine zG 1544 F h (oN _ _) λr4 h=>?_
  refine zV ?_;refine zN F h (0:Nat) [2,3,4,6] (λx=>[(7,.p (.val (.int .i64 ((x.1.1:Nat):Int))))]) [2,3,4,1416,1417,1544,1545] (λx H=>[(6,bx (H 6) [(4,.row 6674 x.2)]),(6674,.row x.2 105 4 (x.1.2.map aH))]) ?_ ?_ (hw:=by refine cU.trans (bT 6 4 6674 105 4 _ rfl rfl rfl (by decide)) ?_;exact zW)
  ·intro i5 s5 g5 _ _ F Ns5 h;try dsimp only at h
   refine zD [.q,.q,.q,.q,.q,.q,.q,.q,.q] ?_;refine zI encI F h λe6 F h=>?_
   refine th F h (c8 _ _) λr7 h=>?_
   refine zB F h (λF h=>?_) λF h=>?_
   ·exact zX (z:=Ns5 _ g5 h zW)
   ·refine zV ?_;refine zL F h (g5:Nat) [2,3,4,6,7,8] (λx=>[(9,.p (.val (.int .i64 x.1.1)))]) [2,3,4,1416,1417,1544,1545] (λx H=>[(6,bx (H 6) [(4,.row 6674 x.2)]),(6674,.row x.2 105 4 (x.1.2.map aH))]) ?_;intro s8 g8 _ _ F Ns8 h;try dsimp only at h
    refine zI bI F h λe9 F h=>?_
    refine zB F h (λF h=>?_) λF h=>?_
    ·refine zD [.q,.q,.q,.q,.q,.q,.q,.q,.q,.q,.q,.q,.q,.q,.q,.q,.q,.q,.q,.q] ?_;refine zA encI F h λuU F h=>?_
     refine zA bI F h λe11 F h=>?_
     refine zA encI F h λvr F h=>?_
     refine l6 F h (λF h=>?_) λF h=>?_
     ·exact zX (z:=Ns8 _ g8 h zW)
     ·refine zE [(0,.p),(2,.q),(3,.q),(4,.q),(5,.q),(6,.q),(7,.q),(8,.q),(9,.q),(10,.q),(11,.p),(1,.q),(12,.w),(13,.q),(14,.w)] ?_;refine zC F h λF h=>?_
      refine zF (eq_true (show (s8.2.length+1) * 32<=140737488355328 by omega)) F λF=>?_
      refine zF (bh aH s8.2 [(⟨e6,s8.1,uU,vr⟩:aM)] (c:=[[.val (.int .i64 e6),.val (.int .i64 s8.1),.val (.int .i64 uU),.val (.int .i64 vr)]]) rfl) F λF=>?_
      exact zX (z:=Ns8 _ (g8+1) h zW)
    ·try dsimp only at h
     exact zX (z:=Ns5 _ g8 h zW)
  ·intro i5 s5 g5 _ F h;try dsimp only at h
   exact iR h
 ·exact iR h
theorem yb(a0:aG)(a1:Int)(r:Bool)(h:jk a0 a1=some r):aS pw 100 [.agg (aC a0),.val (.int .i64 a1)] (λv=>v = .val (.bool r)):=by
 refine aS.mV ?_;refine aQ [] func100 ?_;rw[ntmps100,results100];unfold jk at h;have F:=trivial;refine zK F h (lH _ (λx2=>kW x2 a1) 169 [] [.dU [.val (.int .i64 a1)] 0] (λx2 r h=>acq x2 a1 r h)) λr3 h=>?_
 exact zR h
end
noncomputable section
theorem jq(a0:aO)(a1:ah)(r:aO×Bool)(h:cc a0 a1=some r):aS pw 197 [.agg [.aV (a0.nodes.map ag),.aV (a0.au.map aj)],.agg (ag a1)] (λv=>v = .dQ [.agg [.aV (r.1.nodes.map ag),.aV (r.1.au.map aj)],.val (.bool r.2)]):=by
 refine aS.mV ?_;refine aQ [21,26] func197 ?_;rw[ntmps197,results197];unfold cc at h;have F:=trivial;refine zV ?_;refine zN F h () [2,3,4] (λx=>[(6,.p (.val (.int .i64 ((x.1.1:Nat):Int))))]) [2,3,4] (λx H=>[]) ?_ ?_
 ·intro i2 s2 g2 _ _ F mI h;try dsimp only at h
  have Ws2:=F.2.2;refine zD [.q,.q,.q,.q,.q,.q,.q] ?_;refine zI ag F h λe3 F h=>?_
  refine th F h (oq _ _) λr4 h=>?_
  refine zB F h (λF h=>?_) λF h=>?_
  ·refine zE [(1,.q),(2,.q),(3,.q),(4,.q),(6,.b),(7,.b),(8,.b),(9,.b),(10,.b),(12,.b),(13,.b),(0,.w),(5,.s),(11,.w),(14,.q),(15,.w),(16,.q)] ?_;refine zC F h λF h=>?_
   refine zF (eq_true (eW (n:=3) (f:=ag) (λ_=>rfl) a0.nodes)) F λF=>?_
   refine zC F h λF h=>?_
   have w:=F.2;simp only[Ws2,Int.toNat_natCast] at w;replace F:=And.intro F w;refine zF (eq_true (eW (n:=3) (f:=ag) (λ_=>rfl) a0.nodes)) F λF=>?_
   refine zC F h λF h=>?_
   refine zF (eq_true (show ((a0.nodes.take i2).length) * 40<=140737488355328 by omega)) F λF=>?_
   refine zF (eq_true (eW (n:=3) (f:=ag) (λ_=>rfl) (a0.nodes.take i2))) F λF=>?_
   refine zC F h λF h=>?_
   have w:=F.2;simp only[Ws2,Int.toNat_natCast] at w;replace F:=And.intro F w;refine zF (eq_true (show ((a0.nodes.take i2).length+(a0.nodes.drop (i64.wrap (((i2:Nat):Int)+1)).toNat).length) * 40<=140737488355328 by omega)) F λF=>?_
   have w:=F.2;simp only[Ws2,Int.toNat_natCast] at w;replace F:=And.intro F w;refine zF (eq_true (eW (n:=3) (f:=ag) (λ_=>rfl) (a0.nodes.drop (i64.wrap (((i2:Nat):Int)+1)).toNat))) F λF=>?_
   have w:=F.2;simp only[Ws2,Int.toNat_natCast] at w;replace F:=And.intro F w;exact zR h
  ·exact zX (z:=mI _ () h zW)
 ·intro i2 s2 g2 _ F h;try dsimp only at h
  exact zR h
theorem uI(a0:Types)(a1:ax)(a2:aG)(a3:aG)(r:ax×ax×Int)(h:kz a0 a1 a2 a3=some r):aS pw 52 [.agg [.aV (a0.nodes.map aJ),.aV (a0.au.map aL)],.agg (aA a1),.agg (aC a2),.agg (aC a3)] (λv=>v = .dQ [.agg (aA r.1),.agg (aA r.2.1),.val (.int .i64 r.2.2)]):=by
 refine aS.mV ?_;refine aQ [2000008] func52 ?_;rw[ntmps52,results52];unfold kz at h;have F:=trivial;refine zK F h (pM _ _ _) λr4 h=>?_
 refine l6 F h (λF h=>?_) λF h=>?_
 ·refine zD [.q,.q,.q,.q,.q,.w,.s] ?_;refine zTd F h (x9 _ _) λr5 h=>?_
  refine zTd F h (aeh _ _) λr6 h=>?_
  refine rG F h (λF h=>?_) λF h=>?_
  ·exact zR h
  ·refine zB F h (λF h=>?_) λF h=>?_
   ·exact zR h
   ·refine zK F h (pM _ _ _) λr7 h=>?_
    refine zD [.q,.o,.p,.s,.w,.q] ?_;exact zR h
 ·exact zR h
end
noncomputable section
theorem qP(a0:aG)(a1:ax)(r:aG)(h:dM a0 a1=some r):br pw 160 [.agg (aC a0),.agg (aA a1)] (λv=>v = .agg [.row 75 3 (r.az.map ag),.row 102 4 (r.aF.map aj),.row 75 3 (r.aR.map ag),.row 102 4 (r.aP.map aj),.row 105 4 (r.values.map aH),.p (.val (.int .i64 r.next.x0)),.p (.val (.int .i64 r.next.x1))]):=by
 refine br.tF ?_;refine bB [] func160 ?_;rw[ntmps160,results160];unfold dM at h;have F:=trivial;refine zG 1144 F h (jH _) λr2 h=>?_
 refine zV ?_;refine zL F h (0:Nat) [3,4,5] (λx=>[(6,.p (.val (.int .i64 x.1.1)))]) [3,4,1145,1146,1147,1148] (λx H=>[(5,bx (H 5) [(0,.row 1144 x.2)]),(1144,.row x.2 75 3 (x.1.2.map ag))]) ?_;intro s3 g3 _ _ F wV h;try dsimp only at h
 refine zB F h (λF h=>?_) λF h=>?_
 ·refine zV ?_;refine zN F h (g3:Nat) [3,4,5,6] (λx=>[(7,.p (.val (.int .i64 ((x.1.1:Nat):Int))))]) [3,4,1145,1146,1147,1148] (λx H=>[(5,bx (H 5) [(0,.row 1144 x.2)]),(1144,.row x.2 75 3 (x.1.2.map ag))]) ?_ ?_
  ·intro i4 s4 g4 _ _ F Ns4 h;try dsimp only at h
   refine zD [.q,.q,.q,.q,.q,.q,.q,.q,.q,.q,.q,.q] ?_;refine zI encI F h λe5 F h=>?_
   refine zA ag F h λe6 F h=>?_
   refine zB F h (λF h=>?_) λF h=>?_
   ·refine zE [(0,.p),(2,.p),(3,.p),(1,.b),(4,.q),(5,.q),(6,.q),(7,.q),(8,.q),(9,.q),(10,.w),(11,.q),(12,.q),(13,.w)] ?_;refine zI bI F h λe7 F h=>?_
    refine zC F h λF h=>?_
    refine zF (eq_true (show (e7.length) * 8<=140737488355328 by omega)) F λF=>?_
    refine zF (eq_true (eW (n:=1) (f:=encI) (λ_=>rfl) e7)) F λF=>?_
    refine zF (wE ag s4 s3.1.toNat (⟨e6.id,e6.type,e7⟩:ah) (c:=[.val (.int .i64 e6.id),.val (.int .i64 e6.type),.aV (e7.map encI)]) rfl) F λF=>?_
    exact zX (z:=Ns4 _ g4 h zW)
   ·exact zX (z:=Ns4 _ g4 h zW)
  ·intro i4 s4 g4 _ F h;try dsimp only at h
   exact zX (z:=wV _ g4 h zW)
 ·try dsimp only at h
  exact iR h
theorem nZ(a0:List ah)(a1:List ah)(r:Bool)(h:eO a0 a1=some r):aS pw 61 [.aV (a0.map ag),.aV (a1.map ag)] (λv=>v = .val (.bool r)):=by
 refine aS.mV ?_;refine aQ [] func61 ?_;rw[ntmps61,results61];unfold eO at h;have F:=trivial;refine l6 F h (λF h=>?_) λF h=>?_
 ·refine zV ?_;refine zN F h () [0,1] (λx=>[(5,.p (.val (.int .i64 ((x.1.1:Nat):Int))))]) [] (λx H=>[]) ?_ ?_
  ·intro i2 s2 g2 _ _ F mI h;try dsimp only at h
   refine zD [.q,.q,.q,.q,.q,.q,.q,.q,.q,.q] ?_;refine zI ag F h λe3 F h=>?_
   refine zI ag F h λe4 F h=>?_
   refine th F h (oq _ _) λr5 h=>?_
   refine l6 F h (λF h=>?_) λF h=>?_
   ·exact zX (z:=mI _ () h zW)
   ·exact zR h
  ·intro i2 s2 g2 _ F h;try dsimp only at h
   exact zR h
 ·exact zR h
end
noncomputable section
theorem agV(a0:Types)(a1:ax)(a2:aG)(a3:aG)(r:ax×Int)(h:pG a0 a1 a2 a3=some r):aS pw 105 [.agg [.aV (a0.nodes.map aJ),.aV (a0.au.map aL)],.agg (aA a1),.agg (aC a2),.agg (aC a3)] (λv=>v = .dQ [.agg (aA r.1),.val (.int .i64 r.2)]):=by
 refine aS.mV ?_;refine aQ [] func105 ?_;rw[ntmps105,results105];unfold pG at h;have F:=trivial;refine zG 1208 F h (x9 _ _) λr4 h=>?_
 refine zF (show (0:Int)<=0 by decide) F λF=>?_
 refine zF (show (0:Int)<((2:Nat):Int) by decide) F λF=>?_
 refine zKs [1208,1209] F h (pM _ _ _) λr5 h=>?_
 exact zR h
theorem aek(a0:Types)(a1:Host)(r:(List cF)×Int)(h:nt a0 a1=some r):br pw 187 [.agg [.aV (a0.nodes.map aJ),.aV (a0.au.map aL)],.agg (nj a1)] (λv=>v = .dQ [.row 264 4 (r.1.map dx),.p (.val (.int .i64 r.2))]):=by
 refine br.tF ?_;refine bB [35] func187 ?_;rw[ntmps187,results187];unfold nt at h;have F:=trivial;refine zK F h (ajy _ _) λr2 h=>?_
 refine l6 F h (λF h=>?_) λF h=>?_
 ·refine zV ?_;refine zN F h (0:Nat) [2,3,17,18] (λx=>[(7,.row 13646 x.2),(19,.p (.val (.int .i64 ((x.1.1:Nat):Int))))]) [2,3] (λx H=>[(13646,.row x.2 264 4 (x.1.2.map dx))]) ?_ ?_ (hw:=by refine cU.trans (iF 7 13646 264 4 rfl rfl (by decide)) ?_;exact zW)
  ·intro i3 s3 g3 _ _ F wV h;try dsimp only at h
   refine zI aL F h λe4 F h=>?_
   refine zG 1544 F h (ya _ _ _ _ _ _ _) λr5 h=>?_
   refine zC F h λF h=>?_
   refine zF (eq_true (show (s3.length+r5.length) * 32<=140737488355328 by omega)) F λF=>?_
   refine zF (eq_true (eW (n:=4) (f:=dx) (λ_=>rfl) r5)) F λF=>?_
   refine zG 1736 F h (ya _ _ _ _ _ _ _) λr6 h=>?_
   refine zC F h λF h=>?_
   refine zF (eq_true (show (s3.length+r5.length+r6.length) * 32<=140737488355328 by omega)) F λF=>?_
   refine zF (eq_true (eW (n:=4) (f:=dx) (λ_=>rfl) r6)) F λF=>?_
   exact zX (z:=wV _ (g3+1+1) h zW)
  ·intro i3 s3 g3 _ F h;try dsimp only at h
   exact iR h
 ·exact iR h
theorem xB(a0:Host)(a1:Host)(r:Bool)(h:jc a0 a1=some r):aS pw 59 [.agg (nj a0),.agg (nj a1)] (λv=>v = .val (.bool r)):=by
 refine aS.mV ?_;refine aQ [] func59 ?_;rw[ntmps59,results59];unfold jc at h;have F:=trivial;refine zK F h (xy _ _) λr2 h=>?_
 refine mH F h (λF h=>?_) λF h=>?_
 ·refine l6 F h (λF h=>?_) λF h=>?_
  ·refine zV ?_;refine zN F h () [2,3] (λx=>[(5,.p (.val (.int .i64 ((x.1.1:Nat):Int))))]) [2,3] (λx H=>[]) ?_ ?_
   ·intro i3 s3 g3 _ _ F wV h;try dsimp only at h
    refine zD [.q,.q,.q,.q,.q,.q,.q,.q,.q,.q,.q,.q] ?_;refine zI bI F h λe4 F h=>?_
    refine zI bI F h λe5 F h=>?_
    refine th F h (uZ _ _) λr6 h=>?_
    refine l6 F h (λF h=>?_) λF h=>?_
    ·exact zX (z:=wV _ () h zW)
    ·exact zR h
   ·intro i3 s3 g3 _ F h;try dsimp only at h
    exact zR h
  ·exact zR h
 ·exact zR h
end
noncomputable section
theorem je(a0:Types)(a1:ax)(r:(List bJ))(h:dD a0 a1=some r):br pw 163 [.agg [.aV (a0.nodes.map aJ),.aV (a0.au.map aL)],.agg (aA a1)] (λv=>v = .row 241 3 (r.map bY)):=by
 refine br.tF ?_;refine bB [44] func163 ?_;rw[ntmps163,results163];unfold dD at h;have F:=trivial;refine zG 1208 F h (uH _ _) λr2 h=>?_
 refine zV ?_;refine zN F h (0:Nat) [3,5] (λx=>[(7,.row 11553 x.2),(8,.p (.val (.int .i64 ((x.1.1:Nat):Int))))]) [3,1208] (λx H=>[(11553,.row x.2 241 3 (x.1.2.map bY))]) ?_ ?_ (hw:=by refine cU.trans (iF 7 11553 241 3 rfl rfl (by decide)) ?_;exact zW)
 ·intro i3 s3 g3 _ _ F wV h;try dsimp only at h
  refine zD [.p,.q,.q,.q,.q,.q,.q,.q,.q,.q,.q,.q,.q,.q,.q,.q,.q,.q,.q,.q,.q,.p,.w,.q] ?_;refine zI dx F h λe4 F h=>?_
  refine zA encI F h λe5 F h=>?_
  refine zC F h λF h=>?_
  refine zF (eq_true (show (s3.length+1) * 24<=140737488355328 by omega)) F λF=>?_
  refine zF (bh bY s3 [(⟨e5,e4.iu,e4.out⟩:bJ)] (c:=[[.val (.int .i64 e5),.val (.int .i64 e4.iu),.val (.bool e4.out)]]) rfl) F λF=>?_
  exact zX (z:=wV _ (g3+1) h zW)
 ·intro i3 s3 g3 _ F h;try dsimp only at h
  exact iR h
theorem aaP(a0:aG)(r:Bool)(h:nE a0=some r):aS pw 99 [.agg (aC a0)] (λv=>v = .val (.bool r)):=by
 refine aS.mV ?_;refine aQ [] func99 ?_;rw[ntmps99,results99];unfold nE at h;have F:=trivial;refine zF (show (0:Int)<=1 by decide) F λF=>?_
 refine zF (show (1:Int)<((2:Nat):Int) by decide) F λF=>?_
 refine zF (show (0:Int)<=0 by decide) F λF=>?_
 refine zF (show (0:Int)<((2:Nat):Int) by decide) F λF=>?_
 refine mH F h (λF h=>?_) λF h=>?_
 ·refine zK F h (lH _ (λx1=>nq x1 (⟨a0.az,a0.aF,a0.aR,a0.aP,a0.values,a0.next⟩:aG)) 166 [] [.dU (aC (⟨a0.az,a0.aF,a0.aR,a0.aP,a0.values,a0.next⟩:aG)) 0] (λx1 r h=>aei x1 (⟨a0.az,a0.aF,a0.aR,a0.aP,a0.values,a0.next⟩:aG) r h)) λr2 h=>?_
  refine rG F h (λF h=>?_) λF h=>?_
  ·exact zR h
  ·refine zK F h (qO _ (λx3=>nr x3 (⟨a0.az,a0.aF,a0.aR,a0.aP,a0.values,a0.next⟩:aG)) 168 [] [.dU (aC (⟨a0.az,a0.aF,a0.aR,a0.aP,a0.values,a0.next⟩:aG)) 0] (λx3 r h=>aej x3 (⟨a0.az,a0.aF,a0.aR,a0.aP,a0.values,a0.next⟩:aG) r h)) λr4 h=>?_
   exact zR h
 ·exact zR h
end
noncomputable section
theorem pS(a0:aG)(a1:aG)(r:(List aI))(h:iC a0 a1=some r):br pw 51 [.agg (aC a0),.agg (aC a1)] (λv=>v = .row 57 3 (r.map aB)):=by
 refine br.tF ?_;refine bB [58,81,124] func51 ?_;rw[ntmps51,results51];unfold iC at h;have F:=trivial;obtain⟨l2,hl3,h⟩:=nR h;have hm4:l2.map lW=[[.aV (a0.az.map ag),.aV (a0.aF.map aj),.aV (a0.aR.map ag),.aV (a0.aP.map aj),.aV (a0.values.map aH),.val (.int .i64 a0.next.x0),.val (.int .i64 a0.next.x1),.aV (a1.az.map ag),.aV (a1.aF.map aj),.aV (a1.aR.map ag),.aV (a1.aP.map aj),.aV (a1.values.map aH),.val (.int .i64 a1.next.x0),.val (.int .i64 a1.next.x1)],[.aV (a1.az.map ag),.aV (a1.aF.map aj),.aV (a1.aR.map ag),.aV (a1.aP.map aj),.aV (a1.values.map aH),.val (.int .i64 a1.next.x0),.val (.int .i64 a1.next.x1),.aV (a0.az.map ag),.aV (a0.aF.map aj),.aV (a0.aR.map ag),.aV (a0.aP.map aj),.aV (a0.values.map aH),.val (.int .i64 a0.next.x0),.val (.int .i64 a0.next.x1)]]:=by cases hl3;rfl
 refine zV ?_;refine zN F h ((0,0):Nat×Nat) [2,3,7,27] (λx=>[(5,.row 12959 x.2.1),(6,.row 12960 x.2.2),(26,.p (.aV (l2.map lW))),(28,.p (.val (.int .i64 ((x.1.1:Nat):Int))))]) [2,3] (λx H=>[(12959,.row x.2.1 57 3 (x.1.2.1.map aB)),(12960,.row x.2.2 57 3 (x.1.2.2.map aB))]) ?_ ?_ (hw:=by refine cU.trans (iF 5 12959 57 3 rfl rfl (by decide)) ?_;refine cU.trans (iF 6 12960 57 3 rfl rfl (by decide)) ?_;exact xW (by simp -implicitDefEqProofs only[go_sem,F,hm4]<;>and_intros<;>rfl))
 ·intro i5 s5 g5 _ _ F Ns5 h;try dsimp only at h
  refine zI lW F h λe6 F h=>?_
  refine zF (show (0:Int)<=1 by decide) F λF=>?_
  refine zF (show (1:Int)<((2:Nat):Int) by decide) F λF=>?_
  refine zV ?_;refine zN F h (g5.1:Nat) [2,3,6,7,9,26,27,28,34,35] (λx=>[(5,.row 12959 x.2),(36,.p (.val (.int .i64 ((x.1.1:Nat):Int))))]) [2,3,12960,9] (λx H=>[(12959,.row x.2 57 3 (x.1.2.map aB))]) ?_ ?_
  ·intro i7 s7 g7 _ _ F Ns7 h;try dsimp only at h
   refine zI aj F h λe8 F h=>?_
   obtain⟨l9,aIn,h⟩:=nR h;have aIo:l9.map encI=[[.val (.int .i64 e8.src)],[.val (.int .i64 e8.dst)]]:=by cases aIn;rfl
   refine zV ?_;refine zN F h (g7:Nat) [2,3,6,7,9,26,27,28,34,35,36,45] (λx=>[(5,.row 12959 x.2),(44,.p (.aV (l9.map encI))),(46,.p (.val (.int .i64 ((x.1.1:Nat):Int))))]) [2,3,12960,9] (λx H=>[(12959,.row x.2 57 3 (x.1.2.map aB))]) ?_ ?_ (hw:=by exact xW (by simp -implicitDefEqProofs only[go_sem,F,aIo]<;>and_intros<;>rfl))
   ·intro i12 s12 g12 _ _ F ayQ h;try dsimp only at h
    refine zI encI F h λe13 F h=>?_
    refine zF (show (0:Int)<=0 by decide) F λF=>?_
    refine zF (show (0:Int)<((2:Nat):Int) by decide) F λF=>?_
    refine zK F h (yb _ _) λr14 h=>?_
    refine zB F h (λF h=>?_) λF h=>?_
    ·refine zC F h λF h=>?_
     refine zF (eq_true (show (s12.length+1) * 24<=140737488355328 by omega)) F λF=>?_
     refine zF (bh aB s12 [(⟨1,e13,(-1)⟩:aI)] (c:=[[.val (.int .i64 1),.val (.int .i64 e13),.val (.int .i64 (-1))]]) rfl) F λF=>?_
     exact zX (z:=ayQ _ (g12+1) h zW)
    ·exact zX (z:=ayQ _ g12 h zW)
   ·intro i12 s12 g12 _ F h;try dsimp only at h
    exact zX (z:=Ns7 _ g12 h zW)
  ·intro i7 s7 g7 _ F h;try dsimp only at h
   refine zF (show (0:Int)<=1 by decide) F λF=>?_
   refine zF (show (1:Int)<((2:Nat):Int) by decide) F λF=>?_
   refine zV ?_;refine zN F h (g5.2:Nat) [2,3,5,7,9,26,27,28,63,64] (λx=>[(6,.row 12960 x.2),(65,.p (.val (.int .i64 ((x.1.1:Nat):Int))))]) [2,3,12959,9] (λx H=>[(12960,.row x.2 57 3 (x.1.2.map aB))]) ?_ ?_
   ·intro i15 xZ g15 _ _ F agT h;try dsimp only at h
    refine zI aH F h λe16 F h=>?_
    refine zF (show (0:Int)<=0 by decide) F λF=>?_
    refine zF (show (0:Int)<((2:Nat):Int) by decide) F λF=>?_
    refine zK F h (yb _ _) λr17 h=>?_
    refine zB F h (λF h=>?_) λF h=>?_
    ·refine zC F h λF h=>?_
     refine zF (eq_true (show (xZ.length+1) * 24<=140737488355328 by omega)) F λF=>?_
     refine zF (bh aB xZ [(⟨2,e16.id,e16.attr⟩:aI)] (c:=[[.val (.int .i64 2),.val (.int .i64 e16.id),.val (.int .i64 e16.attr)]]) rfl) F λF=>?_
     exact zX (z:=agT _ (g15+1) h zW)
    ·exact zX (z:=agT _ g15 h zW)
   ·intro i15 xZ g15 _ F h;try dsimp only at h
    exact zX (z:=Ns5 _ (g7,g15) h zW)
 ·intro i5 s5 g5 _ F h;try dsimp only at h
  refine zV ?_;refine zN F h (0:Nat) [3,5,6,85,86] (λx=>[(7,.row 13245 x.2),(87,.p (.val (.int .i64 ((x.1.1:Nat):Int))))]) [3,12959,12960] (λx H=>[(13245,.row x.2 57 3 (x.1.2.map aB))]) ?_ ?_ (hw:=by refine cU.trans (iF 7 13245 57 3 rfl rfl (by decide)) ?_;exact zW)
  ·intro i18 s18 g18 _ _ F aui h;try dsimp only at h
   refine zI aH F h λyw F h=>?_
   refine zV ?_;refine zN F h (g18:Nat) [3,5,6,17,85,86,87,92,93] (λx=>[(7,.row 13245 x.2),(94,.p (.val (.int .i64 ((x.1.1:Nat):Int))))]) [3,12959,12960,17] (λx H=>[(13245,.row x.2 57 3 (x.1.2.map aB))]) ?_ ?_
   ·intro i20 s20 g20 _ _ F agU h;try dsimp only at h
    refine zI aH F h λe21 F h=>?_
    refine mH F h (λF h=>?_) λF h=>?_
    ·refine mH F h (λF h=>?_) λF h=>?_
     ·refine l6 F h (λF h=>?_) λF h=>?_
      ·exact zX (z:=agU _ g20 h zW)
      ·refine zC F h λF h=>?_
       refine zF (eq_true (show (s20.length+1) * 24<=140737488355328 by omega)) F λF=>?_
       refine zF (bh aB s20 [(⟨3,yw.id,yw.attr⟩:aI)] (c:=[[.val (.int .i64 3),.val (.int .i64 yw.id),.val (.int .i64 yw.attr)]]) rfl) F λF=>?_
       exact zX (z:=agU _ (g20+1) h zW)
     ·exact zX (z:=agU _ g20 h zW)
    ·exact zX (z:=agU _ g20 h zW)
   ·intro i20 s20 g20 _ F h;try dsimp only at h
    exact zX (z:=aui _ g20 h zW)
  ·intro i18 s18 g18 _ F h;try dsimp only at h
   refine zMb F h (pL g5.1 _) λr22 h=>?_
   refine zMb F h (pL g5.2 _) λr23 h=>?_
   refine zMb F h (pL g18 _) λr24 h=>?_
   refine zG 3144 F h (uX _) λr25 h=>?_
   exact iR h
end
noncomputable section
theorem sU(a0:aO)(a1:aG)(r:aO×Bool)(h:fP a0 a1=some r):aS pw 116 [.agg [.aV (a0.nodes.map ag),.aV (a0.au.map aj)],.agg (aC a1)] (λv=>v = .dQ [.agg [.aV (r.1.nodes.map ag),.aV (r.1.au.map aj)],.val (.bool r.2)]):=by
 refine aS.mV ?_;refine aQ [] func116 ?_;rw[ntmps116,results116];unfold fP at h;have F:=trivial;refine zV ?_;refine zL F h () [2,3,4] (λx=>[(6,.p (.val (.bool x.1.1))),(7,.p (.val (.int .i64 x.1.2.1)))]) [3,4] (λx H=>[(2,.box [.p (.aV (x.1.2.2.1.map ag)),.p (.aV (x.1.2.2.2.map aj))])]) ?_;intro s2 g2 _ _ F mI h;try dsimp only at h
 refine mH F h (λF h=>?_) λF h=>?_
 ·refine zB F h (λF h=>?_) λF h=>?_
  ·refine zD [.q,.q,.q,.q,.q,.q,.q,.q,.q,.p,.w,.q] ?_;refine zA aj F h λe3 F h=>?_
   refine th F h (lG _ _) λr4 h=>?_
   exact zX (z:=mI _ () h zW)
  ·try dsimp only at h
   refine zV ?_;refine zL F h () [2,3,4] (λx=>[(6,.p (.val (.bool x.1.1))),(8,.p (.val (.int .i64 x.1.2.1)))]) [3,4] (λx H=>[(2,.box [.p (.aV (x.1.2.2.1.map ag)),.p (.aV (x.1.2.2.2.map aj))])]) ?_;intro s5 g5 _ _ F Ns5 h;try dsimp only at h
   refine mH F h (λF h=>?_) λF h=>?_
   ·refine zB F h (λF h=>?_) λF h=>?_
    ·refine zD [.q,.q,.q,.q,.q,.q,.q,.q,.q,.p,.w,.q] ?_;refine zA ag F h λe6 F h=>?_
     refine th F h (jq _ _) λr7 h=>?_
     exact zX (z:=Ns5 _ () h zW)
    ·try dsimp only at h
     refine zV ?_;refine zL F h () [2,3,4] (λx=>[(6,.p (.val (.bool x.1.1))),(9,.p (.val (.int .i64 x.1.2.1)))]) [3,4] (λx H=>[(2,.box [.p (.aV (x.1.2.2.1.map ag)),.p (.aV (x.1.2.2.2.map aj))])]) ?_;intro s8 g8 _ _ F Ns8 h;try dsimp only at h
     refine mH F h (λF h=>?_) λF h=>?_
     ·refine zB F h (λF h=>?_) λF h=>?_
      ·refine zD [.q,.q,.q,.q,.q,.q,.q,.q,.q,.p,.w,.q] ?_;refine zA aH F h λe9 F h=>?_
       refine zTd F h (iP _ _) λr10 h=>?_
       exact zX (z:=Ns8 _ () h zW)
      ·try dsimp only at h
       exact zR h
     ·try dsimp only at h
      exact zR h
   ·try dsimp only at h
    refine zV ?_;refine zL F h () [2,3,4] (λx=>[(6,.p (.val (.bool x.1.1))),(9,.p (.val (.int .i64 x.1.2.1)))]) [3,4] (λx H=>[(2,.box [.p (.aV (x.1.2.2.1.map ag)),.p (.aV (x.1.2.2.2.map aj))])]) ?_;intro s11 g11 _ _ F auh h;try dsimp only at h
    refine mH F h (λF h=>?_) λF h=>?_
    ·refine zB F h (λF h=>?_) λF h=>?_
     ·refine zD [.q,.q,.q,.q,.q,.q,.q,.q,.q,.p,.w,.q] ?_;refine zA aH F h λvr F h=>?_
      refine zTd F h (iP _ _) λr13 h=>?_
      exact zX (z:=auh _ () h zW)
     ·try dsimp only at h
      exact zR h
    ·try dsimp only at h
     exact zR h
 ·try dsimp only at h
  refine zV ?_;refine zL F h () [2,3,4] (λx=>[(6,.p (.val (.bool x.1.1))),(8,.p (.val (.int .i64 x.1.2.1)))]) [3,4] (λx H=>[(2,.box [.p (.aV (x.1.2.2.1.map ag)),.p (.aV (x.1.2.2.2.map aj))])]) ?_;intro vP g14 _ _ F acr h;try dsimp only at h
  refine mH F h (λF h=>?_) λF h=>?_
  ·refine zB F h (λF h=>?_) λF h=>?_
   ·refine zD [.q,.q,.q,.q,.q,.q,.q,.q,.q,.p,.w,.q] ?_;refine zA ag F h λe15 F h=>?_
    refine th F h (jq _ _) λr16 h=>?_
    exact zX (z:=acr _ () h zW)
   ·try dsimp only at h
    refine zV ?_;refine zL F h () [2,3,4] (λx=>[(6,.p (.val (.bool x.1.1))),(9,.p (.val (.int .i64 x.1.2.1)))]) [3,4] (λx H=>[(2,.box [.p (.aV (x.1.2.2.1.map ag)),.p (.aV (x.1.2.2.2.map aj))])]) ?_;intro s17 g17 _ _ F aIp h;try dsimp only at h
    refine mH F h (λF h=>?_) λF h=>?_
    ·refine zB F h (λF h=>?_) λF h=>?_
     ·refine zD [.q,.q,.q,.q,.q,.q,.q,.q,.q,.p,.w,.q] ?_;refine zA aH F h λe18 F h=>?_
      refine zTd F h (iP _ _) λr19 h=>?_
      exact zX (z:=aIp _ () h zW)
     ·try dsimp only at h
      exact zR h
    ·try dsimp only at h
     exact zR h
  ·try dsimp only at h
   refine zV ?_;refine zL F h () [2,3,4] (λx=>[(6,.p (.val (.bool x.1.1))),(9,.p (.val (.int .i64 x.1.2.1)))]) [3,4] (λx H=>[(2,.box [.p (.aV (x.1.2.2.1.map ag)),.p (.aV (x.1.2.2.2.map aj))])]) ?_;intro s20 g20 _ _ F agU h;try dsimp only at h
   refine mH F h (λF h=>?_) λF h=>?_
   ·refine zB F h (λF h=>?_) λF h=>?_
    ·refine zD [.q,.q,.q,.q,.q,.q,.q,.q,.q,.p,.w,.q] ?_;refine zA aH F h λe21 F h=>?_
     refine zTd F h (iP _ _) λr22 h=>?_
     exact zX (z:=agU _ () h zW)
    ·try dsimp only at h
     exact zR h
   ·try dsimp only at h
    exact zR h
end
noncomputable section
theorem vT(a0:Types)(a1:ax)(a2:aG)(a3:aG)(r:Int)(h:jD a0 a1 a2 a3=some r):aS pw 50 [.agg [.aV (a0.nodes.map aJ),.aV (a0.au.map aL)],.agg (aA a1),.agg (aC a2),.agg (aC a3)] (λv=>v = .val (.int .i64 r)):=by
 refine aS.mV ?_;refine aQ [] func50 ?_;rw[ntmps50,results50];unfold jD at h;have F:=trivial;obtain⟨l4,hl5,h⟩:=nR h;have hm6:l4.map aC=[[.aV (a2.az.map ag),.aV (a2.aF.map aj),.aV (a2.aR.map ag),.aV (a2.aP.map aj),.aV (a2.values.map aH),.val (.int .i64 a2.next.x0),.val (.int .i64 a2.next.x1)],[.aV (a3.az.map ag),.aV (a3.aF.map aj),.aV (a3.aR.map ag),.aV (a3.aP.map aj),.aV (a3.values.map aH),.val (.int .i64 a3.next.x0),.val (.int .i64 a3.next.x1)]]:=by cases hl5;rfl
 refine zV ?_;refine zN F h () [4,5,6,7,16] (λx=>[(15,.p (.aV (l4.map aC))),(17,.p (.val (.int .i64 ((x.1.1:Nat):Int))))]) [4,5,6,7] (λx H=>[]) ?_ ?_ (hw:=by exact xW (by simp -implicitDefEqProofs only[go_sem,F,hm6]<;>and_intros<;>rfl))
 ·intro i7 s7 g7 _ _ F Ns7 h;try dsimp only at h
  refine zI aC F h λe8 F h=>?_
  refine zK F h (pM _ _ _) λr9 h=>?_
  refine l6 F h (λF h=>?_) λF h=>?_
  ·exact zX (z:=Ns7 _ () h zW)
  ·exact zR h
 ·intro i7 s7 g7 _ F h;try dsimp only at h
  refine zK F h (aaP _) λr10 h=>?_
  refine mH F h (λF h=>?_) λF h=>?_
  ·refine zK F h (aaP _) λr11 h=>?_
   refine l6 F h (λF h=>?_) λF h=>?_
   ·refine zF (show (0:Int)<=1 by decide) F λF=>?_
    refine zF (show (1:Int)<((2:Nat):Int) by decide) F λF=>?_
    refine zF (show (0:Int)<=1 by decide) F λF=>?_
    refine zF (show (1:Int)<((2:Nat):Int) by decide) F λF=>?_
    refine zF (show (0:Int)<=0 by decide) F λF=>?_
    refine zF (show (0:Int)<((2:Nat):Int) by decide) F λF=>?_
    refine zB F h (λF h=>?_) λF h=>?_
    ·exact zR h
    ·exact zR h
   ·exact zR h
  ·exact zR h
end
noncomputable section
theorem oP(a0:ax)(a1:Bool)(a2:Int)(r:ax)(h:fD a0 a1 a2=some r):br pw 151 [.agg (aA a0),.val (.bool a1),.val (.int .i64 a2)] (λv=>v = .agg [.row 3 1 (r.host.graph.nodes.map encI),.row 175 3 (r.host.graph.au.map aZ),.row 32 1 (r.host.values.map bI),.row 3 1 (r.nodes.map encI),.row 3 1 (r.au.map encI),.p (.val (.int .i64 r.next))]):=by
 refine br.tF ?_;refine bB [] func151 ?_;rw[ntmps151,results151];unfold fD at h;have F:=trivial;refine zG 1144 F h (pH _) λr3 h=>?_
 refine zB F h (λF h=>?_) λF h=>?_
 ·refine zV ?_;refine kL 1144 0 75 3 (r3.nodes.map ag) [] (by simp -implicitDefEqProofs only[go_sem,F]<;>rfl) (by simp -implicitDefEqProofs only[go_sem,F]<;>and_intros<;>rfl) (by decide) ?_;refine kL 1145 0 102 4 (r3.au.map aj) [] (by simp -implicitDefEqProofs only[go_sem,F]<;>rfl) (by simp -implicitDefEqProofs only[go_sem,F]<;>and_intros<;>rfl) (by decide) ?_;refine zD [.q,.q,.q,.q,.q,.q,.q,.q,.q,.p,.w] ?_;refine zA aj F h λe4 F h=>?_
  refine th F h (lG _ _) λr5 h=>?_
  refine zG 1544 F h (jo _ _) λr6 h=>?_
  exact iR h
 ·refine zV ?_;refine kL 1144 0 75 3 (r3.nodes.map ag) [] (by simp -implicitDefEqProofs only[go_sem,F]<;>rfl) (by simp -implicitDefEqProofs only[go_sem,F]<;>and_intros<;>rfl) (by decide) ?_;refine kL 1145 0 102 4 (r3.au.map aj) [] (by simp -implicitDefEqProofs only[go_sem,F]<;>rfl) (by simp -implicitDefEqProofs only[go_sem,F]<;>and_intros<;>rfl) (by decide) ?_;refine zD [.q,.q,.q,.q,.q,.q,.q,.q,.q,.p,.w] ?_;refine zA ag F h λe7 F h=>?_
  refine th F h (jq _ _) λr8 h=>?_
  refine zG 1544 F h (jo _ _) λr9 h=>?_
  exact iR h
end
noncomputable section
theorem tJ(a0:aG)(a1:aG)(r:Bool)(h:eR a0 a1=some r):aS pw 21 [.agg (aC a0),.agg (aC a1)] (λv=>v = .val (.bool r)):=by
 refine aS.mV ?_;refine aQ [] func21 ?_;rw[ntmps21,results21];unfold eR at h;have F:=trivial;refine zK F h (nZ _ _) λr2 h=>?_
 refine mH F h (λF h=>?_) λF h=>?_
 ·refine zK F h (nZ _ _) λr3 h=>?_
  refine mH F h (λF h=>?_) λF h=>?_
  ·refine zK F h (nX _ _) λr4 h=>?_
   refine mH F h (λF h=>?_) λF h=>?_
   ·refine zK F h (nX _ _) λr5 h=>?_
    refine mH F h (λF h=>?_) λF h=>?_
    ·refine l6 F h (λF h=>?_) λF h=>?_
     ·refine zV ?_;refine zN F h () [2,3] (λx=>[(5,.p (.val (.int .i64 ((x.1.1:Nat):Int))))]) [2,3] (λx H=>[]) ?_ ?_
      ·intro i6 s6 g6 _ _ F Ns6 h;try dsimp only at h
       refine zD [.q,.q,.q,.q,.q,.q,.q,.q,.q,.q,.q] ?_;refine zI aH F h λe7 F h=>?_
       refine zI aH F h λe8 F h=>?_
       refine l6 F h (λF h=>?_) λF h=>?_
       ·exact zX (z:=Ns6 _ () h zW)
       ·exact zR h
      ·intro i6 s6 g6 _ F h;try dsimp only at h
       refine zF (at6 (P:=pw) .eql 44 (by kernel_rfl)) F λF=>?_
       refine zV ?_;refine ayy 44 3 rfl (by kernel_rfl) (by kernel_rfl) (by kernel_rfl) (by kernel_rfl) (by simp -implicitDefEqProofs only[go_sem,F]<;>first|exact⟨rfl,rfl⟩|rfl) (by simp -implicitDefEqProofs only[go_sem,F]<;>first|exact⟨rfl,rfl⟩|rfl) ?_;exact zR h
     ·exact zR h
    ·exact zR h
   ·exact zR h
  ·exact zR h
 ·exact zR h
end
noncomputable section
theorem oF(a0:Types)(a1:ax)(r:(List bn))(h:iL a0 a1=some r):br pw 107 [.agg [.aV (a0.nodes.map aJ),.aV (a0.au.map aL)],.agg (aA a1)] (λv=>v = .row 188 3 (r.map ct)):=by
 refine br.tF ?_;refine bB [36] func107 ?_;rw[ntmps107,results107];unfold iL at h;have F:=trivial;refine zG 1224 F h (aek _ _) λr2 h=>?_
 refine zV ?_;refine zN F h (0:Nat) [3,17,18] (λx=>[(7,.row 13695 x.2),(19,.p (.val (.int .i64 ((x.1.1:Nat):Int))))]) [3,1224] (λx H=>[(13695,.row x.2 188 3 (x.1.2.map ct))]) ?_ ?_ (hw:=by refine cU.trans (iF 7 13695 188 3 rfl rfl (by decide)) ?_;exact zW)
 ·intro i3 s3 g3 _ _ F wV h;try dsimp only at h
  refine zI dx F h λe4 F h=>?_
  refine zD [.p,.q,.q,.q,.q,.q,.q,.q,.q,.q,.q,.q,.p,.w,.q] ?_;refine zA encI F h λe5 F h=>?_
  refine zC F h λF h=>?_
  refine zF (eq_true (show (s3.length+1) * 24<=140737488355328 by omega)) F λF=>?_
  refine zF (bh ct s3 [(⟨e5,e4.iu,e4.out⟩:bn)] (c:=[[.val (.int .i64 e5),.val (.int .i64 e4.iu),.val (.bool e4.out)]]) rfl) F λF=>?_
  exact zX (z:=wV _ (g3+1) h zW)
 ·intro i3 s3 g3 _ F h;try dsimp only at h
  exact iR h
end
noncomputable section
theorem qD(a0:Types)(a1:ax)(a2:ax)(r:aG×Int)(h:gI a0 a1 a2=some r):br pw 35 [.agg [.aV (a0.nodes.map aJ),.aV (a0.au.map aL)],.agg (aA a1),.agg (aA a2)] (λv=>v = .dQ [.agg [.row 75 3 (r.1.az.map ag),.row 102 4 (r.1.aF.map aj),.row 75 3 (r.1.aR.map ag),.row 102 4 (r.1.aP.map aj),.row 105 4 (r.1.values.map aH),.p (.val (.int .i64 r.1.next.x0)),.p (.val (.int .i64 r.1.next.x1))],.p (.val (.int .i64 r.2))]):=by
 refine br.tF ?_;refine bB [] func35 ?_;rw[ntmps35,results35];unfold gI at h;have F:=trivial;refine zK F h (iM _ _) λr3 h=>?_
 refine l6 F h (λF h=>?_) λF h=>?_
 ·refine zK F h (iM _ _) λr4 h=>?_
  refine l6 F h (λF h=>?_) λF h=>?_
  ·refine zG 1464 F h (xA _ _) λr5 h=>?_
   refine l6 F h (λF h=>?_) λF h=>?_
   ·exact iR h
   ·exact iR h
  ·exact iR h
 ·exact iR h
end
noncomputable section
theorem afH(a0:Types)(a1:ax)(a2:ax)(r:aG×Int)(h:me a0 a1 a2=some r):br pw 34 [.agg [.aV (a0.nodes.map aJ),.aV (a0.au.map aL)],.agg (aA a1),.agg (aA a2)] (λv=>v = .dQ [.agg [.row 75 3 (r.1.az.map ag),.row 102 4 (r.1.aF.map aj),.row 75 3 (r.1.aR.map ag),.row 102 4 (r.1.aP.map aj),.row 105 4 (r.1.values.map aH),.p (.val (.int .i64 r.1.next.x0)),.p (.val (.int .i64 r.1.next.x1))],.p (.val (.int .i64 r.2))]):=by
 refine br.tF ?_;refine bB [] func34 ?_;rw[ntmps34,results34];unfold me at h;have F:=trivial;refine zK F h (pK _ _) λr3 h=>?_
 refine l6 F h (λF h=>?_) λF h=>?_
 ·refine zK F h (pK _ _) λr4 h=>?_
  refine l6 F h (λF h=>?_) λF h=>?_
  ·refine zG 1464 F h (adl _ _) λr5 h=>?_
   refine l6 F h (λF h=>?_) λF h=>?_
   ·exact iR h
   ·exact iR h
  ·exact iR h
 ·exact iR h
theorem qE(a0:ax)(a1:ax)(r:Bool)(h:gL a0 a1=some r):aS pw 20 [.agg (aA a0),.agg (aA a1)] (λv=>v = .val (.bool r)):=by
 refine aS.mV ?_;refine aQ [] func20 ?_;rw[ntmps20,results20];unfold gL at h;have F:=trivial;refine zK F h (xB _ _) λr2 h=>?_
 refine mH F h (λF h=>?_) λF h=>?_
 ·refine zK F h (jd _ _) λr3 h=>?_
  refine mH F h (λF h=>?_) λF h=>?_
  ·refine zK F h (jd _ _) λr4 h=>?_
   refine mH F h (λF h=>?_) λF h=>?_
   ·exact zR h
   ·exact zR h
  ·exact zR h
 ·exact zR h
end
end Go.Proofs.YtjhkgjlmiolfoaaGreat
