/- Joined texts, part 6: lemmas for the statement. No condition. -/
import Derived.Test.YteambpeibacfpaaGreatJ5
import Derived.Test.YteambpeibacfpaaGreatJ4
import Derived.LoopTactic
import Derived.WalkKit
import Derived.Maps.RangeRun
import Derived.Test.YteambpeibacfpaaGreatJ3
set_option maxHeartbeats 4000000
set_option linter.unusedSimpArgs false
set_option linter.unusedVariables false
open Nat (reduceEqDiff reduceLT reduceLeDiff reduceMul reduceAdd reduceSub)
open Go.IntKind (i64)
open Go.Proofs.Tryz
open Go.Proofs.Tryz renaming prog → pw
set_option maxRecDepth 20000
open List hiding Mem idxOf replace
open Int (toNat_natCast)
namespace Go.Proofs.YteambpeibacfpaaGreat
open Go.b7
theorem ah2(k:Nat):∀ (es:List (List PV)) (dx:Nat->Value) (i:Nat),(fJ k dx es).drop i=fJ k (λj=>dx (j+i)) (es.drop i)
 | [],dx,i=>by simp[fJ]
 |x :: r,dx,0=>by simp
 |x :: r,dx,i+1=>by simp only[fJ,drop_succ_cons];rw[ah2 k r _ i];rfl
theorem aeI(k:Nat):∀ (es fs:List (List PV)) (dx:Nat->Value),fJ k dx (es++fs)=fJ k dx es++fJ k (λj=>dx (j+es.length)) fs
 | [],fs,dx=>by simp[fJ]
 |x :: r,fs,dx=>by simp only[cons_append,fJ,length_cons];rw[aeI k r fs];rfl
theorem ah3(k:Nat):∀ (es:List (List PV)) (dx:Nat->Value) (i:Nat),(fJ k dx es).take i=fJ k dx (es.take i)
 | [],dx,i=>by simp[fJ]
 |x :: r,dx,0=>by simp[fJ]
 |x :: r,dx,i+1=>by simp only[fJ,take_succ_cons,ah3 k r]
theorem aor(k:Nat)(es:List (List PV))(dx:Nat->Value)(i:Nat)(hi:i<es.length):(fJ k dx es).take i++(fJ k dx es).drop (i+1)=fJ k (λj=>dx (if j<i then j else j+1)) (es.take i++es.drop (i+1)):=by
 rw[ah3,ah2,aeI];have hl:(es.take i).length=i:=by simp;omega
 rw[hl];congr 1
 ·exact wZ k _ _ _ λj hj=>by rw[if_pos (by omega)]
 ·exact wZ k _ _ _ λj hj=>by rw[if_neg (by omega)];rfl
theorem avE{α:Type}(es:List α)(i:Nat)(hi:i<es.length)(j:Nat)(hj:j<(es.take i++es.drop (i+1)).length):(if j<i then j else j+1)<es.length/\(es.take i++es.drop (i+1))[j]? = es[if j<i then j else j+1]?:=by
 have hl:(es.take i).length=i:=by simp;omega
 rw[length_append,hl,length_drop] at hj;by_cases h:j<i
 ·rw[if_pos h,getElem?_append_left (by omega),getElem?_take,if_pos h];exact⟨by omega,rfl⟩
 ·rw[if_neg h,getElem?_append_right (by omega),hl,getElem?_drop,show i+1+(j-i)=j+1 by omega];exact⟨by omega,rfl⟩
theorem avF(i:Nat){j k:Nat}(h:(if j<i then j else j+1)=(if k<i then k else k+1)):j=k:=by split at h<;>split at h<;>omega
def stH(l:List aj)(v:Nat)(m:List ax)(u:Nat):List (Nat×Chunk):=[(1000000,.box [.fm 1000001 v,.row 1000002 u]),(1000001,.deep v 96 3 2 3 1 (l.map ag)),(1000002,.row u 125 4 (m.map ak))]
theorem avG(p:aQ)(l:List aj)(m:List ax)(v u:Nat)(hl:l.length<=1000000)(hm:m.length<=1000000)(hv:∀n∈l,n.values.length<=1000000)(h1:p.aG.length<=1000000)(h2:p.aM.length<=1000000)(h3:∀n∈p.aG,n.values.length<=1000000)
  (R:Bool×List aj×Nat) (hR:mq l p.aG v=R) (S:Bool×List ax×Nat) (hS:n9 m p.aM u=S) :
  ym pw 93 (bN (stH l v m u)) [.ptr 1000000 0,.p (.agg (aJ p))] λa H=>mV a (.p (.val (.bool (R.1&&S.1))))/\wo H (stH R.2.1 R.2.2 (if R.1 then S.2.1 else m) (if R.1 then S.2.2 else u)):=by
 refine wY [] Ty.mixed func93 rfl (by kernel_rfl) (by simp[ntmps93]) ?_;rw[ntmps93,results93];simp only[go_sem,aJ,stH];refine bV (σ:=Nat×List aj×Nat) (λx=>(c9 (c9 (c9 (c9 (c9 gI 0 (.ptr 1000000 0)) 3 (.ptr 3 0)) 12 (.p (.aL (p.aG.map ag)))) 13 (.p (.val (.int .i64 p.aG.length)))) 14 (.p (.val (.int .i64 x.1))))) (λx=>(br (br (br (br ct 3 (.box [.p (.aL (p.aG.map ag)),.p (.aL (p.aM.map ak)),.p (.aL (p.aV.map ag)),.p (.aL (p.bn.map ak)),.p (.aL (p.values.map aP)),.p (.val (.int .i64 p.next.x0)),.p (.val (.int .i64 p.next.x1))])) 1000000 (.box [.fm 1000001 x.2.2,.row 1000002 u])) 1000001 (.deep x.2.2 96 3 2 3 1 (x.2.1.map ag))) 1000002 (.row u 125 4 (m.map ak))))
  (λx=>x.1<=p.aG.length/\mq x.2.1 (p.aG.drop x.1) x.2.2=R/\x.2.1.length<=1000000/\∀n∈x.2.1,n.values.length<=1000000) (λx=>p.aG.length-x.1) (0,l,v) ⟨Nat.zero_le _,hR,hl,hv⟩ cu ?_
 rintro⟨t,l',v'⟩ ⟨ht,hR',hl',xD⟩;simp only at ht hR' hl' xD;simp only[go_sem];refine aI (λhc=>?_) (λhc=>?_)
 ·have hlt:t<p.aG.length:=by have:=bX hc;omega
  have hdr:p.aG.drop t=p.aG.getD t default :: p.aG.drop (t+1):=by rw[drop_eq_getElem_cons hlt];simp[hlt]
  rw[hdr,mq] at hR';simp only[go_sem,getD_map ag hlt,ag];refine⟨hlt,?_⟩;refine dO [.p,.q,.q,.q,.q,.q,.q,.p] (by kernel_rfl) ?_;simp only[go_sem];refine jH (afy l' hl' (p.aG.getD t default).id) (by simp only[go_sem]<;>rfl) (cB rfl) ?_;simp only[go_sem];cases hfi:l'.findIdx? λm=>decide (m.id=(p.aG.getD t default).id) with
  |none =>
   rw[hfi] at hR';simp only at hR';have hidx:idxOf (λn:aj=>decide (n.id=(p.aG.getD t default).id)) l' = -1:=by unfold idxOf;rw[hfi]
   simp only[go_sem,hidx];refine dO [.p,.p,.p,.p,.p,.q,.q,.p,.q,.q,.q,.q,.p,.p] (by kernel_rfl) ?_;have hneg:decide ((-1:Int)<0)=true:=by decide
   simp only[go_sem,hneg];subst hR';simp only[go_sem]
  |some i =>
   rw[hfi] at hR';simp only at hR';have hidx:idxOf (λn:aj=>decide (n.id=(p.aG.getD t default).id)) l'=(i:Int):=by unfold idxOf;rw[hfi]
   have hil:i<l'.length:=by rw[findIdx?_eq_some_iff_getElem] at hfi;exact hfi.1
   simp only[go_sem,hidx];refine dO [.p,.p,.p,.p,.p,.q,.q,.p,.q,.q,.q,.q,.p,.p] (by kernel_rfl) ?_;have hpos:decide ((i:Int)<0)=false:=gd (by omega);simp only[go_sem,hpos,getD_map ag hil,ag];refine⟨hil,hil,?_⟩;have hmi:l'.getD i default∈l':=by simp[hil]
   have hmt:p.aG.getD t default∈p.aG:=by simp[hlt]
   have hsm:=aB8 (l'.getD i default) (p.aG.getD t default) (xD _ hmi) (h3 _ hmt);refine jH (hsm) (by simp only[go_sem,getD_map ag hil,ag]<;>rfl) (cB rfl) ?_;simp only[go_sem,getD_map ag hil,ag];refine aU (λhs=>?_) (λhs=>?_)
   ·rw[if_pos hs] at hR';simp only[go_sem,bM hil (by omega),getD_map ag hil,ag];have hes:(l'.map ag).take i++(l'.map ag).drop (i+1)=(l'.take i++l'.drop (i+1)).map ag:=by rw[map_append,map_take,map_drop]
    have he:=avE (l'.map ag) i (by rw[length_map];exact hil);rw[hes] at he;refine aqT (λj=>if j<i then j else j+1) (es':=(l'.take i++l'.drop (i+1)).map ag) (λdx _=>by
     have hd:=aBU (fJ 2 dx (l'.map ag)) i (i+1) v' (by omega) (by rw[fS,length_map];omega) (by rw[fS,length_map];omega);rw[aor 2 _ dx i (by rw[length_map];exact hil),hes] at hd;exact hd) he (λj k _ _ h=>avF i h) (by simp only[go_sem,getD_map ag hil,ag]<;>rfl) (by simp only[go_sem,getD_map ag hil,ag]<;>rfl) (by simp only[go_sem,getD_map ag hil,ag]<;>rfl) ?_
    generalize hL:l'.take i++l'.drop (i+1)=L' at hR' ⊢;simp only[go_sem,bM hlt (by omega),getD_map ag hil,ag];refine cr (t+1,L',v'+1) ⟨hlt,hR',by rw[<-hL];simp;omega,λn hn=>?_⟩ (by simp only;omega) ?_
    ·rw[<-hL] at hn;rcases mem_append.1 hn with h|h
     ·exact xD n (mem_of_mem_take h)
     ·exact xD n (mem_of_mem_drop h)
    ·exact cu
   ·rw[if_neg (by rw[hs];simp)] at hR';subst hR';simp only[go_sem,getD_map ag hil,ag]
 ·have:t=p.aG.length:=by have:=eu hc;omega
  subst this;rw[drop_length,mq] at hR';subst hR';simp only[go_sem];refine bV (σ:=Nat×List ax×Nat) (λx=>(c9 (c9 (c9 (c9 (c9 gI 0 (.ptr 1000000 0)) 3 (.ptr 3 0)) 52 (.p (.aL (p.aM.map ak)))) 53 (.p (.val (.int .i64 p.aM.length)))) 54 (.p (.val (.int .i64 x.1))))) (λx=>(br (br (br (br ct 3 (.box [.p (.aL (p.aG.map ag)),.p (.aL (p.aM.map ak)),.p (.aL (p.aV.map ag)),.p (.aL (p.bn.map ak)),.p (.aL (p.values.map aP)),.p (.val (.int .i64 p.next.x0)),.p (.val (.int .i64 p.next.x1))])) 1000000 (.box [.fm 1000001 v',.row 1000002 x.2.2])) 1000001 (.deep v' 96 3 2 3 1 (l'.map ag))) 1000002 (.row x.2.2 125 4 (x.2.1.map ak))))
   (λx=>x.1<=p.aM.length/\n9 x.2.1 (p.aM.drop x.1) x.2.2=S/\x.2.1.length<=1000000) (λx=>p.aM.length-x.1) (0,m,u) ⟨Nat.zero_le _,hS,hm⟩ cu ?_
  rintro⟨t,m',u'⟩ ⟨ht,hS',hm'⟩;simp only at ht hS' hm';simp only[go_sem];refine aI (λhc=>?_) (λhc=>?_)
  ·have hlt:t<p.aM.length:=by have:=bX hc;omega
   have hdr:p.aM.drop t=p.aM.getD t default :: p.aM.drop (t+1):=by rw[drop_eq_getElem_cons hlt];simp[hlt]
   rw[hdr,n9] at hS';simp only[go_sem,getD_map ak hlt,ak];refine⟨hlt,?_⟩;refine dO [.p,.q,.q,.q,.q,.q,.q,.p] (by kernel_rfl) ?_;simp only[go_sem];refine jH (aj8 m' hm' (p.aM.getD t default).id) (by simp only[go_sem]<;>rfl) (cB rfl) ?_;simp only[go_sem];cases hfi:m'.findIdx? λm=>decide (m.id=(p.aM.getD t default).id) with
   |none =>
    rw[hfi] at hS';simp only at hS';have hidx:idxOf (λn:ax=>decide (n.id=(p.aM.getD t default).id)) m' = -1:=by unfold idxOf;rw[hfi]
    have hneg:decide ((-1:Int)<0)=true:=by decide
    simp only[go_sem,hidx];refine dO [.p,.p,.p,.p,.p,.q,.q,.p,.q,.q,.q,.p,.p] (by kernel_rfl) ?_;simp only[go_sem,hidx,hneg];subst hS';simp only[go_sem]
   |some i =>
    rw[hfi] at hS';simp only at hS';have hidx:idxOf (λn:ax=>decide (n.id=(p.aM.getD t default).id)) m'=(i:Int):=by unfold idxOf;rw[hfi]
    have hil:i<m'.length:=by rw[findIdx?_eq_some_iff_getElem] at hfi;exact hfi.1
    have hpos:decide ((i:Int)<0)=false:=gd (by omega);simp only[go_sem,hidx];refine dO [.p,.p,.p,.p,.p,.q,.q,.p,.q,.q,.q,.p,.p] (by kernel_rfl) ?_;simp only[go_sem,hpos,getD_map ak hil,ak];refine⟨hil,hil,?_⟩;refine aU (λhs=>?_) (λhs=>?_)
    ·have hs':rZ (m'.getD i default) (p.aM.getD t default)=true:=hs;rw[if_pos hs'] at hS';simp only[go_sem,bM hil (by omega)];have hes:(m'.map ak).take i++(m'.map ak).drop (i+1)=(m'.take i++m'.drop (i+1)).map ak:=by rw[map_append,map_take,map_drop]
     have hd:=aBV (m'.map ak) i (i+1) u' (by omega) (by rw[length_map];omega) (by rw[length_map];omega);rw[hes] at hd;refine ajN hd (by simp only[go_sem]<;>rfl) (by simp only[go_sem]<;>rfl) (by simp only[go_sem]<;>rfl) (λh=>by cases h) ?_;generalize hL:m'.take i++m'.drop (i+1)=L' at hS' ⊢;simp only[go_sem,bM hlt (by omega)];exact cr (t+1,L',u'+1) ⟨hlt,hS',by rw[<-hL];simp;omega⟩ (by simp only;omega) cu
    ·have hs':rZ (m'.getD i default) (p.aM.getD t default)=false:=hs;rw[if_neg (by rw[hs'];simp)] at hS';subst hS';simp only[go_sem]
  ·have:t=p.aM.length:=by have:=eu hc;omega
   subst this;rw[drop_length,n9] at hS';subst hS';simp only[go_sem]
theorem aDo(p:aQ)(l:List aj)(m:List ax)(v u:Nat)(hl:l.length<=1000000)(h1:p.values.length<=1000000)
  (R:Bool×List aj) (hR:mu l p.values=R) :
  ym pw 94 (bN (stH l v m u)) [.ptr 1000000 0,.p (.agg (aJ p))] λa H=>mV a (.p (.val (.bool R.1)))/\wo H (stH R.2 v m u):=by
 refine wY [] Ty.mixed func94 rfl (by kernel_rfl) (by simp[ntmps94]) ?_;rw[ntmps94,results94];simp only[go_sem,aJ,stH];refine bV (σ:=Nat×List aj) (λx=>(c9 (c9 (c9 (c9 (c9 gI 0 (.ptr 1000000 0)) 3 (.ptr 3 0)) 9 (.p (.aL (p.values.map aP)))) 10 (.p (.val (.int .i64 p.values.length)))) 11 (.p (.val (.int .i64 x.1))))) (λx=>(br (br (br (br ct 3 (.box [.p (.aL (p.aG.map ag)),.p (.aL (p.aM.map ak)),.p (.aL (p.aV.map ag)),.p (.aL (p.bn.map ak)),.p (.aL (p.values.map aP)),.p (.val (.int .i64 p.next.x0)),.p (.val (.int .i64 p.next.x1))])) 1000000 (.box [.fm 1000001 v,.row 1000002 u])) 1000001 (.deep v 96 3 2 3 1 (x.2.map ag))) 1000002 (.row u 125 4 (m.map ak))))
  (λx=>x.1<=p.values.length/\mu x.2 (p.values.drop x.1)=R/\x.2.length<=1000000) (λx=>p.values.length-x.1) (0,l) ⟨Nat.zero_le _,hR,hl⟩ cu ?_
 rintro⟨t,l'⟩ ⟨ht,hR',hl'⟩;simp only at ht hR' hl';simp only[go_sem];refine aI (λhc=>?_) (λhc=>?_)
 ·have hlt:t<p.values.length:=by have:=bX hc;omega
  have hdr:p.values.drop t=p.values.getD t default :: p.values.drop (t+1):=by rw[drop_eq_getElem_cons hlt];simp[hlt]
  rw[hdr,mu] at hR';simp only[go_sem,getD_map aP hlt,aP];refine⟨hlt,?_⟩;generalize p.values.getD t default=w at hR' ⊢;refine dO [.p,.q,.q,.q,.q,.q,.q,.p] (by kernel_rfl) ?_;simp only[go_sem];refine jH (afy l' hl' w.id) (by simp only[go_sem]<;>rfl) (cB rfl) ?_;simp only[go_sem];cases hfi:l'.findIdx? λm=>decide (m.id=w.id) with
  |none =>
   rw[hfi] at hR';simp only at hR';have hidx:idxOf (λn:aj=>decide (n.id=w.id)) l' = -1:=by unfold idxOf;rw[hfi]
   have hneg:decide ((-1:Int)<0)=true:=by decide
   simp only[go_sem,hidx];refine dO [.p,.p,.p,.q,.q,.p,.p,.p,.q,.q,.p,.p,.q,.q,.p,.q,.q,.q,.q,.p,.p,.p,.p,.p,.q,.q,.p,.q,.q,.q,.q,.q,.q,.q,.q,.q,.p,.p,.p,.q,.q,.q,.q,.p,.p] (by kernel_rfl) ?_;simp only[go_sem,hidx,hneg];subst hR';simp only[go_sem]
  |some i =>
   rw[hfi] at hR';simp only at hR';have hidx:idxOf (λn:aj=>decide (n.id=w.id)) l'=(i:Int):=by unfold idxOf;rw[hfi]
   have hil:i<l'.length:=by rw[findIdx?_eq_some_iff_getElem] at hfi;exact hfi.1
   have hpos:decide ((i:Int)<0)=false:=gd (by omega);simp only[go_sem,hidx];refine dO [.p,.p,.p,.q,.q,.p,.p,.p,.q,.q,.p,.p,.q,.q,.p,.q,.q,.q,.q,.p,.p,.p,.p,.p,.q,.q,.p,.q,.q,.q,.q,.q,.q,.q,.q,.q,.p,.p,.p,.q,.q,.q,.q,.p,.p] (by kernel_rfl) ?_;simp only[go_sem,hpos,getD_map ag hil,ag];cases ha:decide (w.attr<0)
   ·simp only[go_sem,ha,hpos,getD_map ag hil,ag];refine⟨hil,hil,?_⟩;cases hb:decide (((l'.getD i default).values.length:Int)<=w.attr)
    ·have hk0:0<=w.attr:=by have:=eu ha;omega
     have hk1:w.attr<(l'.getD i default).values.length:=by have:=eu hb;omega
     have hk:w.attr.toNat<(l'.getD i default).values.length:=by omega
     simp only[go_sem,hb,getD_map encI hk,encI,hpos,getD_map ag hil,ag];refine⟨hil,hil,⟨hk0,hk1⟩,hk,?_⟩;cases hcv:decide ((l'.getD i default).values.getD w.attr.toNat default=w.old)
     ·have hov:okV (l'.getD i default).values w=false:=by unfold okV;rw[ha,hb,hcv];rfl
      rw[if_neg (by rw[hov];simp)] at hR';subst hR';simp only[go_sem,hcv,hpos,getD_map ag hil,ag]
     ·simp only[go_sem,hcv,hpos,getD_map ag hil,ag];refine aI (λhd=>?_) (λhd=>?_)
      ·have hov:okV (l'.getD i default).values w=false:=by unfold okV;rw[ha,hb,hcv,hd];rfl
       rw[if_neg (by rw[hov];simp)] at hR';subst hR';simp only[go_sem,hpos,getD_map ag hil,ag]
      ·have hov:okV (l'.getD i default).values w=true:=by unfold okV;rw[ha,hb,hcv,hd];rfl
       rw[if_pos hov] at hR';simp only[go_sem,hpos,getD_map ag hil,ag];refine dO [.p,.p,.q,.q,.p,.q,.q,.q,.q,.q,.q,.q,.q,.t] (by kernel_rfl) ?_;simp only[go_sem,hpos,getD_map ag hil,ag];refine⟨hil,hil,⟨⟨hk0,hk1⟩,by rw[getD_map encI hk];rfl⟩,?_⟩;have hst:(l'.map ag).set i ((ag (l'.getD i default)).set 2 (.aL (((l'.getD i default).values.map encI).set w.attr.toNat [.val (.int .i64 w.new)])))=(l'.set i { l'.getD i default with values:=(l'.getD i default).values.set w.attr.toNat w.new }).map ag:=by rw[map_set];congr 1;show _=[_,_,PV.aL (((l'.getD i default).values.set w.attr.toNat w.new).map encI)];rw[map_set];rfl
       refine ahO 3 _ _ 1000001 v i w.attr.toNat 96 3 2 3 (l'.map ag) (ag (l'.getD i default)) ((l'.getD i default).values.map encI) (.val (.int .i64 w.new)) rfl (by simp only[go_sem,hpos,getD_map ag hil,ag]) (by simp only[go_sem,hpos,getD_map ag hil,ag]) (by simp only[go_sem,hpos,getD_map ag hil,ag]) ⟨rfl,rfl⟩ (by simp only[go_sem,hpos,getD_map ag hil,ag]<;>rfl) (by simp[hil]) rfl (by simpa using hk) ?_;rw[hst];simp only[go_sem,bM hlt (by omega),hpos,getD_map ag hil,ag];exact cr (t+1,_) ⟨hlt,hR',by simpa using hl'⟩ (by simp only;omega) cu
    ·have hov:okV (l'.getD i default).values w=false:=by unfold okV;rw[ha,hb];rfl
     rw[if_neg (by rw[hov];simp)] at hR';subst hR';simp only[go_sem,hb,hpos,getD_map ag hil,ag]
   ·have hov:okV (l'.getD i default).values w=false:=by unfold okV;rw[ha];rfl
    rw[if_neg (by rw[hov];simp)] at hR';subst hR';simp only[go_sem,ha,hpos,getD_map ag hil,ag]
 ·have:t=p.values.length:=by have:=eu hc;omega
  subst this;rw[drop_length,mu] at hR';subst hR';simp only[go_sem]
end Go.Proofs.YteambpeibacfpaaGreat
namespace Go.b7
open Go.RowKit
variable{P:Program}{N:Nat}{own:List Nat}{ops:Array Oper}{K:Env->au->Prop}{env:Env}{H:au}
def xR:List (Nat×Nat×AV)->(Nat->Bool)->Env->Env
 | [],_,env=>env
 |(i,s,a) :: r,f,env=>λt=>if t=s then (if f i=true then a else env t) else xR r f env t
def nD(f:Nat->Bool)(j:Nat):Nat->Bool:=λi=>if i=j then true else f i
def azS(j:Nat)(vs:List (Nat×Nat×AV)):Prop:=∀x∈vs,x.1≠j
theorem adP{f:Nat->Bool}{j:Nat} : ∀ {vs:List (Nat×Nat×AV)},azS j vs->xR vs (nD f j) env=xR vs f env
 | [],_=>rfl
 |(i,s,a) :: r,h=>by
  have h1:i≠j:=h (i,s,a) mem_cons_self;have h2:=adP (f:=f) (vs:=r) λx hx=>h x (mem_cons_of_mem _ hx)
  funext t;simp only[xR,nD,if_neg h1,h2]
theorem akd{f:Nat->Bool}{j s:Nat}{v:AV} : ∀ {vs:List (Nat×Nat×AV)},(vs.map (·.1)).Nodup->(vs.map (·.2.1)).Nodup->(j,s,v)∈vs->xR vs (nD f j) env=c9 (xR vs f env) s v
 | [],_,_,h=>by cases h
 |(i,s',a) :: r,h1,h2,h=>by
  rw[map_cons,nodup_cons] at h1 h2;rcases mem_cons.1 h with e|e
  ·simp only[iF] at e;obtain⟨rfl,rfl,rfl⟩:=e;have h3:xR r (nD f j) env=xR r f env:=adP λx hx e=>h1.1 (mem_map.2 ⟨x,hx,e⟩)
   funext t;simp only[xR,c9,h3];by_cases ht:t=s
   ·simp[ht,nD]
   ·simp[ht]
  ·have hne:i≠j:=λe2=>h1.1 (mem_map.2 ⟨_,e,e2.symm⟩)
   have hns:s'≠s:=λe2=>h2.1 (mem_map.2 ⟨_,e,e2.symm⟩)
   have h3:=akd (f:=f) h1.2 h2.2 e;funext t;simp only[xR,c9,h3];by_cases ht:t=s'
   ·subst ht;rw[if_pos rfl,if_pos rfl,if_neg hns];simp[nD,hne]
   ·rw[if_neg ht,if_neg ht]
def ah4(f:Nat->Bool):List Edge->Prop
 | []=>True
 |e :: r=>(Region.binds .any e=true->f e.on=true)/\ah4 f r
theorem ah5{f:Nat->Bool} : ∀ {l:List Edge},(∀e∈l,Region.binds .any e=true->f e.on=true)->ah4 f l
 | [],_=>trivial
 |e :: r,h=>⟨h e mem_cons_self,ah5 λx hx=>h x (mem_cons_of_mem _ hx)⟩
def aCz(P:Program)(own:List Nat)(ops:Array Oper)(vs:List (Nat×Nat×AV))(Hf:(Nat->Bool)->au)(env:Env)(j:Nat)(o:Oper):Prop :=
 ∀f:Nat->Bool,f j=false->ah4 f o.after.toList->(∀i q,ops[i]? = some q->f i=true->ah4 f q.after.toList)->lX ops o (xR vs f env)=some true/\∃pre v,gi P own o (ev (xR vs f env)) (Hf f)=some (pre,v,Hf (nD f j))/\pre /\
  (match o.dst with
  |some s=>(j,s,v)∈vs
  |none=>azS j vs)
def ars(P:Program)(own:List Nat)(ops:Array Oper)(vs:List (Nat×Nat×AV))(Hf:(Nat->Bool)->au)(env:Env):Nat->List Oper->Prop
 |_,[]=>True
 |j,o :: r=>aCz P own ops vs Hf env j o/\ars P own ops vs Hf env (j+1) r
theorem ake{vs:List (Nat×Nat×AV)}{Hf:(Nat->Bool)->au} : ∀ {l:List Oper} {k i:Nat} {o:Oper},ars P own ops vs Hf env k l->l[i]? = some o->aCz P own ops vs Hf env (k+i) o
 | [],_,_,_,_,h=>by simp at h
 |x :: r,k,0,o,h,ho=>by simp only[getElem?_cons_zero,cC] at ho;subst ho;exact h.1
 |x :: r,k,i+1,o,h,ho=>by have:=ake (i:=i) h.2 (by simpa using ho);rwa [Nat.add_assoc,Nat.add_comm 1 i] at this
def azT(own:List Nat)(ops:Array Oper)(N:Nat):Bool:=((range ops.size).all λj=>match ops[j]? with
 |some o=>o.after.toList.all (λe=>!Region.binds .any e||decide (e.on<j)) && !qu own ops o
 |none=>true)&&ahp N ops
theorem akf:∀ (vs:List (Nat×Nat×AV)),xR vs (λ_=>false) env=env
 | []=>rfl
 |(i,s,a) :: r=>by funext t;simp only[xR,akf r];split<;>simp
def dn(listed:Array Bool):Nat->Bool:=λi=>listed.getD i false
theorem ah6{listed:Array Bool}{j:Nat}(hj:j<listed.size):listed.getD j true=dn listed j:=by unfold dn;simp[hj]
theorem azU{listed:Array Bool}{j:Nat}(hj:j<listed.size):dn (listed.setIfInBounds j true)=nD (dn listed) j:=by
 funext i;unfold dn nD;simp only[Array.getD_eq_getD_getElem?,Array.getElem?_setIfInBounds];by_cases h:j=i
 ·subst h;simp[hj]
 ·rw[if_neg h,if_neg λe=>h e.symm]
def left(n:Nat)(f:Nat->Bool):Nat:=(range n).countP λi=>!f i
theorem avH{n:Nat}{f:Nat->Bool}(h:left n f=0)(i:Nat)(hi:i<n):f i=true:=by unfold left at h;rw[countP_eq_zero] at h;have:=h i (mem_range.2 hi);simpa using this
theorem akg{f:Nat->Bool}{j:Nat}(hf:f j=false):∀n,j<n->left n (nD f j)+1=left n f
 |0,h=>by omega
 |n+1,h=>by
  unfold left;rw[range_succ,countP_append,countP_append];rcases Nat.lt_succ_iff_lt_or_eq.1 h with h1|h1
  ·have:=akg hf n h1;unfold left at this;have e:nD f j n=f n:=by unfold nD;rw[if_neg (by omega)]
   simp only[countP_cons,countP_nil,e];omega
  ·subst h1;have e:(range j).countP (λi=>!nD f j i)=(range j).countP λi=>!f i:=by apply countP_congr;intro x hx;have:=mem_range.1 hx;unfold nD;rw[if_neg (by omega)]
   rw[e];simp[nD,hf]
theorem avI{l:List Oper}(vs:List (Nat×Nat×AV))(Hf:(Nat->Bool)->au)(hok:azT own l.toArray N=true)(h1:(vs.map (·.1)).Nodup)(h2:(vs.map (·.2.1)).Nodup)(hH:Hf (λ_=>false)=H)
  (hs:ars P own l.toArray vs Hf env 0 l) (hK:K (xR vs (λi=>decide (i<l.length)) env) (Hf λi=>decide (i<l.length))):wR P N own l.toArray K env H:=by
 unfold azT at hok;rw[Bool.and_eq_true] at hok;obtain⟨hok,hd⟩:=hok;have hsize:l.toArray.size=l.length:=by simp
 have hop:∀ (j:Nat) (o:Oper),l.toArray[j]? = some o->(∀e∈o.after,Region.binds .any e=true->e.on<j)/\qu own l.toArray o=false:=λj o ho=>by
  have hj:j<l.toArray.size:=(Array.getElem?_eq_some_iff.1 ho).1;have:=all_eq_true.1 hok j (mem_range.2 hj);rw[ho] at this;simp only[Bool.and_eq_true,Bool.not_eq_true',all_eq_true,Bool.or_eq_true,decide_eq_true_eq] at this;refine⟨λe he hb=>?_,this.2⟩;rcases this.1 e (by simpa using he) with h|h
  ·rw[hb] at h;cases h
  ·exact h
 have hend:∀listed:Array Bool,sB l.toArray listed->Region.ready .any l.toArray listed=[]->∀i,i<l.length->dn listed i=true:=λlisted hcl hr=>by
  intro i
  induction i using Nat.strongRecOn with
  |_ i ih =>
   intro hi;cases hv:dn listed i with
   |true=>rfl
   |false =>
    exfalso;have ho:l.toArray[i]? = some l[i]:=by simp[hi]
    have:i∈Region.ready .any l.toArray listed:=mem_ready.2 ⟨by rw[ah6 (by rw[hcl.1,hsize];exact hi)];exact hv,l[i],ho,λe he hb=>ih e.on ((hop i _ ho).1 e he hb) (Nat.lt_trans ((hop i _ ho).1 e he hb) hi)⟩;rw[hr] at this;cases this
 have aE0:∀listed:Array Bool,sB l.toArray listed->(∀i,i<l.length->dn listed i=true)->K (xR vs (dn listed) env) (Hf (dn listed)):=λlisted hcl hall=>by
  have e:dn listed=λi=>decide (i<l.length):=by
   funext i;by_cases hi:i<l.length
   ·rw[hall i hi,ew hi]
   ·rw[gd hi];have hsz:=hcl.1;unfold dn;rw[Array.getD_eq_getD_getElem?,Array.getElem?_eq_none (by rw[hsz,hsize];omega)];rfl
  rw[e];exact hK
 have main:∀ (fuel:Nat) (listed:Array Bool),sB l.toArray listed->left l.length (dn listed)<=fuel->amZ P own l.toArray (λ_=>false) K fuel listed (xR vs (dn listed) env) (Hf (dn listed)):=by
  intro fuel
  induction fuel with
  |zero =>
   intro listed hcl hle;have hall:∀i,i<l.length->dn listed i=true:=avH (by omega);refine⟨?_,aE0 listed hcl hall⟩;apply eq_nil_iff_forall_not_mem.2;intro i hi;obtain⟨hun,o,ho,_⟩:=mem_ready.1 hi;have hil:i<l.length:=by have:=(Array.getElem?_eq_some_iff.1 ho).1;rwa [hsize] at this
   rw[ah6 (by rw[hcl.1,hsize];exact hil),hall i hil] at hun;cases hun
  |succ fuel ih =>
   intro listed hcl hle;refine⟨λhr=>aE0 listed hcl (hend listed hcl hr),λj hj=>?_⟩;obtain⟨hun,o,ho,aJk⟩:=mem_ready.1 hj;have hjl:j<l.length:=by have:=(Array.getElem?_eq_some_iff.1 ho).1;rwa [hsize] at this
   have hjs:j<listed.size:=by rw[hcl.1,hsize];exact hjl
   have aE1:dn listed j=false:=by rw[<-ah6 hjs];exact hun
   have hst:=ake (i:=j) hs (by simpa using ho);rw[Nat.zero_add] at hst;obtain⟨hg,pre,v,hx,hp,hv⟩:=hst (dn listed) aE1 (ah5 λe he hb=>aJk e (by simpa using he) hb) (λi q hq hf=>ah5 λe he hb=>hcl.2 i q hq hf e (by simpa using he) hb);have ayv:=ih _ (hcl.set hj) (by have:=akg aE1 l.length hjl;rw[azU hjs];omega);rw[azU hjs] at ayv;have hput:xR vs (nD (dn listed) j) env=cA (xR vs (dn listed) env) o.dst v:=by
    cases aE2:o.dst with
    |none=>rw[aE2] at hv;exact adP hv
    |some s=>rw[aE2] at hv;exact akd h1 h2 hv
   rw[hput] at ayv;unfold b7.aOp;rw[ho];exact .inr ⟨hg,.inl ⟨alb (λh=>by rw[(hop j o ho).2] at h;cases h),.w,v,_,⟨pre,hx,hp⟩,ayv⟩⟩
 intro C I L tm w hN aJl;have aCJ:∀i b,i<l.toArray.size->(Array.replicate l.toArray.size false).getD i b=false:=λi b h=>by rw[Array.getD_eq_getD_getElem?,Array.getElem?_replicate,if_pos h];rfl
 have hd0:dn (Array.replicate l.toArray.size false)=λ_=>false:=by
  funext i;unfold dn;rcases Nat.lt_or_ge i l.toArray.size with h|h
  ·exact aCJ i false h
  ·rw[Array.getD_eq_getD_getElem?,Array.getElem?_replicate,if_neg (by omega)];rfl
 have hcl:sB l.toArray (Array.replicate l.toArray.size false):=⟨Array.size_replicate,λj o hj hl=>by
  have h:=congrFun hd0 j;unfold dn at h;rw[h] at hl;cases hl⟩
 have ahm:=main l.toArray.size _ hcl (by rw[hd0,hsize];unfold left;exact Nat.le_trans countP_le_length (by simp));rw[hd0,akf,hH] at ahm;have hs':gK C env H I L tm { w with drawn:=w.drawn+1 }:=(Fr.drew C I L H w) env tm aJl;exact sA (by rw[hN];exact abj hd) (λenv' H' I' L' tm' w' hk aC0=>⟨rfl,rfl,env',H',I',L',hk,aC0⟩) l.toArray.size _ env H I L tm _ ahm hs'
end Go.b7
namespace Go.Proofs.YteambpeibacfpaaGreat
open Go.b7
def stF(l:List aj)(v:Nat)(m:List ax)(u:Nat):List (Nat×Chunk):=[(1000000,.box [.row 1000001 v,.row 1000002 u]),(1000001,.row v 96 3 (l.map ag)),(1000002,.row u 125 4 (m.map ak))]
theorem afA(H:au)(d:Nat)(c c':Chunk):br (br H d c) d c'=br H d c':=by funext i;simp only[br];split<;>rfl
theorem azV(p:aQ)(l:List aj)(m:List ax)(v u:Nat)(hl:l.length<=1000)(hm:m.length<=1000)(h1:p.aV.length<=1000)(h2:p.bn.length<=1000)
  (hN:iA l m p=false->aj9 aj.id (l++p.aV)) (hE:iA l m p=false->aj9 ax.id (m++p.bn)) (b:Bool) (hb:iA l m p=b) :
  ym pw 95 (bN (stF l v m u)) [.ptr 1000000 0,.p (.agg (aJ p))] λa H=>mV a (.p (.val (.bool (!b))))/\wo H (if b then stF l v m u else stF (qA (l++p.aV)) (v+1) (sg (m++p.bn)) (u+1)):=by
 have hc1:=ahV (λn=>l6 l m n.id) p.aV (by omega) 163 [] [.ez [.ez [.aL (l.map ag),.aL (m.map ak)] 0] 0] (λx _=>aB6 x l m (by omega) (by omega));have hc2:=ahW (λn=>l6 l m n.id) p.bn (by omega) 166 [] [.ez [.ez [.aL (l.map ag),.aL (m.map ak)] 0] 0] (λx _=>aB7 x l m (by omega) (by omega));unfold iA at hb hN hE;refine wY [] Ty.mixed func95 rfl (by kernel_rfl) (by simp[ntmps95]) ?_;rw[ntmps95,results95];simp only[go_sem,aJ,stF];refine aW (hc1) (by simp only[go_sem]<;>rfl) (cB rfl) ?_;simp only[go_sem];refine bY (λhx=>?_) (λhx=>?_)
 ·have hbt:b=true:=by rw[<-hb,hx];rfl
  subst hbt;simp only[go_sem,hx,aJ,stF]
 simp only[go_sem,hx];refine aW (hc2) (by simp only[go_sem]<;>rfl) (cB rfl) ?_;simp only[go_sem,hx];refine aI (λhy=>?_) (λhy=>?_)
 ·have hbt:b=true:=by rw[<-hb,hx,hy];rfl
  subst hbt;simp only[go_sem,hx,hy,stF]
 have hbf:b=false:=by rw[<-hb,hx,hy];rfl
 subst hbf;have hN':=hN (by rw[hx,hy];rfl);have hE':=hE (by rw[hx,hy];rfl);simp only[go_sem];refine avI [(0,15,.ptr 1000000 0),(1,16,.ptr 1000000 0),(2,17,.ptr 1000000 0),(3,18,.ptr 1000000 0),(4,19,.ptr 1000000 0),(5,20,.row 1000001 v),(6,21,.ptr 3 2),(7,22,.p (.aL (p.aV.map ag))),(8,23,.row 1000001 (v+1)),(9,24,.ptr 1000000 0),(10,25,.ptr 1000000 0),(11,26,.ptr 1000000 1),(12,27,.row 1000002 u),(13,28,.ptr 3 3),(14,29,.p (.aL (p.bn.map ak))),(15,30,.row 1000002 (u+1)),(16,31,.ptr 1000000 0),(17,32,.ptr 1000000 0),(19,33,.ptr 1000000 0),(20,34,.ptr 1000000 1)]
  (λf=>br (br (br (br (br ct 1000002 (if f 15=true then .row (u+1) 125 4 ((m++p.bn).map ak) else .row u 125 4 (m.map ak)))
   1000001 (if f 8=true then .row (v+1) 96 3 ((l++p.aV).map ag) else .row v 96 3 (l.map ag)))
   1000000 (.box [if f 18=true then .row 1000001 (v+1) else .row 1000001 v,if f 21=true then .row 1000002 (u+1) else .row 1000002 u])) 2 (.box [.ptr 1000000 0])) 3 (.box [.p (.aL (p.aG.map ag)),.p (.aL (p.aM.map ak)),.p (.aL (p.aV.map ag)),.p (.aL (p.bn.map ak)),.p (.aL (p.values.map aP)),.p (.val (.int .i64 p.next.x0)),.p (.val (.int .i64 p.next.x1))])) (by kernel_rfl) (by simp) (by simp) ?_ ?_ ?_
 ·rfl
 ·refine⟨?_,?_,?_,?_,?_,?_,?_,?_,?_,?_,?_,?_,?_,?_,?_,?_,?_,?_,?_,?_,?_,?_,trivial⟩;all_goals
   intro f hf hd hcl;simp[ah4,Region.binds] at hd;have e5:f 5=false->f 18=false:=λh=>by
    cases hx:f 18 with
    |false=>rfl
    |true=>have:=hcl 18 _ rfl hx;simp[ah4,Region.binds,h] at this
   have e12:f 12=false->f 21=false:=λh=>by
    cases hx:f 21 with
    |false=>rfl
    |true=>have:=hcl 21 _ rfl hx;simp[ah4,Region.binds,h] at this
   try simp only[go_sem,xR,hd,hf]
   first
    |exact⟨_,_,rfl,trivial,by simp<;>first|exact e5 hf|exact e12 hf⟩
    |skip
  ·refine⟨_,_,Prod.ext rfl (Prod.ext rfl ?_),⟨by omega,λx hx=>?_⟩,by simp⟩
   ·rw[lB _ _ _ (show (3:Nat)≠1000001 by decide),lB _ _ _ (show (2:Nat)≠1000001 by decide),lB _ _ _ (show (1000000:Nat)≠1000001 by decide),afA];rfl
   ·obtain⟨y,_,rfl⟩:=mem_map.1 hx;rfl
  ·refine⟨_,_,Prod.ext rfl (Prod.ext rfl ?_),⟨by omega,λx hx=>?_⟩,by simp⟩
   ·rw[lB _ _ _ (show (3:Nat)≠1000002 by decide),lB _ _ _ (show (2:Nat)≠1000002 by decide),lB _ _ _ (show (1000000:Nat)≠1000002 by decide),lB _ _ _ (show (1000001:Nat)≠1000002 by decide),afA];simp[nD,hd]
   ·obtain⟨y,_,rfl⟩:=mem_map.1 hx;rfl
  all_goals try (refine⟨_,_,Prod.ext rfl (Prod.ext rfl ?_),trivial,by simp⟩;simp[nD,hd];done)
  all_goals
   refine⟨_,_,Prod.ext rfl (Prod.ext rfl ?_),trivial,by simp[azS]⟩;rw[lB _ _ _ (show (3:Nat)≠1000000 by decide),lB _ _ _ (show (2:Nat)≠1000000 by decide),afA];simp[nD,hd,hf]
 ·simp only[go_sem,xR,length_cons,length_nil];have hs1:=alM (l++p.aV) (by simp;omega) hN' (v+1);have hs2:=alN (m++p.bn) (by simp;omega) hE' (u+1);refine aen (hs1) (by simp only[go_sem]<;>rfl) (by simp only[go_sem]<;>rfl) (by simp only[go_sem]<;>rfl) (λh=>by cases h) ?_;simp only[go_sem];refine aen (hs2) (by simp only[go_sem]<;>rfl) (by simp only[go_sem]<;>rfl) (by simp only[go_sem]<;>rfl) (λh=>by cases h) ?_;simp only[go_sem,qA,sg]
theorem yx(a0:Types)(a1:ay)(a2:aQ)(r:ay×Int)(h:iN a0 a1 a2=some r):aD pw 54 [.agg [.aL (a0.nodes.map aB),.aL (a0.ah.map aC)],.agg (az a1),.agg (aJ a2)] (λv=>v = .dH [.agg (az r.1),.val (.int .i64 r.2)]):=by
 unfold iN at h;refine aD.gW ?_;refine aF [] func54 ntmps54 results54 ?_;simp only[go_sem,aJ,az];obtain⟨e,he,h⟩:=nY h;refine anU (afz a2 e he) (by simp only[go_sem,aJ,az]<;>rfl) (gO _) (λh=>by cases h) ?_;simp only[go_sem,aJ,az];refine aU (λhc=>?_) (λhc=>?_)
 ·rw[hc,Bool.not_true,cond_false] at h;obtain⟨_,hg,h⟩:=nY h;obtain⟨⟨g1,g2,g3,g4,g5,g6,g7,g8,g9,g10⟩,_⟩:=pz hg;obtain⟨es,hes,h⟩:=nY h;obtain⟨_,hg,h⟩:=nY h;obtain⟨g11,_⟩:=pz hg;simp only[go_sem,aJ,az];refine alj [(0,.q),(2,.q),(1,.f),(3,.f),(4,.p),(5,.w),(6,.s)] (by kernel_rfl) ?_;simp only[go_sem,aJ,az];refine agK 1304 (azw a1 g1 g2 (by omega) g4) (by simp only[go_sem,aJ,az]<;>rfl) (gO _) af5 (by simp only[go_sem,aJ,az]) (by simp only[go_sem,aJ,az]) ?_;simp only[go_sem,aJ,az];refine agK 1336 (uu a1 es hes) (by simp only[go_sem,aJ,az]<;>rfl) (gO _) af5 (by simp only[go_sem,aJ,az]) (by simp only[go_sem,aJ,az]) ?_;simp only[go_sem,aJ,az]
  first|refine⟨⟨by decide,by decide⟩,?_⟩|refine⟨by decide,?_⟩
  cases hn:decide (a2.next.x0=a1.next)
  ·rw[hn,Bool.not_false,cond_true] at h;cases h;simp only[go_sem,hn,mh,aJ,az];all_goals(and_intros)<;>rfl
  rw[hn,Bool.not_true,cond_false] at h;simp only[go_sem,hn,aJ,az];generalize hR:mq (bG a1) a2.aG 0=R at h;generalize hS:n9 es a2.aM 0=S at h;have hln:(bG a1).length<=1000:=by simp[bG];exact g3
  have hvn:∀n∈bG a1,n.values.length<=1000000:=λn hn=>by
   obtain⟨i,hi,rfl⟩:=mem_map.1 hn;have hi:i<a1.nodes.length:=by simpa using hi
   refine g4 _ ?_;have:i<a1.host.values.length:=by omega
   simp[aZ,this]
  have hrm:=avG a2 (bG a1) es 0 0 (by omega) (by omega) hvn (by omega) (by omega) g10 R hR S hS;refine .inr (.inr (.inr (kE 9 1000000 (by decide) (by simp only[go_sem,aJ,az]) (kE 1304 1000001 (by decide) (by simp only[go_sem,aJ,az]) (kE 1336 1000002 (by decide) (by simp only[go_sem,aJ,az]) (aev hrm (by simp only[go_sem,aJ,az]<;>rfl) (by simp only[go_sem,stH,aJ,az]<;>rfl) ?_ ?_ ?_ ?_ ?_ ?_ ?_))))))
  ·simp only[go_sem,stH,aJ,az]
  ·simp only[go_sem,stH,aJ,az]
  ·simp only[go_sem,stH,aJ,az]
  ·simp only[go_sem,stH,aJ,az]
  ·simp only[go_sem,stH,aJ,az]
  ·simp only[go_sem,stH,aJ,az]
  simp only[go_sem,stH,aJ,az];cases hb1:(R.1&&S.1)
  ·rw[hb1,Bool.not_false,cond_true] at h;cases h;simp only[go_sem,hb1,mh,aJ,az];all_goals(and_intros)<;>rfl
  rw[hb1,Bool.not_true,cond_false] at h;obtain⟨hr1,hs1⟩:=Bool.and_eq_true_iff.1 hb1;obtain⟨_,hg,h⟩:=nY h;obtain⟨⟨g12,g13⟩,_⟩:=pz hg;simp only[go_sem,hb1,hr1,aJ,az];generalize hV:mu R.2.1 a2.values=V at h;have hst:=aDo a2 R.2.1 S.2.1 R.2.2 S.2.2 (by omega) (by omega) V hV;refine yg (xG:=rV [(3,.ptr 3 0),(5,.ptr 5 0),(6,.ptr 6 0),(7,.p (.val (.int .i64 0))),(9,.ptr 9 0),(34,.p (.val (.bool false))),(35,.p (.agg (aJ a2)))]) (H2:=bN [(3,.box [.p (.aL (a0.nodes.map aB)),.p (.aL (a0.ah.map aC))]),(5,.box [.p (.aL (a2.aG.map ag)),.p (.aL (a2.aM.map ak)),.p (.aL (a2.aV.map ag)),.p (.aL (a2.bn.map ak)),.p (.aL (a2.values.map aP)),.p (.val (.int .i64 a2.next.x0)),.p (.val (.int .i64 a2.next.x1))]),(6,.box [.p (.val (.slice none 0 0)),.p (.val (.slice none 0 0)),.p (.val (.slice none 0 0)),.p (.val (.slice none 0 0)),.p (.val (.slice none 0 0)),.p (.val (.int .i64 0))]),(9,.box [.fm 1304 R.2.2,.row 1336 S.2.2]),(1304,.deep R.2.2 96 3 2 3 1 (R.2.1.map ag)),(1336,.row S.2.2 125 4 (S.2.1.map ak))]) (aeu (by simp only[go_sem,hb1,hr1,aJ,az]<;>(first|exact keepTop (by repeat (first|exact aBX _|refine aeA (by decide) ?_|refine agL (by decide) (by decide) ?_)) (by simp only[go_sem,aJ,az]) (by simp only[go_sem,aJ,az]) (by simp only[go_sem,aJ,az])|skip))) (.inr (.inr (kE 9 1000000 (by decide) (by simp only[go_sem,aJ,az]) (kE 1304 1000001 (by decide) (by simp only[go_sem,aJ,az]) (kE 1336 1000002 (by decide) (by simp only[go_sem,aJ,az]) (aev hst (by simp only[go_sem,aJ,az]<;>rfl) (by simp only[go_sem,stH,aJ,az]<;>rfl) ?_ ?_ ?_ ?_ ?_ ?_ ?_))))))
  ·simp only[go_sem,stH,aJ,az]
  ·simp only[go_sem,stH,aJ,az]
  ·simp only[go_sem,stH,aJ,az]
  ·simp only[go_sem,stH,aJ,az]
  ·simp only[go_sem,stH,aJ,az]
  ·simp only[go_sem,stH,aJ,az]
  simp only[go_sem,stH,aJ,az];cases hb2:V.1
  ·rw[hb2,Bool.not_false,cond_true] at h;cases h;simp only[go_sem,hb2,mh,aJ,az];all_goals(and_intros)<;>rfl
  rw[hb2,Bool.not_true,cond_false] at h;obtain⟨_,hg,h⟩:=nY h;obtain⟨⟨g14,g15⟩,_⟩:=pz hg;simp only[go_sem,hb2,aJ,az];cases hb3:iA V.2 S.2.1 a2
  ·rw[hb3,cond_false] at h;obtain⟨q1,q2⟩:=g15 hb3;have aoW:=azV a2 V.2 S.2.1 R.2.2 S.2.2 (by omega) (by omega) (by omega) (by omega) (λ_=>q1) (λ_=>q2) false hb3;simp only[Bool.false_eq_true,if_false,Bool.not_false] at aoW;refine yg (xG:=asg 1304 (rV [(3,.ptr 3 0),(5,.ptr 5 0),(6,.ptr 6 0),(7,.p (.val (.int .i64 0))),(9,.ptr 9 0),(39,.p (.val (.bool false))),(40,.p (.agg (aJ a2)))])) (H2:=adf 1304 (bN [(3,.box [.p (.aL (a0.nodes.map aB)),.p (.aL (a0.ah.map aC))]),(5,.box [.p (.aL (a2.aG.map ag)),.p (.aL (a2.aM.map ak)),.p (.aL (a2.aV.map ag)),.p (.aL (a2.bn.map ak)),.p (.aL (a2.values.map aP)),.p (.val (.int .i64 a2.next.x0)),.p (.val (.int .i64 a2.next.x1))]),(6,.box [.p (.val (.slice none 0 0)),.p (.val (.slice none 0 0)),.p (.val (.slice none 0 0)),.p (.val (.slice none 0 0)),.p (.val (.slice none 0 0)),.p (.val (.int .i64 0))]),(9,.box [.fm 1304 R.2.2,.row 1336 S.2.2]),(1304,.deep R.2.2 96 3 2 3 1 (V.2.map ag)),(1336,.row S.2.2 125 4 (S.2.1.map ak))])) (c8.trans (aeu (by simp only[go_sem,hb1,hr1,hb2,aJ,az]<;>(first|exact keepTop (by repeat (first|exact aBX _|refine aeA (by decide) ?_|refine agL (by decide) (by decide) ?_)) (by simp only[go_sem,aJ,az]) (by simp only[go_sem,aJ,az]) (by simp only[go_sem,aJ,az])|skip))) (kF 1304 R.2.2 96 3 2 3 1 (V.2.map ag) (by decide) (by simp only[go_sem,aJ,az]))) (.inr (.inr (kE 9 1000000 (by decide) (by simp only[go_sem,aJ,az]) (kE 1304 1000001 (by decide) (by simp only[go_sem,aJ,az]) (kE 1336 1000002 (by decide) (by simp only[go_sem,aJ,az]) (aev aoW (by simp only[go_sem,aJ,az]<;>rfl) (by simp only[go_sem,stF,aJ,az]<;>rfl) ?_ ?_ ?_ ?_ ?_ ?_ ?_))))))
   ·simp only[go_sem,stF,aJ,az]
   ·simp only[go_sem,stF,aJ,az]
   ·simp only[go_sem,stF,aJ,az]
   ·simp only[go_sem,stF,aJ,az]
   ·simp only[go_sem,stF,aJ,az]
   ·simp only[go_sem,stF,aJ,az]
   simp only[go_sem,stF,aJ,az];obtain⟨x,hx,h⟩:=nY h;generalize qA (V.2++a2.aV)=sn at hx ⊢;generalize sg (S.2.1++a2.bn)=se at hx ⊢
   first|refine⟨⟨by decide,by decide⟩,?_⟩|refine⟨by decide,?_⟩
   have hT:=(show aD _ _ _ (λv=>v = .dH [.agg (az x.1),.val (.bool x.2)]) from (aeC sn se a2.next.x1 x hx).aAC);refine yg (c8.trans (aeu (l:=[(3,.ptr 3 0),(6,.ptr 6 0),(7,.p (.val (.int .i64 0))),(47,.row 1304 (R.2.2+1)),(49,.row 1336 (S.2.2+1)),(52,.p (.val (.int .i64 a2.next.x1)))]) (hl:=[(3,.box [.p (.aL (a0.nodes.map aB)),.p (.aL (a0.ah.map aC))]),(6,.box [.p (.val (.slice none 0 0)),.p (.val (.slice none 0 0)),.p (.val (.slice none 0 0)),.p (.val (.slice none 0 0)),.p (.val (.slice none 0 0)),.p (.val (.int .i64 0))]),(1304,.row (R.2.2+1) 96 3 (sn.map ag)),(1336,.row (S.2.2+1) 125 4 (se.map ak))]) (by simp only[go_sem,hb1,hr1,hb2,aJ,az]<;>(first|exact keepTop (by repeat (first|exact aBX _|refine aeA (by decide) ?_|refine agL (by decide) (by decide) ?_|refine azA (by decide) ?_)) (by simp only[go_sem,aJ,az]) (by simp only[go_sem,aJ,az]) (by simp only[go_sem,aJ,az])|skip))) (c8.trans (ajM 1304 (R.2.2+1) 96 3 (sn.map ag) [47] (by simp only[go_sem,aJ,az]<;>rfl) (by simp only[go_sem,aJ,az]<;>and_intros<;>rfl) (by decide)) (ajM 1336 (S.2.2+1) 125 4 (se.map ak) [49] (by simp only[go_sem,aJ,az]<;>rfl) (by simp only[go_sem,aJ,az]<;>and_intros<;>rfl) (by decide)))) (.inl (.inl ⟨[],zc (aem hT (by simp only[go_sem,aJ,az]<;>rfl) (by first|exact xI|exact cB rfl)) ?_⟩));simp only[go_sem,aJ,az];cases hx2:x.2
   ·rw[hx2,Bool.not_false,cond_true] at h;cases h;simp only[go_sem,hx2,mh,aJ,az];all_goals(and_intros)<;>rfl
   rw[hx2,Bool.not_true,cond_false] at h;obtain⟨e2,he2,h⟩:=nY h;simp only[go_sem,hx2,aJ,az];refine anU (lC a0 x.1 e2 he2) (by simp only[go_sem,aJ,az]<;>rfl) (gO _) (by first|exact xI|exact cB rfl) ?_;simp only[go_sem,aJ,az];refine aU (λhv=>?_) (λhv=>?_)
   ·rw[hv,Bool.not_true,cond_false] at h;cases h;simp only[go_sem,aJ,az];all_goals(and_intros)<;>rfl
   ·rw[hv,Bool.not_false,cond_true] at h;cases h;simp only[go_sem,mh,aJ,az];all_goals(and_intros)<;>rfl
  ·rw[hb3,cond_true] at h;have aoW:=azV a2 V.2 S.2.1 R.2.2 S.2.2 (by omega) (by omega) (by omega) (by omega) (λh=>by rw[hb3] at h;cases h) (λh=>by rw[hb3] at h;cases h) true hb3;simp only[if_true,Bool.not_true] at aoW;cases h;refine yg (xG:=asg 1304 (rV [(3,.ptr 3 0),(5,.ptr 5 0),(6,.ptr 6 0),(7,.p (.val (.int .i64 0))),(9,.ptr 9 0),(39,.p (.val (.bool false))),(40,.p (.agg (aJ a2)))])) (H2:=adf 1304 (bN [(3,.box [.p (.aL (a0.nodes.map aB)),.p (.aL (a0.ah.map aC))]),(5,.box [.p (.aL (a2.aG.map ag)),.p (.aL (a2.aM.map ak)),.p (.aL (a2.aV.map ag)),.p (.aL (a2.bn.map ak)),.p (.aL (a2.values.map aP)),.p (.val (.int .i64 a2.next.x0)),.p (.val (.int .i64 a2.next.x1))]),(6,.box [.p (.val (.slice none 0 0)),.p (.val (.slice none 0 0)),.p (.val (.slice none 0 0)),.p (.val (.slice none 0 0)),.p (.val (.slice none 0 0)),.p (.val (.int .i64 0))]),(9,.box [.fm 1304 R.2.2,.row 1336 S.2.2]),(1304,.deep R.2.2 96 3 2 3 1 (V.2.map ag)),(1336,.row S.2.2 125 4 (S.2.1.map ak))])) (c8.trans (aeu (by simp only[go_sem,hb1,hr1,hb2,aJ,az]<;>(first|exact keepTop (by repeat (first|exact aBX _|refine aeA (by decide) ?_|refine agL (by decide) (by decide) ?_)) (by simp only[go_sem,aJ,az]) (by simp only[go_sem,aJ,az]) (by simp only[go_sem,aJ,az])|skip))) (kF 1304 R.2.2 96 3 2 3 1 (V.2.map ag) (by decide) (by simp only[go_sem,aJ,az]))) (.inr (.inr (kE 9 1000000 (by decide) (by simp only[go_sem,aJ,az]) (kE 1304 1000001 (by decide) (by simp only[go_sem,aJ,az]) (kE 1336 1000002 (by decide) (by simp only[go_sem,aJ,az]) (aev aoW (by simp only[go_sem,aJ,az]<;>rfl) (by simp only[go_sem,stF,aJ,az]<;>rfl) ?_ ?_ ?_ ?_ ?_ ?_ ?_))))))
   ·simp only[go_sem,stF,aJ,az]
   ·simp only[go_sem,stF,aJ,az]
   ·simp only[go_sem,stF,aJ,az]
   ·simp only[go_sem,stF,aJ,az]
   ·simp only[go_sem,stF,aJ,az]
   ·simp only[go_sem,stF,aJ,az]
   simp only[go_sem,stF,mh,aJ,az];all_goals(and_intros)<;>rfl
 ·rw[hc,Bool.not_false,cond_true] at h;cases h;simp only[go_sem,aJ,az];all_goals(and_intros)<;>rfl
end Go.Proofs.YteambpeibacfpaaGreat
namespace Go.b7
open Go.RowKit
theorem alO{e:Env}{H:au}(b off id:Nat)(ty:TypeId)(sz k:Nat)(e':TypeId)(sz':Nat)(cs:List AV)(hb:H b=some (.box cs))(ho:cs[off]? = some (.p (.val (.slice none 0 0))))(hid:H id=none)(hsz:k<sz) :
  c8 e H e (br (br H id (.deep 0 ty sz k e' sz' [])) b (.box (cs.set off (.fm id 0)))):=λC I L tm w hs=>by
 obtain⟨n1,n2,n3⟩:=an1 hs hid ty hsz e' sz';have hs':=n2 e tm hs;have hne:b≠id:=λh=>by rw[h,hid] at hb;cases hb
 obtain⟨blk,arr,et,g1,g2,g3,g4,g5,g6⟩:=hs.chunk b _ hb;refine⟨I,_,{ hs' with dom:=λi l hl=>?_,chunk:=λi ch hch=>?_ }⟩
 ·obtain⟨c,hc⟩:=hs'.dom i l hl;by_cases hi:i=b
  ·exact⟨.box (cs.set off (.fm id 0)),by unfold br;rw[if_pos hi]⟩
  ·exact⟨c,by unfold br at hc ⊢;rw[if_neg hi];exact hc⟩
 ·by_cases hi:i=b
  ·subst hi;have:Chunk.box (cs.set off (.fm id 0))=ch:=by simpa[br] using hch
   subst this;refine⟨blk,arr,et,by simp[cc,hne,g1],g2,by simpa using g3,λj u c hu hc=>?_,g5,g6⟩;rw[getElem?_set] at hc;split at hc
   ·rename_i hj;subst hj;split at hc
    ·simp at hc;subst hc;have:=g4 off u _ hu ho;rw[this.dI.1];exact n1
    ·cases hc
   ·exact (g4 j u c hu hc).mono (Mem.eA I) n3
  ·exact hs'.chunk i ch (by unfold br at hch ⊢;rw[if_neg hi] at hch;exact hch)
theorem avJ{P:Program}{N:Nat}{own:List Nat}{ops:Array Oper}{K:Env->au->Prop}{env env':Env}{H H':au}(h:c8 env H env' H')(hw:wR P N own ops K env' H'):wR P N own ops K env H:=λC I L tm w hN hs=>by obtain⟨I',L',hs'⟩:=h C I L tm w hs;exact hw C I' L' tm w hN hs'
end Go.b7
namespace Go.Proofs.YteambpeibacfpaaGreat
open Go.b7
attribute [local go_sem] encI encS bw bH aK gm az
theorem wu(a0:Host)(r:Host)(h:ck a0=some r):bl pw 11 [.agg (gm a0)] (λv=>v = .agg [.row 3 1 (r.graph.nodes.map encI),.row 143 3 (r.graph.ah.map aK),.deep 26 1 0 3 1 (r.values.map bw)]):=by
 refine bz [18,25] func11 ntmps11 results11 ?_;unfold ck at h;have F:=trivial;refine zG 1112 F h (p8 _) λaKE h=>?_
 refine zV ?_;refine zN F h (0:Nat) [1,2,3] (λx=>[(4,.p (.val (.int .i64 ((x.1.1:Nat):Int))))]) [1,2,1112,1113] (λx H=>[(3,bx (H 3) [(2,.fm 3959 x.2)]),(3959,.deep x.2 26 1 0 3 1 (x.1.2.map bw))]) ?_ ?_ (hw:=by refine c8.trans (alO 3 2 3959 26 1 0 3 1 _ rfl rfl rfl (by decide)) ?_;exact zW)
 ·intro i s g _ _ F N h;try dsimp only at h
  refine zE [(0,.p),(1,.b),(3,.q),(4,.q),(5,.q),(6,.q),(7,.q),(2,.w),(8,.s),(9,.w),(10,.t),(11,.t),(12,.t)] ?_;refine zI bw F h λe F h=>?_
  refine zC F h λF h=>?_
  refine dz e.length 8 F λF=>?_
  refine zF (eq_true (gN (n:=1) (f:=encI) (λ_=>rfl) e)) F λF=>?_
  refine zC F h λF h=>?_
  refine zF (show (s.length+1) * 24<=140737488355328 by omega) F λF=>?_
  refine zF (bt bw s [e] (c:=[[.aL (e.map encI)]]) rfl) F λF=>?_
  refine zV ?_;refine an2 30 30 _ _ 3959 25 18 g 1 0 26 1 24 3 1 (s.map bw) (e.map encI) [.val (.slice none 0 0)] rfl (by simp only[go_sem,F]<;>rfl) (by simp only[go_sem,F]) (by simp only[go_sem,F]) (by simp only[go_sem,F]) (by simp only[go_sem,F]) (by simp only[go_sem,F]) rfl (by decide) ?_ ?_
  ·rw[length_map];omega
  exact zX (z:=N _ (g+1) h zW)
 ·intro i s g _ F h;try dsimp only at h
  exact gJ h
theorem wv(a0:ay)(r:ay)(h:cm a0=some r):bl pw 15 [.agg (az a0)] (λv=>v = .agg [.row 3 1 (r.host.graph.nodes.map encI),.row 143 3 (r.host.graph.ah.map aK),.deep 26 1 0 3 1 (r.host.values.map bw),.row 3 1 (r.nodes.map encI),.row 3 1 (r.ah.map encI),.p (.val (.int .i64 r.next))]):=by
 refine bl.qX ?_;refine bz [6,9,10,13] func15 ntmps15 results15 ?_;unfold cm at h;have F:=trivial;refine zE [(0,.q),(1,.q),(4,.q),(5,.q),(8,.b),(9,.b),(11,.b),(12,.b),(2,.f),(3,.w),(6,.s),(7,.w),(10,.s),(13,.q),(14,.w)] ?_;refine zH 1080 F h (wu _) λaKF h=>?_
 refine zC F h λF h=>?_
 refine dz a0.nodes.length 8 F λF=>?_
 refine zF (eq_true (gN (n:=1) (f:=encI) (λ_=>rfl) a0.nodes)) F λF=>?_
 refine zC F h λF h=>?_
 refine dz a0.ah.length 8 F λF=>?_
 refine zF (eq_true (gN (n:=1) (f:=encI) (λ_=>rfl) a0.ah)) F λF=>?_
 exact gJ h
end Go.Proofs.YteambpeibacfpaaGreat
namespace Go.Proofs
open Go.Shelf Go.RowKit Go.Lib Go.Sort
theorem YteambpeibacfpaaGreat.akh(arr:Array Value):(Value.agg arr).cells=arr:=rfl
theorem YteambpeibacfpaaGreat.azW{w:World}{k:Nat}(h:w.heap.size=k)(o:Obj):(w.alloc o).heap[k]? = some o:=by subst h;show (w.heap.push o)[w.heap.size]? = _;exact Array.getElem?_push_size
theorem YteambpeibacfpaaGreat.aDp{w:World}{k:Nat}{x:Obj}(h:w.heap[k]? = some x)(o:Obj):(w.alloc o).heap[k]? = some x:=by have:=(Array.getElem?_eq_some_iff.1 h).1;show (w.heap.push o)[k]? = _;rw[Array.getElem?_push_lt this,<-h,Array.getElem?_eq_getElem this]
theorem YteambpeibacfpaaGreat.alP(arr:Array Value)(ao:Option Addr)(cap:Nat)(h8:arr[8]? = some (.slice ao 0 cap))(W:World) :
  Calls pw 193 #[.agg arr] W λe w'=>e = .returned (.tuple #[.map (some (W.heap.size+1)),.int .i64 0])/\w'=(W.alloc (.cells arr 89)).alloc (.map #[] 0):=by
 have hb:(Instr.box 89 (.agg arr)).run pw W = .ok (.pointer (some ⟨W.heap.size,0,none⟩)) (W.alloc (.cells arr 89)):=by simp[Instr.box,newVar,newRow,newObj,Sem.run,YteambpeibacfpaaGreat.akh];try rfl
 have hmm:=@run_makeMap pw;have hc8:((W.alloc (.cells arr 89)).alloc (.map #[] 0)).cell? ⟨W.heap.size,8,none⟩=some (.slice ao 0 cap):=by
  rw[<-h8];have e:((W.heap.push (.cells arr 89)).push (.map #[] 0))[W.heap.size]? = some (.cells arr 89):=by rw[Array.getElem?_push_lt (by simp)];simp
  simp only[World.cell?,World.alloc,e,Option.isSome_none,Bool.false_eq_true,if_false]
 go_enter func193,ntmps193
 go_wp2
 refine wp_loop_rounds 1 ?_;rw[rounds_succ]
 go_wp2
 go_ret2
 exact⟨rfl,rfl⟩
set_option maxRecDepth 20000 in
theorem YteambpeibacfpaaGreat.azX(vs:Array Value)(arr:Array Value)(b:Nat)(e:TypeId)(ao:Option Addr)(cap:Nat)(hs:arr.size=38)(hone:∀u∈arr.toList,u.oneCell'=true)(h8:arr[8]? = some (.slice ao 0 cap))(W:World)(hb:W.heap[b]? = some (.cells arr e (0,0))) :
  Calls pw 115 #[.agg vs,.pointer (some ⟨b,0,none⟩)] W λe w'=>e = .returned (.int .i64 0)/\Below W.heap.size W w':=by
 have hx:(Instr.box 25 (.agg vs)).run pw W = .ok (.pointer (some ⟨W.heap.size,0,none⟩)) (W.alloc (.cells vs 25)):=by simp[Instr.box,newVar,newRow,newObj,Sem.run,YteambpeibacfpaaGreat.akh];try rfl
 have hbl:b<W.heap.size:=(Array.getElem?_eq_some_iff.1 hb).1;have hal:(W.alloc (.cells vs 25)).heap[b]? = some (.cells arr e (0,0)):=by rw[<-hb];simp only[World.alloc];rw[Array.getElem?_push_lt hbl,Array.getElem?_eq_getElem hbl]
 have hg:Go.b7.eL pw 89=some true:=by kernel_rfl
 have hi:(Tryz.prog.info? 89).map (·.size)=some 38:=by kernel_rfl
 obtain⟨d,hu,hd⟩:=Go.b7.y6 hg;have hl:(W.alloc (.cells vs 25)).rangeAt b 0 arr.toList:=λj u hu=>by simp only[World.cell?,hal,Option.isSome_none,Bool.false_eq_true,if_false];simpa using hu
 rw[show some 38=some arr.toList.length by rw[Array.length_toList,hs]] at hi;have hum:Tryz.prog.underlying 259=some (.map 263 3):=by kernel_rfl
 have hm:∀ (A B:Obj),(((W.alloc A).alloc B).alloc (.map #[] 0)).heap[W.heap.size+1+1]? = some (.map #[] 0):=λA B=>YteambpeibacfpaaGreat.azW (by simp) _
 have hrg:∀ (A B:Obj),(Instr.range 259 (.map (some (W.heap.size+1+1)))).run pw (((W.alloc A).alloc B).alloc (.map #[] 0)) = .ok (.pointer (some ⟨W.heap.size+1+1+1,0,none⟩)) ((((W.alloc A).alloc B).alloc (.map #[] 0)).alloc (.mapIter (some (W.heap.size+1+1)) 0 #[] 0)):=λA B=>by
  simp only[Instr.range,Sem.run_bind,run_underlying hum,Result.andThen,getObj,Sem.run,hm A B];simp only[newObj,Sem.run,Result.andThen,Sem.run_bind];have e:(((W.alloc A).alloc B).alloc (.map #[] 0)).heap.size=W.heap.size+1+1+1:=by simp
  show Result.ok (Value.pointer (some ⟨(((W.alloc A).alloc B).alloc (.map #[] 0)).heap.size,0,none⟩)) _=_;rw[e];rfl
 have hnx:∀ (A B:Obj) (ty:TypeId),(Instr.next (.pointer (some ⟨W.heap.size+1+1+1,0,none⟩)) false ty).run pw ((((W.alloc A).alloc B).alloc (.map #[] 0)).alloc (.mapIter (some (W.heap.size+1+1)) 0 #[] 0)) = .ok (.tuple #[.bool false]) ((((W.alloc A).alloc B).alloc (.map #[] 0)).alloc (.mapIter (some (W.heap.size+1+1)) 0 #[] 0)):=λA B ty=>by
  have h1:((((W.alloc A).alloc B).alloc (.map #[] 0)).alloc (.mapIter (some (W.heap.size+1+1)) 0 #[] 0)).heap[W.heap.size+1+1+1]? = some (.mapIter (some (W.heap.size+1+1)) 0 #[] 0):=YteambpeibacfpaaGreat.azW (by simp) _;have h2:((((W.alloc A).alloc B).alloc (.map #[] 0)).alloc (.mapIter (some (W.heap.size+1+1)) 0 #[] 0)).heap[W.heap.size+1+1]? = some (.map #[] 0):=YteambpeibacfpaaGreat.aDp (hm A B) _;rcases run_next_at (P:=pw) _ ty _ _ _ _ _ _ _ h1 h2 (λx hx=>by simp at hx) (Nat.le_refl _) with h|⟨x,hx,_⟩
  ·exact h.2
  ·simp[leftOf] at hx
 have eg:∀args w,(callFunc 193 args).run pw w = .ok (.enter 193 args) w:=enters_of func193 (by kernel_rfl) rfl
 go_enter func115,ntmps115
 go_wp2_with (first
  |(refine wpList_load_mid rfl 89 _ rfl b 0 rfl arr.toList d hl hu hd hi ?_)
  |(go_at_call 193;refine (YteambpeibacfpaaGreat.alP _ _ _ h8 _).mono ?_;rintro e w' ⟨rfl,rfl⟩)
  |go_in)
 refine wp_loop_rounds 1 ?_;rw[rounds_succ]
 go_wp2
 go_ret
 have b1:=(Below.refl W.heap.size W).alloc (Nat.le_refl _) (.cells vs 25);have b2:=b1.alloc b1.size (.cells arr 89);have b3:=b2.alloc b2.size (.map #[] 0);exact⟨rfl,b3.alloc b3.size _⟩
namespace YteambpeibacfpaaGreat
open Go.b7
theorem aB9{W:Env->au->Prop}{env:Env}{H:au}{o:Oper}{ts:List PV}{id:Nat}{cs:List AV}(ha:dA o (ev env)=some (115,[.p (.agg ts),.ptr id 0]))(hH:H id=some (.box cs))(hl:cs.length=38){es:List (List PV)}(h8:cs[8]? = some (.p (.aL es)))(he:es.length=0)
  (hW:W (cA env o.dst (.p (.val (.int .i64 0)))) H):abb pw o W env H:=λC I L tm w σ hs hσ=>by
 obtain⟨us,hr,hu⟩:=ni ha (by kernel_rfl) hσ w;refine⟨115,_,hr,?_⟩;obtain⟨hu1,hu2⟩:=hu;obtain⟨u0,u1,rfl⟩:∃a b,us=[a,b]:=by
  match us,hu1 with
  | [a,b],_=>exact⟨a,b,rfl⟩
 have q0:=hu2 0 u0 _ rfl rfl;have q1:=hu2 1 u1 _ rfl rfl;obtain⟨b,arr,e,k1,k2,k3,k4,k5,k6⟩:=hs.chunk id _ hH;cases q1 with
 |ptr _ b' _ hb' =>
  rw[k1] at hb';cases hb';cases q0 with
  |p _ _ hv =>
   cases hv with
   |agg ws _ _ _ _ =>
    obtain⟨u8,hu8⟩:∃u,arr[8]? = some u:=⟨arr[8]'(by omega),Array.getElem?_eq_getElem _⟩;have hv8:=k4 8 u8 _ hu8 h8;cases hv8 with
    |p _ _ hv8 =>
     cases hv8 with
     |aL ao n cap es us' sz hn =>
      obtain rfl:n=0:=by omega
      refine (YteambpeibacfpaaGreat.azX ws.toArray arr b e ao cap (by omega) (λu hu=>by
       obtain⟨j,hj,rfl⟩:=mem_iff_getElem.1 hu;exact k5 j _ (by simp at hj ⊢)) hu8 w k2).mono ?_
      rintro x w' ⟨rfl,hb⟩;exact⟨_,I,L,.p (.val (.int .i64 0)),H,rfl,hW,.p _ _ (.val _ rfl),hs.world (hb.mono hs.leB) λb hb'=>hb.block b hb'⟩
theorem aE3{q p : Prop}(z : q)(e : q → p := by
  intro Z
  (try simp only[go_sem,F])
  exact .inr (.inr (.inr (aB9 (by simp only[go_sem,F]<;>rfl) (by simp only[go_sem,F]<;>rfl) rfl rfl (by rw[length_map];exact F.2) Z)))):p:=e z
end YteambpeibacfpaaGreat
end Go.Proofs
namespace Go.b7
open Go.Proofs.YteambpeibacfpaaGreat
section
variable{P:Program}{k:FuncId}{α γ R:Type}{r:R}{F p:Prop}
theorem avK{o:Oper}{W:Env->au->Prop}{env:Env}{H:au}{eZ xs ys:List AV}{A:AV}{l0:List (Nat×Chunk)}{l1:γ->List (Nat×Chunk)}
  (c:ym P k (bN l0) ys λa H=>∃v,mV a A/\wo H (l1 v)) (ha:dA o (ev env)=some (k,eZ)) (hx:xO (bN l0) H eZ=some xs) (hy:qv xs ys)
  (hh:hiL l0) (h0:wo H l0/\wq (bN l0) l0) (h1:∀v,wq (bN (l1 v)) (l1 v)/\oE (bN (l1 v)) A) (hst:∀v,zn (bN (l1 v)) l0) (hnw:∀v,newL (bN l0) H (l1 v))
  (hW:∀v,W (cA env o.dst A) (over (l1 v) H)):abb P o W env H:=λC I L tm w σ hs hσ=>by
 obtain⟨us,hr,hu⟩:=ni ha c.1 hσ w;refine⟨k,_,hr,?_⟩;have hv:=afx hs hu hx;obtain⟨q1,q2⟩:=sH hy;have xD:oW I (L.to (bN l0)) us ys:=⟨hv.1.trans q1,λj u c hj hc=>by
  obtain⟨a,ha⟩:∃a,xs[j]? = some a:=by have hj:j<us.length:=(List.getElem?_eq_some_iff.1 hj).1;have hl:=hv.1;exact⟨xs[j]'(by omega),by simp[hl ▸ hj]⟩
  exact zm (hv.2 j u a hj ha) (q2 j a c ha hc)⟩
 refine (c.2 C.B I _ w us hs.leB (asb hh) (hs.ade h0.1 h0.2 hh) xD).mono λx w' ⟨u,a,H',I',L',m1,⟨v,m2,m3⟩,m4,m5⟩=>?_
 obtain⟨n1,n2⟩:=hs.aCw h0.1 hh m5 m3 (h1 v).1 (hst v) (hnw v);exact⟨u,I',_,A,_,m1,hW v,((zm m4 m2).to (h1 v).2).mono (Mem.eA _) n2,n1⟩
theorem avL{o:Oper}{W:Env->au->Prop}{env:Env}{H:au}{eZ xs ys:List AV}{A:AV}{l0:List (Nat×Chunk)}{l1:γ->List (Nat×Chunk)}{b:Nat}(_:Hint b)(hb:b<1000000)(hn:H 1000000=none)
  (c:ym P k (bN l0) ys λa H=>∃v,mV a A/\wo H (l1 v)) (ha:dA o (ev (acD b 1000000 env))=some (k,eZ)) (hx:xO (bN l0) (aew b 1000000 H) eZ=some xs) (hy:qv xs ys)
  (hh:hiL l0) (h0:wo (aew b 1000000 H) l0/\wq (bN l0) l0) (h1:∀v,wq (bN (l1 v)) (l1 v)/\oE (bN (l1 v)) A) (hst:∀v,zn (bN (l1 v)) l0) (hnw:∀v,newL (bN l0) (aew b 1000000 H) (l1 v))
  (hW:∀v,W (acD b 1000000 (cA (acD b 1000000 env) o.dst A)) (aew b 1000000 (over (l1 v) (aew b 1000000 H)))):iU P o W env H :=
 .inr (.inr (.inr (kE b 1000000 hb hn (avK c ha hx hy hh h0 h1 hst hnw hW))))
theorem zCH{ys:List AV}{A:AV}{l0:List (Nat×Chunk)}{X:α->γ->List (Nat×Chunk)}{o:Option α}{g:α->Option R}{q:α->γ->Prop}(b:Nat)(f:F)(h:thn o g=some r)(c:∀x,o=some x->ym P k (bN l0) ys λa H=>∃v,mV a A/\wo H (X x v))(z:∀x v,g x=some r->q x v)
  (e:∀x,Hint b->(ym P k (bN l0) ys λa H=>∃v,mV a A/\wo H (X x v))->(∀v,q x v)->p:=by
   intro x I C Z
   (try simp -implicitDefEqProofs only[go_sem,F])
   exact avL I (by decide) (by simp -implicitDefEqProofs only[go_sem,F]) C (by simp -implicitDefEqProofs only[go_sem,F]<;>rfl) (by simp -implicitDefEqProofs only[go_sem,F]<;>rfl) (by simp -implicitDefEqProofs only[go_sem,F]<;>and_intros<;>rfl) (by simp -implicitDefEqProofs only[go_sem,F]<;>and_intros<;>decide) (by simp -implicitDefEqProofs only[go_sem,F]<;>and_intros<;>rfl) (by intro v;simp -implicitDefEqProofs only[go_sem,F]) (by intro v;simp -implicitDefEqProofs only[go_sem,F]) (by intro v;simp -implicitDefEqProofs only[go_sem,F]) Z):p:=by
 obtain⟨x,h1,h2⟩:=nY h;exact e x trivial (c x h1) (λv=>z x v h2)
end
end Go.b7
namespace Go.Proofs.YteambpeibacfpaaGreat
open Go.b7
theorem azY{P:Program}{t:TypeId}{k:IntKind}{a b:Int} : lH P .and t (.p (.val (.int k a))) (.p (.val (.int k b)))=some (True,.p (.val (.int k (k.wrap (BitVec.ofInt k.bits a &&& BitVec.ofInt k.bits b).toNat)))):=by simp[lH,y7]
theorem azZ(n:Nat)(h:n<=1000000):IntKind.u64.wrap ((BitVec.ofInt 64 (n:Int) &&& BitVec.ofInt 64 4294967295).toNat:Int)=n:=by
 have e:(BitVec.ofInt 64 (n:Int) &&& BitVec.ofInt 64 4294967295).toNat=n:=by
  rw[BitVec.toNat_and];have e1:(BitVec.ofInt 64 (n:Int)).toNat=n:=by rw[BitVec.toNat_ofInt];omega
  have e2:(BitVec.ofInt 64 4294967295).toNat=2 ^ 32-1:=by decide
  rw[e1,e2,Nat.and_two_pow_sub_one_eq_mod];omega
 rw[e];exact IntWalk.u64_in _ (by omega)
theorem aCa:IntKind.u64.wrap ((BitVec.ofInt 64 1 &&& BitVec.ofInt 64 4294967295).toNat:Int)=1:=by decide
theorem and_zero:IntKind.u64.wrap ((BitVec.ofInt 64 0 &&& BitVec.ofInt 64 4294967295).toNat:Int)=0:=by decide
theorem az0{P:Program}{t:TypeId}(a b:Int)(h:IntKind.u64.wrap ((BitVec.ofInt 64 a &&& BitVec.ofInt 64 4294967295).toNat:Int)=b):lH P .and t (.p (.val (.int .u64 a))) (.p (.val (.int .u64 4294967295)))=some (True,.p (.val (.int .u64 b))):=by subst h;exact azY
set_option maxRecDepth 20000 in
theorem az1(n:Nat)(hn:n<=1000000):aD pw 247 [.val (.int .u64 1),.val (.int .u64 n)] (λv=>v = .dH [.val (.int .u64 0),.val (.int .u64 n)]):=by
 have hw:IntKind.u64.wrap (n:Int)=n:=IntWalk.u64_in _ (by omega);have hw0:IntKind.u64.wrap 0=0:=by decide
 have hf:(n:Int).fdiv (2 ^ 32)=0:=by rw[Int.fdiv_eq_ediv_of_nonneg _ (by decide)];omega
 have hf1:(1:Int).fdiv (2 ^ 32)=0:=by decide
 have hf0:(0:Int).fdiv (2 ^ 32)=0:=by decide
 have hm:min 32 64=32:=rfl;have a1:=λt=>az0 (P:=pw) (t:=t) n n (azZ n hn)
 have a2:=λt=>az0 (P:=pw) (t:=t) 1 1 aCa
 have a3:=λt=>az0 (P:=pw) (t:=t) 0 0 and_zero
 have hw1:IntKind.u64.wrap 1=1:=by decide
 refine aF [] func247 ntmps247 results247 ?_;simp only[go_sem,a1,a2,a3,hw1,hw,hw0,hf,hf1,hf0,hm,Int.one_mul,Int.zero_mul,Int.mul_zero,Int.add_zero,Int.zero_add];decide
set_option maxRecDepth 20000 in
theorem az2(n:Nat)(hn:n<=1000000):aD pw 197 [.val (.int .u64 1),.val (.int .u64 n)] (λv=>v = .dH [.val (.int .u64 0),.val (.int .u64 n)]):=by refine aF [] func197 ntmps197 results197 ?_;simp only[go_sem];refine aW (az1 n hn) (by simp only[go_sem]<;>rfl) (xI) ?_;simp only[go_sem]
def adQ(N k:Nat)(a:Int):List (List PV):=replicate k [.val (.int .i64 a)]++replicate (N-k) [.val (.int .i64 0)]
theorem rK(N k:Nat)(a:Int)(h:k<=N):(adQ N k a).length=N:=by simp[adQ];omega
theorem az3(N:Nat)(a:Int):[PV.val (.int .i64 a)] :: drop 1 (replicate N [PV.val (.int .i64 0)])=adQ N 1 a:=by simp[adQ]
theorem avM(N k c:Nat)(a:Int)(h:k+c<=N):splice (adQ N k a) k ((replicate c (PV.val (.int .i64 a))).map λp=>[p])=adQ N (k+c) a:=by unfold splice adQ;rw[take_left' (by simp),map_replicate,length_replicate,<-drop_drop,drop_left' (by simp),drop_replicate,replicate_append_replicate,show N-k-c=N-(k+c) by omega]
theorem avN{P:Program}(w:World)(dT sT ty e:TypeId)(hu:P.underlying dT=some (.slice e))(hs:bf P e=some 1)(base a:Option Addr)(dCap sLen sCap:Nat) :
  (Builtin.copy_ #[dT,sT] ty #[.slice base 0 dCap,.slice a sLen sCap]).run P w = .ok (.int .i64 0) w:=by
 cases hq:P.info? e with
 |none=>simp[bf,hq] at hs
 |some i =>
  have hi:i.size=1:=by simpa[bf,hq] using hs
  have hl:∀a:Addr,(loadCells a 0).run P w = .ok #[] w:=λa=>run_loadCells_list (P:=P) w a [] (λj v h=>by simp at h)
  cases a<;>cases base<;>simp[Builtin.copy_,run_underlying hu,Builtin.lenOf,Builtin.firstCells,sizeOf,typeInfo,hq,hi,hl,storeCells,goInt]
theorem az4{P:Program}{o:Oper}{W:Env->au->Prop}{env:Env}{H:au}(t1 t2:TypeId)(x y:Operand)(id v:Nat)(e:TypeId)(es:List (List PV))(hop:o.op = .call ⟨.builtin .copy,#[x,y],#[t1,t2]⟩)(hu:P.underlying t1=some (.slice e))(hsz:bf P e=some 1)
  (hx:ev env x = .row id v) (hy:ev env y = .p (.aL es)) (hH:H id=some (.row v e 1 []))
  (hW:W (cA env o.dst (.p (.val (.int .i64 0)))) H):iU P o W env H:=by
 refine .inr (.inr (.inl ⟨_,_,hW,λC I L tm w σ hs hσ=>?_⟩));have hxv:=hσ x;have hyv:=hσ y;rw[hx] at hxv;rw[hy] at hyv;obtain⟨hdr,us,q1,q2,q3,q4,q5,q6,q7⟩:=hs.chunk id _ hH;obtain⟨ao,cap,cs,e2,_⟩:=hyv.nE.asd;have e1:∃base cp,σ x = .slice base 0 cp:=by
  generalize σ x=ux at hxv;cases hxv with
  |row _ _ _ v1 mT sz1 qq hle hh hone =>
   rw[q1] at qq;simp only[cC,Loc.row.injEq] at qq;obtain⟨r1,r2,r3⟩:=qq;subst r1 r2 r3;rw[hh rfl];rcases q2.2 with ⟨h,_⟩|⟨g,cp,cur,heq,_⟩
   ·exact⟨_,_,h⟩
   ·exact⟨_,_,heq⟩
 obtain⟨base,cp,e1⟩:=e1;have hr:=avN (P:=P) w t1 t2 o.type e hu hsz base ao cp es.length cap;refine⟨_,_,I,L,.inl (by unfold execOp;rw[hop];simp[resolve,invoke,builtin,Result.andThen,e1,e2,hr]),.p _ _ (.val _ rfl),λenv tm hs=>hs⟩
set_option maxRecDepth 20000 in
theorem abB(a:Int):bl pw 119 [.aL [[.val (.int .i64 a)]],.val (.int .i64 0)] (λv=>v = .row 3 1 []):=by refine bz [30] func119 ntmps119 results119 ?_;simp only[go_sem];have hc:decide ((0:Int)<0)=false:=rfl;have hwl:IntKind.u64.wrap 1=1:=rfl;have hw1:IntKind.u64.wrap 0=0:=rfl;have hw2:i64.wrap 0=0:=rfl;have hlt:decide ((9223372036854775807:Int)<((0:Nat):Int))=false:=rfl;have hz:decide ((0:Int)<0)=false:=rfl;have hr0:(i64.wrap ((0:Nat):Int)).toNat=0:=rfl;simp only[go_sem,hr0,replicate_zero,hc,hw1,hw2,hwl,Bool.not_false];refine aW (az2 0 (by omega)) (by simp only[go_sem,hr0,replicate_zero,hc,hw1,hw2,hwl,Bool.not_false]<;>rfl) (xI) ?_;simp only[go_sem,hr0,replicate_zero,hc,hw1,hw2,hwl,Bool.not_false,hlt,toNat_natCast,iY];refine⟨by decide,?_⟩;refine az4 26 26 (.tmp 31) (.tmp 32) 30 0 3 [[.val (.int .i64 a)]] rfl (by kernel_rfl) (by kernel_rfl) (by simp only[go_sem,hr0,replicate_zero,hc,hw1,hw2,hwl,Bool.not_false,hlt,toNat_natCast,iY]) (by simp only[go_sem,hr0,replicate_zero,hc,hw1,hw2,hwl,Bool.not_false,hlt,toNat_natCast,iY]<;>rfl) (by simp only[go_sem,hr0,replicate_zero,hc,hw1,hw2,hwl,Bool.not_false,hlt,toNat_natCast,iY]) ?_;simp only[go_sem,hr0,replicate_zero,hc,hw1,hw2,hwl,Bool.not_false,hlt,toNat_natCast,iY];refine bV (σ:=Nat) (λk=>(c9 (c9 gI 7 (.row 30 0)) 8 (.p (.val (.int .i64 k))))) (λ_=>(br ct 30 (.row 0 3 1 []))) (λk=>k=0) (λ_=>0) 0 rfl cu ?_;rintro k rfl;simp only[go_sem,hr0,replicate_zero,hc,hw1,hw2,hwl,Bool.not_false,hlt,toNat_natCast,iY];exact⟨by decide,_,.refl _,rfl⟩
set_option maxRecDepth 20000 in
theorem uP(l:List Int)(n:Int)(r:List Int)(h:pO l n=some r):bl pw 119 [.aL (l.map encI),.val (.int .i64 n)] (λv=>v = .row 3 1 (r.map encI)):=by
 obtain⟨⟨h0,h1,h2⟩,rfl⟩:=pz h;obtain⟨a,rfl⟩:∃a,l=[a]:=length_eq_one_iff.1 h2;obtain⟨N,rfl⟩:∃N:Nat,n=N:=⟨n.toNat,by omega⟩;rcases Nat.eq_zero_or_pos N with rfl|h0
 ·exact abB a
 simp only[toNat_natCast];refine bz [30] func119 ntmps119 results119 ?_;simp only[go_sem];refine aI (λhc=>?_) (λhc=>?_)
 ·have:=bX hc;omega
 have hw1:IntKind.u64.wrap (N:Int)=N:=IntWalk.u64_in _ (by omega);have hw2:i64.wrap (N:Int)=N:=gl (by omega);have hwl:IntKind.u64.wrap 1=1:=rfl;simp only[go_sem,hw1,hw2,hwl,toNat_natCast];refine aW (az2 N (by omega)) (by simp only[go_sem,hw1,hw2,hwl,toNat_natCast]<;>rfl) (xI) ?_;have hlt:decide ((9223372036854775807:Int)<N)=false:=gd (by omega);have hz:decide ((0:Int)<0)=false:=rfl;simp only[go_sem,hw1,hw2,hwl,toNat_natCast,hlt,hz,Bool.not_false,iY];refine⟨by omega,?_⟩;refine aBR 26 26 (.tmp 31) (.tmp 32) 30 0 3 (replicate N [.val (.int .i64 0)]) [.val (.int .i64 a)] rfl (by kernel_rfl) (by kernel_rfl) (by simp only[go_sem,hw1,hw2,hwl,toNat_natCast,hlt,hz,Bool.not_false,iY]) (by simp only[go_sem,hw1,hw2,hwl,toNat_natCast,hlt,hz,Bool.not_false,iY]<;>rfl) (by simp only[go_sem,hw1,hw2,hwl,toNat_natCast,hlt,hz,Bool.not_false,iY]) (by simp) (by simp;omega) ?_;simp only[go_sem,hw1,hw2,hwl,toNat_natCast,hlt,hz,Bool.not_false,iY];refine bV (σ:=Nat) (λk=>(c9 (c9 gI 7 (.row 30 0)) 8 (.p (.val (.int .i64 k))))) (λk=>(br ct 30 (.row 0 3 1 (adQ N k a)))) (λk=>1<=k/\k<=N) (λk=>N-k) 1 ⟨by omega,by omega⟩ ?_ ?_
 ·rw[az3 N a];exact cu
 rintro k ⟨hk1,hk2⟩;simp only[go_sem,hw1,hw2,hwl,toNat_natCast,hlt,hz,Bool.not_false,iY,rK N k a hk2];refine aI (λhc=>?_) (λhc=>?_)
 ·have hk3:k<N:=by have:=bX hc;omega
  simp only[go_sem,hw1,hw2,hwl,toNat_natCast,hlt,hz,Bool.not_false,iY,rK N k a hk2];intro C I L tm w hC hs;have hs0:=(Fr.drew C I L _ w) _ tm hs;have hlen:(adQ N k a).length=N:=rK N k a hk2;obtain⟨g,cap,us,hL,hcap,aE4,aJm,aJn,aJo,hone⟩:=aBS hs0 (id:=30) (v:=0) (e:=3) (es:=adQ N k a) (by simp only[go_sem,hw1,hw2,hwl,toNat_natCast,hlt,hz,Bool.not_false,iY,rK N k a hk2]) (by omega);rw[hlen] at hL hcap aE4;refine zo (fuel:=9) 0 _ (.int .i64 k) rfl (by kernel_rfl) (by kernel_rfl) (by kernel_rfl) (λ_ _ _ h=>by cases h.2.1) rfl (by rw[hC];show 38<48;decide) rfl hs0 (λσ hσ w=>yo rfl (dV.dI (show dV I L (σ (.tmp 8)) (.p (.val (.int .i64 k))) from hσ (.tmp 8))).1 w) λtm1 hs1=>?_
  refine zo (fuel:=8) 1 _ (.slice (some ⟨g,0,none⟩) N cap) rfl (by kernel_rfl) (by kernel_rfl) (by kernel_rfl) (λ_ _ _ h=>by cases h.2.1) rfl (by rw[hC];show 39<48;decide) rfl hs1 (λσ hσ w=>yo rfl (dV.alF (show dV I L (σ (.tmp 7)) (.row 30 0) from hσ (.tmp 7)) hL) w) λtm2 hs2=>?_
  refine zo (fuel:=7) 2 _ (.int .i64 k) rfl (by kernel_rfl) (by kernel_rfl) (by kernel_rfl) (λ_ _ _ h=>by cases h.2.1) rfl (by rw[hC];show 40<48;decide) rfl hs2 (λσ hσ w=>yo rfl (dV.dI (show dV I L (σ (.tmp 8)) (.p (.val (.int .i64 k))) from hσ (.tmp 8))).1 w) λtm3 hs3=>?_
  refine zo (fuel:=6) 3 _ (.slice (some ⟨g,k,none⟩) (N-k) (cap-k)) rfl (by kernel_rfl) (by kernel_rfl) (by kernel_rfl) (λ_ _ _ h=>by cases h.2.1) rfl (by rw[hC];show 41<48;decide) rfl hs3 (λσ hσ w=>an6 (P:=pw) (e:=3) rfl (by kernel_rfl) (by kernel_rfl) (dV.dI (show dV I L (σ (.tmp 39)) (.p (.val (.slice (some ⟨g,0,none⟩) N cap))) from hσ (.tmp 39))).1 (dV.dI (show dV I L (σ (.tmp 40)) (.p (.val (.int .i64 k))) from hσ (.tmp 40))).1 hk2 (by omega) w) λtm4 hs4=>?_
  refine zo (fuel:=5) 4 _ (.slice (some ⟨g,0,none⟩) N cap) rfl (by kernel_rfl) (by kernel_rfl) (by kernel_rfl) (λ_ _ _ h=>by cases h.2.1) rfl (by rw[hC];show 42<48;decide) rfl hs4 (λσ hσ w=>yo rfl (dV.alF (show dV I L (σ (.tmp 7)) (.row 30 0) from hσ (.tmp 7)) hL) w) λtm5 hs5=>?_
  refine zo (fuel:=4) 5 _ (.int .i64 k) rfl (by kernel_rfl) (by kernel_rfl) (by kernel_rfl) (λ_ _ _ h=>by cases h.2.1) rfl (by rw[hC];show 43<48;decide) rfl hs5 (λσ hσ w=>yo rfl (dV.dI (show dV I L (σ (.tmp 8)) (.p (.val (.int .i64 k))) from hσ (.tmp 8))).1 w) λtm6 hs6=>?_
  refine zo (fuel:=3) 6 _ (.slice (some ⟨g,0,none⟩) k cap) rfl (by kernel_rfl) (by kernel_rfl) (by kernel_rfl) (λ_ _ _ h=>by cases h.2.1) rfl (by rw[hC];show 44<48;decide) rfl hs6 (λσ hσ w=>an7 (P:=pw) (e:=3) rfl (by kernel_rfl) (by kernel_rfl) (dV.dI (show dV I L (σ (.tmp 42)) (.p (.val (.slice (some ⟨g,0,none⟩) N cap))) from hσ (.tmp 42))).1 (dV.dI (show dV I L (σ (.tmp 43)) (.p (.val (.int .i64 k))) from hσ (.tmp 43))).1 (by omega) w) λtm7 hs7=>?_
  have hcl:(us.take (min k (N-k))).length=min k (N-k):=by rw[length_take,aE4];omega
  have hfl:(adQ N k a).flatten=replicate k (PV.val (.int .i64 a))++replicate (N-k) (PV.val (.int .i64 0)):=by simp[adQ,flatten_append]
  have hft:(adQ N k a).flatten.take (min k (N-k))=replicate (min k (N-k)) (PV.val (.int .i64 a)):=by rw[hfl,take_append_of_le_length (by simp;omega),take_replicate];congr 1;omega
  refine aqU (fuel:=2) 7 _ rfl (by kernel_rfl) rfl (by rw[hC];show 45<48;decide) hs7 (λσ hσ=>ahS hs7 (.tmp 41) (.tmp 44) 26 26 rfl (id:=30) (v:=0) (e:=3) (es:=adQ N k a) (by simp only[go_sem,hw1,hw2,hwl,toNat_natCast,hlt,hz,Bool.not_false,iY,rK N k a hk2]) hL (by kernel_rfl) (by kernel_rfl) (dV.dI (show dV I L (σ (.tmp 41)) (.p (.val (.slice (some ⟨g,k,none⟩) (N-k) (cap-k)))) from hσ (.tmp 41))).1 (dV.dI (show dV I L (σ (.tmp 44)) (.p (.val (.slice (some ⟨g,0,none⟩) k cap))) from hσ (.tmp 44))).1 (us.take (min k (N-k))) (replicate (min k (N-k)) (PV.val (.int .i64 a))) ?_ ?_ ?_ ?_ ?_ ?_) ?_
  ·exact hcl
  ·rw[hcl,length_replicate]
  ·rw[hcl,hlen];omega
  ·intro j u hj;rw[getElem?_take] at hj;split at hj
   ·rw[Addr.add_mid,Nat.zero_add];exact aJo j u hj
   ·cases hj
  ·intro u hu;exact aJn u (mem_of_mem_take hu)
  ·intro j u c hj hc;rw[<-hft] at hc;rw[getElem?_take] at hj hc;split at hj
   ·rename_i h;rw[if_pos h] at hc;exact aJm j u c hj hc
   ·cases hj
  intro I8 L8 tm8 w8 _ hs8;have hw3:i64.wrap ((k:Int)+((min k (N-k):Nat):Int))=((k+min k (N-k):Nat):Int):=by rw[gl (by omega)];omega
  refine aqU (fuel:=1) 8 _ rfl (by kernel_rfl) rfl (by rw[hC];show 46<48;decide) hs8 (λσ hσ=>vh (v:=.p (.val (.int .i64 ((k+min k (N-k):Nat):Int)))) (pre:=True) (by simp only[go_sem,hcl,hw3,getElem_toArray,getElem_cons_succ,getElem_cons_zero,hw1,hw2,hwl,toNat_natCast,hlt,hz,Bool.not_false,iY,rK N k a hk2];try rfl) trivial hs8 hσ) ?_;intro I9 L9 tm9 w9 _ hs9;refine aqU (fuel:=0) 9 _ rfl (by kernel_rfl) rfl (by rw[hC];show 8<48;decide) hs9 (λσ hσ=>vh (v:=.p (.val (.int .i64 ((k+min k (N-k):Nat):Int)))) (pre:=True) (by simp only[go_sem,getElem_toArray,getElem_cons_succ,getElem_cons_zero,hw1,hw2,hwl,toNat_natCast,hlt,hz,Bool.not_false,iY,rK N k a hk2];try rfl) trivial hs9 hσ) ?_;intro I10 L10 tm10 w10 _ aJp;refine wpAny_done (by kernel_rfl) ⟨rfl,rfl,_,_,_,_,?_,aJp⟩ 0;have hsp:=avM N k (min k (N-k)) a (by omega);simp only[splice,length_map,length_replicate,append_assoc] at hsp;simp only[go_sem,getElem_toArray,getElem_cons_succ,getElem_cons_zero,hsp,append_assoc,length_map,length_replicate,hw1,hw2,hwl,toNat_natCast,hlt,hz,Bool.not_false,iY,rK N k a hk2];exact cr (k+min k (N-k)) ⟨by omega,by omega⟩ (by omega) cu
 ·have hk3:k=N:=by have:=eu hc;omega
  simp only[go_sem,hw1,hw2,hwl,toNat_natCast,hlt,hz,Bool.not_false,iY,rK N k a hk2];refine⟨by decide,_,.refl _,?_⟩;rw[hk3];simp[adQ,encI]
noncomputable section
theorem z6(a0:List dJ)(a1:List dJ)(r:Types)(h:jf a0 a1=some r):bl pw 58 [.aL (a0.map eG),.aL (a1.map eG)] (λv=>v = .agg [.row 131 4 (r.nodes.map aB),.row 133 7 (r.ah.map aC)]):=by
 refine bl.qX ?_;refine bz [82,121] func58 ntmps58 results58 ?_;unfold jf at h;have F:=trivial;refine zV ?_;refine zL F h (0:Nat) [0,1,4,5] (λx=>[(6,.p (.val (.int .i64 x.1.1)))]) [4] (λx H=>[(5,bx (H 5) [(0,.row 11853 x.2)]),(11853,.row x.2 131 4 (x.1.2.map aB))]) ?_ (hw:=by refine c8.trans (bK 5 0 11853 131 4 _ rfl rfl rfl (by decide)) ?_;exact zW);intro s2 g2 _ _ F jL h;try dsimp only at h
 refine nv F h (λF h=>?_) λF h=>?_
 ·refine zB F h (λF h=>?_) λF h=>?_
  ·refine zA eG F h λe3 F h=>?_
   refine eD 17 [.w,.s] ?_;refine zC F h λF h=>?_
   refine eU ((0:Int)<=0) F λF=>?_
   refine eU ((0:Int)<((2:Nat):Int)) F λF=>?_
   refine zC F h λF h=>?_
   refine eU ((0:Int)<=0) F λF=>?_
   refine eU ((0:Int)<((2:Nat):Int)) F λF=>?_
   refine eU (¬ ((16:Int)=0)) F λF=>?_
   refine eU (¬ ((4:Int)=0)) F λF=>?_
   refine zC F h λF h=>?_
   refine eU ((0:Int)<=1) F λF=>?_
   refine eU ((1:Int)<((2:Nat):Int)) F λF=>?_
   refine eU (¬ ((4:Int)=0)) F λF=>?_
   refine zB F h (λF h=>?_) λF h=>?_
   ·refine eU ((0:Int)<=1) F λF=>?_
    refine eU ((1:Int)<((2:Nat):Int)) F λF=>?_
    refine eU (¬ ((4:Int)=0)) F λF=>?_
    refine eU (¬ ((9:Int)=0)) F λF=>?_
    refine zC F h λF h=>?_
    refine dz (s2.2.length+1) 56 F λF=>?_
    exact zX (z:=jL _ (g2+1) h (by refine c8.trans (sM 11853 (g2+1) 131 4 aB s2.2 [(⟨((⟨#[65,66,67,68,69,70]⟩:ByteArray).extract s2.1.toNat (i64.wrap (s2.1+1)).toNat),(i64.wrap (((i64.wrap e3.x0).tmod (i64.wrap (s2.1+1)))-1)),(decide (((IntKind.u8.wrap (e3.x0.tdiv 16)).tmod 4)=3)),[(⟨((⟨#[117,118,119,120,121,122]⟩:ByteArray).extract s2.1.toNat (i64.wrap (s2.1+1)).toNat),(-3),(i64.wrap (3+((i64.wrap (IntKind.u8.wrap (e3.x1.tdiv 4))).tmod 9))),[]⟩:Attr)]⟩:iy)] (by simp -implicitDefEqProofs only[go_sem,F]<;>rfl) (by simp -implicitDefEqProofs only[go_sem,F]<;>and_intros<;>first|rfl|trivial)) ?_;exact zW))
   ·refine zB F h (λF h=>?_) λF h=>?_
    ·refine zC F h λF h=>?_
     refine dz (s2.2.length+1) 56 F λF=>?_
     refine zF (bt aB s2.2 [(⟨((⟨#[65,66,67,68,69,70]⟩:ByteArray).extract s2.1.toNat (i64.wrap (s2.1+1)).toNat),(i64.wrap (((i64.wrap e3.x0).tmod (i64.wrap (s2.1+1)))-1)),(decide (((IntKind.u8.wrap (e3.x0.tdiv 16)).tmod 4)=3)),[(⟨((⟨#[117,118,119,120,121,122]⟩:ByteArray).extract s2.1.toNat (i64.wrap (s2.1+1)).toNat),0,1,[(⟨#[111,102,102]⟩:ByteArray),(⟨#[111,110]⟩:ByteArray)]⟩:Attr)]⟩:iy)] (c:=[[.val (.string ((⟨#[65,66,67,68,69,70]⟩:ByteArray).extract s2.1.toNat (i64.wrap (s2.1+1)).toNat)),.val (.int .i64 (i64.wrap (((i64.wrap e3.x0).tmod (i64.wrap (s2.1+1)))-1))),.val (.bool (decide (((IntKind.u8.wrap (e3.x0.tdiv 16)).tmod 4)=3))),.aL [[.val (.string ((⟨#[117,118,119,120,121,122]⟩:ByteArray).extract s2.1.toNat (i64.wrap (s2.1+1)).toNat)),.val (.int .i64 0),.val (.int .i64 1),.aL [[.val (.string (⟨#[111,102,102]⟩:ByteArray))],[.val (.string (⟨#[111,110]⟩:ByteArray))]]]]]]) rfl) F λF=>?_
     exact zX (z:=jL _ (g2+1) h zW)
    ·refine zC F h λF h=>?_
     refine dz (s2.2.length+1) 56 F λF=>?_
     exact zX (z:=jL _ (g2+1) h (by refine c8.trans (sM 11853 (g2+1) 131 4 aB s2.2 [(⟨((⟨#[65,66,67,68,69,70]⟩:ByteArray).extract s2.1.toNat (i64.wrap (s2.1+1)).toNat),(i64.wrap (((i64.wrap e3.x0).tmod (i64.wrap (s2.1+1)))-1)),(decide (((IntKind.u8.wrap (e3.x0.tdiv 16)).tmod 4)=3)),[]⟩:iy)] (by simp -implicitDefEqProofs only[go_sem,F]<;>rfl) (by simp -implicitDefEqProofs only[go_sem,F]<;>and_intros<;>first|rfl|trivial)) ?_;exact zW))
  ·refine eD 17 [.w,.s] ?_;refine zC F h λF h=>?_
   refine eU ((0:Int)<=0) F λF=>?_
   refine eU ((0:Int)<((2:Nat):Int)) F λF=>?_
   refine zC F h λF h=>?_
   refine eU ((0:Int)<=0) F λF=>?_
   refine eU ((0:Int)<((2:Nat):Int)) F λF=>?_
   refine eU (¬ ((16:Int)=0)) F λF=>?_
   refine eU (¬ ((4:Int)=0)) F λF=>?_
   refine zC F h λF h=>?_
   refine eU ((0:Int)<=1) F λF=>?_
   refine eU ((1:Int)<((2:Nat):Int)) F λF=>?_
   refine eU (¬ ((4:Int)=0)) F λF=>?_
   refine zB F h (λF h=>?_) λF h=>?_
   ·refine eU ((0:Int)<=1) F λF=>?_
    refine eU ((1:Int)<((2:Nat):Int)) F λF=>?_
    refine eU (¬ ((4:Int)=0)) F λF=>?_
    refine eU (¬ ((9:Int)=0)) F λF=>?_
    refine zC F h λF h=>?_
    refine dz (s2.2.length+1) 56 F λF=>?_
    exact zX (z:=jL _ (g2+1) h (by refine c8.trans (sM 11853 (g2+1) 131 4 aB s2.2 [(⟨((⟨#[65,66,67,68,69,70]⟩:ByteArray).extract s2.1.toNat (i64.wrap (s2.1+1)).toNat),(i64.wrap (((i64.wrap 0).tmod (i64.wrap (s2.1+1)))-1)),(decide (((IntKind.u8.wrap ((0:Int).tdiv 16)).tmod 4)=3)),[(⟨((⟨#[117,118,119,120,121,122]⟩:ByteArray).extract s2.1.toNat (i64.wrap (s2.1+1)).toNat),(-3),(i64.wrap (3+((i64.wrap (IntKind.u8.wrap ((0:Int).tdiv 4))).tmod 9))),[]⟩:Attr)]⟩:iy)] (by simp -implicitDefEqProofs only[go_sem,F]<;>rfl) (by simp -implicitDefEqProofs only[go_sem,F]<;>and_intros<;>first|rfl|trivial)) ?_;exact zW))
   ·refine zB F h (λF h=>?_) λF h=>?_
    ·refine zC F h λF h=>?_
     refine dz (s2.2.length+1) 56 F λF=>?_
     refine zF (bt aB s2.2 [(⟨((⟨#[65,66,67,68,69,70]⟩:ByteArray).extract s2.1.toNat (i64.wrap (s2.1+1)).toNat),(i64.wrap (((i64.wrap 0).tmod (i64.wrap (s2.1+1)))-1)),(decide (((IntKind.u8.wrap ((0:Int).tdiv 16)).tmod 4)=3)),[(⟨((⟨#[117,118,119,120,121,122]⟩:ByteArray).extract s2.1.toNat (i64.wrap (s2.1+1)).toNat),0,1,[(⟨#[111,102,102]⟩:ByteArray),(⟨#[111,110]⟩:ByteArray)]⟩:Attr)]⟩:iy)] (c:=[[.val (.string ((⟨#[65,66,67,68,69,70]⟩:ByteArray).extract s2.1.toNat (i64.wrap (s2.1+1)).toNat)),.val (.int .i64 (i64.wrap (((i64.wrap 0).tmod (i64.wrap (s2.1+1)))-1))),.val (.bool (decide (((IntKind.u8.wrap ((0:Int).tdiv 16)).tmod 4)=3))),.aL [[.val (.string ((⟨#[117,118,119,120,121,122]⟩:ByteArray).extract s2.1.toNat (i64.wrap (s2.1+1)).toNat)),.val (.int .i64 0),.val (.int .i64 1),.aL [[.val (.string (⟨#[111,102,102]⟩:ByteArray))],[.val (.string (⟨#[111,110]⟩:ByteArray))]]]]]]) rfl) F λF=>?_
     exact zX (z:=jL _ (g2+1) h zW)
    ·refine zC F h λF h=>?_
     refine dz (s2.2.length+1) 56 F λF=>?_
     exact zX (z:=jL _ (g2+1) h (by refine c8.trans (sM 11853 (g2+1) 131 4 aB s2.2 [(⟨((⟨#[65,66,67,68,69,70]⟩:ByteArray).extract s2.1.toNat (i64.wrap (s2.1+1)).toNat),(i64.wrap (((i64.wrap 0).tmod (i64.wrap (s2.1+1)))-1)),(decide (((IntKind.u8.wrap ((0:Int).tdiv 16)).tmod 4)=3)),[]⟩:iy)] (by simp -implicitDefEqProofs only[go_sem,F]<;>rfl) (by simp -implicitDefEqProofs only[go_sem,F]<;>and_intros<;>first|rfl|trivial)) ?_;exact zW))
 ·refine gx F h (λF h=>?_) λF h=>?_
  ·refine zB F h (λF h=>?_) λF h=>?_
   ·refine zA eG F h λe4 F h=>?_
    refine eD 17 [.w,.s] ?_;refine zC F h λF h=>?_
    refine eU ((0:Int)<=0) F λF=>?_
    refine eU ((0:Int)<((2:Nat):Int)) F λF=>?_
    refine zC F h λF h=>?_
    refine eU ((0:Int)<=0) F λF=>?_
    refine eU ((0:Int)<((2:Nat):Int)) F λF=>?_
    refine eU (¬ ((16:Int)=0)) F λF=>?_
    refine eU (¬ ((4:Int)=0)) F λF=>?_
    refine zC F h λF h=>?_
    refine eU ((0:Int)<=1) F λF=>?_
    refine eU ((1:Int)<((2:Nat):Int)) F λF=>?_
    refine eU (¬ ((4:Int)=0)) F λF=>?_
    refine zB F h (λF h=>?_) λF h=>?_
    ·refine eU ((0:Int)<=1) F λF=>?_
     refine eU ((1:Int)<((2:Nat):Int)) F λF=>?_
     refine eU (¬ ((4:Int)=0)) F λF=>?_
     refine eU (¬ ((9:Int)=0)) F λF=>?_
     refine zC F h λF h=>?_
     refine dz (s2.2.length+1) 56 F λF=>?_
     exact zX (z:=jL _ (g2+1) h (by refine c8.trans (sM 11853 (g2+1) 131 4 aB s2.2 [(⟨((⟨#[65,66,67,68,69,70]⟩:ByteArray).extract s2.1.toNat (i64.wrap (s2.1+1)).toNat),(i64.wrap (((i64.wrap e4.x0).tmod (i64.wrap (s2.1+1)))-1)),(decide (((IntKind.u8.wrap (e4.x0.tdiv 16)).tmod 4)=3)),[(⟨((⟨#[117,118,119,120,121,122]⟩:ByteArray).extract s2.1.toNat (i64.wrap (s2.1+1)).toNat),(-3),(i64.wrap (3+((i64.wrap (IntKind.u8.wrap (e4.x1.tdiv 4))).tmod 9))),[]⟩:Attr)]⟩:iy)] (by simp -implicitDefEqProofs only[go_sem,F]<;>rfl) (by simp -implicitDefEqProofs only[go_sem,F]<;>and_intros<;>first|rfl|trivial)) ?_;exact zW))
    ·refine zB F h (λF h=>?_) λF h=>?_
     ·refine zC F h λF h=>?_
      refine dz (s2.2.length+1) 56 F λF=>?_
      refine zF (bt aB s2.2 [(⟨((⟨#[65,66,67,68,69,70]⟩:ByteArray).extract s2.1.toNat (i64.wrap (s2.1+1)).toNat),(i64.wrap (((i64.wrap e4.x0).tmod (i64.wrap (s2.1+1)))-1)),(decide (((IntKind.u8.wrap (e4.x0.tdiv 16)).tmod 4)=3)),[(⟨((⟨#[117,118,119,120,121,122]⟩:ByteArray).extract s2.1.toNat (i64.wrap (s2.1+1)).toNat),0,1,[(⟨#[111,102,102]⟩:ByteArray),(⟨#[111,110]⟩:ByteArray)]⟩:Attr)]⟩:iy)] (c:=[[.val (.string ((⟨#[65,66,67,68,69,70]⟩:ByteArray).extract s2.1.toNat (i64.wrap (s2.1+1)).toNat)),.val (.int .i64 (i64.wrap (((i64.wrap e4.x0).tmod (i64.wrap (s2.1+1)))-1))),.val (.bool (decide (((IntKind.u8.wrap (e4.x0.tdiv 16)).tmod 4)=3))),.aL [[.val (.string ((⟨#[117,118,119,120,121,122]⟩:ByteArray).extract s2.1.toNat (i64.wrap (s2.1+1)).toNat)),.val (.int .i64 0),.val (.int .i64 1),.aL [[.val (.string (⟨#[111,102,102]⟩:ByteArray))],[.val (.string (⟨#[111,110]⟩:ByteArray))]]]]]]) rfl) F λF=>?_
      exact zX (z:=jL _ (g2+1) h zW)
     ·refine zC F h λF h=>?_
      refine dz (s2.2.length+1) 56 F λF=>?_
      exact zX (z:=jL _ (g2+1) h (by refine c8.trans (sM 11853 (g2+1) 131 4 aB s2.2 [(⟨((⟨#[65,66,67,68,69,70]⟩:ByteArray).extract s2.1.toNat (i64.wrap (s2.1+1)).toNat),(i64.wrap (((i64.wrap e4.x0).tmod (i64.wrap (s2.1+1)))-1)),(decide (((IntKind.u8.wrap (e4.x0.tdiv 16)).tmod 4)=3)),[]⟩:iy)] (by simp -implicitDefEqProofs only[go_sem,F]<;>rfl) (by simp -implicitDefEqProofs only[go_sem,F]<;>and_intros<;>first|rfl|trivial)) ?_;exact zW))
   ·try dsimp only at h
    refine zV ?_;refine zL F h (0:Nat) [1,4,5] (λx=>[(10,.p (.val (.int .i64 x.1.1)))]) [4,11853] (λx H=>[(5,bx (H 5) [(1,.row 12149 x.2)]),(12149,.row x.2 133 7 (x.1.2.map aC))]) ?_ (hw:=by refine c8.trans (bK 5 1 12149 133 7 _ rfl rfl rfl (by decide)) ?_;exact zW);intro s5 g5 _ _ F Ns5 h;try dsimp only at h
    refine gx F h (λF h=>?_) λF h=>?_
    ·refine zB F h (λF h=>?_) λF h=>?_
     ·refine zE [(0,.p),(2,.q),(3,.q),(4,.q),(5,.q),(6,.q),(7,.q),(8,.q),(9,.q),(10,.q),(11,.q),(12,.q),(13,.q),(14,.q),(15,.q),(16,.q),(17,.q),(18,.q),(19,.q),(20,.q),(21,.q),(22,.q),(23,.p),(1,.q),(24,.w),(25,.q),(26,.w)] ?_;refine zC F h λF h=>?_
      refine zA eG F h λe6 F h=>?_
      refine eU ((0:Int)<=0) F λF=>?_
      refine eU ((0:Int)<((2:Nat):Int)) F λF=>?_
      refine zC F h λF h=>?_
      refine eU ((0:Int)<=1) F λF=>?_
      refine eU ((1:Int)<((2:Nat):Int)) F λF=>?_
      refine zC F h λF h=>?_
      refine zC F h λF h=>?_
      refine dz (s5.2.length+1) 64 F λF=>?_
      refine zF (bt aC s5.2 [(⟨((⟨#[101,102,103,104,105]⟩:ByteArray).extract s5.1.toNat (i64.wrap (s5.1+1)).toNat),((i64.wrap e6.x0).tmod ((s2.2.length:Nat):Int)),((i64.wrap e6.x1).tmod ((s2.2.length:Nat):Int)),0,(-1),0,(-1)⟩:nW)] (c:=[[.val (.string ((⟨#[101,102,103,104,105]⟩:ByteArray).extract s5.1.toNat (i64.wrap (s5.1+1)).toNat)),.val (.int .i64 ((i64.wrap e6.x0).tmod ((s2.2.length:Nat):Int))),.val (.int .i64 ((i64.wrap e6.x1).tmod ((s2.2.length:Nat):Int))),.val (.int .i64 0),.val (.int .i64 (-1)),.val (.int .i64 0),.val (.int .i64 (-1))]]) rfl) F λF=>?_
      exact zX (z:=Ns5 _ (g5+1) h zW)
     ·try dsimp only at h
      exact gJ h
    ·try dsimp only at h
     exact gJ h
  ·try dsimp only at h
   refine zV ?_;refine zL F h (0:Nat) [1,4,5] (λx=>[(10,.p (.val (.int .i64 x.1.1)))]) [4,11853] (λx H=>[(5,bx (H 5) [(1,.row 12256 x.2)]),(12256,.row x.2 133 7 (x.1.2.map aC))]) ?_ (hw:=by refine c8.trans (bK 5 1 12256 133 7 _ rfl rfl rfl (by decide)) ?_;exact zW);intro s7 g7 _ _ F Ns7 h;try dsimp only at h
   refine gx F h (λF h=>?_) λF h=>?_
   ·refine zB F h (λF h=>?_) λF h=>?_
    ·refine zE [(0,.p),(2,.q),(3,.q),(4,.q),(5,.q),(6,.q),(7,.q),(8,.q),(9,.q),(10,.q),(11,.q),(12,.q),(13,.q),(14,.q),(15,.q),(16,.q),(17,.q),(18,.q),(19,.q),(20,.q),(21,.q),(22,.q),(23,.p),(1,.q),(24,.w),(25,.q),(26,.w)] ?_;refine zC F h λF h=>?_
     refine zA eG F h λe8 F h=>?_
     refine eU ((0:Int)<=0) F λF=>?_
     refine eU ((0:Int)<((2:Nat):Int)) F λF=>?_
     refine zC F h λF h=>?_
     refine eU ((0:Int)<=1) F λF=>?_
     refine eU ((1:Int)<((2:Nat):Int)) F λF=>?_
     refine zC F h λF h=>?_
     refine zC F h λF h=>?_
     refine dz (s7.2.length+1) 64 F λF=>?_
     refine zF (bt aC s7.2 [(⟨((⟨#[101,102,103,104,105]⟩:ByteArray).extract s7.1.toNat (i64.wrap (s7.1+1)).toNat),((i64.wrap e8.x0).tmod ((s2.2.length:Nat):Int)),((i64.wrap e8.x1).tmod ((s2.2.length:Nat):Int)),0,(-1),0,(-1)⟩:nW)] (c:=[[.val (.string ((⟨#[101,102,103,104,105]⟩:ByteArray).extract s7.1.toNat (i64.wrap (s7.1+1)).toNat)),.val (.int .i64 ((i64.wrap e8.x0).tmod ((s2.2.length:Nat):Int))),.val (.int .i64 ((i64.wrap e8.x1).tmod ((s2.2.length:Nat):Int))),.val (.int .i64 0),.val (.int .i64 (-1)),.val (.int .i64 0),.val (.int .i64 (-1))]]) rfl) F λF=>?_
     exact zX (z:=Ns7 _ (g7+1) h zW)
    ·try dsimp only at h
     exact gJ h
   ·try dsimp only at h
    exact gJ h
end
noncomputable section
theorem wz  (r:Types)(h:lp  = some r):bl pw 28 [] (λv=>v = .agg [.row 131 4 (r.nodes.map aB),.row 133 7 (r.ah.map aC)]):=by refine bl.qX ?_;refine bz [10,13] func28 ntmps28 results28 ?_;unfold lp at h;have F:=trivial;exact gJ h
theorem acF(a0:Edge)(a1:Types)(r:Bool)(h:mz a0 a1=some r):aD pw 216 [.agg (aK a0),.ez [.aL (a1.nodes.map aB),.aL (a1.ah.map aC)] 0] (λv=>v = .val (.bool r)):=by refine aD.gW ?_;refine aF [] func216 ntmps216 results216 ?_;unfold mz at h;have F:=trivial;exact zR h
theorem adR(a0:aj)(a1:Int)(r:Bool)(h:kS a0 a1=some r):aD pw 148 [.agg (ag a0),.ez [.val (.int .i64 a1)] 0] (λv=>v = .val (.bool r)):=by refine aD.gW ?_;refine aF [] func148 ntmps148 results148 ?_;unfold kS at h;have F:=trivial;exact zR h
theorem uA(a0:List ax)(p1:ax->Option Bool)(k1:FuncId)(xV xW:List PV)(hp1:∀x0 r,p1 x0=some r->aD pw k1 (xV++[.agg (ak x0)]++xW) (λv=>v = .val (.bool r)))(r:Int)(h:fW a0 p1=some r):aD pw 149 [.aL (a0.map ak),.jk (.func k1) xV xW] (λv=>v = .val (.int .i64 r)):=by
 refine aD.gW ?_;refine aF [] func149 ntmps149 results149 ?_;unfold fW at h;have F:=trivial;refine zV ?_;refine zN F h () [0,1,7] (λx=>[(8,.p (.val (.int .i64 ((x.1.1:Nat):Int))))]) [] (λx H=>[]) ?_ ?_
 ·intro i2 s2 g2 _ _ F jL h;try dsimp only at h
  refine zI ak F h λe3 F h=>?_
  refine zP F h (hp1 _) λr4 h=>?_
  refine zB F h (λF h=>?_) λF h=>?_
  ·exact zR h
  ·exact zX (z:=jL _ () h zW)
 ·intro i2 s2 g2 _ F h;try dsimp only at h
  exact zR h
theorem pF(a0:Int)(a1:Int)(r:(List Int))(h:fO a0 a1=some r):bl pw 41 [.val (.int .i64 a0),.val (.int .i64 a1)] (λv=>v = .row 3 1 (r.map encI)):=by
 refine bl.qX ?_;refine bz [17] func41 ntmps41 results41 ?_;unfold fO at h;have F:=trivial;refine zV ?_;refine zO F h (0:Nat) [0,1] (λx=>[(5,.row 6936 x.2),(6,.p (.val (.int .i64 ((x.1.1:Nat):Int))))]) [] (λx H=>[(6936,.row x.2 3 1 (x.1.2.map encI))]) ?_ ?_ (hw:=by refine c8.trans (jm 5 6936 3 1 rfl rfl (by decide)) ?_;exact zW)
 ·intro i2 s2 g2 _ _ F jL h;try dsimp only at h
  refine zC F h λF h=>?_
  refine dz (s2.length+1) 8 F λF=>?_
  refine zF (bt encI s2 [(i64.wrap (a0+((i2:Nat):Int)))] (c:=[[.val (.int .i64 (i64.wrap (a0+((i2:Nat):Int))))]]) rfl) F λF=>?_
  exact zX (z:=jL _ (g2+1) h zW)
 ·intro i2 s2 g2 _ F h;try dsimp only at h
  exact gJ h
theorem jg(a0:List Int)(a1:List Int)(r:Bool)(h:dK a0 a1=some r):aD pw 43 [.aL (a0.map encI),.aL (a1.map encI)] (λv=>v = .val (.bool r)):=by
 refine aD.gW ?_;refine aF [] func43 ntmps43 results43 ?_;unfold dK at h;have F:=trivial;refine fB F h (λF h=>?_) λF h=>?_
 ·refine zV ?_;refine zN F h () [0,1] (λx=>[(5,.p (.val (.int .i64 ((x.1.1:Nat):Int))))]) [] (λx H=>[]) ?_ ?_
  ·intro i2 s2 g2 _ _ F jL h;try dsimp only at h
   refine eD 9 [] ?_;refine zI encI F h λe3 F h=>?_
   refine zI encI F h λe4 F h=>?_
   refine fB F h (λF h=>?_) λF h=>?_
   ·exact zX (z:=jL _ () h zW)
   ·exact zR h
  ·intro i2 s2 g2 _ F h;try dsimp only at h
   exact zR h
 ·exact zR h
theorem di(a0:List Int)(a1:Int)(r:Int)(h:bW a0 a1=some r):aD pw 49 [.aL (a0.map encI),.val (.int .i64 a1)] (λv=>v = .val (.int .i64 r)):=by
 refine aD.gW ?_;refine aF [] func49 ntmps49 results49 ?_;unfold bW at h;have F:=trivial;refine zV ?_;refine zN F h () [0,1] (λx=>[(5,.p (.val (.int .i64 ((x.1.1:Nat):Int))))]) [] (λx H=>[]) ?_ ?_
 ·intro i2 s2 g2 _ _ F jL h;try dsimp only at h
  refine zI encI F h λe3 F h=>?_
  refine zB F h (λF h=>?_) λF h=>?_
  ·exact zR h
  ·exact zX (z:=jL _ () h zW)
 ·intro i2 s2 g2 _ F h;try dsimp only at h
  exact zR h
theorem kz(a0:ay)(a1:Int)(r:ax)(h:dG a0 a1=some r):aD pw 151 [.agg (az a0),.val (.int .i64 a1)] (λv=>v = .agg (ak r)):=by
 refine aD.gW ?_;refine aF [] func151 ntmps151 results151 ?_;unfold dG at h;have F:=trivial;refine zA aK F h λe2 F h=>?_
 refine eD 20 [.w] ?_;refine zA encI F h λe3 F h=>?_
 refine zA encI F h λe4 F h=>?_
 refine zA encI F h λe5 F h=>?_
 exact zR h
theorem iS(a0:aH)(a1:aO)(r:aH×Bool)(h:cS a0 a1=some r):bl pw 174 [.agg [.aL (a0.nodes.map ag),.aL (a0.ah.map ak)],.agg (aP a1)] (λv=>v = .dH [.agg [.row 96 3 (r.1.nodes.map ag),.p (.aL (r.1.ah.map ak))],.p (.val (.bool r.2))]):=by
 refine bl.qX ?_;refine bz [61,64,77] func174 ntmps174 results174 ?_;unfold cS at h;have F:=trivial;refine zV ?_;refine zN F h (0:Nat) [2,3,4,6] (λx=>[(7,.p (.val (.bool x.1.2.2))),(8,.p (.val (.int .i64 ((x.1.1:Nat):Int))))]) [2,3,4] (λx H=>[(6,bx (H 6) [(0,.row 8575 x.2)]),(8575,.row x.2 96 3 (x.1.2.1.map ag))]) ?_ ?_ (hw:=by refine c8.trans (bK 6 0 8575 96 3 _ rfl rfl rfl (by decide)) ?_;exact zW)
 ·intro i2 s2 g2 _ _ F jL h;try dsimp only at h
  refine zI ag F h λe3 F h=>?_
  refine eD 36 [] ?_;refine zBd F h (λF h=>?_) λF h=>?_
  ·refine zBd F h (λF h=>?_) λF h=>?_
   ·refine zBd F h (λF h=>?_) λF h=>?_
    ·refine zA encI F h λe4 F h=>?_
     refine zBd F h (λF h=>?_) λF h=>?_
     ·refine fB F h (λF h=>?_) λF h=>?_
      ·refine zC F h λF h=>?_
       refine dz (s2.1.length+1) 40 F λF=>?_
       refine zF (bt ag s2.1 [e3] (c:=[[.val (.int .i64 e3.id),.val (.int .i64 e3.type),.aL (e3.values.map encI)]]) rfl) F λF=>?_
       exact zX (z:=jL _ (g2+1) h zW)
      ·refine zC F h λF h=>?_
       refine dz e3.values.length 8 F λF=>?_
       refine zF (eq_true (gN (n:=1) (f:=encI) (λ_=>rfl) e3.values)) F λF=>?_
       refine zF (lK encI e3.values a1.attr.toNat a1.new (c:=[.val (.int .i64 a1.new)]) rfl) F λF=>?_
       refine zC F h λF h=>?_
       refine dz (s2.1.length+1) 40 F λF=>?_
       refine zF (bt ag s2.1 [(⟨e3.id,e3.type,(e3.values.set a1.attr.toNat a1.new)⟩:aj)] (c:=[[.val (.int .i64 e3.id),.val (.int .i64 e3.type),.aL ((e3.values.set a1.attr.toNat a1.new).map encI)]]) rfl) F λF=>?_
       exact zX (z:=jL _ (g2+1) h zW)
     ·refine zC F h λF h=>?_
      refine dz (s2.1.length+1) 40 F λF=>?_
      refine zF (bt ag s2.1 [e3] (c:=[[.val (.int .i64 e3.id),.val (.int .i64 e3.type),.aL (e3.values.map encI)]]) rfl) F λF=>?_
      exact zX (z:=jL _ (g2+1) h zW)
    ·refine zC F h λF h=>?_
     refine dz (s2.1.length+1) 40 F λF=>?_
     refine zF (bt ag s2.1 [e3] (c:=[[.val (.int .i64 e3.id),.val (.int .i64 e3.type),.aL (e3.values.map encI)]]) rfl) F λF=>?_
     exact zX (z:=jL _ (g2+1) h zW)
   ·refine zC F h λF h=>?_
    refine dz (s2.1.length+1) 40 F λF=>?_
    refine zF (bt ag s2.1 [e3] (c:=[[.val (.int .i64 e3.id),.val (.int .i64 e3.type),.aL (e3.values.map encI)]]) rfl) F λF=>?_
    exact zX (z:=jL _ (g2+1) h zW)
  ·refine zC F h λF h=>?_
   refine dz (s2.1.length+1) 40 F λF=>?_
   refine zF (bt ag s2.1 [e3] (c:=[[.val (.int .i64 e3.id),.val (.int .i64 e3.type),.aL (e3.values.map encI)]]) rfl) F λF=>?_
   exact zX (z:=jL _ (g2+1) h zW)
 ·intro i2 s2 g2 _ F h;try dsimp only at h
  exact gJ h
theorem oo(a0:aH)(a1:Int)(r:Bool)(h:fk a0 a1=some r):aD pw 175 [.agg [.aL (a0.nodes.map ag),.aL (a0.ah.map ak)],.val (.int .i64 a1)] (λv=>v = .val (.bool r)):=by
 refine aD.gW ?_;refine aF [] func175 ntmps175 results175 ?_;unfold fk at h;have F:=trivial;refine zV ?_;refine zN F h () [1,2] (λx=>[(5,.p (.val (.int .i64 ((x.1.1:Nat):Int))))]) [2] (λx H=>[]) ?_ ?_
 ·intro i2 s2 g2 _ _ F jL h;try dsimp only at h
  refine zI ag F h λe3 F h=>?_
  refine zB F h (λF h=>?_) λF h=>?_
  ·exact zR h
  ·exact zX (z:=jL _ () h zW)
 ·intro i2 s2 g2 _ F h;try dsimp only at h
  refine zV ?_;refine zN F h () [1,2] (λx=>[(6,.p (.val (.int .i64 ((x.1.1:Nat):Int))))]) [2] (λx H=>[]) ?_ ?_
  ·intro i4 s4 g4 _ _ F Ns4 h;try dsimp only at h
   refine zI ak F h λe5 F h=>?_
   refine zB F h (λF h=>?_) λF h=>?_
   ·exact zR h
   ·exact zX (z:=Ns4 _ () h zW)
  ·intro i4 s4 g4 _ F h;try dsimp only at h
   exact zR h
end
noncomputable section
theorem aji(a0:fI)(a1:fI)(r:Bool)(h:tj a0 a1=some r):aD pw 278 [.agg (bQ a0),.ez (bQ a1) 0] (λv=>v = .val (.bool r)):=by
 refine aD.gW ?_;refine aF [] func278 ntmps278 results278 ?_;unfold tj at h;have F:=trivial;refine gx F h (λF h=>?_) λF h=>?_
 ·exact zR h
 ·exact zR h
theorem ah7(a0:Int)(a1:Int)(r:Bool)(h:vN a0 a1=some r):aD pw 241 [.val (.int .i64 a0),.val (.int .i64 a1)] (λv=>v = .val (.bool r)):=by
 refine aD.gW ?_;refine aF [] func241 ntmps241 results241 ?_;unfold vN at h;have F:=trivial;refine zK F h (qd _) λr2 h=>?_
 refine gx F h (λF h=>?_) λF h=>?_
 ·refine zK F h (qd _) λr3 h=>?_
  refine gx F h (λF h=>?_) λF h=>?_
  ·exact zR h
  ·exact zR h
 ·exact zR h
theorem o8(a0:bE)(a1:bE)(a2:aY)(r:Int)(h:kH a0 a1 a2=some r):aD pw 224 [.agg [.aL (a0.nodes.map encI),.aL (a0.ah.map aK)],.agg [.aL (a1.nodes.map encI),.aL (a1.ah.map aK)],.agg [.aL (a2.nodes.map encI),.aL (a2.ah.map encI)]] (λv=>v = .val (.int .i64 r)):=by
 refine aD.gW ?_;refine aF [] func224 ntmps224 results224 ?_;unfold kH at h;have F:=trivial;refine zK F h (nO _) λr3 h=>?_
 refine fB F h (λF h=>?_) λF h=>?_
 ·refine zK F h (nO _) λr4 h=>?_
  refine fB F h (λF h=>?_) λF h=>?_
  ·refine gx F h (λF h=>?_) λF h=>?_
   ·refine fB F h (λF h=>?_) λF h=>?_
    ·refine zV ?_;refine zN F h () [3,4,5,42,43] (λx=>[(44,.p (.val (.int .i64 ((x.1.1:Nat):Int))))]) [3,4,5] (λx H=>[]) ?_ ?_
     ·intro i5 s5 g5 _ _ F Ns5 h;try dsimp only at h
      refine zI encI F h λe6 F h=>?_
      refine nv F h (λF h=>?_) λF h=>?_
      ·exact zR h
      ·refine zB F h (λF h=>?_) λF h=>?_
       ·exact zR h
       ·refine eD 11 [] ?_;refine zA encI F h λe7 F h=>?_
        refine zI encI F h λe8 F h=>?_
        refine fB F h (λF h=>?_) λF h=>?_
        ·exact zX (z:=Ns5 _ () h zW)
        ·exact zR h
     ·intro i5 s5 g5 _ F h;try dsimp only at h
      refine zV ?_;refine zN F h () [3,4,5,71,72] (λx=>[(73,.p (.val (.int .i64 ((x.1.1:Nat):Int))))]) [3,4,5] (λx H=>[]) ?_ ?_
      ·intro i9 s9 g9 _ _ F Ns9 h;try dsimp only at h
       refine zI encI F h λpE F h=>?_
       refine nv F h (λF h=>?_) λF h=>?_
       ·exact zR h
       ·refine zB F h (λF h=>?_) λF h=>?_
        ·exact zR h
        ·refine eD 5 [.o,.o,.o,.o,.o,.w,.w,.s,.s] ?_;refine zI aK F h λe11 F h=>?_
         refine zA aK F h λe12 F h=>?_
         refine fB F h (λF h=>?_) λF h=>?_
         ·refine eD 20 [] ?_;refine zA encI F h λe13 F h=>?_
          refine zBd F h (λF h=>?_) λF h=>?_
          ·refine zA encI F h λe14 F h=>?_
           refine fB F h (λF h=>?_) λF h=>?_
           ·exact zX (z:=Ns9 _ () h zW)
           ·exact zR h
          ·exact zR h
         ·exact zR h
      ·intro i9 s9 g9 _ F h;try dsimp only at h
       exact zR h
    ·exact zR h
   ·exact zR h
  ·exact zR h
 ·exact zR h
theorem aeJ(a0:Edge)(a1:Types)(r:Bool)(h:og a0 a1=some r):aD pw 289 [.agg (aK a0),.ez [.aL (a1.nodes.map aB),.aL (a1.ah.map aC)] 0] (λv=>v = .val (.bool r)):=by refine aD.gW ?_;refine aF [] func289 ntmps289 results289 ?_;unfold og at h;have F:=trivial;exact zR h
theorem abC(a0:List Int)(r:Bool)(h:rE a0=some r):aD pw 231 [.aL (a0.map encI)] (λv=>v = .val (.bool r)):=by unfold rE at h;cases h
theorem uQ(a0:List iT)(a1:List iT)(r:Bool)(h:mC a0 a1=some r):aD pw 295 [.aL (a0.map cI),.aL (a1.map cI)] (λv=>v = .val (.bool r)):=by
 refine aD.gW ?_;refine aF [] func295 ntmps295 results295 ?_;unfold mC at h;have F:=trivial;refine fB F h (λF h=>?_) λF h=>?_
 ·refine zV ?_;refine zL F h () [0,1,12,13] (λx=>[]) [] (λx H=>[]) ?_;intro s2 g2 _ _ F jL h;try dsimp only at h
  refine zB F h (λF h=>?_) λF h=>?_
  ·refine eD 9 [] ?_;cases h
  ·try dsimp only at h
   exact zR h
 ·exact zR h
theorem yy(a0:List (List Int))(a1:List (List Int))(p2:(List Int)->(List Int)->Option Bool)(k2:FuncId)(fs2 cs2:List PV)(hp2:∀x0 x1 r,p2 x0 x1=some r->aD pw k2 (fs2++[.aL (x0.map encI),.aL (x1.map encI)]++cs2) (λv=>v = .val (.bool r)))(r:Bool)(h:mL a0 a1 p2=some r):aD pw 118 [.aL (a0.map bw),.aL (a1.map bw),.jk (.func k2) fs2 cs2] (λv=>v = .val (.bool r)):=by
 refine aD.gW ?_;refine aF [] func118 ntmps118 results118 ?_;unfold mL at h;have F:=trivial;refine fB F h (λF h=>?_) λF h=>?_
 ·refine zV ?_;refine zN F h () [1,2,15,16] (λx=>[(17,.p (.val (.int .i64 ((x.1.1:Nat):Int))))]) [] (λx H=>[]) ?_ ?_
  ·intro i3 s3 g3 _ _ F vL h;try dsimp only at h
   refine zI bw F h λe4 F h=>?_
   refine zI bw F h λe5 F h=>?_
   refine zP F h (hp2 _ _) λr6 h=>?_
   refine fB F h (λF h=>?_) λF h=>?_
   ·exact zX (z:=vL _ () h zW)
   ·exact zR h
  ·intro i3 s3 g3 _ F h;try dsimp only at h
   exact zR h
 ·exact zR h
theorem wA(a0:List Int)(a1:List Int)(r:Int)(h:gY a0 a1=some r):aD pw 82 [.aL (a0.map encI),.aL (a1.map encI)] (λv=>v = .val (.int .i64 r)):=by
 refine aD.gW ?_;refine aF [] func82 ntmps82 results82 ?_;unfold gY at h;have F:=trivial;refine zV ?_;refine zL F h () [0,1] (λx=>[(5,.p (.val (.int .i64 x.1)))]) [] (λx H=>[]) ?_;intro s2 g2 _ _ F jL h;try dsimp only at h
 refine gx F h (λF h=>?_) λF h=>?_
 ·refine zB F h (λF h=>?_) λF h=>?_
  ·refine eD 9 [] ?_;refine zA encI F h λe3 F h=>?_
   refine zA encI F h λe4 F h=>?_
   refine fB F h (λF h=>?_) λF h=>?_
   ·exact zX (z:=jL _ () h zW)
   ·refine eD 10 [] ?_;exact zR h
  ·try dsimp only at h
   exact zR h
 ·try dsimp only at h
  exact zR h
theorem ng(a0:List aj)(r:(List aj))(h:eO a0=some r):bl pw 55 [.aL (a0.map ag)] (λv=>v = .row 96 3 (r.map ag)):=by
 refine bl.qX ?_;refine bz [24] func55 ntmps55 results55 ?_;unfold eO at h;have F:=trivial;refine zV ?_;refine zN F h (0:Nat) [0] (λx=>[(3,.row 7831 x.2),(4,.p (.val (.int .i64 ((x.1.1:Nat):Int))))]) [] (λx H=>[(7831,.row x.2 96 3 (x.1.2.map ag))]) ?_ ?_ (hw:=by refine c8.trans (jm 3 7831 96 3 rfl rfl (by decide)) ?_;exact zW)
 ·intro i1 s1 g1 _ _ F Ns1 h;try dsimp only at h
  refine zI ag F h λe2 F h=>?_
  refine zC F h λF h=>?_
  refine dz e2.values.length 8 F λF=>?_
  refine zF (eq_true (gN (n:=1) (f:=encI) (λ_=>rfl) e2.values)) F λF=>?_
  refine zC F h λF h=>?_
  refine dz (s1.length+1) 40 F λF=>?_
  refine zF (bt ag s1 [e2] (c:=[[.val (.int .i64 e2.id),.val (.int .i64 e2.type),.aL (e2.values.map encI)]]) rfl) F λF=>?_
  exact zX (z:=Ns1 _ (g1+1) h zW)
 ·intro i1 s1 g1 _ F h;try dsimp only at h
  exact gJ h
theorem mM(a0:List aj)(r:Bool)(h:ek a0=some r):aD pw 169 [.aL (a0.map ag)] (λv=>v = .val (.bool r)):=by
 refine aD.gW ?_;refine aF [] func169 ntmps169 results169 ?_;unfold ek at h;have F:=trivial;refine zV ?_;refine zN F h () [0] (λx=>[(3,.p (.val (.int .i64 ((x.1.1:Nat):Int))))]) [] (λx H=>[]) ?_ ?_
 ·intro i1 s1 g1 _ _ F Ns1 h;try dsimp only at h
  refine eD 12 [] ?_;refine zI ag F h λe2 F h=>?_
  refine zA ag F h λe3 F h=>?_
  refine zB F h (λF h=>?_) λF h=>?_
  ·exact zR h
  ·exact zX (z:=Ns1 _ () h zW)
 ·intro i1 s1 g1 _ F h;try dsimp only at h
  exact zR h
theorem p9(l:List ax)(r:List ax)(h:iC l=some r):bl pw 63 [.aL (l.map ak)] (λv=>v = .row 125 4 (r.map ak)):=by
 obtain⟨hl,rfl⟩:=pz h;by_cases h0:l=[]
 ·subst h0;refine bl.wV (by kernel_rfl) λao cap=>?_
  refine bz [5] func63 ntmps63 results63 ?_;simp -implicitDefEqProofs only[go_sem];cases ao with
  |none=>simp -implicitDefEqProofs only[go_sem];exact⟨by decide,_,.nil _ _ (by decide),rfl⟩
  |some a=>simp -implicitDefEqProofs only[go_sem];exact⟨λ_ h=>h.elim,by decide,_,.refl _,rfl⟩
 ·have hne:l.map ak≠[]:=by simpa using h0
  refine bz [5] func63 ntmps63 results63 ?_;simp -implicitDefEqProofs only[go_sem,hne];exact⟨⟨by omega,gN (n:=4) (f:=ak) (λ_=>rfl) l⟩,by decide,_,.refl _,rfl⟩
end
noncomputable section
theorem aeK(a0:Int)(a1:Types)(r:Bool)(h:oe a0 a1=some r):aD pw 288 [.val (.int .i64 a0),.ez [.aL (a1.nodes.map aB),.aL (a1.ah.map aC)] 0] (λv=>v = .val (.bool r)):=by refine aD.gW ?_;refine aF [] func288 ntmps288 results288 ?_;unfold oe at h;have F:=trivial;exact zR h
theorem ajj(a0:Types)(a1:Int)(r:(List Int)×Int)(h:xQ a0 a1=some r):bl pw 290 [.agg [.aL (a0.nodes.map aB),.aL (a0.ah.map aC)],.val (.int .i64 a1)] (λv=>v = .dH [.row 3 1 (r.1.map encI),.p (.val (.int .i64 r.2))]):=by
 refine bl.qX ?_;refine bz [29] func290 ntmps290 results290 ?_;unfold xQ at h;have F:=trivial;refine zK F h (ajh _ _) λr2 h=>?_
 refine fB F h (λF h=>?_) λF h=>?_
 ·refine zV ?_;refine zN F h (0:Nat) [1,2,18] (λx=>[(7,.row 3116 x.2),(19,.p (.val (.int .i64 ((x.1.1:Nat):Int))))]) [2] (λx H=>[(3116,.row x.2 3 1 (x.1.2.map encI))]) ?_ ?_ (hw:=by refine c8.trans (jm 7 3116 3 1 rfl rfl (by decide)) ?_;exact zW)
  ·intro i3 s3 g3 _ _ F vL h;try dsimp only at h
   refine zK F h (aq6 _ _ _) λr4 h=>?_
   refine zB F h (λF h=>?_) λF h=>?_
   ·refine zC F h λF h=>?_
    refine dz (s3.length+1) 8 F λF=>?_
    refine zF (bt encI s3 [((i3:Nat):Int)] (c:=[[.val (.int .i64 ((i3:Nat):Int))]]) rfl) F λF=>?_
    exact zX (z:=vL _ (g3+1) h zW)
   ·exact zX (z:=vL _ g3 h zW)
  ·intro i3 s3 g3 _ F h;try dsimp only at h
   exact gJ h
 ·exact gJ h
theorem rL(a0:adN)(a1:List Int)(r:Int)(h:lT a0 a1=some r):aD pw 286 [.agg [.val (.int .i64 a0.var),.val (.int .i64 a0.add)],.aL (a1.map encI)] (λv=>v = .val (.int .i64 r)):=by
 refine aD.gW ?_;refine aF [] func286 ntmps286 results286 ?_;unfold lT at h;have F:=trivial;refine zB F h (λF h=>?_) λF h=>?_
 ·exact zR h
 ·refine eD 9 [] ?_;refine zA encI F h λe2 F h=>?_
  exact zR h
theorem dR(a0:List Int)(a1:List Int)(r:Bool)(h:cK a0 a1=some r):aD pw 31 [.aL (a0.map encI),.aL (a1.map encI)] (λv=>v = .val (.bool r)):=by
 refine aD.gW ?_;refine aF [] func31 ntmps31 results31 ?_;unfold cK at h;have F:=trivial;refine fB F h (λF h=>?_) λF h=>?_
 ·refine zV ?_;refine zN F h () [0,1,12] (λx=>[(13,.p (.val (.int .i64 ((x.1.1:Nat):Int))))]) [] (λx H=>[]) ?_ ?_
  ·intro i2 s2 g2 _ _ F jL h;try dsimp only at h
   refine eD 9 [] ?_;refine zI encI F h λe3 F h=>?_
   refine zI encI F h λe4 F h=>?_
   refine fB F h (λF h=>?_) λF h=>?_
   ·exact zX (z:=jL _ () h zW)
   ·exact zR h
  ·intro i2 s2 g2 _ F h;try dsimp only at h
   exact zR h
 ·exact zR h
theorem adS(a0:ax)(a1:Int)(r:Bool)(h:kT a0 a1=some r):aD pw 150 [.agg (ak a0),.ez [.val (.int .i64 a1)] 0] (λv=>v = .val (.bool r)):=by refine aD.gW ?_;refine aF [] func150 ntmps150 results150 ?_;unfold kT at h;have F:=trivial;exact zR h
theorem aaL(a0:Types)(r:Bool)(h:jq a0=some r):aD pw 32 [.agg [.aL (a0.nodes.map aB),.aL (a0.ah.map aC)]] (λv=>v = .val (.bool r)):=by
 refine aD.gW ?_;refine aF [] func32 ntmps32 results32 ?_;unfold jq at h;have F:=trivial;refine nv F h (λF h=>?_) λF h=>?_
 ·exact zR h
 ·refine zB F h (λF h=>?_) λF h=>?_
  ·exact zR h
  ·refine zV ?_;refine zN F h () [1] (λx=>[(3,.p (.val (.int .i64 x.1.2))),(4,.p (.val (.int .i64 ((x.1.1:Nat):Int))))]) [1] (λx H=>[]) ?_ ?_
   ·intro i1 s1 g1 _ _ F Ns1 h;try dsimp only at h
    refine zI aB F h λe2 F h=>?_
    refine nv F h (λF h=>?_) λF h=>?_
    ·exact zR h
    ·refine zB F h (λF h=>?_) λF h=>?_
     ·exact zR h
     ·refine zV ?_;refine zN F h () [1,3,4] (λx=>[(5,.p (.val (.int .i64 ((x.1.1:Nat):Int))))]) [1] (λx H=>[]) ?_ ?_
      ·intro i3 s3 g3 _ _ F vL h;try dsimp only at h
       refine zI aS F h λe4 F h=>?_
       refine nv F h (λF h=>?_) λF h=>?_
       ·exact zR h
       ·refine zB F h (λF h=>?_) λF h=>?_
        ·exact zR h
        ·refine zV ?_;refine zN F h () [1,3,4,5,6] (λx=>[(7,.p (.val (.int .i64 ((x.1.1:Nat):Int))))]) [1,6] (λx H=>[]) ?_ ?_
         ·intro i5 s5 g5 _ _ F Ns5 h;try dsimp only at h
          refine zI encS F h λe6 F h=>?_
          refine zB F h (λF h=>?_) λF h=>?_
          ·exact zR h
          ·exact zX (z:=Ns5 _ () h zW)
         ·intro i5 s5 g5 _ F h;try dsimp only at h
          exact zX (z:=vL _ () h zW)
      ·intro i3 s3 g3 _ F h;try dsimp only at h
       exact zX (z:=Ns1 _ () h zW)
   ·intro i1 s1 g1 _ F h;try dsimp only at h
    refine zV ?_;refine zN F h () [1] (λx=>[(8,.p (.val (.int .i64 ((x.1.1:Nat):Int))))]) [1] (λx H=>[]) ?_ ?_
    ·intro i7 s7 g7 _ _ F Ns7 h;try dsimp only at h
     refine zI aC F h λe8 F h=>?_
     refine zB F h (λF h=>?_) λF h=>?_
     ·exact zR h
     ·exact zX (z:=Ns7 _ () h zW)
    ·intro i7 s7 g7 _ F h;try dsimp only at h
     exact zR h
theorem oq(a0:List ax)(a1:List ax)(r:Bool)(h:fh a0 a1=some r):aD pw 53 [.aL (a0.map ak),.aL (a1.map ak)] (λv=>v = .val (.bool r)):=by
 refine aD.gW ?_;refine aF [] func53 ntmps53 results53 ?_;unfold fh at h;have F:=trivial;refine fB F h (λF h=>?_) λF h=>?_
 ·refine zV ?_;refine zN F h () [0,1] (λx=>[(5,.p (.val (.int .i64 ((x.1.1:Nat):Int))))]) [] (λx H=>[]) ?_ ?_
  ·intro i2 s2 g2 _ _ F jL h;try dsimp only at h
   refine eD 9 [] ?_;refine zI ak F h λe3 F h=>?_
   refine zI ak F h λe4 F h=>?_
   refine fB F h (λF h=>?_) λF h=>?_
   ·exact zX (z:=jL _ () h zW)
   ·exact zR h
  ·intro i2 s2 g2 _ F h;try dsimp only at h
   exact zR h
 ·exact zR h
theorem mN(a0:List ax)(r:Bool)(h:en a0=some r):aD pw 170 [.aL (a0.map ak)] (λv=>v = .val (.bool r)):=by
 refine aD.gW ?_;refine aF [] func170 ntmps170 results170 ?_;unfold en at h;have F:=trivial;refine zV ?_;refine zN F h () [0] (λx=>[(3,.p (.val (.int .i64 ((x.1.1:Nat):Int))))]) [] (λx H=>[]) ?_ ?_
 ·intro i1 s1 g1 _ _ F Ns1 h;try dsimp only at h
  refine eD 12 [] ?_;refine zI ak F h λe2 F h=>?_
  refine zA ak F h λe3 F h=>?_
  refine zB F h (λF h=>?_) λF h=>?_
  ·exact zR h
  ·exact zX (z:=Ns1 _ () h zW)
 ·intro i1 s1 g1 _ F h;try dsimp only at h
  exact zR h
theorem rW(a0:List aO)(r:Bool)(h:fq a0=some r):aD pw 171 [.aL (a0.map aP)] (λv=>v = .val (.bool r)):=by
 refine aD.gW ?_;refine aF [] func171 ntmps171 results171 ?_;unfold fq at h;have F:=trivial;refine zV ?_;refine zN F h () [0] (λx=>[(3,.p (.val (.int .i64 ((x.1.1:Nat):Int))))]) [] (λx H=>[]) ?_ ?_
 ·intro i1 s1 g1 _ _ F Ns1 h;try dsimp only at h
  refine eD 40 [] ?_;refine zI aP F h λe2 F h=>?_
  refine zA aP F h λe3 F h=>?_
  refine arn F h (λF h=>?_) λF h=>?_
  ·exact zR h
  ·refine zBd F h (λF h=>?_) λF h=>?_
   ·refine zB F h (λF h=>?_) λF h=>?_
    ·exact zR h
    ·exact zX (z:=Ns1 _ () h zW)
   ·exact zX (z:=Ns1 _ () h zW)
 ·intro i1 s1 g1 _ F h;try dsimp only at h
  exact zR h
theorem uR(a0:List aj)(r:(List aj))(h:jh a0=some r):bl pw 61 [.aL (a0.map ag)] (λv=>v = .row 96 3 (r.map ag)):=by
 refine bl.qX ?_;refine bz [22] func61 ntmps61 results61 ?_;unfold jh at h;have F:=trivial;refine zV ?_;refine zN F h (0:Nat) [6,7] (λx=>[(3,.row 14464 x.2),(8,.p (.val (.int .i64 ((x.1.1:Nat):Int))))]) [] (λx H=>[(14464,.row x.2 96 3 (x.1.2.map ag))]) ?_ ?_ (hw:=by refine c8.trans (jm 3 14464 96 3 rfl rfl (by decide)) ?_;exact zW)
 ·intro i1 s1 g1 _ _ F Ns1 h;try dsimp only at h
  refine zI ag F h λe2 F h=>?_
  refine zD [.p,.q,.q,.q,.q,.q,.q,.q,.q,.p,.w,.q] ?_;refine zTd F h (dQ _) λr3 h=>?_
  refine zC F h λF h=>?_
  refine dz (s1.length+1) 40 F λF=>?_
  refine zF (bt ag s1 [(⟨e2.id,e2.type,r3⟩:aj)] (c:=[[.val (.int .i64 e2.id),.val (.int .i64 e2.type),.aL (r3.map encI)]]) rfl) F λF=>?_
  exact zX (z:=Ns1 _ (g1+1) h zW)
 ·intro i1 s1 g1 _ F h;try dsimp only at h
  exact gJ h
end
noncomputable section
theorem yz(a0:Host)(r:Host)(h:kG a0=some r):bl pw 36 [.agg (gm a0)] (λv=>v = .agg [.row 3 1 (r.graph.nodes.map encI),.row 143 3 (r.graph.ah.map aK),.row 26 1 (r.values.map bw)]):=by
 refine bl.qX ?_;refine bz [28] func36 ntmps36 results36 ?_;unfold kG at h;have F:=trivial;refine zE [(0,.q),(1,.q),(2,.q),(4,.q),(5,.q),(6,.q),(3,.f),(7,.f),(8,.q),(9,.q),(10,.w),(11,.s)] ?_;refine zH 1144 F h (dQ _) λr1 h=>?_
 refine zH 1208 F h (pN _) λr2 h=>?_
 refine zV ?_;refine zN F h (0:Nat) [2,3,17,18] (λx=>[(19,.p (.val (.int .i64 ((x.1.1:Nat):Int))))]) [2,1144,1208] (λx H=>[(3,bx (H 3) [(2,.row 2128 x.2)]),(2128,.row x.2 26 1 (x.1.2.map bw))]) ?_ ?_ (hw:=by refine c8.trans (bK 3 2 2128 26 1 _ rfl rfl rfl (by decide)) ?_;exact zW)
 ·intro i3 s3 g3 _ _ F vL h;try dsimp only at h
  refine zI bw F h λe4 F h=>?_
  refine zE [(0,.p),(2,.q),(3,.q),(4,.p),(1,.q),(5,.w),(6,.q),(7,.w)] ?_;refine zTd F h (dQ _) λr5 h=>?_
  refine zC F h λF h=>?_
  refine dz (s3.length+1) 24 F λF=>?_
  refine zF (bt bw s3 [r5] (c:=[[.aL (r5.map encI)]]) rfl) F λF=>?_
  exact zX (z:=vL _ (g3+1) h zW)
 ·intro i3 s3 g3 _ F h;try dsimp only at h
  exact gJ h
theorem ah8(a0:Edge)(a1:Types)(r:Bool)(h:rz a0 a1=some r):aD pw 276 [.agg (aK a0),.ez [.aL (a1.nodes.map aB),.aL (a1.ah.map aC)] 0] (λv=>v = .val (.bool r)):=by refine aD.gW ?_;refine aF [] func276 ntmps276 results276 ?_;unfold rz at h;have F:=trivial;exact zR h
theorem yA(a0:List fI)(p1:fI->Option Bool)(k1:FuncId)(xV xW:List PV)(hp1:∀x0 r,p1 x0=some r->aD pw k1 (xV++[.agg (bQ x0)]++xW) (λv=>v = .val (.bool r)))(r:Int)(h:mJ a0 p1=some r):aD pw 319 [.aL (a0.map bQ),.jk (.func k1) xV xW] (λv=>v = .val (.int .i64 r)):=by
 refine aD.gW ?_;refine aF [] func319 ntmps319 results319 ?_;unfold mJ at h;have F:=trivial;refine zV ?_;refine zN F h () [0,1,7] (λx=>[(8,.p (.val (.int .i64 ((x.1.1:Nat):Int))))]) [] (λx H=>[]) ?_ ?_
 ·intro i2 s2 g2 _ _ F jL h;try dsimp only at h
  refine zI bQ F h λe3 F h=>?_
  refine zP F h (hp1 _) λr4 h=>?_
  refine zB F h (λF h=>?_) λF h=>?_
  ·exact zR h
  ·exact zX (z:=jL _ () h zW)
 ·intro i2 s2 g2 _ F h;try dsimp only at h
  exact zR h
theorem aaE(a0:List Int)(a1:Int)(r:Int)(h:qe a0 a1=some r):aD pw 330 [.aL (a0.map encI),.val (.int .i64 a1)] (λv=>v = .val (.int .i64 r)):=by
 refine aD.gW ?_;refine aF [] func330 ntmps330 results330 ?_;unfold qe at h;have F:=trivial;refine zV ?_;refine zN F h () [0,1,7,8] (λx=>[(9,.p (.val (.int .i64 ((x.1.1:Nat):Int))))]) [] (λx H=>[]) ?_ ?_
 ·intro i2 s2 g2 _ _ F jL h;try dsimp only at h
  refine zI encI F h λe3 F h=>?_
  refine nv F h (λF h=>?_) λF h=>?_
  ·exact zR h
  ·refine zB F h (λF h=>?_) λF h=>?_
   ·exact zR h
   ·refine gx F h (λF h=>?_) λF h=>?_
    ·refine zA encI F h λe4 F h=>?_
     refine zB F h (λF h=>?_) λF h=>?_
     ·exact zR h
     ·exact zX (z:=jL _ () h zW)
    ·exact zX (z:=jL _ () h zW)
 ·intro i2 s2 g2 _ F h;try dsimp only at h
  exact zR h
theorem adh(a0:List Int)(a1:Int)(r:(List Int))(h:tq a0 a1=some r):bl pw 226 [.aL (a0.map encI),.val (.int .i64 a1)] (λv=>v = .row 3 1 (r.map encI)):=by
 refine bl.qX ?_;refine bz [18] func226 ntmps226 results226 ?_;unfold tq at h;have F:=trivial;refine zV ?_;refine zO F h (0:Nat) [0,7] (λx=>[(5,.row 2880 x.2),(8,.p (.val (.int .i64 ((x.1.1:Nat):Int))))]) [] (λx H=>[(2880,.row x.2 3 1 (x.1.2.map encI))]) ?_ ?_ (hw:=by refine c8.trans (jm 5 2880 3 1 rfl rfl (by decide)) ?_;exact zW)
 ·intro i2 s2 g2 _ _ F jL h;try dsimp only at h
  refine zK F h (eH _ _) λr3 h=>?_
  refine fB F h (λF h=>?_) λF h=>?_
  ·exact zX (z:=jL _ g2 h zW)
  ·refine zC F h λF h=>?_
   refine dz (s2.length+1) 8 F λF=>?_
   refine zF (bt encI s2 [((i2:Nat):Int)] (c:=[[.val (.int .i64 ((i2:Nat):Int))]]) rfl) F λF=>?_
   exact zX (z:=jL _ (g2+1) h zW)
 ·intro i2 s2 g2 _ F h;try dsimp only at h
  exact gJ h
theorem afB(a0:Int)(a1:Types)(a2:bE)(r:Bool)(h:o6 a0 a1 a2=some r):aD pw 227 [.val (.int .i64 a0),.ez [.aL (a1.nodes.map aB),.aL (a1.ah.map aC)] 0,.ez [.aL (a2.nodes.map encI),.aL (a2.ah.map aK)] 0] (λv=>v = .val (.bool r)):=by
 refine aD.gW ?_;refine aF [] func227 ntmps227 results227 ?_;unfold o6 at h;have F:=trivial;refine eD 11 [] ?_;refine zA encI F h λe3 F h=>?_
 refine zA aB F h λe4 F h=>?_
 exact zR h
theorem vT(a0:jQ)(a1:aT)(a2:dF)(r:gn×Int)(h:kR a0 a1 a2=some r):aD pw 292 [.agg (kX a0),.agg (aX a1),.agg (iL a2)] (λv=>v = .dH [.agg (jJ r.1),.val (.int .i64 r.2)]):=by unfold kR at h;cases h
theorem uS(a0:List fI)(a1:List fI)(r:Bool)(h:mB a0 a1=some r):aD pw 294 [.aL (a0.map bQ),.aL (a1.map bQ)] (λv=>v = .val (.bool r)):=by
 refine aD.gW ?_;refine aF [] func294 ntmps294 results294 ?_;unfold mB at h;have F:=trivial;refine fB F h (λF h=>?_) λF h=>?_
 ·refine zV ?_;refine zL F h () [0,1,12,13] (λx=>[]) [] (λx H=>[]) ?_;intro s2 g2 _ _ F jL h;try dsimp only at h
  refine zB F h (λF h=>?_) λF h=>?_
  ·refine eD 9 [] ?_;cases h
  ·try dsimp only at h
   exact zR h
 ·exact zR h
theorem uB(a0:List aT)(a1:List aT)(p2:aT->aT->Option Bool)(k2:FuncId)(fs2 cs2:List PV)(hp2:∀x0 x1 r,p2 x0 x1=some r->aD pw k2 (fs2++[.agg (aX x0),.agg (aX x1)]++cs2) (λv=>v = .val (.bool r)))(r:Bool)(h:j7 a0 a1 p2=some r):aD pw 296 [.aL (a0.map aX),.aL (a1.map aX),.jk (.func k2) fs2 cs2] (λv=>v = .val (.bool r)):=by
 refine aD.gW ?_;refine aF [] func296 ntmps296 results296 ?_;unfold j7 at h;have F:=trivial;refine fB F h (λF h=>?_) λF h=>?_
 ·refine zV ?_;refine zN F h () [1,2,15,16] (λx=>[(17,.p (.val (.int .i64 ((x.1.1:Nat):Int))))]) [] (λx H=>[]) ?_ ?_
  ·intro i3 s3 g3 _ _ F vL h;try dsimp only at h
   refine zI aX F h λe4 F h=>?_
   refine zI aX F h λe5 F h=>?_
   refine zP F h (hp2 _ _) λr6 h=>?_
   refine fB F h (λF h=>?_) λF h=>?_
   ·exact zX (z:=vL _ () h zW)
   ·exact zR h
  ·intro i3 s3 g3 _ F h;try dsimp only at h
   exact zR h
 ·exact zR h
theorem aaM(a0:bE)(r:Bool)(h:jr a0=some r):aD pw 120 [.agg [.aL (a0.nodes.map encI),.aL (a0.ah.map aK)]] (λv=>v = .val (.bool r)):=by
 refine aD.gW ?_;refine aF [] func120 ntmps120 results120 ?_;unfold jr at h;have F:=trivial;refine gx F h (λF h=>?_) λF h=>?_
 ·exact zR h
 ·exact zR h
theorem mj(a0:aH)(a1:ax)(r:aH×Bool)(h:cG a0 a1=some r):aD pw 172 [.agg [.aL (a0.nodes.map ag),.aL (a0.ah.map ak)],.agg (ak a1)] (λv=>v = .dH [.agg [.aL (r.1.nodes.map ag),.aL (r.1.ah.map ak)],.val (.bool r.2)]):=by
 refine aD.gW ?_;refine aF [23,28] func172 ntmps172 results172 ?_;unfold cG at h;have F:=trivial;refine zV ?_;refine zN F h () [2,3,4] (λx=>[(6,.p (.val (.int .i64 ((x.1.1:Nat):Int))))]) [2,3,4] (λx H=>[]) ?_ ?_
 ·intro i2 s2 g2 _ _ F jL h;try dsimp only at h
  have Ws2:=F.2.2;refine eD 7 [] ?_;refine zI ak F h λe3 F h=>?_
  refine zB F h (λF h=>?_) λF h=>?_
  ·refine zE [(0,.b),(1,.b),(3,.q),(4,.q),(5,.q),(6,.q),(8,.b),(9,.b),(2,.w),(7,.s),(10,.q),(11,.q),(12,.q),(13,.w),(14,.q),(15,.w),(16,.q)] ?_;refine zC F h λF h=>?_
   refine zF (eq_true (gN (n:=4) (f:=ak) (λ_=>rfl) a0.ah)) F λF=>?_
   refine zC F h λF h=>?_
   refine dz ((a0.ah.take i2).length) 32 F λF=>?_
   refine zF (eq_true (gN (n:=4) (f:=ak) (λ_=>rfl) (a0.ah.take i2))) F λF=>?_
   refine zC F h λF h=>?_
   have w:=F.2;simp only[Ws2,toNat_natCast] at w;replace F:=And.intro F w;refine zF (eq_true (gN (n:=4) (f:=ak) (λ_=>rfl) a0.ah)) F λF=>?_
   refine zC F h λF h=>?_
   have w:=F.2;simp only[Ws2,toNat_natCast] at w;replace F:=And.intro F w;refine dz ((a0.ah.take i2).length+(a0.ah.drop (i64.wrap (((i2:Nat):Int)+1)).toNat).length) 32 F λF=>?_
   have w:=F.2;simp only[Ws2,toNat_natCast] at w;replace F:=And.intro F w;refine zF (eq_true (gN (n:=4) (f:=ak) (λ_=>rfl) (a0.ah.drop (i64.wrap (((i2:Nat):Int)+1)).toNat))) F λF=>?_
   have w:=F.2;simp only[Ws2,toNat_natCast] at w;replace F:=And.intro F w;exact zR h
  ·exact zX (z:=jL _ () h zW)
 ·intro i2 s2 g2 _ F h;try dsimp only at h
  exact zR h
end
noncomputable section
theorem acG(a0:Int)(a1:Types)(r:Bool)(h:mw a0 a1=some r):aD pw 215 [.val (.int .i64 a0),.ez [.aL (a1.nodes.map aB),.aL (a1.ah.map aC)] 0] (λv=>v = .val (.bool r)):=by refine aD.gW ?_;refine aF [] func215 ntmps215 results215 ?_;unfold mw at h;have F:=trivial;exact zR h
theorem acH(a0:List Bool)(a1:Bool)(r:Int)(h:pP a0 a1=some r):aD pw 274 [.aL (a0.map mY),.val (.bool a1)] (λv=>v = .val (.int .i64 r)):=by
 refine aD.gW ?_;refine aF [] func274 ntmps274 results274 ?_;unfold pP at h;have F:=trivial;refine zV ?_;refine zN F h () [0,1,7] (λx=>[(8,.p (.val (.int .i64 ((x.1.1:Nat):Int))))]) [] (λx H=>[]) ?_ ?_
 ·intro i2 s2 g2 _ _ F jL h;try dsimp only at h
  refine zI mY F h λe3 F h=>?_
  refine zB F h (λF h=>?_) λF h=>?_
  ·exact zR h
  ·exact zX (z:=jL _ () h zW)
 ·intro i2 s2 g2 _ F h;try dsimp only at h
  exact zR h
theorem vU(a0:Int)(r:Bool)(h:ny a0=some r):aD pw 242 [.val (.int .i64 a0)] (λv=>v = .val (.bool r)):=by refine aD.gW ?_;refine aF [] func242 ntmps242 results242 ?_;unfold ny at h;have F:=trivial;exact zR h
theorem o9(a0:aT)(r:Bool)(h:kI a0=some r):aD pw 321 [.agg (aX a0)] (λv=>v = .val (.bool r)):=by
 refine aD.gW ?_;refine aF [] func321 ntmps321 results321 ?_;unfold kI at h;have F:=trivial;refine gx F h (λF h=>?_) λF h=>?_
 ·exact zR h
 ·exact zR h
theorem uC(a0:List aT)(p1:aT->Option Bool)(k1:FuncId)(xV xW:List PV)(hp1:∀x0 r,p1 x0=some r->aD pw k1 (xV++[.agg (aX x0)]++xW) (λv=>v = .val (.bool r)))(r:Int)(h:j4 a0 p1=some r):aD pw 338 [.aL (a0.map aX),.jk (.func k1) xV xW] (λv=>v = .val (.int .i64 r)):=by
 refine aD.gW ?_;refine aF [] func338 ntmps338 results338 ?_;unfold j4 at h;have F:=trivial;refine zV ?_;refine zN F h () [0,1,7] (λx=>[(8,.p (.val (.int .i64 ((x.1.1:Nat):Int))))]) [] (λx H=>[]) ?_ ?_
 ·intro i2 s2 g2 _ _ F jL h;try dsimp only at h
  refine zI aX F h λe3 F h=>?_
  refine zP F h (hp1 _) λr4 h=>?_
  refine zB F h (λF h=>?_) λF h=>?_
  ·exact zR h
  ·exact zX (z:=jL _ () h zW)
 ·intro i2 s2 g2 _ F h;try dsimp only at h
  exact zR h
theorem vV(a0:List Int)(a1:List Int)(r:(List vB))(h:nA a0 a1=some r):bl pw 237 [.aL (a0.map encI),.aL (a1.map encI)] (λv=>v = .row 365 2 (r.map uX)):=by
 refine bl.qX ?_;refine bz [47] func237 ntmps237 results237 ?_;unfold nA at h;have F:=trivial;refine zV ?_;refine zN F h (0:Nat) [0,1,9] (λx=>[(5,.row 3602 x.2),(10,.p (.val (.int .i64 ((x.1.1:Nat):Int))))]) [] (λx H=>[(3602,.row x.2 365 2 (x.1.2.map uX))]) ?_ ?_ (hw:=by refine c8.trans (jm 5 3602 365 2 rfl rfl (by decide)) ?_;exact zW)
 ·intro i2 s2 g2 _ _ F jL h;try dsimp only at h
  refine zV ?_;refine zL F h (g2:Nat) [0,1,6,9,10] (λx=>[(5,.row 3602 x.2),(7,.p (.val (.int .i64 x.1.1)))]) [] (λx H=>[(3602,.row x.2 365 2 (x.1.2.map uX))]) ?_;intro s3 g3 _ _ F vL h;try dsimp only at h
  refine zB F h (λF h=>?_) λF h=>?_
  ·refine eD 21 [] ?_;refine zI encI F h λe4 F h=>?_
   refine zA encI F h λe5 F h=>?_
   refine zBd F h (λF h=>?_) λF h=>?_
   ·refine vl F h (eH _ _) λr6 h=>?_
    refine zBd F h (λF h=>?_) λF h=>?_
    ·refine vl F h (eH _ _) λr7 h=>?_
     refine fB F h (λF h=>?_) λF h=>?_
     ·exact zX (z:=vL _ g3 h zW)
     ·refine zC F h λF h=>?_
      refine dz (s3.2.length+1) 16 F λF=>?_
      refine zF (bt uX s3.2 [(⟨((i2:Nat):Int),s3.1⟩:vB)] (c:=[[.val (.int .i64 ((i2:Nat):Int)),.val (.int .i64 s3.1)]]) rfl) F λF=>?_
      exact zX (z:=vL _ (g3+1) h zW)
    ·refine zC F h λF h=>?_
     refine dz (s3.2.length+1) 16 F λF=>?_
     refine zF (bt uX s3.2 [(⟨((i2:Nat):Int),s3.1⟩:vB)] (c:=[[.val (.int .i64 ((i2:Nat):Int)),.val (.int .i64 s3.1)]]) rfl) F λF=>?_
     exact zX (z:=vL _ (g3+1) h zW)
   ·exact zX (z:=vL _ g3 h zW)
  ·try dsimp only at h
   exact zX (z:=jL _ g3 h zW)
 ·intro i2 s2 g2 _ F h;try dsimp only at h
  exact gJ h
theorem agA(a0:Host)(r:Host)(h:uz a0=some r):bl pw 111 [.agg (gm a0)] (λv=>v = .agg [.row 3 1 (r.graph.nodes.map encI),.row 143 3 (r.graph.ah.map aK),.row 26 1 (r.values.map bw)]):=by
 refine bl.qX ?_;refine bz [28,29] func111 ntmps111 results111 ?_;unfold uz at h;have F:=trivial;refine zE [(0,.q),(1,.q),(2,.q),(4,.q),(5,.q),(6,.q),(3,.f),(7,.f),(8,.q),(9,.q),(10,.w),(11,.s)] ?_;refine zH 1144 F h (dQ _) λr1 h=>?_
 refine zH 1208 F h (pN _) λr2 h=>?_
 refine zV ?_;refine zN F h (0:Nat) [2,3,17,18] (λx=>[(19,.p (.val (.int .i64 ((x.1.1:Nat):Int))))]) [2,1144,1208] (λx H=>[(3,bx (H 3) [(2,.row 4386 x.2)]),(4386,.row x.2 26 1 (x.1.2.map bw))]) ?_ ?_ (hw:=by refine c8.trans (bK 3 2 4386 26 1 _ rfl rfl rfl (by decide)) ?_;exact zW)
 ·intro i3 s3 g3 _ _ F vL h;try dsimp only at h
  refine zI bw F h λe4 F h=>?_
  refine zE [(0,.p),(2,.p),(1,.b),(3,.q),(4,.w),(5,.w),(6,.w),(7,.q),(8,.w)] ?_;refine zC F h λF h=>?_
  refine dz e4.length 8 F λF=>?_
  refine zF (eq_true (gN (n:=1) (f:=encI) (λ_=>rfl) e4)) F λF=>?_
  refine zC F h λF h=>?_
  refine dz (s3.length+1) 24 F λF=>?_
  refine zF (bt bw s3 [e4] (c:=[[.aL (e4.map encI)]]) rfl) F λF=>?_
  exact zX (z:=vL _ (g3+1) h zW)
 ·intro i3 s3 g3 _ F h;try dsimp only at h
  exact gJ h
theorem pS(a0:List Edge)(a1:List Edge)(r:Bool)(h:kg a0 a1=some r):aD pw 117 [.aL (a0.map aK),.aL (a1.map aK)] (λv=>v = .val (.bool r)):=by
 refine aD.gW ?_;refine aF [] func117 ntmps117 results117 ?_;unfold kg at h;have F:=trivial;refine fB F h (λF h=>?_) λF h=>?_
 ·refine zV ?_;refine zN F h () [0,1,12] (λx=>[(13,.p (.val (.int .i64 ((x.1.1:Nat):Int))))]) [] (λx H=>[]) ?_ ?_
  ·intro i2 s2 g2 _ _ F jL h;try dsimp only at h
   refine eD 9 [] ?_;refine zI aK F h λe3 F h=>?_
   refine zI aK F h λe4 F h=>?_
   refine fB F h (λF h=>?_) λF h=>?_
   ·exact zX (z:=jL _ () h zW)
   ·exact zR h
  ·intro i2 s2 g2 _ F h;try dsimp only at h
   exact zR h
 ·exact zR h
theorem si(a0:List Int)(a1:Int)(r:Int)(h:iu a0 a1=some r):aD pw 48 [.aL (a0.map encI),.val (.int .i64 a1)] (λv=>v = .val (.int .i64 r)):=by
 refine aD.gW ?_;refine aF [] func48 ntmps48 results48 ?_;unfold iu at h;have F:=trivial;refine zV ?_;refine zN F h () [0,1] (λx=>[(5,.p (.val (.int .i64 ((x.1.1:Nat):Int))))]) [] (λx H=>[]) ?_ ?_
 ·intro i2 s2 g2 _ _ F jL h;try dsimp only at h
  refine zI encI F h λe3 F h=>?_
  refine nv F h (λF h=>?_) λF h=>?_
  ·exact zR h
  ·refine zB F h (λF h=>?_) λF h=>?_
   ·exact zR h
   ·refine eD 14 [] ?_;refine zBd F h (λF h=>?_) λF h=>?_
    ·refine zA encI F h λe4 F h=>?_
     refine zB F h (λF h=>?_) λF h=>?_
     ·exact zR h
     ·exact zX (z:=jL _ () h zW)
    ·exact zX (z:=jL _ () h zW)
 ·intro i2 s2 g2 _ F h;try dsimp only at h
  exact zR h
theorem j8(a0:Types)(a1:ay)(a2:aQ)(r:ay×Int)(h:cV a0 a1 a2=some r):aD pw 24 [.agg [.aL (a0.nodes.map aB),.aL (a0.ah.map aC)],.agg (az a1),.agg (aJ a2)] (λv=>v = .dH [.agg (az r.1),.val (.int .i64 r.2)]):=by
 refine aD.gW ?_;refine aF [] func24 ntmps24 results24 ?_;unfold cV at h;have F:=trivial;refine zK F h (lC _ _) λr3 h=>?_
 refine fB F h (λF h=>?_) λF h=>?_
 ·refine zK F h (yx _ _ _) λr4 h=>?_
  exact zR h
 ·exact zR h
theorem vW(a0:Types)(r:(List Int))(h:gG a0=some r):bl pw 102 [.agg [.aL (a0.nodes.map aB),.aL (a0.ah.map aC)]] (λv=>v = .row 3 1 (r.map encI)):=by
 refine bl.qX ?_;refine bz [22] func102 ntmps102 results102 ?_;unfold gG at h;have F:=trivial;refine zV ?_;refine zN F h (0:Nat) [1] (λx=>[(3,.row 12452 x.2),(4,.p (.val (.int .i64 ((x.1.1:Nat):Int))))]) [1] (λx H=>[(12452,.row x.2 3 1 (x.1.2.map encI))]) ?_ ?_ (hw:=by refine c8.trans (jm 3 12452 3 1 rfl rfl (by decide)) ?_;exact zW)
 ·intro i1 s1 g1 _ _ F Ns1 h;try dsimp only at h
  refine zI aB F h λe2 F h=>?_
  refine fB F h (λF h=>?_) λF h=>?_
  ·exact zX (z:=Ns1 _ g1 h zW)
  ·refine zC F h λF h=>?_
   refine dz (s1.length+1) 8 F λF=>?_
   refine zF (bt encI s1 [((i1:Nat):Int)] (c:=[[.val (.int .i64 ((i1:Nat):Int))]]) rfl) F λF=>?_
   exact zX (z:=Ns1 _ (g1+1) h zW)
 ·intro i1 s1 g1 _ F h;try dsimp only at h
  exact gJ h
end
noncomputable section
theorem yB(a0:List Edge)(p1:Edge->Option Bool)(k1:FuncId)(xV xW:List PV)(hp1:∀x0 r,p1 x0=some r->aD pw k1 (xV++[.agg (aK x0)]++xW) (λv=>v = .val (.bool r)))(r:Int)(h:mI a0 p1=some r):aD pw 204 [.aL (a0.map aK),.jk (.func k1) xV xW] (λv=>v = .val (.int .i64 r)):=by
 refine aD.gW ?_;refine aF [] func204 ntmps204 results204 ?_;unfold mI at h;have F:=trivial;refine zV ?_;refine zN F h () [0,1,7] (λx=>[(8,.p (.val (.int .i64 ((x.1.1:Nat):Int))))]) [] (λx H=>[]) ?_ ?_
 ·intro i2 s2 g2 _ _ F jL h;try dsimp only at h
  refine zI aK F h λe3 F h=>?_
  refine zP F h (hp1 _) λr4 h=>?_
  refine zB F h (λF h=>?_) λF h=>?_
  ·exact zR h
  ·exact zX (z:=jL _ () h zW)
 ·intro i2 s2 g2 _ F h;try dsimp only at h
  exact zR h
theorem kU(a0:Int)(a1:Int)(a2:Int)(r:Bool)(h:iH a0 a1 a2=some r):aD pw 217 [.val (.int .i64 a0),.val (.int .i64 a1),.val (.int .i64 a2)] (λv=>v = .val (.bool r)):=by
 refine aD.gW ?_;refine aF [] func217 ntmps217 results217 ?_;unfold iH at h;have F:=trivial;refine gx F h (λF h=>?_) λF h=>?_
 ·exact zR h
 ·exact zR h
theorem ah9(a0:Int)(a1:Types)(r:Bool)(h:ry a0 a1=some r):aD pw 275 [.val (.int .i64 a0),.ez [.aL (a1.nodes.map aB),.aL (a1.ah.map aC)] 0] (λv=>v = .val (.bool r)):=by refine aD.gW ?_;refine aF [] func275 ntmps275 results275 ?_;unfold ry at h;have F:=trivial;exact zR h
theorem afC(a0:Int)(a1:bE)(a2:Types)(r:Bool)(h:o7 a0 a1 a2=some r):aD pw 228 [.val (.int .i64 a0),.ez [.aL (a1.nodes.map encI),.aL (a1.ah.map aK)] 0,.ez [.aL (a2.nodes.map aB),.aL (a2.ah.map aC)] 0] (λv=>v = .val (.bool r)):=by
 refine aD.gW ?_;refine aF [] func228 ntmps228 results228 ?_;unfold o7 at h;have F:=trivial;refine zA aK F h λe3 F h=>?_
 refine eD 18 [] ?_;refine zA encI F h λe4 F h=>?_
 refine zA encI F h λe5 F h=>?_
 refine vl F h (alH _ _ _ _) λr6 h=>?_
 exact zR h
theorem iD(aB5:aT->Option Bool)(aE5:∀ (a0:aT) (r:Bool),aB5 a0=some r->aD pw 280 [.agg (aX a0)] (λv=>v = .val (.bool r)))(a0:aT)(r:Bool)(h:cq aB5 a0=some r):aD pw 323 [.agg (aX a0)] (λv=>v = .val (.bool r)):=by
 refine aD.gW ?_;refine aF [] func323 ntmps323 results323 ?_;unfold cq at h;have F:=trivial;refine zK F h (aE5 _) λr2 h=>?_
 exact zR h
theorem adT(a0:iT)(a1:List Int)(r:Bool)(h:qn a0 a1=some r):aD pw 287 [.agg (cI a0),.aL (a1.map encI)] (λv=>v = .val (.bool r)):=by unfold qn at h;cases h
theorem u7(a0:dB)(r:(List Int))(h:ku a0=some r):bl pw 238 [.agg (gr a0)] (λv=>v = .row 3 1 (r.map encI)):=by
 refine bl.qX ?_;refine bz [24] func238 ntmps238 results238 ?_;unfold ku at h;have F:=trivial;refine zV ?_;refine zN F h (0:Nat) [1,8,9] (λx=>[(3,.row 3748 x.2),(10,.p (.val (.int .i64 ((x.1.1:Nat):Int))))]) [1] (λx H=>[(3748,.row x.2 3 1 (x.1.2.map encI))]) ?_ ?_ (hw:=by refine c8.trans (jm 3 3748 3 1 rfl rfl (by decide)) ?_;exact zW)
 ·intro i1 s1 g1 _ _ F Ns1 h;try dsimp only at h
  refine zI encI F h λe2 F h=>?_
  refine zK F h (eH _ _) λr3 h=>?_
  refine fB F h (λF h=>?_) λF h=>?_
  ·exact zX (z:=Ns1 _ g1 h zW)
  ·refine zC F h λF h=>?_
   refine dz (s1.length+1) 8 F λF=>?_
   refine zF (bt encI s1 [e2] (c:=[[.val (.int .i64 e2)]]) rfl) F λF=>?_
   exact zX (z:=Ns1 _ (g1+1) h zW)
 ·intro i1 s1 g1 _ F h;try dsimp only at h
  exact gJ h
theorem alQ(a0:Types)(a1:Int)(r:(List Int))(h:zy a0 a1=some r):bl pw 192 [.agg [.aL (a0.nodes.map aB),.aL (a0.ah.map aC)],.val (.int .i64 a1)] (λv=>v = .row 3 1 (r.map encI)):=by
 refine bl.qX ?_;refine bz [16,27] func192 ntmps192 results192 ?_;unfold zy at h;have F:=trivial;refine zK F h (xP _ _) λr2 h=>?_
 refine zV ?_;refine zN F h (0:Nat) [17,18] (λx=>[(7,.row 16 x.2),(19,.p (.val (.int .i64 ((x.1.1:Nat):Int))))]) [] (λx H=>[(16,.row x.2 3 1 (x.1.2.map encI))]) ?_ ?_
 ·intro i3 s3 g3 _ _ F vL h;try dsimp only at h
  refine zI aS F h λe4 F h=>?_
  refine zC F h λF h=>?_
  refine dz (s3.length+1) 8 F λF=>?_
  refine zF (bt encI s3 [e4.low] (c:=[[.val (.int .i64 e4.low)]]) rfl) F λF=>?_
  exact zX (z:=vL _ (g3+1) h zW)
 ·intro i3 s3 g3 _ F h;try dsimp only at h
  exact gJ h
theorem vX(a0:List Int)(a1:List Int)(a2:Int)(a3:Int)(r:(List Int)×Int)(h:nC a0 a1 a2 a3=some r):bl pw 68 [.aL (a0.map encI),.aL (a1.map encI),.val (.int .i64 a2),.val (.int .i64 a3)] (λv=>v = .dH [.row 3 1 (r.1.map encI),.p (.val (.int .i64 r.2))]):=by
 refine bl.qX ?_;refine bz [] func68 ntmps68 results68 ?_;unfold nC at h;have F:=trivial;refine zG 1256 F h (uP _ _) λr4 h=>?_
 refine zV ?_;refine zN F h (0:Nat) [0,3,17,18] (λx=>[(10,.row 1256 x.2),(19,.p (.val (.int .i64 ((x.1.1:Nat):Int))))]) [] (λx H=>[(1256,.row x.2 3 1 (x.1.2.map encI))]) ?_ ?_
 ·intro i5 s5 g5 _ _ F Ns5 h;try dsimp only at h
  refine zI encI F h λe6 F h=>?_
  refine zB F h (λF h=>?_) λF h=>?_
  ·refine zI encI F h λe7 F h=>?_
   refine zA encI F h λe8 F h=>?_
   refine zF (lK encI s5 e6.toNat e7 (c:=[.val (.int .i64 e7)]) rfl) F λF=>?_
   exact zX (z:=Ns5 _ g5 h zW)
  ·exact zX (z:=Ns5 _ g5 h zW)
 ·intro i5 s5 g5 _ F h;try dsimp only at h
  refine zV ?_;refine zN F h (g5:Nat) [35] (λx=>[(3,.p (.val (.int .i64 x.1.2.1))),(10,.row 1256 x.2),(36,.p (.val (.int .i64 ((x.1.1:Nat):Int))))]) [] (λx H=>[(1256,.row x.2 3 1 (x.1.2.2.map encI))]) ?_ ?_
  ·intro i9 s9 g9 _ _ F Ns9 h;try dsimp only at h
   refine zI encI F h λpE F h=>?_
   refine zB F h (λF h=>?_) λF h=>?_
   ·refine zF (lK encI s9.2 i9 s9.1 (c:=[.val (.int .i64 s9.1)]) rfl) F λF=>?_
    exact zX (z:=Ns9 _ g9 h zW)
   ·exact zX (z:=Ns9 _ g9 h zW)
  ·intro i9 s9 g9 _ F h;try dsimp only at h
   exact gJ h
theorem rM(a0:ay)(a1:Int)(r:aj)(h:gR a0 a1=some r):bl pw 152 [.agg (az a0),.val (.int .i64 a1)] (λv=>v = .agg [.p (.val (.int .i64 r.id)),.p (.val (.int .i64 r.type)),.row 3 1 (r.values.map encI)]):=by
 refine bl.qX ?_;refine bz [17,24] func152 ntmps152 results152 ?_;unfold gR at h;have F:=trivial;refine zE [(0,.b),(1,.b),(2,.b),(3,.b),(4,.b),(5,.b),(6,.b),(7,.b),(8,.b),(9,.b),(10,.b),(11,.b),(13,.q),(14,.q),(15,.q),(16,.q),(17,.q),(18,.q),(12,.w),(19,.s),(20,.q),(21,.w)] ?_;refine zA encI F h λe2 F h=>?_
 refine zA encI F h λe3 F h=>?_
 refine zA bw F h λe4 F h=>?_
 refine zC F h λF h=>?_
 refine dz e4.length 8 F λF=>?_
 refine zF (eq_true (gN (n:=1) (f:=encI) (λ_=>rfl) e4)) F λF=>?_
 exact gJ h
theorem oN(a0:aQ)(r:Bool)(h:dL a0=some r):aD pw 20 [.agg (aJ a0)] (λv=>v = .val (.bool r)):=by
 refine aD.gW ?_;refine aF [] func20 ntmps20 results20 ?_;unfold dL at h;have F:=trivial;refine nv F h (λF h=>?_) λF h=>?_
 ·exact zR h
 ·refine gx F h (λF h=>?_) λF h=>?_
  ·refine zB F h (λF h=>?_) λF h=>?_
   ·exact zR h
   ·refine zV ?_;refine zN F h () [1] (λx=>[(4,.p (.val (.int .i64 ((x.1.1:Nat):Int))))]) [1] (λx H=>[]) ?_ ?_
    ·intro i1 s1 g1 _ _ F Ns1 h;try dsimp only at h
     refine zI ag F h λe2 F h=>?_
     refine zB F h (λF h=>?_) λF h=>?_
     ·exact zR h
     ·exact zX (z:=Ns1 _ () h zW)
    ·intro i1 s1 g1 _ F h;try dsimp only at h
     refine zV ?_;refine zN F h () [1] (λx=>[(5,.p (.val (.int .i64 ((x.1.1:Nat):Int))))]) [1] (λx H=>[]) ?_ ?_
     ·intro i3 s3 g3 _ _ F vL h;try dsimp only at h
      refine zI ag F h λe4 F h=>?_
      refine zB F h (λF h=>?_) λF h=>?_
      ·exact zR h
      ·exact zX (z:=vL _ () h zW)
     ·intro i3 s3 g3 _ F h;try dsimp only at h
      exact zR h
  ·refine zV ?_;refine zN F h () [1] (λx=>[(4,.p (.val (.int .i64 ((x.1.1:Nat):Int))))]) [1] (λx H=>[]) ?_ ?_
   ·intro i5 s5 g5 _ _ F Ns5 h;try dsimp only at h
    refine zI ag F h λe6 F h=>?_
    refine zB F h (λF h=>?_) λF h=>?_
    ·exact zR h
    ·exact zX (z:=Ns5 _ () h zW)
   ·intro i5 s5 g5 _ F h;try dsimp only at h
    refine zV ?_;refine zN F h () [1] (λx=>[(5,.p (.val (.int .i64 ((x.1.1:Nat):Int))))]) [1] (λx H=>[]) ?_ ?_
    ·intro i7 s7 g7 _ _ F Ns7 h;try dsimp only at h
     refine zI ag F h λe8 F h=>?_
     refine zB F h (λF h=>?_) λF h=>?_
     ·exact zR h
     ·exact zX (z:=Ns7 _ () h zW)
    ·intro i7 s7 g7 _ F h;try dsimp only at h
     exact zR h
end
noncomputable section
theorem xg(a0:Int)(a1:Int)(r:(List Int))(h:jT a0 a1=some r):bl pw 37 [.val (.int .i64 a0),.val (.int .i64 a1)] (λv=>v = .row 3 1 (r.map encI)):=by
 refine bl.qX ?_;refine bz [16] func37 ntmps37 results37 ?_;unfold jT at h;have F:=trivial;refine zV ?_;refine zO F h (0:Nat) [0,7] (λx=>[(5,.row 2166 x.2),(8,.p (.val (.int .i64 ((x.1.1:Nat):Int))))]) [] (λx H=>[(2166,.row x.2 3 1 (x.1.2.map encI))]) ?_ ?_ (hw:=by refine c8.trans (jm 5 2166 3 1 rfl rfl (by decide)) ?_;exact zW)
 ·intro i2 s2 g2 _ _ F jL h;try dsimp only at h
  refine zC F h λF h=>?_
  refine dz (s2.length+1) 8 F λF=>?_
  refine zF (bt encI s2 [(i64.wrap (a0+((i2:Nat):Int)))] (c:=[[.val (.int .i64 (i64.wrap (a0+((i2:Nat):Int))))]]) rfl) F λF=>?_
  exact zX (z:=jL _ (g2+1) h zW)
 ·intro i2 s2 g2 _ F h;try dsimp only at h
  exact gJ h
theorem ot(a0:Int)(a1:adN)(r:Bool)(h:jU a0 a1=some r):aD pw 318 [.val (.int .i64 a0),.agg [.val (.int .i64 a1.var),.val (.int .i64 a1.add)]] (λv=>v = .val (.bool r)):=by
 refine aD.gW ?_;refine aF [] func318 ntmps318 results318 ?_;unfold jU at h;have F:=trivial;refine gx F h (λF h=>?_) λF h=>?_
 ·refine gx F h (λF h=>?_) λF h=>?_
  ·refine gx F h (λF h=>?_) λF h=>?_
   ·exact zR h
   ·exact zR h
  ·exact zR h
 ·exact zR h
theorem xh(a0:List Int)(r:Int)(h:oc a0=some r):aD pw 279 [.aL (a0.map encI)] (λv=>v = .val (.int .i64 r)):=by
 refine aD.gW ?_;refine aF [] func279 ntmps279 results279 ?_;unfold oc at h;have F:=trivial;refine zG 1080 F h (dQ _) λr1 h=>?_
 refine zM F h (aeE 0 _) λr2 h=>?_
 refine zMb F h (abv 0 _) λr3 h=>?_
 exact zR h
theorem acI(n:Nat):∀ (a0:aT) (r:Int×Int) (h:mA n a0=some r),aD pw 281 [.agg (aX a0)] (λv=>v = .dH [.val (.int .i64 r.1),.val (.int .i64 r.2)]):=by
 induction n with
 |zero=>intro a0 r h;cases h
 |succ n ih =>
 intro a0 r h;refine aD.gW ?_;refine aF [] func281 ntmps281 results281 ?_;unfold mA at h;have F:=trivial;refine zV ?_;refine zN F h () [1,11,12] (λx=>[(4,.p (.val (.int .i64 x.1.2.1))),(5,.p (.val (.int .i64 x.1.2.2))),(13,.p (.val (.int .i64 ((x.1.1:Nat):Int))))]) [1] (λx H=>[]) ?_ ?_
 ·intro i1 s1 g1 _ _ F Ns1 h;try dsimp only at h
  refine zI aX F h λe2 F h=>?_
  refine zK F h (ih _) λr3 h=>?_
  exact zX (z:=Ns1 _ () h zW)
 ·intro i1 s1 g1 _ F h;try dsimp only at h
  refine zB F h (λF h=>?_) λF h=>?_
  ·exact zR h
  ·exact zR h
theorem aaN(a0:fI)(a1:Int)(r:Bool)(h:kY a0 a1=some r):aD pw 324 [.agg (bQ a0),.ez [.val (.int .i64 a1)] 0] (λv=>v = .val (.bool r)):=by refine aD.gW ?_;refine aF [] func324 ntmps324 results324 ?_;unfold kY at h;have F:=trivial;exact zR h
theorem xk(a0:Int)(a1:List Int)(a2:List Int)(r:(List Int))(h:om a0 a1 a2=some r):bl pw 189 [.val (.int .i64 a0),.aL (a1.map encI),.aL (a2.map encI)] (λv=>v = .row 3 1 (r.map encI)):=by
 refine bl.qX ?_;refine bz [14,42] func189 ntmps189 results189 ?_;unfold om at h;have F:=trivial;refine zC F h λF h=>?_
 refine zF (eq_true (show a0 * ((1:Nat):Int)<=140737488355328 by omega)) F λF=>?_
 refine zF (acq mY a0.toNat false (c:=[.val (.bool false)]) rfl) F λF=>?_
 refine zV ?_;refine zN F h (0:Nat) [2,15,16] (λx=>[(7,.row 14 x.2),(17,.p (.val (.int .i64 ((x.1.1:Nat):Int))))]) [] (λx H=>[(14,.row x.2 4 1 (x.1.2.map mY))]) ?_ ?_
 ·intro i3 s3 g3 _ _ F vL h;try dsimp only at h
  refine zI encI F h λe4 F h=>?_
  refine zK F h (eH _ _) λr5 h=>?_
  refine fB F h (λF h=>?_) λF h=>?_
  ·exact zX (z:=vL _ g3 h zW)
  ·refine zA mY F h λe6 F h=>?_
   refine zF (lK mY s3 e4.toNat true (c:=[.val (.bool true)]) rfl) F λF=>?_
   exact zX (z:=vL _ g3 h zW)
 ·intro i3 s3 g3 _ F h;try dsimp only at h
  refine zV ?_;refine zN F h (0:Nat) [30,31] (λx=>[(10,.row 3883 x.2),(32,.p (.val (.int .i64 ((x.1.1:Nat):Int))))]) [14] (λx H=>[(3883,.row x.2 3 1 (x.1.2.map encI))]) ?_ ?_ (hw:=by refine c8.trans (jm 10 3883 3 1 rfl rfl (by decide)) ?_;exact zW)
  ·intro i7 s7 g7 _ _ F Ns7 h;try dsimp only at h
   refine zI mY F h λe8 F h=>?_
   refine fB F h (λF h=>?_) λF h=>?_
   ·exact zX (z:=Ns7 _ g7 h zW)
   ·refine zC F h λF h=>?_
    refine dz (s7.length+1) 8 F λF=>?_
    refine zF (bt encI s7 [((i7:Nat):Int)] (c:=[[.val (.int .i64 ((i7:Nat):Int))]]) rfl) F λF=>?_
    exact zX (z:=Ns7 _ (g7+1) h zW)
  ·intro i7 s7 g7 _ F h;try dsimp only at h
   exact gJ h
theorem afD(a0:dF)(r:dF)(h:sQ a0=some r):bl pw 110 [.agg (iL a0)] (λv=>v = .agg [.row 3 1 (r.ee.nodes.map encI),.row 3 1 (r.ee.ah.map encI),.row 3 1 (r.vars.map encI)]):=by
 refine bl.qX ?_;refine bz [] func110 ntmps110 results110 ?_;unfold sQ at h;have F:=trivial;refine zE [(0,.q),(1,.q),(2,.q),(4,.q),(5,.q),(6,.q),(9,.q),(10,.q),(3,.f),(7,.f),(8,.q),(11,.f),(12,.q),(13,.w)] ?_;refine zH 1096 F h (dQ _) λr1 h=>?_
 refine zH 1160 F h (dQ _) λr2 h=>?_
 refine zH 1224 F h (dQ _) λr3 h=>?_
 exact gJ h
theorem abD(a0:Int)(a1:List Int)(a2:List Int)(a3:List Int)(a4:List Int)(a5:Int)(r:(List Int))(h:rJ a0 a1 a2 a3 a4 a5=some r):bl pw 113 [.val (.int .i64 a0),.aL (a1.map encI),.aL (a2.map encI),.aL (a3.map encI),.aL (a4.map encI),.val (.int .i64 a5)] (λv=>v = .row 3 1 (r.map encI)):=by
 refine bl.qX ?_;refine bz [] func113 ntmps113 results113 ?_;unfold rJ at h;have F:=trivial;refine zG 1304 F h (uP _ _) λr6 h=>?_
 refine zV ?_;refine zN F h (0:Nat) [1,3,4,5,20,21] (λx=>[(13,.row 1304 x.2),(22,.p (.val (.int .i64 ((x.1.1:Nat):Int))))]) [] (λx H=>[(1304,.row x.2 3 1 (x.1.2.map encI))]) ?_ ?_
 ·intro i7 s7 g7 _ _ F Ns7 h;try dsimp only at h
  refine zI encI F h λe8 F h=>?_
  refine zI encI F h λe9 F h=>?_
  refine zA encI F h λpE F h=>?_
  refine zA encI F h λe11 F h=>?_
  refine zA encI F h λe12 F h=>?_
  refine zF (lK encI s7 e8.toNat e11 (c:=[.val (.int .i64 e11)]) rfl) F λF=>?_
  exact zX (z:=Ns7 _ g7 h zW)
 ·intro i7 s7 g7 _ F h;try dsimp only at h
  refine zV ?_;refine zN F h (g7:Nat) [42] (λx=>[(5,.p (.val (.int .i64 x.1.2.1))),(13,.row 1304 x.2),(43,.p (.val (.int .i64 ((x.1.1:Nat):Int))))]) [] (λx H=>[(1304,.row x.2 3 1 (x.1.2.2.map encI))]) ?_ ?_
  ·intro i13 s13 g13 _ _ F aCb h;try dsimp only at h
   refine zI encI F h λe14 F h=>?_
   refine zB F h (λF h=>?_) λF h=>?_
   ·refine zF (lK encI s13.2 i13 s13.1 (c:=[.val (.int .i64 s13.1)]) rfl) F λF=>?_
    exact zX (z:=aCb _ g13 h zW)
   ·exact zX (z:=aCb _ g13 h zW)
  ·intro i13 s13 g13 _ F h;try dsimp only at h
   exact gJ h
theorem aaF(a0:ay)(r:(List aj))(h:lD a0=some r):bl pw 85 [.agg (az a0)] (λv=>v = .row 96 3 (r.map ag)):=by
 refine bl.qX ?_;refine bz [32] func85 ntmps85 results85 ?_;unfold lD at h;have F:=trivial;refine zV ?_;refine zN F h (0:Nat) [1,7,8] (λx=>[(3,.row 5299 x.2),(9,.p (.val (.int .i64 ((x.1.1:Nat):Int))))]) [1] (λx H=>[(5299,.row x.2 96 3 (x.1.2.map ag))]) ?_ ?_ (hw:=by refine c8.trans (jm 3 5299 96 3 rfl rfl (by decide)) ?_;exact zW)
 ·intro i1 s1 g1 _ _ F Ns1 h;try dsimp only at h
  refine zI encI F h λe2 F h=>?_
  refine zD [.p,.q,.q,.q,.q,.q,.q,.q,.q,.q,.q,.q,.q,.q,.q,.q,.q,.p,.w,.q] ?_;refine zI encI F h λe3 F h=>?_
  refine zI bw F h λe4 F h=>?_
  refine zTd F h (dQ _) λr5 h=>?_
  refine zC F h λF h=>?_
  refine dz (s1.length+1) 40 F λF=>?_
  refine zF (bt ag s1 [(⟨e2,e3,r5⟩:aj)] (c:=[[.val (.int .i64 e2),.val (.int .i64 e3),.aL (r5.map encI)]]) rfl) F λF=>?_
  exact zX (z:=Ns1 _ (g1+1) h zW)
 ·intro i1 s1 g1 _ F h;try dsimp only at h
  exact gJ h
theorem uD(a0:List aj)(p1:aj->Option Bool)(k1:FuncId)(xV xW:List PV)(hp1:∀x0 r,p1 x0=some r->aD pw k1 (xV++[.agg (ag x0)]++xW) (λv=>v = .val (.bool r)))(r:Int)(h:fV a0 p1=some r):aD pw 147 [.aL (a0.map ag),.jk (.func k1) xV xW] (λv=>v = .val (.int .i64 r)):=by
 refine aD.gW ?_;refine aF [] func147 ntmps147 results147 ?_;unfold fV at h;have F:=trivial;refine zV ?_;refine zN F h () [0,1,7] (λx=>[(8,.p (.val (.int .i64 ((x.1.1:Nat):Int))))]) [] (λx H=>[]) ?_ ?_
 ·intro i2 s2 g2 _ _ F jL h;try dsimp only at h
  refine zI ag F h λe3 F h=>?_
  refine zP F h (hp1 _) λr4 h=>?_
  refine zB F h (λF h=>?_) λF h=>?_
  ·exact zR h
  ·exact zX (z:=jL _ () h zW)
 ·intro i2 s2 g2 _ F h;try dsimp only at h
  exact zR h
end
noncomputable section
theorem rN(a0:Types)(a1:dP)(r:Host)(h:gT a0 a1=some r):bl pw 59 [.agg [.aL (a0.nodes.map aB),.aL (a0.ah.map aC)],.agg [.aL (a1.nodes.map eG),.aL (a1.ah.map dw)]] (λv=>v = .agg [.row 3 1 (r.graph.nodes.map encI),.row 143 3 (r.graph.ah.map aK),.row 26 1 (r.values.map bw)]):=by
 refine bl.qX ?_;refine bz [53,91,97,102,184] func59 ntmps59 results59 ?_;unfold gT at h;have F:=trivial;refine zG 1272 F h (vW _) λr2 h=>?_
 refine zV ?_;refine zL F h ((0,0):Nat×Nat) [2,3,4,5,6] (λx=>[(7,.p (.val (.int .i64 x.1.1)))]) [2,3,4,1272] (λx H=>[(5,.box [.row 13312 x.2.1,.p (.val (.slice none 0 0)),.row 13313 x.2.2]),(13312,.row x.2.1 3 1 (x.1.2.1.map encI)),(13313,.row x.2.2 26 1 (x.1.2.2.map bw))]) ?_ (hw:=by refine c8.trans (bK 5 0 13312 3 1 _ rfl rfl rfl (by decide)) ?_;refine c8.trans (bK 5 2 13313 26 1 _ rfl rfl rfl (by decide)) ?_;exact zW);intro s3 g3 _ _ F vL h;try dsimp only at h
 refine gx F h (λF h=>?_) λF h=>?_
 ·refine gx F h (λF h=>?_) λF h=>?_
  ·refine zB F h (λF h=>?_) λF h=>?_
   ·refine zA eG F h λe4 F h=>?_
    refine eU ((0:Int)<=0) F λF=>?_
    refine eU ((0:Int)<((2:Nat):Int)) F λF=>?_
    refine zC F h λF h=>?_
    refine zA encI F h λe5 F h=>?_
    refine zK F h (yt _ _) λr6 h=>?_
    refine zV ?_;refine zN F h (0:Nat) [2,3,4,5,6,7,8,9] (λx=>[(11,.row 53 x.2),(12,.p (.val (.int .i64 ((x.1.1:Nat):Int))))]) [2,3,4,5,1272,13312,13313] (λx H=>[(53,.row x.2 3 1 (x.1.2.map encI))]) ?_ ?_
    ·intro i7 s7 g7 _ _ F Ns7 h;try dsimp only at h
     refine zD [.p,.q,.q,.q,.q,.q,.q,.q,.q,.q,.q,.q,.q,.q,.q,.q,.q,.q,.q,.q,.q,.q,.q,.q,.q,.q,.q,.q,.q,.q,.p,.w,.q] ?_;refine zI aS F h λe8 F h=>?_
     refine eU ((0:Int)<=1) F λF=>?_
     refine eU ((1:Int)<((2:Nat):Int)) F λF=>?_
     refine zC F h λF h=>?_
     refine zC F h λF h=>?_
     refine dz (s7.length+1) 8 F λF=>?_
     refine zF (bt encI s7 [(i64.wrap (e8.low+((i64.wrap ((i64.wrap e4.x1)+(i64.wrap (7 * ((i7:Nat):Int))))).tmod (i64.wrap ((i64.wrap (e8.high-e8.low))+1)))))] (c:=[[.val (.int .i64 (i64.wrap (e8.low+((i64.wrap ((i64.wrap e4.x1)+(i64.wrap (7 * ((i7:Nat):Int))))).tmod (i64.wrap ((i64.wrap (e8.high-e8.low))+1))))))]]) rfl) F λF=>?_
     exact zX (z:=Ns7 _ (g7+1) h zW)
    ·intro i7 s7 g7 _ F h;try dsimp only at h
     refine zV ?_;refine sJ 53 g7 3 1 (s7.map encI) [11] (by simp -implicitDefEqProofs only[go_sem,F]<;>rfl) (by simp -implicitDefEqProofs only[go_sem,F]<;>and_intros<;>rfl) (by decide) ?_;refine zE [(0,.p),(1,.p),(3,.p),(4,.p),(6,.p),(8,.b),(9,.p),(2,.q),(7,.b),(5,.w),(11,.b),(12,.b),(10,.w),(13,.w),(14,.q),(15,.w)] ?_;refine zC F h λF h=>?_
     refine dz (s3.2.1.length+1) 8 F λF=>?_
     refine zF (bt encI s3.2.1 [e5] (c:=[[.val (.int .i64 e5)]]) rfl) F λF=>?_
     refine zC F h λF h=>?_
     refine dz (s3.2.2.length+1) 24 F λF=>?_
     refine zF (bt bw s3.2.2 [s7] (c:=[[.aL (s7.map encI)]]) rfl) F λF=>?_
     exact zX (z:=vL _ (g3.1+1,g3.2+1) h zW)
   ·try dsimp only at h
    refine zV ?_;refine zL F h (0:Nat) [2,3,4,5,13] (λx=>[(14,.p (.val (.int .i64 x.1.1)))]) [2,3,4,13312,13313] (λx H=>[(5,bx (H 5) [(1,.row 13546 x.2)]),(13546,.row x.2 143 3 (x.1.2.map aK))]) ?_ (hw:=by refine c8.trans (bK 5 1 13546 143 3 _ rfl rfl rfl (by decide)) ?_;exact zW);intro s9 g9 _ _ F Ns9 h;try dsimp only at h
    refine gx F h (λF h=>?_) λF h=>?_
    ·refine gx F h (λF h=>?_) λF h=>?_
     ·refine gx F h (λF h=>?_) λF h=>?_
      ·refine zB F h (λF h=>?_) λF h=>?_
       ·refine eD 30 [.w,.s] ?_;refine zA dw F h λpE F h=>?_
        refine eU ((0:Int)<=0) F λF=>?_
        refine eU ((0:Int)<((3:Nat):Int)) F λF=>?_
        refine zC F h λF h=>?_
        refine eU ((0:Int)<=1) F λF=>?_
        refine eU ((1:Int)<((3:Nat):Int)) F λF=>?_
        refine zC F h λF h=>?_
        refine eU ((0:Int)<=2) F λF=>?_
        refine eU ((2:Int)<((3:Nat):Int)) F λF=>?_
        refine zC F h λF h=>?_
        refine eD 18 [] ?_;refine zA encI F h λe11 F h=>?_
        refine zA encI F h λe12 F h=>?_
        refine vl F h (nu _ _ _ _) λr13 h=>?_
        refine zB F h (λF h=>?_) λF h=>?_
        ·refine zC F h λF h=>?_
         refine dz (s9.2.length+1) 24 F λF=>?_
         refine zF (bt aK s9.2 [(⟨((i64.wrap pE.x0).tmod ((a0.ah.length:Nat):Int)),((i64.wrap pE.x1).tmod ((s3.2.1.length:Nat):Int)),((i64.wrap pE.x2).tmod ((s3.2.1.length:Nat):Int))⟩:Edge)] (c:=[[.val (.int .i64 ((i64.wrap pE.x0).tmod ((a0.ah.length:Nat):Int))),.val (.int .i64 ((i64.wrap pE.x1).tmod ((s3.2.1.length:Nat):Int))),.val (.int .i64 ((i64.wrap pE.x2).tmod ((s3.2.1.length:Nat):Int)))]]) rfl) F λF=>?_
         exact zX (z:=Ns9 _ (g9+1) h zW)
        ·exact zX (z:=Ns9 _ g9 h zW)
       ·try dsimp only at h
        exact gJ h
      ·try dsimp only at h
       exact gJ h
     ·try dsimp only at h
      exact gJ h
    ·try dsimp only at h
     exact gJ h
  ·try dsimp only at h
   refine zV ?_;refine zL F h (0:Nat) [2,3,4,5,13] (λx=>[(14,.p (.val (.int .i64 x.1.1)))]) [2,3,4,13312,13313] (λx H=>[(5,bx (H 5) [(1,.row 13656 x.2)]),(13656,.row x.2 143 3 (x.1.2.map aK))]) ?_ (hw:=by refine c8.trans (bK 5 1 13656 143 3 _ rfl rfl rfl (by decide)) ?_;exact zW);intro s14 g14 _ _ F aia h;try dsimp only at h
   refine gx F h (λF h=>?_) λF h=>?_
   ·refine gx F h (λF h=>?_) λF h=>?_
    ·refine gx F h (λF h=>?_) λF h=>?_
     ·refine zB F h (λF h=>?_) λF h=>?_
      ·refine eD 30 [.w,.s] ?_;refine zA dw F h λe15 F h=>?_
       refine eU ((0:Int)<=0) F λF=>?_
       refine eU ((0:Int)<((3:Nat):Int)) F λF=>?_
       refine zC F h λF h=>?_
       refine eU ((0:Int)<=1) F λF=>?_
       refine eU ((1:Int)<((3:Nat):Int)) F λF=>?_
       refine zC F h λF h=>?_
       refine eU ((0:Int)<=2) F λF=>?_
       refine eU ((2:Int)<((3:Nat):Int)) F λF=>?_
       refine zC F h λF h=>?_
       refine eD 18 [] ?_;refine zA encI F h λe16 F h=>?_
       refine zA encI F h λe17 F h=>?_
       refine vl F h (nu _ _ _ _) λr18 h=>?_
       refine zB F h (λF h=>?_) λF h=>?_
       ·refine zC F h λF h=>?_
        refine dz (s14.2.length+1) 24 F λF=>?_
        refine zF (bt aK s14.2 [(⟨((i64.wrap e15.x0).tmod ((a0.ah.length:Nat):Int)),((i64.wrap e15.x1).tmod ((s3.2.1.length:Nat):Int)),((i64.wrap e15.x2).tmod ((s3.2.1.length:Nat):Int))⟩:Edge)] (c:=[[.val (.int .i64 ((i64.wrap e15.x0).tmod ((a0.ah.length:Nat):Int))),.val (.int .i64 ((i64.wrap e15.x1).tmod ((s3.2.1.length:Nat):Int))),.val (.int .i64 ((i64.wrap e15.x2).tmod ((s3.2.1.length:Nat):Int)))]]) rfl) F λF=>?_
        exact zX (z:=aia _ (g14+1) h zW)
       ·exact zX (z:=aia _ g14 h zW)
      ·try dsimp only at h
       exact gJ h
     ·try dsimp only at h
      exact gJ h
    ·try dsimp only at h
     exact gJ h
   ·try dsimp only at h
    exact gJ h
 ·try dsimp only at h
  refine zV ?_;refine zL F h (0:Nat) [2,3,4,5,13] (λx=>[(14,.p (.val (.int .i64 x.1.1)))]) [2,3,4,13312,13313] (λx H=>[(5,bx (H 5) [(1,.row 13766 x.2)]),(13766,.row x.2 143 3 (x.1.2.map aK))]) ?_ (hw:=by refine c8.trans (bK 5 1 13766 143 3 _ rfl rfl rfl (by decide)) ?_;exact zW);intro s19 g19 _ _ F aE6 h;try dsimp only at h
  refine gx F h (λF h=>?_) λF h=>?_
  ·refine gx F h (λF h=>?_) λF h=>?_
   ·refine gx F h (λF h=>?_) λF h=>?_
    ·refine zB F h (λF h=>?_) λF h=>?_
     ·refine eD 30 [.w,.s] ?_;refine zA dw F h λe20 F h=>?_
      refine eU ((0:Int)<=0) F λF=>?_
      refine eU ((0:Int)<((3:Nat):Int)) F λF=>?_
      refine zC F h λF h=>?_
      refine eU ((0:Int)<=1) F λF=>?_
      refine eU ((1:Int)<((3:Nat):Int)) F λF=>?_
      refine zC F h λF h=>?_
      refine eU ((0:Int)<=2) F λF=>?_
      refine eU ((2:Int)<((3:Nat):Int)) F λF=>?_
      refine zC F h λF h=>?_
      refine eD 18 [] ?_;refine zA encI F h λe21 F h=>?_
      refine zA encI F h λe22 F h=>?_
      refine vl F h (nu _ _ _ _) λr23 h=>?_
      refine zB F h (λF h=>?_) λF h=>?_
      ·refine zC F h λF h=>?_
       refine dz (s19.2.length+1) 24 F λF=>?_
       refine zF (bt aK s19.2 [(⟨((i64.wrap e20.x0).tmod ((a0.ah.length:Nat):Int)),((i64.wrap e20.x1).tmod ((s3.2.1.length:Nat):Int)),((i64.wrap e20.x2).tmod ((s3.2.1.length:Nat):Int))⟩:Edge)] (c:=[[.val (.int .i64 ((i64.wrap e20.x0).tmod ((a0.ah.length:Nat):Int))),.val (.int .i64 ((i64.wrap e20.x1).tmod ((s3.2.1.length:Nat):Int))),.val (.int .i64 ((i64.wrap e20.x2).tmod ((s3.2.1.length:Nat):Int)))]]) rfl) F λF=>?_
       exact zX (z:=aE6 _ (g19+1) h zW)
      ·exact zX (z:=aE6 _ g19 h zW)
     ·try dsimp only at h
      exact gJ h
    ·try dsimp only at h
     exact gJ h
   ·try dsimp only at h
    exact gJ h
  ·try dsimp only at h
   exact gJ h
end
noncomputable section
theorem alR(a0:Types)(a1:jK)(a2:jZ)(r:(List Int)×(List Edge)×(List (List Int)))(h:zz a0 a1 a2=some r):ym pw 114 (bN [(1000000,.box [.p (.val (.string a1.rule.name)),.p (.aL (a1.rule.left.graph.nodes.map encI)),.p (.aL (a1.rule.left.graph.ah.map aK)),.p (.aL (a1.rule.left.slots.map bQ)),.p (.val (.int .i64 a1.rule.left.vars)),.p (.aL (a1.rule.left.tests.map cI)),.p (.aL (a1.rule.right.graph.nodes.map encI)),.p (.aL (a1.rule.right.graph.ah.map aK)),.p (.aL (a1.rule.right.slots.map bQ)),.p (.val (.int .i64 a1.rule.right.vars)),.p (.aL (a1.rule.right.tests.map cI)),.p (.aL (a1.rule.keep.nodes.map encI)),.p (.aL (a1.rule.keep.ah.map encI)),.p (.aL (a1.rule.into.nodes.map encI)),.p (.aL (a1.rule.into.ah.map encI)),.p (.val (.bool a1.rule.injective)),.p (.val (.int .i64 a1.rule.condition.kind)),.p (.aL (a1.rule.condition.kids.map aX)),.p (.aL (a1.rule.condition.map.nodes.map encI)),.p (.aL (a1.rule.condition.map.ah.map encI)),.p (.aL (a1.rule.condition.pattern.graph.nodes.map encI)),.p (.aL (a1.rule.condition.pattern.graph.ah.map aK)),.p (.aL (a1.rule.condition.pattern.slots.map bQ)),.p (.val (.int .i64 a1.rule.condition.pattern.vars)),.p (.aL (a1.rule.condition.pattern.tests.map cI)),.p (.aL (a1.tN.ee.nodes.map encI)),.p (.aL (a1.tN.ee.ah.map encI)),.p (.aL (a1.tN.vars.map encI)),.p (.aL (a1.before.graph.nodes.map encI)),.p (.aL (a1.before.graph.ah.map aK)),.p (.aL (a1.before.values.map bw)),.p (.val (.slice none 0 0)),.p (.val (.slice none 0 0)),.p (.val (.slice none 0 0)),.p (.aL (a1.tO.nodes.map encI)),.p (.aL (a1.tO.ah.map encI)),.p (.aL (a1.lP.nodes.map encI)),.p (.aL (a1.lP.ah.map encI))])]) [.p (.agg [.aL (a0.nodes.map aB),.aL (a0.ah.map aC)]),.ptr 1000000 0,.p (.agg [.aL (a2.nodes.map encI),.aL (a2.ah.map encI)])] (λa H=>∃v:Nat×Nat×Nat,mV a (.dH [])/\wo H [(1000000,.box [.p (.val (.string a1.rule.name)),.p (.aL (a1.rule.left.graph.nodes.map encI)),.p (.aL (a1.rule.left.graph.ah.map aK)),.p (.aL (a1.rule.left.slots.map bQ)),.p (.val (.int .i64 a1.rule.left.vars)),.p (.aL (a1.rule.left.tests.map cI)),.p (.aL (a1.rule.right.graph.nodes.map encI)),.p (.aL (a1.rule.right.graph.ah.map aK)),.p (.aL (a1.rule.right.slots.map bQ)),.p (.val (.int .i64 a1.rule.right.vars)),.p (.aL (a1.rule.right.tests.map cI)),.p (.aL (a1.rule.keep.nodes.map encI)),.p (.aL (a1.rule.keep.ah.map encI)),.p (.aL (a1.rule.into.nodes.map encI)),.p (.aL (a1.rule.into.ah.map encI)),.p (.val (.bool a1.rule.injective)),.p (.val (.int .i64 a1.rule.condition.kind)),.p (.aL (a1.rule.condition.kids.map aX)),.p (.aL (a1.rule.condition.map.nodes.map encI)),.p (.aL (a1.rule.condition.map.ah.map encI)),.p (.aL (a1.rule.condition.pattern.graph.nodes.map encI)),.p (.aL (a1.rule.condition.pattern.graph.ah.map aK)),.p (.aL (a1.rule.condition.pattern.slots.map bQ)),.p (.val (.int .i64 a1.rule.condition.pattern.vars)),.p (.aL (a1.rule.condition.pattern.tests.map cI)),.p (.aL (a1.tN.ee.nodes.map encI)),.p (.aL (a1.tN.ee.ah.map encI)),.p (.aL (a1.tN.vars.map encI)),.p (.aL (a1.before.graph.nodes.map encI)),.p (.aL (a1.before.graph.ah.map aK)),.p (.aL (a1.before.values.map bw)),.row 4751 v.1,.row 4824 v.2.1,.row 4752 v.2.2,.p (.aL (a1.tO.nodes.map encI)),.p (.aL (a1.tO.ah.map encI)),.p (.aL (a1.lP.nodes.map encI)),.p (.aL (a1.lP.ah.map encI))]),(4751,.row v.1 3 1 (r.1.map encI)),(4824,.row v.2.1 143 3 (r.2.1.map aK)),(4752,.row v.2.2 26 1 (r.2.2.map bw))]):=by
 refine wY [48,66,67,114] Ty.mixed func114 rfl (by kernel_rfl) (by simp[ntmps114]) ?_;rw[ntmps114,results114];unfold zz at h;have F:=trivial;refine eD 4 [.o,.o,.o,.o,.o,.o,.w,.w,.s,.s] ?_;refine zV ?_;refine zN F h ((0,0):Nat×Nat) [1,3,5,6,7,28,29] (λx=>[(30,.p (.val (.int .i64 ((x.1.1:Nat):Int))))]) [3,5,6,7] (λx H=>[(1000000,bx (H 1000000) [(31,.row 4751 x.2.1),(33,.row 4752 x.2.2)]),(4751,.row x.2.1 3 1 (x.1.2.1.map encI)),(4752,.row x.2.2 26 1 (x.1.2.2.map bw))]) ?_ ?_ (hw:=by refine c8.trans (bK 1000000 31 4751 3 1 _ rfl rfl rfl (by decide)) ?_;refine c8.trans (bK 1000000 33 4752 26 1 _ rfl rfl rfl (by decide)) ?_;exact zW)
 ·intro i3 s3 g3 _ _ F vL h;try dsimp only at h
  refine zI encI F h λe4 F h=>?_
  refine zE [(0,.p),(1,.p),(7,.q),(8,.q),(9,.q),(10,.q),(11,.q),(12,.q),(13,.p),(2,.q),(3,.q),(4,.q),(5,.q),(6,.q),(14,.w),(15,.q),(16,.q),(17,.q),(18,.q),(19,.w)] ?_;refine zA encI F h λe5 F h=>?_
  refine zC F h λF h=>?_
  refine dz (s3.1.length+1) 8 F λF=>?_
  refine zF (bt encI s3.1 [e5] (c:=[[.val (.int .i64 e5)]]) rfl) F λF=>?_
  refine zE [(0,.p),(1,.p),(6,.p),(2,.b),(3,.b),(4,.b),(5,.b),(7,.q),(8,.q),(9,.q),(10,.q),(11,.q),(12,.w),(13,.w),(14,.w),(15,.q),(16,.q),(17,.q),(18,.w)] ?_;refine zA bw F h λe6 F h=>?_
  refine zC F h λF h=>?_
  refine dz e6.length 8 F λF=>?_
  refine zF (eq_true (gN (n:=1) (f:=encI) (λ_=>rfl) e6)) F λF=>?_
  refine zC F h λF h=>?_
  refine dz (s3.2.length+1) 24 F λF=>?_
  refine zF (bt bw s3.2 [e6] (c:=[[.aL (e6.map encI)]]) rfl) F λF=>?_
  exact zX (z:=vL _ (g3.1+1,g3.2+1) h zW)
 ·intro i3 s3 g3 _ F h;try dsimp only at h
  refine zV ?_;refine zN F h (0:Nat) [1,3,6,7,73,74] (λx=>[(75,.p (.val (.int .i64 ((x.1.1:Nat):Int))))]) [3,6,7,4751,4752] (λx H=>[(1000000,bx (H 1000000) [(32,.row 4824 x.2)]),(4824,.row x.2 143 3 (x.1.2.map aK))]) ?_ ?_ (hw:=by refine c8.trans (bK 1000000 32 4824 143 3 _ rfl rfl rfl (by decide)) ?_;exact zW)
  ·intro i7 s7 g7 _ _ F Ns7 h;try dsimp only at h
   refine zI encI F h λe8 F h=>?_
   refine zA aK F h λe9 F h=>?_
   refine zE [(0,.p),(1,.p),(7,.q),(8,.q),(9,.q),(10,.q),(11,.q),(12,.q),(13,.q),(14,.q),(15,.q),(16,.q),(17,.q),(18,.q),(19,.q),(20,.q),(21,.q),(22,.q),(23,.q),(24,.q),(25,.q),(26,.q),(27,.q),(28,.p),(2,.q),(3,.q),(4,.q),(5,.q),(6,.q),(29,.w),(30,.q),(31,.q),(32,.q),(33,.q),(34,.w)] ?_;refine zA encI F h λpE F h=>?_
   refine zA encI F h λe11 F h=>?_
   refine zC F h λF h=>?_
   refine dz (s7.length+1) 24 F λF=>?_
   refine zF (bt aK s7 [(⟨e9.type,pE,e11⟩:Edge)] (c:=[[.val (.int .i64 e9.type),.val (.int .i64 pE),.val (.int .i64 e11)]]) rfl) F λF=>?_
   exact zX (z:=Ns7 _ (g7+1) h zW)
  ·intro i7 s7 g7 _ F h;try dsimp only at h
   refine zV ?_;refine zN F h ((g3.2,g3.1):Nat×Nat) [1,3,7,121,122] (λx=>[(123,.p (.val (.int .i64 ((x.1.1:Nat):Int))))]) [3,7,4824] (λx H=>[(1000000,bx (H 1000000) [(31,.row 4751 x.2.2),(33,.row 4752 x.2.1)]),(4751,.row x.2.2 3 1 (x.1.2.2.map encI)),(4752,.row x.2.1 26 1 (x.1.2.1.map bw))]) ?_ ?_
   ·intro i12 s12 g12 _ _ F aE7 h;try dsimp only at h
    refine zI encI F h λe13 F h=>?_
    refine eD 16 [] ?_;refine zI encI F h λe14 F h=>?_
    refine zB F h (λF h=>?_) λF h=>?_
    ·refine zC F h λF h=>?_
     refine dz (s12.2.length+1) 8 F λF=>?_
     refine zF (bt encI s12.2 [e13] (c:=[[.val (.int .i64 e13)]]) rfl) F λF=>?_
     refine zE [(0,.p),(1,.p),(6,.q),(7,.q),(8,.q),(9,.p),(2,.q),(3,.q),(4,.q),(5,.q),(10,.w),(11,.q),(12,.q),(13,.q),(14,.w)] ?_;refine zTd F h (alQ _ _) λr15 h=>?_
     refine zC F h λF h=>?_
     refine dz (s12.1.length+1) 24 F λF=>?_
     refine zF (bt bw s12.1 [r15] (c:=[[.aL (r15.map encI)]]) rfl) F λF=>?_
     exact zX (z:=aE7 _ (g12.1+1,g12.2+1) h zW)
    ·exact zX (z:=aE7 _ (g12.1,g12.2) h zW)
   ·intro i12 s12 g12 _ F h;try dsimp only at h
    refine zV ?_;refine zN F h (g7:Nat) [1,174,175] (λx=>[(176,.p (.val (.int .i64 ((x.1.1:Nat):Int))))]) [4751,4752] (λx H=>[(1000000,bx (H 1000000) [(32,.row 4824 x.2)]),(4824,.row x.2 143 3 (x.1.2.map aK))]) ?_ ?_
    ·intro i16 s16 g16 _ _ F aE8 h;try dsimp only at h
     refine zI aK F h λe17 F h=>?_
     refine eD 16 [] ?_;refine zI encI F h λe18 F h=>?_
     refine zB F h (λF h=>?_) λF h=>?_
     ·refine zE [(0,.p),(1,.p),(7,.q),(8,.q),(9,.q),(10,.q),(11,.q),(12,.q),(13,.q),(14,.q),(15,.q),(16,.q),(17,.q),(18,.q),(19,.q),(20,.q),(21,.q),(22,.q),(23,.q),(24,.q),(25,.q),(26,.q),(27,.q),(28,.p),(2,.q),(3,.q),(4,.q),(5,.q),(6,.q),(29,.w),(30,.q),(31,.q),(32,.q),(33,.q),(34,.w)] ?_;refine zA encI F h λe19 F h=>?_
      refine zA encI F h λe20 F h=>?_
      refine zC F h λF h=>?_
      refine dz (s16.length+1) 24 F λF=>?_
      refine zF (bt aK s16 [(⟨e17.type,e19,e20⟩:Edge)] (c:=[[.val (.int .i64 e17.type),.val (.int .i64 e19),.val (.int .i64 e20)]]) rfl) F λF=>?_
      exact zX (z:=aE8 _ (g16+1) h zW)
     ·exact zX (z:=aE8 _ g16 h zW)
    ·intro i16 s16 g16 _ F h;try dsimp only at h
     refine zV ?_;refine⟨(g12.2,g16,g12.1),?_⟩;exact zR h
end
noncomputable section
theorem alS(a0:bE)(a1:bE)(r:Bool)(h:zS a0 a1=some r):aD pw 293 [.agg [.aL (a0.nodes.map encI),.aL (a0.ah.map aK)],.agg [.aL (a1.nodes.map encI),.aL (a1.ah.map aK)]] (λv=>v = .val (.bool r)):=by
 refine aD.gW ?_;refine aF [] func293 ntmps293 results293 ?_;unfold zS at h;have F:=trivial;refine zK F h (dR _ _) λr2 h=>?_
 refine gx F h (λF h=>?_) λF h=>?_
 ·refine zK F h (pS _ _) λr3 h=>?_
  exact zR h
 ·exact zR h
theorem sS(a0:List ax)(a1:Int)(r:Int)(h:jB a0 a1=some r):aD pw 88 [.aL (a0.map ak),.val (.int .i64 a1)] (λv=>v = .val (.int .i64 r)):=by
 refine aD.gW ?_;refine aF [] func88 ntmps88 results88 ?_;unfold jB at h;have F:=trivial;refine zK F h (uA _ (λx2=>kT x2 a1) 150 [] [.ez [.val (.int .i64 a1)] 0] (λx2 r h=>adS x2 a1 r h)) λr3 h=>?_
 exact zR h
theorem uE(a0:aH)(a1:aQ)(r:aH×Bool)(h:ga a0 a1=some r):aD pw 100 [.agg [.aL (a0.nodes.map ag),.aL (a0.ah.map ak)],.agg (aJ a1)] (λv=>v = .dH [.agg [.aL (r.1.nodes.map ag),.aL (r.1.ah.map ak)],.val (.bool r.2)]):=by
 refine aD.gW ?_;refine aF [86,147] func100 ntmps100 results100 ?_;unfold ga at h;have F:=trivial;refine zV ?_;refine zN F h () [2,3,4] (λx=>[(6,.p (.val (.int .i64 ((x.1.1:Nat):Int))))]) [2,3,4] (λx H=>[]) ?_ ?_
 ·intro i2 s2 g2 _ _ F jL h;try dsimp only at h
  refine eD 8 [] ?_;refine zI ag F h λe3 F h=>?_
  refine vl F h (oo _ _) λr4 h=>?_
  refine zB F h (λF h=>?_) λF h=>?_
  ·exact zR h
  ·exact zX (z:=jL _ () h zW)
 ·intro i2 s2 g2 _ F h;try dsimp only at h
  refine zV ?_;refine zN F h () [2,3,4] (λx=>[(7,.p (.val (.int .i64 ((x.1.1:Nat):Int))))]) [2,3,4] (λx H=>[]) ?_ ?_
  ·intro i5 s5 g5 _ _ F Ns5 h;try dsimp only at h
   refine eD 8 [] ?_;refine zI ak F h λe6 F h=>?_
   refine vl F h (oo _ _) λr7 h=>?_
   refine zB F h (λF h=>?_) λF h=>?_
   ·exact zR h
   ·exact zX (z:=Ns5 _ () h zW)
  ·intro i5 s5 g5 _ F h;try dsimp only at h
   refine zV ?_;refine zL F h (0:Nat) [2,3,4,8] (λx=>[(9,.p (.val (.int .i64 x.1.1))),(10,.p (.val (.int .i64 x.1.2.1)))]) [2,3,4] (λx H=>[(8,bx (H 8) [(0,.row 9752 x.2)]),(9752,.row x.2 96 3 (x.1.2.2.map ag))]) ?_ (hw:=by refine c8.trans (bK 8 0 9752 96 3 _ rfl rfl rfl (by decide)) ?_;exact zW);intro s8 g8 _ _ F Ns8 h;try dsimp only at h
   refine zB F h (λF h=>?_) λF h=>?_
   ·refine zV ?_;refine zL F h (g8:Nat) [2,3,4,8,10] (λx=>[(9,.p (.val (.int .i64 x.1.1)))]) [2,3,4] (λx H=>[(8,bx (H 8) [(0,.row 9752 x.2)]),(9752,.row x.2 96 3 (x.1.2.map ag))]) ?_;intro s9 g9 _ _ F Ns9 h;try dsimp only at h
    refine eD 27 [] ?_;refine zBd F h (λF h=>?_) λF h=>?_
    ·refine arn F h (λF h=>?_) λF h=>?_
     ·refine zE [(0,.p),(2,.q),(3,.q),(4,.q),(5,.q),(6,.q),(7,.p),(1,.q),(8,.w),(9,.q),(10,.w)] ?_;refine zA ag F h λpE F h=>?_
      refine zC F h λF h=>?_
      refine dz (s9.2.length+1) 40 F λF=>?_
      refine zF (bt ag s9.2 [pE] (c:=[[.val (.int .i64 pE.id),.val (.int .i64 pE.type),.aL (pE.values.map encI)]]) rfl) F λF=>?_
      exact zX (z:=Ns9 _ (g9+1) h zW)
     ·refine zA ag F h λe11 F h=>?_
      refine zAq ag F h λe12 aJq F h=>?_
      refine zB F h (λF h=>?_) λF h=>?_
      ·refine zE [(0,.p),(2,.q),(3,.q),(4,.q),(5,.q),(6,.q),(7,.p),(1,.q),(8,.w),(9,.q),(10,.w)] ?_;refine zC F h λF h=>?_
       refine dz (s9.2.length+1) 40 F λF=>?_
       refine zF (bt ag s9.2 [e11] (c:=[[.val (.int .i64 e11.id),.val (.int .i64 e11.type),.aL (e11.values.map encI)]]) rfl) F λF=>?_
       exact zX (z:=Ns9 _ (g9+1) h zW)
      ·try dsimp only at h
       replace h:=abr h (ew (by omega));refine zE [(0,.p),(2,.q),(3,.q),(4,.q),(5,.q),(6,.q),(7,.p),(1,.q),(8,.w),(9,.q),(10,.w)] ?_;refine zU aJq h λh=>?_
       refine zC F h λF h=>?_
       refine dz (s9.2.length+1) 40 F λF=>?_
       refine zF (bt ag s9.2 [e12] (c:=[[.val (.int .i64 e12.id),.val (.int .i64 e12.type),.aL (e12.values.map encI)]]) rfl) F λF=>?_
       exact zX (z:=Ns8 _ (g9+1) h zW)
    ·try dsimp only at h
     refine zB F h (λF h=>?_) λF h=>?_
     ·refine zE [(0,.p),(2,.q),(3,.q),(4,.q),(5,.q),(6,.q),(7,.p),(1,.q),(8,.w),(9,.q),(10,.w)] ?_;refine zAq ag F h λe13 qe13 F h=>?_
      refine zC F h λF h=>?_
      refine dz (s9.2.length+1) 40 F λF=>?_
      refine zF (bt ag s9.2 [e13] (c:=[[.val (.int .i64 e13.id),.val (.int .i64 e13.type),.aL (e13.values.map encI)]]) rfl) F λF=>?_
      exact zX (z:=Ns8 _ (g9+1) h zW)
     ·exact zX (z:=Ns8 _ g9 h zW)
   ·try dsimp only at h
    refine zV ?_;refine zL F h (0:Nat) [2,3,4,8] (λx=>[(9,.p (.val (.int .i64 x.1.1))),(11,.p (.val (.int .i64 x.1.2.1)))]) [2,3,4,9752] (λx H=>[(8,bx (H 8) [(1,.row 10164 x.2)]),(10164,.row x.2 125 4 (x.1.2.2.map ak))]) ?_ (hw:=by refine c8.trans (bK 8 1 10164 125 4 _ rfl rfl rfl (by decide)) ?_;exact zW);intro s14 g14 _ _ F aia h;try dsimp only at h
    refine zB F h (λF h=>?_) λF h=>?_
    ·refine zV ?_;refine zL F h (g14:Nat) [2,3,4,8,11] (λx=>[(9,.p (.val (.int .i64 x.1.1)))]) [2,3,4,9752] (λx H=>[(8,bx (H 8) [(1,.row 10164 x.2)]),(10164,.row x.2 125 4 (x.1.2.map ak))]) ?_;intro s15 g15 _ _ F aE9 h;try dsimp only at h
     refine eD 27 [] ?_;refine zBd F h (λF h=>?_) λF h=>?_
     ·refine arn F h (λF h=>?_) λF h=>?_
      ·refine zE [(0,.p),(2,.q),(3,.q),(4,.q),(5,.q),(6,.q),(7,.p),(1,.q),(8,.w),(9,.q),(10,.w)] ?_;refine zA ak F h λe16 F h=>?_
       refine zC F h λF h=>?_
       refine dz (s15.2.length+1) 32 F λF=>?_
       refine zF (bt ak s15.2 [e16] (c:=[[.val (.int .i64 e16.id),.val (.int .i64 e16.type),.val (.int .i64 e16.src),.val (.int .i64 e16.dst)]]) rfl) F λF=>?_
       exact zX (z:=aE9 _ (g15+1) h zW)
      ·refine zA ak F h λe17 F h=>?_
       refine zAq ak F h λe18 aJr F h=>?_
       refine zB F h (λF h=>?_) λF h=>?_
       ·refine zE [(0,.p),(2,.q),(3,.q),(4,.q),(5,.q),(6,.q),(7,.p),(1,.q),(8,.w),(9,.q),(10,.w)] ?_;refine zC F h λF h=>?_
        refine dz (s15.2.length+1) 32 F λF=>?_
        refine zF (bt ak s15.2 [e17] (c:=[[.val (.int .i64 e17.id),.val (.int .i64 e17.type),.val (.int .i64 e17.src),.val (.int .i64 e17.dst)]]) rfl) F λF=>?_
        exact zX (z:=aE9 _ (g15+1) h zW)
       ·try dsimp only at h
        replace h:=abr h (ew (by omega));refine zE [(0,.p),(2,.q),(3,.q),(4,.q),(5,.q),(6,.q),(7,.p),(1,.q),(8,.w),(9,.q),(10,.w)] ?_;refine zU aJr h λh=>?_
        refine zC F h λF h=>?_
        refine dz (s15.2.length+1) 32 F λF=>?_
        refine zF (bt ak s15.2 [e18] (c:=[[.val (.int .i64 e18.id),.val (.int .i64 e18.type),.val (.int .i64 e18.src),.val (.int .i64 e18.dst)]]) rfl) F λF=>?_
        exact zX (z:=aia _ (g15+1) h zW)
     ·try dsimp only at h
      refine zB F h (λF h=>?_) λF h=>?_
      ·refine zE [(0,.p),(2,.q),(3,.q),(4,.q),(5,.q),(6,.q),(7,.p),(1,.q),(8,.w),(9,.q),(10,.w)] ?_;refine zAq ak F h λe19 qe19 F h=>?_
       refine zC F h λF h=>?_
       refine dz (s15.2.length+1) 32 F λF=>?_
       refine zF (bt ak s15.2 [e19] (c:=[[.val (.int .i64 e19.id),.val (.int .i64 e19.type),.val (.int .i64 e19.src),.val (.int .i64 e19.dst)]]) rfl) F λF=>?_
       exact zX (z:=aia _ (g15+1) h zW)
      ·exact zX (z:=aia _ g15 h zW)
    ·try dsimp only at h
     exact zR h
end
noncomputable section
theorem tV(a0:bE)(a1:bE)(a2:aY)(r:Bool)(h:lS a0 a1 a2=some r):aD pw 225 [.agg [.aL (a0.nodes.map encI),.aL (a0.ah.map aK)],.agg [.aL (a1.nodes.map encI),.aL (a1.ah.map aK)],.agg [.aL (a2.nodes.map encI),.aL (a2.ah.map encI)]] (λv=>v = .val (.bool r)):=by
 refine aD.gW ?_;refine aF [] func225 ntmps225 results225 ?_;unfold lS at h;have F:=trivial;refine eD 24 [] ?_;refine vl F h (o8 _ _ _) λr3 h=>?_
 refine zBd F h (λF h=>?_) λF h=>?_
 ·refine vl F h (xh _) λr4 h=>?_
  refine zBd F h (λF h=>?_) λF h=>?_
  ·refine vl F h (xh _) λr5 h=>?_
   exact zR h
  ·exact zR h
 ·exact zR h
theorem aib(a0:gf)(r:(List Int)×(List Int))(h:vO a0=some r):bl pw 179 [.agg (jx a0)] (λv=>v = .dH [.row 3 1 (r.1.map encI),.row 3 1 (r.2.map encI)]):=by
 refine bl.qX ?_;refine bz [] func179 ntmps179 results179 ?_;unfold vO at h;have F:=trivial;refine zE [(0,.q),(1,.q),(2,.q),(3,.q),(4,.q),(5,.q),(6,.q),(7,.q),(9,.q),(10,.q),(11,.q),(12,.q),(13,.q),(14,.q),(15,.q),(16,.q),(8,.f),(17,.f),(18,.q),(19,.q)] ?_;refine zH 1192 F h (adh _ _) λr1 h=>?_
 refine zH 1336 F h (adh _ _) λr2 h=>?_
 exact gJ h
theorem uF(a0:dB)(r:(List Int))(h:j5 a0=some r):bl pw 188 [.agg (gr a0)] (λv=>v = .row 3 1 (r.map encI)):=by
 refine bl.qX ?_;refine bz [39] func188 ntmps188 results188 ?_;unfold j5 at h;have F:=trivial;refine zG 1128 F h (u7 _) λr1 h=>?_
 refine zV ?_;refine zN F h (0:Nat) [1,3,11,12] (λx=>[(4,.row 3796 x.2),(13,.p (.val (.int .i64 ((x.1.1:Nat):Int))))]) [1,1128] (λx H=>[(3796,.row x.2 3 1 (x.1.2.map encI))]) ?_ ?_ (hw:=by refine c8.trans (jm 4 3796 3 1 rfl rfl (by decide)) ?_;exact zW)
 ·intro i2 s2 g2 _ _ F jL h;try dsimp only at h
  refine zI aK F h λe3 F h=>?_
  refine zK F h (eH _ _) λr4 h=>?_
  refine nv F h (λF h=>?_) λF h=>?_
  ·exact zX (z:=jL _ g2 h zW)
  ·refine zK F h (eH _ _) λr5 h=>?_
   refine nv F h (λF h=>?_) λF h=>?_
   ·refine zC F h λF h=>?_
    refine dz (s2.length+1) 8 F λF=>?_
    refine zF (bt encI s2 [((i2:Nat):Int)] (c:=[[.val (.int .i64 ((i2:Nat):Int))]]) rfl) F λF=>?_
    exact zX (z:=jL _ (g2+1) h zW)
   ·refine zK F h (eH _ _) λr6 h=>?_
    refine zB F h (λF h=>?_) λF h=>?_
    ·refine zC F h λF h=>?_
     refine dz (s2.length+1) 8 F λF=>?_
     refine zF (bt encI s2 [((i2:Nat):Int)] (c:=[[.val (.int .i64 ((i2:Nat):Int))]]) rfl) F λF=>?_
     exact zX (z:=jL _ (g2+1) h zW)
    ·exact zX (z:=jL _ g2 h zW)
 ·intro i2 s2 g2 _ F h;try dsimp only at h
  exact gJ h
theorem sU(a0:List aj)(a1:Int)(r:Int)(h:jA a0 a1=some r):aD pw 87 [.aL (a0.map ag),.val (.int .i64 a1)] (λv=>v = .val (.int .i64 r)):=by
 refine aD.gW ?_;refine aF [] func87 ntmps87 results87 ?_;unfold jA at h;have F:=trivial;refine zK F h (uD _ (λx2=>kS x2 a1) 148 [] [.ez [.val (.int .i64 a1)] 0] (λx2 r h=>adR x2 a1 r h)) λr3 h=>?_
 exact zR h
theorem z7(a0:bE)(a1:bE)(r:Bool)(h:jc a0 a1=some r):aD pw 81 [.agg [.aL (a0.nodes.map encI),.aL (a0.ah.map aK)],.agg [.aL (a1.nodes.map encI),.aL (a1.ah.map aK)]] (λv=>v = .val (.bool r)):=by
 refine aD.gW ?_;refine aF [] func81 ntmps81 results81 ?_;unfold jc at h;have F:=trivial;refine zK F h (jg _ _) λr2 h=>?_
 refine gx F h (λF h=>?_) λF h=>?_
 ·refine fB F h (λF h=>?_) λF h=>?_
  ·refine zV ?_;refine zN F h () [2,3] (λx=>[(5,.p (.val (.int .i64 ((x.1.1:Nat):Int))))]) [2,3] (λx H=>[]) ?_ ?_
   ·intro i3 s3 g3 _ _ F vL h;try dsimp only at h
    refine eD 11 [] ?_;refine zI aK F h λe4 F h=>?_
    refine zI aK F h λe5 F h=>?_
    refine fB F h (λF h=>?_) λF h=>?_
    ·exact zX (z:=vL _ () h zW)
    ·exact zR h
   ·intro i3 s3 g3 _ F h;try dsimp only at h
    exact zR h
  ·exact zR h
 ·exact zR h
theorem ji(a0:aH)(a1:Int)(r:ay)(h:dg a0 a1=some r):bl pw 101 [.agg [.aL (a0.nodes.map ag),.aL (a0.ah.map ak)],.val (.int .i64 a1)] (λv=>v = .agg [.row 3 1 (r.host.graph.nodes.map encI),.row 143 3 (r.host.graph.ah.map aK),.row 26 1 (r.host.values.map bw),.row 3 1 (r.nodes.map encI),.row 3 1 (r.ah.map encI),.p (.val (.int .i64 r.next))]):=by
 refine bl.qX ?_;refine bz [29,38,49,50,70,90] func101 ntmps101 results101 ?_;unfold dg at h;have F:=trivial;refine zV ?_;refine zN F h ((0,0,0):Nat×Nat×Nat) [2,4,5] (λx=>[(6,.p (.val (.int .i64 ((x.1.1:Nat):Int))))]) [2,4] (λx H=>[(5,bx (H 5) [(0,.row 11126 x.2.1),(2,.row 11127 x.2.2.1),(3,.row 11128 x.2.2.2)]),(11126,.row x.2.1 3 1 (x.1.2.1.map encI)),(11127,.row x.2.2.1 26 1 (x.1.2.2.1.map bw)),(11128,.row x.2.2.2 3 1 (x.1.2.2.2.map encI))]) ?_ ?_ (hw:=by refine c8.trans (bK 5 0 11126 3 1 _ rfl rfl rfl (by decide)) ?_;refine c8.trans (bK 5 2 11127 26 1 _ rfl rfl rfl (by decide)) ?_;refine c8.trans (bK 5 3 11128 3 1 _ rfl rfl rfl (by decide)) ?_;exact zW)
 ·intro i2 s2 g2 _ _ F jL h;try dsimp only at h
  refine zI ag F h λe3 F h=>?_
  refine zC F h λF h=>?_
  refine dz (s2.2.2.length+1) 8 F λF=>?_
  refine zF (bt encI s2.2.2 [e3.id] (c:=[[.val (.int .i64 e3.id)]]) rfl) F λF=>?_
  refine zC F h λF h=>?_
  refine dz (s2.1.length+1) 8 F λF=>?_
  refine zF (bt encI s2.1 [e3.type] (c:=[[.val (.int .i64 e3.type)]]) rfl) F λF=>?_
  refine zE [(0,.p),(1,.p),(3,.p),(2,.b),(4,.q),(5,.q),(6,.w),(7,.w),(8,.w),(9,.q),(10,.q),(11,.w)] ?_;refine zC F h λF h=>?_
  refine dz e3.values.length 8 F λF=>?_
  refine zF (eq_true (gN (n:=1) (f:=encI) (λ_=>rfl) e3.values)) F λF=>?_
  refine zC F h λF h=>?_
  refine dz (s2.2.1.length+1) 24 F λF=>?_
  refine zF (bt bw s2.2.1 [e3.values] (c:=[[.aL (e3.values.map encI)]]) rfl) F λF=>?_
  exact zX (z:=jL _ (g2.1+1,g2.2.1+1,g2.2.2+1) h zW)
 ·intro i2 s2 g2 _ F h;try dsimp only at h
  refine zV ?_;refine zN F h ((0,0):Nat×Nat) [2,4,5] (λx=>[(8,.p (.val (.int .i64 ((x.1.1:Nat):Int))))]) [2,4,11126,11127,11128] (λx H=>[(5,bx (H 5) [(1,.row 11185 x.2.1),(4,.row 11186 x.2.2)]),(11185,.row x.2.1 143 3 (x.1.2.1.map aK)),(11186,.row x.2.2 3 1 (x.1.2.2.map encI))]) ?_ ?_ (hw:=by refine c8.trans (bK 5 1 11185 143 3 _ rfl rfl rfl (by decide)) ?_;refine c8.trans (bK 5 4 11186 3 1 _ rfl rfl rfl (by decide)) ?_;exact zW)
  ·intro i4 s4 g4 _ _ F Ns4 h;try dsimp only at h
   refine zI ak F h λe5 F h=>?_
   refine zC F h λF h=>?_
   refine dz (s4.2.length+1) 8 F λF=>?_
   refine zF (bt encI s4.2 [e5.id] (c:=[[.val (.int .i64 e5.id)]]) rfl) F λF=>?_
   refine zE [(0,.p),(1,.p),(2,.p),(4,.q),(5,.q),(6,.q),(7,.q),(8,.q),(9,.q),(10,.q),(11,.q),(12,.q),(13,.q),(14,.q),(15,.q),(16,.q),(17,.p),(3,.q),(18,.w),(19,.q),(20,.q),(21,.q),(22,.w)] ?_;refine vl F h (di _ _) λr6 h=>?_
   refine vl F h (di _ _) λr7 h=>?_
   refine zC F h λF h=>?_
   refine dz (s4.1.length+1) 24 F λF=>?_
   refine zF (bt aK s4.1 [(⟨e5.type,r6,r7⟩:Edge)] (c:=[[.val (.int .i64 e5.type),.val (.int .i64 r6),.val (.int .i64 r7)]]) rfl) F λF=>?_
   exact zX (z:=Ns4 _ (g4.1+1,g4.2+1) h zW)
  ·intro i4 s4 g4 _ F h;try dsimp only at h
   exact gJ h
end
noncomputable section
theorem kV(a0:List Edge)(p1:Edge->Option Bool)(k1:FuncId)(xV xW:List PV)(hp1:∀x0 r,p1 x0=some r->aD pw k1 (xV++[.agg (aK x0)]++xW) (λv=>v = .val (.bool r)))(r:Bool)(h:gF a0 p1=some r):aD pw 132 [.aL (a0.map aK),.jk (.func k1) xV xW] (λv=>v = .val (.bool r)):=by
 refine aD.gW ?_;refine aF [] func132 ntmps132 results132 ?_;unfold gF at h;have F:=trivial;refine zK F h (yB _ p1 k1 xV xW hp1) λr2 h=>?_
 exact zR h
theorem jl(a0:List Int)(a1:Int)(r:Int×Bool)(h:fM a0 a1=some r):aD pw 191 [.aL (a0.map encI),.val (.int .i64 a1)] (λv=>v = .dH [.val (.int .i64 r.1),.val (.bool r.2)]):=by
 refine aD.gW ?_;refine aF [] func191 ntmps191 results191 ?_;unfold fM at h;have F:=trivial;refine zV ?_;refine zL F h () [0,1,6] (λx=>[(7,.p (.val (.int .i64 x.1.1))),(8,.p (.val (.int .i64 x.1.2)))]) [] (λx H=>[]) ?_;intro s2 g2 _ _ F jL h;try dsimp only at h
 refine zB F h (λF h=>?_) λF h=>?_
 ·refine eU ((0:Int)<=1) F λF=>?_
  refine zF (show min 1 64=1 from rfl) F λF=>?_
  refine zA encI F h λe3 F h=>?_
  refine zK F h (ah7 _ _) λr4 h=>?_
  refine zB F h (λF h=>?_) λF h=>?_
  ·exact zX (z:=jL _ () h zW)
  ·exact zX (z:=jL _ () h zW)
 ·try dsimp only at h
  refine gx F h (λF h=>?_) λF h=>?_
  ·refine zA encI F h λe5 F h=>?_
   refine nv F h (λF h=>?_) λF h=>?_
   ·exact zR h
   ·refine zK F h (vU _) λr6 h=>?_
    refine gx F h (λF h=>?_) λF h=>?_
    ·refine zK F h (vU _) λr7 h=>?_
     exact zR h
    ·exact zR h
  ·exact zR h
theorem aeL(a0:bL)(a1:Host)(a2:aY)(r:(List Int)×Int)(h:rG a0 a1 a2=some r):bl pw 233 [.agg (fc a0),.agg (gm a1),.agg [.aL (a2.nodes.map encI),.aL (a2.ah.map encI)]] (λv=>v = .dH [.row 3 1 (r.1.map encI),.p (.val (.int .i64 r.2))]):=by
 refine bl.qX ?_;refine bz [18,21] func233 ntmps233 results233 ?_;unfold rG at h;have F:=trivial;refine zE [(0,.q),(1,.q),(3,.q),(4,.q),(2,.w),(5,.w),(6,.q),(7,.q)] ?_;refine zC F h λF h=>?_
 refine zF (eq_true (show a0.vars * ((8:Nat):Int)<=140737488355328 by omega)) F λF=>?_
 refine zF (acq encI a0.vars.toNat 0 (c:=[.val (.int .i64 0)]) rfl) F λF=>?_
 refine zC F h λF h=>?_
 refine zF (eq_true (show a0.vars * ((1:Nat):Int)<=140737488355328 by omega)) F λF=>?_
 refine zF (acq mY a0.vars.toNat false (c:=[.val (.bool false)]) rfl) F λF=>?_
 refine zV ?_;refine zN F h ((0,0):Nat×Nat) [3,4,5,23,24] (λx=>[(8,.row 18 x.2.2),(9,.row 21 x.2.1),(25,.p (.val (.int .i64 ((x.1.1:Nat):Int))))]) [3,4,5] (λx H=>[(18,.row x.2.2 3 1 (x.1.2.2.map encI)),(21,.row x.2.1 4 1 (x.1.2.1.map mY))]) ?_ ?_
 ·intro i3 s3 g3 _ _ F vL h;try dsimp only at h
  refine zI bQ F h λe4 F h=>?_
  refine eD 15 [] ?_;refine zA encI F h λe5 F h=>?_
  refine zA bw F h λe6 F h=>?_
  refine zA encI F h λe7 F h=>?_
  refine gx F h (λF h=>?_) λF h=>?_
  ·refine zA mY F h λe8 F h=>?_
   refine fB F h (λF h=>?_) λF h=>?_
   ·refine zK F h (rL _ _) λr9 h=>?_
    refine fB F h (λF h=>?_) λF h=>?_
    ·exact zX (z:=vL _ (g3.1,g3.2) h zW)
    ·exact gJ h
   ·refine zA encI F h λpE F h=>?_
    refine zF (lK encI s3.2 e4.term.var.toNat (i64.wrap (e7-e4.term.add)) (c:=[.val (.int .i64 (i64.wrap (e7-e4.term.add)))]) rfl) F λF=>?_
    refine zF (lK mY s3.1 e4.term.var.toNat true (c:=[.val (.bool true)]) rfl) F λF=>?_
    refine zK F h (rL _ _) λw6 h=>?_
    refine fB F h (λF h=>?_) λF h=>?_
    ·exact zX (z:=vL _ (g3.1,g3.2) h zW)
    ·exact gJ h
  ·refine zK F h (rL _ _) λy5 h=>?_
   refine fB F h (λF h=>?_) λF h=>?_
   ·exact zX (z:=vL _ (g3.1,g3.2) h zW)
   ·exact gJ h
 ·intro i3 s3 g3 _ F h;try dsimp only at h
  refine zV ?_;refine zN F h () [8,74,75] (λx=>[(76,.p (.val (.int .i64 ((x.1.1:Nat):Int))))]) [18] (λx H=>[]) ?_ ?_
  ·intro i13 s13 g13 _ _ F aCb h;try dsimp only at h
   refine zI cI F h λe14 F h=>?_
   refine zK F h (adT _ _) λr15 h=>?_
   refine fB F h (λF h=>?_) λF h=>?_
   ·exact zX (z:=aCb _ () h zW)
   ·exact gJ h
  ·intro i13 s13 g13 _ F h;try dsimp only at h
   exact gJ h
theorem sV(a0:dB)(r:(List vB)×(List vB))(h:jy a0=some r):bl pw 187 [.agg (gr a0)] (λv=>v = .dH [.row 365 2 (r.1.map uX),.row 365 2 (r.2.map uX)]):=by
 refine bl.qX ?_;refine bz [] func187 ntmps187 results187 ?_;unfold jy at h;have F:=trivial;refine zE [(0,.q),(1,.q),(2,.q),(3,.q),(4,.q),(5,.q),(7,.q),(8,.q),(9,.q),(10,.q),(11,.q),(12,.q),(6,.f),(13,.f),(14,.q),(15,.q)] ?_;refine zH 1160 F h (vV _ _) λr1 h=>?_
 refine zH 1272 F h (vV _ _) λr2 h=>?_
 exact gJ h
theorem sj(a0:Types)(a1:Host)(r:ay×Int)(h:ir a0 a1=some r):bl pw 12 [.agg [.aL (a0.nodes.map aB),.aL (a0.ah.map aC)],.agg (gm a1)] (λv=>v = .dH [.agg [.row 3 1 (r.1.host.graph.nodes.map encI),.row 143 3 (r.1.host.graph.ah.map aK),.row 26 1 (r.1.host.values.map bw),.row 3 1 (r.1.nodes.map encI),.row 3 1 (r.1.ah.map encI),.p (.val (.int .i64 r.1.next))],.p (.val (.int .i64 r.2))]):=by
 refine bl.qX ?_;refine bz [] func12 ntmps12 results12 ?_;unfold ir at h;have F:=trivial;refine zK F h (qy _) λr2 h=>?_
 refine fB F h (λF h=>?_) λF h=>?_
 ·refine zK F h (qz _ _) λr3 h=>?_
  refine fB F h (λF h=>?_) λF h=>?_
  ·refine zG 1672 F h (l7 _) λr4 h=>?_
   refine zG 1704 F h (pF _ _) λr5 h=>?_
   refine zG 1784 F h (pF _ _) λr6 h=>?_
   exact gJ h
  ·exact gJ h
 ·exact gJ h
theorem gz(a0:Types)(a1:ay)(r:Int)(h:bO a0 a1=some r):aD pw 16 [.agg [.aL (a0.nodes.map aB),.aL (a0.ah.map aC)],.agg (az a1)] (λv=>v = .val (.int .i64 r)):=by
 refine aD.gW ?_;refine aF [] func16 ntmps16 results16 ?_;unfold bO at h;have F:=trivial;refine zK F h (qy _) λr2 h=>?_
 refine fB F h (λF h=>?_) λF h=>?_
 ·refine zK F h (qz _ _) λr3 h=>?_
  refine fB F h (λF h=>?_) λF h=>?_
  ·refine gx F h (λF h=>?_) λF h=>?_
   ·refine fB F h (λF h=>?_) λF h=>?_
    ·refine nv F h (λF h=>?_) λF h=>?_
     ·exact zR h
     ·refine zB F h (λF h=>?_) λF h=>?_
      ·exact zR h
      ·refine zK F h (si _ _) λr4 h=>?_
       refine fB F h (λF h=>?_) λF h=>?_
       ·refine zK F h (si _ _) λr5 h=>?_
        refine fB F h (λF h=>?_) λF h=>?_
        ·refine zV ?_;refine zN F h () [3] (λx=>[(11,.p (.val (.int .i64 ((x.1.1:Nat):Int))))]) [3] (λx H=>[]) ?_ ?_
         ·intro i6 s6 g6 _ _ F Ns6 h;try dsimp only at h
          refine eD 9 [] ?_;refine zI encI F h λe7 F h=>?_
          refine vl F h (di _ _) λr8 h=>?_
          refine zB F h (λF h=>?_) λF h=>?_
          ·exact zR h
          ·exact zX (z:=Ns6 _ () h zW)
         ·intro i6 s6 g6 _ F h;try dsimp only at h
          exact zR h
        ·exact zR h
       ·exact zR h
    ·exact zR h
   ·exact zR h
  ·exact zR h
 ·exact zR h
end
noncomputable section
theorem adi(a0:Types)(a1:Host)(r:ay×Int)(h:nP a0 a1=some r):bl pw 10 [.agg [.aL (a0.nodes.map aB),.aL (a0.ah.map aC)],.agg (gm a1)] (λv=>v = .dH [.agg [.row 3 1 (r.1.host.graph.nodes.map encI),.row 143 3 (r.1.host.graph.ah.map aK),.row 26 1 (r.1.host.values.map bw),.row 3 1 (r.1.nodes.map encI),.row 3 1 (r.1.ah.map encI),.p (.val (.int .i64 r.1.next))],.p (.val (.int .i64 r.2))]):=by
 refine bl.qX ?_;refine bz [] func10 ntmps10 results10 ?_;unfold nP at h;have F:=trivial;refine zK F h (p7 _) λr2 h=>?_
 refine fB F h (λF h=>?_) λF h=>?_
 ·refine zK F h (qZ _ _) λr4 h=>?_
  refine fB F h (λF h=>?_) λF h=>?_
  ·refine eD 10 [] ?_;refine zG 1640 F h (yz _) λr3 h=>?_
   refine zG 1672 F h (xg _ _) λr5 h=>?_
   refine zG 1720 F h (xg _ _) λr6 h=>?_
   exact gJ h
  ·exact gJ h
 ·exact gJ h
theorem oO(a0:List fI)(p1:fI->Option Bool)(k1:FuncId)(xV xW:List PV)(hp1:∀x0 r,p1 x0=some r->aD pw k1 (xV++[.agg (bQ x0)]++xW) (λv=>v = .val (.bool r)))(r:Bool)(h:jb a0 p1=some r):aD pw 277 [.aL (a0.map bQ),.jk (.func k1) xV xW] (λv=>v = .val (.bool r)):=by
 refine aD.gW ?_;refine aF [] func277 ntmps277 results277 ?_;unfold jb at h;have F:=trivial;refine zK F h (yA _ p1 k1 xV xW hp1) λr2 h=>?_
 exact zR h
theorem aic(a0:Types)(a1:bE)(a2:List Int)(a3:List Int)(r:Bool)(h:vP a0 a1 a2 a3=some r):aD pw 180 [.agg [.aL (a0.nodes.map aB),.aL (a0.ah.map aC)],.agg [.aL (a1.nodes.map encI),.aL (a1.ah.map aK)],.aL (a2.map encI),.aL (a3.map encI)] (λv=>v = .val (.bool r)):=by
 refine aD.gW ?_;refine aF [] func180 ntmps180 results180 ?_;unfold vP at h;have F:=trivial;refine zK F h (fL _ (λx4=>o6 x4 (⟨a0.nodes,a0.ah⟩:Types) (⟨a1.nodes,a1.ah⟩:bE)) 227 [] [.ez [.aL (((⟨a0.nodes,a0.ah⟩:Types).nodes).map aB),.aL (((⟨a0.nodes,a0.ah⟩:Types).ah).map aC)] 0,.ez [.aL (((⟨a1.nodes,a1.ah⟩:bE).nodes).map encI),.aL (((⟨a1.nodes,a1.ah⟩:bE).ah).map aK)] 0] (λx4 r h=>afB x4 (⟨a0.nodes,a0.ah⟩:Types) (⟨a1.nodes,a1.ah⟩:bE) r h)) λr5 h=>?_
 refine nv F h (λF h=>?_) λF h=>?_
 ·exact zR h
 ·refine zK F h (fL _ (λx6=>o7 x6 a1 (⟨a0.nodes,a0.ah⟩:Types)) 228 [] [.ez [.aL (a1.nodes.map encI),.aL (a1.ah.map aK)] 0,.ez [.aL (((⟨a0.nodes,a0.ah⟩:Types).nodes).map aB),.aL (((⟨a0.nodes,a0.ah⟩:Types).ah).map aC)] 0] (λx6 r h=>afC x6 a1 (⟨a0.nodes,a0.ah⟩:Types) r h)) λr7 h=>?_
  exact zR h
theorem fu(a0:List aT)(p1:aT->Option Bool)(k1:FuncId)(xV xW:List PV)(hp1:∀x0 r,p1 x0=some r->aD pw k1 (xV++[.agg (aX x0)]++xW) (λv=>v = .val (.bool r)))(r:Bool)(h:dc a0 p1=some r):aD pw 322 [.aL (a0.map aX),.jk (.func k1) xV xW] (λv=>v = .val (.bool r)):=by
 refine aD.gW ?_;refine aF [] func322 ntmps322 results322 ?_;unfold dc at h;have F:=trivial;refine zK F h (uC _ p1 k1 xV xW hp1) λr2 h=>?_
 exact zR h
theorem aid(a0:Types)(r:(List (List Bool)))(h:vQ a0=some r):bl pw 235 [.agg [.aL (a0.nodes.map aB),.aL (a0.ah.map aC)]] (λv=>v = .row 287 1 (r.map sK)):=by
 refine bl.qX ?_;refine bz [19,39] func235 ntmps235 results235 ?_;unfold vQ at h;have F:=trivial;refine zV ?_;refine zN F h (0:Nat) [1,12] (λx=>[(3,.row 3182 x.2),(13,.p (.val (.int .i64 ((x.1.1:Nat):Int))))]) [1] (λx H=>[(3182,.row x.2 287 1 (x.1.2.map sK))]) ?_ ?_ (hw:=by refine c8.trans (jm 3 3182 287 1 rfl rfl (by decide)) ?_;exact zW)
 ·intro i1 s1 g1 _ _ F Ns1 h;try dsimp only at h
  refine zC F h λF h=>?_
  refine zF (eq_true (show ((a0.nodes.length:Nat):Int) * ((1:Nat):Int)<=140737488355328 by omega)) F λF=>?_
  refine zF (eq_true (show (0:Int)<=((a0.nodes.length:Nat):Int) by omega)) F λF=>?_
  refine zF (acq mY a0.nodes.length false (c:=[.val (.bool false)]) rfl) F λF=>?_
  refine zG 1368 F h (ajj _ _) λr2 h=>?_
  refine zV ?_;refine zN F h (0:Nat) [1,3,12,13,26,27] (λx=>[(5,.row 19 x.2),(28,.p (.val (.int .i64 ((x.1.1:Nat):Int))))]) [1,3182,1368] (λx H=>[(19,.row x.2 4 1 (x.1.2.map mY))]) ?_ ?_
  ·intro i3 s3 g3 _ _ F vL h;try dsimp only at h
   refine zI encI F h λe4 F h=>?_
   refine zA mY F h λe5 F h=>?_
   refine zF (lK mY s3 e4.toNat true (c:=[.val (.bool true)]) rfl) F λF=>?_
   exact zX (z:=vL _ g3 h zW)
  ·intro i3 s3 g3 _ F h;try dsimp only at h
   refine zC F h λF h=>?_
   refine dz (s1.length+1) 24 F λF=>?_
   refine zF (bt sK s1 [s3] (c:=[[.aL (s3.map mY)]]) rfl) F λF=>?_
   exact zX (z:=Ns1 _ (g1+1) h zW)
 ·intro i1 s1 g1 _ F h;try dsimp only at h
  exact gJ h
theorem wB(n:Nat):∀ (a0:jQ) (a1:aT) (a2:dF) (r:gn×Int) (h:fN n a0 a1 a2=some r),aD pw 240 [.agg (kX a0),.agg (aX a1),.agg (iL a2)] (λv=>v = .dH [.agg (jJ r.1),.val (.int .i64 r.2)]):=by
 induction n with
 |zero=>intro a0 a1 a2 r h;cases h
 |succ n ih =>
 intro a0 a1 a2 r h;refine aD.gW ?_;refine aF [66,91] func240 ntmps240 results240 ?_;unfold fN at h;have F:=trivial;refine zB F h (λF h=>?_) λF h=>?_
 ·refine eD 9 [.o,.w,.s,.q] ?_;refine zJ 0 aX F h λe3 F h=>?_
  refine vl F h (ih _ _ _) λr4 h=>?_
  refine zB F h (λF h=>?_) λF h=>?_
  ·exact zR h
  ·refine zB F h (λF h=>?_) λF h=>?_
   ·exact zR h
   ·exact zR h
 ·refine zB F h (λF h=>?_) λF h=>?_
  ·refine zV ?_;refine zN F h (0:Nat) [3,5,6,10,45,46] (λx=>[(47,.p (.val (.int .i64 ((x.1.1:Nat):Int))))]) [3,5,6] (λx H=>[(10,bx (H 10) [(4,.row 4177 x.2)]),(4177,.row x.2 253 5 (x.1.2.map jJ))]) ?_ ?_ (hw:=by refine c8.trans (bK 10 4 4177 253 5 _ rfl rfl rfl (by decide)) ?_;exact zW)
   ·intro i5 s5 g5 _ _ F Ns5 h;try dsimp only at h
    refine zI aX F h λe6 F h=>?_
    refine zK F h (ih _ _ _) λr7 h=>?_
    refine fB F h (λF h=>?_) λF h=>?_
    ·refine zC F h λF h=>?_
     refine dz (s5.length+1) 104 F λF=>?_
     refine zF (bt jJ s5 [r7.1] (c:=[[.val (.int .i64 r7.1.choice),.aL (r7.1.tN.ee.nodes.map encI),.aL (r7.1.tN.ee.ah.map encI),.aL (r7.1.tN.vars.map encI),.aL (r7.1.kids.map jJ)]]) (by simp only[map_cons,map_nil,oJ])) F λF=>?_
     exact zX (z:=Ns5 _ (g5+1) h zW)
    ·exact zR h
   ·intro i5 s5 g5 _ F h;try dsimp only at h
    exact zR h
  ·refine zB F h (λF h=>?_) λF h=>?_
   ·refine zV ?_;refine zN F h () [3,5,6,73,74] (λx=>[(75,.p (.val (.int .i64 ((x.1.1:Nat):Int))))]) [3,5,6] (λx H=>[]) ?_ ?_
    ·intro i8 s8 g8 _ _ F Ns8 h;try dsimp only at h
     refine zI aX F h λe9 F h=>?_
     refine zK F h (ih _ _ _) λtT h=>?_
     refine zB F h (λF h=>?_) λF h=>?_
     ·exact zR h
     ·refine fB F h (λF h=>?_) λF h=>?_
      ·exact zX (z:=Ns8 _ () h zW)
      ·exact zR h
    ·intro i8 s8 g8 _ F h;try dsimp only at h
     exact zR h
   ·refine zB F h (λF h=>?_) λF h=>?_
    ·refine zK F h (vT _ _ _) λw6 h=>?_
     exact zR h
    ·exact zR h
end
noncomputable section
theorem afE(a0:Int)(a1:iT)(r:Int)(h:sP a0 a1=some r):aD pw 273 [.val (.int .i64 a0),.agg (cI a1)] (λv=>v = .val (.int .i64 r)):=by
 refine aD.gW ?_;refine aF [] func273 ntmps273 results273 ?_;unfold sP at h;have F:=trivial;refine nv F h (λF h=>?_) λF h=>?_
 ·refine zK F h (ot _ _) λr2 h=>?_
  refine gx F h (λF h=>?_) λF h=>?_
  ·refine zK F h (ot _ _) λr3 h=>?_
   refine fB F h (λF h=>?_) λF h=>?_
   ·exact zR h
   ·exact zR h
  ·exact zR h
 ·refine fB F h (λF h=>?_) λF h=>?_
  ·refine zK F h (ot _ _) λr4 h=>?_
   refine gx F h (λF h=>?_) λF h=>?_
   ·refine zK F h (ot _ _) λr5 h=>?_
    refine fB F h (λF h=>?_) λF h=>?_
    ·exact zR h
    ·exact zR h
   ·exact zR h
  ·exact zR h
theorem aaO(a0:Host)(r:Bool)(h:js a0=some r):aD pw 69 [.agg (gm a0)] (λv=>v = .val (.bool r)):=by
 refine aD.gW ?_;refine aF [] func69 ntmps69 results69 ?_;unfold js at h;have F:=trivial;refine zK F h (aaM _) λr1 h=>?_
 refine gx F h (λF h=>?_) λF h=>?_
 ·refine zB F h (λF h=>?_) λF h=>?_
  ·exact zR h
  ·refine zV ?_;refine zN F h () [1] (λx=>[(3,.p (.val (.int .i64 ((x.1.1:Nat):Int))))]) [1] (λx H=>[]) ?_ ?_
   ·intro i2 s2 g2 _ _ F jL h;try dsimp only at h
    refine zI bw F h λe3 F h=>?_
    refine zB F h (λF h=>?_) λF h=>?_
    ·exact zR h
    ·exact zX (z:=jL _ () h zW)
   ·intro i2 s2 g2 _ F h;try dsimp only at h
    exact zR h
 ·exact zR h
theorem pG(a0:ay)(a1:ay)(r:(List aj)×(List ax))(h:fP a0 a1=some r):bl pw 90 [.agg (az a0),.agg (az a1)] (λv=>v = .dH [.row 96 3 (r.1.map ag),.row 125 4 (r.2.map ak)]):=by
 refine bl.qX ?_;refine bz [31,53] func90 ntmps90 results90 ?_;unfold fP at h;have F:=trivial;refine zV ?_;refine zN F h (0:Nat) [2,3,7] (λx=>[(6,.row 7397 x.2),(8,.p (.val (.int .i64 ((x.1.1:Nat):Int))))]) [2,3] (λx H=>[(7397,.row x.2 96 3 (x.1.2.map ag))]) ?_ ?_ (hw:=by refine c8.trans (jm 6 7397 96 3 rfl rfl (by decide)) ?_;exact zW)
 ·intro i2 s2 g2 _ _ F jL h;try dsimp only at h
  refine eD 9 [] ?_;refine zI encI F h λe3 F h=>?_
  refine vl F h (di _ _) λr4 h=>?_
  refine zB F h (λF h=>?_) λF h=>?_
  ·refine zG 1464 F h (rM _ _) λr5 h=>?_
   refine zC F h λF h=>?_
   refine dz (s2.length+1) 40 F λF=>?_
   refine zF (bt ag s2 [r5] (c:=[[.val (.int .i64 r5.id),.val (.int .i64 r5.type),.aL (r5.values.map encI)]]) rfl) F λF=>?_
   exact zX (z:=jL _ (g2+1) h zW)
  ·exact zX (z:=jL _ g2 h zW)
 ·intro i2 s2 g2 _ F h;try dsimp only at h
  refine zV ?_;refine zN F h (0:Nat) [2,3,6] (λx=>[(7,.row 7427 x.2),(9,.p (.val (.int .i64 ((x.1.1:Nat):Int))))]) [2,3,7397] (λx H=>[(7427,.row x.2 125 4 (x.1.2.map ak))]) ?_ ?_ (hw:=by refine c8.trans (jm 7 7427 125 4 rfl rfl (by decide)) ?_;exact zW)
  ·intro i6 s6 g6 _ _ F Ns6 h;try dsimp only at h
   refine eD 9 [] ?_;refine zI encI F h λe7 F h=>?_
   refine vl F h (di _ _) λr8 h=>?_
   refine zB F h (λF h=>?_) λF h=>?_
   ·refine zK F h (kz _ _) λr9 h=>?_
    refine zC F h λF h=>?_
    refine dz (s6.length+1) 32 F λF=>?_
    refine zF (bt ak s6 [r9] (c:=[[.val (.int .i64 r9.id),.val (.int .i64 r9.type),.val (.int .i64 r9.src),.val (.int .i64 r9.dst)]]) rfl) F λF=>?_
    exact zX (z:=Ns6 _ (g6+1) h zW)
   ·exact zX (z:=Ns6 _ g6 h zW)
  ·intro i6 s6 g6 _ F h;try dsimp only at h
   exact gJ h
theorem oP(a0:aj)(a1:aj)(r:Bool)(h:fE a0 a1=some r):aD pw 91 [.agg (ag a0),.agg (ag a1)] (λv=>v = .val (.bool r)):=by
 refine aD.gW ?_;refine aF [] func91 ntmps91 results91 ?_;unfold fE at h;have F:=trivial;refine gx F h (λF h=>?_) λF h=>?_
 ·refine gx F h (λF h=>?_) λF h=>?_
  ·refine zK F h (jg _ _) λr2 h=>?_
   exact zR h
  ·exact zR h
 ·exact zR h
theorem wC(a0:aQ)(r:Int)(h:gZ a0=some r):aD pw 97 [.agg (aJ a0)] (λv=>v = .val (.int .i64 r)):=by
 refine aD.gW ?_;refine aF [] func97 ntmps97 results97 ?_;unfold gZ at h;have F:=trivial;refine nv F h (λF h=>?_) λF h=>?_
 ·exact zR h
 ·refine nv F h (λF h=>?_) λF h=>?_
  ·exact zR h
  ·refine nv F h (λF h=>?_) λF h=>?_
   ·exact zR h
   ·refine nv F h (λF h=>?_) λF h=>?_
    ·exact zR h
    ·refine zB F h (λF h=>?_) λF h=>?_
     ·exact zR h
     ·refine zK F h (mM _) λr1 h=>?_
      refine gx F h (λF h=>?_) λF h=>?_
      ·refine zK F h (mN _) λr2 h=>?_
       refine gx F h (λF h=>?_) λF h=>?_
       ·refine zK F h (mM _) λr3 h=>?_
        refine gx F h (λF h=>?_) λF h=>?_
        ·refine zK F h (mN _) λr4 h=>?_
         refine gx F h (λF h=>?_) λF h=>?_
         ·refine zK F h (rW _) λr5 h=>?_
          refine fB F h (λF h=>?_) λF h=>?_
          ·exact zR h
          ·exact zR h
         ·exact zR h
        ·exact zR h
       ·exact zR h
      ·exact zR h
theorem qa(a0:ay)(r:aH)(h:fe a0=some r):bl pw 98 [.agg (az a0)] (λv=>v = .agg [.row 96 3 (r.nodes.map ag),.row 125 4 (r.ah.map ak)]):=by
 refine bl.qX ?_;refine bz [19,34] func98 ntmps98 results98 ?_;unfold fe at h;have F:=trivial;refine zV ?_;refine zN F h (0:Nat) [1,2,3] (λx=>[(4,.p (.val (.int .i64 ((x.1.1:Nat):Int))))]) [1,2] (λx H=>[(3,bx (H 3) [(0,.row 8165 x.2)]),(8165,.row x.2 96 3 (x.1.2.map ag))]) ?_ ?_ (hw:=by refine c8.trans (bK 3 0 8165 96 3 _ rfl rfl rfl (by decide)) ?_;exact zW)
 ·intro i1 s1 g1 _ _ F Ns1 h;try dsimp only at h
  refine zE [(0,.p),(2,.q),(3,.q),(4,.q),(5,.p),(1,.q),(6,.w),(7,.q),(8,.w)] ?_;refine zTd F h (rM _ _) λr2 h=>?_
  refine zC F h λF h=>?_
  refine dz (s1.length+1) 40 F λF=>?_
  refine zF (bt ag s1 [r2] (c:=[[.val (.int .i64 r2.id),.val (.int .i64 r2.type),.aL (r2.values.map encI)]]) rfl) F λF=>?_
  exact zX (z:=Ns1 _ (g1+1) h zW)
 ·intro i1 s1 g1 _ F h;try dsimp only at h
  refine zV ?_;refine zN F h (0:Nat) [1,2,3] (λx=>[(5,.p (.val (.int .i64 ((x.1.1:Nat):Int))))]) [1,2,8165] (λx H=>[(3,bx (H 3) [(1,.row 8202 x.2)]),(8202,.row x.2 125 4 (x.1.2.map ak))]) ?_ ?_ (hw:=by refine c8.trans (bK 3 1 8202 125 4 _ rfl rfl rfl (by decide)) ?_;exact zW)
  ·intro i3 s3 g3 _ _ F vL h;try dsimp only at h
   refine zE [(0,.p),(2,.q),(3,.q),(4,.q),(5,.p),(1,.q),(6,.w),(7,.q),(8,.w)] ?_;refine vl F h (kz _ _) λr4 h=>?_
   refine zC F h λF h=>?_
   refine dz (s3.length+1) 32 F λF=>?_
   refine zF (bt ak s3 [r4] (c:=[[.val (.int .i64 r4.id),.val (.int .i64 r4.type),.val (.int .i64 r4.src),.val (.int .i64 r4.dst)]]) rfl) F λF=>?_
   exact zX (z:=vL _ (g3+1) h zW)
  ·intro i3 s3 g3 _ F h;try dsimp only at h
   exact gJ h
end
noncomputable section
theorem afF(a0:Types)(a1:bL)(a2:fI)(r:Attr×Bool)(h:sO a0 a1 a2=some r):aD pw 218 [.agg [.aL (a0.nodes.map aB),.aL (a0.ah.map aC)],.agg (fc a1),.agg (bQ a2)] (λv=>v = .dH [.agg (aS r.1),.val (.bool r.2)]):=by
 refine aD.gW ?_;refine aF [] func218 ntmps218 results218 ?_;unfold sO at h;have F:=trivial;refine zK F h (kU _ _ _) λr3 h=>?_
 refine fB F h (λF h=>?_) λF h=>?_
 ·refine eD 14 [] ?_;refine zA encI F h λe4 F h=>?_
  refine vl F h (xP _ _) λr5 h=>?_
  refine zK F h (kU _ _ _) λr6 h=>?_
  refine fB F h (λF h=>?_) λF h=>?_
  ·refine zA aS F h λe7 F h=>?_
   exact zR h
  ·exact zR h
 ·exact zR h
theorem z8(a0:List Bool)(a1:Bool)(r:Bool)(h:nw a0 a1=some r):aD pw 220 [.aL (a0.map mY),.val (.bool a1)] (λv=>v = .val (.bool r)):=by
 refine aD.gW ?_;refine aF [] func220 ntmps220 results220 ?_;unfold nw at h;have F:=trivial;refine zK F h (acH _ _) λr2 h=>?_
 exact zR h
theorem nJ(a0:aY)(a1:aY)(r:Bool)(h:j6 a0 a1=some r):aD pw 196 [.agg [.aL (a0.nodes.map encI),.aL (a0.ah.map encI)],.agg [.aL (a1.nodes.map encI),.aL (a1.ah.map encI)]] (λv=>v = .val (.bool r)):=by
 refine aD.gW ?_;refine aF [] func196 ntmps196 results196 ?_;unfold j6 at h;have F:=trivial;refine zK F h (dR _ _) λr2 h=>?_
 refine gx F h (λF h=>?_) λF h=>?_
 ·refine zK F h (dR _ _) λr3 h=>?_
  exact zR h
 ·exact zR h
theorem abE(a0:Host)(a1:Host)(r:Bool)(h:tU a0 a1=some r):aD pw 67 [.agg (gm a0),.agg (gm a1)] (λv=>v = .val (.bool r)):=by
 refine aD.gW ?_;refine aF [] func67 ntmps67 results67 ?_;unfold tU at h;have F:=trivial;refine zK F h (dR _ _) λr2 h=>?_
 refine gx F h (λF h=>?_) λF h=>?_
 ·refine zK F h (pS _ _) λr3 h=>?_
  refine gx F h (λF h=>?_) λF h=>?_
  ·refine zK F h (yy _ _ (λx4 x5=>cK x4 x5) 31 [] [] (λx4 x5 r h=>dR x4 x5 r h)) λr6 h=>?_
   exact zR h
  ·exact zR h
 ·exact zR h
theorem yC(a0:ay)(a1:ay)(r:Bool)(h:iP a0 a1=some r):aD pw 89 [.agg (az a0),.agg (az a1)] (λv=>v = .val (.bool r)):=by
 refine aD.gW ?_;refine aF [] func89 ntmps89 results89 ?_;unfold iP at h;have F:=trivial;refine zV ?_;refine zN F h () [2,3] (λx=>[(5,.p (.val (.int .i64 ((x.1.1:Nat):Int))))]) [2,3] (λx H=>[]) ?_ ?_
 ·intro i2 s2 g2 _ _ F jL h;try dsimp only at h
  refine eD 9 [] ?_;refine zI encI F h λe3 F h=>?_
  refine vl F h (di _ _) λr4 h=>?_
  refine eD 30 [] ?_;refine vl F h (di _ _) λr5 h=>?_
  refine arn F h (λF h=>?_) λF h=>?_
  ·exact zR h
  ·refine zBd F h (λF h=>?_) λF h=>?_
   ·refine zI encI F h λe6 F h=>?_
    refine zA encI F h λe7 F h=>?_
    refine fB F h (λF h=>?_) λF h=>?_
    ·exact zX (z:=jL _ () h zW)
    ·exact zR h
   ·exact zX (z:=jL _ () h zW)
 ·intro i2 s2 g2 _ F h;try dsimp only at h
  refine zV ?_;refine zN F h () [2,3] (λx=>[(7,.p (.val (.int .i64 ((x.1.1:Nat):Int))))]) [2,3] (λx H=>[]) ?_ ?_
  ·intro i8 s8 g8 _ _ F Ns8 h;try dsimp only at h
   refine eD 9 [] ?_;refine zI encI F h λe9 F h=>?_
   refine vl F h (di _ _) λtT h=>?_
   refine eD 22 [] ?_;refine vl F h (di _ _) λw6 h=>?_
   refine arn F h (λF h=>?_) λF h=>?_
   ·exact zR h
   ·refine zBd F h (λF h=>?_) λF h=>?_
    ·refine vl F h (kz _ _) λy5 h=>?_
     refine vl F h (kz _ _) λr13 h=>?_
     refine fB F h (λF h=>?_) λF h=>?_
     ·exact zX (z:=Ns8 _ () h zW)
     ·exact zR h
    ·exact zX (z:=Ns8 _ () h zW)
  ·intro i8 s8 g8 _ F h;try dsimp only at h
   exact zR h
theorem nh(a0:aQ)(r:aQ)(h:eP a0=some r):bl pw 22 [.agg (aJ a0)] (λv=>v = .agg [.row 96 3 (r.aG.map ag),.row 125 4 (r.aM.map ak),.row 96 3 (r.aV.map ag),.row 125 4 (r.bn.map ak),.row 116 4 (r.values.map aP),.p (.val (.int .i64 r.next.x0)),.p (.val (.int .i64 r.next.x1))]):=by
 refine bl.qX ?_;refine bz [6,9,13,16,17,20] func22 ntmps22 results22 ?_;unfold eP at h;have F:=trivial;refine zE [(0,.q),(1,.q),(4,.q),(5,.q),(7,.b),(8,.b),(11,.b),(12,.b),(15,.b),(16,.b),(18,.b),(19,.b),(2,.f),(3,.w),(6,.s),(9,.f),(10,.w),(13,.s),(14,.w),(17,.s),(20,.q),(21,.w)] ?_;refine zH 1080 F h (ng _) λr1 h=>?_
 refine zC F h λF h=>?_
 refine dz a0.aM.length 32 F λF=>?_
 refine zF (eq_true (gN (n:=4) (f:=ak) (λ_=>rfl) a0.aM)) F λF=>?_
 refine zH 1192 F h (ng _) λr2 h=>?_
 refine zC F h λF h=>?_
 refine dz a0.bn.length 32 F λF=>?_
 refine zF (eq_true (gN (n:=4) (f:=ak) (λ_=>rfl) a0.bn)) F λF=>?_
 refine zC F h λF h=>?_
 refine dz a0.values.length 32 F λF=>?_
 refine zF (eq_true (gN (n:=4) (f:=aP) (λ_=>rfl) a0.values)) F λF=>?_
 exact gJ h
theorem xm(a0:Types)(a1:ay)(a2:aQ)(r:aQ×Int)(h:ij a0 a1 a2=some r):bl pw 27 [.agg [.aL (a0.nodes.map aB),.aL (a0.ah.map aC)],.agg (az a1),.agg (aJ a2)] (λv=>v = .dH [.agg [.row 96 3 (r.1.aG.map ag),.row 125 4 (r.1.aM.map ak),.row 96 3 (r.1.aV.map ag),.row 125 4 (r.1.bn.map ak),.row 116 4 (r.1.values.map aP),.p (.val (.int .i64 r.1.next.x0)),.p (.val (.int .i64 r.1.next.x1))],.p (.val (.int .i64 r.2))]):=by
 refine bl.qX ?_;refine bz [66] func27 ntmps27 results27 ?_;unfold ij at h;have F:=trivial;refine zK F h (j8 _ _ _) λr3 h=>?_
 refine fB F h (λF h=>?_) λF h=>?_
 ·refine zE [(0,.q),(1,.q),(2,.q),(4,.q),(5,.q),(7,.q),(8,.q),(9,.q),(11,.q),(12,.q),(14,.q),(15,.q),(16,.q),(17,.q),(18,.q),(19,.q),(3,.f),(6,.f),(10,.f),(13,.f),(20,.q),(21,.q),(22,.w),(23,.s)] ?_;refine eU ((0:Int)<=1) F λF=>?_
  refine eU ((1:Int)<((2:Nat):Int)) F λF=>?_
  refine eU ((0:Int)<=0) F λF=>?_
  refine eU ((0:Int)<((2:Nat):Int)) F λF=>?_
  refine zH 1448 F h (uR _) λr4 h=>?_
  refine zH 1496 F h (p9 _) λr5 h=>?_
  refine zH 1560 F h (uR _) λr6 h=>?_
  refine zH 1608 F h (p9 _) λr7 h=>?_
  refine zV ?_;refine zN F h (0:Nat) [6,11,48,49] (λx=>[(50,.p (.val (.int .i64 ((x.1.1:Nat):Int))))]) [6,1448,1496,1560,1608] (λx H=>[(11,bx (H 11) [(4,.row 14670 x.2)]),(14670,.row x.2 116 4 (x.1.2.map aP))]) ?_ ?_ (hw:=by refine c8.trans (bK 11 4 14670 116 4 _ rfl rfl rfl (by decide)) ?_;exact zW)
  ·intro i8 s8 g8 _ _ F Ns8 h;try dsimp only at h
   refine zI aP F h λe9 F h=>?_
   refine zC F h λF h=>?_
   refine dz (s8.length+1) 32 F λF=>?_
   refine zF (bt aP s8 [(⟨e9.id,e9.attr,e9.new,e9.old⟩:aO)] (c:=[[.val (.int .i64 e9.id),.val (.int .i64 e9.attr),.val (.int .i64 e9.new),.val (.int .i64 e9.old)]]) rfl) F λF=>?_
   exact zX (z:=Ns8 _ (g8+1) h zW)
  ·intro i8 s8 g8 _ F h;try dsimp only at h
   exact gJ h
 ·exact gJ h
end
end Go.Proofs.YteambpeibacfpaaGreat
