/- Joined texts, part 6: lemmas for the statement. No condition. -/
import Derived.Test.YtnnpmiiegnedeaaGreatJ5
import Derived.Test.YtnnpmiiegnedeaaGreatJ4
import Derived.LoopTactic
import Derived.Shelf.Abstract
import Derived.Maps.OwnIn
import Derived.Maps.AppendAt
import Derived.RowKit3
import Derived.Carry
import Derived.WalkKit
import Derived.Maps.RangeRun
import Derived.Test.YtnnpmiiegnedeaaGreatJ3
set_option maxHeartbeats 4000000
set_option linter.unusedSimpArgs false
set_option linter.unusedVariables false
open Nat (reduceEqDiff reduceLT reduceLeDiff reduceMul reduceAdd reduceSub)
open Go.IntKind (i64)
open Go.Proofs.Tryz
open Go.Proofs.Tryz renaming prog → pw
set_option maxRecDepth 20000
namespace Go.Proofs.YtnnpmiiegnedeaaGreat
open Go.cv
theorem KJ(k:Nat):∀ (es:List (List PV)) (a:Nat->Value) (i:Nat),(fO k a es).drop i=fO k (λj=>a (j+i)) (es.drop i)
 | [],a,i=>by simp[fO]
 |x :: r,a,0=>by simp
 |x :: r,a,i+1=>by simp only[fO,List.drop_succ_cons];rw[KJ k r _ i];rfl
theorem KK(k:Nat):∀ (es b:List (List PV)) (a:Nat->Value),fO k a (es++b)=fO k a es++fO k (λj=>a (j+es.length)) b
 | [],b,a=>by simp[fO]
 |x :: r,b,a=>by simp only[List.cons_append,fO,List.length_cons];rw[KK k r b];rfl
theorem KL(k:Nat):∀ (es:List (List PV)) (a:Nat->Value) (i:Nat),(fO k a es).take i=fO k a (es.take i)
 | [],a,i=>by simp[fO]
 |x :: r,a,0=>by simp[fO]
 |x :: r,a,i+1=>by simp only[fO,List.take_succ_cons,KL k r]
theorem amV(k:Nat)(es:List (List PV))(a:Nat->Value)(i:Nat)(c:i<es.length):(fO k a es).take i++(fO k a es).drop (i+1)=fO k (λj=>a (if j<i then j else j+1)) (es.take i++es.drop (i+1)):=by
 rw[KL,KJ,KK];have hl:(es.take i).length=i:=by simp;omega
 rw[hl];congr 1
 ·exact v7 k _ _ _ λj b=>by rw[if_pos (by omega)]
 ·exact v7 k _ _ _ λj b=>by rw[if_neg (by omega)];rfl
theorem au6{α:Type}(es:List α)(i:Nat)(b:i<es.length)(j:Nat)(a:j<(es.take i++es.drop (i+1)).length):(if j<i then j else j+1)<es.length/\(es.take i++es.drop (i+1))[j]? = es[if j<i then j else j+1]?:=by
 have hl:(es.take i).length=i:=by simp;omega
 rw[List.length_append,hl,List.length_drop] at a;by_cases h:j<i
 ·rw[if_pos h,List.getElem?_append_left (by omega),List.getElem?_take,if_pos h];exact⟨by omega,rfl⟩
 ·rw[if_neg h,List.getElem?_append_right (by omega),hl,List.getElem?_drop,show i+1+(j-i)=j+1 by omega];exact⟨by omega,rfl⟩
theorem au7(i:Nat){j k:Nat}(h:(if j<i then j else j+1)=(if k<i then k else k+1)):j=k:=by split at h<;>split at h<;>omega
def h9(l:List ah)(v:Nat)(m:List au)(u:Nat):List (Nat×Chunk):=[(1000000,.box [.eY 1000001 v,.row 1000002 u]),(1000001,.deep v 86 3 2 3 1 (l.map ag)),(1000002,.row u 88 4 (m.map aj))]
theorem au8(p:aH)(l:List ah)(m:List au)(v u:Nat)(hl:l.length<=1000000)(U:m.length<=1000000)(Y:∀n∈l,n.values.length<=1000000)(Z:p.ax.length<=1000000)(h2:p.aA.length<=1000000)(P:∀n∈p.ax,n.values.length<=1000000)
  (R:Bool×List ah×Nat) (Q:mA l p.ax v=R) (S:Bool×List au×Nat) (T:ot m p.aA u=S) :
  Av pw 176 (cg (h9 l v m u)) [.ptr 1000000 0,.p (.agg (aF p))] λa H=>oJ a (.p (.val (.bool (R.1&&S.1))))/\o6 H (h9 R.2.1 R.2.2 (if R.1 then S.2.1 else m) (if R.1 then S.2.2 else u)):=by
 refine F0 [] Ty.mixed func176 rfl (by kernel_rfl) (by simp[ntmps176]) ?_;rw[ntmps176,results176];simp only[go_sem,aF,h9];refine bL (σ:=Nat×List ah×Nat) (λx=>(cK (cK (cK (cK (cK gv 0 (.ptr 1000000 0)) 3 (.ptr 3 0)) 12 (.p (.aV (p.ax.map ag)))) 13 (.p (.val (.int .i64 p.ax.length)))) 14 (.p (.val (.int .i64 x.1))))) (λx=>(bn (bn (bn (bn cu 3 (.box [.p (.aV (p.ax.map ag)),.p (.aV (p.aA.map aj)),.p (.aV (p.aP.map ag)),.p (.aV (p.aM.map aj)),.p (.aV (p.values.map aI)),.p (.val (.int .i64 p.next.x0)),.p (.val (.int .i64 p.next.x1))])) 1000000 (.box [.eY 1000001 x.2.2,.row 1000002 u])) 1000001 (.deep x.2.2 86 3 2 3 1 (x.2.1.map ag))) 1000002 (.row u 88 4 (m.map aj))))
  (λx=>x.1<=p.ax.length/\mA x.2.1 (p.ax.drop x.1) x.2.2=R/\x.2.1.length<=1000000/\∀n∈x.2.1,n.values.length<=1000000) (λx=>p.ax.length-x.1) (0,l,v) ⟨Nat.zero_le _,Q,hl,Y⟩ bY ?_
 rintro⟨t,l',A⟩ ⟨I,c,L,B⟩;simp only at I c L B;simp only[go_sem];refine aK (λr=>?_) (λr=>?_)
 ·have e:t<p.ax.length:=by have:=b6 r;omega
  have D:p.ax.drop t=p.ax.getD t default :: p.ax.drop (t+1):=by rw[List.drop_eq_getElem_cons e];simp[e]
  rw[D,mA] at c;simp only[go_sem,getD_map ag e,ag];refine⟨e,?_⟩;refine dB [.p,.q,.q,.q,.q,.q,.q,.p] (by kernel_rfl) ?_;simp only[go_sem];refine jV (Gk l' L (p.ax.getD t default).id) (by simp only[go_sem]<;>rfl) (cc rfl) ?_;simp only[go_sem];cases g:l'.findIdx? λm=>decide (m.id=(p.ax.getD t default).id) with
  |none =>
   rw[g] at c;simp only at c;have o:idxOf (λn:ah=>decide (n.id=(p.ax.getD t default).id)) l' = -1:=by unfold idxOf;rw[g]
   simp only[go_sem,o];refine dB [.p,.p,.p,.p,.p,.q,.q,.p,.q,.q,.q,.q,.p,.p] (by kernel_rfl) ?_;have E:decide ((-1:Int)<0)=true:=by decide
   simp only[go_sem,E];subst c;simp only[go_sem]
  |some i =>
   rw[g] at c;simp only at c;have o:idxOf (λn:ah=>decide (n.id=(p.ax.getD t default).id)) l'=(i:Int):=by unfold idxOf;rw[g]
   have b:i<l'.length:=by rw[List.findIdx?_eq_some_iff_getElem] at g;exact g.1
   simp only[go_sem,o];refine dB [.p,.p,.p,.p,.p,.q,.q,.p,.q,.q,.q,.q,.p,.p] (by kernel_rfl) ?_;have F:decide ((i:Int)<0)=false:=gA (by omega);simp only[go_sem,F,getD_map ag b,ag];refine⟨b,b,?_⟩;have V:l'.getD i default∈l':=by simp[b]
   have W:p.ax.getD t default∈p.ax:=by simp[e]
   have X:=aCn (l'.getD i default) (p.ax.getD t default) (B _ V) (P _ W);refine jV (X) (by simp only[go_sem,getD_map ag b,ag]<;>rfl) (cc rfl) ?_;simp only[go_sem,getD_map ag b,ag];refine aW (λs=>?_) (λs=>?_)
   ·rw[if_pos s] at c;simp only[go_sem,bz b (by omega),getD_map ag b,ag];have z:(l'.map ag).take i++(l'.map ag).drop (i+1)=(l'.take i++l'.drop (i+1)).map ag:=by rw[List.map_append,List.map_take,List.map_drop]
    have K:=au6 (l'.map ag) i (by rw[List.length_map];exact b);rw[z] at K;refine Yp (λj=>if j<i then j else j+1) (es':=(l'.take i++l'.drop (i+1)).map ag) (λJ _=>by
     have w:=ZH (fO 2 J (l'.map ag)) i (i+1) A (by omega) (by rw[fV,List.length_map];omega) (by rw[fV,List.length_map];omega);rw[amV 2 _ J i (by rw[List.length_map];exact b),z] at w;exact w) K (λj k _ _ h=>au7 i h) (by simp only[go_sem,getD_map ag b,ag]<;>rfl) (by simp only[go_sem,getD_map ag b,ag]<;>rfl) (by simp only[go_sem,getD_map ag b,ag]<;>rfl) ?_
    generalize y:l'.take i++l'.drop (i+1)=C at c ⊢;simp only[go_sem,bz e (by omega),getD_map ag b,ag];refine bO (t+1,C,A+1) ⟨e,c,by rw[<-y];simp;omega,λn N=>?_⟩ (by simp only;omega) ?_
    ·rw[<-y] at N;rcases List.mem_append.1 N with h|h
     ·exact B n (List.mem_of_mem_take h)
     ·exact B n (List.mem_of_mem_drop h)
    ·exact bY
   ·rw[if_neg (by rw[s];simp)] at c;subst c;simp only[go_sem,getD_map ag b,ag]
 ·have:t=p.ax.length:=by have:=dK r;omega
  subst this;rw[List.drop_length,mA] at c;subst c;simp only[go_sem];refine bL (σ:=Nat×List au×Nat) (λx=>(cK (cK (cK (cK (cK gv 0 (.ptr 1000000 0)) 3 (.ptr 3 0)) 52 (.p (.aV (p.aA.map aj)))) 53 (.p (.val (.int .i64 p.aA.length)))) 54 (.p (.val (.int .i64 x.1))))) (λx=>(bn (bn (bn (bn cu 3 (.box [.p (.aV (p.ax.map ag)),.p (.aV (p.aA.map aj)),.p (.aV (p.aP.map ag)),.p (.aV (p.aM.map aj)),.p (.aV (p.values.map aI)),.p (.val (.int .i64 p.next.x0)),.p (.val (.int .i64 p.next.x1))])) 1000000 (.box [.eY 1000001 A,.row 1000002 x.2.2])) 1000001 (.deep A 86 3 2 3 1 (l'.map ag))) 1000002 (.row x.2.2 88 4 (x.2.1.map aj))))
   (λx=>x.1<=p.aA.length/\ot x.2.1 (p.aA.drop x.1) x.2.2=S/\x.2.1.length<=1000000) (λx=>p.aA.length-x.1) (0,m,u) ⟨Nat.zero_le _,T,U⟩ bY ?_
  rintro⟨t,f,O⟩ ⟨I,d,M⟩;simp only at I d M;simp only[go_sem];refine aK (λr=>?_) (λr=>?_)
  ·have e:t<p.aA.length:=by have:=b6 r;omega
   have D:p.aA.drop t=p.aA.getD t default :: p.aA.drop (t+1):=by rw[List.drop_eq_getElem_cons e];simp[e]
   rw[D,ot] at d;simp only[go_sem,getD_map aj e,aj];refine⟨e,?_⟩;refine dB [.p,.q,.q,.q,.q,.q,.q,.p] (by kernel_rfl) ?_;simp only[go_sem];refine jV (Kz f M (p.aA.getD t default).id) (by simp only[go_sem]<;>rfl) (cc rfl) ?_;simp only[go_sem];cases g:f.findIdx? λm=>decide (m.id=(p.aA.getD t default).id) with
   |none =>
    rw[g] at d;simp only at d;have o:idxOf (λn:au=>decide (n.id=(p.aA.getD t default).id)) f = -1:=by unfold idxOf;rw[g]
    have E:decide ((-1:Int)<0)=true:=by decide
    simp only[go_sem,o];refine dB [.p,.p,.p,.p,.p,.q,.q,.p,.q,.q,.q,.p,.p] (by kernel_rfl) ?_;simp only[go_sem,o,E];subst d;simp only[go_sem]
   |some i =>
    rw[g] at d;simp only at d;have o:idxOf (λn:au=>decide (n.id=(p.aA.getD t default).id)) f=(i:Int):=by unfold idxOf;rw[g]
    have b:i<f.length:=by rw[List.findIdx?_eq_some_iff_getElem] at g;exact g.1
    have F:decide ((i:Int)<0)=false:=gA (by omega);simp only[go_sem,o];refine dB [.p,.p,.p,.p,.p,.q,.q,.p,.q,.q,.q,.p,.p] (by kernel_rfl) ?_;simp only[go_sem,F,getD_map aj b,aj];refine⟨b,b,?_⟩;refine aW (λs=>?_) (λs=>?_)
    ·have G:qK (f.getD i default) (p.aA.getD t default)=true:=s;rw[if_pos G] at d;simp only[go_sem,bz b (by omega)];have z:(f.map aj).take i++(f.map aj).drop (i+1)=(f.take i++f.drop (i+1)).map aj:=by rw[List.map_append,List.map_take,List.map_drop]
     have w:=ZI (f.map aj) i (i+1) O (by omega) (by rw[List.length_map];omega) (by rw[List.length_map];omega);rw[z] at w;refine w6 w (by simp only[go_sem]<;>rfl) (by simp only[go_sem]<;>rfl) (by simp only[go_sem]<;>rfl) (λh=>by cases h) ?_;generalize y:f.take i++f.drop (i+1)=C at d ⊢;simp only[go_sem,bz e (by omega)];exact bO (t+1,C,O+1) ⟨e,d,by rw[<-y];simp;omega⟩ (by simp only;omega) bY
    ·have G:qK (f.getD i default) (p.aA.getD t default)=false:=s;rw[if_neg (by rw[G];simp)] at d;subst d;simp only[go_sem]
  ·have:t=p.aA.length:=by have:=dK r;omega
   subst this;rw[List.drop_length,ot] at d;subst d;simp only[go_sem]
theorem aD3(p:aH)(l:List ah)(m:List au)(v u:Nat)(hl:l.length<=1000000)(I:p.values.length<=1000000)
  (R:Bool×List ah) (C:mB l p.values=R) :
  Av pw 177 (cg (h9 l v m u)) [.ptr 1000000 0,.p (.agg (aF p))] λa H=>oJ a (.p (.val (.bool R.1)))/\o6 H (h9 R.2 v m u):=by
 refine F0 [] Ty.mixed func177 rfl (by kernel_rfl) (by simp[ntmps177]) ?_;rw[ntmps177,results177];simp only[go_sem,aF,h9];refine bL (σ:=Nat×List ah) (λx=>(cK (cK (cK (cK (cK gv 0 (.ptr 1000000 0)) 3 (.ptr 3 0)) 9 (.p (.aV (p.values.map aI)))) 10 (.p (.val (.int .i64 p.values.length)))) 11 (.p (.val (.int .i64 x.1))))) (λx=>(bn (bn (bn (bn cu 3 (.box [.p (.aV (p.ax.map ag)),.p (.aV (p.aA.map aj)),.p (.aV (p.aP.map ag)),.p (.aV (p.aM.map aj)),.p (.aV (p.values.map aI)),.p (.val (.int .i64 p.next.x0)),.p (.val (.int .i64 p.next.x1))])) 1000000 (.box [.eY 1000001 v,.row 1000002 u])) 1000001 (.deep v 86 3 2 3 1 (x.2.map ag))) 1000002 (.row u 88 4 (m.map aj))))
  (λx=>x.1<=p.values.length/\mB x.2 (p.values.drop x.1)=R/\x.2.length<=1000000) (λx=>p.values.length-x.1) (0,l) ⟨Nat.zero_le _,C,hl⟩ bY ?_
 rintro⟨t,l'⟩ ⟨G,c,z⟩;simp only at G c z;simp only[go_sem];refine aK (λs=>?_) (λs=>?_)
 ·have j:t<p.values.length:=by have:=b6 s;omega
  have D:p.values.drop t=p.values.getD t default :: p.values.drop (t+1):=by rw[List.drop_eq_getElem_cons j];simp[j]
  rw[D,mB] at c;simp only[go_sem,getD_map aI j,aI];refine⟨j,?_⟩;generalize p.values.getD t default=w at c ⊢;refine dB [.p,.q,.q,.q,.q,.q,.q,.p] (by kernel_rfl) ?_;simp only[go_sem];refine jV (Gk l' z w.id) (by simp only[go_sem]<;>rfl) (cc rfl) ?_;simp only[go_sem];cases h:l'.findIdx? λm=>decide (m.id=w.id) with
  |none =>
   rw[h] at c;simp only at c;have o:idxOf (λn:ah=>decide (n.id=w.id)) l' = -1:=by unfold idxOf;rw[h]
   have E:decide ((-1:Int)<0)=true:=by decide
   simp only[go_sem,o];refine dB [.p,.p,.p,.q,.q,.p,.p,.p,.q,.q,.p,.p,.q,.q,.p,.q,.q,.q,.q,.p,.p,.p,.p,.p,.q,.q,.p,.q,.q,.q,.q,.q,.q,.q,.q,.q,.p,.p,.p,.q,.q,.q,.q,.p,.p] (by kernel_rfl) ?_;simp only[go_sem,o,E];subst c;simp only[go_sem]
  |some i =>
   rw[h] at c;simp only at c;have o:idxOf (λn:ah=>decide (n.id=w.id)) l'=(i:Int):=by unfold idxOf;rw[h]
   have b:i<l'.length:=by rw[List.findIdx?_eq_some_iff_getElem] at h;exact h.1
   have d:decide ((i:Int)<0)=false:=gA (by omega);simp only[go_sem,o];refine dB [.p,.p,.p,.q,.q,.p,.p,.p,.q,.q,.p,.p,.q,.q,.p,.q,.q,.q,.q,.p,.p,.p,.p,.p,.q,.q,.p,.q,.q,.q,.q,.q,.q,.q,.q,.q,.p,.p,.p,.q,.q,.q,.q,.p,.p] (by kernel_rfl) ?_;simp only[go_sem,d,getD_map ag b,ag];cases f:decide (w.attr<0)
   ·simp only[go_sem,f,d,getD_map ag b,ag];refine⟨b,b,?_⟩;cases g:decide (((l'.getD i default).values.length:Int)<=w.attr)
    ·have A:0<=w.attr:=by have:=dK f;omega
     have B:w.attr<(l'.getD i default).values.length:=by have:=dK g;omega
     have r:w.attr.toNat<(l'.getD i default).values.length:=by omega
     simp only[go_sem,g,getD_map encI r,encI,d,getD_map ag b,ag];refine⟨b,b,⟨A,B⟩,r,?_⟩;cases k:decide ((l'.getD i default).values.getD w.attr.toNat default=w.old)
     ·have e:gw (l'.getD i default).values w=false:=by unfold gw;rw[f,g,k];rfl
      rw[if_neg (by rw[e];simp)] at c;subst c;simp only[go_sem,k,d,getD_map ag b,ag]
     ·simp only[go_sem,k,d,getD_map ag b,ag];refine aK (λy=>?_) (λy=>?_)
      ·have e:gw (l'.getD i default).values w=false:=by unfold gw;rw[f,g,k,y];rfl
       rw[if_neg (by rw[e];simp)] at c;subst c;simp only[go_sem,d,getD_map ag b,ag]
      ·have e:gw (l'.getD i default).values w=true:=by unfold gw;rw[f,g,k,y];rfl
       rw[if_pos e] at c;simp only[go_sem,d,getD_map ag b,ag];refine dB [.p,.p,.q,.q,.p,.q,.q,.q,.q,.q,.q,.q,.q,.t] (by kernel_rfl) ?_;simp only[go_sem,d,getD_map ag b,ag];refine⟨b,b,⟨⟨A,B⟩,by rw[getD_map encI r];rfl⟩,?_⟩;have F:(l'.map ag).set i ((ag (l'.getD i default)).set 2 (.aV (((l'.getD i default).values.map encI).set w.attr.toNat [.val (.int .i64 w.new)])))=(l'.set i { l'.getD i default with values:=(l'.getD i default).values.set w.attr.toNat w.new }).map ag:=by rw[List.map_set];congr 1;show _=[_,_,PV.aV (((l'.getD i default).values.set w.attr.toNat w.new).map encI)];rw[List.map_set];rfl
       refine Kg 3 _ _ 1000001 v i w.attr.toNat 86 3 2 3 (l'.map ag) (ag (l'.getD i default)) ((l'.getD i default).values.map encI) (.val (.int .i64 w.new)) rfl (by simp only[go_sem,d,getD_map ag b,ag]) (by simp only[go_sem,d,getD_map ag b,ag]) (by simp only[go_sem,d,getD_map ag b,ag]) ⟨rfl,rfl⟩ (by simp only[go_sem,d,getD_map ag b,ag]<;>rfl) (by simp[b]) rfl (by simpa using r) ?_;rw[F];simp only[go_sem,bz j (by omega),d,getD_map ag b,ag];exact bO (t+1,_) ⟨j,c,by simpa using z⟩ (by simp only;omega) bY
    ·have e:gw (l'.getD i default).values w=false:=by unfold gw;rw[f,g];rfl
     rw[if_neg (by rw[e];simp)] at c;subst c;simp only[go_sem,g,d,getD_map ag b,ag]
   ·have e:gw (l'.getD i default).values w=false:=by unfold gw;rw[f];rfl
    rw[if_neg (by rw[e];simp)] at c;subst c;simp only[go_sem,f,d,getD_map ag b,ag]
 ·have:t=p.values.length:=by have:=dK s;omega
  subst this;rw[List.drop_length,mB] at c;subst c;simp only[go_sem]
end Go.Proofs.YtnnpmiiegnedeaaGreat
namespace Go.cv
open Go.RowKit
variable{P:Program}{N:Nat}{ai:List Nat}{ops:Array Oper}{K:Env->az->Prop}{af:Env}{H:az}
def wI:List (Nat×Nat×AV)->(Nat->Bool)->Env->Env
 | [],_,af=>af
 |(i,s,a) :: r,f,af=>λt=>if t=s then (if f i=true then a else af t) else wI r f af t
def nM(f:Nat->Bool)(j:Nat):Nat->Bool:=λi=>if i=j then true else f i
def Gq(j:Nat)(vs:List (Nat×Nat×AV)):Prop:=∀x∈vs,x.1≠j
theorem Gr{f:Nat->Bool}{j:Nat} : ∀ {vs:List (Nat×Nat×AV)},Gq j vs->wI vs (nM f j) af=wI vs f af
 | [],_=>rfl
 |(i,s,a) :: r,h=>by
  have b:i≠j:=h (i,s,a) List.mem_cons_self;have c:=Gr (f:=f) (vs:=r) λx d=>h x (List.mem_cons_of_mem _ d)
  funext t;simp only[wI,nM,if_neg b,c]
theorem KM{f:Nat->Bool}{j s:Nat}{v:AV} : ∀ {vs:List (Nat×Nat×AV)},(vs.map (·.1)).Nodup->(vs.map (·.2.1)).Nodup->(j,s,v)∈vs->wI vs (nM f j) af=cK (wI vs f af) s v
 | [],_,_,h=>by cases h
 |(i,l,a) :: r,c,g,h=>by
  rw[List.map_cons,List.nodup_cons] at c g;rcases List.mem_cons.1 h with e|e
  ·simp only[iU] at e;obtain⟨rfl,rfl,rfl⟩:=e;have k:wI r (nM f j) af=wI r f af:=Gr λx o e=>c.1 (List.mem_map.2 ⟨x,o,e⟩)
   funext t;simp only[wI,cK,k];by_cases b:t=s
   ·simp[b,nM]
   ·simp[b]
  ·have m:i≠j:=λd=>c.1 (List.mem_map.2 ⟨_,e,d.symm⟩)
   have n:l≠s:=λd=>g.1 (List.mem_map.2 ⟨_,e,d.symm⟩)
   have k:=KM (f:=f) c.2 g.2 e;funext t;simp only[wI,cK,k];by_cases b:t=l
   ·subst b;rw[if_pos rfl,if_pos rfl,if_neg n];simp[nM,m]
   ·rw[if_neg b,if_neg b]
def A0(f:Nat->Bool):List Edge->Prop
 | []=>True
 |e :: r=>(Region.binds .any e=true->f e.on=true)/\A0 f r
theorem Gs{f:Nat->Bool} : ∀ {l:List Edge},(∀e∈l,Region.binds .any e=true->f e.on=true)->A0 f l
 | [],_=>trivial
 |e :: r,h=>⟨h e List.mem_cons_self,Gs λx a=>h x (List.mem_cons_of_mem _ a)⟩
def KN(P:Program)(ai:List Nat)(ops:Array Oper)(vs:List (Nat×Nat×AV))(a:(Nat->Bool)->az)(af:Env)(j:Nat)(o:Oper):Prop :=
 ∀f:Nat->Bool,f j=false->A0 f o.after.toList->(∀i q,ops[i]? = some q->f i=true->A0 f q.after.toList)->nC ops o (wI vs f af)=some true/\∃pre v,gC P ai o (ev (wI vs f af)) (a f)=some (pre,v,a (nM f j))/\pre /\
  (match o.dst with
  |some s=>(j,s,v)∈vs
  |none=>Gq j vs)
def Gt(P:Program)(ai:List Nat)(ops:Array Oper)(vs:List (Nat×Nat×AV))(a:(Nat->Bool)->az)(af:Env):Nat->List Oper->Prop
 |_,[]=>True
 |j,o :: r=>KN P ai ops vs a af j o/\Gt P ai ops vs a af (j+1) r
theorem KO{vs:List (Nat×Nat×AV)}{b:(Nat->Bool)->az} : ∀ {l:List Oper} {k i:Nat} {o:Oper},Gt P ai ops vs b af k l->l[i]? = some o->KN P ai ops vs b af (k+i) o
 | [],_,_,_,_,h=>by simp at h
 |x :: r,k,0,o,h,a=>by simp only[List.getElem?_cons_zero,cG] at a;subst a;exact h.1
 |x :: r,k,i+1,o,h,a=>by have:=KO (i:=i) h.2 (by simpa using a);rwa [Nat.add_assoc,Nat.add_comm 1 i] at this
def KP(ai:List Nat)(ops:Array Oper)(N:Nat):Bool:=((List.range ops.size).all λj=>match ops[j]? with
 |some o=>o.after.toList.all (λe=>!Region.binds .any e||decide (e.on<j)) && !qy ai ops o
 |none=>true)&&B0 N ops
theorem KQ:∀ (vs:List (Nat×Nat×AV)),wI vs (λ_=>false) af=af
 | []=>rfl
 |(i,s,a) :: r=>by funext t;simp only[wI,KQ r];split<;>simp
def dn(a:Array Bool):Nat->Bool:=λi=>a.getD i false
theorem Gu{a:Array Bool}{j:Nat}(b:j<a.size):a.getD j true=dn a j:=by unfold dn;simp[b]
theorem KR{a:Array Bool}{j:Nat}(b:j<a.size):dn (a.setIfInBounds j true)=nM (dn a) j:=by
 funext i;unfold dn nM;simp only[Array.getD_eq_getD_getElem?,Array.getElem?_setIfInBounds];by_cases h:j=i
 ·subst h;simp[b]
 ·rw[if_neg h,if_neg λe=>h e.symm]
def left(n:Nat)(f:Nat->Bool):Nat:=(List.range n).countP λi=>!f i
theorem au9{n:Nat}{f:Nat->Bool}(h:left n f=0)(i:Nat)(a:i<n):f i=true:=by unfold left at h;rw[List.countP_eq_zero] at h;have:=h i (List.mem_range.2 a);simpa using this
theorem KS{f:Nat->Bool}{j:Nat}(a:f j=false):∀n,j<n->left n (nM f j)+1=left n f
 |0,h=>by omega
 |n+1,h=>by
  unfold left;rw[List.range_succ,List.countP_append,List.countP_append];rcases Nat.lt_succ_iff_lt_or_eq.1 h with h1|h1
  ·have:=KS a n h1;unfold left at this;have e:nM f j n=f n:=by unfold nM;rw[if_neg (by omega)]
   simp only[List.countP_cons,List.countP_nil,e];omega
  ·subst h1;have e:(List.range j).countP (λi=>!nM f j i)=(List.range j).countP λi=>!f i:=by apply List.countP_congr;intro x b;have:=List.mem_range.1 b;unfold nM;rw[if_neg (by omega)]
   rw[e];simp[nM,a]
theorem ava{l:List Oper}(vs:List (Nat×Nat×AV))(p:(Nat->Bool)->az)(t:KP ai l.toArray N=true)(h1:(vs.map (·.1)).Nodup)(h2:(vs.map (·.2.1)).Nodup)(hH:p (λ_=>false)=H)
  (hs:Gt P ai l.toArray vs p af 0 l) (hK:K (wI vs (λi=>decide (i<l.length)) af) (p λi=>decide (i<l.length))):vW P N ai l.toArray K af H:=by
 unfold KP at t;rw[Bool.and_eq_true] at t;obtain⟨t,hd⟩:=t;have m:l.toArray.size=l.length:=by simp
 have B:∀ (j:Nat) (o:Oper),l.toArray[j]? = some o->(∀e∈o.after,Region.binds .any e=true->e.on<j)/\qy ai l.toArray o=false:=λj o d=>by
  have r:j<l.toArray.size:=(Array.getElem?_eq_some_iff.1 d).1;have:=List.all_eq_true.1 t j (List.mem_range.2 r);rw[d] at this;simp only[Bool.and_eq_true,Bool.not_eq_true',List.all_eq_true,Bool.or_eq_true,decide_eq_true_eq] at this;refine⟨λe k g=>?_,this.2⟩;rcases this.1 e (by simpa using k) with h|h
  ·rw[g] at h;cases h
  ·exact h
 have al:∀a:Array Bool,sA l.toArray a->Region.ready .any l.toArray a=[]->∀i,i<l.length->dn a i=true:=λa c D=>by
  intro i
  induction i using Nat.strongRecOn with
  |_ i E =>
   intro f;cases n:dn a i with
   |true=>rfl
   |false =>
    exfalso;have d:l.toArray[i]? = some l[i]:=by simp[f]
    have:i∈Region.ready .any l.toArray a:=mem_ready.2 ⟨by rw[Gu (by rw[c.1,m];exact f)];exact n,l[i],d,λe k g=>E e.on ((B i _ d).1 e k g) (Nat.lt_trans ((B i _ d).1 e k g) f)⟩;rw[D] at this;cases this
 have G:∀a:Array Bool,sA l.toArray a->(∀i,i<l.length->dn a i=true)->K (wI vs (dn a) af) (p (dn a)):=λa c u=>by
  have e:dn a=λi=>decide (i<l.length):=by
   funext i;by_cases f:i<l.length
   ·rw[u i f,dr f]
   ·rw[gA f];have aA:=c.1;unfold dn;rw[Array.getD_eq_getD_getElem?,Array.getElem?_eq_none (by rw[aA,m];omega)];rfl
  rw[e];exact hK
 have aM:∀ (fuel:Nat) (a:Array Bool),sA l.toArray a->left l.length (dn a)<=fuel->Aq P ai l.toArray (λ_=>false) K fuel a (wI vs (dn a) af) (p (dn a)):=by
  intro fuel
  induction fuel with
  |zero =>
   intro a c ap;have u:∀i,i<l.length->dn a i=true:=au9 (by omega);refine⟨?_,G a c u⟩;apply List.eq_nil_iff_forall_not_mem.2;intro i f;obtain⟨x,o,d,_⟩:=mem_ready.1 f;have Q:i<l.length:=by have:=(Array.getElem?_eq_some_iff.1 d).1;rwa [m] at this
   rw[Gu (by rw[c.1,m];exact Q),u i Q] at x;cases x
  |succ fuel E =>
   intro a c ap;refine⟨λD=>G a c (al a c D),λj r=>?_⟩;obtain⟨x,o,d,Y⟩:=mem_ready.1 r;have R:j<l.length:=by have:=(Array.getElem?_eq_some_iff.1 d).1;rwa [m] at this
   have A:j<a.size:=by rw[c.1,m];exact R
   have J:dn a j=false:=by rw[<-Gu A];exact x
   have S:=KO (i:=j) hs (by simpa using d);rw[Nat.zero_add] at S;obtain⟨hg,pre,v,hx,hp,n⟩:=S (dn a) J (Gs λe k g=>Y e (by simpa using k) g) (λi q hq hf=>Gs λe k g=>c.2 i q hq hf e (by simpa using k) g);have y:=E _ (c.set r) (by have:=KS J l.length R;rw[KR A];omega);rw[KR A] at y;have ar:wI vs (nM (dn a) j) af=cW (wI vs (dn a) af) o.dst v:=by
    cases M:o.dst with
    |none=>rw[M] at n;exact Gr n
    |some s=>rw[M] at n;exact KM h1 h2 n
   rw[ar] at y;unfold cv.xh;rw[d];exact .inr ⟨hg,.inl ⟨Fe (λh=>by rw[(B j o d).2] at h;cases h),.w,v,_,⟨pre,hx,hp⟩,y⟩⟩
 intro C I L F w hN Z;have X:∀i b,i<l.toArray.size->(Array.replicate l.toArray.size false).getD i b=false:=λi b h=>by rw[Array.getD_eq_getD_getElem?,Array.getElem?_replicate,if_pos h];rfl
 have z:dn (Array.replicate l.toArray.size false)=λ_=>false:=by
  funext i;unfold dn;rcases Nat.lt_or_ge i l.toArray.size with h|h
  ·exact X i false h
  ·rw[Array.getD_eq_getD_getElem?,Array.getElem?_replicate,if_neg (by omega)];rfl
 have c:sA l.toArray (Array.replicate l.toArray.size false):=⟨Array.size_replicate,λj o r hl=>by
  have h:=congrFun z j;unfold dn at h;rw[h] at hl;cases hl⟩
 have O:=aM l.toArray.size _ c (by rw[z,m];unfold left;exact Nat.le_trans List.countP_le_length (by simp));rw[z,KQ,hH] at O;have ax:iG C af H I L F { w with drawn:=w.drawn+1 }:=(Fr.drew C I L H w) af F Z;exact sx (by rw[hN];exact z8 hd) (λaa T U V aN w' hk W=>⟨rfl,rfl,aa,T,U,V,hk,W⟩) l.toArray.size _ af H I L F _ O ax
end Go.cv
namespace Go.Proofs.YtnnpmiiegnedeaaGreat
open Go.cv
def jo(l:List ah)(v:Nat)(m:List au)(u:Nat):List (Nat×Chunk):=[(1000000,.box [.row 1000001 v,.row 1000002 u]),(1000001,.row v 86 3 (l.map ag)),(1000002,.row u 88 4 (m.map aj))]
theorem Gv(H:az)(d:Nat)(c a:Chunk):bn (bn H d c) d a=bn H d a:=by funext i;simp only[bn];split<;>rfl
theorem KT(p:aH)(l:List ah)(m:List au)(v u:Nat)(hl:l.length<=1000)(G:m.length<=1000)(E:p.aP.length<=1000)(F:p.aM.length<=1000)
  (o:gF l m p=false->Bv ah.id (l++p.aP)) (k:gF l m p=false->Bv au.id (m++p.aM)) (b:Bool) (g:gF l m p=b) :
  Av pw 178 (cg (jo l v m u)) [.ptr 1000000 0,.p (.agg (aF p))] λa H=>oJ a (.p (.val (.bool (!b))))/\o6 H (if b then jo l v m u else jo (kU (l++p.aP)) (v+1) (nt (m++p.aM)) (u+1)):=by
 have z:=Ks (λn=>kI l m n.id) p.aP (by omega) 235 [] [.eF [.eF [.aV (l.map ag),.aV (m.map aj)] 0] 0] (λx _=>aCl x l m (by omega) (by omega));have C:=Kt (λn=>kI l m n.id) p.aM (by omega) 237 [] [.eF [.eF [.aV (l.map ag),.aV (m.map aj)] 0] 0] (λx _=>aCm x l m (by omega) (by omega));unfold gF at g o k;refine F0 [] Ty.mixed func178 rfl (by kernel_rfl) (by simp[ntmps178]) ?_;rw[ntmps178,results178];simp only[go_sem,aF,jo];refine aX (z) (by simp only[go_sem]<;>rfl) (cc rfl) ?_;simp only[go_sem];refine bT (λc=>?_) (λc=>?_)
 ·have j:b=true:=by rw[<-g,c];rfl
  subst j;simp only[go_sem,c,aF,jo]
 simp only[go_sem,c];refine aX (C) (by simp only[go_sem]<;>rfl) (cc rfl) ?_;simp only[go_sem,c];refine aK (λd=>?_) (λd=>?_)
 ·have j:b=true:=by rw[<-g,c,d];rfl
  subst j;simp only[go_sem,c,d,jo]
 have w:b=false:=by rw[<-g,c,d];rfl
 subst w;have t:=o (by rw[c,d];rfl);have s:=k (by rw[c,d];rfl);simp only[go_sem];refine ava [(0,15,.ptr 1000000 0),(1,16,.ptr 1000000 0),(2,17,.ptr 1000000 0),(3,18,.ptr 1000000 0),(4,19,.ptr 1000000 0),(5,20,.row 1000001 v),(6,21,.ptr 3 2),(7,22,.p (.aV (p.aP.map ag))),(8,23,.row 1000001 (v+1)),(9,24,.ptr 1000000 0),(10,25,.ptr 1000000 0),(11,26,.ptr 1000000 1),(12,27,.row 1000002 u),(13,28,.ptr 3 3),(14,29,.p (.aV (p.aM.map aj))),(15,30,.row 1000002 (u+1)),(16,31,.ptr 1000000 0),(17,32,.ptr 1000000 0),(19,33,.ptr 1000000 0),(20,34,.ptr 1000000 1)]
  (λf=>bn (bn (bn (bn (bn cu 1000002 (if f 15=true then .row (u+1) 88 4 ((m++p.aM).map aj) else .row u 88 4 (m.map aj)))
   1000001 (if f 8=true then .row (v+1) 86 3 ((l++p.aP).map ag) else .row v 86 3 (l.map ag)))
   1000000 (.box [if f 18=true then .row 1000001 (v+1) else .row 1000001 v,if f 21=true then .row 1000002 (u+1) else .row 1000002 u])) 2 (.box [.ptr 1000000 0])) 3 (.box [.p (.aV (p.ax.map ag)),.p (.aV (p.aA.map aj)),.p (.aV (p.aP.map ag)),.p (.aV (p.aM.map aj)),.p (.aV (p.values.map aI)),.p (.val (.int .i64 p.next.x0)),.p (.val (.int .i64 p.next.x1))])) (by kernel_rfl) (by simp) (by simp) ?_ ?_ ?_
 ·rfl
 ·refine⟨?_,?_,?_,?_,?_,?_,?_,?_,?_,?_,?_,?_,?_,?_,?_,?_,?_,?_,?_,?_,?_,?_,trivial⟩;all_goals
   intro f i e q;simp[A0,Region.binds] at e;have r:f 5=false->f 18=false:=λh=>by
    cases c:f 18 with
    |false=>rfl
    |true=>have:=q 18 _ rfl c;simp[A0,Region.binds,h] at this
   have D:f 12=false->f 21=false:=λh=>by
    cases c:f 21 with
    |false=>rfl
    |true=>have:=q 21 _ rfl c;simp[A0,Region.binds,h] at this
   try simp only[go_sem,wI,e,i]
   first
    |exact⟨_,_,rfl,trivial,by simp<;>first|exact r i|exact D i⟩
    |skip
  ·refine⟨_,_,Prod.ext rfl (Prod.ext rfl ?_),⟨by omega,λx c=>?_⟩,by simp⟩
   ·rw[lC _ _ _ (show (3:Nat)≠1000001 by decide),lC _ _ _ (show (2:Nat)≠1000001 by decide),lC _ _ _ (show (1000000:Nat)≠1000001 by decide),Gv];rfl
   ·obtain⟨y,_,rfl⟩:=List.mem_map.1 c;rfl
  ·refine⟨_,_,Prod.ext rfl (Prod.ext rfl ?_),⟨by omega,λx c=>?_⟩,by simp⟩
   ·rw[lC _ _ _ (show (3:Nat)≠1000002 by decide),lC _ _ _ (show (2:Nat)≠1000002 by decide),lC _ _ _ (show (1000000:Nat)≠1000002 by decide),lC _ _ _ (show (1000001:Nat)≠1000002 by decide),Gv];simp[nM,e]
   ·obtain⟨y,_,rfl⟩:=List.mem_map.1 c;rfl
  all_goals try (refine⟨_,_,Prod.ext rfl (Prod.ext rfl ?_),trivial,by simp⟩;simp[nM,e];done)
  all_goals
   refine⟨_,_,Prod.ext rfl (Prod.ext rfl ?_),trivial,by simp[Gq]⟩;rw[lC _ _ _ (show (3:Nat)≠1000000 by decide),lC _ _ _ (show (2:Nat)≠1000000 by decide),Gv];simp[nM,e,i]
 ·simp only[go_sem,wI,List.length_cons,List.length_nil];have A:=aj8 (l++p.aP) (by simp;omega) t (v+1);have B:=aj9 (m++p.aM) (by simp;omega) s (u+1);refine De (A) (by simp only[go_sem]<;>rfl) (by simp only[go_sem]<;>rfl) (by simp only[go_sem]<;>rfl) (λh=>by cases h) ?_;simp only[go_sem];refine De (B) (by simp only[go_sem]<;>rfl) (by simp only[go_sem]<;>rfl) (by simp only[go_sem]<;>rfl) (λh=>by cases h) ?_;simp only[go_sem,kU,nt]
theorem ad3(b:Types)(c:ay)(a:aH)(r:ay×Int)(h:kO b c a=some r):aS pw 108 [.agg [.aV (b.nodes.map aJ),.aV (b.ak.map aL)],.agg (aC c),.agg (aF a)] (λv=>v = .dY [.agg (aC r.1),.val (.int .i64 r.2)]):=by
 unfold kO at h;refine aS.oA ?_;refine aR [] func108 ntmps108 results108 ?_;simp only[go_sem,aF,aC];obtain⟨e,P,h⟩:=oI h;refine Ca (ad1 a e P) (by simp only[go_sem,aF,aC]<;>rfl) (iL _) (λh=>by cases h) ?_;simp only[go_sem,aF,aC];refine aW (λy=>?_) (λy=>?_)
 ·rw[y,Bool.not_true,cond_false] at h;obtain⟨_,k,h⟩:=oI h;obtain⟨⟨G,J,K,D,g5,g6,g7,g8,g9,H⟩,_⟩:=sg k;obtain⟨es,T,h⟩:=oI h;obtain⟨_,k,h⟩:=oI h;obtain⟨aa,_⟩:=sg k;simp only[go_sem,aF,aC];refine Ft [(0,.q),(2,.q),(1,.f),(3,.f),(4,.p),(5,.w),(6,.s)] (by kernel_rfl) ?_;simp only[go_sem,aF,aC];refine Dt 1304 (ZL c G J (by omega) D) (by simp only[go_sem,aF,aC]<;>rfl) (iL _) xl (by simp only[go_sem,aF,aC]) (by simp only[go_sem,aF,aC]) ?_;simp only[go_sem,aF,aC];refine Dt 1336 (ae5 c es T) (by simp only[go_sem,aF,aC]<;>rfl) (iL _) xl (by simp only[go_sem,aF,aC]) (by simp only[go_sem,aF,aC]) ?_;simp only[go_sem,aF,aC]
  first|refine⟨⟨by decide,by decide⟩,?_⟩|refine⟨by decide,?_⟩
  cases m:decide (a.next.x0=c.next)
  ·rw[m,Bool.not_false,cond_true] at h;cases h;simp only[go_sem,m,kV,aF,aC];all_goals(and_intros)<;>rfl
  rw[m,Bool.not_true,cond_false] at h;simp only[go_sem,m,aF,aC];generalize L:mA (bA c) a.ax 0=R at h;generalize M:ot es a.aA 0=S at h;have ao:(bA c).length<=1000:=by simp[bA];exact K
  have X:∀n∈bA c,n.values.length<=1000000:=λn m=>by
   obtain⟨i,E,rfl⟩:=List.mem_map.1 m;have E:i<c.nodes.length:=by simpa using E
   refine D _ ?_;have:i<c.host.values.length:=by omega
   simp[cD,this]
  have U:=au8 a (bA c) es 0 0 (by omega) (by omega) X (by omega) (by omega) H R L S M;refine .inr (.inr (.inr (lE 9 1000000 (by decide) (by simp only[go_sem,aF,aC]) (lE 1304 1000001 (by decide) (by simp only[go_sem,aF,aC]) (lE 1336 1000002 (by decide) (by simp only[go_sem,aF,aC]) (Dp U (by simp only[go_sem,aF,aC]<;>rfl) (by simp only[go_sem,h9,aF,aC]<;>rfl) ?_ ?_ ?_ ?_ ?_ ?_ ?_))))))
  ·simp only[go_sem,h9,aF,aC]
  ·simp only[go_sem,h9,aF,aC]
  ·simp only[go_sem,h9,aF,aC]
  ·simp only[go_sem,h9,aF,aC]
  ·simp only[go_sem,h9,aF,aC]
  ·simp only[go_sem,h9,aF,aC]
  simp only[go_sem,h9,aF,aC];cases d:(R.1&&S.1)
  ·rw[d,Bool.not_false,cond_true] at h;cases h;simp only[go_sem,d,kV,aF,aC];all_goals(and_intros)<;>rfl
  rw[d,Bool.not_true,cond_false] at h;obtain⟨t,ap⟩:=Bool.and_eq_true_iff.1 d;obtain⟨_,k,h⟩:=oI h;obtain⟨⟨ab,ad⟩,_⟩:=sg k;simp only[go_sem,d,t,aF,aC];generalize O:mB R.2.1 a.values=V at h;have W:=aD3 a R.2.1 S.2.1 R.2.2 S.2.2 (by omega) (by omega) V O;refine uJ (tI:=qq [(3,.ptr 3 0),(5,.ptr 5 0),(6,.ptr 6 0),(7,.p (.val (.int .i64 0))),(9,.ptr 9 0),(34,.p (.val (.bool false))),(35,.p (.agg (aF a)))]) (H2:=cg [(3,.box [.p (.aV (b.nodes.map aJ)),.p (.aV (b.ak.map aL))]),(5,.box [.p (.aV (a.ax.map ag)),.p (.aV (a.aA.map aj)),.p (.aV (a.aP.map ag)),.p (.aV (a.aM.map aj)),.p (.aV (a.values.map aI)),.p (.val (.int .i64 a.next.x0)),.p (.val (.int .i64 a.next.x1))]),(6,.box [.p (.val (.slice none 0 0)),.p (.val (.slice none 0 0)),.p (.val (.slice none 0 0)),.p (.val (.slice none 0 0)),.p (.val (.slice none 0 0)),.p (.val (.int .i64 0))]),(9,.box [.eY 1304 R.2.2,.row 1336 S.2.2]),(1304,.deep R.2.2 86 3 2 3 1 (R.2.1.map ag)),(1336,.row S.2.2 88 4 (S.2.1.map aj))]) (yL (by simp only[go_sem,d,t,aF,aC]<;>(first|exact keepTop (by repeat (first|exact Dx _|refine Dy (by decide) ?_|refine Dz (by decide) (by decide) ?_)) (by simp only[go_sem,aF,aC]) (by simp only[go_sem,aF,aC]) (by simp only[go_sem,aF,aC])|skip))) (.inr (.inr (lE 9 1000000 (by decide) (by simp only[go_sem,aF,aC]) (lE 1304 1000001 (by decide) (by simp only[go_sem,aF,aC]) (lE 1336 1000002 (by decide) (by simp only[go_sem,aF,aC]) (Dp W (by simp only[go_sem,aF,aC]<;>rfl) (by simp only[go_sem,h9,aF,aC]<;>rfl) ?_ ?_ ?_ ?_ ?_ ?_ ?_))))))
  ·simp only[go_sem,h9,aF,aC]
  ·simp only[go_sem,h9,aF,aC]
  ·simp only[go_sem,h9,aF,aC]
  ·simp only[go_sem,h9,aF,aC]
  ·simp only[go_sem,h9,aF,aC]
  ·simp only[go_sem,h9,aF,aC]
  simp only[go_sem,h9,aF,aC];cases g:V.1
  ·rw[g,Bool.not_false,cond_true] at h;cases h;simp only[go_sem,g,kV,aF,aC];all_goals(and_intros)<;>rfl
  rw[g,Bool.not_true,cond_false] at h;obtain⟨_,k,h⟩:=oI h;obtain⟨⟨ae,I⟩,_⟩:=sg k;simp only[go_sem,g,aF,aC];cases j:gF V.2 S.2.1 a
  ·rw[j,cond_false] at h;obtain⟨Y,Z⟩:=I j;have o:=KT a V.2 S.2.1 R.2.2 S.2.2 (by omega) (by omega) (by omega) (by omega) (λ_=>Y) (λ_=>Z) false j;simp only[Bool.false_eq_true,if_false,Bool.not_false] at o;refine uJ (tI:=Dq 1304 (qq [(3,.ptr 3 0),(5,.ptr 5 0),(6,.ptr 6 0),(7,.p (.val (.int .i64 0))),(9,.ptr 9 0),(39,.p (.val (.bool false))),(40,.p (.agg (aF a)))])) (H2:=xZ 1304 (cg [(3,.box [.p (.aV (b.nodes.map aJ)),.p (.aV (b.ak.map aL))]),(5,.box [.p (.aV (a.ax.map ag)),.p (.aV (a.aA.map aj)),.p (.aV (a.aP.map ag)),.p (.aV (a.aM.map aj)),.p (.aV (a.values.map aI)),.p (.val (.int .i64 a.next.x0)),.p (.val (.int .i64 a.next.x1))]),(6,.box [.p (.val (.slice none 0 0)),.p (.val (.slice none 0 0)),.p (.val (.slice none 0 0)),.p (.val (.slice none 0 0)),.p (.val (.slice none 0 0)),.p (.val (.int .i64 0))]),(9,.box [.eY 1304 R.2.2,.row 1336 S.2.2]),(1304,.deep R.2.2 86 3 2 3 1 (V.2.map ag)),(1336,.row S.2.2 88 4 (S.2.1.map aj))])) (dw.trans (yL (by simp only[go_sem,d,t,g,aF,aC]<;>(first|exact keepTop (by repeat (first|exact Dx _|refine Dy (by decide) ?_|refine Dz (by decide) (by decide) ?_)) (by simp only[go_sem,aF,aC]) (by simp only[go_sem,aF,aC]) (by simp only[go_sem,aF,aC])|skip))) (kN 1304 R.2.2 86 3 2 3 1 (V.2.map ag) (by decide) (by simp only[go_sem,aF,aC]))) (.inr (.inr (lE 9 1000000 (by decide) (by simp only[go_sem,aF,aC]) (lE 1304 1000001 (by decide) (by simp only[go_sem,aF,aC]) (lE 1336 1000002 (by decide) (by simp only[go_sem,aF,aC]) (Dp o (by simp only[go_sem,aF,aC]<;>rfl) (by simp only[go_sem,jo,aF,aC]<;>rfl) ?_ ?_ ?_ ?_ ?_ ?_ ?_))))))
   ·simp only[go_sem,jo,aF,aC]
   ·simp only[go_sem,jo,aF,aC]
   ·simp only[go_sem,jo,aF,aC]
   ·simp only[go_sem,jo,aF,aC]
   ·simp only[go_sem,jo,aF,aC]
   ·simp only[go_sem,jo,aF,aC]
   simp only[go_sem,jo,aF,aC];obtain⟨x,A,h⟩:=oI h;generalize kU (V.2++a.aP)=C at A ⊢;generalize nt (S.2.1++a.aM)=B at A ⊢
   first|refine⟨⟨by decide,by decide⟩,?_⟩|refine⟨by decide,?_⟩
   have N:=(show aS _ _ _ (λv=>v = .dY [.agg (aC x.1),.val (.bool x.2)]) from (acW C B a.next.x1 x A).CR);refine uJ (dw.trans (yL (l:=[(3,.ptr 3 0),(6,.ptr 6 0),(7,.p (.val (.int .i64 0))),(47,.row 1304 (R.2.2+1)),(49,.row 1336 (S.2.2+1)),(52,.p (.val (.int .i64 a.next.x1)))]) (hl:=[(3,.box [.p (.aV (b.nodes.map aJ)),.p (.aV (b.ak.map aL))]),(6,.box [.p (.val (.slice none 0 0)),.p (.val (.slice none 0 0)),.p (.val (.slice none 0 0)),.p (.val (.slice none 0 0)),.p (.val (.slice none 0 0)),.p (.val (.int .i64 0))]),(1304,.row (R.2.2+1) 86 3 (C.map ag)),(1336,.row (S.2.2+1) 88 4 (B.map aj))]) (by simp only[go_sem,d,t,g,aF,aC]<;>(first|exact keepTop (by repeat (first|exact Dx _|refine Dy (by decide) ?_|refine Dz (by decide) (by decide) ?_|refine azk (by decide) ?_)) (by simp only[go_sem,aF,aC]) (by simp only[go_sem,aF,aC]) (by simp only[go_sem,aF,aC])|skip))) (dw.trans (Dg 1304 (R.2.2+1) 86 3 (C.map ag) [47] (by simp only[go_sem,aF,aC]<;>rfl) (by simp only[go_sem,aF,aC]<;>and_intros<;>rfl) (by decide)) (Dg 1336 (S.2.2+1) 88 4 (B.map aj) [49] (by simp only[go_sem,aF,aC]<;>rfl) (by simp only[go_sem,aF,aC]<;>and_intros<;>rfl) (by decide)))) (.inl (.inl ⟨[],xP (Db N (by simp only[go_sem,aF,aC]<;>rfl) (by first|exact y6|exact cc rfl)) ?_⟩));simp only[go_sem,aF,aC];cases u:x.2
   ·rw[u,Bool.not_false,cond_true] at h;cases h;simp only[go_sem,u,kV,aF,aC];all_goals(and_intros)<;>rfl
   rw[u,Bool.not_true,cond_false] at h;obtain⟨F,Q,h⟩:=oI h;simp only[go_sem,u,aF,aC];refine Ca (yO b x.1 F Q) (by simp only[go_sem,aF,aC]<;>rfl) (iL _) (by first|exact y6|exact cc rfl) ?_;simp only[go_sem,aF,aC];refine aW (λz=>?_) (λz=>?_)
   ·rw[z,Bool.not_true,cond_false] at h;cases h;simp only[go_sem,aF,aC];all_goals(and_intros)<;>rfl
   ·rw[z,Bool.not_false,cond_true] at h;cases h;simp only[go_sem,kV,aF,aC];all_goals(and_intros)<;>rfl
  ·rw[j,cond_true] at h;have o:=KT a V.2 S.2.1 R.2.2 S.2.2 (by omega) (by omega) (by omega) (by omega) (λh=>by rw[j] at h;cases h) (λh=>by rw[j] at h;cases h) true j;simp only[if_true,Bool.not_true] at o;cases h;refine uJ (tI:=Dq 1304 (qq [(3,.ptr 3 0),(5,.ptr 5 0),(6,.ptr 6 0),(7,.p (.val (.int .i64 0))),(9,.ptr 9 0),(39,.p (.val (.bool false))),(40,.p (.agg (aF a)))])) (H2:=xZ 1304 (cg [(3,.box [.p (.aV (b.nodes.map aJ)),.p (.aV (b.ak.map aL))]),(5,.box [.p (.aV (a.ax.map ag)),.p (.aV (a.aA.map aj)),.p (.aV (a.aP.map ag)),.p (.aV (a.aM.map aj)),.p (.aV (a.values.map aI)),.p (.val (.int .i64 a.next.x0)),.p (.val (.int .i64 a.next.x1))]),(6,.box [.p (.val (.slice none 0 0)),.p (.val (.slice none 0 0)),.p (.val (.slice none 0 0)),.p (.val (.slice none 0 0)),.p (.val (.slice none 0 0)),.p (.val (.int .i64 0))]),(9,.box [.eY 1304 R.2.2,.row 1336 S.2.2]),(1304,.deep R.2.2 86 3 2 3 1 (V.2.map ag)),(1336,.row S.2.2 88 4 (S.2.1.map aj))])) (dw.trans (yL (by simp only[go_sem,d,t,g,aF,aC]<;>(first|exact keepTop (by repeat (first|exact Dx _|refine Dy (by decide) ?_|refine Dz (by decide) (by decide) ?_)) (by simp only[go_sem,aF,aC]) (by simp only[go_sem,aF,aC]) (by simp only[go_sem,aF,aC])|skip))) (kN 1304 R.2.2 86 3 2 3 1 (V.2.map ag) (by decide) (by simp only[go_sem,aF,aC]))) (.inr (.inr (lE 9 1000000 (by decide) (by simp only[go_sem,aF,aC]) (lE 1304 1000001 (by decide) (by simp only[go_sem,aF,aC]) (lE 1336 1000002 (by decide) (by simp only[go_sem,aF,aC]) (Dp o (by simp only[go_sem,aF,aC]<;>rfl) (by simp only[go_sem,jo,aF,aC]<;>rfl) ?_ ?_ ?_ ?_ ?_ ?_ ?_))))))
   ·simp only[go_sem,jo,aF,aC]
   ·simp only[go_sem,jo,aF,aC]
   ·simp only[go_sem,jo,aF,aC]
   ·simp only[go_sem,jo,aF,aC]
   ·simp only[go_sem,jo,aF,aC]
   ·simp only[go_sem,jo,aF,aC]
   simp only[go_sem,jo,kV,aF,aC];all_goals(and_intros)<;>rfl
 ·rw[y,Bool.not_false,cond_true] at h;cases h;simp only[go_sem,aF,aC];all_goals(and_intros)<;>rfl
theorem qh(v:Nat)(l r:List aG)(h:fu l=some r):kZ pw 60 v 57 3 (l.map aB) [] (λa c=>a = .row 1000000 (v+1)/\c=some (.row (v+1) 57 3 (r.map aB))):=by
 unfold fu gb at h;split at h;rotate_left
 ·cases h
 rename_i e;obtain⟨b,K,d⟩:=e;cases h;exact aql K l b d v
theorem ae6(p q:aH)(r:aH)(h:tL p q=some r):bw pw 61 [.agg (aF p),.agg (aF q)] (λv=>v = .agg [.row 86 3 (r.ax.map ag),.row 88 4 (r.aA.map aj),.p (.aV (r.aP.map ag)),.p (.aV (r.aM.map aj)),.row 91 4 (r.values.map aI),.p (.val (.int .i64 r.next.x0)),.p (.val (.int .i64 r.next.x1))]):=by obtain⟨⟨a,b,c,d,e,f⟩,rfl⟩:=sg h;exact ZG p q a b c d e f _ rfl
end Go.Proofs.YtnnpmiiegnedeaaGreat
namespace Go.cv
open Go.RowKit
theorem aka{e:Env}{H:az}(b off id:Nat)(ty:TypeId)(sz k:Nat)(q:TypeId)(v:Nat)(cs:List AV)(g:H b=some (.box cs))(G:cs[off]? = some (.p (.val (.slice none 0 0))))(s:H id=none)(J:k<sz) :
  dw e H e (bn (bn H id (.deep 0 ty sz k q v [])) b (.box (cs.set off (.eY id 0)))):=λC I L N w m=>by
 obtain⟨n1,K,M⟩:=Ke m s ty J q v;have n:=K e N m;have F:b≠id:=λh=>by rw[h,s] at g;cases g
 obtain⟨blk,arr,x,y,z,A,r,B,D⟩:=m.chunk b _ g;refine⟨I,_,{ n with dom:=λi l hl=>?_,chunk:=λi o f=>?_ }⟩
 ·obtain⟨c,a⟩:=n.dom i l hl;by_cases d:i=b
  ·exact⟨.box (cs.set off (.eY id 0)),by unfold bn;rw[if_pos d]⟩
  ·exact⟨c,by unfold bn at a ⊢;rw[if_neg d];exact a⟩
 ·by_cases d:i=b
  ·subst d;have:Chunk.box (cs.set off (.eY id 0))=o:=by simpa[bn] using f
   subst this;refine⟨blk,arr,x,by simp[ct,F,y],z,by simpa using A,λj u c t a=>?_,B,D⟩;rw[List.getElem?_set] at a;split at a
   ·rename_i E;subst E;split at a
    ·simp at a;subst a;have:=r off u _ t G;rw[this.eT.1];exact n1
    ·cases a
   ·exact (r j u c t a).mono (Mem.ep I) M
  ·exact n.chunk i o (by unfold bn at f ⊢;rw[if_neg d] at f;exact f)
theorem avb{P:Program}{N:Nat}{ai:List Nat}{ops:Array Oper}{K:Env->az->Prop}{af b:Env}{H a:az}(h:dw af H b a)(hw:vW P N ai ops K b a):vW P N ai ops K af H:=λC I L c w f g=>by obtain⟨d,e,i⟩:=h C I L c w g;exact hw C d e c w f i
end Go.cv
namespace Go.Proofs.YtnnpmiiegnedeaaGreat
open Go.cv
attribute [local go_sem] encI encS bI br aY lM aC
theorem vJ(a:Host)(r:Host)(h:cE a=some r):bw pw 44 [.agg (lM a)] (λv=>v = .agg [.row 3 1 (r.graph.nodes.map encI),.row 150 3 (r.graph.ak.map aY),.deep 32 1 0 3 1 (r.values.map bI)]):=by
 refine bF [18,25] func44 ntmps44 results44 ?_;unfold cE at h;have F:=trivial;refine zG 1112 F h (p5 _) λd h=>?_
 refine zV ?_;refine zN F h (0:Nat) [1,2,3] (λx=>[(4,.p (.val (.int .i64 ((x.1.1:Nat):Int))))]) [1,2,1112,1113] (λx H=>[(3,bx (H 3) [(2,.eY 3959 x.2)]),(3959,.deep x.2 32 1 0 3 1 (x.1.2.map bI))]) ?_ ?_ (hw:=by refine dw.trans (aka 3 2 3959 32 1 0 3 1 _ rfl rfl rfl (by decide)) ?_;exact zW)
 ·intro i s g _ _ F N h;try dsimp only at h
  refine zE [(0,.p),(1,.b),(3,.q),(4,.q),(5,.q),(6,.q),(7,.q),(2,.w),(8,.s),(9,.w),(10,.t),(11,.t),(12,.t)] ?_;refine zI bI F h λe F h=>?_
  refine zC F h λF h=>?_
  refine dc e.length 8 F λF=>?_
  refine zF (eq_true (dJ (n:=1) (f:=encI) (λ_=>rfl) e)) F λF=>?_
  refine zC F h λF h=>?_
  refine zF (show (s.length+1) * 24<=140737488355328 by omega) F λF=>?_
  refine zF (bt bI s [e] (c:=[[.aV (e.map encI)]]) rfl) F λF=>?_
  refine zV ?_;refine Ki 36 36 _ _ 3959 25 18 g 1 0 32 1 24 3 1 (s.map bI) (e.map encI) [.val (.slice none 0 0)] rfl (by simp only[go_sem,F]<;>rfl) (by simp only[go_sem,F]) (by simp only[go_sem,F]) (by simp only[go_sem,F]) (by simp only[go_sem,F]) (by simp only[go_sem,F]) rfl (by decide) ?_ ?_
  ·rw[List.length_map];omega
  exact zX (z:=N _ (g+1) h zW)
 ·intro i s g _ F h;try dsimp only at h
  exact jx h
theorem vK(a:ay)(r:ay)(h:dF a=some r):bw pw 91 [.agg (aC a)] (λv=>v = .agg [.row 3 1 (r.host.graph.nodes.map encI),.row 150 3 (r.host.graph.ak.map aY),.deep 32 1 0 3 1 (r.host.values.map bI),.row 3 1 (r.nodes.map encI),.row 3 1 (r.ak.map encI),.p (.val (.int .i64 r.next))]):=by
 refine bw.vg ?_;refine bF [6,9,10,13] func91 ntmps91 results91 ?_;unfold dF at h;have F:=trivial;refine zE [(0,.q),(1,.q),(4,.q),(5,.q),(8,.b),(9,.b),(11,.b),(12,.b),(2,.f),(3,.w),(6,.s),(7,.w),(10,.s),(13,.q),(14,.w)] ?_;refine zH 1080 F h (vJ _) λc h=>?_
 refine zC F h λF h=>?_
 refine dc a.nodes.length 8 F λF=>?_
 refine zF (eq_true (dJ (n:=1) (f:=encI) (λ_=>rfl) a.nodes)) F λF=>?_
 refine zC F h λF h=>?_
 refine dc a.ak.length 8 F λF=>?_
 refine zF (eq_true (dJ (n:=1) (f:=encI) (λ_=>rfl) a.ak)) F λF=>?_
 exact jx h
end Go.Proofs.YtnnpmiiegnedeaaGreat
namespace Go.Proofs
open Go.Shelf Go.RowKit Go.Lib Go.Sort
namespace YtnnpmiiegnedeaaGreat
open Go.cv
end YtnnpmiiegnedeaaGreat
end Go.Proofs
namespace Go.cv
open Go.Proofs.YtnnpmiiegnedeaaGreat
section
variable{P:Program}{k:FuncId}{α γ R:Type}{r:R}{F p:Prop}
end
end Go.cv
namespace Go.Proofs.YtnnpmiiegnedeaaGreat
open Go.cv
noncomputable section
theorem x9(l:List dM)(m:List dM)(r:Types)(h:js l m=some r):bw pw 15 [.aV (l.map er),.aV (m.map er)] (λv=>v = .agg [.row 135 4 (r.nodes.map aJ),.row 140 7 (r.ak.map aL)]):=by
 refine bw.vg ?_;refine bF [82,121] func15 ntmps15 results15 ?_;unfold js at h;have F:=trivial;refine zV ?_;refine zL F h (0:Nat) [0,1,4,5] (λx=>[(6,.p (.val (.int .i64 x.1.1)))]) [4] (λx H=>[(5,bx (H 5) [(0,.row 2611 x.2)]),(2611,.row x.2 135 4 (x.1.2.map aJ))]) ?_ (hw:=by refine dw.trans (cz 5 0 2611 135 4 _ rfl rfl rfl (by decide)) ?_;exact zW);intro a b _ _ F f h;try dsimp only at h
 refine rS F h (λF h=>?_) λF h=>?_
 ·refine zB F h (λF h=>?_) λF h=>?_
  ·refine zA er F h λd F h=>?_
   refine eZ 17 [.w,.s] ?_;refine zC F h λF h=>?_
   refine b5 ((0:Int)<=0) F λF=>?_
   refine b5 ((0:Int)<((2:Nat):Int)) F λF=>?_
   refine zC F h λF h=>?_
   refine b5 ((0:Int)<=0) F λF=>?_
   refine b5 ((0:Int)<((2:Nat):Int)) F λF=>?_
   refine b5 (¬ ((16:Int)=0)) F λF=>?_
   refine b5 (¬ ((4:Int)=0)) F λF=>?_
   refine zC F h λF h=>?_
   refine b5 ((0:Int)<=1) F λF=>?_
   refine b5 ((1:Int)<((2:Nat):Int)) F λF=>?_
   refine b5 (¬ ((4:Int)=0)) F λF=>?_
   refine zB F h (λF h=>?_) λF h=>?_
   ·refine b5 ((0:Int)<=1) F λF=>?_
    refine b5 ((1:Int)<((2:Nat):Int)) F λF=>?_
    refine b5 (¬ ((4:Int)=0)) F λF=>?_
    refine b5 (¬ ((9:Int)=0)) F λF=>?_
    refine zC F h λF h=>?_
    refine dc (a.2.length+1) 56 F λF=>?_
    exact zX (z:=f _ (b+1) h (by refine dw.trans (sJ 2611 (b+1) 135 4 aJ a.2 [(⟨((⟨#[65,66,67,68,69,70]⟩:ByteArray).extract a.1.toNat (i64.wrap (a.1+1)).toNat),(i64.wrap (((i64.wrap d.x0).tmod (i64.wrap (a.1+1)))-1)),(decide (((IntKind.u8.wrap (d.x0.tdiv 16)).tmod 4)=3)),[(⟨((⟨#[117,118,119,120,121,122]⟩:ByteArray).extract a.1.toNat (i64.wrap (a.1+1)).toNat),(-3),(i64.wrap (3+((i64.wrap (IntKind.u8.wrap (d.x1.tdiv 4))).tmod 9))),[]⟩:Attr)]⟩:ic)] (by simp -implicitDefEqProofs only[go_sem,F]<;>rfl) (by simp -implicitDefEqProofs only[go_sem,F]<;>and_intros<;>first|rfl|trivial)) ?_;exact zW))
   ·refine zB F h (λF h=>?_) λF h=>?_
    ·refine zC F h λF h=>?_
     refine dc (a.2.length+1) 56 F λF=>?_
     refine zF (bt aJ a.2 [(⟨((⟨#[65,66,67,68,69,70]⟩:ByteArray).extract a.1.toNat (i64.wrap (a.1+1)).toNat),(i64.wrap (((i64.wrap d.x0).tmod (i64.wrap (a.1+1)))-1)),(decide (((IntKind.u8.wrap (d.x0.tdiv 16)).tmod 4)=3)),[(⟨((⟨#[117,118,119,120,121,122]⟩:ByteArray).extract a.1.toNat (i64.wrap (a.1+1)).toNat),0,1,[(⟨#[111,102,102]⟩:ByteArray),(⟨#[111,110]⟩:ByteArray)]⟩:Attr)]⟩:ic)] (c:=[[.val (.string ((⟨#[65,66,67,68,69,70]⟩:ByteArray).extract a.1.toNat (i64.wrap (a.1+1)).toNat)),.val (.int .i64 (i64.wrap (((i64.wrap d.x0).tmod (i64.wrap (a.1+1)))-1))),.val (.bool (decide (((IntKind.u8.wrap (d.x0.tdiv 16)).tmod 4)=3))),.aV [[.val (.string ((⟨#[117,118,119,120,121,122]⟩:ByteArray).extract a.1.toNat (i64.wrap (a.1+1)).toNat)),.val (.int .i64 0),.val (.int .i64 1),.aV [[.val (.string (⟨#[111,102,102]⟩:ByteArray))],[.val (.string (⟨#[111,110]⟩:ByteArray))]]]]]]) rfl) F λF=>?_
     exact zX (z:=f _ (b+1) h zW)
    ·refine zC F h λF h=>?_
     refine dc (a.2.length+1) 56 F λF=>?_
     exact zX (z:=f _ (b+1) h (by refine dw.trans (sJ 2611 (b+1) 135 4 aJ a.2 [(⟨((⟨#[65,66,67,68,69,70]⟩:ByteArray).extract a.1.toNat (i64.wrap (a.1+1)).toNat),(i64.wrap (((i64.wrap d.x0).tmod (i64.wrap (a.1+1)))-1)),(decide (((IntKind.u8.wrap (d.x0.tdiv 16)).tmod 4)=3)),[]⟩:ic)] (by simp -implicitDefEqProofs only[go_sem,F]<;>rfl) (by simp -implicitDefEqProofs only[go_sem,F]<;>and_intros<;>first|rfl|trivial)) ?_;exact zW))
  ·refine eZ 17 [.w,.s] ?_;refine zC F h λF h=>?_
   refine b5 ((0:Int)<=0) F λF=>?_
   refine b5 ((0:Int)<((2:Nat):Int)) F λF=>?_
   refine zC F h λF h=>?_
   refine b5 ((0:Int)<=0) F λF=>?_
   refine b5 ((0:Int)<((2:Nat):Int)) F λF=>?_
   refine b5 (¬ ((16:Int)=0)) F λF=>?_
   refine b5 (¬ ((4:Int)=0)) F λF=>?_
   refine zC F h λF h=>?_
   refine b5 ((0:Int)<=1) F λF=>?_
   refine b5 ((1:Int)<((2:Nat):Int)) F λF=>?_
   refine b5 (¬ ((4:Int)=0)) F λF=>?_
   refine zB F h (λF h=>?_) λF h=>?_
   ·refine b5 ((0:Int)<=1) F λF=>?_
    refine b5 ((1:Int)<((2:Nat):Int)) F λF=>?_
    refine b5 (¬ ((4:Int)=0)) F λF=>?_
    refine b5 (¬ ((9:Int)=0)) F λF=>?_
    refine zC F h λF h=>?_
    refine dc (a.2.length+1) 56 F λF=>?_
    exact zX (z:=f _ (b+1) h (by refine dw.trans (sJ 2611 (b+1) 135 4 aJ a.2 [(⟨((⟨#[65,66,67,68,69,70]⟩:ByteArray).extract a.1.toNat (i64.wrap (a.1+1)).toNat),(i64.wrap (((i64.wrap 0).tmod (i64.wrap (a.1+1)))-1)),(decide (((IntKind.u8.wrap ((0:Int).tdiv 16)).tmod 4)=3)),[(⟨((⟨#[117,118,119,120,121,122]⟩:ByteArray).extract a.1.toNat (i64.wrap (a.1+1)).toNat),(-3),(i64.wrap (3+((i64.wrap (IntKind.u8.wrap ((0:Int).tdiv 4))).tmod 9))),[]⟩:Attr)]⟩:ic)] (by simp -implicitDefEqProofs only[go_sem,F]<;>rfl) (by simp -implicitDefEqProofs only[go_sem,F]<;>and_intros<;>first|rfl|trivial)) ?_;exact zW))
   ·refine zB F h (λF h=>?_) λF h=>?_
    ·refine zC F h λF h=>?_
     refine dc (a.2.length+1) 56 F λF=>?_
     refine zF (bt aJ a.2 [(⟨((⟨#[65,66,67,68,69,70]⟩:ByteArray).extract a.1.toNat (i64.wrap (a.1+1)).toNat),(i64.wrap (((i64.wrap 0).tmod (i64.wrap (a.1+1)))-1)),(decide (((IntKind.u8.wrap ((0:Int).tdiv 16)).tmod 4)=3)),[(⟨((⟨#[117,118,119,120,121,122]⟩:ByteArray).extract a.1.toNat (i64.wrap (a.1+1)).toNat),0,1,[(⟨#[111,102,102]⟩:ByteArray),(⟨#[111,110]⟩:ByteArray)]⟩:Attr)]⟩:ic)] (c:=[[.val (.string ((⟨#[65,66,67,68,69,70]⟩:ByteArray).extract a.1.toNat (i64.wrap (a.1+1)).toNat)),.val (.int .i64 (i64.wrap (((i64.wrap 0).tmod (i64.wrap (a.1+1)))-1))),.val (.bool (decide (((IntKind.u8.wrap ((0:Int).tdiv 16)).tmod 4)=3))),.aV [[.val (.string ((⟨#[117,118,119,120,121,122]⟩:ByteArray).extract a.1.toNat (i64.wrap (a.1+1)).toNat)),.val (.int .i64 0),.val (.int .i64 1),.aV [[.val (.string (⟨#[111,102,102]⟩:ByteArray))],[.val (.string (⟨#[111,110]⟩:ByteArray))]]]]]]) rfl) F λF=>?_
     exact zX (z:=f _ (b+1) h zW)
    ·refine zC F h λF h=>?_
     refine dc (a.2.length+1) 56 F λF=>?_
     exact zX (z:=f _ (b+1) h (by refine dw.trans (sJ 2611 (b+1) 135 4 aJ a.2 [(⟨((⟨#[65,66,67,68,69,70]⟩:ByteArray).extract a.1.toNat (i64.wrap (a.1+1)).toNat),(i64.wrap (((i64.wrap 0).tmod (i64.wrap (a.1+1)))-1)),(decide (((IntKind.u8.wrap ((0:Int).tdiv 16)).tmod 4)=3)),[]⟩:ic)] (by simp -implicitDefEqProofs only[go_sem,F]<;>rfl) (by simp -implicitDefEqProofs only[go_sem,F]<;>and_intros<;>first|rfl|trivial)) ?_;exact zW))
 ·refine nQ F h (λF h=>?_) λF h=>?_
  ·refine zB F h (λF h=>?_) λF h=>?_
   ·refine zA er F h λe F h=>?_
    refine eZ 17 [.w,.s] ?_;refine zC F h λF h=>?_
    refine b5 ((0:Int)<=0) F λF=>?_
    refine b5 ((0:Int)<((2:Nat):Int)) F λF=>?_
    refine zC F h λF h=>?_
    refine b5 ((0:Int)<=0) F λF=>?_
    refine b5 ((0:Int)<((2:Nat):Int)) F λF=>?_
    refine b5 (¬ ((16:Int)=0)) F λF=>?_
    refine b5 (¬ ((4:Int)=0)) F λF=>?_
    refine zC F h λF h=>?_
    refine b5 ((0:Int)<=1) F λF=>?_
    refine b5 ((1:Int)<((2:Nat):Int)) F λF=>?_
    refine b5 (¬ ((4:Int)=0)) F λF=>?_
    refine zB F h (λF h=>?_) λF h=>?_
    ·refine b5 ((0:Int)<=1) F λF=>?_
     refine b5 ((1:Int)<((2:Nat):Int)) F λF=>?_
     refine b5 (¬ ((4:Int)=0)) F λF=>?_
     refine b5 (¬ ((9:Int)=0)) F λF=>?_
     refine zC F h λF h=>?_
     refine dc (a.2.length+1) 56 F λF=>?_
     exact zX (z:=f _ (b+1) h (by refine dw.trans (sJ 2611 (b+1) 135 4 aJ a.2 [(⟨((⟨#[65,66,67,68,69,70]⟩:ByteArray).extract a.1.toNat (i64.wrap (a.1+1)).toNat),(i64.wrap (((i64.wrap e.x0).tmod (i64.wrap (a.1+1)))-1)),(decide (((IntKind.u8.wrap (e.x0.tdiv 16)).tmod 4)=3)),[(⟨((⟨#[117,118,119,120,121,122]⟩:ByteArray).extract a.1.toNat (i64.wrap (a.1+1)).toNat),(-3),(i64.wrap (3+((i64.wrap (IntKind.u8.wrap (e.x1.tdiv 4))).tmod 9))),[]⟩:Attr)]⟩:ic)] (by simp -implicitDefEqProofs only[go_sem,F]<;>rfl) (by simp -implicitDefEqProofs only[go_sem,F]<;>and_intros<;>first|rfl|trivial)) ?_;exact zW))
    ·refine zB F h (λF h=>?_) λF h=>?_
     ·refine zC F h λF h=>?_
      refine dc (a.2.length+1) 56 F λF=>?_
      refine zF (bt aJ a.2 [(⟨((⟨#[65,66,67,68,69,70]⟩:ByteArray).extract a.1.toNat (i64.wrap (a.1+1)).toNat),(i64.wrap (((i64.wrap e.x0).tmod (i64.wrap (a.1+1)))-1)),(decide (((IntKind.u8.wrap (e.x0.tdiv 16)).tmod 4)=3)),[(⟨((⟨#[117,118,119,120,121,122]⟩:ByteArray).extract a.1.toNat (i64.wrap (a.1+1)).toNat),0,1,[(⟨#[111,102,102]⟩:ByteArray),(⟨#[111,110]⟩:ByteArray)]⟩:Attr)]⟩:ic)] (c:=[[.val (.string ((⟨#[65,66,67,68,69,70]⟩:ByteArray).extract a.1.toNat (i64.wrap (a.1+1)).toNat)),.val (.int .i64 (i64.wrap (((i64.wrap e.x0).tmod (i64.wrap (a.1+1)))-1))),.val (.bool (decide (((IntKind.u8.wrap (e.x0.tdiv 16)).tmod 4)=3))),.aV [[.val (.string ((⟨#[117,118,119,120,121,122]⟩:ByteArray).extract a.1.toNat (i64.wrap (a.1+1)).toNat)),.val (.int .i64 0),.val (.int .i64 1),.aV [[.val (.string (⟨#[111,102,102]⟩:ByteArray))],[.val (.string (⟨#[111,110]⟩:ByteArray))]]]]]]) rfl) F λF=>?_
      exact zX (z:=f _ (b+1) h zW)
     ·refine zC F h λF h=>?_
      refine dc (a.2.length+1) 56 F λF=>?_
      exact zX (z:=f _ (b+1) h (by refine dw.trans (sJ 2611 (b+1) 135 4 aJ a.2 [(⟨((⟨#[65,66,67,68,69,70]⟩:ByteArray).extract a.1.toNat (i64.wrap (a.1+1)).toNat),(i64.wrap (((i64.wrap e.x0).tmod (i64.wrap (a.1+1)))-1)),(decide (((IntKind.u8.wrap (e.x0.tdiv 16)).tmod 4)=3)),[]⟩:ic)] (by simp -implicitDefEqProofs only[go_sem,F]<;>rfl) (by simp -implicitDefEqProofs only[go_sem,F]<;>and_intros<;>first|rfl|trivial)) ?_;exact zW))
   ·try dsimp only at h
    refine zV ?_;refine zL F h (0:Nat) [1,4,5] (λx=>[(10,.p (.val (.int .i64 x.1.1)))]) [4,2611] (λx H=>[(5,bx (H 5) [(1,.row 2907 x.2)]),(2907,.row x.2 140 7 (x.1.2.map aL))]) ?_ (hw:=by refine dw.trans (cz 5 1 2907 140 7 _ rfl rfl rfl (by decide)) ?_;exact zW);intro g t _ _ F n h;try dsimp only at h
    refine nQ F h (λF h=>?_) λF h=>?_
    ·refine zB F h (λF h=>?_) λF h=>?_
     ·refine zE [(0,.p),(2,.q),(3,.q),(4,.q),(5,.q),(6,.q),(7,.q),(8,.q),(9,.q),(10,.q),(11,.q),(12,.q),(13,.q),(14,.q),(15,.q),(16,.q),(17,.q),(18,.q),(19,.q),(20,.q),(21,.q),(22,.q),(23,.p),(1,.q),(24,.w),(25,.q),(26,.w)] ?_;refine zC F h λF h=>?_
      refine zA er F h λj F h=>?_
      refine b5 ((0:Int)<=0) F λF=>?_
      refine b5 ((0:Int)<((2:Nat):Int)) F λF=>?_
      refine zC F h λF h=>?_
      refine b5 ((0:Int)<=1) F λF=>?_
      refine b5 ((1:Int)<((2:Nat):Int)) F λF=>?_
      refine zC F h λF h=>?_
      refine zC F h λF h=>?_
      refine dc (g.2.length+1) 64 F λF=>?_
      refine zF (bt aL g.2 [(⟨((⟨#[101,102,103,104,105]⟩:ByteArray).extract g.1.toNat (i64.wrap (g.1+1)).toNat),((i64.wrap j.x0).tmod ((a.2.length:Nat):Int)),((i64.wrap j.x1).tmod ((a.2.length:Nat):Int)),0,(-1),0,(-1)⟩:mI)] (c:=[[.val (.string ((⟨#[101,102,103,104,105]⟩:ByteArray).extract g.1.toNat (i64.wrap (g.1+1)).toNat)),.val (.int .i64 ((i64.wrap j.x0).tmod ((a.2.length:Nat):Int))),.val (.int .i64 ((i64.wrap j.x1).tmod ((a.2.length:Nat):Int))),.val (.int .i64 0),.val (.int .i64 (-1)),.val (.int .i64 0),.val (.int .i64 (-1))]]) rfl) F λF=>?_
      exact zX (z:=n _ (t+1) h zW)
     ·try dsimp only at h
      exact jx h
    ·try dsimp only at h
     exact jx h
  ·try dsimp only at h
   refine zV ?_;refine zL F h (0:Nat) [1,4,5] (λx=>[(10,.p (.val (.int .i64 x.1.1)))]) [4,2611] (λx H=>[(5,bx (H 5) [(1,.row 3014 x.2)]),(3014,.row x.2 140 7 (x.1.2.map aL))]) ?_ (hw:=by refine dw.trans (cz 5 1 3014 140 7 _ rfl rfl rfl (by decide)) ?_;exact zW);intro i u _ _ F o h;try dsimp only at h
   refine nQ F h (λF h=>?_) λF h=>?_
   ·refine zB F h (λF h=>?_) λF h=>?_
    ·refine zE [(0,.p),(2,.q),(3,.q),(4,.q),(5,.q),(6,.q),(7,.q),(8,.q),(9,.q),(10,.q),(11,.q),(12,.q),(13,.q),(14,.q),(15,.q),(16,.q),(17,.q),(18,.q),(19,.q),(20,.q),(21,.q),(22,.q),(23,.p),(1,.q),(24,.w),(25,.q),(26,.w)] ?_;refine zC F h λF h=>?_
     refine zA er F h λk F h=>?_
     refine b5 ((0:Int)<=0) F λF=>?_
     refine b5 ((0:Int)<((2:Nat):Int)) F λF=>?_
     refine zC F h λF h=>?_
     refine b5 ((0:Int)<=1) F λF=>?_
     refine b5 ((1:Int)<((2:Nat):Int)) F λF=>?_
     refine zC F h λF h=>?_
     refine zC F h λF h=>?_
     refine dc (i.2.length+1) 64 F λF=>?_
     refine zF (bt aL i.2 [(⟨((⟨#[101,102,103,104,105]⟩:ByteArray).extract i.1.toNat (i64.wrap (i.1+1)).toNat),((i64.wrap k.x0).tmod ((a.2.length:Nat):Int)),((i64.wrap k.x1).tmod ((a.2.length:Nat):Int)),0,(-1),0,(-1)⟩:mI)] (c:=[[.val (.string ((⟨#[101,102,103,104,105]⟩:ByteArray).extract i.1.toNat (i64.wrap (i.1+1)).toNat)),.val (.int .i64 ((i64.wrap k.x0).tmod ((a.2.length:Nat):Int))),.val (.int .i64 ((i64.wrap k.x1).tmod ((a.2.length:Nat):Int))),.val (.int .i64 0),.val (.int .i64 (-1)),.val (.int .i64 0),.val (.int .i64 (-1))]]) rfl) F λF=>?_
     exact zX (z:=o _ (u+1) h zW)
    ·try dsimp only at h
     exact jx h
   ·try dsimp only at h
    exact jx h
end
noncomputable section
theorem di(a:List Int)(b:Int)(r:Int)(h:bW a b=some r):aS pw 94 [.aV (a.map encI),.val (.int .i64 b)] (λv=>v = .val (.int .i64 r)):=by
 refine aS.oA ?_;refine aR [] func94 ntmps94 results94 ?_;unfold bW at h;have F:=trivial;refine zV ?_;refine zN F h () [0,1] (λx=>[(5,.p (.val (.int .i64 ((x.1.1:Nat):Int))))]) [] (λx H=>[]) ?_ ?_
 ·intro d f c _ _ F e h;try dsimp only at h
  refine zI encI F h λg F h=>?_
  refine zB F h (λF h=>?_) λF h=>?_
  ·exact zR h
  ·exact zX (z:=e _ () h zW)
 ·intro d f c _ F h;try dsimp only at h
  exact zR h
theorem aan(a:List bJ)(b:bJ)(r:Bool)(h:gY a b=some r):aS pw 106 [.aV (a.map bZ),.agg (bZ b)] (λv=>v = .val (.bool r)):=by
 refine aS.oA ?_;refine aR [] func106 ntmps106 results106 ?_;unfold gY at h;have F:=trivial;refine zV ?_;refine zN F h () [0,3] (λx=>[(5,.p (.val (.int .i64 ((x.1.1:Nat):Int))))]) [3] (λx H=>[]) ?_ ?_
 ·intro d f c _ _ F e h;try dsimp only at h
  refine eZ 6 [] ?_;refine zI bZ F h λg F h=>?_
  refine zB F h (λF h=>?_) λF h=>?_
  ·exact zR h
  ·exact zX (z:=e _ () h zW)
 ·intro d f c _ F h;try dsimp only at h
  exact zR h
theorem ae7(a:ah)(b:aH)(r:Bool)(h:nU a b=some r):aS pw 110 [.agg (ag a),.eF (aF b) 0] (λv=>v = .val (.bool r)):=by
 refine aS.oA ?_;refine aR [] func110 ntmps110 results110 ?_;unfold nU at h;have F:=trivial;refine b5 ((0:Int)<=0) F λF=>?_
 refine b5 ((0:Int)<((2:Nat):Int)) F λF=>?_
 exact zR h
theorem fU(i:eU)(j:Int)(k:Int)(r:(List Int))(h:b9 i j k=some r):aS pw 31 [.agg [.aV (i.nodes.map encI),.aV (i.ak.map aY)],.val (.int .i64 j),.val (.int .i64 k)] (λv=>v = .aV (r.map encI)):=by
 refine aS.oA ?_;refine aR [60,64] func31 ntmps31 results31 ?_;unfold b9 at h;have F:=trivial;refine zV ?_;refine zN F h () [1,2,3] (λx=>[(7,.p (.aV (x.1.2.map encI))),(8,.p (.val (.int .i64 ((x.1.1:Nat):Int))))]) [3] (λx H=>[]) ?_ ?_
 ·intro e a m _ _ F g h;try dsimp only at h
  refine zI aY F h λo F h=>?_
  refine nQ F h (λF h=>?_) λF h=>?_
  ·refine oM F h (λF h=>?_) λF h=>?_
   ·refine zV ?_;refine zL F h () [1,2,3,7,8] (λx=>[(9,.p (.val (.int .i64 x.1)))]) [3] (λx H=>[]) ?_;intro d y _ _ F l h;try dsimp only at h
    refine eZ 21 [] ?_;refine mE F h (λF h=>?_) λF h=>?_
    ·refine zA encI F h λt F h=>?_
     refine zA aY F h λu F h=>?_
     refine zB F h (λF h=>?_) λF h=>?_
     ·exact zX (z:=l _ () h zW)
     ·try dsimp only at h
      refine zE [(1,.p),(2,.p),(5,.b),(6,.p),(0,.w),(3,.q),(4,.s),(7,.w),(8,.q),(9,.q),(10,.q),(11,.w),(12,.q)] ?_;refine zC F h λF h=>?_
      refine zF (eq_true (dJ (n:=1) (f:=encI) (λ_=>rfl) a)) F λF=>?_
      refine zC F h λF h=>?_
      refine dc ((a.take d.toNat).length) 8 F λF=>?_
      refine zF (eq_true (dJ (n:=1) (f:=encI) (λ_=>rfl) (a.take d.toNat))) F λF=>?_
      refine zC F h λF h=>?_
      refine dc ((a.take d.toNat).length+1) 8 F λF=>?_
      refine zF (bt encI (a.take d.toNat) [((e:Nat):Int)] (c:=[[.val (.int .i64 ((e:Nat):Int))]]) rfl) F λF=>?_
      refine zC F h λF h=>?_
      refine zF (eq_true (dJ (n:=1) (f:=encI) (λ_=>rfl) a)) F λF=>?_
      refine zC F h λF h=>?_
      refine dc ((a.take d.toNat).length+1+(a.drop d.toNat).length) 8 F λF=>?_
      refine zF (eq_true (dJ (n:=1) (f:=encI) (λ_=>rfl) (a.drop d.toNat))) F λF=>?_
      exact zX (z:=g _ () h (by refine dw.trans (Dg 60 3 3 1 ((((a.take d.toNat)++[((e:Nat):Int)])++(a.drop d.toNat)).map encI) [7,71] (by simp -implicitDefEqProofs only[go_sem,F]<;>rfl) (by simp -implicitDefEqProofs only[go_sem,F]<;>and_intros<;>rfl) (by decide)) ?_;exact zW))
    ·try dsimp only at h
     refine zE [(1,.p),(2,.p),(5,.b),(6,.p),(0,.w),(3,.q),(4,.s),(7,.w),(8,.q),(9,.q),(10,.q),(11,.w),(12,.q)] ?_;refine zC F h λF h=>?_
     refine zF (eq_true (dJ (n:=1) (f:=encI) (λ_=>rfl) a)) F λF=>?_
     refine zC F h λF h=>?_
     refine dc ((a.take d.toNat).length) 8 F λF=>?_
     refine zF (eq_true (dJ (n:=1) (f:=encI) (λ_=>rfl) (a.take d.toNat))) F λF=>?_
     refine zC F h λF h=>?_
     refine dc ((a.take d.toNat).length+1) 8 F λF=>?_
     refine zF (bt encI (a.take d.toNat) [((e:Nat):Int)] (c:=[[.val (.int .i64 ((e:Nat):Int))]]) rfl) F λF=>?_
     refine zC F h λF h=>?_
     refine zF (eq_true (dJ (n:=1) (f:=encI) (λ_=>rfl) a)) F λF=>?_
     refine zC F h λF h=>?_
     refine dc ((a.take d.toNat).length+1+(a.drop d.toNat).length) 8 F λF=>?_
     refine zF (eq_true (dJ (n:=1) (f:=encI) (λ_=>rfl) (a.drop d.toNat))) F λF=>?_
     exact zX (z:=g _ () h (by refine dw.trans (Dg 60 3 3 1 ((((a.take d.toNat)++[((e:Nat):Int)])++(a.drop d.toNat)).map encI) [7,71] (by simp -implicitDefEqProofs only[go_sem,F]<;>rfl) (by simp -implicitDefEqProofs only[go_sem,F]<;>and_intros<;>rfl) (by decide)) ?_;exact zW))
   ·exact zX (z:=g _ () h zW)
  ·exact zX (z:=g _ () h zW)
 ·intro e a m _ F h;try dsimp only at h
  exact zR h
end
noncomputable section
theorem vk(a:List Int)(b:List Int)(r:Bool)(h:gV a b=some r):aS pw 271 [.aV (a.map encI),.aV (b.map encI)] (λv=>v = .val (.bool r)):=by
 refine aS.oA ?_;refine aR [] func271 ntmps271 results271 ?_;unfold gV at h;have F:=trivial;refine oM F h (λF h=>?_) λF h=>?_
 ·refine zV ?_;refine zN F h () [0,1] (λx=>[(5,.p (.val (.int .i64 ((x.1.1:Nat):Int))))]) [] (λx H=>[]) ?_ ?_
  ·intro d f c _ _ F e h;try dsimp only at h
   refine eZ 9 [] ?_;refine zI encI F h λg F h=>?_
   refine zI encI F h λi F h=>?_
   refine oM F h (λF h=>?_) λF h=>?_
   ·exact zX (z:=e _ () h zW)
   ·exact zR h
  ·intro d f c _ F h;try dsimp only at h
   exact zR h
 ·exact zR h
theorem jj(i:aO)(d:aQ)(r:aO×Bool)(h:cV i d=some r):bw pw 275 [.agg [.aV (i.nodes.map ag),.aV (i.ak.map aj)],.agg (aI d)] (λv=>v = .dY [.agg [.row 86 3 (r.1.nodes.map ag),.p (.aV (r.1.ak.map aj))],.p (.val (.bool r.2))]):=by
 refine bw.vg ?_;refine bF [61,64,77] func275 ntmps275 results275 ?_;unfold cV at h;have F:=trivial;refine zV ?_;refine zN F h (0:Nat) [2,3,4,6] (λx=>[(7,.p (.val (.bool x.1.2.2))),(8,.p (.val (.int .i64 ((x.1.1:Nat):Int))))]) [2,3,4] (λx H=>[(6,bx (H 6) [(0,.row 6940 x.2)]),(6940,.row x.2 86 3 (x.1.2.1.map ag))]) ?_ ?_ (hw:=by refine dw.trans (cz 6 0 6940 86 3 _ rfl rfl rfl (by decide)) ?_;exact zW)
 ·intro j b e _ _ F g h;try dsimp only at h
  refine zI ag F h λa F h=>?_
  refine eZ 36 [] ?_;refine mE F h (λF h=>?_) λF h=>?_
  ·refine mE F h (λF h=>?_) λF h=>?_
   ·refine mE F h (λF h=>?_) λF h=>?_
    ·refine zA encI F h λk F h=>?_
     refine mE F h (λF h=>?_) λF h=>?_
     ·refine oM F h (λF h=>?_) λF h=>?_
      ·refine zC F h λF h=>?_
       refine dc (b.1.length+1) 40 F λF=>?_
       refine zF (bt ag b.1 [a] (c:=[[.val (.int .i64 a.id),.val (.int .i64 a.type),.aV (a.values.map encI)]]) rfl) F λF=>?_
       exact zX (z:=g _ (e+1) h zW)
      ·refine zC F h λF h=>?_
       refine dc a.values.length 8 F λF=>?_
       refine zF (eq_true (dJ (n:=1) (f:=encI) (λ_=>rfl) a.values)) F λF=>?_
       refine zF (ve encI a.values d.attr.toNat d.new (c:=[.val (.int .i64 d.new)]) rfl) F λF=>?_
       refine zC F h λF h=>?_
       refine dc (b.1.length+1) 40 F λF=>?_
       refine zF (bt ag b.1 [(⟨a.id,a.type,(a.values.set d.attr.toNat d.new)⟩:ah)] (c:=[[.val (.int .i64 a.id),.val (.int .i64 a.type),.aV ((a.values.set d.attr.toNat d.new).map encI)]]) rfl) F λF=>?_
       exact zX (z:=g _ (e+1) h zW)
     ·refine zC F h λF h=>?_
      refine dc (b.1.length+1) 40 F λF=>?_
      refine zF (bt ag b.1 [a] (c:=[[.val (.int .i64 a.id),.val (.int .i64 a.type),.aV (a.values.map encI)]]) rfl) F λF=>?_
      exact zX (z:=g _ (e+1) h zW)
    ·refine zC F h λF h=>?_
     refine dc (b.1.length+1) 40 F λF=>?_
     refine zF (bt ag b.1 [a] (c:=[[.val (.int .i64 a.id),.val (.int .i64 a.type),.aV (a.values.map encI)]]) rfl) F λF=>?_
     exact zX (z:=g _ (e+1) h zW)
   ·refine zC F h λF h=>?_
    refine dc (b.1.length+1) 40 F λF=>?_
    refine zF (bt ag b.1 [a] (c:=[[.val (.int .i64 a.id),.val (.int .i64 a.type),.aV (a.values.map encI)]]) rfl) F λF=>?_
    exact zX (z:=g _ (e+1) h zW)
  ·refine zC F h λF h=>?_
   refine dc (b.1.length+1) 40 F λF=>?_
   refine zF (bt ag b.1 [a] (c:=[[.val (.int .i64 a.id),.val (.int .i64 a.type),.aV (a.values.map encI)]]) rfl) F λF=>?_
   exact zX (z:=g _ (e+1) h zW)
 ·intro j b e _ F h;try dsimp only at h
  exact jx h
theorem nN(a:aH)(b:Int)(r:Bool)(h:fW a b=some r):aS pw 100 [.agg (aF a),.val (.int .i64 b)] (λv=>v = .val (.bool r)):=by
 refine aS.oA ?_;refine aR [] func100 ntmps100 results100 ?_;unfold fW at h;have F:=trivial;refine zV ?_;refine zN F h () [1,2] (λx=>[(5,.p (.val (.int .i64 ((x.1.1:Nat):Int))))]) [2] (λx H=>[]) ?_ ?_
 ·intro d f c _ _ F e h;try dsimp only at h
  refine zI aj F h λg F h=>?_
  refine rS F h (λF h=>?_) λF h=>?_
  ·exact zR h
  ·refine zB F h (λF h=>?_) λF h=>?_
   ·exact zR h
   ·exact zX (z:=e _ () h zW)
 ·intro d f c _ F h;try dsimp only at h
  exact zR h
theorem ac1(a:ah)(b:Int)(r:Bool)(h:lR a b=some r):aS pw 113 [.agg (ag a),.eF [.val (.int .i64 b)] 0] (λv=>v = .val (.bool r)):=by refine aS.oA ?_;refine aR [] func113 ntmps113 results113 ?_;unfold lR at h;have F:=trivial;exact zR h
theorem aqn(a:Types)(b:Int)(c:Int)(r:Bool)(h:vj a b c=some r):aS pw 250 [.agg [.aV (a.nodes.map aJ),.aV (a.ak.map aL)],.val (.int .i64 b),.val (.int .i64 c)] (λv=>v = .val (.bool r)):=by
 refine aS.oA ?_;refine aR [] func250 ntmps250 results250 ?_;unfold vj at h;have F:=trivial;refine zK F h (Ze _ _) λd h=>?_
 refine nQ F h (λF h=>?_) λF h=>?_
 ·refine zK F h (Zf _ _ _) λe h=>?_
  exact zR h
 ·exact zR h
end
noncomputable section
theorem rB(a:ay)(c:Int)(r:ah)(h:ir a c=some r):bw pw 163 [.agg (aC a),.val (.int .i64 c)] (λv=>v = .agg [.p (.val (.int .i64 r.id)),.p (.val (.int .i64 r.type)),.row 3 1 (r.values.map encI)]):=by
 refine bw.vg ?_;refine bF [17,24] func163 ntmps163 results163 ?_;unfold ir at h;have F:=trivial;refine zE [(0,.b),(1,.b),(2,.b),(3,.b),(4,.b),(5,.b),(6,.b),(7,.b),(8,.b),(9,.b),(10,.b),(11,.b),(13,.q),(14,.q),(15,.q),(16,.q),(17,.q),(18,.q),(12,.w),(19,.s),(20,.q),(21,.w)] ?_;refine zA encI F h λe F h=>?_
 refine zA encI F h λg F h=>?_
 refine zA bI F h λd F h=>?_
 refine zC F h λF h=>?_
 refine dc d.length 8 F λF=>?_
 refine zF (eq_true (dJ (n:=1) (f:=encI) (λ_=>rfl) d)) F λF=>?_
 exact jx h
theorem mj(a:aO)(e:au)(r:aO×Bool)(h:cI a e=some r):aS pw 159 [.agg [.aV (a.nodes.map ag),.aV (a.ak.map aj)],.agg (aj e)] (λv=>v = .dY [.agg [.aV (r.1.nodes.map ag),.aV (r.1.ak.map aj)],.val (.bool r.2)]):=by
 refine aS.oA ?_;refine aR [23,28] func159 ntmps159 results159 ?_;unfold cI at h;have F:=trivial;refine zV ?_;refine zN F h () [2,3,4] (λx=>[(6,.p (.val (.int .i64 ((x.1.1:Nat):Int))))]) [2,3,4] (λx H=>[]) ?_ ?_
 ·intro c j g _ _ F i h;try dsimp only at h
  have d:=F.2.2;refine eZ 7 [] ?_;refine zI aj F h λk F h=>?_
  refine zB F h (λF h=>?_) λF h=>?_
  ·refine zE [(0,.b),(1,.b),(3,.q),(4,.q),(5,.q),(6,.q),(8,.b),(9,.b),(2,.w),(7,.s),(10,.q),(11,.q),(12,.q),(13,.w),(14,.q),(15,.w),(16,.q)] ?_;refine zC F h λF h=>?_
   refine zF (eq_true (dJ (n:=4) (f:=aj) (λ_=>rfl) a.ak)) F λF=>?_
   refine zC F h λF h=>?_
   refine dc ((a.ak.take c).length) 32 F λF=>?_
   refine zF (eq_true (dJ (n:=4) (f:=aj) (λ_=>rfl) (a.ak.take c))) F λF=>?_
   refine zC F h λF h=>?_
   have w:=F.2;simp only[d,Int.toNat_natCast] at w;replace F:=And.intro F w;refine zF (eq_true (dJ (n:=4) (f:=aj) (λ_=>rfl) a.ak)) F λF=>?_
   refine zC F h λF h=>?_
   have w:=F.2;simp only[d,Int.toNat_natCast] at w;replace F:=And.intro F w;refine dc ((a.ak.take c).length+(a.ak.drop (i64.wrap (((c:Nat):Int)+1)).toNat).length) 32 F λF=>?_
   have w:=F.2;simp only[d,Int.toNat_natCast] at w;replace F:=And.intro F w;refine zF (eq_true (dJ (n:=4) (f:=aj) (λ_=>rfl) (a.ak.drop (i64.wrap (((c:Nat):Int)+1)).toNat))) F λF=>?_
   have w:=F.2;simp only[d,Int.toNat_natCast] at w;replace F:=And.intro F w;exact zR h
  ·exact zX (z:=i _ () h zW)
 ·intro c j g _ F h;try dsimp only at h
  exact zR h
theorem mU(a:List ah)(r:Bool)(h:dZ a=some r):aS pw 272 [.aV (a.map ag)] (λv=>v = .val (.bool r)):=by
 refine aS.oA ?_;refine aR [] func272 ntmps272 results272 ?_;unfold dZ at h;have F:=trivial;refine zV ?_;refine zN F h () [0] (λx=>[(3,.p (.val (.int .i64 ((x.1.1:Nat):Int))))]) [] (λx H=>[]) ?_ ?_
 ·intro d e c _ _ F b h;try dsimp only at h
  refine eZ 12 [] ?_;refine zI ag F h λf F h=>?_
  refine zA ag F h λg F h=>?_
  refine zB F h (λF h=>?_) λF h=>?_
  ·exact zR h
  ·exact zX (z:=b _ () h zW)
 ·intro d e c _ F h;try dsimp only at h
  exact zR h
theorem rT(b:List aQ)(r:Bool)(h:fk b=some r):aS pw 274 [.aV (b.map aI)] (λv=>v = .val (.bool r)):=by
 refine aS.oA ?_;refine aR [] func274 ntmps274 results274 ?_;unfold fk at h;have F:=trivial;refine zV ?_;refine zN F h () [0] (λx=>[(3,.p (.val (.int .i64 ((x.1.1:Nat):Int))))]) [] (λx H=>[]) ?_ ?_
 ·intro d e c _ _ F a h;try dsimp only at h
  refine eZ 40 [] ?_;refine zI aI F h λf F h=>?_
  refine zA aI F h λg F h=>?_
  refine AZ F h (λF h=>?_) λF h=>?_
  ·exact zR h
  ·refine mE F h (λF h=>?_) λF h=>?_
   ·refine zB F h (λF h=>?_) λF h=>?_
    ·exact zR h
    ·exact zX (z:=a _ () h zW)
   ·exact zX (z:=a _ () h zW)
 ·intro d e c _ F h;try dsimp only at h
  exact zR h
theorem ae8(a:au)(b:aH)(r:Bool)(h:nV a b=some r):aS pw 112 [.agg (aj a),.eF (aF b) 0] (λv=>v = .val (.bool r)):=by
 refine aS.oA ?_;refine aR [] func112 ntmps112 results112 ?_;unfold nV at h;have F:=trivial;refine b5 ((0:Int)<=0) F λF=>?_
 refine b5 ((0:Int)<((2:Nat):Int)) F λF=>?_
 exact zR h
theorem za(a:List Int)(b:Int)(r:Bool)(h:jI a b=some r):aS pw 69 [.aV (a.map encI),.val (.int .i64 b)] (λv=>v = .val (.bool r)):=by
 refine aS.oA ?_;refine aR [] func69 ntmps69 results69 ?_;unfold jI at h;have F:=trivial;refine zV ?_;refine zN F h () [0,1] (λx=>[(5,.p (.val (.int .i64 ((x.1.1:Nat):Int))))]) [] (λx H=>[]) ?_ ?_
 ·intro d f c _ _ F e h;try dsimp only at h
  refine zI encI F h λg F h=>?_
  refine zB F h (λF h=>?_) λF h=>?_
  ·exact zR h
  ·exact zX (z:=e _ () h zW)
 ·intro d f c _ F h;try dsimp only at h
  exact zR h
end
noncomputable section
theorem qF(a:aH)(r:Bool)(h:gK a=some r):aS pw 98 [.agg (aF a)] (λv=>v = .val (.bool r)):=by
 refine aS.oA ?_;refine aR [] func98 ntmps98 results98 ?_;unfold gK at h;have F:=trivial;refine zV ?_;refine zN F h () [1] (λx=>[(3,.p (.val (.int .i64 ((x.1.1:Nat):Int))))]) [1] (λx H=>[]) ?_ ?_
 ·intro e g c _ _ F b h;try dsimp only at h
  refine eZ 10 [] ?_;refine zI ag F h λk F h=>?_
  refine b5 ((0:Int)<=0) F λF=>?_
  refine b5 ((0:Int)<((2:Nat):Int)) F λF=>?_
  refine zB F h (λF h=>?_) λF h=>?_
  ·exact zR h
  ·exact zX (z:=b _ () h zW)
 ·intro e g c _ F h;try dsimp only at h
  refine zV ?_;refine zN F h () [1] (λx=>[(4,.p (.val (.int .i64 ((x.1.1:Nat):Int))))]) [1] (λx H=>[]) ?_ ?_
  ·intro f i d _ _ F j h;try dsimp only at h
   refine eZ 10 [] ?_;refine zI aj F h λl F h=>?_
   refine b5 ((0:Int)<=0) F λF=>?_
   refine b5 ((0:Int)<((2:Nat):Int)) F λF=>?_
   refine zB F h (λF h=>?_) λF h=>?_
   ·exact zR h
   ·exact zX (z:=j _ () h zW)
  ·intro f i d _ F h;try dsimp only at h
   refine b5 ((0:Int)<=1) F λF=>?_
   refine b5 ((1:Int)<((2:Nat):Int)) F λF=>?_
   refine b5 ((0:Int)<=0) F λF=>?_
   refine b5 ((0:Int)<((2:Nat):Int)) F λF=>?_
   exact zR h
theorem ya(a:aH)(b:Int)(r:Bool)(h:jv a b=some r):aS pw 166 [.agg (aF a),.val (.int .i64 b)] (λv=>v = .val (.bool r)):=by
 refine aS.oA ?_;refine aR [] func166 ntmps166 results166 ?_;unfold jv at h;have F:=trivial;refine zV ?_;refine zN F h () [1,2] (λx=>[(5,.p (.val (.int .i64 ((x.1.1:Nat):Int))))]) [2] (λx H=>[]) ?_ ?_
 ·intro d f c _ _ F e h;try dsimp only at h
  refine zI aj F h λg F h=>?_
  refine zB F h (λF h=>?_) λF h=>?_
  ·exact zR h
  ·exact zX (z:=e _ () h zW)
 ·intro d f c _ F h;try dsimp only at h
  exact zR h
theorem tM(a:List au)(e:au->Option Bool)(d:FuncId)(c b:List PV)(g:∀x0 r,e x0=some r->aS pw d (c++[.agg (aj x0)]++b) (λv=>v = .val (.bool r)))(r:Int)(h:gr a e=some r):aS pw 181 [.aV (a.map aj),.iT (.func d) c b] (λv=>v = .val (.int .i64 r)):=by
 refine aS.oA ?_;refine aR [] func181 ntmps181 results181 ?_;unfold gr at h;have F:=trivial;refine zV ?_;refine zN F h () [0,1,7] (λx=>[(8,.p (.val (.int .i64 ((x.1.1:Nat):Int))))]) [] (λx H=>[]) ?_ ?_
 ·intro i k f _ _ F j h;try dsimp only at h
  refine zI aj F h λl F h=>?_
  refine zP F h (g _) λm h=>?_
  refine zB F h (λF h=>?_) λF h=>?_
  ·exact zR h
  ·exact zX (z:=j _ () h zW)
 ·intro i k f _ F h;try dsimp only at h
  exact zR h
theorem ov(a:Int)(b:aH)(c:Int)(r:Int)(h:iK a b c=some r):aS pw 130 [.val (.int .i64 a),.eF (aF b) 0,.eF [.val (.int .i64 c)] 0] (λv=>v = .val (.int .i64 r)):=by
 refine aS.oA ?_;refine aR [] func130 ntmps130 results130 ?_;unfold iK at h;have F:=trivial;refine b5 ((0:Int)<=0) F λF=>?_
 refine b5 ((0:Int)<((2:Nat):Int)) F λF=>?_
 refine zB F h (λF h=>?_) λF h=>?_
 ·exact zR h
 ·exact zR h
theorem akb(a:Types)(b:Host)(r:Int)(h:rz a b=some r):aS pw 186 [.agg [.aV (a.nodes.map aJ),.aV (a.ak.map aL)],.agg (lM b)] (λv=>v = .val (.int .i64 r)):=by
 refine aS.oA ?_;refine aR [] func186 ntmps186 results186 ?_;unfold rz at h;have F:=trivial;refine zK F h (Kw _ _) λr2 h=>?_
 exact zR h
theorem vl(a:List Int)(b:List Int)(r:Bool)(h:gZ a b=some r):aS pw 23 [.aV (a.map encI),.aV (b.map encI)] (λv=>v = .val (.bool r)):=by
 refine aS.oA ?_;refine aR [] func23 ntmps23 results23 ?_;unfold gZ at h;have F:=trivial;refine oM F h (λF h=>?_) λF h=>?_
 ·refine zV ?_;refine zN F h () [0,1,12] (λx=>[(13,.p (.val (.int .i64 ((x.1.1:Nat):Int))))]) [] (λx H=>[]) ?_ ?_
  ·intro d f c _ _ F e h;try dsimp only at h
   refine eZ 9 [] ?_;refine zI encI F h λg F h=>?_
   refine zI encI F h λi F h=>?_
   refine oM F h (λF h=>?_) λF h=>?_
   ·exact zX (z:=e _ () h zW)
   ·exact zR h
  ·intro d f c _ F h;try dsimp only at h
   exact zR h
 ·exact zR h
theorem jS(a:eU)(d:List Int)(r:(List Int))(h:c9 a d=some r):bw pw 71 [.agg [.aV (a.nodes.map encI),.aV (a.ak.map aY)],.aV (d.map encI)] (λv=>v = .row 3 1 (r.map encI)):=by
 refine bw.vg ?_;refine bF [9] func71 ntmps71 results71 ?_;unfold c9 at h;have F:=trivial;refine zV ?_;refine zN F h (0:Nat) [1,2] (λx=>[(5,.row 9 x.2),(6,.p (.val (.int .i64 ((x.1.1:Nat):Int))))]) [2] (λx H=>[(9,.row x.2 3 1 (x.1.2.map encI))]) ?_ ?_
 ·intro g b f _ _ F i h;try dsimp only at h
  refine zD [.p,.q,.q,.q,.q,.q,.q,.q,.q,.q,.p,.w,.q] ?_;refine zI encI F h λj F h=>?_
  refine zA aY F h λe F h=>?_
  refine zC F h λF h=>?_
  refine dc (b.length+1) 8 F λF=>?_
  refine zF (bt encI b [e.type] (c:=[[.val (.int .i64 e.type)]]) rfl) F λF=>?_
  exact zX (z:=i _ (f+1) h zW)
 ·intro g b f _ F h;try dsimp only at h
  exact jx h
end
noncomputable section
theorem eO(a:aH)(b:Int)(r:Bool)(h:bD a b=some r):aS pw 99 [.agg (aF a),.val (.int .i64 b)] (λv=>v = .val (.bool r)):=by
 refine aS.oA ?_;refine aR [] func99 ntmps99 results99 ?_;unfold bD at h;have F:=trivial;refine zV ?_;refine zN F h () [1,2] (λx=>[(5,.p (.val (.int .i64 ((x.1.1:Nat):Int))))]) [2] (λx H=>[]) ?_ ?_
 ·intro d f c _ _ F e h;try dsimp only at h
  refine zI ag F h λg F h=>?_
  refine zB F h (λF h=>?_) λF h=>?_
  ·exact zR h
  ·exact zX (z:=e _ () h zW)
 ·intro d f c _ F h;try dsimp only at h
  exact zR h
theorem qG(b:eU)(c:Int)(d:Int)(e:Bool)(r:Int)(h:fD b c d e=some r):aS pw 218 [.agg [.aV (b.nodes.map encI),.aV (b.ak.map aY)],.val (.int .i64 c),.val (.int .i64 d),.val (.bool e)] (λv=>v = .val (.int .i64 r)):=by
 refine aS.oA ?_;refine aR [] func218 ntmps218 results218 ?_;unfold fD at h;have F:=trivial;refine zV ?_;refine zN F h () [1,2,3,4] (λx=>[(9,.p (.val (.int .i64 x.1.2))),(10,.p (.val (.int .i64 ((x.1.1:Nat):Int))))]) [4] (λx H=>[]) ?_ ?_
 ·intro g i f _ _ F a h;try dsimp only at h
  refine zI aY F h λj F h=>?_
  refine nQ F h (λF h=>?_) λF h=>?_
  ·refine nQ F h (λF h=>?_) λF h=>?_
   ·refine rS F h (λF h=>?_) λF h=>?_
    ·exact zX (z:=a _ () h zW)
    ·exact zX (z:=a _ () h zW)
   ·refine zB F h (λF h=>?_) λF h=>?_
    ·exact zX (z:=a _ () h zW)
    ·exact zX (z:=a _ () h zW)
  ·exact zX (z:=a _ () h zW)
 ·intro g i f _ F h;try dsimp only at h
  exact zR h
theorem vL  (r:Types)(h:iE  = some r):bw pw 21 [] (λv=>v = .agg [.row 135 4 (r.nodes.map aJ),.row 140 7 (r.ak.map aL)]):=by refine bw.vg ?_;refine bF [10,13] func21 ntmps21 results21 ?_;unfold iE at h;have F:=trivial;exact jx h
theorem qi(a:Types)(b:ay)(c:aH)(r:ay×Int)(h:fz a b c=some r):aS pw 56 [.agg [.aV (a.nodes.map aJ),.aV (a.ak.map aL)],.agg (aC b),.agg (aF c)] (λv=>v = .dY [.agg (aC r.1),.val (.int .i64 r.2)]):=by
 refine aS.oA ?_;refine aR [] func56 ntmps56 results56 ?_;unfold fz at h;have F:=trivial;refine zK F h (yO _ _) λd h=>?_
 refine oM F h (λF h=>?_) λF h=>?_
 ·refine zK F h (ad3 _ _ _) λe h=>?_
  exact zR h
 ·exact zR h
theorem tN(a:List ah)(e:ah->Option Bool)(d:FuncId)(c b:List PV)(g:∀x0 r,e x0=some r->aS pw d (c++[.agg (ag x0)]++b) (λv=>v = .val (.bool r)))(r:Int)(h:gn a e=some r):aS pw 180 [.aV (a.map ag),.iT (.func d) c b] (λv=>v = .val (.int .i64 r)):=by
 refine aS.oA ?_;refine aR [] func180 ntmps180 results180 ?_;unfold gn at h;have F:=trivial;refine zV ?_;refine zN F h () [0,1,7] (λx=>[(8,.p (.val (.int .i64 ((x.1.1:Nat):Int))))]) [] (λx H=>[]) ?_ ?_
 ·intro i k f _ _ F j h;try dsimp only at h
  refine zI ag F h λl F h=>?_
  refine zP F h (g _) λm h=>?_
  refine zB F h (λF h=>?_) λF h=>?_
  ·exact zR h
  ·exact zX (z:=j _ () h zW)
 ·intro i k f _ F h;try dsimp only at h
  exact zR h
theorem tO(a:List (List aZ))(r:(List aZ))(h:gu a=some r):bw pw 64 [.aV (a.map ja)] (λv=>v = .row 170 3 (r.map cB)):=by
 refine bw.vg ?_;refine bF [] func64 ntmps64 results64 ?_;unfold gu at h;have F:=trivial;refine zV ?_;refine zN F h () [0,9,10] (λx=>[(3,.p (.val (.int .i64 x.1.2))),(11,.p (.val (.int .i64 ((x.1.1:Nat):Int))))]) [] (λx H=>[]) ?_ ?_
 ·intro j l i _ _ F e h;try dsimp only at h
  refine zI ja F h λm F h=>?_
  refine zB F h (λF h=>?_) λF h=>?_
  ·cases h
  ·exact zX (z:=e _ () h zW)
 ·intro j l i _ F h;try dsimp only at h
  refine zG 1384 F h (vi _ _) λo h=>?_
  refine zV ?_;refine zN F h (0:Nat) [25,26] (λx=>[(6,.row 1384 x.2),(27,.p (.val (.int .i64 ((x.1.1:Nat):Int))))]) [] (λx H=>[(1384,.row x.2 170 3 (x.1.2.map cB))]) ?_ ?_
  ·intro k d c _ _ F g h;try dsimp only at h
   refine zI ja F h λb F h=>?_
   refine zC F h λF h=>?_
   refine dc (d.length+b.length) 24 F λF=>?_
   refine zF (eq_true (dJ (n:=3) (f:=cB) (λ_=>rfl) b)) F λF=>?_
   exact zX (z:=g _ (c+1) h zW)
  ·intro k d c _ F h;try dsimp only at h
   exact jx h
theorem lq(a:List Int)(b:List Int)(r:Int)(h:dP a b=some r):aS pw 70 [.aV (a.map encI),.aV (b.map encI)] (λv=>v = .val (.int .i64 r)):=by
 refine aS.oA ?_;refine aR [] func70 ntmps70 results70 ?_;unfold dP at h;have F:=trivial;refine zV ?_;refine zL F h () [0,1] (λx=>[(5,.p (.val (.int .i64 x.1)))]) [] (λx H=>[]) ?_;intro g f _ _ F c h;try dsimp only at h
 refine nQ F h (λF h=>?_) λF h=>?_
 ·refine zB F h (λF h=>?_) λF h=>?_
  ·refine eZ 9 [] ?_;refine zA encI F h λd F h=>?_
   refine zA encI F h λe F h=>?_
   refine oM F h (λF h=>?_) λF h=>?_
   ·exact zX (z:=c _ () h zW)
   ·refine eZ 10 [] ?_;exact zR h
  ·try dsimp only at h
   exact zR h
 ·try dsimp only at h
  exact zR h
end
noncomputable section
theorem vm(a:Types)(r:(List Int))(h:gU a=some r):bw pw 46 [.agg [.aV (a.nodes.map aJ),.aV (a.ak.map aL)]] (λv=>v = .row 3 1 (r.map encI)):=by
 refine bw.vg ?_;refine bF [22] func46 ntmps46 results46 ?_;unfold gU at h;have F:=trivial;refine zV ?_;refine zN F h (0:Nat) [1] (λx=>[(3,.row 3210 x.2),(4,.p (.val (.int .i64 ((x.1.1:Nat):Int))))]) [1] (λx H=>[(3210,.row x.2 3 1 (x.1.2.map encI))]) ?_ ?_ (hw:=by refine dw.trans (jl 3 3210 3 1 rfl rfl (by decide)) ?_;exact zW)
 ·intro d e b _ _ F f h;try dsimp only at h
  refine zI aJ F h λg F h=>?_
  refine oM F h (λF h=>?_) λF h=>?_
  ·exact zX (z:=f _ b h zW)
  ·refine zC F h λF h=>?_
   refine dc (e.length+1) 8 F λF=>?_
   refine zF (bt encI e [((d:Nat):Int)] (c:=[[.val (.int .i64 ((d:Nat):Int))]]) rfl) F λF=>?_
   exact zX (z:=f _ (b+1) h zW)
 ·intro d e b _ F h;try dsimp only at h
  exact jx h
theorem sj(a:List Int)(b:Int)(r:Int)(h:iM a b=some r):aS pw 93 [.aV (a.map encI),.val (.int .i64 b)] (λv=>v = .val (.int .i64 r)):=by
 refine aS.oA ?_;refine aR [] func93 ntmps93 results93 ?_;unfold iM at h;have F:=trivial;refine zV ?_;refine zN F h () [0,1] (λx=>[(5,.p (.val (.int .i64 ((x.1.1:Nat):Int))))]) [] (λx H=>[]) ?_ ?_
 ·intro e f d _ _ F c h;try dsimp only at h
  refine zI encI F h λg F h=>?_
  refine rS F h (λF h=>?_) λF h=>?_
  ·exact zR h
  ·refine zB F h (λF h=>?_) λF h=>?_
   ·exact zR h
   ·refine eZ 14 [] ?_;refine mE F h (λF h=>?_) λF h=>?_
    ·refine zA encI F h λi F h=>?_
     refine zB F h (λF h=>?_) λF h=>?_
     ·exact zR h
     ·exact zX (z:=c _ () h zW)
    ·exact zX (z:=c _ () h zW)
 ·intro e f d _ F h;try dsimp only at h
  exact zR h
theorem kr(a:aH)(b:Int)(c:Int)(r:aQ×Bool)(h:cm a b c=some r):aS pw 101 [.agg (aF a),.val (.int .i64 b),.val (.int .i64 c)] (λv=>v = .dY [.agg (aI r.1),.val (.bool r.2)]):=by
 refine aS.oA ?_;refine aR [] func101 ntmps101 results101 ?_;unfold cm at h;have F:=trivial;refine zV ?_;refine zN F h () [1,2,3,6] (λx=>[(8,.p (.val (.int .i64 ((x.1.1:Nat):Int))))]) [3,6] (λx H=>[]) ?_ ?_
 ·intro f g e _ _ F d h;try dsimp only at h
  refine zI aI F h λi F h=>?_
  refine nQ F h (λF h=>?_) λF h=>?_
  ·refine zB F h (λF h=>?_) λF h=>?_
   ·exact zR h
   ·exact zX (z:=d _ () h zW)
  ·exact zX (z:=d _ () h zW)
 ·intro f g e _ F h;try dsimp only at h
  exact zR h
theorem ku(a:Int)(b:Int)(c:Int)(r:Int)(h:eB a b c=some r):aS pw 167 [.val (.int .i64 a),.val (.int .i64 b),.val (.int .i64 c)] (λv=>v = .val (.int .i64 r)):=by
 refine aS.oA ?_;refine aR [] func167 ntmps167 results167 ?_;unfold eB at h;have F:=trivial;refine zB F h (λF h=>?_) λF h=>?_
 ·exact zR h
 ·exact zR h
theorem rC  (r:ay)(h:iy  = some r):bw pw 22 [] (λv=>v = .agg [.row 3 1 (r.host.graph.nodes.map encI),.row 150 3 (r.host.graph.ak.map aY),.row 32 1 (r.host.values.map bI),.row 3 1 (r.nodes.map encI),.row 3 1 (r.ak.map encI),.p (.val (.int .i64 r.next))]):=by refine bw.vg ?_;refine bF [1,4,8,10,11] func22 ntmps22 results22 ?_;unfold iy at h;have F:=trivial;exact jx h
theorem vM(a:List (List aG))(r:(List aG))(h:iF a=some r):bw pw 59 [.aV (a.map jX)] (λv=>v = .row 57 3 (r.map aB)):=by
 refine bw.vg ?_;refine bF [] func59 ntmps59 results59 ?_;unfold iF at h;have F:=trivial;refine zV ?_;refine zN F h () [0,9,10] (λx=>[(3,.p (.val (.int .i64 x.1.2))),(11,.p (.val (.int .i64 ((x.1.1:Nat):Int))))]) [] (λx H=>[]) ?_ ?_
 ·intro j l i _ _ F e h;try dsimp only at h
  refine zI jX F h λm F h=>?_
  refine zB F h (λF h=>?_) λF h=>?_
  ·cases h
  ·exact zX (z:=e _ () h zW)
 ·intro j l i _ F h;try dsimp only at h
  refine zG 1384 F h (xb _ _) λo h=>?_
  refine zV ?_;refine zN F h (0:Nat) [25,26] (λx=>[(6,.row 1384 x.2),(27,.p (.val (.int .i64 ((x.1.1:Nat):Int))))]) [] (λx H=>[(1384,.row x.2 57 3 (x.1.2.map aB))]) ?_ ?_
  ·intro k d c _ _ F g h;try dsimp only at h
   refine zI jX F h λb F h=>?_
   refine zC F h λF h=>?_
   refine dc (d.length+b.length) 24 F λF=>?_
   refine zF (eq_true (dJ (n:=3) (f:=aB) (λ_=>rfl) b)) F λF=>?_
   exact zX (z:=g _ (c+1) h zW)
  ·intro k d c _ F h;try dsimp only at h
   exact jx h
theorem uB(a:List aZ)(b:aZ)(r:Int)(h:gH a b=some r):aS pw 133 [.aV (a.map cB),.agg (cB b)] (λv=>v = .val (.int .i64 r)):=by
 refine aS.oA ?_;refine aR [] func133 ntmps133 results133 ?_;unfold gH at h;have F:=trivial;refine zV ?_;refine zN F h () [0,3,7] (λx=>[(8,.p (.val (.int .i64 ((x.1.1:Nat):Int))))]) [3] (λx H=>[]) ?_ ?_
 ·intro d f c _ _ F e h;try dsimp only at h
  refine eZ 6 [] ?_;refine zI cB F h λg F h=>?_
  refine zB F h (λF h=>?_) λF h=>?_
  ·exact zR h
  ·exact zX (z:=e _ () h zW)
 ·intro d f c _ F h;try dsimp only at h
  exact zR h
end
noncomputable section
theorem pF(a:Int)(e:Int)(r:(List Int))(h:fQ a e=some r):bw pw 45 [.val (.int .i64 a),.val (.int .i64 e)] (λv=>v = .row 3 1 (r.map encI)):=by
 refine bw.vg ?_;refine bF [17] func45 ntmps45 results45 ?_;unfold fQ at h;have F:=trivial;refine zV ?_;refine zO F h (0:Nat) [0,1] (λx=>[(5,.row 4863 x.2),(6,.p (.val (.int .i64 ((x.1.1:Nat):Int))))]) [] (λx H=>[(4863,.row x.2 3 1 (x.1.2.map encI))]) ?_ ?_ (hw:=by refine dw.trans (jl 5 4863 3 1 rfl rfl (by decide)) ?_;exact zW)
 ·intro b d f _ _ F g h;try dsimp only at h
  refine zC F h λF h=>?_
  refine dc (d.length+1) 8 F λF=>?_
  refine zF (bt encI d [(i64.wrap (a+((b:Nat):Int)))] (c:=[[.val (.int .i64 (i64.wrap (a+((b:Nat):Int))))]]) rfl) F λF=>?_
  exact zX (z:=g _ (f+1) h zW)
 ·intro b d f _ F h;try dsimp only at h
  exact jx h
theorem kJ(a:ay)(b:Int)(r:au)(h:dG a b=some r):aS pw 162 [.agg (aC a),.val (.int .i64 b)] (λv=>v = .agg (aj r)):=by
 refine aS.oA ?_;refine aR [] func162 ntmps162 results162 ?_;unfold dG at h;have F:=trivial;refine zA aY F h λc F h=>?_
 refine eZ 20 [.w] ?_;refine zA encI F h λd F h=>?_
 refine zA encI F h λe F h=>?_
 refine zA encI F h λf F h=>?_
 exact zR h
theorem mV(a:List au)(r:Bool)(h:ee a=some r):aS pw 273 [.aV (a.map aj)] (λv=>v = .val (.bool r)):=by
 refine aS.oA ?_;refine aR [] func273 ntmps273 results273 ?_;unfold ee at h;have F:=trivial;refine zV ?_;refine zN F h () [0] (λx=>[(3,.p (.val (.int .i64 ((x.1.1:Nat):Int))))]) [] (λx H=>[]) ?_ ?_
 ·intro d e c _ _ F b h;try dsimp only at h
  refine eZ 12 [] ?_;refine zI aj F h λf F h=>?_
  refine zA aj F h λg F h=>?_
  refine zB F h (λF h=>?_) λF h=>?_
  ·exact zR h
  ·exact zX (z:=b _ () h zW)
 ·intro d e c _ F h;try dsimp only at h
  exact zR h
theorem ow(a:aO)(b:Int)(r:Bool)(h:ff a b=some r):aS pw 276 [.agg [.aV (a.nodes.map ag),.aV (a.ak.map aj)],.val (.int .i64 b)] (λv=>v = .val (.bool r)):=by
 refine aS.oA ?_;refine aR [] func276 ntmps276 results276 ?_;unfold ff at h;have F:=trivial;refine zV ?_;refine zN F h () [1,2] (λx=>[(5,.p (.val (.int .i64 ((x.1.1:Nat):Int))))]) [2] (λx H=>[]) ?_ ?_
 ·intro f j d _ _ F i h;try dsimp only at h
  refine zI ag F h λl F h=>?_
  refine zB F h (λF h=>?_) λF h=>?_
  ·exact zR h
  ·exact zX (z:=i _ () h zW)
 ·intro f j d _ F h;try dsimp only at h
  refine zV ?_;refine zN F h () [1,2] (λx=>[(6,.p (.val (.int .i64 ((x.1.1:Nat):Int))))]) [2] (λx H=>[]) ?_ ?_
  ·intro g k e _ _ F c h;try dsimp only at h
   refine zI aj F h λm F h=>?_
   refine zB F h (λF h=>?_) λF h=>?_
   ·exact zR h
   ·exact zX (z:=c _ () h zW)
  ·intro g k e _ F h;try dsimp only at h
   exact zR h
theorem ny(d:List ah)(r:(List ah))(h:eA d=some r):bw pw 217 [.aV (d.map ag)] (λv=>v = .row 86 3 (r.map ag)):=by
 refine bw.vg ?_;refine bF [24] func217 ntmps217 results217 ?_;unfold eA at h;have F:=trivial;refine zV ?_;refine zN F h (0:Nat) [0] (λx=>[(3,.row 9690 x.2),(4,.p (.val (.int .i64 ((x.1.1:Nat):Int))))]) [] (λx H=>[(9690,.row x.2 86 3 (x.1.2.map ag))]) ?_ ?_ (hw:=by refine dw.trans (jl 3 9690 86 3 rfl rfl (by decide)) ?_;exact zW)
 ·intro i b e _ _ F g h;try dsimp only at h
  refine zI ag F h λa F h=>?_
  refine zC F h λF h=>?_
  refine dc a.values.length 8 F λF=>?_
  refine zF (eq_true (dJ (n:=1) (f:=encI) (λ_=>rfl) a.values)) F λF=>?_
  refine zC F h λF h=>?_
  refine dc (b.length+1) 40 F λF=>?_
  refine zF (bt ag b [a] (c:=[[.val (.int .i64 a.id),.val (.int .i64 a.type),.aV (a.values.map encI)]]) rfl) F λF=>?_
  exact zX (z:=g _ (e+1) h zW)
 ·intro i b e _ F h;try dsimp only at h
  exact jx h
theorem p8(a:List aG)(b:List aG)(r:Bool)(h:gz a b=some r):aS pw 8 [.aV (a.map aB),.aV (b.map aB)] (λv=>v = .val (.bool r)):=by
 refine aS.oA ?_;refine aR [] func8 ntmps8 results8 ?_;unfold gz at h;have F:=trivial;refine oM F h (λF h=>?_) λF h=>?_
 ·refine zV ?_;refine zN F h () [0,1,12] (λx=>[(13,.p (.val (.int .i64 ((x.1.1:Nat):Int))))]) [] (λx H=>[]) ?_ ?_
  ·intro d f c _ _ F e h;try dsimp only at h
   refine eZ 9 [] ?_;refine zI aB F h λg F h=>?_
   refine zI aB F h λi F h=>?_
   refine oM F h (λF h=>?_) λF h=>?_
   ·exact zX (z:=e _ () h zW)
   ·exact zR h
  ·intro d f c _ F h;try dsimp only at h
   exact zR h
 ·exact zR h
end
noncomputable section
theorem rD(d:Types)(k:dO)(r:Host)(h:iq d k=some r):bw pw 17 [.agg [.aV (d.nodes.map aJ),.aV (d.ak.map aL)],.agg [.aV (k.nodes.map er),.aV (k.ak.map dW)]] (λv=>v = .agg [.row 3 1 (r.graph.nodes.map encI),.row 150 3 (r.graph.ak.map aY),.row 32 1 (r.values.map bI)]):=by
 refine bw.vg ?_;refine bF [53,91,97,102,184] func17 ntmps17 results17 ?_;unfold iq at h;have F:=trivial;refine zG 1272 F h (vm _) λr2 h=>?_
 refine zV ?_;refine zL F h ((0,0):Nat×Nat) [2,3,4,5,6] (λx=>[(7,.p (.val (.int .i64 x.1.1)))]) [2,3,4,1272] (λx H=>[(5,.box [.row 4081 x.2.1,.p (.val (.slice none 0 0)),.row 4082 x.2.2]),(4081,.row x.2.1 3 1 (x.1.2.1.map encI)),(4082,.row x.2.2 32 1 (x.1.2.2.map bI))]) ?_ (hw:=by refine dw.trans (cz 5 0 4081 3 1 _ rfl rfl rfl (by decide)) ?_;refine dw.trans (cz 5 2 4082 32 1 _ rfl rfl rfl (by decide)) ?_;exact zW);intro a C _ _ F K h;try dsimp only at h
 refine nQ F h (λF h=>?_) λF h=>?_
 ·refine nQ F h (λF h=>?_) λF h=>?_
  ·refine zB F h (λF h=>?_) λF h=>?_
   ·refine zA er F h λu F h=>?_
    refine b5 ((0:Int)<=0) F λF=>?_
    refine b5 ((0:Int)<((2:Nat):Int)) F λF=>?_
    refine zC F h λF h=>?_
    refine zA encI F h λy F h=>?_
    refine zK F h (w9 _ _) λT h=>?_
    refine zV ?_;refine zN F h (0:Nat) [2,3,4,5,6,7,8,9] (λx=>[(11,.row 53 x.2),(12,.p (.val (.int .i64 ((x.1.1:Nat):Int))))]) [2,3,4,5,1272,4081,4082] (λx H=>[(53,.row x.2 3 1 (x.1.2.map encI))]) ?_ ?_
    ·intro m i l _ _ F J h;try dsimp only at h
     refine zD [.p,.q,.q,.q,.q,.q,.q,.q,.q,.q,.q,.q,.q,.q,.q,.q,.q,.q,.q,.q,.q,.q,.q,.q,.q,.q,.q,.q,.q,.q,.p,.w,.q] ?_;refine zI aU F h λg F h=>?_
     refine b5 ((0:Int)<=1) F λF=>?_
     refine b5 ((1:Int)<((2:Nat):Int)) F λF=>?_
     refine zC F h λF h=>?_
     refine zC F h λF h=>?_
     refine dc (i.length+1) 8 F λF=>?_
     refine zF (bt encI i [(i64.wrap (g.low+((i64.wrap ((i64.wrap u.x1)+(i64.wrap (7 * ((m:Nat):Int))))).tmod (i64.wrap ((i64.wrap (g.high-g.low))+1)))))] (c:=[[.val (.int .i64 (i64.wrap (g.low+((i64.wrap ((i64.wrap u.x1)+(i64.wrap (7 * ((m:Nat):Int))))).tmod (i64.wrap ((i64.wrap (g.high-g.low))+1))))))]]) rfl) F λF=>?_
     exact zX (z:=J _ (l+1) h zW)
    ·intro m i l _ F h;try dsimp only at h
     refine zV ?_;refine iZ 53 l 3 1 (i.map encI) [11] (by simp -implicitDefEqProofs only[go_sem,F]<;>rfl) (by simp -implicitDefEqProofs only[go_sem,F]<;>and_intros<;>rfl) (by decide) ?_;refine zE [(0,.p),(1,.p),(3,.p),(4,.p),(6,.p),(8,.b),(9,.p),(2,.q),(7,.b),(5,.w),(11,.b),(12,.b),(10,.w),(13,.w),(14,.q),(15,.w)] ?_;refine zC F h λF h=>?_
     refine dc (a.2.1.length+1) 8 F λF=>?_
     refine zF (bt encI a.2.1 [y] (c:=[[.val (.int .i64 y)]]) rfl) F λF=>?_
     refine zC F h λF h=>?_
     refine dc (a.2.2.length+1) 24 F λF=>?_
     refine zF (bt bI a.2.2 [i] (c:=[[.aV (i.map encI)]]) rfl) F λF=>?_
     exact zX (z:=K _ (C.1+1,C.2+1) h zW)
   ·try dsimp only at h
    refine zV ?_;refine zL F h (0:Nat) [2,3,4,5,13] (λx=>[(14,.p (.val (.int .i64 x.1.1)))]) [2,3,4,4081,4082] (λx H=>[(5,bx (H 5) [(1,.row 4315 x.2)]),(4315,.row x.2 150 3 (x.1.2.map aY))]) ?_ (hw:=by refine dw.trans (cz 5 1 4315 150 3 _ rfl rfl rfl (by decide)) ?_;exact zW);intro I D _ _ F n h;try dsimp only at h
    refine nQ F h (λF h=>?_) λF h=>?_
    ·refine nQ F h (λF h=>?_) λF h=>?_
     ·refine nQ F h (λF h=>?_) λF h=>?_
      ·refine zB F h (λF h=>?_) λF h=>?_
       ·refine eZ 30 [.w,.s] ?_;refine zA dW F h λj F h=>?_
        refine b5 ((0:Int)<=0) F λF=>?_
        refine b5 ((0:Int)<((3:Nat):Int)) F λF=>?_
        refine zC F h λF h=>?_
        refine b5 ((0:Int)<=1) F λF=>?_
        refine b5 ((1:Int)<((3:Nat):Int)) F λF=>?_
        refine zC F h λF h=>?_
        refine b5 ((0:Int)<=2) F λF=>?_
        refine b5 ((2:Int)<((3:Nat):Int)) F λF=>?_
        refine zC F h λF h=>?_
        refine eZ 18 [] ?_;refine zA encI F h λL F h=>?_
        refine zA encI F h λU F h=>?_
        refine si F h (nL _ _ _ _) λQ h=>?_
        refine zB F h (λF h=>?_) λF h=>?_
        ·refine zC F h λF h=>?_
         refine dc (I.2.length+1) 24 F λF=>?_
         refine zF (bt aY I.2 [(⟨((i64.wrap j.x0).tmod ((d.ak.length:Nat):Int)),((i64.wrap j.x1).tmod ((a.2.1.length:Nat):Int)),((i64.wrap j.x2).tmod ((a.2.1.length:Nat):Int))⟩:Edge)] (c:=[[.val (.int .i64 ((i64.wrap j.x0).tmod ((d.ak.length:Nat):Int))),.val (.int .i64 ((i64.wrap j.x1).tmod ((a.2.1.length:Nat):Int))),.val (.int .i64 ((i64.wrap j.x2).tmod ((a.2.1.length:Nat):Int)))]]) rfl) F λF=>?_
         exact zX (z:=n _ (D+1) h zW)
        ·exact zX (z:=n _ D h zW)
       ·try dsimp only at h
        exact jx h
      ·try dsimp only at h
       exact jx h
     ·try dsimp only at h
      exact jx h
    ·try dsimp only at h
     exact jx h
  ·try dsimp only at h
   refine zV ?_;refine zL F h (0:Nat) [2,3,4,5,13] (λx=>[(14,.p (.val (.int .i64 x.1.1)))]) [2,3,4,4081,4082] (λx H=>[(5,bx (H 5) [(1,.row 4425 x.2)]),(4425,.row x.2 150 3 (x.1.2.map aY))]) ?_ (hw:=by refine dw.trans (cz 5 1 4425 150 3 _ rfl rfl rfl (by decide)) ?_;exact zW);intro E A _ _ F t h;try dsimp only at h
   refine nQ F h (λF h=>?_) λF h=>?_
   ·refine nQ F h (λF h=>?_) λF h=>?_
    ·refine nQ F h (λF h=>?_) λF h=>?_
     ·refine zB F h (λF h=>?_) λF h=>?_
      ·refine eZ 30 [.w,.s] ?_;refine zA dW F h λe F h=>?_
       refine b5 ((0:Int)<=0) F λF=>?_
       refine b5 ((0:Int)<((3:Nat):Int)) F λF=>?_
       refine zC F h λF h=>?_
       refine b5 ((0:Int)<=1) F λF=>?_
       refine b5 ((1:Int)<((3:Nat):Int)) F λF=>?_
       refine zC F h λF h=>?_
       refine b5 ((0:Int)<=2) F λF=>?_
       refine b5 ((2:Int)<((3:Nat):Int)) F λF=>?_
       refine zC F h λF h=>?_
       refine eZ 18 [] ?_;refine zA encI F h λM F h=>?_
       refine zA encI F h λN F h=>?_
       refine si F h (nL _ _ _ _) λR h=>?_
       refine zB F h (λF h=>?_) λF h=>?_
       ·refine zC F h λF h=>?_
        refine dc (E.2.length+1) 24 F λF=>?_
        refine zF (bt aY E.2 [(⟨((i64.wrap e.x0).tmod ((d.ak.length:Nat):Int)),((i64.wrap e.x1).tmod ((a.2.1.length:Nat):Int)),((i64.wrap e.x2).tmod ((a.2.1.length:Nat):Int))⟩:Edge)] (c:=[[.val (.int .i64 ((i64.wrap e.x0).tmod ((d.ak.length:Nat):Int))),.val (.int .i64 ((i64.wrap e.x1).tmod ((a.2.1.length:Nat):Int))),.val (.int .i64 ((i64.wrap e.x2).tmod ((a.2.1.length:Nat):Int)))]]) rfl) F λF=>?_
        exact zX (z:=t _ (A+1) h zW)
       ·exact zX (z:=t _ A h zW)
      ·try dsimp only at h
       exact jx h
     ·try dsimp only at h
      exact jx h
    ·try dsimp only at h
     exact jx h
   ·try dsimp only at h
    exact jx h
 ·try dsimp only at h
  refine zV ?_;refine zL F h (0:Nat) [2,3,4,5,13] (λx=>[(14,.p (.val (.int .i64 x.1.1)))]) [2,3,4,4081,4082] (λx H=>[(5,bx (H 5) [(1,.row 4535 x.2)]),(4535,.row x.2 150 3 (x.1.2.map aY))]) ?_ (hw:=by refine dw.trans (cz 5 1 4535 150 3 _ rfl rfl rfl (by decide)) ?_;exact zW);intro G B _ _ F o h;try dsimp only at h
  refine nQ F h (λF h=>?_) λF h=>?_
  ·refine nQ F h (λF h=>?_) λF h=>?_
   ·refine nQ F h (λF h=>?_) λF h=>?_
    ·refine zB F h (λF h=>?_) λF h=>?_
     ·refine eZ 30 [.w,.s] ?_;refine zA dW F h λf F h=>?_
      refine b5 ((0:Int)<=0) F λF=>?_
      refine b5 ((0:Int)<((3:Nat):Int)) F λF=>?_
      refine zC F h λF h=>?_
      refine b5 ((0:Int)<=1) F λF=>?_
      refine b5 ((1:Int)<((3:Nat):Int)) F λF=>?_
      refine zC F h λF h=>?_
      refine b5 ((0:Int)<=2) F λF=>?_
      refine b5 ((2:Int)<((3:Nat):Int)) F λF=>?_
      refine zC F h λF h=>?_
      refine eZ 18 [] ?_;refine zA encI F h λO F h=>?_
      refine zA encI F h λP F h=>?_
      refine si F h (nL _ _ _ _) λS h=>?_
      refine zB F h (λF h=>?_) λF h=>?_
      ·refine zC F h λF h=>?_
       refine dc (G.2.length+1) 24 F λF=>?_
       refine zF (bt aY G.2 [(⟨((i64.wrap f.x0).tmod ((d.ak.length:Nat):Int)),((i64.wrap f.x1).tmod ((a.2.1.length:Nat):Int)),((i64.wrap f.x2).tmod ((a.2.1.length:Nat):Int))⟩:Edge)] (c:=[[.val (.int .i64 ((i64.wrap f.x0).tmod ((d.ak.length:Nat):Int))),.val (.int .i64 ((i64.wrap f.x1).tmod ((a.2.1.length:Nat):Int))),.val (.int .i64 ((i64.wrap f.x2).tmod ((a.2.1.length:Nat):Int)))]]) rfl) F λF=>?_
       exact zX (z:=o _ (B+1) h zW)
      ·exact zX (z:=o _ B h zW)
     ·try dsimp only at h
      exact jx h
    ·try dsimp only at h
     exact jx h
   ·try dsimp only at h
    exact jx h
  ·try dsimp only at h
   exact jx h
end
noncomputable section
theorem tP(s:aO)(y:aH)(r:aO×Bool)(h:gm s y=some r):aS pw 216 [.agg [.aV (s.nodes.map ag),.aV (s.ak.map aj)],.agg (aF y)] (λv=>v = .dY [.agg [.aV (r.1.nodes.map ag),.aV (r.1.ak.map aj)],.val (.bool r.2)]):=by
 refine aS.oA ?_;refine aR [86,147] func216 ntmps216 results216 ?_;unfold gm at h;have F:=trivial;refine zV ?_;refine zN F h () [2,3,4] (λx=>[(6,.p (.val (.int .i64 ((x.1.1:Nat):Int))))]) [2,3,4] (λx H=>[]) ?_ ?_
 ·intro K N G _ _ F M h;try dsimp only at h
  refine eZ 8 [] ?_;refine zI ag F h λP F h=>?_
  refine si F h (ow _ _) λT h=>?_
  refine zB F h (λF h=>?_) λF h=>?_
  ·exact zR h
  ·exact zX (z:=M _ () h zW)
 ·intro K N G _ F h;try dsimp only at h
  refine zV ?_;refine zN F h () [2,3,4] (λx=>[(7,.p (.val (.int .i64 ((x.1.1:Nat):Int))))]) [2,3,4] (λx H=>[]) ?_ ?_
  ·intro L O I _ _ F B h;try dsimp only at h
   refine eZ 8 [] ?_;refine zI aj F h λQ F h=>?_
   refine si F h (ow _ _) λU h=>?_
   refine zB F h (λF h=>?_) λF h=>?_
   ·exact zR h
   ·exact zX (z:=B _ () h zW)
  ·intro L O I _ F h;try dsimp only at h
   refine zV ?_;refine zL F h (0:Nat) [2,3,4,8] (λx=>[(9,.p (.val (.int .i64 x.1.1))),(10,.p (.val (.int .i64 x.1.2.1)))]) [2,3,4] (λx H=>[(8,bx (H 8) [(0,.row 8119 x.2)]),(8119,.row x.2 86 3 (x.1.2.2.map ag))]) ?_ (hw:=by refine dw.trans (cz 8 0 8119 86 3 _ rfl rfl rfl (by decide)) ?_;exact zW);intro W J _ _ F o h;try dsimp only at h
   refine zB F h (λF h=>?_) λF h=>?_
   ·refine zV ?_;refine zL F h (J:Nat) [2,3,4,8,10] (λx=>[(9,.p (.val (.int .i64 x.1.1)))]) [2,3,4] (λx H=>[(8,bx (H 8) [(0,.row 8119 x.2)]),(8119,.row x.2 86 3 (x.1.2.map ag))]) ?_;intro a j _ _ F u h;try dsimp only at h
    refine eZ 27 [] ?_;refine mE F h (λF h=>?_) λF h=>?_
    ·refine AZ F h (λF h=>?_) λF h=>?_
     ·refine zE [(0,.p),(2,.q),(3,.q),(4,.q),(5,.q),(6,.q),(7,.p),(1,.q),(8,.w),(9,.q),(10,.w)] ?_;refine zA ag F h λm F h=>?_
      refine zC F h λF h=>?_
      refine dc (a.2.length+1) 40 F λF=>?_
      refine zF (bt ag a.2 [m] (c:=[[.val (.int .i64 m.id),.val (.int .i64 m.type),.aV (m.values.map encI)]]) rfl) F λF=>?_
      exact zX (z:=u _ (j+1) h zW)
     ·refine zA ag F h λk F h=>?_
      refine Ci ag F h λn C F h=>?_
      refine zB F h (λF h=>?_) λF h=>?_
      ·refine zE [(0,.p),(2,.q),(3,.q),(4,.q),(5,.q),(6,.q),(7,.p),(1,.q),(8,.w),(9,.q),(10,.w)] ?_;refine zC F h λF h=>?_
       refine dc (a.2.length+1) 40 F λF=>?_
       refine zF (bt ag a.2 [k] (c:=[[.val (.int .i64 k.id),.val (.int .i64 k.type),.aV (k.values.map encI)]]) rfl) F λF=>?_
       exact zX (z:=u _ (j+1) h zW)
      ·try dsimp only at h
       replace h:=As h (dr (by omega));refine zE [(0,.p),(2,.q),(3,.q),(4,.q),(5,.q),(6,.q),(7,.p),(1,.q),(8,.w),(9,.q),(10,.w)] ?_;refine zU C h λh=>?_
       refine zC F h λF h=>?_
       refine dc (a.2.length+1) 40 F λF=>?_
       refine zF (bt ag a.2 [n] (c:=[[.val (.int .i64 n.id),.val (.int .i64 n.type),.aV (n.values.map encI)]]) rfl) F λF=>?_
       exact zX (z:=o _ (j+1) h zW)
    ·try dsimp only at h
     refine zB F h (λF h=>?_) λF h=>?_
     ·refine zE [(0,.p),(2,.q),(3,.q),(4,.q),(5,.q),(6,.q),(7,.p),(1,.q),(8,.w),(9,.q),(10,.w)] ?_;refine Ci ag F h λl R F h=>?_
      refine zC F h λF h=>?_
      refine dc (a.2.length+1) 40 F λF=>?_
      refine zF (bt ag a.2 [l] (c:=[[.val (.int .i64 l.id),.val (.int .i64 l.type),.aV (l.values.map encI)]]) rfl) F λF=>?_
      exact zX (z:=o _ (j+1) h zW)
     ·exact zX (z:=o _ j h zW)
   ·try dsimp only at h
    refine zV ?_;refine zL F h (0:Nat) [2,3,4,8] (λx=>[(9,.p (.val (.int .i64 x.1.1))),(11,.p (.val (.int .i64 x.1.2.1)))]) [2,3,4,8119] (λx H=>[(8,bx (H 8) [(1,.row 8531 x.2)]),(8531,.row x.2 88 4 (x.1.2.2.map aj))]) ?_ (hw:=by refine dw.trans (cz 8 1 8531 88 4 _ rfl rfl rfl (by decide)) ?_;exact zW);intro V E _ _ F t h;try dsimp only at h
    refine zB F h (λF h=>?_) λF h=>?_
    ·refine zV ?_;refine zL F h (E:Nat) [2,3,4,8,11] (λx=>[(9,.p (.val (.int .i64 x.1.1)))]) [2,3,4,8119] (λx H=>[(8,bx (H 8) [(1,.row 8531 x.2)]),(8531,.row x.2 88 4 (x.1.2.map aj))]) ?_;intro b i _ _ F A h;try dsimp only at h
     refine eZ 27 [] ?_;refine mE F h (λF h=>?_) λF h=>?_
     ·refine AZ F h (λF h=>?_) λF h=>?_
      ·refine zE [(0,.p),(2,.q),(3,.q),(4,.q),(5,.q),(6,.q),(7,.p),(1,.q),(8,.w),(9,.q),(10,.w)] ?_;refine zA aj F h λd F h=>?_
       refine zC F h λF h=>?_
       refine dc (b.2.length+1) 32 F λF=>?_
       refine zF (bt aj b.2 [d] (c:=[[.val (.int .i64 d.id),.val (.int .i64 d.type),.val (.int .i64 d.src),.val (.int .i64 d.dst)]]) rfl) F λF=>?_
       exact zX (z:=A _ (i+1) h zW)
      ·refine zA aj F h λe F h=>?_
       refine Ci aj F h λf D F h=>?_
       refine zB F h (λF h=>?_) λF h=>?_
       ·refine zE [(0,.p),(2,.q),(3,.q),(4,.q),(5,.q),(6,.q),(7,.p),(1,.q),(8,.w),(9,.q),(10,.w)] ?_;refine zC F h λF h=>?_
        refine dc (b.2.length+1) 32 F λF=>?_
        refine zF (bt aj b.2 [e] (c:=[[.val (.int .i64 e.id),.val (.int .i64 e.type),.val (.int .i64 e.src),.val (.int .i64 e.dst)]]) rfl) F λF=>?_
        exact zX (z:=A _ (i+1) h zW)
       ·try dsimp only at h
        replace h:=As h (dr (by omega));refine zE [(0,.p),(2,.q),(3,.q),(4,.q),(5,.q),(6,.q),(7,.p),(1,.q),(8,.w),(9,.q),(10,.w)] ?_;refine zU D h λh=>?_
        refine zC F h λF h=>?_
        refine dc (b.2.length+1) 32 F λF=>?_
        refine zF (bt aj b.2 [f] (c:=[[.val (.int .i64 f.id),.val (.int .i64 f.type),.val (.int .i64 f.src),.val (.int .i64 f.dst)]]) rfl) F λF=>?_
        exact zX (z:=t _ (i+1) h zW)
     ·try dsimp only at h
      refine zB F h (λF h=>?_) λF h=>?_
      ·refine zE [(0,.p),(2,.q),(3,.q),(4,.q),(5,.q),(6,.q),(7,.p),(1,.q),(8,.w),(9,.q),(10,.w)] ?_;refine Ci aj F h λg S F h=>?_
       refine zC F h λF h=>?_
       refine dc (b.2.length+1) 32 F λF=>?_
       refine zF (bt aj b.2 [g] (c:=[[.val (.int .i64 g.id),.val (.int .i64 g.type),.val (.int .i64 g.src),.val (.int .i64 g.dst)]]) rfl) F λF=>?_
       exact zX (z:=t _ (i+1) h zW)
      ·exact zX (z:=t _ i h zW)
    ·try dsimp only at h
     exact zR h
end
noncomputable section
theorem vn(a:ah)(b:ah)(r:Bool)(h:gW a b=some r):aS pw 213 [.agg (ag a),.agg (ag b)] (λv=>v = .val (.bool r)):=by
 refine aS.oA ?_;refine aR [] func213 ntmps213 results213 ?_;unfold gW at h;have F:=trivial;refine nQ F h (λF h=>?_) λF h=>?_
 ·refine nQ F h (λF h=>?_) λF h=>?_
  ·refine zK F h (vk _ _) λr2 h=>?_
   exact zR h
  ·exact zR h
 ·exact zR h
theorem tQ(q:ay)(s:aH)(t:aH)(r:(List aG))(h:eS q s t=some r):bw pw 53 [.agg (aC q),.agg (aF s),.agg (aF t)] (λv=>v = .row 57 3 (r.map aB)):=by
 refine bw.vg ?_;refine bF [55] func53 ntmps53 results53 ?_;unfold eS at h;have F:=trivial;refine zV ?_;refine zN F h (0:Nat) [3,4,5] (λx=>[(7,.row 9367 x.2),(8,.p (.val (.int .i64 ((x.1.1:Nat):Int))))]) [3,4,5] (λx H=>[(9367,.row x.2 57 3 (x.1.2.map aB))]) ?_ ?_ (hw:=by refine dw.trans (jl 7 9367 57 3 rfl rfl (by decide)) ?_;exact zW)
 ·intro A f b _ _ F g h;try dsimp only at h
  refine zI encI F h λi F h=>?_
  refine zK F h (eO _ _) λL h=>?_
  refine nQ F h (λF h=>?_) λF h=>?_
  ·refine zK F h (nN _ _) λM h=>?_
   refine rS F h (λF h=>?_) λF h=>?_
   ·refine zC F h λF h=>?_
    refine dc (f.length+1) 24 F λF=>?_
    refine zF (bt aB f [(⟨1,i,(-1)⟩:aG)] (c:=[[.val (.int .i64 1),.val (.int .i64 i),.val (.int .i64 (-1))]]) rfl) F λF=>?_
    exact zX (z:=g _ (b+1) h zW)
   ·refine zK F h (eO _ _) λN h=>?_
    refine nQ F h (λF h=>?_) λF h=>?_
    ·refine zK F h (nN _ _) λO h=>?_
     refine zB F h (λF h=>?_) λF h=>?_
     ·refine zC F h λF h=>?_
      refine dc (f.length+1) 24 F λF=>?_
      refine zF (bt aB f [(⟨1,i,(-1)⟩:aG)] (c:=[[.val (.int .i64 1),.val (.int .i64 i),.val (.int .i64 (-1))]]) rfl) F λF=>?_
      exact zX (z:=g _ (b+1) h zW)
     ·exact zX (z:=g _ b h zW)
    ·exact zX (z:=g _ b h zW)
  ·refine zK F h (eO _ _) λP h=>?_
   refine nQ F h (λF h=>?_) λF h=>?_
   ·refine zK F h (nN _ _) λQ h=>?_
    refine zB F h (λF h=>?_) λF h=>?_
    ·refine zC F h λF h=>?_
     refine dc (f.length+1) 24 F λF=>?_
     refine zF (bt aB f [(⟨1,i,(-1)⟩:aG)] (c:=[[.val (.int .i64 1),.val (.int .i64 i),.val (.int .i64 (-1))]]) rfl) F λF=>?_
     exact zX (z:=g _ (b+1) h zW)
    ·exact zX (z:=g _ b h zW)
   ·exact zX (z:=g _ b h zW)
 ·intro A f b _ F h;try dsimp only at h
  refine zV ?_;refine zN F h (b:Nat) [3,4,5] (λx=>[(7,.row 9367 x.2),(10,.p (.val (.int .i64 ((x.1.1:Nat):Int))))]) [3,4,5] (λx H=>[(9367,.row x.2 57 3 (x.1.2.map aB))]) ?_ ?_
  ·intro w B n _ _ F u h;try dsimp only at h
   refine zI encI F h λj F h=>?_
   refine zV ?_;refine zL F h (n:Nat) [3,4,5,10,11] (λx=>[(7,.row 9367 x.2),(12,.p (.val (.int .i64 x.1.1)))]) [3,4,5] (λx H=>[(9367,.row x.2 57 3 (x.1.2.map aB))]) ?_;intro a d _ _ F e h;try dsimp only at h
   refine zI bI F h λC F h=>?_
   refine zB F h (λF h=>?_) λF h=>?_
   ·refine zK F h (kr _ _ _) λD h=>?_
    refine zK F h (kr _ _ _) λE h=>?_
    refine zK F h (eO _ _) λG h=>?_
    refine nQ F h (λF h=>?_) λF h=>?_
    ·refine rS F h (λF h=>?_) λF h=>?_
     ·refine zC F h λF h=>?_
      refine dc (a.2.length+1) 24 F λF=>?_
      refine zF (bt aB a.2 [(⟨2,j,a.1⟩:aG)] (c:=[[.val (.int .i64 2),.val (.int .i64 j),.val (.int .i64 a.1)]]) rfl) F λF=>?_
      exact zX (z:=e _ (d+1) h zW)
     ·refine zK F h (eO _ _) λI h=>?_
      refine nQ F h (λF h=>?_) λF h=>?_
      ·refine zB F h (λF h=>?_) λF h=>?_
       ·refine zC F h λF h=>?_
        refine dc (a.2.length+1) 24 F λF=>?_
        refine zF (bt aB a.2 [(⟨2,j,a.1⟩:aG)] (c:=[[.val (.int .i64 2),.val (.int .i64 j),.val (.int .i64 a.1)]]) rfl) F λF=>?_
        exact zX (z:=e _ (d+1) h zW)
       ·exact zX (z:=e _ d h zW)
      ·exact zX (z:=e _ d h zW)
    ·refine zK F h (eO _ _) λJ h=>?_
     refine nQ F h (λF h=>?_) λF h=>?_
     ·refine zB F h (λF h=>?_) λF h=>?_
      ·refine zC F h λF h=>?_
       refine dc (a.2.length+1) 24 F λF=>?_
       refine zF (bt aB a.2 [(⟨2,j,a.1⟩:aG)] (c:=[[.val (.int .i64 2),.val (.int .i64 j),.val (.int .i64 a.1)]]) rfl) F λF=>?_
       exact zX (z:=e _ (d+1) h zW)
      ·exact zX (z:=e _ d h zW)
     ·exact zX (z:=e _ d h zW)
   ·try dsimp only at h
    exact zX (z:=u _ d h zW)
  ·intro w B n _ F h;try dsimp only at h
   refine zV ?_;refine zN F h (n:Nat) [4,5] (λx=>[(7,.row 9367 x.2),(17,.p (.val (.int .i64 ((x.1.1:Nat):Int))))]) [4,5] (λx H=>[(9367,.row x.2 57 3 (x.1.2.map aB))]) ?_ ?_
   ·intro y o l _ _ F m h;try dsimp only at h
    refine zI aI F h λk F h=>?_
    refine zK F h (kr _ _ _) λK h=>?_
    refine nQ F h (λF h=>?_) λF h=>?_
    ·refine oM F h (λF h=>?_) λF h=>?_
     ·exact zX (z:=m _ l h zW)
     ·refine zC F h λF h=>?_
      refine dc (o.length+1) 24 F λF=>?_
      refine zF (bt aB o [(⟨3,k.id,k.attr⟩:aG)] (c:=[[.val (.int .i64 3),.val (.int .i64 k.id),.val (.int .i64 k.attr)]]) rfl) F λF=>?_
      exact zX (z:=m _ (l+1) h zW)
    ·exact zX (z:=m _ l h zW)
   ·intro y o l _ F h;try dsimp only at h
    exact jx h
end
noncomputable section
theorem vN(a:aH)(r:Int)(h:iD a=some r):aS pw 214 [.agg (aF a)] (λv=>v = .val (.int .i64 r)):=by
 refine aS.oA ?_;refine aR [] func214 ntmps214 results214 ?_;unfold iD at h;have F:=trivial;refine rS F h (λF h=>?_) λF h=>?_
 ·exact zR h
 ·refine rS F h (λF h=>?_) λF h=>?_
  ·exact zR h
  ·refine rS F h (λF h=>?_) λF h=>?_
   ·exact zR h
   ·refine rS F h (λF h=>?_) λF h=>?_
    ·exact zR h
    ·refine zB F h (λF h=>?_) λF h=>?_
     ·exact zR h
     ·refine zK F h (mU _) λr1 h=>?_
      refine nQ F h (λF h=>?_) λF h=>?_
      ·refine zK F h (mV _) λr2 h=>?_
       refine nQ F h (λF h=>?_) λF h=>?_
       ·refine zK F h (mU _) λb h=>?_
        refine nQ F h (λF h=>?_) λF h=>?_
        ·refine zK F h (mV _) λc h=>?_
         refine nQ F h (λF h=>?_) λF h=>?_
         ·refine zK F h (rT _) λd h=>?_
          refine oM F h (λF h=>?_) λF h=>?_
          ·exact zR h
          ·exact zR h
         ·exact zR h
        ·exact zR h
       ·exact zR h
      ·exact zR h
theorem vo(q:Types)(t:Host)(r:(List cM)×Int)(h:gX q t=some r):bw pw 168 [.agg [.aV (q.nodes.map aJ),.aV (q.ak.map aL)],.agg (lM t)] (λv=>v = .dY [.row 241 4 (r.1.map dD),.p (.val (.int .i64 r.2))]):=by
 refine bw.vg ?_;refine bF [101] func168 ntmps168 results168 ?_;unfold gX at h;have F:=trivial;refine zK F h (jb _ _) λr2 h=>?_
 refine oM F h (λF h=>?_) λF h=>?_
 ·refine zV ?_;refine zN F h (0:Nat) [2,3] (λx=>[(8,.row 10863 x.2),(9,.p (.val (.int .i64 ((x.1.1:Nat):Int))))]) [2,3] (λx H=>[(10863,.row x.2 241 4 (x.1.2.map dD))]) ?_ ?_ (hw:=by refine dw.trans (jl 8 10863 241 4 rfl rfl (by decide)) ?_;exact zW)
  ·intro a w u _ _ F A h;try dsimp only at h
   refine zI aL F h λC F h=>?_
   refine zV ?_;refine zQ 2 F h (u:Nat) [2,3,9,10] (λx=>[(8,.row 10863 x.2),(11,.p (.val (.int .i64 ((x.1.1:Nat):Int))))]) [2,3,10] (λx H=>[(10863,.row x.2 241 4 (x.1.2.map dD))]) ?_ ?_
   ·intro b y m _ _ F s h;try dsimp only at h
    refine eZ 9 [] ?_;refine zB F h (λF h=>?_) λF h=>?_
    ·refine eZ 9 [] ?_;refine zV ?_;refine zN F h (m:Nat) [2,3,9,10,11,12,13,14] (λx=>[(8,.row 10863 x.2),(15,.p (.val (.int .i64 ((x.1.1:Nat):Int))))]) [2,3,10] (λx H=>[(10863,.row x.2 241 4 (x.1.2.map dD))]) ?_ ?_
     ·intro j k e _ _ F f h;try dsimp only at h
      refine eZ 10 [] ?_;refine zI encI F h λD F h=>?_
      refine si F h (p0 _ _ _) λG h=>?_
      refine oM F h (λF h=>?_) λF h=>?_
      ·refine zK F h (qG _ _ _ _) λo h=>?_
       refine rS F h (λF h=>?_) λF h=>?_
       ·refine zC F h λF h=>?_
        refine dc (k.length+1) 32 F λF=>?_
        refine zF (bt dD k [(⟨((a:Nat):Int),((j:Nat):Int),o,(decide (((b:Nat):Int)=0))⟩:cM)] (c:=[[.val (.int .i64 ((a:Nat):Int)),.val (.int .i64 ((j:Nat):Int)),.val (.int .i64 o),.val (.bool (decide (((b:Nat):Int)=0)))]]) rfl) F λF=>?_
        exact zX (z:=f _ (e+1) h zW)
       ·refine nQ F h (λF h=>?_) λF h=>?_
        ·refine zB F h (λF h=>?_) λF h=>?_
         ·refine zC F h λF h=>?_
          refine dc (k.length+1) 32 F λF=>?_
          refine zF (bt dD k [(⟨((a:Nat):Int),((j:Nat):Int),o,(decide (((b:Nat):Int)=0))⟩:cM)] (c:=[[.val (.int .i64 ((a:Nat):Int)),.val (.int .i64 ((j:Nat):Int)),.val (.int .i64 o),.val (.bool (decide (((b:Nat):Int)=0)))]]) rfl) F λF=>?_
          exact zX (z:=f _ (e+1) h zW)
         ·exact zX (z:=f _ e h zW)
        ·exact zX (z:=f _ e h zW)
      ·exact zX (z:=f _ e h zW)
     ·intro j k e _ F h;try dsimp only at h
      exact zX (z:=s _ e h zW)
    ·refine zV ?_;refine zN F h (m:Nat) [2,3,9,10,11,12,13,14] (λx=>[(8,.row 10863 x.2),(15,.p (.val (.int .i64 ((x.1.1:Nat):Int))))]) [2,3,10] (λx H=>[(10863,.row x.2 241 4 (x.1.2.map dD))]) ?_ ?_
     ·intro i l d _ _ F g h;try dsimp only at h
      refine eZ 10 [] ?_;refine zI encI F h λB F h=>?_
      refine si F h (p0 _ _ _) λE h=>?_
      refine oM F h (λF h=>?_) λF h=>?_
      ·refine zK F h (qG _ _ _ _) λn h=>?_
       refine rS F h (λF h=>?_) λF h=>?_
       ·refine zC F h λF h=>?_
        refine dc (l.length+1) 32 F λF=>?_
        refine zF (bt dD l [(⟨((a:Nat):Int),((i:Nat):Int),n,(decide (((b:Nat):Int)=0))⟩:cM)] (c:=[[.val (.int .i64 ((a:Nat):Int)),.val (.int .i64 ((i:Nat):Int)),.val (.int .i64 n),.val (.bool (decide (((b:Nat):Int)=0)))]]) rfl) F λF=>?_
        exact zX (z:=g _ (d+1) h zW)
       ·refine nQ F h (λF h=>?_) λF h=>?_
        ·refine zB F h (λF h=>?_) λF h=>?_
         ·refine zC F h λF h=>?_
          refine dc (l.length+1) 32 F λF=>?_
          refine zF (bt dD l [(⟨((a:Nat):Int),((i:Nat):Int),n,(decide (((b:Nat):Int)=0))⟩:cM)] (c:=[[.val (.int .i64 ((a:Nat):Int)),.val (.int .i64 ((i:Nat):Int)),.val (.int .i64 n),.val (.bool (decide (((b:Nat):Int)=0)))]]) rfl) F λF=>?_
          exact zX (z:=g _ (d+1) h zW)
         ·exact zX (z:=g _ d h zW)
        ·exact zX (z:=g _ d h zW)
      ·exact zX (z:=g _ d h zW)
     ·intro i l d _ F h;try dsimp only at h
      exact zX (z:=s _ d h zW)
   ·intro b y m _ F h;try dsimp only at h
    exact zX (z:=A _ m h zW)
  ·intro a w u _ F h;try dsimp only at h
   exact jx h
 ·exact jx h
end
noncomputable section
theorem jf(a:Types)(b:ay)(r:Int)(h:ck a b=some r):aS pw 50 [.agg [.aV (a.nodes.map aJ),.aV (a.ak.map aL)],.agg (aC b)] (λv=>v = .val (.int .i64 r)):=by
 refine aS.oA ?_;refine aR [] func50 ntmps50 results50 ?_;unfold ck at h;have F:=trivial;refine zK F h (qD _) λr2 h=>?_
 refine oM F h (λF h=>?_) λF h=>?_
 ·refine zK F h (jb _ _) λi h=>?_
  refine oM F h (λF h=>?_) λF h=>?_
  ·refine nQ F h (λF h=>?_) λF h=>?_
   ·refine oM F h (λF h=>?_) λF h=>?_
    ·refine rS F h (λF h=>?_) λF h=>?_
     ·exact zR h
     ·refine zB F h (λF h=>?_) λF h=>?_
      ·exact zR h
      ·refine zK F h (sj _ _) λj h=>?_
       refine oM F h (λF h=>?_) λF h=>?_
       ·refine zK F h (sj _ _) λk h=>?_
        refine oM F h (λF h=>?_) λF h=>?_
        ·refine zV ?_;refine zN F h () [3] (λx=>[(11,.p (.val (.int .i64 ((x.1.1:Nat):Int))))]) [3] (λx H=>[]) ?_ ?_
         ·intro e f d _ _ F c h;try dsimp only at h
          refine eZ 9 [] ?_;refine zI encI F h λg F h=>?_
          refine si F h (di _ _) λl h=>?_
          refine zB F h (λF h=>?_) λF h=>?_
          ·exact zR h
          ·exact zX (z:=c _ () h zW)
         ·intro e f d _ F h;try dsimp only at h
          exact zR h
        ·exact zR h
       ·exact zR h
    ·exact zR h
   ·exact zR h
  ·exact zR h
 ·exact zR h
theorem mm(e:List ah)(d:ah->Option Bool)(c:FuncId)(b a:List PV)(f:∀x0 r,d x0=some r->aS pw c (b++[.agg (ag x0)]++a) (λv=>v = .val (.bool r)))(r:Bool)(h:dU e d=some r):aS pw 109 [.aV (e.map ag),.iT (.func c) b a] (λv=>v = .val (.bool r)):=by
 refine aS.oA ?_;refine aR [] func109 ntmps109 results109 ?_;unfold dU at h;have F:=trivial;refine zK F h (tN _ d c b a f) λr2 h=>?_
 exact zR h
theorem sL(a:List aZ)(b:aZ)(r:Bool)(h:fH a b=some r):aS pw 66 [.aV (a.map cB),.agg (cB b)] (λv=>v = .val (.bool r)):=by
 refine aS.oA ?_;refine aR [] func66 ntmps66 results66 ?_;unfold fH at h;have F:=trivial;refine zK F h (uB _ _) λr2 h=>?_
 exact zR h
theorem yb(n:Nat):∀ (d:Host) (e:Host) (a:List Int) (r:(List Int)×Bool) (h:iz n d e a=some r),aS pw 30 [.agg (lM d),.agg (lM e),.aV (a.map encI)] (λv=>v = .dY [.aV (r.1.map encI),.val (.bool r.2)]):=by
 induction n with
 |zero=>intro d e a r h;cases h
 |succ n l =>
 intro d e a r h;refine aS.oA ?_;refine aR [64,66] func30 ntmps30 results30 ?_;unfold iz at h;have F:=trivial;refine zB F h (λF h=>?_) λF h=>?_
 ·exact zR h
 ·refine zV ?_;refine zN F h () [2,3,4,8] (λx=>[(9,.p (.val (.int .i64 ((x.1.1:Nat):Int))))]) [3,4] (λx H=>[]) ?_ ?_
  ·intro g m k _ _ F b h;try dsimp only at h
   refine eZ 32 [] ?_;refine si F h (za _ _) λN h=>?_
   refine AZ F h (λF h=>?_) λF h=>?_
   ·exact zX (z:=b _ () h zW)
   ·refine zI encI F h λs F h=>?_
    refine zI encI F h λt F h=>?_
    refine mE F h (λF h=>?_) λF h=>?_
    ·refine zI bI F h λu F h=>?_
     refine zI bI F h λw F h=>?_
     refine si F h (lq _ _) λO h=>?_
     refine oM F h (λF h=>?_) λF h=>?_
     ·refine zC F h λF h=>?_
      refine dc a.length 8 F λF=>?_
      refine zF (eq_true (dJ (n:=1) (f:=encI) (λ_=>rfl) a)) F λF=>?_
      refine zC F h λF h=>?_
      refine dc (a.length+1) 8 F λF=>?_
      refine zF (bt encI a [((g:Nat):Int)] (c:=[[.val (.int .i64 ((g:Nat):Int))]]) rfl) F λF=>?_
      refine zV ?_;refine zL F h () [2,3,4,8,9,10] (λx=>[(11,.p (.val (.bool x.1.1))),(12,.p (.val (.int .i64 x.1.2)))]) [3,4,64] (λx H=>[]) ?_;intro i y _ _ F j h;try dsimp only at h
      refine nQ F h (λF h=>?_) λF h=>?_
      ·refine zB F h (λF h=>?_) λF h=>?_
       ·refine eZ 45 [] ?_;refine si F h (fU _ _ _) λA h=>?_
        refine eN F h (jS _ _) λB h=>?_
        refine zA encI F h λo F h=>?_
        refine zF (show i.2<((a.length+1:Nat):Int)/\i.2.toNat<a.length+1 by have q:=F.2.1;simp only[List.length_append,List.length_singleton] at q;exact⟨q.2.1,q.2.2⟩) F λF=>?_
        refine si F h (fU _ _ _) λC h=>?_
        refine eN F h (jS _ _) λD h=>?_
        refine si F h (lq _ _) λE h=>?_
        refine mE F h (λF h=>?_) λF h=>?_
        ·refine si F h (fU _ _ _) λG h=>?_
         refine eN F h (jS _ _) λI h=>?_
         refine si F h (fU _ _ _) λJ h=>?_
         refine eN F h (jS _ _) λK h=>?_
         refine si F h (lq _ _) λL h=>?_
         exact zX (z:=j _ () h zW)
        ·exact zX (z:=j _ () h zW)
       ·try dsimp only at h
        rw[show i.1=false from F.2,cond_false] at h;exact zX (z:=b _ () h zW)
      ·try dsimp only at h
       refine oM F h (λF h=>?_) λF h=>?_
       ·refine DA [64] F h (l _ _ _) λM h=>?_
        refine zB F h (λF h=>?_) λF h=>?_
        ·exact zR h
        ·exact zX (z:=b _ () h zW)
       ·exact zX (z:=b _ () h zW)
     ·exact zX (z:=b _ () h zW)
    ·exact zX (z:=b _ () h zW)
  ·intro g m k _ F h;try dsimp only at h
   exact zR h
end
noncomputable section
theorem jE(j:aO)(l:Int)(r:ay)(h:dg j l=some r):bw pw 161 [.agg [.aV (j.nodes.map ag),.aV (j.ak.map aj)],.val (.int .i64 l)] (λv=>v = .agg [.row 3 1 (r.host.graph.nodes.map encI),.row 150 3 (r.host.graph.ak.map aY),.row 32 1 (r.host.values.map bI),.row 3 1 (r.nodes.map encI),.row 3 1 (r.ak.map encI),.p (.val (.int .i64 r.next))]):=by
 refine bw.vg ?_;refine bF [29,38,49,50,70,90] func161 ntmps161 results161 ?_;unfold dg at h;have F:=trivial;refine zV ?_;refine zN F h ((0,0,0):Nat×Nat×Nat) [2,4,5] (λx=>[(6,.p (.val (.int .i64 ((x.1.1:Nat):Int))))]) [2,4] (λx H=>[(5,bx (H 5) [(0,.row 5588 x.2.1),(2,.row 5589 x.2.2.1),(3,.row 5590 x.2.2.2)]),(5588,.row x.2.1 3 1 (x.1.2.1.map encI)),(5589,.row x.2.2.1 32 1 (x.1.2.2.1.map bI)),(5590,.row x.2.2.2 3 1 (x.1.2.2.2.map encI))]) ?_ ?_ (hw:=by refine dw.trans (cz 5 0 5588 3 1 _ rfl rfl rfl (by decide)) ?_;refine dw.trans (cz 5 2 5589 32 1 _ rfl rfl rfl (by decide)) ?_;refine dw.trans (cz 5 3 5590 3 1 _ rfl rfl rfl (by decide)) ?_;exact zW)
 ·intro t d i _ _ F y h;try dsimp only at h
  refine zI ag F h λa F h=>?_
  refine zC F h λF h=>?_
  refine dc (d.2.2.length+1) 8 F λF=>?_
  refine zF (bt encI d.2.2 [a.id] (c:=[[.val (.int .i64 a.id)]]) rfl) F λF=>?_
  refine zC F h λF h=>?_
  refine dc (d.1.length+1) 8 F λF=>?_
  refine zF (bt encI d.1 [a.type] (c:=[[.val (.int .i64 a.type)]]) rfl) F λF=>?_
  refine zE [(0,.p),(1,.p),(3,.p),(2,.b),(4,.q),(5,.q),(6,.w),(7,.w),(8,.w),(9,.q),(10,.q),(11,.w)] ?_;refine zC F h λF h=>?_
  refine dc a.values.length 8 F λF=>?_
  refine zF (eq_true (dJ (n:=1) (f:=encI) (λ_=>rfl) a.values)) F λF=>?_
  refine zC F h λF h=>?_
  refine dc (d.2.1.length+1) 24 F λF=>?_
  refine zF (bt bI d.2.1 [a.values] (c:=[[.aV (a.values.map encI)]]) rfl) F λF=>?_
  exact zX (z:=y _ (i.1+1,i.2.1+1,i.2.2+1) h zW)
 ·intro t d i _ F h;try dsimp only at h
  refine zV ?_;refine zN F h ((0,0):Nat×Nat) [2,4,5] (λx=>[(8,.p (.val (.int .i64 ((x.1.1:Nat):Int))))]) [2,4,5588,5589,5590] (λx H=>[(5,bx (H 5) [(1,.row 5647 x.2.1),(4,.row 5648 x.2.2)]),(5647,.row x.2.1 150 3 (x.1.2.1.map aY)),(5648,.row x.2.2 3 1 (x.1.2.2.map encI))]) ?_ ?_ (hw:=by refine dw.trans (cz 5 1 5647 150 3 _ rfl rfl rfl (by decide)) ?_;refine dw.trans (cz 5 4 5648 3 1 _ rfl rfl rfl (by decide)) ?_;exact zW)
  ·intro u e k _ _ F s h;try dsimp only at h
   refine zI aj F h λg F h=>?_
   refine zC F h λF h=>?_
   refine dc (e.2.length+1) 8 F λF=>?_
   refine zF (bt encI e.2 [g.id] (c:=[[.val (.int .i64 g.id)]]) rfl) F λF=>?_
   refine zE [(0,.p),(1,.p),(2,.p),(4,.q),(5,.q),(6,.q),(7,.q),(8,.q),(9,.q),(10,.q),(11,.q),(12,.q),(13,.q),(14,.q),(15,.q),(16,.q),(17,.p),(3,.q),(18,.w),(19,.q),(20,.q),(21,.q),(22,.w)] ?_;refine si F h (di _ _) λm h=>?_
   refine si F h (di _ _) λo h=>?_
   refine zC F h λF h=>?_
   refine dc (e.1.length+1) 24 F λF=>?_
   refine zF (bt aY e.1 [(⟨g.type,m,o⟩:Edge)] (c:=[[.val (.int .i64 g.type),.val (.int .i64 m),.val (.int .i64 o)]]) rfl) F λF=>?_
   exact zX (z:=s _ (k.1+1,k.2+1) h zW)
  ·intro u e k _ F h;try dsimp only at h
   exact jx h
theorem xk(b:ay)(c:ay)(r:Bool)(h:jd b c=some r):aS pw 95 [.agg (aC b),.agg (aC c)] (λv=>v = .val (.bool r)):=by
 refine aS.oA ?_;refine aR [] func95 ntmps95 results95 ?_;unfold jd at h;have F:=trivial;refine zV ?_;refine zN F h () [2,3] (λx=>[(5,.p (.val (.int .i64 ((x.1.1:Nat):Int))))]) [2,3] (λx H=>[]) ?_ ?_
 ·intro g i e _ _ F d h;try dsimp only at h
  refine eZ 9 [] ?_;refine zI encI F h λk F h=>?_
  refine si F h (di _ _) λt h=>?_
  refine eZ 30 [] ?_;refine si F h (di _ _) λu h=>?_
  refine AZ F h (λF h=>?_) λF h=>?_
  ·exact zR h
  ·refine mE F h (λF h=>?_) λF h=>?_
   ·refine zI encI F h λl F h=>?_
    refine zA encI F h λm F h=>?_
    refine oM F h (λF h=>?_) λF h=>?_
    ·exact zX (z:=d _ () h zW)
    ·exact zR h
   ·exact zX (z:=d _ () h zW)
 ·intro g i e _ F h;try dsimp only at h
  refine zV ?_;refine zN F h () [2,3] (λx=>[(7,.p (.val (.int .i64 ((x.1.1:Nat):Int))))]) [2,3] (λx H=>[]) ?_ ?_
  ·intro i8 j f _ _ F a h;try dsimp only at h
   refine eZ 9 [] ?_;refine zI encI F h λn F h=>?_
   refine si F h (di _ _) λw h=>?_
   refine eZ 22 [] ?_;refine si F h (di _ _) λo h=>?_
   refine AZ F h (λF h=>?_) λF h=>?_
   ·exact zR h
   ·refine mE F h (λF h=>?_) λF h=>?_
    ·refine si F h (kJ _ _) λq h=>?_
     refine si F h (kJ _ _) λs h=>?_
     refine oM F h (λF h=>?_) λF h=>?_
     ·exact zX (z:=a _ () h zW)
     ·exact zR h
    ·exact zX (z:=a _ () h zW)
  ·intro i8 j f _ F h;try dsimp only at h
   exact zR h
theorem rU(e:List au)(d:au->Option Bool)(c:FuncId)(b a:List PV)(f:∀x0 r,d x0=some r->aS pw c (b++[.agg (aj x0)]++a) (λv=>v = .val (.bool r)))(r:Bool)(h:fm e d=some r):aS pw 111 [.aV (e.map aj),.iT (.func c) b a] (λv=>v = .val (.bool r)):=by
 refine aS.oA ?_;refine aR [] func111 ntmps111 results111 ?_;unfold fm at h;have F:=trivial;refine zK F h (tM _ d c b a f) λr2 h=>?_
 exact zR h
end
noncomputable section
theorem zb(a:Types)(b:Host)(r:ay×Int)(h:jH a b=some r):bw pw 16 [.agg [.aV (a.nodes.map aJ),.aV (a.ak.map aL)],.agg (lM b)] (λv=>v = .dY [.agg [.row 3 1 (r.1.host.graph.nodes.map encI),.row 150 3 (r.1.host.graph.ak.map aY),.row 32 1 (r.1.host.values.map bI),.row 3 1 (r.1.nodes.map encI),.row 3 1 (r.1.ak.map encI),.p (.val (.int .i64 r.1.next))],.p (.val (.int .i64 r.2))]):=by
 refine bw.vg ?_;refine bF [] func16 ntmps16 results16 ?_;unfold jH at h;have F:=trivial;refine zK F h (qD _) λr2 h=>?_
 refine oM F h (λF h=>?_) λF h=>?_
 ·refine zK F h (jb _ _) λc h=>?_
  refine oM F h (λF h=>?_) λF h=>?_
  ·refine zG 1672 F h (p6 _) λd h=>?_
   refine zG 1704 F h (pF _ _) λe h=>?_
   refine zG 1784 F h (pF _ _) λf h=>?_
   exact jx h
  ·exact jx h
 ·exact jx h
theorem p9(e:ay)(r:aO)(h:fc e=some r):bw pw 158 [.agg (aC e)] (λv=>v = .agg [.row 86 3 (r.nodes.map ag),.row 88 4 (r.ak.map aj)]):=by
 refine bw.vg ?_;refine bF [19,34] func158 ntmps158 results158 ?_;unfold fc at h;have F:=trivial;refine zV ?_;refine zN F h (0:Nat) [1,2,3] (λx=>[(4,.p (.val (.int .i64 ((x.1.1:Nat):Int))))]) [1,2] (λx H=>[(3,bx (H 3) [(0,.row 5123 x.2)]),(5123,.row x.2 86 3 (x.1.2.map ag))]) ?_ ?_ (hw:=by refine dw.trans (cz 3 0 5123 86 3 _ rfl rfl rfl (by decide)) ?_;exact zW)
 ·intro j b f _ _ F i h;try dsimp only at h
  refine zE [(0,.p),(2,.q),(3,.q),(4,.q),(5,.p),(1,.q),(6,.w),(7,.q),(8,.w)] ?_;refine eN F h (rB _ _) λr2 h=>?_
  refine zC F h λF h=>?_
  refine dc (b.length+1) 40 F λF=>?_
  refine zF (bt ag b [r2] (c:=[[.val (.int .i64 r2.id),.val (.int .i64 r2.type),.aV (r2.values.map encI)]]) rfl) F λF=>?_
  exact zX (z:=i _ (f+1) h zW)
 ·intro j b f _ F h;try dsimp only at h
  refine zV ?_;refine zN F h (0:Nat) [1,2,3] (λx=>[(5,.p (.val (.int .i64 ((x.1.1:Nat):Int))))]) [1,2,5123] (λx H=>[(3,bx (H 3) [(1,.row 5160 x.2)]),(5160,.row x.2 88 4 (x.1.2.map aj))]) ?_ ?_ (hw:=by refine dw.trans (cz 3 1 5160 88 4 _ rfl rfl rfl (by decide)) ?_;exact zW)
  ·intro k d g _ _ F l h;try dsimp only at h
   refine zE [(0,.p),(2,.q),(3,.q),(4,.q),(5,.p),(1,.q),(6,.w),(7,.q),(8,.w)] ?_;refine si F h (kJ _ _) λa h=>?_
   refine zC F h λF h=>?_
   refine dc (d.length+1) 32 F λF=>?_
   refine zF (bt aj d [a] (c:=[[.val (.int .i64 a.id),.val (.int .i64 a.type),.val (.int .i64 a.src),.val (.int .i64 a.dst)]]) rfl) F λF=>?_
   exact zX (z:=l _ (g+1) h zW)
  ·intro k d g _ F h;try dsimp only at h
   exact jx h
theorem yR(e:aH)(f:aH)(r:aH)(h:lF e f=some r):bw pw 62 [.agg (aF e),.agg (aF f)] (λv=>v = .agg [.p (.aV (r.ax.map ag)),.p (.aV (r.aA.map aj)),.row 86 3 (r.aP.map ag),.row 88 4 (r.aM.map aj),.p (.aV (r.values.map aI)),.p (.val (.int .i64 r.next.x0)),.p (.val (.int .i64 r.next.x1))]):=by
 refine bw.vg ?_;refine bF [39,68] func62 ntmps62 results62 ?_;unfold lF at h;have F:=trivial;refine b5 ((0:Int)<=1) F λF=>?_
 refine b5 ((1:Int)<((2:Nat):Int)) F λF=>?_
 refine b5 ((0:Int)<=0) F λF=>?_
 refine b5 ((0:Int)<((2:Nat):Int)) F λF=>?_
 refine zV ?_;refine zN F h (0:Nat) [2,3,4,6,7,24,25] (λx=>[(26,.p (.val (.int .i64 ((x.1.1:Nat):Int))))]) [2,3,4,5] (λx H=>[(7,bx (H 7) [(2,.row 13382 x.2)]),(13382,.row x.2 86 3 (x.1.2.map ag))]) ?_ ?_ (hw:=by refine dw.trans (cz 7 2 13382 86 3 _ rfl rfl rfl (by decide)) ?_;exact zW)
 ·intro s b i _ _ F u h;try dsimp only at h
  refine zI ag F h λa F h=>?_
  refine zK F h (ov _ _ _) λk h=>?_
  refine zC F h λF h=>?_
  refine dc (b.length+1) 40 F λF=>?_
  refine zF (bt ag b [(⟨k,a.type,a.values⟩:ah)] (c:=[[.val (.int .i64 k),.val (.int .i64 a.type),.aV (a.values.map encI)]]) rfl) F λF=>?_
  exact zX (z:=u _ (i+1) h zW)
 ·intro s b i _ F h;try dsimp only at h
  refine zV ?_;refine zN F h (0:Nat) [2,3,4,6,7,43,44] (λx=>[(45,.p (.val (.int .i64 ((x.1.1:Nat):Int))))]) [2,3,4,5,13382] (λx H=>[(7,bx (H 7) [(3,.row 13405 x.2)]),(13405,.row x.2 88 4 (x.1.2.map aj))]) ?_ ?_ (hw:=by refine dw.trans (cz 7 3 13405 88 4 _ rfl rfl rfl (by decide)) ?_;exact zW)
  ·intro t d j _ _ F o h;try dsimp only at h
   refine zI aj F h λg F h=>?_
   refine eZ 13 [.w,.q,.w,.q,.w] ?_;refine si F h (ov _ _ _) λl h=>?_
   refine si F h (ov _ _ _) λm h=>?_
   refine si F h (ov _ _ _) λn h=>?_
   refine zC F h λF h=>?_
   refine dc (d.length+1) 32 F λF=>?_
   refine zF (bt aj d [(⟨l,g.type,m,n⟩:au)] (c:=[[.val (.int .i64 l),.val (.int .i64 g.type),.val (.int .i64 m),.val (.int .i64 n)]]) rfl) F λF=>?_
   exact zX (z:=o _ (j+1) h zW)
  ·intro t d j _ F h;try dsimp only at h
   refine b5 ((0:Int)<=1) F λF=>?_
   refine b5 ((1:Int)<((2:Nat):Int)) F λF=>?_
   refine b5 ((0:Int)<=1) F λF=>?_
   refine b5 ((1:Int)<((2:Nat):Int)) F λF=>?_
   refine b5 ((0:Int)<=1) F λF=>?_
   refine b5 ((1:Int)<((2:Nat):Int)) F λF=>?_
   refine b5 ((0:Int)<=0) F λF=>?_
   refine b5 ((0:Int)<((2:Nat):Int)) F λF=>?_
   exact jx h
end
noncomputable section
theorem pG(j:ay)(k:ay)(r:(List ah)×(List au))(h:fS j k=some r):bw pw 96 [.agg (aC j),.agg (aC k)] (λv=>v = .dY [.row 86 3 (r.1.map ag),.row 88 4 (r.2.map aj)]):=by
 refine bw.vg ?_;refine bF [31,53] func96 ntmps96 results96 ?_;unfold fS at h;have F:=trivial;refine zV ?_;refine zN F h (0:Nat) [2,3,7] (λx=>[(6,.row 6430 x.2),(8,.p (.val (.int .i64 ((x.1.1:Nat):Int))))]) [2,3] (λx H=>[(6430,.row x.2 86 3 (x.1.2.map ag))]) ?_ ?_ (hw:=by refine dw.trans (jl 6 6430 86 3 rfl rfl (by decide)) ?_;exact zW)
 ·intro m f d _ _ F l h;try dsimp only at h
  refine eZ 9 [] ?_;refine zI encI F h λo F h=>?_
  refine si F h (di _ _) λs h=>?_
  refine zB F h (λF h=>?_) λF h=>?_
  ·refine zG 1464 F h (rB _ _) λb h=>?_
   refine zC F h λF h=>?_
   refine dc (f.length+1) 40 F λF=>?_
   refine zF (bt ag f [b] (c:=[[.val (.int .i64 b.id),.val (.int .i64 b.type),.aV (b.values.map encI)]]) rfl) F λF=>?_
   exact zX (z:=l _ (d+1) h zW)
  ·exact zX (z:=l _ d h zW)
 ·intro m f d _ F h;try dsimp only at h
  refine zV ?_;refine zN F h (0:Nat) [2,3,6] (λx=>[(7,.row 6460 x.2),(9,.p (.val (.int .i64 ((x.1.1:Nat):Int))))]) [2,3,6430] (λx H=>[(6460,.row x.2 88 4 (x.1.2.map aj))]) ?_ ?_ (hw:=by refine dw.trans (jl 7 6460 88 4 rfl rfl (by decide)) ?_;exact zW)
  ·intro n g e _ _ F i h;try dsimp only at h
   refine eZ 9 [] ?_;refine zI encI F h λq F h=>?_
   refine si F h (di _ _) λt h=>?_
   refine zB F h (λF h=>?_) λF h=>?_
   ·refine zK F h (kJ _ _) λa h=>?_
    refine zC F h λF h=>?_
    refine dc (g.length+1) 32 F λF=>?_
    refine zF (bt aj g [a] (c:=[[.val (.int .i64 a.id),.val (.int .i64 a.type),.val (.int .i64 a.src),.val (.int .i64 a.dst)]]) rfl) F λF=>?_
    exact zX (z:=i _ (e+1) h zW)
   ·exact zX (z:=i _ e h zW)
  ·intro n g e _ F h;try dsimp only at h
   exact jx h
theorem jY(a:aH)(r:aH)(h:dH a=some r):bw pw 165 [.agg (aF a)] (λv=>v = .agg [.row 86 3 (r.ax.map ag),.row 88 4 (r.aA.map aj),.row 86 3 (r.aP.map ag),.row 88 4 (r.aM.map aj),.row 91 4 (r.values.map aI),.p (.val (.int .i64 r.next.x0)),.p (.val (.int .i64 r.next.x1))]):=by
 refine bw.vg ?_;refine bF [6,9,13,16,17,20] func165 ntmps165 results165 ?_;unfold dH at h;have F:=trivial;refine zE [(0,.q),(1,.q),(4,.q),(5,.q),(7,.b),(8,.b),(11,.b),(12,.b),(15,.b),(16,.b),(18,.b),(19,.b),(2,.f),(3,.w),(6,.s),(9,.f),(10,.w),(13,.s),(14,.w),(17,.s),(20,.q),(21,.w)] ?_;refine zH 1080 F h (ny _) λr1 h=>?_
 refine zC F h λF h=>?_
 refine dc a.aA.length 32 F λF=>?_
 refine zF (eq_true (dJ (n:=4) (f:=aj) (λ_=>rfl) a.aA)) F λF=>?_
 refine zH 1192 F h (ny _) λr2 h=>?_
 refine zC F h λF h=>?_
 refine dc a.aM.length 32 F λF=>?_
 refine zF (eq_true (dJ (n:=4) (f:=aj) (λ_=>rfl) a.aM)) F λF=>?_
 refine zC F h λF h=>?_
 refine dc a.values.length 32 F λF=>?_
 refine zF (eq_true (dJ (n:=4) (f:=aI) (λ_=>rfl) a.values)) F λF=>?_
 exact jx h
theorem yS(k:Types)(l:Host)(a:Int)(b:Bool)(m:Int)(n:Int)(o:Int)(r:(List cM))(h:lG k l a b m n o=some r):bw pw 187 [.agg [.aV (k.nodes.map aJ),.aV (k.ak.map aL)],.agg (lM l),.val (.int .i64 a),.val (.bool b),.val (.int .i64 m),.val (.int .i64 n),.val (.int .i64 o)] (λv=>v = .row 241 4 (r.map dD)):=by
 refine bw.vg ?_;refine bF [88] func187 ntmps187 results187 ?_;unfold lG at h;have F:=trivial;refine zV ?_;refine zN F h (0:Nat) [2,3,4,5,6,7,8,23,24] (λx=>[(15,.row 13551 x.2),(25,.p (.val (.int .i64 ((x.1.1:Nat):Int))))]) [7,8] (λx H=>[(13551,.row x.2 241 4 (x.1.2.map dD))]) ?_ ?_ (hw:=by refine dw.trans (jl 15 13551 241 4 rfl rfl (by decide)) ?_;exact zW)
 ·intro g i d _ _ F e h;try dsimp only at h
  refine zI encI F h λu F h=>?_
  refine zK F h (aqn _ _ _) λw h=>?_
  refine oM F h (λF h=>?_) λF h=>?_
  ·refine zV ?_;refine zN F h () [2,3,4,5,6,7,8,15,16,23,24,25,37,38] (λx=>[(18,.p (.val (.int .i64 x.1.2))),(39,.p (.val (.int .i64 ((x.1.1:Nat):Int))))]) [7,8,13551] (λx H=>[]) ?_ ?_
   ·intro s j q _ _ F f h;try dsimp only at h
    refine zI aY F h λt F h=>?_
    refine nQ F h (λF h=>?_) λF h=>?_
    ·refine nQ F h (λF h=>?_) λF h=>?_
     ·refine rS F h (λF h=>?_) λF h=>?_
      ·exact zX (z:=f _ () h zW)
      ·exact zX (z:=f _ () h zW)
     ·refine zB F h (λF h=>?_) λF h=>?_
      ·exact zX (z:=f _ () h zW)
      ·exact zX (z:=f _ () h zW)
    ·exact zX (z:=f _ () h zW)
   ·intro s j q _ F h;try dsimp only at h
    refine rS F h (λF h=>?_) λF h=>?_
    ·refine zC F h λF h=>?_
     refine dc (i.length+1) 32 F λF=>?_
     refine zF (bt dD i [(⟨a,((g:Nat):Int),j,b⟩:cM)] (c:=[[.val (.int .i64 a),.val (.int .i64 ((g:Nat):Int)),.val (.int .i64 j),.val (.bool b)]]) rfl) F λF=>?_
     exact zX (z:=e _ (d+1) h zW)
    ·refine nQ F h (λF h=>?_) λF h=>?_
     ·refine zB F h (λF h=>?_) λF h=>?_
      ·refine zC F h λF h=>?_
       refine dc (i.length+1) 32 F λF=>?_
       refine zF (bt dD i [(⟨a,((g:Nat):Int),j,b⟩:cM)] (c:=[[.val (.int .i64 a),.val (.int .i64 ((g:Nat):Int)),.val (.int .i64 j),.val (.bool b)]]) rfl) F λF=>?_
       exact zX (z:=e _ (d+1) h zW)
      ·exact zX (z:=e _ d h zW)
     ·exact zX (z:=e _ d h zW)
  ·exact zX (z:=e _ d h zW)
 ·intro g i d _ F h;try dsimp only at h
  exact jx h
end
noncomputable section
theorem yc(n:aH)(t:aH)(r:aH)(h:iw n t=some r):bw pw 103 [.agg (aF n),.agg (aF t)] (λv=>v = .agg [.row 86 3 (r.ax.map ag),.row 88 4 (r.aA.map aj),.row 86 3 (r.aP.map ag),.row 88 4 (r.aM.map aj),.row 91 4 (r.values.map aI),.p (.val (.int .i64 r.next.x0)),.p (.val (.int .i64 r.next.x1))]):=by
 refine bw.vg ?_;refine bF [40,66,102] func103 ntmps103 results103 ?_;unfold iw at h;have F:=trivial;refine zG 1192 F h (jY _) λr2 h=>?_
 refine zV ?_;refine zN F h (0:Nat) [2,3,4,5] (λx=>[(6,.p (.val (.int .i64 ((x.1.1:Nat):Int))))]) [2,3,4,1194,1195] (λx H=>[(5,bx (H 5) [(0,.row 10212 x.2)]),(10212,.row x.2 86 3 (x.1.2.map ag))]) ?_ ?_ (hw:=by refine dw.trans (cz 5 0 10212 86 3 _ rfl rfl rfl (by decide)) ?_;exact zW)
 ·intro y i e _ _ F u h;try dsimp only at h
  refine eZ 9 [] ?_;refine zI ag F h λd F h=>?_
  refine si F h (eO _ _) λD h=>?_
  refine oM F h (λF h=>?_) λF h=>?_
  ·exact zX (z:=u _ e h zW)
  ·refine zE [(0,.p),(2,.q),(3,.q),(4,.q),(5,.q),(6,.q),(7,.p),(1,.q),(8,.w),(9,.q),(10,.w)] ?_;refine zC F h λF h=>?_
   refine dc (i.length+1) 40 F λF=>?_
   refine zF (bt ag i [d] (c:=[[.val (.int .i64 d.id),.val (.int .i64 d.type),.aV (d.values.map encI)]]) rfl) F λF=>?_
   exact zX (z:=u _ (e+1) h zW)
 ·intro y i e _ F h;try dsimp only at h
  refine zV ?_;refine zN F h (0:Nat) [2,3,4,5] (λx=>[(7,.p (.val (.int .i64 ((x.1.1:Nat):Int))))]) [2,3,4,10212,1194,1195] (λx H=>[(5,bx (H 5) [(1,.row 10255 x.2)]),(10255,.row x.2 88 4 (x.1.2.map aj))]) ?_ ?_ (hw:=by refine dw.trans (cz 5 1 10255 88 4 _ rfl rfl rfl (by decide)) ?_;exact zW)
  ·intro A j f _ _ F l h;try dsimp only at h
   refine eZ 9 [] ?_;refine zI aj F h λa F h=>?_
   refine si F h (ya _ _) λE h=>?_
   refine oM F h (λF h=>?_) λF h=>?_
   ·exact zX (z:=l _ f h zW)
   ·refine zE [(0,.p),(2,.q),(3,.q),(4,.q),(5,.q),(6,.q),(7,.p),(1,.q),(8,.w),(9,.q),(10,.w)] ?_;refine zC F h λF h=>?_
    refine dc (j.length+1) 32 F λF=>?_
    refine zF (bt aj j [a] (c:=[[.val (.int .i64 a.id),.val (.int .i64 a.type),.val (.int .i64 a.src),.val (.int .i64 a.dst)]]) rfl) F λF=>?_
    exact zX (z:=l _ (f+1) h zW)
  ·intro A j f _ F h;try dsimp only at h
   refine zV ?_;refine zN F h (0:Nat) [2,3,4,5] (λx=>[(8,.p (.val (.int .i64 ((x.1.1:Nat):Int))))]) [2,3,4,10212,10255,1194,1195] (λx H=>[(5,bx (H 5) [(4,.row 10298 x.2)]),(10298,.row x.2 91 4 (x.1.2.map aI))]) ?_ ?_ (hw:=by refine dw.trans (cz 5 4 10298 91 4 _ rfl rfl rfl (by decide)) ?_;exact zW)
   ·intro B k g _ _ F m h;try dsimp only at h
    refine eZ 16 [.o,.w,.s,.q] ?_;refine zI aI F h λb F h=>?_
    refine si F h (kr _ _ _) λC h=>?_
    refine oM F h (λF h=>?_) λF h=>?_
    ·exact zX (z:=m _ g h zW)
    ·refine zE [(0,.p),(2,.q),(3,.q),(4,.q),(5,.q),(6,.q),(7,.p),(1,.q),(8,.w),(9,.q),(10,.w)] ?_;refine zC F h λF h=>?_
     refine dc (k.length+1) 32 F λF=>?_
     refine zF (bt aI k [b] (c:=[[.val (.int .i64 b.id),.val (.int .i64 b.attr),.val (.int .i64 b.old),.val (.int .i64 b.new)]]) rfl) F λF=>?_
     exact zX (z:=m _ (g+1) h zW)
   ·intro B k g _ F h;try dsimp only at h
    exact jx h
end
noncomputable section
theorem rE(b:Types)(a:Host)(f:Host)(r:nK×Int)(h:fZ b a f=some r):bw pw 10 [.agg [.aV (b.nodes.map aJ),.aV (b.ak.map aL)],.agg (lM a),.agg (lM f)] (λv=>v = .dY [.agg [.p (.aV (r.1.nodes.map encI)),.row 3 1 (r.1.ak.map encI)],.p (.val (.int .i64 r.2))]):=by
 refine bw.vg ?_;refine bF [78] func10 ntmps10 results10 ?_;unfold fZ at h;have F:=trivial;refine zK F h (jb _ _) λC h=>?_
 refine oM F h (λF h=>?_) λF h=>?_
 ·refine zK F h (jb _ _) λD h=>?_
  refine oM F h (λF h=>?_) λF h=>?_
  ·refine rS F h (λF h=>?_) λF h=>?_
   ·exact jx h
   ·refine zB F h (λF h=>?_) λF h=>?_
    ·exact jx h
    ·refine zK F h (yb fuel _ _ _) λE h=>?_
     refine nQ F h (λF h=>?_) λF h=>?_
     ·refine oM F h (λF h=>?_) λF h=>?_
      ·refine zC F h λF h=>?_
       refine zF (eq_true (show ((a.graph.ak.length:Nat):Int) * ((8:Nat):Int)<=140737488355328 by omega)) F λF=>?_
       refine zF (eq_true (show (0:Int)<=((a.graph.ak.length:Nat):Int) by omega)) F λF=>?_
       refine zF (WJ encI a.graph.ak.length 0 (c:=[.val (.int .i64 0)]) rfl) F λF=>?_
       refine zV ?_;refine zN F h (0:Nat) [4,5,6,12,14] (λx=>[(15,.p (.val (.int .i64 ((x.1.1:Nat):Int))))]) [4,5,6] (λx H=>[(14,bx (H 14) [(1,.row 78 x.2)]),(78,.row x.2 3 1 (x.1.2.map encI))]) ?_ ?_
       ·intro q t i _ _ F k h;try dsimp only at h
        refine zV ?_;refine zN F h (i:Nat) [4,5,6,12,14,15] (λx=>[(16,.p (.val (.int .i64 ((x.1.1:Nat):Int))))]) [4,5,6] (λx H=>[(14,bx (H 14) [(1,.row 78 x.2)]),(78,.row x.2 3 1 (x.1.2.map encI))]) ?_ ?_
        ·intro s u e _ _ F l h;try dsimp only at h
         refine eZ 18 [] ?_;refine si F h (fU _ _ _) λG h=>?_
         refine zI encI F h λA F h=>?_
         refine zI encI F h λI F h=>?_
         refine si F h (fU _ _ _) λB h=>?_
         refine zV ?_;refine zN F h (e:Nat) [4,5,6,12,14,15,16,17,18] (λx=>[(19,.p (.val (.int .i64 ((x.1.1:Nat):Int))))]) [4,5,6] (λx H=>[(14,bx (H 14) [(1,.row 78 x.2)]),(78,.row x.2 3 1 (x.1.2.map encI))]) ?_ ?_
         ·intro o j d _ _ F m h;try dsimp only at h
          refine eZ 11 [.w] ?_;refine zI encI F h λn F h=>?_
          refine zI encI F h λg F h=>?_
          refine zA encI F h λy F h=>?_
          refine zF (ve encI j n.toNat g (c:=[.val (.int .i64 g)]) rfl) F λF=>?_
          exact zX (z:=m _ d h zW)
         ·intro o j d _ F h;try dsimp only at h
          exact zX (z:=l _ d h zW)
        ·intro s u e _ F h;try dsimp only at h
         exact zX (z:=k _ e h zW)
       ·intro q t i _ F h;try dsimp only at h
        exact jx h
      ·exact jx h
     ·exact jx h
  ·exact jx h
 ·exact jx h
end
noncomputable section
theorem pH(b:aH)(d:aH)(r:aH)(h:eM b d=some r):bw pw 104 [.agg (aF b),.agg (aF d)] (λv=>v = .agg [.row 86 3 (r.ax.map ag),.row 88 4 (r.aA.map aj),.row 86 3 (r.aP.map ag),.row 88 4 (r.aM.map aj),.row 91 4 (r.values.map aI),.p (.val (.int .i64 r.next.x0)),.p (.val (.int .i64 r.next.x1))]):=by
 refine bw.vg ?_;refine bF [] func104 ntmps104 results104 ?_;unfold eM at h;have F:=trivial;refine zG 1192 F h (jY _) λr2 h=>?_
 refine eZ 12 [] ?_;refine b5 ((0:Int)<=0) F λF=>?_
 refine b5 ((0:Int)<((2:Nat):Int)) F λF=>?_
 refine b5 ((0:Int)<=1) F λF=>?_
 refine b5 ((1:Int)<((2:Nat):Int)) F λF=>?_
 refine b5 ((0:Int)<=0) F λF=>?_
 refine b5 ((0:Int)<((2:Nat):Int)) F λF=>?_
 refine zV ?_;refine zL F h (0:Nat) [2,3,4,5,6,7] (λx=>[(8,.p (.val (.int .i64 x.1.1)))]) [2,3,4,1192,1193,1195,1196] (λx H=>[(5,bx (H 5) [(2,.row 1194 x.2)]),(1194,.row x.2 86 3 (x.1.2.map ag))]) ?_;intro j n _ _ F q h;try dsimp only at h
 refine zB F h (λF h=>?_) λF h=>?_
 ·refine eZ 14 [.w] ?_;refine zA ag F h λa F h=>?_
  refine si F h (ku _ _ _) λf h=>?_
  refine zF (ve ag j.2 j.1.toNat (⟨f,a.type,a.values⟩:ah) (c:=[.val (.int .i64 f),.val (.int .i64 a.type),.aV (a.values.map encI)]) rfl) F λF=>?_
  exact zX (z:=q _ n h zW)
 ·try dsimp only at h
  refine zV ?_;refine zL F h (0:Nat) [2,3,4,5,6,7] (λx=>[(9,.p (.val (.int .i64 x.1.1)))]) [2,3,4,1192,1193,1194,1196] (λx H=>[(5,bx (H 5) [(3,.row 1195 x.2)]),(1195,.row x.2 88 4 (x.1.2.map aj))]) ?_;intro k o _ _ F m h;try dsimp only at h
  refine zB F h (λF h=>?_) λF h=>?_
  ·refine zA aj F h λe F h=>?_
   refine eZ 22 [.w] ?_;refine si F h (ku _ _ _) λg h=>?_
   refine si F h (ku _ _ _) λi h=>?_
   refine si F h (ku _ _ _) λl h=>?_
   refine zF (ve aj k.2 k.1.toNat (⟨g,e.type,i,l⟩:au) (c:=[.val (.int .i64 g),.val (.int .i64 e.type),.val (.int .i64 i),.val (.int .i64 l)]) rfl) F λF=>?_
   exact zX (z:=m _ o h zW)
  ·try dsimp only at h
   refine b5 ((0:Int)<=1) F λF=>?_
   refine b5 ((1:Int)<((2:Nat):Int)) F λF=>?_
   refine b5 ((0:Int)<=1) F λF=>?_
   refine b5 ((1:Int)<((2:Nat):Int)) F λF=>?_
   refine b5 ((0:Int)<=1) F λF=>?_
   refine b5 ((1:Int)<((2:Nat):Int)) F λF=>?_
   refine b5 ((0:Int)<=0) F λF=>?_
   refine b5 ((0:Int)<((2:Nat):Int)) F λF=>?_
   exact jx h
end
noncomputable section
theorem yd(g:ay)(i:ay)(r:aH×Bool)(h:jt g i=some r):bw pw 51 [.agg (aC g),.agg (aC i)] (λv=>v = .dY [.agg [.row 86 3 (r.1.ax.map ag),.row 88 4 (r.1.aA.map aj),.row 86 3 (r.1.aP.map ag),.row 88 4 (r.1.aM.map aj),.row 91 4 (r.1.values.map aI),.p (.val (.int .i64 r.1.next.x0)),.p (.val (.int .i64 r.1.next.x1))],.p (.val (.bool r.2))]):=by
 refine bw.vg ?_;refine bF [100] func51 ntmps51 results51 ?_;unfold jt at h;have F:=trivial;refine zK F h (xk _ _) λr2 h=>?_
 refine oM F h (λF h=>?_) λF h=>?_
 ·refine zG 1416 F h (pG _ _) λt h=>?_
  refine zG 1544 F h (pG _ _) λu h=>?_
  refine zV ?_;refine zN F h (0:Nat) [2,3,4,6] (λx=>[(7,.p (.val (.int .i64 ((x.1.1:Nat):Int))))]) [2,3,4,1416,1417,1544,1545] (λx H=>[(6,bx (H 6) [(4,.row 6584 x.2)]),(6584,.row x.2 91 4 (x.1.2.map aI))]) ?_ ?_ (hw:=by refine dw.trans (cz 6 4 6584 91 4 _ rfl rfl rfl (by decide)) ?_;exact zW)
  ·intro m n b _ _ F e h;try dsimp only at h
   refine eZ 9 [] ?_;refine zI encI F h λj F h=>?_
   refine si F h (di _ _) λy h=>?_
   refine zB F h (λF h=>?_) λF h=>?_
   ·exact zX (z:=e _ b h zW)
   ·refine zV ?_;refine zL F h (b:Nat) [2,3,4,6,7,8] (λx=>[(9,.p (.val (.int .i64 x.1.1)))]) [2,3,4,1416,1417,1544,1545] (λx H=>[(6,bx (H 6) [(4,.row 6584 x.2)]),(6584,.row x.2 91 4 (x.1.2.map aI))]) ?_;intro a d _ _ F f h;try dsimp only at h
    refine zI bI F h λs F h=>?_
    refine zB F h (λF h=>?_) λF h=>?_
    ·refine eZ 20 [] ?_;refine zA encI F h λk F h=>?_
     refine zA bI F h λo F h=>?_
     refine zA encI F h λl F h=>?_
     refine oM F h (λF h=>?_) λF h=>?_
     ·exact zX (z:=f _ d h zW)
     ·refine zE [(0,.p),(2,.q),(3,.q),(4,.q),(5,.q),(6,.q),(7,.q),(8,.q),(9,.q),(10,.q),(11,.p),(1,.q),(12,.w),(13,.q),(14,.w)] ?_;refine zC F h λF h=>?_
      refine dc (a.2.length+1) 32 F λF=>?_
      refine zF (bt aI a.2 [(⟨j,a.1,k,l⟩:aQ)] (c:=[[.val (.int .i64 j),.val (.int .i64 a.1),.val (.int .i64 k),.val (.int .i64 l)]]) rfl) F λF=>?_
      exact zX (z:=f _ (d+1) h zW)
    ·try dsimp only at h
     exact zX (z:=e _ d h zW)
  ·intro m n b _ F h;try dsimp only at h
   exact jx h
 ·exact jx h
end
noncomputable section
theorem jF(a:aO)(e:ah)(r:aO×Bool)(h:cr a e=some r):aS pw 160 [.agg [.aV (a.nodes.map ag),.aV (a.ak.map aj)],.agg (ag e)] (λv=>v = .dY [.agg [.aV (r.1.nodes.map ag),.aV (r.1.ak.map aj)],.val (.bool r.2)]):=by
 refine aS.oA ?_;refine aR [21,26] func160 ntmps160 results160 ?_;unfold cr at h;have F:=trivial;refine zV ?_;refine zN F h () [2,3,4] (λx=>[(6,.p (.val (.int .i64 ((x.1.1:Nat):Int))))]) [2,3,4] (λx H=>[]) ?_ ?_
 ·intro c j g _ _ F i h;try dsimp only at h
  have d:=F.2.2;refine eZ 7 [] ?_;refine zI ag F h λk F h=>?_
  refine si F h (vn _ _) λl h=>?_
  refine zB F h (λF h=>?_) λF h=>?_
  ·refine zE [(1,.q),(2,.q),(3,.q),(4,.q),(6,.b),(7,.b),(8,.b),(9,.b),(10,.b),(12,.b),(13,.b),(0,.w),(5,.s),(11,.w),(14,.q),(15,.w),(16,.q)] ?_;refine zC F h λF h=>?_
   refine zF (eq_true (dJ (n:=3) (f:=ag) (λ_=>rfl) a.nodes)) F λF=>?_
   refine zC F h λF h=>?_
   have w:=F.2;simp only[d,Int.toNat_natCast] at w;replace F:=And.intro F w;refine zF (eq_true (dJ (n:=3) (f:=ag) (λ_=>rfl) a.nodes)) F λF=>?_
   refine zC F h λF h=>?_
   refine dc ((a.nodes.take c).length) 40 F λF=>?_
   refine zF (eq_true (dJ (n:=3) (f:=ag) (λ_=>rfl) (a.nodes.take c))) F λF=>?_
   refine zC F h λF h=>?_
   have w:=F.2;simp only[d,Int.toNat_natCast] at w;replace F:=And.intro F w;refine dc ((a.nodes.take c).length+(a.nodes.drop (i64.wrap (((c:Nat):Int)+1)).toNat).length) 40 F λF=>?_
   have w:=F.2;simp only[d,Int.toNat_natCast] at w;replace F:=And.intro F w;refine zF (eq_true (dJ (n:=3) (f:=ag) (λ_=>rfl) (a.nodes.drop (i64.wrap (((c:Nat):Int)+1)).toNat))) F λF=>?_
   have w:=F.2;simp only[d,Int.toNat_natCast] at w;replace F:=And.intro F w;exact zR h
  ·exact zX (z:=i _ () h zW)
 ·intro c j g _ F h;try dsimp only at h
  exact zR h
theorem yT(c:aH)(a:Int)(r:Bool)(h:jA c a=some r):aS pw 58 [.agg (aF c),.val (.int .i64 a)] (λv=>v = .val (.bool r)):=by
 refine aS.oA ?_;refine aR [] func58 ntmps58 results58 ?_;unfold jA at h;have F:=trivial;refine zK F h (mm _ (λb=>lR b a) 113 [] [.eF [.val (.int .i64 a)] 0] (λb r h=>ac1 b a r h)) λd h=>?_
 exact zR h
end
noncomputable section
theorem rV(i:aH)(j:ay)(r:aH)(h:dS i j=some r):bw pw 102 [.agg (aF i),.agg (aC j)] (λv=>v = .agg [.row 86 3 (r.ax.map ag),.row 88 4 (r.aA.map aj),.row 86 3 (r.aP.map ag),.row 88 4 (r.aM.map aj),.row 91 4 (r.values.map aI),.p (.val (.int .i64 r.next.x0)),.p (.val (.int .i64 r.next.x1))]):=by
 refine bw.vg ?_;refine bF [] func102 ntmps102 results102 ?_;unfold dS at h;have F:=trivial;refine zG 1144 F h (jY _) λr2 h=>?_
 refine zV ?_;refine zL F h (0:Nat) [3,4,5] (λx=>[(6,.p (.val (.int .i64 x.1.1)))]) [3,4,1145,1146,1147,1148] (λx H=>[(5,bx (H 5) [(0,.row 1144 x.2)]),(1144,.row x.2 86 3 (x.1.2.map ag))]) ?_;intro o l _ _ F s h;try dsimp only at h
 refine zB F h (λF h=>?_) λF h=>?_
 ·refine zV ?_;refine zN F h (l:Nat) [3,4,5,6] (λx=>[(7,.p (.val (.int .i64 ((x.1.1:Nat):Int))))]) [3,4,1145,1146,1147,1148] (λx H=>[(5,bx (H 5) [(0,.row 1144 x.2)]),(1144,.row x.2 86 3 (x.1.2.map ag))]) ?_ ?_
  ·intro m k e _ _ F g h;try dsimp only at h
   refine eZ 12 [] ?_;refine zI encI F h λt F h=>?_
   refine zA ag F h λa F h=>?_
   refine zB F h (λF h=>?_) λF h=>?_
   ·refine zE [(0,.p),(2,.p),(3,.p),(1,.b),(4,.q),(5,.q),(6,.q),(7,.q),(8,.q),(9,.q),(10,.w),(11,.q),(12,.q),(13,.w)] ?_;refine zI bI F h λd F h=>?_
    refine zC F h λF h=>?_
    refine dc d.length 8 F λF=>?_
    refine zF (eq_true (dJ (n:=1) (f:=encI) (λ_=>rfl) d)) F λF=>?_
    refine zF (ve ag k o.1.toNat (⟨a.id,a.type,d⟩:ah) (c:=[.val (.int .i64 a.id),.val (.int .i64 a.type),.aV (d.map encI)]) rfl) F λF=>?_
    exact zX (z:=g _ e h zW)
   ·exact zX (z:=g _ e h zW)
  ·intro m k e _ F h;try dsimp only at h
   exact zX (z:=s _ e h zW)
 ·try dsimp only at h
  exact jx h
theorem ahy(a:Types)(b:ay)(c:aH)(d:aH)(r:ay×Int)(h:p7 a b c d=some r):aS pw 63 [.agg [.aV (a.nodes.map aJ),.aV (a.ak.map aL)],.agg (aC b),.agg (aF c),.agg (aF d)] (λv=>v = .dY [.agg (aC r.1),.val (.int .i64 r.2)]):=by
 refine aS.oA ?_;refine aR [] func63 ntmps63 results63 ?_;unfold p7 at h;have F:=trivial;refine zG 1208 F h (yR _ _) λe h=>?_
 refine b5 ((0:Int)<=0) F λF=>?_
 refine b5 ((0:Int)<((2:Nat):Int)) F λF=>?_
 refine DA [1208,1209] F h (qi _ _ _) λf h=>?_
 exact zR h
end
noncomputable section
theorem KU(a:Types)(b:ay)(c:aH)(d:aH)(r:ay×ay×Int)(h:mS a b c d=some r):aS pw 26 [.agg [.aV (a.nodes.map aJ),.aV (a.ak.map aL)],.agg (aC b),.agg (aF c),.agg (aF d)] (λv=>v = .dY [.agg (aC r.1),.agg (aC r.2.1),.val (.int .i64 r.2.2)]):=by
 refine aS.oA ?_;refine aR [2000008] func26 ntmps26 results26 ?_;unfold mS at h;have F:=trivial;refine zK F h (qi _ _ _) λe h=>?_
 refine oM F h (λF h=>?_) λF h=>?_
 ·refine eZ 5 [.w,.s] ?_;refine eN F h (yR _ _) λf h=>?_
  refine eN F h (ae6 _ _) λg h=>?_
  refine rS F h (λF h=>?_) λF h=>?_
  ·exact zR h
  ·refine zB F h (λF h=>?_) λF h=>?_
   ·exact zR h
   ·refine zK F h (qi _ _ _) λi h=>?_
    refine zD [.q,.o,.p,.s,.w,.q] ?_;exact zR h
 ·exact zR h
theorem ae9(a:Types)(d:Host)(r:(List cM)×Int)(h:nW a d=some r):bw pw 132 [.agg [.aV (a.nodes.map aJ),.aV (a.ak.map aL)],.agg (lM d)] (λv=>v = .dY [.row 241 4 (r.1.map dD),.p (.val (.int .i64 r.2))]):=by
 refine bw.vg ?_;refine bF [35] func132 ntmps132 results132 ?_;unfold nW at h;have F:=trivial;refine zK F h (akb _ _) λr2 h=>?_
 refine oM F h (λF h=>?_) λF h=>?_
 ·refine zV ?_;refine zN F h (0:Nat) [2,3,17,18] (λx=>[(7,.row 13631 x.2),(19,.p (.val (.int .i64 ((x.1.1:Nat):Int))))]) [2,3] (λx H=>[(13631,.row x.2 241 4 (x.1.2.map dD))]) ?_ ?_ (hw:=by refine dw.trans (jl 7 13631 241 4 rfl rfl (by decide)) ?_;exact zW)
  ·intro i c e _ _ F j h;try dsimp only at h
   refine zI aL F h λk F h=>?_
   refine zG 1544 F h (yS _ _ _ _ _ _ _) λb h=>?_
   refine zC F h λF h=>?_
   refine dc (c.length+b.length) 32 F λF=>?_
   refine zF (eq_true (dJ (n:=4) (f:=dD) (λ_=>rfl) b)) F λF=>?_
   refine zG 1736 F h (yS _ _ _ _ _ _ _) λg h=>?_
   refine zC F h λF h=>?_
   refine dc (c.length+b.length+g.length) 32 F λF=>?_
   refine zF (eq_true (dJ (n:=4) (f:=dD) (λ_=>rfl) g)) F λF=>?_
   exact zX (z:=j _ (e+1+1) h zW)
  ·intro i c e _ F h;try dsimp only at h
   exact jx h
 ·exact jx h
end
noncomputable section
theorem jw(b:Types)(e:ay)(r:(List bJ))(h:dI b e=some r):bw pw 105 [.agg [.aV (b.nodes.map aJ),.aV (b.ak.map aL)],.agg (aC e)] (λv=>v = .row 216 3 (r.map bZ)):=by
 refine bw.vg ?_;refine bF [44] func105 ntmps105 results105 ?_;unfold dI at h;have F:=trivial;refine zG 1208 F h (vo _ _) λr2 h=>?_
 refine zV ?_;refine zN F h (0:Nat) [3,5] (λx=>[(7,.row 11490 x.2),(8,.p (.val (.int .i64 ((x.1.1:Nat):Int))))]) [3,1208] (λx H=>[(11490,.row x.2 216 3 (x.1.2.map bZ))]) ?_ ?_ (hw:=by refine dw.trans (jl 7 11490 216 3 rfl rfl (by decide)) ?_;exact zW)
 ·intro i d g _ _ F j h;try dsimp only at h
  refine zD [.p,.q,.q,.q,.q,.q,.q,.q,.q,.q,.q,.q,.q,.q,.q,.q,.q,.q,.q,.q,.q,.p,.w,.q] ?_;refine zI dD F h λa F h=>?_
  refine zA encI F h λf F h=>?_
  refine zC F h λF h=>?_
  refine dc (d.length+1) 24 F λF=>?_
  refine zF (bt bZ d [(⟨f,a.fq,a.out⟩:bJ)] (c:=[[.val (.int .i64 f),.val (.int .i64 a.fq),.val (.bool a.out)]]) rfl) F λF=>?_
  exact zX (z:=j _ (g+1) h zW)
 ·intro i d g _ F h;try dsimp only at h
  exact jx h
theorem KV(a:aH)(r:Bool)(h:n9 a=some r):aS pw 57 [.agg (aF a)] (λv=>v = .val (.bool r)):=by
 refine aS.oA ?_;refine aR [] func57 ntmps57 results57 ?_;unfold n9 at h;have F:=trivial;refine b5 ((0:Int)<=1) F λF=>?_
 refine b5 ((1:Int)<((2:Nat):Int)) F λF=>?_
 refine b5 ((0:Int)<=0) F λF=>?_
 refine b5 ((0:Int)<((2:Nat):Int)) F λF=>?_
 refine nQ F h (λF h=>?_) λF h=>?_
 ·refine zK F h (mm _ (λb=>nU b (⟨a.ax,a.aA,a.aP,a.aM,a.values,a.next⟩:aH)) 110 [] [.eF (aF (⟨a.ax,a.aA,a.aP,a.aM,a.values,a.next⟩:aH)) 0] (λb r h=>ae7 b (⟨a.ax,a.aA,a.aP,a.aM,a.values,a.next⟩:aH) r h)) λr2 h=>?_
  refine rS F h (λF h=>?_) λF h=>?_
  ·exact zR h
  ·refine zK F h (rU _ (λc=>nV c (⟨a.ax,a.aA,a.aP,a.aM,a.values,a.next⟩:aH)) 112 [] [.eF (aF (⟨a.ax,a.aA,a.aP,a.aM,a.values,a.next⟩:aH)) 0] (λc r h=>ae8 c (⟨a.ax,a.aA,a.aP,a.aM,a.values,a.next⟩:aH) r h)) λd h=>?_
   exact zR h
 ·exact zR h
end
noncomputable section
theorem vp(a:aH)(b:aH)(r:(List aG))(h:jL a b=some r):bw pw 25 [.agg (aF a),.agg (aF b)] (λv=>v = .row 57 3 (r.map aB)):=by
 refine bw.vg ?_;refine bF [58,81,124] func25 ntmps25 results25 ?_;unfold jL at h;have F:=trivial;obtain⟨l2,G,h⟩:=oI h;have I:l2.map mM=[[.aV (a.ax.map ag),.aV (a.aA.map aj),.aV (a.aP.map ag),.aV (a.aM.map aj),.aV (a.values.map aI),.val (.int .i64 a.next.x0),.val (.int .i64 a.next.x1),.aV (b.ax.map ag),.aV (b.aA.map aj),.aV (b.aP.map ag),.aV (b.aM.map aj),.aV (b.values.map aI),.val (.int .i64 b.next.x0),.val (.int .i64 b.next.x1)],[.aV (b.ax.map ag),.aV (b.aA.map aj),.aV (b.aP.map ag),.aV (b.aM.map aj),.aV (b.values.map aI),.val (.int .i64 b.next.x0),.val (.int .i64 b.next.x1),.aV (a.ax.map ag),.aV (a.aA.map aj),.aV (a.aP.map ag),.aV (a.aM.map aj),.aV (a.values.map aI),.val (.int .i64 a.next.x0),.val (.int .i64 a.next.x1)]]:=by cases G;rfl
 refine zV ?_;refine zN F h ((0,0):Nat×Nat) [2,3,7,27] (λx=>[(5,.row 12944 x.2.1),(6,.row 12945 x.2.2),(26,.p (.aV (l2.map mM))),(28,.p (.val (.int .i64 ((x.1.1:Nat):Int))))]) [2,3] (λx H=>[(12944,.row x.2.1 57 3 (x.1.2.1.map aB)),(12945,.row x.2.2 57 3 (x.1.2.2.map aB))]) ?_ ?_ (hw:=by refine dw.trans (jl 5 12944 57 3 rfl rfl (by decide)) ?_;refine dw.trans (jl 6 12945 57 3 rfl rfl (by decide)) ?_;exact yL (by simp -implicitDefEqProofs only[go_sem,F,I]<;>and_intros<;>rfl))
 ·intro N Q e _ _ F A h;try dsimp only at h
  refine zI mM F h λT F h=>?_
  refine b5 ((0:Int)<=1) F λF=>?_
  refine b5 ((1:Int)<((2:Nat):Int)) F λF=>?_
  refine zV ?_;refine zN F h (e.1:Nat) [2,3,6,7,9,26,27,28,34,35] (λx=>[(5,.row 12944 x.2),(36,.p (.val (.int .i64 ((x.1.1:Nat):Int))))]) [2,3,12945,9] (λx H=>[(12944,.row x.2 57 3 (x.1.2.map aB))]) ?_ ?_
  ·intro O R m _ _ F B h;try dsimp only at h
   refine zI aj F h λw F h=>?_
   obtain⟨y,C,h⟩:=oI h;have D:y.map encI=[[.val (.int .i64 w.src)],[.val (.int .i64 w.dst)]]:=by cases C;rfl
   refine zV ?_;refine zN F h (m:Nat) [2,3,6,7,9,26,27,28,34,35,36,45] (λx=>[(5,.row 12944 x.2),(44,.p (.aV (y.map encI))),(46,.p (.val (.int .i64 ((x.1.1:Nat):Int))))]) [2,3,12945,9] (λx H=>[(12944,.row x.2 57 3 (x.1.2.map aB))]) ?_ ?_ (hw:=by exact yL (by simp -implicitDefEqProofs only[go_sem,F,D]<;>and_intros<;>rfl))
   ·intro J n j _ _ F t h;try dsimp only at h
    refine zI encI F h λu F h=>?_
    refine b5 ((0:Int)<=0) F λF=>?_
    refine b5 ((0:Int)<((2:Nat):Int)) F λF=>?_
    refine zK F h (yT _ _) λU h=>?_
    refine zB F h (λF h=>?_) λF h=>?_
    ·refine zC F h λF h=>?_
     refine dc (n.length+1) 24 F λF=>?_
     refine zF (bt aB n [(⟨1,u,(-1)⟩:aG)] (c:=[[.val (.int .i64 1),.val (.int .i64 u),.val (.int .i64 (-1))]]) rfl) F λF=>?_
     exact zX (z:=t _ (j+1) h zW)
    ·exact zX (z:=t _ j h zW)
   ·intro J n j _ F h;try dsimp only at h
    exact zX (z:=B _ j h zW)
  ·intro O R m _ F h;try dsimp only at h
   refine b5 ((0:Int)<=1) F λF=>?_
   refine b5 ((1:Int)<((2:Nat):Int)) F λF=>?_
   refine zV ?_;refine zN F h (e.2:Nat) [2,3,5,7,9,26,27,28,63,64] (λx=>[(6,.row 12945 x.2),(65,.p (.val (.int .i64 ((x.1.1:Nat):Int))))]) [2,3,12944,9] (λx H=>[(12945,.row x.2 57 3 (x.1.2.map aB))]) ?_ ?_
   ·intro K q k _ _ F s h;try dsimp only at h
    refine zI aI F h λg F h=>?_
    refine b5 ((0:Int)<=0) F λF=>?_
    refine b5 ((0:Int)<((2:Nat):Int)) F λF=>?_
    refine zK F h (yT _ _) λV h=>?_
    refine zB F h (λF h=>?_) λF h=>?_
    ·refine zC F h λF h=>?_
     refine dc (q.length+1) 24 F λF=>?_
     refine zF (bt aB q [(⟨2,g.id,g.attr⟩:aG)] (c:=[[.val (.int .i64 2),.val (.int .i64 g.id),.val (.int .i64 g.attr)]]) rfl) F λF=>?_
     exact zX (z:=s _ (k+1) h zW)
    ·exact zX (z:=s _ k h zW)
   ·intro K q k _ F h;try dsimp only at h
    exact zX (z:=A _ (m,k) h zW)
 ·intro N Q e _ F h;try dsimp only at h
  refine zV ?_;refine zN F h (0:Nat) [3,5,6,85,86] (λx=>[(7,.row 13230 x.2),(87,.p (.val (.int .i64 ((x.1.1:Nat):Int))))]) [3,12944,12945] (λx H=>[(13230,.row x.2 57 3 (x.1.2.map aB))]) ?_ ?_ (hw:=by refine dw.trans (jl 7 13230 57 3 rfl rfl (by decide)) ?_;exact zW)
  ·intro L P l _ _ F E h;try dsimp only at h
   refine zI aI F h λi F h=>?_
   refine zV ?_;refine zN F h (l:Nat) [3,5,6,17,85,86,87,92,93] (λx=>[(7,.row 13230 x.2),(94,.p (.val (.int .i64 ((x.1.1:Nat):Int))))]) [3,12944,12945,17] (λx H=>[(13230,.row x.2 57 3 (x.1.2.map aB))]) ?_ ?_
   ·intro M o d _ _ F f h;try dsimp only at h
    refine zI aI F h λS F h=>?_
    refine nQ F h (λF h=>?_) λF h=>?_
    ·refine nQ F h (λF h=>?_) λF h=>?_
     ·refine oM F h (λF h=>?_) λF h=>?_
      ·exact zX (z:=f _ d h zW)
      ·refine zC F h λF h=>?_
       refine dc (o.length+1) 24 F λF=>?_
       refine zF (bt aB o [(⟨3,i.id,i.attr⟩:aG)] (c:=[[.val (.int .i64 3),.val (.int .i64 i.id),.val (.int .i64 i.attr)]]) rfl) F λF=>?_
       exact zX (z:=f _ (d+1) h zW)
     ·exact zX (z:=f _ d h zW)
    ·exact zX (z:=f _ d h zW)
   ·intro M o d _ F h;try dsimp only at h
    exact zX (z:=E _ d h zW)
  ·intro L P l _ F h;try dsimp only at h
   refine DB F h (qh e.1 _) λW h=>?_
   refine DB F h (qh e.2 _) λX h=>?_
   refine DB F h (qh l _) λY h=>?_
   refine zG 3144 F h (vM _) λZ h=>?_
   exact jx h
end
noncomputable section
theorem tR(a:aO)(b:aH)(r:aO×Bool)(h:gl a b=some r):aS pw 215 [.agg [.aV (a.nodes.map ag),.aV (a.ak.map aj)],.agg (aF b)] (λv=>v = .dY [.agg [.aV (r.1.nodes.map ag),.aV (r.1.ak.map aj)],.val (.bool r.2)]):=by
 refine aS.oA ?_;refine aR [] func215 ntmps215 results215 ?_;unfold gl at h;have F:=trivial;refine zV ?_;refine zL F h () [2,3,4] (λx=>[(6,.p (.val (.bool x.1.1))),(7,.p (.val (.int .i64 x.1.2.1)))]) [3,4] (λx H=>[(2,.box [.p (.aV (x.1.2.2.1.map ag)),.p (.aV (x.1.2.2.2.map aj))])]) ?_;intro P A _ _ F j h;try dsimp only at h
 refine nQ F h (λF h=>?_) λF h=>?_
 ·refine zB F h (λF h=>?_) λF h=>?_
  ·refine eZ 9 [.p,.w,.q] ?_;refine zA aj F h λn F h=>?_
   refine si F h (mj _ _) λK h=>?_
   exact zX (z:=j _ () h zW)
  ·try dsimp only at h
   refine zV ?_;refine zL F h () [2,3,4] (λx=>[(6,.p (.val (.bool x.1.1))),(8,.p (.val (.int .i64 x.1.2.1)))]) [3,4] (λx H=>[(2,.box [.p (.aV (x.1.2.2.1.map ag)),.p (.aV (x.1.2.2.2.map aj))])]) ?_;intro R C _ _ F c h;try dsimp only at h
   refine nQ F h (λF h=>?_) λF h=>?_
   ·refine zB F h (λF h=>?_) λF h=>?_
    ·refine eZ 9 [.p,.w,.q] ?_;refine zA ag F h λo F h=>?_
     refine si F h (jF _ _) λL h=>?_
     exact zX (z:=c _ () h zW)
    ·try dsimp only at h
     refine zV ?_;refine zL F h () [2,3,4] (λx=>[(6,.p (.val (.bool x.1.1))),(9,.p (.val (.int .i64 x.1.2.1)))]) [3,4] (λx H=>[(2,.box [.p (.aV (x.1.2.2.1.map ag)),.p (.aV (x.1.2.2.2.map aj))])]) ?_;intro S D _ _ F d h;try dsimp only at h
     refine nQ F h (λF h=>?_) λF h=>?_
     ·refine zB F h (λF h=>?_) λF h=>?_
      ·refine eZ 9 [.p,.w,.q] ?_;refine zA aI F h λs F h=>?_
       refine eN F h (jj _ _) λT h=>?_
       exact zX (z:=d _ () h zW)
      ·try dsimp only at h
       exact zR h
     ·try dsimp only at h
      exact zR h
   ·try dsimp only at h
    refine zV ?_;refine zL F h () [2,3,4] (λx=>[(6,.p (.val (.bool x.1.1))),(9,.p (.val (.int .i64 x.1.2.1)))]) [3,4] (λx H=>[(2,.box [.p (.aV (x.1.2.2.1.map ag)),.p (.aV (x.1.2.2.2.map aj))])]) ?_;intro M t _ _ F e h;try dsimp only at h
    refine nQ F h (λF h=>?_) λF h=>?_
    ·refine zB F h (λF h=>?_) λF h=>?_
     ·refine eZ 9 [.p,.w,.q] ?_;refine zA aI F h λU F h=>?_
      refine eN F h (jj _ _) λE h=>?_
      exact zX (z:=e _ () h zW)
     ·try dsimp only at h
      exact zR h
    ·try dsimp only at h
     exact zR h
 ·try dsimp only at h
  refine zV ?_;refine zL F h () [2,3,4] (λx=>[(6,.p (.val (.bool x.1.1))),(8,.p (.val (.int .i64 x.1.2.1)))]) [3,4] (λx H=>[(2,.box [.p (.aV (x.1.2.2.1.map ag)),.p (.aV (x.1.2.2.2.map aj))])]) ?_;intro N u _ _ F g h;try dsimp only at h
  refine nQ F h (λF h=>?_) λF h=>?_
  ·refine zB F h (λF h=>?_) λF h=>?_
   ·refine eZ 9 [.p,.w,.q] ?_;refine zA ag F h λk F h=>?_
    refine si F h (jF _ _) λG h=>?_
    exact zX (z:=g _ () h zW)
   ·try dsimp only at h
    refine zV ?_;refine zL F h () [2,3,4] (λx=>[(6,.p (.val (.bool x.1.1))),(9,.p (.val (.int .i64 x.1.2.1)))]) [3,4] (λx H=>[(2,.box [.p (.aV (x.1.2.2.1.map ag)),.p (.aV (x.1.2.2.2.map aj))])]) ?_;intro O y _ _ F f h;try dsimp only at h
    refine nQ F h (λF h=>?_) λF h=>?_
    ·refine zB F h (λF h=>?_) λF h=>?_
     ·refine eZ 9 [.p,.w,.q] ?_;refine zA aI F h λl F h=>?_
      refine eN F h (jj _ _) λI h=>?_
      exact zX (z:=f _ () h zW)
     ·try dsimp only at h
      exact zR h
    ·try dsimp only at h
     exact zR h
  ·try dsimp only at h
   refine zV ?_;refine zL F h () [2,3,4] (λx=>[(6,.p (.val (.bool x.1.1))),(9,.p (.val (.int .i64 x.1.2.1)))]) [3,4] (λx H=>[(2,.box [.p (.aV (x.1.2.2.1.map ag)),.p (.aV (x.1.2.2.2.map aj))])]) ?_;intro Q B _ _ F i h;try dsimp only at h
   refine nQ F h (λF h=>?_) λF h=>?_
   ·refine zB F h (λF h=>?_) λF h=>?_
    ·refine eZ 9 [.p,.w,.q] ?_;refine zA aI F h λm F h=>?_
     refine eN F h (jj _ _) λJ h=>?_
     exact zX (z:=i _ () h zW)
    ·try dsimp only at h
     exact zR h
   ·try dsimp only at h
    exact zR h
end
noncomputable section
theorem KW(c:Types)(d:ay)(a:aH)(b:aH)(r:Int)(h:lW c d a b=some r):aS pw 24 [.agg [.aV (c.nodes.map aJ),.aV (c.ak.map aL)],.agg (aC d),.agg (aF a),.agg (aF b)] (λv=>v = .val (.int .i64 r)):=by
 refine aS.oA ?_;refine aR [] func24 ntmps24 results24 ?_;unfold lW at h;have F:=trivial;obtain⟨e,i,h⟩:=oI h;have j:e.map aF=[[.aV (a.ax.map ag),.aV (a.aA.map aj),.aV (a.aP.map ag),.aV (a.aM.map aj),.aV (a.values.map aI),.val (.int .i64 a.next.x0),.val (.int .i64 a.next.x1)],[.aV (b.ax.map ag),.aV (b.aA.map aj),.aV (b.aP.map ag),.aV (b.aM.map aj),.aV (b.values.map aI),.val (.int .i64 b.next.x0),.val (.int .i64 b.next.x1)]]:=by cases i;rfl
 refine zV ?_;refine zN F h () [4,5,6,7,16] (λx=>[(15,.p (.aV (e.map aF))),(17,.p (.val (.int .i64 ((x.1.1:Nat):Int))))]) [4,5,6,7] (λx H=>[]) ?_ ?_ (hw:=by exact yL (by simp -implicitDefEqProofs only[go_sem,F,j]<;>and_intros<;>rfl))
 ·intro k l g _ _ F f h;try dsimp only at h
  refine zI aF F h λm F h=>?_
  refine zK F h (qi _ _ _) λo h=>?_
  refine oM F h (λF h=>?_) λF h=>?_
  ·exact zX (z:=f _ () h zW)
  ·exact zR h
 ·intro k l g _ F h;try dsimp only at h
  refine zK F h (KV _) λq h=>?_
  refine nQ F h (λF h=>?_) λF h=>?_
  ·refine zK F h (KV _) λn h=>?_
   refine oM F h (λF h=>?_) λF h=>?_
   ·refine b5 ((0:Int)<=1) F λF=>?_
    refine b5 ((1:Int)<((2:Nat):Int)) F λF=>?_
    refine b5 ((0:Int)<=1) F λF=>?_
    refine b5 ((1:Int)<((2:Nat):Int)) F λF=>?_
    refine b5 ((0:Int)<=0) F λF=>?_
    refine b5 ((0:Int)<((2:Nat):Int)) F λF=>?_
    refine zB F h (λF h=>?_) λF h=>?_
    ·exact zR h
    ·exact zR h
   ·exact zR h
  ·exact zR h
end
noncomputable section
theorem pI(b:ay)(c:Bool)(d:Int)(r:ay)(h:fR b c d=some r):bw pw 92 [.agg (aC b),.val (.bool c),.val (.int .i64 d)] (λv=>v = .agg [.row 3 1 (r.host.graph.nodes.map encI),.row 150 3 (r.host.graph.ak.map aY),.row 32 1 (r.host.values.map bI),.row 3 1 (r.nodes.map encI),.row 3 1 (r.ak.map encI),.p (.val (.int .i64 r.next))]):=by
 refine bw.vg ?_;refine bF [] func92 ntmps92 results92 ?_;unfold fR at h;have F:=trivial;refine zG 1144 F h (p9 _) λa h=>?_
 refine zB F h (λF h=>?_) λF h=>?_
 ·refine zV ?_;refine iZ 1144 0 86 3 (a.nodes.map ag) [] (by simp -implicitDefEqProofs only[go_sem,F]<;>rfl) (by simp -implicitDefEqProofs only[go_sem,F]<;>and_intros<;>rfl) (by decide) ?_;refine iZ 1145 0 88 4 (a.ak.map aj) [] (by simp -implicitDefEqProofs only[go_sem,F]<;>rfl) (by simp -implicitDefEqProofs only[go_sem,F]<;>and_intros<;>rfl) (by decide) ?_;refine eZ 9 [.p,.w] ?_;refine zA aj F h λe F h=>?_
  refine si F h (mj _ _) λg h=>?_
  refine zG 1544 F h (jE _ _) λi h=>?_
  exact jx h
 ·refine zV ?_;refine iZ 1144 0 86 3 (a.nodes.map ag) [] (by simp -implicitDefEqProofs only[go_sem,F]<;>rfl) (by simp -implicitDefEqProofs only[go_sem,F]<;>and_intros<;>rfl) (by decide) ?_;refine iZ 1145 0 88 4 (a.ak.map aj) [] (by simp -implicitDefEqProofs only[go_sem,F]<;>rfl) (by simp -implicitDefEqProofs only[go_sem,F]<;>and_intros<;>rfl) (by decide) ?_;refine eZ 9 [.p,.w] ?_;refine zA ag F h λf F h=>?_
  refine si F h (jF _ _) λj h=>?_
  refine zG 1544 F h (jE _ _) λk h=>?_
  exact jx h
end
noncomputable section
theorem o9(b:Types)(e:ay)(r:(List aZ))(h:je b e=some r):bw pw 65 [.agg [.aV (b.nodes.map aJ),.aV (b.ak.map aL)],.agg (aC e)] (λv=>v = .row 170 3 (r.map cB)):=by
 refine bw.vg ?_;refine bF [36] func65 ntmps65 results65 ?_;unfold je at h;have F:=trivial;refine zG 1224 F h (ae9 _ _) λr2 h=>?_
 refine zV ?_;refine zN F h (0:Nat) [3,17,18] (λx=>[(7,.row 13681 x.2),(19,.p (.val (.int .i64 ((x.1.1:Nat):Int))))]) [3,1224] (λx H=>[(13681,.row x.2 170 3 (x.1.2.map cB))]) ?_ ?_ (hw:=by refine dw.trans (jl 7 13681 170 3 rfl rfl (by decide)) ?_;exact zW)
 ·intro i d g _ _ F j h;try dsimp only at h
  refine zI dD F h λa F h=>?_
  refine zD [.p,.q,.q,.q,.q,.q,.q,.q,.q,.q,.q,.q,.p,.w,.q] ?_;refine zA encI F h λf F h=>?_
  refine zC F h λF h=>?_
  refine dc (d.length+1) 24 F λF=>?_
  refine zF (bt cB d [(⟨f,a.fq,a.out⟩:aZ)] (c:=[[.val (.int .i64 f),.val (.int .i64 a.fq),.val (.bool a.out)]]) rfl) F λF=>?_
  exact zX (z:=j _ (g+1) h zW)
 ·intro i d g _ F h;try dsimp only at h
  exact jx h
end
noncomputable section
theorem rF(a:Types)(b:ay)(c:ay)(r:aH×Int)(h:iu a b c=some r):bw pw 19 [.agg [.aV (a.nodes.map aJ),.aV (a.ak.map aL)],.agg (aC b),.agg (aC c)] (λv=>v = .dY [.agg [.row 86 3 (r.1.ax.map ag),.row 88 4 (r.1.aA.map aj),.row 86 3 (r.1.aP.map ag),.row 88 4 (r.1.aM.map aj),.row 91 4 (r.1.values.map aI),.p (.val (.int .i64 r.1.next.x0)),.p (.val (.int .i64 r.1.next.x1))],.p (.val (.int .i64 r.2))]):=by
 refine bw.vg ?_;refine bF [] func19 ntmps19 results19 ?_;unfold iu at h;have F:=trivial;refine zK F h (jf _ _) λd h=>?_
 refine oM F h (λF h=>?_) λF h=>?_
 ·refine zK F h (jf _ _) λe h=>?_
  refine oM F h (λF h=>?_) λF h=>?_
  ·refine zG 1464 F h (yd _ _) λf h=>?_
   refine oM F h (λF h=>?_) λF h=>?_
   ·exact jx h
   ·exact jx h
  ·exact jx h
 ·exact jx h
end
noncomputable section
theorem vO(j:Types)(g:ay)(d:jW)(r:ay)(h:iC j g d=some r):bw pw 49 [.agg [.aV (j.nodes.map aJ),.aV (j.ak.map aL)],.agg (aC g),.agg (dW d)] (λv=>v = .agg [.row 3 1 (r.host.graph.nodes.map encI),.row 150 3 (r.host.graph.ak.map aY),.row 32 1 (r.host.values.map bI),.row 3 1 (r.nodes.map encI),.row 3 1 (r.ak.map encI),.p (.val (.int .i64 r.next))]):=by
 refine bw.vg ?_;refine bF [115,188] func49 ntmps49 results49 ?_;unfold iC at h;have F:=trivial;refine eZ 8 [] ?_;refine b5 ((0:Int)<=1) F λF=>?_
 refine b5 ((1:Int)<((3:Nat):Int)) F λF=>?_
 refine b5 ((0:Int)<=2) F λF=>?_
 refine b5 ((2:Int)<((3:Nat):Int)) F λF=>?_
 refine zG 1352 F h (vK _) λa h=>?_
 refine eZ 8 [] ?_;refine b5 ((0:Int)<=0) F λF=>?_
 refine b5 ((0:Int)<((3:Nat):Int)) F λF=>?_
 refine b5 (¬ ((5:Int)=0)) F λF=>?_
 refine nQ F h (λF h=>?_) λF h=>?_
 ·refine zB F h (λF h=>?_) λF h=>?_
  ·refine eZ 9 [] ?_;refine zC F h λF h=>?_
   refine Ci bI F h λe n F h=>?_
   refine zB F h (λF h=>?_) λF h=>?_
   ·refine eZ 14 [.t] ?_;refine zC F h λF h=>?_
    refine zC F h λF h=>?_
    refine zA encI F h λi F h=>?_
    refine zF (ve encI e (((i64.wrap d.x2).tmod ((e.length:Nat):Int)).toNat) (i64.wrap (i+1)) (c:=[.val (.int .i64 (i64.wrap (i+1)))]) rfl) F λF=>?_
    refine zF (ve bI a.host.values (((i64.wrap d.x1).tmod ((g.nodes.length:Nat):Int)).toNat) (e.set (((i64.wrap d.x2).tmod ((e.length:Nat):Int)).toNat) (i64.wrap (i+1))) (c:=[.aV ((e.set (((i64.wrap d.x2).tmod ((e.length:Nat):Int)).toNat) (i64.wrap (i+1))).map encI)]) rfl) F λF=>?_
    refine zV ?_;refine Kg 3 _ _ 1354 0 (((i64.wrap d.x1).tmod ((g.nodes.length:Nat):Int)).toNat) (((i64.wrap d.x2).tmod ((e.length:Nat):Int)).toNat) 32 1 0 3 (a.host.values.map bI) (bI e) (e.map encI) (.val (.int .i64 (i64.wrap (i+1)))) rfl (by simp -implicitDefEqProofs only[go_sem,F]<;>rfl) (by simp -implicitDefEqProofs only[go_sem,F]) (by simp -implicitDefEqProofs only[go_sem,F]) ⟨rfl,rfl⟩ (by simp -implicitDefEqProofs only[go_sem,F]<;>rfl) (by rw[List.getElem?_map,aFE n];rfl) rfl (by rw[List.length_map];omega) ?_;refine zV ?_;refine j8 _ _ (kN 1354 0 32 1 0 3 1 ((a.host.values.set (((i64.wrap d.x1).tmod ((g.nodes.length:Nat):Int)).toNat) (e.set (((i64.wrap d.x2).tmod ((e.length:Nat):Int)).toNat) (i64.wrap (i+1)))).map bI) (by decide) (by simp -implicitDefEqProofs only[go_sem,F]<;>rfl)) (by simp -implicitDefEqProofs only[go_sem,F]<;>rfl) (by first|trivial|(simp -implicitDefEqProofs only[go_sem,F]<;>trivial)) ?_;exact jx h
   ·refine zV ?_;refine j8 _ _ (kN 1354 0 32 1 0 3 1 (a.host.values.map bI) (by decide) (by simp -implicitDefEqProofs only[go_sem,F]<;>rfl)) (by simp -implicitDefEqProofs only[go_sem,F]<;>rfl) (by first|trivial|(simp -implicitDefEqProofs only[go_sem,F]<;>trivial)) ?_;exact jx h
  ·refine zF (show decide (((i64.wrap d.x0).tmod 5)=1)=false from gA (by have w:=F;simp only[decide_eq_true_eq] at w;omega)) F λF=>?_
   refine zF (show decide (((i64.wrap d.x0).tmod 5)=2)=false from gA (by have w:=F;simp only[decide_eq_true_eq] at w;omega)) F λF=>?_
   refine zF (show decide (((i64.wrap d.x0).tmod 5)=3)=false from gA (by have w:=F;simp only[decide_eq_true_eq] at w;omega)) F λF=>?_
   refine zF (show decide (((i64.wrap d.x0).tmod 5)=4)=false from gA (by have w:=F;simp only[decide_eq_true_eq] at w;omega)) F λF=>?_
   refine zV ?_;refine j8 _ _ (kN 1354 0 32 1 0 3 1 (a.host.values.map bI) (by decide) (by simp -implicitDefEqProofs only[go_sem,F]<;>rfl)) (by simp -implicitDefEqProofs only[go_sem,F]<;>rfl) (by first|trivial|(simp -implicitDefEqProofs only[go_sem,F]<;>trivial)) ?_;exact jx h
 ·refine nQ F h (λF h=>?_) λF h=>?_
  ·refine zB F h (λF h=>?_) λF h=>?_
   ·refine eZ 4 [.f,.w] ?_;refine zC F h λF h=>?_
    refine zH 2216 F h (pI _ _ _) λo h=>?_
    exact jx h
   ·refine zF (show decide (((i64.wrap d.x0).tmod 5)=2)=false from gA (by have w:=F;simp only[decide_eq_true_eq] at w;omega)) F λF=>?_
    refine zF (show decide (((i64.wrap d.x0).tmod 5)=3)=false from gA (by have w:=F;simp only[decide_eq_true_eq] at w;omega)) F λF=>?_
    refine zF (show decide (((i64.wrap d.x0).tmod 5)=4)=false from gA (by have w:=F;simp only[decide_eq_true_eq] at w;omega)) F λF=>?_
    refine zV ?_;refine j8 _ _ (kN 1354 0 32 1 0 3 1 (a.host.values.map bI) (by decide) (by simp -implicitDefEqProofs only[go_sem,F]<;>rfl)) (by simp -implicitDefEqProofs only[go_sem,F]<;>rfl) (by first|trivial|(simp -implicitDefEqProofs only[go_sem,F]<;>trivial)) ?_;exact jx h
  ·refine nQ F h (λF h=>?_) λF h=>?_
   ·refine zB F h (λF h=>?_) λF h=>?_
    ·refine eZ 4 [.f,.w] ?_;refine zC F h λF h=>?_
     refine zH 2408 F h (pI _ _ _) λs h=>?_
     exact jx h
    ·refine zF (show decide (((i64.wrap d.x0).tmod 5)=3)=false from gA (by have w:=F;simp only[decide_eq_true_eq] at w;omega)) F λF=>?_
     refine zF (show decide (((i64.wrap d.x0).tmod 5)=4)=false from gA (by have w:=F;simp only[decide_eq_true_eq] at w;omega)) F λF=>?_
     refine zV ?_;refine j8 _ _ (kN 1354 0 32 1 0 3 1 (a.host.values.map bI) (by decide) (by simp -implicitDefEqProofs only[go_sem,F]<;>rfl)) (by simp -implicitDefEqProofs only[go_sem,F]<;>rfl) (by first|trivial|(simp -implicitDefEqProofs only[go_sem,F]<;>trivial)) ?_;exact jx h
   ·refine zB F h (λF h=>?_) λF h=>?_
    ·refine b5 ((0:Int)<=1) F λF=>?_
     refine b5 ((1:Int)<((3:Nat):Int)) F λF=>?_
     refine b5 ((0:Int)<=2) F λF=>?_
     refine b5 ((2:Int)<((3:Nat):Int)) F λF=>?_
     refine zT F h (rD _ _) λu h=>?_
     refine zB F h (λF h=>?_) λF h=>?_
     ·refine zV ?_;refine avb (kN 1354 0 32 1 0 3 1 (a.host.values.map bI) (by decide) (by simp -implicitDefEqProofs only[go_sem,F]<;>rfl)) ?_;refine zE [(0,.p),(1,.p),(2,.p),(4,.p),(5,.p),(11,.p),(12,.p),(14,.b),(15,.b),(16,.b),(17,.b),(18,.p),(3,.q),(6,.q),(7,.q),(8,.q),(13,.b),(9,.w),(10,.w),(20,.b),(21,.b),(22,.b),(19,.w),(23,.w),(24,.q),(25,.q),(26,.w)] ?_;refine zJ 0 bI F h λk F h=>?_
      refine zJ 0 encI F h λl F h=>?_
      refine zC F h λF h=>?_
      refine dc (a.host.graph.nodes.length+1) 8 F λF=>?_
      refine zF (bt encI a.host.graph.nodes [l] (c:=[[.val (.int .i64 l)]]) rfl) F λF=>?_
      refine zC F h λF h=>?_
      refine dc (a.host.values.length+1) 24 F λF=>?_
      refine zF (bt bI a.host.values [k] (c:=[[.aV (k.map encI)]]) rfl) F λF=>?_
      refine zE [(0,.p),(2,.q),(3,.q),(4,.p),(1,.q),(6,.b),(7,.b),(5,.w),(8,.p),(9,.q),(10,.w),(11,.q),(12,.w)] ?_;refine zC F h λF h=>?_
      refine dc (a.nodes.length+1) 8 F λF=>?_
      refine zF (bt encI a.nodes [a.next] (c:=[[.val (.int .i64 a.next)]]) rfl) F λF=>?_
      refine zV ?_;refine j8 _ _ ((show True->dw _ _ _ _ from λ_ C I L x w m=>⟨I,L,m⟩) (by simp -implicitDefEqProofs only[go_sem,F]<;>rfl)) (by simp -implicitDefEqProofs only[go_sem,F]<;>rfl) (by first|trivial|(simp -implicitDefEqProofs only[go_sem,F]<;>trivial)) ?_;exact jx h
     ·refine zV ?_;refine j8 _ _ (kN 1354 0 32 1 0 3 1 (a.host.values.map bI) (by decide) (by simp -implicitDefEqProofs only[go_sem,F]<;>rfl)) (by simp -implicitDefEqProofs only[go_sem,F]<;>rfl) (by first|trivial|(simp -implicitDefEqProofs only[go_sem,F]<;>trivial)) ?_;exact jx h
    ·refine nQ F h (λF h=>?_) λF h=>?_
     ·refine nQ F h (λF h=>?_) λF h=>?_
      ·refine zB F h (λF h=>?_) λF h=>?_
       ·refine zE [(0,.p),(1,.p),(2,.p),(4,.q),(5,.q),(6,.q),(7,.q),(8,.q),(9,.q),(10,.q),(11,.q),(12,.q),(13,.q),(14,.q),(15,.q),(16,.q),(17,.p),(3,.q),(18,.w),(19,.q),(20,.q),(21,.q),(22,.w)] ?_;refine zC F h λF h=>?_
        refine b5 (¬ ((5:Int)=0)) F λF=>?_
        refine zC F h λF h=>?_
        refine zC F h λF h=>?_
        refine zC F h λF h=>?_
        refine dc (a.host.graph.ak.length+1) 24 F λF=>?_
        refine zF (bt aY a.host.graph.ak [(⟨((i64.wrap d.x1).tmod ((j.ak.length:Nat):Int)),((i64.wrap ((i64.wrap d.x1).tdiv 5)).tmod ((g.nodes.length:Nat):Int)),((i64.wrap d.x2).tmod ((g.nodes.length:Nat):Int))⟩:Edge)] (c:=[[.val (.int .i64 ((i64.wrap d.x1).tmod ((j.ak.length:Nat):Int))),.val (.int .i64 ((i64.wrap ((i64.wrap d.x1).tdiv 5)).tmod ((g.nodes.length:Nat):Int))),.val (.int .i64 ((i64.wrap d.x2).tmod ((g.nodes.length:Nat):Int)))]]) rfl) F λF=>?_
        refine zE [(0,.p),(2,.q),(3,.q),(4,.p),(1,.q),(6,.b),(7,.b),(5,.w),(8,.p),(9,.q),(10,.w),(11,.q),(12,.w)] ?_;refine zC F h λF h=>?_
        refine dc (a.ak.length+1) 8 F λF=>?_
        refine zF (bt encI a.ak [a.next] (c:=[[.val (.int .i64 a.next)]]) rfl) F λF=>?_
        refine zV ?_;refine j8 _ _ (kN 1354 0 32 1 0 3 1 (a.host.values.map bI) (by decide) (by simp -implicitDefEqProofs only[go_sem,F]<;>rfl)) (by simp -implicitDefEqProofs only[go_sem,F]<;>rfl) (by first|trivial|(simp -implicitDefEqProofs only[go_sem,F]<;>trivial)) ?_;exact jx h
       ·refine zV ?_;refine j8 _ _ (kN 1354 0 32 1 0 3 1 (a.host.values.map bI) (by decide) (by simp -implicitDefEqProofs only[go_sem,F]<;>rfl)) (by simp -implicitDefEqProofs only[go_sem,F]<;>rfl) (by first|trivial|(simp -implicitDefEqProofs only[go_sem,F]<;>trivial)) ?_;exact jx h
      ·refine zV ?_;refine j8 _ _ (kN 1354 0 32 1 0 3 1 (a.host.values.map bI) (by decide) (by simp -implicitDefEqProofs only[go_sem,F]<;>rfl)) (by simp -implicitDefEqProofs only[go_sem,F]<;>rfl) (by first|trivial|(simp -implicitDefEqProofs only[go_sem,F]<;>trivial)) ?_;exact jx h
     ·refine zV ?_;refine j8 _ _ (kN 1354 0 32 1 0 3 1 (a.host.values.map bI) (by decide) (by simp -implicitDefEqProofs only[go_sem,F]<;>rfl)) (by simp -implicitDefEqProofs only[go_sem,F]<;>rfl) (by first|trivial|(simp -implicitDefEqProofs only[go_sem,F]<;>trivial)) ?_;exact jx h
end
end Go.Proofs.YtnnpmiiegnedeaaGreat
