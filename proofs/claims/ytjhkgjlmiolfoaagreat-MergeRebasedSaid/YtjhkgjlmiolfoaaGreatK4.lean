/- Joined texts, part 4: lemmas for the statement. No condition. -/
import Derived.Test.YtjhkgjlmiolfoaaGreatK3
import Derived.Shelf.Spec.SlicesGrow
import Derived.Ground.Names8Prog
import Derived.Test.YtjhkgjlmiolfoaaGreatProg
import Derived.Shelf.SlSortCmp.NoneTotal
import Derived.Ground.SlsfProg
import Derived.ChangeArms
import Derived.SizedLaws
import Derived.Test.YtjhkgjlmiolfoaaGreatK1
import Derived.OpenShut
import Derived.ProofKit
import Derived.Carry
import Derived.ArgAppend
import Derived.Laws.Slices
set_option maxHeartbeats 4000000
set_option linter.unusedSimpArgs false
set_option linter.unusedVariables false
open Nat (reduceEqDiff reduceLT reduceLeDiff reduceMul reduceAdd reduceSub)
open Go.IntKind (i64)
open Go.Proofs.Tryz
open Go.Proofs.Tryz renaming prog → pw
namespace Go.Proofs.YtjhkgjlmiolfoaaGreat
open Go.cq
theorem atb(t:Types)(hf:fC t)(h:Host)(hh:sV h):aS pw 74 [aC t,cG h] (λr=>r = .dQ [.val (.int .i64 (jT t h).1),.val (.int .i64 (jT t h).2)]):=by
 have hg1:=hh.graph.nodes;have hg2:=hh.graph.ak;have hv:=hh.values;refine aQ [] func74 ?_;rw[ntmps74,results74];simp only[go_sem,aC,cG,bl];refine aY (aly t hf) (by simp only[go_sem,aC,cG,bl]<;>rfl) (b6 rfl) ?_;simp only[go_sem,aC,cG,bl];refine aW (λh1=>?_) (λh1=>?_)<;>simp only[go_sem,aC,cG,bl]
 ·have tG:=cm h1;have ht:=rY hf tG
  have e1 : jT t h = if qv h.graph ≠ 0 then (-1, qv h.graph)
    else if h.values.length≠h.graph.nodes.length then (-1,20)
    else match kz (λi=>mI t (h.graph.nodes.getD i default) (h.values.getD i default)) 0 h.graph.nodes.length with
     |some k=>((k:Int),mI t (h.graph.nodes.getD k default) (h.values.getD k default))
     |none=>match kz (tv t h) 0 h.graph.ak.length with
      |some k=>((k:Int),tv t h k)
      |none=>(-1,0):=by
   unfold jT;rw[if_neg (by rw[tG];decide)];try rfl
  rw[e1];refine aY (as8 h.graph hh.graph) (by simp only[go_sem,aC,cG,bl]<;>rfl) (b6 rfl) ?_;simp only[go_sem,aC,cG,bl];refine aW (λh2=>?_) (λh2=>?_)<;>simp only[go_sem,aC,cG,bl]
  ·have h2':=cm h2;have hg:=okG h2';rw[if_neg (by rw[h2'];decide)];refine aW (λh3=>?_) (λh3=>?_)<;>simp only[go_sem,aC,cG,bl]
   ·have h3':=cm h3;have hvl:h.values.length=h.graph.nodes.length:=by omega
    rw[if_neg (by omega)];generalize hF:(λi=>mI t (h.graph.nodes.getD i default) (h.values.getD i default))=f;refine bM (σ:=Nat) (λx=>(cE (cE (cE (cE (cE fT 2 (.ptr 2 0)) 3 (.ptr 3 0)) 38 (.p (.aV (h.graph.nodes.map encI)))) 39 (.p (.val (.int .i64 h.graph.nodes.length)))) 40 (.p (.val (.int .i64 x)))))
     (λx=>(bk (bk ck 2 (.box [.p (.aV (t.nodes.map aJ)),.p (.aV (t.ak.map aM))])) 3 (.box [.p (.aV (h.graph.nodes.map encI)),.p (.aV (h.graph.ak.map aZ)),.p (.aV (h.values.map bJ))])))
     (λx=>x<=h.graph.nodes.length/\∀j,j<x->f j=0) (λx=>h.graph.nodes.length-x) 0 ⟨Nat.zero_le _,λj hj=>absurd hj (Nat.not_lt_zero j)⟩ bX ?_
    rintro x ⟨hx,hq⟩;simp only[go_sem,aC,cG,bl];refine aL (λhc=>?_) (λhc=>?_)
    ·have hlt:x<h.graph.nodes.length:=by simpa using hc
     have kA:x<h.values.length:=by omega
     have hr:=hh.row _ (hU kA);simp only[go_sem,aC,cG,bl,getD_map encI hlt,hlt,encI,getD_map bJ kA,kA,bJ];refine dx [.q,.q,.q,.q,.q,.q,.q,.q,.q] (by kernel_rfl) ?_;simp only[go_sem,aC,cG,bl,getD_map encI hlt,hlt,encI,getD_map bJ kA,kA,bJ];refine jD (axv t ht (h.graph.nodes.getD x default) (hg.kind x hlt).1 (h.values.getD x default) (by omega)) (by simp only[go_sem,aC,cG,bl,getD_map encI hlt,hlt,encI,getD_map bJ kA,kA,bJ]<;>rfl) (b6 rfl) ?_;simp only[go_sem,aC,cG,bl,getD_map encI hlt,hlt,encI,getD_map bJ kA,kA,bJ];have e:f x=mI t (h.graph.nodes.getD x default) (h.values.getD x default):=by rw[<-hF]
     refine aW (λh4=>?_) (λh4=>?_)<;>simp only[go_sem,aC,cG,bl,getD_map encI hlt,hlt,encI,getD_map bJ kA,kA,bJ]
     ·have y9:=cm h4;exact bN (x+1) ⟨hlt,all_succ hq (e.trans y9)⟩ (by omega) (by rw[bA hlt (by omega)];exact bX)
     ·have y9:=ew h4;rw[lX (Nat.zero_le _) hlt (λj _=>hq j) (by rw[e];exact y9)];exact⟨rfl,rfl⟩
    ·have hge:h.graph.nodes.length<=x:=by simpa using hc
     rw[gl λj _ hj=>hq j (by omega)];simp only[go_sem,aC,cG,bl];refine bM (σ:=Nat) (λx=>(cE (cE (cE (cE (cE fT 2 (.ptr 2 0)) 3 (.ptr 3 0)) 60 (.p (.aV (h.graph.ak.map aZ)))) 61 (.p (.val (.int .i64 h.graph.ak.length)))) 62 (.p (.val (.int .i64 x)))))
      (λx=>(bk (bk ck 2 (.box [.p (.aV (t.nodes.map aJ)),.p (.aV (t.ak.map aM))])) 3 (.box [.p (.aV (h.graph.nodes.map encI)),.p (.aV (h.graph.ak.map aZ)),.p (.aV (h.values.map bJ))])))
      (λx=>x<=h.graph.ak.length/\∀j,j<x->tv t h j=0) (λx=>h.graph.ak.length-x) 0 ⟨Nat.zero_le _,λj hj=>absurd hj (Nat.not_lt_zero j)⟩ bX ?_
     rintro y ⟨hy,hq'⟩;simp only[go_sem,aC,cG,bl];refine aL (λqo=>?_) (λqo=>?_)
     ·have hlt:y<h.graph.ak.length:=by simpa using qo
      have hE:=hg.gR y hlt;obtain⟨a,ha⟩:∃k:Nat,(h.graph.ak.getD y default).src=k:=⟨_,(Int.toNat_of_nonneg hE.2.1.1).symm⟩;obtain⟨b,hb⟩:∃k:Nat,(h.graph.ak.getD y default).dst=k:=⟨_,(Int.toNat_of_nonneg hE.2.2.1).symm⟩;have hal:a<h.graph.nodes.length:=by have:=hE.2.1.2;rw[ha] at this;omega
      have hbl:b<h.graph.nodes.length:=by have:=hE.2.2.2;rw[hb] at this;omega
      have e0:tv t h y=if (t.ak.length:Int)<=(h.graph.ak.getD y default).type then 6 else if qT t (h.graph.ak.getD y default).type (h.graph.nodes.getD a default) (h.graph.nodes.getD b default)=true then 0 else 13:=by unfold tv;rw[ha,hb,Int.toNat_natCast,Int.toNat_natCast]
      simp only[go_sem,aC,cG,bl,getD_map aZ hlt,hlt,aZ,ha,hb];refine aL (λh5=>?_) (λh5=>?_)<;>simp only[go_sem,aC,cG,bl,getD_map aZ hlt,hlt,aZ,ha,hb]
      ·have h5':=cm h5;have e6:tv t h y=6:=by rw[e0,if_pos h5']
       rw[lX (Nat.zero_le _) hlt (λj _=>hq' j) (by rw[e6];decide)];simp only[e6]
       first|exact⟨rfl,rfl⟩|exact⟨trivial,trivial⟩|exact⟨rfl,trivial⟩|exact⟨trivial,rfl⟩
      ·have h5':=ew h5;rw[if_neg h5'] at e0;refine dx [.q,.q,.q,.q,.q,.q,.q,.q,.q,.q,.q,.q,.q,.q,.q,.q,.q,.q,.q] (by kernel_rfl) ?_;simp only[go_sem,getD_map encI hal,hal,getD_map encI hbl,hbl,encI,aC,cG,bl,getD_map aZ hlt,hlt,aZ,ha,hb];refine jD (aAR t hf (h.graph.ak.getD y default).type (h.graph.nodes.getD a default) (h.graph.nodes.getD b default)) (by simp only[go_sem,aC,cG,bl,getD_map aZ hlt,hlt,aZ,ha,hb]<;>rfl) (b6 rfl) ?_;simp only[go_sem,aC,cG,bl,getD_map aZ hlt,hlt,aZ,ha,hb];refine aW (λh6=>?_) (λh6=>?_)<;>simp only[go_sem,aC,cG,bl,getD_map aZ hlt,hlt,aZ,ha,hb]
       ·rw[if_pos h6] at e0;exact bN (y+1) ⟨hlt,all_succ hq' e0⟩ (by omega) (by rw[bA hlt (by omega)];exact bX)
       ·rw[if_neg (by rw[h6];decide)] at e0;rw[lX (Nat.zero_le _) hlt (λj _=>hq' j) (by rw[e0];decide)];simp only[e0]
        first|exact⟨rfl,rfl⟩|exact⟨trivial,trivial⟩|exact⟨rfl,trivial⟩|exact⟨trivial,rfl⟩
     ·have aCB:h.graph.ak.length<=y:=by simpa using qo
      simp only[go_sem,aC,cG,bl];rw[gl λj _ hj=>hq' j (by omega)];exact⟨rfl,rfl⟩
   ·have h3':=ew h3;rw[if_pos (by omega)];exact⟨rfl,rfl⟩
  ·have h2':=ew h2;rw[if_pos h2'];exact⟨rfl,rfl⟩
 ·have tG:=ew h1;unfold jT;rw[if_pos tG];exact⟨rfl,rfl⟩
theorem aoN(t:Types)(hf:fC t)(h:Host)(hh:sV h):aS pw 55 [aC t,cG h] (λr=>r = .dQ [.val (.int .i64 (jT t h).1),.val (.int .i64 (jT t h).2)]):=by
 have hg1:=hh.graph.nodes;have hg2:=hh.graph.ak;have hv:=hh.values;refine aQ [] func55 ?_;rw[ntmps55,results55];simp only[go_sem,aC,cG,bl];refine aY (adp t hf) (by simp only[go_sem,aC,cG,bl]<;>rfl) (b6 rfl) ?_;simp only[go_sem,aC,cG,bl];refine aW (λh1=>?_) (λh1=>?_)<;>simp only[go_sem,aC,cG,bl]
 ·have tG:=cm h1;have ht:=rY hf tG
  have e1 : jT t h = if qv h.graph ≠ 0 then (-1, qv h.graph)
    else if h.values.length≠h.graph.nodes.length then (-1,20)
    else match kz (λi=>mI t (h.graph.nodes.getD i default) (h.values.getD i default)) 0 h.graph.nodes.length with
     |some k=>((k:Int),mI t (h.graph.nodes.getD k default) (h.values.getD k default))
     |none=>match kz (tv t h) 0 h.graph.ak.length with
      |some k=>((k:Int),tv t h k)
      |none=>(-1,0):=by
   unfold jT;rw[if_neg (by rw[tG];decide)];try rfl
  rw[e1];refine aY (aoM h.graph hh.graph) (by simp only[go_sem,aC,cG,bl]<;>rfl) (b6 rfl) ?_;simp only[go_sem,aC,cG,bl];refine aW (λh2=>?_) (λh2=>?_)<;>simp only[go_sem,aC,cG,bl]
  ·have h2':=cm h2;have hg:=okG h2';rw[if_neg (by rw[h2'];decide)];refine aW (λh3=>?_) (λh3=>?_)<;>simp only[go_sem,aC,cG,bl]
   ·have h3':=cm h3;have hvl:h.values.length=h.graph.nodes.length:=by omega
    rw[if_neg (by omega)];generalize hF:(λi=>mI t (h.graph.nodes.getD i default) (h.values.getD i default))=f;refine bM (σ:=Nat) (λx=>(cE (cE (cE fT 2 (.ptr 2 0)) 3 (.ptr 3 0)) 9 (.p (.val (.int .i64 x)))))
     (λx=>(bk (bk ck 2 (.box [.p (.aV (t.nodes.map aJ)),.p (.aV (t.ak.map aM))])) 3 (.box [.p (.aV (h.graph.nodes.map encI)),.p (.aV (h.graph.ak.map aZ)),.p (.aV (h.values.map bJ))])))
     (λx=>x<=h.graph.nodes.length/\∀j,j<x->f j=0) (λx=>h.graph.nodes.length-x) 0 ⟨Nat.zero_le _,λj hj=>absurd hj (Nat.not_lt_zero j)⟩ bX ?_
    rintro x ⟨hx,hq⟩;simp only[go_sem,aC,cG,bl];refine aL (λhc=>?_) (λhc=>?_)
    ·have hlt:x<h.graph.nodes.length:=by simpa using hc
     have kA:x<h.values.length:=by omega
     have hr:=hh.row _ (hU kA);simp only[go_sem,aC,cG,bl,getD_map encI hlt,hlt,encI,getD_map bJ kA,kA,bJ];refine dx [.q,.q,.q,.q,.q,.q,.q,.q,.q,.q,.q,.q,.q,.q] (by kernel_rfl) ?_;simp only[go_sem,aC,cG,bl,getD_map encI hlt,hlt,encI,getD_map bJ kA,kA,bJ];refine jD (ata t ht (h.graph.nodes.getD x default) (hg.kind x hlt).1 (h.values.getD x default) (by omega)) (by simp only[go_sem,aC,cG,bl,getD_map encI hlt,hlt,encI,getD_map bJ kA,kA,bJ]<;>rfl) (b6 rfl) ?_;simp only[go_sem,aC,cG,bl,getD_map encI hlt,hlt,encI,getD_map bJ kA,kA,bJ];have e:f x=mI t (h.graph.nodes.getD x default) (h.values.getD x default):=by rw[<-hF]
     refine aW (λh4=>?_) (λh4=>?_)<;>simp only[go_sem,aC,cG,bl,getD_map encI hlt,hlt,encI,getD_map bJ kA,kA,bJ]
     ·have y9:=cm h4;exact bN (x+1) ⟨hlt,all_succ hq (e.trans y9)⟩ (by omega) (by rw[bA hlt (by omega)];exact bX)
     ·have y9:=ew h4;rw[lX (Nat.zero_le _) hlt (λj _=>hq j) (by rw[e];exact y9)];exact⟨rfl,rfl⟩
    ·have hge:h.graph.nodes.length<=x:=by simpa using hc
     rw[gl λj _ hj=>hq j (by omega)];simp only[go_sem,aC,cG,bl];refine bM (σ:=Nat) (λx=>(cE (cE (cE fT 2 (.ptr 2 0)) 3 (.ptr 3 0)) 11 (.p (.val (.int .i64 x)))))
      (λx=>(bk (bk ck 2 (.box [.p (.aV (t.nodes.map aJ)),.p (.aV (t.ak.map aM))])) 3 (.box [.p (.aV (h.graph.nodes.map encI)),.p (.aV (h.graph.ak.map aZ)),.p (.aV (h.values.map bJ))])))
      (λx=>x<=h.graph.ak.length/\∀j,j<x->tv t h j=0) (λx=>h.graph.ak.length-x) 0 ⟨Nat.zero_le _,λj hj=>absurd hj (Nat.not_lt_zero j)⟩ bX ?_
     rintro y ⟨hy,hq'⟩;simp only[go_sem,aC,cG,bl];refine aL (λqo=>?_) (λqo=>?_)
     ·have hlt:y<h.graph.ak.length:=by simpa using qo
      have hE:=hg.gR y hlt;obtain⟨a,ha⟩:∃k:Nat,(h.graph.ak.getD y default).src=k:=⟨_,(Int.toNat_of_nonneg hE.2.1.1).symm⟩;obtain⟨b,hb⟩:∃k:Nat,(h.graph.ak.getD y default).dst=k:=⟨_,(Int.toNat_of_nonneg hE.2.2.1).symm⟩;have hal:a<h.graph.nodes.length:=by have:=hE.2.1.2;rw[ha] at this;omega
      have hbl:b<h.graph.nodes.length:=by have:=hE.2.2.2;rw[hb] at this;omega
      have e0:tv t h y=if (t.ak.length:Int)<=(h.graph.ak.getD y default).type then 6 else if qT t (h.graph.ak.getD y default).type (h.graph.nodes.getD a default) (h.graph.nodes.getD b default)=true then 0 else 13:=by unfold tv;rw[ha,hb,Int.toNat_natCast,Int.toNat_natCast]
      simp only[go_sem,aC,cG,bl,getD_map aZ hlt,hlt,aZ,ha,hb];refine aL (λh5=>?_) (λh5=>?_)<;>simp only[go_sem,aC,cG,bl,getD_map aZ hlt,hlt,aZ,ha,hb]
      ·have h5':=cm h5;have e6:tv t h y=6:=by rw[e0,if_pos h5']
       rw[lX (Nat.zero_le _) hlt (λj _=>hq' j) (by rw[e6];decide)];simp only[e6]
       first|exact⟨rfl,rfl⟩|exact⟨trivial,trivial⟩|exact⟨rfl,trivial⟩|exact⟨trivial,rfl⟩
      ·have h5':=ew h5;rw[if_neg h5'] at e0;refine dx [.q,.q,.q,.q,.q,.q,.q,.q,.q,.q,.q,.q,.q,.q,.q,.q,.q,.q,.q] (by kernel_rfl) ?_;simp only[go_sem,getD_map encI hal,hal,getD_map encI hbl,hbl,encI,aC,cG,bl,getD_map aZ hlt,hlt,aZ,ha,hb];refine jD (alE t hf (h.graph.ak.getD y default).type (h.graph.nodes.getD a default) (h.graph.nodes.getD b default)) (by simp only[go_sem,aC,cG,bl,getD_map aZ hlt,hlt,aZ,ha,hb]<;>rfl) (b6 rfl) ?_;simp only[go_sem,aC,cG,bl,getD_map aZ hlt,hlt,aZ,ha,hb];refine aW (λh6=>?_) (λh6=>?_)<;>simp only[go_sem,aC,cG,bl,getD_map aZ hlt,hlt,aZ,ha,hb]
       ·rw[if_pos h6] at e0;exact bN (y+1) ⟨hlt,all_succ hq' e0⟩ (by omega) (by rw[bA hlt (by omega)];exact bX)
       ·rw[if_neg (by rw[h6];decide)] at e0;rw[lX (Nat.zero_le _) hlt (λj _=>hq' j) (by rw[e0];decide)];simp only[e0]
        first|exact⟨rfl,rfl⟩|exact⟨trivial,trivial⟩|exact⟨rfl,trivial⟩|exact⟨trivial,rfl⟩
     ·have aCB:h.graph.ak.length<=y:=by simpa using qo
      simp only[go_sem,aC,cG,bl];rw[gl λj _ hj=>hq' j (by omega)];exact⟨rfl,rfl⟩
   ·have h3':=ew h3;rw[if_pos (by omega)];exact⟨rfl,rfl⟩
  ·have h2':=ew h2;rw[if_pos h2'];exact⟨rfl,rfl⟩
 ·have tG:=ew h1;unfold jT;rw[if_pos tG];exact⟨rfl,rfl⟩
instance(t:Types):Decidable (fC t):=decidable_of_iff (t.nodes.length<=20/\t.ak.length<=30/\(∀n∈t.nodes,n.attrs.length<=30)/\(∀n∈t.nodes,n.name.size<=40)/\(∀n∈t.nodes,∀a∈n.attrs,a.name.size<=40)/\(∀n∈t.nodes,∀a∈n.attrs,a.names.length<=25)/\(∀n∈t.nodes,∀a∈n.attrs,∀s∈a.names,s.size<=40)/\∀e∈t.ak,e.name.size<=40)
 ⟨λ⟨a,b,c,d,e,f,g,h⟩=>⟨a,b,c,d,e,f,g,h⟩,λ⟨a,b,c,d,e,f,g,h⟩=>⟨a,b,c,d,e,f,g,h⟩⟩
instance(t:Types):Decidable (OkT t):=decidable_of_iff (fC t/\0<t.nodes.length/\t.nodes.length<=12/\t.ak.length<=20/\(∀j,j<t.nodes.length->kK t j=0)/\∀j,j<t.ak.length->nS t j=0)
 ⟨λ⟨a,b,c,d,e,f⟩=>⟨a,b,c,d,e,f⟩,λ⟨a,b,c,d,e,f⟩=>⟨a,b,c,d,e,f⟩⟩
instance(g:eU):Decidable (axt g):=decidable_of_iff (g.nodes.length<=45/\g.ak.length<=90) ⟨λ⟨a,b⟩=>⟨a,b⟩,λ⟨a,b⟩=>⟨a,b⟩⟩
instance(g:eU):Decidable (alG g):=decidable_of_iff (g.nodes.length<=1000/\g.ak.length<=1000) ⟨λ⟨a,b⟩=>⟨a,b⟩,λ⟨a,b⟩=>⟨a,b⟩⟩
instance(h:Host):Decidable (aCC h):=decidable_of_iff (axt h.graph/\h.values.length<=45/\∀l∈h.values,l.length<=12) ⟨λ⟨a,b,c⟩=>⟨a,b,c⟩,λ⟨a,b,c⟩=>⟨a,b,c⟩⟩
instance(h:Host):Decidable (sV h):=decidable_of_iff (alG h.graph/\h.values.length<=1000/\∀l∈h.values,l.length<=1000) ⟨λ⟨a,b,c⟩=>⟨a,b,c⟩,λ⟨a,b,c⟩=>⟨a,b,c⟩⟩
end Go.Proofs.YtjhkgjlmiolfoaaGreat
namespace Go.Proofs
open Go.Shelf
def YtjhkgjlmiolfoaaGreat.ajn:Go.Shelf.Ren:=⟨λ| 4=>170|n=>n,λ| 22=>52|25=>57|3=>3|4=>4|9=>9|20=>20|0=>0|n=>n,λ| n=>n⟩
theorem YtjhkgjlmiolfoaaGreat.axw:Go.Proofs.Lays8.n4 pw YtjhkgjlmiolfoaaGreat.ajn:={
 mixed:=by kernel_rfl
 f4:=⟨Tryz.f170.name,by decide,Tryz.func170.trans (congrArg some (by kernel_rfl))⟩
 t0:=underlying0
 a0:=isAgg0
 z0:=sizeOf0
 v0:=zeroValue0
 t3:=underlying3
 a3:=isAgg3
 z3:=sizeOf3
 v3:=zeroValue3
 t4:=underlying4
 a4:=isAgg4
 z4:=sizeOf4
 v4:=zeroValue4
 t9:=underlying9
 a9:=isAgg9
 z9:=sizeOf9
 v9:=zeroValue9
 t20:=underlying20
 a20:=isAgg20
 z20:=sizeOf20
 v20:=zeroValue20
 t22:=underlying52
 a22:=isAgg52
 z22:=sizeOf52
 v22:=zeroValue52 }
def YtjhkgjlmiolfoaaGreat.alI:Go.Shelf.Ren:=⟨λ| 4=>186|n=>n,λ| 22=>185|25=>188|3=>3|4=>4|9=>9|20=>20|0=>0|n=>n,λ| n=>n⟩
theorem YtjhkgjlmiolfoaaGreat.aAS:Go.Proofs.Lays8.n4 pw YtjhkgjlmiolfoaaGreat.alI:={
 mixed:=by kernel_rfl
 f4:=⟨Tryz.f186.name,by decide,Tryz.func186.trans (congrArg some (by kernel_rfl))⟩
 t0:=underlying0
 a0:=isAgg0
 z0:=sizeOf0
 v0:=zeroValue0
 t3:=underlying3
 a3:=isAgg3
 z3:=sizeOf3
 v3:=zeroValue3
 t4:=underlying4
 a4:=isAgg4
 z4:=sizeOf4
 v4:=zeroValue4
 t9:=underlying9
 a9:=isAgg9
 z9:=sizeOf9
 v9:=zeroValue9
 t20:=underlying20
 a20:=isAgg20
 z20:=sizeOf20
 v20:=zeroValue20
 t22:=underlying185
 a22:=isAgg185
 z22:=sizeOf185
 v22:=zeroValue185 }
def YtjhkgjlmiolfoaaGreat.ajo:Go.Shelf.Ren:=⟨λ| 6=>171|15=>260|14=>259|28=>310|29=>311|20=>302|21=>303|22=>304|23=>305|24=>306|25=>307|26=>308|27=>309|46=>367|47=>368|48=>369|49=>370|50=>371|57=>415|n=>n,λ| 22=>52|24=>57|25=>250|3=>3|39=>121|0=>0|53=>204|55=>207|4=>4|46=>377|45=>376|50=>348|5=>5|9=>9|66=>433|70=>437|76=>474|77=>447|n=>n,λ| n=>n⟩
theorem YtjhkgjlmiolfoaaGreat.axx:Go.Proofs.SlLaysF0.n6 pw YtjhkgjlmiolfoaaGreat.ajo:={
 mixed:=by kernel_rfl
 f6:=⟨Tryz.f171.name,by decide,Tryz.func171.trans (congrArg some (by kernel_rfl))⟩
 f14:=⟨Tryz.f259.name,by decide,Tryz.func259.trans (congrArg some (by kernel_rfl))⟩
 f15:=Tryz.func260.trans (congrArg some (by kernel_rfl))
 f20:=⟨Tryz.f302.name,by decide,Tryz.func302.trans (congrArg some (by kernel_rfl))⟩
 f21:=⟨Tryz.f303.name,by decide,Tryz.func303.trans (congrArg some (by kernel_rfl))⟩
 f22:=⟨Tryz.f304.name,by decide,Tryz.func304.trans (congrArg some (by kernel_rfl))⟩
 f23:=⟨Tryz.f305.name,by decide,Tryz.func305.trans (congrArg some (by kernel_rfl))⟩
 f24:=⟨Tryz.f306.name,by decide,Tryz.func306.trans (congrArg some (by kernel_rfl))⟩
 f25:=⟨Tryz.f307.name,by decide,Tryz.func307.trans (congrArg some (by kernel_rfl))⟩
 f26:=⟨Tryz.f308.name,by decide,Tryz.func308.trans (congrArg some (by kernel_rfl))⟩
 f27:=⟨Tryz.f309.name,by decide,Tryz.func309.trans (congrArg some (by kernel_rfl))⟩
 f28:=Tryz.func310.trans (congrArg some (by kernel_rfl))
 f29:=Tryz.func311.trans (congrArg some (by kernel_rfl))
 f46:=⟨Tryz.f367.name,by decide,Tryz.func367.trans (congrArg some (by kernel_rfl))⟩
 f47:=Tryz.func368.trans (congrArg some (by kernel_rfl))
 f48:=Tryz.func369.trans (congrArg some (by kernel_rfl))
 f49:=⟨Tryz.f370.name,by decide,Tryz.func370.trans (congrArg some (by kernel_rfl))⟩
 f50:=⟨Tryz.f371.name,by decide,Tryz.func371.trans (congrArg some (by kernel_rfl))⟩
 f57:=⟨Tryz.f415.name,by decide,Tryz.func415.trans (congrArg some (by kernel_rfl))⟩
 t0:=underlying0
 a0:=isAgg0
 z0:=sizeOf0
 v0:=zeroValue0
 t3:=underlying3
 a3:=isAgg3
 z3:=sizeOf3
 v3:=zeroValue3
 t4:=underlying4
 a4:=isAgg4
 z4:=sizeOf4
 v4:=zeroValue4
 t5:=underlying5
 a5:=isAgg5
 z5:=sizeOf5
 v5:=zeroValue5
 t9:=underlying9
 a9:=isAgg9
 z9:=sizeOf9
 v9:=zeroValue9
 t22:=underlying52
 a22:=isAgg52
 z22:=sizeOf52
 v22:=zeroValue52
 t25:=underlying250
 a25:=isAgg250
 z25:=sizeOf250
 v25:=zeroValue250
 t39:=underlying121
 a39:=isAgg121
 z39:=sizeOf121
 v39:=zeroValue121
 t45:=underlying376
 a45:=isAgg376
 z45:=sizeOf376
 v45:=zeroValue376
 t46:=underlying377
 a46:=isAgg377
 z46:=sizeOf377
 v46:=zeroValue377
 t50:=underlying348
 a50:=isAgg348
 z50:=sizeOf348
 v50:=zeroValue348
 t53:=underlying204
 a53:=isAgg204
 z53:=sizeOf204
 v53:=zeroValue204
 t55:=underlying207
 a55:=isAgg207
 z55:=sizeOf207
 v55:=zeroValue207
 t66:=underlying433
 a66:=isAgg433
 z66:=sizeOf433
 v66:=zeroValue433
 t70:=underlying437
 a70:=isAgg437
 z70:=sizeOf437
 v70:=zeroValue437
 t76:=underlying474
 a76:=isAgg474
 z76:=sizeOf474
 v76:=zeroValue474
 t77:=underlying447
 a77:=isAgg447
 z77:=sizeOf447
 v77:=zeroValue447 }
def YtjhkgjlmiolfoaaGreat.ag4:Go.Shelf.Ren:=⟨λ| 6=>254|15=>260|14=>299|28=>310|29=>311|20=>351|21=>352|22=>353|23=>354|24=>355|25=>356|26=>357|27=>358|46=>409|47=>368|48=>369|49=>410|50=>411|57=>433|n=>n,λ| 22=>41|24=>75|25=>307|3=>3|39=>121|0=>0|53=>204|55=>207|4=>4|46=>377|45=>376|50=>348|5=>5|9=>9|66=>433|70=>437|76=>474|77=>447|n=>n,λ| n=>n⟩
theorem YtjhkgjlmiolfoaaGreat.atc:Go.Proofs.SlLaysF0.n6 pw YtjhkgjlmiolfoaaGreat.ag4:={
 mixed:=by kernel_rfl
 f6:=⟨Tryz.f254.name,by decide,Tryz.func254.trans (congrArg some (by kernel_rfl))⟩
 f14:=⟨Tryz.f299.name,by decide,Tryz.func299.trans (congrArg some (by kernel_rfl))⟩
 f15:=Tryz.func260.trans (congrArg some (by kernel_rfl))
 f20:=⟨Tryz.f351.name,by decide,Tryz.func351.trans (congrArg some (by kernel_rfl))⟩
 f21:=⟨Tryz.f352.name,by decide,Tryz.func352.trans (congrArg some (by kernel_rfl))⟩
 f22:=⟨Tryz.f353.name,by decide,Tryz.func353.trans (congrArg some (by kernel_rfl))⟩
 f23:=⟨Tryz.f354.name,by decide,Tryz.func354.trans (congrArg some (by kernel_rfl))⟩
 f24:=⟨Tryz.f355.name,by decide,Tryz.func355.trans (congrArg some (by kernel_rfl))⟩
 f25:=⟨Tryz.f356.name,by decide,Tryz.func356.trans (congrArg some (by kernel_rfl))⟩
 f26:=⟨Tryz.f357.name,by decide,Tryz.func357.trans (congrArg some (by kernel_rfl))⟩
 f27:=⟨Tryz.f358.name,by decide,Tryz.func358.trans (congrArg some (by kernel_rfl))⟩
 f28:=Tryz.func310.trans (congrArg some (by kernel_rfl))
 f29:=Tryz.func311.trans (congrArg some (by kernel_rfl))
 f46:=⟨Tryz.f409.name,by decide,Tryz.func409.trans (congrArg some (by kernel_rfl))⟩
 f47:=Tryz.func368.trans (congrArg some (by kernel_rfl))
 f48:=Tryz.func369.trans (congrArg some (by kernel_rfl))
 f49:=⟨Tryz.f410.name,by decide,Tryz.func410.trans (congrArg some (by kernel_rfl))⟩
 f50:=⟨Tryz.f411.name,by decide,Tryz.func411.trans (congrArg some (by kernel_rfl))⟩
 f57:=⟨Tryz.f433.name,by decide,Tryz.func433.trans (congrArg some (by kernel_rfl))⟩
 t0:=underlying0
 a0:=isAgg0
 z0:=sizeOf0
 v0:=zeroValue0
 t3:=underlying3
 a3:=isAgg3
 z3:=sizeOf3
 v3:=zeroValue3
 t4:=underlying4
 a4:=isAgg4
 z4:=sizeOf4
 v4:=zeroValue4
 t5:=underlying5
 a5:=isAgg5
 z5:=sizeOf5
 v5:=zeroValue5
 t9:=underlying9
 a9:=isAgg9
 z9:=sizeOf9
 v9:=zeroValue9
 t22:=underlying41
 a22:=isAgg41
 z22:=sizeOf41
 v22:=zeroValue41
 t25:=underlying307
 a25:=isAgg307
 z25:=sizeOf307
 v25:=zeroValue307
 t39:=underlying121
 a39:=isAgg121
 z39:=sizeOf121
 v39:=zeroValue121
 t45:=underlying376
 a45:=isAgg376
 z45:=sizeOf376
 v45:=zeroValue376
 t46:=underlying377
 a46:=isAgg377
 z46:=sizeOf377
 v46:=zeroValue377
 t50:=underlying348
 a50:=isAgg348
 z50:=sizeOf348
 v50:=zeroValue348
 t53:=underlying204
 a53:=isAgg204
 z53:=sizeOf204
 v53:=zeroValue204
 t55:=underlying207
 a55:=isAgg207
 z55:=sizeOf207
 v55:=zeroValue207
 t66:=underlying433
 a66:=isAgg433
 z66:=sizeOf433
 v66:=zeroValue433
 t70:=underlying437
 a70:=isAgg437
 z70:=sizeOf437
 v70:=zeroValue437
 t76:=underlying474
 a76:=isAgg474
 z76:=sizeOf474
 v76:=zeroValue474
 t77:=underlying447
 a77:=isAgg447
 z77:=sizeOf447
 v77:=zeroValue447 }
def YtjhkgjlmiolfoaaGreat.ag5:Go.Shelf.Ren:=⟨λ| 6=>255|15=>260|14=>300|28=>310|29=>311|20=>359|21=>360|22=>361|23=>362|24=>363|25=>364|26=>365|27=>366|46=>412|47=>368|48=>369|49=>413|50=>414|57=>434|n=>n,λ| 22=>42|24=>102|25=>309|3=>3|39=>121|0=>0|53=>204|55=>207|4=>4|46=>377|45=>376|50=>348|5=>5|9=>9|66=>433|70=>437|76=>474|77=>447|n=>n,λ| n=>n⟩
theorem YtjhkgjlmiolfoaaGreat.atd:Go.Proofs.SlLaysF0.n6 pw YtjhkgjlmiolfoaaGreat.ag5:={
 mixed:=by kernel_rfl
 f6:=⟨Tryz.f255.name,by decide,Tryz.func255.trans (congrArg some (by kernel_rfl))⟩
 f14:=⟨Tryz.f300.name,by decide,Tryz.func300.trans (congrArg some (by kernel_rfl))⟩
 f15:=Tryz.func260.trans (congrArg some (by kernel_rfl))
 f20:=⟨Tryz.f359.name,by decide,Tryz.func359.trans (congrArg some (by kernel_rfl))⟩
 f21:=⟨Tryz.f360.name,by decide,Tryz.func360.trans (congrArg some (by kernel_rfl))⟩
 f22:=⟨Tryz.f361.name,by decide,Tryz.func361.trans (congrArg some (by kernel_rfl))⟩
 f23:=⟨Tryz.f362.name,by decide,Tryz.func362.trans (congrArg some (by kernel_rfl))⟩
 f24:=⟨Tryz.f363.name,by decide,Tryz.func363.trans (congrArg some (by kernel_rfl))⟩
 f25:=⟨Tryz.f364.name,by decide,Tryz.func364.trans (congrArg some (by kernel_rfl))⟩
 f26:=⟨Tryz.f365.name,by decide,Tryz.func365.trans (congrArg some (by kernel_rfl))⟩
 f27:=⟨Tryz.f366.name,by decide,Tryz.func366.trans (congrArg some (by kernel_rfl))⟩
 f28:=Tryz.func310.trans (congrArg some (by kernel_rfl))
 f29:=Tryz.func311.trans (congrArg some (by kernel_rfl))
 f46:=⟨Tryz.f412.name,by decide,Tryz.func412.trans (congrArg some (by kernel_rfl))⟩
 f47:=Tryz.func368.trans (congrArg some (by kernel_rfl))
 f48:=Tryz.func369.trans (congrArg some (by kernel_rfl))
 f49:=⟨Tryz.f413.name,by decide,Tryz.func413.trans (congrArg some (by kernel_rfl))⟩
 f50:=⟨Tryz.f414.name,by decide,Tryz.func414.trans (congrArg some (by kernel_rfl))⟩
 f57:=⟨Tryz.f434.name,by decide,Tryz.func434.trans (congrArg some (by kernel_rfl))⟩
 t0:=underlying0
 a0:=isAgg0
 z0:=sizeOf0
 v0:=zeroValue0
 t3:=underlying3
 a3:=isAgg3
 z3:=sizeOf3
 v3:=zeroValue3
 t4:=underlying4
 a4:=isAgg4
 z4:=sizeOf4
 v4:=zeroValue4
 t5:=underlying5
 a5:=isAgg5
 z5:=sizeOf5
 v5:=zeroValue5
 t9:=underlying9
 a9:=isAgg9
 z9:=sizeOf9
 v9:=zeroValue9
 t22:=underlying42
 a22:=isAgg42
 z22:=sizeOf42
 v22:=zeroValue42
 t25:=underlying309
 a25:=isAgg309
 z25:=sizeOf309
 v25:=zeroValue309
 t39:=underlying121
 a39:=isAgg121
 z39:=sizeOf121
 v39:=zeroValue121
 t45:=underlying376
 a45:=isAgg376
 z45:=sizeOf376
 v45:=zeroValue376
 t46:=underlying377
 a46:=isAgg377
 z46:=sizeOf377
 v46:=zeroValue377
 t50:=underlying348
 a50:=isAgg348
 z50:=sizeOf348
 v50:=zeroValue348
 t53:=underlying204
 a53:=isAgg204
 z53:=sizeOf204
 v53:=zeroValue204
 t55:=underlying207
 a55:=isAgg207
 z55:=sizeOf207
 v55:=zeroValue207
 t66:=underlying433
 a66:=isAgg433
 z66:=sizeOf433
 v66:=zeroValue433
 t70:=underlying437
 a70:=isAgg437
 z70:=sizeOf437
 v70:=zeroValue437
 t76:=underlying474
 a76:=isAgg474
 z76:=sizeOf474
 v76:=zeroValue474
 t77:=underlying447
 a77:=isAgg447
 z77:=sizeOf447
 v77:=zeroValue447 }
end Go.Proofs
namespace Go.cq
open Go.RowKit
variable{P:Program}{w:World}{H:Type}{enc:TypeId×Value->H}
def rB(w:World)(cs:List Value)(ps:List PV):Prop:=cs.length=ps.length/\(∀ (j:Nat) u c,cs[j]? = some u->ps[j]? = some c->VR (snap w) u c)/\∀u∈cs,u.oneCell'=true
def axy(P:Program)(t:TypeId)(d:DataW H):Prop:=∀n∈d.weights P t,n<=reachBytes
structure Dec(P:Program)(w:World){H:Type}(enc:TypeId×Value->H){α:Type}(t:TypeId)(sz:Nat)(e:α->List PV)(G:α->Prop):Prop where
 len:∀a,(e a).length=sz
 dec:∀ (sp:Nat->Bool) (hd:Bool) (fuel:Nat) (cs:List Value) (x:DataW H×List MemPlace),DataW.trod enc P w 0 sp hd fuel t cs=some x->axy P t x.1->∃a,G a/\rB w cs (e a)
theorem rB.one{u:Value}{p:PV}(h:VR (snap w) u p)(h1:u.oneCell'=true):rB w [u] [p] :=
 ⟨rfl,λj u' c hu hc=>by
  cases j with
  |zero=>simp at hu hc;subst hu hc;exact h
  |succ j=>simp at hu,λu' hu=>by simp at hu;subst hu;exact h1⟩
theorem Dec.int{t:TypeId}(ht:P.underlying t=some (.int .i64)):Dec P w enc t 1 (λn:Int=>[.val (.int .i64 n)]) (λ_=>True) :=
 ⟨λ_=>rfl,λsp hd fuel cs x h _=>by
  obtain⟨n,rfl,_⟩:=DataW.trod_int ht h;exact⟨n,trivial,.one (.val _ rfl) rfl⟩⟩
theorem Dec.bool{t:TypeId}(ht:P.underlying t=some .bool):Dec P w enc t 1 (λb:Bool=>[.val (.bool b)]) (λ_=>True) :=
 ⟨λ_=>rfl,λsp hd fuel cs x h _=>by
  obtain⟨n,rfl,_⟩:=DataW.trod_bool ht h;exact⟨n,trivial,.one (.val _ rfl) rfl⟩⟩
theorem Dec.map{α β:Type}{t:TypeId}{sz:Nat}{e:α->List PV}{G:α->Prop}{e':β->List PV}{G':β->Prop}(g:α->β)(f:β->α)(hgf:∀b,e (f b)=e' b)(hg:∀a,e' (g a)=e a)(hG:∀a,G a->G' (g a))(h:Dec P w enc t sz e G):Dec P w enc t sz e' G' :=
 ⟨λb=>by rw[<-hgf];exact h.len _,λsp hd fuel cs x hx hw=>by
  obtain⟨a,h1,h2⟩:=h.dec sp hd fuel cs x hx hw;exact⟨g a,hG a h1,by rw[hg];exact h2⟩⟩
theorem uD{e:TypeId} : ∀ {ds:List (DataW H)} {d:DataW H},d∈ds->∀n∈d.weights P e,n∈DataW.weightsAll P e ds
 |d0 :: r,d,hd,n,hn=>by
  rw[DataW.weightsAll,List.mem_append];rcases List.mem_cons.1 hd with rfl|h
  ·exact .inl hn
  ·exact .inr (uD h n hn)
theorem mapM_some{α β:Type}{f:α->Option β} : ∀ {l:List α} {r:List β},l.mapM f=some r->r.length=l.length/\∀ (i:Nat) a,l[i]? = some a->r[i]? = f a:=by
 intro l
 induction l with
 |nil=>intro r h;simp at h;subst h;exact⟨rfl,by simp⟩
 |cons a l ih =>
  intro r h;rw[List.mapM_cons] at h;cases ha:f a with
  |none=>rw[ha] at h;cases h
  |some b =>
   rw[ha] at h;cases hl:l.mapM f with
   |none=>rw[hl] at h;cases h
   |some r' =>
    rw[hl] at h;have:r=b :: r':=by simpa using h.symm
    subst this;obtain⟨h1,h2⟩:=ih hl;refine⟨by simp[h1],λi x hx=>?_⟩;cases i with
    |zero=>simp at hx;subst hx;simp[ha]
    |succ i=>simpa using h2 i x (by simpa using hx)
theorem abx{a:Addr}{n:Nat}{cs:List Value}(h:w.cells? 0 a n=some cs):cs.length=n/\(∀ (i:Nat) u,cs[i]? = some u->w.cell? (a.add i)=some u):=by
 unfold World.cells? at h;rw[if_pos (Nat.zero_le _)] at h;obtain⟨h1,h2⟩:=mapM_some h;refine⟨by simpa using h1,λi u hu=>?_⟩;have hi:i<n:=by have:=(List.getElem?_eq_some_iff.1 hu).1;simpa[h1] using this
 rw[<-h2 i i (by simp[hi]),hu]
theorem ate{a:Addr}{u:Value}(h:w.cell? a=some u):a.spot=none:=by
 unfold World.cell? at h;split at h
 ·split at h
  ·cases h
  ·rename_i hs;cases hsp:a.spot with
   |none=>rfl
   |some _=>simp[hsp] at hs
 ·cases h
theorem ad5{α:Type}{n:Nat}{Q:Nat->α->Prop}(h:∀i,i<n->∃a,Q i a):∃l:List α,l.length=n/\∀ (i:Nat) a,l[i]? = some a->Q i a:=by
 induction n with
 |zero=>exact⟨[],rfl,by simp⟩
 |succ n ih =>
  obtain⟨l,h1,h2⟩:=ih λi hi=>h i (by omega)
  obtain⟨a,ha⟩:=h n (by omega);refine⟨l++[a],by simp[h1],λi b hb=>?_⟩;rcases Nat.lt_or_ge i l.length with hi|hi
  ·rw[List.getElem?_append_left hi] at hb;exact h2 i b hb
  ·rw[List.getElem?_append_right hi] at hb;have:i-l.length=0:=by have:=(List.getElem?_eq_some_iff.1 hb).1;simp at this;omega
   rw[this] at hb;simp at hb;subst hb;have:i=n:=by omega
   subst this;exact ha
end Go.cq
namespace Go.cq
open Go.RowKit
variable{P:Program}
theorem sx.len:∀ {ps' ps:List PV},sx ps' ps->ps'.length=ps.length
 | [],[],_=>rfl
 | [],_ :: _,h=>h.elim
 |_ :: _,[],h=>h.elim
 |_ :: _,_ :: _,h=>by simp[sx.len h.2]
theorem sx.at:∀ {ps' ps:List PV},sx ps' ps->∀ {j:Nat} {c:PV},ps[j]? = some c->∃c',ps'[j]? = some c'/\PLe c' c
 | [],[],_,_,_,h=>by simp at h
 | [],_ :: _,h,_,_,_=>h.elim
 |_ :: _,[],h,_,_,_=>h.elim
 |a :: r,b :: s,h,j,c,hc=>by
  cases j with
  |zero=>simp at hc;subst hc;exact⟨a,rfl,h.1⟩
  |succ j=>obtain⟨c',h1,h2⟩:=sx.at h.2 (j:=j) (c:=c) (by simpa using hc);exact⟨c',by simpa using h1,h2⟩
theorem PLe.agg{ps' ps:List PV}(h:sx ps' ps):PLe (.agg ps') (.agg ps):=λI v hv=>by
 cases hv with
 |agg us _ hl hv hone=>refine .agg us ps (hl.trans h.len) (λj u c hu hc=>?_) hone;obtain⟨c',h1,h2⟩:=h.at hc;exact h2 I u (hv j u c' hu h1)
theorem PLe.dQ{ps' ps:List PV}(h:sx ps' ps):PLe (.dQ ps') (.dQ ps):=λI v hv=>by
 cases hv with
 |dQ us _ hl hv=>refine .dQ us ps (hl.trans h.len) (λj u c hu hc=>?_);obtain⟨c',h1,h2⟩:=h.at hc;exact h2 I u (hv j u c' hu h1)
theorem sx.refl:∀ps:List PV,sx ps ps
 | []=>trivial
 |a :: r=>⟨PLe.refl a,sx.refl r⟩
theorem aS.le{f:FuncId}{args:List PV}{Q Q':PV->Prop}(h:aS P f args Q)(hq:∀r,Q r->∃r',PLe r r'/\Q' r'):aS P f args Q' :=
 ⟨h.1,λI w vs hI hv=>(h.2 I w vs hI hv).mono λ_ _ ⟨v,r,I',h1,h2,h3,h4⟩=>by
  obtain⟨r',h5,h6⟩:=hq r h2;exact⟨v,r',I',h1,h6,h5 _ _ h3,h4⟩⟩
end Go.cq
namespace Go.cq
open Go.RowKit
theorem PLe.aV{es' es:List (List PV)}(hl:es'.map (·.length)=es.map (·.length))(hf:sx es'.flatten es.flatten):PLe (.aV es') (.aV es):=λI v hv=>by
 cases hv with
 |aV ao n cap _ us sz hn hsz hu hv hone hm hnil hcap =>
  have hlen:es'.length=es.length:=by have:=congrArg List.length hl;simpa using this
  refine .aV ao _ cap es us sz (by rw[<-hlen];exact hn) (λe he=>?_) (hu.trans hf.len) (λj u c hu hc=>?_) hone hm hnil hcap
  ·obtain⟨i,hi,rfl⟩:=List.getElem_of_mem he;have h1:(es'.map (·.length))[i]? = (es.map (·.length))[i]?:=by rw[hl]
   have hi':i<es'.length:=by omega
   simp only[List.getElem?_map,List.getElem?_eq_getElem hi,List.getElem?_eq_getElem hi',Option.map_some,cv] at h1;rw[<-h1];exact hsz _ (nR hi')
  ·obtain⟨c',h1,h2⟩:=hf.at hc;exact h2 I u (hv j u c' hu h1)
variable{P:Program}{w:World}{H:Type}{enc:TypeId×Value->H}
theorem alJ{a:Addr}(h:a.spot=none)(n:Nat):a.add n=⟨a.block,a.off+n,none⟩:=by
 obtain⟨b,o,s⟩:=a;simp only at h;subst h;unfold Addr.add;split
 ·rename_i hn;simp[hn]
 ·rfl
theorem alK{α:Type}{ec:α->List PV}{sz:Nat}(h0:0<sz)(hlen:∀a,(ec a).length=sz){a:Addr}{len cap:Nat}(hcap:len<=cap){l:List (α×List Value)}(hl:l.length=len)
  (h:∀ (i:Nat) (x:α×List Value),l[i]? = some x->w.cells? 0 (a.add (i * sz)) sz=some x.2/\rB w x.2 (ec x.1)):VR (snap w) (.slice (some a) len cap) (.aV ((l.map (·.1)).map ec)):=by
 have hall:∀e∈(l.map (·.1)).map ec,e.length=sz:=λe he=>by obtain⟨x,_,rfl⟩:=List.mem_map.1 he;exact hlen x
 have hcs:∀c∈l.map (·.2),c.length=sz:=λc hc=>by obtain⟨x,hx,rfl⟩:=List.mem_map.1 hc;obtain⟨i,hi⟩:=List.mem_iff_getElem?.1 hx;exact (abx (h i x hi).1).1
 have at':∀ (j:Nat) u,(l.map (·.2)).flatten[j]? = some u->∃x,l[j / sz]? = some x/\x.2[j % sz]? = some u:=λj u hu=>by have hj:j<(l.map (·.2)).flatten.length:=(List.getElem?_eq_some_iff.1 hu).1;rw[bH hcs,List.length_map] at hj;have hd:j / sz<l.length:=(Nat.div_lt_iff_lt_mul h0).2 hj;have e2:=gV hcs (j / sz) (j % sz) (by simpa using hd) (Nat.mod_lt _ h0);rw[Nat.div_add_mod' j sz,hu] at e2;refine⟨l[j / sz],List.getElem?_eq_getElem hd,?_⟩;rw[e2];simp[hd]
 refine .aV (some a) len cap _ (l.map (·.2)).flatten sz (by simp[hl]) hall ?_ (λj u c hu hc=>?_) (λu hu=>?_) ?_ (by simp) hcap
 ·rw[bH hcs,bH hall];simp
 ·obtain⟨x,hx,hxu⟩:=at' j u hu;have hd:j / sz<l.length:=(List.getElem?_eq_some_iff.1 hx).1;have e2:=gV hall (j / sz) (j % sz) (by simpa using hd) (Nat.mod_lt _ h0);rw[Nat.div_add_mod' j sz,hc] at e2;have e3:((l.map (·.1)).map ec).getD (j / sz) []=ec x.1:=by
   have:l[j / sz]=x:=by have:=List.getElem?_eq_getElem hd;rw[hx] at this;exact (Option.some.inj this).symm
   simp[hd,this]
  rw[e3] at e2;exact (h _ x hx).2.2.1 _ u c hxu e2.symm
 ·obtain⟨c,hc,huc⟩:=List.mem_flatten.1 hu;obtain⟨x,hx,rfl⟩:=List.mem_map.1 hc;obtain⟨i,hi⟩:=List.mem_iff_getElem?.1 hx;exact (h i x hi).2.2.2 u huc
 ·by_cases hn:(l.map (·.2)).flatten=[]
  ·exact .inl hn
  ·right;have hpos:0<l.length:=by
    rcases Nat.eq_zero_or_pos l.length with h'|h'
    ·exact absurd (by rw[List.length_eq_zero_iff.1 h'];rfl) hn
    ·exact h'
   have hsp:a.spot=none:=by
    have hx:=h 0 l[0] (List.getElem?_eq_getElem hpos);obtain⟨k1,k2⟩:=abx hx.1;have h00:0<l[0].2.length:=by rw[k1];exact h0
    have:=k2 0 l[0].2[0] (List.getElem?_eq_getElem h00);have:=ate this;simpa[Addr.add] using this
   refine⟨a.block,a.off,?_,λj u hu=>?_⟩
   ·obtain⟨b,o,s⟩:=a;simp only at hsp;subst hsp;rfl
   ·obtain⟨x,hx,hxu⟩:=at' j u hu;have:=(abx (h _ x hx).1).2 _ u hxu;rw[alJ hsp,alJ rfl] at this;simp only at this;rw[Nat.add_assoc,Nat.div_add_mod' j sz] at this;exact this
theorem Dec.slice{α:Type}{t e:TypeId}{sz:Nat}{ec:α->List PV}{G:α->Prop}(ht:P.underlying t=some (.slice e))(hc:P.cellsOf e=sz)(h0:0<sz)(hb:0<P.bytesOf e)(he:Dec P w enc e sz ec G) :
  Dec P w enc t 1 (λl:List α=>[.aV (l.map ec)]) (λl=>(∀a∈l,G a)/\l.length<=reachBytes) :=
 ⟨λ_=>rfl,λsp hd fuel cs x h hw=>by
  rcases DataW.trod_slice ht h with ⟨rfl,rfl⟩|⟨a,len,cap,elems,rest,n,_,rfl,rfl,_,hle,_,hlen,hel,_,_⟩
  ·exact⟨[],⟨by simp,by simp⟩,.one (.aV none 0 0 [] [] 1 rfl (by simp) rfl (by simp) (by simp) (.inl rfl) (λ_=>⟨rfl,rfl⟩) (Nat.le_refl _)) rfl⟩
  ·have hwt:∀k,k∈((elems.map (·.1)).length+(rest.map (·.1)).length) * P.bytesOf e :: (DataW.weightsAll P e (elems.map (·.1))++DataW.weightsAll P e (rest.map (·.1)))->k<=reachBytes:=λk hk=>by refine hw k ?_;simp only[DataW.weights,ht];exact hk
   obtain⟨l,l1,l2⟩:=ad5 (n:=len) (Q:=λi (x:α×List Value)=>G x.1/\w.cells? 0 (a.add (i * sz)) sz=some x.2/\rB w x.2 (ec x.1)) λi hi=>by
    have h1:=hel i hi;have hi':i<elems.length:=by omega
    rw[List.getElem?_eq_getElem hi',hc] at h1;obtain⟨cs',h2,h3⟩:=Option.bind_eq_some_iff.1 h1;obtain⟨b,h4,h5⟩:=he.dec sp hd n cs' _ h3 λk hk=>hwt k (List.mem_cons_of_mem _ (List.mem_append_left _ (uD (List.mem_map.2 ⟨elems[i],nR hi',rfl⟩) k hk)))
    exact⟨(b,cs'),h4,h2,h5⟩
   refine⟨l.map (·.1),⟨λb hb'=>?_,?_⟩,.one (alK h0 he.len hle l1 λi x hx=>(l2 i x hx).2) rfl⟩
   ·obtain⟨x,hx,rfl⟩:=List.mem_map.1 hb';obtain⟨i,hi⟩:=List.mem_iff_getElem?.1 hx;exact (l2 i x hi).1
   ·have:=hwt _ (List.mem_cons_self ..);rw[List.length_map,List.length_map,hlen] at this;rw[List.length_map,l1];exact Nat.le_trans (Nat.le_trans (Nat.le_add_right len rest.length) (Nat.le_mul_of_pos_right _ hb)) this⟩
structure afC(P:Program)(w:World){H:Type}(enc:TypeId×Value->H){α:Type}(fs:List Field)(off sz:Nat)(e:α->List PV)(G:α->Prop):Prop where
 len:∀a,(e a).length=sz
 dec:∀ (sp:Nat->Bool) (hd:Bool) (n:Nat) (cs:List Value) (ds:List (DataW H)),ds.length=fs.length->cs.length=off+sz->(∀ (i:Nat) f,fs[i]? = some f->∃ps,DataW.trod enc P w 0 sp hd n f.type ((cs.drop f.offset).take (P.cellsOf f.type))=(ds[i]?).map λd=>(d,ps)) ->
  (∀k∈DataW.weightsEach P (fs.map (·.type)) ds,k<=reachBytes)->∃a,G a/\rB w (cs.drop off) (e a)
theorem afC.nil(off:Nat):afC P w enc [] off 0 (λ_:Unit=>[]) (λ_=>True) :=
 ⟨λ_=>rfl,λsp hd n cs ds _ hl _ _=>⟨(),trivial,by
  have:cs.drop off=[]:=List.drop_eq_nil_of_le (by omega);rw[this];exact⟨rfl,by simp,by simp⟩⟩⟩
theorem rB.append{cs ds:List Value}{ps qs:List PV}(h:rB w cs ps)(k:rB w ds qs):rB w (cs++ds) (ps++qs):=by
 refine⟨by simp[h.1,k.1],λj u c hu hc=>?_,λu hu=>?_⟩
 ·rcases Nat.lt_or_ge j cs.length with hj|hj
  ·rw[List.getElem?_append_left hj] at hu;rw[List.getElem?_append_left (by rw[<-h.1];exact hj)] at hc;exact h.2.1 j u c hu hc
  ·rw[List.getElem?_append_right hj] at hu;rw[List.getElem?_append_right (by rw[<-h.1];exact hj),<-h.1] at hc;exact k.2.1 _ u c hu hc
 ·rcases List.mem_append.1 hu with hu|hu
  ·exact h.2.2 u hu
  ·exact k.2.2 u hu
theorem afC.cons{α β:Type}{f:Field}{fs:List Field}{off sz sz':Nat}{e:α->List PV}{G:α->Prop}{e':β->List PV}{G':β->Prop}(ho:f.offset=off)(hc:P.cellsOf f.type=sz)(h:Dec P w enc f.type sz e G)(hr:afC P w enc fs (off+sz) sz' e' G') :
  afC P w enc (f :: fs) off (sz+sz') (λx:α×β=>e x.1++e' x.2) (λx=>G x.1/\G' x.2) :=
 ⟨λx=>by rw[List.length_append,h.len,hr.len],λsp hd n cs ds hl hcs hall hw=>by
  match ds,hl with
  | [],hl=>simp at hl
  |d :: ds,hl =>
   rw[List.map_cons,DataW.weightsEach] at hw;obtain⟨ps,h0⟩:=hall 0 f rfl;simp only[List.getElem?_cons_zero,Option.map_some] at h0;obtain⟨a,a1,a2⟩:=h.dec sp hd n _ _ h0 λk hk=>hw k (List.mem_append_left _ hk)
   obtain⟨b,b1,b2⟩:=hr.dec sp hd n cs ds (by simpa using hl) (by omega) (λi g hg=>by simpa using hall (i+1) g (by simpa using hg)) λk hk=>hw k (List.mem_append_right _ hk)
   refine⟨(a,b),⟨a1,b1⟩,?_⟩;have e1:cs.drop off=(cs.drop off).take sz++cs.drop (off+sz):=by rw[<-List.drop_drop,List.take_append_drop]
   rw[e1];rw[ho,hc] at a2;exact a2.append b2⟩
theorem Dec.struct{α:Type}{t:TypeId}{fs:Array Field}{sz:Nat}{e:α->List PV}{G:α->Prop}(ht:P.underlying t=some (.struct fs))(hc:P.cellsOf t=sz)(h:afC P w enc fs.toList 0 sz e G):Dec P w enc t sz e G :=
 ⟨h.len,λsp hd fuel cs x hx hw=>by
  obtain⟨xs,n,_,rfl,hl,hxs,hf⟩:=DataW.trod_struct ht hx;obtain⟨a,a1,a2⟩:=h.dec sp hd n cs (xs.map (·.1)) (by simp[hxs]) (by rw[hl,hc,Nat.zero_add]) (λi f hi=>by
   have h1:=hf i f (by simpa using hi);have hlt:i<xs.length:=by have:=(List.getElem?_eq_some_iff.1 hi).1;rw[hxs];simpa using this
   refine⟨xs[i].2,?_⟩;rw[h1];simp[hlt]) λk hk=>hw k (by
    simp only[DataW.weights,ht];exact hk)
  exact⟨a,a1,by simpa using a2⟩⟩
end Go.cq
namespace Go.cq
open Go.RowKit
variable{P:Program}{w:World}{H:Type}{enc:TypeId×Value->H}
theorem Dec.aH8{t:TypeId}(k:IntKind)(ht:P.underlying t=some (.int k)):Dec P w enc t 1 (λn:Int=>[.val (.int k n)]) (λn=>k.min<=n/\n<=k.max) :=
 ⟨λ_=>rfl,λsp hd fuel cs x h _=>by
  obtain⟨n,rfl,_,hw⟩:=DataW.trod_int ht h;refine⟨n,?_,.one (.val _ rfl) rfl⟩;simpa[Lit.wf] using hw⟩
def aEg (e:TypeId) (off:Nat):Field:={ name := "",type:=e,offset:=off,embedded:=false,tag := "",pkgPath := "",byteOffset:=0 }
def ahR(n:Nat)(e:TypeId)(sz:Nat):List Field:=(List.range n).map λi=>aEg e (i * sz)
theorem ya{e:TypeId} : ∀ (n:Nat) (ds:List (DataW H)),ds.length=n->DataW.weightsEach P (List.replicate n e) ds=DataW.weightsAll P e ds
 |0,[],_=>rfl
 |n+1,d :: r,h=>by rw[List.replicate_succ,DataW.weightsEach,DataW.weightsAll,ya n r (by simpa using h)]
 |n+1,[],h=>by simp at h
 |0,d :: r,h=>by simp at h
theorem Dec.array{α:Type}{t e:TypeId}{n sz sz0:Nat}{ec:α->List PV}{G:α->Prop}(ht:P.underlying t=some (.array n e))(hc:P.cellsOf t=sz)(h0:P.cellsOf e=sz0)(h:afC P w enc (ahR n e sz0) 0 sz ec G):Dec P w enc t sz ec G :=
 ⟨h.len,λsp hd fuel cs x hx hw=>by
  obtain⟨xs,m,_,rfl,hl,hxs,hf⟩:=DataW.trod_array ht hx;obtain⟨a,a1,a2⟩:=h.dec sp hd m cs (xs.map (·.1)) (by simp[hxs,ahR]) (by rw[hl,hc,Nat.zero_add]) (λi f hi=>by
   have hlt:i<n:=by have:=(List.getElem?_eq_some_iff.1 hi).1;simpa[ahR] using this
   have hfe:f=aEg e (i * sz0):=by simpa[ahR,hlt] using hi.symm
   subst hfe;have h1:=hf i hlt;refine⟨(xs[i]'(by omega)).2,?_⟩;subst h0;show DataW.trod enc P w 0 sp hd m e (List.take (P.cellsOf e) (List.drop (i * P.cellsOf e) cs))=_;rw[h1];simp[hxs,hlt]) λk hk=>hw k (by
    simp only[DataW.weights,ht];have e1:(ahR n e sz0).map (·.type)=List.replicate n e:=by unfold ahR;rw[List.map_map];exact (List.map_const' ..).trans (by rw[List.length_range])
    rw[e1,ya n _ (by simp[hxs])] at hk;exact hk)
  exact⟨a,a1,by simpa using a2⟩⟩
end Go.cq
namespace Go.cq
open Go.ChangeShapes Go.WideShapes Go.ChangeAt Go.RowKit
variable{P:Program}{W:World}{H:Type}{enc:TypeId×Value->H}{α β:Type}
structure ajp(P:Program)(W:World){H:Type}(enc:TypeId×Value->H){α:Type}(t:TypeId)(e:α->PV)(G:α->Prop):Prop where
 dec:∀b0 v d ps,Value.okWide P W .any b0 t v->DataW.Trod enc P W 0 (λ_=>true) true t v d ps->axy P t d->∃a,G a/\VR (snap W) v (e a)
 read:P.readableRec t=true
 size:t<P.types.size
theorem ajp.struct{t:TypeId}{fs:Array Field}{sz:Nat}{e:α->List PV}{G:α->Prop}(ht:P.underlying t=some (.struct fs))(axz:Dec P W enc t sz e G)(hr:P.readableRec t=true)(hs:t<P.types.size):ajp P W enc t (λa=>.agg (e a)) G :=
 ⟨λb0 v d ps hval h hw=>by
  unfold Value.okWide at hval;rw[ht] at hval;obtain⟨cs,rfl,_⟩:=hval;obtain⟨fuel,hf⟩:=h;obtain⟨a,h1,h2⟩:=axz.dec _ _ fuel _ _ hf hw;refine⟨a,h1,?_⟩;have:VR (snap W) (.agg (cs.toList).toArray) (.agg (e a)):=.agg cs.toList (e a) h2.1 h2.2.1 h2.2.2;simpa using this,hr,hs⟩
theorem ajp.array{t e':TypeId}{n sz:Nat}{e:α->List PV}{G:α->Prop}(ht:P.underlying t=some (.array n e'))(axz:Dec P W enc t sz e G)(hr:P.readableRec t=true)(hs:t<P.types.size):ajp P W enc t (λa=>.agg (e a)) G :=
 ⟨λb0 v d ps hval h hw=>by
  unfold Value.okWide at hval;rw[ht] at hval;obtain⟨cs,rfl,_⟩:=hval;obtain⟨fuel,hf⟩:=h;obtain⟨a,h1,h2⟩:=axz.dec _ _ fuel _ _ hf hw;refine⟨a,h1,?_⟩;have:VR (snap W) (.agg (cs.toList).toArray) (.agg (e a)):=.agg cs.toList (e a) h2.1 h2.2.1 h2.2.2;simpa using this,hr,hs⟩
theorem ajp.one{t:TypeId}{e:α->PV}{G:α->Prop}(ht:∀b0 v,Value.okWide P W .any b0 t v->v.cells.toList=[v])(axz:Dec P W enc t 1 (λa=>[e a]) G)(hr:P.readableRec t=true)(hs:t<P.types.size):ajp P W enc t e G :=
 ⟨λb0 v d ps hval h hw=>by
  obtain⟨fuel,hf⟩:=h;rw[ht b0 v hval] at hf;obtain⟨a,h1,h2⟩:=axz.dec _ _ fuel _ _ hf hw;exact⟨a,h1,h2.2.1 0 v (e a) rfl rfl⟩,hr,hs⟩
theorem ad6:∀ {ts:List TypeId} {vs:List Value} {ds:List (DataW H)} {ps:List MemPlace},DataW.TrodAll enc P W 0 (λ_=>true) true ts vs ds ps->ds.length=ts.length
 | [],vs,ds,ps,h=>by obtain⟨rfl,rfl,rfl⟩:=trodAll_nil h;rfl
 |t :: ts,vs,ds,ps,h=>by obtain⟨v,vs',d,ds',p,q,rfl,rfl,rfl,h1,h2⟩:=trodAll_cons h;rw[List.length_cons,List.length_cons,ad6 h2]
structure ahS(P:Program)(W:World){H:Type}(enc:TypeId×Value->H){α:Type}(ts:List TypeId)(e:α->List PV)(G:α->Prop):Prop where
 dec:∀b0 vs ds ps,(∀ (j:Nat) t v,ts[j]? = some t->vs[j]? = some v->Value.okWide P W .any b0 t v)->DataW.TrodAll enc P W 0 (λ_=>true) true ts vs ds ps->(∀n∈DataW.weightsEach P ts ds,n<=reachBytes) ->
  ∃a,G a/\vs.length=(e a).length/\∀ (j:Nat) u x,vs[j]? = some u->(e a)[j]? = some x->VR (snap W) u x
 stay:laidOutB P=true->∀vs ds ps W',DataW.TrodAll enc P W 0 (λ_=>true) true ts vs ds ps->Below W.heap.size W W'->(∀x∈ps,x.block<W.heap.size)->DataW.TrodAll enc P W' 0 (λb=>decide (b<W.heap.size)) true ts vs ds ps
theorem ahS.nil:ahS P W enc [] (λ_:Unit=>[]) (λ_=>True) :=
 ⟨λb0 vs ds ps _ h _=>by
  obtain⟨rfl,rfl,rfl⟩:=trodAll_nil h;exact⟨(),trivial,rfl,λj u x hu=>by simp at hu⟩,λ_ vs ds ps W' h _ _=>by
  obtain⟨rfl,rfl,rfl⟩:=trodAll_nil h;exact trodAll_mk0⟩
theorem ahS.cons{t:TypeId}{ts:List TypeId}{e:α->PV}{G:α->Prop}{e':β->List PV}{G':β->Prop}(h:ajp P W enc t e G)(hr:ahS P W enc ts e' G') :
  ahS P W enc (t :: ts) (λx:α×β=>e x.1 :: e' x.2) (λx=>G x.1/\G' x.2) :=
 ⟨λb0 vs ds ps hv ht hw=>by
  obtain⟨v,vs',d,ds',p,q,rfl,rfl,rfl,h1,h2⟩:=trodAll_cons ht;rw[DataW.weightsEach] at hw;obtain⟨a,a1,a2⟩:=h.dec b0 v d p (hv 0 t v rfl rfl) h1 λn hn=>hw n (List.mem_append_left _ hn)
  obtain⟨b,b1,b2,b3⟩:=hr.dec b0 vs' ds' q (λj t v ht wk=>hv (j+1) t v (by simpa using ht) (by simpa using wk)) h2 λn hn=>hw n (List.mem_append_right _ hn)
  refine⟨(a,b),⟨a1,b1⟩,by simp[b2],λj u x hu hx=>?_⟩;cases j with
  |zero=>simp at hu hx;subst hu hx;exact a2
  |succ j=>exact b3 j u x (by simpa using hu) (by simpa using hx),λhl vs ds ps W' ht hb hlt=>by
  obtain⟨v,vs',d,ds',p,q,rfl,rfl,rfl,h1,h2⟩:=trodAll_cons ht;exact⟨p,q,Below.trod hl h.read h.size h1 hb λx hx=>hlt x (List.mem_append_left _ hx),hr.stay hl vs' ds' q W' h2 hb λx hx=>hlt x (List.mem_append_right _ hx),rfl⟩⟩
theorem axA{C:Checked}{os:Os}{f:FuncId}{fn:Func}{s:ChangeSpec}{conds:List PathCond}{apart fresh handsOn:Bool}{e:α->List PV}{G:α->Prop}{tb:TypeId}
  (own:ownKnob C.prog.godebug=none) (laid:laidOutB C.prog=true) (started:os.Started) (noInit:C.prog.inits.idxOf? f=none) (hfn:C.prog.funcs[f]? = some fn)
  (witness:∃ (w:World) (tape:Tape) (i:Input),w.os=os/\(w.forCall tape i).Shaped C.prog/\i.vars=[]/\Input.okWide C.prog (w.forCall tape i) .any w.heap.size f i /\
   s.pre6 enc C.prog fn conds apart (w.forCall tape i).memory i.args/\({} : Assume).holds C.prog (lone (Frame.enter C.prog f i.args .normal) [] (w.forCall tape i)))
  (hres:fn.resultTypes = #[tb]) (hb:C.prog.underlying tb=some .bool) (hv:s.vars=[]) (hs:∀ds:List (DataW H),ds.length=fn.params.size->(s.fn H ds).results=[.lit (.bool true)]/\(s.fn H ds).args=ds/\(s.fn H ds).vars=[])
  (hd:∀W,ahS C.prog W enc fn.params.toList e G) (ok:∀a,G a->aS C.prog f (e a) λr=>r = .val (.bool true)) :
  ReturnsInHanded {} C os f .any (s.pre6 enc C.prog fn conds apart) (s.post enc C.prog fn apart fresh handsOn false):=by
 refine returnsInHanded_of_change_sized (C:=C) own started noInit hfn witness ?_;intro W base args ds gs before hval hW _ hz _;have hW':=hW;obtain⟨p,q,hA,hV,rfl,hfz,hnd⟩:=hW;rw[hv] at hV;have hg:gs=[]/\q=[]:=by
  cases gs with
  |nil=>exact⟨rfl,hV⟩
  |cons=>exact hV.elim
 obtain⟨rfl,rfl⟩:=hg;have hvt:s.plain.varTypes C.prog=[]:=by have:s.plain.vars=[]:=hv;unfold DataSpec.varTypes;rw[this];rfl
 rw[hvt,List.append_nil,List.append_nil] at hz;have hw:∀n∈DataW.weightsEach C.prog fn.params.toList ds,n<=reachBytes:=λn hn=>by have:=List.all_eq_true.1 hz n hn;simpa using this
 obtain⟨a,a1,a2,a3⟩:=(hd W).dec base args.toList ds p (λj t v ht wk=>hval j t v (by simpa using ht) (by simpa using wk)) hA hw;have hlt:∀x∈p,x.block<W.heap.size:=λx hx=>hW'.lt x (List.mem_append_left _ hx)
 obtain⟨s1,s2,s3⟩:=hs ds (by
  have:=ad6 hA;simpa using this)
 refine ((ok a a1).2 (snap W) W args.toList (aeW W) ⟨a2,a3⟩).mono ?_;rintro e' W' ⟨v,r,I',rfl,rfl,wk,bel,_⟩;have hvb:v = .bool true:=by cases wk;rfl
 subst hvb;refine⟨_,rfl,ds,[],p++[],[],p,[],hW',?_,?_,?_,bel.frame _,λh=>by cases h⟩
 ·rw[List.append_nil,s1,hres];exact trodAll_mk1 (shut_bool hb true)
 ·rw[List.append_nil,s2];exact (hd W).stay laid _ _ _ _ hA bel hlt
 ·rw[List.append_nil,s3,hv];rfl
end Go.cq
namespace Go.cq
open Go.RowKit
variable{P:Program}{w:World}{H:Type}{enc:TypeId×Value->H}
structure afD(P:Program)(w:World){H:Type}(enc:TypeId×Value->H)(N:Nat){α:Type}(t:TypeId)(sz:Nat)(e:α->List PV)(G:α->Prop):Prop where
 len:∀a,(e a).length=sz
 dec:∀ (sp:Nat->Bool) (hd:Bool) (fuel:Nat),fuel<N->∀ (cs:List Value) (x:DataW H×List MemPlace),DataW.trod enc P w 0 sp hd fuel t cs=some x->axy P t x.1->∃a,G a/\rB w cs (e a)
theorem afD.zero{α:Type}{t:TypeId}{sz:Nat}{e:α->List PV}{G:α->Prop}(h:∀a,(e a).length=sz):afD P w enc 0 t sz e G:=⟨h,λ_ _ _ h=>absurd h (Nat.not_lt_zero _)⟩
theorem afD.map{N:Nat}{α β:Type}{t:TypeId}{sz:Nat}{e:α->List PV}{G:α->Prop}{e':β->List PV}{G':β->Prop}(g:α->β)(f:β->α)(hgf:∀b,e (f b)=e' b)(hg:∀a,e' (g a)=e a)(hG:∀a,G a->G' (g a))(h:afD P w enc N t sz e G):afD P w enc N t sz e' G' :=
 ⟨λb=>by rw[<-hgf];exact h.len _,λsp hd fuel hf cs x hx hw=>by
  obtain⟨a,h1,h2⟩:=h.dec sp hd fuel hf cs x hx hw;exact⟨g a,hG a h1,by rw[hg];exact h2⟩⟩
theorem afD.slice{N:Nat}{α:Type}{t e:TypeId}{sz:Nat}{ec:α->List PV}{G:α->Prop}(ht:P.underlying t=some (.slice e))(hc:P.cellsOf e=sz)(h0:0<sz)(hb:0<P.bytesOf e)(he:afD P w enc N e sz ec G) :
  afD P w enc N t 1 (λl:List α=>[.aV (l.map ec)]) (λl=>(∀a∈l,G a)/\l.length<=reachBytes) :=
 ⟨λ_=>rfl,λsp hd fuel hN cs x h hw=>by
  rcases DataW.trod_slice ht h with ⟨rfl,rfl⟩|⟨a,len,cap,elems,rest,n,hfn,rfl,rfl,_,hle,_,hlen,hel,_,_⟩
  ·exact⟨[],⟨by simp,by simp⟩,.one (.aV none 0 0 [] [] 1 rfl (by simp) rfl (by simp) (by simp) (.inl rfl) (λ_=>⟨rfl,rfl⟩) (Nat.le_refl _)) rfl⟩
  ·have hn:n<N:=by omega
   have hwt:∀k,k∈((elems.map (·.1)).length+(rest.map (·.1)).length) * P.bytesOf e :: (DataW.weightsAll P e (elems.map (·.1))++DataW.weightsAll P e (rest.map (·.1)))->k<=reachBytes:=λk hk=>by refine hw k ?_;simp only[DataW.weights,ht];exact hk
   obtain⟨l,l1,l2⟩:=ad5 (n:=len) (Q:=λi (x:α×List Value)=>G x.1/\w.cells? 0 (a.add (i * sz)) sz=some x.2/\rB w x.2 (ec x.1)) λi hi=>by
    have h1:=hel i hi;have hi':i<elems.length:=by omega
    rw[List.getElem?_eq_getElem hi',hc] at h1;obtain⟨cs',h2,h3⟩:=Option.bind_eq_some_iff.1 h1;obtain⟨b,h4,h5⟩:=he.dec sp hd n hn cs' _ h3 λk hk=>hwt k (List.mem_cons_of_mem _ (List.mem_append_left _ (uD (List.mem_map.2 ⟨elems[i],nR hi',rfl⟩) k hk)))
    exact⟨(b,cs'),h4,h2,h5⟩
   refine⟨l.map (·.1),⟨λb hb'=>?_,?_⟩,.one (alK h0 he.len hle l1 λi x hx=>(l2 i x hx).2) rfl⟩
   ·obtain⟨x,hx,rfl⟩:=List.mem_map.1 hb';obtain⟨i,hi⟩:=List.mem_iff_getElem?.1 hx;exact (l2 i x hi).1
   ·have:=hwt _ (List.mem_cons_self ..);rw[List.length_map,List.length_map,hlen] at this;rw[List.length_map,l1];exact Nat.le_trans (Nat.le_trans (Nat.le_add_right len rest.length) (Nat.le_mul_of_pos_right _ hb)) this⟩
structure adr(P:Program)(w:World){H:Type}(enc:TypeId×Value->H)(N:Nat){α:Type}(fs:List Field)(off sz:Nat)(e:α->List PV)(G:α->Prop):Prop where
 len:∀a,(e a).length=sz
 dec:∀ (sp:Nat->Bool) (hd:Bool) (n:Nat),n<N->∀ (cs:List Value) (ds:List (DataW H)),ds.length=fs.length->cs.length=off+sz->(∀ (i:Nat) f,fs[i]? = some f->∃ps,DataW.trod enc P w 0 sp hd n f.type ((cs.drop f.offset).take (P.cellsOf f.type))=(ds[i]?).map λd=>(d,ps)) ->
  (∀k∈DataW.weightsEach P (fs.map (·.type)) ds,k<=reachBytes)->∃a,G a/\rB w (cs.drop off) (e a)
theorem adr.nil{N:Nat}(off:Nat):adr P w enc N [] off 0 (λ_:Unit=>[]) (λ_=>True) :=
 ⟨λ_=>rfl,λsp hd n _ cs ds _ hl _ _=>⟨(),trivial,by
  have:cs.drop off=[]:=List.drop_eq_nil_of_le (by omega);rw[this];exact⟨rfl,by simp,by simp⟩⟩⟩
theorem adr.cons{N:Nat}{α β:Type}{f:Field}{fs:List Field}{off sz sz':Nat}{e:α->List PV}{G:α->Prop}{e':β->List PV}{G':β->Prop}(ho:f.offset=off)(hc:P.cellsOf f.type=sz)(h:afD P w enc N f.type sz e G)(hr:adr P w enc N fs (off+sz) sz' e' G') :
  adr P w enc N (f :: fs) off (sz+sz') (λx:α×β=>e x.1++e' x.2) (λx=>G x.1/\G' x.2) :=
 ⟨λx=>by rw[List.length_append,h.len,hr.len],λsp hd n hn cs ds hl hcs hall hw=>by
  match ds,hl with
  | [],hl=>simp at hl
  |d :: ds,hl =>
   rw[List.map_cons,DataW.weightsEach] at hw;obtain⟨ps,h0⟩:=hall 0 f rfl;simp only[List.getElem?_cons_zero,Option.map_some] at h0;obtain⟨a,a1,a2⟩:=h.dec sp hd n hn _ _ h0 λk hk=>hw k (List.mem_append_left _ hk)
   obtain⟨b,b1,b2⟩:=hr.dec sp hd n hn cs ds (by simpa using hl) (by omega) (λi g hg=>by simpa using hall (i+1) g (by simpa using hg)) λk hk=>hw k (List.mem_append_right _ hk)
   refine⟨(a,b),⟨a1,b1⟩,?_⟩;have e1:cs.drop off=(cs.drop off).take sz++cs.drop (off+sz):=by rw[<-List.drop_drop,List.take_append_drop]
   rw[e1];rw[ho,hc] at a2;exact a2.append b2⟩
theorem afD.struct{N:Nat}{α:Type}{t:TypeId}{fs:Array Field}{sz:Nat}{e:α->List PV}{G:α->Prop}(ht:P.underlying t=some (.struct fs))(hc:P.cellsOf t=sz)(h:adr P w enc N fs.toList 0 sz e G):afD P w enc (N+1) t sz e G :=
 ⟨h.len,λsp hd fuel hN cs x hx hw=>by
  obtain⟨xs,n,hfn,rfl,hl,hxs,hf⟩:=DataW.trod_struct ht hx;obtain⟨a,a1,a2⟩:=h.dec sp hd n (by omega) cs (xs.map (·.1)) (by simp[hxs]) (by rw[hl,hc,Nat.zero_add]) (λi f hi=>by
   have h1:=hf i f (by simpa using hi);have hlt:i<xs.length:=by have:=(List.getElem?_eq_some_iff.1 hi).1;rw[hxs];simpa using this
   refine⟨xs[i].2,?_⟩;rw[h1];simp[hlt]) λk hk=>hw k (by
    simp only[DataW.weights,ht];exact hk)
  exact⟨a,a1,by simpa using a2⟩⟩
end Go.cq
namespace Go.cq
open Go.RowKit
def cC{α:Type}(p:Prop) [Decidable p](x:Option α):Option α:=if p then x else none
def thn{α β:Type}(x:Option α)(k:α->Option β):Option β:=match x with
 |some a=>k a
 |none=>none
def mJ{α:Type}(l:List α)(i:Int):Option α:=if 0<=i then l[i.toNat]? else none
theorem axB{α:Type}{p:Prop} [Decidable p]{x:Option α}{r:α}(h:cC p x=some r):p/\x=some r:=by
 unfold cC at h;split at h
 ·exact⟨by assumption,h⟩
 ·cases h
theorem nT{α β:Type}{x:Option α}{k:α->Option β}{r:β}(h:thn x k=some r):∃a,x=some a/\k a=some r:=by
 unfold thn at h;split at h
 ·exact⟨_,rfl,h⟩
 ·cases h
theorem zb{α:Type}{b:Bool}{x y:Option α}{r:α}(h:cond b x y=some r)(hb:b=true):x=some r:=by subst hb;exact h
theorem ads{α:Type}{b:Bool}{x y:Option α}{r:α}(h:cond b x y=some r)(hb:b=false):y=some r:=by subst hb;exact h
theorem aBQ{α β:Type}{l:List α}{i:Nat}{k:α->Option β}{r:β}(f:α->List PV)(h:thn l[i]? k=some r):∃a,i<l.length/\(l.map f).getD i []=f a/\l[i]? = some a/\k a=some r:=by obtain⟨a,h1,h2⟩:=nT h;exact⟨a,(List.getElem?_eq_some_iff.1 h1).1,by simp[h1],h1,h2⟩
theorem aBR{α β:Type}{l:List α}{i:Int}{k:α->Option β}{r:β}(f:α->List PV)(h:thn (mJ l i) k=some r) :
  ∃a,0<=i/\i<(l.length:Int)/\(l.map f).getD i.toNat []=f a/\mJ l i=some a/\k a=some r:=by
 obtain⟨a,h1,h2⟩:=nT h;have tG:=h1;unfold mJ at h1;split at h1
 ·rename_i h0;have:=(List.getElem?_eq_some_iff.1 h1).1;exact⟨a,h0,by omega,by simp[h1],tG,h2⟩
 ·cases h1
theorem eY{α:Type}{f:α->List PV}{n:Nat}(h:∀a,(f a).length=n)(l:List α):∀x∈l.map f,x.length=n:=by intro x hx;obtain⟨a,_,rfl⟩:=List.mem_map.1 hx;exact h a
theorem aAT{α:Type}{f:α->List PV}(h:∀a,(f a).all isVal=true)(l:List α):((l.map f).all λx=>x.all isVal)=true:=by simp[h]
theorem atf{α β:Type}(f:α->β)(l:List α)(n:Nat):(l.map f).take n=(l.take n).map f:=(List.map_take ..).symm
theorem atg{α β:Type}(f:α->β)(l:List α)(n:Nat):(l.map f).drop n=(l.drop n).map f:=(List.map_drop ..).symm
theorem axC{α β:Type}(f:α->β)(l m:List α):l.map f++m.map f=(l++m).map f:=(List.map_append ..).symm
theorem bh{α β:Type}(f:α->β)(l m:List α){c:List β}(h:m.map f=c):l.map f++c=(l++m).map f:=by rw[List.map_append,h]
theorem wJ{α β:Type}(f:α->β)(l:List α)(i:Nat)(a:α){c:β}(h:f a=c):(l.map f).set i c=(l.set i a).map f:=by rw[List.map_set,<-h]
attribute [go_sem] atf atg axC List.take_length List.length_set List.length_replicate List.set_cons_zero List.set_cons_succ Nat.le_refl Nat.not_lt_zero Nat.zero_le Nat.zero_lt_succ decide_true decide_false Bool.not_not /-! ### nil read as an empty list -/
mutual
def tJ:PV->PV->Prop
 | .val (.slice none 0 0),.aV es=>es=[]
 | .emp,.aV es=>es=[]
 | .aV a,.aV b=>kV a b
 | .agg a,.agg b=>qg a b
 | .dQ a,.dQ b=>qg a b
 |a,b=>a=b
def qg:List PV->List PV->Prop
 | [],[]=>True
 |a :: r,b :: s=>tJ a b/\qg r s
 |_,_=>False
def kV:List (List PV)->List (List PV)->Prop
 | [],[]=>True
 |a :: r,b :: s=>qg a b/\kV r s
 |_,_=>False
end
theorem sx.app:∀ {a b c d:List PV},sx a b->sx c d->sx (a++c) (b++d)
 | [],[],_,_,_,h=>h
 | [],_ :: _,_,_,h,_=>h.elim
 |_ :: _,[],_,_,h,_=>h.elim
 |_ :: _,_ :: _,_,_,h,k=>⟨h.1,sx.app h.2 k⟩
mutual
theorem ajq:∀ (a b:PV),tJ a b->PLe a b:=by
 intro a b h;unfold tJ at h;split at h
 ·subst h;exact .nil
 ·subst h;exact .emp
 ·exact .aV (sB _ _ h).1 (sB _ _ h).2
 ·exact .agg (rZ _ _ h)
 ·exact .dQ (rZ _ _ h)
 ·subst h;exact .refl _
theorem rZ:∀ (a b:List PV),qg a b->sx a b
 | [],[],_=>trivial
 |a :: r,b :: s,h=>⟨ajq a b (by unfold qg at h;exact h.1),rZ r s (by unfold qg at h;exact h.2)⟩
 | [],_ :: _,h=>by unfold qg at h;exact h
 |_ :: _,[],h=>by unfold qg at h;exact h
theorem sB:∀ (a b:List (List PV)),kV a b->a.map (·.length)=b.map (·.length)/\sx a.flatten b.flatten
 | [],[],_=>⟨rfl,trivial⟩
 |a :: r,b :: s,h=>by unfold kV at h;have h1:=rZ a b h.1;have h2:=sB r s h.2;exact⟨by rw[List.map_cons,List.map_cons,h2.1,h1.len],by rw[List.flatten_cons,List.flatten_cons];exact h1.app h2.2⟩
 | [],_ :: _,h=>by unfold kV at h;exact h.elim
 |_ :: _,[],h=>by unfold kV at h;exact h.elim
end
theorem aS.nq{P:Program}{f:FuncId}{args:List PV}{t:PV}(h:aS P f args (λv=>tJ v t)):aS P f args (λv=>v=t):=h.le λr hr=>⟨t,ajq r t hr,rfl⟩
mutual
def uE:RV->RV->Prop
 | .p (.val (.slice none 0 0)),.row _ sz es=>es=[]/\0<sz
 | .p (.val (.slice none 0 0)),.p (.aV es)=>es=[]
 | .row e sz es,.row e' sz' es'=>e=e'/\sz=sz'/\kV es es'
 | .p (.aV a),.p (.aV b)=>kV a b
 | .agg a,.agg b=>acn a b
 | .dQ a,.dQ b=>acn a b
 | .p (.agg a),.agg b=>aev a b
 |a,b=>a=b
def acn:List RV->List RV->Prop
 | [],[]=>True
 |a :: r,b :: s=>uE a b/\acn r s
 |_,_=>False
def aev:List PV->List RV->Prop
 | [],[]=>True
 |a :: r,b :: s=>uE (.p a) b/\aev r s
 |_,_=>False
end
theorem xm.aEh{w:World}{B:Nat}{J:Mem}{u:Value}{bs:List Nat}{e:TypeId}{sz:Nat}{es es':List (List PV)}(hl:es.map (·.length)=es'.map (·.length))(hf:sx es.flatten es'.flatten)(h:xm w B J u (.row e sz es) bs):xm w B J u (.row e sz es') bs:=by
 cases h with
 |row _ _ _ _ us h h1 =>
  have hlen:es.length=es'.length:=by have:=congrArg List.length hl;simpa using this
  refine .row u e sz es' us ⟨hlen ▸ h.own,h.pos,λx hx=>?_,λj u c hu hc=>?_,h.one,h.free⟩ h1
  ·obtain⟨i,hi,rfl⟩:=List.getElem_of_mem hx;have h2:(es.map (·.length))[i]? = (es'.map (·.length))[i]?:=by rw[hl]
   have hi':i<es.length:=by omega
   simp only[List.getElem?_map,List.getElem?_eq_getElem hi,List.getElem?_eq_getElem hi',Option.map_some,cv] at h2;rw[<-h2];exact h.all _ (nR hi')
  ·obtain⟨c',q1,q2⟩:=hf.at hc;exact q2 J u (h.val j u c' hu q1)
theorem xm.aCD{w:World}{B:Nat}{J:Mem}{u:Value}{bs:List Nat}(e:TypeId){sz:Nat}(hsz:0<sz)(h:xm w B J u (.p (.val (.slice none 0 0))) bs):xm w B J u (.row e sz []) bs:=(RLe.nil e sz hsz).sound h
theorem xm.aCE{w:World}{B:Nat}{J:Mem}{u:Value}{bs:List Nat}(h:xm w B J u (.p (.val (.slice none 0 0))) bs):xm w B J u (.p (.aV [])) bs:=RLe.aDi.sound h
def RLs(w:World)(B:Nat)(J:Mem)(us:List Value)(rs:List RV)(bs:List (List Nat)):Prop:=us.length=rs.length/\us.length=bs.length/\∀ (j:Nat) u r b,us[j]? = some u->rs[j]? = some r->bs[j]? = some b->xm w B J u r b
theorem RLs.cons{w:World}{B:Nat}{J:Mem}{u:Value}{us:List Value}{r r':RV}{rs rs':List RV}{b:List Nat}{bs:List (List Nat)}(h:RLs w B J (u :: us) (r :: rs) (b :: bs))
  (h1:xm w B J u r b->xm w B J u r' b) (h2:RLs w B J us rs bs->RLs w B J us rs' bs):RLs w B J (u :: us) (r' :: rs') (b :: bs):=by
 obtain⟨a1,a2,a3⟩:=h;obtain⟨c1,c2,c3⟩:=h2 ⟨by simpa using a1,by simpa using a2,λj u r b hu hr hb=>a3 (j+1) u r b (by simpa using hu) (by simpa using hr) (by simpa using hb)⟩;refine⟨by simpa using c1,by simpa using c2,λj u r b hu hr hb=>?_⟩;cases j with
 |zero=>simp at hu hr hb;subst hu hr hb;exact h1 (a3 0 _ _ _ rfl rfl rfl)
 |succ j=>exact c3 j u r b (by simpa using hu) (by simpa using hr) (by simpa using hb)
mutual
theorem ajr:∀ (r t:RV),uE r t->∀ {w:World} {B:Nat} {J:Mem} {u:Value} {bs:List Nat},xm w B J u r bs->xm w B J u t bs:=by
 intro r t h w B J u bs hr;unfold uE at h;split at h
 ·obtain⟨rfl,h2⟩:=h;exact hr.aCD _ h2
 ·subst h;exact hr.aCE
 ·obtain⟨rfl,rfl,h⟩:=h;exact hr.aEh (sB _ _ h).1 (sB _ _ h).2
 ·cases hr with
  |p _ _ hx=>exact .p _ _ ((PLe.aV (sB _ _ h).1 (sB _ _ h).2) _ _ hx)
 ·cases hr with
  |agg us rs bs q1 q2 q3 q4=>obtain⟨c1,c2,c3⟩:=ajs _ _ h (w:=w) (B:=B) (J:=J) ⟨q1,q2,q3⟩;exact .agg us _ bs c1 c2 c3 q4
 ·cases hr with
  |dQ us rs bs q1 q2 q3=>obtain⟨c1,c2,c3⟩:=ajs _ _ h (w:=w) (B:=B) (J:=J) ⟨q1,q2,q3⟩;exact .dQ us _ bs c1 c2 c3
 ·cases hr with
  |p u x hx =>
   cases hx with
   |agg us cs q1 q2 q3 =>
    obtain⟨c1,c2,c3⟩:=aqz _ _ h (w:=w) (B:=B) (J:=J) (us:=us) ⟨q1,q2⟩;have:((us.map λ_=>([]:List Nat))).flatten=[]:=by simp
    have h2:=xm.agg us _ (us.map λ_=>[]) c1 c2 c3 q3;rw[this] at h2;exact h2
 ·subst h;exact hr
termination_by r t=>SizeOf.sizeOf t
theorem ajs:∀ (a b:List RV),acn a b->∀ {w:World} {B:Nat} {J:Mem} {us:List Value} {bs:List (List Nat)},RLs w B J us a bs->RLs w B J us b bs
 | [],[],_,_,_,_,_,_,h=>h
 | [],_ :: _,h,_,_,_,_,_,_=>by unfold acn at h;exact h.elim
 |_ :: _,[],h,_,_,_,_,_,_=>by unfold acn at h;exact h.elim
 |a :: r,b :: s,h,w,B,J,us,bs,hr=>by
  unfold acn at h
  match us,bs,hr with
  |u :: us,c :: bs,hr=>exact hr.cons (ajr a b h.1) (ajs r s h.2)
  | [],_,hr=>have:=hr.1;simp at this
  |_ :: _,[],hr=>have:=hr.2.1;simp at this
termination_by a b=>SizeOf.sizeOf b
theorem aqz:∀ (a:List PV) (b:List RV),aev a b->∀ {w:World} {B:Nat} {J:Mem} {us:List Value},VRs J us a->RLs w B J us b (us.map λ_=>[])
 | [],[],_,_,_,_,us,h=>by
  have h1:us=[]:=by have:=h.1;simpa using this
  subst h1;exact⟨rfl,rfl,λj u r b hu=>by simp at hu⟩
 | [],_ :: _,h,_,_,_,_,_=>by unfold aev at h;exact h.elim
 |_ :: _,[],h,_,_,_,_,_=>by unfold aev at h;exact h.elim
 |a :: r,b :: s,h,w,B,J,us,hr=>by
  unfold aev at h
  match us,hr with
  |u :: us,hr =>
   have ih:=aqz r s h.2 (w:=w) (B:=B) (J:=J) (us:=us) ⟨by have:=hr.1;simpa using this,λj u c hu hc=>hr.2 (j+1) u c (by simpa using hu) (by simpa using hc)⟩;have h1:=ajr (.p a) b h.1 (w:=w) (B:=B) (.p u a (hr.2 0 u a rfl rfl));refine⟨by simpa using ih.1,by simp,λj u r b hu hr hb=>?_⟩;cases j with
   |zero=>simp at hu hr hb;subst hu hr hb;exact h1
   |succ j=>exact ih.2.2 j u r b (by simpa using hu) (by simpa using hr) (by simpa using hb)
  | [],hr=>have:=hr.1;simp at this
termination_by a b=>SizeOf.sizeOf b
end
theorem br.tK{P:Program}{f:FuncId}{args:List PV}{t:RV}(h:br P f args (λv=>uE v t)):br P f args (λv=>v=t):=⟨h.1,λI w vs hI hv=>(h.2 I w vs hI hv).mono λ_ _ ⟨v,r,bs,I',h1,h2,h3,h4⟩=>⟨v,t,bs,I',h1,rfl,ajr r t h2 h3,h4⟩⟩
theorem axD(a b:List PV):tJ (.agg a) (.agg b)=qg a b:=by simp only[tJ]
theorem axE(a b:List PV):tJ (.dQ a) (.dQ b)=qg a b:=by simp only[tJ]
theorem axF(es:List (List PV)):tJ (.val (.slice none 0 0)) (.aV es)=(es=[]):=by simp only[tJ]
theorem axG(a b:List (List PV)):tJ (.aV a) (.aV b)=kV a b:=by simp only[tJ]
theorem alL(a b:Value):tJ (.val a) (.val b)=(a=b):=by unfold tJ;split<;>first|(rename_i h _;cases h;done)|(rename_i h;cases h;done)|simp_all
mutual
theorem ath:∀a:PV,tJ a a
 | .agg a=>by simp only[tJ];exact gD a
 | .dQ a=>by simp only[tJ];exact gD a
 | .val v=>by rw[alL]
 | .aV a=>by simp only[tJ];exact xy a
 | .emp=>by simp only[tJ]
 | .dW _ _=>by simp only[tJ]
 | .ir _ _ _=>by simp only[tJ]
theorem gD:∀a:List PV,qg a a
 | []=>by unfold qg;trivial
 |a :: r=>by unfold qg;exact⟨ath a,gD r⟩
@[refl] theorem xy:∀a:List (List PV),kV a a
 | []=>by unfold kV;trivial
 |a :: r=>by unfold kV;exact⟨gD a,xy r⟩
end
theorem aoO(a:List (List PV)):kV a a=True:=eq_true (xy a)
theorem aoP(a b:List PV)(r s:List (List PV)):kV (a :: r) (b :: s)=(qg a b/\kV r s):=by simp only[kV]
attribute [go_sem] aoO aoP
theorem axH:qg [] []=True:=by simp only[qg]
theorem ati(a b:PV)(r s:List PV):qg (a :: r) (b :: s)=(tJ a b/\qg r s):=by simp only[qg]
theorem axI(a b:List RV):uE (.agg a) (.agg b)=acn a b:=by simp only[uE]
theorem axJ(a b:List RV):uE (.dQ a) (.dQ b)=acn a b:=by simp only[uE]
theorem atj(a:List PV)(b:List RV):uE (.p (.agg a)) (.agg b)=aev a b:=by simp only[uE]
theorem alM(e:TypeId)(sz:Nat)(es:List (List PV)):uE (.p (.val (.slice none 0 0))) (.row e sz es)=(es=[]/\0<sz):=by simp only[uE]
theorem alN(es:List (List PV)):uE (.p (.val (.slice none 0 0))) (.p (.aV es))=(es=[]):=by simp only[uE]
theorem axK(e e':TypeId)(sz sz':Nat)(es es':List (List PV)):uE (.row e sz es) (.row e' sz' es')=(e=e'/\sz=sz'/\kV es es'):=by simp only[uE]
theorem axL(a b:Value):uE (.p (.val a)) (.p (.val b))=(a=b):=by unfold uE;split<;>first|(rename_i h _;cases h;done)|(rename_i h;cases h;done)|simp_all
theorem axM(a b:List (List PV)):uE (.p (.aV a)) (.p (.aV b))=kV a b:=by simp only[uE]
theorem axN:acn [] []=True:=by simp only[acn]
theorem atk(a b:RV)(r s:List RV):acn (a :: r) (b :: s)=(uE a b/\acn r s):=by simp only[acn]
theorem axO:aev [] []=True:=by simp only[aev]
theorem atl(a:PV)(b:RV)(r:List PV)(s:List RV):aev (a :: r) (b :: s)=(uE (.p a) b/\aev r s):=by simp only[aev]
attribute [go_sem] axD axE axF axG alL axH ati axI axJ atj alM alN axK axL axM axN atk axO atl /-! ### aJA -/
section
variable{σ O:Type}
def bZ(f:Nat->σ->(σ->Option O)->(σ->Option O)->Option O):Nat->Nat->σ->(σ->Option O)->Option O
 |0,_,s,K=>K s
 |k+1,i,s,K=>f i s (λs'=>bZ f k (i+1) s' K) K
def iter(f:σ->(σ->Option O)->(σ->Option O)->Option O):Nat->σ->(σ->Option O)->Option O
 |0,_,_=>none
 |k+1,s,K=>f s (λs'=>iter f k s' K) K
end
def fuel:Nat:=4611686018427387904
section
variable{P:Program}{N:Nat}{own:List Nat}{σ γ O:Type}{c:Code}{K:qk}{env:Env}{H:ay}
def sC(R:Env->ay->Prop)(K:qk):qk:=λe env H=>match e with
 | .normal=>R env H
 |e=>K e env H
theorem ajt{R:Env->ay->Prop} : sC R K .normal env H=R env H:=rfl
theorem aoQ{R:Env->ay->Prop}{id:Nat} : sC R K (.exit id) env H=K (.exit id) env H:=rfl
theorem atm{R:Env->ay->Prop} : sC R K .ret env H=K .ret env H:=rfl
attribute [go_sem] ajt aoQ atm
def alO(inv:σ×γ->Env)(jR:σ×γ->ay)(Nx:σ->Prop)(e:Env)(H:ay):Prop:=∃s' g,Nx s'/\cU e H (inv (s',g)) (jR (s',g))
theorem alP{inv:σ×γ->Env}{jR:σ×γ->ay}{Nx:σ->Prop}{e:Env}{H:ay}(s':σ)(g:γ)(h:Nx s')(hw:cU e H (inv (s',g)) (jR (s',g))):alO inv jR Nx e H:=⟨s',g,h,hw⟩
theorem afE{R R':Env->ay->Prop}(h:∀e H,R e H↔R' e H):sC R K=(λz e' H'=>match z with
  | .normal=>R' e' H'
  |z=>K z e' H'):=by
 funext z e' H';cases z<;>first|rfl|exact propext (h e' H')
theorem atn{f:σ->(σ->Option O)->(σ->Option O)->Option O}{Kf:σ->Option O}{r:O}(inv:σ×γ->Env)(jR:σ×γ->ay)(g0:γ){k:Nat}{s:σ}(h:iter f k s Kf=some r)
  (hw:cU env H (inv (s,g0)) (jR (s,g0)))
  (hr:∀s g (cz:σ->Option O) (Nx:σ->Prop),(∀s',cz s'=some r->Nx s')->f s cz Kf=some r->cw P N own c (sC (alO inv jR Nx) K) (inv (s,g)) (jR (s,g))):aaV P N own c K env H:=by
 refine⟨λn e H=>∃s g,iter f n s Kf=some r/\e=inv (s,g)/\H=jR (s,g),⟨k,_,_,⟨s,g0,h,rfl,rfl⟩,hw⟩,?_⟩;rintro n e H ⟨s,g,hs,rfl,rfl⟩;cases n with
 |zero=>cases hs
 |succ n =>
  have:=hr s g _ (λs'=>∃m,m<n+1/\iter f m s' Kf=some r) (λs' h'=>⟨n,Nat.lt_succ_self n,h'⟩) hs;rw[afE (R':=λe' H'=>∃m e2 H2,m<n+1/\(∃s g,iter f m s Kf=some r/\e2=inv (s,g)/\H2=jR (s,g))/\cU e' H' e2 H2)] at this
  ·exact this
  ·intro e' H';constructor
   ·rintro⟨s',g',⟨m,h1,h2⟩,h3⟩;exact⟨m,_,_,h1,⟨s',g',h2,rfl,rfl⟩,h3⟩
   ·rintro⟨m,e2,H2,h1,⟨s',g',h2,rfl,rfl⟩,h3⟩;exact⟨s',g',⟨m,h1,h2⟩,h3⟩
theorem ato{f:Nat->σ->(σ->Option O)->(σ->Option O)->Option O}{Kf:σ->Option O}{r:O}(inv:(Nat×σ)×γ->Env)(jR:(Nat×σ)×γ->ay)(g0:γ){n i:Nat}{s:σ}(h:bZ f (n-i) i s Kf=some r)
  (hw:cU env H (inv ((i,s),g0)) (jR ((i,s),g0)))
  (hr:∀j s g (cz:σ->Option O) (Nx:Nat×σ->Prop),j<n->(∀s',cz s'=some r->Nx (j+1,s'))->f j s cz Kf=some r->cw P N own c (sC (alO inv jR Nx) K) (inv ((j,s),g)) (jR ((j,s),g)))
  (he:∀j s g (Nx:Nat×σ->Prop),n<=j->Kf s=some r->cw P N own c (sC (alO inv jR Nx) K) (inv ((j,s),g)) (jR ((j,s),g))):aaV P N own c K env H:=by
 refine⟨λm e H=>∃ (x:Nat×σ) (g:γ),(n-x.1=m/\bZ f (n-x.1) x.1 x.2 Kf=some r)/\e=inv (x,g)/\H=jR (x,g),⟨n-i,_,_,⟨(i,s),g0,⟨rfl,h⟩,rfl,rfl⟩,hw⟩,?_⟩;rintro m e H ⟨⟨j,s⟩,g,⟨hm,hs⟩,rfl,rfl⟩;have key:∀R:Nat×σ->Prop,(∀x,R x↔n-x.1<m/\bZ f (n-x.1) x.1 x.2 Kf=some r)->∀e' H',alO inv jR R e' H'↔∃m' e2 H2,m'<m/\(∃ (x:Nat×σ) (g:γ),(n-x.1=m'/\bZ f (n-x.1) x.1 x.2 Kf=some r)/\e2=inv (x,g)/\H2=jR (x,g))/\cU e' H' e2 H2:=by
  intro R hR e' H';constructor
  ·rintro⟨x,g',h1,h3⟩;obtain⟨h1,h2⟩:=(hR x).1 h1;exact⟨_,_,_,h1,⟨x,g',⟨rfl,h2⟩,rfl,rfl⟩,h3⟩
  ·rintro⟨m',e2,H2,h1,⟨x,g',⟨h4,h2⟩,rfl,rfl⟩,h3⟩;exact⟨x,g',(hR x).2 ⟨by omega,h2⟩,h3⟩
 simp only at hm hs;by_cases hj:j<n
 ·obtain⟨k,hk⟩:∃k,n-j=k+1:=⟨n-j-1,by omega⟩;have hk':n-(j+1)=k:=by omega
  rw[hk] at hs;have:=hr j s g _ (λx=>n-x.1<m/\bZ f (n-x.1) x.1 x.2 Kf=some r) hj (λs' h'=>⟨by simp only;omega,by simp only[hk'];exact h'⟩) hs;rw[afE (key _ λx=>Iff.rfl)] at this;exact this
 ·have h0:n-j=0:=by omega
  rw[h0] at hs;have:=he j s g (λx=>n-x.1<m/\bZ f (n-x.1) x.1 x.2 Kf=some r) (by omega) hs;rw[afE (key _ λx=>Iff.rfl)] at this;exact this
end
theorem aAU{P:Program}{N:Nat}{own:List Nat}{σ γ O:Type}{c:Code}{K:qk}{env:Env}{H:ay}{f:σ->(σ->Option O)->(σ->Option O)->Option O}{Kf:σ->Option O}{r:O}(inv:σ×γ->Env)(jR:σ×γ->ay)(g0:γ){k:Nat}{s:σ}(h:iter f k s Kf=some r)
  (hw:cU env H (inv (s,g0)) (jR (s,g0)))
  (hr:∀s g (cz:σ->Option O) (R:Env->ay->Prop),(∀s' g' {e H},cz s'=some r->cU e H (inv (s',g')) (jR (s',g'))->R e H)->f s cz Kf=some r->cw P N own c (sC R K) (inv (s,g)) (jR (s,g))):aaV P N own c K env H :=
 atn inv jR g0 h hw λs g cz Nx hN hf=>hr s g cz _ (λs' g' _ _ h1 h2=>alP s' g' (hN s' h1) h2) hf
theorem aAV{P:Program}{N:Nat}{own:List Nat}{σ γ O:Type}{c:Code}{K:qk}{env:Env}{H:ay}{f:Nat->σ->(σ->Option O)->(σ->Option O)->Option O}{Kf:σ->Option O}{r:O}(inv:(Nat×σ)×γ->Env)(jR:(Nat×σ)×γ->ay)(g0:γ){n i:Nat}{s:σ}(h:bZ f (n-i) i s Kf=some r)
  (hw:cU env H (inv ((i,s),g0)) (jR ((i,s),g0)))
  (hr:∀j s g (cz:σ->Option O) (R:Env->ay->Prop),j<n->(∀s' g' {e H},cz s'=some r->cU e H (inv ((j+1,s'),g')) (jR ((j+1,s'),g'))->R e H)->f j s cz Kf=some r->cw P N own c (sC R K) (inv ((j,s),g)) (jR ((j,s),g)))
  (he:∀j s g (R:Env->ay->Prop),n<=j->Kf s=some r->cw P N own c (sC R K) (inv ((j,s),g)) (jR ((j,s),g))):aaV P N own c K env H :=
 ato inv jR g0 h hw (λj s g cz Nx hj hN hf=>hr j s g cz _ hj (λs' g' _ _ h1 h2=>alP (j+1,s') g' (hN s' h1) h2) hf) (λj s g Nx hj hk=>he j s g _ hj hk)
section
variable{P:Program}{env:Env}{H:ay}{o:Oper}{W:Env->ay->Prop}{k:FuncId}{ps ps':List PV}{b:Bool}
theorem br.args{f:FuncId}{ps ps':List PV}{Q:RV->Prop}(h:br P f ps Q)(hp:sx ps' ps):br P f ps' Q:=⟨h.1,λI w vs hI hv=>h.2 I w vs hI (hp.vrs hv)⟩
theorem alQ{x:PV}(c:aS P k ps λr=>r=x)(he:jS o (ev env) H=some (k,ps',b))(hp:qg ps' ps)(hb:b=true->x.scalar=true)
  (hW:W (cI env o.dst (.p x)) H):jm P o W env H:=aY (c.args (rZ _ _ hp)) he hb hW
theorem aoR{x:PV}(c:aS P k ps λr=>r=x)(he:jS o (ev env) H=some (k,ps',b))(hp:qg ps' ps)(hb:b=true->x.scalar=true)
  (hW:W (cI env o.dst (.p x)) H):ahD P o W env H:=jD (c.args (rZ _ _ hp)) he hb hW
end
section
variable{P:Program}{t:TypeId}{kk:IntKind}{n:Int}{H:ay}
def axP(a:Option (Nat×TypeId))(f:TypeId->Option Nat)(n:Int)(mk:Nat->AV)(H:ay):Option (Prop×AV×ay):=match a with
 |some (len,e)=>(match f e with
  |some sz=>some (0<=n/\n<len,mk (n.toNat * sz),H)
  |none=>none)
 |none=>none
theorem alR{cs:List PV}{off:Nat} : oZ P t (.p (.dW cs off)) (.p (.val (.int kk n))) H=axP (wo P t) (bz P) n (λo=>.p (.dW cs (off+o))) H:=by
 unfold oZ oV axP up3;cases wo P t with
 |none=>rfl
 |some r=>obtain⟨len,e⟩:=r;simp only;cases bz P e<;>rfl
theorem aoS{id off:Nat} : oZ P t (.ptr id off) (.p (.val (.int kk n))) H=axP (wo P t) (bz P) n (λo=>.ptr id (off+o)) H:=by
 unfold oZ oV axP up3;cases wo P t with
 |none=>rfl
 |some r=>obtain⟨len,e⟩:=r;simp only;cases bz P e<;>rfl
theorem atp{len:Nat}{e:TypeId}{f:TypeId->Option Nat}{mk:Nat->AV} : axP (some (len,e)) f n mk H=(match f e with
  |some sz=>some (0<=n/\n<len,mk (n.toNat * sz),H)
  |none=>none):=rfl
attribute [go_sem] alR aoS atp
end
mutual
def oo:AV->AV->Prop
 | .p a,.p b=>tJ a b
 | .agg a,.agg b=>sD a b
 | .dQ a,.dQ b=>sD a b
 |a,b=>a=b
def sD:List AV->List AV->Prop
 | [],[]=>True
 |a :: r,b :: s=>oo a b/\sD r s
 |_,_=>False
end
theorem aCF(a b:PV):oo (.p a) (.p b)=tJ a b:=by simp only[oo]
theorem axQ(i v j u:Nat):oo (.row i v) (.row j u)=(i=j/\v=u):=by simp only[oo,AV.row.injEq]
theorem axR(i v j u:Nat):oo (.ptr i v) (.ptr j u)=(i=j/\v=u):=by simp only[oo,AV.ptr.injEq]
theorem axS(f g:Fn)(a b c d:List AV):oo (.ir f a b) (.ir g c d)=(f=g/\a=c/\b=d):=by simp only[oo,AV.ir.injEq]
theorem atq(i v j u:Nat):oo (.eO i v) (.eO j u)=(i=j/\v=u):=by simp only[oo,AV.eO.injEq]
theorem atr:sD [] []=True:=by simp only[sD]
theorem aoT(a b:AV)(r s:List AV):sD (a :: r) (b :: s)=(oo a b/\sD r s):=by simp only[sD]
theorem tZ:∀ {as' bs:List AV},sD as' bs->as'.length=bs.length/\∀ (j:Nat) a b,as'[j]? = some a->bs[j]? = some b->oo a b
 | [],[],_=>⟨rfl,λj a b h=>by simp at h⟩
 |a :: r,b :: s,h=>by
  unfold sD at h;obtain⟨h1,h2⟩:=tZ h.2;refine⟨by simp[h1],λj x y hx hy=>?_⟩;cases j with
  |zero=>simp at hx hy;subst hx hy;exact h.1
  |succ j=>exact h2 j x y (by simpa using hx) (by simpa using hy)
 | [],_ :: _,h=>by unfold sD at h;exact h.elim
 |_ :: _,[],h=>by unfold sD at h;exact h.elim
theorem aco{I:Mem}{L:bB}{u:Value}{a:AV}(h:eC I L u a):∀ {b:AV},oo a b->eC I L u b:=by
 induction h with
 |p u x h =>
  intro b hb;unfold oo at hb;split at hb
  ·rename_i e;cases e;exact .p _ _ (ajq _ _ hb _ _ h)
  ·rename_i e;cases e
  ·rename_i e;cases e
  ·subst hb;exact .p _ _ h
 |agg us cs hl hv hone ih =>
  intro b hb;unfold oo at hb;split at hb
  ·rename_i e;cases e
  ·rename_i e;cases e;obtain⟨q1,q2⟩:=tZ hb;refine .agg us _ (hl.trans q1) (λj u c hu hc=>?_) hone;obtain⟨a,ha⟩:∃a,cs[j]? = some a:=by have hj:j<us.length:=(List.getElem?_eq_some_iff.1 hu).1;exact⟨cs[j]'(by omega),by simp[hl ▸ hj]⟩
   exact ih j u a hu ha (q2 j a c ha hc)
  ·rename_i e;cases e
  ·subst hb;exact .agg us cs hl hv hone
 |dQ us cs hl hv ih =>
  intro b hb;unfold oo at hb;split at hb
  ·rename_i e;cases e
  ·rename_i e;cases e
  ·rename_i e;cases e;obtain⟨q1,q2⟩:=tZ hb;refine .dQ us _ (hl.trans q1) (λj u c hu hc=>?_);obtain⟨a,ha⟩:∃a,cs[j]? = some a:=by have hj:j<us.length:=(List.getElem?_eq_some_iff.1 hu).1;exact⟨cs[j]'(by omega),by simp[hl ▸ hj]⟩
   exact ih j u a hu ha (q2 j a c ha hc)
  ·subst hb;exact .dQ us cs hl hv
 |row u id bf v bI sz hl hle h h1=>intro b hb;unfold oo at hb;subst hb;exact .row u id bf v bI sz hl hle h h1
 |ptr id b' off hl=>intro b hb;unfold oo at hb;subst hb;exact .ptr id b' off hl
 |jj u id bf v i off bI sz hl hle h h1=>intro b hb;unfold oo at hb;subst hb;exact .jj u id bf v i off bI sz hl hle h h1
 |ir fn us vs fs cs hl hl' hv wk=>intro b hb;unfold oo at hb;subst hb;exact .ir fn us vs fs cs hl hl' hv wk
 |dead u=>intro b hb;unfold oo at hb;subst hb;exact .dead u
 |bsl id b n hl=>intro b hb;unfold oo at hb;subst hb;exact .bsl _ _ _ hl
 |iy a id bf v off n m c bI sz hl hle hn hm hz h=>intro b hb;unfold oo at hb;subst hb;exact .iy _ id bf v off n _ _ bI sz hl hle hn hm hz h
 |eO u id bf v bI sz sz' di n hl hle h h1=>intro b hb;unfold oo at hb;subst hb;exact .eO u id bf v bI sz sz' di n hl hle h h1
 |kH u id bf v i off bI sz sz' di n hl hle h h1=>intro b hb;unfold oo at hb;subst hb;exact .kH u id bf v i off bI sz sz' di n hl hle h h1
 |kI u id bf v i bI sz sz' di n hl hle h h1=>intro b hb;unfold oo at hb;subst hb;exact .kI u id bf v i bI sz sz' di n hl hle h h1
 |nj u id bf v i j off bI sz sz' di n hl hle h h1=>intro b hb;unfold oo at hb;subst hb;exact .nj u id bf v i j off bI sz sz' di n hl hle h h1
def pW:List (Nat×AV)->Env
 | []=>fT
 |(d,v) :: r=>cE (pW r) d v
def b7:List (Nat×Chunk)->ay
 | []=>ck
 |(d,c) :: r=>bk (b7 r) d c
theorem axT:pW []=fT:=rfl
theorem att(d:Nat)(v:AV)(r:List (Nat×AV)):pW ((d,v) :: r)=cE (pW r) d v:=rfl
theorem atu:b7 []=ck:=rfl
theorem aoU(d:Nat)(c:Chunk)(r:List (Nat×Chunk)):b7 ((d,c) :: r)=bk (b7 r) d c:=rfl
def aoV(e:Env):List (Nat×AV)->Prop
 | []=>True
 |(d,v) :: r=>oo (e d) v/\aoV e r
def aju:Option Chunk->Chunk->Prop
 |some (.box cs),.box ds=>sD cs ds
 |some c,d=>c=d
 |none,_=>False
def aby(H:ay):List (Nat×Chunk)->Prop
 | []=>True
 |(d,c) :: r=>aju (H d) c/\aby H r
def aoW(G:ay):List (Nat×AV)->Prop
 | []=>True
 |(_,v) :: r=>pg G v/\aoW G r
def yA(G:ay):List (Nat×Chunk)->Prop
 | []=>True
 |(_,.box cs) :: r=>mU G cs/\yA G r
 |_ :: r=>yA G r
theorem axU(e:Env):aoV e []=True:=rfl
theorem atv(e:Env)(d:Nat)(v:AV)(r:List (Nat×AV)):aoV e ((d,v) :: r)=(oo (e d) v/\aoV e r):=rfl
theorem axV(cs ds:List AV):aju (some (.box cs)) (.box ds)=sD cs ds:=rfl
theorem atw(v:Nat)(e:TypeId)(sz k:Nat)(f:TypeId)(sy:Nat)(es:List (List PV))(v':Nat)(e':TypeId)(sz' k':Nat)(f':TypeId)(sy':Nat)(es':List (List PV)):aju (some (.deep v e sz k f sy es)) (.deep v' e' sz' k' f' sy' es')=(v=v'/\e=e'/\sz=sz'/\k=k'/\f=f'/\sy=sy'/\es=es'):=by simp only[aju,Chunk.deep.injEq]
theorem atx(G:ay)(d v:Nat)(e:TypeId)(sz k:Nat)(f:TypeId)(sy:Nat)(es:List (List PV))(r:List (Nat×Chunk)):yA G ((d,.deep v e sz k f sy es) :: r)=yA G r:=rfl
theorem axW(v:Nat)(e:TypeId)(sz:Nat)(es:List (List PV))(v':Nat)(e':TypeId)(sz':Nat)(es':List (List PV)):aju (some (.row v e sz es)) (.row v' e' sz' es')=(v=v'/\e=e'/\sz=sz'/\es=es'):=by simp only[aju,Chunk.row.injEq]
theorem axX(H:ay):aby H []=True:=rfl
theorem aty(H:ay)(d:Nat)(c:Chunk)(r:List (Nat×Chunk)):aby H ((d,c) :: r)=(aju (H d) c/\aby H r):=rfl
theorem axY(G:ay):aoW G []=True:=rfl
theorem atz(G:ay)(d:Nat)(v:AV)(r:List (Nat×AV)):aoW G ((d,v) :: r)=(pg G v/\aoW G r):=rfl
theorem axZ(G:ay):yA G []=True:=rfl
theorem ax0(G:ay)(d:Nat)(cs:List AV)(r:List (Nat×Chunk)):yA G ((d,.box cs) :: r)=(mU G cs/\yA G r):=rfl
theorem ax1(G:ay)(d:Nat)(v:Nat)(e:TypeId)(sz:Nat)(es:List (List PV))(r:List (Nat×Chunk)):yA G ((d,.row v e sz es) :: r)=yA G r:=rfl
theorem aAW(G:ay)(x:PV):pg G (.p x)=True:=by simp only[pg]
theorem ahT(G:ay)(i v:Nat):pg G (.row i v)=(G i≠none):=by simp only[pg]
theorem ahU(G:ay)(i v:Nat):pg G (.ptr i v)=(G i≠none):=by simp only[pg]
theorem afF(G:ay)(i v:Nat):pg G (.eO i v)=(G i≠none):=by simp only[pg]
theorem atA(G:ay)(f:Fn)(fs cs:List AV):pg G (.ir f fs cs)=(mU G fs/\mU G cs):=by simp only[pg]
theorem aoX(G:ay):mU G []=True:=by simp only[mU]
theorem alS(G:ay)(a:AV)(r:List AV):mU G (a :: r)=(pg G a/\mU G r):=by simp only[mU]
theorem aCG(H':ay):lU ck H'=True:=eq_true (aBL H')
theorem ax2{H H':ay}{i:Nat}{c:Chunk}(hi:i<1000000):lU (bk H i c) H'=lU H H':=by refine propext ⟨λh j hj hn=>h j hj ?_,akN hi⟩;unfold bk;rw[if_neg (by omega)];exact hn
attribute [go_sem] atq atw atx afF aCF axQ axR axS atr aoT axT att atu aoU axU atv axV axW axX aty axY atz axZ ax0 ax1 aAW ahT ahU atA aoX alS aCG ax2
theorem aqA{e:Env} : ∀ {l:List (Nat×AV)},aoV e l->∀t,pW l t = .dead\/oo (e t) (pW l t)
 | [],_,t=>.inl rfl
 |(d,v) :: r,h,t=>by
  unfold pW cE;split
  ·rename_i ht;subst ht;exact .inr h.1
  ·exact aqA h.2 t
theorem acp{H:ay} : ∀ {l:List (Nat×Chunk)},aby H l->∀i c',b7 l i=some c'->∃c,H i=some c/\aju (some c) c'
 | [],_,i,c',h=>by cases h
 |(d,v) :: r,h,i,c',hi=>by
  unfold b7 bk at hi;split at hi
  ·rename_i ht;subst ht;simp only[cv] at hi;subst hi;have h1:=h.1;cases hH:H i with
   |none=>rw[hH] at h1;exact h1.elim
   |some c=>rw[hH] at h1;exact⟨c,rfl,h1⟩
  ·exact acp h.2 i c' hi
theorem aqB{G:ay} : ∀ {l:List (Nat×AV)},aoW G l->adf (pW l) G
 | [],_,t=>trivial
 |(d,v) :: r,h,t=>by
  unfold pW cE;split
  ·exact h.1
  ·exact aqB h.2 t
theorem ajv{G:ay} : ∀ {l:List (Nat×Chunk)},yA G l->ql (b7 l) G
 | [],_,i,cs,h=>by cases h
 |(d,c) :: r,h,i,cs,hi=>by
  have hr:yA G r:=by
   cases c with
   |box cs=>exact h.2
   |row=>exact h
   |shut=>exact h
   |tail=>exact h
   |deep=>exact h
  unfold b7 bk at hi;split at hi
  ·simp only[cv] at hi;subst hi;exact h.1
  ·exact ajv hr i cs hi
theorem yb{e:Env}{H:ay}{l:List (Nat×AV)}{hl:List (Nat×Chunk)}(h:aoV e l/\aby H hl/\aoW (b7 hl) l/\yA (b7 hl) hl/\lU H (b7 hl)):cU e H (pW l) (b7 hl):=λC I L tm w hs=>by
 obtain⟨h1,h2,h3,h4,h5⟩:=h;have w0:cU e H e H:=cU.refl _ _;refine⟨I,L.to (b7 hl),?_⟩;exact
 {below:=hs.below
  mem:=hs.mem
  kT:=hs.kT
  lS:=hs.lS
  frame:=hs.frame
  loc:=λi=>by
   cases hi:C.L0 i with
   |none=>trivial
   |some l0 =>
    have h0:=hs.loc i;rw[hi] at h0;have hL:L i≠none:=by
     cases l0 with
     |box b=>intro e;rw[e] at h0;cases h0
     |row v bI sz=>obtain⟨_,_,h0,_⟩:=h0;intro e;rw[e] at h0;cases h0
     |deep v bI sz sz' di n=>obtain⟨_,_,_,_,h0,_⟩:=h0;intro e;rw[e] at h0;cases h0
    have hH:H i≠none:=by
     cases hLi:L i with
     |none=>exact absurd hLi hL
     |some l=>obtain⟨c,hc⟩:=hs.dom i l hLi;rw[hc];simp
    have e:=lN (L:=L) (h5 i (C.hL0 i l0 hi) hH);rw[e];exact h0
  jy:=λid l b hl hb=>hs.jy id l b (to_eq hl).1 hb
  size:=hs.size
  env:=λt=>by
   rcases aqA h1 t with h|h
   ·rw[h];exact .dead _
   ·exact (aco (hs.env t) h).to (aqB h3 t)
  dom:=λid l hl=>(to_eq hl).2
  chunk:=λid ch hch=>by
   obtain⟨c,hc1,zc⟩:=acp h2 id ch hch;have hc:=hs.chunk id c hc1;have hid:L.to (b7 hl) id=L id:=lN (by rw[hch];simp);cases c with
   |box cs =>
    cases ch with
    |box ds =>
     have hq:sD cs ds:=zc;obtain⟨q1,q2⟩:=tZ hq;obtain⟨b,arr,e,g1,g2,g3,g4,g5,g6⟩:=hc;refine⟨b,arr,e,hid.trans g1,g2,g3.trans q1,λj u c hu hc=>?_,g5,g6⟩;obtain⟨a,ha⟩:∃a,cs[j]? = some a:=by have hj:j<arr.size:=(Array.getElem?_eq_some_iff.1 hu).1;exact⟨cs[j]'(by omega),by simp[g3 ▸ hj]⟩
     exact (aco (g4 j u a hu ha) (q2 j a c ha hc)).to (oe (ajv h4 id ds hch) j c hc)
    |row=>cases zc
    |shut=>cases zc
    |tail=>cases zc
    |deep=>cases zc
   |row bf e sz es =>
    have hq:Chunk.row bf e sz es=ch:=by cases ch<;>exact zc
    subst hq;obtain⟨bI,us,g1,g2⟩:=hc;exact⟨bI,us,hid.trans g1,g2⟩
   |shut bf es =>
    have hq:Chunk.shut bf es=ch:=by cases ch<;>exact zc
    subst hq;obtain⟨bI,sz,g1,g2⟩:=hc;exact⟨bI,sz,hid.trans g1,g2⟩
   |tail bf e sz es =>
    have hq:Chunk.tail bf e sz es=ch:=by cases ch<;>exact zc
    subst hq;obtain⟨g,o,cap,arr,g1,g2⟩:=hc;exact⟨g,o,cap,arr,hid.trans g1,g2⟩
   |deep bf e sz k e' sz' es =>
    have hq:Chunk.deep bf e sz k e' sz' es=ch:=by cases ch<;>exact zc
    subst hq;obtain⟨bI,us,di,g1,g2⟩:=hc;exact⟨bI,us,di,hid.trans g1,g2⟩
  fL:=λid l b hl hb=>hs.fL id l b (to_eq hl).1 hb
  apart:=λi j li lj b hi hj qX uY=>hs.apart i j li lj b (to_eq hi).1 (to_eq hj).1 qX uY }
theorem atB{own:List Nat}{env:Env}{d:Option Tmp}{t:TypeId}{pos:String}{af:Array Edge}{g:Option (Nat×Bool)}(a:Nat)(s:Operand)(t1 t2:TypeId) :
  ahE own ⟨d,.call ⟨.builtin .append,#[.tmp a,s],#[t1,t2]⟩,t,pos,af,g⟩ env=((∃v,env a = .row (pS own a) v)/\∃x,ev env s = .p x):=rfl
theorem aCH(i j v:Nat):(∃u,AV.row i v = .row j u)=(i=j):=by
 apply propext;constructor
 ·rintro⟨u,h⟩;cases h;rfl
 ·rintro rfl;exact⟨v,rfl⟩
attribute [go_sem] atB aCH exists_eq'
section
variable{P:Program}{env:Env}{H:ay}{o:Oper}{W:Env->ay->Prop}{k:FuncId}{ps ps':List PV}{b:Bool}
theorem aCI(id:Nat){r:RV}(c:br P k ps λx=>x=r)(he:jS o (ev env) H=some (k,ps',b))(hp:qg ps' ps)(hb:b=true->r.flat=true)
  (hf:lV H id ((cO id r).2-id)) (hW:W (cI env o.dst (cO id r).1) (gi id H r)):jm P o W env H:=wF id (c.args (rZ _ _ hp)) he hb hf hW
theorem aCJ(ids:List Nat){x:PV}(c:aS P k ps λr=>r=x)(he:jS o (ev env) (dg ids H)=some (k,ps',b))(hp:qg ps' ps)(hb:b=true->x.scalar=true)
  (hW:W (cI env o.dst (.p x)) (dg ids H)):jm P o W env H:=asD ids (c.args (rZ _ _ hp)) he hb hW
theorem aAX(ids:List Nat)(id:Nat){r:RV}(c:br P k ps λx=>x=r)(he:jS o (ev env) (dg ids H)=some (k,ps',b))(hp:qg ps' ps)(hb:b=true->r.flat=true)
  (hf:lV (dg ids H) id ((cO id r).2-id)) (hW:W (cI env o.dst (cO id r).1) (gi id (dg ids H) r)):jm P o W env H:=aos ids id (c.args (rZ _ _ hp)) he hb hf hW
end
def giv{α:Type}(p:Prop) [Decidable p](x:α):Option α:=if p then some x else none
theorem sE{α:Type}{p:Prop} [Decidable p]{x r:α}(h:giv p x=some r):p/\x=r:=by
 unfold giv at h;split at h
 ·exact⟨by assumption,by simpa using h⟩
 ·cases h
variable{P:Program}{I:Mem}{L:bB}
def Ctx.acq(w:World)(I:Mem)(n B:Nat)(L0:bB)(hB:B<=w.heap.size)(hL:∀i l,L0 i=some l->1000000<=i):Ctx:=⟨w,I,n,B,λb=>∃i l,L0 i=some l/\l.has b,L0,hB,hL⟩
def ad7(P:Program)(f:FuncId)(G:ay)(eR:List AV)(Q:AV->ay->Prop):Prop :=
 gZ P f=true/\∀ (B:Nat) (I:Mem) (L0:bB) (w:World) (vs:List Value) (hB:B<=w.heap.size) (hL:∀i l,L0 i=some l->1000000<=i),gU (Ctx.acq w I 0 B L0 hB hL) fT G I L0 #[] w->oU I L0 vs eR ->
  Calls P f vs.toArray w λx w'=>∃u a H' I' L',x = .returned u/\Q a H'/\eC I' L' u a/\gU (Ctx.acq w I 0 B L0 hB hL) fT H' I' L' #[] w'
theorem ad7.mono{f:FuncId}{G:ay}{eR:List AV}{Q Q':AV->ay->Prop}(h:ad7 P f G eR Q)(hq:∀a c,Q a c->Q' a c):ad7 P f G eR Q':=⟨h.1,λB I L0 w vs hB hL hs hv=>(h.2 B I L0 w vs hB hL hs hv).mono λ_ _ ⟨u,a,H',I',L',q1,q2,q3⟩=>⟨u,a,H',I',L',q1,hq _ _ q2,q3⟩⟩
def aEi(P:Program)(rs:List ResultVar)(Q:AV->ay->Prop):qk:=λe env H=>match e with
 | .normal | .ret=>(match pe P env H rs with
  |some a=>Q a H
  |none=>False)
 |_=>False
theorem zd{f:FuncId}{fn:Func}{c:Code}{G:ay}{eR:List AV}{Q:AV->ay->Prop}(own:List Nat)(hm:P.follows .mixedOrders=true)(hf:P.funcs[f]? = some fn)(hb:fn.body=some c)
  (hc:gZ P f=true) (hn:eR.length<=fn.ntmps) (h:cw P fn.ntmps own c (aEi P fn.results.toList Q) (ad1 eR) G):ad7 P f G eR Q:=by
 refine⟨hc,λB I L0 w vs hB hL hs0 hv=>calls_of_wp hf hb ?_⟩;let C:Ctx:=Ctx.acq w I fn.ntmps B L0 hB hL;have hlen:vs.length<=fn.ntmps:=by rw[hv.1];exact hn
 have hs:gU C (ad1 eR) G I L0 (vs.toArray++Array.replicate (fn.ntmps-vs.toArray.size) undef) w :=
  {below:=hs0.below
   mem:=hs0.mem
   kT:=hs0.kT
   lS:=hs0.lS
   frame:=hs0.frame
   loc:=hs0.loc
   jy:=hs0.jy
   size:=by simp only[Array.size_append,List.size_toArray,Array.size_replicate];show vs.length+(fn.ntmps-vs.length)=fn.ntmps;omega
   env:=λt=>by
    unfold ad1;split
    ·rename_i a ha;have htl:t<vs.length:=by have:=(List.getElem?_eq_some_iff.1 ha).1;rw[hv.1];exact this
     have vM:(vs.toArray++Array.replicate (fn.ntmps-vs.toArray.size) undef).getD t undef=vs[t]:=by simp only[Array.getD_eq_getD_getElem?,Array.getElem?_append,List.size_toArray,if_pos htl,List.getElem?_toArray,List.getElem?_eq_getElem htl,Option.getD_some]
     rw[vM];exact hv.2 t _ a (by simp[htl]) ha
    ·exact .dead _
   dom:=hs0.dom
   chunk:=hs0.chunk
   fL:=hs0.fL
   apart:=hs0.apart }
 refine wp_mono (o9 hm c _ C rfl _ _ I L0 _ w h hs) ?_;rintro x a w' ⟨hd,env',H',I',L',hk,hs'⟩;have fin:(match pe P env' H' fn.results.toList with
  |some a=>Q a H'
  |none=>False)->bodyPost P fn (λx w'=>∃u a H' I' L',x = .returned u/\Q a H'/\eC I' L' u a/\gU (Ctx.acq w I 0 B L0 hB hL) fT H' I' L' #[] w') .normal a w':=by
  intro hk;split at hk
  ·rename_i av hav;obtain⟨u,hru,hua⟩:=vp hs' hav;refine⟨hd,u,hru,u,av,H',I',L',rfl,hk,hua,?_⟩;exact
   {below:=hs'.below
    mem:=hs'.mem
    kT:=hs'.kT
    lS:=hs'.lS
    frame:=hs'.frame
    loc:=hs'.loc
    jy:=hs'.jy
    size:=rfl
    env:=λt=>.dead _
    dom:=hs'.dom
    chunk:=hs'.chunk
    fL:=hs'.fL
    apart:=hs'.apart }
  ·exact hk.elim
 cases x with
 |normal=>exact fin hk
 |ret=>exact fin hk
 |exit id=>exact hk.elim
 |goto l=>exact hk.elim
 |panic c=>exact hk.elim
 |outgrown=>exact hk.elim
theorem alT{w:World}{B:Nat}{hl:List (Nat×Chunk)}{id:Nat}{c ch:Chunk}(hc:qh I L w B id c)(zc:aju (some c) ch)(hch:b7 hl id=some ch)(h4:yA (b7 hl) hl):qh I (L.to (b7 hl)) w B id ch:=by
 have hid:L.to (b7 hl) id=L id:=lN (by rw[hch];simp);cases c with
 |box cs =>
  cases ch with
  |box ds =>
   have hq:sD cs ds:=zc;obtain⟨q1,q2⟩:=tZ hq;obtain⟨b,arr,e,g1,g2,g3,g4,g5,g6⟩:=hc;refine⟨b,arr,e,hid.trans g1,g2,g3.trans q1,λj u c hu hc=>?_,g5,g6⟩;obtain⟨a,ha⟩:∃a,cs[j]? = some a:=by have hj:j<arr.size:=(Array.getElem?_eq_some_iff.1 hu).1;exact⟨cs[j]'(by omega),by simp[g3 ▸ hj]⟩
   exact (aco (g4 j u a hu ha) (q2 j a c ha hc)).to (oe (ajv h4 id ds hch) j c hc)
  |row=>cases zc
  |shut=>cases zc
  |tail=>cases zc
  |deep=>cases zc
 |row bf e sz es =>
  have hq:Chunk.row bf e sz es=ch:=by cases ch<;>exact zc
  subst hq;obtain⟨bI,us,g1,g2⟩:=hc;exact⟨bI,us,hid.trans g1,g2⟩
 |shut bf es =>
  have hq:Chunk.shut bf es=ch:=by cases ch<;>exact zc
  subst hq;obtain⟨bI,sz,g1,g2⟩:=hc;exact⟨bI,sz,hid.trans g1,g2⟩
 |tail bf e sz es =>
  have hq:Chunk.tail bf e sz es=ch:=by cases ch<;>exact zc
  subst hq;obtain⟨g,o,cap,arr,g1,g2⟩:=hc;exact⟨g,o,cap,arr,hid.trans g1,g2⟩
 |deep bf e sz k e' sz' es =>
  have hq:Chunk.deep bf e sz k e' sz' es=ch:=by cases ch<;>exact zc
  subst hq;obtain⟨bI,us,di,g1,g2⟩:=hc;exact⟨bI,us,di,hid.trans g1,g2⟩
def over(l:List (Nat×Chunk))(H:ay):ay:=match l with
 | []=>H
 |(d,c) :: r=>bk (over r H) d c
theorem ax3(H:ay):over [] H=H:=rfl
theorem atC(d:Nat)(c:Chunk)(r:List (Nat×Chunk))(H:ay):over ((d,c) :: r) H=bk (over r H) d c:=rfl
theorem ajw(H:ay)(i:Nat):∀l:List (Nat×Chunk),over l H i=match b7 l i with
  |some c=>some c
  |none=>H i
 | []=>rfl
 |(d,c) :: r=>by
  unfold over b7 bk;by_cases hi:i=d
  ·simp[hi]
  ·simp only[if_neg hi];exact ajw H i r
def hiL:List (Nat×Chunk)->Prop
 | []=>True
 |(d,_) :: r=>1000000<=d/\hiL r
def abz(G:ay):List (Nat×Chunk)->Prop
 | []=>True
 |(d,_) :: r=>G d≠none/\abz G r
def newL(G H:ay):List (Nat×Chunk)->Prop
 | []=>True
 |(d,_) :: r=>(G d≠none\/H d=none)/\newL G H r
theorem aAY:hiL []=True:=rfl
theorem ax4(d:Nat)(c:Chunk)(r:List (Nat×Chunk)):hiL ((d,c) :: r)=(1000000<=d/\hiL r):=rfl
theorem aoY(G:ay):abz G []=True:=rfl
theorem alU(G:ay)(d:Nat)(c:Chunk)(r:List (Nat×Chunk)):abz G ((d,c) :: r)=(G d≠none/\abz G r):=rfl
theorem ax5(G H:ay):newL G H []=True:=rfl
theorem atD(G H:ay)(d:Nat)(c:Chunk)(r:List (Nat×Chunk)):newL G H ((d,c) :: r)=((G d≠none\/H d=none)/\newL G H r):=rfl
theorem ax6:∀ {l:List (Nat×Chunk)},hiL l->∀i,b7 l i≠none->1000000<=i
 | [],_,i,h=>absurd rfl h
 |(d,c) :: r,hh,i,h=>by
  unfold b7 bk at h;split at h
  ·rename_i e;rw[e];exact hh.1
  ·exact ax6 hh.2 i h
theorem adt{G:ay} : ∀ {l:List (Nat×Chunk)},abz G l->∀i,b7 l i≠none->G i≠none
 | [],_,i,h=>absurd rfl h
 |(d,c) :: r,hh,i,h=>by
  unfold b7 bk at h;split at h
  ·rename_i e;rw[e];exact hh.1
  ·exact adt hh.2 i h
theorem aqC{G H:ay} : ∀ {l:List (Nat×Chunk)},newL G H l->∀i,b7 l i≠none->G i≠none\/H i=none
 | [],_,i,h=>absurd rfl h
 |(d,c) :: r,hh,i,h=>by
  unfold b7 bk at h;split at h
  ·rename_i e;rw[e];exact hh.1
  ·exact aqC hh.2 i h
section
variable{C:Ctx}{env:Env}{H H':ay}{tm:Array Value}{w w':World}{I':Mem}{L':bB}{l0 l1:List (Nat×Chunk)}
theorem ax7(hh:hiL l0):∀i l,L.to (b7 l0) i=some l->1000000<=i:=λi l hl=>ax6 hh i (by
 obtain⟨c,hc⟩:=(to_eq hl).2;rw[hc];simp)
theorem gU.acq(h:gU C env H I L tm w)(h0:aby H l0)(hi:yA (b7 l0) l0)(hh:hiL l0):gU (Ctx.acq w I 0 C.B (L.to (b7 l0)) h.leB (ax7 hh)) fT (b7 l0) I (L.to (b7 l0)) #[] w :=
 {below:=Below.refl _ _
  mem:=h.mem
  kT:=Mem.dY I
  lS:=λ_ _ _ _=>rfl
  frame:=λ_ _ _=>rfl
  loc:=dK.refl _
  jy:=λid l b hl hb=>.inr ⟨id,l,hl,hb⟩
  size:=rfl
  env:=λ_=>.dead _
  dom:=λid l hl=>(to_eq hl).2
  chunk:=λid ch hch=>by obtain⟨c,hc1,zc⟩:=acp h0 id ch hch;exact alT (h.chunk id c hc1) zc hch hi
  fL:=λid l b hl hb=>h.fL id l b (to_eq hl).1 hb
  apart:=λi j li lj b hi hj qX uY=>h.apart i j li lj b (to_eq hi).1 (to_eq hj).1 qX uY }
def yc(l1:List (Nat×Chunk))(L' L:bB):bB:=λi=>match b7 l1 i with
 |some _=>L' i
 |none=>L i
theorem uF{i:Nat}(h:b7 l1 i≠none):yc l1 L' L i=L' i:=by
 unfold yc;cases hc:b7 l1 i with
 |none=>exact absurd hc h
 |some c=>rfl
theorem p6{i:Nat}(h:b7 l1 i=none):yc l1 L' L i=L i:=by unfold yc;rw[h]
theorem alV:dK (L'.to (b7 l1)) (yc l1 L' L):=λi=>by
 cases hl:L'.to (b7 l1) i with
 |none=>trivial
 |some l =>
  obtain⟨e,c,hc⟩:=to_eq hl;have hb:yc l1 L' L i=some l:=by rw[uF (by rw[hc];simp)];exact e
  cases l with
  |box b=>exact hb
  |row v bI sz=>exact⟨v,bI,hb,Nat.le_refl _,λ_=>rfl⟩
  |deep v bI sz sz' di n=>exact⟨v,bI,di,n,hb,Nat.le_refl _,λ_=>⟨rfl,rfl,rfl⟩⟩
theorem gU.aEj(h:gU C env H I L tm w)(h0:aby H l0)(hh:hiL l0)
  (hs':gU (Ctx.acq w I 0 C.B (L.to (b7 l0)) h.leB (ax7 hh)) fT H' I' L' #[] w')
  (h1:aby H' l1) (hi:yA (b7 l1) l1) (hst:abz (b7 l1) l0) (hnw:newL (b7 l0) H l1) :
  gU C env (over l1 H) I' (yc l1 L' L) tm w'/\dK (L'.to (b7 l1)) (yc l1 L' L):=by
 have hin0:∀i,b7 l0 i≠none->H i≠none:=λi hi=>by
  cases hc:b7 l0 i with
  |none=>exact absurd hc hi
  |some c=>obtain⟨c',h2,_⟩:=acp h0 i c hc;rw[h2];simp
 have hmem:∀i,b7 l1 i≠none->H i≠none->b7 l0 i≠none:=λi hi hH=>(aqC hnw i hi).elim id λe=>absurd e hH
 have hLH:∀i l,L i=some l->H i≠none:=λi l hl=>by obtain⟨c,hc⟩:=h.dom i l hl;rw[hc];simp
 have akg:dK L (yc l1 L' L):=λi=>by
  by_cases hi:b7 l1 i=none
  ·rw[p6 hi];exact dK.refl L i
  ·rw[uF hi];cases hL:L i with
   |none=>trivial
   |some l=>have h2:=hmem i hi (hLH i l hL);have h3:L.to (b7 l0) i=L i:=lN h2;have h4:=hs'.loc i;simp only[Ctx.acq,h3,hL] at h4;exact h4
 have ax8:∀b,(∃i l,L.to (b7 l0) i=some l/\l.has b)->∃i l,b7 l0 i≠none/\L i=some l/\l.has b:=λb ⟨i,l,hl,hb⟩=>by obtain⟨e,c,hc⟩:=to_eq hl;exact⟨i,l,by rw[hc];simp,e,hb⟩
 have hfr:∀b,b<w.heap.size->(¬ ∃i l,L.to (b7 l0) i=some l/\l.has b)->w'.heap[b]? = w.heap[b]?/\∀o,I' b o=I b o:=λb hb hn=>⟨hs'.frame b hb hn,λo=>hs'.lS b hb hn o⟩
 have hout:∀b,b<C.w0.heap.size->¬ C.am6 b->¬ ∃i l,L.to (b7 l0) i=some l/\l.has b:=λb hb hn hx=>by
  obtain⟨i,l,_,hl,hlb⟩:=ax8 b hx;rcases h.jy i l b hl hlb with h2|h2
  ·omega
  ·exact hn h2
 have aBS:∀i l b,yc l1 L' L i=some l->b7 l1 i≠none->l.has b->w.heap.size<=b\/∃i l,b7 l0 i≠none/\L i=some l/\l.has b:=λi l b hl hi hb=>by rw[uF hi] at hl;exact (hs'.jy i l b hl hb).imp id (ax8 b)
 refine⟨?_,alV⟩;exact
 {below:=h.below.trans hs'.below
  mem:=hs'.mem
  kT:=Mem.lR h.kT hs'.kT
  lS:=λb hb hf o=>by rw[(hfr b (Nat.lt_of_lt_of_le hb h.below.size) (hout b hb hf)).2 o];exact h.lS b hb hf o
  frame:=λb hb hf=>((hfr b (Nat.lt_of_lt_of_le hb h.below.size) (hout b hb hf)).1).trans (h.frame b hb hf)
  loc:=h.loc.trans akg
  jy:=λi l b hl hb=>by
   by_cases hi:b7 l1 i=none
   ·rw[p6 hi] at hl;exact h.jy i l b hl hb
   ·rcases aBS i l b hl hi hb with h2|⟨j,lj,_,h3,h4⟩
    ·exact .inl (Nat.le_trans h.below.size h2)
    ·exact h.jy j lj b h3 h4
  size:=h.size
  env:=λt=>(h.env t).mono hs'.kT akg
  dom:=λi l hl=>by
   rw[ajw];cases hc:b7 l1 i with
   |some c=>exact⟨c,rfl⟩
   |none=>rw[p6 hc] at hl;exact h.dom i l hl
  chunk:=λi c hc=>by
   rw[ajw] at hc;cases hc1:b7 l1 i with
   |some c1=>rw[hc1] at hc;simp only[cv] at hc;subst hc;obtain⟨c',g1,g2⟩:=acp h1 i c1 hc1;exact (alT (hs'.chunk i c' g1) g2 hc1 hi).keep (Mem.dY I') alV (by rw[uF (by rw[hc1];simp),lN (by rw[hc1];simp)]) λ_ _ _ _=>⟨rfl,λ_=>rfl⟩
   |none =>
    rw[hc1] at hc;refine (h.chunk i c hc).keep hs'.kT akg (p6 hc1) λl b hl hb=>hfr b (h.fL i l b hl hb).2 λhx=>?_
    obtain⟨j,lj,h2,h3,h4⟩:=ax8 b hx;have:=h.apart i j l lj b hl h3 hb h4;subst this;exact adt hst i h2 hc1
  fL:=λi l b hl hb=>by
   by_cases hi:b7 l1 i=none
   ·rw[p6 hi] at hl;exact⟨(h.fL i l b hl hb).1,Nat.lt_of_lt_of_le (h.fL i l b hl hb).2 hs'.below.size⟩
   ·rw[uF hi] at hl;exact hs'.fL i l b hl hb
  apart:=λi j li lj b hi hj qX uY=>by
   have one:∀i j li lj,yc l1 L' L i=some li->yc l1 L' L j=some lj->li.has b->lj.has b->b7 l1 i≠none->b7 l1 j=none->False:=λi j li lj hi hj qX uY h2 h3=>by
    have hj':=hj;rw[p6 h3] at hj';rcases aBS i li b hi h2 qX with h4|⟨k,lk,h4,h5,h6⟩
    ·have:=(h.fL j lj b hj' uY).2;omega
    ·have:=h.apart k j lk lj b h5 hj' h6 uY;subst this;exact adt hst k h4 h3
   by_cases h2:b7 l1 i=none<;>by_cases h3:b7 l1 j=none
   ·rw[p6 h2] at hi;rw[p6 h3] at hj;exact h.apart i j li lj b hi hj qX uY
   ·exact (one j i lj li hj hi uY qX h3 h2).elim
   ·exact (one i j li lj hi hj qX uY h2 h3).elim
   ·rw[uF h2] at hi;rw[uF h3] at hj;exact hs'.apart i j li lj b hi hj qX uY }
end
def isIn(c:Option Chunk)(a:AV)(r:Option AV):Option AV:=match c with
 |some _=>some a
 |none=>r
def aqD(r:Option (PV×Bool)):Option AV:=match r with
 |some (x,false)=>some (.p x)
 |_=>none
def ahV(G H:ay):AV->Option AV
 | .ptr id off=>isIn (G id) (.ptr id off) none
 | .row id v=>isIn (G id) (.row id v) (aqD (gA H (.row id v)))
 | .eO id v=>isIn (G id) (.eO id v) none
 |a=>aqD (gA H a)
def ze(G H:ay):List AV->Option (List AV)
 | []=>some []
 |a :: r=>match ahV G H a,ze G H r with
  |some x,some xs=>some (x :: xs)
  |_,_=>none
theorem atE(c:Chunk)(a:AV)(r:Option AV):isIn (some c) a r=some a:=rfl
theorem atF(G H:ay)(id off:Nat):ahV G H (.ptr id off)=isIn (G id) (.ptr id off) none:=rfl
theorem aAZ(G H:ay)(x:PV):ahV G H (.p x)=some (.p x):=rfl
theorem aoZ(G H:ay):ze G H []=some []:=rfl
theorem alW(G H:ay)(a:AV)(r:List AV):ze G H (a :: r)=match ahV G H a,ze G H r with
  |some x,some xs=>some (x :: xs)
  |_,_=>none:=rfl
theorem ax9{C:Ctx}{H G:ay}{env:Env}{tm:Array Value}{w:World}(hs:gU C env H I L tm w){u:Value}{a x:AV}(hu:eC I L u a)(h:ahV G H a=some x):eC I (L.to G) u x:=by
 have hp:∀a,eC I L u a->aqD (gA H a)=some x->eC I (L.to G) u x:=λa hu h=>by
  unfold aqD at h;split at h
  ·rename_i y he;simp only[cv] at h;subst h;exact .p _ _ ((o8 hs (tV H) (lT hs.mem) ((qY L w).g H) u a y false hu he).2 rfl)
  ·cases h
 unfold ahV at h;split at h
 ·rename_i id off;unfold isIn at h;split at h
  ·rename_i c hc;simp only[cv] at h;subst h;exact hu.to (by rw[ahU,hc];simp)
  ·cases h
 ·rename_i id v;unfold isIn at h;split at h
  ·rename_i c hc;simp only[cv] at h;subst h;exact hu.to (by rw[ahT,hc];simp)
  ·exact hp _ hu h
 ·rename_i id v;unfold isIn at h;split at h
  ·rename_i c hc;simp only[cv] at h;subst h;exact hu.to (by rw[afF,hc];simp)
  ·cases h
 ·exact hp _ hu h
theorem ahW{C:Ctx}{H G:ay}{env:Env}{tm:Array Value}{w:World}(hs:gU C env H I L tm w):∀ {us:List Value} {eR xs:List AV},oU I L us eR->ze G H eR=some xs->oU I (L.to G) us xs
 |us,[],xs,hu,h=>by simp only[ze,cv] at h;subst h;exact⟨by simpa using hu.1,by simp⟩
 | [],a :: r,xs,hu,h=>by have:=hu.1;simp at this
 |u :: us,a :: r,xs,hu,h=>by
  unfold ze at h;split at h
  ·rename_i x ys h1 h2;simp only[cv] at h;subst h;have k:=ahW hs (us:=us) (eR:=r) ⟨by have:=hu.1;simpa using this,λj u c hj hc=>hu.2 (j+1) u c hj hc⟩ h2;refine⟨by simp[k.1],λj u' c hj hc=>?_⟩;cases j with
   |zero=>simp at hj hc;subst hj hc;exact ax9 hs (hu.2 0 u a rfl rfl) h1
   |succ j=>exact k.2 j u' c (by simpa using hj) (by simpa using hc)
  ·cases h
theorem acr{o:Oper}{W:Env->ay->Prop}{env:Env}{H:ay}{k:FuncId}{eR xs ys:List AV}{A:AV}{l0 l1:List (Nat×Chunk)}
  (c:ad7 P k (b7 l0) ys λa H=>oo a A/\aby H l1) (ha:dI o (ev env)=some (k,eR)) (hx:ze (b7 l0) H eR=some xs) (hy:sD xs ys)
  (hh:hiL l0) (h0:aby H l0/\yA (b7 l0) l0) (h1:yA (b7 l1) l1/\pg (b7 l1) A) (hst:abz (b7 l1) l0) (hnw:newL (b7 l0) H l1)
  (hW:W (cI env o.dst A) (over l1 H)):ab4 P o W env H:=λC I L tm w σ hs hσ=>by
 obtain⟨us,hr,hu⟩:=qi ha c.1 hσ w;refine⟨k,_,hr,?_⟩;have hv:=ahW hs hu hx;obtain⟨q1,q2⟩:=tZ hy;have wk:oU I (L.to (b7 l0)) us ys:=⟨hv.1.trans q1,λj u c hj hc=>by
  obtain⟨a,ha⟩:∃a,xs[j]? = some a:=by have hj:j<us.length:=(List.getElem?_eq_some_iff.1 hj).1;have hl:=hv.1;exact⟨xs[j]'(by omega),by simp[hl ▸ hj]⟩
  exact aco (hv.2 j u a hj ha) (q2 j a c ha hc)⟩
 refine (c.2 C.B I _ w us hs.leB (ax7 hh) (hs.acq h0.1 h0.2 hh) wk).mono λx w' ⟨u,a,H',I',L',m1,⟨m2,m3⟩,m4,m5⟩=>?_
 obtain⟨n1,n2⟩:=hs.aEj h0.1 hh m5 m3 h1.1 hst hnw;exact⟨u,I',_,A,_,m1,hW,((aco m4 m2).to h1.2).mono (Mem.dY _) n2,n1⟩
end Go.cq
namespace Go.cq
open Go.RowKit
variable{P:Program}{I:Mem}{L:bB}
def Mem.add(I:Mem)(b lo:Nat)(us:List Value):Mem:=λc o=>if c=b/\lo<=o/\o<lo+us.length then us[o-lo]? else I c o
theorem alr{H' H:ay}{id v:Nat}{e:TypeId}{sz:Nat}{es:List (List PV)}(h:ql H' H):ql (bk H' id (.tail v e sz es)) H:=λi c' hi=>by
 unfold bk at hi;split at hi
 ·cases hi
 ·exact h i c' hi
end Go.cq
namespace Go.cq
open Go.RowKit
variable{P:Program}{I:Mem}{L:bB}
def sw(s t i:Nat):Nat:=if i=s then t else if i=t then s else i
theorem p7(s t i:Nat):sw s t (sw s t i)=i:=by
 unfold sw;split
 ·rename_i h;subst h;split
  ·assumption
  ·rw[if_pos rfl]
 ·split
  ·rename_i h;subst h;rw[if_pos rfl]
  ·rfl
mutual
def jA(s t:Nat):AV->AV
 | .row id v=>.row (sw s t id) v
 | .ptr id o=>.ptr (sw s t id) o
 | .jj id v i o=>.jj (sw s t id) v i o
 | .agg cs=>.agg (oO s t cs)
 | .dQ cs=>.dQ (oO s t cs)
 | .ir f a b=>.ir f (oO s t a) (oO s t b)
 | .eO id v=>.eO (sw s t id) v
 | .kH id v i o=>.kH (sw s t id) v i o
 | .kI id v i=>.kI (sw s t id) v i
 | .nj id v i j o=>.nj (sw s t id) v i j o
 | .bsl id n=>.bsl (sw s t id) n
 | .iy id v o n m z=>.iy (sw s t id) v o n m z
 |x=>x
def oO(s t:Nat):List AV->List AV
 | []=>[]
 |a :: r=>jA s t a :: oO s t r
end
theorem uc{s t:Nat} : ∀ {cs:List AV} {j:Nat} {c:AV},(oO s t cs)[j]? = some c->∃d,cs[j]? = some d/\c=jA s t d
 | [],j,c,h=>by simp[oO] at h
 |a :: r,0,c,h=>by unfold oO at h;simp only[List.getElem?_cons_zero,cv] at h;exact⟨a,rfl,h.symm⟩
 |a :: r,j+1,c,h=>by unfold oO at h;exact uc (cs:=r) (by simpa using h)
theorem oF{s t:Nat} : ∀cs:List AV,(oO s t cs).length=cs.length
 | []=>rfl
 |a :: r=>by unfold oO;simp[oF r]
def atG(s t:Nat):Chunk->Chunk
 | .box cs=>.box (oO s t cs)
 |c=>c
def aya(s t:Nat):Option Chunk->Option Chunk
 |some c=>some (atG s t c)
 |none=>none
def adu(s t:Nat)(env:Env):Env:=λi=>jA s t (env i)
def ajx(s t:Nat)(H:ay):ay:=λi=>aya s t (H (sw s t i))
def abA(s t:Nat)(L:bB):bB:=λi=>L (sw s t i)
theorem eC.ren{s t:Nat}{u:Value}{a:AV}(h:eC I L u a):eC I (abA s t L) u (jA s t a):=by
 induction h with
 |p u x h=>unfold jA;exact .p u x h
 |row u id bf v bI sz hl hle h h1=>unfold jA;exact .row u _ bf v bI sz (by unfold abA;rw[p7];exact hl) hle h h1
 |ptr id b off hl=>unfold jA;exact .ptr _ b off (by unfold abA;rw[p7];exact hl)
 |jj u id bf v i off bI sz hl hle h h1=>unfold jA;exact .jj u _ bf v i off bI sz (by unfold abA;rw[p7];exact hl) hle h h1
 |agg us cs hl _ hone ih=>unfold jA;refine .agg us _ (by rw[oF];exact hl) (λj u c hu hc=>?_) hone;obtain⟨d,hd,rfl⟩:=uc hc;exact ih j u d hu hd
 |dQ us cs hl _ ih=>unfold jA;refine .dQ us _ (by rw[oF];exact hl) (λj u c hu hc=>?_);obtain⟨d,hd,rfl⟩:=uc hc;exact ih j u d hu hd
 |ir fn us vs fs cs hl hl' _ _ ih ih' =>
  unfold jA;refine .ir fn us vs _ _ (by rw[oF];exact hl) (by rw[oF];exact hl') (λj u c hu hc=>?_) (λj u c hu hc=>?_)
  ·obtain⟨d,hd,rfl⟩:=uc hc;exact ih j u d hu hd
  ·obtain⟨d,hd,rfl⟩:=uc hc;exact ih' j u d hu hd
 |dead u=>unfold jA;exact .dead u
 |bsl id b n hl=>unfold jA;exact .bsl _ b n (by unfold abA;rw[p7];exact hl)
 |iy a id bf v off n m c bI sz hl hle hn hm hz h=>unfold jA;exact .iy a _ bf v off n m c bI sz (by unfold abA;rw[p7];exact hl) hle hn hm hz h
 |eO u id bf v bI sz sz' di n hl hle h h1=>unfold jA;exact .eO u _ bf v bI sz sz' di n (by unfold abA;rw[p7];exact hl) hle h h1
 |kH u id bf v i off bI sz sz' di n hl hle h h1=>unfold jA;exact .kH u _ bf v i off bI sz sz' di n (by unfold abA;rw[p7];exact hl) hle h h1
 |kI u id bf v i bI sz sz' di n hl hle h h1=>unfold jA;exact .kI u _ bf v i bI sz sz' di n (by unfold abA;rw[p7];exact hl) hle h h1
 |nj u id bf v i j off bI sz sz' di n hl hle h h1=>unfold jA;exact .nj u _ bf v i j off bI sz sz' di n (by unfold abA;rw[p7];exact hl) hle h h1
theorem qh.ren{s t:Nat}{w:World}{B id:Nat}{c:Chunk}(h:qh I L w B (sw s t id) c):qh I (abA s t L) w B id (atG s t c):=by
 cases c with
 |box cs=>obtain⟨b,arr,e,g1,g2,g3,g4,g5,g6⟩:=h;refine⟨b,arr,e,g1,g2,by rw[oF];exact g3,λj u c hu hc=>?_,g5,g6⟩;obtain⟨d,hd,rfl⟩:=uc hc;exact (g4 j u d hu hd).ren
 |row bf e sz es=>exact h
 |shut bf es=>exact h
 |tail bf e sz es=>exact h
 |deep bf e sz k e' sz' es=>exact h
theorem aA0(s t:Nat)(env:Env)(i:Nat):adu s t env i=jA s t (env i):=rfl
theorem aA1(s t:Nat)(H:ay)(i:Nat):ajx s t H i=aya s t (H (sw s t i)):=rfl
theorem aEk(s t i:Nat):sw s t i=if i=s then t else if i=t then s else i:=rfl
theorem ayb(s t id v:Nat):jA s t (.row id v) = .row (sw s t id) v:=by simp only[jA]
theorem ayc(s t id v:Nat):jA s t (.ptr id v) = .ptr (sw s t id) v:=by simp only[jA]
theorem aCK(s t:Nat)(x:PV):jA s t (.p x) = .p x:=by simp only[jA]
theorem atH(s t id v:Nat):jA s t (.eO id v) = .eO (sw s t id) v:=by simp only[jA]
theorem atJ(s t v:Nat)(e:TypeId)(sz k:Nat)(e':TypeId)(sz':Nat)(es:List (List PV)):atG s t (.deep v e sz k e' sz' es) = .deep v e sz k e' sz' es:=rfl
theorem atK(s t:Nat):oO s t []=[]:=by simp only[oO]
theorem ao0(s t:Nat)(a:AV)(r:List AV):oO s t (a :: r)=jA s t a :: oO s t r:=by simp only[oO]
theorem atL(s t:Nat)(c:Chunk):aya s t (some c)=some (atG s t c):=rfl
theorem atM(s t:Nat):aya s t none=none:=rfl
theorem ayd(s t:Nat)(cs:List AV):atG s t (.box cs) = .box (oO s t cs):=rfl
theorem aye(s t v:Nat)(e:TypeId)(sz:Nat)(es:List (List PV)):atG s t (.row v e sz es) = .row v e sz es:=rfl
attribute [go_sem] atH atJ aA0 aA1 aEk ayb ayc aCK atK ao0 atL atM ayd aye ax3 atC aAY ax4 aoY alU ax5 atD atE atF aAZ aoZ alW
end Go.cq
namespace Go.cq
open Go.RowKit
variable{P:Program}{I:Mem}{L:bB}
theorem gU.change{C:Ctx}{env:Env}{H H':ay}{I':Mem}{L':bB}{tm:Array Value}{w w':World}(h:gU C env H I L tm w)(hb:Below C.B w w')(S:Nat->Prop)
  (hk:∀b,b<w.heap.size->(¬ ∃i l,S i/\L i=some l/\l.has b)->w'.heap[b]? = w.heap[b]?/\∀o,I' b o=I b o) (hle:dK L L') (hsub:I.sub I') (hIw:I'.inW w')
  (hS:∀i,¬ S i->L' i=L i/\H' i=H i) (hdom:∀i l,S i->L' i=some l->∃c,H' i=some c) (hch:∀i c,S i->H' i=some c->qh I' L' w' C.B i c)
  (hblk:∀i l b,S i->L' i=some l->l.has b->(∃j lj,S j/\L j=some lj/\lj.has b)\/(w.heap.size<=b/\b<w'.heap.size))
  (hap:∀i j li lj b,S i->S j->L' i=some li->L' j=some lj->li.has b->lj.has b->i=j):gU C env H' I' L' tm w':=by
 have hold:∀b,b<C.w0.heap.size->¬ C.am6 b->¬ ∃i l,S i/\L i=some l/\l.has b:=λb hb hn ⟨i,l,_,hl,hlb⟩=>by
  rcases h.jy i l b hl hlb with h2|h2
  ·omega
  ·exact hn h2
 have hlt:∀b,b<C.w0.heap.size->b<w.heap.size:=λb hb=>Nat.lt_of_lt_of_le hb h.below.size
 have kg:∀i l b,¬ S i->L i=some l->l.has b->¬ ∃j lj,S j/\L j=some lj/\lj.has b:=λi l b hi hl hlb ⟨j,lj,hj,hlj,hjb⟩=>by have:=h.apart i j l lj b hl hlj hlb hjb;subst this;exact hi hj
 exact
 {below:=h.below.trans hb
  mem:=hIw
  kT:=Mem.lR h.kT hsub
  lS:=λb hb hf o=>by rw[(hk b (hlt b hb) (hold b hb hf)).2 o];exact h.lS b hb hf o
  frame:=λb hb hf=>((hk b (hlt b hb) (hold b hb hf)).1).trans (h.frame b hb hf)
  loc:=h.loc.trans hle
  jy:=λi l b hl hlb=>by
   by_cases hi:S i
   ·rcases hblk i l b hi hl hlb with ⟨j,lj,_,hj,hjb⟩|h2
    ·exact h.jy j lj b hj hjb
    ·exact .inl (Nat.le_trans h.below.size h2.1)
   ·rw[(hS i hi).1] at hl;exact h.jy i l b hl hlb
  size:=h.size
  env:=λt=>(h.env t).mono hsub hle
  dom:=λi l hl=>by
   by_cases hi:S i
   ·exact hdom i l hi hl
   ·rw[(hS i hi).1] at hl;rw[(hS i hi).2];exact h.dom i l hl
  chunk:=λi c hc=>by
   by_cases hi:S i
   ·exact hch i c hi hc
   ·rw[(hS i hi).2] at hc;exact (h.chunk i c hc).keep hsub hle (hS i hi).1 λl b hl hlb=>hk b (h.fL i l b hl hlb).2 (kg i l b hi hl hlb)
  fL:=λi l b hl hlb=>by
   by_cases hi:S i
   ·rcases hblk i l b hi hl hlb with ⟨j,lj,_,hj,hjb⟩|h2
    ·exact⟨(h.fL j lj b hj hjb).1,Nat.lt_of_lt_of_le (h.fL j lj b hj hjb).2 hb.size⟩
    ·exact⟨Nat.le_trans h.leB h2.1,h2.2⟩
   ·rw[(hS i hi).1] at hl;exact⟨(h.fL i l b hl hlb).1,Nat.lt_of_lt_of_le (h.fL i l b hl hlb).2 hb.size⟩
  apart:=λi j li lj b hi hj qX uY=>by
   have one:∀i j li lj,S i->¬ S j->L' i=some li->L' j=some lj->li.has b->lj.has b->False:=λi j li lj hi hj hli hlj qX uY=>by
    rw[(hS j hj).1] at hlj;rcases hblk i li b hi hli qX with hx|h2
    ·exact kg j lj b hj hlj uY hx
    ·have:=(h.fL j lj b hlj uY).2;omega
   by_cases h1:S i<;>by_cases h2:S j
   ·exact hap i j li lj b h1 h2 hi hj qX uY
   ·exact (one i j li lj h1 h2 hi hj qX uY).elim
   ·exact (one j i lj li h2 h1 hj hi uY qX).elim
   ·rw[(hS i h1).1] at hi;rw[(hS j h2).1] at hj;exact h.apart i j li lj b hi hj qX uY }
theorem gU.ren{C:Ctx}{env:Env}{H:ay}{tm:Array Value}{w:World}(hs:gU C env H I L tm w){s t:Nat}(h0s:C.L0 s=none)(h0t:C.L0 t=none):gU C (adu s t env) (ajx s t H) I (abA s t L) tm w :=
 {below:=hs.below
  mem:=hs.mem
  kT:=hs.kT
  lS:=hs.lS
  frame:=hs.frame
  loc:=λi=>by
   by_cases h1:i=s
   ·subst h1;rw[h0s];trivial
   ·by_cases h2:i=t
    ·subst h2;rw[h0t];trivial
    ·have:abA s t L i=L i:=by unfold abA sw;rw[if_neg h1,if_neg h2]
     rw[this];exact hs.loc i
  jy:=λid l b hl hb=>hs.jy _ l b hl hb
  size:=hs.size
  env:=λi=>(hs.env i).ren
  dom:=λid l hl=>by obtain⟨c,hc⟩:=hs.dom _ l hl;exact⟨_,by unfold ajx;rw[hc];rfl⟩
  chunk:=λid ch hch=>by
   unfold ajx at hch;cases hc:H (sw s t id) with
   |none=>rw[hc] at hch;cases hch
   |some c=>rw[hc] at hch;simp only[aya,cv] at hch;subst hch;exact (hs.chunk _ c hc).ren
  fL:=λid l b hl hb=>hs.fL _ l b hl hb
  apart:=λi j li lj b hi hj qX uY=>by
   have:=hs.apart _ _ li lj b hi hj qX uY;have h2:=congrArg (sw s t) this;rwa [p7,p7] at h2 }
mutual
theorem ahX(s t:Nat):∀a:AV,jA s t (jA s t a)=a
 | .p _=>by simp only[jA]
 | .row _ _=>by simp only[jA,p7]
 | .ptr _ _=>by simp only[jA,p7]
 | .jj _ _ _ _=>by simp only[jA,p7]
 | .agg cs=>by simp only[jA,sF s t cs]
 | .dQ cs=>by simp only[jA,sF s t cs]
 | .ir _ a b=>by simp only[jA,sF s t a,sF s t b]
 | .eO _ _=>by simp only[jA,p7]
 | .kH _ _ _ _=>by simp only[jA,p7]
 | .kI _ _ _=>by simp only[jA,p7]
 | .nj _ _ _ _ _=>by simp only[jA,p7]
 | .bsl _ _=>by simp only[jA,p7]
 | .iy _ _ _ _ _ _=>by simp only[jA,p7]
 | .dead=>by simp only[jA]
theorem sF(s t:Nat):∀l:List AV,oO s t (oO s t l)=l
 | []=>by simp only[oO]
 |a :: r=>by simp only[oO,ahX s t a,sF s t r]
end
theorem ahY(s t:Nat)(env:Env):adu s t (adu s t env)=env:=by funext i;simp only[adu,ahX]
theorem atN(s t:Nat)(env:Env)(d:Option Tmp)(a:AV):adu s t (cI env d a)=cI (adu s t env) d (jA s t a):=by
 cases d with
 |none=>rfl
 |some k=>funext i;show jA s t (cE env k a i)=cE (adu s t env) k (jA s t a) i;unfold cE;split<;>rfl
theorem aCL(s t:Nat)(env:Env)(x:Operand):ev (adu s t env) x=jA s t (ev env x):=by
 cases x with
 |tmp k=>rfl
 |const v =>
  show yJ v=jA s t (yJ v);have:∃p,yJ v = .p p\/yJ v = .dead:=by unfold yJ;split<;>first|exact⟨_,.inl rfl⟩|exact⟨default,.inr rfl⟩|(split<;>first|exact⟨_,.inl rfl⟩|exact⟨default,.inr rfl⟩)
  obtain⟨p,h|h⟩:=this<;>rw[h]<;>simp only[jA]
 |global g=>simp only[ev,jA]
 |func f=>simp only[ev,jA]
theorem kO{o:Oper}{W:Env->ay->Prop}{env:Env}{H:ay}(s t:Nat)(hs1:s<1000000)(ht:H t=none)(h:ab4 P o (λe G=>W (adu s t e) (ajx s t G)) (adu s t env) (ajx s t H)):ab4 P o W env H:=λC I L tm w σ hs hσ=>by
 have hLt:L t=none:=hs.sj ht;have h0t:C.L0 t=none:=by
  cases h:C.L0 t with
  |none=>rfl
  |some l =>
   have:=hs.loc t;rw[h] at this;cases l with
   |box b=>rw[hLt] at this;cases this
   |row v bI sz=>obtain⟨_,_,h2,_⟩:=this;rw[hLt] at h2;cases h2
   |deep v bI sz sz' di n=>obtain⟨_,_,_,_,h2,_⟩:=this;rw[hLt] at h2;cases h2
 have h0s:C.L0 s=none:=by
  cases h:C.L0 s with
  |none=>rfl
  |some l=>have:=C.hL0 s l h;omega
 obtain⟨k,args,q1,q2⟩:=h C I _ tm w σ (hs.ren h0s h0t) λx=>by rw[aCL];exact (hσ x).ren
 refine⟨k,args,q1,q2.mono λe w' ⟨v,I',L',a,H',m1,m2,m3,m4⟩=>⟨v,I',abA s t L',jA s t a,ajx s t H',m1,?_,m3.ren,?_⟩⟩
 ·have:adu s t (cI (adu s t env) o.dst a)=cI env o.dst (jA s t a):=by rw[atN,ahY]
  rw[<-this];exact m2
 ·have:=m4.ren h0s h0t;rwa [ahY] at this
theorem alX{C:Ctx}{H:ay}{env:Env}{tm:Array Value}{w:World}(hs:gU C env H I L tm w){d:Nat}(hd:H d=none)(e:TypeId){sz k:Nat}(hpos:k<sz)(e':TypeId)(sz':Nat) :
  eC I (cg L d (.deep 0 (.slice none 0 0) sz sz' (λ_=>.slice none 0 0) 0)) (.slice none 0 0) (.eO d 0)/\Fr C I L H w I (cg L d (.deep 0 (.slice none 0 0) sz sz' (λ_=>.slice none 0 0) 0)) (bk H d (.deep 0 e sz k e' sz' [])) w /\
   dK L (cg L d (.deep 0 (.slice none 0 0) sz sz' (λ_=>.slice none 0 0) 0)):=by
 refine⟨.eO _ d 0 0 (.slice none 0 0) sz sz' (λ_=>.slice none 0 0) 0 (by simp[cg]) (Nat.le_refl _) (λ_=>rfl) rfl,λenv tm hs=>?_,dK.uj (hs.sj hd) _⟩;refine hs.new (Below.refl _ _) (λ_ _=>rfl) hd _ _ ?_ (λb hb=>?_)
 ·refine⟨.slice none 0 0,[],λ_=>.slice none 0 0,by simp[cg],⟨⟨by simp[fA],.inl ⟨rfl,by simp[fA]⟩⟩,by omega,by simp[fA],by simp,by simp,λb hb=>by cases hb⟩,rfl,hpos,by simp,λi x hx=>by simp at hx,λi b hi=>by simp at hi,λi j b hi=>by simp at hi⟩
 ·rcases hb with hb|⟨i,hi,_⟩
  ·cases hb
  ·omega
theorem atO{e:Env}{H:ay}(t id:Nat)(ty:TypeId)(sz k:Nat)(e':TypeId)(sz':Nat)(ht:e t = .p (.val (.slice none 0 0)))(hid:H id=none)(hsz:k<sz) :
  cU e H (cE e t (.eO id 0)) (bk H id (.deep 0 ty sz k e' sz' [])):=λC I L tm w hs=>by
 obtain⟨n1,n2,n3⟩:=alX hs hid ty hsz e' sz';have hs':=n2 e tm hs;refine⟨I,_,{ hs' with env:=λi=>?_ }⟩;unfold cE;split
 ·rename_i hi;subst hi;have:=hs.env i;rw[ht] at this;rw[this.eM.1];exact n1
 ·exact hs'.env i
theorem atP(k:Nat)(di:Nat->Value)(es:List (List PV))(i:Nat)(x:List PV)(p:PV)(hx:es[i]? = some x):fA k di (es.set i (x.set k p))=fA k di es:=by
 apply List.ext_getElem?;intro j;rw[tT,tT,List.getElem?_set];split
 ·rename_i h;subst h;have hi:=(List.getElem?_eq_some_iff.1 hx).1;rw[if_pos hi,hx];simp[List.set_set]
 ·rfl
theorem afG{o:Oper}{W:Env->ay->Prop}{env:Env}{H:ay}(t:TypeId)(a x:Operand)(id v i j:Nat)(e:TypeId)(sz k:Nat)(e':TypeId)(es:List (List PV))(el:List PV)(l:List (List PV))(p:PV)(hop:o.op = .store t a x)
  (hn:bz P t=some 1) (ha:ev env a = .nj id v i j 0) (hx:ev env x = .p p) (hp1:(b5 (.p p))=[.p p]/\p.one=true) (hH:H id=some (.deep v e sz k e' 1 es)) (hel:es[i]? = some el) (hl:el[k]? = some (.aV l)) (hj:j<l.length)
  (hW:W (cI env o.dst .dead) (bk H id (.deep v e sz k e' 1 (es.set i (el.set k (.aV (l.set j [p]))))))):jm P o W env H:=by
 refine .inr (.inr (.inl ⟨_,_,hW,λC I L tm w σ hs hσ=>?_⟩));have hav:=hσ a;have hxv:=hσ x;rw[ha] at hav;rw[hx] at hxv;obtain⟨bI,us,di,q1,q2,q3,q4,q5,q6,q7⟩:=hs.chunk id _ hH;have qS:i<es.length:=(List.getElem?_eq_some_iff.1 hel).1;obtain⟨l',ius,r1,r2,r3⟩:=q6 i el hel;rw[hl] at r1;simp only[cv,PV.aV.injEq] at r1;subst r1;have hs':(execOp σ o).run P w=(do Instr.storeAt t (σ a) (σ x);pure .skip:Sem Next).run P w:=by unfold execOp;rw[hop]
 obtain⟨un,u1,u2,u3,u4⟩:=cells_one hxv (by rw[hp1.1];simp[n9,hp1.2]);rw[hp1.1] at u2 u3;have hpin:0<es.length:=by omega
 generalize hua:σ a=ua at *;cases hav with
 |nj _ _ _ v1 _ _ _ jI _ _ qJ n1 mD hle hh hone =>
  rw[q1] at mD;simp only[cv,Loc.deep.injEq] at mD;obtain⟨e1,e2,e3,e4,e5,e6⟩:=mD;subst e1 e2 e3 e4 e5 e6;obtain⟨g,o0,m,cap,g1,rfl⟩:=hh rfl;rcases r2.own.2 with ⟨anf,_⟩|⟨g',cp,cur,heq,hbg,hgg,hnc,hcm,hcz,lC⟩
  ·rw[anf] at g1;cases g1
  have aEl:=heq;rw[g1] at heq;simp only[Value.slice.injEq,cv,Addr.mk.injEq] at heq;obtain⟨⟨e3,e0,_⟩,e4,e5⟩:=heq;subst e3 e0 e4 e5;have qX:(di i).ownBlock=some g:=by rw[aEl];rfl
  have hcap:l.length<=cur.size:=by omega
  have hul:un.length=1:=by simpa using u2
  have hr:=xg hn u1 hul hgg (off:=j) (by omega) u4;have e8:(0:Nat)+(j * 1+0)=j:=by omega
  rw[e8] at hs';have hil':ius.length=l.length:=by have:=r2.own.1;omega
  have hkeep:∀ (b:Nat),b≠g->(w.setRow g (splice cur.toList j un).toArray).heap[b]? = w.heap[b]?:=λb hb=>setRow_other w g b _ hb
  have hgw:g<w.heap.size:=(Array.getElem?_eq_some_iff.1 hgg).1;have hgB:C.B<=g:=hbg;refine⟨undef,_,I,L,.inr ⟨by rw[hs'];exact aeZ hr,rfl⟩,.dead _,λenv tm hs=>?_⟩;refine hs.change (rV _ hgB) (λz=>z=id) (λb hb hnb=>⟨hkeep b λhbg=>hnb ⟨id,_,rfl,q1,by rw[hbg];exact .inr ⟨i,qS,qX⟩⟩,λ_=>rfl⟩) (dK.refl L) (Mem.dY I) (hs.mem.keep λb ⟨o,u,hu⟩=>hkeep b λhbg=>by rw[hbg,r2.free g qX o] at hu;cases hu)
   (λz hz=>⟨rfl,by simp[bk,hz]⟩) (λz l hz hl=>⟨_,by simp[bk,hz];rfl⟩) (λz c hz hc=>?_) (λz l b hz hl hb=>.inl ⟨z,l,hz,hl,hb⟩) (λz z' _ _ _ hz hz' _ _ _ _=>by rw[hz,hz'])
  subst hz;have:Chunk.deep v e sz k e' 1 (es.set i (el.set k (.aV (l.set j [p]))))=c:=by simpa[bk] using hc
  subst this;have xb:fA k di (es.set i (el.set k (.aV (l.set j [p]))))=fA k di es:=atP k di es i el _ hel;refine⟨bI,us,di,by rw[List.length_set];exact q1,?_,q3,q4,λy hy=>?_,λi' x' hx'=>?_,by rw[List.length_set];exact q7⟩
  ·rw[xb];exact q2.keep (Mem.dY I) λb hb=>⟨hkeep b λhbg=>q7.1 i g qS qX (by rw[<-hbg];exact hb),λ_=>rfl⟩
  ·rcases List.mem_or_eq_of_mem_set hy with h|h
   ·exact q5 y h
   ·subst h;rw[List.length_set];exact q5 el (List.mem_of_getElem? hel)
  ·rw[List.getElem?_set] at hx';split at hx'
   ·rename_i hii;subst hii;simp only[cv] at hx';subst hx';have pU:k<el.length:=(List.getElem?_eq_some_iff.1 hl).1;have htk:(splice cur.toList j un).take (l.length * 1)=splice ius j un:=by rw[yQ (by omega) (by simp;omega),lC]
    refine⟨l.set j [p],splice ius j un,by simp[pU],⟨⟨?_,.inr ⟨g,cap,(splice cur.toList j un).toArray,by rw[List.length_set];exact aEl,hbg,setRow_heap w g cur _ e' _ hgg,by rw[List.length_set];exact hnc,hcm,?_,by rw[List.length_set];exact htk⟩⟩,r2.pos,λy hy=>?_,?_,xh r2.one u4,r2.free⟩,r3⟩
    ·rw[List.length_set,ep (by omega)];omega
    ·simp only[List.size_toArray];rw[ep (by simp only[Array.length_toList];omega)];simpa using hcz
    ·rcases List.mem_or_eq_of_mem_set hy with h|h
     ·exact r2.all y h
     ·subst h;rfl
    ·have hm:(l.getD j []).length=1:=r2.all _ (by
      have:l.getD j []=l[j]:=by simp[hj]
      rw[this];exact nR _)
     have hsp:splice (l.getD j []) 0 [p]=[p]:=by unfold splice;rw[List.take_zero,List.drop_eq_nil_of_le (by rw[hm];simp)];rfl
     have:=yP r2.all j hj 0 [p] (by simp);rw[hsp] at this;rw[this];have e9:j * 1+0=j:=by omega
     rw[e9];exact abk (by rw[bH r2.all];omega) (by simpa using u2) r2.val (λq u c hu hc=>by
      have:=u3 q u (.p c) hu (by
       cases q with
       |zero=>simp at hc ⊢;exact hc
       |succ q=>simp at hc)
      exact this.nZ)
   ·rename_i hii;obtain⟨l2,us2,m1,m2,m3⟩:=q6 i' x' hx';have aH9:i'<es.length:=(List.getElem?_eq_some_iff.1 hx').1;exact⟨l2,us2,m1,m2.keep (Mem.dY I) λb hb=>⟨hkeep b λhbg=>hii (q7.2 i i' g qS aH9 qX (by rw[<-hbg];exact hb)),λ_=>rfl⟩,m3⟩
theorem afH{w:World}{B:Nat}{t1 ty e:TypeId}{i:TypeInfo}{z:Value}{sz qR:Nat}(hu:P.underlying t1=some (.slice e))(hi:P.info? e=some i)(hz:i.zero=some z)(hsz:i.size=sz)(hby:i.bytes=qR)(hzc:z.cells.size=sz)(hpos:0<sz)
  {x:Value} {n:Nat} {us:List Value} (q2:w.ownsRow B e sz x n us) {bb off m cap:Nat} {yO:List Value} (aem:yO.length=m * sz) (hnews:∀ (j:Nat) v,yO[j]? = some v->w.cell? ((⟨bb,off,none⟩:Addr).add j)=some v) (hnone:∀u∈yO,u.oneCell'=true) (hm:0<m)
  (aeY:n+m<=maxLen) (hb:(n+m) * qR<=140737488355328) (hB:B<=w.heap.size) :
  ∃v' w',(Builtin.append_ #[t1,t1] ty #[x,.slice (some ⟨bb,off,none⟩) m cap]).run P w = .ok v' w'/\w'.ownsRow B e sz v' (n+m) (us++yO)/\w.grownBy w' x.ownBlock /\
   (∀b,v'.ownBlock=some b->x.ownBlock=some b\/(w.heap.size<=b/\b<w'.heap.size))/\v'.oneCell'=true:=by
 obtain⟨v',w',hr,ho,hg,_⟩:=run_append_own (P:=P) w B t1 ty e i z sz qR hu hi hz hsz hby hzc hpos x n us q2 ⟨bb,off,none⟩ m cap yO aem hnews hnone aeY hb hB
 refine⟨v',w',hr,ho,hg,?_,?_⟩
 ·rcases q2.2 with ⟨rfl,hn0⟩|⟨g,cp,cur,rfl,hbg,hgg,hnc,hcm,hcs,lC⟩
  ·obtain⟨cp,rest,hr2,_⟩:=pN (P:=P) (ty:=ty) hu hi hz hsz none ⟨bb,off,none⟩ m cap yO w aem hnews (by omega) (by rw[hby];rw[hn0,Nat.zero_add] at hb;exact hb) (by simp only[maxLen] at aeY;omega);rw[hr2] at hr;simp only[Result.ok.injEq] at hr;obtain⟨rfl,rfl⟩:=hr;intro b hb;simp only[Value.ownBlock,cv] at hb;subst hb;exact .inr ⟨Nat.le_refl _,by simp⟩
  ·by_cases hroom:n+m<=cp
   ·have hfit:n * i.size+yO.length<=cur.size:=by rw[aem,hcs,hsz,<-Nat.add_mul];exact Nat.mul_le_mul_right _ hroom
    have hr2:=run_append_room (P:=P) w t1 ty e i hu hi g n cp cur hgg ⟨bb,off,none⟩ m cap yO (by rw[hsz];exact aem) hnews hnone hroom hfit;rw[hr2] at hr;simp only[Result.ok.injEq] at hr;obtain⟨rfl,rfl⟩:=hr;intro b hb;exact .inl hb
   ·have holds:∀j u,us[j]? = some u->w.cell? ((⟨g,0,none⟩:Addr).add j)=some u:=q2.cells (g:=g) rfl;have hr2:=run_append_grow (P:=P) w t1 ty e i z hu hi hz ⟨g,0,none⟩ n cp us (by rw[hsz];exact q2.1) holds ⟨bb,off,none⟩ m cap yO (by rw[hsz];exact aem) hnews (by omega) (by simp only[maxLen] at aeY;omega)
     (growslice_fits (by omega) (by rw[hby];exact hb))
    rw[hr2] at hr;simp only[Result.ok.injEq] at hr;obtain⟨rfl,rfl⟩:=hr;intro b hb;simp only[Value.ownBlock,cv] at hb;subst hb;exact .inr ⟨Nat.le_refl _,by simp⟩
 ·rcases ho.2 with ⟨rfl,_⟩|⟨_,_,_,rfl,_⟩<;>rfl
theorem vv(k:Nat):∀ (es:List (List PV)) (di lg:Nat->Value),(∀i,i<es.length->di i=lg i)->fA k di es=fA k lg es
 | [],_,_,_=>rfl
 |x :: r,di,lg,h=>by simp only[fA];rw[h 0 (by simp),vv k r _ _ λi hi=>h (i+1) (by simp;omega)]
theorem afI(k:Nat):∀ (es:List (List PV)) (di:Nat->Value) (x:List PV),fA k di (es++[x])=fA k di es++[x.set k (.val (di es.length))]
 | [],_,_=>rfl
 |y :: r,di,x=>by simp only[List.cons_append,fA,afI k r,List.length_cons]
theorem alY{o:Oper}{W:Env->ay->Prop}{env:Env}{H:ay}(t1 t2:TypeId)(x y:Operand)(id d r v rv k:Nat)(e:TypeId)(sz qR:Nat)(e':TypeId)(sz':Nat)(es l:List (List PV))(ps:List PV)
  (hop:o.op = .call ⟨.builtin .append,#[x,y],#[t1,t2]⟩) (ht:dw P t1 t2=some (e,sz,qR)) (hx:ev env x = .eO id v) (hy:ev env y = .bsl d 1) (hH:H id=some (.deep v e sz k e' sz' es))
  (hd:H d=some (.box ((ps.map AV.p).set k (.row r rv)))) (hr:H r=some (.row rv e' sz' l)) (hps:ps.length=sz) (hne:id≠r) (hb:(es.length+1) * qR<=140737488355328)
  (hW:W (cI env o.dst (.eO id (v+1))) (bk (bk H r (.row (rv+1) e' sz' [])) id (.deep (v+1) e sz k e' sz' (es++[ps.set k (.aV l)])))):jm P o W env H:=by
 refine .inr (.inr (.inl ⟨_,_,hW,λC I L tm w σ hs hσ=>?_⟩));have hxv:=hσ x;have hyv:=hσ y;rw[hx] at hxv;rw[hy] at hyv;obtain⟨rfl,hu,hpos,aaP,i,z,hi,hz,hsz,hby,hzc⟩:=nD ht;have hs':∀w,(execOp σ o).run P w=((Builtin.append_ #[t1,t1] o.type #[σ x,σ y]).run P w).andThen λu w'=>.ok (.value u) w':=λw=>by unfold execOp;rw[hop];simp[resolve,invoke,builtin,Result.andThen]
 obtain⟨bI,us,di,q1,q2,q3,q4,q5,q6,q7⟩:=hs.chunk id _ hH;obtain⟨db,arr,de,d1,d2,d3,d4,d5,d6⟩:=hs.chunk d _ hd;obtain⟨rh,rus,c1,c2,c3,c4,c5,c6,c7⟩:=hs.chunk r _ hr;have aeY:es.length+1<=maxLen:=by have:=Nat.le_mul_of_pos_right (es.length+1) aaP;simp only[maxLen];omega
 generalize hux:σ x=ux at *;generalize huy:σ y=uy at *;cases hxv with
 |eO _ _ _ v1 jI _ _ qJ n1 hl hle hh hone =>
  rw[q1] at hl;simp only[cv,Loc.deep.injEq] at hl;obtain⟨e1,e2,e3,e4,e5,e6⟩:=hl;subst e1 e2 e3 e4 e5 e6;have hxe:=hh rfl;subst hxe;cases hyv with
  |bsl _ b _ hl =>
   rw[d1] at hl;simp only[cv,Loc.box.injEq] at hl;subst hl;have hal:arr.toList.length=1 * sz:=by simp[d3,hps]
   have own:=q2.own;rw[fI] at own;obtain⟨v',w',hrun,ho,hg,hblk,h1⟩:=afH (P:=P) (ty:=o.type) (cap:=1) hu hi hz hsz hby hzc hpos own (bb:=db) (off:=0) (m:=1) (yO:=arr.toList) hal (λj v hj=>by
    rw[Addr.add_mid,Nat.zero_add,fV d2];simpa using hj) (λu hu=>by
    obtain⟨j,hj⟩:=List.mem_iff_getElem?.1 hu;exact d5 j u (by simpa using hj)) (by omega) aeY hb hs.leB
   let lg:Nat->Value:=λj=>if j<es.length then di j else rh
   have alZ:∀j,j<es.length->lg j=di j:=λj hj=>by simp only[lg];rw[if_pos hj]
   have ahZ:lg es.length=rh:=by simp only[lg];rw[if_neg (by omega)]
   have aEm:∀b,ux.ownBlock=some b->C.B<=b/\b<w.heap.size:=λb hb=>hs.fL id _ b q1 (.inl hb)
   have ah0:∀b,rh.ownBlock=some b->b<w.heap.size/\ux.ownBlock≠some b/\∀i,i<es.length->(di i).ownBlock≠some b:=λb hb=>⟨(hs.fL r _ b c1 hb).2,λh2=>hne (hs.apart id r _ _ b q1 c1 (.inl h2) hb),λi hi h2=>hne (hs.apart id r _ _ b q1 c1 (.inr ⟨i,hi,h2⟩) hb)⟩
   have aqE:∀i b,i<es.length->(di i).ownBlock=some b->b<w.heap.size/\ux.ownBlock≠some b:=λi b hi hb=>⟨(hs.fL id _ b q1 (.inr ⟨i,hi,hb⟩)).2,q7.1 i b hi hb⟩
   let L':bB:=cg (cg L r (.row (rv+1) (.slice none 0 0) sz')) id (.deep (v+1) v' sz sz' lg (es.length+1));have hLi:L' id=some (.deep (v+1) v' sz sz' lg (es.length+1)):=by simp[L',cg]
   have hLr:L' r=some (.row (rv+1) (.slice none 0 0) sz'):=by simp[L',cg,Ne.symm hne]
   have hLo:∀j,j≠id->j≠r->L' j=L j:=λj h1 h2=>by simp[L',cg,h1,h2]
   have hle':dK L L':=λj=>by
    by_cases e1:j=id
    ·subst e1;rw[q1];exact⟨v+1,v',lg,es.length+1,hLi,by omega,λe=>by omega⟩
    ·by_cases e2:j=r
     ·subst e2;rw[c1];exact⟨rv+1,.slice none 0 0,hLr,by omega,λe=>by omega⟩
     ·rw[hLo j e1 e2];exact dK.refl L j
   refine⟨v',w',I,L',.inl (by rw[hs',hrun];rfl),.eO _ _ _ (v+1) v' sz sz' lg (es.length+1) hLi (Nat.le_refl _) (λ_=>rfl) h1,λenv tm hs=>?_⟩;have aqF:∀b,b<w.heap.size->ux.ownBlock≠some b->w'.heap[b]? = w.heap[b]?:=λb hb hn=>hg.block b hb λe=>hn e.symm
   have hpsl:(ps.map AV.p).length=sz:=by rw[List.length_map];exact hps
   refine hs.change (Below.grown (Below.refl _ _) hg hs.leB λb hb=>(aEm b hb).1) (λz=>z=id\/z=r) (λb hb hnb=>⟨aqF b hb λh2=>hnb ⟨id,_,.inl rfl,q1,.inl h2⟩,λ_=>rfl⟩) hle' (Mem.dY I)
    (hs.mem.keep λb ⟨o,u,hu⟩=>aqF b (hs.mem.lt hu) λh2=>by rw[q2.free b h2 o] at hu;cases hu) (λz hz=>⟨hLo z (λe=>hz (.inl e)) (λe=>hz (.inr e)),by
     have a1:z≠id:=λe=>hz (.inl e)
     have a2:z≠r:=λe=>hz (.inr e)
     simp[bk,a1,a2]⟩)
    (λz l hz hl=>?_) (λz c hz hc=>?_) (λz l b hz hl hb=>?_) (λz z' lz lz' b hz hz' hl hl' hb hb'=>?_)
   ·rcases hz with rfl|rfl
    ·exact⟨_,by simp[bk];rfl⟩
    ·exact⟨_,by simp[bk,Ne.symm hne];rfl⟩
   ·rcases hz with rfl|rfl
    ·have:Chunk.deep (v+1) e sz k e' sz' (es++[ps.set k (.aV l)])=c:=by simpa[bk] using hc
     subst this;have aEn:fA k lg (es++[ps.set k (.aV l)])=fA k di es++[ps.set k (.val rh)]:=by rw[afI,ahZ,vv k es lg di alZ];simp[List.set_set]
     refine⟨v',us++arr.toList,lg,by rw[List.length_append];exact hLi,?_,h1,q4,λy hy=>?_,λi' x' hx'=>?_,?_⟩
     ·rw[aEn];refine⟨by rw[List.length_append,fI];exact ho,hpos,λy hy=>?_,?_,λu hu=>?_,λb hb o=>?_⟩
      ·rcases List.mem_append.1 hy with h|h
       ·exact q2.all y h
       ·simp only[List.mem_singleton] at h;subst h;rw[List.length_set];exact hps
      ·rw[List.flatten_append];refine abj (by rw[bH q2.all,fI];exact own.1) q2.val (λj u c hu hc=>?_);have qo:(ps.set k (.val rh))[j]? = some c:=by simpa using hc
       have hjl:j<sz:=by have:=(List.getElem?_eq_some_iff.1 qo).1;rw[List.length_set] at this;omega
       rw[List.getElem?_set] at qo;split at qo
       ·rename_i hkj;subst hkj;split at qo
        ·simp only[cv] at qo;subst qo;have h2:=d4 k u (.row r rv) (by simpa using hu) (by rw[List.getElem?_set,if_pos rfl,if_pos (by omega)]);cases h2 with
         |row _ _ _ v2 ava sz2 hl2 hle2 hh2 aEo=>rw[c1] at hl2;simp only[cv,Loc.row.injEq] at hl2;obtain⟨a1,a2,a3⟩:=hl2;subst a1 a2 a3;rw[<-hh2 rfl];exact .val _ aEo
        ·cases qo
       ·rename_i hkj;have h2:=d4 j u (.p c) (by simpa using hu) (by rw[List.getElem?_set,if_neg hkj,List.getElem?_map,qo];rfl);exact h2.nZ
      ·rcases List.mem_append.1 hu with h|h
       ·exact q2.one u h
       ·obtain⟨j,hj⟩:=List.mem_iff_getElem?.1 h;exact d5 j u (by simpa using hj)
      ·rcases hblk b hb with h|h
       ·exact q2.free b h o
       ·cases hI:I b o with
        |none=>rfl
        |some u=>exact absurd (hs.mem.lt hI) (by omega)
     ·rcases List.mem_append.1 hy with h|h
      ·exact q5 y h
      ·simp only[List.mem_singleton] at h;subst h;rw[List.length_set];exact hps
     ·rw[List.getElem?_append] at hx';split at hx'
      ·rename_i hlt;obtain⟨l2,us2,m1,m2,m3⟩:=q6 i' x' hx';rw[alZ i' hlt];exact⟨l2,us2,m1,m2.keep (Mem.dY I) λb hb=>⟨aqF b (aqE i' b hlt hb).1 (aqE i' b hlt hb).2,λ_=>rfl⟩,m3⟩
      ·rename_i hlt;have hi0:i'-es.length=0:=by have:=(List.getElem?_eq_some_iff.1 hx').1;simp at this;omega
       rw[hi0] at hx';simp only[List.getElem?_cons_zero,cv] at hx';subst hx';have hie:i'=es.length:=by omega
       subst hie;rw[ahZ];have hone:rh.oneCell'=true:=by rcases c2.2 with ⟨rfl,_⟩|⟨_,_,_,rfl,_⟩<;>rfl
       exact⟨l,rus,by rw[List.getElem?_set,if_pos rfl,if_pos (by omega)],(⟨c2,c3,c4,c5,c6,c7⟩:si w C.B I rh e' sz' l rus).keep (Mem.dY I) λb hb=>⟨aqF b (ah0 b hb).1 (ah0 b hb).2.1,λ_=>rfl⟩,hone⟩
     ·rw[List.length_append];refine⟨λi' b hi' hb hb'=>?_,λi' j' b hi' hj' hb hb'=>?_⟩
      ·have zf:i'<es.length\/i'=es.length:=by simp at hi';omega
       rcases zf with zf|rfl
       ·rw[alZ i' zf] at hb;rcases hblk b hb' with h|h
        ·exact (aqE i' b zf hb).2 h
        ·have:=(aqE i' b zf hb).1;omega
       ·rw[ahZ] at hb;rcases hblk b hb' with h|h
        ·exact (ah0 b hb).2.1 h
        ·have:=(ah0 b hb).1;omega
      ·have zf:i'<es.length\/i'=es.length:=by simp at hi';omega
       have atQ:j'<es.length\/j'=es.length:=by simp at hj';omega
       rcases zf with zf|rfl<;>rcases atQ with atQ|rfl
       ·rw[alZ i' zf] at hb;rw[alZ j' atQ] at hb';exact q7.2 i' j' b zf atQ hb hb'
       ·rw[alZ i' zf] at hb;rw[ahZ] at hb';exact absurd hb ((ah0 b hb').2.2 i' zf)
       ·rw[ahZ] at hb;rw[alZ j' atQ] at hb';exact absurd hb' ((ah0 b hb).2.2 j' atQ)
       ·rfl
    ·have:Chunk.row (rv+1) e' sz' []=c:=by simpa[bk,Ne.symm hne] using hc
     subst this;exact⟨.slice none 0 0,[],hLr,⟨by simp,.inl ⟨rfl,rfl⟩⟩,c3,by simp,by simp,by simp,λb hb=>by cases hb⟩
   ·rcases hz with rfl|rfl
    ·rw[hLi] at hl;simp only[cv] at hl;subst hl;rcases hb with hb|⟨i',hi',hb⟩
     ·exact (hblk b hb).imp (λh=>⟨z,_,.inl rfl,q1,.inl h⟩) id
     ·have zf:i'<es.length\/i'=es.length:=by omega
      rcases zf with zf|rfl
      ·rw[alZ i' zf] at hb;exact .inl ⟨z,_,.inl rfl,q1,.inr ⟨i',zf,hb⟩⟩
      ·rw[ahZ] at hb;exact .inl ⟨r,_,.inr rfl,c1,hb⟩
    ·rw[hLr] at hl;simp only[cv] at hl;subst hl;cases hb
   ·have hno:∀lz,L' r=some lz->¬ lz.has b:=λlz h2 h3=>by rw[hLr] at h2;simp only[cv] at h2;subst h2;cases h3
    rcases hz with rfl|rfl<;>rcases hz' with rfl|rfl
    ·rfl
    ·exact (hno _ hl' hb').elim
    ·exact (hno _ hl hb).elim
    ·rfl
theorem ao2{o:Oper}{W:Env->ay->Prop}{env:Env}{H:ay}{kf:FuncId}{eR:List AV}{ps:List PV}{id v k:Nat}{e:TypeId}{sz:Nat}{e':TypeId}{sz':Nat}{es es':List (List PV)}(f:Nat->Nat)
  (c:∀di:Nat->Value,(∀i,i<es.length->(di i).oneCell'=true)->kJ P kf v e sz (fA k di es) ps λa c=>a = .row 1000000 (v+1)/\c=some (.row (v+1) e sz (fA k (λi=>di (f i)) es')))
  (hf:∀i,i<es'.length->f i<es.length/\es'[i]? = es[f i]?) (hinj:∀i j,i<es'.length->j<es'.length->f i=f j->i=j)
  (ha:dI o (ev env)=some (kf,.eO id v :: eR)) (hH:H id=some (.deep v e sz k e' sz' es)) (he:eu (gA (agM H id)) eR=some (ps,false))
  (hW:W (cI env o.dst (.eO id (v+1))) (bk H id (.deep (v+1) e sz k e' sz' es'))):jm P o W env H:=.inr (.inr (.inr λC I L tm w σ hs hσ=>by
 obtain⟨bI,us,di,q1,q2,q3,q4,q5,q6,q7⟩:=hs.chunk id _ hH;have hone:∀i,i<es.length->(di i).oneCell'=true:=λi hi=>by obtain⟨l,us',_,_,m3⟩:=q6 i _ (List.getElem?_eq_getElem hi);exact m3
 have hc:=c di hone;obtain⟨vs0,hr,hu⟩:=qi ha hc.1 hσ w;refine⟨kf,_,hr,?_⟩;cases vs0 with
 |nil=>have:=hu.1;simp at this
 |cons u0 vs =>
  have hu0:=hu.2 0 u0 _ rfl rfl;have aIa:u0=bI:=by
   cases hu0 with
   |eO _ _ _ v1 jI _ _ qJ n1 hl hle hh h1=>rw[q1] at hl;simp only[cv,Loc.deep.injEq] at hl;obtain⟨_,e2,_⟩:=hl;subst e2;exact hh (by assumption)
  subst aIa;have aaS:oU I L vs eR:=⟨by simpa using hu.1,λj u c hj hc=>hu.2 (j+1) u c hj hc⟩;obtain⟨k1,_,k3⟩:=ku (o8 hs (ae2 H id) (lT hs.mem) ((qY L w).g _)) eR ps false he vs aaS.1 aaS.2;refine (hc.2 C.B I w u0 us vs hs.leB hs.mem q2 q3 ⟨k1,k3 rfl⟩).mono λx w' ⟨u,a,H',I',L1,m1,⟨m2,m2'⟩,m3,m4⟩=>?_
  subst m2;obtain⟨eX,us',g1,g2,g3,g4,g5,g6,g7⟩:=m4.chunk 1000000 _ m2';have ayf:eX.oneCell'=true:=by rcases g2.2 with ⟨rfl,_⟩|⟨_,_,_,rfl,_⟩<;>rfl
  have hue:u=eX:=by
   cases m3 with
   |row _ _ _ v2 ava sz2 hl hle hh h1=>rw[g1] at hl;simp only[cv,Loc.row.injEq] at hl;obtain⟨e1,e2,_⟩:=hl;subst e2;exact hh e1.symm.symm
  subst hue;have hfr:∀b,b<w.heap.size->u0.ownBlock≠some b->w'.heap[b]? = w.heap[b]?/\∀o,I' b o=I b o:=λb hb hn=>⟨m4.frame b hb hn,λo=>m4.lS b hb hn o⟩
  have hblk:∀b,u.ownBlock=some b->u0.ownBlock=some b\/(w.heap.size<=b/\b<w'.heap.size):=λb hb=>by
   rcases m4.jy 1000000 _ b g1 hb with h|h
   ·exact .inr ⟨h,(m4.fL 1000000 _ b g1 hb).2⟩
   ·exact .inl h
  have hin:∀i b,i<es.length->(di i).ownBlock=some b->b<w.heap.size/\u0.ownBlock≠some b:=λi b hi hb=>⟨(hs.fL id _ b q1 (.inr ⟨i,hi,hb⟩)).2,q7.1 i b hi hb⟩
  let lg:Nat->Value:=λi=>di (f i)
  let L':bB:=cg L id (.deep (v+1) u sz sz' lg es'.length);have hLi:L' id=some (.deep (v+1) u sz sz' lg es'.length):=by simp[L',cg]
  have hle':dK L L':=λj=>by
   by_cases e1:j=id
   ·subst e1;rw[q1];exact⟨v+1,u,lg,es'.length,hLi,by omega,λe=>by omega⟩
   ·have:L' j=L j:=by simp[L',cg,e1]
    rw[this];exact dK.refl L j
  refine⟨u,I',L',.eO id (v+1),_,m1,hW,.eO _ _ _ (v+1) u sz sz' lg es'.length hLi (Nat.le_refl _) (λ_=>rfl) ayf,?_⟩;refine hs.change m4.below (λz=>z=id) (λb hb hnb=>hfr b hb λh2=>hnb ⟨id,_,rfl,q1,.inl h2⟩) hle' m4.kT m4.mem (λz hz=>⟨by simp[L',cg,hz],by simp[bk,hz]⟩) (λz l hz hl=>⟨_,by simp[bk,hz];rfl⟩) (λz c hz hc=>?_) (λz l b hz hl hb=>?_) (λz z' _ _ _ hz hz' _ _ _ _=>by rw[hz,hz'])
  ·subst hz;have:Chunk.deep (v+1) e sz k e' sz' es'=c:=by simpa[bk] using hc
   subst this;refine⟨u,us',lg,hLi,⟨g2,g3,g4,g5,g6,g7⟩,ayf,q4,λy hy=>?_,λi x hx=>?_,λi b hi hb=>?_,λi j b hi hj hb hb'=>?_⟩
   ·obtain⟨i,hi⟩:=List.mem_iff_getElem?.1 hy;rw[(hf i (List.getElem?_eq_some_iff.1 hi).1).2] at hi;exact q5 y (List.mem_of_getElem? hi)
   ·have hi:=(List.getElem?_eq_some_iff.1 hx).1;rw[(hf i hi).2] at hx;obtain⟨l,us2,r1,r2,r3⟩:=q6 (f i) x hx;exact⟨l,us2,r1,r2.keep m4.kT λb hb=>hfr b (hin (f i) b (hf i hi).1 hb).1 (hin (f i) b (hf i hi).1 hb).2,r3⟩
   ·intro hb';have h2:=hin (f i) b (hf i hi).1 hb;rcases hblk b hb' with h|h
    ·exact h2.2 h
    ·omega
   ·exact hinj i j hi hj (q7.2 (f i) (f j) b (hf i hi).1 (hf j hj).1 hb hb')
  ·subst hz;rw[hLi] at hl;simp only[cv] at hl;subst hl;rcases hb with hb|⟨i,hi,hb⟩
   ·exact (hblk b hb).imp (λh=>⟨z,_,rfl,q1,.inl h⟩) id
   ·exact .inl ⟨z,_,rfl,q1,.inr ⟨f i,(hf i hi).1,hb⟩⟩))
mutual
def lF(id:Nat):AV->AV
 | .eO i v=>if i=id then .row i v else .eO i v
 | .kH i v j o=>if i=id then .dead else .kH i v j o
 | .kI i v j=>if i=id then .dead else .kI i v j
 | .nj i v j k o=>if i=id then .dead else .nj i v j k o
 | .row i v=>if i=id then .dead else .row i v
 | .jj i v j o=>if i=id then .dead else .jj i v j o
 | .ptr i o=>if i=id then .dead else .ptr i o
 | .bsl i n=>if i=id then .dead else .bsl i n
 | .iy i v o n m sz=>if i=id then .dead else .iy i v o n m sz
 | .agg cs=>.agg (nP id cs)
 | .dQ cs=>.dQ (nP id cs)
 | .ir f a b=>.ir f (nP id a) (nP id b)
 |x=>x
def nP(id:Nat):List AV->List AV
 | []=>[]
 |a :: r=>lF id a :: nP id r
end
theorem rC{id:Nat} : ∀ {cs:List AV} {j:Nat} {c:AV},(nP id cs)[j]? = some c->∃d,cs[j]? = some d/\c=lF id d
 | [],j,c,h=>by simp[nP] at h
 |a :: r,0,c,h=>by unfold nP at h;simp only[List.getElem?_cons_zero,cv] at h;exact⟨a,rfl,h.symm⟩
 |a :: r,j+1,c,h=>by unfold nP at h;exact rC (cs:=r) (by simpa using h)
theorem nE{id:Nat} : ∀cs:List AV,(nP id cs).length=cs.length
 | []=>rfl
 |a :: r=>by unfold nP;simp[nE r]
def ah1(id:Nat):Chunk->Chunk
 | .box cs=>.box (nP id cs)
 | .deep v e sz k e' sz' es=>.deep v e sz k e' sz' es
 |c=>c
def al0(id:Nat):Option Chunk->Option Chunk
 |some c=>some (ah1 id c)
 |none=>none
def aqG(id:Nat)(env:Env):Env:=λi=>lF id (env i)
def aA2(c:Option Chunk):Option Chunk:=match c with
 |some (.deep v e sz _ _ _ es)=>some (.row v e sz es)
 |c=>c
def aaZ(id:Nat)(H:ay):ay:=λi=>if i=id then aA2 (H i) else al0 id (H i)
theorem eC.flat{J:Mem}{id v:Nat}{bI:Value}{sz sz':Nat}{di:Nat->Value}{n:Nat}(hl:L id=some (.deep v bI sz sz' di n))(sr:I.sub J){u:Value}{a:AV}(h:eC I L u a):eC J (cg L id (.row v bI sz)) u (lF id a):=by
 have kg:∀i,i≠id->cg L id (.row v bI sz) i=L i:=λi hi=>by simp[cg,hi]
 induction h with
 |p u x h=>unfold lF;exact .p u x (h.mono sr)
 |row u i bf v1 jI sz1 mD hle h h1 =>
  unfold lF;split
  ·exact .dead _
  ·exact .row u i bf v1 jI sz1 ((kg i (by assumption)).trans mD) hle h h1
 |ptr i b off mD =>
  unfold lF;split
  ·exact .dead _
  ·exact .ptr i b off ((kg i (by assumption)).trans mD)
 |jj u i bf v1 j off jI sz1 mD hle h h1 =>
  unfold lF;split
  ·exact .dead _
  ·exact .jj u i bf v1 j off jI sz1 ((kg i (by assumption)).trans mD) hle h h1
 |bsl i b n mD =>
  unfold lF;split
  ·exact .dead _
  ·exact .bsl i b n ((kg i (by assumption)).trans mD)
 |iy a i bf v1 off n m c jI sz1 mD hle hn hm hz h =>
  unfold lF;split
  ·exact .dead _
  ·exact .iy a i bf v1 off n m c jI sz1 ((kg i (by assumption)).trans mD) hle hn hm hz h
 |agg us cs mD _ hone ih=>unfold lF;refine .agg us _ (by rw[nE];exact mD) (λj u c hu hc=>?_) hone;obtain⟨d,hd,rfl⟩:=rC hc;exact ih j u d hu hd
 |dQ us cs mD _ ih=>unfold lF;refine .dQ us _ (by rw[nE];exact mD) (λj u c hu hc=>?_);obtain⟨d,hd,rfl⟩:=rC hc;exact ih j u d hu hd
 |ir fn us vs fs cs mD hl2 _ _ ih ih' =>
  unfold lF;refine .ir fn us vs _ _ (by rw[nE];exact mD) (by rw[nE];exact hl2) (λj u c hu hc=>?_) (λj u c hu hc=>?_)
  ·obtain⟨d,hd,rfl⟩:=rC hc;exact ih j u d hu hd
  ·obtain⟨d,hd,rfl⟩:=rC hc;exact ih' j u d hu hd
 |eO u i bf v1 jI s1 s2 qJ n1 mD hle h h1 =>
  unfold lF;split
  ·rename_i e;subst e;rw[hl] at mD;simp only[cv,Loc.deep.injEq] at mD;obtain⟨e1,e2,e3,_⟩:=mD;subst e1 e2 e3;exact .row u i bf v bI sz (by simp[cg]) hle h h1
  ·exact .eO u i bf v1 jI s1 s2 qJ n1 ((kg i (by assumption)).trans mD) hle h h1
 |kH u i bf v1 j off jI s1 s2 qJ n1 mD hle h h1 =>
  unfold lF;split
  ·exact .dead _
  ·exact .kH u i bf v1 j off jI s1 s2 qJ n1 ((kg i (by assumption)).trans mD) hle h h1
 |kI u i bf v1 j jI s1 s2 qJ n1 mD hle h h1 =>
  unfold lF;split
  ·exact .dead _
  ·exact .kI u i bf v1 j jI s1 s2 qJ n1 ((kg i (by assumption)).trans mD) hle h h1
 |nj u i bf v1 j m off jI s1 s2 qJ n1 mD hle h h1 =>
  unfold lF;split
  ·exact .dead _
  ·exact .nj u i bf v1 j m off jI s1 s2 qJ n1 ((kg i (by assumption)).trans mD) hle h h1
 |dead u=>unfold lF;exact .dead u
theorem ayg{w:World}{B:Nat}{bI:Value}{e e':TypeId}{sz k sz':Nat}{es:List (List PV)}{us:List Value}{di:Nat->Value}{J:Mem}(h:si w B I bI e sz (fA k di es) us)(hall:∀x∈es,x.length=sz)
  (hin:au9 w B I k e' sz' di es) (sr:I.sub J) (hJ:∀b i,i<es.length->(di i).ownBlock=some b->∀o v,w.cell? ⟨b,o,none⟩=some v->J b o=some v) :
  ∀ (j:Nat) u c,us[j]? = some u->es.flatten[j]? = some c->VR J u c:=λj u c hu hc=>by
 have hfl:=bH hall;have hjl:j<es.length * sz:=by rw[<-hfl];exact (List.getElem?_eq_some_iff.1 hc).1
 have hpos:=h.pos;have hi:j / sz<es.length:=(Nat.div_lt_iff_lt_mul hpos).2 hjl;have hmm:j % sz<sz:=Nat.mod_lt _ hpos;have hj:j=j / sz * sz+j % sz:=(Nat.div_add_mod' j sz).symm;generalize j / sz=i at *;generalize j % sz=m at *;subst hj;rw[gV hall i m hi hmm] at hc;have xb:=gV h.all i m (by rw[fI];exact hi) hmm;have hg:(fA k di es).getD i []=(es.getD i []).set k (.val (di i)):=by rw[List.getD_eq_getElem?_getD,tT];simp[hi]
 rw[hg] at xb;by_cases hk:k=m
 ·subst hk;have hx:es[i]? = some (es.getD i []):=by simp[hi]
  obtain⟨l,us',q1,q2,q3⟩:=hin i _ hx;rw[q1] at hc;simp only[cv] at hc;subst hc;have hxl:(es.getD i []).length=sz:=hall _ (List.mem_of_getElem? hx);rw[List.getElem?_set,if_pos rfl,if_pos (by rw[hxl];exact hmm)] at xb;have:=h.val _ u _ hu xb;cases this;exact q2.vrJ sr λb hb=>hJ b i hi hb
 ·rw[List.getElem?_set,if_neg hk,hc] at xb;exact (h.val _ u c hu xb).mono sr
open Classical in
noncomputable def Mem.inner(I:Mem)(w:World)(di:Nat->Value)(n:Nat):Mem:=λb o=>if ∃i,i<n/\(di i).ownBlock=some b then w.cell? ⟨b,o,none⟩ else I b o
theorem kj{env:Env}{H:ay}(id v:Nat)(e:TypeId)(sz k:Nat)(e':TypeId)(sz':Nat)(es:List (List PV))(hid:id<1000000)(hH:H id=some (.deep v e sz k e' sz' es)):cU env H (aqG id env) (aaZ id H):=λC I L tm w hs=>by
 obtain⟨bI,us,di,q1,q2,q3,q4,q5,q6,q7⟩:=hs.chunk id _ hH;have hL0:C.L0 id=none:=by
  cases h:C.L0 id with
  |none=>rfl
  |some l=>have:=C.hL0 id l h;omega
 let J:Mem:=I.inner w di es.length;have aCM:∀i b o,i<es.length->(di i).ownBlock=some b->J b o=w.cell? ⟨b,o,none⟩:=λi b o hi hb=>by show I.inner w di es.length b o=_;unfold Mem.inner;rw[if_pos ⟨i,hi,hb⟩]
 have ad8:∀b o,(¬ ∃i,i<es.length/\(di i).ownBlock=some b)->J b o=I b o:=λb o hn=>by show I.inner w di es.length b o=_;unfold Mem.inner;rw[if_neg hn]
 have sr:I.sub J:=λb o u hu=>by
  by_cases h:∃i,i<es.length/\(di i).ownBlock=some b
  ·obtain⟨i,hi,hb⟩:=h;rw[aCM i b o hi hb];exact hs.mem b o u hu
  ·rw[ad8 b o h];exact hu
 have hJw:J.inW w:=λb o u hu=>by
  by_cases h:∃i,i<es.length/\(di i).ownBlock=some b
  ·obtain⟨i,hi,hb⟩:=h;rw[aCM i b o hi hb] at hu;exact hu
  ·rw[ad8 b o h] at hu;exact hs.mem b o u hu
 have ajy:∀i l b,i≠id->L i=some l->l.has b->¬ ∃j,j<es.length/\(di j).ownBlock=some b:=λi l b hi hl hb ⟨j,hj,hjb⟩=>hi (hs.apart i id l _ b hl q1 hb (.inr ⟨j,hj,hjb⟩))
 refine⟨J,cg L id (.row v bI sz),?_⟩;have kg:∀i,i≠id->cg L id (.row v bI sz) i=L i:=λi hi=>by simp[cg,hi]
 exact
 {below:=hs.below
  mem:=hJw
  kT:=Mem.lR hs.kT sr
  lS:=λb hb hf o=>by
   rw[ad8 b o λ⟨i,hi,hib⟩=>?_]
   ·exact hs.lS b hb hf o
   ·rcases hs.jy id _ b q1 (.inr ⟨i,hi,hib⟩) with h|h
    ·omega
    ·exact hf h
  frame:=hs.frame
  loc:=λi=>by
   by_cases hi:i=id
   ·subst hi;rw[hL0];trivial
   ·rw[kg i hi];exact hs.loc i
  jy:=λi l b hl hb=>by
   by_cases hi:i=id
   ·subst hi;have:Loc.row v bI sz=l:=by simpa[cg] using hl
    subst this;exact hs.jy i _ b q1 (.inl hb)
   ·rw[kg i hi] at hl;exact hs.jy i l b hl hb
  size:=hs.size
  env:=λt=>(hs.env t).flat q1 sr
  dom:=λi l hl=>by
   by_cases hi:i=id
   ·subst hi;exact⟨.row v e sz es,by unfold aaZ;rw[if_pos rfl,hH];rfl⟩
   ·rw[kg i hi] at hl;obtain⟨c,hc⟩:=hs.dom i l hl;exact⟨ah1 id c,by unfold aaZ;rw[if_neg hi,hc];rfl⟩
  chunk:=λi c hc=>by
   by_cases hi:i=id
   ·subst hi;unfold aaZ at hc;rw[if_pos rfl,hH] at hc;simp only[aA2,cv] at hc;subst hc;refine⟨bI,us,by simp[cg],?_,q2.pos,q5,λj u c hu hc=>?_,q2.one,λb hb o=>?_⟩
    ·have:=q2.own;rw[fI] at this;exact this
    ·exact ayg q2 q5 q6 sr (λb j hj hb o u hu=>by rw[aCM j b o hj hb];exact hu) j u c hu hc
    ·rw[ad8 b o λ⟨j,hj,hjb⟩=>q7.1 j b hj hjb hb];exact q2.free b hb o
   ·unfold aaZ at hc;rw[if_neg hi] at hc;cases hci:H i with
    |none=>rw[hci] at hc;cases hc
    |some c0 =>
     rw[hci] at hc;simp only[al0,cv] at hc;subst hc;have h0:=hs.chunk i c0 hci;cases c0 with
     |box cs =>
      obtain⟨b,arr,e0,g1,g2,g3,g4,g5,g6⟩:=h0;refine⟨b,arr,e0,(kg i hi).trans g1,g2,by rw[nE];exact g3,λj u c hu hc=>?_,g5,λo=>?_⟩
      ·obtain⟨d,hd,rfl⟩:=rC hc;exact (g4 j u d hu hd).flat q1 sr
      ·rw[ad8 b o (ajy i _ b hi g1 rfl)];exact g6 o
     |row v1 e1 s1 es1=>obtain⟨h1,us1,g1,g2,g3,g4,g5,g6,g7⟩:=h0;exact⟨h1,us1,(kg i hi).trans g1,g2,g3,g4,λj u c hu hc=>(g5 j u c hu hc).mono sr,g6,λb hb o=>by rw[ad8 b o (ajy i _ b hi g1 hb)];exact g7 b hb o⟩
     |shut v1 es1=>obtain⟨h1,s1,g1,g2,g3⟩:=h0;exact⟨h1,s1,(kg i hi).trans g1,g2.mono sr,g3⟩
     |tail v1 e1 s1 es1=>obtain⟨g,o0,cap,arr,g1,g2,g3,g4,g5,g6,g7,g8⟩:=h0;exact⟨g,o0,cap,arr,(kg i hi).trans g1,g2,g3,g4,g5,g6,g7.mono sr,λj a b=>by rw[ad8 g j (ajy i _ g hi g1 rfl)];exact g8 j a b⟩
     |deep v1 e1 s1 k1 e2 s2 es1 =>
      obtain⟨h1,us1,qJ,g1,g2,g3,g4,g5,g6,g7⟩:=h0;have hk:∀b,(Loc.deep v1 h1 s1 s2 qJ es1.length).has b->w.heap[b]? = w.heap[b]?/\∀o,J b o=I b o:=λb hb=>⟨rfl,λo=>ad8 b o (ajy i _ b hi g1 hb)⟩
      refine⟨h1,us1,qJ,(kg i hi).trans g1,g2.keep sr λb hb=>hk b (.inl hb),g3,g4,g5,λj x hx=>?_,g7⟩;obtain⟨l,us2,m1,m2,m3⟩:=g6 j x hx;exact⟨l,us2,m1,m2.keep sr λb hb=>hk b (.inr ⟨j,(List.getElem?_eq_some_iff.1 hx).1,hb⟩),m3⟩
  fL:=λi l b hl hb=>by
   by_cases hi:i=id
   ·subst hi;have:Loc.row v bI sz=l:=by simpa[cg] using hl
    subst this;exact hs.fL i _ b q1 (.inl hb)
   ·rw[kg i hi] at hl;exact hs.fL i l b hl hb
  apart:=λi j li lj b hi hj qX uY=>by
   by_cases ei:i=id<;>by_cases ej:j=id
   ·rw[ei,ej]
   ·subst ei;have:Loc.row v bI sz=li:=by simpa[cg] using hi
    subst this;rw[kg j ej] at hj;exact hs.apart i j _ lj b q1 hj (.inl qX) uY
   ·subst ej;have:Loc.row v bI sz=lj:=by simpa[cg] using hj
    subst this;rw[kg i ei] at hi;exact hs.apart i j li _ b hi q1 qX (.inl uY)
   ·rw[kg i ei] at hi;rw[kg j ej] at hj;exact hs.apart i j li lj b hi hj qX uY }
end Go.cq
namespace Go.cq
open Go.RowKit
variable{P:Program}{I:Mem}{L:bB}
theorem eC.ayh{u:Value}{id v:Nat}{bI:Value}{sz:Nat}(h:eC I L u (.row id v))(hL:L id=some (.row v bI sz)):u=bI:=by
 cases h with
 |row _ _ _ v1 jI sz1 mD hle hh hone=>rw[hL] at mD;simp only[cv,Loc.row.injEq] at mD;obtain⟨r1,r2,r3⟩:=mD;subst r1 r2 r3;exact hh rfl
section
variable{ops:Array Oper}{Q:Exit->Act->World->Prop}{C:Ctx}{env:Env}{H:ay}{tm:Array Value}{w:World}{fuel:Nat}{listed:Array Bool}
end
end Go.cq
namespace Go.cq
open Go.RowKit
variable{P:Program}{I:Mem}{L:bB}
theorem al1{α:Type}{sz:Nat}{es ns:List (List α)}(h:∀x∈es,x.length=sz)(hn:∀x∈ns,x.length=sz)(o:Nat)(ho:o+ns.length<=es.length):(splice es o ns).flatten=splice es.flatten (o * sz) ns.flatten:=by
 have h1:∀n,n<=es.length->(es.take n).flatten=es.flatten.take (n * sz)/\(es.drop n).flatten=es.flatten.drop (n * sz):=λn hn'=>by
  have e1:es.flatten=(es.take n).flatten++(es.drop n).flatten:=by rw[<-List.flatten_append,List.take_append_drop]
  have e2:(es.take n).flatten.length=n * sz:=by rw[bH (sz:=sz) λx hx=>h x (List.mem_of_mem_take hx),List.length_take,Nat.min_eq_left hn']
  rw[e1,<-e2,List.take_left,List.drop_left];exact⟨rfl,rfl⟩
 unfold splice;rw[List.flatten_append,List.flatten_append,(h1 o (by omega)).1,(h1 _ ho).2,bH hn,Nat.add_mul]
theorem ayi{C:Ctx}{env:Env}{H:ay}{tm:Array Value}{w:World}(hs:gU C env H I L tm w){id v:Nat}{e:TypeId}{sz:Nat}{es ns:List (List PV)}(hH:H id=some (.row v e sz es)){g n cap:Nat}(hL:L id=some (.row v (.slice (some ⟨g,0,none⟩) n cap) sz))
  {o:Nat} (ho:o+ns.length<=es.length) (hns:∀x∈ns,x.length=sz) {cs:List Value} (hcl:cs.length=ns.length * sz) (h1:∀v∈cs,v.oneCell'=true) (hv:∀ (j:Nat) u c,cs[j]? = some u->ns.flatten[j]? = some c->VR I u c) :
  ∃cur,w.heap[g]? = some (.cells cur e (0,0))/\(∀j,j<es.length * sz->(cur[j]?).isSome=true)/\o * sz+cs.length<=cur.size/\Fr C I L H w I L (bk H id (.row v e sz (splice es o ns))) (w.setRow g (splice cur.toList (o * sz) cs).toArray):=by
 obtain⟨bI,us,q1,q2,q3,q4,q5,q6,q7⟩:=hs.chunk id _ hH;rw[hL] at q1;simp only[cv,Loc.row.injEq,true_and,and_true] at q1;subst q1;rcases q2.2 with ⟨anf,_⟩|⟨g',cp,cur,heq,hbg,hgg,hnc,hcm,hcz,lC⟩
 ·cases anf
 simp only[Value.slice.injEq,cv,Addr.mk.injEq] at heq;obtain⟨⟨e3,_⟩,e4,e5⟩:=heq;subst e3 e4 e5;have hmul:(o+ns.length) * sz<=es.length * sz:=Nat.mul_le_mul_right _ ho;have aJB:es.length * sz<=cap * sz:=Nat.mul_le_mul_right _ hnc;rw[Nat.add_mul] at hmul;refine⟨cur,hgg,λj hj=>by rw[Array.getElem?_eq_getElem (by omega)];rfl,by omega,λenv tm hs=>?_⟩;have hcu:us.length=es.length * sz:=q2.1;have hsl:(splice es o ns).length=es.length:=ep ho;have e0:cg L id (.row v (.slice (some ⟨g,0,none⟩) es.length cap) sz)=L:=by
  funext i;unfold cg;split
  ·rename_i h;rw[h,hL]
  ·rfl
 have key:=hs.turn (w':=w.setRow g (splice cur.toList (o * sz) cs).toArray) (l':=.row v (.slice (some ⟨g,0,none⟩) es.length cap) sz) (rV _ (hs.fL id _ g hL rfl).1) hL (λk hk hne=>setRow_other w g k _ (λe=>hne (by rw[e];rfl))) (dK.aao hL) (λk hk=>q7 k hk) (.row v e sz (splice es o ns)) (by
  refine⟨.slice (some ⟨g,0,none⟩) es.length cap,splice us (o * sz) cs,by simp[cg],⟨?_,.inr ⟨g,cap,(splice cur.toList (o * sz) cs).toArray,by rw[hsl],hbg,setRow_heap w g cur _ e _ hgg,by rw[hsl];exact hnc,hcm,?_,?_⟩⟩,q3,?_,?_,xh q6 h1,q7⟩
  ·rw[hsl,ep (by omega)];exact hcu
  ·simp only[List.size_toArray];rw[ep (by simp;omega)];simp;omega
  ·rw[hsl];show (splice cur.toList (o * sz) cs).take (es.length * sz)=splice us (o * sz) cs;rw[yQ (by omega) (by simp;omega),lC]
  ·intro z hz;rcases List.mem_append.1 hz with h|h
   ·rcases List.mem_append.1 h with h|h
    ·exact q4 z (List.mem_of_mem_take h)
    ·exact hns z h
   ·exact q4 z (List.mem_of_mem_drop h)
  ·rw[al1 q4 hns o ho];exact abk (by rw[bH q4];exact hcu) (by rw[bH hns];exact hcl) q5 hv) (λk hk=>.inl hk)
 rw[e0] at key;exact key
theorem aqH{C:Ctx}{env:Env}{H:ay}{tm:Array Value}{w:World}(hs:gU C env H I L tm w){id v:Nat}{e:TypeId}{sz:Nat}{es:List (List PV)}(hH:H id=some (.row v e sz es))(h0:0<es.length) :
  ∃g cap,L id=some (.row v (.slice (some ⟨g,0,none⟩) es.length cap) sz)/\es.length<=cap/\∀ {u:Value} {off n m sz':Nat},eC I L u (.iy id v off n m sz')->sz'=sz/\∃a,u = .slice a n (cap-off)/\n<=m/\m<=cap-off/\(a=none->cap-off=0)/\(off<cap\/off=0->a=some ⟨g,off * sz,none⟩):=by
 obtain⟨bI,us,q1,q2,q3,q4,q5,q6,q7⟩:=hs.chunk id _ hH;rcases q2.2 with ⟨_,hn⟩|⟨g,cp,cur,heq,hbg,hgg,hnc,hcm,hcz,lC⟩
 ·omega
 subst heq;refine⟨g,cp,q1,hnc,λ{u off n m sz'} hu=>?_⟩;cases hu with
 |iy a _ _ v1 _ _ _ c jI sz1 mD hle hn hm hz hh=>rw[q1] at mD;simp only[cv,Loc.row.injEq] at mD;obtain⟨r1,r2,r3⟩:=mD;subst r1 r2 r3;obtain⟨ao1,m1,aGG,e1,rfl,ha⟩:=hh rfl;simp only[Value.slice.injEq] at e1;obtain⟨rfl,rfl,rfl⟩:=e1;refine⟨rfl,a,rfl,hn,hm,hz,λh=>?_⟩;rw[ha h];simp[Addr.add_mid]
theorem al2{o:Oper}{W:Env->ay->Prop}{env:Env}{H:ay}(t1 t2:TypeId)(x y:Operand)(id v n m off n' m':Nat)(e:TypeId)(sz qR:Nat)(es:List (List PV))(hop:o.op = .call ⟨.builtin .append,#[x,y],#[t1,t2]⟩)(ht:dw P t1 t2=some (e,sz,qR))
  (hx:ev env x = .iy id v 0 n m sz) (hy:ev env y = .iy id v off n' m' sz) (hH:H id=some (.row v e sz es)) (h0:0<es.length) (hn:n+n'<=m) (hm:m<=es.length) (hoff:off+n'<=es.length)
  (hW:W (cI env o.dst (.iy id v 0 (n+n') m sz)) (bk H id (.row v e sz (splice es n ((es.drop off).take n'))))):jm P o W env H:=by
 refine .inr (.inr (.inl ⟨_,_,hW,λC I L tm w σ hs hσ=>?_⟩));have hxv:=hσ x;have hyv:=hσ y;rw[hx] at hxv;rw[hy] at hyv;obtain⟨rfl,hu,hpos,aaP,i,z,hi,hz,hsz,hby,hzc⟩:=nD ht;obtain⟨g,cap,hL,hnc,hall⟩:=aqH hs hH h0;obtain⟨_,a,e1,a1,a2,a3,a4⟩:=hall hxv;obtain⟨_,b,e2,b1,b2,b3,b4⟩:=hall hyv;have hae:=a4 (.inr rfl);subst hae;rw[Nat.zero_mul] at e1;rw[Nat.sub_zero] at e1 a2;obtain⟨bI,us,q1,q2,q3,q4,q5,q6,q7⟩:=hs.chunk id _ hH;rw[hL] at q1;simp only[cv,Loc.row.injEq,true_and,and_true] at q1;subst q1;have hus:us.length=es.length * sz:=q2.1;have hcell:=q2.cells (g:=g) rfl;have hnl:((es.drop off).take n').length=n':=by rw[List.length_take,List.length_drop];omega
 have hns:∀x∈(es.drop off).take n',x.length=sz:=λx hx=>q4 x (List.mem_of_mem_drop (List.mem_of_mem_take hx))
 have hmul:(off+n') * sz<=es.length * sz:=Nat.mul_le_mul_right _ hoff;rw[Nat.add_mul] at hmul;have aA3:((us.drop (off * sz)).take (n' * sz)).length=n' * sz:=by rw[List.length_take,List.length_drop];omega
 have hfl:((es.drop off).take n').flatten=(es.flatten.drop (off * sz)).take (n' * sz):=by
  have f1:es.flatten=(es.take off).flatten++(es.drop off).flatten:=by rw[<-List.flatten_append,List.take_append_drop]
  have f2:(es.take off).flatten.length=off * sz:=by rw[bH (sz:=sz) λx hx=>q4 x (List.mem_of_mem_take hx),List.length_take,Nat.min_eq_left (by omega)]
  have f3:(es.drop off).flatten=((es.drop off).take n').flatten++((es.drop off).drop n').flatten:=by rw[<-List.flatten_append,List.take_append_drop]
  have f4:((es.drop off).take n').flatten.length=n' * sz:=by rw[bH hns,hnl]
  rw[f1,<-f2,List.drop_left,f3,<-f4,List.take_left]
 have hone:∀u∈(us.drop (off * sz)).take (n' * sz),u.oneCell'=true:=λu hu=>q6 u (List.mem_of_mem_drop (List.mem_of_mem_take hu))
 obtain⟨cur,c1,c2,c3,c4⟩:=ayi hs hH hL (o:=n) (ns:=(es.drop off).take n') (by rw[hnl];omega) hns (cs:=(us.drop (off * sz)).take (n' * sz)) (by rw[aA3,hnl]) hone (λj u c hu hc=>by
  rw[hfl] at hc;rw[List.getElem?_take] at hu hc;split at hu
  ·rename_i hj;rw[if_pos hj,List.getElem?_drop] at hc;rw[List.getElem?_drop] at hu;exact q5 _ u c hu hc
  ·cases hu)
 have hnews:n'=0\/∃bb,b=some bb/\∀ (j:Nat) u,((us.drop (off * sz)).take (n' * sz))[j]? = some u->w.cell? (bb.add j)=some u:=by
  rcases Nat.eq_zero_or_pos n' with h|h
  ·exact .inl h
  ·refine .inr ⟨_,b4 (.inl (by omega)),λj u hu=>?_⟩;rw[List.getElem?_take] at hu;split at hu
   ·rw[List.getElem?_drop] at hu;have:=hcell _ u hu;rw[Addr.add_mid,Nat.zero_add] at this;rw[Addr.add_mid];exact this
   ·cases hu
 have hrun:(execOp σ o).run P w = .ok (.value (.slice (some ⟨g,0,none⟩) (n+n') cap)) (w.setRow g (splice cur.toList (n * sz) ((us.drop (off * sz)).take (n' * sz))).toArray):=by
  unfold execOp;rw[hop];have hst:=run_storeCells_at (P:=P) g (n * sz) e ((us.drop (off * sz)).take (n' * sz)) 0 cur w c1 (by omega) hone;simp only[Nat.add_zero] at hst;have hfc:(Builtin.firstCells sz n' (.slice b n' (cap-off))).run P w = .ok ((us.drop (off * sz)).take (n' * sz)).toArray w:=by
   rcases hnews with h|⟨bb,rfl,hb⟩
   ·subst h;cases b with
    |none=>simp[Builtin.firstCells]
    |some bb=>simpa using run_firstCells_some (P:=P) w sz 0 bb 0 (cap-off) [] (by simp) (λj u hu=>by simp at hu)
   ·exact run_firstCells_some (P:=P) w sz n' bb n' (cap-off) _ aA3 hb
  have hroom:n+n'<=cap:=by omega
  simp[resolve,invoke,builtin,Result.andThen,e1,e2,Builtin.append_,run_underlying hu,sizeOf,typeInfo,hi,hsz,Builtin.lenOf,hroom,hfc,Addr.add_mid,hst,splice]
 exact⟨_,_,I,L,.inl hrun,.iy _ _ _ v _ _ _ cap _ _ hL (Nat.le_refl _) (by omega) (by omega) (λh=>by cases h) (λ_=>⟨_,_,_,rfl,rfl,λ_=>by simp[Addr.add_mid]⟩),c4⟩
theorem rD{o:Oper}{W:Env->ay->Prop}{env:Env}{H:ay}(t:TypeId)(x:Operand)(id v off n m:Nat)(e:TypeId)(sz:Nat)(es:List (List PV))(zs:List Value)(hop:o.op = .call ⟨.builtin .clear,#[x],#[t]⟩)(ht:cM P t=some e)(hz:cN P e=some zs)(hzl:zs.length=sz)(hpos:0<sz)(hzo:zs.all Value.oneCell'=true)
  (hx:ev env x = .iy id v off n m sz) (hH:H id=some (.row v e sz es)) (h0:0<es.length) (hn:off+n<=es.length)
  (hW:W (cI env o.dst (.dQ [])) (bk H id (.row v e sz (splice es off (List.replicate n (zs.map PV.val)))))):jm P o W env H:=by
 refine .inr (.inr (.inl ⟨_,_,hW,λC I L tm w σ hs hσ=>?_⟩));have hxv:=hσ x;rw[hx] at hxv;obtain⟨g,cap,hL,hnc,hall⟩:=aqH hs hH h0;obtain⟨_,a,e1,a1,a2,a3,a4⟩:=hall hxv;have hu:=fB ht;obtain⟨z,hzr,hzc⟩:=wu hz w;have aA3:(List.replicate n zs).flatten.length=n * sz:=by rw[bH (sz:=sz) λx hx=>by rw[List.eq_of_mem_replicate hx];exact hzl,List.length_replicate]
 have hone:∀u∈(List.replicate n zs).flatten,u.oneCell'=true:=λu hu=>by obtain⟨x,hx,hux⟩:=List.mem_flatten.1 hu;rw[List.eq_of_mem_replicate hx] at hux;exact List.all_eq_true.1 hzo u hux
 have aqk:(List.replicate n (zs.map PV.val)).flatten=(List.replicate n zs).flatten.map PV.val:=by simp[List.map_flatten]
 obtain⟨cur,c1,c2,c3,c4⟩:=ayi hs hH hL (o:=off) (ns:=List.replicate n (zs.map PV.val)) (by rw[List.length_replicate];exact hn) (λx hx=>by rw[List.eq_of_mem_replicate hx,List.length_map];exact hzl) (cs:=(List.replicate n zs).flatten) (by rw[aA3,List.length_replicate]) hone (λj u c hu hc=>by
  rw[aqk,List.getElem?_map,hu] at hc;simp at hc;subst hc;exact .val u (hone u (List.mem_of_getElem? hu)))
 rcases Nat.eq_zero_or_pos n with h|h
 ·subst h;have hsp:splice es off (List.replicate 0 (zs.map PV.val))=es:=by simp[splice]
  have hrun:(execOp σ o).run P w = .ok (.value (.tuple #[])) w:=by unfold execOp;rw[hop];cases a<;>simp[resolve,invoke,builtin,Result.andThen,e1,Builtin.clear_,run_underlying hu]
  refine⟨_,_,I,L,.inl hrun,.dQ _ _ rfl (λi u c hu hc=>by simp at hc),λenv tm hs=>?_⟩;rw[hsp];have:bk H id (.row v e sz es)=H:=by
   funext i;unfold bk;split
   ·rename_i h;rw[h,hH]
   ·rfl
  rw[this];exact hs
 ·have hae:=a4 (.inl (by omega));subst hae;have hrun:(execOp σ o).run P w = .ok (.value (.tuple #[])) (w.setRow g (splice cur.toList (off * sz) (List.replicate n zs).flatten).toArray):=by unfold execOp;rw[hop];have hst:=run_storeCells_at (P:=P) g (off * sz) e (List.replicate n zs).flatten 0 cur w c1 (by omega) hone;simp only[Nat.add_zero] at hst;have ab1:Builtin.zeroCells zs.toArray n=(List.replicate n zs).flatten.toArray:=aan zs n (by omega);obtain⟨k,rfl⟩:∃k,n=k+1:=⟨n-1,by omega⟩;simp only[resolve,invoke,builtin,Result.andThen,Builtin.clear_,Sem.run_bind];simp[Result.andThen,e1,run_underlying hu,hzr,hzc,ab1,hst,splice]
  exact⟨_,_,I,L,.inl hrun,.dQ _ _ rfl (λi u c hu hc=>by simp at hc),c4⟩
theorem al3{C:Ctx}{E:Env}{H:ay}{tm:Array Value}{w:World}(hs:gU C E H I L tm w){id v:Nat}{e:TypeId}{sz:Nat}{es:List (List PV)}{u:Value}(hv:eC I L u (.row id v))(hH:H id=some (.row v e sz es)):eC I L u (.iy id v 0 es.length es.length sz):=by
 obtain⟨bI,us,q1,q2,q3,q4,q5,q6,q7⟩:=hs.chunk id _ hH;rw[hv.ayh q1];rcases q2.2 with ⟨e1,hn⟩|⟨g,cap,cur,e1,_,_,hnc,_⟩
 ·subst e1;rw[hn];exact .iy _ _ _ v _ _ _ 0 _ _ q1 (Nat.le_refl _) (by omega) (by omega) (λ_=>rfl) (λ_=>⟨none,0,0,rfl,rfl,λ_=>rfl⟩)
 ·subst e1;exact .iy _ _ _ v _ _ _ cap _ _ q1 (Nat.le_refl _) (by omega) hnc (λh=>by cases h) (λ_=>⟨_,_,cap,rfl,rfl,λ_=>by simp[Addr.add_mid]⟩)
theorem nF{E:Env}{H:ay}(t id v:Nat)(e:TypeId)(sz:Nat)(es:List (List PV))(ht:E t = .row id v)(hH:H id=some (.row v e sz es)):cU E H (cE E t (.iy id v 0 es.length es.length sz)) H:=λC I L tm w hs=>by
 refine⟨I,L,{ hs with env:=λi=>?_ }⟩;unfold cE;split
 ·rename_i hi;rw[hi];exact al3 hs (ht ▸ hs.env t) hH
 ·exact hs.env i
theorem ayj{C:Ctx}{E:Env}{H:ay}{tm:Array Value}{w:World}(hs:gU C E H I L tm w){id v n m:Nat}{e:TypeId}{sz:Nat}{es:List (List PV)}{ux:Value}(hxv:eC I L ux (.iy id v 0 n m sz))(hH:H id=some (.row v e sz es))(hn:n<=es.length) :
  ∃L',eC I L' ux (.row id (v+1))/\gU C E (bk H id (.row (v+1) e sz (es.take n))) I L' tm w:=by
 obtain⟨bI,us,q1,q2,q3,q4,q5,q6,q7⟩:=hs.chunk id _ hH;cases hxv with
 |iy a _ _ v1 _ _ _ c jI sz1 mD hle hnm hm hz hh =>
  rw[q1] at mD;simp only[cv,Loc.row.injEq,and_true] at mD;obtain⟨r1,r2⟩:=mD;subst r1;subst r2;obtain⟨ao,k,cap,e1,rfl,ha⟩:=hh rfl;have ha':a=ao:=by
   have:=ha (.inr rfl);rw[this];rcases q2.2 with ⟨e2,_⟩|⟨g,cap',cur,e2,_⟩
   ·rw[e1] at e2;simp only[Value.slice.injEq] at e2;rw[e2.1];rfl
   ·rw[e1] at e2;simp only[Value.slice.injEq] at e2;rw[e2.1];simp[Addr.add_mid]
  subst ha';have hms:n * sz<=es.length * sz:=Nat.mul_le_mul_right _ hn;have htl:(es.take n).length=n:=by rw[List.length_take];omega
  have hus:us.length=es.length * sz:=q2.1;have hfl:(es.take n).flatten=es.flatten.take (n * sz):=by
   have h1:es.flatten=(es.take n).flatten++(es.drop n).flatten:=by rw[<-List.flatten_append,List.take_append_drop]
   have h2:(es.take n).flatten.length=n * sz:=by rw[bH (sz:=sz) λx hx=>q4 x (List.mem_of_mem_take hx),htl]
   rw[h1,<-h2,List.take_left]
  have aCN:∀ (eX:Value),w.ownsRow C.B e sz eX n (us.take (n * sz))->(∀b,eX.ownBlock=some b->bI.ownBlock=some b)->qh I (cg L id (.row (v+1) eX sz)) w C.B id (.row (v+1) e sz (es.take n)):=λeX ho hb=>by
   refine⟨eX,us.take (n * sz),by simp[cg],by rw[htl];exact ho,q3,λx hx=>q4 x (List.mem_of_mem_take hx),λj u c hu hc=>?_,λu hu=>q6 u (List.mem_of_mem_take hu),λb h=>q7 b (hb b h)⟩;rw[List.getElem?_take] at hu;rw[hfl,List.getElem?_take] at hc;split at hu
   ·rename_i hj;rw[if_pos hj] at hc;exact q5 j u c hu hc
   ·cases hu
  have key:∀eX:Value,eX = .slice a n c->w.ownsRow C.B e sz eX n (us.take (n * sz))->(∀b,eX.ownBlock=some b->bI.ownBlock=some b)->∃L',eC I L' (.slice a n c) (.row id (v+1))/\gU C E (bk H id (.row (v+1) e sz (es.take n))) I L' tm w:=λeX he ho hb=>⟨cg L id (.row (v+1) eX sz),.row _ _ _ (v+1) eX sz (by simp[cg]) (Nat.le_refl _) (λ_=>he.symm) rfl,hs.turn (Below.refl _ _) q1 (λ_ _ _=>rfl) (dK.aeX q1) (λb hb o=>q7 b hb o) _ (aCN eX ho hb) (λb hbb=>.inl (hb b hbb))⟩
  rcases q2.2 with ⟨e2,hz0⟩|⟨g,cap',cur,e2,hb,hg,hnc,hcm,hcs,lC⟩
  ·rw[e1] at e2;simp only[Value.slice.injEq] at e2;obtain⟨rfl,rfl,rfl⟩:=e2;have hn0:n=0:=by omega
   subst hn0;exact key _ rfl ⟨by simp,.inl ⟨rfl,rfl⟩⟩ (λb hb=>by cases hb)
  ·rw[e1] at e2;simp only[Value.slice.injEq] at e2;obtain⟨rfl,rfl,rfl⟩:=e2;refine key _ rfl ⟨?_,.inr ⟨g,c,cur,rfl,hb,hg,by omega,hcm,hcs,?_⟩⟩ (λb hb=>by rw[e1];exact hb)
   ·rw[List.length_take];omega
   ·rw[<-lC,List.take_take,Nat.min_eq_left hms]
theorem rE{f:FuncId}{v:Nat}{e:TypeId}{sz:Nat}{es R:List (List PV)}{ps:List PV}(h:kJ P f v e sz es ps λa c=>∃es' n m,(a = .iy 1000000 v 0 n m sz\/(a = .row 1000000 v/\n=es'.length))/\c=some (.row v e sz es')/\n<=es'.length/\es'.take n=R) :
  kJ P f v e sz es ps λa c=>a = .row 1000000 (v+1)/\c=some (.row (v+1) e sz R) :=
 ⟨h.1,λB I w bI us vs hB hI hr h1 hv=>(h.2 B I w bI us vs hB hI hr h1 hv).mono λ_ _ ⟨u,a,H',I',L',q1,⟨es',n,m,q2,q3,q6,q7⟩,q4,q5⟩=>by
  subst q7;rcases q2 with rfl|⟨rfl,rfl⟩
  ·obtain⟨L2,h1,h2⟩:=ayj q5 q4 q3 q6;exact⟨u,_,_,I',L2,q1,⟨rfl,by simp[bk]⟩,h1,h2⟩
  ·obtain⟨L2,h1,h2⟩:=ayj q5 (al3 q5 q4 q3) q3 (Nat.le_refl _);exact⟨u,_,_,I',L2,q1,⟨rfl,by simp[bk]⟩,h1,h2⟩⟩
theorem aqI{o:Oper}{W:Env->ay->Prop}{env:Env}{H:ay}(t:TypeId)(x lo hi mx:Operand)(s id v:Nat)(e:TypeId)(sz:Nat)(es:List (List PV))(k1 k2 k3:IntKind)(l h m:Int)(hop:o.op = .slice t x (some lo) (some hi) (some mx))(ht:cM P t=some e)(hsz:bz P e=some sz)
  (hs0:env s = .row id v) (hx:ev (cE env s (.iy id v 0 es.length es.length sz)) x = .row id v) (hlo:ev (cE env s (.iy id v 0 es.length es.length sz)) lo = .p (.val (.int k1 l))) (hhi:ev (cE env s (.iy id v 0 es.length es.length sz)) hi = .p (.val (.int k2 h))) (hmx:ev (cE env s (.iy id v 0 es.length es.length sz)) mx = .p (.val (.int k3 m)))
  (hH:H id=some (.row v e sz es)) (hb:0<=l/\l<=h/\h<=m/\m<=es.length) (hW:W (cI (cE env s (.iy id v 0 es.length es.length sz)) o.dst .dead) H):jm P o W env H:=by
 refine tW (nF s id v e sz es hs0 hH) (.inr (.inl ⟨.dead,H,hW,λC I L tm w σ hs hσ=>?_⟩));have hxv:=hσ x;have hlv:=(hlo ▸ hσ lo).eM.1;have hhv:=(hhi ▸ hσ hi).eM.1;have hmv:=(hmx ▸ hσ mx).eM.1;rw[hx] at hxv;obtain⟨bI,us,q1,q2,q3,q4,q5,q6,q7⟩:=hs.chunk id _ hH;have hu:=hxv.ayh q1;obtain⟨b0,b1,b2,b3⟩:=hb;obtain⟨a,cap,e1,hcap⟩:∃a cap,bI = .slice a es.length cap/\es.length<=cap:=by
  rcases q2.2 with ⟨e1,hn⟩|⟨g,cap,cur,e1,_,_,hnc,_⟩
  ·exact⟨none,0,by rw[hn];exact e1,by omega⟩
  ·exact⟨_,cap,e1,hnc⟩
 have h4:m<=(cap:Int):=by omega
 have hrun:(execOp σ o).run P w = .ok (.value (.slice (if m.toNat=l.toNat then a else a.map (·.add (l.toNat * sz))) (h.toNat-l.toNat) (m.toNat-l.toNat))) w:=by unfold execOp;rw[hop];simp only[Option.map_some,hu,hlv,hhv,hmv,e1];rw[run_lift];simp[Instr.sliceAt,Instr.slice,run_underlying (fB ht),wq (P:=P) (isS:=true) (lo:=some (.int k1 l)) (.inr ⟨k1,rfl⟩) b0 b1 b2 h4,dR hsz,Result.andThen]
 exact .still hrun (.dead _)
variable{t:TypeId}
def slR(e:Option TypeId)(f:TypeId->Option Nat)(a b:Option Int)(id bf off m sz:Nat):Option (Prop×AV):=match e,a,b with
 |some e,some l,some h=>(match f e with
  |some sz'=>some ((0<=l/\l<=h/\h<=m)/\sz'=sz,.iy id bf (off+l.toNat) (h.toNat-l.toNat) (m-l.toNat) sz)
  |none=>none)
 |_,_,_=>none
theorem al4{id bf off n m sz:Nat}{lo hi:Option AV} : sP P t (.iy id bf off n m sz) lo hi none=slR (cM P t) (bz P) (bnd 0 lo) (bnd n hi) id bf off m sz:=by unfold sP slR;simp only[];all_goals(cases cM P t<;>cases bnd 0 lo<;>cases bnd n hi<;>rfl)
theorem ayk(e:TypeId)(f:TypeId->Option Nat)(l h:Int)(id bf off m sz:Nat):slR (some e) f (some l) (some h) id bf off m sz=(match f e with
  |some sz'=>some ((0<=l/\l<=h/\h<=m)/\sz'=sz,.iy id bf (off+l.toNat) (h.toNat-l.toNat) (m-l.toNat) sz)
  |none=>none):=rfl
theorem atS{H:ay}{id bf off n m sz:Nat}(h:isSlice P t=true):aen P t (.iy id bf off n m sz) H=some (True,.p (.val (.int .i64 n)),H):=by simp[aen,qK,h,up3]
def aCO(r:Option (Nat×List (List PV)))(e:Option TypeId)(f:TypeId->Option Nat)(id bf off m:Nat)(n:Int)(H:ay):Option (Prop×AV×ay):=match r,e with
 |some (sz,es),some e=>(match f e with
  |some sz'=>some ((0<=n/\n<m/\off+m<=es.length)/\sz'=sz,.jj id bf (off+n.toNat) 0,H)
  |none=>none)
 |_,_=>none
theorem al5{H:ay}{id bf off m m' z:Nat}{k:IntKind}{a:Int} : oZ P t (.iy id bf off m m' z) (.p (.val (.int k a))) H=aCO (ac4 H id bf) (cM P t) (bz P) id bf off m a H:=by unfold oZ aCO;simp only[];all_goals(cases ac4 H id bf<;>cases cM P t<;>rfl)
theorem atT(sz:Nat)(es:List (List PV))(e:TypeId)(f:TypeId->Option Nat)(id bf off m:Nat)(n:Int)(H:ay):aCO (some (sz,es)) (some e) f id bf off m n H=(match f e with
  |some sz'=>some ((0<=n/\n<m/\off+m<=es.length)/\sz'=sz,.jj id bf (off+n.toNat) 0,H)
  |none=>none):=rfl
theorem aA4(H:ay)(id bf:Nat):ac4 H id bf=(match H id with
 |some (.row v _ sz es)=>if v=bf then some (sz,es) else none
 |_=>none):=by
 unfold ac4;cases H id with
 |none=>rfl
 |some c=>cases c<;>rfl
attribute [go_sem] al4 ayk atS al5 atT aA4
end Go.cq
namespace Go.cq
open Go.RowKit
variable{P:Program}{t:TypeId}
theorem atU(H:ay)(id bf:Nat):cH H id bf=(match H id with
 |some (.deep v _ _ k _ _ es)=>if v=bf then some (k,es) else none
 |_=>none):=by
 unfold cH;cases H id with
 |none=>rfl
 |some c=>cases c<;>rfl
def aEp(x:Option PV):Option (List (List PV)):=match x with
 |some (.aV l)=>some l
 |_=>none
theorem ayl(l:List (List PV)):aEp (some (.aV l))=some l:=rfl
theorem ao3(k:Nat)(es:List (List PV))(i:Nat):nk (some (k,es)) i=aEp ((es.getD i [])[k]?):=rfl
theorem atV(id bf i k:Nat)(x:List PV):abi id bf i k x=(x.map AV.p).set k (.kI id bf i):=rfl
theorem ao4(H:ay)(id bf i off:Nat):ae6 P t (.kH id bf i off) H=(match cH H id bf with
   |some (k,es)=>(match sk P t (abi id bf i k (es.getD i [])) off with|some v=>some (i<es.length,v,H)|none=>none)
   |none=>none):=rfl
theorem ao5(H:ay)(id bf i j off:Nat):ae6 P t (.nj id bf i j off) H=(match nk (cH H id bf) i with
   |some l=>(match sq P t (l.getD j []) off with|some x=>some (j<l.length,.p x,H)|none=>none)
   |none=>none):=rfl
theorem al6(H:ay)(o n:Nat)(id bf i off:Nat):ade P (some (o,n)) (.kH id bf i off) H=(match cH H id bf with
   |some _=>some (n≠0,.kH id bf i (off+o),H)
   |none=>none):=rfl
def aCP(r:Option (Nat×List (List PV)))(e:Option TypeId)(f:TypeId->Option Nat)(id bf:Nat)(n:Int)(H:ay):Option (Prop×AV×ay):=match r,e with
 |some (_,es),some e=>(match f e with
  |some sz=>some ((0<=n/\n<es.length)/\(es.getD n.toNat []).length=sz,.kH id bf n.toNat 0,H)
  |none=>none)
 |_,_=>none
theorem al7{H:ay}{id bf:Nat}{k:IntKind}{a:Int} : oZ P t (.eO id bf) (.p (.val (.int k a))) H=aCP (cH H id bf) (cM P t) (bz P) id bf a H:=by unfold oZ aCP;simp only[];all_goals(cases cH H id bf<;>cases cM P t<;>rfl)
theorem atW(k:Nat)(es:List (List PV))(e:TypeId)(f:TypeId->Option Nat)(id bf:Nat)(n:Int)(H:ay):aCP (some (k,es)) (some e) f id bf n H=(match f e with
  |some sz=>some ((0<=n/\n<es.length)/\(es.getD n.toNat []).length=sz,.kH id bf n.toNat 0,H)
  |none=>none):=rfl
def aCQ(r:Option (List (List PV)))(e:Option TypeId)(f:TypeId->Option Nat)(id bf i:Nat)(n:Int)(H:ay):Option (Prop×AV×ay):=match r,e with
 |some l,some e=>(match f e with
  |some sz=>some ((0<=n/\n<l.length)/\(l.getD n.toNat []).length=sz,.nj id bf i n.toNat 0,H)
  |none=>none)
 |_,_=>none
theorem al8{H:ay}{id bf i:Nat}{k:IntKind}{a:Int} : oZ P t (.kI id bf i) (.p (.val (.int k a))) H=aCQ (nk (cH H id bf) i) (cM P t) (bz P) id bf i a H:=by unfold oZ aCQ;simp only[];all_goals(cases nk (cH H id bf) i<;>cases cM P t<;>rfl)
theorem atX(l:List (List PV))(e:TypeId)(f:TypeId->Option Nat)(id bf i:Nat)(n:Int)(H:ay):aCQ (some l) (some e) f id bf i n H=(match f e with
  |some sz=>some ((0<=n/\n<l.length)/\(l.getD n.toNat []).length=sz,.nj id bf i n.toNat 0,H)
  |none=>none):=rfl
theorem atY{H:ay}{id bf i:Nat}(h:isSlice P t=true):aen P t (.kI id bf i) H=(match nk (cH H id bf) i with
  |some l=>some (True,.p (.val (.int .i64 l.length)),H)
  |none=>none):=by
 simp only[aen,qK,h];all_goals(cases nk (cH H id bf) i<;>rfl)
theorem ao6(H:ay)(id bf:Nat):gA H (.eO id bf)=p4 H (.eO id bf):=rfl
theorem ao7(H:ay)(id bf:Nat):p4 H (.eO id bf)=(match cH H id bf with
  |some (_,es)=>some (.aV es,true)
  |none=>none):=rfl
theorem ao8(H:ay)(id bf i:Nat):od H (.kI id bf i)=p4 H (.kI id bf i):=rfl
theorem ao9(H:ay)(id bf i:Nat):p4 H (.kI id bf i)=(match nk (cH H id bf) i with
  |some l=>some (.aV l,true)
  |none=>none):=rfl
theorem alu{H' H:ay}{id v:Nat}{e:TypeId}{sz k:Nat}{e':TypeId}{sz':Nat}{es:List (List PV)}(h:ql H' H):ql (bk H' id (.deep v e sz k e' sz' es)) H:=λi c' hi=>by
 unfold bk at hi;split at hi
 ·cases hi
 ·exact h i c' hi
def rvD(c:Option Chunk)(id bf:Nat):Option (RV×List Nat):=match c with
 |some (.deep v e sz k e' sz' es)=>if v=bf then some (.deep e sz k e' sz' es,[id]) else none
 |_=>none
theorem at0(H:ay)(id bf:Nat):pR H (.eO id bf)=rvD (H id) id bf:=by unfold rvD;simp only[pR];try rfl
theorem aym(v:Nat)(e:TypeId)(sz k:Nat)(e':TypeId)(sz':Nat)(es:List (List PV))(id bf:Nat):rvD (some (.deep v e sz k e' sz' es)) id bf=if v=bf then some (.deep e sz k e' sz' es,[id]) else none:=rfl
theorem al9(n:Nat)(e:TypeId)(sz k:Nat)(e':TypeId)(sz':Nat)(es:List (List PV)):cO n (.deep e sz k e' sz' es)=(.eO n 0,n+1):=by simp only[cO]
theorem ama(n:Nat)(H:ay)(e:TypeId)(sz k:Nat)(e':TypeId)(sz':Nat)(es:List (List PV)):gi n H (.deep e sz k e' sz' es)=bk H n (.deep 0 e sz k e' sz' es):=by simp only[gi]
theorem ajz(id v:Nat):b5 (.eO id v)=[.eO id v]:=rfl
theorem apa(id v:Nat):n9 (.eO id v)=true:=rfl
attribute [go_sem] at0 aym al9 ama ajz apa
def bcA(P:Program)(e:Option TypeId)(n:Nat)(parts:List (Nat×AV)):Option (TypeId×List AV):=match e with
 |some e=>(match bz P e,cN P e with
  | some sz, some zs => if zs.length = sz ∧ 0 < sz ∧ n * sz ≤ 16777216 ∧ zs.all (·.oneCell') = true then
    (match qQ (λi=>some (i * sz,sz)) (iD zs n) parts with
    |some cs=>some (e,cs)
    |none=>none)
   else none
  |_,_=>none)
 |none=>none
theorem apb(n:Nat)(parts:List (Nat×AV)):vm P t n parts=bcA P (cM P t) n parts:=by
 unfold vm bcA;cases cM P t with
 |none=>rfl
 |some e=>simp only[];all_goals(cases bz P e<;>cases cN P e<;>rfl)
theorem ayn(e:TypeId)(n:Nat)(parts:List (Nat×AV)):bcA P (some e) n parts=(match bz P e,cN P e with
  | some sz, some zs => if zs.length = sz ∧ 0 < sz ∧ n * sz ≤ 16777216 ∧ zs.all (·.oneCell') = true then
    (match qQ (λi=>some (i * sz,sz)) (iD zs n) parts with
    |some cs=>some (e,cs)
    |none=>none)
   else none
  |_,_=>none):=rfl
attribute [go_sem] apb ayn
theorem ayo(id off:Nat):arf (.ptr id off)=some (True,.ptr id off):=rfl
theorem at1(cs:List PV)(off:Nat):arf (.p (.dW cs off))=some (True,.p (.dW cs off)):=rfl
attribute [go_sem] ayo at1
def aBT(a:Option AV)(H:ay)(Q:AV->ay->Prop):Prop:=match a with
 |some a=>Q a H
 |none=>False
theorem ayp(rs:List ResultVar)(Q:AV->ay->Prop)(env:Env)(H:ay):aEi P rs Q .ret env H=aBT (pe P env H rs) H Q:=rfl
theorem apc(a:AV)(H:ay)(Q:AV->ay->Prop):aBT (some a) H Q=Q a H:=rfl
attribute [go_sem] ayp apc
theorem at2(id bf i:Nat)(l:List AV):tB (.kI id bf i :: l)=none:=rfl
theorem at3(id bf:Nat)(l:List AV):tB (.eO id bf :: l)=none:=rfl
theorem at4(t1 t2:TypeId)(id v o n m z:Nat)(b:AV)(H:ay):aeo P t1 t2 (.iy id v o n m z) b H=none:=by
 unfold aeo;have h1:ac3 P t1 t2 (.iy id v o n m z) b=none:=by unfold ac3;cases dw P t1 t2<;>rfl
 have h2:ab0 P t1 t2 (.iy id v o n m z) b H=none:=by unfold ab0;cases dw P t1 t2<;>rfl
 rw[h1,h2]
theorem at5(t1 t2:TypeId)(id v:Nat)(b:AV)(H:ay):aeo P t1 t2 (.eO id v) b H=none:=by
 unfold aeo;have h1:ac3 P t1 t2 (.eO id v) b=none:=by unfold ac3;cases dw P t1 t2<;>rfl
 have h2:ab0 P t1 t2 (.eO id v) b H=none:=by unfold ab0;cases dw P t1 t2<;>rfl
 rw[h1,h2]
theorem at6{o:Option Tmp}{xs:Array Operand}{ts:Array TypeId}{ty:TypeId}{pos:String}{af:Array Edge}{g:Option (Nat×Bool)}{ρ:Operand->AV}{H:ay} : gj P ⟨o,.call ⟨.builtin .clear,xs,ts⟩,ty,pos,af,g⟩ ρ H=none:=by simp[gj,oc,rU,mR,xe,yy,wz,xo,ur]
attribute [go_sem] at4 at5 at6 atU ayl ao3 atV ao4 ao5 al6 al7 atW al8 atX atY ao6 ao7 ao8 ao9 at2 at3
end Go.cq
namespace Go.Proofs.YtjhkgjlmiolfoaaGreat
open Go.cq
structure ah where
 id:Int
 type:Int
 values:List Int
structure au where
 id:Int
 type:Int
 src:Int
 dst:Int
structure aK where
 id:Int
 attr:Int
 old:Int
 new:Int
structure aI where
 kind:Int
 id:Int
 attr:Int
instance:Inhabited ah:=⟨⟨0,0,[]⟩⟩
instance:Inhabited au:=⟨⟨0,0,0,0⟩⟩
instance:Inhabited aK:=⟨⟨0,0,0,0⟩⟩
instance:Inhabited aI:=⟨⟨0,0,0⟩⟩
structure cu where
 x0:Int
 x1:Int
structure aG where
 az:List ah
 aF:List au
 aR:List ah
 aP:List au
 values:List aK
 next:cu
structure ax where
 host:Host
 nodes:List Int
 ak:List Int
 next:Int
def ag(x:ah):List PV:=[.val (.int .i64 x.id),.val (.int .i64 x.type),.aV (x.values.map encI)]
def aj(x:au):List PV:=[.val (.int .i64 x.id),.val (.int .i64 x.type),.val (.int .i64 x.src),.val (.int .i64 x.dst)]
def aH(x:aK):List PV:=[.val (.int .i64 x.id),.val (.int .i64 x.attr),.val (.int .i64 x.old),.val (.int .i64 x.new)]
def aB(x:aI):List PV:=[.val (.int .i64 x.kind),.val (.int .i64 x.id),.val (.int .i64 x.attr)]
def aD(x:aG):List PV:=[.aV (x.az.map ag),.aV (x.aF.map aj),.aV (x.aR.map ag),.aV (x.aP.map aj),.aV (x.values.map aH),.val (.int .i64 x.next.x0),.val (.int .i64 x.next.x1)]
def aA(x:ax):List PV:=[.aV (x.host.graph.nodes.map encI),.aV (x.host.graph.ak.map aZ),.aV (x.host.values.map bJ),.aV (x.nodes.map encI),.aV (x.ak.map encI),.val (.int .i64 x.next)]
section
variable{α:Type}
theorem adv{p:α->Bool}{l:List α}(h:idxOf p l = -1):l.filter (λx=>!p x)=l:=by
 unfold idxOf at h;cases hf:l.findIdx? p with
 |none=>rw[List.findIdx?_eq_none_iff] at hf;rw[List.filter_eq_self];intro x hx;simp[hf x hx]
 |some i=>rw[hf] at h;simp only at h;omega
theorem adw [Inhabited α]{p:α->Bool}{l:List α}(h:idxOf p l≠-1):∃k:Nat,idxOf p l=k/\k<l.length/\(l.take k).filter (λx=>!p x)=l.take k/\p (l.getD k default)=true:=by
 unfold idxOf at h ⊢;cases hf:l.findIdx? p with
 |none=>rw[hf] at h;exact absurd rfl h
 |some i =>
  rw[List.findIdx?_eq_some_iff_getElem] at hf;obtain⟨hi,h1,h2⟩:=hf;refine⟨i,rfl,hi,?_,by simpa[hi] using h1⟩;rw[List.filter_eq_self];intro x hx;obtain⟨j,hj,rfl⟩:=List.getElem_of_mem hx;have hj':j<i:=by simp at hj;omega
  have:=h2 j hj';simpa using this
def fN(p:α->Bool)(l g:List α)(j:Nat):List α:=(l.take j).filter (λx=>!p x)++g++l.drop j
theorem adx(p:α->Bool)(l g:List α)(j i:Nat)(hi:((l.take j).filter λx=>!p x).length=i)(hg:i+g.length=j)(hj:j<=l.length):(fN p l g j).length=l.length:=by simp[fN,hi];omega
theorem afJ [Inhabited α](p:α->Bool)(l g:List α)(j i:Nat)(hi:((l.take j).filter λx=>!p x).length=i)(hg:i+g.length=j)(hj:j<l.length):(fN p l g j).getD j default=l.getD j default:=by
 have h1:((l.take j).filter (λx=>!p x)++g).length=j:=by rw[List.length_append,hi,hg]
 simp only[fN,List.getD_eq_getElem?_getD];rw[List.getElem?_append_right (by omega),h1,Nat.sub_self,List.getElem?_drop,Nat.add_zero]
theorem oG [Inhabited α](p:α->Bool)(l g:List α)(j:Nat)(hj:j<l.length)(hp:p (l.getD j default)=true):fN p l g j=fN p l (g++[l.getD j default]) (j+1)/\(l.take (j+1)).filter (λx=>!p x)=(l.take j).filter (λx=>!p x):=by
 have h1:(l.take (j+1)).filter (λx=>!p x)=(l.take j).filter (λx=>!p x):=by rw[oh hj,List.filter_append,List.filter_cons_of_neg (by rw[hp];simp),List.filter_nil,List.append_nil]
 refine⟨?_,h1⟩;unfold fN;rw[h1];have h2:l.drop j=l.getD j default :: l.drop (j+1):=by rw[List.drop_eq_getElem_cons hj];simp[hj]
 rw[h2];simp
theorem abB [Inhabited α](p:α->Bool)(l:List α)(y:α)(g:List α)(j i:Nat)(hi:((l.take j).filter λx=>!p x).length=i)(hj:j<l.length)(hp:p (l.getD j default)=false) :
  (fN p l (y :: g) j).set i (l.getD j default)=fN p l (g++[l.getD j default]) (j+1)/\(l.take (j+1)).filter (λx=>!p x)=(l.take j).filter (λx=>!p x)++[l.getD j default]:=by
 have h1:(l.take (j+1)).filter (λx=>!p x)=(l.take j).filter (λx=>!p x)++[l.getD j default]:=by rw[oh hj,List.filter_append,List.filter_cons_of_pos (by rw[hp];rfl),List.filter_nil]
 refine⟨?_,h1⟩;unfold fN;rw[h1];have h2:l.drop j=l.getD j default :: l.drop (j+1):=by rw[List.drop_eq_getElem_cons hj];simp[hj]
 rw[h2];rw[List.append_assoc,List.set_append_right _ _ (by omega),hi,Nat.sub_self];simp
theorem apd(enc:α->List PV)(z:List PV)(p:α->Bool)(l g:List α)(i:Nat)(hi:(l.filter λx=>!p x).length=i):(splice ((fN p l g l.length).map enc) i (List.replicate (l.length-i) z)).take i=(l.filter λx=>!p x).map enc:=by
 unfold fN splice;rw[List.take_length,List.drop_length,List.append_nil,List.map_append,List.append_assoc];have h2:((l.filter λx=>!p x).map enc).length=i:=by rw[List.length_map];exact hi
 rw[<-h2,List.take_left,List.take_left]
end
theorem zg(p:ah->Bool)(l:List ah)(hl:l.length<=1000000)(k:FuncId)(fs cs:List PV)(hp:∀x∈l,aS pw k (fs++[pA (ag x)]++cs) (λr=>r = .val (.bool (p x)))) :
  aS pw 238 [.aV (l.map ag),.ir (.func k) fs cs] (λr=>r = .val (.int .i64 (idxOf p l))):=by
 refine aQ [] func238 ?_;rw[ntmps238,results238];simp only[go_sem];refine bM (σ:=Nat) (λx=>(cE (cE (cE (cE fT 0 (.p (.aV (l.map ag)))) 1 (.p (.ir (.func k) fs cs))) 7 (.p (.val (.int .i64 l.length)))) 8 (.p (.val (.int .i64 x))))) (λx=>ck)
  (λx=>x<=l.length/\∀j,j<x->p (l.getD j default)=false) (λx=>l.length-x) 0 ⟨Nat.zero_le _,λj hj=>absurd hj (Nat.not_lt_zero j)⟩ bX ?_
 rintro x ⟨hx,hq⟩;simp only[go_sem];refine aL (λhc=>?_) (λhc=>?_)
 ·have hlt:x<l.length:=by simpa using hc
  simp only[go_sem,getD_map ag hlt,hlt,ag];refine aY (hp (l.getD x default) (by simp[hlt])) (by simp only[go_sem,jM,jL,ag,pA,Bool.or_false,Bool.false_or]<;>rfl) (b6 rfl) ?_;simp only[go_sem];refine aL (λhb=>?_) (λhb=>?_)<;>simp only[go_sem]
  ·exact (pF hlt hq hb).symm
  ·refine bN (x+1) ⟨hlt,λj hj=>?_⟩ (by omega) ?_
   ·rcases Nat.lt_succ_iff_lt_or_eq.1 hj with h|h
    ·exact hq j h
    ·rw[h];exact hb
   ·rw[bA hlt (by omega)];exact bX
 ·have hge:l.length<=x:=by simpa using hc
  simp only[go_sem,hc];rw[lp λj hj=>hq j (by omega)]
theorem zh(p:ah->Bool)(l:List ah)(hl:l.length<=1000000)(k:FuncId)(fs cs:List PV)(hp:∀x∈l,aS pw k (fs++[pA (ag x)]++cs) (λr=>r = .val (.bool (p x)))) :
  aS pw 165 [.aV (l.map ag),.ir (.func k) fs cs] (λr=>r = .val (.bool (l.any p))):=by
 refine aQ [] func165 ?_;rw[ntmps165,results165];simp only[go_sem];refine aY (zg p l hl k fs cs hp) (by simp only[go_sem]<;>rfl) (b6 rfl) ?_;simp only[go_sem];exact kN
theorem zi(p:au->Bool)(l:List au)(hl:l.length<=1000000)(k:FuncId)(fs cs:List PV)(hp:∀x∈l,aS pw k (fs++[pA (aj x)]++cs) (λr=>r = .val (.bool (p x)))) :
  aS pw 240 [.aV (l.map aj),.ir (.func k) fs cs] (λr=>r = .val (.int .i64 (idxOf p l))):=by
 refine aQ [] func240 ?_;rw[ntmps240,results240];simp only[go_sem];refine bM (σ:=Nat) (λx=>(cE (cE (cE (cE fT 0 (.p (.aV (l.map aj)))) 1 (.p (.ir (.func k) fs cs))) 7 (.p (.val (.int .i64 l.length)))) 8 (.p (.val (.int .i64 x))))) (λx=>ck)
  (λx=>x<=l.length/\∀j,j<x->p (l.getD j default)=false) (λx=>l.length-x) 0 ⟨Nat.zero_le _,λj hj=>absurd hj (Nat.not_lt_zero j)⟩ bX ?_
 rintro x ⟨hx,hq⟩;simp only[go_sem];refine aL (λhc=>?_) (λhc=>?_)
 ·have hlt:x<l.length:=by simpa using hc
  simp only[go_sem,getD_map aj hlt,hlt,aj];refine aY (hp (l.getD x default) (by simp[hlt])) (by simp only[go_sem,jM,jL,aj,pA,Bool.or_false,Bool.false_or]<;>rfl) (b6 rfl) ?_;simp only[go_sem];refine aL (λhb=>?_) (λhb=>?_)<;>simp only[go_sem]
  ·exact (pF hlt hq hb).symm
  ·refine bN (x+1) ⟨hlt,λj hj=>?_⟩ (by omega) ?_
   ·rcases Nat.lt_succ_iff_lt_or_eq.1 hj with h|h
    ·exact hq j h
    ·rw[h];exact hb
   ·rw[bA hlt (by omega)];exact bX
 ·have hge:l.length<=x:=by simpa using hc
  simp only[go_sem,hc];rw[lp λj hj=>hq j (by omega)]
theorem zj(p:au->Bool)(l:List au)(hl:l.length<=1000000)(k:FuncId)(fs cs:List PV)(hp:∀x∈l,aS pw k (fs++[pA (aj x)]++cs) (λr=>r = .val (.bool (p x)))) :
  aS pw 167 [.aV (l.map aj),.ir (.func k) fs cs] (λr=>r = .val (.bool (l.any p))):=by
 refine aQ [] func167 ?_;rw[ntmps167,results167];simp only[go_sem];refine aY (zi p l hl k fs cs hp) (by simp only[go_sem]<;>rfl) (b6 rfl) ?_;simp only[go_sem];exact kN
theorem afK(p:aK->Bool)(l:List aK)(hl:l.length<=1000000)(k:FuncId)(fs cs:List PV)(hp:∀x∈l,aS pw k (fs++[pA (aH x)]++cs) (λr=>r = .val (.bool (p x)))) :
  aS pw 262 [.aV (l.map aH),.ir (.func k) fs cs] (λr=>r = .val (.int .i64 (idxOf p l))):=by
 refine aQ [] func262 ?_;rw[ntmps262,results262];simp only[go_sem];refine bM (σ:=Nat) (λx=>(cE (cE (cE (cE fT 0 (.p (.aV (l.map aH)))) 1 (.p (.ir (.func k) fs cs))) 7 (.p (.val (.int .i64 l.length)))) 8 (.p (.val (.int .i64 x))))) (λx=>ck)
  (λx=>x<=l.length/\∀j,j<x->p (l.getD j default)=false) (λx=>l.length-x) 0 ⟨Nat.zero_le _,λj hj=>absurd hj (Nat.not_lt_zero j)⟩ bX ?_
 rintro x ⟨hx,hq⟩;simp only[go_sem];refine aL (λhc=>?_) (λhc=>?_)
 ·have hlt:x<l.length:=by simpa using hc
  simp only[go_sem,getD_map aH hlt,hlt,aH];refine aY (hp (l.getD x default) (by simp[hlt])) (by simp only[go_sem,jM,jL,aH,pA,Bool.or_false,Bool.false_or]<;>rfl) (b6 rfl) ?_;simp only[go_sem];refine aL (λhb=>?_) (λhb=>?_)<;>simp only[go_sem]
  ·exact (pF hlt hq hb).symm
  ·refine bN (x+1) ⟨hlt,λj hj=>?_⟩ (by omega) ?_
   ·rcases Nat.lt_succ_iff_lt_or_eq.1 hj with h|h
    ·exact hq j h
    ·rw[h];exact hb
   ·rw[bA hlt (by omega)];exact bX
 ·have hge:l.length<=x:=by simpa using hc
  simp only[go_sem,hc];rw[lp λj hj=>hq j (by omega)]
theorem ag6(p:aK->Bool)(l:List aK)(hl:l.length<=1000000)(k:FuncId)(fs cs:List PV)(hp:∀x∈l,aS pw k (fs++[pA (aH x)]++cs) (λr=>r = .val (.bool (p x)))) :
  aS pw 183 [.aV (l.map aH),.ir (.func k) fs cs] (λr=>r = .val (.bool (l.any p))):=by
 refine aQ [] func183 ?_;rw[ntmps183,results183];simp only[go_sem];refine aY (afK p l hl k fs cs hp) (by simp only[go_sem]<;>rfl) (b6 rfl) ?_;simp only[go_sem];exact kN
theorem ape(p:ah->Bool)(l:List ah)(hl:l.length<=1000000)(v:Nat)(k:FuncId)(fs cs:List PV)(hp:∀x∈l,aS pw k (fs++[pA (ag x)]++cs) (λr=>r = .val (.bool (p x)))) :
  kJ pw 174 v 75 3 (l.map ag) [.ir (.func k) fs cs] (λa c=>a = .row 1000000 (v+1)/\c=some (.row (v+1) 75 3 ((l.filter λx=>!p x).map ag))):=by
 refine rE ?_;refine mG [] Ty.mixed func174 rfl (by kernel_rfl) (by simp[ntmps174]) ?_;rw[ntmps174,results174];simp only[go_sem];refine aY (zg p l hl k fs cs hp) (by simp only[go_sem]<;>rfl) (b6 rfl) ?_;simp only[go_sem];refine aL (λhc=>?_) (λhc=>?_)
 ·have qo:=cm hc;simp only[go_sem];exact⟨_,_,0,rfl,rfl,Nat.le_refl _,by rw[List.take_length,adv qo]⟩
 have qo:=ew hc;obtain⟨i0,hi0,acs,hf0,hp0⟩:=adw qo;simp only[go_sem,hi0,bA acs (by omega)];have hr0:fN p l [l.getD i0 default] (i0+1)=l:=by have h1:=(oG p l [] i0 acs hp0).1;rw[List.nil_append] at h1;rw[<-h1,fN,hf0,List.append_nil,List.take_append_drop]
 have hf1:((l.take (i0+1)).filter λx=>!p x).length=i0:=by rw[(oG p l [] i0 acs hp0).2,hf0,List.length_take];omega
 refine bM (σ:=Nat×Nat×ah×List ah) (λx=>(cE (cE (cE (cE fT 0 (.row 1000000 v)) 1 (.p (.ir (.func k) fs cs))) 5 (.p (.val (.int .i64 x.1)))) 6 (.p (.val (.int .i64 x.2.1))))) (λx=>(bk ck 1000000 (.row v 75 3 ((fN p l (x.2.2.1 :: x.2.2.2) x.2.1).map ag))))
  (λx=>((l.take x.2.1).filter λz=>!p z).length=x.1/\x.1+(x.2.2.2.length+1)=x.2.1/\x.2.1<=l.length) (λx=>l.length-x.2.1) (i0,i0+1,l.getD i0 default,[]) ⟨hf1,rfl,acs⟩ ?_ ?_
 ·rw[hr0];exact bX
 rintro⟨i,j,y,g⟩ ⟨hx1,hx2,hx3⟩;simp only at hx1 hx2 hx3;have hlen:(fN p l (y :: g) j).length=l.length:=adx p l (y :: g) j i hx1 hx2 hx3;simp only[go_sem];refine aL (λhc=>?_) (λhc=>?_)
 ·have hlt:j<l.length:=by have:=cm hc;rw[hlen] at this;exact this
  have hj:j<(fN p l (y :: g) j).length:=by rw[hlen];exact hlt
  have vM:((fN p l (y :: g) j).map ag).getD j []=ag (l.getD j default):=by rw[getD_map ag hj,afJ p l (y :: g) j i hx1 hx2 hlt]
  simp only[go_sem,vM,ag,bl];refine⟨hj,hj,?_⟩;refine aY (hp (l.getD j default) (by simp[hlt])) (by simp only[go_sem,jM,jL,ag,pA,bl,Bool.or_false,Bool.false_or,vM]<;>rfl) (b6 rfl) ?_;simp only[go_sem,vM,ag,bl];refine aW (λhb=>?_) (λhb=>?_)
  ·obtain⟨k1,k2⟩:=oG p l (y :: g) j hlt hb;simp only[go_sem,bA hlt (by omega),vM,ag,bl];refine bN (i,j+1,y,g++[l.getD j default]) ⟨by rw[k2];exact hx1,by simp;omega,hlt⟩ (by simp only;omega) ?_;rw[k1];exact bX
  ·obtain⟨k1,k2⟩:=abB p l y g j i hx1 hlt hb;have hij:i<j:=by omega
   have hi':i<(fN p l (y :: g) j).length:=by omega
   have hgi:((fN p l (y :: g) j).map ag).getD i []=ag ((fN p l (y :: g) j).getD i default):=by rw[getD_map ag hi']
   obtain⟨y2,g2,hg2,hl2⟩:∃y2 g2,g++[l.getD j default]=y2 :: g2/\g2.length=g.length:=by
    cases g with
    |nil=>exact⟨_,[],rfl,rfl⟩
    |cons a r=>exact⟨a,r++[l.getD j default],rfl,by simp⟩
   rw[hg2] at k1;have hst:((fN p l (y :: g) j).map ag).set i (ag (l.getD j default))=(fN p l (y2 :: g2) (j+1)).map ag:=by rw[<-k1,List.map_set]
   simp only[ag,bl] at hst;simp only[go_sem,hgi,ag,bl,bA hlt (by omega),bA hij (by omega),vM];refine⟨hi',hi',?_⟩;refine bN (i+1,j+1,y2,g2) ⟨by rw[k2,List.length_append,hx1];rfl,by simp only;omega,hlt⟩ (by simp only;omega) ?_;rw[hst];exact bX
 ·have hge:j=l.length:=by have:=ew hc;rw[hlen] at this;omega
  subst hge;rw[List.take_length] at hx1;simp only[go_sem];refine jK _ _ (nF 36 1000000 v 75 3 _ rfl rfl) (by simp only[go_sem]<;>rfl) ?_ ?_
  ·rw[hlen];omega
  simp only[go_sem,hlen];have hsl:((fN p l (y :: g) l.length).map ag).length=l.length:=by rw[List.length_map];exact hlen
  have hend:=apd ag ((cN pw 75).getD [] |>.map PV.val) p l (y :: g) i hx1;rw[show (cN pw 75).getD []=_ from by simp only[go_sem]<;>rfl] at hend;simp only[qZ,List.length_replicate,List.append_assoc,List.map_cons,List.map_nil] at hend;generalize (fN p l (y :: g) l.length).map ag=E at hsl hend ⊢;refine rD 41 _ 1000000 v i (l.length-i) _ 75 3 E _ rfl (by simp only[go_sem]) (by simp only[go_sem]<;>rfl) rfl (by decide) rfl (by simp only[go_sem]<;>rfl) (by simp only[go_sem]) (by omega) (by omega) ?_;simp only[go_sem];refine jK _ _ (nF 39 1000000 v 75 3 _ rfl rfl) (by simp only[go_sem]<;>rfl) ?_ ?_
  ·simp[hsl];omega
  simp only[go_sem];exact⟨_,_,_,.inl rfl,rfl,by simp[hsl];omega,hend⟩
theorem apf(p:au->Bool)(l:List au)(hl:l.length<=1000000)(v:Nat)(k:FuncId)(fs cs:List PV)(hp:∀x∈l,aS pw k (fs++[pA (aj x)]++cs) (λr=>r = .val (.bool (p x)))) :
  kJ pw 177 v 102 4 (l.map aj) [.ir (.func k) fs cs] (λa c=>a = .row 1000000 (v+1)/\c=some (.row (v+1) 102 4 ((l.filter λx=>!p x).map aj))):=by
 refine rE ?_;refine mG [] Ty.mixed func177 rfl (by kernel_rfl) (by simp[ntmps177]) ?_;rw[ntmps177,results177];simp only[go_sem];refine aY (zi p l hl k fs cs hp) (by simp only[go_sem]<;>rfl) (b6 rfl) ?_;simp only[go_sem];refine aL (λhc=>?_) (λhc=>?_)
 ·have qo:=cm hc;simp only[go_sem];exact⟨_,_,0,rfl,rfl,Nat.le_refl _,by rw[List.take_length,adv qo]⟩
 have qo:=ew hc;obtain⟨i0,hi0,acs,hf0,hp0⟩:=adw qo;simp only[go_sem,hi0,bA acs (by omega)];have hr0:fN p l [l.getD i0 default] (i0+1)=l:=by have h1:=(oG p l [] i0 acs hp0).1;rw[List.nil_append] at h1;rw[<-h1,fN,hf0,List.append_nil,List.take_append_drop]
 have hf1:((l.take (i0+1)).filter λx=>!p x).length=i0:=by rw[(oG p l [] i0 acs hp0).2,hf0,List.length_take];omega
 refine bM (σ:=Nat×Nat×au×List au) (λx=>(cE (cE (cE (cE fT 0 (.row 1000000 v)) 1 (.p (.ir (.func k) fs cs))) 5 (.p (.val (.int .i64 x.1)))) 6 (.p (.val (.int .i64 x.2.1))))) (λx=>(bk ck 1000000 (.row v 102 4 ((fN p l (x.2.2.1 :: x.2.2.2) x.2.1).map aj))))
  (λx=>((l.take x.2.1).filter λz=>!p z).length=x.1/\x.1+(x.2.2.2.length+1)=x.2.1/\x.2.1<=l.length) (λx=>l.length-x.2.1) (i0,i0+1,l.getD i0 default,[]) ⟨hf1,rfl,acs⟩ ?_ ?_
 ·rw[hr0];exact bX
 rintro⟨i,j,y,g⟩ ⟨hx1,hx2,hx3⟩;simp only at hx1 hx2 hx3;have hlen:(fN p l (y :: g) j).length=l.length:=adx p l (y :: g) j i hx1 hx2 hx3;simp only[go_sem];refine aL (λhc=>?_) (λhc=>?_)
 ·have hlt:j<l.length:=by have:=cm hc;rw[hlen] at this;exact this
  have hj:j<(fN p l (y :: g) j).length:=by rw[hlen];exact hlt
  have vM:((fN p l (y :: g) j).map aj).getD j []=aj (l.getD j default):=by rw[getD_map aj hj,afJ p l (y :: g) j i hx1 hx2 hlt]
  simp only[go_sem,vM,aj,bl];refine⟨hj,hj,?_⟩;refine aY (hp (l.getD j default) (by simp[hlt])) (by simp only[go_sem,jM,jL,aj,pA,bl,Bool.or_false,Bool.false_or,vM]<;>rfl) (b6 rfl) ?_;simp only[go_sem,vM,aj,bl];refine aW (λhb=>?_) (λhb=>?_)
  ·obtain⟨k1,k2⟩:=oG p l (y :: g) j hlt hb;simp only[go_sem,bA hlt (by omega),vM,aj,bl];refine bN (i,j+1,y,g++[l.getD j default]) ⟨by rw[k2];exact hx1,by simp;omega,hlt⟩ (by simp only;omega) ?_;rw[k1];exact bX
  ·obtain⟨k1,k2⟩:=abB p l y g j i hx1 hlt hb;have hij:i<j:=by omega
   have hi':i<(fN p l (y :: g) j).length:=by omega
   have hgi:((fN p l (y :: g) j).map aj).getD i []=aj ((fN p l (y :: g) j).getD i default):=by rw[getD_map aj hi']
   obtain⟨y2,g2,hg2,hl2⟩:∃y2 g2,g++[l.getD j default]=y2 :: g2/\g2.length=g.length:=by
    cases g with
    |nil=>exact⟨_,[],rfl,rfl⟩
    |cons a r=>exact⟨a,r++[l.getD j default],rfl,by simp⟩
   rw[hg2] at k1;have hst:((fN p l (y :: g) j).map aj).set i (aj (l.getD j default))=(fN p l (y2 :: g2) (j+1)).map aj:=by rw[<-k1,List.map_set]
   simp only[aj,bl] at hst;simp only[go_sem,hgi,aj,bl,bA hlt (by omega),bA hij (by omega),vM];refine⟨hi',hi',?_⟩;refine bN (i+1,j+1,y2,g2) ⟨by rw[k2,List.length_append,hx1];rfl,by simp only;omega,hlt⟩ (by simp only;omega) ?_;rw[hst];exact bX
 ·have hge:j=l.length:=by have:=ew hc;rw[hlen] at this;omega
  subst hge;rw[List.take_length] at hx1;simp only[go_sem];refine jK _ _ (nF 36 1000000 v 102 4 _ rfl rfl) (by simp only[go_sem]<;>rfl) ?_ ?_
  ·rw[hlen];omega
  simp only[go_sem,hlen];have hsl:((fN p l (y :: g) l.length).map aj).length=l.length:=by rw[List.length_map];exact hlen
  have hend:=apd aj ((cN pw 102).getD [] |>.map PV.val) p l (y :: g) i hx1;rw[show (cN pw 102).getD []=_ from by simp only[go_sem]<;>rfl] at hend;simp only[qZ,List.length_replicate,List.append_assoc,List.map_cons,List.map_nil] at hend;generalize (fN p l (y :: g) l.length).map aj=E at hsl hend ⊢;refine rD 42 _ 1000000 v i (l.length-i) _ 102 4 E _ rfl (by simp only[go_sem]) (by simp only[go_sem]<;>rfl) rfl (by decide) rfl (by simp only[go_sem]<;>rfl) (by simp only[go_sem]) (by omega) (by omega) ?_;simp only[go_sem];refine jK _ _ (nF 39 1000000 v 102 4 _ rfl rfl) (by simp only[go_sem]<;>rfl) ?_ ?_
  ·simp[hsl];omega
  simp only[go_sem];exact⟨_,_,_,.inl rfl,rfl,by simp[hsl];omega,hend⟩
theorem at7(p:aK->Bool)(l:List aK)(hl:l.length<=1000000)(v:Nat)(k:FuncId)(fs cs:List PV)(hp:∀x∈l,aS pw k (fs++[pA (aH x)]++cs) (λr=>r = .val (.bool (p x)))) :
  kJ pw 180 v 105 4 (l.map aH) [.ir (.func k) fs cs] (λa c=>a = .row 1000000 (v+1)/\c=some (.row (v+1) 105 4 ((l.filter λx=>!p x).map aH))):=by
 refine rE ?_;refine mG [] Ty.mixed func180 rfl (by kernel_rfl) (by simp[ntmps180]) ?_;rw[ntmps180,results180];simp only[go_sem];refine aY (afK p l hl k fs cs hp) (by simp only[go_sem]<;>rfl) (b6 rfl) ?_;simp only[go_sem];refine aL (λhc=>?_) (λhc=>?_)
 ·have qo:=cm hc;simp only[go_sem];exact⟨_,_,0,rfl,rfl,Nat.le_refl _,by rw[List.take_length,adv qo]⟩
 have qo:=ew hc;obtain⟨i0,hi0,acs,hf0,hp0⟩:=adw qo;simp only[go_sem,hi0,bA acs (by omega)];have hr0:fN p l [l.getD i0 default] (i0+1)=l:=by have h1:=(oG p l [] i0 acs hp0).1;rw[List.nil_append] at h1;rw[<-h1,fN,hf0,List.append_nil,List.take_append_drop]
 have hf1:((l.take (i0+1)).filter λx=>!p x).length=i0:=by rw[(oG p l [] i0 acs hp0).2,hf0,List.length_take];omega
 refine bM (σ:=Nat×Nat×aK×List aK) (λx=>(cE (cE (cE (cE fT 0 (.row 1000000 v)) 1 (.p (.ir (.func k) fs cs))) 5 (.p (.val (.int .i64 x.1)))) 6 (.p (.val (.int .i64 x.2.1))))) (λx=>(bk ck 1000000 (.row v 105 4 ((fN p l (x.2.2.1 :: x.2.2.2) x.2.1).map aH))))
  (λx=>((l.take x.2.1).filter λz=>!p z).length=x.1/\x.1+(x.2.2.2.length+1)=x.2.1/\x.2.1<=l.length) (λx=>l.length-x.2.1) (i0,i0+1,l.getD i0 default,[]) ⟨hf1,rfl,acs⟩ ?_ ?_
 ·rw[hr0];exact bX
 rintro⟨i,j,y,g⟩ ⟨hx1,hx2,hx3⟩;simp only at hx1 hx2 hx3;have hlen:(fN p l (y :: g) j).length=l.length:=adx p l (y :: g) j i hx1 hx2 hx3;simp only[go_sem];refine aL (λhc=>?_) (λhc=>?_)
 ·have hlt:j<l.length:=by have:=cm hc;rw[hlen] at this;exact this
  have hj:j<(fN p l (y :: g) j).length:=by rw[hlen];exact hlt
  have vM:((fN p l (y :: g) j).map aH).getD j []=aH (l.getD j default):=by rw[getD_map aH hj,afJ p l (y :: g) j i hx1 hx2 hlt]
  simp only[go_sem,vM,aH,bl];refine⟨hj,hj,?_⟩;refine aY (hp (l.getD j default) (by simp[hlt])) (by simp only[go_sem,jM,jL,aH,pA,bl,Bool.or_false,Bool.false_or,vM]<;>rfl) (b6 rfl) ?_;simp only[go_sem,vM,aH,bl];refine aW (λhb=>?_) (λhb=>?_)
  ·obtain⟨k1,k2⟩:=oG p l (y :: g) j hlt hb;simp only[go_sem,bA hlt (by omega),vM,aH,bl];refine bN (i,j+1,y,g++[l.getD j default]) ⟨by rw[k2];exact hx1,by simp;omega,hlt⟩ (by simp only;omega) ?_;rw[k1];exact bX
  ·obtain⟨k1,k2⟩:=abB p l y g j i hx1 hlt hb;have hij:i<j:=by omega
   have hi':i<(fN p l (y :: g) j).length:=by omega
   have hgi:((fN p l (y :: g) j).map aH).getD i []=aH ((fN p l (y :: g) j).getD i default):=by rw[getD_map aH hi']
   obtain⟨y2,g2,hg2,hl2⟩:∃y2 g2,g++[l.getD j default]=y2 :: g2/\g2.length=g.length:=by
    cases g with
    |nil=>exact⟨_,[],rfl,rfl⟩
    |cons a r=>exact⟨a,r++[l.getD j default],rfl,by simp⟩
   rw[hg2] at k1;have hst:((fN p l (y :: g) j).map aH).set i (aH (l.getD j default))=(fN p l (y2 :: g2) (j+1)).map aH:=by rw[<-k1,List.map_set]
   simp only[aH,bl] at hst;simp only[go_sem,hgi,aH,bl,bA hlt (by omega),bA hij (by omega),vM];refine⟨hi',hi',?_⟩;refine bN (i+1,j+1,y2,g2) ⟨by rw[k2,List.length_append,hx1];rfl,by simp only;omega,hlt⟩ (by simp only;omega) ?_;rw[hst];exact bX
 ·have hge:j=l.length:=by have:=ew hc;rw[hlen] at this;omega
  subst hge;rw[List.take_length] at hx1;simp only[go_sem];refine jK _ _ (nF 36 1000000 v 105 4 _ rfl rfl) (by simp only[go_sem]<;>rfl) ?_ ?_
  ·rw[hlen];omega
  simp only[go_sem,hlen];have hsl:((fN p l (y :: g) l.length).map aH).length=l.length:=by rw[List.length_map];exact hlen
  have hend:=apd aH ((cN pw 105).getD [] |>.map PV.val) p l (y :: g) i hx1;rw[show (cN pw 105).getD []=_ from by simp only[go_sem]<;>rfl] at hend;simp only[qZ,List.length_replicate,List.append_assoc,List.map_cons,List.map_nil] at hend;generalize (fN p l (y :: g) l.length).map aH=E at hsl hend ⊢;refine rD 43 _ 1000000 v i (l.length-i) _ 105 4 E _ rfl (by simp only[go_sem]) (by simp only[go_sem]<;>rfl) rfl (by decide) rfl (by simp only[go_sem]<;>rfl) (by simp only[go_sem]) (by omega) (by omega) ?_;simp only[go_sem];refine jK _ _ (nF 39 1000000 v 105 4 _ rfl rfl) (by simp only[go_sem]<;>rfl) ?_ ?_
  ·simp[hsl];omega
  simp only[go_sem];exact⟨_,_,_,.inl rfl,rfl,by simp[hsl];omega,hend⟩
end Go.Proofs.YtjhkgjlmiolfoaaGreat
namespace Go.cq
def Ok{α:Type}(x:Option α)(Q:α->Prop):Prop:=∃r,x=some r/\Q r
section
variable{α β σ O:Type}{Q:O->Prop}
theorem Ok.mk{r:O}(h:Q r):Ok (some r) Q:=⟨r,rfl,h⟩
theorem Ok.eq{x:Option α}{r:α}(h:Ok x (λy=>y=r)):x=some r:=by obtain⟨y,h1,rfl⟩:=h;exact h1
theorem Ok.of{x:Option α}{r:α}(h:x=some r):Ok x (λy=>y=r):=⟨r,h,rfl⟩
theorem Ok.mono{x:Option O}{Q':O->Prop}(h:Ok x Q)(hq:∀r,Q r->Q' r):Ok x Q':=by obtain⟨r,h1,h2⟩:=h;exact⟨r,h1,hq r h2⟩
theorem cA{p:Prop} [Decidable p]{x:Option O}(hp:p)(h:Ok x Q):Ok (cC p x) Q:=by unfold cC;rw[if_pos hp];exact h
theorem cV{b:Bool}{x y:Option O}(h1:b=true->Ok x Q)(h2:b=false->Ok y Q):Ok (cond b x y) Q:=by
 cases b
 ·exact h2 rfl
 ·exact h1 rfl
theorem vR{b:Bool}{x y:Option O}(hb:b=true)(h1:Ok x Q):Ok (cond b x y) Q:=by subst hb;exact h1
theorem apg{b:Bool}{x y:Option O}(hb:b=false)(h1:Ok y Q):Ok (cond b x y) Q:=by subst hb;exact h1
theorem zk{x:Option α}{k:α->Option O}{R:α->Prop}(h:Ok x R)(hk:∀r,R r->Ok (k r) Q):Ok (thn x k) Q:=by obtain⟨r,rfl,h2⟩:=h;exact hk r h2
theorem ok_eq{x:Option α}{k:α->Option O}{r:α}(h:x=some r)(hk:Ok (k r) Q):Ok (thn x k) Q:=by subst h;exact hk
theorem sG{l:List α}{k:α->Option O}{i:Nat}(hi:i<l.length)(h:Ok (k l[i]) Q):Ok (thn l[i]? k) Q:=ok_eq (List.getElem?_eq_getElem hi) h
theorem lY{l:List α}{k:α->Option O}{i:Int}(h0:0<=i)(hi:i.toNat<l.length)(h:Ok (k l[i.toNat]) Q):Ok (thn (mJ l i) k) Q:=ok_eq (by unfold mJ;rw[if_pos h0];exact List.getElem?_eq_getElem hi) h
theorem tL{f:Nat->σ->(σ->Option O)->(σ->Option O)->Option O}{K:σ->Option O}(φ:Nat->σ->Prop){n i:Nat}{s:σ}(hi:i<=n)(h0:φ i s)
  (hr:∀j s (cz:σ->Option O),i<=j->j<n->φ j s->(∀s',φ (j+1) s'->Ok (cz s') Q)->Ok (f j s cz K) Q) (he:∀s,φ n s->Ok (K s) Q):Ok (bZ f (n-i) i s K) Q:=by
 have key:∀k j s,j+k=n->i<=j->φ j s->Ok (bZ f k j s K) Q:=by
  intro k
  induction k with
  |zero =>
   intro j s hj _ h;have:j=n:=by omega
   subst this;exact he s h
  |succ k ih=>intro j s hj hij h;exact hr j s _ hij (by omega) h λs' h'=>ih (j+1) s' (by omega) (by omega) h'
 exact key (n-i) i s (by omega) (Nat.le_refl _) h0
theorem aeH{f:σ->(σ->Option O)->(σ->Option O)->Option O}{K:σ->Option O}(φ:σ->Prop)(μ:σ->Nat){n:Nat}{s:σ}(h0:φ s)(hm:μ s<n)
  (hr:∀s (cz:σ->Option O),φ s->(∀s',φ s'->μ s'<μ s->Ok (cz s') Q)->Ok (f s cz K) Q):Ok (iter f n s K) Q:=by
 have key:∀n s,φ s->μ s<n->Ok (iter f n s K) Q:=by
  intro n
  induction n with
  |zero=>intro s _ h;omega
  |succ n ih=>intro s h hm;exact hr s _ h λs' h' hlt=>ih s' h' (by omega)
 exact key n s h0 hm
theorem dJ{n:Int}(h : -9223372036854775808<=n/\n<=9223372036854775807):i64.wrap n=n:=IntWalk.i64_in n (by omega)
end
theorem tw{α:Type}{p:Prop} [Decidable p]{x:α}(h:p):giv p x=some x:=by unfold giv;rw[if_pos h]
open Go.RowKit
variable{P:Program}{N:Nat}{own:List Nat}
theorem kP{ops:Array Oper}{K:Env->ay->Prop}{env:Env}{H:ay}(id v:Nat)(e:TypeId)(sz:Nat)(es:List (List PV))(ts:List Nat)(hH:H id=some (.row v e sz es))(ht:holds env id v ts)(hn:ts.Nodup)
  (hw:vo P N own ops K (anl (.p (.aV es)) ts env) (bk H id (.shut v es))):vo P N own ops K env H:=by
 intro C I L tm w hN hs;have h1:=Fr.shut C I L w hH env tm hs;exact hw C _ L tm w hN (ac9 (by simp[bk]) ts _ hn h1 ht)
theorem toNat_lt{i:Int}{n:Nat}(h:0<=i)(k:i<(n:Int)):i.toNat<n:=by omega
def acu(own:List Nat)(ops:Array Oper)(id:Nat):Nat->Prop
 |0=>True
 |n+1=>lD own ops id=false/\acu own ops (id+1) n
variable{ops:Array Oper}
theorem at8(id:Nat):acu own ops id 1=(lD own ops id=false/\True):=rfl
theorem amb(id:Nat):acu own ops id 3=(lD own ops id=false/\lD own ops (id+1)=false/\lD own ops (id+1+1)=false/\True):=rfl
theorem aph(id:Nat):acu own ops id 4=(lD own ops id=false/\lD own ops (id+1)=false/\lD own ops (id+1+1)=false/\lD own ops (id+1+1+1)=false/\True):=rfl
theorem afL:∀ (n id:Nat),acu own ops id n->∀i,id<=i->i<id+n->lD own ops i=false
 |0,id,_,i,h1,h2=>by omega
 |n+1,id,h,i,h1,h2=>by
  rcases Nat.lt_or_ge id i with h'|h'
  ·exact afL n (id+1) h.2 i (by omega) (by omega)
  ·have:i=id:=by omega
   subst this;exact h.1
theorem aeI{env:Env}{H:ay}{o:Oper}{W:Env->ay->Prop}{k:FuncId}{ps ps':List PV}{b:Bool}(id:Nat){r:RV}(c:br P k ps λx=>x=r)(he:jS o (ev env) (pq own ops H)=some (k,ps',b))(hp:qg ps' ps)(hb:b=true->r.flat=true)
  (hf:lV H id ((cO id r).2-id)) (hn:acu own ops id ((cO id r).2-id)) (hW:W (cI env o.dst (cO id r).1) (gi id H r)):afk P own ops o W env H:=by
 have c':br P k ps' λx=>x=r:=c.args (rZ _ _ hp)
 have hle:=yU r id;unfold jS at he;cases ha:dI o (ev env) with
 |none=>rw[ha] at he;cases he
 |some q =>
  obtain⟨k',eR⟩:=q;rw[ha] at he;simp only[] at he;cases hl:eu (gA (pq own ops H)) eR with
  |none=>rw[hl] at he;cases he
  |some q=>obtain⟨qs,b'⟩:=q;rw[hl] at he;simp only[cv,iw] at he;obtain⟨rfl,rfl,rfl⟩:=he;exact⟨_,_,⟨_,eR,_,_,r,id,ha,hl,c',hb,λi h1 h2=>⟨abv _ id hf i h1 (by omega),afL _ id hn i h1 (by omega)⟩,rfl,rfl⟩,hW⟩
attribute [go_sem] at8 amb aph
end Go.cq
set_option maxRecDepth 20000
namespace Go.Proofs.YtjhkgjlmiolfoaaGreat
open Go.cq
structure jE where
 x0:Int
 x1:Int
 x2:Int
structure c8 where
 nodes:List cu
 ak:List jE
structure bQ where
 nodes:List cu
 ak:List cu
 h:c8
 first:List jE
 p:List jE
 q:List jE
def dZ(x:cu):List PV:=[.val (.int .u8 x.x0),.val (.int .u8 x.x1)]
def dP(x:jE):List PV:=[.val (.int .u8 x.x0),.val (.int .u8 x.x1),.val (.int .u8 x.x2)]
def eF(x:bQ):List PV:=[.aV (x.nodes.map dZ),.aV (x.ak.map dZ),.aV (x.h.nodes.map dZ),.aV (x.h.ak.map dP),.aV (x.first.map dP),.aV (x.p.map dP),.aV (x.q.map dP)]
structure bV where
 a:ax
 p:aG
 q:aG
def nr(x:Host):List PV:=[.aV (x.graph.nodes.map encI),.aV (x.graph.ak.map aZ),.aV (x.values.map bJ)]
structure aO where
 nodes:List ah
 ak:List au
structure cF where
 gR:Int
 node:Int
 count:Int
 out:Bool
def dy(x:cF):List PV:=[.val (.int .i64 x.gR),.val (.int .i64 x.node),.val (.int .i64 x.count),.val (.bool x.out)]
structure bL where
 id:Int
 gR:Int
 out:Bool
def bY(x:bL):List PV:=[.val (.int .i64 x.id),.val (.int .i64 x.gR),.val (.bool x.out)]
structure xz where
 x0:aG
 x1:aG
def lZ(x:xz):List PV:=[.aV (x.x0.az.map ag),.aV (x.x0.aF.map aj),.aV (x.x0.aR.map ag),.aV (x.x0.aP.map aj),.aV (x.x0.values.map aH),.val (.int .i64 x.x0.next.x0),.val (.int .i64 x.x0.next.x1),.aV (x.x1.az.map ag),.aV (x.x1.aF.map aj),.aV (x.x1.aR.map ag),.aV (x.x1.aP.map aj),.aV (x.x1.values.map aH),.val (.int .i64 x.x1.next.x0),.val (.int .i64 x.x1.next.x1)]
def jF(l:List aI):List PV:=[.aV (l.map aB)]
structure bt where
 id:Int
 gR:Int
 out:Bool
def cr(x:bt):List PV:=[.val (.int .i64 x.id),.val (.int .i64 x.gR),.val (.bool x.out)]
def iG(l:List bt):List PV:=[.aV (l.map cr)]
structure api where
 var:Int
 add:Int
structure ayq where
 node:Int
 attr:Int
 term:api
structure ayr where
 kind:Int
 left:api
 right:api
structure ady where
 graph:eU
 slots:List ayq
 vars:Int
 tests:List ayr
structure aCR where
 nodes:List Int
 ak:List Int
structure abC where
 nodes:List Int
 ak:List Int
structure vw where
 kind:Int
 kids:List vw
 map:abC
 pattern:ady
structure aIb where
 name:ByteArray
 left:ady
 right:ady
 keep:aCR
 into:abC
 injective:Bool
 condition:vw
def afM(x:ayq):List PV:=[.val (.int .i64 x.node),.val (.int .i64 x.attr),.val (.int .i64 x.term.var),.val (.int .i64 x.term.add)]
def afN(x:ayr):List PV:=[.val (.int .i64 x.kind),.val (.int .i64 x.left.var),.val (.int .i64 x.left.add),.val (.int .i64 x.right.var),.val (.int .i64 x.right.add)]
mutual
def aew:vw->List PV
 |⟨v_kind,v_kids,v_map,v_pattern⟩=>[.val (.int .i64 v_kind),.aV (vz v_kids),.aV (v_map.nodes.map encI),.aV (v_map.ak.map encI),.aV (v_pattern.graph.nodes.map encI),.aV (v_pattern.graph.ak.map aZ),.aV (v_pattern.slots.map afM),.val (.int .i64 v_pattern.vars),.aV (v_pattern.tests.map afN)]
def vz:List vw->List (List PV)
 | []=>[]
 |a :: r=>aew a :: vz r
end
structure aGB where
 aEq:abC
 vars:List Int
def aBU(b:Bool):List PV:=[.val (.bool b)]
structure aj2 where
 p:aG
 q:aG
structure ah2 where
 types:List cu
 ends:List cu
 host:c8
attribute [local go_sem] Nat.reduceEqDiff Nat.reduceLT Nat.reduceLeDiff Nat.reduceMul Nat.reduceAdd Nat.reduceBEq Nat.reduceSub Int.reduceToNat reduceIte reduceCtorEq y6 List.cons_append List.nil_append aU aZ aM encI bl jF iG aJ bJ cQ nr dZ lZ dP aB dy aD aj ag aH afM afN aA cr eF bY aBU
noncomputable section
end
end Go.Proofs.YtjhkgjlmiolfoaaGreat
namespace Go.Proofs.YtjhkgjlmiolfoaaGreat
open Go.cq
def jN(t:Types):Option (ByteArray×Int):=giv (fC t) (gC t)
theorem p8(t:Types)(r:ByteArray×Int)(h:jN t=some r):aS pw 78 [aC t] (λv=>v = .dQ [.val (.string r.1),.val (.int .i64 r.2)]):=by obtain⟨h1,rfl⟩:=sE h;exact adp t h1
def tM(t:Types)(h:Host):Option (Int×Int):=giv (fC t/\sV h) (jT t h)
theorem acv(t:Types)(h:Host)(r:Int×Int)(hr:tM t h=some r):aS pw 74 [aC t,cG h] (λv=>v = .dQ [.val (.int .i64 r.1),.val (.int .i64 r.2)]):=by obtain⟨⟨h1,h2⟩,rfl⟩:=sE hr;exact atb t h1 h h2
def iH(t:Types)(h:Host):Option (Int×Int):=giv (fC t/\sV h) (jT t h)
theorem l6(t:Types)(h:Host)(r:Int×Int)(hr:iH t h=some r):aS pw 55 [aC t,cG h] (λv=>v = .dQ [.val (.int .i64 r.1),.val (.int .i64 r.2)]):=by obtain⟨⟨h1,h2⟩,rfl⟩:=sE hr;exact aoN t h1 h h2
def qw(t:Types)(e a b:Int):Option Bool:=giv (fC t) (qT t e a b)
theorem mW(t:Types)(e a b:Int)(r:Bool)(h:qw t e a b=some r):aS pw 94 [aC t,.val (.int .i64 e),.val (.int .i64 a),.val (.int .i64 b)] (λv=>v = .val (.bool r)):=by obtain⟨h1,rfl⟩:=sE h;exact alE t h1 e a b
def ag7(t:Types)(a:Int):Option (List Attr×Int):=giv (OkT t/\0<=a/\a<t.nodes.length) (bg t a.toNat,0)
theorem azL(t:Types)(a:Int)(r:List Attr×Int)(h:ag7 t a=some r):aS pw 232 [aC t,.val (.int .i64 a)] (λv=>v = .dQ [.aV (r.1.map aU),.val (.int .i64 r.2)]):=by obtain⟨⟨h1,h2,h3⟩,rfl⟩:=sE h;obtain⟨n,rfl⟩:=Int.eq_ofNat_of_zero_le h2;exact ahQ t h1 n (by omega)
def l8(t:Types)(a:Int):Option (List Attr×Int):=giv (OkT t/\0<=a/\a<t.nodes.length) (bg t a.toNat,0)
theorem wK(t:Types)(a:Int)(r:List Attr×Int)(h:l8 t a=some r):aS pw 93 [aC t,.val (.int .i64 a)] (λv=>v = .dQ [.aV (r.1.map aU),.val (.int .i64 r.2)]):=by obtain⟨⟨h1,h2,h3⟩,rfl⟩:=sE h;obtain⟨n,rfl⟩:=Int.eq_ofNat_of_zero_le h2;exact afB t h1 n (by omega)
def mX(l:List Int):Option (List Int):=giv (l.length<=1000000) l
theorem uG(l:List Int)(r:List Int)(h:mX l=some r):br pw 90 [.aV (l.map encI)] (λv=>v = .row 3 1 (r.map encI)):=by obtain⟨h1,rfl⟩:=sE h;exact ahN l h1
def vS(t:Types)(l:List Int):Option Int:=giv (fC t/\l.length<=1000000) (qu t l)
theorem ag8(t:Types)(l:List Int)(r:Int)(h:vS t l=some r):aS pw 233 [aC t,.aV (l.map encI)] (λv=>v = .val (.int .i64 r)):=by obtain⟨⟨h1,h2⟩,rfl⟩:=sE h;exact afA t h1 l h2
def abD(t:Types)(a b:Int):Option Bool:=giv (OkT t/\0<=a/\a<t.nodes.length) (isB t a b)
theorem apj(t:Types)(a b:Int)(r:Bool)(h:abD t a b=some r):aS pw 234 [aC t,.val (.int .i64 a),.val (.int .i64 b)] (λv=>v = .val (.bool r)):=by obtain⟨⟨h1,h2,h3⟩,rfl⟩:=sE h;obtain⟨n,rfl⟩:=Int.eq_ofNat_of_zero_le h2;exact aoJ t h1 n (by omega) b
def ia(t:Types)(a b:Int):Option Bool:=giv (fC t/\OkT t/\0<=a/\a<t.nodes.length/\0<=b) (isB t a b)
theorem pG(t:Types)(a b:Int)(r:Bool)(h:ia t a b=some r):aS pw 155 [aC t,.val (.int .i64 a),.val (.int .i64 b)] (λv=>v = .val (.bool r)):=by obtain⟨⟨h0,h1,h2,h3,h4⟩,rfl⟩:=sE h;exact adq t b h4 h0 (a.toNat+1) a (by omega) (by omega) h3 h1.par
end Go.Proofs.YtjhkgjlmiolfoaaGreat
