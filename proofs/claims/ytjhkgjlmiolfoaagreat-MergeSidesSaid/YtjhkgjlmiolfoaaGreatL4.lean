/- Joined texts, part 4: lemmas for the statement. No condition. -/
import Derived.Test.YtjhkgjlmiolfoaaGreatL3
import Derived.Shelf.Spec.SlicesGrow
import Derived.Ground.Names8Prog
import Derived.Test.YtjhkgjlmiolfoaaGreatProg
import Derived.Shelf.SlSortCmp.NoneTotal
import Derived.Ground.SlsfProg
import Derived.ChangeArms
import Derived.SizedLaws
import Derived.Test.YtjhkgjlmiolfoaaGreatL1
import Derived.OpenShut
import Derived.ProofKit
import Derived.Carry
import Derived.ArgAppend
import Derived.Laws.Slices
set_option maxHeartbeats 4000000
set_option linter.unusedSimpArgs false
set_option linter.unusedVariables false
open Nat (reduceEqDiff reduceLT reduceLeDiff reduceMul reduceAdd reduceSub)
open Go.IntKind (i64)
open Go.Proofs.Tryz
open Go.Proofs.Tryz renaming prog → pw
open List hiding Mem cons idxOf iter nil tail
open Nat (zero_le not_lt_zero mod_lt div_add_mod' le_refl le_trans zero_add lt_of_lt_of_le add_mul mul_le_mul_right add_zero mul_one min_eq_left)
open Option (map_some map_none)
namespace Go.Proofs.YtjhkgjlmiolfoaaGreat
open Go.cv
theorem atx(t:Types)(hf:fm t)(h:Host)(hh:tT h):aS pw 74 [aH t,cM h] (λr=>r = .dW [.val (.int .i64 (jY t h).1),.val (.int .i64 (jY t h).2)]):=by
 have hg1:=hh.graph.nodes;have hg2:=hh.graph.ak;have hv:=hh.values;refine aR [] func74 ntmps74 results74 ?_;simp only[go_sem,aH,cM,bk];refine aX (alS t hf) (by simp only[go_sem,aH,cM,bk]<;>rfl) (b7 rfl) ?_;simp only[go_sem,aH,cM,bk];refine aW (λh1=>?_) (λh1=>?_)<;>simp only[go_sem,aH,cM,bk]
 ·have ur:=ct h1;have ht:=sA hf ur
  have e1 : jY t h = if o8 h.graph ≠ 0 then (-1, o8 h.graph)
    else if h.values.length≠h.graph.nodes.length then (-1,20)
    else match kC (λi=>kZ t (h.graph.nodes.getD i default) (h.values.getD i default)) 0 h.graph.nodes.length with
     |some k=>((k:Int),kZ t (h.graph.nodes.getD k default) (h.values.getD k default))
     |none=>match kC (rG t h) 0 h.graph.ak.length with
      |some k=>((k:Int),rG t h k)
      |none=>(-1,0):=by
   unfold jY;rw[if_neg (by rw[ur];decide)];try rfl
  rw[e1];refine aX (atu h.graph hh.graph) (by simp only[go_sem,aH,cM,bk]<;>rfl) (b7 rfl) ?_;simp only[go_sem,aH,cM,bk];refine aW (λh2=>?_) (λh2=>?_)<;>simp only[go_sem,aH,cM,bk]
  ·have h2':=ct h2;have hg:=okG h2';rw[if_neg (by rw[h2'];decide)];refine aW (λh3=>?_) (λh3=>?_)<;>simp only[go_sem,aH,cM,bk]
   ·have h3':=ct h3;have hvl:h.values.length=h.graph.nodes.length:=by omega
    rw[if_neg (by omega)];generalize hF:(λi=>kZ t (h.graph.nodes.getD i default) (h.values.getD i default))=f;refine bM (σ:=Nat) (λx=>(cE (cE (cE (cE (cE fS 2 (.ptr 2 0)) 3 (.ptr 3 0)) 38 (.p (.aU (h.graph.nodes.map encI)))) 39 (.p (.val (.int .i64 h.graph.nodes.length)))) 40 (.p (.val (.int .i64 x)))))
     (λx=>(bh (bh cq 2 (.box [.p (.aU (t.nodes.map aJ)),.p (.aU (t.ak.map aP))])) 3 (.box [.p (.aU (h.graph.nodes.map encI)),.p (.aU (h.graph.ak.map aZ)),.p (.aU (h.values.map bJ))])))
     (λx=>x<=h.graph.nodes.length/\∀j,j<x->f j=0) (λx=>h.graph.nodes.length-x) 0 ⟨zero_le _,λj hj=>absurd hj (not_lt_zero j)⟩ bU ?_
    rintro x ⟨hx,hq⟩;simp only[go_sem,aH,cM,bk];refine aL (λhc=>?_) (λhc=>?_)
    ·have hlt:x<h.graph.nodes.length:=by simpa using hc
     have kD:x<h.values.length:=by omega
     have hr:=hh.row _ (iD kD);simp only[go_sem,aH,cM,bk,getD_map encI hlt,hlt,encI,getD_map bJ kD,kD,bJ];refine cZ [.q,.q,.q,.q,.q,.q,.q,.q,.q] (by kernel_rfl) ?_;simp only[go_sem,aH,cM,bk,getD_map encI hlt,hlt,encI,getD_map bJ kD,kD,bJ];refine jG (ax0 t ht (h.graph.nodes.getD x default) (hg.kind x hlt).1 (h.values.getD x default) (by omega)) (by simp only[go_sem,aH,cM,bk,getD_map encI hlt,hlt,encI,getD_map bJ kD,kD,bJ]<;>rfl) (b7 rfl) ?_;simp only[go_sem,aH,cM,bk,getD_map encI hlt,hlt,encI,getD_map bJ kD,kD,bJ];have e:f x=kZ t (h.graph.nodes.getD x default) (h.values.getD x default):=by rw[<-hF]
     refine aW (λh4=>?_) (λh4=>?_)<;>simp only[go_sem,aH,cM,bk,getD_map encI hlt,hlt,encI,getD_map bJ kD,kD,bJ]
     ·have zi:=ct h4;exact bO (x+1) ⟨hlt,all_succ hq (e.trans zi)⟩ (by omega) (by rw[bw hlt (by omega)];exact bU)
     ·have zi:=dV h4;rw[mb (zero_le _) hlt (λj _=>hq j) (by rw[e];exact zi)];exact⟨rfl,rfl⟩
    ·have hge:h.graph.nodes.length<=x:=by simpa using hc
     rw[gG λj _ hj=>hq j (by omega)];simp only[go_sem,aH,cM,bk];refine bM (σ:=Nat) (λx=>(cE (cE (cE (cE (cE fS 2 (.ptr 2 0)) 3 (.ptr 3 0)) 60 (.p (.aU (h.graph.ak.map aZ)))) 61 (.p (.val (.int .i64 h.graph.ak.length)))) 62 (.p (.val (.int .i64 x)))))
      (λx=>(bh (bh cq 2 (.box [.p (.aU (t.nodes.map aJ)),.p (.aU (t.ak.map aP))])) 3 (.box [.p (.aU (h.graph.nodes.map encI)),.p (.aU (h.graph.ak.map aZ)),.p (.aU (h.values.map bJ))])))
      (λx=>x<=h.graph.ak.length/\∀j,j<x->rG t h j=0) (λx=>h.graph.ak.length-x) 0 ⟨zero_le _,λj hj=>absurd hj (not_lt_zero j)⟩ bU ?_
     rintro y ⟨hy,hq'⟩;simp only[go_sem,aH,cM,bk];refine aL (λqE=>?_) (λqE=>?_)
     ·have hlt:y<h.graph.ak.length:=by simpa using qE
      have hE:=hg.ia y hlt;obtain⟨a,ha⟩:∃k:Nat,(h.graph.ak.getD y default).src=k:=⟨_,(Int.toNat_of_nonneg hE.2.1.1).symm⟩;obtain⟨b,hb⟩:∃k:Nat,(h.graph.ak.getD y default).dst=k:=⟨_,(Int.toNat_of_nonneg hE.2.2.1).symm⟩;have hal:a<h.graph.nodes.length:=by have:=hE.2.1.2;rw[ha] at this;omega
      have hbl:b<h.graph.nodes.length:=by have:=hE.2.2.2;rw[hb] at this;omega
      have e0:rG t h y=if (t.ak.length:Int)<=(h.graph.ak.getD y default).type then 6 else if qf t (h.graph.ak.getD y default).type (h.graph.nodes.getD a default) (h.graph.nodes.getD b default)=true then 0 else 13:=by unfold rG;rw[ha,hb,Int.toNat_natCast,Int.toNat_natCast]
      simp only[go_sem,aH,cM,bk,getD_map aZ hlt,hlt,aZ,ha,hb];refine aL (λh5=>?_) (λh5=>?_)<;>simp only[go_sem,aH,cM,bk,getD_map aZ hlt,hlt,aZ,ha,hb]
      ·have h5':=ct h5;have e6:rG t h y=6:=by rw[e0,if_pos h5']
       rw[mb (zero_le _) hlt (λj _=>hq' j) (by rw[e6];decide)];simp only[e6]
       first|exact⟨rfl,rfl⟩|exact⟨trivial,trivial⟩|exact⟨rfl,trivial⟩|exact⟨trivial,rfl⟩
      ·have h5':=dV h5;rw[if_neg h5'] at e0;refine cZ [.q,.q,.q,.q,.q,.q,.q,.q,.q,.q,.q,.q,.q,.q,.q,.q,.q,.q,.q] (by kernel_rfl) ?_;simp only[go_sem,getD_map encI hal,hal,getD_map encI hbl,hbl,encI,aH,cM,bk,getD_map aZ hlt,hlt,aZ,ha,hb];refine jG (aBz t hf (h.graph.ak.getD y default).type (h.graph.nodes.getD a default) (h.graph.nodes.getD b default)) (by simp only[go_sem,aH,cM,bk,getD_map aZ hlt,hlt,aZ,ha,hb]<;>rfl) (b7 rfl) ?_;simp only[go_sem,aH,cM,bk,getD_map aZ hlt,hlt,aZ,ha,hb];refine aW (λh6=>?_) (λh6=>?_)<;>simp only[go_sem,aH,cM,bk,getD_map aZ hlt,hlt,aZ,ha,hb]
       ·rw[if_pos h6] at e0;exact bO (y+1) ⟨hlt,all_succ hq' e0⟩ (by omega) (by rw[bw hlt (by omega)];exact bU)
       ·rw[if_neg (by rw[h6];decide)] at e0;rw[mb (zero_le _) hlt (λj _=>hq' j) (by rw[e0];decide)];simp only[e0]
        first|exact⟨rfl,rfl⟩|exact⟨trivial,trivial⟩|exact⟨rfl,trivial⟩|exact⟨trivial,rfl⟩
     ·have aDq:h.graph.ak.length<=y:=by simpa using qE
      simp only[go_sem,aH,cM,bk];rw[gG λj _ hj=>hq' j (by omega)];exact⟨rfl,rfl⟩
   ·have h3':=dV h3;rw[if_pos (by omega)];exact⟨rfl,rfl⟩
  ·have h2':=dV h2;rw[if_pos h2'];exact⟨rfl,rfl⟩
 ·have ur:=dV h1;unfold jY;rw[if_pos ur];exact⟨rfl,rfl⟩
theorem ape(t:Types)(hf:fm t)(h:Host)(hh:tT h):aS pw 55 [aH t,cM h] (λr=>r = .dW [.val (.int .i64 (jY t h).1),.val (.int .i64 (jY t h).2)]):=by
 have hg1:=hh.graph.nodes;have hg2:=hh.graph.ak;have hv:=hh.values;refine aR [] func55 ntmps55 results55 ?_;simp only[go_sem,aH,cM,bk];refine aX (adv t hf) (by simp only[go_sem,aH,cM,bk]<;>rfl) (b7 rfl) ?_;simp only[go_sem,aH,cM,bk];refine aW (λh1=>?_) (λh1=>?_)<;>simp only[go_sem,aH,cM,bk]
 ·have ur:=ct h1;have ht:=sA hf ur
  have e1 : jY t h = if o8 h.graph ≠ 0 then (-1, o8 h.graph)
    else if h.values.length≠h.graph.nodes.length then (-1,20)
    else match kC (λi=>kZ t (h.graph.nodes.getD i default) (h.values.getD i default)) 0 h.graph.nodes.length with
     |some k=>((k:Int),kZ t (h.graph.nodes.getD k default) (h.values.getD k default))
     |none=>match kC (rG t h) 0 h.graph.ak.length with
      |some k=>((k:Int),rG t h k)
      |none=>(-1,0):=by
   unfold jY;rw[if_neg (by rw[ur];decide)];try rfl
  rw[e1];refine aX (apd h.graph hh.graph) (by simp only[go_sem,aH,cM,bk]<;>rfl) (b7 rfl) ?_;simp only[go_sem,aH,cM,bk];refine aW (λh2=>?_) (λh2=>?_)<;>simp only[go_sem,aH,cM,bk]
  ·have h2':=ct h2;have hg:=okG h2';rw[if_neg (by rw[h2'];decide)];refine aW (λh3=>?_) (λh3=>?_)<;>simp only[go_sem,aH,cM,bk]
   ·have h3':=ct h3;have hvl:h.values.length=h.graph.nodes.length:=by omega
    rw[if_neg (by omega)];generalize hF:(λi=>kZ t (h.graph.nodes.getD i default) (h.values.getD i default))=f;refine bM (σ:=Nat) (λx=>(cE (cE (cE fS 2 (.ptr 2 0)) 3 (.ptr 3 0)) 9 (.p (.val (.int .i64 x)))))
     (λx=>(bh (bh cq 2 (.box [.p (.aU (t.nodes.map aJ)),.p (.aU (t.ak.map aP))])) 3 (.box [.p (.aU (h.graph.nodes.map encI)),.p (.aU (h.graph.ak.map aZ)),.p (.aU (h.values.map bJ))])))
     (λx=>x<=h.graph.nodes.length/\∀j,j<x->f j=0) (λx=>h.graph.nodes.length-x) 0 ⟨zero_le _,λj hj=>absurd hj (not_lt_zero j)⟩ bU ?_
    rintro x ⟨hx,hq⟩;simp only[go_sem,aH,cM,bk];refine aL (λhc=>?_) (λhc=>?_)
    ·have hlt:x<h.graph.nodes.length:=by simpa using hc
     have kD:x<h.values.length:=by omega
     have hr:=hh.row _ (iD kD);simp only[go_sem,aH,cM,bk,getD_map encI hlt,hlt,encI,getD_map bJ kD,kD,bJ];refine cZ [.q,.q,.q,.q,.q,.q,.q,.q,.q,.q,.q,.q,.q,.q] (by kernel_rfl) ?_;simp only[go_sem,aH,cM,bk,getD_map encI hlt,hlt,encI,getD_map bJ kD,kD,bJ];refine jG (atw t ht (h.graph.nodes.getD x default) (hg.kind x hlt).1 (h.values.getD x default) (by omega)) (by simp only[go_sem,aH,cM,bk,getD_map encI hlt,hlt,encI,getD_map bJ kD,kD,bJ]<;>rfl) (b7 rfl) ?_;simp only[go_sem,aH,cM,bk,getD_map encI hlt,hlt,encI,getD_map bJ kD,kD,bJ];have e:f x=kZ t (h.graph.nodes.getD x default) (h.values.getD x default):=by rw[<-hF]
     refine aW (λh4=>?_) (λh4=>?_)<;>simp only[go_sem,aH,cM,bk,getD_map encI hlt,hlt,encI,getD_map bJ kD,kD,bJ]
     ·have zi:=ct h4;exact bO (x+1) ⟨hlt,all_succ hq (e.trans zi)⟩ (by omega) (by rw[bw hlt (by omega)];exact bU)
     ·have zi:=dV h4;rw[mb (zero_le _) hlt (λj _=>hq j) (by rw[e];exact zi)];exact⟨rfl,rfl⟩
    ·have hge:h.graph.nodes.length<=x:=by simpa using hc
     rw[gG λj _ hj=>hq j (by omega)];simp only[go_sem,aH,cM,bk];refine bM (σ:=Nat) (λx=>(cE (cE (cE fS 2 (.ptr 2 0)) 3 (.ptr 3 0)) 11 (.p (.val (.int .i64 x)))))
      (λx=>(bh (bh cq 2 (.box [.p (.aU (t.nodes.map aJ)),.p (.aU (t.ak.map aP))])) 3 (.box [.p (.aU (h.graph.nodes.map encI)),.p (.aU (h.graph.ak.map aZ)),.p (.aU (h.values.map bJ))])))
      (λx=>x<=h.graph.ak.length/\∀j,j<x->rG t h j=0) (λx=>h.graph.ak.length-x) 0 ⟨zero_le _,λj hj=>absurd hj (not_lt_zero j)⟩ bU ?_
     rintro y ⟨hy,hq'⟩;simp only[go_sem,aH,cM,bk];refine aL (λqE=>?_) (λqE=>?_)
     ·have hlt:y<h.graph.ak.length:=by simpa using qE
      have hE:=hg.ia y hlt;obtain⟨a,ha⟩:∃k:Nat,(h.graph.ak.getD y default).src=k:=⟨_,(Int.toNat_of_nonneg hE.2.1.1).symm⟩;obtain⟨b,hb⟩:∃k:Nat,(h.graph.ak.getD y default).dst=k:=⟨_,(Int.toNat_of_nonneg hE.2.2.1).symm⟩;have hal:a<h.graph.nodes.length:=by have:=hE.2.1.2;rw[ha] at this;omega
      have hbl:b<h.graph.nodes.length:=by have:=hE.2.2.2;rw[hb] at this;omega
      have e0:rG t h y=if (t.ak.length:Int)<=(h.graph.ak.getD y default).type then 6 else if qf t (h.graph.ak.getD y default).type (h.graph.nodes.getD a default) (h.graph.nodes.getD b default)=true then 0 else 13:=by unfold rG;rw[ha,hb,Int.toNat_natCast,Int.toNat_natCast]
      simp only[go_sem,aH,cM,bk,getD_map aZ hlt,hlt,aZ,ha,hb];refine aL (λh5=>?_) (λh5=>?_)<;>simp only[go_sem,aH,cM,bk,getD_map aZ hlt,hlt,aZ,ha,hb]
      ·have h5':=ct h5;have e6:rG t h y=6:=by rw[e0,if_pos h5']
       rw[mb (zero_le _) hlt (λj _=>hq' j) (by rw[e6];decide)];simp only[e6]
       first|exact⟨rfl,rfl⟩|exact⟨trivial,trivial⟩|exact⟨rfl,trivial⟩|exact⟨trivial,rfl⟩
      ·have h5':=dV h5;rw[if_neg h5'] at e0;refine cZ [.q,.q,.q,.q,.q,.q,.q,.q,.q,.q,.q,.q,.q,.q,.q,.q,.q,.q,.q] (by kernel_rfl) ?_;simp only[go_sem,getD_map encI hal,hal,getD_map encI hbl,hbl,encI,aH,cM,bk,getD_map aZ hlt,hlt,aZ,ha,hb];refine jG (alY t hf (h.graph.ak.getD y default).type (h.graph.nodes.getD a default) (h.graph.nodes.getD b default)) (by simp only[go_sem,aH,cM,bk,getD_map aZ hlt,hlt,aZ,ha,hb]<;>rfl) (b7 rfl) ?_;simp only[go_sem,aH,cM,bk,getD_map aZ hlt,hlt,aZ,ha,hb];refine aW (λh6=>?_) (λh6=>?_)<;>simp only[go_sem,aH,cM,bk,getD_map aZ hlt,hlt,aZ,ha,hb]
       ·rw[if_pos h6] at e0;exact bO (y+1) ⟨hlt,all_succ hq' e0⟩ (by omega) (by rw[bw hlt (by omega)];exact bU)
       ·rw[if_neg (by rw[h6];decide)] at e0;rw[mb (zero_le _) hlt (λj _=>hq' j) (by rw[e0];decide)];simp only[e0]
        first|exact⟨rfl,rfl⟩|exact⟨trivial,trivial⟩|exact⟨rfl,trivial⟩|exact⟨trivial,rfl⟩
     ·have aDq:h.graph.ak.length<=y:=by simpa using qE
      simp only[go_sem,aH,cM,bk];rw[gG λj _ hj=>hq' j (by omega)];exact⟨rfl,rfl⟩
   ·have h3':=dV h3;rw[if_pos (by omega)];exact⟨rfl,rfl⟩
  ·have h2':=dV h2;rw[if_pos h2'];exact⟨rfl,rfl⟩
 ·have ur:=dV h1;unfold jY;rw[if_pos ur];exact⟨rfl,rfl⟩
instance(t:Types):Decidable (fm t):=decidable_of_iff (t.nodes.length<=20/\t.ak.length<=30/\(∀n∈t.nodes,n.attrs.length<=30)/\(∀n∈t.nodes,n.name.size<=40)/\(∀n∈t.nodes,∀a∈n.attrs,a.name.size<=40)/\(∀n∈t.nodes,∀a∈n.attrs,a.names.length<=25)/\(∀n∈t.nodes,∀a∈n.attrs,∀s∈a.names,s.size<=40)/\∀e∈t.ak,e.name.size<=40)
 ⟨λ⟨a,b,c,d,e,f,g,h⟩=>⟨a,b,c,d,e,f,g,h⟩,λ⟨a,b,c,d,e,f,g,h⟩=>⟨a,b,c,d,e,f,g,h⟩⟩
instance(t:Types):Decidable (OkT t):=decidable_of_iff (fm t/\0<t.nodes.length/\t.nodes.length<=12/\t.ak.length<=20/\(∀j,j<t.nodes.length->kK t j=0)/\∀j,j<t.ak.length->nV t j=0)
 ⟨λ⟨a,b,c,d,e,f⟩=>⟨a,b,c,d,e,f⟩,λ⟨a,b,c,d,e,f⟩=>⟨a,b,c,d,e,f⟩⟩
instance(g:eY):Decidable (axY g):=decidable_of_iff (g.nodes.length<=45/\g.ak.length<=90) ⟨λ⟨a,b⟩=>⟨a,b⟩,λ⟨a,b⟩=>⟨a,b⟩⟩
instance(g:eY):Decidable (apa g):=decidable_of_iff (g.nodes.length<=1000/\g.ak.length<=1000) ⟨λ⟨a,b⟩=>⟨a,b⟩,λ⟨a,b⟩=>⟨a,b⟩⟩
instance(h:Host):Decidable (aDr h):=decidable_of_iff (axY h.graph/\h.values.length<=45/\∀l∈h.values,l.length<=12) ⟨λ⟨a,b,c⟩=>⟨a,b,c⟩,λ⟨a,b,c⟩=>⟨a,b,c⟩⟩
instance(h:Host):Decidable (tT h):=decidable_of_iff (apa h.graph/\h.values.length<=1000/\∀l∈h.values,l.length<=1000) ⟨λ⟨a,b,c⟩=>⟨a,b,c⟩,λ⟨a,b,c⟩=>⟨a,b,c⟩⟩
end Go.Proofs.YtjhkgjlmiolfoaaGreat
namespace Go.Proofs
open Go.Shelf
def YtjhkgjlmiolfoaaGreat.ajN:Go.Shelf.Ren:=⟨λ| 4=>170|n=>n,λ| 22=>52|25=>57|3=>3|4=>4|9=>9|20=>20|0=>0|n=>n,λ| n=>n⟩
theorem YtjhkgjlmiolfoaaGreat.ax1:Go.Proofs.Lays8.n4 pw YtjhkgjlmiolfoaaGreat.ajN:={
 mixed:=by kernel_rfl
 f4:=⟨Tryz.f170.name,by decide,Tryz.func170.trans (congrArg some (by kernel_rfl))⟩
 t0:=underlying0
 a0:=isAgg0
 z0:=sizeOf0
 v0:=zeroValue0
 t3:=underlying3
 a3:=isAgg3
 z3:=sizeOf3
 v3:=zeroValue3
 t4:=underlying4
 a4:=isAgg4
 z4:=sizeOf4
 v4:=zeroValue4
 t9:=underlying9
 a9:=isAgg9
 z9:=sizeOf9
 v9:=zeroValue9
 t20:=underlying20
 a20:=isAgg20
 z20:=sizeOf20
 v20:=zeroValue20
 t22:=underlying52
 a22:=isAgg52
 z22:=sizeOf52
 v22:=zeroValue52 }
def YtjhkgjlmiolfoaaGreat.al1:Go.Shelf.Ren:=⟨λ| 4=>186|n=>n,λ| 22=>185|25=>188|3=>3|4=>4|9=>9|20=>20|0=>0|n=>n,λ| n=>n⟩
theorem YtjhkgjlmiolfoaaGreat.aBA:Go.Proofs.Lays8.n4 pw YtjhkgjlmiolfoaaGreat.al1:={
 mixed:=by kernel_rfl
 f4:=⟨Tryz.f186.name,by decide,Tryz.func186.trans (congrArg some (by kernel_rfl))⟩
 t0:=underlying0
 a0:=isAgg0
 z0:=sizeOf0
 v0:=zeroValue0
 t3:=underlying3
 a3:=isAgg3
 z3:=sizeOf3
 v3:=zeroValue3
 t4:=underlying4
 a4:=isAgg4
 z4:=sizeOf4
 v4:=zeroValue4
 t9:=underlying9
 a9:=isAgg9
 z9:=sizeOf9
 v9:=zeroValue9
 t20:=underlying20
 a20:=isAgg20
 z20:=sizeOf20
 v20:=zeroValue20
 t22:=underlying185
 a22:=isAgg185
 z22:=sizeOf185
 v22:=zeroValue185 }
def YtjhkgjlmiolfoaaGreat.ajO:Go.Shelf.Ren:=⟨λ| 6=>171|15=>260|14=>259|28=>310|29=>311|20=>302|21=>303|22=>304|23=>305|24=>306|25=>307|26=>308|27=>309|46=>367|47=>368|48=>369|49=>370|50=>371|57=>415|n=>n,λ| 22=>52|24=>57|25=>250|3=>3|39=>121|0=>0|53=>204|55=>207|4=>4|46=>377|45=>376|50=>348|5=>5|9=>9|66=>433|70=>437|76=>474|77=>447|n=>n,λ| n=>n⟩
theorem YtjhkgjlmiolfoaaGreat.ax2:Go.Proofs.SlLaysF0.n6 pw YtjhkgjlmiolfoaaGreat.ajO:={
 mixed:=by kernel_rfl
 f6:=⟨Tryz.f171.name,by decide,Tryz.func171.trans (congrArg some (by kernel_rfl))⟩
 f14:=⟨Tryz.f259.name,by decide,Tryz.func259.trans (congrArg some (by kernel_rfl))⟩
 f15:=Tryz.func260.trans (congrArg some (by kernel_rfl))
 f20:=⟨Tryz.f302.name,by decide,Tryz.func302.trans (congrArg some (by kernel_rfl))⟩
 f21:=⟨Tryz.f303.name,by decide,Tryz.func303.trans (congrArg some (by kernel_rfl))⟩
 f22:=⟨Tryz.f304.name,by decide,Tryz.func304.trans (congrArg some (by kernel_rfl))⟩
 f23:=⟨Tryz.f305.name,by decide,Tryz.func305.trans (congrArg some (by kernel_rfl))⟩
 f24:=⟨Tryz.f306.name,by decide,Tryz.func306.trans (congrArg some (by kernel_rfl))⟩
 f25:=⟨Tryz.f307.name,by decide,Tryz.func307.trans (congrArg some (by kernel_rfl))⟩
 f26:=⟨Tryz.f308.name,by decide,Tryz.func308.trans (congrArg some (by kernel_rfl))⟩
 f27:=⟨Tryz.f309.name,by decide,Tryz.func309.trans (congrArg some (by kernel_rfl))⟩
 f28:=Tryz.func310.trans (congrArg some (by kernel_rfl))
 f29:=Tryz.func311.trans (congrArg some (by kernel_rfl))
 f46:=⟨Tryz.f367.name,by decide,Tryz.func367.trans (congrArg some (by kernel_rfl))⟩
 f47:=Tryz.func368.trans (congrArg some (by kernel_rfl))
 f48:=Tryz.func369.trans (congrArg some (by kernel_rfl))
 f49:=⟨Tryz.f370.name,by decide,Tryz.func370.trans (congrArg some (by kernel_rfl))⟩
 f50:=⟨Tryz.f371.name,by decide,Tryz.func371.trans (congrArg some (by kernel_rfl))⟩
 f57:=⟨Tryz.f415.name,by decide,Tryz.func415.trans (congrArg some (by kernel_rfl))⟩
 t0:=underlying0
 a0:=isAgg0
 z0:=sizeOf0
 v0:=zeroValue0
 t3:=underlying3
 a3:=isAgg3
 z3:=sizeOf3
 v3:=zeroValue3
 t4:=underlying4
 a4:=isAgg4
 z4:=sizeOf4
 v4:=zeroValue4
 t5:=underlying5
 a5:=isAgg5
 z5:=sizeOf5
 v5:=zeroValue5
 t9:=underlying9
 a9:=isAgg9
 z9:=sizeOf9
 v9:=zeroValue9
 t22:=underlying52
 a22:=isAgg52
 z22:=sizeOf52
 v22:=zeroValue52
 t25:=underlying250
 a25:=isAgg250
 z25:=sizeOf250
 v25:=zeroValue250
 t39:=underlying121
 a39:=isAgg121
 z39:=sizeOf121
 v39:=zeroValue121
 t45:=underlying376
 a45:=isAgg376
 z45:=sizeOf376
 v45:=zeroValue376
 t46:=underlying377
 a46:=isAgg377
 z46:=sizeOf377
 v46:=zeroValue377
 t50:=underlying348
 a50:=isAgg348
 z50:=sizeOf348
 v50:=zeroValue348
 t53:=underlying204
 a53:=isAgg204
 z53:=sizeOf204
 v53:=zeroValue204
 t55:=underlying207
 a55:=isAgg207
 z55:=sizeOf207
 v55:=zeroValue207
 t66:=underlying433
 a66:=isAgg433
 z66:=sizeOf433
 v66:=zeroValue433
 t70:=underlying437
 a70:=isAgg437
 z70:=sizeOf437
 v70:=zeroValue437
 t76:=underlying474
 a76:=isAgg474
 z76:=sizeOf474
 v76:=zeroValue474
 t77:=underlying447
 a77:=isAgg447
 z77:=sizeOf447
 v77:=zeroValue447 }
def YtjhkgjlmiolfoaaGreat.ahh:Go.Shelf.Ren:=⟨λ| 6=>254|15=>260|14=>299|28=>310|29=>311|20=>351|21=>352|22=>353|23=>354|24=>355|25=>356|26=>357|27=>358|46=>409|47=>368|48=>369|49=>410|50=>411|57=>433|n=>n,λ| 22=>41|24=>75|25=>307|3=>3|39=>121|0=>0|53=>204|55=>207|4=>4|46=>377|45=>376|50=>348|5=>5|9=>9|66=>433|70=>437|76=>474|77=>447|n=>n,λ| n=>n⟩
theorem YtjhkgjlmiolfoaaGreat.aty:Go.Proofs.SlLaysF0.n6 pw YtjhkgjlmiolfoaaGreat.ahh:={
 mixed:=by kernel_rfl
 f6:=⟨Tryz.f254.name,by decide,Tryz.func254.trans (congrArg some (by kernel_rfl))⟩
 f14:=⟨Tryz.f299.name,by decide,Tryz.func299.trans (congrArg some (by kernel_rfl))⟩
 f15:=Tryz.func260.trans (congrArg some (by kernel_rfl))
 f20:=⟨Tryz.f351.name,by decide,Tryz.func351.trans (congrArg some (by kernel_rfl))⟩
 f21:=⟨Tryz.f352.name,by decide,Tryz.func352.trans (congrArg some (by kernel_rfl))⟩
 f22:=⟨Tryz.f353.name,by decide,Tryz.func353.trans (congrArg some (by kernel_rfl))⟩
 f23:=⟨Tryz.f354.name,by decide,Tryz.func354.trans (congrArg some (by kernel_rfl))⟩
 f24:=⟨Tryz.f355.name,by decide,Tryz.func355.trans (congrArg some (by kernel_rfl))⟩
 f25:=⟨Tryz.f356.name,by decide,Tryz.func356.trans (congrArg some (by kernel_rfl))⟩
 f26:=⟨Tryz.f357.name,by decide,Tryz.func357.trans (congrArg some (by kernel_rfl))⟩
 f27:=⟨Tryz.f358.name,by decide,Tryz.func358.trans (congrArg some (by kernel_rfl))⟩
 f28:=Tryz.func310.trans (congrArg some (by kernel_rfl))
 f29:=Tryz.func311.trans (congrArg some (by kernel_rfl))
 f46:=⟨Tryz.f409.name,by decide,Tryz.func409.trans (congrArg some (by kernel_rfl))⟩
 f47:=Tryz.func368.trans (congrArg some (by kernel_rfl))
 f48:=Tryz.func369.trans (congrArg some (by kernel_rfl))
 f49:=⟨Tryz.f410.name,by decide,Tryz.func410.trans (congrArg some (by kernel_rfl))⟩
 f50:=⟨Tryz.f411.name,by decide,Tryz.func411.trans (congrArg some (by kernel_rfl))⟩
 f57:=⟨Tryz.f433.name,by decide,Tryz.func433.trans (congrArg some (by kernel_rfl))⟩
 t0:=underlying0
 a0:=isAgg0
 z0:=sizeOf0
 v0:=zeroValue0
 t3:=underlying3
 a3:=isAgg3
 z3:=sizeOf3
 v3:=zeroValue3
 t4:=underlying4
 a4:=isAgg4
 z4:=sizeOf4
 v4:=zeroValue4
 t5:=underlying5
 a5:=isAgg5
 z5:=sizeOf5
 v5:=zeroValue5
 t9:=underlying9
 a9:=isAgg9
 z9:=sizeOf9
 v9:=zeroValue9
 t22:=underlying41
 a22:=isAgg41
 z22:=sizeOf41
 v22:=zeroValue41
 t25:=underlying307
 a25:=isAgg307
 z25:=sizeOf307
 v25:=zeroValue307
 t39:=underlying121
 a39:=isAgg121
 z39:=sizeOf121
 v39:=zeroValue121
 t45:=underlying376
 a45:=isAgg376
 z45:=sizeOf376
 v45:=zeroValue376
 t46:=underlying377
 a46:=isAgg377
 z46:=sizeOf377
 v46:=zeroValue377
 t50:=underlying348
 a50:=isAgg348
 z50:=sizeOf348
 v50:=zeroValue348
 t53:=underlying204
 a53:=isAgg204
 z53:=sizeOf204
 v53:=zeroValue204
 t55:=underlying207
 a55:=isAgg207
 z55:=sizeOf207
 v55:=zeroValue207
 t66:=underlying433
 a66:=isAgg433
 z66:=sizeOf433
 v66:=zeroValue433
 t70:=underlying437
 a70:=isAgg437
 z70:=sizeOf437
 v70:=zeroValue437
 t76:=underlying474
 a76:=isAgg474
 z76:=sizeOf474
 v76:=zeroValue474
 t77:=underlying447
 a77:=isAgg447
 z77:=sizeOf447
 v77:=zeroValue447 }
def YtjhkgjlmiolfoaaGreat.ahi:Go.Shelf.Ren:=⟨λ| 6=>255|15=>260|14=>300|28=>310|29=>311|20=>359|21=>360|22=>361|23=>362|24=>363|25=>364|26=>365|27=>366|46=>412|47=>368|48=>369|49=>413|50=>414|57=>434|n=>n,λ| 22=>42|24=>102|25=>309|3=>3|39=>121|0=>0|53=>204|55=>207|4=>4|46=>377|45=>376|50=>348|5=>5|9=>9|66=>433|70=>437|76=>474|77=>447|n=>n,λ| n=>n⟩
theorem YtjhkgjlmiolfoaaGreat.atz:Go.Proofs.SlLaysF0.n6 pw YtjhkgjlmiolfoaaGreat.ahi:={
 mixed:=by kernel_rfl
 f6:=⟨Tryz.f255.name,by decide,Tryz.func255.trans (congrArg some (by kernel_rfl))⟩
 f14:=⟨Tryz.f300.name,by decide,Tryz.func300.trans (congrArg some (by kernel_rfl))⟩
 f15:=Tryz.func260.trans (congrArg some (by kernel_rfl))
 f20:=⟨Tryz.f359.name,by decide,Tryz.func359.trans (congrArg some (by kernel_rfl))⟩
 f21:=⟨Tryz.f360.name,by decide,Tryz.func360.trans (congrArg some (by kernel_rfl))⟩
 f22:=⟨Tryz.f361.name,by decide,Tryz.func361.trans (congrArg some (by kernel_rfl))⟩
 f23:=⟨Tryz.f362.name,by decide,Tryz.func362.trans (congrArg some (by kernel_rfl))⟩
 f24:=⟨Tryz.f363.name,by decide,Tryz.func363.trans (congrArg some (by kernel_rfl))⟩
 f25:=⟨Tryz.f364.name,by decide,Tryz.func364.trans (congrArg some (by kernel_rfl))⟩
 f26:=⟨Tryz.f365.name,by decide,Tryz.func365.trans (congrArg some (by kernel_rfl))⟩
 f27:=⟨Tryz.f366.name,by decide,Tryz.func366.trans (congrArg some (by kernel_rfl))⟩
 f28:=Tryz.func310.trans (congrArg some (by kernel_rfl))
 f29:=Tryz.func311.trans (congrArg some (by kernel_rfl))
 f46:=⟨Tryz.f412.name,by decide,Tryz.func412.trans (congrArg some (by kernel_rfl))⟩
 f47:=Tryz.func368.trans (congrArg some (by kernel_rfl))
 f48:=Tryz.func369.trans (congrArg some (by kernel_rfl))
 f49:=⟨Tryz.f413.name,by decide,Tryz.func413.trans (congrArg some (by kernel_rfl))⟩
 f50:=⟨Tryz.f414.name,by decide,Tryz.func414.trans (congrArg some (by kernel_rfl))⟩
 f57:=⟨Tryz.f434.name,by decide,Tryz.func434.trans (congrArg some (by kernel_rfl))⟩
 t0:=underlying0
 a0:=isAgg0
 z0:=sizeOf0
 v0:=zeroValue0
 t3:=underlying3
 a3:=isAgg3
 z3:=sizeOf3
 v3:=zeroValue3
 t4:=underlying4
 a4:=isAgg4
 z4:=sizeOf4
 v4:=zeroValue4
 t5:=underlying5
 a5:=isAgg5
 z5:=sizeOf5
 v5:=zeroValue5
 t9:=underlying9
 a9:=isAgg9
 z9:=sizeOf9
 v9:=zeroValue9
 t22:=underlying42
 a22:=isAgg42
 z22:=sizeOf42
 v22:=zeroValue42
 t25:=underlying309
 a25:=isAgg309
 z25:=sizeOf309
 v25:=zeroValue309
 t39:=underlying121
 a39:=isAgg121
 z39:=sizeOf121
 v39:=zeroValue121
 t45:=underlying376
 a45:=isAgg376
 z45:=sizeOf376
 v45:=zeroValue376
 t46:=underlying377
 a46:=isAgg377
 z46:=sizeOf377
 v46:=zeroValue377
 t50:=underlying348
 a50:=isAgg348
 z50:=sizeOf348
 v50:=zeroValue348
 t53:=underlying204
 a53:=isAgg204
 z53:=sizeOf204
 v53:=zeroValue204
 t55:=underlying207
 a55:=isAgg207
 z55:=sizeOf207
 v55:=zeroValue207
 t66:=underlying433
 a66:=isAgg433
 z66:=sizeOf433
 v66:=zeroValue433
 t70:=underlying437
 a70:=isAgg437
 z70:=sizeOf437
 v70:=zeroValue437
 t76:=underlying474
 a76:=isAgg474
 z76:=sizeOf474
 v76:=zeroValue474
 t77:=underlying447
 a77:=isAgg447
 z77:=sizeOf447
 v77:=zeroValue447 }
end Go.Proofs
namespace Go.cv
open Go.RowKit
variable{P:Program}{w:World}{H:Type}{enc:TypeId×Value->H}
def rV(w:World)(cs:List Value)(ps:List PV):Prop:=cs.length=ps.length/\(∀ (j:Nat) u c,cs[j]? = some u->ps[j]? = some c->VR (snap w) u c)/\∀u∈cs,u.oneCell'=true
def ax3(P:Program)(t:TypeId)(d:DataW H):Prop:=∀n∈d.weights P t,n<=reachBytes
structure Dec(P:Program)(w:World){H:Type}(enc:TypeId×Value->H){α:Type}(t:TypeId)(sz:Nat)(e:α->List PV)(G:α->Prop):Prop where
 len:∀a,(e a).length=sz
 dec:∀ (sp:Nat->Bool) (hd:Bool) (fuel:Nat) (cs:List Value) (x:DataW H×List MemPlace),DataW.trod enc P w 0 sp hd fuel t cs=some x->ax3 P t x.1->∃a,G a/\rV w cs (e a)
theorem rV.one{u:Value}{p:PV}(h:VR (snap w) u p)(h1:u.oneCell'=true):rV w [u] [p] :=
 ⟨rfl,λj u' c hu hc=>by
  cases j with
  |zero=>simp at hu hc;subst hu hc;exact h
  |succ j=>simp at hu,λu' hu=>by simp at hu;subst hu;exact h1⟩
theorem Dec.int{t:TypeId}(ht:P.underlying t=some (.int .i64)):Dec P w enc t 1 (λn:Int=>[.val (.int .i64 n)]) (λ_=>True) :=
 ⟨λ_=>rfl,λsp hd fuel cs x h _=>by
  obtain⟨n,rfl,_⟩:=DataW.trod_int ht h;exact⟨n,trivial,.one (.val _ rfl) rfl⟩⟩
theorem Dec.bool{t:TypeId}(ht:P.underlying t=some .bool):Dec P w enc t 1 (λb:Bool=>[.val (.bool b)]) (λ_=>True) :=
 ⟨λ_=>rfl,λsp hd fuel cs x h _=>by
  obtain⟨n,rfl,_⟩:=DataW.trod_bool ht h;exact⟨n,trivial,.one (.val _ rfl) rfl⟩⟩
theorem Dec.map{α β:Type}{t:TypeId}{sz:Nat}{e:α->List PV}{G:α->Prop}{e':β->List PV}{G':β->Prop}(g:α->β)(f:β->α)(hgf:∀b,e (f b)=e' b)(hg:∀a,e' (g a)=e a)(hG:∀a,G a->G' (g a))(h:Dec P w enc t sz e G):Dec P w enc t sz e' G' :=
 ⟨λb=>by rw[<-hgf];exact h.len _,λsp hd fuel cs x hx hw=>by
  obtain⟨a,h1,h2⟩:=h.dec sp hd fuel cs x hx hw;exact⟨g a,hG a h1,by rw[hg];exact h2⟩⟩
theorem uV{e:TypeId} : ∀ {ds:List (DataW H)} {d:DataW H},d∈ds->∀n∈d.weights P e,n∈DataW.weightsAll P e ds
 |d0 :: r,d,hd,n,hn=>by
  rw[DataW.weightsAll,mem_append];rcases mem_cons.1 hd with rfl|h
  ·exact .inl hn
  ·exact .inr (uV h n hn)
theorem mapM_some{α β:Type}{f:α->Option β} : ∀ {l:List α} {r:List β},l.mapM f=some r->r.length=l.length/\∀ (i:Nat) a,l[i]? = some a->r[i]? = f a:=by
 intro l
 induction l with
 |nil=>intro r h;simp at h;subst h;exact⟨rfl,by simp⟩
 |cons a l ih =>
  intro r h;rw[mapM_cons] at h;cases ha:f a with
  |none=>rw[ha] at h;cases h
  |some b =>
   rw[ha] at h;cases hl:l.mapM f with
   |none=>rw[hl] at h;cases h
   |some r' =>
    rw[hl] at h;have:r=b :: r':=by simpa using h.symm
    subst this;obtain⟨h1,h2⟩:=ih hl;refine⟨by simp[h1],λi x hx=>?_⟩;cases i with
    |zero=>simp at hx;subst hx;simp[ha]
    |succ i=>simpa using h2 i x (by simpa using hx)
theorem abo{a:Addr}{n:Nat}{cs:List Value}(h:w.cells? 0 a n=some cs):cs.length=n/\(∀ (i:Nat) u,cs[i]? = some u->w.cell? (a.add i)=some u):=by
 unfold World.cells? at h;rw[if_pos (zero_le _)] at h;obtain⟨h1,h2⟩:=mapM_some h;refine⟨by simpa using h1,λi u hu=>?_⟩;have hi:i<n:=by have:=(List.getElem?_eq_some_iff.1 hu).1;simpa[h1] using this
 rw[<-h2 i i (by simp[hi]),hu]
theorem atA{a:Addr}{u:Value}(h:w.cell? a=some u):a.spot=none:=by
 unfold World.cell? at h;split at h
 ·split at h
  ·cases h
  ·rename_i hs;cases hsp:a.spot with
   |none=>rfl
   |some _=>simp[hsp] at hs
 ·cases h
theorem aeh{α:Type}{n:Nat}{Q:Nat->α->Prop}(h:∀i,i<n->∃a,Q i a):∃l:List α,l.length=n/\∀ (i:Nat) a,l[i]? = some a->Q i a:=by
 induction n with
 |zero=>exact⟨[],rfl,by simp⟩
 |succ n ih =>
  obtain⟨l,h1,h2⟩:=ih λi hi=>h i (by omega)
  obtain⟨a,ha⟩:=h n (by omega);refine⟨l++[a],by simp[h1],λi b hb=>?_⟩;rcases Nat.lt_or_ge i l.length with hi|hi
  ·rw[getElem?_append_left hi] at hb;exact h2 i b hb
  ·rw[getElem?_append_right hi] at hb;have:i-l.length=0:=by have:=(List.getElem?_eq_some_iff.1 hb).1;simp at this;omega
   rw[this] at hb;simp at hb;subst hb;have:i=n:=by omega
   subst this;exact ha
end Go.cv
namespace Go.cv
open Go.RowKit
variable{P:Program}
theorem sM.len:∀ {ps' ps:List PV},sM ps' ps->ps'.length=ps.length
 | [],[],_=>rfl
 | [],_ :: _,h=>h.elim
 |_ :: _,[],h=>h.elim
 |_ :: _,_ :: _,h=>by simp[sM.len h.2]
theorem sM.at:∀ {ps' ps:List PV},sM ps' ps->∀ {j:Nat} {c:PV},ps[j]? = some c->∃c',ps'[j]? = some c'/\PLe c' c
 | [],[],_,_,_,h=>by simp at h
 | [],_ :: _,h,_,_,_=>h.elim
 |_ :: _,[],h,_,_,_=>h.elim
 |a :: r,b :: s,h,j,c,hc=>by
  cases j with
  |zero=>simp at hc;subst hc;exact⟨a,rfl,h.1⟩
  |succ j=>obtain⟨c',h1,h2⟩:=sM.at h.2 (j:=j) (c:=c) (by simpa using hc);exact⟨c',by simpa using h1,h2⟩
theorem PLe.agg{ps' ps:List PV}(h:sM ps' ps):PLe (.agg ps') (.agg ps):=λI v hv=>by
 cases hv with
 |agg us _ hl hv hone=>refine .agg us ps (hl.trans h.len) (λj u c hu hc=>?_) hone;obtain⟨c',h1,h2⟩:=h.at hc;exact h2 I u (hv j u c' hu h1)
theorem PLe.dW{ps' ps:List PV}(h:sM ps' ps):PLe (.dW ps') (.dW ps):=λI v hv=>by
 cases hv with
 |dW us _ hl hv=>refine .dW us ps (hl.trans h.len) (λj u c hu hc=>?_);obtain⟨c',h1,h2⟩:=h.at hc;exact h2 I u (hv j u c' hu h1)
theorem sM.refl:∀ps:List PV,sM ps ps
 | []=>trivial
 |a :: r=>⟨PLe.refl a,sM.refl r⟩
theorem aS.le{f:FuncId}{args:List PV}{Q Q':PV->Prop}(h:aS P f args Q)(hq:∀r,Q r->∃r',PLe r r'/\Q' r'):aS P f args Q' :=
 ⟨h.1,λI w vs hI hv=>(h.2 I w vs hI hv).mono λ_ _ ⟨v,r,I',h1,h2,h3,h4⟩=>by
  obtain⟨r',h5,h6⟩:=hq r h2;exact⟨v,r',I',h1,h6,h5 _ _ h3,h4⟩⟩
end Go.cv
namespace Go.cv
open Go.RowKit
theorem PLe.aU{es' es:List (List PV)}(hl:es'.map (·.length)=es.map (·.length))(hf:sM es'.flatten es.flatten):PLe (.aU es') (.aU es):=λI v hv=>by
 cases hv with
 |aU ao n cap _ us sz hn hsz hu hv hone hm hnil hcap =>
  have hlen:es'.length=es.length:=by have:=congrArg length hl;simpa using this
  refine .aU ao _ cap es us sz (by rw[<-hlen];exact hn) (λe he=>?_) (hu.trans hf.len) (λj u c hu hc=>?_) hone hm hnil hcap
  ·obtain⟨i,hi,rfl⟩:=getElem_of_mem he;have h1:(es'.map (·.length))[i]? = (es.map (·.length))[i]?:=by rw[hl]
   have hi':i<es'.length:=by omega
   simp only[getElem?_map,getElem?_eq_getElem hi,getElem?_eq_getElem hi',map_some,cA] at h1;rw[<-h1];exact hsz _ (nS hi')
  ·obtain⟨c',h1,h2⟩:=hf.at hc;exact h2 I u (hv j u c' hu h1)
variable{P:Program}{w:World}{H:Type}{enc:TypeId×Value->H}
theorem al2{a:Addr}(h:a.spot=none)(n:Nat):a.add n=⟨a.block,a.off+n,none⟩:=by
 obtain⟨b,o,s⟩:=a;simp only at h;subst h;unfold Addr.add;split
 ·rename_i hn;simp[hn]
 ·rfl
theorem al3{α:Type}{ec:α->List PV}{sz:Nat}(h0:0<sz)(hlen:∀a,(ec a).length=sz){a:Addr}{len cap:Nat}(hcap:len<=cap){l:List (α×List Value)}(hl:l.length=len)
  (h:∀ (i:Nat) (x:α×List Value),l[i]? = some x->w.cells? 0 (a.add (i * sz)) sz=some x.2/\rV w x.2 (ec x.1)):VR (snap w) (.slice (some a) len cap) (.aU ((l.map (·.1)).map ec)):=by
 have hall:∀e∈(l.map (·.1)).map ec,e.length=sz:=λe he=>by obtain⟨x,_,rfl⟩:=mem_map.1 he;exact hlen x
 have hcs:∀c∈l.map (·.2),c.length=sz:=λc hc=>by obtain⟨x,hx,rfl⟩:=mem_map.1 hc;obtain⟨i,hi⟩:=mem_iff_getElem?.1 hx;exact (abo (h i x hi).1).1
 have at':∀ (j:Nat) u,(l.map (·.2)).flatten[j]? = some u->∃x,l[j / sz]? = some x/\x.2[j % sz]? = some u:=λj u hu=>by have hj:j<(l.map (·.2)).flatten.length:=(List.getElem?_eq_some_iff.1 hu).1;rw[bH hcs,length_map] at hj;have hd:j / sz<l.length:=(Nat.div_lt_iff_lt_mul h0).2 hj;have e2:=iu hcs (j / sz) (j % sz) (by simpa using hd) (mod_lt _ h0);rw[div_add_mod' j sz,hu] at e2;refine⟨l[j / sz],getElem?_eq_getElem hd,?_⟩;rw[e2];simp[hd]
 refine .aU (some a) len cap _ (l.map (·.2)).flatten sz (by simp[hl]) hall ?_ (λj u c hu hc=>?_) (λu hu=>?_) ?_ (by simp) hcap
 ·rw[bH hcs,bH hall];simp
 ·obtain⟨x,hx,hxu⟩:=at' j u hu;have hd:j / sz<l.length:=(List.getElem?_eq_some_iff.1 hx).1;have e2:=iu hall (j / sz) (j % sz) (by simpa using hd) (mod_lt _ h0);rw[div_add_mod' j sz,hc] at e2;have e3:((l.map (·.1)).map ec).getD (j / sz) []=ec x.1:=by
   have:l[j / sz]=x:=by have:=getElem?_eq_getElem hd;rw[hx] at this;exact (Option.some.inj this).symm
   simp[hd,this]
  rw[e3] at e2;exact (h _ x hx).2.2.1 _ u c hxu e2.symm
 ·obtain⟨c,hc,huc⟩:=mem_flatten.1 hu;obtain⟨x,hx,rfl⟩:=mem_map.1 hc;obtain⟨i,hi⟩:=mem_iff_getElem?.1 hx;exact (h i x hi).2.2.2 u huc
 ·by_cases hn:(l.map (·.2)).flatten=[]
  ·exact .inl hn
  ·right;have hpos:0<l.length:=by
    rcases Nat.eq_zero_or_pos l.length with h'|h'
    ·exact absurd (by rw[length_eq_zero_iff.1 h'];rfl) hn
    ·exact h'
   have hsp:a.spot=none:=by
    have hx:=h 0 l[0] (getElem?_eq_getElem hpos);obtain⟨k1,k2⟩:=abo hx.1;have h00:0<l[0].2.length:=by rw[k1];exact h0
    have:=k2 0 l[0].2[0] (getElem?_eq_getElem h00);have:=atA this;simpa[Addr.add] using this
   refine⟨a.block,a.off,?_,λj u hu=>?_⟩
   ·obtain⟨b,o,s⟩:=a;simp only at hsp;subst hsp;rfl
   ·obtain⟨x,hx,hxu⟩:=at' j u hu;have:=(abo (h _ x hx).1).2 _ u hxu;rw[al2 hsp,al2 rfl] at this;simp only at this;rw[Nat.add_assoc,div_add_mod' j sz] at this;exact this
theorem Dec.slice{α:Type}{t e:TypeId}{sz:Nat}{ec:α->List PV}{G:α->Prop}(ht:P.underlying t=some (.slice e))(hc:P.cellsOf e=sz)(h0:0<sz)(hb:0<P.bytesOf e)(he:Dec P w enc e sz ec G) :
  Dec P w enc t 1 (λl:List α=>[.aU (l.map ec)]) (λl=>(∀a∈l,G a)/\l.length<=reachBytes) :=
 ⟨λ_=>rfl,λsp hd fuel cs x h hw=>by
  rcases DataW.trod_slice ht h with ⟨rfl,rfl⟩|⟨a,len,cap,elems,rest,n,_,rfl,rfl,_,hle,_,hlen,hel,_,_⟩
  ·exact⟨[],⟨by simp,by simp⟩,.one (.aU none 0 0 [] [] 1 rfl (by simp) rfl (by simp) (by simp) (.inl rfl) (λ_=>⟨rfl,rfl⟩) (le_refl _)) rfl⟩
  ·have hwt:∀k,k∈((elems.map (·.1)).length+(rest.map (·.1)).length) * P.bytesOf e :: (DataW.weightsAll P e (elems.map (·.1))++DataW.weightsAll P e (rest.map (·.1)))->k<=reachBytes:=λk hk=>by refine hw k ?_;simp only[DataW.weights,ht];exact hk
   obtain⟨l,l1,l2⟩:=aeh (n:=len) (Q:=λi (x:α×List Value)=>G x.1/\w.cells? 0 (a.add (i * sz)) sz=some x.2/\rV w x.2 (ec x.1)) λi hi=>by
    have h1:=hel i hi;have hi':i<elems.length:=by omega
    rw[getElem?_eq_getElem hi',hc] at h1;obtain⟨cs',h2,h3⟩:=Option.bind_eq_some_iff.1 h1;obtain⟨b,h4,h5⟩:=he.dec sp hd n cs' _ h3 λk hk=>hwt k (mem_cons_of_mem _ (mem_append_left _ (uV (mem_map.2 ⟨elems[i],nS hi',rfl⟩) k hk)))
    exact⟨(b,cs'),h4,h2,h5⟩
   refine⟨l.map (·.1),⟨λb hb'=>?_,?_⟩,.one (al3 h0 he.len hle l1 λi x hx=>(l2 i x hx).2) rfl⟩
   ·obtain⟨x,hx,rfl⟩:=mem_map.1 hb';obtain⟨i,hi⟩:=mem_iff_getElem?.1 hx;exact (l2 i x hi).1
   ·have:=hwt _ (mem_cons_self ..);rw[length_map,length_map,hlen] at this;rw[length_map,l1];exact le_trans (le_trans (Nat.le_add_right len rest.length) (Nat.le_mul_of_pos_right _ hb)) this⟩
structure afS(P:Program)(w:World){H:Type}(enc:TypeId×Value->H){α:Type}(fs:List Field)(off sz:Nat)(e:α->List PV)(G:α->Prop):Prop where
 len:∀a,(e a).length=sz
 dec:∀ (sp:Nat->Bool) (hd:Bool) (n:Nat) (cs:List Value) (ds:List (DataW H)),ds.length=fs.length->cs.length=off+sz->(∀ (i:Nat) f,fs[i]? = some f->∃ps,DataW.trod enc P w 0 sp hd n f.type ((cs.drop f.offset).take (P.cellsOf f.type))=(ds[i]?).map λd=>(d,ps)) ->
  (∀k∈DataW.weightsEach P (fs.map (·.type)) ds,k<=reachBytes)->∃a,G a/\rV w (cs.drop off) (e a)
theorem afS.nil(off:Nat):afS P w enc [] off 0 (λ_:Unit=>[]) (λ_=>True) :=
 ⟨λ_=>rfl,λsp hd n cs ds _ hl _ _=>⟨(),trivial,by
  have:cs.drop off=[]:=drop_eq_nil_of_le (by omega);rw[this];exact⟨rfl,by simp,by simp⟩⟩⟩
theorem rV.append{cs ds:List Value}{ps qs:List PV}(h:rV w cs ps)(k:rV w ds qs):rV w (cs++ds) (ps++qs):=by
 refine⟨by simp[h.1,k.1],λj u c hu hc=>?_,λu hu=>?_⟩
 ·rcases Nat.lt_or_ge j cs.length with hj|hj
  ·rw[getElem?_append_left hj] at hu;rw[getElem?_append_left (by rw[<-h.1];exact hj)] at hc;exact h.2.1 j u c hu hc
  ·rw[getElem?_append_right hj] at hu;rw[getElem?_append_right (by rw[<-h.1];exact hj),<-h.1] at hc;exact k.2.1 _ u c hu hc
 ·rcases mem_append.1 hu with hu|hu
  ·exact h.2.2 u hu
  ·exact k.2.2 u hu
theorem afS.cons{α β:Type}{f:Field}{fs:List Field}{off sz sz':Nat}{e:α->List PV}{G:α->Prop}{e':β->List PV}{G':β->Prop}(ho:f.offset=off)(hc:P.cellsOf f.type=sz)(h:Dec P w enc f.type sz e G)(hr:afS P w enc fs (off+sz) sz' e' G') :
  afS P w enc (f :: fs) off (sz+sz') (λx:α×β=>e x.1++e' x.2) (λx=>G x.1/\G' x.2) :=
 ⟨λx=>by rw[length_append,h.len,hr.len],λsp hd n cs ds hl hcs hall hw=>by
  match ds,hl with
  | [],hl=>simp at hl
  |d :: ds,hl =>
   rw[map_cons,DataW.weightsEach] at hw;obtain⟨ps,h0⟩:=hall 0 f rfl;simp only[getElem?_cons_zero,map_some] at h0;obtain⟨a,a1,a2⟩:=h.dec sp hd n _ _ h0 λk hk=>hw k (mem_append_left _ hk)
   obtain⟨b,b1,b2⟩:=hr.dec sp hd n cs ds (by simpa using hl) (by omega) (λi g hg=>by simpa using hall (i+1) g (by simpa using hg)) λk hk=>hw k (mem_append_right _ hk)
   refine⟨(a,b),⟨a1,b1⟩,?_⟩;have e1:cs.drop off=(cs.drop off).take sz++cs.drop (off+sz):=by rw[<-drop_drop,take_append_drop]
   rw[e1];rw[ho,hc] at a2;exact a2.append b2⟩
theorem Dec.struct{α:Type}{t:TypeId}{fs:Array Field}{sz:Nat}{e:α->List PV}{G:α->Prop}(ht:P.underlying t=some (.struct fs))(hc:P.cellsOf t=sz)(h:afS P w enc fs.toList 0 sz e G):Dec P w enc t sz e G :=
 ⟨h.len,λsp hd fuel cs x hx hw=>by
  obtain⟨xs,n,_,rfl,hl,hxs,hf⟩:=DataW.trod_struct ht hx;obtain⟨a,a1,a2⟩:=h.dec sp hd n cs (xs.map (·.1)) (by simp[hxs]) (by rw[hl,hc,zero_add]) (λi f hi=>by
   have h1:=hf i f (by simpa using hi);have hlt:i<xs.length:=by have:=(List.getElem?_eq_some_iff.1 hi).1;rw[hxs];simpa using this
   refine⟨xs[i].2,?_⟩;rw[h1];simp[hlt]) λk hk=>hw k (by
    simp only[DataW.weights,ht];exact hk)
  exact⟨a,a1,by simpa using a2⟩⟩
end Go.cv
namespace Go.cv
open Go.RowKit
variable{P:Program}{w:World}{H:Type}{enc:TypeId×Value->H}
theorem Dec.aI2{t:TypeId}(k:IntKind)(ht:P.underlying t=some (.int k)):Dec P w enc t 1 (λn:Int=>[.val (.int k n)]) (λn=>k.min<=n/\n<=k.max) :=
 ⟨λ_=>rfl,λsp hd fuel cs x h _=>by
  obtain⟨n,rfl,_,hw⟩:=DataW.trod_int ht h;refine⟨n,?_,.one (.val _ rfl) rfl⟩;simpa[Lit.wf] using hw⟩
def aE9 (e:TypeId) (off:Nat):Field:={ name := "",type:=e,offset:=off,embedded:=false,tag := "",pkgPath := "",byteOffset:=0 }
def ah3(n:Nat)(e:TypeId)(sz:Nat):List Field:=(range n).map λi=>aE9 e (i * sz)
theorem yz{e:TypeId} : ∀ (n:Nat) (ds:List (DataW H)),ds.length=n->DataW.weightsEach P (replicate n e) ds=DataW.weightsAll P e ds
 |0,[],_=>rfl
 |n+1,d :: r,h=>by rw[replicate_succ,DataW.weightsEach,DataW.weightsAll,yz n r (by simpa using h)]
 |n+1,[],h=>by simp at h
 |0,d :: r,h=>by simp at h
theorem Dec.array{α:Type}{t e:TypeId}{n sz sz0:Nat}{ec:α->List PV}{G:α->Prop}(ht:P.underlying t=some (.array n e))(hc:P.cellsOf t=sz)(h0:P.cellsOf e=sz0)(h:afS P w enc (ah3 n e sz0) 0 sz ec G):Dec P w enc t sz ec G :=
 ⟨h.len,λsp hd fuel cs x hx hw=>by
  obtain⟨xs,m,_,rfl,hl,hxs,hf⟩:=DataW.trod_array ht hx;obtain⟨a,a1,a2⟩:=h.dec sp hd m cs (xs.map (·.1)) (by simp[hxs,ah3]) (by rw[hl,hc,zero_add]) (λi f hi=>by
   have hlt:i<n:=by have:=(List.getElem?_eq_some_iff.1 hi).1;simpa[ah3] using this
   have hfe:f=aE9 e (i * sz0):=by simpa[ah3,hlt] using hi.symm
   subst hfe;have h1:=hf i hlt;refine⟨(xs[i]'(by omega)).2,?_⟩;subst h0;show DataW.trod enc P w 0 sp hd m e (take (P.cellsOf e) (drop (i * P.cellsOf e) cs))=_;rw[h1];simp[hxs,hlt]) λk hk=>hw k (by
    simp only[DataW.weights,ht];have e1:(ah3 n e sz0).map (·.type)=replicate n e:=by unfold ah3;rw[map_map];exact (map_const' ..).trans (by rw[length_range])
    rw[e1,yz n _ (by simp[hxs])] at hk;exact hk)
  exact⟨a,a1,by simpa using a2⟩⟩
end Go.cv
namespace Go.cv
open Go.ChangeShapes Go.WideShapes Go.ChangeAt Go.RowKit
variable{P:Program}{W:World}{H:Type}{enc:TypeId×Value->H}{α β:Type}
structure afT(P:Program)(W:World){H:Type}(enc:TypeId×Value->H){α:Type}(t:TypeId)(e:α->PV)(G:α->Prop):Prop where
 dec:∀b0 v d ps,Value.okWide P W .any b0 t v->DataW.Trod enc P W 0 (λ_=>true) true t v d ps->ax3 P t d->∃a,G a/\VR (snap W) v (e a)
 read:P.readableRec t=true
 size:t<P.types.size
theorem afT.struct{t:TypeId}{fs:Array Field}{sz:Nat}{e:α->List PV}{G:α->Prop}(ht:P.underlying t=some (.struct fs))(ax4:Dec P W enc t sz e G)(hr:P.readableRec t=true)(hs:t<P.types.size):afT P W enc t (λa=>.agg (e a)) G :=
 ⟨λb0 v d ps hval h hw=>by
  unfold Value.okWide at hval;rw[ht] at hval;obtain⟨cs,rfl,_⟩:=hval;obtain⟨fuel,hf⟩:=h;obtain⟨a,h1,h2⟩:=ax4.dec _ _ fuel _ _ hf hw;refine⟨a,h1,?_⟩;have:VR (snap W) (.agg (cs.toList).toArray) (.agg (e a)):=.agg cs.toList (e a) h2.1 h2.2.1 h2.2.2;simpa using this,hr,hs⟩
theorem afT.array{t e':TypeId}{n sz:Nat}{e:α->List PV}{G:α->Prop}(ht:P.underlying t=some (.array n e'))(ax4:Dec P W enc t sz e G)(hr:P.readableRec t=true)(hs:t<P.types.size):afT P W enc t (λa=>.agg (e a)) G :=
 ⟨λb0 v d ps hval h hw=>by
  unfold Value.okWide at hval;rw[ht] at hval;obtain⟨cs,rfl,_⟩:=hval;obtain⟨fuel,hf⟩:=h;obtain⟨a,h1,h2⟩:=ax4.dec _ _ fuel _ _ hf hw;refine⟨a,h1,?_⟩;have:VR (snap W) (.agg (cs.toList).toArray) (.agg (e a)):=.agg cs.toList (e a) h2.1 h2.2.1 h2.2.2;simpa using this,hr,hs⟩
theorem afT.one{t:TypeId}{e:α->PV}{G:α->Prop}(ht:∀b0 v,Value.okWide P W .any b0 t v->v.cells.toList=[v])(ax4:Dec P W enc t 1 (λa=>[e a]) G)(hr:P.readableRec t=true)(hs:t<P.types.size):afT P W enc t e G :=
 ⟨λb0 v d ps hval h hw=>by
  obtain⟨fuel,hf⟩:=h;rw[ht b0 v hval] at hf;obtain⟨a,h1,h2⟩:=ax4.dec _ _ fuel _ _ hf hw;exact⟨a,h1,h2.2.1 0 v (e a) rfl rfl⟩,hr,hs⟩
theorem apf{t:TypeId}(ht:P.underlying t=some .bool)(b0:Nat)(v:Value)(h:Value.okWide P W .any b0 t v):v.cells.toList=[v]:=by obtain⟨n,rfl⟩:=okWide_bool ht h;rfl
theorem aei:∀ {ts:List TypeId} {vs:List Value} {ds:List (DataW H)} {ps:List MemPlace},DataW.TrodAll enc P W 0 (λ_=>true) true ts vs ds ps->ds.length=ts.length
 | [],vs,ds,ps,h=>by obtain⟨rfl,rfl,rfl⟩:=trodAll_nil h;rfl
 |t :: ts,vs,ds,ps,h=>by obtain⟨v,vs',d,ds',p,q,rfl,rfl,rfl,h1,h2⟩:=trodAll_cons h;rw[length_cons,length_cons,aei h2]
structure ah4(P:Program)(W:World){H:Type}(enc:TypeId×Value->H){α:Type}(ts:List TypeId)(e:α->List PV)(G:α->Prop):Prop where
 dec:∀b0 vs ds ps,(∀ (j:Nat) t v,ts[j]? = some t->vs[j]? = some v->Value.okWide P W .any b0 t v)->DataW.TrodAll enc P W 0 (λ_=>true) true ts vs ds ps->(∀n∈DataW.weightsEach P ts ds,n<=reachBytes) ->
  ∃a,G a/\vs.length=(e a).length/\∀ (j:Nat) u x,vs[j]? = some u->(e a)[j]? = some x->VR (snap W) u x
 stay:laidOutB P=true->∀vs ds ps W',DataW.TrodAll enc P W 0 (λ_=>true) true ts vs ds ps->Below W.heap.size W W'->(∀x∈ps,x.block<W.heap.size)->DataW.TrodAll enc P W' 0 (λb=>decide (b<W.heap.size)) true ts vs ds ps
theorem ah4.nil:ah4 P W enc [] (λ_:Unit=>[]) (λ_=>True) :=
 ⟨λb0 vs ds ps _ h _=>by
  obtain⟨rfl,rfl,rfl⟩:=trodAll_nil h;exact⟨(),trivial,rfl,λj u x hu=>by simp at hu⟩,λ_ vs ds ps W' h _ _=>by
  obtain⟨rfl,rfl,rfl⟩:=trodAll_nil h;exact trodAll_mk0⟩
theorem ah4.cons{t:TypeId}{ts:List TypeId}{e:α->PV}{G:α->Prop}{e':β->List PV}{G':β->Prop}(h:afT P W enc t e G)(hr:ah4 P W enc ts e' G') :
  ah4 P W enc (t :: ts) (λx:α×β=>e x.1 :: e' x.2) (λx=>G x.1/\G' x.2) :=
 ⟨λb0 vs ds ps hv ht hw=>by
  obtain⟨v,vs',d,ds',p,q,rfl,rfl,rfl,h1,h2⟩:=trodAll_cons ht;rw[DataW.weightsEach] at hw;obtain⟨a,a1,a2⟩:=h.dec b0 v d p (hv 0 t v rfl rfl) h1 λn hn=>hw n (mem_append_left _ hn)
  obtain⟨b,b1,b2,b3⟩:=hr.dec b0 vs' ds' q (λj t v ht wL=>hv (j+1) t v (by simpa using ht) (by simpa using wL)) h2 λn hn=>hw n (mem_append_right _ hn)
  refine⟨(a,b),⟨a1,b1⟩,by simp[b2],λj u x hu hx=>?_⟩;cases j with
  |zero=>simp at hu hx;subst hu hx;exact a2
  |succ j=>exact b3 j u x (by simpa using hu) (by simpa using hx),λhl vs ds ps W' ht hb hlt=>by
  obtain⟨v,vs',d,ds',p,q,rfl,rfl,rfl,h1,h2⟩:=trodAll_cons ht;exact⟨p,q,Below.trod hl h.read h.size h1 hb λx hx=>hlt x (mem_append_left _ hx),hr.stay hl vs' ds' q W' h2 hb λx hx=>hlt x (mem_append_right _ hx),rfl⟩⟩
theorem ax5{C:Checked}{os:Os}{f:FuncId}{fn:Func}{s:ChangeSpec}{conds:List PathCond}{apart fresh handsOn:Bool}{e:α->List PV}{G:α->Prop}{tb:TypeId}
  (own:ownKnob C.prog.godebug=none) (laid:laidOutB C.prog=true) (started:os.Started) (noInit:C.prog.inits.idxOf? f=none) (hfn:C.prog.funcs[f]? = some fn)
  (witness:∃ (w:World) (tape:Tape) (i:Input),w.os=os/\(w.forCall tape i).Shaped C.prog/\i.vars=[]/\Input.okWide C.prog (w.forCall tape i) .any w.heap.size f i /\
   s.pre6 enc C.prog fn conds apart (w.forCall tape i).memory i.args/\({} : Assume).holds C.prog (lone (Frame.enter C.prog f i.args .normal) [] (w.forCall tape i)))
  (hres:fn.resultTypes = #[tb]) (hb:C.prog.underlying tb=some .bool) (hv:s.vars=[]) (hs:∀ds:List (DataW H),ds.length=fn.params.size->(s.fn H ds).results=[.lit (.bool true)]/\(s.fn H ds).args=ds/\(s.fn H ds).vars=[])
  (hd:∀W,ah4 C.prog W enc fn.params.toList e G) (ok:∀a,G a->aS C.prog f (e a) λr=>r = .val (.bool true)) :
  ReturnsInHanded {} C os f .any (s.pre6 enc C.prog fn conds apart) (s.post enc C.prog fn apart fresh handsOn false):=by
 refine returnsInHanded_of_change_sized (C:=C) own started noInit hfn witness ?_;intro W base args ds gs before hval hW _ hz _;have hW':=hW;obtain⟨p,q,hA,hV,rfl,hfz,hnd⟩:=hW;rw[hv] at hV;have hg:gs=[]/\q=[]:=by
  cases gs with
  |nil=>exact⟨rfl,hV⟩
  |cons=>exact hV.elim
 obtain⟨rfl,rfl⟩:=hg;have hvt:s.plain.varTypes C.prog=[]:=by have:s.plain.vars=[]:=hv;unfold DataSpec.varTypes;rw[this];rfl
 rw[hvt,append_nil,append_nil] at hz;have hw:∀n∈DataW.weightsEach C.prog fn.params.toList ds,n<=reachBytes:=λn hn=>by have:=all_eq_true.1 hz n hn;simpa using this
 obtain⟨a,a1,a2,a3⟩:=(hd W).dec base args.toList ds p (λj t v ht wL=>hval j t v (by simpa using ht) (by simpa using wL)) hA hw;have hlt:∀x∈p,x.block<W.heap.size:=λx hx=>hW'.lt x (mem_append_left _ hx)
 obtain⟨s1,s2,s3⟩:=hs ds (by
  have:=aei hA;simpa using this)
 refine ((ok a a1).2 (snap W) W args.toList (afd W) ⟨a2,a3⟩).mono ?_;rintro e' W' ⟨v,r,I',rfl,rfl,wL,bel,_⟩;have hvb:v = .bool true:=by cases wL;rfl
 subst hvb;refine⟨_,rfl,ds,[],p++[],[],p,[],hW',?_,?_,?_,bel.frame _,λh=>by cases h⟩
 ·rw[append_nil,s1,hres];exact trodAll_mk1 (shut_bool hb true)
 ·rw[append_nil,s2];exact (hd W).stay laid _ _ _ _ hA bel hlt
 ·rw[append_nil,s3,hv];rfl
end Go.cv
namespace Go.cv
open Go.RowKit
variable{P:Program}{w:World}{H:Type}{enc:TypeId×Value->H}
structure afU(P:Program)(w:World){H:Type}(enc:TypeId×Value->H)(N:Nat){α:Type}(t:TypeId)(sz:Nat)(e:α->List PV)(G:α->Prop):Prop where
 len:∀a,(e a).length=sz
 dec:∀ (sp:Nat->Bool) (hd:Bool) (fuel:Nat),fuel<N->∀ (cs:List Value) (x:DataW H×List MemPlace),DataW.trod enc P w 0 sp hd fuel t cs=some x->ax3 P t x.1->∃a,G a/\rV w cs (e a)
theorem afU.zero{α:Type}{t:TypeId}{sz:Nat}{e:α->List PV}{G:α->Prop}(h:∀a,(e a).length=sz):afU P w enc 0 t sz e G:=⟨h,λ_ _ _ h=>absurd h (not_lt_zero _)⟩
theorem afU.map{N:Nat}{α β:Type}{t:TypeId}{sz:Nat}{e:α->List PV}{G:α->Prop}{e':β->List PV}{G':β->Prop}(g:α->β)(f:β->α)(hgf:∀b,e (f b)=e' b)(hg:∀a,e' (g a)=e a)(hG:∀a,G a->G' (g a))(h:afU P w enc N t sz e G):afU P w enc N t sz e' G' :=
 ⟨λb=>by rw[<-hgf];exact h.len _,λsp hd fuel hf cs x hx hw=>by
  obtain⟨a,h1,h2⟩:=h.dec sp hd fuel hf cs x hx hw;exact⟨g a,hG a h1,by rw[hg];exact h2⟩⟩
theorem afU.slice{N:Nat}{α:Type}{t e:TypeId}{sz:Nat}{ec:α->List PV}{G:α->Prop}(ht:P.underlying t=some (.slice e))(hc:P.cellsOf e=sz)(h0:0<sz)(hb:0<P.bytesOf e)(he:afU P w enc N e sz ec G) :
  afU P w enc N t 1 (λl:List α=>[.aU (l.map ec)]) (λl=>(∀a∈l,G a)/\l.length<=reachBytes) :=
 ⟨λ_=>rfl,λsp hd fuel hN cs x h hw=>by
  rcases DataW.trod_slice ht h with ⟨rfl,rfl⟩|⟨a,len,cap,elems,rest,n,hfn,rfl,rfl,_,hle,_,hlen,hel,_,_⟩
  ·exact⟨[],⟨by simp,by simp⟩,.one (.aU none 0 0 [] [] 1 rfl (by simp) rfl (by simp) (by simp) (.inl rfl) (λ_=>⟨rfl,rfl⟩) (le_refl _)) rfl⟩
  ·have hn:n<N:=by omega
   have hwt:∀k,k∈((elems.map (·.1)).length+(rest.map (·.1)).length) * P.bytesOf e :: (DataW.weightsAll P e (elems.map (·.1))++DataW.weightsAll P e (rest.map (·.1)))->k<=reachBytes:=λk hk=>by refine hw k ?_;simp only[DataW.weights,ht];exact hk
   obtain⟨l,l1,l2⟩:=aeh (n:=len) (Q:=λi (x:α×List Value)=>G x.1/\w.cells? 0 (a.add (i * sz)) sz=some x.2/\rV w x.2 (ec x.1)) λi hi=>by
    have h1:=hel i hi;have hi':i<elems.length:=by omega
    rw[getElem?_eq_getElem hi',hc] at h1;obtain⟨cs',h2,h3⟩:=Option.bind_eq_some_iff.1 h1;obtain⟨b,h4,h5⟩:=he.dec sp hd n hn cs' _ h3 λk hk=>hwt k (mem_cons_of_mem _ (mem_append_left _ (uV (mem_map.2 ⟨elems[i],nS hi',rfl⟩) k hk)))
    exact⟨(b,cs'),h4,h2,h5⟩
   refine⟨l.map (·.1),⟨λb hb'=>?_,?_⟩,.one (al3 h0 he.len hle l1 λi x hx=>(l2 i x hx).2) rfl⟩
   ·obtain⟨x,hx,rfl⟩:=mem_map.1 hb';obtain⟨i,hi⟩:=mem_iff_getElem?.1 hx;exact (l2 i x hi).1
   ·have:=hwt _ (mem_cons_self ..);rw[length_map,length_map,hlen] at this;rw[length_map,l1];exact le_trans (le_trans (Nat.le_add_right len rest.length) (Nat.le_mul_of_pos_right _ hb)) this⟩
structure adx(P:Program)(w:World){H:Type}(enc:TypeId×Value->H)(N:Nat){α:Type}(fs:List Field)(off sz:Nat)(e:α->List PV)(G:α->Prop):Prop where
 len:∀a,(e a).length=sz
 dec:∀ (sp:Nat->Bool) (hd:Bool) (n:Nat),n<N->∀ (cs:List Value) (ds:List (DataW H)),ds.length=fs.length->cs.length=off+sz->(∀ (i:Nat) f,fs[i]? = some f->∃ps,DataW.trod enc P w 0 sp hd n f.type ((cs.drop f.offset).take (P.cellsOf f.type))=(ds[i]?).map λd=>(d,ps)) ->
  (∀k∈DataW.weightsEach P (fs.map (·.type)) ds,k<=reachBytes)->∃a,G a/\rV w (cs.drop off) (e a)
theorem adx.nil{N:Nat}(off:Nat):adx P w enc N [] off 0 (λ_:Unit=>[]) (λ_=>True) :=
 ⟨λ_=>rfl,λsp hd n _ cs ds _ hl _ _=>⟨(),trivial,by
  have:cs.drop off=[]:=drop_eq_nil_of_le (by omega);rw[this];exact⟨rfl,by simp,by simp⟩⟩⟩
theorem adx.cons{N:Nat}{α β:Type}{f:Field}{fs:List Field}{off sz sz':Nat}{e:α->List PV}{G:α->Prop}{e':β->List PV}{G':β->Prop}(ho:f.offset=off)(hc:P.cellsOf f.type=sz)(h:afU P w enc N f.type sz e G)(hr:adx P w enc N fs (off+sz) sz' e' G') :
  adx P w enc N (f :: fs) off (sz+sz') (λx:α×β=>e x.1++e' x.2) (λx=>G x.1/\G' x.2) :=
 ⟨λx=>by rw[length_append,h.len,hr.len],λsp hd n hn cs ds hl hcs hall hw=>by
  match ds,hl with
  | [],hl=>simp at hl
  |d :: ds,hl =>
   rw[map_cons,DataW.weightsEach] at hw;obtain⟨ps,h0⟩:=hall 0 f rfl;simp only[getElem?_cons_zero,map_some] at h0;obtain⟨a,a1,a2⟩:=h.dec sp hd n hn _ _ h0 λk hk=>hw k (mem_append_left _ hk)
   obtain⟨b,b1,b2⟩:=hr.dec sp hd n hn cs ds (by simpa using hl) (by omega) (λi g hg=>by simpa using hall (i+1) g (by simpa using hg)) λk hk=>hw k (mem_append_right _ hk)
   refine⟨(a,b),⟨a1,b1⟩,?_⟩;have e1:cs.drop off=(cs.drop off).take sz++cs.drop (off+sz):=by rw[<-drop_drop,take_append_drop]
   rw[e1];rw[ho,hc] at a2;exact a2.append b2⟩
theorem afU.struct{N:Nat}{α:Type}{t:TypeId}{fs:Array Field}{sz:Nat}{e:α->List PV}{G:α->Prop}(ht:P.underlying t=some (.struct fs))(hc:P.cellsOf t=sz)(h:adx P w enc N fs.toList 0 sz e G):afU P w enc (N+1) t sz e G :=
 ⟨h.len,λsp hd fuel hN cs x hx hw=>by
  obtain⟨xs,n,hfn,rfl,hl,hxs,hf⟩:=DataW.trod_struct ht hx;obtain⟨a,a1,a2⟩:=h.dec sp hd n (by omega) cs (xs.map (·.1)) (by simp[hxs]) (by rw[hl,hc,zero_add]) (λi f hi=>by
   have h1:=hf i f (by simpa using hi);have hlt:i<xs.length:=by have:=(List.getElem?_eq_some_iff.1 hi).1;rw[hxs];simpa using this
   refine⟨xs[i].2,?_⟩;rw[h1];simp[hlt]) λk hk=>hw k (by
    simp only[DataW.weights,ht];exact hk)
  exact⟨a,a1,by simpa using a2⟩⟩
end Go.cv
namespace Go.cv
open Go.RowKit
def cT{α:Type}(p:Prop) [Decidable p](x:Option α):Option α:=if p then x else none
def thn{α β:Type}(x:Option α)(k:α->Option β):Option β:=match x with
 |some a=>k a
 |none=>none
def nO{α:Type}(l:List α)(i:Int):Option α:=if 0<=i then l[i.toNat]? else none
theorem ax6{α:Type}{p:Prop} [Decidable p]{x:Option α}{r:α}(h:cT p x=some r):p/\x=some r:=by
 unfold cT at h;split at h
 ·exact⟨by assumption,h⟩
 ·cases h
theorem ot{α β:Type}{x:Option α}{k:α->Option β}{r:β}(h:thn x k=some r):∃a,x=some a/\k a=some r:=by
 unfold thn at h;split at h
 ·exact⟨_,rfl,h⟩
 ·cases h
theorem zj{α:Type}{b:Bool}{x y:Option α}{r:α}(h:cond b x y=some r)(hb:b=true):x=some r:=by subst hb;exact h
theorem ady{α:Type}{b:Bool}{x y:Option α}{r:α}(h:cond b x y=some r)(hb:b=false):y=some r:=by subst hb;exact h
theorem aCD{α β:Type}{l:List α}{i:Nat}{k:α->Option β}{r:β}(f:α->List PV)(h:thn l[i]? k=some r):∃a,i<l.length/\(l.map f).getD i []=f a/\l[i]? = some a/\k a=some r:=by obtain⟨a,h1,h2⟩:=ot h;exact⟨a,(List.getElem?_eq_some_iff.1 h1).1,by simp[h1],h1,h2⟩
theorem aCE{α β:Type}{l:List α}{i:Int}{k:α->Option β}{r:β}(f:α->List PV)(h:thn (nO l i) k=some r) :
  ∃a,0<=i/\i<(l.length:Int)/\(l.map f).getD i.toNat []=f a/\nO l i=some a/\k a=some r:=by
 obtain⟨a,h1,h2⟩:=ot h;have ur:=h1;unfold nO at h1;split at h1
 ·rename_i h0;have:=(List.getElem?_eq_some_iff.1 h1).1;exact⟨a,h0,by omega,by simp[h1],ur,h2⟩
 ·cases h1
theorem fc{α:Type}{f:α->List PV}{n:Nat}(h:∀a,(f a).length=n)(l:List α):∀x∈l.map f,x.length=n:=by intro x hx;obtain⟨a,_,rfl⟩:=mem_map.1 hx;exact h a
theorem aBB{α:Type}{f:α->List PV}(h:∀a,(f a).all isVal=true)(l:List α):((l.map f).all λx=>x.all isVal)=true:=by simp[h]
theorem atB{α β:Type}(f:α->β)(l:List α)(n:Nat):(l.map f).take n=(l.take n).map f:=(map_take ..).symm
theorem atC{α β:Type}(f:α->β)(l:List α)(n:Nat):(l.map f).drop n=(l.drop n).map f:=(map_drop ..).symm
theorem ax7{α β:Type}(f:α->β)(l m:List α):l.map f++m.map f=(l++m).map f:=(map_append ..).symm
theorem bz{α β:Type}(f:α->β)(l m:List α){c:List β}(h:m.map f=c):l.map f++c=(l++m).map f:=by rw[map_append,h]
theorem wZ{α β:Type}(f:α->β)(l:List α)(i:Nat)(a:α){c:β}(h:f a=c):(l.map f).set i c=(l.set i a).map f:=by rw[map_set,<-h]
attribute [go_sem] atB atC ax7 take_length length_set length_replicate set_cons_zero set_cons_succ le_refl not_lt_zero zero_le Nat.zero_lt_succ decide_true decide_false Bool.not_not 
mutual
def tU:PV->PV->Prop
 | .val (.slice none 0 0),.aU es=>es=[]
 | .emp,.aU es=>es=[]
 | .aU a,.aU b=>k9 a b
 | .agg a,.agg b=>ry a b
 | .dW a,.dW b=>ry a b
 |a,b=>a=b
def ry:List PV->List PV->Prop
 | [],[]=>True
 |a :: r,b :: s=>tU a b/\ry r s
 |_,_=>False
def k9:List (List PV)->List (List PV)->Prop
 | [],[]=>True
 |a :: r,b :: s=>ry a b/\k9 r s
 |_,_=>False
end
theorem sM.app:∀ {a b c d:List PV},sM a b->sM c d->sM (a++c) (b++d)
 | [],[],_,_,_,h=>h
 | [],_ :: _,_,_,h,_=>h.elim
 |_ :: _,[],_,_,h,_=>h.elim
 |_ :: _,_ :: _,_,_,h,k=>⟨h.1,sM.app h.2 k⟩
mutual
theorem ajP:∀ (a b:PV),tU a b->PLe a b:=by
 intro a b h;unfold tU at h;split at h
 ·subst h;exact .nil
 ·subst h;exact .emp
 ·exact .aU (sO _ _ h).1 (sO _ _ h).2
 ·exact .agg (tV _ _ h)
 ·exact .dW (tV _ _ h)
 ·subst h;exact .refl _
theorem tV:∀ (a b:List PV),ry a b->sM a b
 | [],[],_=>trivial
 |a :: r,b :: s,h=>⟨ajP a b (by unfold ry at h;exact h.1),tV r s (by unfold ry at h;exact h.2)⟩
 | [],_ :: _,h=>by unfold ry at h;exact h
 |_ :: _,[],h=>by unfold ry at h;exact h
theorem sO:∀ (a b:List (List PV)),k9 a b->a.map (·.length)=b.map (·.length)/\sM a.flatten b.flatten
 | [],[],_=>⟨rfl,trivial⟩
 |a :: r,b :: s,h=>by unfold k9 at h;have h1:=tV a b h.1;have h2:=sO r s h.2;exact⟨by rw[map_cons,map_cons,h2.1,h1.len],by rw[flatten_cons,flatten_cons];exact h1.app h2.2⟩
 | [],_ :: _,h=>by unfold k9 at h;exact h.elim
 |_ :: _,[],h=>by unfold k9 at h;exact h.elim
end
theorem aS.oa{P:Program}{f:FuncId}{args:List PV}{t:PV}(h:aS P f args (λv=>tU v t)):aS P f args (λv=>v=t):=h.le λr hr=>⟨t,ajP r t hr,rfl⟩
mutual
def uW:RV->RV->Prop
 | .p (.val (.slice none 0 0)),.row _ sz es=>es=[]/\0<sz
 | .p (.val (.slice none 0 0)),.p (.aU es)=>es=[]
 | .row e sz es,.row e' sz' es'=>e=e'/\sz=sz'/\k9 es es'
 | .p (.aU a),.p (.aU b)=>k9 a b
 | .agg a,.agg b=>acm a b
 | .dW a,.dW b=>acm a b
 | .p (.agg a),.agg b=>aeK a b
 |a,b=>a=b
def acm:List RV->List RV->Prop
 | [],[]=>True
 |a :: r,b :: s=>uW a b/\acm r s
 |_,_=>False
def aeK:List PV->List RV->Prop
 | [],[]=>True
 |a :: r,b :: s=>uW (.p a) b/\aeK r s
 |_,_=>False
end
theorem xR.aFa{w:World}{B:Nat}{J:Mem}{u:Value}{bs:List Nat}{e:TypeId}{sz:Nat}{es es':List (List PV)}(hl:es.map (·.length)=es'.map (·.length))(hf:sM es.flatten es'.flatten)(h:xR w B J u (.row e sz es) bs):xR w B J u (.row e sz es') bs:=by
 cases h with
 |row _ _ _ _ us h h1 =>
  have hlen:es.length=es'.length:=by have:=congrArg length hl;simpa using this
  refine .row u e sz es' us ⟨hlen ▸ h.own,h.pos,λx hx=>?_,λj u c hu hc=>?_,h.one,h.free⟩ h1
  ·obtain⟨i,hi,rfl⟩:=getElem_of_mem hx;have h2:(es.map (·.length))[i]? = (es'.map (·.length))[i]?:=by rw[hl]
   have hi':i<es.length:=by omega
   simp only[getElem?_map,getElem?_eq_getElem hi,getElem?_eq_getElem hi',map_some,cA] at h2;rw[<-h2];exact h.all _ (nS hi')
  ·obtain⟨c',q1,q2⟩:=hf.at hc;exact q2 J u (h.val j u c' hu q1)
theorem xR.aDs{w:World}{B:Nat}{J:Mem}{u:Value}{bs:List Nat}(e:TypeId){sz:Nat}(hsz:0<sz)(h:xR w B J u (.p (.val (.slice none 0 0))) bs):xR w B J u (.row e sz []) bs:=(RLe.nil e sz hsz).sound h
theorem xR.aDt{w:World}{B:Nat}{J:Mem}{u:Value}{bs:List Nat}(h:xR w B J u (.p (.val (.slice none 0 0))) bs):xR w B J u (.p (.aU [])) bs:=RLe.aD9.sound h
def RLs(w:World)(B:Nat)(J:Mem)(us:List Value)(rs:List RV)(bs:List (List Nat)):Prop:=us.length=rs.length/\us.length=bs.length/\∀ (j:Nat) u r b,us[j]? = some u->rs[j]? = some r->bs[j]? = some b->xR w B J u r b
theorem RLs.cons{w:World}{B:Nat}{J:Mem}{u:Value}{us:List Value}{r r':RV}{rs rs':List RV}{b:List Nat}{bs:List (List Nat)}(h:RLs w B J (u :: us) (r :: rs) (b :: bs))
  (h1:xR w B J u r b->xR w B J u r' b) (h2:RLs w B J us rs bs->RLs w B J us rs' bs):RLs w B J (u :: us) (r' :: rs') (b :: bs):=by
 obtain⟨a1,a2,a3⟩:=h;obtain⟨c1,c2,c3⟩:=h2 ⟨by simpa using a1,by simpa using a2,λj u r b hu hr hb=>a3 (j+1) u r b (by simpa using hu) (by simpa using hr) (by simpa using hb)⟩;refine⟨by simpa using c1,by simpa using c2,λj u r b hu hr hb=>?_⟩;cases j with
 |zero=>simp at hu hr hb;subst hu hr hb;exact h1 (a3 0 _ _ _ rfl rfl rfl)
 |succ j=>exact c3 j u r b (by simpa using hu) (by simpa using hr) (by simpa using hb)
mutual
theorem ajQ:∀ (r t:RV),uW r t->∀ {w:World} {B:Nat} {J:Mem} {u:Value} {bs:List Nat},xR w B J u r bs->xR w B J u t bs:=by
 intro r t h w B J u bs hr;unfold uW at h;split at h
 ·obtain⟨rfl,h2⟩:=h;exact hr.aDs _ h2
 ·subst h;exact hr.aDt
 ·obtain⟨rfl,rfl,h⟩:=h;exact hr.aFa (sO _ _ h).1 (sO _ _ h).2
 ·cases hr with
  |p _ _ hx=>exact .p _ _ ((PLe.aU (sO _ _ h).1 (sO _ _ h).2) _ _ hx)
 ·cases hr with
  |agg us rs bs q1 q2 q3 q4=>obtain⟨c1,c2,c3⟩:=ajR _ _ h (w:=w) (B:=B) (J:=J) ⟨q1,q2,q3⟩;exact .agg us _ bs c1 c2 c3 q4
 ·cases hr with
  |dW us rs bs q1 q2 q3=>obtain⟨c1,c2,c3⟩:=ajR _ _ h (w:=w) (B:=B) (J:=J) ⟨q1,q2,q3⟩;exact .dW us _ bs c1 c2 c3
 ·cases hr with
  |p u x hx =>
   cases hx with
   |agg us cs q1 q2 q3 =>
    obtain⟨c1,c2,c3⟩:=aqZ _ _ h (w:=w) (B:=B) (J:=J) (us:=us) ⟨q1,q2⟩;have:((us.map λ_=>([]:List Nat))).flatten=[]:=by simp
    have h2:=xR.agg us _ (us.map λ_=>[]) c1 c2 c3 q3;rw[this] at h2;exact h2
 ·subst h;exact hr
termination_by r t=>SizeOf.sizeOf t
theorem ajR:∀ (a b:List RV),acm a b->∀ {w:World} {B:Nat} {J:Mem} {us:List Value} {bs:List (List Nat)},RLs w B J us a bs->RLs w B J us b bs
 | [],[],_,_,_,_,_,_,h=>h
 | [],_ :: _,h,_,_,_,_,_,_=>by unfold acm at h;exact h.elim
 |_ :: _,[],h,_,_,_,_,_,_=>by unfold acm at h;exact h.elim
 |a :: r,b :: s,h,w,B,J,us,bs,hr=>by
  unfold acm at h
  match us,bs,hr with
  |u :: us,c :: bs,hr=>exact hr.cons (ajQ a b h.1) (ajR r s h.2)
  | [],_,hr=>have:=hr.1;simp at this
  |_ :: _,[],hr=>have:=hr.2.1;simp at this
termination_by a b=>SizeOf.sizeOf b
theorem aqZ:∀ (a:List PV) (b:List RV),aeK a b->∀ {w:World} {B:Nat} {J:Mem} {us:List Value},VRs J us a->RLs w B J us b (us.map λ_=>[])
 | [],[],_,_,_,_,us,h=>by
  have h1:us=[]:=by have:=h.1;simpa using this
  subst h1;exact⟨rfl,rfl,λj u r b hu=>by simp at hu⟩
 | [],_ :: _,h,_,_,_,_,_=>by unfold aeK at h;exact h.elim
 |_ :: _,[],h,_,_,_,_,_=>by unfold aeK at h;exact h.elim
 |a :: r,b :: s,h,w,B,J,us,hr=>by
  unfold aeK at h
  match us,hr with
  |u :: us,hr =>
   have ih:=aqZ r s h.2 (w:=w) (B:=B) (J:=J) (us:=us) ⟨by have:=hr.1;simpa using this,λj u c hu hc=>hr.2 (j+1) u c (by simpa using hu) (by simpa using hc)⟩;have h1:=ajQ (.p a) b h.1 (w:=w) (B:=B) (.p u a (hr.2 0 u a rfl rfl));refine⟨by simpa using ih.1,by simp,λj u r b hu hr hb=>?_⟩;cases j with
   |zero=>simp at hu hr hb;subst hu hr hb;exact h1
   |succ j=>exact ih.2.2 j u r b (by simpa using hu) (by simpa using hr) (by simpa using hb)
  | [],hr=>have:=hr.1;simp at this
termination_by a b=>SizeOf.sizeOf b
end
theorem bt.uz{P:Program}{f:FuncId}{args:List PV}{t:RV}(h:bt P f args (λv=>uW v t)):bt P f args (λv=>v=t):=⟨h.1,λI w vs hI hv=>(h.2 I w vs hI hv).mono λ_ _ ⟨v,r,bs,I',h1,h2,h3,h4⟩=>⟨v,t,bs,I',h1,rfl,ajQ r t h2 h3,h4⟩⟩
theorem ax8(a b:List PV):tU (.agg a) (.agg b)=ry a b:=by simp only[tU]
theorem ax9(a b:List PV):tU (.dW a) (.dW b)=ry a b:=by simp only[tU]
theorem aya(es:List (List PV)):tU (.val (.slice none 0 0)) (.aU es)=(es=[]):=by simp only[tU]
theorem ayb(a b:List (List PV)):tU (.aU a) (.aU b)=k9 a b:=by simp only[tU]
theorem al4(a b:Value):tU (.val a) (.val b)=(a=b):=by unfold tU;split<;>first|(rename_i h _;cases h;done)|(rename_i h;cases h;done)|simp_all
mutual
theorem atD:∀a:PV,tU a a
 | .agg a=>by simp only[tU];exact iA a
 | .dW a=>by simp only[tU];exact iA a
 | .val v=>by rw[al4]
 | .aU a=>by simp only[tU];exact xV a
 | .emp=>by simp only[tU]
 | .ee _ _=>by simp only[tU]
 | .iK _ _ _=>by simp only[tU]
theorem iA:∀a:List PV,ry a a
 | []=>by unfold ry;trivial
 |a :: r=>by unfold ry;exact⟨atD a,iA r⟩
@[refl] theorem xV:∀a:List (List PV),k9 a a
 | []=>by unfold k9;trivial
 |a :: r=>by unfold k9;exact⟨iA a,xV r⟩
end
theorem apg(a:List (List PV)):k9 a a=True:=eq_true (xV a)
theorem aph(a b:List PV)(r s:List (List PV)):k9 (a :: r) (b :: s)=(ry a b/\k9 r s):=by simp only[k9]
attribute [go_sem] apg aph
theorem ayc:ry [] []=True:=by simp only[ry]
theorem atE(a b:PV)(r s:List PV):ry (a :: r) (b :: s)=(tU a b/\ry r s):=by simp only[ry]
theorem ayd(a b:List RV):uW (.agg a) (.agg b)=acm a b:=by simp only[uW]
theorem aye(a b:List RV):uW (.dW a) (.dW b)=acm a b:=by simp only[uW]
theorem atF(a:List PV)(b:List RV):uW (.p (.agg a)) (.agg b)=aeK a b:=by simp only[uW]
theorem al5(e:TypeId)(sz:Nat)(es:List (List PV)):uW (.p (.val (.slice none 0 0))) (.row e sz es)=(es=[]/\0<sz):=by simp only[uW]
theorem al6(es:List (List PV)):uW (.p (.val (.slice none 0 0))) (.p (.aU es))=(es=[]):=by simp only[uW]
theorem ayf(e e':TypeId)(sz sz':Nat)(es es':List (List PV)):uW (.row e sz es) (.row e' sz' es')=(e=e'/\sz=sz'/\k9 es es'):=by simp only[uW]
theorem ayg(a b:Value):uW (.p (.val a)) (.p (.val b))=(a=b):=by unfold uW;split<;>first|(rename_i h _;cases h;done)|(rename_i h;cases h;done)|simp_all
theorem ayh(a b:List (List PV)):uW (.p (.aU a)) (.p (.aU b))=k9 a b:=by simp only[uW]
theorem ayi:acm [] []=True:=by simp only[acm]
theorem atG(a b:RV)(r s:List RV):acm (a :: r) (b :: s)=(uW a b/\acm r s):=by simp only[acm]
theorem ayj:aeK [] []=True:=by simp only[aeK]
theorem atH(a:PV)(b:RV)(r:List PV)(s:List RV):aeK (a :: r) (b :: s)=(uW (.p a) b/\aeK r s):=by simp only[aeK]
attribute [go_sem] ax8 ax9 aya ayb al4 ayc atE ayd aye atF al5 al6 ayf ayg ayh ayi atG ayj atH 
section
variable{σ O:Type}
def cr(f:Nat->σ->(σ->Option O)->(σ->Option O)->Option O):Nat->Nat->σ->(σ->Option O)->Option O
 |0,_,s,K=>K s
 |k+1,i,s,K=>f i s (λs'=>cr f k (i+1) s' K) K
def iter(f:σ->(σ->Option O)->(σ->Option O)->Option O):Nat->σ->(σ->Option O)->Option O
 |0,_,_=>none
 |k+1,s,K=>f s (λs'=>iter f k s' K) K
end
def fuel:Nat:=4611686018427387904
section
variable{P:Program}{N:Nat}{own:List Nat}{σ γ O:Type}{c:Code}{K:qB}{env:Env}{H:aA}
def sP(R:Env->aA->Prop)(K:qB):qB:=λe env H=>match e with
 | .normal=>R env H
 |e=>K e env H
theorem ajS{R:Env->aA->Prop} : sP R K .normal env H=R env H:=rfl
theorem api{R:Env->aA->Prop}{id:Nat} : sP R K (.exit id) env H=K (.exit id) env H:=rfl
theorem atJ{R:Env->aA->Prop} : sP R K .ret env H=K .ret env H:=rfl
attribute [go_sem] ajS api atJ
def al7(inv:σ×γ->Env)(jX:σ×γ->aA)(Nx:σ->Prop)(e:Env)(H:aA):Prop:=∃s' g,Nx s'/\dx e H (inv (s',g)) (jX (s',g))
theorem al8{inv:σ×γ->Env}{jX:σ×γ->aA}{Nx:σ->Prop}{e:Env}{H:aA}(s':σ)(g:γ)(h:Nx s')(hw:dx e H (inv (s',g)) (jX (s',g))):al7 inv jX Nx e H:=⟨s',g,h,hw⟩
theorem afV{R R':Env->aA->Prop}(h:∀e H,R e H↔R' e H):sP R K=(λz e' H'=>match z with
  | .normal=>R' e' H'
  |z=>K z e' H'):=by
 funext z e' H';cases z<;>first|rfl|exact propext (h e' H')
theorem atK{f:σ->(σ->Option O)->(σ->Option O)->Option O}{Kf:σ->Option O}{r:O}(inv:σ×γ->Env)(jX:σ×γ->aA)(g0:γ){k:Nat}{s:σ}(h:iter f k s Kf=some r)
  (hw:dx env H (inv (s,g0)) (jX (s,g0)))
  (hr:∀s g (cH:σ->Option O) (Nx:σ->Prop),(∀s',cH s'=some r->Nx s')->f s cH Kf=some r->cw P N own c (sP (al7 inv jX Nx) K) (inv (s,g)) (jX (s,g))):aaO P N own c K env H:=by
 refine⟨λn e H=>∃s g,iter f n s Kf=some r/\e=inv (s,g)/\H=jX (s,g),⟨k,_,_,⟨s,g0,h,rfl,rfl⟩,hw⟩,?_⟩;rintro n e H ⟨s,g,hs,rfl,rfl⟩;cases n with
 |zero=>cases hs
 |succ n =>
  have:=hr s g _ (λs'=>∃m,m<n+1/\iter f m s' Kf=some r) (λs' h'=>⟨n,Nat.lt_succ_self n,h'⟩) hs;rw[afV (R':=λe' H'=>∃m e2 H2,m<n+1/\(∃s g,iter f m s Kf=some r/\e2=inv (s,g)/\H2=jX (s,g))/\dx e' H' e2 H2)] at this
  ·exact this
  ·intro e' H';constructor
   ·rintro⟨s',g',⟨m,h1,h2⟩,h3⟩;exact⟨m,_,_,h1,⟨s',g',h2,rfl,rfl⟩,h3⟩
   ·rintro⟨m,e2,H2,h1,⟨s',g',h2,rfl,rfl⟩,h3⟩;exact⟨s',g',⟨m,h1,h2⟩,h3⟩
theorem atL{f:Nat->σ->(σ->Option O)->(σ->Option O)->Option O}{Kf:σ->Option O}{r:O}(inv:(Nat×σ)×γ->Env)(jX:(Nat×σ)×γ->aA)(g0:γ){n i:Nat}{s:σ}(h:cr f (n-i) i s Kf=some r)
  (hw:dx env H (inv ((i,s),g0)) (jX ((i,s),g0)))
  (hr:∀j s g (cH:σ->Option O) (Nx:Nat×σ->Prop),j<n->(∀s',cH s'=some r->Nx (j+1,s'))->f j s cH Kf=some r->cw P N own c (sP (al7 inv jX Nx) K) (inv ((j,s),g)) (jX ((j,s),g)))
  (he:∀j s g (Nx:Nat×σ->Prop),n<=j->Kf s=some r->cw P N own c (sP (al7 inv jX Nx) K) (inv ((j,s),g)) (jX ((j,s),g))):aaO P N own c K env H:=by
 refine⟨λm e H=>∃ (x:Nat×σ) (g:γ),(n-x.1=m/\cr f (n-x.1) x.1 x.2 Kf=some r)/\e=inv (x,g)/\H=jX (x,g),⟨n-i,_,_,⟨(i,s),g0,⟨rfl,h⟩,rfl,rfl⟩,hw⟩,?_⟩;rintro m e H ⟨⟨j,s⟩,g,⟨hm,hs⟩,rfl,rfl⟩;have key:∀R:Nat×σ->Prop,(∀x,R x↔n-x.1<m/\cr f (n-x.1) x.1 x.2 Kf=some r)->∀e' H',al7 inv jX R e' H'↔∃m' e2 H2,m'<m/\(∃ (x:Nat×σ) (g:γ),(n-x.1=m'/\cr f (n-x.1) x.1 x.2 Kf=some r)/\e2=inv (x,g)/\H2=jX (x,g))/\dx e' H' e2 H2:=by
  intro R hR e' H';constructor
  ·rintro⟨x,g',h1,h3⟩;obtain⟨h1,h2⟩:=(hR x).1 h1;exact⟨_,_,_,h1,⟨x,g',⟨rfl,h2⟩,rfl,rfl⟩,h3⟩
  ·rintro⟨m',e2,H2,h1,⟨x,g',⟨h4,h2⟩,rfl,rfl⟩,h3⟩;exact⟨x,g',(hR x).2 ⟨by omega,h2⟩,h3⟩
 simp only at hm hs;by_cases hj:j<n
 ·obtain⟨k,hk⟩:∃k,n-j=k+1:=⟨n-j-1,by omega⟩;have hk':n-(j+1)=k:=by omega
  rw[hk] at hs;have:=hr j s g _ (λx=>n-x.1<m/\cr f (n-x.1) x.1 x.2 Kf=some r) hj (λs' h'=>⟨by simp only;omega,by simp only[hk'];exact h'⟩) hs;rw[afV (key _ λx=>Iff.rfl)] at this;exact this
 ·have h0:n-j=0:=by omega
  rw[h0] at hs;have:=he j s g (λx=>n-x.1<m/\cr f (n-x.1) x.1 x.2 Kf=some r) (by omega) hs;rw[afV (key _ λx=>Iff.rfl)] at this;exact this
end
theorem aBC{P:Program}{N:Nat}{own:List Nat}{σ γ O:Type}{c:Code}{K:qB}{env:Env}{H:aA}{f:σ->(σ->Option O)->(σ->Option O)->Option O}{Kf:σ->Option O}{r:O}(inv:σ×γ->Env)(jX:σ×γ->aA)(g0:γ){k:Nat}{s:σ}(h:iter f k s Kf=some r)
  (hw:dx env H (inv (s,g0)) (jX (s,g0)))
  (hr:∀s g (cH:σ->Option O) (R:Env->aA->Prop),(∀s' g' {e H},cH s'=some r->dx e H (inv (s',g')) (jX (s',g'))->R e H)->f s cH Kf=some r->cw P N own c (sP R K) (inv (s,g)) (jX (s,g))):aaO P N own c K env H :=
 atK inv jX g0 h hw λs g cH Nx hN hf=>hr s g cH _ (λs' g' _ _ h1 h2=>al8 s' g' (hN s' h1) h2) hf
theorem aBD{P:Program}{N:Nat}{own:List Nat}{σ γ O:Type}{c:Code}{K:qB}{env:Env}{H:aA}{f:Nat->σ->(σ->Option O)->(σ->Option O)->Option O}{Kf:σ->Option O}{r:O}(inv:(Nat×σ)×γ->Env)(jX:(Nat×σ)×γ->aA)(g0:γ){n i:Nat}{s:σ}(h:cr f (n-i) i s Kf=some r)
  (hw:dx env H (inv ((i,s),g0)) (jX ((i,s),g0)))
  (hr:∀j s g (cH:σ->Option O) (R:Env->aA->Prop),j<n->(∀s' g' {e H},cH s'=some r->dx e H (inv ((j+1,s'),g')) (jX ((j+1,s'),g'))->R e H)->f j s cH Kf=some r->cw P N own c (sP R K) (inv ((j,s),g)) (jX ((j,s),g)))
  (he:∀j s g (R:Env->aA->Prop),n<=j->Kf s=some r->cw P N own c (sP R K) (inv ((j,s),g)) (jX ((j,s),g))):aaO P N own c K env H :=
 atL inv jX g0 h hw (λj s g cH Nx hj hN hf=>hr j s g cH _ hj (λs' g' _ _ h1 h2=>al8 (j+1,s') g' (hN s' h1) h2) hf) (λj s g Nx hj hk=>he j s g _ hj hk)
section
variable{P:Program}{env:Env}{H:aA}{o:Oper}{W:Env->aA->Prop}{k:FuncId}{ps ps':List PV}{b:Bool}
theorem bt.args{f:FuncId}{ps ps':List PV}{Q:RV->Prop}(h:bt P f ps Q)(hp:sM ps' ps):bt P f ps' Q:=⟨h.1,λI w vs hI hv=>h.2 I w vs hI (hp.vrs hv)⟩
theorem al9{x:PV}(c:aS P k ps λr=>r=x)(he:kL o (ev env) H=some (k,ps',b))(hp:ry ps' ps)(hb:b=true->x.scalar=true)
  (hW:W (cL env o.dst (.p x)) H):jF P o W env H:=aX (c.args (tV _ _ hp)) he hb hW
theorem apj{x:PV}(c:aS P k ps λr=>r=x)(he:kL o (ev env) H=some (k,ps',b))(hp:ry ps' ps)(hb:b=true->x.scalar=true)
  (hW:W (cL env o.dst (.p x)) H):ahR P o W env H:=jG (c.args (tV _ _ hp)) he hb hW
end
section
variable{P:Program}{t:TypeId}{kk:IntKind}{n:Int}{H:aA}
def ayk(a:Option (Nat×TypeId))(f:TypeId->Option Nat)(n:Int)(mk:Nat->AV)(H:aA):Option (Prop×AV×aA):=match a with
 |some (len,e)=>(match f e with
  |some sz=>some (0<=n/\n<len,mk (n.toNat * sz),H)
  |none=>none)
 |none=>none
theorem ama{cs:List PV}{off:Nat} : o6 P t (.p (.ee cs off)) (.p (.val (.int kk n))) H=ayk (wN P t) (bl P) n (λo=>.p (.ee cs (off+o))) H:=by
 unfold o6 o4 ayk up3;cases wN P t with
 |none=>rfl
 |some r=>obtain⟨len,e⟩:=r;simp only;cases bl P e<;>rfl
theorem apk{id off:Nat} : o6 P t (.ptr id off) (.p (.val (.int kk n))) H=ayk (wN P t) (bl P) n (λo=>.ptr id (off+o)) H:=by
 unfold o6 o4 ayk up3;cases wN P t with
 |none=>rfl
 |some r=>obtain⟨len,e⟩:=r;simp only;cases bl P e<;>rfl
theorem atM{len:Nat}{e:TypeId}{f:TypeId->Option Nat}{mk:Nat->AV} : ayk (some (len,e)) f n mk H=(match f e with
  |some sz=>some (0<=n/\n<len,mk (n.toNat * sz),H)
  |none=>none):=rfl
attribute [go_sem] ama apk atM
end
mutual
def ou:AV->AV->Prop
 | .p a,.p b=>tU a b
 | .agg a,.agg b=>sQ a b
 | .dW a,.dW b=>sQ a b
 |a,b=>a=b
def sQ:List AV->List AV->Prop
 | [],[]=>True
 |a :: r,b :: s=>ou a b/\sQ r s
 |_,_=>False
end
theorem aDu(a b:PV):ou (.p a) (.p b)=tU a b:=by simp only[ou]
theorem ayl(i v j u:Nat):ou (.row i v) (.row j u)=(i=j/\v=u):=by simp only[ou,AV.row.injEq]
theorem aym(i v j u:Nat):ou (.ptr i v) (.ptr j u)=(i=j/\v=u):=by simp only[ou,AV.ptr.injEq]
theorem ayn(f g:Fn)(a b c d:List AV):ou (.iK f a b) (.iK g c d)=(f=g/\a=c/\b=d):=by simp only[ou,AV.iK.injEq]
theorem atN(i v j u:Nat):ou (.eP i v) (.eP j u)=(i=j/\v=u):=by simp only[ou,AV.eP.injEq]
theorem atO:sQ [] []=True:=by simp only[sQ]
theorem apl(a b:AV)(r s:List AV):sQ (a :: r) (b :: s)=(ou a b/\sQ r s):=by simp only[sQ]
theorem uA:∀ {as' bs:List AV},sQ as' bs->as'.length=bs.length/\∀ (j:Nat) a b,as'[j]? = some a->bs[j]? = some b->ou a b
 | [],[],_=>⟨rfl,λj a b h=>by simp at h⟩
 |a :: r,b :: s,h=>by
  unfold sQ at h;obtain⟨h1,h2⟩:=uA h.2;refine⟨by simp[h1],λj x y hx hy=>?_⟩;cases j with
  |zero=>simp at hx hy;subst hx hy;exact h.1
  |succ j=>exact h2 j x y (by simpa using hx) (by simpa using hy)
 | [],_ :: _,h=>by unfold sQ at h;exact h.elim
 |_ :: _,[],h=>by unfold sQ at h;exact h.elim
theorem acn{I:Mem}{L:bA}{u:Value}{a:AV}(h:dR I L u a):∀ {b:AV},ou a b->dR I L u b:=by
 induction h with
 |p u x h =>
  intro b hb;unfold ou at hb;split at hb
  ·rename_i e;cases e;exact .p _ _ (ajP _ _ hb _ _ h)
  ·rename_i e;cases e
  ·rename_i e;cases e
  ·subst hb;exact .p _ _ h
 |agg us cs hl hv hone ih =>
  intro b hb;unfold ou at hb;split at hb
  ·rename_i e;cases e
  ·rename_i e;cases e;obtain⟨q1,q2⟩:=uA hb;refine .agg us _ (hl.trans q1) (λj u c hu hc=>?_) hone;obtain⟨a,ha⟩:∃a,cs[j]? = some a:=by have hj:j<us.length:=(List.getElem?_eq_some_iff.1 hu).1;exact⟨cs[j]'(by omega),by simp[hl ▸ hj]⟩
   exact ih j u a hu ha (q2 j a c ha hc)
  ·rename_i e;cases e
  ·subst hb;exact .agg us cs hl hv hone
 |dW us cs hl hv ih =>
  intro b hb;unfold ou at hb;split at hb
  ·rename_i e;cases e
  ·rename_i e;cases e
  ·rename_i e;cases e;obtain⟨q1,q2⟩:=uA hb;refine .dW us _ (hl.trans q1) (λj u c hu hc=>?_);obtain⟨a,ha⟩:∃a,cs[j]? = some a:=by have hj:j<us.length:=(List.getElem?_eq_some_iff.1 hu).1;exact⟨cs[j]'(by omega),by simp[hl ▸ hj]⟩
   exact ih j u a hu ha (q2 j a c ha hc)
  ·subst hb;exact .dW us cs hl hv
 |row u id bf v bI sz hl hle h h1=>intro b hb;unfold ou at hb;subst hb;exact .row u id bf v bI sz hl hle h h1
 |ptr id b' off hl=>intro b hb;unfold ou at hb;subst hb;exact .ptr id b' off hl
 |jo u id bf v i off bI sz hl hle h h1=>intro b hb;unfold ou at hb;subst hb;exact .jo u id bf v i off bI sz hl hle h h1
 |iK fn us vs fs cs hl hl' hv wL=>intro b hb;unfold ou at hb;subst hb;exact .iK fn us vs fs cs hl hl' hv wL
 |dead u=>intro b hb;unfold ou at hb;subst hb;exact .dead u
 |bsl id b n hl=>intro b hb;unfold ou at hb;subst hb;exact .bsl _ _ _ hl
 |iM a id bf v off n m c bI sz hl hle hn hm hz h=>intro b hb;unfold ou at hb;subst hb;exact .iM _ id bf v off n _ _ bI sz hl hle hn hm hz h
 |eP u id bf v bI sz sz' dr n hl hle h h1=>intro b hb;unfold ou at hb;subst hb;exact .eP u id bf v bI sz sz' dr n hl hle h h1
 |kH u id bf v i off bI sz sz' dr n hl hle h h1=>intro b hb;unfold ou at hb;subst hb;exact .kH u id bf v i off bI sz sz' dr n hl hle h h1
 |kI u id bf v i bI sz sz' dr n hl hle h h1=>intro b hb;unfold ou at hb;subst hb;exact .kI u id bf v i bI sz sz' dr n hl hle h h1
 |nv u id bf v i j off bI sz sz' dr n hl hle h h1=>intro b hb;unfold ou at hb;subst hb;exact .nv u id bf v i j off bI sz sz' dr n hl hle h h1
def p4:List (Nat×AV)->Env
 | []=>fS
 |(d,v) :: r=>cE (p4 r) d v
def b8:List (Nat×Chunk)->aA
 | []=>cq
 |(d,c) :: r=>bh (b8 r) d c
theorem ayo:p4 []=fS:=rfl
theorem atP(d:Nat)(v:AV)(r:List (Nat×AV)):p4 ((d,v) :: r)=cE (p4 r) d v:=rfl
theorem atQ:b8 []=cq:=rfl
theorem apm(d:Nat)(c:Chunk)(r:List (Nat×Chunk)):b8 ((d,c) :: r)=bh (b8 r) d c:=rfl
def apn(e:Env):List (Nat×AV)->Prop
 | []=>True
 |(d,v) :: r=>ou (e d) v/\apn e r
def afW:Option Chunk->Chunk->Prop
 |some (.box cs),.box ds=>sQ cs ds
 |some c,d=>c=d
 |none,_=>False
def abp(H:aA):List (Nat×Chunk)->Prop
 | []=>True
 |(d,c) :: r=>afW (H d) c/\abp H r
def apo(G:aA):List (Nat×AV)->Prop
 | []=>True
 |(_,v) :: r=>pF G v/\apo G r
def w5(G:aA):List (Nat×Chunk)->Prop
 | []=>True
 |(_,.box cs) :: r=>mZ G cs/\w5 G r
 |_ :: r=>w5 G r
theorem ayp(e:Env):apn e []=True:=rfl
theorem atS(e:Env)(d:Nat)(v:AV)(r:List (Nat×AV)):apn e ((d,v) :: r)=(ou (e d) v/\apn e r):=rfl
theorem ayq(cs ds:List AV):afW (some (.box cs)) (.box ds)=sQ cs ds:=rfl
theorem atT(v:Nat)(e:TypeId)(sz k:Nat)(f:TypeId)(sy:Nat)(es:List (List PV))(v':Nat)(e':TypeId)(sz' k':Nat)(f':TypeId)(sy':Nat)(es':List (List PV)):afW (some (.deep v e sz k f sy es)) (.deep v' e' sz' k' f' sy' es')=(v=v'/\e=e'/\sz=sz'/\k=k'/\f=f'/\sy=sy'/\es=es'):=by simp only[afW,Chunk.deep.injEq]
theorem atU(G:aA)(d v:Nat)(e:TypeId)(sz k:Nat)(f:TypeId)(sy:Nat)(es:List (List PV))(r:List (Nat×Chunk)):w5 G ((d,.deep v e sz k f sy es) :: r)=w5 G r:=rfl
theorem ayr(v:Nat)(e:TypeId)(sz:Nat)(es:List (List PV))(v':Nat)(e':TypeId)(sz':Nat)(es':List (List PV)):afW (some (.row v e sz es)) (.row v' e' sz' es')=(v=v'/\e=e'/\sz=sz'/\es=es'):=by simp only[afW,Chunk.row.injEq]
theorem atV(v:Nat)(es:List (List PV))(v':Nat)(es':List (List PV)):afW (some (.shut v es)) (.shut v' es')=(v=v'/\es=es'):=by simp only[afW,Chunk.shut.injEq]
theorem ays(H:aA):abp H []=True:=rfl
theorem atW(H:aA)(d:Nat)(c:Chunk)(r:List (Nat×Chunk)):abp H ((d,c) :: r)=(afW (H d) c/\abp H r):=rfl
theorem ayt(G:aA):apo G []=True:=rfl
theorem atX(G:aA)(d:Nat)(v:AV)(r:List (Nat×AV)):apo G ((d,v) :: r)=(pF G v/\apo G r):=rfl
theorem ayu(G:aA):w5 G []=True:=rfl
theorem ayv(G:aA)(d:Nat)(cs:List AV)(r:List (Nat×Chunk)):w5 G ((d,.box cs) :: r)=(mZ G cs/\w5 G r):=rfl
theorem ayw(G:aA)(d:Nat)(v:Nat)(e:TypeId)(sz:Nat)(es:List (List PV))(r:List (Nat×Chunk)):w5 G ((d,.row v e sz es) :: r)=w5 G r:=rfl
theorem atY(G:aA)(d:Nat)(v:Nat)(es:List (List PV))(r:List (Nat×Chunk)):w5 G ((d,.shut v es) :: r)=w5 G r:=rfl
theorem aBE(G:aA)(x:PV):pF G (.p x)=True:=by simp only[pF]
theorem ah5(G:aA)(i v:Nat):pF G (.row i v)=(G i≠none):=by simp only[pF]
theorem ah6(G:aA)(i v:Nat):pF G (.ptr i v)=(G i≠none):=by simp only[pF]
theorem afX(G:aA)(i v:Nat):pF G (.eP i v)=(G i≠none):=by simp only[pF]
theorem at0(G:aA)(f:Fn)(fs cs:List AV):pF G (.iK f fs cs)=(mZ G fs/\mZ G cs):=by simp only[pF]
theorem apq(G:aA):mZ G []=True:=by simp only[mZ]
theorem amb(G:aA)(a:AV)(r:List AV):mZ G (a :: r)=(pF G a/\mZ G r):=by simp only[mZ]
theorem aDv(H':aA):l6 cq H'=True:=eq_true (aCy H')
theorem ayx{H H':aA}{i:Nat}{c:Chunk}(hi:i<1000000):l6 (bh H i c) H'=l6 H H':=by refine propext ⟨λh j hj hn=>h j hj ?_,ak7 hi⟩;unfold bh;rw[if_neg (by omega)];exact hn
attribute [go_sem] atN atT atU afX aDu ayl aym ayn atO apl ayo atP atQ apm ayp atS ayq ayr atV ays atW ayt atX ayu ayv ayw atY aBE ah5 ah6 at0 apq amb aDv ayx
theorem aq0{e:Env} : ∀ {l:List (Nat×AV)},apn e l->∀t,p4 l t = .dead\/ou (e t) (p4 l t)
 | [],_,t=>.inl rfl
 |(d,v) :: r,h,t=>by
  unfold p4 cE;split
  ·rename_i ht;subst ht;exact .inr h.1
  ·exact aq0 h.2 t
theorem aco{H:aA} : ∀ {l:List (Nat×Chunk)},abp H l->∀i c',b8 l i=some c'->∃c,H i=some c/\afW (some c) c'
 | [],_,i,c',h=>by cases h
 |(d,v) :: r,h,i,c',hi=>by
  unfold b8 bh at hi;split at hi
  ·rename_i ht;subst ht;simp only[cA] at hi;subst hi;have h1:=h.1;cases hH:H i with
   |none=>rw[hH] at h1;exact h1.elim
   |some c=>rw[hH] at h1;exact⟨c,rfl,h1⟩
  ·exact aco h.2 i c' hi
theorem aq1{G:aA} : ∀ {l:List (Nat×AV)},apo G l->adk (p4 l) G
 | [],_,t=>trivial
 |(d,v) :: r,h,t=>by
  unfold p4 cE;split
  ·exact h.1
  ·exact aq1 h.2 t
theorem ajT{G:aA} : ∀ {l:List (Nat×Chunk)},w5 G l->qC (b8 l) G
 | [],_,i,cs,h=>by cases h
 |(d,c) :: r,h,i,cs,hi=>by
  have hr:w5 G r:=by
   cases c with
   |box cs=>exact h.2
   |row=>exact h
   |shut=>exact h
   |tail=>exact h
   |deep=>exact h
  unfold b8 bh at hi;split at hi
  ·simp only[cA] at hi;subst hi;exact h.1
  ·exact ajT hr i cs hi
theorem yA{e:Env}{H:aA}{l:List (Nat×AV)}{hl:List (Nat×Chunk)}(h:apn e l/\abp H hl/\apo (b8 hl) l/\w5 (b8 hl) hl/\l6 H (b8 hl)):dx e H (p4 l) (b8 hl):=λC I L tm w hs=>by
 obtain⟨h1,h2,h3,h4,h5⟩:=h;have w0:dx e H e H:=dx.refl _ _;refine⟨I,L.to (b8 hl),?_⟩;exact
 {below:=hs.below
  mem:=hs.mem
  kX:=hs.kX
  lY:=hs.lY
  frame:=hs.frame
  loc:=λi=>by
   cases hi:C.L0 i with
   |none=>trivial
   |some l0 =>
    have h0:=hs.loc i;rw[hi] at h0;have hL:L i≠none:=by
     cases l0 with
     |box b=>intro e;rw[e] at h0;cases h0
     |row v bI sz=>obtain⟨_,_,h0,_⟩:=h0;intro e;rw[e] at h0;cases h0
     |deep v bI sz sz' dr n=>obtain⟨_,_,_,_,h0,_⟩:=h0;intro e;rw[e] at h0;cases h0
    have hH:H i≠none:=by
     cases hLi:L i with
     |none=>exact absurd hLi hL
     |some l=>obtain⟨c,hc⟩:=hs.dom i l hLi;rw[hc];simp
    have e:=lU (L:=L) (h5 i (C.hL0 i l0 hi) hH);rw[e];exact h0
  jA:=λid l b hl hb=>hs.jA id l b (to_eq hl).1 hb
  size:=hs.size
  env:=λt=>by
   rcases aq0 h1 t with h|h
   ·rw[h];exact .dead _
   ·exact (acn (hs.env t) h).to (aq1 h3 t)
  dom:=λid l hl=>(to_eq hl).2
  chunk:=λid ch hch=>by
   obtain⟨c,hc1,zk⟩:=aco h2 id ch hch;have hc:=hs.chunk id c hc1;have hid:L.to (b8 hl) id=L id:=lU (by rw[hch];simp);cases c with
   |box cs =>
    cases ch with
    |box ds =>
     have hq:sQ cs ds:=zk;obtain⟨q1,q2⟩:=uA hq;obtain⟨b,arr,e,g1,g2,g3,g4,g5,g6⟩:=hc;refine⟨b,arr,e,hid.trans g1,g2,g3.trans q1,λj u c hu hc=>?_,g5,g6⟩;obtain⟨a,ha⟩:∃a,cs[j]? = some a:=by have hj:j<arr.size:=(Array.getElem?_eq_some_iff.1 hu).1;exact⟨cs[j]'(by omega),by simp[g3 ▸ hj]⟩
     exact (acn (g4 j u a hu ha) (q2 j a c ha hc)).to (og (ajT h4 id ds hch) j c hc)
    |row=>cases zk
    |shut=>cases zk
    |tail=>cases zk
    |deep=>cases zk
   |row bf e sz es =>
    have hq:Chunk.row bf e sz es=ch:=by cases ch<;>exact zk
    subst hq;obtain⟨bI,us,g1,g2⟩:=hc;exact⟨bI,us,hid.trans g1,g2⟩
   |shut bf es =>
    have hq:Chunk.shut bf es=ch:=by cases ch<;>exact zk
    subst hq;obtain⟨bI,sz,g1,g2⟩:=hc;exact⟨bI,sz,hid.trans g1,g2⟩
   |tail bf e sz es =>
    have hq:Chunk.tail bf e sz es=ch:=by cases ch<;>exact zk
    subst hq;obtain⟨g,o,cap,arr,g1,g2⟩:=hc;exact⟨g,o,cap,arr,hid.trans g1,g2⟩
   |deep bf e sz k e' sz' es =>
    have hq:Chunk.deep bf e sz k e' sz' es=ch:=by cases ch<;>exact zk
    subst hq;obtain⟨bI,us,dr,g1,g2⟩:=hc;exact⟨bI,us,dr,hid.trans g1,g2⟩
  fM:=λid l b hl hb=>hs.fM id l b (to_eq hl).1 hb
  apart:=λi j li lj b hi hj rK vq=>hs.apart i j li lj b (to_eq hi).1 (to_eq hj).1 rK vq }
theorem at3{own:List Nat}{env:Env}{d:Option Tmp}{t:TypeId}{pos:String}{af:Array Edge}{g:Option (Nat×Bool)}(a:Nat)(s:Operand)(t1 t2:TypeId) :
  ahS own ⟨d,.call ⟨.builtin .append,#[.tmp a,s],#[t1,t2]⟩,t,pos,af,g⟩ env=((∃v,env a = .row (p0 own a) v)/\∃x,ev env s = .p x):=rfl
theorem aDw(i j v:Nat):(∃u,AV.row i v = .row j u)=(i=j):=by
 apply propext;constructor
 ·rintro⟨u,h⟩;cases h;rfl
 ·rintro rfl;exact⟨v,rfl⟩
attribute [go_sem] at3 aDw exists_eq'
section
variable{P:Program}{env:Env}{H:aA}{o:Oper}{W:Env->aA->Prop}{k:FuncId}{ps ps':List PV}{b:Bool}
theorem aDx(id:Nat){r:RV}(c:bt P k ps λx=>x=r)(he:kL o (ev env) H=some (k,ps',b))(hp:ry ps' ps)(hb:b=true->r.flat=true)
  (hf:nU H id ((dw id r).2-id)) (hW:W (cL env o.dst (dw id r).1) (iC id H r)):jF P o W env H:=pJ id (c.args (tV _ _ hp)) he hb hf hW
theorem aDy(ids:List Nat){x:PV}(c:aS P k ps λr=>r=x)(he:kL o (ev env) (eD ids H)=some (k,ps',b))(hp:ry ps' ps)(hb:b=true->x.scalar=true)
  (hW:W (cL env o.dst (.p x)) (eD ids H)):jF P o W env H:=asX ids (c.args (tV _ _ hp)) he hb hW
end
def giv{α:Type}(p:Prop) [Decidable p](x:α):Option α:=if p then some x else none
theorem qg{α:Type}{p:Prop} [Decidable p]{x r:α}(h:giv p x=some r):p/\x=r:=by
 unfold giv at h;split at h
 ·exact⟨by assumption,by simpa using h⟩
 ·cases h
variable{P:Program}{I:Mem}{L:bA}
def Ctx.acp(w:World)(I:Mem)(n B:Nat)(L0:bA)(hB:B<=w.heap.size)(hL:∀i l,L0 i=some l->1000000<=i):Ctx:=⟨w,I,n,B,λb=>∃i l,L0 i=some l/\l.has b,L0,hB,hL⟩
def aej(P:Program)(f:FuncId)(G:aA)(eS:List AV)(Q:AV->aA->Prop):Prop :=
 gF P f=true/\∀ (B:Nat) (I:Mem) (L0:bA) (w:World) (vs:List Value) (hB:B<=w.heap.size) (hL:∀i l,L0 i=some l->1000000<=i),gQ (Ctx.acp w I 0 B L0 hB hL) fS G I L0 #[] w->oZ I L0 vs eS ->
  Calls P f vs.toArray w λx w'=>∃u a H' I' L',x = .returned u/\Q a H'/\dR I' L' u a/\gQ (Ctx.acp w I 0 B L0 hB hL) fS H' I' L' #[] w'
theorem aej.mono{f:FuncId}{G:aA}{eS:List AV}{Q Q':AV->aA->Prop}(h:aej P f G eS Q)(hq:∀a c,Q a c->Q' a c):aej P f G eS Q':=⟨h.1,λB I L0 w vs hB hL hs hv=>(h.2 B I L0 w vs hB hL hs hv).mono λ_ _ ⟨u,a,H',I',L',q1,q2,q3⟩=>⟨u,a,H',I',L',q1,hq _ _ q2,q3⟩⟩
def aFb(P:Program)(rs:List ResultVar)(Q:AV->aA->Prop):qB:=λe env H=>match e with
 | .normal | .ret=>(match pE P env H rs with
  |some a=>Q a H
  |none=>False)
 |_=>False
theorem zl{f:FuncId}{fn:Func}{c:Code}{G:aA}{eS:List AV}{Q:AV->aA->Prop}(own:List Nat)(hm:P.follows .mixedOrders=true)(hf:P.funcs[f]? = some fn)(hb:fn.body=some c)
  (hc:gF P f=true) (hn:eS.length<=fn.ntmps) (h:cw P fn.ntmps own c (aFb P fn.results.toList Q) (aed eS) G):aej P f G eS Q:=by
 refine⟨hc,λB I L0 w vs hB hL hs0 hv=>calls_of_wp hf hb ?_⟩;let C:Ctx:=Ctx.acp w I fn.ntmps B L0 hB hL;have hlen:vs.length<=fn.ntmps:=by rw[hv.1];exact hn
 have hs:gQ C (aed eS) G I L0 (vs.toArray++Array.replicate (fn.ntmps-vs.toArray.size) undef) w :=
  {below:=hs0.below
   mem:=hs0.mem
   kX:=hs0.kX
   lY:=hs0.lY
   frame:=hs0.frame
   loc:=hs0.loc
   jA:=hs0.jA
   size:=by simp only[Array.size_append,size_toArray,Array.size_replicate];show vs.length+(fn.ntmps-vs.length)=fn.ntmps;omega
   env:=λt=>by
    unfold aed;split
    ·rename_i a ha;have htl:t<vs.length:=by have:=(List.getElem?_eq_some_iff.1 ha).1;rw[hv.1];exact this
     have wh:(vs.toArray++Array.replicate (fn.ntmps-vs.toArray.size) undef).getD t undef=vs[t]:=by simp only[Array.getD_eq_getD_getElem?,Array.getElem?_append,size_toArray,if_pos htl,getElem?_toArray,getElem?_eq_getElem htl,Option.getD_some]
     rw[wh];exact hv.2 t _ a (by simp[htl]) ha
    ·exact .dead _
   dom:=hs0.dom
   chunk:=hs0.chunk
   fM:=hs0.fM
   apart:=hs0.apart }
 refine wp_mono (pz hm c _ C rfl _ _ I L0 _ w h hs) ?_;rintro x a w' ⟨hd,env',H',I',L',hk,hs'⟩;have fin:(match pE P env' H' fn.results.toList with
  |some a=>Q a H'
  |none=>False)->bodyPost P fn (λx w'=>∃u a H' I' L',x = .returned u/\Q a H'/\dR I' L' u a/\gQ (Ctx.acp w I 0 B L0 hB hL) fS H' I' L' #[] w') .normal a w':=by
  intro hk;split at hk
  ·rename_i av hav;obtain⟨u,hru,hua⟩:=vJ hs' hav;refine⟨hd,u,hru,u,av,H',I',L',rfl,hk,hua,?_⟩;exact
   {below:=hs'.below
    mem:=hs'.mem
    kX:=hs'.kX
    lY:=hs'.lY
    frame:=hs'.frame
    loc:=hs'.loc
    jA:=hs'.jA
    size:=rfl
    env:=λt=>.dead _
    dom:=hs'.dom
    chunk:=hs'.chunk
    fM:=hs'.fM
    apart:=hs'.apart }
  ·exact hk.elim
 cases x with
 |normal=>exact fin hk
 |ret=>exact fin hk
 |exit id=>exact hk.elim
 |goto l=>exact hk.elim
 |panic c=>exact hk.elim
 |outgrown=>exact hk.elim
theorem amc{w:World}{B:Nat}{hl:List (Nat×Chunk)}{id:Nat}{c ch:Chunk}(hc:qx I L w B id c)(zk:afW (some c) ch)(hch:b8 hl id=some ch)(h4:w5 (b8 hl) hl):qx I (L.to (b8 hl)) w B id ch:=by
 have hid:L.to (b8 hl) id=L id:=lU (by rw[hch];simp);cases c with
 |box cs =>
  cases ch with
  |box ds =>
   have hq:sQ cs ds:=zk;obtain⟨q1,q2⟩:=uA hq;obtain⟨b,arr,e,g1,g2,g3,g4,g5,g6⟩:=hc;refine⟨b,arr,e,hid.trans g1,g2,g3.trans q1,λj u c hu hc=>?_,g5,g6⟩;obtain⟨a,ha⟩:∃a,cs[j]? = some a:=by have hj:j<arr.size:=(Array.getElem?_eq_some_iff.1 hu).1;exact⟨cs[j]'(by omega),by simp[g3 ▸ hj]⟩
   exact (acn (g4 j u a hu ha) (q2 j a c ha hc)).to (og (ajT h4 id ds hch) j c hc)
  |row=>cases zk
  |shut=>cases zk
  |tail=>cases zk
  |deep=>cases zk
 |row bf e sz es =>
  have hq:Chunk.row bf e sz es=ch:=by cases ch<;>exact zk
  subst hq;obtain⟨bI,us,g1,g2⟩:=hc;exact⟨bI,us,hid.trans g1,g2⟩
 |shut bf es =>
  have hq:Chunk.shut bf es=ch:=by cases ch<;>exact zk
  subst hq;obtain⟨bI,sz,g1,g2⟩:=hc;exact⟨bI,sz,hid.trans g1,g2⟩
 |tail bf e sz es =>
  have hq:Chunk.tail bf e sz es=ch:=by cases ch<;>exact zk
  subst hq;obtain⟨g,o,cap,arr,g1,g2⟩:=hc;exact⟨g,o,cap,arr,hid.trans g1,g2⟩
 |deep bf e sz k e' sz' es =>
  have hq:Chunk.deep bf e sz k e' sz' es=ch:=by cases ch<;>exact zk
  subst hq;obtain⟨bI,us,dr,g1,g2⟩:=hc;exact⟨bI,us,dr,hid.trans g1,g2⟩
def over(l:List (Nat×Chunk))(H:aA):aA:=match l with
 | []=>H
 |(d,c) :: r=>bh (over r H) d c
theorem ayy(H:aA):over [] H=H:=rfl
theorem at4(d:Nat)(c:Chunk)(r:List (Nat×Chunk))(H:aA):over ((d,c) :: r) H=bh (over r H) d c:=rfl
theorem ajU(H:aA)(i:Nat):∀l:List (Nat×Chunk),over l H i=match b8 l i with
  |some c=>some c
  |none=>H i
 | []=>rfl
 |(d,c) :: r=>by
  unfold over b8 bh;by_cases hi:i=d
  ·simp[hi]
  ·simp only[if_neg hi];exact ajU H i r
def hiL:List (Nat×Chunk)->Prop
 | []=>True
 |(d,_) :: r=>1000000<=d/\hiL r
def abq(G:aA):List (Nat×Chunk)->Prop
 | []=>True
 |(d,_) :: r=>G d≠none/\abq G r
def newL(G H:aA):List (Nat×Chunk)->Prop
 | []=>True
 |(d,_) :: r=>(G d≠none\/H d=none)/\newL G H r
theorem aBF:hiL []=True:=rfl
theorem ayz(d:Nat)(c:Chunk)(r:List (Nat×Chunk)):hiL ((d,c) :: r)=(1000000<=d/\hiL r):=rfl
theorem apr(G:aA):abq G []=True:=rfl
theorem amd(G:aA)(d:Nat)(c:Chunk)(r:List (Nat×Chunk)):abq G ((d,c) :: r)=(G d≠none/\abq G r):=rfl
theorem ayA(G H:aA):newL G H []=True:=rfl
theorem at5(G H:aA)(d:Nat)(c:Chunk)(r:List (Nat×Chunk)):newL G H ((d,c) :: r)=((G d≠none\/H d=none)/\newL G H r):=rfl
theorem ayB:∀ {l:List (Nat×Chunk)},hiL l->∀i,b8 l i≠none->1000000<=i
 | [],_,i,h=>absurd rfl h
 |(d,c) :: r,hh,i,h=>by
  unfold b8 bh at h;split at h
  ·rename_i e;rw[e];exact hh.1
  ·exact ayB hh.2 i h
theorem adz{G:aA} : ∀ {l:List (Nat×Chunk)},abq G l->∀i,b8 l i≠none->G i≠none
 | [],_,i,h=>absurd rfl h
 |(d,c) :: r,hh,i,h=>by
  unfold b8 bh at h;split at h
  ·rename_i e;rw[e];exact hh.1
  ·exact adz hh.2 i h
theorem aq2{G H:aA} : ∀ {l:List (Nat×Chunk)},newL G H l->∀i,b8 l i≠none->G i≠none\/H i=none
 | [],_,i,h=>absurd rfl h
 |(d,c) :: r,hh,i,h=>by
  unfold b8 bh at h;split at h
  ·rename_i e;rw[e];exact hh.1
  ·exact aq2 hh.2 i h
section
variable{C:Ctx}{env:Env}{H H':aA}{tm:Array Value}{w w':World}{I':Mem}{L':bA}{l0 l1:List (Nat×Chunk)}
theorem ayC(hh:hiL l0):∀i l,L.to (b8 l0) i=some l->1000000<=i:=λi l hl=>ayB hh i (by
 obtain⟨c,hc⟩:=(to_eq hl).2;rw[hc];simp)
theorem gQ.acp(h:gQ C env H I L tm w)(h0:abp H l0)(hi:w5 (b8 l0) l0)(hh:hiL l0):gQ (Ctx.acp w I 0 C.B (L.to (b8 l0)) h.leB (ayC hh)) fS (b8 l0) I (L.to (b8 l0)) #[] w :=
 {below:=Below.refl _ _
  mem:=h.mem
  kX:=Mem.en I
  lY:=λ_ _ _ _=>rfl
  frame:=λ_ _ _=>rfl
  loc:=dQ.refl _
  jA:=λid l b hl hb=>.inr ⟨id,l,hl,hb⟩
  size:=rfl
  env:=λ_=>.dead _
  dom:=λid l hl=>(to_eq hl).2
  chunk:=λid ch hch=>by obtain⟨c,hc1,zk⟩:=aco h0 id ch hch;exact amc (h.chunk id c hc1) zk hch hi
  fM:=λid l b hl hb=>h.fM id l b (to_eq hl).1 hb
  apart:=λi j li lj b hi hj rK vq=>h.apart i j li lj b (to_eq hi).1 (to_eq hj).1 rK vq }
def yB(l1:List (Nat×Chunk))(L' L:bA):bA:=λi=>match b8 l1 i with
 |some _=>L' i
 |none=>L i
theorem uX{i:Nat}(h:b8 l1 i≠none):yB l1 L' L i=L' i:=by
 unfold yB;cases hc:b8 l1 i with
 |none=>exact absurd hc h
 |some c=>rfl
theorem qh{i:Nat}(h:b8 l1 i=none):yB l1 L' L i=L i:=by unfold yB;rw[h]
theorem ame:dQ (L'.to (b8 l1)) (yB l1 L' L):=λi=>by
 cases hl:L'.to (b8 l1) i with
 |none=>trivial
 |some l =>
  obtain⟨e,c,hc⟩:=to_eq hl;have hb:yB l1 L' L i=some l:=by rw[uX (by rw[hc];simp)];exact e
  cases l with
  |box b=>exact hb
  |row v bI sz=>exact⟨v,bI,hb,le_refl _,λ_=>rfl⟩
  |deep v bI sz sz' dr n=>exact⟨v,bI,dr,n,hb,le_refl _,λ_=>⟨rfl,rfl,rfl⟩⟩
theorem gQ.aFc(h:gQ C env H I L tm w)(h0:abp H l0)(hh:hiL l0)
  (hs':gQ (Ctx.acp w I 0 C.B (L.to (b8 l0)) h.leB (ayC hh)) fS H' I' L' #[] w')
  (h1:abp H' l1) (hi:w5 (b8 l1) l1) (hst:abq (b8 l1) l0) (hnw:newL (b8 l0) H l1) :
  gQ C env (over l1 H) I' (yB l1 L' L) tm w'/\dQ (L'.to (b8 l1)) (yB l1 L' L):=by
 have hin0:∀i,b8 l0 i≠none->H i≠none:=λi hi=>by
  cases hc:b8 l0 i with
  |none=>exact absurd hc hi
  |some c=>obtain⟨c',h2,_⟩:=aco h0 i c hc;rw[h2];simp
 have hmem:∀i,b8 l1 i≠none->H i≠none->b8 l0 i≠none:=λi hi hH=>(aq2 hnw i hi).elim id λe=>absurd e hH
 have hLH:∀i l,L i=some l->H i≠none:=λi l hl=>by obtain⟨c,hc⟩:=h.dom i l hl;rw[hc];simp
 have akC:dQ L (yB l1 L' L):=λi=>by
  by_cases hi:b8 l1 i=none
  ·rw[qh hi];exact dQ.refl L i
  ·rw[uX hi];cases hL:L i with
   |none=>trivial
   |some l=>have h2:=hmem i hi (hLH i l hL);have h3:L.to (b8 l0) i=L i:=lU h2;have h4:=hs'.loc i;simp only[Ctx.acp,h3,hL] at h4;exact h4
 have ayD:∀b,(∃i l,L.to (b8 l0) i=some l/\l.has b)->∃i l,b8 l0 i≠none/\L i=some l/\l.has b:=λb ⟨i,l,hl,hb⟩=>by obtain⟨e,c,hc⟩:=to_eq hl;exact⟨i,l,by rw[hc];simp,e,hb⟩
 have hfr:∀b,b<w.heap.size->(¬ ∃i l,L.to (b8 l0) i=some l/\l.has b)->w'.heap[b]? = w.heap[b]?/\∀o,I' b o=I b o:=λb hb hn=>⟨hs'.frame b hb hn,λo=>hs'.lY b hb hn o⟩
 have hout:∀b,b<C.w0.heap.size->¬ C.anw b->¬ ∃i l,L.to (b8 l0) i=some l/\l.has b:=λb hb hn hx=>by
  obtain⟨i,l,_,hl,hlb⟩:=ayD b hx;rcases h.jA i l b hl hlb with h2|h2
  ·omega
  ·exact hn h2
 have aCF:∀i l b,yB l1 L' L i=some l->b8 l1 i≠none->l.has b->w.heap.size<=b\/∃i l,b8 l0 i≠none/\L i=some l/\l.has b:=λi l b hl hi hb=>by rw[uX hi] at hl;exact (hs'.jA i l b hl hb).imp id (ayD b)
 refine⟨?_,ame⟩;exact
 {below:=h.below.trans hs'.below
  mem:=hs'.mem
  kX:=Mem.lX h.kX hs'.kX
  lY:=λb hb hf o=>by rw[(hfr b (lt_of_lt_of_le hb h.below.size) (hout b hb hf)).2 o];exact h.lY b hb hf o
  frame:=λb hb hf=>((hfr b (lt_of_lt_of_le hb h.below.size) (hout b hb hf)).1).trans (h.frame b hb hf)
  loc:=h.loc.trans akC
  jA:=λi l b hl hb=>by
   by_cases hi:b8 l1 i=none
   ·rw[qh hi] at hl;exact h.jA i l b hl hb
   ·rcases aCF i l b hl hi hb with h2|⟨j,lj,_,h3,h4⟩
    ·exact .inl (le_trans h.below.size h2)
    ·exact h.jA j lj b h3 h4
  size:=h.size
  env:=λt=>(h.env t).mono hs'.kX akC
  dom:=λi l hl=>by
   rw[ajU];cases hc:b8 l1 i with
   |some c=>exact⟨c,rfl⟩
   |none=>rw[qh hc] at hl;exact h.dom i l hl
  chunk:=λi c hc=>by
   rw[ajU] at hc;cases hc1:b8 l1 i with
   |some c1=>rw[hc1] at hc;simp only[cA] at hc;subst hc;obtain⟨c',g1,g2⟩:=aco h1 i c1 hc1;exact (amc (hs'.chunk i c' g1) g2 hc1 hi).keep (Mem.en I') ame (by rw[uX (by rw[hc1];simp),lU (by rw[hc1];simp)]) λ_ _ _ _=>⟨rfl,λ_=>rfl⟩
   |none =>
    rw[hc1] at hc;refine (h.chunk i c hc).keep hs'.kX akC (qh hc1) λl b hl hb=>hfr b (h.fM i l b hl hb).2 λhx=>?_
    obtain⟨j,lj,h2,h3,h4⟩:=ayD b hx;have:=h.apart i j l lj b hl h3 hb h4;subst this;exact adz hst i h2 hc1
  fM:=λi l b hl hb=>by
   by_cases hi:b8 l1 i=none
   ·rw[qh hi] at hl;exact⟨(h.fM i l b hl hb).1,lt_of_lt_of_le (h.fM i l b hl hb).2 hs'.below.size⟩
   ·rw[uX hi] at hl;exact hs'.fM i l b hl hb
  apart:=λi j li lj b hi hj rK vq=>by
   have one:∀i j li lj,yB l1 L' L i=some li->yB l1 L' L j=some lj->li.has b->lj.has b->b8 l1 i≠none->b8 l1 j=none->False:=λi j li lj hi hj rK vq h2 h3=>by
    have hj':=hj;rw[qh h3] at hj';rcases aCF i li b hi h2 rK with h4|⟨k,lk,h4,h5,h6⟩
    ·have:=(h.fM j lj b hj' vq).2;omega
    ·have:=h.apart k j lk lj b h5 hj' h6 vq;subst this;exact adz hst k h4 h3
   by_cases h2:b8 l1 i=none<;>by_cases h3:b8 l1 j=none
   ·rw[qh h2] at hi;rw[qh h3] at hj;exact h.apart i j li lj b hi hj rK vq
   ·exact (one j i lj li hj hi vq rK h3 h2).elim
   ·exact (one i j li lj hi hj rK vq h2 h3).elim
   ·rw[uX h2] at hi;rw[uX h3] at hj;exact hs'.apart i j li lj b hi hj rK vq }
end
def isIn(c:Option Chunk)(a:AV)(r:Option AV):Option AV:=match c with
 |some _=>some a
 |none=>r
def aq3(r:Option (PV×Bool)):Option AV:=match r with
 |some (x,false)=>some (.p x)
 |_=>none
def ah7(G H:aA):AV->Option AV
 | .ptr id off=>isIn (G id) (.ptr id off) none
 | .row id v=>isIn (G id) (.row id v) (aq3 (gR H (.row id v)))
 | .eP id v=>isIn (G id) (.eP id v) none
 |a=>aq3 (gR H a)
def zm(G H:aA):List AV->Option (List AV)
 | []=>some []
 |a :: r=>match ah7 G H a,zm G H r with
  |some x,some xs=>some (x :: xs)
  |_,_=>none
theorem at6(c:Chunk)(a:AV)(r:Option AV):isIn (some c) a r=some a:=rfl
theorem at7(G H:aA)(id off:Nat):ah7 G H (.ptr id off)=isIn (G id) (.ptr id off) none:=rfl
theorem aBG(G H:aA)(x:PV):ah7 G H (.p x)=some (.p x):=rfl
theorem aps(G H:aA):zm G H []=some []:=rfl
theorem amf(G H:aA)(a:AV)(r:List AV):zm G H (a :: r)=match ah7 G H a,zm G H r with
  |some x,some xs=>some (x :: xs)
  |_,_=>none:=rfl
theorem ayE{C:Ctx}{H G:aA}{env:Env}{tm:Array Value}{w:World}(hs:gQ C env H I L tm w){u:Value}{a x:AV}(hu:dR I L u a)(h:ah7 G H a=some x):dR I (L.to G) u x:=by
 have hp:∀a,dR I L u a->aq3 (gR H a)=some x->dR I (L.to G) u x:=λa hu h=>by
  unfold aq3 at h;split at h
  ·rename_i y he;simp only[cA] at h;subst h;exact .p _ _ ((pq hs (uk H) (lZ hs.mem) ((rM L w).g H) u a y false hu he).2 rfl)
  ·cases h
 unfold ah7 at h;split at h
 ·rename_i id off;unfold isIn at h;split at h
  ·rename_i c hc;simp only[cA] at h;subst h;exact hu.to (by rw[ah6,hc];simp)
  ·cases h
 ·rename_i id v;unfold isIn at h;split at h
  ·rename_i c hc;simp only[cA] at h;subst h;exact hu.to (by rw[ah5,hc];simp)
  ·exact hp _ hu h
 ·rename_i id v;unfold isIn at h;split at h
  ·rename_i c hc;simp only[cA] at h;subst h;exact hu.to (by rw[afX,hc];simp)
  ·cases h
 ·exact hp _ hu h
theorem ah8{C:Ctx}{H G:aA}{env:Env}{tm:Array Value}{w:World}(hs:gQ C env H I L tm w):∀ {us:List Value} {eS xs:List AV},oZ I L us eS->zm G H eS=some xs->oZ I (L.to G) us xs
 |us,[],xs,hu,h=>by simp only[zm,cA] at h;subst h;exact⟨by simpa using hu.1,by simp⟩
 | [],a :: r,xs,hu,h=>by have:=hu.1;simp at this
 |u :: us,a :: r,xs,hu,h=>by
  unfold zm at h;split at h
  ·rename_i x ys h1 h2;simp only[cA] at h;subst h;have k:=ah8 hs (us:=us) (eS:=r) ⟨by have:=hu.1;simpa using this,λj u c hj hc=>hu.2 (j+1) u c hj hc⟩ h2;refine⟨by simp[k.1],λj u' c hj hc=>?_⟩;cases j with
   |zero=>simp at hj hc;subst hj hc;exact ayE hs (hu.2 0 u a rfl rfl) h1
   |succ j=>exact k.2 j u' c (by simpa using hj) (by simpa using hc)
  ·cases h
theorem acq{o:Oper}{W:Env->aA->Prop}{env:Env}{H:aA}{k:FuncId}{eS xs ys:List AV}{A:AV}{l0 l1:List (Nat×Chunk)}
  (c:aej P k (b8 l0) ys λa H=>ou a A/\abp H l1) (ha:dP o (ev env)=some (k,eS)) (hx:zm (b8 l0) H eS=some xs) (hy:sQ xs ys)
  (hh:hiL l0) (h0:abp H l0/\w5 (b8 l0) l0) (h1:w5 (b8 l1) l1/\pF (b8 l1) A) (hst:abq (b8 l1) l0) (hnw:newL (b8 l0) H l1)
  (hW:W (cL env o.dst A) (over l1 H)):ab3 P o W env H:=λC I L tm w σ hs hσ=>by
 obtain⟨us,hr,hu⟩:=qA ha c.1 hσ w;refine⟨k,_,hr,?_⟩;have hv:=ah8 hs hu hx;obtain⟨q1,q2⟩:=uA hy;have wL:oZ I (L.to (b8 l0)) us ys:=⟨hv.1.trans q1,λj u c hj hc=>by
  obtain⟨a,ha⟩:∃a,xs[j]? = some a:=by have hj:j<us.length:=(List.getElem?_eq_some_iff.1 hj).1;have hl:=hv.1;exact⟨xs[j]'(by omega),by simp[hl ▸ hj]⟩
  exact acn (hv.2 j u a hj ha) (q2 j a c ha hc)⟩
 refine (c.2 C.B I _ w us hs.leB (ayC hh) (hs.acp h0.1 h0.2 hh) wL).mono λx w' ⟨u,a,H',I',L',m1,⟨m2,m3⟩,m4,m5⟩=>?_
 obtain⟨n1,n2⟩:=hs.aFc h0.1 hh m5 m3 h1.1 hst hnw;exact⟨u,I',_,A,_,m1,hW,((acn m4 m2).to h1.2).mono (Mem.en _) n2,n1⟩
end Go.cv
namespace Go.cv
open Go.RowKit
variable{P:Program}{I:Mem}{L:bA}
def Mem.add(I:Mem)(b lo:Nat)(us:List Value):Mem:=λc o=>if c=b/\lo<=o/\o<lo+us.length then us[o-lo]? else I c o
theorem VR.aBH{I:Mem}{u:Value}{es:List (List PV)}(h:VR I u (.aU es)):∃ao cap,∃us:List Value,u = .slice ao es.length cap/\us.length=es.flatten.length/\(∀ (j:Nat) u c,us[j]? = some u->es.flatten[j]? = some c->VR I u c) /\
  (∀u∈us,u.oneCell'=true)/\(us=[]\/∃b off,ao=some ⟨b,off,none⟩/\∀ (j:Nat) u,us[j]? = some u->I b (off+j)=some u)/\es.length<=cap:=by
 cases h with
 |aU ao n cap _ us sz hn hsz hl hv hone hm hnil hcap=>subst hn;exact⟨ao,cap,us,rfl,hl,hv,hone,hm,hcap⟩
theorem alN{H' H:aA}{id v:Nat}{e:TypeId}{sz:Nat}{es:List (List PV)}(h:qC H' H):qC (bh H' id (.tail v e sz es)) H:=λi c' hi=>by
 unfold bh at hi;split at hi
 ·cases hi
 ·exact h i c' hi
theorem afY{α:Type}{cs:List α}{off:Nat}{new:List α}(h:off+new.length<=cs.length)(j:Nat):(splice cs off new)[j]? = if off<=j/\j<off+new.length then new[j-off]? else cs[j]?:=by
 unfold splice;rw[append_assoc,getElem?_append,length_take,getElem?_append,getElem?_take,getElem?_drop];by_cases h1:j<off
 ·rw[if_pos (by omega),if_pos h1,if_neg (by omega)]
 ·rw[if_neg (by omega)];by_cases h2:j<off+new.length
  ·rw[if_pos (by omega),if_pos (by omega),show j-min off cs.length=j-off by omega]
  ·rw[if_neg (by omega),if_neg (by omega),show off+new.length+(j-min off cs.length-new.length)=j by omega]
end Go.cv
namespace Go.cv
open Go.RowKit
variable{P:Program}{I:Mem}{L:bA}
def sw(s t i:Nat):Nat:=if i=s then t else if i=t then s else i
theorem qi(s t i:Nat):sw s t (sw s t i)=i:=by
 unfold sw;split
 ·rename_i h;subst h;split
  ·assumption
  ·rw[if_pos rfl]
 ·split
  ·rename_i h;subst h;rw[if_pos rfl]
  ·rfl
mutual
def jB(s t:Nat):AV->AV
 | .row id v=>.row (sw s t id) v
 | .ptr id o=>.ptr (sw s t id) o
 | .jo id v i o=>.jo (sw s t id) v i o
 | .agg cs=>.agg (oP s t cs)
 | .dW cs=>.dW (oP s t cs)
 | .iK f a b=>.iK f (oP s t a) (oP s t b)
 | .eP id v=>.eP (sw s t id) v
 | .kH id v i o=>.kH (sw s t id) v i o
 | .kI id v i=>.kI (sw s t id) v i
 | .nv id v i j o=>.nv (sw s t id) v i j o
 | .bsl id n=>.bsl (sw s t id) n
 | .iM id v o n m z=>.iM (sw s t id) v o n m z
 |x=>x
def oP(s t:Nat):List AV->List AV
 | []=>[]
 |a :: r=>jB s t a :: oP s t r
end
theorem uB{s t:Nat} : ∀ {cs:List AV} {j:Nat} {c:AV},(oP s t cs)[j]? = some c->∃d,cs[j]? = some d/\c=jB s t d
 | [],j,c,h=>by simp[oP] at h
 |a :: r,0,c,h=>by unfold oP at h;simp only[getElem?_cons_zero,cA] at h;exact⟨a,rfl,h.symm⟩
 |a :: r,j+1,c,h=>by unfold oP at h;exact uB (cs:=r) (by simpa using h)
theorem oH{s t:Nat} : ∀cs:List AV,(oP s t cs).length=cs.length
 | []=>rfl
 |a :: r=>by unfold oP;simp[oH r]
def at8(s t:Nat):Chunk->Chunk
 | .box cs=>.box (oP s t cs)
 |c=>c
def ayF(s t:Nat):Option Chunk->Option Chunk
 |some c=>some (at8 s t c)
 |none=>none
def adA(s t:Nat)(env:Env):Env:=λi=>jB s t (env i)
def ajV(s t:Nat)(H:aA):aA:=λi=>ayF s t (H (sw s t i))
def abr(s t:Nat)(L:bA):bA:=λi=>L (sw s t i)
theorem dR.ren{s t:Nat}{u:Value}{a:AV}(h:dR I L u a):dR I (abr s t L) u (jB s t a):=by
 induction h with
 |p u x h=>unfold jB;exact .p u x h
 |row u id bf v bI sz hl hle h h1=>unfold jB;exact .row u _ bf v bI sz (by unfold abr;rw[qi];exact hl) hle h h1
 |ptr id b off hl=>unfold jB;exact .ptr _ b off (by unfold abr;rw[qi];exact hl)
 |jo u id bf v i off bI sz hl hle h h1=>unfold jB;exact .jo u _ bf v i off bI sz (by unfold abr;rw[qi];exact hl) hle h h1
 |agg us cs hl _ hone ih=>unfold jB;refine .agg us _ (by rw[oH];exact hl) (λj u c hu hc=>?_) hone;obtain⟨d,hd,rfl⟩:=uB hc;exact ih j u d hu hd
 |dW us cs hl _ ih=>unfold jB;refine .dW us _ (by rw[oH];exact hl) (λj u c hu hc=>?_);obtain⟨d,hd,rfl⟩:=uB hc;exact ih j u d hu hd
 |iK fn us vs fs cs hl hl' _ _ ih ih' =>
  unfold jB;refine .iK fn us vs _ _ (by rw[oH];exact hl) (by rw[oH];exact hl') (λj u c hu hc=>?_) (λj u c hu hc=>?_)
  ·obtain⟨d,hd,rfl⟩:=uB hc;exact ih j u d hu hd
  ·obtain⟨d,hd,rfl⟩:=uB hc;exact ih' j u d hu hd
 |dead u=>unfold jB;exact .dead u
 |bsl id b n hl=>unfold jB;exact .bsl _ b n (by unfold abr;rw[qi];exact hl)
 |iM a id bf v off n m c bI sz hl hle hn hm hz h=>unfold jB;exact .iM a _ bf v off n m c bI sz (by unfold abr;rw[qi];exact hl) hle hn hm hz h
 |eP u id bf v bI sz sz' dr n hl hle h h1=>unfold jB;exact .eP u _ bf v bI sz sz' dr n (by unfold abr;rw[qi];exact hl) hle h h1
 |kH u id bf v i off bI sz sz' dr n hl hle h h1=>unfold jB;exact .kH u _ bf v i off bI sz sz' dr n (by unfold abr;rw[qi];exact hl) hle h h1
 |kI u id bf v i bI sz sz' dr n hl hle h h1=>unfold jB;exact .kI u _ bf v i bI sz sz' dr n (by unfold abr;rw[qi];exact hl) hle h h1
 |nv u id bf v i j off bI sz sz' dr n hl hle h h1=>unfold jB;exact .nv u _ bf v i j off bI sz sz' dr n (by unfold abr;rw[qi];exact hl) hle h h1
theorem qx.ren{s t:Nat}{w:World}{B id:Nat}{c:Chunk}(h:qx I L w B (sw s t id) c):qx I (abr s t L) w B id (at8 s t c):=by
 cases c with
 |box cs=>obtain⟨b,arr,e,g1,g2,g3,g4,g5,g6⟩:=h;refine⟨b,arr,e,g1,g2,by rw[oH];exact g3,λj u c hu hc=>?_,g5,g6⟩;obtain⟨d,hd,rfl⟩:=uB hc;exact (g4 j u d hu hd).ren
 |row bf e sz es=>exact h
 |shut bf es=>exact h
 |tail bf e sz es=>exact h
 |deep bf e sz k e' sz' es=>exact h
theorem aBI(s t:Nat)(env:Env)(i:Nat):adA s t env i=jB s t (env i):=rfl
theorem aBJ(s t:Nat)(H:aA)(i:Nat):ajV s t H i=ayF s t (H (sw s t i)):=rfl
theorem aFd(s t i:Nat):sw s t i=if i=s then t else if i=t then s else i:=rfl
theorem ayG(s t id v:Nat):jB s t (.row id v) = .row (sw s t id) v:=by simp only[jB]
theorem ayH(s t id v:Nat):jB s t (.ptr id v) = .ptr (sw s t id) v:=by simp only[jB]
theorem aDz(s t:Nat)(x:PV):jB s t (.p x) = .p x:=by simp only[jB]
theorem at9(s t id v:Nat):jB s t (.eP id v) = .eP (sw s t id) v:=by simp only[jB]
theorem aua(s t v:Nat)(e:TypeId)(sz k:Nat)(e':TypeId)(sz':Nat)(es:List (List PV)):at8 s t (.deep v e sz k e' sz' es) = .deep v e sz k e' sz' es:=rfl
theorem aub(s t:Nat):oP s t []=[]:=by simp only[oP]
theorem apt(s t:Nat)(a:AV)(r:List AV):oP s t (a :: r)=jB s t a :: oP s t r:=by simp only[oP]
theorem auc(s t:Nat)(c:Chunk):ayF s t (some c)=some (at8 s t c):=rfl
theorem aud(s t:Nat):ayF s t none=none:=rfl
theorem ayI(s t:Nat)(cs:List AV):at8 s t (.box cs) = .box (oP s t cs):=rfl
theorem ayJ(s t v:Nat)(e:TypeId)(sz:Nat)(es:List (List PV)):at8 s t (.row v e sz es) = .row v e sz es:=rfl
attribute [go_sem] at9 aua aBI aBJ aFd ayG ayH aDz aub apt auc aud ayI ayJ ayy at4 aBF ayz apr amd ayA at5 at6 at7 aBG aps amf
end Go.cv
namespace Go.cv
open Go.RowKit
variable{P:Program}{I:Mem}{L:bA}
theorem gQ.change{C:Ctx}{env:Env}{H H':aA}{I':Mem}{L':bA}{tm:Array Value}{w w':World}(h:gQ C env H I L tm w)(hb:Below C.B w w')(S:Nat->Prop)
  (hk:∀b,b<w.heap.size->(¬ ∃i l,S i/\L i=some l/\l.has b)->w'.heap[b]? = w.heap[b]?/\∀o,I' b o=I b o) (hle:dQ L L') (hsub:I.sub I') (hIw:I'.inW w')
  (hS:∀i,¬ S i->L' i=L i/\H' i=H i) (hdom:∀i l,S i->L' i=some l->∃c,H' i=some c) (hch:∀i c,S i->H' i=some c->qx I' L' w' C.B i c)
  (hblk:∀i l b,S i->L' i=some l->l.has b->(∃j lj,S j/\L j=some lj/\lj.has b)\/(w.heap.size<=b/\b<w'.heap.size))
  (hap:∀i j li lj b,S i->S j->L' i=some li->L' j=some lj->li.has b->lj.has b->i=j):gQ C env H' I' L' tm w':=by
 have hold:∀b,b<C.w0.heap.size->¬ C.anw b->¬ ∃i l,S i/\L i=some l/\l.has b:=λb hb hn ⟨i,l,_,hl,hlb⟩=>by
  rcases h.jA i l b hl hlb with h2|h2
  ·omega
  ·exact hn h2
 have hlt:∀b,b<C.w0.heap.size->b<w.heap.size:=λb hb=>lt_of_lt_of_le hb h.below.size
 have kr:∀i l b,¬ S i->L i=some l->l.has b->¬ ∃j lj,S j/\L j=some lj/\lj.has b:=λi l b hi hl hlb ⟨j,lj,hj,hlj,hjb⟩=>by have:=h.apart i j l lj b hl hlj hlb hjb;subst this;exact hi hj
 exact
 {below:=h.below.trans hb
  mem:=hIw
  kX:=Mem.lX h.kX hsub
  lY:=λb hb hf o=>by rw[(hk b (hlt b hb) (hold b hb hf)).2 o];exact h.lY b hb hf o
  frame:=λb hb hf=>((hk b (hlt b hb) (hold b hb hf)).1).trans (h.frame b hb hf)
  loc:=h.loc.trans hle
  jA:=λi l b hl hlb=>by
   by_cases hi:S i
   ·rcases hblk i l b hi hl hlb with ⟨j,lj,_,hj,hjb⟩|h2
    ·exact h.jA j lj b hj hjb
    ·exact .inl (le_trans h.below.size h2.1)
   ·rw[(hS i hi).1] at hl;exact h.jA i l b hl hlb
  size:=h.size
  env:=λt=>(h.env t).mono hsub hle
  dom:=λi l hl=>by
   by_cases hi:S i
   ·exact hdom i l hi hl
   ·rw[(hS i hi).1] at hl;rw[(hS i hi).2];exact h.dom i l hl
  chunk:=λi c hc=>by
   by_cases hi:S i
   ·exact hch i c hi hc
   ·rw[(hS i hi).2] at hc;exact (h.chunk i c hc).keep hsub hle (hS i hi).1 λl b hl hlb=>hk b (h.fM i l b hl hlb).2 (kr i l b hi hl hlb)
  fM:=λi l b hl hlb=>by
   by_cases hi:S i
   ·rcases hblk i l b hi hl hlb with ⟨j,lj,_,hj,hjb⟩|h2
    ·exact⟨(h.fM j lj b hj hjb).1,lt_of_lt_of_le (h.fM j lj b hj hjb).2 hb.size⟩
    ·exact⟨le_trans h.leB h2.1,h2.2⟩
   ·rw[(hS i hi).1] at hl;exact⟨(h.fM i l b hl hlb).1,lt_of_lt_of_le (h.fM i l b hl hlb).2 hb.size⟩
  apart:=λi j li lj b hi hj rK vq=>by
   have one:∀i j li lj,S i->¬ S j->L' i=some li->L' j=some lj->li.has b->lj.has b->False:=λi j li lj hi hj hli hlj rK vq=>by
    rw[(hS j hj).1] at hlj;rcases hblk i li b hi hli rK with hx|h2
    ·exact kr j lj b hj hlj vq hx
    ·have:=(h.fM j lj b hlj vq).2;omega
   by_cases h1:S i<;>by_cases h2:S j
   ·exact hap i j li lj b h1 h2 hi hj rK vq
   ·exact (one i j li lj h1 h2 hi hj rK vq).elim
   ·exact (one j i lj li h2 h1 hj hi vq rK).elim
   ·rw[(hS i h1).1] at hi;rw[(hS j h2).1] at hj;exact h.apart i j li lj b hi hj rK vq }
theorem gQ.ren{C:Ctx}{env:Env}{H:aA}{tm:Array Value}{w:World}(hs:gQ C env H I L tm w){s t:Nat}(h0s:C.L0 s=none)(h0t:C.L0 t=none):gQ C (adA s t env) (ajV s t H) I (abr s t L) tm w :=
 {below:=hs.below
  mem:=hs.mem
  kX:=hs.kX
  lY:=hs.lY
  frame:=hs.frame
  loc:=λi=>by
   by_cases h1:i=s
   ·subst h1;rw[h0s];trivial
   ·by_cases h2:i=t
    ·subst h2;rw[h0t];trivial
    ·have:abr s t L i=L i:=by unfold abr sw;rw[if_neg h1,if_neg h2]
     rw[this];exact hs.loc i
  jA:=λid l b hl hb=>hs.jA _ l b hl hb
  size:=hs.size
  env:=λi=>(hs.env i).ren
  dom:=λid l hl=>by obtain⟨c,hc⟩:=hs.dom _ l hl;exact⟨_,by unfold ajV;rw[hc];rfl⟩
  chunk:=λid ch hch=>by
   unfold ajV at hch;cases hc:H (sw s t id) with
   |none=>rw[hc] at hch;cases hch
   |some c=>rw[hc] at hch;simp only[ayF,cA] at hch;subst hch;exact (hs.chunk _ c hc).ren
  fM:=λid l b hl hb=>hs.fM _ l b hl hb
  apart:=λi j li lj b hi hj rK vq=>by
   have:=hs.apart _ _ li lj b hi hj rK vq;have h2:=congrArg (sw s t) this;rwa [qi,qi] at h2 }
mutual
theorem ah9(s t:Nat):∀a:AV,jB s t (jB s t a)=a
 | .p _=>by simp only[jB]
 | .row _ _=>by simp only[jB,qi]
 | .ptr _ _=>by simp only[jB,qi]
 | .jo _ _ _ _=>by simp only[jB,qi]
 | .agg cs=>by simp only[jB,sR s t cs]
 | .dW cs=>by simp only[jB,sR s t cs]
 | .iK _ a b=>by simp only[jB,sR s t a,sR s t b]
 | .eP _ _=>by simp only[jB,qi]
 | .kH _ _ _ _=>by simp only[jB,qi]
 | .kI _ _ _=>by simp only[jB,qi]
 | .nv _ _ _ _ _=>by simp only[jB,qi]
 | .bsl _ _=>by simp only[jB,qi]
 | .iM _ _ _ _ _ _=>by simp only[jB,qi]
 | .dead=>by simp only[jB]
theorem sR(s t:Nat):∀l:List AV,oP s t (oP s t l)=l
 | []=>by simp only[oP]
 |a :: r=>by simp only[oP,ah9 s t a,sR s t r]
end
theorem aia(s t:Nat)(env:Env):adA s t (adA s t env)=env:=by funext i;simp only[adA,ah9]
theorem aue(s t:Nat)(env:Env)(d:Option Tmp)(a:AV):adA s t (cL env d a)=cL (adA s t env) d (jB s t a):=by
 cases d with
 |none=>rfl
 |some k=>funext i;show jB s t (cE env k a i)=cE (adA s t env) k (jB s t a) i;unfold cE;split<;>rfl
theorem aDA(s t:Nat)(env:Env)(x:Operand):ev (adA s t env) x=jB s t (ev env x):=by
 cases x with
 |tmp k=>rfl
 |const v =>
  show yU v=jB s t (yU v);have:∃p,yU v = .p p\/yU v = .dead:=by unfold yU;split<;>first|exact⟨_,.inl rfl⟩|exact⟨default,.inr rfl⟩|(split<;>first|exact⟨_,.inl rfl⟩|exact⟨default,.inr rfl⟩)
  obtain⟨p,h|h⟩:=this<;>rw[h]<;>simp only[jB]
 |global g=>simp only[ev,jB]
 |func f=>simp only[ev,jB]
theorem kR{o:Oper}{W:Env->aA->Prop}{env:Env}{H:aA}(s t:Nat)(hs1:s<1000000)(ht:H t=none)(h:ab3 P o (λe G=>W (adA s t e) (ajV s t G)) (adA s t env) (ajV s t H)):ab3 P o W env H:=λC I L tm w σ hs hσ=>by
 have hLt:L t=none:=hs.sF ht;have h0t:C.L0 t=none:=by
  cases h:C.L0 t with
  |none=>rfl
  |some l =>
   have:=hs.loc t;rw[h] at this;cases l with
   |box b=>rw[hLt] at this;cases this
   |row v bI sz=>obtain⟨_,_,h2,_⟩:=this;rw[hLt] at h2;cases h2
   |deep v bI sz sz' dr n=>obtain⟨_,_,_,_,h2,_⟩:=this;rw[hLt] at h2;cases h2
 have h0s:C.L0 s=none:=by
  cases h:C.L0 s with
  |none=>rfl
  |some l=>have:=C.hL0 s l h;omega
 obtain⟨k,args,q1,q2⟩:=h C I _ tm w σ (hs.ren h0s h0t) λx=>by rw[aDA];exact (hσ x).ren
 refine⟨k,args,q1,q2.mono λe w' ⟨v,I',L',a,H',m1,m2,m3,m4⟩=>⟨v,I',abr s t L',jB s t a,ajV s t H',m1,?_,m3.ren,?_⟩⟩
 ·have:adA s t (cL (adA s t env) o.dst a)=cL env o.dst (jB s t a):=by rw[aue,aia]
  rw[<-this];exact m2
 ·have:=m4.ren h0s h0t;rwa [aia] at this
theorem amg{C:Ctx}{H:aA}{env:Env}{tm:Array Value}{w:World}(hs:gQ C env H I L tm w){d:Nat}(hd:H d=none)(e:TypeId){sz k:Nat}(hpos:k<sz)(e':TypeId)(sz':Nat) :
  dR I (cg L d (.deep 0 (.slice none 0 0) sz sz' (λ_=>.slice none 0 0) 0)) (.slice none 0 0) (.eP d 0)/\Fr C I L H w I (cg L d (.deep 0 (.slice none 0 0) sz sz' (λ_=>.slice none 0 0) 0)) (bh H d (.deep 0 e sz k e' sz' [])) w /\
   dQ L (cg L d (.deep 0 (.slice none 0 0) sz sz' (λ_=>.slice none 0 0) 0)):=by
 refine⟨.eP _ d 0 0 (.slice none 0 0) sz sz' (λ_=>.slice none 0 0) 0 (by simp[cg]) (le_refl _) (λ_=>rfl) rfl,λenv tm hs=>?_,dQ.uK (hs.sF hd) _⟩;refine hs.new (Below.refl _ _) (λ_ _=>rfl) hd _ _ ?_ (λb hb=>?_)
 ·refine⟨.slice none 0 0,[],λ_=>.slice none 0 0,by simp[cg],⟨⟨by simp[fG],.inl ⟨rfl,by simp[fG]⟩⟩,by omega,by simp[fG],by simp,by simp,λb hb=>by cases hb⟩,rfl,hpos,by simp,λi x hx=>by simp at hx,λi b hi=>by simp at hi,λi j b hi=>by simp at hi⟩
 ·rcases hb with hb|⟨i,hi,_⟩
  ·cases hb
  ·omega
theorem auf{e:Env}{H:aA}(t id:Nat)(ty:TypeId)(sz k:Nat)(e':TypeId)(sz':Nat)(ht:e t = .p (.val (.slice none 0 0)))(hid:H id=none)(hsz:k<sz) :
  dx e H (cE e t (.eP id 0)) (bh H id (.deep 0 ty sz k e' sz' [])):=λC I L tm w hs=>by
 obtain⟨n1,n2,n3⟩:=amg hs hid ty hsz e' sz';have hs':=n2 e tm hs;refine⟨I,_,{ hs' with env:=λi=>?_ }⟩;unfold cE;split
 ·rename_i hi;subst hi;have:=hs.env i;rw[ht] at this;rw[this.dK.1];exact n1
 ·exact hs'.env i
theorem aug(k:Nat)(dr:Nat->Value)(es:List (List PV))(i:Nat)(x:List PV)(p:PV)(hx:es[i]? = some x):fG k dr (es.set i (x.set k p))=fG k dr es:=by
 apply ext_getElem?;intro j;rw[ug,ug,getElem?_set];split
 ·rename_i h;subst h;have hi:=(List.getElem?_eq_some_iff.1 hx).1;rw[if_pos hi,hx];simp[set_set]
 ·rfl
theorem afZ{o:Oper}{W:Env->aA->Prop}{env:Env}{H:aA}(t:TypeId)(a x:Operand)(id v i j:Nat)(e:TypeId)(sz k:Nat)(e':TypeId)(es:List (List PV))(el:List PV)(l:List (List PV))(p:PV)(hop:o.op = .store t a x)
  (hn:bl P t=some 1) (ha:ev env a = .nv id v i j 0) (hx:ev env x = .p p) (hp1:(b6 (.p p))=[.p p]/\p.one=true) (hH:H id=some (.deep v e sz k e' 1 es)) (hel:es[i]? = some el) (hl:el[k]? = some (.aU l)) (hj:j<l.length)
  (hW:W (cL env o.dst .dead) (bh H id (.deep v e sz k e' 1 (es.set i (el.set k (.aU (l.set j [p]))))))):jF P o W env H:=by
 refine .inr (.inr (.inl ⟨_,_,hW,λC I L tm w σ hs hσ=>?_⟩));have hav:=hσ a;have hxv:=hσ x;rw[ha] at hav;rw[hx] at hxv;obtain⟨bI,us,dr,q1,q2,q3,q4,q5,q6,q7⟩:=hs.chunk id _ hH;have ri:i<es.length:=(List.getElem?_eq_some_iff.1 hel).1;obtain⟨l',ius,r1,r2,r3⟩:=q6 i el hel;rw[hl] at r1;simp only[cA,PV.aU.injEq] at r1;subst r1;have hs':(execOp σ o).run P w=(do Instr.storeAt t (σ a) (σ x);pure .skip:Sem Next).run P w:=by unfold execOp;rw[hop]
 obtain⟨un,u1,u2,u3,u4⟩:=cells_one hxv (by rw[hp1.1];simp[od,hp1.2]);rw[hp1.1] at u2 u3;have hpin:0<es.length:=by omega
 generalize hua:σ a=ua at *;cases hav with
 |nv _ _ _ v1 _ _ _ jD _ _ rm n1 lS hle hh hone =>
  rw[q1] at lS;simp only[cA,Loc.deep.injEq] at lS;obtain⟨e1,e2,e3,e4,e5,e6⟩:=lS;subst e1 e2 e3 e4 e5 e6;obtain⟨g,o0,m,cap,g1,rfl⟩:=hh rfl;rcases r2.own.2 with ⟨ajb,_⟩|⟨g',cp,cur,heq,hbg,hgg,hnc,hcm,hcz,jN⟩
  ·rw[ajb] at g1;cases g1
  have aFe:=heq;rw[g1] at heq;simp only[Value.slice.injEq,cA,Addr.mk.injEq] at heq;obtain⟨⟨e3,e0,_⟩,e4,e5⟩:=heq;subst e3 e0 e4 e5;have rK:(dr i).ownBlock=some g:=by rw[aFe];rfl
  have hcap:l.length<=cur.size:=by omega
  have hul:un.length=1:=by simpa using u2
  have hr:=xP hn u1 hul hgg (off:=j) (by omega) u4;have e8:(0:Nat)+(j * 1+0)=j:=by omega
  rw[e8] at hs';have hil':ius.length=l.length:=by have:=r2.own.1;omega
  have hkeep:∀ (b:Nat),b≠g->(w.setRow g (splice cur.toList j un).toArray).heap[b]? = w.heap[b]?:=λb hb=>setRow_other w g b _ hb
  have hgw:g<w.heap.size:=(Array.getElem?_eq_some_iff.1 hgg).1;have hgB:C.B<=g:=hbg;refine⟨undef,_,I,L,.inr ⟨by rw[hs'];exact afg hr,rfl⟩,.dead _,λenv tm hs=>?_⟩;refine hs.change (pn _ hgB) (λz=>z=id) (λb hb hnb=>⟨hkeep b λhbg=>hnb ⟨id,_,rfl,q1,by rw[hbg];exact .inr ⟨i,ri,rK⟩⟩,λ_=>rfl⟩) (dQ.refl L) (Mem.en I) (hs.mem.keep λb ⟨o,u,hu⟩=>hkeep b λhbg=>by rw[hbg,r2.free g rK o] at hu;cases hu)
   (λz hz=>⟨rfl,by simp[bh,hz]⟩) (λz l hz hl=>⟨_,by simp[bh,hz];rfl⟩) (λz c hz hc=>?_) (λz l b hz hl hb=>.inl ⟨z,l,hz,hl,hb⟩) (λz z' _ _ _ hz hz' _ _ _ _=>by rw[hz,hz'])
  subst hz;have:Chunk.deep v e sz k e' 1 (es.set i (el.set k (.aU (l.set j [p]))))=c:=by simpa[bh] using hc
  subst this;have xN:fG k dr (es.set i (el.set k (.aU (l.set j [p]))))=fG k dr es:=aug k dr es i el _ hel;refine⟨bI,us,dr,by rw[length_set];exact q1,?_,q3,q4,λy hy=>?_,λi' x' hx'=>?_,by rw[length_set];exact q7⟩
  ·rw[xN];exact q2.keep (Mem.en I) λb hb=>⟨hkeep b λhbg=>q7.1 i g ri rK (by rw[<-hbg];exact hb),λ_=>rfl⟩
  ·rcases mem_or_eq_of_mem_set hy with h|h
   ·exact q5 y h
   ·subst h;rw[length_set];exact q5 el (mem_of_getElem? hel)
  ·rw[getElem?_set] at hx';split at hx'
   ·rename_i hii;subst hii;simp only[cA] at hx';subst hx';have rj:k<el.length:=(List.getElem?_eq_some_iff.1 hl).1;have htk:(splice cur.toList j un).take (l.length * 1)=splice ius j un:=by rw[vH (by omega) (by simp;omega),jN]
    refine⟨l.set j [p],splice ius j un,by simp[rj],⟨⟨?_,.inr ⟨g,cap,(splice cur.toList j un).toArray,by rw[length_set];exact aFe,hbg,setRow_heap w g cur _ e' _ hgg,by rw[length_set];exact hnc,hcm,?_,by rw[length_set];exact htk⟩⟩,r2.pos,λy hy=>?_,?_,uN r2.one u4,r2.free⟩,r3⟩
    ·rw[length_set,dD (by omega)];omega
    ·simp only[size_toArray];rw[dD (by simp only[Array.length_toList];omega)];simpa using hcz
    ·rcases mem_or_eq_of_mem_set hy with h|h
     ·exact r2.all y h
     ·subst h;rfl
    ·have hm:(l.getD j []).length=1:=r2.all _ (by
      have:l.getD j []=l[j]:=by simp[hj]
      rw[this];exact nS _)
     have hsp:splice (l.getD j []) 0 [p]=[p]:=by unfold splice;rw[take_zero,drop_eq_nil_of_le (by rw[hm];simp)];rfl
     have:=y3 r2.all j hj 0 [p] (by simp);rw[hsp] at this;rw[this];have e9:j * 1+0=j:=by omega
     rw[e9];exact abc (by rw[bH r2.all];omega) (by simpa using u2) r2.val (λq u c hu hc=>by
      have:=u3 q u (.p c) hu (by
       cases q with
       |zero=>simp at hc ⊢;exact hc
       |succ q=>simp at hc)
      exact this.nM)
   ·rename_i hii;obtain⟨l2,us2,m1,m2,m3⟩:=q6 i' x' hx';have aI3:i'<es.length:=(List.getElem?_eq_some_iff.1 hx').1;exact⟨l2,us2,m1,m2.keep (Mem.en I) λb hb=>⟨hkeep b λhbg=>hii (q7.2 i i' g ri aI3 rK (by rw[<-hbg];exact hb)),λ_=>rfl⟩,m3⟩
theorem af0{w:World}{B:Nat}{t1 ty e:TypeId}{i:TypeInfo}{z:Value}{sz qz:Nat}(hu:P.underlying t1=some (.slice e))(hi:P.info? e=some i)(hz:i.zero=some z)(hsz:i.size=sz)(hby:i.bytes=qz)(hzc:z.cells.size=sz)(hpos:0<sz)
  {x:Value} {n:Nat} {us:List Value} (q2:w.ownsRow B e sz x n us) {bb off m cap:Nat} {yZ:List Value} (aeB:yZ.length=m * sz) (hnews:∀ (j:Nat) v,yZ[j]? = some v->w.cell? ((⟨bb,off,none⟩:Addr).add j)=some v) (hnone:∀u∈yZ,u.oneCell'=true) (hm:0<m)
  (aff:n+m<=maxLen) (hb:(n+m) * qz<=140737488355328) (hB:B<=w.heap.size) :
  ∃v' w',(Builtin.append_ #[t1,t1] ty #[x,.slice (some ⟨bb,off,none⟩) m cap]).run P w = .ok v' w'/\w'.ownsRow B e sz v' (n+m) (us++yZ)/\w.grownBy w' x.ownBlock /\
   (∀b,v'.ownBlock=some b->x.ownBlock=some b\/(w.heap.size<=b/\b<w'.heap.size))/\v'.oneCell'=true:=by
 obtain⟨v',w',hr,ho,hg,_⟩:=run_append_own (P:=P) w B t1 ty e i z sz qz hu hi hz hsz hby hzc hpos x n us q2 ⟨bb,off,none⟩ m cap yZ aeB hnews hnone aff hb hB
 refine⟨v',w',hr,ho,hg,?_,?_⟩
 ·rcases q2.2 with ⟨rfl,hn0⟩|⟨g,cp,cur,rfl,hbg,hgg,hnc,hcm,hcs,jN⟩
  ·obtain⟨cp,rest,hr2,_⟩:=pW (P:=P) (ty:=ty) hu hi hz hsz none ⟨bb,off,none⟩ m cap yZ w aeB hnews (by omega) (by rw[hby];rw[hn0,zero_add] at hb;exact hb) (by simp only[maxLen] at aff;omega);rw[hr2] at hr;simp only[Result.ok.injEq] at hr;obtain⟨rfl,rfl⟩:=hr;intro b hb;simp only[Value.ownBlock,cA] at hb;subst hb;exact .inr ⟨le_refl _,by simp⟩
  ·by_cases hroom:n+m<=cp
   ·have hfit:n * i.size+yZ.length<=cur.size:=by rw[aeB,hcs,hsz,<-add_mul];exact mul_le_mul_right _ hroom
    have hr2:=run_append_room (P:=P) w t1 ty e i hu hi g n cp cur hgg ⟨bb,off,none⟩ m cap yZ (by rw[hsz];exact aeB) hnews hnone hroom hfit;rw[hr2] at hr;simp only[Result.ok.injEq] at hr;obtain⟨rfl,rfl⟩:=hr;intro b hb;exact .inl hb
   ·have holds:∀j u,us[j]? = some u->w.cell? ((⟨g,0,none⟩:Addr).add j)=some u:=q2.cells (g:=g) rfl;have hr2:=run_append_grow (P:=P) w t1 ty e i z hu hi hz ⟨g,0,none⟩ n cp us (by rw[hsz];exact q2.1) holds ⟨bb,off,none⟩ m cap yZ (by rw[hsz];exact aeB) hnews (by omega) (by simp only[maxLen] at aff;omega)
     (growslice_fits (by omega) (by rw[hby];exact hb))
    rw[hr2] at hr;simp only[Result.ok.injEq] at hr;obtain⟨rfl,rfl⟩:=hr;intro b hb;simp only[Value.ownBlock,cA] at hb;subst hb;exact .inr ⟨le_refl _,by simp⟩
 ·rcases ho.2 with ⟨rfl,_⟩|⟨_,_,_,rfl,_⟩<;>rfl
theorem vO(k:Nat):∀ (es:List (List PV)) (dr lD:Nat->Value),(∀i,i<es.length->dr i=lD i)->fG k dr es=fG k lD es
 | [],_,_,_=>rfl
 |x :: r,dr,lD,h=>by simp only[fG];rw[h 0 (by simp),vO k r _ _ λi hi=>h (i+1) (by simp;omega)]
theorem af1(k:Nat):∀ (es:List (List PV)) (dr:Nat->Value) (x:List PV),fG k dr (es++[x])=fG k dr es++[x.set k (.val (dr es.length))]
 | [],_,_=>rfl
 |y :: r,dr,x=>by simp only[cons_append,fG,af1 k r,length_cons]
theorem amh{o:Oper}{W:Env->aA->Prop}{env:Env}{H:aA}(t1 t2:TypeId)(x y:Operand)(id d r v rv k:Nat)(e:TypeId)(sz qz:Nat)(e':TypeId)(sz':Nat)(es l:List (List PV))(ps:List PV)
  (hop:o.op = .call ⟨.builtin .append,#[x,y],#[t1,t2]⟩) (ht:dy P t1 t2=some (e,sz,qz)) (hx:ev env x = .eP id v) (hy:ev env y = .bsl d 1) (hH:H id=some (.deep v e sz k e' sz' es))
  (hd:H d=some (.box ((ps.map AV.p).set k (.row r rv)))) (hr:H r=some (.row rv e' sz' l)) (hps:ps.length=sz) (hne:id≠r) (hb:(es.length+1) * qz<=140737488355328)
  (hW:W (cL env o.dst (.eP id (v+1))) (bh (bh H r (.row (rv+1) e' sz' [])) id (.deep (v+1) e sz k e' sz' (es++[ps.set k (.aU l)])))):jF P o W env H:=by
 refine .inr (.inr (.inl ⟨_,_,hW,λC I L tm w σ hs hσ=>?_⟩));have hxv:=hσ x;have hyv:=hσ y;rw[hx] at hxv;rw[hy] at hyv;obtain⟨rfl,hu,hpos,aaJ,i,z,hi,hz,hsz,hby,hzc⟩:=nD ht;have hs':∀w,(execOp σ o).run P w=((Builtin.append_ #[t1,t1] o.type #[σ x,σ y]).run P w).andThen λu w'=>.ok (.value u) w':=λw=>by unfold execOp;rw[hop];simp[resolve,invoke,builtin,Result.andThen]
 obtain⟨bI,us,dr,q1,q2,q3,q4,q5,q6,q7⟩:=hs.chunk id _ hH;obtain⟨db,arr,de,d1,d2,d3,d4,d5,d6⟩:=hs.chunk d _ hd;obtain⟨rh,rus,c1,c2,c3,c4,c5,c6,c7⟩:=hs.chunk r _ hr;have aff:es.length+1<=maxLen:=by have:=Nat.le_mul_of_pos_right (es.length+1) aaJ;simp only[maxLen];omega
 generalize hux:σ x=ux at *;generalize huy:σ y=uy at *;cases hxv with
 |eP _ _ _ v1 jD _ _ rm n1 hl hle hh hone =>
  rw[q1] at hl;simp only[cA,Loc.deep.injEq] at hl;obtain⟨e1,e2,e3,e4,e5,e6⟩:=hl;subst e1 e2 e3 e4 e5 e6;have hxe:=hh rfl;subst hxe;cases hyv with
  |bsl _ b _ hl =>
   rw[d1] at hl;simp only[cA,Loc.box.injEq] at hl;subst hl;have hal:arr.toList.length=1 * sz:=by simp[d3,hps]
   have own:=q2.own;rw[fO] at own;obtain⟨v',w',hrun,ho,hg,hblk,h1⟩:=af0 (P:=P) (ty:=o.type) (cap:=1) hu hi hz hsz hby hzc hpos own (bb:=db) (off:=0) (m:=1) (yZ:=arr.toList) hal (λj v hj=>by
    rw[Addr.add_mid,zero_add,fP d2];simpa using hj) (λu hu=>by
    obtain⟨j,hj⟩:=mem_iff_getElem?.1 hu;exact d5 j u (by simpa using hj)) (by omega) aff hb hs.leB
   let lD:Nat->Value:=λj=>if j<es.length then dr j else rh
   have ami:∀j,j<es.length->lD j=dr j:=λj hj=>by simp only[lD];rw[if_pos hj]
   have aib:lD es.length=rh:=by simp only[lD];rw[if_neg (by omega)]
   have aFf:∀b,ux.ownBlock=some b->C.B<=b/\b<w.heap.size:=λb hb=>hs.fM id _ b q1 (.inl hb)
   have aic:∀b,rh.ownBlock=some b->b<w.heap.size/\ux.ownBlock≠some b/\∀i,i<es.length->(dr i).ownBlock≠some b:=λb hb=>⟨(hs.fM r _ b c1 hb).2,λh2=>hne (hs.apart id r _ _ b q1 c1 (.inl h2) hb),λi hi h2=>hne (hs.apart id r _ _ b q1 c1 (.inr ⟨i,hi,h2⟩) hb)⟩
   have aq4:∀i b,i<es.length->(dr i).ownBlock=some b->b<w.heap.size/\ux.ownBlock≠some b:=λi b hi hb=>⟨(hs.fM id _ b q1 (.inr ⟨i,hi,hb⟩)).2,q7.1 i b hi hb⟩
   let L':bA:=cg (cg L r (.row (rv+1) (.slice none 0 0) sz')) id (.deep (v+1) v' sz sz' lD (es.length+1));have hLi:L' id=some (.deep (v+1) v' sz sz' lD (es.length+1)):=by simp[L',cg]
   have hLr:L' r=some (.row (rv+1) (.slice none 0 0) sz'):=by simp[L',cg,Ne.symm hne]
   have hLo:∀j,j≠id->j≠r->L' j=L j:=λj h1 h2=>by simp[L',cg,h1,h2]
   have hle':dQ L L':=λj=>by
    by_cases e1:j=id
    ·subst e1;rw[q1];exact⟨v+1,v',lD,es.length+1,hLi,by omega,λe=>by omega⟩
    ·by_cases e2:j=r
     ·subst e2;rw[c1];exact⟨rv+1,.slice none 0 0,hLr,by omega,λe=>by omega⟩
     ·rw[hLo j e1 e2];exact dQ.refl L j
   refine⟨v',w',I,L',.inl (by rw[hs',hrun];rfl),.eP _ _ _ (v+1) v' sz sz' lD (es.length+1) hLi (le_refl _) (λ_=>rfl) h1,λenv tm hs=>?_⟩;have aq5:∀b,b<w.heap.size->ux.ownBlock≠some b->w'.heap[b]? = w.heap[b]?:=λb hb hn=>hg.block b hb λe=>hn e.symm
   have hpsl:(ps.map AV.p).length=sz:=by rw[length_map];exact hps
   refine hs.change (Below.grown (Below.refl _ _) hg hs.leB λb hb=>(aFf b hb).1) (λz=>z=id\/z=r) (λb hb hnb=>⟨aq5 b hb λh2=>hnb ⟨id,_,.inl rfl,q1,.inl h2⟩,λ_=>rfl⟩) hle' (Mem.en I)
    (hs.mem.keep λb ⟨o,u,hu⟩=>aq5 b (hs.mem.lt hu) λh2=>by rw[q2.free b h2 o] at hu;cases hu) (λz hz=>⟨hLo z (λe=>hz (.inl e)) (λe=>hz (.inr e)),by
     have a1:z≠id:=λe=>hz (.inl e)
     have a2:z≠r:=λe=>hz (.inr e)
     simp[bh,a1,a2]⟩)
    (λz l hz hl=>?_) (λz c hz hc=>?_) (λz l b hz hl hb=>?_) (λz z' lz lz' b hz hz' hl hl' hb hb'=>?_)
   ·rcases hz with rfl|rfl
    ·exact⟨_,by simp[bh];rfl⟩
    ·exact⟨_,by simp[bh,Ne.symm hne];rfl⟩
   ·rcases hz with rfl|rfl
    ·have:Chunk.deep (v+1) e sz k e' sz' (es++[ps.set k (.aU l)])=c:=by simpa[bh] using hc
     subst this;have aFg:fG k lD (es++[ps.set k (.aU l)])=fG k dr es++[ps.set k (.val rh)]:=by rw[af1,aib,vO k es lD dr ami];simp[set_set]
     refine⟨v',us++arr.toList,lD,by rw[length_append];exact hLi,?_,h1,q4,λy hy=>?_,λi' x' hx'=>?_,?_⟩
     ·rw[aFg];refine⟨by rw[length_append,fO];exact ho,hpos,λy hy=>?_,?_,λu hu=>?_,λb hb o=>?_⟩
      ·rcases mem_append.1 hy with h|h
       ·exact q2.all y h
       ·simp only[mem_singleton] at h;subst h;rw[length_set];exact hps
      ·rw[flatten_append];refine abb (by rw[bH q2.all,fO];exact own.1) q2.val (λj u c hu hc=>?_);have qE:(ps.set k (.val rh))[j]? = some c:=by simpa using hc
       have hjl:j<sz:=by have:=(List.getElem?_eq_some_iff.1 qE).1;rw[length_set] at this;omega
       rw[getElem?_set] at qE;split at qE
       ·rename_i hkj;subst hkj;split at qE
        ·simp only[cA] at qE;subst qE;have h2:=d4 k u (.row r rv) (by simpa using hu) (by rw[getElem?_set,if_pos rfl,if_pos (by omega)]);cases h2 with
         |row _ _ _ v2 avC sz2 hl2 hle2 hh2 aFh=>rw[c1] at hl2;simp only[cA,Loc.row.injEq] at hl2;obtain⟨a1,a2,a3⟩:=hl2;subst a1 a2 a3;rw[<-hh2 rfl];exact .val _ aFh
        ·cases qE
       ·rename_i hkj;have h2:=d4 j u (.p c) (by simpa using hu) (by rw[getElem?_set,if_neg hkj,getElem?_map,qE];rfl);exact h2.nM
      ·rcases mem_append.1 hu with h|h
       ·exact q2.one u h
       ·obtain⟨j,hj⟩:=mem_iff_getElem?.1 h;exact d5 j u (by simpa using hj)
      ·rcases hblk b hb with h|h
       ·exact q2.free b h o
       ·cases hI:I b o with
        |none=>rfl
        |some u=>exact absurd (hs.mem.lt hI) (by omega)
     ·rcases mem_append.1 hy with h|h
      ·exact q5 y h
      ·simp only[mem_singleton] at h;subst h;rw[length_set];exact hps
     ·rw[getElem?_append] at hx';split at hx'
      ·rename_i hlt;obtain⟨l2,us2,m1,m2,m3⟩:=q6 i' x' hx';rw[ami i' hlt];exact⟨l2,us2,m1,m2.keep (Mem.en I) λb hb=>⟨aq5 b (aq4 i' b hlt hb).1 (aq4 i' b hlt hb).2,λ_=>rfl⟩,m3⟩
      ·rename_i hlt;have hi0:i'-es.length=0:=by have:=(List.getElem?_eq_some_iff.1 hx').1;simp at this;omega
       rw[hi0] at hx';simp only[getElem?_cons_zero,cA] at hx';subst hx';have hie:i'=es.length:=by omega
       subst hie;rw[aib];have hone:rh.oneCell'=true:=by rcases c2.2 with ⟨rfl,_⟩|⟨_,_,_,rfl,_⟩<;>rfl
       exact⟨l,rus,by rw[getElem?_set,if_pos rfl,if_pos (by omega)],(⟨c2,c3,c4,c5,c6,c7⟩:sE w C.B I rh e' sz' l rus).keep (Mem.en I) λb hb=>⟨aq5 b (aic b hb).1 (aic b hb).2.1,λ_=>rfl⟩,hone⟩
     ·rw[length_append];refine⟨λi' b hi' hb hb'=>?_,λi' j' b hi' hj' hb hb'=>?_⟩
      ·have zn:i'<es.length\/i'=es.length:=by simp at hi';omega
       rcases zn with zn|rfl
       ·rw[ami i' zn] at hb;rcases hblk b hb' with h|h
        ·exact (aq4 i' b zn hb).2 h
        ·have:=(aq4 i' b zn hb).1;omega
       ·rw[aib] at hb;rcases hblk b hb' with h|h
        ·exact (aic b hb).2.1 h
        ·have:=(aic b hb).1;omega
      ·have zn:i'<es.length\/i'=es.length:=by simp at hi';omega
       have auh:j'<es.length\/j'=es.length:=by simp at hj';omega
       rcases zn with zn|rfl<;>rcases auh with auh|rfl
       ·rw[ami i' zn] at hb;rw[ami j' auh] at hb';exact q7.2 i' j' b zn auh hb hb'
       ·rw[ami i' zn] at hb;rw[aib] at hb';exact absurd hb ((aic b hb').2.2 i' zn)
       ·rw[aib] at hb;rw[ami j' auh] at hb';exact absurd hb' ((aic b hb).2.2 j' auh)
       ·rfl
    ·have:Chunk.row (rv+1) e' sz' []=c:=by simpa[bh,Ne.symm hne] using hc
     subst this;exact⟨.slice none 0 0,[],hLr,⟨by simp,.inl ⟨rfl,rfl⟩⟩,c3,by simp,by simp,by simp,λb hb=>by cases hb⟩
   ·rcases hz with rfl|rfl
    ·rw[hLi] at hl;simp only[cA] at hl;subst hl;rcases hb with hb|⟨i',hi',hb⟩
     ·exact (hblk b hb).imp (λh=>⟨z,_,.inl rfl,q1,.inl h⟩) id
     ·have zn:i'<es.length\/i'=es.length:=by omega
      rcases zn with zn|rfl
      ·rw[ami i' zn] at hb;exact .inl ⟨z,_,.inl rfl,q1,.inr ⟨i',zn,hb⟩⟩
      ·rw[aib] at hb;exact .inl ⟨r,_,.inr rfl,c1,hb⟩
    ·rw[hLr] at hl;simp only[cA] at hl;subst hl;cases hb
   ·have hno:∀lz,L' r=some lz->¬ lz.has b:=λlz h2 h3=>by rw[hLr] at h2;simp only[cA] at h2;subst h2;cases h3
    rcases hz with rfl|rfl<;>rcases hz' with rfl|rfl
    ·rfl
    ·exact (hno _ hl' hb').elim
    ·exact (hno _ hl hb).elim
    ·rfl
theorem apu{o:Oper}{W:Env->aA->Prop}{env:Env}{H:aA}{kf:FuncId}{eS:List AV}{ps:List PV}{id v k:Nat}{e:TypeId}{sz:Nat}{e':TypeId}{sz':Nat}{es es':List (List PV)}(f:Nat->Nat)
  (c:∀dr:Nat->Value,(∀i,i<es.length->(dr i).oneCell'=true)->kJ P kf v e sz (fG k dr es) ps λa c=>a = .row 1000000 (v+1)/\c=some (.row (v+1) e sz (fG k (λi=>dr (f i)) es')))
  (hf:∀i,i<es'.length->f i<es.length/\es'[i]? = es[f i]?) (hinj:∀i j,i<es'.length->j<es'.length->f i=f j->i=j)
  (ha:dP o (ev env)=some (kf,.eP id v :: eS)) (hH:H id=some (.deep v e sz k e' sz' es)) (he:eC (gR (agZ H id)) eS=some (ps,false))
  (hW:W (cL env o.dst (.eP id (v+1))) (bh H id (.deep (v+1) e sz k e' sz' es'))):jF P o W env H:=.inr (.inr (.inr λC I L tm w σ hs hσ=>by
 obtain⟨bI,us,dr,q1,q2,q3,q4,q5,q6,q7⟩:=hs.chunk id _ hH;have hone:∀i,i<es.length->(dr i).oneCell'=true:=λi hi=>by obtain⟨l,us',_,_,m3⟩:=q6 i _ (getElem?_eq_getElem hi);exact m3
 have hc:=c dr hone;obtain⟨vs0,hr,hu⟩:=qA ha hc.1 hσ w;refine⟨kf,_,hr,?_⟩;cases vs0 with
 |nil=>have:=hu.1;simp at this
 |cons u0 vs =>
  have hu0:=hu.2 0 u0 _ rfl rfl;have aI4:u0=bI:=by
   cases hu0 with
   |eP _ _ _ v1 jD _ _ rm n1 hl hle hh h1=>rw[q1] at hl;simp only[cA,Loc.deep.injEq] at hl;obtain⟨_,e2,_⟩:=hl;subst e2;exact hh (by assumption)
  subst aI4;have aaL:oZ I L vs eS:=⟨by simpa using hu.1,λj u c hj hc=>hu.2 (j+1) u c hj hc⟩;obtain⟨k1,_,k3⟩:=kB (pq hs (afj H id) (lZ hs.mem) ((rM L w).g _)) eS ps false he vs aaL.1 aaL.2;refine (hc.2 C.B I w u0 us vs hs.leB hs.mem q2 q3 ⟨k1,k3 rfl⟩).mono λx w' ⟨u,a,H',I',L1,m1,⟨m2,m2'⟩,m3,m4⟩=>?_
  subst m2;obtain⟨eX,us',g1,g2,g3,g4,g5,g6,g7⟩:=m4.chunk 1000000 _ m2';have ayK:eX.oneCell'=true:=by rcases g2.2 with ⟨rfl,_⟩|⟨_,_,_,rfl,_⟩<;>rfl
  have hue:u=eX:=by
   cases m3 with
   |row _ _ _ v2 avC sz2 hl hle hh h1=>rw[g1] at hl;simp only[cA,Loc.row.injEq] at hl;obtain⟨e1,e2,_⟩:=hl;subst e2;exact hh e1.symm.symm
  subst hue;have hfr:∀b,b<w.heap.size->u0.ownBlock≠some b->w'.heap[b]? = w.heap[b]?/\∀o,I' b o=I b o:=λb hb hn=>⟨m4.frame b hb hn,λo=>m4.lY b hb hn o⟩
  have hblk:∀b,u.ownBlock=some b->u0.ownBlock=some b\/(w.heap.size<=b/\b<w'.heap.size):=λb hb=>by
   rcases m4.jA 1000000 _ b g1 hb with h|h
   ·exact .inr ⟨h,(m4.fM 1000000 _ b g1 hb).2⟩
   ·exact .inl h
  have hin:∀i b,i<es.length->(dr i).ownBlock=some b->b<w.heap.size/\u0.ownBlock≠some b:=λi b hi hb=>⟨(hs.fM id _ b q1 (.inr ⟨i,hi,hb⟩)).2,q7.1 i b hi hb⟩
  let lD:Nat->Value:=λi=>dr (f i)
  let L':bA:=cg L id (.deep (v+1) u sz sz' lD es'.length);have hLi:L' id=some (.deep (v+1) u sz sz' lD es'.length):=by simp[L',cg]
  have hle':dQ L L':=λj=>by
   by_cases e1:j=id
   ·subst e1;rw[q1];exact⟨v+1,u,lD,es'.length,hLi,by omega,λe=>by omega⟩
   ·have:L' j=L j:=by simp[L',cg,e1]
    rw[this];exact dQ.refl L j
  refine⟨u,I',L',.eP id (v+1),_,m1,hW,.eP _ _ _ (v+1) u sz sz' lD es'.length hLi (le_refl _) (λ_=>rfl) ayK,?_⟩;refine hs.change m4.below (λz=>z=id) (λb hb hnb=>hfr b hb λh2=>hnb ⟨id,_,rfl,q1,.inl h2⟩) hle' m4.kX m4.mem (λz hz=>⟨by simp[L',cg,hz],by simp[bh,hz]⟩) (λz l hz hl=>⟨_,by simp[bh,hz];rfl⟩) (λz c hz hc=>?_) (λz l b hz hl hb=>?_) (λz z' _ _ _ hz hz' _ _ _ _=>by rw[hz,hz'])
  ·subst hz;have:Chunk.deep (v+1) e sz k e' sz' es'=c:=by simpa[bh] using hc
   subst this;refine⟨u,us',lD,hLi,⟨g2,g3,g4,g5,g6,g7⟩,ayK,q4,λy hy=>?_,λi x hx=>?_,λi b hi hb=>?_,λi j b hi hj hb hb'=>?_⟩
   ·obtain⟨i,hi⟩:=mem_iff_getElem?.1 hy;rw[(hf i (List.getElem?_eq_some_iff.1 hi).1).2] at hi;exact q5 y (mem_of_getElem? hi)
   ·have hi:=(List.getElem?_eq_some_iff.1 hx).1;rw[(hf i hi).2] at hx;obtain⟨l,us2,r1,r2,r3⟩:=q6 (f i) x hx;exact⟨l,us2,r1,r2.keep m4.kX λb hb=>hfr b (hin (f i) b (hf i hi).1 hb).1 (hin (f i) b (hf i hi).1 hb).2,r3⟩
   ·intro hb';have h2:=hin (f i) b (hf i hi).1 hb;rcases hblk b hb' with h|h
    ·exact h2.2 h
    ·omega
   ·exact hinj i j hi hj (q7.2 (f i) (f j) b (hf i hi).1 (hf j hj).1 hb hb')
  ·subst hz;rw[hLi] at hl;simp only[cA] at hl;subst hl;rcases hb with hb|⟨i,hi,hb⟩
   ·exact (hblk b hb).imp (λh=>⟨z,_,rfl,q1,.inl h⟩) id
   ·exact .inl ⟨z,_,rfl,q1,.inr ⟨f i,(hf i hi).1,hb⟩⟩))
mutual
def lN(id:Nat):AV->AV
 | .eP i v=>if i=id then .row i v else .eP i v
 | .kH i v j o=>if i=id then .dead else .kH i v j o
 | .kI i v j=>if i=id then .dead else .kI i v j
 | .nv i v j k o=>if i=id then .dead else .nv i v j k o
 | .row i v=>if i=id then .dead else .row i v
 | .jo i v j o=>if i=id then .dead else .jo i v j o
 | .ptr i o=>if i=id then .dead else .ptr i o
 | .bsl i n=>if i=id then .dead else .bsl i n
 | .iM i v o n m sz=>if i=id then .dead else .iM i v o n m sz
 | .agg cs=>.agg (nP id cs)
 | .dW cs=>.dW (nP id cs)
 | .iK f a b=>.iK f (nP id a) (nP id b)
 |x=>x
def nP(id:Nat):List AV->List AV
 | []=>[]
 |a :: r=>lN id a :: nP id r
end
theorem rW{id:Nat} : ∀ {cs:List AV} {j:Nat} {c:AV},(nP id cs)[j]? = some c->∃d,cs[j]? = some d/\c=lN id d
 | [],j,c,h=>by simp[nP] at h
 |a :: r,0,c,h=>by unfold nP at h;simp only[getElem?_cons_zero,cA] at h;exact⟨a,rfl,h.symm⟩
 |a :: r,j+1,c,h=>by unfold nP at h;exact rW (cs:=r) (by simpa using h)
theorem nE{id:Nat} : ∀cs:List AV,(nP id cs).length=cs.length
 | []=>rfl
 |a :: r=>by unfold nP;simp[nE r]
def aid(id:Nat):Chunk->Chunk
 | .box cs=>.box (nP id cs)
 | .deep v e sz k e' sz' es=>.deep v e sz k e' sz' es
 |c=>c
def amj(id:Nat):Option Chunk->Option Chunk
 |some c=>some (aid id c)
 |none=>none
def aq6(id:Nat)(env:Env):Env:=λi=>lN id (env i)
def aBK(c:Option Chunk):Option Chunk:=match c with
 |some (.deep v e sz _ _ _ es)=>some (.row v e sz es)
 |c=>c
def aaS(id:Nat)(H:aA):aA:=λi=>if i=id then aBK (H i) else amj id (H i)
theorem dR.flat{J:Mem}{id v:Nat}{bI:Value}{sz sz':Nat}{dr:Nat->Value}{n:Nat}(hl:L id=some (.deep v bI sz sz' dr n))(sJ:I.sub J){u:Value}{a:AV}(h:dR I L u a):dR J (cg L id (.row v bI sz)) u (lN id a):=by
 have kr:∀i,i≠id->cg L id (.row v bI sz) i=L i:=λi hi=>by simp[cg,hi]
 induction h with
 |p u x h=>unfold lN;exact .p u x (h.mono sJ)
 |row u i bf v1 jD sz1 lS hle h h1 =>
  unfold lN;split
  ·exact .dead _
  ·exact .row u i bf v1 jD sz1 ((kr i (by assumption)).trans lS) hle h h1
 |ptr i b off lS =>
  unfold lN;split
  ·exact .dead _
  ·exact .ptr i b off ((kr i (by assumption)).trans lS)
 |jo u i bf v1 j off jD sz1 lS hle h h1 =>
  unfold lN;split
  ·exact .dead _
  ·exact .jo u i bf v1 j off jD sz1 ((kr i (by assumption)).trans lS) hle h h1
 |bsl i b n lS =>
  unfold lN;split
  ·exact .dead _
  ·exact .bsl i b n ((kr i (by assumption)).trans lS)
 |iM a i bf v1 off n m c jD sz1 lS hle hn hm hz h =>
  unfold lN;split
  ·exact .dead _
  ·exact .iM a i bf v1 off n m c jD sz1 ((kr i (by assumption)).trans lS) hle hn hm hz h
 |agg us cs lS _ hone ih=>unfold lN;refine .agg us _ (by rw[nE];exact lS) (λj u c hu hc=>?_) hone;obtain⟨d,hd,rfl⟩:=rW hc;exact ih j u d hu hd
 |dW us cs lS _ ih=>unfold lN;refine .dW us _ (by rw[nE];exact lS) (λj u c hu hc=>?_);obtain⟨d,hd,rfl⟩:=rW hc;exact ih j u d hu hd
 |iK fn us vs fs cs lS hl2 _ _ ih ih' =>
  unfold lN;refine .iK fn us vs _ _ (by rw[nE];exact lS) (by rw[nE];exact hl2) (λj u c hu hc=>?_) (λj u c hu hc=>?_)
  ·obtain⟨d,hd,rfl⟩:=rW hc;exact ih j u d hu hd
  ·obtain⟨d,hd,rfl⟩:=rW hc;exact ih' j u d hu hd
 |eP u i bf v1 jD s1 s2 rm n1 lS hle h h1 =>
  unfold lN;split
  ·rename_i e;subst e;rw[hl] at lS;simp only[cA,Loc.deep.injEq] at lS;obtain⟨e1,e2,e3,_⟩:=lS;subst e1 e2 e3;exact .row u i bf v bI sz (by simp[cg]) hle h h1
  ·exact .eP u i bf v1 jD s1 s2 rm n1 ((kr i (by assumption)).trans lS) hle h h1
 |kH u i bf v1 j off jD s1 s2 rm n1 lS hle h h1 =>
  unfold lN;split
  ·exact .dead _
  ·exact .kH u i bf v1 j off jD s1 s2 rm n1 ((kr i (by assumption)).trans lS) hle h h1
 |kI u i bf v1 j jD s1 s2 rm n1 lS hle h h1 =>
  unfold lN;split
  ·exact .dead _
  ·exact .kI u i bf v1 j jD s1 s2 rm n1 ((kr i (by assumption)).trans lS) hle h h1
 |nv u i bf v1 j m off jD s1 s2 rm n1 lS hle h h1 =>
  unfold lN;split
  ·exact .dead _
  ·exact .nv u i bf v1 j m off jD s1 s2 rm n1 ((kr i (by assumption)).trans lS) hle h h1
 |dead u=>unfold lN;exact .dead u
theorem ayL{w:World}{B:Nat}{bI:Value}{e e':TypeId}{sz k sz':Nat}{es:List (List PV)}{us:List Value}{dr:Nat->Value}{J:Mem}(h:sE w B I bI e sz (fG k dr es) us)(hall:∀x∈es,x.length=sz)
  (hin:avB w B I k e' sz' dr es) (sJ:I.sub J) (hJ:∀b i,i<es.length->(dr i).ownBlock=some b->∀o v,w.cell? ⟨b,o,none⟩=some v->J b o=some v) :
  ∀ (j:Nat) u c,us[j]? = some u->es.flatten[j]? = some c->VR J u c:=λj u c hu hc=>by
 have hfl:=bH hall;have hjl:j<es.length * sz:=by rw[<-hfl];exact (List.getElem?_eq_some_iff.1 hc).1
 have hpos:=h.pos;have hi:j / sz<es.length:=(Nat.div_lt_iff_lt_mul hpos).2 hjl;have hmm:j % sz<sz:=mod_lt _ hpos;have hj:j=j / sz * sz+j % sz:=(div_add_mod' j sz).symm;generalize j / sz=i at *;generalize j % sz=m at *;subst hj;rw[iu hall i m hi hmm] at hc;have xN:=iu h.all i m (by rw[fO];exact hi) hmm;have hg:(fG k dr es).getD i []=(es.getD i []).set k (.val (dr i)):=by rw[getD_eq_getElem?_getD,ug];simp[hi]
 rw[hg] at xN;by_cases hk:k=m
 ·subst hk;have hx:es[i]? = some (es.getD i []):=by simp[hi]
  obtain⟨l,us',q1,q2,q3⟩:=hin i _ hx;rw[q1] at hc;simp only[cA] at hc;subst hc;have hxl:(es.getD i []).length=sz:=hall _ (mem_of_getElem? hx);rw[getElem?_set,if_pos rfl,if_pos (by rw[hxl];exact hmm)] at xN;have:=h.val _ u _ hu xN;cases this;exact q2.vrJ sJ λb hb=>hJ b i hi hb
 ·rw[getElem?_set,if_neg hk,hc] at xN;exact (h.val _ u c hu xN).mono sJ
open Classical in
noncomputable def Mem.inner(I:Mem)(w:World)(dr:Nat->Value)(n:Nat):Mem:=λb o=>if ∃i,i<n/\(dr i).ownBlock=some b then w.cell? ⟨b,o,none⟩ else I b o
theorem ku{env:Env}{H:aA}(id v:Nat)(e:TypeId)(sz k:Nat)(e':TypeId)(sz':Nat)(es:List (List PV))(hid:id<1000000)(hH:H id=some (.deep v e sz k e' sz' es)):dx env H (aq6 id env) (aaS id H):=λC I L tm w hs=>by
 obtain⟨bI,us,dr,q1,q2,q3,q4,q5,q6,q7⟩:=hs.chunk id _ hH;have hL0:C.L0 id=none:=by
  cases h:C.L0 id with
  |none=>rfl
  |some l=>have:=C.hL0 id l h;omega
 let J:Mem:=I.inner w dr es.length;have aDB:∀i b o,i<es.length->(dr i).ownBlock=some b->J b o=w.cell? ⟨b,o,none⟩:=λi b o hi hb=>by show I.inner w dr es.length b o=_;unfold Mem.inner;rw[if_pos ⟨i,hi,hb⟩]
 have aek:∀b o,(¬ ∃i,i<es.length/\(dr i).ownBlock=some b)->J b o=I b o:=λb o hn=>by show I.inner w dr es.length b o=_;unfold Mem.inner;rw[if_neg hn]
 have sJ:I.sub J:=λb o u hu=>by
  by_cases h:∃i,i<es.length/\(dr i).ownBlock=some b
  ·obtain⟨i,hi,hb⟩:=h;rw[aDB i b o hi hb];exact hs.mem b o u hu
  ·rw[aek b o h];exact hu
 have hJw:J.inW w:=λb o u hu=>by
  by_cases h:∃i,i<es.length/\(dr i).ownBlock=some b
  ·obtain⟨i,hi,hb⟩:=h;rw[aDB i b o hi hb] at hu;exact hu
  ·rw[aek b o h] at hu;exact hs.mem b o u hu
 have ajW:∀i l b,i≠id->L i=some l->l.has b->¬ ∃j,j<es.length/\(dr j).ownBlock=some b:=λi l b hi hl hb ⟨j,hj,hjb⟩=>hi (hs.apart i id l _ b hl q1 hb (.inr ⟨j,hj,hjb⟩))
 refine⟨J,cg L id (.row v bI sz),?_⟩;have kr:∀i,i≠id->cg L id (.row v bI sz) i=L i:=λi hi=>by simp[cg,hi]
 exact
 {below:=hs.below
  mem:=hJw
  kX:=Mem.lX hs.kX sJ
  lY:=λb hb hf o=>by
   rw[aek b o λ⟨i,hi,hib⟩=>?_]
   ·exact hs.lY b hb hf o
   ·rcases hs.jA id _ b q1 (.inr ⟨i,hi,hib⟩) with h|h
    ·omega
    ·exact hf h
  frame:=hs.frame
  loc:=λi=>by
   by_cases hi:i=id
   ·subst hi;rw[hL0];trivial
   ·rw[kr i hi];exact hs.loc i
  jA:=λi l b hl hb=>by
   by_cases hi:i=id
   ·subst hi;have:Loc.row v bI sz=l:=by simpa[cg] using hl
    subst this;exact hs.jA i _ b q1 (.inl hb)
   ·rw[kr i hi] at hl;exact hs.jA i l b hl hb
  size:=hs.size
  env:=λt=>(hs.env t).flat q1 sJ
  dom:=λi l hl=>by
   by_cases hi:i=id
   ·subst hi;exact⟨.row v e sz es,by unfold aaS;rw[if_pos rfl,hH];rfl⟩
   ·rw[kr i hi] at hl;obtain⟨c,hc⟩:=hs.dom i l hl;exact⟨aid id c,by unfold aaS;rw[if_neg hi,hc];rfl⟩
  chunk:=λi c hc=>by
   by_cases hi:i=id
   ·subst hi;unfold aaS at hc;rw[if_pos rfl,hH] at hc;simp only[aBK,cA] at hc;subst hc;refine⟨bI,us,by simp[cg],?_,q2.pos,q5,λj u c hu hc=>?_,q2.one,λb hb o=>?_⟩
    ·have:=q2.own;rw[fO] at this;exact this
    ·exact ayL q2 q5 q6 sJ (λb j hj hb o u hu=>by rw[aDB j b o hj hb];exact hu) j u c hu hc
    ·rw[aek b o λ⟨j,hj,hjb⟩=>q7.1 j b hj hjb hb];exact q2.free b hb o
   ·unfold aaS at hc;rw[if_neg hi] at hc;cases hci:H i with
    |none=>rw[hci] at hc;cases hc
    |some c0 =>
     rw[hci] at hc;simp only[amj,cA] at hc;subst hc;have h0:=hs.chunk i c0 hci;cases c0 with
     |box cs =>
      obtain⟨b,arr,e0,g1,g2,g3,g4,g5,g6⟩:=h0;refine⟨b,arr,e0,(kr i hi).trans g1,g2,by rw[nE];exact g3,λj u c hu hc=>?_,g5,λo=>?_⟩
      ·obtain⟨d,hd,rfl⟩:=rW hc;exact (g4 j u d hu hd).flat q1 sJ
      ·rw[aek b o (ajW i _ b hi g1 rfl)];exact g6 o
     |row v1 e1 s1 es1=>obtain⟨h1,us1,g1,g2,g3,g4,g5,g6,g7⟩:=h0;exact⟨h1,us1,(kr i hi).trans g1,g2,g3,g4,λj u c hu hc=>(g5 j u c hu hc).mono sJ,g6,λb hb o=>by rw[aek b o (ajW i _ b hi g1 hb)];exact g7 b hb o⟩
     |shut v1 es1=>obtain⟨h1,s1,g1,g2,g3⟩:=h0;exact⟨h1,s1,(kr i hi).trans g1,g2.mono sJ,g3⟩
     |tail v1 e1 s1 es1=>obtain⟨g,o0,cap,arr,g1,g2,g3,g4,g5,g6,g7,g8⟩:=h0;exact⟨g,o0,cap,arr,(kr i hi).trans g1,g2,g3,g4,g5,g6,g7.mono sJ,λj a b=>by rw[aek g j (ajW i _ g hi g1 rfl)];exact g8 j a b⟩
     |deep v1 e1 s1 k1 e2 s2 es1 =>
      obtain⟨h1,us1,rm,g1,g2,g3,g4,g5,g6,g7⟩:=h0;have hk:∀b,(Loc.deep v1 h1 s1 s2 rm es1.length).has b->w.heap[b]? = w.heap[b]?/\∀o,J b o=I b o:=λb hb=>⟨rfl,λo=>aek b o (ajW i _ b hi g1 hb)⟩
      refine⟨h1,us1,rm,(kr i hi).trans g1,g2.keep sJ λb hb=>hk b (.inl hb),g3,g4,g5,λj x hx=>?_,g7⟩;obtain⟨l,us2,m1,m2,m3⟩:=g6 j x hx;exact⟨l,us2,m1,m2.keep sJ λb hb=>hk b (.inr ⟨j,(List.getElem?_eq_some_iff.1 hx).1,hb⟩),m3⟩
  fM:=λi l b hl hb=>by
   by_cases hi:i=id
   ·subst hi;have:Loc.row v bI sz=l:=by simpa[cg] using hl
    subst this;exact hs.fM i _ b q1 (.inl hb)
   ·rw[kr i hi] at hl;exact hs.fM i l b hl hb
  apart:=λi j li lj b hi hj rK vq=>by
   by_cases ei:i=id<;>by_cases ej:j=id
   ·rw[ei,ej]
   ·subst ei;have:Loc.row v bI sz=li:=by simpa[cg] using hi
    subst this;rw[kr j ej] at hj;exact hs.apart i j _ lj b q1 hj (.inl rK) vq
   ·subst ej;have:Loc.row v bI sz=lj:=by simpa[cg] using hj
    subst this;rw[kr i ei] at hi;exact hs.apart i j li _ b hi q1 rK (.inl vq)
   ·rw[kr i ei] at hi;rw[kr j ej] at hj;exact hs.apart i j li lj b hi hj rK vq }
end Go.cv
namespace Go.cv
open Go.RowKit
variable{P:Program}{I:Mem}{L:bA}
theorem amk(w:World)(dT sT ty e:TypeId)(b o dLen dCap:Nat)(cur:Array Value)(a:Addr)(sLen sCap:Nat)(cs:List Value)(hg:w.heap[b]? = some (.cells cur e (0,0)))
  (hu:P.underlying dT=some (.slice e)) (hs:bl P e=some 1) (hn:cs.length=Nat.min sLen dLen)
  (hsrc:∀j v,cs[j]? = some v->w.cell? (a.add j)=some v) (hc:o+cs.length<=cur.size) (h1:∀v∈cs,v.oneCell'=true) :
  (Builtin.copy_ #[dT,sT] ty #[.slice (some ⟨b,o,none⟩) dLen dCap,.slice (some a) sLen sCap]).run P w = .ok (goInt cs.length) (w.setRow b (splice cur.toList o cs).toArray):=by
 have hl:=run_loadCells_list (P:=P) w a cs hsrc;have hst:=run_storeCells_at (P:=P) b o e cs 0 cur w hg (by omega) h1;simp only[add_zero] at hst;cases hq:P.info? e with
 |none=>simp[bl,hq] at hs
 |some i =>
  have hi:i.size=1:=by simpa[bl,hq] using hs
  simp[Builtin.copy_,run_underlying hu,Builtin.lenOf,Builtin.firstCells,sizeOf,typeInfo,hq,hi,<-hn,hl,hst,splice]
theorem acr{α:Type}(ps:List α):(ps.map λp=>[p]).flatten=ps:=by
 induction ps with
 |nil=>rfl
 |cons a r ih=>rw[map_cons,flatten_cons,ih];rfl
theorem af2{α:Type}{es:List (List α)}(h:∀x∈es,x.length=1)(o:Nat)(ps:List α):(splice es o (ps.map λp=>[p])).flatten=splice es.flatten o ps:=by
 have h1:∀ (n:Nat),(es.take n).flatten=es.flatten.take n/\(es.drop n).flatten=es.flatten.drop n:=by
  intro n
  induction es generalizing n with
  |nil=>simp
  |cons a r ih =>
   obtain⟨p,rfl⟩:∃p,a=[p]:=length_eq_one_iff.1 (h a mem_cons_self);cases n with
   |zero=>simp
   |succ n=>have:=ih (λx hx=>h x (mem_cons_of_mem _ hx)) n;simpa using this
 unfold splice;rw[flatten_append,flatten_append,acr,(h1 o).1,length_map,(h1 _).2]
theorem af3{C:Ctx}{env:Env}{H:aA}{tm:Array Value}{w:World}(hs:gQ C env H I L tm w){op:Oper}{σ:Operand->Value}(x y:Operand)(t1 t2:TypeId)(hop:op.op = .call ⟨.builtin .copy,#[x,y],#[t1,t2]⟩)
  {id v:Nat} {e:TypeId} {es:List (List PV)} (hH:H id=some (.row v e 1 es)) {g n cap:Nat} (hL:L id=some (.row v (.slice (some ⟨g,0,none⟩) n cap) 1)) (hu:P.underlying t1=some (.slice e)) (hsz:bl P e=some 1)
  {o dLen dCap:Nat} (hx:σ x = .slice (some ⟨g,o,none⟩) dLen dCap) {a:Addr} {sLen sCap:Nat} (hy:σ y = .slice (some a) sLen sCap) (cs:List Value) (ps:List PV) (hn:cs.length=Nat.min sLen dLen) (hps:ps.length=cs.length) (ho:o+cs.length<=es.length)
  (hsrc:∀j v,cs[j]? = some v->w.cell? (a.add j)=some v) (h1:∀v∈cs,v.oneCell'=true) (hv:∀ (j:Nat) u c,cs[j]? = some u->ps[j]? = some c->VR I u c) :
  nT P C H I L w ((execOp σ op).run P w) (.p (.val (.int .i64 (cs.length:Nat)))) (bh H id (.row v e 1 (splice es o (ps.map λp=>[p])))):=by
 obtain⟨bI,us,q1,q2,q3,q4,q5,q6,q7⟩:=hs.chunk id _ hH;rw[hL] at q1;simp only[cA,Loc.row.injEq,true_and,and_true] at q1;subst q1;rcases q2.2 with ⟨ajb,_⟩|⟨g',cp,cur,heq,hbg,hgg,hnc,hcm,hcz,jN⟩
 ·cases ajb
 simp only[Value.slice.injEq,cA,Addr.mk.injEq] at heq;obtain⟨⟨e3,_⟩,e4,e5⟩:=heq;subst e3 e4 e5;simp only[mul_one] at hcz jN;have hr:=amk (P:=P) w t1 t2 op.type e g o dLen dCap cur a sLen sCap cs hgg hu hsz hn hsrc (by omega) h1;have hs':∀w,(execOp σ op).run P w=((Builtin.copy_ #[t1,t2] op.type #[σ x,σ y]).run P w).andThen λu w'=>.ok (.value u) w':=λw=>by unfold execOp;rw[hop];simp[resolve,invoke,builtin,Result.andThen]
 refine⟨_,_,I,cg L id (.row v (.slice (some ⟨g,0,none⟩) es.length cap) 1),.inl (by rw[hs',hx,hy,hr];rfl),.p _ _ (.val _ rfl),λenv tm hs=>?_⟩;refine hs.turn (pn _ (hs.fM id _ g hL rfl).1) hL (λk hk hne=>setRow_other w g k _ (λe=>hne (by rw[e];rfl))) (dQ.wR hL) (λk hk=>q7 k hk) _ ?_ (λk hk=>.inl hk);have hcl:us.length=es.length:=by have:=q2.1;omega
 have hfl:=bH q4;have hpl:(ps.map λp=>[p]).length=cs.length:=by rw[length_map,hps]
 have xL:(splice es o (ps.map λp=>[p])).length=es.length:=dD (by omega);have htk:(splice cur.toList o cs).take es.length=splice us o cs:=by rw[vH (by omega) (by simp;omega),jN]
 refine⟨.slice (some ⟨g,0,none⟩) es.length cap,splice us o cs,by simp[cg],⟨?_,.inr ⟨g,cap,(splice cur.toList o cs).toArray,by rw[xL],hbg,setRow_heap w g cur _ e _ hgg,by rw[xL];exact hnc,hcm,?_,?_⟩⟩,q3,?_,?_,uN q6 h1,q7⟩
 ·rw[xL,dD (by omega),mul_one];exact hcl
 ·simp only[size_toArray];rw[dD (by simp;omega)];simp;omega
 ·rw[xL,mul_one];simpa using htk
 ·intro z hz;rcases mem_append.1 hz with h|h
  ·rcases mem_append.1 h with h|h
   ·exact q4 z (mem_of_mem_take h)
   ·obtain⟨p,_,rfl⟩:=mem_map.1 h;rfl
  ·exact q4 z (mem_of_mem_drop h)
 ·rw[af2 q4];intro j u c hu hc;rw[afY (by omega)] at hu;rw[afY (by omega)] at hc;rw[hps] at hc;split at hu
  ·rename_i h;rw[if_pos h] at hc;exact hv _ u c hu hc
  ·rename_i h;rw[if_neg h] at hc;exact q5 _ u c hu hc
theorem me{o:Option Tmp}{xs:Array Operand}{ts:Array TypeId}{ty:TypeId}{pos:String}{af:Array Edge}{g:Option (Nat×Bool)}{ρ:Operand->AV}{H:aA} : gC P ⟨o,.call ⟨.builtin .copy,xs,ts⟩,ty,pos,af,g⟩ ρ H=none:=by simp[gC,oc,rL,mO,xG,yw,wK,xH,sI]
theorem aBL{o:Oper}{W:Env->aA->Prop}{env:Env}{H:aA}(t1 t2:TypeId)(x y:Operand)(id v:Nat)(e:TypeId)(es:List (List PV))(ps:List PV)(hop:o.op = .call ⟨.builtin .copy,#[x,y],#[t1,t2]⟩)(hu:P.underlying t1=some (.slice e))(hsz:bl P e=some 1)
  (hx:ev env x = .row id v) (hy:ev env y = .p (.aU (ps.map λp=>[p]))) (hH:H id=some (.row v e 1 es)) (h0:0<ps.length) (hl:ps.length<=es.length)
  (hW:W (cL env o.dst (.p (.val (.int .i64 (ps.length:Nat))))) (bh H id (.row v e 1 (splice es 0 (ps.map λp=>[p]))))):jF P o W env H:=by
 refine .inr (.inr (.inl ⟨_,_,hW,λC I L tm w σ hs hσ=>?_⟩));have hxv:=hσ x;have hyv:=hσ y;rw[hx] at hxv;rw[hy] at hyv;obtain⟨bI,us,q1,q2,q3,q4,q5,q6,q7⟩:=hs.chunk id _ hH;rcases q2.2 with ⟨_,hn⟩|⟨g,cp,cur,heq,hbg,hgg,hnc,hcm,hcz,jN⟩
 ·omega
 subst heq;have e1:σ x = .slice (some ⟨g,0,none⟩) es.length cp:=by
  generalize σ x=ux at hxv;cases hxv with
  |row _ _ _ v1 jD sz1 lS hle hh hone=>rw[q1] at lS;simp only[cA,Loc.row.injEq] at lS;obtain⟨r1,r2,r3⟩:=lS;subst r1 r2 r3;exact hh rfl
 obtain⟨ao,cap,cs,e2,hcl,hcv,aFi,aI5,aKx⟩:=hyv.nM.aBH;rw[acr] at hcl hcv;have hne:cs≠[]:=λe=>by subst e;simp at hcl;omega
 rcases aI5 with h|⟨b,off,rfl,hI⟩
 ·exact absurd h hne
 rw[<-hcl];refine af3 hs x y t1 t2 hop hH q1 hu hsz e1 e2 cs ps ?_ hcl.symm (by omega) (λj u hj=>?_) aFi hcv
 ·rw[length_map,hcl];exact (min_eq_left hl).symm
 ·rw[Addr.add_mid];exact hs.mem _ _ _ (hI j u hj)
theorem aBM{H:aA}{C:Ctx}{env:Env}{tm:Array Value}{w:World}(hs:gQ C env H I L tm w){id v:Nat}{e:TypeId}{es:List (List PV)}(hH:H id=some (.row v e 1 es))(h0:0<es.length) :
  ∃g cap,∃us:List Value,L id=some (.row v (.slice (some ⟨g,0,none⟩) es.length cap) 1)/\es.length<=cap/\us.length=es.length/\(∀ (j:Nat) u c,us[j]? = some u->es.flatten[j]? = some c->VR I u c)/\(∀u∈us,u.oneCell'=true)/\(∀ (j:Nat) u,us[j]? = some u->w.cell? ⟨g,j,none⟩=some u)/\(∀x∈es,x.length=1):=by
 obtain⟨bI,us,q1,q2,q3,q4,q5,q6,q7⟩:=hs.chunk id _ hH;rcases q2.2 with ⟨_,hn⟩|⟨g,cp,cur,heq,hbg,hgg,hnc,hcm,hcz,jN⟩
 ·omega
 subst heq;refine⟨g,cp,us,q1,hnc,by have:=q2.1;omega,q5,q6,λj u hu=>?_,q4⟩;rw[fP hgg];rw[<-jN,getElem?_take] at hu;split at hu
 ·simpa using hu
 ·cases hu
theorem dR.ajX{u:Value}{id v:Nat}{bI:Value}{sz:Nat}(h:dR I L u (.row id v))(hL:L id=some (.row v bI sz)):u=bI:=by
 cases h with
 |row _ _ _ v1 jD sz1 lS hle hh hone=>rw[hL] at lS;simp only[cA,Loc.row.injEq] at lS;obtain⟨r1,r2,r3⟩:=lS;subst r1 r2 r3;exact hh rfl
theorem w6{o:Oper}{σ:Operand->Value}{x:Operand}{v:Value}(hop:o.op = .move x)(hx:σ x=v)(w:World):(execOp σ o).run P w = .ok (.value v) w:=by unfold execOp;rw[hop];simp[hx]
theorem aml{o:Oper}{σ:Operand->Value}{t e:TypeId}{x lo:Operand}{g n cap m:Nat}(hop:o.op = .slice t x (some lo) none none)(ht:cG P t=some e)(hsz:bl P e=some 1)(hx:σ x = .slice (some ⟨g,0,none⟩) n cap)(hlo:σ lo = .int .i64 (m:Nat))(hm:m<=n)(hc:m<cap)(w:World) :
  (execOp σ o).run P w = .ok (.value (.slice (some ⟨g,m,none⟩) (n-m) (cap-m))) w:=by
 unfold execOp;rw[hop];simp only[map_some,map_none,hx,hlo];have hrun:(Instr.sliceAt t (.slice (some ⟨g,0,none⟩) n cap) (some (.int .i64 (m:Nat))) none none).run P w = .ok (sliced (some ⟨g,0,none⟩) m n cap 1) w:=by
  have h3:(m:Int)<=(n:Int):=by omega
  simp[Instr.sliceAt,Instr.slice,run_underlying (eO ht),Instr.sliceBounds,run_sliceBound,sliced,dL hsz,h3]
 have hd:sliced (some ⟨g,0,none⟩) m n cap 1 = .slice (some ⟨g,m,none⟩) (n-m) (cap-m):=by simp[sliced,Addr.add_mid];omega
 rw[run_lift,hrun,hd];rfl
theorem amm{o:Oper}{σ:Operand->Value}{t e:TypeId}{x hi:Operand}{g n cap m:Nat}(hop:o.op = .slice t x none (some hi) none)(ht:cG P t=some e)(hsz:bl P e=some 1)(hx:σ x = .slice (some ⟨g,0,none⟩) n cap)(hhi:σ hi = .int .i64 (m:Nat))(hm:m<=cap)(w:World) :
  (execOp σ o).run P w = .ok (.value (.slice (some ⟨g,0,none⟩) m cap)) w:=by
 unfold execOp;rw[hop];simp only[map_some,map_none,hx,hhi];have hrun:(Instr.sliceAt t (.slice (some ⟨g,0,none⟩) n cap) none (some (.int .i64 (m:Nat))) none).run P w = .ok (sliced (some ⟨g,0,none⟩) 0 m cap 1) w:=by
  have h3:(m:Int)<=(cap:Int):=by omega
  simp[Instr.sliceAt,Instr.slice,run_underlying (eO ht),Instr.sliceBounds,run_sliceBound,sliced,dL hsz,h3]
 have hd:sliced (some ⟨g,0,none⟩) 0 m cap 1 = .slice (some ⟨g,0,none⟩) m cap:=by simp[sliced,Addr.add_mid]
 rw[run_lift,hrun,hd];rfl
section
variable{ops:Array Oper}{Q:Exit->Act->World->Prop}{C:Ctx}{env:Env}{H:aA}{tm:Array Value}{w:World}{fuel:Nat}{listed:Array Bool}
theorem xW(i:Nat)(o:Oper)(v:Value)(hi:ops[i]? = some o)(hsel:Region.noSelect ops=true)(hf:Region.free .any ops listed i=true)(hr:(Region.ready .any ops listed).contains i=true)(hQ:∀c a w,¬ Q (.panic c) a w)
  (hg:lE ops o env=some true) (hd:uO C.n o.dst) (h1:v.oneCell'=true) (hs:gQ C env H I L tm w)
  (hy:∀σ:Operand->Value,(∀x,dR I L (σ x) (ev env x))->∀w,(execOp σ o).run P w = .ok (.value v) w)
  (hk:∀tm',gQ C (cL env o.dst (.p (.val v))) H I L tm' w->wpAny P .any ops Q fuel (listed.setIfInBounds i true) ⟨tm',[]⟩ w):wpAny P .any ops Q (fuel+1) listed ⟨tm,[]⟩ w:=by
 have e:(Act.put ⟨tm,[]⟩ o.dst v:Act)=⟨(Act.put ⟨tm,[]⟩ o.dst v).tmps,[]⟩:=by cases o.dst<;>rfl
 refine wpAny_take (v:=v) hi hsel hf hr (λc a w h=>absurd h (hQ c _ w)) (.inl ⟨mX hg hs,hy _ (λx=>qy hs [] x)⟩) ?_;rw[e];exact hk _ (hs.cL hd (.p _ _ (.val _ h1)) [])
theorem apv(i:Nat)(o:Oper){v:AV}{H':aA}(hi:ops[i]? = some o)(hr:Region.ready .any ops listed=[i])(hg:lE ops o env=some true)(hd:uO C.n o.dst)(hs:gQ C env H I L tm w)
  (hy:∀σ:Operand->Value,(∀x,dR I L (σ x) (ev env x))->nT P C H I L w ((execOp σ o).run P w) v H')
  (hk:∀I' L' tm' w',Fr C I L H w I' L' H' w'->gQ C (cL env o.dst v) H' I' L' tm' w'->wpAny P .any ops Q fuel (listed.setIfInBounds i true) ⟨tm',[]⟩ w'):wpAny P .any ops Q (fuel+1) listed ⟨tm,[]⟩ w:=by
 refine wpAny_all hr (by simp) λj hj=>?_
 have:j=i:=by simpa using hj
 subst this;unfold wpOp;rw[hi];simp only[];rw[if_pos (mX hg hs)];refine .inl ?_;unfold Oper.wp;refine (hy _ (λx=>qy hs [] x)).upon λu w' I' L' ha hf=>?_
 have e:(Act.put ⟨tm,[]⟩ o.dst u:Act)=⟨(Act.put ⟨tm,[]⟩ o.dst u).tmps,[]⟩:=by cases o.dst<;>rfl
 rw[e];exact hk I' L' _ w' hf ((hf env tm hs).cL hd ha [])
end
end Go.cv
namespace Go.cv
open Go.RowKit
variable{P:Program}{I:Mem}{L:bA}
theorem amn{α:Type}{sz:Nat}{es ns:List (List α)}(h:∀x∈es,x.length=sz)(hn:∀x∈ns,x.length=sz)(o:Nat)(ho:o+ns.length<=es.length):(splice es o ns).flatten=splice es.flatten (o * sz) ns.flatten:=by
 have h1:∀n,n<=es.length->(es.take n).flatten=es.flatten.take (n * sz)/\(es.drop n).flatten=es.flatten.drop (n * sz):=λn hn'=>by
  have e1:es.flatten=(es.take n).flatten++(es.drop n).flatten:=by rw[<-flatten_append,take_append_drop]
  have e2:(es.take n).flatten.length=n * sz:=by rw[bH (sz:=sz) λx hx=>h x (mem_of_mem_take hx),length_take,min_eq_left hn']
  rw[e1,<-e2,take_left,drop_left];exact⟨rfl,rfl⟩
 unfold splice;rw[flatten_append,flatten_append,(h1 o (by omega)).1,(h1 _ ho).2,bH hn,add_mul]
theorem ayM{C:Ctx}{env:Env}{H:aA}{tm:Array Value}{w:World}(hs:gQ C env H I L tm w){id v:Nat}{e:TypeId}{sz:Nat}{es ns:List (List PV)}(hH:H id=some (.row v e sz es)){g n cap:Nat}(hL:L id=some (.row v (.slice (some ⟨g,0,none⟩) n cap) sz))
  {o:Nat} (ho:o+ns.length<=es.length) (hns:∀x∈ns,x.length=sz) {cs:List Value} (hcl:cs.length=ns.length * sz) (h1:∀v∈cs,v.oneCell'=true) (hv:∀ (j:Nat) u c,cs[j]? = some u->ns.flatten[j]? = some c->VR I u c) :
  ∃cur,w.heap[g]? = some (.cells cur e (0,0))/\(∀j,j<es.length * sz->(cur[j]?).isSome=true)/\o * sz+cs.length<=cur.size/\Fr C I L H w I L (bh H id (.row v e sz (splice es o ns))) (w.setRow g (splice cur.toList (o * sz) cs).toArray):=by
 obtain⟨bI,us,q1,q2,q3,q4,q5,q6,q7⟩:=hs.chunk id _ hH;rw[hL] at q1;simp only[cA,Loc.row.injEq,true_and,and_true] at q1;subst q1;rcases q2.2 with ⟨ajb,_⟩|⟨g',cp,cur,heq,hbg,hgg,hnc,hcm,hcz,jN⟩
 ·cases ajb
 simp only[Value.slice.injEq,cA,Addr.mk.injEq] at heq;obtain⟨⟨e3,_⟩,e4,e5⟩:=heq;subst e3 e4 e5;have hmul:(o+ns.length) * sz<=es.length * sz:=mul_le_mul_right _ ho;have aKy:es.length * sz<=cap * sz:=mul_le_mul_right _ hnc;rw[add_mul] at hmul;refine⟨cur,hgg,λj hj=>by rw[Array.getElem?_eq_getElem (by omega)];rfl,by omega,λenv tm hs=>?_⟩;have hcu:us.length=es.length * sz:=q2.1;have xL:(splice es o ns).length=es.length:=dD ho;have e0:cg L id (.row v (.slice (some ⟨g,0,none⟩) es.length cap) sz)=L:=by
  funext i;unfold cg;split
  ·rename_i h;rw[h,hL]
  ·rfl
 have key:=hs.turn (w':=w.setRow g (splice cur.toList (o * sz) cs).toArray) (l':=.row v (.slice (some ⟨g,0,none⟩) es.length cap) sz) (pn _ (hs.fM id _ g hL rfl).1) hL (λk hk hne=>setRow_other w g k _ (λe=>hne (by rw[e];rfl))) (dQ.wR hL) (λk hk=>q7 k hk) (.row v e sz (splice es o ns)) (by
  refine⟨.slice (some ⟨g,0,none⟩) es.length cap,splice us (o * sz) cs,by simp[cg],⟨?_,.inr ⟨g,cap,(splice cur.toList (o * sz) cs).toArray,by rw[xL],hbg,setRow_heap w g cur _ e _ hgg,by rw[xL];exact hnc,hcm,?_,?_⟩⟩,q3,?_,?_,uN q6 h1,q7⟩
  ·rw[xL,dD (by omega)];exact hcu
  ·simp only[size_toArray];rw[dD (by simp;omega)];simp;omega
  ·rw[xL];show (splice cur.toList (o * sz) cs).take (es.length * sz)=splice us (o * sz) cs;rw[vH (by omega) (by simp;omega),jN]
  ·intro z hz;rcases mem_append.1 hz with h|h
   ·rcases mem_append.1 h with h|h
    ·exact q4 z (mem_of_mem_take h)
    ·exact hns z h
   ·exact q4 z (mem_of_mem_drop h)
  ·rw[amn q4 hns o ho];exact abc (by rw[bH q4];exact hcu) (by rw[bH hns];exact hcl) q5 hv) (λk hk=>.inl hk)
 rw[e0] at key;exact key
theorem aq7{C:Ctx}{env:Env}{H:aA}{tm:Array Value}{w:World}(hs:gQ C env H I L tm w){id v:Nat}{e:TypeId}{sz:Nat}{es:List (List PV)}(hH:H id=some (.row v e sz es))(h0:0<es.length) :
  ∃g cap,L id=some (.row v (.slice (some ⟨g,0,none⟩) es.length cap) sz)/\es.length<=cap/\∀ {u:Value} {off n m sz':Nat},dR I L u (.iM id v off n m sz')->sz'=sz/\∃a,u = .slice a n (cap-off)/\n<=m/\m<=cap-off/\(a=none->cap-off=0)/\(off<cap\/off=0->a=some ⟨g,off * sz,none⟩):=by
 obtain⟨bI,us,q1,q2,q3,q4,q5,q6,q7⟩:=hs.chunk id _ hH;rcases q2.2 with ⟨_,hn⟩|⟨g,cp,cur,heq,hbg,hgg,hnc,hcm,hcz,jN⟩
 ·omega
 subst heq;refine⟨g,cp,q1,hnc,λ{u off n m sz'} hu=>?_⟩;cases hu with
 |iM a _ _ v1 _ _ _ c jD sz1 lS hle hn hm hz hh=>rw[q1] at lS;simp only[cA,Loc.row.injEq] at lS;obtain⟨r1,r2,r3⟩:=lS;subst r1 r2 r3;obtain⟨ao1,m1,aHy,e1,rfl,ha⟩:=hh rfl;simp only[Value.slice.injEq] at e1;obtain⟨rfl,rfl,rfl⟩:=e1;refine⟨rfl,a,rfl,hn,hm,hz,λh=>?_⟩;rw[ha h];simp[Addr.add_mid]
theorem amo{o:Oper}{W:Env->aA->Prop}{env:Env}{H:aA}(t1 t2:TypeId)(x y:Operand)(id v n m off n' m':Nat)(e:TypeId)(sz qz:Nat)(es:List (List PV))(hop:o.op = .call ⟨.builtin .append,#[x,y],#[t1,t2]⟩)(ht:dy P t1 t2=some (e,sz,qz))
  (hx:ev env x = .iM id v 0 n m sz) (hy:ev env y = .iM id v off n' m' sz) (hH:H id=some (.row v e sz es)) (h0:0<es.length) (hn:n+n'<=m) (hm:m<=es.length) (hoff:off+n'<=es.length)
  (hW:W (cL env o.dst (.iM id v 0 (n+n') m sz)) (bh H id (.row v e sz (splice es n ((es.drop off).take n'))))):jF P o W env H:=by
 refine .inr (.inr (.inl ⟨_,_,hW,λC I L tm w σ hs hσ=>?_⟩));have hxv:=hσ x;have hyv:=hσ y;rw[hx] at hxv;rw[hy] at hyv;obtain⟨rfl,hu,hpos,aaJ,i,z,hi,hz,hsz,hby,hzc⟩:=nD ht;obtain⟨g,cap,hL,hnc,hall⟩:=aq7 hs hH h0;obtain⟨_,a,e1,a1,a2,a3,a4⟩:=hall hxv;obtain⟨_,b,e2,b1,b2,b3,b4⟩:=hall hyv;have hae:=a4 (.inr rfl);subst hae;rw[Nat.zero_mul] at e1;rw[Nat.sub_zero] at e1 a2;obtain⟨bI,us,q1,q2,q3,q4,q5,q6,q7⟩:=hs.chunk id _ hH;rw[hL] at q1;simp only[cA,Loc.row.injEq,true_and,and_true] at q1;subst q1;have hus:us.length=es.length * sz:=q2.1;have hcell:=q2.cells (g:=g) rfl;have hnl:((es.drop off).take n').length=n':=by rw[length_take,length_drop];omega
 have hns:∀x∈(es.drop off).take n',x.length=sz:=λx hx=>q4 x (mem_of_mem_drop (mem_of_mem_take hx))
 have hmul:(off+n') * sz<=es.length * sz:=mul_le_mul_right _ hoff;rw[add_mul] at hmul;have aBN:((us.drop (off * sz)).take (n' * sz)).length=n' * sz:=by rw[length_take,length_drop];omega
 have hfl:((es.drop off).take n').flatten=(es.flatten.drop (off * sz)).take (n' * sz):=by
  have f1:es.flatten=(es.take off).flatten++(es.drop off).flatten:=by rw[<-flatten_append,take_append_drop]
  have f2:(es.take off).flatten.length=off * sz:=by rw[bH (sz:=sz) λx hx=>q4 x (mem_of_mem_take hx),length_take,min_eq_left (by omega)]
  have f3:(es.drop off).flatten=((es.drop off).take n').flatten++((es.drop off).drop n').flatten:=by rw[<-flatten_append,take_append_drop]
  have f4:((es.drop off).take n').flatten.length=n' * sz:=by rw[bH hns,hnl]
  rw[f1,<-f2,drop_left,f3,<-f4,take_left]
 have hone:∀u∈(us.drop (off * sz)).take (n' * sz),u.oneCell'=true:=λu hu=>q6 u (mem_of_mem_drop (mem_of_mem_take hu))
 obtain⟨cur,c1,c2,c3,c4⟩:=ayM hs hH hL (o:=n) (ns:=(es.drop off).take n') (by rw[hnl];omega) hns (cs:=(us.drop (off * sz)).take (n' * sz)) (by rw[aBN,hnl]) hone (λj u c hu hc=>by
  rw[hfl] at hc;rw[getElem?_take] at hu hc;split at hu
  ·rename_i hj;rw[if_pos hj,getElem?_drop] at hc;rw[getElem?_drop] at hu;exact q5 _ u c hu hc
  ·cases hu)
 have hnews:n'=0\/∃bb,b=some bb/\∀ (j:Nat) u,((us.drop (off * sz)).take (n' * sz))[j]? = some u->w.cell? (bb.add j)=some u:=by
  rcases Nat.eq_zero_or_pos n' with h|h
  ·exact .inl h
  ·refine .inr ⟨_,b4 (.inl (by omega)),λj u hu=>?_⟩;rw[getElem?_take] at hu;split at hu
   ·rw[getElem?_drop] at hu;have:=hcell _ u hu;rw[Addr.add_mid,zero_add] at this;rw[Addr.add_mid];exact this
   ·cases hu
 have hrun:(execOp σ o).run P w = .ok (.value (.slice (some ⟨g,0,none⟩) (n+n') cap)) (w.setRow g (splice cur.toList (n * sz) ((us.drop (off * sz)).take (n' * sz))).toArray):=by
  unfold execOp;rw[hop];have hst:=run_storeCells_at (P:=P) g (n * sz) e ((us.drop (off * sz)).take (n' * sz)) 0 cur w c1 (by omega) hone;simp only[add_zero] at hst;have hfc:(Builtin.firstCells sz n' (.slice b n' (cap-off))).run P w = .ok ((us.drop (off * sz)).take (n' * sz)).toArray w:=by
   rcases hnews with h|⟨bb,rfl,hb⟩
   ·subst h;cases b with
    |none=>simp[Builtin.firstCells]
    |some bb=>simpa using run_firstCells_some (P:=P) w sz 0 bb 0 (cap-off) [] (by simp) (λj u hu=>by simp at hu)
   ·exact run_firstCells_some (P:=P) w sz n' bb n' (cap-off) _ aBN hb
  have hroom:n+n'<=cap:=by omega
  simp[resolve,invoke,builtin,Result.andThen,e1,e2,Builtin.append_,run_underlying hu,sizeOf,typeInfo,hi,hsz,Builtin.lenOf,hroom,hfc,Addr.add_mid,hst,splice]
 exact⟨_,_,I,L,.inl hrun,.iM _ _ _ v _ _ _ cap _ _ hL (le_refl _) (by omega) (by omega) (λh=>by cases h) (λ_=>⟨_,_,_,rfl,rfl,λ_=>by simp[Addr.add_mid]⟩),c4⟩
theorem rX{o:Oper}{W:Env->aA->Prop}{env:Env}{H:aA}(t:TypeId)(x:Operand)(id v off n m:Nat)(e:TypeId)(sz:Nat)(es:List (List PV))(zs:List Value)(hop:o.op = .call ⟨.builtin .clear,#[x],#[t]⟩)(ht:cG P t=some e)(hz:cN P e=some zs)(hzl:zs.length=sz)(hpos:0<sz)(hzo:zs.all Value.oneCell'=true)
  (hx:ev env x = .iM id v off n m sz) (hH:H id=some (.row v e sz es)) (h0:0<es.length) (hn:off+n<=es.length)
  (hW:W (cL env o.dst (.dW [])) (bh H id (.row v e sz (splice es off (replicate n (zs.map PV.val)))))):jF P o W env H:=by
 refine .inr (.inr (.inl ⟨_,_,hW,λC I L tm w σ hs hσ=>?_⟩));have hxv:=hσ x;rw[hx] at hxv;obtain⟨g,cap,hL,hnc,hall⟩:=aq7 hs hH h0;obtain⟨_,a,e1,a1,a2,a3,a4⟩:=hall hxv;have hu:=eO ht;obtain⟨z,hzr,hzc⟩:=wP hz w;have aBN:(replicate n zs).flatten.length=n * sz:=by rw[bH (sz:=sz) λx hx=>by rw[eq_of_mem_replicate hx];exact hzl,length_replicate]
 have hone:∀u∈(replicate n zs).flatten,u.oneCell'=true:=λu hu=>by obtain⟨x,hx,hux⟩:=mem_flatten.1 hu;rw[eq_of_mem_replicate hx] at hux;exact all_eq_true.1 hzo u hux
 have aqJ:(replicate n (zs.map PV.val)).flatten=(replicate n zs).flatten.map PV.val:=by simp[map_flatten]
 obtain⟨cur,c1,c2,c3,c4⟩:=ayM hs hH hL (o:=off) (ns:=replicate n (zs.map PV.val)) (by rw[length_replicate];exact hn) (λx hx=>by rw[eq_of_mem_replicate hx,length_map];exact hzl) (cs:=(replicate n zs).flatten) (by rw[aBN,length_replicate]) hone (λj u c hu hc=>by
  rw[aqJ,getElem?_map,hu] at hc;simp at hc;subst hc;exact .val u (hone u (mem_of_getElem? hu)))
 rcases Nat.eq_zero_or_pos n with h|h
 ·subst h;have hsp:splice es off (replicate 0 (zs.map PV.val))=es:=by simp[splice]
  have hrun:(execOp σ o).run P w = .ok (.value (.tuple #[])) w:=by unfold execOp;rw[hop];cases a<;>simp[resolve,invoke,builtin,Result.andThen,e1,Builtin.clear_,run_underlying hu]
  refine⟨_,_,I,L,.inl hrun,.dW _ _ rfl (λi u c hu hc=>by simp at hc),λenv tm hs=>?_⟩;rw[hsp];have:bh H id (.row v e sz es)=H:=by
   funext i;unfold bh;split
   ·rename_i h;rw[h,hH]
   ·rfl
  rw[this];exact hs
 ·have hae:=a4 (.inl (by omega));subst hae;have hrun:(execOp σ o).run P w = .ok (.value (.tuple #[])) (w.setRow g (splice cur.toList (off * sz) (replicate n zs).flatten).toArray):=by unfold execOp;rw[hop];have hst:=run_storeCells_at (P:=P) g (off * sz) e (replicate n zs).flatten 0 cur w c1 (by omega) hone;simp only[add_zero] at hst;have abZ:Builtin.zeroCells zs.toArray n=(replicate n zs).flatten.toArray:=aap zs n (by omega);obtain⟨k,rfl⟩:∃k,n=k+1:=⟨n-1,by omega⟩;simp only[resolve,invoke,builtin,Result.andThen,Builtin.clear_,Sem.run_bind];simp[Result.andThen,e1,run_underlying hu,hzr,hzc,abZ,hst,splice]
  exact⟨_,_,I,L,.inl hrun,.dW _ _ rfl (λi u c hu hc=>by simp at hc),c4⟩
theorem amp{C:Ctx}{E:Env}{H:aA}{tm:Array Value}{w:World}(hs:gQ C E H I L tm w){id v:Nat}{e:TypeId}{sz:Nat}{es:List (List PV)}{u:Value}(hv:dR I L u (.row id v))(hH:H id=some (.row v e sz es)):dR I L u (.iM id v 0 es.length es.length sz):=by
 obtain⟨bI,us,q1,q2,q3,q4,q5,q6,q7⟩:=hs.chunk id _ hH;rw[hv.ajX q1];rcases q2.2 with ⟨e1,hn⟩|⟨g,cap,cur,e1,_,_,hnc,_⟩
 ·subst e1;rw[hn];exact .iM _ _ _ v _ _ _ 0 _ _ q1 (le_refl _) (by omega) (by omega) (λ_=>rfl) (λ_=>⟨none,0,0,rfl,rfl,λ_=>rfl⟩)
 ·subst e1;exact .iM _ _ _ v _ _ _ cap _ _ q1 (le_refl _) (by omega) hnc (λh=>by cases h) (λ_=>⟨_,_,cap,rfl,rfl,λ_=>by simp[Addr.add_mid]⟩)
theorem nF{E:Env}{H:aA}(t id v:Nat)(e:TypeId)(sz:Nat)(es:List (List PV))(ht:E t = .row id v)(hH:H id=some (.row v e sz es)):dx E H (cE E t (.iM id v 0 es.length es.length sz)) H:=λC I L tm w hs=>by
 refine⟨I,L,{ hs with env:=λi=>?_ }⟩;unfold cE;split
 ·rename_i hi;rw[hi];exact amp hs (ht ▸ hs.env t) hH
 ·exact hs.env i
theorem ayN{C:Ctx}{E:Env}{H:aA}{tm:Array Value}{w:World}(hs:gQ C E H I L tm w){id v n m:Nat}{e:TypeId}{sz:Nat}{es:List (List PV)}{ux:Value}(hxv:dR I L ux (.iM id v 0 n m sz))(hH:H id=some (.row v e sz es))(hn:n<=es.length) :
  ∃L',dR I L' ux (.row id (v+1))/\gQ C E (bh H id (.row (v+1) e sz (es.take n))) I L' tm w:=by
 obtain⟨bI,us,q1,q2,q3,q4,q5,q6,q7⟩:=hs.chunk id _ hH;cases hxv with
 |iM a _ _ v1 _ _ _ c jD sz1 lS hle hnm hm hz hh =>
  rw[q1] at lS;simp only[cA,Loc.row.injEq,and_true] at lS;obtain⟨r1,r2⟩:=lS;subst r1;subst r2;obtain⟨ao,k,cap,e1,rfl,ha⟩:=hh rfl;have ha':a=ao:=by
   have:=ha (.inr rfl);rw[this];rcases q2.2 with ⟨e2,_⟩|⟨g,cap',cur,e2,_⟩
   ·rw[e1] at e2;simp only[Value.slice.injEq] at e2;rw[e2.1];rfl
   ·rw[e1] at e2;simp only[Value.slice.injEq] at e2;rw[e2.1];simp[Addr.add_mid]
  subst ha';have hms:n * sz<=es.length * sz:=mul_le_mul_right _ hn;have htl:(es.take n).length=n:=by rw[length_take];omega
  have hus:us.length=es.length * sz:=q2.1;have hfl:(es.take n).flatten=es.flatten.take (n * sz):=by
   have h1:es.flatten=(es.take n).flatten++(es.drop n).flatten:=by rw[<-flatten_append,take_append_drop]
   have h2:(es.take n).flatten.length=n * sz:=by rw[bH (sz:=sz) λx hx=>q4 x (mem_of_mem_take hx),htl]
   rw[h1,<-h2,take_left]
  have aDC:∀ (eX:Value),w.ownsRow C.B e sz eX n (us.take (n * sz))->(∀b,eX.ownBlock=some b->bI.ownBlock=some b)->qx I (cg L id (.row (v+1) eX sz)) w C.B id (.row (v+1) e sz (es.take n)):=λeX ho hb=>by
   refine⟨eX,us.take (n * sz),by simp[cg],by rw[htl];exact ho,q3,λx hx=>q4 x (mem_of_mem_take hx),λj u c hu hc=>?_,λu hu=>q6 u (mem_of_mem_take hu),λb h=>q7 b (hb b h)⟩;rw[getElem?_take] at hu;rw[hfl,getElem?_take] at hc;split at hu
   ·rename_i hj;rw[if_pos hj] at hc;exact q5 j u c hu hc
   ·cases hu
  have key:∀eX:Value,eX = .slice a n c->w.ownsRow C.B e sz eX n (us.take (n * sz))->(∀b,eX.ownBlock=some b->bI.ownBlock=some b)->∃L',dR I L' (.slice a n c) (.row id (v+1))/\gQ C E (bh H id (.row (v+1) e sz (es.take n))) I L' tm w:=λeX he ho hb=>⟨cg L id (.row (v+1) eX sz),.row _ _ _ (v+1) eX sz (by simp[cg]) (le_refl _) (λ_=>he.symm) rfl,hs.turn (Below.refl _ _) q1 (λ_ _ _=>rfl) (dQ.afe q1) (λb hb o=>q7 b hb o) _ (aDC eX ho hb) (λb hbb=>.inl (hb b hbb))⟩
  rcases q2.2 with ⟨e2,hz0⟩|⟨g,cap',cur,e2,hb,hg,hnc,hcm,hcs,jN⟩
  ·rw[e1] at e2;simp only[Value.slice.injEq] at e2;obtain⟨rfl,rfl,rfl⟩:=e2;have hn0:n=0:=by omega
   subst hn0;exact key _ rfl ⟨by simp,.inl ⟨rfl,rfl⟩⟩ (λb hb=>by cases hb)
  ·rw[e1] at e2;simp only[Value.slice.injEq] at e2;obtain⟨rfl,rfl,rfl⟩:=e2;refine key _ rfl ⟨?_,.inr ⟨g,c,cur,rfl,hb,hg,by omega,hcm,hcs,?_⟩⟩ (λb hb=>by rw[e1];exact hb)
   ·rw[length_take];omega
   ·rw[<-jN,take_take,min_eq_left hms]
theorem rY{f:FuncId}{v:Nat}{e:TypeId}{sz:Nat}{es R:List (List PV)}{ps:List PV}(h:kJ P f v e sz es ps λa c=>∃es' n m,(a = .iM 1000000 v 0 n m sz\/(a = .row 1000000 v/\n=es'.length))/\c=some (.row v e sz es')/\n<=es'.length/\es'.take n=R) :
  kJ P f v e sz es ps λa c=>a = .row 1000000 (v+1)/\c=some (.row (v+1) e sz R) :=
 ⟨h.1,λB I w bI us vs hB hI hr h1 hv=>(h.2 B I w bI us vs hB hI hr h1 hv).mono λ_ _ ⟨u,a,H',I',L',q1,⟨es',n,m,q2,q3,q6,q7⟩,q4,q5⟩=>by
  subst q7;rcases q2 with rfl|⟨rfl,rfl⟩
  ·obtain⟨L2,h1,h2⟩:=ayN q5 q4 q3 q6;exact⟨u,_,_,I',L2,q1,⟨rfl,by simp[bh]⟩,h1,h2⟩
  ·obtain⟨L2,h1,h2⟩:=ayN q5 (amp q5 q4 q3) q3 (le_refl _);exact⟨u,_,_,I',L2,q1,⟨rfl,by simp[bh]⟩,h1,h2⟩⟩
theorem aq8{o:Oper}{W:Env->aA->Prop}{env:Env}{H:aA}(t:TypeId)(x lo hi mx:Operand)(s id v:Nat)(e:TypeId)(sz:Nat)(es:List (List PV))(k1 k2 k3:IntKind)(l h m:Int)(hop:o.op = .slice t x (some lo) (some hi) (some mx))(ht:cG P t=some e)(hsz:bl P e=some sz)
  (hs0:env s = .row id v) (hx:ev (cE env s (.iM id v 0 es.length es.length sz)) x = .row id v) (hlo:ev (cE env s (.iM id v 0 es.length es.length sz)) lo = .p (.val (.int k1 l))) (hhi:ev (cE env s (.iM id v 0 es.length es.length sz)) hi = .p (.val (.int k2 h))) (hmx:ev (cE env s (.iM id v 0 es.length es.length sz)) mx = .p (.val (.int k3 m)))
  (hH:H id=some (.row v e sz es)) (hb:0<=l/\l<=h/\h<=m/\m<=es.length) (hW:W (cL (cE env s (.iM id v 0 es.length es.length sz)) o.dst .dead) H):jF P o W env H:=by
 refine uu (nF s id v e sz es hs0 hH) (.inr (.inl ⟨.dead,H,hW,λC I L tm w σ hs hσ=>?_⟩));have hxv:=hσ x;have hlv:=(hlo ▸ hσ lo).dK.1;have hhv:=(hhi ▸ hσ hi).dK.1;have hmv:=(hmx ▸ hσ mx).dK.1;rw[hx] at hxv;obtain⟨bI,us,q1,q2,q3,q4,q5,q6,q7⟩:=hs.chunk id _ hH;have hu:=hxv.ajX q1;obtain⟨b0,b1,b2,b3⟩:=hb;obtain⟨a,cap,e1,hcap⟩:∃a cap,bI = .slice a es.length cap/\es.length<=cap:=by
  rcases q2.2 with ⟨e1,hn⟩|⟨g,cap,cur,e1,_,_,hnc,_⟩
  ·exact⟨none,0,by rw[hn];exact e1,by omega⟩
  ·exact⟨_,cap,e1,hnc⟩
 have h4:m<=(cap:Int):=by omega
 have hrun:(execOp σ o).run P w = .ok (.value (.slice (if m.toNat=l.toNat then a else a.map (·.add (l.toNat * sz))) (h.toNat-l.toNat) (m.toNat-l.toNat))) w:=by unfold execOp;rw[hop];simp only[map_some,hu,hlv,hhv,hmv,e1];rw[run_lift];simp[Instr.sliceAt,Instr.slice,run_underlying (eO ht),wO (P:=P) (isS:=true) (lo:=some (.int k1 l)) (.inr ⟨k1,rfl⟩) b0 b1 b2 h4,dL hsz,Result.andThen]
 exact .still hrun (.dead _)
variable{t:TypeId}
def slR(e:Option TypeId)(f:TypeId->Option Nat)(a b:Option Int)(id bf off m sz:Nat):Option (Prop×AV):=match e,a,b with
 |some e,some l,some h=>(match f e with
  |some sz'=>some ((0<=l/\l<=h/\h<=m)/\sz'=sz,.iM id bf (off+l.toNat) (h.toNat-l.toNat) (m-l.toNat) sz)
  |none=>none)
 |_,_,_=>none
theorem amq{id bf off n m sz:Nat}{lo hi:Option AV} : sY P t (.iM id bf off n m sz) lo hi none=slR (cG P t) (bl P) (bnd 0 lo) (bnd n hi) id bf off m sz:=by unfold sY slR;simp only[];all_goals(cases cG P t<;>cases bnd 0 lo<;>cases bnd n hi<;>rfl)
theorem ayO(e:TypeId)(f:TypeId->Option Nat)(l h:Int)(id bf off m sz:Nat):slR (some e) f (some l) (some h) id bf off m sz=(match f e with
  |some sz'=>some ((0<=l/\l<=h/\h<=m)/\sz'=sz,.iM id bf (off+l.toNat) (h.toNat-l.toNat) (m-l.toNat) sz)
  |none=>none):=rfl
theorem aui{H:aA}{id bf off n m sz:Nat}(h:isSlice P t=true):aeC P t (.iM id bf off n m sz) H=some (True,.p (.val (.int .i64 n)),H):=by simp[aeC,rq,h,up3]
def aDD(r:Option (Nat×List (List PV)))(e:Option TypeId)(f:TypeId->Option Nat)(id bf off m:Nat)(n:Int)(H:aA):Option (Prop×AV×aA):=match r,e with
 |some (sz,es),some e=>(match f e with
  |some sz'=>some ((0<=n/\n<m/\off+m<=es.length)/\sz'=sz,.jo id bf (off+n.toNat) 0,H)
  |none=>none)
 |_,_=>none
theorem amr{H:aA}{id bf off m m' z:Nat}{k:IntKind}{a:Int} : o6 P t (.iM id bf off m m' z) (.p (.val (.int k a))) H=aDD (ac9 H id bf) (cG P t) (bl P) id bf off m a H:=by unfold o6 aDD;simp only[];all_goals(cases ac9 H id bf<;>cases cG P t<;>rfl)
theorem auj(sz:Nat)(es:List (List PV))(e:TypeId)(f:TypeId->Option Nat)(id bf off m:Nat)(n:Int)(H:aA):aDD (some (sz,es)) (some e) f id bf off m n H=(match f e with
  |some sz'=>some ((0<=n/\n<m/\off+m<=es.length)/\sz'=sz,.jo id bf (off+n.toNat) 0,H)
  |none=>none):=rfl
theorem aBO(H:aA)(id bf:Nat):ac9 H id bf=(match H id with
 |some (.row v _ sz es)=>if v=bf then some (sz,es) else none
 |_=>none):=by
 unfold ac9;cases H id with
 |none=>rfl
 |some c=>cases c<;>rfl
attribute [go_sem] amq ayO aui amr auj aBO
end Go.cv
namespace Go.cv
open Go.RowKit
variable{P:Program}{t:TypeId}
theorem auk(H:aA)(id bf:Nat):cO H id bf=(match H id with
 |some (.deep v _ _ k _ _ es)=>if v=bf then some (k,es) else none
 |_=>none):=by
 unfold cO;cases H id with
 |none=>rfl
 |some c=>cases c<;>rfl
def aFj(x:Option PV):Option (List (List PV)):=match x with
 |some (.aU l)=>some l
 |_=>none
theorem ayP(l:List (List PV)):aFj (some (.aU l))=some l:=rfl
theorem apw(k:Nat)(es:List (List PV))(i:Nat):nw (some (k,es)) i=aFj ((es.getD i [])[k]?):=rfl
theorem aul(id bf i k:Nat)(x:List PV):aba id bf i k x=(x.map AV.p).set k (.kI id bf i):=rfl
theorem apx(H:aA)(id bf i off:Nat):afn P t (.kH id bf i off) H=(match cO H id bf with
   |some (k,es)=>(match sG P t (aba id bf i k (es.getD i [])) off with|some v=>some (i<es.length,v,H)|none=>none)
   |none=>none):=rfl
theorem apy(H:aA)(id bf i j off:Nat):afn P t (.nv id bf i j off) H=(match nw (cO H id bf) i with
   |some l=>(match sH P t (l.getD j []) off with|some x=>some (j<l.length,.p x,H)|none=>none)
   |none=>none):=rfl
theorem ams(H:aA)(o n:Nat)(id bf i off:Nat):adj P (some (o,n)) (.kH id bf i off) H=(match cO H id bf with
   |some _=>some (n≠0,.kH id bf i (off+o),H)
   |none=>none):=rfl
def aDE(r:Option (Nat×List (List PV)))(e:Option TypeId)(f:TypeId->Option Nat)(id bf:Nat)(n:Int)(H:aA):Option (Prop×AV×aA):=match r,e with
 |some (_,es),some e=>(match f e with
  |some sz=>some ((0<=n/\n<es.length)/\(es.getD n.toNat []).length=sz,.kH id bf n.toNat 0,H)
  |none=>none)
 |_,_=>none
theorem amt{H:aA}{id bf:Nat}{k:IntKind}{a:Int} : o6 P t (.eP id bf) (.p (.val (.int k a))) H=aDE (cO H id bf) (cG P t) (bl P) id bf a H:=by unfold o6 aDE;simp only[];all_goals(cases cO H id bf<;>cases cG P t<;>rfl)
theorem aum(k:Nat)(es:List (List PV))(e:TypeId)(f:TypeId->Option Nat)(id bf:Nat)(n:Int)(H:aA):aDE (some (k,es)) (some e) f id bf n H=(match f e with
  |some sz=>some ((0<=n/\n<es.length)/\(es.getD n.toNat []).length=sz,.kH id bf n.toNat 0,H)
  |none=>none):=rfl
def aDF(r:Option (List (List PV)))(e:Option TypeId)(f:TypeId->Option Nat)(id bf i:Nat)(n:Int)(H:aA):Option (Prop×AV×aA):=match r,e with
 |some l,some e=>(match f e with
  |some sz=>some ((0<=n/\n<l.length)/\(l.getD n.toNat []).length=sz,.nv id bf i n.toNat 0,H)
  |none=>none)
 |_,_=>none
theorem amu{H:aA}{id bf i:Nat}{k:IntKind}{a:Int} : o6 P t (.kI id bf i) (.p (.val (.int k a))) H=aDF (nw (cO H id bf) i) (cG P t) (bl P) id bf i a H:=by unfold o6 aDF;simp only[];all_goals(cases nw (cO H id bf) i<;>cases cG P t<;>rfl)
theorem aun(l:List (List PV))(e:TypeId)(f:TypeId->Option Nat)(id bf i:Nat)(n:Int)(H:aA):aDF (some l) (some e) f id bf i n H=(match f e with
  |some sz=>some ((0<=n/\n<l.length)/\(l.getD n.toNat []).length=sz,.nv id bf i n.toNat 0,H)
  |none=>none):=rfl
theorem auo{H:aA}{id bf i:Nat}(h:isSlice P t=true):aeC P t (.kI id bf i) H=(match nw (cO H id bf) i with
  |some l=>some (True,.p (.val (.int .i64 l.length)),H)
  |none=>none):=by
 simp only[aeC,rq,h];all_goals(cases nw (cO H id bf) i<;>rfl)
theorem apz(H:aA)(id bf:Nat):gR H (.eP id bf)=qb H (.eP id bf):=rfl
theorem apA(H:aA)(id bf:Nat):qb H (.eP id bf)=(match cO H id bf with
  |some (_,es)=>some (.aU es,true)
  |none=>none):=rfl
theorem apB(H:aA)(id bf i:Nat):oe H (.kI id bf i)=qb H (.kI id bf i):=rfl
theorem apC(H:aA)(id bf i:Nat):qb H (.kI id bf i)=(match nw (cO H id bf) i with
  |some l=>some (.aU l,true)
  |none=>none):=rfl
theorem alO{H' H:aA}{id v:Nat}{e:TypeId}{sz k:Nat}{e':TypeId}{sz':Nat}{es:List (List PV)}(h:qC H' H):qC (bh H' id (.deep v e sz k e' sz' es)) H:=λi c' hi=>by
 unfold bh at hi;split at hi
 ·cases hi
 ·exact h i c' hi
def rvD(c:Option Chunk)(id bf:Nat):Option (RV×List Nat):=match c with
 |some (.deep v e sz k e' sz' es)=>if v=bf then some (.deep e sz k e' sz' es,[id]) else none
 |_=>none
theorem aup(H:aA)(id bf:Nat):pZ H (.eP id bf)=rvD (H id) id bf:=by unfold rvD;simp only[pZ];try rfl
theorem ayQ(v:Nat)(e:TypeId)(sz k:Nat)(e':TypeId)(sz':Nat)(es:List (List PV))(id bf:Nat):rvD (some (.deep v e sz k e' sz' es)) id bf=if v=bf then some (.deep e sz k e' sz' es,[id]) else none:=rfl
theorem amv(n:Nat)(e:TypeId)(sz k:Nat)(e':TypeId)(sz':Nat)(es:List (List PV)):dw n (.deep e sz k e' sz' es)=(.eP n 0,n+1):=by simp only[dw]
theorem amw(n:Nat)(H:aA)(e:TypeId)(sz k:Nat)(e':TypeId)(sz':Nat)(es:List (List PV)):iC n H (.deep e sz k e' sz' es)=bh H n (.deep 0 e sz k e' sz' es):=by simp only[iC]
theorem ajY(id v:Nat):b6 (.eP id v)=[.eP id v]:=rfl
theorem apD(id v:Nat):od (.eP id v)=true:=rfl
attribute [go_sem] aup ayQ amv amw ajY apD
def bcA(P:Program)(e:Option TypeId)(n:Nat)(parts:List (Nat×AV)):Option (TypeId×List AV):=match e with
 |some e=>(match bl P e,cN P e with
  | some sz, some zs => if zs.length = sz ∧ 0 < sz ∧ n * sz ≤ 16777216 ∧ zs.all (·.oneCell') = true then
    (match rE (λi=>some (i * sz,sz)) (iP zs n) parts with
    |some cs=>some (e,cs)
    |none=>none)
   else none
  |_,_=>none)
 |none=>none
theorem apE(n:Nat)(parts:List (Nat×AV)):vF P t n parts=bcA P (cG P t) n parts:=by
 unfold vF bcA;cases cG P t with
 |none=>rfl
 |some e=>simp only[];all_goals(cases bl P e<;>cases cN P e<;>rfl)
theorem ayR(e:TypeId)(n:Nat)(parts:List (Nat×AV)):bcA P (some e) n parts=(match bl P e,cN P e with
  | some sz, some zs => if zs.length = sz ∧ 0 < sz ∧ n * sz ≤ 16777216 ∧ zs.all (·.oneCell') = true then
    (match rE (λi=>some (i * sz,sz)) (iP zs n) parts with
    |some cs=>some (e,cs)
    |none=>none)
   else none
  |_,_=>none):=rfl
attribute [go_sem] apE ayR
theorem ayS(id off:Nat):arC (.ptr id off)=some (True,.ptr id off):=rfl
theorem auq(cs:List PV)(off:Nat):arC (.p (.ee cs off))=some (True,.p (.ee cs off)):=rfl
attribute [go_sem] ayS auq
def aCG(a:Option AV)(H:aA)(Q:AV->aA->Prop):Prop:=match a with
 |some a=>Q a H
 |none=>False
theorem ayT(rs:List ResultVar)(Q:AV->aA->Prop)(env:Env)(H:aA):aFb P rs Q .ret env H=aCG (pE P env H rs) H Q:=rfl
theorem apF(a:AV)(H:aA)(Q:AV->aA->Prop):aCG (some a) H Q=Q a H:=rfl
attribute [go_sem] ayT apF
theorem aur(id bf i:Nat)(l:List AV):tN (.kI id bf i :: l)=none:=rfl
theorem aus(id bf:Nat)(l:List AV):tN (.eP id bf :: l)=none:=rfl
theorem aut(t1 t2:TypeId)(id v o n m z:Nat)(b:AV)(H:aA):aeD P t1 t2 (.iM id v o n m z) b H=none:=by
 unfold aeD;have h1:ac8 P t1 t2 (.iM id v o n m z) b=none:=by unfold ac8;cases dy P t1 t2<;>rfl
 have h2:abY P t1 t2 (.iM id v o n m z) b H=none:=by unfold abY;cases dy P t1 t2<;>rfl
 rw[h1,h2]
theorem auu(t1 t2:TypeId)(id v:Nat)(b:AV)(H:aA):aeD P t1 t2 (.eP id v) b H=none:=by
 unfold aeD;have h1:ac8 P t1 t2 (.eP id v) b=none:=by unfold ac8;cases dy P t1 t2<;>rfl
 have h2:abY P t1 t2 (.eP id v) b H=none:=by unfold abY;cases dy P t1 t2<;>rfl
 rw[h1,h2]
theorem auv{o:Option Tmp}{xs:Array Operand}{ts:Array TypeId}{ty:TypeId}{pos:String}{af:Array Edge}{g:Option (Nat×Bool)}{ρ:Operand->AV}{H:aA} : gC P ⟨o,.call ⟨.builtin .clear,xs,ts⟩,ty,pos,af,g⟩ ρ H=none:=by simp[gC,oc,rL,mO,xG,yw,wK,xH,sI]
attribute [go_sem] aut auu auv auk ayP apw aul apx apy ams amt aum amu aun auo apz apA apB apC aur aus
end Go.cv
namespace Go.Proofs.YtjhkgjlmiolfoaaGreat
open Go.cv
structure ah where
 id:Int
 type:Int
 values:List Int
structure ax where
 id:Int
 type:Int
 src:Int
 dst:Int
structure aO where
 id:Int
 attr:Int
 old:Int
 new:Int
structure aG where
 kind:Int
 id:Int
 attr:Int
instance:Inhabited ah:=⟨⟨0,0,[]⟩⟩
instance:Inhabited ax:=⟨⟨0,0,0,0⟩⟩
instance:Inhabited aO:=⟨⟨0,0,0,0⟩⟩
instance:Inhabited aG:=⟨⟨0,0,0⟩⟩
structure dz where
 x0:Int
 x1:Int
structure aF where
 au:List ah
 aC:List ax
 aM:List ah
 aK:List ax
 values:List aO
 next:dz
structure az where
 host:Host
 nodes:List Int
 ak:List Int
 next:Int
def ag(x:ah):List PV:=[.val (.int .i64 x.id),.val (.int .i64 x.type),.aU (x.values.map encI)]
def aj(x:ax):List PV:=[.val (.int .i64 x.id),.val (.int .i64 x.type),.val (.int .i64 x.src),.val (.int .i64 x.dst)]
def aI(x:aO):List PV:=[.val (.int .i64 x.id),.val (.int .i64 x.attr),.val (.int .i64 x.old),.val (.int .i64 x.new)]
def ay(x:aG):List PV:=[.val (.int .i64 x.kind),.val (.int .i64 x.id),.val (.int .i64 x.attr)]
def aB(x:aF):List PV:=[.aU (x.au.map ag),.aU (x.aC.map aj),.aU (x.aM.map ag),.aU (x.aK.map aj),.aU (x.values.map aI),.val (.int .i64 x.next.x0),.val (.int .i64 x.next.x1)]
def aD(x:az):List PV:=[.aU (x.host.graph.nodes.map encI),.aU (x.host.graph.ak.map aZ),.aU (x.host.values.map bJ),.aU (x.nodes.map encI),.aU (x.ak.map encI),.val (.int .i64 x.next)]
section
variable{α:Type}
theorem adB{p:α->Bool}{l:List α}(h:idxOf p l = -1):l.filter (λx=>!p x)=l:=by
 unfold idxOf at h;cases hf:l.findIdx? p with
 |none=>rw[findIdx?_eq_none_iff] at hf;rw[filter_eq_self];intro x hx;simp[hf x hx]
 |some i=>rw[hf] at h;simp only at h;omega
theorem adC [Inhabited α]{p:α->Bool}{l:List α}(h:idxOf p l≠-1):∃k:Nat,idxOf p l=k/\k<l.length/\(l.take k).filter (λx=>!p x)=l.take k/\p (l.getD k default)=true:=by
 unfold idxOf at h ⊢;cases hf:l.findIdx? p with
 |none=>rw[hf] at h;exact absurd rfl h
 |some i =>
  rw[findIdx?_eq_some_iff_getElem] at hf;obtain⟨hi,h1,h2⟩:=hf;refine⟨i,rfl,hi,?_,by simpa[hi] using h1⟩;rw[filter_eq_self];intro x hx;obtain⟨j,hj,rfl⟩:=getElem_of_mem hx;have hj':j<i:=by simp at hj;omega
  have:=h2 j hj';simpa using this
def fU(p:α->Bool)(l g:List α)(j:Nat):List α:=(l.take j).filter (λx=>!p x)++g++l.drop j
theorem adD(p:α->Bool)(l g:List α)(j i:Nat)(hi:((l.take j).filter λx=>!p x).length=i)(hg:i+g.length=j)(hj:j<=l.length):(fU p l g j).length=l.length:=by simp[fU,hi];omega
theorem af4 [Inhabited α](p:α->Bool)(l g:List α)(j i:Nat)(hi:((l.take j).filter λx=>!p x).length=i)(hg:i+g.length=j)(hj:j<l.length):(fU p l g j).getD j default=l.getD j default:=by
 have h1:((l.take j).filter (λx=>!p x)++g).length=j:=by rw[length_append,hi,hg]
 simp only[fU,getD_eq_getElem?_getD];rw[getElem?_append_right (by omega),h1,Nat.sub_self,getElem?_drop,add_zero]
theorem oI [Inhabited α](p:α->Bool)(l g:List α)(j:Nat)(hj:j<l.length)(hp:p (l.getD j default)=true):fU p l g j=fU p l (g++[l.getD j default]) (j+1)/\(l.take (j+1)).filter (λx=>!p x)=(l.take j).filter (λx=>!p x):=by
 have h1:(l.take (j+1)).filter (λx=>!p x)=(l.take j).filter (λx=>!p x):=by rw[om hj,filter_append,filter_cons_of_neg (by rw[hp];simp),filter_nil,append_nil]
 refine⟨?_,h1⟩;unfold fU;rw[h1];have h2:l.drop j=l.getD j default :: l.drop (j+1):=by rw[drop_eq_getElem_cons hj];simp[hj]
 rw[h2];simp
theorem abt [Inhabited α](p:α->Bool)(l:List α)(y:α)(g:List α)(j i:Nat)(hi:((l.take j).filter λx=>!p x).length=i)(hj:j<l.length)(hp:p (l.getD j default)=false) :
  (fU p l (y :: g) j).set i (l.getD j default)=fU p l (g++[l.getD j default]) (j+1)/\(l.take (j+1)).filter (λx=>!p x)=(l.take j).filter (λx=>!p x)++[l.getD j default]:=by
 have h1:(l.take (j+1)).filter (λx=>!p x)=(l.take j).filter (λx=>!p x)++[l.getD j default]:=by rw[om hj,filter_append,filter_cons_of_pos (by rw[hp];rfl),filter_nil]
 refine⟨?_,h1⟩;unfold fU;rw[h1];have h2:l.drop j=l.getD j default :: l.drop (j+1):=by rw[drop_eq_getElem_cons hj];simp[hj]
 rw[h2];rw[append_assoc,set_append_right _ _ (by omega),hi,Nat.sub_self];simp
theorem apG(enc:α->List PV)(z:List PV)(p:α->Bool)(l g:List α)(i:Nat)(hi:(l.filter λx=>!p x).length=i):(splice ((fU p l g l.length).map enc) i (replicate (l.length-i) z)).take i=(l.filter λx=>!p x).map enc:=by
 unfold fU splice;rw[take_length,drop_length,append_nil,map_append,append_assoc];have h2:((l.filter λx=>!p x).map enc).length=i:=by rw[length_map];exact hi
 rw[<-h2,take_left,take_left]
end
theorem zo(p:ah->Bool)(l:List ah)(hl:l.length<=1000000)(k:FuncId)(fs cs:List PV)(hp:∀x∈l,aS pw k (fs++[pA (ag x)]++cs) (λr=>r = .val (.bool (p x)))) :
  aS pw 238 [.aU (l.map ag),.iK (.func k) fs cs] (λr=>r = .val (.int .i64 (idxOf p l))):=by
 refine aR [] func238 ntmps238 results238 ?_;simp only[go_sem];refine bM (σ:=Nat) (λx=>(cE (cE (cE (cE fS 0 (.p (.aU (l.map ag)))) 1 (.p (.iK (.func k) fs cs))) 7 (.p (.val (.int .i64 l.length)))) 8 (.p (.val (.int .i64 x))))) (λx=>cq)
  (λx=>x<=l.length/\∀j,j<x->p (l.getD j default)=false) (λx=>l.length-x) 0 ⟨zero_le _,λj hj=>absurd hj (not_lt_zero j)⟩ bU ?_
 rintro x ⟨hx,hq⟩;simp only[go_sem];refine aL (λhc=>?_) (λhc=>?_)
 ·have hlt:x<l.length:=by simpa using hc
  simp only[go_sem,getD_map ag hlt,hlt,ag];refine aX (hp (l.getD x default) (by simp[hlt])) (by simp only[go_sem,jR,jQ,ag,pA,Bool.or_false,Bool.false_or]<;>rfl) (b7 rfl) ?_;simp only[go_sem];refine aL (λhb=>?_) (λhb=>?_)<;>simp only[go_sem]
  ·exact (pL hlt hq hb).symm
  ·refine bO (x+1) ⟨hlt,λj hj=>?_⟩ (by omega) ?_
   ·rcases Nat.lt_succ_iff_lt_or_eq.1 hj with h|h
    ·exact hq j h
    ·rw[h];exact hb
   ·rw[bw hlt (by omega)];exact bU
 ·have hge:l.length<=x:=by simpa using hc
  simp only[go_sem,hc];rw[lF λj hj=>hq j (by omega)]
theorem zp(p:ah->Bool)(l:List ah)(hl:l.length<=1000000)(k:FuncId)(fs cs:List PV)(hp:∀x∈l,aS pw k (fs++[pA (ag x)]++cs) (λr=>r = .val (.bool (p x)))) :
  aS pw 165 [.aU (l.map ag),.iK (.func k) fs cs] (λr=>r = .val (.bool (l.any p))):=by
 refine aR [] func165 ntmps165 results165 ?_;simp only[go_sem];refine aX (zo p l hl k fs cs hp) (by simp only[go_sem]<;>rfl) (b7 rfl) ?_;simp only[go_sem];exact kQ
theorem zq(p:ax->Bool)(l:List ax)(hl:l.length<=1000000)(k:FuncId)(fs cs:List PV)(hp:∀x∈l,aS pw k (fs++[pA (aj x)]++cs) (λr=>r = .val (.bool (p x)))) :
  aS pw 240 [.aU (l.map aj),.iK (.func k) fs cs] (λr=>r = .val (.int .i64 (idxOf p l))):=by
 refine aR [] func240 ntmps240 results240 ?_;simp only[go_sem];refine bM (σ:=Nat) (λx=>(cE (cE (cE (cE fS 0 (.p (.aU (l.map aj)))) 1 (.p (.iK (.func k) fs cs))) 7 (.p (.val (.int .i64 l.length)))) 8 (.p (.val (.int .i64 x))))) (λx=>cq)
  (λx=>x<=l.length/\∀j,j<x->p (l.getD j default)=false) (λx=>l.length-x) 0 ⟨zero_le _,λj hj=>absurd hj (not_lt_zero j)⟩ bU ?_
 rintro x ⟨hx,hq⟩;simp only[go_sem];refine aL (λhc=>?_) (λhc=>?_)
 ·have hlt:x<l.length:=by simpa using hc
  simp only[go_sem,getD_map aj hlt,hlt,aj];refine aX (hp (l.getD x default) (by simp[hlt])) (by simp only[go_sem,jR,jQ,aj,pA,Bool.or_false,Bool.false_or]<;>rfl) (b7 rfl) ?_;simp only[go_sem];refine aL (λhb=>?_) (λhb=>?_)<;>simp only[go_sem]
  ·exact (pL hlt hq hb).symm
  ·refine bO (x+1) ⟨hlt,λj hj=>?_⟩ (by omega) ?_
   ·rcases Nat.lt_succ_iff_lt_or_eq.1 hj with h|h
    ·exact hq j h
    ·rw[h];exact hb
   ·rw[bw hlt (by omega)];exact bU
 ·have hge:l.length<=x:=by simpa using hc
  simp only[go_sem,hc];rw[lF λj hj=>hq j (by omega)]
theorem zu(p:ax->Bool)(l:List ax)(hl:l.length<=1000000)(k:FuncId)(fs cs:List PV)(hp:∀x∈l,aS pw k (fs++[pA (aj x)]++cs) (λr=>r = .val (.bool (p x)))) :
  aS pw 167 [.aU (l.map aj),.iK (.func k) fs cs] (λr=>r = .val (.bool (l.any p))):=by
 refine aR [] func167 ntmps167 results167 ?_;simp only[go_sem];refine aX (zq p l hl k fs cs hp) (by simp only[go_sem]<;>rfl) (b7 rfl) ?_;simp only[go_sem];exact kQ
theorem af5(p:aO->Bool)(l:List aO)(hl:l.length<=1000000)(k:FuncId)(fs cs:List PV)(hp:∀x∈l,aS pw k (fs++[pA (aI x)]++cs) (λr=>r = .val (.bool (p x)))) :
  aS pw 262 [.aU (l.map aI),.iK (.func k) fs cs] (λr=>r = .val (.int .i64 (idxOf p l))):=by
 refine aR [] func262 ntmps262 results262 ?_;simp only[go_sem];refine bM (σ:=Nat) (λx=>(cE (cE (cE (cE fS 0 (.p (.aU (l.map aI)))) 1 (.p (.iK (.func k) fs cs))) 7 (.p (.val (.int .i64 l.length)))) 8 (.p (.val (.int .i64 x))))) (λx=>cq)
  (λx=>x<=l.length/\∀j,j<x->p (l.getD j default)=false) (λx=>l.length-x) 0 ⟨zero_le _,λj hj=>absurd hj (not_lt_zero j)⟩ bU ?_
 rintro x ⟨hx,hq⟩;simp only[go_sem];refine aL (λhc=>?_) (λhc=>?_)
 ·have hlt:x<l.length:=by simpa using hc
  simp only[go_sem,getD_map aI hlt,hlt,aI];refine aX (hp (l.getD x default) (by simp[hlt])) (by simp only[go_sem,jR,jQ,aI,pA,Bool.or_false,Bool.false_or]<;>rfl) (b7 rfl) ?_;simp only[go_sem];refine aL (λhb=>?_) (λhb=>?_)<;>simp only[go_sem]
  ·exact (pL hlt hq hb).symm
  ·refine bO (x+1) ⟨hlt,λj hj=>?_⟩ (by omega) ?_
   ·rcases Nat.lt_succ_iff_lt_or_eq.1 hj with h|h
    ·exact hq j h
    ·rw[h];exact hb
   ·rw[bw hlt (by omega)];exact bU
 ·have hge:l.length<=x:=by simpa using hc
  simp only[go_sem,hc];rw[lF λj hj=>hq j (by omega)]
theorem ahj(p:aO->Bool)(l:List aO)(hl:l.length<=1000000)(k:FuncId)(fs cs:List PV)(hp:∀x∈l,aS pw k (fs++[pA (aI x)]++cs) (λr=>r = .val (.bool (p x)))) :
  aS pw 183 [.aU (l.map aI),.iK (.func k) fs cs] (λr=>r = .val (.bool (l.any p))):=by
 refine aR [] func183 ntmps183 results183 ?_;simp only[go_sem];refine aX (af5 p l hl k fs cs hp) (by simp only[go_sem]<;>rfl) (b7 rfl) ?_;simp only[go_sem];exact kQ
theorem af6(p:ah->Bool)(l:List ah)(hl:l.length<=1000000)(v:Nat)(k:FuncId)(fs cs:List PV)(hp:∀x∈l,aS pw k (fs++[pA (ag x)]++cs) (λr=>r = .val (.bool (p x)))) :
  kJ pw 174 v 75 3 (l.map ag) [.iK (.func k) fs cs] (λa c=>a = .row 1000000 (v+1)/\c=some (.row (v+1) 75 3 ((l.filter λx=>!p x).map ag))):=by
 refine rY ?_;refine mP [] Ty.mixed func174 rfl (by kernel_rfl) (by simp[ntmps174]) ?_;rw[ntmps174,results174];simp only[go_sem];refine aX (zo p l hl k fs cs hp) (by simp only[go_sem]<;>rfl) (b7 rfl) ?_;simp only[go_sem];refine aL (λhc=>?_) (λhc=>?_)
 ·have qE:=ct hc;simp only[go_sem];exact⟨_,_,0,rfl,rfl,le_refl _,by rw[take_length,adB qE]⟩
 have qE:=dV hc;obtain⟨i0,hi0,acs,hf0,hp0⟩:=adC qE;simp only[go_sem,hi0,bw acs (by omega)];have hr0:fU p l [l.getD i0 default] (i0+1)=l:=by have h1:=(oI p l [] i0 acs hp0).1;rw[nil_append] at h1;rw[<-h1,fU,hf0,append_nil,take_append_drop]
 have hf1:((l.take (i0+1)).filter λx=>!p x).length=i0:=by rw[(oI p l [] i0 acs hp0).2,hf0,length_take];omega
 refine bM (σ:=Nat×Nat×ah×List ah) (λx=>(cE (cE (cE (cE fS 0 (.row 1000000 v)) 1 (.p (.iK (.func k) fs cs))) 5 (.p (.val (.int .i64 x.1)))) 6 (.p (.val (.int .i64 x.2.1))))) (λx=>(bh cq 1000000 (.row v 75 3 ((fU p l (x.2.2.1 :: x.2.2.2) x.2.1).map ag))))
  (λx=>((l.take x.2.1).filter λz=>!p z).length=x.1/\x.1+(x.2.2.2.length+1)=x.2.1/\x.2.1<=l.length) (λx=>l.length-x.2.1) (i0,i0+1,l.getD i0 default,[]) ⟨hf1,rfl,acs⟩ ?_ ?_
 ·rw[hr0];exact bU
 rintro⟨i,j,y,g⟩ ⟨hx1,hx2,hx3⟩;simp only at hx1 hx2 hx3;have hlen:(fU p l (y :: g) j).length=l.length:=adD p l (y :: g) j i hx1 hx2 hx3;simp only[go_sem];refine aL (λhc=>?_) (λhc=>?_)
 ·have hlt:j<l.length:=by have:=ct hc;rw[hlen] at this;exact this
  have hj:j<(fU p l (y :: g) j).length:=by rw[hlen];exact hlt
  have wh:((fU p l (y :: g) j).map ag).getD j []=ag (l.getD j default):=by rw[getD_map ag hj,af4 p l (y :: g) j i hx1 hx2 hlt]
  simp only[go_sem,wh,ag,bk];refine⟨hj,hj,?_⟩;refine aX (hp (l.getD j default) (by simp[hlt])) (by simp only[go_sem,jR,jQ,ag,pA,bk,Bool.or_false,Bool.false_or,wh]<;>rfl) (b7 rfl) ?_;simp only[go_sem,wh,ag,bk];refine aW (λhb=>?_) (λhb=>?_)
  ·obtain⟨k1,k2⟩:=oI p l (y :: g) j hlt hb;simp only[go_sem,bw hlt (by omega),wh,ag,bk];refine bO (i,j+1,y,g++[l.getD j default]) ⟨by rw[k2];exact hx1,by simp;omega,hlt⟩ (by simp only;omega) ?_;rw[k1];exact bU
  ·obtain⟨k1,k2⟩:=abt p l y g j i hx1 hlt hb;have hij:i<j:=by omega
   have hi':i<(fU p l (y :: g) j).length:=by omega
   have hgi:((fU p l (y :: g) j).map ag).getD i []=ag ((fU p l (y :: g) j).getD i default):=by rw[getD_map ag hi']
   obtain⟨y2,g2,hg2,hl2⟩:∃y2 g2,g++[l.getD j default]=y2 :: g2/\g2.length=g.length:=by
    cases g with
    |nil=>exact⟨_,[],rfl,rfl⟩
    |cons a r=>exact⟨a,r++[l.getD j default],rfl,by simp⟩
   rw[hg2] at k1;have hst:((fU p l (y :: g) j).map ag).set i (ag (l.getD j default))=(fU p l (y2 :: g2) (j+1)).map ag:=by rw[<-k1,map_set]
   simp only[ag,bk] at hst;simp only[go_sem,hgi,ag,bk,bw hlt (by omega),bw hij (by omega),wh];refine⟨hi',hi',?_⟩;refine bO (i+1,j+1,y2,g2) ⟨by rw[k2,length_append,hx1];rfl,by simp only;omega,hlt⟩ (by simp only;omega) ?_;rw[hst];exact bU
 ·have hge:j=l.length:=by have:=dV hc;rw[hlen] at this;omega
  subst hge;rw[take_length] at hx1;simp only[go_sem];refine jP _ _ (nF 36 1000000 v 75 3 _ rfl rfl) (by simp only[go_sem]<;>rfl) ?_ ?_
  ·rw[hlen];omega
  simp only[go_sem,hlen];have xL:((fU p l (y :: g) l.length).map ag).length=l.length:=by rw[length_map];exact hlen
  have hend:=apG ag ((cN pw 75).getD [] |>.map PV.val) p l (y :: g) i hx1;rw[show (cN pw 75).getD []=_ from by simp only[go_sem]<;>rfl] at hend;simp only[rN,length_replicate,append_assoc,map_cons,map_nil] at hend;generalize (fU p l (y :: g) l.length).map ag=E at xL hend ⊢;refine rX 41 _ 1000000 v i (l.length-i) _ 75 3 E _ rfl (by simp only[go_sem]) (by simp only[go_sem]<;>rfl) rfl (by decide) rfl (by simp only[go_sem]<;>rfl) (by simp only[go_sem]) (by omega) (by omega) ?_;simp only[go_sem];refine jP _ _ (nF 39 1000000 v 75 3 _ rfl rfl) (by simp only[go_sem]<;>rfl) ?_ ?_
  ·simp[xL];omega
  simp only[go_sem];exact⟨_,_,_,.inl rfl,rfl,by simp[xL];omega,hend⟩
theorem af7(p:ax->Bool)(l:List ax)(hl:l.length<=1000000)(v:Nat)(k:FuncId)(fs cs:List PV)(hp:∀x∈l,aS pw k (fs++[pA (aj x)]++cs) (λr=>r = .val (.bool (p x)))) :
  kJ pw 177 v 102 4 (l.map aj) [.iK (.func k) fs cs] (λa c=>a = .row 1000000 (v+1)/\c=some (.row (v+1) 102 4 ((l.filter λx=>!p x).map aj))):=by
 refine rY ?_;refine mP [] Ty.mixed func177 rfl (by kernel_rfl) (by simp[ntmps177]) ?_;rw[ntmps177,results177];simp only[go_sem];refine aX (zq p l hl k fs cs hp) (by simp only[go_sem]<;>rfl) (b7 rfl) ?_;simp only[go_sem];refine aL (λhc=>?_) (λhc=>?_)
 ·have qE:=ct hc;simp only[go_sem];exact⟨_,_,0,rfl,rfl,le_refl _,by rw[take_length,adB qE]⟩
 have qE:=dV hc;obtain⟨i0,hi0,acs,hf0,hp0⟩:=adC qE;simp only[go_sem,hi0,bw acs (by omega)];have hr0:fU p l [l.getD i0 default] (i0+1)=l:=by have h1:=(oI p l [] i0 acs hp0).1;rw[nil_append] at h1;rw[<-h1,fU,hf0,append_nil,take_append_drop]
 have hf1:((l.take (i0+1)).filter λx=>!p x).length=i0:=by rw[(oI p l [] i0 acs hp0).2,hf0,length_take];omega
 refine bM (σ:=Nat×Nat×ax×List ax) (λx=>(cE (cE (cE (cE fS 0 (.row 1000000 v)) 1 (.p (.iK (.func k) fs cs))) 5 (.p (.val (.int .i64 x.1)))) 6 (.p (.val (.int .i64 x.2.1))))) (λx=>(bh cq 1000000 (.row v 102 4 ((fU p l (x.2.2.1 :: x.2.2.2) x.2.1).map aj))))
  (λx=>((l.take x.2.1).filter λz=>!p z).length=x.1/\x.1+(x.2.2.2.length+1)=x.2.1/\x.2.1<=l.length) (λx=>l.length-x.2.1) (i0,i0+1,l.getD i0 default,[]) ⟨hf1,rfl,acs⟩ ?_ ?_
 ·rw[hr0];exact bU
 rintro⟨i,j,y,g⟩ ⟨hx1,hx2,hx3⟩;simp only at hx1 hx2 hx3;have hlen:(fU p l (y :: g) j).length=l.length:=adD p l (y :: g) j i hx1 hx2 hx3;simp only[go_sem];refine aL (λhc=>?_) (λhc=>?_)
 ·have hlt:j<l.length:=by have:=ct hc;rw[hlen] at this;exact this
  have hj:j<(fU p l (y :: g) j).length:=by rw[hlen];exact hlt
  have wh:((fU p l (y :: g) j).map aj).getD j []=aj (l.getD j default):=by rw[getD_map aj hj,af4 p l (y :: g) j i hx1 hx2 hlt]
  simp only[go_sem,wh,aj,bk];refine⟨hj,hj,?_⟩;refine aX (hp (l.getD j default) (by simp[hlt])) (by simp only[go_sem,jR,jQ,aj,pA,bk,Bool.or_false,Bool.false_or,wh]<;>rfl) (b7 rfl) ?_;simp only[go_sem,wh,aj,bk];refine aW (λhb=>?_) (λhb=>?_)
  ·obtain⟨k1,k2⟩:=oI p l (y :: g) j hlt hb;simp only[go_sem,bw hlt (by omega),wh,aj,bk];refine bO (i,j+1,y,g++[l.getD j default]) ⟨by rw[k2];exact hx1,by simp;omega,hlt⟩ (by simp only;omega) ?_;rw[k1];exact bU
  ·obtain⟨k1,k2⟩:=abt p l y g j i hx1 hlt hb;have hij:i<j:=by omega
   have hi':i<(fU p l (y :: g) j).length:=by omega
   have hgi:((fU p l (y :: g) j).map aj).getD i []=aj ((fU p l (y :: g) j).getD i default):=by rw[getD_map aj hi']
   obtain⟨y2,g2,hg2,hl2⟩:∃y2 g2,g++[l.getD j default]=y2 :: g2/\g2.length=g.length:=by
    cases g with
    |nil=>exact⟨_,[],rfl,rfl⟩
    |cons a r=>exact⟨a,r++[l.getD j default],rfl,by simp⟩
   rw[hg2] at k1;have hst:((fU p l (y :: g) j).map aj).set i (aj (l.getD j default))=(fU p l (y2 :: g2) (j+1)).map aj:=by rw[<-k1,map_set]
   simp only[aj,bk] at hst;simp only[go_sem,hgi,aj,bk,bw hlt (by omega),bw hij (by omega),wh];refine⟨hi',hi',?_⟩;refine bO (i+1,j+1,y2,g2) ⟨by rw[k2,length_append,hx1];rfl,by simp only;omega,hlt⟩ (by simp only;omega) ?_;rw[hst];exact bU
 ·have hge:j=l.length:=by have:=dV hc;rw[hlen] at this;omega
  subst hge;rw[take_length] at hx1;simp only[go_sem];refine jP _ _ (nF 36 1000000 v 102 4 _ rfl rfl) (by simp only[go_sem]<;>rfl) ?_ ?_
  ·rw[hlen];omega
  simp only[go_sem,hlen];have xL:((fU p l (y :: g) l.length).map aj).length=l.length:=by rw[length_map];exact hlen
  have hend:=apG aj ((cN pw 102).getD [] |>.map PV.val) p l (y :: g) i hx1;rw[show (cN pw 102).getD []=_ from by simp only[go_sem]<;>rfl] at hend;simp only[rN,length_replicate,append_assoc,map_cons,map_nil] at hend;generalize (fU p l (y :: g) l.length).map aj=E at xL hend ⊢;refine rX 42 _ 1000000 v i (l.length-i) _ 102 4 E _ rfl (by simp only[go_sem]) (by simp only[go_sem]<;>rfl) rfl (by decide) rfl (by simp only[go_sem]<;>rfl) (by simp only[go_sem]) (by omega) (by omega) ?_;simp only[go_sem];refine jP _ _ (nF 39 1000000 v 102 4 _ rfl rfl) (by simp only[go_sem]<;>rfl) ?_ ?_
  ·simp[xL];omega
  simp only[go_sem];exact⟨_,_,_,.inl rfl,rfl,by simp[xL];omega,hend⟩
theorem aie(p:aO->Bool)(l:List aO)(hl:l.length<=1000000)(v:Nat)(k:FuncId)(fs cs:List PV)(hp:∀x∈l,aS pw k (fs++[pA (aI x)]++cs) (λr=>r = .val (.bool (p x)))) :
  kJ pw 180 v 105 4 (l.map aI) [.iK (.func k) fs cs] (λa c=>a = .row 1000000 (v+1)/\c=some (.row (v+1) 105 4 ((l.filter λx=>!p x).map aI))):=by
 refine rY ?_;refine mP [] Ty.mixed func180 rfl (by kernel_rfl) (by simp[ntmps180]) ?_;rw[ntmps180,results180];simp only[go_sem];refine aX (af5 p l hl k fs cs hp) (by simp only[go_sem]<;>rfl) (b7 rfl) ?_;simp only[go_sem];refine aL (λhc=>?_) (λhc=>?_)
 ·have qE:=ct hc;simp only[go_sem];exact⟨_,_,0,rfl,rfl,le_refl _,by rw[take_length,adB qE]⟩
 have qE:=dV hc;obtain⟨i0,hi0,acs,hf0,hp0⟩:=adC qE;simp only[go_sem,hi0,bw acs (by omega)];have hr0:fU p l [l.getD i0 default] (i0+1)=l:=by have h1:=(oI p l [] i0 acs hp0).1;rw[nil_append] at h1;rw[<-h1,fU,hf0,append_nil,take_append_drop]
 have hf1:((l.take (i0+1)).filter λx=>!p x).length=i0:=by rw[(oI p l [] i0 acs hp0).2,hf0,length_take];omega
 refine bM (σ:=Nat×Nat×aO×List aO) (λx=>(cE (cE (cE (cE fS 0 (.row 1000000 v)) 1 (.p (.iK (.func k) fs cs))) 5 (.p (.val (.int .i64 x.1)))) 6 (.p (.val (.int .i64 x.2.1))))) (λx=>(bh cq 1000000 (.row v 105 4 ((fU p l (x.2.2.1 :: x.2.2.2) x.2.1).map aI))))
  (λx=>((l.take x.2.1).filter λz=>!p z).length=x.1/\x.1+(x.2.2.2.length+1)=x.2.1/\x.2.1<=l.length) (λx=>l.length-x.2.1) (i0,i0+1,l.getD i0 default,[]) ⟨hf1,rfl,acs⟩ ?_ ?_
 ·rw[hr0];exact bU
 rintro⟨i,j,y,g⟩ ⟨hx1,hx2,hx3⟩;simp only at hx1 hx2 hx3;have hlen:(fU p l (y :: g) j).length=l.length:=adD p l (y :: g) j i hx1 hx2 hx3;simp only[go_sem];refine aL (λhc=>?_) (λhc=>?_)
 ·have hlt:j<l.length:=by have:=ct hc;rw[hlen] at this;exact this
  have hj:j<(fU p l (y :: g) j).length:=by rw[hlen];exact hlt
  have wh:((fU p l (y :: g) j).map aI).getD j []=aI (l.getD j default):=by rw[getD_map aI hj,af4 p l (y :: g) j i hx1 hx2 hlt]
  simp only[go_sem,wh,aI,bk];refine⟨hj,hj,?_⟩;refine aX (hp (l.getD j default) (by simp[hlt])) (by simp only[go_sem,jR,jQ,aI,pA,bk,Bool.or_false,Bool.false_or,wh]<;>rfl) (b7 rfl) ?_;simp only[go_sem,wh,aI,bk];refine aW (λhb=>?_) (λhb=>?_)
  ·obtain⟨k1,k2⟩:=oI p l (y :: g) j hlt hb;simp only[go_sem,bw hlt (by omega),wh,aI,bk];refine bO (i,j+1,y,g++[l.getD j default]) ⟨by rw[k2];exact hx1,by simp;omega,hlt⟩ (by simp only;omega) ?_;rw[k1];exact bU
  ·obtain⟨k1,k2⟩:=abt p l y g j i hx1 hlt hb;have hij:i<j:=by omega
   have hi':i<(fU p l (y :: g) j).length:=by omega
   have hgi:((fU p l (y :: g) j).map aI).getD i []=aI ((fU p l (y :: g) j).getD i default):=by rw[getD_map aI hi']
   obtain⟨y2,g2,hg2,hl2⟩:∃y2 g2,g++[l.getD j default]=y2 :: g2/\g2.length=g.length:=by
    cases g with
    |nil=>exact⟨_,[],rfl,rfl⟩
    |cons a r=>exact⟨a,r++[l.getD j default],rfl,by simp⟩
   rw[hg2] at k1;have hst:((fU p l (y :: g) j).map aI).set i (aI (l.getD j default))=(fU p l (y2 :: g2) (j+1)).map aI:=by rw[<-k1,map_set]
   simp only[aI,bk] at hst;simp only[go_sem,hgi,aI,bk,bw hlt (by omega),bw hij (by omega),wh];refine⟨hi',hi',?_⟩;refine bO (i+1,j+1,y2,g2) ⟨by rw[k2,length_append,hx1];rfl,by simp only;omega,hlt⟩ (by simp only;omega) ?_;rw[hst];exact bU
 ·have hge:j=l.length:=by have:=dV hc;rw[hlen] at this;omega
  subst hge;rw[take_length] at hx1;simp only[go_sem];refine jP _ _ (nF 36 1000000 v 105 4 _ rfl rfl) (by simp only[go_sem]<;>rfl) ?_ ?_
  ·rw[hlen];omega
  simp only[go_sem,hlen];have xL:((fU p l (y :: g) l.length).map aI).length=l.length:=by rw[length_map];exact hlen
  have hend:=apG aI ((cN pw 105).getD [] |>.map PV.val) p l (y :: g) i hx1;rw[show (cN pw 105).getD []=_ from by simp only[go_sem]<;>rfl] at hend;simp only[rN,length_replicate,append_assoc,map_cons,map_nil] at hend;generalize (fU p l (y :: g) l.length).map aI=E at xL hend ⊢;refine rX 43 _ 1000000 v i (l.length-i) _ 105 4 E _ rfl (by simp only[go_sem]) (by simp only[go_sem]<;>rfl) rfl (by decide) rfl (by simp only[go_sem]<;>rfl) (by simp only[go_sem]) (by omega) (by omega) ?_;simp only[go_sem];refine jP _ _ (nF 39 1000000 v 105 4 _ rfl rfl) (by simp only[go_sem]<;>rfl) ?_ ?_
  ·simp[xL];omega
  simp only[go_sem];exact⟨_,_,_,.inl rfl,rfl,by simp[xL];omega,hend⟩
end Go.Proofs.YtjhkgjlmiolfoaaGreat
namespace Go.cv
def Ok{α:Type}(x:Option α)(Q:α->Prop):Prop:=∃r,x=some r/\Q r
section
variable{α β σ O:Type}{Q:O->Prop}
theorem Ok.mk{r:O}(h:Q r):Ok (some r) Q:=⟨r,rfl,h⟩
theorem Ok.eq{x:Option α}{r:α}(h:Ok x (λy=>y=r)):x=some r:=by obtain⟨y,h1,rfl⟩:=h;exact h1
theorem Ok.of{x:Option α}{r:α}(h:x=some r):Ok x (λy=>y=r):=⟨r,h,rfl⟩
theorem Ok.mono{x:Option O}{Q':O->Prop}(h:Ok x Q)(hq:∀r,Q r->Q' r):Ok x Q':=by obtain⟨r,h1,h2⟩:=h;exact⟨r,h1,hq r h2⟩
theorem cC{p:Prop} [Decidable p]{x:Option O}(hp:p)(h:Ok x Q):Ok (cT p x) Q:=by unfold cT;rw[if_pos hp];exact h
theorem cW{b:Bool}{x y:Option O}(h1:b=true->Ok x Q)(h2:b=false->Ok y Q):Ok (cond b x y) Q:=by
 cases b
 ·exact h2 rfl
 ·exact h1 rfl
theorem af8{b:Bool}{x y:Option O}(hb:b=true)(h1:Ok x Q):Ok (cond b x y) Q:=by subst hb;exact h1
theorem ahk{b:Bool}{x y:Option O}(hb:b=false)(h1:Ok y Q):Ok (cond b x y) Q:=by subst hb;exact h1
theorem zv{x:Option α}{k:α->Option O}{R:α->Prop}(h:Ok x R)(hk:∀r,R r->Ok (k r) Q):Ok (thn x k) Q:=by obtain⟨r,rfl,h2⟩:=h;exact hk r h2
theorem ok_eq{x:Option α}{k:α->Option O}{r:α}(h:x=some r)(hk:Ok (k r) Q):Ok (thn x k) Q:=by subst h;exact hk
theorem tK{l:List α}{k:α->Option O}{i:Nat}(hi:i<l.length)(h:Ok (k l[i]) Q):Ok (thn l[i]? k) Q:=ok_eq (getElem?_eq_getElem hi) h
theorem nQ{l:List α}{k:α->Option O}{i:Int}(h0:0<=i)(hi:i.toNat<l.length)(h:Ok (k l[i.toNat]) Q):Ok (thn (nO l i) k) Q:=ok_eq (by unfold nO;rw[if_pos h0];exact getElem?_eq_getElem hi) h
theorem sB{f:Nat->σ->(σ->Option O)->(σ->Option O)->Option O}{K:σ->Option O}(φ:Nat->σ->Prop){n i:Nat}{s:σ}(hi:i<=n)(h0:φ i s)
  (hr:∀j s (cH:σ->Option O),i<=j->j<n->φ j s->(∀s',φ (j+1) s'->Ok (cH s') Q)->Ok (f j s cH K) Q) (he:∀s,φ n s->Ok (K s) Q):Ok (cr f (n-i) i s K) Q:=by
 have key:∀k j s,j+k=n->i<=j->φ j s->Ok (cr f k j s K) Q:=by
  intro k
  induction k with
  |zero =>
   intro j s hj _ h;have:j=n:=by omega
   subst this;exact he s h
  |succ k ih=>intro j s hj hij h;exact hr j s _ hij (by omega) h λs' h'=>ih (j+1) s' (by omega) (by omega) h'
 exact key (n-i) i s (by omega) (le_refl _) h0
theorem ajZ{f:σ->(σ->Option O)->(σ->Option O)->Option O}{K:σ->Option O}(φ:σ->Prop)(μ:σ->Nat){n:Nat}{s:σ}(h0:φ s)(hm:μ s<n)
  (hr:∀s (cH:σ->Option O),φ s->(∀s',φ s'->μ s'<μ s->Ok (cH s') Q)->Ok (f s cH K) Q):Ok (iter f n s K) Q:=by
 have key:∀n s,φ s->μ s<n->Ok (iter f n s K) Q:=by
  intro n
  induction n with
  |zero=>intro s _ h;omega
  |succ n ih=>intro s h hm;exact hr s _ h λs' h' hlt=>ih s' h' (by omega)
 exact key n s h0 hm
theorem dA{n:Int}(h : -9223372036854775808<=n/\n<=9223372036854775807):i64.wrap n=n:=IntWalk.i64_in n (by omega)
end
theorem qJ{α:Type}{p:Prop} [Decidable p]{x:α}(h:p):giv p x=some x:=by unfold giv;rw[if_pos h]
end Go.cv
