/- Joined texts, part 4: lemmas for the statement. No condition. -/
import Derived.Test.YtjhkgjlmiolfoaaGreatJ3
import Derived.Shelf.Spec.SlicesGrow
import Derived.Ground.Names8Prog
import Derived.Test.YtjhkgjlmiolfoaaGreatProg
import Derived.Shelf.SlSortCmp.NoneTotal
import Derived.Ground.SlsfProg
import Derived.ChangeArms
import Derived.SizedLaws
import Derived.Test.YtjhkgjlmiolfoaaGreatJ1
import Derived.OpenShut
import Derived.ProofKit
import Derived.Carry
import Derived.ArgAppend
import Derived.Laws.Slices
set_option maxHeartbeats 4000000
set_option linter.unusedSimpArgs false
set_option linter.unusedVariables false
open Nat (reduceEqDiff reduceLT reduceLeDiff reduceMul reduceAdd reduceSub)
open Go.IntKind (i64)
open Go.Proofs.Tryz
open Go.Proofs.Tryz renaming prog → pw
namespace Go.Proofs.YtjhkgjlmiolfoaaGreat
open Go.cr
theorem asX(t:Types)(hf:fM t)(h:Host)(hh:sM h):aS pw 74 [aD t,cG h] (λr=>r = .dQ [.val (.int .i64 (jU t h).1),.val (.int .i64 (jU t h).2)]):=by
 have hg1:=hh.graph.nodes;have hg2:=hh.graph.au;have hv:=hh.values;refine aQ [] func74 ?_;rw[ntmps74,results74];simp only[go_sem,aD,cG,bl];refine aY (alj t hf) (by simp only[go_sem,aD,cG,bl]<;>rfl) (b6 rfl) ?_;simp only[go_sem,aD,cG,bl];refine aW (λh1=>?_) (λh1=>?_)<;>simp only[go_sem,aD,cG,bl]
 ·have tA:=cu h1;have ht:=tD hf tA
  have e1 : jU t h = if qt h.graph ≠ 0 then (-1, qt h.graph)
    else if h.values.length≠h.graph.nodes.length then (-1,20)
    else match kj (λi=>ni t (h.graph.nodes.getD i default) (h.values.getD i default)) 0 h.graph.nodes.length with
     |some k=>((k:Int),ni t (h.graph.nodes.getD k default) (h.values.getD k default))
     |none=>match kj (tf t h) 0 h.graph.au.length with
      |some k=>((k:Int),tf t h k)
      |none=>(-1,0):=by
   unfold jU;rw[if_neg (by rw[tA];decide)];try rfl
  rw[e1];refine aY (asU h.graph hh.graph) (by simp only[go_sem,aD,cG,bl]<;>rfl) (b6 rfl) ?_;simp only[go_sem,aD,cG,bl];refine aW (λh2=>?_) (λh2=>?_)<;>simp only[go_sem,aD,cG,bl]
  ·have h2':=cu h2;have hg:=okG h2';rw[if_neg (by rw[h2'];decide)];refine aW (λh3=>?_) (λh3=>?_)<;>simp only[go_sem,aD,cG,bl]
   ·have h3':=cu h3;have hvl:h.values.length=h.graph.nodes.length:=by omega
    rw[if_neg (by omega)];generalize hF:(λi=>ni t (h.graph.nodes.getD i default) (h.values.getD i default))=f;refine bL (σ:=Nat) (λx=>(cE (cE (cE (cE (cE fT 2 (.ptr 2 0)) 3 (.ptr 3 0)) 38 (.p (.aV (h.graph.nodes.map encI)))) 39 (.p (.val (.int .i64 h.graph.nodes.length)))) 40 (.p (.val (.int .i64 x)))))
     (λx=>(bk (bk cm 2 (.box [.p (.aV (t.nodes.map aJ)),.p (.aV (t.au.map aL))])) 3 (.box [.p (.aV (h.graph.nodes.map encI)),.p (.aV (h.graph.au.map aZ)),.p (.aV (h.values.map bI))])))
     (λx=>x<=h.graph.nodes.length/\∀j,j<x->f j=0) (λx=>h.graph.nodes.length-x) 0 ⟨Nat.zero_le _,λj hj=>absurd hj (Nat.not_lt_zero j)⟩ bX ?_
    rintro x ⟨hx,hq⟩;simp only[go_sem,aD,cG,bl];refine aK (λhc=>?_) (λhc=>?_)
    ·have hlt:x<h.graph.nodes.length:=by simpa using hc
     have kr:x<h.values.length:=by omega
     have hr:=hh.row _ (ia kr);simp only[go_sem,aD,cG,bl,getD_map encI hlt,hlt,encI,getD_map bI kr,kr,bI];refine dw [.q,.q,.q,.q,.q,.q,.q,.q,.q] (by kernel_rfl) ?_;simp only[go_sem,aD,cG,bl,getD_map encI hlt,hlt,encI,getD_map bI kr,kr,bI];refine jE (axj t ht (h.graph.nodes.getD x default) (hg.kind x hlt).1 (h.values.getD x default) (by omega)) (by simp only[go_sem,aD,cG,bl,getD_map encI hlt,hlt,encI,getD_map bI kr,kr,bI]<;>rfl) (b6 rfl) ?_;simp only[go_sem,aD,cG,bl,getD_map encI hlt,hlt,encI,getD_map bI kr,kr,bI];have e:f x=ni t (h.graph.nodes.getD x default) (h.values.getD x default):=by rw[<-hF]
     refine aW (λh4=>?_) (λh4=>?_)<;>simp only[go_sem,aD,cG,bl,getD_map encI hlt,hlt,encI,getD_map bI kr,kr,bI]
     ·have y4:=cu h4;exact bM (x+1) ⟨hlt,all_succ hq (e.trans y4)⟩ (by omega) (by rw[bz hlt (by omega)];exact bX)
     ·have y4:=en h4;rw[lV (Nat.zero_le _) hlt (λj _=>hq j) (by rw[e];exact y4)];exact⟨rfl,rfl⟩
    ·have hge:h.graph.nodes.length<=x:=by simpa using hc
     rw[gl λj _ hj=>hq j (by omega)];simp only[go_sem,aD,cG,bl];refine bL (σ:=Nat) (λx=>(cE (cE (cE (cE (cE fT 2 (.ptr 2 0)) 3 (.ptr 3 0)) 60 (.p (.aV (h.graph.au.map aZ)))) 61 (.p (.val (.int .i64 h.graph.au.length)))) 62 (.p (.val (.int .i64 x)))))
      (λx=>(bk (bk cm 2 (.box [.p (.aV (t.nodes.map aJ)),.p (.aV (t.au.map aL))])) 3 (.box [.p (.aV (h.graph.nodes.map encI)),.p (.aV (h.graph.au.map aZ)),.p (.aV (h.values.map bI))])))
      (λx=>x<=h.graph.au.length/\∀j,j<x->tf t h j=0) (λx=>h.graph.au.length-x) 0 ⟨Nat.zero_le _,λj hj=>absurd hj (Nat.not_lt_zero j)⟩ bX ?_
     rintro y ⟨hy,hq'⟩;simp only[go_sem,aD,cG,bl];refine aK (λql=>?_) (λql=>?_)
     ·have hlt:y<h.graph.au.length:=by simpa using ql
      have hE:=hg.iu y hlt;obtain⟨a,ha⟩:∃k:Nat,(h.graph.au.getD y default).src=k:=⟨_,(Int.toNat_of_nonneg hE.2.1.1).symm⟩;obtain⟨b,hb⟩:∃k:Nat,(h.graph.au.getD y default).dst=k:=⟨_,(Int.toNat_of_nonneg hE.2.2.1).symm⟩;have hal:a<h.graph.nodes.length:=by have:=hE.2.1.2;rw[ha] at this;omega
      have hbl:b<h.graph.nodes.length:=by have:=hE.2.2.2;rw[hb] at this;omega
      have e0:tf t h y=if (t.au.length:Int)<=(h.graph.au.getD y default).type then 6 else if qU t (h.graph.au.getD y default).type (h.graph.nodes.getD a default) (h.graph.nodes.getD b default)=true then 0 else 13:=by unfold tf;rw[ha,hb,Int.toNat_natCast,Int.toNat_natCast]
      simp only[go_sem,aD,cG,bl,getD_map aZ hlt,hlt,aZ,ha,hb];refine aK (λh5=>?_) (λh5=>?_)<;>simp only[go_sem,aD,cG,bl,getD_map aZ hlt,hlt,aZ,ha,hb]
      ·have h5':=cu h5;have e6:tf t h y=6:=by rw[e0,if_pos h5']
       rw[lV (Nat.zero_le _) hlt (λj _=>hq' j) (by rw[e6];decide)];simp only[e6]
       first|exact⟨rfl,rfl⟩|exact⟨trivial,trivial⟩|exact⟨rfl,trivial⟩|exact⟨trivial,rfl⟩
      ·have h5':=en h5;rw[if_neg h5'] at e0;refine dw [.q,.q,.q,.q,.q,.q,.q,.q,.q,.q,.q,.q,.q,.q,.q,.q,.q,.q,.q] (by kernel_rfl) ?_;simp only[go_sem,getD_map encI hal,hal,getD_map encI hbl,hbl,encI,aD,cG,bl,getD_map aZ hlt,hlt,aZ,ha,hb];refine jE (aAP t hf (h.graph.au.getD y default).type (h.graph.nodes.getD a default) (h.graph.nodes.getD b default)) (by simp only[go_sem,aD,cG,bl,getD_map aZ hlt,hlt,aZ,ha,hb]<;>rfl) (b6 rfl) ?_;simp only[go_sem,aD,cG,bl,getD_map aZ hlt,hlt,aZ,ha,hb];refine aW (λh6=>?_) (λh6=>?_)<;>simp only[go_sem,aD,cG,bl,getD_map aZ hlt,hlt,aZ,ha,hb]
       ·rw[if_pos h6] at e0;exact bM (y+1) ⟨hlt,all_succ hq' e0⟩ (by omega) (by rw[bz hlt (by omega)];exact bX)
       ·rw[if_neg (by rw[h6];decide)] at e0;rw[lV (Nat.zero_le _) hlt (λj _=>hq' j) (by rw[e0];decide)];simp only[e0]
        first|exact⟨rfl,rfl⟩|exact⟨trivial,trivial⟩|exact⟨rfl,trivial⟩|exact⟨trivial,rfl⟩
     ·have aCE:h.graph.au.length<=y:=by simpa using ql
      simp only[go_sem,aD,cG,bl];rw[gl λj _ hj=>hq' j (by omega)];exact⟨rfl,rfl⟩
   ·have h3':=en h3;rw[if_pos (by omega)];exact⟨rfl,rfl⟩
  ·have h2':=en h2;rw[if_pos h2'];exact⟨rfl,rfl⟩
 ·have tA:=en h1;unfold jU;rw[if_pos tA];exact⟨rfl,rfl⟩
theorem aoF(t:Types)(hf:fM t)(h:Host)(hh:sM h):aS pw 55 [aD t,cG h] (λr=>r = .dQ [.val (.int .i64 (jU t h).1),.val (.int .i64 (jU t h).2)]):=by
 have hg1:=hh.graph.nodes;have hg2:=hh.graph.au;have hv:=hh.values;refine aQ [] func55 ?_;rw[ntmps55,results55];simp only[go_sem,aD,cG,bl];refine aY (ac5 t hf) (by simp only[go_sem,aD,cG,bl]<;>rfl) (b6 rfl) ?_;simp only[go_sem,aD,cG,bl];refine aW (λh1=>?_) (λh1=>?_)<;>simp only[go_sem,aD,cG,bl]
 ·have tA:=cu h1;have ht:=tD hf tA
  have e1 : jU t h = if qt h.graph ≠ 0 then (-1, qt h.graph)
    else if h.values.length≠h.graph.nodes.length then (-1,20)
    else match kj (λi=>ni t (h.graph.nodes.getD i default) (h.values.getD i default)) 0 h.graph.nodes.length with
     |some k=>((k:Int),ni t (h.graph.nodes.getD k default) (h.values.getD k default))
     |none=>match kj (tf t h) 0 h.graph.au.length with
      |some k=>((k:Int),tf t h k)
      |none=>(-1,0):=by
   unfold jU;rw[if_neg (by rw[tA];decide)];try rfl
  rw[e1];refine aY (aoE h.graph hh.graph) (by simp only[go_sem,aD,cG,bl]<;>rfl) (b6 rfl) ?_;simp only[go_sem,aD,cG,bl];refine aW (λh2=>?_) (λh2=>?_)<;>simp only[go_sem,aD,cG,bl]
  ·have h2':=cu h2;have hg:=okG h2';rw[if_neg (by rw[h2'];decide)];refine aW (λh3=>?_) (λh3=>?_)<;>simp only[go_sem,aD,cG,bl]
   ·have h3':=cu h3;have hvl:h.values.length=h.graph.nodes.length:=by omega
    rw[if_neg (by omega)];generalize hF:(λi=>ni t (h.graph.nodes.getD i default) (h.values.getD i default))=f;refine bL (σ:=Nat) (λx=>(cE (cE (cE fT 2 (.ptr 2 0)) 3 (.ptr 3 0)) 9 (.p (.val (.int .i64 x)))))
     (λx=>(bk (bk cm 2 (.box [.p (.aV (t.nodes.map aJ)),.p (.aV (t.au.map aL))])) 3 (.box [.p (.aV (h.graph.nodes.map encI)),.p (.aV (h.graph.au.map aZ)),.p (.aV (h.values.map bI))])))
     (λx=>x<=h.graph.nodes.length/\∀j,j<x->f j=0) (λx=>h.graph.nodes.length-x) 0 ⟨Nat.zero_le _,λj hj=>absurd hj (Nat.not_lt_zero j)⟩ bX ?_
    rintro x ⟨hx,hq⟩;simp only[go_sem,aD,cG,bl];refine aK (λhc=>?_) (λhc=>?_)
    ·have hlt:x<h.graph.nodes.length:=by simpa using hc
     have kr:x<h.values.length:=by omega
     have hr:=hh.row _ (ia kr);simp only[go_sem,aD,cG,bl,getD_map encI hlt,hlt,encI,getD_map bI kr,kr,bI];refine dw [.q,.q,.q,.q,.q,.q,.q,.q,.q,.q,.q,.q,.q,.q] (by kernel_rfl) ?_;simp only[go_sem,aD,cG,bl,getD_map encI hlt,hlt,encI,getD_map bI kr,kr,bI];refine jE (asW t ht (h.graph.nodes.getD x default) (hg.kind x hlt).1 (h.values.getD x default) (by omega)) (by simp only[go_sem,aD,cG,bl,getD_map encI hlt,hlt,encI,getD_map bI kr,kr,bI]<;>rfl) (b6 rfl) ?_;simp only[go_sem,aD,cG,bl,getD_map encI hlt,hlt,encI,getD_map bI kr,kr,bI];have e:f x=ni t (h.graph.nodes.getD x default) (h.values.getD x default):=by rw[<-hF]
     refine aW (λh4=>?_) (λh4=>?_)<;>simp only[go_sem,aD,cG,bl,getD_map encI hlt,hlt,encI,getD_map bI kr,kr,bI]
     ·have y4:=cu h4;exact bM (x+1) ⟨hlt,all_succ hq (e.trans y4)⟩ (by omega) (by rw[bz hlt (by omega)];exact bX)
     ·have y4:=en h4;rw[lV (Nat.zero_le _) hlt (λj _=>hq j) (by rw[e];exact y4)];exact⟨rfl,rfl⟩
    ·have hge:h.graph.nodes.length<=x:=by simpa using hc
     rw[gl λj _ hj=>hq j (by omega)];simp only[go_sem,aD,cG,bl];refine bL (σ:=Nat) (λx=>(cE (cE (cE fT 2 (.ptr 2 0)) 3 (.ptr 3 0)) 11 (.p (.val (.int .i64 x)))))
      (λx=>(bk (bk cm 2 (.box [.p (.aV (t.nodes.map aJ)),.p (.aV (t.au.map aL))])) 3 (.box [.p (.aV (h.graph.nodes.map encI)),.p (.aV (h.graph.au.map aZ)),.p (.aV (h.values.map bI))])))
      (λx=>x<=h.graph.au.length/\∀j,j<x->tf t h j=0) (λx=>h.graph.au.length-x) 0 ⟨Nat.zero_le _,λj hj=>absurd hj (Nat.not_lt_zero j)⟩ bX ?_
     rintro y ⟨hy,hq'⟩;simp only[go_sem,aD,cG,bl];refine aK (λql=>?_) (λql=>?_)
     ·have hlt:y<h.graph.au.length:=by simpa using ql
      have hE:=hg.iu y hlt;obtain⟨a,ha⟩:∃k:Nat,(h.graph.au.getD y default).src=k:=⟨_,(Int.toNat_of_nonneg hE.2.1.1).symm⟩;obtain⟨b,hb⟩:∃k:Nat,(h.graph.au.getD y default).dst=k:=⟨_,(Int.toNat_of_nonneg hE.2.2.1).symm⟩;have hal:a<h.graph.nodes.length:=by have:=hE.2.1.2;rw[ha] at this;omega
      have hbl:b<h.graph.nodes.length:=by have:=hE.2.2.2;rw[hb] at this;omega
      have e0:tf t h y=if (t.au.length:Int)<=(h.graph.au.getD y default).type then 6 else if qU t (h.graph.au.getD y default).type (h.graph.nodes.getD a default) (h.graph.nodes.getD b default)=true then 0 else 13:=by unfold tf;rw[ha,hb,Int.toNat_natCast,Int.toNat_natCast]
      simp only[go_sem,aD,cG,bl,getD_map aZ hlt,hlt,aZ,ha,hb];refine aK (λh5=>?_) (λh5=>?_)<;>simp only[go_sem,aD,cG,bl,getD_map aZ hlt,hlt,aZ,ha,hb]
      ·have h5':=cu h5;have e6:tf t h y=6:=by rw[e0,if_pos h5']
       rw[lV (Nat.zero_le _) hlt (λj _=>hq' j) (by rw[e6];decide)];simp only[e6]
       first|exact⟨rfl,rfl⟩|exact⟨trivial,trivial⟩|exact⟨rfl,trivial⟩|exact⟨trivial,rfl⟩
      ·have h5':=en h5;rw[if_neg h5'] at e0;refine dw [.q,.q,.q,.q,.q,.q,.q,.q,.q,.q,.q,.q,.q,.q,.q,.q,.q,.q,.q] (by kernel_rfl) ?_;simp only[go_sem,getD_map encI hal,hal,getD_map encI hbl,hbl,encI,aD,cG,bl,getD_map aZ hlt,hlt,aZ,ha,hb];refine jE (alq t hf (h.graph.au.getD y default).type (h.graph.nodes.getD a default) (h.graph.nodes.getD b default)) (by simp only[go_sem,aD,cG,bl,getD_map aZ hlt,hlt,aZ,ha,hb]<;>rfl) (b6 rfl) ?_;simp only[go_sem,aD,cG,bl,getD_map aZ hlt,hlt,aZ,ha,hb];refine aW (λh6=>?_) (λh6=>?_)<;>simp only[go_sem,aD,cG,bl,getD_map aZ hlt,hlt,aZ,ha,hb]
       ·rw[if_pos h6] at e0;exact bM (y+1) ⟨hlt,all_succ hq' e0⟩ (by omega) (by rw[bz hlt (by omega)];exact bX)
       ·rw[if_neg (by rw[h6];decide)] at e0;rw[lV (Nat.zero_le _) hlt (λj _=>hq' j) (by rw[e0];decide)];simp only[e0]
        first|exact⟨rfl,rfl⟩|exact⟨trivial,trivial⟩|exact⟨rfl,trivial⟩|exact⟨trivial,rfl⟩
     ·have aCE:h.graph.au.length<=y:=by simpa using ql
      simp only[go_sem,aD,cG,bl];rw[gl λj _ hj=>hq' j (by omega)];exact⟨rfl,rfl⟩
   ·have h3':=en h3;rw[if_pos (by omega)];exact⟨rfl,rfl⟩
  ·have h2':=en h2;rw[if_pos h2'];exact⟨rfl,rfl⟩
 ·have tA:=en h1;unfold jU;rw[if_pos tA];exact⟨rfl,rfl⟩
instance(t:Types):Decidable (fM t):=decidable_of_iff (t.nodes.length<=20/\t.au.length<=30/\(∀n∈t.nodes,n.attrs.length<=30)/\(∀n∈t.nodes,n.name.size<=40)/\(∀n∈t.nodes,∀a∈n.attrs,a.name.size<=40)/\(∀n∈t.nodes,∀a∈n.attrs,a.names.length<=25)/\(∀n∈t.nodes,∀a∈n.attrs,∀s∈a.names,s.size<=40)/\∀e∈t.au,e.name.size<=40)
 ⟨λ⟨a,b,c,d,e,f,g,h⟩=>⟨a,b,c,d,e,f,g,h⟩,λ⟨a,b,c,d,e,f,g,h⟩=>⟨a,b,c,d,e,f,g,h⟩⟩
instance(t:Types):Decidable (OkT t):=decidable_of_iff (fM t/\0<t.nodes.length/\t.nodes.length<=12/\t.au.length<=20/\(∀j,j<t.nodes.length->kF t j=0)/\∀j,j<t.au.length->nQ t j=0)
 ⟨λ⟨a,b,c,d,e,f⟩=>⟨a,b,c,d,e,f⟩,λ⟨a,b,c,d,e,f⟩=>⟨a,b,c,d,e,f⟩⟩
instance(g:eS):Decidable (axh g):=decidable_of_iff (g.nodes.length<=45/\g.au.length<=90) ⟨λ⟨a,b⟩=>⟨a,b⟩,λ⟨a,b⟩=>⟨a,b⟩⟩
instance(g:eS):Decidable (alu g):=decidable_of_iff (g.nodes.length<=1000/\g.au.length<=1000) ⟨λ⟨a,b⟩=>⟨a,b⟩,λ⟨a,b⟩=>⟨a,b⟩⟩
instance(h:Host):Decidable (aCF h):=decidable_of_iff (axh h.graph/\h.values.length<=45/\∀l∈h.values,l.length<=12) ⟨λ⟨a,b,c⟩=>⟨a,b,c⟩,λ⟨a,b,c⟩=>⟨a,b,c⟩⟩
instance(h:Host):Decidable (sM h):=decidable_of_iff (alu h.graph/\h.values.length<=1000/\∀l∈h.values,l.length<=1000) ⟨λ⟨a,b,c⟩=>⟨a,b,c⟩,λ⟨a,b,c⟩=>⟨a,b,c⟩⟩
end Go.Proofs.YtjhkgjlmiolfoaaGreat
namespace Go.Proofs
open Go.Shelf
def YtjhkgjlmiolfoaaGreat.aja:Go.Shelf.Ren:=⟨λ| 4=>170|n=>n,λ| 22=>52|25=>57|3=>3|4=>4|9=>9|20=>20|0=>0|n=>n,λ| n=>n⟩
theorem YtjhkgjlmiolfoaaGreat.axk:Go.Proofs.Lays8.n4 pw YtjhkgjlmiolfoaaGreat.aja:={
 mixed:=by kernel_rfl
 f4:=⟨Tryz.f170.name,by decide,Tryz.func170.trans (congrArg some (by kernel_rfl))⟩
 t0:=underlying0
 a0:=isAgg0
 z0:=sizeOf0
 v0:=zeroValue0
 t3:=underlying3
 a3:=isAgg3
 z3:=sizeOf3
 v3:=zeroValue3
 t4:=underlying4
 a4:=isAgg4
 z4:=sizeOf4
 v4:=zeroValue4
 t9:=underlying9
 a9:=isAgg9
 z9:=sizeOf9
 v9:=zeroValue9
 t20:=underlying20
 a20:=isAgg20
 z20:=sizeOf20
 v20:=zeroValue20
 t22:=underlying52
 a22:=isAgg52
 z22:=sizeOf52
 v22:=zeroValue52 }
def YtjhkgjlmiolfoaaGreat.alw:Go.Shelf.Ren:=⟨λ| 4=>186|n=>n,λ| 22=>185|25=>188|3=>3|4=>4|9=>9|20=>20|0=>0|n=>n,λ| n=>n⟩
theorem YtjhkgjlmiolfoaaGreat.aAQ:Go.Proofs.Lays8.n4 pw YtjhkgjlmiolfoaaGreat.alw:={
 mixed:=by kernel_rfl
 f4:=⟨Tryz.f186.name,by decide,Tryz.func186.trans (congrArg some (by kernel_rfl))⟩
 t0:=underlying0
 a0:=isAgg0
 z0:=sizeOf0
 v0:=zeroValue0
 t3:=underlying3
 a3:=isAgg3
 z3:=sizeOf3
 v3:=zeroValue3
 t4:=underlying4
 a4:=isAgg4
 z4:=sizeOf4
 v4:=zeroValue4
 t9:=underlying9
 a9:=isAgg9
 z9:=sizeOf9
 v9:=zeroValue9
 t20:=underlying20
 a20:=isAgg20
 z20:=sizeOf20
 v20:=zeroValue20
 t22:=underlying185
 a22:=isAgg185
 z22:=sizeOf185
 v22:=zeroValue185 }
def YtjhkgjlmiolfoaaGreat.ajb:Go.Shelf.Ren:=⟨λ| 6=>171|15=>260|14=>259|28=>310|29=>311|20=>302|21=>303|22=>304|23=>305|24=>306|25=>307|26=>308|27=>309|46=>367|47=>368|48=>369|49=>370|50=>371|57=>415|n=>n,λ| 22=>52|24=>57|25=>250|3=>3|39=>121|0=>0|53=>204|55=>207|4=>4|46=>377|45=>376|50=>348|5=>5|9=>9|66=>433|70=>437|76=>474|77=>447|n=>n,λ| n=>n⟩
theorem YtjhkgjlmiolfoaaGreat.axl:Go.Proofs.SlLaysF0.n6 pw YtjhkgjlmiolfoaaGreat.ajb:={
 mixed:=by kernel_rfl
 f6:=⟨Tryz.f171.name,by decide,Tryz.func171.trans (congrArg some (by kernel_rfl))⟩
 f14:=⟨Tryz.f259.name,by decide,Tryz.func259.trans (congrArg some (by kernel_rfl))⟩
 f15:=Tryz.func260.trans (congrArg some (by kernel_rfl))
 f20:=⟨Tryz.f302.name,by decide,Tryz.func302.trans (congrArg some (by kernel_rfl))⟩
 f21:=⟨Tryz.f303.name,by decide,Tryz.func303.trans (congrArg some (by kernel_rfl))⟩
 f22:=⟨Tryz.f304.name,by decide,Tryz.func304.trans (congrArg some (by kernel_rfl))⟩
 f23:=⟨Tryz.f305.name,by decide,Tryz.func305.trans (congrArg some (by kernel_rfl))⟩
 f24:=⟨Tryz.f306.name,by decide,Tryz.func306.trans (congrArg some (by kernel_rfl))⟩
 f25:=⟨Tryz.f307.name,by decide,Tryz.func307.trans (congrArg some (by kernel_rfl))⟩
 f26:=⟨Tryz.f308.name,by decide,Tryz.func308.trans (congrArg some (by kernel_rfl))⟩
 f27:=⟨Tryz.f309.name,by decide,Tryz.func309.trans (congrArg some (by kernel_rfl))⟩
 f28:=Tryz.func310.trans (congrArg some (by kernel_rfl))
 f29:=Tryz.func311.trans (congrArg some (by kernel_rfl))
 f46:=⟨Tryz.f367.name,by decide,Tryz.func367.trans (congrArg some (by kernel_rfl))⟩
 f47:=Tryz.func368.trans (congrArg some (by kernel_rfl))
 f48:=Tryz.func369.trans (congrArg some (by kernel_rfl))
 f49:=⟨Tryz.f370.name,by decide,Tryz.func370.trans (congrArg some (by kernel_rfl))⟩
 f50:=⟨Tryz.f371.name,by decide,Tryz.func371.trans (congrArg some (by kernel_rfl))⟩
 f57:=⟨Tryz.f415.name,by decide,Tryz.func415.trans (congrArg some (by kernel_rfl))⟩
 t0:=underlying0
 a0:=isAgg0
 z0:=sizeOf0
 v0:=zeroValue0
 t3:=underlying3
 a3:=isAgg3
 z3:=sizeOf3
 v3:=zeroValue3
 t4:=underlying4
 a4:=isAgg4
 z4:=sizeOf4
 v4:=zeroValue4
 t5:=underlying5
 a5:=isAgg5
 z5:=sizeOf5
 v5:=zeroValue5
 t9:=underlying9
 a9:=isAgg9
 z9:=sizeOf9
 v9:=zeroValue9
 t22:=underlying52
 a22:=isAgg52
 z22:=sizeOf52
 v22:=zeroValue52
 t25:=underlying250
 a25:=isAgg250
 z25:=sizeOf250
 v25:=zeroValue250
 t39:=underlying121
 a39:=isAgg121
 z39:=sizeOf121
 v39:=zeroValue121
 t45:=underlying376
 a45:=isAgg376
 z45:=sizeOf376
 v45:=zeroValue376
 t46:=underlying377
 a46:=isAgg377
 z46:=sizeOf377
 v46:=zeroValue377
 t50:=underlying348
 a50:=isAgg348
 z50:=sizeOf348
 v50:=zeroValue348
 t53:=underlying204
 a53:=isAgg204
 z53:=sizeOf204
 v53:=zeroValue204
 t55:=underlying207
 a55:=isAgg207
 z55:=sizeOf207
 v55:=zeroValue207
 t66:=underlying433
 a66:=isAgg433
 z66:=sizeOf433
 v66:=zeroValue433
 t70:=underlying437
 a70:=isAgg437
 z70:=sizeOf437
 v70:=zeroValue437
 t76:=underlying474
 a76:=isAgg474
 z76:=sizeOf474
 v76:=zeroValue474
 t77:=underlying447
 a77:=isAgg447
 z77:=sizeOf447
 v77:=zeroValue447 }
def YtjhkgjlmiolfoaaGreat.agO:Go.Shelf.Ren:=⟨λ| 6=>254|15=>260|14=>299|28=>310|29=>311|20=>351|21=>352|22=>353|23=>354|24=>355|25=>356|26=>357|27=>358|46=>409|47=>368|48=>369|49=>410|50=>411|57=>433|n=>n,λ| 22=>41|24=>75|25=>307|3=>3|39=>121|0=>0|53=>204|55=>207|4=>4|46=>377|45=>376|50=>348|5=>5|9=>9|66=>433|70=>437|76=>474|77=>447|n=>n,λ| n=>n⟩
theorem YtjhkgjlmiolfoaaGreat.asY:Go.Proofs.SlLaysF0.n6 pw YtjhkgjlmiolfoaaGreat.agO:={
 mixed:=by kernel_rfl
 f6:=⟨Tryz.f254.name,by decide,Tryz.func254.trans (congrArg some (by kernel_rfl))⟩
 f14:=⟨Tryz.f299.name,by decide,Tryz.func299.trans (congrArg some (by kernel_rfl))⟩
 f15:=Tryz.func260.trans (congrArg some (by kernel_rfl))
 f20:=⟨Tryz.f351.name,by decide,Tryz.func351.trans (congrArg some (by kernel_rfl))⟩
 f21:=⟨Tryz.f352.name,by decide,Tryz.func352.trans (congrArg some (by kernel_rfl))⟩
 f22:=⟨Tryz.f353.name,by decide,Tryz.func353.trans (congrArg some (by kernel_rfl))⟩
 f23:=⟨Tryz.f354.name,by decide,Tryz.func354.trans (congrArg some (by kernel_rfl))⟩
 f24:=⟨Tryz.f355.name,by decide,Tryz.func355.trans (congrArg some (by kernel_rfl))⟩
 f25:=⟨Tryz.f356.name,by decide,Tryz.func356.trans (congrArg some (by kernel_rfl))⟩
 f26:=⟨Tryz.f357.name,by decide,Tryz.func357.trans (congrArg some (by kernel_rfl))⟩
 f27:=⟨Tryz.f358.name,by decide,Tryz.func358.trans (congrArg some (by kernel_rfl))⟩
 f28:=Tryz.func310.trans (congrArg some (by kernel_rfl))
 f29:=Tryz.func311.trans (congrArg some (by kernel_rfl))
 f46:=⟨Tryz.f409.name,by decide,Tryz.func409.trans (congrArg some (by kernel_rfl))⟩
 f47:=Tryz.func368.trans (congrArg some (by kernel_rfl))
 f48:=Tryz.func369.trans (congrArg some (by kernel_rfl))
 f49:=⟨Tryz.f410.name,by decide,Tryz.func410.trans (congrArg some (by kernel_rfl))⟩
 f50:=⟨Tryz.f411.name,by decide,Tryz.func411.trans (congrArg some (by kernel_rfl))⟩
 f57:=⟨Tryz.f433.name,by decide,Tryz.func433.trans (congrArg some (by kernel_rfl))⟩
 t0:=underlying0
 a0:=isAgg0
 z0:=sizeOf0
 v0:=zeroValue0
 t3:=underlying3
 a3:=isAgg3
 z3:=sizeOf3
 v3:=zeroValue3
 t4:=underlying4
 a4:=isAgg4
 z4:=sizeOf4
 v4:=zeroValue4
 t5:=underlying5
 a5:=isAgg5
 z5:=sizeOf5
 v5:=zeroValue5
 t9:=underlying9
 a9:=isAgg9
 z9:=sizeOf9
 v9:=zeroValue9
 t22:=underlying41
 a22:=isAgg41
 z22:=sizeOf41
 v22:=zeroValue41
 t25:=underlying307
 a25:=isAgg307
 z25:=sizeOf307
 v25:=zeroValue307
 t39:=underlying121
 a39:=isAgg121
 z39:=sizeOf121
 v39:=zeroValue121
 t45:=underlying376
 a45:=isAgg376
 z45:=sizeOf376
 v45:=zeroValue376
 t46:=underlying377
 a46:=isAgg377
 z46:=sizeOf377
 v46:=zeroValue377
 t50:=underlying348
 a50:=isAgg348
 z50:=sizeOf348
 v50:=zeroValue348
 t53:=underlying204
 a53:=isAgg204
 z53:=sizeOf204
 v53:=zeroValue204
 t55:=underlying207
 a55:=isAgg207
 z55:=sizeOf207
 v55:=zeroValue207
 t66:=underlying433
 a66:=isAgg433
 z66:=sizeOf433
 v66:=zeroValue433
 t70:=underlying437
 a70:=isAgg437
 z70:=sizeOf437
 v70:=zeroValue437
 t76:=underlying474
 a76:=isAgg474
 z76:=sizeOf474
 v76:=zeroValue474
 t77:=underlying447
 a77:=isAgg447
 z77:=sizeOf447
 v77:=zeroValue447 }
def YtjhkgjlmiolfoaaGreat.agP:Go.Shelf.Ren:=⟨λ| 6=>255|15=>260|14=>300|28=>310|29=>311|20=>359|21=>360|22=>361|23=>362|24=>363|25=>364|26=>365|27=>366|46=>412|47=>368|48=>369|49=>413|50=>414|57=>434|n=>n,λ| 22=>42|24=>102|25=>309|3=>3|39=>121|0=>0|53=>204|55=>207|4=>4|46=>377|45=>376|50=>348|5=>5|9=>9|66=>433|70=>437|76=>474|77=>447|n=>n,λ| n=>n⟩
theorem YtjhkgjlmiolfoaaGreat.asZ:Go.Proofs.SlLaysF0.n6 pw YtjhkgjlmiolfoaaGreat.agP:={
 mixed:=by kernel_rfl
 f6:=⟨Tryz.f255.name,by decide,Tryz.func255.trans (congrArg some (by kernel_rfl))⟩
 f14:=⟨Tryz.f300.name,by decide,Tryz.func300.trans (congrArg some (by kernel_rfl))⟩
 f15:=Tryz.func260.trans (congrArg some (by kernel_rfl))
 f20:=⟨Tryz.f359.name,by decide,Tryz.func359.trans (congrArg some (by kernel_rfl))⟩
 f21:=⟨Tryz.f360.name,by decide,Tryz.func360.trans (congrArg some (by kernel_rfl))⟩
 f22:=⟨Tryz.f361.name,by decide,Tryz.func361.trans (congrArg some (by kernel_rfl))⟩
 f23:=⟨Tryz.f362.name,by decide,Tryz.func362.trans (congrArg some (by kernel_rfl))⟩
 f24:=⟨Tryz.f363.name,by decide,Tryz.func363.trans (congrArg some (by kernel_rfl))⟩
 f25:=⟨Tryz.f364.name,by decide,Tryz.func364.trans (congrArg some (by kernel_rfl))⟩
 f26:=⟨Tryz.f365.name,by decide,Tryz.func365.trans (congrArg some (by kernel_rfl))⟩
 f27:=⟨Tryz.f366.name,by decide,Tryz.func366.trans (congrArg some (by kernel_rfl))⟩
 f28:=Tryz.func310.trans (congrArg some (by kernel_rfl))
 f29:=Tryz.func311.trans (congrArg some (by kernel_rfl))
 f46:=⟨Tryz.f412.name,by decide,Tryz.func412.trans (congrArg some (by kernel_rfl))⟩
 f47:=Tryz.func368.trans (congrArg some (by kernel_rfl))
 f48:=Tryz.func369.trans (congrArg some (by kernel_rfl))
 f49:=⟨Tryz.f413.name,by decide,Tryz.func413.trans (congrArg some (by kernel_rfl))⟩
 f50:=⟨Tryz.f414.name,by decide,Tryz.func414.trans (congrArg some (by kernel_rfl))⟩
 f57:=⟨Tryz.f434.name,by decide,Tryz.func434.trans (congrArg some (by kernel_rfl))⟩
 t0:=underlying0
 a0:=isAgg0
 z0:=sizeOf0
 v0:=zeroValue0
 t3:=underlying3
 a3:=isAgg3
 z3:=sizeOf3
 v3:=zeroValue3
 t4:=underlying4
 a4:=isAgg4
 z4:=sizeOf4
 v4:=zeroValue4
 t5:=underlying5
 a5:=isAgg5
 z5:=sizeOf5
 v5:=zeroValue5
 t9:=underlying9
 a9:=isAgg9
 z9:=sizeOf9
 v9:=zeroValue9
 t22:=underlying42
 a22:=isAgg42
 z22:=sizeOf42
 v22:=zeroValue42
 t25:=underlying309
 a25:=isAgg309
 z25:=sizeOf309
 v25:=zeroValue309
 t39:=underlying121
 a39:=isAgg121
 z39:=sizeOf121
 v39:=zeroValue121
 t45:=underlying376
 a45:=isAgg376
 z45:=sizeOf376
 v45:=zeroValue376
 t46:=underlying377
 a46:=isAgg377
 z46:=sizeOf377
 v46:=zeroValue377
 t50:=underlying348
 a50:=isAgg348
 z50:=sizeOf348
 v50:=zeroValue348
 t53:=underlying204
 a53:=isAgg204
 z53:=sizeOf204
 v53:=zeroValue204
 t55:=underlying207
 a55:=isAgg207
 z55:=sizeOf207
 v55:=zeroValue207
 t66:=underlying433
 a66:=isAgg433
 z66:=sizeOf433
 v66:=zeroValue433
 t70:=underlying437
 a70:=isAgg437
 z70:=sizeOf437
 v70:=zeroValue437
 t76:=underlying474
 a76:=isAgg474
 z76:=sizeOf474
 v76:=zeroValue474
 t77:=underlying447
 a77:=isAgg447
 z77:=sizeOf447
 v77:=zeroValue447 }
end Go.Proofs
namespace Go.cr
open Go.RowKit
variable{P:Program}{w:World}{H:Type}{enc:TypeId×Value->H}
def rB(w:World)(cs:List Value)(ps:List PV):Prop:=cs.length=ps.length/\(∀ (j:Nat) u c,cs[j]? = some u->ps[j]? = some c->VR (snap w) u c)/\∀u∈cs,u.oneCell'=true
def axm(P:Program)(t:TypeId)(d:DataW H):Prop:=∀n∈d.weights P t,n<=reachBytes
structure Dec(P:Program)(w:World){H:Type}(enc:TypeId×Value->H){α:Type}(t:TypeId)(sz:Nat)(e:α->List PV)(G:α->Prop):Prop where
 len:∀a,(e a).length=sz
 dec:∀ (sp:Nat->Bool) (hd:Bool) (fuel:Nat) (cs:List Value) (x:DataW H×List MemPlace),DataW.trod enc P w 0 sp hd fuel t cs=some x->axm P t x.1->∃a,G a/\rB w cs (e a)
theorem rB.one{u:Value}{p:PV}(h:VR (snap w) u p)(h1:u.oneCell'=true):rB w [u] [p] :=
 ⟨rfl,λj u' c hu hc=>by
  cases j with
  |zero=>simp at hu hc;subst hu hc;exact h
  |succ j=>simp at hu,λu' hu=>by simp at hu;subst hu;exact h1⟩
theorem Dec.int{t:TypeId}(ht:P.underlying t=some (.int .i64)):Dec P w enc t 1 (λn:Int=>[.val (.int .i64 n)]) (λ_=>True) :=
 ⟨λ_=>rfl,λsp hd fuel cs x h _=>by
  obtain⟨n,rfl,_⟩:=DataW.trod_int ht h;exact⟨n,trivial,.one (.val _ rfl) rfl⟩⟩
theorem Dec.bool{t:TypeId}(ht:P.underlying t=some .bool):Dec P w enc t 1 (λb:Bool=>[.val (.bool b)]) (λ_=>True) :=
 ⟨λ_=>rfl,λsp hd fuel cs x h _=>by
  obtain⟨n,rfl,_⟩:=DataW.trod_bool ht h;exact⟨n,trivial,.one (.val _ rfl) rfl⟩⟩
theorem Dec.map{α β:Type}{t:TypeId}{sz:Nat}{e:α->List PV}{G:α->Prop}{e':β->List PV}{G':β->Prop}(g:α->β)(f:β->α)(hgf:∀b,e (f b)=e' b)(hg:∀a,e' (g a)=e a)(hG:∀a,G a->G' (g a))(h:Dec P w enc t sz e G):Dec P w enc t sz e' G' :=
 ⟨λb=>by rw[<-hgf];exact h.len _,λsp hd fuel cs x hx hw=>by
  obtain⟨a,h1,h2⟩:=h.dec sp hd fuel cs x hx hw;exact⟨g a,hG a h1,by rw[hg];exact h2⟩⟩
theorem uv{e:TypeId} : ∀ {ds:List (DataW H)} {d:DataW H},d∈ds->∀n∈d.weights P e,n∈DataW.weightsAll P e ds
 |d0 :: r,d,hd,n,hn=>by
  rw[DataW.weightsAll,List.mem_append];rcases List.mem_cons.1 hd with rfl|h
  ·exact .inl hn
  ·exact .inr (uv h n hn)
theorem mapM_some{α β:Type}{f:α->Option β} : ∀ {l:List α} {r:List β},l.mapM f=some r->r.length=l.length/\∀ (i:Nat) a,l[i]? = some a->r[i]? = f a:=by
 intro l
 induction l with
 |nil=>intro r h;simp at h;subst h;exact⟨rfl,by simp⟩
 |cons a l ih =>
  intro r h;rw[List.mapM_cons] at h;cases ha:f a with
  |none=>rw[ha] at h;cases h
  |some b =>
   rw[ha] at h;cases hl:l.mapM f with
   |none=>rw[hl] at h;cases h
   |some r' =>
    rw[hl] at h;have:r=b :: r':=by simpa using h.symm
    subst this;obtain⟨h1,h2⟩:=ih hl;refine⟨by simp[h1],λi x hx=>?_⟩;cases i with
    |zero=>simp at hx;subst hx;simp[ha]
    |succ i=>simpa using h2 i x (by simpa using hx)
theorem abj{a:Addr}{n:Nat}{cs:List Value}(h:w.cells? 0 a n=some cs):cs.length=n/\(∀ (i:Nat) u,cs[i]? = some u->w.cell? (a.add i)=some u):=by
 unfold World.cells? at h;rw[if_pos (Nat.zero_le _)] at h;obtain⟨h1,h2⟩:=mapM_some h;refine⟨by simpa using h1,λi u hu=>?_⟩;have hi:i<n:=by have:=(List.getElem?_eq_some_iff.1 hu).1;simpa[h1] using this
 rw[<-h2 i i (by simp[hi]),hu]
theorem as0{a:Addr}{u:Value}(h:w.cell? a=some u):a.spot=none:=by
 unfold World.cell? at h;split at h
 ·split at h
  ·cases h
  ·rename_i hs;cases hsp:a.spot with
   |none=>rfl
   |some _=>simp[hsp] at hs
 ·cases h
theorem adM{α:Type}{n:Nat}{Q:Nat->α->Prop}(h:∀i,i<n->∃a,Q i a):∃l:List α,l.length=n/\∀ (i:Nat) a,l[i]? = some a->Q i a:=by
 induction n with
 |zero=>exact⟨[],rfl,by simp⟩
 |succ n ih =>
  obtain⟨l,h1,h2⟩:=ih λi hi=>h i (by omega)
  obtain⟨a,ha⟩:=h n (by omega);refine⟨l++[a],by simp[h1],λi b hb=>?_⟩;rcases Nat.lt_or_ge i l.length with hi|hi
  ·rw[List.getElem?_append_left hi] at hb;exact h2 i b hb
  ·rw[List.getElem?_append_right hi] at hb;have:i-l.length=0:=by have:=(List.getElem?_eq_some_iff.1 hb).1;simp at this;omega
   rw[this] at hb;simp at hb;subst hb;have:i=n:=by omega
   subst this;exact ha
end Go.cr
namespace Go.cr
open Go.RowKit
variable{P:Program}
theorem sk.len:∀ {ps' ps:List PV},sk ps' ps->ps'.length=ps.length
 | [],[],_=>rfl
 | [],_ :: _,h=>h.elim
 |_ :: _,[],h=>h.elim
 |_ :: _,_ :: _,h=>by simp[sk.len h.2]
theorem sk.at:∀ {ps' ps:List PV},sk ps' ps->∀ {j:Nat} {c:PV},ps[j]? = some c->∃c',ps'[j]? = some c'/\PLe c' c
 | [],[],_,_,_,h=>by simp at h
 | [],_ :: _,h,_,_,_=>h.elim
 |_ :: _,[],h,_,_,_=>h.elim
 |a :: r,b :: s,h,j,c,hc=>by
  cases j with
  |zero=>simp at hc;subst hc;exact⟨a,rfl,h.1⟩
  |succ j=>obtain⟨c',h1,h2⟩:=sk.at h.2 (j:=j) (c:=c) (by simpa using hc);exact⟨c',by simpa using h1,h2⟩
theorem PLe.agg{ps' ps:List PV}(h:sk ps' ps):PLe (.agg ps') (.agg ps):=λI v hv=>by
 cases hv with
 |agg us _ hl hv hone=>refine .agg us ps (hl.trans h.len) (λj u c hu hc=>?_) hone;obtain⟨c',h1,h2⟩:=h.at hc;exact h2 I u (hv j u c' hu h1)
theorem PLe.dQ{ps' ps:List PV}(h:sk ps' ps):PLe (.dQ ps') (.dQ ps):=λI v hv=>by
 cases hv with
 |dQ us _ hl hv=>refine .dQ us ps (hl.trans h.len) (λj u c hu hc=>?_);obtain⟨c',h1,h2⟩:=h.at hc;exact h2 I u (hv j u c' hu h1)
theorem sk.refl:∀ps:List PV,sk ps ps
 | []=>trivial
 |a :: r=>⟨PLe.refl a,sk.refl r⟩
theorem aS.le{f:FuncId}{args:List PV}{Q Q':PV->Prop}(h:aS P f args Q)(hq:∀r,Q r->∃r',PLe r r'/\Q' r'):aS P f args Q' :=
 ⟨h.1,λI w vs hI hv=>(h.2 I w vs hI hv).mono λ_ _ ⟨v,r,I',h1,h2,h3,h4⟩=>by
  obtain⟨r',h5,h6⟩:=hq r h2;exact⟨v,r',I',h1,h6,h5 _ _ h3,h4⟩⟩
end Go.cr
namespace Go.cr
open Go.RowKit
theorem PLe.aV{es' es:List (List PV)}(hl:es'.map (·.length)=es.map (·.length))(hf:sk es'.flatten es.flatten):PLe (.aV es') (.aV es):=λI v hv=>by
 cases hv with
 |aV ao n cap _ us sz hn hsz hu hv hone hm hnil hcap =>
  have hlen:es'.length=es.length:=by have:=congrArg List.length hl;simpa using this
  refine .aV ao _ cap es us sz (by rw[<-hlen];exact hn) (λe he=>?_) (hu.trans hf.len) (λj u c hu hc=>?_) hone hm hnil hcap
  ·obtain⟨i,hi,rfl⟩:=List.getElem_of_mem he;have h1:(es'.map (·.length))[i]? = (es.map (·.length))[i]?:=by rw[hl]
   have hi':i<es'.length:=by omega
   simp only[List.getElem?_map,List.getElem?_eq_getElem hi,List.getElem?_eq_getElem hi',Option.map_some,cA] at h1;rw[<-h1];exact hsz _ (nI hi')
  ·obtain⟨c',h1,h2⟩:=hf.at hc;exact h2 I u (hv j u c' hu h1)
variable{P:Program}{w:World}{H:Type}{enc:TypeId×Value->H}
theorem alx{a:Addr}(h:a.spot=none)(n:Nat):a.add n=⟨a.block,a.off+n,none⟩:=by
 obtain⟨b,o,s⟩:=a;simp only at h;subst h;unfold Addr.add;split
 ·rename_i hn;simp[hn]
 ·rfl
theorem aly{α:Type}{ec:α->List PV}{sz:Nat}(h0:0<sz)(hlen:∀a,(ec a).length=sz){a:Addr}{len cap:Nat}(hcap:len<=cap){l:List (α×List Value)}(hl:l.length=len)
  (h:∀ (i:Nat) (x:α×List Value),l[i]? = some x->w.cells? 0 (a.add (i * sz)) sz=some x.2/\rB w x.2 (ec x.1)):VR (snap w) (.slice (some a) len cap) (.aV ((l.map (·.1)).map ec)):=by
 have hall:∀e∈(l.map (·.1)).map ec,e.length=sz:=λe he=>by obtain⟨x,_,rfl⟩:=List.mem_map.1 he;exact hlen x
 have hcs:∀c∈l.map (·.2),c.length=sz:=λc hc=>by obtain⟨x,hx,rfl⟩:=List.mem_map.1 hc;obtain⟨i,hi⟩:=List.mem_iff_getElem?.1 hx;exact (abj (h i x hi).1).1
 have at':∀ (j:Nat) u,(l.map (·.2)).flatten[j]? = some u->∃x,l[j / sz]? = some x/\x.2[j % sz]? = some u:=λj u hu=>by have hj:j<(l.map (·.2)).flatten.length:=(List.getElem?_eq_some_iff.1 hu).1;rw[bG hcs,List.length_map] at hj;have hd:j / sz<l.length:=(Nat.div_lt_iff_lt_mul h0).2 hj;have e2:=gW hcs (j / sz) (j % sz) (by simpa using hd) (Nat.mod_lt _ h0);rw[Nat.div_add_mod' j sz,hu] at e2;refine⟨l[j / sz],List.getElem?_eq_getElem hd,?_⟩;rw[e2];simp[hd]
 refine .aV (some a) len cap _ (l.map (·.2)).flatten sz (by simp[hl]) hall ?_ (λj u c hu hc=>?_) (λu hu=>?_) ?_ (by simp) hcap
 ·rw[bG hcs,bG hall];simp
 ·obtain⟨x,hx,hxu⟩:=at' j u hu;have hd:j / sz<l.length:=(List.getElem?_eq_some_iff.1 hx).1;have e2:=gW hall (j / sz) (j % sz) (by simpa using hd) (Nat.mod_lt _ h0);rw[Nat.div_add_mod' j sz,hc] at e2;have e3:((l.map (·.1)).map ec).getD (j / sz) []=ec x.1:=by
   have:l[j / sz]=x:=by have:=List.getElem?_eq_getElem hd;rw[hx] at this;exact (Option.some.inj this).symm
   simp[hd,this]
  rw[e3] at e2;exact (h _ x hx).2.2.1 _ u c hxu e2.symm
 ·obtain⟨c,hc,huc⟩:=List.mem_flatten.1 hu;obtain⟨x,hx,rfl⟩:=List.mem_map.1 hc;obtain⟨i,hi⟩:=List.mem_iff_getElem?.1 hx;exact (h i x hi).2.2.2 u huc
 ·by_cases hn:(l.map (·.2)).flatten=[]
  ·exact .inl hn
  ·right;have hpos:0<l.length:=by
    rcases Nat.eq_zero_or_pos l.length with h'|h'
    ·exact absurd (by rw[List.length_eq_zero_iff.1 h'];rfl) hn
    ·exact h'
   have hsp:a.spot=none:=by
    have hx:=h 0 l[0] (List.getElem?_eq_getElem hpos);obtain⟨k1,k2⟩:=abj hx.1;have h00:0<l[0].2.length:=by rw[k1];exact h0
    have:=k2 0 l[0].2[0] (List.getElem?_eq_getElem h00);have:=as0 this;simpa[Addr.add] using this
   refine⟨a.block,a.off,?_,λj u hu=>?_⟩
   ·obtain⟨b,o,s⟩:=a;simp only at hsp;subst hsp;rfl
   ·obtain⟨x,hx,hxu⟩:=at' j u hu;have:=(abj (h _ x hx).1).2 _ u hxu;rw[alx hsp,alx rfl] at this;simp only at this;rw[Nat.add_assoc,Nat.div_add_mod' j sz] at this;exact this
theorem Dec.slice{α:Type}{t e:TypeId}{sz:Nat}{ec:α->List PV}{G:α->Prop}(ht:P.underlying t=some (.slice e))(hc:P.cellsOf e=sz)(h0:0<sz)(hb:0<P.bytesOf e)(he:Dec P w enc e sz ec G) :
  Dec P w enc t 1 (λl:List α=>[.aV (l.map ec)]) (λl=>(∀a∈l,G a)/\l.length<=reachBytes) :=
 ⟨λ_=>rfl,λsp hd fuel cs x h hw=>by
  rcases DataW.trod_slice ht h with ⟨rfl,rfl⟩|⟨a,len,cap,elems,rest,n,_,rfl,rfl,_,hle,_,hlen,hel,_,_⟩
  ·exact⟨[],⟨by simp,by simp⟩,.one (.aV none 0 0 [] [] 1 rfl (by simp) rfl (by simp) (by simp) (.inl rfl) (λ_=>⟨rfl,rfl⟩) (Nat.le_refl _)) rfl⟩
  ·have hwt:∀k,k∈((elems.map (·.1)).length+(rest.map (·.1)).length) * P.bytesOf e :: (DataW.weightsAll P e (elems.map (·.1))++DataW.weightsAll P e (rest.map (·.1)))->k<=reachBytes:=λk hk=>by refine hw k ?_;simp only[DataW.weights,ht];exact hk
   obtain⟨l,l1,l2⟩:=adM (n:=len) (Q:=λi (x:α×List Value)=>G x.1/\w.cells? 0 (a.add (i * sz)) sz=some x.2/\rB w x.2 (ec x.1)) λi hi=>by
    have h1:=hel i hi;have hi':i<elems.length:=by omega
    rw[List.getElem?_eq_getElem hi',hc] at h1;obtain⟨cs',h2,h3⟩:=Option.bind_eq_some_iff.1 h1;obtain⟨b,h4,h5⟩:=he.dec sp hd n cs' _ h3 λk hk=>hwt k (List.mem_cons_of_mem _ (List.mem_append_left _ (uv (List.mem_map.2 ⟨elems[i],nI hi',rfl⟩) k hk)))
    exact⟨(b,cs'),h4,h2,h5⟩
   refine⟨l.map (·.1),⟨λb hb'=>?_,?_⟩,.one (aly h0 he.len hle l1 λi x hx=>(l2 i x hx).2) rfl⟩
   ·obtain⟨x,hx,rfl⟩:=List.mem_map.1 hb';obtain⟨i,hi⟩:=List.mem_iff_getElem?.1 hx;exact (l2 i x hi).1
   ·have:=hwt _ (List.mem_cons_self ..);rw[List.length_map,List.length_map,hlen] at this;rw[List.length_map,l1];exact Nat.le_trans (Nat.le_trans (Nat.le_add_right len rest.length) (Nat.le_mul_of_pos_right _ hb)) this⟩
structure afo(P:Program)(w:World){H:Type}(enc:TypeId×Value->H){α:Type}(fs:List Field)(off sz:Nat)(e:α->List PV)(G:α->Prop):Prop where
 len:∀a,(e a).length=sz
 dec:∀ (sp:Nat->Bool) (hd:Bool) (n:Nat) (cs:List Value) (ds:List (DataW H)),ds.length=fs.length->cs.length=off+sz->(∀ (i:Nat) f,fs[i]? = some f->∃ps,DataW.trod enc P w 0 sp hd n f.type ((cs.drop f.offset).take (P.cellsOf f.type))=(ds[i]?).map λd=>(d,ps)) ->
  (∀k∈DataW.weightsEach P (fs.map (·.type)) ds,k<=reachBytes)->∃a,G a/\rB w (cs.drop off) (e a)
theorem afo.nil(off:Nat):afo P w enc [] off 0 (λ_:Unit=>[]) (λ_=>True) :=
 ⟨λ_=>rfl,λsp hd n cs ds _ hl _ _=>⟨(),trivial,by
  have:cs.drop off=[]:=List.drop_eq_nil_of_le (by omega);rw[this];exact⟨rfl,by simp,by simp⟩⟩⟩
theorem rB.append{cs ds:List Value}{ps qs:List PV}(h:rB w cs ps)(k:rB w ds qs):rB w (cs++ds) (ps++qs):=by
 refine⟨by simp[h.1,k.1],λj u c hu hc=>?_,λu hu=>?_⟩
 ·rcases Nat.lt_or_ge j cs.length with hj|hj
  ·rw[List.getElem?_append_left hj] at hu;rw[List.getElem?_append_left (by rw[<-h.1];exact hj)] at hc;exact h.2.1 j u c hu hc
  ·rw[List.getElem?_append_right hj] at hu;rw[List.getElem?_append_right (by rw[<-h.1];exact hj),<-h.1] at hc;exact k.2.1 _ u c hu hc
 ·rcases List.mem_append.1 hu with hu|hu
  ·exact h.2.2 u hu
  ·exact k.2.2 u hu
theorem afo.cons{α β:Type}{f:Field}{fs:List Field}{off sz sz':Nat}{e:α->List PV}{G:α->Prop}{e':β->List PV}{G':β->Prop}(ho:f.offset=off)(hc:P.cellsOf f.type=sz)(h:Dec P w enc f.type sz e G)(hr:afo P w enc fs (off+sz) sz' e' G') :
  afo P w enc (f :: fs) off (sz+sz') (λx:α×β=>e x.1++e' x.2) (λx=>G x.1/\G' x.2) :=
 ⟨λx=>by rw[List.length_append,h.len,hr.len],λsp hd n cs ds hl hcs hall hw=>by
  match ds,hl with
  | [],hl=>simp at hl
  |d :: ds,hl =>
   rw[List.map_cons,DataW.weightsEach] at hw;obtain⟨ps,h0⟩:=hall 0 f rfl;simp only[List.getElem?_cons_zero,Option.map_some] at h0;obtain⟨a,a1,a2⟩:=h.dec sp hd n _ _ h0 λk hk=>hw k (List.mem_append_left _ hk)
   obtain⟨b,b1,b2⟩:=hr.dec sp hd n cs ds (by simpa using hl) (by omega) (λi g hg=>by simpa using hall (i+1) g (by simpa using hg)) λk hk=>hw k (List.mem_append_right _ hk)
   refine⟨(a,b),⟨a1,b1⟩,?_⟩;have e1:cs.drop off=(cs.drop off).take sz++cs.drop (off+sz):=by rw[<-List.drop_drop,List.take_append_drop]
   rw[e1];rw[ho,hc] at a2;exact a2.append b2⟩
theorem Dec.struct{α:Type}{t:TypeId}{fs:Array Field}{sz:Nat}{e:α->List PV}{G:α->Prop}(ht:P.underlying t=some (.struct fs))(hc:P.cellsOf t=sz)(h:afo P w enc fs.toList 0 sz e G):Dec P w enc t sz e G :=
 ⟨h.len,λsp hd fuel cs x hx hw=>by
  obtain⟨xs,n,_,rfl,hl,hxs,hf⟩:=DataW.trod_struct ht hx;obtain⟨a,a1,a2⟩:=h.dec sp hd n cs (xs.map (·.1)) (by simp[hxs]) (by rw[hl,hc,Nat.zero_add]) (λi f hi=>by
   have h1:=hf i f (by simpa using hi);have hlt:i<xs.length:=by have:=(List.getElem?_eq_some_iff.1 hi).1;rw[hxs];simpa using this
   refine⟨xs[i].2,?_⟩;rw[h1];simp[hlt]) λk hk=>hw k (by
    simp only[DataW.weights,ht];exact hk)
  exact⟨a,a1,by simpa using a2⟩⟩
end Go.cr
namespace Go.cr
open Go.RowKit
variable{P:Program}{w:World}{H:Type}{enc:TypeId×Value->H}
theorem Dec.aH8{t:TypeId}(k:IntKind)(ht:P.underlying t=some (.int k)):Dec P w enc t 1 (λn:Int=>[.val (.int k n)]) (λn=>k.min<=n/\n<=k.max) :=
 ⟨λ_=>rfl,λsp hd fuel cs x h _=>by
  obtain⟨n,rfl,_,hw⟩:=DataW.trod_int ht h;refine⟨n,?_,.one (.val _ rfl) rfl⟩;simpa[Lit.wf] using hw⟩
def aEj (e:TypeId) (off:Nat):Field:={ name := "",type:=e,offset:=off,embedded:=false,tag := "",pkgPath := "",byteOffset:=0 }
def ahz(n:Nat)(e:TypeId)(sz:Nat):List Field:=(List.range n).map λi=>aEj e (i * sz)
theorem xV{e:TypeId} : ∀ (n:Nat) (ds:List (DataW H)),ds.length=n->DataW.weightsEach P (List.replicate n e) ds=DataW.weightsAll P e ds
 |0,[],_=>rfl
 |n+1,d :: r,h=>by rw[List.replicate_succ,DataW.weightsEach,DataW.weightsAll,xV n r (by simpa using h)]
 |n+1,[],h=>by simp at h
 |0,d :: r,h=>by simp at h
theorem Dec.array{α:Type}{t e:TypeId}{n sz sz0:Nat}{ec:α->List PV}{G:α->Prop}(ht:P.underlying t=some (.array n e))(hc:P.cellsOf t=sz)(h0:P.cellsOf e=sz0)(h:afo P w enc (ahz n e sz0) 0 sz ec G):Dec P w enc t sz ec G :=
 ⟨h.len,λsp hd fuel cs x hx hw=>by
  obtain⟨xs,m,_,rfl,hl,hxs,hf⟩:=DataW.trod_array ht hx;obtain⟨a,a1,a2⟩:=h.dec sp hd m cs (xs.map (·.1)) (by simp[hxs,ahz]) (by rw[hl,hc,Nat.zero_add]) (λi f hi=>by
   have hlt:i<n:=by have:=(List.getElem?_eq_some_iff.1 hi).1;simpa[ahz] using this
   have hfe:f=aEj e (i * sz0):=by simpa[ahz,hlt] using hi.symm
   subst hfe;have h1:=hf i hlt;refine⟨(xs[i]'(by omega)).2,?_⟩;subst h0;show DataW.trod enc P w 0 sp hd m e (List.take (P.cellsOf e) (List.drop (i * P.cellsOf e) cs))=_;rw[h1];simp[hxs,hlt]) λk hk=>hw k (by
    simp only[DataW.weights,ht];have e1:(ahz n e sz0).map (·.type)=List.replicate n e:=by unfold ahz;rw[List.map_map];exact (List.map_const' ..).trans (by rw[List.length_range])
    rw[e1,xV n _ (by simp[hxs])] at hk;exact hk)
  exact⟨a,a1,by simpa using a2⟩⟩
end Go.cr
namespace Go.cr
open Go.ChangeShapes Go.WideShapes Go.ChangeAt Go.RowKit
variable{P:Program}{W:World}{H:Type}{enc:TypeId×Value->H}{α β:Type}
structure ajc(P:Program)(W:World){H:Type}(enc:TypeId×Value->H){α:Type}(t:TypeId)(e:α->PV)(G:α->Prop):Prop where
 dec:∀b0 v d ps,Value.okWide P W .any b0 t v->DataW.Trod enc P W 0 (λ_=>true) true t v d ps->axm P t d->∃a,G a/\VR (snap W) v (e a)
 read:P.readableRec t=true
 size:t<P.types.size
theorem ajc.struct{t:TypeId}{fs:Array Field}{sz:Nat}{e:α->List PV}{G:α->Prop}(ht:P.underlying t=some (.struct fs))(axn:Dec P W enc t sz e G)(hr:P.readableRec t=true)(hs:t<P.types.size):ajc P W enc t (λa=>.agg (e a)) G :=
 ⟨λb0 v d ps hval h hw=>by
  unfold Value.okWide at hval;rw[ht] at hval;obtain⟨cs,rfl,_⟩:=hval;obtain⟨fuel,hf⟩:=h;obtain⟨a,h1,h2⟩:=axn.dec _ _ fuel _ _ hf hw;refine⟨a,h1,?_⟩;have:VR (snap W) (.agg (cs.toList).toArray) (.agg (e a)):=.agg cs.toList (e a) h2.1 h2.2.1 h2.2.2;simpa using this,hr,hs⟩
theorem ajc.array{t e':TypeId}{n sz:Nat}{e:α->List PV}{G:α->Prop}(ht:P.underlying t=some (.array n e'))(axn:Dec P W enc t sz e G)(hr:P.readableRec t=true)(hs:t<P.types.size):ajc P W enc t (λa=>.agg (e a)) G :=
 ⟨λb0 v d ps hval h hw=>by
  unfold Value.okWide at hval;rw[ht] at hval;obtain⟨cs,rfl,_⟩:=hval;obtain⟨fuel,hf⟩:=h;obtain⟨a,h1,h2⟩:=axn.dec _ _ fuel _ _ hf hw;refine⟨a,h1,?_⟩;have:VR (snap W) (.agg (cs.toList).toArray) (.agg (e a)):=.agg cs.toList (e a) h2.1 h2.2.1 h2.2.2;simpa using this,hr,hs⟩
theorem ajc.one{t:TypeId}{e:α->PV}{G:α->Prop}(ht:∀b0 v,Value.okWide P W .any b0 t v->v.cells.toList=[v])(axn:Dec P W enc t 1 (λa=>[e a]) G)(hr:P.readableRec t=true)(hs:t<P.types.size):ajc P W enc t e G :=
 ⟨λb0 v d ps hval h hw=>by
  obtain⟨fuel,hf⟩:=h;rw[ht b0 v hval] at hf;obtain⟨a,h1,h2⟩:=axn.dec _ _ fuel _ _ hf hw;exact⟨a,h1,h2.2.1 0 v (e a) rfl rfl⟩,hr,hs⟩
theorem adN:∀ {ts:List TypeId} {vs:List Value} {ds:List (DataW H)} {ps:List MemPlace},DataW.TrodAll enc P W 0 (λ_=>true) true ts vs ds ps->ds.length=ts.length
 | [],vs,ds,ps,h=>by obtain⟨rfl,rfl,rfl⟩:=trodAll_nil h;rfl
 |t :: ts,vs,ds,ps,h=>by obtain⟨v,vs',d,ds',p,q,rfl,rfl,rfl,h1,h2⟩:=trodAll_cons h;rw[List.length_cons,List.length_cons,adN h2]
structure ahA(P:Program)(W:World){H:Type}(enc:TypeId×Value->H){α:Type}(ts:List TypeId)(e:α->List PV)(G:α->Prop):Prop where
 dec:∀b0 vs ds ps,(∀ (j:Nat) t v,ts[j]? = some t->vs[j]? = some v->Value.okWide P W .any b0 t v)->DataW.TrodAll enc P W 0 (λ_=>true) true ts vs ds ps->(∀n∈DataW.weightsEach P ts ds,n<=reachBytes) ->
  ∃a,G a/\vs.length=(e a).length/\∀ (j:Nat) u x,vs[j]? = some u->(e a)[j]? = some x->VR (snap W) u x
 stay:laidOutB P=true->∀vs ds ps W',DataW.TrodAll enc P W 0 (λ_=>true) true ts vs ds ps->Below W.heap.size W W'->(∀x∈ps,x.block<W.heap.size)->DataW.TrodAll enc P W' 0 (λb=>decide (b<W.heap.size)) true ts vs ds ps
theorem ahA.nil:ahA P W enc [] (λ_:Unit=>[]) (λ_=>True) :=
 ⟨λb0 vs ds ps _ h _=>by
  obtain⟨rfl,rfl,rfl⟩:=trodAll_nil h;exact⟨(),trivial,rfl,λj u x hu=>by simp at hu⟩,λ_ vs ds ps W' h _ _=>by
  obtain⟨rfl,rfl,rfl⟩:=trodAll_nil h;exact trodAll_mk0⟩
theorem ahA.cons{t:TypeId}{ts:List TypeId}{e:α->PV}{G:α->Prop}{e':β->List PV}{G':β->Prop}(h:ajc P W enc t e G)(hr:ahA P W enc ts e' G') :
  ahA P W enc (t :: ts) (λx:α×β=>e x.1 :: e' x.2) (λx=>G x.1/\G' x.2) :=
 ⟨λb0 vs ds ps hv ht hw=>by
  obtain⟨v,vs',d,ds',p,q,rfl,rfl,rfl,h1,h2⟩:=trodAll_cons ht;rw[DataW.weightsEach] at hw;obtain⟨a,a1,a2⟩:=h.dec b0 v d p (hv 0 t v rfl rfl) h1 λn hn=>hw n (List.mem_append_left _ hn)
  obtain⟨b,b1,b2,b3⟩:=hr.dec b0 vs' ds' q (λj t v ht we=>hv (j+1) t v (by simpa using ht) (by simpa using we)) h2 λn hn=>hw n (List.mem_append_right _ hn)
  refine⟨(a,b),⟨a1,b1⟩,by simp[b2],λj u x hu hx=>?_⟩;cases j with
  |zero=>simp at hu hx;subst hu hx;exact a2
  |succ j=>exact b3 j u x (by simpa using hu) (by simpa using hx),λhl vs ds ps W' ht hb hlt=>by
  obtain⟨v,vs',d,ds',p,q,rfl,rfl,rfl,h1,h2⟩:=trodAll_cons ht;exact⟨p,q,Below.trod hl h.read h.size h1 hb λx hx=>hlt x (List.mem_append_left _ hx),hr.stay hl vs' ds' q W' h2 hb λx hx=>hlt x (List.mem_append_right _ hx),rfl⟩⟩
theorem axo{C:Checked}{os:Os}{f:FuncId}{fn:Func}{s:ChangeSpec}{conds:List PathCond}{apart fresh handsOn:Bool}{e:α->List PV}{G:α->Prop}{tb:TypeId}
  (own:ownKnob C.prog.godebug=none) (laid:laidOutB C.prog=true) (started:os.Started) (noInit:C.prog.inits.idxOf? f=none) (hfn:C.prog.funcs[f]? = some fn)
  (witness:∃ (w:World) (tape:Tape) (i:Input),w.os=os/\(w.forCall tape i).Shaped C.prog/\i.vars=[]/\Input.okWide C.prog (w.forCall tape i) .any w.heap.size f i /\
   s.pre6 enc C.prog fn conds apart (w.forCall tape i).memory i.args/\({} : Assume).holds C.prog (lone (Frame.enter C.prog f i.args .normal) [] (w.forCall tape i)))
  (hres:fn.resultTypes = #[tb]) (hb:C.prog.underlying tb=some .bool) (hv:s.vars=[]) (hs:∀ds:List (DataW H),ds.length=fn.params.size->(s.fn H ds).results=[.lit (.bool true)]/\(s.fn H ds).args=ds/\(s.fn H ds).vars=[])
  (hd:∀W,ahA C.prog W enc fn.params.toList e G) (ok:∀a,G a->aS C.prog f (e a) λr=>r = .val (.bool true)) :
  ReturnsInHanded {} C os f .any (s.pre6 enc C.prog fn conds apart) (s.post enc C.prog fn apart fresh handsOn false):=by
 refine returnsInHanded_of_change_sized (C:=C) own started noInit hfn witness ?_;intro W base args ds gs before hval hW _ hz _;have hW':=hW;obtain⟨p,q,hA,hV,rfl,hfz,hnd⟩:=hW;rw[hv] at hV;have hg:gs=[]/\q=[]:=by
  cases gs with
  |nil=>exact⟨rfl,hV⟩
  |cons=>exact hV.elim
 obtain⟨rfl,rfl⟩:=hg;have hvt:s.plain.varTypes C.prog=[]:=by have:s.plain.vars=[]:=hv;unfold DataSpec.varTypes;rw[this];rfl
 rw[hvt,List.append_nil,List.append_nil] at hz;have hw:∀n∈DataW.weightsEach C.prog fn.params.toList ds,n<=reachBytes:=λn hn=>by have:=List.all_eq_true.1 hz n hn;simpa using this
 obtain⟨a,a1,a2,a3⟩:=(hd W).dec base args.toList ds p (λj t v ht we=>hval j t v (by simpa using ht) (by simpa using we)) hA hw;have hlt:∀x∈p,x.block<W.heap.size:=λx hx=>hW'.lt x (List.mem_append_left _ hx)
 obtain⟨s1,s2,s3⟩:=hs ds (by
  have:=adN hA;simpa using this)
 refine ((ok a a1).2 (snap W) W args.toList (aeI W) ⟨a2,a3⟩).mono ?_;rintro e' W' ⟨v,r,I',rfl,rfl,we,bel,_⟩;have hvb:v = .bool true:=by cases we;rfl
 subst hvb;refine⟨_,rfl,ds,[],p++[],[],p,[],hW',?_,?_,?_,bel.frame _,λh=>by cases h⟩
 ·rw[List.append_nil,s1,hres];exact trodAll_mk1 (shut_bool hb true)
 ·rw[List.append_nil,s2];exact (hd W).stay laid _ _ _ _ hA bel hlt
 ·rw[List.append_nil,s3,hv];rfl
end Go.cr
namespace Go.cr
open Go.RowKit
variable{P:Program}{w:World}{H:Type}{enc:TypeId×Value->H}
structure afp(P:Program)(w:World){H:Type}(enc:TypeId×Value->H)(N:Nat){α:Type}(t:TypeId)(sz:Nat)(e:α->List PV)(G:α->Prop):Prop where
 len:∀a,(e a).length=sz
 dec:∀ (sp:Nat->Bool) (hd:Bool) (fuel:Nat),fuel<N->∀ (cs:List Value) (x:DataW H×List MemPlace),DataW.trod enc P w 0 sp hd fuel t cs=some x->axm P t x.1->∃a,G a/\rB w cs (e a)
theorem afp.zero{α:Type}{t:TypeId}{sz:Nat}{e:α->List PV}{G:α->Prop}(h:∀a,(e a).length=sz):afp P w enc 0 t sz e G:=⟨h,λ_ _ _ h=>absurd h (Nat.not_lt_zero _)⟩
theorem afp.map{N:Nat}{α β:Type}{t:TypeId}{sz:Nat}{e:α->List PV}{G:α->Prop}{e':β->List PV}{G':β->Prop}(g:α->β)(f:β->α)(hgf:∀b,e (f b)=e' b)(hg:∀a,e' (g a)=e a)(hG:∀a,G a->G' (g a))(h:afp P w enc N t sz e G):afp P w enc N t sz e' G' :=
 ⟨λb=>by rw[<-hgf];exact h.len _,λsp hd fuel hf cs x hx hw=>by
  obtain⟨a,h1,h2⟩:=h.dec sp hd fuel hf cs x hx hw;exact⟨g a,hG a h1,by rw[hg];exact h2⟩⟩
theorem afp.slice{N:Nat}{α:Type}{t e:TypeId}{sz:Nat}{ec:α->List PV}{G:α->Prop}(ht:P.underlying t=some (.slice e))(hc:P.cellsOf e=sz)(h0:0<sz)(hb:0<P.bytesOf e)(he:afp P w enc N e sz ec G) :
  afp P w enc N t 1 (λl:List α=>[.aV (l.map ec)]) (λl=>(∀a∈l,G a)/\l.length<=reachBytes) :=
 ⟨λ_=>rfl,λsp hd fuel hN cs x h hw=>by
  rcases DataW.trod_slice ht h with ⟨rfl,rfl⟩|⟨a,len,cap,elems,rest,n,hfn,rfl,rfl,_,hle,_,hlen,hel,_,_⟩
  ·exact⟨[],⟨by simp,by simp⟩,.one (.aV none 0 0 [] [] 1 rfl (by simp) rfl (by simp) (by simp) (.inl rfl) (λ_=>⟨rfl,rfl⟩) (Nat.le_refl _)) rfl⟩
  ·have hn:n<N:=by omega
   have hwt:∀k,k∈((elems.map (·.1)).length+(rest.map (·.1)).length) * P.bytesOf e :: (DataW.weightsAll P e (elems.map (·.1))++DataW.weightsAll P e (rest.map (·.1)))->k<=reachBytes:=λk hk=>by refine hw k ?_;simp only[DataW.weights,ht];exact hk
   obtain⟨l,l1,l2⟩:=adM (n:=len) (Q:=λi (x:α×List Value)=>G x.1/\w.cells? 0 (a.add (i * sz)) sz=some x.2/\rB w x.2 (ec x.1)) λi hi=>by
    have h1:=hel i hi;have hi':i<elems.length:=by omega
    rw[List.getElem?_eq_getElem hi',hc] at h1;obtain⟨cs',h2,h3⟩:=Option.bind_eq_some_iff.1 h1;obtain⟨b,h4,h5⟩:=he.dec sp hd n hn cs' _ h3 λk hk=>hwt k (List.mem_cons_of_mem _ (List.mem_append_left _ (uv (List.mem_map.2 ⟨elems[i],nI hi',rfl⟩) k hk)))
    exact⟨(b,cs'),h4,h2,h5⟩
   refine⟨l.map (·.1),⟨λb hb'=>?_,?_⟩,.one (aly h0 he.len hle l1 λi x hx=>(l2 i x hx).2) rfl⟩
   ·obtain⟨x,hx,rfl⟩:=List.mem_map.1 hb';obtain⟨i,hi⟩:=List.mem_iff_getElem?.1 hx;exact (l2 i x hi).1
   ·have:=hwt _ (List.mem_cons_self ..);rw[List.length_map,List.length_map,hlen] at this;rw[List.length_map,l1];exact Nat.le_trans (Nat.le_trans (Nat.le_add_right len rest.length) (Nat.le_mul_of_pos_right _ hb)) this⟩
structure ac7(P:Program)(w:World){H:Type}(enc:TypeId×Value->H)(N:Nat){α:Type}(fs:List Field)(off sz:Nat)(e:α->List PV)(G:α->Prop):Prop where
 len:∀a,(e a).length=sz
 dec:∀ (sp:Nat->Bool) (hd:Bool) (n:Nat),n<N->∀ (cs:List Value) (ds:List (DataW H)),ds.length=fs.length->cs.length=off+sz->(∀ (i:Nat) f,fs[i]? = some f->∃ps,DataW.trod enc P w 0 sp hd n f.type ((cs.drop f.offset).take (P.cellsOf f.type))=(ds[i]?).map λd=>(d,ps)) ->
  (∀k∈DataW.weightsEach P (fs.map (·.type)) ds,k<=reachBytes)->∃a,G a/\rB w (cs.drop off) (e a)
theorem ac7.nil{N:Nat}(off:Nat):ac7 P w enc N [] off 0 (λ_:Unit=>[]) (λ_=>True) :=
 ⟨λ_=>rfl,λsp hd n _ cs ds _ hl _ _=>⟨(),trivial,by
  have:cs.drop off=[]:=List.drop_eq_nil_of_le (by omega);rw[this];exact⟨rfl,by simp,by simp⟩⟩⟩
theorem ac7.cons{N:Nat}{α β:Type}{f:Field}{fs:List Field}{off sz sz':Nat}{e:α->List PV}{G:α->Prop}{e':β->List PV}{G':β->Prop}(ho:f.offset=off)(hc:P.cellsOf f.type=sz)(h:afp P w enc N f.type sz e G)(hr:ac7 P w enc N fs (off+sz) sz' e' G') :
  ac7 P w enc N (f :: fs) off (sz+sz') (λx:α×β=>e x.1++e' x.2) (λx=>G x.1/\G' x.2) :=
 ⟨λx=>by rw[List.length_append,h.len,hr.len],λsp hd n hn cs ds hl hcs hall hw=>by
  match ds,hl with
  | [],hl=>simp at hl
  |d :: ds,hl =>
   rw[List.map_cons,DataW.weightsEach] at hw;obtain⟨ps,h0⟩:=hall 0 f rfl;simp only[List.getElem?_cons_zero,Option.map_some] at h0;obtain⟨a,a1,a2⟩:=h.dec sp hd n hn _ _ h0 λk hk=>hw k (List.mem_append_left _ hk)
   obtain⟨b,b1,b2⟩:=hr.dec sp hd n hn cs ds (by simpa using hl) (by omega) (λi g hg=>by simpa using hall (i+1) g (by simpa using hg)) λk hk=>hw k (List.mem_append_right _ hk)
   refine⟨(a,b),⟨a1,b1⟩,?_⟩;have e1:cs.drop off=(cs.drop off).take sz++cs.drop (off+sz):=by rw[<-List.drop_drop,List.take_append_drop]
   rw[e1];rw[ho,hc] at a2;exact a2.append b2⟩
theorem afp.struct{N:Nat}{α:Type}{t:TypeId}{fs:Array Field}{sz:Nat}{e:α->List PV}{G:α->Prop}(ht:P.underlying t=some (.struct fs))(hc:P.cellsOf t=sz)(h:ac7 P w enc N fs.toList 0 sz e G):afp P w enc (N+1) t sz e G :=
 ⟨h.len,λsp hd fuel hN cs x hx hw=>by
  obtain⟨xs,n,hfn,rfl,hl,hxs,hf⟩:=DataW.trod_struct ht hx;obtain⟨a,a1,a2⟩:=h.dec sp hd n (by omega) cs (xs.map (·.1)) (by simp[hxs]) (by rw[hl,hc,Nat.zero_add]) (λi f hi=>by
   have h1:=hf i f (by simpa using hi);have hlt:i<xs.length:=by have:=(List.getElem?_eq_some_iff.1 hi).1;rw[hxs];simpa using this
   refine⟨xs[i].2,?_⟩;rw[h1];simp[hlt]) λk hk=>hw k (by
    simp only[DataW.weights,ht];exact hk)
  exact⟨a,a1,by simpa using a2⟩⟩
end Go.cr
namespace Go.cr
open Go.RowKit
def cB{α:Type}(p:Prop) [Decidable p](x:Option α):Option α:=if p then x else none
def thn{α β:Type}(x:Option α)(k:α->Option β):Option β:=match x with
 |some a=>k a
 |none=>none
def nc{α:Type}(l:List α)(i:Int):Option α:=if 0<=i then l[i.toNat]? else none
theorem axp{α:Type}{p:Prop} [Decidable p]{x:Option α}{r:α}(h:cB p x=some r):p/\x=some r:=by
 unfold cB at h;split at h
 ·exact⟨by assumption,h⟩
 ·cases h
theorem nR{α β:Type}{x:Option α}{k:α->Option β}{r:β}(h:thn x k=some r):∃a,x=some a/\k a=some r:=by
 unfold thn at h;split at h
 ·exact⟨_,rfl,h⟩
 ·cases h
theorem y5{α:Type}{b:Bool}{x y:Option α}{r:α}(h:cond b x y=some r)(hb:b=true):x=some r:=by subst hb;exact h
theorem ac8{α:Type}{b:Bool}{x y:Option α}{r:α}(h:cond b x y=some r)(hb:b=false):y=some r:=by subst hb;exact h
theorem aBT{α β:Type}{l:List α}{i:Nat}{k:α->Option β}{r:β}(f:α->List PV)(h:thn l[i]? k=some r):∃a,i<l.length/\(l.map f).getD i []=f a/\l[i]? = some a/\k a=some r:=by obtain⟨a,h1,h2⟩:=nR h;exact⟨a,(List.getElem?_eq_some_iff.1 h1).1,by simp[h1],h1,h2⟩
theorem aBU{α β:Type}{l:List α}{i:Int}{k:α->Option β}{r:β}(f:α->List PV)(h:thn (nc l i) k=some r) :
  ∃a,0<=i/\i<(l.length:Int)/\(l.map f).getD i.toNat []=f a/\nc l i=some a/\k a=some r:=by
 obtain⟨a,h1,h2⟩:=nR h;have tA:=h1;unfold nc at h1;split at h1
 ·rename_i h0;have:=(List.getElem?_eq_some_iff.1 h1).1;exact⟨a,h0,by omega,by simp[h1],tA,h2⟩
 ·cases h1
theorem eW{α:Type}{f:α->List PV}{n:Nat}(h:∀a,(f a).length=n)(l:List α):∀x∈l.map f,x.length=n:=by intro x hx;obtain⟨a,_,rfl⟩:=List.mem_map.1 hx;exact h a
theorem aAR{α:Type}{f:α->List PV}(h:∀a,(f a).all isVal=true)(l:List α):((l.map f).all λx=>x.all isVal)=true:=by simp[h]
theorem as1{α β:Type}(f:α->β)(l:List α)(n:Nat):(l.map f).take n=(l.take n).map f:=(List.map_take ..).symm
theorem as2{α β:Type}(f:α->β)(l:List α)(n:Nat):(l.map f).drop n=(l.drop n).map f:=(List.map_drop ..).symm
theorem axq{α β:Type}(f:α->β)(l m:List α):l.map f++m.map f=(l++m).map f:=(List.map_append ..).symm
theorem bh{α β:Type}(f:α->β)(l m:List α){c:List β}(h:m.map f=c):l.map f++c=(l++m).map f:=by rw[List.map_append,h]
theorem wE{α β:Type}(f:α->β)(l:List α)(i:Nat)(a:α){c:β}(h:f a=c):(l.map f).set i c=(l.set i a).map f:=by rw[List.map_set,<-h]
attribute [go_sem] as1 as2 axq List.take_length List.length_set List.length_replicate List.set_cons_zero List.set_cons_succ Nat.le_refl Nat.not_lt_zero Nat.zero_le Nat.zero_lt_succ decide_true decide_false Bool.not_not /-! ### nil read as an empty list -/
mutual
def tE:PV->PV->Prop
 | .val (.slice none 0 0),.aV es=>es=[]
 | .emp,.aV es=>es=[]
 | .aV a,.aV b=>kR a b
 | .agg a,.agg b=>qb a b
 | .dQ a,.dQ b=>qb a b
 |a,b=>a=b
def qb:List PV->List PV->Prop
 | [],[]=>True
 |a :: r,b :: s=>tE a b/\qb r s
 |_,_=>False
def kR:List (List PV)->List (List PV)->Prop
 | [],[]=>True
 |a :: r,b :: s=>qb a b/\kR r s
 |_,_=>False
end
theorem sk.app:∀ {a b c d:List PV},sk a b->sk c d->sk (a++c) (b++d)
 | [],[],_,_,_,h=>h
 | [],_ :: _,_,_,h,_=>h.elim
 |_ :: _,[],_,_,h,_=>h.elim
 |_ :: _,_ :: _,_,_,h,k=>⟨h.1,sk.app h.2 k⟩
mutual
theorem ajd:∀ (a b:PV),tE a b->PLe a b:=by
 intro a b h;unfold tE at h;split at h
 ·subst h;exact .nil
 ·subst h;exact .emp
 ·exact .aV (sr _ _ h).1 (sr _ _ h).2
 ·exact .agg (rT _ _ h)
 ·exact .dQ (rT _ _ h)
 ·subst h;exact .refl _
theorem rT:∀ (a b:List PV),qb a b->sk a b
 | [],[],_=>trivial
 |a :: r,b :: s,h=>⟨ajd a b (by unfold qb at h;exact h.1),rT r s (by unfold qb at h;exact h.2)⟩
 | [],_ :: _,h=>by unfold qb at h;exact h
 |_ :: _,[],h=>by unfold qb at h;exact h
theorem sr:∀ (a b:List (List PV)),kR a b->a.map (·.length)=b.map (·.length)/\sk a.flatten b.flatten
 | [],[],_=>⟨rfl,trivial⟩
 |a :: r,b :: s,h=>by unfold kR at h;have h1:=rT a b h.1;have h2:=sr r s h.2;exact⟨by rw[List.map_cons,List.map_cons,h2.1,h1.len],by rw[List.flatten_cons,List.flatten_cons];exact h1.app h2.2⟩
 | [],_ :: _,h=>by unfold kR at h;exact h.elim
 |_ :: _,[],h=>by unfold kR at h;exact h.elim
end
theorem aS.mV{P:Program}{f:FuncId}{args:List PV}{t:PV}(h:aS P f args (λv=>tE v t)):aS P f args (λv=>v=t):=h.le λr hr=>⟨t,ajd r t hr,rfl⟩
mutual
def uw:RV->RV->Prop
 | .p (.val (.slice none 0 0)),.row _ sz es=>es=[]/\0<sz
 | .p (.val (.slice none 0 0)),.p (.aV es)=>es=[]
 | .row e sz es,.row e' sz' es'=>e=e'/\sz=sz'/\kR es es'
 | .p (.aV a),.p (.aV b)=>kR a b
 | .agg a,.agg b=>ab5 a b
 | .dQ a,.dQ b=>ab5 a b
 | .p (.agg a),.agg b=>aef a b
 |a,b=>a=b
def ab5:List RV->List RV->Prop
 | [],[]=>True
 |a :: r,b :: s=>uw a b/\ab5 r s
 |_,_=>False
def aef:List PV->List RV->Prop
 | [],[]=>True
 |a :: r,b :: s=>uw (.p a) b/\aef r s
 |_,_=>False
end
theorem w9.aEk{w:World}{B:Nat}{J:Mem}{u:Value}{bs:List Nat}{e:TypeId}{sz:Nat}{es es':List (List PV)}(hl:es.map (·.length)=es'.map (·.length))(hf:sk es.flatten es'.flatten)(h:w9 w B J u (.row e sz es) bs):w9 w B J u (.row e sz es') bs:=by
 cases h with
 |row _ _ _ _ us h h1 =>
  have hlen:es.length=es'.length:=by have:=congrArg List.length hl;simpa using this
  refine .row u e sz es' us ⟨hlen ▸ h.own,h.pos,λx hx=>?_,λj u c hu hc=>?_,h.one,h.free⟩ h1
  ·obtain⟨i,hi,rfl⟩:=List.getElem_of_mem hx;have h2:(es.map (·.length))[i]? = (es'.map (·.length))[i]?:=by rw[hl]
   have hi':i<es.length:=by omega
   simp only[List.getElem?_map,List.getElem?_eq_getElem hi,List.getElem?_eq_getElem hi',Option.map_some,cA] at h2;rw[<-h2];exact h.all _ (nI hi')
  ·obtain⟨c',q1,q2⟩:=hf.at hc;exact q2 J u (h.val j u c' hu q1)
theorem w9.aCG{w:World}{B:Nat}{J:Mem}{u:Value}{bs:List Nat}(e:TypeId){sz:Nat}(hsz:0<sz)(h:w9 w B J u (.p (.val (.slice none 0 0))) bs):w9 w B J u (.row e sz []) bs:=(RLe.nil e sz hsz).sound h
theorem w9.aCH{w:World}{B:Nat}{J:Mem}{u:Value}{bs:List Nat}(h:w9 w B J u (.p (.val (.slice none 0 0))) bs):w9 w B J u (.p (.aV [])) bs:=RLe.aDl.sound h
def RLs(w:World)(B:Nat)(J:Mem)(us:List Value)(rs:List RV)(bs:List (List Nat)):Prop:=us.length=rs.length/\us.length=bs.length/\∀ (j:Nat) u r b,us[j]? = some u->rs[j]? = some r->bs[j]? = some b->w9 w B J u r b
theorem RLs.cons{w:World}{B:Nat}{J:Mem}{u:Value}{us:List Value}{r r':RV}{rs rs':List RV}{b:List Nat}{bs:List (List Nat)}(h:RLs w B J (u :: us) (r :: rs) (b :: bs))
  (h1:w9 w B J u r b->w9 w B J u r' b) (h2:RLs w B J us rs bs->RLs w B J us rs' bs):RLs w B J (u :: us) (r' :: rs') (b :: bs):=by
 obtain⟨a1,a2,a3⟩:=h;obtain⟨c1,c2,c3⟩:=h2 ⟨by simpa using a1,by simpa using a2,λj u r b hu hr hb=>a3 (j+1) u r b (by simpa using hu) (by simpa using hr) (by simpa using hb)⟩;refine⟨by simpa using c1,by simpa using c2,λj u r b hu hr hb=>?_⟩;cases j with
 |zero=>simp at hu hr hb;subst hu hr hb;exact h1 (a3 0 _ _ _ rfl rfl rfl)
 |succ j=>exact c3 j u r b (by simpa using hu) (by simpa using hr) (by simpa using hb)
mutual
theorem aje:∀ (r t:RV),uw r t->∀ {w:World} {B:Nat} {J:Mem} {u:Value} {bs:List Nat},w9 w B J u r bs->w9 w B J u t bs:=by
 intro r t h w B J u bs hr;unfold uw at h;split at h
 ·obtain⟨rfl,h2⟩:=h;exact hr.aCG _ h2
 ·subst h;exact hr.aCH
 ·obtain⟨rfl,rfl,h⟩:=h;exact hr.aEk (sr _ _ h).1 (sr _ _ h).2
 ·cases hr with
  |p _ _ hx=>exact .p _ _ ((PLe.aV (sr _ _ h).1 (sr _ _ h).2) _ _ hx)
 ·cases hr with
  |agg us rs bs q1 q2 q3 q4=>obtain⟨c1,c2,c3⟩:=ajf _ _ h (w:=w) (B:=B) (J:=J) ⟨q1,q2,q3⟩;exact .agg us _ bs c1 c2 c3 q4
 ·cases hr with
  |dQ us rs bs q1 q2 q3=>obtain⟨c1,c2,c3⟩:=ajf _ _ h (w:=w) (B:=B) (J:=J) ⟨q1,q2,q3⟩;exact .dQ us _ bs c1 c2 c3
 ·cases hr with
  |p u x hx =>
   cases hx with
   |agg us cs q1 q2 q3 =>
    obtain⟨c1,c2,c3⟩:=aql _ _ h (w:=w) (B:=B) (J:=J) (us:=us) ⟨q1,q2⟩;have:((us.map λ_=>([]:List Nat))).flatten=[]:=by simp
    have h2:=w9.agg us _ (us.map λ_=>[]) c1 c2 c3 q3;rw[this] at h2;exact h2
 ·subst h;exact hr
termination_by r t=>SizeOf.sizeOf t
theorem ajf:∀ (a b:List RV),ab5 a b->∀ {w:World} {B:Nat} {J:Mem} {us:List Value} {bs:List (List Nat)},RLs w B J us a bs->RLs w B J us b bs
 | [],[],_,_,_,_,_,_,h=>h
 | [],_ :: _,h,_,_,_,_,_,_=>by unfold ab5 at h;exact h.elim
 |_ :: _,[],h,_,_,_,_,_,_=>by unfold ab5 at h;exact h.elim
 |a :: r,b :: s,h,w,B,J,us,bs,hr=>by
  unfold ab5 at h
  match us,bs,hr with
  |u :: us,c :: bs,hr=>exact hr.cons (aje a b h.1) (ajf r s h.2)
  | [],_,hr=>have:=hr.1;simp at this
  |_ :: _,[],hr=>have:=hr.2.1;simp at this
termination_by a b=>SizeOf.sizeOf b
theorem aql:∀ (a:List PV) (b:List RV),aef a b->∀ {w:World} {B:Nat} {J:Mem} {us:List Value},VRs J us a->RLs w B J us b (us.map λ_=>[])
 | [],[],_,_,_,_,us,h=>by
  have h1:us=[]:=by have:=h.1;simpa using this
  subst h1;exact⟨rfl,rfl,λj u r b hu=>by simp at hu⟩
 | [],_ :: _,h,_,_,_,_,_=>by unfold aef at h;exact h.elim
 |_ :: _,[],h,_,_,_,_,_=>by unfold aef at h;exact h.elim
 |a :: r,b :: s,h,w,B,J,us,hr=>by
  unfold aef at h
  match us,hr with
  |u :: us,hr =>
   have ih:=aql r s h.2 (w:=w) (B:=B) (J:=J) (us:=us) ⟨by have:=hr.1;simpa using this,λj u c hu hc=>hr.2 (j+1) u c (by simpa using hu) (by simpa using hc)⟩;have h1:=aje (.p a) b h.1 (w:=w) (B:=B) (.p u a (hr.2 0 u a rfl rfl));refine⟨by simpa using ih.1,by simp,λj u r b hu hr hb=>?_⟩;cases j with
   |zero=>simp at hu hr hb;subst hu hr hb;exact h1
   |succ j=>exact ih.2.2 j u r b (by simpa using hu) (by simpa using hr) (by simpa using hb)
  | [],hr=>have:=hr.1;simp at this
termination_by a b=>SizeOf.sizeOf b
end
theorem br.tF{P:Program}{f:FuncId}{args:List PV}{t:RV}(h:br P f args (λv=>uw v t)):br P f args (λv=>v=t):=⟨h.1,λI w vs hI hv=>(h.2 I w vs hI hv).mono λ_ _ ⟨v,r,bs,I',h1,h2,h3,h4⟩=>⟨v,t,bs,I',h1,rfl,aje r t h2 h3,h4⟩⟩
theorem axr(a b:List PV):tE (.agg a) (.agg b)=qb a b:=by simp only[tE]
theorem axt(a b:List PV):tE (.dQ a) (.dQ b)=qb a b:=by simp only[tE]
theorem axu(es:List (List PV)):tE (.val (.slice none 0 0)) (.aV es)=(es=[]):=by simp only[tE]
theorem axv(a b:List (List PV)):tE (.aV a) (.aV b)=kR a b:=by simp only[tE]
theorem alz(a b:Value):tE (.val a) (.val b)=(a=b):=by unfold tE;split<;>first|(rename_i h _;cases h;done)|(rename_i h;cases h;done)|simp_all
mutual
theorem as3:∀a:PV,tE a a
 | .agg a=>by simp only[tE];exact gD a
 | .dQ a=>by simp only[tE];exact gD a
 | .val v=>by rw[alz]
 | .aV a=>by simp only[tE];exact xk a
 | .emp=>by simp only[tE]
 | .dU _ _=>by simp only[tE]
 | .iw _ _ _=>by simp only[tE]
theorem gD:∀a:List PV,qb a a
 | []=>by unfold qb;trivial
 |a :: r=>by unfold qb;exact⟨as3 a,gD r⟩
@[refl] theorem xk:∀a:List (List PV),kR a a
 | []=>by unfold kR;trivial
 |a :: r=>by unfold kR;exact⟨gD a,xk r⟩
end
theorem aoG(a:List (List PV)):kR a a=True:=eq_true (xk a)
theorem aoH(a b:List PV)(r s:List (List PV)):kR (a :: r) (b :: s)=(qb a b/\kR r s):=by simp only[kR]
attribute [go_sem] aoG aoH
theorem axw:qb [] []=True:=by simp only[qb]
theorem as4(a b:PV)(r s:List PV):qb (a :: r) (b :: s)=(tE a b/\qb r s):=by simp only[qb]
theorem axx(a b:List RV):uw (.agg a) (.agg b)=ab5 a b:=by simp only[uw]
theorem axy(a b:List RV):uw (.dQ a) (.dQ b)=ab5 a b:=by simp only[uw]
theorem as5(a:List PV)(b:List RV):uw (.p (.agg a)) (.agg b)=aef a b:=by simp only[uw]
theorem alA(e:TypeId)(sz:Nat)(es:List (List PV)):uw (.p (.val (.slice none 0 0))) (.row e sz es)=(es=[]/\0<sz):=by simp only[uw]
theorem alB(es:List (List PV)):uw (.p (.val (.slice none 0 0))) (.p (.aV es))=(es=[]):=by simp only[uw]
theorem axz(e e':TypeId)(sz sz':Nat)(es es':List (List PV)):uw (.row e sz es) (.row e' sz' es')=(e=e'/\sz=sz'/\kR es es'):=by simp only[uw]
theorem axA(a b:Value):uw (.p (.val a)) (.p (.val b))=(a=b):=by unfold uw;split<;>first|(rename_i h _;cases h;done)|(rename_i h;cases h;done)|simp_all
theorem axB(a b:List (List PV)):uw (.p (.aV a)) (.p (.aV b))=kR a b:=by simp only[uw]
theorem axC:ab5 [] []=True:=by simp only[ab5]
theorem as6(a b:RV)(r s:List RV):ab5 (a :: r) (b :: s)=(uw a b/\ab5 r s):=by simp only[ab5]
theorem axD:aef [] []=True:=by simp only[aef]
theorem as7(a:PV)(b:RV)(r:List PV)(s:List RV):aef (a :: r) (b :: s)=(uw (.p a) b/\aef r s):=by simp only[aef]
attribute [go_sem] axr axt axu axv alz axw as4 axx axy as5 alA alB axz axA axB axC as6 axD as7 /-! ### aJB -/
section
variable{σ O:Type}
def bZ(f:Nat->σ->(σ->Option O)->(σ->Option O)->Option O):Nat->Nat->σ->(σ->Option O)->Option O
 |0,_,s,K=>K s
 |k+1,i,s,K=>f i s (λs'=>bZ f k (i+1) s' K) K
def iter(f:σ->(σ->Option O)->(σ->Option O)->Option O):Nat->σ->(σ->Option O)->Option O
 |0,_,_=>none
 |k+1,s,K=>f s (λs'=>iter f k s' K) K
end
def fuel:Nat:=4611686018427387904
section
variable{P:Program}{N:Nat}{own:List Nat}{σ γ O:Type}{c:Code}{K:qi}{env:Env}{H:ay}
def su(R:Env->ay->Prop)(K:qi):qi:=λe env H=>match e with
 | .normal=>R env H
 |e=>K e env H
theorem ajg{R:Env->ay->Prop} : su R K .normal env H=R env H:=rfl
theorem aoI{R:Env->ay->Prop}{id:Nat} : su R K (.exit id) env H=K (.exit id) env H:=rfl
theorem as8{R:Env->ay->Prop} : su R K .ret env H=K .ret env H:=rfl
attribute [go_sem] ajg aoI as8
def alC(inv:σ×γ->Env)(jS:σ×γ->ay)(Nx:σ->Prop)(e:Env)(H:ay):Prop:=∃s' g,Nx s'/\cU e H (inv (s',g)) (jS (s',g))
theorem alD{inv:σ×γ->Env}{jS:σ×γ->ay}{Nx:σ->Prop}{e:Env}{H:ay}(s':σ)(g:γ)(h:Nx s')(hw:cU e H (inv (s',g)) (jS (s',g))):alC inv jS Nx e H:=⟨s',g,h,hw⟩
theorem afq{R R':Env->ay->Prop}(h:∀e H,R e H↔R' e H):su R K=(λz e' H'=>match z with
  | .normal=>R' e' H'
  |z=>K z e' H'):=by
 funext z e' H';cases z<;>first|rfl|exact propext (h e' H')
theorem as9{f:σ->(σ->Option O)->(σ->Option O)->Option O}{Kf:σ->Option O}{r:O}(inv:σ×γ->Env)(jS:σ×γ->ay)(g0:γ){k:Nat}{s:σ}(h:iter f k s Kf=some r)
  (hw:cU env H (inv (s,g0)) (jS (s,g0)))
  (hr:∀s g (cv:σ->Option O) (Nx:σ->Prop),(∀s',cv s'=some r->Nx s')->f s cv Kf=some r->cw P N own c (su (alC inv jS Nx) K) (inv (s,g)) (jS (s,g))):aaK P N own c K env H:=by
 refine⟨λn e H=>∃s g,iter f n s Kf=some r/\e=inv (s,g)/\H=jS (s,g),⟨k,_,_,⟨s,g0,h,rfl,rfl⟩,hw⟩,?_⟩;rintro n e H ⟨s,g,hs,rfl,rfl⟩;cases n with
 |zero=>cases hs
 |succ n =>
  have:=hr s g _ (λs'=>∃m,m<n+1/\iter f m s' Kf=some r) (λs' h'=>⟨n,Nat.lt_succ_self n,h'⟩) hs;rw[afq (R':=λe' H'=>∃m e2 H2,m<n+1/\(∃s g,iter f m s Kf=some r/\e2=inv (s,g)/\H2=jS (s,g))/\cU e' H' e2 H2)] at this
  ·exact this
  ·intro e' H';constructor
   ·rintro⟨s',g',⟨m,h1,h2⟩,h3⟩;exact⟨m,_,_,h1,⟨s',g',h2,rfl,rfl⟩,h3⟩
   ·rintro⟨m,e2,H2,h1,⟨s',g',h2,rfl,rfl⟩,h3⟩;exact⟨s',g',⟨m,h1,h2⟩,h3⟩
theorem ata{f:Nat->σ->(σ->Option O)->(σ->Option O)->Option O}{Kf:σ->Option O}{r:O}(inv:(Nat×σ)×γ->Env)(jS:(Nat×σ)×γ->ay)(g0:γ){n i:Nat}{s:σ}(h:bZ f (n-i) i s Kf=some r)
  (hw:cU env H (inv ((i,s),g0)) (jS ((i,s),g0)))
  (hr:∀j s g (cv:σ->Option O) (Nx:Nat×σ->Prop),j<n->(∀s',cv s'=some r->Nx (j+1,s'))->f j s cv Kf=some r->cw P N own c (su (alC inv jS Nx) K) (inv ((j,s),g)) (jS ((j,s),g)))
  (he:∀j s g (Nx:Nat×σ->Prop),n<=j->Kf s=some r->cw P N own c (su (alC inv jS Nx) K) (inv ((j,s),g)) (jS ((j,s),g))):aaK P N own c K env H:=by
 refine⟨λm e H=>∃ (x:Nat×σ) (g:γ),(n-x.1=m/\bZ f (n-x.1) x.1 x.2 Kf=some r)/\e=inv (x,g)/\H=jS (x,g),⟨n-i,_,_,⟨(i,s),g0,⟨rfl,h⟩,rfl,rfl⟩,hw⟩,?_⟩;rintro m e H ⟨⟨j,s⟩,g,⟨hm,hs⟩,rfl,rfl⟩;have key:∀R:Nat×σ->Prop,(∀x,R x↔n-x.1<m/\bZ f (n-x.1) x.1 x.2 Kf=some r)->∀e' H',alC inv jS R e' H'↔∃m' e2 H2,m'<m/\(∃ (x:Nat×σ) (g:γ),(n-x.1=m'/\bZ f (n-x.1) x.1 x.2 Kf=some r)/\e2=inv (x,g)/\H2=jS (x,g))/\cU e' H' e2 H2:=by
  intro R hR e' H';constructor
  ·rintro⟨x,g',h1,h3⟩;obtain⟨h1,h2⟩:=(hR x).1 h1;exact⟨_,_,_,h1,⟨x,g',⟨rfl,h2⟩,rfl,rfl⟩,h3⟩
  ·rintro⟨m',e2,H2,h1,⟨x,g',⟨h4,h2⟩,rfl,rfl⟩,h3⟩;exact⟨x,g',(hR x).2 ⟨by omega,h2⟩,h3⟩
 simp only at hm hs;by_cases hj:j<n
 ·obtain⟨k,hk⟩:∃k,n-j=k+1:=⟨n-j-1,by omega⟩;have hk':n-(j+1)=k:=by omega
  rw[hk] at hs;have:=hr j s g _ (λx=>n-x.1<m/\bZ f (n-x.1) x.1 x.2 Kf=some r) hj (λs' h'=>⟨by simp only;omega,by simp only[hk'];exact h'⟩) hs;rw[afq (key _ λx=>Iff.rfl)] at this;exact this
 ·have h0:n-j=0:=by omega
  rw[h0] at hs;have:=he j s g (λx=>n-x.1<m/\bZ f (n-x.1) x.1 x.2 Kf=some r) (by omega) hs;rw[afq (key _ λx=>Iff.rfl)] at this;exact this
end
theorem aAS{P:Program}{N:Nat}{own:List Nat}{σ γ O:Type}{c:Code}{K:qi}{env:Env}{H:ay}{f:σ->(σ->Option O)->(σ->Option O)->Option O}{Kf:σ->Option O}{r:O}(inv:σ×γ->Env)(jS:σ×γ->ay)(g0:γ){k:Nat}{s:σ}(h:iter f k s Kf=some r)
  (hw:cU env H (inv (s,g0)) (jS (s,g0)))
  (hr:∀s g (cv:σ->Option O) (R:Env->ay->Prop),(∀s' g' {e H},cv s'=some r->cU e H (inv (s',g')) (jS (s',g'))->R e H)->f s cv Kf=some r->cw P N own c (su R K) (inv (s,g)) (jS (s,g))):aaK P N own c K env H :=
 as9 inv jS g0 h hw λs g cv Nx hN hf=>hr s g cv _ (λs' g' _ _ h1 h2=>alD s' g' (hN s' h1) h2) hf
theorem aAT{P:Program}{N:Nat}{own:List Nat}{σ γ O:Type}{c:Code}{K:qi}{env:Env}{H:ay}{f:Nat->σ->(σ->Option O)->(σ->Option O)->Option O}{Kf:σ->Option O}{r:O}(inv:(Nat×σ)×γ->Env)(jS:(Nat×σ)×γ->ay)(g0:γ){n i:Nat}{s:σ}(h:bZ f (n-i) i s Kf=some r)
  (hw:cU env H (inv ((i,s),g0)) (jS ((i,s),g0)))
  (hr:∀j s g (cv:σ->Option O) (R:Env->ay->Prop),j<n->(∀s' g' {e H},cv s'=some r->cU e H (inv ((j+1,s'),g')) (jS ((j+1,s'),g'))->R e H)->f j s cv Kf=some r->cw P N own c (su R K) (inv ((j,s),g)) (jS ((j,s),g)))
  (he:∀j s g (R:Env->ay->Prop),n<=j->Kf s=some r->cw P N own c (su R K) (inv ((j,s),g)) (jS ((j,s),g))):aaK P N own c K env H :=
 ata inv jS g0 h hw (λj s g cv Nx hj hN hf=>hr j s g cv _ hj (λs' g' _ _ h1 h2=>alD (j+1,s') g' (hN s' h1) h2) hf) (λj s g Nx hj hk=>he j s g _ hj hk)
section
variable{P:Program}{env:Env}{H:ay}{o:Oper}{W:Env->ay->Prop}{k:FuncId}{ps ps':List PV}{b:Bool}
theorem br.args{f:FuncId}{ps ps':List PV}{Q:RV->Prop}(h:br P f ps Q)(hp:sk ps' ps):br P f ps' Q:=⟨h.1,λI w vs hI hv=>h.2 I w vs hI (hp.vrs hv)⟩
theorem alE{x:PV}(c:aS P k ps λr=>r=x)(he:jT o (ev env) H=some (k,ps',b))(hp:qb ps' ps)(hb:b=true->x.scalar=true)
  (hW:W (cH env o.dst (.p x)) H):jh P o W env H:=aY (c.args (rT _ _ hp)) he hb hW
theorem aoJ{x:PV}(c:aS P k ps λr=>r=x)(he:jT o (ev env) H=some (k,ps',b))(hp:qb ps' ps)(hb:b=true->x.scalar=true)
  (hW:W (cH env o.dst (.p x)) H):ahl P o W env H:=jE (c.args (rT _ _ hp)) he hb hW
end
section
variable{P:Program}{t:TypeId}{kk:IntKind}{n:Int}{H:ay}
def axE(a:Option (Nat×TypeId))(f:TypeId->Option Nat)(n:Int)(mk:Nat->AV)(H:ay):Option (Prop×AV×ay):=match a with
 |some (len,e)=>(match f e with
  |some sz=>some (0<=n/\n<len,mk (n.toNat * sz),H)
  |none=>none)
 |none=>none
theorem alF{cs:List PV}{off:Nat} : oT P t (.p (.dU cs off)) (.p (.val (.int kk n))) H=axE (wh P t) (bu P) n (λo=>.p (.dU cs (off+o))) H:=by
 unfold oT oR axE up3;cases wh P t with
 |none=>rfl
 |some r=>obtain⟨len,e⟩:=r;simp only;cases bu P e<;>rfl
theorem aoK{id off:Nat} : oT P t (.ptr id off) (.p (.val (.int kk n))) H=axE (wh P t) (bu P) n (λo=>.ptr id (off+o)) H:=by
 unfold oT oR axE up3;cases wh P t with
 |none=>rfl
 |some r=>obtain⟨len,e⟩:=r;simp only;cases bu P e<;>rfl
theorem atb{len:Nat}{e:TypeId}{f:TypeId->Option Nat}{mk:Nat->AV} : axE (some (len,e)) f n mk H=(match f e with
  |some sz=>some (0<=n/\n<len,mk (n.toNat * sz),H)
  |none=>none):=rfl
attribute [go_sem] alF aoK atb
end
mutual
def om:AV->AV->Prop
 | .p a,.p b=>tE a b
 | .agg a,.agg b=>sv a b
 | .dQ a,.dQ b=>sv a b
 |a,b=>a=b
def sv:List AV->List AV->Prop
 | [],[]=>True
 |a :: r,b :: s=>om a b/\sv r s
 |_,_=>False
end
theorem aCI(a b:PV):om (.p a) (.p b)=tE a b:=by simp only[om]
theorem axF(i v j u:Nat):om (.row i v) (.row j u)=(i=j/\v=u):=by simp only[om,AV.row.injEq]
theorem axG(i v j u:Nat):om (.ptr i v) (.ptr j u)=(i=j/\v=u):=by simp only[om,AV.ptr.injEq]
theorem axH(f g:Fn)(a b c d:List AV):om (.iw f a b) (.iw g c d)=(f=g/\a=c/\b=d):=by simp only[om,AV.iw.injEq]
theorem atc(i v j u:Nat):om (.eG i v) (.eG j u)=(i=j/\v=u):=by simp only[om,AV.eG.injEq]
theorem atd:sv [] []=True:=by simp only[sv]
theorem aoL(a b:AV)(r s:List AV):sv (a :: r) (b :: s)=(om a b/\sv r s):=by simp only[sv]
theorem tS:∀ {as' bs:List AV},sv as' bs->as'.length=bs.length/\∀ (j:Nat) a b,as'[j]? = some a->bs[j]? = some b->om a b
 | [],[],_=>⟨rfl,λj a b h=>by simp at h⟩
 |a :: r,b :: s,h=>by
  unfold sv at h;obtain⟨h1,h2⟩:=tS h.2;refine⟨by simp[h1],λj x y hx hy=>?_⟩;cases j with
  |zero=>simp at hx hy;subst hx hy;exact h.1
  |succ j=>exact h2 j x y (by simpa using hx) (by simpa using hy)
 | [],_ :: _,h=>by unfold sv at h;exact h.elim
 |_ :: _,[],h=>by unfold sv at h;exact h.elim
theorem ab6{I:Mem}{L:bA}{u:Value}{a:AV}(h:eo I L u a):∀ {b:AV},om a b->eo I L u b:=by
 induction h with
 |p u x h =>
  intro b hb;unfold om at hb;split at hb
  ·rename_i e;cases e;exact .p _ _ (ajd _ _ hb _ _ h)
  ·rename_i e;cases e
  ·rename_i e;cases e
  ·subst hb;exact .p _ _ h
 |agg us cs hl hv hone ih =>
  intro b hb;unfold om at hb;split at hb
  ·rename_i e;cases e
  ·rename_i e;cases e;obtain⟨q1,q2⟩:=tS hb;refine .agg us _ (hl.trans q1) (λj u c hu hc=>?_) hone;obtain⟨a,ha⟩:∃a,cs[j]? = some a:=by have hj:j<us.length:=(List.getElem?_eq_some_iff.1 hu).1;exact⟨cs[j]'(by omega),by simp[hl ▸ hj]⟩
   exact ih j u a hu ha (q2 j a c ha hc)
  ·rename_i e;cases e
  ·subst hb;exact .agg us cs hl hv hone
 |dQ us cs hl hv ih =>
  intro b hb;unfold om at hb;split at hb
  ·rename_i e;cases e
  ·rename_i e;cases e
  ·rename_i e;cases e;obtain⟨q1,q2⟩:=tS hb;refine .dQ us _ (hl.trans q1) (λj u c hu hc=>?_);obtain⟨a,ha⟩:∃a,cs[j]? = some a:=by have hj:j<us.length:=(List.getElem?_eq_some_iff.1 hu).1;exact⟨cs[j]'(by omega),by simp[hl ▸ hj]⟩
   exact ih j u a hu ha (q2 j a c ha hc)
  ·subst hb;exact .dQ us cs hl hv
 |row u id bf v bH sz hl hle h h1=>intro b hb;unfold om at hb;subst hb;exact .row u id bf v bH sz hl hle h h1
 |ptr id b' off hl=>intro b hb;unfold om at hb;subst hb;exact .ptr id b' off hl
 |jm u id bf v i off bH sz hl hle h h1=>intro b hb;unfold om at hb;subst hb;exact .jm u id bf v i off bH sz hl hle h h1
 |iw fn us vs fs cs hl hl' hv we=>intro b hb;unfold om at hb;subst hb;exact .iw fn us vs fs cs hl hl' hv we
 |dead u=>intro b hb;unfold om at hb;subst hb;exact .dead u
 |bsl id b n hl=>intro b hb;unfold om at hb;subst hb;exact .bsl _ _ _ hl
 |iA a id bf v off n m c bH sz hl hle hn hm hz h=>intro b hb;unfold om at hb;subst hb;exact .iA _ id bf v off n _ _ bH sz hl hle hn hm hz h
 |eG u id bf v bH sz sz' di n hl hle h h1=>intro b hb;unfold om at hb;subst hb;exact .eG u id bf v bH sz sz' di n hl hle h h1
 |kC u id bf v i off bH sz sz' di n hl hle h h1=>intro b hb;unfold om at hb;subst hb;exact .kC u id bf v i off bH sz sz' di n hl hle h h1
 |kD u id bf v i bH sz sz' di n hl hle h h1=>intro b hb;unfold om at hb;subst hb;exact .kD u id bf v i bH sz sz' di n hl hle h h1
 |ng u id bf v i j off bH sz sz' di n hl hle h h1=>intro b hb;unfold om at hb;subst hb;exact .ng u id bf v i j off bH sz sz' di n hl hle h h1
def pQ:List (Nat×AV)->Env
 | []=>fT
 |(d,v) :: r=>cE (pQ r) d v
def b7:List (Nat×Chunk)->ay
 | []=>cm
 |(d,c) :: r=>bk (b7 r) d c
theorem axI:pQ []=fT:=rfl
theorem ate(d:Nat)(v:AV)(r:List (Nat×AV)):pQ ((d,v) :: r)=cE (pQ r) d v:=rfl
theorem atf:b7 []=cm:=rfl
theorem aoM(d:Nat)(c:Chunk)(r:List (Nat×Chunk)):b7 ((d,c) :: r)=bk (b7 r) d c:=rfl
def aoN(e:Env):List (Nat×AV)->Prop
 | []=>True
 |(d,v) :: r=>om (e d) v/\aoN e r
def ajh:Option Chunk->Chunk->Prop
 |some (.box cs),.box ds=>sv cs ds
 |some c,d=>c=d
 |none,_=>False
def abk(H:ay):List (Nat×Chunk)->Prop
 | []=>True
 |(d,c) :: r=>ajh (H d) c/\abk H r
def aoO(G:ay):List (Nat×AV)->Prop
 | []=>True
 |(_,v) :: r=>o7 G v/\aoO G r
def yt(G:ay):List (Nat×Chunk)->Prop
 | []=>True
 |(_,.box cs) :: r=>mT G cs/\yt G r
 |_ :: r=>yt G r
theorem axJ(e:Env):aoN e []=True:=rfl
theorem atg(e:Env)(d:Nat)(v:AV)(r:List (Nat×AV)):aoN e ((d,v) :: r)=(om (e d) v/\aoN e r):=rfl
theorem axK(cs ds:List AV):ajh (some (.box cs)) (.box ds)=sv cs ds:=rfl
theorem ath(v:Nat)(e:TypeId)(sz k:Nat)(f:TypeId)(sy:Nat)(es:List (List PV))(v':Nat)(e':TypeId)(sz' k':Nat)(f':TypeId)(sy':Nat)(es':List (List PV)):ajh (some (.deep v e sz k f sy es)) (.deep v' e' sz' k' f' sy' es')=(v=v'/\e=e'/\sz=sz'/\k=k'/\f=f'/\sy=sy'/\es=es'):=by simp only[ajh,Chunk.deep.injEq]
theorem ati(G:ay)(d v:Nat)(e:TypeId)(sz k:Nat)(f:TypeId)(sy:Nat)(es:List (List PV))(r:List (Nat×Chunk)):yt G ((d,.deep v e sz k f sy es) :: r)=yt G r:=rfl
theorem axL(v:Nat)(e:TypeId)(sz:Nat)(es:List (List PV))(v':Nat)(e':TypeId)(sz':Nat)(es':List (List PV)):ajh (some (.row v e sz es)) (.row v' e' sz' es')=(v=v'/\e=e'/\sz=sz'/\es=es'):=by simp only[ajh,Chunk.row.injEq]
theorem axM(H:ay):abk H []=True:=rfl
theorem atj(H:ay)(d:Nat)(c:Chunk)(r:List (Nat×Chunk)):abk H ((d,c) :: r)=(ajh (H d) c/\abk H r):=rfl
theorem axN(G:ay):aoO G []=True:=rfl
theorem atk(G:ay)(d:Nat)(v:AV)(r:List (Nat×AV)):aoO G ((d,v) :: r)=(o7 G v/\aoO G r):=rfl
theorem axO(G:ay):yt G []=True:=rfl
theorem axP(G:ay)(d:Nat)(cs:List AV)(r:List (Nat×Chunk)):yt G ((d,.box cs) :: r)=(mT G cs/\yt G r):=rfl
theorem axQ(G:ay)(d:Nat)(v:Nat)(e:TypeId)(sz:Nat)(es:List (List PV))(r:List (Nat×Chunk)):yt G ((d,.row v e sz es) :: r)=yt G r:=rfl
theorem aAU(G:ay)(x:PV):o7 G (.p x)=True:=by simp only[o7]
theorem ahB(G:ay)(i v:Nat):o7 G (.row i v)=(G i≠none):=by simp only[o7]
theorem ahC(G:ay)(i v:Nat):o7 G (.ptr i v)=(G i≠none):=by simp only[o7]
theorem afr(G:ay)(i v:Nat):o7 G (.eG i v)=(G i≠none):=by simp only[o7]
theorem atl(G:ay)(f:Fn)(fs cs:List AV):o7 G (.iw f fs cs)=(mT G fs/\mT G cs):=by simp only[o7]
theorem aoP(G:ay):mT G []=True:=by simp only[mT]
theorem alG(G:ay)(a:AV)(r:List AV):mT G (a :: r)=(o7 G a/\mT G r):=by simp only[mT]
theorem aCJ(H':ay):lS cm H'=True:=eq_true (aBO H')
theorem axR{H H':ay}{i:Nat}{c:Chunk}(hi:i<1000000):lS (bk H i c) H'=lS H H':=by refine propext ⟨λh j hj hn=>h j hj ?_,akB hi⟩;unfold bk;rw[if_neg (by omega)];exact hn
attribute [go_sem] atc ath ati afr aCI axF axG axH atd aoL axI ate atf aoM axJ atg axK axL axM atj axN atk axO axP axQ aAU ahB ahC atl aoP alG aCJ axR
theorem aqm{e:Env} : ∀ {l:List (Nat×AV)},aoN e l->∀t,pQ l t = .dead\/om (e t) (pQ l t)
 | [],_,t=>.inl rfl
 |(d,v) :: r,h,t=>by
  unfold pQ cE;split
  ·rename_i ht;subst ht;exact .inr h.1
  ·exact aqm h.2 t
theorem ab7{H:ay} : ∀ {l:List (Nat×Chunk)},abk H l->∀i c',b7 l i=some c'->∃c,H i=some c/\ajh (some c) c'
 | [],_,i,c',h=>by cases h
 |(d,v) :: r,h,i,c',hi=>by
  unfold b7 bk at hi;split at hi
  ·rename_i ht;subst ht;simp only[cA] at hi;subst hi;have h1:=h.1;cases hH:H i with
   |none=>rw[hH] at h1;exact h1.elim
   |some c=>rw[hH] at h1;exact⟨c,rfl,h1⟩
  ·exact ab7 h.2 i c' hi
theorem aqn{G:ay} : ∀ {l:List (Nat×AV)},aoO G l->acV (pQ l) G
 | [],_,t=>trivial
 |(d,v) :: r,h,t=>by
  unfold pQ cE;split
  ·exact h.1
  ·exact aqn h.2 t
theorem aji{G:ay} : ∀ {l:List (Nat×Chunk)},yt G l->qj (b7 l) G
 | [],_,i,cs,h=>by cases h
 |(d,c) :: r,h,i,cs,hi=>by
  have hr:yt G r:=by
   cases c with
   |box cs=>exact h.2
   |row=>exact h
   |shut=>exact h
   |tail=>exact h
   |deep=>exact h
  unfold b7 bk at hi;split at hi
  ·simp only[cA] at hi;subst hi;exact h.1
  ·exact aji hr i cs hi
theorem xW{e:Env}{H:ay}{l:List (Nat×AV)}{hl:List (Nat×Chunk)}(h:aoN e l/\abk H hl/\aoO (b7 hl) l/\yt (b7 hl) hl/\lS H (b7 hl)):cU e H (pQ l) (b7 hl):=λC I L tm w hs=>by
 obtain⟨h1,h2,h3,h4,h5⟩:=h;have w0:cU e H e H:=cU.refl _ _;refine⟨I,L.to (b7 hl),?_⟩;exact
 {below:=hs.below
  mem:=hs.mem
  kP:=hs.kP
  lQ:=hs.lQ
  frame:=hs.frame
  loc:=λi=>by
   cases hi:C.L0 i with
   |none=>trivial
   |some l0 =>
    have h0:=hs.loc i;rw[hi] at h0;have hL:L i≠none:=by
     cases l0 with
     |box b=>intro e;rw[e] at h0;cases h0
     |row v bH sz=>obtain⟨_,_,h0,_⟩:=h0;intro e;rw[e] at h0;cases h0
     |deep v bH sz sz' di n=>obtain⟨_,_,_,_,h0,_⟩:=h0;intro e;rw[e] at h0;cases h0
    have hH:H i≠none:=by
     cases hLi:L i with
     |none=>exact absurd hLi hL
     |some l=>obtain⟨c,hc⟩:=hs.dom i l hLi;rw[hc];simp
    have e:=lK (L:=L) (h5 i (C.hL0 i l0 hi) hH);rw[e];exact h0
  jB:=λid l b hl hb=>hs.jB id l b (to_eq hl).1 hb
  size:=hs.size
  env:=λt=>by
   rcases aqm h1 t with h|h
   ·rw[h];exact .dead _
   ·exact (ab6 (hs.env t) h).to (aqn h3 t)
  dom:=λid l hl=>(to_eq hl).2
  chunk:=λid ch hch=>by
   obtain⟨c,hc1,y6⟩:=ab7 h2 id ch hch;have hc:=hs.chunk id c hc1;have hid:L.to (b7 hl) id=L id:=lK (by rw[hch];simp);cases c with
   |box cs =>
    cases ch with
    |box ds =>
     have hq:sv cs ds:=y6;obtain⟨q1,q2⟩:=tS hq;obtain⟨b,arr,e,g1,g2,g3,g4,g5,g6⟩:=hc;refine⟨b,arr,e,hid.trans g1,g2,g3.trans q1,λj u c hu hc=>?_,g5,g6⟩;obtain⟨a,ha⟩:∃a,cs[j]? = some a:=by have hj:j<arr.size:=(Array.getElem?_eq_some_iff.1 hu).1;exact⟨cs[j]'(by omega),by simp[g3 ▸ hj]⟩
     exact (ab6 (g4 j u a hu ha) (q2 j a c ha hc)).to (od (aji h4 id ds hch) j c hc)
    |row=>cases y6
    |shut=>cases y6
    |tail=>cases y6
    |deep=>cases y6
   |row bf e sz es =>
    have hq:Chunk.row bf e sz es=ch:=by cases ch<;>exact y6
    subst hq;obtain⟨bH,us,g1,g2⟩:=hc;exact⟨bH,us,hid.trans g1,g2⟩
   |shut bf es =>
    have hq:Chunk.shut bf es=ch:=by cases ch<;>exact y6
    subst hq;obtain⟨bH,sz,g1,g2⟩:=hc;exact⟨bH,sz,hid.trans g1,g2⟩
   |tail bf e sz es =>
    have hq:Chunk.tail bf e sz es=ch:=by cases ch<;>exact y6
    subst hq;obtain⟨g,o,cap,arr,g1,g2⟩:=hc;exact⟨g,o,cap,arr,hid.trans g1,g2⟩
   |deep bf e sz k e' sz' es =>
    have hq:Chunk.deep bf e sz k e' sz' es=ch:=by cases ch<;>exact y6
    subst hq;obtain⟨bH,us,di,g1,g2⟩:=hc;exact⟨bH,us,di,hid.trans g1,g2⟩
  fK:=λid l b hl hb=>hs.fK id l b (to_eq hl).1 hb
  apart:=λi j li lj b hi hj qX uR=>hs.apart i j li lj b (to_eq hi).1 (to_eq hj).1 qX uR }
theorem atm{own:List Nat}{env:Env}{d:Option Tmp}{t:TypeId}{pos:String}{af:Array Edge}{g:Option (Nat×Bool)}(a:Nat)(s:Operand)(t1 t2:TypeId) :
  ahm own ⟨d,.call ⟨.builtin .append,#[.tmp a,s],#[t1,t2]⟩,t,pos,af,g⟩ env=((∃v,env a = .row (pO own a) v)/\∃x,ev env s = .p x):=rfl
theorem aCK(i j v:Nat):(∃u,AV.row i v = .row j u)=(i=j):=by
 apply propext;constructor
 ·rintro⟨u,h⟩;cases h;rfl
 ·rintro rfl;exact⟨v,rfl⟩
attribute [go_sem] atm aCK exists_eq'
section
variable{P:Program}{env:Env}{H:ay}{o:Oper}{W:Env->ay->Prop}{k:FuncId}{ps ps':List PV}{b:Bool}
theorem aCL(id:Nat){r:RV}(c:br P k ps λx=>x=r)(he:jT o (ev env) H=some (k,ps',b))(hp:qb ps' ps)(hb:b=true->r.flat=true)
  (hf:lT H id ((cO id r).2-id)) (hW:W (cH env o.dst (cO id r).1) (gj id H r)):jh P o W env H:=wB id (c.args (rT _ _ hp)) he hb hf hW
theorem aCM(ids:List Nat){x:PV}(c:aS P k ps λr=>r=x)(he:jT o (ev env) (dc ids H)=some (k,ps',b))(hp:qb ps' ps)(hb:b=true->x.scalar=true)
  (hW:W (cH env o.dst (.p x)) (dc ids H)):jh P o W env H:=asp ids (c.args (rT _ _ hp)) he hb hW
theorem aAV(ids:List Nat)(id:Nat){r:RV}(c:br P k ps λx=>x=r)(he:jT o (ev env) (dc ids H)=some (k,ps',b))(hp:qb ps' ps)(hb:b=true->r.flat=true)
  (hf:lT (dc ids H) id ((cO id r).2-id)) (hW:W (cH env o.dst (cO id r).1) (gj id (dc ids H) r)):jh P o W env H:=aok ids id (c.args (rT _ _ hp)) he hb hf hW
end
def giv{α:Type}(p:Prop) [Decidable p](x:α):Option α:=if p then some x else none
theorem sx{α:Type}{p:Prop} [Decidable p]{x r:α}(h:giv p x=some r):p/\x=r:=by
 unfold giv at h;split at h
 ·exact⟨by assumption,by simpa using h⟩
 ·cases h
variable{P:Program}{I:Mem}{L:bA}
def Ctx.ab8(w:World)(I:Mem)(n B:Nat)(L0:bA)(hB:B<=w.heap.size)(hL:∀i l,L0 i=some l->1000000<=i):Ctx:=⟨w,I,n,B,λb=>∃i l,L0 i=some l/\l.has b,L0,hB,hL⟩
def adO(P:Program)(f:FuncId)(G:ay)(eL:List AV)(Q:AV->ay->Prop):Prop :=
 hU P f=true/\∀ (B:Nat) (I:Mem) (L0:bA) (w:World) (vs:List Value) (hB:B<=w.heap.size) (hL:∀i l,L0 i=some l->1000000<=i),gV (Ctx.ab8 w I 0 B L0 hB hL) fT G I L0 #[] w->oQ I L0 vs eL ->
  Calls P f vs.toArray w λx w'=>∃u a H' I' L',x = .returned u/\Q a H'/\eo I' L' u a/\gV (Ctx.ab8 w I 0 B L0 hB hL) fT H' I' L' #[] w'
theorem adO.mono{f:FuncId}{G:ay}{eL:List AV}{Q Q':AV->ay->Prop}(h:adO P f G eL Q)(hq:∀a c,Q a c->Q' a c):adO P f G eL Q':=⟨h.1,λB I L0 w vs hB hL hs hv=>(h.2 B I L0 w vs hB hL hs hv).mono λ_ _ ⟨u,a,H',I',L',q1,q2,q3⟩=>⟨u,a,H',I',L',q1,hq _ _ q2,q3⟩⟩
def aEl(P:Program)(rs:List ResultVar)(Q:AV->ay->Prop):qi:=λe env H=>match e with
 | .normal | .ret=>(match o6 P env H rs with
  |some a=>Q a H
  |none=>False)
 |_=>False
theorem y7{f:FuncId}{fn:Func}{c:Code}{G:ay}{eL:List AV}{Q:AV->ay->Prop}(own:List Nat)(hm:P.follows .mixedOrders=true)(hf:P.funcs[f]? = some fn)(hb:fn.body=some c)
  (hc:hU P f=true) (hn:eL.length<=fn.ntmps) (h:cw P fn.ntmps own c (aEl P fn.results.toList Q) (adI eL) G):adO P f G eL Q:=by
 refine⟨hc,λB I L0 w vs hB hL hs0 hv=>calls_of_wp hf hb ?_⟩;let C:Ctx:=Ctx.ab8 w I fn.ntmps B L0 hB hL;have hlen:vs.length<=fn.ntmps:=by rw[hv.1];exact hn
 have hs:gV C (adI eL) G I L0 (vs.toArray++Array.replicate (fn.ntmps-vs.toArray.size) undef) w :=
  {below:=hs0.below
   mem:=hs0.mem
   kP:=hs0.kP
   lQ:=hs0.lQ
   frame:=hs0.frame
   loc:=hs0.loc
   jB:=hs0.jB
   size:=by simp only[Array.size_append,List.size_toArray,Array.size_replicate];show vs.length+(fn.ntmps-vs.length)=fn.ntmps;omega
   env:=λt=>by
    unfold adI;split
    ·rename_i a ha;have htl:t<vs.length:=by have:=(List.getElem?_eq_some_iff.1 ha).1;rw[hv.1];exact this
     have vI:(vs.toArray++Array.replicate (fn.ntmps-vs.toArray.size) undef).getD t undef=vs[t]:=by simp only[Array.getD_eq_getD_getElem?,Array.getElem?_append,List.size_toArray,if_pos htl,List.getElem?_toArray,List.getElem?_eq_getElem htl,Option.getD_some]
     rw[vI];exact hv.2 t _ a (by simp[htl]) ha
    ·exact .dead _
   dom:=hs0.dom
   chunk:=hs0.chunk
   fK:=hs0.fK
   apart:=hs0.apart }
 refine wp_mono (o5 hm c _ C rfl _ _ I L0 _ w h hs) ?_;rintro x a w' ⟨hd,env',H',I',L',hk,hs'⟩;have fin:(match o6 P env' H' fn.results.toList with
  |some a=>Q a H'
  |none=>False)->bodyPost P fn (λx w'=>∃u a H' I' L',x = .returned u/\Q a H'/\eo I' L' u a/\gV (Ctx.ab8 w I 0 B L0 hB hL) fT H' I' L' #[] w') .normal a w':=by
  intro hk;split at hk
  ·rename_i av hav;obtain⟨u,hru,hua⟩:=vi hs' hav;refine⟨hd,u,hru,u,av,H',I',L',rfl,hk,hua,?_⟩;exact
   {below:=hs'.below
    mem:=hs'.mem
    kP:=hs'.kP
    lQ:=hs'.lQ
    frame:=hs'.frame
    loc:=hs'.loc
    jB:=hs'.jB
    size:=rfl
    env:=λt=>.dead _
    dom:=hs'.dom
    chunk:=hs'.chunk
    fK:=hs'.fK
    apart:=hs'.apart }
  ·exact hk.elim
 cases x with
 |normal=>exact fin hk
 |ret=>exact fin hk
 |exit id=>exact hk.elim
 |goto l=>exact hk.elim
 |panic c=>exact hk.elim
 |outgrown=>exact hk.elim
theorem alH{w:World}{B:Nat}{hl:List (Nat×Chunk)}{id:Nat}{c ch:Chunk}(hc:qd I L w B id c)(y6:ajh (some c) ch)(hch:b7 hl id=some ch)(h4:yt (b7 hl) hl):qd I (L.to (b7 hl)) w B id ch:=by
 have hid:L.to (b7 hl) id=L id:=lK (by rw[hch];simp);cases c with
 |box cs =>
  cases ch with
  |box ds =>
   have hq:sv cs ds:=y6;obtain⟨q1,q2⟩:=tS hq;obtain⟨b,arr,e,g1,g2,g3,g4,g5,g6⟩:=hc;refine⟨b,arr,e,hid.trans g1,g2,g3.trans q1,λj u c hu hc=>?_,g5,g6⟩;obtain⟨a,ha⟩:∃a,cs[j]? = some a:=by have hj:j<arr.size:=(Array.getElem?_eq_some_iff.1 hu).1;exact⟨cs[j]'(by omega),by simp[g3 ▸ hj]⟩
   exact (ab6 (g4 j u a hu ha) (q2 j a c ha hc)).to (od (aji h4 id ds hch) j c hc)
  |row=>cases y6
  |shut=>cases y6
  |tail=>cases y6
  |deep=>cases y6
 |row bf e sz es =>
  have hq:Chunk.row bf e sz es=ch:=by cases ch<;>exact y6
  subst hq;obtain⟨bH,us,g1,g2⟩:=hc;exact⟨bH,us,hid.trans g1,g2⟩
 |shut bf es =>
  have hq:Chunk.shut bf es=ch:=by cases ch<;>exact y6
  subst hq;obtain⟨bH,sz,g1,g2⟩:=hc;exact⟨bH,sz,hid.trans g1,g2⟩
 |tail bf e sz es =>
  have hq:Chunk.tail bf e sz es=ch:=by cases ch<;>exact y6
  subst hq;obtain⟨g,o,cap,arr,g1,g2⟩:=hc;exact⟨g,o,cap,arr,hid.trans g1,g2⟩
 |deep bf e sz k e' sz' es =>
  have hq:Chunk.deep bf e sz k e' sz' es=ch:=by cases ch<;>exact y6
  subst hq;obtain⟨bH,us,di,g1,g2⟩:=hc;exact⟨bH,us,di,hid.trans g1,g2⟩
def over(l:List (Nat×Chunk))(H:ay):ay:=match l with
 | []=>H
 |(d,c) :: r=>bk (over r H) d c
theorem axS(H:ay):over [] H=H:=rfl
theorem atn(d:Nat)(c:Chunk)(r:List (Nat×Chunk))(H:ay):over ((d,c) :: r) H=bk (over r H) d c:=rfl
theorem ajj(H:ay)(i:Nat):∀l:List (Nat×Chunk),over l H i=match b7 l i with
  |some c=>some c
  |none=>H i
 | []=>rfl
 |(d,c) :: r=>by
  unfold over b7 bk;by_cases hi:i=d
  ·simp[hi]
  ·simp only[if_neg hi];exact ajj H i r
def hiL:List (Nat×Chunk)->Prop
 | []=>True
 |(d,_) :: r=>1000000<=d/\hiL r
def abl(G:ay):List (Nat×Chunk)->Prop
 | []=>True
 |(d,_) :: r=>G d≠none/\abl G r
def newL(G H:ay):List (Nat×Chunk)->Prop
 | []=>True
 |(d,_) :: r=>(G d≠none\/H d=none)/\newL G H r
theorem aAW:hiL []=True:=rfl
theorem axT(d:Nat)(c:Chunk)(r:List (Nat×Chunk)):hiL ((d,c) :: r)=(1000000<=d/\hiL r):=rfl
theorem aoQ(G:ay):abl G []=True:=rfl
theorem alI(G:ay)(d:Nat)(c:Chunk)(r:List (Nat×Chunk)):abl G ((d,c) :: r)=(G d≠none/\abl G r):=rfl
theorem axU(G H:ay):newL G H []=True:=rfl
theorem ato(G H:ay)(d:Nat)(c:Chunk)(r:List (Nat×Chunk)):newL G H ((d,c) :: r)=((G d≠none\/H d=none)/\newL G H r):=rfl
theorem axV:∀ {l:List (Nat×Chunk)},hiL l->∀i,b7 l i≠none->1000000<=i
 | [],_,i,h=>absurd rfl h
 |(d,c) :: r,hh,i,h=>by
  unfold b7 bk at h;split at h
  ·rename_i e;rw[e];exact hh.1
  ·exact axV hh.2 i h
theorem ac9{G:ay} : ∀ {l:List (Nat×Chunk)},abl G l->∀i,b7 l i≠none->G i≠none
 | [],_,i,h=>absurd rfl h
 |(d,c) :: r,hh,i,h=>by
  unfold b7 bk at h;split at h
  ·rename_i e;rw[e];exact hh.1
  ·exact ac9 hh.2 i h
theorem aqo{G H:ay} : ∀ {l:List (Nat×Chunk)},newL G H l->∀i,b7 l i≠none->G i≠none\/H i=none
 | [],_,i,h=>absurd rfl h
 |(d,c) :: r,hh,i,h=>by
  unfold b7 bk at h;split at h
  ·rename_i e;rw[e];exact hh.1
  ·exact aqo hh.2 i h
section
variable{C:Ctx}{env:Env}{H H':ay}{tm:Array Value}{w w':World}{I':Mem}{L':bA}{l0 l1:List (Nat×Chunk)}
theorem axW(hh:hiL l0):∀i l,L.to (b7 l0) i=some l->1000000<=i:=λi l hl=>axV hh i (by
 obtain⟨c,hc⟩:=(to_eq hl).2;rw[hc];simp)
theorem gV.ab8(h:gV C env H I L tm w)(h0:abk H l0)(hi:yt (b7 l0) l0)(hh:hiL l0):gV (Ctx.ab8 w I 0 C.B (L.to (b7 l0)) h.leB (axW hh)) fT (b7 l0) I (L.to (b7 l0)) #[] w :=
 {below:=Below.refl _ _
  mem:=h.mem
  kP:=Mem.dV I
  lQ:=λ_ _ _ _=>rfl
  frame:=λ_ _ _=>rfl
  loc:=dL.refl _
  jB:=λid l b hl hb=>.inr ⟨id,l,hl,hb⟩
  size:=rfl
  env:=λ_=>.dead _
  dom:=λid l hl=>(to_eq hl).2
  chunk:=λid ch hch=>by obtain⟨c,hc1,y6⟩:=ab7 h0 id ch hch;exact alH (h.chunk id c hc1) y6 hch hi
  fK:=λid l b hl hb=>h.fK id l b (to_eq hl).1 hb
  apart:=λi j li lj b hi hj qX uR=>h.apart i j li lj b (to_eq hi).1 (to_eq hj).1 qX uR }
def xX(l1:List (Nat×Chunk))(L' L:bA):bA:=λi=>match b7 l1 i with
 |some _=>L' i
 |none=>L i
theorem uz{i:Nat}(h:b7 l1 i≠none):xX l1 L' L i=L' i:=by
 unfold xX;cases hc:b7 l1 i with
 |none=>exact absurd hc h
 |some c=>rfl
theorem pZ{i:Nat}(h:b7 l1 i=none):xX l1 L' L i=L i:=by unfold xX;rw[h]
theorem alJ:dL (L'.to (b7 l1)) (xX l1 L' L):=λi=>by
 cases hl:L'.to (b7 l1) i with
 |none=>trivial
 |some l =>
  obtain⟨e,c,hc⟩:=to_eq hl;have hb:xX l1 L' L i=some l:=by rw[uz (by rw[hc];simp)];exact e
  cases l with
  |box b=>exact hb
  |row v bH sz=>exact⟨v,bH,hb,Nat.le_refl _,λ_=>rfl⟩
  |deep v bH sz sz' di n=>exact⟨v,bH,di,n,hb,Nat.le_refl _,λ_=>⟨rfl,rfl,rfl⟩⟩
theorem gV.aEm(h:gV C env H I L tm w)(h0:abk H l0)(hh:hiL l0)
  (hs':gV (Ctx.ab8 w I 0 C.B (L.to (b7 l0)) h.leB (axW hh)) fT H' I' L' #[] w')
  (h1:abk H' l1) (hi:yt (b7 l1) l1) (hst:abl (b7 l1) l0) (hnw:newL (b7 l0) H l1) :
  gV C env (over l1 H) I' (xX l1 L' L) tm w'/\dL (L'.to (b7 l1)) (xX l1 L' L):=by
 have hin0:∀i,b7 l0 i≠none->H i≠none:=λi hi=>by
  cases hc:b7 l0 i with
  |none=>exact absurd hc hi
  |some c=>obtain⟨c',h2,_⟩:=ab7 h0 i c hc;rw[h2];simp
 have hmem:∀i,b7 l1 i≠none->H i≠none->b7 l0 i≠none:=λi hi hH=>(aqo hnw i hi).elim id λe=>absurd e hH
 have hLH:∀i l,L i=some l->H i≠none:=λi l hl=>by obtain⟨c,hc⟩:=h.dom i l hl;rw[hc];simp
 have aj4:dL L (xX l1 L' L):=λi=>by
  by_cases hi:b7 l1 i=none
  ·rw[pZ hi];exact dL.refl L i
  ·rw[uz hi];cases hL:L i with
   |none=>trivial
   |some l=>have h2:=hmem i hi (hLH i l hL);have h3:L.to (b7 l0) i=L i:=lK h2;have h4:=hs'.loc i;simp only[Ctx.ab8,h3,hL] at h4;exact h4
 have axX:∀b,(∃i l,L.to (b7 l0) i=some l/\l.has b)->∃i l,b7 l0 i≠none/\L i=some l/\l.has b:=λb ⟨i,l,hl,hb⟩=>by obtain⟨e,c,hc⟩:=to_eq hl;exact⟨i,l,by rw[hc];simp,e,hb⟩
 have hfr:∀b,b<w.heap.size->(¬ ∃i l,L.to (b7 l0) i=some l/\l.has b)->w'.heap[b]? = w.heap[b]?/\∀o,I' b o=I b o:=λb hb hn=>⟨hs'.frame b hb hn,λo=>hs'.lQ b hb hn o⟩
 have hout:∀b,b<C.w0.heap.size->¬ C.amY b->¬ ∃i l,L.to (b7 l0) i=some l/\l.has b:=λb hb hn hx=>by
  obtain⟨i,l,_,hl,hlb⟩:=axX b hx;rcases h.jB i l b hl hlb with h2|h2
  ·omega
  ·exact hn h2
 have aBV:∀i l b,xX l1 L' L i=some l->b7 l1 i≠none->l.has b->w.heap.size<=b\/∃i l,b7 l0 i≠none/\L i=some l/\l.has b:=λi l b hl hi hb=>by rw[uz hi] at hl;exact (hs'.jB i l b hl hb).imp id (axX b)
 refine⟨?_,alJ⟩;exact
 {below:=h.below.trans hs'.below
  mem:=hs'.mem
  kP:=Mem.lP h.kP hs'.kP
  lQ:=λb hb hf o=>by rw[(hfr b (Nat.lt_of_lt_of_le hb h.below.size) (hout b hb hf)).2 o];exact h.lQ b hb hf o
  frame:=λb hb hf=>((hfr b (Nat.lt_of_lt_of_le hb h.below.size) (hout b hb hf)).1).trans (h.frame b hb hf)
  loc:=h.loc.trans aj4
  jB:=λi l b hl hb=>by
   by_cases hi:b7 l1 i=none
   ·rw[pZ hi] at hl;exact h.jB i l b hl hb
   ·rcases aBV i l b hl hi hb with h2|⟨j,lj,_,h3,h4⟩
    ·exact .inl (Nat.le_trans h.below.size h2)
    ·exact h.jB j lj b h3 h4
  size:=h.size
  env:=λt=>(h.env t).mono hs'.kP aj4
  dom:=λi l hl=>by
   rw[ajj];cases hc:b7 l1 i with
   |some c=>exact⟨c,rfl⟩
   |none=>rw[pZ hc] at hl;exact h.dom i l hl
  chunk:=λi c hc=>by
   rw[ajj] at hc;cases hc1:b7 l1 i with
   |some c1=>rw[hc1] at hc;simp only[cA] at hc;subst hc;obtain⟨c',g1,g2⟩:=ab7 h1 i c1 hc1;exact (alH (hs'.chunk i c' g1) g2 hc1 hi).keep (Mem.dV I') alJ (by rw[uz (by rw[hc1];simp),lK (by rw[hc1];simp)]) λ_ _ _ _=>⟨rfl,λ_=>rfl⟩
   |none =>
    rw[hc1] at hc;refine (h.chunk i c hc).keep hs'.kP aj4 (pZ hc1) λl b hl hb=>hfr b (h.fK i l b hl hb).2 λhx=>?_
    obtain⟨j,lj,h2,h3,h4⟩:=axX b hx;have:=h.apart i j l lj b hl h3 hb h4;subst this;exact ac9 hst i h2 hc1
  fK:=λi l b hl hb=>by
   by_cases hi:b7 l1 i=none
   ·rw[pZ hi] at hl;exact⟨(h.fK i l b hl hb).1,Nat.lt_of_lt_of_le (h.fK i l b hl hb).2 hs'.below.size⟩
   ·rw[uz hi] at hl;exact hs'.fK i l b hl hb
  apart:=λi j li lj b hi hj qX uR=>by
   have one:∀i j li lj,xX l1 L' L i=some li->xX l1 L' L j=some lj->li.has b->lj.has b->b7 l1 i≠none->b7 l1 j=none->False:=λi j li lj hi hj qX uR h2 h3=>by
    have hj':=hj;rw[pZ h3] at hj';rcases aBV i li b hi h2 qX with h4|⟨k,lk,h4,h5,h6⟩
    ·have:=(h.fK j lj b hj' uR).2;omega
    ·have:=h.apart k j lk lj b h5 hj' h6 uR;subst this;exact ac9 hst k h4 h3
   by_cases h2:b7 l1 i=none<;>by_cases h3:b7 l1 j=none
   ·rw[pZ h2] at hi;rw[pZ h3] at hj;exact h.apart i j li lj b hi hj qX uR
   ·exact (one j i lj li hj hi uR qX h3 h2).elim
   ·exact (one i j li lj hi hj qX uR h2 h3).elim
   ·rw[uz h2] at hi;rw[uz h3] at hj;exact hs'.apart i j li lj b hi hj qX uR }
end
def isIn(c:Option Chunk)(a:AV)(r:Option AV):Option AV:=match c with
 |some _=>some a
 |none=>r
def aqp(r:Option (PV×Bool)):Option AV:=match r with
 |some (x,false)=>some (.p x)
 |_=>none
def ahD(G H:ay):AV->Option AV
 | .ptr id off=>isIn (G id) (.ptr id off) none
 | .row id v=>isIn (G id) (.row id v) (aqp (gA H (.row id v)))
 | .eG id v=>isIn (G id) (.eG id v) none
 |a=>aqp (gA H a)
def y8(G H:ay):List AV->Option (List AV)
 | []=>some []
 |a :: r=>match ahD G H a,y8 G H r with
  |some x,some xs=>some (x :: xs)
  |_,_=>none
theorem atp(c:Chunk)(a:AV)(r:Option AV):isIn (some c) a r=some a:=rfl
theorem atq(G H:ay)(id off:Nat):ahD G H (.ptr id off)=isIn (G id) (.ptr id off) none:=rfl
theorem aAX(G H:ay)(x:PV):ahD G H (.p x)=some (.p x):=rfl
theorem aoR(G H:ay):y8 G H []=some []:=rfl
theorem alK(G H:ay)(a:AV)(r:List AV):y8 G H (a :: r)=match ahD G H a,y8 G H r with
  |some x,some xs=>some (x :: xs)
  |_,_=>none:=rfl
theorem axY{C:Ctx}{H G:ay}{env:Env}{tm:Array Value}{w:World}(hs:gV C env H I L tm w){u:Value}{a x:AV}(hu:eo I L u a)(h:ahD G H a=some x):eo I (L.to G) u x:=by
 have hp:∀a,eo I L u a->aqp (gA H a)=some x->eo I (L.to G) u x:=λa hu h=>by
  unfold aqp at h;split at h
  ·rename_i y he;simp only[cA] at h;subst h;exact .p _ _ ((o4 hs (tO H) (lR hs.mem) ((qY L w).g H) u a y false hu he).2 rfl)
  ·cases h
 unfold ahD at h;split at h
 ·rename_i id off;unfold isIn at h;split at h
  ·rename_i c hc;simp only[cA] at h;subst h;exact hu.to (by rw[ahC,hc];simp)
  ·cases h
 ·rename_i id v;unfold isIn at h;split at h
  ·rename_i c hc;simp only[cA] at h;subst h;exact hu.to (by rw[ahB,hc];simp)
  ·exact hp _ hu h
 ·rename_i id v;unfold isIn at h;split at h
  ·rename_i c hc;simp only[cA] at h;subst h;exact hu.to (by rw[afr,hc];simp)
  ·cases h
 ·exact hp _ hu h
theorem ahE{C:Ctx}{H G:ay}{env:Env}{tm:Array Value}{w:World}(hs:gV C env H I L tm w):∀ {us:List Value} {eL xs:List AV},oQ I L us eL->y8 G H eL=some xs->oQ I (L.to G) us xs
 |us,[],xs,hu,h=>by simp only[y8,cA] at h;subst h;exact⟨by simpa using hu.1,by simp⟩
 | [],a :: r,xs,hu,h=>by have:=hu.1;simp at this
 |u :: us,a :: r,xs,hu,h=>by
  unfold y8 at h;split at h
  ·rename_i x ys h1 h2;simp only[cA] at h;subst h;have k:=ahE hs (us:=us) (eL:=r) ⟨by have:=hu.1;simpa using this,λj u c hj hc=>hu.2 (j+1) u c hj hc⟩ h2;refine⟨by simp[k.1],λj u' c hj hc=>?_⟩;cases j with
   |zero=>simp at hj hc;subst hj hc;exact axY hs (hu.2 0 u a rfl rfl) h1
   |succ j=>exact k.2 j u' c (by simpa using hj) (by simpa using hc)
  ·cases h
theorem ab9{o:Oper}{W:Env->ay->Prop}{env:Env}{H:ay}{k:FuncId}{eL xs ys:List AV}{A:AV}{l0 l1:List (Nat×Chunk)}
  (c:adO P k (b7 l0) ys λa H=>om a A/\abk H l1) (ha:dH o (ev env)=some (k,eL)) (hx:y8 (b7 l0) H eL=some xs) (hy:sv xs ys)
  (hh:hiL l0) (h0:abk H l0/\yt (b7 l0) l0) (h1:yt (b7 l1) l1/\o7 (b7 l1) A) (hst:abl (b7 l1) l0) (hnw:newL (b7 l0) H l1)
  (hW:W (cH env o.dst A) (over l1 H)):abQ P o W env H:=λC I L tm w σ hs hσ=>by
 obtain⟨us,hr,hu⟩:=qg ha c.1 hσ w;refine⟨k,_,hr,?_⟩;have hv:=ahE hs hu hx;obtain⟨q1,q2⟩:=tS hy;have we:oQ I (L.to (b7 l0)) us ys:=⟨hv.1.trans q1,λj u c hj hc=>by
  obtain⟨a,ha⟩:∃a,xs[j]? = some a:=by have hj:j<us.length:=(List.getElem?_eq_some_iff.1 hj).1;have hl:=hv.1;exact⟨xs[j]'(by omega),by simp[hl ▸ hj]⟩
  exact ab6 (hv.2 j u a hj ha) (q2 j a c ha hc)⟩
 refine (c.2 C.B I _ w us hs.leB (axW hh) (hs.ab8 h0.1 h0.2 hh) we).mono λx w' ⟨u,a,H',I',L',m1,⟨m2,m3⟩,m4,m5⟩=>?_
 obtain⟨n1,n2⟩:=hs.aEm h0.1 hh m5 m3 h1.1 hst hnw;exact⟨u,I',_,A,_,m1,hW,((ab6 m4 m2).to h1.2).mono (Mem.dV _) n2,n1⟩
end Go.cr
namespace Go.cr
open Go.RowKit
variable{P:Program}{I:Mem}{L:bA}
def Mem.add(I:Mem)(b lo:Nat)(us:List Value):Mem:=λc o=>if c=b/\lo<=o/\o<lo+us.length then us[o-lo]? else I c o
theorem ale{H' H:ay}{id v:Nat}{e:TypeId}{sz:Nat}{es:List (List PV)}(h:qj H' H):qj (bk H' id (.tail v e sz es)) H:=λi c' hi=>by
 unfold bk at hi;split at hi
 ·cases hi
 ·exact h i c' hi
end Go.cr
namespace Go.cr
open Go.RowKit
variable{P:Program}{I:Mem}{L:bA}
def sw(s t i:Nat):Nat:=if i=s then t else if i=t then s else i
theorem p0(s t i:Nat):sw s t (sw s t i)=i:=by
 unfold sw;split
 ·rename_i h;subst h;split
  ·assumption
  ·rw[if_pos rfl]
 ·split
  ·rename_i h;subst h;rw[if_pos rfl]
  ·rfl
mutual
def jC(s t:Nat):AV->AV
 | .row id v=>.row (sw s t id) v
 | .ptr id o=>.ptr (sw s t id) o
 | .jm id v i o=>.jm (sw s t id) v i o
 | .agg cs=>.agg (oK s t cs)
 | .dQ cs=>.dQ (oK s t cs)
 | .iw f a b=>.iw f (oK s t a) (oK s t b)
 | .eG id v=>.eG (sw s t id) v
 | .kC id v i o=>.kC (sw s t id) v i o
 | .kD id v i=>.kD (sw s t id) v i
 | .ng id v i j o=>.ng (sw s t id) v i j o
 | .bsl id n=>.bsl (sw s t id) n
 | .iA id v o n m z=>.iA (sw s t id) v o n m z
 |x=>x
def oK(s t:Nat):List AV->List AV
 | []=>[]
 |a :: r=>jC s t a :: oK s t r
end
theorem tT{s t:Nat} : ∀ {cs:List AV} {j:Nat} {c:AV},(oK s t cs)[j]? = some c->∃d,cs[j]? = some d/\c=jC s t d
 | [],j,c,h=>by simp[oK] at h
 |a :: r,0,c,h=>by unfold oK at h;simp only[List.getElem?_cons_zero,cA] at h;exact⟨a,rfl,h.symm⟩
 |a :: r,j+1,c,h=>by unfold oK at h;exact tT (cs:=r) (by simpa using h)
theorem oC{s t:Nat} : ∀cs:List AV,(oK s t cs).length=cs.length
 | []=>rfl
 |a :: r=>by unfold oK;simp[oC r]
def atr(s t:Nat):Chunk->Chunk
 | .box cs=>.box (oK s t cs)
 |c=>c
def axZ(s t:Nat):Option Chunk->Option Chunk
 |some c=>some (atr s t c)
 |none=>none
def ada(s t:Nat)(env:Env):Env:=λi=>jC s t (env i)
def ajk(s t:Nat)(H:ay):ay:=λi=>axZ s t (H (sw s t i))
def abm(s t:Nat)(L:bA):bA:=λi=>L (sw s t i)
theorem eo.ren{s t:Nat}{u:Value}{a:AV}(h:eo I L u a):eo I (abm s t L) u (jC s t a):=by
 induction h with
 |p u x h=>unfold jC;exact .p u x h
 |row u id bf v bH sz hl hle h h1=>unfold jC;exact .row u _ bf v bH sz (by unfold abm;rw[p0];exact hl) hle h h1
 |ptr id b off hl=>unfold jC;exact .ptr _ b off (by unfold abm;rw[p0];exact hl)
 |jm u id bf v i off bH sz hl hle h h1=>unfold jC;exact .jm u _ bf v i off bH sz (by unfold abm;rw[p0];exact hl) hle h h1
 |agg us cs hl _ hone ih=>unfold jC;refine .agg us _ (by rw[oC];exact hl) (λj u c hu hc=>?_) hone;obtain⟨d,hd,rfl⟩:=tT hc;exact ih j u d hu hd
 |dQ us cs hl _ ih=>unfold jC;refine .dQ us _ (by rw[oC];exact hl) (λj u c hu hc=>?_);obtain⟨d,hd,rfl⟩:=tT hc;exact ih j u d hu hd
 |iw fn us vs fs cs hl hl' _ _ ih ih' =>
  unfold jC;refine .iw fn us vs _ _ (by rw[oC];exact hl) (by rw[oC];exact hl') (λj u c hu hc=>?_) (λj u c hu hc=>?_)
  ·obtain⟨d,hd,rfl⟩:=tT hc;exact ih j u d hu hd
  ·obtain⟨d,hd,rfl⟩:=tT hc;exact ih' j u d hu hd
 |dead u=>unfold jC;exact .dead u
 |bsl id b n hl=>unfold jC;exact .bsl _ b n (by unfold abm;rw[p0];exact hl)
 |iA a id bf v off n m c bH sz hl hle hn hm hz h=>unfold jC;exact .iA a _ bf v off n m c bH sz (by unfold abm;rw[p0];exact hl) hle hn hm hz h
 |eG u id bf v bH sz sz' di n hl hle h h1=>unfold jC;exact .eG u _ bf v bH sz sz' di n (by unfold abm;rw[p0];exact hl) hle h h1
 |kC u id bf v i off bH sz sz' di n hl hle h h1=>unfold jC;exact .kC u _ bf v i off bH sz sz' di n (by unfold abm;rw[p0];exact hl) hle h h1
 |kD u id bf v i bH sz sz' di n hl hle h h1=>unfold jC;exact .kD u _ bf v i bH sz sz' di n (by unfold abm;rw[p0];exact hl) hle h h1
 |ng u id bf v i j off bH sz sz' di n hl hle h h1=>unfold jC;exact .ng u _ bf v i j off bH sz sz' di n (by unfold abm;rw[p0];exact hl) hle h h1
theorem qd.ren{s t:Nat}{w:World}{B id:Nat}{c:Chunk}(h:qd I L w B (sw s t id) c):qd I (abm s t L) w B id (atr s t c):=by
 cases c with
 |box cs=>obtain⟨b,arr,e,g1,g2,g3,g4,g5,g6⟩:=h;refine⟨b,arr,e,g1,g2,by rw[oC];exact g3,λj u c hu hc=>?_,g5,g6⟩;obtain⟨d,hd,rfl⟩:=tT hc;exact (g4 j u d hu hd).ren
 |row bf e sz es=>exact h
 |shut bf es=>exact h
 |tail bf e sz es=>exact h
 |deep bf e sz k e' sz' es=>exact h
theorem aAY(s t:Nat)(env:Env)(i:Nat):ada s t env i=jC s t (env i):=rfl
theorem aAZ(s t:Nat)(H:ay)(i:Nat):ajk s t H i=axZ s t (H (sw s t i)):=rfl
theorem aEn(s t i:Nat):sw s t i=if i=s then t else if i=t then s else i:=rfl
theorem ax0(s t id v:Nat):jC s t (.row id v) = .row (sw s t id) v:=by simp only[jC]
theorem ax1(s t id v:Nat):jC s t (.ptr id v) = .ptr (sw s t id) v:=by simp only[jC]
theorem aCN(s t:Nat)(x:PV):jC s t (.p x) = .p x:=by simp only[jC]
theorem att(s t id v:Nat):jC s t (.eG id v) = .eG (sw s t id) v:=by simp only[jC]
theorem atu(s t v:Nat)(e:TypeId)(sz k:Nat)(e':TypeId)(sz':Nat)(es:List (List PV)):atr s t (.deep v e sz k e' sz' es) = .deep v e sz k e' sz' es:=rfl
theorem atv(s t:Nat):oK s t []=[]:=by simp only[oK]
theorem aoS(s t:Nat)(a:AV)(r:List AV):oK s t (a :: r)=jC s t a :: oK s t r:=by simp only[oK]
theorem atw(s t:Nat)(c:Chunk):axZ s t (some c)=some (atr s t c):=rfl
theorem atx(s t:Nat):axZ s t none=none:=rfl
theorem ax2(s t:Nat)(cs:List AV):atr s t (.box cs) = .box (oK s t cs):=rfl
theorem ax3(s t v:Nat)(e:TypeId)(sz:Nat)(es:List (List PV)):atr s t (.row v e sz es) = .row v e sz es:=rfl
attribute [go_sem] att atu aAY aAZ aEn ax0 ax1 aCN atv aoS atw atx ax2 ax3 axS atn aAW axT aoQ alI axU ato atp atq aAX aoR alK
end Go.cr
namespace Go.cr
open Go.RowKit
variable{P:Program}{I:Mem}{L:bA}
theorem gV.change{C:Ctx}{env:Env}{H H':ay}{I':Mem}{L':bA}{tm:Array Value}{w w':World}(h:gV C env H I L tm w)(hb:Below C.B w w')(S:Nat->Prop)
  (hk:∀b,b<w.heap.size->(¬ ∃i l,S i/\L i=some l/\l.has b)->w'.heap[b]? = w.heap[b]?/\∀o,I' b o=I b o) (hle:dL L L') (hsub:I.sub I') (hIw:I'.inW w')
  (hS:∀i,¬ S i->L' i=L i/\H' i=H i) (hdom:∀i l,S i->L' i=some l->∃c,H' i=some c) (hch:∀i c,S i->H' i=some c->qd I' L' w' C.B i c)
  (hblk:∀i l b,S i->L' i=some l->l.has b->(∃j lj,S j/\L j=some lj/\lj.has b)\/(w.heap.size<=b/\b<w'.heap.size))
  (hap:∀i j li lj b,S i->S j->L' i=some li->L' j=some lj->li.has b->lj.has b->i=j):gV C env H' I' L' tm w':=by
 have hold:∀b,b<C.w0.heap.size->¬ C.amY b->¬ ∃i l,S i/\L i=some l/\l.has b:=λb hb hn ⟨i,l,_,hl,hlb⟩=>by
  rcases h.jB i l b hl hlb with h2|h2
  ·omega
  ·exact hn h2
 have hlt:∀b,b<C.w0.heap.size->b<w.heap.size:=λb hb=>Nat.lt_of_lt_of_le hb h.below.size
 have j7:∀i l b,¬ S i->L i=some l->l.has b->¬ ∃j lj,S j/\L j=some lj/\lj.has b:=λi l b hi hl hlb ⟨j,lj,hj,hlj,hjb⟩=>by have:=h.apart i j l lj b hl hlj hlb hjb;subst this;exact hi hj
 exact
 {below:=h.below.trans hb
  mem:=hIw
  kP:=Mem.lP h.kP hsub
  lQ:=λb hb hf o=>by rw[(hk b (hlt b hb) (hold b hb hf)).2 o];exact h.lQ b hb hf o
  frame:=λb hb hf=>((hk b (hlt b hb) (hold b hb hf)).1).trans (h.frame b hb hf)
  loc:=h.loc.trans hle
  jB:=λi l b hl hlb=>by
   by_cases hi:S i
   ·rcases hblk i l b hi hl hlb with ⟨j,lj,_,hj,hjb⟩|h2
    ·exact h.jB j lj b hj hjb
    ·exact .inl (Nat.le_trans h.below.size h2.1)
   ·rw[(hS i hi).1] at hl;exact h.jB i l b hl hlb
  size:=h.size
  env:=λt=>(h.env t).mono hsub hle
  dom:=λi l hl=>by
   by_cases hi:S i
   ·exact hdom i l hi hl
   ·rw[(hS i hi).1] at hl;rw[(hS i hi).2];exact h.dom i l hl
  chunk:=λi c hc=>by
   by_cases hi:S i
   ·exact hch i c hi hc
   ·rw[(hS i hi).2] at hc;exact (h.chunk i c hc).keep hsub hle (hS i hi).1 λl b hl hlb=>hk b (h.fK i l b hl hlb).2 (j7 i l b hi hl hlb)
  fK:=λi l b hl hlb=>by
   by_cases hi:S i
   ·rcases hblk i l b hi hl hlb with ⟨j,lj,_,hj,hjb⟩|h2
    ·exact⟨(h.fK j lj b hj hjb).1,Nat.lt_of_lt_of_le (h.fK j lj b hj hjb).2 hb.size⟩
    ·exact⟨Nat.le_trans h.leB h2.1,h2.2⟩
   ·rw[(hS i hi).1] at hl;exact⟨(h.fK i l b hl hlb).1,Nat.lt_of_lt_of_le (h.fK i l b hl hlb).2 hb.size⟩
  apart:=λi j li lj b hi hj qX uR=>by
   have one:∀i j li lj,S i->¬ S j->L' i=some li->L' j=some lj->li.has b->lj.has b->False:=λi j li lj hi hj hli hlj qX uR=>by
    rw[(hS j hj).1] at hlj;rcases hblk i li b hi hli qX with hx|h2
    ·exact j7 j lj b hj hlj uR hx
    ·have:=(h.fK j lj b hlj uR).2;omega
   by_cases h1:S i<;>by_cases h2:S j
   ·exact hap i j li lj b h1 h2 hi hj qX uR
   ·exact (one i j li lj h1 h2 hi hj qX uR).elim
   ·exact (one j i lj li h2 h1 hj hi uR qX).elim
   ·rw[(hS i h1).1] at hi;rw[(hS j h2).1] at hj;exact h.apart i j li lj b hi hj qX uR }
theorem gV.ren{C:Ctx}{env:Env}{H:ay}{tm:Array Value}{w:World}(hs:gV C env H I L tm w){s t:Nat}(h0s:C.L0 s=none)(h0t:C.L0 t=none):gV C (ada s t env) (ajk s t H) I (abm s t L) tm w :=
 {below:=hs.below
  mem:=hs.mem
  kP:=hs.kP
  lQ:=hs.lQ
  frame:=hs.frame
  loc:=λi=>by
   by_cases h1:i=s
   ·subst h1;rw[h0s];trivial
   ·by_cases h2:i=t
    ·subst h2;rw[h0t];trivial
    ·have:abm s t L i=L i:=by unfold abm sw;rw[if_neg h1,if_neg h2]
     rw[this];exact hs.loc i
  jB:=λid l b hl hb=>hs.jB _ l b hl hb
  size:=hs.size
  env:=λi=>(hs.env i).ren
  dom:=λid l hl=>by obtain⟨c,hc⟩:=hs.dom _ l hl;exact⟨_,by unfold ajk;rw[hc];rfl⟩
  chunk:=λid ch hch=>by
   unfold ajk at hch;cases hc:H (sw s t id) with
   |none=>rw[hc] at hch;cases hch
   |some c=>rw[hc] at hch;simp only[axZ,cA] at hch;subst hch;exact (hs.chunk _ c hc).ren
  fK:=λid l b hl hb=>hs.fK _ l b hl hb
  apart:=λi j li lj b hi hj qX uR=>by
   have:=hs.apart _ _ li lj b hi hj qX uR;have h2:=congrArg (sw s t) this;rwa [p0,p0] at h2 }
mutual
theorem ahF(s t:Nat):∀a:AV,jC s t (jC s t a)=a
 | .p _=>by simp only[jC]
 | .row _ _=>by simp only[jC,p0]
 | .ptr _ _=>by simp only[jC,p0]
 | .jm _ _ _ _=>by simp only[jC,p0]
 | .agg cs=>by simp only[jC,sA s t cs]
 | .dQ cs=>by simp only[jC,sA s t cs]
 | .iw _ a b=>by simp only[jC,sA s t a,sA s t b]
 | .eG _ _=>by simp only[jC,p0]
 | .kC _ _ _ _=>by simp only[jC,p0]
 | .kD _ _ _=>by simp only[jC,p0]
 | .ng _ _ _ _ _=>by simp only[jC,p0]
 | .bsl _ _=>by simp only[jC,p0]
 | .iA _ _ _ _ _ _=>by simp only[jC,p0]
 | .dead=>by simp only[jC]
theorem sA(s t:Nat):∀l:List AV,oK s t (oK s t l)=l
 | []=>by simp only[oK]
 |a :: r=>by simp only[oK,ahF s t a,sA s t r]
end
theorem ahG(s t:Nat)(env:Env):ada s t (ada s t env)=env:=by funext i;simp only[ada,ahF]
theorem aty(s t:Nat)(env:Env)(d:Option Tmp)(a:AV):ada s t (cH env d a)=cH (ada s t env) d (jC s t a):=by
 cases d with
 |none=>rfl
 |some k=>funext i;show jC s t (cE env k a i)=cE (ada s t env) k (jC s t a) i;unfold cE;split<;>rfl
theorem aCO(s t:Nat)(env:Env)(x:Operand):ev (ada s t env) x=jC s t (ev env x):=by
 cases x with
 |tmp k=>rfl
 |const v =>
  show yE v=jC s t (yE v);have:∃p,yE v = .p p\/yE v = .dead:=by unfold yE;split<;>first|exact⟨_,.inl rfl⟩|exact⟨default,.inr rfl⟩|(split<;>first|exact⟨_,.inl rfl⟩|exact⟨default,.inr rfl⟩)
  obtain⟨p,h|h⟩:=this<;>rw[h]<;>simp only[jC]
 |global g=>simp only[ev,jC]
 |func f=>simp only[ev,jC]
theorem kK{o:Oper}{W:Env->ay->Prop}{env:Env}{H:ay}(s t:Nat)(hs1:s<1000000)(ht:H t=none)(h:abQ P o (λe G=>W (ada s t e) (ajk s t G)) (ada s t env) (ajk s t H)):abQ P o W env H:=λC I L tm w σ hs hσ=>by
 have hLt:L t=none:=hs.rX ht;have h0t:C.L0 t=none:=by
  cases h:C.L0 t with
  |none=>rfl
  |some l =>
   have:=hs.loc t;rw[h] at this;cases l with
   |box b=>rw[hLt] at this;cases this
   |row v bH sz=>obtain⟨_,_,h2,_⟩:=this;rw[hLt] at h2;cases h2
   |deep v bH sz sz' di n=>obtain⟨_,_,_,_,h2,_⟩:=this;rw[hLt] at h2;cases h2
 have h0s:C.L0 s=none:=by
  cases h:C.L0 s with
  |none=>rfl
  |some l=>have:=C.hL0 s l h;omega
 obtain⟨k,args,q1,q2⟩:=h C I _ tm w σ (hs.ren h0s h0t) λx=>by rw[aCO];exact (hσ x).ren
 refine⟨k,args,q1,q2.mono λe w' ⟨v,I',L',a,H',m1,m2,m3,m4⟩=>⟨v,I',abm s t L',jC s t a,ajk s t H',m1,?_,m3.ren,?_⟩⟩
 ·have:ada s t (cH (ada s t env) o.dst a)=cH env o.dst (jC s t a):=by rw[aty,ahG]
  rw[<-this];exact m2
 ·have:=m4.ren h0s h0t;rwa [ahG] at this
theorem alL{C:Ctx}{H:ay}{env:Env}{tm:Array Value}{w:World}(hs:gV C env H I L tm w){d:Nat}(hd:H d=none)(e:TypeId){sz k:Nat}(hpos:k<sz)(e':TypeId)(sz':Nat) :
  eo I (ck L d (.deep 0 (.slice none 0 0) sz sz' (λ_=>.slice none 0 0) 0)) (.slice none 0 0) (.eG d 0)/\Fr C I L H w I (ck L d (.deep 0 (.slice none 0 0) sz sz' (λ_=>.slice none 0 0) 0)) (bk H d (.deep 0 e sz k e' sz' [])) w /\
   dL L (ck L d (.deep 0 (.slice none 0 0) sz sz' (λ_=>.slice none 0 0) 0)):=by
 refine⟨.eG _ d 0 0 (.slice none 0 0) sz sz' (λ_=>.slice none 0 0) 0 (by simp[ck]) (Nat.le_refl _) (λ_=>rfl) rfl,λenv tm hs=>?_,dL.tY (hs.rX hd) _⟩;refine hs.new (Below.refl _ _) (λ_ _=>rfl) hd _ _ ?_ (λb hb=>?_)
 ·refine⟨.slice none 0 0,[],λ_=>.slice none 0 0,by simp[ck],⟨⟨by simp[fA],.inl ⟨rfl,by simp[fA]⟩⟩,by omega,by simp[fA],by simp,by simp,λb hb=>by cases hb⟩,rfl,hpos,by simp,λi x hx=>by simp at hx,λi b hi=>by simp at hi,λi j b hi=>by simp at hi⟩
 ·rcases hb with hb|⟨i,hi,_⟩
  ·cases hb
  ·omega
theorem atz{e:Env}{H:ay}(t id:Nat)(ty:TypeId)(sz k:Nat)(e':TypeId)(sz':Nat)(ht:e t = .p (.val (.slice none 0 0)))(hid:H id=none)(hsz:k<sz) :
  cU e H (cE e t (.eG id 0)) (bk H id (.deep 0 ty sz k e' sz' [])):=λC I L tm w hs=>by
 obtain⟨n1,n2,n3⟩:=alL hs hid ty hsz e' sz';have hs':=n2 e tm hs;refine⟨I,_,{ hs' with env:=λi=>?_ }⟩;unfold cE;split
 ·rename_i hi;subst hi;have:=hs.env i;rw[ht] at this;rw[this.eC.1];exact n1
 ·exact hs'.env i
theorem atA(k:Nat)(di:Nat->Value)(es:List (List PV))(i:Nat)(x:List PV)(p:PV)(hx:es[i]? = some x):fA k di (es.set i (x.set k p))=fA k di es:=by
 apply List.ext_getElem?;intro j;rw[tM,tM,List.getElem?_set];split
 ·rename_i h;subst h;have hi:=(List.getElem?_eq_some_iff.1 hx).1;rw[if_pos hi,hx];simp[List.set_set]
 ·rfl
theorem afs{o:Oper}{W:Env->ay->Prop}{env:Env}{H:ay}(t:TypeId)(a x:Operand)(id v i j:Nat)(e:TypeId)(sz k:Nat)(e':TypeId)(es:List (List PV))(el:List PV)(l:List (List PV))(p:PV)(hop:o.op = .store t a x)
  (hn:bu P t=some 1) (ha:ev env a = .ng id v i j 0) (hx:ev env x = .p p) (hp1:(b5 (.p p))=[.p p]/\p.one=true) (hH:H id=some (.deep v e sz k e' 1 es)) (hel:es[i]? = some el) (hl:el[k]? = some (.aV l)) (hj:j<l.length)
  (hW:W (cH env o.dst .dead) (bk H id (.deep v e sz k e' 1 (es.set i (el.set k (.aV (l.set j [p]))))))):jh P o W env H:=by
 refine .inr (.inr (.inl ⟨_,_,hW,λC I L tm w σ hs hσ=>?_⟩));have hav:=hσ a;have hxv:=hσ x;rw[ha] at hav;rw[hx] at hxv;obtain⟨bH,us,di,q1,q2,q3,q4,q5,q6,q7⟩:=hs.chunk id _ hH;have qI:i<es.length:=(List.getElem?_eq_some_iff.1 hel).1;obtain⟨l',ius,r1,r2,r3⟩:=q6 i el hel;rw[hl] at r1;simp only[cA,PV.aV.injEq] at r1;subst r1;have hs':(execOp σ o).run P w=(do Instr.storeAt t (σ a) (σ x);pure .skip:Sem Next).run P w:=by unfold execOp;rw[hop]
 obtain⟨un,u1,u2,u3,u4⟩:=cells_one hxv (by rw[hp1.1];simp[n9,hp1.2]);rw[hp1.1] at u2 u3;have hpin:0<es.length:=by omega
 generalize hua:σ a=ua at *;cases hav with
 |ng _ _ _ v1 _ _ _ jJ _ _ qK n1 mJ hle hh hone =>
  rw[q1] at mJ;simp only[cA,Loc.deep.injEq] at mJ;obtain⟨e1,e2,e3,e4,e5,e6⟩:=mJ;subst e1 e2 e3 e4 e5 e6;obtain⟨g,o0,m,cap,g1,rfl⟩:=hh rfl;rcases r2.own.2 with ⟨am5,_⟩|⟨g',cp,cur,heq,hbg,hgg,hnc,hcm,hcz,lB⟩
  ·rw[am5] at g1;cases g1
  have aEo:=heq;rw[g1] at heq;simp only[Value.slice.injEq,cA,Addr.mk.injEq] at heq;obtain⟨⟨e3,e0,_⟩,e4,e5⟩:=heq;subst e3 e0 e4 e5;have qX:(di i).ownBlock=some g:=by rw[aEo];rfl
  have hcap:l.length<=cur.size:=by omega
  have hul:un.length=1:=by simpa using u2
  have hr:=w5 hn u1 hul hgg (off:=j) (by omega) u4;have e8:(0:Nat)+(j * 1+0)=j:=by omega
  rw[e8] at hs';have hil':ius.length=l.length:=by have:=r2.own.1;omega
  have hkeep:∀ (b:Nat),b≠g->(w.setRow g (splice cur.toList j un).toArray).heap[b]? = w.heap[b]?:=λb hb=>setRow_other w g b _ hb
  have hgw:g<w.heap.size:=(Array.getElem?_eq_some_iff.1 hgg).1;have hgB:C.B<=g:=hbg;refine⟨undef,_,I,L,.inr ⟨by rw[hs'];exact aeL hr,rfl⟩,.dead _,λenv tm hs=>?_⟩;refine hs.change (rQ _ hgB) (λz=>z=id) (λb hb hnb=>⟨hkeep b λhbg=>hnb ⟨id,_,rfl,q1,by rw[hbg];exact .inr ⟨i,qI,qX⟩⟩,λ_=>rfl⟩) (dL.refl L) (Mem.dV I) (hs.mem.keep λb ⟨o,u,hu⟩=>hkeep b λhbg=>by rw[hbg,r2.free g qX o] at hu;cases hu)
   (λz hz=>⟨rfl,by simp[bk,hz]⟩) (λz l hz hl=>⟨_,by simp[bk,hz];rfl⟩) (λz c hz hc=>?_) (λz l b hz hl hb=>.inl ⟨z,l,hz,hl,hb⟩) (λz z' _ _ _ hz hz' _ _ _ _=>by rw[hz,hz'])
  subst hz;have:Chunk.deep v e sz k e' 1 (es.set i (el.set k (.aV (l.set j [p]))))=c:=by simpa[bk] using hc
  subst this;have wX:fA k di (es.set i (el.set k (.aV (l.set j [p]))))=fA k di es:=atA k di es i el _ hel;refine⟨bH,us,di,by rw[List.length_set];exact q1,?_,q3,q4,λy hy=>?_,λi' x' hx'=>?_,by rw[List.length_set];exact q7⟩
  ·rw[wX];exact q2.keep (Mem.dV I) λb hb=>⟨hkeep b λhbg=>q7.1 i g qI qX (by rw[<-hbg];exact hb),λ_=>rfl⟩
  ·rcases List.mem_or_eq_of_mem_set hy with h|h
   ·exact q5 y h
   ·subst h;rw[List.length_set];exact q5 el (List.mem_of_getElem? hel)
  ·rw[List.getElem?_set] at hx';split at hx'
   ·rename_i hii;subst hii;simp only[cA] at hx';subst hx';have qJ:k<el.length:=(List.getElem?_eq_some_iff.1 hl).1;have htk:(splice cur.toList j un).take (l.length * 1)=splice ius j un:=by rw[yL (by omega) (by simp;omega),lB]
    refine⟨l.set j [p],splice ius j un,by simp[qJ],⟨⟨?_,.inr ⟨g,cap,(splice cur.toList j un).toArray,by rw[List.length_set];exact aEo,hbg,setRow_heap w g cur _ e' _ hgg,by rw[List.length_set];exact hnc,hcm,?_,by rw[List.length_set];exact htk⟩⟩,r2.pos,λy hy=>?_,?_,w6 r2.one u4,r2.free⟩,r3⟩
    ·rw[List.length_set,ef (by omega)];omega
    ·simp only[List.size_toArray];rw[ef (by simp only[Array.length_toList];omega)];simpa using hcz
    ·rcases List.mem_or_eq_of_mem_set hy with h|h
     ·exact r2.all y h
     ·subst h;rfl
    ·have hm:(l.getD j []).length=1:=r2.all _ (by
      have:l.getD j []=l[j]:=by simp[hj]
      rw[this];exact nI _)
     have hsp:splice (l.getD j []) 0 [p]=[p]:=by unfold splice;rw[List.take_zero,List.drop_eq_nil_of_le (by rw[hm];simp)];rfl
     have:=yK r2.all j hj 0 [p] (by simp);rw[hsp] at this;rw[this];have e9:j * 1+0=j:=by omega
     rw[e9];exact aa7 (by rw[bG r2.all];omega) (by simpa using u2) r2.val (λq u c hu hc=>by
      have:=u3 q u (.p c) hu (by
       cases q with
       |zero=>simp at hc ⊢;exact hc
       |succ q=>simp at hc)
      exact this.nJ)
   ·rename_i hii;obtain⟨l2,us2,m1,m2,m3⟩:=q6 i' x' hx';have aH9:i'<es.length:=(List.getElem?_eq_some_iff.1 hx').1;exact⟨l2,us2,m1,m2.keep (Mem.dV I) λb hb=>⟨hkeep b λhbg=>hii (q7.2 i i' g qI aH9 qX (by rw[<-hbg];exact hb)),λ_=>rfl⟩,m3⟩
theorem aft{w:World}{B:Nat}{t1 ty e:TypeId}{i:TypeInfo}{z:Value}{sz qT:Nat}(hu:P.underlying t1=some (.slice e))(hi:P.info? e=some i)(hz:i.zero=some z)(hsz:i.size=sz)(hby:i.bytes=qT)(hzc:z.cells.size=sz)(hpos:0<sz)
  {x:Value} {n:Nat} {us:List Value} (q2:w.ownsRow B e sz x n us) {bb off m cap:Nat} {yJ:List Value} (ad6:yJ.length=m * sz) (hnews:∀ (j:Nat) v,yJ[j]? = some v->w.cell? ((⟨bb,off,none⟩:Addr).add j)=some v) (hnone:∀u∈yJ,u.oneCell'=true) (hm:0<m)
  (aeK:n+m<=maxLen) (hb:(n+m) * qT<=140737488355328) (hB:B<=w.heap.size) :
  ∃v' w',(Builtin.append_ #[t1,t1] ty #[x,.slice (some ⟨bb,off,none⟩) m cap]).run P w = .ok v' w'/\w'.ownsRow B e sz v' (n+m) (us++yJ)/\w.grownBy w' x.ownBlock /\
   (∀b,v'.ownBlock=some b->x.ownBlock=some b\/(w.heap.size<=b/\b<w'.heap.size))/\v'.oneCell'=true:=by
 obtain⟨v',w',hr,ho,hg,_⟩:=run_append_own (P:=P) w B t1 ty e i z sz qT hu hi hz hsz hby hzc hpos x n us q2 ⟨bb,off,none⟩ m cap yJ ad6 hnews hnone aeK hb hB
 refine⟨v',w',hr,ho,hg,?_,?_⟩
 ·rcases q2.2 with ⟨rfl,hn0⟩|⟨g,cp,cur,rfl,hbg,hgg,hnc,hcm,hcs,lB⟩
  ·obtain⟨cp,rest,hr2,_⟩:=pJ (P:=P) (ty:=ty) hu hi hz hsz none ⟨bb,off,none⟩ m cap yJ w ad6 hnews (by omega) (by rw[hby];rw[hn0,Nat.zero_add] at hb;exact hb) (by simp only[maxLen] at aeK;omega);rw[hr2] at hr;simp only[Result.ok.injEq] at hr;obtain⟨rfl,rfl⟩:=hr;intro b hb;simp only[Value.ownBlock,cA] at hb;subst hb;exact .inr ⟨Nat.le_refl _,by simp⟩
  ·by_cases hroom:n+m<=cp
   ·have hfit:n * i.size+yJ.length<=cur.size:=by rw[ad6,hcs,hsz,<-Nat.add_mul];exact Nat.mul_le_mul_right _ hroom
    have hr2:=run_append_room (P:=P) w t1 ty e i hu hi g n cp cur hgg ⟨bb,off,none⟩ m cap yJ (by rw[hsz];exact ad6) hnews hnone hroom hfit;rw[hr2] at hr;simp only[Result.ok.injEq] at hr;obtain⟨rfl,rfl⟩:=hr;intro b hb;exact .inl hb
   ·have holds:∀j u,us[j]? = some u->w.cell? ((⟨g,0,none⟩:Addr).add j)=some u:=q2.cells (g:=g) rfl;have hr2:=run_append_grow (P:=P) w t1 ty e i z hu hi hz ⟨g,0,none⟩ n cp us (by rw[hsz];exact q2.1) holds ⟨bb,off,none⟩ m cap yJ (by rw[hsz];exact ad6) hnews (by omega) (by simp only[maxLen] at aeK;omega)
     (growslice_fits (by omega) (by rw[hby];exact hb))
    rw[hr2] at hr;simp only[Result.ok.injEq] at hr;obtain⟨rfl,rfl⟩:=hr;intro b hb;simp only[Value.ownBlock,cA] at hb;subst hb;exact .inr ⟨Nat.le_refl _,by simp⟩
 ·rcases ho.2 with ⟨rfl,_⟩|⟨_,_,_,rfl,_⟩<;>rfl
theorem vn(k:Nat):∀ (es:List (List PV)) (di kY:Nat->Value),(∀i,i<es.length->di i=kY i)->fA k di es=fA k kY es
 | [],_,_,_=>rfl
 |x :: r,di,kY,h=>by simp only[fA];rw[h 0 (by simp),vn k r _ _ λi hi=>h (i+1) (by simp;omega)]
theorem afu(k:Nat):∀ (es:List (List PV)) (di:Nat->Value) (x:List PV),fA k di (es++[x])=fA k di es++[x.set k (.val (di es.length))]
 | [],_,_=>rfl
 |y :: r,di,x=>by simp only[List.cons_append,fA,afu k r,List.length_cons]
theorem alM{o:Oper}{W:Env->ay->Prop}{env:Env}{H:ay}(t1 t2:TypeId)(x y:Operand)(id d r v rv k:Nat)(e:TypeId)(sz qT:Nat)(e':TypeId)(sz':Nat)(es l:List (List PV))(ps:List PV)
  (hop:o.op = .call ⟨.builtin .append,#[x,y],#[t1,t2]⟩) (ht:dr P t1 t2=some (e,sz,qT)) (hx:ev env x = .eG id v) (hy:ev env y = .bsl d 1) (hH:H id=some (.deep v e sz k e' sz' es))
  (hd:H d=some (.box ((ps.map AV.p).set k (.row r rv)))) (hr:H r=some (.row rv e' sz' l)) (hps:ps.length=sz) (hne:id≠r) (hb:(es.length+1) * qT<=140737488355328)
  (hW:W (cH env o.dst (.eG id (v+1))) (bk (bk H r (.row (rv+1) e' sz' [])) id (.deep (v+1) e sz k e' sz' (es++[ps.set k (.aV l)])))):jh P o W env H:=by
 refine .inr (.inr (.inl ⟨_,_,hW,λC I L tm w σ hs hσ=>?_⟩));have hxv:=hσ x;have hyv:=hσ y;rw[hx] at hxv;rw[hy] at hyv;obtain⟨rfl,hu,hpos,aaE,i,z,hi,hz,hsz,hby,hzc⟩:=nB ht;have hs':∀w,(execOp σ o).run P w=((Builtin.append_ #[t1,t1] o.type #[σ x,σ y]).run P w).andThen λu w'=>.ok (.value u) w':=λw=>by unfold execOp;rw[hop];simp[resolve,invoke,builtin,Result.andThen]
 obtain⟨bH,us,di,q1,q2,q3,q4,q5,q6,q7⟩:=hs.chunk id _ hH;obtain⟨db,arr,de,d1,d2,d3,d4,d5,d6⟩:=hs.chunk d _ hd;obtain⟨rh,rus,c1,c2,c3,c4,c5,c6,c7⟩:=hs.chunk r _ hr;have aeK:es.length+1<=maxLen:=by have:=Nat.le_mul_of_pos_right (es.length+1) aaE;simp only[maxLen];omega
 generalize hux:σ x=ux at *;generalize huy:σ y=uy at *;cases hxv with
 |eG _ _ _ v1 jJ _ _ qK n1 hl hle hh hone =>
  rw[q1] at hl;simp only[cA,Loc.deep.injEq] at hl;obtain⟨e1,e2,e3,e4,e5,e6⟩:=hl;subst e1 e2 e3 e4 e5 e6;have hxe:=hh rfl;subst hxe;cases hyv with
  |bsl _ b _ hl =>
   rw[d1] at hl;simp only[cA,Loc.box.injEq] at hl;subst hl;have hal:arr.toList.length=1 * sz:=by simp[d3,hps]
   have own:=q2.own;rw[fH] at own;obtain⟨v',w',hrun,ho,hg,hblk,h1⟩:=aft (P:=P) (ty:=o.type) (cap:=1) hu hi hz hsz hby hzc hpos own (bb:=db) (off:=0) (m:=1) (yJ:=arr.toList) hal (λj v hj=>by
    rw[Addr.add_mid,Nat.zero_add,fV d2];simpa using hj) (λu hu=>by
    obtain⟨j,hj⟩:=List.mem_iff_getElem?.1 hu;exact d5 j u (by simpa using hj)) (by omega) aeK hb hs.leB
   let kY:Nat->Value:=λj=>if j<es.length then di j else rh
   have alN:∀j,j<es.length->kY j=di j:=λj hj=>by simp only[kY];rw[if_pos hj]
   have ahH:kY es.length=rh:=by simp only[kY];rw[if_neg (by omega)]
   have aEp:∀b,ux.ownBlock=some b->C.B<=b/\b<w.heap.size:=λb hb=>hs.fK id _ b q1 (.inl hb)
   have ahI:∀b,rh.ownBlock=some b->b<w.heap.size/\ux.ownBlock≠some b/\∀i,i<es.length->(di i).ownBlock≠some b:=λb hb=>⟨(hs.fK r _ b c1 hb).2,λh2=>hne (hs.apart id r _ _ b q1 c1 (.inl h2) hb),λi hi h2=>hne (hs.apart id r _ _ b q1 c1 (.inr ⟨i,hi,h2⟩) hb)⟩
   have aqq:∀i b,i<es.length->(di i).ownBlock=some b->b<w.heap.size/\ux.ownBlock≠some b:=λi b hi hb=>⟨(hs.fK id _ b q1 (.inr ⟨i,hi,hb⟩)).2,q7.1 i b hi hb⟩
   let L':bA:=ck (ck L r (.row (rv+1) (.slice none 0 0) sz')) id (.deep (v+1) v' sz sz' kY (es.length+1));have hLi:L' id=some (.deep (v+1) v' sz sz' kY (es.length+1)):=by simp[L',ck]
   have hLr:L' r=some (.row (rv+1) (.slice none 0 0) sz'):=by simp[L',ck,Ne.symm hne]
   have hLo:∀j,j≠id->j≠r->L' j=L j:=λj h1 h2=>by simp[L',ck,h1,h2]
   have hle':dL L L':=λj=>by
    by_cases e1:j=id
    ·subst e1;rw[q1];exact⟨v+1,v',kY,es.length+1,hLi,by omega,λe=>by omega⟩
    ·by_cases e2:j=r
     ·subst e2;rw[c1];exact⟨rv+1,.slice none 0 0,hLr,by omega,λe=>by omega⟩
     ·rw[hLo j e1 e2];exact dL.refl L j
   refine⟨v',w',I,L',.inl (by rw[hs',hrun];rfl),.eG _ _ _ (v+1) v' sz sz' kY (es.length+1) hLi (Nat.le_refl _) (λ_=>rfl) h1,λenv tm hs=>?_⟩;have aqr:∀b,b<w.heap.size->ux.ownBlock≠some b->w'.heap[b]? = w.heap[b]?:=λb hb hn=>hg.block b hb λe=>hn e.symm
   have hpsl:(ps.map AV.p).length=sz:=by rw[List.length_map];exact hps
   refine hs.change (Below.grown (Below.refl _ _) hg hs.leB λb hb=>(aEp b hb).1) (λz=>z=id\/z=r) (λb hb hnb=>⟨aqr b hb λh2=>hnb ⟨id,_,.inl rfl,q1,.inl h2⟩,λ_=>rfl⟩) hle' (Mem.dV I)
    (hs.mem.keep λb ⟨o,u,hu⟩=>aqr b (hs.mem.lt hu) λh2=>by rw[q2.free b h2 o] at hu;cases hu) (λz hz=>⟨hLo z (λe=>hz (.inl e)) (λe=>hz (.inr e)),by
     have a1:z≠id:=λe=>hz (.inl e)
     have a2:z≠r:=λe=>hz (.inr e)
     simp[bk,a1,a2]⟩)
    (λz l hz hl=>?_) (λz c hz hc=>?_) (λz l b hz hl hb=>?_) (λz z' lz lz' b hz hz' hl hl' hb hb'=>?_)
   ·rcases hz with rfl|rfl
    ·exact⟨_,by simp[bk];rfl⟩
    ·exact⟨_,by simp[bk,Ne.symm hne];rfl⟩
   ·rcases hz with rfl|rfl
    ·have:Chunk.deep (v+1) e sz k e' sz' (es++[ps.set k (.aV l)])=c:=by simpa[bk] using hc
     subst this;have aEq:fA k kY (es++[ps.set k (.aV l)])=fA k di es++[ps.set k (.val rh)]:=by rw[afu,ahH,vn k es kY di alN];simp[List.set_set]
     refine⟨v',us++arr.toList,kY,by rw[List.length_append];exact hLi,?_,h1,q4,λy hy=>?_,λi' x' hx'=>?_,?_⟩
     ·rw[aEq];refine⟨by rw[List.length_append,fH];exact ho,hpos,λy hy=>?_,?_,λu hu=>?_,λb hb o=>?_⟩
      ·rcases List.mem_append.1 hy with h|h
       ·exact q2.all y h
       ·simp only[List.mem_singleton] at h;subst h;rw[List.length_set];exact hps
      ·rw[List.flatten_append];refine aa6 (by rw[bG q2.all,fH];exact own.1) q2.val (λj u c hu hc=>?_);have ql:(ps.set k (.val rh))[j]? = some c:=by simpa using hc
       have hjl:j<sz:=by have:=(List.getElem?_eq_some_iff.1 ql).1;rw[List.length_set] at this;omega
       rw[List.getElem?_set] at ql;split at ql
       ·rename_i hkj;subst hkj;split at ql
        ·simp only[cA] at ql;subst ql;have h2:=d4 k u (.row r rv) (by simpa using hu) (by rw[List.getElem?_set,if_pos rfl,if_pos (by omega)]);cases h2 with
         |row _ _ _ v2 auZ sz2 hl2 hle2 hh2 aEr=>rw[c1] at hl2;simp only[cA,Loc.row.injEq] at hl2;obtain⟨a1,a2,a3⟩:=hl2;subst a1 a2 a3;rw[<-hh2 rfl];exact .val _ aEr
        ·cases ql
       ·rename_i hkj;have h2:=d4 j u (.p c) (by simpa using hu) (by rw[List.getElem?_set,if_neg hkj,List.getElem?_map,ql];rfl);exact h2.nJ
      ·rcases List.mem_append.1 hu with h|h
       ·exact q2.one u h
       ·obtain⟨j,hj⟩:=List.mem_iff_getElem?.1 h;exact d5 j u (by simpa using hj)
      ·rcases hblk b hb with h|h
       ·exact q2.free b h o
       ·cases hI:I b o with
        |none=>rfl
        |some u=>exact absurd (hs.mem.lt hI) (by omega)
     ·rcases List.mem_append.1 hy with h|h
      ·exact q5 y h
      ·simp only[List.mem_singleton] at h;subst h;rw[List.length_set];exact hps
     ·rw[List.getElem?_append] at hx';split at hx'
      ·rename_i hlt;obtain⟨l2,us2,m1,m2,m3⟩:=q6 i' x' hx';rw[alN i' hlt];exact⟨l2,us2,m1,m2.keep (Mem.dV I) λb hb=>⟨aqr b (aqq i' b hlt hb).1 (aqq i' b hlt hb).2,λ_=>rfl⟩,m3⟩
      ·rename_i hlt;have hi0:i'-es.length=0:=by have:=(List.getElem?_eq_some_iff.1 hx').1;simp at this;omega
       rw[hi0] at hx';simp only[List.getElem?_cons_zero,cA] at hx';subst hx';have hie:i'=es.length:=by omega
       subst hie;rw[ahH];have hone:rh.oneCell'=true:=by rcases c2.2 with ⟨rfl,_⟩|⟨_,_,_,rfl,_⟩<;>rfl
       exact⟨l,rus,by rw[List.getElem?_set,if_pos rfl,if_pos (by omega)],(⟨c2,c3,c4,c5,c6,c7⟩:rW w C.B I rh e' sz' l rus).keep (Mem.dV I) λb hb=>⟨aqr b (ahI b hb).1 (ahI b hb).2.1,λ_=>rfl⟩,hone⟩
     ·rw[List.length_append];refine⟨λi' b hi' hb hb'=>?_,λi' j' b hi' hj' hb hb'=>?_⟩
      ·have y9:i'<es.length\/i'=es.length:=by simp at hi';omega
       rcases y9 with y9|rfl
       ·rw[alN i' y9] at hb;rcases hblk b hb' with h|h
        ·exact (aqq i' b y9 hb).2 h
        ·have:=(aqq i' b y9 hb).1;omega
       ·rw[ahH] at hb;rcases hblk b hb' with h|h
        ·exact (ahI b hb).2.1 h
        ·have:=(ahI b hb).1;omega
      ·have y9:i'<es.length\/i'=es.length:=by simp at hi';omega
       have atB:j'<es.length\/j'=es.length:=by simp at hj';omega
       rcases y9 with y9|rfl<;>rcases atB with atB|rfl
       ·rw[alN i' y9] at hb;rw[alN j' atB] at hb';exact q7.2 i' j' b y9 atB hb hb'
       ·rw[alN i' y9] at hb;rw[ahH] at hb';exact absurd hb ((ahI b hb').2.2 i' y9)
       ·rw[ahH] at hb;rw[alN j' atB] at hb';exact absurd hb' ((ahI b hb).2.2 j' atB)
       ·rfl
    ·have:Chunk.row (rv+1) e' sz' []=c:=by simpa[bk,Ne.symm hne] using hc
     subst this;exact⟨.slice none 0 0,[],hLr,⟨by simp,.inl ⟨rfl,rfl⟩⟩,c3,by simp,by simp,by simp,λb hb=>by cases hb⟩
   ·rcases hz with rfl|rfl
    ·rw[hLi] at hl;simp only[cA] at hl;subst hl;rcases hb with hb|⟨i',hi',hb⟩
     ·exact (hblk b hb).imp (λh=>⟨z,_,.inl rfl,q1,.inl h⟩) id
     ·have y9:i'<es.length\/i'=es.length:=by omega
      rcases y9 with y9|rfl
      ·rw[alN i' y9] at hb;exact .inl ⟨z,_,.inl rfl,q1,.inr ⟨i',y9,hb⟩⟩
      ·rw[ahH] at hb;exact .inl ⟨r,_,.inr rfl,c1,hb⟩
    ·rw[hLr] at hl;simp only[cA] at hl;subst hl;cases hb
   ·have hno:∀lz,L' r=some lz->¬ lz.has b:=λlz h2 h3=>by rw[hLr] at h2;simp only[cA] at h2;subst h2;cases h3
    rcases hz with rfl|rfl<;>rcases hz' with rfl|rfl
    ·rfl
    ·exact (hno _ hl' hb').elim
    ·exact (hno _ hl hb).elim
    ·rfl
theorem aoT{o:Oper}{W:Env->ay->Prop}{env:Env}{H:ay}{kf:FuncId}{eL:List AV}{ps:List PV}{id v k:Nat}{e:TypeId}{sz:Nat}{e':TypeId}{sz':Nat}{es es':List (List PV)}(f:Nat->Nat)
  (c:∀di:Nat->Value,(∀i,i<es.length->(di i).oneCell'=true)->kE P kf v e sz (fA k di es) ps λa c=>a = .row 1000000 (v+1)/\c=some (.row (v+1) e sz (fA k (λi=>di (f i)) es')))
  (hf:∀i,i<es'.length->f i<es.length/\es'[i]? = es[f i]?) (hinj:∀i j,i<es'.length->j<es'.length->f i=f j->i=j)
  (ha:dH o (ev env)=some (kf,.eG id v :: eL)) (hH:H id=some (.deep v e sz k e' sz' es)) (he:ek (gA (agw H id)) eL=some (ps,false))
  (hW:W (cH env o.dst (.eG id (v+1))) (bk H id (.deep (v+1) e sz k e' sz' es'))):jh P o W env H:=.inr (.inr (.inr λC I L tm w σ hs hσ=>by
 obtain⟨bH,us,di,q1,q2,q3,q4,q5,q6,q7⟩:=hs.chunk id _ hH;have hone:∀i,i<es.length->(di i).oneCell'=true:=λi hi=>by obtain⟨l,us',_,_,m3⟩:=q6 i _ (List.getElem?_eq_getElem hi);exact m3
 have hc:=c di hone;obtain⟨vs0,hr,hu⟩:=qg ha hc.1 hσ w;refine⟨kf,_,hr,?_⟩;cases vs0 with
 |nil=>have:=hu.1;simp at this
 |cons u0 vs =>
  have hu0:=hu.2 0 u0 _ rfl rfl;have aIa:u0=bH:=by
   cases hu0 with
   |eG _ _ _ v1 jJ _ _ qK n1 hl hle hh h1=>rw[q1] at hl;simp only[cA,Loc.deep.injEq] at hl;obtain⟨_,e2,_⟩:=hl;subst e2;exact hh (by assumption)
  subst aIa;have aaH:oQ I L vs eL:=⟨by simpa using hu.1,λj u c hj hc=>hu.2 (j+1) u c hj hc⟩;obtain⟨k1,_,k3⟩:=kg (o4 hs (aeO H id) (lR hs.mem) ((qY L w).g _)) eL ps false he vs aaH.1 aaH.2;refine (hc.2 C.B I w u0 us vs hs.leB hs.mem q2 q3 ⟨k1,k3 rfl⟩).mono λx w' ⟨u,a,H',I',L1,m1,⟨m2,m2'⟩,m3,m4⟩=>?_
  subst m2;obtain⟨eV,us',g1,g2,g3,g4,g5,g6,g7⟩:=m4.chunk 1000000 _ m2';have ax4:eV.oneCell'=true:=by rcases g2.2 with ⟨rfl,_⟩|⟨_,_,_,rfl,_⟩<;>rfl
  have hue:u=eV:=by
   cases m3 with
   |row _ _ _ v2 auZ sz2 hl hle hh h1=>rw[g1] at hl;simp only[cA,Loc.row.injEq] at hl;obtain⟨e1,e2,_⟩:=hl;subst e2;exact hh e1.symm.symm
  subst hue;have hfr:∀b,b<w.heap.size->u0.ownBlock≠some b->w'.heap[b]? = w.heap[b]?/\∀o,I' b o=I b o:=λb hb hn=>⟨m4.frame b hb hn,λo=>m4.lQ b hb hn o⟩
  have hblk:∀b,u.ownBlock=some b->u0.ownBlock=some b\/(w.heap.size<=b/\b<w'.heap.size):=λb hb=>by
   rcases m4.jB 1000000 _ b g1 hb with h|h
   ·exact .inr ⟨h,(m4.fK 1000000 _ b g1 hb).2⟩
   ·exact .inl h
  have hin:∀i b,i<es.length->(di i).ownBlock=some b->b<w.heap.size/\u0.ownBlock≠some b:=λi b hi hb=>⟨(hs.fK id _ b q1 (.inr ⟨i,hi,hb⟩)).2,q7.1 i b hi hb⟩
  let kY:Nat->Value:=λi=>di (f i)
  let L':bA:=ck L id (.deep (v+1) u sz sz' kY es'.length);have hLi:L' id=some (.deep (v+1) u sz sz' kY es'.length):=by simp[L',ck]
  have hle':dL L L':=λj=>by
   by_cases e1:j=id
   ·subst e1;rw[q1];exact⟨v+1,u,kY,es'.length,hLi,by omega,λe=>by omega⟩
   ·have:L' j=L j:=by simp[L',ck,e1]
    rw[this];exact dL.refl L j
  refine⟨u,I',L',.eG id (v+1),_,m1,hW,.eG _ _ _ (v+1) u sz sz' kY es'.length hLi (Nat.le_refl _) (λ_=>rfl) ax4,?_⟩;refine hs.change m4.below (λz=>z=id) (λb hb hnb=>hfr b hb λh2=>hnb ⟨id,_,rfl,q1,.inl h2⟩) hle' m4.kP m4.mem (λz hz=>⟨by simp[L',ck,hz],by simp[bk,hz]⟩) (λz l hz hl=>⟨_,by simp[bk,hz];rfl⟩) (λz c hz hc=>?_) (λz l b hz hl hb=>?_) (λz z' _ _ _ hz hz' _ _ _ _=>by rw[hz,hz'])
  ·subst hz;have:Chunk.deep (v+1) e sz k e' sz' es'=c:=by simpa[bk] using hc
   subst this;refine⟨u,us',kY,hLi,⟨g2,g3,g4,g5,g6,g7⟩,ax4,q4,λy hy=>?_,λi x hx=>?_,λi b hi hb=>?_,λi j b hi hj hb hb'=>?_⟩
   ·obtain⟨i,hi⟩:=List.mem_iff_getElem?.1 hy;rw[(hf i (List.getElem?_eq_some_iff.1 hi).1).2] at hi;exact q5 y (List.mem_of_getElem? hi)
   ·have hi:=(List.getElem?_eq_some_iff.1 hx).1;rw[(hf i hi).2] at hx;obtain⟨l,us2,r1,r2,r3⟩:=q6 (f i) x hx;exact⟨l,us2,r1,r2.keep m4.kP λb hb=>hfr b (hin (f i) b (hf i hi).1 hb).1 (hin (f i) b (hf i hi).1 hb).2,r3⟩
   ·intro hb';have h2:=hin (f i) b (hf i hi).1 hb;rcases hblk b hb' with h|h
    ·exact h2.2 h
    ·omega
   ·exact hinj i j hi hj (q7.2 (f i) (f j) b (hf i hi).1 (hf j hj).1 hb hb')
  ·subst hz;rw[hLi] at hl;simp only[cA] at hl;subst hl;rcases hb with hb|⟨i,hi,hb⟩
   ·exact (hblk b hb).imp (λh=>⟨z,_,rfl,q1,.inl h⟩) id
   ·exact .inl ⟨z,_,rfl,q1,.inr ⟨f i,(hf i hi).1,hb⟩⟩))
mutual
def lE(id:Nat):AV->AV
 | .eG i v=>if i=id then .row i v else .eG i v
 | .kC i v j o=>if i=id then .dead else .kC i v j o
 | .kD i v j=>if i=id then .dead else .kD i v j
 | .ng i v j k o=>if i=id then .dead else .ng i v j k o
 | .row i v=>if i=id then .dead else .row i v
 | .jm i v j o=>if i=id then .dead else .jm i v j o
 | .ptr i o=>if i=id then .dead else .ptr i o
 | .bsl i n=>if i=id then .dead else .bsl i n
 | .iA i v o n m sz=>if i=id then .dead else .iA i v o n m sz
 | .agg cs=>.agg (nN id cs)
 | .dQ cs=>.dQ (nN id cs)
 | .iw f a b=>.iw f (nN id a) (nN id b)
 |x=>x
def nN(id:Nat):List AV->List AV
 | []=>[]
 |a :: r=>lE id a :: nN id r
end
theorem rC{id:Nat} : ∀ {cs:List AV} {j:Nat} {c:AV},(nN id cs)[j]? = some c->∃d,cs[j]? = some d/\c=lE id d
 | [],j,c,h=>by simp[nN] at h
 |a :: r,0,c,h=>by unfold nN at h;simp only[List.getElem?_cons_zero,cA] at h;exact⟨a,rfl,h.symm⟩
 |a :: r,j+1,c,h=>by unfold nN at h;exact rC (cs:=r) (by simpa using h)
theorem nC{id:Nat} : ∀cs:List AV,(nN id cs).length=cs.length
 | []=>rfl
 |a :: r=>by unfold nN;simp[nC r]
def ahJ(id:Nat):Chunk->Chunk
 | .box cs=>.box (nN id cs)
 | .deep v e sz k e' sz' es=>.deep v e sz k e' sz' es
 |c=>c
def alO(id:Nat):Option Chunk->Option Chunk
 |some c=>some (ahJ id c)
 |none=>none
def aqs(id:Nat)(env:Env):Env:=λi=>lE id (env i)
def aA0(c:Option Chunk):Option Chunk:=match c with
 |some (.deep v e sz _ _ _ es)=>some (.row v e sz es)
 |c=>c
def aaO(id:Nat)(H:ay):ay:=λi=>if i=id then aA0 (H i) else alO id (H i)
theorem eo.flat{J:Mem}{id v:Nat}{bH:Value}{sz sz':Nat}{di:Nat->Value}{n:Nat}(hl:L id=some (.deep v bH sz sz' di n))(sg:I.sub J){u:Value}{a:AV}(h:eo I L u a):eo J (ck L id (.row v bH sz)) u (lE id a):=by
 have j7:∀i,i≠id->ck L id (.row v bH sz) i=L i:=λi hi=>by simp[ck,hi]
 induction h with
 |p u x h=>unfold lE;exact .p u x (h.mono sg)
 |row u i bf v1 jJ sz1 mJ hle h h1 =>
  unfold lE;split
  ·exact .dead _
  ·exact .row u i bf v1 jJ sz1 ((j7 i (by assumption)).trans mJ) hle h h1
 |ptr i b off mJ =>
  unfold lE;split
  ·exact .dead _
  ·exact .ptr i b off ((j7 i (by assumption)).trans mJ)
 |jm u i bf v1 j off jJ sz1 mJ hle h h1 =>
  unfold lE;split
  ·exact .dead _
  ·exact .jm u i bf v1 j off jJ sz1 ((j7 i (by assumption)).trans mJ) hle h h1
 |bsl i b n mJ =>
  unfold lE;split
  ·exact .dead _
  ·exact .bsl i b n ((j7 i (by assumption)).trans mJ)
 |iA a i bf v1 off n m c jJ sz1 mJ hle hn hm hz h =>
  unfold lE;split
  ·exact .dead _
  ·exact .iA a i bf v1 off n m c jJ sz1 ((j7 i (by assumption)).trans mJ) hle hn hm hz h
 |agg us cs mJ _ hone ih=>unfold lE;refine .agg us _ (by rw[nC];exact mJ) (λj u c hu hc=>?_) hone;obtain⟨d,hd,rfl⟩:=rC hc;exact ih j u d hu hd
 |dQ us cs mJ _ ih=>unfold lE;refine .dQ us _ (by rw[nC];exact mJ) (λj u c hu hc=>?_);obtain⟨d,hd,rfl⟩:=rC hc;exact ih j u d hu hd
 |iw fn us vs fs cs mJ hl2 _ _ ih ih' =>
  unfold lE;refine .iw fn us vs _ _ (by rw[nC];exact mJ) (by rw[nC];exact hl2) (λj u c hu hc=>?_) (λj u c hu hc=>?_)
  ·obtain⟨d,hd,rfl⟩:=rC hc;exact ih j u d hu hd
  ·obtain⟨d,hd,rfl⟩:=rC hc;exact ih' j u d hu hd
 |eG u i bf v1 jJ s1 s2 qK n1 mJ hle h h1 =>
  unfold lE;split
  ·rename_i e;subst e;rw[hl] at mJ;simp only[cA,Loc.deep.injEq] at mJ;obtain⟨e1,e2,e3,_⟩:=mJ;subst e1 e2 e3;exact .row u i bf v bH sz (by simp[ck]) hle h h1
  ·exact .eG u i bf v1 jJ s1 s2 qK n1 ((j7 i (by assumption)).trans mJ) hle h h1
 |kC u i bf v1 j off jJ s1 s2 qK n1 mJ hle h h1 =>
  unfold lE;split
  ·exact .dead _
  ·exact .kC u i bf v1 j off jJ s1 s2 qK n1 ((j7 i (by assumption)).trans mJ) hle h h1
 |kD u i bf v1 j jJ s1 s2 qK n1 mJ hle h h1 =>
  unfold lE;split
  ·exact .dead _
  ·exact .kD u i bf v1 j jJ s1 s2 qK n1 ((j7 i (by assumption)).trans mJ) hle h h1
 |ng u i bf v1 j m off jJ s1 s2 qK n1 mJ hle h h1 =>
  unfold lE;split
  ·exact .dead _
  ·exact .ng u i bf v1 j m off jJ s1 s2 qK n1 ((j7 i (by assumption)).trans mJ) hle h h1
 |dead u=>unfold lE;exact .dead u
theorem ax5{w:World}{B:Nat}{bH:Value}{e e':TypeId}{sz k sz':Nat}{es:List (List PV)}{us:List Value}{di:Nat->Value}{J:Mem}(h:rW w B I bH e sz (fA k di es) us)(hall:∀x∈es,x.length=sz)
  (hin:auY w B I k e' sz' di es) (sg:I.sub J) (hJ:∀b i,i<es.length->(di i).ownBlock=some b->∀o v,w.cell? ⟨b,o,none⟩=some v->J b o=some v) :
  ∀ (j:Nat) u c,us[j]? = some u->es.flatten[j]? = some c->VR J u c:=λj u c hu hc=>by
 have hfl:=bG hall;have hjl:j<es.length * sz:=by rw[<-hfl];exact (List.getElem?_eq_some_iff.1 hc).1
 have hpos:=h.pos;have hi:j / sz<es.length:=(Nat.div_lt_iff_lt_mul hpos).2 hjl;have hmm:j % sz<sz:=Nat.mod_lt _ hpos;have hj:j=j / sz * sz+j % sz:=(Nat.div_add_mod' j sz).symm;generalize j / sz=i at *;generalize j % sz=m at *;subst hj;rw[gW hall i m hi hmm] at hc;have wX:=gW h.all i m (by rw[fH];exact hi) hmm;have hg:(fA k di es).getD i []=(es.getD i []).set k (.val (di i)):=by rw[List.getD_eq_getElem?_getD,tM];simp[hi]
 rw[hg] at wX;by_cases hk:k=m
 ·subst hk;have hx:es[i]? = some (es.getD i []):=by simp[hi]
  obtain⟨l,us',q1,q2,q3⟩:=hin i _ hx;rw[q1] at hc;simp only[cA] at hc;subst hc;have hxl:(es.getD i []).length=sz:=hall _ (List.mem_of_getElem? hx);rw[List.getElem?_set,if_pos rfl,if_pos (by rw[hxl];exact hmm)] at wX;have:=h.val _ u _ hu wX;cases this;exact q2.vrJ sg λb hb=>hJ b i hi hb
 ·rw[List.getElem?_set,if_neg hk,hc] at wX;exact (h.val _ u c hu wX).mono sg
open Classical in
noncomputable def Mem.inner(I:Mem)(w:World)(di:Nat->Value)(n:Nat):Mem:=λb o=>if ∃i,i<n/\(di i).ownBlock=some b then w.cell? ⟨b,o,none⟩ else I b o
theorem j8{env:Env}{H:ay}(id v:Nat)(e:TypeId)(sz k:Nat)(e':TypeId)(sz':Nat)(es:List (List PV))(hid:id<1000000)(hH:H id=some (.deep v e sz k e' sz' es)):cU env H (aqs id env) (aaO id H):=λC I L tm w hs=>by
 obtain⟨bH,us,di,q1,q2,q3,q4,q5,q6,q7⟩:=hs.chunk id _ hH;have hL0:C.L0 id=none:=by
  cases h:C.L0 id with
  |none=>rfl
  |some l=>have:=C.hL0 id l h;omega
 let J:Mem:=I.inner w di es.length;have aCP:∀i b o,i<es.length->(di i).ownBlock=some b->J b o=w.cell? ⟨b,o,none⟩:=λi b o hi hb=>by show I.inner w di es.length b o=_;unfold Mem.inner;rw[if_pos ⟨i,hi,hb⟩]
 have adP:∀b o,(¬ ∃i,i<es.length/\(di i).ownBlock=some b)->J b o=I b o:=λb o hn=>by show I.inner w di es.length b o=_;unfold Mem.inner;rw[if_neg hn]
 have sg:I.sub J:=λb o u hu=>by
  by_cases h:∃i,i<es.length/\(di i).ownBlock=some b
  ·obtain⟨i,hi,hb⟩:=h;rw[aCP i b o hi hb];exact hs.mem b o u hu
  ·rw[adP b o h];exact hu
 have hJw:J.inW w:=λb o u hu=>by
  by_cases h:∃i,i<es.length/\(di i).ownBlock=some b
  ·obtain⟨i,hi,hb⟩:=h;rw[aCP i b o hi hb] at hu;exact hu
  ·rw[adP b o h] at hu;exact hs.mem b o u hu
 have ajl:∀i l b,i≠id->L i=some l->l.has b->¬ ∃j,j<es.length/\(di j).ownBlock=some b:=λi l b hi hl hb ⟨j,hj,hjb⟩=>hi (hs.apart i id l _ b hl q1 hb (.inr ⟨j,hj,hjb⟩))
 refine⟨J,ck L id (.row v bH sz),?_⟩;have j7:∀i,i≠id->ck L id (.row v bH sz) i=L i:=λi hi=>by simp[ck,hi]
 exact
 {below:=hs.below
  mem:=hJw
  kP:=Mem.lP hs.kP sg
  lQ:=λb hb hf o=>by
   rw[adP b o λ⟨i,hi,hib⟩=>?_]
   ·exact hs.lQ b hb hf o
   ·rcases hs.jB id _ b q1 (.inr ⟨i,hi,hib⟩) with h|h
    ·omega
    ·exact hf h
  frame:=hs.frame
  loc:=λi=>by
   by_cases hi:i=id
   ·subst hi;rw[hL0];trivial
   ·rw[j7 i hi];exact hs.loc i
  jB:=λi l b hl hb=>by
   by_cases hi:i=id
   ·subst hi;have:Loc.row v bH sz=l:=by simpa[ck] using hl
    subst this;exact hs.jB i _ b q1 (.inl hb)
   ·rw[j7 i hi] at hl;exact hs.jB i l b hl hb
  size:=hs.size
  env:=λt=>(hs.env t).flat q1 sg
  dom:=λi l hl=>by
   by_cases hi:i=id
   ·subst hi;exact⟨.row v e sz es,by unfold aaO;rw[if_pos rfl,hH];rfl⟩
   ·rw[j7 i hi] at hl;obtain⟨c,hc⟩:=hs.dom i l hl;exact⟨ahJ id c,by unfold aaO;rw[if_neg hi,hc];rfl⟩
  chunk:=λi c hc=>by
   by_cases hi:i=id
   ·subst hi;unfold aaO at hc;rw[if_pos rfl,hH] at hc;simp only[aA0,cA] at hc;subst hc;refine⟨bH,us,by simp[ck],?_,q2.pos,q5,λj u c hu hc=>?_,q2.one,λb hb o=>?_⟩
    ·have:=q2.own;rw[fH] at this;exact this
    ·exact ax5 q2 q5 q6 sg (λb j hj hb o u hu=>by rw[aCP j b o hj hb];exact hu) j u c hu hc
    ·rw[adP b o λ⟨j,hj,hjb⟩=>q7.1 j b hj hjb hb];exact q2.free b hb o
   ·unfold aaO at hc;rw[if_neg hi] at hc;cases hci:H i with
    |none=>rw[hci] at hc;cases hc
    |some c0 =>
     rw[hci] at hc;simp only[alO,cA] at hc;subst hc;have h0:=hs.chunk i c0 hci;cases c0 with
     |box cs =>
      obtain⟨b,arr,e0,g1,g2,g3,g4,g5,g6⟩:=h0;refine⟨b,arr,e0,(j7 i hi).trans g1,g2,by rw[nC];exact g3,λj u c hu hc=>?_,g5,λo=>?_⟩
      ·obtain⟨d,hd,rfl⟩:=rC hc;exact (g4 j u d hu hd).flat q1 sg
      ·rw[adP b o (ajl i _ b hi g1 rfl)];exact g6 o
     |row v1 e1 s1 es1=>obtain⟨h1,us1,g1,g2,g3,g4,g5,g6,g7⟩:=h0;exact⟨h1,us1,(j7 i hi).trans g1,g2,g3,g4,λj u c hu hc=>(g5 j u c hu hc).mono sg,g6,λb hb o=>by rw[adP b o (ajl i _ b hi g1 hb)];exact g7 b hb o⟩
     |shut v1 es1=>obtain⟨h1,s1,g1,g2,g3⟩:=h0;exact⟨h1,s1,(j7 i hi).trans g1,g2.mono sg,g3⟩
     |tail v1 e1 s1 es1=>obtain⟨g,o0,cap,arr,g1,g2,g3,g4,g5,g6,g7,g8⟩:=h0;exact⟨g,o0,cap,arr,(j7 i hi).trans g1,g2,g3,g4,g5,g6,g7.mono sg,λj a b=>by rw[adP g j (ajl i _ g hi g1 rfl)];exact g8 j a b⟩
     |deep v1 e1 s1 k1 e2 s2 es1 =>
      obtain⟨h1,us1,qK,g1,g2,g3,g4,g5,g6,g7⟩:=h0;have hk:∀b,(Loc.deep v1 h1 s1 s2 qK es1.length).has b->w.heap[b]? = w.heap[b]?/\∀o,J b o=I b o:=λb hb=>⟨rfl,λo=>adP b o (ajl i _ b hi g1 hb)⟩
      refine⟨h1,us1,qK,(j7 i hi).trans g1,g2.keep sg λb hb=>hk b (.inl hb),g3,g4,g5,λj x hx=>?_,g7⟩;obtain⟨l,us2,m1,m2,m3⟩:=g6 j x hx;exact⟨l,us2,m1,m2.keep sg λb hb=>hk b (.inr ⟨j,(List.getElem?_eq_some_iff.1 hx).1,hb⟩),m3⟩
  fK:=λi l b hl hb=>by
   by_cases hi:i=id
   ·subst hi;have:Loc.row v bH sz=l:=by simpa[ck] using hl
    subst this;exact hs.fK i _ b q1 (.inl hb)
   ·rw[j7 i hi] at hl;exact hs.fK i l b hl hb
  apart:=λi j li lj b hi hj qX uR=>by
   by_cases ei:i=id<;>by_cases ej:j=id
   ·rw[ei,ej]
   ·subst ei;have:Loc.row v bH sz=li:=by simpa[ck] using hi
    subst this;rw[j7 j ej] at hj;exact hs.apart i j _ lj b q1 hj (.inl qX) uR
   ·subst ej;have:Loc.row v bH sz=lj:=by simpa[ck] using hj
    subst this;rw[j7 i ei] at hi;exact hs.apart i j li _ b hi q1 qX (.inl uR)
   ·rw[j7 i ei] at hi;rw[j7 j ej] at hj;exact hs.apart i j li lj b hi hj qX uR }
end Go.cr
namespace Go.cr
open Go.RowKit
variable{P:Program}{I:Mem}{L:bA}
theorem eo.ax6{u:Value}{id v:Nat}{bH:Value}{sz:Nat}(h:eo I L u (.row id v))(hL:L id=some (.row v bH sz)):u=bH:=by
 cases h with
 |row _ _ _ v1 jJ sz1 mJ hle hh hone=>rw[hL] at mJ;simp only[cA,Loc.row.injEq] at mJ;obtain⟨r1,r2,r3⟩:=mJ;subst r1 r2 r3;exact hh rfl
section
variable{ops:Array Oper}{Q:Exit->Act->World->Prop}{C:Ctx}{env:Env}{H:ay}{tm:Array Value}{w:World}{fuel:Nat}{listed:Array Bool}
end
end Go.cr
namespace Go.cr
open Go.RowKit
variable{P:Program}{I:Mem}{L:bA}
theorem alP{α:Type}{sz:Nat}{es ns:List (List α)}(h:∀x∈es,x.length=sz)(hn:∀x∈ns,x.length=sz)(o:Nat)(ho:o+ns.length<=es.length):(splice es o ns).flatten=splice es.flatten (o * sz) ns.flatten:=by
 have h1:∀n,n<=es.length->(es.take n).flatten=es.flatten.take (n * sz)/\(es.drop n).flatten=es.flatten.drop (n * sz):=λn hn'=>by
  have e1:es.flatten=(es.take n).flatten++(es.drop n).flatten:=by rw[<-List.flatten_append,List.take_append_drop]
  have e2:(es.take n).flatten.length=n * sz:=by rw[bG (sz:=sz) λx hx=>h x (List.mem_of_mem_take hx),List.length_take,Nat.min_eq_left hn']
  rw[e1,<-e2,List.take_left,List.drop_left];exact⟨rfl,rfl⟩
 unfold splice;rw[List.flatten_append,List.flatten_append,(h1 o (by omega)).1,(h1 _ ho).2,bG hn,Nat.add_mul]
theorem ax7{C:Ctx}{env:Env}{H:ay}{tm:Array Value}{w:World}(hs:gV C env H I L tm w){id v:Nat}{e:TypeId}{sz:Nat}{es ns:List (List PV)}(hH:H id=some (.row v e sz es)){g n cap:Nat}(hL:L id=some (.row v (.slice (some ⟨g,0,none⟩) n cap) sz))
  {o:Nat} (ho:o+ns.length<=es.length) (hns:∀x∈ns,x.length=sz) {cs:List Value} (hcl:cs.length=ns.length * sz) (h1:∀v∈cs,v.oneCell'=true) (hv:∀ (j:Nat) u c,cs[j]? = some u->ns.flatten[j]? = some c->VR I u c) :
  ∃cur,w.heap[g]? = some (.cells cur e (0,0))/\(∀j,j<es.length * sz->(cur[j]?).isSome=true)/\o * sz+cs.length<=cur.size/\Fr C I L H w I L (bk H id (.row v e sz (splice es o ns))) (w.setRow g (splice cur.toList (o * sz) cs).toArray):=by
 obtain⟨bH,us,q1,q2,q3,q4,q5,q6,q7⟩:=hs.chunk id _ hH;rw[hL] at q1;simp only[cA,Loc.row.injEq,true_and,and_true] at q1;subst q1;rcases q2.2 with ⟨am5,_⟩|⟨g',cp,cur,heq,hbg,hgg,hnc,hcm,hcz,lB⟩
 ·cases am5
 simp only[Value.slice.injEq,cA,Addr.mk.injEq] at heq;obtain⟨⟨e3,_⟩,e4,e5⟩:=heq;subst e3 e4 e5;have hmul:(o+ns.length) * sz<=es.length * sz:=Nat.mul_le_mul_right _ ho;have aJC:es.length * sz<=cap * sz:=Nat.mul_le_mul_right _ hnc;rw[Nat.add_mul] at hmul;refine⟨cur,hgg,λj hj=>by rw[Array.getElem?_eq_getElem (by omega)];rfl,by omega,λenv tm hs=>?_⟩;have hcu:us.length=es.length * sz:=q2.1;have hsl:(splice es o ns).length=es.length:=ef ho;have e0:ck L id (.row v (.slice (some ⟨g,0,none⟩) es.length cap) sz)=L:=by
  funext i;unfold ck;split
  ·rename_i h;rw[h,hL]
  ·rfl
 have key:=hs.turn (w':=w.setRow g (splice cur.toList (o * sz) cs).toArray) (l':=.row v (.slice (some ⟨g,0,none⟩) es.length cap) sz) (rQ _ (hs.fK id _ g hL rfl).1) hL (λk hk hne=>setRow_other w g k _ (λe=>hne (by rw[e];rfl))) (dL.aaf hL) (λk hk=>q7 k hk) (.row v e sz (splice es o ns)) (by
  refine⟨.slice (some ⟨g,0,none⟩) es.length cap,splice us (o * sz) cs,by simp[ck],⟨?_,.inr ⟨g,cap,(splice cur.toList (o * sz) cs).toArray,by rw[hsl],hbg,setRow_heap w g cur _ e _ hgg,by rw[hsl];exact hnc,hcm,?_,?_⟩⟩,q3,?_,?_,w6 q6 h1,q7⟩
  ·rw[hsl,ef (by omega)];exact hcu
  ·simp only[List.size_toArray];rw[ef (by simp;omega)];simp;omega
  ·rw[hsl];show (splice cur.toList (o * sz) cs).take (es.length * sz)=splice us (o * sz) cs;rw[yL (by omega) (by simp;omega),lB]
  ·intro z hz;rcases List.mem_append.1 hz with h|h
   ·rcases List.mem_append.1 h with h|h
    ·exact q4 z (List.mem_of_mem_take h)
    ·exact hns z h
   ·exact q4 z (List.mem_of_mem_drop h)
  ·rw[alP q4 hns o ho];exact aa7 (by rw[bG q4];exact hcu) (by rw[bG hns];exact hcl) q5 hv) (λk hk=>.inl hk)
 rw[e0] at key;exact key
theorem aqt{C:Ctx}{env:Env}{H:ay}{tm:Array Value}{w:World}(hs:gV C env H I L tm w){id v:Nat}{e:TypeId}{sz:Nat}{es:List (List PV)}(hH:H id=some (.row v e sz es))(h0:0<es.length) :
  ∃g cap,L id=some (.row v (.slice (some ⟨g,0,none⟩) es.length cap) sz)/\es.length<=cap/\∀ {u:Value} {off n m sz':Nat},eo I L u (.iA id v off n m sz')->sz'=sz/\∃a,u = .slice a n (cap-off)/\n<=m/\m<=cap-off/\(a=none->cap-off=0)/\(off<cap\/off=0->a=some ⟨g,off * sz,none⟩):=by
 obtain⟨bH,us,q1,q2,q3,q4,q5,q6,q7⟩:=hs.chunk id _ hH;rcases q2.2 with ⟨_,hn⟩|⟨g,cp,cur,heq,hbg,hgg,hnc,hcm,hcz,lB⟩
 ·omega
 subst heq;refine⟨g,cp,q1,hnc,λ{u off n m sz'} hu=>?_⟩;cases hu with
 |iA a _ _ v1 _ _ _ c jJ sz1 mJ hle hn hm hz hh=>rw[q1] at mJ;simp only[cA,Loc.row.injEq] at mJ;obtain⟨r1,r2,r3⟩:=mJ;subst r1 r2 r3;obtain⟨ao1,m1,aGG,e1,rfl,ha⟩:=hh rfl;simp only[Value.slice.injEq] at e1;obtain⟨rfl,rfl,rfl⟩:=e1;refine⟨rfl,a,rfl,hn,hm,hz,λh=>?_⟩;rw[ha h];simp[Addr.add_mid]
theorem alQ{o:Oper}{W:Env->ay->Prop}{env:Env}{H:ay}(t1 t2:TypeId)(x y:Operand)(id v n m off n' m':Nat)(e:TypeId)(sz qT:Nat)(es:List (List PV))(hop:o.op = .call ⟨.builtin .append,#[x,y],#[t1,t2]⟩)(ht:dr P t1 t2=some (e,sz,qT))
  (hx:ev env x = .iA id v 0 n m sz) (hy:ev env y = .iA id v off n' m' sz) (hH:H id=some (.row v e sz es)) (h0:0<es.length) (hn:n+n'<=m) (hm:m<=es.length) (hoff:off+n'<=es.length)
  (hW:W (cH env o.dst (.iA id v 0 (n+n') m sz)) (bk H id (.row v e sz (splice es n ((es.drop off).take n'))))):jh P o W env H:=by
 refine .inr (.inr (.inl ⟨_,_,hW,λC I L tm w σ hs hσ=>?_⟩));have hxv:=hσ x;have hyv:=hσ y;rw[hx] at hxv;rw[hy] at hyv;obtain⟨rfl,hu,hpos,aaE,i,z,hi,hz,hsz,hby,hzc⟩:=nB ht;obtain⟨g,cap,hL,hnc,hall⟩:=aqt hs hH h0;obtain⟨_,a,e1,a1,a2,a3,a4⟩:=hall hxv;obtain⟨_,b,e2,b1,b2,b3,b4⟩:=hall hyv;have hae:=a4 (.inr rfl);subst hae;rw[Nat.zero_mul] at e1;rw[Nat.sub_zero] at e1 a2;obtain⟨bH,us,q1,q2,q3,q4,q5,q6,q7⟩:=hs.chunk id _ hH;rw[hL] at q1;simp only[cA,Loc.row.injEq,true_and,and_true] at q1;subst q1;have hus:us.length=es.length * sz:=q2.1;have hcell:=q2.cells (g:=g) rfl;have hnl:((es.drop off).take n').length=n':=by rw[List.length_take,List.length_drop];omega
 have hns:∀x∈(es.drop off).take n',x.length=sz:=λx hx=>q4 x (List.mem_of_mem_drop (List.mem_of_mem_take hx))
 have hmul:(off+n') * sz<=es.length * sz:=Nat.mul_le_mul_right _ hoff;rw[Nat.add_mul] at hmul;have aA1:((us.drop (off * sz)).take (n' * sz)).length=n' * sz:=by rw[List.length_take,List.length_drop];omega
 have hfl:((es.drop off).take n').flatten=(es.flatten.drop (off * sz)).take (n' * sz):=by
  have f1:es.flatten=(es.take off).flatten++(es.drop off).flatten:=by rw[<-List.flatten_append,List.take_append_drop]
  have f2:(es.take off).flatten.length=off * sz:=by rw[bG (sz:=sz) λx hx=>q4 x (List.mem_of_mem_take hx),List.length_take,Nat.min_eq_left (by omega)]
  have f3:(es.drop off).flatten=((es.drop off).take n').flatten++((es.drop off).drop n').flatten:=by rw[<-List.flatten_append,List.take_append_drop]
  have f4:((es.drop off).take n').flatten.length=n' * sz:=by rw[bG hns,hnl]
  rw[f1,<-f2,List.drop_left,f3,<-f4,List.take_left]
 have hone:∀u∈(us.drop (off * sz)).take (n' * sz),u.oneCell'=true:=λu hu=>q6 u (List.mem_of_mem_drop (List.mem_of_mem_take hu))
 obtain⟨cur,c1,c2,c3,c4⟩:=ax7 hs hH hL (o:=n) (ns:=(es.drop off).take n') (by rw[hnl];omega) hns (cs:=(us.drop (off * sz)).take (n' * sz)) (by rw[aA1,hnl]) hone (λj u c hu hc=>by
  rw[hfl] at hc;rw[List.getElem?_take] at hu hc;split at hu
  ·rename_i hj;rw[if_pos hj,List.getElem?_drop] at hc;rw[List.getElem?_drop] at hu;exact q5 _ u c hu hc
  ·cases hu)
 have hnews:n'=0\/∃bb,b=some bb/\∀ (j:Nat) u,((us.drop (off * sz)).take (n' * sz))[j]? = some u->w.cell? (bb.add j)=some u:=by
  rcases Nat.eq_zero_or_pos n' with h|h
  ·exact .inl h
  ·refine .inr ⟨_,b4 (.inl (by omega)),λj u hu=>?_⟩;rw[List.getElem?_take] at hu;split at hu
   ·rw[List.getElem?_drop] at hu;have:=hcell _ u hu;rw[Addr.add_mid,Nat.zero_add] at this;rw[Addr.add_mid];exact this
   ·cases hu
 have hrun:(execOp σ o).run P w = .ok (.value (.slice (some ⟨g,0,none⟩) (n+n') cap)) (w.setRow g (splice cur.toList (n * sz) ((us.drop (off * sz)).take (n' * sz))).toArray):=by
  unfold execOp;rw[hop];have hst:=run_storeCells_at (P:=P) g (n * sz) e ((us.drop (off * sz)).take (n' * sz)) 0 cur w c1 (by omega) hone;simp only[Nat.add_zero] at hst;have hfc:(Builtin.firstCells sz n' (.slice b n' (cap-off))).run P w = .ok ((us.drop (off * sz)).take (n' * sz)).toArray w:=by
   rcases hnews with h|⟨bb,rfl,hb⟩
   ·subst h;cases b with
    |none=>simp[Builtin.firstCells]
    |some bb=>simpa using run_firstCells_some (P:=P) w sz 0 bb 0 (cap-off) [] (by simp) (λj u hu=>by simp at hu)
   ·exact run_firstCells_some (P:=P) w sz n' bb n' (cap-off) _ aA1 hb
  have hroom:n+n'<=cap:=by omega
  simp[resolve,invoke,builtin,Result.andThen,e1,e2,Builtin.append_,run_underlying hu,sizeOf,typeInfo,hi,hsz,Builtin.lenOf,hroom,hfc,Addr.add_mid,hst,splice]
 exact⟨_,_,I,L,.inl hrun,.iA _ _ _ v _ _ _ cap _ _ hL (Nat.le_refl _) (by omega) (by omega) (λh=>by cases h) (λ_=>⟨_,_,_,rfl,rfl,λ_=>by simp[Addr.add_mid]⟩),c4⟩
theorem rD{o:Oper}{W:Env->ay->Prop}{env:Env}{H:ay}(t:TypeId)(x:Operand)(id v off n m:Nat)(e:TypeId)(sz:Nat)(es:List (List PV))(zs:List Value)(hop:o.op = .call ⟨.builtin .clear,#[x],#[t]⟩)(ht:cM P t=some e)(hz:cN P e=some zs)(hzl:zs.length=sz)(hpos:0<sz)(hzo:zs.all Value.oneCell'=true)
  (hx:ev env x = .iA id v off n m sz) (hH:H id=some (.row v e sz es)) (h0:0<es.length) (hn:off+n<=es.length)
  (hW:W (cH env o.dst (.dQ [])) (bk H id (.row v e sz (splice es off (List.replicate n (zs.map PV.val)))))):jh P o W env H:=by
 refine .inr (.inr (.inl ⟨_,_,hW,λC I L tm w σ hs hσ=>?_⟩));have hxv:=hσ x;rw[hx] at hxv;obtain⟨g,cap,hL,hnc,hall⟩:=aqt hs hH h0;obtain⟨_,a,e1,a1,a2,a3,a4⟩:=hall hxv;have hu:=fB ht;obtain⟨z,hzr,hzc⟩:=wk hz w;have aA1:(List.replicate n zs).flatten.length=n * sz:=by rw[bG (sz:=sz) λx hx=>by rw[List.eq_of_mem_replicate hx];exact hzl,List.length_replicate]
 have hone:∀u∈(List.replicate n zs).flatten,u.oneCell'=true:=λu hu=>by obtain⟨x,hx,hux⟩:=List.mem_flatten.1 hu;rw[List.eq_of_mem_replicate hx] at hux;exact List.all_eq_true.1 hzo u hux
 have ap6:(List.replicate n (zs.map PV.val)).flatten=(List.replicate n zs).flatten.map PV.val:=by simp[List.map_flatten]
 obtain⟨cur,c1,c2,c3,c4⟩:=ax7 hs hH hL (o:=off) (ns:=List.replicate n (zs.map PV.val)) (by rw[List.length_replicate];exact hn) (λx hx=>by rw[List.eq_of_mem_replicate hx,List.length_map];exact hzl) (cs:=(List.replicate n zs).flatten) (by rw[aA1,List.length_replicate]) hone (λj u c hu hc=>by
  rw[ap6,List.getElem?_map,hu] at hc;simp at hc;subst hc;exact .val u (hone u (List.mem_of_getElem? hu)))
 rcases Nat.eq_zero_or_pos n with h|h
 ·subst h;have hsp:splice es off (List.replicate 0 (zs.map PV.val))=es:=by simp[splice]
  have hrun:(execOp σ o).run P w = .ok (.value (.tuple #[])) w:=by unfold execOp;rw[hop];cases a<;>simp[resolve,invoke,builtin,Result.andThen,e1,Builtin.clear_,run_underlying hu]
  refine⟨_,_,I,L,.inl hrun,.dQ _ _ rfl (λi u c hu hc=>by simp at hc),λenv tm hs=>?_⟩;rw[hsp];have:bk H id (.row v e sz es)=H:=by
   funext i;unfold bk;split
   ·rename_i h;rw[h,hH]
   ·rfl
  rw[this];exact hs
 ·have hae:=a4 (.inl (by omega));subst hae;have hrun:(execOp σ o).run P w = .ok (.value (.tuple #[])) (w.setRow g (splice cur.toList (off * sz) (List.replicate n zs).flatten).toArray):=by unfold execOp;rw[hop];have hst:=run_storeCells_at (P:=P) g (off * sz) e (List.replicate n zs).flatten 0 cur w c1 (by omega) hone;simp only[Nat.add_zero] at hst;have abN:Builtin.zeroCells zs.toArray n=(List.replicate n zs).flatten.toArray:=aae zs n (by omega);obtain⟨k,rfl⟩:∃k,n=k+1:=⟨n-1,by omega⟩;simp only[resolve,invoke,builtin,Result.andThen,Builtin.clear_,Sem.run_bind];simp[Result.andThen,e1,run_underlying hu,hzr,hzc,abN,hst,splice]
  exact⟨_,_,I,L,.inl hrun,.dQ _ _ rfl (λi u c hu hc=>by simp at hc),c4⟩
theorem alR{C:Ctx}{E:Env}{H:ay}{tm:Array Value}{w:World}(hs:gV C E H I L tm w){id v:Nat}{e:TypeId}{sz:Nat}{es:List (List PV)}{u:Value}(hv:eo I L u (.row id v))(hH:H id=some (.row v e sz es)):eo I L u (.iA id v 0 es.length es.length sz):=by
 obtain⟨bH,us,q1,q2,q3,q4,q5,q6,q7⟩:=hs.chunk id _ hH;rw[hv.ax6 q1];rcases q2.2 with ⟨e1,hn⟩|⟨g,cap,cur,e1,_,_,hnc,_⟩
 ·subst e1;rw[hn];exact .iA _ _ _ v _ _ _ 0 _ _ q1 (Nat.le_refl _) (by omega) (by omega) (λ_=>rfl) (λ_=>⟨none,0,0,rfl,rfl,λ_=>rfl⟩)
 ·subst e1;exact .iA _ _ _ v _ _ _ cap _ _ q1 (Nat.le_refl _) (by omega) hnc (λh=>by cases h) (λ_=>⟨_,_,cap,rfl,rfl,λ_=>by simp[Addr.add_mid]⟩)
theorem nD{E:Env}{H:ay}(t id v:Nat)(e:TypeId)(sz:Nat)(es:List (List PV))(ht:E t = .row id v)(hH:H id=some (.row v e sz es)):cU E H (cE E t (.iA id v 0 es.length es.length sz)) H:=λC I L tm w hs=>by
 refine⟨I,L,{ hs with env:=λi=>?_ }⟩;unfold cE;split
 ·rename_i hi;rw[hi];exact alR hs (ht ▸ hs.env t) hH
 ·exact hs.env i
theorem ax8{C:Ctx}{E:Env}{H:ay}{tm:Array Value}{w:World}(hs:gV C E H I L tm w){id v n m:Nat}{e:TypeId}{sz:Nat}{es:List (List PV)}{ux:Value}(hxv:eo I L ux (.iA id v 0 n m sz))(hH:H id=some (.row v e sz es))(hn:n<=es.length) :
  ∃L',eo I L' ux (.row id (v+1))/\gV C E (bk H id (.row (v+1) e sz (es.take n))) I L' tm w:=by
 obtain⟨bH,us,q1,q2,q3,q4,q5,q6,q7⟩:=hs.chunk id _ hH;cases hxv with
 |iA a _ _ v1 _ _ _ c jJ sz1 mJ hle hnm hm hz hh =>
  rw[q1] at mJ;simp only[cA,Loc.row.injEq,and_true] at mJ;obtain⟨r1,r2⟩:=mJ;subst r1;subst r2;obtain⟨ao,k,cap,e1,rfl,ha⟩:=hh rfl;have ha':a=ao:=by
   have:=ha (.inr rfl);rw[this];rcases q2.2 with ⟨e2,_⟩|⟨g,cap',cur,e2,_⟩
   ·rw[e1] at e2;simp only[Value.slice.injEq] at e2;rw[e2.1];rfl
   ·rw[e1] at e2;simp only[Value.slice.injEq] at e2;rw[e2.1];simp[Addr.add_mid]
  subst ha';have hms:n * sz<=es.length * sz:=Nat.mul_le_mul_right _ hn;have htl:(es.take n).length=n:=by rw[List.length_take];omega
  have hus:us.length=es.length * sz:=q2.1;have hfl:(es.take n).flatten=es.flatten.take (n * sz):=by
   have h1:es.flatten=(es.take n).flatten++(es.drop n).flatten:=by rw[<-List.flatten_append,List.take_append_drop]
   have h2:(es.take n).flatten.length=n * sz:=by rw[bG (sz:=sz) λx hx=>q4 x (List.mem_of_mem_take hx),htl]
   rw[h1,<-h2,List.take_left]
  have aCQ:∀ (eV:Value),w.ownsRow C.B e sz eV n (us.take (n * sz))->(∀b,eV.ownBlock=some b->bH.ownBlock=some b)->qd I (ck L id (.row (v+1) eV sz)) w C.B id (.row (v+1) e sz (es.take n)):=λeV ho hb=>by
   refine⟨eV,us.take (n * sz),by simp[ck],by rw[htl];exact ho,q3,λx hx=>q4 x (List.mem_of_mem_take hx),λj u c hu hc=>?_,λu hu=>q6 u (List.mem_of_mem_take hu),λb h=>q7 b (hb b h)⟩;rw[List.getElem?_take] at hu;rw[hfl,List.getElem?_take] at hc;split at hu
   ·rename_i hj;rw[if_pos hj] at hc;exact q5 j u c hu hc
   ·cases hu
  have key:∀eV:Value,eV = .slice a n c->w.ownsRow C.B e sz eV n (us.take (n * sz))->(∀b,eV.ownBlock=some b->bH.ownBlock=some b)->∃L',eo I L' (.slice a n c) (.row id (v+1))/\gV C E (bk H id (.row (v+1) e sz (es.take n))) I L' tm w:=λeV he ho hb=>⟨ck L id (.row (v+1) eV sz),.row _ _ _ (v+1) eV sz (by simp[ck]) (Nat.le_refl _) (λ_=>he.symm) rfl,hs.turn (Below.refl _ _) q1 (λ_ _ _=>rfl) (dL.aeJ q1) (λb hb o=>q7 b hb o) _ (aCQ eV ho hb) (λb hbb=>.inl (hb b hbb))⟩
  rcases q2.2 with ⟨e2,hz0⟩|⟨g,cap',cur,e2,hb,hg,hnc,hcm,hcs,lB⟩
  ·rw[e1] at e2;simp only[Value.slice.injEq] at e2;obtain⟨rfl,rfl,rfl⟩:=e2;have hn0:n=0:=by omega
   subst hn0;exact key _ rfl ⟨by simp,.inl ⟨rfl,rfl⟩⟩ (λb hb=>by cases hb)
  ·rw[e1] at e2;simp only[Value.slice.injEq] at e2;obtain⟨rfl,rfl,rfl⟩:=e2;refine key _ rfl ⟨?_,.inr ⟨g,c,cur,rfl,hb,hg,by omega,hcm,hcs,?_⟩⟩ (λb hb=>by rw[e1];exact hb)
   ·rw[List.length_take];omega
   ·rw[<-lB,List.take_take,Nat.min_eq_left hms]
theorem rE{f:FuncId}{v:Nat}{e:TypeId}{sz:Nat}{es R:List (List PV)}{ps:List PV}(h:kE P f v e sz es ps λa c=>∃es' n m,(a = .iA 1000000 v 0 n m sz\/(a = .row 1000000 v/\n=es'.length))/\c=some (.row v e sz es')/\n<=es'.length/\es'.take n=R) :
  kE P f v e sz es ps λa c=>a = .row 1000000 (v+1)/\c=some (.row (v+1) e sz R) :=
 ⟨h.1,λB I w bH us vs hB hI hr h1 hv=>(h.2 B I w bH us vs hB hI hr h1 hv).mono λ_ _ ⟨u,a,H',I',L',q1,⟨es',n,m,q2,q3,q6,q7⟩,q4,q5⟩=>by
  subst q7;rcases q2 with rfl|⟨rfl,rfl⟩
  ·obtain⟨L2,h1,h2⟩:=ax8 q5 q4 q3 q6;exact⟨u,_,_,I',L2,q1,⟨rfl,by simp[bk]⟩,h1,h2⟩
  ·obtain⟨L2,h1,h2⟩:=ax8 q5 (alR q5 q4 q3) q3 (Nat.le_refl _);exact⟨u,_,_,I',L2,q1,⟨rfl,by simp[bk]⟩,h1,h2⟩⟩
theorem aqu{o:Oper}{W:Env->ay->Prop}{env:Env}{H:ay}(t:TypeId)(x lo hi mx:Operand)(s id v:Nat)(e:TypeId)(sz:Nat)(es:List (List PV))(k1 k2 k3:IntKind)(l h m:Int)(hop:o.op = .slice t x (some lo) (some hi) (some mx))(ht:cM P t=some e)(hsz:bu P e=some sz)
  (hs0:env s = .row id v) (hx:ev (cE env s (.iA id v 0 es.length es.length sz)) x = .row id v) (hlo:ev (cE env s (.iA id v 0 es.length es.length sz)) lo = .p (.val (.int k1 l))) (hhi:ev (cE env s (.iA id v 0 es.length es.length sz)) hi = .p (.val (.int k2 h))) (hmx:ev (cE env s (.iA id v 0 es.length es.length sz)) mx = .p (.val (.int k3 m)))
  (hH:H id=some (.row v e sz es)) (hb:0<=l/\l<=h/\h<=m/\m<=es.length) (hW:W (cH (cE env s (.iA id v 0 es.length es.length sz)) o.dst .dead) H):jh P o W env H:=by
 refine tP (nD s id v e sz es hs0 hH) (.inr (.inl ⟨.dead,H,hW,λC I L tm w σ hs hσ=>?_⟩));have hxv:=hσ x;have hlv:=(hlo ▸ hσ lo).eC.1;have hhv:=(hhi ▸ hσ hi).eC.1;have hmv:=(hmx ▸ hσ mx).eC.1;rw[hx] at hxv;obtain⟨bH,us,q1,q2,q3,q4,q5,q6,q7⟩:=hs.chunk id _ hH;have hu:=hxv.ax6 q1;obtain⟨b0,b1,b2,b3⟩:=hb;obtain⟨a,cap,e1,hcap⟩:∃a cap,bH = .slice a es.length cap/\es.length<=cap:=by
  rcases q2.2 with ⟨e1,hn⟩|⟨g,cap,cur,e1,_,_,hnc,_⟩
  ·exact⟨none,0,by rw[hn];exact e1,by omega⟩
  ·exact⟨_,cap,e1,hnc⟩
 have h4:m<=(cap:Int):=by omega
 have hrun:(execOp σ o).run P w = .ok (.value (.slice (if m.toNat=l.toNat then a else a.map (·.add (l.toNat * sz))) (h.toNat-l.toNat) (m.toNat-l.toNat))) w:=by unfold execOp;rw[hop];simp only[Option.map_some,hu,hlv,hhv,hmv,e1];rw[run_lift];simp[Instr.sliceAt,Instr.slice,run_underlying (fB ht),wj (P:=P) (isS:=true) (lo:=some (.int k1 l)) (.inr ⟨k1,rfl⟩) b0 b1 b2 h4,dI hsz,Result.andThen]
 exact .still hrun (.dead _)
variable{t:TypeId}
def slR(e:Option TypeId)(f:TypeId->Option Nat)(a b:Option Int)(id bf off m sz:Nat):Option (Prop×AV):=match e,a,b with
 |some e,some l,some h=>(match f e with
  |some sz'=>some ((0<=l/\l<=h/\h<=m)/\sz'=sz,.iA id bf (off+l.toNat) (h.toNat-l.toNat) (m-l.toNat) sz)
  |none=>none)
 |_,_,_=>none
theorem alS{id bf off n m sz:Nat}{lo hi:Option AV} : sH P t (.iA id bf off n m sz) lo hi none=slR (cM P t) (bu P) (bnd 0 lo) (bnd n hi) id bf off m sz:=by unfold sH slR;simp only[];all_goals(cases cM P t<;>cases bnd 0 lo<;>cases bnd n hi<;>rfl)
theorem ax9(e:TypeId)(f:TypeId->Option Nat)(l h:Int)(id bf off m sz:Nat):slR (some e) f (some l) (some h) id bf off m sz=(match f e with
  |some sz'=>some ((0<=l/\l<=h/\h<=m)/\sz'=sz,.iA id bf (off+l.toNat) (h.toNat-l.toNat) (m-l.toNat) sz)
  |none=>none):=rfl
theorem atC{H:ay}{id bf off n m sz:Nat}(h:isSlice P t=true):ad7 P t (.iA id bf off n m sz) H=some (True,.p (.val (.int .i64 n)),H):=by simp[ad7,qL,h,up3]
def aCR(r:Option (Nat×List (List PV)))(e:Option TypeId)(f:TypeId->Option Nat)(id bf off m:Nat)(n:Int)(H:ay):Option (Prop×AV×ay):=match r,e with
 |some (sz,es),some e=>(match f e with
  |some sz'=>some ((0<=n/\n<m/\off+m<=es.length)/\sz'=sz,.jm id bf (off+n.toNat) 0,H)
  |none=>none)
 |_,_=>none
theorem alT{H:ay}{id bf off m m' z:Nat}{k:IntKind}{a:Int} : oT P t (.iA id bf off m m' z) (.p (.val (.int k a))) H=aCR (acM H id bf) (cM P t) (bu P) id bf off m a H:=by unfold oT aCR;simp only[];all_goals(cases acM H id bf<;>cases cM P t<;>rfl)
theorem atD(sz:Nat)(es:List (List PV))(e:TypeId)(f:TypeId->Option Nat)(id bf off m:Nat)(n:Int)(H:ay):aCR (some (sz,es)) (some e) f id bf off m n H=(match f e with
  |some sz'=>some ((0<=n/\n<m/\off+m<=es.length)/\sz'=sz,.jm id bf (off+n.toNat) 0,H)
  |none=>none):=rfl
theorem aA2(H:ay)(id bf:Nat):acM H id bf=(match H id with
 |some (.row v _ sz es)=>if v=bf then some (sz,es) else none
 |_=>none):=by
 unfold acM;cases H id with
 |none=>rfl
 |some c=>cases c<;>rfl
attribute [go_sem] alS ax9 atC alT atD aA2
end Go.cr
namespace Go.cr
open Go.RowKit
variable{P:Program}{t:TypeId}
theorem atE(H:ay)(id bf:Nat):cI H id bf=(match H id with
 |some (.deep v _ _ k _ _ es)=>if v=bf then some (k,es) else none
 |_=>none):=by
 unfold cI;cases H id with
 |none=>rfl
 |some c=>cases c<;>rfl
def aEs(x:Option PV):Option (List (List PV)):=match x with
 |some (.aV l)=>some l
 |_=>none
theorem aya(l:List (List PV)):aEs (some (.aV l))=some l:=rfl
theorem aoU(k:Nat)(es:List (List PV))(i:Nat):nh (some (k,es)) i=aEs ((es.getD i [])[k]?):=rfl
theorem atF(id bf i k:Nat)(x:List PV):aa5 id bf i k x=(x.map AV.p).set k (.kD id bf i):=rfl
theorem aoV(H:ay)(id bf i off:Nat):aeS P t (.kC id bf i off) H=(match cI H id bf with
   |some (k,es)=>(match rY P t (aa5 id bf i k (es.getD i [])) off with|some v=>some (i<es.length,v,H)|none=>none)
   |none=>none):=rfl
theorem aoW(H:ay)(id bf i j off:Nat):aeS P t (.ng id bf i j off) H=(match nh (cI H id bf) i with
   |some l=>(match rZ P t (l.getD j []) off with|some x=>some (j<l.length,.p x,H)|none=>none)
   |none=>none):=rfl
theorem alU(H:ay)(o n:Nat)(id bf i off:Nat):acU P (some (o,n)) (.kC id bf i off) H=(match cI H id bf with
   |some _=>some (n≠0,.kC id bf i (off+o),H)
   |none=>none):=rfl
def aCS(r:Option (Nat×List (List PV)))(e:Option TypeId)(f:TypeId->Option Nat)(id bf:Nat)(n:Int)(H:ay):Option (Prop×AV×ay):=match r,e with
 |some (_,es),some e=>(match f e with
  |some sz=>some ((0<=n/\n<es.length)/\(es.getD n.toNat []).length=sz,.kC id bf n.toNat 0,H)
  |none=>none)
 |_,_=>none
theorem alV{H:ay}{id bf:Nat}{k:IntKind}{a:Int} : oT P t (.eG id bf) (.p (.val (.int k a))) H=aCS (cI H id bf) (cM P t) (bu P) id bf a H:=by unfold oT aCS;simp only[];all_goals(cases cI H id bf<;>cases cM P t<;>rfl)
theorem atG(k:Nat)(es:List (List PV))(e:TypeId)(f:TypeId->Option Nat)(id bf:Nat)(n:Int)(H:ay):aCS (some (k,es)) (some e) f id bf n H=(match f e with
  |some sz=>some ((0<=n/\n<es.length)/\(es.getD n.toNat []).length=sz,.kC id bf n.toNat 0,H)
  |none=>none):=rfl
def aCT(r:Option (List (List PV)))(e:Option TypeId)(f:TypeId->Option Nat)(id bf i:Nat)(n:Int)(H:ay):Option (Prop×AV×ay):=match r,e with
 |some l,some e=>(match f e with
  |some sz=>some ((0<=n/\n<l.length)/\(l.getD n.toNat []).length=sz,.ng id bf i n.toNat 0,H)
  |none=>none)
 |_,_=>none
theorem alW{H:ay}{id bf i:Nat}{k:IntKind}{a:Int} : oT P t (.kD id bf i) (.p (.val (.int k a))) H=aCT (nh (cI H id bf) i) (cM P t) (bu P) id bf i a H:=by unfold oT aCT;simp only[];all_goals(cases nh (cI H id bf) i<;>cases cM P t<;>rfl)
theorem atH(l:List (List PV))(e:TypeId)(f:TypeId->Option Nat)(id bf i:Nat)(n:Int)(H:ay):aCT (some l) (some e) f id bf i n H=(match f e with
  |some sz=>some ((0<=n/\n<l.length)/\(l.getD n.toNat []).length=sz,.ng id bf i n.toNat 0,H)
  |none=>none):=rfl
theorem atJ{H:ay}{id bf i:Nat}(h:isSlice P t=true):ad7 P t (.kD id bf i) H=(match nh (cI H id bf) i with
  |some l=>some (True,.p (.val (.int .i64 l.length)),H)
  |none=>none):=by
 simp only[ad7,qL,h];all_goals(cases nh (cI H id bf) i<;>rfl)
theorem aoX(H:ay)(id bf:Nat):gA H (.eG id bf)=pX H (.eG id bf):=rfl
theorem aoY(H:ay)(id bf:Nat):pX H (.eG id bf)=(match cI H id bf with
  |some (_,es)=>some (.aV es,true)
  |none=>none):=rfl
theorem aoZ(H:ay)(id bf i:Nat):oc H (.kD id bf i)=pX H (.kD id bf i):=rfl
theorem ao0(H:ay)(id bf i:Nat):pX H (.kD id bf i)=(match nh (cI H id bf) i with
  |some l=>some (.aV l,true)
  |none=>none):=rfl
theorem alf{H' H:ay}{id v:Nat}{e:TypeId}{sz k:Nat}{e':TypeId}{sz':Nat}{es:List (List PV)}(h:qj H' H):qj (bk H' id (.deep v e sz k e' sz' es)) H:=λi c' hi=>by
 unfold bk at hi;split at hi
 ·cases hi
 ·exact h i c' hi
def rvD(c:Option Chunk)(id bf:Nat):Option (RV×List Nat):=match c with
 |some (.deep v e sz k e' sz' es)=>if v=bf then some (.deep e sz k e' sz' es,[id]) else none
 |_=>none
theorem atK(H:ay)(id bf:Nat):pN H (.eG id bf)=rvD (H id) id bf:=by unfold rvD;simp only[pN];try rfl
theorem ayb(v:Nat)(e:TypeId)(sz k:Nat)(e':TypeId)(sz':Nat)(es:List (List PV))(id bf:Nat):rvD (some (.deep v e sz k e' sz' es)) id bf=if v=bf then some (.deep e sz k e' sz' es,[id]) else none:=rfl
theorem alX(n:Nat)(e:TypeId)(sz k:Nat)(e':TypeId)(sz':Nat)(es:List (List PV)):cO n (.deep e sz k e' sz' es)=(.eG n 0,n+1):=by simp only[cO]
theorem alY(n:Nat)(H:ay)(e:TypeId)(sz k:Nat)(e':TypeId)(sz':Nat)(es:List (List PV)):gj n H (.deep e sz k e' sz' es)=bk H n (.deep 0 e sz k e' sz' es):=by simp only[gj]
theorem ajm(id v:Nat):b5 (.eG id v)=[.eG id v]:=rfl
theorem ao2(id v:Nat):n9 (.eG id v)=true:=rfl
attribute [go_sem] atK ayb alX alY ajm ao2
def bcA(P:Program)(e:Option TypeId)(n:Nat)(parts:List (Nat×AV)):Option (TypeId×List AV):=match e with
 |some e=>(match bu P e,cN P e with
  | some sz, some zs => if zs.length = sz ∧ 0 < sz ∧ n * sz ≤ 16777216 ∧ zs.all (·.oneCell') = true then
    (match qS (λi=>some (i * sz,sz)) (iE zs n) parts with
    |some cs=>some (e,cs)
    |none=>none)
   else none
  |_,_=>none)
 |none=>none
theorem ao3(n:Nat)(parts:List (Nat×AV)):vf P t n parts=bcA P (cM P t) n parts:=by
 unfold vf bcA;cases cM P t with
 |none=>rfl
 |some e=>simp only[];all_goals(cases bu P e<;>cases cN P e<;>rfl)
theorem ayc(e:TypeId)(n:Nat)(parts:List (Nat×AV)):bcA P (some e) n parts=(match bu P e,cN P e with
  | some sz, some zs => if zs.length = sz ∧ 0 < sz ∧ n * sz ≤ 16777216 ∧ zs.all (·.oneCell') = true then
    (match qS (λi=>some (i * sz,sz)) (iE zs n) parts with
    |some cs=>some (e,cs)
    |none=>none)
   else none
  |_,_=>none):=rfl
attribute [go_sem] ao3 ayc
theorem ayd(id off:Nat):aq0 (.ptr id off)=some (True,.ptr id off):=rfl
theorem atL(cs:List PV)(off:Nat):aq0 (.p (.dU cs off))=some (True,.p (.dU cs off)):=rfl
attribute [go_sem] ayd atL
def aBW(a:Option AV)(H:ay)(Q:AV->ay->Prop):Prop:=match a with
 |some a=>Q a H
 |none=>False
theorem aye(rs:List ResultVar)(Q:AV->ay->Prop)(env:Env)(H:ay):aEl P rs Q .ret env H=aBW (o6 P env H rs) H Q:=rfl
theorem ao4(a:AV)(H:ay)(Q:AV->ay->Prop):aBW (some a) H Q=Q a H:=rfl
attribute [go_sem] aye ao4
theorem atM(id bf i:Nat)(l:List AV):tq (.kD id bf i :: l)=none:=rfl
theorem atN(id bf:Nat)(l:List AV):tq (.eG id bf :: l)=none:=rfl
theorem atO(t1 t2:TypeId)(id v o n m z:Nat)(b:AV)(H:ay):ad8 P t1 t2 (.iA id v o n m z) b H=none:=by
 unfold ad8;have h1:acL P t1 t2 (.iA id v o n m z) b=none:=by unfold acL;cases dr P t1 t2<;>rfl
 have h2:abM P t1 t2 (.iA id v o n m z) b H=none:=by unfold abM;cases dr P t1 t2<;>rfl
 rw[h1,h2]
theorem atP(t1 t2:TypeId)(id v:Nat)(b:AV)(H:ay):ad8 P t1 t2 (.eG id v) b H=none:=by
 unfold ad8;have h1:acL P t1 t2 (.eG id v) b=none:=by unfold acL;cases dr P t1 t2<;>rfl
 have h2:abM P t1 t2 (.eG id v) b H=none:=by unfold abM;cases dr P t1 t2<;>rfl
 rw[h1,h2]
theorem atQ{o:Option Tmp}{xs:Array Operand}{ts:Array TypeId}{ty:TypeId}{pos:String}{af:Array Edge}{g:Option (Nat×Bool)}{ρ:Operand->AV}{H:ay} : gi P ⟨o,.call ⟨.builtin .clear,xs,ts⟩,ty,pos,af,g⟩ ρ H=none:=by simp[gi,oa,rP,mQ,wZ,yp,wo,xb,ud]
attribute [go_sem] atO atP atQ atE aya aoU atF aoV aoW alU alV atG alW atH atJ aoX aoY aoZ ao0 atM atN
end Go.cr
namespace Go.Proofs.YtjhkgjlmiolfoaaGreat
open Go.cr
structure ah where
 id:Int
 type:Int
 values:List Int
structure ak where
 id:Int
 type:Int
 src:Int
 dst:Int
structure aM where
 id:Int
 attr:Int
 old:Int
 new:Int
structure aI where
 kind:Int
 id:Int
 attr:Int
instance:Inhabited ah:=⟨⟨0,0,[]⟩⟩
instance:Inhabited ak:=⟨⟨0,0,0,0⟩⟩
instance:Inhabited aM:=⟨⟨0,0,0,0⟩⟩
instance:Inhabited aI:=⟨⟨0,0,0⟩⟩
structure cz where
 x0:Int
 x1:Int
structure aG where
 az:List ah
 aF:List ak
 aR:List ah
 aP:List ak
 values:List aM
 next:cz
structure ax where
 host:Host
 nodes:List Int
 au:List Int
 next:Int
def ag(x:ah):List PV:=[.val (.int .i64 x.id),.val (.int .i64 x.type),.aV (x.values.map encI)]
def aj(x:ak):List PV:=[.val (.int .i64 x.id),.val (.int .i64 x.type),.val (.int .i64 x.src),.val (.int .i64 x.dst)]
def aH(x:aM):List PV:=[.val (.int .i64 x.id),.val (.int .i64 x.attr),.val (.int .i64 x.old),.val (.int .i64 x.new)]
def aB(x:aI):List PV:=[.val (.int .i64 x.kind),.val (.int .i64 x.id),.val (.int .i64 x.attr)]
def aC(x:aG):List PV:=[.aV (x.az.map ag),.aV (x.aF.map aj),.aV (x.aR.map ag),.aV (x.aP.map aj),.aV (x.values.map aH),.val (.int .i64 x.next.x0),.val (.int .i64 x.next.x1)]
def aA(x:ax):List PV:=[.aV (x.host.graph.nodes.map encI),.aV (x.host.graph.au.map aZ),.aV (x.host.values.map bI),.aV (x.nodes.map encI),.aV (x.au.map encI),.val (.int .i64 x.next)]
section
variable{α:Type}
theorem adb{p:α->Bool}{l:List α}(h:idxOf p l = -1):l.filter (λx=>!p x)=l:=by
 unfold idxOf at h;cases hf:l.findIdx? p with
 |none=>rw[List.findIdx?_eq_none_iff] at hf;rw[List.filter_eq_self];intro x hx;simp[hf x hx]
 |some i=>rw[hf] at h;simp only at h;omega
theorem ade [Inhabited α]{p:α->Bool}{l:List α}(h:idxOf p l≠-1):∃k:Nat,idxOf p l=k/\k<l.length/\(l.take k).filter (λx=>!p x)=l.take k/\p (l.getD k default)=true:=by
 unfold idxOf at h ⊢;cases hf:l.findIdx? p with
 |none=>rw[hf] at h;exact absurd rfl h
 |some i =>
  rw[List.findIdx?_eq_some_iff_getElem] at hf;obtain⟨hi,h1,h2⟩:=hf;refine⟨i,rfl,hi,?_,by simpa[hi] using h1⟩;rw[List.filter_eq_self];intro x hx;obtain⟨j,hj,rfl⟩:=List.getElem_of_mem hx;have hj':j<i:=by simp at hj;omega
  have:=h2 j hj';simpa using this
def fN(p:α->Bool)(l g:List α)(j:Nat):List α:=(l.take j).filter (λx=>!p x)++g++l.drop j
theorem adf(p:α->Bool)(l g:List α)(j i:Nat)(hi:((l.take j).filter λx=>!p x).length=i)(hg:i+g.length=j)(hj:j<=l.length):(fN p l g j).length=l.length:=by simp[fN,hi];omega
theorem afv [Inhabited α](p:α->Bool)(l g:List α)(j i:Nat)(hi:((l.take j).filter λx=>!p x).length=i)(hg:i+g.length=j)(hj:j<l.length):(fN p l g j).getD j default=l.getD j default:=by
 have h1:((l.take j).filter (λx=>!p x)++g).length=j:=by rw[List.length_append,hi,hg]
 simp only[fN,List.getD_eq_getElem?_getD];rw[List.getElem?_append_right (by omega),h1,Nat.sub_self,List.getElem?_drop,Nat.add_zero]
theorem oD [Inhabited α](p:α->Bool)(l g:List α)(j:Nat)(hj:j<l.length)(hp:p (l.getD j default)=true):fN p l g j=fN p l (g++[l.getD j default]) (j+1)/\(l.take (j+1)).filter (λx=>!p x)=(l.take j).filter (λx=>!p x):=by
 have h1:(l.take (j+1)).filter (λx=>!p x)=(l.take j).filter (λx=>!p x):=by rw[og hj,List.filter_append,List.filter_cons_of_neg (by rw[hp];simp),List.filter_nil,List.append_nil]
 refine⟨?_,h1⟩;unfold fN;rw[h1];have h2:l.drop j=l.getD j default :: l.drop (j+1):=by rw[List.drop_eq_getElem_cons hj];simp[hj]
 rw[h2];simp
theorem abn [Inhabited α](p:α->Bool)(l:List α)(y:α)(g:List α)(j i:Nat)(hi:((l.take j).filter λx=>!p x).length=i)(hj:j<l.length)(hp:p (l.getD j default)=false) :
  (fN p l (y :: g) j).set i (l.getD j default)=fN p l (g++[l.getD j default]) (j+1)/\(l.take (j+1)).filter (λx=>!p x)=(l.take j).filter (λx=>!p x)++[l.getD j default]:=by
 have h1:(l.take (j+1)).filter (λx=>!p x)=(l.take j).filter (λx=>!p x)++[l.getD j default]:=by rw[og hj,List.filter_append,List.filter_cons_of_pos (by rw[hp];rfl),List.filter_nil]
 refine⟨?_,h1⟩;unfold fN;rw[h1];have h2:l.drop j=l.getD j default :: l.drop (j+1):=by rw[List.drop_eq_getElem_cons hj];simp[hj]
 rw[h2];rw[List.append_assoc,List.set_append_right _ _ (by omega),hi,Nat.sub_self];simp
theorem ao5(enc:α->List PV)(z:List PV)(p:α->Bool)(l g:List α)(i:Nat)(hi:(l.filter λx=>!p x).length=i):(splice ((fN p l g l.length).map enc) i (List.replicate (l.length-i) z)).take i=(l.filter λx=>!p x).map enc:=by
 unfold fN splice;rw[List.take_length,List.drop_length,List.append_nil,List.map_append,List.append_assoc];have h2:((l.filter λx=>!p x).map enc).length=i:=by rw[List.length_map];exact hi
 rw[<-h2,List.take_left,List.take_left]
end
theorem za(p:ah->Bool)(l:List ah)(hl:l.length<=1000000)(k:FuncId)(fs cs:List PV)(hp:∀x∈l,aS pw k (fs++[pA (ag x)]++cs) (λr=>r = .val (.bool (p x)))) :
  aS pw 238 [.aV (l.map ag),.iw (.func k) fs cs] (λr=>r = .val (.int .i64 (idxOf p l))):=by
 refine aQ [] func238 ?_;rw[ntmps238,results238];simp only[go_sem];refine bL (σ:=Nat) (λx=>(cE (cE (cE (cE fT 0 (.p (.aV (l.map ag)))) 1 (.p (.iw (.func k) fs cs))) 7 (.p (.val (.int .i64 l.length)))) 8 (.p (.val (.int .i64 x))))) (λx=>cm)
  (λx=>x<=l.length/\∀j,j<x->p (l.getD j default)=false) (λx=>l.length-x) 0 ⟨Nat.zero_le _,λj hj=>absurd hj (Nat.not_lt_zero j)⟩ bX ?_
 rintro x ⟨hx,hq⟩;simp only[go_sem];refine aK (λhc=>?_) (λhc=>?_)
 ·have hlt:x<l.length:=by simpa using hc
  simp only[go_sem,getD_map ag hlt,hlt,ag];refine aY (hp (l.getD x default) (by simp[hlt])) (by simp only[go_sem,jN,jM,ag,pA,Bool.or_false,Bool.false_or]<;>rfl) (b6 rfl) ?_;simp only[go_sem];refine aK (λhb=>?_) (λhb=>?_)<;>simp only[go_sem]
  ·exact (pn hlt hq hb).symm
  ·refine bM (x+1) ⟨hlt,λj hj=>?_⟩ (by omega) ?_
   ·rcases Nat.lt_succ_iff_lt_or_eq.1 hj with h|h
    ·exact hq j h
    ·rw[h];exact hb
   ·rw[bz hlt (by omega)];exact bX
 ·have hge:l.length<=x:=by simpa using hc
  simp only[go_sem,hc];rw[kZ λj hj=>hq j (by omega)]
theorem zb(p:ah->Bool)(l:List ah)(hl:l.length<=1000000)(k:FuncId)(fs cs:List PV)(hp:∀x∈l,aS pw k (fs++[pA (ag x)]++cs) (λr=>r = .val (.bool (p x)))) :
  aS pw 165 [.aV (l.map ag),.iw (.func k) fs cs] (λr=>r = .val (.bool (l.any p))):=by
 refine aQ [] func165 ?_;rw[ntmps165,results165];simp only[go_sem];refine aY (za p l hl k fs cs hp) (by simp only[go_sem]<;>rfl) (b6 rfl) ?_;simp only[go_sem];exact kJ
theorem zc(p:ak->Bool)(l:List ak)(hl:l.length<=1000000)(k:FuncId)(fs cs:List PV)(hp:∀x∈l,aS pw k (fs++[pA (aj x)]++cs) (λr=>r = .val (.bool (p x)))) :
  aS pw 240 [.aV (l.map aj),.iw (.func k) fs cs] (λr=>r = .val (.int .i64 (idxOf p l))):=by
 refine aQ [] func240 ?_;rw[ntmps240,results240];simp only[go_sem];refine bL (σ:=Nat) (λx=>(cE (cE (cE (cE fT 0 (.p (.aV (l.map aj)))) 1 (.p (.iw (.func k) fs cs))) 7 (.p (.val (.int .i64 l.length)))) 8 (.p (.val (.int .i64 x))))) (λx=>cm)
  (λx=>x<=l.length/\∀j,j<x->p (l.getD j default)=false) (λx=>l.length-x) 0 ⟨Nat.zero_le _,λj hj=>absurd hj (Nat.not_lt_zero j)⟩ bX ?_
 rintro x ⟨hx,hq⟩;simp only[go_sem];refine aK (λhc=>?_) (λhc=>?_)
 ·have hlt:x<l.length:=by simpa using hc
  simp only[go_sem,getD_map aj hlt,hlt,aj];refine aY (hp (l.getD x default) (by simp[hlt])) (by simp only[go_sem,jN,jM,aj,pA,Bool.or_false,Bool.false_or]<;>rfl) (b6 rfl) ?_;simp only[go_sem];refine aK (λhb=>?_) (λhb=>?_)<;>simp only[go_sem]
  ·exact (pn hlt hq hb).symm
  ·refine bM (x+1) ⟨hlt,λj hj=>?_⟩ (by omega) ?_
   ·rcases Nat.lt_succ_iff_lt_or_eq.1 hj with h|h
    ·exact hq j h
    ·rw[h];exact hb
   ·rw[bz hlt (by omega)];exact bX
 ·have hge:l.length<=x:=by simpa using hc
  simp only[go_sem,hc];rw[kZ λj hj=>hq j (by omega)]
theorem zd(p:ak->Bool)(l:List ak)(hl:l.length<=1000000)(k:FuncId)(fs cs:List PV)(hp:∀x∈l,aS pw k (fs++[pA (aj x)]++cs) (λr=>r = .val (.bool (p x)))) :
  aS pw 167 [.aV (l.map aj),.iw (.func k) fs cs] (λr=>r = .val (.bool (l.any p))):=by
 refine aQ [] func167 ?_;rw[ntmps167,results167];simp only[go_sem];refine aY (zc p l hl k fs cs hp) (by simp only[go_sem]<;>rfl) (b6 rfl) ?_;simp only[go_sem];exact kJ
theorem afw(p:aM->Bool)(l:List aM)(hl:l.length<=1000000)(k:FuncId)(fs cs:List PV)(hp:∀x∈l,aS pw k (fs++[pA (aH x)]++cs) (λr=>r = .val (.bool (p x)))) :
  aS pw 262 [.aV (l.map aH),.iw (.func k) fs cs] (λr=>r = .val (.int .i64 (idxOf p l))):=by
 refine aQ [] func262 ?_;rw[ntmps262,results262];simp only[go_sem];refine bL (σ:=Nat) (λx=>(cE (cE (cE (cE fT 0 (.p (.aV (l.map aH)))) 1 (.p (.iw (.func k) fs cs))) 7 (.p (.val (.int .i64 l.length)))) 8 (.p (.val (.int .i64 x))))) (λx=>cm)
  (λx=>x<=l.length/\∀j,j<x->p (l.getD j default)=false) (λx=>l.length-x) 0 ⟨Nat.zero_le _,λj hj=>absurd hj (Nat.not_lt_zero j)⟩ bX ?_
 rintro x ⟨hx,hq⟩;simp only[go_sem];refine aK (λhc=>?_) (λhc=>?_)
 ·have hlt:x<l.length:=by simpa using hc
  simp only[go_sem,getD_map aH hlt,hlt,aH];refine aY (hp (l.getD x default) (by simp[hlt])) (by simp only[go_sem,jN,jM,aH,pA,Bool.or_false,Bool.false_or]<;>rfl) (b6 rfl) ?_;simp only[go_sem];refine aK (λhb=>?_) (λhb=>?_)<;>simp only[go_sem]
  ·exact (pn hlt hq hb).symm
  ·refine bM (x+1) ⟨hlt,λj hj=>?_⟩ (by omega) ?_
   ·rcases Nat.lt_succ_iff_lt_or_eq.1 hj with h|h
    ·exact hq j h
    ·rw[h];exact hb
   ·rw[bz hlt (by omega)];exact bX
 ·have hge:l.length<=x:=by simpa using hc
  simp only[go_sem,hc];rw[kZ λj hj=>hq j (by omega)]
theorem agQ(p:aM->Bool)(l:List aM)(hl:l.length<=1000000)(k:FuncId)(fs cs:List PV)(hp:∀x∈l,aS pw k (fs++[pA (aH x)]++cs) (λr=>r = .val (.bool (p x)))) :
  aS pw 183 [.aV (l.map aH),.iw (.func k) fs cs] (λr=>r = .val (.bool (l.any p))):=by
 refine aQ [] func183 ?_;rw[ntmps183,results183];simp only[go_sem];refine aY (afw p l hl k fs cs hp) (by simp only[go_sem]<;>rfl) (b6 rfl) ?_;simp only[go_sem];exact kJ
theorem ao6(p:ah->Bool)(l:List ah)(hl:l.length<=1000000)(v:Nat)(k:FuncId)(fs cs:List PV)(hp:∀x∈l,aS pw k (fs++[pA (ag x)]++cs) (λr=>r = .val (.bool (p x)))) :
  kE pw 174 v 75 3 (l.map ag) [.iw (.func k) fs cs] (λa c=>a = .row 1000000 (v+1)/\c=some (.row (v+1) 75 3 ((l.filter λx=>!p x).map ag))):=by
 refine rE ?_;refine mK [] Ty.mixed func174 rfl (by kernel_rfl) (by simp[ntmps174]) ?_;rw[ntmps174,results174];simp only[go_sem];refine aY (za p l hl k fs cs hp) (by simp only[go_sem]<;>rfl) (b6 rfl) ?_;simp only[go_sem];refine aK (λhc=>?_) (λhc=>?_)
 ·have ql:=cu hc;simp only[go_sem];exact⟨_,_,0,rfl,rfl,Nat.le_refl _,by rw[List.take_length,adb ql]⟩
 have ql:=en hc;obtain⟨i0,hi0,acd,hf0,hp0⟩:=ade ql;simp only[go_sem,hi0,bz acd (by omega)];have hr0:fN p l [l.getD i0 default] (i0+1)=l:=by have h1:=(oD p l [] i0 acd hp0).1;rw[List.nil_append] at h1;rw[<-h1,fN,hf0,List.append_nil,List.take_append_drop]
 have hf1:((l.take (i0+1)).filter λx=>!p x).length=i0:=by rw[(oD p l [] i0 acd hp0).2,hf0,List.length_take];omega
 refine bL (σ:=Nat×Nat×ah×List ah) (λx=>(cE (cE (cE (cE fT 0 (.row 1000000 v)) 1 (.p (.iw (.func k) fs cs))) 5 (.p (.val (.int .i64 x.1)))) 6 (.p (.val (.int .i64 x.2.1))))) (λx=>(bk cm 1000000 (.row v 75 3 ((fN p l (x.2.2.1 :: x.2.2.2) x.2.1).map ag))))
  (λx=>((l.take x.2.1).filter λz=>!p z).length=x.1/\x.1+(x.2.2.2.length+1)=x.2.1/\x.2.1<=l.length) (λx=>l.length-x.2.1) (i0,i0+1,l.getD i0 default,[]) ⟨hf1,rfl,acd⟩ ?_ ?_
 ·rw[hr0];exact bX
 rintro⟨i,j,y,g⟩ ⟨hx1,hx2,hx3⟩;simp only at hx1 hx2 hx3;have hlen:(fN p l (y :: g) j).length=l.length:=adf p l (y :: g) j i hx1 hx2 hx3;simp only[go_sem];refine aK (λhc=>?_) (λhc=>?_)
 ·have hlt:j<l.length:=by have:=cu hc;rw[hlen] at this;exact this
  have hj:j<(fN p l (y :: g) j).length:=by rw[hlen];exact hlt
  have vI:((fN p l (y :: g) j).map ag).getD j []=ag (l.getD j default):=by rw[getD_map ag hj,afv p l (y :: g) j i hx1 hx2 hlt]
  simp only[go_sem,vI,ag,bl];refine⟨hj,hj,?_⟩;refine aY (hp (l.getD j default) (by simp[hlt])) (by simp only[go_sem,jN,jM,ag,pA,bl,Bool.or_false,Bool.false_or,vI]<;>rfl) (b6 rfl) ?_;simp only[go_sem,vI,ag,bl];refine aW (λhb=>?_) (λhb=>?_)
  ·obtain⟨k1,k2⟩:=oD p l (y :: g) j hlt hb;simp only[go_sem,bz hlt (by omega),vI,ag,bl];refine bM (i,j+1,y,g++[l.getD j default]) ⟨by rw[k2];exact hx1,by simp;omega,hlt⟩ (by simp only;omega) ?_;rw[k1];exact bX
  ·obtain⟨k1,k2⟩:=abn p l y g j i hx1 hlt hb;have hij:i<j:=by omega
   have hi':i<(fN p l (y :: g) j).length:=by omega
   have hgi:((fN p l (y :: g) j).map ag).getD i []=ag ((fN p l (y :: g) j).getD i default):=by rw[getD_map ag hi']
   obtain⟨y2,g2,hg2,hl2⟩:∃y2 g2,g++[l.getD j default]=y2 :: g2/\g2.length=g.length:=by
    cases g with
    |nil=>exact⟨_,[],rfl,rfl⟩
    |cons a r=>exact⟨a,r++[l.getD j default],rfl,by simp⟩
   rw[hg2] at k1;have hst:((fN p l (y :: g) j).map ag).set i (ag (l.getD j default))=(fN p l (y2 :: g2) (j+1)).map ag:=by rw[<-k1,List.map_set]
   simp only[ag,bl] at hst;simp only[go_sem,hgi,ag,bl,bz hlt (by omega),bz hij (by omega),vI];refine⟨hi',hi',?_⟩;refine bM (i+1,j+1,y2,g2) ⟨by rw[k2,List.length_append,hx1];rfl,by simp only;omega,hlt⟩ (by simp only;omega) ?_;rw[hst];exact bX
 ·have hge:j=l.length:=by have:=en hc;rw[hlen] at this;omega
  subst hge;rw[List.take_length] at hx1;simp only[go_sem];refine jL _ _ (nD 36 1000000 v 75 3 _ rfl rfl) (by simp only[go_sem]<;>rfl) ?_ ?_
  ·rw[hlen];omega
  simp only[go_sem,hlen];have hsl:((fN p l (y :: g) l.length).map ag).length=l.length:=by rw[List.length_map];exact hlen
  have hend:=ao5 ag ((cN pw 75).getD [] |>.map PV.val) p l (y :: g) i hx1;rw[show (cN pw 75).getD []=_ from by simp only[go_sem]<;>rfl] at hend;simp only[qZ,List.length_replicate,List.append_assoc,List.map_cons,List.map_nil] at hend;generalize (fN p l (y :: g) l.length).map ag=E at hsl hend ⊢;refine rD 41 _ 1000000 v i (l.length-i) _ 75 3 E _ rfl (by simp only[go_sem]) (by simp only[go_sem]<;>rfl) rfl (by decide) rfl (by simp only[go_sem]<;>rfl) (by simp only[go_sem]) (by omega) (by omega) ?_;simp only[go_sem];refine jL _ _ (nD 39 1000000 v 75 3 _ rfl rfl) (by simp only[go_sem]<;>rfl) ?_ ?_
  ·simp[hsl];omega
  simp only[go_sem];exact⟨_,_,_,.inl rfl,rfl,by simp[hsl];omega,hend⟩
theorem ao7(p:ak->Bool)(l:List ak)(hl:l.length<=1000000)(v:Nat)(k:FuncId)(fs cs:List PV)(hp:∀x∈l,aS pw k (fs++[pA (aj x)]++cs) (λr=>r = .val (.bool (p x)))) :
  kE pw 177 v 102 4 (l.map aj) [.iw (.func k) fs cs] (λa c=>a = .row 1000000 (v+1)/\c=some (.row (v+1) 102 4 ((l.filter λx=>!p x).map aj))):=by
 refine rE ?_;refine mK [] Ty.mixed func177 rfl (by kernel_rfl) (by simp[ntmps177]) ?_;rw[ntmps177,results177];simp only[go_sem];refine aY (zc p l hl k fs cs hp) (by simp only[go_sem]<;>rfl) (b6 rfl) ?_;simp only[go_sem];refine aK (λhc=>?_) (λhc=>?_)
 ·have ql:=cu hc;simp only[go_sem];exact⟨_,_,0,rfl,rfl,Nat.le_refl _,by rw[List.take_length,adb ql]⟩
 have ql:=en hc;obtain⟨i0,hi0,acd,hf0,hp0⟩:=ade ql;simp only[go_sem,hi0,bz acd (by omega)];have hr0:fN p l [l.getD i0 default] (i0+1)=l:=by have h1:=(oD p l [] i0 acd hp0).1;rw[List.nil_append] at h1;rw[<-h1,fN,hf0,List.append_nil,List.take_append_drop]
 have hf1:((l.take (i0+1)).filter λx=>!p x).length=i0:=by rw[(oD p l [] i0 acd hp0).2,hf0,List.length_take];omega
 refine bL (σ:=Nat×Nat×ak×List ak) (λx=>(cE (cE (cE (cE fT 0 (.row 1000000 v)) 1 (.p (.iw (.func k) fs cs))) 5 (.p (.val (.int .i64 x.1)))) 6 (.p (.val (.int .i64 x.2.1))))) (λx=>(bk cm 1000000 (.row v 102 4 ((fN p l (x.2.2.1 :: x.2.2.2) x.2.1).map aj))))
  (λx=>((l.take x.2.1).filter λz=>!p z).length=x.1/\x.1+(x.2.2.2.length+1)=x.2.1/\x.2.1<=l.length) (λx=>l.length-x.2.1) (i0,i0+1,l.getD i0 default,[]) ⟨hf1,rfl,acd⟩ ?_ ?_
 ·rw[hr0];exact bX
 rintro⟨i,j,y,g⟩ ⟨hx1,hx2,hx3⟩;simp only at hx1 hx2 hx3;have hlen:(fN p l (y :: g) j).length=l.length:=adf p l (y :: g) j i hx1 hx2 hx3;simp only[go_sem];refine aK (λhc=>?_) (λhc=>?_)
 ·have hlt:j<l.length:=by have:=cu hc;rw[hlen] at this;exact this
  have hj:j<(fN p l (y :: g) j).length:=by rw[hlen];exact hlt
  have vI:((fN p l (y :: g) j).map aj).getD j []=aj (l.getD j default):=by rw[getD_map aj hj,afv p l (y :: g) j i hx1 hx2 hlt]
  simp only[go_sem,vI,aj,bl];refine⟨hj,hj,?_⟩;refine aY (hp (l.getD j default) (by simp[hlt])) (by simp only[go_sem,jN,jM,aj,pA,bl,Bool.or_false,Bool.false_or,vI]<;>rfl) (b6 rfl) ?_;simp only[go_sem,vI,aj,bl];refine aW (λhb=>?_) (λhb=>?_)
  ·obtain⟨k1,k2⟩:=oD p l (y :: g) j hlt hb;simp only[go_sem,bz hlt (by omega),vI,aj,bl];refine bM (i,j+1,y,g++[l.getD j default]) ⟨by rw[k2];exact hx1,by simp;omega,hlt⟩ (by simp only;omega) ?_;rw[k1];exact bX
  ·obtain⟨k1,k2⟩:=abn p l y g j i hx1 hlt hb;have hij:i<j:=by omega
   have hi':i<(fN p l (y :: g) j).length:=by omega
   have hgi:((fN p l (y :: g) j).map aj).getD i []=aj ((fN p l (y :: g) j).getD i default):=by rw[getD_map aj hi']
   obtain⟨y2,g2,hg2,hl2⟩:∃y2 g2,g++[l.getD j default]=y2 :: g2/\g2.length=g.length:=by
    cases g with
    |nil=>exact⟨_,[],rfl,rfl⟩
    |cons a r=>exact⟨a,r++[l.getD j default],rfl,by simp⟩
   rw[hg2] at k1;have hst:((fN p l (y :: g) j).map aj).set i (aj (l.getD j default))=(fN p l (y2 :: g2) (j+1)).map aj:=by rw[<-k1,List.map_set]
   simp only[aj,bl] at hst;simp only[go_sem,hgi,aj,bl,bz hlt (by omega),bz hij (by omega),vI];refine⟨hi',hi',?_⟩;refine bM (i+1,j+1,y2,g2) ⟨by rw[k2,List.length_append,hx1];rfl,by simp only;omega,hlt⟩ (by simp only;omega) ?_;rw[hst];exact bX
 ·have hge:j=l.length:=by have:=en hc;rw[hlen] at this;omega
  subst hge;rw[List.take_length] at hx1;simp only[go_sem];refine jL _ _ (nD 36 1000000 v 102 4 _ rfl rfl) (by simp only[go_sem]<;>rfl) ?_ ?_
  ·rw[hlen];omega
  simp only[go_sem,hlen];have hsl:((fN p l (y :: g) l.length).map aj).length=l.length:=by rw[List.length_map];exact hlen
  have hend:=ao5 aj ((cN pw 102).getD [] |>.map PV.val) p l (y :: g) i hx1;rw[show (cN pw 102).getD []=_ from by simp only[go_sem]<;>rfl] at hend;simp only[qZ,List.length_replicate,List.append_assoc,List.map_cons,List.map_nil] at hend;generalize (fN p l (y :: g) l.length).map aj=E at hsl hend ⊢;refine rD 42 _ 1000000 v i (l.length-i) _ 102 4 E _ rfl (by simp only[go_sem]) (by simp only[go_sem]<;>rfl) rfl (by decide) rfl (by simp only[go_sem]<;>rfl) (by simp only[go_sem]) (by omega) (by omega) ?_;simp only[go_sem];refine jL _ _ (nD 39 1000000 v 102 4 _ rfl rfl) (by simp only[go_sem]<;>rfl) ?_ ?_
  ·simp[hsl];omega
  simp only[go_sem];exact⟨_,_,_,.inl rfl,rfl,by simp[hsl];omega,hend⟩
theorem atS(p:aM->Bool)(l:List aM)(hl:l.length<=1000000)(v:Nat)(k:FuncId)(fs cs:List PV)(hp:∀x∈l,aS pw k (fs++[pA (aH x)]++cs) (λr=>r = .val (.bool (p x)))) :
  kE pw 180 v 105 4 (l.map aH) [.iw (.func k) fs cs] (λa c=>a = .row 1000000 (v+1)/\c=some (.row (v+1) 105 4 ((l.filter λx=>!p x).map aH))):=by
 refine rE ?_;refine mK [] Ty.mixed func180 rfl (by kernel_rfl) (by simp[ntmps180]) ?_;rw[ntmps180,results180];simp only[go_sem];refine aY (afw p l hl k fs cs hp) (by simp only[go_sem]<;>rfl) (b6 rfl) ?_;simp only[go_sem];refine aK (λhc=>?_) (λhc=>?_)
 ·have ql:=cu hc;simp only[go_sem];exact⟨_,_,0,rfl,rfl,Nat.le_refl _,by rw[List.take_length,adb ql]⟩
 have ql:=en hc;obtain⟨i0,hi0,acd,hf0,hp0⟩:=ade ql;simp only[go_sem,hi0,bz acd (by omega)];have hr0:fN p l [l.getD i0 default] (i0+1)=l:=by have h1:=(oD p l [] i0 acd hp0).1;rw[List.nil_append] at h1;rw[<-h1,fN,hf0,List.append_nil,List.take_append_drop]
 have hf1:((l.take (i0+1)).filter λx=>!p x).length=i0:=by rw[(oD p l [] i0 acd hp0).2,hf0,List.length_take];omega
 refine bL (σ:=Nat×Nat×aM×List aM) (λx=>(cE (cE (cE (cE fT 0 (.row 1000000 v)) 1 (.p (.iw (.func k) fs cs))) 5 (.p (.val (.int .i64 x.1)))) 6 (.p (.val (.int .i64 x.2.1))))) (λx=>(bk cm 1000000 (.row v 105 4 ((fN p l (x.2.2.1 :: x.2.2.2) x.2.1).map aH))))
  (λx=>((l.take x.2.1).filter λz=>!p z).length=x.1/\x.1+(x.2.2.2.length+1)=x.2.1/\x.2.1<=l.length) (λx=>l.length-x.2.1) (i0,i0+1,l.getD i0 default,[]) ⟨hf1,rfl,acd⟩ ?_ ?_
 ·rw[hr0];exact bX
 rintro⟨i,j,y,g⟩ ⟨hx1,hx2,hx3⟩;simp only at hx1 hx2 hx3;have hlen:(fN p l (y :: g) j).length=l.length:=adf p l (y :: g) j i hx1 hx2 hx3;simp only[go_sem];refine aK (λhc=>?_) (λhc=>?_)
 ·have hlt:j<l.length:=by have:=cu hc;rw[hlen] at this;exact this
  have hj:j<(fN p l (y :: g) j).length:=by rw[hlen];exact hlt
  have vI:((fN p l (y :: g) j).map aH).getD j []=aH (l.getD j default):=by rw[getD_map aH hj,afv p l (y :: g) j i hx1 hx2 hlt]
  simp only[go_sem,vI,aH,bl];refine⟨hj,hj,?_⟩;refine aY (hp (l.getD j default) (by simp[hlt])) (by simp only[go_sem,jN,jM,aH,pA,bl,Bool.or_false,Bool.false_or,vI]<;>rfl) (b6 rfl) ?_;simp only[go_sem,vI,aH,bl];refine aW (λhb=>?_) (λhb=>?_)
  ·obtain⟨k1,k2⟩:=oD p l (y :: g) j hlt hb;simp only[go_sem,bz hlt (by omega),vI,aH,bl];refine bM (i,j+1,y,g++[l.getD j default]) ⟨by rw[k2];exact hx1,by simp;omega,hlt⟩ (by simp only;omega) ?_;rw[k1];exact bX
  ·obtain⟨k1,k2⟩:=abn p l y g j i hx1 hlt hb;have hij:i<j:=by omega
   have hi':i<(fN p l (y :: g) j).length:=by omega
   have hgi:((fN p l (y :: g) j).map aH).getD i []=aH ((fN p l (y :: g) j).getD i default):=by rw[getD_map aH hi']
   obtain⟨y2,g2,hg2,hl2⟩:∃y2 g2,g++[l.getD j default]=y2 :: g2/\g2.length=g.length:=by
    cases g with
    |nil=>exact⟨_,[],rfl,rfl⟩
    |cons a r=>exact⟨a,r++[l.getD j default],rfl,by simp⟩
   rw[hg2] at k1;have hst:((fN p l (y :: g) j).map aH).set i (aH (l.getD j default))=(fN p l (y2 :: g2) (j+1)).map aH:=by rw[<-k1,List.map_set]
   simp only[aH,bl] at hst;simp only[go_sem,hgi,aH,bl,bz hlt (by omega),bz hij (by omega),vI];refine⟨hi',hi',?_⟩;refine bM (i+1,j+1,y2,g2) ⟨by rw[k2,List.length_append,hx1];rfl,by simp only;omega,hlt⟩ (by simp only;omega) ?_;rw[hst];exact bX
 ·have hge:j=l.length:=by have:=en hc;rw[hlen] at this;omega
  subst hge;rw[List.take_length] at hx1;simp only[go_sem];refine jL _ _ (nD 36 1000000 v 105 4 _ rfl rfl) (by simp only[go_sem]<;>rfl) ?_ ?_
  ·rw[hlen];omega
  simp only[go_sem,hlen];have hsl:((fN p l (y :: g) l.length).map aH).length=l.length:=by rw[List.length_map];exact hlen
  have hend:=ao5 aH ((cN pw 105).getD [] |>.map PV.val) p l (y :: g) i hx1;rw[show (cN pw 105).getD []=_ from by simp only[go_sem]<;>rfl] at hend;simp only[qZ,List.length_replicate,List.append_assoc,List.map_cons,List.map_nil] at hend;generalize (fN p l (y :: g) l.length).map aH=E at hsl hend ⊢;refine rD 43 _ 1000000 v i (l.length-i) _ 105 4 E _ rfl (by simp only[go_sem]) (by simp only[go_sem]<;>rfl) rfl (by decide) rfl (by simp only[go_sem]<;>rfl) (by simp only[go_sem]) (by omega) (by omega) ?_;simp only[go_sem];refine jL _ _ (nD 39 1000000 v 105 4 _ rfl rfl) (by simp only[go_sem]<;>rfl) ?_ ?_
  ·simp[hsl];omega
  simp only[go_sem];exact⟨_,_,_,.inl rfl,rfl,by simp[hsl];omega,hend⟩
end Go.Proofs.YtjhkgjlmiolfoaaGreat
namespace Go.cr
def Ok{α:Type}(x:Option α)(Q:α->Prop):Prop:=∃r,x=some r/\Q r
section
variable{α β σ O:Type}{Q:O->Prop}
theorem Ok.mk{r:O}(h:Q r):Ok (some r) Q:=⟨r,rfl,h⟩
theorem Ok.eq{x:Option α}{r:α}(h:Ok x (λy=>y=r)):x=some r:=by obtain⟨y,h1,rfl⟩:=h;exact h1
theorem Ok.of{x:Option α}{r:α}(h:x=some r):Ok x (λy=>y=r):=⟨r,h,rfl⟩
theorem Ok.mono{x:Option O}{Q':O->Prop}(h:Ok x Q)(hq:∀r,Q r->Q' r):Ok x Q':=by obtain⟨r,h1,h2⟩:=h;exact⟨r,h1,hq r h2⟩
theorem cq{p:Prop} [Decidable p]{x:Option O}(hp:p)(h:Ok x Q):Ok (cB p x) Q:=by unfold cB;rw[if_pos hp];exact h
theorem cV{b:Bool}{x y:Option O}(h1:b=true->Ok x Q)(h2:b=false->Ok y Q):Ok (cond b x y) Q:=by
 cases b
 ·exact h2 rfl
 ·exact h1 rfl
theorem qc{b:Bool}{x y:Option O}(hb:b=true)(h1:Ok x Q):Ok (cond b x y) Q:=by subst hb;exact h1
theorem ayf{b:Bool}{x y:Option O}(hb:b=false)(h1:Ok y Q):Ok (cond b x y) Q:=by subst hb;exact h1
theorem ze{x:Option α}{k:α->Option O}{R:α->Prop}(h:Ok x R)(hk:∀r,R r->Ok (k r) Q):Ok (thn x k) Q:=by obtain⟨r,rfl,h2⟩:=h;exact hk r h2
theorem ok_eq{x:Option α}{k:α->Option O}{r:α}(h:x=some r)(hk:Ok (k r) Q):Ok (thn x k) Q:=by subst h;exact hk
theorem oL{l:List α}{k:α->Option O}{i:Nat}(hi:i<l.length)(h:Ok (k l[i]) Q):Ok (thn l[i]? k) Q:=ok_eq (List.getElem?_eq_getElem hi) h
theorem nO{l:List α}{k:α->Option O}{i:Int}(h0:0<=i)(hi:i.toNat<l.length)(h:Ok (k l[i.toNat]) Q):Ok (thn (nc l i) k) Q:=ok_eq (by unfold nc;rw[if_pos h0];exact List.getElem?_eq_getElem hi) h
theorem tG{f:Nat->σ->(σ->Option O)->(σ->Option O)->Option O}{K:σ->Option O}(φ:Nat->σ->Prop){n i:Nat}{s:σ}(hi:i<=n)(h0:φ i s)
  (hr:∀j s (cv:σ->Option O),i<=j->j<n->φ j s->(∀s',φ (j+1) s'->Ok (cv s') Q)->Ok (f j s cv K) Q) (he:∀s,φ n s->Ok (K s) Q):Ok (bZ f (n-i) i s K) Q:=by
 have key:∀k j s,j+k=n->i<=j->φ j s->Ok (bZ f k j s K) Q:=by
  intro k
  induction k with
  |zero =>
   intro j s hj _ h;have:j=n:=by omega
   subst this;exact he s h
  |succ k ih=>intro j s hj hij h;exact hr j s _ hij (by omega) h λs' h'=>ih (j+1) s' (by omega) (by omega) h'
 exact key (n-i) i s (by omega) (Nat.le_refl _) h0
theorem aet{f:σ->(σ->Option O)->(σ->Option O)->Option O}{K:σ->Option O}(φ:σ->Prop)(μ:σ->Nat){n:Nat}{s:σ}(h0:φ s)(hm:μ s<n)
  (hr:∀s (cv:σ->Option O),φ s->(∀s',φ s'->μ s'<μ s->Ok (cv s') Q)->Ok (f s cv K) Q):Ok (iter f n s K) Q:=by
 have key:∀n s,φ s->μ s<n->Ok (iter f n s K) Q:=by
  intro n
  induction n with
  |zero=>intro s _ h;omega
  |succ n ih=>intro s h hm;exact hr s _ h λs' h' hlt=>ih s' h' (by omega)
 exact key n s h0 hm
theorem dJ{n:Int}(h : -9223372036854775808<=n/\n<=9223372036854775807):i64.wrap n=n:=IntWalk.i64_in n (by omega)
end
theorem tg{α:Type}{p:Prop} [Decidable p]{x:α}(h:p):giv p x=some x:=by unfold giv;rw[if_pos h]
open Go.RowKit
variable{P:Program}{N:Nat}{own:List Nat}
theorem kL{ops:Array Oper}{K:Env->ay->Prop}{env:Env}{H:ay}(id v:Nat)(e:TypeId)(sz:Nat)(es:List (List PV))(ts:List Nat)(hH:H id=some (.row v e sz es))(ht:holds env id v ts)(hn:ts.Nodup)
  (hw:vh P N own ops K (anb (.p (.aV es)) ts env) (bk H id (.shut v es))):vh P N own ops K env H:=by
 intro C I L tm w hN hs;have h1:=Fr.shut C I L w hH env tm hs;exact hw C _ L tm w hN (acR (by simp[bk]) ts _ hn h1 ht)
theorem toNat_lt{i:Int}{n:Nat}(h:0<=i)(k:i<(n:Int)):i.toNat<n:=by omega
def ace(own:List Nat)(ops:Array Oper)(id:Nat):Nat->Prop
 |0=>True
 |n+1=>lC own ops id=false/\ace own ops (id+1) n
variable{ops:Array Oper}
theorem atT(id:Nat):ace own ops id 1=(lC own ops id=false/\True):=rfl
theorem alZ(id:Nat):ace own ops id 3=(lC own ops id=false/\lC own ops (id+1)=false/\lC own ops (id+1+1)=false/\True):=rfl
theorem ao8(id:Nat):ace own ops id 4=(lC own ops id=false/\lC own ops (id+1)=false/\lC own ops (id+1+1)=false/\lC own ops (id+1+1+1)=false/\True):=rfl
theorem afx:∀ (n id:Nat),ace own ops id n->∀i,id<=i->i<id+n->lC own ops i=false
 |0,id,_,i,h1,h2=>by omega
 |n+1,id,h,i,h1,h2=>by
  rcases Nat.lt_or_ge id i with h'|h'
  ·exact afx n (id+1) h.2 i (by omega) (by omega)
  ·have:i=id:=by omega
   subst this;exact h.1
theorem aeu{env:Env}{H:ay}{o:Oper}{W:Env->ay->Prop}{k:FuncId}{ps ps':List PV}{b:Bool}(id:Nat){r:RV}(c:br P k ps λx=>x=r)(he:jT o (ev env) (o9 own ops H)=some (k,ps',b))(hp:qb ps' ps)(hb:b=true->r.flat=true)
  (hf:lT H id ((cO id r).2-id)) (hn:ace own ops id ((cO id r).2-id)) (hW:W (cH env o.dst (cO id r).1) (gj id H r)):ae6 P own ops o W env H:=by
 have c':br P k ps' λx=>x=r:=c.args (rT _ _ hp)
 have hle:=yP r id;unfold jT at he;cases ha:dH o (ev env) with
 |none=>rw[ha] at he;cases he
 |some q =>
  obtain⟨k',eL⟩:=q;rw[ha] at he;simp only[] at he;cases hl:ek (gA (o9 own ops H)) eL with
  |none=>rw[hl] at he;cases he
  |some q=>obtain⟨qs,b'⟩:=q;rw[hl] at he;simp only[cA,iz] at he;obtain⟨rfl,rfl,rfl⟩:=he;exact⟨_,_,⟨_,eL,_,_,r,id,ha,hl,c',hb,λi h1 h2=>⟨abh _ id hf i h1 (by omega),afx _ id hn i h1 (by omega)⟩,rfl,rfl⟩,hW⟩
attribute [go_sem] atT alZ ao8
end Go.cr
set_option maxRecDepth 20000
namespace Go.Proofs.YtjhkgjlmiolfoaaGreat
open Go.cr
structure jF where
 x0:Int
 x1:Int
 x2:Int
structure cZ where
 nodes:List cz
 au:List jF
structure bQ where
 nodes:List cz
 au:List cz
 h:cZ
 first:List jF
 p:List jF
 q:List jF
def dW(x:cz):List PV:=[.val (.int .u8 x.x0),.val (.int .u8 x.x1)]
def dP(x:jF):List PV:=[.val (.int .u8 x.x0),.val (.int .u8 x.x1),.val (.int .u8 x.x2)]
def ew(x:bQ):List PV:=[.aV (x.nodes.map dW),.aV (x.au.map dW),.aV (x.h.nodes.map dW),.aV (x.h.au.map dP),.aV (x.first.map dP),.aV (x.p.map dP),.aV (x.q.map dP)]
structure bV where
 a:ax
 p:aG
 q:aG
def nj(x:Host):List PV:=[.aV (x.graph.nodes.map encI),.aV (x.graph.au.map aZ),.aV (x.values.map bI)]
structure aO where
 nodes:List ah
 au:List ak
structure cF where
 iu:Int
 node:Int
 count:Int
 out:Bool
def dx(x:cF):List PV:=[.val (.int .i64 x.iu),.val (.int .i64 x.node),.val (.int .i64 x.count),.val (.bool x.out)]
structure bJ where
 id:Int
 iu:Int
 out:Bool
def bY(x:bJ):List PV:=[.val (.int .i64 x.id),.val (.int .i64 x.iu),.val (.bool x.out)]
structure xm where
 x0:aG
 x1:aG
def lW(x:xm):List PV:=[.aV (x.x0.az.map ag),.aV (x.x0.aF.map aj),.aV (x.x0.aR.map ag),.aV (x.x0.aP.map aj),.aV (x.x0.values.map aH),.val (.int .i64 x.x0.next.x0),.val (.int .i64 x.x0.next.x1),.aV (x.x1.az.map ag),.aV (x.x1.aF.map aj),.aV (x.x1.aR.map ag),.aV (x.x1.aP.map aj),.aV (x.x1.values.map aH),.val (.int .i64 x.x1.next.x0),.val (.int .i64 x.x1.next.x1)]
def jG(l:List aI):List PV:=[.aV (l.map aB)]
structure bn where
 id:Int
 iu:Int
 out:Bool
def ct(x:bn):List PV:=[.val (.int .i64 x.id),.val (.int .i64 x.iu),.val (.bool x.out)]
def iH(l:List bn):List PV:=[.aV (l.map ct)]
structure ao9 where
 var:Int
 add:Int
structure ayg where
 node:Int
 attr:Int
 term:ao9
structure ayh where
 kind:Int
 left:ao9
 right:ao9
structure adg where
 graph:eS
 slots:List ayg
 vars:Int
 tests:List ayh
structure aCU where
 nodes:List Int
 au:List Int
structure abo where
 nodes:List Int
 au:List Int
structure vo where
 kind:Int
 kids:List vo
 map:abo
 pattern:adg
structure aIb where
 name:ByteArray
 left:adg
 right:adg
 keep:aCU
 into:abo
 injective:Bool
 condition:vo
def afy(x:ayg):List PV:=[.val (.int .i64 x.node),.val (.int .i64 x.attr),.val (.int .i64 x.term.var),.val (.int .i64 x.term.add)]
def afz(x:ayh):List PV:=[.val (.int .i64 x.kind),.val (.int .i64 x.left.var),.val (.int .i64 x.left.add),.val (.int .i64 x.right.var),.val (.int .i64 x.right.add)]
mutual
def aeg:vo->List PV
 |⟨v_kind,v_kids,v_map,v_pattern⟩=>[.val (.int .i64 v_kind),.aV (vp v_kids),.aV (v_map.nodes.map encI),.aV (v_map.au.map encI),.aV (v_pattern.graph.nodes.map encI),.aV (v_pattern.graph.au.map aZ),.aV (v_pattern.slots.map afy),.val (.int .i64 v_pattern.vars),.aV (v_pattern.tests.map afz)]
def vp:List vo->List (List PV)
 | []=>[]
 |a :: r=>aeg a :: vp r
end
structure aGB where
 aEt:abo
 vars:List Int
def aBX(b:Bool):List PV:=[.val (.bool b)]
structure ajQ where
 p:aG
 q:aG
structure ahK where
 types:List cz
 ends:List cz
 host:cZ
attribute [local go_sem] Nat.reduceEqDiff Nat.reduceLT Nat.reduceLeDiff Nat.reduceMul Nat.reduceAdd Nat.reduceBEq Nat.reduceSub Int.reduceToNat reduceIte reduceCtorEq yY List.cons_append List.nil_append aU aZ aL encI bl jG iH aJ bI cQ nj dW lW dP aB dx aC aj ag aH afy afz aA ct ew bY aBX
noncomputable section
end
end Go.Proofs.YtjhkgjlmiolfoaaGreat
namespace Go.Proofs.YtjhkgjlmiolfoaaGreat
open Go.cr
def jO(t:Types):Option (ByteArray×Int):=giv (fM t) (gC t)
theorem p4(t:Types)(r:ByteArray×Int)(h:jO t=some r):aS pw 78 [aD t] (λv=>v = .dQ [.val (.string r.1),.val (.int .i64 r.2)]):=by obtain⟨h1,rfl⟩:=sx h;exact ac5 t h1
def tH(t:Types)(h:Host):Option (Int×Int):=giv (fM t/\sM h) (jU t h)
theorem acf(t:Types)(h:Host)(r:Int×Int)(hr:tH t h=some r):aS pw 74 [aD t,cG h] (λv=>v = .dQ [.val (.int .i64 r.1),.val (.int .i64 r.2)]):=by obtain⟨⟨h1,h2⟩,rfl⟩:=sx hr;exact asX t h1 h h2
def iI(t:Types)(h:Host):Option (Int×Int):=giv (fM t/\sM h) (jU t h)
theorem lX(t:Types)(h:Host)(r:Int×Int)(hr:iI t h=some r):aS pw 55 [aD t,cG h] (λv=>v = .dQ [.val (.int .i64 r.1),.val (.int .i64 r.2)]):=by obtain⟨⟨h1,h2⟩,rfl⟩:=sx hr;exact aoF t h1 h h2
def qu(t:Types)(e a b:Int):Option Bool:=giv (fM t) (qU t e a b)
theorem mW(t:Types)(e a b:Int)(r:Bool)(h:qu t e a b=some r):aS pw 94 [aD t,.val (.int .i64 e),.val (.int .i64 a),.val (.int .i64 b)] (λv=>v = .val (.bool r)):=by obtain⟨h1,rfl⟩:=sx h;exact alq t h1 e a b
def agR(t:Types)(a:Int):Option (List Attr×Int):=giv (OkT t/\0<=a/\a<t.nodes.length) (bg t a.toNat,0)
theorem azJ(t:Types)(a:Int)(r:List Attr×Int)(h:agR t a=some r):aS pw 232 [aD t,.val (.int .i64 a)] (λv=>v = .dQ [.aV (r.1.map aU),.val (.int .i64 r.2)]):=by obtain⟨⟨h1,h2,h3⟩,rfl⟩:=sx h;obtain⟨n,rfl⟩:=Int.eq_ofNat_of_zero_le h2;exact ahy t h1 n (by omega)
def lY(t:Types)(a:Int):Option (List Attr×Int):=giv (OkT t/\0<=a/\a<t.nodes.length) (bg t a.toNat,0)
theorem wF(t:Types)(a:Int)(r:List Attr×Int)(h:lY t a=some r):aS pw 93 [aD t,.val (.int .i64 a)] (λv=>v = .dQ [.aV (r.1.map aU),.val (.int .i64 r.2)]):=by obtain⟨⟨h1,h2,h3⟩,rfl⟩:=sx h;obtain⟨n,rfl⟩:=Int.eq_ofNat_of_zero_le h2;exact afn t h1 n (by omega)
def mX(l:List Int):Option (List Int):=giv (l.length<=1000000) l
theorem uA(l:List Int)(r:List Int)(h:mX l=some r):br pw 90 [.aV (l.map encI)] (λv=>v = .row 3 1 (r.map encI)):=by obtain⟨h1,rfl⟩:=sx h;exact ahv l h1
def vN(t:Types)(l:List Int):Option Int:=giv (fM t/\l.length<=1000000) (qq t l)
theorem agS(t:Types)(l:List Int)(r:Int)(h:vN t l=some r):aS pw 233 [aD t,.aV (l.map encI)] (λv=>v = .val (.int .i64 r)):=by obtain⟨⟨h1,h2⟩,rfl⟩:=sx h;exact afm t h1 l h2
def abp(t:Types)(a b:Int):Option Bool:=giv (OkT t/\0<=a/\a<t.nodes.length) (isB t a b)
theorem apa(t:Types)(a b:Int)(r:Bool)(h:abp t a b=some r):aS pw 234 [aD t,.val (.int .i64 a),.val (.int .i64 b)] (λv=>v = .val (.bool r)):=by obtain⟨⟨h1,h2,h3⟩,rfl⟩:=sx h;obtain⟨n,rfl⟩:=Int.eq_ofNat_of_zero_le h2;exact aoB t h1 n (by omega) b
def ic(t:Types)(a b:Int):Option Bool:=giv (fM t/\OkT t/\0<=a/\a<t.nodes.length/\0<=b) (isB t a b)
theorem pq(t:Types)(a b:Int)(r:Bool)(h:ic t a b=some r):aS pw 155 [aD t,.val (.int .i64 a),.val (.int .i64 b)] (λv=>v = .val (.bool r)):=by obtain⟨⟨h0,h1,h2,h3,h4⟩,rfl⟩:=sx h;exact ac6 t b h4 h0 (a.toNat+1) a (by omega) (by omega) h3 h1.par
end Go.Proofs.YtjhkgjlmiolfoaaGreat
