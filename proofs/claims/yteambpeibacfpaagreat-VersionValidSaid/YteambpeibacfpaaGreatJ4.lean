/- Joined texts, part 4: lemmas for the statement. No condition. -/
import Derived.Test.YteambpeibacfpaaGreatJ3
import Derived.Shelf.Spec.SlicesGrow
import Derived.Shelf.Lay
import Derived.Shelf.LaySoft
import Derived.Ground.Names8Prog
import Derived.Test.YteambpeibacfpaaGreatProg
import Derived.Shelf.Slices.In.SortAlone
import Derived.Shelf.Slices.In.SortNone
import Derived.Shelf.Slices.CompactI
import Derived.Sort.OwnSortedInts
import Derived.Ground.NamesProg
import Derived.Ground.Names2Prog
import Derived.Shelf.SlSortCmp.NoneTotal
import Derived.Ground.SlsfProg
import Derived.ChangeArms
import Derived.SizedLaws
import Derived.Test.YteambpeibacfpaaGreatJ1
import Derived.OpenShut
import Derived.ProofKit
import Derived.Carry
import Derived.ArgAppend
import Derived.Laws.Slices
set_option maxHeartbeats 4000000
set_option linter.unusedSimpArgs false
set_option linter.unusedVariables false
open Nat (reduceEqDiff reduceLT reduceLeDiff reduceMul reduceAdd reduceSub)
open Go.IntKind (i64)
open Go.Proofs.Tryz
open Go.Proofs.Tryz renaming prog → pw
open List hiding Mem cons idxOf iter nil tail
open Nat (zero_le not_lt_zero lt_of_lt_of_le mul_le_mul_right le_refl le_trans min_eq_left lt_or_ge mod_lt div_add_mod' zero_add add_mul add_zero mul_one)
open Option (map_some map_none)
namespace Go.Proofs.YteambpeibacfpaaGreat
open Go.b7
theorem auz(t:Types)(hf:iq t)(h:Host)(hh:vF h):aD pw 35 [aA t,cL h] (λr=>r = .dH [.val (.int .i64 (jI t h).1),.val (.int .i64 (jI t h).2)]):=by
 have hg1:=hh.graph.nodes;have hg2:=hh.graph.ah;have hv:=hh.values;refine aF [] func35 ntmps35 results35 ?_;simp only[go_sem,aA,cL,bH];refine aW (ahD t hf) (by simp only[go_sem,aA,cL,bH]<;>rfl) (cB rfl) ?_;simp only[go_sem,aA,cL,bH];refine aU (λh1=>?_) (λh1=>?_)<;>simp only[go_sem,aA,cL,bH]
 ·have uq:=bX h1;have ht:=zi hf uq
  have e1 : jI t h = if qj h.graph ≠ 0 then (-1, qj h.graph)
    else if h.values.length≠h.graph.nodes.length then (-1,20)
    else match kO (λi=>nH t (h.graph.nodes.getD i default) (h.values.getD i default)) 0 h.graph.nodes.length with
     |some k=>((k:Int),nH t (h.graph.nodes.getD k default) (h.values.getD k default))
     |none=>match kO (uO t h) 0 h.graph.ah.length with
      |some k=>((k:Int),uO t h k)
      |none=>(-1,0):=by
   unfold jI;rw[if_neg (by rw[uq];decide)];try rfl
  rw[e1];refine aW (ajW h.graph hh.graph) (by simp only[go_sem,aA,cL,bH]<;>rfl) (cB rfl) ?_;simp only[go_sem,aA,cL,bH];refine aU (λh2=>?_) (λh2=>?_)<;>simp only[go_sem,aA,cL,bH]
  ·have h2':=bX h2;have hg:=okG h2';rw[if_neg (by rw[h2'];decide)];refine aU (λh3=>?_) (λh3=>?_)<;>simp only[go_sem,aA,cL,bH]
   ·have h3':=bX h3;have hvl:h.values.length=h.graph.nodes.length:=by omega
    rw[if_neg (by omega)];generalize hF:(λi=>nH t (h.graph.nodes.getD i default) (h.values.getD i default))=f;refine bV (σ:=Nat) (λx=>(c9 (c9 (c9 (c9 (c9 gI 2 (.ptr 2 0)) 3 (.ptr 3 0)) 38 (.p (.aL (h.graph.nodes.map encI)))) 39 (.p (.val (.int .i64 h.graph.nodes.length)))) 40 (.p (.val (.int .i64 x)))))
     (λx=>(br (br ct 2 (.box [.p (.aL (t.nodes.map aB)),.p (.aL (t.ah.map aC))])) 3 (.box [.p (.aL (h.graph.nodes.map encI)),.p (.aL (h.graph.ah.map aK)),.p (.aL (h.values.map bw))])))
     (λx=>x<=h.graph.nodes.length/\∀j,j<x->f j=0) (λx=>h.graph.nodes.length-x) 0 ⟨zero_le _,λj hj=>absurd hj (not_lt_zero j)⟩ cu ?_
    rintro x ⟨hx,hq⟩;simp only[go_sem,aA,cL,bH];refine aI (λhc=>?_) (λhc=>?_)
    ·have hlt:x<h.graph.nodes.length:=by simpa using hc
     have kP:x<h.values.length:=by omega
     have hr:=hh.row _ (iz kP);simp only[go_sem,aA,cL,bH,getD_map encI hlt,hlt,encI,getD_map bw kP,kP,bw];refine dO [.q,.q,.q,.q,.q,.q,.q,.q,.q] (by kernel_rfl) ?_;simp only[go_sem,aA,cL,bH,getD_map encI hlt,hlt,encI,getD_map bw kP,kP,bw];refine jH (ayD t ht (h.graph.nodes.getD x default) (hg.kind x hlt).1 (h.values.getD x default) (by omega)) (by simp only[go_sem,aA,cL,bH,getD_map encI hlt,hlt,encI,getD_map bw kP,kP,bw]<;>rfl) (cB rfl) ?_;simp only[go_sem,aA,cL,bH,getD_map encI hlt,hlt,encI,getD_map bw kP,kP,bw];have e:f x=nH t (h.graph.nodes.getD x default) (h.values.getD x default):=by rw[<-hF]
     refine aU (λh4=>?_) (λh4=>?_)<;>simp only[go_sem,aA,cL,bH,getD_map encI hlt,hlt,encI,getD_map bw kP,kP,bw]
     ·have h4':=bX h4;exact cr (x+1) ⟨hlt,all_succ hq (e.trans h4')⟩ (by omega) (by rw[bM hlt (by omega)];exact cu)
     ·have h4':=eu h4;rw[mF (zero_le _) hlt (λj _=>hq j) (by rw[e];exact h4')];exact⟨rfl,rfl⟩
    ·have hge:h.graph.nodes.length<=x:=by simpa using hc
     rw[gC λj _ hj=>hq j (by omega)];simp only[go_sem,aA,cL,bH];refine bV (σ:=Nat) (λx=>(c9 (c9 (c9 (c9 (c9 gI 2 (.ptr 2 0)) 3 (.ptr 3 0)) 60 (.p (.aL (h.graph.ah.map aK)))) 61 (.p (.val (.int .i64 h.graph.ah.length)))) 62 (.p (.val (.int .i64 x)))))
      (λx=>(br (br ct 2 (.box [.p (.aL (t.nodes.map aB)),.p (.aL (t.ah.map aC))])) 3 (.box [.p (.aL (h.graph.nodes.map encI)),.p (.aL (h.graph.ah.map aK)),.p (.aL (h.values.map bw))])))
      (λx=>x<=h.graph.ah.length/\∀j,j<x->uO t h j=0) (λx=>h.graph.ah.length-x) 0 ⟨zero_le _,λj hj=>absurd hj (not_lt_zero j)⟩ cu ?_
     rintro y ⟨hy,hq'⟩;simp only[go_sem,aA,cL,bH];refine aI (λwm=>?_) (λwm=>?_)
     ·have hlt:y<h.graph.ah.length:=by simpa using wm
      have hE:=hg.xN y hlt;obtain⟨a,ha⟩:∃k:Nat,(h.graph.ah.getD y default).src=k:=⟨_,(Int.toNat_of_nonneg hE.2.1.1).symm⟩;obtain⟨b,hb⟩:∃k:Nat,(h.graph.ah.getD y default).dst=k:=⟨_,(Int.toNat_of_nonneg hE.2.2.1).symm⟩;have hal:a<h.graph.nodes.length:=by have:=hE.2.1.2;rw[ha] at this;omega
      have hbl:b<h.graph.nodes.length:=by have:=hE.2.2.2;rw[hb] at this;omega
      have e0:uO t h y=if (t.ah.length:Int)<=(h.graph.ah.getD y default).type then 6 else if qW t (h.graph.ah.getD y default).type (h.graph.nodes.getD a default) (h.graph.nodes.getD b default)=true then 0 else 13:=by unfold uO;rw[ha,hb,Int.toNat_natCast,Int.toNat_natCast]
      simp only[go_sem,aA,cL,bH,getD_map aK hlt,hlt,aK,ha,hb];refine aI (λh5=>?_) (λh5=>?_)<;>simp only[go_sem,aA,cL,bH,getD_map aK hlt,hlt,aK,ha,hb]
      ·have h5':=bX h5;have e6:uO t h y=6:=by rw[e0,if_pos h5']
       rw[mF (zero_le _) hlt (λj _=>hq' j) (by rw[e6];decide)];simp only[e6]
       first|exact⟨rfl,rfl⟩|exact⟨trivial,trivial⟩|exact⟨rfl,trivial⟩|exact⟨trivial,rfl⟩
      ·have h5':=eu h5;rw[if_neg h5'] at e0;refine dO [.q,.q,.q,.q,.q,.q,.q,.q,.q,.q,.q,.q,.q,.q,.q,.q,.q,.q,.q] (by kernel_rfl) ?_;simp only[go_sem,getD_map encI hal,hal,getD_map encI hbl,hbl,encI,aA,cL,bH,getD_map aK hlt,hlt,aK,ha,hb];refine jH (ar5 t hf (h.graph.ah.getD y default).type (h.graph.nodes.getD a default) (h.graph.nodes.getD b default)) (by simp only[go_sem,aA,cL,bH,getD_map aK hlt,hlt,aK,ha,hb]<;>rfl) (cB rfl) ?_;simp only[go_sem,aA,cL,bH,getD_map aK hlt,hlt,aK,ha,hb];refine aU (λh6=>?_) (λh6=>?_)<;>simp only[go_sem,aA,cL,bH,getD_map aK hlt,hlt,aK,ha,hb]
       ·rw[if_pos h6] at e0;exact cr (y+1) ⟨hlt,all_succ hq' e0⟩ (by omega) (by rw[bM hlt (by omega)];exact cu)
       ·rw[if_neg (by rw[h6];decide)] at e0;rw[mF (zero_le _) hlt (λj _=>hq' j) (by rw[e0];decide)];simp only[e0]
        first|exact⟨rfl,rfl⟩|exact⟨trivial,trivial⟩|exact⟨rfl,trivial⟩|exact⟨trivial,rfl⟩
     ·have aC6:h.graph.ah.length<=y:=by simpa using wm
      simp only[go_sem,aA,cL,bH];rw[gC λj _ hj=>hq' j (by omega)];exact⟨rfl,rfl⟩
   ·have h3':=eu h3;rw[if_pos (by omega)];exact⟨rfl,rfl⟩
  ·have h2':=eu h2;rw[if_pos h2'];exact⟨rfl,rfl⟩
 ·have uq:=eu h1;unfold jI;rw[if_pos uq];exact⟨rfl,rfl⟩
theorem aqB(t:Types)(hf:iq t)(h:Host)(hh:vF h):aD pw 40 [aA t,cL h] (λr=>r = .dH [.val (.int .i64 (jI t h).1),.val (.int .i64 (jI t h).2)]):=by
 have hg1:=hh.graph.nodes;have hg2:=hh.graph.ah;have hv:=hh.values;refine aF [] func40 ntmps40 results40 ?_;simp only[go_sem,aA,cL,bH];refine aW (aft t hf) (by simp only[go_sem,aA,cL,bH]<;>rfl) (cB rfl) ?_;simp only[go_sem,aA,cL,bH];refine aU (λh1=>?_) (λh1=>?_)<;>simp only[go_sem,aA,cL,bH]
 ·have uq:=bX h1;have ht:=zi hf uq
  have e1 : jI t h = if qj h.graph ≠ 0 then (-1, qj h.graph)
    else if h.values.length≠h.graph.nodes.length then (-1,20)
    else match kO (λi=>nH t (h.graph.nodes.getD i default) (h.values.getD i default)) 0 h.graph.nodes.length with
     |some k=>((k:Int),nH t (h.graph.nodes.getD k default) (h.values.getD k default))
     |none=>match kO (uO t h) 0 h.graph.ah.length with
      |some k=>((k:Int),uO t h k)
      |none=>(-1,0):=by
   unfold jI;rw[if_neg (by rw[uq];decide)];try rfl
  rw[e1];refine aW (aqA h.graph hh.graph) (by simp only[go_sem,aA,cL,bH]<;>rfl) (cB rfl) ?_;simp only[go_sem,aA,cL,bH];refine aU (λh2=>?_) (λh2=>?_)<;>simp only[go_sem,aA,cL,bH]
  ·have h2':=bX h2;have hg:=okG h2';rw[if_neg (by rw[h2'];decide)];refine aU (λh3=>?_) (λh3=>?_)<;>simp only[go_sem,aA,cL,bH]
   ·have h3':=bX h3;have hvl:h.values.length=h.graph.nodes.length:=by omega
    rw[if_neg (by omega)];generalize hF:(λi=>nH t (h.graph.nodes.getD i default) (h.values.getD i default))=f;refine bV (σ:=Nat) (λx=>(c9 (c9 (c9 gI 2 (.ptr 2 0)) 3 (.ptr 3 0)) 9 (.p (.val (.int .i64 x)))))
     (λx=>(br (br ct 2 (.box [.p (.aL (t.nodes.map aB)),.p (.aL (t.ah.map aC))])) 3 (.box [.p (.aL (h.graph.nodes.map encI)),.p (.aL (h.graph.ah.map aK)),.p (.aL (h.values.map bw))])))
     (λx=>x<=h.graph.nodes.length/\∀j,j<x->f j=0) (λx=>h.graph.nodes.length-x) 0 ⟨zero_le _,λj hj=>absurd hj (not_lt_zero j)⟩ cu ?_
    rintro x ⟨hx,hq⟩;simp only[go_sem,aA,cL,bH];refine aI (λhc=>?_) (λhc=>?_)
    ·have hlt:x<h.graph.nodes.length:=by simpa using hc
     have kP:x<h.values.length:=by omega
     have hr:=hh.row _ (iz kP);simp only[go_sem,aA,cL,bH,getD_map encI hlt,hlt,encI,getD_map bw kP,kP,bw];refine dO [.q,.q,.q,.q,.q,.q,.q,.q,.q,.q,.q,.q,.q,.q] (by kernel_rfl) ?_;simp only[go_sem,aA,cL,bH,getD_map encI hlt,hlt,encI,getD_map bw kP,kP,bw];refine jH (auy t ht (h.graph.nodes.getD x default) (hg.kind x hlt).1 (h.values.getD x default) (by omega)) (by simp only[go_sem,aA,cL,bH,getD_map encI hlt,hlt,encI,getD_map bw kP,kP,bw]<;>rfl) (cB rfl) ?_;simp only[go_sem,aA,cL,bH,getD_map encI hlt,hlt,encI,getD_map bw kP,kP,bw];have e:f x=nH t (h.graph.nodes.getD x default) (h.values.getD x default):=by rw[<-hF]
     refine aU (λh4=>?_) (λh4=>?_)<;>simp only[go_sem,aA,cL,bH,getD_map encI hlt,hlt,encI,getD_map bw kP,kP,bw]
     ·have h4':=bX h4;exact cr (x+1) ⟨hlt,all_succ hq (e.trans h4')⟩ (by omega) (by rw[bM hlt (by omega)];exact cu)
     ·have h4':=eu h4;rw[mF (zero_le _) hlt (λj _=>hq j) (by rw[e];exact h4')];exact⟨rfl,rfl⟩
    ·have hge:h.graph.nodes.length<=x:=by simpa using hc
     rw[gC λj _ hj=>hq j (by omega)];simp only[go_sem,aA,cL,bH];refine bV (σ:=Nat) (λx=>(c9 (c9 (c9 gI 2 (.ptr 2 0)) 3 (.ptr 3 0)) 11 (.p (.val (.int .i64 x)))))
      (λx=>(br (br ct 2 (.box [.p (.aL (t.nodes.map aB)),.p (.aL (t.ah.map aC))])) 3 (.box [.p (.aL (h.graph.nodes.map encI)),.p (.aL (h.graph.ah.map aK)),.p (.aL (h.values.map bw))])))
      (λx=>x<=h.graph.ah.length/\∀j,j<x->uO t h j=0) (λx=>h.graph.ah.length-x) 0 ⟨zero_le _,λj hj=>absurd hj (not_lt_zero j)⟩ cu ?_
     rintro y ⟨hy,hq'⟩;simp only[go_sem,aA,cL,bH];refine aI (λwm=>?_) (λwm=>?_)
     ·have hlt:y<h.graph.ah.length:=by simpa using wm
      have hE:=hg.xN y hlt;obtain⟨a,ha⟩:∃k:Nat,(h.graph.ah.getD y default).src=k:=⟨_,(Int.toNat_of_nonneg hE.2.1.1).symm⟩;obtain⟨b,hb⟩:∃k:Nat,(h.graph.ah.getD y default).dst=k:=⟨_,(Int.toNat_of_nonneg hE.2.2.1).symm⟩;have hal:a<h.graph.nodes.length:=by have:=hE.2.1.2;rw[ha] at this;omega
      have hbl:b<h.graph.nodes.length:=by have:=hE.2.2.2;rw[hb] at this;omega
      have e0:uO t h y=if (t.ah.length:Int)<=(h.graph.ah.getD y default).type then 6 else if qW t (h.graph.ah.getD y default).type (h.graph.nodes.getD a default) (h.graph.nodes.getD b default)=true then 0 else 13:=by unfold uO;rw[ha,hb,Int.toNat_natCast,Int.toNat_natCast]
      simp only[go_sem,aA,cL,bH,getD_map aK hlt,hlt,aK,ha,hb];refine aI (λh5=>?_) (λh5=>?_)<;>simp only[go_sem,aA,cL,bH,getD_map aK hlt,hlt,aK,ha,hb]
      ·have h5':=bX h5;have e6:uO t h y=6:=by rw[e0,if_pos h5']
       rw[mF (zero_le _) hlt (λj _=>hq' j) (by rw[e6];decide)];simp only[e6]
       first|exact⟨rfl,rfl⟩|exact⟨trivial,trivial⟩|exact⟨rfl,trivial⟩|exact⟨trivial,rfl⟩
      ·have h5':=eu h5;rw[if_neg h5'] at e0;refine dO [.q,.q,.q,.q,.q,.q,.q,.q,.q,.q,.q,.q,.q,.q,.q,.q,.q,.q,.q] (by kernel_rfl) ?_;simp only[go_sem,getD_map encI hal,hal,getD_map encI hbl,hbl,encI,aA,cL,bH,getD_map aK hlt,hlt,aK,ha,hb];refine jH (anJ t hf (h.graph.ah.getD y default).type (h.graph.nodes.getD a default) (h.graph.nodes.getD b default)) (by simp only[go_sem,aA,cL,bH,getD_map aK hlt,hlt,aK,ha,hb]<;>rfl) (cB rfl) ?_;simp only[go_sem,aA,cL,bH,getD_map aK hlt,hlt,aK,ha,hb];refine aU (λh6=>?_) (λh6=>?_)<;>simp only[go_sem,aA,cL,bH,getD_map aK hlt,hlt,aK,ha,hb]
       ·rw[if_pos h6] at e0;exact cr (y+1) ⟨hlt,all_succ hq' e0⟩ (by omega) (by rw[bM hlt (by omega)];exact cu)
       ·rw[if_neg (by rw[h6];decide)] at e0;rw[mF (zero_le _) hlt (λj _=>hq' j) (by rw[e0];decide)];simp only[e0]
        first|exact⟨rfl,rfl⟩|exact⟨trivial,trivial⟩|exact⟨rfl,trivial⟩|exact⟨trivial,rfl⟩
     ·have aC6:h.graph.ah.length<=y:=by simpa using wm
      simp only[go_sem,aA,cL,bH];rw[gC λj _ hj=>hq' j (by omega)];exact⟨rfl,rfl⟩
   ·have h3':=eu h3;rw[if_pos (by omega)];exact⟨rfl,rfl⟩
  ·have h2':=eu h2;rw[if_pos h2'];exact⟨rfl,rfl⟩
 ·have uq:=eu h1;unfold jI;rw[if_pos uq];exact⟨rfl,rfl⟩
instance(t:Types):Decidable (iq t):=decidable_of_iff (t.nodes.length<=20/\t.ah.length<=30/\(∀n∈t.nodes,n.attrs.length<=30)/\(∀n∈t.nodes,n.name.size<=40)/\(∀n∈t.nodes,∀a∈n.attrs,a.name.size<=40)/\(∀n∈t.nodes,∀a∈n.attrs,a.names.length<=25)/\(∀n∈t.nodes,∀a∈n.attrs,∀s∈a.names,s.size<=40)/\∀e∈t.ah,e.name.size<=40)
 ⟨λ⟨a,b,c,d,e,f,g,h⟩=>⟨a,b,c,d,e,f,g,h⟩,λ⟨a,b,c,d,e,f,g,h⟩=>⟨a,b,c,d,e,f,g,h⟩⟩
instance(t:Types):Decidable (OkT t):=decidable_of_iff (iq t/\0<t.nodes.length/\t.nodes.length<=12/\t.ah.length<=20/\(∀j,j<t.nodes.length->k9 t j=0)/\∀j,j<t.ah.length->nX t j=0)
 ⟨λ⟨a,b,c,d,e,f⟩=>⟨a,b,c,d,e,f⟩,λ⟨a,b,c,d,e,f⟩=>⟨a,b,c,d,e,f⟩⟩
instance(g:bE):Decidable (auv g):=decidable_of_iff (g.nodes.length<=45/\g.ah.length<=90) ⟨λ⟨a,b⟩=>⟨a,b⟩,λ⟨a,b⟩=>⟨a,b⟩⟩
instance(g:bE):Decidable (alv g):=decidable_of_iff (g.nodes.length<=1000/\g.ah.length<=1000) ⟨λ⟨a,b⟩=>⟨a,b⟩,λ⟨a,b⟩=>⟨a,b⟩⟩
instance(h:Host):Decidable (aBH h):=decidable_of_iff (auv h.graph/\h.values.length<=45/\∀l∈h.values,l.length<=12) ⟨λ⟨a,b,c⟩=>⟨a,b,c⟩,λ⟨a,b,c⟩=>⟨a,b,c⟩⟩
instance(h:Host):Decidable (vF h):=decidable_of_iff (alv h.graph/\h.values.length<=1000/\∀l∈h.values,l.length<=1000) ⟨λ⟨a,b,c⟩=>⟨a,b,c⟩,λ⟨a,b,c⟩=>⟨a,b,c⟩⟩
end Go.Proofs.YteambpeibacfpaaGreat
namespace Go.Proofs
open Go.Shelf
shelf_tried
end Go.Proofs
namespace Go.b7
open Go.RowKit
variable{P:Program}
theorem tG.len:∀ {ps' ps:List PV},tG ps' ps->ps'.length=ps.length
 | [],[],_=>rfl
 | [],_ :: _,h=>h.elim
 |_ :: _,[],h=>h.elim
 |_ :: _,_ :: _,h=>by simp[tG.len h.2]
theorem tG.at:∀ {ps' ps:List PV},tG ps' ps->∀ {j:Nat} {c:PV},ps[j]? = some c->∃c',ps'[j]? = some c'/\PLe c' c
 | [],[],_,_,_,h=>by simp at h
 | [],_ :: _,h,_,_,_=>h.elim
 |_ :: _,[],h,_,_,_=>h.elim
 |a :: r,b :: s,h,j,c,hc=>by
  cases j with
  |zero=>simp at hc;subst hc;exact⟨a,rfl,h.1⟩
  |succ j=>obtain⟨c',h1,h2⟩:=tG.at h.2 (j:=j) (c:=c) (by simpa using hc);exact⟨c',by simpa using h1,h2⟩
theorem PLe.agg{ps' ps:List PV}(h:tG ps' ps):PLe (.agg ps') (.agg ps):=λI v hv=>by
 cases hv with
 |agg us _ hl hv hone=>refine .agg us ps (hl.trans h.len) (λj u c hu hc=>?_) hone;obtain⟨c',h1,h2⟩:=h.at hc;exact h2 I u (hv j u c' hu h1)
theorem PLe.dH{ps' ps:List PV}(h:tG ps' ps):PLe (.dH ps') (.dH ps):=λI v hv=>by
 cases hv with
 |dH us _ hl hv=>refine .dH us ps (hl.trans h.len) (λj u c hu hc=>?_);obtain⟨c',h1,h2⟩:=h.at hc;exact h2 I u (hv j u c' hu h1)
theorem tG.refl:∀ps:List PV,tG ps ps
 | []=>trivial
 |a :: r=>⟨PLe.refl a,tG.refl r⟩
theorem aD.le{f:FuncId}{args:List PV}{Q Q':PV->Prop}(h:aD P f args Q)(hq:∀r,Q r->∃r',PLe r r'/\Q' r'):aD P f args Q' :=
 ⟨h.1,λI w vs hI hv=>(h.2 I w vs hI hv).mono λ_ _ ⟨v,r,I',h1,h2,h3,h4⟩=>by
  obtain⟨r',h5,h6⟩:=hq r h2;exact⟨v,r',I',h1,h6,h5 _ _ h3,h4⟩⟩
end Go.b7
namespace Go.b7
open Go.RowKit
variable{P:Program}
structure alw(w w':World)(hdr:Value)(n:Nat)(vs:List Value):Prop where
 grown:w.grownBy w' hdr.ownBlock
 row:∀g,hdr.ownBlock=some g->∀cur e,w.heap[g]? = some (.cells cur e (0,0))->n<=cur.size->∃cur',w'.heap[g]? = some (.cells cur' e (0,0))/\cur'.size=cur.size/\cur'.toList.take n=vs
theorem auA{f:FuncId}{v:Nat}{e:TypeId}{sz:Nat}{es es':List (List PV)}{ps:List PV}{ws:List Value}(hc:gA P f=true)(hlen:es'.length=es.length)(hsz:∀x∈es',x.length=sz)
  (hfl:es'.flatten=ws.map PV.val) (hone:∀u∈ws,u.oneCell'=true)
  (h:∀ (B:Nat) (I:Mem) (w:World) (hdr:Value) (us vs:List Value),B<=w.heap.size->I.inW w->qK w B I hdr e sz es us->hdr.oneCell'=true->VRs I vs ps ->
   Calls P f (hdr :: vs).toArray w λx w'=>x = .returned (.tuple #[])/\alw w w' hdr (es.length * sz) ws) :
  mb P f v e sz es ps (λa c=>a = .dH []/\c=some (.row v e sz es')):=by
 refine⟨hc,λB I w hdr us vs hB hI hr h1 hv=>(h B I w hdr us vs hB hI hr h1 hv).mono ?_⟩;rintro x w' ⟨rfl,hg,hrow⟩;let L:bA:=λi=>if i=1000000 then some (.row v hdr sz) else none
 have hL:∀i l,L i=some l->i=1000000/\l = .row v hdr sz:=λi l h=>by
  simp only[L] at h;split at h
  ·rename_i hi;exact⟨hi,by simpa using h.symm⟩
  ·cases h
 have hwl:ws.length=es.length * sz:=by have h2:=bJ hsz;rw[hfl,length_map,hlen] at h2;exact h2
 have hblk:∀b,hdr.ownBlock=some b->B<=b/\b<w.heap.size:=λb hb=>td hr.own hb
 refine⟨.tuple #[],.dH [],br ct 1000000 (.row v e sz es'),I,L,rfl,⟨rfl,by simp[br]⟩,.dH [] [] rfl (by simp),?_⟩;exact
 {below:=⟨hg.os,hg.tape,hg.output,hg.size,λk hk=>hg.block k (lt_of_lt_of_le hk hB) λhb=>by have:=(hblk k hb.symm).1;have:k<B:=hk;omega⟩
  mem:=hI.keep λb ⟨o,u,hu⟩=>hg.block b (hI.lt hu) λhb=>by rw[hr.free b hb.symm o] at hu;cases hu
  lW:=Mem.eA I
  mS:=λ_ _ _ _=>rfl
  frame:=λb hb hn=>hg.block b hb λhb'=>hn hb'.symm
  loc:=dS.refl _
  jO:=λid l b hl hb=>by obtain⟨_,rfl⟩:=hL id l hl;exact .inr hb
  size:=rfl
  env:=λt=>.dead _
  dom:=λi l hl=>by obtain⟨rfl,rfl⟩:=hL i l hl;exact⟨.row v e sz es',by simp[br]⟩
  chunk:=λi ch hch=>by
   by_cases hi:i=1000000
   ·subst hi;have:Chunk.row v e sz es'=ch:=by simpa[br] using hch
    subst this;refine⟨hdr,ws,by simp[L],⟨by rw[hlen];exact hwl,?_⟩,hr.pos,hsz,λj u c hu hc=>?_,hone,hr.free⟩
    ·rcases hr.own.2 with ⟨e1,e2⟩|⟨g,cap,cur,rfl,g1,g2,g3,g4,g5,g6⟩
     ·exact .inl ⟨e1,by rw[hlen];exact e2⟩
     ·obtain⟨cur',k1,k2,k3⟩:=hrow g rfl cur e g2 (by rw[g5];exact mul_le_mul_right sz g3);exact .inr ⟨g,cap,cur',by rw[hlen],g1,k1,by rw[hlen];exact g3,g4,by rw[k2];exact g5,by rw[hlen];exact k3⟩
    ·rw[hfl] at hc;simp only[getElem?_map,hu,map_some,cC] at hc;subst hc;exact .val u (hone u (mem_of_getElem? hu))
   ·have:ct i=some ch:=by simpa[br,hi] using hch
    cases this
  fT:=λi l b hl hb=>by obtain⟨rfl,rfl⟩:=hL i l hl;have:=hblk b hb;exact⟨this.1,lt_of_lt_of_le this.2 hg.size⟩
  apart:=λi j li lj b hi hj _ _=>by rw[(hL i li hi).1,(hL j lj hj).1] }
end Go.b7
namespace Go.b7
open Go.RowKit
variable{P:Program}
def zk(hdr:Value)(n:Nat):Value:=match hdr with
 | .slice a _ cap=>.slice a n cap
 |v=>v
theorem aqC{f:FuncId}{v:Nat}{e:TypeId}{sz:Nat}{es es':List (List PV)}{ps:List PV}{ws:List Value}(hc:gA P f=true)(hlen:es'.length<=es.length)(hsz:∀x∈es',x.length=sz)
  (hfl:es'.flatten=ws.map PV.val) (hone:∀u∈ws,u.oneCell'=true)
  (h:∀ (B:Nat) (I:Mem) (w:World) (hdr:Value) (us vs:List Value),B<=w.heap.size->I.inW w->qK w B I hdr e sz es us->hdr.oneCell'=true->VRs I vs ps ->
   Calls P f (hdr :: vs).toArray w λx w'=>x = .returned (zk hdr es'.length)/\alw w w' hdr (es'.length * sz) ws) :
  mb P f v e sz es ps (λa c=>a = .row 1000000 (v+1)/\c=some (.row (v+1) e sz es')):=by
 refine⟨hc,λB I w hdr us vs hB hI hr h1 hv=>(h B I w hdr us vs hB hI hr h1 hv).mono ?_⟩;rintro x w' ⟨rfl,hg,hrow⟩;have hwl:ws.length=es'.length * sz:=by have h2:=bJ hsz;rw[hfl,length_map] at h2;exact h2
 have hbl:(zk hdr es'.length).ownBlock=hdr.ownBlock:=by rcases hr.own.2 with ⟨rfl,_⟩|⟨g,cap,cur,rfl,_⟩<;>rfl
 have uq:(zk hdr es'.length).oneCell'=true:=by rcases hr.own.2 with ⟨rfl,_⟩|⟨g,cap,cur,rfl,_⟩<;>rfl
 let L:bA:=λi=>if i=1000000 then some (.row (v+1) (zk hdr es'.length) sz) else none
 have hL:∀i l,L i=some l->i=1000000/\l = .row (v+1) (zk hdr es'.length) sz:=λi l h=>by
  simp only[L] at h;split at h
  ·rename_i hi;exact⟨hi,by simpa using h.symm⟩
  ·cases h
 have hblk:∀b,hdr.ownBlock=some b->B<=b/\b<w.heap.size:=λb hb=>td hr.own hb
 refine⟨zk hdr es'.length,.row 1000000 (v+1),br ct 1000000 (.row (v+1) e sz es'),I,L,rfl,⟨rfl,by simp[br]⟩,.row _ 1000000 (v+1) (v+1) (zk hdr es'.length) sz (by simp[L]) (le_refl _) (λ_=>rfl) uq,?_⟩;exact
 {below:=⟨hg.os,hg.tape,hg.output,hg.size,λk hk=>hg.block k (lt_of_lt_of_le hk hB) λhb=>by have:=(hblk k hb.symm).1;have:k<B:=hk;omega⟩
  mem:=hI.keep λb ⟨o,u,hu⟩=>hg.block b (hI.lt hu) λhb=>by rw[hr.free b hb.symm o] at hu;cases hu
  lW:=Mem.eA I
  mS:=λ_ _ _ _=>rfl
  frame:=λb hb hn=>hg.block b hb λhb'=>hn hb'.symm
  loc:=λi=>by
   by_cases hi:i=1000000
   ·subst hi;simp only[Ctx.ao4,if_true];exact⟨v+1,zk hdr es'.length,by simp[L],by omega,λe=>by omega⟩
   ·simp only[Ctx.ao4,if_neg hi]
  jO:=λid l b hl hb=>by obtain⟨_,rfl⟩:=hL id l hl;exact .inr (show hdr.ownBlock=some b from hbl ▸ hb)
  size:=rfl
  env:=λt=>.dead _
  dom:=λi l hl=>by obtain⟨rfl,rfl⟩:=hL i l hl;exact⟨.row (v+1) e sz es',by simp[br]⟩
  chunk:=λi ch hch=>by
   by_cases hi:i=1000000
   ·subst hi;have:Chunk.row (v+1) e sz es'=ch:=by simpa[br] using hch
    subst this;refine⟨zk hdr es'.length,ws,by simp[L],⟨hwl,?_⟩,hr.pos,hsz,λj u c hu hc=>?_,hone,λb hb=>hr.free b (hbl ▸ hb)⟩
    ·rcases hr.own.2 with ⟨e1,e2⟩|⟨g,cap,cur,rfl,g1,g2,g3,g4,g5,g6⟩
     ·have h0:es'.length=0:=by omega
      exact .inl ⟨by rw[e1,h0];rfl,h0⟩
     ·obtain⟨cur',k1,k2,k3⟩:=hrow g rfl cur e g2 (by rw[g5];exact mul_le_mul_right sz (by omega));exact .inr ⟨g,cap,cur',rfl,g1,k1,by omega,g4,by rw[k2];exact g5,k3⟩
    ·rw[hfl] at hc;simp only[getElem?_map,hu,map_some,cC] at hc;subst hc;exact .val u (hone u (mem_of_getElem? hu))
   ·have:ct i=some ch:=by simpa[br,hi] using hch
    cases this
  fT:=λi l b hl hb=>by obtain⟨rfl,rfl⟩:=hL i l hl;have:=hblk b (hbl ▸ hb);exact⟨this.1,lt_of_lt_of_le this.2 hg.size⟩
  apart:=λi j li lj b hi hj _ _=>by rw[(hL i li hi).1,(hL j lj hj).1] }
end Go.b7
namespace Go.SortM
open Go.b7 Go.RowKit Go.Shelf Go.Sort Go.Proofs
variable{P:Program}{ρ:Ren}
def encN(n:Int):List PV:=[.val (.int .i64 n)]
theorem flat_encN(d:List Int):(d.map encN).flatten=(d.map (Value.int .i64)).map .val:=by
 induction d with
 |nil=>rfl
 |cons x r ih=>rw[map_cons,flatten_cons,ih];rfl
theorem one_ints(d:List Int):∀u∈d.map (Value.int .i64),u.oneCell'=true:=λu hu=>by obtain⟨y,_,rfl⟩:=mem_map.1 hu;rfl
theorem us_ints{w:World}{B:Nat}{I:Mem}{hdr:Value}{e:TypeId}{d:List Int}{us:List Value}(hr:qK w B I hdr e 1 (d.map encN) us):us=d.map (Value.int .i64):=by
 have hl:us.length=(d.map (Value.int .i64)).length:=by have h2:=hr.own.1;simp only[length_map] at h2 ⊢;omega
 apply ext_getElem hl;intro j j1 j2;have:=hr.val j us[j] (.val (d.map (Value.int .i64))[j]) (getElem?_eq_getElem j1) (by rw[flat_encN];simp[j2]);generalize us[j]=u,(d.map (Value.int .i64))[j]=u' at this;cases this;rfl
theorem holds_row{w:World}{B:Nat}{I:Mem}{g n cap:Nat}{e:TypeId}{d:List Int}{us:List Value}{cur:Array Value}(hr:qK w B I (.slice (some ⟨g,0,none⟩) n cap) e 1 (d.map encN) us)(hg:w.heap[g]? = some (.cells cur e (0,0)))
  (ht:cur.toList.take ((d.map encN).length * 1)=us):Holds (Value.int .i64) w g 0 d.toArray:=by
 refine holds_of_blockI hg ?_;rw[us_ints hr] at ht;simpa using ht
theorem callM_sortInt(L:Lays.n189 P ρ)(hc:gA P (ρ.f 189)=true)(d:List Int)(hd:d.length<4611686018427387904)(v:Nat)(e:TypeId) :
  mb P (ρ.f 189) v e 1 (d.map encN) [] (λa c=>a = .dH []/\c=some (.row v e 1 ((d.mergeSort λx y=>decide (x<=y)).map encN))):=by
 have hlen:(d.mergeSort λx y=>decide (x<=y)).length=d.length:=length_mergeSort _;refine auA (ws:=(d.mergeSort λx y=>decide (x<=y)).map (Value.int .i64)) hc (by simp[hlen]) (λx hx=>?_) (flat_encN _) (one_ints _) ?_
 ·obtain⟨y,_,rfl⟩:=mem_map.1 hx;rfl
 intro B I w hdr us vs hB hI hr hone hv;have hvs:vs=[]:=length_eq_zero_iff.1 (by simpa using hv.1);subst hvs;rcases hr.own.2 with ⟨rfl,hn⟩|⟨g,cap,cur,rfl,g1,g2,g3,g4,g5,g6⟩
 ·have hd0:d=[]:=by simpa using hn
  subst hd0;refine (Any.slices_Sort_int_none L none 0 w).mono ?_;rintro x w' ⟨rfl,rfl⟩;exact⟨rfl,⟨rfl,rfl,rfl,le_refl _,λ_ _ _=>rfl⟩,λg hg=>by cases hg⟩
 ·have hH:=holds_row hr g2 g6;have hb:g<w.heap.size:=(Array.getElem?_eq_some_iff.1 g2).1;have ajX:=calls_of_every_depth λD=>AnyS.slices_Sort_int_alone L D g 0 cap d w hH hb hd
  have hn:(d.map encN).length=d.length:=length_map _;rw[hn];refine ajX.mono ?_;rintro x w' ⟨rfl,n,os,rfl⟩;refine⟨rfl,grownBy_sortedI _,λg' hg cur' e' hg' hle=>?_⟩;have:g=g':=by simpa[Value.ownBlock] using hg
  subst this;refine⟨_,heap_sortedI _ hg',by simp[putCells],?_⟩;have h3:=take_putCellsI cur' (d.mergeSort λx y=>decide (x<=y)) (by omega);rw[hlen] at h3;simpa using h3
theorem heap_putI{w:World}{g n:Nat}{cur:Array Value}{e:TypeId}{fr:Nat×Nat}(d:Array Int)(hb:w.heap[g]? = some (.cells cur e fr)) :
  (putRow (Value.int .i64) (Sort.ahead w n) g 0 d).heap[g]? = some (.cells (putCells (Value.int .i64) 0 d cur) e fr):=by
 simp[putRow,mapBlock,Sort.ahead,Array.getElem?_modify,hb,onCells]
theorem grownBy_putI{w:World}{g n:Nat}(d:Array Int):w.grownBy (putRow (Value.int .i64) (Sort.ahead w n) g 0 d) (some g):=by
 refine⟨rfl,rfl,rfl,by simp[putRow,mapBlock,Sort.ahead],λk hk hne=>?_⟩;have:g≠k:=λe=>hne (by rw[e])
 simp[putRow,mapBlock,Sort.ahead,Array.getElem?_modify,this]
theorem compact_le(d:List Int):(Lib.compact d).length<=d.length:=by unfold Lib.compact Lib.compactUpTo;rw[length_map];refine le_trans (length_filter_le _ _) ?_;simp
theorem callM_compactInt(L:Lays2.n20 P ρ)(hc:gA P (ρ.f 20)=true)(d:List Int)(hd:d.length<4611686018427387904)(v:Nat)(e:TypeId) :
  mb P (ρ.f 20) v e 1 (d.map encN) [] (λa c=>a = .row 1000000 (v+1)/\c=some (.row (v+1) e 1 ((Lib.compact d).map encN))):=by
 have hle:=compact_le d;refine aqC (ws:=(Lib.compact d).map (Value.int .i64)) hc (by simpa using hle) (λx hx=>?_) (flat_encN _) (one_ints _) ?_
 ·obtain⟨y,_,rfl⟩:=mem_map.1 hx;rfl
 intro B I w hdr us vs hB hI hr hone hv;have hvs:vs=[]:=length_eq_zero_iff.1 (by simpa using hv.1);subst hvs;have hn:(d.map encN).length=d.length:=length_map _;have hn':((Lib.compact d).map encN).length=(Lib.compact d).length:=length_map _;rcases hr.own.2 with ⟨rfl,h0⟩|⟨g,cap,cur,rfl,g1,g2,g3,g4,g5,g6⟩
 ·have hd0:d=[]:=by simpa using h0
  subst hd0;refine (Any.slices_Compact_int_empty L none 0 w).mono ?_;rintro x w' ⟨rfl,rfl⟩;exact⟨rfl,⟨rfl,rfl,rfl,le_refl _,λ_ _ _=>rfl⟩,λg hg=>by cases hg⟩
 ·have hH:=holds_row hr g2 g6;rw[hn] at g3 g6;rw[hn,hn'];refine (Any.slices_Compact_int L g 0 cap d w hH (by omega) g3).mono ?_;rintro x w' ⟨rfl,q,rfl⟩;refine⟨rfl,grownBy_putI _,λg' hg cur' e' hg' hle'=>?_⟩;have:g=g':=by simpa[Value.ownBlock] using hg
  subst this;have e0:cur=cur'/\e=e':=by rw[g2] at hg';simpa using hg'
  obtain⟨rfl,rfl⟩:=e0;refine⟨_,heap_putI _ hg',by simp[putCells],?_⟩;have hl2:(Lib.compact d++replicate (d.length-(Lib.compact d).length) 0).length=d.length:=by simp;omega
  have h3:=take_putCellsI cur (Lib.compact d++replicate (d.length-(Lib.compact d).length) 0) (by rw[hl2,g5];omega);rw[hl2] at h3;have h4:=congrArg (take (Lib.compact d).length) h3;rw[take_take,min_eq_left hle,map_append,take_left' (by simp)] at h4;simpa using h4
end Go.SortM
namespace Go.Proofs
open Go.Shelf
def YteambpeibacfpaaGreat.anM:Go.Shelf.Ren:=⟨λ| 189=>320|125=>213|257=>337|128=>263|129=>264|294=>346|295=>347|296=>348|297=>349|298=>350|299=>351|216=>241|300=>352|301=>353|328=>356|329=>311|330=>312|331=>357|332=>358|215=>254|343=>361|n=>n,λ| 28=>26|3=>3|46=>267|0=>0|51=>318|53=>321|4=>4|183=>334|182=>333|131=>256|5=>5|9=>9|218=>377|222=>381|228=>396|229=>354|n=>n,λ| n=>n⟩
theorem YteambpeibacfpaaGreat.sortInt:Go.Proofs.Lays.n189 pw YteambpeibacfpaaGreat.anM:={
 mixed:=by kernel_rfl
 f125:=Tryz.func213.trans (congrArg some (by kernel_rfl))
 f128:=Tryz.func263.trans (congrArg some (by kernel_rfl))
 f129:=Tryz.func264.trans (congrArg some (by kernel_rfl))
 f189:=Tryz.func320.trans (congrArg some (by kernel_rfl))
 f215:=Tryz.func254.trans (congrArg some (by kernel_rfl))
 f216:=Tryz.func241.trans (congrArg some (by kernel_rfl))
 f257:=Tryz.func337.trans (congrArg some (by kernel_rfl))
 f294:=Tryz.func346.trans (congrArg some (by kernel_rfl))
 f295:=Tryz.func347.trans (congrArg some (by kernel_rfl))
 f296:=Tryz.func348.trans (congrArg some (by kernel_rfl))
 f297:=Tryz.func349.trans (congrArg some (by kernel_rfl))
 f298:=Tryz.func350.trans (congrArg some (by kernel_rfl))
 f299:=Tryz.func351.trans (congrArg some (by kernel_rfl))
 f300:=Tryz.func352.trans (congrArg some (by kernel_rfl))
 f301:=Tryz.func353.trans (congrArg some (by kernel_rfl))
 f328:=Tryz.func356.trans (congrArg some (by kernel_rfl))
 f329:=Tryz.func311.trans (congrArg some (by kernel_rfl))
 f330:=Tryz.func312.trans (congrArg some (by kernel_rfl))
 f331:=Tryz.func357.trans (congrArg some (by kernel_rfl))
 f332:=Tryz.func358.trans (congrArg some (by kernel_rfl))
 f343:=Tryz.func361.trans (congrArg some (by kernel_rfl))
 t0:=underlying0
 a0:=isAgg0
 z0:=sizeOf0
 v0:=zeroValue0
 t3:=underlying3
 a3:=isAgg3
 z3:=sizeOf3
 v3:=zeroValue3
 t4:=underlying4
 a4:=isAgg4
 z4:=sizeOf4
 v4:=zeroValue4
 t5:=underlying5
 a5:=isAgg5
 z5:=sizeOf5
 v5:=zeroValue5
 t9:=underlying9
 a9:=isAgg9
 z9:=sizeOf9
 v9:=zeroValue9
 t28:=underlying26
 a28:=isAgg26
 z28:=sizeOf26
 v28:=zeroValue26
 t46:=underlying267
 a46:=isAgg267
 z46:=sizeOf267
 v46:=zeroValue267
 t51:=underlying318
 a51:=isAgg318
 z51:=sizeOf318
 v51:=zeroValue318
 t53:=underlying321
 a53:=isAgg321
 z53:=sizeOf321
 v53:=zeroValue321
 t131:=underlying256
 a131:=isAgg256
 z131:=sizeOf256
 v131:=zeroValue256
 t182:=underlying333
 a182:=isAgg333
 z182:=sizeOf333
 v182:=zeroValue333
 t183:=underlying334
 a183:=isAgg334
 z183:=sizeOf334
 v183:=zeroValue334
 t218:=underlying377
 a218:=isAgg377
 z218:=sizeOf377
 v218:=zeroValue377
 t222:=underlying381
 a222:=isAgg381
 z222:=sizeOf381
 v222:=zeroValue381
 t228:=underlying396
 a228:=isAgg396
 z228:=sizeOf396
 v228:=zeroValue396
 t229:=underlying354
 a229:=isAgg354
 z229:=sizeOf354
 v229:=zeroValue354 }
def YteambpeibacfpaaGreat.ahH:Go.Shelf.Ren:=⟨λ| 20=>283|n=>n,λ| 22=>26|3=>3|4=>4|0=>0|n=>n,λ| n=>n⟩
theorem YteambpeibacfpaaGreat.aqD:Go.Proofs.Lays2.n20 pw YteambpeibacfpaaGreat.ahH:={
 mixed:=by kernel_rfl
 f20:=Tryz.func283.trans (congrArg some (by kernel_rfl))
 t0:=underlying0
 a0:=isAgg0
 z0:=sizeOf0
 v0:=zeroValue0
 t3:=underlying3
 a3:=isAgg3
 z3:=sizeOf3
 v3:=zeroValue3
 t4:=underlying4
 a4:=isAgg4
 z4:=sizeOf4
 v4:=zeroValue4
 t22:=underlying26
 a22:=isAgg26
 z22:=sizeOf26
 v22:=zeroValue26
 i3:=by kernel_rfl }
def YteambpeibacfpaaGreat.ajf:Go.Shelf.Ren:=⟨λ| 6=>167|15=>213|14=>212|28=>263|29=>264|20=>255|21=>256|22=>257|23=>258|24=>259|25=>260|26=>261|27=>262|46=>310|47=>311|48=>312|49=>313|50=>314|57=>335|n=>n,λ| 22=>44|24=>96|25=>214|3=>3|39=>267|0=>0|53=>318|55=>321|4=>4|46=>334|45=>333|50=>256|5=>5|9=>9|66=>377|70=>381|76=>396|77=>354|n=>n,λ| n=>n⟩
theorem YteambpeibacfpaaGreat.auB:Go.Proofs.SlLaysF0.n6 pw YteambpeibacfpaaGreat.ajf:={
 mixed:=by kernel_rfl
 f6:=⟨Tryz.f167.name,by decide,Tryz.func167.trans (congrArg some (by kernel_rfl))⟩
 f14:=⟨Tryz.f212.name,by decide,Tryz.func212.trans (congrArg some (by kernel_rfl))⟩
 f15:=Tryz.func213.trans (congrArg some (by kernel_rfl))
 f20:=⟨Tryz.f255.name,by decide,Tryz.func255.trans (congrArg some (by kernel_rfl))⟩
 f21:=⟨Tryz.f256.name,by decide,Tryz.func256.trans (congrArg some (by kernel_rfl))⟩
 f22:=⟨Tryz.f257.name,by decide,Tryz.func257.trans (congrArg some (by kernel_rfl))⟩
 f23:=⟨Tryz.f258.name,by decide,Tryz.func258.trans (congrArg some (by kernel_rfl))⟩
 f24:=⟨Tryz.f259.name,by decide,Tryz.func259.trans (congrArg some (by kernel_rfl))⟩
 f25:=⟨Tryz.f260.name,by decide,Tryz.func260.trans (congrArg some (by kernel_rfl))⟩
 f26:=⟨Tryz.f261.name,by decide,Tryz.func261.trans (congrArg some (by kernel_rfl))⟩
 f27:=⟨Tryz.f262.name,by decide,Tryz.func262.trans (congrArg some (by kernel_rfl))⟩
 f28:=Tryz.func263.trans (congrArg some (by kernel_rfl))
 f29:=Tryz.func264.trans (congrArg some (by kernel_rfl))
 f46:=⟨Tryz.f310.name,by decide,Tryz.func310.trans (congrArg some (by kernel_rfl))⟩
 f47:=Tryz.func311.trans (congrArg some (by kernel_rfl))
 f48:=Tryz.func312.trans (congrArg some (by kernel_rfl))
 f49:=⟨Tryz.f313.name,by decide,Tryz.func313.trans (congrArg some (by kernel_rfl))⟩
 f50:=⟨Tryz.f314.name,by decide,Tryz.func314.trans (congrArg some (by kernel_rfl))⟩
 f57:=⟨Tryz.f335.name,by decide,Tryz.func335.trans (congrArg some (by kernel_rfl))⟩
 t0:=underlying0
 a0:=isAgg0
 z0:=sizeOf0
 v0:=zeroValue0
 t3:=underlying3
 a3:=isAgg3
 z3:=sizeOf3
 v3:=zeroValue3
 t4:=underlying4
 a4:=isAgg4
 z4:=sizeOf4
 v4:=zeroValue4
 t5:=underlying5
 a5:=isAgg5
 z5:=sizeOf5
 v5:=zeroValue5
 t9:=underlying9
 a9:=isAgg9
 z9:=sizeOf9
 v9:=zeroValue9
 t22:=underlying44
 a22:=isAgg44
 z22:=sizeOf44
 v22:=zeroValue44
 t25:=underlying214
 a25:=isAgg214
 z25:=sizeOf214
 v25:=zeroValue214
 t39:=underlying267
 a39:=isAgg267
 z39:=sizeOf267
 v39:=zeroValue267
 t45:=underlying333
 a45:=isAgg333
 z45:=sizeOf333
 v45:=zeroValue333
 t46:=underlying334
 a46:=isAgg334
 z46:=sizeOf334
 v46:=zeroValue334
 t50:=underlying256
 a50:=isAgg256
 z50:=sizeOf256
 v50:=zeroValue256
 t53:=underlying318
 a53:=isAgg318
 z53:=sizeOf318
 v53:=zeroValue318
 t55:=underlying321
 a55:=isAgg321
 z55:=sizeOf321
 v55:=zeroValue321
 t66:=underlying377
 a66:=isAgg377
 z66:=sizeOf377
 v66:=zeroValue377
 t70:=underlying381
 a70:=isAgg381
 z70:=sizeOf381
 v70:=zeroValue381
 t76:=underlying396
 a76:=isAgg396
 z76:=sizeOf396
 v76:=zeroValue396
 t77:=underlying354
 a77:=isAgg354
 z77:=sizeOf354
 v77:=zeroValue354 }
def YteambpeibacfpaaGreat.ajg:Go.Shelf.Ren:=⟨λ| 6=>168|15=>213|14=>214|28=>263|29=>264|20=>265|21=>266|22=>267|23=>268|24=>269|25=>270|26=>271|27=>272|46=>315|47=>311|48=>312|49=>316|50=>317|57=>336|n=>n,λ| 22=>45|24=>125|25=>216|3=>3|39=>267|0=>0|53=>318|55=>321|4=>4|46=>334|45=>333|50=>256|5=>5|9=>9|66=>377|70=>381|76=>396|77=>354|n=>n,λ| n=>n⟩
theorem YteambpeibacfpaaGreat.auC:Go.Proofs.SlLaysF0.n6 pw YteambpeibacfpaaGreat.ajg:={
 mixed:=by kernel_rfl
 f6:=⟨Tryz.f168.name,by decide,Tryz.func168.trans (congrArg some (by kernel_rfl))⟩
 f14:=⟨Tryz.f214.name,by decide,Tryz.func214.trans (congrArg some (by kernel_rfl))⟩
 f15:=Tryz.func213.trans (congrArg some (by kernel_rfl))
 f20:=⟨Tryz.f265.name,by decide,Tryz.func265.trans (congrArg some (by kernel_rfl))⟩
 f21:=⟨Tryz.f266.name,by decide,Tryz.func266.trans (congrArg some (by kernel_rfl))⟩
 f22:=⟨Tryz.f267.name,by decide,Tryz.func267.trans (congrArg some (by kernel_rfl))⟩
 f23:=⟨Tryz.f268.name,by decide,Tryz.func268.trans (congrArg some (by kernel_rfl))⟩
 f24:=⟨Tryz.f269.name,by decide,Tryz.func269.trans (congrArg some (by kernel_rfl))⟩
 f25:=⟨Tryz.f270.name,by decide,Tryz.func270.trans (congrArg some (by kernel_rfl))⟩
 f26:=⟨Tryz.f271.name,by decide,Tryz.func271.trans (congrArg some (by kernel_rfl))⟩
 f27:=⟨Tryz.f272.name,by decide,Tryz.func272.trans (congrArg some (by kernel_rfl))⟩
 f28:=Tryz.func263.trans (congrArg some (by kernel_rfl))
 f29:=Tryz.func264.trans (congrArg some (by kernel_rfl))
 f46:=⟨Tryz.f315.name,by decide,Tryz.func315.trans (congrArg some (by kernel_rfl))⟩
 f47:=Tryz.func311.trans (congrArg some (by kernel_rfl))
 f48:=Tryz.func312.trans (congrArg some (by kernel_rfl))
 f49:=⟨Tryz.f316.name,by decide,Tryz.func316.trans (congrArg some (by kernel_rfl))⟩
 f50:=⟨Tryz.f317.name,by decide,Tryz.func317.trans (congrArg some (by kernel_rfl))⟩
 f57:=⟨Tryz.f336.name,by decide,Tryz.func336.trans (congrArg some (by kernel_rfl))⟩
 t0:=underlying0
 a0:=isAgg0
 z0:=sizeOf0
 v0:=zeroValue0
 t3:=underlying3
 a3:=isAgg3
 z3:=sizeOf3
 v3:=zeroValue3
 t4:=underlying4
 a4:=isAgg4
 z4:=sizeOf4
 v4:=zeroValue4
 t5:=underlying5
 a5:=isAgg5
 z5:=sizeOf5
 v5:=zeroValue5
 t9:=underlying9
 a9:=isAgg9
 z9:=sizeOf9
 v9:=zeroValue9
 t22:=underlying45
 a22:=isAgg45
 z22:=sizeOf45
 v22:=zeroValue45
 t25:=underlying216
 a25:=isAgg216
 z25:=sizeOf216
 v25:=zeroValue216
 t39:=underlying267
 a39:=isAgg267
 z39:=sizeOf267
 v39:=zeroValue267
 t45:=underlying333
 a45:=isAgg333
 z45:=sizeOf333
 v45:=zeroValue333
 t46:=underlying334
 a46:=isAgg334
 z46:=sizeOf334
 v46:=zeroValue334
 t50:=underlying256
 a50:=isAgg256
 z50:=sizeOf256
 v50:=zeroValue256
 t53:=underlying318
 a53:=isAgg318
 z53:=sizeOf318
 v53:=zeroValue318
 t55:=underlying321
 a55:=isAgg321
 z55:=sizeOf321
 v55:=zeroValue321
 t66:=underlying377
 a66:=isAgg377
 z66:=sizeOf377
 v66:=zeroValue377
 t70:=underlying381
 a70:=isAgg381
 z70:=sizeOf381
 v70:=zeroValue381
 t76:=underlying396
 a76:=isAgg396
 z76:=sizeOf396
 v76:=zeroValue396
 t77:=underlying354
 a77:=isAgg354
 z77:=sizeOf354
 v77:=zeroValue354 }
end Go.Proofs
namespace Go.b7
open Go.RowKit
variable{P:Program}{w:World}{H:Type}{enc:TypeId×Value->H}
def sG(w:World)(cs:List Value)(ps:List PV):Prop:=cs.length=ps.length/\(∀ (j:Nat) u c,cs[j]? = some u->ps[j]? = some c->VR (snap w) u c)/\∀u∈cs,u.oneCell'=true
def ayE(P:Program)(t:TypeId)(d:DataW H):Prop:=∀n∈d.weights P t,n<=reachBytes
structure me(P:Program)(w:World){H:Type}(enc:TypeId×Value->H){α:Type}(t:TypeId)(sz:Nat)(e:α->List PV)(G:α->Prop):Prop where
 len:∀a,(e a).length=sz
 dec:∀ (sp:Nat->Bool) (hd:Bool) (fuel:Nat) (cs:List Value) (x:DataW H×List MemPlace),DataW.trod enc P w 0 sp hd fuel t cs=some x->ayE P t x.1->∃a,G a/\sG w cs (e a)
theorem sG.one{u:Value}{p:PV}(h:VR (snap w) u p)(h1:u.oneCell'=true):sG w [u] [p] :=
 ⟨rfl,λj u' c hu hc=>by
  cases j with
  |zero=>simp at hu hc;subst hu hc;exact h
  |succ j=>simp at hu,λu' hu=>by simp at hu;subst hu;exact h1⟩
theorem me.int{t:TypeId}(ht:P.underlying t=some (.int .i64)):me P w enc t 1 (λn:Int=>[.val (.int .i64 n)]) (λ_=>True) :=
 ⟨λ_=>rfl,λsp hd fuel cs x h _=>by
  obtain⟨n,rfl,_⟩:=DataW.trod_int ht h;exact⟨n,trivial,.one (.val _ rfl) rfl⟩⟩
theorem me.str{t:TypeId}(ht:P.underlying t=some .string):me P w enc t 1 (λs:ByteArray=>[.val (.string s)]) (λ_=>True) :=
 ⟨λ_=>rfl,λsp hd fuel cs x h _=>by
  obtain⟨n,rfl,_⟩:=DataW.trod_string ht h;exact⟨n,trivial,.one (.val _ rfl) rfl⟩⟩
theorem me.bool{t:TypeId}(ht:P.underlying t=some .bool):me P w enc t 1 (λb:Bool=>[.val (.bool b)]) (λ_=>True) :=
 ⟨λ_=>rfl,λsp hd fuel cs x h _=>by
  obtain⟨n,rfl,_⟩:=DataW.trod_bool ht h;exact⟨n,trivial,.one (.val _ rfl) rfl⟩⟩
theorem me.map{α β:Type}{t:TypeId}{sz:Nat}{e:α->List PV}{G:α->Prop}{e':β->List PV}{G':β->Prop}(g:α->β)(f:β->α)(hgf:∀b,e (f b)=e' b)(hg:∀a,e' (g a)=e a)(hG:∀a,G a->G' (g a))(h:me P w enc t sz e G):me P w enc t sz e' G' :=
 ⟨λb=>by rw[<-hgf];exact h.len _,λsp hd fuel cs x hx hw=>by
  obtain⟨a,h1,h2⟩:=h.dec sp hd fuel cs x hx hw;exact⟨g a,hG a h1,by rw[hg];exact h2⟩⟩
theorem vG{e:TypeId} : ∀ {ds:List (DataW H)} {d:DataW H},d∈ds->∀n∈d.weights P e,n∈DataW.weightsAll P e ds
 |d0 :: r,d,hd,n,hn=>by
  rw[DataW.weightsAll,mem_append];rcases mem_cons.1 hd with rfl|h
  ·exact .inl hn
  ·exact .inr (vG h n hn)
theorem mapM_some{α β:Type}{f:α->Option β} : ∀ {l:List α} {r:List β},l.mapM f=some r->r.length=l.length/\∀ (i:Nat) a,l[i]? = some a->r[i]? = f a:=by
 intro l
 induction l with
 |nil=>intro r h;simp at h;subst h;exact⟨rfl,by simp⟩
 |cons a l ih =>
  intro r h;rw[mapM_cons] at h;cases ha:f a with
  |none=>rw[ha] at h;cases h
  |some b =>
   rw[ha] at h;cases hl:l.mapM f with
   |none=>rw[hl] at h;cases h
   |some r' =>
    rw[hl] at h;have:r=b :: r':=by simpa using h.symm
    subst this;obtain⟨h1,h2⟩:=ih hl;refine⟨by simp[h1],λi x hx=>?_⟩;cases i with
    |zero=>simp at hx;subst hx;simp[ha]
    |succ i=>simpa using h2 i x (by simpa using hx)
theorem adL{a:Addr}{n:Nat}{cs:List Value}(h:w.cells? 0 a n=some cs):cs.length=n/\(∀ (i:Nat) u,cs[i]? = some u->w.cell? (a.add i)=some u):=by
 unfold World.cells? at h;rw[if_pos (zero_le _)] at h;obtain⟨h1,h2⟩:=mapM_some h;refine⟨by simpa using h1,λi u hu=>?_⟩;have hi:i<n:=by have:=(List.getElem?_eq_some_iff.1 hu).1;simpa[h1] using this
 rw[<-h2 i i (by simp[hi]),hu]
theorem auD{a:Addr}{u:Value}(h:w.cell? a=some u):a.spot=none:=by
 unfold World.cell? at h;split at h
 ·split at h
  ·cases h
  ·rename_i hs;cases hsp:a.spot with
   |none=>rfl
   |some _=>simp[hsp] at hs
 ·cases h
theorem af7{α:Type}{n:Nat}{Q:Nat->α->Prop}(h:∀i,i<n->∃a,Q i a):∃l:List α,l.length=n/\∀ (i:Nat) a,l[i]? = some a->Q i a:=by
 induction n with
 |zero=>exact⟨[],rfl,by simp⟩
 |succ n ih =>
  obtain⟨l,h1,h2⟩:=ih λi hi=>h i (by omega)
  obtain⟨a,ha⟩:=h n (by omega);refine⟨l++[a],by simp[h1],λi b hb=>?_⟩;rcases lt_or_ge i l.length with hi|hi
  ·rw[getElem?_append_left hi] at hb;exact h2 i b hb
  ·rw[getElem?_append_right hi] at hb;have:i-l.length=0:=by have:=(List.getElem?_eq_some_iff.1 hb).1;simp at this;omega
   rw[this] at hb;simp at hb;subst hb;have:i=n:=by omega
   subst this;exact ha
end Go.b7
namespace Go.b7
open Go.RowKit
theorem PLe.aL{es' es:List (List PV)}(hl:es'.map (·.length)=es.map (·.length))(hf:tG es'.flatten es.flatten):PLe (.aL es') (.aL es):=λI v hv=>by
 cases hv with
 |aL ao n cap _ us sz hn hsz hu hv hone hm hnil hcap =>
  have hlen:es'.length=es.length:=by have:=congrArg length hl;simpa using this
  refine .aL ao _ cap es us sz (by rw[<-hlen];exact hn) (λe he=>?_) (hu.trans hf.len) (λj u c hu hc=>?_) hone hm hnil hcap
  ·obtain⟨i,hi,rfl⟩:=getElem_of_mem he;have h1:(es'.map (·.length))[i]? = (es.map (·.length))[i]?:=by rw[hl]
   have hi':i<es'.length:=by omega
   simp only[getElem?_map,getElem?_eq_getElem hi,getElem?_eq_getElem hi',map_some,cC] at h1;rw[<-h1];exact hsz _ (pT hi')
  ·obtain⟨c',h1,h2⟩:=hf.at hc;exact h2 I u (hv j u c' hu h1)
variable{P:Program}{w:World}{H:Type}{enc:TypeId×Value->H}
theorem anN{a:Addr}(h:a.spot=none)(n:Nat):a.add n=⟨a.block,a.off+n,none⟩:=by
 obtain⟨b,o,s⟩:=a;simp only at h;subst h;unfold Addr.add;split
 ·rename_i hn;simp[hn]
 ·rfl
theorem anO{α:Type}{ec:α->List PV}{sz:Nat}(h0:0<sz)(hlen:∀a,(ec a).length=sz){a:Addr}{len cap:Nat}(hcap:len<=cap){l:List (α×List Value)}(hl:l.length=len)
  (h:∀ (i:Nat) (x:α×List Value),l[i]? = some x->w.cells? 0 (a.add (i * sz)) sz=some x.2/\sG w x.2 (ec x.1)):VR (snap w) (.slice (some a) len cap) (.aL ((l.map (·.1)).map ec)):=by
 have hall:∀e∈(l.map (·.1)).map ec,e.length=sz:=λe he=>by obtain⟨x,_,rfl⟩:=mem_map.1 he;exact hlen x
 have hcs:∀c∈l.map (·.2),c.length=sz:=λc hc=>by obtain⟨x,hx,rfl⟩:=mem_map.1 hc;obtain⟨i,hi⟩:=mem_iff_getElem?.1 hx;exact (adL (h i x hi).1).1
 have at':∀ (j:Nat) u,(l.map (·.2)).flatten[j]? = some u->∃x,l[j / sz]? = some x/\x.2[j % sz]? = some u:=λj u hu=>by have hj:j<(l.map (·.2)).flatten.length:=(List.getElem?_eq_some_iff.1 hu).1;rw[bJ hcs,length_map] at hj;have hd:j / sz<l.length:=(Nat.div_lt_iff_lt_mul h0).2 hj;have e2:=ic hcs (j / sz) (j % sz) (by simpa using hd) (mod_lt _ h0);rw[div_add_mod' j sz,hu] at e2;refine⟨l[j / sz],getElem?_eq_getElem hd,?_⟩;rw[e2];simp[hd]
 refine .aL (some a) len cap _ (l.map (·.2)).flatten sz (by simp[hl]) hall ?_ (λj u c hu hc=>?_) (λu hu=>?_) ?_ (by simp) hcap
 ·rw[bJ hcs,bJ hall];simp
 ·obtain⟨x,hx,hxu⟩:=at' j u hu;have hd:j / sz<l.length:=(List.getElem?_eq_some_iff.1 hx).1;have e2:=ic hall (j / sz) (j % sz) (by simpa using hd) (mod_lt _ h0);rw[div_add_mod' j sz,hc] at e2;have e3:((l.map (·.1)).map ec).getD (j / sz) []=ec x.1:=by
   have:l[j / sz]=x:=by have:=getElem?_eq_getElem hd;rw[hx] at this;exact (Option.some.inj this).symm
   simp[hd,this]
  rw[e3] at e2;exact (h _ x hx).2.2.1 _ u c hxu e2.symm
 ·obtain⟨c,hc,huc⟩:=mem_flatten.1 hu;obtain⟨x,hx,rfl⟩:=mem_map.1 hc;obtain⟨i,hi⟩:=mem_iff_getElem?.1 hx;exact (h i x hi).2.2.2 u huc
 ·by_cases hn:(l.map (·.2)).flatten=[]
  ·exact .inl hn
  ·right;have hpos:0<l.length:=by
    rcases Nat.eq_zero_or_pos l.length with h'|h'
    ·exact absurd (by rw[length_eq_zero_iff.1 h'];rfl) hn
    ·exact h'
   have hsp:a.spot=none:=by
    have hx:=h 0 l[0] (getElem?_eq_getElem hpos);obtain⟨k1,k2⟩:=adL hx.1;have h00:0<l[0].2.length:=by rw[k1];exact h0
    have:=k2 0 l[0].2[0] (getElem?_eq_getElem h00);have:=auD this;simpa[Addr.add] using this
   refine⟨a.block,a.off,?_,λj u hu=>?_⟩
   ·obtain⟨b,o,s⟩:=a;simp only at hsp;subst hsp;rfl
   ·obtain⟨x,hx,hxu⟩:=at' j u hu;have:=(adL (h _ x hx).1).2 _ u hxu;rw[anN hsp,anN rfl] at this;simp only at this;rw[Nat.add_assoc,div_add_mod' j sz] at this;exact this
theorem me.slice{α:Type}{t e:TypeId}{sz:Nat}{ec:α->List PV}{G:α->Prop}(ht:P.underlying t=some (.slice e))(hc:P.cellsOf e=sz)(h0:0<sz)(hb:0<P.bytesOf e)(he:me P w enc e sz ec G) :
  me P w enc t 1 (λl:List α=>[.aL (l.map ec)]) (λl=>(∀a∈l,G a)/\l.length<=reachBytes) :=
 ⟨λ_=>rfl,λsp hd fuel cs x h hw=>by
  rcases DataW.trod_slice ht h with ⟨rfl,rfl⟩|⟨a,len,cap,elems,rest,n,_,rfl,rfl,_,hle,_,hlen,hel,_,_⟩
  ·exact⟨[],⟨by simp,by simp⟩,.one (.aL none 0 0 [] [] 1 rfl (by simp) rfl (by simp) (by simp) (.inl rfl) (λ_=>⟨rfl,rfl⟩) (le_refl _)) rfl⟩
  ·have hwt:∀k,k∈((elems.map (·.1)).length+(rest.map (·.1)).length) * P.bytesOf e :: (DataW.weightsAll P e (elems.map (·.1))++DataW.weightsAll P e (rest.map (·.1)))->k<=reachBytes:=λk hk=>by refine hw k ?_;simp only[DataW.weights,ht];exact hk
   obtain⟨l,l1,l2⟩:=af7 (n:=len) (Q:=λi (x:α×List Value)=>G x.1/\w.cells? 0 (a.add (i * sz)) sz=some x.2/\sG w x.2 (ec x.1)) λi hi=>by
    have h1:=hel i hi;have hi':i<elems.length:=by omega
    rw[getElem?_eq_getElem hi',hc] at h1;obtain⟨cs',h2,h3⟩:=Option.bind_eq_some_iff.1 h1;obtain⟨b,h4,h5⟩:=he.dec sp hd n cs' _ h3 λk hk=>hwt k (mem_cons_of_mem _ (mem_append_left _ (vG (mem_map.2 ⟨elems[i],pT hi',rfl⟩) k hk)))
    exact⟨(b,cs'),h4,h2,h5⟩
   refine⟨l.map (·.1),⟨λb hb'=>?_,?_⟩,.one (anO h0 he.len hle l1 λi x hx=>(l2 i x hx).2) rfl⟩
   ·obtain⟨x,hx,rfl⟩:=mem_map.1 hb';obtain⟨i,hi⟩:=mem_iff_getElem?.1 hx;exact (l2 i x hi).1
   ·have:=hwt _ (mem_cons_self ..);rw[length_map,length_map,hlen] at this;rw[length_map,l1];exact le_trans (le_trans (Nat.le_add_right len rest.length) (Nat.le_mul_of_pos_right _ hb)) this⟩
structure ahI(P:Program)(w:World){H:Type}(enc:TypeId×Value->H){α:Type}(fs:List Field)(off sz:Nat)(e:α->List PV)(G:α->Prop):Prop where
 len:∀a,(e a).length=sz
 dec:∀ (sp:Nat->Bool) (hd:Bool) (n:Nat) (cs:List Value) (ds:List (DataW H)),ds.length=fs.length->cs.length=off+sz->(∀ (i:Nat) f,fs[i]? = some f->∃ps,DataW.trod enc P w 0 sp hd n f.type ((cs.drop f.offset).take (P.cellsOf f.type))=(ds[i]?).map λd=>(d,ps)) ->
  (∀k∈DataW.weightsEach P (fs.map (·.type)) ds,k<=reachBytes)->∃a,G a/\sG w (cs.drop off) (e a)
theorem ahI.nil(off:Nat):ahI P w enc [] off 0 (λ_:Unit=>[]) (λ_=>True) :=
 ⟨λ_=>rfl,λsp hd n cs ds _ hl _ _=>⟨(),trivial,by
  have:cs.drop off=[]:=drop_eq_nil_of_le (by omega);rw[this];exact⟨rfl,by simp,by simp⟩⟩⟩
theorem sG.append{cs ds:List Value}{ps qs:List PV}(h:sG w cs ps)(k:sG w ds qs):sG w (cs++ds) (ps++qs):=by
 refine⟨by simp[h.1,k.1],λj u c hu hc=>?_,λu hu=>?_⟩
 ·rcases lt_or_ge j cs.length with hj|hj
  ·rw[getElem?_append_left hj] at hu;rw[getElem?_append_left (by rw[<-h.1];exact hj)] at hc;exact h.2.1 j u c hu hc
  ·rw[getElem?_append_right hj] at hu;rw[getElem?_append_right (by rw[<-h.1];exact hj),<-h.1] at hc;exact k.2.1 _ u c hu hc
 ·rcases mem_append.1 hu with hu|hu
  ·exact h.2.2 u hu
  ·exact k.2.2 u hu
theorem ahI.cons{α β:Type}{f:Field}{fs:List Field}{off sz sz':Nat}{e:α->List PV}{G:α->Prop}{e':β->List PV}{G':β->Prop}(ho:f.offset=off)(hc:P.cellsOf f.type=sz)(h:me P w enc f.type sz e G)(hr:ahI P w enc fs (off+sz) sz' e' G') :
  ahI P w enc (f :: fs) off (sz+sz') (λx:α×β=>e x.1++e' x.2) (λx=>G x.1/\G' x.2) :=
 ⟨λx=>by rw[length_append,h.len,hr.len],λsp hd n cs ds hl hcs hall hw=>by
  match ds,hl with
  | [],hl=>simp at hl
  |d :: ds,hl =>
   rw[map_cons,DataW.weightsEach] at hw;obtain⟨ps,h0⟩:=hall 0 f rfl;simp only[getElem?_cons_zero,map_some] at h0;obtain⟨a,a1,a2⟩:=h.dec sp hd n _ _ h0 λk hk=>hw k (mem_append_left _ hk)
   obtain⟨b,b1,b2⟩:=hr.dec sp hd n cs ds (by simpa using hl) (by omega) (λi g hg=>by simpa using hall (i+1) g (by simpa using hg)) λk hk=>hw k (mem_append_right _ hk)
   refine⟨(a,b),⟨a1,b1⟩,?_⟩;have e1:cs.drop off=(cs.drop off).take sz++cs.drop (off+sz):=by rw[<-drop_drop,take_append_drop]
   rw[e1];rw[ho,hc] at a2;exact a2.append b2⟩
theorem me.struct{α:Type}{t:TypeId}{fs:Array Field}{sz:Nat}{e:α->List PV}{G:α->Prop}(ht:P.underlying t=some (.struct fs))(hc:P.cellsOf t=sz)(h:ahI P w enc fs.toList 0 sz e G):me P w enc t sz e G :=
 ⟨h.len,λsp hd fuel cs x hx hw=>by
  obtain⟨xs,n,_,rfl,hl,hxs,hf⟩:=DataW.trod_struct ht hx;obtain⟨a,a1,a2⟩:=h.dec sp hd n cs (xs.map (·.1)) (by simp[hxs]) (by rw[hl,hc,zero_add]) (λi f hi=>by
   have h1:=hf i f (by simpa using hi);have hlt:i<xs.length:=by have:=(List.getElem?_eq_some_iff.1 hi).1;rw[hxs];simpa using this
   refine⟨xs[i].2,?_⟩;rw[h1];simp[hlt]) λk hk=>hw k (by
    simp only[DataW.weights,ht];exact hk)
  exact⟨a,a1,by simpa using a2⟩⟩
end Go.b7
namespace Go.b7
open Go.RowKit
variable{P:Program}{w:World}{H:Type}{enc:TypeId×Value->H}
theorem me.aEM{t:TypeId}(k:IntKind)(ht:P.underlying t=some (.int k)):me P w enc t 1 (λn:Int=>[.val (.int k n)]) (λn=>k.min<=n/\n<=k.max) :=
 ⟨λ_=>rfl,λsp hd fuel cs x h _=>by
  obtain⟨n,rfl,_,hw⟩:=DataW.trod_int ht h;refine⟨n,?_,.one (.val _ rfl) rfl⟩;simpa[Lit.wf] using hw⟩
def aEN (e:TypeId) (off:Nat):Field:={ name := "",type:=e,offset:=off,embedded:=false,tag := "",pkgPath := "",byteOffset:=0 }
def ajY(n:Nat)(e:TypeId)(sz:Nat):List Field:=(range n).map λi=>aEN e (i * sz)
theorem aaC{e:TypeId} : ∀ (n:Nat) (ds:List (DataW H)),ds.length=n->DataW.weightsEach P (replicate n e) ds=DataW.weightsAll P e ds
 |0,[],_=>rfl
 |n+1,d :: r,h=>by rw[replicate_succ,DataW.weightsEach,DataW.weightsAll,aaC n r (by simpa using h)]
 |n+1,[],h=>by simp at h
 |0,d :: r,h=>by simp at h
theorem me.array{α:Type}{t e:TypeId}{n sz sz0:Nat}{ec:α->List PV}{G:α->Prop}(ht:P.underlying t=some (.array n e))(hc:P.cellsOf t=sz)(h0:P.cellsOf e=sz0)(h:ahI P w enc (ajY n e sz0) 0 sz ec G):me P w enc t sz ec G :=
 ⟨h.len,λsp hd fuel cs x hx hw=>by
  obtain⟨xs,m,_,rfl,hl,hxs,hf⟩:=DataW.trod_array ht hx;obtain⟨a,a1,a2⟩:=h.dec sp hd m cs (xs.map (·.1)) (by simp[hxs,ajY]) (by rw[hl,hc,zero_add]) (λi f hi=>by
   have hlt:i<n:=by have:=(List.getElem?_eq_some_iff.1 hi).1;simpa[ajY] using this
   have hfe:f=aEN e (i * sz0):=by simpa[ajY,hlt] using hi.symm
   subst hfe;have h1:=hf i hlt;refine⟨(xs[i]'(by omega)).2,?_⟩;subst h0;show DataW.trod enc P w 0 sp hd m e (take (P.cellsOf e) (drop (i * P.cellsOf e) cs))=_;rw[h1];simp[hxs,hlt]) λk hk=>hw k (by
    simp only[DataW.weights,ht];have e1:(ajY n e sz0).map (·.type)=replicate n e:=by unfold ajY;rw[map_map];exact (map_const' ..).trans (by rw[length_range])
    rw[e1,aaC n _ (by simp[hxs])] at hk;exact hk)
  exact⟨a,a1,by simpa using a2⟩⟩
end Go.b7
namespace Go.b7
open Go.ChangeShapes Go.WideShapes Go.ChangeAt Go.RowKit
variable{P:Program}{W:World}{H:Type}{enc:TypeId×Value->H}{α β:Type}
structure pM(P:Program)(W:World){H:Type}(enc:TypeId×Value->H){α:Type}(t:TypeId)(e:α->PV)(G:α->Prop):Prop where
 dec:∀b0 v d ps,Value.okWide P W .any b0 t v->DataW.Trod enc P W 0 (λ_=>true) true t v d ps->ayE P t d->∃a,G a/\VR (snap W) v (e a)
 read:P.readableRec t=true
 size:t<P.types.size
theorem pM.struct{t:TypeId}{fs:Array Field}{sz:Nat}{e:α->List PV}{G:α->Prop}(ht:P.underlying t=some (.struct fs))(ayF:me P W enc t sz e G)(hr:P.readableRec t=true)(hs:t<P.types.size):pM P W enc t (λa=>.agg (e a)) G :=
 ⟨λb0 v d ps hval h hw=>by
  unfold Value.okWide at hval;rw[ht] at hval;obtain⟨cs,rfl,_⟩:=hval;obtain⟨fuel,hf⟩:=h;obtain⟨a,h1,h2⟩:=ayF.dec _ _ fuel _ _ hf hw;refine⟨a,h1,?_⟩;have:VR (snap W) (.agg (cs.toList).toArray) (.agg (e a)):=.agg cs.toList (e a) h2.1 h2.2.1 h2.2.2;simpa using this,hr,hs⟩
theorem pM.array{t e':TypeId}{n sz:Nat}{e:α->List PV}{G:α->Prop}(ht:P.underlying t=some (.array n e'))(ayF:me P W enc t sz e G)(hr:P.readableRec t=true)(hs:t<P.types.size):pM P W enc t (λa=>.agg (e a)) G :=
 ⟨λb0 v d ps hval h hw=>by
  unfold Value.okWide at hval;rw[ht] at hval;obtain⟨cs,rfl,_⟩:=hval;obtain⟨fuel,hf⟩:=h;obtain⟨a,h1,h2⟩:=ayF.dec _ _ fuel _ _ hf hw;refine⟨a,h1,?_⟩;have:VR (snap W) (.agg (cs.toList).toArray) (.agg (e a)):=.agg cs.toList (e a) h2.1 h2.2.1 h2.2.2;simpa using this,hr,hs⟩
theorem pM.one{t:TypeId}{e:α->PV}{G:α->Prop}(ht:∀b0 v,Value.okWide P W .any b0 t v->v.cells.toList=[v])(ayF:me P W enc t 1 (λa=>[e a]) G)(hr:P.readableRec t=true)(hs:t<P.types.size):pM P W enc t e G :=
 ⟨λb0 v d ps hval h hw=>by
  obtain⟨fuel,hf⟩:=h;rw[ht b0 v hval] at hf;obtain⟨a,h1,h2⟩:=ayF.dec _ _ fuel _ _ hf hw;exact⟨a,h1,h2.2.1 0 v (e a) rfl rfl⟩,hr,hs⟩
theorem abp{t e:TypeId}(ht:P.underlying t=some (.slice e))(b0:Nat)(v:Value)(h:Value.okWide P W .any b0 t v):v.cells.toList=[v]:=by unfold Value.okWide at h;rw[ht] at h;unfold Cell.okWide at h;rw[ht] at h;unfold Cell.ok at h;rw[ht] at h;cases v<;>first|rfl|cases h
theorem af8:∀ {ts:List TypeId} {vs:List Value} {ds:List (DataW H)} {ps:List MemPlace},DataW.TrodAll enc P W 0 (λ_=>true) true ts vs ds ps->ds.length=ts.length
 | [],vs,ds,ps,h=>by obtain⟨rfl,rfl,rfl⟩:=trodAll_nil h;rfl
 |t :: ts,vs,ds,ps,h=>by obtain⟨v,vs',d,ds',p,q,rfl,rfl,rfl,h1,h2⟩:=trodAll_cons h;rw[length_cons,length_cons,af8 h2]
structure ajZ(P:Program)(W:World){H:Type}(enc:TypeId×Value->H){α:Type}(ts:List TypeId)(e:α->List PV)(G:α->Prop):Prop where
 dec:∀b0 vs ds ps,(∀ (j:Nat) t v,ts[j]? = some t->vs[j]? = some v->Value.okWide P W .any b0 t v)->DataW.TrodAll enc P W 0 (λ_=>true) true ts vs ds ps->(∀n∈DataW.weightsEach P ts ds,n<=reachBytes) ->
  ∃a,G a/\vs.length=(e a).length/\∀ (j:Nat) u x,vs[j]? = some u->(e a)[j]? = some x->VR (snap W) u x
 stay:laidOutB P=true->∀vs ds ps W',DataW.TrodAll enc P W 0 (λ_=>true) true ts vs ds ps->Below W.heap.size W W'->(∀x∈ps,x.block<W.heap.size)->DataW.TrodAll enc P W' 0 (λb=>decide (b<W.heap.size)) true ts vs ds ps
theorem ajZ.nil:ajZ P W enc [] (λ_:Unit=>[]) (λ_=>True) :=
 ⟨λb0 vs ds ps _ h _=>by
  obtain⟨rfl,rfl,rfl⟩:=trodAll_nil h;exact⟨(),trivial,rfl,λj u x hu=>by simp at hu⟩,λ_ vs ds ps W' h _ _=>by
  obtain⟨rfl,rfl,rfl⟩:=trodAll_nil h;exact trodAll_mk0⟩
theorem ajZ.cons{t:TypeId}{ts:List TypeId}{e:α->PV}{G:α->Prop}{e':β->List PV}{G':β->Prop}(h:pM P W enc t e G)(hr:ajZ P W enc ts e' G') :
  ajZ P W enc (t :: ts) (λx:α×β=>e x.1 :: e' x.2) (λx=>G x.1/\G' x.2) :=
 ⟨λb0 vs ds ps hv ht hw=>by
  obtain⟨v,vs',d,ds',p,q,rfl,rfl,rfl,h1,h2⟩:=trodAll_cons ht;rw[DataW.weightsEach] at hw;obtain⟨a,a1,a2⟩:=h.dec b0 v d p (hv 0 t v rfl rfl) h1 λn hn=>hw n (mem_append_left _ hn)
  obtain⟨b,b1,b2,b3⟩:=hr.dec b0 vs' ds' q (λj t v ht xD=>hv (j+1) t v (by simpa using ht) (by simpa using xD)) h2 λn hn=>hw n (mem_append_right _ hn)
  refine⟨(a,b),⟨a1,b1⟩,by simp[b2],λj u x hu hx=>?_⟩;cases j with
  |zero=>simp at hu hx;subst hu hx;exact a2
  |succ j=>exact b3 j u x (by simpa using hu) (by simpa using hx),λhl vs ds ps W' ht hb hlt=>by
  obtain⟨v,vs',d,ds',p,q,rfl,rfl,rfl,h1,h2⟩:=trodAll_cons ht;exact⟨p,q,Below.trod hl h.read h.size h1 hb λx hx=>hlt x (mem_append_left _ hx),hr.stay hl vs' ds' q W' h2 hb λx hx=>hlt x (mem_append_right _ hx),rfl⟩⟩
theorem abq{C:Checked}{os:Os}{f:FuncId}{fn:Func}{s:ChangeSpec}{conds:List PathCond}{apart fresh handsOn:Bool}{e:α->List PV}{G:α->Prop}{tb:TypeId}
  (own:ownKnob C.prog.godebug=none) (laid:laidOutB C.prog=true) (started:os.Started) (noInit:C.prog.inits.idxOf? f=none) (hfn:C.prog.funcs[f]? = some fn)
  (witness:∃ (w:World) (tape:Tape) (i:Input),w.os=os/\(w.forCall tape i).Shaped C.prog/\i.vars=[]/\Input.okWide C.prog (w.forCall tape i) .any w.heap.size f i /\
   s.pre6 enc C.prog fn conds apart (w.forCall tape i).memory i.args/\({} : Assume).holds C.prog (lone (Frame.enter C.prog f i.args .normal) [] (w.forCall tape i)))
  (hres:fn.resultTypes = #[tb]) (hb:C.prog.underlying tb=some .bool) (hv:s.vars=[]) (hs:∀ds:List (DataW H),ds.length=fn.params.size->(s.fn H ds).results=[.lit (.bool true)]/\(s.fn H ds).args=ds/\(s.fn H ds).vars=[])
  (hd:∀W,ajZ C.prog W enc fn.params.toList e G) (ok:∀a,G a->aD C.prog f (e a) λr=>r = .val (.bool true)) :
  ReturnsInHanded {} C os f .any (s.pre6 enc C.prog fn conds apart) (s.post enc C.prog fn apart fresh handsOn false):=by
 refine returnsInHanded_of_change_sized (C:=C) own started noInit hfn witness ?_;intro W base args ds gs before hval hW _ hz _;have hW':=hW;obtain⟨p,q,hA,hV,rfl,hfz,hnd⟩:=hW;rw[hv] at hV;have hg:gs=[]/\q=[]:=by
  cases gs with
  |nil=>exact⟨rfl,hV⟩
  |cons=>exact hV.elim
 obtain⟨rfl,rfl⟩:=hg;have hvt:s.plain.varTypes C.prog=[]:=by have:s.plain.vars=[]:=hv;unfold DataSpec.varTypes;rw[this];rfl
 rw[hvt,append_nil,append_nil] at hz;have hw:∀n∈DataW.weightsEach C.prog fn.params.toList ds,n<=reachBytes:=λn hn=>by have:=all_eq_true.1 hz n hn;simpa using this
 obtain⟨a,a1,a2,a3⟩:=(hd W).dec base args.toList ds p (λj t v ht xD=>hval j t v (by simpa using ht) (by simpa using xD)) hA hw;have hlt:∀x∈p,x.block<W.heap.size:=λx hx=>hW'.lt x (mem_append_left _ hx)
 obtain⟨s1,s2,s3⟩:=hs ds (by
  have:=af8 hA;simpa using this)
 refine ((ok a a1).2 (snap W) W args.toList (agZ W) ⟨a2,a3⟩).mono ?_;rintro e' W' ⟨v,r,I',rfl,rfl,xD,bel,_⟩;have hvb:v = .bool true:=by cases xD;rfl
 subst hvb;refine⟨_,rfl,ds,[],p++[],[],p,[],hW',?_,?_,?_,bel.frame _,λh=>by cases h⟩
 ·rw[append_nil,s1,hres];exact trodAll_mk1 (shut_bool hb true)
 ·rw[append_nil,s2];exact (hd W).stay laid _ _ _ _ hA bel hlt
 ·rw[append_nil,s3,hv];rfl
end Go.b7
namespace Go.b7
open Go.RowKit
variable{P:Program}{w:World}{H:Type}{enc:TypeId×Value->H}
structure ahJ(P:Program)(w:World){H:Type}(enc:TypeId×Value->H)(N:Nat){α:Type}(t:TypeId)(sz:Nat)(e:α->List PV)(G:α->Prop):Prop where
 len:∀a,(e a).length=sz
 dec:∀ (sp:Nat->Bool) (hd:Bool) (fuel:Nat),fuel<N->∀ (cs:List Value) (x:DataW H×List MemPlace),DataW.trod enc P w 0 sp hd fuel t cs=some x->ayE P t x.1->∃a,G a/\sG w cs (e a)
theorem ahJ.zero{α:Type}{t:TypeId}{sz:Nat}{e:α->List PV}{G:α->Prop}(h:∀a,(e a).length=sz):ahJ P w enc 0 t sz e G:=⟨h,λ_ _ _ h=>absurd h (not_lt_zero _)⟩
theorem ahJ.map{N:Nat}{α β:Type}{t:TypeId}{sz:Nat}{e:α->List PV}{G:α->Prop}{e':β->List PV}{G':β->Prop}(g:α->β)(f:β->α)(hgf:∀b,e (f b)=e' b)(hg:∀a,e' (g a)=e a)(hG:∀a,G a->G' (g a))(h:ahJ P w enc N t sz e G):ahJ P w enc N t sz e' G' :=
 ⟨λb=>by rw[<-hgf];exact h.len _,λsp hd fuel hf cs x hx hw=>by
  obtain⟨a,h1,h2⟩:=h.dec sp hd fuel hf cs x hx hw;exact⟨g a,hG a h1,by rw[hg];exact h2⟩⟩
theorem ahJ.slice{N:Nat}{α:Type}{t e:TypeId}{sz:Nat}{ec:α->List PV}{G:α->Prop}(ht:P.underlying t=some (.slice e))(hc:P.cellsOf e=sz)(h0:0<sz)(hb:0<P.bytesOf e)(he:ahJ P w enc N e sz ec G) :
  ahJ P w enc N t 1 (λl:List α=>[.aL (l.map ec)]) (λl=>(∀a∈l,G a)/\l.length<=reachBytes) :=
 ⟨λ_=>rfl,λsp hd fuel hN cs x h hw=>by
  rcases DataW.trod_slice ht h with ⟨rfl,rfl⟩|⟨a,len,cap,elems,rest,n,hfn,rfl,rfl,_,hle,_,hlen,hel,_,_⟩
  ·exact⟨[],⟨by simp,by simp⟩,.one (.aL none 0 0 [] [] 1 rfl (by simp) rfl (by simp) (by simp) (.inl rfl) (λ_=>⟨rfl,rfl⟩) (le_refl _)) rfl⟩
  ·have hn:n<N:=by omega
   have hwt:∀k,k∈((elems.map (·.1)).length+(rest.map (·.1)).length) * P.bytesOf e :: (DataW.weightsAll P e (elems.map (·.1))++DataW.weightsAll P e (rest.map (·.1)))->k<=reachBytes:=λk hk=>by refine hw k ?_;simp only[DataW.weights,ht];exact hk
   obtain⟨l,l1,l2⟩:=af7 (n:=len) (Q:=λi (x:α×List Value)=>G x.1/\w.cells? 0 (a.add (i * sz)) sz=some x.2/\sG w x.2 (ec x.1)) λi hi=>by
    have h1:=hel i hi;have hi':i<elems.length:=by omega
    rw[getElem?_eq_getElem hi',hc] at h1;obtain⟨cs',h2,h3⟩:=Option.bind_eq_some_iff.1 h1;obtain⟨b,h4,h5⟩:=he.dec sp hd n hn cs' _ h3 λk hk=>hwt k (mem_cons_of_mem _ (mem_append_left _ (vG (mem_map.2 ⟨elems[i],pT hi',rfl⟩) k hk)))
    exact⟨(b,cs'),h4,h2,h5⟩
   refine⟨l.map (·.1),⟨λb hb'=>?_,?_⟩,.one (anO h0 he.len hle l1 λi x hx=>(l2 i x hx).2) rfl⟩
   ·obtain⟨x,hx,rfl⟩:=mem_map.1 hb';obtain⟨i,hi⟩:=mem_iff_getElem?.1 hx;exact (l2 i x hi).1
   ·have:=hwt _ (mem_cons_self ..);rw[length_map,length_map,hlen] at this;rw[length_map,l1];exact le_trans (le_trans (Nat.le_add_right len rest.length) (Nat.le_mul_of_pos_right _ hb)) this⟩
structure afu(P:Program)(w:World){H:Type}(enc:TypeId×Value->H)(N:Nat){α:Type}(fs:List Field)(off sz:Nat)(e:α->List PV)(G:α->Prop):Prop where
 len:∀a,(e a).length=sz
 dec:∀ (sp:Nat->Bool) (hd:Bool) (n:Nat),n<N->∀ (cs:List Value) (ds:List (DataW H)),ds.length=fs.length->cs.length=off+sz->(∀ (i:Nat) f,fs[i]? = some f->∃ps,DataW.trod enc P w 0 sp hd n f.type ((cs.drop f.offset).take (P.cellsOf f.type))=(ds[i]?).map λd=>(d,ps)) ->
  (∀k∈DataW.weightsEach P (fs.map (·.type)) ds,k<=reachBytes)->∃a,G a/\sG w (cs.drop off) (e a)
theorem afu.nil{N:Nat}(off:Nat):afu P w enc N [] off 0 (λ_:Unit=>[]) (λ_=>True) :=
 ⟨λ_=>rfl,λsp hd n _ cs ds _ hl _ _=>⟨(),trivial,by
  have:cs.drop off=[]:=drop_eq_nil_of_le (by omega);rw[this];exact⟨rfl,by simp,by simp⟩⟩⟩
theorem afu.cons{N:Nat}{α β:Type}{f:Field}{fs:List Field}{off sz sz':Nat}{e:α->List PV}{G:α->Prop}{e':β->List PV}{G':β->Prop}(ho:f.offset=off)(hc:P.cellsOf f.type=sz)(h:ahJ P w enc N f.type sz e G)(hr:afu P w enc N fs (off+sz) sz' e' G') :
  afu P w enc N (f :: fs) off (sz+sz') (λx:α×β=>e x.1++e' x.2) (λx=>G x.1/\G' x.2) :=
 ⟨λx=>by rw[length_append,h.len,hr.len],λsp hd n hn cs ds hl hcs hall hw=>by
  match ds,hl with
  | [],hl=>simp at hl
  |d :: ds,hl =>
   rw[map_cons,DataW.weightsEach] at hw;obtain⟨ps,h0⟩:=hall 0 f rfl;simp only[getElem?_cons_zero,map_some] at h0;obtain⟨a,a1,a2⟩:=h.dec sp hd n hn _ _ h0 λk hk=>hw k (mem_append_left _ hk)
   obtain⟨b,b1,b2⟩:=hr.dec sp hd n hn cs ds (by simpa using hl) (by omega) (λi g hg=>by simpa using hall (i+1) g (by simpa using hg)) λk hk=>hw k (mem_append_right _ hk)
   refine⟨(a,b),⟨a1,b1⟩,?_⟩;have e1:cs.drop off=(cs.drop off).take sz++cs.drop (off+sz):=by rw[<-drop_drop,take_append_drop]
   rw[e1];rw[ho,hc] at a2;exact a2.append b2⟩
theorem ahJ.struct{N:Nat}{α:Type}{t:TypeId}{fs:Array Field}{sz:Nat}{e:α->List PV}{G:α->Prop}(ht:P.underlying t=some (.struct fs))(hc:P.cellsOf t=sz)(h:afu P w enc N fs.toList 0 sz e G):ahJ P w enc (N+1) t sz e G :=
 ⟨h.len,λsp hd fuel hN cs x hx hw=>by
  obtain⟨xs,n,hfn,rfl,hl,hxs,hf⟩:=DataW.trod_struct ht hx;obtain⟨a,a1,a2⟩:=h.dec sp hd n (by omega) cs (xs.map (·.1)) (by simp[hxs]) (by rw[hl,hc,zero_add]) (λi f hi=>by
   have h1:=hf i f (by simpa using hi);have hlt:i<xs.length:=by have:=(List.getElem?_eq_some_iff.1 hi).1;rw[hxs];simpa using this
   refine⟨xs[i].2,?_⟩;rw[h1];simp[hlt]) λk hk=>hw k (by
    simp only[DataW.weights,ht];exact hk)
  exact⟨a,a1,by simpa using a2⟩⟩
end Go.b7
namespace Go.b7
open Go.RowKit
def cz{α:Type}(p:Prop) [Decidable p](x:Option α):Option α:=if p then x else none
def thn{α β:Type}(x:Option α)(k:α->Option β):Option β:=match x with
 |some a=>k a
 |none=>none
def iX{α:Type}(l:List α)(i:Int):Option α:=if 0<=i then l[i.toNat]? else none
theorem ayG{α:Type}{p:Prop} [Decidable p]{x:Option α}{r:α}(h:cz p x=some r):p/\x=some r:=by
 unfold cz at h;split at h
 ·exact⟨by assumption,h⟩
 ·cases h
theorem nY{α β:Type}{x:Option α}{k:α->Option β}{r:β}(h:thn x k=some r):∃a,x=some a/\k a=some r:=by
 unfold thn at h;split at h
 ·exact⟨_,rfl,h⟩
 ·cases h
theorem abr{α:Type}{b:Bool}{x y:Option α}{r:α}(h:cond b x y=some r)(hb:b=true):x=some r:=by subst hb;exact h
theorem afv{α:Type}{b:Bool}{x y:Option α}{r:α}(h:cond b x y=some r)(hb:b=false):y=some r:=by subst hb;exact h
theorem aCu{α β:Type}{l:List α}{i:Nat}{k:α->Option β}{r:β}(f:α->List PV)(h:thn l[i]? k=some r):∃a,i<l.length/\(l.map f).getD i []=f a/\l[i]? = some a/\k a=some r:=by obtain⟨a,h1,h2⟩:=nY h;exact⟨a,(List.getElem?_eq_some_iff.1 h1).1,by simp[h1],h1,h2⟩
theorem aCv{α β:Type}{l:List α}{i:Int}{k:α->Option β}{r:β}(f:α->List PV)(h:thn (iX l i) k=some r) :
  ∃a,0<=i/\i<(l.length:Int)/\(l.map f).getD i.toNat []=f a/\iX l i=some a/\k a=some r:=by
 obtain⟨a,h1,h2⟩:=nY h;have uq:=h1;unfold iX at h1;split at h1
 ·rename_i h0;have:=(List.getElem?_eq_some_iff.1 h1).1;exact⟨a,h0,by omega,by simp[h1],uq,h2⟩
 ·cases h1
theorem gN{α:Type}{f:α->List PV}{n:Nat}(h:∀a,(f a).length=n)(l:List α):∀x∈l.map f,x.length=n:=by intro x hx;obtain⟨a,_,rfl⟩:=mem_map.1 hx;exact h a
theorem ar6{α:Type}{f:α->List PV}(h:∀a,(f a).all isVal=true)(l:List α):((l.map f).all λx=>x.all isVal)=true:=by simp[h]
theorem auE{α β:Type}(f:α->β)(l:List α)(n:Nat):(l.map f).take n=(l.take n).map f:=(map_take ..).symm
theorem auF{α β:Type}(f:α->β)(l:List α)(n:Nat):(l.map f).drop n=(l.drop n).map f:=(map_drop ..).symm
theorem ayH{α β:Type}(f:α->β)(l m:List α):l.map f++m.map f=(l++m).map f:=(map_append ..).symm
theorem bt{α β:Type}(f:α->β)(l m:List α){c:List β}(h:m.map f=c):l.map f++c=(l++m).map f:=by rw[map_append,h]
theorem acq{α β:Type}(f:α->β)(n:Nat)(a:α){c:β}(h:f a=c):replicate n c=(replicate n a).map f:=by rw[map_replicate,h]
theorem lK{α β:Type}(f:α->β)(l:List α)(i:Nat)(a:α){c:β}(h:f a=c):(l.map f).set i c=(l.set i a).map f:=by rw[map_set,<-h]
attribute [go_sem] auE auF ayH take_length length_set length_replicate set_cons_zero set_cons_succ le_refl not_lt_zero zero_le Nat.zero_lt_succ decide_true decide_false Bool.not_not 
mutual
def uZ:PV->PV->Prop
 | .val (.slice none 0 0),.aL es=>es=[]
 | .emp,.aL es=>es=[]
 | .aL a,.aL b=>lM a b
 | .agg a,.agg b=>qH a b
 | .dH a,.dH b=>qH a b
 |a,b=>a=b
def qH:List PV->List PV->Prop
 | [],[]=>True
 |a :: r,b :: s=>uZ a b/\qH r s
 |_,_=>False
def lM:List (List PV)->List (List PV)->Prop
 | [],[]=>True
 |a :: r,b :: s=>qH a b/\lM r s
 |_,_=>False
end
theorem tG.app:∀ {a b c d:List PV},tG a b->tG c d->tG (a++c) (b++d)
 | [],[],_,_,_,h=>h
 | [],_ :: _,_,_,h,_=>h.elim
 |_ :: _,[],_,_,h,_=>h.elim
 |_ :: _,_ :: _,_,_,h,k=>⟨h.1,tG.app h.2 k⟩
mutual
theorem alx:∀ (a b:PV),uZ a b->PLe a b:=by
 intro a b h;unfold uZ at h;split at h
 ·subst h;exact .nil
 ·subst h;exact .emp
 ·exact .aL (tJ _ _ h).1 (tJ _ _ h).2
 ·exact .agg (tg _ _ h)
 ·exact .dH (tg _ _ h)
 ·subst h;exact .refl _
theorem tg:∀ (a b:List PV),qH a b->tG a b
 | [],[],_=>trivial
 |a :: r,b :: s,h=>⟨alx a b (by unfold qH at h;exact h.1),tg r s (by unfold qH at h;exact h.2)⟩
 | [],_ :: _,h=>by unfold qH at h;exact h
 |_ :: _,[],h=>by unfold qH at h;exact h
theorem tJ:∀ (a b:List (List PV)),lM a b->a.map (·.length)=b.map (·.length)/\tG a.flatten b.flatten
 | [],[],_=>⟨rfl,trivial⟩
 |a :: r,b :: s,h=>by unfold lM at h;have h1:=tg a b h.1;have h2:=tJ r s h.2;exact⟨by rw[map_cons,map_cons,h2.1,h1.len],by rw[flatten_cons,flatten_cons];exact h1.app h2.2⟩
 | [],_ :: _,h=>by unfold lM at h;exact h.elim
 |_ :: _,[],h=>by unfold lM at h;exact h.elim
end
theorem aD.gW{P:Program}{f:FuncId}{args:List PV}{t:PV}(h:aD P f args (λv=>uZ v t)):aD P f args (λv=>v=t):=h.le λr hr=>⟨t,alx r t hr,rfl⟩
mutual
def vH:RV->RV->Prop
 | .p (.val (.slice none 0 0)),.row _ sz es=>es=[]/\0<sz
 | .p (.val (.slice none 0 0)),.p (.aL es)=>es=[]
 | .row e sz es,.row e' sz' es'=>e=e'/\sz=sz'/\lM es es'
 | .p (.aL a),.p (.aL b)=>lM a b
 | .agg a,.agg b=>aes a b
 | .dH a,.dH b=>aes a b
 | .p (.agg a),.agg b=>agy a b
 |a,b=>a=b
def aes:List RV->List RV->Prop
 | [],[]=>True
 |a :: r,b :: s=>vH a b/\aes r s
 |_,_=>False
def agy:List PV->List RV->Prop
 | [],[]=>True
 |a :: r,b :: s=>vH (.p a) b/\agy r s
 |_,_=>False
end
theorem ze.aEO{w:World}{B:Nat}{J:Mem}{u:Value}{bs:List Nat}{e:TypeId}{sz:Nat}{es es':List (List PV)}(hl:es.map (·.length)=es'.map (·.length))(hf:tG es.flatten es'.flatten)(h:ze w B J u (.row e sz es) bs):ze w B J u (.row e sz es') bs:=by
 cases h with
 |row _ _ _ _ us h h1 =>
  have hlen:es.length=es'.length:=by have:=congrArg length hl;simpa using this
  refine .row u e sz es' us ⟨hlen ▸ h.own,h.pos,λx hx=>?_,λj u c hu hc=>?_,h.one,h.free⟩ h1
  ·obtain⟨i,hi,rfl⟩:=getElem_of_mem hx;have h2:(es.map (·.length))[i]? = (es'.map (·.length))[i]?:=by rw[hl]
   have hi':i<es.length:=by omega
   simp only[getElem?_map,getElem?_eq_getElem hi,getElem?_eq_getElem hi',map_some,cC] at h2;rw[<-h2];exact h.all _ (pT hi')
  ·obtain⟨c',q1,q2⟩:=hf.at hc;exact q2 J u (h.val j u c' hu q1)
theorem ze.aC7{w:World}{B:Nat}{J:Mem}{u:Value}{bs:List Nat}(e:TypeId){sz:Nat}(hsz:0<sz)(h:ze w B J u (.p (.val (.slice none 0 0))) bs):ze w B J u (.row e sz []) bs:=(RLe.nil e sz hsz).sound h
theorem ze.aC8{w:World}{B:Nat}{J:Mem}{u:Value}{bs:List Nat}(h:ze w B J u (.p (.val (.slice none 0 0))) bs):ze w B J u (.p (.aL [])) bs:=RLe.aDJ.sound h
def RLs(w:World)(B:Nat)(J:Mem)(us:List Value)(rs:List RV)(bs:List (List Nat)):Prop:=us.length=rs.length/\us.length=bs.length/\∀ (j:Nat) u r b,us[j]? = some u->rs[j]? = some r->bs[j]? = some b->ze w B J u r b
theorem RLs.cons{w:World}{B:Nat}{J:Mem}{u:Value}{us:List Value}{r r':RV}{rs rs':List RV}{b:List Nat}{bs:List (List Nat)}(h:RLs w B J (u :: us) (r :: rs) (b :: bs))
  (h1:ze w B J u r b->ze w B J u r' b) (h2:RLs w B J us rs bs->RLs w B J us rs' bs):RLs w B J (u :: us) (r' :: rs') (b :: bs):=by
 obtain⟨a1,a2,a3⟩:=h;obtain⟨c1,c2,c3⟩:=h2 ⟨by simpa using a1,by simpa using a2,λj u r b hu hr hb=>a3 (j+1) u r b (by simpa using hu) (by simpa using hr) (by simpa using hb)⟩;refine⟨by simpa using c1,by simpa using c2,λj u r b hu hr hb=>?_⟩;cases j with
 |zero=>simp at hu hr hb;subst hu hr hb;exact h1 (a3 0 _ _ _ rfl rfl rfl)
 |succ j=>exact c3 j u r b (by simpa using hu) (by simpa using hr) (by simpa using hb)
mutual
theorem aly:∀ (r t:RV),vH r t->∀ {w:World} {B:Nat} {J:Mem} {u:Value} {bs:List Nat},ze w B J u r bs->ze w B J u t bs:=by
 intro r t h w B J u bs hr;unfold vH at h;split at h
 ·obtain⟨rfl,h2⟩:=h;exact hr.aC7 _ h2
 ·subst h;exact hr.aC8
 ·obtain⟨rfl,rfl,h⟩:=h;exact hr.aEO (tJ _ _ h).1 (tJ _ _ h).2
 ·cases hr with
  |p _ _ hx=>exact .p _ _ ((PLe.aL (tJ _ _ h).1 (tJ _ _ h).2) _ _ hx)
 ·cases hr with
  |agg us rs bs q1 q2 q3 q4=>obtain⟨c1,c2,c3⟩:=alz _ _ h (w:=w) (B:=B) (J:=J) ⟨q1,q2,q3⟩;exact .agg us _ bs c1 c2 c3 q4
 ·cases hr with
  |dH us rs bs q1 q2 q3=>obtain⟨c1,c2,c3⟩:=alz _ _ h (w:=w) (B:=B) (J:=J) ⟨q1,q2,q3⟩;exact .dH us _ bs c1 c2 c3
 ·cases hr with
  |p u x hx =>
   cases hx with
   |agg us cs q1 q2 q3 =>
    obtain⟨c1,c2,c3⟩:=ar7 _ _ h (w:=w) (B:=B) (J:=J) (us:=us) ⟨q1,q2⟩;have:((us.map λ_=>([]:List Nat))).flatten=[]:=by simp
    have h2:=ze.agg us _ (us.map λ_=>[]) c1 c2 c3 q3;rw[this] at h2;exact h2
 ·subst h;exact hr
termination_by r t=>SizeOf.sizeOf t
theorem alz:∀ (a b:List RV),aes a b->∀ {w:World} {B:Nat} {J:Mem} {us:List Value} {bs:List (List Nat)},RLs w B J us a bs->RLs w B J us b bs
 | [],[],_,_,_,_,_,_,h=>h
 | [],_ :: _,h,_,_,_,_,_,_=>by unfold aes at h;exact h.elim
 |_ :: _,[],h,_,_,_,_,_,_=>by unfold aes at h;exact h.elim
 |a :: r,b :: s,h,w,B,J,us,bs,hr=>by
  unfold aes at h
  match us,bs,hr with
  |u :: us,c :: bs,hr=>exact hr.cons (aly a b h.1) (alz r s h.2)
  | [],_,hr=>have:=hr.1;simp at this
  |_ :: _,[],hr=>have:=hr.2.1;simp at this
termination_by a b=>SizeOf.sizeOf b
theorem ar7:∀ (a:List PV) (b:List RV),agy a b->∀ {w:World} {B:Nat} {J:Mem} {us:List Value},VRs J us a->RLs w B J us b (us.map λ_=>[])
 | [],[],_,_,_,_,us,h=>by
  have h1:us=[]:=by have:=h.1;simpa using this
  subst h1;exact⟨rfl,rfl,λj u r b hu=>by simp at hu⟩
 | [],_ :: _,h,_,_,_,_,_=>by unfold agy at h;exact h.elim
 |_ :: _,[],h,_,_,_,_,_=>by unfold agy at h;exact h.elim
 |a :: r,b :: s,h,w,B,J,us,hr=>by
  unfold agy at h
  match us,hr with
  |u :: us,hr =>
   have ih:=ar7 r s h.2 (w:=w) (B:=B) (J:=J) (us:=us) ⟨by have:=hr.1;simpa using this,λj u c hu hc=>hr.2 (j+1) u c (by simpa using hu) (by simpa using hc)⟩;have h1:=aly (.p a) b h.1 (w:=w) (B:=B) (.p u a (hr.2 0 u a rfl rfl));refine⟨by simpa using ih.1,by simp,λj u r b hu hr hb=>?_⟩;cases j with
   |zero=>simp at hu hr hb;subst hu hr hb;exact h1
   |succ j=>exact ih.2.2 j u r b (by simpa using hu) (by simpa using hr) (by simpa using hb)
  | [],hr=>have:=hr.1;simp at this
termination_by a b=>SizeOf.sizeOf b
end
theorem bl.qX{P:Program}{f:FuncId}{args:List PV}{t:RV}(h:bl P f args (λv=>vH v t)):bl P f args (λv=>v=t):=⟨h.1,λI w vs hI hv=>(h.2 I w vs hI hv).mono λ_ _ ⟨v,r,bs,I',h1,h2,h3,h4⟩=>⟨v,t,bs,I',h1,rfl,aly r t h2 h3,h4⟩⟩
theorem ayI(a b:List PV):uZ (.agg a) (.agg b)=qH a b:=by simp only[uZ]
theorem ayJ(a b:List PV):uZ (.dH a) (.dH b)=qH a b:=by simp only[uZ]
theorem ayK(es:List (List PV)):uZ (.val (.slice none 0 0)) (.aL es)=(es=[]):=by simp only[uZ]
theorem ayL(a b:List (List PV)):uZ (.aL a) (.aL b)=lM a b:=by simp only[uZ]
theorem anP(a b:Value):uZ (.val a) (.val b)=(a=b):=by unfold uZ;split<;>first|(rename_i h _;cases h;done)|(rename_i h;cases h;done)|simp_all
mutual
theorem auG:∀a:PV,uZ a a
 | .agg a=>by simp only[uZ];exact gO a
 | .dH a=>by simp only[uZ];exact gO a
 | .val v=>by rw[anP]
 | .aL a=>by simp only[uZ];exact zl a
 | .emp=>by simp only[uZ]
 | .ez _ _=>by simp only[uZ]
 | .jk _ _ _=>by simp only[uZ]
theorem gO:∀a:List PV,qH a a
 | []=>by unfold qH;trivial
 |a :: r=>by unfold qH;exact⟨auG a,gO r⟩
@[refl] theorem zl:∀a:List (List PV),lM a a
 | []=>by unfold lM;trivial
 |a :: r=>by unfold lM;exact⟨gO a,zl r⟩
end
theorem aqE(a:List (List PV)):lM a a=True:=eq_true (zl a)
theorem aqF(a b:List PV)(r s:List (List PV)):lM (a :: r) (b :: s)=(qH a b/\lM r s):=by simp only[lM]
attribute [go_sem] aqE aqF
theorem ayM:qH [] []=True:=by simp only[qH]
theorem auH(a b:PV)(r s:List PV):qH (a :: r) (b :: s)=(uZ a b/\qH r s):=by simp only[qH]
theorem ayN(a b:List RV):vH (.agg a) (.agg b)=aes a b:=by simp only[vH]
theorem ayO(a b:List RV):vH (.dH a) (.dH b)=aes a b:=by simp only[vH]
theorem auI(a:List PV)(b:List RV):vH (.p (.agg a)) (.agg b)=agy a b:=by simp only[vH]
theorem anQ(e:TypeId)(sz:Nat)(es:List (List PV)):vH (.p (.val (.slice none 0 0))) (.row e sz es)=(es=[]/\0<sz):=by simp only[vH]
theorem anR(es:List (List PV)):vH (.p (.val (.slice none 0 0))) (.p (.aL es))=(es=[]):=by simp only[vH]
theorem ayP(e e':TypeId)(sz sz':Nat)(es es':List (List PV)):vH (.row e sz es) (.row e' sz' es')=(e=e'/\sz=sz'/\lM es es'):=by simp only[vH]
theorem ayQ(a b:Value):vH (.p (.val a)) (.p (.val b))=(a=b):=by unfold vH;split<;>first|(rename_i h _;cases h;done)|(rename_i h;cases h;done)|simp_all
theorem ayR(a b:List (List PV)):vH (.p (.aL a)) (.p (.aL b))=lM a b:=by simp only[vH]
theorem ayS:aes [] []=True:=by simp only[aes]
theorem auJ(a b:RV)(r s:List RV):aes (a :: r) (b :: s)=(vH a b/\aes r s):=by simp only[aes]
theorem ayT:agy [] []=True:=by simp only[agy]
theorem auK(a:PV)(b:RV)(r:List PV)(s:List RV):agy (a :: r) (b :: s)=(vH (.p a) b/\agy r s):=by simp only[agy]
attribute [go_sem] ayI ayJ ayK ayL anP ayM auH ayN ayO auI anQ anR ayP ayQ ayR ayS auJ ayT auK 
section
variable{σ O:Type}
def bZ(f:Nat->σ->(σ->Option O)->(σ->Option O)->Option O):Nat->Nat->σ->(σ->Option O)->Option O
 |0,_,s,K=>K s
 |k+1,i,s,K=>f i s (λs'=>bZ f k (i+1) s' K) K
def iter(f:σ->(σ->Option O)->(σ->Option O)->Option O):Nat->σ->(σ->Option O)->Option O
 |0,_,_=>none
 |k+1,s,K=>f s (λs'=>iter f k s' K) K
end
def fuel:Nat:=4611686018427387904
section
variable{P:Program}{N:Nat}{own:List Nat}{σ γ O:Type}{c:Code}{K:qN}{env:Env}{H:au}
def vI(R:Env->au->Prop)(K:qN):qN:=λe env H=>match e with
 | .normal=>R env H
 |e=>K e env H
theorem alA{R:Env->au->Prop} : vI R K .normal env H=R env H:=rfl
theorem aqG{R:Env->au->Prop}{id:Nat} : vI R K (.exit id) env H=K (.exit id) env H:=rfl
theorem auL{R:Env->au->Prop} : vI R K .ret env H=K .ret env H:=rfl
attribute [go_sem] alA aqG auL
def anS(inv:σ×γ->Env)(jX:σ×γ->au)(Nx:σ->Prop)(e:Env)(H:au):Prop:=∃s' g,Nx s'/\c8 e H (inv (s',g)) (jX (s',g))
theorem anT{inv:σ×γ->Env}{jX:σ×γ->au}{Nx:σ->Prop}{e:Env}{H:au}(s':σ)(g:γ)(h:Nx s')(hw:c8 e H (inv (s',g)) (jX (s',g))):anS inv jX Nx e H:=⟨s',g,h,hw⟩
theorem ahK{R R':Env->au->Prop}(h:∀e H,R e H↔R' e H):vI R K=(λz e' H'=>match z with
  | .normal=>R' e' H'
  |z=>K z e' H'):=by
 funext z e' H';cases z<;>first|rfl|exact propext (h e' H')
theorem auM{f:σ->(σ->Option O)->(σ->Option O)->Option O}{Kf:σ->Option O}{r:O}(inv:σ×γ->Env)(jX:σ×γ->au)(g0:γ){k:Nat}{s:σ}(h:iter f k s Kf=some r)
  (hw:c8 env H (inv (s,g0)) (jX (s,g0)))
  (hr:∀s g (eE:σ->Option O) (Nx:σ->Prop),(∀s',eE s'=some r->Nx s')->f s eE Kf=some r->cw P N own c (vI (anS inv jX Nx) K) (inv (s,g)) (jX (s,g))):aef P N own c K env H:=by
 refine⟨λn e H=>∃s g,iter f n s Kf=some r/\e=inv (s,g)/\H=jX (s,g),⟨k,_,_,⟨s,g0,h,rfl,rfl⟩,hw⟩,?_⟩;rintro n e H ⟨s,g,hs,rfl,rfl⟩;cases n with
 |zero=>cases hs
 |succ n =>
  have:=hr s g _ (λs'=>∃m,m<n+1/\iter f m s' Kf=some r) (λs' h'=>⟨n,Nat.lt_succ_self n,h'⟩) hs;rw[ahK (R':=λe' H'=>∃m e2 H2,m<n+1/\(∃s g,iter f m s Kf=some r/\e2=inv (s,g)/\H2=jX (s,g))/\c8 e' H' e2 H2)] at this
  ·exact this
  ·intro e' H';constructor
   ·rintro⟨s',g',⟨m,h1,h2⟩,h3⟩;exact⟨m,_,_,h1,⟨s',g',h2,rfl,rfl⟩,h3⟩
   ·rintro⟨m,e2,H2,h1,⟨s',g',h2,rfl,rfl⟩,h3⟩;exact⟨s',g',⟨m,h1,h2⟩,h3⟩
theorem auN{f:Nat->σ->(σ->Option O)->(σ->Option O)->Option O}{Kf:σ->Option O}{r:O}(inv:(Nat×σ)×γ->Env)(jX:(Nat×σ)×γ->au)(g0:γ){n i:Nat}{s:σ}(h:bZ f (n-i) i s Kf=some r)
  (hw:c8 env H (inv ((i,s),g0)) (jX ((i,s),g0)))
  (hr:∀j s g (eE:σ->Option O) (Nx:Nat×σ->Prop),j<n->(∀s',eE s'=some r->Nx (j+1,s'))->f j s eE Kf=some r->cw P N own c (vI (anS inv jX Nx) K) (inv ((j,s),g)) (jX ((j,s),g)))
  (he:∀j s g (Nx:Nat×σ->Prop),n<=j->Kf s=some r->cw P N own c (vI (anS inv jX Nx) K) (inv ((j,s),g)) (jX ((j,s),g))):aef P N own c K env H:=by
 refine⟨λm e H=>∃ (x:Nat×σ) (g:γ),(n-x.1=m/\bZ f (n-x.1) x.1 x.2 Kf=some r)/\e=inv (x,g)/\H=jX (x,g),⟨n-i,_,_,⟨(i,s),g0,⟨rfl,h⟩,rfl,rfl⟩,hw⟩,?_⟩;rintro m e H ⟨⟨j,s⟩,g,⟨hm,hs⟩,rfl,rfl⟩;have key:∀R:Nat×σ->Prop,(∀x,R x↔n-x.1<m/\bZ f (n-x.1) x.1 x.2 Kf=some r)->∀e' H',anS inv jX R e' H'↔∃m' e2 H2,m'<m/\(∃ (x:Nat×σ) (g:γ),(n-x.1=m'/\bZ f (n-x.1) x.1 x.2 Kf=some r)/\e2=inv (x,g)/\H2=jX (x,g))/\c8 e' H' e2 H2:=by
  intro R hR e' H';constructor
  ·rintro⟨x,g',h1,h3⟩;obtain⟨h1,h2⟩:=(hR x).1 h1;exact⟨_,_,_,h1,⟨x,g',⟨rfl,h2⟩,rfl,rfl⟩,h3⟩
  ·rintro⟨m',e2,H2,h1,⟨x,g',⟨h4,h2⟩,rfl,rfl⟩,h3⟩;exact⟨x,g',(hR x).2 ⟨by omega,h2⟩,h3⟩
 simp only at hm hs;by_cases hj:j<n
 ·obtain⟨k,hk⟩:∃k,n-j=k+1:=⟨n-j-1,by omega⟩;have hk':n-(j+1)=k:=by omega
  rw[hk] at hs;have:=hr j s g _ (λx=>n-x.1<m/\bZ f (n-x.1) x.1 x.2 Kf=some r) hj (λs' h'=>⟨by simp only;omega,by simp only[hk'];exact h'⟩) hs;rw[ahK (key _ λx=>Iff.rfl)] at this;exact this
 ·have h0:n-j=0:=by omega
  rw[h0] at hs;have:=he j s g (λx=>n-x.1<m/\bZ f (n-x.1) x.1 x.2 Kf=some r) (by omega) hs;rw[ahK (key _ λx=>Iff.rfl)] at this;exact this
end
theorem aBI{P:Program}{N:Nat}{own:List Nat}{σ γ O:Type}{c:Code}{K:qN}{env:Env}{H:au}{f:σ->(σ->Option O)->(σ->Option O)->Option O}{Kf:σ->Option O}{r:O}(inv:σ×γ->Env)(jX:σ×γ->au)(g0:γ){k:Nat}{s:σ}(h:iter f k s Kf=some r)
  (hw:c8 env H (inv (s,g0)) (jX (s,g0)))
  (hr:∀s g (eE:σ->Option O) (R:Env->au->Prop),(∀s' g' {e H},eE s'=some r->c8 e H (inv (s',g')) (jX (s',g'))->R e H)->f s eE Kf=some r->cw P N own c (vI R K) (inv (s,g)) (jX (s,g))):aef P N own c K env H :=
 auM inv jX g0 h hw λs g eE Nx hN hf=>hr s g eE _ (λs' g' _ _ h1 h2=>anT s' g' (hN s' h1) h2) hf
theorem aBJ{P:Program}{N:Nat}{own:List Nat}{σ γ O:Type}{c:Code}{K:qN}{env:Env}{H:au}{f:Nat->σ->(σ->Option O)->(σ->Option O)->Option O}{Kf:σ->Option O}{r:O}(inv:(Nat×σ)×γ->Env)(jX:(Nat×σ)×γ->au)(g0:γ){n i:Nat}{s:σ}(h:bZ f (n-i) i s Kf=some r)
  (hw:c8 env H (inv ((i,s),g0)) (jX ((i,s),g0)))
  (hr:∀j s g (eE:σ->Option O) (R:Env->au->Prop),j<n->(∀s' g' {e H},eE s'=some r->c8 e H (inv ((j+1,s'),g')) (jX ((j+1,s'),g'))->R e H)->f j s eE Kf=some r->cw P N own c (vI R K) (inv ((j,s),g)) (jX ((j,s),g)))
  (he:∀j s g (R:Env->au->Prop),n<=j->Kf s=some r->cw P N own c (vI R K) (inv ((j,s),g)) (jX ((j,s),g))):aef P N own c K env H :=
 auN inv jX g0 h hw (λj s g eE Nx hj hN hf=>hr j s g eE _ hj (λs' g' _ _ h1 h2=>anT (j+1,s') g' (hN s' h1) h2) hf) (λj s g Nx hj hk=>he j s g _ hj hk)
section
variable{P:Program}{env:Env}{H:au}{o:Oper}{W:Env->au->Prop}{k:FuncId}{ps ps':List PV}{b:Bool}
theorem bl.args{f:FuncId}{ps ps':List PV}{Q:RV->Prop}(h:bl P f ps Q)(hp:tG ps' ps):bl P f ps' Q:=⟨h.1,λI w vs hI hv=>h.2 I w vs hI (hp.vrs hv)⟩
theorem anU{x:PV}(c:aD P k ps λr=>r=x)(he:jY o (ev env) H=some (k,ps',b))(hp:qH ps' ps)(hb:b=true->x.scalar=true)
  (hW:W (cA env o.dst (.p x)) H):iU P o W env H:=aW (c.args (tg _ _ hp)) he hb hW
theorem aqH{x:PV}(c:aD P k ps λr=>r=x)(he:jY o (ev env) H=some (k,ps',b))(hp:qH ps' ps)(hb:b=true->x.scalar=true)
  (hW:W (cA env o.dst (.p x)) H):ajG P o W env H:=jH (c.args (tg _ _ hp)) he hb hW
end
section
variable{P:Program}{t:TypeId}{kk:IntKind}{n:Int}{H:au}
def ayU(a:Option (Nat×TypeId))(f:TypeId->Option Nat)(n:Int)(mk:Nat->AV)(H:au):Option (Prop×AV×au):=match a with
 |some (len,e)=>(match f e with
  |some sz=>some (0<=n/\n<len,mk (n.toNat * sz),H)
  |none=>none)
 |none=>none
theorem anV{cs:List PV}{off:Nat} : qO P t (.p (.ez cs off)) (.p (.val (.int kk n))) H=ayU (aay P t) (bf P) n (λo=>.p (.ez cs (off+o))) H:=by
 unfold qO pJ ayU up3;cases aay P t with
 |none=>rfl
 |some r=>obtain⟨len,e⟩:=r;simp only;cases bf P e<;>rfl
theorem aqI{id off:Nat} : qO P t (.ptr id off) (.p (.val (.int kk n))) H=ayU (aay P t) (bf P) n (λo=>.ptr id (off+o)) H:=by
 unfold qO pJ ayU up3;cases aay P t with
 |none=>rfl
 |some r=>obtain⟨len,e⟩:=r;simp only;cases bf P e<;>rfl
theorem auO{len:Nat}{e:TypeId}{f:TypeId->Option Nat}{mk:Nat->AV} : ayU (some (len,e)) f n mk H=(match f e with
  |some sz=>some (0<=n/\n<len,mk (n.toNat * sz),H)
  |none=>none):=rfl
attribute [go_sem] anV aqI auO
end
mutual
def mV:AV->AV->Prop
 | .p a,.p b=>uZ a b
 | .agg a,.agg b=>qv a b
 | .dH a,.dH b=>qv a b
 |a,b=>a=b
def qv:List AV->List AV->Prop
 | [],[]=>True
 |a :: r,b :: s=>mV a b/\qv r s
 |_,_=>False
end
theorem aC9(a b:PV):mV (.p a) (.p b)=uZ a b:=by simp only[mV]
theorem ayV(i v j u:Nat):mV (.row i v) (.row j u)=(i=j/\v=u):=by simp only[mV,AV.row.injEq]
theorem ayW(i v j u:Nat):mV (.ptr i v) (.ptr j u)=(i=j/\v=u):=by simp only[mV,AV.ptr.injEq]
theorem auP(i v j u:Nat):mV (.fm i v) (.fm j u)=(i=j/\v=u):=by simp only[mV,AV.fm.injEq]
theorem ayX(a b:List AV):mV (.dH a) (.dH b)=qv a b:=by simp only[mV]
theorem auQ:qv [] []=True:=by simp only[qv]
theorem aqJ(a b:AV)(r s:List AV):qv (a :: r) (b :: s)=(mV a b/\qv r s):=by simp only[qv]
theorem sH:∀ {as' bs:List AV},qv as' bs->as'.length=bs.length/\∀ (j:Nat) a b,as'[j]? = some a->bs[j]? = some b->mV a b
 | [],[],_=>⟨rfl,λj a b h=>by simp at h⟩
 |a :: r,b :: s,h=>by
  unfold qv at h;obtain⟨h1,h2⟩:=sH h.2;refine⟨by simp[h1],λj x y hx hy=>?_⟩;cases j with
  |zero=>simp at hx hy;subst hx hy;exact h.1
  |succ j=>exact h2 j x y (by simpa using hx) (by simpa using hy)
 | [],_ :: _,h=>by unfold qv at h;exact h.elim
 |_ :: _,[],h=>by unfold qv at h;exact h.elim
theorem zm{I:Mem}{L:bA}{u:Value}{a:AV}(h:dV I L u a):∀ {b:AV},mV a b->dV I L u b:=by
 induction h with
 |p u x h =>
  intro b hb;unfold mV at hb;split at hb
  ·rename_i e;cases e;exact .p _ _ (alx _ _ hb _ _ h)
  ·rename_i e;cases e
  ·rename_i e;cases e
  ·subst hb;exact .p _ _ h
 |agg us cs hl hv hone ih =>
  intro b hb;unfold mV at hb;split at hb
  ·rename_i e;cases e
  ·rename_i e;cases e;obtain⟨q1,q2⟩:=sH hb;refine .agg us _ (hl.trans q1) (λj u c hu hc=>?_) hone;obtain⟨a,ha⟩:∃a,cs[j]? = some a:=by have hj:j<us.length:=(List.getElem?_eq_some_iff.1 hu).1;exact⟨cs[j]'(by omega),by simp[hl ▸ hj]⟩
   exact ih j u a hu ha (q2 j a c ha hc)
  ·rename_i e;cases e
  ·subst hb;exact .agg us cs hl hv hone
 |dH us cs hl hv ih =>
  intro b hb;unfold mV at hb;split at hb
  ·rename_i e;cases e
  ·rename_i e;cases e
  ·rename_i e;cases e;obtain⟨q1,q2⟩:=sH hb;refine .dH us _ (hl.trans q1) (λj u c hu hc=>?_);obtain⟨a,ha⟩:∃a,cs[j]? = some a:=by have hj:j<us.length:=(List.getElem?_eq_some_iff.1 hu).1;exact⟨cs[j]'(by omega),by simp[hl ▸ hj]⟩
   exact ih j u a hu ha (q2 j a c ha hc)
  ·subst hb;exact .dH us cs hl hv
 |row u id bg v hdr sz hl hle h h1=>intro b hb;unfold mV at hb;subst hb;exact .row u id bg v hdr sz hl hle h h1
 |ptr id b' off hl=>intro b hb;unfold mV at hb;subst hb;exact .ptr id b' off hl
 |jG u id bg v i off hdr sz hl hle h h1=>intro b hb;unfold mV at hb;subst hb;exact .jG u id bg v i off hdr sz hl hle h h1
 |jk fn us vs fs cs hl hl' hv xD=>intro b hb;unfold mV at hb;subst hb;exact .jk fn us vs fs cs hl hl' hv xD
 |dead u=>intro b hb;unfold mV at hb;subst hb;exact .dead u
 |bsl id b n hl=>intro b hb;unfold mV at hb;subst hb;exact .bsl _ _ _ hl
 |iV a id bg v off n m c hdr sz hl hle hn hm hz h=>intro b hb;unfold mV at hb;subst hb;exact .iV _ id bg v off n _ _ hdr sz hl hle hn hm hz h
 |fm u id bg v hdr sz sz' dx n hl hle h h1=>intro b hb;unfold mV at hb;subst hb;exact .fm u id bg v hdr sz sz' dx n hl hle h h1
 |lF u id bg v i off hdr sz sz' dx n hl hle h h1=>intro b hb;unfold mV at hb;subst hb;exact .lF u id bg v i off hdr sz sz' dx n hl hle h h1
 |lG u id bg v i hdr sz sz' dx n hl hle h h1=>intro b hb;unfold mV at hb;subst hb;exact .lG u id bg v i hdr sz sz' dx n hl hle h h1
 |oB u id bg v i j off hdr sz sz' dx n hl hle h h1=>intro b hb;unfold mV at hb;subst hb;exact .oB u id bg v i j off hdr sz sz' dx n hl hle h h1
def rV:List (Nat×AV)->Env
 | []=>gI
 |(d,v) :: r=>c9 (rV r) d v
def bN:List (Nat×Chunk)->au
 | []=>ct
 |(d,c) :: r=>br (bN r) d c
theorem ayY:rV []=gI:=rfl
theorem auR(d:Nat)(v:AV)(r:List (Nat×AV)):rV ((d,v) :: r)=c9 (rV r) d v:=rfl
theorem auS:bN []=ct:=rfl
theorem aqK(d:Nat)(c:Chunk)(r:List (Nat×Chunk)):bN ((d,c) :: r)=br (bN r) d c:=rfl
def aqL(e:Env):List (Nat×AV)->Prop
 | []=>True
 |(d,v) :: r=>mV (e d) v/\aqL e r
def alB:Option Chunk->Chunk->Prop
 |some (.box cs),.box ds=>qv cs ds
 |some c,d=>c=d
 |none,_=>False
def wo(H:au):List (Nat×Chunk)->Prop
 | []=>True
 |(d,c) :: r=>alB (H d) c/\wo H r
def aqM(G:au):List (Nat×AV)->Prop
 | []=>True
 |(_,v) :: r=>oE G v/\aqM G r
def wq(G:au):List (Nat×Chunk)->Prop
 | []=>True
 |(_,.box cs) :: r=>nQ G cs/\wq G r
 |_ :: r=>wq G r
theorem ayZ(e:Env):aqL e []=True:=rfl
theorem auT(e:Env)(d:Nat)(v:AV)(r:List (Nat×AV)):aqL e ((d,v) :: r)=(mV (e d) v/\aqL e r):=rfl
theorem ay0(cs ds:List AV):alB (some (.box cs)) (.box ds)=qv cs ds:=rfl
theorem auU(v:Nat)(e:TypeId)(sz k:Nat)(f:TypeId)(sy:Nat)(es:List (List PV))(v':Nat)(e':TypeId)(sz' k':Nat)(f':TypeId)(sy':Nat)(es':List (List PV)):alB (some (.deep v e sz k f sy es)) (.deep v' e' sz' k' f' sy' es')=(v=v'/\e=e'/\sz=sz'/\k=k'/\f=f'/\sy=sy'/\es=es'):=by simp only[alB,Chunk.deep.injEq]
theorem auV(G:au)(d v:Nat)(e:TypeId)(sz k:Nat)(f:TypeId)(sy:Nat)(es:List (List PV))(r:List (Nat×Chunk)):wq G ((d,.deep v e sz k f sy es) :: r)=wq G r:=rfl
theorem ay1(v:Nat)(e:TypeId)(sz:Nat)(es:List (List PV))(v':Nat)(e':TypeId)(sz':Nat)(es':List (List PV)):alB (some (.row v e sz es)) (.row v' e' sz' es')=(v=v'/\e=e'/\sz=sz'/\es=es'):=by simp only[alB,Chunk.row.injEq]
theorem ay2(H:au):wo H []=True:=rfl
theorem auW(H:au)(d:Nat)(c:Chunk)(r:List (Nat×Chunk)):wo H ((d,c) :: r)=(alB (H d) c/\wo H r):=rfl
theorem ay3(G:au):aqM G []=True:=rfl
theorem auX(G:au)(d:Nat)(v:AV)(r:List (Nat×AV)):aqM G ((d,v) :: r)=(oE G v/\aqM G r):=rfl
theorem ay4(G:au):wq G []=True:=rfl
theorem ay5(G:au)(d:Nat)(cs:List AV)(r:List (Nat×Chunk)):wq G ((d,.box cs) :: r)=(nQ G cs/\wq G r):=rfl
theorem ay6(G:au)(d:Nat)(v:Nat)(e:TypeId)(sz:Nat)(es:List (List PV))(r:List (Nat×Chunk)):wq G ((d,.row v e sz es) :: r)=wq G r:=rfl
theorem aBK(G:au)(x:PV):oE G (.p x)=True:=by simp only[oE]
theorem aj0(G:au)(i v:Nat):oE G (.row i v)=(G i≠none):=by simp only[oE]
theorem aj1(G:au)(i v:Nat):oE G (.ptr i v)=(G i≠none):=by simp only[oE]
theorem ahL(G:au)(i v:Nat):oE G (.fm i v)=(G i≠none):=by simp only[oE]
theorem auY(G:au)(cs:List AV):oE G (.dH cs)=nQ G cs:=by simp only[oE]
theorem aqN(G:au):nQ G []=True:=by simp only[nQ]
theorem anW(G:au)(a:AV)(r:List AV):nQ G (a :: r)=(oE G a/\nQ G r):=by simp only[nQ]
theorem aDa(H':au):kN ct H'=True:=eq_true (aCp H')
theorem ay7{H H':au}{i:Nat}{c:Chunk}(hi:i<1000000):kN (br H i c) H'=kN H H':=by refine propext ⟨λh j hj hn=>h j hj ?_,amS hi⟩;unfold br;rw[if_neg (by omega)];exact hn
theorem auZ{H H':au}{i:Nat}{c:Chunk}(hi:1000000<=i):kN (br H i c) H'=(H' i≠none/\kN H H'):=by
 refine propext ⟨λh=>⟨h i hi (by unfold br;rw[if_pos rfl];simp),λj hj hn=>h j hj ?_⟩,λh=>aju h.1 h.2⟩;unfold br;split
 ·simp
 ·exact hn
attribute [go_sem] auP auU auV ahL aC9 ayV ayW ayX auQ aqJ ayY auR auS aqK ayZ auT ay0 ay1 ay2 auW ay3 auX ay4 ay5 ay6 aBK aj0 aj1 auY aqN anW aDa ay7 auZ
theorem ar8{e:Env} : ∀ {l:List (Nat×AV)},aqL e l->∀t,rV l t = .dead\/mV (e t) (rV l t)
 | [],_,t=>.inl rfl
 |(d,v) :: r,h,t=>by
  unfold rV c9;split
  ·rename_i ht;subst ht;exact .inr h.1
  ·exact ar8 h.2 t
theorem aet{H:au} : ∀ {l:List (Nat×Chunk)},wo H l->∀i c',bN l i=some c'->∃c,H i=some c/\alB (some c) c'
 | [],_,i,c',h=>by cases h
 |(d,v) :: r,h,i,c',hi=>by
  unfold bN br at hi;split at hi
  ·rename_i ht;subst ht;simp only[cC] at hi;subst hi;have h1:=h.1;cases hH:H i with
   |none=>rw[hH] at h1;exact h1.elim
   |some c=>rw[hH] at h1;exact⟨c,rfl,h1⟩
  ·exact aet h.2 i c' hi
theorem ar9{G:au} : ∀ {l:List (Nat×AV)},aqM G l->afj (rV l) G
 | [],_,t=>trivial
 |(d,v) :: r,h,t=>by
  unfold rV c9;split
  ·exact h.1
  ·exact ar9 h.2 t
theorem alC{G:au} : ∀ {l:List (Nat×Chunk)},wq G l->qP (bN l) G
 | [],_,i,cs,h=>by cases h
 |(d,c) :: r,h,i,cs,hi=>by
  have hr:wq G r:=by
   cases c with
   |box cs=>exact h.2
   |row=>exact h
   |shut=>exact h
   |tail=>exact h
   |deep=>exact h
  unfold bN br at hi;split at hi
  ·simp only[cC] at hi;subst hi;exact h.1
  ·exact alC hr i cs hi
theorem aeu{e:Env}{H:au}{l:List (Nat×AV)}{hl:List (Nat×Chunk)}(h:aqL e l/\wo H hl/\aqM (bN hl) l/\wq (bN hl) hl/\kN H (bN hl)):c8 e H (rV l) (bN hl):=λC I L tm w hs=>by
 obtain⟨h1,h2,h3,h4,h5⟩:=h;have w0:c8 e H e H:=c8.refl _ _;refine⟨I,L.to (bN hl),?_⟩;exact
 {below:=hs.below
  mem:=hs.mem
  lW:=hs.lW
  mS:=hs.mS
  frame:=hs.frame
  loc:=λi=>by
   cases hi:C.L0 i with
   |none=>trivial
   |some l0 =>
    have h0:=hs.loc i;rw[hi] at h0;have hL:L i≠none:=by
     cases l0 with
     |box b=>intro e;rw[e] at h0;cases h0
     |row v hdr sz=>obtain⟨_,_,h0,_⟩:=h0;intro e;rw[e] at h0;cases h0
     |deep v hdr sz sz' dx n=>obtain⟨_,_,_,_,h0,_⟩:=h0;intro e;rw[e] at h0;cases h0
    have hH:H i≠none:=by
     cases hLi:L i with
     |none=>exact absurd hLi hL
     |some l=>obtain⟨c,hc⟩:=hs.dom i l hLi;rw[hc];simp
    have e:=mo (L:=L) (h5 i (C.hL0 i l0 hi) hH);rw[e];exact h0
  jO:=λid l b hl hb=>hs.jO id l b (to_eq hl).1 hb
  size:=hs.size
  env:=λt=>by
   rcases ar8 h1 t with h|h
   ·rw[h];exact .dead _
   ·exact (zm (hs.env t) h).to (ar9 h3 t)
  dom:=λid l hl=>(to_eq hl).2
  chunk:=λid ch hch=>by
   obtain⟨c,hc1,hc2⟩:=aet h2 id ch hch;have hc:=hs.chunk id c hc1;have hid:L.to (bN hl) id=L id:=mo (by rw[hch];simp);cases c with
   |box cs =>
    cases ch with
    |box ds =>
     have hq:qv cs ds:=hc2;obtain⟨q1,q2⟩:=sH hq;obtain⟨b,arr,e,g1,g2,g3,g4,g5,g6⟩:=hc;refine⟨b,arr,e,hid.trans g1,g2,g3.trans q1,λj u c hu hc=>?_,g5,g6⟩;obtain⟨a,ha⟩:∃a,cs[j]? = some a:=by have hj:j<arr.size:=(Array.getElem?_eq_some_iff.1 hu).1;exact⟨cs[j]'(by omega),by simp[g3 ▸ hj]⟩
     exact (zm (g4 j u a hu ha) (q2 j a c ha hc)).to (oF (alC h4 id ds hch) j c hc)
    |row=>cases hc2
    |shut=>cases hc2
    |tail=>cases hc2
    |deep=>cases hc2
   |row bg e sz es =>
    have hq:Chunk.row bg e sz es=ch:=by cases ch<;>exact hc2
    subst hq;obtain⟨hdr,us,g1,g2⟩:=hc;exact⟨hdr,us,hid.trans g1,g2⟩
   |shut bg es =>
    have hq:Chunk.shut bg es=ch:=by cases ch<;>exact hc2
    subst hq;obtain⟨hdr,sz,g1,g2⟩:=hc;exact⟨hdr,sz,hid.trans g1,g2⟩
   |tail bg e sz es =>
    have hq:Chunk.tail bg e sz es=ch:=by cases ch<;>exact hc2
    subst hq;obtain⟨g,o,cap,arr,g1,g2⟩:=hc;exact⟨g,o,cap,arr,hid.trans g1,g2⟩
   |deep bg e sz k e' sz' es =>
    have hq:Chunk.deep bg e sz k e' sz' es=ch:=by cases ch<;>exact hc2
    subst hq;obtain⟨hdr,us,dx,g1,g2⟩:=hc;exact⟨hdr,us,dx,hid.trans g1,g2⟩
  fT:=λid l b hl hb=>hs.fT id l b (to_eq hl).1 hb
  apart:=λi j li lj b hi hj tA wJ=>hs.apart i j li lj b (to_eq hi).1 (to_eq hj).1 tA wJ }
theorem au0{own:List Nat}{env:Env}{d:Option Tmp}{t:TypeId}{pos:String}{af:Array Edge}{g:Option (Nat×Bool)}(a:Nat)(s:Operand)(t1 t2:TypeId) :
  ajH own ⟨d,.call ⟨.builtin .append,#[.tmp a,s],#[t1,t2]⟩,t,pos,af,g⟩ env=((∃v,env a = .row (qh own a) v)/\∃x,ev env s = .p x):=rfl
theorem aDb(i j v:Nat):(∃u,AV.row i v = .row j u)=(i=j):=by
 apply propext;constructor
 ·rintro⟨u,h⟩;cases h;rfl
 ·rintro rfl;exact⟨v,rfl⟩
attribute [go_sem] au0 aDb exists_eq'
section
variable{P:Program}{env:Env}{H:au}{o:Oper}{W:Env->au->Prop}{k:FuncId}{ps ps':List PV}{b:Bool}
theorem aDc(id:Nat){r:RV}(c:bl P k ps λx=>x=r)(he:jY o (ev env) H=some (k,ps',b))(hp:qH ps' ps)(hb:b=true->r.flat=true)
  (hf:tH H id ((cT id r).2-id)) (hW:W (cA env o.dst (cT id r).1) (gB id H r)):iU P o W env H:=ahu id (c.args (tg _ _ hp)) he hb hf hW
theorem aDd(ids:List Nat){x:PV}(c:aD P k ps λr=>r=x)(he:jY o (ev env) (dr ids H)=some (k,ps',b))(hp:qH ps' ps)(hb:b=true->x.scalar=true)
  (hW:W (cA env o.dst (.p x)) (dr ids H)):iU P o W env H:=at0 ids (c.args (tg _ _ hp)) he hb hW
theorem aBL(ids:List Nat)(id:Nat){r:RV}(c:bl P k ps λx=>x=r)(he:jY o (ev env) (dr ids H)=some (k,ps',b))(hp:qH ps' ps)(hb:b=true->r.flat=true)
  (hf:tH (dr ids H) id ((cT id r).2-id)) (hW:W (cA env o.dst (cT id r).1) (gB id (dr ids H) r)):iU P o W env H:=aqf ids id (c.args (tg _ _ hp)) he hb hf hW
end
def giv{α:Type}(p:Prop) [Decidable p](x:α):Option α:=if p then some x else none
theorem pz{α:Type}{p:Prop} [Decidable p]{x r:α}(h:giv p x=some r):p/\x=r:=by
 unfold giv at h;split at h
 ·exact⟨by assumption,by simpa using h⟩
 ·cases h
variable{P:Program}{I:Mem}{L:bA}
def Ctx.ade(w:World)(I:Mem)(n B:Nat)(L0:bA)(hB:B<=w.heap.size)(hL:∀i l,L0 i=some l->1000000<=i):Ctx:=⟨w,I,n,B,λb=>∃i l,L0 i=some l/\l.has b,L0,hB,hL⟩
def ym(P:Program)(f:FuncId)(G:au)(eZ:List AV)(Q:AV->au->Prop):Prop :=
 gA P f=true/\∀ (B:Nat) (I:Mem) (L0:bA) (w:World) (vs:List Value) (hB:B<=w.heap.size) (hL:∀i l,L0 i=some l->1000000<=i),gK (Ctx.ade w I 0 B L0 hB hL) gI G I L0 #[] w->oW I L0 vs eZ ->
  Calls P f vs.toArray w λx w'=>∃u a H' I' L',x = .returned u/\Q a H'/\dV I' L' u a/\gK (Ctx.ade w I 0 B L0 hB hL) gI H' I' L' #[] w'
theorem ym.mono{f:FuncId}{G:au}{eZ:List AV}{Q Q':AV->au->Prop}(h:ym P f G eZ Q)(hq:∀a c,Q a c->Q' a c):ym P f G eZ Q':=⟨h.1,λB I L0 w vs hB hL hs hv=>(h.2 B I L0 w vs hB hL hs hv).mono λ_ _ ⟨u,a,H',I',L',q1,q2,q3⟩=>⟨u,a,H',I',L',q1,hq _ _ q2,q3⟩⟩
def aDe(P:Program)(rs:List ResultVar)(Q:AV->au->Prop):qN:=λe env H=>match e with
 | .normal | .ret=>(match pq P env H rs with
  |some a=>Q a H
  |none=>False)
 |_=>False
theorem wY{f:FuncId}{fn:Func}{c:Code}{G:au}{eZ:List AV}{Q:AV->au->Prop}(own:List Nat)(hm:P.follows .mixedOrders=true)(hf:P.funcs[f]? = some fn)(hb:fn.body=some c)
  (hc:gA P f=true) (hn:eZ.length<=fn.ntmps) (h:cw P fn.ntmps own c (aDe P fn.results.toList Q) (af2 eZ) G):ym P f G eZ Q:=by
 refine⟨hc,λB I L0 w vs hB hL hs0 hv=>calls_of_wp hf hb ?_⟩;let C:Ctx:=Ctx.ade w I fn.ntmps B L0 hB hL;have hlen:vs.length<=fn.ntmps:=by rw[hv.1];exact hn
 have hs:gK C (af2 eZ) G I L0 (vs.toArray++Array.replicate (fn.ntmps-vs.toArray.size) undef) w :=
  {below:=hs0.below
   mem:=hs0.mem
   lW:=hs0.lW
   mS:=hs0.mS
   frame:=hs0.frame
   loc:=hs0.loc
   jO:=hs0.jO
   size:=by simp only[Array.size_append,size_toArray,Array.size_replicate];show vs.length+(fn.ntmps-vs.length)=fn.ntmps;omega
   env:=λt=>by
    unfold af2;split
    ·rename_i a ha;have htl:t<vs.length:=by have:=(List.getElem?_eq_some_iff.1 ha).1;rw[hv.1];exact this
     have aCQ:(vs.toArray++Array.replicate (fn.ntmps-vs.toArray.size) undef).getD t undef=vs[t]:=by simp only[Array.getD_eq_getD_getElem?,Array.getElem?_append,size_toArray,if_pos htl,getElem?_toArray,getElem?_eq_getElem htl,Option.getD_some]
     rw[aCQ];exact hv.2 t _ a (by simp[htl]) ha
    ·exact .dead _
   dom:=hs0.dom
   chunk:=hs0.chunk
   fT:=hs0.fT
   apart:=hs0.apart }
 refine wp_mono (pY hm c _ C rfl _ _ I L0 _ w h hs) ?_;rintro x a w' ⟨hd,env',H',I',L',hk,hs'⟩;have fin:(match pq P env' H' fn.results.toList with
  |some a=>Q a H'
  |none=>False)->bodyPost P fn (λx w'=>∃u a H' I' L',x = .returned u/\Q a H'/\dV I' L' u a/\gK (Ctx.ade w I 0 B L0 hB hL) gI H' I' L' #[] w') .normal a w':=by
  intro hk;split at hk
  ·rename_i av hav;obtain⟨u,hru,hua⟩:=wS hs' hav;refine⟨hd,u,hru,u,av,H',I',L',rfl,hk,hua,?_⟩;exact
   {below:=hs'.below
    mem:=hs'.mem
    lW:=hs'.lW
    mS:=hs'.mS
    frame:=hs'.frame
    loc:=hs'.loc
    jO:=hs'.jO
    size:=rfl
    env:=λt=>.dead _
    dom:=hs'.dom
    chunk:=hs'.chunk
    fT:=hs'.fT
    apart:=hs'.apart }
  ·exact hk.elim
 cases x with
 |normal=>exact fin hk
 |ret=>exact fin hk
 |exit id=>exact hk.elim
 |goto l=>exact hk.elim
 |panic c=>exact hk.elim
 |outgrown=>exact hk.elim
theorem anX{w:World}{B:Nat}{hl:List (Nat×Chunk)}{id:Nat}{c ch:Chunk}(hc:qL I L w B id c)(hc2:alB (some c) ch)(hch:bN hl id=some ch)(h4:wq (bN hl) hl):qL I (L.to (bN hl)) w B id ch:=by
 have hid:L.to (bN hl) id=L id:=mo (by rw[hch];simp);cases c with
 |box cs =>
  cases ch with
  |box ds =>
   have hq:qv cs ds:=hc2;obtain⟨q1,q2⟩:=sH hq;obtain⟨b,arr,e,g1,g2,g3,g4,g5,g6⟩:=hc;refine⟨b,arr,e,hid.trans g1,g2,g3.trans q1,λj u c hu hc=>?_,g5,g6⟩;obtain⟨a,ha⟩:∃a,cs[j]? = some a:=by have hj:j<arr.size:=(Array.getElem?_eq_some_iff.1 hu).1;exact⟨cs[j]'(by omega),by simp[g3 ▸ hj]⟩
   exact (zm (g4 j u a hu ha) (q2 j a c ha hc)).to (oF (alC h4 id ds hch) j c hc)
  |row=>cases hc2
  |shut=>cases hc2
  |tail=>cases hc2
  |deep=>cases hc2
 |row bg e sz es =>
  have hq:Chunk.row bg e sz es=ch:=by cases ch<;>exact hc2
  subst hq;obtain⟨hdr,us,g1,g2⟩:=hc;exact⟨hdr,us,hid.trans g1,g2⟩
 |shut bg es =>
  have hq:Chunk.shut bg es=ch:=by cases ch<;>exact hc2
  subst hq;obtain⟨hdr,sz,g1,g2⟩:=hc;exact⟨hdr,sz,hid.trans g1,g2⟩
 |tail bg e sz es =>
  have hq:Chunk.tail bg e sz es=ch:=by cases ch<;>exact hc2
  subst hq;obtain⟨g,o,cap,arr,g1,g2⟩:=hc;exact⟨g,o,cap,arr,hid.trans g1,g2⟩
 |deep bg e sz k e' sz' es =>
  have hq:Chunk.deep bg e sz k e' sz' es=ch:=by cases ch<;>exact hc2
  subst hq;obtain⟨hdr,us,dx,g1,g2⟩:=hc;exact⟨hdr,us,dx,hid.trans g1,g2⟩
def over(l:List (Nat×Chunk))(H:au):au:=match l with
 | []=>H
 |(d,c) :: r=>br (over r H) d c
theorem ay8(H:au):over [] H=H:=rfl
theorem au1(d:Nat)(c:Chunk)(r:List (Nat×Chunk))(H:au):over ((d,c) :: r) H=br (over r H) d c:=rfl
theorem alD(H:au)(i:Nat):∀l:List (Nat×Chunk),over l H i=match bN l i with
  |some c=>some c
  |none=>H i
 | []=>rfl
 |(d,c) :: r=>by
  unfold over bN br;by_cases hi:i=d
  ·simp[hi]
  ·simp only[if_neg hi];exact alD H i r
def hiL:List (Nat×Chunk)->Prop
 | []=>True
 |(d,_) :: r=>1000000<=d/\hiL r
def zn(G:au):List (Nat×Chunk)->Prop
 | []=>True
 |(d,_) :: r=>G d≠none/\zn G r
def newL(G H:au):List (Nat×Chunk)->Prop
 | []=>True
 |(d,_) :: r=>(G d≠none\/H d=none)/\newL G H r
theorem aBM:hiL []=True:=rfl
theorem ay9(d:Nat)(c:Chunk)(r:List (Nat×Chunk)):hiL ((d,c) :: r)=(1000000<=d/\hiL r):=rfl
theorem aqO(G:au):zn G []=True:=rfl
theorem anY(G:au)(d:Nat)(c:Chunk)(r:List (Nat×Chunk)):zn G ((d,c) :: r)=(G d≠none/\zn G r):=rfl
theorem aza(G H:au):newL G H []=True:=rfl
theorem au2(G H:au)(d:Nat)(c:Chunk)(r:List (Nat×Chunk)):newL G H ((d,c) :: r)=((G d≠none\/H d=none)/\newL G H r):=rfl
theorem azb:∀ {l:List (Nat×Chunk)},hiL l->∀i,bN l i≠none->1000000<=i
 | [],_,i,h=>absurd rfl h
 |(d,c) :: r,hh,i,h=>by
  unfold bN br at h;split at h
  ·rename_i e;rw[e];exact hh.1
  ·exact azb hh.2 i h
theorem afw{G:au} : ∀ {l:List (Nat×Chunk)},zn G l->∀i,bN l i≠none->G i≠none
 | [],_,i,h=>absurd rfl h
 |(d,c) :: r,hh,i,h=>by
  unfold bN br at h;split at h
  ·rename_i e;rw[e];exact hh.1
  ·exact afw hh.2 i h
theorem asa{G H:au} : ∀ {l:List (Nat×Chunk)},newL G H l->∀i,bN l i≠none->G i≠none\/H i=none
 | [],_,i,h=>absurd rfl h
 |(d,c) :: r,hh,i,h=>by
  unfold bN br at h;split at h
  ·rename_i e;rw[e];exact hh.1
  ·exact asa hh.2 i h
section
variable{C:Ctx}{env:Env}{H H':au}{tm:Array Value}{w w':World}{I':Mem}{L':bA}{l0 l1:List (Nat×Chunk)}
theorem asb(hh:hiL l0):∀i l,L.to (bN l0) i=some l->1000000<=i:=λi l hl=>azb hh i (by
 obtain⟨c,hc⟩:=(to_eq hl).2;rw[hc];simp)
theorem gK.ade(h:gK C env H I L tm w)(h0:wo H l0)(hi:wq (bN l0) l0)(hh:hiL l0):gK (Ctx.ade w I 0 C.B (L.to (bN l0)) h.leB (asb hh)) gI (bN l0) I (L.to (bN l0)) #[] w :=
 {below:=Below.refl _ _
  mem:=h.mem
  lW:=Mem.eA I
  mS:=λ_ _ _ _=>rfl
  frame:=λ_ _ _=>rfl
  loc:=dS.refl _
  jO:=λid l b hl hb=>.inr ⟨id,l,hl,hb⟩
  size:=rfl
  env:=λ_=>.dead _
  dom:=λid l hl=>(to_eq hl).2
  chunk:=λid ch hch=>by obtain⟨c,hc1,hc2⟩:=aet h0 id ch hch;exact anX (h.chunk id c hc1) hc2 hch hi
  fT:=λid l b hl hb=>h.fT id l b (to_eq hl).1 hb
  apart:=λi j li lj b hi hj tA wJ=>h.apart i j li lj b (to_eq hi).1 (to_eq hj).1 tA wJ }
def aaD(l1:List (Nat×Chunk))(L' L:bA):bA:=λi=>match bN l1 i with
 |some _=>L' i
 |none=>L i
theorem vJ{i:Nat}(h:bN l1 i≠none):aaD l1 L' L i=L' i:=by
 unfold aaD;cases hc:bN l1 i with
 |none=>exact absurd hc h
 |some c=>rfl
theorem qw{i:Nat}(h:bN l1 i=none):aaD l1 L' L i=L i:=by unfold aaD;rw[h]
theorem anZ:dS (L'.to (bN l1)) (aaD l1 L' L):=λi=>by
 cases hl:L'.to (bN l1) i with
 |none=>trivial
 |some l =>
  obtain⟨e,c,hc⟩:=to_eq hl;have hb:aaD l1 L' L i=some l:=by rw[vJ (by rw[hc];simp)];exact e
  cases l with
  |box b=>exact hb
  |row v hdr sz=>exact⟨v,hdr,hb,le_refl _,λ_=>rfl⟩
  |deep v hdr sz sz' dx n=>exact⟨v,hdr,dx,n,hb,le_refl _,λ_=>⟨rfl,rfl,rfl⟩⟩
theorem gK.aCw(h:gK C env H I L tm w)(h0:wo H l0)(hh:hiL l0)
  (hs':gK (Ctx.ade w I 0 C.B (L.to (bN l0)) h.leB (asb hh)) gI H' I' L' #[] w')
  (h1:wo H' l1) (hi:wq (bN l1) l1) (hst:zn (bN l1) l0) (hnw:newL (bN l0) H l1) :
  gK C env (over l1 H) I' (aaD l1 L' L) tm w'/\dS (L'.to (bN l1)) (aaD l1 L' L):=by
 have hin0:∀i,bN l0 i≠none->H i≠none:=λi hi=>by
  cases hc:bN l0 i with
  |none=>exact absurd hc hi
  |some c=>obtain⟨c',h2,_⟩:=aet h0 i c hc;rw[h2];simp
 have hmem:∀i,bN l1 i≠none->H i≠none->bN l0 i≠none:=λi hi hH=>(asa hnw i hi).elim id λe=>absurd e hH
 have hLH:∀i l,L i=some l->H i≠none:=λi l hl=>by obtain⟨c,hc⟩:=h.dom i l hl;rw[hc];simp
 have amo:dS L (aaD l1 L' L):=λi=>by
  by_cases hi:bN l1 i=none
  ·rw[qw hi];exact dS.refl L i
  ·rw[vJ hi];cases hL:L i with
   |none=>trivial
   |some l=>have h2:=hmem i hi (hLH i l hL);have h3:L.to (bN l0) i=L i:=mo h2;have h4:=hs'.loc i;simp only[Ctx.ade,h3,hL] at h4;exact h4
 have azc:∀b,(∃i l,L.to (bN l0) i=some l/\l.has b)->∃i l,bN l0 i≠none/\L i=some l/\l.has b:=λb ⟨i,l,hl,hb⟩=>by obtain⟨e,c,hc⟩:=to_eq hl;exact⟨i,l,by rw[hc];simp,e,hb⟩
 have hfr:∀b,b<w.heap.size->(¬ ∃i l,L.to (bN l0) i=some l/\l.has b)->w'.heap[b]? = w.heap[b]?/\∀o,I' b o=I b o:=λb hb hn=>⟨hs'.frame b hb hn,λo=>hs'.mS b hb hn o⟩
 have hout:∀b,b<C.w0.heap.size->¬ C.aoR b->¬ ∃i l,L.to (bN l0) i=some l/\l.has b:=λb hb hn hx=>by
  obtain⟨i,l,_,hl,hlb⟩:=azc b hx;rcases h.jO i l b hl hlb with h2|h2
  ·omega
  ·exact hn h2
 have aCx:∀i l b,aaD l1 L' L i=some l->bN l1 i≠none->l.has b->w.heap.size<=b\/∃i l,bN l0 i≠none/\L i=some l/\l.has b:=λi l b hl hi hb=>by rw[vJ hi] at hl;exact (hs'.jO i l b hl hb).imp id (azc b)
 refine⟨?_,anZ⟩;exact
 {below:=h.below.trans hs'.below
  mem:=hs'.mem
  lW:=Mem.nK h.lW hs'.lW
  mS:=λb hb hf o=>by rw[(hfr b (lt_of_lt_of_le hb h.below.size) (hout b hb hf)).2 o];exact h.mS b hb hf o
  frame:=λb hb hf=>((hfr b (lt_of_lt_of_le hb h.below.size) (hout b hb hf)).1).trans (h.frame b hb hf)
  loc:=h.loc.trans amo
  jO:=λi l b hl hb=>by
   by_cases hi:bN l1 i=none
   ·rw[qw hi] at hl;exact h.jO i l b hl hb
   ·rcases aCx i l b hl hi hb with h2|⟨j,lj,_,h3,h4⟩
    ·exact .inl (le_trans h.below.size h2)
    ·exact h.jO j lj b h3 h4
  size:=h.size
  env:=λt=>(h.env t).mono hs'.lW amo
  dom:=λi l hl=>by
   rw[alD];cases hc:bN l1 i with
   |some c=>exact⟨c,rfl⟩
   |none=>rw[qw hc] at hl;exact h.dom i l hl
  chunk:=λi c hc=>by
   rw[alD] at hc;cases hc1:bN l1 i with
   |some c1=>rw[hc1] at hc;simp only[cC] at hc;subst hc;obtain⟨c',g1,g2⟩:=aet h1 i c1 hc1;exact (anX (hs'.chunk i c' g1) g2 hc1 hi).keep (Mem.eA I') anZ (by rw[vJ (by rw[hc1];simp),mo (by rw[hc1];simp)]) λ_ _ _ _=>⟨rfl,λ_=>rfl⟩
   |none =>
    rw[hc1] at hc;refine (h.chunk i c hc).keep hs'.lW amo (qw hc1) λl b hl hb=>hfr b (h.fT i l b hl hb).2 λhx=>?_
    obtain⟨j,lj,h2,h3,h4⟩:=azc b hx;have:=h.apart i j l lj b hl h3 hb h4;subst this;exact afw hst i h2 hc1
  fT:=λi l b hl hb=>by
   by_cases hi:bN l1 i=none
   ·rw[qw hi] at hl;exact⟨(h.fT i l b hl hb).1,lt_of_lt_of_le (h.fT i l b hl hb).2 hs'.below.size⟩
   ·rw[vJ hi] at hl;exact hs'.fT i l b hl hb
  apart:=λi j li lj b hi hj tA wJ=>by
   have one:∀i j li lj,aaD l1 L' L i=some li->aaD l1 L' L j=some lj->li.has b->lj.has b->bN l1 i≠none->bN l1 j=none->False:=λi j li lj hi hj tA wJ h2 h3=>by
    have hj':=hj;rw[qw h3] at hj';rcases aCx i li b hi h2 tA with h4|⟨k,lk,h4,h5,h6⟩
    ·have:=(h.fT j lj b hj' wJ).2;omega
    ·have:=h.apart k j lk lj b h5 hj' h6 wJ;subst this;exact afw hst k h4 h3
   by_cases h2:bN l1 i=none<;>by_cases h3:bN l1 j=none
   ·rw[qw h2] at hi;rw[qw h3] at hj;exact h.apart i j li lj b hi hj tA wJ
   ·exact (one j i lj li hj hi wJ tA h3 h2).elim
   ·exact (one i j li lj hi hj tA wJ h2 h3).elim
   ·rw[vJ h2] at hi;rw[vJ h3] at hj;exact hs'.apart i j li lj b hi hj tA wJ }
end
def isIn(c:Option Chunk)(a:AV)(r:Option AV):Option AV:=match c with
 |some _=>some a
 |none=>r
def aj2(r:Option (PV×Bool)):Option AV:=match r with
 |some (x,false)=>some (.p x)
 |_=>none
def ahM(G H:au):AV->Option AV
 | .ptr id off=>isIn (G id) (.ptr id off) none
 | .row id v=>isIn (G id) (.row id v) (aj2 (gL H (.row id v)))
 | .fm id v=>isIn (G id) (.fm id v) none
 |a=>aj2 (gL H a)
def xO(G H:au):List AV->Option (List AV)
 | []=>some []
 |a :: r=>match ahM G H a,xO G H r with
  |some x,some xs=>some (x :: xs)
  |_,_=>none
theorem au3(c:Chunk)(a:AV)(r:Option AV):isIn (some c) a r=some a:=rfl
theorem aqP(x:PV):aj2 (some (x,false))=some (.p x):=rfl
theorem au4(G H:au)(id off:Nat):ahM G H (.ptr id off)=isIn (G id) (.ptr id off) none:=rfl
theorem aBN(G H:au)(x:PV):ahM G H (.p x)=some (.p x):=rfl
theorem au5(G H:au)(cs:List AV):ahM G H (.agg cs)=aj2 (gL H (.agg cs)):=rfl
theorem aqQ(G H:au):xO G H []=some []:=rfl
theorem an0(G H:au)(a:AV)(r:List AV):xO G H (a :: r)=match ahM G H a,xO G H r with
  |some x,some xs=>some (x :: xs)
  |_,_=>none:=rfl
theorem azd{C:Ctx}{H G:au}{env:Env}{tm:Array Value}{w:World}(hs:gK C env H I L tm w){u:Value}{a x:AV}(hu:dV I L u a)(h:ahM G H a=some x):dV I (L.to G) u x:=by
 have hp:∀a,dV I L u a->aj2 (gL H a)=some x->dV I (L.to G) u x:=λa hu h=>by
  unfold aj2 at h;split at h
  ·rename_i y he;simp only[cC] at h;subst h;exact .p _ _ ((pX hs (vg H) (mD hs.mem) ((sv L w).g H) u a y false hu he).2 rfl)
  ·cases h
 unfold ahM at h;split at h
 ·rename_i id off;unfold isIn at h;split at h
  ·rename_i c hc;simp only[cC] at h;subst h;exact hu.to (by rw[aj1,hc];simp)
  ·cases h
 ·rename_i id v;unfold isIn at h;split at h
  ·rename_i c hc;simp only[cC] at h;subst h;exact hu.to (by rw[aj0,hc];simp)
  ·exact hp _ hu h
 ·rename_i id v;unfold isIn at h;split at h
  ·rename_i c hc;simp only[cC] at h;subst h;exact hu.to (by rw[ahL,hc];simp)
  ·cases h
 ·exact hp _ hu h
theorem afx{C:Ctx}{H G:au}{env:Env}{tm:Array Value}{w:World}(hs:gK C env H I L tm w):∀ {us:List Value} {eZ xs:List AV},oW I L us eZ->xO G H eZ=some xs->oW I (L.to G) us xs
 |us,[],xs,hu,h=>by simp only[xO,cC] at h;subst h;exact⟨by simpa using hu.1,by simp⟩
 | [],a :: r,xs,hu,h=>by have:=hu.1;simp at this
 |u :: us,a :: r,xs,hu,h=>by
  unfold xO at h;split at h
  ·rename_i x ys h1 h2;simp only[cC] at h;subst h;have k:=afx hs (us:=us) (eZ:=r) ⟨by have:=hu.1;simpa using this,λj u c hj hc=>hu.2 (j+1) u c hj hc⟩ h2;refine⟨by simp[k.1],λj u' c hj hc=>?_⟩;cases j with
   |zero=>simp at hj hc;subst hj hc;exact azd hs (hu.2 0 u a rfl rfl) h1
   |succ j=>exact k.2 j u' c (by simpa using hj) (by simpa using hc)
  ·cases h
theorem aev{o:Oper}{W:Env->au->Prop}{env:Env}{H:au}{k:FuncId}{eZ xs ys:List AV}{A:AV}{l0 l1:List (Nat×Chunk)}
  (c:ym P k (bN l0) ys λa H=>mV a A/\wo H l1) (ha:dA o (ev env)=some (k,eZ)) (hx:xO (bN l0) H eZ=some xs) (hy:qv xs ys)
  (hh:hiL l0) (h0:wo H l0/\wq (bN l0) l0) (h1:wq (bN l1) l1/\oE (bN l1) A) (hst:zn (bN l1) l0) (hnw:newL (bN l0) H l1)
  (hW:W (cA env o.dst A) (over l1 H)):abb P o W env H:=λC I L tm w σ hs hσ=>by
 obtain⟨us,hr,hu⟩:=ni ha c.1 hσ w;refine⟨k,_,hr,?_⟩;have hv:=afx hs hu hx;obtain⟨q1,q2⟩:=sH hy;have xD:oW I (L.to (bN l0)) us ys:=⟨hv.1.trans q1,λj u c hj hc=>by
  obtain⟨a,ha⟩:∃a,xs[j]? = some a:=by have hj:j<us.length:=(List.getElem?_eq_some_iff.1 hj).1;have hl:=hv.1;exact⟨xs[j]'(by omega),by simp[hl ▸ hj]⟩
  exact zm (hv.2 j u a hj ha) (q2 j a c ha hc)⟩
 refine (c.2 C.B I _ w us hs.leB (asb hh) (hs.ade h0.1 h0.2 hh) xD).mono λx w' ⟨u,a,H',I',L',m1,⟨m2,m3⟩,m4,m5⟩=>?_
 obtain⟨n1,n2⟩:=hs.aCw h0.1 hh m5 m3 h1.1 hst hnw;exact⟨u,I',_,A,_,m1,hW,((zm m4 m2).to h1.2).mono (Mem.eA _) n2,n1⟩
end Go.b7
namespace Go.b7
open Go.RowKit
variable{P:Program}{I:Mem}{L:bA}
def Mem.add(I:Mem)(b lo:Nat)(us:List Value):Mem:=λc o=>if c=b/\lo<=o/\o<lo+us.length then us[o-lo]? else I c o
theorem VR.asd{I:Mem}{u:Value}{es:List (List PV)}(h:VR I u (.aL es)):∃ao cap,∃us:List Value,u = .slice ao es.length cap/\us.length=es.flatten.length/\(∀ (j:Nat) u c,us[j]? = some u->es.flatten[j]? = some c->VR I u c) /\
  (∀u∈us,u.oneCell'=true)/\(us=[]\/∃b off,ao=some ⟨b,off,none⟩/\∀ (j:Nat) u,us[j]? = some u->I b (off+j)=some u)/\es.length<=cap:=by
 cases h with
 |aL ao n cap _ us sz hn hsz hl hv hone hm hnil hcap=>subst hn;exact⟨ao,cap,us,rfl,hl,hv,hone,hm,hcap⟩
theorem anx{H' H:au}{id v:Nat}{e:TypeId}{sz:Nat}{es:List (List PV)}(h:qP H' H):qP (br H' id (.tail v e sz es)) H:=λi c' hi=>by
 unfold br at hi;split at hi
 ·cases hi
 ·exact h i c' hi
theorem ahN{α:Type}{cs:List α}{off:Nat}{new:List α}(h:off+new.length<=cs.length)(j:Nat):(splice cs off new)[j]? = if off<=j/\j<off+new.length then new[j-off]? else cs[j]?:=by
 unfold splice;rw[append_assoc,getElem?_append,length_take,getElem?_append,getElem?_take,getElem?_drop];by_cases h1:j<off
 ·rw[if_pos (by omega),if_pos h1,if_neg (by omega)]
 ·rw[if_neg (by omega)];by_cases h2:j<off+new.length
  ·rw[if_pos (by omega),if_pos (by omega),show j-min off cs.length=j-off by omega]
  ·rw[if_neg (by omega),if_neg (by omega),show off+new.length+(j-min off cs.length-new.length)=j by omega]
end Go.b7
namespace Go.b7
open Go.RowKit
variable{P:Program}{I:Mem}{L:bA}
def sw(s t i:Nat):Nat:=if i=s then t else if i=t then s else i
theorem qx(s t i:Nat):sw s t (sw s t i)=i:=by
 unfold sw;split
 ·rename_i h;subst h;split
  ·assumption
  ·rw[if_pos rfl]
 ·split
  ·rename_i h;subst h;rw[if_pos rfl]
  ·rfl
mutual
def jo(s t:Nat):AV->AV
 | .row id v=>.row (sw s t id) v
 | .ptr id o=>.ptr (sw s t id) o
 | .jG id v i o=>.jG (sw s t id) v i o
 | .agg cs=>.agg (oH s t cs)
 | .dH cs=>.dH (oH s t cs)
 | .jk f a b=>.jk f (oH s t a) (oH s t b)
 | .fm id v=>.fm (sw s t id) v
 | .lF id v i o=>.lF (sw s t id) v i o
 | .lG id v i=>.lG (sw s t id) v i
 | .oB id v i j o=>.oB (sw s t id) v i j o
 | .bsl id n=>.bsl (sw s t id) n
 | .iV id v o n m z=>.iV (sw s t id) v o n m z
 |x=>x
def oH(s t:Nat):List AV->List AV
 | []=>[]
 |a :: r=>jo s t a :: oH s t r
end
theorem vk{s t:Nat} : ∀ {cs:List AV} {j:Nat} {c:AV},(oH s t cs)[j]? = some c->∃d,cs[j]? = some d/\c=jo s t d
 | [],j,c,h=>by simp[oH] at h
 |a :: r,0,c,h=>by unfold oH at h;simp only[getElem?_cons_zero,cC] at h;exact⟨a,rfl,h.symm⟩
 |a :: r,j+1,c,h=>by unfold oH at h;exact vk (cs:=r) (by simpa using h)
theorem o4{s t:Nat} : ∀cs:List AV,(oH s t cs).length=cs.length
 | []=>rfl
 |a :: r=>by unfold oH;simp[o4 r]
def aqR(s t:Nat):Chunk->Chunk
 | .box cs=>.box (oH s t cs)
 |c=>c
def aze(s t:Nat):Option Chunk->Option Chunk
 |some c=>some (aqR s t c)
 |none=>none
def acD(s t:Nat)(env:Env):Env:=λi=>jo s t (env i)
def aew(s t:Nat)(H:au):au:=λi=>aze s t (H (sw s t i))
def adM(s t:Nat)(L:bA):bA:=λi=>L (sw s t i)
theorem dV.ren{s t:Nat}{u:Value}{a:AV}(h:dV I L u a):dV I (adM s t L) u (jo s t a):=by
 induction h with
 |p u x h=>unfold jo;exact .p u x h
 |row u id bg v hdr sz hl hle h h1=>unfold jo;exact .row u _ bg v hdr sz (by unfold adM;rw[qx];exact hl) hle h h1
 |ptr id b off hl=>unfold jo;exact .ptr _ b off (by unfold adM;rw[qx];exact hl)
 |jG u id bg v i off hdr sz hl hle h h1=>unfold jo;exact .jG u _ bg v i off hdr sz (by unfold adM;rw[qx];exact hl) hle h h1
 |agg us cs hl _ hone ih=>unfold jo;refine .agg us _ (by rw[o4];exact hl) (λj u c hu hc=>?_) hone;obtain⟨d,hd,rfl⟩:=vk hc;exact ih j u d hu hd
 |dH us cs hl _ ih=>unfold jo;refine .dH us _ (by rw[o4];exact hl) (λj u c hu hc=>?_);obtain⟨d,hd,rfl⟩:=vk hc;exact ih j u d hu hd
 |jk fn us vs fs cs hl hl' _ _ ih ih' =>
  unfold jo;refine .jk fn us vs _ _ (by rw[o4];exact hl) (by rw[o4];exact hl') (λj u c hu hc=>?_) (λj u c hu hc=>?_)
  ·obtain⟨d,hd,rfl⟩:=vk hc;exact ih j u d hu hd
  ·obtain⟨d,hd,rfl⟩:=vk hc;exact ih' j u d hu hd
 |dead u=>unfold jo;exact .dead u
 |bsl id b n hl=>unfold jo;exact .bsl _ b n (by unfold adM;rw[qx];exact hl)
 |iV a id bg v off n m c hdr sz hl hle hn hm hz h=>unfold jo;exact .iV a _ bg v off n m c hdr sz (by unfold adM;rw[qx];exact hl) hle hn hm hz h
 |fm u id bg v hdr sz sz' dx n hl hle h h1=>unfold jo;exact .fm u _ bg v hdr sz sz' dx n (by unfold adM;rw[qx];exact hl) hle h h1
 |lF u id bg v i off hdr sz sz' dx n hl hle h h1=>unfold jo;exact .lF u _ bg v i off hdr sz sz' dx n (by unfold adM;rw[qx];exact hl) hle h h1
 |lG u id bg v i hdr sz sz' dx n hl hle h h1=>unfold jo;exact .lG u _ bg v i hdr sz sz' dx n (by unfold adM;rw[qx];exact hl) hle h h1
 |oB u id bg v i j off hdr sz sz' dx n hl hle h h1=>unfold jo;exact .oB u _ bg v i j off hdr sz sz' dx n (by unfold adM;rw[qx];exact hl) hle h h1
theorem qL.ren{s t:Nat}{w:World}{B id:Nat}{c:Chunk}(h:qL I L w B (sw s t id) c):qL I (adM s t L) w B id (aqR s t c):=by
 cases c with
 |box cs=>obtain⟨b,arr,e,g1,g2,g3,g4,g5,g6⟩:=h;refine⟨b,arr,e,g1,g2,by rw[o4];exact g3,λj u c hu hc=>?_,g5,g6⟩;obtain⟨d,hd,rfl⟩:=vk hc;exact (g4 j u d hu hd).ren
 |row bg e sz es=>exact h
 |shut bg es=>exact h
 |tail bg e sz es=>exact h
 |deep bg e sz k e' sz' es=>exact h
theorem aBO(s t:Nat)(env:Env)(i:Nat):acD s t env i=jo s t (env i):=rfl
theorem aBP(s t:Nat)(H:au)(i:Nat):aew s t H i=aze s t (H (sw s t i)):=rfl
theorem aEP(s t i:Nat):sw s t i=if i=s then t else if i=t then s else i:=rfl
theorem azf(s t id v:Nat):jo s t (.row id v) = .row (sw s t id) v:=by simp only[jo]
theorem azg(s t id v:Nat):jo s t (.ptr id v) = .ptr (sw s t id) v:=by simp only[jo]
theorem aDf(s t:Nat)(x:PV):jo s t (.p x) = .p x:=by simp only[jo]
theorem au6(s t id v:Nat):jo s t (.fm id v) = .fm (sw s t id) v:=by simp only[jo]
theorem au7(s t v:Nat)(e:TypeId)(sz k:Nat)(e':TypeId)(sz':Nat)(es:List (List PV)):aqR s t (.deep v e sz k e' sz' es) = .deep v e sz k e' sz' es:=rfl
theorem azh(s t:Nat)(cs:List AV):jo s t (.agg cs) = .agg (oH s t cs):=by simp only[jo]
theorem au8(s t:Nat):oH s t []=[]:=by simp only[oH]
theorem aqS(s t:Nat)(a:AV)(r:List AV):oH s t (a :: r)=jo s t a :: oH s t r:=by simp only[oH]
theorem au9(s t:Nat)(c:Chunk):aze s t (some c)=some (aqR s t c):=rfl
theorem ava(s t:Nat):aze s t none=none:=rfl
theorem azi(s t:Nat)(cs:List AV):aqR s t (.box cs) = .box (oH s t cs):=rfl
theorem azj(s t v:Nat)(e:TypeId)(sz:Nat)(es:List (List PV)):aqR s t (.row v e sz es) = .row v e sz es:=rfl
theorem avb(s t v:Nat)(es:List (List PV)):aqR s t (.shut v es) = .shut v es:=rfl
attribute [go_sem] au6 au7 aBO aBP aEP azf azg aDf azh au8 aqS au9 ava azi azj avb ay8 au1 aBM ay9 aqO anY aza au2 au3 aqP au4 aBN au5 aqQ an0
end Go.b7
namespace Go.b7
open Go.RowKit
variable{P:Program}{I:Mem}{L:bA}
theorem gK.change{C:Ctx}{env:Env}{H H':au}{I':Mem}{L':bA}{tm:Array Value}{w w':World}(h:gK C env H I L tm w)(hb:Below C.B w w')(S:Nat->Prop)
  (hk:∀b,b<w.heap.size->(¬ ∃i l,S i/\L i=some l/\l.has b)->w'.heap[b]? = w.heap[b]?/\∀o,I' b o=I b o) (hle:dS L L') (hsub:I.sub I') (hIw:I'.inW w')
  (hS:∀i,¬ S i->L' i=L i/\H' i=H i) (hdom:∀i l,S i->L' i=some l->∃c,H' i=some c) (hch:∀i c,S i->H' i=some c->qL I' L' w' C.B i c)
  (hblk:∀i l b,S i->L' i=some l->l.has b->(∃j lj,S j/\L j=some lj/\lj.has b)\/(w.heap.size<=b/\b<w'.heap.size))
  (hap:∀i j li lj b,S i->S j->L' i=some li->L' j=some lj->li.has b->lj.has b->i=j):gK C env H' I' L' tm w':=by
 have hold:∀b,b<C.w0.heap.size->¬ C.aoR b->¬ ∃i l,S i/\L i=some l/\l.has b:=λb hb hn ⟨i,l,_,hl,hlb⟩=>by
  rcases h.jO i l b hl hlb with h2|h2
  ·omega
  ·exact hn h2
 have hlt:∀b,b<C.w0.heap.size->b<w.heap.size:=λb hb=>lt_of_lt_of_le hb h.below.size
 have tK:∀i l b,¬ S i->L i=some l->l.has b->¬ ∃j lj,S j/\L j=some lj/\lj.has b:=λi l b hi hl hlb ⟨j,lj,hj,hlj,hjb⟩=>by have:=h.apart i j l lj b hl hlj hlb hjb;subst this;exact hi hj
 exact
 {below:=h.below.trans hb
  mem:=hIw
  lW:=Mem.nK h.lW hsub
  mS:=λb hb hf o=>by rw[(hk b (hlt b hb) (hold b hb hf)).2 o];exact h.mS b hb hf o
  frame:=λb hb hf=>((hk b (hlt b hb) (hold b hb hf)).1).trans (h.frame b hb hf)
  loc:=h.loc.trans hle
  jO:=λi l b hl hlb=>by
   by_cases hi:S i
   ·rcases hblk i l b hi hl hlb with ⟨j,lj,_,hj,hjb⟩|h2
    ·exact h.jO j lj b hj hjb
    ·exact .inl (le_trans h.below.size h2.1)
   ·rw[(hS i hi).1] at hl;exact h.jO i l b hl hlb
  size:=h.size
  env:=λt=>(h.env t).mono hsub hle
  dom:=λi l hl=>by
   by_cases hi:S i
   ·exact hdom i l hi hl
   ·rw[(hS i hi).1] at hl;rw[(hS i hi).2];exact h.dom i l hl
  chunk:=λi c hc=>by
   by_cases hi:S i
   ·exact hch i c hi hc
   ·rw[(hS i hi).2] at hc;exact (h.chunk i c hc).keep hsub hle (hS i hi).1 λl b hl hlb=>hk b (h.fT i l b hl hlb).2 (tK i l b hi hl hlb)
  fT:=λi l b hl hlb=>by
   by_cases hi:S i
   ·rcases hblk i l b hi hl hlb with ⟨j,lj,_,hj,hjb⟩|h2
    ·exact⟨(h.fT j lj b hj hjb).1,lt_of_lt_of_le (h.fT j lj b hj hjb).2 hb.size⟩
    ·exact⟨le_trans h.leB h2.1,h2.2⟩
   ·rw[(hS i hi).1] at hl;exact⟨(h.fT i l b hl hlb).1,lt_of_lt_of_le (h.fT i l b hl hlb).2 hb.size⟩
  apart:=λi j li lj b hi hj tA wJ=>by
   have one:∀i j li lj,S i->¬ S j->L' i=some li->L' j=some lj->li.has b->lj.has b->False:=λi j li lj hi hj hli hlj tA wJ=>by
    rw[(hS j hj).1] at hlj;rcases hblk i li b hi hli tA with hx|h2
    ·exact tK j lj b hj hlj wJ hx
    ·have:=(h.fT j lj b hlj wJ).2;omega
   by_cases h1:S i<;>by_cases h2:S j
   ·exact hap i j li lj b h1 h2 hi hj tA wJ
   ·exact (one i j li lj h1 h2 hi hj tA wJ).elim
   ·exact (one j i lj li h2 h1 hj hi wJ tA).elim
   ·rw[(hS i h1).1] at hi;rw[(hS j h2).1] at hj;exact h.apart i j li lj b hi hj tA wJ }
theorem gK.ren{C:Ctx}{env:Env}{H:au}{tm:Array Value}{w:World}(hs:gK C env H I L tm w){s t:Nat}(h0s:C.L0 s=none)(h0t:C.L0 t=none):gK C (acD s t env) (aew s t H) I (adM s t L) tm w :=
 {below:=hs.below
  mem:=hs.mem
  lW:=hs.lW
  mS:=hs.mS
  frame:=hs.frame
  loc:=λi=>by
   by_cases h1:i=s
   ·subst h1;rw[h0s];trivial
   ·by_cases h2:i=t
    ·subst h2;rw[h0t];trivial
    ·have:adM s t L i=L i:=by unfold adM sw;rw[if_neg h1,if_neg h2]
     rw[this];exact hs.loc i
  jO:=λid l b hl hb=>hs.jO _ l b hl hb
  size:=hs.size
  env:=λi=>(hs.env i).ren
  dom:=λid l hl=>by obtain⟨c,hc⟩:=hs.dom _ l hl;exact⟨_,by unfold aew;rw[hc];rfl⟩
  chunk:=λid ch hch=>by
   unfold aew at hch;cases hc:H (sw s t id) with
   |none=>rw[hc] at hch;cases hch
   |some c=>rw[hc] at hch;simp only[aze,cC] at hch;subst hch;exact (hs.chunk _ c hc).ren
  fT:=λid l b hl hb=>hs.fT _ l b hl hb
  apart:=λi j li lj b hi hj tA wJ=>by
   have:=hs.apart _ _ li lj b hi hj tA wJ;have h2:=congrArg (sw s t) this;rwa [qx,qx] at h2 }
mutual
theorem aj3(s t:Nat):∀a:AV,jo s t (jo s t a)=a
 | .p _=>by simp only[jo]
 | .row _ _=>by simp only[jo,qx]
 | .ptr _ _=>by simp only[jo,qx]
 | .jG _ _ _ _=>by simp only[jo,qx]
 | .agg cs=>by simp only[jo,tL s t cs]
 | .dH cs=>by simp only[jo,tL s t cs]
 | .jk _ a b=>by simp only[jo,tL s t a,tL s t b]
 | .fm _ _=>by simp only[jo,qx]
 | .lF _ _ _ _=>by simp only[jo,qx]
 | .lG _ _ _=>by simp only[jo,qx]
 | .oB _ _ _ _ _=>by simp only[jo,qx]
 | .bsl _ _=>by simp only[jo,qx]
 | .iV _ _ _ _ _ _=>by simp only[jo,qx]
 | .dead=>by simp only[jo]
theorem tL(s t:Nat):∀l:List AV,oH s t (oH s t l)=l
 | []=>by simp only[oH]
 |a :: r=>by simp only[oH,aj3 s t a,tL s t r]
end
theorem aj4(s t:Nat)(env:Env):acD s t (acD s t env)=env:=by funext i;simp only[acD,aj3]
theorem avc(s t:Nat)(env:Env)(d:Option Tmp)(a:AV):acD s t (cA env d a)=cA (acD s t env) d (jo s t a):=by
 cases d with
 |none=>rfl
 |some k=>funext i;show jo s t (c9 env k a i)=c9 (acD s t env) k (jo s t a) i;unfold c9;split<;>rfl
theorem aDg(s t:Nat)(env:Env)(x:Operand):ev (acD s t env) x=jo s t (ev env x):=by
 cases x with
 |tmp k=>rfl
 |const v =>
  show aa1 v=jo s t (aa1 v);have:∃p,aa1 v = .p p\/aa1 v = .dead:=by unfold aa1;split<;>first|exact⟨_,.inl rfl⟩|exact⟨default,.inr rfl⟩|(split<;>first|exact⟨_,.inl rfl⟩|exact⟨default,.inr rfl⟩)
  obtain⟨p,h|h⟩:=this<;>rw[h]<;>simp only[jo]
 |global g=>simp only[ev,jo]
 |func f=>simp only[ev,jo]
theorem kE{o:Oper}{W:Env->au->Prop}{env:Env}{H:au}(s t:Nat)(hs1:s<1000000)(ht:H t=none)(h:abb P o (λe G=>W (acD s t e) (aew s t G)) (acD s t env) (aew s t H)):abb P o W env H:=λC I L tm w σ hs hσ=>by
 have hLt:L t=none:=hs.tw ht;have h0t:C.L0 t=none:=by
  cases h:C.L0 t with
  |none=>rfl
  |some l =>
   have:=hs.loc t;rw[h] at this;cases l with
   |box b=>rw[hLt] at this;cases this
   |row v hdr sz=>obtain⟨_,_,h2,_⟩:=this;rw[hLt] at h2;cases h2
   |deep v hdr sz sz' dx n=>obtain⟨_,_,_,_,h2,_⟩:=this;rw[hLt] at h2;cases h2
 have h0s:C.L0 s=none:=by
  cases h:C.L0 s with
  |none=>rfl
  |some l=>have:=C.hL0 s l h;omega
 obtain⟨k,args,q1,q2⟩:=h C I _ tm w σ (hs.ren h0s h0t) λx=>by rw[aDg];exact (hσ x).ren
 refine⟨k,args,q1,q2.mono λe w' ⟨v,I',L',a,H',m1,m2,m3,m4⟩=>⟨v,I',adM s t L',jo s t a,aew s t H',m1,?_,m3.ren,?_⟩⟩
 ·have:acD s t (cA (acD s t env) o.dst a)=cA env o.dst (jo s t a):=by rw[avc,aj4]
  rw[<-this];exact m2
 ·have:=m4.ren h0s h0t;rwa [aj4] at this
theorem an1{C:Ctx}{H:au}{env:Env}{tm:Array Value}{w:World}(hs:gK C env H I L tm w){d:Nat}(hd:H d=none)(e:TypeId){sz k:Nat}(hpos:k<sz)(e':TypeId)(sz':Nat) :
  dV I (cc L d (.deep 0 (.slice none 0 0) sz sz' (λ_=>.slice none 0 0) 0)) (.slice none 0 0) (.fm d 0)/\Fr C I L H w I (cc L d (.deep 0 (.slice none 0 0) sz sz' (λ_=>.slice none 0 0) 0)) (br H d (.deep 0 e sz k e' sz' [])) w /\
   dS L (cc L d (.deep 0 (.slice none 0 0) sz sz' (λ_=>.slice none 0 0) 0)):=by
 refine⟨.fm _ d 0 0 (.slice none 0 0) sz sz' (λ_=>.slice none 0 0) 0 (by simp[cc]) (le_refl _) (λ_=>rfl) rfl,λenv tm hs=>?_,dS.vn (hs.tw hd) _⟩;refine hs.new (Below.refl _ _) (λ_ _=>rfl) hd _ _ ?_ (λb hb=>?_)
 ·refine⟨.slice none 0 0,[],λ_=>.slice none 0 0,by simp[cc],⟨⟨by simp[fJ],.inl ⟨rfl,by simp[fJ]⟩⟩,by omega,by simp[fJ],by simp,by simp,λb hb=>by cases hb⟩,rfl,hpos,by simp,λi x hx=>by simp at hx,λi b hi=>by simp at hi,λi j b hi=>by simp at hi⟩
 ·rcases hb with hb|⟨i,hi,_⟩
  ·cases hb
  ·omega
theorem avd{e:Env}{H:au}(t id:Nat)(ty:TypeId)(sz k:Nat)(e':TypeId)(sz':Nat)(ht:e t = .p (.val (.slice none 0 0)))(hid:H id=none)(hsz:k<sz) :
  c8 e H (c9 e t (.fm id 0)) (br H id (.deep 0 ty sz k e' sz' [])):=λC I L tm w hs=>by
 obtain⟨n1,n2,n3⟩:=an1 hs hid ty hsz e' sz';have hs':=n2 e tm hs;refine⟨I,_,{ hs' with env:=λi=>?_ }⟩;unfold c9;split
 ·rename_i hi;subst hi;have:=hs.env i;rw[ht] at this;rw[this.dI.1];exact n1
 ·exact hs'.env i
theorem ave(k:Nat)(dx:Nat->Value)(es:List (List PV))(i:Nat)(x:List PV)(p:PV)(hx:es[i]? = some x):fJ k dx (es.set i (x.set k p))=fJ k dx es:=by
 apply ext_getElem?;intro j;rw[ve,ve,getElem?_set];split
 ·rename_i h;subst h;have hi:=(List.getElem?_eq_some_iff.1 hx).1;rw[if_pos hi,hx];simp[set_set]
 ·rfl
theorem ahO{o:Oper}{W:Env->au->Prop}{env:Env}{H:au}(t:TypeId)(a x:Operand)(id v i j:Nat)(e:TypeId)(sz k:Nat)(e':TypeId)(es:List (List PV))(el:List PV)(l:List (List PV))(p:PV)(hop:o.op = .store t a x)
  (hn:bf P t=some 1) (ha:ev env a = .oB id v i j 0) (hx:ev env x = .p p) (hp1:(b8 (.p p))=[.p p]/\p.one=true) (hH:H id=some (.deep v e sz k e' 1 es)) (hel:es[i]? = some el) (hl:el[k]? = some (.aL l)) (hj:j<l.length)
  (hW:W (cA env o.dst .dead) (br H id (.deep v e sz k e' 1 (es.set i (el.set k (.aL (l.set j [p]))))))):iU P o W env H:=by
 refine .inr (.inr (.inl ⟨_,_,hW,λC I L tm w σ hs hσ=>?_⟩));have hav:=hσ a;have hxv:=hσ x;rw[ha] at hav;rw[hx] at hxv;obtain⟨hdr,us,dx,q1,q2,q3,q4,q5,q6,q7⟩:=hs.chunk id _ hH;have hil:i<es.length:=(List.getElem?_eq_some_iff.1 hel).1;obtain⟨l',ius,r1,r2,r3⟩:=q6 i el hel;rw[hl] at r1;simp only[cC,PV.aL.injEq] at r1;subst r1;have hs':(execOp σ o).run P w=(do Instr.storeAt t (σ a) (σ x);pure .skip:Sem Next).run P w:=by unfold execOp;rw[hop]
 obtain⟨un,u1,u2,u3,u4⟩:=cells_one hxv (by rw[hp1.1];simp[oC,hp1.2]);rw[hp1.1] at u2 u3;have hpin:0<es.length:=by omega
 generalize hua:σ a=ua at *;cases hav with
 |oB _ _ _ v1 _ _ _ mT _ _ aaZ n1 qq hle hh hone =>
  rw[q1] at qq;simp only[cC,Loc.deep.injEq] at qq;obtain⟨e1,e2,e3,e4,e5,e6⟩:=qq;subst e1 e2 e3 e4 e5 e6;obtain⟨g,o0,m,cap,g1,rfl⟩:=hh rfl;rcases r2.own.2 with ⟨akN,_⟩|⟨g',cp,cur,heq,hbg,hgg,hnc,hcm,hcz,kL⟩
  ·rw[akN] at g1;cases g1
  have aEQ:=heq;rw[g1] at heq;simp only[Value.slice.injEq,cC,Addr.mk.injEq] at heq;obtain⟨⟨e3,e0,_⟩,e4,e5⟩:=heq;subst e3 e0 e4 e5;have tA:(dx i).ownBlock=some g:=by rw[aEQ];rfl
  have hcap:l.length<=cur.size:=by omega
  have hul:un.length=1:=by simpa using u2
  have hr:=zb hn u1 hul hgg (off:=j) (by omega) u4;have e8:(0:Nat)+(j * 1+0)=j:=by omega
  rw[e8] at hs';have hil':ius.length=l.length:=by have:=r2.own.1;omega
  have hkeep:∀ (b:Nat),b≠g->(w.setRow g (splice cur.toList j un).toArray).heap[b]? = w.heap[b]?:=λb hb=>setRow_other w g b _ hb
  have hgw:g<w.heap.size:=(Array.getElem?_eq_some_iff.1 hgg).1;have hgB:C.B<=g:=hbg;refine⟨undef,_,I,L,.inr ⟨by rw[hs'];exact ag2 hr,rfl⟩,.dead _,λenv tm hs=>?_⟩;refine hs.change (pW _ hgB) (λz=>z=id) (λb hb hnb=>⟨hkeep b λhbg=>hnb ⟨id,_,rfl,q1,by rw[hbg];exact .inr ⟨i,hil,tA⟩⟩,λ_=>rfl⟩) (dS.refl L) (Mem.eA I) (hs.mem.keep λb ⟨o,u,hu⟩=>hkeep b λhbg=>by rw[hbg,r2.free g tA o] at hu;cases hu)
   (λz hz=>⟨rfl,by simp[br,hz]⟩) (λz l hz hl=>⟨_,by simp[br,hz];rfl⟩) (λz c hz hc=>?_) (λz l b hz hl hb=>.inl ⟨z,l,hz,hl,hb⟩) (λz z' _ _ _ hz hz' _ _ _ _=>by rw[hz,hz'])
  subst hz;have:Chunk.deep v e sz k e' 1 (es.set i (el.set k (.aL (l.set j [p]))))=c:=by simpa[br] using hc
  subst this;have y9:fJ k dx (es.set i (el.set k (.aL (l.set j [p]))))=fJ k dx es:=ave k dx es i el _ hel;refine⟨hdr,us,dx,by rw[length_set];exact q1,?_,q3,q4,λy hy=>?_,λi' x' hx'=>?_,by rw[length_set];exact q7⟩
  ·rw[y9];exact q2.keep (Mem.eA I) λb hb=>⟨hkeep b λhbg=>q7.1 i g hil tA (by rw[<-hbg];exact hb),λ_=>rfl⟩
  ·rcases mem_or_eq_of_mem_set hy with h|h
   ·exact q5 y h
   ·subst h;rw[length_set];exact q5 el (mem_of_getElem? hel)
  ·rw[getElem?_set] at hx';split at hx'
   ·rename_i hii;subst hii;simp only[cC] at hx';subst hx';have qG:k<el.length:=(List.getElem?_eq_some_iff.1 hl).1;have htk:(splice cur.toList j un).take (l.length * 1)=splice ius j un:=by rw[wQ (by omega) (by simp;omega),kL]
    refine⟨l.set j [p],splice ius j un,by simp[qG],⟨⟨?_,.inr ⟨g,cap,(splice cur.toList j un).toArray,by rw[length_set];exact aEQ,hbg,setRow_heap w g cur _ e' _ hgg,by rw[length_set];exact hnc,hcm,?_,by rw[length_set];exact htk⟩⟩,r2.pos,λy hy=>?_,?_,vr r2.one u4,r2.free⟩,r3⟩
    ·rw[length_set,dD (by omega)];omega
    ·simp only[size_toArray];rw[dD (by simp only[Array.length_toList];omega)];simpa using hcz
    ·rcases mem_or_eq_of_mem_set hy with h|h
     ·exact r2.all y h
     ·subst h;rfl
    ·have hm:(l.getD j []).length=1:=r2.all _ (by
      have:l.getD j []=l[j]:=by simp[hj]
      rw[this];exact pT _)
     have hsp:splice (l.getD j []) 0 [p]=[p]:=by unfold splice;rw[take_zero,drop_eq_nil_of_le (by rw[hm];simp)];rfl
     have:=aa6 r2.all j hj 0 [p] (by simp);rw[hsp] at this;rw[this];have e9:j * 1+0=j:=by omega
     rw[e9];exact adz (by rw[bJ r2.all];omega) (by simpa using u2) r2.val (λq u c hu hc=>by
      have:=u3 q u (.p c) hu (by
       cases q with
       |zero=>simp at hc ⊢;exact hc
       |succ q=>simp at hc)
      exact this.nE)
   ·rename_i hii;obtain⟨l2,us2,m1,m2,m3⟩:=q6 i' x' hx';have aJb:i'<es.length:=(List.getElem?_eq_some_iff.1 hx').1;exact⟨l2,us2,m1,m2.keep (Mem.eA I) λb hb=>⟨hkeep b λhbg=>hii (q7.2 i i' g hil aJb tA (by rw[<-hbg];exact hb)),λ_=>rfl⟩,m3⟩
theorem ahP{w:World}{B:Nat}{t1 ty e:TypeId}{i:TypeInfo}{z:Value}{sz rY:Nat}(hu:P.underlying t1=some (.slice e))(hi:P.info? e=some i)(hz:i.zero=some z)(hsz:i.size=sz)(hby:i.bytes=rY)(hzc:z.cells.size=sz)(hpos:0<sz)
  {x:Value} {n:Nat} {us:List Value} (q2:w.ownsRow B e sz x n us) {bb off m cap:Nat} {nus:List Value} (agp:nus.length=m * sz) (hnews:∀ (j:Nat) v,nus[j]? = some v->w.cell? ((⟨bb,off,none⟩:Addr).add j)=some v) (hnone:∀u∈nus,u.oneCell'=true) (hm:0<m)
  (ag1:n+m<=maxLen) (hb:(n+m) * rY<=140737488355328) (hB:B<=w.heap.size) :
  ∃v' w',(Builtin.append_ #[t1,t1] ty #[x,.slice (some ⟨bb,off,none⟩) m cap]).run P w = .ok v' w'/\w'.ownsRow B e sz v' (n+m) (us++nus)/\w.grownBy w' x.ownBlock /\
   (∀b,v'.ownBlock=some b->x.ownBlock=some b\/(w.heap.size<=b/\b<w'.heap.size))/\v'.oneCell'=true:=by
 obtain⟨v',w',hr,ho,hg,_⟩:=run_append_own (P:=P) w B t1 ty e i z sz rY hu hi hz hsz hby hzc hpos x n us q2 ⟨bb,off,none⟩ m cap nus agp hnews hnone ag1 hb hB
 refine⟨v',w',hr,ho,hg,?_,?_⟩
 ·rcases q2.2 with ⟨rfl,hn0⟩|⟨g,cp,cur,rfl,hbg,hgg,hnc,hcm,hcs,kL⟩
  ·obtain⟨cp,rest,hr2,_⟩:=qb (P:=P) (ty:=ty) hu hi hz hsz none ⟨bb,off,none⟩ m cap nus w agp hnews (by omega) (by rw[hby];rw[hn0,zero_add] at hb;exact hb) (by simp only[maxLen] at ag1;omega);rw[hr2] at hr;simp only[Result.ok.injEq] at hr;obtain⟨rfl,rfl⟩:=hr;intro b hb;simp only[Value.ownBlock,cC] at hb;subst hb;exact .inr ⟨le_refl _,by simp⟩
  ·by_cases hroom:n+m<=cp
   ·have hfit:n * i.size+nus.length<=cur.size:=by rw[agp,hcs,hsz,<-add_mul];exact mul_le_mul_right _ hroom
    have hr2:=run_append_room (P:=P) w t1 ty e i hu hi g n cp cur hgg ⟨bb,off,none⟩ m cap nus (by rw[hsz];exact agp) hnews hnone hroom hfit;rw[hr2] at hr;simp only[Result.ok.injEq] at hr;obtain⟨rfl,rfl⟩:=hr;intro b hb;exact .inl hb
   ·have holds:∀j u,us[j]? = some u->w.cell? ((⟨g,0,none⟩:Addr).add j)=some u:=q2.cells (g:=g) rfl;have hr2:=run_append_grow (P:=P) w t1 ty e i z hu hi hz ⟨g,0,none⟩ n cp us (by rw[hsz];exact q2.1) holds ⟨bb,off,none⟩ m cap nus (by rw[hsz];exact agp) hnews (by omega) (by simp only[maxLen] at ag1;omega)
     (growslice_fits (by omega) (by rw[hby];exact hb))
    rw[hr2] at hr;simp only[Result.ok.injEq] at hr;obtain⟨rfl,rfl⟩:=hr;intro b hb;simp only[Value.ownBlock,cC] at hb;subst hb;exact .inr ⟨le_refl _,by simp⟩
 ·rcases ho.2 with ⟨rfl,_⟩|⟨_,_,_,rfl,_⟩<;>rfl
theorem wZ(k:Nat):∀ (es:List (List PV)) (dx lV:Nat->Value),(∀i,i<es.length->dx i=lV i)->fJ k dx es=fJ k lV es
 | [],_,_,_=>rfl
 |x :: r,dx,lV,h=>by simp only[fJ];rw[h 0 (by simp),wZ k r _ _ λi hi=>h (i+1) (by simp;omega)]
theorem ahQ(k:Nat):∀ (es:List (List PV)) (dx:Nat->Value) (x:List PV),fJ k dx (es++[x])=fJ k dx es++[x.set k (.val (dx es.length))]
 | [],_,_=>rfl
 |y :: r,dx,x=>by simp only[cons_append,fJ,ahQ k r,length_cons]
theorem an2{o:Oper}{W:Env->au->Prop}{env:Env}{H:au}(t1 t2:TypeId)(x y:Operand)(id d r v rv k:Nat)(e:TypeId)(sz rY:Nat)(e':TypeId)(sz':Nat)(es l:List (List PV))(ps:List PV)
  (hop:o.op = .call ⟨.builtin .append,#[x,y],#[t1,t2]⟩) (ht:dM P t1 t2=some (e,sz,rY)) (hx:ev env x = .fm id v) (hy:ev env y = .bsl d 1) (hH:H id=some (.deep v e sz k e' sz' es))
  (hd:H d=some (.box ((ps.map AV.p).set k (.row r rv)))) (hr:H r=some (.row rv e' sz' l)) (hps:ps.length=sz) (hne:id≠r) (hb:(es.length+1) * rY<=140737488355328)
  (hW:W (cA env o.dst (.fm id (v+1))) (br (br H r (.row (rv+1) e' sz' [])) id (.deep (v+1) e sz k e' sz' (es++[ps.set k (.aL l)])))):iU P o W env H:=by
 refine .inr (.inr (.inl ⟨_,_,hW,λC I L tm w σ hs hσ=>?_⟩));have hxv:=hσ x;have hyv:=hσ y;rw[hx] at hxv;rw[hy] at hyv;obtain⟨rfl,hu,hpos,ac3,i,z,hi,hz,hsz,hby,hzc⟩:=pU ht;have hs':∀w,(execOp σ o).run P w=((Builtin.append_ #[t1,t1] o.type #[σ x,σ y]).run P w).andThen λu w'=>.ok (.value u) w':=λw=>by unfold execOp;rw[hop];simp[resolve,invoke,builtin,Result.andThen]
 obtain⟨hdr,us,dx,q1,q2,q3,q4,q5,q6,q7⟩:=hs.chunk id _ hH;obtain⟨db,arr,de,d1,d2,d3,d4,d5,d6⟩:=hs.chunk d _ hd;obtain⟨rh,rus,c1,c2,c3,c4,c5,c6,c7⟩:=hs.chunk r _ hr;have ag1:es.length+1<=maxLen:=by have:=Nat.le_mul_of_pos_right (es.length+1) ac3;simp only[maxLen];omega
 generalize hux:σ x=ux at *;generalize huy:σ y=uy at *;cases hxv with
 |fm _ _ _ v1 mT _ _ aaZ n1 hl hle hh hone =>
  rw[q1] at hl;simp only[cC,Loc.deep.injEq] at hl;obtain⟨e1,e2,e3,e4,e5,e6⟩:=hl;subst e1 e2 e3 e4 e5 e6;have hxe:=hh rfl;subst hxe;cases hyv with
  |bsl _ b _ hl =>
   rw[d1] at hl;simp only[cC,Loc.box.injEq] at hl;subst hl;have hal:arr.toList.length=1 * sz:=by simp[d3,hps]
   have own:=q2.own;rw[fS] at own;obtain⟨v',w',hrun,ho,hg,hblk,h1⟩:=ahP (P:=P) (ty:=o.type) (cap:=1) hu hi hz hsz hby hzc hpos own (bb:=db) (off:=0) (m:=1) (nus:=arr.toList) hal (λj v hj=>by
    rw[Addr.add_mid,zero_add,gM d2];simpa using hj) (λu hu=>by
    obtain⟨j,hj⟩:=mem_iff_getElem?.1 hu;exact d5 j u (by simpa using hj)) (by omega) ag1 hb hs.leB
   let lV:Nat->Value:=λj=>if j<es.length then dx j else rh
   have an3:∀j,j<es.length->lV j=dx j:=λj hj=>by simp only[lV];rw[if_pos hj]
   have aj5:lV es.length=rh:=by simp only[lV];rw[if_neg (by omega)]
   have aER:∀b,ux.ownBlock=some b->C.B<=b/\b<w.heap.size:=λb hb=>hs.fT id _ b q1 (.inl hb)
   have aj6:∀b,rh.ownBlock=some b->b<w.heap.size/\ux.ownBlock≠some b/\∀i,i<es.length->(dx i).ownBlock≠some b:=λb hb=>⟨(hs.fT r _ b c1 hb).2,λh2=>hne (hs.apart id r _ _ b q1 c1 (.inl h2) hb),λi hi h2=>hne (hs.apart id r _ _ b q1 c1 (.inr ⟨i,hi,h2⟩) hb)⟩
   have ase:∀i b,i<es.length->(dx i).ownBlock=some b->b<w.heap.size/\ux.ownBlock≠some b:=λi b hi hb=>⟨(hs.fT id _ b q1 (.inr ⟨i,hi,hb⟩)).2,q7.1 i b hi hb⟩
   let L':bA:=cc (cc L r (.row (rv+1) (.slice none 0 0) sz')) id (.deep (v+1) v' sz sz' lV (es.length+1));have hLi:L' id=some (.deep (v+1) v' sz sz' lV (es.length+1)):=by simp[L',cc]
   have hLr:L' r=some (.row (rv+1) (.slice none 0 0) sz'):=by simp[L',cc,Ne.symm hne]
   have hLo:∀j,j≠id->j≠r->L' j=L j:=λj h1 h2=>by simp[L',cc,h1,h2]
   have hle':dS L L':=λj=>by
    by_cases e1:j=id
    ·subst e1;rw[q1];exact⟨v+1,v',lV,es.length+1,hLi,by omega,λe=>by omega⟩
    ·by_cases e2:j=r
     ·subst e2;rw[c1];exact⟨rv+1,.slice none 0 0,hLr,by omega,λe=>by omega⟩
     ·rw[hLo j e1 e2];exact dS.refl L j
   refine⟨v',w',I,L',.inl (by rw[hs',hrun];rfl),.fm _ _ _ (v+1) v' sz sz' lV (es.length+1) hLi (le_refl _) (λ_=>rfl) h1,λenv tm hs=>?_⟩;have asf:∀b,b<w.heap.size->ux.ownBlock≠some b->w'.heap[b]? = w.heap[b]?:=λb hb hn=>hg.block b hb λe=>hn e.symm
   have hpsl:(ps.map AV.p).length=sz:=by rw[length_map];exact hps
   refine hs.change (Below.grown (Below.refl _ _) hg hs.leB λb hb=>(aER b hb).1) (λz=>z=id\/z=r) (λb hb hnb=>⟨asf b hb λh2=>hnb ⟨id,_,.inl rfl,q1,.inl h2⟩,λ_=>rfl⟩) hle' (Mem.eA I)
    (hs.mem.keep λb ⟨o,u,hu⟩=>asf b (hs.mem.lt hu) λh2=>by rw[q2.free b h2 o] at hu;cases hu) (λz hz=>⟨hLo z (λe=>hz (.inl e)) (λe=>hz (.inr e)),by
     have a1:z≠id:=λe=>hz (.inl e)
     have a2:z≠r:=λe=>hz (.inr e)
     simp[br,a1,a2]⟩)
    (λz l hz hl=>?_) (λz c hz hc=>?_) (λz l b hz hl hb=>?_) (λz z' lz lz' b hz hz' hl hl' hb hb'=>?_)
   ·rcases hz with rfl|rfl
    ·exact⟨_,by simp[br];rfl⟩
    ·exact⟨_,by simp[br,Ne.symm hne];rfl⟩
   ·rcases hz with rfl|rfl
    ·have:Chunk.deep (v+1) e sz k e' sz' (es++[ps.set k (.aL l)])=c:=by simpa[br] using hc
     subst this;have aES:fJ k lV (es++[ps.set k (.aL l)])=fJ k dx es++[ps.set k (.val rh)]:=by rw[ahQ,aj5,wZ k es lV dx an3];simp[set_set]
     refine⟨v',us++arr.toList,lV,by rw[length_append];exact hLi,?_,h1,q4,λy hy=>?_,λi' x' hx'=>?_,?_⟩
     ·rw[aES];refine⟨by rw[length_append,fS];exact ho,hpos,λy hy=>?_,?_,λu hu=>?_,λb hb o=>?_⟩
      ·rcases mem_append.1 hy with h|h
       ·exact q2.all y h
       ·simp only[mem_singleton] at h;subst h;rw[length_set];exact hps
      ·rw[flatten_append];refine ady (by rw[bJ q2.all,fS];exact own.1) q2.val (λj u c hu hc=>?_);have wm:(ps.set k (.val rh))[j]? = some c:=by simpa using hc
       have hjl:j<sz:=by have:=(List.getElem?_eq_some_iff.1 wm).1;rw[length_set] at this;omega
       rw[getElem?_set] at wm;split at wm
       ·rename_i hkj;subst hkj;split at wm
        ·simp only[cC] at wm;subst wm;have h2:=d4 k u (.row r rv) (by simpa using hu) (by rw[getElem?_set,if_pos rfl,if_pos (by omega)]);cases h2 with
         |row _ _ _ v2 awh sz2 hl2 hle2 hh2 aET=>rw[c1] at hl2;simp only[cC,Loc.row.injEq] at hl2;obtain⟨a1,a2,a3⟩:=hl2;subst a1 a2 a3;rw[<-hh2 rfl];exact .val _ aET
        ·cases wm
       ·rename_i hkj;have h2:=d4 j u (.p c) (by simpa using hu) (by rw[getElem?_set,if_neg hkj,getElem?_map,wm];rfl);exact h2.nE
      ·rcases mem_append.1 hu with h|h
       ·exact q2.one u h
       ·obtain⟨j,hj⟩:=mem_iff_getElem?.1 h;exact d5 j u (by simpa using hj)
      ·rcases hblk b hb with h|h
       ·exact q2.free b h o
       ·cases hI:I b o with
        |none=>rfl
        |some u=>exact absurd (hs.mem.lt hI) (by omega)
     ·rcases mem_append.1 hy with h|h
      ·exact q5 y h
      ·simp only[mem_singleton] at h;subst h;rw[length_set];exact hps
     ·rw[getElem?_append] at hx';split at hx'
      ·rename_i hlt;obtain⟨l2,us2,m1,m2,m3⟩:=q6 i' x' hx';rw[an3 i' hlt];exact⟨l2,us2,m1,m2.keep (Mem.eA I) λb hb=>⟨asf b (ase i' b hlt hb).1 (ase i' b hlt hb).2,λ_=>rfl⟩,m3⟩
      ·rename_i hlt;have hi0:i'-es.length=0:=by have:=(List.getElem?_eq_some_iff.1 hx').1;simp at this;omega
       rw[hi0] at hx';simp only[getElem?_cons_zero,cC] at hx';subst hx';have hie:i'=es.length:=by omega
       subst hie;rw[aj5];have hone:rh.oneCell'=true:=by rcases c2.2 with ⟨rfl,_⟩|⟨_,_,_,rfl,_⟩<;>rfl
       exact⟨l,rus,by rw[getElem?_set,if_pos rfl,if_pos (by omega)],(⟨c2,c3,c4,c5,c6,c7⟩:qK w C.B I rh e' sz' l rus).keep (Mem.eA I) λb hb=>⟨asf b (aj6 b hb).1 (aj6 b hb).2.1,λ_=>rfl⟩,hone⟩
     ·rw[length_append];refine⟨λi' b hi' hb hb'=>?_,λi' j' b hi' hj' hb hb'=>?_⟩
      ·have abt:i'<es.length\/i'=es.length:=by simp at hi';omega
       rcases abt with abt|rfl
       ·rw[an3 i' abt] at hb;rcases hblk b hb' with h|h
        ·exact (ase i' b abt hb).2 h
        ·have:=(ase i' b abt hb).1;omega
       ·rw[aj5] at hb;rcases hblk b hb' with h|h
        ·exact (aj6 b hb).2.1 h
        ·have:=(aj6 b hb).1;omega
      ·have abt:i'<es.length\/i'=es.length:=by simp at hi';omega
       have avf:j'<es.length\/j'=es.length:=by simp at hj';omega
       rcases abt with abt|rfl<;>rcases avf with avf|rfl
       ·rw[an3 i' abt] at hb;rw[an3 j' avf] at hb';exact q7.2 i' j' b abt avf hb hb'
       ·rw[an3 i' abt] at hb;rw[aj5] at hb';exact absurd hb ((aj6 b hb').2.2 i' abt)
       ·rw[aj5] at hb;rw[an3 j' avf] at hb';exact absurd hb' ((aj6 b hb).2.2 j' avf)
       ·rfl
    ·have:Chunk.row (rv+1) e' sz' []=c:=by simpa[br,Ne.symm hne] using hc
     subst this;exact⟨.slice none 0 0,[],hLr,⟨by simp,.inl ⟨rfl,rfl⟩⟩,c3,by simp,by simp,by simp,λb hb=>by cases hb⟩
   ·rcases hz with rfl|rfl
    ·rw[hLi] at hl;simp only[cC] at hl;subst hl;rcases hb with hb|⟨i',hi',hb⟩
     ·exact (hblk b hb).imp (λh=>⟨z,_,.inl rfl,q1,.inl h⟩) id
     ·have abt:i'<es.length\/i'=es.length:=by omega
      rcases abt with abt|rfl
      ·rw[an3 i' abt] at hb;exact .inl ⟨z,_,.inl rfl,q1,.inr ⟨i',abt,hb⟩⟩
      ·rw[aj5] at hb;exact .inl ⟨r,_,.inr rfl,c1,hb⟩
    ·rw[hLr] at hl;simp only[cC] at hl;subst hl;cases hb
   ·have hno:∀lz,L' r=some lz->¬ lz.has b:=λlz h2 h3=>by rw[hLr] at h2;simp only[cC] at h2;subst h2;cases h3
    rcases hz with rfl|rfl<;>rcases hz' with rfl|rfl
    ·rfl
    ·exact (hno _ hl' hb').elim
    ·exact (hno _ hl hb).elim
    ·rfl
theorem aqT{o:Oper}{W:Env->au->Prop}{env:Env}{H:au}{kf:FuncId}{eZ:List AV}{ps:List PV}{id v k:Nat}{e:TypeId}{sz:Nat}{e':TypeId}{sz':Nat}{es es':List (List PV)}(f:Nat->Nat)
  (c:∀dx:Nat->Value,(∀i,i<es.length->(dx i).oneCell'=true)->mb P kf v e sz (fJ k dx es) ps λa c=>a = .row 1000000 (v+1)/\c=some (.row (v+1) e sz (fJ k (λi=>dx (f i)) es')))
  (hf:∀i,i<es'.length->f i<es.length/\es'[i]? = es[f i]?) (hinj:∀i j,i<es'.length->j<es'.length->f i=f j->i=j)
  (ha:dA o (ev env)=some (kf,.fm id v :: eZ)) (hH:H id=some (.deep v e sz k e' sz' es)) (he:eT (gL (akX H id)) eZ=some (ps,false))
  (hW:W (cA env o.dst (.fm id (v+1))) (br H id (.deep (v+1) e sz k e' sz' es'))):iU P o W env H:=.inr (.inr (.inr λC I L tm w σ hs hσ=>by
 obtain⟨hdr,us,dx,q1,q2,q3,q4,q5,q6,q7⟩:=hs.chunk id _ hH;have hone:∀i,i<es.length->(dx i).oneCell'=true:=λi hi=>by obtain⟨l,us',_,_,m3⟩:=q6 i _ (getElem?_eq_getElem hi);exact m3
 have hc:=c dx hone;obtain⟨vs0,hr,hu⟩:=ni ha hc.1 hσ w;refine⟨kf,_,hr,?_⟩;cases vs0 with
 |nil=>have:=hu.1;simp at this
 |cons u0 vs =>
  have hu0:=hu.2 0 u0 _ rfl rfl;have aJc:u0=hdr:=by
   cases hu0 with
   |fm _ _ _ v1 mT _ _ aaZ n1 hl hle hh h1=>rw[q1] at hl;simp only[cC,Loc.deep.injEq] at hl;obtain⟨_,e2,_⟩:=hl;subst e2;exact hh (by assumption)
  subst aJc;have ac6:oW I L vs eZ:=⟨by simpa using hu.1,λj u c hj hc=>hu.2 (j+1) u c hj hc⟩;obtain⟨k1,_,k3⟩:=kM (pX hs (ag5 H id) (mD hs.mem) ((sv L w).g _)) eZ ps false he vs ac6.1 ac6.2;refine (hc.2 C.B I w u0 us vs hs.leB hs.mem q2 q3 ⟨k1,k3 rfl⟩).mono λx w' ⟨u,a,H',I',L1,m1,⟨m2,m2'⟩,m3,m4⟩=>?_
  subst m2;obtain⟨fz,us',g1,g2,g3,g4,g5,g6,g7⟩:=m4.chunk 1000000 _ m2';have azk:fz.oneCell'=true:=by rcases g2.2 with ⟨rfl,_⟩|⟨_,_,_,rfl,_⟩<;>rfl
  have hue:u=fz:=by
   cases m3 with
   |row _ _ _ v2 awh sz2 hl hle hh h1=>rw[g1] at hl;simp only[cC,Loc.row.injEq] at hl;obtain⟨e1,e2,_⟩:=hl;subst e2;exact hh e1.symm.symm
  subst hue;have hfr:∀b,b<w.heap.size->u0.ownBlock≠some b->w'.heap[b]? = w.heap[b]?/\∀o,I' b o=I b o:=λb hb hn=>⟨m4.frame b hb hn,λo=>m4.mS b hb hn o⟩
  have hblk:∀b,u.ownBlock=some b->u0.ownBlock=some b\/(w.heap.size<=b/\b<w'.heap.size):=λb hb=>by
   rcases m4.jO 1000000 _ b g1 hb with h|h
   ·exact .inr ⟨h,(m4.fT 1000000 _ b g1 hb).2⟩
   ·exact .inl h
  have hin:∀i b,i<es.length->(dx i).ownBlock=some b->b<w.heap.size/\u0.ownBlock≠some b:=λi b hi hb=>⟨(hs.fT id _ b q1 (.inr ⟨i,hi,hb⟩)).2,q7.1 i b hi hb⟩
  let lV:Nat->Value:=λi=>dx (f i)
  let L':bA:=cc L id (.deep (v+1) u sz sz' lV es'.length);have hLi:L' id=some (.deep (v+1) u sz sz' lV es'.length):=by simp[L',cc]
  have hle':dS L L':=λj=>by
   by_cases e1:j=id
   ·subst e1;rw[q1];exact⟨v+1,u,lV,es'.length,hLi,by omega,λe=>by omega⟩
   ·have:L' j=L j:=by simp[L',cc,e1]
    rw[this];exact dS.refl L j
  refine⟨u,I',L',.fm id (v+1),_,m1,hW,.fm _ _ _ (v+1) u sz sz' lV es'.length hLi (le_refl _) (λ_=>rfl) azk,?_⟩;refine hs.change m4.below (λz=>z=id) (λb hb hnb=>hfr b hb λh2=>hnb ⟨id,_,rfl,q1,.inl h2⟩) hle' m4.lW m4.mem (λz hz=>⟨by simp[L',cc,hz],by simp[br,hz]⟩) (λz l hz hl=>⟨_,by simp[br,hz];rfl⟩) (λz c hz hc=>?_) (λz l b hz hl hb=>?_) (λz z' _ _ _ hz hz' _ _ _ _=>by rw[hz,hz'])
  ·subst hz;have:Chunk.deep (v+1) e sz k e' sz' es'=c:=by simpa[br] using hc
   subst this;refine⟨u,us',lV,hLi,⟨g2,g3,g4,g5,g6,g7⟩,azk,q4,λy hy=>?_,λi x hx=>?_,λi b hi hb=>?_,λi j b hi hj hb hb'=>?_⟩
   ·obtain⟨i,hi⟩:=mem_iff_getElem?.1 hy;rw[(hf i (List.getElem?_eq_some_iff.1 hi).1).2] at hi;exact q5 y (mem_of_getElem? hi)
   ·have hi:=(List.getElem?_eq_some_iff.1 hx).1;rw[(hf i hi).2] at hx;obtain⟨l,us2,r1,r2,r3⟩:=q6 (f i) x hx;exact⟨l,us2,r1,r2.keep m4.lW λb hb=>hfr b (hin (f i) b (hf i hi).1 hb).1 (hin (f i) b (hf i hi).1 hb).2,r3⟩
   ·intro hb';have h2:=hin (f i) b (hf i hi).1 hb;rcases hblk b hb' with h|h
    ·exact h2.2 h
    ·omega
   ·exact hinj i j hi hj (q7.2 (f i) (f j) b (hf i hi).1 (hf j hj).1 hb hb')
  ·subst hz;rw[hLi] at hl;simp only[cC] at hl;subst hl;rcases hb with hb|⟨i,hi,hb⟩
   ·exact (hblk b hb).imp (λh=>⟨z,_,rfl,q1,.inl h⟩) id
   ·exact .inl ⟨z,_,rfl,q1,.inr ⟨f i,(hf i hi).1,hb⟩⟩))
mutual
def mg(id:Nat):AV->AV
 | .fm i v=>if i=id then .row i v else .fm i v
 | .lF i v j o=>if i=id then .dead else .lF i v j o
 | .lG i v j=>if i=id then .dead else .lG i v j
 | .oB i v j k o=>if i=id then .dead else .oB i v j k o
 | .row i v=>if i=id then .dead else .row i v
 | .jG i v j o=>if i=id then .dead else .jG i v j o
 | .ptr i o=>if i=id then .dead else .ptr i o
 | .bsl i n=>if i=id then .dead else .bsl i n
 | .iV i v o n m sz=>if i=id then .dead else .iV i v o n m sz
 | .agg cs=>.agg (nS id cs)
 | .dH cs=>.dH (nS id cs)
 | .jk f a b=>.jk f (nS id a) (nS id b)
 |x=>x
def nS(id:Nat):List AV->List AV
 | []=>[]
 |a :: r=>mg id a :: nS id r
end
theorem sI{id:Nat} : ∀ {cs:List AV} {j:Nat} {c:AV},(nS id cs)[j]? = some c->∃d,cs[j]? = some d/\c=mg id d
 | [],j,c,h=>by simp[nS] at h
 |a :: r,0,c,h=>by unfold nS at h;simp only[getElem?_cons_zero,cC] at h;exact⟨a,rfl,h.symm⟩
 |a :: r,j+1,c,h=>by unfold nS at h;exact sI (cs:=r) (by simpa using h)
theorem nN{id:Nat} : ∀cs:List AV,(nS id cs).length=cs.length
 | []=>rfl
 |a :: r=>by unfold nS;simp[nN r]
def aj7(id:Nat):Chunk->Chunk
 | .box cs=>.box (nS id cs)
 | .deep v e sz k e' sz' es=>.deep v e sz k e' sz' es
 |c=>c
def an4(id:Nat):Option Chunk->Option Chunk
 |some c=>some (aj7 id c)
 |none=>none
def asg(id:Nat)(env:Env):Env:=λi=>mg id (env i)
def aBQ(c:Option Chunk):Option Chunk:=match c with
 |some (.deep v e sz _ _ _ es)=>some (.row v e sz es)
 |c=>c
def adf(id:Nat)(H:au):au:=λi=>if i=id then aBQ (H i) else an4 id (H i)
theorem dV.flat{J:Mem}{id v:Nat}{hdr:Value}{sz sz':Nat}{dx:Nat->Value}{n:Nat}(hl:L id=some (.deep v hdr sz sz' dx n))(x9:I.sub J){u:Value}{a:AV}(h:dV I L u a):dV J (cc L id (.row v hdr sz)) u (mg id a):=by
 have tK:∀i,i≠id->cc L id (.row v hdr sz) i=L i:=λi hi=>by simp[cc,hi]
 induction h with
 |p u x h=>unfold mg;exact .p u x (h.mono x9)
 |row u i bg v1 mT sz1 qq hle h h1 =>
  unfold mg;split
  ·exact .dead _
  ·exact .row u i bg v1 mT sz1 ((tK i (by assumption)).trans qq) hle h h1
 |ptr i b off qq =>
  unfold mg;split
  ·exact .dead _
  ·exact .ptr i b off ((tK i (by assumption)).trans qq)
 |jG u i bg v1 j off mT sz1 qq hle h h1 =>
  unfold mg;split
  ·exact .dead _
  ·exact .jG u i bg v1 j off mT sz1 ((tK i (by assumption)).trans qq) hle h h1
 |bsl i b n qq =>
  unfold mg;split
  ·exact .dead _
  ·exact .bsl i b n ((tK i (by assumption)).trans qq)
 |iV a i bg v1 off n m c mT sz1 qq hle hn hm hz h =>
  unfold mg;split
  ·exact .dead _
  ·exact .iV a i bg v1 off n m c mT sz1 ((tK i (by assumption)).trans qq) hle hn hm hz h
 |agg us cs qq _ hone ih=>unfold mg;refine .agg us _ (by rw[nN];exact qq) (λj u c hu hc=>?_) hone;obtain⟨d,hd,rfl⟩:=sI hc;exact ih j u d hu hd
 |dH us cs qq _ ih=>unfold mg;refine .dH us _ (by rw[nN];exact qq) (λj u c hu hc=>?_);obtain⟨d,hd,rfl⟩:=sI hc;exact ih j u d hu hd
 |jk fn us vs fs cs qq hl2 _ _ ih ih' =>
  unfold mg;refine .jk fn us vs _ _ (by rw[nN];exact qq) (by rw[nN];exact hl2) (λj u c hu hc=>?_) (λj u c hu hc=>?_)
  ·obtain⟨d,hd,rfl⟩:=sI hc;exact ih j u d hu hd
  ·obtain⟨d,hd,rfl⟩:=sI hc;exact ih' j u d hu hd
 |fm u i bg v1 mT s1 s2 aaZ n1 qq hle h h1 =>
  unfold mg;split
  ·rename_i e;subst e;rw[hl] at qq;simp only[cC,Loc.deep.injEq] at qq;obtain⟨e1,e2,e3,_⟩:=qq;subst e1 e2 e3;exact .row u i bg v hdr sz (by simp[cc]) hle h h1
  ·exact .fm u i bg v1 mT s1 s2 aaZ n1 ((tK i (by assumption)).trans qq) hle h h1
 |lF u i bg v1 j off mT s1 s2 aaZ n1 qq hle h h1 =>
  unfold mg;split
  ·exact .dead _
  ·exact .lF u i bg v1 j off mT s1 s2 aaZ n1 ((tK i (by assumption)).trans qq) hle h h1
 |lG u i bg v1 j mT s1 s2 aaZ n1 qq hle h h1 =>
  unfold mg;split
  ·exact .dead _
  ·exact .lG u i bg v1 j mT s1 s2 aaZ n1 ((tK i (by assumption)).trans qq) hle h h1
 |oB u i bg v1 j m off mT s1 s2 aaZ n1 qq hle h h1 =>
  unfold mg;split
  ·exact .dead _
  ·exact .oB u i bg v1 j m off mT s1 s2 aaZ n1 ((tK i (by assumption)).trans qq) hle h h1
 |dead u=>unfold mg;exact .dead u
theorem azl{w:World}{B:Nat}{hdr:Value}{e e':TypeId}{sz k sz':Nat}{es:List (List PV)}{us:List Value}{dx:Nat->Value}{J:Mem}(h:qK w B I hdr e sz (fJ k dx es) us)(hall:∀x∈es,x.length=sz)
  (hin:awg w B I k e' sz' dx es) (x9:I.sub J) (hJ:∀b i,i<es.length->(dx i).ownBlock=some b->∀o v,w.cell? ⟨b,o,none⟩=some v->J b o=some v) :
  ∀ (j:Nat) u c,us[j]? = some u->es.flatten[j]? = some c->VR J u c:=λj u c hu hc=>by
 have hfl:=bJ hall;have hjl:j<es.length * sz:=by rw[<-hfl];exact (List.getElem?_eq_some_iff.1 hc).1
 have hpos:=h.pos;have hi:j / sz<es.length:=(Nat.div_lt_iff_lt_mul hpos).2 hjl;have hmm:j % sz<sz:=mod_lt _ hpos;have hj:j=j / sz * sz+j % sz:=(div_add_mod' j sz).symm;generalize j / sz=i at *;generalize j % sz=m at *;subst hj;rw[ic hall i m hi hmm] at hc;have y9:=ic h.all i m (by rw[fS];exact hi) hmm;have hg:(fJ k dx es).getD i []=(es.getD i []).set k (.val (dx i)):=by rw[getD_eq_getElem?_getD,ve];simp[hi]
 rw[hg] at y9;by_cases hk:k=m
 ·subst hk;have hx:es[i]? = some (es.getD i []):=by simp[hi]
  obtain⟨l,us',q1,q2,q3⟩:=hin i _ hx;rw[q1] at hc;simp only[cC] at hc;subst hc;have hxl:(es.getD i []).length=sz:=hall _ (mem_of_getElem? hx);rw[getElem?_set,if_pos rfl,if_pos (by rw[hxl];exact hmm)] at y9;have:=h.val _ u _ hu y9;cases this;exact q2.vrJ x9 λb hb=>hJ b i hi hb
 ·rw[getElem?_set,if_neg hk,hc] at y9;exact (h.val _ u c hu y9).mono x9
open Classical in
noncomputable def Mem.inner(I:Mem)(w:World)(dx:Nat->Value)(n:Nat):Mem:=λb o=>if ∃i,i<n/\(dx i).ownBlock=some b then w.cell? ⟨b,o,none⟩ else I b o
theorem kF{env:Env}{H:au}(id v:Nat)(e:TypeId)(sz k:Nat)(e':TypeId)(sz':Nat)(es:List (List PV))(hid:id<1000000)(hH:H id=some (.deep v e sz k e' sz' es)):c8 env H (asg id env) (adf id H):=λC I L tm w hs=>by
 obtain⟨hdr,us,dx,q1,q2,q3,q4,q5,q6,q7⟩:=hs.chunk id _ hH;have hL0:C.L0 id=none:=by
  cases h:C.L0 id with
  |none=>rfl
  |some l=>have:=C.hL0 id l h;omega
 let J:Mem:=I.inner w dx es.length;have aDh:∀i b o,i<es.length->(dx i).ownBlock=some b->J b o=w.cell? ⟨b,o,none⟩:=λi b o hi hb=>by show I.inner w dx es.length b o=_;unfold Mem.inner;rw[if_pos ⟨i,hi,hb⟩]
 have af9:∀b o,(¬ ∃i,i<es.length/\(dx i).ownBlock=some b)->J b o=I b o:=λb o hn=>by show I.inner w dx es.length b o=_;unfold Mem.inner;rw[if_neg hn]
 have x9:I.sub J:=λb o u hu=>by
  by_cases h:∃i,i<es.length/\(dx i).ownBlock=some b
  ·obtain⟨i,hi,hb⟩:=h;rw[aDh i b o hi hb];exact hs.mem b o u hu
  ·rw[af9 b o h];exact hu
 have hJw:J.inW w:=λb o u hu=>by
  by_cases h:∃i,i<es.length/\(dx i).ownBlock=some b
  ·obtain⟨i,hi,hb⟩:=h;rw[aDh i b o hi hb] at hu;exact hu
  ·rw[af9 b o h] at hu;exact hs.mem b o u hu
 have alE:∀i l b,i≠id->L i=some l->l.has b->¬ ∃j,j<es.length/\(dx j).ownBlock=some b:=λi l b hi hl hb ⟨j,hj,hjb⟩=>hi (hs.apart i id l _ b hl q1 hb (.inr ⟨j,hj,hjb⟩))
 refine⟨J,cc L id (.row v hdr sz),?_⟩;have tK:∀i,i≠id->cc L id (.row v hdr sz) i=L i:=λi hi=>by simp[cc,hi]
 exact
 {below:=hs.below
  mem:=hJw
  lW:=Mem.nK hs.lW x9
  mS:=λb hb hf o=>by
   rw[af9 b o λ⟨i,hi,hib⟩=>?_]
   ·exact hs.mS b hb hf o
   ·rcases hs.jO id _ b q1 (.inr ⟨i,hi,hib⟩) with h|h
    ·omega
    ·exact hf h
  frame:=hs.frame
  loc:=λi=>by
   by_cases hi:i=id
   ·subst hi;rw[hL0];trivial
   ·rw[tK i hi];exact hs.loc i
  jO:=λi l b hl hb=>by
   by_cases hi:i=id
   ·subst hi;have:Loc.row v hdr sz=l:=by simpa[cc] using hl
    subst this;exact hs.jO i _ b q1 (.inl hb)
   ·rw[tK i hi] at hl;exact hs.jO i l b hl hb
  size:=hs.size
  env:=λt=>(hs.env t).flat q1 x9
  dom:=λi l hl=>by
   by_cases hi:i=id
   ·subst hi;exact⟨.row v e sz es,by unfold adf;rw[if_pos rfl,hH];rfl⟩
   ·rw[tK i hi] at hl;obtain⟨c,hc⟩:=hs.dom i l hl;exact⟨aj7 id c,by unfold adf;rw[if_neg hi,hc];rfl⟩
  chunk:=λi c hc=>by
   by_cases hi:i=id
   ·subst hi;unfold adf at hc;rw[if_pos rfl,hH] at hc;simp only[aBQ,cC] at hc;subst hc;refine⟨hdr,us,by simp[cc],?_,q2.pos,q5,λj u c hu hc=>?_,q2.one,λb hb o=>?_⟩
    ·have:=q2.own;rw[fS] at this;exact this
    ·exact azl q2 q5 q6 x9 (λb j hj hb o u hu=>by rw[aDh j b o hj hb];exact hu) j u c hu hc
    ·rw[af9 b o λ⟨j,hj,hjb⟩=>q7.1 j b hj hjb hb];exact q2.free b hb o
   ·unfold adf at hc;rw[if_neg hi] at hc;cases hci:H i with
    |none=>rw[hci] at hc;cases hc
    |some c0 =>
     rw[hci] at hc;simp only[an4,cC] at hc;subst hc;have h0:=hs.chunk i c0 hci;cases c0 with
     |box cs =>
      obtain⟨b,arr,e0,g1,g2,g3,g4,g5,g6⟩:=h0;refine⟨b,arr,e0,(tK i hi).trans g1,g2,by rw[nN];exact g3,λj u c hu hc=>?_,g5,λo=>?_⟩
      ·obtain⟨d,hd,rfl⟩:=sI hc;exact (g4 j u d hu hd).flat q1 x9
      ·rw[af9 b o (alE i _ b hi g1 rfl)];exact g6 o
     |row v1 e1 s1 es1=>obtain⟨h1,us1,g1,g2,g3,g4,g5,g6,g7⟩:=h0;exact⟨h1,us1,(tK i hi).trans g1,g2,g3,g4,λj u c hu hc=>(g5 j u c hu hc).mono x9,g6,λb hb o=>by rw[af9 b o (alE i _ b hi g1 hb)];exact g7 b hb o⟩
     |shut v1 es1=>obtain⟨h1,s1,g1,g2,g3⟩:=h0;exact⟨h1,s1,(tK i hi).trans g1,g2.mono x9,g3⟩
     |tail v1 e1 s1 es1=>obtain⟨g,o0,cap,arr,g1,g2,g3,g4,g5,g6,g7,g8⟩:=h0;exact⟨g,o0,cap,arr,(tK i hi).trans g1,g2,g3,g4,g5,g6,g7.mono x9,λj a b=>by rw[af9 g j (alE i _ g hi g1 rfl)];exact g8 j a b⟩
     |deep v1 e1 s1 k1 e2 s2 es1 =>
      obtain⟨h1,us1,aaZ,g1,g2,g3,g4,g5,g6,g7⟩:=h0;have hk:∀b,(Loc.deep v1 h1 s1 s2 aaZ es1.length).has b->w.heap[b]? = w.heap[b]?/\∀o,J b o=I b o:=λb hb=>⟨rfl,λo=>af9 b o (alE i _ b hi g1 hb)⟩
      refine⟨h1,us1,aaZ,(tK i hi).trans g1,g2.keep x9 λb hb=>hk b (.inl hb),g3,g4,g5,λj x hx=>?_,g7⟩;obtain⟨l,us2,m1,m2,m3⟩:=g6 j x hx;exact⟨l,us2,m1,m2.keep x9 λb hb=>hk b (.inr ⟨j,(List.getElem?_eq_some_iff.1 hx).1,hb⟩),m3⟩
  fT:=λi l b hl hb=>by
   by_cases hi:i=id
   ·subst hi;have:Loc.row v hdr sz=l:=by simpa[cc] using hl
    subst this;exact hs.fT i _ b q1 (.inl hb)
   ·rw[tK i hi] at hl;exact hs.fT i l b hl hb
  apart:=λi j li lj b hi hj tA wJ=>by
   by_cases ei:i=id<;>by_cases ej:j=id
   ·rw[ei,ej]
   ·subst ei;have:Loc.row v hdr sz=li:=by simpa[cc] using hi
    subst this;rw[tK j ej] at hj;exact hs.apart i j _ lj b q1 hj (.inl tA) wJ
   ·subst ej;have:Loc.row v hdr sz=lj:=by simpa[cc] using hj
    subst this;rw[tK i ei] at hi;exact hs.apart i j li _ b hi q1 tA (.inl wJ)
   ·rw[tK i ei] at hi;rw[tK j ej] at hj;exact hs.apart i j li lj b hi hj tA wJ }
end Go.b7
namespace Go.b7
open Go.RowKit
variable{P:Program}{I:Mem}{L:bA}
theorem an5(w:World)(dT sT ty e:TypeId)(b o dLen dCap:Nat)(cur:Array Value)(a:Addr)(sLen sCap:Nat)(cs:List Value)(hg:w.heap[b]? = some (.cells cur e (0,0)))
  (hu:P.underlying dT=some (.slice e)) (hs:bf P e=some 1) (hn:cs.length=Nat.min sLen dLen)
  (hsrc:∀j v,cs[j]? = some v->w.cell? (a.add j)=some v) (hc:o+cs.length<=cur.size) (h1:∀v∈cs,v.oneCell'=true) :
  (Builtin.copy_ #[dT,sT] ty #[.slice (some ⟨b,o,none⟩) dLen dCap,.slice (some a) sLen sCap]).run P w = .ok (goInt cs.length) (w.setRow b (splice cur.toList o cs).toArray):=by
 have hl:=run_loadCells_list (P:=P) w a cs hsrc;have hst:=run_storeCells_at (P:=P) b o e cs 0 cur w hg (by omega) h1;simp only[add_zero] at hst;cases hq:P.info? e with
 |none=>simp[bf,hq] at hs
 |some i =>
  have hi:i.size=1:=by simpa[bf,hq] using hs
  simp[Builtin.copy_,run_underlying hu,Builtin.lenOf,Builtin.firstCells,sizeOf,typeInfo,hq,hi,<-hn,hl,hst,splice]
theorem aex{α:Type}(ps:List α):(ps.map λp=>[p]).flatten=ps:=by
 induction ps with
 |nil=>rfl
 |cons a r ih=>rw[map_cons,flatten_cons,ih];rfl
theorem ahR{α:Type}{es:List (List α)}(h:∀x∈es,x.length=1)(o:Nat)(ps:List α):(splice es o (ps.map λp=>[p])).flatten=splice es.flatten o ps:=by
 have h1:∀ (n:Nat),(es.take n).flatten=es.flatten.take n/\(es.drop n).flatten=es.flatten.drop n:=by
  intro n
  induction es generalizing n with
  |nil=>simp
  |cons a r ih =>
   obtain⟨p,rfl⟩:∃p,a=[p]:=length_eq_one_iff.1 (h a mem_cons_self);cases n with
   |zero=>simp
   |succ n=>have:=ih (λx hx=>h x (mem_cons_of_mem _ hx)) n;simpa using this
 unfold splice;rw[flatten_append,flatten_append,aex,(h1 o).1,length_map,(h1 _).2]
theorem ahS{C:Ctx}{env:Env}{H:au}{tm:Array Value}{w:World}(hs:gK C env H I L tm w){op:Oper}{σ:Operand->Value}(x y:Operand)(t1 t2:TypeId)(hop:op.op = .call ⟨.builtin .copy,#[x,y],#[t1,t2]⟩)
  {id v:Nat} {e:TypeId} {es:List (List PV)} (hH:H id=some (.row v e 1 es)) {g n cap:Nat} (hL:L id=some (.row v (.slice (some ⟨g,0,none⟩) n cap) 1)) (hu:P.underlying t1=some (.slice e)) (hsz:bf P e=some 1)
  {o dLen dCap:Nat} (hx:σ x = .slice (some ⟨g,o,none⟩) dLen dCap) {a:Addr} {sLen sCap:Nat} (hy:σ y = .slice (some a) sLen sCap) (cs:List Value) (ps:List PV) (hn:cs.length=Nat.min sLen dLen) (hps:ps.length=cs.length) (ho:o+cs.length<=es.length)
  (hsrc:∀j v,cs[j]? = some v->w.cell? (a.add j)=some v) (h1:∀v∈cs,v.oneCell'=true) (hv:∀ (j:Nat) u c,cs[j]? = some u->ps[j]? = some c->VR I u c) :
  nV P C H I L w ((execOp σ op).run P w) (.p (.val (.int .i64 (cs.length:Nat)))) (br H id (.row v e 1 (splice es o (ps.map λp=>[p])))):=by
 obtain⟨hdr,us,q1,q2,q3,q4,q5,q6,q7⟩:=hs.chunk id _ hH;rw[hL] at q1;simp only[cC,Loc.row.injEq,true_and,and_true] at q1;subst q1;rcases q2.2 with ⟨akN,_⟩|⟨g',cp,cur,heq,hbg,hgg,hnc,hcm,hcz,kL⟩
 ·cases akN
 simp only[Value.slice.injEq,cC,Addr.mk.injEq] at heq;obtain⟨⟨e3,_⟩,e4,e5⟩:=heq;subst e3 e4 e5;simp only[mul_one] at hcz kL;have hr:=an5 (P:=P) w t1 t2 op.type e g o dLen dCap cur a sLen sCap cs hgg hu hsz hn hsrc (by omega) h1;have hs':∀w,(execOp σ op).run P w=((Builtin.copy_ #[t1,t2] op.type #[σ x,σ y]).run P w).andThen λu w'=>.ok (.value u) w':=λw=>by unfold execOp;rw[hop];simp[resolve,invoke,builtin,Result.andThen]
 refine⟨_,_,I,cc L id (.row v (.slice (some ⟨g,0,none⟩) es.length cap) 1),.inl (by rw[hs',hx,hy,hr];rfl),.p _ _ (.val _ rfl),λenv tm hs=>?_⟩;refine hs.turn (pW _ (hs.fT id _ g hL rfl).1) hL (λk hk hne=>setRow_other w g k _ (λe=>hne (by rw[e];rfl))) (dS.yb hL) (λk hk=>q7 k hk) _ ?_ (λk hk=>.inl hk);have hcl:us.length=es.length:=by have:=q2.1;omega
 have hfl:=bJ q4;have hpl:(ps.map λp=>[p]).length=cs.length:=by rw[length_map,hps]
 have hsl:(splice es o (ps.map λp=>[p])).length=es.length:=dD (by omega);have htk:(splice cur.toList o cs).take es.length=splice us o cs:=by rw[wQ (by omega) (by simp;omega),kL]
 refine⟨.slice (some ⟨g,0,none⟩) es.length cap,splice us o cs,by simp[cc],⟨?_,.inr ⟨g,cap,(splice cur.toList o cs).toArray,by rw[hsl],hbg,setRow_heap w g cur _ e _ hgg,by rw[hsl];exact hnc,hcm,?_,?_⟩⟩,q3,?_,?_,vr q6 h1,q7⟩
 ·rw[hsl,dD (by omega),mul_one];exact hcl
 ·simp only[size_toArray];rw[dD (by simp;omega)];simp;omega
 ·rw[hsl,mul_one];simpa using htk
 ·intro z hz;rcases mem_append.1 hz with h|h
  ·rcases mem_append.1 h with h|h
   ·exact q4 z (mem_of_mem_take h)
   ·obtain⟨p,_,rfl⟩:=mem_map.1 h;rfl
  ·exact q4 z (mem_of_mem_drop h)
 ·rw[ahR q4];intro j u c hu hc;rw[ahN (by omega)] at hu;rw[ahN (by omega)] at hc;rw[hps] at hc;split at hu
  ·rename_i h;rw[if_pos h] at hc;exact hv _ u c hu hc
  ·rename_i h;rw[if_neg h] at hc;exact q5 _ u c hu hc
theorem iY{o:Option Tmp}{xs:Array Operand}{ts:Array TypeId}{ty:TypeId}{pos:String}{af:Array Edge}{g:Option (Nat×Bool)}{ρ:Operand->AV}{H:au} : kD P ⟨o,.call ⟨.builtin .copy,xs,ts⟩,ty,pos,af,g⟩ ρ H=none:=by simp[kD,vp,ya,mU,y3,exE,xU,y4,tD]
theorem aBR{o:Oper}{W:Env->au->Prop}{env:Env}{H:au}(t1 t2:TypeId)(x y:Operand)(id v:Nat)(e:TypeId)(es:List (List PV))(ps:List PV)(hop:o.op = .call ⟨.builtin .copy,#[x,y],#[t1,t2]⟩)(hu:P.underlying t1=some (.slice e))(hsz:bf P e=some 1)
  (hx:ev env x = .row id v) (hy:ev env y = .p (.aL (ps.map λp=>[p]))) (hH:H id=some (.row v e 1 es)) (h0:0<ps.length) (hl:ps.length<=es.length)
  (hW:W (cA env o.dst (.p (.val (.int .i64 (ps.length:Nat))))) (br H id (.row v e 1 (splice es 0 (ps.map λp=>[p]))))):iU P o W env H:=by
 refine .inr (.inr (.inl ⟨_,_,hW,λC I L tm w σ hs hσ=>?_⟩));have hxv:=hσ x;have hyv:=hσ y;rw[hx] at hxv;rw[hy] at hyv;obtain⟨hdr,us,q1,q2,q3,q4,q5,q6,q7⟩:=hs.chunk id _ hH;rcases q2.2 with ⟨_,hn⟩|⟨g,cp,cur,heq,hbg,hgg,hnc,hcm,hcz,kL⟩
 ·omega
 subst heq;have e1:σ x = .slice (some ⟨g,0,none⟩) es.length cp:=by
  generalize σ x=ux at hxv;cases hxv with
  |row _ _ _ v1 mT sz1 qq hle hh hone=>rw[q1] at qq;simp only[cC,Loc.row.injEq] at qq;obtain⟨r1,r2,r3⟩:=qq;subst r1 r2 r3;exact hh rfl
 obtain⟨ao,cap,cs,e2,hcl,hcv,aEU,aJd,aKC⟩:=hyv.nE.asd;rw[aex] at hcl hcv;have hne:cs≠[]:=λe=>by subst e;simp at hcl;omega
 rcases aJd with h|⟨b,off,rfl,hI⟩
 ·exact absurd h hne
 rw[<-hcl];refine ahS hs x y t1 t2 hop hH q1 hu hsz e1 e2 cs ps ?_ hcl.symm (by omega) (λj u hj=>?_) aEU hcv
 ·rw[length_map,hcl];exact (min_eq_left hl).symm
 ·rw[Addr.add_mid];exact hs.mem _ _ _ (hI j u hj)
theorem aBS{H:au}{C:Ctx}{env:Env}{tm:Array Value}{w:World}(hs:gK C env H I L tm w){id v:Nat}{e:TypeId}{es:List (List PV)}(hH:H id=some (.row v e 1 es))(h0:0<es.length) :
  ∃g cap,∃us:List Value,L id=some (.row v (.slice (some ⟨g,0,none⟩) es.length cap) 1)/\es.length<=cap/\us.length=es.length/\(∀ (j:Nat) u c,us[j]? = some u->es.flatten[j]? = some c->VR I u c)/\(∀u∈us,u.oneCell'=true)/\(∀ (j:Nat) u,us[j]? = some u->w.cell? ⟨g,j,none⟩=some u)/\(∀x∈es,x.length=1):=by
 obtain⟨hdr,us,q1,q2,q3,q4,q5,q6,q7⟩:=hs.chunk id _ hH;rcases q2.2 with ⟨_,hn⟩|⟨g,cp,cur,heq,hbg,hgg,hnc,hcm,hcz,kL⟩
 ·omega
 subst heq;refine⟨g,cp,us,q1,hnc,by have:=q2.1;omega,q5,q6,λj u hu=>?_,q4⟩;rw[gM hgg];rw[<-kL,getElem?_take] at hu;split at hu
 ·simpa using hu
 ·cases hu
theorem dV.alF{u:Value}{id v:Nat}{hdr:Value}{sz:Nat}(h:dV I L u (.row id v))(hL:L id=some (.row v hdr sz)):u=hdr:=by
 cases h with
 |row _ _ _ v1 mT sz1 qq hle hh hone=>rw[hL] at qq;simp only[cC,Loc.row.injEq] at qq;obtain⟨r1,r2,r3⟩:=qq;subst r1 r2 r3;exact hh rfl
theorem yo{o:Oper}{σ:Operand->Value}{x:Operand}{v:Value}(hop:o.op = .move x)(hx:σ x=v)(w:World):(execOp σ o).run P w = .ok (.value v) w:=by unfold execOp;rw[hop];simp[hx]
theorem an6{o:Oper}{σ:Operand->Value}{t e:TypeId}{x lo:Operand}{g n cap m:Nat}(hop:o.op = .slice t x (some lo) none none)(ht:cN P t=some e)(hsz:bf P e=some 1)(hx:σ x = .slice (some ⟨g,0,none⟩) n cap)(hlo:σ lo = .int .i64 (m:Nat))(hm:m<=n)(hc:m<cap)(w:World) :
  (execOp σ o).run P w = .ok (.value (.slice (some ⟨g,m,none⟩) (n-m) (cap-m))) w:=by
 unfold execOp;rw[hop];simp only[map_some,map_none,hx,hlo];have hrun:(Instr.sliceAt t (.slice (some ⟨g,0,none⟩) n cap) (some (.int .i64 (m:Nat))) none none).run P w = .ok (sliced (some ⟨g,0,none⟩) m n cap 1) w:=by
  have h3:(m:Int)<=(n:Int):=by omega
  simp[Instr.sliceAt,Instr.slice,run_underlying (eV ht),Instr.sliceBounds,run_sliceBound,sliced,dy hsz,h3]
 have hd:sliced (some ⟨g,0,none⟩) m n cap 1 = .slice (some ⟨g,m,none⟩) (n-m) (cap-m):=by simp[sliced,Addr.add_mid];omega
 rw[run_lift,hrun,hd];rfl
theorem an7{o:Oper}{σ:Operand->Value}{t e:TypeId}{x hi:Operand}{g n cap m:Nat}(hop:o.op = .slice t x none (some hi) none)(ht:cN P t=some e)(hsz:bf P e=some 1)(hx:σ x = .slice (some ⟨g,0,none⟩) n cap)(hhi:σ hi = .int .i64 (m:Nat))(hm:m<=cap)(w:World) :
  (execOp σ o).run P w = .ok (.value (.slice (some ⟨g,0,none⟩) m cap)) w:=by
 unfold execOp;rw[hop];simp only[map_some,map_none,hx,hhi];have hrun:(Instr.sliceAt t (.slice (some ⟨g,0,none⟩) n cap) none (some (.int .i64 (m:Nat))) none).run P w = .ok (sliced (some ⟨g,0,none⟩) 0 m cap 1) w:=by
  have h3:(m:Int)<=(cap:Int):=by omega
  simp[Instr.sliceAt,Instr.slice,run_underlying (eV ht),Instr.sliceBounds,run_sliceBound,sliced,dy hsz,h3]
 have hd:sliced (some ⟨g,0,none⟩) 0 m cap 1 = .slice (some ⟨g,0,none⟩) m cap:=by simp[sliced,Addr.add_mid]
 rw[run_lift,hrun,hd];rfl
section
variable{ops:Array Oper}{Q:Exit->Act->World->Prop}{C:Ctx}{env:Env}{H:au}{tm:Array Value}{w:World}{fuel:Nat}{listed:Array Bool}
theorem zo(i:Nat)(o:Oper)(v:Value)(hi:ops[i]? = some o)(hsel:Region.noSelect ops=true)(hf:Region.free .any ops listed i=true)(hr:(Region.ready .any ops listed).contains i=true)(hQ:∀c a w,¬ Q (.panic c) a w)
  (hg:lX ops o env=some true) (hd:vt C.n o.dst) (h1:v.oneCell'=true) (hs:gK C env H I L tm w)
  (hy:∀σ:Operand->Value,(∀x,dV I L (σ x) (ev env x))->∀w,(execOp σ o).run P w = .ok (.value v) w)
  (hk:∀tm',gK C (cA env o.dst (.p (.val v))) H I L tm' w->wpAny P .any ops Q fuel (listed.setIfInBounds i true) ⟨tm',[]⟩ w):wpAny P .any ops Q (fuel+1) listed ⟨tm,[]⟩ w:=by
 have e:(Act.put ⟨tm,[]⟩ o.dst v:Act)=⟨(Act.put ⟨tm,[]⟩ o.dst v).tmps,[]⟩:=by cases o.dst<;>rfl
 refine wpAny_take (v:=v) hi hsel hf hr (λc a w h=>absurd h (hQ c _ w)) (.inl ⟨nj hg hs,hy _ (λx=>qM hs [] x)⟩) ?_;rw[e];exact hk _ (hs.cA hd (.p _ _ (.val _ h1)) [])
theorem aqU(i:Nat)(o:Oper){v:AV}{H':au}(hi:ops[i]? = some o)(hr:Region.ready .any ops listed=[i])(hg:lX ops o env=some true)(hd:vt C.n o.dst)(hs:gK C env H I L tm w)
  (hy:∀σ:Operand->Value,(∀x,dV I L (σ x) (ev env x))->nV P C H I L w ((execOp σ o).run P w) v H')
  (hk:∀I' L' tm' w',Fr C I L H w I' L' H' w'->gK C (cA env o.dst v) H' I' L' tm' w'->wpAny P .any ops Q fuel (listed.setIfInBounds i true) ⟨tm',[]⟩ w'):wpAny P .any ops Q (fuel+1) listed ⟨tm,[]⟩ w:=by
 refine wpAny_all hr (by simp) λj hj=>?_
 have:j=i:=by simpa using hj
 subst this;unfold wpOp;rw[hi];simp only[];rw[if_pos (nj hg hs)];refine .inl ?_;unfold Oper.wp;refine (hy _ (λx=>qM hs [] x)).upon λu w' I' L' ha hf=>?_
 have e:(Act.put ⟨tm,[]⟩ o.dst u:Act)=⟨(Act.put ⟨tm,[]⟩ o.dst u).tmps,[]⟩:=by cases o.dst<;>rfl
 rw[e];exact hk I' L' _ w' hf ((hf env tm hs).cA hd ha [])
end
end Go.b7
namespace Go.b7
open Go.RowKit
variable{P:Program}{I:Mem}{L:bA}
theorem an8{α:Type}{sz:Nat}{es ns:List (List α)}(h:∀x∈es,x.length=sz)(hn:∀x∈ns,x.length=sz)(o:Nat)(ho:o+ns.length<=es.length):(splice es o ns).flatten=splice es.flatten (o * sz) ns.flatten:=by
 have h1:∀n,n<=es.length->(es.take n).flatten=es.flatten.take (n * sz)/\(es.drop n).flatten=es.flatten.drop (n * sz):=λn hn'=>by
  have e1:es.flatten=(es.take n).flatten++(es.drop n).flatten:=by rw[<-flatten_append,take_append_drop]
  have e2:(es.take n).flatten.length=n * sz:=by rw[bJ (sz:=sz) λx hx=>h x (mem_of_mem_take hx),length_take,min_eq_left hn']
  rw[e1,<-e2,take_left,drop_left];exact⟨rfl,rfl⟩
 unfold splice;rw[flatten_append,flatten_append,(h1 o (by omega)).1,(h1 _ ho).2,bJ hn,add_mul]
theorem azm{C:Ctx}{env:Env}{H:au}{tm:Array Value}{w:World}(hs:gK C env H I L tm w){id v:Nat}{e:TypeId}{sz:Nat}{es ns:List (List PV)}(hH:H id=some (.row v e sz es)){g n cap:Nat}(hL:L id=some (.row v (.slice (some ⟨g,0,none⟩) n cap) sz))
  {o:Nat} (ho:o+ns.length<=es.length) (hns:∀x∈ns,x.length=sz) {cs:List Value} (hcl:cs.length=ns.length * sz) (h1:∀v∈cs,v.oneCell'=true) (hv:∀ (j:Nat) u c,cs[j]? = some u->ns.flatten[j]? = some c->VR I u c) :
  ∃cur,w.heap[g]? = some (.cells cur e (0,0))/\(∀j,j<es.length * sz->(cur[j]?).isSome=true)/\o * sz+cs.length<=cur.size/\Fr C I L H w I L (br H id (.row v e sz (splice es o ns))) (w.setRow g (splice cur.toList (o * sz) cs).toArray):=by
 obtain⟨hdr,us,q1,q2,q3,q4,q5,q6,q7⟩:=hs.chunk id _ hH;rw[hL] at q1;simp only[cC,Loc.row.injEq,true_and,and_true] at q1;subst q1;rcases q2.2 with ⟨akN,_⟩|⟨g',cp,cur,heq,hbg,hgg,hnc,hcm,hcz,kL⟩
 ·cases akN
 simp only[Value.slice.injEq,cC,Addr.mk.injEq] at heq;obtain⟨⟨e3,_⟩,e4,e5⟩:=heq;subst e3 e4 e5;have hmul:(o+ns.length) * sz<=es.length * sz:=mul_le_mul_right _ ho;have aKD:es.length * sz<=cap * sz:=mul_le_mul_right _ hnc;rw[add_mul] at hmul;refine⟨cur,hgg,λj hj=>by rw[Array.getElem?_eq_getElem (by omega)];rfl,by omega,λenv tm hs=>?_⟩;have hcu:us.length=es.length * sz:=q2.1;have hsl:(splice es o ns).length=es.length:=dD ho;have e0:cc L id (.row v (.slice (some ⟨g,0,none⟩) es.length cap) sz)=L:=by
  funext i;unfold cc;split
  ·rename_i h;rw[h,hL]
  ·rfl
 have key:=hs.turn (w':=w.setRow g (splice cur.toList (o * sz) cs).toArray) (l':=.row v (.slice (some ⟨g,0,none⟩) es.length cap) sz) (pW _ (hs.fT id _ g hL rfl).1) hL (λk hk hne=>setRow_other w g k _ (λe=>hne (by rw[e];rfl))) (dS.yb hL) (λk hk=>q7 k hk) (.row v e sz (splice es o ns)) (by
  refine⟨.slice (some ⟨g,0,none⟩) es.length cap,splice us (o * sz) cs,by simp[cc],⟨?_,.inr ⟨g,cap,(splice cur.toList (o * sz) cs).toArray,by rw[hsl],hbg,setRow_heap w g cur _ e _ hgg,by rw[hsl];exact hnc,hcm,?_,?_⟩⟩,q3,?_,?_,vr q6 h1,q7⟩
  ·rw[hsl,dD (by omega)];exact hcu
  ·simp only[size_toArray];rw[dD (by simp;omega)];simp;omega
  ·rw[hsl];show (splice cur.toList (o * sz) cs).take (es.length * sz)=splice us (o * sz) cs;rw[wQ (by omega) (by simp;omega),kL]
  ·intro z hz;rcases mem_append.1 hz with h|h
   ·rcases mem_append.1 h with h|h
    ·exact q4 z (mem_of_mem_take h)
    ·exact hns z h
   ·exact q4 z (mem_of_mem_drop h)
  ·rw[an8 q4 hns o ho];exact adz (by rw[bJ q4];exact hcu) (by rw[bJ hns];exact hcl) q5 hv) (λk hk=>.inl hk)
 rw[e0] at key;exact key
theorem ash{C:Ctx}{env:Env}{H:au}{tm:Array Value}{w:World}(hs:gK C env H I L tm w){id v:Nat}{e:TypeId}{sz:Nat}{es:List (List PV)}(hH:H id=some (.row v e sz es))(h0:0<es.length) :
  ∃g cap,L id=some (.row v (.slice (some ⟨g,0,none⟩) es.length cap) sz)/\es.length<=cap/\∀ {u:Value} {off n m sz':Nat},dV I L u (.iV id v off n m sz')->sz'=sz/\∃a,u = .slice a n (cap-off)/\n<=m/\m<=cap-off/\(a=none->cap-off=0)/\(off<cap\/off=0->a=some ⟨g,off * sz,none⟩):=by
 obtain⟨hdr,us,q1,q2,q3,q4,q5,q6,q7⟩:=hs.chunk id _ hH;rcases q2.2 with ⟨_,hn⟩|⟨g,cp,cur,heq,hbg,hgg,hnc,hcm,hcz,kL⟩
 ·omega
 subst heq;refine⟨g,cp,q1,hnc,λ{u off n m sz'} hu=>?_⟩;cases hu with
 |iV a _ _ v1 _ _ _ c mT sz1 qq hle hn hm hz hh=>rw[q1] at qq;simp only[cC,Loc.row.injEq] at qq;obtain⟨r1,r2,r3⟩:=qq;subst r1 r2 r3;obtain⟨ao1,m1,aHr,e1,rfl,ha⟩:=hh rfl;simp only[Value.slice.injEq] at e1;obtain⟨rfl,rfl,rfl⟩:=e1;refine⟨rfl,a,rfl,hn,hm,hz,λh=>?_⟩;rw[ha h];simp[Addr.add_mid]
theorem an9{o:Oper}{W:Env->au->Prop}{env:Env}{H:au}(t1 t2:TypeId)(x y:Operand)(id v n m off n' m':Nat)(e:TypeId)(sz rY:Nat)(es:List (List PV))(hop:o.op = .call ⟨.builtin .append,#[x,y],#[t1,t2]⟩)(ht:dM P t1 t2=some (e,sz,rY))
  (hx:ev env x = .iV id v 0 n m sz) (hy:ev env y = .iV id v off n' m' sz) (hH:H id=some (.row v e sz es)) (h0:0<es.length) (hn:n+n'<=m) (hm:m<=es.length) (hoff:off+n'<=es.length)
  (hW:W (cA env o.dst (.iV id v 0 (n+n') m sz)) (br H id (.row v e sz (splice es n ((es.drop off).take n'))))):iU P o W env H:=by
 refine .inr (.inr (.inl ⟨_,_,hW,λC I L tm w σ hs hσ=>?_⟩));have hxv:=hσ x;have hyv:=hσ y;rw[hx] at hxv;rw[hy] at hyv;obtain⟨rfl,hu,hpos,ac3,i,z,hi,hz,hsz,hby,hzc⟩:=pU ht;obtain⟨g,cap,hL,hnc,hall⟩:=ash hs hH h0;obtain⟨_,a,e1,a1,a2,a3,a4⟩:=hall hxv;obtain⟨_,b,e2,b1,b2,b3,b4⟩:=hall hyv;have hae:=a4 (.inr rfl);subst hae;rw[Nat.zero_mul] at e1;rw[Nat.sub_zero] at e1 a2;obtain⟨hdr,us,q1,q2,q3,q4,q5,q6,q7⟩:=hs.chunk id _ hH;rw[hL] at q1;simp only[cC,Loc.row.injEq,true_and,and_true] at q1;subst q1;have hus:us.length=es.length * sz:=q2.1;have hcell:=q2.cells (g:=g) rfl;have hnl:((es.drop off).take n').length=n':=by rw[length_take,length_drop];omega
 have hns:∀x∈(es.drop off).take n',x.length=sz:=λx hx=>q4 x (mem_of_mem_drop (mem_of_mem_take hx))
 have hmul:(off+n') * sz<=es.length * sz:=mul_le_mul_right _ hoff;rw[add_mul] at hmul;have aBT:((us.drop (off * sz)).take (n' * sz)).length=n' * sz:=by rw[length_take,length_drop];omega
 have hfl:((es.drop off).take n').flatten=(es.flatten.drop (off * sz)).take (n' * sz):=by
  have f1:es.flatten=(es.take off).flatten++(es.drop off).flatten:=by rw[<-flatten_append,take_append_drop]
  have f2:(es.take off).flatten.length=off * sz:=by rw[bJ (sz:=sz) λx hx=>q4 x (mem_of_mem_take hx),length_take,min_eq_left (by omega)]
  have f3:(es.drop off).flatten=((es.drop off).take n').flatten++((es.drop off).drop n').flatten:=by rw[<-flatten_append,take_append_drop]
  have f4:((es.drop off).take n').flatten.length=n' * sz:=by rw[bJ hns,hnl]
  rw[f1,<-f2,drop_left,f3,<-f4,take_left]
 have hone:∀u∈(us.drop (off * sz)).take (n' * sz),u.oneCell'=true:=λu hu=>q6 u (mem_of_mem_drop (mem_of_mem_take hu))
 obtain⟨cur,c1,c2,c3,c4⟩:=azm hs hH hL (o:=n) (ns:=(es.drop off).take n') (by rw[hnl];omega) hns (cs:=(us.drop (off * sz)).take (n' * sz)) (by rw[aBT,hnl]) hone (λj u c hu hc=>by
  rw[hfl] at hc;rw[getElem?_take] at hu hc;split at hu
  ·rename_i hj;rw[if_pos hj,getElem?_drop] at hc;rw[getElem?_drop] at hu;exact q5 _ u c hu hc
  ·cases hu)
 have hnews:n'=0\/∃bb,b=some bb/\∀ (j:Nat) u,((us.drop (off * sz)).take (n' * sz))[j]? = some u->w.cell? (bb.add j)=some u:=by
  rcases Nat.eq_zero_or_pos n' with h|h
  ·exact .inl h
  ·refine .inr ⟨_,b4 (.inl (by omega)),λj u hu=>?_⟩;rw[getElem?_take] at hu;split at hu
   ·rw[getElem?_drop] at hu;have:=hcell _ u hu;rw[Addr.add_mid,zero_add] at this;rw[Addr.add_mid];exact this
   ·cases hu
 have hrun:(execOp σ o).run P w = .ok (.value (.slice (some ⟨g,0,none⟩) (n+n') cap)) (w.setRow g (splice cur.toList (n * sz) ((us.drop (off * sz)).take (n' * sz))).toArray):=by
  unfold execOp;rw[hop];have hst:=run_storeCells_at (P:=P) g (n * sz) e ((us.drop (off * sz)).take (n' * sz)) 0 cur w c1 (by omega) hone;simp only[add_zero] at hst;have hfc:(Builtin.firstCells sz n' (.slice b n' (cap-off))).run P w = .ok ((us.drop (off * sz)).take (n' * sz)).toArray w:=by
   rcases hnews with h|⟨bb,rfl,hb⟩
   ·subst h;cases b with
    |none=>simp[Builtin.firstCells]
    |some bb=>simpa using run_firstCells_some (P:=P) w sz 0 bb 0 (cap-off) [] (by simp) (λj u hu=>by simp at hu)
   ·exact run_firstCells_some (P:=P) w sz n' bb n' (cap-off) _ aBT hb
  have hroom:n+n'<=cap:=by omega
  simp[resolve,invoke,builtin,Result.andThen,e1,e2,Builtin.append_,run_underlying hu,sizeOf,typeInfo,hi,hsz,Builtin.lenOf,hroom,hfc,Addr.add_mid,hst,splice]
 exact⟨_,_,I,L,.inl hrun,.iV _ _ _ v _ _ _ cap _ _ hL (le_refl _) (by omega) (by omega) (λh=>by cases h) (λ_=>⟨_,_,_,rfl,rfl,λ_=>by simp[Addr.add_mid]⟩),c4⟩
theorem ahT{o:Oper}{W:Env->au->Prop}{env:Env}{H:au}(t:TypeId)(x:Operand)(id v off n m:Nat)(e:TypeId)(sz:Nat)(es:List (List PV))(zs:List Value)(hop:o.op = .call ⟨.builtin .clear,#[x],#[t]⟩)(ht:cN P t=some e)(hz:cH P e=some zs)(hzl:zs.length=sz)(hpos:0<sz)(hzo:zs.all Value.oneCell'=true)
  (hx:ev env x = .iV id v off n m sz) (hH:H id=some (.row v e sz es)) (h0:0<es.length) (hn:off+n<=es.length)
  (hW:W (cA env o.dst (.dH [])) (br H id (.row v e sz (splice es off (replicate n (zs.map PV.val)))))):iU P o W env H:=by
 refine .inr (.inr (.inl ⟨_,_,hW,λC I L tm w σ hs hσ=>?_⟩));have hxv:=hσ x;rw[hx] at hxv;obtain⟨g,cap,hL,hnc,hall⟩:=ash hs hH h0;obtain⟨_,a,e1,a1,a2,a3,a4⟩:=hall hxv;have hu:=eV ht;obtain⟨z,hzr,hzc⟩:=xZ hz w;have aBT:(replicate n zs).flatten.length=n * sz:=by rw[bJ (sz:=sz) λx hx=>by rw[eq_of_mem_replicate hx];exact hzl,length_replicate]
 have hone:∀u∈(replicate n zs).flatten,u.oneCell'=true:=λu hu=>by obtain⟨x,hx,hux⟩:=mem_flatten.1 hu;rw[eq_of_mem_replicate hx] at hux;exact all_eq_true.1 hzo u hux
 have arQ:(replicate n (zs.map PV.val)).flatten=(replicate n zs).flatten.map PV.val:=by simp[map_flatten]
 obtain⟨cur,c1,c2,c3,c4⟩:=azm hs hH hL (o:=off) (ns:=replicate n (zs.map PV.val)) (by rw[length_replicate];exact hn) (λx hx=>by rw[eq_of_mem_replicate hx,length_map];exact hzl) (cs:=(replicate n zs).flatten) (by rw[aBT,length_replicate]) hone (λj u c hu hc=>by
  rw[arQ,getElem?_map,hu] at hc;simp at hc;subst hc;exact .val u (hone u (mem_of_getElem? hu)))
 rcases Nat.eq_zero_or_pos n with h|h
 ·subst h;have hsp:splice es off (replicate 0 (zs.map PV.val))=es:=by simp[splice]
  have hrun:(execOp σ o).run P w = .ok (.value (.tuple #[])) w:=by unfold execOp;rw[hop];cases a<;>simp[resolve,invoke,builtin,Result.andThen,e1,Builtin.clear_,run_underlying hu]
  refine⟨_,_,I,L,.inl hrun,.dH _ _ rfl (λi u c hu hc=>by simp at hc),λenv tm hs=>?_⟩;rw[hsp];have:br H id (.row v e sz es)=H:=by
   funext i;unfold br;split
   ·rename_i h;rw[h,hH]
   ·rfl
  rw[this];exact hs
 ·have hae:=a4 (.inl (by omega));subst hae;have hrun:(execOp σ o).run P w = .ok (.value (.tuple #[])) (w.setRow g (splice cur.toList (off * sz) (replicate n zs).flatten).toArray):=by unfold execOp;rw[hop];have hst:=run_storeCells_at (P:=P) g (off * sz) e (replicate n zs).flatten 0 cur w c1 (by omega) hone;simp only[add_zero] at hst;have aea:Builtin.zeroCells zs.toArray n=(replicate n zs).flatten.toArray:=ach zs n (by omega);obtain⟨k,rfl⟩:∃k,n=k+1:=⟨n-1,by omega⟩;simp only[resolve,invoke,builtin,Result.andThen,Builtin.clear_,Sem.run_bind];simp[Result.andThen,e1,run_underlying hu,hzr,hzc,aea,hst,splice]
  exact⟨_,_,I,L,.inl hrun,.dH _ _ rfl (λi u c hu hc=>by simp at hc),c4⟩
theorem aoa{C:Ctx}{E:Env}{H:au}{tm:Array Value}{w:World}(hs:gK C E H I L tm w){id v:Nat}{e:TypeId}{sz:Nat}{es:List (List PV)}{u:Value}(hv:dV I L u (.row id v))(hH:H id=some (.row v e sz es)):dV I L u (.iV id v 0 es.length es.length sz):=by
 obtain⟨hdr,us,q1,q2,q3,q4,q5,q6,q7⟩:=hs.chunk id _ hH;rw[hv.alF q1];rcases q2.2 with ⟨e1,hn⟩|⟨g,cap,cur,e1,_,_,hnc,_⟩
 ·subst e1;rw[hn];exact .iV _ _ _ v _ _ _ 0 _ _ q1 (le_refl _) (by omega) (by omega) (λ_=>rfl) (λ_=>⟨none,0,0,rfl,rfl,λ_=>rfl⟩)
 ·subst e1;exact .iV _ _ _ v _ _ _ cap _ _ q1 (le_refl _) (by omega) hnc (λh=>by cases h) (λ_=>⟨_,_,cap,rfl,rfl,λ_=>by simp[Addr.add_mid]⟩)
theorem avg{E:Env}{H:au}(t id v:Nat)(e:TypeId)(sz:Nat)(es:List (List PV))(ht:E t = .row id v)(hH:H id=some (.row v e sz es)):c8 E H (c9 E t (.iV id v 0 es.length es.length sz)) H:=λC I L tm w hs=>by
 refine⟨I,L,{ hs with env:=λi=>?_ }⟩;unfold c9;split
 ·rename_i hi;rw[hi];exact aoa hs (ht ▸ hs.env t) hH
 ·exact hs.env i
theorem azn{C:Ctx}{E:Env}{H:au}{tm:Array Value}{w:World}(hs:gK C E H I L tm w){id v n m:Nat}{e:TypeId}{sz:Nat}{es:List (List PV)}{ux:Value}(hxv:dV I L ux (.iV id v 0 n m sz))(hH:H id=some (.row v e sz es))(hn:n<=es.length) :
  ∃L',dV I L' ux (.row id (v+1))/\gK C E (br H id (.row (v+1) e sz (es.take n))) I L' tm w:=by
 obtain⟨hdr,us,q1,q2,q3,q4,q5,q6,q7⟩:=hs.chunk id _ hH;cases hxv with
 |iV a _ _ v1 _ _ _ c mT sz1 qq hle hnm hm hz hh =>
  rw[q1] at qq;simp only[cC,Loc.row.injEq,and_true] at qq;obtain⟨r1,r2⟩:=qq;subst r1;subst r2;obtain⟨ao,k,cap,e1,rfl,ha⟩:=hh rfl;have ha':a=ao:=by
   have:=ha (.inr rfl);rw[this];rcases q2.2 with ⟨e2,_⟩|⟨g,cap',cur,e2,_⟩
   ·rw[e1] at e2;simp only[Value.slice.injEq] at e2;rw[e2.1];rfl
   ·rw[e1] at e2;simp only[Value.slice.injEq] at e2;rw[e2.1];simp[Addr.add_mid]
  subst ha';have hms:n * sz<=es.length * sz:=mul_le_mul_right _ hn;have htl:(es.take n).length=n:=by rw[length_take];omega
  have hus:us.length=es.length * sz:=q2.1;have hfl:(es.take n).flatten=es.flatten.take (n * sz):=by
   have h1:es.flatten=(es.take n).flatten++(es.drop n).flatten:=by rw[<-flatten_append,take_append_drop]
   have h2:(es.take n).flatten.length=n * sz:=by rw[bJ (sz:=sz) λx hx=>q4 x (mem_of_mem_take hx),htl]
   rw[h1,<-h2,take_left]
  have aDi:∀ (fz:Value),w.ownsRow C.B e sz fz n (us.take (n * sz))->(∀b,fz.ownBlock=some b->hdr.ownBlock=some b)->qL I (cc L id (.row (v+1) fz sz)) w C.B id (.row (v+1) e sz (es.take n)):=λfz ho hb=>by
   refine⟨fz,us.take (n * sz),by simp[cc],by rw[htl];exact ho,q3,λx hx=>q4 x (mem_of_mem_take hx),λj u c hu hc=>?_,λu hu=>q6 u (mem_of_mem_take hu),λb h=>q7 b (hb b h)⟩;rw[getElem?_take] at hu;rw[hfl,getElem?_take] at hc;split at hu
   ·rename_i hj;rw[if_pos hj] at hc;exact q5 j u c hu hc
   ·cases hu
  have key:∀fz:Value,fz = .slice a n c->w.ownsRow C.B e sz fz n (us.take (n * sz))->(∀b,fz.ownBlock=some b->hdr.ownBlock=some b)->∃L',dV I L' (.slice a n c) (.row id (v+1))/\gK C E (br H id (.row (v+1) e sz (es.take n))) I L' tm w:=λfz he ho hb=>⟨cc L id (.row (v+1) fz sz),.row _ _ _ (v+1) fz sz (by simp[cc]) (le_refl _) (λ_=>he.symm) rfl,hs.turn (Below.refl _ _) q1 (λ_ _ _=>rfl) (dS.ag0 q1) (λb hb o=>q7 b hb o) _ (aDi fz ho hb) (λb hbb=>.inl (hb b hbb))⟩
  rcases q2.2 with ⟨e2,hz0⟩|⟨g,cap',cur,e2,hb,hg,hnc,hcm,hcs,kL⟩
  ·rw[e1] at e2;simp only[Value.slice.injEq] at e2;obtain⟨rfl,rfl,rfl⟩:=e2;have hn0:n=0:=by omega
   subst hn0;exact key _ rfl ⟨by simp,.inl ⟨rfl,rfl⟩⟩ (λb hb=>by cases hb)
  ·rw[e1] at e2;simp only[Value.slice.injEq] at e2;obtain⟨rfl,rfl,rfl⟩:=e2;refine key _ rfl ⟨?_,.inr ⟨g,c,cur,rfl,hb,hg,by omega,hcm,hcs,?_⟩⟩ (λb hb=>by rw[e1];exact hb)
   ·rw[length_take];omega
   ·rw[<-kL,take_take,min_eq_left hms]
theorem ahU{f:FuncId}{v:Nat}{e:TypeId}{sz:Nat}{es R:List (List PV)}{ps:List PV}(h:mb P f v e sz es ps λa c=>∃es' n m,(a = .iV 1000000 v 0 n m sz\/(a = .row 1000000 v/\n=es'.length))/\c=some (.row v e sz es')/\n<=es'.length/\es'.take n=R) :
  mb P f v e sz es ps λa c=>a = .row 1000000 (v+1)/\c=some (.row (v+1) e sz R) :=
 ⟨h.1,λB I w hdr us vs hB hI hr h1 hv=>(h.2 B I w hdr us vs hB hI hr h1 hv).mono λ_ _ ⟨u,a,H',I',L',q1,⟨es',n,m,q2,q3,q6,q7⟩,q4,q5⟩=>by
  subst q7;rcases q2 with rfl|⟨rfl,rfl⟩
  ·obtain⟨L2,h1,h2⟩:=azn q5 q4 q3 q6;exact⟨u,_,_,I',L2,q1,⟨rfl,by simp[br]⟩,h1,h2⟩
  ·obtain⟨L2,h1,h2⟩:=azn q5 (aoa q5 q4 q3) q3 (le_refl _);exact⟨u,_,_,I',L2,q1,⟨rfl,by simp[br]⟩,h1,h2⟩⟩
theorem asi{o:Oper}{W:Env->au->Prop}{env:Env}{H:au}(t:TypeId)(x lo hi mx:Operand)(s id v:Nat)(e:TypeId)(sz:Nat)(es:List (List PV))(k1 k2 k3:IntKind)(l h m:Int)(hop:o.op = .slice t x (some lo) (some hi) (some mx))(ht:cN P t=some e)(hsz:bf P e=some sz)
  (hs0:env s = .row id v) (hx:ev (c9 env s (.iV id v 0 es.length es.length sz)) x = .row id v) (hlo:ev (c9 env s (.iV id v 0 es.length es.length sz)) lo = .p (.val (.int k1 l))) (hhi:ev (c9 env s (.iV id v 0 es.length es.length sz)) hi = .p (.val (.int k2 h))) (hmx:ev (c9 env s (.iV id v 0 es.length es.length sz)) mx = .p (.val (.int k3 m)))
  (hH:H id=some (.row v e sz es)) (hb:0<=l/\l<=h/\h<=m/\m<=es.length) (hW:W (cA (c9 env s (.iV id v 0 es.length es.length sz)) o.dst .dead) H):iU P o W env H:=by
 refine yg (avg s id v e sz es hs0 hH) (.inr (.inl ⟨.dead,H,hW,λC I L tm w σ hs hσ=>?_⟩));have hxv:=hσ x;have hlv:=(hlo ▸ hσ lo).dI.1;have hhv:=(hhi ▸ hσ hi).dI.1;have hmv:=(hmx ▸ hσ mx).dI.1;rw[hx] at hxv;obtain⟨hdr,us,q1,q2,q3,q4,q5,q6,q7⟩:=hs.chunk id _ hH;have hu:=hxv.alF q1;obtain⟨b0,b1,b2,b3⟩:=hb;obtain⟨a,cap,e1,hcap⟩:∃a cap,hdr = .slice a es.length cap/\es.length<=cap:=by
  rcases q2.2 with ⟨e1,hn⟩|⟨g,cap,cur,e1,_,_,hnc,_⟩
  ·exact⟨none,0,by rw[hn];exact e1,by omega⟩
  ·exact⟨_,cap,e1,hnc⟩
 have h4:m<=(cap:Int):=by omega
 have hrun:(execOp σ o).run P w = .ok (.value (.slice (if m.toNat=l.toNat then a else a.map (·.add (l.toNat * sz))) (h.toNat-l.toNat) (m.toNat-l.toNat))) w:=by unfold execOp;rw[hop];simp only[map_some,hu,hlv,hhv,hmv,e1];rw[run_lift];simp[Instr.sliceAt,Instr.slice,run_underlying (eV ht),xY (P:=P) (isS:=true) (lo:=some (.int k1 l)) (.inr ⟨k1,rfl⟩) b0 b1 b2 h4,dy hsz,Result.andThen]
 exact .still hrun (.dead _)
variable{t:TypeId}
def slR(e:Option TypeId)(f:TypeId->Option Nat)(a b:Option Int)(id bg off m sz:Nat):Option (Prop×AV):=match e,a,b with
 |some e,some l,some h=>(match f e with
  |some sz'=>some ((0<=l/\l<=h/\h<=m)/\sz'=sz,.iV id bg (off+l.toNat) (h.toNat-l.toNat) (m-l.toNat) sz)
  |none=>none)
 |_,_,_=>none
theorem aob{id bg off n m sz:Nat}{lo hi:Option AV} : ue P t (.iV id bg off n m sz) lo hi none=slR (cN P t) (bf P) (bnd 0 lo) (bnd n hi) id bg off m sz:=by unfold ue slR;simp only[];all_goals(cases cN P t<;>cases bnd 0 lo<;>cases bnd n hi<;>rfl)
theorem azo(e:TypeId)(f:TypeId->Option Nat)(l h:Int)(id bg off m sz:Nat):slR (some e) f (some l) (some h) id bg off m sz=(match f e with
  |some sz'=>some ((0<=l/\l<=h/\h<=m)/\sz'=sz,.iV id bg (off+l.toNat) (h.toNat-l.toNat) (m-l.toNat) sz)
  |none=>none):=rfl
theorem avh{H:au}{id bg off n m sz:Nat}(h:isSlice P t=true):agq P t (.iV id bg off n m sz) H=some (True,.p (.val (.int .i64 n)),H):=by simp[agq,rU,h,up3]
attribute [go_sem] aob azo avh
end Go.b7
namespace Go.b7
open Go.RowKit
variable{P:Program}{t:TypeId}
theorem avi(H:au)(id bg:Nat):cO H id bg=(match H id with
 |some (.deep v _ _ k _ _ es)=>if v=bg then some (k,es) else none
 |_=>none):=by
 unfold cO;cases H id with
 |none=>rfl
 |some c=>cases c<;>rfl
def aEV(x:Option PV):Option (List (List PV)):=match x with
 |some (.aL l)=>some l
 |_=>none
theorem azp(l:List (List PV)):aEV (some (.aL l))=some l:=rfl
theorem aqV(k:Nat)(es:List (List PV))(i:Nat):nF (some (k,es)) i=aEV ((es.getD i [])[k]?):=rfl
theorem avj(id bg i k:Nat)(x:List PV):adx id bg i k x=(x.map AV.p).set k (.lG id bg i):=rfl
theorem aqW(H:au)(id bg i off:Nat):ag9 P t (.lF id bg i off) H=(match cO H id bg with
   |some (k,es)=>(match tB P t (adx id bg i k (es.getD i [])) off with|some v=>some (i<es.length,v,H)|none=>none)
   |none=>none):=rfl
theorem aqX(H:au)(id bg i j off:Nat):ag9 P t (.oB id bg i j off) H=(match nF (cO H id bg) i with
   |some l=>(match tC P t (l.getD j []) off with|some x=>some (j<l.length,.p x,H)|none=>none)
   |none=>none):=rfl
theorem aoc(H:au)(o n:Nat)(id bg i off:Nat):afh P (some (o,n)) (.lF id bg i off) H=(match cO H id bg with
   |some _=>some (n≠0,.lF id bg i (off+o),H)
   |none=>none):=rfl
def aDj(r:Option (Nat×List (List PV)))(e:Option TypeId)(f:TypeId->Option Nat)(id bg:Nat)(n:Int)(H:au):Option (Prop×AV×au):=match r,e with
 |some (_,es),some e=>(match f e with
  |some sz=>some ((0<=n/\n<es.length)/\(es.getD n.toNat []).length=sz,.lF id bg n.toNat 0,H)
  |none=>none)
 |_,_=>none
theorem aod{H:au}{id bg:Nat}{k:IntKind}{a:Int} : qO P t (.fm id bg) (.p (.val (.int k a))) H=aDj (cO H id bg) (cN P t) (bf P) id bg a H:=by unfold qO aDj;simp only[];all_goals(cases cO H id bg<;>cases cN P t<;>rfl)
theorem avk(k:Nat)(es:List (List PV))(e:TypeId)(f:TypeId->Option Nat)(id bg:Nat)(n:Int)(H:au):aDj (some (k,es)) (some e) f id bg n H=(match f e with
  |some sz=>some ((0<=n/\n<es.length)/\(es.getD n.toNat []).length=sz,.lF id bg n.toNat 0,H)
  |none=>none):=rfl
def aDk(r:Option (List (List PV)))(e:Option TypeId)(f:TypeId->Option Nat)(id bg i:Nat)(n:Int)(H:au):Option (Prop×AV×au):=match r,e with
 |some l,some e=>(match f e with
  |some sz=>some ((0<=n/\n<l.length)/\(l.getD n.toNat []).length=sz,.oB id bg i n.toNat 0,H)
  |none=>none)
 |_,_=>none
theorem aoe{H:au}{id bg i:Nat}{k:IntKind}{a:Int} : qO P t (.lG id bg i) (.p (.val (.int k a))) H=aDk (nF (cO H id bg) i) (cN P t) (bf P) id bg i a H:=by unfold qO aDk;simp only[];all_goals(cases nF (cO H id bg) i<;>cases cN P t<;>rfl)
theorem avl(l:List (List PV))(e:TypeId)(f:TypeId->Option Nat)(id bg i:Nat)(n:Int)(H:au):aDk (some l) (some e) f id bg i n H=(match f e with
  |some sz=>some ((0<=n/\n<l.length)/\(l.getD n.toNat []).length=sz,.oB id bg i n.toNat 0,H)
  |none=>none):=rfl
theorem avm{H:au}{id bg i:Nat}(h:isSlice P t=true):agq P t (.lG id bg i) H=(match nF (cO H id bg) i with
  |some l=>some (True,.p (.val (.int .i64 l.length)),H)
  |none=>none):=by
 simp only[agq,rU,h];all_goals(cases nF (cO H id bg) i<;>rfl)
theorem aqY(H:au)(id bg:Nat):gL H (.fm id bg)=qt H (.fm id bg):=rfl
theorem aqZ(H:au)(id bg:Nat):qt H (.fm id bg)=(match cO H id bg with
  |some (_,es)=>some (.aL es,true)
  |none=>none):=rfl
theorem aq0(H:au)(id bg i:Nat):oD H (.lG id bg i)=qt H (.lG id bg i):=rfl
theorem aq1(H:au)(id bg i:Nat):qt H (.lG id bg i)=(match nF (cO H id bg) i with
  |some l=>some (.aL l,true)
  |none=>none):=rfl
theorem anz{H' H:au}{id v:Nat}{e:TypeId}{sz k:Nat}{e':TypeId}{sz':Nat}{es:List (List PV)}(h:qP H' H):qP (br H' id (.deep v e sz k e' sz' es)) H:=λi c' hi=>by
 unfold br at hi;split at hi
 ·cases hi
 ·exact h i c' hi
def rvD(c:Option Chunk)(id bg:Nat):Option (RV×List Nat):=match c with
 |some (.deep v e sz k e' sz' es)=>if v=bg then some (.deep e sz k e' sz' es,[id]) else none
 |_=>none
theorem avn(H:au)(id bg:Nat):qg H (.fm id bg)=rvD (H id) id bg:=by unfold rvD;simp only[qg];try rfl
theorem azq(v:Nat)(e:TypeId)(sz k:Nat)(e':TypeId)(sz':Nat)(es:List (List PV))(id bg:Nat):rvD (some (.deep v e sz k e' sz' es)) id bg=if v=bg then some (.deep e sz k e' sz' es,[id]) else none:=rfl
theorem aof(n:Nat)(e:TypeId)(sz k:Nat)(e':TypeId)(sz':Nat)(es:List (List PV)):cT n (.deep e sz k e' sz' es)=(.fm n 0,n+1):=by simp only[cT]
theorem aog(n:Nat)(H:au)(e:TypeId)(sz k:Nat)(e':TypeId)(sz':Nat)(es:List (List PV)):gB n H (.deep e sz k e' sz' es)=br H n (.deep 0 e sz k e' sz' es):=by simp only[gB]
theorem alG(id v:Nat):b8 (.fm id v)=[.fm id v]:=rfl
theorem aq2(id v:Nat):oC (.fm id v)=true:=rfl
attribute [go_sem] avn azq aof aog alG aq2
def bcA(P:Program)(e:Option TypeId)(n:Nat)(parts:List (Nat×AV)):Option (TypeId×List AV):=match e with
 |some e=>(match bf P e,cH P e with
  | some sz, some zs => if zs.length = sz ∧ 0 < sz ∧ n * sz ≤ 16777216 ∧ zs.all (·.oneCell') = true then
    (match rX (λi=>some (i * sz,sz)) (iK zs n) parts with
    |some cs=>some (e,cs)
    |none=>none)
   else none
  |_,_=>none)
 |none=>none
theorem aq3(n:Nat)(parts:List (Nat×AV)):wO P t n parts=bcA P (cN P t) n parts:=by
 unfold wO bcA;cases cN P t with
 |none=>rfl
 |some e=>simp only[];all_goals(cases bf P e<;>cases cH P e<;>rfl)
theorem azr(e:TypeId)(n:Nat)(parts:List (Nat×AV)):bcA P (some e) n parts=(match bf P e,cH P e with
  | some sz, some zs => if zs.length = sz ∧ 0 < sz ∧ n * sz ≤ 16777216 ∧ zs.all (·.oneCell') = true then
    (match rX (λi=>some (i * sz,sz)) (iK zs n) parts with
    |some cs=>some (e,cs)
    |none=>none)
   else none
  |_,_=>none):=rfl
attribute [go_sem] aq3 azr
theorem azs(id off:Nat):asC (.ptr id off)=some (True,.ptr id off):=rfl
theorem avo(cs:List PV)(off:Nat):asC (.p (.ez cs off))=some (True,.p (.ez cs off)):=rfl
attribute [go_sem] azs avo
def azt(a:Option AV)(H:au)(Q:AV->au->Prop):Prop:=match a with
 |some a=>Q a H
 |none=>False
theorem azu(rs:List ResultVar)(Q:AV->au->Prop)(env:Env)(H:au):aDe P rs Q .ret env H=azt (pq P env H rs) H Q:=rfl
theorem aoh(rs:List ResultVar)(Q:AV->au->Prop)(env:Env)(H:au):aDe P rs Q .normal env H=azt (pq P env H rs) H Q:=rfl
theorem aq4(a:AV)(H:au)(Q:AV->au->Prop):azt (some a) H Q=Q a H:=rfl
attribute [go_sem] azu aoh aq4
theorem avp(id bg i:Nat)(l:List AV):uT (.lG id bg i :: l)=none:=rfl
theorem avq(id bg:Nat)(l:List AV):uT (.fm id bg :: l)=none:=rfl
theorem avr(t1 t2:TypeId)(id v o n m z:Nat)(b:AV)(H:au):agr P t1 t2 (.iV id v o n m z) b H=none:=by
 unfold agr;have h1:ae9 P t1 t2 (.iV id v o n m z) b=none:=by unfold ae9;cases dM P t1 t2<;>rfl
 have h2:ad9 P t1 t2 (.iV id v o n m z) b H=none:=by unfold ad9;cases dM P t1 t2<;>rfl
 rw[h1,h2]
theorem avs(t1 t2:TypeId)(id v:Nat)(b:AV)(H:au):agr P t1 t2 (.fm id v) b H=none:=by
 unfold agr;have h1:ae9 P t1 t2 (.fm id v) b=none:=by unfold ae9;cases dM P t1 t2<;>rfl
 have h2:ad9 P t1 t2 (.fm id v) b H=none:=by unfold ad9;cases dM P t1 t2<;>rfl
 rw[h1,h2]
theorem avt{o:Option Tmp}{xs:Array Operand}{ts:Array TypeId}{ty:TypeId}{pos:String}{af:Array Edge}{g:Option (Nat×Bool)}{ρ:Operand->AV}{H:au} : kD P ⟨o,.call ⟨.builtin .clear,xs,ts⟩,ty,pos,af,g⟩ ρ H=none:=by simp[kD,vp,ya,mU,y3,exE,xU,y4,tD]
attribute [go_sem] avr avs avt avi azp aqV avj aqW aqX aoc aod avk aoe avl avm aqY aqZ aq0 aq1 avp avq
end Go.b7
namespace Go.Proofs.YteambpeibacfpaaGreat
open Go.b7
structure aj where
 id:Int
 type:Int
 values:List Int
structure ax where
 id:Int
 type:Int
 src:Int
 dst:Int
structure aO where
 id:Int
 attr:Int
 old:Int
 new:Int
structure oI where
 kind:Int
 id:Int
 attr:Int
instance:Inhabited aj:=⟨⟨0,0,[]⟩⟩
instance:Inhabited ax:=⟨⟨0,0,0,0⟩⟩
instance:Inhabited aO:=⟨⟨0,0,0,0⟩⟩
instance:Inhabited oI:=⟨⟨0,0,0⟩⟩
structure dJ where
 x0:Int
 x1:Int
structure aQ where
 aG:List aj
 aM:List ax
 aV:List aj
 bn:List ax
 values:List aO
 next:dJ
structure ay where
 host:Host
 nodes:List Int
 ah:List Int
 next:Int
def ag(x:aj):List PV:=[.val (.int .i64 x.id),.val (.int .i64 x.type),.aL (x.values.map encI)]
def ak(x:ax):List PV:=[.val (.int .i64 x.id),.val (.int .i64 x.type),.val (.int .i64 x.src),.val (.int .i64 x.dst)]
def aP(x:aO):List PV:=[.val (.int .i64 x.id),.val (.int .i64 x.attr),.val (.int .i64 x.old),.val (.int .i64 x.new)]
def aJ(x:aQ):List PV:=[.aL (x.aG.map ag),.aL (x.aM.map ak),.aL (x.aV.map ag),.aL (x.bn.map ak),.aL (x.values.map aP),.val (.int .i64 x.next.x0),.val (.int .i64 x.next.x1)]
def az(x:ay):List PV:=[.aL (x.host.graph.nodes.map encI),.aL (x.host.graph.ah.map aK),.aL (x.host.values.map bw),.aL (x.nodes.map encI),.aL (x.ah.map encI),.val (.int .i64 x.next)]
section
variable{α:Type}
end
theorem aga(p:aj->Bool)(l:List aj)(hl:l.length<=1000000)(k:FuncId)(fs cs:List PV)(hp:∀x∈l,aD pw k (fs++[pA (ag x)]++cs) (λr=>r = .val (.bool (p x)))) :
  aD pw 147 [.aL (l.map ag),.jk (.func k) fs cs] (λr=>r = .val (.int .i64 (idxOf p l))):=by
 refine aF [] func147 ntmps147 results147 ?_;simp only[go_sem];refine bV (σ:=Nat) (λx=>(c9 (c9 (c9 (c9 gI 0 (.p (.aL (l.map ag)))) 1 (.p (.jk (.func k) fs cs))) 7 (.p (.val (.int .i64 l.length)))) 8 (.p (.val (.int .i64 x))))) (λx=>ct)
  (λx=>x<=l.length/\∀j,j<x->p (l.getD j default)=false) (λx=>l.length-x) 0 ⟨zero_le _,λj hj=>absurd hj (not_lt_zero j)⟩ cu ?_
 rintro x ⟨hx,hq⟩;simp only[go_sem];refine aI (λhc=>?_) (λhc=>?_)
 ·have hlt:x<l.length:=by simpa using hc
  simp only[go_sem,getD_map ag hlt,hlt,ag];refine aW (hp (l.getD x default) (by simp[hlt])) (by simp only[go_sem,nM,nL,ag,pA,Bool.or_false,Bool.false_or]<;>rfl) (cB rfl) ?_;simp only[go_sem];refine aI (λhb=>?_) (λhb=>?_)<;>simp only[go_sem]
  ·exact (qU hlt hq hb).symm
  ·refine cr (x+1) ⟨hlt,λj hj=>?_⟩ (by omega) ?_
   ·rcases Nat.lt_succ_iff_lt_or_eq.1 hj with h|h
    ·exact hq j h
    ·rw[h];exact hb
   ·rw[bM hlt (by omega)];exact cu
 ·have hge:l.length<=x:=by simpa using hc
  simp only[go_sem,hc];rw[nr λj hj=>hq j (by omega)]
theorem ahV(p:aj->Bool)(l:List aj)(hl:l.length<=1000000)(k:FuncId)(fs cs:List PV)(hp:∀x∈l,aD pw k (fs++[pA (ag x)]++cs) (λr=>r = .val (.bool (p x)))) :
  aD pw 162 [.aL (l.map ag),.jk (.func k) fs cs] (λr=>r = .val (.bool (l.any p))):=by
 refine aF [] func162 ntmps162 results162 ?_;simp only[go_sem];refine aW (aga p l hl k fs cs hp) (by simp only[go_sem]<;>rfl) (cB rfl) ?_;simp only[go_sem];exact mE
theorem agb(p:ax->Bool)(l:List ax)(hl:l.length<=1000000)(k:FuncId)(fs cs:List PV)(hp:∀x∈l,aD pw k (fs++[pA (ak x)]++cs) (λr=>r = .val (.bool (p x)))) :
  aD pw 149 [.aL (l.map ak),.jk (.func k) fs cs] (λr=>r = .val (.int .i64 (idxOf p l))):=by
 refine aF [] func149 ntmps149 results149 ?_;simp only[go_sem];refine bV (σ:=Nat) (λx=>(c9 (c9 (c9 (c9 gI 0 (.p (.aL (l.map ak)))) 1 (.p (.jk (.func k) fs cs))) 7 (.p (.val (.int .i64 l.length)))) 8 (.p (.val (.int .i64 x))))) (λx=>ct)
  (λx=>x<=l.length/\∀j,j<x->p (l.getD j default)=false) (λx=>l.length-x) 0 ⟨zero_le _,λj hj=>absurd hj (not_lt_zero j)⟩ cu ?_
 rintro x ⟨hx,hq⟩;simp only[go_sem];refine aI (λhc=>?_) (λhc=>?_)
 ·have hlt:x<l.length:=by simpa using hc
  simp only[go_sem,getD_map ak hlt,hlt,ak];refine aW (hp (l.getD x default) (by simp[hlt])) (by simp only[go_sem,nM,nL,ak,pA,Bool.or_false,Bool.false_or]<;>rfl) (cB rfl) ?_;simp only[go_sem];refine aI (λhb=>?_) (λhb=>?_)<;>simp only[go_sem]
  ·exact (qU hlt hq hb).symm
  ·refine cr (x+1) ⟨hlt,λj hj=>?_⟩ (by omega) ?_
   ·rcases Nat.lt_succ_iff_lt_or_eq.1 hj with h|h
    ·exact hq j h
    ·rw[h];exact hb
   ·rw[bM hlt (by omega)];exact cu
 ·have hge:l.length<=x:=by simpa using hc
  simp only[go_sem,hc];rw[nr λj hj=>hq j (by omega)]
theorem ahW(p:ax->Bool)(l:List ax)(hl:l.length<=1000000)(k:FuncId)(fs cs:List PV)(hp:∀x∈l,aD pw k (fs++[pA (ak x)]++cs) (λr=>r = .val (.bool (p x)))) :
  aD pw 165 [.aL (l.map ak),.jk (.func k) fs cs] (λr=>r = .val (.bool (l.any p))):=by
 refine aF [] func165 ntmps165 results165 ?_;simp only[go_sem];refine aW (agb p l hl k fs cs hp) (by simp only[go_sem]<;>rfl) (cB rfl) ?_;simp only[go_sem];exact mE
end Go.Proofs.YteambpeibacfpaaGreat
namespace Go.b7
def Ok{α:Type}(x:Option α)(Q:α->Prop):Prop:=∃r,x=some r/\Q r
section
variable{α β σ O:Type}{Q:O->Prop}
theorem Ok.mk{r:O}(h:Q r):Ok (some r) Q:=⟨r,rfl,h⟩
theorem Ok.eq{x:Option α}{r:α}(h:Ok x (λy=>y=r)):x=some r:=by obtain⟨y,h1,rfl⟩:=h;exact h1
theorem Ok.of{x:Option α}{r:α}(h:x=some r):Ok x (λy=>y=r):=⟨r,h,rfl⟩
theorem Ok.mono{x:Option O}{Q':O->Prop}(h:Ok x Q)(hq:∀r,Q r->Q' r):Ok x Q':=by obtain⟨r,h1,h2⟩:=h;exact⟨r,h1,hq r h2⟩
theorem b6{p:Prop} [Decidable p]{x:Option O}(hp:p)(h:Ok x Q):Ok (cz p x) Q:=by unfold cz;rw[if_pos hp];exact h
theorem b9{b:Bool}{x y:Option O}(h1:b=true->Ok x Q)(h2:b=false->Ok y Q):Ok (cond b x y) Q:=by
 cases b
 ·exact h2 rfl
 ·exact h1 rfl
theorem tM{b:Bool}{x y:Option O}(hb:b=true)(h1:Ok x Q):Ok (cond b x y) Q:=by subst hb;exact h1
theorem azv{b:Bool}{x y:Option O}(hb:b=false)(h1:Ok y Q):Ok (cond b x y) Q:=by subst hb;exact h1
theorem qY{x:Option α}{k:α->Option O}{R:α->Prop}(h:Ok x R)(hk:∀r,R r->Ok (k r) Q):Ok (thn x k) Q:=by obtain⟨r,rfl,h2⟩:=h;exact hk r h2
theorem ok_eq{x:Option α}{k:α->Option O}{r:α}(h:x=some r)(hk:Ok (k r) Q):Ok (thn x k) Q:=by subst h;exact hk
theorem nI{l:List α}{k:α->Option O}{i:Nat}(hi:i<l.length)(h:Ok (k l[i]) Q):Ok (thn l[i]? k) Q:=ok_eq (getElem?_eq_getElem hi) h
theorem nT{l:List α}{k:α->Option O}{i:Int}(h0:0<=i)(hi:i.toNat<l.length)(h:Ok (k l[i.toNat]) Q):Ok (thn (iX l i) k) Q:=ok_eq (by unfold iX;rw[if_pos h0];exact getElem?_eq_getElem hi) h
theorem nZ{f:Nat->σ->(σ->Option O)->(σ->Option O)->Option O}{K:σ->Option O}(φ:Nat->σ->Prop){n i:Nat}{s:σ}(hi:i<=n)(h0:φ i s)
  (hr:∀j s (eE:σ->Option O),i<=j->j<n->φ j s->(∀s',φ (j+1) s'->Ok (eE s') Q)->Ok (f j s eE K) Q) (he:∀s,φ n s->Ok (K s) Q):Ok (bZ f (n-i) i s K) Q:=by
 have key:∀k j s,j+k=n->i<=j->φ j s->Ok (bZ f k j s K) Q:=by
  intro k
  induction k with
  |zero =>
   intro j s hj _ h;have:j=n:=by omega
   subst this;exact he s h
  |succ k ih=>intro j s hj hij h;exact hr j s _ hij (by omega) h λs' h'=>ih (j+1) s' (by omega) (by omega) h'
 exact key (n-i) i s (by omega) (le_refl _) h0
theorem agJ{f:σ->(σ->Option O)->(σ->Option O)->Option O}{K:σ->Option O}(φ:σ->Prop)(μ:σ->Nat){n:Nat}{s:σ}(h0:φ s)(hm:μ s<n)
  (hr:∀s (eE:σ->Option O),φ s->(∀s',φ s'->μ s'<μ s->Ok (eE s') Q)->Ok (f s eE K) Q):Ok (iter f n s K) Q:=by
 have key:∀n s,φ s->μ s<n->Ok (iter f n s K) Q:=by
  intro n
  induction n with
  |zero=>intro s _ h;omega
  |succ n ih=>intro s h hm;exact hr s _ h λs' h' hlt=>ih s' h' (by omega)
 exact key n s h0 hm
theorem gl{n:Int}(h : -9223372036854775808<=n/\n<=9223372036854775807):i64.wrap n=n:=IntWalk.i64_in n (by omega)
end
theorem yp{α:Type}{p:Prop} [Decidable p]{x:α}(h:p):giv p x=some x:=by unfold giv;rw[if_pos h]
open Go.RowKit
variable{P:Program}{N:Nat}{own:List Nat}
theorem sJ{ops:Array Oper}{K:Env->au->Prop}{env:Env}{H:au}(id v:Nat)(e:TypeId)(sz:Nat)(es:List (List PV))(ts:List Nat)(hH:H id=some (.row v e sz es))(ht:holds env id v ts)(hn:ts.Nodup)
  (hw:wR P N own ops K (ao5 (.p (.aL es)) ts env) (br H id (.shut v es))):wR P N own ops K env H:=by
 intro C I L tm w hN hs;have h1:=Fr.shut C I L w hH env tm hs;exact hw C _ L tm w hN (afe (by simp[br]) ts _ hn h1 ht)
theorem toNat_lt{i:Int}{n:Nat}(h:0<=i)(k:i<(n:Int)):i.toNat<n:=by omega
def aey(own:List Nat)(ops:Array Oper)(id:Nat):Nat->Prop
 |0=>True
 |n+1=>mc own ops id=false/\aey own ops (id+1) n
variable{ops:Array Oper}
theorem avu(id:Nat):aey own ops id 1=(mc own ops id=false/\True):=rfl
theorem aoi(id:Nat):aey own ops id 3=(mc own ops id=false/\mc own ops (id+1)=false/\mc own ops (id+1+1)=false/\True):=rfl
theorem aq5(id:Nat):aey own ops id 4=(mc own ops id=false/\mc own ops (id+1)=false/\mc own ops (id+1+1)=false/\mc own ops (id+1+1+1)=false/\True):=rfl
theorem ahX:∀ (n id:Nat),aey own ops id n->∀i,id<=i->i<id+n->mc own ops i=false
 |0,id,_,i,h1,h2=>by omega
 |n+1,id,h,i,h1,h2=>by
  rcases lt_or_ge id i with h'|h'
  ·exact ahX n (id+1) h.2 i (by omega) (by omega)
  ·have:i=id:=by omega
   subst this;exact h.1
theorem agK{env:Env}{H:au}{o:Oper}{W:Env->au->Prop}{k:FuncId}{ps ps':List PV}{b:Bool}(id:Nat){r:RV}(c:bl P k ps λx=>x=r)(he:jY o (ev env) (p0 own ops H)=some (k,ps',b))(hp:qH ps' ps)(hb:b=true->r.flat=true)
  (hf:tH H id ((cT id r).2-id)) (hn:aey own ops id ((cT id r).2-id)) (hW:W (cA env o.dst (cT id r).1) (gB id H r)):ahn P own ops o W env H:=by
 have c':bl P k ps' λx=>x=r:=c.args (tg _ _ hp)
 have hle:=aba r id;unfold jY at he;cases ha:dA o (ev env) with
 |none=>rw[ha] at he;cases he
 |some q =>
  obtain⟨k',eZ⟩:=q;rw[ha] at he;simp only[] at he;cases hl:eT (gL (p0 own ops H)) eZ with
  |none=>rw[hl] at he;cases he
  |some q=>obtain⟨qs,b'⟩:=q;rw[hl] at he;simp only[cC,iF] at he;obtain⟨rfl,rfl,rfl⟩:=he;exact⟨_,_,⟨_,eZ,_,_,r,id,ha,hl,c',hb,λi h1 h2=>⟨adJ _ id hf i h1 (by omega),ahX _ id hn i h1 (by omega)⟩,rfl,rfl⟩,hW⟩
attribute [go_sem] avu aoi aq5
end Go.b7
