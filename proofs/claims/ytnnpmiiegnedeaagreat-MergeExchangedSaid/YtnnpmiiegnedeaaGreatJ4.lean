/- Joined texts, part 4: lemmas for the statement. No condition. -/
import Derived.Test.YtnnpmiiegnedeaaGreatJ3
import Derived.Shelf.Spec.SlicesGrow
import Derived.Ground.Names8Prog
import Derived.Test.YtnnpmiiegnedeaaGreatProg
import Derived.Shelf.Slices.In.SortAlone
import Derived.Shelf.Slices.In.SortNone
import Derived.Shelf.Slices.CompactI
import Derived.Sort.OwnSortedInts
import Derived.Ground.NamesProg
import Derived.Ground.Names2Prog
import Derived.Shelf.SlSortCmp.NoneTotal
import Derived.Ground.SlsfProg
import Derived.ChangeArms
import Derived.SizedLaws
import Derived.Test.YtnnpmiiegnedeaaGreatJ1
import Derived.OpenShut
import Derived.ProofKit
import Derived.Carry
import Derived.ArgAppend
import Derived.Laws.Slices
set_option maxHeartbeats 4000000
set_option linter.unusedSimpArgs false
set_option linter.unusedVariables false
open Nat (reduceEqDiff reduceLT reduceLeDiff reduceMul reduceAdd reduceSub)
open Go.IntKind (i64)
open Go.Proofs.Tryz
open Go.Proofs.Tryz renaming prog → pw
namespace Go.Proofs.YtnnpmiiegnedeaaGreat
open Go.cv
theorem Wm(t:Types)(I:fK t)(h:Host)(n:qW h):aS pw 169 [aD t,cO h] (λr=>r = .dY [.val (.int .i64 (kC t h).1),.val (.int .i64 (kC t h).2)]):=by
 have U:=n.graph.nodes;have V:=n.graph.ak;have Y:=n.values;refine aR [] func169 ntmps169 results169 ?_;simp only[go_sem,aD,cO,br];refine aX (Jx t I) (by simp only[go_sem,aD,cO,br]<;>rfl) (cc rfl) ?_;simp only[go_sem,aD,cO,br];refine aW (λz=>?_) (λz=>?_)<;>simp only[go_sem,aD,cO,br]
 ·have w:=b6 z;have S:=qU I w
  have P : kC t h = if pP h.graph ≠ 0 then (-1, pP h.graph)
    else if h.values.length≠h.graph.nodes.length then (-1,20)
    else match kH (λi=>lJ t (h.graph.nodes.getD i default) (h.values.getD i default)) 0 h.graph.nodes.length with
     |some k=>((k:Int),lJ t (h.graph.nodes.getD k default) (h.values.getD k default))
     |none=>match kH (rZ t h) 0 h.graph.ak.length with
      |some k=>((k:Int),rZ t h k)
      |none=>(-1,0):=by
   unfold kC;rw[if_neg (by rw[w];decide)];try rfl
  rw[P];refine aX (Wh h.graph n.graph) (by simp only[go_sem,aD,cO,br]<;>rfl) (cc rfl) ?_;simp only[go_sem,aD,cO,br];refine aW (λA=>?_) (λA=>?_)<;>simp only[go_sem,aD,cO,br]
  ·have s:=b6 A;have O:=FO s;rw[if_neg (by rw[s];decide)];refine aW (λB=>?_) (λB=>?_)<;>simp only[go_sem,aD,cO,br]
   ·have Q:=b6 B;have Z:h.values.length=h.graph.nodes.length:=by omega
    rw[if_neg (by omega)];generalize R:(λi=>lJ t (h.graph.nodes.getD i default) (h.values.getD i default))=f;refine bL (σ:=Nat) (λx=>(cK (cK (cK (cK (cK gv 2 (.ptr 2 0)) 3 (.ptr 3 0)) 38 (.p (.aV (h.graph.nodes.map encI)))) 39 (.p (.val (.int .i64 h.graph.nodes.length)))) 40 (.p (.val (.int .i64 x)))))
     (λx=>(bn (bn cu 2 (.box [.p (.aV (t.nodes.map aJ)),.p (.aV (t.ak.map aL))])) 3 (.box [.p (.aV (h.graph.nodes.map encI)),.p (.aV (h.graph.ak.map aY)),.p (.aV (h.values.map bI))])))
     (λx=>x<=h.graph.nodes.length/\∀j,j<x->f j=0) (λx=>h.graph.nodes.length-x) 0 ⟨Nat.zero_le _,λj o=>absurd o (Nat.not_lt_zero j)⟩ bY ?_
    rintro x ⟨hx,J⟩;simp only[go_sem,aD,cO,br];refine aK (λH=>?_) (λH=>?_)
    ·have c:x<h.graph.nodes.length:=by simpa using H
     have d:x<h.values.length:=by omega
     have X:=n.row _ (iA d);simp only[go_sem,aD,cO,br,getD_map encI c,c,encI,getD_map bI d,d,bI];refine dB [.q,.q,.q,.q,.q,.q,.q,.q,.q] (by kernel_rfl) ?_;simp only[go_sem,aD,cO,br,getD_map encI c,c,encI,getD_map bI d,d,bI];refine jV (Wk t S (h.graph.nodes.getD x default) (O.kind x c).1 (h.values.getD x default) (by omega)) (by simp only[go_sem,aD,cO,br,getD_map encI c,c,encI,getD_map bI d,d,bI]<;>rfl) (cc rfl) ?_;simp only[go_sem,aD,cO,br,getD_map encI c,c,encI,getD_map bI d,d,bI];have e:f x=lJ t (h.graph.nodes.getD x default) (h.values.getD x default):=by rw[<-R]
     refine aW (λC=>?_) (λC=>?_)<;>simp only[go_sem,aD,cO,br,getD_map encI c,c,encI,getD_map bI d,d,bI]
     ·have D:=b6 C;exact bO (x+1) ⟨c,all_succ J (e.trans D)⟩ (by omega) (by rw[bz c (by omega)];exact bY)
     ·have D:=dK C;rw[mJ (Nat.zero_le _) c (λj _=>J j) (by rw[e];exact D)];exact⟨rfl,rfl⟩
    ·have W:h.graph.nodes.length<=x:=by simpa using H
     rw[gQ λj _ o=>J j (by omega)];simp only[go_sem,aD,cO,br];refine bL (σ:=Nat) (λx=>(cK (cK (cK (cK (cK gv 2 (.ptr 2 0)) 3 (.ptr 3 0)) 60 (.p (.aV (h.graph.ak.map aY)))) 61 (.p (.val (.int .i64 h.graph.ak.length)))) 62 (.p (.val (.int .i64 x)))))
      (λx=>(bn (bn cu 2 (.box [.p (.aV (t.nodes.map aJ)),.p (.aV (t.ak.map aL))])) 3 (.box [.p (.aV (h.graph.nodes.map encI)),.p (.aV (h.graph.ak.map aY)),.p (.aV (h.values.map bI))])))
      (λx=>x<=h.graph.ak.length/\∀j,j<x->rZ t h j=0) (λx=>h.graph.ak.length-x) 0 ⟨Nat.zero_le _,λj o=>absurd o (Nat.not_lt_zero j)⟩ bY ?_
     rintro y ⟨hy,v⟩;simp only[go_sem,aD,cO,br];refine aK (λK=>?_) (λK=>?_)
     ·have c:y<h.graph.ak.length:=by simpa using K
      have u:=O.fq y c;obtain⟨a,g⟩:∃k:Nat,(h.graph.ak.getD y default).src=k:=⟨_,(Int.toNat_of_nonneg u.2.1.1).symm⟩;obtain⟨b,l⟩:∃k:Nat,(h.graph.ak.getD y default).dst=k:=⟨_,(Int.toNat_of_nonneg u.2.2.1).symm⟩;have M:a<h.graph.nodes.length:=by have:=u.2.1.2;rw[g] at this;omega
      have N:b<h.graph.nodes.length:=by have:=u.2.2.2;rw[l] at this;omega
      have m:rZ t h y=if (t.ak.length:Int)<=(h.graph.ak.getD y default).type then 6 else if qA t (h.graph.ak.getD y default).type (h.graph.nodes.getD a default) (h.graph.nodes.getD b default)=true then 0 else 13:=by unfold rZ;rw[g,l,Int.toNat_natCast,Int.toNat_natCast]
      simp only[go_sem,aD,cO,br,getD_map aY c,c,aY,g,l];refine aK (λE=>?_) (λE=>?_)<;>simp only[go_sem,aD,cO,br,getD_map aY c,c,aY,g,l]
      ·have F:=b6 E;have L:rZ t h y=6:=by rw[m,if_pos F]
       rw[mJ (Nat.zero_le _) c (λj _=>v j) (by rw[L];decide)];simp only[L]
       first|exact⟨rfl,rfl⟩|exact⟨trivial,trivial⟩|exact⟨rfl,trivial⟩|exact⟨trivial,rfl⟩
      ·have F:=dK E;rw[if_neg F] at m;refine dB [.q,.q,.q,.q,.q,.q,.q,.q,.q,.q,.q,.q,.q,.q,.q,.q,.q,.q,.q] (by kernel_rfl) ?_;simp only[go_sem,getD_map encI M,M,getD_map encI N,N,encI,aD,cO,br,getD_map aY c,c,aY,g,l];refine jV (Wb t I (h.graph.ak.getD y default).type (h.graph.nodes.getD a default) (h.graph.nodes.getD b default)) (by simp only[go_sem,aD,cO,br,getD_map aY c,c,aY,g,l]<;>rfl) (cc rfl) ?_;simp only[go_sem,aD,cO,br,getD_map aY c,c,aY,g,l];refine aW (λG=>?_) (λG=>?_)<;>simp only[go_sem,aD,cO,br,getD_map aY c,c,aY,g,l]
       ·rw[if_pos G] at m;exact bO (y+1) ⟨c,all_succ v m⟩ (by omega) (by rw[bz c (by omega)];exact bY)
       ·rw[if_neg (by rw[G];decide)] at m;rw[mJ (Nat.zero_le _) c (λj _=>v j) (by rw[m];decide)];simp only[m]
        first|exact⟨rfl,rfl⟩|exact⟨trivial,trivial⟩|exact⟨rfl,trivial⟩|exact⟨trivial,rfl⟩
     ·have T:h.graph.ak.length<=y:=by simpa using K
      simp only[go_sem,aD,cO,br];rw[gQ λj _ o=>v j (by omega)];exact⟨rfl,rfl⟩
   ·have Q:=dK B;rw[if_pos (by omega)];exact⟨rfl,rfl⟩
  ·have s:=dK A;rw[if_pos s];exact⟨rfl,rfl⟩
 ·have w:=dK z;unfold kC;rw[if_pos w];exact⟨rfl,rfl⟩
theorem Wn(t:Types)(O:fK t)(h:Host)(z:qW h):aS pw 29 [aD t,cO h] (λr=>r = .dY [.val (.int .i64 (kC t h).1),.val (.int .i64 (kC t h).2)]):=by
 have aa:=z.graph.nodes;have ab:=z.graph.ak;have hv:=z.values;refine aR [] func29 ntmps29 results29 ?_;simp only[go_sem,aD,cO,br];refine aX (FJ t O) (by simp only[go_sem,aD,cO,br]<;>rfl) (cc rfl) ?_;simp only[go_sem,aD,cO,br];refine aW (λF=>?_) (λF=>?_)<;>simp only[go_sem,aD,cO,br]
 ·have E:=b6 F;have Y:=qU O E
  have V : kC t h = if pP h.graph ≠ 0 then (-1, pP h.graph)
    else if h.values.length≠h.graph.nodes.length then (-1,20)
    else match kH (λi=>lJ t (h.graph.nodes.getD i default) (h.values.getD i default)) 0 h.graph.nodes.length with
     |some k=>((k:Int),lJ t (h.graph.nodes.getD k default) (h.values.getD k default))
     |none=>match kH (rZ t h) 0 h.graph.ak.length with
      |some k=>((k:Int),rZ t h k)
      |none=>(-1,0):=by
   unfold kC;rw[if_neg (by rw[E];decide)];try rfl
  rw[V];refine aX (Wj h.graph z.graph) (by simp only[go_sem,aD,cO,br]<;>rfl) (cc rfl) ?_;simp only[go_sem,aD,cO,br];refine aW (λG=>?_) (λG=>?_)<;>simp only[go_sem,aD,cO,br]
  ·have B:=b6 G;have U:=FO B;rw[if_neg (by rw[B];decide)];refine aW (λH=>?_) (λH=>?_)<;>simp only[go_sem,aD,cO,br]
   ·have W:=b6 H;have ai:h.values.length=h.graph.nodes.length:=by omega
    rw[if_neg (by omega)];generalize X:(λi=>lJ t (h.graph.nodes.getD i default) (h.values.getD i default))=f;refine bL (σ:=Nat) (λx=>(cK (cK (cK gv 2 (.ptr 2 0)) 3 (.ptr 3 0)) 9 (.p (.val (.int .i64 x)))))
     (λx=>(bn (bn cu 2 (.box [.p (.aV (t.nodes.map aJ)),.p (.aV (t.ak.map aL))])) 3 (.box [.p (.aV (h.graph.nodes.map encI)),.p (.aV (h.graph.ak.map aY)),.p (.aV (h.values.map bI))])))
     (λx=>x<=h.graph.nodes.length/\∀j,j<x->f j=0) (λx=>h.graph.nodes.length-x) 0 ⟨Nat.zero_le _,λj A=>absurd A (Nat.not_lt_zero j)⟩ bY ?_
    rintro x ⟨hx,P⟩;simp only[go_sem,aD,cO,br];refine aK (λN=>?_) (λN=>?_)
    ·have m:x<h.graph.nodes.length:=by simpa using N
     have o:x<h.values.length:=by omega
     have hr:=z.row _ (iA o);simp only[go_sem,aD,cO,br,getD_map encI m,m,encI,getD_map bI o,o,bI];refine dB [.q,.q,.q,.q,.q,.q,.q,.q,.q,.q,.q,.q,.q,.q] (by kernel_rfl) ?_;simp only[go_sem,aD,cO,br,getD_map encI m,m,encI,getD_map bI o,o,bI];refine jV (Wl t Y (h.graph.nodes.getD x default) (U.kind x m).1 (h.values.getD x default) (by omega)) (by simp only[go_sem,aD,cO,br,getD_map encI m,m,encI,getD_map bI o,o,bI]<;>rfl) (cc rfl) ?_;simp only[go_sem,aD,cO,br,getD_map encI m,m,encI,getD_map bI o,o,bI];have e:f x=lJ t (h.graph.nodes.getD x default) (h.values.getD x default):=by rw[<-X]
     refine aW (λI=>?_) (λI=>?_)<;>simp only[go_sem,aD,cO,br,getD_map encI m,m,encI,getD_map bI o,o,bI]
     ·have J:=b6 I;exact bO (x+1) ⟨m,all_succ P (e.trans J)⟩ (by omega) (by rw[bz m (by omega)];exact bY)
     ·have J:=dK I;rw[mJ (Nat.zero_le _) m (λj _=>P j) (by rw[e];exact J)];exact⟨rfl,rfl⟩
    ·have ad:h.graph.nodes.length<=x:=by simpa using N
     rw[gQ λj _ A=>P j (by omega)];simp only[go_sem,aD,cO,br];refine bL (σ:=Nat) (λx=>(cK (cK (cK gv 2 (.ptr 2 0)) 3 (.ptr 3 0)) 11 (.p (.val (.int .i64 x)))))
      (λx=>(bn (bn cu 2 (.box [.p (.aV (t.nodes.map aJ)),.p (.aV (t.ak.map aL))])) 3 (.box [.p (.aV (h.graph.nodes.map encI)),.p (.aV (h.graph.ak.map aY)),.p (.aV (h.values.map bI))])))
      (λx=>x<=h.graph.ak.length/\∀j,j<x->rZ t h j=0) (λx=>h.graph.ak.length-x) 0 ⟨Nat.zero_le _,λj A=>absurd A (Nat.not_lt_zero j)⟩ bY ?_
     rintro y ⟨hy,D⟩;simp only[go_sem,aD,cO,br];refine aK (λQ=>?_) (λQ=>?_)
     ·have m:y<h.graph.ak.length:=by simpa using Q
      have C:=U.fq y m;obtain⟨a,u⟩:∃k:Nat,(h.graph.ak.getD y default).src=k:=⟨_,(Int.toNat_of_nonneg C.2.1.1).symm⟩;obtain⟨b,v⟩:∃k:Nat,(h.graph.ak.getD y default).dst=k:=⟨_,(Int.toNat_of_nonneg C.2.2.1).symm⟩;have S:a<h.graph.nodes.length:=by have:=C.2.1.2;rw[u] at this;omega
      have T:b<h.graph.nodes.length:=by have:=C.2.2.2;rw[v] at this;omega
      have w:rZ t h y=if (t.ak.length:Int)<=(h.graph.ak.getD y default).type then 6 else if qA t (h.graph.ak.getD y default).type (h.graph.nodes.getD a default) (h.graph.nodes.getD b default)=true then 0 else 13:=by unfold rZ;rw[u,v,Int.toNat_natCast,Int.toNat_natCast]
      simp only[go_sem,aD,cO,br,getD_map aY m,m,aY,u,v];refine aK (λK=>?_) (λK=>?_)<;>simp only[go_sem,aD,cO,br,getD_map aY m,m,aY,u,v]
      ·have L:=b6 K;have R:rZ t h y=6:=by rw[w,if_pos L]
       rw[mJ (Nat.zero_le _) m (λj _=>D j) (by rw[R];decide)];simp only[R]
       first|exact⟨rfl,rfl⟩|exact⟨trivial,trivial⟩|exact⟨rfl,trivial⟩|exact⟨trivial,rfl⟩
      ·have L:=dK K;rw[if_neg L] at w;refine dB [.q,.q,.q,.q,.q,.q,.q,.q,.q,.q,.q,.q,.q,.q,.q,.q,.q,.q,.q] (by kernel_rfl) ?_;simp only[go_sem,getD_map encI S,S,getD_map encI T,T,encI,aD,cO,br,getD_map aY m,m,aY,u,v];refine jV (JK t O (h.graph.ak.getD y default).type (h.graph.nodes.getD a default) (h.graph.nodes.getD b default)) (by simp only[go_sem,aD,cO,br,getD_map aY m,m,aY,u,v]<;>rfl) (cc rfl) ?_;simp only[go_sem,aD,cO,br,getD_map aY m,m,aY,u,v];refine aW (λM=>?_) (λM=>?_)<;>simp only[go_sem,aD,cO,br,getD_map aY m,m,aY,u,v]
       ·rw[if_pos M] at w;exact bO (y+1) ⟨m,all_succ D w⟩ (by omega) (by rw[bz m (by omega)];exact bY)
       ·rw[if_neg (by rw[M];decide)] at w;rw[mJ (Nat.zero_le _) m (λj _=>D j) (by rw[w];decide)];simp only[w]
        first|exact⟨rfl,rfl⟩|exact⟨trivial,trivial⟩|exact⟨rfl,trivial⟩|exact⟨trivial,rfl⟩
     ·have Z:h.graph.ak.length<=y:=by simpa using Q
      simp only[go_sem,aD,cO,br];rw[gQ λj _ A=>D j (by omega)];exact⟨rfl,rfl⟩
   ·have W:=dK H;rw[if_pos (by omega)];exact⟨rfl,rfl⟩
  ·have B:=dK G;rw[if_pos B];exact⟨rfl,rfl⟩
 ·have E:=dK F;unfold kC;rw[if_pos E];exact⟨rfl,rfl⟩
instance(t:Types):Decidable (fK t):=decidable_of_iff (t.nodes.length<=20/\t.ak.length<=30/\(∀n∈t.nodes,n.attrs.length<=30)/\(∀n∈t.nodes,n.name.size<=40)/\(∀n∈t.nodes,∀a∈n.attrs,a.name.size<=40)/\(∀n∈t.nodes,∀a∈n.attrs,a.names.length<=25)/\(∀n∈t.nodes,∀a∈n.attrs,∀s∈a.names,s.size<=40)/\∀e∈t.ak,e.name.size<=40)
 ⟨λ⟨a,b,c,d,e,f,g,h⟩=>⟨a,b,c,d,e,f,g,h⟩,λ⟨a,b,c,d,e,f,g,h⟩=>⟨a,b,c,d,e,f,g,h⟩⟩
instance(t:Types):Decidable (eE t):=decidable_of_iff (fK t/\0<t.nodes.length/\t.nodes.length<=12/\t.ak.length<=20/\(∀j,j<t.nodes.length->kQ t j=0)/\∀j,j<t.ak.length->oq t j=0)
 ⟨λ⟨a,b,c,d,e,f⟩=>⟨a,b,c,d,e,f⟩,λ⟨a,b,c,d,e,f⟩=>⟨a,b,c,d,e,f⟩⟩
instance(g:eU):Decidable (B7 g):=decidable_of_iff (g.nodes.length<=45/\g.ak.length<=90) ⟨λ⟨a,b⟩=>⟨a,b⟩,λ⟨a,b⟩=>⟨a,b⟩⟩
instance(g:eU):Decidable (AS g):=decidable_of_iff (g.nodes.length<=1000/\g.ak.length<=1000) ⟨λ⟨a,b⟩=>⟨a,b⟩,λ⟨a,b⟩=>⟨a,b⟩⟩
instance(h:Host):Decidable (FP h):=decidable_of_iff (B7 h.graph/\h.values.length<=45/\∀l∈h.values,l.length<=12) ⟨λ⟨a,b,c⟩=>⟨a,b,c⟩,λ⟨a,b,c⟩=>⟨a,b,c⟩⟩
instance(h:Host):Decidable (qW h):=decidable_of_iff (AS h.graph/\h.values.length<=1000/\∀l∈h.values,l.length<=1000) ⟨λ⟨a,b,c⟩=>⟨a,b,c⟩,λ⟨a,b,c⟩=>⟨a,b,c⟩⟩
end Go.Proofs.YtnnpmiiegnedeaaGreat
namespace Go.Proofs
open Go.Shelf
def YtnnpmiiegnedeaaGreat.Wo:Go.Shelf.Ren:=⟨λ| 4=>82|n=>n,λ| 22=>32|25=>3|3=>3|4=>4|9=>9|20=>20|0=>0|n=>n,λ| n=>n⟩
theorem YtnnpmiiegnedeaaGreat.Wp:Go.Proofs.Lays8.n4 pw YtnnpmiiegnedeaaGreat.Wo:={
 mixed:=by kernel_rfl
 f4:=⟨Tryz.f82.name,by decide,Tryz.func82.trans (congrArg some (by kernel_rfl))⟩
 t0:=underlying0
 a0:=isAgg0
 z0:=sizeOf0
 v0:=zeroValue0
 t3:=underlying3
 a3:=isAgg3
 z3:=sizeOf3
 v3:=zeroValue3
 t4:=underlying4
 a4:=isAgg4
 z4:=sizeOf4
 v4:=zeroValue4
 t9:=underlying9
 a9:=isAgg9
 z9:=sizeOf9
 v9:=zeroValue9
 t20:=underlying20
 a20:=isAgg20
 z20:=sizeOf20
 v20:=zeroValue20
 t22:=underlying32
 a22:=isAgg32
 z22:=sizeOf32
 v22:=zeroValue32 }
def YtnnpmiiegnedeaaGreat.Wq:Go.Shelf.Ren:=⟨λ| 4=>114|n=>n,λ| 22=>52|25=>57|3=>3|4=>4|9=>9|20=>20|0=>0|n=>n,λ| n=>n⟩
theorem YtnnpmiiegnedeaaGreat.Wr:Go.Proofs.Lays8.n4 pw YtnnpmiiegnedeaaGreat.Wq:={
 mixed:=by kernel_rfl
 f4:=⟨Tryz.f114.name,by decide,Tryz.func114.trans (congrArg some (by kernel_rfl))⟩
 t0:=underlying0
 a0:=isAgg0
 z0:=sizeOf0
 v0:=zeroValue0
 t3:=underlying3
 a3:=isAgg3
 z3:=sizeOf3
 v3:=zeroValue3
 t4:=underlying4
 a4:=isAgg4
 z4:=sizeOf4
 v4:=zeroValue4
 t9:=underlying9
 a9:=isAgg9
 z9:=sizeOf9
 v9:=zeroValue9
 t20:=underlying20
 a20:=isAgg20
 z20:=sizeOf20
 v20:=zeroValue20
 t22:=underlying52
 a22:=isAgg52
 z22:=sizeOf52
 v22:=zeroValue52 }
def YtnnpmiiegnedeaaGreat.Ws:Go.Shelf.Ren:=⟨λ| 4=>131|n=>n,λ| 22=>167|25=>170|3=>3|4=>4|9=>9|20=>20|0=>0|n=>n,λ| n=>n⟩
theorem YtnnpmiiegnedeaaGreat.Wt:Go.Proofs.Lays8.n4 pw YtnnpmiiegnedeaaGreat.Ws:={
 mixed:=by kernel_rfl
 f4:=⟨Tryz.f131.name,by decide,Tryz.func131.trans (congrArg some (by kernel_rfl))⟩
 t0:=underlying0
 a0:=isAgg0
 z0:=sizeOf0
 v0:=zeroValue0
 t3:=underlying3
 a3:=isAgg3
 z3:=sizeOf3
 v3:=zeroValue3
 t4:=underlying4
 a4:=isAgg4
 z4:=sizeOf4
 v4:=zeroValue4
 t9:=underlying9
 a9:=isAgg9
 z9:=sizeOf9
 v9:=zeroValue9
 t20:=underlying20
 a20:=isAgg20
 z20:=sizeOf20
 v20:=zeroValue20
 t22:=underlying167
 a22:=isAgg167
 z22:=sizeOf167
 v22:=zeroValue167 }
end Go.Proofs
namespace Go.cv
open Go.RowKit
variable{P:Program}
theorem tj.len:∀ {bq ps:List PV},tj bq ps->bq.length=ps.length
 | [],[],_=>rfl
 | [],_ :: _,h=>h.elim
 |_ :: _,[],h=>h.elim
 |_ :: _,_ :: _,h=>by simp[tj.len h.2]
theorem tj.at:∀ {bq ps:List PV},tj bq ps->∀ {j:Nat} {c:PV},ps[j]? = some c->∃d,bq[j]? = some d/\l5 d c
 | [],[],_,_,_,h=>by simp at h
 | [],_ :: _,h,_,_,_=>h.elim
 |_ :: _,[],h,_,_,_=>h.elim
 |a :: r,b :: s,h,j,c,e=>by
  cases j with
  |zero=>simp at e;subst e;exact⟨a,rfl,h.1⟩
  |succ j=>obtain⟨d,f,g⟩:=tj.at h.2 (j:=j) (c:=c) (by simpa using e);exact⟨d,by simpa using f,g⟩
theorem l5.agg{bq ps:List PV}(h:tj bq ps):l5 (.agg bq) (.agg ps):=λI v a=>by
 cases a with
 |agg us _ hl a g=>refine .agg us ps (hl.trans h.len) (λj u c i f=>?_) g;obtain⟨b,d,e⟩:=h.at f;exact e I u (a j u b i d)
theorem l5.dY{bq ps:List PV}(h:tj bq ps):l5 (.dY bq) (.dY ps):=λI v a=>by
 cases a with
 |dY us _ hl a=>refine .dY us ps (hl.trans h.len) (λj u c g f=>?_);obtain⟨b,d,e⟩:=h.at f;exact e I u (a j u b g d)
theorem tj.refl:∀ps:List PV,tj ps ps
 | []=>trivial
 |a :: r=>⟨l5.refl a,tj.refl r⟩
theorem aS.le{f:FuncId}{args:List PV}{Q b:PV->Prop}(h:aS P f args Q)(l:∀r,Q r->∃a,l5 r a/\b a):aS P f args b :=
 ⟨h.1,λI w vs k m=>(h.2 I w vs k m).mono λ_ _ ⟨v,r,I',c,d,e,g⟩=>by
  obtain⟨a,i,j⟩:=l r d;exact⟨v,a,I',c,j,i _ _ e,g⟩⟩
end Go.cv
namespace Go.cv
open Go.RowKit
variable{P:Program}
structure JO(w w':World)(hdr:Value)(n:Nat)(vs:List Value):Prop where
 grown:w.grownBy w' hdr.ownBlock
 row:∀g,hdr.ownBlock=some g->∀cur e,w.heap[g]? = some (.cells cur e (0,0))->n<=cur.size->∃cur',w'.heap[g]? = some (.cells cur' e (0,0))/\cur'.size=cur.size/\cur'.toList.take n=vs
theorem Wu{f:FuncId}{v:Nat}{e:TypeId}{sz:Nat}{es es':List (List PV)}{ps:List PV}{ws:List Value}(z:gP P f=true)(q:es'.length=es.length)(O:∀x∈es',x.length=sz)
  (K:es'.flatten=ws.map PV.val) (N:∀u∈ws,u.oneCell'=true)
  (h:∀ (B:Nat) (I:Mem) (w:World) (m:Value) (us vs:List Value),B<=w.heap.size->I.en w->sZ w B I m e sz es us->m.oneCell'=true->qs I vs ps ->
   Calls P f (m :: vs).toArray w λx w'=>x = .returned (.tuple #[])/\JO w w' m (es.length * sz) ws) :
  kZ P f v e sz es ps (λa c=>a = .dY []/\c=some (.row v e sz es')):=by
 refine⟨z,λB I w m us vs G A r X hv=>(h B I w m us vs G A r X hv).mono ?_⟩;rintro x w' ⟨rfl,n,ab⟩;let L:bB:=λi=>if i=1000000 then some (.row v m sz) else none
 have y:∀i l,L i=some l->i=1000000/\l = .row v m sz:=λi l h=>by
  simp only[L] at h;split at h
  ·rename_i p;exact⟨p,by simpa using h.symm⟩
  ·cases h
 have ae:ws.length=es.length * sz:=by have F:=bG O;rw[K,List.length_map,q] at F;exact F
 have H:∀b,m.ownBlock=some b->B<=b/\b<w.heap.size:=λb d=>wA r.own d
 refine⟨.tuple #[],.dY [],bn cu 1000000 (.row v e sz es'),I,L,rfl,⟨rfl,by simp[bn]⟩,.dY [] [] rfl (by simp),?_⟩;exact
 {below:=⟨n.os,n.tape,n.output,n.size,λk M=>n.block k (Nat.lt_of_lt_of_le M G) λd=>by have:=(H k d.symm).1;have:k<B:=M;omega⟩
  mem:=A.keep λb ⟨o,u,s⟩=>n.block b (A.lt s) λd=>by rw[r.free b d.symm o] at s;cases s
  lH:=Mem.ep I
  mF:=λ_ _ _ _=>rfl
  frame:=λb d hn=>n.block b d λY=>hn Y.symm
  loc:=dQ.refl _
  jQ:=λid l b hl d=>by obtain⟨_,rfl⟩:=y id l hl;exact .inr d
  size:=rfl
  env:=λt=>.dead _
  dom:=λi l hl=>by obtain⟨rfl,rfl⟩:=y i l hl;exact⟨.row v e sz es',by simp[bn]⟩
  chunk:=λi C J=>by
   by_cases p:i=1000000
   ·subst p;have:Chunk.row v e sz es'=C:=by simpa[bn] using J
    subst this;refine⟨m,ws,by simp[L],⟨by rw[q];exact ae,?_⟩,r.pos,O,λj u c s z=>?_,N,r.free⟩
    ·rcases r.own.2 with ⟨S,T⟩|⟨g,cap,Q,rfl,U,V,D,W,E,g6⟩
     ·exact .inl ⟨S,by rw[q];exact T⟩
     ·obtain⟨R,k1,k2,k3⟩:=ab g rfl Q e V (by rw[E];exact Nat.mul_le_mul_right sz D);exact .inr ⟨g,cap,R,by rw[q],U,k1,by rw[q];exact D,W,by rw[k2];exact E,by rw[q];exact k3⟩
    ·rw[K] at z;simp only[List.getElem?_map,s,Option.map_some,cG] at z;subst z;exact .val u (N u (List.mem_of_getElem? s))
   ·have:cu i=some C:=by simpa[bn,p] using J
    cases this
  gh:=λi l b hl d=>by obtain⟨rfl,rfl⟩:=y i l hl;have:=H b d;exact⟨this.1,Nat.lt_of_lt_of_le this.2 n.size⟩
  apart:=λi j li lj b p Z _ _=>by rw[(y i li p).1,(y j lj Z).1] }
end Go.cv
namespace Go.cv
open Go.RowKit
variable{P:Program}
end Go.cv
namespace Go.SortM
open Go.cv Go.RowKit Go.Shelf Go.Sort Go.Proofs
variable{P:Program}{ρ:Ren}
end Go.SortM
namespace Go.Proofs
open Go.Shelf
def YtnnpmiiegnedeaaGreat.Wv:Go.Shelf.Ren:=⟨λ| 6=>115|15=>183|14=>182|28=>248|29=>249|20=>240|21=>241|22=>242|23=>243|24=>244|25=>245|26=>246|27=>247|46=>290|47=>291|48=>292|49=>293|50=>294|57=>352|n=>n,λ| 22=>52|24=>57|25=>225|3=>3|39=>288|0=>0|53=>347|55=>188|4=>4|46=>340|45=>339|50=>344|5=>5|9=>9|66=>377|70=>381|76=>422|77=>423|n=>n,λ| n=>n⟩
theorem YtnnpmiiegnedeaaGreat.Ww:Go.Proofs.SlLaysF0.n6 pw YtnnpmiiegnedeaaGreat.Wv:={
 mixed:=by kernel_rfl
 f6:=⟨Tryz.f115.name,by decide,Tryz.func115.trans (congrArg some (by kernel_rfl))⟩
 f14:=⟨Tryz.f182.name,by decide,Tryz.func182.trans (congrArg some (by kernel_rfl))⟩
 f15:=Tryz.func183.trans (congrArg some (by kernel_rfl))
 f20:=⟨Tryz.f240.name,by decide,Tryz.func240.trans (congrArg some (by kernel_rfl))⟩
 f21:=⟨Tryz.f241.name,by decide,Tryz.func241.trans (congrArg some (by kernel_rfl))⟩
 f22:=⟨Tryz.f242.name,by decide,Tryz.func242.trans (congrArg some (by kernel_rfl))⟩
 f23:=⟨Tryz.f243.name,by decide,Tryz.func243.trans (congrArg some (by kernel_rfl))⟩
 f24:=⟨Tryz.f244.name,by decide,Tryz.func244.trans (congrArg some (by kernel_rfl))⟩
 f25:=⟨Tryz.f245.name,by decide,Tryz.func245.trans (congrArg some (by kernel_rfl))⟩
 f26:=⟨Tryz.f246.name,by decide,Tryz.func246.trans (congrArg some (by kernel_rfl))⟩
 f27:=⟨Tryz.f247.name,by decide,Tryz.func247.trans (congrArg some (by kernel_rfl))⟩
 f28:=Tryz.func248.trans (congrArg some (by kernel_rfl))
 f29:=Tryz.func249.trans (congrArg some (by kernel_rfl))
 f46:=⟨Tryz.f290.name,by decide,Tryz.func290.trans (congrArg some (by kernel_rfl))⟩
 f47:=Tryz.func291.trans (congrArg some (by kernel_rfl))
 f48:=Tryz.func292.trans (congrArg some (by kernel_rfl))
 f49:=⟨Tryz.f293.name,by decide,Tryz.func293.trans (congrArg some (by kernel_rfl))⟩
 f50:=⟨Tryz.f294.name,by decide,Tryz.func294.trans (congrArg some (by kernel_rfl))⟩
 f57:=⟨Tryz.f352.name,by decide,Tryz.func352.trans (congrArg some (by kernel_rfl))⟩
 t0:=underlying0
 a0:=isAgg0
 z0:=sizeOf0
 v0:=zeroValue0
 t3:=underlying3
 a3:=isAgg3
 z3:=sizeOf3
 v3:=zeroValue3
 t4:=underlying4
 a4:=isAgg4
 z4:=sizeOf4
 v4:=zeroValue4
 t5:=underlying5
 a5:=isAgg5
 z5:=sizeOf5
 v5:=zeroValue5
 t9:=underlying9
 a9:=isAgg9
 z9:=sizeOf9
 v9:=zeroValue9
 t22:=underlying52
 a22:=isAgg52
 z22:=sizeOf52
 v22:=zeroValue52
 t25:=underlying225
 a25:=isAgg225
 z25:=sizeOf225
 v25:=zeroValue225
 t39:=underlying288
 a39:=isAgg288
 z39:=sizeOf288
 v39:=zeroValue288
 t45:=underlying339
 a45:=isAgg339
 z45:=sizeOf339
 v45:=zeroValue339
 t46:=underlying340
 a46:=isAgg340
 z46:=sizeOf340
 v46:=zeroValue340
 t50:=underlying344
 a50:=isAgg344
 z50:=sizeOf344
 v50:=zeroValue344
 t53:=underlying347
 a53:=isAgg347
 z53:=sizeOf347
 v53:=zeroValue347
 t55:=underlying188
 a55:=isAgg188
 z55:=sizeOf188
 v55:=zeroValue188
 t66:=underlying377
 a66:=isAgg377
 z66:=sizeOf377
 v66:=zeroValue377
 t70:=underlying381
 a70:=isAgg381
 z70:=sizeOf381
 v70:=zeroValue381
 t76:=underlying422
 a76:=isAgg422
 z76:=sizeOf422
 v76:=zeroValue422
 t77:=underlying423
 a77:=isAgg423
 z77:=sizeOf423
 v77:=zeroValue423 }
def YtnnpmiiegnedeaaGreat.Wx:Go.Shelf.Ren:=⟨λ| 6=>238|15=>183|14=>288|28=>248|29=>249|20=>336|21=>337|22=>338|23=>339|24=>340|25=>341|26=>342|27=>343|46=>377|47=>291|48=>292|49=>378|50=>379|57=>394|n=>n,λ| 22=>41|24=>86|25=>326|3=>3|39=>288|0=>0|53=>347|55=>188|4=>4|46=>340|45=>339|50=>344|5=>5|9=>9|66=>377|70=>381|76=>422|77=>423|n=>n,λ| n=>n⟩
theorem YtnnpmiiegnedeaaGreat.Wy:Go.Proofs.SlLaysF0.n6 pw YtnnpmiiegnedeaaGreat.Wx:={
 mixed:=by kernel_rfl
 f6:=⟨Tryz.f238.name,by decide,Tryz.func238.trans (congrArg some (by kernel_rfl))⟩
 f14:=⟨Tryz.f288.name,by decide,Tryz.func288.trans (congrArg some (by kernel_rfl))⟩
 f15:=Tryz.func183.trans (congrArg some (by kernel_rfl))
 f20:=⟨Tryz.f336.name,by decide,Tryz.func336.trans (congrArg some (by kernel_rfl))⟩
 f21:=⟨Tryz.f337.name,by decide,Tryz.func337.trans (congrArg some (by kernel_rfl))⟩
 f22:=⟨Tryz.f338.name,by decide,Tryz.func338.trans (congrArg some (by kernel_rfl))⟩
 f23:=⟨Tryz.f339.name,by decide,Tryz.func339.trans (congrArg some (by kernel_rfl))⟩
 f24:=⟨Tryz.f340.name,by decide,Tryz.func340.trans (congrArg some (by kernel_rfl))⟩
 f25:=⟨Tryz.f341.name,by decide,Tryz.func341.trans (congrArg some (by kernel_rfl))⟩
 f26:=⟨Tryz.f342.name,by decide,Tryz.func342.trans (congrArg some (by kernel_rfl))⟩
 f27:=⟨Tryz.f343.name,by decide,Tryz.func343.trans (congrArg some (by kernel_rfl))⟩
 f28:=Tryz.func248.trans (congrArg some (by kernel_rfl))
 f29:=Tryz.func249.trans (congrArg some (by kernel_rfl))
 f46:=⟨Tryz.f377.name,by decide,Tryz.func377.trans (congrArg some (by kernel_rfl))⟩
 f47:=Tryz.func291.trans (congrArg some (by kernel_rfl))
 f48:=Tryz.func292.trans (congrArg some (by kernel_rfl))
 f49:=⟨Tryz.f378.name,by decide,Tryz.func378.trans (congrArg some (by kernel_rfl))⟩
 f50:=⟨Tryz.f379.name,by decide,Tryz.func379.trans (congrArg some (by kernel_rfl))⟩
 f57:=⟨Tryz.f394.name,by decide,Tryz.func394.trans (congrArg some (by kernel_rfl))⟩
 t0:=underlying0
 a0:=isAgg0
 z0:=sizeOf0
 v0:=zeroValue0
 t3:=underlying3
 a3:=isAgg3
 z3:=sizeOf3
 v3:=zeroValue3
 t4:=underlying4
 a4:=isAgg4
 z4:=sizeOf4
 v4:=zeroValue4
 t5:=underlying5
 a5:=isAgg5
 z5:=sizeOf5
 v5:=zeroValue5
 t9:=underlying9
 a9:=isAgg9
 z9:=sizeOf9
 v9:=zeroValue9
 t22:=underlying41
 a22:=isAgg41
 z22:=sizeOf41
 v22:=zeroValue41
 t25:=underlying326
 a25:=isAgg326
 z25:=sizeOf326
 v25:=zeroValue326
 t39:=underlying288
 a39:=isAgg288
 z39:=sizeOf288
 v39:=zeroValue288
 t45:=underlying339
 a45:=isAgg339
 z45:=sizeOf339
 v45:=zeroValue339
 t46:=underlying340
 a46:=isAgg340
 z46:=sizeOf340
 v46:=zeroValue340
 t50:=underlying344
 a50:=isAgg344
 z50:=sizeOf344
 v50:=zeroValue344
 t53:=underlying347
 a53:=isAgg347
 z53:=sizeOf347
 v53:=zeroValue347
 t55:=underlying188
 a55:=isAgg188
 z55:=sizeOf188
 v55:=zeroValue188
 t66:=underlying377
 a66:=isAgg377
 z66:=sizeOf377
 v66:=zeroValue377
 t70:=underlying381
 a70:=isAgg381
 z70:=sizeOf381
 v70:=zeroValue381
 t76:=underlying422
 a76:=isAgg422
 z76:=sizeOf422
 v76:=zeroValue422
 t77:=underlying423
 a77:=isAgg423
 z77:=sizeOf423
 v77:=zeroValue423 }
def YtnnpmiiegnedeaaGreat.Wz:Go.Shelf.Ren:=⟨λ| 6=>239|15=>183|14=>289|28=>248|29=>249|20=>344|21=>345|22=>346|23=>347|24=>348|25=>349|26=>350|27=>351|46=>380|47=>291|48=>292|49=>381|50=>382|57=>395|n=>n,λ| 22=>42|24=>88|25=>328|3=>3|39=>288|0=>0|53=>347|55=>188|4=>4|46=>340|45=>339|50=>344|5=>5|9=>9|66=>377|70=>381|76=>422|77=>423|n=>n,λ| n=>n⟩
theorem YtnnpmiiegnedeaaGreat.WA:Go.Proofs.SlLaysF0.n6 pw YtnnpmiiegnedeaaGreat.Wz:={
 mixed:=by kernel_rfl
 f6:=⟨Tryz.f239.name,by decide,Tryz.func239.trans (congrArg some (by kernel_rfl))⟩
 f14:=⟨Tryz.f289.name,by decide,Tryz.func289.trans (congrArg some (by kernel_rfl))⟩
 f15:=Tryz.func183.trans (congrArg some (by kernel_rfl))
 f20:=⟨Tryz.f344.name,by decide,Tryz.func344.trans (congrArg some (by kernel_rfl))⟩
 f21:=⟨Tryz.f345.name,by decide,Tryz.func345.trans (congrArg some (by kernel_rfl))⟩
 f22:=⟨Tryz.f346.name,by decide,Tryz.func346.trans (congrArg some (by kernel_rfl))⟩
 f23:=⟨Tryz.f347.name,by decide,Tryz.func347.trans (congrArg some (by kernel_rfl))⟩
 f24:=⟨Tryz.f348.name,by decide,Tryz.func348.trans (congrArg some (by kernel_rfl))⟩
 f25:=⟨Tryz.f349.name,by decide,Tryz.func349.trans (congrArg some (by kernel_rfl))⟩
 f26:=⟨Tryz.f350.name,by decide,Tryz.func350.trans (congrArg some (by kernel_rfl))⟩
 f27:=⟨Tryz.f351.name,by decide,Tryz.func351.trans (congrArg some (by kernel_rfl))⟩
 f28:=Tryz.func248.trans (congrArg some (by kernel_rfl))
 f29:=Tryz.func249.trans (congrArg some (by kernel_rfl))
 f46:=⟨Tryz.f380.name,by decide,Tryz.func380.trans (congrArg some (by kernel_rfl))⟩
 f47:=Tryz.func291.trans (congrArg some (by kernel_rfl))
 f48:=Tryz.func292.trans (congrArg some (by kernel_rfl))
 f49:=⟨Tryz.f381.name,by decide,Tryz.func381.trans (congrArg some (by kernel_rfl))⟩
 f50:=⟨Tryz.f382.name,by decide,Tryz.func382.trans (congrArg some (by kernel_rfl))⟩
 f57:=⟨Tryz.f395.name,by decide,Tryz.func395.trans (congrArg some (by kernel_rfl))⟩
 t0:=underlying0
 a0:=isAgg0
 z0:=sizeOf0
 v0:=zeroValue0
 t3:=underlying3
 a3:=isAgg3
 z3:=sizeOf3
 v3:=zeroValue3
 t4:=underlying4
 a4:=isAgg4
 z4:=sizeOf4
 v4:=zeroValue4
 t5:=underlying5
 a5:=isAgg5
 z5:=sizeOf5
 v5:=zeroValue5
 t9:=underlying9
 a9:=isAgg9
 z9:=sizeOf9
 v9:=zeroValue9
 t22:=underlying42
 a22:=isAgg42
 z22:=sizeOf42
 v22:=zeroValue42
 t25:=underlying328
 a25:=isAgg328
 z25:=sizeOf328
 v25:=zeroValue328
 t39:=underlying288
 a39:=isAgg288
 z39:=sizeOf288
 v39:=zeroValue288
 t45:=underlying339
 a45:=isAgg339
 z45:=sizeOf339
 v45:=zeroValue339
 t46:=underlying340
 a46:=isAgg340
 z46:=sizeOf340
 v46:=zeroValue340
 t50:=underlying344
 a50:=isAgg344
 z50:=sizeOf344
 v50:=zeroValue344
 t53:=underlying347
 a53:=isAgg347
 z53:=sizeOf347
 v53:=zeroValue347
 t55:=underlying188
 a55:=isAgg188
 z55:=sizeOf188
 v55:=zeroValue188
 t66:=underlying377
 a66:=isAgg377
 z66:=sizeOf377
 v66:=zeroValue377
 t70:=underlying381
 a70:=isAgg381
 z70:=sizeOf381
 v70:=zeroValue381
 t76:=underlying422
 a76:=isAgg422
 z76:=sizeOf422
 v76:=zeroValue422
 t77:=underlying423
 a77:=isAgg423
 z77:=sizeOf423
 v77:=zeroValue423 }
end Go.Proofs
namespace Go.cv
open Go.RowKit
variable{P:Program}{w:World}{H:Type}{enc:TypeId×Value->H}
def sF(w:World)(cs:List Value)(ps:List PV):Prop:=cs.length=ps.length/\(∀ (j:Nat) u c,cs[j]? = some u->ps[j]? = some c->VR (snap w) u c)/\∀u∈cs,u.oneCell'=true
def FQ(P:Program)(t:TypeId)(d:DataW H):Prop:=∀n∈d.weights P t,n<=reachBytes
structure ek(P:Program)(w:World){H:Type}(enc:TypeId×Value->H){α:Type}(t:TypeId)(sz:Nat)(e:α->List PV)(G:α->Prop):Prop where
 len:∀a,(e a).length=sz
 dec:∀ (sp:Nat->Bool) (hd:Bool) (fuel:Nat) (cs:List Value) (x:DataW H×List MemPlace),DataW.trod enc P w 0 sp hd fuel t cs=some x->FQ P t x.1->∃a,G a/\sF w cs (e a)
theorem sF.one{u:Value}{p:PV}(h:VR (snap w) u p)(d:u.oneCell'=true):sF w [u] [p] :=
 ⟨rfl,λj e c a b=>by
  cases j with
  |zero=>simp at a b;subst a b;exact h
  |succ j=>simp at a,λe a=>by simp at a;subst a;exact d⟩
theorem ek.int{t:TypeId}(a:P.underlying t=some (.int .i64)):ek P w enc t 1 (λn:Int=>[.val (.int .i64 n)]) (λ_=>True) :=
 ⟨λ_=>rfl,λc b fuel cs x h _=>by
  obtain⟨n,rfl,_⟩:=DataW.trod_int a h;exact⟨n,trivial,.one (.val _ rfl) rfl⟩⟩
theorem ek.bool{t:TypeId}(a:P.underlying t=some .bool):ek P w enc t 1 (λb:Bool=>[.val (.bool b)]) (λ_=>True) :=
 ⟨λ_=>rfl,λd c fuel cs x h _=>by
  obtain⟨n,rfl,_⟩:=DataW.trod_bool a h;exact⟨n,trivial,.one (.val _ rfl) rfl⟩⟩
theorem ek.map{α β:Type}{t:TypeId}{sz:Nat}{e:α->List PV}{G:α->Prop}{c:β->List PV}{d:β->Prop}(g:α->β)(f:β->α)(n:∀b,e (f b)=c b)(m:∀a,c (g a)=e a)(k:∀a,G a->d (g a))(h:ek P w enc t sz e G):ek P w enc t sz c d :=
 ⟨λb=>by rw[<-n];exact h.len _,λp l fuel cs x o hw=>by
  obtain⟨a,i,j⟩:=h.dec p l fuel cs x o hw;exact⟨g a,k a i,by rw[m];exact j⟩⟩
theorem vc{e:TypeId} : ∀ {a:List (DataW H)} {d:DataW H},d∈a->∀n∈d.weights P e,n∈DataW.weightsAll P e a
 |d0 :: r,d,c,n,b=>by
  rw[DataW.weightsAll,List.mem_append];rcases List.mem_cons.1 c with rfl|h
  ·exact .inl b
  ·exact .inr (vc h n b)
theorem mapM_some{α β:Type}{f:α->Option β} : ∀ {l:List α} {r:List β},l.mapM f=some r->r.length=l.length/\∀ (i:Nat) a,l[i]? = some a->r[i]? = f a:=by
 intro l
 induction l with
 |nil=>intro r h;simp at h;subst h;exact⟨rfl,by simp⟩
 |cons a l j =>
  intro r h;rw[List.mapM_cons] at h;cases c:f a with
  |none=>rw[c] at h;cases h
  |some b =>
   rw[c] at h;cases hl:l.mapM f with
   |none=>rw[hl] at h;cases h
   |some k =>
    rw[hl] at h;have:r=b :: k:=by simpa using h.symm
    subst this;obtain⟨e,g⟩:=j hl;refine⟨by simp[e],λi x d=>?_⟩;cases i with
    |zero=>simp at d;subst d;simp[c]
    |succ i=>simpa using g i x (by simpa using d)
theorem FR{a:Addr}{n:Nat}{cs:List Value}(h:w.cells? 0 a n=some cs):cs.length=n/\(∀ (i:Nat) u,cs[i]? = some u->w.cell? (a.add i)=some u):=by
 unfold World.cells? at h;rw[if_pos (Nat.zero_le _)] at h;obtain⟨b,d⟩:=mapM_some h;refine⟨by simpa using b,λi u c=>?_⟩;have e:i<n:=by have:=(List.getElem?_eq_some_iff.1 c).1;simpa[b] using this
 rw[<-d i i (by simp[e]),c]
theorem WB{a:Addr}{u:Value}(h:w.cell? a=some u):a.spot=none:=by
 unfold World.cell? at h;split at h
 ·split at h
  ·cases h
  ·rename_i b;cases c:a.spot with
   |none=>rfl
   |some _=>simp[c] at b
 ·cases h
theorem JP{α:Type}{n:Nat}{Q:Nat->α->Prop}(h:∀i,i<n->∃a,Q i a):∃l:List α,l.length=n/\∀ (i:Nat) a,l[i]? = some a->Q i a:=by
 induction n with
 |zero=>exact⟨[],rfl,by simp⟩
 |succ n g =>
  obtain⟨l,d,e⟩:=g λi hi=>h i (by omega)
  obtain⟨a,f⟩:=h n (by omega);refine⟨l++[a],by simp[d],λi b c=>?_⟩;rcases Nat.lt_or_ge i l.length with hi|hi
  ·rw[List.getElem?_append_left hi] at c;exact e i b c
  ·rw[List.getElem?_append_right hi] at c;have:i-l.length=0:=by have:=(List.getElem?_eq_some_iff.1 c).1;simp at this;omega
   rw[this] at c;simp at c;subst c;have:i=n:=by omega
   subst this;exact f
end Go.cv
namespace Go.cv
open Go.RowKit
theorem l5.aV{es' es:List (List PV)}(hl:es'.map (·.length)=es.map (·.length))(f:tj es'.flatten es.flatten):l5 (.aV es') (.aV es):=λI v d=>by
 cases d with
 |aV h n cap _ us sz t y b d x s w o =>
  have r:es'.length=es.length:=by have:=congrArg List.length hl;simpa using this
  refine .aV h _ cap es us sz (by rw[<-r];exact t) (λe p=>?_) (b.trans f.len) (λj u c b m=>?_) x s w o
  ·obtain⟨i,q,rfl⟩:=List.getElem_of_mem p;have a:(es'.map (·.length))[i]? = (es.map (·.length))[i]?:=by rw[hl]
   have g:i<es'.length:=by omega
   simp only[List.getElem?_map,List.getElem?_eq_getElem q,List.getElem?_eq_getElem g,Option.map_some,cG] at a;rw[<-a];exact y _ (l8 g)
  ·obtain⟨k,a,l⟩:=f.at m;exact l I u (d j u k b a)
variable{P:Program}{w:World}{H:Type}{enc:TypeId×Value->H}
theorem JQ{a:Addr}(h:a.spot=none)(n:Nat):a.add n=⟨a.block,a.off+n,none⟩:=by
 obtain⟨b,o,s⟩:=a;simp only at h;subst h;unfold Addr.add;split
 ·rename_i c;simp[c]
 ·rfl
theorem JR{α:Type}{m:α->List PV}{sz:Nat}(p:0<sz)(G:∀a,(m a).length=sz){a:Addr}{len cap:Nat}(E:len<=cap){l:List (α×List Value)}(hl:l.length=len)
  (h:∀ (i:Nat) (x:α×List Value),l[i]? = some x->w.cells? 0 (a.add (i * sz)) sz=some x.2/\sF w x.2 (m x.1)):VR (snap w) (.slice (some a) len cap) (.aV ((l.map (·.1)).map m)):=by
 have q:∀e∈(l.map (·.1)).map m,e.length=sz:=λe F=>by obtain⟨x,_,rfl⟩:=List.mem_map.1 F;exact G x
 have r:∀c∈l.map (·.2),c.length=sz:=λc n=>by obtain⟨x,d,rfl⟩:=List.mem_map.1 n;obtain⟨i,t⟩:=List.mem_iff_getElem?.1 d;exact (FR (h i x t).1).1
 have z:∀ (j:Nat) u,(l.map (·.2)).flatten[j]? = some u->∃x,l[j / sz]? = some x/\x.2[j % sz]? = some u:=λj u f=>by have A:j<(l.map (·.2)).flatten.length:=(List.getElem?_eq_some_iff.1 f).1;rw[bG r,List.length_map] at A;have g:j / sz<l.length:=(Nat.div_lt_iff_lt_mul p).2 A;have k:=iH r (j / sz) (j % sz) (by simpa using g) (Nat.mod_lt _ p);rw[Nat.div_add_mod' j sz,f] at k;refine⟨l[j / sz],List.getElem?_eq_getElem g,?_⟩;rw[k];simp[g]
 refine .aV (some a) len cap _ (l.map (·.2)).flatten sz (by simp[hl]) q ?_ (λj u c f n=>?_) (λu f=>?_) ?_ (by simp) E
 ·rw[bG r,bG q];simp
 ·obtain⟨x,d,y⟩:=z j u f;have g:j / sz<l.length:=(List.getElem?_eq_some_iff.1 d).1;have k:=iH q (j / sz) (j % sz) (by simpa using g) (Nat.mod_lt _ p);rw[Nat.div_add_mod' j sz,n] at k;have C:((l.map (·.1)).map m).getD (j / sz) []=m x.1:=by
   have:l[j / sz]=x:=by have:=List.getElem?_eq_getElem g;rw[d] at this;exact (Option.some.inj this).symm
   simp[g,this]
  rw[C] at k;exact (h _ x d).2.2.1 _ u c y k.symm
 ·obtain⟨c,n,I⟩:=List.mem_flatten.1 f;obtain⟨x,d,rfl⟩:=List.mem_map.1 n;obtain⟨i,t⟩:=List.mem_iff_getElem?.1 d;exact (h i x t).2.2.2 u I
 ·by_cases B:(l.map (·.2)).flatten=[]
  ·exact .inl B
  ·right;have H:0<l.length:=by
    rcases Nat.eq_zero_or_pos l.length with h'|h'
    ·exact absurd (by rw[List.length_eq_zero_iff.1 h'];rfl) B
    ·exact h'
   have v:a.spot=none:=by
    have d:=h 0 l[0] (List.getElem?_eq_getElem H);obtain⟨J,K⟩:=FR d.1;have D:0<l[0].2.length:=by rw[J];exact p
    have:=K 0 l[0].2[0] (List.getElem?_eq_getElem D);have:=WB this;simpa[Addr.add] using this
   refine⟨a.block,a.off,?_,λj u f=>?_⟩
   ·obtain⟨b,o,s⟩:=a;simp only at v;subst v;rfl
   ·obtain⟨x,d,y⟩:=z j u f;have:=(FR (h _ x d).1).2 _ u y;rw[JQ v,JQ rfl] at this;simp only at this;rw[Nat.add_assoc,Nat.div_add_mod' j sz] at this;exact this
theorem ek.slice{α:Type}{t e:TypeId}{sz:Nat}{d:α->List PV}{G:α->Prop}(r:P.underlying t=some (.slice e))(D:P.cellsOf e=sz)(u:0<sz)(B:0<P.bytesOf e)(p:ek P w enc e sz d G) :
  ek P w enc t 1 (λl:List α=>[.aV (l.map d)]) (λl=>(∀a∈l,G a)/\l.length<=reachBytes) :=
 ⟨λ_=>rfl,λJ E fuel cs x h hw=>by
  rcases DataW.trod_slice r h with ⟨rfl,rfl⟩|⟨a,len,cap,c,rest,n,_,rfl,rfl,_,H,_,I,F,_,_⟩
  ·exact⟨[],⟨by simp,by simp⟩,.one (.aV none 0 0 [] [] 1 rfl (by simp) rfl (by simp) (by simp) (.inl rfl) (λ_=>⟨rfl,rfl⟩) (Nat.le_refl _)) rfl⟩
  ·have s:∀k,k∈((c.map (·.1)).length+(rest.map (·.1)).length) * P.bytesOf e :: (DataW.weightsAll P e (c.map (·.1))++DataW.weightsAll P e (rest.map (·.1)))->k<=reachBytes:=λk g=>by refine hw k ?_;simp only[DataW.weights,r];exact g
   obtain⟨l,l1,l2⟩:=JP (n:=len) (Q:=λi (x:α×List Value)=>G x.1/\w.cells? 0 (a.add (i * sz)) sz=some x.2/\sF w x.2 (d x.1)) λi f=>by
    have o:=F i f;have q:i<c.length:=by omega
    rw[List.getElem?_eq_getElem q,D] at o;obtain⟨m,v,y⟩:=Option.bind_eq_some_iff.1 o;obtain⟨b,z,A⟩:=p.dec J E n m _ y λk g=>s k (List.mem_cons_of_mem _ (List.mem_append_left _ (vc (List.mem_map.2 ⟨c[i],l8 q,rfl⟩) k g)))
    exact⟨(b,m),z,v,A⟩
   refine⟨l.map (·.1),⟨λb C=>?_,?_⟩,.one (JR u p.len H l1 λi x j=>(l2 i x j).2) rfl⟩
   ·obtain⟨x,j,rfl⟩:=List.mem_map.1 C;obtain⟨i,f⟩:=List.mem_iff_getElem?.1 j;exact (l2 i x f).1
   ·have:=s _ (List.mem_cons_self ..);rw[List.length_map,List.length_map,I] at this;rw[List.length_map,l1];exact Nat.le_trans (Nat.le_trans (Nat.le_add_right len rest.length) (Nat.le_mul_of_pos_right _ B)) this⟩
structure AT(P:Program)(w:World){H:Type}(enc:TypeId×Value->H){α:Type}(fs:List Field)(off sz:Nat)(e:α->List PV)(G:α->Prop):Prop where
 len:∀a,(e a).length=sz
 dec:∀ (sp:Nat->Bool) (hd:Bool) (n:Nat) (cs:List Value) (ds:List (DataW H)),ds.length=fs.length->cs.length=off+sz->(∀ (i:Nat) f,fs[i]? = some f->∃ps,DataW.trod enc P w 0 sp hd n f.type ((cs.drop f.offset).take (P.cellsOf f.type))=(ds[i]?).map λd=>(d,ps)) ->
  (∀k∈DataW.weightsEach P (fs.map (·.type)) ds,k<=reachBytes)->∃a,G a/\sF w (cs.drop off) (e a)
theorem AT.nil(off:Nat):AT P w enc [] off 0 (λ_:Unit=>[]) (λ_=>True) :=
 ⟨λ_=>rfl,λc b n cs a _ hl _ _=>⟨(),trivial,by
  have:cs.drop off=[]:=List.drop_eq_nil_of_le (by omega);rw[this];exact⟨rfl,by simp,by simp⟩⟩⟩
theorem sF.append{cs b:List Value}{ps d:List PV}(h:sF w cs ps)(k:sF w b d):sF w (cs++b) (ps++d):=by
 refine⟨by simp[h.1,k.1],λj u c hu a=>?_,λu hu=>?_⟩
 ·rcases Nat.lt_or_ge j cs.length with hj|hj
  ·rw[List.getElem?_append_left hj] at hu;rw[List.getElem?_append_left (by rw[<-h.1];exact hj)] at a;exact h.2.1 j u c hu a
  ·rw[List.getElem?_append_right hj] at hu;rw[List.getElem?_append_right (by rw[<-h.1];exact hj),<-h.1] at a;exact k.2.1 _ u c hu a
 ·rcases List.mem_append.1 hu with hu|hu
  ·exact h.2.2 u hu
  ·exact k.2.2 u hu
theorem AT.cons{α β:Type}{f:Field}{p:List Field}{off sz v:Nat}{e:α->List PV}{G:α->Prop}{o:β->List PV}{l:β->Prop}(E:f.offset=off)(C:P.cellsOf f.type=sz)(h:ek P w enc f.type sz e G)(t:AT P w enc p (off+sz) v o l) :
  AT P w enc (f :: p) off (sz+v) (λx:α×β=>e x.1++o x.2) (λx=>G x.1/\l x.2) :=
 ⟨λx=>by rw[List.length_append,h.len,t.len],λu s n cs c hl F r hw=>by
  match c,hl with
  | [],hl=>simp at hl
  |d :: c,hl =>
   rw[List.map_cons,DataW.weightsEach] at hw;obtain⟨ps,q⟩:=r 0 f rfl;simp only[List.getElem?_cons_zero,Option.map_some] at q;obtain⟨a,y,m⟩:=h.dec u s n _ _ q λk j=>hw k (List.mem_append_left _ j)
   obtain⟨b,z,A⟩:=t.dec u s n cs c (by simpa using hl) (by omega) (λi g D=>by simpa using r (i+1) g (by simpa using D)) λk j=>hw k (List.mem_append_right _ j)
   refine⟨(a,b),⟨y,z⟩,?_⟩;have B:cs.drop off=(cs.drop off).take sz++cs.drop (off+sz):=by rw[<-List.drop_drop,List.take_append_drop]
   rw[B];rw[E,C] at m;exact m.append A⟩
theorem ek.struct{α:Type}{t:TypeId}{b:Array Field}{sz:Nat}{e:α->List PV}{G:α->Prop}(d:P.underlying t=some (.struct b))(o:P.cellsOf t=sz)(h:AT P w enc b.toList 0 sz e G):ek P w enc t sz e G :=
 ⟨h.len,λv p fuel cs x u hw=>by
  obtain⟨xs,n,_,rfl,hl,g,q⟩:=DataW.trod_struct d u;obtain⟨a,j,l⟩:=h.dec v p n cs (xs.map (·.1)) (by simp[g]) (by rw[hl,o,Nat.zero_add]) (λi f c=>by
   have m:=q i f (by simpa using c);have s:i<xs.length:=by have:=(List.getElem?_eq_some_iff.1 c).1;rw[g];simpa using this
   refine⟨xs[i].2,?_⟩;rw[m];simp[s]) λk r=>hw k (by
    simp only[DataW.weights,d];exact r)
  exact⟨a,j,by simpa using l⟩⟩
end Go.cv
namespace Go.cv
open Go.RowKit
variable{P:Program}{w:World}{H:Type}{enc:TypeId×Value->H}
theorem ek.WC{t:TypeId}(k:IntKind)(a:P.underlying t=some (.int k)):ek P w enc t 1 (λn:Int=>[.val (.int k n)]) (λn=>k.min<=n/\n<=k.max) :=
 ⟨λ_=>rfl,λc b fuel cs x h _=>by
  obtain⟨n,rfl,_,hw⟩:=DataW.trod_int a h;refine⟨n,?_,.one (.val _ rfl) rfl⟩;simpa[Lit.wf] using hw⟩
def JS (e:TypeId) (off:Nat):Field:={ name := "",type:=e,offset:=off,embedded:=false,tag := "",pkgPath := "",byteOffset:=0 }
def Bo(n:Nat)(e:TypeId)(sz:Nat):List Field:=(List.range n).map λi=>JS e (i * sz)
theorem yK{e:TypeId} : ∀ (n:Nat) (a:List (DataW H)),a.length=n->DataW.weightsEach P (List.replicate n e) a=DataW.weightsAll P e a
 |0,[],_=>rfl
 |n+1,d :: r,h=>by rw[List.replicate_succ,DataW.weightsEach,DataW.weightsAll,yK n r (by simpa using h)]
 |n+1,[],h=>by simp at h
 |0,d :: r,h=>by simp at h
theorem ek.array{α:Type}{t e:TypeId}{n sz sz0:Nat}{d:α->List PV}{G:α->Prop}(o:P.underlying t=some (.array n e))(y:P.cellsOf t=sz)(u:P.cellsOf e=sz0)(h:AT P w enc (Bo n e sz0) 0 sz d G):ek P w enc t sz d G :=
 ⟨h.len,λp g fuel cs x B hw=>by
  obtain⟨xs,m,_,rfl,hl,c,z⟩:=DataW.trod_array o B;obtain⟨a,q,r⟩:=h.dec p g m cs (xs.map (·.1)) (by simp[c,Bo]) (by rw[hl,y,Nat.zero_add]) (λi f j=>by
   have b:i<n:=by have:=(List.getElem?_eq_some_iff.1 j).1;simpa[Bo] using this
   have A:f=JS e (i * sz0):=by simpa[Bo,b] using j.symm
   subst A;have v:=z i b;refine⟨(xs[i]'(by omega)).2,?_⟩;subst u;show DataW.trod enc P w 0 p g m e (List.take (P.cellsOf e) (List.drop (i * P.cellsOf e) cs))=_;rw[v];simp[c,b]) λk l=>hw k (by
    simp only[DataW.weights,o];have s:(Bo n e sz0).map (·.type)=List.replicate n e:=by unfold Bo;rw[List.map_map];exact (List.map_const' ..).trans (by rw[List.length_range])
    rw[s,yK n _ (by simp[c])] at l;exact l)
  exact⟨a,q,by simpa using r⟩⟩
end Go.cv
namespace Go.cv
open Go.ChangeShapes Go.WideShapes Go.ChangeAt Go.RowKit
variable{P:Program}{W:World}{H:Type}{enc:TypeId×Value->H}{α β:Type}
structure y9(P:Program)(W:World){H:Type}(enc:TypeId×Value->H){α:Type}(t:TypeId)(e:α->PV)(G:α->Prop):Prop where
 dec:∀b0 v d ps,Value.okWide P W .any b0 t v->DataW.Trod enc P W 0 (λ_=>true) true t v d ps->FQ P t d->∃a,G a/\VR (snap W) v (e a)
 read:P.readableRec t=true
 size:t<P.types.size
theorem y9.struct{t:TypeId}{g:Array Field}{sz:Nat}{e:α->List PV}{G:α->Prop}(m:P.underlying t=some (.struct g))(f:ek P W enc t sz e G)(k:P.readableRec t=true)(l:t<P.types.size):y9 P W enc t (λa=>.agg (e a)) G :=
 ⟨λn v d ps c h hw=>by
  unfold Value.okWide at c;rw[m] at c;obtain⟨cs,rfl,_⟩:=c;obtain⟨fuel,j⟩:=h;obtain⟨a,i,b⟩:=f.dec _ _ fuel _ _ j hw;refine⟨a,i,?_⟩;have:VR (snap W) (.agg (cs.toList).toArray) (.agg (e a)):=.agg cs.toList (e a) b.1 b.2.1 b.2.2;simpa using this,k,l⟩
theorem y9.array{t g:TypeId}{n sz:Nat}{e:α->List PV}{G:α->Prop}(m:P.underlying t=some (.array n g))(f:ek P W enc t sz e G)(k:P.readableRec t=true)(l:t<P.types.size):y9 P W enc t (λa=>.agg (e a)) G :=
 ⟨λo v d ps c h hw=>by
  unfold Value.okWide at c;rw[m] at c;obtain⟨cs,rfl,_⟩:=c;obtain⟨fuel,j⟩:=h;obtain⟨a,i,b⟩:=f.dec _ _ fuel _ _ j hw;refine⟨a,i,?_⟩;have:VR (snap W) (.agg (cs.toList).toArray) (.agg (e a)):=.agg cs.toList (e a) b.1 b.2.1 b.2.2;simpa using this,k,l⟩
theorem y9.one{t:TypeId}{e:α->PV}{G:α->Prop}(l:∀b v,Value.okWide P W .any b t v->v.cells.toList=[v])(f:ek P W enc t 1 (λa=>[e a]) G)(j:P.readableRec t=true)(k:t<P.types.size):y9 P W enc t e G :=
 ⟨λb v d ps m h hw=>by
  obtain⟨fuel,c⟩:=h;rw[l b v m] at c;obtain⟨a,g,i⟩:=f.dec _ _ fuel _ _ c hw;exact⟨a,g,i.2.1 0 v (e a) rfl rfl⟩,j,k⟩
theorem JT:∀ {b:List TypeId} {vs:List Value} {a:List (DataW H)} {ps:List MemPlace},DataW.TrodAll enc P W 0 (λ_=>true) true b vs a ps->a.length=b.length
 | [],vs,a,ps,h=>by obtain⟨rfl,rfl,rfl⟩:=trodAll_nil h;rfl
 |t :: b,vs,a,ps,h=>by obtain⟨v,g,d,e,p,q,rfl,rfl,rfl,f,c⟩:=trodAll_cons h;rw[List.length_cons,List.length_cons,JT c]
structure Bp(P:Program)(W:World){H:Type}(enc:TypeId×Value->H){α:Type}(ts:List TypeId)(e:α->List PV)(G:α->Prop):Prop where
 dec:∀b0 vs ds ps,(∀ (j:Nat) t v,ts[j]? = some t->vs[j]? = some v->Value.okWide P W .any b0 t v)->DataW.TrodAll enc P W 0 (λ_=>true) true ts vs ds ps->(∀n∈DataW.weightsEach P ts ds,n<=reachBytes) ->
  ∃a,G a/\vs.length=(e a).length/\∀ (j:Nat) u x,vs[j]? = some u->(e a)[j]? = some x->VR (snap W) u x
 stay:laidOutB P=true->∀vs ds ps W',DataW.TrodAll enc P W 0 (λ_=>true) true ts vs ds ps->Below W.heap.size W W'->(∀x∈ps,x.block<W.heap.size)->DataW.TrodAll enc P W' 0 (λb=>decide (b<W.heap.size)) true ts vs ds ps
theorem Bp.nil:Bp P W enc [] (λ_:Unit=>[]) (λ_=>True) :=
 ⟨λd vs a ps _ h _=>by
  obtain⟨rfl,rfl,rfl⟩:=trodAll_nil h;exact⟨(),trivial,rfl,λj u x b=>by simp at b⟩,λ_ vs a ps c h _ _=>by
  obtain⟨rfl,rfl,rfl⟩:=trodAll_nil h;exact trodAll_mk0⟩
theorem Bp.cons{t:TypeId}{C:List TypeId}{e:α->PV}{G:α->Prop}{w:β->List PV}{r:β->Prop}(h:y9 P W enc t e G)(A:Bp P W enc C w r) :
  Bp P W enc (t :: C) (λx:α×β=>e x.1 :: w x.2) (λx=>G x.1/\r x.2) :=
 ⟨λs vs K ps B f hw=>by
  obtain⟨v,o,d,g,p,q,rfl,rfl,rfl,i,k⟩:=trodAll_cons f;rw[DataW.weightsEach] at hw;obtain⟨a,E,F⟩:=h.dec s v d p (B 0 t v rfl rfl) i λn l=>hw n (List.mem_append_left _ l)
  obtain⟨b,H,I,J⟩:=A.dec s o g q (λj t v f L=>B (j+1) t v (by simpa using f) (by simpa using L)) k λn l=>hw n (List.mem_append_right _ l)
  refine⟨(a,b),⟨E,H⟩,by simp[I],λj u x m c=>?_⟩;cases j with
  |zero=>simp at m c;subst m c;exact F
  |succ j=>exact J j u x (by simpa using m) (by simpa using c),λhl vs K ps D f y z=>by
  obtain⟨v,o,d,g,p,q,rfl,rfl,rfl,i,k⟩:=trodAll_cons f;exact⟨p,q,Below.trod hl h.read h.size i y λx c=>z x (List.mem_append_left _ c),A.stay hl o g q D k y λx c=>z x (List.mem_append_right _ c),rfl⟩⟩
theorem WD{C:Checked}{os:Os}{f:FuncId}{fn:Func}{s:ChangeSpec}{conds:List PathCond}{d fresh J:Bool}{e:α->List PV}{G:α->Prop}{D:TypeId}
  (own:ownKnob C.prog.godebug=none) (X:laidOutB C.prog=true) (ad:os.Started) (Y:C.prog.inits.idxOf? f=none) (L:C.prog.funcs[f]? = some fn)
  (ae:∃ (w:World) (c:Tape) (i:Input),w.os=os/\(w.forCall c i).Shaped C.prog/\i.vars=[]/\Input.okWide C.prog (w.forCall c i) .any w.heap.size f i /\
   s.pre6 enc C.prog fn conds d (w.forCall c i).memory i.args/\({} : Assume).holds C.prog (lone (Frame.enter C.prog f i.args .normal) [] (w.forCall c i)))
  (P:fn.resultTypes = #[D]) (K:C.prog.underlying D=some .bool) (l:s.vars=[]) (Q:∀b:List (DataW H),b.length=fn.params.size->(s.fn H b).results=[.lit (.bool true)]/\(s.fn H b).args=b/\(s.fn H b).vars=[])
  (A:∀W,Bp C.prog W enc fn.params.toList e G) (ok:∀a,G a->aS C.prog f (e a) λr=>r = .val (.bool true)) :
  ReturnsInHanded {} C os f .any (s.pre6 enc C.prog fn conds d) (s.post enc C.prog fn d fresh J false):=by
 refine returnsInHanded_of_change_sized (C:=C) own ad Y L ae ?_;intro W base args b u ai S y _ B _;have z:=y;obtain⟨p,q,g,k,rfl,al,am⟩:=y;rw[l] at k;have M:u=[]/\q=[]:=by
  cases u with
  |nil=>exact⟨rfl,k⟩
  |cons=>exact k.elim
 obtain⟨rfl,rfl⟩:=M;have U:s.plain.varTypes C.prog=[]:=by have:s.plain.vars=[]:=l;unfold DataSpec.varTypes;rw[this];rfl
 rw[U,List.append_nil,List.append_nil] at B;have hw:∀n∈DataW.weightsEach C.prog fn.params.toList b,n<=reachBytes:=λn O=>by have:=List.all_eq_true.1 B n O;simpa using this
 obtain⟨a,E,F,I⟩:=(A W).dec base args.toList b p (λj t v R m=>S j t v (by simpa using R) (by simpa using m)) g hw;have N:∀x∈p,x.block<W.heap.size:=λx V=>z.lt x (List.mem_append_left _ V)
 obtain⟨Z,s2,s3⟩:=Q b (by
  have:=JT g;simpa using this)
 refine ((ok a E).2 (snap W) W args.toList (Es W) ⟨F,I⟩).mono ?_;rintro e' W' ⟨v,r,I',rfl,rfl,m,o,_⟩;have T:v = .bool true:=by cases m;rfl
 subst T;refine⟨_,rfl,b,[],p++[],[],p,[],z,?_,?_,?_,o.frame _,λh=>by cases h⟩
 ·rw[List.append_nil,Z,P];exact trodAll_mk1 (shut_bool K true)
 ·rw[List.append_nil,s2];exact (A W).stay X _ _ _ _ g o N
 ·rw[List.append_nil,s3,l];rfl
end Go.cv
namespace Go.cv
open Go.RowKit
variable{P:Program}{w:World}{H:Type}{enc:TypeId×Value->H}
structure s9(P:Program)(w:World){H:Type}(enc:TypeId×Value->H)(N:Nat){α:Type}(t:TypeId)(sz:Nat)(e:α->List PV)(G:α->Prop):Prop where
 len:∀a,(e a).length=sz
 dec:∀ (sp:Nat->Bool) (hd:Bool) (fuel:Nat),fuel<N->∀ (cs:List Value) (x:DataW H×List MemPlace),DataW.trod enc P w 0 sp hd fuel t cs=some x->FQ P t x.1->∃a,G a/\sF w cs (e a)
theorem s9.zero{α:Type}{t:TypeId}{sz:Nat}{e:α->List PV}{G:α->Prop}(h:∀a,(e a).length=sz):s9 P w enc 0 t sz e G:=⟨h,λ_ _ _ h=>absurd h (Nat.not_lt_zero _)⟩
theorem s9.map{N:Nat}{α β:Type}{t:TypeId}{sz:Nat}{e:α->List PV}{G:α->Prop}{c:β->List PV}{d:β->Prop}(g:α->β)(f:β->α)(o:∀b,e (f b)=c b)(n:∀a,c (g a)=e a)(k:∀a,G a->d (g a))(h:s9 P w enc N t sz e G):s9 P w enc N t sz c d :=
 ⟨λb=>by rw[<-o];exact h.len _,λq l fuel m cs x p hw=>by
  obtain⟨a,i,j⟩:=h.dec q l fuel m cs x p hw;exact⟨g a,k a i,by rw[n];exact j⟩⟩
theorem s9.slice{N:Nat}{α:Type}{t e:TypeId}{sz:Nat}{d:α->List PV}{G:α->Prop}(r:P.underlying t=some (.slice e))(D:P.cellsOf e=sz)(u:0<sz)(B:0<P.bytesOf e)(p:s9 P w enc N e sz d G) :
  s9 P w enc N t 1 (λl:List α=>[.aV (l.map d)]) (λl=>(∀a∈l,G a)/\l.length<=reachBytes) :=
 ⟨λ_=>rfl,λK E fuel L cs x h hw=>by
  rcases DataW.trod_slice r h with ⟨rfl,rfl⟩|⟨a,len,cap,c,rest,n,M,rfl,rfl,_,H,_,I,F,_,_⟩
  ·exact⟨[],⟨by simp,by simp⟩,.one (.aV none 0 0 [] [] 1 rfl (by simp) rfl (by simp) (by simp) (.inl rfl) (λ_=>⟨rfl,rfl⟩) (Nat.le_refl _)) rfl⟩
  ·have J:n<N:=by omega
   have s:∀k,k∈((c.map (·.1)).length+(rest.map (·.1)).length) * P.bytesOf e :: (DataW.weightsAll P e (c.map (·.1))++DataW.weightsAll P e (rest.map (·.1)))->k<=reachBytes:=λk g=>by refine hw k ?_;simp only[DataW.weights,r];exact g
   obtain⟨l,l1,l2⟩:=JP (n:=len) (Q:=λi (x:α×List Value)=>G x.1/\w.cells? 0 (a.add (i * sz)) sz=some x.2/\sF w x.2 (d x.1)) λi f=>by
    have o:=F i f;have q:i<c.length:=by omega
    rw[List.getElem?_eq_getElem q,D] at o;obtain⟨m,v,y⟩:=Option.bind_eq_some_iff.1 o;obtain⟨b,z,A⟩:=p.dec K E n J m _ y λk g=>s k (List.mem_cons_of_mem _ (List.mem_append_left _ (vc (List.mem_map.2 ⟨c[i],l8 q,rfl⟩) k g)))
    exact⟨(b,m),z,v,A⟩
   refine⟨l.map (·.1),⟨λb C=>?_,?_⟩,.one (JR u p.len H l1 λi x j=>(l2 i x j).2) rfl⟩
   ·obtain⟨x,j,rfl⟩:=List.mem_map.1 C;obtain⟨i,f⟩:=List.mem_iff_getElem?.1 j;exact (l2 i x f).1
   ·have:=s _ (List.mem_cons_self ..);rw[List.length_map,List.length_map,I] at this;rw[List.length_map,l1];exact Nat.le_trans (Nat.le_trans (Nat.le_add_right len rest.length) (Nat.le_mul_of_pos_right _ B)) this⟩
structure Bq(P:Program)(w:World){H:Type}(enc:TypeId×Value->H)(N:Nat){α:Type}(fs:List Field)(off sz:Nat)(e:α->List PV)(G:α->Prop):Prop where
 len:∀a,(e a).length=sz
 dec:∀ (sp:Nat->Bool) (hd:Bool) (n:Nat),n<N->∀ (cs:List Value) (ds:List (DataW H)),ds.length=fs.length->cs.length=off+sz->(∀ (i:Nat) f,fs[i]? = some f->∃ps,DataW.trod enc P w 0 sp hd n f.type ((cs.drop f.offset).take (P.cellsOf f.type))=(ds[i]?).map λd=>(d,ps)) ->
  (∀k∈DataW.weightsEach P (fs.map (·.type)) ds,k<=reachBytes)->∃a,G a/\sF w (cs.drop off) (e a)
theorem Bq.nil{N:Nat}(off:Nat):Bq P w enc N [] off 0 (λ_:Unit=>[]) (λ_=>True) :=
 ⟨λ_=>rfl,λc b n _ cs a _ hl _ _=>⟨(),trivial,by
  have:cs.drop off=[]:=List.drop_eq_nil_of_le (by omega);rw[this];exact⟨rfl,by simp,by simp⟩⟩⟩
theorem Bq.cons{N:Nat}{α β:Type}{f:Field}{p:List Field}{off sz y:Nat}{e:α->List PV}{G:α->Prop}{o:β->List PV}{l:β->Prop}(F:f.offset=off)(D:P.cellsOf f.type=sz)(h:s9 P w enc N f.type sz e G)(u:Bq P w enc N p (off+sz) y o l) :
  Bq P w enc N (f :: p) off (sz+y) (λx:α×β=>e x.1++o x.2) (λx=>G x.1/\l x.2) :=
 ⟨λx=>by rw[List.length_append,h.len,u.len],λv s n t cs c hl H r hw=>by
  match c,hl with
  | [],hl=>simp at hl
  |d :: c,hl =>
   rw[List.map_cons,DataW.weightsEach] at hw;obtain⟨ps,q⟩:=r 0 f rfl;simp only[List.getElem?_cons_zero,Option.map_some] at q;obtain⟨a,z,m⟩:=h.dec v s n t _ _ q λk j=>hw k (List.mem_append_left _ j)
   obtain⟨b,A,B⟩:=u.dec v s n t cs c (by simpa using hl) (by omega) (λi g E=>by simpa using r (i+1) g (by simpa using E)) λk j=>hw k (List.mem_append_right _ j)
   refine⟨(a,b),⟨z,A⟩,?_⟩;have C:cs.drop off=(cs.drop off).take sz++cs.drop (off+sz):=by rw[<-List.drop_drop,List.take_append_drop]
   rw[C];rw[F,D] at m;exact m.append B⟩
theorem s9.struct{N:Nat}{α:Type}{t:TypeId}{b:Array Field}{sz:Nat}{e:α->List PV}{G:α->Prop}(d:P.underlying t=some (.struct b))(o:P.cellsOf t=sz)(h:Bq P w enc N b.toList 0 sz e G):s9 P w enc (N+1) t sz e G :=
 ⟨h.len,λv p fuel y cs x u hw=>by
  obtain⟨xs,n,z,rfl,hl,g,q⟩:=DataW.trod_struct d u;obtain⟨a,j,l⟩:=h.dec v p n (by omega) cs (xs.map (·.1)) (by simp[g]) (by rw[hl,o,Nat.zero_add]) (λi f c=>by
   have m:=q i f (by simpa using c);have s:i<xs.length:=by have:=(List.getElem?_eq_some_iff.1 c).1;rw[g];simpa using this
   refine⟨xs[i].2,?_⟩;rw[m];simp[s]) λk r=>hw k (by
    simp only[DataW.weights,d];exact r)
  exact⟨a,j,by simpa using l⟩⟩
end Go.cv
namespace Go.cv
open Go.RowKit
def cL{α:Type}(p:Prop) [Decidable p](x:Option α):Option α:=if p then x else none
def thn{α β:Type}(x:Option α)(k:α->Option β):Option β:=match x with
 |some a=>k a
 |none=>none
def nr{α:Type}(l:List α)(i:Int):Option α:=if 0<=i then l[i.toNat]? else none
theorem FT{α:Type}{p:Prop} [Decidable p]{x:Option α}{r:α}(h:cL p x=some r):p/\x=some r:=by
 unfold cL at h;split at h
 ·exact⟨by assumption,h⟩
 ·cases h
theorem oI{α β:Type}{x:Option α}{k:α->Option β}{r:β}(h:thn x k=some r):∃a,x=some a/\k a=some r:=by
 unfold thn at h;split at h
 ·exact⟨_,rfl,h⟩
 ·cases h
theorem As{α:Type}{b:Bool}{x y:Option α}{r:α}(h:cond b x y=some r)(a:b=true):x=some r:=by subst a;exact h
theorem Br{α:Type}{b:Bool}{x y:Option α}{r:α}(h:cond b x y=some r)(a:b=false):y=some r:=by subst a;exact h
theorem JU{α β:Type}{l:List α}{i:Nat}{k:α->Option β}{r:β}(f:α->List PV)(h:thn l[i]? k=some r):∃a,i<l.length/\(l.map f).getD i []=f a/\l[i]? = some a/\k a=some r:=by obtain⟨a,b,c⟩:=oI h;exact⟨a,(List.getElem?_eq_some_iff.1 b).1,by simp[b],b,c⟩
theorem JV{α β:Type}{l:List α}{i:Int}{k:α->Option β}{r:β}(f:α->List PV)(h:thn (nr l i) k=some r) :
  ∃a,0<=i/\i<(l.length:Int)/\(l.map f).getD i.toNat []=f a/\nr l i=some a/\k a=some r:=by
 obtain⟨a,b,d⟩:=oI h;have e:=b;unfold nr at b;split at b
 ·rename_i c;have:=(List.getElem?_eq_some_iff.1 b).1;exact⟨a,c,by omega,by simp[b],e,d⟩
 ·cases b
theorem dJ{α:Type}{f:α->List PV}{n:Nat}(h:∀a,(f a).length=n)(l:List α):∀x∈l.map f,x.length=n:=by intro x b;obtain⟨a,_,rfl⟩:=List.mem_map.1 b;exact h a
theorem WE{α:Type}{f:α->List PV}(h:∀a,(f a).all isVal=true)(l:List α):((l.map f).all λx=>x.all isVal)=true:=by simp[h]
theorem WG{α β:Type}(f:α->β)(l:List α)(n:Nat):(l.map f).take n=(l.take n).map f:=(List.map_take ..).symm
theorem WH{α β:Type}(f:α->β)(l:List α)(n:Nat):(l.map f).drop n=(l.drop n).map f:=(List.map_drop ..).symm
theorem WI{α β:Type}(f:α->β)(l m:List α):l.map f++m.map f=(l++m).map f:=(List.map_append ..).symm
theorem bt{α β:Type}(f:α->β)(l m:List α){c:List β}(h:m.map f=c):l.map f++c=(l++m).map f:=by rw[List.map_append,h]
theorem WJ{α β:Type}(f:α->β)(n:Nat)(a:α){c:β}(h:f a=c):List.replicate n c=(List.replicate n a).map f:=by rw[List.map_replicate,h]
theorem ve{α β:Type}(f:α->β)(l:List α)(i:Nat)(a:α){c:β}(h:f a=c):(l.map f).set i c=(l.set i a).map f:=by rw[List.map_set,<-h]
attribute [go_sem] WG WH WI List.take_length List.length_set List.length_replicate List.set_cons_zero List.set_cons_succ Nat.le_refl Nat.not_lt_zero Nat.zero_le Nat.zero_lt_succ decide_true decide_false Bool.not_not
mutual
def uw:PV->PV->Prop
 | .val (.slice none 0 0),.aV es=>es=[]
 | .emp,.aV es=>es=[]
 | .aV a,.aV b=>lK a b
 | .agg a,.agg b=>rQ a b
 | .dY a,.dY b=>rQ a b
 |a,b=>a=b
def rQ:List PV->List PV->Prop
 | [],[]=>True
 |a :: r,b :: s=>uw a b/\rQ r s
 |_,_=>False
def lK:List (List PV)->List (List PV)->Prop
 | [],[]=>True
 |a :: r,b :: s=>rQ a b/\lK r s
 |_,_=>False
end
theorem tj.app:∀ {a b c d:List PV},tj a b->tj c d->tj (a++c) (b++d)
 | [],[],_,_,_,h=>h
 | [],_ :: _,_,_,h,_=>h.elim
 |_ :: _,[],_,_,h,_=>h.elim
 |_ :: _,_ :: _,_,_,h,k=>⟨h.1,tj.app h.2 k⟩
mutual
theorem FU:∀ (a b:PV),uw a b->l5 a b:=by
 intro a b h;unfold uw at h;split at h
 ·subst h;exact .nil
 ·subst h;exact .emp
 ·exact .aV (tw _ _ h).1 (tw _ _ h).2
 ·exact .agg (uz _ _ h)
 ·exact .dY (uz _ _ h)
 ·subst h;exact .refl _
theorem uz:∀ (a b:List PV),rQ a b->tj a b
 | [],[],_=>trivial
 |a :: r,b :: s,h=>⟨FU a b (by unfold rQ at h;exact h.1),uz r s (by unfold rQ at h;exact h.2)⟩
 | [],_ :: _,h=>by unfold rQ at h;exact h
 |_ :: _,[],h=>by unfold rQ at h;exact h
theorem tw:∀ (a b:List (List PV)),lK a b->a.map (·.length)=b.map (·.length)/\tj a.flatten b.flatten
 | [],[],_=>⟨rfl,trivial⟩
 |a :: r,b :: s,h=>by unfold lK at h;have c:=uz a b h.1;have d:=tw r s h.2;exact⟨by rw[List.map_cons,List.map_cons,d.1,c.len],by rw[List.flatten_cons,List.flatten_cons];exact c.app d.2⟩
 | [],_ :: _,h=>by unfold lK at h;exact h.elim
 |_ :: _,[],h=>by unfold lK at h;exact h.elim
end
theorem aS.oA{P:Program}{f:FuncId}{args:List PV}{t:PV}(h:aS P f args (λv=>uw v t)):aS P f args (λv=>v=t):=h.le λr a=>⟨t,FU r t a,rfl⟩
mutual
def vf:RV->RV->Prop
 | .p (.val (.slice none 0 0)),.row _ sz es=>es=[]/\0<sz
 | .p (.val (.slice none 0 0)),.p (.aV es)=>es=[]
 | .row e sz es,.row c d es'=>e=c/\sz=d/\lK es es'
 | .p (.aV a),.p (.aV b)=>lK a b
 | .agg a,.agg b=>ri a b
 | .dY a,.dY b=>ri a b
 | .p (.agg a),.agg b=>s5 a b
 |a,b=>a=b
def ri:List RV->List RV->Prop
 | [],[]=>True
 |a :: r,b :: s=>vf a b/\ri r s
 |_,_=>False
def s5:List PV->List RV->Prop
 | [],[]=>True
 |a :: r,b :: s=>vf (.p a) b/\s5 r s
 |_,_=>False
end
theorem xQ.WK{w:World}{B:Nat}{J:Mem}{u:Value}{a:List Nat}{e:TypeId}{sz:Nat}{es es':List (List PV)}(hl:es.map (·.length)=es'.map (·.length))(l:tj es.flatten es'.flatten)(h:xQ w B J u (.row e sz es) a):xQ w B J u (.row e sz es') a:=by
 cases h with
 |row _ _ _ _ us h g =>
  have n:es.length=es'.length:=by have:=congrArg List.length hl;simpa using this
  refine .row u e sz es' us ⟨n ▸ h.own,h.pos,λx p=>?_,λj u c o k=>?_,h.one,h.free⟩ g
  ·obtain⟨i,m,rfl⟩:=List.getElem_of_mem p;have b:(es.map (·.length))[i]? = (es'.map (·.length))[i]?:=by rw[hl]
   have d:i<es.length:=by omega
   simp only[List.getElem?_map,List.getElem?_eq_getElem m,List.getElem?_eq_getElem d,Option.map_some,cG] at b;rw[<-b];exact h.all _ (l8 d)
  ·obtain⟨f,q,r⟩:=l.at k;exact r J u (h.val j u f o q)
theorem xQ.WL{w:World}{B:Nat}{J:Mem}{u:Value}{a:List Nat}(e:TypeId){sz:Nat}(b:0<sz)(h:xQ w B J u (.p (.val (.slice none 0 0))) a):xQ w B J u (.row e sz []) a:=(o4.nil e sz b).sound h
theorem xQ.WM{w:World}{B:Nat}{J:Mem}{u:Value}{a:List Nat}(h:xQ w B J u (.p (.val (.slice none 0 0))) a):xQ w B J u (.p (.aV [])) a:=o4.Ni.sound h
def Au(w:World)(B:Nat)(J:Mem)(us:List Value)(c:List RV)(a:List (List Nat)):Prop:=us.length=c.length/\us.length=a.length/\∀ (j:Nat) u r b,us[j]? = some u->c[j]? = some r->a[j]? = some b->xQ w B J u r b
theorem Au.cons{w:World}{B:Nat}{J:Mem}{u:Value}{us:List Value}{r g:RV}{i k:List RV}{b:List Nat}{e:List (List Nat)}(h:Au w B J (u :: us) (r :: i) (b :: e))
  (q:xQ w B J u r b->xQ w B J u g b) (s:Au w B J us i e->Au w B J us k e):Au w B J (u :: us) (g :: k) (b :: e):=by
 obtain⟨l,m,f⟩:=h;obtain⟨n,o,p⟩:=s ⟨by simpa using l,by simpa using m,λj u r b d c a=>f (j+1) u r b (by simpa using d) (by simpa using c) (by simpa using a)⟩;refine⟨by simpa using n,by simpa using o,λj u r b d c a=>?_⟩;cases j with
 |zero=>simp at d c a;subst d c a;exact q (f 0 _ _ _ rfl rfl rfl)
 |succ j=>exact p j u r b (by simpa using d) (by simpa using c) (by simpa using a)
mutual
theorem FV:∀ (r t:RV),vf r t->∀ {w:World} {B:Nat} {J:Mem} {u:Value} {b:List Nat},xQ w B J u r b->xQ w B J u t b:=by
 intro r t h w B J u b a;unfold vf at h;split at h
 ·obtain⟨rfl,j⟩:=h;exact a.WL _ j
 ·subst h;exact a.WM
 ·obtain⟨rfl,rfl,h⟩:=h;exact a.WK (tw _ _ h).1 (tw _ _ h).2
 ·cases a with
  |p _ _ k=>exact .p _ _ ((l5.aV (tw _ _ h).1 (tw _ _ h).2) _ _ k)
 ·cases a with
  |agg us m b f g i l=>obtain⟨c,d,e⟩:=FW _ _ h (w:=w) (B:=B) (J:=J) ⟨f,g,i⟩;exact .agg us _ b c d e l
 ·cases a with
  |dY us m b f g i=>obtain⟨c,d,e⟩:=FW _ _ h (w:=w) (B:=B) (J:=J) ⟨f,g,i⟩;exact .dY us _ b c d e
 ·cases a with
  |p u x k =>
   cases k with
   |agg us cs f g i =>
    obtain⟨c,d,e⟩:=JW _ _ h (w:=w) (B:=B) (J:=J) (us:=us) ⟨f,g⟩;have:((us.map λ_=>([]:List Nat))).flatten=[]:=by simp
    have j:=xQ.agg us _ (us.map λ_=>[]) c d e i;rw[this] at j;exact j
 ·subst h;exact a
termination_by r t=>SizeOf.sizeOf t
theorem FW:∀ (a b:List RV),ri a b->∀ {w:World} {B:Nat} {J:Mem} {us:List Value} {e:List (List Nat)},Au w B J us a e->Au w B J us b e
 | [],[],_,_,_,_,_,_,h=>h
 | [],_ :: _,h,_,_,_,_,_,_=>by unfold ri at h;exact h.elim
 |_ :: _,[],h,_,_,_,_,_,_=>by unfold ri at h;exact h.elim
 |a :: r,b :: s,h,w,B,J,us,e,d=>by
  unfold ri at h
  match us,e,d with
  |u :: us,c :: e,d=>exact d.cons (FV a b h.1) (FW r s h.2)
  | [],_,d=>have:=d.1;simp at this
  |_ :: _,[],d=>have:=d.2.1;simp at this
termination_by a b=>SizeOf.sizeOf b
theorem JW:∀ (a:List PV) (b:List RV),s5 a b->∀ {w:World} {B:Nat} {J:Mem} {us:List Value},qs J us a->Au w B J us b (us.map λ_=>[])
 | [],[],_,_,_,_,us,h=>by
  have f:us=[]:=by have:=h.1;simpa using this
  subst f;exact⟨rfl,rfl,λj u r b e=>by simp at e⟩
 | [],_ :: _,h,_,_,_,_,_=>by unfold s5 at h;exact h.elim
 |_ :: _,[],h,_,_,_,_,_=>by unfold s5 at h;exact h.elim
 |a :: r,b :: s,h,w,B,J,us,d=>by
  unfold s5 at h
  match us,d with
  |u :: us,d =>
   have i:=JW r s h.2 (w:=w) (B:=B) (J:=J) (us:=us) ⟨by have:=d.1;simpa using this,λj u c e k=>d.2 (j+1) u c (by simpa using e) (by simpa using k)⟩;have f:=FV (.p a) b h.1 (w:=w) (B:=B) (.p u a (d.2 0 u a rfl rfl));refine⟨by simpa using i.1,by simp,λj u r b e d g=>?_⟩;cases j with
   |zero=>simp at e d g;subst e d g;exact f
   |succ j=>exact i.2.2 j u r b (by simpa using e) (by simpa using d) (by simpa using g)
  | [],d=>have:=d.1;simp at this
termination_by a b=>SizeOf.sizeOf b
end
theorem bw.vg{P:Program}{f:FuncId}{args:List PV}{t:RV}(h:bw P f args (λv=>vf v t)):bw P f args (λv=>v=t):=⟨h.1,λI w vs g i=>(h.2 I w vs g i).mono λ_ _ ⟨v,r,a,I',b,c,d,e⟩=>⟨v,t,a,I',b,rfl,FV r t c d,e⟩⟩
theorem WN(a b:List PV):uw (.agg a) (.agg b)=rQ a b:=by simp only[uw]
theorem WO(a b:List PV):uw (.dY a) (.dY b)=rQ a b:=by simp only[uw]
theorem WQ(es:List (List PV)):uw (.val (.slice none 0 0)) (.aV es)=(es=[]):=by simp only[uw]
theorem WR(a b:List (List PV)):uw (.aV a) (.aV b)=lK a b:=by simp only[uw]
theorem JX(a b:Value):uw (.val a) (.val b)=(a=b):=by unfold uw;split<;>first|(rename_i h _;cases h;done)|(rename_i h;cases h;done)|simp_all
mutual
theorem WS:∀a:PV,uw a a
 | .agg a=>by simp only[uw];exact iL a
 | .dY a=>by simp only[uw];exact iL a
 | .val v=>by rw[JX]
 | .aV a=>by simp only[uw];exact xV a
 | .emp=>by simp only[uw]
 | .eF _ _=>by simp only[uw]
 | .iT _ _ _=>by simp only[uw]
theorem iL:∀a:List PV,rQ a a
 | []=>by unfold rQ;trivial
 |a :: r=>by unfold rQ;exact⟨WS a,iL r⟩
@[refl] theorem xV:∀a:List (List PV),lK a a
 | []=>by unfold lK;trivial
 |a :: r=>by unfold lK;exact⟨iL a,xV r⟩
end
theorem WT(a:List (List PV)):lK a a=True:=eq_true (xV a)
theorem WU(a b:List PV)(r s:List (List PV)):lK (a :: r) (b :: s)=(rQ a b/\lK r s):=by simp only[lK]
attribute [go_sem] WT WU
theorem WV:rQ [] []=True:=by simp only[rQ]
theorem WW(a b:PV)(r s:List PV):rQ (a :: r) (b :: s)=(uw a b/\rQ r s):=by simp only[rQ]
theorem WX(a b:List RV):vf (.agg a) (.agg b)=ri a b:=by simp only[vf]
theorem WY(a b:List RV):vf (.dY a) (.dY b)=ri a b:=by simp only[vf]
theorem WZ(a:List PV)(b:List RV):vf (.p (.agg a)) (.agg b)=s5 a b:=by simp only[vf]
theorem W0(e:TypeId)(sz:Nat)(es:List (List PV)):vf (.p (.val (.slice none 0 0))) (.row e sz es)=(es=[]/\0<sz):=by simp only[vf]
theorem W1(es:List (List PV)):vf (.p (.val (.slice none 0 0))) (.p (.aV es))=(es=[]):=by simp only[vf]
theorem W2(e a:TypeId)(sz b:Nat)(es es':List (List PV)):vf (.row e sz es) (.row a b es')=(e=a/\sz=b/\lK es es'):=by simp only[vf]
theorem W3(a b:Value):vf (.p (.val a)) (.p (.val b))=(a=b):=by unfold vf;split<;>first|(rename_i h _;cases h;done)|(rename_i h;cases h;done)|simp_all
theorem W4(a b:List (List PV)):vf (.p (.aV a)) (.p (.aV b))=lK a b:=by simp only[vf]
theorem W5:ri [] []=True:=by simp only[ri]
theorem W6(a b:RV)(r s:List RV):ri (a :: r) (b :: s)=(vf a b/\ri r s):=by simp only[ri]
theorem W7:s5 [] []=True:=by simp only[s5]
theorem W8(a:PV)(b:RV)(r:List PV)(s:List RV):s5 (a :: r) (b :: s)=(vf (.p a) b/\s5 r s):=by simp only[s5]
attribute [go_sem] WN WO WQ WR JX WV WW WX WY WZ W0 W1 W2 W3 W4 W5 W6 W7 W8
section
variable{σ O:Type}
def cq(f:Nat->σ->(σ->Option O)->(σ->Option O)->Option O):Nat->Nat->σ->(σ->Option O)->Option O
 |0,_,s,K=>K s
 |k+1,i,s,K=>f i s (λa=>cq f k (i+1) a K) K
def iter(f:σ->(σ->Option O)->(σ->Option O)->Option O):Nat->σ->(σ->Option O)->Option O
 |0,_,_=>none
 |k+1,s,K=>f s (λa=>iter f k a K) K
end
def fuel:Nat:=4611686018427387904
section
variable{P:Program}{N:Nat}{own:List Nat}{σ γ O:Type}{c:Code}{K:qP}{env:Env}{H:az}
def tA(R:Env->az->Prop)(K:qP):qP:=λe env H=>match e with
 | .normal=>R env H
 |e=>K e env H
theorem W9{R:Env->az->Prop} : tA R K .normal env H=R env H:=rfl
theorem Xa{R:Env->az->Prop}{id:Nat} : tA R K (.exit id) env H=K (.exit id) env H:=rfl
theorem Xb{R:Env->az->Prop} : tA R K .ret env H=K .ret env H:=rfl
attribute [go_sem] W9 Xa Xb
def B9(c:σ×γ->Env)(d:σ×γ->az)(b:σ->Prop)(e:Env)(H:az):Prop:=∃a g,b a/\dw e H (c (a,g)) (d (a,g))
theorem JY{c:σ×γ->Env}{d:σ×γ->az}{b:σ->Prop}{e:Env}{H:az}(a:σ)(g:γ)(h:b a)(hw:dw e H (c (a,g)) (d (a,g))):B9 c d b e H:=⟨a,g,h,hw⟩
theorem FX{R R':Env->az->Prop}(h:∀e H,R e H↔R' e H):tA R K=(λz a H'=>match z with
  | .normal=>R' a H'
  |z=>K z a H'):=by
 funext z a H';cases z<;>first|rfl|exact propext (h a H')
theorem Xc{f:σ->(σ->Option O)->(σ->Option O)->Option O}{b:σ->Option O}{r:O}(d:σ×γ->Env)(i:σ×γ->az)(o:γ){k:Nat}{s:σ}(h:iter f k s b=some r)
  (hw:dw env H (d (s,o)) (i (s,o)))
  (z:∀s g (v:σ->Option O) (u:σ->Prop),(∀a,v a=some r->u a)->f s v b=some r->cw P N own c (tA (B9 d i u) K) (d (s,g)) (i (s,g))):xg P N own c K env H:=by
 refine⟨λn e H=>∃s g,iter f n s b=some r/\e=d (s,g)/\H=i (s,g),⟨k,_,_,⟨s,o,h,rfl,rfl⟩,hw⟩,?_⟩;rintro n e H ⟨s,g,x,rfl,rfl⟩;cases n with
 |zero=>cases x
 |succ n =>
  have:=z s g _ (λa=>∃m,m<n+1/\iter f m a b=some r) (λa y=>⟨n,Nat.lt_succ_self n,y⟩) x;rw[FX (R':=λw H'=>∃m j H2,m<n+1/\(∃s g,iter f m s b=some r/\j=d (s,g)/\H2=i (s,g))/\dw w H' j H2)] at this
  ·exact this
  ·intro w H';constructor
   ·rintro⟨a,l,⟨m,p,q⟩,t⟩;exact⟨m,_,_,p,⟨a,l,q,rfl,rfl⟩,t⟩
   ·rintro⟨m,j,H2,p,⟨a,l,q,rfl,rfl⟩,t⟩;exact⟨a,l,⟨m,p,q⟩,t⟩
theorem Xd{f:Nat->σ->(σ->Option O)->(σ->Option O)->Option O}{a:σ->Option O}{r:O}(b:(Nat×σ)×γ->Env)(d:(Nat×σ)×γ->az)(v:γ){n i:Nat}{s:σ}(h:cq f (n-i) i s a=some r)
  (hw:dw env H (b ((i,s),v)) (d ((i,s),v)))
  (Q:∀j s g (B:σ->Option O) (o:Nat×σ->Prop),j<n->(∀A,B A=some r->o (j+1,A))->f j s B a=some r->cw P N own c (tA (B9 b d o) K) (b ((j,s),g)) (d ((j,s),g)))
  (G:∀j s g (o:Nat×σ->Prop),n<=j->a s=some r->cw P N own c (tA (B9 b d o) K) (b ((j,s),g)) (d ((j,s),g))):xg P N own c K env H:=by
 refine⟨λm e H=>∃ (x:Nat×σ) (g:γ),(n-x.1=m/\cq f (n-x.1) x.1 x.2 a=some r)/\e=b (x,g)/\H=d (x,g),⟨n-i,_,_,⟨(i,s),v,⟨rfl,h⟩,rfl,rfl⟩,hw⟩,?_⟩;rintro m e H ⟨⟨j,s⟩,g,⟨M,l⟩,rfl,rfl⟩;have D:∀R:Nat×σ->Prop,(∀x,R x↔n-x.1<m/\cq f (n-x.1) x.1 x.2 a=some r)->∀q H',B9 b d R q H'↔∃z t H2,z<m/\(∃ (x:Nat×σ) (g:γ),(n-x.1=z/\cq f (n-x.1) x.1 x.2 a=some r)/\t=b (x,g)/\H2=d (x,g))/\dw q H' t H2:=by
  intro R C q H';constructor
  ·rintro⟨x,u,p,y⟩;obtain⟨p,w⟩:=(C x).1 p;exact⟨_,_,_,p,⟨x,u,⟨rfl,w⟩,rfl,rfl⟩,y⟩
  ·rintro⟨z,t,H2,p,⟨x,u,⟨S,w⟩,rfl,rfl⟩,y⟩;exact⟨x,u,(C x).2 ⟨by omega,w⟩,y⟩
 simp only at M l;by_cases I:j<n
 ·obtain⟨k,J⟩:∃k,n-j=k+1:=⟨n-j-1,by omega⟩;have L:n-(j+1)=k:=by omega
  rw[J] at l;have:=Q j s g _ (λx=>n-x.1<m/\cq f (n-x.1) x.1 x.2 a=some r) I (λA E=>⟨by simp only;omega,by simp only[L];exact E⟩) l;rw[FX (D _ λx=>Iff.rfl)] at this;exact this
 ·have F:n-j=0:=by omega
  rw[F] at l;have:=G j s g (λx=>n-x.1<m/\cq f (n-x.1) x.1 x.2 a=some r) (by omega) l;rw[FX (D _ λx=>Iff.rfl)] at this;exact this
end
theorem Xe{P:Program}{N:Nat}{own:List Nat}{σ γ O:Type}{c:Code}{K:qP}{env:Env}{H:az}{f:σ->(σ->Option O)->(σ->Option O)->Option O}{m:σ->Option O}{r:O}(i:σ×γ->Env)(j:σ×γ->az)(l:γ){k:Nat}{s:σ}(h:iter f k s m=some r)
  (hw:dw env H (i (s,l)) (j (s,l)))
  (t:∀s g (b:σ->Option O) (R:Env->az->Prop),(∀a d {e H},b a=some r->dw e H (i (a,d)) (j (a,d))->R e H)->f s b m=some r->cw P N own c (tA R K) (i (s,g)) (j (s,g))):xg P N own c K env H :=
 Xc i j l h hw λs g b u p q=>t s g b _ (λa d _ _ n o=>JY a d (p a n) o) q
theorem Xf{P:Program}{N:Nat}{own:List Nat}{σ γ O:Type}{c:Code}{K:qP}{env:Env}{H:az}{f:Nat->σ->(σ->Option O)->(σ->Option O)->Option O}{m:σ->Option O}{r:O}(b:(Nat×σ)×γ->Env)(d:(Nat×σ)×γ->az)(o:γ){n i:Nat}{s:σ}(h:cq f (n-i) i s m=some r)
  (hw:dw env H (b ((i,s),o)) (d ((i,s),o)))
  (z:∀j s g (k:σ->Option O) (R:Env->az->Prop),j<n->(∀a l {e H},k a=some r->dw e H (b ((j+1,a),l)) (d ((j+1,a),l))->R e H)->f j s k m=some r->cw P N own c (tA R K) (b ((j,s),g)) (d ((j,s),g)))
  (w:∀j s g (R:Env->az->Prop),n<=j->m s=some r->cw P N own c (tA R K) (b ((j,s),g)) (d ((j,s),g))):xg P N own c K env H :=
 Xd b d o h hw (λj s g k q p v x=>z j s g k _ p (λa l _ _ t u=>JY (j+1,a) l (v a t) u) x) (λj s g q p y=>w j s g _ p y)
section
variable{P:Program}{env:Env}{H:az}{o:Oper}{W:Env->az->Prop}{k:FuncId}{ps bq:List PV}{b:Bool}
theorem bw.args{f:FuncId}{ps bq:List PV}{Q:RV->Prop}(h:bw P f ps Q)(b:tj bq ps):bw P f bq Q:=⟨h.1,λI w vs a c=>h.2 I w vs a (b.Fo c)⟩
theorem Ca{x:PV}(c:aS P k ps λr=>r=x)(e:lp o (ev env) H=some (k,bq,b))(f:rQ bq ps)(d:b=true->x.scalar=true)
  (a:W (cW env o.dst (.p x)) H):j6 P o W env H:=aX (c.args (uz _ _ f)) e d a
theorem FY{x:PV}(c:aS P k ps λr=>r=x)(e:lp o (ev env) H=some (k,bq,b))(f:rQ bq ps)(d:b=true->x.scalar=true)
  (a:W (cW env o.dst (.p x)) H):Bm P o W env H:=jV (c.args (uz _ _ f)) e d a
end
section
variable{P:Program}{t:TypeId}{kk:IntKind}{n:Int}{H:az}
def Cb(a:Option (Nat×TypeId))(f:TypeId->Option Nat)(n:Int)(mk:Nat->AV)(H:az):Option (Prop×AV×az):=match a with
 |some (len,e)=>(match f e with
  |some sz=>some (0<=n/\n<len,mk (n.toNat * sz),H)
  |none=>none)
 |none=>none
theorem Xg{cs:List PV}{off:Nat} : pM P t (.p (.eF cs off)) (.p (.val (.int kk n))) H=Cb (wQ P t) (bu P) n (λo=>.p (.eF cs (off+o))) H:=by
 unfold pM pK Cb dh;cases wQ P t with
 |none=>rfl
 |some r=>obtain⟨len,e⟩:=r;simp only;cases bu P e<;>rfl
theorem Xh{id off:Nat} : pM P t (.ptr id off) (.p (.val (.int kk n))) H=Cb (wQ P t) (bu P) n (λo=>.ptr id (off+o)) H:=by
 unfold pM pK Cb dh;cases wQ P t with
 |none=>rfl
 |some r=>obtain⟨len,e⟩:=r;simp only;cases bu P e<;>rfl
theorem Xi{len:Nat}{e:TypeId}{f:TypeId->Option Nat}{mk:Nat->AV} : Cb (some (len,e)) f n mk H=(match f e with
  |some sz=>some (0<=n/\n<len,mk (n.toNat * sz),H)
  |none=>none):=rfl
attribute [go_sem] Xg Xh Xi
end
mutual
def oJ:AV->AV->Prop
 | .p a,.p b=>uw a b
 | .agg a,.agg b=>tB a b
 | .dY a,.dY b=>tB a b
 |a,b=>a=b
def tB:List AV->List AV->Prop
 | [],[]=>True
 |a :: r,b :: s=>oJ a b/\tB r s
 |_,_=>False
end
theorem Xj(a b:PV):oJ (.p a) (.p b)=uw a b:=by simp only[oJ]
theorem Xk(i v j u:Nat):oJ (.row i v) (.row j u)=(i=j/\v=u):=by simp only[oJ,AV.row.injEq]
theorem Xl(i v j u:Nat):oJ (.ptr i v) (.ptr j u)=(i=j/\v=u):=by simp only[oJ,AV.ptr.injEq]
theorem Xm(f g:Fn)(a b c d:List AV):oJ (.iT f a b) (.iT g c d)=(f=g/\a=c/\b=d):=by simp only[oJ,AV.iT.injEq]
theorem Xn(i v j u:Nat):oJ (.eY i v) (.eY j u)=(i=j/\v=u):=by simp only[oJ,AV.eY.injEq]
theorem Xo:tB [] []=True:=by simp only[tB]
theorem Xp(a b:AV)(r s:List AV):tB (a :: r) (b :: s)=(oJ a b/\tB r s):=by simp only[tB]
theorem uM:∀ {c d:List AV},tB c d->c.length=d.length/\∀ (j:Nat) a b,c[j]? = some a->d[j]? = some b->oJ a b
 | [],[],_=>⟨rfl,λj a b h=>by simp at h⟩
 |a :: r,b :: s,h=>by
  unfold tB at h;obtain⟨g,i⟩:=uM h.2;refine⟨by simp[g],λj x y e f=>?_⟩;cases j with
  |zero=>simp at e f;subst e f;exact h.1
  |succ j=>exact i j x y (by simpa using e) (by simpa using f)
 | [],_ :: _,h=>by unfold tB at h;exact h.elim
 |_ :: _,[],h=>by unfold tB at h;exact h.elim
theorem Cc{I:Mem}{L:bB}{u:Value}{a:AV}(h:eP I L u a):∀ {b:AV},oJ a b->eP I L u b:=by
 induction h with
 |p u x h =>
  intro b d;unfold oJ at d;split at d
  ·rename_i e;cases e;exact .p _ _ (FU _ _ d _ _ h)
  ·rename_i e;cases e
  ·rename_i e;cases e
  ·subst d;exact .p _ _ h
 |agg us cs hl s B y =>
  intro b d;unfold oJ at d;split at d
  ·rename_i e;cases e
  ·rename_i e;cases e;obtain⟨z,A⟩:=uM d;refine .agg us _ (hl.trans z) (λj u c r t=>?_) B;obtain⟨a,q⟩:∃a,cs[j]? = some a:=by have w:j<us.length:=(List.getElem?_eq_some_iff.1 r).1;exact⟨cs[j]'(by omega),by simp[hl ▸ w]⟩
   exact y j u a r q (A j a c q t)
  ·rename_i e;cases e
  ·subst d;exact .agg us cs hl s B
 |dY us cs hl s y =>
  intro b d;unfold oJ at d;split at d
  ·rename_i e;cases e
  ·rename_i e;cases e
  ·rename_i e;cases e;obtain⟨z,A⟩:=uM d;refine .dY us _ (hl.trans z) (λj u c r t=>?_);obtain⟨a,q⟩:∃a,cs[j]? = some a:=by have w:j<us.length:=(List.getElem?_eq_some_iff.1 r).1;exact⟨cs[j]'(by omega),by simp[hl ▸ w]⟩
   exact y j u a r q (A j a c q t)
  ·subst d;exact .dY us cs hl s
 |row u id f v g sz hl k h l=>intro b d;unfold oJ at d;subst d;exact .row u id f v g sz hl k h l
 |ptr id C off hl=>intro b d;unfold oJ at d;subst d;exact .ptr id C off hl
 |jD u id f v i off g sz hl k h l=>intro b d;unfold oJ at d;subst d;exact .jD u id f v i off g sz hl k h l
 |iT D us vs E cs hl F s K=>intro b d;unfold oJ at d;subst d;exact .iT D us vs E cs hl F s K
 |dead u=>intro b d;unfold oJ at d;subst d;exact .dead u
 |eo id b n hl=>intro b d;unfold oJ at d;subst d;exact .eo _ _ _ hl
 |iV a id f v off n m c g sz hl k H G J h=>intro b d;unfold oJ at d;subst d;exact .iV _ id f v off n _ _ g sz hl k H G J h
 |eY u id f v g sz o dx n hl k h l=>intro b d;unfold oJ at d;subst d;exact .eY u id f v g sz o dx n hl k h l
 |kX u id f v i off g sz o dx n hl k h l=>intro b d;unfold oJ at d;subst d;exact .kX u id f v i off g sz o dx n hl k h l
 |kY u id f v i g sz o dx n hl k h l=>intro b d;unfold oJ at d;subst d;exact .kY u id f v i g sz o dx n hl k h l
 |nR u id f v i j off g sz o dx n hl k h l=>intro b d;unfold oJ at d;subst d;exact .nR u id f v i j off g sz o dx n hl k h l
def qq:List (Nat×AV)->Env
 | []=>gv
 |(d,v) :: r=>cK (qq r) d v
def cg:List (Nat×Chunk)->az
 | []=>cu
 |(d,c) :: r=>bn (cg r) d c
theorem Xq:qq []=gv:=rfl
theorem Xr(d:Nat)(v:AV)(r:List (Nat×AV)):qq ((d,v) :: r)=cK (qq r) d v:=rfl
theorem Xs:cg []=cu:=rfl
theorem Xt(d:Nat)(c:Chunk)(r:List (Nat×Chunk)):cg ((d,c) :: r)=bn (cg r) d c:=rfl
def AU(e:Env):List (Nat×AV)->Prop
 | []=>True
 |(d,v) :: r=>oJ (e d) v/\AU e r
def Aa:Option Chunk->Chunk->Prop
 |some (.box cs),.box a=>tB cs a
 |some c,d=>c=d
 |none,_=>False
def o6(H:az):List (Nat×Chunk)->Prop
 | []=>True
 |(d,c) :: r=>Aa (H d) c/\o6 H r
def AW(G:az):List (Nat×AV)->Prop
 | []=>True
 |(_,v) :: r=>pT G v/\AW G r
def y7(G:az):List (Nat×Chunk)->Prop
 | []=>True
 |(_,.box cs) :: r=>nE G cs/\y7 G r
 |_ :: r=>y7 G r
theorem Xu(e:Env):AU e []=True:=rfl
theorem Xv(e:Env)(d:Nat)(v:AV)(r:List (Nat×AV)):AU e ((d,v) :: r)=(oJ (e d) v/\AU e r):=rfl
theorem Xw(cs a:List AV):Aa (some (.box cs)) (.box a)=tB cs a:=rfl
theorem Xx(v:Nat)(e:TypeId)(sz k:Nat)(f:TypeId)(d:Nat)(es:List (List PV))(i:Nat)(a:TypeId)(h c:Nat)(b:TypeId)(g:Nat)(es':List (List PV)):Aa (some (.deep v e sz k f d es)) (.deep i a h c b g es')=(v=i/\e=a/\sz=h/\k=c/\f=b/\d=g/\es=es'):=by simp only[Aa,Chunk.deep.injEq]
theorem Xy(G:az)(d v:Nat)(e:TypeId)(sz k:Nat)(f:TypeId)(a:Nat)(es:List (List PV))(r:List (Nat×Chunk)):y7 G ((d,.deep v e sz k f a es) :: r)=y7 G r:=rfl
theorem Xz(v:Nat)(e:TypeId)(sz:Nat)(es:List (List PV))(c:Nat)(a:TypeId)(b:Nat)(es':List (List PV)):Aa (some (.row v e sz es)) (.row c a b es')=(v=c/\e=a/\sz=b/\es=es'):=by simp only[Aa,Chunk.row.injEq]
theorem XA(H:az):o6 H []=True:=rfl
theorem XB(H:az)(d:Nat)(c:Chunk)(r:List (Nat×Chunk)):o6 H ((d,c) :: r)=(Aa (H d) c/\o6 H r):=rfl
theorem XC(G:az):AW G []=True:=rfl
theorem XD(G:az)(d:Nat)(v:AV)(r:List (Nat×AV)):AW G ((d,v) :: r)=(pT G v/\AW G r):=rfl
theorem XE(G:az):y7 G []=True:=rfl
theorem XF(G:az)(d:Nat)(cs:List AV)(r:List (Nat×Chunk)):y7 G ((d,.box cs) :: r)=(nE G cs/\y7 G r):=rfl
theorem XG(G:az)(d:Nat)(v:Nat)(e:TypeId)(sz:Nat)(es:List (List PV))(r:List (Nat×Chunk)):y7 G ((d,.row v e sz es) :: r)=y7 G r:=rfl
theorem XH(G:az)(x:PV):pT G (.p x)=True:=by simp only[pT]
theorem JZ(G:az)(i v:Nat):pT G (.row i v)=(G i≠none):=by simp only[pT]
theorem J1(G:az)(i v:Nat):pT G (.ptr i v)=(G i≠none):=by simp only[pT]
theorem J2(G:az)(i v:Nat):pT G (.eY i v)=(G i≠none):=by simp only[pT]
theorem XI(G:az)(f:Fn)(a cs:List AV):pT G (.iT f a cs)=(nE G a/\nE G cs):=by simp only[pT]
theorem XJ(G:az):nE G []=True:=by simp only[nE]
theorem XK(G:az)(a:AV)(r:List AV):nE G (a :: r)=(pT G a/\nE G r):=by simp only[nE]
theorem XL(H':az):mH cu H'=True:=eq_true (IK H')
theorem XM{H H':az}{i:Nat}{c:Chunk}(a:i<1000000):mH (bn H i c) H'=mH H H':=by refine propext ⟨λh j b d=>h j b ?_,IL a⟩;unfold bn;rw[if_neg (by omega)];exact d
attribute [go_sem] Xn Xx Xy J2 Xj Xk Xl Xm Xo Xp Xq Xr Xs Xt Xu Xv Xw Xz XA XB XC XD XE XF XG XH JZ J1 XI XJ XK XL XM
theorem J3{e:Env} : ∀ {l:List (Nat×AV)},AU e l->∀t,qq l t = .dead\/oJ (e t) (qq l t)
 | [],_,t=>.inl rfl
 |(d,v) :: r,h,t=>by
  unfold qq cK;split
  ·rename_i a;subst a;exact .inr h.1
  ·exact J3 h.2 t
theorem Cd{H:az} : ∀ {l:List (Nat×Chunk)},o6 H l->∀i a,cg l i=some a->∃c,H i=some c/\Aa (some c) a
 | [],_,i,a,h=>by cases h
 |(d,v) :: r,h,i,a,b=>by
  unfold cg bn at b;split at b
  ·rename_i g;subst g;simp only[cG] at b;subst b;have e:=h.1;cases f:H i with
   |none=>rw[f] at e;exact e.elim
   |some c=>rw[f] at e;exact⟨c,rfl,e⟩
  ·exact Cd h.2 i a b
theorem J4{G:az} : ∀ {l:List (Nat×AV)},AW G l->Bj (qq l) G
 | [],_,t=>trivial
 |(d,v) :: r,h,t=>by
  unfold qq cK;split
  ·exact h.1
  ·exact J4 h.2 t
theorem FZ{G:az} : ∀ {l:List (Nat×Chunk)},y7 G l->pN (cg l) G
 | [],_,i,cs,h=>by cases h
 |(d,c) :: r,h,i,cs,a=>by
  have b:y7 G r:=by
   cases c with
   |box cs=>exact h.2
   |row=>exact h
   |shut=>exact h
   |tail=>exact h
   |deep=>exact h
   |blk=>exact h
  unfold cg bn at a;split at a
  ·simp only[cG] at a;subst a;exact h.1
  ·exact FZ b i cs a
theorem yL{e:Env}{H:az}{l:List (Nat×AV)}{hl:List (Nat×Chunk)}(h:AU e l/\o6 H hl/\AW (cg hl) l/\y7 (cg hl) hl/\mH H (cg hl)):dw e H (qq l) (cg hl):=λC I L tm w d=>by
 obtain⟨T,U,V,W,X⟩:=h;have w0:dw e H e H:=dw.refl _ _;refine⟨I,L.to (cg hl),?_⟩;exact
 {below:=d.below
  mem:=d.mem
  lH:=d.lH
  mF:=d.mF
  frame:=d.frame
  loc:=λi=>by
   cases B:C.L0 i with
   |none=>trivial
   |some l0 =>
    have m:=d.loc i;rw[B] at m;have Z:L i≠none:=by
     cases l0 with
     |box b=>intro e;rw[e] at m;cases m
     |row v z sz=>obtain⟨_,_,m,_⟩:=m;intro e;rw[e] at m;cases m
     |deep v z sz O dx n=>obtain⟨_,_,_,_,m,_⟩:=m;intro e;rw[e] at m;cases m
    have Y:H i≠none:=by
     cases K:L i with
     |none=>exact absurd K Z
     |some l=>obtain⟨c,r⟩:=d.dom i l K;rw[r];simp
    have e:=mw (L:=L) (X i (C.Ak i l0 B) Y);rw[e];exact m
  jQ:=λid l b hl D=>d.jQ id l b (to_eq hl).1 D
  size:=d.size
  env:=λt=>by
   rcases J3 T t with h|h
   ·rw[h];exact .dead _
   ·exact (Cc (d.env t) h).to (J4 V t)
  dom:=λid l hl=>(to_eq hl).2
  chunk:=λid f E=>by
   obtain⟨c,aa,x⟩:=Cd U id f E;have r:=d.chunk id c aa;have A:L.to (cg hl) id=L id:=mw (by rw[E];simp);cases c with
   |box cs =>
    cases f with
    |box G =>
     have s:tB cs G:=x;obtain⟨q1,q2⟩:=uM s;obtain⟨b,arr,e,p,q,J,Q,R,S⟩:=r;refine⟨b,arr,e,A.trans p,q,J.trans q1,λj u c N r=>?_,R,S⟩;obtain⟨a,M⟩:∃a,cs[j]? = some a:=by have F:j<arr.size:=(Array.getElem?_eq_some_iff.1 N).1;exact⟨cs[j]'(by omega),by simp[J ▸ F]⟩
     exact (Cc (Q j u a N M) (q2 j a c M r)).to (oF (FZ W id G E) j c r)
    |row=>cases x
    |shut=>cases x
    |tail=>cases x
    |deep=>cases x
    |blk=>cases x
   |row y e sz es =>
    have s:Chunk.row y e sz es=f:=by cases f<;>exact x
    subst s;obtain⟨z,us,p,q⟩:=r;exact⟨z,us,A.trans p,q⟩
   |shut y es =>
    have s:Chunk.shut y es=f:=by cases f<;>exact x
    subst s;obtain⟨z,sz,p,q⟩:=r;exact⟨z,sz,A.trans p,q⟩
   |blk b o =>
    have s:Chunk.blk b o=f:=by cases f<;>exact x
    subst s;obtain⟨p,q⟩:=r;exact⟨A.trans p,q⟩
   |tail y e sz es =>
    have s:Chunk.tail y e sz es=f:=by cases f<;>exact x
    subst s;obtain⟨g,o,cap,arr,p,q⟩:=r;exact⟨g,o,cap,arr,A.trans p,q⟩
   |deep y e sz k P O es =>
    have s:Chunk.deep y e sz k P O es=f:=by cases f<;>exact x
    subst s;obtain⟨z,us,dx,p,q⟩:=r;exact⟨z,us,dx,A.trans p,q⟩
  gh:=λid l b hl D=>d.gh id l b (to_eq hl).1 D
  apart:=λi j li lj b B F sq vE=>d.apart i j li lj b (to_eq B).1 (to_eq F).1 sq vE }
theorem XN{own:List Nat}{env:Env}{d:Option Tmp}{t:TypeId}{pos:String}{b:Array Edge}{g:Option (Nat×Bool)}(a:Nat)(s:Operand)(t1 t2:TypeId) :
  Bn own ⟨d,.call ⟨.builtin .append,#[.tmp a,s],#[t1,t2]⟩,t,pos,b,g⟩ env=((∃v,env a = .row (qo own a) v)/\∃x,ev env s = .p x):=rfl
theorem XO(i j v:Nat):(∃u,AV.row i v = .row j u)=(i=j):=by
 apply propext;constructor
 ·rintro⟨u,h⟩;cases h;rfl
 ·rintro rfl;exact⟨v,rfl⟩
attribute [go_sem] XN XO exists_eq'
section
variable{P:Program}{env:Env}{H:az}{o:Oper}{W:Env->az->Prop}{k:FuncId}{ps bq:List PV}{b:Bool}
theorem XP(id:Nat){r:RV}(c:bw P k ps λx=>x=r)(e:lp o (ev env) H=some (k,bq,b))(g:rQ bq ps)(d:b=true->r.flat=true)
  (f:oo H id ((dz id r).2-id)) (a:W (cW env o.dst (dz id r).1) (iO id H r)):j6 P o W env H:=w5 id (c.args (uz _ _ g)) e d f a
theorem XQ(ids:List Nat){x:PV}(c:aS P k ps λr=>r=x)(e:lp o (ev env) (eH ids H)=some (k,bq,b))(f:rQ bq ps)(d:b=true->x.scalar=true)
  (a:W (cW env o.dst (.p x)) (eH ids H)):j6 P o W env H:=Tz ids (c.args (uz _ _ f)) e d a
end
def gb{α:Type}(p:Prop) [Decidable p](x:α):Option α:=if p then some x else none
theorem sg{α:Type}{p:Prop} [Decidable p]{x r:α}(h:gb p x=some r):p/\x=r:=by
 unfold gb at h;split at h
 ·exact⟨by assumption,by simpa using h⟩
 ·cases h
variable{P:Program}{I:Mem}{L:bB}
def Ctx.Ab(w:World)(I:Mem)(n B:Nat)(a:bB)(c:B<=w.heap.size)(d:∀i l,a i=some l->1000000<=i):Ctx:=⟨w,I,n,B,λb=>∃i l,a i=some l/\l.has b,a,c,d⟩
def Av(P:Program)(f:FuncId)(G:az)(fe:List AV)(Q:AV->az->Prop):Prop :=
 gP P f=true/\∀ (B:Nat) (I:Mem) (b:bB) (w:World) (vs:List Value) (c:B<=w.heap.size) (d:∀i l,b i=some l->1000000<=i),iG (Ctx.Ab w I 0 B b c d) gv G I b #[] w->pJ I b vs fe ->
  Calls P f vs.toArray w λx w'=>∃u a H' I' L',x = .returned u/\Q a H'/\eP I' L' u a/\iG (Ctx.Ab w I 0 B b c d) gv H' I' L' #[] w'
theorem Av.mono{f:FuncId}{G:az}{fe:List AV}{Q b:AV->az->Prop}(h:Av P f G fe Q)(i:∀a c,Q a c->b a c):Av P f G fe b:=⟨h.1,λB I d w vs e g j k=>(h.2 B I d w vs e g j k).mono λ_ _ ⟨u,a,H',I',L',l,m,n⟩=>⟨u,a,H',I',L',l,i _ _ m,n⟩⟩
def J5(P:Program)(b:List ResultVar)(Q:AV->az->Prop):qP:=λe env H=>match e with
 | .normal | .ret=>(match pS P env H b with
  |some a=>Q a H
  |none=>False)
 |_=>False
theorem F0{f:FuncId}{b:Func}{c:Code}{G:az}{fe:List AV}{Q:AV->az->Prop}(own:List Nat)(D:P.follows .mixedOrders=true)(A:P.funcs[f]? = some b)(v:b.body=some c)
  (y:gP P f=true) (E:fe.length<=b.ntmps) (h:cw P b.ntmps own c (J5 P b.results.toList Q) (Ao fe) G):Av P f G fe Q:=by
 refine⟨y,λB I i w vs n o e k=>calls_of_wp A v ?_⟩;let C:Ctx:=Ctx.Ab w I b.ntmps B i n o;have L:vs.length<=b.ntmps:=by rw[k.1];exact E
 have H:iG C (Ao fe) G I i (vs.toArray++Array.replicate (b.ntmps-vs.toArray.size) undef) w :=
  {below:=e.below
   mem:=e.mem
   lH:=e.lH
   mF:=e.mF
   frame:=e.frame
   loc:=e.loc
   jQ:=e.jQ
   size:=by simp only[Array.size_append,List.size_toArray,Array.size_replicate];show vs.length+(b.ntmps-vs.length)=b.ntmps;omega
   env:=λt=>by
    unfold Ao;split
    ·rename_i a p;have j:t<vs.length:=by have:=(List.getElem?_eq_some_iff.1 p).1;rw[k.1];exact this
     have K:(vs.toArray++Array.replicate (b.ntmps-vs.toArray.size) undef).getD t undef=vs[t]:=by simp only[Array.getD_eq_getD_getElem?,Array.getElem?_append,List.size_toArray,if_pos j,List.getElem?_toArray,List.getElem?_eq_getElem j,Option.getD_some]
     rw[K];exact k.2 t _ a (by simp[j]) p
    ·exact .dead _
   dom:=e.dom
   chunk:=e.chunk
   gh:=e.gh
   apart:=e.apart }
 refine wp_mono (pR D c _ C rfl _ _ I i _ w h H) ?_;rintro x a w' ⟨z,r,H',I',L',g,d⟩;have m:(match pS P r H' b.results.toList with
  |some a=>Q a H'
  |none=>False)->bodyPost P b (λx w'=>∃u a H' I' L',x = .returned u/\Q a H'/\eP I' L' u a/\iG (Ctx.Ab w I 0 B i n o) gv H' I' L' #[] w') .normal a w':=by
  intro g;split at g
  ·rename_i q s;obtain⟨u,F,J⟩:=vX d s;refine⟨z,u,F,u,q,H',I',L',rfl,g,J,?_⟩;exact
   {below:=d.below
    mem:=d.mem
    lH:=d.lH
    mF:=d.mF
    frame:=d.frame
    loc:=d.loc
    jQ:=d.jQ
    size:=rfl
    env:=λt=>.dead _
    dom:=d.dom
    chunk:=d.chunk
    gh:=d.gh
    apart:=d.apart }
  ·exact g.elim
 cases x with
 |normal=>exact m g
 |ret=>exact m g
 |exit id=>exact g.elim
 |goto l=>exact g.elim
 |panic c=>exact g.elim
 |outgrown=>exact g.elim
theorem J6{w:World}{B:Nat}{hl:List (Nat×Chunk)}{id:Nat}{c d:Chunk}(m:qL I L w B id c)(l:Aa (some c) d)(v:cg hl id=some d)(D:y7 (cg hl) hl):qL I (L.to (cg hl)) w B id d:=by
 have p:L.to (cg hl) id=L id:=mw (by rw[v];simp);cases c with
 |box cs =>
  cases d with
  |box r =>
   have i:tB cs r:=l;obtain⟨F,G⟩:=uM i;obtain⟨b,arr,e,f,h,s,z,A,C⟩:=m;refine⟨b,arr,e,p.trans f,h,s.trans F,λj u c x m=>?_,A,C⟩;obtain⟨a,t⟩:∃a,cs[j]? = some a:=by have E:j<arr.size:=(Array.getElem?_eq_some_iff.1 x).1;exact⟨cs[j]'(by omega),by simp[s ▸ E]⟩
   exact (Cc (z j u a x t) (G j a c t m)).to (oF (FZ D id r v) j c m)
  |row=>cases l
  |shut=>cases l
  |tail=>cases l
  |deep=>cases l
  |blk=>cases l
 |row n e sz es =>
  have i:Chunk.row n e sz es=d:=by cases d<;>exact l
  subst i;obtain⟨q,us,f,h⟩:=m;exact⟨q,us,p.trans f,h⟩
 |shut n es =>
  have i:Chunk.shut n es=d:=by cases d<;>exact l
  subst i;obtain⟨q,sz,f,h⟩:=m;exact⟨q,sz,p.trans f,h⟩
 |blk b o =>
  have i:Chunk.blk b o=d:=by cases d<;>exact l
  subst i;obtain⟨f,h⟩:=m;exact⟨p.trans f,h⟩
 |tail n e sz es =>
  have i:Chunk.tail n e sz es=d:=by cases d<;>exact l
  subst i;obtain⟨g,o,cap,arr,f,h⟩:=m;exact⟨g,o,cap,arr,p.trans f,h⟩
 |deep n e sz k y H es =>
  have i:Chunk.deep n e sz k y H es=d:=by cases d<;>exact l
  subst i;obtain⟨q,us,dx,f,h⟩:=m;exact⟨q,us,dx,p.trans f,h⟩
def mC(l:List (Nat×Chunk))(H:az):az:=match l with
 | []=>H
 |(d,c) :: r=>bn (mC r H) d c
theorem XR(H:az):mC [] H=H:=rfl
theorem XS(d:Nat)(c:Chunk)(r:List (Nat×Chunk))(H:az):mC ((d,c) :: r) H=bn (mC r H) d c:=rfl
theorem F1(H:az)(i:Nat):∀l:List (Nat×Chunk),mC l H i=match cg l i with
  |some c=>some c
  |none=>H i
 | []=>rfl
 |(d,c) :: r=>by
  unfold mC cg bn;by_cases a:i=d
  ·simp[a]
  ·simp only[if_neg a];exact F1 H i r
def Ac:List (Nat×Chunk)->Prop
 | []=>True
 |(d,_) :: r=>1000000<=d/\Ac r
def AX(G:az):List (Nat×Chunk)->Prop
 | []=>True
 |(d,_) :: r=>G d≠none/\AX G r
def newL(G H:az):List (Nat×Chunk)->Prop
 | []=>True
 |(d,_) :: r=>(G d≠none\/H d=none)/\newL G H r
theorem XT:Ac []=True:=rfl
theorem XU(d:Nat)(c:Chunk)(r:List (Nat×Chunk)):Ac ((d,c) :: r)=(1000000<=d/\Ac r):=rfl
theorem XV(G:az):AX G []=True:=rfl
theorem XW(G:az)(d:Nat)(c:Chunk)(r:List (Nat×Chunk)):AX G ((d,c) :: r)=(G d≠none/\AX G r):=rfl
theorem XX(G H:az):newL G H []=True:=rfl
theorem XY(G H:az)(d:Nat)(c:Chunk)(r:List (Nat×Chunk)):newL G H ((d,c) :: r)=((G d≠none\/H d=none)/\newL G H r):=rfl
theorem J7:∀ {l:List (Nat×Chunk)},Ac l->∀i,cg l i≠none->1000000<=i
 | [],_,i,h=>absurd rfl h
 |(d,c) :: r,a,i,h=>by
  unfold cg bn at h;split at h
  ·rename_i e;rw[e];exact a.1
  ·exact J7 a.2 i h
theorem F2{G:az} : ∀ {l:List (Nat×Chunk)},AX G l->∀i,cg l i≠none->G i≠none
 | [],_,i,h=>absurd rfl h
 |(d,c) :: r,a,i,h=>by
  unfold cg bn at h;split at h
  ·rename_i e;rw[e];exact a.1
  ·exact F2 a.2 i h
theorem J8{G H:az} : ∀ {l:List (Nat×Chunk)},newL G H l->∀i,cg l i≠none->G i≠none\/H i=none
 | [],_,i,h=>absurd rfl h
 |(d,c) :: r,a,i,h=>by
  unfold cg bn at h;split at h
  ·rename_i e;rw[e];exact a.1
  ·exact J8 a.2 i h
section
variable{C:Ctx}{env:Env}{H H':az}{tm:Array Value}{w w':World}{I':Mem}{L':bB}{l0 l1:List (Nat×Chunk)}
theorem F3(b:Ac l0):∀i l,L.to (cg l0) i=some l->1000000<=i:=λi l hl=>J7 b i (by
 obtain⟨c,a⟩:=(to_eq hl).2;rw[a];simp)
theorem iG.Ab(h:iG C env H I L tm w)(g:o6 H l0)(d:y7 (cg l0) l0)(m:Ac l0):iG (Ctx.Ab w I 0 C.B (L.to (cg l0)) h.kf (F3 m)) gv (cg l0) I (L.to (cg l0)) #[] w :=
 {below:=Below.refl _ _
  mem:=h.mem
  lH:=Mem.ep I
  mF:=λ_ _ _ _=>rfl
  frame:=λ_ _ _=>rfl
  loc:=dQ.refl _
  jQ:=λid l b hl a=>.inr ⟨id,l,hl,a⟩
  size:=rfl
  env:=λ_=>.dead _
  dom:=λid l hl=>(to_eq hl).2
  chunk:=λid f e=>by obtain⟨c,k,s⟩:=Cd g id f e;exact J6 (h.chunk id c k) s e d
  gh:=λid l b hl a=>h.gh id l b (to_eq hl).1 a
  apart:=λi j o p b d n q r=>h.apart i j o p b (to_eq d).1 (to_eq n).1 q r }
def yM(l1:List (Nat×Chunk))(L' L:bB):bB:=λi=>match cg l1 i with
 |some _=>L' i
 |none=>L i
theorem vh{i:Nat}(h:cg l1 i≠none):yM l1 L' L i=L' i:=by
 unfold yM;cases a:cg l1 i with
 |none=>exact absurd a h
 |some c=>rfl
theorem qB{i:Nat}(h:cg l1 i=none):yM l1 L' L i=L i:=by unfold yM;rw[h]
theorem J9:dQ (L'.to (cg l1)) (yM l1 L' L):=λi=>by
 cases hl:L'.to (cg l1) i with
 |none=>trivial
 |some l =>
  obtain⟨e,c,f⟩:=to_eq hl;have a:yM l1 L' L i=some l:=by rw[vh (by rw[f];simp)];exact e
  cases l with
  |box b=>exact a
  |row v d sz=>exact⟨v,d,a,Nat.le_refl _,λ_=>rfl⟩
  |deep v d sz g dx n=>exact⟨v,d,dx,n,a,Nat.le_refl _,λ_=>⟨rfl,rfl,rfl⟩⟩
theorem iG.XZ(h:iG C env H I L tm w)(R:o6 H l0)(X:Ac l0)
  (n:iG (Ctx.Ab w I 0 C.B (L.to (cg l0)) h.kf (F3 X)) gv H' I' L' #[] w')
  (S:o6 H' l1) (a:y7 (cg l1) l1) (N:AX (cg l1) l0) (aa:newL (cg l0) H l1) :
  iG C env (mC l1 H) I' (yM l1 L' L) tm w'/\dQ (L'.to (cg l1)) (yM l1 L' L):=by
 have ad:∀i,cg l0 i≠none->H i≠none:=λi a=>by
  cases f:cg l0 i with
  |none=>exact absurd f a
  |some c=>obtain⟨G,h2,_⟩:=Cd R i c f;rw[h2];simp
 have Z:∀i,cg l1 i≠none->H i≠none->cg l0 i≠none:=λi a V=>(J8 aa i a).elim id λe=>absurd e V
 have W:∀i l,L i=some l->H i≠none:=λi l hl=>by obtain⟨c,f⟩:=h.dom i l hl;rw[f];simp
 have E:dQ L (yM l1 L' L):=λi=>by
  by_cases a:cg l1 i=none
  ·rw[qB a];exact dQ.refl L i
  ·rw[vh a];cases J:L i with
   |none=>trivial
   |some l=>have h2:=Z i a (W i l J);have m:L.to (cg l0) i=L i:=mw h2;have p:=n.loc i;simp only[Ctx.Ab,m,J] at p;exact p
 have z:∀b,(∃i l,L.to (cg l0) i=some l/\l.has b)->∃i l,cg l0 i≠none/\L i=some l/\l.has b:=λb ⟨i,l,hl,d⟩=>by obtain⟨e,c,f⟩:=to_eq hl;exact⟨i,l,by rw[f];simp,e,d⟩
 have A:∀b,b<w.heap.size->(¬ ∃i l,L.to (cg l0) i=some l/\l.has b)->w'.heap[b]? = w.heap[b]?/\∀o,I' b o=I b o:=λb d y=>⟨n.frame b d y,λo=>n.mF b d y o⟩
 have M:∀b,b<C.w0.heap.size->¬ C.A8 b->¬ ∃i l,L.to (cg l0) i=some l/\l.has b:=λb d y F=>by
  obtain⟨i,l,_,hl,Y⟩:=z b F;rcases h.jQ i l b hl Y with h2|h2
  ·omega
  ·exact y h2
 have K:∀i l b,yM l1 L' L i=some l->cg l1 i≠none->l.has b->w.heap.size<=b\/∃i l,cg l0 i≠none/\L i=some l/\l.has b:=λi l b hl a d=>by rw[vh a] at hl;exact (n.jQ i l b hl d).imp id (z b)
 refine⟨?_,J9⟩;exact
 {below:=h.below.trans n.below
  mem:=n.mem
  lH:=Mem.mD h.lH n.lH
  mF:=λb d x o=>by rw[(A b (Nat.lt_of_lt_of_le d h.below.size) (M b d x)).2 o];exact h.mF b d x o
  frame:=λb d x=>((A b (Nat.lt_of_lt_of_le d h.below.size) (M b d x)).1).trans (h.frame b d x)
  loc:=h.loc.trans E
  jQ:=λi l b hl d=>by
   by_cases a:cg l1 i=none
   ·rw[qB a] at hl;exact h.jQ i l b hl d
   ·rcases K i l b hl a d with h2|⟨j,g,_,m,p⟩
    ·exact .inl (Nat.le_trans h.below.size h2)
    ·exact h.jQ j g b m p
  size:=h.size
  env:=λt=>(h.env t).mono n.lH E
  dom:=λi l hl=>by
   rw[F1];cases f:cg l1 i with
   |some c=>exact⟨c,rfl⟩
   |none=>rw[qB f] at hl;exact h.dom i l hl
  chunk:=λi c f=>by
   rw[F1] at f;cases r:cg l1 i with
   |some O=>rw[r] at f;simp only[cG] at f;subst f;obtain⟨G,P,Q⟩:=Cd S i O r;exact (J6 (n.chunk i G P) Q r a).keep (Mem.ep I') J9 (by rw[vh (by rw[r];simp),mw (by rw[r];simp)]) λ_ _ _ _=>⟨rfl,λ_=>rfl⟩
   |none =>
    rw[r] at f;refine (h.chunk i c f).keep n.lH E (qB r) λl b hl d=>A b (h.gh i l b hl d).2 λF=>?_
    obtain⟨j,g,h2,m,p⟩:=z b F;have:=h.apart i j l g b hl m d p;subst this;exact F2 N i h2 r
  gh:=λi l b hl d=>by
   by_cases a:cg l1 i=none
   ·rw[qB a] at hl;exact⟨(h.gh i l b hl d).1,Nat.lt_of_lt_of_le (h.gh i l b hl d).2 n.below.size⟩
   ·rw[vh a] at hl;exact n.gh i l b hl d
  apart:=λi j q g b a s v u=>by
   have one:∀i j q g,yM l1 L' L i=some q->yM l1 L' L j=some g->q.has b->g.has b->cg l1 i≠none->cg l1 j=none->False:=λi j q g a s v u h2 m=>by
    have D:=s;rw[qB m] at D;rcases K i q b a h2 v with p|⟨k,lk,p,T,U⟩
    ·have:=(h.gh j g b D u).2;omega
    ·have:=h.apart k j lk g b T D U u;subst this;exact F2 N k p m
   by_cases h2:cg l1 i=none<;>by_cases m:cg l1 j=none
   ·rw[qB h2] at a;rw[qB m] at s;exact h.apart i j q g b a s v u
   ·exact (one j i g q s a u v m h2).elim
   ·exact (one i j q g a s v u h2 m).elim
   ·rw[vh h2] at a;rw[vh m] at s;exact n.apart i j q g b a s v u }
end
def isIn(c:Option Chunk)(a:AV)(r:Option AV):Option AV:=match c with
 |some _=>some a
 |none=>r
def Dn(r:Option (PV×Bool)):Option AV:=match r with
 |some (x,false)=>some (.p x)
 |_=>none
def Bs(G H:az):AV->Option AV
 | .ptr id off=>isIn (G id) (.ptr id off) none
 | .row id v=>isIn (G id) (.row id v) (Dn (ia H (.row id v)))
 | .eY id v=>isIn (G id) (.eY id v) none
 |a=>Dn (ia H a)
def Aw(G H:az):List AV->Option (List AV)
 | []=>some []
 |a :: r=>match Bs G H a,Aw G H r with
  |some x,some xs=>some (x :: xs)
  |_,_=>none
theorem X0(c:Chunk)(a:AV)(r:Option AV):isIn (some c) a r=some a:=rfl
theorem X1(G H:az)(id off:Nat):Bs G H (.ptr id off)=isIn (G id) (.ptr id off) none:=rfl
theorem X2(G H:az)(x:PV):Bs G H (.p x)=some (.p x):=rfl
theorem X3(G H:az):Aw G H []=some []:=rfl
theorem X4(G H:az)(a:AV)(r:List AV):Aw G H (a :: r)=match Bs G H a,Aw G H r with
  |some x,some xs=>some (x :: xs)
  |_,_=>none:=rfl
theorem X5{C:Ctx}{H G:az}{env:Env}{tm:Array Value}{w:World}(f:iG C env H I L tm w){u:Value}{a x:AV}(b:eP I L u a)(h:Bs G H a=some x):eP I (L.to G) u x:=by
 have e:∀a,eP I L u a->Dn (ia H a)=some x->eP I (L.to G) u x:=λa b h=>by
  unfold Dn at h;split at h
  ·rename_i y i;simp only[cG] at h;subst h;exact .p _ _ ((pQ f (uH H) (mG f.mem) ((sr L w).g H) u a y false b i).2 rfl)
  ·cases h
 unfold Bs at h;split at h
 ·rename_i id off;unfold isIn at h;split at h
  ·rename_i c d;simp only[cG] at h;subst h;exact b.to (by rw[J1,d];simp)
  ·cases h
 ·rename_i id v;unfold isIn at h;split at h
  ·rename_i c d;simp only[cG] at h;subst h;exact b.to (by rw[JZ,d];simp)
  ·exact e _ b h
 ·rename_i id v;unfold isIn at h;split at h
  ·rename_i c d;simp only[cG] at h;subst h;exact b.to (by rw[J2,d];simp)
  ·cases h
 ·exact e _ b h
theorem Ka{C:Ctx}{H G:az}{env:Env}{tm:Array Value}{w:World}(f:iG C env H I L tm w):∀ {us:List Value} {fe xs:List AV},pJ I L us fe->Aw G H fe=some xs->pJ I (L.to G) us xs
 |us,[],xs,b,h=>by simp only[Aw,cG] at h;subst h;exact⟨by simpa using b.1,by simp⟩
 | [],a :: r,xs,b,h=>by have:=b.1;simp at this
 |u :: us,a :: r,xs,b,h=>by
  unfold Aw at h;split at h
  ·rename_i x m g i;simp only[cG] at h;subst h;have k:=Ka f (us:=us) (fe:=r) ⟨by have:=b.1;simpa using this,λj u c e d=>b.2 (j+1) u c e d⟩ i;refine⟨by simp[k.1],λj l c e d=>?_⟩;cases j with
   |zero=>simp at e d;subst e d;exact X5 f (b.2 0 u a rfl rfl) g
   |succ j=>exact k.2 j l c (by simpa using e) (by simpa using d)
  ·cases h
theorem Dp{o:Oper}{W:Env->az->Prop}{env:Env}{H:az}{k:FuncId}{fe xs i:List AV}{A:AV}{l0 l1:List (Nat×Chunk)}
  (c:Av P k (cg l0) i λa H=>oJ a A/\o6 H l1) (b:dL o (ev env)=some (k,fe)) (t:Aw (cg l0) H fe=some xs) (v:tB xs i)
  (g:Ac l0) (f:o6 H l0/\y7 (cg l0) l0) (l:y7 (cg l1) l1/\pT (cg l1) A) (r:AX (cg l1) l0) (p:newL (cg l0) H l1)
  (m:W (cW env o.dst A) (mC l1 H)):y3 P o W env H:=λC I L tm w σ e y=>by
 obtain⟨us,q,s⟩:=qN b c.1 y w;refine⟨k,_,q,?_⟩;have h:=Ka e s t;obtain⟨K,M⟩:=uM v;have N:pJ I (L.to (cg l0)) us i:=⟨h.1.trans K,λj u c d n=>by
  obtain⟨a,b⟩:∃a,xs[j]? = some a:=by have d:j<us.length:=(List.getElem?_eq_some_iff.1 d).1;have hl:=h.1;exact⟨xs[j]'(by omega),by simp[hl ▸ d]⟩
  exact Cc (h.2 j u a d b) (M j a c b n)⟩
 refine (c.2 C.B I _ w us e.kf (F3 g) (e.Ab f.1 f.2 g) N).mono λx w' ⟨u,a,H',I',L',z,⟨D,E⟩,F,G⟩=>?_
 obtain⟨n1,J⟩:=e.XZ f.1 g G E l.1 r p;exact⟨u,I',_,A,_,z,m,((Cc F D).to l.2).mono (Mem.ep _) J,n1⟩
end Go.cv
namespace Go.cv
open Go.RowKit
variable{P:Program}{I:Mem}{L:bB}
def Mem.add(I:Mem)(b lo:Nat)(us:List Value):Mem:=λc o=>if c=b/\lo<=o/\o<lo+us.length then us[o-lo]? else I c o
theorem Vi{H' H:az}{id v:Nat}{e:TypeId}{sz:Nat}{es:List (List PV)}(h:pN H' H):pN (bn H' id (.tail v e sz es)) H:=λi b a=>by
 unfold bn at a;split at a
 ·cases a
 ·exact h i b a
end Go.cv
namespace Go.cv
open Go.RowKit
variable{P:Program}{I:Mem}{L:bB}
def sw(s t i:Nat):Nat:=if i=s then t else if i=t then s else i
theorem qC(s t i:Nat):sw s t (sw s t i)=i:=by
 unfold sw;split
 ·rename_i h;subst h;split
  ·assumption
  ·rw[if_pos rfl]
 ·split
  ·rename_i h;subst h;rw[if_pos rfl]
  ·rfl
mutual
def jR(s t:Nat):AV->AV
 | .row id v=>.row (sw s t id) v
 | .ptr id o=>.ptr (sw s t id) o
 | .jD id v i o=>.jD (sw s t id) v i o
 | .agg cs=>.agg (pE s t cs)
 | .dY cs=>.dY (pE s t cs)
 | .iT f a b=>.iT f (pE s t a) (pE s t b)
 | .eY id v=>.eY (sw s t id) v
 | .kX id v i o=>.kX (sw s t id) v i o
 | .kY id v i=>.kY (sw s t id) v i
 | .nR id v i j o=>.nR (sw s t id) v i j o
 | .eo id n=>.eo (sw s t id) n
 | .iV id v o n m z=>.iV (sw s t id) v o n m z
 |x=>x
def pE(s t:Nat):List AV->List AV
 | []=>[]
 |a :: r=>jR s t a :: pE s t r
end
theorem uN{s t:Nat} : ∀ {cs:List AV} {j:Nat} {c:AV},(pE s t cs)[j]? = some c->∃d,cs[j]? = some d/\c=jR s t d
 | [],j,c,h=>by simp[pE] at h
 |a :: r,0,c,h=>by unfold pE at h;simp only[List.getElem?_cons_zero,cG] at h;exact⟨a,rfl,h.symm⟩
 |a :: r,j+1,c,h=>by unfold pE at h;exact uN (cs:=r) (by simpa using h)
theorem oZ{s t:Nat} : ∀cs:List AV,(pE s t cs).length=cs.length
 | []=>rfl
 |a :: r=>by unfold pE;simp[oZ r]
def Bt(s t:Nat):Chunk->Chunk
 | .box cs=>.box (pE s t cs)
 |c=>c
def Ce(s t:Nat):Option Chunk->Option Chunk
 |some c=>some (Bt s t c)
 |none=>none
def vH(s t:Nat)(env:Env):Env:=λi=>jR s t (env i)
def Ad(s t:Nat)(H:az):az:=λi=>Ce s t (H (sw s t i))
def p4(s t:Nat)(L:bB):bB:=λi=>L (sw s t i)
theorem eP.Ae{s t:Nat}{u:Value}{a:AV}(h:eP I L u a):eP I (p4 s t L) u (jR s t a):=by
 induction h with
 |p u x h=>unfold jR;exact .p u x h
 |row u id e v f sz hl g h k=>unfold jR;exact .row u _ e v f sz (by unfold p4;rw[qC];exact hl) g h k
 |ptr id b off hl=>unfold jR;exact .ptr _ b off (by unfold p4;rw[qC];exact hl)
 |jD u id e v i off f sz hl g h k=>unfold jR;exact .jD u _ e v i off f sz (by unfold p4;rw[qC];exact hl) g h k
 |agg us cs hl _ C w=>unfold jR;refine .agg us _ (by rw[oZ];exact hl) (λj u c q l=>?_) C;obtain⟨d,o,rfl⟩:=uN l;exact w j u d q o
 |dY us cs hl _ w=>unfold jR;refine .dY us _ (by rw[oZ];exact hl) (λj u c q l=>?_);obtain⟨d,o,rfl⟩:=uN l;exact w j u d q o
 |iT y us vs F cs hl z _ _ w E =>
  unfold jR;refine .iT y us vs _ _ (by rw[oZ];exact hl) (by rw[oZ];exact z) (λj u c q l=>?_) (λj u c q l=>?_)
  ·obtain⟨d,o,rfl⟩:=uN l;exact w j u d q o
  ·obtain⟨d,o,rfl⟩:=uN l;exact E j u d q o
 |dead u=>unfold jR;exact .dead u
 |eo id b n hl=>unfold jR;exact .eo _ b n (by unfold p4;rw[qC];exact hl)
 |iV a id e v off n m c f sz hl g B A D h=>unfold jR;exact .iV a _ e v off n m c f sz (by unfold p4;rw[qC];exact hl) g B A D h
 |eY u id e v f sz r dx n hl g h k=>unfold jR;exact .eY u _ e v f sz r dx n (by unfold p4;rw[qC];exact hl) g h k
 |kX u id e v i off f sz r dx n hl g h k=>unfold jR;exact .kX u _ e v i off f sz r dx n (by unfold p4;rw[qC];exact hl) g h k
 |kY u id e v i f sz r dx n hl g h k=>unfold jR;exact .kY u _ e v i f sz r dx n (by unfold p4;rw[qC];exact hl) g h k
 |nR u id e v i j off f sz r dx n hl g h k=>unfold jR;exact .nR u _ e v i j off f sz r dx n (by unfold p4;rw[qC];exact hl) g h k
theorem qL.Ae{s t:Nat}{w:World}{B id:Nat}{c:Chunk}(h:qL I L w B (sw s t id) c):qL I (p4 s t L) w B id (Bt s t c):=by
 cases c with
 |box cs=>obtain⟨b,arr,e,f,g,i,l,m,n⟩:=h;refine⟨b,arr,e,f,g,by rw[oZ];exact i,λj u c r p=>?_,m,n⟩;obtain⟨d,q,rfl⟩:=uN p;exact (l j u d r q).Ae
 |row a e sz es=>exact h
 |shut a es=>exact h
 |tail a e sz es=>exact h
 |blk b o=>exact h
 |deep a e sz k v x es=>exact h
theorem X6(s t:Nat)(env:Env)(i:Nat):vH s t env i=jR s t (env i):=rfl
theorem X7(s t:Nat)(H:az)(i:Nat):Ad s t H i=Ce s t (H (sw s t i)):=rfl
theorem X8(s t i:Nat):sw s t i=if i=s then t else if i=t then s else i:=rfl
theorem X9(s t id v:Nat):jR s t (.row id v) = .row (sw s t id) v:=by simp only[jR]
theorem Ya(s t id v:Nat):jR s t (.ptr id v) = .ptr (sw s t id) v:=by simp only[jR]
theorem Yb(s t:Nat)(x:PV):jR s t (.p x) = .p x:=by simp only[jR]
theorem Yc(s t id v:Nat):jR s t (.eY id v) = .eY (sw s t id) v:=by simp only[jR]
theorem Yd(s t v:Nat)(e:TypeId)(sz k:Nat)(a:TypeId)(b:Nat)(es:List (List PV)):Bt s t (.deep v e sz k a b es) = .deep v e sz k a b es:=rfl
theorem Ye(s t:Nat):pE s t []=[]:=by simp only[pE]
theorem Yf(s t:Nat)(a:AV)(r:List AV):pE s t (a :: r)=jR s t a :: pE s t r:=by simp only[pE]
theorem Yg(s t:Nat)(c:Chunk):Ce s t (some c)=some (Bt s t c):=rfl
theorem Yh(s t:Nat):Ce s t none=none:=rfl
theorem Yi(s t:Nat)(cs:List AV):Bt s t (.box cs) = .box (pE s t cs):=rfl
theorem Yj(s t v:Nat)(e:TypeId)(sz:Nat)(es:List (List PV)):Bt s t (.row v e sz es) = .row v e sz es:=rfl
attribute [go_sem] Yc Yd X6 X7 X8 X9 Ya Yb Ye Yf Yg Yh Yi Yj XR XS XT XU XV XW XX XY X0 X1 X2 X3 X4
end Go.cv
namespace Go.cv
open Go.RowKit
variable{P:Program}{I:Mem}{L:bB}
theorem iG.change{C:Ctx}{env:Env}{H H':az}{I':Mem}{L':bB}{tm:Array Value}{w w':World}(h:iG C env H I L tm w)(f:Below C.B w w')(S:Nat->Prop)
  (y:∀b,b<w.heap.size->(¬ ∃i l,S i/\L i=some l/\l.has b)->w'.heap[b]? = w.heap[b]?/\∀o,I' b o=I b o) (z:dQ L L') (A:I.sub I') (G:I'.en w')
  (m:∀i,¬ S i->L' i=L i/\H' i=H i) (M:∀i l,S i->L' i=some l->∃c,H' i=some c) (K:∀i c,S i->H' i=some c->qL I' L' w' C.B i c)
  (v:∀i l b,S i->L' i=some l->l.has b->(∃j a,S j/\L j=some a/\a.has b)\/(w.heap.size<=b/\b<w'.heap.size))
  (J:∀i j k a b,S i->S j->L' i=some k->L' j=some a->k.has b->a.has b->i=j):iG C env H' I' L' tm w':=by
 have E:∀b,b<C.w0.heap.size->¬ C.A8 b->¬ ∃i l,S i/\L i=some l/\l.has b:=λb f O ⟨i,l,_,hl,g⟩=>by
  rcases h.jQ i l b hl g with h2|h2
  ·omega
  ·exact O h2
 have D:∀b,b<C.w0.heap.size->b<w.heap.size:=λb f=>Nat.lt_of_lt_of_le f h.below.size
 have F:∀i l b,¬ S i->L i=some l->l.has b->¬ ∃j a,S j/\L j=some a/\a.has b:=λi l b d hl g ⟨j,a,e,s,p⟩=>by have:=h.apart i j l a b hl s g p;subst this;exact d e
 exact
 {below:=h.below.trans f
  mem:=G
  lH:=Mem.mD h.lH A
  mF:=λb f r o=>by rw[(y b (D b f) (E b f r)).2 o];exact h.mF b f r o
  frame:=λb f r=>((y b (D b f) (E b f r)).1).trans (h.frame b f r)
  loc:=h.loc.trans z
  jQ:=λi l b hl g=>by
   by_cases d:S i
   ·rcases v i l b d hl g with ⟨j,a,_,e,p⟩|h2
    ·exact h.jQ j a b e p
    ·exact .inl (Nat.le_trans h.below.size h2.1)
   ·rw[(m i d).1] at hl;exact h.jQ i l b hl g
  size:=h.size
  env:=λt=>(h.env t).mono A z
  dom:=λi l hl=>by
   by_cases d:S i
   ·exact M i l d hl
   ·rw[(m i d).1] at hl;rw[(m i d).2];exact h.dom i l hl
  chunk:=λi c x=>by
   by_cases d:S i
   ·exact K i c d x
   ·rw[(m i d).2] at x;exact (h.chunk i c x).keep A z (m i d).1 λl b hl g=>y b (h.gh i l b hl g).2 (F i l b d hl g)
  gh:=λi l b hl g=>by
   by_cases d:S i
   ·rcases v i l b d hl g with ⟨j,a,_,e,p⟩|h2
    ·exact⟨(h.gh j a b e p).1,Nat.lt_of_lt_of_le (h.gh j a b e p).2 f.size⟩
    ·exact⟨Nat.le_trans h.kf h2.1,h2.2⟩
   ·rw[(m i d).1] at hl;exact⟨(h.gh i l b hl g).1,Nat.lt_of_lt_of_le (h.gh i l b hl g).2 f.size⟩
  apart:=λi j k a b d e q n=>by
   have one:∀i j k a,S i->¬ S j->L' i=some k->L' j=some a->k.has b->a.has b->False:=λi j k a d e N s q n=>by
    rw[(m j e).1] at s;rcases v i k b d N q with P|h2
    ·exact F j a b e s n P
    ·have:=(h.gh j a b s n).2;omega
   by_cases u:S i<;>by_cases h2:S j
   ·exact J i j k a b u h2 d e q n
   ·exact (one i j k a u h2 d e q n).elim
   ·exact (one j i a k h2 u e d n q).elim
   ·rw[(m i u).1] at d;rw[(m j h2).1] at e;exact h.apart i j k a b d e q n }
theorem iG.Ae{C:Ctx}{env:Env}{H:az}{tm:Array Value}{w:World}(a:iG C env H I L tm w){s t:Nat}(k:C.L0 s=none)(m:C.L0 t=none):iG C (vH s t env) (Ad s t H) I (p4 s t L) tm w :=
 {below:=a.below
  mem:=a.mem
  lH:=a.lH
  mF:=a.mF
  frame:=a.frame
  loc:=λi=>by
   by_cases h:i=s
   ·subst h;rw[k];trivial
   ·by_cases f:i=t
    ·subst f;rw[m];trivial
    ·have:p4 s t L i=L i:=by unfold p4 sw;rw[if_neg h,if_neg f]
     rw[this];exact a.loc i
  jQ:=λid l b hl g=>a.jQ _ l b hl g
  size:=a.size
  env:=λi=>(a.env i).Ae
  dom:=λid l hl=>by obtain⟨c,e⟩:=a.dom _ l hl;exact⟨_,by unfold Ad;rw[e];rfl⟩
  chunk:=λid v d=>by
   unfold Ad at d;cases e:H (sw s t id) with
   |none=>rw[e] at d;cases d
   |some c=>rw[e] at d;simp only[Ce,cG] at d;subst d;exact (a.chunk _ c e).Ae
  gh:=λid l b hl g=>a.gh _ l b hl g
  apart:=λi j p q b n o r u=>by
   have:=a.apart _ _ p q b n o r u;have f:=congrArg (sw s t) this;rwa [qC,qC] at f }
mutual
theorem Kb(s t:Nat):∀a:AV,jR s t (jR s t a)=a
 | .p _=>by simp only[jR]
 | .row _ _=>by simp only[jR,qC]
 | .ptr _ _=>by simp only[jR,qC]
 | .jD _ _ _ _=>by simp only[jR,qC]
 | .agg cs=>by simp only[jR,tC s t cs]
 | .dY cs=>by simp only[jR,tC s t cs]
 | .iT _ a b=>by simp only[jR,tC s t a,tC s t b]
 | .eY _ _=>by simp only[jR,qC]
 | .kX _ _ _ _=>by simp only[jR,qC]
 | .kY _ _ _=>by simp only[jR,qC]
 | .nR _ _ _ _ _=>by simp only[jR,qC]
 | .eo _ _=>by simp only[jR,qC]
 | .iV _ _ _ _ _ _=>by simp only[jR,qC]
 | .dead=>by simp only[jR]
theorem tC(s t:Nat):∀l:List AV,pE s t (pE s t l)=l
 | []=>by simp only[pE]
 |a :: r=>by simp only[pE,Kb s t a,tC s t r]
end
theorem Kc(s t:Nat)(env:Env):vH s t (vH s t env)=env:=by funext i;simp only[vH,Kb]
theorem Yk(s t:Nat)(env:Env)(d:Option Tmp)(a:AV):vH s t (cW env d a)=cW (vH s t env) d (jR s t a):=by
 cases d with
 |none=>rfl
 |some k=>funext i;show jR s t (cK env k a i)=cK (vH s t env) k (jR s t a) i;unfold cK;split<;>rfl
theorem Yl(s t:Nat)(env:Env)(x:Operand):ev (vH s t env) x=jR s t (ev env x):=by
 cases x with
 |tmp k=>rfl
 |const v =>
  show zk v=jR s t (zk v);have:∃p,zk v = .p p\/zk v = .dead:=by unfold zk;split<;>first|exact⟨_,.inl rfl⟩|exact⟨default,.inr rfl⟩|(split<;>first|exact⟨_,.inl rfl⟩|exact⟨default,.inr rfl⟩)
  obtain⟨p,h|h⟩:=this<;>rw[h]<;>simp only[jR]
 |global g=>simp only[ev,jR]
 |func f=>simp only[ev,jR]
theorem lE{o:Oper}{W:Env->az->Prop}{env:Env}{H:az}(s t:Nat)(B:s<1000000)(m:H t=none)(h:y3 P o (λe G=>W (vH s t e) (Ad s t G)) (vH s t env) (Ad s t H)):y3 P o W env H:=λC I L tm w σ f p=>by
 have d:L t=none:=f.s0 m;have i:C.L0 t=none:=by
  cases h:C.L0 t with
  |none=>rfl
  |some l =>
   have:=f.loc t;rw[h] at this;cases l with
   |box b=>rw[d] at this;cases this
   |row v j sz=>obtain⟨_,_,c,_⟩:=this;rw[d] at c;cases c
   |deep v j sz D dx n=>obtain⟨_,_,_,_,c,_⟩:=this;rw[d] at c;cases c
 have g:C.L0 s=none:=by
  cases h:C.L0 s with
  |none=>rfl
  |some l=>have:=C.Ak s l h;omega
 obtain⟨k,args,z,A⟩:=h C I _ tm w σ (f.Ae g i) λx=>by rw[Yl];exact (p x).Ae
 refine⟨k,args,z,A.mono λe w' ⟨v,I',L',a,H',q,r,u,y⟩=>⟨v,I',p4 s t L',jR s t a,Ad s t H',q,?_,u.Ae,?_⟩⟩
 ·have:vH s t (cW (vH s t env) o.dst a)=cW env o.dst (jR s t a):=by rw[Yk,Kc]
  rw[<-this];exact r
 ·have:=y.Ae g i;rwa [Kc] at this
theorem Ke{C:Ctx}{H:az}{env:Env}{tm:Array Value}{w:World}(g:iG C env H I L tm w){d:Nat}(h:H d=none)(e:TypeId){sz k:Nat}(m:k<sz)(l:TypeId)(c:Nat) :
  eP I (ct L d (.deep 0 (.slice none 0 0) sz c (λ_=>.slice none 0 0) 0)) (.slice none 0 0) (.eY d 0)/\Fr C I L H w I (ct L d (.deep 0 (.slice none 0 0) sz c (λ_=>.slice none 0 0) 0)) (bn H d (.deep 0 e sz k l c [])) w /\
   dQ L (ct L d (.deep 0 (.slice none 0 0) sz c (λ_=>.slice none 0 0) 0)):=by
 refine⟨.eY _ d 0 0 (.slice none 0 0) sz c (λ_=>.slice none 0 0) 0 (by simp[ct]) (Nat.le_refl _) (λ_=>rfl) rfl,λenv tm g=>?_,dQ.uU (g.s0 h) _⟩;refine g.new (Below.refl _ _) (λ_ _=>rfl) h _ _ ?_ (λb a=>?_)
 ·refine⟨.slice none 0 0,[],λ_=>.slice none 0 0,by simp[ct],⟨⟨by simp[fO],.inl ⟨rfl,by simp[fO]⟩⟩,by omega,by simp[fO],by simp,by simp,λb a=>by cases a⟩,rfl,m,by simp,λi x n=>by simp at n,λi b f=>by simp at f,λi j b f=>by simp at f⟩
 ·rcases a with a|⟨i,f,_⟩
  ·cases a
  ·omega
theorem Ym{e:Env}{H:az}(t id:Nat)(ty:TypeId)(sz k:Nat)(b:TypeId)(d:Nat)(j:e t = .p (.val (.slice none 0 0)))(g:H id=none)(h:k<sz) :
  dw e H (cK e t (.eY id 0)) (bn H id (.deep 0 ty sz k b d [])):=λC I L tm w a=>by
 obtain⟨n1,l,m⟩:=Ke a g ty h b d;have c:=l e tm a;refine⟨I,_,{ c with env:=λi=>?_ }⟩;unfold cK;split
 ·rename_i f;subst f;have:=a.env i;rw[j] at this;rw[this.eT.1];exact n1
 ·exact c.env i
theorem Yn(k:Nat)(dx:Nat->Value)(es:List (List PV))(i:Nat)(x:List PV)(p:PV)(a:es[i]? = some x):fO k dx (es.set i (x.set k p))=fO k dx es:=by
 apply List.ext_getElem?;intro j;rw[uF,uF,List.getElem?_set];split
 ·rename_i h;subst h;have b:=(List.getElem?_eq_some_iff.1 a).1;rw[if_pos b,a];simp[List.set_set]
 ·rfl
theorem Kg{o:Oper}{W:Env->az->Prop}{env:Env}{H:az}(t:TypeId)(a x:Operand)(id v i j:Nat)(e:TypeId)(sz k:Nat)(D:TypeId)(es:List (List PV))(el:List PV)(l:List (List PV))(p:PV)(bc:o.op = .store t a x)
  (hn:bu P t=some 1) (ha:ev env a = .nR id v i j 0) (hx:ev env x = .p p) (V:(b7 (.p p))=[.p p]/\p.one=true) (hH:H id=some (.deep v e sz k D 1 es)) (E:es[i]? = some el) (hl:el[k]? = some (.aV l)) (hj:j<l.length)
  (hW:W (cW env o.dst .dead) (bn H id (.deep v e sz k D 1 (es.set i (el.set k (.aV (l.set j [p]))))))):j6 P o W env H:=by
 refine .inr (.inr (.inl λC I L tm w σ J an=>⟨_,_,hW,?_⟩));have ai:=an a;have am:=an x;rw[ha] at ai;rw[hx] at am;obtain⟨a5,us,dx,q1,q2,q3,q4,q5,q6,q7⟩:=J.chunk id _ hH;have U:i<es.length:=(List.getElem?_eq_some_iff.1 E).1;obtain⟨l',Z,r1,r2,r3⟩:=q6 i el E;rw[hl] at r1;simp only[cG,PV.aV.injEq] at r1;subst r1;have al:(execOp σ o).run P w=(do Instr.storeAt t (σ a) (σ x);pure .skip:Sem Next).run P w:=by unfold execOp;rw[bc]
 obtain⟨un,u1,u2,u3,u4⟩:=cells_one am (by rw[V.1];simp[oB,V.2]);rw[V.1] at u2 u3;have cl:0<es.length:=by omega
 generalize cn:σ a=ua at *;cases ai with
 |nR _ _ _ v1 _ _ _ j5 _ _ rO n1 k9 ci hh cj =>
  rw[q1] at k9;simp only[cG,Loc.deep.injEq] at k9;obtain⟨e1,e2,N,O,Q,e6⟩:=k9;subst e1 e2 N O Q e6;obtain⟨g,o0,m,cap,R,rfl⟩:=hh rfl;rcases r2.own.2 with ⟨aw,_⟩|⟨g',cp,s,F,d,S,bb,a3,a4,mc⟩
  ·rw[aw] at R;cases R
  have af:=F;rw[R] at F;simp only[Value.slice.injEq,cG,Addr.mk.injEq] at F;obtain⟨⟨N,e0,_⟩,O,Q⟩:=F;subst N e0 O Q;have M:(dx i).ownBlock=some g:=by rw[af];rfl
  have ce:l.length<=s.size:=by omega
  have bj:un.length=1:=by simpa using u2
  have hr:=xN hn u1 bj S (off:=j) (by omega) u4;have e8:(0:Nat)+(j * 1+0)=j:=by omega
  rw[e8] at al;have ch:Z.length=l.length:=by have:=r2.own.1;omega
  have G:∀ (b:Nat),b≠g->(w.setRow g (splice s.toList j un).toArray).heap[b]? = w.heap[b]?:=λb n=>setRow_other w g b _ n
  have cf:g<w.heap.size:=(Array.getElem?_eq_some_iff.1 S).1;have a6:C.B<=g:=d;refine⟨undef,_,I,L,.inr ⟨by rw[al];exact Ex hr,rfl⟩,.dead _,λenv tm J=>?_⟩;refine J.change (sU _ a6) (λz=>z=id) (λb n ba=>⟨G b λd=>ba ⟨id,_,rfl,q1,by rw[d];exact .inr ⟨i,U,M⟩⟩,λ_=>rfl⟩) (dQ.refl L) (Mem.ep I) (J.mem.keep λb ⟨o,u,K⟩=>G b λd=>by rw[d,r2.free g M o] at K;cases K)
   (λz f=>⟨rfl,by simp[bn,f]⟩) (λz l f hl=>⟨_,by simp[bn,f];rfl⟩) (λz c f A=>?_) (λz l b f hl n=>.inl ⟨z,l,f,hl,n⟩) (λz z' _ _ _ f bm _ _ _ _=>by rw[f,bm])
  subst f;have:Chunk.deep v e sz k D 1 (es.set i (el.set k (.aV (l.set j [p]))))=c:=by simpa[bn] using A
  subst this;have xK:fO k dx (es.set i (el.set k (.aV (l.set j [p]))))=fO k dx es:=Yn k dx es i el _ E;refine⟨a5,us,dx,by rw[List.length_set];exact q1,?_,q3,q4,λy X=>?_,λY x' r=>?_,by rw[List.length_set];exact q7⟩
  ·rw[xK];exact q2.keep (Mem.ep I) λb n=>⟨G b λd=>q7.1 i g U M (by rw[<-d];exact n),λ_=>rfl⟩
  ·rcases List.mem_or_eq_of_mem_set X with h|h
   ·exact q5 y h
   ·subst h;rw[List.length_set];exact q5 el (List.mem_of_getElem? E)
  ·rw[List.getElem?_set] at r;split at r
   ·rename_i T;subst T;simp only[cG] at r;subst r;have rN:k<el.length:=(List.getElem?_eq_some_iff.1 hl).1;have bi:(splice s.toList j un).take (l.length * 1)=splice Z j un:=by rw[zv (by omega) (by simp;omega),mc]
    refine⟨l.set j [p],splice Z j un,by simp[rN],⟨⟨?_,.inr ⟨g,cap,(splice s.toList j un).toArray,by rw[List.length_set];exact af,d,setRow_heap w g s _ D _ S,by rw[List.length_set];exact bb,a3,?_,by rw[List.length_set];exact bi⟩⟩,r2.pos,λy X=>?_,?_,xO r2.one u4,r2.free⟩,r3⟩
    ·rw[List.length_set,eD (by omega)];omega
    ·simp only[List.size_toArray];rw[eD (by simp only[Array.length_toList];omega)];simpa using a4
    ·rcases List.mem_or_eq_of_mem_set X with h|h
     ·exact r2.all y h
     ·subst h;rfl
    ·have hm:(l.getD j []).length=1:=r2.all _ (by
      have:l.getD j []=l[j]:=by simp[hj]
      rw[this];exact l8 _)
     have be:splice (l.getD j []) 0 [p]=[p]:=by unfold splice;rw[List.take_zero,List.drop_eq_nil_of_le (by rw[hm];simp)];rfl
     have:=zu r2.all j hj 0 [p] (by simp);rw[be] at this;rw[this];have e9:j * 1+0=j:=by omega
     rw[e9];exact Ew (by rw[bG r2.all];omega) (by simpa using u2) r2.val (λq u c K A=>by
      have:=u3 q u (.p c) K (by
       cases q with
       |zero=>simp at A ⊢;exact A
       |succ q=>simp at A)
      exact this.oz)
   ·rename_i T;obtain⟨l2,b3,m1,m2,m3⟩:=q6 Y x' r;have av:Y<es.length:=(List.getElem?_eq_some_iff.1 r).1;exact⟨l2,b3,m1,m2.keep (Mem.ep I) λb n=>⟨G b λd=>T (q7.2 i Y g U av M (by rw[<-d];exact n)),λ_=>rfl⟩,m3⟩
theorem Yo{w:World}{B:Nat}{t1 ty e:TypeId}{i:TypeInfo}{z:Value}{sz A:Nat}(q:P.underlying t1=some (.slice e))(o:P.info? e=some i)(y:i.zero=some z)(d:i.size=sz)(t:i.bytes=A)(N:z.cells.size=sz)(M:0<sz)
  {x:Value} {n:Nat} {us:List Value} (r:w.ownsRow B e sz x n us) {bb off m cap:Nat} {zq:List Value} (h:zq.length=m * sz) (p:∀ (j:Nat) v,zq[j]? = some v->w.cell? ((⟨bb,off,none⟩:Addr).add j)=some v) (D:∀u∈zq,u.oneCell'=true) (R:0<m)
  (s:n+m<=maxLen) (a:(n+m) * A<=140737488355328) (G:B<=w.heap.size) :
  ∃f w',(Builtin.append_ #[t1,t1] ty #[x,.slice (some ⟨bb,off,none⟩) m cap]).run P w = .ok f w'/\w'.ownsRow B e sz f (n+m) (us++zq)/\w.grownBy w' x.ownBlock /\
   (∀b,f.ownBlock=some b->x.ownBlock=some b\/(w.heap.size<=b/\b<w'.heap.size))/\f.oneCell'=true:=by
 obtain⟨f,w',c,E,J,_⟩:=run_append_own (P:=P) w B t1 ty e i z sz A q o y d t N M x n us r ⟨bb,off,none⟩ m cap zq h p D s a G
 refine⟨f,w',c,E,J,?_,?_⟩
 ·rcases r.2 with ⟨rfl,L⟩|⟨g,l,C,rfl,O,K,S,Q,H,T⟩
  ·obtain⟨l,rest,k,_⟩:=qg (P:=P) (ty:=ty) q o y d none ⟨bb,off,none⟩ m cap zq w h p (by omega) (by rw[t];rw[L,Nat.zero_add] at a;exact a) (by simp only[maxLen] at s;omega);rw[k] at c;simp only[Result.ok.injEq] at c;obtain⟨rfl,rfl⟩:=c;intro b a;simp only[Value.ownBlock,cG] at a;subst a;exact .inr ⟨Nat.le_refl _,by simp⟩
  ·by_cases F:n+m<=l
   ·have I:n * i.size+zq.length<=C.size:=by rw[h,H,d,<-Nat.add_mul];exact Nat.mul_le_mul_right _ F
    have k:=run_append_room (P:=P) w t1 ty e i q o g n l C K ⟨bb,off,none⟩ m cap zq (by rw[d];exact h) p D F I;rw[k] at c;simp only[Result.ok.injEq] at c;obtain⟨rfl,rfl⟩:=c;intro b a;exact .inl a
   ·have holds:∀j u,us[j]? = some u->w.cell? ((⟨g,0,none⟩:Addr).add j)=some u:=r.cells (g:=g) rfl;have k:=run_append_grow (P:=P) w t1 ty e i z q o y ⟨g,0,none⟩ n l us (by rw[d];exact r.1) holds ⟨bb,off,none⟩ m cap zq (by rw[d];exact h) p (by omega) (by simp only[maxLen] at s;omega)
     (growslice_fits (by omega) (by rw[t];exact a))
    rw[k] at c;simp only[Result.ok.injEq] at c;obtain⟨rfl,rfl⟩:=c;intro b a;simp only[Value.ownBlock,cG] at a;subst a;exact .inr ⟨Nat.le_refl _,by simp⟩
 ·rcases E.2 with ⟨rfl,_⟩|⟨_,_,_,rfl,_⟩<;>rfl
theorem v7(k:Nat):∀ (es:List (List PV)) (dx a:Nat->Value),(∀i,i<es.length->dx i=a i)->fO k dx es=fO k a es
 | [],_,_,_=>rfl
 |x :: r,dx,a,h=>by simp only[fO];rw[h 0 (by simp),v7 k r _ _ λi b=>h (i+1) (by simp;omega)]
theorem Kh(k:Nat):∀ (es:List (List PV)) (dx:Nat->Value) (x:List PV),fO k dx (es++[x])=fO k dx es++[x.set k (.val (dx es.length))]
 | [],_,_=>rfl
 |y :: r,dx,x=>by simp only[List.cons_append,fO,Kh k r,List.length_cons]
theorem Ki{o:Oper}{W:Env->az->Prop}{env:Env}{H:az}(t1 t2:TypeId)(x y:Operand)(id d r v K k:Nat)(e:TypeId)(sz qM:Nat)(M:TypeId)(A:Nat)(es l:List (List PV))(ps:List PV)
  (cP:o.op = .call ⟨.builtin .append,#[x,y],#[t1,t2]⟩) (ht:dA P t1 t2=some (e,sz,qM)) (hx:ev env x = .eY id v) (hy:ev env y = .eo d 1) (hH:H id=some (.deep v e sz k M A es))
  (hd:H d=some (.box ((ps.map AV.p).set k (.row r K)))) (hr:H r=some (.row K M A l)) (ar:ps.length=sz) (aa:id≠r) (a:(es.length+1) * qM<=140737488355328)
  (hW:W (cW env o.dst (.eY id (v+1))) (bn (bn H r (.row (K+1) M A [])) id (.deep (v+1) e sz k M A (es++[ps.set k (.aV l)])))):j6 P o W env H:=by
 refine .inr (.inr (.inl λC I L tm w σ q ba=>⟨_,_,hW,?_⟩));have a8:=ba x;have a9:=ba y;rw[hx] at a8;rw[hy] at a9;obtain⟨rfl,t,a7,bo,i,z,X,s,cX,cf,df⟩:=nX ht;have cS:∀w,(execOp σ o).run P w=((Builtin.append_ #[t1,t1] o.type #[σ x,σ y]).run P w).andThen λu w'=>.ok (.value u) w':=λw=>by unfold execOp;rw[cP];simp[resolve,invoke,builtin,Result.andThen]
 obtain⟨dC,us,dx,F,Q,q3,q4,q5,q6,q7⟩:=q.chunk id _ hH;obtain⟨db,arr,de,d1,d2,d3,d4,d5,d6⟩:=q.chunk d _ hd;obtain⟨R,be,V,c2,c3,c4,c5,c6,c7⟩:=q.chunk r _ hr;have bp:es.length+1<=maxLen:=by have:=Nat.le_mul_of_pos_right (es.length+1) bo;simp only[maxLen];omega
 generalize eb:σ x=ux at *;generalize ec:σ y=uy at *;cases a8 with
 |eY _ _ _ v1 j5 _ _ rO n1 hl dN hh a6 =>
  rw[F] at hl;simp only[cG,Loc.deep.injEq] at hl;obtain⟨e1,e2,e3,e4,e5,e6⟩:=hl;subst e1 e2 e3 e4 e5 e6;have da:=hh rfl;subst da;cases a9 with
  |eo _ b _ hl =>
   rw[d1] at hl;simp only[cG,Loc.box.injEq] at hl;subst hl;have ce:arr.toList.length=1 * sz:=by simp[d3,ar]
   have own:=Q.own;rw[fV] at own;obtain⟨Z,w',cR,ho,hg,an,h1⟩:=Yo (P:=P) (ty:=o.type) (cap:=1) t X s cX cf df a7 own (bb:=db) (off:=0) (m:=1) (zq:=arr.toList) ce (λj v N=>by
    rw[Addr.add_mid,Nat.zero_add,gB d2];simpa using N) (λu t=>by
    obtain⟨j,N⟩:=List.mem_iff_getElem?.1 t;exact d5 j u (by simpa using N)) (by omega) bp a q.kf
   let E:Nat->Value:=λj=>if j<es.length then dx j else R
   have G:∀j,j<es.length->E j=dx j:=λj N=>by simp only[E];rw[if_pos N]
   have S:E es.length=R:=by simp only[E];rw[if_neg (by omega)]
   have bk:∀b,ux.ownBlock=some b->C.B<=b/\b<w.heap.size:=λb a=>q.gh id _ b F (.inl a)
   have T:∀b,R.ownBlock=some b->b<w.heap.size/\ux.ownBlock≠some b/\∀i,i<es.length->(dx i).ownBlock≠some b:=λb a=>⟨(q.gh r _ b V a).2,λn=>aa (q.apart id r _ _ b F V (.inl n) a),λi X n=>aa (q.apart id r _ _ b F V (.inr ⟨i,X,n⟩) a)⟩
   have ad:∀i b,i<es.length->(dx i).ownBlock=some b->b<w.heap.size/\ux.ownBlock≠some b:=λi b X a=>⟨(q.gh id _ b F (.inr ⟨i,X,a⟩)).2,q7.1 i b X a⟩
   let L':bB:=ct (ct L r (.row (K+1) (.slice none 0 0) A)) id (.deep (v+1) Z sz A E (es.length+1));have al:L' id=some (.deep (v+1) Z sz A E (es.length+1)):=by simp[L',ct]
   have am:L' r=some (.row (K+1) (.slice none 0 0) A):=by simp[L',ct,Ne.symm aa]
   have a0:∀j,j≠id->j≠r->L' j=L j:=λj h1 n=>by simp[L',ct,h1,n]
   have cx:dQ L L':=λj=>by
    by_cases e1:j=id
    ·subst e1;rw[F];exact⟨v+1,Z,E,es.length+1,al,by omega,λe=>by omega⟩
    ·by_cases e2:j=r
     ·subst e2;rw[V];exact⟨K+1,.slice none 0 0,am,by omega,λe=>by omega⟩
     ·rw[a0 j e1 e2];exact dQ.refl L j
   refine⟨Z,w',I,L',.inl (by rw[cS,cR];rfl),.eY _ _ _ (v+1) Z sz A E (es.length+1) al (Nat.le_refl _) (λ_=>rfl) h1,λenv tm q=>?_⟩;have ae:∀b,b<w.heap.size->ux.ownBlock≠some b->w'.heap[b]? = w.heap[b]?:=λb a hn=>hg.block b a λe=>hn e.symm
   have ea:(ps.map AV.p).length=sz:=by rw[List.length_map];exact ar
   refine q.change (Below.grown (Below.refl _ _) hg q.kf λb a=>(bk b a).1) (λz=>z=id\/z=r) (λb a cH=>⟨ae b a λn=>cH ⟨id,_,.inl rfl,F,.inl n⟩,λ_=>rfl⟩) cx (Mem.ep I)
    (q.mem.keep λb ⟨o,u,t⟩=>ae b (q.mem.lt t) λn=>by rw[Q.free b n o] at t;cases t) (λz s=>⟨a0 z (λe=>s (.inl e)) (λe=>s (.inr e)),by
     have a1:z≠id:=λe=>s (.inl e)
     have a2:z≠r:=λe=>s (.inr e)
     simp[bn,a1,a2]⟩)
    (λz l s hl=>?_) (λz c s hc=>?_) (λz l b s hl a=>?_) (λz z' lz ef b s dd hl cs a D=>?_)
   ·rcases s with rfl|rfl
    ·exact⟨_,by simp[bn];rfl⟩
    ·exact⟨_,by simp[bn,Ne.symm aa];rfl⟩
   ·rcases s with rfl|rfl
    ·have:Chunk.deep (v+1) e sz k M A (es++[ps.set k (.aV l)])=c:=by simpa[bn] using hc
     subst this;have bm:fO k E (es++[ps.set k (.aV l)])=fO k dx es++[ps.set k (.val R)]:=by rw[Kh,S,v7 k es E dx G];simp[List.set_set]
     refine⟨Z,us++arr.toList,E,by rw[List.length_append];exact al,?_,h1,q4,λy hy=>?_,λf x' O=>?_,?_⟩
     ·rw[bm];refine⟨by rw[List.length_append,fV];exact ho,a7,λy hy=>?_,?_,λu t=>?_,λb a o=>?_⟩
      ·rcases List.mem_append.1 hy with h|h
       ·exact Q.all y h
       ·simp only[List.mem_singleton] at h;subst h;rw[List.length_set];exact ar
      ·rw[List.flatten_append];refine Ev (by rw[bG Q.all,fV];exact own.1) Q.val (λj u c t hc=>?_);have J:(ps.set k (.val R))[j]? = some c:=by simpa using hc
       have dE:j<sz:=by have:=(List.getElem?_eq_some_iff.1 J).1;rw[List.length_set] at this;omega
       rw[List.getElem?_set] at J;split at J
       ·rename_i aE;subst aE;split at J
        ·simp only[cG] at J;subst J;have n:=d4 k u (.row r K) (by simpa using t) (by rw[List.getElem?_set,if_pos rfl,if_pos (by omega)]);cases n with
         |row _ _ _ v2 du ei aM dT cj bj=>rw[V] at aM;simp only[cG,Loc.row.injEq] at aM;obtain⟨a1,a2,a3⟩:=aM;subst a1 a2 a3;rw[<-cj rfl];exact .val _ bj
        ·cases J
       ·rename_i aE;have n:=d4 j u (.p c) (by simpa using t) (by rw[List.getElem?_set,if_neg aE,List.getElem?_map,J];rfl);exact n.oz
      ·rcases List.mem_append.1 t with h|h
       ·exact Q.one u h
       ·obtain⟨j,N⟩:=List.mem_iff_getElem?.1 h;exact d5 j u (by simpa using N)
      ·rcases an b a with h|h
       ·exact Q.free b h o
       ·cases hI:I b o with
        |none=>rfl
        |some u=>exact absurd (q.mem.lt hI) (by omega)
     ·rcases List.mem_append.1 hy with h|h
      ·exact q5 y h
      ·simp only[List.mem_singleton] at h;subst h;rw[List.length_set];exact ar
     ·rw[List.getElem?_append] at O;split at O
      ·rename_i aq;obtain⟨l2,ds,m1,m2,m3⟩:=q6 f x' O;rw[G f aq];exact⟨l2,ds,m1,m2.keep (Mem.ep I) λb a=>⟨ae b (ad f b aq a).1 (ad f b aq a).2,λ_=>rfl⟩,m3⟩
      ·rename_i aq;have cl:f-es.length=0:=by have:=(List.getElem?_eq_some_iff.1 O).1;simp at this;omega
       rw[cl] at O;simp only[List.getElem?_cons_zero,cG] at O;subst O;have cn:f=es.length:=by omega
       subst cn;rw[S];have a6:R.oneCell'=true:=by rcases c2.2 with ⟨rfl,_⟩|⟨_,_,_,rfl,_⟩<;>rfl
       exact⟨l,be,by rw[List.getElem?_set,if_pos rfl,if_pos (by omega)],(⟨c2,c3,c4,c5,c6,c7⟩:sZ w C.B I R M A l be).keep (Mem.ep I) λb a=>⟨ae b (T b a).1 (T b a).2.1,λ_=>rfl⟩,a6⟩
     ·rw[List.length_append];refine⟨λf b ap a D=>?_,λf Y b ap cp a D=>?_⟩
      ·have g:f<es.length\/f=es.length:=by simp at ap;omega
       rcases g with g|rfl
       ·rw[G f g] at a;rcases an b D with h|h
        ·exact (ad f b g a).2 h
        ·have:=(ad f b g a).1;omega
       ·rw[S] at a;rcases an b D with h|h
        ·exact (T b a).2.1 h
        ·have:=(T b a).1;omega
      ·have g:f<es.length\/f=es.length:=by simp at ap;omega
       have U:Y<es.length\/Y=es.length:=by simp at cp;omega
       rcases g with g|rfl<;>rcases U with U|rfl
       ·rw[G f g] at a;rw[G Y U] at D;exact q7.2 f Y b g U a D
       ·rw[G f g] at a;rw[S] at D;exact absurd a ((T b D).2.2 f g)
       ·rw[S] at a;rw[G Y U] at D;exact absurd D ((T b a).2.2 Y U)
       ·rfl
    ·have:Chunk.row (K+1) M A []=c:=by simpa[bn,Ne.symm aa] using hc
     subst this;exact⟨.slice none 0 0,[],am,⟨by simp,.inl ⟨rfl,rfl⟩⟩,c3,by simp,by simp,by simp,λb a=>by cases a⟩
   ·rcases s with rfl|rfl
    ·rw[al] at hl;simp only[cG] at hl;subst hl;rcases a with a|⟨f,ap,a⟩
     ·exact (an b a).imp (λh=>⟨z,_,.inl rfl,F,.inl h⟩) id
     ·have g:f<es.length\/f=es.length:=by omega
      rcases g with g|rfl
      ·rw[G f g] at a;exact .inl ⟨z,_,.inl rfl,F,.inr ⟨f,g,a⟩⟩
      ·rw[S] at a;exact .inl ⟨r,_,.inr rfl,V,a⟩
    ·rw[am] at hl;simp only[cG] at hl;subst hl;cases a
   ·have a5:∀lz,L' r=some lz->¬ lz.has b:=λlz n h3=>by rw[am] at n;simp only[cG] at n;subst n;cases h3
    rcases s with rfl|rfl<;>rcases dd with rfl|rfl
    ·rfl
    ·exact (a5 _ cs D).elim
    ·exact (a5 _ hl a).elim
    ·rfl
theorem Yp{o:Oper}{W:Env->az->Prop}{env:Env}{H:az}{V:FuncId}{fe:List AV}{ps:List PV}{id v k:Nat}{e:TypeId}{sz:Nat}{M:TypeId}{A:Nat}{es es':List (List PV)}(f:Nat->Nat)
  (c:∀dx:Nat->Value,(∀i,i<es.length->(dx i).oneCell'=true)->kZ P V v e sz (fO k dx es) ps λa c=>a = .row 1000000 (v+1)/\c=some (.row (v+1) e sz (fO k (λi=>dx (f i)) es')))
  (q:∀i,i<es'.length->f i<es.length/\es'[i]? = es[f i]?) (aN:∀i j,i<es'.length->j<es'.length->f i=f j->i=j)
  (ha:dL o (ev env)=some (V,.eY id v :: fe)) (hH:H id=some (.deep v e sz k M A es)) (he:eG (ia (vF H id)) fe=some (ps,false))
  (hW:W (cW env o.dst (.eY id (v+1))) (bn H id (.deep (v+1) e sz k M A es'))):j6 P o W env H:=.inr (.inr (.inr λC I L tm w σ r a8=>by
 obtain⟨aE,us,dx,t,q2,q3,q4,q5,q6,q7⟩:=r.chunk id _ hH;have a2:∀i,i<es.length->(dx i).oneCell'=true:=λi m=>by obtain⟨l,al,_,_,X⟩:=q6 i _ (List.getElem?_eq_getElem m);exact X
 have s:=c dx a2;obtain⟨bp,hr,K⟩:=qN ha s.1 a8 w;refine⟨V,_,hr,?_⟩;cases bp with
 |nil=>have:=K.1;simp at this
 |cons D vs =>
  have a4:=K.2 0 D _ rfl rfl;have am:D=aE:=by
   cases a4 with
   |eY _ _ _ v1 j5 _ _ rO n1 hl aP S h1=>rw[t] at hl;simp only[cG,Loc.deep.injEq] at hl;obtain⟨_,N,_⟩:=hl;subst N;exact S (by assumption)
  subst am;have Y:pJ I L vs fe:=⟨by simpa using K.1,λj u c J s=>K.2 (j+1) u c J s⟩;obtain⟨k1,_,k3⟩:=kP (pQ r (EH H id) (mG r.mem) ((sr L w).g _)) fe ps false he vs Y.1 Y.2;refine (s.2 C.B I w D us vs r.kf r.mem q2 q3 ⟨k1,k3 rfl⟩).mono λx w' ⟨u,a,H',I',L1,m1,⟨m2,bd⟩,X,p⟩=>?_
  subst m2;obtain⟨fo,al,O,g2,g3,g4,g5,g6,g7⟩:=p.chunk 1000000 _ bd;have Z:fo.oneCell'=true:=by rcases g2.2 with ⟨rfl,_⟩|⟨_,_,_,rfl,_⟩<;>rfl
  have a5:u=fo:=by
   cases X with
   |row _ _ _ v2 bs bN hl aP S h1=>rw[O] at hl;simp only[cG,Loc.row.injEq] at hl;obtain⟨F,N,_⟩:=hl;subst N;exact S F.symm.symm
  subst a5;have ae:∀b,b<w.heap.size->D.ownBlock≠some b->w'.heap[b]? = w.heap[b]?/\∀o,I' b o=I b o:=λb d hn=>⟨p.frame b d hn,λo=>p.mF b d hn o⟩
  have ad:∀b,u.ownBlock=some b->D.ownBlock=some b\/(w.heap.size<=b/\b<w'.heap.size):=λb d=>by
   rcases p.jQ 1000000 _ b O d with h|h
   ·exact .inr ⟨h,(p.gh 1000000 _ b O d).2⟩
   ·exact .inl h
  have T:∀i b,i<es.length->(dx i).ownBlock=some b->b<w.heap.size/\D.ownBlock≠some b:=λi b m d=>⟨(r.gh id _ b t (.inr ⟨i,m,d⟩)).2,q7.1 i b m d⟩
  let E:Nat->Value:=λi=>dx (f i)
  let L':bB:=ct L id (.deep (v+1) u sz A E es'.length);have G:L' id=some (.deep (v+1) u sz A E es'.length):=by simp[L',ct]
  have a0:dQ L L':=λj=>by
   by_cases F:j=id
   ·subst F;rw[t];exact⟨v+1,u,E,es'.length,G,by omega,λe=>by omega⟩
   ·have:L' j=L j:=by simp[L',ct,F]
    rw[this];exact dQ.refl L j
  refine⟨u,I',L',.eY id (v+1),_,m1,hW,.eY _ _ _ (v+1) u sz A E es'.length G (Nat.le_refl _) (λ_=>rfl) Z,?_⟩;refine r.change p.below (λz=>z=id) (λb d a1=>ae b d λQ=>a1 ⟨id,_,rfl,t,.inl Q⟩) a0 p.lH p.mem (λz n=>⟨by simp[L',ct,n],by simp[bn,n]⟩) (λz l n hl=>⟨_,by simp[bn,n];rfl⟩) (λz c n s=>?_) (λz l b n hl d=>?_) (λz z' _ _ _ n a7 _ _ _ _=>by rw[n,a7])
  ·subst n;have:Chunk.deep (v+1) e sz k M A es'=c:=by simpa[bn] using s
   subst this;refine⟨u,al,E,G,⟨g2,g3,g4,g5,g6,g7⟩,Z,q4,λy hy=>?_,λi x U=>?_,λi b m d=>?_,λi j b m J d R=>?_⟩
   ·obtain⟨i,m⟩:=List.mem_iff_getElem?.1 hy;rw[(q i (List.getElem?_eq_some_iff.1 m).1).2] at m;exact q5 y (List.mem_of_getElem? m)
   ·have m:=(List.getElem?_eq_some_iff.1 U).1;rw[(q i m).2] at U;obtain⟨l,bo,r1,r2,r3⟩:=q6 (f i) x U;exact⟨l,bo,r1,r2.keep p.lH λb d=>ae b (T (f i) b (q i m).1 d).1 (T (f i) b (q i m).1 d).2,r3⟩
   ·intro R;have Q:=T (f i) b (q i m).1 d;rcases ad b R with h|h
    ·exact Q.2 h
    ·omega
   ·exact aN i j m J (q7.2 (f i) (f j) b (q i m).1 (q j J).1 d R)
  ·subst n;rw[G] at hl;simp only[cG] at hl;subst hl;rcases d with d|⟨i,m,d⟩
   ·exact (ad b d).imp (λh=>⟨z,_,rfl,t,.inl h⟩) id
   ·exact .inl ⟨z,_,rfl,t,.inr ⟨f i,(q i m).1,d⟩⟩))
mutual
def mh(id:Nat):AV->AV
 | .eY i v=>if i=id then .row i v else .eY i v
 | .kX i v j o=>if i=id then .dead else .kX i v j o
 | .kY i v j=>if i=id then .dead else .kY i v j
 | .nR i v j k o=>if i=id then .dead else .nR i v j k o
 | .row i v=>if i=id then .dead else .row i v
 | .jD i v j o=>if i=id then .dead else .jD i v j o
 | .ptr i o=>if i=id then .dead else .ptr i o
 | .eo i n=>if i=id then .dead else .eo i n
 | .iV i v o n m sz=>if i=id then .dead else .iV i v o n m sz
 | .agg cs=>.agg (oh id cs)
 | .dY cs=>.dY (oh id cs)
 | .iT f a b=>.iT f (oh id a) (oh id b)
 |x=>x
def oh(id:Nat):List AV->List AV
 | []=>[]
 |a :: r=>mh id a :: oh id r
end
theorem sG{id:Nat} : ∀ {cs:List AV} {j:Nat} {c:AV},(oh id cs)[j]? = some c->∃d,cs[j]? = some d/\c=mh id d
 | [],j,c,h=>by simp[oh] at h
 |a :: r,0,c,h=>by unfold oh at h;simp only[List.getElem?_cons_zero,cG] at h;exact⟨a,rfl,h.symm⟩
 |a :: r,j+1,c,h=>by unfold oh at h;exact sG (cs:=r) (by simpa using h)
theorem nY{id:Nat} : ∀cs:List AV,(oh id cs).length=cs.length
 | []=>rfl
 |a :: r=>by unfold oh;simp[nY r]
def Bu(id:Nat):Chunk->Chunk
 | .box cs=>.box (oh id cs)
 | .deep v e sz k a b es=>.deep v e sz k a b es
 |c=>c
def Cf(id:Nat):Option Chunk->Option Chunk
 |some c=>some (Bu id c)
 |none=>none
def Dq(id:Nat)(env:Env):Env:=λi=>mh id (env i)
def Dr(c:Option Chunk):Option Chunk:=match c with
 |some (.deep v e sz _ _ _ es)=>some (.row v e sz es)
 |c=>c
def xZ(id:Nat)(H:az):az:=λi=>if i=id then Dr (H i) else Cf id (H i)
theorem eP.flat{J:Mem}{id v:Nat}{D:Value}{sz S:Nat}{dx:Nat->Value}{n:Nat}(hl:L id=some (.deep v D sz S dx n))(T:I.sub J){u:Value}{a:AV}(h:eP I L u a):eP J (ct L id (.row v D sz)) u (mh id a):=by
 have r:∀i,i≠id->ct L id (.row v D sz) i=L i:=λi K=>by simp[ct,K]
 induction h with
 |p u x h=>unfold mh;exact .p u x (h.mono T)
 |row u i g o l C f k h q =>
  unfold mh;split
  ·exact .dead _
  ·exact .row u i g o l C ((r i (by assumption)).trans f) k h q
 |ptr i b off f =>
  unfold mh;split
  ·exact .dead _
  ·exact .ptr i b off ((r i (by assumption)).trans f)
 |jD u i g o j off l C f k h q =>
  unfold mh;split
  ·exact .dead _
  ·exact .jD u i g o j off l C ((r i (by assumption)).trans f) k h q
 |eo i b n f =>
  unfold mh;split
  ·exact .dead _
  ·exact .eo i b n ((r i (by assumption)).trans f)
 |iV a i g o off n m c l C f k O N Q h =>
  unfold mh;split
  ·exact .dead _
  ·exact .iV a i g o off n m c l C ((r i (by assumption)).trans f) k O N Q h
 |agg us cs f _ P B=>unfold mh;refine .agg us _ (by rw[nY];exact f) (λj u c w s=>?_) P;obtain⟨d,t,rfl⟩:=sG s;exact B j u d w t
 |dY us cs f _ B=>unfold mh;refine .dY us _ (by rw[nY];exact f) (λj u c w s=>?_);obtain⟨d,t,rfl⟩:=sG s;exact B j u d w t
 |iT H us vs U cs f M _ _ B R =>
  unfold mh;refine .iT H us vs _ _ (by rw[nY];exact f) (by rw[nY];exact M) (λj u c w s=>?_) (λj u c w s=>?_)
  ·obtain⟨d,t,rfl⟩:=sG s;exact B j u d w t
  ·obtain⟨d,t,rfl⟩:=sG s;exact R j u d w t
 |eY u i g o l z A y n1 f k h q =>
  unfold mh;split
  ·rename_i e;subst e;rw[hl] at f;simp only[cG,Loc.deep.injEq] at f;obtain⟨E,F,G,_⟩:=f;subst E F G;exact .row u i g v D sz (by simp[ct]) k h q
  ·exact .eY u i g o l z A y n1 ((r i (by assumption)).trans f) k h q
 |kX u i g o j off l z A y n1 f k h q =>
  unfold mh;split
  ·exact .dead _
  ·exact .kX u i g o j off l z A y n1 ((r i (by assumption)).trans f) k h q
 |kY u i g o j l z A y n1 f k h q =>
  unfold mh;split
  ·exact .dead _
  ·exact .kY u i g o j l z A y n1 ((r i (by assumption)).trans f) k h q
 |nR u i g o j m off l z A y n1 f k h q =>
  unfold mh;split
  ·exact .dead _
  ·exact .nR u i g o j m off l z A y n1 ((r i (by assumption)).trans f) k h q
 |dead u=>unfold mh;exact .dead u
theorem Yq{w:World}{B:Nat}{C:Value}{e y:TypeId}{sz k N:Nat}{es:List (List PV)}{us:List Value}{dx:Nat->Value}{J:Mem}(h:sZ w B I C e sz (fO k dx es) us)(g:∀x∈es,x.length=sz)
  (F:BH w B I k y N dx es) (t:I.sub J) (z:∀b i,i<es.length->(dx i).ownBlock=some b->∀o v,w.cell? ⟨b,o,none⟩=some v->J b o=some v) :
  ∀ (j:Nat) u c,us[j]? = some u->es.flatten[j]? = some c->VR J u c:=λj u c r a=>by
 have D:=bG g;have H:j<es.length * sz:=by rw[<-D];exact (List.getElem?_eq_some_iff.1 a).1
 have q:=h.pos;have d:j / sz<es.length:=(Nat.div_lt_iff_lt_mul q).2 H;have n:j % sz<sz:=Nat.mod_lt _ q;have G:j=j / sz * sz+j % sz:=(Nat.div_add_mod' j sz).symm;generalize j / sz=i at *;generalize j % sz=m at *;subst G;rw[iH g i m d n] at a;have f:=iH h.all i m (by rw[fV];exact d) n;have E:(fO k dx es).getD i []=(es.getD i []).set k (.val (dx i)):=by rw[List.getD_eq_getElem?_getD,uF];simp[d]
 rw[E] at f;by_cases p:k=m
 ·subst p;have s:es[i]? = some (es.getD i []):=by simp[d]
  obtain⟨l,P,L,M,O⟩:=F i _ s;rw[L] at a;simp only[cG] at a;subst a;have K:(es.getD i []).length=sz:=g _ (List.mem_of_getElem? s);rw[List.getElem?_set,if_pos rfl,if_pos (by rw[K];exact n)] at f;have:=h.val _ u _ r f;cases this;exact M.CN t λb A=>z b i d A
 ·rw[List.getElem?_set,if_neg p,a] at f;exact (h.val _ u c r f).mono t
open Classical in
noncomputable def Mem.inner(I:Mem)(w:World)(dx:Nat->Value)(n:Nat):Mem:=λb o=>if ∃i,i<n/\(dx i).ownBlock=some b then w.cell? ⟨b,o,none⟩ else I b o
theorem kN{env:Env}{H:az}(id v:Nat)(e:TypeId)(sz k:Nat)(e':TypeId)(a6:Nat)(es:List (List PV))(a9:id<1000000)(Y:H id=some (.deep v e sz k e' a6 es)):dw env H (Dq id env) (xZ id H):=λC I L tm w n=>by
 obtain⟨M,us,dx,E,R,q3,q4,q5,q6,q7⟩:=n.chunk id _ Y;have Ak:C.L0 id=none:=by
  cases h:C.L0 id with
  |none=>rfl
  |some l=>have:=C.Ak id l h;omega
 let J:Mem:=I.inner w dx es.length;have X:∀i b o,i<es.length->(dx i).ownBlock=some b->J b o=w.cell? ⟨b,o,none⟩:=λi b o f m=>by show I.inner w dx es.length b o=_;unfold Mem.inner;rw[if_pos ⟨i,f,m⟩]
 have B:∀b o,(¬ ∃i,i<es.length/\(dx i).ownBlock=some b)->J b o=I b o:=λb o hn=>by show I.inner w dx es.length b o=_;unfold Mem.inner;rw[if_neg hn]
 have D:I.sub J:=λb o u r=>by
  by_cases h:∃i,i<es.length/\(dx i).ownBlock=some b
  ·obtain⟨i,f,m⟩:=h;rw[X i b o f m];exact n.mem b o u r
  ·rw[B b o h];exact r
 have aA:J.en w:=λb o u r=>by
  by_cases h:∃i,i<es.length/\(dx i).ownBlock=some b
  ·obtain⟨i,f,m⟩:=h;rw[X i b o f m] at r;exact r
  ·rw[B b o h] at r;exact n.mem b o u r
 have P:∀i l b,i≠id->L i=some l->l.has b->¬ ∃j,j<es.length/\(dx j).ownBlock=some b:=λi l b f hl m ⟨j,A,aa⟩=>f (n.apart i id l _ b hl E m (.inr ⟨j,A,aa⟩))
 refine⟨J,ct L id (.row v M sz),?_⟩;have s:∀i,i≠id->ct L id (.row v M sz) i=L i:=λi f=>by simp[ct,f]
 exact
 {below:=n.below
  mem:=aA
  lH:=Mem.mD n.lH D
  mF:=λb m hf o=>by
   rw[B b o λ⟨i,f,aM⟩=>?_]
   ·exact n.mF b m hf o
   ·rcases n.jQ id _ b E (.inr ⟨i,f,aM⟩) with h|h
    ·omega
    ·exact hf h
  frame:=n.frame
  loc:=λi=>by
   by_cases f:i=id
   ·subst f;rw[Ak];trivial
   ·rw[s i f];exact n.loc i
  jQ:=λi l b hl m=>by
   by_cases f:i=id
   ·subst f;have:Loc.row v M sz=l:=by simpa[ct] using hl
    subst this;exact n.jQ i _ b E (.inl m)
   ·rw[s i f] at hl;exact n.jQ i l b hl m
  size:=n.size
  env:=λt=>(n.env t).flat E D
  dom:=λi l hl=>by
   by_cases f:i=id
   ·subst f;exact⟨.row v e sz es,by unfold xZ;rw[if_pos rfl,Y];rfl⟩
   ·rw[s i f] at hl;obtain⟨c,p⟩:=n.dom i l hl;exact⟨Bu id c,by unfold xZ;rw[if_neg f,p];rfl⟩
  chunk:=λi c p=>by
   by_cases f:i=id
   ·subst f;unfold xZ at p;rw[if_pos rfl,Y] at p;simp only[Dr,cG] at p;subst p;refine⟨M,us,by simp[ct],?_,R.pos,q5,λj u c r p=>?_,R.one,λb m o=>?_⟩
    ·have:=R.own;rw[fV] at this;exact this
    ·exact Yq R q5 q6 D (λb j A m o u r=>by rw[X j b o A m];exact r) j u c r p
    ·rw[B b o λ⟨j,A,aa⟩=>q7.1 j b A aa m];exact R.free b m o
   ·unfold xZ at p;rw[if_neg f] at p;cases Z:H i with
    |none=>rw[Z] at p;cases p
    |some c0 =>
     rw[Z] at p;simp only[Cf,cG] at p;subst p;have N:=n.chunk i c0 Z;cases c0 with
     |box cs =>
      obtain⟨b,arr,e0,q,y,z,F,G,K⟩:=N;refine⟨b,arr,e0,(s i f).trans q,y,by rw[nY];exact z,λj u c r p=>?_,G,λo=>?_⟩
      ·obtain⟨d,hd,rfl⟩:=sG p;exact (F j u d r hd).flat E D
      ·rw[B b o (P i _ b f q rfl)];exact K o
     |row W e1 S V=>obtain⟨O,af,q,y,z,F,G,K,Q⟩:=N;exact⟨O,af,(s i f).trans q,y,z,F,λj u c r p=>(G j u c r p).mono D,K,λb m o=>by rw[B b o (P i _ b f q m)];exact Q b m o⟩
     |shut W V=>obtain⟨O,S,q,y,z⟩:=N;exact⟨O,S,(s i f).trans q,y.mono D,z⟩
     |blk b1 o1=>obtain⟨q,y,z⟩:=N;exact⟨(s i f).trans q,y,λo=>by rw[B b1 o (P i _ b1 f q rfl)];exact z o⟩
     |tail W e1 S V=>obtain⟨g,o0,cap,arr,q,y,z,F,G,K,Q,g8⟩:=N;exact⟨g,o0,cap,arr,(s i f).trans q,y,z,F,G,K,Q.mono D,λj a b=>by rw[B g j (P i _ g f q rfl)];exact g8 j a b⟩
     |deep W e1 S k1 e2 s2 V =>
      obtain⟨O,af,rO,q,y,z,F,G,K,Q⟩:=N;have hk:∀b,(Loc.deep W O S s2 rO V.length).has b->w.heap[b]? = w.heap[b]?/\∀o,J b o=I b o:=λb m=>⟨rfl,λo=>B b o (P i _ b f q m)⟩
      refine⟨O,af,rO,(s i f).trans q,y.keep D λb m=>hk b (.inl m),z,F,G,λj x hx=>?_,Q⟩;obtain⟨l,a7,m1,m2,m3⟩:=K j x hx;exact⟨l,a7,m1,m2.keep D λb m=>hk b (.inr ⟨j,(List.getElem?_eq_some_iff.1 hx).1,m⟩),m3⟩
  gh:=λi l b hl m=>by
   by_cases f:i=id
   ·subst f;have:Loc.row v M sz=l:=by simpa[ct] using hl
    subst this;exact n.gh i _ b E (.inl m)
   ·rw[s i f] at hl;exact n.gh i l b hl m
  apart:=λi j li lj b f A sq vE=>by
   by_cases T:i=id<;>by_cases U:j=id
   ·rw[T,U]
   ·subst T;have:Loc.row v M sz=li:=by simpa[ct] using f
    subst this;rw[s j U] at A;exact n.apart i j _ lj b E A (.inl sq) vE
   ·subst U;have:Loc.row v M sz=lj:=by simpa[ct] using A
    subst this;rw[s i T] at f;exact n.apart i j li _ b f E sq (.inl vE)
   ·rw[s i T] at f;rw[s j U] at A;exact n.apart i j li lj b f A sq vE }
end Go.cv
namespace Go.cv
open Go.RowKit
variable{P:Program}{I:Mem}{L:bB}
theorem eP.Kj{u:Value}{id v:Nat}{b:Value}{sz:Nat}(h:eP I L u (.row id v))(c:L id=some (.row v b sz)):u=b:=by
 cases h with
 |row _ _ _ k i j a f d g=>rw[c] at a;simp only[cG,Loc.row.injEq] at a;obtain⟨r1,r2,e⟩:=a;subst r1 r2 e;exact d rfl
section
variable{ops:Array Oper}{Q:Exit->Act->World->Prop}{C:Ctx}{env:Env}{H:az}{tm:Array Value}{w:World}{fuel:Nat}{bE:Array Bool}
end
end Go.cv
namespace Go.cv
open Go.RowKit
variable{P:Program}{I:Mem}{L:bB}
theorem Yr{α:Type}{sz:Nat}{es ns:List (List α)}(h:∀x∈es,x.length=sz)(d:∀x∈ns,x.length=sz)(o:Nat)(f:o+ns.length<=es.length):(splice es o ns).flatten=splice es.flatten (o * sz) ns.flatten:=by
 have a:∀n,n<=es.length->(es.take n).flatten=es.flatten.take (n * sz)/\(es.drop n).flatten=es.flatten.drop (n * sz):=λn e=>by
  have b:es.flatten=(es.take n).flatten++(es.drop n).flatten:=by rw[<-List.flatten_append,List.take_append_drop]
  have c:(es.take n).flatten.length=n * sz:=by rw[bG (sz:=sz) λx g=>h x (List.mem_of_mem_take g),List.length_take,Nat.min_eq_left e]
  rw[b,<-c,List.take_left,List.drop_left];exact⟨rfl,rfl⟩
 unfold splice;rw[List.flatten_append,List.flatten_append,(a o (by omega)).1,(a _ f).2,bG d,Nat.add_mul]
theorem Kk{C:Ctx}{env:Env}{H:az}{tm:Array Value}{w:World}(f:iG C env H I L tm w){id v:Nat}{e:TypeId}{sz:Nat}{es ns:List (List PV)}(O:H id=some (.row v e sz es)){g n cap:Nat}(b:L id=some (.row v (.slice (some ⟨g,0,none⟩) n cap) sz))
  {o:Nat} (q:o+ns.length<=es.length) (p:∀x∈ns,x.length=sz) {cs:List Value} (Q:cs.length=ns.length * sz) (N:∀v∈cs,v.oneCell'=true) (U:∀ (j:Nat) u c,cs[j]? = some u->ns.flatten[j]? = some c->VR I u c) :
  ∃a,w.heap[g]? = some (.cells a e (0,0))/\(∀j,j<es.length * sz->(a[j]?).isSome=true)/\o * sz+cs.length<=a.size/\Fr C I L H w I L (bn H id (.row v e sz (splice es o ns))) (w.setRow g (splice a.toList (o * sz) cs).toArray):=by
 obtain⟨af,us,r,D,X,m,Y,Z,E⟩:=f.chunk id _ O;rw[b] at r;simp only[cG,Loc.row.injEq,true_and,and_true] at r;subst r;rcases D.2 with ⟨F,_⟩|⟨g',cp,a,t,P,y,A,R,ae,W⟩
 ·cases F
 simp only[Value.slice.injEq,cG,Addr.mk.injEq] at t;obtain⟨⟨J,_⟩,K,M⟩:=t;subst J K M;have S:(o+ns.length) * sz<=es.length * sz:=Nat.mul_le_mul_right _ q;have aa:es.length * sz<=cap * sz:=Nat.mul_le_mul_right _ A;rw[Nat.add_mul] at S;refine⟨a,y,λj hj=>by rw[Array.getElem?_eq_getElem (by omega)];rfl,by omega,λenv tm f=>?_⟩;have s:us.length=es.length * sz:=D.1;have l:(splice es o ns).length=es.length:=eD q;have G:ct L id (.row v (.slice (some ⟨g,0,none⟩) es.length cap) sz)=L:=by
  funext i;unfold ct;split
  ·rename_i h;rw[h,b]
  ·rfl
 have B:=f.s7 (w':=w.setRow g (splice a.toList (o * sz) cs).toArray) (l':=.row v (.slice (some ⟨g,0,none⟩) es.length cap) sz) (sU _ (f.gh id _ g b rfl).1) b (λk d T=>setRow_other w g k _ (λe=>T (by rw[e];rfl))) (dQ.CO b) (λk d=>E k d) (.row v e sz (splice es o ns)) (by
  refine⟨.slice (some ⟨g,0,none⟩) es.length cap,splice us (o * sz) cs,by simp[ct],⟨?_,.inr ⟨g,cap,(splice a.toList (o * sz) cs).toArray,by rw[l],P,setRow_heap w g a _ e _ y,by rw[l];exact A,R,?_,?_⟩⟩,X,?_,?_,xO Z N,E⟩
  ·rw[l,eD (by omega)];exact s
  ·simp only[List.size_toArray];rw[eD (by simp;omega)];simp;omega
  ·rw[l];show (splice a.toList (o * sz) cs).take (es.length * sz)=splice us (o * sz) cs;rw[zv (by omega) (by simp;omega),W]
  ·intro z V;rcases List.mem_append.1 V with h|h
   ·rcases List.mem_append.1 h with h|h
    ·exact m z (List.mem_of_mem_take h)
    ·exact p z h
   ·exact m z (List.mem_of_mem_drop h)
  ·rw[Yr m p o q];exact Ew (by rw[bG m];exact s) (by rw[bG p];exact Q) Y U) (λk d=>.inl d)
 rw[G] at B;exact B
theorem Kl{C:Ctx}{env:Env}{H:az}{tm:Array Value}{w:World}(t:iG C env H I L tm w){id v:Nat}{e:TypeId}{sz:Nat}{es:List (List PV)}(l:H id=some (.row v e sz es))(F:0<es.length) :
  ∃g cap,L id=some (.row v (.slice (some ⟨g,0,none⟩) es.length cap) sz)/\es.length<=cap/\∀ {u:Value} {off n m d:Nat},eP I L u (.iV id v off n m d)->d=sz/\∃a,u = .slice a n (cap-off)/\n<=m/\m<=cap-off/\(a=none->cap-off=0)/\(off<cap\/off=0->a=some ⟨g,off * sz,none⟩):=by
 obtain⟨M,us,j,z,S,T,U,V,W⟩:=t.chunk id _ l;rcases z.2 with ⟨_,i⟩|⟨g,k,E,p,G,N,s,J,K,R⟩
 ·omega
 subst p;refine⟨g,k,j,s,λ{u off n m d} x=>?_⟩;cases x with
 |iV a _ _ Y _ _ _ c P X b O i r y q=>rw[j] at b;simp only[cG,Loc.row.injEq] at b;obtain⟨r1,r2,A⟩:=b;subst r1 r2 A;obtain⟨D,Q,B,f,rfl,o⟩:=q rfl;simp only[Value.slice.injEq] at f;obtain⟨rfl,rfl,rfl⟩:=f;refine⟨rfl,a,rfl,i,r,y,λh=>?_⟩;rw[o h];simp[Addr.add_mid]
theorem Km{o:Oper}{W:Env->az->Prop}{env:Env}{H:az}(t1 t2:TypeId)(x y:Operand)(id v n m off d m':Nat)(e:TypeId)(sz qM:Nat)(es:List (List PV))(ao:o.op = .call ⟨.builtin .append,#[x,y],#[t1,t2]⟩)(ht:dA P t1 t2=some (e,sz,qM))
  (k:ev env x = .iV id v 0 n m sz) (hy:ev env y = .iV id v off d m' sz) (q:H id=some (.row v e sz es)) (Y:0<es.length) (hn:n+d<=m) (hm:m<=es.length) (an:off+d<=es.length)
  (Z:W (cW env o.dst (.iV id v 0 (n+d) m sz)) (bn H id (.row v e sz (splice es n ((es.drop off).take d))))):j6 P o W env H:=by
 refine .inr (.inr (.inl λC I L tm w σ t N=>⟨_,_,Z,?_⟩));have K:=N x;have M:=N y;rw[k] at K;rw[hy] at M;obtain⟨rfl,f,bj,a0,i,z,hi,hz,ar,ba,bo⟩:=nX ht;obtain⟨g,cap,r,bi,E⟩:=Kl t q Y;obtain⟨_,a,p,a1,R,a3,S⟩:=E K;obtain⟨_,b,X,b1,b2,b3,T⟩:=E M;have aa:=S (.inr rfl);subst aa;rw[Nat.zero_mul] at p;rw[Nat.sub_zero] at p R;obtain⟨bc,us,A,O,q3,Q,q5,q6,q7⟩:=t.chunk id _ q;rw[r] at A;simp only[cG,Loc.row.injEq,true_and,and_true] at A;subst A;have bk:us.length=es.length * sz:=O.1;have ad:=O.cells (g:=g) rfl;have s:((es.drop off).take d).length=d:=by rw[List.length_take,List.length_drop];omega
 have F:∀x∈(es.drop off).take d,x.length=sz:=λx k=>Q x (List.mem_of_mem_drop (List.mem_of_mem_take k))
 have al:(off+d) * sz<=es.length * sz:=Nat.mul_le_mul_right _ an;rw[Nat.add_mul] at al;have B:((us.drop (off * sz)).take (d * sz)).length=d * sz:=by rw[List.length_take,List.length_drop];omega
 have af:((es.drop off).take d).flatten=(es.flatten.drop (off * sz)).take (d * sz):=by
  have f1:es.flatten=(es.take off).flatten++(es.drop off).flatten:=by rw[<-List.flatten_append,List.take_append_drop]
  have f2:(es.take off).flatten.length=off * sz:=by rw[bG (sz:=sz) λx k=>Q x (List.mem_of_mem_take k),List.length_take,Nat.min_eq_left (by omega)]
  have f3:(es.drop off).flatten=((es.drop off).take d).flatten++((es.drop off).drop d).flatten:=by rw[<-List.flatten_append,List.take_append_drop]
  have f4:((es.drop off).take d).flatten.length=d * sz:=by rw[bG F,s]
  rw[f1,<-f2,List.drop_left,f3,<-f4,List.take_left]
 have G:∀u∈(us.drop (off * sz)).take (d * sz),u.oneCell'=true:=λu f=>q6 u (List.mem_of_mem_drop (List.mem_of_mem_take f))
 obtain⟨D,U,c2,c3,V⟩:=Kk t q r (o:=n) (ns:=(es.drop off).take d) (by rw[s];omega) F (cs:=(us.drop (off * sz)).take (d * sz)) (by rw[B,s]) G (λj u c f l=>by
  rw[af] at l;rw[List.getElem?_take] at f l;split at f
  ·rename_i hj;rw[if_pos hj,List.getElem?_drop] at l;rw[List.getElem?_drop] at f;exact q5 _ u c f l
  ·cases f)
 have am:d=0\/∃bb,b=some bb/\∀ (j:Nat) u,((us.drop (off * sz)).take (d * sz))[j]? = some u->w.cell? (bb.add j)=some u:=by
  rcases Nat.eq_zero_or_pos d with h|h
  ·exact .inl h
  ·refine .inr ⟨_,T (.inl (by omega)),λj u f=>?_⟩;rw[List.getElem?_take] at f;split at f
   ·rw[List.getElem?_drop] at f;have:=ad _ u f;rw[Addr.add_mid,Nat.zero_add] at this;rw[Addr.add_mid];exact this
   ·cases f
 have aq:(execOp σ o).run P w = .ok (.value (.slice (some ⟨g,0,none⟩) (n+d) cap)) (w.setRow g (splice D.toList (n * sz) ((us.drop (off * sz)).take (d * sz))).toArray):=by
  unfold execOp;rw[ao];have J:=run_storeCells_at (P:=P) g (n * sz) e ((us.drop (off * sz)).take (d * sz)) 0 D w U (by omega) G;simp only[Nat.add_zero] at J;have ae:(Builtin.firstCells sz d (.slice b d (cap-off))).run P w = .ok ((us.drop (off * sz)).take (d * sz)).toArray w:=by
   rcases am with h|⟨bb,rfl,hb⟩
   ·subst h;cases b with
    |none=>simp[Builtin.firstCells]
    |some bb=>simpa using run_firstCells_some (P:=P) w sz 0 bb 0 (cap-off) [] (by simp) (λj u f=>by simp at f)
   ·exact run_firstCells_some (P:=P) w sz d bb d (cap-off) _ B hb
  have ap:n+d<=cap:=by omega
  simp[resolve,invoke,builtin,Result.andThen,p,X,Builtin.append_,run_underlying f,sizeOf,typeInfo,hi,ar,Builtin.lenOf,ap,ae,Addr.add_mid,J,splice]
 exact⟨_,_,I,L,.inl aq,.iV _ _ _ v _ _ _ cap _ _ r (Nat.le_refl _) (by omega) (by omega) (λh=>by cases h) (λ_=>⟨_,_,_,rfl,rfl,λ_=>by simp[Addr.add_mid]⟩),V⟩
theorem sH{o:Oper}{W:Env->az->Prop}{env:Env}{H:az}(t:TypeId)(x:Operand)(id v off n m:Nat)(e:TypeId)(sz:Nat)(es:List (List PV))(b:List Value)(B:o.op = .call ⟨.builtin .clear,#[x],#[t]⟩)(Z:cT P t=some e)(hz:cN P e=some b)(G:b.length=sz)(ap:0<sz)(ad:b.all Value.oneCell'=true)
  (l:ev env x = .iV id v off n m sz) (q:H id=some (.row v e sz es)) (R:0<es.length) (X:off+n<=es.length)
  (T:W (cW env o.dst (.dY [])) (bn H id (.row v e sz (splice es off (List.replicate n (b.map PV.val)))))):j6 P o W env H:=by
 refine .inr (.inr (.inl λC I L tm w σ p af=>⟨_,_,T,?_⟩));have F:=af x;rw[l] at F;obtain⟨g,cap,S,ao,V⟩:=Kl p q R;obtain⟨_,a,A,a1,a2,a3,J⟩:=V F;have d:=fP Z;obtain⟨z,ae,ab⟩:=wS hz w;have K:(List.replicate n b).flatten.length=n * sz:=by rw[bG (sz:=sz) λx l=>by rw[List.eq_of_mem_replicate l];exact G,List.length_replicate]
 have r:∀u∈(List.replicate n b).flatten,u.oneCell'=true:=λu d=>by obtain⟨x,l,E⟩:=List.mem_flatten.1 d;rw[List.eq_of_mem_replicate l] at E;exact List.all_eq_true.1 ad u E
 have N:(List.replicate n (b.map PV.val)).flatten=(List.replicate n b).flatten.map PV.val:=by simp[List.map_flatten]
 obtain⟨y,O,c2,c3,Q⟩:=Kk p q S (o:=off) (ns:=List.replicate n (b.map PV.val)) (by rw[List.length_replicate];exact X) (λx l=>by rw[List.eq_of_mem_replicate l,List.length_map];exact G) (cs:=(List.replicate n b).flatten) (by rw[K,List.length_replicate]) r (λj u c d f=>by
  rw[N,List.getElem?_map,d] at f;simp at f;subst f;exact .val u (r u (List.mem_of_getElem? d)))
 rcases Nat.eq_zero_or_pos n with h|h
 ·subst h;have Y:splice es off (List.replicate 0 (b.map PV.val))=es:=by simp[splice]
  have s:(execOp σ o).run P w = .ok (.value (.tuple #[])) w:=by unfold execOp;rw[B];cases a<;>simp[resolve,invoke,builtin,Result.andThen,A,Builtin.clear_,run_underlying d]
  refine⟨_,_,I,L,.inl s,.dY _ _ rfl (λi u c d f=>by simp at f),λenv tm p=>?_⟩;rw[Y];have:bn H id (.row v e sz es)=H:=by
   funext i;unfold bn;split
   ·rename_i h;rw[h,q]
   ·rfl
  rw[this];exact p
 ·have U:=J (.inl (by omega));subst U;have s:(execOp σ o).run P w = .ok (.value (.tuple #[])) (w.setRow g (splice y.toList (off * sz) (List.replicate n b).flatten).toArray):=by unfold execOp;rw[B];have D:=run_storeCells_at (P:=P) g (off * sz) e (List.replicate n b).flatten 0 y w O (by omega) r;simp only[Nat.add_zero] at D;have M:Builtin.zeroCells b.toArray n=(List.replicate n b).flatten.toArray:=CM b n (by omega);obtain⟨k,rfl⟩:∃k,n=k+1:=⟨n-1,by omega⟩;simp only[resolve,invoke,builtin,Result.andThen,Builtin.clear_,Sem.run_bind];simp[Result.andThen,A,run_underlying d,ae,ab,M,D,splice]
  exact⟨_,_,I,L,.inl s,.dY _ _ rfl (λi u c d f=>by simp at f),Q⟩
theorem Kn{C:Ctx}{E:Env}{H:az}{tm:Array Value}{w:World}(i:iG C E H I L tm w){id v:Nat}{e:TypeId}{sz:Nat}{es:List (List PV)}{u:Value}(j:eP I L u (.row id v))(c:H id=some (.row v e sz es)):eP I L u (.iV id v 0 es.length es.length sz):=by
 obtain⟨m,us,b,k,n,o,p,q,r⟩:=i.chunk id _ c;rw[j.Kj b];rcases k.2 with ⟨a,d⟩|⟨g,cap,l,a,_,_,f,_⟩
 ·subst a;rw[d];exact .iV _ _ _ v _ _ _ 0 _ _ b (Nat.le_refl _) (by omega) (by omega) (λ_=>rfl) (λ_=>⟨none,0,0,rfl,rfl,λ_=>rfl⟩)
 ·subst a;exact .iV _ _ _ v _ _ _ cap _ _ b (Nat.le_refl _) (by omega) f (λh=>by cases h) (λ_=>⟨_,_,cap,rfl,rfl,λ_=>by simp[Addr.add_mid]⟩)
theorem nZ{E:Env}{H:az}(t id v:Nat)(e:TypeId)(sz:Nat)(es:List (List PV))(d:E t = .row id v)(b:H id=some (.row v e sz es)):dw E H (cK E t (.iV id v 0 es.length es.length sz)) H:=λC I L tm w a=>by
 refine⟨I,L,{ a with env:=λi=>?_ }⟩;unfold cK;split
 ·rename_i c;rw[c];exact Kn a (d ▸ a.env t) b
 ·exact a.env i
theorem Ko{C:Ctx}{E:Env}{H:az}{tm:Array Value}{w:World}(F:iG C E H I L tm w){id v n m:Nat}{e:TypeId}{sz:Nat}{es:List (List PV)}{N:Value}(al:eP I L N (.iV id v 0 n m sz))(T:H id=some (.row v e sz es))(hn:n<=es.length) :
  ∃L',eP I L' N (.row id (v+1))/\iG C E (bn H id (.row (v+1) e sz (es.take n))) I L' tm w:=by
 obtain⟨D,us,y,z,q3,K,q5,q6,M⟩:=F.chunk id _ T;cases al with
 |iV a _ _ v1 _ _ _ c j5 aP t ar ax hm hz hh =>
  rw[y] at t;simp only[cG,Loc.row.injEq,and_true] at t;obtain⟨r1,r2⟩:=t;subst r1;subst r2;obtain⟨P,k,cap,p,rfl,U⟩:=hh rfl;have V:a=P:=by
   have:=U (.inr rfl);rw[this];rcases z.2 with ⟨d,_⟩|⟨g,Q,A,d,_⟩
   ·rw[p] at d;simp only[Value.slice.injEq] at d;rw[d.1];rfl
   ·rw[p] at d;simp only[Value.slice.injEq] at d;rw[d.1];simp[Addr.add_mid]
  subst V;have af:n * sz<=es.length * sz:=Nat.mul_le_mul_right _ hn;have G:(es.take n).length=n:=by rw[List.length_take];omega
  have aA:us.length=es.length * sz:=z.1;have aa:(es.take n).flatten=es.flatten.take (n * sz):=by
   have R:es.flatten=(es.take n).flatten++(es.drop n).flatten:=by rw[<-List.flatten_append,List.take_append_drop]
   have S:(es.take n).flatten.length=n * sz:=by rw[bG (sz:=sz) λx s=>K x (List.mem_of_mem_take s),G]
   rw[R,<-S,List.take_left]
  have O:∀ (f:Value),w.ownsRow C.B e sz f n (us.take (n * sz))->(∀b,f.ownBlock=some b->D.ownBlock=some b)->qL I (ct L id (.row (v+1) f sz)) w C.B id (.row (v+1) e sz (es.take n)):=λf r i=>by
   refine⟨f,us.take (n * sz),by simp[ct],by rw[G];exact r,q3,λx s=>K x (List.mem_of_mem_take s),λj u c l q=>?_,λu l=>q6 u (List.mem_of_mem_take l),λb h=>M b (i b h)⟩;rw[List.getElem?_take] at l;rw[aa,List.getElem?_take] at q;split at l
   ·rename_i hj;rw[if_pos hj] at q;exact q5 j u c l q
   ·cases l
  have J:∀f:Value,f = .slice a n c->w.ownsRow C.B e sz f n (us.take (n * sz))->(∀b,f.ownBlock=some b->D.ownBlock=some b)->∃L',eP I L' (.slice a n c) (.row id (v+1))/\iG C E (bn H id (.row (v+1) e sz (es.take n))) I L' tm w:=λf Z r i=>⟨ct L id (.row (v+1) f sz),.row _ _ _ (v+1) f sz (by simp[ct]) (Nat.le_refl _) (λ_=>Z.symm) rfl,F.s7 (Below.refl _ _) y (λ_ _ _=>rfl) (dQ.If y) (λb i o=>M b i o) _ (O f r i) (λb W=>.inl (i b W))⟩
  rcases z.2 with ⟨d,aM⟩|⟨g,Q,A,d,i,hg,aw,X,Y,mc⟩
  ·rw[p] at d;simp only[Value.slice.injEq] at d;obtain⟨rfl,rfl,rfl⟩:=d;have ak:n=0:=by omega
   subst ak;exact J _ rfl ⟨by simp,.inl ⟨rfl,rfl⟩⟩ (λb i=>by cases i)
  ·rw[p] at d;simp only[Value.slice.injEq] at d;obtain⟨rfl,rfl,rfl⟩:=d;refine J _ rfl ⟨?_,.inr ⟨g,c,A,rfl,i,hg,by omega,X,Y,?_⟩⟩ (λb i=>by rw[p];exact i)
   ·rw[List.length_take];omega
   ·rw[<-mc,List.take_take,Nat.min_eq_left af]
theorem sI{f:FuncId}{v:Nat}{e:TypeId}{sz:Nat}{es R:List (List PV)}{ps:List PV}(h:kZ P f v e sz es ps λa c=>∃es' n m,(a = .iV 1000000 v 0 n m sz\/(a = .row 1000000 v/\n=es'.length))/\c=some (.row v e sz es')/\n<=es'.length/\es'.take n=R) :
  kZ P f v e sz es ps λa c=>a = .row 1000000 (v+1)/\c=some (.row (v+1) e sz R) :=
 ⟨h.1,λB I w q us vs o p r b s=>(h.2 B I w q us vs o p r b s).mono λ_ _ ⟨u,a,H',I',L',k,⟨es',n,m,t,i,x,y⟩,l,j⟩=>by
  subst y;rcases t with rfl|⟨rfl,rfl⟩
  ·obtain⟨d,b,g⟩:=Ko j l i x;exact⟨u,_,_,I',d,k,⟨rfl,by simp[bn]⟩,b,g⟩
  ·obtain⟨d,b,g⟩:=Ko j (Kn j l i) i (Nat.le_refl _);exact⟨u,_,_,I',d,k,⟨rfl,by simp[bn]⟩,b,g⟩⟩
theorem Kp{o:Oper}{W:Env->az->Prop}{env:Env}{H:az}(t:TypeId)(x lo d i:Operand)(s id v:Nat)(e:TypeId)(sz:Nat)(es:List (List PV))(f X Y:IntKind)(l h m:Int)(N:o.op = .slice t x (some lo) (some d) (some i))(T:cT P t=some e)(S:bu P e=some sz)
  (R:env s = .row id v) (V:ev (cK env s (.iV id v 0 es.length es.length sz)) x = .row id v) (E:ev (cK env s (.iV id v 0 es.length es.length sz)) lo = .p (.val (.int f l))) (B:ev (cK env s (.iV id v 0 es.length es.length sz)) d = .p (.val (.int X h))) (J:ev (cK env s (.iV id v 0 es.length es.length sz)) i = .p (.val (.int Y m)))
  (j:H id=some (.row v e sz es)) (z:0<=l/\l<=h/\h<=m/\m<=es.length) (y:W (cW (cK env s (.iV id v 0 es.length es.length sz)) o.dst .dead) H):j6 P o W env H:=by
 refine uJ (nZ s id v e sz es R j) (.inr (.inl λC I L tm w σ Q c=>⟨.dead,H,y,?_⟩));have k:=c x;have F:=(E ▸ c lo).eT.1;have D:=(B ▸ c d).eT.1;have G:=(J ▸ c i).eT.1;rw[V] at k;obtain⟨A,us,Z,q2,q3,q4,q5,q6,q7⟩:=Q.chunk id _ j;have U:=k.Kj Z;obtain⟨n,q,r,b3⟩:=z;obtain⟨a,cap,b,ae⟩:∃a cap,A = .slice a es.length cap/\es.length<=cap:=by
  rcases q2.2 with ⟨b,K⟩|⟨g,cap,ad,b,_,_,M,_⟩
  ·exact⟨none,0,by rw[K];exact b,by omega⟩
  ·exact⟨_,cap,b,M⟩
 have u:m<=(cap:Int):=by omega
 have O:(execOp σ o).run P w = .ok (.value (.slice (if m.toNat=l.toNat then a else a.map (·.add (l.toNat * sz))) (h.toNat-l.toNat) (m.toNat-l.toNat))) w:=by unfold execOp;rw[N];simp only[Option.map_some,U,F,D,G,b];rw[run_lift];simp[Instr.sliceAt,Instr.slice,run_underlying (fP T),wR (P:=P) (s8:=true) (lo:=some (.int f l)) (.inr ⟨f,rfl⟩) n q r u,dX S,Result.andThen]
 exact .still O (.dead _)
variable{t:TypeId}
def F4(e:Option TypeId)(f:TypeId->Option Nat)(a b:Option Int)(id c off m sz:Nat):Option (Prop×AV):=match e,a,b with
 |some e,some l,some h=>(match f e with
  |some d=>some ((0<=l/\l<=h/\h<=m)/\d=sz,.iV id c (off+l.toNat) (h.toNat-l.toNat) (m-l.toNat) sz)
  |none=>none)
 |_,_,_=>none
theorem Ys{id b off n m sz:Nat}{lo a:Option AV} : tF P t (.iV id b off n m sz) lo a none=F4 (cT P t) (bu P) (gE 0 lo) (gE n a) id b off m sz:=by unfold tF F4;simp only[];all_goals(cases cT P t<;>cases gE 0 lo<;>cases gE n a<;>rfl)
theorem Yt(e:TypeId)(f:TypeId->Option Nat)(l h:Int)(id a off m sz:Nat):F4 (some e) f (some l) (some h) id a off m sz=(match f e with
  |some b=>some ((0<=l/\l<=h/\h<=m)/\b=sz,.iV id a (off+l.toNat) (h.toNat-l.toNat) (m-l.toNat) sz)
  |none=>none):=rfl
theorem Yu{H:az}{id a off n m sz:Nat}(h:isSlice P t=true):sy P t (.iV id a off n m sz) H=some (True,.p (.val (.int .i64 n)),H):=by simp[sy,rP,h,dh]
def F5(r:Option (Nat×List (List PV)))(e:Option TypeId)(f:TypeId->Option Nat)(id a off m:Nat)(n:Int)(H:az):Option (Prop×AV×az):=match r,e with
 |some (sz,es),some e=>(match f e with
  |some b=>some ((0<=n/\n<m/\off+m<=es.length)/\b=sz,.jD id a (off+n.toNat) 0,H)
  |none=>none)
 |_,_=>none
theorem Yv{H:az}{id b off m c z:Nat}{k:IntKind}{a:Int} : pM P t (.iV id b off m c z) (.p (.val (.int k a))) H=F5 (r0 H id b) (cT P t) (bu P) id b off m a H:=by unfold pM F5;simp only[];all_goals(cases r0 H id b<;>cases cT P t<;>rfl)
theorem Yw(sz:Nat)(es:List (List PV))(e:TypeId)(f:TypeId->Option Nat)(id a off m:Nat)(n:Int)(H:az):F5 (some (sz,es)) (some e) f id a off m n H=(match f e with
  |some b=>some ((0<=n/\n<m/\off+m<=es.length)/\b=sz,.jD id a (off+n.toNat) 0,H)
  |none=>none):=rfl
theorem Yx(H:az)(id a:Nat):r0 H id a=(match H id with
 |some (.row v _ sz es)=>if v=a then some (sz,es) else none
 |_=>none):=by
 unfold r0;cases H id with
 |none=>rfl
 |some c=>cases c<;>rfl
attribute [go_sem] Ys Yt Yu Yv Yw Yx
end Go.cv
namespace Go.cv
open Go.RowKit
variable{P:Program}{t:TypeId}
theorem Yy(H:az)(id a:Nat):cU H id a=(match H id with
 |some (.deep v _ _ k _ _ es)=>if v=a then some (k,es) else none
 |_=>none):=by
 unfold cU;cases H id with
 |none=>rfl
 |some c=>cases c<;>rfl
def Kq(x:Option PV):Option (List (List PV)):=match x with
 |some (.aV l)=>some l
 |_=>none
theorem Yz(l:List (List PV)):Kq (some (.aV l))=some l:=rfl
theorem YA(k:Nat)(es:List (List PV))(i:Nat):nS (some (k,es)) i=Kq ((es.getD i [])[k]?):=rfl
theorem YB(id a i k:Nat)(x:List PV):AJ id a i k x=(x.map AV.p).set k (.kY id a i):=rfl
theorem YC(H:az)(id a i off:Nat):AM P t (.kX id a i off) H=(match cU H id a with
   |some (k,es)=>(match tc P t (AJ id a i k (es.getD i [])) off with|some v=>some (i<es.length,v,H)|none=>none)
   |none=>none):=rfl
theorem YD(H:az)(id a i j off:Nat):AM P t (.nR id a i j off) H=(match nS (cU H id a) i with
   |some l=>(match td P t (l.getD j []) off with|some x=>some (j<l.length,.p x,H)|none=>none)
   |none=>none):=rfl
theorem YE(H:az)(o n:Nat)(id a i off:Nat):Bi P (some (o,n)) (.kX id a i off) H=(match cU H id a with
   |some _=>some (n≠0,.kX id a i (off+o),H)
   |none=>none):=rfl
def F6(r:Option (Nat×List (List PV)))(e:Option TypeId)(f:TypeId->Option Nat)(id a:Nat)(n:Int)(H:az):Option (Prop×AV×az):=match r,e with
 |some (_,es),some e=>(match f e with
  |some sz=>some ((0<=n/\n<es.length)/\(es.getD n.toNat []).length=sz,.kX id a n.toNat 0,H)
  |none=>none)
 |_,_=>none
theorem YF{H:az}{id b:Nat}{k:IntKind}{a:Int} : pM P t (.eY id b) (.p (.val (.int k a))) H=F6 (cU H id b) (cT P t) (bu P) id b a H:=by unfold pM F6;simp only[];all_goals(cases cU H id b<;>cases cT P t<;>rfl)
theorem YG(k:Nat)(es:List (List PV))(e:TypeId)(f:TypeId->Option Nat)(id a:Nat)(n:Int)(H:az):F6 (some (k,es)) (some e) f id a n H=(match f e with
  |some sz=>some ((0<=n/\n<es.length)/\(es.getD n.toNat []).length=sz,.kX id a n.toNat 0,H)
  |none=>none):=rfl
def F7(r:Option (List (List PV)))(e:Option TypeId)(f:TypeId->Option Nat)(id a i:Nat)(n:Int)(H:az):Option (Prop×AV×az):=match r,e with
 |some l,some e=>(match f e with
  |some sz=>some ((0<=n/\n<l.length)/\(l.getD n.toNat []).length=sz,.nR id a i n.toNat 0,H)
  |none=>none)
 |_,_=>none
theorem YH{H:az}{id b i:Nat}{k:IntKind}{a:Int} : pM P t (.kY id b i) (.p (.val (.int k a))) H=F7 (nS (cU H id b) i) (cT P t) (bu P) id b i a H:=by unfold pM F7;simp only[];all_goals(cases nS (cU H id b) i<;>cases cT P t<;>rfl)
theorem YI(l:List (List PV))(e:TypeId)(f:TypeId->Option Nat)(id a i:Nat)(n:Int)(H:az):F7 (some l) (some e) f id a i n H=(match f e with
  |some sz=>some ((0<=n/\n<l.length)/\(l.getD n.toNat []).length=sz,.nR id a i n.toNat 0,H)
  |none=>none):=rfl
theorem YJ{H:az}{id a i:Nat}(h:isSlice P t=true):sy P t (.kY id a i) H=(match nS (cU H id a) i with
  |some l=>some (True,.p (.val (.int .i64 l.length)),H)
  |none=>none):=by
 simp only[sy,rP,h];all_goals(cases nS (cU H id a) i<;>rfl)
theorem YK(H:az)(id a:Nat):ia H (.eY id a)=qx H (.eY id a):=rfl
theorem YL(H:az)(id a:Nat):qx H (.eY id a)=(match cU H id a with
  |some (_,es)=>some (.aV es,true)
  |none=>none):=rfl
theorem YM(H:az)(id a i:Nat):oE H (.kY id a i)=qx H (.kY id a i):=rfl
theorem YN(H:az)(id a i:Nat):qx H (.kY id a i)=(match nS (cU H id a) i with
  |some l=>some (.aV l,true)
  |none=>none):=rfl
theorem Vj{H' H:az}{id v:Nat}{e:TypeId}{sz k:Nat}{c:TypeId}{d:Nat}{es:List (List PV)}(h:pN H' H):pN (bn H' id (.deep v e sz k c d es)) H:=λi b a=>by
 unfold bn at a;split at a
 ·cases a
 ·exact h i b a
def F8(c:Option Chunk)(id a:Nat):Option (RV×List Nat):=match c with
 |some (.deep v e sz k b d es)=>if v=a then some (.deep e sz k b d es,[id]) else none
 |_=>none
theorem YO(H:az)(id a:Nat):ql H (.eY id a)=F8 (H id) id a:=by unfold F8;simp only[ql];try rfl
theorem YP(v:Nat)(e:TypeId)(sz k:Nat)(b:TypeId)(c:Nat)(es:List (List PV))(id a:Nat):F8 (some (.deep v e sz k b c es)) id a=if v=a then some (.deep e sz k b c es,[id]) else none:=rfl
theorem YQ(n:Nat)(e:TypeId)(sz k:Nat)(a:TypeId)(b:Nat)(es:List (List PV)):dz n (.deep e sz k a b es)=(.eY n 0,n+1):=by simp only[dz]
theorem YR(n:Nat)(H:az)(e:TypeId)(sz k:Nat)(a:TypeId)(b:Nat)(es:List (List PV)):iO n H (.deep e sz k a b es)=bn H n (.deep 0 e sz k a b es):=by simp only[iO]
theorem YS(id v:Nat):b7 (.eY id v)=[.eY id v]:=rfl
theorem YT(id v:Nat):oB (.eY id v)=true:=rfl
attribute [go_sem] YO YP YQ YR YS YT
def F9(P:Program)(e:Option TypeId)(n:Nat)(parts:List (Nat×AV)):Option (TypeId×List AV):=match e with
 |some e=>(match bu P e,cN P e with
  | some sz, some a => if a.length = sz ∧ 0 < sz ∧ n * sz ≤ 16777216 ∧ a.all (·.oneCell') = true then
    (match rX (λi=>some (i * sz,sz)) (iY a n) parts with
    |some cs=>some (e,cs)
    |none=>none)
   else none
  |_,_=>none)
 |none=>none
theorem YU(n:Nat)(parts:List (Nat×AV)):vU P t n parts=F9 P (cT P t) n parts:=by
 unfold vU F9;cases cT P t with
 |none=>rfl
 |some e=>simp only[];all_goals(cases bu P e<;>cases cN P e<;>rfl)
theorem YV(e:TypeId)(n:Nat)(parts:List (Nat×AV)):F9 P (some e) n parts=(match bu P e,cN P e with
  | some sz, some a => if a.length = sz ∧ 0 < sz ∧ n * sz ≤ 16777216 ∧ a.all (·.oneCell') = true then
    (match rX (λi=>some (i * sz,sz)) (iY a n) parts with
    |some cs=>some (e,cs)
    |none=>none)
   else none
  |_,_=>none):=rfl
attribute [go_sem] YU YV
theorem YW(id off:Nat):Bb (.ptr id off)=some (True,.ptr id off):=rfl
theorem YX(cs:List PV)(off:Nat):Bb (.p (.eF cs off))=some (True,.p (.eF cs off)):=rfl
attribute [go_sem] YW YX
def Kr(a:Option AV)(H:az)(Q:AV->az->Prop):Prop:=match a with
 |some a=>Q a H
 |none=>False
theorem YY(a:List ResultVar)(Q:AV->az->Prop)(env:Env)(H:az):J5 P a Q .ret env H=Kr (pS P env H a) H Q:=rfl
theorem YZ(a:AV)(H:az)(Q:AV->az->Prop):Kr (some a) H Q=Q a H:=rfl
attribute [go_sem] YY YZ
theorem Y0(id a i:Nat)(l:List AV):uj (.kY id a i :: l)=none:=rfl
theorem Y1(id a:Nat)(l:List AV):uj (.eY id a :: l)=none:=rfl
theorem Y2(t1 t2:TypeId)(id v o n m z:Nat)(b:AV)(H:az):sB P t1 t2 (.iV id v o n m z) b H=none:=by
 unfold sB;have a:ry P t1 t2 (.iV id v o n m z) b=none:=by unfold ry;cases dA P t1 t2<;>rfl
 have c:qR P t1 t2 (.iV id v o n m z) b H=none:=by unfold qR;cases dA P t1 t2<;>rfl
 rw[a,c]
theorem Y3(t1 t2:TypeId)(id v:Nat)(b:AV)(H:az):sB P t1 t2 (.eY id v) b H=none:=by
 unfold sB;have a:ry P t1 t2 (.eY id v) b=none:=by unfold ry;cases dA P t1 t2<;>rfl
 have c:qR P t1 t2 (.eY id v) b H=none:=by unfold qR;cases dA P t1 t2<;>rfl
 rw[a,c]
theorem Y4{o:Option Tmp}{xs:Array Operand}{b:Array TypeId}{ty:TypeId}{pos:String}{a:Array Edge}{g:Option (Nat×Bool)}{ρ:Operand->AV}{H:az} : gi P ⟨o,.call ⟨.builtin .clear,xs,b⟩,ty,pos,a,g⟩ ρ H=none:=by simp[gi,oD,sS,nB,xM,yZ,wU,xR,uX]
attribute [go_sem] Y2 Y3 Y4 Yy Yz YA YB YC YD YE YF YG YH YI YJ YK YL YM YN Y0 Y1
end Go.cv
namespace Go.Proofs.YtnnpmiiegnedeaaGreat
open Go.cv
structure ah where
 id:Int
 type:Int
 values:List Int
structure au where
 id:Int
 type:Int
 src:Int
 dst:Int
structure aQ where
 id:Int
 attr:Int
 old:Int
 new:Int
structure aG where
 kind:Int
 id:Int
 attr:Int
instance:Inhabited ah:=⟨⟨0,0,[]⟩⟩
instance:Inhabited au:=⟨⟨0,0,0,0⟩⟩
instance:Inhabited aQ:=⟨⟨0,0,0,0⟩⟩
instance:Inhabited aG:=⟨⟨0,0,0⟩⟩
structure dM where
 x0:Int
 x1:Int
structure aH where
 ax:List ah
 aA:List au
 aP:List ah
 aM:List au
 values:List aQ
 next:dM
structure ay where
 host:Host
 nodes:List Int
 ak:List Int
 next:Int
def ag(x:ah):List PV:=[.val (.int .i64 x.id),.val (.int .i64 x.type),.aV (x.values.map encI)]
def aj(x:au):List PV:=[.val (.int .i64 x.id),.val (.int .i64 x.type),.val (.int .i64 x.src),.val (.int .i64 x.dst)]
def aI(x:aQ):List PV:=[.val (.int .i64 x.id),.val (.int .i64 x.attr),.val (.int .i64 x.old),.val (.int .i64 x.new)]
def aB(x:aG):List PV:=[.val (.int .i64 x.kind),.val (.int .i64 x.id),.val (.int .i64 x.attr)]
def aF(x:aH):List PV:=[.aV (x.ax.map ag),.aV (x.aA.map aj),.aV (x.aP.map ag),.aV (x.aM.map aj),.aV (x.values.map aI),.val (.int .i64 x.next.x0),.val (.int .i64 x.next.x1)]
def aC(x:ay):List PV:=[.aV (x.host.graph.nodes.map encI),.aV (x.host.graph.ak.map aY),.aV (x.host.values.map bI),.aV (x.nodes.map encI),.aV (x.ak.map encI),.val (.int .i64 x.next)]
section
variable{α:Type}
theorem Ga{p:α->Bool}{l:List α}(h:idxOf p l = -1):l.filter (λx=>!p x)=l:=by
 unfold idxOf at h;cases a:l.findIdx? p with
 |none=>rw[List.findIdx?_eq_none_iff] at a;rw[List.filter_eq_self];intro x b;simp[a x b]
 |some i=>rw[a] at h;simp only at h;omega
theorem Gb [Inhabited α]{p:α->Bool}{l:List α}(h:idxOf p l≠-1):∃k:Nat,idxOf p l=k/\k<l.length/\(l.take k).filter (λx=>!p x)=l.take k/\p (l.getD k default)=true:=by
 unfold idxOf at h ⊢;cases a:l.findIdx? p with
 |none=>rw[a] at h;exact absurd rfl h
 |some i =>
  rw[List.findIdx?_eq_some_iff_getElem] at a;obtain⟨b,c,d⟩:=a;refine⟨i,rfl,b,?_,by simpa[b] using c⟩;rw[List.filter_eq_self];intro x g;obtain⟨j,e,rfl⟩:=List.getElem_of_mem g;have f:j<i:=by simp at e;omega
  have:=d j f;simpa using this
def gj(p:α->Bool)(l g:List α)(j:Nat):List α:=(l.take j).filter (λx=>!p x)++g++l.drop j
theorem Gc(p:α->Bool)(l g:List α)(j i:Nat)(a:((l.take j).filter λx=>!p x).length=i)(b:i+g.length=j)(c:j<=l.length):(gj p l g j).length=l.length:=by simp[gj,a];omega
theorem Gd [Inhabited α](p:α->Bool)(l g:List α)(j i:Nat)(c:((l.take j).filter λx=>!p x).length=i)(b:i+g.length=j)(d:j<l.length):(gj p l g j).getD j default=l.getD j default:=by
 have a:((l.take j).filter (λx=>!p x)++g).length=j:=by rw[List.length_append,c,b]
 simp only[gj,List.getD_eq_getElem?_getD];rw[List.getElem?_append_right (by omega),a,Nat.sub_self,List.getElem?_drop,Nat.add_zero]
theorem o7 [Inhabited α](p:α->Bool)(l g:List α)(j:Nat)(a:j<l.length)(d:p (l.getD j default)=true):gj p l g j=gj p l (g++[l.getD j default]) (j+1)/\(l.take (j+1)).filter (λx=>!p x)=(l.take j).filter (λx=>!p x):=by
 have b:(l.take (j+1)).filter (λx=>!p x)=(l.take j).filter (λx=>!p x):=by rw[oG a,List.filter_append,List.filter_cons_of_neg (by rw[d];simp),List.filter_nil,List.append_nil]
 refine⟨?_,b⟩;unfold gj;rw[b];have c:l.drop j=l.getD j default :: l.drop (j+1):=by rw[List.drop_eq_getElem_cons a];simp[a]
 rw[c];simp
theorem Ge [Inhabited α](p:α->Bool)(l:List α)(y:α)(g:List α)(j i:Nat)(d:((l.take j).filter λx=>!p x).length=i)(a:j<l.length)(e:p (l.getD j default)=false) :
  (gj p l (y :: g) j).set i (l.getD j default)=gj p l (g++[l.getD j default]) (j+1)/\(l.take (j+1)).filter (λx=>!p x)=(l.take j).filter (λx=>!p x)++[l.getD j default]:=by
 have b:(l.take (j+1)).filter (λx=>!p x)=(l.take j).filter (λx=>!p x)++[l.getD j default]:=by rw[oG a,List.filter_append,List.filter_cons_of_pos (by rw[e];rfl),List.filter_nil]
 refine⟨?_,b⟩;unfold gj;rw[b];have c:l.drop j=l.getD j default :: l.drop (j+1):=by rw[List.drop_eq_getElem_cons a];simp[a]
 rw[c];rw[List.append_assoc,List.set_append_right _ _ (by omega),d,Nat.sub_self];simp
theorem Gf(enc:α->List PV)(z:List PV)(p:α->Bool)(l g:List α)(i:Nat)(b:(l.filter λx=>!p x).length=i):(splice ((gj p l g l.length).map enc) i (List.replicate (l.length-i) z)).take i=(l.filter λx=>!p x).map enc:=by
 unfold gj splice;rw[List.take_length,List.drop_length,List.append_nil,List.map_append,List.append_assoc];have a:((l.filter λx=>!p x).map enc).length=i:=by rw[List.length_map];exact b
 rw[<-a,List.take_left,List.take_left]
end
theorem Gg(p:ah->Bool)(l:List ah)(hl:l.length<=1000000)(k:FuncId)(d cs:List PV)(g:∀x∈l,aS pw k (d++[pA (ag x)]++cs) (λr=>r = .val (.bool (p x)))) :
  aS pw 180 [.aV (l.map ag),.iT (.func k) d cs] (λr=>r = .val (.int .i64 (idxOf p l))):=by
 refine aR [] func180 ntmps180 results180 ?_;simp only[go_sem];refine bL (σ:=Nat) (λx=>(cK (cK (cK (cK gv 0 (.p (.aV (l.map ag)))) 1 (.p (.iT (.func k) d cs))) 7 (.p (.val (.int .i64 l.length)))) 8 (.p (.val (.int .i64 x))))) (λx=>cu)
  (λx=>x<=l.length/\∀j,j<x->p (l.getD j default)=false) (λx=>l.length-x) 0 ⟨Nat.zero_le _,λj c=>absurd c (Nat.not_lt_zero j)⟩ bY ?_
 rintro x ⟨m,f⟩;simp only[go_sem];refine aK (λb=>?_) (λb=>?_)
 ·have a:x<l.length:=by simpa using b
  simp only[go_sem,getD_map ag a,a,ag];refine aX (g (l.getD x default) (by simp[a])) (by simp only[go_sem,ki,kg,ag,pA,Bool.or_false,Bool.false_or]<;>rfl) (cc rfl) ?_;simp only[go_sem];refine aK (λe=>?_) (λe=>?_)<;>simp only[go_sem]
  ·exact (pZ a f e).symm
  ·refine bO (x+1) ⟨a,λj c=>?_⟩ (by omega) ?_
   ·rcases Nat.lt_succ_iff_lt_or_eq.1 c with h|h
    ·exact f j h
    ·rw[h];exact e
   ·rw[bz a (by omega)];exact bY
 ·have i:l.length<=x:=by simpa using b
  simp only[go_sem,b];rw[lV λj c=>f j (by omega)]
theorem Ks(p:ah->Bool)(l:List ah)(hl:l.length<=1000000)(k:FuncId)(a cs:List PV)(b:∀x∈l,aS pw k (a++[pA (ag x)]++cs) (λr=>r = .val (.bool (p x)))) :
  aS pw 109 [.aV (l.map ag),.iT (.func k) a cs] (λr=>r = .val (.bool (l.any p))):=by
 refine aR [] func109 ntmps109 results109 ?_;simp only[go_sem];refine aX (Gg p l hl k a cs b) (by simp only[go_sem]<;>rfl) (cc rfl) ?_;simp only[go_sem];exact lD
theorem Gh(p:au->Bool)(l:List au)(hl:l.length<=1000000)(k:FuncId)(d cs:List PV)(g:∀x∈l,aS pw k (d++[pA (aj x)]++cs) (λr=>r = .val (.bool (p x)))) :
  aS pw 181 [.aV (l.map aj),.iT (.func k) d cs] (λr=>r = .val (.int .i64 (idxOf p l))):=by
 refine aR [] func181 ntmps181 results181 ?_;simp only[go_sem];refine bL (σ:=Nat) (λx=>(cK (cK (cK (cK gv 0 (.p (.aV (l.map aj)))) 1 (.p (.iT (.func k) d cs))) 7 (.p (.val (.int .i64 l.length)))) 8 (.p (.val (.int .i64 x))))) (λx=>cu)
  (λx=>x<=l.length/\∀j,j<x->p (l.getD j default)=false) (λx=>l.length-x) 0 ⟨Nat.zero_le _,λj c=>absurd c (Nat.not_lt_zero j)⟩ bY ?_
 rintro x ⟨m,f⟩;simp only[go_sem];refine aK (λb=>?_) (λb=>?_)
 ·have a:x<l.length:=by simpa using b
  simp only[go_sem,getD_map aj a,a,aj];refine aX (g (l.getD x default) (by simp[a])) (by simp only[go_sem,ki,kg,aj,pA,Bool.or_false,Bool.false_or]<;>rfl) (cc rfl) ?_;simp only[go_sem];refine aK (λe=>?_) (λe=>?_)<;>simp only[go_sem]
  ·exact (pZ a f e).symm
  ·refine bO (x+1) ⟨a,λj c=>?_⟩ (by omega) ?_
   ·rcases Nat.lt_succ_iff_lt_or_eq.1 c with h|h
    ·exact f j h
    ·rw[h];exact e
   ·rw[bz a (by omega)];exact bY
 ·have i:l.length<=x:=by simpa using b
  simp only[go_sem,b];rw[lV λj c=>f j (by omega)]
theorem Kt(p:au->Bool)(l:List au)(hl:l.length<=1000000)(k:FuncId)(a cs:List PV)(b:∀x∈l,aS pw k (a++[pA (aj x)]++cs) (λr=>r = .val (.bool (p x)))) :
  aS pw 111 [.aV (l.map aj),.iT (.func k) a cs] (λr=>r = .val (.bool (l.any p))):=by
 refine aR [] func111 ntmps111 results111 ?_;simp only[go_sem];refine aX (Gh p l hl k a cs b) (by simp only[go_sem]<;>rfl) (cc rfl) ?_;simp only[go_sem];exact lD
theorem Ku(p:aQ->Bool)(l:List aQ)(hl:l.length<=1000000)(k:FuncId)(d cs:List PV)(g:∀x∈l,aS pw k (d++[pA (aI x)]++cs) (λr=>r = .val (.bool (p x)))) :
  aS pw 185 [.aV (l.map aI),.iT (.func k) d cs] (λr=>r = .val (.int .i64 (idxOf p l))):=by
 refine aR [] func185 ntmps185 results185 ?_;simp only[go_sem];refine bL (σ:=Nat) (λx=>(cK (cK (cK (cK gv 0 (.p (.aV (l.map aI)))) 1 (.p (.iT (.func k) d cs))) 7 (.p (.val (.int .i64 l.length)))) 8 (.p (.val (.int .i64 x))))) (λx=>cu)
  (λx=>x<=l.length/\∀j,j<x->p (l.getD j default)=false) (λx=>l.length-x) 0 ⟨Nat.zero_le _,λj c=>absurd c (Nat.not_lt_zero j)⟩ bY ?_
 rintro x ⟨m,f⟩;simp only[go_sem];refine aK (λb=>?_) (λb=>?_)
 ·have a:x<l.length:=by simpa using b
  simp only[go_sem,getD_map aI a,a,aI];refine aX (g (l.getD x default) (by simp[a])) (by simp only[go_sem,ki,kg,aI,pA,Bool.or_false,Bool.false_or]<;>rfl) (cc rfl) ?_;simp only[go_sem];refine aK (λe=>?_) (λe=>?_)<;>simp only[go_sem]
  ·exact (pZ a f e).symm
  ·refine bO (x+1) ⟨a,λj c=>?_⟩ (by omega) ?_
   ·rcases Nat.lt_succ_iff_lt_or_eq.1 c with h|h
    ·exact f j h
    ·rw[h];exact e
   ·rw[bz a (by omega)];exact bY
 ·have i:l.length<=x:=by simpa using b
  simp only[go_sem,b];rw[lV λj c=>f j (by omega)]
theorem Y5(p:aQ->Bool)(l:List aQ)(hl:l.length<=1000000)(k:FuncId)(a cs:List PV)(b:∀x∈l,aS pw k (a++[pA (aI x)]++cs) (λr=>r = .val (.bool (p x)))) :
  aS pw 128 [.aV (l.map aI),.iT (.func k) a cs] (λr=>r = .val (.bool (l.any p))):=by
 refine aR [] func128 ntmps128 results128 ?_;simp only[go_sem];refine aX (Ku p l hl k a cs b) (by simp only[go_sem]<;>rfl) (cc rfl) ?_;simp only[go_sem];exact lD
theorem Y6(p:ah->Bool)(l:List ah)(hl:l.length<=1000000)(v:Nat)(k:FuncId)(q cs:List PV)(J:∀x∈l,aS pw k (q++[pA (ag x)]++cs) (λr=>r = .val (.bool (p x)))) :
  kZ pw 118 v 86 3 (l.map ag) [.iT (.func k) q cs] (λa c=>a = .row 1000000 (v+1)/\c=some (.row (v+1) 86 3 ((l.filter λx=>!p x).map ag))):=by
 refine sI ?_;refine nk [] Ty.mixed func118 rfl (by kernel_rfl) (by simp[ntmps118]) ?_;rw[ntmps118,results118];simp only[go_sem];refine aX (Gg p l hl k q cs J) (by simp only[go_sem]<;>rfl) (cc rfl) ?_;simp only[go_sem];refine aK (λf=>?_) (λf=>?_)
 ·have G:=b6 f;simp only[go_sem];exact⟨_,_,0,rfl,rfl,Nat.le_refl _,by rw[List.take_length,Ga G]⟩
 have G:=dK f;obtain⟨d,R,o,I,K⟩:=Gb G;simp only[go_sem,R,bz o (by omega)];have T:gj p l [l.getD d default] (d+1)=l:=by have H:=(o7 p l [] d o K).1;rw[List.nil_append] at H;rw[<-H,gj,I,List.append_nil,List.take_append_drop]
 have N:((l.take (d+1)).filter λx=>!p x).length=d:=by rw[(o7 p l [] d o K).2,I,List.length_take];omega
 refine bL (σ:=Nat×Nat×ah×List ah) (λx=>(cK (cK (cK (cK gv 0 (.row 1000000 v)) 1 (.p (.iT (.func k) q cs))) 5 (.p (.val (.int .i64 x.1)))) 6 (.p (.val (.int .i64 x.2.1))))) (λx=>(bn cu 1000000 (.row v 86 3 ((gj p l (x.2.2.1 :: x.2.2.2) x.2.1).map ag))))
  (λx=>((l.take x.2.1).filter λz=>!p z).length=x.1/\x.1+(x.2.2.2.length+1)=x.2.1/\x.2.1<=l.length) (λx=>l.length-x.2.1) (d,d+1,l.getD d default,[]) ⟨N,rfl,o⟩ ?_ ?_
 ·rw[T];exact bY
 rintro⟨i,j,y,g⟩ ⟨e,D,M⟩;simp only at e D M;have h:(gj p l (y :: g) j).length=l.length:=Gc p l (y :: g) j i e D M;simp only[go_sem];refine aK (λf=>?_) (λf=>?_)
 ·have b:j<l.length:=by have:=b6 f;rw[h] at this;exact this
  have B:j<(gj p l (y :: g) j).length:=by rw[h];exact b
  have n:((gj p l (y :: g) j).map ag).getD j []=ag (l.getD j default):=by rw[getD_map ag B,Gd p l (y :: g) j i e D b]
  simp only[go_sem,n,ag,br];refine⟨B,B,?_⟩;refine aX (J (l.getD j default) (by simp[b])) (by simp only[go_sem,ki,kg,ag,pA,br,Bool.or_false,Bool.false_or,n]<;>rfl) (cc rfl) ?_;simp only[go_sem,n,ag,br];refine aW (λw=>?_) (λw=>?_)
  ·obtain⟨t,F⟩:=o7 p l (y :: g) j b w;simp only[go_sem,bz b (by omega),n,ag,br];refine bO (i,j+1,y,g++[l.getD j default]) ⟨by rw[F];exact e,by simp;omega,b⟩ (by simp only;omega) ?_;rw[t];exact bY
  ·obtain⟨t,F⟩:=Ge p l y g j i e b w;have S:i<j:=by omega
   have A:i<(gj p l (y :: g) j).length:=by omega
   have Q:((gj p l (y :: g) j).map ag).getD i []=ag ((gj p l (y :: g) j).getD i default):=by rw[getD_map ag A]
   obtain⟨u,m,O,U⟩:∃u m,g++[l.getD j default]=u :: m/\m.length=g.length:=by
    cases g with
    |nil=>exact⟨_,[],rfl,rfl⟩
    |cons a r=>exact⟨a,r++[l.getD j default],rfl,by simp⟩
   rw[O] at t;have L:((gj p l (y :: g) j).map ag).set i (ag (l.getD j default))=(gj p l (u :: m) (j+1)).map ag:=by rw[<-t,List.map_set]
   simp only[ag,br] at L;simp only[go_sem,Q,ag,br,bz b (by omega),bz S (by omega),n];refine⟨A,A,?_⟩;refine bO (i+1,j+1,u,m) ⟨by rw[F,List.length_append,e];rfl,by simp only;omega,b⟩ (by simp only;omega) ?_;rw[L];exact bY
 ·have P:j=l.length:=by have:=dK f;rw[h] at this;omega
  subst P;rw[List.take_length] at e;simp only[go_sem];refine j8 _ _ (nZ 36 1000000 v 86 3 _ rfl rfl) (by simp only[go_sem]<;>rfl) ?_ ?_
  ·rw[h];omega
  simp only[go_sem,h];have C:((gj p l (y :: g) l.length).map ag).length=l.length:=by rw[List.length_map];exact h
  have s:=Gf ag ((cN pw 86).getD [] |>.map PV.val) p l (y :: g) i e;rw[show (cN pw 86).getD []=_ from by simp only[go_sem]<;>rfl] at s;simp only[su,List.length_replicate,List.append_assoc,List.map_cons,List.map_nil] at s;generalize (gj p l (y :: g) l.length).map ag=E at C s ⊢;refine sH 41 _ 1000000 v i (l.length-i) _ 86 3 E _ rfl (by simp only[go_sem]) (by simp only[go_sem]<;>rfl) rfl (by decide) rfl (by simp only[go_sem]<;>rfl) (by simp only[go_sem]) (by omega) (by omega) ?_;simp only[go_sem];refine j8 _ _ (nZ 39 1000000 v 86 3 _ rfl rfl) (by simp only[go_sem]<;>rfl) ?_ ?_
  ·simp[C];omega
  simp only[go_sem];exact⟨_,_,_,.inl rfl,rfl,by simp[C];omega,s⟩
theorem Y7(p:au->Bool)(l:List au)(hl:l.length<=1000000)(v:Nat)(k:FuncId)(q cs:List PV)(J:∀x∈l,aS pw k (q++[pA (aj x)]++cs) (λr=>r = .val (.bool (p x)))) :
  kZ pw 121 v 88 4 (l.map aj) [.iT (.func k) q cs] (λa c=>a = .row 1000000 (v+1)/\c=some (.row (v+1) 88 4 ((l.filter λx=>!p x).map aj))):=by
 refine sI ?_;refine nk [] Ty.mixed func121 rfl (by kernel_rfl) (by simp[ntmps121]) ?_;rw[ntmps121,results121];simp only[go_sem];refine aX (Gh p l hl k q cs J) (by simp only[go_sem]<;>rfl) (cc rfl) ?_;simp only[go_sem];refine aK (λf=>?_) (λf=>?_)
 ·have G:=b6 f;simp only[go_sem];exact⟨_,_,0,rfl,rfl,Nat.le_refl _,by rw[List.take_length,Ga G]⟩
 have G:=dK f;obtain⟨d,R,o,I,K⟩:=Gb G;simp only[go_sem,R,bz o (by omega)];have T:gj p l [l.getD d default] (d+1)=l:=by have H:=(o7 p l [] d o K).1;rw[List.nil_append] at H;rw[<-H,gj,I,List.append_nil,List.take_append_drop]
 have N:((l.take (d+1)).filter λx=>!p x).length=d:=by rw[(o7 p l [] d o K).2,I,List.length_take];omega
 refine bL (σ:=Nat×Nat×au×List au) (λx=>(cK (cK (cK (cK gv 0 (.row 1000000 v)) 1 (.p (.iT (.func k) q cs))) 5 (.p (.val (.int .i64 x.1)))) 6 (.p (.val (.int .i64 x.2.1))))) (λx=>(bn cu 1000000 (.row v 88 4 ((gj p l (x.2.2.1 :: x.2.2.2) x.2.1).map aj))))
  (λx=>((l.take x.2.1).filter λz=>!p z).length=x.1/\x.1+(x.2.2.2.length+1)=x.2.1/\x.2.1<=l.length) (λx=>l.length-x.2.1) (d,d+1,l.getD d default,[]) ⟨N,rfl,o⟩ ?_ ?_
 ·rw[T];exact bY
 rintro⟨i,j,y,g⟩ ⟨e,D,M⟩;simp only at e D M;have h:(gj p l (y :: g) j).length=l.length:=Gc p l (y :: g) j i e D M;simp only[go_sem];refine aK (λf=>?_) (λf=>?_)
 ·have b:j<l.length:=by have:=b6 f;rw[h] at this;exact this
  have B:j<(gj p l (y :: g) j).length:=by rw[h];exact b
  have n:((gj p l (y :: g) j).map aj).getD j []=aj (l.getD j default):=by rw[getD_map aj B,Gd p l (y :: g) j i e D b]
  simp only[go_sem,n,aj,br];refine⟨B,B,?_⟩;refine aX (J (l.getD j default) (by simp[b])) (by simp only[go_sem,ki,kg,aj,pA,br,Bool.or_false,Bool.false_or,n]<;>rfl) (cc rfl) ?_;simp only[go_sem,n,aj,br];refine aW (λw=>?_) (λw=>?_)
  ·obtain⟨t,F⟩:=o7 p l (y :: g) j b w;simp only[go_sem,bz b (by omega),n,aj,br];refine bO (i,j+1,y,g++[l.getD j default]) ⟨by rw[F];exact e,by simp;omega,b⟩ (by simp only;omega) ?_;rw[t];exact bY
  ·obtain⟨t,F⟩:=Ge p l y g j i e b w;have S:i<j:=by omega
   have A:i<(gj p l (y :: g) j).length:=by omega
   have Q:((gj p l (y :: g) j).map aj).getD i []=aj ((gj p l (y :: g) j).getD i default):=by rw[getD_map aj A]
   obtain⟨u,m,O,U⟩:∃u m,g++[l.getD j default]=u :: m/\m.length=g.length:=by
    cases g with
    |nil=>exact⟨_,[],rfl,rfl⟩
    |cons a r=>exact⟨a,r++[l.getD j default],rfl,by simp⟩
   rw[O] at t;have L:((gj p l (y :: g) j).map aj).set i (aj (l.getD j default))=(gj p l (u :: m) (j+1)).map aj:=by rw[<-t,List.map_set]
   simp only[aj,br] at L;simp only[go_sem,Q,aj,br,bz b (by omega),bz S (by omega),n];refine⟨A,A,?_⟩;refine bO (i+1,j+1,u,m) ⟨by rw[F,List.length_append,e];rfl,by simp only;omega,b⟩ (by simp only;omega) ?_;rw[L];exact bY
 ·have P:j=l.length:=by have:=dK f;rw[h] at this;omega
  subst P;rw[List.take_length] at e;simp only[go_sem];refine j8 _ _ (nZ 36 1000000 v 88 4 _ rfl rfl) (by simp only[go_sem]<;>rfl) ?_ ?_
  ·rw[h];omega
  simp only[go_sem,h];have C:((gj p l (y :: g) l.length).map aj).length=l.length:=by rw[List.length_map];exact h
  have s:=Gf aj ((cN pw 88).getD [] |>.map PV.val) p l (y :: g) i e;rw[show (cN pw 88).getD []=_ from by simp only[go_sem]<;>rfl] at s;simp only[su,List.length_replicate,List.append_assoc,List.map_cons,List.map_nil] at s;generalize (gj p l (y :: g) l.length).map aj=E at C s ⊢;refine sH 42 _ 1000000 v i (l.length-i) _ 88 4 E _ rfl (by simp only[go_sem]) (by simp only[go_sem]<;>rfl) rfl (by decide) rfl (by simp only[go_sem]<;>rfl) (by simp only[go_sem]) (by omega) (by omega) ?_;simp only[go_sem];refine j8 _ _ (nZ 39 1000000 v 88 4 _ rfl rfl) (by simp only[go_sem]<;>rfl) ?_ ?_
  ·simp[C];omega
  simp only[go_sem];exact⟨_,_,_,.inl rfl,rfl,by simp[C];omega,s⟩
theorem Y8(p:aQ->Bool)(l:List aQ)(hl:l.length<=1000000)(v:Nat)(k:FuncId)(q cs:List PV)(J:∀x∈l,aS pw k (q++[pA (aI x)]++cs) (λr=>r = .val (.bool (p x)))) :
  kZ pw 125 v 91 4 (l.map aI) [.iT (.func k) q cs] (λa c=>a = .row 1000000 (v+1)/\c=some (.row (v+1) 91 4 ((l.filter λx=>!p x).map aI))):=by
 refine sI ?_;refine nk [] Ty.mixed func125 rfl (by kernel_rfl) (by simp[ntmps125]) ?_;rw[ntmps125,results125];simp only[go_sem];refine aX (Ku p l hl k q cs J) (by simp only[go_sem]<;>rfl) (cc rfl) ?_;simp only[go_sem];refine aK (λf=>?_) (λf=>?_)
 ·have G:=b6 f;simp only[go_sem];exact⟨_,_,0,rfl,rfl,Nat.le_refl _,by rw[List.take_length,Ga G]⟩
 have G:=dK f;obtain⟨d,R,o,I,K⟩:=Gb G;simp only[go_sem,R,bz o (by omega)];have T:gj p l [l.getD d default] (d+1)=l:=by have H:=(o7 p l [] d o K).1;rw[List.nil_append] at H;rw[<-H,gj,I,List.append_nil,List.take_append_drop]
 have N:((l.take (d+1)).filter λx=>!p x).length=d:=by rw[(o7 p l [] d o K).2,I,List.length_take];omega
 refine bL (σ:=Nat×Nat×aQ×List aQ) (λx=>(cK (cK (cK (cK gv 0 (.row 1000000 v)) 1 (.p (.iT (.func k) q cs))) 5 (.p (.val (.int .i64 x.1)))) 6 (.p (.val (.int .i64 x.2.1))))) (λx=>(bn cu 1000000 (.row v 91 4 ((gj p l (x.2.2.1 :: x.2.2.2) x.2.1).map aI))))
  (λx=>((l.take x.2.1).filter λz=>!p z).length=x.1/\x.1+(x.2.2.2.length+1)=x.2.1/\x.2.1<=l.length) (λx=>l.length-x.2.1) (d,d+1,l.getD d default,[]) ⟨N,rfl,o⟩ ?_ ?_
 ·rw[T];exact bY
 rintro⟨i,j,y,g⟩ ⟨e,D,M⟩;simp only at e D M;have h:(gj p l (y :: g) j).length=l.length:=Gc p l (y :: g) j i e D M;simp only[go_sem];refine aK (λf=>?_) (λf=>?_)
 ·have b:j<l.length:=by have:=b6 f;rw[h] at this;exact this
  have B:j<(gj p l (y :: g) j).length:=by rw[h];exact b
  have n:((gj p l (y :: g) j).map aI).getD j []=aI (l.getD j default):=by rw[getD_map aI B,Gd p l (y :: g) j i e D b]
  simp only[go_sem,n,aI,br];refine⟨B,B,?_⟩;refine aX (J (l.getD j default) (by simp[b])) (by simp only[go_sem,ki,kg,aI,pA,br,Bool.or_false,Bool.false_or,n]<;>rfl) (cc rfl) ?_;simp only[go_sem,n,aI,br];refine aW (λw=>?_) (λw=>?_)
  ·obtain⟨t,F⟩:=o7 p l (y :: g) j b w;simp only[go_sem,bz b (by omega),n,aI,br];refine bO (i,j+1,y,g++[l.getD j default]) ⟨by rw[F];exact e,by simp;omega,b⟩ (by simp only;omega) ?_;rw[t];exact bY
  ·obtain⟨t,F⟩:=Ge p l y g j i e b w;have S:i<j:=by omega
   have A:i<(gj p l (y :: g) j).length:=by omega
   have Q:((gj p l (y :: g) j).map aI).getD i []=aI ((gj p l (y :: g) j).getD i default):=by rw[getD_map aI A]
   obtain⟨u,m,O,U⟩:∃u m,g++[l.getD j default]=u :: m/\m.length=g.length:=by
    cases g with
    |nil=>exact⟨_,[],rfl,rfl⟩
    |cons a r=>exact⟨a,r++[l.getD j default],rfl,by simp⟩
   rw[O] at t;have L:((gj p l (y :: g) j).map aI).set i (aI (l.getD j default))=(gj p l (u :: m) (j+1)).map aI:=by rw[<-t,List.map_set]
   simp only[aI,br] at L;simp only[go_sem,Q,aI,br,bz b (by omega),bz S (by omega),n];refine⟨A,A,?_⟩;refine bO (i+1,j+1,u,m) ⟨by rw[F,List.length_append,e];rfl,by simp only;omega,b⟩ (by simp only;omega) ?_;rw[L];exact bY
 ·have P:j=l.length:=by have:=dK f;rw[h] at this;omega
  subst P;rw[List.take_length] at e;simp only[go_sem];refine j8 _ _ (nZ 36 1000000 v 91 4 _ rfl rfl) (by simp only[go_sem]<;>rfl) ?_ ?_
  ·rw[h];omega
  simp only[go_sem,h];have C:((gj p l (y :: g) l.length).map aI).length=l.length:=by rw[List.length_map];exact h
  have s:=Gf aI ((cN pw 91).getD [] |>.map PV.val) p l (y :: g) i e;rw[show (cN pw 91).getD []=_ from by simp only[go_sem]<;>rfl] at s;simp only[su,List.length_replicate,List.append_assoc,List.map_cons,List.map_nil] at s;generalize (gj p l (y :: g) l.length).map aI=E at C s ⊢;refine sH 43 _ 1000000 v i (l.length-i) _ 91 4 E _ rfl (by simp only[go_sem]) (by simp only[go_sem]<;>rfl) rfl (by decide) rfl (by simp only[go_sem]<;>rfl) (by simp only[go_sem]) (by omega) (by omega) ?_;simp only[go_sem];refine j8 _ _ (nZ 39 1000000 v 91 4 _ rfl rfl) (by simp only[go_sem]<;>rfl) ?_ ?_
  ·simp[C];omega
  simp only[go_sem];exact⟨_,_,_,.inl rfl,rfl,by simp[C];omega,s⟩
end Go.Proofs.YtnnpmiiegnedeaaGreat
namespace Go.cv
def Ok{α:Type}(x:Option α)(Q:α->Prop):Prop:=∃r,x=some r/\Q r
section
variable{α β σ O:Type}{Q:O->Prop}
theorem Ok.mk{r:O}(h:Q r):Ok (some r) Q:=⟨r,rfl,h⟩
theorem Ok.eq{x:Option α}{r:α}(h:Ok x (λy=>y=r)):x=some r:=by obtain⟨y,a,rfl⟩:=h;exact a
theorem Ok.of{x:Option α}{r:α}(h:x=some r):Ok x (λy=>y=r):=⟨r,h,rfl⟩
theorem Ok.mono{x:Option O}{a:O->Prop}(h:Ok x Q)(d:∀r,Q r->a r):Ok x a:=by obtain⟨r,b,c⟩:=h;exact⟨r,b,d r c⟩
theorem bU{p:Prop} [Decidable p]{x:Option O}(a:p)(h:Ok x Q):Ok (cL p x) Q:=by unfold cL;rw[if_pos a];exact h
theorem bV{b:Bool}{x y:Option O}(a:b=true->Ok x Q)(c:b=false->Ok y Q):Ok (cond b x y) Q:=by
 cases b
 ·exact c rfl
 ·exact a rfl
theorem r6{b:Bool}{x y:Option O}(c:b=true)(a:Ok x Q):Ok (cond b x y) Q:=by subst c;exact a
theorem AY{b:Bool}{x y:Option O}(c:b=false)(a:Ok y Q):Ok (cond b x y) Q:=by subst c;exact a
theorem mL{x:Option α}{k:α->Option O}{R:α->Prop}(h:Ok x R)(b:∀r,R r->Ok (k r) Q):Ok (thn x k) Q:=by obtain⟨r,rfl,a⟩:=h;exact b r a
theorem ok_eq{x:Option α}{k:α->Option O}{r:α}(h:x=some r)(a:Ok (k r) Q):Ok (thn x k) Q:=by subst h;exact a
theorem oK{l:List α}{k:α->Option O}{i:Nat}(a:i<l.length)(h:Ok (k l[i]) Q):Ok (thn l[i]? k) Q:=ok_eq (List.getElem?_eq_getElem a) h
theorem kS{l:List α}{k:α->Option O}{i:Int}(a:0<=i)(b:i.toNat<l.length)(h:Ok (k l[i.toNat]) Q):Ok (thn (nr l i) k) Q:=ok_eq (by unfold nr;rw[if_pos a];exact List.getElem?_eq_getElem b) h
theorem mz{f:Nat->σ->(σ->Option O)->(σ->Option O)->Option O}{K:σ->Option O}(a:Nat->σ->Prop){n i:Nat}{s:σ}(r:i<=n)(e:a i s)
  (o:∀j s (c:σ->Option O),i<=j->j<n->a j s->(∀b,a (j+1) b->Ok (c b) Q)->Ok (f j s c K) Q) (g:∀s,a n s->Ok (K s) Q):Ok (cq f (n-i) i s K) Q:=by
 have q:∀k j s,j+k=n->i<=j->a j s->Ok (cq f k j s K) Q:=by
  intro k
  induction k with
  |zero =>
   intro j s m _ h;have:j=n:=by omega
   subst this;exact g s h
  |succ k p=>intro j s m l h;exact o j s _ l (by omega) h λb d=>p (j+1) b (by omega) (by omega) d
 exact q (n-i) i s (by omega) (Nat.le_refl _) e
theorem Ds{f:σ->(σ->Option O)->(σ->Option O)->Option O}{K:σ->Option O}(c:σ->Prop)(b:σ->Nat){n:Nat}{s:σ}(i:c s)(e:b s<n)
  (j:∀s (d:σ->Option O),c s->(∀a,c a->b a<b s->Ok (d a) Q)->Ok (f s d K) Q):Ok (iter f n s K) Q:=by
 have l:∀n s,c s->b s<n->Ok (iter f n s K) Q:=by
  intro n
  induction n with
  |zero=>intro s _ h;omega
  |succ n k=>intro s h e;exact j s _ h λa g m=>k a g (by omega)
 exact l n s i e
theorem dy{n:Int}(h : -9223372036854775808<=n/\n<=9223372036854775807):i64.wrap n=n:=IntWalk.i64_in n (by omega)
end
theorem uc{α:Type}{p:Prop} [Decidable p]{x:α}(h:p):gb p x=some x:=by unfold gb;rw[if_pos h]
open Go.RowKit
variable{P:Program}{N:Nat}{own:List Nat}
theorem iZ{ops:Array Oper}{K:Env->az->Prop}{env:Env}{H:az}(id v:Nat)(e:TypeId)(sz:Nat)(es:List (List PV))(a:List Nat)(c:H id=some (.row v e sz es))(h:holds env id v a)(f:a.Nodup)
  (hw:vW P N own ops K (AL (.p (.aV es)) a env) (bn H id (.shut v es))):vW P N own ops K env H:=by
 intro C I L tm w d g;have b:=Fr.shut C I L w c env tm g;exact hw C _ L tm w d (EI (by simp[bn]) a _ f b h)
theorem toNat_lt{i:Int}{n:Nat}(h:0<=i)(k:i<(n:Int)):i.toNat<n:=by omega
def Af(own:List Nat)(ops:Array Oper)(id:Nat):Nat->Prop
 |0=>True
 |n+1=>me own ops id=false/\Af own ops (id+1) n
variable{ops:Array Oper}
theorem Y9(id:Nat):Af own ops id 1=(me own ops id=false/\True):=rfl
theorem Za(id:Nat):Af own ops id 3=(me own ops id=false/\me own ops (id+1)=false/\me own ops (id+1+1)=false/\True):=rfl
theorem Zb(id:Nat):Af own ops id 4=(me own ops id=false/\me own ops (id+1)=false/\me own ops (id+1+1)=false/\me own ops (id+1+1+1)=false/\True):=rfl
theorem Kv:∀ (n id:Nat),Af own ops id n->∀i,id<=i->i<id+n->me own ops i=false
 |0,id,_,i,a,b=>by omega
 |n+1,id,h,i,a,b=>by
  rcases Nat.lt_or_ge id i with h'|h'
  ·exact Kv n (id+1) h.2 i (by omega) (by omega)
  ·have:i=id:=by omega
   subst this;exact h.1
theorem Dt{env:Env}{H:az}{o:Oper}{W:Env->az->Prop}{k:FuncId}{ps bq:List PV}{b:Bool}(id:Nat){r:RV}(c:bw P k ps λx=>x=r)(a:lp o (ev env) (pW own ops H)=some (k,bq,b))(m:rQ bq ps)(h:b=true->r.flat=true)
  (j:oo H id ((dz id r).2-id)) (l:Af own ops id ((dz id r).2-id)) (g:W (cW env o.dst (dz id r).1) (iO id H r)):BZ P own ops o W env H:=by
 have f:bw P k bq λx=>x=r:=c.args (uz _ _ m)
 have s:=zz r id;unfold lp at a;cases d:dL o (ev env) with
 |none=>rw[d] at a;cases a
 |some q =>
  obtain⟨t,fe⟩:=q;rw[d] at a;simp only[] at a;cases hl:eG (ia (pW own ops H)) fe with
  |none=>rw[hl] at a;cases a
  |some q=>obtain⟨u,n⟩:=q;rw[hl] at a;simp only[cG,iU] at a;obtain⟨rfl,rfl,rfl⟩:=a;exact⟨_,_,⟨_,fe,_,_,r,id,d,hl,f,h,λi e p=>⟨Fw _ id j i e (by omega),Kv _ id l i e (by omega)⟩,rfl,rfl⟩,g⟩
attribute [go_sem] Y9 Za Zb
end Go.cv
set_option maxRecDepth 20000
namespace Go.Proofs.YtnnpmiiegnedeaaGreat
open Go.cv
structure jW where
 x0:Int
 x1:Int
 x2:Int
structure dO where
 nodes:List dM
 ak:List jW
structure bS where
 nodes:List dM
 ak:List dM
 h:dO
 first:List jW
 p:List jW
 q:List jW
def er(x:dM):List PV:=[.val (.int .u8 x.x0),.val (.int .u8 x.x1)]
def dW(x:jW):List PV:=[.val (.int .u8 x.x0),.val (.int .u8 x.x1),.val (.int .u8 x.x2)]
def eR(x:bS):List PV:=[.aV (x.nodes.map er),.aV (x.ak.map er),.aV (x.h.nodes.map er),.aV (x.h.ak.map dW),.aV (x.first.map dW),.aV (x.p.map dW),.aV (x.q.map dW)]
structure bP where
 a:ay
 p:aH
 q:aH
def lM(x:Host):List PV:=[.aV (x.graph.nodes.map encI),.aV (x.graph.ak.map aY),.aV (x.values.map bI)]
structure aO where
 nodes:List ah
 ak:List au
structure cM where
 fq:Int
 node:Int
 count:Int
 out:Bool
def dD(x:cM):List PV:=[.val (.int .i64 x.fq),.val (.int .i64 x.node),.val (.int .i64 x.count),.val (.bool x.out)]
structure bJ where
 id:Int
 fq:Int
 out:Bool
def bZ(x:bJ):List PV:=[.val (.int .i64 x.id),.val (.int .i64 x.fq),.val (.bool x.out)]
structure xX where
 x0:aH
 x1:aH
def mM(x:xX):List PV:=[.aV (x.x0.ax.map ag),.aV (x.x0.aA.map aj),.aV (x.x0.aP.map ag),.aV (x.x0.aM.map aj),.aV (x.x0.values.map aI),.val (.int .i64 x.x0.next.x0),.val (.int .i64 x.x0.next.x1),.aV (x.x1.ax.map ag),.aV (x.x1.aA.map aj),.aV (x.x1.aP.map ag),.aV (x.x1.aM.map aj),.aV (x.x1.values.map aI),.val (.int .i64 x.x1.next.x0),.val (.int .i64 x.x1.next.x1)]
def jX(l:List aG):List PV:=[.aV (l.map aB)]
structure aZ where
 id:Int
 fq:Int
 out:Bool
def cB(x:aZ):List PV:=[.val (.int .i64 x.id),.val (.int .i64 x.fq),.val (.bool x.out)]
def ja(l:List aZ):List PV:=[.aV (l.map cB)]
structure nK where
 nodes:List Int
 ak:List Int
attribute [local go_sem] Nat.reduceEqDiff Nat.reduceLT Nat.reduceLeDiff Nat.reduceMul Nat.reduceAdd Nat.reduceBEq Nat.reduceSub Int.reduceToNat reduceIte reduceCtorEq FB List.cons_append List.nil_append aU aY aL encI br jX ja aJ bI cZ lM er mM dW aB dD aF aj ag aI aC cB eR bZ
noncomputable section
end
end Go.Proofs.YtnnpmiiegnedeaaGreat
