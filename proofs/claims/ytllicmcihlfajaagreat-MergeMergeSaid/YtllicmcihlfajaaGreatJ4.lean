/- Joined texts, part 4: lemmas for the statement. No condition. -/
import Derived.Test.YtllicmcihlfajaaGreatJ3
import Derived.Shelf.Spec.SlicesGrow
import Derived.Ground.Names8Prog
import Derived.Test.YtllicmcihlfajaaGreatProg
import Derived.Shelf.SlSortCmp.NoneTotal
import Derived.Ground.SlsfProg
import Derived.ChangeArms
import Derived.SizedLaws
import Derived.Test.YtllicmcihlfajaaGreatJ1
import Derived.OpenShut
import Derived.ProofKit
import Derived.Carry
import Derived.ArgAppend
import Derived.Laws.Slices
set_option maxHeartbeats 4000000
set_option linter.unusedSimpArgs false
set_option linter.unusedVariables false
open Nat (reduceEqDiff reduceLT reduceLeDiff reduceMul reduceAdd reduceSub)
open Go.Proofs.Tryz
namespace Go.Proofs.YtllicmcihlfajaaGreat
open Go.cE
theorem arw (t:Types) (hf:ga t) (h:Host) (hh:tU h):aS Tryz.prog 160 [aF t,cz h] (λr=>r = .dB [.val (.int .i64 (j6 t h).1),.val (.int .i64 (j6 t h).2)]):=by
 have hg1:=hh.graph.nodes; have hg2:=hh.graph.au; have hv:=hh.values; refine aR [] func160 ?_; rw[ntmps160,results160]; simp -implicitDefEqProofs only[go_sem,aF,cz,bh]; refine aY (akj t hf) (by simp -implicitDefEqProofs only[go_sem,aF,cz,bh]<;>rfl) (bY rfl) ?_; simp -implicitDefEqProofs only[go_sem,aF,cz,bh]; refine aX (λh1=>?_) (λh1=>?_)<;>simp -implicitDefEqProofs only[go_sem,aF,cz,bh]
 ·have sr:=of_decide_eq_true h1; have ht:=zd hf sr
  have e1 : j6 t h = if qC h.graph ≠ 0 then (-1, qC h.graph)
    else if h.values.length≠h.graph.nodes.length then (-1,20)
    else match jT (λi=>oA t (h.graph.nodes.getD i default) (h.values.getD i default)) 0 h.graph.nodes.length with
     | some k=>((k:Int),oA t (h.graph.nodes.getD k default) (h.values.getD k default))
     | none=>match jT (tj t h) 0 h.graph.au.length with
      | some k=>((k:Int),tj t h k)
      | none=>(-1,0):=by
   unfold j6; rw[if_neg (by rw[sr]; decide)]; try rfl
  rw[e1]; refine aY (art h.graph hh.graph) (by simp -implicitDefEqProofs only[go_sem,aF,cz,bh]<;>rfl) (bY rfl) ?_; simp -implicitDefEqProofs only[go_sem,aF,cz,bh]; refine aX (λh2=>?_) (λh2=>?_)<;>simp -implicitDefEqProofs only[go_sem,aF,cz,bh]
  ·have h2':=of_decide_eq_true h2; have hg:=okG h2'; rw[if_neg (by rw[h2']; decide)]; refine aX (λh3=>?_) (λh3=>?_)<;>simp -implicitDefEqProofs only[go_sem,aF,cz,bh]
   ·have h3':=of_decide_eq_true h3; have hvl:h.values.length=h.graph.nodes.length:=by omega
    rw[if_neg (by omega)]; generalize hF:(λi=>oA t (h.graph.nodes.getD i default) (h.values.getD i default))=f; refine bH (σ:=Nat) (λx=>(ct (ct (ct (ct (ct fA 2 (.ptr 2 0)) 3 (.ptr 3 0)) 38 (.p (.aU (h.graph.nodes.map encI)))) 39 (.p (.val (.int .i64 h.graph.nodes.length)))) 40 (.p (.val (.int .i64 x)))))
     (λx=>(bl (bl b8 2 (.box [.p (.aU (t.nodes.map aJ)),.p (.aU (t.au.map aK))])) 3 (.box [.p (.aU (h.graph.nodes.map encI)),.p (.aU (h.graph.au.map bf)),.p (.aU (h.values.map b9))])))
     (λx=>x<=h.graph.nodes.length/\∀j,j<x->f j=0) (λx=>h.graph.nodes.length - x) 0 ⟨Nat.zero_le _,λj hj=>absurd hj (Nat.not_lt_zero j)⟩ bR ?_
    rintro x ⟨hx,hq⟩; simp -implicitDefEqProofs only[go_sem,aF,cz,bh]; refine aL (λhc=>?_) (λhc=>?_)
    ·have hlt:x<h.graph.nodes.length:=by simpa using hc
     have jU:x<h.values.length:=by omega
     have hr:=hh.row _ (gM jU); simp -implicitDefEqProofs only[go_sem,aF,cz,bh,getD_map encI hlt,hlt,encI,getD_map b9 jU,jU,b9]; refine cV [.q,.q,.q,.q,.q,.q,.q,.q,.q] (by kernel_rfl) ?_; simp -implicitDefEqProofs only[go_sem,aF,cz,bh,getD_map encI hlt,hlt,encI,getD_map b9 jU,jU,b9]; refine jk (avB t ht (h.graph.nodes.getD x default) (hg.kind x hlt).1 (h.values.getD x default) (by omega)) (by simp -implicitDefEqProofs only[go_sem,aF,cz,bh,getD_map encI hlt,hlt,encI,getD_map b9 jU,jU,b9]<;>rfl) (bY rfl) ?_; simp -implicitDefEqProofs only[go_sem,aF,cz,bh,getD_map encI hlt,hlt,encI,getD_map b9 jU,jU,b9]; have e:f x=oA t (h.graph.nodes.getD x default) (h.values.getD x default):=by rw[<-hF]
     refine aX (λh4=>?_) (λh4=>?_)<;>simp -implicitDefEqProofs only[go_sem,aF,cz,bh,getD_map encI hlt,hlt,encI,getD_map b9 jU,jU,b9]
     ·have yw:=of_decide_eq_true h4; exact bJ (x+1) ⟨hlt,all_succ hq (e.trans yw)⟩ (by omega) (by rw[bq hlt (by omega)]; exact bR)
     ·have yw:=of_decide_eq_false h4; rw[lC (Nat.zero_le _) hlt (λj _=>hq j) (by rw[e]; exact yw)]; exact⟨rfl,rfl⟩
    ·have hge:h.graph.nodes.length<=x:=by simpa using hc
     rw[gZ λj _ hj=>hq j (by omega)]; simp -implicitDefEqProofs only[go_sem,aF,cz,bh]; refine bH (σ:=Nat) (λx=>(ct (ct (ct (ct (ct fA 2 (.ptr 2 0)) 3 (.ptr 3 0)) 60 (.p (.aU (h.graph.au.map bf)))) 61 (.p (.val (.int .i64 h.graph.au.length)))) 62 (.p (.val (.int .i64 x)))))
      (λx=>(bl (bl b8 2 (.box [.p (.aU (t.nodes.map aJ)),.p (.aU (t.au.map aK))])) 3 (.box [.p (.aU (h.graph.nodes.map encI)),.p (.aU (h.graph.au.map bf)),.p (.aU (h.values.map b9))])))
      (λx=>x<=h.graph.au.length/\∀j,j<x->tj t h j=0) (λx=>h.graph.au.length - x) 0 ⟨Nat.zero_le _,λj hj=>absurd hj (Nat.not_lt_zero j)⟩ bR ?_
     rintro y ⟨hy,hq'⟩; simp -implicitDefEqProofs only[go_sem,aF,cz,bh]; refine aL (λpN=>?_) (λpN=>?_)
     ·have hlt:y<h.graph.au.length:=by simpa using pN
      have hE:=hg.je y hlt; obtain⟨a,ha⟩:∃k:Nat,(h.graph.au.getD y default).src=k:=⟨_,(Int.toNat_of_nonneg hE.2.1.1).symm⟩; obtain⟨b,hb⟩:∃k:Nat,(h.graph.au.getD y default).dst=k:=⟨_,(Int.toNat_of_nonneg hE.2.2.1).symm⟩; have hal:a<h.graph.nodes.length:=by have:=hE.2.1.2; rw[ha] at this; omega
      have hbl:b<h.graph.nodes.length:=by have:=hE.2.2.2; rw[hb] at this; omega
      have e0:tj t h y=if (t.au.length:Int)<=(h.graph.au.getD y default).type then 6 else if uw t (h.graph.au.getD y default).type (h.graph.nodes.getD a default) (h.graph.nodes.getD b default)=true then 0 else 13:=by unfold tj; rw[ha,hb,Int.toNat_natCast,Int.toNat_natCast]
      simp -implicitDefEqProofs only[go_sem,aF,cz,bh,getD_map bf hlt,hlt,bf,ha,hb]; refine aL (λh5=>?_) (λh5=>?_)<;>simp -implicitDefEqProofs only[go_sem,aF,cz,bh,getD_map bf hlt,hlt,bf,ha,hb]
      ·have h5':=of_decide_eq_true h5; have e6:tj t h y=6:=by rw[e0,if_pos h5']
       rw[lC (Nat.zero_le _) hlt (λj _=>hq' j) (by rw[e6]; decide)]; simp only[e6]
       first | exact⟨rfl,rfl⟩ | exact⟨trivial,trivial⟩ | exact⟨rfl,trivial⟩ | exact⟨trivial,rfl⟩
      ·have h5':=of_decide_eq_false h5; rw[if_neg h5'] at e0; refine cV [.q,.q,.q,.q,.q,.q,.q,.q,.q,.q,.q,.q,.q,.q,.q,.q,.q,.q,.q] (by kernel_rfl) ?_; simp -implicitDefEqProofs only[go_sem,getD_map encI hal,hal,getD_map encI hbl,hbl,encI,aF,cz,bh,getD_map bf hlt,hlt,bf,ha,hb]; refine jk (ayW t hf (h.graph.au.getD y default).type (h.graph.nodes.getD a default) (h.graph.nodes.getD b default)) (by simp -implicitDefEqProofs only[go_sem,aF,cz,bh,getD_map bf hlt,hlt,bf,ha,hb]<;>rfl) (bY rfl) ?_; simp -implicitDefEqProofs only[go_sem,aF,cz,bh,getD_map bf hlt,hlt,bf,ha,hb]; refine aX (λh6=>?_) (λh6=>?_)<;>simp -implicitDefEqProofs only[go_sem,aF,cz,bh,getD_map bf hlt,hlt,bf,ha,hb]
       ·rw[if_pos h6] at e0; exact bJ (y+1) ⟨hlt,all_succ hq' e0⟩ (by omega) (by rw[bq hlt (by omega)]; exact bR)
       ·rw[if_neg (by rw[h6]; decide)] at e0; rw[lC (Nat.zero_le _) hlt (λj _=>hq' j) (by rw[e0]; decide)]; simp only[e0]
        first | exact⟨rfl,rfl⟩ | exact⟨trivial,trivial⟩ | exact⟨rfl,trivial⟩ | exact⟨trivial,rfl⟩
     ·have aAE:h.graph.au.length<=y:=by simpa using pN
      simp -implicitDefEqProofs only[go_sem,aF,cz,bh]; rw[gZ λj _ hj=>hq' j (by omega)]; exact⟨rfl,rfl⟩
   ·have h3':=of_decide_eq_false h3; rw[if_pos (by omega)]; exact⟨rfl,rfl⟩
  ·have h2':=of_decide_eq_false h2; rw[if_pos h2']; exact⟨rfl,rfl⟩
 ·have sr:=of_decide_eq_false h1; unfold j6; rw[if_pos sr]; exact⟨rfl,rfl⟩
theorem ann (t:Types) (hf:ga t) (h:Host) (hh:tU h):aS Tryz.prog 55 [aF t,cz h] (λr=>r = .dB [.val (.int .i64 (j6 t h).1),.val (.int .i64 (j6 t h).2)]):=by
 have hg1:=hh.graph.nodes; have hg2:=hh.graph.au; have hv:=hh.values; refine aR [] func55 ?_; rw[ntmps55,results55]; simp -implicitDefEqProofs only[go_sem,aF,cz,bh]; refine aY (acM t hf) (by simp -implicitDefEqProofs only[go_sem,aF,cz,bh]<;>rfl) (bY rfl) ?_; simp -implicitDefEqProofs only[go_sem,aF,cz,bh]; refine aX (λh1=>?_) (λh1=>?_)<;>simp -implicitDefEqProofs only[go_sem,aF,cz,bh]
 ·have sr:=of_decide_eq_true h1; have ht:=zd hf sr
  have e1 : j6 t h = if qC h.graph ≠ 0 then (-1, qC h.graph)
    else if h.values.length≠h.graph.nodes.length then (-1,20)
    else match jT (λi=>oA t (h.graph.nodes.getD i default) (h.values.getD i default)) 0 h.graph.nodes.length with
     | some k=>((k:Int),oA t (h.graph.nodes.getD k default) (h.values.getD k default))
     | none=>match jT (tj t h) 0 h.graph.au.length with
      | some k=>((k:Int),tj t h k)
      | none=>(-1,0):=by
   unfold j6; rw[if_neg (by rw[sr]; decide)]; try rfl
  rw[e1]; refine aY (anm h.graph hh.graph) (by simp -implicitDefEqProofs only[go_sem,aF,cz,bh]<;>rfl) (bY rfl) ?_; simp -implicitDefEqProofs only[go_sem,aF,cz,bh]; refine aX (λh2=>?_) (λh2=>?_)<;>simp -implicitDefEqProofs only[go_sem,aF,cz,bh]
  ·have h2':=of_decide_eq_true h2; have hg:=okG h2'; rw[if_neg (by rw[h2']; decide)]; refine aX (λh3=>?_) (λh3=>?_)<;>simp -implicitDefEqProofs only[go_sem,aF,cz,bh]
   ·have h3':=of_decide_eq_true h3; have hvl:h.values.length=h.graph.nodes.length:=by omega
    rw[if_neg (by omega)]; generalize hF:(λi=>oA t (h.graph.nodes.getD i default) (h.values.getD i default))=f; refine bH (σ:=Nat) (λx=>(ct (ct (ct fA 2 (.ptr 2 0)) 3 (.ptr 3 0)) 9 (.p (.val (.int .i64 x)))))
     (λx=>(bl (bl b8 2 (.box [.p (.aU (t.nodes.map aJ)),.p (.aU (t.au.map aK))])) 3 (.box [.p (.aU (h.graph.nodes.map encI)),.p (.aU (h.graph.au.map bf)),.p (.aU (h.values.map b9))])))
     (λx=>x<=h.graph.nodes.length/\∀j,j<x->f j=0) (λx=>h.graph.nodes.length - x) 0 ⟨Nat.zero_le _,λj hj=>absurd hj (Nat.not_lt_zero j)⟩ bR ?_
    rintro x ⟨hx,hq⟩; simp -implicitDefEqProofs only[go_sem,aF,cz,bh]; refine aL (λhc=>?_) (λhc=>?_)
    ·have hlt:x<h.graph.nodes.length:=by simpa using hc
     have jU:x<h.values.length:=by omega
     have hr:=hh.row _ (gM jU); simp -implicitDefEqProofs only[go_sem,aF,cz,bh,getD_map encI hlt,hlt,encI,getD_map b9 jU,jU,b9]; refine cV [.q,.q,.q,.q,.q,.q,.q,.q,.q,.q,.q,.q,.q,.q] (by kernel_rfl) ?_; simp -implicitDefEqProofs only[go_sem,aF,cz,bh,getD_map encI hlt,hlt,encI,getD_map b9 jU,jU,b9]; refine jk (arv t ht (h.graph.nodes.getD x default) (hg.kind x hlt).1 (h.values.getD x default) (by omega)) (by simp -implicitDefEqProofs only[go_sem,aF,cz,bh,getD_map encI hlt,hlt,encI,getD_map b9 jU,jU,b9]<;>rfl) (bY rfl) ?_; simp -implicitDefEqProofs only[go_sem,aF,cz,bh,getD_map encI hlt,hlt,encI,getD_map b9 jU,jU,b9]; have e:f x=oA t (h.graph.nodes.getD x default) (h.values.getD x default):=by rw[<-hF]
     refine aX (λh4=>?_) (λh4=>?_)<;>simp -implicitDefEqProofs only[go_sem,aF,cz,bh,getD_map encI hlt,hlt,encI,getD_map b9 jU,jU,b9]
     ·have yw:=of_decide_eq_true h4; exact bJ (x+1) ⟨hlt,all_succ hq (e.trans yw)⟩ (by omega) (by rw[bq hlt (by omega)]; exact bR)
     ·have yw:=of_decide_eq_false h4; rw[lC (Nat.zero_le _) hlt (λj _=>hq j) (by rw[e]; exact yw)]; exact⟨rfl,rfl⟩
    ·have hge:h.graph.nodes.length<=x:=by simpa using hc
     rw[gZ λj _ hj=>hq j (by omega)]; simp -implicitDefEqProofs only[go_sem,aF,cz,bh]; refine bH (σ:=Nat) (λx=>(ct (ct (ct fA 2 (.ptr 2 0)) 3 (.ptr 3 0)) 11 (.p (.val (.int .i64 x)))))
      (λx=>(bl (bl b8 2 (.box [.p (.aU (t.nodes.map aJ)),.p (.aU (t.au.map aK))])) 3 (.box [.p (.aU (h.graph.nodes.map encI)),.p (.aU (h.graph.au.map bf)),.p (.aU (h.values.map b9))])))
      (λx=>x<=h.graph.au.length/\∀j,j<x->tj t h j=0) (λx=>h.graph.au.length - x) 0 ⟨Nat.zero_le _,λj hj=>absurd hj (Nat.not_lt_zero j)⟩ bR ?_
     rintro y ⟨hy,hq'⟩; simp -implicitDefEqProofs only[go_sem,aF,cz,bh]; refine aL (λpN=>?_) (λpN=>?_)
     ·have hlt:y<h.graph.au.length:=by simpa using pN
      have hE:=hg.je y hlt; obtain⟨a,ha⟩:∃k:Nat,(h.graph.au.getD y default).src=k:=⟨_,(Int.toNat_of_nonneg hE.2.1.1).symm⟩; obtain⟨b,hb⟩:∃k:Nat,(h.graph.au.getD y default).dst=k:=⟨_,(Int.toNat_of_nonneg hE.2.2.1).symm⟩; have hal:a<h.graph.nodes.length:=by have:=hE.2.1.2; rw[ha] at this; omega
      have hbl:b<h.graph.nodes.length:=by have:=hE.2.2.2; rw[hb] at this; omega
      have e0:tj t h y=if (t.au.length:Int)<=(h.graph.au.getD y default).type then 6 else if uw t (h.graph.au.getD y default).type (h.graph.nodes.getD a default) (h.graph.nodes.getD b default)=true then 0 else 13:=by unfold tj; rw[ha,hb,Int.toNat_natCast,Int.toNat_natCast]
      simp -implicitDefEqProofs only[go_sem,aF,cz,bh,getD_map bf hlt,hlt,bf,ha,hb]; refine aL (λh5=>?_) (λh5=>?_)<;>simp -implicitDefEqProofs only[go_sem,aF,cz,bh,getD_map bf hlt,hlt,bf,ha,hb]
      ·have h5':=of_decide_eq_true h5; have e6:tj t h y=6:=by rw[e0,if_pos h5']
       rw[lC (Nat.zero_le _) hlt (λj _=>hq' j) (by rw[e6]; decide)]; simp only[e6]
       first | exact⟨rfl,rfl⟩ | exact⟨trivial,trivial⟩ | exact⟨rfl,trivial⟩ | exact⟨trivial,rfl⟩
      ·have h5':=of_decide_eq_false h5; rw[if_neg h5'] at e0; refine cV [.q,.q,.q,.q,.q,.q,.q,.q,.q,.q,.q,.q,.q,.q,.q,.q,.q,.q,.q] (by kernel_rfl) ?_; simp -implicitDefEqProofs only[go_sem,getD_map encI hal,hal,getD_map encI hbl,hbl,encI,aF,cz,bh,getD_map bf hlt,hlt,bf,ha,hb]; refine jk (avx t hf (h.graph.au.getD y default).type (h.graph.nodes.getD a default) (h.graph.nodes.getD b default)) (by simp -implicitDefEqProofs only[go_sem,aF,cz,bh,getD_map bf hlt,hlt,bf,ha,hb]<;>rfl) (bY rfl) ?_; simp -implicitDefEqProofs only[go_sem,aF,cz,bh,getD_map bf hlt,hlt,bf,ha,hb]; refine aX (λh6=>?_) (λh6=>?_)<;>simp -implicitDefEqProofs only[go_sem,aF,cz,bh,getD_map bf hlt,hlt,bf,ha,hb]
       ·rw[if_pos h6] at e0; exact bJ (y+1) ⟨hlt,all_succ hq' e0⟩ (by omega) (by rw[bq hlt (by omega)]; exact bR)
       ·rw[if_neg (by rw[h6]; decide)] at e0; rw[lC (Nat.zero_le _) hlt (λj _=>hq' j) (by rw[e0]; decide)]; simp only[e0]
        first | exact⟨rfl,rfl⟩ | exact⟨trivial,trivial⟩ | exact⟨rfl,trivial⟩ | exact⟨trivial,rfl⟩
     ·have aAE:h.graph.au.length<=y:=by simpa using pN
      simp -implicitDefEqProofs only[go_sem,aF,cz,bh]; rw[gZ λj _ hj=>hq' j (by omega)]; exact⟨rfl,rfl⟩
   ·have h3':=of_decide_eq_false h3; rw[if_pos (by omega)]; exact⟨rfl,rfl⟩
  ·have h2':=of_decide_eq_false h2; rw[if_pos h2']; exact⟨rfl,rfl⟩
 ·have sr:=of_decide_eq_false h1; unfold j6; rw[if_pos sr]; exact⟨rfl,rfl⟩
end Go.Proofs.YtllicmcihlfajaaGreat
namespace Go.Proofs
open Go.Shelf
def YtllicmcihlfajaaGreat.aii:Go.Shelf.Ren:=⟨λ| 4=>126 | n=>n,λ| 22=>45 | 25=>53 | 3=>3 | 4=>4 | 9=>9 | 20=>20 | 0=>0 | n=>n,λ| n=>n⟩
theorem YtllicmcihlfajaaGreat.avC:Go.Proofs.Lays8.n4 Tryz.prog YtllicmcihlfajaaGreat.aii:={
 mixed:=by kernel_rfl
 f4:=⟨Tryz.f126.name,by decide,Tryz.func126.trans (congrArg some (by kernel_rfl))⟩
 t0:=underlying0
 a0:=isAgg0
 z0:=sizeOf0
 v0:=zeroValue0
 t3:=underlying3
 a3:=isAgg3
 z3:=sizeOf3
 v3:=zeroValue3
 t4:=underlying4
 a4:=isAgg4
 z4:=sizeOf4
 v4:=zeroValue4
 t9:=underlying9
 a9:=isAgg9
 z9:=sizeOf9
 v9:=zeroValue9
 t20:=underlying20
 a20:=isAgg20
 z20:=sizeOf20
 v20:=zeroValue20
 t22:=underlying45
 a22:=isAgg45
 z22:=sizeOf45
 v22:=zeroValue45 }
def YtllicmcihlfajaaGreat.akr:Go.Shelf.Ren:=⟨λ| 4=>143 | n=>n,λ| 22=>141 | 25=>144 | 3=>3 | 4=>4 | 9=>9 | 20=>20 | 0=>0 | n=>n,λ| n=>n⟩
theorem YtllicmcihlfajaaGreat.ayY:Go.Proofs.Lays8.n4 Tryz.prog YtllicmcihlfajaaGreat.akr:={
 mixed:=by kernel_rfl
 f4:=⟨Tryz.f143.name,by decide,Tryz.func143.trans (congrArg some (by kernel_rfl))⟩
 t0:=underlying0
 a0:=isAgg0
 z0:=sizeOf0
 v0:=zeroValue0
 t3:=underlying3
 a3:=isAgg3
 z3:=sizeOf3
 v3:=zeroValue3
 t4:=underlying4
 a4:=isAgg4
 z4:=sizeOf4
 v4:=zeroValue4
 t9:=underlying9
 a9:=isAgg9
 z9:=sizeOf9
 v9:=zeroValue9
 t20:=underlying20
 a20:=isAgg20
 z20:=sizeOf20
 v20:=zeroValue20
 t22:=underlying141
 a22:=isAgg141
 z22:=sizeOf141
 v22:=zeroValue141 }
end Go.Proofs
namespace Go.Proofs
open Go.Shelf
def YtllicmcihlfajaaGreat.aij:Go.Shelf.Ren:=⟨λ| 6=>127 | 15=>187 | 14=>186 | 28=>225 | 29=>226 | 20=>217 | 21=>218 | 22=>219 | 23=>220 | 24=>221 | 25=>222 | 26=>223 | 27=>224 | 46=>243 | 47=>244 | 48=>245 | 49=>246 | 50=>247 | 57=>280 | n=>n,λ| 22=>45 | 24=>53 | 25=>199 | 3=>3 | 39=>115 | 0=>0 | 53=>182 | 55=>185 | 4=>4 | 46=>268 | 45=>267 | 50=>272 | 5=>5 | 9=>9 | 66=>286 | 70=>290 | 76=>313 | 77=>314 | n=>n,λ| n=>n⟩
theorem YtllicmcihlfajaaGreat.avD:Go.Proofs.SlLaysF0.n6 Tryz.prog YtllicmcihlfajaaGreat.aij:={
 mixed:=by kernel_rfl
 f6:=⟨Tryz.f127.name,by decide,Tryz.func127.trans (congrArg some (by kernel_rfl))⟩
 f14:=⟨Tryz.f186.name,by decide,Tryz.func186.trans (congrArg some (by kernel_rfl))⟩
 f15:=Tryz.func187.trans (congrArg some (by kernel_rfl))
 f20:=⟨Tryz.f217.name,by decide,Tryz.func217.trans (congrArg some (by kernel_rfl))⟩
 f21:=⟨Tryz.f218.name,by decide,Tryz.func218.trans (congrArg some (by kernel_rfl))⟩
 f22:=⟨Tryz.f219.name,by decide,Tryz.func219.trans (congrArg some (by kernel_rfl))⟩
 f23:=⟨Tryz.f220.name,by decide,Tryz.func220.trans (congrArg some (by kernel_rfl))⟩
 f24:=⟨Tryz.f221.name,by decide,Tryz.func221.trans (congrArg some (by kernel_rfl))⟩
 f25:=⟨Tryz.f222.name,by decide,Tryz.func222.trans (congrArg some (by kernel_rfl))⟩
 f26:=⟨Tryz.f223.name,by decide,Tryz.func223.trans (congrArg some (by kernel_rfl))⟩
 f27:=⟨Tryz.f224.name,by decide,Tryz.func224.trans (congrArg some (by kernel_rfl))⟩
 f28:=Tryz.func225.trans (congrArg some (by kernel_rfl))
 f29:=Tryz.func226.trans (congrArg some (by kernel_rfl))
 f46:=⟨Tryz.f243.name,by decide,Tryz.func243.trans (congrArg some (by kernel_rfl))⟩
 f47:=Tryz.func244.trans (congrArg some (by kernel_rfl))
 f48:=Tryz.func245.trans (congrArg some (by kernel_rfl))
 f49:=⟨Tryz.f246.name,by decide,Tryz.func246.trans (congrArg some (by kernel_rfl))⟩
 f50:=⟨Tryz.f247.name,by decide,Tryz.func247.trans (congrArg some (by kernel_rfl))⟩
 f57:=⟨Tryz.f280.name,by decide,Tryz.func280.trans (congrArg some (by kernel_rfl))⟩
 t0:=underlying0
 a0:=isAgg0
 z0:=sizeOf0
 v0:=zeroValue0
 t3:=underlying3
 a3:=isAgg3
 z3:=sizeOf3
 v3:=zeroValue3
 t4:=underlying4
 a4:=isAgg4
 z4:=sizeOf4
 v4:=zeroValue4
 t5:=underlying5
 a5:=isAgg5
 z5:=sizeOf5
 v5:=zeroValue5
 t9:=underlying9
 a9:=isAgg9
 z9:=sizeOf9
 v9:=zeroValue9
 t22:=underlying45
 a22:=isAgg45
 z22:=sizeOf45
 v22:=zeroValue45
 t25:=underlying199
 a25:=isAgg199
 z25:=sizeOf199
 v25:=zeroValue199
 t39:=underlying115
 a39:=isAgg115
 z39:=sizeOf115
 v39:=zeroValue115
 t45:=underlying267
 a45:=isAgg267
 z45:=sizeOf267
 v45:=zeroValue267
 t46:=underlying268
 a46:=isAgg268
 z46:=sizeOf268
 v46:=zeroValue268
 t50:=underlying272
 a50:=isAgg272
 z50:=sizeOf272
 v50:=zeroValue272
 t53:=underlying182
 a53:=isAgg182
 z53:=sizeOf182
 v53:=zeroValue182
 t55:=underlying185
 a55:=isAgg185
 z55:=sizeOf185
 v55:=zeroValue185
 t66:=underlying286
 a66:=isAgg286
 z66:=sizeOf286
 v66:=zeroValue286
 t70:=underlying290
 a70:=isAgg290
 z70:=sizeOf290
 v70:=zeroValue290
 t76:=underlying313
 a76:=isAgg313
 z76:=sizeOf313
 v76:=zeroValue313
 t77:=underlying314
 a77:=isAgg314
 z77:=sizeOf314
 v77:=zeroValue314 }
def YtllicmcihlfajaaGreat.af4:Go.Shelf.Ren:=⟨λ| 6=>215 | 15=>187 | 14=>241 | 28=>225 | 29=>226 | 20=>264 | 21=>265 | 22=>266 | 23=>267 | 24=>268 | 25=>269 | 26=>270 | 27=>271 | 46=>293 | 47=>244 | 48=>245 | 49=>294 | 50=>295 | 57=>302 | n=>n,λ| 22=>35 | 24=>79 | 25=>256 | 3=>3 | 39=>115 | 0=>0 | 53=>182 | 55=>185 | 4=>4 | 46=>268 | 45=>267 | 50=>272 | 5=>5 | 9=>9 | 66=>286 | 70=>290 | 76=>313 | 77=>314 | n=>n,λ| n=>n⟩
theorem YtllicmcihlfajaaGreat.arx:Go.Proofs.SlLaysF0.n6 Tryz.prog YtllicmcihlfajaaGreat.af4:={
 mixed:=by kernel_rfl
 f6:=⟨Tryz.f215.name,by decide,Tryz.func215.trans (congrArg some (by kernel_rfl))⟩
 f14:=⟨Tryz.f241.name,by decide,Tryz.func241.trans (congrArg some (by kernel_rfl))⟩
 f15:=Tryz.func187.trans (congrArg some (by kernel_rfl))
 f20:=⟨Tryz.f264.name,by decide,Tryz.func264.trans (congrArg some (by kernel_rfl))⟩
 f21:=⟨Tryz.f265.name,by decide,Tryz.func265.trans (congrArg some (by kernel_rfl))⟩
 f22:=⟨Tryz.f266.name,by decide,Tryz.func266.trans (congrArg some (by kernel_rfl))⟩
 f23:=⟨Tryz.f267.name,by decide,Tryz.func267.trans (congrArg some (by kernel_rfl))⟩
 f24:=⟨Tryz.f268.name,by decide,Tryz.func268.trans (congrArg some (by kernel_rfl))⟩
 f25:=⟨Tryz.f269.name,by decide,Tryz.func269.trans (congrArg some (by kernel_rfl))⟩
 f26:=⟨Tryz.f270.name,by decide,Tryz.func270.trans (congrArg some (by kernel_rfl))⟩
 f27:=⟨Tryz.f271.name,by decide,Tryz.func271.trans (congrArg some (by kernel_rfl))⟩
 f28:=Tryz.func225.trans (congrArg some (by kernel_rfl))
 f29:=Tryz.func226.trans (congrArg some (by kernel_rfl))
 f46:=⟨Tryz.f293.name,by decide,Tryz.func293.trans (congrArg some (by kernel_rfl))⟩
 f47:=Tryz.func244.trans (congrArg some (by kernel_rfl))
 f48:=Tryz.func245.trans (congrArg some (by kernel_rfl))
 f49:=⟨Tryz.f294.name,by decide,Tryz.func294.trans (congrArg some (by kernel_rfl))⟩
 f50:=⟨Tryz.f295.name,by decide,Tryz.func295.trans (congrArg some (by kernel_rfl))⟩
 f57:=⟨Tryz.f302.name,by decide,Tryz.func302.trans (congrArg some (by kernel_rfl))⟩
 t0:=underlying0
 a0:=isAgg0
 z0:=sizeOf0
 v0:=zeroValue0
 t3:=underlying3
 a3:=isAgg3
 z3:=sizeOf3
 v3:=zeroValue3
 t4:=underlying4
 a4:=isAgg4
 z4:=sizeOf4
 v4:=zeroValue4
 t5:=underlying5
 a5:=isAgg5
 z5:=sizeOf5
 v5:=zeroValue5
 t9:=underlying9
 a9:=isAgg9
 z9:=sizeOf9
 v9:=zeroValue9
 t22:=underlying35
 a22:=isAgg35
 z22:=sizeOf35
 v22:=zeroValue35
 t25:=underlying256
 a25:=isAgg256
 z25:=sizeOf256
 v25:=zeroValue256
 t39:=underlying115
 a39:=isAgg115
 z39:=sizeOf115
 v39:=zeroValue115
 t45:=underlying267
 a45:=isAgg267
 z45:=sizeOf267
 v45:=zeroValue267
 t46:=underlying268
 a46:=isAgg268
 z46:=sizeOf268
 v46:=zeroValue268
 t50:=underlying272
 a50:=isAgg272
 z50:=sizeOf272
 v50:=zeroValue272
 t53:=underlying182
 a53:=isAgg182
 z53:=sizeOf182
 v53:=zeroValue182
 t55:=underlying185
 a55:=isAgg185
 z55:=sizeOf185
 v55:=zeroValue185
 t66:=underlying286
 a66:=isAgg286
 z66:=sizeOf286
 v66:=zeroValue286
 t70:=underlying290
 a70:=isAgg290
 z70:=sizeOf290
 v70:=zeroValue290
 t76:=underlying313
 a76:=isAgg313
 z76:=sizeOf313
 v76:=zeroValue313
 t77:=underlying314
 a77:=isAgg314
 z77:=sizeOf314
 v77:=zeroValue314 }
def YtllicmcihlfajaaGreat.af5:Go.Shelf.Ren:=⟨λ| 6=>216 | 15=>187 | 14=>242 | 28=>225 | 29=>226 | 20=>272 | 21=>273 | 22=>274 | 23=>275 | 24=>276 | 25=>277 | 26=>278 | 27=>279 | 46=>296 | 47=>244 | 48=>245 | 49=>297 | 50=>298 | 57=>303 | n=>n,λ| 22=>36 | 24=>84 | 25=>258 | 3=>3 | 39=>115 | 0=>0 | 53=>182 | 55=>185 | 4=>4 | 46=>268 | 45=>267 | 50=>272 | 5=>5 | 9=>9 | 66=>286 | 70=>290 | 76=>313 | 77=>314 | n=>n,λ| n=>n⟩
theorem YtllicmcihlfajaaGreat.ary:Go.Proofs.SlLaysF0.n6 Tryz.prog YtllicmcihlfajaaGreat.af5:={
 mixed:=by kernel_rfl
 f6:=⟨Tryz.f216.name,by decide,Tryz.func216.trans (congrArg some (by kernel_rfl))⟩
 f14:=⟨Tryz.f242.name,by decide,Tryz.func242.trans (congrArg some (by kernel_rfl))⟩
 f15:=Tryz.func187.trans (congrArg some (by kernel_rfl))
 f20:=⟨Tryz.f272.name,by decide,Tryz.func272.trans (congrArg some (by kernel_rfl))⟩
 f21:=⟨Tryz.f273.name,by decide,Tryz.func273.trans (congrArg some (by kernel_rfl))⟩
 f22:=⟨Tryz.f274.name,by decide,Tryz.func274.trans (congrArg some (by kernel_rfl))⟩
 f23:=⟨Tryz.f275.name,by decide,Tryz.func275.trans (congrArg some (by kernel_rfl))⟩
 f24:=⟨Tryz.f276.name,by decide,Tryz.func276.trans (congrArg some (by kernel_rfl))⟩
 f25:=⟨Tryz.f277.name,by decide,Tryz.func277.trans (congrArg some (by kernel_rfl))⟩
 f26:=⟨Tryz.f278.name,by decide,Tryz.func278.trans (congrArg some (by kernel_rfl))⟩
 f27:=⟨Tryz.f279.name,by decide,Tryz.func279.trans (congrArg some (by kernel_rfl))⟩
 f28:=Tryz.func225.trans (congrArg some (by kernel_rfl))
 f29:=Tryz.func226.trans (congrArg some (by kernel_rfl))
 f46:=⟨Tryz.f296.name,by decide,Tryz.func296.trans (congrArg some (by kernel_rfl))⟩
 f47:=Tryz.func244.trans (congrArg some (by kernel_rfl))
 f48:=Tryz.func245.trans (congrArg some (by kernel_rfl))
 f49:=⟨Tryz.f297.name,by decide,Tryz.func297.trans (congrArg some (by kernel_rfl))⟩
 f50:=⟨Tryz.f298.name,by decide,Tryz.func298.trans (congrArg some (by kernel_rfl))⟩
 f57:=⟨Tryz.f303.name,by decide,Tryz.func303.trans (congrArg some (by kernel_rfl))⟩
 t0:=underlying0
 a0:=isAgg0
 z0:=sizeOf0
 v0:=zeroValue0
 t3:=underlying3
 a3:=isAgg3
 z3:=sizeOf3
 v3:=zeroValue3
 t4:=underlying4
 a4:=isAgg4
 z4:=sizeOf4
 v4:=zeroValue4
 t5:=underlying5
 a5:=isAgg5
 z5:=sizeOf5
 v5:=zeroValue5
 t9:=underlying9
 a9:=isAgg9
 z9:=sizeOf9
 v9:=zeroValue9
 t22:=underlying36
 a22:=isAgg36
 z22:=sizeOf36
 v22:=zeroValue36
 t25:=underlying258
 a25:=isAgg258
 z25:=sizeOf258
 v25:=zeroValue258
 t39:=underlying115
 a39:=isAgg115
 z39:=sizeOf115
 v39:=zeroValue115
 t45:=underlying267
 a45:=isAgg267
 z45:=sizeOf267
 v45:=zeroValue267
 t46:=underlying268
 a46:=isAgg268
 z46:=sizeOf268
 v46:=zeroValue268
 t50:=underlying272
 a50:=isAgg272
 z50:=sizeOf272
 v50:=zeroValue272
 t53:=underlying182
 a53:=isAgg182
 z53:=sizeOf182
 v53:=zeroValue182
 t55:=underlying185
 a55:=isAgg185
 z55:=sizeOf185
 v55:=zeroValue185
 t66:=underlying286
 a66:=isAgg286
 z66:=sizeOf286
 v66:=zeroValue286
 t70:=underlying290
 a70:=isAgg290
 z70:=sizeOf290
 v70:=zeroValue290
 t76:=underlying313
 a76:=isAgg313
 z76:=sizeOf313
 v76:=zeroValue313
 t77:=underlying314
 a77:=isAgg314
 z77:=sizeOf314
 v77:=zeroValue314 }
end Go.Proofs
namespace Go.cE
open Go.RowKit
variable {P:Program} {w:World} {H:Type} {enc:TypeId×Value->H}
def qE (w:World) (cs:List Value) (ps:List PV):Prop:=cs.length=ps.length/\(∀ (j:Nat) u c,cs[j]? = some u->ps[j]? = some c->VR (snap w) u c)/\∀u∈cs,u.oneCell'=true
def avE (P:Program) (t:TypeId) (d:DataW H):Prop:=∀n∈d.weights P t,n<=reachBytes
structure nj (P:Program) (w:World) {H:Type} (enc:TypeId×Value->H) {α:Type} (t:TypeId) (sz:Nat) (e:α->List PV) (G:α->Prop):Prop where
 len:∀a,(e a).length=sz
 dec:∀ (sp:Nat->Bool) (hd:Bool) (fuel:Nat) (cs:List Value) (x:DataW H×List MemPlace),DataW.trod enc P w 0 sp hd fuel t cs=some x->avE P t x.1->∃a,G a/\qE w cs (e a)
theorem qE.one {u:Value} {p:PV} (h:VR (snap w) u p) (h1:u.oneCell'=true):qE w [u] [p] :=
 ⟨rfl,λj u' c hu hc=>by
  cases j with
  | zero=>simp at hu hc; subst hu hc; exact h
  | succ j=>simp at hu,λu' hu=>by simp at hu; subst hu; exact h1⟩
theorem nj.int {t:TypeId} (ht:P.underlying t=some (.int .i64)):nj P w enc t 1 (λn:Int=>[.val (.int .i64 n)]) (λ_=>True) :=
 ⟨λ_=>rfl,λsp hd fuel cs x h _=>by
  obtain⟨n,rfl,_⟩:=DataW.trod_int ht h; exact⟨n,trivial,.one (.val _ rfl) rfl⟩⟩
theorem nj.str {t:TypeId} (ht:P.underlying t=some .string):nj P w enc t 1 (λs:ByteArray=>[.val (.string s)]) (λ_=>True) :=
 ⟨λ_=>rfl,λsp hd fuel cs x h _=>by
  obtain⟨n,rfl,_⟩:=DataW.trod_string ht h; exact⟨n,trivial,.one (.val _ rfl) rfl⟩⟩
theorem nj.bool {t:TypeId} (ht:P.underlying t=some .bool):nj P w enc t 1 (λb:Bool=>[.val (.bool b)]) (λ_=>True) :=
 ⟨λ_=>rfl,λsp hd fuel cs x h _=>by
  obtain⟨n,rfl,_⟩:=DataW.trod_bool ht h; exact⟨n,trivial,.one (.val _ rfl) rfl⟩⟩
theorem nj.map {α β:Type} {t:TypeId} {sz:Nat} {e:α->List PV} {G:α->Prop} {e':β->List PV} {G':β->Prop} (g:α->β) (f:β->α) (hgf:∀b,e (f b)=e' b) (hg:∀a,e' (g a)=e a) (hG:∀a,G a->G' (g a)) (h:nj P w enc t sz e G):nj P w enc t sz e' G' :=
 ⟨λb=>by rw[<-hgf]; exact h.len _,λsp hd fuel cs x hx hw=>by
  obtain⟨a,h1,h2⟩:=h.dec sp hd fuel cs x hx hw; exact⟨g a,hG a h1,by rw[hg]; exact h2⟩⟩
theorem tq {e:TypeId} : ∀ {ds:List (DataW H)} {d:DataW H},d∈ds->∀n∈d.weights P e,n∈DataW.weightsAll P e ds
 | d0 :: r,d,hd,n,hn=>by
  rw[DataW.weightsAll,List.mem_append]; rcases List.mem_cons.1 hd with rfl | h
  ·exact .inl hn
  ·exact .inr (tq h n hn)
theorem mapM_some {α β:Type} {f:α->Option β} : ∀ {l:List α} {r:List β},l.mapM f=some r->r.length=l.length/\∀ (i:Nat) a,l[i]? = some a->r[i]? = f a:=by
 intro l
 induction l with
 | nil=>intro r h; simp at h; subst h; exact⟨rfl,by simp⟩
 | cons a l ih =>
  intro r h; rw[List.mapM_cons] at h; cases ha:f a with
  | none=>rw[ha] at h; cases h
  | some b =>
   rw[ha] at h; cases hl:l.mapM f with
   | none=>rw[hl] at h; cases h
   | some r' =>
    rw[hl] at h; have:r=b :: r':=by simpa using h.symm
    subst this; obtain⟨h1,h2⟩:=ih hl; refine⟨by simp[h1],λi x hx=>?_⟩; cases i with
    | zero=>simp at hx; subst hx; simp[ha]
    | succ i=>simpa using h2 i x (by simpa using hx)
theorem aaI {a:Addr} {n:Nat} {cs:List Value} (h:w.cells? 0 a n=some cs):cs.length=n/\(∀ (i:Nat) u,cs[i]? = some u->w.cell? (a.add i)=some u):=by
 unfold World.cells? at h; rw[if_pos (Nat.zero_le _)] at h; obtain⟨h1,h2⟩:=mapM_some h; refine⟨by simpa using h1,λi u hu=>?_⟩; have hi:i<n:=by have:=(List.getElem?_eq_some_iff.1 hu).1; simpa[h1] using this
 rw[<-h2 i i (by simp[hi]),hu]
theorem arz {a:Addr} {u:Value} (h:w.cell? a=some u):a.spot=none:=by
 unfold World.cell? at h; split at h
 ·split at h
  ·cases h
  ·rename_i hs; cases hsp:a.spot with
   | none=>rfl
   | some _=>simp[hsp] at hs
 ·cases h
theorem adq {α:Type} {n:Nat} {Q:Nat->α->Prop} (h:∀i,i<n->∃a,Q i a):∃l:List α,l.length=n/\∀ (i:Nat) a,l[i]? = some a->Q i a:=by
 induction n with
 | zero=>exact⟨[],rfl,by simp⟩
 | succ n ih =>
  obtain⟨l,h1,h2⟩:=ih λi hi=>h i (by omega)
  obtain⟨a,ha⟩:=h n (by omega); refine⟨l++[a],by simp[h1],λi b hb=>?_⟩; rcases Nat.lt_or_ge i l.length with hi | hi
  ·rw[List.getElem?_append_left hi] at hb; exact h2 i b hb
  ·rw[List.getElem?_append_right hi] at hb; have:i - l.length=0:=by have:=(List.getElem?_eq_some_iff.1 hb).1; simp at this; omega
   rw[this] at hb; simp at hb; subst hb; have:i=n:=by omega
   subst this; exact ha
end Go.cE
namespace Go.cE
open Go.RowKit
variable {P:Program}
theorem rq.len:∀ {ps' ps:List PV},rq ps' ps->ps'.length=ps.length
 | [],[],_=>rfl
 | [],_ :: _,h=>h.elim
 | _ :: _,[],h=>h.elim
 | _ :: _,_ :: _,h=>by simp[rq.len h.2]
theorem rq.at:∀ {ps' ps:List PV},rq ps' ps->∀ {j:Nat} {c:PV},ps[j]? = some c->∃c',ps'[j]? = some c'/\PLe c' c
 | [],[],_,_,_,h=>by simp at h
 | [],_ :: _,h,_,_,_=>h.elim
 | _ :: _,[],h,_,_,_=>h.elim
 | a :: r,b :: s,h,j,c,hc=>by
  cases j with
  | zero=>simp at hc; subst hc; exact⟨a,rfl,h.1⟩
  | succ j=>obtain⟨c',h1,h2⟩:=rq.at h.2 (j:=j) (c:=c) (by simpa using hc); exact⟨c',by simpa using h1,h2⟩
theorem PLe.agg {ps' ps:List PV} (h:rq ps' ps):PLe (.agg ps') (.agg ps):=λI v hv=>by
 cases hv with
 | agg us _ hl hv hone=>refine .agg us ps (hl.trans h.len) (λj u c hu hc=>?_) hone; obtain⟨c',h1,h2⟩:=h.at hc; exact h2 I u (hv j u c' hu h1)
theorem PLe.dB {ps' ps:List PV} (h:rq ps' ps):PLe (.dB ps') (.dB ps):=λI v hv=>by
 cases hv with
 | dB us _ hl hv=>refine .dB us ps (hl.trans h.len) (λj u c hu hc=>?_); obtain⟨c',h1,h2⟩:=h.at hc; exact h2 I u (hv j u c' hu h1)
theorem rq.refl:∀ps:List PV,rq ps ps
 | []=>trivial
 | a :: r=>⟨PLe.refl a,rq.refl r⟩
theorem aS.le {f:FuncId} {args:List PV} {Q Q':PV->Prop} (h:aS P f args Q) (hq:∀r,Q r->∃r',PLe r r'/\Q' r'):aS P f args Q' :=
 ⟨h.1,λI w vs hI hv=>(h.2 I w vs hI hv).mono λ_ _ ⟨v,r,I',h1,h2,h3,h4⟩=>by
  obtain⟨r',h5,h6⟩:=hq r h2; exact⟨v,r',I',h1,h6,h5 _ _ h3,h4⟩⟩
end Go.cE
namespace Go.cE
open Go.RowKit
theorem PLe.aU {es' es:List (List PV)} (hl:es'.map (·.length)=es.map (·.length)) (hf:rq es'.flatten es.flatten):PLe (.aU es') (.aU es):=λI v hv=>by
 cases hv with
 | aU ao n cap _ us sz hn hsz hu hv hone hm hnil hcap =>
  have hlen:es'.length=es.length:=by have:=congrArg List.length hl; simpa using this
  refine .aU ao _ cap es us sz (by rw[<-hlen]; exact hn) (λe he=>?_) (hu.trans hf.len) (λj u c hu hc=>?_) hone hm hnil hcap
  ·obtain⟨i,hi,rfl⟩:=List.getElem_of_mem he; have h1:(es'.map (·.length))[i]? = (es.map (·.length))[i]?:=by rw[hl]
   have hi':i<es'.length:=by omega
   simp only[List.getElem?_map,List.getElem?_eq_getElem hi,List.getElem?_eq_getElem hi',Option.map_some,Option.some.injEq] at h1; rw[<-h1]; exact hsz _ (List.getElem_mem hi')
  ·obtain⟨c',h1,h2⟩:=hf.at hc; exact h2 I u (hv j u c' hu h1)
end Go.cE
namespace Go.cE
open Go.RowKit
variable {P:Program} {w:World} {H:Type} {enc:TypeId×Value->H}
theorem aks {a:Addr} (h:a.spot=none) (n:Nat):a.add n=⟨a.block,a.off+n,none⟩:=by
 obtain⟨b,o,s⟩:=a; simp only at h; subst h; unfold Addr.add; split
 ·rename_i hn; simp[hn]
 ·rfl
theorem akt {α:Type} {ec:α->List PV} {sz:Nat} (h0:0<sz) (hlen:∀a,(ec a).length=sz) {a:Addr} {len cap:Nat} (hcap:len<=cap) {l:List (α×List Value)} (hl:l.length=len)
  (h:∀ (i:Nat) (x:α×List Value),l[i]? = some x->w.cells? 0 (a.add (i * sz)) sz=some x.2/\qE w x.2 (ec x.1)):VR (snap w) (.slice (some a) len cap) (.aU ((l.map (·.1)).map ec)):=by
 have hall:∀e∈(l.map (·.1)).map ec,e.length=sz:=λe he=>by obtain⟨x,_,rfl⟩:=List.mem_map.1 he; exact hlen x
 have hcs:∀c∈l.map (·.2),c.length=sz:=λc hc=>by obtain⟨x,hx,rfl⟩:=List.mem_map.1 hc; obtain⟨i,hi⟩:=List.mem_iff_getElem?.1 hx; exact (aaI (h i x hi).1).1
 have at':∀ (j:Nat) u,(l.map (·.2)).flatten[j]? = some u->∃x,l[j / sz]? = some x/\x.2[j % sz]? = some u:=λj u hu=>by have hj:j<(l.map (·.2)).flatten.length:=(List.getElem?_eq_some_iff.1 hu).1; rw[bC hcs,List.length_map] at hj; have hd:j / sz<l.length:=(Nat.div_lt_iff_lt_mul h0).2 hj; have e2:=gG hcs (j / sz) (j % sz) (by simpa using hd) (Nat.mod_lt _ h0); rw[Nat.div_add_mod' j sz,hu] at e2; refine⟨l[j / sz],List.getElem?_eq_getElem hd,?_⟩; rw[e2]; simp[hd]
 refine .aU (some a) len cap _ (l.map (·.2)).flatten sz (by simp[hl]) hall ?_ (λj u c hu hc=>?_) (λu hu=>?_) ?_ (by simp) hcap
 ·rw[bC hcs,bC hall]; simp
 ·obtain⟨x,hx,hxu⟩:=at' j u hu; have hd:j / sz<l.length:=(List.getElem?_eq_some_iff.1 hx).1; have e2:=gG hall (j / sz) (j % sz) (by simpa using hd) (Nat.mod_lt _ h0); rw[Nat.div_add_mod' j sz,hc] at e2; have e3:((l.map (·.1)).map ec).getD (j / sz) []=ec x.1:=by
   have:l[j / sz]=x:=by have:=List.getElem?_eq_getElem hd; rw[hx] at this; exact (Option.some.inj this).symm
   simp[hd,this]
  rw[e3] at e2; exact (h _ x hx).2.2.1 _ u c hxu e2.symm
 ·obtain⟨c,hc,huc⟩:=List.mem_flatten.1 hu; obtain⟨x,hx,rfl⟩:=List.mem_map.1 hc; obtain⟨i,hi⟩:=List.mem_iff_getElem?.1 hx; exact (h i x hi).2.2.2 u huc
 ·by_cases hn:(l.map (·.2)).flatten=[]
  ·exact .inl hn
  ·right; have hpos:0<l.length:=by
    rcases Nat.eq_zero_or_pos l.length with h' | h'
    ·exact absurd (by rw[List.length_eq_zero_iff.1 h']; rfl) hn
    ·exact h'
   have hsp:a.spot=none:=by
    have hx:=h 0 l[0] (List.getElem?_eq_getElem hpos); obtain⟨k1,k2⟩:=aaI hx.1; have h00:0<l[0].2.length:=by rw[k1]; exact h0
    have:=k2 0 l[0].2[0] (List.getElem?_eq_getElem h00); have:=arz this; simpa[Addr.add] using this
   refine⟨a.block,a.off,?_,λj u hu=>?_⟩
   ·obtain⟨b,o,s⟩:=a; simp only at hsp; subst hsp; rfl
   ·obtain⟨x,hx,hxu⟩:=at' j u hu; have:=(aaI (h _ x hx).1).2 _ u hxu; rw[aks hsp,aks rfl] at this; simp only at this; rw[Nat.add_assoc,Nat.div_add_mod' j sz] at this; exact this
theorem nj.slice {α:Type} {t e:TypeId} {sz:Nat} {ec:α->List PV} {G:α->Prop} (ht:P.underlying t=some (.slice e)) (hc:P.cellsOf e=sz) (h0:0<sz) (hb:0<P.bytesOf e) (he:nj P w enc e sz ec G) :
  nj P w enc t 1 (λl:List α=>[.aU (l.map ec)]) (λl=>(∀a∈l,G a)/\l.length<=reachBytes) :=
 ⟨λ_=>rfl,λsp hd fuel cs x h hw=>by
  rcases DataW.trod_slice ht h with ⟨rfl,rfl⟩ | ⟨a,len,cap,elems,rest,n,_,rfl,rfl,_,hle,_,hlen,hel,_,_⟩
  ·exact⟨[],⟨by simp,by simp⟩,.one (.aU none 0 0 [] [] 1 rfl (by simp) rfl (by simp) (by simp) (.inl rfl) (λ_=>⟨rfl,rfl⟩) (Nat.le_refl _)) rfl⟩
  ·have hwt:∀k,k∈((elems.map (·.1)).length+(rest.map (·.1)).length) * P.bytesOf e :: (DataW.weightsAll P e (elems.map (·.1))++DataW.weightsAll P e (rest.map (·.1)))->k<=reachBytes:=λk hk=>by refine hw k ?_; simp only[DataW.weights,ht]; exact hk
   obtain⟨l,l1,l2⟩:=adq (n:=len) (Q:=λi (x:α×List Value)=>G x.1/\w.cells? 0 (a.add (i * sz)) sz=some x.2/\qE w x.2 (ec x.1)) λi hi=>by
    have h1:=hel i hi; have hi':i<elems.length:=by omega
    rw[List.getElem?_eq_getElem hi',hc] at h1; obtain⟨cs',h2,h3⟩:=Option.bind_eq_some_iff.1 h1; obtain⟨b,h4,h5⟩:=he.dec sp hd n cs' _ h3 λk hk=>hwt k (List.mem_cons_of_mem _ (List.mem_append_left _ (tq (List.mem_map.2 ⟨elems[i],List.getElem_mem hi',rfl⟩) k hk)))
    exact⟨(b,cs'),h4,h2,h5⟩
   refine⟨l.map (·.1),⟨λb hb'=>?_,?_⟩,.one (akt h0 he.len hle l1 λi x hx=>(l2 i x hx).2) rfl⟩
   ·obtain⟨x,hx,rfl⟩:=List.mem_map.1 hb'; obtain⟨i,hi⟩:=List.mem_iff_getElem?.1 hx; exact (l2 i x hi).1
   ·have:=hwt _ (List.mem_cons_self ..); rw[List.length_map,List.length_map,hlen] at this; rw[List.length_map,l1]; exact Nat.le_trans (Nat.le_trans (Nat.le_add_right len rest.length) (Nat.le_mul_of_pos_right _ hb)) this⟩
structure aeV (P:Program) (w:World) {H:Type} (enc:TypeId×Value->H) {α:Type} (fs:List Field) (off sz:Nat) (e:α->List PV) (G:α->Prop):Prop where
 len:∀a,(e a).length=sz
 dec:∀ (sp:Nat->Bool) (hd:Bool) (n:Nat) (cs:List Value) (ds:List (DataW H)),ds.length=fs.length->cs.length=off+sz->(∀ (i:Nat) f,fs[i]? = some f->∃ps,DataW.trod enc P w 0 sp hd n f.type ((cs.drop f.offset).take (P.cellsOf f.type))=(ds[i]?).map λd=>(d,ps)) ->
  (∀k∈DataW.weightsEach P (fs.map (·.type)) ds,k<=reachBytes)->∃a,G a/\qE w (cs.drop off) (e a)
theorem aeV.nil (off:Nat):aeV P w enc [] off 0 (λ_:Unit=>[]) (λ_=>True) :=
 ⟨λ_=>rfl,λsp hd n cs ds _ hl _ _=>⟨(),trivial,by
  have:cs.drop off=[]:=List.drop_eq_nil_of_le (by omega); rw[this]; exact⟨rfl,by simp,by simp⟩⟩⟩
theorem qE.append {cs ds:List Value} {ps qs:List PV} (h:qE w cs ps) (k:qE w ds qs):qE w (cs++ds) (ps++qs):=by
 refine⟨by simp[h.1,k.1],λj u c hu hc=>?_,λu hu=>?_⟩
 ·rcases Nat.lt_or_ge j cs.length with hj | hj
  ·rw[List.getElem?_append_left hj] at hu; rw[List.getElem?_append_left (by rw[<-h.1]; exact hj)] at hc; exact h.2.1 j u c hu hc
  ·rw[List.getElem?_append_right hj] at hu; rw[List.getElem?_append_right (by rw[<-h.1]; exact hj),<-h.1] at hc; exact k.2.1 _ u c hu hc
 ·rcases List.mem_append.1 hu with hu | hu
  ·exact h.2.2 u hu
  ·exact k.2.2 u hu
theorem aeV.cons {α β:Type} {f:Field} {fs:List Field} {off sz sz':Nat} {e:α->List PV} {G:α->Prop} {e':β->List PV} {G':β->Prop} (ho:f.offset=off) (hc:P.cellsOf f.type=sz) (h:nj P w enc f.type sz e G) (hr:aeV P w enc fs (off+sz) sz' e' G') :
  aeV P w enc (f :: fs) off (sz+sz') (λx:α×β=>e x.1++e' x.2) (λx=>G x.1/\G' x.2) :=
 ⟨λx=>by rw[List.length_append,h.len,hr.len],λsp hd n cs ds hl hcs hall hw=>by
  match ds,hl with
  | [],hl=>simp at hl
  | d :: ds,hl =>
   rw[List.map_cons,DataW.weightsEach] at hw; obtain⟨ps,h0⟩:=hall 0 f rfl; simp only[List.getElem?_cons_zero,Option.map_some] at h0; obtain⟨a,a1,a2⟩:=h.dec sp hd n _ _ h0 λk hk=>hw k (List.mem_append_left _ hk)
   obtain⟨b,b1,b2⟩:=hr.dec sp hd n cs ds (by simpa using hl) (by omega) (λi g hg=>by simpa using hall (i+1) g (by simpa using hg)) λk hk=>hw k (List.mem_append_right _ hk)
   refine⟨(a,b),⟨a1,b1⟩,?_⟩; have e1:cs.drop off=(cs.drop off).take sz++cs.drop (off+sz):=by rw[<-List.drop_drop,List.take_append_drop]
   rw[e1]; rw[ho,hc] at a2; exact a2.append b2⟩
theorem nj.struct {α:Type} {t:TypeId} {fs:Array Field} {sz:Nat} {e:α->List PV} {G:α->Prop} (ht:P.underlying t=some (.struct fs)) (hc:P.cellsOf t=sz) (h:aeV P w enc fs.toList 0 sz e G):nj P w enc t sz e G :=
 ⟨h.len,λsp hd fuel cs x hx hw=>by
  obtain⟨xs,n,_,rfl,hl,hxs,hf⟩:=DataW.trod_struct ht hx; obtain⟨a,a1,a2⟩:=h.dec sp hd n cs (xs.map (·.1)) (by simp[hxs]) (by rw[hl,hc,Nat.zero_add]) (λi f hi=>by
   have h1:=hf i f (by simpa using hi); have hlt:i<xs.length:=by have:=(List.getElem?_eq_some_iff.1 hi).1; rw[hxs]; simpa using this
   refine⟨xs[i].2,?_⟩; rw[h1]; simp[hlt]) λk hk=>hw k (by
    simp only[DataW.weights,ht]; exact hk)
  exact⟨a,a1,by simpa using a2⟩⟩
end Go.cE
namespace Go.cE
open Go.RowKit
variable {P:Program} {w:World} {H:Type} {enc:TypeId×Value->H}
theorem nj.aFS {t:TypeId} (k:IntKind) (ht:P.underlying t=some (.int k)):nj P w enc t 1 (λn:Int=>[.val (.int k n)]) (λn=>k.min<=n/\n<=k.max) :=
 ⟨λ_=>rfl,λsp hd fuel cs x h _=>by
  obtain⟨n,rfl,_,hw⟩:=DataW.trod_int ht h; refine⟨n,?_,.one (.val _ rfl) rfl⟩; simpa[Lit.wf] using hw⟩
def aCe (e:TypeId) (off:Nat):Field:={ name := "",type:=e,offset:=off,embedded:=false,tag := "",pkgPath := "",byteOffset:=0 }
def agP (n:Nat) (e:TypeId) (sz:Nat):List Field:=(List.range n).map λi=>aCe e (i * sz)
theorem xh {e:TypeId} : ∀ (n:Nat) (ds:List (DataW H)),ds.length=n->DataW.weightsEach P (List.replicate n e) ds=DataW.weightsAll P e ds
 | 0,[],_=>rfl
 | n+1,d :: r,h=>by rw[List.replicate_succ,DataW.weightsEach,DataW.weightsAll,xh n r (by simpa using h)]
 | n+1,[],h=>by simp at h
 | 0,d :: r,h=>by simp at h
theorem nj.array {α:Type} {t e:TypeId} {n sz sz0:Nat} {ec:α->List PV} {G:α->Prop} (ht:P.underlying t=some (.array n e)) (hc:P.cellsOf t=sz) (h0:P.cellsOf e=sz0) (h:aeV P w enc (agP n e sz0) 0 sz ec G):nj P w enc t sz ec G :=
 ⟨h.len,λsp hd fuel cs x hx hw=>by
  obtain⟨xs,m,_,rfl,hl,hxs,hf⟩:=DataW.trod_array ht hx; obtain⟨a,a1,a2⟩:=h.dec sp hd m cs (xs.map (·.1)) (by simp[hxs,agP]) (by rw[hl,hc,Nat.zero_add]) (λi f hi=>by
   have hlt:i<n:=by have:=(List.getElem?_eq_some_iff.1 hi).1; simpa[agP] using this
   have hfe:f=aCe e (i * sz0):=by simpa[agP,hlt] using hi.symm
   subst hfe; have h1:=hf i hlt; refine⟨(xs[i]'(by omega)).2,?_⟩; subst h0; show DataW.trod enc P w 0 sp hd m e (List.take (P.cellsOf e) (List.drop (i * P.cellsOf e) cs))=_; rw[h1]; simp[hxs,hlt]) λk hk=>hw k (by
    simp only[DataW.weights,ht]; have e1:(agP n e sz0).map (·.type)=List.replicate n e:=by unfold agP; rw[List.map_map]; exact (List.map_const' ..).trans (by rw[List.length_range])
    rw[e1,xh n _ (by simp[hxs])] at hk; exact hk)
  exact⟨a,a1,by simpa using a2⟩⟩
end Go.cE
namespace Go.cE
open Go.ChangeShapes Go.WideShapes Go.ChangeAt Go.RowKit
variable {P:Program} {W:World} {H:Type} {enc:TypeId×Value->H} {α β:Type}
structure we (P:Program) (W:World) {H:Type} (enc:TypeId×Value->H) {α:Type} (t:TypeId) (e:α->PV) (G:α->Prop):Prop where
 dec:∀b0 v d ps,Value.okWide P W .any b0 t v->DataW.Trod enc P W 0 (λ_=>true) true t v d ps->avE P t d->∃a,G a/\VR (snap W) v (e a)
 read:P.readableRec t=true
 size:t<P.types.size
theorem we.struct {t:TypeId} {fs:Array Field} {sz:Nat} {e:α->List PV} {G:α->Prop} (ht:P.underlying t=some (.struct fs)) (avF:nj P W enc t sz e G) (hr:P.readableRec t=true) (hs:t<P.types.size):we P W enc t (λa=>.agg (e a)) G :=
 ⟨λb0 v d ps hval h hw=>by
  unfold Value.okWide at hval; rw[ht] at hval; obtain⟨cs,rfl,_⟩:=hval; obtain⟨fuel,hf⟩:=h; obtain⟨a,h1,h2⟩:=avF.dec _ _ fuel _ _ hf hw; refine⟨a,h1,?_⟩; have:VR (snap W) (.agg (cs.toList).toArray) (.agg (e a)):=.agg cs.toList (e a) h2.1 h2.2.1 h2.2.2; simpa using this,hr,hs⟩
theorem we.array {t e':TypeId} {n sz:Nat} {e:α->List PV} {G:α->Prop} (ht:P.underlying t=some (.array n e')) (avF:nj P W enc t sz e G) (hr:P.readableRec t=true) (hs:t<P.types.size):we P W enc t (λa=>.agg (e a)) G :=
 ⟨λb0 v d ps hval h hw=>by
  unfold Value.okWide at hval; rw[ht] at hval; obtain⟨cs,rfl,_⟩:=hval; obtain⟨fuel,hf⟩:=h; obtain⟨a,h1,h2⟩:=avF.dec _ _ fuel _ _ hf hw; refine⟨a,h1,?_⟩; have:VR (snap W) (.agg (cs.toList).toArray) (.agg (e a)):=.agg cs.toList (e a) h2.1 h2.2.1 h2.2.2; simpa using this,hr,hs⟩
theorem we.one {t:TypeId} {e:α->PV} {G:α->Prop} (ht:∀b0 v,Value.okWide P W .any b0 t v->v.cells.toList=[v]) (avF:nj P W enc t 1 (λa=>[e a]) G) (hr:P.readableRec t=true) (hs:t<P.types.size):we P W enc t e G :=
 ⟨λb0 v d ps hval h hw=>by
  obtain⟨fuel,hf⟩:=h; rw[ht b0 v hval] at hf; obtain⟨a,h1,h2⟩:=avF.dec _ _ fuel _ _ hf hw; exact⟨a,h1,h2.2.1 0 v (e a) rfl rfl⟩,hr,hs⟩
theorem adr:∀ {ts:List TypeId} {vs:List Value} {ds:List (DataW H)} {ps:List MemPlace},DataW.TrodAll enc P W 0 (λ_=>true) true ts vs ds ps->ds.length=ts.length
 | [],vs,ds,ps,h=>by obtain⟨rfl,rfl,rfl⟩:=trodAll_nil h; rfl
 | t :: ts,vs,ds,ps,h=>by obtain⟨v,vs',d,ds',p,q,rfl,rfl,rfl,h1,h2⟩:=trodAll_cons h; rw[List.length_cons,List.length_cons,adr h2]
structure agQ (P:Program) (W:World) {H:Type} (enc:TypeId×Value->H) {α:Type} (ts:List TypeId) (e:α->List PV) (G:α->Prop):Prop where
 dec:∀b0 vs ds ps,(∀ (j:Nat) t v,ts[j]? = some t->vs[j]? = some v->Value.okWide P W .any b0 t v)->DataW.TrodAll enc P W 0 (λ_=>true) true ts vs ds ps->(∀n∈DataW.weightsEach P ts ds,n<=reachBytes) ->
  ∃a,G a/\vs.length=(e a).length/\∀ (j:Nat) u x,vs[j]? = some u->(e a)[j]? = some x->VR (snap W) u x
 stay:laidOutB P=true->∀vs ds ps W',DataW.TrodAll enc P W 0 (λ_=>true) true ts vs ds ps->Below W.heap.size W W'->(∀x∈ps,x.block<W.heap.size)->DataW.TrodAll enc P W' 0 (λb=>decide (b<W.heap.size)) true ts vs ds ps
theorem agQ.nil:agQ P W enc [] (λ_:Unit=>[]) (λ_=>True) :=
 ⟨λb0 vs ds ps _ h _=>by
  obtain⟨rfl,rfl,rfl⟩:=trodAll_nil h; exact⟨(),trivial,rfl,λj u x hu=>by simp at hu⟩,λ_ vs ds ps W' h _ _=>by
  obtain⟨rfl,rfl,rfl⟩:=trodAll_nil h; exact trodAll_mk0⟩
theorem agQ.cons {t:TypeId} {ts:List TypeId} {e:α->PV} {G:α->Prop} {e':β->List PV} {G':β->Prop} (h:we P W enc t e G) (hr:agQ P W enc ts e' G') :
  agQ P W enc (t :: ts) (λx:α×β=>e x.1 :: e' x.2) (λx=>G x.1/\G' x.2) :=
 ⟨λb0 vs ds ps hv ht hw=>by
  obtain⟨v,vs',d,ds',p,q,rfl,rfl,rfl,h1,h2⟩:=trodAll_cons ht; rw[DataW.weightsEach] at hw; obtain⟨a,a1,a2⟩:=h.dec b0 v d p (hv 0 t v rfl rfl) h1 λn hn=>hw n (List.mem_append_left _ hn)
  obtain⟨b,b1,b2,b3⟩:=hr.dec b0 vs' ds' q (λj t v ht vh=>hv (j+1) t v (by simpa using ht) (by simpa using vh)) h2 λn hn=>hw n (List.mem_append_right _ hn)
  refine⟨(a,b),⟨a1,b1⟩,by simp[b2],λj u x hu hx=>?_⟩; cases j with
  | zero=>simp at hu hx; subst hu hx; exact a2
  | succ j=>exact b3 j u x (by simpa using hu) (by simpa using hx),λhl vs ds ps W' ht hb hlt=>by
  obtain⟨v,vs',d,ds',p,q,rfl,rfl,rfl,h1,h2⟩:=trodAll_cons ht; exact⟨p,q,Below.trod hl h.read h.size h1 hb λx hx=>hlt x (List.mem_append_left _ hx),hr.stay hl vs' ds' q W' h2 hb λx hx=>hlt x (List.mem_append_right _ hx),rfl⟩⟩
theorem aeW {C:Checked} {os:Os} {f:FuncId} {fn:Func} {s:ChangeSpec} {conds:List PathCond} {apart fresh handsOn:Bool} {e:α->List PV} {G:α->Prop} {tb:TypeId}
  (own:ownKnob C.prog.godebug=none) (laid:laidOutB C.prog=true) (started:os.Started) (noInit:C.prog.inits.idxOf? f=none) (hfn:C.prog.funcs[f]? = some fn)
  (witness:∃ (w:World) (tape:Tape) (i:Input),w.os=os/\(w.forCall tape i).Shaped C.prog/\i.vars=[]/\Input.okWide C.prog (w.forCall tape i) .any w.heap.size f i /\
   s.pre6 enc C.prog fn conds apart (w.forCall tape i).memory i.args/\({} : Assume).holds C.prog (lone (Frame.enter C.prog f i.args .normal) [] (w.forCall tape i)))
  (hres:fn.resultTypes = #[tb]) (hb:C.prog.underlying tb=some .bool) (hv:s.vars=[]) (hs:∀ds:List (DataW H),ds.length=fn.params.size->(s.fn H ds).results=[.lit (.bool true)]/\(s.fn H ds).args=ds/\(s.fn H ds).vars=[])
  (hd:∀W,agQ C.prog W enc fn.params.toList e G) (ok:∀a,G a->aS C.prog f (e a) λr=>r = .val (.bool true)) :
  ReturnsInHanded {} C os f .any (s.pre6 enc C.prog fn conds apart) (s.post enc C.prog fn apart fresh handsOn false):=by
 refine returnsInHanded_of_change_sized (C:=C) own started noInit hfn witness ?_; intro W base args ds gs before hval hW _ hz _; have hW':=hW; obtain⟨p,q,hA,hV,rfl,hfz,hnd⟩:=hW; rw[hv] at hV; have hg:gs=[]/\q=[]:=by
  cases gs with
  | nil=>exact⟨rfl,hV⟩
  | cons=>exact hV.elim
 obtain⟨rfl,rfl⟩:=hg; have hvt:s.plain.varTypes C.prog=[]:=by have:s.plain.vars=[]:=hv; unfold DataSpec.varTypes; rw[this]; rfl
 rw[hvt,List.append_nil,List.append_nil] at hz; have hw:∀n∈DataW.weightsEach C.prog fn.params.toList ds,n<=reachBytes:=λn hn=>by have:=List.all_eq_true.1 hz n hn; simpa using this
 obtain⟨a,a1,a2,a3⟩:=(hd W).dec base args.toList ds p (λj t v ht vh=>hval j t v (by simpa using ht) (by simpa using vh)) hA hw; have hlt:∀x∈p,x.block<W.heap.size:=λx hx=>hW'.lt x (List.mem_append_left _ hx)
 obtain⟨s1,s2,s3⟩:=hs ds (by
  have:=adr hA; simpa using this)
 refine ((ok a a1).2 (snap W) W args.toList (aeg W) ⟨a2,a3⟩).mono ?_; rintro e' W' ⟨v,r,I',rfl,rfl,vh,bel,_⟩; have hvb:v = .bool true:=by cases vh; rfl
 subst hvb; refine⟨_,rfl,ds,[],p++[],[],p,[],hW',?_,?_,?_,bel.frame _,λh=>by cases h⟩
 ·rw[List.append_nil,s1,hres]; exact trodAll_mk1 (shut_bool hb true)
 ·rw[List.append_nil,s2]; exact (hd W).stay laid _ _ _ _ hA bel hlt
 ·rw[List.append_nil,s3,hv]; rfl
end Go.cE
namespace Go.cE
open Go.RowKit
variable {P:Program} {w:World} {H:Type} {enc:TypeId×Value->H}
structure aeX (P:Program) (w:World) {H:Type} (enc:TypeId×Value->H) (N:Nat) {α:Type} (t:TypeId) (sz:Nat) (e:α->List PV) (G:α->Prop):Prop where
 len:∀a,(e a).length=sz
 dec:∀ (sp:Nat->Bool) (hd:Bool) (fuel:Nat),fuel<N->∀ (cs:List Value) (x:DataW H×List MemPlace),DataW.trod enc P w 0 sp hd fuel t cs=some x->avE P t x.1->∃a,G a/\qE w cs (e a)
theorem aeX.zero {α:Type} {t:TypeId} {sz:Nat} {e:α->List PV} {G:α->Prop} (h:∀a,(e a).length=sz):aeX P w enc 0 t sz e G:=⟨h,λ_ _ _ h=>absurd h (Nat.not_lt_zero _)⟩
theorem aeX.map {N:Nat} {α β:Type} {t:TypeId} {sz:Nat} {e:α->List PV} {G:α->Prop} {e':β->List PV} {G':β->Prop} (g:α->β) (f:β->α) (hgf:∀b,e (f b)=e' b) (hg:∀a,e' (g a)=e a) (hG:∀a,G a->G' (g a)) (h:aeX P w enc N t sz e G):aeX P w enc N t sz e' G' :=
 ⟨λb=>by rw[<-hgf]; exact h.len _,λsp hd fuel hf cs x hx hw=>by
  obtain⟨a,h1,h2⟩:=h.dec sp hd fuel hf cs x hx hw; exact⟨g a,hG a h1,by rw[hg]; exact h2⟩⟩
theorem aeX.slice {N:Nat} {α:Type} {t e:TypeId} {sz:Nat} {ec:α->List PV} {G:α->Prop} (ht:P.underlying t=some (.slice e)) (hc:P.cellsOf e=sz) (h0:0<sz) (hb:0<P.bytesOf e) (he:aeX P w enc N e sz ec G) :
  aeX P w enc N t 1 (λl:List α=>[.aU (l.map ec)]) (λl=>(∀a∈l,G a)/\l.length<=reachBytes) :=
 ⟨λ_=>rfl,λsp hd fuel hN cs x h hw=>by
  rcases DataW.trod_slice ht h with ⟨rfl,rfl⟩ | ⟨a,len,cap,elems,rest,n,hfn,rfl,rfl,_,hle,_,hlen,hel,_,_⟩
  ·exact⟨[],⟨by simp,by simp⟩,.one (.aU none 0 0 [] [] 1 rfl (by simp) rfl (by simp) (by simp) (.inl rfl) (λ_=>⟨rfl,rfl⟩) (Nat.le_refl _)) rfl⟩
  ·have hn:n<N:=by omega
   have hwt:∀k,k∈((elems.map (·.1)).length+(rest.map (·.1)).length) * P.bytesOf e :: (DataW.weightsAll P e (elems.map (·.1))++DataW.weightsAll P e (rest.map (·.1)))->k<=reachBytes:=λk hk=>by refine hw k ?_; simp only[DataW.weights,ht]; exact hk
   obtain⟨l,l1,l2⟩:=adq (n:=len) (Q:=λi (x:α×List Value)=>G x.1/\w.cells? 0 (a.add (i * sz)) sz=some x.2/\qE w x.2 (ec x.1)) λi hi=>by
    have h1:=hel i hi; have hi':i<elems.length:=by omega
    rw[List.getElem?_eq_getElem hi',hc] at h1; obtain⟨cs',h2,h3⟩:=Option.bind_eq_some_iff.1 h1; obtain⟨b,h4,h5⟩:=he.dec sp hd n hn cs' _ h3 λk hk=>hwt k (List.mem_cons_of_mem _ (List.mem_append_left _ (tq (List.mem_map.2 ⟨elems[i],List.getElem_mem hi',rfl⟩) k hk)))
    exact⟨(b,cs'),h4,h2,h5⟩
   refine⟨l.map (·.1),⟨λb hb'=>?_,?_⟩,.one (akt h0 he.len hle l1 λi x hx=>(l2 i x hx).2) rfl⟩
   ·obtain⟨x,hx,rfl⟩:=List.mem_map.1 hb'; obtain⟨i,hi⟩:=List.mem_iff_getElem?.1 hx; exact (l2 i x hi).1
   ·have:=hwt _ (List.mem_cons_self ..); rw[List.length_map,List.length_map,hlen] at this; rw[List.length_map,l1]; exact Nat.le_trans (Nat.le_trans (Nat.le_add_right len rest.length) (Nat.le_mul_of_pos_right _ hb)) this⟩
structure acO (P:Program) (w:World) {H:Type} (enc:TypeId×Value->H) (N:Nat) {α:Type} (fs:List Field) (off sz:Nat) (e:α->List PV) (G:α->Prop):Prop where
 len:∀a,(e a).length=sz
 dec:∀ (sp:Nat->Bool) (hd:Bool) (n:Nat),n<N->∀ (cs:List Value) (ds:List (DataW H)),ds.length=fs.length->cs.length=off+sz->(∀ (i:Nat) f,fs[i]? = some f->∃ps,DataW.trod enc P w 0 sp hd n f.type ((cs.drop f.offset).take (P.cellsOf f.type))=(ds[i]?).map λd=>(d,ps)) ->
  (∀k∈DataW.weightsEach P (fs.map (·.type)) ds,k<=reachBytes)->∃a,G a/\qE w (cs.drop off) (e a)
theorem acO.nil {N:Nat} (off:Nat):acO P w enc N [] off 0 (λ_:Unit=>[]) (λ_=>True) :=
 ⟨λ_=>rfl,λsp hd n _ cs ds _ hl _ _=>⟨(),trivial,by
  have:cs.drop off=[]:=List.drop_eq_nil_of_le (by omega); rw[this]; exact⟨rfl,by simp,by simp⟩⟩⟩
theorem acO.cons {N:Nat} {α β:Type} {f:Field} {fs:List Field} {off sz sz':Nat} {e:α->List PV} {G:α->Prop} {e':β->List PV} {G':β->Prop} (ho:f.offset=off) (hc:P.cellsOf f.type=sz) (h:aeX P w enc N f.type sz e G) (hr:acO P w enc N fs (off+sz) sz' e' G') :
  acO P w enc N (f :: fs) off (sz+sz') (λx:α×β=>e x.1++e' x.2) (λx=>G x.1/\G' x.2) :=
 ⟨λx=>by rw[List.length_append,h.len,hr.len],λsp hd n hn cs ds hl hcs hall hw=>by
  match ds,hl with
  | [],hl=>simp at hl
  | d :: ds,hl =>
   rw[List.map_cons,DataW.weightsEach] at hw; obtain⟨ps,h0⟩:=hall 0 f rfl; simp only[List.getElem?_cons_zero,Option.map_some] at h0; obtain⟨a,a1,a2⟩:=h.dec sp hd n hn _ _ h0 λk hk=>hw k (List.mem_append_left _ hk)
   obtain⟨b,b1,b2⟩:=hr.dec sp hd n hn cs ds (by simpa using hl) (by omega) (λi g hg=>by simpa using hall (i+1) g (by simpa using hg)) λk hk=>hw k (List.mem_append_right _ hk)
   refine⟨(a,b),⟨a1,b1⟩,?_⟩; have e1:cs.drop off=(cs.drop off).take sz++cs.drop (off+sz):=by rw[<-List.drop_drop,List.take_append_drop]
   rw[e1]; rw[ho,hc] at a2; exact a2.append b2⟩
theorem aeX.struct {N:Nat} {α:Type} {t:TypeId} {fs:Array Field} {sz:Nat} {e:α->List PV} {G:α->Prop} (ht:P.underlying t=some (.struct fs)) (hc:P.cellsOf t=sz) (h:acO P w enc N fs.toList 0 sz e G):aeX P w enc (N+1) t sz e G :=
 ⟨h.len,λsp hd fuel hN cs x hx hw=>by
  obtain⟨xs,n,hfn,rfl,hl,hxs,hf⟩:=DataW.trod_struct ht hx; obtain⟨a,a1,a2⟩:=h.dec sp hd n (by omega) cs (xs.map (·.1)) (by simp[hxs]) (by rw[hl,hc,Nat.zero_add]) (λi f hi=>by
   have h1:=hf i f (by simpa using hi); have hlt:i<xs.length:=by have:=(List.getElem?_eq_some_iff.1 hi).1; rw[hxs]; simpa using this
   refine⟨xs[i].2,?_⟩; rw[h1]; simp[hlt]) λk hk=>hw k (by
    simp only[DataW.weights,ht]; exact hk)
  exact⟨a,a1,by simpa using a2⟩⟩
end Go.cE
namespace Go.cE
open Go.RowKit
def cU {α:Type} (p:Prop) [Decidable p] (x:Option α):Option α:=if p then x else none
def thn {α β:Type} (x:Option α) (k:α->Option β):Option β:=match x with
 | some a=>k a
 | none=>none
def oI {α:Type} (l:List α) (i:Int):Option α:=if 0<=i then l[i.toNat]? else none
theorem avG {α:Type} {p:Prop} [Decidable p] {x:Option α} {r:α} (h:cU p x=some r):p/\x=some r:=by
 unfold cU at h; split at h
 ·exact⟨by assumption,h⟩
 ·cases h
theorem nx {α β:Type} {x:Option α} {k:α->Option β} {r:β} (h:thn x k=some r):∃a,x=some a/\k a=some r:=by
 unfold thn at h; split at h
 ·exact⟨_,rfl,h⟩
 ·cases h
theorem yx {α:Type} {b:Bool} {x y:Option α} {r:α} (h:cond b x y=some r) (hb:b=true):x=some r:=by subst hb; exact h
theorem acP {α:Type} {b:Bool} {x y:Option α} {r:α} (h:cond b x y=some r) (hb:b=false):y=some r:=by subst hb; exact h
theorem azT {α β:Type} {l:List α} {i:Nat} {k:α->Option β} {r:β} (f:α->List PV) (h:thn l[i]? k=some r):∃a,i<l.length/\(l.map f).getD i []=f a/\l[i]? = some a/\k a=some r:=by obtain⟨a,h1,h2⟩:=nx h; exact⟨a,(List.getElem?_eq_some_iff.1 h1).1,by simp[h1],h1,h2⟩
theorem azU {α β:Type} {l:List α} {i:Int} {k:α->Option β} {r:β} (f:α->List PV) (h:thn (oI l i) k=some r) :
  ∃a,0<=i/\i<(l.length:Int)/\(l.map f).getD i.toNat []=f a/\oI l i=some a/\k a=some r:=by
 obtain⟨a,h1,h2⟩:=nx h; have sr:=h1; unfold oI at h1; split at h1
 ·rename_i h0; have:=(List.getElem?_eq_some_iff.1 h1).1; exact⟨a,h0,by omega,by simp[h1],sr,h2⟩
 ·cases h1
theorem fz {α:Type} {f:α->List PV} {n:Nat} (h:∀a,(f a).length=n) (l:List α):∀x∈l.map f,x.length=n:=by intro x hx; obtain⟨a,_,rfl⟩:=List.mem_map.1 hx; exact h a
theorem ayZ {α:Type} {f:α->List PV} (h:∀a,(f a).all isVal=true) (l:List α):((l.map f).all λx=>x.all isVal)=true:=by simp[h]
theorem arA {α β:Type} (f:α->β) (l:List α) (n:Nat):(l.map f).take n=(l.take n).map f:=(List.map_take ..).symm
theorem arB {α β:Type} (f:α->β) (l:List α) (n:Nat):(l.map f).drop n=(l.drop n).map f:=(List.map_drop ..).symm
theorem avH {α β:Type} (f:α->β) (l m:List α):l.map f++m.map f=(l++m).map f:=(List.map_append ..).symm
theorem bz {α β:Type} (f:α->β) (l m:List α) {c:List β} (h:m.map f=c):l.map f++c=(l++m).map f:=by rw[List.map_append,h]
theorem abI {α β:Type} (f:α->β) (l:List α) (i:Nat) (a:α) {c:β} (h:f a=c):(l.map f).set i c=(l.set i a).map f:=by rw[List.map_set,<-h]
attribute [go_sem] arA arB avH List.take_length List.length_set List.length_replicate List.set_cons_zero List.set_cons_succ Nat.le_refl Nat.not_lt_zero Nat.zero_le Nat.zero_lt_succ decide_true decide_false Bool.not_not /-! ### nil read as an empty list -/
mutual
def sA:PV->PV->Prop
 | .val (.slice none 0 0),.aU es=>es=[]
 | .emp,.aU es=>es=[]
 | .aU a,.aU b=>qk a b
 | .agg a,.agg b=>pq a b
 | .dB a,.dB b=>pq a b
 | a,b=>a=b
def pq:List PV->List PV->Prop
 | [],[]=>True
 | a :: r,b :: s=>sA a b/\pq r s
 | _,_=>False
def qk:List (List PV)->List (List PV)->Prop
 | [],[]=>True
 | a :: r,b :: s=>pq a b/\qk r s
 | _,_=>False
end
theorem rq.app:∀ {a b c d:List PV},rq a b->rq c d->rq (a++c) (b++d)
 | [],[],_,_,_,h=>h
 | [],_ :: _,_,_,h,_=>h.elim
 | _ :: _,[],_,_,h,_=>h.elim
 | _ :: _,_ :: _,_,_,h,k=>⟨h.1,rq.app h.2 k⟩
mutual
theorem aik:∀ (a b:PV),sA a b->PLe a b:=by
 intro a b h; unfold sA at h; split at h
 ·subst h; exact .nil
 ·subst h; exact .emp
 ·exact .aU (tu _ _ h).1 (tu _ _ h).2
 ·exact .agg (qT _ _ h)
 ·exact .dB (qT _ _ h)
 ·subst h; exact .refl _
theorem qT:∀ (a b:List PV),pq a b->rq a b
 | [],[],_=>trivial
 | a :: r,b :: s,h=>⟨aik a b (by unfold pq at h; exact h.1),qT r s (by unfold pq at h; exact h.2)⟩
 | [],_ :: _,h=>by unfold pq at h; exact h
 | _ :: _,[],h=>by unfold pq at h; exact h
theorem tu:∀ (a b:List (List PV)),qk a b->a.map (·.length)=b.map (·.length)/\rq a.flatten b.flatten
 | [],[],_=>⟨rfl,trivial⟩
 | a :: r,b :: s,h=>by unfold qk at h; have h1:=qT a b h.1; have h2:=tu r s h.2; exact⟨by rw[List.map_cons,List.map_cons,h2.1,h1.len],by rw[List.flatten_cons,List.flatten_cons]; exact h1.app h2.2⟩
 | [],_ :: _,h=>by unfold qk at h; exact h.elim
 | _ :: _,[],h=>by unfold qk at h; exact h.elim
end
theorem aS.kP {P:Program} {f:FuncId} {args:List PV} {t:PV} (h:aS P f args (λv=>sA v t)):aS P f args (λv=>v=t):=h.le λr hr=>⟨t,aik r t hr,rfl⟩
mutual
def uS:RV->RV->Prop
 | .p (.val (.slice none 0 0)),.row _ sz es=>es=[]/\0<sz
 | .p (.val (.slice none 0 0)),.p (.aU es)=>es=[]
 | .row e sz es,.row e' sz' es'=>e=e'/\sz=sz'/\qk es es'
 | .p (.aU a),.p (.aU b)=>qk a b
 | .agg a,.agg b=>abJ a b
 | .dB a,.dB b=>abJ a b
 | .p (.agg a),.agg b=>adQ a b
 | a,b=>a=b
def abJ:List RV->List RV->Prop
 | [],[]=>True
 | a :: r,b :: s=>uS a b/\abJ r s
 | _,_=>False
def adQ:List PV->List RV->Prop
 | [],[]=>True
 | a :: r,b :: s=>uS (.p a) b/\adQ r s
 | _,_=>False
end
theorem vX.aCf {w:World} {B:Nat} {J:Mem} {u:Value} {bs:List Nat} {e:TypeId} {sz:Nat} {es es':List (List PV)} (hl:es.map (·.length)=es'.map (·.length)) (hf:rq es.flatten es'.flatten) (h:vX w B J u (.row e sz es) bs):vX w B J u (.row e sz es') bs:=by
 cases h with
 | row _ _ _ _ us h h1 =>
  have hlen:es.length=es'.length:=by have:=congrArg List.length hl; simpa using this
  refine .row u e sz es' us ⟨hlen ▸ h.own,h.pos,λx hx=>?_,λj u c hu hc=>?_,h.one,h.free⟩ h1
  ·obtain⟨i,hi,rfl⟩:=List.getElem_of_mem hx; have h2:(es.map (·.length))[i]? = (es'.map (·.length))[i]?:=by rw[hl]
   have hi':i<es.length:=by omega
   simp only[List.getElem?_map,List.getElem?_eq_getElem hi,List.getElem?_eq_getElem hi',Option.map_some,Option.some.injEq] at h2; rw[<-h2]; exact h.all _ (List.getElem_mem hi')
  ·obtain⟨c',q1,q2⟩:=hf.at hc; exact q2 J u (h.val j u c' hu q1)
theorem vX.aAG {w:World} {B:Nat} {J:Mem} {u:Value} {bs:List Nat} (e:TypeId) {sz:Nat} (hsz:0<sz) (h:vX w B J u (.p (.val (.slice none 0 0))) bs):vX w B J u (.row e sz []) bs:=(RLe.nil e sz hsz).sound h
theorem vX.aAH {w:World} {B:Nat} {J:Mem} {u:Value} {bs:List Nat} (h:vX w B J u (.p (.val (.slice none 0 0))) bs):vX w B J u (.p (.aU [])) bs:=RLe.aBn.sound h
def RLs (w:World) (B:Nat) (J:Mem) (us:List Value) (rs:List RV) (bs:List (List Nat)):Prop:=us.length=rs.length/\us.length=bs.length/\∀ (j:Nat) u r b,us[j]? = some u->rs[j]? = some r->bs[j]? = some b->vX w B J u r b
theorem RLs.cons {w:World} {B:Nat} {J:Mem} {u:Value} {us:List Value} {r r':RV} {rs rs':List RV} {b:List Nat} {bs:List (List Nat)} (h:RLs w B J (u :: us) (r :: rs) (b :: bs))
  (h1:vX w B J u r b->vX w B J u r' b) (h2:RLs w B J us rs bs->RLs w B J us rs' bs):RLs w B J (u :: us) (r' :: rs') (b :: bs):=by
 obtain⟨a1,a2,a3⟩:=h; obtain⟨c1,c2,c3⟩:=h2 ⟨by simpa using a1,by simpa using a2,λj u r b hu hr hb=>a3 (j+1) u r b (by simpa using hu) (by simpa using hr) (by simpa using hb)⟩; refine⟨by simpa using c1,by simpa using c2,λj u r b hu hr hb=>?_⟩; cases j with
 | zero=>simp at hu hr hb; subst hu hr hb; exact h1 (a3 0 _ _ _ rfl rfl rfl)
 | succ j=>exact c3 j u r b (by simpa using hu) (by simpa using hr) (by simpa using hb)
mutual
theorem ail:∀ (r t:RV),uS r t->∀ {w:World} {B:Nat} {J:Mem} {u:Value} {bs:List Nat},vX w B J u r bs->vX w B J u t bs:=by
 intro r t h w B J u bs hr; unfold uS at h; split at h
 ·obtain⟨rfl,h2⟩:=h; exact hr.aAG _ h2
 ·subst h; exact hr.aAH
 ·obtain⟨rfl,rfl,h⟩:=h; exact hr.aCf (tu _ _ h).1 (tu _ _ h).2
 ·cases hr with
  | p _ _ hx=>exact .p _ _ ((PLe.aU (tu _ _ h).1 (tu _ _ h).2) _ _ hx)
 ·cases hr with
  | agg us rs bs q1 q2 q3 q4=>obtain⟨c1,c2,c3⟩:=aim _ _ h (w:=w) (B:=B) (J:=J) ⟨q1,q2,q3⟩; exact .agg us _ bs c1 c2 c3 q4
 ·cases hr with
  | dB us rs bs q1 q2 q3=>obtain⟨c1,c2,c3⟩:=aim _ _ h (w:=w) (B:=B) (J:=J) ⟨q1,q2,q3⟩; exact .dB us _ bs c1 c2 c3
 ·cases hr with
  | p u x hx =>
   cases hx with
   | agg us cs q1 q2 q3 =>
    obtain⟨c1,c2,c3⟩:=aoY _ _ h (w:=w) (B:=B) (J:=J) (us:=us) ⟨q1,q2⟩; have:((us.map λ_=>([]:List Nat))).flatten=[]:=by simp
    have h2:=vX.agg us _ (us.map λ_=>[]) c1 c2 c3 q3; rw[this] at h2; exact h2
 ·subst h; exact hr
termination_by r t=>SizeOf.sizeOf t
theorem aim:∀ (a b:List RV),abJ a b->∀ {w:World} {B:Nat} {J:Mem} {us:List Value} {bs:List (List Nat)},RLs w B J us a bs->RLs w B J us b bs
 | [],[],_,_,_,_,_,_,h=>h
 | [],_ :: _,h,_,_,_,_,_,_=>by unfold abJ at h; exact h.elim
 | _ :: _,[],h,_,_,_,_,_,_=>by unfold abJ at h; exact h.elim
 | a :: r,b :: s,h,w,B,J,us,bs,hr=>by
  unfold abJ at h
  match us,bs,hr with
  | u :: us,c :: bs,hr=>exact hr.cons (ail a b h.1) (aim r s h.2)
  | [],_,hr=>have:=hr.1; simp at this
  | _ :: _,[],hr=>have:=hr.2.1; simp at this
termination_by a b=>SizeOf.sizeOf b
theorem aoY:∀ (a:List PV) (b:List RV),adQ a b->∀ {w:World} {B:Nat} {J:Mem} {us:List Value},VRs J us a->RLs w B J us b (us.map λ_=>[])
 | [],[],_,_,_,_,us,h=>by
  have h1:us=[]:=by have:=h.1; simpa using this
  subst h1; exact⟨rfl,rfl,λj u r b hu=>by simp at hu⟩
 | [],_ :: _,h,_,_,_,_,_=>by unfold adQ at h; exact h.elim
 | _ :: _,[],h,_,_,_,_,_=>by unfold adQ at h; exact h.elim
 | a :: r,b :: s,h,w,B,J,us,hr=>by
  unfold adQ at h
  match us,hr with
  | u :: us,hr =>
   have ih:=aoY r s h.2 (w:=w) (B:=B) (J:=J) (us:=us) ⟨by have:=hr.1; simpa using this,λj u c hu hc=>hr.2 (j+1) u c (by simpa using hu) (by simpa using hc)⟩; have h1:=ail (.p a) b h.1 (w:=w) (B:=B) (.p u a (hr.2 0 u a rfl rfl)); refine⟨by simpa using ih.1,by simp,λj u r b hu hr hb=>?_⟩; cases j with
   | zero=>simp at hu hr hb; subst hu hr hb; exact h1
   | succ j=>exact ih.2.2 j u r b (by simpa using hu) (by simpa using hr) (by simpa using hb)
  | [],hr=>have:=hr.1; simp at this
termination_by a b=>SizeOf.sizeOf b
end
theorem bu.uT {P:Program} {f:FuncId} {args:List PV} {t:RV} (h:bu P f args (λv=>uS v t)):bu P f args (λv=>v=t):=⟨h.1,λI w vs hI hv=>(h.2 I w vs hI hv).mono λ_ _ ⟨v,r,bs,I',h1,h2,h3,h4⟩=>⟨v,t,bs,I',h1,rfl,ail r t h2 h3,h4⟩⟩
theorem avI (a b:List PV):sA (.agg a) (.agg b)=pq a b:=by simp only[sA]
theorem avJ (a b:List PV):sA (.dB a) (.dB b)=pq a b:=by simp only[sA]
theorem avK (es:List (List PV)):sA (.val (.slice none 0 0)) (.aU es)=(es=[]):=by simp only[sA]
theorem avL (a b:List (List PV)):sA (.aU a) (.aU b)=qk a b:=by simp only[sA]
theorem aku (a b:Value):sA (.val a) (.val b)=(a=b):=by unfold sA; split<;>first | (rename_i h _; cases h; done) | (rename_i h; cases h; done) | simp_all
mutual
theorem arC:∀a:PV,sA a a
 | .agg a=>by simp only[sA]; exact gJ a
 | .dB a=>by simp only[sA]; exact gJ a
 | .val v=>by rw[aku]
 | .aU a=>by simp only[sA]; exact aaJ a
 | .emp=>by simp only[sA]
 | .dJ _ _=>by simp only[sA]
 | .gR _ _ _=>by simp only[sA]
theorem gJ:∀a:List PV,pq a a
 | []=>by unfold pq; trivial
 | a :: r=>by unfold pq; exact⟨arC a,gJ r⟩
@[refl] theorem aaJ:∀a:List (List PV),qk a a
 | []=>by unfold qk; trivial
 | a :: r=>by unfold qk; exact⟨gJ a,aaJ r⟩
end
theorem ano (a:List (List PV)):qk a a=True:=eq_true (aaJ a)
theorem anp (a b:List PV) (r s:List (List PV)):qk (a :: r) (b :: s)=(pq a b/\qk r s):=by simp only[qk]
attribute [go_sem] ano anp
theorem avM:pq [] []=True:=by simp only[pq]
theorem arD (a b:PV) (r s:List PV):pq (a :: r) (b :: s)=(sA a b/\pq r s):=by simp only[pq]
theorem avN (a b:List RV):uS (.agg a) (.agg b)=abJ a b:=by simp only[uS]
theorem avO (a b:List RV):uS (.dB a) (.dB b)=abJ a b:=by simp only[uS]
theorem arE (a:List PV) (b:List RV):uS (.p (.agg a)) (.agg b)=adQ a b:=by simp only[uS]
theorem akv (e:TypeId) (sz:Nat) (es:List (List PV)):uS (.p (.val (.slice none 0 0))) (.row e sz es)=(es=[]/\0<sz):=by simp only[uS]
theorem avP (e e':TypeId) (sz sz':Nat) (es es':List (List PV)):uS (.row e sz es) (.row e' sz' es')=(e=e'/\sz=sz'/\qk es es'):=by simp only[uS]
theorem avQ (a b:Value):uS (.p (.val a)) (.p (.val b))=(a=b):=by unfold uS; split<;>first | (rename_i h _; cases h; done) | (rename_i h; cases h; done) | simp_all
theorem avR (a b:List (List PV)):uS (.p (.aU a)) (.p (.aU b))=qk a b:=by simp only[uS]
theorem avS:abJ [] []=True:=by simp only[abJ]
theorem arF (a b:RV) (r s:List RV):abJ (a :: r) (b :: s)=(uS a b/\abJ r s):=by simp only[abJ]
theorem avT:adQ [] []=True:=by simp only[adQ]
theorem arG (a:PV) (b:RV) (r:List PV) (s:List RV):adQ (a :: r) (b :: s)=(uS (.p a) b/\adQ r s):=by simp only[adQ]
attribute [go_sem] avI avJ avK avL aku avM arD avN avO arE akv avP avQ avR avS arF avT arG /-! ### aG7 -/
section
variable {σ O:Type}
def bP (f:Nat->σ->(σ->Option O)->(σ->Option O)->Option O):Nat->Nat->σ->(σ->Option O)->Option O
 | 0,_,s,K=>K s
 | k+1,i,s,K=>f i s (λs'=>bP f k (i+1) s' K) K
def iter (f:σ->(σ->Option O)->(σ->Option O)->Option O):Nat->σ->(σ->Option O)->Option O
 | 0,_,_=>none
 | k+1,s,K=>f s (λs'=>iter f k s' K) K
end
def fuel:Nat:=4611686018427387904
section
variable {P:Program} {N:Nat} {own:List Nat} {σ γ O:Type} {c:Code} {K:pJ} {env:Env} {H:ay}
def tv (R:Env->ay->Prop) (K:pJ):pJ:=λe env H=>match e with
 | .normal=>R env H
 | e=>K e env H
theorem ain {R:Env->ay->Prop} : tv R K .normal env H=R env H:=rfl
theorem anq {R:Env->ay->Prop} {id:Nat} : tv R K (.exit id) env H=K (.exit id) env H:=rfl
theorem arH {R:Env->ay->Prop} : tv R K .ret env H=K .ret env H:=rfl
attribute [go_sem] ain anq arH
def akw (inv:σ×γ->Env) (jE:σ×γ->ay) (Nx:σ->Prop) (e:Env) (H:ay):Prop:=∃s' g,Nx s'/\dP e H (inv (s',g)) (jE (s',g))
theorem akx {inv:σ×γ->Env} {jE:σ×γ->ay} {Nx:σ->Prop} {e:Env} {H:ay} (s':σ) (g:γ) (h:Nx s') (hw:dP e H (inv (s',g)) (jE (s',g))):akw inv jE Nx e H:=⟨s',g,h,hw⟩
theorem aeY {R R':Env->ay->Prop} (h:∀e H,R e H↔R' e H):tv R K=(λz e' H'=>match z with
  | .normal=>R' e' H'
  | z=>K z e' H'):=by
 funext z e' H'; cases z<;>first | rfl | exact propext (h e' H')
theorem arI {f:σ->(σ->Option O)->(σ->Option O)->Option O} {Kf:σ->Option O} {r:O} (inv:σ×γ->Env) (jE:σ×γ->ay) (g0:γ) {k:Nat} {s:σ} (h:iter f k s Kf=some r)
  (hw:dP env H (inv (s,g0)) (jE (s,g0)))
  (hr:∀s g (cv:σ->Option O) (Nx:σ->Prop),(∀s',cv s'=some r->Nx s')->f s cv Kf=some r->cw P N own c (tv (akw inv jE Nx) K) (inv (s,g)) (jE (s,g))):abu P N own c K env H:=by
 refine⟨λn e H=>∃s g,iter f n s Kf=some r/\e=inv (s,g)/\H=jE (s,g),⟨k,_,_,⟨s,g0,h,rfl,rfl⟩,hw⟩,?_⟩; rintro n e H ⟨s,g,hs,rfl,rfl⟩; cases n with
 | zero=>cases hs
 | succ n =>
  have:=hr s g _ (λs'=>∃m,m<n+1/\iter f m s' Kf=some r) (λs' h'=>⟨n,Nat.lt_succ_self n,h'⟩) hs; rw[aeY (R':=λe' H'=>∃m e2 H2,m<n+1/\(∃s g,iter f m s Kf=some r/\e2=inv (s,g)/\H2=jE (s,g))/\dP e' H' e2 H2)] at this
  ·exact this
  ·intro e' H'; constructor
   ·rintro⟨s',g',⟨m,h1,h2⟩,h3⟩; exact⟨m,_,_,h1,⟨s',g',h2,rfl,rfl⟩,h3⟩
   ·rintro⟨m,e2,H2,h1,⟨s',g',h2,rfl,rfl⟩,h3⟩; exact⟨s',g',⟨m,h1,h2⟩,h3⟩
theorem arJ {f:Nat->σ->(σ->Option O)->(σ->Option O)->Option O} {Kf:σ->Option O} {r:O} (inv:(Nat×σ)×γ->Env) (jE:(Nat×σ)×γ->ay) (g0:γ) {n i:Nat} {s:σ} (h:bP f (n - i) i s Kf=some r)
  (hw:dP env H (inv ((i,s),g0)) (jE ((i,s),g0)))
  (hr:∀j s g (cv:σ->Option O) (Nx:Nat×σ->Prop),j<n->(∀s',cv s'=some r->Nx (j+1,s'))->f j s cv Kf=some r->cw P N own c (tv (akw inv jE Nx) K) (inv ((j,s),g)) (jE ((j,s),g)))
  (he:∀j s g (Nx:Nat×σ->Prop),n<=j->Kf s=some r->cw P N own c (tv (akw inv jE Nx) K) (inv ((j,s),g)) (jE ((j,s),g))):abu P N own c K env H:=by
 refine⟨λm e H=>∃ (x:Nat×σ) (g:γ),(n - x.1=m/\bP f (n - x.1) x.1 x.2 Kf=some r)/\e=inv (x,g)/\H=jE (x,g),⟨n - i,_,_,⟨(i,s),g0,⟨rfl,h⟩,rfl,rfl⟩,hw⟩,?_⟩; rintro m e H ⟨⟨j,s⟩,g,⟨hm,hs⟩,rfl,rfl⟩; have key:∀R:Nat×σ->Prop,(∀x,R x↔n - x.1<m/\bP f (n - x.1) x.1 x.2 Kf=some r)->∀e' H',akw inv jE R e' H'↔∃m' e2 H2,m'<m/\(∃ (x:Nat×σ) (g:γ),(n - x.1=m'/\bP f (n - x.1) x.1 x.2 Kf=some r)/\e2=inv (x,g)/\H2=jE (x,g))/\dP e' H' e2 H2:=by
  intro R hR e' H'; constructor
  ·rintro⟨x,g',h1,h3⟩; obtain⟨h1,h2⟩:=(hR x).1 h1; exact⟨_,_,_,h1,⟨x,g',⟨rfl,h2⟩,rfl,rfl⟩,h3⟩
  ·rintro⟨m',e2,H2,h1,⟨x,g',⟨h4,h2⟩,rfl,rfl⟩,h3⟩; exact⟨x,g',(hR x).2 ⟨by omega,h2⟩,h3⟩
 simp only at hm hs; by_cases hj:j<n
 ·obtain⟨k,hk⟩:∃k,n - j=k+1:=⟨n - j - 1,by omega⟩; have hk':n - (j+1)=k:=by omega
  rw[hk] at hs; have:=hr j s g _ (λx=>n - x.1<m/\bP f (n - x.1) x.1 x.2 Kf=some r) hj (λs' h'=>⟨by simp only; omega,by simp only[hk']; exact h'⟩) hs; rw[aeY (key _ λx=>Iff.rfl)] at this; exact this
 ·have h0:n - j=0:=by omega
  rw[h0] at hs; have:=he j s g (λx=>n - x.1<m/\bP f (n - x.1) x.1 x.2 Kf=some r) (by omega) hs; rw[aeY (key _ λx=>Iff.rfl)] at this; exact this
end
theorem ay0 {P:Program} {N:Nat} {own:List Nat} {σ γ O:Type} {c:Code} {K:pJ} {env:Env} {H:ay} {f:σ->(σ->Option O)->(σ->Option O)->Option O} {Kf:σ->Option O} {r:O} (inv:σ×γ->Env) (jE:σ×γ->ay) (g0:γ) {k:Nat} {s:σ} (h:iter f k s Kf=some r)
  (hw:dP env H (inv (s,g0)) (jE (s,g0)))
  (hr:∀s g (cv:σ->Option O) (R:Env->ay->Prop),(∀s' g' {e H},cv s'=some r->dP e H (inv (s',g')) (jE (s',g'))->R e H)->f s cv Kf=some r->cw P N own c (tv R K) (inv (s,g)) (jE (s,g))):abu P N own c K env H :=
 arI inv jE g0 h hw λs g cv Nx hN hf=>hr s g cv _ (λs' g' _ _ h1 h2=>akx s' g' (hN s' h1) h2) hf
theorem ay1 {P:Program} {N:Nat} {own:List Nat} {σ γ O:Type} {c:Code} {K:pJ} {env:Env} {H:ay} {f:Nat->σ->(σ->Option O)->(σ->Option O)->Option O} {Kf:σ->Option O} {r:O} (inv:(Nat×σ)×γ->Env) (jE:(Nat×σ)×γ->ay) (g0:γ) {n i:Nat} {s:σ} (h:bP f (n - i) i s Kf=some r)
  (hw:dP env H (inv ((i,s),g0)) (jE ((i,s),g0)))
  (hr:∀j s g (cv:σ->Option O) (R:Env->ay->Prop),j<n->(∀s' g' {e H},cv s'=some r->dP e H (inv ((j+1,s'),g')) (jE ((j+1,s'),g'))->R e H)->f j s cv Kf=some r->cw P N own c (tv R K) (inv ((j,s),g)) (jE ((j,s),g)))
  (he:∀j s g (R:Env->ay->Prop),n<=j->Kf s=some r->cw P N own c (tv R K) (inv ((j,s),g)) (jE ((j,s),g))):abu P N own c K env H :=
 arJ inv jE g0 h hw (λj s g cv Nx hj hN hf=>hr j s g cv _ hj (λs' g' _ _ h1 h2=>akx (j+1,s') g' (hN s' h1) h2) hf) (λj s g Nx hj hk=>he j s g _ hj hk)
section
variable {P:Program} {env:Env} {H:ay} {o:Oper} {W:Env->ay->Prop} {k:FuncId} {ps ps':List PV} {b:Bool}
theorem bu.args {f:FuncId} {ps ps':List PV} {Q:RV->Prop} (h:bu P f ps Q) (hp:rq ps' ps):bu P f ps' Q:=⟨h.1,λI w vs hI hv=>h.2 I w vs hI (hp.vrs hv)⟩
theorem aoZ {x:PV} (c:aS P k ps λr=>r=x) (he:jF o (ev env) H=some (k,ps',b)) (hp:pq ps' ps) (hb:b=true->x.scalar=true)
  (hW:W (cA env o.dst (.p x)) H):iL P o W env H:=aY (c.args (qT _ _ hp)) he hb hW
theorem anr {x:PV} (c:aS P k ps λr=>r=x) (he:jF o (ev env) H=some (k,ps',b)) (hp:pq ps' ps) (hb:b=true->x.scalar=true)
  (hW:W (cA env o.dst (.p x)) H):agB P o W env H:=jk (c.args (qT _ _ hp)) he hb hW
end
section
variable {P:Program} {t:TypeId} {kk:IntKind} {n:Int} {H:ay}
def avU (a:Option (Nat×TypeId)) (f:TypeId->Option Nat) (n:Int) (mk:Nat->AV) (H:ay):Option (Prop×AV×ay):=match a with
 | some (len,e)=>(match f e with
  | some sz=>some (0<=n/\n<len,mk (n.toNat * sz),H)
  | none=>none)
 | none=>none
theorem aky {cs:List PV} {off:Nat} : oc P t (.p (.dJ cs off)) (.p (.val (.int kk n))) H=avU (xR P t) (bw P) n (λo=>.p (.dJ cs (off+o))) H:=by
 unfold oc n9 avU up3; cases xR P t with
 | none=>rfl
 | some r=>obtain⟨len,e⟩:=r; simp only; cases bw P e<;>rfl
theorem ans {id off:Nat} : oc P t (.ptr id off) (.p (.val (.int kk n))) H=avU (xR P t) (bw P) n (λo=>.ptr id (off+o)) H:=by
 unfold oc n9 avU up3; cases xR P t with
 | none=>rfl
 | some r=>obtain⟨len,e⟩:=r; simp only; cases bw P e<;>rfl
theorem arK {len:Nat} {e:TypeId} {f:TypeId->Option Nat} {mk:Nat->AV} : avU (some (len,e)) f n mk H=(match f e with
  | some sz=>some (0<=n/\n<len,mk (n.toNat * sz),H)
  | none=>none):=rfl
attribute [go_sem] aky ans arK
end
mutual
def ny:AV->AV->Prop
 | .p a,.p b=>sA a b
 | .agg a,.agg b=>rz a b
 | .dB a,.dB b=>rz a b
 | a,b=>a=b
def rz:List AV->List AV->Prop
 | [],[]=>True
 | a :: r,b :: s=>ny a b/\rz r s
 | _,_=>False
end
theorem aAI (a b:PV):ny (.p a) (.p b)=sA a b:=by simp only[ny]
theorem avV (i v j u:Nat):ny (.row i v) (.row j u)=(i=j/\v=u):=by simp only[ny,AV.row.injEq]
theorem avW (i v j u:Nat):ny (.ptr i v) (.ptr j u)=(i=j/\v=u):=by simp only[ny,AV.ptr.injEq]
theorem avX (f g:Fn) (a b c d:List AV):ny (.gR f a b) (.gR g c d)=(f=g/\a=c/\b=d):=by simp only[ny,AV.gR.injEq]
theorem arL (i v j u:Nat):ny (.eC i v) (.eC j u)=(i=j/\v=u):=by simp only[ny,AV.eC.injEq]
theorem arM:rz [] []=True:=by simp only[rz]
theorem ant (a b:AV) (r s:List AV):rz (a :: r) (b :: s)=(ny a b/\rz r s):=by simp only[rz]
theorem sO:∀ {as' bs:List AV},rz as' bs->as'.length=bs.length/\∀ (j:Nat) a b,as'[j]? = some a->bs[j]? = some b->ny a b
 | [],[],_=>⟨rfl,λj a b h=>by simp at h⟩
 | a :: r,b :: s,h=>by
  unfold rz at h; obtain⟨h1,h2⟩:=sO h.2; refine⟨by simp[h1],λj x y hx hy=>?_⟩; cases j with
  | zero=>simp at hx hy; subst hx hy; exact h.1
  | succ j=>exact h2 j x y (by simpa using hx) (by simpa using hy)
 | [],_ :: _,h=>by unfold rz at h; exact h.elim
 | _ :: _,[],h=>by unfold rz at h; exact h.elim
theorem abK {I:Mem} {L:bt} {u:Value} {a:AV} (h:dU I L u a):∀ {b:AV},ny a b->dU I L u b:=by
 induction h with
 | p u x h =>
  intro b hb; unfold ny at hb; split at hb
  ·rename_i e; cases e; exact .p _ _ (aik _ _ hb _ _ h)
  ·rename_i e; cases e
  ·rename_i e; cases e
  ·subst hb; exact .p _ _ h
 | agg us cs hl hv hone ih =>
  intro b hb; unfold ny at hb; split at hb
  ·rename_i e; cases e
  ·rename_i e; cases e; obtain⟨q1,q2⟩:=sO hb; refine .agg us _ (hl.trans q1) (λj u c hu hc=>?_) hone; obtain⟨a,ha⟩:∃a,cs[j]? = some a:=by have hj:j<us.length:=(List.getElem?_eq_some_iff.1 hu).1; exact⟨cs[j]'(by omega),by simp[hl ▸ hj]⟩
   exact ih j u a hu ha (q2 j a c ha hc)
  ·rename_i e; cases e
  ·subst hb; exact .agg us cs hl hv hone
 | dB us cs hl hv ih =>
  intro b hb; unfold ny at hb; split at hb
  ·rename_i e; cases e
  ·rename_i e; cases e
  ·rename_i e; cases e; obtain⟨q1,q2⟩:=sO hb; refine .dB us _ (hl.trans q1) (λj u c hu hc=>?_); obtain⟨a,ha⟩:∃a,cs[j]? = some a:=by have hj:j<us.length:=(List.getElem?_eq_some_iff.1 hu).1; exact⟨cs[j]'(by omega),by simp[hl ▸ hj]⟩
   exact ih j u a hu ha (q2 j a c ha hc)
  ·subst hb; exact .dB us cs hl hv
 | row u id bg v bD sz hl hle h h1=>intro b hb; unfold ny at hb; subst hb; exact .row u id bg v bD sz hl hle h h1
 | ptr id b' off hl=>intro b hb; unfold ny at hb; subst hb; exact .ptr id b' off hl
 | iO u id bg v i off bD sz hl hle h h1=>intro b hb; unfold ny at hb; subst hb; exact .iO u id bg v i off bD sz hl hle h h1
 | gR fn us vs fs cs hl hl' hv vh=>intro b hb; unfold ny at hb; subst hb; exact .gR fn us vs fs cs hl hl' hv vh
 | dead u=>intro b hb; unfold ny at hb; subst hb; exact .dead u
 | zz id b n hl=>intro b hb; unfold ny at hb; subst hb; exact .zz _ _ _ hl
 | gU a id bg v off n m c bD sz hl hle hn hm hz h=>intro b hb; unfold ny at hb; subst hb; exact .gU _ id bg v off n _ _ bD sz hl hle hn hm hz h
 | eC u id bg v bD sz sz' cT n hl hle h h1=>intro b hb; unfold ny at hb; subst hb; exact .eC u id bg v bD sz sz' cT n hl hle h h1
 | j0 u id bg v i off bD sz sz' cT n hl hle h h1=>intro b hb; unfold ny at hb; subst hb; exact .j0 u id bg v i off bD sz sz' cT n hl hle h h1
 | j4 u id bg v i bD sz sz' cT n hl hle h h1=>intro b hb; unfold ny at hb; subst hb; exact .j4 u id bg v i bD sz sz' cT n hl hle h h1
 | mu u id bg v i j off bD sz sz' cT n hl hle h h1=>intro b hb; unfold ny at hb; subst hb; exact .mu u id bg v i j off bD sz sz' cT n hl hle h h1
def qF:List (Nat×AV)->Env
 | []=>fA
 | (d,v) :: r=>ct (qF r) d v
def b7:List (Nat×Chunk)->ay
 | []=>b8
 | (d,c) :: r=>bl (b7 r) d c
theorem avY:qF []=fA:=rfl
theorem arN (d:Nat) (v:AV) (r:List (Nat×AV)):qF ((d,v) :: r)=ct (qF r) d v:=rfl
theorem arO:b7 []=b8:=rfl
theorem anu (d:Nat) (c:Chunk) (r:List (Nat×Chunk)):b7 ((d,c) :: r)=bl (b7 r) d c:=rfl
def anv (e:Env):List (Nat×AV)->Prop
 | []=>True
 | (d,v) :: r=>ny (e d) v/\anv e r
def aio:Option Chunk->Chunk->Prop
 | some (.box cs),.box ds=>rz cs ds
 | some c,d=>c=d
 | none,_=>False
def aaK (H:ay):List (Nat×Chunk)->Prop
 | []=>True
 | (d,c) :: r=>aio (H d) c/\aaK H r
def anw (G:ay):List (Nat×AV)->Prop
 | []=>True
 | (_,v) :: r=>oq G v/\anw G r
def xE (G:ay):List (Nat×Chunk)->Prop
 | []=>True
 | (_,.box cs) :: r=>mc G cs/\xE G r
 | _ :: r=>xE G r
theorem avZ (e:Env):anv e []=True:=rfl
theorem arP (e:Env) (d:Nat) (v:AV) (r:List (Nat×AV)):anv e ((d,v) :: r)=(ny (e d) v/\anv e r):=rfl
theorem av0 (cs ds:List AV):aio (some (.box cs)) (.box ds)=rz cs ds:=rfl
theorem arQ (v:Nat) (e:TypeId) (sz k:Nat) (f:TypeId) (sy:Nat) (es:List (List PV)) (v':Nat) (e':TypeId) (sz' k':Nat) (f':TypeId) (sy':Nat) (es':List (List PV)):aio (some (.deep v e sz k f sy es)) (.deep v' e' sz' k' f' sy' es')=(v=v'/\e=e'/\sz=sz'/\k=k'/\f=f'/\sy=sy'/\es=es'):=by simp only[aio,Chunk.deep.injEq]
theorem arR (G:ay) (d v:Nat) (e:TypeId) (sz k:Nat) (f:TypeId) (sy:Nat) (es:List (List PV)) (r:List (Nat×Chunk)):xE G ((d,.deep v e sz k f sy es) :: r)=xE G r:=rfl
theorem av1 (v:Nat) (e:TypeId) (sz:Nat) (es:List (List PV)) (v':Nat) (e':TypeId) (sz':Nat) (es':List (List PV)):aio (some (.row v e sz es)) (.row v' e' sz' es')=(v=v'/\e=e'/\sz=sz'/\es=es'):=by simp only[aio,Chunk.row.injEq]
theorem av2 (H:ay):aaK H []=True:=rfl
theorem arS (H:ay) (d:Nat) (c:Chunk) (r:List (Nat×Chunk)):aaK H ((d,c) :: r)=(aio (H d) c/\aaK H r):=rfl
theorem av3 (G:ay):anw G []=True:=rfl
theorem arT (G:ay) (d:Nat) (v:AV) (r:List (Nat×AV)):anw G ((d,v) :: r)=(oq G v/\anw G r):=rfl
theorem av4 (G:ay):xE G []=True:=rfl
theorem av5 (G:ay) (d:Nat) (cs:List AV) (r:List (Nat×Chunk)):xE G ((d,.box cs) :: r)=(mc G cs/\xE G r):=rfl
theorem av6 (G:ay) (d:Nat) (v:Nat) (e:TypeId) (sz:Nat) (es:List (List PV)) (r:List (Nat×Chunk)):xE G ((d,.row v e sz es) :: r)=xE G r:=rfl
theorem ay2 (G:ay) (x:PV):oq G (.p x)=True:=by simp only[oq]
theorem agR (G:ay) (i v:Nat):oq G (.row i v)=(G i≠none):=by simp only[oq]
theorem agS (G:ay) (i v:Nat):oq G (.ptr i v)=(G i≠none):=by simp only[oq]
theorem aeZ (G:ay) (i v:Nat):oq G (.eC i v)=(G i≠none):=by simp only[oq]
theorem arU (G:ay) (f:Fn) (fs cs:List AV):oq G (.gR f fs cs)=(mc G fs/\mc G cs):=by simp only[oq]
theorem anx (G:ay):mc G []=True:=by simp only[mc]
theorem akz (G:ay) (a:AV) (r:List AV):mc G (a :: r)=(oq G a/\mc G r):=by simp only[mc]
theorem aAJ (H':ay):lu b8 H'=True:=eq_true (azO H')
theorem av7 {H H':ay} {i:Nat} {c:Chunk} (hi:i<1000000):lu (bl H i c) H'=lu H H':=by refine propext ⟨λh j hj hn=>h j hj ?_,ajB hi⟩; unfold bl; rw[if_neg (by omega)]; exact hn
attribute [go_sem] arL arQ arR aeZ aAI avV avW avX arM ant avY arN arO anu avZ arP av0 av1 av2 arS av3 arT av4 av5 av6 ay2 agR agS arU anx akz aAJ av7
theorem ao0 {e:Env} : ∀ {l:List (Nat×AV)},anv e l->∀t,qF l t = .dead\/ny (e t) (qF l t)
 | [],_,t=>.inl rfl
 | (d,v) :: r,h,t=>by
  unfold qF ct; split
  ·rename_i ht; subst ht; exact .inr h.1
  ·exact ao0 h.2 t
theorem abL {H:ay} : ∀ {l:List (Nat×Chunk)},aaK H l->∀i c',b7 l i=some c'->∃c,H i=some c/\aio (some c) c'
 | [],_,i,c',h=>by cases h
 | (d,v) :: r,h,i,c',hi=>by
  unfold b7 bl at hi; split at hi
  ·rename_i ht; subst ht; simp only[Option.some.injEq] at hi; subst hi; have h1:=h.1; cases hH:H i with
   | none=>rw[hH] at h1; exact h1.elim
   | some c=>rw[hH] at h1; exact⟨c,rfl,h1⟩
  ·exact abL h.2 i c' hi
theorem ao2 {G:ay} : ∀ {l:List (Nat×AV)},anw G l->acB (qF l) G
 | [],_,t=>trivial
 | (d,v) :: r,h,t=>by
  unfold qF ct; split
  ·exact h.1
  ·exact ao2 h.2 t
theorem aip {G:ay} : ∀ {l:List (Nat×Chunk)},xE G l->pL (b7 l) G
 | [],_,i,cs,h=>by cases h
 | (d,c) :: r,h,i,cs,hi=>by
  have hr:xE G r:=by
   cases c with
   | box cs=>exact h.2
   | row=>exact h
   | shut=>exact h
   | tail=>exact h
   | deep=>exact h
  unfold b7 bl at hi; split at hi
  ·simp only[Option.some.injEq] at hi; subst hi; exact h.1
  ·exact aip hr i cs hi
theorem yy {e:Env} {H:ay} {l:List (Nat×AV)} {hl:List (Nat×Chunk)} (h:anv e l/\aaK H hl/\anw (b7 hl) l/\xE (b7 hl) hl/\lu H (b7 hl)):dP e H (qF l) (b7 hl):=λC I L tm w hs=>by
 obtain⟨h1,h2,h3,h4,h5⟩:=h; have w0:dP e H e H:=dP.refl _ _; refine⟨I,L.to (b7 hl),?_⟩; exact
 {below:=hs.below
  mem:=hs.mem
  ku:=hs.ku
  lp:=hs.lp
  frame:=hs.frame
  loc:=λi=>by
   cases hi:C.L0 i with
   | none=>trivial
   | some l0 =>
    have h0:=hs.loc i; rw[hi] at h0; have hL:L i≠none:=by
     cases l0 with
     | box b=>intro e; rw[e] at h0; cases h0
     | row v bD sz=>obtain⟨_,_,h0,_⟩:=h0; intro e; rw[e] at h0; cases h0
     | deep v bD sz sz' cT n=>obtain⟨_,_,_,_,h0,_⟩:=h0; intro e; rw[e] at h0; cases h0
    have hH:H i≠none:=by
     cases hLi:L i with
     | none=>exact absurd hLi hL
     | some l=>obtain⟨c,hc⟩:=hs.dom i l hLi; rw[hc]; simp
    have e:=kX (L:=L) (h5 i (C.hL0 i l0 hi) hH); rw[e]; exact h0
  jc:=λid l b hl hb=>hs.jc id l b (to_eq hl).1 hb
  size:=hs.size
  env:=λt=>by
   rcases ao0 h1 t with h | h
   ·rw[h]; exact .dead _
   ·exact (abK (hs.env t) h).to (ao2 h3 t)
  dom:=λid l hl=>(to_eq hl).2
  chunk:=λid ch hch=>by
   obtain⟨c,hc1,yz⟩:=abL h2 id ch hch; have hc:=hs.chunk id c hc1; have hid:L.to (b7 hl) id=L id:=kX (by rw[hch]; simp); cases c with
   | box cs =>
    cases ch with
    | box ds =>
     have hq:rz cs ds:=yz; obtain⟨q1,q2⟩:=sO hq; obtain⟨b,arr,e,g1,g2,g3,g4,g5,g6⟩:=hc; refine⟨b,arr,e,hid.trans g1,g2,g3.trans q1,λj u c hu hc=>?_,g5,g6⟩; obtain⟨a,ha⟩:∃a,cs[j]? = some a:=by have hj:j<arr.size:=(Array.getElem?_eq_some_iff.1 hu).1; exact⟨cs[j]'(by omega),by simp[g3 ▸ hj]⟩
     exact (abK (g4 j u a hu ha) (q2 j a c ha hc)).to (nt (aip h4 id ds hch) j c hc)
    | row=>cases yz
    | shut=>cases yz
    | tail=>cases yz
    | deep=>cases yz
   | row bg e sz es =>
    have hq:Chunk.row bg e sz es=ch:=by cases ch<;>exact yz
    subst hq; obtain⟨bD,us,g1,g2⟩:=hc; exact⟨bD,us,hid.trans g1,g2⟩
   | shut bg es =>
    have hq:Chunk.shut bg es=ch:=by cases ch<;>exact yz
    subst hq; obtain⟨bD,sz,g1,g2⟩:=hc; exact⟨bD,sz,hid.trans g1,g2⟩
   | tail bg e sz es =>
    have hq:Chunk.tail bg e sz es=ch:=by cases ch<;>exact yz
    subst hq; obtain⟨g,o,cap,arr,g1,g2⟩:=hc; exact⟨g,o,cap,arr,hid.trans g1,g2⟩
   | deep bg e sz k e' sz' es =>
    have hq:Chunk.deep bg e sz k e' sz' es=ch:=by cases ch<;>exact yz
    subst hq; obtain⟨bD,us,cT,g1,g2⟩:=hc; exact⟨bD,us,cT,hid.trans g1,g2⟩
  fe:=λid l b hl hb=>hs.fe id l b (to_eq hl).1 hb
  apart:=λi j li lj b hi hj qt tS=>hs.apart i j li lj b (to_eq hi).1 (to_eq hj).1 qt tS }
theorem arV {own:List Nat} {env:Env} {d:Option Tmp} {t:TypeId} {pos:String} {af:Array Edge} {g:Option (Nat×Bool)} (a:Nat) (s:Operand) (t1 t2:TypeId) :
  agC own ⟨d,.call ⟨.builtin .append,#[.tmp a,s],#[t1,t2]⟩,t,pos,af,g⟩ env=((∃v,env a = .row (oO own a) v)/\∃x,ev env s = .p x):=rfl
theorem aAK (i j v:Nat):(∃u,AV.row i v = .row j u)=(i=j):=by
 apply propext; constructor
 ·rintro⟨u,h⟩; cases h; rfl
 ·rintro rfl; exact⟨v,rfl⟩
attribute [go_sem] arV aAK exists_eq'
section
variable {P:Program} {env:Env} {H:ay} {o:Oper} {W:Env->ay->Prop} {k:FuncId} {ps ps':List PV} {b:Bool}
theorem aAL (id:Nat) {r:RV} (c:bu P k ps λx=>x=r) (he:jF o (ev env) H=some (k,ps',b)) (hp:pq ps' ps) (hb:b=true->r.flat=true)
  (hf:ry H id ((cF id r).2 - id)) (hW:W (cA env o.dst (cF id r).1) (fR id H r)):iL P o W env H:=vr id (c.args (qT _ _ hp)) he hb hf hW
theorem aAM (ids:List Nat) {x:PV} (c:aS P k ps λr=>r=x) (he:jF o (ev env) (cO ids H)=some (k,ps',b)) (hp:pq ps' ps) (hb:b=true->x.scalar=true)
  (hW:W (cA env o.dst (.p x)) (cO ids H)):iL P o W env H:=aqU ids (c.args (qT _ _ hp)) he hb hW
theorem ay3 (ids:List Nat) (id:Nat) {r:RV} (c:bu P k ps λx=>x=r) (he:jF o (ev env) (cO ids H)=some (k,ps',b)) (hp:pq ps' ps) (hb:b=true->r.flat=true)
  (hf:ry (cO ids H) id ((cF id r).2 - id)) (hW:W (cA env o.dst (cF id r).1) (fR id (cO ids H) r)):iL P o W env H:=amZ ids id (c.args (qT _ _ hp)) he hb hf hW
end
noncomputable def giv {α:Type} (p:Prop) (x:α):Option α:=open Classical in if p then some x else none
theorem sg {α:Type} {p:Prop} {x r:α} (h:giv p x=some r):p/\x=r:=by
 unfold giv at h; split at h
 ·exact⟨by assumption,by simpa using h⟩
 ·cases h
end Go.cE
namespace Go.cE
open Go.RowKit
variable {P:Program} {I:Mem} {L:bt}
def Ctx.abM (w:World) (I:Mem) (n B:Nat) (L0:bt) (hB:B<=w.heap.size) (hL:∀i l,L0 i=some l->1000000<=i):Ctx:=⟨w,I,n,B,λb=>∃i l,L0 i=some l/\l.has b,L0,hB,hL⟩
def ads (P:Program) (f:FuncId) (G:ay) (en:List AV) (Q:AV->ay->Prop):Prop :=
 gL P f=true/\∀ (B:Nat) (I:Mem) (L0:bt) (w:World) (vs:List Value) (hB:B<=w.heap.size) (hL:∀i l,L0 i=some l->1000000<=i),gE (Ctx.abM w I 0 B L0 hB hL) fA G I L0 #[] w->nZ I L0 vs en ->
  Calls P f vs.toArray w λx w'=>∃u a H' I' L',x = .returned u/\Q a H'/\dU I' L' u a/\gE (Ctx.abM w I 0 B L0 hB hL) fA H' I' L' #[] w'
theorem ads.mono {f:FuncId} {G:ay} {en:List AV} {Q Q':AV->ay->Prop} (h:ads P f G en Q) (hq:∀a c,Q a c->Q' a c):ads P f G en Q':=⟨h.1,λB I L0 w vs hB hL hs hv=>(h.2 B I L0 w vs hB hL hs hv).mono λ_ _ ⟨u,a,H',I',L',q1,q2,q3⟩=>⟨u,a,H',I',L',q1,hq _ _ q2,q3⟩⟩
def aCg (P:Program) (rs:List ResultVar) (Q:AV->ay->Prop):pJ:=λe env H=>match e with
 | .normal | .ret=>(match oo P env H rs with
  | some a=>Q a H
  | none=>False)
 | _=>False
theorem yA {f:FuncId} {fn:Func} {c:Code} {G:ay} {en:List AV} {Q:AV->ay->Prop} (own:List Nat) (hm:P.follows .mixedOrders=true) (hf:P.funcs[f]? = some fn) (hb:fn.body=some c)
  (hc:gL P f=true) (hn:en.length<=fn.ntmps) (h:cw P fn.ntmps own c (aCg P fn.results.toList Q) (adm en) G):ads P f G en Q:=by
 refine⟨hc,λB I L0 w vs hB hL hs0 hv=>calls_of_wp hf hb ?_⟩; let C:Ctx:=Ctx.abM w I fn.ntmps B L0 hB hL; have hlen:vs.length<=fn.ntmps:=by rw[hv.1]; exact hn
 have hs:gE C (adm en) G I L0 (vs.toArray++Array.replicate (fn.ntmps - vs.toArray.size) undef) w :=
  {below:=hs0.below
   mem:=hs0.mem
   ku:=hs0.ku
   lp:=hs0.lp
   frame:=hs0.frame
   loc:=hs0.loc
   jc:=hs0.jc
   size:=by simp only[Array.size_append,List.size_toArray,Array.size_replicate]; show vs.length+(fn.ntmps - vs.length)=fn.ntmps; omega
   env:=λt=>by
    unfold adm; split
    ·rename_i a ha; have htl:t<vs.length:=by have:=(List.getElem?_eq_some_iff.1 ha).1; rw[hv.1]; exact this
     have uN:(vs.toArray++Array.replicate (fn.ntmps - vs.toArray.size) undef).getD t undef=vs[t]:=by simp only[Array.getD_eq_getD_getElem?,Array.getElem?_append,List.size_toArray,if_pos htl,List.getElem?_toArray,List.getElem?_eq_getElem htl,Option.getD_some]
     rw[uN]; exact hv.2 t _ a (by simp[htl]) ha
    ·exact .dead _
   dom:=hs0.dom
   chunk:=hs0.chunk
   fe:=hs0.fe
   apart:=hs0.apart }
 refine wp_mono (om hm c _ C rfl _ _ I L0 _ w h hs) ?_; rintro x a w' ⟨hd,env',H',I',L',hk,hs'⟩; have fin:(match oo P env' H' fn.results.toList with
  | some a=>Q a H'
  | none=>False)->bodyPost P fn (λx w'=>∃u a H' I' L',x = .returned u/\Q a H'/\dU I' L' u a/\gE (Ctx.abM w I 0 B L0 hB hL) fA H' I' L' #[] w') .normal a w':=by
  intro hk; split at hk
  ·rename_i av hav; obtain⟨u,hru,hua⟩:=uq hs' hav; refine⟨hd,u,hru,u,av,H',I',L',rfl,hk,hua,?_⟩; exact
   {below:=hs'.below
    mem:=hs'.mem
    ku:=hs'.ku
    lp:=hs'.lp
    frame:=hs'.frame
    loc:=hs'.loc
    jc:=hs'.jc
    size:=rfl
    env:=λt=>.dead _
    dom:=hs'.dom
    chunk:=hs'.chunk
    fe:=hs'.fe
    apart:=hs'.apart }
  ·exact hk.elim
 cases x with
 | normal=>exact fin hk
 | ret=>exact fin hk
 | exit id=>exact hk.elim
 | goto l=>exact hk.elim
 | panic c=>exact hk.elim
 | outgrown=>exact hk.elim
theorem akA {w:World} {B:Nat} {hl:List (Nat×Chunk)} {id:Nat} {c ch:Chunk} (hc:pF I L w B id c) (yz:aio (some c) ch) (hch:b7 hl id=some ch) (h4:xE (b7 hl) hl):pF I (L.to (b7 hl)) w B id ch:=by
 have hid:L.to (b7 hl) id=L id:=kX (by rw[hch]; simp); cases c with
 | box cs =>
  cases ch with
  | box ds =>
   have hq:rz cs ds:=yz; obtain⟨q1,q2⟩:=sO hq; obtain⟨b,arr,e,g1,g2,g3,g4,g5,g6⟩:=hc; refine⟨b,arr,e,hid.trans g1,g2,g3.trans q1,λj u c hu hc=>?_,g5,g6⟩; obtain⟨a,ha⟩:∃a,cs[j]? = some a:=by have hj:j<arr.size:=(Array.getElem?_eq_some_iff.1 hu).1; exact⟨cs[j]'(by omega),by simp[g3 ▸ hj]⟩
   exact (abK (g4 j u a hu ha) (q2 j a c ha hc)).to (nt (aip h4 id ds hch) j c hc)
  | row=>cases yz
  | shut=>cases yz
  | tail=>cases yz
  | deep=>cases yz
 | row bg e sz es =>
  have hq:Chunk.row bg e sz es=ch:=by cases ch<;>exact yz
  subst hq; obtain⟨bD,us,g1,g2⟩:=hc; exact⟨bD,us,hid.trans g1,g2⟩
 | shut bg es =>
  have hq:Chunk.shut bg es=ch:=by cases ch<;>exact yz
  subst hq; obtain⟨bD,sz,g1,g2⟩:=hc; exact⟨bD,sz,hid.trans g1,g2⟩
 | tail bg e sz es =>
  have hq:Chunk.tail bg e sz es=ch:=by cases ch<;>exact yz
  subst hq; obtain⟨g,o,cap,arr,g1,g2⟩:=hc; exact⟨g,o,cap,arr,hid.trans g1,g2⟩
 | deep bg e sz k e' sz' es =>
  have hq:Chunk.deep bg e sz k e' sz' es=ch:=by cases ch<;>exact yz
  subst hq; obtain⟨bD,us,cT,g1,g2⟩:=hc; exact⟨bD,us,cT,hid.trans g1,g2⟩
def over (l:List (Nat×Chunk)) (H:ay):ay:=match l with
 | []=>H
 | (d,c) :: r=>bl (over r H) d c
theorem av8 (H:ay):over [] H=H:=rfl
theorem arW (d:Nat) (c:Chunk) (r:List (Nat×Chunk)) (H:ay):over ((d,c) :: r) H=bl (over r H) d c:=rfl
theorem aiq (H:ay) (i:Nat):∀l:List (Nat×Chunk),over l H i=match b7 l i with
  | some c=>some c
  | none=>H i
 | []=>rfl
 | (d,c) :: r=>by
  unfold over b7 bl; by_cases hi:i=d
  ·simp[hi]
  ·simp only[if_neg hi]; exact aiq H i r
def hiL:List (Nat×Chunk)->Prop
 | []=>True
 | (d,_) :: r=>1000000<=d/\hiL r
def aaL (G:ay):List (Nat×Chunk)->Prop
 | []=>True
 | (d,_) :: r=>G d≠none/\aaL G r
def newL (G H:ay):List (Nat×Chunk)->Prop
 | []=>True
 | (d,_) :: r=>(G d≠none\/H d=none)/\newL G H r
theorem ay4:hiL []=True:=rfl
theorem av9 (d:Nat) (c:Chunk) (r:List (Nat×Chunk)):hiL ((d,c) :: r)=(1000000<=d/\hiL r):=rfl
theorem anz (G:ay):aaL G []=True:=rfl
theorem akB (G:ay) (d:Nat) (c:Chunk) (r:List (Nat×Chunk)):aaL G ((d,c) :: r)=(G d≠none/\aaL G r):=rfl
theorem awa (G H:ay):newL G H []=True:=rfl
theorem arX (G H:ay) (d:Nat) (c:Chunk) (r:List (Nat×Chunk)):newL G H ((d,c) :: r)=((G d≠none\/H d=none)/\newL G H r):=rfl
theorem awb:∀ {l:List (Nat×Chunk)},hiL l->∀i,b7 l i≠none->1000000<=i
 | [],_,i,h=>absurd rfl h
 | (d,c) :: r,hh,i,h=>by
  unfold b7 bl at h; split at h
  ·rename_i e; rw[e]; exact hh.1
  ·exact awb hh.2 i h
theorem acQ {G:ay} : ∀ {l:List (Nat×Chunk)},aaL G l->∀i,b7 l i≠none->G i≠none
 | [],_,i,h=>absurd rfl h
 | (d,c) :: r,hh,i,h=>by
  unfold b7 bl at h; split at h
  ·rename_i e; rw[e]; exact hh.1
  ·exact acQ hh.2 i h
theorem ao3 {G H:ay} : ∀ {l:List (Nat×Chunk)},newL G H l->∀i,b7 l i≠none->G i≠none\/H i=none
 | [],_,i,h=>absurd rfl h
 | (d,c) :: r,hh,i,h=>by
  unfold b7 bl at h; split at h
  ·rename_i e; rw[e]; exact hh.1
  ·exact ao3 hh.2 i h
section
variable {C:Ctx} {env:Env} {H H':ay} {tm:Array Value} {w w':World} {I':Mem} {L':bt} {l0 l1:List (Nat×Chunk)}
theorem awc (hh:hiL l0):∀i l,L.to (b7 l0) i=some l->1000000<=i:=λi l hl=>awb hh i (by
 obtain⟨c,hc⟩:=(to_eq hl).2; rw[hc]; simp)
theorem gE.abM (h:gE C env H I L tm w) (h0:aaK H l0) (hi:xE (b7 l0) l0) (hh:hiL l0):gE (Ctx.abM w I 0 C.B (L.to (b7 l0)) h.leB (awc hh)) fA (b7 l0) I (L.to (b7 l0)) #[] w :=
 {below:=Below.refl _ _
  mem:=h.mem
  ku:=Mem.dR I
  lp:=λ_ _ _ _=>rfl
  frame:=λ_ _ _=>rfl
  loc:=dx.refl _
  jc:=λid l b hl hb=>.inr ⟨id,l,hl,hb⟩
  size:=rfl
  env:=λ_=>.dead _
  dom:=λid l hl=>(to_eq hl).2
  chunk:=λid ch hch=>by obtain⟨c,hc1,yz⟩:=abL h0 id ch hch; exact akA (h.chunk id c hc1) yz hch hi
  fe:=λid l b hl hb=>h.fe id l b (to_eq hl).1 hb
  apart:=λi j li lj b hi hj qt tS=>h.apart i j li lj b (to_eq hi).1 (to_eq hj).1 qt tS }
def xk (l1:List (Nat×Chunk)) (L' L:bt):bt:=λi=>match b7 l1 i with
 | some _=>L' i
 | none=>L i
theorem tw {i:Nat} (h:b7 l1 i≠none):xk l1 L' L i=L' i:=by
 unfold xk; cases hc:b7 l1 i with
 | none=>exact absurd hc h
 | some c=>rfl
theorem oZ {i:Nat} (h:b7 l1 i=none):xk l1 L' L i=L i:=by unfold xk; rw[h]
theorem akC:dx (L'.to (b7 l1)) (xk l1 L' L):=λi=>by
 cases hl:L'.to (b7 l1) i with
 | none=>trivial
 | some l =>
  obtain⟨e,c,hc⟩:=to_eq hl; have hb:xk l1 L' L i=some l:=by rw[tw (by rw[hc]; simp)]; exact e
  cases l with
  | box b=>exact hb
  | row v bD sz=>exact⟨v,bD,hb,Nat.le_refl _,λ_=>rfl⟩
  | deep v bD sz sz' cT n=>exact⟨v,bD,cT,n,hb,Nat.le_refl _,λ_=>⟨rfl,rfl,rfl⟩⟩
theorem gE.aCh (h:gE C env H I L tm w) (h0:aaK H l0) (hh:hiL l0)
  (hs':gE (Ctx.abM w I 0 C.B (L.to (b7 l0)) h.leB (awc hh)) fA H' I' L' #[] w')
  (h1:aaK H' l1) (hi:xE (b7 l1) l1) (hst:aaL (b7 l1) l0) (hnw:newL (b7 l0) H l1) :
  gE C env (over l1 H) I' (xk l1 L' L) tm w'/\dx (L'.to (b7 l1)) (xk l1 L' L):=by
 have hin0:∀i,b7 l0 i≠none->H i≠none:=λi hi=>by
  cases hc:b7 l0 i with
  | none=>exact absurd hc hi
  | some c=>obtain⟨c',h2,_⟩:=abL h0 i c hc; rw[h2]; simp
 have hmem:∀i,b7 l1 i≠none->H i≠none->b7 l0 i≠none:=λi hi hH=>(ao3 hnw i hi).elim id λe=>absurd e hH
 have hLH:∀i l,L i=some l->H i≠none:=λi l hl=>by obtain⟨c,hc⟩:=h.dom i l hl; rw[hc]; simp
 have ai5:dx L (xk l1 L' L):=λi=>by
  by_cases hi:b7 l1 i=none
  ·rw[oZ hi]; exact dx.refl L i
  ·rw[tw hi]; cases hL:L i with
   | none=>trivial
   | some l=>have h2:=hmem i hi (hLH i l hL); have h3:L.to (b7 l0) i=L i:=kX h2; have h4:=hs'.loc i; simp only[Ctx.abM,h3,hL] at h4; exact h4
 have awd:∀b,(∃i l,L.to (b7 l0) i=some l/\l.has b)->∃i l,b7 l0 i≠none/\L i=some l/\l.has b:=λb ⟨i,l,hl,hb⟩=>by obtain⟨e,c,hc⟩:=to_eq hl; exact⟨i,l,by rw[hc]; simp,e,hb⟩
 have hfr:∀b,b<w.heap.size->(¬ ∃i l,L.to (b7 l0) i=some l/\l.has b)->w'.heap[b]? = w.heap[b]?/\∀o,I' b o=I b o:=λb hb hn=>⟨hs'.frame b hb hn,λo=>hs'.lp b hb hn o⟩
 have hout:∀b,b<C.w0.heap.size->¬ C.alG b->¬ ∃i l,L.to (b7 l0) i=some l/\l.has b:=λb hb hn hx=>by
  obtain⟨i,l,_,hl,hlb⟩:=awd b hx; rcases h.jc i l b hl hlb with h2 | h2
  ·omega
  ·exact hn h2
 have azV:∀i l b,xk l1 L' L i=some l->b7 l1 i≠none->l.has b->w.heap.size<=b\/∃i l,b7 l0 i≠none/\L i=some l/\l.has b:=λi l b hl hi hb=>by rw[tw hi] at hl; exact (hs'.jc i l b hl hb).imp id (awd b)
 refine⟨?_,akC⟩; exact
 {below:=h.below.trans hs'.below
  mem:=hs'.mem
  ku:=Mem.lg h.ku hs'.ku
  lp:=λb hb hf o=>by rw[(hfr b (Nat.lt_of_lt_of_le hb h.below.size) (hout b hb hf)).2 o]; exact h.lp b hb hf o
  frame:=λb hb hf=>((hfr b (Nat.lt_of_lt_of_le hb h.below.size) (hout b hb hf)).1).trans (h.frame b hb hf)
  loc:=h.loc.trans ai5
  jc:=λi l b hl hb=>by
   by_cases hi:b7 l1 i=none
   ·rw[oZ hi] at hl; exact h.jc i l b hl hb
   ·rcases azV i l b hl hi hb with h2 | ⟨j,lj,_,h3,h4⟩
    ·exact .inl (Nat.le_trans h.below.size h2)
    ·exact h.jc j lj b h3 h4
  size:=h.size
  env:=λt=>(h.env t).mono hs'.ku ai5
  dom:=λi l hl=>by
   rw[aiq]; cases hc:b7 l1 i with
   | some c=>exact⟨c,rfl⟩
   | none=>rw[oZ hc] at hl; exact h.dom i l hl
  chunk:=λi c hc=>by
   rw[aiq] at hc; cases hc1:b7 l1 i with
   | some c1=>rw[hc1] at hc; simp only[Option.some.injEq] at hc; subst hc; obtain⟨c',g1,g2⟩:=abL h1 i c1 hc1; exact (akA (hs'.chunk i c' g1) g2 hc1 hi).keep (Mem.dR I') akC (by rw[tw (by rw[hc1]; simp),kX (by rw[hc1]; simp)]) λ_ _ _ _=>⟨rfl,λ_=>rfl⟩
   | none =>
    rw[hc1] at hc; refine (h.chunk i c hc).keep hs'.ku ai5 (oZ hc1) λl b hl hb=>hfr b (h.fe i l b hl hb).2 λhx=>?_
    obtain⟨j,lj,h2,h3,h4⟩:=awd b hx; have:=h.apart i j l lj b hl h3 hb h4; subst this; exact acQ hst i h2 hc1
  fe:=λi l b hl hb=>by
   by_cases hi:b7 l1 i=none
   ·rw[oZ hi] at hl; exact⟨(h.fe i l b hl hb).1,Nat.lt_of_lt_of_le (h.fe i l b hl hb).2 hs'.below.size⟩
   ·rw[tw hi] at hl; exact hs'.fe i l b hl hb
  apart:=λi j li lj b hi hj qt tS=>by
   have one:∀i j li lj,xk l1 L' L i=some li->xk l1 L' L j=some lj->li.has b->lj.has b->b7 l1 i≠none->b7 l1 j=none->False:=λi j li lj hi hj qt tS h2 h3=>by
    have hj':=hj; rw[oZ h3] at hj'; rcases azV i li b hi h2 qt with h4 | ⟨k,lk,h4,h5,h6⟩
    ·have:=(h.fe j lj b hj' tS).2; omega
    ·have:=h.apart k j lk lj b h5 hj' h6 tS; subst this; exact acQ hst k h4 h3
   by_cases h2:b7 l1 i=none<;>by_cases h3:b7 l1 j=none
   ·rw[oZ h2] at hi; rw[oZ h3] at hj; exact h.apart i j li lj b hi hj qt tS
   ·exact (one j i lj li hj hi tS qt h3 h2).elim
   ·exact (one i j li lj hi hj qt tS h2 h3).elim
   ·rw[tw h2] at hi; rw[tw h3] at hj; exact hs'.apart i j li lj b hi hj qt tS }
end
def isIn (c:Option Chunk) (a:AV) (r:Option AV):Option AV:=match c with
 | some _=>some a
 | none=>r
def ao4 (r:Option (PV×Bool)):Option AV:=match r with
 | some (x,false)=>some (.p x)
 | _=>none
def agT (G H:ay):AV->Option AV
 | .ptr id off=>isIn (G id) (.ptr id off) none
 | .row id v=>isIn (G id) (.row id v) (ao4 (fZ H (.row id v)))
 | .eC id v=>isIn (G id) (.eC id v) none
 | a=>ao4 (fZ H a)
def yB (G H:ay):List AV->Option (List AV)
 | []=>some []
 | a :: r=>match agT G H a,yB G H r with
  | some x,some xs=>some (x :: xs)
  | _,_=>none
theorem arY (c:Chunk) (a:AV) (r:Option AV):isIn (some c) a r=some a:=rfl
theorem arZ (G H:ay) (id off:Nat):agT G H (.ptr id off)=isIn (G id) (.ptr id off) none:=rfl
theorem ay5 (G H:ay) (x:PV):agT G H (.p x)=some (.p x):=rfl
theorem anA (G H:ay):yB G H []=some []:=rfl
theorem akD (G H:ay) (a:AV) (r:List AV):yB G H (a :: r)=match agT G H a,yB G H r with
  | some x,some xs=>some (x :: xs)
  | _,_=>none:=rfl
theorem awe {C:Ctx} {H G:ay} {env:Env} {tm:Array Value} {w:World} (hs:gE C env H I L tm w) {u:Value} {a x:AV} (hu:dU I L u a) (h:agT G H a=some x):dU I (L.to G) u x:=by
 have hp:∀a,dU I L u a->ao4 (fZ H a)=some x->dU I (L.to G) u x:=λa hu h=>by
  unfold ao4 at h; split at h
  ·rename_i y he; simp only[Option.some.injEq] at h; subst h; exact .p _ _ ((oh hs (sK H) (lq hs.mem) ((qu L w).g H) u a y false hu he).2 rfl)
  ·cases h
 unfold agT at h; split at h
 ·rename_i id off; unfold isIn at h; split at h
  ·rename_i c hc; simp only[Option.some.injEq] at h; subst h; exact hu.to (by rw[agS,hc]; simp)
  ·cases h
 ·rename_i id v; unfold isIn at h; split at h
  ·rename_i c hc; simp only[Option.some.injEq] at h; subst h; exact hu.to (by rw[agR,hc]; simp)
  ·exact hp _ hu h
 ·rename_i id v; unfold isIn at h; split at h
  ·rename_i c hc; simp only[Option.some.injEq] at h; subst h; exact hu.to (by rw[aeZ,hc]; simp)
  ·cases h
 ·exact hp _ hu h
theorem agU {C:Ctx} {H G:ay} {env:Env} {tm:Array Value} {w:World} (hs:gE C env H I L tm w):∀ {us:List Value} {en xs:List AV},nZ I L us en->yB G H en=some xs->nZ I (L.to G) us xs
 | us,[],xs,hu,h=>by simp only[yB,Option.some.injEq] at h; subst h; exact⟨by simpa using hu.1,by simp⟩
 | [],a :: r,xs,hu,h=>by have:=hu.1; simp at this
 | u :: us,a :: r,xs,hu,h=>by
  unfold yB at h; split at h
  ·rename_i x ys h1 h2; simp only[Option.some.injEq] at h; subst h; have k:=agU hs (us:=us) (en:=r) ⟨by have:=hu.1; simpa using this,λj u c hj hc=>hu.2 (j+1) u c hj hc⟩ h2; refine⟨by simp[k.1],λj u' c hj hc=>?_⟩; cases j with
   | zero=>simp at hj hc; subst hj hc; exact awe hs (hu.2 0 u a rfl rfl) h1
   | succ j=>exact k.2 j u' c (by simpa using hj) (by simpa using hc)
  ·cases h
theorem abN {o:Oper} {W:Env->ay->Prop} {env:Env} {H:ay} {k:FuncId} {en xs ys:List AV} {A:AV} {l0 l1:List (Nat×Chunk)}
  (c:ads P k (b7 l0) ys λa H=>ny a A/\aaK H l1) (ha:di o (ev env)=some (k,en)) (hx:yB (b7 l0) H en=some xs) (hy:rz xs ys)
  (hh:hiL l0) (h0:aaK H l0/\xE (b7 l0) l0) (h1:xE (b7 l1) l1/\oq (b7 l1) A) (hst:aaL (b7 l1) l0) (hnw:newL (b7 l0) H l1)
  (hW:W (cA env o.dst A) (over l1 H)):abq P o W env H:=λC I L tm w σ hs hσ=>by
 obtain⟨us,hr,hu⟩:=pH ha c.1 hσ w; refine⟨k,_,hr,?_⟩; have hv:=agU hs hu hx; obtain⟨q1,q2⟩:=sO hy; have vh:nZ I (L.to (b7 l0)) us ys:=⟨hv.1.trans q1,λj u c hj hc=>by
  obtain⟨a,ha⟩:∃a,xs[j]? = some a:=by have hj:j<us.length:=(List.getElem?_eq_some_iff.1 hj).1; have hl:=hv.1; exact⟨xs[j]'(by omega),by simp[hl ▸ hj]⟩
  exact abK (hv.2 j u a hj ha) (q2 j a c ha hc)⟩
 refine (c.2 C.B I _ w us hs.leB (awc hh) (hs.abM h0.1 h0.2 hh) vh).mono λx w' ⟨u,a,H',I',L',m1,⟨m2,m3⟩,m4,m5⟩=>?_
 obtain⟨n1,n2⟩:=hs.aCh h0.1 hh m5 m3 h1.1 hst hnw; exact⟨u,I',_,A,_,m1,hW,((abK m4 m2).to h1.2).mono (Mem.dR _) n2,n1⟩
end Go.cE
namespace Go.cE
open Go.RowKit
variable {P:Program} {I:Mem} {L:bt}
def Mem.add (I:Mem) (b lo:Nat) (us:List Value):Mem:=λc o=>if c=b/\lo<=o/\o<lo+us.length then us[o - lo]? else I c o
theorem ake {H' H:ay} {id v:Nat} {e:TypeId} {sz:Nat} {es:List (List PV)} (h:pL H' H):pL (bl H' id (.tail v e sz es)) H:=λi c' hi=>by
 unfold bl at hi; split at hi
 ·cases hi
 ·exact h i c' hi
end Go.cE
namespace Go.cE
open Go.RowKit
variable {P:Program} {I:Mem} {L:bt}
def sw (s t i:Nat):Nat:=if i=s then t else if i=t then s else i
theorem o4 (s t i:Nat):sw s t (sw s t i)=i:=by
 unfold sw; split
 ·rename_i h; subst h; split
  ·assumption
  ·rw[if_pos rfl]
 ·split
  ·rename_i h; subst h; rw[if_pos rfl]
  ·rfl
mutual
def jf (s t:Nat):AV->AV
 | .row id v=>.row (sw s t id) v
 | .ptr id o=>.ptr (sw s t id) o
 | .iO id v i o=>.iO (sw s t id) v i o
 | .agg cs=>.agg (nV s t cs)
 | .dB cs=>.dB (nV s t cs)
 | .gR f a b=>.gR f (nV s t a) (nV s t b)
 | .eC id v=>.eC (sw s t id) v
 | .j0 id v i o=>.j0 (sw s t id) v i o
 | .j4 id v i=>.j4 (sw s t id) v i
 | .mu id v i j o=>.mu (sw s t id) v i j o
 | .zz id n=>.zz (sw s t id) n
 | .gU id v o n m z=>.gU (sw s t id) v o n m z
 | x=>x
def nV (s t:Nat):List AV->List AV
 | []=>[]
 | a :: r=>jf s t a :: nV s t r
end
theorem sP {s t:Nat} : ∀ {cs:List AV} {j:Nat} {c:AV},(nV s t cs)[j]? = some c->∃d,cs[j]? = some d/\c=jf s t d
 | [],j,c,h=>by simp[nV] at h
 | a :: r,0,c,h=>by unfold nV at h; simp only[List.getElem?_cons_zero,Option.some.injEq] at h; exact⟨a,rfl,h.symm⟩
 | a :: r,j+1,c,h=>by unfold nV at h; exact sP (cs:=r) (by simpa using h)
theorem nK {s t:Nat} : ∀cs:List AV,(nV s t cs).length=cs.length
 | []=>rfl
 | a :: r=>by unfold nV; simp[nK r]
def ar0 (s t:Nat):Chunk->Chunk
 | .box cs=>.box (nV s t cs)
 | c=>c
def awf (s t:Nat):Option Chunk->Option Chunk
 | some c=>some (ar0 s t c)
 | none=>none
def acR (s t:Nat) (env:Env):Env:=λi=>jf s t (env i)
def air (s t:Nat) (H:ay):ay:=λi=>awf s t (H (sw s t i))
def aaM (s t:Nat) (L:bt):bt:=λi=>L (sw s t i)
theorem dU.ren {s t:Nat} {u:Value} {a:AV} (h:dU I L u a):dU I (aaM s t L) u (jf s t a):=by
 induction h with
 | p u x h=>unfold jf; exact .p u x h
 | row u id bg v bD sz hl hle h h1=>unfold jf; exact .row u _ bg v bD sz (by unfold aaM; rw[o4]; exact hl) hle h h1
 | ptr id b off hl=>unfold jf; exact .ptr _ b off (by unfold aaM; rw[o4]; exact hl)
 | iO u id bg v i off bD sz hl hle h h1=>unfold jf; exact .iO u _ bg v i off bD sz (by unfold aaM; rw[o4]; exact hl) hle h h1
 | agg us cs hl _ hone ih=>unfold jf; refine .agg us _ (by rw[nK]; exact hl) (λj u c hu hc=>?_) hone; obtain⟨d,hd,rfl⟩:=sP hc; exact ih j u d hu hd
 | dB us cs hl _ ih=>unfold jf; refine .dB us _ (by rw[nK]; exact hl) (λj u c hu hc=>?_); obtain⟨d,hd,rfl⟩:=sP hc; exact ih j u d hu hd
 | gR fn us vs fs cs hl hl' _ _ ih ih' =>
  unfold jf; refine .gR fn us vs _ _ (by rw[nK]; exact hl) (by rw[nK]; exact hl') (λj u c hu hc=>?_) (λj u c hu hc=>?_)
  ·obtain⟨d,hd,rfl⟩:=sP hc; exact ih j u d hu hd
  ·obtain⟨d,hd,rfl⟩:=sP hc; exact ih' j u d hu hd
 | dead u=>unfold jf; exact .dead u
 | zz id b n hl=>unfold jf; exact .zz _ b n (by unfold aaM; rw[o4]; exact hl)
 | gU a id bg v off n m c bD sz hl hle hn hm hz h=>unfold jf; exact .gU a _ bg v off n m c bD sz (by unfold aaM; rw[o4]; exact hl) hle hn hm hz h
 | eC u id bg v bD sz sz' cT n hl hle h h1=>unfold jf; exact .eC u _ bg v bD sz sz' cT n (by unfold aaM; rw[o4]; exact hl) hle h h1
 | j0 u id bg v i off bD sz sz' cT n hl hle h h1=>unfold jf; exact .j0 u _ bg v i off bD sz sz' cT n (by unfold aaM; rw[o4]; exact hl) hle h h1
 | j4 u id bg v i bD sz sz' cT n hl hle h h1=>unfold jf; exact .j4 u _ bg v i bD sz sz' cT n (by unfold aaM; rw[o4]; exact hl) hle h h1
 | mu u id bg v i j off bD sz sz' cT n hl hle h h1=>unfold jf; exact .mu u _ bg v i j off bD sz sz' cT n (by unfold aaM; rw[o4]; exact hl) hle h h1
theorem pF.ren {s t:Nat} {w:World} {B id:Nat} {c:Chunk} (h:pF I L w B (sw s t id) c):pF I (aaM s t L) w B id (ar0 s t c):=by
 cases c with
 | box cs=>obtain⟨b,arr,e,g1,g2,g3,g4,g5,g6⟩:=h; refine⟨b,arr,e,g1,g2,by rw[nK]; exact g3,λj u c hu hc=>?_,g5,g6⟩; obtain⟨d,hd,rfl⟩:=sP hc; exact (g4 j u d hu hd).ren
 | row bg e sz es=>exact h
 | shut bg es=>exact h
 | tail bg e sz es=>exact h
 | deep bg e sz k e' sz' es=>exact h
theorem ay6 (s t:Nat) (env:Env) (i:Nat):acR s t env i=jf s t (env i):=rfl
theorem ay7 (s t:Nat) (H:ay) (i:Nat):air s t H i=awf s t (H (sw s t i)):=rfl
theorem aCi (s t i:Nat):sw s t i=if i=s then t else if i=t then s else i:=rfl
theorem awg (s t id v:Nat):jf s t (.row id v) = .row (sw s t id) v:=by simp only[jf]
theorem awh (s t id v:Nat):jf s t (.ptr id v) = .ptr (sw s t id) v:=by simp only[jf]
theorem aAN (s t:Nat) (x:PV):jf s t (.p x) = .p x:=by simp only[jf]
theorem ar1 (s t id v:Nat):jf s t (.eC id v) = .eC (sw s t id) v:=by simp only[jf]
theorem ar2 (s t v:Nat) (e:TypeId) (sz k:Nat) (e':TypeId) (sz':Nat) (es:List (List PV)):ar0 s t (.deep v e sz k e' sz' es) = .deep v e sz k e' sz' es:=rfl
theorem ar3 (s t:Nat):nV s t []=[]:=by simp only[nV]
theorem anB (s t:Nat) (a:AV) (r:List AV):nV s t (a :: r)=jf s t a :: nV s t r:=by simp only[nV]
theorem ar4 (s t:Nat) (c:Chunk):awf s t (some c)=some (ar0 s t c):=rfl
theorem ar5 (s t:Nat):awf s t none=none:=rfl
theorem awi (s t:Nat) (cs:List AV):ar0 s t (.box cs) = .box (nV s t cs):=rfl
theorem awj (s t v:Nat) (e:TypeId) (sz:Nat) (es:List (List PV)):ar0 s t (.row v e sz es) = .row v e sz es:=rfl
attribute [go_sem] ar1 ar2 ay6 ay7 aCi awg awh aAN ar3 anB ar4 ar5 awi awj av8 arW ay4 av9 anz akB awa arX arY arZ ay5 anA akD
end Go.cE
namespace Go.cE
open Go.RowKit
variable {P:Program} {I:Mem} {L:bt}
theorem gE.change {C:Ctx} {env:Env} {H H':ay} {I':Mem} {L':bt} {tm:Array Value} {w w':World} (h:gE C env H I L tm w) (hb:Below C.B w w') (S:Nat->Prop)
  (hk:∀b,b<w.heap.size->(¬ ∃i l,S i/\L i=some l/\l.has b)->w'.heap[b]? = w.heap[b]?/\∀o,I' b o=I b o) (hle:dx L L') (hsub:I.sub I') (hIw:I'.zy w')
  (hS:∀i,¬ S i->L' i=L i/\H' i=H i) (hdom:∀i l,S i->L' i=some l->∃c,H' i=some c) (hch:∀i c,S i->H' i=some c->pF I' L' w' C.B i c)
  (hblk:∀i l b,S i->L' i=some l->l.has b->(∃j lj,S j/\L j=some lj/\lj.has b)\/(w.heap.size<=b/\b<w'.heap.size))
  (hap:∀i j li lj b,S i->S j->L' i=some li->L' j=some lj->li.has b->lj.has b->i=j):gE C env H' I' L' tm w':=by
 have hold:∀b,b<C.w0.heap.size->¬ C.alG b->¬ ∃i l,S i/\L i=some l/\l.has b:=λb hb hn ⟨i,l,_,hl,hlb⟩=>by
  rcases h.jc i l b hl hlb with h2 | h2
  ·omega
  ·exact hn h2
 have hlt:∀b,b<C.w0.heap.size->b<w.heap.size:=λb hb=>Nat.lt_of_lt_of_le hb h.below.size
 have jQ:∀i l b,¬ S i->L i=some l->l.has b->¬ ∃j lj,S j/\L j=some lj/\lj.has b:=λi l b hi hl hlb ⟨j,lj,hj,hlj,hjb⟩=>by have:=h.apart i j l lj b hl hlj hlb hjb; subst this; exact hi hj
 exact
 {below:=h.below.trans hb
  mem:=hIw
  ku:=Mem.lg h.ku hsub
  lp:=λb hb hf o=>by rw[(hk b (hlt b hb) (hold b hb hf)).2 o]; exact h.lp b hb hf o
  frame:=λb hb hf=>((hk b (hlt b hb) (hold b hb hf)).1).trans (h.frame b hb hf)
  loc:=h.loc.trans hle
  jc:=λi l b hl hlb=>by
   by_cases hi:S i
   ·rcases hblk i l b hi hl hlb with ⟨j,lj,_,hj,hjb⟩ | h2
    ·exact h.jc j lj b hj hjb
    ·exact .inl (Nat.le_trans h.below.size h2.1)
   ·rw[(hS i hi).1] at hl; exact h.jc i l b hl hlb
  size:=h.size
  env:=λt=>(h.env t).mono hsub hle
  dom:=λi l hl=>by
   by_cases hi:S i
   ·exact hdom i l hi hl
   ·rw[(hS i hi).1] at hl; rw[(hS i hi).2]; exact h.dom i l hl
  chunk:=λi c hc=>by
   by_cases hi:S i
   ·exact hch i c hi hc
   ·rw[(hS i hi).2] at hc; exact (h.chunk i c hc).keep hsub hle (hS i hi).1 λl b hl hlb=>hk b (h.fe i l b hl hlb).2 (jQ i l b hi hl hlb)
  fe:=λi l b hl hlb=>by
   by_cases hi:S i
   ·rcases hblk i l b hi hl hlb with ⟨j,lj,_,hj,hjb⟩ | h2
    ·exact⟨(h.fe j lj b hj hjb).1,Nat.lt_of_lt_of_le (h.fe j lj b hj hjb).2 hb.size⟩
    ·exact⟨Nat.le_trans h.leB h2.1,h2.2⟩
   ·rw[(hS i hi).1] at hl; exact⟨(h.fe i l b hl hlb).1,Nat.lt_of_lt_of_le (h.fe i l b hl hlb).2 hb.size⟩
  apart:=λi j li lj b hi hj qt tS=>by
   have one:∀i j li lj,S i->¬ S j->L' i=some li->L' j=some lj->li.has b->lj.has b->False:=λi j li lj hi hj hli hlj qt tS=>by
    rw[(hS j hj).1] at hlj; rcases hblk i li b hi hli qt with hx | h2
    ·exact jQ j lj b hj hlj tS hx
    ·have:=(h.fe j lj b hlj tS).2; omega
   by_cases h1:S i<;>by_cases h2:S j
   ·exact hap i j li lj b h1 h2 hi hj qt tS
   ·exact (one i j li lj h1 h2 hi hj qt tS).elim
   ·exact (one j i lj li h2 h1 hj hi tS qt).elim
   ·rw[(hS i h1).1] at hi; rw[(hS j h2).1] at hj; exact h.apart i j li lj b hi hj qt tS }
theorem gE.ren {C:Ctx} {env:Env} {H:ay} {tm:Array Value} {w:World} (hs:gE C env H I L tm w) {s t:Nat} (h0s:C.L0 s=none) (h0t:C.L0 t=none):gE C (acR s t env) (air s t H) I (aaM s t L) tm w :=
 {below:=hs.below
  mem:=hs.mem
  ku:=hs.ku
  lp:=hs.lp
  frame:=hs.frame
  loc:=λi=>by
   by_cases h1:i=s
   ·subst h1; rw[h0s]; trivial
   ·by_cases h2:i=t
    ·subst h2; rw[h0t]; trivial
    ·have:aaM s t L i=L i:=by unfold aaM sw; rw[if_neg h1,if_neg h2]
     rw[this]; exact hs.loc i
  jc:=λid l b hl hb=>hs.jc _ l b hl hb
  size:=hs.size
  env:=λi=>(hs.env i).ren
  dom:=λid l hl=>by obtain⟨c,hc⟩:=hs.dom _ l hl; exact⟨_,by unfold air; rw[hc]; rfl⟩
  chunk:=λid ch hch=>by
   unfold air at hch; cases hc:H (sw s t id) with
   | none=>rw[hc] at hch; cases hch
   | some c=>rw[hc] at hch; simp only[awf,Option.some.injEq] at hch; subst hch; exact (hs.chunk _ c hc).ren
  fe:=λid l b hl hb=>hs.fe _ l b hl hb
  apart:=λi j li lj b hi hj qt tS=>by
   have:=hs.apart _ _ li lj b hi hj qt tS; have h2:=congrArg (sw s t) this; rwa [o4,o4] at h2 }
mutual
theorem agV (s t:Nat):∀a:AV,jf s t (jf s t a)=a
 | .p _=>by simp only[jf]
 | .row _ _=>by simp only[jf,o4]
 | .ptr _ _=>by simp only[jf,o4]
 | .iO _ _ _ _=>by simp only[jf,o4]
 | .agg cs=>by simp only[jf,rA s t cs]
 | .dB cs=>by simp only[jf,rA s t cs]
 | .gR _ a b=>by simp only[jf,rA s t a,rA s t b]
 | .eC _ _=>by simp only[jf,o4]
 | .j0 _ _ _ _=>by simp only[jf,o4]
 | .j4 _ _ _=>by simp only[jf,o4]
 | .mu _ _ _ _ _=>by simp only[jf,o4]
 | .zz _ _=>by simp only[jf,o4]
 | .gU _ _ _ _ _ _=>by simp only[jf,o4]
 | .dead=>by simp only[jf]
theorem rA (s t:Nat):∀l:List AV,nV s t (nV s t l)=l
 | []=>by simp only[nV]
 | a :: r=>by simp only[nV,agV s t a,rA s t r]
end
theorem agW (s t:Nat) (env:Env):acR s t (acR s t env)=env:=by funext i; simp only[acR,agV]
theorem ar6 (s t:Nat) (env:Env) (d:Option Tmp) (a:AV):acR s t (cA env d a)=cA (acR s t env) d (jf s t a):=by
 cases d with
 | none=>rfl
 | some k=>funext i; show jf s t (ct env k a i)=ct (acR s t env) k (jf s t a) i; unfold ct; split<;>rfl
theorem aAO (s t:Nat) (env:Env) (x:Operand):ev (acR s t env) x=jf s t (ev env x):=by
 cases x with
 | tmp k=>rfl
 | const v =>
  show xT v=jf s t (xT v); have:∃p,xT v = .p p\/xT v = .dead:=by unfold xT; split<;>first | exact⟨_,.inl rfl⟩ | exact⟨default,.inr rfl⟩ | (split<;>first | exact⟨_,.inl rfl⟩ | exact⟨default,.inr rfl⟩)
  obtain⟨p,h | h⟩:=this<;>rw[h]<;>simp only[jf]
 | global g=>simp only[ev,jf]
 | func f=>simp only[ev,jf]
theorem j9 {o:Oper} {W:Env->ay->Prop} {env:Env} {H:ay} (s t:Nat) (hs1:s<1000000) (ht:H t=none) (h:abq P o (λe G=>W (acR s t e) (air s t G)) (acR s t env) (air s t H)):abq P o W env H:=λC I L tm w σ hs hσ=>by
 have hLt:L t=none:=hs.qW ht; have h0t:C.L0 t=none:=by
  cases h:C.L0 t with
  | none=>rfl
  | some l =>
   have:=hs.loc t; rw[h] at this; cases l with
   | box b=>rw[hLt] at this; cases this
   | row v bD sz=>obtain⟨_,_,h2,_⟩:=this; rw[hLt] at h2; cases h2
   | deep v bD sz sz' cT n=>obtain⟨_,_,_,_,h2,_⟩:=this; rw[hLt] at h2; cases h2
 have h0s:C.L0 s=none:=by
  cases h:C.L0 s with
  | none=>rfl
  | some l=>have:=C.hL0 s l h; omega
 obtain⟨k,args,q1,q2⟩:=h C I _ tm w σ (hs.ren h0s h0t) λx=>by rw[aAO]; exact (hσ x).ren
 refine⟨k,args,q1,q2.mono λe w' ⟨v,I',L',a,H',m1,m2,m3,m4⟩=>⟨v,I',aaM s t L',jf s t a,air s t H',m1,?_,m3.ren,?_⟩⟩
 ·have:acR s t (cA (acR s t env) o.dst a)=cA env o.dst (jf s t a):=by rw[ar6,agW]
  rw[<-this]; exact m2
 ·have:=m4.ren h0s h0t; rwa [agW] at this
theorem awk {C:Ctx} {H:ay} {env:Env} {tm:Array Value} {w:World} (hs:gE C env H I L tm w) {d:Nat} (hd:H d=none) (e:TypeId) {sz k:Nat} (hpos:k<sz) (e':TypeId) (sz':Nat) :
  dU I (b6 L d (.deep 0 (.slice none 0 0) sz sz' (λ_=>.slice none 0 0) 0)) (.slice none 0 0) (.eC d 0)/\Fr C I L H w I (b6 L d (.deep 0 (.slice none 0 0) sz sz' (λ_=>.slice none 0 0) 0)) (bl H d (.deep 0 e sz k e' sz' [])) w /\
   dx L (b6 L d (.deep 0 (.slice none 0 0) sz sz' (λ_=>.slice none 0 0) 0)):=by
 refine⟨.eC _ d 0 0 (.slice none 0 0) sz sz' (λ_=>.slice none 0 0) 0 (by simp[b6]) (Nat.le_refl _) (λ_=>rfl) rfl,λenv tm hs=>?_,dx.sW (hs.qW hd) _⟩; refine hs.new (Below.refl _ _) (λ_ _=>rfl) hd _ _ ?_ (λb hb=>?_)
 ·refine⟨.slice none 0 0,[],λ_=>.slice none 0 0,by simp[b6],⟨⟨by simp[eT],.inl ⟨rfl,by simp[eT]⟩⟩,by omega,by simp[eT],by simp,by simp,λb hb=>by cases hb⟩,rfl,hpos,by simp,λi x hx=>by simp at hx,λi b hi=>by simp at hi,λi j b hi=>by simp at hi⟩
 ·rcases hb with hb | ⟨i,hi,_⟩
  ·cases hb
  ·omega
theorem ar7 {e:Env} {H:ay} (t id:Nat) (ty:TypeId) (sz k:Nat) (e':TypeId) (sz':Nat) (ht:e t = .p (.val (.slice none 0 0))) (hid:H id=none) (hsz:k<sz) :
  dP e H (ct e t (.eC id 0)) (bl H id (.deep 0 ty sz k e' sz' [])):=λC I L tm w hs=>by
 obtain⟨n1,n2,n3⟩:=awk hs hid ty hsz e' sz'; have hs':=n2 e tm hs; refine⟨I,_,{ hs' with env:=λi=>?_ }⟩; unfold ct; split
 ·rename_i hi; subst hi; have:=hs.env i; rw[ht] at this; rw[this.ek.1]; exact n1
 ·exact hs'.env i
theorem ar8 (k:Nat) (cT:Nat->Value) (es:List (List PV)) (i:Nat) (x:List PV) (p:PV) (hx:es[i]? = some x):eT k cT (es.set i (x.set k p))=eT k cT es:=by
 apply List.ext_getElem?; intro j; rw[sI,sI,List.getElem?_set]; split
 ·rename_i h; subst h; have hi:=(List.getElem?_eq_some_iff.1 hx).1; rw[if_pos hi,hx]; simp[List.set_set]
 ·rfl
theorem anC {o:Oper} {W:Env->ay->Prop} {env:Env} {H:ay} (t:TypeId) (a x:Operand) (id v i j:Nat) (e:TypeId) (sz k:Nat) (e':TypeId) (es:List (List PV)) (el:List PV) (l:List (List PV)) (p:PV) (hop:o.op = .store t a x)
  (hn:bw P t=some 1) (ha:ev env a = .mu id v i j 0) (hx:ev env x = .p p) (hp1:(bT (.p p))=[.p p]/\p.one=true) (hH:H id=some (.deep v e sz k e' 1 es)) (hel:es[i]? = some el) (hl:el[k]? = some (.aU l)) (hj:j<l.length)
  (hW:W (cA env o.dst .dead) (bl H id (.deep v e sz k e' 1 (es.set i (el.set k (.aU (l.set j [p]))))))):iL P o W env H:=by
 refine .inr (.inr (.inl ⟨_,_,hW,λC I L tm w σ hs hσ=>?_⟩)); have hav:=hσ a; have hxv:=hσ x; rw[ha] at hav; rw[hx] at hxv; obtain⟨bD,us,cT,q1,q2,q3,q4,q5,q6,q7⟩:=hs.chunk id _ hH; have qg:i<es.length:=(List.getElem?_eq_some_iff.1 hel).1; obtain⟨l',ius,r1,r2,r3⟩:=q6 i el hel; rw[hl] at r1; simp only[Option.some.injEq,PV.aU.injEq] at r1; subst r1; have hs':(execOp σ o).run P w=(do Instr.storeAt t (σ a) (σ x); pure .skip:Sem Next).run P w:=by unfold execOp; rw[hop]
 obtain⟨un,u1,u2,u3,u4⟩:=cells_one hxv (by rw[hp1.1]; simp[nq,hp1.2]); rw[hp1.1] at u2 u3; have hpin:0<es.length:=by omega
 generalize hua:σ a=ua at *; cases hav with
 | mu _ _ _ v1 _ _ _ js _ _ p4 n1 lV hle hh hone =>
  rw[q1] at lV; simp only[Option.some.injEq,Loc.deep.injEq] at lV; obtain⟨e1,e2,e3,e4,e5,e6⟩:=lV; subst e1 e2 e3 e4 e5 e6; obtain⟨g,o0,m,cap,g1,rfl⟩:=hh rfl; rcases r2.own.2 with ⟨alN,_⟩ | ⟨g',cp,cur,heq,hbg,hgg,hnc,hcm,hcz,kN⟩
  ·rw[alN] at g1; cases g1
  have aCj:=heq; rw[g1] at heq; simp only[Value.slice.injEq,Option.some.injEq,Addr.mk.injEq] at heq; obtain⟨⟨e3,e0,_⟩,e4,e5⟩:=heq; subst e3 e0 e4 e5; have qt:(cT i).ownBlock=some g:=by rw[aCj]; rfl
  have hcap:l.length<=cur.size:=by omega
  have hul:un.length=1:=by simpa using u2
  have hr:=vU hn u1 hul hgg (off:=j) (by omega) u4; have e8:(0:Nat)+(j * 1+0)=j:=by omega
  rw[e8] at hs'; have hil':ius.length=l.length:=by have:=r2.own.1; omega
  have hkeep:∀ (b:Nat),b≠g->(w.setRow g (splice cur.toList j un).toArray).heap[b]? = w.heap[b]?:=λb hb=>setRow_other w g b _ hb
  have hgw:g<w.heap.size:=(Array.getElem?_eq_some_iff.1 hgg).1; have hgB:C.B<=g:=hbg; refine⟨undef,_,I,L,.inr ⟨by rw[hs']; exact aej hr,rfl⟩,.dead _,λenv tm hs=>?_⟩; refine hs.change (qR _ hgB) (λz=>z=id) (λb hb hnb=>⟨hkeep b λhbg=>hnb ⟨id,_,rfl,q1,by rw[hbg]; exact .inr ⟨i,qg,qt⟩⟩,λ_=>rfl⟩) (dx.refl L) (Mem.dR I) (hs.mem.keep λb ⟨o,u,hu⟩=>hkeep b λhbg=>by rw[hbg,r2.free g qt o] at hu; cases hu)
   (λz hz=>⟨rfl,by simp[bl,hz]⟩) (λz l hz hl=>⟨_,by simp[bl,hz]; rfl⟩) (λz c hz hc=>?_) (λz l b hz hl hb=>.inl ⟨z,l,hz,hl,hb⟩) (λz z' _ _ _ hz hz' _ _ _ _=>by rw[hz,hz'])
  subst hz; have:Chunk.deep v e sz k e' 1 (es.set i (el.set k (.aU (l.set j [p]))))=c:=by simpa[bl] using hc
  subst this; have vS:eT k cT (es.set i (el.set k (.aU (l.set j [p]))))=eT k cT es:=ar8 k cT es i el _ hel; refine⟨bD,us,cT,by rw[List.length_set]; exact q1,?_,q3,q4,λy hy=>?_,λi' x' hx'=>?_,by rw[List.length_set]; exact q7⟩
  ·rw[vS]; exact q2.keep (Mem.dR I) λb hb=>⟨hkeep b λhbg=>q7.1 i g qg qt (by rw[<-hbg]; exact hb),λ_=>rfl⟩
  ·rcases List.mem_or_eq_of_mem_set hy with h | h
   ·exact q5 y h
   ·subst h; rw[List.length_set]; exact q5 el (List.mem_of_getElem? hel)
  ·rw[List.getElem?_set] at hx'; split at hx'
   ·rename_i hii; subst hii; simp only[Option.some.injEq] at hx'; subst hx'; have qD:k<el.length:=(List.getElem?_eq_some_iff.1 hl).1; have htk:(splice cur.toList j un).take (l.length * 1)=splice ius j un:=by rw[x6 (by omega) (by simp; omega),kN]
    refine⟨l.set j [p],splice ius j un,by simp[qD],⟨⟨?_,.inr ⟨g,cap,(splice cur.toList j un).toArray,by rw[List.length_set]; exact aCj,hbg,setRow_heap w g cur _ e' _ hgg,by rw[List.length_set]; exact hnc,hcm,?_,by rw[List.length_set]; exact htk⟩⟩,r2.pos,λy hy=>?_,?_,vV r2.one u4,r2.free⟩,r3⟩
    ·rw[List.length_set,dQ (by omega)]; omega
    ·simp only[List.size_toArray]; rw[dQ (by simp only[Array.length_toList]; omega)]; simpa using hcz
    ·rcases List.mem_or_eq_of_mem_set hy with h | h
     ·exact r2.all y h
     ·subst h; rfl
    ·have hm:(l.getD j []).length=1:=r2.all _ (by
      have:l.getD j []=l[j]:=by simp[hj]
      rw[this]; exact List.getElem_mem _)
     have hsp:splice (l.getD j []) 0 [p]=[p]:=by unfold splice; rw[List.take_zero,List.drop_eq_nil_of_le (by rw[hm]; simp)]; rfl
     have:=xZ r2.all j hj 0 [p] (by simp); rw[hsp] at this; rw[this]; have e9:j * 1+0=j:=by omega
     rw[e9]; exact aaw (by rw[bC r2.all]; omega) (by simpa using u2) r2.val (λq u c hu hc=>by
      have:=u3 q u (.p c) hu (by
       cases q with
       | zero=>simp at hc ⊢; exact hc
       | succ q=>simp at hc)
      exact this.mS)
   ·rename_i hii; obtain⟨l2,us2,m1,m2,m3⟩:=q6 i' x' hx'; have aFT:i'<es.length:=(List.getElem?_eq_some_iff.1 hx').1; exact⟨l2,us2,m1,m2.keep (Mem.dR I) λb hb=>⟨hkeep b λhbg=>hii (q7.2 i i' g qg aFT qt (by rw[<-hbg]; exact hb)),λ_=>rfl⟩,m3⟩
theorem ae0 {w:World} {B:Nat} {t1 ty e:TypeId} {i:TypeInfo} {z:Value} {sz qf:Nat} (hu:P.underlying t1=some (.slice e)) (hi:P.info? e=some i) (hz:i.zero=some z) (hsz:i.size=sz) (hby:i.bytes=qf) (hzc:z.cells.size=sz) (hpos:0<sz)
  {x:Value} {n:Nat} {us:List Value} (q2:w.ownsRow B e sz x n us) {bb off m cap:Nat} {xY:List Value} (adH:xY.length=m * sz) (hnews:∀ (j:Nat) v,xY[j]? = some v->w.cell? ((⟨bb,off,none⟩:Addr).add j)=some v) (hnone:∀u∈xY,u.oneCell'=true) (hm:0<m)
  (aei:n+m<=maxLen) (hb:(n+m) * qf<=140737488355328) (hB:B<=w.heap.size) :
  ∃v' w',(Builtin.append_ #[t1,t1] ty #[x,.slice (some ⟨bb,off,none⟩) m cap]).run P w = .ok v' w'/\w'.ownsRow B e sz v' (n+m) (us++xY)/\w.grownBy w' x.ownBlock /\
   (∀b,v'.ownBlock=some b->x.ownBlock=some b\/(w.heap.size<=b/\b<w'.heap.size))/\v'.oneCell'=true:=by
 obtain⟨v',w',hr,ho,hg,_⟩:=run_append_own (P:=P) w B t1 ty e i z sz qf hu hi hz hsz hby hzc hpos x n us q2 ⟨bb,off,none⟩ m cap xY adH hnews hnone aei hb hB
 refine⟨v',w',hr,ho,hg,?_,?_⟩
 ·rcases q2.2 with ⟨rfl,hn0⟩ | ⟨g,cp,cur,rfl,hbg,hgg,hnc,hcm,hcs,kN⟩
  ·obtain⟨cp,rest,hr2,_⟩:=oH (P:=P) (ty:=ty) hu hi hz hsz none ⟨bb,off,none⟩ m cap xY w adH hnews (by omega) (by rw[hby]; rw[hn0,Nat.zero_add] at hb; exact hb) (by simp only[maxLen] at aei; omega); rw[hr2] at hr; simp only[Result.ok.injEq] at hr; obtain⟨rfl,rfl⟩:=hr; intro b hb; simp only[Value.ownBlock,Option.some.injEq] at hb; subst hb; exact .inr ⟨Nat.le_refl _,by simp⟩
  ·by_cases hroom:n+m<=cp
   ·have hfit:n * i.size+xY.length<=cur.size:=by rw[adH,hcs,hsz,<-Nat.add_mul]; exact Nat.mul_le_mul_right _ hroom
    have hr2:=run_append_room (P:=P) w t1 ty e i hu hi g n cp cur hgg ⟨bb,off,none⟩ m cap xY (by rw[hsz]; exact adH) hnews hnone hroom hfit; rw[hr2] at hr; simp only[Result.ok.injEq] at hr; obtain⟨rfl,rfl⟩:=hr; intro b hb; exact .inl hb
   ·have holds:∀j u,us[j]? = some u->w.cell? ((⟨g,0,none⟩:Addr).add j)=some u:=q2.cells (g:=g) rfl; have hr2:=run_append_grow (P:=P) w t1 ty e i z hu hi hz ⟨g,0,none⟩ n cp us (by rw[hsz]; exact q2.1) holds ⟨bb,off,none⟩ m cap xY (by rw[hsz]; exact adH) hnews (by omega) (by simp only[maxLen] at aei; omega)
     (growslice_fits (by omega) (by rw[hby]; exact hb))
    rw[hr2] at hr; simp only[Result.ok.injEq] at hr; obtain⟨rfl,rfl⟩:=hr; intro b hb; simp only[Value.ownBlock,Option.some.injEq] at hb; subst hb; exact .inr ⟨Nat.le_refl _,by simp⟩
 ·rcases ho.2 with ⟨rfl,_⟩ | ⟨_,_,_,rfl,_⟩<;>rfl
theorem uB (k:Nat):∀ (es:List (List PV)) (cT kG:Nat->Value),(∀i,i<es.length->cT i=kG i)->eT k cT es=eT k kG es
 | [],_,_,_=>rfl
 | x :: r,cT,kG,h=>by simp only[eT]; rw[h 0 (by simp),uB k r _ _ λi hi=>h (i+1) (by simp; omega)]
theorem ae1 (k:Nat):∀ (es:List (List PV)) (cT:Nat->Value) (x:List PV),eT k cT (es++[x])=eT k cT es++[x.set k (.val (cT es.length))]
 | [],_,_=>rfl
 | y :: r,cT,x=>by simp only[List.cons_append,eT,ae1 k r,List.length_cons]
theorem awl {o:Oper} {W:Env->ay->Prop} {env:Env} {H:ay} (t1 t2:TypeId) (x y:Operand) (id d r v rv k:Nat) (e:TypeId) (sz qf:Nat) (e':TypeId) (sz':Nat) (es l:List (List PV)) (ps:List PV)
  (hop:o.op = .call ⟨.builtin .append,#[x,y],#[t1,t2]⟩) (ht:dg P t1 t2=some (e,sz,qf)) (hx:ev env x = .eC id v) (hy:ev env y = .zz d 1) (hH:H id=some (.deep v e sz k e' sz' es))
  (hd:H d=some (.box ((ps.map AV.p).set k (.row r rv)))) (hr:H r=some (.row rv e' sz' l)) (hps:ps.length=sz) (hne:id≠r) (hb:(es.length+1) * qf<=140737488355328)
  (hW:W (cA env o.dst (.eC id (v+1))) (bl (bl H r (.row (rv+1) e' sz' [])) id (.deep (v+1) e sz k e' sz' (es++[ps.set k (.aU l)])))):iL P o W env H:=by
 refine .inr (.inr (.inl ⟨_,_,hW,λC I L tm w σ hs hσ=>?_⟩)); have hxv:=hσ x; have hyv:=hσ y; rw[hx] at hxv; rw[hy] at hyv; obtain⟨rfl,hu,hpos,zT,i,z,hi,hz,hsz,hby,hzc⟩:=mL ht; have hs':∀w,(execOp σ o).run P w=((Builtin.append_ #[t1,t1] o.type #[σ x,σ y]).run P w).andThen λu w'=>.ok (.value u) w':=λw=>by unfold execOp; rw[hop]; simp[resolve,invoke,builtin,Result.andThen]
 obtain⟨bD,us,cT,q1,q2,q3,q4,q5,q6,q7⟩:=hs.chunk id _ hH; obtain⟨db,arr,de,d1,d2,d3,d4,d5,d6⟩:=hs.chunk d _ hd; obtain⟨rh,rus,c1,c2,c3,c4,c5,c6,c7⟩:=hs.chunk r _ hr; have aei:es.length+1<=maxLen:=by have:=Nat.le_mul_of_pos_right (es.length+1) zT; simp only[maxLen]; omega
 generalize hux:σ x=ux at *; generalize huy:σ y=uy at *; cases hxv with
 | eC _ _ _ v1 js _ _ p4 n1 hl hle hh hone =>
  rw[q1] at hl; simp only[Option.some.injEq,Loc.deep.injEq] at hl; obtain⟨e1,e2,e3,e4,e5,e6⟩:=hl; subst e1 e2 e3 e4 e5 e6; have hxe:=hh rfl; subst hxe; cases hyv with
  | zz _ b _ hl =>
   rw[d1] at hl; simp only[Option.some.injEq,Loc.box.injEq] at hl; subst hl; have hal:arr.toList.length=1 * sz:=by simp[d3,hps]
   have own:=q2.own; rw[eZ] at own; obtain⟨v',w',hrun,ho,hg,hblk,h1⟩:=ae0 (P:=P) (ty:=o.type) (cap:=1) hu hi hz hsz hby hzc hpos own (bb:=db) (off:=0) (m:=1) (xY:=arr.toList) hal (λj v hj=>by
    rw[Addr.add_mid,Nat.zero_add,fG d2]; simpa using hj) (λu hu=>by
    obtain⟨j,hj⟩:=List.mem_iff_getElem?.1 hu; exact d5 j u (by simpa using hj)) (by omega) aei hb hs.leB
   let kG:Nat->Value:=λj=>if j<es.length then cT j else rh
   have akE:∀j,j<es.length->kG j=cT j:=λj hj=>by simp only[kG]; rw[if_pos hj]
   have agX:kG es.length=rh:=by simp only[kG]; rw[if_neg (by omega)]
   have aCk:∀b,ux.ownBlock=some b->C.B<=b/\b<w.heap.size:=λb hb=>hs.fe id _ b q1 (.inl hb)
   have agY:∀b,rh.ownBlock=some b->b<w.heap.size/\ux.ownBlock≠some b/\∀i,i<es.length->(cT i).ownBlock≠some b:=λb hb=>⟨(hs.fe r _ b c1 hb).2,λh2=>hne (hs.apart id r _ _ b q1 c1 (.inl h2) hb),λi hi h2=>hne (hs.apart id r _ _ b q1 c1 (.inr ⟨i,hi,h2⟩) hb)⟩
   have ao5:∀i b,i<es.length->(cT i).ownBlock=some b->b<w.heap.size/\ux.ownBlock≠some b:=λi b hi hb=>⟨(hs.fe id _ b q1 (.inr ⟨i,hi,hb⟩)).2,q7.1 i b hi hb⟩
   let L':bt:=b6 (b6 L r (.row (rv+1) (.slice none 0 0) sz')) id (.deep (v+1) v' sz sz' kG (es.length+1)); have hLi:L' id=some (.deep (v+1) v' sz sz' kG (es.length+1)):=by simp[L',b6]
   have hLr:L' r=some (.row (rv+1) (.slice none 0 0) sz'):=by simp[L',b6,Ne.symm hne]
   have hLo:∀j,j≠id->j≠r->L' j=L j:=λj h1 h2=>by simp[L',b6,h1,h2]
   have hle':dx L L':=λj=>by
    by_cases e1:j=id
    ·subst e1; rw[q1]; exact⟨v+1,v',kG,es.length+1,hLi,by omega,λe=>by omega⟩
    ·by_cases e2:j=r
     ·subst e2; rw[c1]; exact⟨rv+1,.slice none 0 0,hLr,by omega,λe=>by omega⟩
     ·rw[hLo j e1 e2]; exact dx.refl L j
   refine⟨v',w',I,L',.inl (by rw[hs',hrun]; rfl),.eC _ _ _ (v+1) v' sz sz' kG (es.length+1) hLi (Nat.le_refl _) (λ_=>rfl) h1,λenv tm hs=>?_⟩; have ao6:∀b,b<w.heap.size->ux.ownBlock≠some b->w'.heap[b]? = w.heap[b]?:=λb hb hn=>hg.block b hb λe=>hn e.symm
   have hpsl:(ps.map AV.p).length=sz:=by rw[List.length_map]; exact hps
   refine hs.change (Below.grown (Below.refl _ _) hg hs.leB λb hb=>(aCk b hb).1) (λz=>z=id\/z=r) (λb hb hnb=>⟨ao6 b hb λh2=>hnb ⟨id,_,.inl rfl,q1,.inl h2⟩,λ_=>rfl⟩) hle' (Mem.dR I)
    (hs.mem.keep λb ⟨o,u,hu⟩=>ao6 b (hs.mem.lt hu) λh2=>by rw[q2.free b h2 o] at hu; cases hu) (λz hz=>⟨hLo z (λe=>hz (.inl e)) (λe=>hz (.inr e)),by
     have a1:z≠id:=λe=>hz (.inl e)
     have a2:z≠r:=λe=>hz (.inr e)
     simp[bl,a1,a2]⟩)
    (λz l hz hl=>?_) (λz c hz hc=>?_) (λz l b hz hl hb=>?_) (λz z' lz lz' b hz hz' hl hl' hb hb'=>?_)
   ·rcases hz with rfl | rfl
    ·exact⟨_,by simp[bl]; rfl⟩
    ·exact⟨_,by simp[bl,Ne.symm hne]; rfl⟩
   ·rcases hz with rfl | rfl
    ·have:Chunk.deep (v+1) e sz k e' sz' (es++[ps.set k (.aU l)])=c:=by simpa[bl] using hc
     subst this; have aCl:eT k kG (es++[ps.set k (.aU l)])=eT k cT es++[ps.set k (.val rh)]:=by rw[ae1,agX,uB k es kG cT akE]; simp[List.set_set]
     refine⟨v',us++arr.toList,kG,by rw[List.length_append]; exact hLi,?_,h1,q4,λy hy=>?_,λi' x' hx'=>?_,?_⟩
     ·rw[aCl]; refine⟨by rw[List.length_append,eZ]; exact ho,hpos,λy hy=>?_,?_,λu hu=>?_,λb hb o=>?_⟩
      ·rcases List.mem_append.1 hy with h | h
       ·exact q2.all y h
       ·simp only[List.mem_singleton] at h; subst h; rw[List.length_set]; exact hps
      ·rw[List.flatten_append]; refine aav (by rw[bC q2.all,eZ]; exact own.1) q2.val (λj u c hu hc=>?_); have pN:(ps.set k (.val rh))[j]? = some c:=by simpa using hc
       have hjl:j<sz:=by have:=(List.getElem?_eq_some_iff.1 pN).1; rw[List.length_set] at this; omega
       rw[List.getElem?_set] at pN; split at pN
       ·rename_i hkj; subst hkj; split at pN
        ·simp only[Option.some.injEq] at pN; subst pN; have h2:=d4 k u (.row r rv) (by simpa using hu) (by rw[List.getElem?_set,if_pos rfl,if_pos (by omega)]); cases h2 with
         | row _ _ _ v2 ati sz2 hl2 hle2 hh2 aCm=>rw[c1] at hl2; simp only[Option.some.injEq,Loc.row.injEq] at hl2; obtain⟨a1,a2,a3⟩:=hl2; subst a1 a2 a3; rw[<-hh2 rfl]; exact .val _ aCm
        ·cases pN
       ·rename_i hkj; have h2:=d4 j u (.p c) (by simpa using hu) (by rw[List.getElem?_set,if_neg hkj,List.getElem?_map,pN]; rfl); exact h2.mS
      ·rcases List.mem_append.1 hu with h | h
       ·exact q2.one u h
       ·obtain⟨j,hj⟩:=List.mem_iff_getElem?.1 h; exact d5 j u (by simpa using hj)
      ·rcases hblk b hb with h | h
       ·exact q2.free b h o
       ·cases hI:I b o with
        | none=>rfl
        | some u=>exact absurd (hs.mem.lt hI) (by omega)
     ·rcases List.mem_append.1 hy with h | h
      ·exact q5 y h
      ·simp only[List.mem_singleton] at h; subst h; rw[List.length_set]; exact hps
     ·rw[List.getElem?_append] at hx'; split at hx'
      ·rename_i hlt; obtain⟨l2,us2,m1,m2,m3⟩:=q6 i' x' hx'; rw[akE i' hlt]; exact⟨l2,us2,m1,m2.keep (Mem.dR I) λb hb=>⟨ao6 b (ao5 i' b hlt hb).1 (ao5 i' b hlt hb).2,λ_=>rfl⟩,m3⟩
      ·rename_i hlt; have hi0:i' - es.length=0:=by have:=(List.getElem?_eq_some_iff.1 hx').1; simp at this; omega
       rw[hi0] at hx'; simp only[List.getElem?_cons_zero,Option.some.injEq] at hx'; subst hx'; have hie:i'=es.length:=by omega
       subst hie; rw[agX]; have hone:rh.oneCell'=true:=by rcases c2.2 with ⟨rfl,_⟩ | ⟨_,_,_,rfl,_⟩<;>rfl
       exact⟨l,rus,by rw[List.getElem?_set,if_pos rfl,if_pos (by omega)],(⟨c2,c3,c4,c5,c6,c7⟩:qV w C.B I rh e' sz' l rus).keep (Mem.dR I) λb hb=>⟨ao6 b (agY b hb).1 (agY b hb).2.1,λ_=>rfl⟩,hone⟩
     ·rw[List.length_append]; refine⟨λi' b hi' hb hb'=>?_,λi' j' b hi' hj' hb hb'=>?_⟩
      ·have yC:i'<es.length\/i'=es.length:=by simp at hi'; omega
       rcases yC with yC | rfl
       ·rw[akE i' yC] at hb; rcases hblk b hb' with h | h
        ·exact (ao5 i' b yC hb).2 h
        ·have:=(ao5 i' b yC hb).1; omega
       ·rw[agX] at hb; rcases hblk b hb' with h | h
        ·exact (agY b hb).2.1 h
        ·have:=(agY b hb).1; omega
      ·have yC:i'<es.length\/i'=es.length:=by simp at hi'; omega
       have ar9:j'<es.length\/j'=es.length:=by simp at hj'; omega
       rcases yC with yC | rfl<;>rcases ar9 with ar9 | rfl
       ·rw[akE i' yC] at hb; rw[akE j' ar9] at hb'; exact q7.2 i' j' b yC ar9 hb hb'
       ·rw[akE i' yC] at hb; rw[agX] at hb'; exact absurd hb ((agY b hb').2.2 i' yC)
       ·rw[agX] at hb; rw[akE j' ar9] at hb'; exact absurd hb' ((agY b hb).2.2 j' ar9)
       ·rfl
    ·have:Chunk.row (rv+1) e' sz' []=c:=by simpa[bl,Ne.symm hne] using hc
     subst this; exact⟨.slice none 0 0,[],hLr,⟨by simp,.inl ⟨rfl,rfl⟩⟩,c3,by simp,by simp,by simp,λb hb=>by cases hb⟩
   ·rcases hz with rfl | rfl
    ·rw[hLi] at hl; simp only[Option.some.injEq] at hl; subst hl; rcases hb with hb | ⟨i',hi',hb⟩
     ·exact (hblk b hb).imp (λh=>⟨z,_,.inl rfl,q1,.inl h⟩) id
     ·have yC:i'<es.length\/i'=es.length:=by omega
      rcases yC with yC | rfl
      ·rw[akE i' yC] at hb; exact .inl ⟨z,_,.inl rfl,q1,.inr ⟨i',yC,hb⟩⟩
      ·rw[agX] at hb; exact .inl ⟨r,_,.inr rfl,c1,hb⟩
    ·rw[hLr] at hl; simp only[Option.some.injEq] at hl; subst hl; cases hb
   ·have hno:∀lz,L' r=some lz->¬ lz.has b:=λlz h2 h3=>by rw[hLr] at h2; simp only[Option.some.injEq] at h2; subst h2; cases h3
    rcases hz with rfl | rfl<;>rcases hz' with rfl | rfl
    ·rfl
    ·exact (hno _ hl' hb').elim
    ·exact (hno _ hl hb).elim
    ·rfl
theorem anD {o:Oper} {W:Env->ay->Prop} {env:Env} {H:ay} {kf:FuncId} {en:List AV} {ps:List PV} {id v k:Nat} {e:TypeId} {sz:Nat} {e':TypeId} {sz':Nat} {es es':List (List PV)} (f:Nat->Nat)
  (c:∀cT:Nat->Value,(∀i,i<es.length->(cT i).oneCell'=true)->j5 P kf v e sz (eT k cT es) ps λa c=>a = .row 1000000 (v+1)/\c=some (.row (v+1) e sz (eT k (λi=>cT (f i)) es')))
  (hf:∀i,i<es'.length->f i<es.length/\es'[i]? = es[f i]?) (hinj:∀i j,i<es'.length->j<es'.length->f i=f j->i=j)
  (ha:di o (ev env)=some (kf,.eC id v :: en)) (hH:H id=some (.deep v e sz k e' sz' es)) (he:dS (fZ (afN H id)) en=some (ps,false))
  (hW:W (cA env o.dst (.eC id (v+1))) (bl H id (.deep (v+1) e sz k e' sz' es'))):iL P o W env H:=.inr (.inr (.inr λC I L tm w σ hs hσ=>by
 obtain⟨bD,us,cT,q1,q2,q3,q4,q5,q6,q7⟩:=hs.chunk id _ hH; have hone:∀i,i<es.length->(cT i).oneCell'=true:=λi hi=>by obtain⟨l,us',_,_,m3⟩:=q6 i _ (List.getElem?_eq_getElem hi); exact m3
 have hc:=c cT hone; obtain⟨vs0,hr,hu⟩:=pH ha hc.1 hσ w; refine⟨kf,_,hr,?_⟩; cases vs0 with
 | nil=>have:=hu.1; simp at this
 | cons u0 vs =>
  have hu0:=hu.2 0 u0 _ rfl rfl; have aFU:u0=bD:=by
   cases hu0 with
   | eC _ _ _ v1 js _ _ p4 n1 hl hle hh h1=>rw[q1] at hl; simp only[Option.some.injEq,Loc.deep.injEq] at hl; obtain⟨_,e2,_⟩:=hl; subst e2; exact hh (by assumption)
  subst aFU; have z6:nZ I L vs en:=⟨by simpa using hu.1,λj u c hj hc=>hu.2 (j+1) u c hj hc⟩; obtain⟨k1,_,k3⟩:=jS (oh hs (aem H id) (lq hs.mem) ((qu L w).g _)) en ps false he vs z6.1 z6.2; refine (hc.2 C.B I w u0 us vs hs.leB hs.mem q2 q3 ⟨k1,k3 rfl⟩).mono λx w' ⟨u,a,H',I',L1,m1,⟨m2,m2'⟩,m3,m4⟩=>?_
  subst m2; obtain⟨eA,us',g1,g2,g3,g4,g5,g6,g7⟩:=m4.chunk 1000000 _ m2'; have awm:eA.oneCell'=true:=by rcases g2.2 with ⟨rfl,_⟩ | ⟨_,_,_,rfl,_⟩<;>rfl
  have hue:u=eA:=by
   cases m3 with
   | row _ _ _ v2 ati sz2 hl hle hh h1=>rw[g1] at hl; simp only[Option.some.injEq,Loc.row.injEq] at hl; obtain⟨e1,e2,_⟩:=hl; subst e2; exact hh e1.symm.symm
  subst hue; have hfr:∀b,b<w.heap.size->u0.ownBlock≠some b->w'.heap[b]? = w.heap[b]?/\∀o,I' b o=I b o:=λb hb hn=>⟨m4.frame b hb hn,λo=>m4.lp b hb hn o⟩
  have hblk:∀b,u.ownBlock=some b->u0.ownBlock=some b\/(w.heap.size<=b/\b<w'.heap.size):=λb hb=>by
   rcases m4.jc 1000000 _ b g1 hb with h | h
   ·exact .inr ⟨h,(m4.fe 1000000 _ b g1 hb).2⟩
   ·exact .inl h
  have hin:∀i b,i<es.length->(cT i).ownBlock=some b->b<w.heap.size/\u0.ownBlock≠some b:=λi b hi hb=>⟨(hs.fe id _ b q1 (.inr ⟨i,hi,hb⟩)).2,q7.1 i b hi hb⟩
  let kG:Nat->Value:=λi=>cT (f i)
  let L':bt:=b6 L id (.deep (v+1) u sz sz' kG es'.length); have hLi:L' id=some (.deep (v+1) u sz sz' kG es'.length):=by simp[L',b6]
  have hle':dx L L':=λj=>by
   by_cases e1:j=id
   ·subst e1; rw[q1]; exact⟨v+1,u,kG,es'.length,hLi,by omega,λe=>by omega⟩
   ·have:L' j=L j:=by simp[L',b6,e1]
    rw[this]; exact dx.refl L j
  refine⟨u,I',L',.eC id (v+1),_,m1,hW,.eC _ _ _ (v+1) u sz sz' kG es'.length hLi (Nat.le_refl _) (λ_=>rfl) awm,?_⟩; refine hs.change m4.below (λz=>z=id) (λb hb hnb=>hfr b hb λh2=>hnb ⟨id,_,rfl,q1,.inl h2⟩) hle' m4.ku m4.mem (λz hz=>⟨by simp[L',b6,hz],by simp[bl,hz]⟩) (λz l hz hl=>⟨_,by simp[bl,hz]; rfl⟩) (λz c hz hc=>?_) (λz l b hz hl hb=>?_) (λz z' _ _ _ hz hz' _ _ _ _=>by rw[hz,hz'])
  ·subst hz; have:Chunk.deep (v+1) e sz k e' sz' es'=c:=by simpa[bl] using hc
   subst this; refine⟨u,us',kG,hLi,⟨g2,g3,g4,g5,g6,g7⟩,awm,q4,λy hy=>?_,λi x hx=>?_,λi b hi hb=>?_,λi j b hi hj hb hb'=>?_⟩
   ·obtain⟨i,hi⟩:=List.mem_iff_getElem?.1 hy; rw[(hf i (List.getElem?_eq_some_iff.1 hi).1).2] at hi; exact q5 y (List.mem_of_getElem? hi)
   ·have hi:=(List.getElem?_eq_some_iff.1 hx).1; rw[(hf i hi).2] at hx; obtain⟨l,us2,r1,r2,r3⟩:=q6 (f i) x hx; exact⟨l,us2,r1,r2.keep m4.ku λb hb=>hfr b (hin (f i) b (hf i hi).1 hb).1 (hin (f i) b (hf i hi).1 hb).2,r3⟩
   ·intro hb'; have h2:=hin (f i) b (hf i hi).1 hb; rcases hblk b hb' with h | h
    ·exact h2.2 h
    ·omega
   ·exact hinj i j hi hj (q7.2 (f i) (f j) b (hf i hi).1 (hf j hj).1 hb hb')
  ·subst hz; rw[hLi] at hl; simp only[Option.some.injEq] at hl; subst hl; rcases hb with hb | ⟨i,hi,hb⟩
   ·exact (hblk b hb).imp (λh=>⟨z,_,rfl,q1,.inl h⟩) id
   ·exact .inl ⟨z,_,rfl,q1,.inr ⟨f i,(hf i hi).1,hb⟩⟩))
mutual
def kQ (id:Nat):AV->AV
 | .eC i v=>if i=id then .row i v else .eC i v
 | .j0 i v j o=>if i=id then .dead else .j0 i v j o
 | .j4 i v j=>if i=id then .dead else .j4 i v j
 | .mu i v j k o=>if i=id then .dead else .mu i v j k o
 | .row i v=>if i=id then .dead else .row i v
 | .iO i v j o=>if i=id then .dead else .iO i v j o
 | .ptr i o=>if i=id then .dead else .ptr i o
 | .zz i n=>if i=id then .dead else .zz i n
 | .gU i v o n m sz=>if i=id then .dead else .gU i v o n m sz
 | .agg cs=>.agg (mT id cs)
 | .dB cs=>.dB (mT id cs)
 | .gR f a b=>.gR f (mT id a) (mT id b)
 | x=>x
def mT (id:Nat):List AV->List AV
 | []=>[]
 | a :: r=>kQ id a :: mT id r
end
theorem qG {id:Nat} : ∀ {cs:List AV} {j:Nat} {c:AV},(mT id cs)[j]? = some c->∃d,cs[j]? = some d/\c=kQ id d
 | [],j,c,h=>by simp[mT] at h
 | a :: r,0,c,h=>by unfold mT at h; simp only[List.getElem?_cons_zero,Option.some.injEq] at h; exact⟨a,rfl,h.symm⟩
 | a :: r,j+1,c,h=>by unfold mT at h; exact qG (cs:=r) (by simpa using h)
theorem mM {id:Nat} : ∀cs:List AV,(mT id cs).length=cs.length
 | []=>rfl
 | a :: r=>by unfold mT; simp[mM r]
def agZ (id:Nat):Chunk->Chunk
 | .box cs=>.box (mT id cs)
 | .deep v e sz k e' sz' es=>.deep v e sz k e' sz' es
 | c=>c
def akF (id:Nat):Option Chunk->Option Chunk
 | some c=>some (agZ id c)
 | none=>none
def ao7 (id:Nat) (env:Env):Env:=λi=>kQ id (env i)
def ay8 (c:Option Chunk):Option Chunk:=match c with
 | some (.deep v e sz _ _ _ es)=>some (.row v e sz es)
 | c=>c
def aad (id:Nat) (H:ay):ay:=λi=>if i=id then ay8 (H i) else akF id (H i)
theorem dU.flat {J:Mem} {id v:Nat} {bD:Value} {sz sz':Nat} {cT:Nat->Value} {n:Nat} (hl:L id=some (.deep v bD sz sz' cT n)) (qZ:I.sub J) {u:Value} {a:AV} (h:dU I L u a):dU J (b6 L id (.row v bD sz)) u (kQ id a):=by
 have jQ:∀i,i≠id->b6 L id (.row v bD sz) i=L i:=λi hi=>by simp[b6,hi]
 induction h with
 | p u x h=>unfold kQ; exact .p u x (h.mono qZ)
 | row u i bg v1 js sz1 lV hle h h1 =>
  unfold kQ; split
  ·exact .dead _
  ·exact .row u i bg v1 js sz1 ((jQ i (by assumption)).trans lV) hle h h1
 | ptr i b off lV =>
  unfold kQ; split
  ·exact .dead _
  ·exact .ptr i b off ((jQ i (by assumption)).trans lV)
 | iO u i bg v1 j off js sz1 lV hle h h1 =>
  unfold kQ; split
  ·exact .dead _
  ·exact .iO u i bg v1 j off js sz1 ((jQ i (by assumption)).trans lV) hle h h1
 | zz i b n lV =>
  unfold kQ; split
  ·exact .dead _
  ·exact .zz i b n ((jQ i (by assumption)).trans lV)
 | gU a i bg v1 off n m c js sz1 lV hle hn hm hz h =>
  unfold kQ; split
  ·exact .dead _
  ·exact .gU a i bg v1 off n m c js sz1 ((jQ i (by assumption)).trans lV) hle hn hm hz h
 | agg us cs lV _ hone ih=>unfold kQ; refine .agg us _ (by rw[mM]; exact lV) (λj u c hu hc=>?_) hone; obtain⟨d,hd,rfl⟩:=qG hc; exact ih j u d hu hd
 | dB us cs lV _ ih=>unfold kQ; refine .dB us _ (by rw[mM]; exact lV) (λj u c hu hc=>?_); obtain⟨d,hd,rfl⟩:=qG hc; exact ih j u d hu hd
 | gR fn us vs fs cs lV hl2 _ _ ih ih' =>
  unfold kQ; refine .gR fn us vs _ _ (by rw[mM]; exact lV) (by rw[mM]; exact hl2) (λj u c hu hc=>?_) (λj u c hu hc=>?_)
  ·obtain⟨d,hd,rfl⟩:=qG hc; exact ih j u d hu hd
  ·obtain⟨d,hd,rfl⟩:=qG hc; exact ih' j u d hu hd
 | eC u i bg v1 js s1 s2 p4 n1 lV hle h h1 =>
  unfold kQ; split
  ·rename_i e; subst e; rw[hl] at lV; simp only[Option.some.injEq,Loc.deep.injEq] at lV; obtain⟨e1,e2,e3,_⟩:=lV; subst e1 e2 e3; exact .row u i bg v bD sz (by simp[b6]) hle h h1
  ·exact .eC u i bg v1 js s1 s2 p4 n1 ((jQ i (by assumption)).trans lV) hle h h1
 | j0 u i bg v1 j off js s1 s2 p4 n1 lV hle h h1 =>
  unfold kQ; split
  ·exact .dead _
  ·exact .j0 u i bg v1 j off js s1 s2 p4 n1 ((jQ i (by assumption)).trans lV) hle h h1
 | j4 u i bg v1 j js s1 s2 p4 n1 lV hle h h1 =>
  unfold kQ; split
  ·exact .dead _
  ·exact .j4 u i bg v1 j js s1 s2 p4 n1 ((jQ i (by assumption)).trans lV) hle h h1
 | mu u i bg v1 j m off js s1 s2 p4 n1 lV hle h h1 =>
  unfold kQ; split
  ·exact .dead _
  ·exact .mu u i bg v1 j m off js s1 s2 p4 n1 ((jQ i (by assumption)).trans lV) hle h h1
 | dead u=>unfold kQ; exact .dead u
theorem awn {w:World} {B:Nat} {bD:Value} {e e':TypeId} {sz k sz':Nat} {es:List (List PV)} {us:List Value} {cT:Nat->Value} {J:Mem} (h:qV w B I bD e sz (eT k cT es) us) (hall:∀x∈es,x.length=sz)
  (hin:ath w B I k e' sz' cT es) (qZ:I.sub J) (hJ:∀b i,i<es.length->(cT i).ownBlock=some b->∀o v,w.cell? ⟨b,o,none⟩=some v->J b o=some v) :
  ∀ (j:Nat) u c,us[j]? = some u->es.flatten[j]? = some c->VR J u c:=λj u c hu hc=>by
 have hfl:=bC hall; have hjl:j<es.length * sz:=by rw[<-hfl]; exact (List.getElem?_eq_some_iff.1 hc).1
 have hpos:=h.pos; have hi:j / sz<es.length:=(Nat.div_lt_iff_lt_mul hpos).2 hjl; have hmm:j % sz<sz:=Nat.mod_lt _ hpos; have hj:j=j / sz * sz+j % sz:=(Nat.div_add_mod' j sz).symm; generalize j / sz=i at *; generalize j % sz=m at *; subst hj; rw[gG hall i m hi hmm] at hc; have vS:=gG h.all i m (by rw[eZ]; exact hi) hmm; have hg:(eT k cT es).getD i []=(es.getD i []).set k (.val (cT i)):=by rw[List.getD_eq_getElem?_getD,sI]; simp[hi]
 rw[hg] at vS; by_cases hk:k=m
 ·subst hk; have hx:es[i]? = some (es.getD i []):=by simp[hi]
  obtain⟨l,us',q1,q2,q3⟩:=hin i _ hx; rw[q1] at hc; simp only[Option.some.injEq] at hc; subst hc; have hxl:(es.getD i []).length=sz:=hall _ (List.mem_of_getElem? hx); rw[List.getElem?_set,if_pos rfl,if_pos (by rw[hxl]; exact hmm)] at vS; have:=h.val _ u _ hu vS; cases this; exact q2.vrJ qZ λb hb=>hJ b i hi hb
 ·rw[List.getElem?_set,if_neg hk,hc] at vS; exact (h.val _ u c hu vS).mono qZ
open Classical in
noncomputable def Mem.inner (I:Mem) (w:World) (cT:Nat->Value) (n:Nat):Mem:=λb o=>if ∃i,i<n/\(cT i).ownBlock=some b then w.cell? ⟨b,o,none⟩ else I b o
theorem ag0 {env:Env} {H:ay} (id v:Nat) (e:TypeId) (sz k:Nat) (e':TypeId) (sz':Nat) (es:List (List PV)) (hid:id<1000000) (hH:H id=some (.deep v e sz k e' sz' es)):dP env H (ao7 id env) (aad id H):=λC I L tm w hs=>by
 obtain⟨bD,us,cT,q1,q2,q3,q4,q5,q6,q7⟩:=hs.chunk id _ hH; have hL0:C.L0 id=none:=by
  cases h:C.L0 id with
  | none=>rfl
  | some l=>have:=C.hL0 id l h; omega
 let J:Mem:=I.inner w cT es.length; have aAP:∀i b o,i<es.length->(cT i).ownBlock=some b->J b o=w.cell? ⟨b,o,none⟩:=λi b o hi hb=>by show I.inner w cT es.length b o=_; unfold Mem.inner; rw[if_pos ⟨i,hi,hb⟩]
 have adt:∀b o,(¬ ∃i,i<es.length/\(cT i).ownBlock=some b)->J b o=I b o:=λb o hn=>by show I.inner w cT es.length b o=_; unfold Mem.inner; rw[if_neg hn]
 have qZ:I.sub J:=λb o u hu=>by
  by_cases h:∃i,i<es.length/\(cT i).ownBlock=some b
  ·obtain⟨i,hi,hb⟩:=h; rw[aAP i b o hi hb]; exact hs.mem b o u hu
  ·rw[adt b o h]; exact hu
 have hJw:J.zy w:=λb o u hu=>by
  by_cases h:∃i,i<es.length/\(cT i).ownBlock=some b
  ·obtain⟨i,hi,hb⟩:=h; rw[aAP i b o hi hb] at hu; exact hu
  ·rw[adt b o h] at hu; exact hs.mem b o u hu
 have ais:∀i l b,i≠id->L i=some l->l.has b->¬ ∃j,j<es.length/\(cT j).ownBlock=some b:=λi l b hi hl hb ⟨j,hj,hjb⟩=>hi (hs.apart i id l _ b hl q1 hb (.inr ⟨j,hj,hjb⟩))
 refine⟨J,b6 L id (.row v bD sz),?_⟩; have jQ:∀i,i≠id->b6 L id (.row v bD sz) i=L i:=λi hi=>by simp[b6,hi]
 exact
 {below:=hs.below
  mem:=hJw
  ku:=Mem.lg hs.ku qZ
  lp:=λb hb hf o=>by
   rw[adt b o λ⟨i,hi,hib⟩=>?_]
   ·exact hs.lp b hb hf o
   ·rcases hs.jc id _ b q1 (.inr ⟨i,hi,hib⟩) with h | h
    ·omega
    ·exact hf h
  frame:=hs.frame
  loc:=λi=>by
   by_cases hi:i=id
   ·subst hi; rw[hL0]; trivial
   ·rw[jQ i hi]; exact hs.loc i
  jc:=λi l b hl hb=>by
   by_cases hi:i=id
   ·subst hi; have:Loc.row v bD sz=l:=by simpa[b6] using hl
    subst this; exact hs.jc i _ b q1 (.inl hb)
   ·rw[jQ i hi] at hl; exact hs.jc i l b hl hb
  size:=hs.size
  env:=λt=>(hs.env t).flat q1 qZ
  dom:=λi l hl=>by
   by_cases hi:i=id
   ·subst hi; exact⟨.row v e sz es,by unfold aad; rw[if_pos rfl,hH]; rfl⟩
   ·rw[jQ i hi] at hl; obtain⟨c,hc⟩:=hs.dom i l hl; exact⟨agZ id c,by unfold aad; rw[if_neg hi,hc]; rfl⟩
  chunk:=λi c hc=>by
   by_cases hi:i=id
   ·subst hi; unfold aad at hc; rw[if_pos rfl,hH] at hc; simp only[ay8,Option.some.injEq] at hc; subst hc; refine⟨bD,us,by simp[b6],?_,q2.pos,q5,λj u c hu hc=>?_,q2.one,λb hb o=>?_⟩
    ·have:=q2.own; rw[eZ] at this; exact this
    ·exact awn q2 q5 q6 qZ (λb j hj hb o u hu=>by rw[aAP j b o hj hb]; exact hu) j u c hu hc
    ·rw[adt b o λ⟨j,hj,hjb⟩=>q7.1 j b hj hjb hb]; exact q2.free b hb o
   ·unfold aad at hc; rw[if_neg hi] at hc; cases hci:H i with
    | none=>rw[hci] at hc; cases hc
    | some c0 =>
     rw[hci] at hc; simp only[akF,Option.some.injEq] at hc; subst hc; have h0:=hs.chunk i c0 hci; cases c0 with
     | box cs =>
      obtain⟨b,arr,e0,g1,g2,g3,g4,g5,g6⟩:=h0; refine⟨b,arr,e0,(jQ i hi).trans g1,g2,by rw[mM]; exact g3,λj u c hu hc=>?_,g5,λo=>?_⟩
      ·obtain⟨d,hd,rfl⟩:=qG hc; exact (g4 j u d hu hd).flat q1 qZ
      ·rw[adt b o (ais i _ b hi g1 rfl)]; exact g6 o
     | row v1 e1 s1 es1=>obtain⟨h1,us1,g1,g2,g3,g4,g5,g6,g7⟩:=h0; exact⟨h1,us1,(jQ i hi).trans g1,g2,g3,g4,λj u c hu hc=>(g5 j u c hu hc).mono qZ,g6,λb hb o=>by rw[adt b o (ais i _ b hi g1 hb)]; exact g7 b hb o⟩
     | shut v1 es1=>obtain⟨h1,s1,g1,g2,g3⟩:=h0; exact⟨h1,s1,(jQ i hi).trans g1,g2.mono qZ,g3⟩
     | tail v1 e1 s1 es1=>obtain⟨g,o0,cap,arr,g1,g2,g3,g4,g5,g6,g7,g8⟩:=h0; exact⟨g,o0,cap,arr,(jQ i hi).trans g1,g2,g3,g4,g5,g6,g7.mono qZ,λj a b=>by rw[adt g j (ais i _ g hi g1 rfl)]; exact g8 j a b⟩
     | deep v1 e1 s1 k1 e2 s2 es1 =>
      obtain⟨h1,us1,p4,g1,g2,g3,g4,g5,g6,g7⟩:=h0; have hk:∀b,(Loc.deep v1 h1 s1 s2 p4 es1.length).has b->w.heap[b]? = w.heap[b]?/\∀o,J b o=I b o:=λb hb=>⟨rfl,λo=>adt b o (ais i _ b hi g1 hb)⟩
      refine⟨h1,us1,p4,(jQ i hi).trans g1,g2.keep qZ λb hb=>hk b (.inl hb),g3,g4,g5,λj x hx=>?_,g7⟩; obtain⟨l,us2,m1,m2,m3⟩:=g6 j x hx; exact⟨l,us2,m1,m2.keep qZ λb hb=>hk b (.inr ⟨j,(List.getElem?_eq_some_iff.1 hx).1,hb⟩),m3⟩
  fe:=λi l b hl hb=>by
   by_cases hi:i=id
   ·subst hi; have:Loc.row v bD sz=l:=by simpa[b6] using hl
    subst this; exact hs.fe i _ b q1 (.inl hb)
   ·rw[jQ i hi] at hl; exact hs.fe i l b hl hb
  apart:=λi j li lj b hi hj qt tS=>by
   by_cases ei:i=id<;>by_cases ej:j=id
   ·rw[ei,ej]
   ·subst ei; have:Loc.row v bD sz=li:=by simpa[b6] using hi
    subst this; rw[jQ j ej] at hj; exact hs.apart i j _ lj b q1 hj (.inl qt) tS
   ·subst ej; have:Loc.row v bD sz=lj:=by simpa[b6] using hj
    subst this; rw[jQ i ei] at hi; exact hs.apart i j li _ b hi q1 qt (.inl tS)
   ·rw[jQ i ei] at hi; rw[jQ j ej] at hj; exact hs.apart i j li lj b hi hj qt tS }
end Go.cE
namespace Go.cE
open Go.RowKit
variable {P:Program} {I:Mem} {L:bt}
theorem dU.awo {u:Value} {id v:Nat} {bD:Value} {sz:Nat} (h:dU I L u (.row id v)) (hL:L id=some (.row v bD sz)):u=bD:=by
 cases h with
 | row _ _ _ v1 js sz1 lV hle hh hone=>rw[hL] at lV; simp only[Option.some.injEq,Loc.row.injEq] at lV; obtain⟨r1,r2,r3⟩:=lV; subst r1 r2 r3; exact hh rfl
section
variable {ops:Array Oper} {Q:Exit->Act->World->Prop} {C:Ctx} {env:Env} {H:ay} {tm:Array Value} {w:World} {fuel:Nat} {listed:Array Bool}
end
end Go.cE
namespace Go.cE
open Go.RowKit
variable {P:Program} {I:Mem} {L:bt}
theorem akG {α:Type} {sz:Nat} {es ns:List (List α)} (h:∀x∈es,x.length=sz) (hn:∀x∈ns,x.length=sz) (o:Nat) (ho:o+ns.length<=es.length):(splice es o ns).flatten=splice es.flatten (o * sz) ns.flatten:=by
 have h1:∀n,n<=es.length->(es.take n).flatten=es.flatten.take (n * sz)/\(es.drop n).flatten=es.flatten.drop (n * sz):=λn hn'=>by
  have e1:es.flatten=(es.take n).flatten++(es.drop n).flatten:=by rw[<-List.flatten_append,List.take_append_drop]
  have e2:(es.take n).flatten.length=n * sz:=by rw[bC (sz:=sz) λx hx=>h x (List.mem_of_mem_take hx),List.length_take,Nat.min_eq_left hn']
  rw[e1,<-e2,List.take_left,List.drop_left]; exact⟨rfl,rfl⟩
 unfold splice; rw[List.flatten_append,List.flatten_append,(h1 o (by omega)).1,(h1 _ ho).2,bC hn,Nat.add_mul]
theorem awp {C:Ctx} {env:Env} {H:ay} {tm:Array Value} {w:World} (hs:gE C env H I L tm w) {id v:Nat} {e:TypeId} {sz:Nat} {es ns:List (List PV)} (hH:H id=some (.row v e sz es)) {g n cap:Nat} (hL:L id=some (.row v (.slice (some ⟨g,0,none⟩) n cap) sz))
  {o:Nat} (ho:o+ns.length<=es.length) (hns:∀x∈ns,x.length=sz) {cs:List Value} (hcl:cs.length=ns.length * sz) (h1:∀v∈cs,v.oneCell'=true) (hv:∀ (j:Nat) u c,cs[j]? = some u->ns.flatten[j]? = some c->VR I u c) :
  ∃cur,w.heap[g]? = some (.cells cur e (0,0))/\(∀j,j<es.length * sz->(cur[j]?).isSome=true)/\o * sz+cs.length<=cur.size/\Fr C I L H w I L (bl H id (.row v e sz (splice es o ns))) (w.setRow g (splice cur.toList (o * sz) cs).toArray):=by
 obtain⟨bD,us,q1,q2,q3,q4,q5,q6,q7⟩:=hs.chunk id _ hH; rw[hL] at q1; simp only[Option.some.injEq,Loc.row.injEq,true_and,and_true] at q1; subst q1; rcases q2.2 with ⟨alN,_⟩ | ⟨g',cp,cur,heq,hbg,hgg,hnc,hcm,hcz,kN⟩
 ·cases alN
 simp only[Value.slice.injEq,Option.some.injEq,Addr.mk.injEq] at heq; obtain⟨⟨e3,_⟩,e4,e5⟩:=heq; subst e3 e4 e5; have hmul:(o+ns.length) * sz<=es.length * sz:=Nat.mul_le_mul_right _ ho; have aG8:es.length * sz<=cap * sz:=Nat.mul_le_mul_right _ hnc; rw[Nat.add_mul] at hmul; refine⟨cur,hgg,λj hj=>by rw[Array.getElem?_eq_getElem (by omega)]; rfl,by omega,λenv tm hs=>?_⟩; have hcu:us.length=es.length * sz:=q2.1; have yY:(splice es o ns).length=es.length:=dQ ho; have e0:b6 L id (.row v (.slice (some ⟨g,0,none⟩) es.length cap) sz)=L:=by
  funext i; unfold b6; split
  ·rename_i h; rw[h,hL]
  ·rfl
 have key:=hs.turn (w':=w.setRow g (splice cur.toList (o * sz) cs).toArray) (l':=.row v (.slice (some ⟨g,0,none⟩) es.length cap) sz) (qR _ (hs.fe id _ g hL rfl).1) hL (λk hk hne=>setRow_other w g k _ (λe=>hne (by rw[e]; rfl))) (dx.y3 hL) (λk hk=>q7 k hk) (.row v e sz (splice es o ns)) (by
  refine⟨.slice (some ⟨g,0,none⟩) es.length cap,splice us (o * sz) cs,by simp[b6],⟨?_,.inr ⟨g,cap,(splice cur.toList (o * sz) cs).toArray,by rw[yY],hbg,setRow_heap w g cur _ e _ hgg,by rw[yY]; exact hnc,hcm,?_,?_⟩⟩,q3,?_,?_,vV q6 h1,q7⟩
  ·rw[yY,dQ (by omega)]; exact hcu
  ·simp only[List.size_toArray]; rw[dQ (by simp; omega)]; simp; omega
  ·rw[yY]; show (splice cur.toList (o * sz) cs).take (es.length * sz)=splice us (o * sz) cs; rw[x6 (by omega) (by simp; omega),kN]
  ·intro z hz; rcases List.mem_append.1 hz with h | h
   ·rcases List.mem_append.1 h with h | h
    ·exact q4 z (List.mem_of_mem_take h)
    ·exact hns z h
   ·exact q4 z (List.mem_of_mem_drop h)
  ·rw[akG q4 hns o ho]; exact aaw (by rw[bC q4]; exact hcu) (by rw[bC hns]; exact hcl) q5 hv) (λk hk=>.inl hk)
 rw[e0] at key; exact key
theorem ao8 {C:Ctx} {env:Env} {H:ay} {tm:Array Value} {w:World} (hs:gE C env H I L tm w) {id v:Nat} {e:TypeId} {sz:Nat} {es:List (List PV)} (hH:H id=some (.row v e sz es)) (h0:0<es.length) :
  ∃g cap,L id=some (.row v (.slice (some ⟨g,0,none⟩) es.length cap) sz)/\es.length<=cap/\∀ {u:Value} {off n m sz':Nat},dU I L u (.gU id v off n m sz')->sz'=sz/\∃a,u = .slice a n (cap - off)/\n<=m/\m<=cap - off/\(a=none->cap - off=0)/\(off<cap\/off=0->a=some ⟨g,off * sz,none⟩):=by
 obtain⟨bD,us,q1,q2,q3,q4,q5,q6,q7⟩:=hs.chunk id _ hH; rcases q2.2 with ⟨_,hn⟩ | ⟨g,cp,cur,heq,hbg,hgg,hnc,hcm,hcz,kN⟩
 ·omega
 subst heq; refine⟨g,cp,q1,hnc,λ{u off n m sz'} hu=>?_⟩; cases hu with
 | gU a _ _ v1 _ _ _ c js sz1 lV hle hn hm hz hh=>rw[q1] at lV; simp only[Option.some.injEq,Loc.row.injEq] at lV; obtain⟨r1,r2,r3⟩:=lV; subst r1 r2 r3; obtain⟨ao1,m1,aEC,e1,rfl,ha⟩:=hh rfl; simp only[Value.slice.injEq] at e1; obtain⟨rfl,rfl,rfl⟩:=e1; refine⟨rfl,a,rfl,hn,hm,hz,λh=>?_⟩; rw[ha h]; simp[Addr.add_mid]
theorem akH {o:Oper} {W:Env->ay->Prop} {env:Env} {H:ay} (t1 t2:TypeId) (x y:Operand) (id v n m off n' m':Nat) (e:TypeId) (sz qf:Nat) (es:List (List PV)) (hop:o.op = .call ⟨.builtin .append,#[x,y],#[t1,t2]⟩) (ht:dg P t1 t2=some (e,sz,qf))
  (hx:ev env x = .gU id v 0 n m sz) (hy:ev env y = .gU id v off n' m' sz) (hH:H id=some (.row v e sz es)) (h0:0<es.length) (hn:n+n'<=m) (hm:m<=es.length) (hoff:off+n'<=es.length)
  (hW:W (cA env o.dst (.gU id v 0 (n+n') m sz)) (bl H id (.row v e sz (splice es n ((es.drop off).take n'))))):iL P o W env H:=by
 refine .inr (.inr (.inl ⟨_,_,hW,λC I L tm w σ hs hσ=>?_⟩)); have hxv:=hσ x; have hyv:=hσ y; rw[hx] at hxv; rw[hy] at hyv; obtain⟨rfl,hu,hpos,zT,i,z,hi,hz,hsz,hby,hzc⟩:=mL ht; obtain⟨g,cap,hL,hnc,hall⟩:=ao8 hs hH h0; obtain⟨_,a,e1,a1,a2,a3,a4⟩:=hall hxv; obtain⟨_,b,e2,b1,b2,b3,b4⟩:=hall hyv; have hae:=a4 (.inr rfl); subst hae; rw[Nat.zero_mul] at e1; rw[Nat.sub_zero] at e1 a2; obtain⟨bD,us,q1,q2,q3,q4,q5,q6,q7⟩:=hs.chunk id _ hH; rw[hL] at q1; simp only[Option.some.injEq,Loc.row.injEq,true_and,and_true] at q1; subst q1; have hus:us.length=es.length * sz:=q2.1; have hcell:=q2.cells (g:=g) rfl; have hnl:((es.drop off).take n').length=n':=by rw[List.length_take,List.length_drop]; omega
 have hns:∀x∈(es.drop off).take n',x.length=sz:=λx hx=>q4 x (List.mem_of_mem_drop (List.mem_of_mem_take hx))
 have hmul:(off+n') * sz<=es.length * sz:=Nat.mul_le_mul_right _ hoff; rw[Nat.add_mul] at hmul; have ay9:((us.drop (off * sz)).take (n' * sz)).length=n' * sz:=by rw[List.length_take,List.length_drop]; omega
 have hfl:((es.drop off).take n').flatten=(es.flatten.drop (off * sz)).take (n' * sz):=by
  have f1:es.flatten=(es.take off).flatten++(es.drop off).flatten:=by rw[<-List.flatten_append,List.take_append_drop]
  have f2:(es.take off).flatten.length=off * sz:=by rw[bC (sz:=sz) λx hx=>q4 x (List.mem_of_mem_take hx),List.length_take,Nat.min_eq_left (by omega)]
  have f3:(es.drop off).flatten=((es.drop off).take n').flatten++((es.drop off).drop n').flatten:=by rw[<-List.flatten_append,List.take_append_drop]
  have f4:((es.drop off).take n').flatten.length=n' * sz:=by rw[bC hns,hnl]
  rw[f1,<-f2,List.drop_left,f3,<-f4,List.take_left]
 have hone:∀u∈(us.drop (off * sz)).take (n' * sz),u.oneCell'=true:=λu hu=>q6 u (List.mem_of_mem_drop (List.mem_of_mem_take hu))
 obtain⟨cur,c1,c2,c3,c4⟩:=awp hs hH hL (o:=n) (ns:=(es.drop off).take n') (by rw[hnl]; omega) hns (cs:=(us.drop (off * sz)).take (n' * sz)) (by rw[ay9,hnl]) hone (λj u c hu hc=>by
  rw[hfl] at hc; rw[List.getElem?_take] at hu hc; split at hu
  ·rename_i hj; rw[if_pos hj,List.getElem?_drop] at hc; rw[List.getElem?_drop] at hu; exact q5 _ u c hu hc
  ·cases hu)
 have hnews:n'=0\/∃bb,b=some bb/\∀ (j:Nat) u,((us.drop (off * sz)).take (n' * sz))[j]? = some u->w.cell? (bb.add j)=some u:=by
  rcases Nat.eq_zero_or_pos n' with h | h
  ·exact .inl h
  ·refine .inr ⟨_,b4 (.inl (by omega)),λj u hu=>?_⟩; rw[List.getElem?_take] at hu; split at hu
   ·rw[List.getElem?_drop] at hu; have:=hcell _ u hu; rw[Addr.add_mid,Nat.zero_add] at this; rw[Addr.add_mid]; exact this
   ·cases hu
 have hrun:(execOp σ o).run P w = .ok (.value (.slice (some ⟨g,0,none⟩) (n+n') cap)) (w.setRow g (splice cur.toList (n * sz) ((us.drop (off * sz)).take (n' * sz))).toArray):=by
  unfold execOp; rw[hop]; have hst:=run_storeCells_at (P:=P) g (n * sz) e ((us.drop (off * sz)).take (n' * sz)) 0 cur w c1 (by omega) hone; simp only[Nat.add_zero] at hst; have hfc:(Builtin.firstCells sz n' (.slice b n' (cap - off))).run P w = .ok ((us.drop (off * sz)).take (n' * sz)).toArray w:=by
   rcases hnews with h | ⟨bb,rfl,hb⟩
   ·subst h; cases b with
    | none=>simp[Builtin.firstCells]
    | some bb=>simpa using run_firstCells_some (P:=P) w sz 0 bb 0 (cap - off) [] (by simp) (λj u hu=>by simp at hu)
   ·exact run_firstCells_some (P:=P) w sz n' bb n' (cap - off) _ ay9 hb
  have hroom:n+n'<=cap:=by omega
  simp[resolve,invoke,builtin,Result.andThen,e1,e2,Builtin.append_,run_underlying hu,sizeOf,typeInfo,hi,hsz,Builtin.lenOf,hroom,hfc,Addr.add_mid,hst,splice]
 exact⟨_,_,I,L,.inl hrun,.gU _ _ _ v _ _ _ cap _ _ hL (Nat.le_refl _) (by omega) (by omega) (λh=>by cases h) (λ_=>⟨_,_,_,rfl,rfl,λ_=>by simp[Addr.add_mid]⟩),c4⟩
theorem qH {o:Oper} {W:Env->ay->Prop} {env:Env} {H:ay} (t:TypeId) (x:Operand) (id v off n m:Nat) (e:TypeId) (sz:Nat) (es:List (List PV)) (zs:List Value) (hop:o.op = .call ⟨.builtin .clear,#[x],#[t]⟩) (ht:cH P t=some e) (hz:cI P e=some zs) (hzl:zs.length=sz) (hpos:0<sz) (hzo:zs.all Value.oneCell'=true)
  (hx:ev env x = .gU id v off n m sz) (hH:H id=some (.row v e sz es)) (h0:0<es.length) (hn:off+n<=es.length)
  (hW:W (cA env o.dst (.dB [])) (bl H id (.row v e sz (splice es off (List.replicate n (zs.map PV.val)))))):iL P o W env H:=by
 refine .inr (.inr (.inl ⟨_,_,hW,λC I L tm w σ hs hσ=>?_⟩)); have hxv:=hσ x; rw[hx] at hxv; obtain⟨g,cap,hL,hnc,hall⟩:=ao8 hs hH h0; obtain⟨_,a,e1,a1,a2,a3,a4⟩:=hall hxv; have hu:=eU ht; obtain⟨z,hzr,hzc⟩:=vk hz w; have ay9:(List.replicate n zs).flatten.length=n * sz:=by rw[bC (sz:=sz) λx hx=>by rw[List.eq_of_mem_replicate hx]; exact hzl,List.length_replicate]
 have hone:∀u∈(List.replicate n zs).flatten,u.oneCell'=true:=λu hu=>by obtain⟨x,hx,hux⟩:=List.mem_flatten.1 hu; rw[List.eq_of_mem_replicate hx] at hux; exact List.all_eq_true.1 hzo u hux
 have aoJ:(List.replicate n (zs.map PV.val)).flatten=(List.replicate n zs).flatten.map PV.val:=by simp[List.map_flatten]
 obtain⟨cur,c1,c2,c3,c4⟩:=awp hs hH hL (o:=off) (ns:=List.replicate n (zs.map PV.val)) (by rw[List.length_replicate]; exact hn) (λx hx=>by rw[List.eq_of_mem_replicate hx,List.length_map]; exact hzl) (cs:=(List.replicate n zs).flatten) (by rw[ay9,List.length_replicate]) hone (λj u c hu hc=>by
  rw[aoJ,List.getElem?_map,hu] at hc; simp at hc; subst hc; exact .val u (hone u (List.mem_of_getElem? hu)))
 rcases Nat.eq_zero_or_pos n with h | h
 ·subst h; have hsp:splice es off (List.replicate 0 (zs.map PV.val))=es:=by simp[splice]
  have hrun:(execOp σ o).run P w = .ok (.value (.tuple #[])) w:=by unfold execOp; rw[hop]; cases a<;>simp[resolve,invoke,builtin,Result.andThen,e1,Builtin.clear_,run_underlying hu]
  refine⟨_,_,I,L,.inl hrun,.dB _ _ rfl (λi u c hu hc=>by simp at hc),λenv tm hs=>?_⟩; rw[hsp]; have:bl H id (.row v e sz es)=H:=by
   funext i; unfold bl; split
   ·rename_i h; rw[h,hH]
   ·rfl
  rw[this]; exact hs
 ·have hae:=a4 (.inl (by omega)); subst hae; have hrun:(execOp σ o).run P w = .ok (.value (.tuple #[])) (w.setRow g (splice cur.toList (off * sz) (List.replicate n zs).flatten).toArray):=by unfold execOp; rw[hop]; have hst:=run_storeCells_at (P:=P) g (off * sz) e (List.replicate n zs).flatten 0 cur w c1 (by omega) hone; simp only[Nat.add_zero] at hst; have abn:Builtin.zeroCells zs.toArray n=(List.replicate n zs).flatten.toArray:=yZ zs n (by omega); obtain⟨k,rfl⟩:∃k,n=k+1:=⟨n - 1,by omega⟩; simp only[resolve,invoke,builtin,Result.andThen,Builtin.clear_,Sem.run_bind]; simp[Result.andThen,e1,run_underlying hu,hzr,hzc,abn,hst,splice]
  exact⟨_,_,I,L,.inl hrun,.dB _ _ rfl (λi u c hu hc=>by simp at hc),c4⟩
theorem akI {C:Ctx} {E:Env} {H:ay} {tm:Array Value} {w:World} (hs:gE C E H I L tm w) {id v:Nat} {e:TypeId} {sz:Nat} {es:List (List PV)} {u:Value} (hv:dU I L u (.row id v)) (hH:H id=some (.row v e sz es)):dU I L u (.gU id v 0 es.length es.length sz):=by
 obtain⟨bD,us,q1,q2,q3,q4,q5,q6,q7⟩:=hs.chunk id _ hH; rw[hv.awo q1]; rcases q2.2 with ⟨e1,hn⟩ | ⟨g,cap,cur,e1,_,_,hnc,_⟩
 ·subst e1; rw[hn]; exact .gU _ _ _ v _ _ _ 0 _ _ q1 (Nat.le_refl _) (by omega) (by omega) (λ_=>rfl) (λ_=>⟨none,0,0,rfl,rfl,λ_=>rfl⟩)
 ·subst e1; exact .gU _ _ _ v _ _ _ cap _ _ q1 (Nat.le_refl _) (by omega) hnc (λh=>by cases h) (λ_=>⟨_,_,cap,rfl,rfl,λ_=>by simp[Addr.add_mid]⟩)
theorem mO {E:Env} {H:ay} (t id v:Nat) (e:TypeId) (sz:Nat) (es:List (List PV)) (ht:E t = .row id v) (hH:H id=some (.row v e sz es)):dP E H (ct E t (.gU id v 0 es.length es.length sz)) H:=λC I L tm w hs=>by
 refine⟨I,L,{ hs with env:=λi=>?_ }⟩; unfold ct; split
 ·rename_i hi; rw[hi]; exact akI hs (ht ▸ hs.env t) hH
 ·exact hs.env i
theorem awq {C:Ctx} {E:Env} {H:ay} {tm:Array Value} {w:World} (hs:gE C E H I L tm w) {id v n m:Nat} {e:TypeId} {sz:Nat} {es:List (List PV)} {ux:Value} (hxv:dU I L ux (.gU id v 0 n m sz)) (hH:H id=some (.row v e sz es)) (hn:n<=es.length) :
  ∃L',dU I L' ux (.row id (v+1))/\gE C E (bl H id (.row (v+1) e sz (es.take n))) I L' tm w:=by
 obtain⟨bD,us,q1,q2,q3,q4,q5,q6,q7⟩:=hs.chunk id _ hH; cases hxv with
 | gU a _ _ v1 _ _ _ c js sz1 lV hle hnm hm hz hh =>
  rw[q1] at lV; simp only[Option.some.injEq,Loc.row.injEq,and_true] at lV; obtain⟨r1,r2⟩:=lV; subst r1; subst r2; obtain⟨ao,k,cap,e1,rfl,ha⟩:=hh rfl; have ha':a=ao:=by
   have:=ha (.inr rfl); rw[this]; rcases q2.2 with ⟨e2,_⟩ | ⟨g,cap',cur,e2,_⟩
   ·rw[e1] at e2; simp only[Value.slice.injEq] at e2; rw[e2.1]; rfl
   ·rw[e1] at e2; simp only[Value.slice.injEq] at e2; rw[e2.1]; simp[Addr.add_mid]
  subst ha'; have hms:n * sz<=es.length * sz:=Nat.mul_le_mul_right _ hn; have htl:(es.take n).length=n:=by rw[List.length_take]; omega
  have hus:us.length=es.length * sz:=q2.1; have hfl:(es.take n).flatten=es.flatten.take (n * sz):=by
   have h1:es.flatten=(es.take n).flatten++(es.drop n).flatten:=by rw[<-List.flatten_append,List.take_append_drop]
   have h2:(es.take n).flatten.length=n * sz:=by rw[bC (sz:=sz) λx hx=>q4 x (List.mem_of_mem_take hx),htl]
   rw[h1,<-h2,List.take_left]
  have aAQ:∀ (eA:Value),w.ownsRow C.B e sz eA n (us.take (n * sz))->(∀b,eA.ownBlock=some b->bD.ownBlock=some b)->pF I (b6 L id (.row (v+1) eA sz)) w C.B id (.row (v+1) e sz (es.take n)):=λeA ho hb=>by
   refine⟨eA,us.take (n * sz),by simp[b6],by rw[htl]; exact ho,q3,λx hx=>q4 x (List.mem_of_mem_take hx),λj u c hu hc=>?_,λu hu=>q6 u (List.mem_of_mem_take hu),λb h=>q7 b (hb b h)⟩; rw[List.getElem?_take] at hu; rw[hfl,List.getElem?_take] at hc; split at hu
   ·rename_i hj; rw[if_pos hj] at hc; exact q5 j u c hu hc
   ·cases hu
  have key:∀eA:Value,eA = .slice a n c->w.ownsRow C.B e sz eA n (us.take (n * sz))->(∀b,eA.ownBlock=some b->bD.ownBlock=some b)->∃L',dU I L' (.slice a n c) (.row id (v+1))/\gE C E (bl H id (.row (v+1) e sz (es.take n))) I L' tm w:=λeA he ho hb=>⟨b6 L id (.row (v+1) eA sz),.row _ _ _ (v+1) eA sz (by simp[b6]) (Nat.le_refl _) (λ_=>he.symm) rfl,hs.turn (Below.refl _ _) q1 (λ_ _ _=>rfl) (dx.aeh q1) (λb hb o=>q7 b hb o) _ (aAQ eA ho hb) (λb hbb=>.inl (hb b hbb))⟩
  rcases q2.2 with ⟨e2,hz0⟩ | ⟨g,cap',cur,e2,hb,hg,hnc,hcm,hcs,kN⟩
  ·rw[e1] at e2; simp only[Value.slice.injEq] at e2; obtain⟨rfl,rfl,rfl⟩:=e2; have hn0:n=0:=by omega
   subst hn0; exact key _ rfl ⟨by simp,.inl ⟨rfl,rfl⟩⟩ (λb hb=>by cases hb)
  ·rw[e1] at e2; simp only[Value.slice.injEq] at e2; obtain⟨rfl,rfl,rfl⟩:=e2; refine key _ rfl ⟨?_,.inr ⟨g,c,cur,rfl,hb,hg,by omega,hcm,hcs,?_⟩⟩ (λb hb=>by rw[e1]; exact hb)
   ·rw[List.length_take]; omega
   ·rw[<-kN,List.take_take,Nat.min_eq_left hms]
theorem qI {f:FuncId} {v:Nat} {e:TypeId} {sz:Nat} {es R:List (List PV)} {ps:List PV} (h:j5 P f v e sz es ps λa c=>∃es' n m,(a = .gU 1000000 v 0 n m sz\/(a = .row 1000000 v/\n=es'.length))/\c=some (.row v e sz es')/\n<=es'.length/\es'.take n=R) :
  j5 P f v e sz es ps λa c=>a = .row 1000000 (v+1)/\c=some (.row (v+1) e sz R) :=
 ⟨h.1,λB I w bD us vs hB hI hr h1 hv=>(h.2 B I w bD us vs hB hI hr h1 hv).mono λ_ _ ⟨u,a,H',I',L',q1,⟨es',n,m,q2,q3,q6,q7⟩,q4,q5⟩=>by
  subst q7; rcases q2 with rfl | ⟨rfl,rfl⟩
  ·obtain⟨L2,h1,h2⟩:=awq q5 q4 q3 q6; exact⟨u,_,_,I',L2,q1,⟨rfl,by simp[bl]⟩,h1,h2⟩
  ·obtain⟨L2,h1,h2⟩:=awq q5 (akI q5 q4 q3) q3 (Nat.le_refl _); exact⟨u,_,_,I',L2,q1,⟨rfl,by simp[bl]⟩,h1,h2⟩⟩
theorem ao9 {o:Oper} {W:Env->ay->Prop} {env:Env} {H:ay} (t:TypeId) (x lo hi mx:Operand) (s id v:Nat) (e:TypeId) (sz:Nat) (es:List (List PV)) (k1 k2 k3:IntKind) (l h m:Int) (hop:o.op = .slice t x (some lo) (some hi) (some mx)) (ht:cH P t=some e) (hsz:bw P e=some sz)
  (hs0:env s = .row id v) (hx:ev (ct env s (.gU id v 0 es.length es.length sz)) x = .row id v) (hlo:ev (ct env s (.gU id v 0 es.length es.length sz)) lo = .p (.val (.int k1 l))) (hhi:ev (ct env s (.gU id v 0 es.length es.length sz)) hi = .p (.val (.int k2 h))) (hmx:ev (ct env s (.gU id v 0 es.length es.length sz)) mx = .p (.val (.int k3 m)))
  (hH:H id=some (.row v e sz es)) (hb:0<=l/\l<=h/\h<=m/\m<=es.length) (hW:W (cA (ct env s (.gU id v 0 es.length es.length sz)) o.dst .dead) H):iL P o W env H:=by
 refine sL (mO s id v e sz es hs0 hH) (.inr (.inl ⟨.dead,H,hW,λC I L tm w σ hs hσ=>?_⟩)); have hxv:=hσ x; have hlv:=(hlo ▸ hσ lo).ek.1; have hhv:=(hhi ▸ hσ hi).ek.1; have hmv:=(hmx ▸ hσ mx).ek.1; rw[hx] at hxv; obtain⟨bD,us,q1,q2,q3,q4,q5,q6,q7⟩:=hs.chunk id _ hH; have hu:=hxv.awo q1; obtain⟨b0,b1,b2,b3⟩:=hb; obtain⟨a,cap,e1,hcap⟩:∃a cap,bD = .slice a es.length cap/\es.length<=cap:=by
  rcases q2.2 with ⟨e1,hn⟩ | ⟨g,cap,cur,e1,_,_,hnc,_⟩
  ·exact⟨none,0,by rw[hn]; exact e1,by omega⟩
  ·exact⟨_,cap,e1,hnc⟩
 have h4:m<=(cap:Int):=by omega
 have hrun:(execOp σ o).run P w = .ok (.value (.slice (if m.toNat=l.toNat then a else a.map (·.add (l.toNat * sz))) (h.toNat - l.toNat) (m.toNat - l.toNat))) w:=by unfold execOp; rw[hop]; simp only[Option.map_some,hu,hlv,hhv,hmv,e1]; rw[run_lift]; simp[Instr.sliceAt,Instr.slice,run_underlying (eU ht),vj (P:=P) (isS:=true) (lo:=some (.int k1 l)) (.inr ⟨k1,rfl⟩) b0 b1 b2 h4,dw hsz,Result.andThen]
 exact .still hrun (.dead _)
variable {t:TypeId}
def slR (e:Option TypeId) (f:TypeId->Option Nat) (a b:Option Int) (id bg off m sz:Nat):Option (Prop×AV):=match e,a,b with
 | some e,some l,some h=>(match f e with
  | some sz'=>some ((0<=l/\l<=h/\h<=m)/\sz'=sz,.gU id bg (off+l.toNat) (h.toNat - l.toNat) (m - l.toNat) sz)
  | none=>none)
 | _,_,_=>none
theorem akJ {id bg off n m sz:Nat} {lo hi:Option AV} : rJ P t (.gU id bg off n m sz) lo hi none=slR (cH P t) (bw P) (bnd 0 lo) (bnd n hi) id bg off m sz:=by unfold rJ slR; simp only[]; all_goals(cases cH P t<;>cases bnd 0 lo<;>cases bnd n hi<;>rfl)
theorem awr (e:TypeId) (f:TypeId->Option Nat) (l h:Int) (id bg off m sz:Nat):slR (some e) f (some l) (some h) id bg off m sz=(match f e with
  | some sz'=>some ((0<=l/\l<=h/\h<=m)/\sz'=sz,.gU id bg (off+l.toNat) (h.toNat - l.toNat) (m - l.toNat) sz)
  | none=>none):=rfl
theorem asa {H:ay} {id bg off n m sz:Nat} (h:isSlice P t=true):adI P t (.gU id bg off n m sz) H=some (True,.p (.val (.int .i64 n)),H):=by simp[adI,p5,h,up3]
def aAR (r:Option (Nat×List (List PV))) (e:Option TypeId) (f:TypeId->Option Nat) (id bg off m:Nat) (n:Int) (H:ay):Option (Prop×AV×ay):=match r,e with
 | some (sz,es),some e=>(match f e with
  | some sz'=>some ((0<=n/\n<m/\off+m<=es.length)/\sz'=sz,.iO id bg (off+n.toNat) 0,H)
  | none=>none)
 | _,_=>none
theorem akK {H:ay} {id bg off m m' z:Nat} {k:IntKind} {a:Int} : oc P t (.gU id bg off m m' z) (.p (.val (.int k a))) H=aAR (acq H id bg) (cH P t) (bw P) id bg off m a H:=by unfold oc aAR; simp only[]; all_goals(cases acq H id bg<;>cases cH P t<;>rfl)
theorem asb (sz:Nat) (es:List (List PV)) (e:TypeId) (f:TypeId->Option Nat) (id bg off m:Nat) (n:Int) (H:ay):aAR (some (sz,es)) (some e) f id bg off m n H=(match f e with
  | some sz'=>some ((0<=n/\n<m/\off+m<=es.length)/\sz'=sz,.iO id bg (off+n.toNat) 0,H)
  | none=>none):=rfl
theorem aza (H:ay) (id bg:Nat):acq H id bg=(match H id with
 | some (.row v _ sz es)=>if v=bg then some (sz,es) else none
 | _=>none):=by
 unfold acq; cases H id with
 | none=>rfl
 | some c=>cases c<;>rfl
attribute [go_sem] akJ awr asa akK asb aza
end Go.cE
namespace Go.cE
open Go.RowKit
variable {P:Program} {t:TypeId}
theorem asc (H:ay) (id bg:Nat):cB H id bg=(match H id with
 | some (.deep v _ _ k _ _ es)=>if v=bg then some (k,es) else none
 | _=>none):=by
 unfold cB; cases H id with
 | none=>rfl
 | some c=>cases c<;>rfl
def aCn (x:Option PV):Option (List (List PV)):=match x with
 | some (.aU l)=>some l
 | _=>none
theorem aws (l:List (List PV)):aCn (some (.aU l))=some l:=rfl
theorem anE (k:Nat) (es:List (List PV)) (i:Nat):mz (some (k,es)) i=aCn ((es.getD i [])[k]?):=rfl
theorem asd (id bg i k:Nat) (x:List PV):aau id bg i k x=(x.map AV.p).set k (.j4 id bg i):=rfl
theorem anF (H:ay) (id bg i off:Nat):aeq P t (.j0 id bg i off) H=(match cB H id bg with
   | some (k,es)=>(match qX P t (aau id bg i k (es.getD i [])) off with | some v=>some (i<es.length,v,H) | none=>none)
   | none=>none):=rfl
theorem anG (H:ay) (id bg i j off:Nat):aeq P t (.mu id bg i j off) H=(match mz (cB H id bg) i with
   | some l=>(match qY P t (l.getD j []) off with | some x=>some (j<l.length,.p x,H) | none=>none)
   | none=>none):=rfl
theorem akL (H:ay) (o n:Nat) (id bg i off:Nat):acA P (some (o,n)) (.j0 id bg i off) H=(match cB H id bg with
   | some _=>some (n≠0,.j0 id bg i (off+o),H)
   | none=>none):=rfl
def aAS (r:Option (Nat×List (List PV))) (e:Option TypeId) (f:TypeId->Option Nat) (id bg:Nat) (n:Int) (H:ay):Option (Prop×AV×ay):=match r,e with
 | some (_,es),some e=>(match f e with
  | some sz=>some ((0<=n/\n<es.length)/\(es.getD n.toNat []).length=sz,.j0 id bg n.toNat 0,H)
  | none=>none)
 | _,_=>none
theorem akM {H:ay} {id bg:Nat} {k:IntKind} {a:Int} : oc P t (.eC id bg) (.p (.val (.int k a))) H=aAS (cB H id bg) (cH P t) (bw P) id bg a H:=by unfold oc aAS; simp only[]; all_goals(cases cB H id bg<;>cases cH P t<;>rfl)
theorem ase (k:Nat) (es:List (List PV)) (e:TypeId) (f:TypeId->Option Nat) (id bg:Nat) (n:Int) (H:ay):aAS (some (k,es)) (some e) f id bg n H=(match f e with
  | some sz=>some ((0<=n/\n<es.length)/\(es.getD n.toNat []).length=sz,.j0 id bg n.toNat 0,H)
  | none=>none):=rfl
def aAT (r:Option (List (List PV))) (e:Option TypeId) (f:TypeId->Option Nat) (id bg i:Nat) (n:Int) (H:ay):Option (Prop×AV×ay):=match r,e with
 | some l,some e=>(match f e with
  | some sz=>some ((0<=n/\n<l.length)/\(l.getD n.toNat []).length=sz,.mu id bg i n.toNat 0,H)
  | none=>none)
 | _,_=>none
theorem akN {H:ay} {id bg i:Nat} {k:IntKind} {a:Int} : oc P t (.j4 id bg i) (.p (.val (.int k a))) H=aAT (mz (cB H id bg) i) (cH P t) (bw P) id bg i a H:=by unfold oc aAT; simp only[]; all_goals(cases mz (cB H id bg) i<;>cases cH P t<;>rfl)
theorem asf (l:List (List PV)) (e:TypeId) (f:TypeId->Option Nat) (id bg i:Nat) (n:Int) (H:ay):aAT (some l) (some e) f id bg i n H=(match f e with
  | some sz=>some ((0<=n/\n<l.length)/\(l.getD n.toNat []).length=sz,.mu id bg i n.toNat 0,H)
  | none=>none):=rfl
theorem asg {H:ay} {id bg i:Nat} (h:isSlice P t=true):adI P t (.j4 id bg i) H=(match mz (cB H id bg) i with
  | some l=>some (True,.p (.val (.int .i64 l.length)),H)
  | none=>none):=by
 simp only[adI,p5,h]; all_goals(cases mz (cB H id bg) i<;>rfl)
theorem anH (H:ay) (id bg:Nat):fZ H (.eC id bg)=oV H (.eC id bg):=rfl
theorem anI (H:ay) (id bg:Nat):oV H (.eC id bg)=(match cB H id bg with
  | some (_,es)=>some (.aU es,true)
  | none=>none):=rfl
theorem anJ (H:ay) (id bg i:Nat):nr H (.j4 id bg i)=oV H (.j4 id bg i):=rfl
theorem anK (H:ay) (id bg i:Nat):oV H (.j4 id bg i)=(match mz (cB H id bg) i with
  | some l=>some (.aU l,true)
  | none=>none):=rfl
theorem akf {H' H:ay} {id v:Nat} {e:TypeId} {sz k:Nat} {e':TypeId} {sz':Nat} {es:List (List PV)} (h:pL H' H):pL (bl H' id (.deep v e sz k e' sz' es)) H:=λi c' hi=>by
 unfold bl at hi; split at hi
 ·cases hi
 ·exact h i c' hi
def rvD (c:Option Chunk) (id bg:Nat):Option (RV×List Nat):=match c with
 | some (.deep v e sz k e' sz' es)=>if v=bg then some (.deep e sz k e' sz' es,[id]) else none
 | _=>none
theorem ash (H:ay) (id bg:Nat):oN H (.eC id bg)=rvD (H id) id bg:=by unfold rvD; simp only[oN]; try rfl
theorem awt (v:Nat) (e:TypeId) (sz k:Nat) (e':TypeId) (sz':Nat) (es:List (List PV)) (id bg:Nat):rvD (some (.deep v e sz k e' sz' es)) id bg=if v=bg then some (.deep e sz k e' sz' es,[id]) else none:=rfl
theorem akO (n:Nat) (e:TypeId) (sz k:Nat) (e':TypeId) (sz':Nat) (es:List (List PV)):cF n (.deep e sz k e' sz' es)=(.eC n 0,n+1):=by simp only[cF]
theorem akP (n:Nat) (H:ay) (e:TypeId) (sz k:Nat) (e':TypeId) (sz':Nat) (es:List (List PV)):fR n H (.deep e sz k e' sz' es)=bl H n (.deep 0 e sz k e' sz' es):=by simp only[fR]
theorem ait (id v:Nat):bT (.eC id v)=[.eC id v]:=rfl
theorem anL (id v:Nat):nq (.eC id v)=true:=rfl
attribute [go_sem] ash awt akO akP ait anL
def bcA (P:Program) (e:Option TypeId) (n:Nat) (parts:List (Nat×AV)):Option (TypeId×List AV):=match e with
 | some e=>(match bw P e,cI P e with
  | some sz, some zs => if zs.length = sz ∧ 0 < sz ∧ n * sz ≤ 16777216 ∧ zs.all (·.oneCell') = true then
    (match qd (λi=>some (i * sz,sz)) (gY zs n) parts with
    | some cs=>some (e,cs)
    | none=>none)
   else none
  | _,_=>none)
 | none=>none
theorem anM (n:Nat) (parts:List (Nat×AV)):uj P t n parts=bcA P (cH P t) n parts:=by
 unfold uj bcA; cases cH P t with
 | none=>rfl
 | some e=>simp only[]; all_goals(cases bw P e<;>cases cI P e<;>rfl)
theorem awu (e:TypeId) (n:Nat) (parts:List (Nat×AV)):bcA P (some e) n parts=(match bw P e,cI P e with
  | some sz, some zs => if zs.length = sz ∧ 0 < sz ∧ n * sz ≤ 16777216 ∧ zs.all (·.oneCell') = true then
    (match qd (λi=>some (i * sz,sz)) (gY zs n) parts with
    | some cs=>some (e,cs)
    | none=>none)
   else none
  | _,_=>none):=rfl
attribute [go_sem] anM awu
theorem awv (id off:Nat):apB (.ptr id off)=some (True,.ptr id off):=rfl
theorem asi (cs:List PV) (off:Nat):apB (.p (.dJ cs off))=some (True,.p (.dJ cs off)):=rfl
attribute [go_sem] awv asi
def azW (a:Option AV) (H:ay) (Q:AV->ay->Prop):Prop:=match a with
 | some a=>Q a H
 | none=>False
theorem aww (rs:List ResultVar) (Q:AV->ay->Prop) (env:Env) (H:ay):aCg P rs Q .ret env H=azW (oo P env H rs) H Q:=rfl
theorem anN (a:AV) (H:ay) (Q:AV->ay->Prop):azW (some a) H Q=Q a H:=rfl
attribute [go_sem] aww anN
theorem asj (id bg i:Nat) (l:List AV):si (.j4 id bg i :: l)=none:=rfl
theorem asl (id bg:Nat) (l:List AV):si (.eC id bg :: l)=none:=rfl
theorem asm (t1 t2:TypeId) (id v o n m z:Nat) (b:AV) (H:ay):adJ P t1 t2 (.gU id v o n m z) b H=none:=by
 unfold adJ; have h1:acp P t1 t2 (.gU id v o n m z) b=none:=by unfold acp; cases dg P t1 t2<;>rfl
 have h2:abm P t1 t2 (.gU id v o n m z) b H=none:=by unfold abm; cases dg P t1 t2<;>rfl
 rw[h1,h2]
theorem asn (t1 t2:TypeId) (id v:Nat) (b:AV) (H:ay):adJ P t1 t2 (.eC id v) b H=none:=by
 unfold adJ; have h1:acp P t1 t2 (.eC id v) b=none:=by unfold acp; cases dg P t1 t2<;>rfl
 have h2:abm P t1 t2 (.eC id v) b H=none:=by unfold abm; cases dg P t1 t2<;>rfl
 rw[h1,h2]
theorem aso {o:Option Tmp} {xs:Array Operand} {ts:Array TypeId} {ty:TypeId} {pos:String} {af:Array Edge} {g:Option (Nat×Bool)} {ρ:Operand->AV} {H:ay} : fW P ⟨o,.call ⟨.builtin .clear,xs,ts⟩,ty,pos,af,g⟩ ρ H=none:=by simp[fW,nH,ri,mw,w8,xO,vP,xb,sZ]
attribute [go_sem] asm asn aso asc aws anE asd anF anG akL akM ase akN asf asg anH anI anJ anK asj asl
end Go.cE
namespace Go.Proofs.YtllicmcihlfajaaGreat
open Go.cE
structure aj where
 id:Int
 type:Int
 values:List Int
structure ak where
 id:Int
 type:Int
 src:Int
 dst:Int
structure aO where
 id:Int
 attr:Int
 old:Int
 new:Int
structure aI where
 kind:Int
 id:Int
 attr:Int
instance:Inhabited aj:=⟨⟨0,0,[]⟩⟩
instance:Inhabited ak:=⟨⟨0,0,0,0⟩⟩
instance:Inhabited aO:=⟨⟨0,0,0,0⟩⟩
instance:Inhabited aI:=⟨⟨0,0,0⟩⟩
structure dZ where
 x0:Int
 x1:Int
structure aG where
 ax:List aj
 aD:List ak
 aQ:List aj
 aM:List ak
 values:List aO
 next:dZ
structure az where
 host:Host
 nodes:List Int
 au:List Int
 next:Int
def ag (x:aj):List PV:=[.val (.int .i64 x.id),.val (.int .i64 x.type),.aU (x.values.map encI)]
def ah (x:ak):List PV:=[.val (.int .i64 x.id),.val (.int .i64 x.type),.val (.int .i64 x.src),.val (.int .i64 x.dst)]
def aH (x:aO):List PV:=[.val (.int .i64 x.id),.val (.int .i64 x.attr),.val (.int .i64 x.old),.val (.int .i64 x.new)]
def aC (x:aI):List PV:=[.val (.int .i64 x.kind),.val (.int .i64 x.id),.val (.int .i64 x.attr)]
def aB (x:aG):List PV:=[.aU (x.ax.map ag),.aU (x.aD.map ah),.aU (x.aQ.map ag),.aU (x.aM.map ah),.aU (x.values.map aH),.val (.int .i64 x.next.x0),.val (.int .i64 x.next.x1)]
def aA (x:az):List PV:=[.aU (x.host.graph.nodes.map encI),.aU (x.host.graph.au.map bf),.aU (x.host.values.map b9),.aU (x.nodes.map encI),.aU (x.au.map encI),.val (.int .i64 x.next)]
section
variable {α:Type}
theorem acS {p:α->Bool} {l:List α} (h:idxOf p l = -1):l.filter (λx=>!p x)=l:=by
 unfold idxOf at h; cases hf:l.findIdx? p with
 | none=>rw[List.findIdx?_eq_none_iff] at hf; rw[List.filter_eq_self]; intro x hx; simp[hf x hx]
 | some i=>rw[hf] at h; simp only at h; omega
theorem acT [Inhabited α] {p:α->Bool} {l:List α} (h:idxOf p l≠-1):∃k:Nat,idxOf p l=k/\k<l.length/\(l.take k).filter (λx=>!p x)=l.take k/\p (l.getD k default)=true:=by
 unfold idxOf at h ⊢; cases hf:l.findIdx? p with
 | none=>rw[hf] at h; exact absurd rfl h
 | some i =>
  rw[List.findIdx?_eq_some_iff_getElem] at hf; obtain⟨hi,h1,h2⟩:=hf; refine⟨i,rfl,hi,?_,by simpa[hi] using h1⟩; rw[List.filter_eq_self]; intro x hx; obtain⟨j,hj,rfl⟩:=List.getElem_of_mem hx; have hj':j<i:=by simp at hj; omega
  have:=h2 j hj'; simpa using this
def ff (p:α->Bool) (l g:List α) (j:Nat):List α:=(l.take j).filter (λx=>!p x)++g++l.drop j
theorem acU (p:α->Bool) (l g:List α) (j i:Nat) (hi:((l.take j).filter λx=>!p x).length=i) (hg:i+g.length=j) (hj:j<=l.length):(ff p l g j).length=l.length:=by simp[ff,hi]; omega
theorem ae2 [Inhabited α] (p:α->Bool) (l g:List α) (j i:Nat) (hi:((l.take j).filter λx=>!p x).length=i) (hg:i+g.length=j) (hj:j<l.length):(ff p l g j).getD j default=l.getD j default:=by
 have h1:((l.take j).filter (λx=>!p x)++g).length=j:=by rw[List.length_append,hi,hg]
 simp only[ff,List.getD_eq_getElem?_getD]; rw[List.getElem?_append_right (by omega),h1,Nat.sub_self,List.getElem?_drop,Nat.add_zero]
theorem nL [Inhabited α] (p:α->Bool) (l g:List α) (j:Nat) (hj:j<l.length) (hp:p (l.getD j default)=true):ff p l g j=ff p l (g++[l.getD j default]) (j+1)/\(l.take (j+1)).filter (λx=>!p x)=(l.take j).filter (λx=>!p x):=by
 have h1:(l.take (j+1)).filter (λx=>!p x)=(l.take j).filter (λx=>!p x):=by rw[nu hj,List.filter_append,List.filter_cons_of_neg (by rw[hp]; simp),List.filter_nil,List.append_nil]
 refine⟨?_,h1⟩; unfold ff; rw[h1]; have h2:l.drop j=l.getD j default :: l.drop (j+1):=by rw[List.drop_eq_getElem_cons hj]; simp[hj]
 rw[h2]; simp
theorem aaN [Inhabited α] (p:α->Bool) (l:List α) (y:α) (g:List α) (j i:Nat) (hi:((l.take j).filter λx=>!p x).length=i) (hj:j<l.length) (hp:p (l.getD j default)=false) :
  (ff p l (y :: g) j).set i (l.getD j default)=ff p l (g++[l.getD j default]) (j+1)/\(l.take (j+1)).filter (λx=>!p x)=(l.take j).filter (λx=>!p x)++[l.getD j default]:=by
 have h1:(l.take (j+1)).filter (λx=>!p x)=(l.take j).filter (λx=>!p x)++[l.getD j default]:=by rw[nu hj,List.filter_append,List.filter_cons_of_pos (by rw[hp]; rfl),List.filter_nil]
 refine⟨?_,h1⟩; unfold ff; rw[h1]; have h2:l.drop j=l.getD j default :: l.drop (j+1):=by rw[List.drop_eq_getElem_cons hj]; simp[hj]
 rw[h2]; rw[List.append_assoc,List.set_append_right _ _ (by omega),hi,Nat.sub_self]; simp
theorem anO (enc:α->List PV) (z:List PV) (p:α->Bool) (l g:List α) (i:Nat) (hi:(l.filter λx=>!p x).length=i):(splice ((ff p l g l.length).map enc) i (List.replicate (l.length - i) z)).take i=(l.filter λx=>!p x).map enc:=by
 unfold ff splice; rw[List.take_length,List.drop_length,List.append_nil,List.map_append,List.append_assoc]; have h2:((l.filter λx=>!p x).map enc).length=i:=by rw[List.length_map]; exact hi
 rw[<-h2,List.take_left,List.take_left]
end
theorem yD (p:aj->Bool) (l:List aj) (hl:l.length<=1000000) (k:FuncId) (fs cs:List PV) (hp:∀x∈l,aS Tryz.prog k (fs++[pA (ag x)]++cs) (λr=>r = .val (.bool (p x)))) :
  aS Tryz.prog 184 [.aU (l.map ag),.gR (.func k) fs cs] (λr=>r = .val (.int .i64 (idxOf p l))):=by
 refine aR [] func184 ?_; rw[ntmps184,results184]; simp -implicitDefEqProofs only[go_sem]; refine bH (σ:=Nat) (λx=>(ct (ct (ct (ct fA 0 (.p (.aU (l.map ag)))) 1 (.p (.gR (.func k) fs cs))) 7 (.p (.val (.int .i64 l.length)))) 8 (.p (.val (.int .i64 x))))) (λx=>b8)
  (λx=>x<=l.length/\∀j,j<x->p (l.getD j default)=false) (λx=>l.length - x) 0 ⟨Nat.zero_le _,λj hj=>absurd hj (Nat.not_lt_zero j)⟩ bR ?_
 rintro x ⟨hx,hq⟩; simp -implicitDefEqProofs only[go_sem]; refine aL (λhc=>?_) (λhc=>?_)
 ·have hlt:x<l.length:=by simpa using hc
  simp -implicitDefEqProofs only[go_sem,getD_map ag hlt,hlt,ag]; refine aY (hp (l.getD x default) (by simp[hlt])) (by simp -implicitDefEqProofs only[go_sem,jw,jv,ag,pA,Bool.or_false,Bool.false_or]<;>rfl) (bY rfl) ?_; simp -implicitDefEqProofs only[go_sem]; refine aL (λhb=>?_) (λhb=>?_)<;>simp -implicitDefEqProofs only[go_sem]
  ·exact (ow hlt hq hb).symm
  ·refine bJ (x+1) ⟨hlt,λj hj=>?_⟩ (by omega) ?_
   ·rcases Nat.lt_succ_iff_lt_or_eq.1 hj with h | h
    ·exact hq j h
    ·rw[h]; exact hb
   ·rw[bq hlt (by omega)]; exact bR
 ·have hge:l.length<=x:=by simpa using hc
  simp -implicitDefEqProofs only[go_sem,hc]; rw[kH λj hj=>hq j (by omega)]
theorem yE (p:aj->Bool) (l:List aj) (hl:l.length<=1000000) (k:FuncId) (fs cs:List PV) (hp:∀x∈l,aS Tryz.prog k (fs++[pA (ag x)]++cs) (λr=>r = .val (.bool (p x)))) :
  aS Tryz.prog 121 [.aU (l.map ag),.gR (.func k) fs cs] (λr=>r = .val (.bool (l.any p))):=by
 refine aR [] func121 ?_; rw[ntmps121,results121]; simp -implicitDefEqProofs only[go_sem]; refine aY (yD p l hl k fs cs hp) (by simp -implicitDefEqProofs only[go_sem]<;>rfl) (bY rfl) ?_; simp -implicitDefEqProofs only[go_sem]; exact j8
theorem yF (p:ak->Bool) (l:List ak) (hl:l.length<=1000000) (k:FuncId) (fs cs:List PV) (hp:∀x∈l,aS Tryz.prog k (fs++[pA (ah x)]++cs) (λr=>r = .val (.bool (p x)))) :
  aS Tryz.prog 185 [.aU (l.map ah),.gR (.func k) fs cs] (λr=>r = .val (.int .i64 (idxOf p l))):=by
 refine aR [] func185 ?_; rw[ntmps185,results185]; simp -implicitDefEqProofs only[go_sem]; refine bH (σ:=Nat) (λx=>(ct (ct (ct (ct fA 0 (.p (.aU (l.map ah)))) 1 (.p (.gR (.func k) fs cs))) 7 (.p (.val (.int .i64 l.length)))) 8 (.p (.val (.int .i64 x))))) (λx=>b8)
  (λx=>x<=l.length/\∀j,j<x->p (l.getD j default)=false) (λx=>l.length - x) 0 ⟨Nat.zero_le _,λj hj=>absurd hj (Nat.not_lt_zero j)⟩ bR ?_
 rintro x ⟨hx,hq⟩; simp -implicitDefEqProofs only[go_sem]; refine aL (λhc=>?_) (λhc=>?_)
 ·have hlt:x<l.length:=by simpa using hc
  simp -implicitDefEqProofs only[go_sem,getD_map ah hlt,hlt,ah]; refine aY (hp (l.getD x default) (by simp[hlt])) (by simp -implicitDefEqProofs only[go_sem,jw,jv,ah,pA,Bool.or_false,Bool.false_or]<;>rfl) (bY rfl) ?_; simp -implicitDefEqProofs only[go_sem]; refine aL (λhb=>?_) (λhb=>?_)<;>simp -implicitDefEqProofs only[go_sem]
  ·exact (ow hlt hq hb).symm
  ·refine bJ (x+1) ⟨hlt,λj hj=>?_⟩ (by omega) ?_
   ·rcases Nat.lt_succ_iff_lt_or_eq.1 hj with h | h
    ·exact hq j h
    ·rw[h]; exact hb
   ·rw[bq hlt (by omega)]; exact bR
 ·have hge:l.length<=x:=by simpa using hc
  simp -implicitDefEqProofs only[go_sem,hc]; rw[kH λj hj=>hq j (by omega)]
theorem yG (p:ak->Bool) (l:List ak) (hl:l.length<=1000000) (k:FuncId) (fs cs:List PV) (hp:∀x∈l,aS Tryz.prog k (fs++[pA (ah x)]++cs) (λr=>r = .val (.bool (p x)))) :
  aS Tryz.prog 123 [.aU (l.map ah),.gR (.func k) fs cs] (λr=>r = .val (.bool (l.any p))):=by
 refine aR [] func123 ?_; rw[ntmps123,results123]; simp -implicitDefEqProofs only[go_sem]; refine aY (yF p l hl k fs cs hp) (by simp -implicitDefEqProofs only[go_sem]<;>rfl) (bY rfl) ?_; simp -implicitDefEqProofs only[go_sem]; exact j8
theorem ae3 (p:aO->Bool) (l:List aO) (hl:l.length<=1000000) (k:FuncId) (fs cs:List PV) (hp:∀x∈l,aS Tryz.prog k (fs++[pA (aH x)]++cs) (λr=>r = .val (.bool (p x)))) :
  aS Tryz.prog 189 [.aU (l.map aH),.gR (.func k) fs cs] (λr=>r = .val (.int .i64 (idxOf p l))):=by
 refine aR [] func189 ?_; rw[ntmps189,results189]; simp -implicitDefEqProofs only[go_sem]; refine bH (σ:=Nat) (λx=>(ct (ct (ct (ct fA 0 (.p (.aU (l.map aH)))) 1 (.p (.gR (.func k) fs cs))) 7 (.p (.val (.int .i64 l.length)))) 8 (.p (.val (.int .i64 x))))) (λx=>b8)
  (λx=>x<=l.length/\∀j,j<x->p (l.getD j default)=false) (λx=>l.length - x) 0 ⟨Nat.zero_le _,λj hj=>absurd hj (Nat.not_lt_zero j)⟩ bR ?_
 rintro x ⟨hx,hq⟩; simp -implicitDefEqProofs only[go_sem]; refine aL (λhc=>?_) (λhc=>?_)
 ·have hlt:x<l.length:=by simpa using hc
  simp -implicitDefEqProofs only[go_sem,getD_map aH hlt,hlt,aH]; refine aY (hp (l.getD x default) (by simp[hlt])) (by simp -implicitDefEqProofs only[go_sem,jw,jv,aH,pA,Bool.or_false,Bool.false_or]<;>rfl) (bY rfl) ?_; simp -implicitDefEqProofs only[go_sem]; refine aL (λhb=>?_) (λhb=>?_)<;>simp -implicitDefEqProofs only[go_sem]
  ·exact (ow hlt hq hb).symm
  ·refine bJ (x+1) ⟨hlt,λj hj=>?_⟩ (by omega) ?_
   ·rcases Nat.lt_succ_iff_lt_or_eq.1 hj with h | h
    ·exact hq j h
    ·rw[h]; exact hb
   ·rw[bq hlt (by omega)]; exact bR
 ·have hge:l.length<=x:=by simpa using hc
  simp -implicitDefEqProofs only[go_sem,hc]; rw[kH λj hj=>hq j (by omega)]
theorem af6 (p:aO->Bool) (l:List aO) (hl:l.length<=1000000) (k:FuncId) (fs cs:List PV) (hp:∀x∈l,aS Tryz.prog k (fs++[pA (aH x)]++cs) (λr=>r = .val (.bool (p x)))) :
  aS Tryz.prog 140 [.aU (l.map aH),.gR (.func k) fs cs] (λr=>r = .val (.bool (l.any p))):=by
 refine aR [] func140 ?_; rw[ntmps140,results140]; simp -implicitDefEqProofs only[go_sem]; refine aY (ae3 p l hl k fs cs hp) (by simp -implicitDefEqProofs only[go_sem]<;>rfl) (bY rfl) ?_; simp -implicitDefEqProofs only[go_sem]; exact j8
theorem anP (p:aj->Bool) (l:List aj) (hl:l.length<=1000000) (v:Nat) (k:FuncId) (fs cs:List PV) (hp:∀x∈l,aS Tryz.prog k (fs++[pA (ag x)]++cs) (λr=>r = .val (.bool (p x)))) :
  j5 Tryz.prog 130 v 79 3 (l.map ag) [.gR (.func k) fs cs] (λa c=>a = .row 1000000 (v+1)/\c=some (.row (v+1) 79 3 ((l.filter λx=>!p x).map ag))):=by
 refine qI ?_; refine lW [] Ty.mixed func130 rfl (by kernel_rfl) (by simp[ntmps130]) ?_; rw[ntmps130,results130]; simp -implicitDefEqProofs only[go_sem]; refine aY (yD p l hl k fs cs hp) (by simp -implicitDefEqProofs only[go_sem]<;>rfl) (bY rfl) ?_; simp -implicitDefEqProofs only[go_sem]; refine aL (λhc=>?_) (λhc=>?_)
 ·have pN:=of_decide_eq_true hc; simp -implicitDefEqProofs only[go_sem]; exact⟨_,_,0,rfl,rfl,Nat.le_refl _,by rw[List.take_length,acS pN]⟩
 have pN:=of_decide_eq_false hc; obtain⟨i0,hi0,abO,hf0,hp0⟩:=acT pN; simp -implicitDefEqProofs only[go_sem,hi0,bq abO (by omega)]; have hr0:ff p l [l.getD i0 default] (i0+1)=l:=by have h1:=(nL p l [] i0 abO hp0).1; rw[List.nil_append] at h1; rw[<-h1,ff,hf0,List.append_nil,List.take_append_drop]
 have hf1:((l.take (i0+1)).filter λx=>!p x).length=i0:=by rw[(nL p l [] i0 abO hp0).2,hf0,List.length_take]; omega
 refine bH (σ:=Nat×Nat×aj×List aj) (λx=>(ct (ct (ct (ct fA 0 (.row 1000000 v)) 1 (.p (.gR (.func k) fs cs))) 5 (.p (.val (.int .i64 x.1)))) 6 (.p (.val (.int .i64 x.2.1))))) (λx=>(bl b8 1000000 (.row v 79 3 ((ff p l (x.2.2.1 :: x.2.2.2) x.2.1).map ag))))
  (λx=>((l.take x.2.1).filter λz=>!p z).length=x.1/\x.1+(x.2.2.2.length+1)=x.2.1/\x.2.1<=l.length) (λx=>l.length - x.2.1) (i0,i0+1,l.getD i0 default,[]) ⟨hf1,rfl,abO⟩ ?_ ?_
 ·rw[hr0]; exact bR
 rintro⟨i,j,y,g⟩ ⟨hx1,hx2,hx3⟩; simp only at hx1 hx2 hx3; have hlen:(ff p l (y :: g) j).length=l.length:=acU p l (y :: g) j i hx1 hx2 hx3; simp -implicitDefEqProofs only[go_sem]; refine aL (λhc=>?_) (λhc=>?_)
 ·have hlt:j<l.length:=by have:=of_decide_eq_true hc; rw[hlen] at this; exact this
  have hj:j<(ff p l (y :: g) j).length:=by rw[hlen]; exact hlt
  have uN:((ff p l (y :: g) j).map ag).getD j []=ag (l.getD j default):=by rw[getD_map ag hj,ae2 p l (y :: g) j i hx1 hx2 hlt]
  simp -implicitDefEqProofs only[go_sem,uN,ag,bh]; refine⟨hj,hj,?_⟩; refine aY (hp (l.getD j default) (by simp[hlt])) (by simp -implicitDefEqProofs only[go_sem,jw,jv,ag,pA,bh,Bool.or_false,Bool.false_or,uN]<;>rfl) (bY rfl) ?_; simp -implicitDefEqProofs only[go_sem,uN,ag,bh]; refine aX (λhb=>?_) (λhb=>?_)
  ·obtain⟨k1,k2⟩:=nL p l (y :: g) j hlt hb; simp -implicitDefEqProofs only[go_sem,bq hlt (by omega),uN,ag,bh]; refine bJ (i,j+1,y,g++[l.getD j default]) ⟨by rw[k2]; exact hx1,by simp; omega,hlt⟩ (by simp only; omega) ?_; rw[k1]; exact bR
  ·obtain⟨k1,k2⟩:=aaN p l y g j i hx1 hlt hb; have hij:i<j:=by omega
   have hi':i<(ff p l (y :: g) j).length:=by omega
   have hgi:((ff p l (y :: g) j).map ag).getD i []=ag ((ff p l (y :: g) j).getD i default):=by rw[getD_map ag hi']
   obtain⟨y2,g2,hg2,hl2⟩:∃y2 g2,g++[l.getD j default]=y2 :: g2/\g2.length=g.length:=by
    cases g with
    | nil=>exact⟨_,[],rfl,rfl⟩
    | cons a r=>exact⟨a,r++[l.getD j default],rfl,by simp⟩
   rw[hg2] at k1; have hst:((ff p l (y :: g) j).map ag).set i (ag (l.getD j default))=(ff p l (y2 :: g2) (j+1)).map ag:=by rw[<-k1,List.map_set]
   simp only[ag,bh] at hst; simp -implicitDefEqProofs only[go_sem,hgi,ag,bh,bq hlt (by omega),bq hij (by omega),uN]; refine⟨hi',hi',?_⟩; refine bJ (i+1,j+1,y2,g2) ⟨by rw[k2,List.length_append,hx1]; rfl,by simp only; omega,hlt⟩ (by simp only; omega) ?_; rw[hst]; exact bR
 ·have hge:j=l.length:=by have:=of_decide_eq_false hc; rw[hlen] at this; omega
  subst hge; rw[List.take_length] at hx1; simp -implicitDefEqProofs only[go_sem]; refine sv _ _ (mO 36 1000000 v 79 3 _ rfl rfl) (by simp -implicitDefEqProofs only[go_sem]<;>rfl) ?_ ?_
  ·rw[hlen]; omega
  simp -implicitDefEqProofs only[go_sem,hlen]; have yY:((ff p l (y :: g) l.length).map ag).length=l.length:=by rw[List.length_map]; exact hlen
  have hend:=anO ag ((cI Tryz.prog 79).getD [] |>.map PV.val) p l (y :: g) i hx1; rw[show (cI Tryz.prog 79).getD []=_ from by simp -implicitDefEqProofs only[go_sem]<;>rfl] at hend; simp only[qv,List.length_replicate,List.append_assoc,List.map_cons,List.map_nil] at hend; generalize (ff p l (y :: g) l.length).map ag=E at yY hend ⊢; refine qH 35 _ 1000000 v i (l.length - i) _ 79 3 E _ rfl (by simp -implicitDefEqProofs only[go_sem]) (by simp -implicitDefEqProofs only[go_sem]<;>rfl) rfl (by decide) rfl (by simp -implicitDefEqProofs only[go_sem]<;>rfl) (by simp -implicitDefEqProofs only[go_sem]) (by omega) (by omega) ?_; simp -implicitDefEqProofs only[go_sem]; refine sv _ _ (mO 39 1000000 v 79 3 _ rfl rfl) (by simp -implicitDefEqProofs only[go_sem]<;>rfl) ?_ ?_
  ·simp[yY]; omega
  simp -implicitDefEqProofs only[go_sem]; exact⟨_,_,_,.inl rfl,rfl,by simp[yY]; omega,hend⟩
theorem anQ (p:ak->Bool) (l:List ak) (hl:l.length<=1000000) (v:Nat) (k:FuncId) (fs cs:List PV) (hp:∀x∈l,aS Tryz.prog k (fs++[pA (ah x)]++cs) (λr=>r = .val (.bool (p x)))) :
  j5 Tryz.prog 133 v 84 4 (l.map ah) [.gR (.func k) fs cs] (λa c=>a = .row 1000000 (v+1)/\c=some (.row (v+1) 84 4 ((l.filter λx=>!p x).map ah))):=by
 refine qI ?_; refine lW [] Ty.mixed func133 rfl (by kernel_rfl) (by simp[ntmps133]) ?_; rw[ntmps133,results133]; simp -implicitDefEqProofs only[go_sem]; refine aY (yF p l hl k fs cs hp) (by simp -implicitDefEqProofs only[go_sem]<;>rfl) (bY rfl) ?_; simp -implicitDefEqProofs only[go_sem]; refine aL (λhc=>?_) (λhc=>?_)
 ·have pN:=of_decide_eq_true hc; simp -implicitDefEqProofs only[go_sem]; exact⟨_,_,0,rfl,rfl,Nat.le_refl _,by rw[List.take_length,acS pN]⟩
 have pN:=of_decide_eq_false hc; obtain⟨i0,hi0,abO,hf0,hp0⟩:=acT pN; simp -implicitDefEqProofs only[go_sem,hi0,bq abO (by omega)]; have hr0:ff p l [l.getD i0 default] (i0+1)=l:=by have h1:=(nL p l [] i0 abO hp0).1; rw[List.nil_append] at h1; rw[<-h1,ff,hf0,List.append_nil,List.take_append_drop]
 have hf1:((l.take (i0+1)).filter λx=>!p x).length=i0:=by rw[(nL p l [] i0 abO hp0).2,hf0,List.length_take]; omega
 refine bH (σ:=Nat×Nat×ak×List ak) (λx=>(ct (ct (ct (ct fA 0 (.row 1000000 v)) 1 (.p (.gR (.func k) fs cs))) 5 (.p (.val (.int .i64 x.1)))) 6 (.p (.val (.int .i64 x.2.1))))) (λx=>(bl b8 1000000 (.row v 84 4 ((ff p l (x.2.2.1 :: x.2.2.2) x.2.1).map ah))))
  (λx=>((l.take x.2.1).filter λz=>!p z).length=x.1/\x.1+(x.2.2.2.length+1)=x.2.1/\x.2.1<=l.length) (λx=>l.length - x.2.1) (i0,i0+1,l.getD i0 default,[]) ⟨hf1,rfl,abO⟩ ?_ ?_
 ·rw[hr0]; exact bR
 rintro⟨i,j,y,g⟩ ⟨hx1,hx2,hx3⟩; simp only at hx1 hx2 hx3; have hlen:(ff p l (y :: g) j).length=l.length:=acU p l (y :: g) j i hx1 hx2 hx3; simp -implicitDefEqProofs only[go_sem]; refine aL (λhc=>?_) (λhc=>?_)
 ·have hlt:j<l.length:=by have:=of_decide_eq_true hc; rw[hlen] at this; exact this
  have hj:j<(ff p l (y :: g) j).length:=by rw[hlen]; exact hlt
  have uN:((ff p l (y :: g) j).map ah).getD j []=ah (l.getD j default):=by rw[getD_map ah hj,ae2 p l (y :: g) j i hx1 hx2 hlt]
  simp -implicitDefEqProofs only[go_sem,uN,ah,bh]; refine⟨hj,hj,?_⟩; refine aY (hp (l.getD j default) (by simp[hlt])) (by simp -implicitDefEqProofs only[go_sem,jw,jv,ah,pA,bh,Bool.or_false,Bool.false_or,uN]<;>rfl) (bY rfl) ?_; simp -implicitDefEqProofs only[go_sem,uN,ah,bh]; refine aX (λhb=>?_) (λhb=>?_)
  ·obtain⟨k1,k2⟩:=nL p l (y :: g) j hlt hb; simp -implicitDefEqProofs only[go_sem,bq hlt (by omega),uN,ah,bh]; refine bJ (i,j+1,y,g++[l.getD j default]) ⟨by rw[k2]; exact hx1,by simp; omega,hlt⟩ (by simp only; omega) ?_; rw[k1]; exact bR
  ·obtain⟨k1,k2⟩:=aaN p l y g j i hx1 hlt hb; have hij:i<j:=by omega
   have hi':i<(ff p l (y :: g) j).length:=by omega
   have hgi:((ff p l (y :: g) j).map ah).getD i []=ah ((ff p l (y :: g) j).getD i default):=by rw[getD_map ah hi']
   obtain⟨y2,g2,hg2,hl2⟩:∃y2 g2,g++[l.getD j default]=y2 :: g2/\g2.length=g.length:=by
    cases g with
    | nil=>exact⟨_,[],rfl,rfl⟩
    | cons a r=>exact⟨a,r++[l.getD j default],rfl,by simp⟩
   rw[hg2] at k1; have hst:((ff p l (y :: g) j).map ah).set i (ah (l.getD j default))=(ff p l (y2 :: g2) (j+1)).map ah:=by rw[<-k1,List.map_set]
   simp only[ah,bh] at hst; simp -implicitDefEqProofs only[go_sem,hgi,ah,bh,bq hlt (by omega),bq hij (by omega),uN]; refine⟨hi',hi',?_⟩; refine bJ (i+1,j+1,y2,g2) ⟨by rw[k2,List.length_append,hx1]; rfl,by simp only; omega,hlt⟩ (by simp only; omega) ?_; rw[hst]; exact bR
 ·have hge:j=l.length:=by have:=of_decide_eq_false hc; rw[hlen] at this; omega
  subst hge; rw[List.take_length] at hx1; simp -implicitDefEqProofs only[go_sem]; refine sv _ _ (mO 36 1000000 v 84 4 _ rfl rfl) (by simp -implicitDefEqProofs only[go_sem]<;>rfl) ?_ ?_
  ·rw[hlen]; omega
  simp -implicitDefEqProofs only[go_sem,hlen]; have yY:((ff p l (y :: g) l.length).map ah).length=l.length:=by rw[List.length_map]; exact hlen
  have hend:=anO ah ((cI Tryz.prog 84).getD [] |>.map PV.val) p l (y :: g) i hx1; rw[show (cI Tryz.prog 84).getD []=_ from by simp -implicitDefEqProofs only[go_sem]<;>rfl] at hend; simp only[qv,List.length_replicate,List.append_assoc,List.map_cons,List.map_nil] at hend; generalize (ff p l (y :: g) l.length).map ah=E at yY hend ⊢; refine qH 36 _ 1000000 v i (l.length - i) _ 84 4 E _ rfl (by simp -implicitDefEqProofs only[go_sem]) (by simp -implicitDefEqProofs only[go_sem]<;>rfl) rfl (by decide) rfl (by simp -implicitDefEqProofs only[go_sem]<;>rfl) (by simp -implicitDefEqProofs only[go_sem]) (by omega) (by omega) ?_; simp -implicitDefEqProofs only[go_sem]; refine sv _ _ (mO 39 1000000 v 84 4 _ rfl rfl) (by simp -implicitDefEqProofs only[go_sem]<;>rfl) ?_ ?_
  ·simp[yY]; omega
  simp -implicitDefEqProofs only[go_sem]; exact⟨_,_,_,.inl rfl,rfl,by simp[yY]; omega,hend⟩
theorem asp (p:aO->Bool) (l:List aO) (hl:l.length<=1000000) (v:Nat) (k:FuncId) (fs cs:List PV) (hp:∀x∈l,aS Tryz.prog k (fs++[pA (aH x)]++cs) (λr=>r = .val (.bool (p x)))) :
  j5 Tryz.prog 137 v 87 4 (l.map aH) [.gR (.func k) fs cs] (λa c=>a = .row 1000000 (v+1)/\c=some (.row (v+1) 87 4 ((l.filter λx=>!p x).map aH))):=by
 refine qI ?_; refine lW [] Ty.mixed func137 rfl (by kernel_rfl) (by simp[ntmps137]) ?_; rw[ntmps137,results137]; simp -implicitDefEqProofs only[go_sem]; refine aY (ae3 p l hl k fs cs hp) (by simp -implicitDefEqProofs only[go_sem]<;>rfl) (bY rfl) ?_; simp -implicitDefEqProofs only[go_sem]; refine aL (λhc=>?_) (λhc=>?_)
 ·have pN:=of_decide_eq_true hc; simp -implicitDefEqProofs only[go_sem]; exact⟨_,_,0,rfl,rfl,Nat.le_refl _,by rw[List.take_length,acS pN]⟩
 have pN:=of_decide_eq_false hc; obtain⟨i0,hi0,abO,hf0,hp0⟩:=acT pN; simp -implicitDefEqProofs only[go_sem,hi0,bq abO (by omega)]; have hr0:ff p l [l.getD i0 default] (i0+1)=l:=by have h1:=(nL p l [] i0 abO hp0).1; rw[List.nil_append] at h1; rw[<-h1,ff,hf0,List.append_nil,List.take_append_drop]
 have hf1:((l.take (i0+1)).filter λx=>!p x).length=i0:=by rw[(nL p l [] i0 abO hp0).2,hf0,List.length_take]; omega
 refine bH (σ:=Nat×Nat×aO×List aO) (λx=>(ct (ct (ct (ct fA 0 (.row 1000000 v)) 1 (.p (.gR (.func k) fs cs))) 5 (.p (.val (.int .i64 x.1)))) 6 (.p (.val (.int .i64 x.2.1))))) (λx=>(bl b8 1000000 (.row v 87 4 ((ff p l (x.2.2.1 :: x.2.2.2) x.2.1).map aH))))
  (λx=>((l.take x.2.1).filter λz=>!p z).length=x.1/\x.1+(x.2.2.2.length+1)=x.2.1/\x.2.1<=l.length) (λx=>l.length - x.2.1) (i0,i0+1,l.getD i0 default,[]) ⟨hf1,rfl,abO⟩ ?_ ?_
 ·rw[hr0]; exact bR
 rintro⟨i,j,y,g⟩ ⟨hx1,hx2,hx3⟩; simp only at hx1 hx2 hx3; have hlen:(ff p l (y :: g) j).length=l.length:=acU p l (y :: g) j i hx1 hx2 hx3; simp -implicitDefEqProofs only[go_sem]; refine aL (λhc=>?_) (λhc=>?_)
 ·have hlt:j<l.length:=by have:=of_decide_eq_true hc; rw[hlen] at this; exact this
  have hj:j<(ff p l (y :: g) j).length:=by rw[hlen]; exact hlt
  have uN:((ff p l (y :: g) j).map aH).getD j []=aH (l.getD j default):=by rw[getD_map aH hj,ae2 p l (y :: g) j i hx1 hx2 hlt]
  simp -implicitDefEqProofs only[go_sem,uN,aH,bh]; refine⟨hj,hj,?_⟩; refine aY (hp (l.getD j default) (by simp[hlt])) (by simp -implicitDefEqProofs only[go_sem,jw,jv,aH,pA,bh,Bool.or_false,Bool.false_or,uN]<;>rfl) (bY rfl) ?_; simp -implicitDefEqProofs only[go_sem,uN,aH,bh]; refine aX (λhb=>?_) (λhb=>?_)
  ·obtain⟨k1,k2⟩:=nL p l (y :: g) j hlt hb; simp -implicitDefEqProofs only[go_sem,bq hlt (by omega),uN,aH,bh]; refine bJ (i,j+1,y,g++[l.getD j default]) ⟨by rw[k2]; exact hx1,by simp; omega,hlt⟩ (by simp only; omega) ?_; rw[k1]; exact bR
  ·obtain⟨k1,k2⟩:=aaN p l y g j i hx1 hlt hb; have hij:i<j:=by omega
   have hi':i<(ff p l (y :: g) j).length:=by omega
   have hgi:((ff p l (y :: g) j).map aH).getD i []=aH ((ff p l (y :: g) j).getD i default):=by rw[getD_map aH hi']
   obtain⟨y2,g2,hg2,hl2⟩:∃y2 g2,g++[l.getD j default]=y2 :: g2/\g2.length=g.length:=by
    cases g with
    | nil=>exact⟨_,[],rfl,rfl⟩
    | cons a r=>exact⟨a,r++[l.getD j default],rfl,by simp⟩
   rw[hg2] at k1; have hst:((ff p l (y :: g) j).map aH).set i (aH (l.getD j default))=(ff p l (y2 :: g2) (j+1)).map aH:=by rw[<-k1,List.map_set]
   simp only[aH,bh] at hst; simp -implicitDefEqProofs only[go_sem,hgi,aH,bh,bq hlt (by omega),bq hij (by omega),uN]; refine⟨hi',hi',?_⟩; refine bJ (i+1,j+1,y2,g2) ⟨by rw[k2,List.length_append,hx1]; rfl,by simp only; omega,hlt⟩ (by simp only; omega) ?_; rw[hst]; exact bR
 ·have hge:j=l.length:=by have:=of_decide_eq_false hc; rw[hlen] at this; omega
  subst hge; rw[List.take_length] at hx1; simp -implicitDefEqProofs only[go_sem]; refine sv _ _ (mO 36 1000000 v 87 4 _ rfl rfl) (by simp -implicitDefEqProofs only[go_sem]<;>rfl) ?_ ?_
  ·rw[hlen]; omega
  simp -implicitDefEqProofs only[go_sem,hlen]; have yY:((ff p l (y :: g) l.length).map aH).length=l.length:=by rw[List.length_map]; exact hlen
  have hend:=anO aH ((cI Tryz.prog 87).getD [] |>.map PV.val) p l (y :: g) i hx1; rw[show (cI Tryz.prog 87).getD []=_ from by simp -implicitDefEqProofs only[go_sem]<;>rfl] at hend; simp only[qv,List.length_replicate,List.append_assoc,List.map_cons,List.map_nil] at hend; generalize (ff p l (y :: g) l.length).map aH=E at yY hend ⊢; refine qH 37 _ 1000000 v i (l.length - i) _ 87 4 E _ rfl (by simp -implicitDefEqProofs only[go_sem]) (by simp -implicitDefEqProofs only[go_sem]<;>rfl) rfl (by decide) rfl (by simp -implicitDefEqProofs only[go_sem]<;>rfl) (by simp -implicitDefEqProofs only[go_sem]) (by omega) (by omega) ?_; simp -implicitDefEqProofs only[go_sem]; refine sv _ _ (mO 39 1000000 v 87 4 _ rfl rfl) (by simp -implicitDefEqProofs only[go_sem]<;>rfl) ?_ ?_
  ·simp[yY]; omega
  simp -implicitDefEqProofs only[go_sem]; exact⟨_,_,_,.inl rfl,rfl,by simp[yY]; omega,hend⟩
end Go.Proofs.YtllicmcihlfajaaGreat
namespace Go.cE
def Ok {α:Type} (x:Option α) (Q:α->Prop):Prop:=∃r,x=some r/\Q r
section
variable {α β σ O:Type} {Q:O->Prop}
theorem Ok.mk {r:O} (h:Q r):Ok (some r) Q:=⟨r,rfl,h⟩
theorem Ok.eq {x:Option α} {r:α} (h:Ok x (λy=>y=r)):x=some r:=by obtain⟨y,h1,rfl⟩:=h; exact h1
theorem Ok.of {x:Option α} {r:α} (h:x=some r):Ok x (λy=>y=r):=⟨r,h,rfl⟩
theorem Ok.mono {x:Option O} {Q':O->Prop} (h:Ok x Q) (hq:∀r,Q r->Q' r):Ok x Q':=by obtain⟨r,h1,h2⟩:=h; exact⟨r,h1,hq r h2⟩
theorem jG {p:Prop} [Decidable p] {x:Option O} (hp:p) (h:Ok x Q):Ok (cU p x) Q:=by unfold cU; rw[if_pos hp]; exact h
theorem iw {b:Bool} {x y:Option O} (h1:b=true->Ok x Q) (h2:b=false->Ok y Q):Ok (cond b x y) Q:=by
 cases b
 ·exact h2 rfl
 ·exact h1 rfl
theorem pz {b:Bool} {x y:Option O} (hb:b=true) (h1:Ok x Q):Ok (cond b x y) Q:=by subst hb; exact h1
theorem awx {b:Bool} {x y:Option O} (hb:b=false) (h1:Ok y Q):Ok (cond b x y) Q:=by subst hb; exact h1
theorem acV {x:Option α} {k:α->Option O} {R:α->Prop} (h:Ok x R) (hk:∀r,R r->Ok (k r) Q):Ok (thn x k) Q:=by obtain⟨r,rfl,h2⟩:=h; exact hk r h2
theorem ok_eq {x:Option α} {k:α->Option O} {r:α} (h:x=some r) (hk:Ok (k r) Q):Ok (thn x k) Q:=by subst h; exact hk
theorem mV {l:List α} {k:α->Option O} {i:Nat} (hi:i<l.length) (h:Ok (k l[i]) Q):Ok (thn l[i]? k) Q:=ok_eq (List.getElem?_eq_getElem hi) h
theorem yH {l:List α} {k:α->Option O} {i:Int} (h0:0<=i) (hi:i.toNat<l.length) (h:Ok (k l[i.toNat]) Q):Ok (thn (oI l i) k) Q:=ok_eq (by unfold oI; rw[if_pos h0]; exact List.getElem?_eq_getElem hi) h
theorem sB {f:Nat->σ->(σ->Option O)->(σ->Option O)->Option O} {K:σ->Option O} (φ:Nat->σ->Prop) {n i:Nat} {s:σ} (hi:i<=n) (h0:φ i s)
  (hr:∀j s (cv:σ->Option O),i<=j->j<n->φ j s->(∀s',φ (j+1) s'->Ok (cv s') Q)->Ok (f j s cv K) Q) (he:∀s,φ n s->Ok (K s) Q):Ok (bP f (n - i) i s K) Q:=by
 have key:∀k j s,j+k=n->i<=j->φ j s->Ok (bP f k j s K) Q:=by
  intro k
  induction k with
  | zero =>
   intro j s hj _ h; have:j=n:=by omega
   subst this; exact he s h
  | succ k ih=>intro j s hj hij h; exact hr j s _ hij (by omega) h λs' h'=>ih (j+1) s' (by omega) (by omega) h'
 exact key (n - i) i s (by omega) (Nat.le_refl _) h0
theorem aiu {f:σ->(σ->Option O)->(σ->Option O)->Option O} {K:σ->Option O} (φ:σ->Prop) (μ:σ->Nat) {n:Nat} {s:σ} (h0:φ s) (hm:μ s<n)
  (hr:∀s (cv:σ->Option O),φ s->(∀s',φ s'->μ s'<μ s->Ok (cv s') Q)->Ok (f s cv K) Q):Ok (iter f n s K) Q:=by
 have key:∀n s,φ s->μ s<n->Ok (iter f n s K) Q:=by
  intro n
  induction n with
  | zero=>intro s _ h; omega
  | succ n ih=>intro s h hm; exact hr s _ h λs' h' hlt=>ih s' h' (by omega)
 exact key n s h0 hm
theorem gT {n:Int} (h : -9223372036854775808<=n/\n<=9223372036854775807):IntKind.i64.wrap n=n:=IntWalk.i64_in n (by omega)
end
theorem ql {α:Type} {p:Prop} {x:α} (h:p):giv p x=some x:=by unfold giv; rw[if_pos h]
end Go.cE
namespace Go.cE
open Go.RowKit
variable {P:Program} {N:Nat} {own:List Nat}
theorem eW {ops:Array Oper} {K:Env->ay->Prop} {env:Env} {H:ay} (id v:Nat) (e:TypeId) (sz:Nat) (es:List (List PV)) (ts:List Nat) (hH:H id=some (.row v e sz es)) (ht:holds env id v ts) (hn:ts.Nodup)
  (hw:xd P N own ops K (alT (.p (.aU es)) ts env) (bl H id (.shut v es))):xd P N own ops K env H:=by
 intro C I L tm w hN hs; have h1:=Fr.shut C I L w hH env tm hs; exact hw C _ L tm w hN (acw (by simp[bl]) ts _ hn h1 ht)
theorem toNat_lt {i:Int} {n:Nat} (h:0<=i) (k:i<(n:Int)):i.toNat<n:=by omega
def abP (own:List Nat) (ops:Array Oper) (id:Nat):Nat->Prop
 | 0=>True
 | n+1=>kO own ops id=false/\abP own ops (id+1) n
variable {ops:Array Oper}
theorem asq (id:Nat):abP own ops id 1=(kO own ops id=false/\True):=rfl
theorem akQ (id:Nat):abP own ops id 3=(kO own ops id=false/\kO own ops (id+1)=false/\kO own ops (id+1+1)=false/\True):=rfl
theorem anR (id:Nat):abP own ops id 4=(kO own ops id=false/\kO own ops (id+1)=false/\kO own ops (id+1+1)=false/\kO own ops (id+1+1+1)=false/\True):=rfl
theorem ae4:∀ (n id:Nat),abP own ops id n->∀i,id<=i->i<id+n->kO own ops i=false
 | 0,id,_,i,h1,h2=>by omega
 | n+1,id,h,i,h1,h2=>by
  rcases Nat.lt_or_ge id i with h' | h'
  ·exact ae4 n (id+1) h.2 i (by omega) (by omega)
  ·have:i=id:=by omega
   subst this; exact h.1
theorem ad4 {env:Env} {H:ay} {o:Oper} {W:Env->ay->Prop} {k:FuncId} {ps ps':List PV} {b:Bool} (id:Nat) {r:RV} (c:bu P k ps λx=>x=r) (he:jF o (ev env) (ou own ops H)=some (k,ps',b)) (hp:pq ps' ps) (hb:b=true->r.flat=true)
  (hf:ry H id ((cF id r).2 - id)) (hn:abP own ops id ((cF id r).2 - id)) (hW:W (cA env o.dst (cF id r).1) (fR id H r)):aeE P own ops o W env H:=by
 have c':bu P k ps' λx=>x=r:=c.args (qT _ _ hp)
 have hle:=yc r id; unfold jF at he; cases ha:di o (ev env) with
 | none=>rw[ha] at he; cases he
 | some q =>
  obtain⟨k',en⟩:=q; rw[ha] at he; simp only[] at he; cases hl:dS (fZ (ou own ops H)) en with
  | none=>rw[hl] at he; cases he
  | some q=>obtain⟨qs,b'⟩:=q; rw[hl] at he; simp only[Option.some.injEq,Prod.mk.injEq] at he; obtain⟨rfl,rfl,rfl⟩:=he; exact⟨_,_,⟨_,en,_,_,r,id,ha,hl,c',hb,λi h1 h2=>⟨aaG _ id hf i h1 (by omega),ae4 _ id hn i h1 (by omega)⟩,rfl,rfl⟩,hW⟩
attribute [go_sem] asq akQ anR
end Go.cE
set_option maxRecDepth 20000
namespace Go.Proofs.YtllicmcihlfajaaGreat
open Go.cE
structure aZ where
 a:az
 p:aG
 q:aG
def bN (x:aZ):List PV:=[.aU (x.a.host.graph.nodes.map encI),.aU (x.a.host.graph.au.map bf),.aU (x.a.host.values.map b9),.aU (x.a.nodes.map encI),.aU (x.a.au.map encI),.val (.int .i64 x.a.next),.aU (x.p.ax.map ag),.aU (x.p.aD.map ah),.aU (x.p.aQ.map ag),.aU (x.p.aM.map ah),.aU (x.p.values.map aH),.val (.int .i64 x.p.next.x0),.val (.int .i64 x.p.next.x1),.aU (x.q.ax.map ag),.aU (x.q.aD.map ah),.aU (x.q.aQ.map ag),.aU (x.q.aM.map ah),.aU (x.q.values.map aH),.val (.int .i64 x.q.next.x0),.val (.int .i64 x.q.next.x1)]
structure wg where
 x0:aG
 x1:aG
def lD (x:wg):List PV:=[.aU (x.x0.ax.map ag),.aU (x.x0.aD.map ah),.aU (x.x0.aQ.map ag),.aU (x.x0.aM.map ah),.aU (x.x0.values.map aH),.val (.int .i64 x.x0.next.x0),.val (.int .i64 x.x0.next.x1),.aU (x.x1.ax.map ag),.aU (x.x1.aD.map ah),.aU (x.x1.aQ.map ag),.aU (x.x1.aM.map ah),.aU (x.x1.values.map aH),.val (.int .i64 x.x1.next.x0),.val (.int .i64 x.x1.next.x1)]
def jl (l:List aI):List PV:=[.aU (l.map aC)]
def oB (x:Host):List PV:=[.aU (x.graph.nodes.map encI),.aU (x.graph.au.map bf),.aU (x.values.map b9)]
structure cu where
 je:Int
 node:Int
 count:Int
 out:Bool
def cW (x:cu):List PV:=[.val (.int .i64 x.je),.val (.int .i64 x.node),.val (.int .i64 x.count),.val (.bool x.out)]
structure bn where
 id:Int
 je:Int
 out:Bool
def ck (x:bn):List PV:=[.val (.int .i64 x.id),.val (.int .i64 x.je),.val (.bool x.out)]
def hU (l:List bn):List PV:=[.aU (l.map ck)]
structure aP where
 nodes:List aj
 au:List ak
structure bG where
 id:Int
 je:Int
 out:Bool
def bS (x:bG):List PV:=[.val (.int .i64 x.id),.val (.int .i64 x.je),.val (.bool x.out)]
attribute [local go_sem] Nat.reduceEqDiff Nat.reduceLT Nat.reduceLeDiff Nat.reduceMul Nat.reduceAdd Nat.reduceBEq Nat.reduceSub Int.reduceToNat reduceIte reduceCtorEq yq List.cons_append List.nil_append aV bf aK encI bh jl hU aJ b9 gC cG oB lD aC cW aB ah ag aH aA ck bN bS
noncomputable section
end
end Go.Proofs.YtllicmcihlfajaaGreat
namespace Go.Proofs.YtllicmcihlfajaaGreat
open Go.cE
noncomputable def lE (t:Types):Option (ByteArray×Int):=giv (ga t) (iz t)
theorem vv (t:Types) (r:ByteArray×Int) (h:lE t=some r):aS Tryz.prog 93 [aF t] (λv=>v = .dB [.val (.string r.1),.val (.int .i64 r.2)]):=by obtain⟨h1,rfl⟩:=sg h; exact acM t h1
noncomputable def sC (t:Types) (h:Host):Option (Int×Int):=giv (ga t/\tU h) (j6 t h)
theorem abQ (t:Types) (h:Host) (r:Int×Int) (hr:sC t h=some r):aS Tryz.prog 160 [aF t,cz h] (λv=>v = .dB [.val (.int .i64 r.1),.val (.int .i64 r.2)]):=by obtain⟨⟨h1,h2⟩,rfl⟩:=sg hr; exact arw t h1 h h2
noncomputable def jx (t:Types) (h:Host):Option (Int×Int):=giv (ga t/\tU h) (j6 t h)
theorem o5 (t:Types) (h:Host) (r:Int×Int) (hr:jx t h=some r):aS Tryz.prog 55 [aF t,cz h] (λv=>v = .dB [.val (.int .i64 r.1),.val (.int .i64 r.2)]):=by obtain⟨⟨h1,h2⟩,rfl⟩:=sg hr; exact ann t h1 h h2
noncomputable def af7 (t:Types) (a:Int):Option (List Attr×Int):=giv (OkT t/\0<=a/\a<t.nodes.length) (bp t a.toNat,0)
theorem axQ (t:Types) (a:Int) (r:List Attr×Int) (h:af7 t a=some r):aS Tryz.prog 237 [aF t,.val (.int .i64 a)] (λv=>v = .dB [.aU (r.1.map aV),.val (.int .i64 r.2)]):=by obtain⟨⟨h1,h2,h3⟩,rfl⟩:=sg h; obtain⟨n,rfl⟩:=Int.eq_ofNat_of_zero_le h2; exact agO t h1 n (by omega)
noncomputable def mh (l:List Int):Option (List Int):=giv (l.length<=1000000) l
theorem tA (l:List Int) (r:List Int) (h:mh l=some r):bu Tryz.prog 200 [.aU (l.map encI)] (λv=>v = .row 3 1 (r.map encI)):=by obtain⟨h1,rfl⟩:=sg h; exact agL l h1
noncomputable def uU (t:Types) (l:List Int):Option Int:=giv (ga t/\l.length<=1000000) (pR t l)
theorem af8 (t:Types) (l:List Int) (r:Int) (h:uU t l=some r):aS Tryz.prog 238 [aF t,.aU (l.map encI)] (λv=>v = .val (.int .i64 r)):=by obtain⟨⟨h1,h2⟩,rfl⟩:=sg h; exact aeU t h1 l h2
noncomputable def aaO (t:Types) (a b:Int):Option Bool:=giv (OkT t/\0<=a/\a<t.nodes.length) (isB t a b)
theorem anS (t:Types) (a b:Int) (r:Bool) (h:aaO t a b=some r):aS Tryz.prog 239 [aF t,.val (.int .i64 a),.val (.int .i64 b)] (λv=>v = .val (.bool r)):=by obtain⟨⟨h1,h2,h3⟩,rfl⟩:=sg h; obtain⟨n,rfl⟩:=Int.eq_ofNat_of_zero_le h2; exact ani t h1 n (by omega) b
noncomputable def gN (t:Types) (a b:Int):Option Bool:=giv (ga t/\OkT t/\0<=a/\a<t.nodes.length/\0<=b) (isB t a b)
theorem oC (t:Types) (a b:Int) (r:Bool) (h:gN t a b=some r):aS Tryz.prog 154 [aF t,.val (.int .i64 a),.val (.int .i64 b)] (λv=>v = .val (.bool r)):=by obtain⟨⟨h0,h1,h2,h3,h4⟩,rfl⟩:=sg h; exact acN t b h4 h0 (a.toNat+1) a (by omega) (by omega) h3 h1.par
end Go.Proofs.YtllicmcihlfajaaGreat
