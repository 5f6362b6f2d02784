/- Joined texts, part 7: lemmas for the statement. No condition. -/
import Derived.Test.YtjhkgjlmiolfoaaGreatK5
import Derived.Test.YtjhkgjlmiolfoaaGreatK6
import Derived.Test.YtjhkgjlmiolfoaaGreatK4
import Derived.Test.YtjhkgjlmiolfoaaGreatK3
import Derived.Test.YtjhkgjlmiolfoaaGreatRows
set_option maxHeartbeats 4000000
set_option linter.unusedSimpArgs false
set_option linter.unusedVariables false
open Nat (reduceEqDiff reduceLT reduceLeDiff reduceMul reduceAdd reduceSub)
open Go.IntKind (i64)
open Go.Proofs.Tryz
open Go.Proofs.Tryz renaming prog → pw
set_option maxRecDepth 20000
namespace Go.Proofs.YtjhkgjlmiolfoaaGreat
open Go.cq
noncomputable section
theorem vg(a0:Types)(a1:ax)(a2:jE)(r:ax)(h:gM a0 a1 a2=some r):br pw 88 [.agg [.aV (a0.nodes.map aJ),.aV (a0.ak.map aM)],.agg (aA a1),.agg (dP a2)] (λv=>v = .agg [.row 3 1 (r.host.graph.nodes.map encI),.row 175 3 (r.host.graph.ak.map aZ),.row 32 1 (r.host.values.map bJ),.row 3 1 (r.nodes.map encI),.row 3 1 (r.ak.map encI),.p (.val (.int .i64 r.next))]):=by
 refine br.tK ?_;refine bE [115,188] func88 ?_;rw[ntmps88,results88];unfold gM at h;have F:=trivial;refine zD [.q,.q,.q,.q,.q,.q,.q,.q] ?_;refine zF (show (0:Int)<=1 by decide) F λF=>?_
 refine zF (show (1:Int)<((3:Nat):Int) by decide) F λF=>?_
 refine zF (show (0:Int)<=2 by decide) F λF=>?_
 refine zF (show (2:Int)<((3:Nat):Int) by decide) F λF=>?_
 refine zG 1352 F h (u9 _) λr3 h=>?_
 refine zD [.q,.q,.q,.q,.q,.q,.q,.q] ?_;refine zF (show (0:Int)<=0 by decide) F λF=>?_
 refine zF (show (0:Int)<((3:Nat):Int) by decide) F λF=>?_
 refine zF (show ¬ ((5:Int)=0) by decide) F λF=>?_
 refine nH F h (λF h=>?_) λF h=>?_
 ·refine zB F h (λF h=>?_) λF h=>?_
  ·refine zD [.q,.q,.q,.q,.q,.q,.q,.q,.q] ?_;refine zC F h λF h=>?_
   refine zAq bJ F h λe4 qe4 F h=>?_
   refine zB F h (λF h=>?_) λF h=>?_
   ·refine zD [.q,.q,.q,.q,.q,.q,.q,.q,.q,.q,.q,.q,.q,.q,.t] ?_;refine zC F h λF h=>?_
    refine zC F h λF h=>?_
    refine zA encI F h λe5 F h=>?_
    refine zF (wJ encI e4 (((i64.wrap a2.x2).tmod ((e4.length:Nat):Int)).toNat) (i64.wrap (e5+1)) (c:=[.val (.int .i64 (i64.wrap (e5+1)))]) rfl) F λF=>?_
    refine zF (wJ bJ r3.host.values (((i64.wrap a2.x1).tmod ((a1.nodes.length:Nat):Int)).toNat) (e4.set (((i64.wrap a2.x2).tmod ((e4.length:Nat):Int)).toNat) (i64.wrap (e5+1))) (c:=[.aV ((e4.set (((i64.wrap a2.x2).tmod ((e4.length:Nat):Int)).toNat) (i64.wrap (e5+1))).map encI)]) rfl) F λF=>?_
    refine zV ?_;refine afG 3 _ _ 1354 0 (((i64.wrap a2.x1).tmod ((a1.nodes.length:Nat):Int)).toNat) (((i64.wrap a2.x2).tmod ((e4.length:Nat):Int)).toNat) 32 1 0 3 (r3.host.values.map bJ) (bJ e4) (e4.map encI) (.val (.int .i64 (i64.wrap (e5+1)))) rfl (by simp -implicitDefEqProofs only[go_sem,F]<;>rfl) (by simp -implicitDefEqProofs only[go_sem,F]) (by simp -implicitDefEqProofs only[go_sem,F]) ⟨rfl,rfl⟩ (by simp -implicitDefEqProofs only[go_sem,F]<;>rfl) (by rw[List.getElem?_map,aEt qe4];rfl) rfl (by rw[List.length_map];omega) ?_;refine zV ?_;refine jK _ _ (kj 1354 0 32 1 0 3 1 ((r3.host.values.set (((i64.wrap a2.x1).tmod ((a1.nodes.length:Nat):Int)).toNat) (e4.set (((i64.wrap a2.x2).tmod ((e4.length:Nat):Int)).toNat) (i64.wrap (e5+1)))).map bJ) (by decide) (by simp -implicitDefEqProofs only[go_sem,F]<;>rfl)) (by simp -implicitDefEqProofs only[go_sem,F]<;>rfl) (by first|trivial|(simp -implicitDefEqProofs only[go_sem,F]<;>trivial)) ?_;exact iR h
   ·refine zV ?_;refine jK _ _ (kj 1354 0 32 1 0 3 1 (r3.host.values.map bJ) (by decide) (by simp -implicitDefEqProofs only[go_sem,F]<;>rfl)) (by simp -implicitDefEqProofs only[go_sem,F]<;>rfl) (by first|trivial|(simp -implicitDefEqProofs only[go_sem,F]<;>trivial)) ?_;exact iR h
  ·refine zF (show decide (((i64.wrap a2.x0).tmod 5)=1)=false from eT (by have w:=F;simp only[decide_eq_true_eq] at w;omega)) F λF=>?_
   refine zF (show decide (((i64.wrap a2.x0).tmod 5)=2)=false from eT (by have w:=F;simp only[decide_eq_true_eq] at w;omega)) F λF=>?_
   refine zF (show decide (((i64.wrap a2.x0).tmod 5)=3)=false from eT (by have w:=F;simp only[decide_eq_true_eq] at w;omega)) F λF=>?_
   refine zF (show decide (((i64.wrap a2.x0).tmod 5)=4)=false from eT (by have w:=F;simp only[decide_eq_true_eq] at w;omega)) F λF=>?_
   refine zV ?_;refine jK _ _ (kj 1354 0 32 1 0 3 1 (r3.host.values.map bJ) (by decide) (by simp -implicitDefEqProofs only[go_sem,F]<;>rfl)) (by simp -implicitDefEqProofs only[go_sem,F]<;>rfl) (by first|trivial|(simp -implicitDefEqProofs only[go_sem,F]<;>trivial)) ?_;exact iR h
 ·refine nH F h (λF h=>?_) λF h=>?_
  ·refine zB F h (λF h=>?_) λF h=>?_
   ·refine zD [.q,.q,.q,.q,.f,.w] ?_;refine zC F h λF h=>?_
    refine zH 2216 F h (oT _ _ _) λr6 h=>?_
    exact iR h
   ·refine zF (show decide (((i64.wrap a2.x0).tmod 5)=2)=false from eT (by have w:=F;simp only[decide_eq_true_eq] at w;omega)) F λF=>?_
    refine zF (show decide (((i64.wrap a2.x0).tmod 5)=3)=false from eT (by have w:=F;simp only[decide_eq_true_eq] at w;omega)) F λF=>?_
    refine zF (show decide (((i64.wrap a2.x0).tmod 5)=4)=false from eT (by have w:=F;simp only[decide_eq_true_eq] at w;omega)) F λF=>?_
    refine zV ?_;refine jK _ _ (kj 1354 0 32 1 0 3 1 (r3.host.values.map bJ) (by decide) (by simp -implicitDefEqProofs only[go_sem,F]<;>rfl)) (by simp -implicitDefEqProofs only[go_sem,F]<;>rfl) (by first|trivial|(simp -implicitDefEqProofs only[go_sem,F]<;>trivial)) ?_;exact iR h
  ·refine nH F h (λF h=>?_) λF h=>?_
   ·refine zB F h (λF h=>?_) λF h=>?_
    ·refine zD [.q,.q,.q,.q,.f,.w] ?_;refine zC F h λF h=>?_
     refine zH 2408 F h (oT _ _ _) λr7 h=>?_
     exact iR h
    ·refine zF (show decide (((i64.wrap a2.x0).tmod 5)=3)=false from eT (by have w:=F;simp only[decide_eq_true_eq] at w;omega)) F λF=>?_
     refine zF (show decide (((i64.wrap a2.x0).tmod 5)=4)=false from eT (by have w:=F;simp only[decide_eq_true_eq] at w;omega)) F λF=>?_
     refine zV ?_;refine jK _ _ (kj 1354 0 32 1 0 3 1 (r3.host.values.map bJ) (by decide) (by simp -implicitDefEqProofs only[go_sem,F]<;>rfl)) (by simp -implicitDefEqProofs only[go_sem,F]<;>rfl) (by first|trivial|(simp -implicitDefEqProofs only[go_sem,F]<;>trivial)) ?_;exact iR h
   ·refine zB F h (λF h=>?_) λF h=>?_
    ·refine zF (show (0:Int)<=1 by decide) F λF=>?_
     refine zF (show (1:Int)<((3:Nat):Int) by decide) F λF=>?_
     refine zF (show (0:Int)<=2 by decide) F λF=>?_
     refine zF (show (2:Int)<((3:Nat):Int) by decide) F λF=>?_
     refine zT F h (qE _ _) λr8 h=>?_
     refine zB F h (λF h=>?_) λF h=>?_
     ·refine zV ?_;refine aut (kj 1354 0 32 1 0 3 1 (r3.host.values.map bJ) (by decide) (by simp -implicitDefEqProofs only[go_sem,F]<;>rfl)) ?_;refine zE [(0,.p),(1,.p),(2,.p),(4,.p),(5,.p),(11,.p),(12,.p),(14,.b),(15,.b),(16,.b),(17,.b),(18,.p),(3,.q),(6,.q),(7,.q),(8,.q),(13,.b),(9,.w),(10,.w),(20,.b),(21,.b),(22,.b),(19,.w),(23,.w),(24,.q),(25,.q),(26,.w)] ?_;refine zJ 0 bJ F h λe9 F h=>?_
      refine zJ 0 encI F h λu6 F h=>?_
      refine zC F h λF h=>?_
      refine zF (eq_true (show (r3.host.graph.nodes.length+1) * 8<=140737488355328 by omega)) F λF=>?_
      refine zF (bh encI r3.host.graph.nodes [u6] (c:=[[.val (.int .i64 u6)]]) rfl) F λF=>?_
      refine zC F h λF h=>?_
      refine zF (eq_true (show (r3.host.values.length+1) * 24<=140737488355328 by omega)) F λF=>?_
      refine zF (bh bJ r3.host.values [e9] (c:=[[.aV (e9.map encI)]]) rfl) F λF=>?_
      refine zE [(0,.p),(2,.q),(3,.q),(4,.p),(1,.q),(6,.b),(7,.b),(5,.w),(8,.p),(9,.q),(10,.w),(11,.q),(12,.w)] ?_;refine zC F h λF h=>?_
      refine zF (eq_true (show (r3.nodes.length+1) * 8<=140737488355328 by omega)) F λF=>?_
      refine zF (bh encI r3.nodes [r3.next] (c:=[[.val (.int .i64 r3.next)]]) rfl) F λF=>?_
      refine zV ?_;refine jK _ _ ((show True->cU _ _ _ _ from λ_ C I L tm w hs=>⟨I,L,hs⟩) (by simp -implicitDefEqProofs only[go_sem,F]<;>rfl)) (by simp -implicitDefEqProofs only[go_sem,F]<;>rfl) (by first|trivial|(simp -implicitDefEqProofs only[go_sem,F]<;>trivial)) ?_;exact iR h
     ·refine zV ?_;refine jK _ _ (kj 1354 0 32 1 0 3 1 (r3.host.values.map bJ) (by decide) (by simp -implicitDefEqProofs only[go_sem,F]<;>rfl)) (by simp -implicitDefEqProofs only[go_sem,F]<;>rfl) (by first|trivial|(simp -implicitDefEqProofs only[go_sem,F]<;>trivial)) ?_;exact iR h
    ·refine nH F h (λF h=>?_) λF h=>?_
     ·refine nH F h (λF h=>?_) λF h=>?_
      ·refine zB F h (λF h=>?_) λF h=>?_
       ·refine zE [(0,.p),(1,.p),(2,.p),(4,.q),(5,.q),(6,.q),(7,.q),(8,.q),(9,.q),(10,.q),(11,.q),(12,.q),(13,.q),(14,.q),(15,.q),(16,.q),(17,.p),(3,.q),(18,.w),(19,.q),(20,.q),(21,.q),(22,.w)] ?_;refine zC F h λF h=>?_
        refine zF (show ¬ ((5:Int)=0) by decide) F λF=>?_
        refine zC F h λF h=>?_
        refine zC F h λF h=>?_
        refine zC F h λF h=>?_
        refine zF (eq_true (show (r3.host.graph.ak.length+1) * 24<=140737488355328 by omega)) F λF=>?_
        refine zF (bh aZ r3.host.graph.ak [(⟨((i64.wrap a2.x1).tmod ((a0.ak.length:Nat):Int)),((i64.wrap ((i64.wrap a2.x1).tdiv 5)).tmod ((a1.nodes.length:Nat):Int)),((i64.wrap a2.x2).tmod ((a1.nodes.length:Nat):Int))⟩:Edge)] (c:=[[.val (.int .i64 ((i64.wrap a2.x1).tmod ((a0.ak.length:Nat):Int))),.val (.int .i64 ((i64.wrap ((i64.wrap a2.x1).tdiv 5)).tmod ((a1.nodes.length:Nat):Int))),.val (.int .i64 ((i64.wrap a2.x2).tmod ((a1.nodes.length:Nat):Int)))]]) rfl) F λF=>?_
        refine zE [(0,.p),(2,.q),(3,.q),(4,.p),(1,.q),(6,.b),(7,.b),(5,.w),(8,.p),(9,.q),(10,.w),(11,.q),(12,.w)] ?_;refine zC F h λF h=>?_
        refine zF (eq_true (show (r3.ak.length+1) * 8<=140737488355328 by omega)) F λF=>?_
        refine zF (bh encI r3.ak [r3.next] (c:=[[.val (.int .i64 r3.next)]]) rfl) F λF=>?_
        refine zV ?_;refine jK _ _ (kj 1354 0 32 1 0 3 1 (r3.host.values.map bJ) (by decide) (by simp -implicitDefEqProofs only[go_sem,F]<;>rfl)) (by simp -implicitDefEqProofs only[go_sem,F]<;>rfl) (by first|trivial|(simp -implicitDefEqProofs only[go_sem,F]<;>trivial)) ?_;exact iR h
       ·refine zV ?_;refine jK _ _ (kj 1354 0 32 1 0 3 1 (r3.host.values.map bJ) (by decide) (by simp -implicitDefEqProofs only[go_sem,F]<;>rfl)) (by simp -implicitDefEqProofs only[go_sem,F]<;>rfl) (by first|trivial|(simp -implicitDefEqProofs only[go_sem,F]<;>trivial)) ?_;exact iR h
      ·refine zV ?_;refine jK _ _ (kj 1354 0 32 1 0 3 1 (r3.host.values.map bJ) (by decide) (by simp -implicitDefEqProofs only[go_sem,F]<;>rfl)) (by simp -implicitDefEqProofs only[go_sem,F]<;>rfl) (by first|trivial|(simp -implicitDefEqProofs only[go_sem,F]<;>trivial)) ?_;exact iR h
     ·refine zV ?_;refine jK _ _ (kj 1354 0 32 1 0 3 1 (r3.host.values.map bJ) (by decide) (by simp -implicitDefEqProofs only[go_sem,F]<;>rfl)) (by simp -implicitDefEqProofs only[go_sem,F]<;>rfl) (by first|trivial|(simp -implicitDefEqProofs only[go_sem,F]<;>trivial)) ?_;exact iR h
end
noncomputable section
theorem zp(a0:Types)(a1:ax)(a2:aG)(a3:aG)(a4:ax)(a5:ax)(r:(List aI)×Int)(h:mg a0 a1 a2 a3 a4 a5=some r):br pw 53 [.agg [.aV (a0.nodes.map aJ),.aV (a0.ak.map aM)],.agg (aA a1),.agg (aD a2),.agg (aD a3),.agg (aA a4),.agg (aA a5)] (λv=>v = .dQ [.row 57 3 (r.1.map aB),.p (.val (.int .i64 r.2))]):=by
 refine br.tK ?_;refine bE [61] func53 ?_;rw[ntmps53,results53];unfold mg at h;have F:=trivial;refine zK F h (ahc _ _ _ _) λr6 h=>?_
 refine mK F h (λF h=>?_) λF h=>?_
 ·refine zD [.q,.q,.q,.q,.q,.q,.q,.q,.q,.p,.q,.q] ?_;refine zTd F h (oI _ _) λr7 h=>?_
  refine zTd F h (oI _ _) λr8 h=>?_
  refine zTd F h (oI _ _) λr9 h=>?_
  refine zTd F h (sZ _) λr10 h=>?_
  refine zG 1704 F h (oI _ _) λr11 h=>?_
  refine zV ?_;refine zN F h (0:Nat) [16,44,45] (λx=>[(17,.row 13807 x.2),(46,.p (.val (.int .i64 ((x.1.1:Nat):Int))))]) [1704] (λx H=>[(13807,.row x.2 57 3 (x.1.2.map aB))]) ?_ ?_ (hw:=by refine cU.trans (iE 17 13807 57 3 rfl rfl (by decide)) ?_;exact zW)
  ·intro i12 s12 g12 _ _ F ayY h;try dsimp only at h
   refine zI cr F h λe13 F h=>?_
   refine zK F h (rJ _ _) λr14 h=>?_
   refine mK F h (λF h=>?_) λF h=>?_
   ·exact zX (z:=ayY _ g12 h zW)
   ·refine zC F h λF h=>?_
    refine zF (eq_true (show (s12.length+1) * 24<=140737488355328 by omega)) F λF=>?_
    refine zF (bh aB s12 [(⟨4,e13.id,e13.gR⟩:aI)] (c:=[[.val (.int .i64 4),.val (.int .i64 e13.id),.val (.int .i64 e13.gR)]]) rfl) F λF=>?_
    exact zX (z:=ayY _ (g12+1) h zW)
  ·intro i12 s12 g12 _ F h;try dsimp only at h
   refine zMb F h (pP g12 _) λr15 h=>?_
   exact iR h
 ·exact iR h
end
noncomputable section
theorem vh(a0:Types)(a1:ax)(a2:aG)(r:ax×Int)(h:fH a0 a1 a2=some r):br pw 58 [.agg [.aV (a0.nodes.map aJ),.aV (a0.ak.map aM)],.agg (aA a1),.agg (aD a2)] (λv=>v = .dQ [.agg [.row 3 1 (r.1.host.graph.nodes.map encI),.row 175 3 (r.1.host.graph.ak.map aZ),.row 32 1 (r.1.host.values.map bJ),.row 3 1 (r.1.nodes.map encI),.row 3 1 (r.1.ak.map encI),.p (.val (.int .i64 r.1.next))],.p (.val (.int .i64 r.2))]):=by
 refine br.tK ?_;refine bE [] func58 ?_;rw[ntmps58,results58];unfold fH at h;have F:=trivial;refine zK F h (vf _) λr3 h=>?_
 refine mK F h (λF h=>?_) λF h=>?_
 ·refine zF (show (0:Int)<=0 by decide) F λF=>?_
  refine zF (show (0:Int)<((2:Nat):Int) by decide) F λF=>?_
  refine mK F h (λF h=>?_) λF h=>?_
  ·refine zD [.q,.q,.q,.q,.q,.q,.o,.w,.s,.q] ?_;refine zTd F h (pL _) λr4 h=>?_
   refine tN F h (tc _ _) λr5 h=>?_
   refine mK F h (λF h=>?_) λF h=>?_
   ·refine zK F h (s0 _ _) λr6 h=>?_
    refine mK F h (λF h=>?_) λF h=>?_
    ·refine zF (show (0:Int)<=1 by decide) F λF=>?_
     refine zF (show (1:Int)<((2:Nat):Int) by decide) F λF=>?_
     refine zG 1768 F h (jk _ _) λr7 h=>?_
     refine zK F h (iL _ _) λr8 h=>?_
     refine mK F h (λF h=>?_) λF h=>?_
     ·exact iR h
     ·exact iR h
    ·exact iR h
   ·exact iR h
  ·exact iR h
 ·exact iR h
end
noncomputable section
theorem afX(a0:Types)(a1:ax)(a2:aG)(a3:aG)(r:aG×Int)(h:ou a0 a1 a2 a3=some r):br pw 19 [.agg [.aV (a0.nodes.map aJ),.aV (a0.ak.map aM)],.agg (aA a1),.agg (aD a2),.agg (aD a3)] (λv=>v = .dQ [.agg [.row 75 3 (r.1.az.map ag),.row 102 4 (r.1.aF.map aj),.row 75 3 (r.1.aR.map ag),.row 102 4 (r.1.aP.map aj),.row 105 4 (r.1.values.map aH),.p (.val (.int .i64 r.1.next.x0)),.p (.val (.int .i64 r.1.next.x1))],.p (.val (.int .i64 r.2))]):=by
 refine br.tK ?_;refine bE [] func19 ?_;rw[ntmps19,results19];unfold ou at h;have F:=trivial;refine zK F h (vY _ _ _ _) λr4 h=>?_
 refine mK F h (λF h=>?_) λF h=>?_
 ·refine zG 1400 F h (pX _ _) λr5 h=>?_
  refine zB F h (λF h=>?_) λF h=>?_
  ·exact iR h
  ·refine zK F h (uP _ _ _ _) λr6 h=>?_
   refine mK F h (λF h=>?_) λF h=>?_
   ·refine zG 1720 F h (afW _ _ _) λr7 h=>?_
    exact iR h
   ·exact iR h
 ·exact iR h
end
noncomputable section
theorem kL(a0:Types)(a1:ax)(a2:List jE)(r:ax)(h:ez a0 a1 a2=some r):aS pw 42 [.agg [.aV (a0.nodes.map aJ),.aV (a0.ak.map aM)],.agg (aA a1),.aV (a2.map dP)] (λv=>v = .agg (aA r)):=by
 refine aS.nq ?_;refine aQ [] func42 ?_;rw[ntmps42,results42];unfold ez at h;have F:=trivial;refine zV ?_;refine zN F h () [2,3,4,6] (λx=>[(7,.p (.val (.int .i64 ((x.1.1:Nat):Int))))]) [3,6] (λx H=>[(4,.box [.p (.aV (x.1.2.1.map encI)),.p (.aV (x.1.2.2.1.map aZ)),.p (.aV (x.1.2.2.2.1.map bJ)),.p (.aV (x.1.2.2.2.2.1.map encI)),.p (.aV (x.1.2.2.2.2.2.1.map encI)),.p (.val (.int .i64 x.1.2.2.2.2.2.2))])]) ?_ ?_
 ·intro i3 s3 g3 _ _ F w8 h;try dsimp only at h
  refine zD [.q,.q,.q,.q,.q,.q,.q,.w,.s] ?_;refine zI dP F h λe4 F h=>?_
  refine zTd F h (vg _ _ _) λr5 h=>?_
  refine zK F h (iL _ _) λr6 h=>?_
  refine zB F h (λF h=>?_) λF h=>?_
  ·exact zX (z:=w8 _ () h zW)
  ·exact zX (z:=w8 _ () h zW)
 ·intro i3 s3 g3 _ F h;try dsimp only at h
  exact zR h
end
noncomputable section
theorem acI(a0:Types)(a1:ax)(a2:aG)(a3:aG)(r:(List aI)×Int)(h:iZ a0 a1 a2 a3=some r):br pw 14 [.agg [.aV (a0.nodes.map aJ),.aV (a0.ak.map aM)],.agg (aA a1),.agg (aD a2),.agg (aD a3)] (λv=>v = .dQ [.row 57 3 (r.1.map aB),.p (.val (.int .i64 r.2))]):=by
 refine br.tK ?_;refine bE [] func14 ?_;rw[ntmps14,results14];unfold iZ at h;have F:=trivial;refine zK F h (vY _ _ _ _) λr4 h=>?_
 refine mK F h (λF h=>?_) λF h=>?_
 ·refine zG 1400 F h (pX _ _) λr5 h=>?_
  refine zB F h (λF h=>?_) λF h=>?_
  ·exact iR h
  ·refine zK F h (uP _ _ _ _) λr6 h=>?_
   refine mK F h (λF h=>?_) λF h=>?_
   ·refine zG 1768 F h (zp _ _ _ _ _ _) λr7 h=>?_
    exact iR h
   ·exact iR h
 ·exact iR h
end
noncomputable section
theorem eo(a0:Types)(a1:ax)(a2:aG)(r:ax×Int)(h:bK a0 a1 a2=some r):br pw 18 [.agg [.aV (a0.nodes.map aJ),.aV (a0.ak.map aM)],.agg (aA a1),.agg (aD a2)] (λv=>v = .dQ [.agg [.row 3 1 (r.1.host.graph.nodes.map encI),.row 175 3 (r.1.host.graph.ak.map aZ),.row 32 1 (r.1.host.values.map bJ),.row 3 1 (r.1.nodes.map encI),.row 3 1 (r.1.ak.map encI),.p (.val (.int .i64 r.1.next))],.p (.val (.int .i64 r.2))]):=by
 refine br.tK ?_;refine bE [] func18 ?_;rw[ntmps18,results18];unfold bK at h;have F:=trivial;refine zK F h (iL _ _) λr3 h=>?_
 refine mK F h (λF h=>?_) λF h=>?_
 ·refine zG 1304 F h (vh _ _ _) λr4 h=>?_
  exact iR h
 ·exact iR h
end
noncomputable section
theorem ajN(a0:Types)(a1:ax)(a2:aG)(a3:aG)(r:ax×Int)(h:qB a0 a1 a2 a3=some r):aS pw 54 [.agg [.aV (a0.nodes.map aJ),.aV (a0.ak.map aM)],.agg (aA a1),.agg (aD a2),.agg (aD a3)] (λv=>v = .dQ [.agg (aA r.1),.val (.int .i64 r.2)]):=by
 refine aS.nq ?_;refine aQ [] func54 ?_;rw[ntmps54,results54];unfold qB at h;have F:=trivial;refine zK F h (uP _ _ _ _) λr4 h=>?_
 refine mK F h (λF h=>?_) λF h=>?_
 ·refine zG 1544 F h (zp _ _ _ _ _ _) λr5 h=>?_
  refine mK F h (λF h=>?_) λF h=>?_
  ·refine zB F h (λF h=>?_) λF h=>?_
   ·exact zR h
   ·exact zR h
  ·exact zR h
 ·exact zR h
end
noncomputable section
theorem vZ(a0:Types)(a1:ax)(a2:aG)(a3:aG)(a4:ax)(r:(List aI))(h:ig a0 a1 a2 a3 a4=some r):br pw 98 [.agg [.aV (a0.nodes.map aJ),.aV (a0.ak.map aM)],.agg (aA a1),.agg (aD a2),.agg (aD a3),.agg (aA a4)] (λv=>v = .row 57 3 (r.map aB)):=by
 refine br.tK ?_;refine bE [121] func98 ?_;rw[ntmps98,results98];unfold ig at h;have F:=trivial;refine zG 1432 F h (eo _ _ _) λr5 h=>?_
 refine zT F h (vT _) λr6 h=>?_
 refine zF (show (0:Int)<=1 by decide) F λF=>?_
 refine zF (show (1:Int)<((2:Nat):Int) by decide) F λF=>?_
 refine zD [.q,.q,.q,.q,.q,.q,.q,.q,.o,.w,.s,.q] ?_;refine zTd F h (oS _ _) λr7 h=>?_
 refine zTd F h (eo _ _ _) λr8 h=>?_
 refine zV ?_;refine kP 1432 0 3 1 (r5.1.host.graph.nodes.map encI) [] (by simp -implicitDefEqProofs only[go_sem,F]<;>rfl) (by simp -implicitDefEqProofs only[go_sem,F]<;>and_intros<;>rfl) (by decide) ?_;refine kP 1433 0 175 3 (r5.1.host.graph.ak.map aZ) [] (by simp -implicitDefEqProofs only[go_sem,F]<;>rfl) (by simp -implicitDefEqProofs only[go_sem,F]<;>and_intros<;>rfl) (by decide) ?_;refine kP 1434 0 32 1 (r5.1.host.values.map bJ) [] (by simp -implicitDefEqProofs only[go_sem,F]<;>rfl) (by simp -implicitDefEqProofs only[go_sem,F]<;>and_intros<;>rfl) (by decide) ?_;refine kP 1435 0 3 1 (r5.1.nodes.map encI) [] (by simp -implicitDefEqProofs only[go_sem,F]<;>rfl) (by simp -implicitDefEqProofs only[go_sem,F]<;>and_intros<;>rfl) (by decide) ?_;refine kP 1436 0 3 1 (r5.1.ak.map encI) [] (by simp -implicitDefEqProofs only[go_sem,F]<;>rfl) (by simp -implicitDefEqProofs only[go_sem,F]<;>and_intros<;>rfl) (by decide) ?_;refine zE [(0,.q),(1,.q),(3,.q),(4,.q),(7,.b),(8,.b),(2,.f),(5,.q),(6,.w),(9,.q),(10,.w),(11,.q)] ?_;refine zH 1752 F h (je _ _) λr9 h=>?_
 refine zTd F h (je _ _) λr10 h=>?_
 refine zC F h λF h=>?_
 refine zF (eq_true (show (r9.length+r10.length) * 24<=140737488355328 by omega)) F λF=>?_
 refine zF (eq_true (eY (n:=3) (f:=bY) (λ_=>rfl) r10)) F λF=>?_
 refine zTd F h (je _ _) λr11 h=>?_
 refine zC F h λF h=>?_
 refine zF (eq_true (show (r9.length+r10.length+r11.length) * 24<=140737488355328 by omega)) F λF=>?_
 refine zF (eq_true (eY (n:=3) (f:=bY) (λ_=>rfl) r11)) F λF=>?_
 refine zG 1928 F h (je _ _) λr12 h=>?_
 refine zV ?_;refine zN F h (0:Nat) [5,9,16,17] (λx=>[(18,.row 11845 x.2),(19,.p (.val (.int .i64 ((x.1.1:Nat):Int))))]) [5,9,1752,1928] (λx H=>[(11845,.row x.2 57 3 (x.1.2.map aB))]) ?_ ?_ (hw:=by refine cU.trans (iE 18 11845 57 3 rfl rfl (by decide)) ?_;exact zW)
 ·intro i13 uZ g13 _ _ F ajM h;try dsimp only at h
  refine zV ?_;refine zN F h (g13:Nat) [5,9,16,17,19] (λx=>[(18,.row 11845 x.2),(20,.p (.val (.int .i64 ((x.1.1:Nat):Int))))]) [5,9,1752,1928] (λx H=>[(11845,.row x.2 57 3 (x.1.2.map aB))]) ?_ ?_
  ·intro i14 vU g14 _ _ F acH h;try dsimp only at h
   refine zV ?_;refine zN F h () [5,9,16,17,18,19,20] (λx=>[(21,.p (.val (.bool x.1.2))),(22,.p (.val (.int .i64 ((x.1.1:Nat):Int))))]) [5,9,1752,1928,11845] (λx H=>[]) ?_ ?_
   ·intro i15 ye g15 _ _ F aha h;try dsimp only at h
    refine zD [.q,.q,.q,.q,.q,.q,.q,.q,.q,.q,.q,.q,.q,.q,.q,.q,.q,.q,.q,.q,.q,.q,.q,.q,.q,.q,.q,.q,.q,.q,.q,.q,.q] ?_;refine ag9 F h (λF h=>?_) λF h=>?_
    ·exact zX (z:=aha _ () h zW)
    ·refine zI bY F h λe16 F h=>?_
     refine zI encI F h λe17 F h=>?_
     refine zBd F h (λF h=>?_) λF h=>?_
     ·refine zBd F h (λF h=>?_) λF h=>?_
      ·refine tN F h (zo _ _) λr18 h=>?_
       exact zX (z:=aha _ () h zW)
      ·exact zX (z:=aha _ () h zW)
     ·exact zX (z:=aha _ () h zW)
   ·intro i15 ye g15 _ F h;try dsimp only at h
    refine zB F h (λF h=>?_) λF h=>?_
    ·refine zI encI F h λyC F h=>?_
     refine zC F h λF h=>?_
     refine zF (eq_true (show (vU.length+1) * 24<=140737488355328 by omega)) F λF=>?_
     refine zF (bh aB vU [(⟨4,yC,((i14:Nat):Int)⟩:aI)] (c:=[[.val (.int .i64 4),.val (.int .i64 yC),.val (.int .i64 ((i14:Nat):Int))]]) rfl) F λF=>?_
     exact zX (z:=acH _ (g14+1) h zW)
    ·exact zX (z:=acH _ g14 h zW)
  ·intro i14 vU g14 _ F h;try dsimp only at h
   exact zX (z:=ajM _ g14 h zW)
 ·intro i13 uZ g13 _ F h;try dsimp only at h
  exact iR h
end
noncomputable section
theorem wP(a0:Types)(a1:ax)(a2:aG)(a3:aG)(r:Int)(h:gf a0 a1 a2 a3=some r):aS pw 95 [.agg [.aV (a0.nodes.map aJ),.aV (a0.ak.map aM)],.agg (aA a1),.agg (aD a2),.agg (aD a3)] (λv=>v = .val (.int .i64 r)):=by
 refine aS.nq ?_;refine aQ [] func95 ?_;rw[ntmps95,results95];unfold gf at h;have F:=trivial;refine zG 1272 F h (eo _ _ _) λr4 h=>?_
 refine mK F h (λF h=>?_) λF h=>?_
 ·refine zG 1432 F h (eo _ _ _) λr5 h=>?_
  refine mK F h (λF h=>?_) λF h=>?_
  ·refine zK F h (qa _) λr6 h=>?_
   refine nH F h (λF h=>?_) λF h=>?_
   ·refine zK F h (qa _) λr7 h=>?_
    refine mK F h (λF h=>?_) λF h=>?_
    ·refine zF (show (0:Int)<=1 by decide) F λF=>?_
     refine zF (show (1:Int)<((2:Nat):Int) by decide) F λF=>?_
     refine zF (show (0:Int)<=1 by decide) F λF=>?_
     refine zF (show (1:Int)<((2:Nat):Int) by decide) F λF=>?_
     refine zF (show (0:Int)<=0 by decide) F λF=>?_
     refine zF (show (0:Int)<((2:Nat):Int) by decide) F λF=>?_
     refine zB F h (λF h=>?_) λF h=>?_
     ·exact zR h
     ·exact zR h
    ·exact zR h
   ·exact zR h
  ·exact zR h
 ·exact zR h
end
noncomputable section
theorem v7(a0:Types)(a1:ax)(a2:aG)(a3:aG)(r:ax×Int)(h:fU a0 a1 a2 a3=some r):br pw 97 [.agg [.aV (a0.nodes.map aJ),.aV (a0.ak.map aM)],.agg (aA a1),.agg (aD a2),.agg (aD a3)] (λv=>v = .dQ [.agg [.row 3 1 (r.1.host.graph.nodes.map encI),.row 175 3 (r.1.host.graph.ak.map aZ),.row 32 1 (r.1.host.values.map bJ),.row 3 1 (r.1.nodes.map encI),.row 3 1 (r.1.ak.map encI),.p (.val (.int .i64 r.1.next))],.p (.val (.int .i64 r.2))]):=by
 refine br.tK ?_;refine bE [] func97 ?_;rw[ntmps97,results97];unfold fU at h;have F:=trivial;refine zT F h (eo _ _ _) λr4 h=>?_
 refine mK F h (λF h=>?_) λF h=>?_
 ·refine zD [.q,.q,.q,.q,.q,.q,.q,.w,.s] ?_;refine zTd F h (oS _ _) λr5 h=>?_
  refine zTd F h (xG _ _) λr6 h=>?_
  refine zTd F h (qO _ _) λr7 h=>?_
  refine rG F h (λF h=>?_) λF h=>?_
  ·exact iR h
  ·refine zB F h (λF h=>?_) λF h=>?_
   ·exact iR h
   ·refine zG 1976 F h (eo _ _ _) λr8 h=>?_
    exact iR h
 ·exact iR h
end
noncomputable section
theorem aa1(a0:Types)(a1:ax)(a2:aG)(a3:aG)(r:ax×Int)(h:j8 a0 a1 a2 a3=some r):aS pw 16 [.agg [.aV (a0.nodes.map aJ),.aV (a0.ak.map aM)],.agg (aA a1),.agg (aD a2),.agg (aD a3)] (λv=>v = .dQ [.agg (aA r.1),.val (.int .i64 r.2)]):=by
 refine aS.nq ?_;refine aQ [] func16 ?_;rw[ntmps16,results16];unfold j8 at h;have F:=trivial;refine zK F h (vY _ _ _ _) λr4 h=>?_
 refine mK F h (λF h=>?_) λF h=>?_
 ·refine zG 1352 F h (pX _ _) λr5 h=>?_
  refine zB F h (λF h=>?_) λF h=>?_
  ·exact zR h
  ·refine zK F h (ajN _ _ _ _) λr6 h=>?_
   exact zR h
 ·exact zR h
end
noncomputable section
theorem mq  (r:Bool)(h:fq  = some r):aS pw 13 [] (λv=>v = .val (.bool r)):=by
 refine aS.nq ?_;refine aQ [] func13 ?_;rw[ntmps13,results13];unfold fq at h;have F:=trivial;refine zG 1144 F h vc λr1 h=>?_
 refine zD [.q,.q,.q,.q,.f,.q,.q,.q,.q,.q] ?_;refine zTd F h qD λr2 h=>?_
 refine zH 1416 F h (acI _ _ _ _) λr3 h=>?_
 refine zV ?_;refine kP 1144 0 165 4 (r1.nodes.map aJ) [] (by simp -implicitDefEqProofs only[go_sem,F]<;>rfl) (by simp -implicitDefEqProofs only[go_sem,F]<;>and_intros<;>rfl) (by decide) ?_;refine kP 1145 0 170 7 (r1.ak.map aM) [] (by simp -implicitDefEqProofs only[go_sem,F]<;>rfl) (by simp -implicitDefEqProofs only[go_sem,F]<;>and_intros<;>rfl) (by decide) ?_;refine zD [.q,.q,.q,.q,.q,.q,.q,.o,.w,.s,.q] ?_;refine zTd F h qD λr4 h=>?_
 refine tN F h (aa1 _ _ _ _) λr5 h=>?_
 refine nH F h (λF h=>?_) λF h=>?_
 ·refine zK F h (vX _ _) λr6 h=>?_
  refine nH F h (λF h=>?_) λF h=>?_
  ·refine nH F h (λF h=>?_) λF h=>?_
   ·refine zK F h (uM _ _) λr7 h=>?_
    refine nH F h (λF h=>?_) λF h=>?_
    ·refine nH F h (λF h=>?_) λF h=>?_
     ·refine zJ 1 bJ F h λe8 F h=>?_
      refine zK F h (uM _ _) λr9 h=>?_
      exact zR h
     ·exact zR h
    ·exact zR h
   ·exact zR h
  ·exact zR h
 ·exact zR h
end
noncomputable section
theorem tP(a0:Types)(a1:ax)(a2:aG)(a3:aG)(r:(List aI)×Int)(h:ga a0 a1 a2 a3=some r):br pw 46 [.agg [.aV (a0.nodes.map aJ),.aV (a0.ak.map aM)],.agg (aA a1),.agg (aD a2),.agg (aD a3)] (λv=>v = .dQ [.row 57 3 (r.1.map aB),.p (.val (.int .i64 r.2))]):=by
 refine br.tK ?_;refine bE [] func46 ?_;rw[ntmps46,results46];unfold ga at h;have F:=trivial;refine zK F h (wP _ _ _ _) λr4 h=>?_
 refine mK F h (λF h=>?_) λF h=>?_
 ·refine zG 1400 F h (ta _ _ _) λr5 h=>?_
  refine zB F h (λF h=>?_) λF h=>?_
  ·exact iR h
  ·refine zG 1560 F h (v7 _ _ _ _) λr6 h=>?_
   refine mK F h (λF h=>?_) λF h=>?_
   ·refine zG 1736 F h (vZ _ _ _ _ _) λr7 h=>?_
    exact iR h
   ·exact iR h
 ·exact iR h
end
noncomputable section
theorem rL(a0:bQ)(r:Types×bV×Bool)(h:fm a0=some r):br pw 12 [.agg (eF a0)] (λv=>v = .dQ [.agg [.p (.aV (r.1.nodes.map aJ)),.p (.aV (r.1.ak.map aM))],.agg [.p (.aV (r.2.1.a.host.graph.nodes.map encI)),.p (.aV (r.2.1.a.host.graph.ak.map aZ)),.p (.aV (r.2.1.a.host.values.map bJ)),.p (.aV (r.2.1.a.nodes.map encI)),.p (.aV (r.2.1.a.ak.map encI)),.p (.val (.int .i64 r.2.1.a.next)),.row 75 3 (r.2.1.p.az.map ag),.row 102 4 (r.2.1.p.aF.map aj),.row 75 3 (r.2.1.p.aR.map ag),.row 102 4 (r.2.1.p.aP.map aj),.row 105 4 (r.2.1.p.values.map aH),.p (.val (.int .i64 r.2.1.p.next.x0)),.p (.val (.int .i64 r.2.1.p.next.x1)),.row 75 3 (r.2.1.q.az.map ag),.row 102 4 (r.2.1.q.aF.map aj),.row 75 3 (r.2.1.q.aR.map ag),.row 102 4 (r.2.1.q.aP.map aj),.row 105 4 (r.2.1.q.values.map aH),.p (.val (.int .i64 r.2.1.q.next.x0)),.p (.val (.int .i64 r.2.1.q.next.x1))],.p (.val (.bool r.2.2))]):=by
 refine br.tK ?_;refine bE [2000002] func12 ?_;rw[ntmps12,results12];unfold fm at h;have F:=trivial;refine rG F h (λF h=>?_) λF h=>?_
 ·exact iR h
 ·refine rG F h (λF h=>?_) λF h=>?_
  ·exact iR h
  ·refine rG F h (λF h=>?_) λF h=>?_
   ·exact iR h
   ·refine rG F h (λF h=>?_) λF h=>?_
    ·exact iR h
    ·refine rG F h (λF h=>?_) λF h=>?_
     ·exact iR h
     ·refine rG F h (λF h=>?_) λF h=>?_
      ·exact iR h
      ·refine zB F h (λF h=>?_) λF h=>?_
       ·exact iR h
       ·refine zT F h (xD _ _) λr1 h=>?_
        refine zD [.q,.q,.q,.q,.q,.q,.q,.q,.o,.w,.s,.q] ?_;refine zTd F h (qE _ _) λr2 h=>?_
        refine zTd F h (yD _ _) λr3 h=>?_
        refine zK F h (kL _ _ _) λr4 h=>?_
        refine zD [.q,.q,.q,.q,.q,.q,.q,.f,.q,.q,.o,.w,.s,.q] ?_;refine tN F h (kL _ _ _) λr5 h=>?_
        refine zH 2376 F h (qF _ _ _) λr6 h=>?_
        refine zD [.q,.q,.q,.q,.q,.q,.q,.f,.q,.q,.o,.w,.s,.q] ?_;refine tN F h (kL _ _ _) λr7 h=>?_
        refine zH 2552 F h (qF _ _ _) λr8 h=>?_
        refine zG 2744 F h (tP _ _ _ _) λr9 h=>?_
        refine zD [.q,.o,.q,.q,.q,.q,.q,.q,.q,.p,.p,.p,.s,.w,.q] ?_;refine zBd F h (λF h=>?_) λF h=>?_
        ·refine zBd F h (λF h=>?_) λF h=>?_
         ·exact iR h
         ·exact iR h
        ·exact iR h
end
noncomputable section
theorem rM(a0:bQ)(r:Bool)(h:fu a0=some r):aS pw 5 [.agg (eF a0)] (λv=>v = .val (.bool r)):=by
 refine aS.nq ?_;refine aQ [] func5 ?_;rw[ntmps5,results5];unfold fu at h;have F:=trivial;refine zG 1256 F h (rL _) λr1 h=>?_
 refine zK F h mq λr2 h=>?_
 refine nH F h (λF h=>?_) λF h=>?_
 ·refine mK F h (λF h=>?_) λF h=>?_
  ·refine zKs [1256,1257,1258,1259,1260,1261,1262,1263,1264,1265] F h (aa1 _ _ _ _) λr3 h=>?_
   refine mK F h (λF h=>?_) λF h=>?_
   ·refine zG 1800 F h (afX _ _ _ _) λr4 h=>?_
    refine zG 1944 F h (eo _ _ _) λr5 h=>?_
    refine zGs ([1944,1945,1946,1947,1948,1800,1801,1802,1803,1804],2056) F h (eo _ _ _) λr6 h=>?_
    refine nH F h (λF h=>?_) λF h=>?_
    ·refine nH F h (λF h=>?_) λF h=>?_
     ·refine nH F h (λF h=>?_) λF h=>?_
      ·refine zK F h (xJ _ _) λr7 h=>?_
       refine mK F h (λF h=>?_) λF h=>?_
       ·refine zK F h (qc _ _) λr8 h=>?_
        refine nH F h (λF h=>?_) λF h=>?_
        ·refine zK F h (qc _ _) λr9 h=>?_
         exact zR h
        ·exact zR h
       ·exact zR h
      ·exact zR h
     ·exact zR h
    ·exact zR h
   ·exact zR h
  ·refine zK F h mq λr10 h=>?_
   exact zR h
 ·refine zK F h mq λr11 h=>?_
  exact zR h
end
noncomputable section
end
noncomputable section
end
noncomputable section
end
noncomputable section
end
noncomputable section
end
noncomputable section
end
noncomputable section
end
open Go.ChangeShapes Go.WideShapes Go.ChangeAt Go.RowKit
variable{w:World}{H:Type}{enc:TypeId×Value->H}
def G5(n:Int):Prop:=IntKind.u8.min<=n/\n<=IntKind.u8.max
theorem d5:Dec pw w enc 5 1 (λn:Int=>[.val (.int .u8 n)]) G5 :=
 .aH8 .u8 underlying5
def aED(x:cu):Prop:=G5 x.x0/\G5 x.x1/\True
theorem d162:Dec pw w enc 162 2 (λx:cu=>[.val (.int .u8 x.x0),.val (.int .u8 x.x1)]) aED:=(Dec.array underlying162 (by kernel_rfl) (sz0:=1) (by kernel_rfl) (.cons rfl (by kernel_rfl) d5 (.cons rfl (by kernel_rfl) d5 (.nil _)))).map (λx=>⟨x.1,x.2.1⟩) (λa=>(a.x0,a.x1,())) (λ_=>rfl) (λ_=>rfl) (λ_ h=>h)
def G22(l:List cu):Prop:=(∀x∈l,aED x)/\l.length<=reachBytes
theorem d22:Dec pw w enc 22 1 (λl:List cu=>[.aV (l.map dZ)]) G22:=(Dec.slice underlying22 (by kernel_rfl) (by decide) (cm (by kernel_rfl)) d162).map id id (λ_=>rfl) (λ_=>rfl) (λ_ h=>h)
def aEE(x:jE):Prop:=G5 x.x0/\G5 x.x1/\G5 x.x2/\True
theorem d159:Dec pw w enc 159 3 (λx:jE=>[.val (.int .u8 x.x0),.val (.int .u8 x.x1),.val (.int .u8 x.x2)]) aEE:=(Dec.array underlying159 (by kernel_rfl) (sz0:=1) (by kernel_rfl) (.cons rfl (by kernel_rfl) d5 (.cons rfl (by kernel_rfl) d5 (.cons rfl (by kernel_rfl) d5 (.nil _))))).map (λx=>⟨x.1,x.2.1,x.2.2.1⟩) (λa=>(a.x0,a.x1,a.x2,())) (λ_=>rfl) (λ_=>rfl) (λ_ h=>h)
def G23(l:List jE):Prop:=(∀x∈l,aEE x)/\l.length<=reachBytes
theorem d23:Dec pw w enc 23 1 (λl:List jE=>[.aV (l.map dP)]) G23:=(Dec.slice underlying23 (by kernel_rfl) (by decide) (cm (by kernel_rfl)) d159).map id id (λ_=>rfl) (λ_=>rfl) (λ_ h=>h)
def G25(x:c8):Prop:=G22 x.nodes/\G23 x.ak/\True
theorem d25:Dec pw w enc 25 2 (λx:c8=>[.aV (x.nodes.map dZ),.aV (x.ak.map dP)]) G25:=(Dec.struct underlying25 (by kernel_rfl) (.cons rfl (by kernel_rfl) d22 (.cons rfl (by kernel_rfl) d23 (.nil _)))).map (λx=>⟨x.1,x.2.1⟩) (λa=>(a.nodes,a.ak,())) (λ_=>rfl) (λ_=>rfl) (λ_ h=>h)
def G27(x:bQ):Prop:=G22 x.nodes/\G22 x.ak/\G25 x.h/\G23 x.first/\G23 x.p/\G23 x.q/\True
theorem d27:Dec pw w enc 27 7 (λx:bQ=>[.aV (x.nodes.map dZ),.aV (x.ak.map dZ),.aV (x.h.nodes.map dZ),.aV (x.h.ak.map dP),.aV (x.first.map dP),.aV (x.p.map dP),.aV (x.q.map dP)]) G27:=(Dec.struct underlying27 (by kernel_rfl) (.cons rfl (by kernel_rfl) d22 (.cons rfl (by kernel_rfl) d22 (.cons rfl (by kernel_rfl) d25 (.cons rfl (by kernel_rfl) d23 (.cons rfl (by kernel_rfl) d23 (.cons rfl (by kernel_rfl) d23 (.nil _)))))))).map (λx=>⟨x.1,x.2.1,x.2.2.1,x.2.2.2.1,x.2.2.2.2.1,x.2.2.2.2.2.1⟩) (λa=>(a.nodes,a.ak,a.h,a.first,a.p,a.q,())) (λ_=>rfl) (λ_=>rfl) (λ_ h=>h)
set_option maxRecDepth 100000 in
theorem aBm:laidOutB Tryz.checked.prog=true:=by kernel_rfl
def G4(_:Bool):Prop:=True
theorem d4:Dec pw w enc 4 1 aBU G4 :=
 .bool underlying4
end Go.Proofs.YtjhkgjlmiolfoaaGreat
namespace Go.cq
section
variable{σ O α:Type}{Q:O->Prop}
theorem acJ{f:σ->(σ->Option O)->(σ->Option O)->Option O}{K:σ->Option O}(φ ψ:σ->Prop)(μ:σ->Nat){n:Nat}{s:σ}(h0:φ s)(hm:μ s<n)
  (hr:∀s (cz brk:σ->Option O),φ s->(∀s',φ s'->μ s'<μ s->Ok (cz s') Q)->(∀s',ψ s'->Ok (brk s') Q)->Ok (f s cz brk) Q) (he:∀s,ψ s->Ok (K s) Q):Ok (iter f n s K) Q :=
 aeH φ μ h0 hm λs cz hs hn=>hr s cz K hs hn he
end
theorem aCX{n:Int}(h:0<=n/\n<=255):IntKind.u8.wrap n=n:=by simp only[IntKind.wrap,IntKind.signed,IntKind.bits,Bool.false_and,Bool.false_eq_true,if_false];omega
def zq{α β:Type}(o:Option α)(x:α->β)(y:β):β:=match o with
 |some a=>x a
 |none=>y
section
variable{σ O α β:Type}
theorem adE{f:Nat->Unit->(Unit->Option O)->(Unit->Option O)->Option O}{K:Unit->Option O}(p:Nat->Bool)(x:Nat->Option O):∀ (k i:Nat),
  (∀j,i<=j->j<i+k->∀cz,f j () cz K=cond (p j) (cz ()) (x j))->bZ f k i () K=zq ((List.range' i k).find? (λj=>!p j)) x (K ())
 |0,i,_=>rfl
 |k+1,i,h=>by
  rw[bZ,h i (Nat.le_refl _) (by omega),List.range'_succ,List.find?_cons];cases hp:p i with
  |false=>rfl
  |true =>
   have:=adE p x k (i+1) λj h1 h2 cz=>h j (by omega) (by omega) cz
   simpa using this
theorem uQ{f:Nat->Unit->(Unit->Option O)->(Unit->Option O)->Option O}{K:Unit->Option O}{n:Nat}(p:Nat->Bool)(x:Nat->Option O)(h:∀j,j<n->∀cz,f j () cz K=cond (p j) (cz ()) (x j)) :
  bZ f (n-0) 0 () K=zq ((List.range n).find? (λj=>!p j)) x (K ()):=by
 rw[adE p x (n-0) 0 λj _ h2 cz=>h j (by omega) cz,Nat.sub_zero,List.range_eq_range']
theorem aa2{f:Nat->Unit->(Unit->Option O)->(Unit->Option O)->Option O}{K:Unit->Option O}(l:List α)(p:α->Bool)(x:α->Option O)(h:∀i (hi:i<l.length) cz,f i () cz K=cond (p l[i]) (cz ()) (x l[i])):∀ (k i:Nat),i+k=l.length ->
  bZ f k i () K=zq ((l.drop i).find? (λa=>!p a)) x (K ())
 |0,i,hk=>by rw[List.drop_eq_nil_of_le (by omega)];rfl
 |k+1,i,hk=>by
  rw[bZ,h i (by omega),List.drop_eq_getElem_cons (by omega),List.find?_cons];cases hp:p l[i] with
  |false=>rfl
  |true=>have:=aa2 l p x h k (i+1) (by omega);simpa using this
theorem oJ{f:Nat->Unit->(Unit->Option O)->(Unit->Option O)->Option O}{K:Unit->Option O}(l:List α)(p:α->Bool)(x:α->Option O)(h:∀i (hi:i<l.length) cz,f i () cz K=cond (p l[i]) (cz ()) (x l[i])) :
  bZ f (l.length-0) 0 () K=zq (l.find? (λa=>!p a)) x (K ()):=by
 have:=aa2 l p x h (l.length-0) 0 (by omega);simpa using this
theorem aa3{f:Nat->σ->(σ->Option O)->(σ->Option O)->Option O}{K:σ->Option O}(l:List α)(g:σ->α->σ)(Inv:Nat->σ->Prop)(h:∀i (hi:i<l.length) s,Inv i s->(∀cz,f i s cz K=cz (g s l[i]))/\Inv (i+1) (g s l[i])) :
  ∀ (k i:Nat) (s:σ),i+k=l.length->Inv i s->bZ f k i s K=K ((l.drop i).foldl g s)/\Inv l.length ((l.drop i).foldl g s)
 |0,i,s,hk,hs=>by rw[List.drop_eq_nil_of_le (by omega)];exact⟨rfl,by rw[show l.length=i by omega];exact hs⟩
 |k+1,i,s,hk,hs=>by obtain⟨h1,h2⟩:=h i (by omega) s hs;rw[bZ,h1,List.drop_eq_getElem_cons (by omega),List.foldl_cons];exact aa3 l g Inv h k (i+1) _ (by omega) h2
theorem rN{f:Nat->σ->(σ->Option O)->(σ->Option O)->Option O}{K:σ->Option O}{s:σ}(l:List α)(g:σ->α->σ)(Inv:Nat->σ->Prop)(h0:Inv 0 s)(h:∀i (hi:i<l.length) s,Inv i s->(∀cz,f i s cz K=cz (g s l[i]))/\Inv (i+1) (g s l[i])) :
  bZ f (l.length-0) 0 s K=K (l.foldl g s)/\Inv l.length (l.foldl g s):=by
 have:=aa3 l g Inv h (l.length-0) 0 s (by omega) h0;simpa using this
theorem bw{p:Prop} [Decidable p]{x:Option O}(h:p):cC p x=x:=by unfold cC;rw[if_pos h]
theorem mu{x:α}{k:α->Option O} : thn (some x) k=k x:=rfl
theorem aT{x:Option α}{y:α}{k:α->Option O}(h:x=some y):thn x k=k y:=by rw[h];rfl
theorem bS{l:List α}{i:Nat}{k:α->Option O}(h:i<l.length):thn l[i]? k=k l[i]:=by rw[List.getElem?_eq_getElem h];rfl
theorem fS{l:List α}{i:Int}{k:α->Option O}(h0:0<=i)(h:i.toNat<l.length):thn (mJ l i) k=k (l[i.toNat]'h):=by unfold mJ;rw[if_pos h0,List.getElem?_eq_getElem h];rfl
theorem aX{p:Prop} [Decidable p]{x y:Option O} : cond (decide p) x y=if p then x else y:=by by_cases h:p<;>simp[h]
theorem iM{b:Bool}{x y:Option O} : cond (!b) x y=cond b y x:=by cases b<;>rfl
def ayZ(e:α->Int)(l:List α):Int:=zq (l.find? (λa=>!decide (e a=0))) e 0
theorem auw{e:α->Int}{l:List α} : ayZ e l=0↔∀a∈l,e a=0:=by
 unfold ayZ zq;split
 ·rename_i a h;have h1:=List.find?_some h;have h2:=List.mem_of_find?_eq_some h;simp only[Bool.not_eq_true',decide_eq_false_iff_not] at h1;exact⟨λh=>absurd h h1,λh=>h a h2⟩
 ·rename_i h;simp only[List.find?_eq_none,Bool.not_eq_true',decide_eq_false_iff_not,Decidable.not_not] at h;exact⟨λ_=>h,λ_=>rfl⟩
theorem aib{e:α->Int}{l:List α}{K:Option Int}(hK:K=some 0):zq (l.find? (λa=>!decide (e a=0))) (λa=>some (e a)) K=some (ayZ e l):=by subst hK;unfold ayZ zq;split<;>rfl
theorem pM{p:α->Bool}{l:List α}{x y:β} : zq (l.find? (λa=>!p a)) (λ_=>x) y=if l.all p=true then y else x:=by
 unfold zq;split
 ·rename_i a h;have h1:=List.find?_some h;have h2:=List.mem_of_find?_eq_some h;rw[if_neg];intro h3;have:=List.all_eq_true.1 h3 a h2;simp[this] at h1
 ·rename_i h;rw[if_pos];simpa using h
def wQ(q:α->Bool)(l:List α):Int:=match l.findIdx? q with
 |some i=>i
 |none=>-1
theorem xK{q:α->Bool}{l:List α} : decide (0<=wQ q l)=l.any q:=by
 unfold wQ;cases h:l.findIdx? q with
 |none =>
  have:=List.findIdx?_eq_none_iff.1 h;have h2:l.any q=false:=by simpa using this
  rw[h2];rfl
 |some i =>
  have h1:l.any q=true:=by have:=List.findIdx?_eq_some_iff_getElem.1 h;obtain⟨hi,hq,_⟩:=this;exact List.any_eq_true.2 ⟨_,nR hi,hq⟩
  rw[h1];simp
theorem wR{f:Nat->Unit->(Unit->Option Int)->(Unit->Option Int)->Option Int}{K:Unit->Option Int}(l:List α)(q:α->Bool)(h:∀i (hi:i<l.length) cz,f i () cz K=cond (q l[i]) (some (i:Int)) (cz ()))(hK:K ()=some (-1)) :
  bZ f (l.length-0) 0 () K=some (wQ q l):=by
 have key:∀ (k i:Nat),i+k=l.length->bZ f k i () K=some (match (l.drop i).findIdx? q with|some j=>((i+j:Nat):Int)|none=>-1):=by
  intro k
  induction k with
  |zero=>intro i hk;rw[List.drop_eq_nil_of_le (by omega)];exact hK
  |succ k ih =>
   intro i hk;rw[bZ,h i (by omega),List.drop_eq_getElem_cons (by omega),List.findIdx?_cons];cases hq:q l[i] with
   |true=>simp
   |false =>
    have:=ih (i+1) (by omega);rw[cond_false,this];cases (l.drop (i+1)).findIdx? q with
    |none=>rfl
    |some j=>simp only[Option.map_some,Bool.false_eq_true,if_false,cv];rw[show i+1+j=i+(j+1) by omega]
 have:=key (l.length-0) 0 (by omega);rw[this,List.drop_zero];unfold wQ;cases l.findIdx? q<;>simp
end
section
variable{α β:Type}{lt:α->α->Prop}
theorem ajO(irr:∀a,¬ lt a a)(tr:∀a b c,lt a b->lt b c->lt a c):∀ {l m:List α},l.Pairwise lt->m.Pairwise lt->(∀x,x∈l↔x∈m)->l=m
 | [],[],_,_,_=>rfl
 | [],b :: s,_,_,h=>by have:=(h b).2 (List.mem_cons_self ..);cases this
 |a :: r,[],_,_,h=>by have:=(h a).1 (List.mem_cons_self ..);cases this
 |a :: r,b :: s,h1,h2,h=>by
  rw[List.pairwise_cons] at h1 h2;have e:a=b:=by
   rcases List.mem_cons.1 ((h a).1 (List.mem_cons_self ..)) with e|e
   ·exact e
   ·rcases List.mem_cons.1 ((h b).2 (List.mem_cons_self ..)) with e'|e'
    ·exact e'.symm
    ·exact absurd (tr _ _ _ (h1.1 b e') (h2.1 a e)) (irr a)
  subst e;rw[ajO irr tr h1.2 h2.2 λx=>?_];constructor
  ·intro hx;rcases List.mem_cons.1 ((h x).1 (List.mem_cons_of_mem _ hx)) with e|e
   ·subst e;exact absurd (h1.1 x hx) (irr x)
   ·exact e
  ·intro hx;rcases List.mem_cons.1 ((h x).2 (List.mem_cons_of_mem _ hx)) with e|e
   ·subst e;exact absurd (h2.1 x hx) (irr x)
   ·exact e
def iA(f:α->Int)(l:List α):Prop:=l.Pairwise λa b=>f a<f b
theorem iA.ext{f:α->Int}{l m:List α}(h1:iA f l)(h2:iA f m)(h:∀x,x∈l↔x∈m):l=m:=ajO (lt:=λa b=>f a<f b) (λa=>by omega) (λa b c h1 h2=>by omega) h1 h2 h
theorem iA.nil{f:α->Int} : iA f []:=List.Pairwise.nil
theorem iA.sub{f:α->Int}{l m:List α}(h:iA f l)(hs:m.Sublist l):iA f m:=List.Pairwise.sublist hs h
theorem iA.map{f:β->Int}{g:α->β}{l:List α}(h:iA (λa=>f (g a)) l):iA f (l.map g):=List.pairwise_map.2 h
theorem iA.aqM{f:β->Int}{g:α->β}{l:List α}(h:iA f (l.map g)):iA (λa=>f (g a)) l:=by unfold iA at *;exact (List.pairwise_map (f:=g) (R:=λa b=>f a<f b)).1 h
theorem iA.inj{f:α->Int}{l:List α}(h:iA f l){a b:α}(ha:a∈l)(hb:b∈l)(e:f a=f b):a=b:=by
 induction l with
 |nil=>cases ha
 |cons c r ih =>
  unfold iA at h;rw[List.pairwise_cons] at h;rcases List.mem_cons.1 ha with h1|h1<;>rcases List.mem_cons.1 hb with h2|h2
  ·rw[h1,h2]
  ·have:=h.1 b h2;rw[h1] at e;omega
  ·have:=h.1 a h1;rw[h2] at e;omega
  ·exact ih h.2 h1 h2
theorem iA.aa4{f:α->Int}{l:List α}(h:iA f l){i j:Nat}(hij:i<j)(hj:j<l.length):f (l[i]'(by omega))<f l[j]:=List.pairwise_iff_getElem.1 h i j (by omega) hj hij
theorem iA.apP{f:α->Int}{l:List α}(h:iA f l){i j:Nat}(hi:i<l.length)(hj:j<l.length)(e:f l[i]=f l[j]):i=j:=by
 rcases Nat.lt_trichotomy i j with h1|h1|h1
 ·have:=h.aa4 h1 hj;omega
 ·exact h1
 ·have:=h.aa4 h1 hi;omega
theorem iA.aEF{f:α->Int}{l:List α}(h:∀i,(hi:i+1<l.length)->f (l[i]'(by omega))<f l[i+1]):iA f l:=by
 refine List.pairwise_iff_getElem.2 λi j hi hj hij=>?_
 obtain⟨k,rfl⟩:∃k,j=i+1+k:=⟨j-(i+1),by omega⟩
 induction k with
 |zero=>exact h i hj
 |succ k ih=>have h1:=ih (by omega) (by omega);have h2:=h (i+1+k) hj;exact Int.lt_trans h1 h2
theorem iA.nodup{f:α->Int}{l:List α}(h:iA f l):l.Nodup:=List.Pairwise.imp (λh e=>by subst e;omega) h
theorem iA.sort{f:α->Int}{l:List α}(h:(l.map f).Nodup):iA f (l.mergeSort λx y=>decide (f x<=f y)):=by
 have hp:=List.mergeSort_perm l (λx y=>decide (f x<=f y));have hs:(l.mergeSort λx y=>decide (f x<=f y)).Pairwise λa b=>decide (f a<=f b)=true:=List.pairwise_mergeSort (λa b c h1 h2=>by simp at *;omega) (λa b=>by simp;omega) l
 have hn:((l.mergeSort λx y=>decide (f x<=f y)).map f).Nodup:=(hp.map f).nodup_iff.2 h;have hn':(l.mergeSort λx y=>decide (f x<=f y)).Pairwise λa b=>f a≠f b:=List.pairwise_map.1 hn
 refine (List.pairwise_and_iff.2 ⟨hs,hn'⟩).imp λ{a b} hab=>?_
 have:=cm hab.1;have:=hab.2;omega
theorem iA.app{f:α->Int}{l m:List α}(h1:iA f l)(h2:iA f m)(h:∀a∈l,∀b∈m,f a<f b):iA f (l++m):=List.pairwise_append.2 ⟨h1,h2,h⟩
theorem iA.xL{f:α->Int}{l:List α}(h:iA f l):(l.map f).Nodup:=List.pairwise_map.2 (List.Pairwise.imp (λh=>by omega) h)
theorem mw{f:α->Int}{l m:List α}(h1:iA f l)(h2:iA f m)(h:∀a∈l,∀b∈m,f a≠f b):((l++m).map f).Nodup:=by rw[List.map_append,List.nodup_append];refine⟨h1.xL,h2.xL,λa ha b hb=>?_⟩;obtain⟨x,hx,rfl⟩:=List.mem_map.1 ha;obtain⟨y,hy,rfl⟩:=List.mem_map.1 hb;exact h x hx y hy
end
end Go.cq
namespace Go.Proofs.YtjhkgjlmiolfoaaGreat
open Go.cq
theorem oK{a b:ah} : dV a b=true↔a=b:=by cases a;cases b;simp[dV]
theorem xM{a b:au} : qU a b=true↔a=b:=by cases a;cases b;simp[qU]
section
variable{α:Type}{f:α->Int}{q:α->α->Bool}
theorem erase_filter(hq:∀a b,q a b=true↔a=b){l:List α}(h:iA f l){i:Nat}(hi:i<l.length){n:α}(hn:l[i]=n):l.take i++l.drop (i+1)=l.filter λm=>!q m n:=by
 rw[<-List.eraseIdx_eq_take_drop_succ];refine iA.ext (h.sub (List.eraseIdx_sublist ..)) (h.sub List.filter_sublist) λx=>?_
 rw[List.mem_eraseIdx_iff_getElem,List.mem_filter];constructor
 ·rintro⟨j,hj,hne,rfl⟩;refine⟨nR _,?_⟩;cases hx:q l[j] n with
  |false=>rfl
  |true=>have e:=(hq _ _).1 hx;exact absurd (h.apP hj hi (by rw[e,hn])) hne
 ·rintro⟨hx,hne⟩;obtain⟨j,hj,rfl⟩:=List.getElem_of_mem hx;refine⟨j,hj,λe=>?_,rfl⟩;subst e;rw[(hq _ _).2 hn] at hne;cases hne
def nY(q:α->α->Bool)(l r:List α):Bool:=r.all λn=>l.any λm=>q m n
def less(q:α->α->Bool)(l r:List α):List α:=l.filter λm=>!r.any λn=>q m n
def rmL [Inhabited α](f:α->Int)(q:α->α->Bool):List α->List α->Nat->Bool×List α×Nat
 |l,[],v=>(true,l,v)
 |l,n :: r,v=>match l.findIdx? λm=>decide (f m=f n) with
  |none=>(false,l,v)
  |some i=>if q (l.getD i default) n then rmL f q (l.take i++l.drop (i+1)) r (v+1) else (false,l,v)
theorem aic(hq:∀a b,q a b=true↔a=b){l r:List α}{n:α}(hr:∀m∈r,f n≠f m):nY q (l.filter λm=>!q m n) r=nY q l r/\less q (l.filter λm=>!q m n) r=less q l (n :: r):=by
 constructor
 ·unfold nY;rw[Bool.eq_iff_iff,List.all_eq_true,List.all_eq_true];refine forall_congr' λx=>forall_congr' λhx=>?_
  rw[List.any_eq_true,List.any_eq_true];constructor
  ·rintro⟨m,hm,h⟩;exact⟨m,(List.mem_filter.1 hm).1,h⟩
  ·rintro⟨m,hm,h⟩;refine⟨m,List.mem_filter.2 ⟨hm,?_⟩,h⟩;cases hmn:q m n with
   |false=>rfl
   |true=>have e1:=(hq _ _).1 h;have e2:=(hq _ _).1 hmn;exact absurd (by rw[<-e2,e1]) (hr x hx)
 ·unfold less;rw[List.filter_filter];congr 1;funext m;rw[List.any_cons,Bool.not_or,Bool.and_comm]
theorem afY [Inhabited α](hq:∀a b,q a b=true↔a=b):∀ (r l:List α) (v:Nat),iA f l->r.Pairwise (λa b=>f a≠f b)->(rmL f q l r v).1=nY q l r/\((rmL f q l r v).1=true->(rmL f q l r v).2.1=less q l r)
 | [],l,v,_,_=>⟨rfl,λ_=>by unfold less rmL;exact (List.filter_eq_self.2 (by simp)).symm⟩
 |n :: r,l,v,hl,hr=>by
  rw[List.pairwise_cons] at hr;rw[rmL];cases hf:l.findIdx? λm=>decide (f m=f n) with
  |none =>
   have h0:nY q l (n :: r)=false:=by unfold nY;rw[List.all_cons,Bool.and_eq_false_iff];left;rw[List.any_eq_false];intro m hm h;have:=List.findIdx?_eq_none_iff.1 hf m hm;rw[(hq _ _).1 h] at this;simp at this
   simp only[h0];exact⟨trivial,λh=>by cases h⟩
  |some i =>
   obtain⟨hi,h1,_⟩:=List.findIdx?_eq_some_iff_getElem.1 hf;have h1:=cm h1;have hg:l.getD i default=l[i]:=by simp[hi]
   simp only[hg];by_cases hs:q l[i] n=true
   ·rw[if_pos hs,erase_filter hq hl hi ((hq _ _).1 hs)];obtain⟨e1,e2⟩:=aic hq (l:=l) hr.1;obtain⟨k1,k2⟩:=afY hq r (l.filter λm=>!q m n) (v+1) (hl.sub List.filter_sublist) hr.2;rw[e1] at k1;rw[e2] at k2;refine⟨?_,k2⟩;rw[k1];unfold nY;rw[List.all_cons,show (l.any λm=>q m n)=true from List.any_eq_true.2 ⟨_,nR hi,hs⟩,Bool.true_and]
   ·rw[if_neg hs];have h0:nY q l (n :: r)=false:=by unfold nY;rw[List.all_cons,Bool.and_eq_false_iff];left;rw[List.any_eq_false];intro m hm h;have e:=(hq _ _).1 h;have:=hl.inj hm (nR hi) (by rw[e,h1]);rw[this] at h;exact hs h
    simp only[h0];exact⟨trivial,λh=>by cases h⟩
def wS(q:α->α->Bool)(l:List α)(n:α):List α×Bool:=match l.findIdx? λm=>q m n with
 |none=>(l,false)
 |some i=>(l.take i++l.drop (i+1),true)
def iB(q:α->α->Bool):List α->List α->List α×Bool
 |l,[]=>(l,true)
 |l,n :: r=>if (wS q l n).2=true then iB q (wS q l n).1 r else ((wS q l n).1,false)
theorem zu(hq:∀a b,q a b=true↔a=b):∀ (r l:List α),iA f l->r.Pairwise (λa b=>f a≠f b)->(iB q l r).2=nY q l r/\((iB q l r).2=true->(iB q l r).1=less q l r)
 | [],l,_,_=>⟨rfl,λ_=>by unfold less iB;exact (List.filter_eq_self.2 (by simp)).symm⟩
 |n :: r,l,hl,hr=>by
  rw[List.pairwise_cons] at hr;rw[iB];unfold wS;cases hf:l.findIdx? λm=>q m n with
  |none =>
   have h0:nY q l (n :: r)=false:=by unfold nY;rw[List.all_cons,Bool.and_eq_false_iff];left;rw[List.any_eq_false];intro m hm h;have:=List.findIdx?_eq_none_iff.1 hf m hm;rw[h] at this;cases this
   simp only[h0];exact⟨rfl,λh=>by cases h⟩
  |some i=>obtain⟨hi,hs,_⟩:=List.findIdx?_eq_some_iff_getElem.1 hf;simp only[if_true,erase_filter hq hl hi ((hq _ _).1 hs)];obtain⟨e1,e2⟩:=aic hq (l:=l) hr.1;obtain⟨k1,k2⟩:=zu hq r (l.filter λm=>!q m n) (hl.sub List.filter_sublist) hr.2;rw[e1] at k1;rw[e2] at k2;refine⟨?_,k2⟩;rw[k1];unfold nY;rw[List.all_cons,show (l.any λm=>q m n)=true from List.any_eq_true.2 ⟨_,nR hi,hs⟩,Bool.true_and]
theorem zv{l r:List α}(h:iA f l):iA f (less q l r):=h.sub List.filter_sublist
end
theorem afZ:∀ (r l:List ah) (v:Nat),lP l r v=rmL ah.id dV l r v
 | [],l,v=>rfl
 |n :: r,l,v=>by
  rw[lP,rmL];cases l.findIdx? λm=>decide (m.id=n.id) with
  |none=>rfl
  |some i=>simp only;rw[afZ r]
theorem af0:∀ (r l:List au) (v:Nat),nU l r v=rmL au.id qU l r v
 | [],l,v=>rfl
 |n :: r,l,v=>by
  rw[nU,rmL];cases l.findIdx? λm=>decide (m.id=n.id) with
  |none=>rfl
  |some i=>simp only;rw[af0 r]
def j9(v:aK)(n:ah):Bool:=decide (n.id=v.id)&&okV n.values v
def ng(v:aK)(n:ah):ah:=if j9 v n=true then { n with values:=n.values.set v.attr.toNat v.new } else n
theorem tQ(v:aK)(n:ah):(ng v n).id=n.id:=by unfold ng;split<;>rfl
theorem auy(v:aK)(n:ah):(ng v n).type=n.type:=by unfold ng;split<;>rfl
theorem af1(v:aK)(n:ah):(ng v n).values.length=n.values.length:=by unfold ng;split<;>simp
def dH:List ah->List aK->List ah×Bool
 |l,[]=>(l,true)
 |l,v :: r=>if l.any (j9 v)=true then dH (l.map (ng v)) r else (l.map (ng v),false)
theorem af2:∀ (r:List aK) (l:List ah),iA ah.id l->(lQ l r).1=(dH l r).2/\((lQ l r).1=true->(lQ l r).2=(dH l r).1)
 | [],l,_=>⟨rfl,λ_=>rfl⟩
 |v :: r,l,hl=>by
  rw[lQ,dH];cases hf:l.findIdx? λm=>decide (m.id=v.id) with
  |none =>
   have h0:l.any (j9 v)=false:=by rw[List.any_eq_false];intro m hm h;have:=List.findIdx?_eq_none_iff.1 hf m hm;unfold j9 at h;rw[this] at h;cases h
   simp only[h0];exact⟨rfl,λh=>by cases h⟩
  |some i =>
   obtain⟨hi,h1,_⟩:=List.findIdx?_eq_some_iff_getElem.1 hf;have h1:=cm h1;have hg:l.getD i default=l[i]:=by simp[hi]
   simp only[hg];have hfit:∀m∈l,j9 v m=true->m=l[i]:=λm hm h=>by unfold j9 at h;rw[Bool.and_eq_true] at h;exact hl.inj hm (nR hi) (by rw[cm h.1,h1])
   by_cases hs:okV l[i].values v=true
   ·have afj:l.any (j9 v)=true:=List.any_eq_true.2 ⟨_,nR hi,by unfold j9;rw[h1,hs,dB rfl];rfl⟩;rw[if_pos hs,if_pos afj];have e:l.set i { l[i] with values:=l[i].values.set v.attr.toNat v.new } = l.map (ng v):=by
     refine List.ext_getElem (by simp) λj h2 h3=>?_
     rw[List.getElem_set,List.getElem_map];split
     ·rename_i e;subst e;unfold ng;rw[if_pos (by unfold j9;rw[h1,hs,dB rfl];rfl)]
     ·rename_i hne;unfold ng;rw[if_neg λh=>hne ?_];have:=hfit _ (nR (by simpa using h3)) h;exact (hl.apP (by simpa using h3) hi (by rw[this])).symm
    rw[e];exact af2 r _ (iA.map (by simpa only[tQ] using hl))
   ·rw[if_neg hs,if_neg λh=>hs ?_]
    ·exact⟨rfl,λh=>by cases h⟩
    ·obtain⟨m,hm,h⟩:=List.any_eq_true.1 h;have e:=hfit m hm h;subst e;unfold j9 at h;rw[Bool.and_eq_true] at h;exact h.2
theorem abJ:∀ (r:List aK) (l:List ah),iA ah.id l->iA ah.id (dH l r).1
 | [],l,h=>h
 |v :: r,l,h=>by
  have h':iA ah.id (l.map (ng v)):=iA.map (by simpa only[tQ] using h);rw[dH];split
  ·exact abJ r _ h'
  ·exact h'
def ajP(l m:List ah):Prop:=l.map (λn=>(n.id,n.type,n.values.length))=m.map (λn=>(n.id,n.type,n.values.length))
theorem vC:∀ (r:List aK) (l:List ah),ajP (dH l r).1 l
 | [],l=>rfl
 |v :: r,l=>by
  have h':ajP (l.map (ng v)) l:=by
   unfold ajP;rw[List.map_map];refine List.map_congr_left λn _=>?_
   simp only[Function.comp,tQ,auy,af1]
  rw[dH];split
  ·exact (vC r _).trans h'
  ·exact h'
theorem ajP.len{l m:List ah}(h:ajP l m):l.length=m.length:=by simpa using congrArg List.length h
theorem aay{l:List ah}(h:(l.map ah.id).Nodup):iA ah.id (j7 l):=iA.sort h
theorem aaz{l:List au}(h:(l.map au.id).Nodup):iA au.id (mc l):=iA.sort h
theorem nJ{l:List ah}{x:ah} : x∈j7 l↔x∈l:=(List.mergeSort_perm l _).mem_iff
theorem rO{l:List au}{x:au} : x∈mc l↔x∈l:=(List.mergeSort_perm l _).mem_iff
theorem auz{l:List ah} : (j7 l).length=l.length:=List.length_mergeSort _
theorem auA{l:List au} : (mc l).length=l.length:=List.length_mergeSort _
theorem abK{l:List ah}{m:List au}{p:aG}(h:gm l m p=false):(∀n∈p.aR,(∀x∈l,x.id≠n.id)/\∀x∈m,x.id≠n.id)/\∀e∈p.aP,(∀x∈l,x.id≠e.id)/\∀x∈m,x.id≠e.id:=by unfold gm kC at h;simp only[Bool.or_eq_false_iff,List.any_eq_false,decide_eq_true_eq] at h;simp only[Bool.not_eq_true,Bool.or_eq_false_iff,List.any_eq_false,decide_eq_true_eq] at h;exact h
theorem amy{α:Type} [Inhabited α]{f:α->Int}{d:List α}(h:(d.map f).Nodup):ah4 f d:=λi j hi hj e=>by
 have hg:∀k,(hk:k<d.length)->d.getD k default=d[k]:=λk hk=>by simp[hk]
 rw[hg i hi,hg j hj] at e;have h2:=List.pairwise_iff_getElem.1 h;rcases Nat.lt_trichotomy i j with h1|h1|h1
 ·exact absurd (by rw[List.getElem_map,List.getElem_map];exact e) (h2 i j (by simpa using hi) (by simpa using hj) h1)
 ·exact h1
 ·exact absurd (by rw[List.getElem_map,List.getElem_map];exact e.symm) (h2 j i (by simpa using hj) (by simpa using hi) h1)
theorem bu{n:Nat}(h:n<=4000000000000000000):n<=fuel:=by unfold fuel;omega
theorem nh{l:List Int}(hl:l.length<=1000000)(x:Int):fJ l x=some (wQ (λy=>decide (y=x)) l):=by unfold fJ;rw[bw (bu (by omega))];refine wR l _ (λi hi cz=>?_) rfl;rw[bS hi];try simp only[eq_comm (a:=x)]
theorem dc{l:List Int}(hl:l.length<=1000000)(x:Int):bW l x=some (wQ (λy=>decide (y=x)) l):=by unfold bW;rw[bw (bu (by omega))];refine wR l _ (λi hi cz=>?_) rfl;rw[bS hi];try simp only[eq_comm (a:=x)]
theorem yE{l:List Int}(hl:l.length<=1000000)(x:Int):jq l x=some (decide (x∈l)):=by
 unfold jq;rw[aT (nh hl x),xK];congr 1;rw[Bool.eq_iff_iff,List.any_eq_true,decide_eq_true_iff];constructor
 ·rintro⟨y,hy,e⟩;rw[<-cm e];exact hy
 ·intro h;exact⟨x,h,dB rfl⟩
theorem xN{l:List Int}{p:Int->Option Bool}(q:Int->Bool)(hl:l.length<=1000000)(hp:∀x∈l,p x=some (q x)):iV l p=some (wQ q l):=by unfold iV;rw[bw (bu (by omega))];refine wR l q (λi hi cz=>?_) rfl;rw[bS hi,aT (hp _ (nR hi))]
theorem vi{l:List Int}{p:Int->Option Bool}(q:Int->Bool)(hl:l.length<=1000000)(hp:∀x∈l,p x=some (q x)):gL l p=some (l.any q):=by unfold gL;rw[aT (xN q hl hp),xK]
theorem nA{l:List ah}{p:ah->Option Bool}(q:ah->Bool)(hl:l.length<=1000000)(hp:∀x∈l,p x=some (q x)):eH l p=some (wQ q l):=by unfold eH;rw[bw (bu (by omega))];refine wR l q (λi hi cz=>?_) rfl;rw[bS hi,aT (hp _ (nR hi))]
theorem lJ{l:List ah}{p:ah->Option Bool}(q:ah->Bool)(hl:l.length<=1000000)(hp:∀x∈l,p x=some (q x)):dO l p=some (l.any q):=by unfold dO;rw[aT (nA q hl hp),xK]
theorem nB{l:List au}{p:au->Option Bool}(q:au->Bool)(hl:l.length<=1000000)(hp:∀x∈l,p x=some (q x)):eL l p=some (wQ q l):=by unfold eL;rw[bw (bu (by omega))];refine wR l q (λi hi cz=>?_) rfl;rw[bS hi,aT (hp _ (nR hi))]
theorem qP{l:List au}{p:au->Option Bool}(q:au->Bool)(hl:l.length<=1000000)(hp:∀x∈l,p x=some (q x)):eW l p=some (l.any q):=by unfold eW;rw[aT (nB q hl hp),xK]
def jw(l:List Int)(next:Int)(j:Nat):Int:=if l.getD j 0<0\/next<=l.getD j 0 then 6 else if 0<j/\l.getD j 0<=l.getD (j-1) 0 then 12 else 0
def td(l:List Int)(next:Int):Int:=ayZ (jw l next) (List.range l.length)
theorem sJ{l:List Int}(hl:l.length<=1000000)(next:Int):iI l next=some (td l next):=by
 unfold iI;rw[bw (bu (by omega))];rw[uQ (λj=>decide (jw l next j=0)) (λj=>some (jw l next j)) ?_]
 ·exact aib rfl
 ·intro j hj cz;have hg:l.getD j 0=l[j]:=by simp[hj]
  rw[bS hj,aX,aX,aX];by_cases h1:l[j]<0
  ·rw[if_pos h1];have:jw l next j=6:=by unfold jw;rw[if_pos (by rw[hg];exact .inl h1)]
   rw[this];rfl
  rw[if_neg h1];by_cases h2:next<=l[j]
  ·rw[if_pos h2];have:jw l next j=6:=by unfold jw;rw[if_pos (by rw[hg];exact .inr h2)]
   rw[this];rfl
  rw[if_neg h2];by_cases h3:0<j
  ·have hg2:l.getD (j-1) 0=l[j-1]'(by omega):=by simp[show j-1<l.length by omega]
   rw[if_pos (by omega),dJ (by omega),fS (by omega) (by omega)];rw[aX];have e2:l[(((j:Nat):Int)-1).toNat]'(by omega)=l[j-1]'(by omega):=by congr 1;omega
   rw[e2];by_cases h4:l[j]<=l[j-1]'(by omega)
   ·rw[if_pos h4];have:jw l next j=12:=by unfold jw;rw[if_neg (by rw[hg];omega),if_pos (by rw[hg,hg2];exact⟨h3,h4⟩)]
    rw[this];rfl
   ·rw[if_neg h4];have:jw l next j=0:=by unfold jw;rw[if_neg (by rw[hg];omega),if_neg (by rw[hg,hg2];omega)]
    rw[this];rfl
  ·rw[if_neg (by omega)];have:jw l next j=0:=by unfold jw;rw[if_neg (by rw[hg];omega),if_neg (by omega)]
   rw[this];rfl
theorem qW{l:List Int}(hl:l.length<=1000000)(next:Int):gY l next=some (td l next):=by
 unfold gY;rw[bw (bu (by omega))];rw[uQ (λj=>decide (jw l next j=0)) (λj=>some (jw l next j)) ?_]
 ·exact aib rfl
 ·intro j hj cz;have hg:l.getD j 0=l[j]:=by simp[hj]
  rw[bS hj,aX,aX,aX];by_cases h1:l[j]<0
  ·rw[if_pos h1];have:jw l next j=6:=by unfold jw;rw[if_pos (by rw[hg];exact .inl h1)]
   rw[this];rfl
  rw[if_neg h1];by_cases h2:next<=l[j]
  ·rw[if_pos h2];have:jw l next j=6:=by unfold jw;rw[if_pos (by rw[hg];exact .inr h2)]
   rw[this];rfl
  rw[if_neg h2];by_cases h3:0<j
  ·have hg2:l.getD (j-1) 0=l[j-1]'(by omega):=by simp[show j-1<l.length by omega]
   rw[if_pos (by omega),dJ (by omega),fS (by omega) (by omega)];rw[aX];have e2:l[(((j:Nat):Int)-1).toNat]'(by omega)=l[j-1]'(by omega):=by congr 1;omega
   rw[e2];by_cases h4:l[j]<=l[j-1]'(by omega)
   ·rw[if_pos h4];have:jw l next j=12:=by unfold jw;rw[if_neg (by rw[hg];omega),if_pos (by rw[hg,hg2];exact⟨h3,h4⟩)]
    rw[this];rfl
   ·rw[if_neg h4];have:jw l next j=0:=by unfold jw;rw[if_neg (by rw[hg];omega),if_neg (by rw[hg,hg2];omega)]
    rw[this];rfl
  ·rw[if_neg (by omega)];have:jw l next j=0:=by unfold jw;rw[if_neg (by rw[hg];omega),if_neg (by omega)]
   rw[this];rfl
theorem vD{l:List Int}{next:Int} : td l next=0↔(∀x∈l,0<=x/\x<next)/\iA id l:=by
 unfold td;rw[auw];have hg:∀j,(hj:j<l.length)->l.getD j 0=l[j]:=λj hj=>by simp[hj]
 constructor
 ·intro h;have h':∀j,(hj:j<l.length)->(0<=l[j]/\l[j]<next)/\∀ (_:0<j),l[j-1]'(by omega)<l[j]:=λj hj=>by
   have:=h j (List.mem_range.2 hj);unfold jw at this;rw[hg j hj] at this;split at this
   ·cases this
   ·split at this
    ·cases this
    ·rename_i h1 h2;refine⟨by omega,λh0=>?_⟩;rw[hg (j-1) (by omega)] at h2;omega
  refine⟨λx hx=>?_,iA.aEF λi hi=>?_⟩
  ·obtain⟨j,hj,rfl⟩:=List.getElem_of_mem hx;exact (h' j hj).1
  ·exact (h' (i+1) hi).2 (by omega)
 ·rintro⟨h1,h2⟩ j hj;have hj:=List.mem_range.1 hj;have hx:=h1 _ (nR hj);unfold jw;rw[hg j hj,if_neg (by omega)];by_cases h0:0<j
  ·rw[hg (j-1) (by omega)];have:=h2.aa4 (i:=j-1) (j:=j) (by omega) hj;simp only[id] at this;rw[if_neg (by omega)]
  ·rw[if_neg (by omega)]
def lq(t:Types)(x:ax):Int :=
 if (jT t x.host).2≠0 then (jT t x.host).2
 else if x.nodes.length≠x.host.graph.nodes.length\/x.ak.length≠x.host.graph.ak.length then 20
 else if x.next<0\/1000000<x.next then 6
 else if td x.nodes x.next≠0 then td x.nodes x.next
 else if td x.ak x.next≠0 then td x.ak x.next
 else if x.ak.any (λe=>decide (e∈x.nodes))=true then 5 else 0
structure j4(x:ax):Prop where
 host:sV x.host
 nodes:x.nodes.length<=1000000
 ak:x.ak.length<=1000000
theorem acK{t:Types}{h:Host}(ht:fC t)(hh:sV h):tM t h=some (jT t h):=tw ⟨ht,hh⟩
theorem v8{t:Types}{h:Host}(ht:fC t)(hh:sV h):iH t h=some (jT t h):=tw ⟨ht,hh⟩
theorem zw{t:Types}(h:fC t):jN t=some (gC t):=tw h
theorem acL{t:Types}{h:Host}(hv:(gC t).2≠0):jT t h=(-1,(gC t).2):=by unfold jT;rw[if_pos hv]
theorem nC{t:Types}(ht:fC t){x:ax}(hx:j4 x):fO t x=some (lq t x):=by
 have h1:=hx.nodes;have h2:=hx.ak;unfold fO lq;rw[aT (acK ht hx.host),aX];by_cases h0:(jT t x.host).2=0
 ·rw[if_pos h0,if_neg (λh=>h h0),aX,aX];by_cases h3:x.nodes.length=x.host.graph.nodes.length
  ·rw[if_pos (by omega)];by_cases h4:x.ak.length=x.host.graph.ak.length
   ·rw[if_pos (by omega),if_neg (show ¬ (_\/_) by omega),aX,aX];by_cases h5:x.next<0
    ·rw[if_pos h5,if_pos (.inl h5)]
    rw[if_neg h5];by_cases h6:1000000<x.next
    ·rw[if_pos h6,if_pos (.inr h6)]
    rw[if_neg h6,if_neg (show ¬ (_\/_) by omega),aT (sJ h1 _),aX];by_cases h7:td x.nodes x.next=0
    ·rw[if_pos h7,if_neg (λh=>h h7),aT (sJ h2 _),aX];by_cases h8:td x.ak x.next=0
     ·rw[if_pos h8,if_neg (λh=>h h8),aT (vi (λe=>decide (e∈x.nodes)) h2 (λe _=>by unfold kY;rw[aT (yE h1 e)]))];cases x.ak.any λe=>decide (e∈x.nodes)<;>rfl
     ·rw[if_neg h8,if_pos h8]
    ·rw[if_neg h7,if_pos h7]
   ·rw[if_neg (by omega),if_pos (.inr h4)]
  ·rw[if_neg (by omega),if_pos (.inl h3)]
 ·rw[if_neg h0,if_pos h0]
theorem mz{t:Types}(ht:fC t){x:ax}(hx:j4 x):b8 t x=some (lq t x):=by
 have h1:=hx.nodes;have h2:=hx.ak;unfold b8 lq;rw[aT (zw ht),aX];by_cases hT:(gC t).2=0;rotate_left
 ·rw[if_neg hT,acL hT,if_pos hT]
 rw[if_pos hT,aT (v8 ht hx.host),aX];by_cases h0:(jT t x.host).2=0
 ·rw[if_pos h0,if_neg (λh=>h h0),aX,aX];by_cases h3:x.nodes.length=x.host.graph.nodes.length
  ·rw[if_pos (by omega)];by_cases h4:x.ak.length=x.host.graph.ak.length
   ·rw[if_pos (by omega),if_neg (show ¬ (_\/_) by omega),aX,aX];by_cases h5:x.next<0
    ·rw[if_pos h5,if_pos (.inl h5)]
    rw[if_neg h5];by_cases h6:1000000<x.next
    ·rw[if_pos h6,if_pos (.inr h6)]
    rw[if_neg h6,if_neg (show ¬ (_\/_) by omega),aT (qW h1 _),aX];by_cases h7:td x.nodes x.next=0
    ·rw[if_pos h7,if_neg (λh=>h h7),aT (qW h2 _),aX];by_cases h8:td x.ak x.next=0
     ·rw[if_pos h8,if_neg (λh=>h h8),bw (bu (by omega))];rw[oJ x.ak (λe=>!decide (e∈x.nodes)) (λ_=>some 5) ?_]
      ·rw[pM];have e:(x.ak.all λe=>!decide (e∈x.nodes)) = !x.ak.any λe=>decide (e∈x.nodes):=by rw[List.not_any_eq_all_not]
       rw[e];cases x.ak.any λe=>decide (e∈x.nodes)<;>rfl
      ·intro i hi cz;rw[bS hi,aT (dc h1 _),xK];have e:(x.nodes.any λy=>decide (y=x.ak[i]))=decide (x.ak[i]∈x.nodes):=by
        rw[Bool.eq_iff_iff,List.any_eq_true,decide_eq_true_iff];constructor
        ·rintro⟨y,hy,e⟩;rw[<-cm e];exact hy
        ·intro h;exact⟨_,h,dB rfl⟩
       rw[e];cases decide (x.ak[i]∈x.nodes)<;>rfl
     ·rw[if_neg h8,if_pos h8]
    ·rw[if_neg h7,if_pos h7]
   ·rw[if_neg (by omega),if_pos (.inr h4)]
  ·rw[if_neg (by omega),if_pos (.inl h3)]
 ·rw[if_neg h0,if_pos h0]
end Go.Proofs.YtjhkgjlmiolfoaaGreat
namespace Go.cq
section
variable{α X Y O:Type}
def ov(step:X->Y->α->(X×Y)×Bool):X->Y->List α->(X×Y)×Bool
 |x,y,[]=>((x,y),true)
 |x,y,e :: r=>if (step x y e).2=true then ov step (step x y e).1.1 (step x y e).1.2 r else step x y e
theorem af3{F:Bool×Int×X×Y->(Bool×Int×X×Y->Option O)->(Bool×Int×X×Y->Option O)->Option O}{K:Bool×Int×X×Y->Option O}(l:List α)(step:X->Y->α->(X×Y)×Bool)(inv:X->Y->Prop)
  (h0:∀i x y cz,F (false,i,x,y) cz K=K (false,i,x,y)) (h1:∀x y cz,F (true,((l.length:Nat):Int),x,y) cz K=K (true,((l.length:Nat):Int),x,y))
  (h2:∀ (i:Nat) (hi:i<l.length) x y cz,inv x y->F (true,(i:Int),x,y) cz K=cz ((step x y l[i]).2,((i+1:Nat):Int),(step x y l[i]).1.1,(step x y l[i]).1.2)/\inv (step x y l[i]).1.1 (step x y l[i]).1.2) :
  ∀ (k i n:Nat) (x:X) (y:Y),i+k=l.length->k+2<=n->inv x y->(∃j,iter F n (true,(i:Int),x,y) K=K ((ov step x y (l.drop i)).2,j,(ov step x y (l.drop i)).1.1,(ov step x y (l.drop i)).1.2))/\inv (ov step x y (l.drop i)).1.1 (ov step x y (l.drop i)).1.2
 |0,i,n+1,x,y,hk,hn,hv=>by
  have:i=l.length:=by omega
  subst this;rw[List.drop_length];exact⟨⟨_,by rw[iter,h1];rfl⟩,hv⟩
 |k+1,i,n+1,x,y,hk,hn,hv=>by
  have hi:i<l.length:=by omega
  obtain⟨g1,g2⟩:=h2 i hi x y (λs=>iter F n s K) hv;rw[List.drop_eq_getElem_cons hi,ov];cases hb:(step x y l[i]).2 with
  |true=>simp only[if_true];obtain⟨⟨j,q1⟩,q2⟩:=af3 l step inv h0 h1 h2 k (i+1) n _ _ (by omega) (by omega) g2;exact⟨⟨j,by rw[iter,g1,hb];exact q1⟩,q2⟩
  |false=>simp only[Bool.false_eq_true,if_false];obtain⟨n,rfl⟩:∃m,n=m+1:=⟨n-1,by omega⟩;exact⟨⟨_,by rw[iter,g1,hb,iter,h0]⟩,g2⟩
theorem ay0{F:Bool×Int×X×Y->(Bool×Int×X×Y->Option O)->(Bool×Int×X×Y->Option O)->Option O}{K:Bool×Int×X×Y->Option O}(l:List α)(step:X->Y->α->(X×Y)×Bool)(inv:X->Y->Prop)(hl:l.length<=1000000)
  (h0:∀i x y cz,F (false,i,x,y) cz K=K (false,i,x,y)) (h1:∀x y cz,F (true,((l.length:Nat):Int),x,y) cz K=K (true,((l.length:Nat):Int),x,y))
  (h2:∀ (i:Nat) (hi:i<l.length) x y cz,inv x y->F (true,(i:Int),x,y) cz K=cz ((step x y l[i]).2,((i+1:Nat):Int),(step x y l[i]).1.1,(step x y l[i]).1.2)/\inv (step x y l[i]).1.1 (step x y l[i]).1.2)
  (b:Bool) (x:X) (y:Y) (hv:inv x y):∃j,iter F fuel (b,0,x,y) K=K (if b=true then (ov step x y l).2 else false,j,if b=true then (ov step x y l).1.1 else x,if b=true then (ov step x y l).1.2 else y)/\(b=true->inv (ov step x y l).1.1 (ov step x y l).1.2):=by
 cases b with
 |true=>obtain⟨⟨j,q1⟩,q2⟩:=af3 l step inv h0 h1 h2 l.length 0 fuel x y (by omega) (by unfold fuel;omega) hv;rw[List.drop_zero] at q1 q2;simp only[if_true];exact⟨j,q1,λ_=>q2⟩
 |false=>simp only[Bool.false_eq_true,if_false];refine⟨0,?_,λh=>by cases h⟩;rw[show fuel=4611686018427387903+1 from rfl,iter,h0]
end
section
variable{α O:Type}{Q:O->Prop}
theorem aed(f:α->Int)(A B:List α)(hA:iA f A)(hB:iA f B)(hd:∀a∈A,∀b∈B,f a≠f b)(hlA:A.length<=1000000)(hlB:B.length<=1000000){K:Int×Int×List α->Option O}
    (hK:∀out,iA f out->(∀x,x∈out↔x∈A\/x∈B)->∀k i,Ok (K (k,i,out)) Q) :
    Ok (iter (λ(s:Int×Int×List α) aEG aIq =>
      cond (decide (s.2.1<=((A.length:Nat):Int))) (
       iter (λ(s1:Int×List α) lG vA =>
        cond (decide (s1.1<((B.length:Nat):Int))) (
         cond (decide (s.2.1=((A.length:Nat):Int))) (
          thn (mJ B s1.1) λe =>
          cC (s1.2.length+1<=68719476736) <|
          lG ((i64.wrap (s1.1+1)),(s1.2++[e]))) <|
         thn (mJ B s1.1) λe =>
         thn (mJ A s.2.1) λe2 =>
         cond (decide (f e<f e2)) (
          cC (s1.2.length+1<=68719476736) <|
          lG ((i64.wrap (s1.1+1)),(s1.2++[e]))) <|
         vA (s1.1,s1.2)) <|
        vA (s1.1,s1.2))
       fuel (s.1,s.2.2) λs1 =>
       cond (decide (s.2.1<((A.length:Nat):Int))) (
        thn (mJ A s.2.1) λe =>
        cC (s1.2.length+1<=68719476736) <|
        aEG (s1.1,(i64.wrap (s.2.1+1)),(s1.2++[e]))) <|
       aEG (s1.1,(i64.wrap (s.2.1+1)),s1.2)) <|
      aIq (s.1,s.2.1,s.2.2))
     fuel (0,0,([]:List α)) K) Q:=by
  refine aeH (λ(s:Int×Int×List α)=>∃k i:Nat,s.1=(k:Int)/\s.2.1=(i:Int)/\k<=B.length/\i<=A.length+1/\s.2.2.length<=i+k/\iA f s.2.2/\(∀x,x∈s.2.2↔x∈A.take i\/x∈B.take k)/\(∀x∈s.2.2,∀j,(hj:j<A.length)->i<=j->f x<f A[j])/\(∀x∈s.2.2,∀j,(hj:j<B.length)->k<=j->f x<f B[j])/\(i<=A.length\/k=B.length)) (λs=>A.length+1-s.2.1.toNat)
    ⟨0,0,rfl,rfl,Nat.zero_le _,Nat.zero_le _,Nat.le_refl _,iA.nil,by simp,λx hx=>(by cases hx),λx hx=>(by cases hx),.inl (Nat.zero_le _)⟩ (by unfold fuel;simp;omega) ?_
  rintro⟨s1,s2,out⟩ cz ⟨k,i,rfl,rfl,hk,hi,hlen,ay1,hmem,h1,h2,h3⟩ hn;simp only at hlen ay1 hmem h1 h2 hn ⊢;by_cases hc:i<=A.length;rotate_left
  · refine apg (eT (by omega)) (hK out ay1 (λx=>?_) _ _);have hkB:k=B.length:=by omega
    rw[hmem,List.take_of_length_le (by omega),List.take_of_length_le (by omega)]
  refine vR (dB (by omega)) ?_;refine aeH (λ(s:Int×List α)=>∃k':Nat,s.1=(k':Int)/\k<=k'/\k'<=B.length/\s.2.length<=i+k'/\iA f s.2/\(∀x,x∈s.2↔x∈A.take i\/x∈B.take k')/\(∀x∈s.2,∀j,(hj:j<A.length)->i<=j->f x<f A[j])/\(∀x∈s.2,∀j,(hj:j<B.length)->k'<=j->f x<f B[j])) (λs=>B.length-s.1.toNat)
    ⟨k,rfl,Nat.le_refl _,hk,hlen,ay1,hmem,h1,h2⟩ (by unfold fuel;simp;omega) ?_
  rintro⟨t,out⟩ aIr ⟨k',rfl,hkk,hk',hlen',aqN,aqO,tG,h2'⟩ hn1;simp only at hlen' aqN aqO tG h2' hn1 ⊢
  have behind : (k' = B.length ∨ (i < A.length ∧ ∃ hb : k' < B.length, ∀ ha : i < A.length, f A[i] < f B[k'])) → Ok (cond (decide (((i : Nat) : Int) < ((A.length : Nat) : Int))) (
        thn (mJ A ((i:Nat):Int)) λe =>
        cC (out.length+1<=68719476736) <|
        cz (((k':Nat):Int),(i64.wrap (((i:Nat):Int)+1)),(out++[e]))) <|
       cz (((k':Nat):Int),(i64.wrap (((i:Nat):Int)+1)),out)) Q:=by
    intro hb;rw[dJ (by omega)];by_cases ha:i<A.length
    · refine vR (dB (by omega)) (lY (by omega) (by omega) (cA (by omega) (hn _ ⟨k',i+1,rfl,by simp only;omega,hk',by omega,by simp;omega,?_,?_,?_,?_,.inl (by omega)⟩ (by simp only;omega))))
      · refine aqN.app (List.pairwise_singleton _ _) λa hx b hb=>?_
        rw[List.mem_singleton.1 hb];exact tG a hx i ha (Nat.le_refl _)
      · intro x;rw[List.mem_append,aqO,List.mem_singleton,List.take_add_one,List.getElem?_eq_getElem ha,Option.toList_some,List.mem_append,List.mem_singleton];simp only[Int.toNat_natCast];constructor
        · rintro ((h|h)|h)
          · exact .inl (.inl h)
          · exact .inr h
          · exact .inl (.inr h)
        · rintro ((h|h)|h)
          · exact .inl (.inl h)
          · exact .inr h
          · exact .inl (.inr h)
      · intro x hx j hj hij;rcases List.mem_append.1 hx with hx|hx
        · exact tG x hx j hj (by omega)
        · rw[List.mem_singleton.1 hx];exact hA.aa4 (by simp only[Int.toNat_natCast];omega) hj
      · intro x hx j hj hij;rcases List.mem_append.1 hx with hx|hx
        · exact h2' x hx j hj hij
        · rw[List.mem_singleton.1 hx];rcases hb with hb|⟨_,hb,hab⟩
          · omega
          · have e1:=hab ha;rcases Nat.lt_or_eq_of_le hij with h|h
            · exact Int.lt_trans e1 (hB.aa4 h hj)
            · subst h;exact e1
    · refine apg (eT (by omega)) (hn _ ⟨k',i+1,rfl,by simp only;omega,hk',by omega,by simp only;omega,aqN,?_,?_,h2',?_⟩ (by simp only;omega))
      · intro x;simp only;rw[aqO,List.take_of_length_le (show A.length<=i by omega),List.take_of_length_le (show A.length<=i+1 by omega)]
      · intro x hx j hj hij;omega
      · rcases hb with hb|⟨hb,_⟩
        · exact .inr hb
        · omega
  have step:(hb:k'<B.length)->(∀ha:i<A.length,f B[k']<f A[i])->Ok (aIr (i64.wrap (((k':Nat):Int)+1),out++[B[k']])) Q:=by
    intro hb hab;rw[dJ (by omega)];refine hn1 _ ⟨k'+1,by simp only;omega,by omega,by omega,by simp;omega,?_,?_,?_,?_⟩ (by simp only;omega)
    · refine aqN.app (List.pairwise_singleton _ _) λa hx b hb'=>?_
      rw[List.mem_singleton.1 hb'];exact h2' a hx k' hb (Nat.le_refl _)
    · intro x;rw[List.mem_append,aqO,List.mem_singleton,List.take_add_one (l:=B),List.getElem?_eq_getElem hb,Option.toList_some,List.mem_append,List.mem_singleton,or_assoc]
    · intro x hx j hj hij;rcases List.mem_append.1 hx with hx|hx
      · exact tG x hx j hj hij
      · rw[List.mem_singleton.1 hx];have e1:=hab (by omega);rcases Nat.lt_or_eq_of_le hij with h|h
        · exact Int.lt_trans e1 (hA.aa4 h hj)
        · subst h;exact e1
    · intro x hx j hj hij;rcases List.mem_append.1 hx with hx|hx
      · exact h2' x hx j hj (by omega)
      · rw[List.mem_singleton.1 hx];exact hB.aa4 (by omega) hj
  by_cases hb:k'<B.length;rotate_left
  · exact apg (eT (by omega)) (behind (.inl (by omega)))
  refine vR (dB (by omega)) ?_;by_cases ha:i<A.length
  · refine apg (eT (by omega)) (lY (by omega) (by omega) (lY (by omega) (by omega) ?_));simp only[Int.toNat_natCast];by_cases hlt:f B[k']<f A[i]
    · exact vR (dB hlt) (cA (by omega) (step hb λ_=>hlt))
    · refine apg (eT hlt) (behind (.inr ⟨ha,hb,λ_=>?_⟩));have:=hd A[i] (nR ha) B[k'] (nR hb);omega
  · refine vR (dB (by omega)) (lY (by omega) (by omega) (cA (by omega) ?_));simp only[Int.toNat_natCast];exact step hb λh=>absurd h ha
end
end Go.cq
namespace Go.Proofs.YtjhkgjlmiolfoaaGreat
open Go.cq
structure o5(t:Types)(h:Host):Prop where
 types:(gC t).2=0
 valid:qv h.graph=0
 adF:h.values.length=h.graph.nodes.length
 node:∀i,i<h.graph.nodes.length->mI t (h.graph.nodes.getD i default) (h.values.getD i default)=0
 gR:∀i,i<h.graph.ak.length->tv t h i=0
theorem o5.graph{t:Types}{h:Host}(hh:o5 t h):OkG h.graph:=okG hh.valid
theorem qd{t:Types}{h:Host} : (jT t h).2=0↔o5 t h:=by
 unfold jT;constructor
 ·intro hv;split at hv
  ·rename_i h1;exact absurd hv h1
  ·rename_i h1;split at hv
   ·rename_i h2;exact absurd hv h2
   ·rename_i h2;split at hv
    ·cases hv
    ·rename_i h3;split at hv
     ·rename_i k hk;exact absurd hv (vu hk)
     ·rename_i h4;split at hv
      ·rename_i k hk;exact absurd hv (vu hk)
      ·rename_i h5;exact⟨Decidable.of_not_not h1,Decidable.of_not_not h2,Decidable.of_not_not h3,xw h4,xw h5⟩
 ·rintro⟨h1,h2,h3,h4,h5⟩;rw[if_neg (λh=>h h1),if_neg (λh=>h h2),if_neg (λh=>h h3),gl (λj _ hj=>h4 j hj),gl (λj _ hj=>h5 j hj)]
structure dX(t:Types)(x:ax):Prop where
 host:o5 t x.host
 rP:x.nodes.length=x.host.graph.nodes.length
 ahd:x.ak.length=x.host.graph.ak.length
 next:0<=x.next/\x.next<=1000000
 nid:(∀n∈x.nodes,0<=n/\n<x.next)/\iA id x.nodes
 eid:(∀n∈x.ak,0<=n/\n<x.next)/\iA id x.ak
 apart:∀e∈x.ak,e ∉ x.nodes
theorem dm{t:Types}{x:ax} : lq t x=0↔dX t x:=by
 unfold lq;constructor
 ·intro h;split at h
  ·rename_i h1;exact absurd h h1
  ·rename_i h1;split at h
   ·cases h
   ·rename_i h2;split at h
    ·cases h
    ·rename_i h3;split at h
     ·rename_i h4;exact absurd h h4
     ·rename_i h4;split at h
      ·rename_i h5;exact absurd h h5
      ·rename_i h5;split at h
       ·cases h
       ·rename_i h6;refine⟨qd.1 (Decidable.of_not_not h1),by omega,by omega,by omega,vD.1 (Decidable.of_not_not h4),vD.1 (Decidable.of_not_not h5),λe he hn=>h6 ?_⟩;exact List.any_eq_true.2 ⟨e,he,dB hn⟩
 ·rintro⟨h1,h2,h3,h4,h5,h6,h7⟩;rw[if_neg (λh=>h (qd.2 h1)),if_neg (by omega),if_neg (by omega),if_neg (λh=>h (vD.2 h5)),if_neg (λh=>h (vD.2 h6)),if_neg];intro h;obtain⟨e,he,hn⟩:=List.any_eq_true.1 h;exact h7 e he (cm hn)
def cW(a:ax)(i:Nat):au:=⟨a.ak.getD i default,(a.host.graph.ak.getD i default).type,a.nodes.getD (a.host.graph.ak.getD i default).src.toNat default,a.nodes.getD (a.host.graph.ak.getD i default).dst.toNat default⟩
def ct(a:ax):List au:=(List.range a.ak.length).map (cW a)
theorem uR{α:Type} [Inhabited α](l:List α):(List.range l.length).map (λi=>l.getD i default)=l:=by
 refine List.ext_getElem (by simp) λi h1 h2=>?_
 simp[show i<l.length from h2]
theorem rQ(a:ax):(bC a).map ah.id=a.nodes:=by unfold bC;rw[List.map_map];exact uR a.nodes
theorem pY(a:ax):(ct a).map au.id=a.ak:=by unfold ct;rw[List.map_map];exact uR a.ak
theorem iC(a:ax):(bC a).length=a.nodes.length:=by simp[bC]
theorem gT(a:ax):(ct a).length=a.ak.length:=by simp[ct]
section
variable{t:Types}{a:ax}
theorem dX.abL(h:dX t a):iA ah.id (bC a):=iA.aqM (f:=id) (by rw[rQ];exact h.nid.2)
theorem dX.adG(h:dX t a):iA au.id (ct a):=iA.aqM (f:=id) (by rw[pY];exact h.eid.2)
theorem dX.n40(h:dX t a):a.nodes.length<=40:=by rw[h.rP];exact h.host.graph.nodes
theorem dX.e80(h:dX t a):a.ak.length<=80:=by rw[h.ahd];exact h.host.graph.ak
theorem uS{α:Type}(g:Nat->α){i n:Nat}(hi:i<n):((List.range n).map g).take (i+1)=((List.range n).map g).take i++[g i]:=by rw[List.take_add_one,List.getElem?_eq_getElem (by simpa using hi),Option.toList_some,List.getElem_map,List.getElem_range]
theorem tf(h:dX t a):jU a=some (ct a):=by
 have hn:=h.n40;have he:=h.e80;refine Ok.eq ?_;unfold jU;refine cA (bu (by omega)) ?_;refine tL (λi s=>i<=a.ak.length/\s=(ct a).take i) (Nat.zero_le _) ⟨Nat.zero_le _,rfl⟩ ?_ ?_
 ·rintro i s cz _ hi ⟨_,rfl⟩ hnx;have hi2:i<a.host.graph.ak.length:=by rw[<-h.ahd];exact hi
  have hg:a.host.graph.ak.getD i default=a.host.graph.ak[i]:=by simp[hi2]
  have hE:=h.host.graph.gR i hi2;rw[hg] at hE;rw[<-h.rP] at hE;refine sG hi (sG hi2 (lY hE.2.1.1 (by omega) (lY hE.2.2.1 (by omega) (cA (by rw[List.length_take];omega) (hnx _ ⟨hi,?_⟩)))));unfold ct;rw[uS _ hi];congr 2;unfold cW;rw[hg];simp only[au.mk.injEq];refine⟨by simp[hi],trivial,?_,?_⟩
  ·simp[show a.host.graph.ak[i].src.toNat<a.nodes.length by omega]
  ·simp[show a.host.graph.ak[i].dst.toNat<a.nodes.length by omega]
 ·rintro s ⟨_,rfl⟩;refine Ok.mk ?_;rw[List.take_of_length_le (by rw[gT];exact Nat.le_refl _)]
theorem ay2(h:dX t a){i:Nat}(hi:i<a.nodes.length)(hv:∀l∈a.host.values,l.length<=1000000):gH a (i:Int)=some (bn a i):=by
 have h1:i<a.host.graph.nodes.length:=by rw[<-h.rP];exact hi
 have h2:i<a.host.values.length:=by rw[h.host.adF];exact h1
 unfold gH;rw[fS (by omega) (by simpa using hi),fS (by omega) (by simpa using h1),fS (by omega) (by simpa using h2)];have:=hv _ (nR h2);simp only[Int.toNat_natCast];rw[bw (by omega)];unfold bn;simp[hi,h1,h2]
theorem ajQ(h:dX t a){i:Nat}(hi:i<a.ak.length):dA a (i:Int)=some (cW a i):=by
 have hi2:i<a.host.graph.ak.length:=by rw[<-h.ahd];exact hi
 have hg:a.host.graph.ak.getD i default=a.host.graph.ak[i]:=by simp[hi2]
 have hE:=h.host.graph.gR i hi2;rw[hg] at hE;rw[<-h.rP] at hE;unfold dA;rw[fS (by omega) (by simpa using hi2),fS (by omega) (by simpa using hi)];simp only[Int.toNat_natCast];rw[fS hE.2.1.1 (by omega),fS hE.2.2.1 (by omega)];unfold cW;rw[hg];simp only[cv,au.mk.injEq];refine⟨by simp[hi],trivial,?_,?_⟩
 ·simp[show a.host.graph.ak[i].src.toNat<a.nodes.length by omega]
 ·simp[show a.host.graph.ak[i].dst.toNat<a.nodes.length by omega]
theorem af4(h:dX t a)(hv:∀l∈a.host.values,l.length<=1000000):eP a=some ⟨bC a,ct a⟩:=by
 have hn:=h.n40;have he:=h.e80;refine Ok.eq ?_;unfold eP;refine cA (bu (by omega)) ?_;refine tL (λi s=>i<=a.nodes.length/\s=(bC a).take i) (Nat.zero_le _) ⟨Nat.zero_le _,rfl⟩ ?_ ?_
 ·rintro i s cz _ hi ⟨_,rfl⟩ hnx;refine ok_eq (ay2 h hi hv) (cA (by rw[List.length_take];omega) (hnx _ ⟨hi,?_⟩));unfold bC;rw[uS _ hi]
 ·rintro s ⟨_,rfl⟩;refine cA (bu (by omega)) ?_;refine tL (λi s=>i<=a.ak.length/\s=(ct a).take i) (Nat.zero_le _) ⟨Nat.zero_le _,rfl⟩ ?_ ?_
  ·rintro i s cz _ hi ⟨_,rfl⟩ hnx;refine ok_eq (ajQ h hi) (cA (by rw[List.length_take];omega) (hnx _ ⟨hi,?_⟩));unfold ct;rw[uS _ hi]
  ·rintro s ⟨_,rfl⟩;refine Ok.mk ?_;rw[List.take_of_length_le (by rw[iC];exact Nat.le_refl _),List.take_of_length_le (by rw[gT];exact Nat.le_refl _)]
end
theorem acM{α:Type} [Inhabited α](l:List α)(q:α->Bool):(List.range l.length).find? (λj=>q (l.getD j default))=l.findIdx? q:=by
 have hg:∀k,(hk:k<l.length)->l.getD k default=l[k]:=λk hk=>by simp[hk]
 cases h:l.findIdx? q with
 |none=>rw[List.find?_eq_none];intro j hj;have hj:=List.mem_range.1 hj;rw[hg j hj];have:=List.findIdx?_eq_none_iff.1 h _ (nR hj);rw[this];simp
 |some i=>obtain⟨hi,h1,h2⟩:=List.findIdx?_eq_some_iff_getElem.1 h;rw[List.find?_range_eq_some];refine⟨by rw[hg i hi];exact h1,List.mem_range.2 hi,λj hj=>?_⟩;rw[hg j (by omega)];have:=h2 j hj;simpa using this
theorem aid(s:aO)(e:au)(hl:s.ak.length<=1000000):cD s e=some (⟨s.nodes,(wS qU s.ak e).1⟩,(wS qU s.ak e).2):=by
 unfold cD;rw[bw (bu (by omega))];rw[uQ (λj=>!qU (s.ak.getD j default) e) (λj=>some (⟨s.nodes,s.ak.take j++s.ak.drop (j+1)⟩,true)) ?_]
 ·simp only[Bool.not_not];rw[acM s.ak (λm=>qU m e)];unfold wS;cases s.ak.findIdx? λm=>qU m e<;>rfl
 ·intro j hj cz;have hg:s.ak.getD j default=s.ak[j]:=by simp[hj]
  rw[bS hj,hg,iM];show cond (qU s.ak[j] e) _ _=_;cases qU s.ak[j] e with
  |false=>rfl
  |true=>rw[cond_true,cond_true,dJ (by omega),bw (by omega),bw (by rw[List.length_take];omega),bw (by omega),bw (by rw[List.length_take,List.length_drop];omega)];rfl
theorem xO{a b:List Int}(ha:a.length<=1000000):dD a b=some (decide (a=b)):=by
 unfold dD;rw[aX];by_cases hl:a.length=b.length
 ·rw[if_pos (by omega),bw (bu (by omega))];rw[uQ (λj=>decide (a.getD j 0=b.getD j 0)) (λ_=>some false) ?_]
  ·rw[pM];by_cases h:a=b
   ·subst h;rw[if_pos (by simp),dB rfl]
   ·rw[if_neg,eT h];intro h2;apply h;refine List.ext_getElem hl λi h3 h4=>?_
    have:=List.all_eq_true.1 h2 i (List.mem_range.2 h3);simpa[h3,h4] using this
  ·intro j hj cz;rw[bS hj,bS (show j<b.length by omega)];simp[hj,show j<b.length by omega]
 ·rw[if_neg (by omega),eT λh=>hl (by rw[h])]
theorem apQ(a b:ah)(ha:a.values.length<=1000000):gr a b=some (dV a b):=by
 unfold gr dV;rw[aX,aX,aT (xO ha)];by_cases h1:a.id=b.id
 ·rw[if_pos h1,dB h1,Bool.true_and];by_cases h2:a.type=b.type
  ·rw[if_pos h2,dB h2,Bool.true_and]
  ·rw[if_neg h2,eT h2,Bool.false_and]
 ·rw[if_neg h1,eT h1,Bool.false_and]
theorem aie(s:aO)(e:ah)(hl:s.nodes.length<=1000000)(hv:∀n∈s.nodes,n.values.length<=1000000):cc s e=some (⟨(wS dV s.nodes e).1,s.ak⟩,(wS dV s.nodes e).2):=by
 unfold cc;rw[bw (bu (by omega))];rw[uQ (λj=>!dV (s.nodes.getD j default) e) (λj=>some (⟨s.nodes.take j++s.nodes.drop (j+1),s.ak⟩,true)) ?_]
 ·simp only[Bool.not_not];rw[acM s.nodes (λm=>dV m e)];unfold wS;cases s.nodes.findIdx? λm=>dV m e<;>rfl
 ·intro j hj cz;have hg:s.nodes.getD j default=s.nodes[j]:=by simp[hj]
  rw[bS hj,aT (apQ _ e (hv _ (nR hj))),hg,iM];cases dV s.nodes[j] e with
  |false=>rfl
  |true=>rw[cond_true,cond_true,dJ (by omega),bw (by omega),bw (by omega),bw (by rw[List.length_take];omega),bw (by rw[List.length_take,List.length_drop];omega)];rfl
theorem aEH(s:aO)(v:aK)(hl:s.nodes.length<=1000000)(hv:∀n∈s.nodes,n.values.length<=1000000):cK s v=some (⟨s.nodes.map (ng v),s.ak⟩,s.nodes.any (j9 v)):=by
 unfold cK;rw[bw (bu (by omega))];rw[(rN s.nodes (λ(s:List ah×Bool) n=>(s.1++[ng v n],s.2||j9 v n)) (λi s=>s.1.length=i) rfl ?_).1]
 ·have key:∀ (l:List ah) (a:List ah×Bool),l.foldl (λ(s:List ah×Bool) n=>(s.1++[ng v n],s.2||j9 v n)) a=(a.1++l.map (ng v),a.2||l.any (j9 v)):=by
   intro l
   induction l with
   |nil=>intro a;simp
   |cons n l ih=>intro a;rw[List.foldl_cons,ih];simp[Bool.or_assoc]
  rw[key];rfl
 ·rintro i hi ⟨out,b⟩ hlen;simp only at hlen;have hn:=hv _ (nR hi);refine⟨λcz=>?_,by simp[hlen]⟩;rw[bS hi];generalize s.nodes[i]=n at hn ⊢;simp only;rw[bw (show out.length+1<=68719476736 by omega)];have hno:j9 v n=false->cz (out++[n],b)=cz (out++[ng v n],b||j9 v n):=λh=>by unfold ng;rw[h];simp
  rw[aX,aX,aX];by_cases h1:n.id=v.id;rotate_left
  ·rw[if_neg h1,hno];unfold j9;rw[eT h1];rfl
  rw[if_pos h1];by_cases h2:0<=v.attr;rotate_left
  ·rw[if_neg h2,hno];unfold j9 okV;rw[dB (show v.attr<0 by omega)];simp
  rw[if_pos h2];by_cases h3:v.attr<n.values.length;rotate_left
  ·rw[if_neg h3,hno];unfold j9 okV;rw[dB (show (n.values.length:Int)<=v.attr by omega)];simp
  have hk:v.attr.toNat<n.values.length:=by omega
  have hg:n.values.getD v.attr.toNat default=n.values[v.attr.toNat]:=by simp[hk]
  rw[if_pos h3,fS h2 hk,aX];by_cases h4:n.values[v.attr.toNat]=v.old;rotate_left
  ·rw[if_neg h4,hno];unfold j9 okV;rw[hg,eT h4];simp
  rw[if_pos h4,aX];by_cases h5:v.old=v.new
  ·rw[if_pos h5,hno];unfold j9 okV;rw[dB (show v.new=v.old from h5.symm)];simp
  rw[if_neg h5,bw (by omega),bw (show out.length+1<=68719476736 by omega)];have hy:j9 v n=true:=by unfold j9 okV;rw[hg,dB h1,eT (show ¬ v.attr<0 by omega),eT (show ¬ (n.values.length:Int)<=v.attr by omega),dB h4,eT (show ¬ v.new=v.old from λh=>h5 h.symm)];rfl
  unfold ng;rw[hy,if_pos rfl,Bool.or_true]
theorem wT{α O:Type}{l:List α}(R:α->α->Prop) [DecidableRel R](tr:∀a b c,R a b->R b c->R a c){f:Nat->Unit->(Unit->Option O)->(Unit->Option O)->Option O}{K:Unit->Option O}(y n:Option O)(hy:K ()=y)
  (h:∀i (hi:i<l.length) (_:1<=i) cz,f i () cz K=cond (decide (R (l[i-1]'(by omega)) l[i])) (cz ()) n):bZ f (l.length-1) 1 () K=if l.Pairwise R then y else n:=by
 rw[adE (λj=>decide (∀h:j<l.length,1<=j->R (l[j-1]'(by omega)) l[j])) (λ_=>n) (l.length-1) 1 λj h1 h2 cz=>?_]
 ·rw[pM,hy];congr 1;rw[eq_iff_iff,List.all_eq_true,List.pairwise_iff_getElem];constructor
  ·intro h;have step:∀k,(hk:k+1<l.length)->R (l[k]'(by omega)) l[k+1]:=λk hk=>cm (h (k+1) (List.mem_range'_1.2 ⟨by omega,by omega⟩)) hk (by omega)
   have key:∀k i,(hk:i+1+k<l.length)->R (l[i]'(by omega)) l[i+1+k]:=λk=>by
    induction k with
    |zero=>exact λi hi=>step i hi
    |succ k ih=>exact λi hi=>tr _ _ _ (ih i (by omega)) (step (i+1+k) hi)
   intro i j hi hj hij;obtain⟨k,rfl⟩:∃k,j=i+1+k:=⟨j-(i+1),by omega⟩;exact key k i hj
  ·intro h j hj;exact dB λh1 h2=>h _ _ _ _ (by omega)
 ·rw[h j (by omega) h1 cz];congr 1;rw[decide_eq_decide];exact⟨λh _ _=>h,λh=>h _ h1⟩
instance{α:Type}(f:α->Int)(l:List α):Decidable (iA f l):=inferInstanceAs (Decidable (l.Pairwise λa b=>f a<f b))
def ltV(a b:aK):Prop:=a.id<b.id\/a.id=b.id/\a.attr<b.attr
instance:DecidableRel ltV:=λa b=>inferInstanceAs (Decidable (a.id<b.id\/a.id=b.id/\a.attr<b.attr))
theorem ay3(a b c:aK)(h1:ltV a b)(h2:ltV b c):ltV a c:=by unfold ltV at *;omega
structure Ordered(p:aG):Prop where
 rn:iA ah.id p.az
 re:iA au.id p.aF
 an:iA ah.id p.aR
 ae:iA au.id p.aP
 va:p.values.Pairwise ltV
def sg(p:aG):Int :=
 if 500<p.az.length\/500<p.aF.length\/500<p.aR.length\/500<p.aP.length\/500<p.values.length then 3
 else if iA ah.id p.az/\iA au.id p.aF/\iA ah.id p.aR/\iA au.id p.aP/\p.values.Pairwise ltV then 0 else 12
structure jf(p:aG):Prop where
 rn:p.az.length<=1000000
 re:p.aF.length<=1000000
 an:p.aR.length<=1000000
 ae:p.aP.length<=1000000
 va:p.values.length<=1000000
 rv:∀n∈p.az,n.values.length<=1000
 av:∀n∈p.aR,n.values.length<=1000
structure Small(p:aG):Prop where
 rn:p.az.length<=500
 re:p.aF.length<=500
 an:p.aR.length<=500
 ae:p.aP.length<=500
 va:p.values.length<=500
theorem tR{p:aG} : sg p=0↔Small p/\Ordered p:=by
 unfold sg;constructor
 ·intro h;split at h
  ·cases h
  ·split at h
   ·rename_i h1 h2;exact⟨⟨by omega,by omega,by omega,by omega,by omega⟩,⟨h2.1,h2.2.1,h2.2.2.1,h2.2.2.2.1,h2.2.2.2.2⟩⟩
   ·cases h
 ·rintro⟨h1,h2⟩;have a1:=h1.rn;have a2:=h1.re;have a3:=h1.an;have a4:=h1.ae;have a5:=h1.va;rw[if_neg (by omega),if_pos ⟨h2.rn,h2.re,h2.an,h2.ae,h2.va⟩]
theorem mA{l:List ah}(hl:l.length<=1000000):dS l=some (decide (iA ah.id l)):=by
 unfold dS;rw[bw (bu (by omega))];rw[wT (λa b:ah=>a.id<b.id) (λa b c h1 h2=>by omega) (some true) (some false) rfl λi hi h1 cz=>?_]
 ·by_cases h:l.Pairwise λa b:ah=>a.id<b.id
  ·rw[if_pos h,dB (show iA ah.id l from h)]
  ·rw[if_neg h,eT (show ¬ iA ah.id l from h)]
 ·have e:l[(((i:Nat):Int)-1).toNat]'(by omega)=l[i-1]'(by omega):=by congr 1;omega
  rw[bS hi,dJ (by omega),fS (by omega) (by omega),e,aX,aX];by_cases h:l[i].id<=(l[i-1]'(by omega)).id
  ·rw[if_pos h,if_neg (by omega)]
  ·rw[if_neg h,if_pos (by omega)]
theorem mB{l:List au}(hl:l.length<=1000000):dU l=some (decide (iA au.id l)):=by
 unfold dU;rw[bw (bu (by omega))];rw[wT (λa b:au=>a.id<b.id) (λa b c h1 h2=>by omega) (some true) (some false) rfl λi hi h1 cz=>?_]
 ·by_cases h:l.Pairwise λa b:au=>a.id<b.id
  ·rw[if_pos h,dB (show iA au.id l from h)]
  ·rw[if_neg h,eT (show ¬ iA au.id l from h)]
 ·have e:l[(((i:Nat):Int)-1).toNat]'(by omega)=l[i-1]'(by omega):=by congr 1;omega
  rw[bS hi,dJ (by omega),fS (by omega) (by omega),e,aX,aX];by_cases h:l[i].id<=(l[i-1]'(by omega)).id
  ·rw[if_pos h,if_neg (by omega)]
  ·rw[if_neg h,if_pos (by omega)]
theorem aeB{l:List aK}(hl:l.length<=1000000):eV l=some (decide (l.Pairwise ltV)):=by
 unfold eV;rw[bw (bu (by omega))];rw[wT ltV ay3 (some true) (some false) rfl λi hi h1 cz=>?_]
 ·by_cases h:l.Pairwise ltV
  ·rw[if_pos h,dB h]
  ·rw[if_neg h,eT h]
 ·have e:l[(((i:Nat):Int)-1).toNat]'(by omega)=l[i-1]'(by omega):=by congr 1;omega
  rw[bS hi,dJ (by omega),fS (by omega) (by omega),e,aX,aX,aX,aX];generalize l[i]=x;generalize l[i-1]'(by omega)=y;have hv:ltV y x↔(y.id<x.id\/y.id=x.id/\y.attr<x.attr):=Iff.rfl;by_cases h1:x.id<y.id
  ·rw[if_pos h1,if_neg λh=>by have:=hv.1 h;omega]
  rw[if_neg h1];by_cases h2:x.id=y.id
  ·rw[if_pos h2];by_cases h3:x.attr<=y.attr
   ·rw[if_pos h3,if_neg λh=>by have:=hv.1 h;omega]
   ·rw[if_neg h3,if_pos (hv.2 (by omega))]
  ·rw[if_neg h2,if_pos (hv.2 (by omega))]
theorem l_ordered{p:aG}(hp:jf p):gN p=some (sg p):=by
 unfold gN sg;rw[aX,aX,aX,aX,aX];by_cases h1:500<p.az.length
 ·rw[if_pos (by omega),if_pos (.inl h1)]
 rw[if_neg (by omega)];by_cases h2:500<p.aF.length
 ·rw[if_pos (by omega),if_pos (.inr (.inl h2))]
 rw[if_neg (by omega)];by_cases h3:500<p.aR.length
 ·rw[if_pos (by omega),if_pos (.inr (.inr (.inl h3)))]
 rw[if_neg (by omega)];by_cases h4:500<p.aP.length
 ·rw[if_pos (by omega),if_pos (.inr (.inr (.inr (.inl h4))))]
 rw[if_neg (by omega)];by_cases h5:500<p.values.length
 ·rw[if_pos (by omega),if_pos (.inr (.inr (.inr (.inr h5))))]
 rw[if_neg (by omega),if_neg (show ¬ (_\/_) by omega)];rw[aT (mA hp.rn),aX];by_cases g1:iA ah.id p.az;rotate_left
 ·rw[if_neg g1,if_neg λh=>g1 h.1]
 rw[if_pos g1,aT (mB hp.re),aX];by_cases g2:iA au.id p.aF;rotate_left
 ·rw[if_neg g2,if_neg λh=>g2 h.2.1]
 rw[if_pos g2,aT (mA hp.an),aX];by_cases g3:iA ah.id p.aR;rotate_left
 ·rw[if_neg g3,if_neg λh=>g3 h.2.2.1]
 rw[if_pos g3,aT (mB hp.ae),aX];by_cases g4:iA au.id p.aP;rotate_left
 ·rw[if_neg g4,if_neg λh=>g4 h.2.2.2.1]
 rw[if_pos g4,aT (aeB hp.va),aX];by_cases g5:p.values.Pairwise ltV
 ·rw[if_pos g5,if_pos ⟨g1,g2,g3,g4,g5⟩]
 ·rw[if_neg g5,if_neg λh=>g5 h.2.2.2.2]
theorem aqP(a b:Int):gW a b=some (qx a b):=by
 unfold gW;rw[aT (show jg a=some false by unfold jg;simp),aT (show jg b=some false by unfold jg;simp),cond_false,cond_false,aX,aX];unfold qx;split
 ·rfl
 ·split<;>rfl
theorem aIs(a b:Int):qy [a,b]=some (if a=0 then b else a):=by
 unfold qy;rw[bw (bu (by simp))];show bZ _ 2 0 () _=_;simp only[bZ,List.getElem?_cons_zero,List.getElem?_cons_succ,mu,aX];by_cases h:a=0
 ·rw[if_pos h,if_pos h];by_cases h2:b=0
  ·rw[if_pos h2,h2]
  ·rw[if_neg h2]
 ·rw[if_neg h,if_neg h]
theorem acN{a b:Int} : ¬ (0<=qx a b)↔a<b:=by
 unfold qx;split
 ·omega
 ·split<;>omega
theorem ay4(a b:ah):gE a b=some (qx a.id b.id):=by unfold gE;rw[aT (aqP _ _)]
theorem ay5(a b:au):gF a b=some (qx a.id b.id):=by unfold gF;rw[aT (aqP _ _)]
theorem auB(a b:aK):iU a b=some (if qx a.id b.id=0 then qx a.attr b.attr else qx a.id b.id):=by unfold iU;rw[aT (aqP _ _),aT (aqP _ _),aT (aIs _ _)]
theorem ym{l:List ah}(hl:l.length<=1000000):ee l (λa b=>gE a b)=some (decide (iA ah.id l)):=by
 unfold ee;rw[bw (bu (by omega))];rw[wT (λa b:ah=>a.id<b.id) (λa b c h1 h2=>by omega) (some true) (some false) rfl λi hi h1 cz=>?_]
 ·by_cases h:l.Pairwise λa b:ah=>a.id<b.id
  ·rw[if_pos h,dB (show iA ah.id l from h)]
  ·rw[if_neg h,eT (show ¬ iA ah.id l from h)]
 ·have e:l[(((i:Nat):Int)-1).toNat]'(by omega)=l[i-1]'(by omega):=by congr 1;omega
  rw[dJ (by omega),fS (by omega) (by omega),bS hi,e];rw[aT (ay4 _ _),aX,aX];by_cases h:(l[i-1]'(by omega)).id<l[i].id
  ·rw[if_pos h,if_neg (acN.2 h)]
  ·rw[if_neg h,if_pos (Decidable.of_not_not λh2=>h (acN.1 h2))]
theorem yo{l:List au}(hl:l.length<=1000000):ef l (λa b=>gF a b)=some (decide (iA au.id l)):=by
 unfold ef;rw[bw (bu (by omega))];rw[wT (λa b:au=>a.id<b.id) (λa b c h1 h2=>by omega) (some true) (some false) rfl λi hi h1 cz=>?_]
 ·by_cases h:l.Pairwise λa b:au=>a.id<b.id
  ·rw[if_pos h,dB (show iA au.id l from h)]
  ·rw[if_neg h,eT (show ¬ iA au.id l from h)]
 ·have e:l[(((i:Nat):Int)-1).toNat]'(by omega)=l[i-1]'(by omega):=by congr 1;omega
  rw[dJ (by omega),fS (by omega) (by omega),bS hi,e];rw[aT (ay5 _ _),aX,aX];by_cases h:(l[i-1]'(by omega)).id<l[i].id
  ·rw[if_pos h,if_neg (acN.2 h)]
  ·rw[if_neg h,if_pos (Decidable.of_not_not λh2=>h (acN.1 h2))]
theorem adH{l:List aK}(hl:l.length<=1000000):fh l (λa b=>iU a b)=some (decide (l.Pairwise ltV)):=by
 unfold fh;rw[bw (bu (by omega))];rw[wT ltV ay3 (some true) (some false) rfl λi hi h1 cz=>?_]
 ·by_cases h:l.Pairwise ltV
  ·rw[if_pos h,dB h]
  ·rw[if_neg h,eT h]
 ·have e:l[(((i:Nat):Int)-1).toNat]'(by omega)=l[i-1]'(by omega):=by congr 1;omega
  rw[dJ (by omega),fS (by omega) (by omega),bS hi,e];rw[aT (auB _ _),aX,aX];generalize l[i]=x;generalize l[i-1]'(by omega)=y;have hv:ltV y x↔(y.id<x.id\/y.id=x.id/\y.attr<x.attr):=Iff.rfl;have hc:(0<=if qx y.id x.id=0 then qx y.attr x.attr else qx y.id x.id)↔¬ ltV y x:=by
   rw[hv];unfold qx;by_cases h1:y.id<x.id
   ·rw[if_pos h1,if_neg (by omega)];omega
   ·rw[if_neg h1];by_cases h2:y.id > x.id
    ·rw[if_pos h2,if_neg (by omega)];omega
    ·rw[if_neg h2,if_pos rfl];split
     ·omega
     ·split<;>omega
  by_cases h:ltV y x
  ·rw[if_pos h,if_neg λh2=>hc.1 h2 h]
  ·rw[if_neg h,if_pos (hc.2 h)]
theorem ay6{p:aG}(hp:jf p):me p=some (sg p):=by
 unfold me sg;rw[aX];by_cases h0:500<p.az.length\/500<p.aF.length\/500<p.aR.length\/500<p.aP.length\/500<p.values.length
 ·rw[if_pos (by omega),if_pos h0]
 rw[if_neg (by omega),if_neg h0];rw[aT (ym hp.rn),aX];by_cases g1:iA ah.id p.az;rotate_left
 ·rw[if_neg g1,if_neg λh=>g1 h.1]
 rw[if_pos g1,aT (ym hp.an),aX];by_cases g3:iA ah.id p.aR;rotate_left
 ·rw[if_neg g3,if_neg λh=>g3 h.2.2.1]
 rw[if_pos g3,aT (yo hp.re),aX];by_cases g2:iA au.id p.aF;rotate_left
 ·rw[if_neg g2,if_neg λh=>g2 h.2.1]
 rw[if_pos g2,aT (yo hp.ae),aX];by_cases g4:iA au.id p.aP;rotate_left
 ·rw[if_neg g4,if_neg λh=>g4 h.2.2.2.1]
 rw[if_pos g4,aT (adH hp.va),aX];by_cases g5:p.values.Pairwise ltV
 ·rw[if_pos g5,if_pos ⟨g1,g2,g3,g4,g5⟩]
 ·rw[if_neg g5,if_neg λh=>g5 h.2.2.2.2]
theorem zx{α:Type}{q:α->α->Bool}{l:List α}{n:α} : ((wS q l n).1).Sublist l:=by
 unfold wS;split
 ·exact List.Sublist.refl _
 ·rw[<-List.eraseIdx_eq_take_drop_succ];exact List.eraseIdx_sublist ..
theorem af5(x:List ah):∀ (r y:List au),ov (λ(x:List ah) y e=>((x,(wS qU y e).1),(wS qU y e).2)) x y r=((x,(iB qU y r).1),(iB qU y r).2)
 | [],y=>rfl
 |e :: r,y=>by
  rw[ov,iB];simp only;split
  ·exact af5 x r _
  ·rename_i h;simp only[Bool.not_eq_true] at h;rw[h]
theorem af6(y:List au):∀ (r x:List ah),ov (λx (y:List au) e=>(((wS dV x e).1,y),(wS dV x e).2)) x y r=(((iB dV x r).1,y),(iB dV x r).2)
 | [],x=>rfl
 |e :: r,x=>by
  rw[ov,iB];simp only;split
  ·exact af6 y r _
  ·rename_i h;simp only[Bool.not_eq_true] at h;rw[h]
theorem aif(y:List au):∀ (r:List aK) (x:List ah),ov (λx (y:List au) v=>((x.map (ng v),y),x.any (j9 v))) x y r=(((dH x r).1,y),(dH x r).2)
 | [],x=>rfl
 |e :: r,x=>by
  rw[ov,dH];simp only;split
  ·exact aif y r _
  ·rename_i h;simp only[Bool.not_eq_true] at h;rw[h]
def ay7(s:aO)(p:aG):aO×Bool :=
 if (iB qU s.ak p.aF).2=true then
  if (iB dV s.nodes p.az).2=true then (⟨(dH (iB dV s.nodes p.az).1 p.values).1,(iB qU s.ak p.aF).1⟩,(dH (iB dV s.nodes p.az).1 p.values).2)
  else (⟨(iB dV s.nodes p.az).1,(iB qU s.ak p.aF).1⟩,false)
 else (⟨s.nodes,(iB qU s.ak p.aF).1⟩,false)
def Rows(l:List ah):Prop:=∀n∈l,n.values.length<=1000
theorem adI{l:List ah}(h:Rows l)(v:aK):Rows (l.map (ng v)):=λn hn=>by obtain⟨m,hm,rfl⟩:=List.mem_map.1 hn;rw[af1];exact h m hm
def we{α O:Type}(l:List α)(f:aO->α->Option (aO×Bool))(s:Bool×Int×List ah×List au)(cz brk:Bool×Int×List ah×List au->Option O):Option O :=
  cond (decide (s.2.1<((l.length:Nat):Int))) (
   cond s.1 (
    thn (mJ l s.2.1) λe =>
    thn (f (⟨s.2.2.1,s.2.2.2⟩:aO) e) λr =>
    cz (r.2,(i64.wrap (s.2.1+1)),r.1.nodes,r.1.ak)) <|
   brk (s.1,s.2.1,s.2.2.1,s.2.2.2)) <|
  brk (s.1,s.2.1,s.2.2.1,s.2.2.2)
theorem zy{α O:Type}{K:Bool×Int×List ah×List au->Option O}(l:List α)(f:aO->α->Option (aO×Bool))(step:List ah->List au->α->(List ah×List au)×Bool)(inv:List ah->List au->Prop)(hl:l.length<=1000000)
  (h:∀x y e,inv x y->f ⟨x,y⟩ e=some (⟨(step x y e).1.1,(step x y e).1.2⟩,(step x y e).2)/\inv (step x y e).1.1 (step x y e).1.2) (b:Bool) (x:List ah) (y:List au) (hv:inv x y) :
  ∃j,iter (we l f) fuel (b,0,x,y) K=K (if b=true then (ov step x y l).2 else false,j,if b=true then (ov step x y l).1.1 else x,if b=true then (ov step x y l).1.2 else y)/\(b=true->inv (ov step x y l).1.1 (ov step x y l).1.2):=by
 refine ay0 l step inv hl (λi x y cz=>?_) (λx y cz=>?_) (λi hi x y cz hxy=>?_) b x y hv
 ·unfold we;simp only;cases decide (i<((l.length:Nat):Int))<;>rfl
 ·unfold we;simp
 ·obtain⟨h1,h2⟩:=h x y l[i] hxy;unfold we;simp only;rw[dB (by omega),cond_true,cond_true,fS (by omega) (by simpa using hi),dJ (by omega)];exact⟨by rw[show l[((i:Nat):Int).toNat]'(by simpa using hi)=l[i] from rfl,aT h1];rfl,h2⟩
theorem aCY(s:aO)(p:aG)(hn:s.nodes.length<=1000000)(he:s.ak.length<=1000000)(hv:Rows s.nodes)(hp:jf p):fP s p=some (ay7 s p):=by
 unfold fP;show iter (we p.aF cD) fuel (true,0,s.nodes,s.ak) (λs1=>iter (we p.az cc) fuel (s1.1,0,s1.2.2.1,s1.2.2.2) λs2=>iter (we p.values cK) fuel (s2.1,0,s2.2.2.1,s2.2.2.2) λs3=>some ((⟨s3.2.2.1,s3.2.2.2⟩:aO),s3.1))=_;obtain⟨j1,e1,_⟩:=zy (K:=λs1=>iter (we p.az cc) fuel (s1.1,0,s1.2.2.1,s1.2.2.2) λs2=>iter (we p.values cK) fuel (s2.1,0,s2.2.2.1,s2.2.2.2) λs3=>some ((⟨s3.2.2.1,s3.2.2.2⟩:aO),s3.1)) p.aF cD (λ(x:List ah) y e=>((x,(wS qU y e).1),(wS qU y e).2)) (λx y=>y.length<=1000000) hp.re
  (λx y e hy=>⟨aid ⟨x,y⟩ e hy,Nat.le_trans (zx (q:=qU)).length_le hy⟩) true s.nodes s.ak he
 rw[e1];simp only[if_true,af5];obtain⟨j2,e2,i2⟩:=zy (K:=λs2=>iter (we p.values cK) fuel (s2.1,0,s2.2.2.1,s2.2.2.2) λs3=>some ((⟨s3.2.2.1,s3.2.2.2⟩:aO),s3.1)) p.az cc (λx (y:List au) e=>(((wS dV x e).1,y),(wS dV x e).2)) (λx y=>x.length<=1000000/\Rows x) hp.rn
  (λx y e hy=>⟨aie ⟨x,y⟩ e hy.1 λn hn=>by have:=hy.2 n hn;omega,Nat.le_trans (zx (q:=dV)).length_le hy.1,λn hn=>hy.2 n (zx.mem hn)⟩) (iB qU s.ak p.aF).2 s.nodes (iB qU s.ak p.aF).1 ⟨hn,hv⟩
 rw[e2];simp only[af6] at i2 ⊢;obtain⟨j3,e3,_⟩:=zy (K:=λs3=>some ((⟨s3.2.2.1,s3.2.2.2⟩:aO),s3.1)) p.values cK (λx (y:List au) v=>((x.map (ng v),y),x.any (j9 v))) (λx y=>x.length<=1000000/\Rows x) hp.va
  (λx y v hy=>⟨aEH ⟨x,y⟩ v hy.1 λn hn=>by have:=hy.2 n hn;omega,by simpa using hy.1,adI hy.2 _⟩) (if (iB qU s.ak p.aF).2=true then (iB dV s.nodes p.az).2 else false) (if (iB qU s.ak p.aF).2=true then (iB dV s.nodes p.az).1 else s.nodes) (if (iB qU s.ak p.aF).2=true then (iB qU s.ak p.aF).1 else (iB qU s.ak p.aF).1) (by
  split
  ·rename_i h;exact i2 h
  ·exact⟨hn,hv⟩)
 rw[e3];simp only[aif];unfold ay7;cases h1:(iB qU s.ak p.aF).2 with
 |false=>simp
 |true =>
  simp only[if_true];cases h2:(iB dV s.nodes p.az).2 with
  |false=>simp
  |true=>simp
theorem aBW(s:aO)(id:Int)(hn:s.nodes.length<=1000000)(he:s.ak.length<=1000000):eS s id=some (kC s.nodes s.ak id):=by
 unfold eS kC;rw[bw (bu (by omega))];rw[oJ s.nodes (λn=>!decide (n.id=id)) (λ_=>some true) (λi hi cz=>by rw[bS hi,iM]),pM];by_cases h1:(s.nodes.all λn=>!decide (n.id=id))=true
 ·rw[if_pos h1,bw (bu (by omega))];rw[oJ s.ak (λn=>!decide (n.id=id)) (λ_=>some true) (λi hi cz=>by rw[bS hi,iM]),pM];rw[List.all_eq_not_any_not] at h1 ⊢;simp only[Bool.not_not] at h1 ⊢;rw[show (s.nodes.any λn=>decide (n.id=id))=false by simpa using h1,Bool.false_or];cases s.ak.any λn=>decide (n.id=id)<;>rfl
 ·rw[if_neg h1];rw[List.all_eq_not_any_not] at h1;simp only[Bool.not_not] at h1;rw[show (s.nodes.any λn=>decide (n.id=id))=true by simpa using h1];rfl
def ay8(s:aO)(p:aG):aO×Bool:=if gm s.nodes s.ak p=true then (s,false) else (⟨j7 (s.nodes++p.aR),mc (s.ak++p.aP)⟩,true)
theorem aCZ(s:aO)(p:aG)(hn:s.nodes.length<=1000000)(he:s.ak.length<=1000000)(aN:iA ah.id s.nodes)(aE:iA au.id s.ak)(hp:jf p)(ho:Ordered p):fQ s p=some (ay8 s p):=by
 have hpn:=hp.an;have hpe:=hp.ae;unfold fQ ay8;rw[bw (bu (by omega))];rw[oJ p.aR (λn=>!kC s.nodes s.ak n.id) (λ_=>some (s,false)) (λi hi cz=>by rw[bS hi,aT (aBW s _ hn he),iM]),pM];by_cases h1:(p.aR.all λn=>!kC s.nodes s.ak n.id)=true;rotate_left
 ·rw[if_neg h1];rw[List.all_eq_not_any_not] at h1;simp only[Bool.not_not] at h1;have e:gm s.nodes s.ak p=true:=by unfold gm;rw[show (p.aR.any λn=>kC s.nodes s.ak n.id)=true by simpa using h1];rfl
  rw[if_pos e]
 rw[if_pos h1,bw (bu (by omega))];rw[List.all_eq_not_any_not] at h1;simp only[Bool.not_not] at h1;have tG:(p.aR.any λn=>kC s.nodes s.ak n.id)=false:=by simpa using h1
 rw[oJ p.aP (λn=>!kC s.nodes s.ak n.id) (λ_=>some (s,false)) (λi hi cz=>by rw[bS hi,aT (aBW s _ hn he),iM]),pM];by_cases h2:(p.aP.all λn=>!kC s.nodes s.ak n.id)=true;rotate_left
 ·rw[if_neg h2];rw[List.all_eq_not_any_not] at h2;simp only[Bool.not_not] at h2;have e:gm s.nodes s.ak p=true:=by unfold gm;rw[show (p.aP.any λn=>kC s.nodes s.ak n.id)=true by simpa using h2,Bool.or_true]
  rw[if_pos e]
 rw[if_pos h2];rw[List.all_eq_not_any_not] at h2;simp only[Bool.not_not] at h2;have h2':(p.aP.any λn=>kC s.nodes s.ak n.id)=false:=by simpa using h2
 have ht:gm s.nodes s.ak p=false:=by unfold gm;rw[tG,h2'];rfl
 rw[if_neg (by rw[ht];simp)];obtain⟨f1,f2⟩:=abK ht;have dN:∀a∈s.nodes,∀b∈p.aR,a.id≠b.id:=λa ha b hb=>(f1 b hb).1 a ha
 have dE:∀a∈s.ak,∀b∈p.aP,a.id≠b.id:=λa ha b hb=>(f2 b hb).2 a ha
 refine Ok.eq ?_;refine aed ah.id s.nodes p.aR aN ho.an dN hn hp.an λout ay1 hmem _ _=>?_
 have e1:out=j7 (s.nodes++p.aR):=ay1.ext (aay (mw aN ho.an dN)) λx=>by rw[hmem,nJ,List.mem_append]
 refine aed au.id s.ak p.aP aE ho.ae dE he hp.ae λaIt aEI aEJ _ _=>?_
 have e2:aIt=mc (s.ak++p.aP):=aEI.ext (aaz (mw aE ho.ae dE)) λx=>by rw[aEJ,rO,List.mem_append]
 subst e1 e2;exact Ok.mk rfl
def bF(ids:List Int)(n:Int):Int:=wQ (λy=>decide (y=n)) ids
def lu(ids:List Int)(e:au):Edge:=⟨e.type,bF ids e.src,bF ids e.dst⟩
def dr(N:List ah)(E:List au)(next:Int):ax:=⟨⟨⟨N.map ah.type,E.map (lu (N.map ah.id))⟩,N.map ah.values⟩,N.map ah.id,E.map au.id,next⟩
theorem abM:∀ (l:List ah) (a:List Int×List (List Int)×List Int),l.foldl (λ(s:List Int×List (List Int)×List Int) n=>(s.1++[n.type],s.2.1++[n.values],s.2.2++[n.id])) a=(a.1++l.map ah.type,a.2.1++l.map ah.values,a.2.2++l.map ah.id)
 | [],a=>by simp
 |n :: l,a=>by rw[List.foldl_cons,abM l];simp
theorem af7(ids:List Int):∀ (l:List au) (a:List Edge×List Int),l.foldl (λ(s:List Edge×List Int) e=>(s.1++[lu ids e],s.2++[e.id])) a=(a.1++l.map (lu ids),a.2++l.map au.id)
 | [],a=>by simp
 |n :: l,a=>by rw[List.foldl_cons,af7 ids l];simp
theorem tg(s:aO)(next:Int)(hn:s.nodes.length<=1000000)(he:s.ak.length<=1000000)(hv:Rows s.nodes):cZ s next=some (dr s.nodes s.ak next):=by
 unfold cZ;rw[bw (bu (by omega))];rw[(rN s.nodes (λ(s:List Int×List (List Int)×List Int) n=>(s.1++[n.type],s.2.1++[n.values],s.2.2++[n.id])) (λi s=>s.1.length=i/\s.2.1.length=i/\s.2.2.length=i) ⟨rfl,rfl,rfl⟩ ?_).1]
 ·rw[abM];simp only[List.nil_append];rw[bw (bu (by omega))];rw[(rN s.ak (λ(s1:List Edge×List Int) e=>(s1.1++[lu (s.nodes.map ah.id) e],s1.2++[e.id])) (λi s=>s.1.length=i/\s.2.length=i) ⟨rfl,rfl⟩ ?_).1]
  ·rw[af7];rfl
  ·rintro i hi ⟨a,b⟩ ⟨h1,h2⟩;simp only at h1 h2;refine⟨λcz=>?_,by simp[h1],by simp[h2]⟩;rw[bS hi,bw (by simp only;omega),aT (dc (by simpa using hn) _),aT (dc (by simpa using hn) _),bw (by simp only;omega)];rfl
 ·rintro i hi ⟨a,b,c⟩ ⟨h1,h2,h3⟩;simp only at h1 h2 h3;refine⟨λcz=>?_,by simp[h1],by simp[h2],by simp[h3]⟩;have:=hv _ (nR hi);rw[bS hi,bw (by simp only;omega),bw (by simp only;omega),bw (by omega),bw (by simp only;omega)]
def zz(ids:List Int)(e:au):Bool:=decide (0<=bF ids e.src)&&decide (0<=bF ids e.dst)
theorem aee{l:List Int}(h:l.length<=1000000):mX l=some l:=tw h
theorem acO(N:List ah)(E:List au)(next:Int)(hn:N.length<=1000000)(he:E.length<=1000000)(hv:Rows N):kX N E next=some (if E.all (zz (N.map ah.id))=true then (dr N E next,true) else (kD,false)):=by
 unfold kX;rw[bw (bu (by omega))];rw[(rN N (λ(s:List Int×List (List Int)×List Int) n=>(s.1++[n.type],s.2.1++[n.values],s.2.2++[n.id])) (λi s=>s.1.length=i/\s.2.1.length=i/\s.2.2.length=i) ⟨rfl,rfl,rfl⟩ ?_).1]
 ·rw[abM];simp only[List.nil_append];rw[bw (bu (by omega))];refine Ok.eq ?_;refine tL (λj s=>j<=E.length/\s=((E.take j).map (lu (N.map ah.id)),(E.take j).map au.id)/\(E.take j).all (zz (N.map ah.id))=true) (Nat.zero_le _) ⟨Nat.zero_le _,by simp,by simp⟩ ?_ ?_
  ·rintro j s cz _ hj ⟨_,rfl,ha⟩ hnx;refine sG hj (ok_eq (nh (by simpa using hn) _) (ok_eq (nh (by simpa using hn) _) ?_));have hno:zz (N.map ah.id) E[j]=false->(if E.all (zz (N.map ah.id))=true then (dr N E next,true) else (kD,false))=(kD,false):=λh=>by rw[if_neg];intro h2;rw[List.all_eq_true.1 h2 _ (nR hj)] at h;cases h
   refine cV (λhc=>?_) λhc=>?_
   ·refine Ok.mk ?_;rw[hno]
    ·rfl
    ·unfold zz bF;have:=cm hc;rw[eT (by omega),Bool.false_and]
   refine cV (λzc=>?_) λzc=>?_
   ·refine Ok.mk ?_;rw[hno]
    ·rfl
    ·unfold zz bF;have:=cm zc;rw[eT (p:=0<=wQ (λy=>decide (y=E[j].dst)) (N.map ah.id)) (by omega),Bool.and_false]
   have c1:=ew hc;have c2:=ew zc;have he2:zz (N.map ah.id) E[j]=true:=by unfold zz;rw[Bool.and_eq_true];exact⟨dB (Int.not_lt.1 c1),dB (Int.not_lt.1 c2)⟩
   refine cA (by simp;omega) (cA (by simp;omega) (hnx _ ⟨hj,?_,?_⟩))
   ·rw[List.take_add_one,List.getElem?_eq_getElem hj,Option.toList_some,List.map_append,List.map_append];rfl
   ·rw[List.take_add_one,List.getElem?_eq_getElem hj,Option.toList_some,List.all_append,ha];simpa using he2
  ·rintro s ⟨_,rfl,ha⟩;rw[List.take_length] at ha ⊢;rw[if_pos ha];exact Ok.mk rfl
 ·rintro i hi ⟨a,b,c⟩ ⟨h1,h2,h3⟩;simp only at h1 h2 h3;refine⟨λcz=>?_,by simp[h1],by simp[h2],by simp[h3]⟩;have:=hv _ (nR hi);rw[bS hi,bw (by simp only;omega),bw (by simp only;omega),aT (aee (by omega)),bw (by simp only;omega)]
theorem af8{t:Types}{N:List ah}{E:List au}{next:Int}(h:dX t (dr N E next)):E.all (zz (N.map ah.id))=true:=by
 rw[List.all_eq_true];intro e he;obtain⟨j,hj,rfl⟩:=List.getElem_of_mem he;have:=h.host.graph.gR j (by simpa[dr] using hj);simp only[dr] at this;have hg:(E.map (lu (N.map ah.id))).getD j default=lu (N.map ah.id) E[j]:=by simp[hj]
 rw[hg] at this;unfold zz;rw[Bool.and_eq_true];exact⟨dB this.2.1.1,dB this.2.2.1⟩
def af9(a:ax)(p:aG):Option (List ah×List au) :=
 if nY dV (bC a) p.az=true/\nY qU (ct a) p.aF=true then
  if (dH (less dV (bC a) p.az) p.values).2=true then
   if gm (dH (less dV (bC a) p.az) p.values).1 (less qU (ct a) p.aF) p=true then none
   else some (j7 ((dH (less dV (bC a) p.az) p.values).1++p.aR),mc (less qU (ct a) p.aF++p.aP))
  else none
 else none
def xP(t:Types)(a:ax)(p:aG):ax×Int :=
 if sg p≠0 then (kD,sg p) else if p.next.x0≠a.next then (kD,11) else match af9 a p with
 |none=>(kD,11)
 |some s=>if lq t (dr s.1 s.2 p.next.x1)≠0 then (kD,1) else (dr s.1 s.2 p.next.x1,0)
def nQ(t:Types)(a:ax)(p:aG):ax×Int:=if lq t a≠0 then (kD,lq t a) else xP t a p
section
variable{t:Types}{a:ax}{p:aG}
theorem ji(ha:dX t a)(hb:sV a.host):Rows (bC a):=λn hn=>by
 obtain⟨i,hi,rfl⟩:=List.mem_map.1 hn;have hi:i<a.nodes.length:=by simpa using hi
 refine hb.row _ ?_;have:i<a.host.values.length:=by rw[ha.host.adF,<-ha.rP];exact hi
 simp[bn,this]
theorem aga{α:Type}{q:α->α->Bool}{l r:List α} : (less q l r).length<=l.length:=List.length_filter_le _ _
theorem aef:∀ (r:List aK) (l:List ah),Rows l->Rows (dH l r).1
 | [],l,h=>h
 |v :: r,l,h=>by
  rw[dH];split
  ·exact aef r _ (adI h v)
  ·exact adI h v
theorem auC{N:List ah}{E:List au}{next:Int}(h1:N.length<=1000)(h2:E.length<=1000)(h3:Rows N):j4 (dr N E next) :=
 ⟨⟨⟨by simpa[dr] using h1,by simpa[dr] using h2⟩,by simpa[dr] using h1,λl hl=>by
  obtain⟨n,hn,rfl⟩:=List.mem_map.1 hl;exact h3 n hn⟩,by simp[dr];omega,by simp[dr];omega⟩
structure Mid(a:ax)(p:aG):Prop where
 n:(dH (less dV (bC a) p.az) p.values).1.length<=40
 e:(less qU (ct a) p.aF).length<=80
 rows:Rows (dH (less dV (bC a) p.az) p.values).1
 abL:iA ah.id (dH (less dV (bC a) p.az) p.values).1
 adG:iA au.id (less qU (ct a) p.aF)
theorem apR(ha:dX t a)(hb:sV a.host):Mid a p:=by have h1:=ha.n40;have h2:=ha.e80;have l1:=aga (q:=dV) (l:=bC a) (r:=p.az);have l2:=aga (q:=qU) (l:=ct a) (r:=p.aF);rw[iC] at l1;rw[gT] at l2;exact⟨by rw[(vC _ _).len];omega,by omega,aef _ _ λn hn=>ji ha hb n (List.mem_filter.1 hn).1,abJ _ _ (zv ha.abL),zv ha.adG⟩
theorem Small.add(hs:Small p)(hm:Mid a p)(hp:jf p)(next:Int):j4 (dr (j7 ((dH (less dV (bC a) p.az) p.values).1++p.aR)) (mc (less qU (ct a) p.aF++p.aP)) next):=by
 have h1:=hm.n;have h2:=hm.e;have h3:=hs.an;have h4:=hs.ae;refine auC (by rw[auz,List.length_append];omega) (by rw[auA,List.length_append];omega) λn hn=>?_
 rcases List.mem_append.1 (nJ.1 hn) with h|h
 ·exact hm.rows n h
 ·exact hp.av n h
theorem amz(ho:Ordered p):p.az.Pairwise λa b=>a.id≠b.id:=List.Pairwise.imp (λh=>by omega) ho.rn
theorem amA(ho:Ordered p):p.aF.Pairwise λa b=>a.id≠b.id:=List.Pairwise.imp (λh=>by omega) ho.re
theorem auD(ht:fC t)(ha:dX t a)(hb:sV a.host)(hp:jf p):fH t a p=some (xP t a p):=by
 have h1:=ha.n40;have h2:=ha.e80;unfold fH xP;rw[aT (l_ordered hp),aX];by_cases hsh:sg p=0;rotate_left
 ·rw[if_neg hsh,if_pos hsh];rfl
 obtain⟨hs,ho⟩:=tR.1 hsh;rw[if_pos hsh,if_neg (λh=>h hsh),aX];by_cases hx:p.next.x0=a.next
 rotate_left
 ·rw[if_neg hx,if_pos hx];rfl
 rw[if_pos hx,if_neg (λh=>h hx),aT (show eP ⟨a.host,a.nodes,a.ak,a.next⟩=_ from af4 ha λl hl=>by have:=hb.row l hl;omega)];rw[aT (aCY ⟨bC a,ct a⟩ p (by rw[iC];omega) (by rw[gT];omega) (ji ha hb) hp)];obtain⟨c1,c2⟩:=zu (q:=dV) (λ_ _=>oK) p.az (bC a) ha.abL (amz ho);obtain⟨d1,d2⟩:=zu (q:=qU) (λ_ _=>xM) p.aF (ct a) ha.adG (amA ho);unfold ay7 af9;simp only[c1,d1] at c2 d2 ⊢;by_cases g1:nY qU (ct a) p.aF=true;rotate_left
 ·rw[if_neg g1,cond_false,if_neg λh=>g1 h.2];rfl
 by_cases g2:nY dV (bC a) p.az=true;rotate_left
 ·rw[if_pos g1,if_neg g2,cond_false,if_neg λh=>g2 h.1];rfl
 rw[if_pos g1,if_pos g2,if_pos ⟨g2,g1⟩,c2 g2,d2 g1];have hm:=apR (p:=p) ha hb;have m1:=hm.n;have m2:=hm.e;by_cases g3:(dH (less dV (bC a) p.az) p.values).2=true;rotate_left
 ·rw[if_neg g3];simp only[Bool.not_eq_true] at g3;simp only[g3,cond_false];try rfl
 rw[if_pos g3];simp only[g3,cond_true];rw[aT (aCZ _ p (by simp only;omega) (by simp only;omega) hm.abL hm.adG hp ho)];unfold ay8;simp only;by_cases g4:gm (dH (less dV (bC a) p.az) p.values).1 (less qU (ct a) p.aF) p=true
 ·rw[if_pos g4,if_pos g4];rfl
 rw[if_neg g4,if_neg g4];simp only[cond_true];have hbt:=hs.add hm hp p.next.x1
 have e1:=hbt.nodes;have e2:=hbt.ak;have e3:=hbt.host.row;rw[aT (tg _ _ (by simpa[dr] using e1) (by simpa[dr] using e2) λn hn=>e3 _ (List.mem_map_of_mem hn))];rw[aT (show b8 ⟨t.nodes,t.ak⟩ _=_ from mz ht hbt),aX];by_cases g5:lq t (dr (j7 ((dH (less dV (bC a) p.az) p.values).1++p.aR)) (mc (less qU (ct a) p.aF++p.aP)) p.next.x1)=0
 ·rw[if_pos g5,if_neg (λh=>h g5)]
 ·rw[if_neg g5,if_pos g5];rfl
theorem sK(ht:fC t)(hb:j4 a)(hp:jf p):bK t a p=some (nQ t a p):=by
 unfold bK nQ;rw[aT (show b8 ⟨t.nodes,t.ak⟩ ⟨a.host,a.nodes,a.ak,a.next⟩=_ from mz ht hb),aX];by_cases h:lq t a=0
 ·rw[if_pos h,if_neg (λh2=>h2 h),aT (show fH ⟨t.nodes,t.ak⟩ ⟨a.host,a.nodes,a.ak,a.next⟩ p=_ from auD ht (dm.1 h) hb.host hp)]
 ·rw[if_neg h,if_pos h];rfl
theorem ay9(ht:fC t)(ha:dX t a)(hb:sV a.host)(hp:jf p):kr t a p=some (xP t a p):=by
 have h1:=ha.n40;have h2:=ha.e80;unfold kr xP;rw[aT (ay6 hp),iM,aX];by_cases hsh:sg p=0;rotate_left
 ·rw[if_neg hsh,if_pos hsh]
 obtain⟨hs,ho⟩:=tR.1 hsh;have s1:=hs.rn;have s2:=hs.re;have s3:=hs.an;have s4:=hs.ae;have s5:=hs.va;rw[if_pos hsh,if_neg (λh=>h hsh)];rw[aT (tw ⟨by rw[ha.rP];exact Nat.le_refl _,by rw[ha.host.adF,ha.rP];exact Nat.le_refl _,by omega,λl hl=>by have:=hb.row l hl;omega,by omega,by omega,by omega,by omega,by omega,λn hn=>by have:=hp.rv n hn;omega⟩)];rw[aT (tf ha),aT (tw (by rw[gT];omega)),iM,aX];by_cases hx:p.next.x0=a.next
 rotate_left
 ·rw[if_neg hx,if_pos hx]
 rw[if_pos hx,if_neg (λh=>h hx)];obtain⟨c1,c2⟩:=afY (q:=dV) (λ_ _=>oK) p.az (bC a) 0 ha.abL (amz ho);obtain⟨d1,d2⟩:=afY (q:=qU) (λ_ _=>xM) p.aF (ct a) 0 ha.adG (amA ho);rw[afZ,af0,c1,d1,iM];unfold af9;by_cases g1:nY dV (bC a) p.az=true/\nY qU (ct a) p.aF=true;rotate_left
 ·rw[if_neg g1];have:(nY dV (bC a) p.az&&nY qU (ct a) p.aF)=false:=by rw[Bool.eq_false_iff];intro h;exact g1 (by rw[Bool.and_eq_true] at h;exact h)
  rw[this,cond_false]
 rw[if_pos g1,g1.1,g1.2,Bool.and_true,cond_true,c2 (c1.trans g1.1),d2 (d1.trans g1.2)];have hm:=apR (p:=p) ha hb;have m1:=hm.n;have m2:=hm.e;have l1:=aga (q:=dV) (l:=bC a) (r:=p.az);rw[iC] at l1;rw[aT (tw ⟨by omega,by omega⟩)];obtain⟨v1,v2⟩:=af2 p.values (less dV (bC a) p.az) (zv ha.abL);rw[v1,iM];by_cases g3:(dH (less dV (bC a) p.az) p.values).2=true;rotate_left
 ·rw[if_neg g3];simp only[Bool.not_eq_true] at g3;rw[g3,cond_false]
 rw[if_pos g3,g3,cond_true,v2 (v1.trans g3)];rw[aT (tw ⟨by omega,λhf=>⟨amy (mw hm.abL ho.an λa ha b hb=>((abK hf).1 b hb).1 a ha),amy (mw hm.adG ho.ae λa ha b hb=>((abK hf).2 b hb).2 a ha)⟩⟩)];by_cases g4:gm (dH (less dV (bC a) p.az) p.values).1 (less qU (ct a) p.aF) p=true
 ·rw[if_pos g4,g4,cond_true]
 rw[if_neg g4];simp only[Bool.not_eq_true] at g4;rw[g4,cond_false];have hbt:=hs.add hm hp p.next.x1
 have e1:=hbt.nodes;have e2:=hbt.ak;have e3:=hbt.host.row;rw[aT (acO _ _ _ (by simpa[dr] using e1) (by simpa[dr] using e2) λn hn=>e3 _ (List.mem_map_of_mem hn)),iM];simp only;by_cases g5:lq t (dr (j7 ((dH (less dV (bC a) p.az) p.values).1++p.aR)) (mc (less qU (ct a) p.aF++p.aP)) p.next.x1)=0
 ·rw[if_pos (af8 (dm.1 g5)),if_neg (λh=>h g5),cond_true,aT (nC ht hbt),iM,aX,if_pos g5]
 ·rw[if_pos (c:=_≠_) g5];split
  ·rw[cond_true,aT (nC ht hbt),iM,aX,if_neg g5]
  ·rw[cond_false]
theorem acP(ht:fC t)(hb:j4 a)(hp:jf p):fc t a p=some (nQ t a p):=by
 unfold fc nQ;rw[aT (show fO ⟨t.nodes,t.ak⟩ ⟨a.host,a.nodes,a.ak,a.next⟩=_ from nC ht hb),aX];by_cases h:lq t a=0
 ·rw[if_pos h,if_neg (λh2=>h2 h),aT (show kr ⟨t.nodes,t.ak⟩ ⟨a.host,a.nodes,a.ak,a.next⟩ p=_ from ay9 ht (dm.1 h) hb.host hp)]
 ·rw[if_neg h,if_pos h];rfl
end
def lK(a:ax)(p:aG):List ah:=(dH (less dV (bC a) p.az) p.values).1
def oL(a:ax)(p:aG):List au:=less qU (ct a) p.aF
def bD(a:ax)(p:aG):ax:=dr (j7 (lK a p++p.aR)) (mc (oL a p++p.aP)) p.next.x1
structure cL(t:Types)(a:ax)(p:aG):Prop where
 tk:dX t a
 small:Small p
 ord:Ordered p
 next:p.next.x0=a.next
 rn:nY dV (bC a) p.az=true
 re:nY qU (ct a) p.aF=true
 va:(dH (less dV (bC a) p.az) p.values).2=true
 free:gm (lK a p) (oL a p) p=false
 ok:dX t (bD a p)
theorem nK{t:Types}{a:ax}{p:aG}(h:cL t a p):nQ t a p=(bD a p,0):=by unfold nQ xP af9;rw[if_neg (λh2=>h2 (dm.2 h.tk)),if_neg (λh2=>h2 (tR.2 ⟨h.small,h.ord⟩)),if_neg (λh2=>h2 h.next),if_pos ⟨h.rn,h.re⟩,if_pos h.va,if_neg (λh2=>by have h3:=h.free;unfold lK oL at h3;rw[h3] at h2;cases h2)];exact if_neg (λh2=>h2 (dm.2 h.ok))
theorem nL{t:Types}{a:ax}{p:aG} : (nQ t a p).2=0↔cL t a p:=by
 constructor
 ·intro h;unfold nQ at h;split at h
  ·rename_i h1;exact absurd h h1
  rename_i h1;unfold xP at h;split at h
  ·rename_i h2;exact absurd h h2
  rename_i h2;split at h
  ·cases h
  rename_i h3;obtain⟨s1,s2⟩:=tR.1 (Decidable.of_not_not h2);split at h
  ·cases h
  rename_i s hs;split at h
  ·cases h
  rename_i h4;unfold af9 at hs;split at hs;rotate_left
  ·cases hs
  rename_i h5;split at hs;rotate_left
  ·cases hs
  rename_i h6;split at hs
  ·cases hs
  rename_i h7;cases hs;exact⟨dm.1 (Decidable.of_not_not h1),s1,s2,Decidable.of_not_not h3,h5.1,h5.2,h6,Bool.eq_false_iff.2 h7,dm.1 (Decidable.of_not_not h4)⟩
 ·intro h;rw[nK h]
theorem auE{α:Type}{q:α->α->Bool}(hq:∀a b,q a b=true↔a=b){l r:List α}(h:nY q l r=true):∀x∈r,x∈l:=λx hx=>by obtain⟨m,hm,e⟩:=List.any_eq_true.1 (List.all_eq_true.1 h x hx);rw[<- (hq _ _).1 e];exact hm
theorem aqQ:∀ (r:List aK) (l:List ah),(dH l r).2=true->∀v∈r,∃n∈l,n.id=v.id/\0<=v.attr/\v.attr<n.values.length
 | [],l,_,v,hv=>by cases hv
 |w :: r,l,h,v,hv=>by
  rw[dH] at h;split at h;rotate_left
  ·cases h
  rename_i ha;rcases List.mem_cons.1 hv with e|hv
  ·subst e;obtain⟨n,hn,hf⟩:=List.any_eq_true.1 ha;unfold j9 okV at hf;simp only[Bool.and_eq_true,Bool.not_eq_true',decide_eq_true_eq,decide_eq_false_iff_not] at hf;exact⟨n,hn,hf.1,by omega,by omega⟩
  ·obtain⟨n,hn,h1,h2,h3⟩:=aqQ r _ h v hv;obtain⟨m,hm,rfl⟩:=List.mem_map.1 hn;rw[tQ] at h1;rw[af1] at h3;exact⟨m,hm,h1,h2,h3⟩
section
variable{t:Types}{a:ax}{p q:aG}
theorem cL.aqR(h:cL t a p){n:ah}(hn:n∈p.az):n∈bC a:=auE (q:=dV) (λ_ _=>oK) h.rn n hn
theorem zM{n:ah}(hn:n∈bC a):n.id∈a.nodes:=by rw[<-rQ];exact List.mem_map_of_mem hn
theorem vE{n:au}(hn:n∈ct a):n.id∈a.ak:=by rw[<-pY];exact List.mem_map_of_mem hn
theorem cL.value(h:cL t a p){v:aK}(hv:v∈p.values):∃n∈bC a,n.id=v.id/\0<=v.attr/\v.attr<n.values.length/\n ∉ p.az:=by obtain⟨n,hn,h1,h2,h3⟩:=aqQ p.values _ h.va v hv;obtain⟨hn1,hn2⟩:=List.mem_filter.1 hn;refine⟨n,hn1,h1,h2,h3,λhm=>?_⟩;have:(p.az.any λm=>dV n m)=true:=List.any_eq_true.2 ⟨n,hm,oK.2 rfl⟩;rw[this] at hn2;cases hn2
theorem cL.n1(h:cL t a p):0<=p.next.x1/\p.next.x1<=1000000:=h.ok.next
theorem cL.n0(h:cL t a p):0<=p.next.x0/\p.next.x0<=1000000:=by rw[h.next];exact h.tk.next
theorem cL.ids(h:cL t a p):(∀n∈p.aR,0<=n.id/\n.id<p.next.x1)/\∀e∈p.aP,0<=e.id/\e.id<p.next.x1:=⟨λn hn=>h.ok.nid.1 _ (List.mem_map_of_mem (nJ.2 (List.mem_append_right _ hn))),λn hn=>h.ok.eid.1 _ (List.mem_map_of_mem (rO.2 (List.mem_append_right _ hn)))⟩
end
def th(p:aG):Bool:=decide (p.next.x0<=p.next.x1)&&(!(p.aR.any λn=>decide (n.id<p.next.x0)) && !(p.aP.any λn=>decide (n.id<p.next.x0)))
theorem aqS{p:aG}(hp:jf p):nI p=some (th p):=by
 unfold nI th;rw[aX];by_cases h:p.next.x0<=p.next.x1
 ·rw[if_pos h,aT (lJ (p:=λx=>nt x p) (λn=>decide (n.id<p.next.x0)) hp.an λn _=>rfl),dB h,Bool.true_and];cases p.aR.any λn=>decide (n.id<p.next.x0) with
  |true=>rfl
  |false=>rw[cond_false,aT (qP (p:=λx=>nu x p) (λn=>decide (n.id<p.next.x0)) hp.ae λn _=>rfl)];rfl
 ·rw[if_neg h,eT h];rfl
theorem amB{p:aG}(hp:jf p):gd p=some (th p):=by
 have h1:=hp.an;have h2:=hp.ae;unfold gd th;rw[bw (bu (by omega)),oJ p.aR (λn=>!decide (n.id<p.next.x0)) (λ_=>some false) (λi hi cz=>by rw[bS hi,iM]),pM,List.all_eq_not_any_not];simp only[Bool.not_not];cases p.aR.any λn=>decide (n.id<p.next.x0) with
 |true=>simp
 |false=>simp only[Bool.not_false,if_true,Bool.true_and];rw[bw (bu (by omega)),oJ p.aP (λn=>!decide (n.id<p.next.x0)) (λ_=>some false) (λi hi cz=>by rw[bS hi,iM]),pM,List.all_eq_not_any_not];simp only[Bool.not_not];cases p.aP.any λn=>decide (n.id<p.next.x0)<;>simp
structure aeg(p:aG):Prop where
 next:p.next.x0<=p.next.x1
 n:∀n∈p.aR,p.next.x0<=n.id
 e:∀n∈p.aP,p.next.x0<=n.id
theorem xQ{p:aG} : th p=true↔aeg p:=by unfold th;simp only[Bool.and_eq_true,Bool.not_eq_true',List.any_eq_false,decide_eq_true_eq,Int.not_lt];exact⟨λh=>⟨h.1,h.2.1,h.2.2⟩,λh=>⟨h.next,h.n,h.e⟩⟩
def ow(t:Types)(a:ax)(p q:aG):Int :=
 if (nQ t a p).2≠0 then (nQ t a p).2 else if (nQ t a q).2≠0 then (nQ t a q).2
 else if th p=true then if th q=true then if 1000000<p.next.x1+q.next.x1-q.next.x0 then 6 else 0 else 8 else 8
theorem agb{σ O:Type}{f:Nat->σ->(σ->Option O)->(σ->Option O)->Option O}{K:σ->Option O}{s:σ} : bZ f (2-0) 0 s K=f 0 s (λs'=>f 1 s' K K) K:=rfl
section
variable{t:Types}{a:ax}{p q:aG}
theorem aBX{p q:aG}(h1:cL t a p)(h2:cL t a q):i64.wrap (i64.wrap (p.next.x1+q.next.x1)-q.next.x0)=p.next.x1+q.next.x1-q.next.x0:=by have a1:=h1.n1;have a2:=h2.n1;have a3:=h2.n0;rw[dJ (n:=p.next.x1+q.next.x1) (by omega),dJ (by omega)]
theorem aBn(ht:fC t)(hb:j4 a)(hp:jf p)(hq:jf q):gf t a p q=some (ow t a p q):=by
 unfold gf ow;rw[aT (show bK ⟨t.nodes,t.ak⟩ ⟨a.host,a.nodes,a.ak,a.next⟩ p=_ from sK ht hb hp),aX];by_cases h1:(nQ t a p).2=0;rotate_left
 ·rw[if_neg h1,if_pos h1]
 rw[if_pos h1,if_neg (λh=>h h1),aT (show bK ⟨t.nodes,t.ak⟩ ⟨a.host,a.nodes,a.ak,a.next⟩ q=_ from sK ht hb hq),aX];by_cases h2:(nQ t a q).2=0;rotate_left
 ·rw[if_neg h2,if_pos h2]
 rw[if_pos h2,if_neg (λh=>h h2),aT (amB hp),aT (amB hq),aBX (nL.1 h1) (nL.1 h2),aX];cases th p with
 |false=>simp
 |true =>
  cases th q with
  |false=>simp
  |true=>simp only[cond_true,if_true];split<;>rfl
theorem wg(ht:fC t)(hb:j4 a)(hp:jf p)(hq:jf q):jB t a p q=some (ow t a p q):=by
 unfold jB ow;rw[mu,bw (bu (by omega)),agb];rw[show ([p,q][0]?)=some p from rfl,mu];rw[aT (show fc ⟨t.nodes,t.ak⟩ ⟨a.host,a.nodes,a.ak,a.next⟩ p=_ from acP ht hb hp),aX];by_cases h1:(nQ t a p).2=0;rotate_left
 ·rw[if_neg h1,if_pos h1]
 rw[if_pos h1,if_neg (λh=>h h1),show ([p,q][1]?)=some q from rfl,mu];rw[aT (show fc ⟨t.nodes,t.ak⟩ ⟨a.host,a.nodes,a.ak,a.next⟩ q=_ from acP ht hb hq),aX];by_cases h2:(nQ t a q).2=0;rotate_left
 ·rw[if_neg h2,if_pos h2]
 rw[if_pos h2,if_neg (λh=>h h2),aT (aqS hp),aT (aqS hq),aBX (nL.1 h1) (nL.1 h2),aX];cases th p with
 |false=>simp
 |true =>
  cases th q with
  |false=>simp
  |true=>simp only[cond_true,if_true];split<;>rfl
structure vj(t:Types)(a:ax)(p q:aG):Prop where
 ap:cL t a p
 aq:cL t a q
 gp:aeg p
 gq:aeg q
 next:p.next.x1+q.next.x1-q.next.x0<=1000000
theorem mQ:ow t a p q=0↔vj t a p q:=by
 unfold ow;constructor
 ·intro h;split at h
  ·rename_i h1;exact absurd h h1
  rename_i h1;split at h
  ·rename_i h2;exact absurd h h2
  rename_i h2;split at h;rotate_left
  ·cases h
  rename_i h3;split at h;rotate_left
  ·cases h
  rename_i h4;split at h
  ·cases h
  exact⟨nL.1 (Decidable.of_not_not h1),nL.1 (Decidable.of_not_not h2),xQ.1 h3,xQ.1 h4,by omega⟩
 ·intro h;rw[if_neg (λh2=>h2 (nL.2 h.ap)),if_neg (λh2=>h2 (nL.2 h.aq)),if_pos (xQ.2 h.gp),if_pos (xQ.2 h.gq),if_neg (by have:=h.next;omega)]
end
def ltC(a b:aI):Prop:=a.id<b.id\/a.id=b.id/\a.attr<b.attr
theorem aBo(a:aI):¬ ltC a a:=by unfold ltC;omega
theorem aza(a b c:aI)(h1:ltC a b)(h2:ltC b c):ltC a c:=by unfold ltC at *;omega
theorem aih{K:Int}{l:List aI}(hk:∀x∈l,x.kind=K)(hs:l.Pairwise λa b=>leC a b=true):∀j,j<=l.length->(kept l j).Pairwise ltC/\(∀x,x∈kept l j↔x∈l.take j)/\∀x∈kept l j,∀i,(hi:i<l.length)->j<=i+1->x=l[i]\/ltC x l[i]
 |0,_=>⟨List.Pairwise.nil,λx=>by simp[kept],λx hx=>by cases hx⟩
 |j+1,hj=>by
  obtain⟨h1,h2,h3⟩:=aih hk hs j (by omega);have hg:l.getD j default=l[j]:=by simp[show j<l.length by omega]
  have le_or:∀x∈l,∀i,(hi:i<l.length)->leC x l[i]=true->x=l[i]\/ltC x l[i]:=λx hx i hi h=>by
   have k1:=hk x hx;have k2:=hk _ (nR hi);unfold leC at h;have h:=cm h;by_cases he:x.id=l[i].id/\x.attr=l[i].attr
   ·left;generalize l[i]=y at *;cases x;cases y;simp only[aI.mk.injEq] at *;exact⟨by omega,he.1,he.2⟩
   ·right;unfold ltC;omega
  have up:∀i,(hi:i<l.length)->j<=i->l[j]=l[i]\/ltC l[j] l[i]:=λi hi hji=>by
   rcases Nat.lt_or_eq_of_le hji with h|h
   ·exact le_or _ (nR _) i hi (List.pairwise_iff_getElem.1 hs j i (by omega) hi h)
   ·subst h;exact .inl rfl
  have trans:∀x,(x=l[j]\/ltC x l[j])->∀i,(hi:i<l.length)->j<=i->x=l[i]\/ltC x l[i]:=λx hx i hi hji=>by
   rcases hx with rfl|hx
   ·exact up i hi hji
   ·rcases up i hi hji with h|h
    ·rw[<-h];exact .inr hx
    ·exact .inr (aza _ _ _ hx h)
  rw[kept,hg];have lC:l.take (j+1)=l.take j++[l[j]]:=by rw[List.take_add_one,List.getElem?_eq_getElem (by omega),Option.toList_some]
  by_cases hf:fresh l j=true
  ·rw[if_pos hf];have hlt:∀x∈kept l j,ltC x l[j]:=λx hx=>by
    rcases h3 x hx j (by omega) (by omega) with h|h
    ·-- x is the element at j: then so is the one ahead of it
     exfalso;unfold fresh at hf;rcases Nat.eq_zero_or_pos j with h0|h0
     ·subst h0;simp[kept] at hx
     ·rw[eT (by omega),Bool.false_or,hg] at hf;have hg2:l.getD (j-1) default=l[j-1]:=by simp[show j-1<l.length by omega]
      rw[hg2] at hf;have hne:l[j]≠l[j-1]:=λe=>by rw[(ayB _ _).2 e] at hf;cases hf
      rcases h3 x hx (j-1) (by omega) (by omega) with h4|h4
      ·exact hne (by rw[<-h,<-h4])
      ·rw[h] at h4;have h5:=List.pairwise_iff_getElem.1 hs (j-1) j (by omega) (by omega) (by omega);unfold leC at h5;have h5:=cm h5;unfold ltC at h4;omega
    ·exact h
   refine⟨List.pairwise_append.2 ⟨h1,List.pairwise_singleton _ _,λx hx y hy=>?_⟩,λx=>?_,λx hx i hi hji=>?_⟩
   ·rw[List.mem_singleton.1 hy];exact hlt x hx
   ·rw[lC,List.mem_append,List.mem_append,h2]
   ·rcases List.mem_append.1 hx with hx|hx
    ·exact trans x (.inr (hlt x hx)) i hi (by omega)
    ·exact trans x (.inl (List.mem_singleton.1 hx)) i hi (by omega)
  ·rw[if_neg hf];unfold fresh at hf;have h0:0<j:=by
    rcases Nat.eq_zero_or_pos j with h0|h0
    ·subst h0;simp at hf
    ·exact h0
   rw[eT (by omega),Bool.false_or,hg] at hf;have hg2:l.getD (j-1) default=l[j-1]:=by simp[show j-1<l.length by omega]
   rw[hg2] at hf;have he:l[j]=l[j-1]:=(ayB _ _).1 (by simpa using hf);refine⟨h1,λx=>?_,λx hx i hi hji=>trans x (h3 x hx j (by omega) (by omega)) i hi (by omega)⟩;rw[h2,lC,List.mem_append,List.mem_singleton];constructor
   ·exact .inl
   ·rintro (h|h)
    ·exact h
    ·rw[h,he];have:l[j-1]=(l.take j)[j-1]'(by simp;omega):=by simp
     rw[this];exact nR _
theorem aa5{K:Int}{l:List aI}(hk:∀x∈l,x.kind=K):(iT l).Pairwise ltC/\∀x,x∈iT l↔x∈l:=by
 unfold iT;have hp:=List.mergeSort_perm l leC;have hs:(l.mergeSort leC).Pairwise λa b=>leC a b=true:=List.pairwise_mergeSort (λa b c h1 h2=>by unfold leC at *;simp at *;omega) (λa b=>by unfold leC;simp;omega) l
 obtain⟨h1,h2,_⟩:=aih (l:=l.mergeSort leC) (λx hx=>hk x (hp.mem_iff.1 hx)) hs l.length (by rw[List.length_mergeSort];exact Nat.le_refl _);refine⟨h1,λx=>?_⟩;rw[h2,List.take_of_length_le (by rw[List.length_mergeSort];exact Nat.le_refl _)];exact hp.mem_iff
theorem xR{K:Int}{l m:List aI}(hk:∀x∈l,x.kind=K)(hm:m.Pairwise ltC)(h:∀x,x∈l↔x∈m):iT l=m:=by obtain⟨h1,h2⟩:=aa5 hk;exact ajO aBo aza h1 hm λx=>(h2 x).trans (h x)
def dL(p:aG)(id:Int):Bool:=p.az.any λn=>decide (n.id=id)
def yp(p:aG)(id:Int):Bool:=p.aP.any λe=>decide (e.src=id)||decide (e.dst=id)
def pZ(p:aG)(id attr:Int):Option aK:=p.values.find? λv=>decide (v.id=id)&&decide (v.attr=attr)
def aqT(p:aG)(id:Int):Bool:=p.aF.any λn=>decide (n.id=id)
section
variable{p q:aG}
theorem aaA(hp:p.az.length<=1000000)(id:Int):jh p id=some (dL p id):=by unfold jh;rw[aT (lJ (p:=λx=>kZ x id) (λn=>decide (n.id=id)) hp λn _=>rfl)];rfl
theorem acQ{α:Type}{l:List α}{b:α->Bool}{f:Nat->Unit->(Unit->Option Bool)->(Unit->Option Bool)->Option Bool}{K:Unit->Option Bool}(h:∀i (hi:i<l.length) cz,f i () cz K=cond (b l[i]) (some true) (cz ()))(hK:K ()=some false):bZ f (l.length-0) 0 () K=some (l.any b):=by rw[oJ l (λa=>!b a) (λ_=>some true) (λi hi cz=>by rw[h i hi cz,iM]),pM,List.all_eq_not_any_not,hK];simp only[Bool.not_not];cases l.any b<;>simp
theorem uT(hp:p.az.length<=1000000)(id:Int):bG p id=some (dL p id):=by unfold bG;rw[bw (bu (by omega))];exact acQ (λi hi cz=>by rw[bS hi]) rfl
theorem aC0(hp:p.aF.length<=1000000)(id:Int):iY p id=some (aqT p id):=by unfold iY;rw[bw (bu (by omega))];exact acQ (λi hi cz=>by rw[bS hi]) rfl
theorem azb(hp:p.aP.length<=1000000)(id:Int):fK p id=some (yp p id):=by unfold fK;rw[bw (bu (by omega))];refine acQ (λi hi cz=>?_) rfl;rw[bS hi];cases decide (p.aP[i].src=id)<;>rfl
theorem aeK(hp:p.values.length<=1000000)(id attr:Int):b9 p id attr=some (match pZ p id attr with|some v=>(v,true)|none=>(⟨0,0,0,0⟩,false)):=by
 unfold b9 pZ;rw[bw (bu (by omega)),oJ p.values (λv=>!(decide (v.id=id)&&decide (v.attr=attr))) (λv=>some (v,true)) (λi hi cz=>by
  rw[bS hi,iM];cases decide (p.values[i].id=id)<;>rfl)]
 simp only[Bool.not_not];unfold zq;cases p.values.find? λv=>decide (v.id=id)&&decide (v.attr=attr)<;>rfl
theorem aeh{id attr:Int}{v:aK}(h:pZ p id attr=some v):v∈p.values/\v.id=id/\v.attr=attr:=by have h1:=List.mem_of_find?_eq_some h;have h2:=List.find?_some h;simp only[Bool.and_eq_true,decide_eq_true_eq] at h2;exact⟨h1,h2⟩
theorem nM{id attr:Int} : (pZ p id attr).isSome=true↔∃v∈p.values,v.id=id/\v.attr=attr:=by unfold pZ;rw[List.find?_isSome];simp only[Bool.and_eq_true,decide_eq_true_eq]
theorem aBp{l:List aK}(h:l.Pairwise ltV){v w:aK}(hv:v∈l)(hw:w∈l)(h1:v.id=w.id)(h2:v.attr=w.attr):v=w:=by
 induction l with
 |nil=>cases hv
 |cons c r ih =>
  rw[List.pairwise_cons] at h;rcases List.mem_cons.1 hv with e1|e1<;>rcases List.mem_cons.1 hw with e2|e2
  ·rw[e1,e2]
  ·have:=h.1 w e2;unfold ltV at this;rw[e1] at h1 h2;omega
  ·have:=h.1 v e1;unfold ltV at this;rw[e2] at h1 h2;omega
  ·exact ih h.2 e1 e2
theorem auF(ho:p.values.Pairwise ltV){v:aK}(hv:v∈p.values):pZ p v.id v.attr=some v:=by
 cases h:pZ p v.id v.attr with
 |none =>
  have:=nM (p:=p) (id:=v.id) (attr:=v.attr) |>.2 ⟨v,hv,rfl,rfl⟩
  rw[h] at this;cases this
 |some w=>obtain⟨h1,h2,h3⟩:=aeh h;rw[aBp ho h1 hv h2 h3]
end
def apS(x:aG)(e:au):List aI:=([e.src,e.dst].filter (dL x)).map λid=>⟨1,id,-1⟩
def xS(x y:aG):List aI:=y.aP.flatMap (apS x)
def xT(x y:aG):List aI:=(y.values.filter λv=>dL x v.id).map λv=>⟨2,v.id,v.attr⟩
def apT(q:aG)(v:aK):List aI:=(q.values.filter λw=>decide (v.id=w.id)&&(decide (v.attr=w.attr) && !decide (v.new=w.new))).map λ_=>⟨3,v.id,v.attr⟩
def ahe(p q:aG):List aI:=p.values.flatMap (apT q)
def amC(p q:aG):List aI:=iT (xS p q++xS q p)++iT (xT p q++xT q p)++iT (ahe p q)
theorem ue{α β:Type}(g:α->List β):∀ (l:List α) (s:List β),l.foldl (λs a=>s++g a) s=s++l.flatMap g
 | [],s=>by simp
 |a :: l,s=>by rw[List.foldl_cons,ue g l];simp
theorem acR{α β:Type}(g:α->List β)(l:List α)(s:List β)(k:Nat)(h:∀a∈l,(g a).length<=k):(l.foldl (λs a=>s++g a) s).length<=s.length+k * l.length:=by
 induction l generalizing s with
 |nil=>simp
 |cons a l ih =>
  rw[List.foldl_cons];have h1:=ih (s++g a) λb hb=>h b (List.mem_cons_of_mem _ hb)
  have h2:=h a (List.mem_cons_self ..);rw[List.length_append] at h1;rw[List.length_cons,Nat.mul_add];omega
theorem jH{α β O:Type}{f:Nat->List β->(List β->Option O)->(List β->Option O)->Option O}{K:List β->Option O}{s:List β}(l:List α)(g:α->List β)(k:Nat)(hg:∀a∈l,(g a).length<=k)
  (h:∀i (hi:i<l.length) (s':List β),s'.length<=s.length+k * i->∀cz,f i s' cz K=cz (s'++g l[i])):bZ f (l.length-0) 0 s K=K (s++l.flatMap g):=by
 rw[(rN l (λs a=>s++g a) (λi s'=>s'.length<=s.length+k * i) (by simp) λi hi s' hs'=>⟨λcz=>h i hi s' hs' cz,by
  have:=hg _ (nR hi);rw[List.length_append,Nat.mul_add];omega⟩).1,ue]
section
variable{p q:aG}
theorem amD(x:aG)(e:au):(apS x e).length<=2:=by unfold apS;rw[List.length_map];exact List.length_filter_le _ _
theorem amE(q:aG)(hq:Small q)(v:aK):(apT q v).length<=500:=by unfold apT;rw[List.length_map];exact Nat.le_trans (List.length_filter_le _ _) hq.va
theorem amF(hq:Small q):(xS p q).length<=1000:=by
 have:=acR (apS p) q.aP [] 2 λa _=>amD p a
 rw[ue] at this;have h2:=hq.ae;simp only[List.nil_append,List.length_nil] at this;unfold xS;omega
theorem amG(hq:Small q):(xT p q).length<=500:=by unfold xT;rw[List.length_map];exact Nat.le_trans (List.length_filter_le _ _) hq.va
theorem azc(hp:Small p)(hq:Small q):(ahe p q).length<=250000:=by
 have:=acR (apT q) p.values [] 500 λa _=>amE q hq a
 rw[ue] at this;have h2:=hp.va;simp only[List.nil_append,List.length_nil] at this;unfold ahe;omega
end
theorem adJ{n:Int}(h:0<=n/\n<=1000000):mb ([]:List aI) n=some []:=tw ⟨rfl,by omega⟩
theorem auG(x y z:List aI)(h:x.length<=300000/\y.length<=300000/\z.length<=300000):gP [x,y,z]=some (x++y++z):=by unfold gP;rw[bw (bu (by simp))];show bZ _ 3 0 0 _=_;simp only[bZ,List.getElem?_cons_zero,List.getElem?_cons_succ,mu];rw[dJ (n:=0+((x.length:Nat):Int)) (by omega),eT (by omega),cond_false];rw[dJ (n:=0+((x.length:Nat):Int)+((y.length:Nat):Int)) (by omega),eT (by omega),cond_false];rw[dJ (n:=0+((x.length:Nat):Int)+((y.length:Nat):Int)+((z.length:Nat):Int)) (by omega),eT (by omega),cond_false];rw[aT (adJ (by omega)),bw (bu (by simp))];show bZ _ 3 0 [] _=_;simp only[bZ,List.getElem?_cons_zero,List.getElem?_cons_succ,mu];rw[bw (by simp;omega),bw (by simp;omega),bw (by simp;omega)];simp
theorem jQ{β O:Type}{f:Nat->List β->(List β->Option O)->(List β->Option O)->Option O}{K:List β->Option O}{s:List β}(n:Nat)(g:Nat->List β)(k:Nat)(hg:∀i,i<n->(g i).length<=k)
  (h:∀i (hi:i<n) (s':List β),s'.length<=s.length+k * i->∀cz,f i s' cz K=cz (s'++g i)):bZ f (n-0) 0 s K=K (s++(List.range n).flatMap g):=by
 have:=jH (f:=f) (K:=K) (s:=s) (List.range n) g k (λi hi=>hg i (List.mem_range.1 hi)) λi hi s' hs' cz=>by rw[List.getElem_range];exact h i (by simpa using hi) s' hs' cz
 rwa [List.length_range] at this
theorem agc{σ O:Type}{f:Nat->σ->(σ->Option O)->(σ->Option O)->Option O}{K:σ->Option O}{s r1 r2:σ}(h0:∀cz,f 0 s cz K=cz r1)(h1:∀cz,f 1 r1 cz K=cz r2):bZ f (2-0) 0 s K=K r2:=by rw[agb,h0,h1]
section
variable{t:Types}{a:ax}{p q:aG}
theorem jV{α β:Type}(b:α->Bool)(f:α->β)(l:List α):(l.flatMap λa=>if b a=true then [f a] else [])=(l.filter b).map f:=by
 induction l with
 |nil=>rfl
 |cons x l ih=>rw[List.flatMap_cons,ih,List.filter_cons];split<;>simp
theorem tS{id:Int} : dL p id=true↔∃n∈p.az,n.id=id:=by unfold dL;rw[List.any_eq_true];simp only[decide_eq_true_eq]
theorem auH{id:Int} : yp p id=true↔∃e∈p.aP,e.src=id\/e.dst=id:=by unfold yp;rw[List.any_eq_true];simp only[Bool.or_eq_true,decide_eq_true_eq]
theorem sL{x:aI} : x∈xS p q↔∃id,dL p id=true/\yp q id=true/\x=⟨1,id,-1⟩:=by
 unfold xS apS;simp only[List.mem_flatMap,List.mem_map,List.mem_filter,auH];constructor
 ·rintro⟨e,he,id,⟨h1,h2⟩,rfl⟩;refine⟨id,h2,⟨e,he,?_⟩,rfl⟩;simp at h1;rcases h1 with h1|h1
  ·exact .inl h1.symm
  ·exact .inr h1.symm
 ·rintro⟨id,h1,⟨e,he,h2⟩,rfl⟩;refine⟨e,he,id,⟨?_,h1⟩,rfl⟩;rcases h2 with h2|h2<;>simp[h2]
theorem sM{x:aI} : x∈xT p q↔∃v∈q.values,dL p v.id=true/\x=⟨2,v.id,v.attr⟩:=by
 unfold xT;simp only[List.mem_map,List.mem_filter];constructor
 ·rintro⟨v,⟨h1,h2⟩,rfl⟩;exact⟨v,h1,h2,rfl⟩
 ·rintro⟨v,h1,h2,rfl⟩;exact⟨v,⟨h1,h2⟩,rfl⟩
theorem zS{x:aI} : x∈ahe p q↔∃v∈p.values,∃w∈q.values,v.id=w.id/\v.attr=w.attr/\v.new≠w.new/\x=⟨3,v.id,v.attr⟩:=by
 unfold ahe apT;simp only[List.mem_flatMap,List.mem_map,List.mem_filter,Bool.and_eq_true,decide_eq_true_eq,Bool.not_eq_true',decide_eq_false_iff_not];constructor
 ·rintro⟨v,hv,w,⟨h1,h2,h3,h4⟩,rfl⟩;exact⟨v,hv,w,h1,h2,h3,h4,rfl⟩
 ·rintro⟨v,hv,w,h1,h2,h3,h4,rfl⟩;exact⟨v,hv,w,⟨h1,h2,h3,h4⟩,rfl⟩
theorem cL.rid(h:cL t a p){id:Int}(hr:dL p id=true):id∈a.nodes:=by obtain⟨n,hn,rfl⟩:=tS.1 hr;exact zM (h.aqR hn)
theorem dX.small(h:dX t a){id:Int}(hi:id∈a.nodes):0<=id/\id<=1000000:=by
 have h1:=h.nid.1 id hi;have h2:=h.next
 omega
theorem cL.apU(h:cL t a p)(hb:sV a.host){v:aK}(hv:v∈p.values):(0<=v.id/\v.id<=1000000)/\0<=v.attr/\v.attr<=1000000:=by obtain⟨n,hn,h1,h2,h3,_⟩:=h.value hv;have h4:=ji h.tk hb n hn;have h5:=h.tk.small (zM hn);rw[h1] at h5;exact⟨h5,h2,by omega⟩
theorem p0(hp:cL t a p)(hq:cL t a q)(hb:sV a.host):iz p q=some (amC p q):=by
  have p1:=hp.small.rn;have p2:=hp.small.ae;have p3:=hp.small.va;have q1:=hq.small.rn;have q2:=hq.small.ae;have q3:=hq.small.va
  have round : ∀ (x y : aG) (u v : List aI) (cz : List aI × List aI → Option (List aI)), x.az.length ≤ 500 → y.aP.length ≤ 500 → y.values.length ≤ 500 → u.length ≤ 1000000 → v.length ≤ 1000000 →
      (cC (y.aP.length<=fuel) <|
      bZ (λaIu (aC1:(List aI)) aBq aGD =>
       thn (y.aP[aIu]?) λaBY =>
       thn (some [aBY.src,aBY.dst]) λaEK =>
       cC (2<=fuel) <|
       bZ (λaEL (amH:(List aI)) amI aEM =>
        thn (aEK[aEL]?) λaBZ =>
        thn (jh x aBZ) λaEN =>
        cond aEN (
         cC (amH.length+1<=68719476736) <|
         amI (amH++[(⟨1,aBZ,(-1)⟩:aI)])) <|
        amI amH)
       (2-0) 0 aC1 λamH =>
       aBq amH)
      (y.aP.length-0) 0 u λaC1 =>
      cC (y.values.length<=fuel) <|
      bZ (λaEO (amJ:(List aI)) amK aEP =>
       thn (y.values[aEO]?) λazd =>
       thn (jh x azd.id) λaEQ =>
       cond aEQ (
        cC (amJ.length+1<=68719476736) <|
        amK (amJ++[(⟨2,azd.id,azd.attr⟩:aI)])) <|
       amK amJ)
      (y.values.length-0) 0 v λamJ =>
      cz (aC1,amJ))=cz (u++xS x y,v++xT x y):=by
    intro x y u v cz h1 h2 h3 h4 h5;rw[bw (bu (by omega))];rw[jH y.aP (apS x) 2 (λe _=>amD x e) ?_]
    · rw[bw (bu (by omega))];rw[jH y.values (λv=>if dL x v.id=true then [(⟨2,v.id,v.attr⟩:aI)] else []) 1 (λv _=>by split<;>simp) ?_,jV]
      · rfl
      · intro i hi s' hs' cz;rw[bS hi,aT (aaA (by omega) _)];cases dL x y.values[i].id with
        |true=>rw[cond_true,bw (by omega),if_pos rfl]
        |false=>rw[cond_false,if_neg (by simp),List.append_nil]
    · intro i hi s' hs' cz;rw[bS hi,mu,bw (bu (by omega)),agb];unfold apS;simp only[List.getElem?_cons_zero,List.getElem?_cons_succ,mu];rw[aT (aaA (by omega) _)];cases h6:dL x y.aP[i].src with
      |true =>
        rw[cond_true,bw (by omega),aT (aaA (by omega) _)];cases h7:dL x y.aP[i].dst with
        |true=>rw[cond_true,bw (by simp;omega)];simp[h6,h7]
        |false=>rw[cond_false];simp[h6,h7]
      |false =>
        rw[cond_false,aT (aaA (by omega) _)];cases h7:dL x y.aP[i].dst with
        |true=>rw[cond_true,bw (by omega)];simp[h6,h7]
        |false=>rw[cond_false];simp[h6,h7]
  have u1:=amF (p:=p) hq.small;have u2:=amF (p:=q) hp.small;have c1:=amG (p:=p) hq.small;have c2:=amG (p:=q) hp.small;have v1:=azc hp.small hq.small;unfold iz amC;rw[mu,bw (bu (by omega)),agc (r1:=(xS p q,xT p q)) (r2:=(xS p q++xS q p,xT p q++xT q p)) (λcz=>round p q [] [] cz p1 q2 q3 (by simp) (by simp)) (λcz=>round q p (xS p q) (xT p q) cz q1 p2 p3 (by omega) (by omega))];rw[bw (bu (by omega))];rw[jH p.values (apT q) 500 (λv _=>amE q hq.small v) ?_]
  · simp only[List.nil_append];have o1:∀x∈xS p q++xS q p,x.kind=1/\ot x:=λx hx=>by
      rcases List.mem_append.1 hx with h|h
      · obtain⟨id,h1,_,rfl⟩:=sL.1 h;have:=hp.tk.small (hp.rid h1);exact⟨rfl,by unfold ot;simp only;omega⟩
      · obtain⟨id,h1,_,rfl⟩:=sL.1 h;have:=hp.tk.small (hq.rid h1);exact⟨rfl,by unfold ot;simp only;omega⟩
    have o2:∀x∈xT p q++xT q p,x.kind=2/\ot x:=λx hx=>by
      rcases List.mem_append.1 hx with h|h
      · obtain⟨v,h1,_,rfl⟩:=sM.1 h;have:=hq.apU hb h1;exact⟨rfl,by unfold ot;simp only;omega⟩
      · obtain⟨v,h1,_,rfl⟩:=sM.1 h;have:=hp.apU hb h1;exact⟨rfl,by unfold ot;simp only;omega⟩
    have o3:∀x∈ahe p q,x.kind=3/\ot x:=λx hx=>by obtain⟨v,h1,_,_,_,_,_,rfl⟩:=zS.1 hx;have:=hp.apU hb h1;exact⟨rfl,by unfold ot;simp only;omega⟩
    have kl:∀l:List aI,(iT l).length<=l.length:=λl=>by unfold iT;exact aml _ _
    have k1:=kl (xS p q++xS q p);have k2:=kl (xT p q++xT q p);have k3:=kl (ahe p q);rw[List.length_append] at k1 k2;rw[aT (show eZ (xS p q++xS q p)=_ from qz ⟨by rw[List.length_append];omega,1,o1⟩),aT (show eZ (xT p q++xT q p)=_ from qz ⟨by rw[List.length_append];omega,2,o2⟩)];rw[aT (show eZ (p.values.flatMap (apT q))=_ from qz ⟨by show (ahe p q).length<=_;omega,3,o3⟩)];rw[aT (auG _ _ _ ⟨by omega,by omega,by show (iT (ahe p q)).length<=_;omega⟩)];rfl
  · intro i hi s' hs' cz;have hbase:s'.length<=250000:=by simp at hs';omega
    rw[bS hi,bw (bu (by omega))];generalize p.values[i]=v;rw[jH q.values (λw=>if (decide (v.id=w.id)&&(decide (v.attr=w.attr) && !decide (v.new=w.new)))=true then [(⟨3,v.id,v.attr⟩:aI)] else []) 1 (λw _=>by split<;>simp) ?_,jV]
    · rfl
    · intro j hj s2 hs2 cz;rw[bS hj];generalize q.values[j]=w;cases decide (v.id=w.id) with
      |false=>rw[cond_false,if_neg (by simp),List.append_nil]
      |true =>
        rw[cond_true];cases decide (v.attr=w.attr) with
        |false=>rw[cond_false,if_neg (by simp),List.append_nil]
        |true =>
          rw[cond_true];cases decide (v.new=w.new) with
          |true=>rw[cond_true,if_neg (by simp),List.append_nil]
          |false=>rw[cond_false,bw (by omega),if_pos (by rfl)]
end
def ajR(p q:aG)(id:Int):Bool:=(dL p id&&yp q id)||(dL q id&&yp p id)
def apV(p q:aG)(id k:Int):Bool:=(dL p id&&(pZ q id k).isSome)||(dL q id&&(pZ p id k).isSome)
def adK(a:ax)(p q:aG)(i:Nat):List aI:=((List.range (a.host.values.getD i default).length).filter λk:Nat=>apV p q (a.nodes.getD i default) (k:Int)).map λk:Nat=>⟨2,a.nodes.getD i default,(k:Int)⟩
def auI(q:aG)(v:aK):Bool:=match pZ q v.id v.attr with
 |some w=>!decide (w.new=v.new)
 |none=>false
def oz(a:ax)(p q:aG):List aI:=(a.nodes.filter (ajR p q)).map (λid=>⟨1,id,-1⟩)++(List.range a.nodes.length).flatMap (adK a p q)++(p.values.filter (auI q)).map λv=>⟨3,v.id,v.attr⟩
section
variable{t:Types}{a:ax}{p q:aG}
theorem ahf(ha:dX t a)(hb:sV a.host)(hp:jf p)(hq:jf q):eG a p q=some (oz a p q):=by
  have hn:=ha.n40;have hvl:a.host.values.length=a.nodes.length:=by rw[ha.host.adF,ha.rP]
  unfold eG oz;rw[bw (bu (by omega))];rw[jH a.nodes (λid=>if ajR p q id=true then [(⟨1,id,-1⟩:aI)] else []) 1 (λv _=>by split<;>simp) ?_,jV];rotate_left
  · intro i hi s hs cz;simp only[List.length_nil] at hs;simp only[bS hi,uT hp.rn,azb hq.ae,uT hq.rn,azb hp.ae,mu,bw (show s.length+1<=68719476736 by omega)];unfold ajR;cases dL p a.nodes[i]<;>cases yp q a.nodes[i]<;>cases dL q a.nodes[i]<;>cases yp p a.nodes[i]<;>simp
  have aER:((a.nodes.filter (ajR p q)).map λid=>(⟨1,id,-1⟩:aI)).length<=40:=by rw[List.length_map];exact Nat.le_trans (List.length_filter_le _ _) hn
  rw[List.nil_append,bw (bu (by omega))];generalize (a.nodes.filter (ajR p q)).map (λid=>(⟨1,id,-1⟩:aI))=u at aER ⊢;have hI:∀i∈List.range a.nodes.length,(adK a p q i).length<=1000:=λi hi=>by have hi:=List.mem_range.1 hi;unfold adK;rw[List.length_map];refine Nat.le_trans (List.length_filter_le _ _) ?_;rw[List.length_range];refine hb.row _ ?_;simp[show i<a.host.values.length by omega]
  rw[jQ a.nodes.length (adK a p q) 1000 (λi hi=>hI i (List.mem_range.2 hi)) ?_]
  · rw[bw (bu (by have:=hp.va;omega))];have aES:(u++(List.range a.nodes.length).flatMap (adK a p q)).length<=1000000:=by have:=acR (adK a p q) (List.range a.nodes.length) u 1000 hI;rw[ue,List.length_range] at this;omega
    generalize u++(List.range a.nodes.length).flatMap (adK a p q)=w at aES ⊢;rw[jH p.values (λv=>if auI q v=true then [(⟨3,v.id,v.attr⟩:aI)] else []) 1 (λv _=>by split<;>simp) ?_,jV];intro i hi s hs cz;have:=hp.va;rw[bS hi,aT (show b9 ⟨q.az,q.aF,q.aR,q.aP,q.values,q.next⟩ _ _=_ from aeK hq.va _ _),bw (by omega)];unfold auI;cases pZ q p.values[i].id p.values[i].attr with
    |none=>simp
    |some w=>simp only[cond_true];by_cases hw:w.new=p.values[i].new<;>simp[hw]
  · intro i hi s hs cz;have hi':i<a.nodes.length:=hi;have hv:i<a.host.values.length:=by omega
    have hgn:a.nodes.getD i default=a.nodes[i]:=by simp[hi']
    have hgv:a.host.values.getD i default=a.host.values[i]:=by simp[hv]
    have hrow:=hb.row _ (nR hv);have hsl:s.length<=100000:=by have:1000 * i<=1000 * 40:=Nat.mul_le_mul_left _ (by omega);omega
    rw[bS hi'];unfold adK;rw[hgn,hgv];generalize a.nodes[i]=id at *;generalize hvv:a.host.values[i]=vals at *;have inner:∀ (m k n:Nat) (z:List aI),k+m=vals.length->m+1<=n->z.length<=100000+k->iter (λ(mC:Int×(List aI)) uU aze =>
   thn (a.host.values[i]?) λaET =>
   cond (decide (mC.1<((aET.length:Nat):Int))) (
    thn (b9 (⟨p.az,p.aF,p.aR,p.aP,p.values,p.next⟩:aG) id mC.1) λaB0 =>
    thn (b9 (⟨q.az,q.aF,q.aR,q.aP,q.values,q.next⟩:aG) id mC.1) λaEU =>
    thn (bG (⟨p.az,p.aF,p.aR,p.aP,p.values,p.next⟩:aG) id) λaEV =>
    cond aEV (
     cond aEU.2 (
      cC (mC.2.length+1<=68719476736) <|
      uU ((i64.wrap (mC.1+1)),(mC.2++[(⟨2,id,mC.1⟩:aI)]))) <|
     thn (bG (⟨q.az,q.aF,q.aR,q.aP,q.values,q.next⟩:aG) id) λaEW =>
     cond aEW (
      cond aB0.2 (
       cC (mC.2.length+1<=68719476736) <|
       uU ((i64.wrap (mC.1+1)),(mC.2++[(⟨2,id,mC.1⟩:aI)]))) <|
      uU ((i64.wrap (mC.1+1)),mC.2)) <|
     uU ((i64.wrap (mC.1+1)),mC.2)) <|
    thn (bG (⟨q.az,q.aF,q.aR,q.aP,q.values,q.next⟩:aG) id) λaEX =>
    cond aEX (
     cond aB0.2 (
      cC (mC.2.length+1<=68719476736) <|
      uU ((i64.wrap (mC.1+1)),(mC.2++[(⟨2,id,mC.1⟩:aI)]))) <|
     uU ((i64.wrap (mC.1+1)),mC.2)) <|
    uU ((i64.wrap (mC.1+1)),mC.2)) <|
   aze (mC.1, mC.2)) n ((k : Int), z) (fun mC => cz mC.2) = cz (z ++ ((List.range' k m).filter fun k : Nat => apV p q id (k : Int)).map fun k : Nat => ⟨2, id, (k : Int)⟩) := by
      intro m
      induction m with
      |zero=>intro k n z hk hn hz;obtain⟨n,rfl⟩:∃n',n=n'+1:=⟨n-1,by omega⟩;rw[iter,bS hv,hvv,eT (by simp only;omega),cond_false];simp
      |succ m ih=>intro k n z hk hn hz;obtain⟨n,rfl⟩:∃n',n=n'+1:=⟨n-1,by omega⟩;rw[iter,bS hv,hvv,dB (by simp only;omega),cond_true];rw[aT (show b9 ⟨p.az,p.aF,p.aR,p.aP,p.values,p.next⟩ _ _=_ from aeK hp.va _ _),aT (show b9 ⟨q.az,q.aF,q.aR,q.aP,q.values,q.next⟩ _ _=_ from aeK hq.va _ _)];have r1:bG ⟨p.az,p.aF,p.aR,p.aP,p.values,p.next⟩ id=_:=uT hp.rn id;have r2:bG ⟨q.az,q.aF,q.aR,q.aP,q.values,q.next⟩ id=_:=uT hq.rn id;rw[aT r1,aT r2];dsimp only;rw[bw (show z.length+1<=68719476736 by omega),dJ (n:=((k:Nat):Int)+1) (by omega),show ((k:Nat):Int)+1=((k+1:Nat):Int) from rfl];rw[ih (k+1) n _ (by omega) (by omega) (by rw[List.length_append,List.length_singleton];omega),ih (k+1) n z (by omega) (by omega) (by omega)];rw[List.range'_succ,List.filter_cons];unfold apV;cases dL p id<;>cases dL q id<;>cases pZ p id (k:Int)<;>cases pZ q id (k:Int)<;>simp
    have:=inner vals.length 0 fuel s (by omega) (by unfold fuel;omega) (by omega);rw[List.range_eq_range'];exact this
theorem wU{n:ah}(h:n∈bC a):∃i,i<a.nodes.length/\n=bn a i:=by obtain⟨i,hi,rfl⟩:=List.mem_map.1 h;exact⟨i,by simpa using hi,rfl⟩
theorem aaB(hp:cL t a p)(hq:cL t a q):amC p q=oz a p q:=by
 have ha:=hp.tk;unfold amC oz;have e1:iT (xS p q++xS q p)=(a.nodes.filter (ajR p q)).map λid=>⟨1,id,-1⟩:=by
  refine xR (K:=1) (λx hx=>?_) ?_ λx=>?_
  ·rcases List.mem_append.1 hx with h|h<;>(obtain⟨id,_,_,rfl⟩:=sL.1 h;rfl)
  ·rw[List.pairwise_map];exact (ha.nid.2.sub List.filter_sublist).imp λh=>.inl h
  ·rw[List.mem_append,sL,sL,List.mem_map];constructor
   ·rintro (⟨id,h1,h2,rfl⟩|⟨id,h1,h2,rfl⟩)
    ·exact⟨id,List.mem_filter.2 ⟨hp.rid h1,by unfold ajR;rw[h1,h2];rfl⟩,rfl⟩
    ·exact⟨id,List.mem_filter.2 ⟨hq.rid h1,by unfold ajR;rw[h1,h2];simp⟩,rfl⟩
   ·rintro⟨id,h,rfl⟩;have h:=(List.mem_filter.1 h).2;unfold ajR at h;rw[Bool.or_eq_true,Bool.and_eq_true,Bool.and_eq_true] at h;rcases h with h|h
    ·exact .inl ⟨id,h.1,h.2,rfl⟩
    ·exact .inr ⟨id,h.1,h.2,rfl⟩
 have e2:iT (xT p q++xT q p)=(List.range a.nodes.length).flatMap (adK a p q):=by
  have mem:∀x,x∈(List.range a.nodes.length).flatMap (adK a p q)↔∃i,i<a.nodes.length/\∃k:Nat,k<(a.host.values.getD i default).length/\apV p q (a.nodes.getD i default) (k:Int)=true/\x=⟨2,a.nodes.getD i default,(k:Int)⟩:=λx=>by
   unfold adK;simp only[List.mem_flatMap,List.mem_range,List.mem_map,List.mem_filter];constructor
   ·rintro⟨i,hi,k,⟨h1,h2⟩,rfl⟩;exact⟨i,hi,k,h1,h2,rfl⟩
   ·rintro⟨i,hi,k,h1,h2,rfl⟩;exact⟨i,hi,k,⟨h1,h2⟩,rfl⟩
  have into:∀ {x y:aG},cL t a y->∀v∈y.values,∃i,i<a.nodes.length/\∃k:Nat,k<(a.host.values.getD i default).length/\v.id=a.nodes.getD i default/\v.attr=(k:Int):=λ{x y} hy v hv=>by obtain⟨n,hn,h1,h2,h3,_⟩:=hy.value hv;obtain⟨i,hi,rfl⟩:=wU hn;exact⟨i,hi,v.attr.toNat,by simp only[bn] at h3;omega,h1.symm,by omega⟩
  refine xR (K:=2) (λx hx=>?_) ?_ λx=>?_
  ·rcases List.mem_append.1 hx with h|h<;>(obtain⟨id,_,_,rfl⟩:=sM.1 h;rfl)
  ·rw[List.pairwise_flatMap];constructor
   ·intro i _;unfold adK;rw[List.pairwise_map];exact (List.Pairwise.sublist List.filter_sublist List.pairwise_lt_range).imp λh=>.inr ⟨rfl,by simp only;omega⟩
   ·refine List.Pairwise.imp_of_mem ?_ (List.pairwise_lt_range (n:=a.nodes.length));intro i j hi hj hij x hx y hy;have hi:=List.mem_range.1 hi;have hj:=List.mem_range.1 hj;unfold adK at hx hy;obtain⟨k,_,rfl⟩:=List.mem_map.1 hx;obtain⟨m,_,rfl⟩:=List.mem_map.1 hy;left;have:=ha.nid.2.aa4 hij hj;simpa[hi,hj] using this
  ·rw[mem,List.mem_append,sM,sM];constructor
   ·rintro (⟨v,hv,h1,rfl⟩|⟨v,hv,h1,rfl⟩)
    ·obtain⟨i,hi,k,hk,e1,e2⟩:=into (x:=p) hq v hv;refine⟨i,hi,k,hk,?_,by rw[e1,e2]⟩;unfold apV;rw[<-e1,h1,nM.2 ⟨v,hv,rfl,e2⟩];rfl
    ·obtain⟨i,hi,k,hk,e1,e2⟩:=into (x:=q) hp v hv;refine⟨i,hi,k,hk,?_,by rw[e1,e2]⟩;unfold apV;rw[<-e1,h1,nM (p:=p) |>.2 ⟨v,hv,rfl,e2⟩];simp
   ·rintro⟨i,hi,k,hk,h,rfl⟩;unfold apV at h;rw[Bool.or_eq_true,Bool.and_eq_true,Bool.and_eq_true] at h;rcases h with h|h
    ·obtain⟨v,hv,e1,e2⟩:=nM.1 h.2;exact .inl ⟨v,hv,by rw[e1];exact h.1,by rw[e1,e2]⟩
    ·obtain⟨v,hv,e1,e2⟩:=nM.1 h.2;exact .inr ⟨v,hv,by rw[e1];exact h.1,by rw[e1,e2]⟩
 have e3:iT (ahe p q)=(p.values.filter (auI q)).map λv=>⟨3,v.id,v.attr⟩:=by
  refine xR (K:=3) (λx hx=>?_) ?_ λx=>?_
  ·obtain⟨v,_,_,_,_,_,_,rfl⟩:=zS.1 hx;rfl
  ·rw[List.pairwise_map];exact (List.Pairwise.sublist List.filter_sublist hp.ord.va).imp λh=>h
  ·rw[zS,List.mem_map];constructor
   ·rintro⟨v,hv,w,hw,h1,h2,h3,rfl⟩;refine⟨v,List.mem_filter.2 ⟨hv,?_⟩,rfl⟩;unfold auI;rw[h1,h2,auF hq.ord.va hw];simp only[Bool.not_eq_true',decide_eq_false_iff_not];exact λe=>h3 e.symm
   ·rintro⟨v,hv,rfl⟩;obtain⟨hv,h⟩:=List.mem_filter.1 hv;unfold auI at h;split at h
    ·rename_i w hw;obtain⟨h1,h2,h3⟩:=aeh hw;refine⟨v,hv,w,h1,h2.symm,h3.symm,λe=>?_,rfl⟩;rw[e] at h;simp at h
    ·cases h
 rw[e1,e2,e3]
end
section
variable{t:Types}{a:ax}{p q:aG}
theorem iN{ids:List Int}{n:Int} : 0<=bF ids n↔n∈ids:=by
 unfold bF;have:=xK (q:=λy=>decide (y=n)) (l:=ids);constructor
 ·intro h;rw[dB h] at this;obtain⟨y,hy,e⟩:=List.any_eq_true.1 this.symm;rw[<-cm e];exact hy
 ·intro h;rw[List.any_eq_true.2 ⟨n,h,dB rfl⟩] at this;exact cm this
theorem cL.ends(h:cL t a p){e:au}(he:e∈oL a p++p.aP):e.src∈(j7 (lK a p++p.aR)).map ah.id/\e.dst∈(j7 (lK a p++p.aR)).map ah.id:=by have:=List.all_eq_true.1 (af8 (N:=j7 (lK a p++p.aR)) (E:=mc (oL a p++p.aP)) (next:=p.next.x1) h.ok) e (rO.2 he);unfold zz at this;rw[Bool.and_eq_true] at this;exact⟨iN.1 (cm this.1),iN.1 (cm this.2)⟩
theorem cL.aIv(h:cL t a p){e:au}(he:e∈oL a p++p.aP):(0<=e.src/\e.src<p.next.x1)/\0<=e.dst/\e.dst<p.next.x1:=by obtain⟨h1,h2⟩:=h.ends he;exact⟨h.ok.nid.1 _ h1,h.ok.nid.1 _ h2⟩
end
def iq(x0 d id:Int):Int:=if x0<=id then id+d else id
def o6(x0 d:Int)(n:ah):ah:=⟨iq x0 d n.id,n.type,n.values⟩
def oA(x0 d:Int)(e:au):au:=⟨iq x0 d e.id,e.type,iq x0 d e.src,iq x0 d e.dst⟩
def jW(p q:aG):aG:=⟨q.az,q.aF,q.aR.map (o6 q.next.x0 (p.next.x1-p.next.x0)),q.aP.map (oA q.next.x0 (p.next.x1-p.next.x0)),q.values,⟨p.next.x1,p.next.x1+q.next.x1-q.next.x0⟩⟩
structure aBr(p q:aG):Prop where
 x0:0<=p.next.x0/\p.next.x0<=1000000
 x1:0<=p.next.x1/\p.next.x1<=1000000
 y0:0<=q.next.x0/\q.next.x0<=1000000
 y1:0<=q.next.x1/\q.next.x1<=1000000
 n:∀n∈q.aR,0<=n.id/\n.id<=1000000
 e:∀e∈q.aP,(0<=e.id/\e.id<=1000000)/\(0<=e.src/\e.src<=1000000)/\0<=e.dst/\e.dst<=1000000
theorem vj.aBs{t:Types}{a:ax}{p q:aG}(h:vj t a p q):aBr p q :=
 ⟨h.ap.n0,h.ap.n1,h.aq.n0,h.aq.n1,λn hn=>by have:=h.aq.ids.1 n hn;have:=h.aq.n1;omega,λe he=>by
  have h1:=h.aq.ids.2 e he;have h2:=h.aq.aIv (List.mem_append_right _ he);have h3:=h.aq.n1;omega⟩
theorem agd{x0 d id:Int}(h1 : -1000000<=d/\d<=1000000)(h2:0<=id/\id<=1000000):(if x0<=id then some (i64.wrap (id+d)) else some id)=some (iq x0 d id):=by
 unfold iq;split
 ·rw[dJ (by omega)]
 ·rfl
theorem aa6{l:List ah}(h:l.length<=1000000)(hv:Rows l):ek l=some l:=by
 unfold ek;rw[bw (bu (by omega))];rw[jH l (λn=>[n]) 1 (λn _=>by simp) λi hi s hs cz=>?_]
 ·simp
 ·have:=hv _ (nR hi);simp only[List.length_nil] at hs;rw[bS hi,bw (by omega),bw (by omega)]
theorem wh{p:aG}(hp:jf p):dF p=some p:=by have h1:=hp.re;have h2:=hp.ae;have h3:=hp.va;unfold dF;rw[aT (aa6 hp.rn hp.rv),bw (by omega),aT (aa6 hp.an hp.av),bw (by omega),bw (by omega)]
theorem age{α O:Type}(g:α->α){F:Int×List α->(Int×List α->Option O)->(Int×List α->Option O)->Option O}{K:Int×List α->Option O}(l:List α)(hl:l.length<=1000000)
  (h:∀ (i:Nat) (s:List α) (hi:i<s.length) (hi2:i<l.length),s.length=l.length->s[i]=l[i]->∀cz,F ((i:Int),s) cz K=cz (((i+1:Nat):Int),s.set i (g l[i])))
  (he:∀ (s:List α),s.length=l.length->∀cz,F (((l.length:Nat):Int),s) cz K=K (((l.length:Nat):Int),s)):iter F fuel (0,l) K=K (((l.length:Nat):Int),l.map g):=by
 have key:∀ (m i n:Nat),i+m=l.length->m+1<=n->iter F n ((i:Int),(l.take i).map g++l.drop i) K=K (((l.length:Nat):Int),l.map g):=by
  intro m
  induction m with
  |zero =>
   intro i n hi hn;obtain⟨n,rfl⟩:∃k,n=k+1:=⟨n-1,by omega⟩;have:i=l.length:=by omega
   subst this;rw[iter,List.take_length,List.drop_length,List.append_nil,he _ (by simp)]
  |succ m ih =>
   intro i n hi hn;obtain⟨n,rfl⟩:∃k,n=k+1:=⟨n-1,by omega⟩;have hlt:i<l.length:=by omega
   have hs:((l.take i).map g++l.drop i).length=l.length:=by simp;omega
   have hg:((l.take i).map g++l.drop i)[i]'(by omega)=l[i]:=by rw[List.getElem_append_right (by simp;omega)];simp[Nat.min_eq_left (Nat.le_of_lt hlt)]
   rw[iter,h i _ (by omega) hlt hs hg,<-ih (i+1) n (by omega) (by omega)];congr 2;rw[List.set_append_right _ _ (by simp;omega),List.take_add_one,List.getElem?_eq_getElem hlt,Option.toList_some,List.map_append];simp[Nat.min_eq_left (Nat.le_of_lt hlt)];rw[List.drop_eq_getElem_cons hlt];rfl
 have:=key l.length 0 fuel (by omega) (by unfold fuel;omega);simpa using this
theorem ajS{α:Type}{l:List α}{i:Nat}(hi:i<l.length):l[((i:Nat):Int).toNat]'(by simpa using hi)=l[i]:=rfl
theorem vF{α β:Type}(f:α->β)(l:List α):(l.flatMap λa=>[f a])=l.map f:=by
 induction l with
 |nil=>rfl
 |cons x l ih=>rw[List.flatMap_cons,ih];rfl
section
variable{p q:aG}
theorem aeL{x0 d id:Int}(h1 : -1000000<=d/\d<=1000000)(h2:0<=id/\id<=1000000):en id x0 d=some (iq x0 d id):=by unfold en;rw[aX,agd h1 h2]
theorem vG{d id:Int}(h1 : -1000000<=d/\d<=1000000)(h2:0<=id/\id<=1000000):gX id q d=some (iq q.next.x0 d id):=by unfold gX;rw[aX,agd h1 h2]
theorem aii(h:aBr p q):i64.wrap (p.next.x1-p.next.x0)=p.next.x1-p.next.x0/\i64.wrap (i64.wrap (p.next.x1+q.next.x1)-q.next.x0)=p.next.x1+q.next.x1-q.next.x0:=by have h1:=h.x0;have h2:=h.x1;have h3:=h.y0;have h4:=h.y1;exact⟨dJ (by omega),by rw[dJ (n:=p.next.x1+q.next.x1) (by omega),dJ (by omega)]⟩
theorem aij(h:aBr p q)(hq:jf q):eA p q=some (jW p q):=by
 obtain⟨w1,w2⟩:=aii h;have h1:=h.x0;have h2:=h.x1;have qn:=hq.an;have qe:=hq.ae;unfold eA jW;rw[aT (wh hq),w1,w2];rw[age (o6 q.next.x0 (p.next.x1-p.next.x0)) q.aR hq.an]
 ·rw[age (oA q.next.x0 (p.next.x1-p.next.x0)) q.aP hq.ae]
  ·intro i s hi hi2 hs hg cz;have hr:=h.e _ (nR hi2);dsimp only;rw[dB (by omega),cond_true,fS (by omega) (by simpa using hi),ajS hi,hg,aT (aeL (by omega) hr.1),aT (aeL (by omega) hr.2.1),aT (aeL (by omega) hr.2.2),dJ (by omega)];rfl
  ·intro s hs cz;dsimp only;rw[eT (by omega),cond_false]
 ·intro i s hi hi2 hs hg cz;have hr:=h.n _ (nR hi2);dsimp only;rw[dB (by omega),cond_true,fS (by omega) (by simpa using hi),ajS hi,hg,aT (aeL (by omega) hr),dJ (by omega)];rfl
 ·intro s hs cz;dsimp only;rw[eT (by omega),cond_false]
theorem yq(h:aBr p q)(hq:jf q):kQ p q=some (jW p q):=by
 obtain⟨w1,w2⟩:=aii h;have h1:=h.x0;have h2:=h.x1;have qn:=hq.an;have qe:=hq.ae;unfold kQ jW;rw[w1,w2,bw (bu (by omega))];rw[jH q.aR (λn=>[o6 q.next.x0 (p.next.x1-p.next.x0) n]) 1 (λn _=>by simp) λi hi s hs cz=>?_]
 ·rw[bw (bu (by omega))];rw[jH q.aP (λn=>[oA q.next.x0 (p.next.x1-p.next.x0) n]) 1 (λn _=>by simp) λi hi s hs cz=>?_]
  ·simp only[List.nil_append,vF]
  ·have hr:=h.e _ (nR hi);simp only[List.length_nil] at hs;rw[bS hi,aT (vG (by omega) hr.1),aT (vG (by omega) hr.2.1),aT (vG (by omega) hr.2.2),bw (by omega)];rfl
 ·have hr:=h.n _ (nR hi);simp only[List.length_nil] at hs;rw[bS hi,aT (vG (by omega) hr),bw (by omega)];rfl
theorem aeC(hp:jf p)(hq:jf q):sY p q=some (oq p q):=tw ⟨hp.rn,hp.re,hp.va,hq.rn,hq.re,hq.va⟩
theorem adL{α:Type}(b:α->Bool)(l:List α):(l.flatMap λa=>if b a=true then [] else [a])=l.filter λa=>!b a:=by
 induction l with
 |nil=>rfl
 |cons x l ih=>rw[List.flatMap_cons,ih,List.filter_cons];cases b x<;>simp
theorem aC2(hp:jf p)(hq:jf q):gJ p q=some (oq p q):=by
 have q1:=hq.rn;have q2:=hq.re;have q3:=hq.va;unfold gJ;rw[aT (wh hq),bw (bu (by omega))];rw[jH q.az (λn=>if dL p n.id=true then [] else [n]) 1 (λn _=>by split<;>simp) λi hi s hs cz=>?_,adL]
 ·rw[bw (bu (by omega))];rw[jH q.aF (λn=>if aqT p n.id=true then [] else [n]) 1 (λn _=>by split<;>simp) λi hi s hs cz=>?_,adL]
  ·rw[bw (bu (by omega))];rw[jH q.values (λv=>if (pZ p v.id v.attr).isSome=true then [] else [v]) 1 (λn _=>by split<;>simp) λi hi s hs cz=>?_,adL]
   ·unfold oq;simp only[List.nil_append,cv,aG.mk.injEq,true_and];refine⟨rfl,?_,?_⟩
    ·refine List.filter_congr λx _=>?_
     unfold aqT;congr 2;funext y;rw[decide_eq_decide];exact⟨λh=>h.symm,λh=>h.symm⟩
    ·refine⟨List.filter_congr λv _=>?_,trivial⟩;congr 1;rw[Bool.eq_iff_iff,nM,List.any_eq_true];simp only[Bool.and_eq_true,decide_eq_true_eq];exact⟨λ⟨w,h1,h2,h3⟩=>⟨w,h1,h2.symm,h3.symm⟩,λ⟨w,h1,h2,h3⟩=>⟨w,h1,h2.symm,h3.symm⟩⟩
   ·simp only[List.length_nil] at hs;rw[bS hi,aT (aeK hp.va _ _),bw (by omega)];cases pZ p q.values[i].id q.values[i].attr<;>simp
  ·simp only[List.length_nil] at hs;rw[bS hi,aT (aC0 hp.re _),bw (by omega)];cases aqT p q.aF[i].id<;>simp
 ·simp only[List.length_nil] at hs;rw[bS hi,aT (uT hp.rn _),bw (by omega)];cases dL p q.az[i].id<;>simp
theorem aeD(hq:jf q){x:ax}(hx:x.nodes.length<=1000000)(hv:x.host.values.length=x.nodes.length)(hs:∀n∈q.az,∀k,(hk:k<x.nodes.length)->x.nodes[k]=n.id->x.host.values[k]'(by omega)=n.values):dM q x=some q:=by
  have q1:=hq.rn;unfold dM;rw[aT (wh hq)];rw[age (λn=>n) q.az hq.rn]
  · simp
  · intro i s hi hi2 hs' hg cz;dsimp only;rw[dB (by omega),cond_true,bw (bu (by omega))];have aa7:s.set i q.az[i]=s:=by rw[<-hg];exact List.set_getElem_self hi
    have key:=(rN (O:=aG) (K:=λamL=>cz ((i64.wrap (((i:Nat):Int)+1)),amL)) (s:=s) (f:=λaB1 (amL:(List ah)) amM aEY =>
    thn (x.nodes[aB1]?) λaEZ =>
    thn (mJ amL ((i:Nat):Int)) λazf =>
    cond (decide (aEZ=azf.id)) (
     thn (x.host.values[aB1]?) λaB2 =>
     cC (aB2.length<=68719476736) <|
     amM (amL.set ((i:Nat):Int).toNat (⟨azf.id,azf.type,aB2⟩:ah))) <|
    amM amL) x.nodes (λs' _=>s') (λ_ s'=>s'=s) rfl λk hk s' e=>by
      subst e;refine⟨λcz=>?_,rfl⟩;rw[bS hk,fS (by omega) (by simpa using hi),ajS hi,hg,aX];split
      · rename_i he;have hval:=hs _ (nR hi2) k hk he;have hr:=hq.rv _ (nR hi2);rw[bS (show k<x.host.values.length by omega),hval,bw (by omega)];congr 1
      · rfl).1
    rw[key];have:x.nodes.foldl (λ(s':List ah) _=>s') s=s:=by
      induction x.nodes with
      |nil=>rfl
      |cons a l ih=>rw[List.foldl_cons];exact ih
    rw[this,aa7,dJ (by omega)];rfl
  · intro s hs' cz;dsimp only;rw[eT (by omega),cond_false]
end
def adM(g:eU)(k i:Int)(out:Bool):Int:=(((g.ak.filter λe=>decide (e.type=k)&&(if out=true then decide (e.src=i) else decide (e.dst=i))).length:Nat):Int)
def azg(t:Types)(g:eU)(k:Int)(out:Bool)(kind low high:Int)(i:Nat):Bool:=isB t (g.nodes.getD i default) kind&&(decide (adM g k (i:Int) out<low)||(decide (0<=high)&&decide (high<adM g k (i:Int) out)))
def qG(t:Types)(g:eU)(k:Int)(out:Bool)(kind low high:Int):List cF:=((List.range g.nodes.length).filter (azg t g k out kind low high)).map λi:Nat=>⟨k,(i:Int),adM g k (i:Int) out,out⟩
def aeE(t:Types)(g:eU)(k:Nat):List cF:=qG t g (k:Int) true (t.ak.getD k default).src (t.ak.getD k default).nN (t.ak.getD k default).jZ++qG t g (k:Int) false (t.ak.getD k default).dst (t.ak.getD k default).tj (t.ak.getD k default).og
def agf(t:Types)(h:Host):List cF:=(List.range t.ak.length).flatMap (aeE t h.graph)
theorem amN{O:Type}{f:Nat->Int->(Int->Option O)->(Int->Option O)->Option O}{K:Int->Option O}(l:List Edge)(hl:l.length<=1000000)(b:Edge->Bool)
  (h:∀i (hi:i<l.length) (s:Int) cz,f i s cz K=cz (if b l[i]=true then i64.wrap (s+1) else s)):bZ f (l.length-0) 0 0 K=K (((l.filter b).length:Nat):Int):=by
 have key:∀ (m i:Nat) (s:Nat),i+m=l.length->s<=i->bZ f m i (s:Int) K=K (((s+((l.drop i).filter b).length:Nat)):Int):=by
  intro m
  induction m with
  |zero=>intro i s hi hs;rw[List.drop_eq_nil_of_le (by omega)];rfl
  |succ m ih =>
   intro i s hi hs;have hlt:i<l.length:=by omega
   rw[bZ,h i hlt,List.drop_eq_getElem_cons hlt,List.filter_cons];split
   ·rw[dJ (by omega),show ((s:Nat):Int)+1=((s+1:Nat):Int) from rfl,ih (i+1) (s+1) (by omega) (by omega)];rw[List.length_cons,Nat.add_assoc,Nat.add_comm 1]
   ·exact ih (i+1) s (by omega) (by omega)
 have:=key (l.length-0) 0 0 (by omega) (Nat.le_refl _);simpa using this
section
variable{t:Types}{h:Host}
theorem o5.okT(hf:fC t)(hh:o5 t h):OkT t:=rY hf hh.types
theorem o5.aB3(hh:o5 t h){i:Nat}(hi:i<h.graph.nodes.length):0<=h.graph.nodes[i]/\h.graph.nodes[i]<t.nodes.length:=by
 have h1:=(hh.graph.kind i hi).1;have h2:=hh.node i hi;have hg:h.graph.nodes.getD i default=h.graph.nodes[i]:=by simp[hi]
 rw[hg] at h1 h2;unfold mI at h2;split at h2
 ·cases h2
 ·omega
theorem azh(hf:fC t)(ho:OkT t){k:Nat}(hk:k<t.ak.length):(0<=t.ak[k].src/\t.ak[k].src<t.nodes.length)/\0<=t.ak[k].dst/\t.ak[k].dst<t.nodes.length:=by
 have:=ho.ends hk;have hg:t.ak.getD k default=t.ak[k]:=by simp[hk]
 rw[hg] at this;unfold inB at this;simp only[Bool.and_eq_true,decide_eq_true_eq] at this;exact this
theorem aIw(hf:fC t)(hv:(gC t).2=0){a b:Int}(ha:0<=a/\a<t.nodes.length)(hb:0<=b/\b<t.nodes.length):uK t a b=some (isB t a b):=by
 unfold uK;have hg:qu t [a,b]=0:=by unfold qu;rw[if_neg (λh=>h hv),if_neg];simp only[List.any_cons,List.any_nil,Bool.or_false];unfold inB;rw[dB ha.1,dB ha.2,dB hb.1,dB hb.2];simp
 rw[aT (show vS t [a,b]=_ from tw ⟨hf,by simp⟩),hg,dB rfl,cond_true,aT (show abD t a b=_ from tw ⟨rY hf hv,ha⟩)]
theorem azi(hf:fC t)(hv:(gC t).2=0){a b:Int}(ha:0<=a/\a<t.nodes.length)(hb:0<=b):ia t a b=some (isB t a b):=tw ⟨hf,rY hf hv,ha.1,ha.2,hb⟩
theorem aBt(g:eU)(hg:g.ak.length<=1000000)(k i:Int)(out:Bool):fk g k i out=some (adM g k i out):=by
 unfold fk adM;rw[bw (bu (by omega)),amN g.ak hg (λe=>decide (e.type=k)&&(if out=true then decide (e.src=i) else decide (e.dst=i))) λj hj s cz=>?_];rw[bS hj];by_cases h1:g.ak[j].type=k
 ·rw[dB h1,cond_true,Bool.true_and];cases out with
  |true=>rw[cond_true,if_pos rfl];by_cases h2:g.ak[j].src=i<;>simp[h2]
  |false=>rw[cond_false];by_cases h2:g.ak[j].dst=i<;>simp[h2]
 ·rw[eT h1,cond_false,Bool.false_and,if_neg (by simp)]
theorem k9(g:eU)(k:Int)(out:Bool)(kind low high:Int):(qG t g k out kind low high).length<=g.nodes.length:=by unfold qG;rw[List.length_map];refine Nat.le_trans (List.length_filter_le _ _) ?_;rw[List.length_range];exact Nat.le_refl _
theorem yt(hf:fC t)(hh:o5 t h)(k:Int)(out:Bool){kind low high:Int}(hk:0<=kind/\kind<t.nodes.length):kR t h k out kind low high=some (qG t h.graph k out kind low high):=by
 have hn:=hh.graph.nodes;have he:=hh.graph.ak;unfold kR qG;rw[bw (bu (by omega))];rw[jQ h.graph.nodes.length (λi=>if azg t h.graph k out kind low high i=true then [(⟨k,(i:Int),adM h.graph k (i:Int) out,out⟩:cF)] else []) 1 (λi _=>by split<;>simp) λi hi s hs cz=>?_,jV]
 ·rfl
 ·simp only[List.length_nil] at hs;have hg:h.graph.nodes.getD i default=h.graph.nodes[i]:=by simp[hi]
  rw[bS hi,aT (aIw hf hh.types (hh.aB3 hi) hk)];unfold azg;rw[hg];cases isB t h.graph.nodes[i] kind with
  |false=>simp
  |true =>
   rw[cond_true,bw (bu (by omega)),amN h.graph.ak (by omega) (λe=>decide (e.type=k)&&(if out=true then decide (e.src=(i:Int)) else decide (e.dst=(i:Int)))) λj hj s cz=>?_]
   ·rw[bw (by omega)];show cond (decide (adM h.graph k (i:Int) out<low)) _ (cond (decide (0<=high)) (cond (decide (high<adM h.graph k (i:Int) out)) _ _) _)=_;cases decide (adM h.graph k (i:Int) out<low)<;>cases decide (0<=high)<;>cases decide (high<adM h.graph k (i:Int) out)<;>simp<;>rfl
   ·rw[bS hj];by_cases h1:h.graph.ak[j].type=k
    ·rw[dB h1,cond_true,Bool.true_and];cases out with
     |true=>rw[cond_true,if_pos rfl];by_cases h2:h.graph.ak[j].src=(i:Int)<;>simp[h2]
     |false=>rw[cond_false];by_cases h2:h.graph.ak[j].dst=(i:Int)<;>simp[h2]
    ·rw[eT h1,cond_false,Bool.false_and,if_neg (by simp)]
theorem apW(hf:fC t)(hh:o5 t h)(hb:sV h):nv t h=some (agf t h,0):=by
 have hn:=hh.graph.nodes;have hE:=hf.ak;unfold nv agf;rw[aT (show qA t h=some 0 by unfold qA;rw[aT (acK hf hb),qd.2 hh]),dB rfl,cond_true,bw (bu (by omega))];have hlen:∀k,(aeE t h.graph k).length<=80:=λk=>by unfold aeE;rw[List.length_append];have h1:=k9 (t:=t) h.graph (k:Int) true (t.ak.getD k default).src (t.ak.getD k default).nN (t.ak.getD k default).jZ;have h2:=k9 (t:=t) h.graph (k:Int) false (t.ak.getD k default).dst (t.ak.getD k default).tj (t.ak.getD k default).og;omega
 rw[jQ t.ak.length (aeE t h.graph) 80 (λk _=>hlen k) λi hi s hs cz=>?_]
 ·rfl
 ·simp only[List.length_nil] at hs;have hg:t.ak.getD i default=t.ak[i]:=by simp[hi]
  obtain⟨r1,r2⟩:=azh hf (hh.okT hf) hi;rw[bS hi,aT (yt hf hh _ _ r1)];have h1:=k9 (t:=t) h.graph (i:Int) true t.ak[i].src t.ak[i].nN t.ak[i].jZ;have h2:=k9 (t:=t) h.graph (i:Int) false t.ak[i].dst t.ak[i].tj t.ak[i].og;have:80 * i<=80 * t.ak.length:=Nat.mul_le_mul_left _ (by omega);rw[bw (by omega),aT (yt hf hh _ _ r2),bw (by omega)];unfold aeE;rw[hg,List.append_assoc]
theorem amO(hf:fC t)(hh:o5 t h)(hb:sV h):gx t h=some (agf t h,0):=by
  have hn:=hh.graph.nodes;have he:=hh.graph.ak;have hE:=hf.ak;unfold gx agf;rw[aT (v8 hf hb),qd.2 hh,dB rfl,cond_true,bw (bu (by omega))];have hlen:∀k,(aeE t h.graph k).length<=80:=λk=>by unfold aeE;rw[List.length_append];have h1:=k9 (t:=t) h.graph (k:Int) true (t.ak.getD k default).src (t.ak.getD k default).nN (t.ak.getD k default).jZ;have h2:=k9 (t:=t) h.graph (k:Int) false (t.ak.getD k default).dst (t.ak.getD k default).tj (t.ak.getD k default).og;omega
  rw[jQ t.ak.length (aeE t h.graph) 80 (λk _=>hlen k) λi hi s hs cz=>?_]
  · rfl
  · simp only[List.length_nil] at hs;have hg:t.ak.getD i default=t.ak[i]:=by simp[hi]
    obtain⟨r1,r2⟩:=azh hf (hh.okT hf) hi;have hb1:80 * i<=80 * t.ak.length:=Nat.mul_le_mul_left _ (by omega);have hs':s.length<=1000000:=by omega
    have key : ∀ (out : Bool) (kind low high : Int) (s : List cF) (cz : List cF → Option (List cF × Int)), s.length ≤ 2000000 → (0 ≤ kind ∧ kind < t.nodes.length) →
        (cC (h.graph.nodes.length<=fuel) <|
     bZ (λaqU (acS:(List cF)) zY aE0 =>
      thn (h.graph.nodes[aqU]?) λaE1 =>
      thn (ia t aE1 kind) λaE2 =>
      cond aE2 (
       thn (fk h.graph ((i:Nat):Int) ((aqU:Nat):Int) out) λaqV =>
       cond (decide (aqV<low)) (
        cC (acS.length+1<=68719476736) <|
        zY (acS++[(⟨((i:Nat):Int),((aqU:Nat):Int),aqV,out⟩:cF)])) <|
       cond (decide (0<=high)) (
        cond (decide (high<aqV)) (
         cC (acS.length+1<=68719476736) <|
         zY (acS++[(⟨((i:Nat):Int),((aqU:Nat):Int),aqV,out⟩:cF)])) <|
        zY acS) <|
       zY acS) <|
      zY acS)
     (h.graph.nodes.length-0) 0 s λacS =>
     cz acS)=cz (s++qG t h.graph (i:Int) out kind low high):=by
      intro out kind low high s cz hs hk;rw[bw (bu (by omega))];rw[jQ h.graph.nodes.length (λj=>if azg t h.graph (i:Int) out kind low high j=true then [(⟨(i:Int),(j:Int),adM h.graph (i:Int) (j:Int) out,out⟩:cF)] else []) 1 (λi _=>by split<;>simp) λj hj s2 hs2 cz=>?_,jV]
      · rfl
      · have hgj:h.graph.nodes.getD j default=h.graph.nodes[j]:=by simp[hj]
        rw[bS hj,aT (azi hf hh.types (hh.aB3 hj) hk.1),aT (aBt h.graph (by omega) _ _ _),bw (by omega)];unfold azg;rw[hgj];cases isB t h.graph.nodes[j] kind with
        |false=>simp
        |true=>simp only[cond_true,Bool.true_and];all_goals(cases decide (adM h.graph (i:Int) (j:Int) out<low)<;>cases decide (0<=high)<;>cases decide (high<adM h.graph (i:Int) (j:Int) out)<;>simp<;>rfl)
    have h1:=k9 (t:=t) h.graph (i:Int) true t.ak[i].src t.ak[i].nN t.ak[i].jZ;rw[bS hi,bw (bu (by omega))];rw[agc (r1:=s++qG t h.graph (i:Int) true t.ak[i].src t.ak[i].nN t.ak[i].jZ) (r2:=s++qG t h.graph (i:Int) true t.ak[i].src t.ak[i].nN t.ak[i].jZ++qG t h.graph (i:Int) false t.ak[i].dst t.ak[i].tj t.ak[i].og) (λcz=>key true _ _ _ s cz (by omega) r1) (λcz=>key false _ _ _ _ cz (by rw[List.length_append];omega) r2)];unfold aeE;rw[hg,List.append_assoc]
end
end Go.Proofs.YtjhkgjlmiolfoaaGreat
