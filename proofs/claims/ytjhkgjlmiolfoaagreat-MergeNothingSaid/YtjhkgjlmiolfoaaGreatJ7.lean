/- Joined texts, part 7: lemmas for the statement. No condition. -/
import Derived.Test.YtjhkgjlmiolfoaaGreatJ5
import Derived.Test.YtjhkgjlmiolfoaaGreatJ6
import Derived.Test.YtjhkgjlmiolfoaaGreatJ4
import Derived.Test.YtjhkgjlmiolfoaaGreatJ3
import Derived.Test.YtjhkgjlmiolfoaaGreatRows
set_option maxHeartbeats 4000000
set_option linter.unusedSimpArgs false
set_option linter.unusedVariables false
open Nat (reduceEqDiff reduceLT reduceLeDiff reduceMul reduceAdd reduceSub)
open Go.IntKind (i64)
open Go.Proofs.Tryz
open Go.Proofs.Tryz renaming prog → pw
set_option maxRecDepth 20000
namespace Go.Proofs.YtjhkgjlmiolfoaaGreat
open Go.cr
noncomputable section
theorem u6(a0:Types)(a1:ax)(a2:jF)(r:ax)(h:gO a0 a1 a2=some r):br pw 88 [.agg [.aV (a0.nodes.map aJ),.aV (a0.au.map aL)],.agg (aA a1),.agg (dP a2)] (λv=>v = .agg [.row 3 1 (r.host.graph.nodes.map encI),.row 175 3 (r.host.graph.au.map aZ),.row 32 1 (r.host.values.map bI),.row 3 1 (r.nodes.map encI),.row 3 1 (r.au.map encI),.p (.val (.int .i64 r.next))]):=by
 refine br.tF ?_;refine bB [115,188] func88 ?_;rw[ntmps88,results88];unfold gO at h;have F:=trivial;refine zD [.q,.q,.q,.q,.q,.q,.q,.q] ?_;refine zF (show (0:Int)<=1 by decide) F λF=>?_
 refine zF (show (1:Int)<((3:Nat):Int) by decide) F λF=>?_
 refine zF (show (0:Int)<=2 by decide) F λF=>?_
 refine zF (show (2:Int)<((3:Nat):Int) by decide) F λF=>?_
 refine zG 1352 F h (uW _) λr3 h=>?_
 refine zD [.q,.q,.q,.q,.q,.q,.q,.q] ?_;refine zF (show (0:Int)<=0 by decide) F λF=>?_
 refine zF (show (0:Int)<((3:Nat):Int) by decide) F λF=>?_
 refine zF (show ¬ ((5:Int)=0) by decide) F λF=>?_
 refine mH F h (λF h=>?_) λF h=>?_
 ·refine zB F h (λF h=>?_) λF h=>?_
  ·refine zD [.q,.q,.q,.q,.q,.q,.q,.q,.q] ?_;refine zC F h λF h=>?_
   refine zAq bI F h λe4 qe4 F h=>?_
   refine zB F h (λF h=>?_) λF h=>?_
   ·refine zD [.q,.q,.q,.q,.q,.q,.q,.q,.q,.q,.q,.q,.q,.q,.t] ?_;refine zC F h λF h=>?_
    refine zC F h λF h=>?_
    refine zA encI F h λe5 F h=>?_
    refine zF (wE encI e4 (((i64.wrap a2.x2).tmod ((e4.length:Nat):Int)).toNat) (i64.wrap (e5+1)) (c:=[.val (.int .i64 (i64.wrap (e5+1)))]) rfl) F λF=>?_
    refine zF (wE bI r3.host.values (((i64.wrap a2.x1).tmod ((a1.nodes.length:Nat):Int)).toNat) (e4.set (((i64.wrap a2.x2).tmod ((e4.length:Nat):Int)).toNat) (i64.wrap (e5+1))) (c:=[.aV ((e4.set (((i64.wrap a2.x2).tmod ((e4.length:Nat):Int)).toNat) (i64.wrap (e5+1))).map encI)]) rfl) F λF=>?_
    refine zV ?_;refine afs 3 _ _ 1354 0 (((i64.wrap a2.x1).tmod ((a1.nodes.length:Nat):Int)).toNat) (((i64.wrap a2.x2).tmod ((e4.length:Nat):Int)).toNat) 32 1 0 3 (r3.host.values.map bI) (bI e4) (e4.map encI) (.val (.int .i64 (i64.wrap (e5+1)))) rfl (by simp -implicitDefEqProofs only[go_sem,F]<;>rfl) (by simp -implicitDefEqProofs only[go_sem,F]) (by simp -implicitDefEqProofs only[go_sem,F]) ⟨rfl,rfl⟩ (by simp -implicitDefEqProofs only[go_sem,F]<;>rfl) (by rw[List.getElem?_map,aEw qe4];rfl) rfl (by rw[List.length_map];omega) ?_;refine zV ?_;refine jL _ _ (j8 1354 0 32 1 0 3 1 ((r3.host.values.set (((i64.wrap a2.x1).tmod ((a1.nodes.length:Nat):Int)).toNat) (e4.set (((i64.wrap a2.x2).tmod ((e4.length:Nat):Int)).toNat) (i64.wrap (e5+1)))).map bI) (by decide) (by simp -implicitDefEqProofs only[go_sem,F]<;>rfl)) (by simp -implicitDefEqProofs only[go_sem,F]<;>rfl) (by first|trivial|(simp -implicitDefEqProofs only[go_sem,F]<;>trivial)) ?_;exact iR h
   ·refine zV ?_;refine jL _ _ (j8 1354 0 32 1 0 3 1 (r3.host.values.map bI) (by decide) (by simp -implicitDefEqProofs only[go_sem,F]<;>rfl)) (by simp -implicitDefEqProofs only[go_sem,F]<;>rfl) (by first|trivial|(simp -implicitDefEqProofs only[go_sem,F]<;>trivial)) ?_;exact iR h
  ·refine zF (show decide (((i64.wrap a2.x0).tmod 5)=1)=false from eZ (by have w:=F;simp only[decide_eq_true_eq] at w;omega)) F λF=>?_
   refine zF (show decide (((i64.wrap a2.x0).tmod 5)=2)=false from eZ (by have w:=F;simp only[decide_eq_true_eq] at w;omega)) F λF=>?_
   refine zF (show decide (((i64.wrap a2.x0).tmod 5)=3)=false from eZ (by have w:=F;simp only[decide_eq_true_eq] at w;omega)) F λF=>?_
   refine zF (show decide (((i64.wrap a2.x0).tmod 5)=4)=false from eZ (by have w:=F;simp only[decide_eq_true_eq] at w;omega)) F λF=>?_
   refine zV ?_;refine jL _ _ (j8 1354 0 32 1 0 3 1 (r3.host.values.map bI) (by decide) (by simp -implicitDefEqProofs only[go_sem,F]<;>rfl)) (by simp -implicitDefEqProofs only[go_sem,F]<;>rfl) (by first|trivial|(simp -implicitDefEqProofs only[go_sem,F]<;>trivial)) ?_;exact iR h
 ·refine mH F h (λF h=>?_) λF h=>?_
  ·refine zB F h (λF h=>?_) λF h=>?_
   ·refine zD [.q,.q,.q,.q,.f,.w] ?_;refine zC F h λF h=>?_
    refine zH 2216 F h (oP _ _ _) λr6 h=>?_
    exact iR h
   ·refine zF (show decide (((i64.wrap a2.x0).tmod 5)=2)=false from eZ (by have w:=F;simp only[decide_eq_true_eq] at w;omega)) F λF=>?_
    refine zF (show decide (((i64.wrap a2.x0).tmod 5)=3)=false from eZ (by have w:=F;simp only[decide_eq_true_eq] at w;omega)) F λF=>?_
    refine zF (show decide (((i64.wrap a2.x0).tmod 5)=4)=false from eZ (by have w:=F;simp only[decide_eq_true_eq] at w;omega)) F λF=>?_
    refine zV ?_;refine jL _ _ (j8 1354 0 32 1 0 3 1 (r3.host.values.map bI) (by decide) (by simp -implicitDefEqProofs only[go_sem,F]<;>rfl)) (by simp -implicitDefEqProofs only[go_sem,F]<;>rfl) (by first|trivial|(simp -implicitDefEqProofs only[go_sem,F]<;>trivial)) ?_;exact iR h
  ·refine mH F h (λF h=>?_) λF h=>?_
   ·refine zB F h (λF h=>?_) λF h=>?_
    ·refine zD [.q,.q,.q,.q,.f,.w] ?_;refine zC F h λF h=>?_
     refine zH 2408 F h (oP _ _ _) λr7 h=>?_
     exact iR h
    ·refine zF (show decide (((i64.wrap a2.x0).tmod 5)=3)=false from eZ (by have w:=F;simp only[decide_eq_true_eq] at w;omega)) F λF=>?_
     refine zF (show decide (((i64.wrap a2.x0).tmod 5)=4)=false from eZ (by have w:=F;simp only[decide_eq_true_eq] at w;omega)) F λF=>?_
     refine zV ?_;refine jL _ _ (j8 1354 0 32 1 0 3 1 (r3.host.values.map bI) (by decide) (by simp -implicitDefEqProofs only[go_sem,F]<;>rfl)) (by simp -implicitDefEqProofs only[go_sem,F]<;>rfl) (by first|trivial|(simp -implicitDefEqProofs only[go_sem,F]<;>trivial)) ?_;exact iR h
   ·refine zB F h (λF h=>?_) λF h=>?_
    ·refine zF (show (0:Int)<=1 by decide) F λF=>?_
     refine zF (show (1:Int)<((3:Nat):Int) by decide) F λF=>?_
     refine zF (show (0:Int)<=2 by decide) F λF=>?_
     refine zF (show (2:Int)<((3:Nat):Int) by decide) F λF=>?_
     refine zT F h (qC _ _) λr8 h=>?_
     refine zB F h (λF h=>?_) λF h=>?_
     ·refine zV ?_;refine aug (j8 1354 0 32 1 0 3 1 (r3.host.values.map bI) (by decide) (by simp -implicitDefEqProofs only[go_sem,F]<;>rfl)) ?_;refine zE [(0,.p),(1,.p),(2,.p),(4,.p),(5,.p),(11,.p),(12,.p),(14,.b),(15,.b),(16,.b),(17,.b),(18,.p),(3,.q),(6,.q),(7,.q),(8,.q),(13,.b),(9,.w),(10,.w),(20,.b),(21,.b),(22,.b),(19,.w),(23,.w),(24,.q),(25,.q),(26,.w)] ?_;refine zJ 0 bI F h λe9 F h=>?_
      refine zJ 0 encI F h λuU F h=>?_
      refine zC F h λF h=>?_
      refine zF (eq_true (show (r3.host.graph.nodes.length+1) * 8<=140737488355328 by omega)) F λF=>?_
      refine zF (bh encI r3.host.graph.nodes [uU] (c:=[[.val (.int .i64 uU)]]) rfl) F λF=>?_
      refine zC F h λF h=>?_
      refine zF (eq_true (show (r3.host.values.length+1) * 24<=140737488355328 by omega)) F λF=>?_
      refine zF (bh bI r3.host.values [e9] (c:=[[.aV (e9.map encI)]]) rfl) F λF=>?_
      refine zE [(0,.p),(2,.q),(3,.q),(4,.p),(1,.q),(6,.b),(7,.b),(5,.w),(8,.p),(9,.q),(10,.w),(11,.q),(12,.w)] ?_;refine zC F h λF h=>?_
      refine zF (eq_true (show (r3.nodes.length+1) * 8<=140737488355328 by omega)) F λF=>?_
      refine zF (bh encI r3.nodes [r3.next] (c:=[[.val (.int .i64 r3.next)]]) rfl) F λF=>?_
      refine zV ?_;refine jL _ _ ((show True->cU _ _ _ _ from λ_ C I L tm w hs=>⟨I,L,hs⟩) (by simp -implicitDefEqProofs only[go_sem,F]<;>rfl)) (by simp -implicitDefEqProofs only[go_sem,F]<;>rfl) (by first|trivial|(simp -implicitDefEqProofs only[go_sem,F]<;>trivial)) ?_;exact iR h
     ·refine zV ?_;refine jL _ _ (j8 1354 0 32 1 0 3 1 (r3.host.values.map bI) (by decide) (by simp -implicitDefEqProofs only[go_sem,F]<;>rfl)) (by simp -implicitDefEqProofs only[go_sem,F]<;>rfl) (by first|trivial|(simp -implicitDefEqProofs only[go_sem,F]<;>trivial)) ?_;exact iR h
    ·refine mH F h (λF h=>?_) λF h=>?_
     ·refine mH F h (λF h=>?_) λF h=>?_
      ·refine zB F h (λF h=>?_) λF h=>?_
       ·refine zE [(0,.p),(1,.p),(2,.p),(4,.q),(5,.q),(6,.q),(7,.q),(8,.q),(9,.q),(10,.q),(11,.q),(12,.q),(13,.q),(14,.q),(15,.q),(16,.q),(17,.p),(3,.q),(18,.w),(19,.q),(20,.q),(21,.q),(22,.w)] ?_;refine zC F h λF h=>?_
        refine zF (show ¬ ((5:Int)=0) by decide) F λF=>?_
        refine zC F h λF h=>?_
        refine zC F h λF h=>?_
        refine zC F h λF h=>?_
        refine zF (eq_true (show (r3.host.graph.au.length+1) * 24<=140737488355328 by omega)) F λF=>?_
        refine zF (bh aZ r3.host.graph.au [(⟨((i64.wrap a2.x1).tmod ((a0.au.length:Nat):Int)),((i64.wrap ((i64.wrap a2.x1).tdiv 5)).tmod ((a1.nodes.length:Nat):Int)),((i64.wrap a2.x2).tmod ((a1.nodes.length:Nat):Int))⟩:Edge)] (c:=[[.val (.int .i64 ((i64.wrap a2.x1).tmod ((a0.au.length:Nat):Int))),.val (.int .i64 ((i64.wrap ((i64.wrap a2.x1).tdiv 5)).tmod ((a1.nodes.length:Nat):Int))),.val (.int .i64 ((i64.wrap a2.x2).tmod ((a1.nodes.length:Nat):Int)))]]) rfl) F λF=>?_
        refine zE [(0,.p),(2,.q),(3,.q),(4,.p),(1,.q),(6,.b),(7,.b),(5,.w),(8,.p),(9,.q),(10,.w),(11,.q),(12,.w)] ?_;refine zC F h λF h=>?_
        refine zF (eq_true (show (r3.au.length+1) * 8<=140737488355328 by omega)) F λF=>?_
        refine zF (bh encI r3.au [r3.next] (c:=[[.val (.int .i64 r3.next)]]) rfl) F λF=>?_
        refine zV ?_;refine jL _ _ (j8 1354 0 32 1 0 3 1 (r3.host.values.map bI) (by decide) (by simp -implicitDefEqProofs only[go_sem,F]<;>rfl)) (by simp -implicitDefEqProofs only[go_sem,F]<;>rfl) (by first|trivial|(simp -implicitDefEqProofs only[go_sem,F]<;>trivial)) ?_;exact iR h
       ·refine zV ?_;refine jL _ _ (j8 1354 0 32 1 0 3 1 (r3.host.values.map bI) (by decide) (by simp -implicitDefEqProofs only[go_sem,F]<;>rfl)) (by simp -implicitDefEqProofs only[go_sem,F]<;>rfl) (by first|trivial|(simp -implicitDefEqProofs only[go_sem,F]<;>trivial)) ?_;exact iR h
      ·refine zV ?_;refine jL _ _ (j8 1354 0 32 1 0 3 1 (r3.host.values.map bI) (by decide) (by simp -implicitDefEqProofs only[go_sem,F]<;>rfl)) (by simp -implicitDefEqProofs only[go_sem,F]<;>rfl) (by first|trivial|(simp -implicitDefEqProofs only[go_sem,F]<;>trivial)) ?_;exact iR h
     ·refine zV ?_;refine jL _ _ (j8 1354 0 32 1 0 3 1 (r3.host.values.map bI) (by decide) (by simp -implicitDefEqProofs only[go_sem,F]<;>rfl)) (by simp -implicitDefEqProofs only[go_sem,F]<;>rfl) (by first|trivial|(simp -implicitDefEqProofs only[go_sem,F]<;>trivial)) ?_;exact iR h
end
noncomputable section
theorem zj(a0:Types)(a1:ax)(a2:aG)(a3:aG)(a4:ax)(a5:ax)(r:(List aI)×Int)(h:mb a0 a1 a2 a3 a4 a5=some r):br pw 53 [.agg [.aV (a0.nodes.map aJ),.aV (a0.au.map aL)],.agg (aA a1),.agg (aC a2),.agg (aC a3),.agg (aA a4),.agg (aA a5)] (λv=>v = .dQ [.row 57 3 (r.1.map aB),.p (.val (.int .i64 r.2))]):=by
 refine br.tF ?_;refine bB [61] func53 ?_;rw[ntmps53,results53];unfold mb at h;have F:=trivial;refine zK F h (agV _ _ _ _) λr6 h=>?_
 refine l6 F h (λF h=>?_) λF h=>?_
 ·refine zD [.q,.q,.q,.q,.q,.q,.q,.q,.q,.p,.q,.q] ?_;refine zTd F h (oF _ _) λr7 h=>?_
  refine zTd F h (oF _ _) λr8 h=>?_
  refine zTd F h (oF _ _) λr9 h=>?_
  refine zTd F h (sQ _) λr10 h=>?_
  refine zG 1704 F h (oF _ _) λr11 h=>?_
  refine zV ?_;refine zN F h (0:Nat) [16,44,45] (λx=>[(17,.row 13807 x.2),(46,.p (.val (.int .i64 ((x.1.1:Nat):Int))))]) [1704] (λx H=>[(13807,.row x.2 57 3 (x.1.2.map aB))]) ?_ ?_ (hw:=by refine cU.trans (iF 17 13807 57 3 rfl rfl (by decide)) ?_;exact zW)
  ·intro i12 s12 g12 _ _ F ayQ h;try dsimp only at h
   refine zI ct F h λe13 F h=>?_
   refine zK F h (rJ _ _) λr14 h=>?_
   refine l6 F h (λF h=>?_) λF h=>?_
   ·exact zX (z:=ayQ _ g12 h zW)
   ·refine zC F h λF h=>?_
    refine zF (eq_true (show (s12.length+1) * 24<=140737488355328 by omega)) F λF=>?_
    refine zF (bh aB s12 [(⟨4,e13.id,e13.iu⟩:aI)] (c:=[[.val (.int .i64 4),.val (.int .i64 e13.id),.val (.int .i64 e13.iu)]]) rfl) F λF=>?_
    exact zX (z:=ayQ _ (g12+1) h zW)
  ·intro i12 s12 g12 _ F h;try dsimp only at h
   refine zMb F h (pL g12 _) λr15 h=>?_
   exact iR h
 ·exact iR h
end
noncomputable section
theorem u7(a0:Types)(a1:ax)(a2:aG)(r:ax×Int)(h:fG a0 a1 a2=some r):br pw 58 [.agg [.aV (a0.nodes.map aJ),.aV (a0.au.map aL)],.agg (aA a1),.agg (aC a2)] (λv=>v = .dQ [.agg [.row 3 1 (r.1.host.graph.nodes.map encI),.row 175 3 (r.1.host.graph.au.map aZ),.row 32 1 (r.1.host.values.map bI),.row 3 1 (r.1.nodes.map encI),.row 3 1 (r.1.au.map encI),.p (.val (.int .i64 r.1.next))],.p (.val (.int .i64 r.2))]):=by
 refine br.tF ?_;refine bB [] func58 ?_;rw[ntmps58,results58];unfold fG at h;have F:=trivial;refine zK F h (u5 _) λr3 h=>?_
 refine l6 F h (λF h=>?_) λF h=>?_
 ·refine zF (show (0:Int)<=0 by decide) F λF=>?_
  refine zF (show (0:Int)<((2:Nat):Int) by decide) F λF=>?_
  refine l6 F h (λF h=>?_) λF h=>?_
  ·refine zD [.q,.q,.q,.q,.q,.q,.o,.w,.s,.q] ?_;refine zTd F h (pH _) λr4 h=>?_
   refine th F h (sU _ _) λr5 h=>?_
   refine l6 F h (λF h=>?_) λF h=>?_
   ·refine zK F h (sR _ _) λr6 h=>?_
    refine l6 F h (λF h=>?_) λF h=>?_
    ·refine zF (show (0:Int)<=1 by decide) F λF=>?_
     refine zF (show (1:Int)<((2:Nat):Int) by decide) F λF=>?_
     refine zG 1768 F h (jo _ _) λr7 h=>?_
     refine zK F h (iM _ _) λr8 h=>?_
     refine l6 F h (λF h=>?_) λF h=>?_
     ·exact iR h
     ·exact iR h
    ·exact iR h
   ·exact iR h
  ·exact iR h
 ·exact iR h
end
noncomputable section
theorem afI(a0:Types)(a1:ax)(a2:aG)(a3:aG)(r:aG×Int)(h:mg a0 a1 a2 a3=some r):br pw 19 [.agg [.aV (a0.nodes.map aJ),.aV (a0.au.map aL)],.agg (aA a1),.agg (aC a2),.agg (aC a3)] (λv=>v = .dQ [.agg [.row 75 3 (r.1.az.map ag),.row 102 4 (r.1.aF.map aj),.row 75 3 (r.1.aR.map ag),.row 102 4 (r.1.aP.map aj),.row 105 4 (r.1.values.map aH),.p (.val (.int .i64 r.1.next.x0)),.p (.val (.int .i64 r.1.next.x1))],.p (.val (.int .i64 r.2))]):=by
 refine br.tF ?_;refine bB [] func19 ?_;rw[ntmps19,results19];unfold mg at h;have F:=trivial;refine zK F h (vT _ _ _ _) λr4 h=>?_
 refine l6 F h (λF h=>?_) λF h=>?_
 ·refine zG 1400 F h (pS _ _) λr5 h=>?_
  refine zB F h (λF h=>?_) λF h=>?_
  ·exact iR h
  ·refine zK F h (uI _ _ _ _) λr6 h=>?_
   refine l6 F h (λF h=>?_) λF h=>?_
   ·refine zG 1720 F h (afH _ _ _) λr7 h=>?_
    exact iR h
   ·exact iR h
 ·exact iR h
end
noncomputable section
theorem kH(a0:Types)(a1:ax)(a2:List jF)(r:ax)(h:ep a0 a1 a2=some r):aS pw 42 [.agg [.aV (a0.nodes.map aJ),.aV (a0.au.map aL)],.agg (aA a1),.aV (a2.map dP)] (λv=>v = .agg (aA r)):=by
 refine aS.mV ?_;refine aQ [] func42 ?_;rw[ntmps42,results42];unfold ep at h;have F:=trivial;refine zV ?_;refine zN F h () [2,3,4,6] (λx=>[(7,.p (.val (.int .i64 ((x.1.1:Nat):Int))))]) [3,6] (λx H=>[(4,.box [.p (.aV (x.1.2.1.map encI)),.p (.aV (x.1.2.2.1.map aZ)),.p (.aV (x.1.2.2.2.1.map bI)),.p (.aV (x.1.2.2.2.2.1.map encI)),.p (.aV (x.1.2.2.2.2.2.1.map encI)),.p (.val (.int .i64 x.1.2.2.2.2.2.2))])]) ?_ ?_
 ·intro i3 s3 g3 _ _ F wV h;try dsimp only at h
  refine zD [.q,.q,.q,.q,.q,.q,.q,.w,.s] ?_;refine zI dP F h λe4 F h=>?_
  refine zTd F h (u6 _ _ _) λr5 h=>?_
  refine zK F h (iM _ _) λr6 h=>?_
  refine zB F h (λF h=>?_) λF h=>?_
  ·exact zX (z:=wV _ () h zW)
  ·exact zX (z:=wV _ () h zW)
 ·intro i3 s3 g3 _ F h;try dsimp only at h
  exact zR h
end
noncomputable section
theorem acs(a0:Types)(a1:ax)(a2:aG)(a3:aG)(r:(List aI)×Int)(h:ja a0 a1 a2 a3=some r):br pw 14 [.agg [.aV (a0.nodes.map aJ),.aV (a0.au.map aL)],.agg (aA a1),.agg (aC a2),.agg (aC a3)] (λv=>v = .dQ [.row 57 3 (r.1.map aB),.p (.val (.int .i64 r.2))]):=by
 refine br.tF ?_;refine bB [] func14 ?_;rw[ntmps14,results14];unfold ja at h;have F:=trivial;refine zK F h (vT _ _ _ _) λr4 h=>?_
 refine l6 F h (λF h=>?_) λF h=>?_
 ·refine zG 1400 F h (pS _ _) λr5 h=>?_
  refine zB F h (λF h=>?_) λF h=>?_
  ·exact iR h
  ·refine zK F h (uI _ _ _ _) λr6 h=>?_
   refine l6 F h (λF h=>?_) λF h=>?_
   ·refine zG 1768 F h (zj _ _ _ _ _ _) λr7 h=>?_
    exact iR h
   ·exact iR h
 ·exact iR h
end
noncomputable section
theorem fz(a0:Types)(a1:ax)(a2:aG)(r:ax×Int)(h:bN a0 a1 a2=some r):br pw 18 [.agg [.aV (a0.nodes.map aJ),.aV (a0.au.map aL)],.agg (aA a1),.agg (aC a2)] (λv=>v = .dQ [.agg [.row 3 1 (r.1.host.graph.nodes.map encI),.row 175 3 (r.1.host.graph.au.map aZ),.row 32 1 (r.1.host.values.map bI),.row 3 1 (r.1.nodes.map encI),.row 3 1 (r.1.au.map encI),.p (.val (.int .i64 r.1.next))],.p (.val (.int .i64 r.2))]):=by
 refine br.tF ?_;refine bB [] func18 ?_;rw[ntmps18,results18];unfold bN at h;have F:=trivial;refine zK F h (iM _ _) λr3 h=>?_
 refine l6 F h (λF h=>?_) λF h=>?_
 ·refine zG 1304 F h (u7 _ _ _) λr4 h=>?_
  exact iR h
 ·exact iR h
end
noncomputable section
theorem ajA(a0:Types)(a1:ax)(a2:aG)(a3:aG)(r:ax×Int)(h:qz a0 a1 a2 a3=some r):aS pw 54 [.agg [.aV (a0.nodes.map aJ),.aV (a0.au.map aL)],.agg (aA a1),.agg (aC a2),.agg (aC a3)] (λv=>v = .dQ [.agg (aA r.1),.val (.int .i64 r.2)]):=by
 refine aS.mV ?_;refine aQ [] func54 ?_;rw[ntmps54,results54];unfold qz at h;have F:=trivial;refine zK F h (uI _ _ _ _) λr4 h=>?_
 refine l6 F h (λF h=>?_) λF h=>?_
 ·refine zG 1544 F h (zj _ _ _ _ _ _) λr5 h=>?_
  refine l6 F h (λF h=>?_) λF h=>?_
  ·refine zB F h (λF h=>?_) λF h=>?_
   ·exact zR h
   ·exact zR h
  ·exact zR h
 ·exact zR h
end
noncomputable section
theorem vU(a0:Types)(a1:ax)(a2:aG)(a3:aG)(a4:ax)(r:(List aI))(h:ij a0 a1 a2 a3 a4=some r):br pw 98 [.agg [.aV (a0.nodes.map aJ),.aV (a0.au.map aL)],.agg (aA a1),.agg (aC a2),.agg (aC a3),.agg (aA a4)] (λv=>v = .row 57 3 (r.map aB)):=by
 refine br.tF ?_;refine bB [121] func98 ?_;rw[ntmps98,results98];unfold ij at h;have F:=trivial;refine zG 1432 F h (fz _ _ _) λr5 h=>?_
 refine zT F h (vO _) λr6 h=>?_
 refine zF (show (0:Int)<=1 by decide) F λF=>?_
 refine zF (show (1:Int)<((2:Nat):Int) by decide) F λF=>?_
 refine zD [.q,.q,.q,.q,.q,.q,.q,.q,.o,.w,.s,.q] ?_;refine zTd F h (oO _ _) λr7 h=>?_
 refine zTd F h (fz _ _ _) λr8 h=>?_
 refine zV ?_;refine kL 1432 0 3 1 (r5.1.host.graph.nodes.map encI) [] (by simp -implicitDefEqProofs only[go_sem,F]<;>rfl) (by simp -implicitDefEqProofs only[go_sem,F]<;>and_intros<;>rfl) (by decide) ?_;refine kL 1433 0 175 3 (r5.1.host.graph.au.map aZ) [] (by simp -implicitDefEqProofs only[go_sem,F]<;>rfl) (by simp -implicitDefEqProofs only[go_sem,F]<;>and_intros<;>rfl) (by decide) ?_;refine kL 1434 0 32 1 (r5.1.host.values.map bI) [] (by simp -implicitDefEqProofs only[go_sem,F]<;>rfl) (by simp -implicitDefEqProofs only[go_sem,F]<;>and_intros<;>rfl) (by decide) ?_;refine kL 1435 0 3 1 (r5.1.nodes.map encI) [] (by simp -implicitDefEqProofs only[go_sem,F]<;>rfl) (by simp -implicitDefEqProofs only[go_sem,F]<;>and_intros<;>rfl) (by decide) ?_;refine kL 1436 0 3 1 (r5.1.au.map encI) [] (by simp -implicitDefEqProofs only[go_sem,F]<;>rfl) (by simp -implicitDefEqProofs only[go_sem,F]<;>and_intros<;>rfl) (by decide) ?_;refine zE [(0,.q),(1,.q),(3,.q),(4,.q),(7,.b),(8,.b),(2,.f),(5,.q),(6,.w),(9,.q),(10,.w),(11,.q)] ?_;refine zH 1752 F h (je _ _) λr9 h=>?_
 refine zTd F h (je _ _) λr10 h=>?_
 refine zC F h λF h=>?_
 refine zF (eq_true (show (r9.length+r10.length) * 24<=140737488355328 by omega)) F λF=>?_
 refine zF (eq_true (eW (n:=3) (f:=bY) (λ_=>rfl) r10)) F λF=>?_
 refine zTd F h (je _ _) λr11 h=>?_
 refine zC F h λF h=>?_
 refine zF (eq_true (show (r9.length+r10.length+r11.length) * 24<=140737488355328 by omega)) F λF=>?_
 refine zF (eq_true (eW (n:=3) (f:=bY) (λ_=>rfl) r11)) F λF=>?_
 refine zG 1928 F h (je _ _) λr12 h=>?_
 refine zV ?_;refine zN F h (0:Nat) [5,9,16,17] (λx=>[(18,.row 11845 x.2),(19,.p (.val (.int .i64 ((x.1.1:Nat):Int))))]) [5,9,1752,1928] (λx H=>[(11845,.row x.2 57 3 (x.1.2.map aB))]) ?_ ?_ (hw:=by refine cU.trans (iF 18 11845 57 3 rfl rfl (by decide)) ?_;exact zW)
 ·intro i13 uS g13 _ _ F ajz h;try dsimp only at h
  refine zV ?_;refine zN F h (g13:Nat) [5,9,16,17,19] (λx=>[(18,.row 11845 x.2),(20,.p (.val (.int .i64 ((x.1.1:Nat):Int))))]) [5,9,1752,1928] (λx H=>[(11845,.row x.2 57 3 (x.1.2.map aB))]) ?_ ?_
  ·intro i14 vP g14 _ _ F acr h;try dsimp only at h
   refine zV ?_;refine zN F h () [5,9,16,17,18,19,20] (λx=>[(21,.p (.val (.bool x.1.2))),(22,.p (.val (.int .i64 ((x.1.1:Nat):Int))))]) [5,9,1752,1928,11845] (λx H=>[]) ?_ ?_
   ·intro i15 xZ g15 _ _ F agT h;try dsimp only at h
    refine zD [.q,.q,.q,.q,.q,.q,.q,.q,.q,.q,.q,.q,.q,.q,.q,.q,.q,.q,.q,.q,.q,.q,.q,.q,.q,.q,.q,.q,.q,.q,.q,.q,.q] ?_;refine amg F h (λF h=>?_) λF h=>?_
    ·exact zX (z:=agT _ () h zW)
    ·refine zI bY F h λe16 F h=>?_
     refine zI encI F h λe17 F h=>?_
     refine zBd F h (λF h=>?_) λF h=>?_
     ·refine zBd F h (λF h=>?_) λF h=>?_
      ·refine th F h (zi _ _) λr18 h=>?_
       exact zX (z:=agT _ () h zW)
      ·exact zX (z:=agT _ () h zW)
     ·exact zX (z:=agT _ () h zW)
   ·intro i15 xZ g15 _ F h;try dsimp only at h
    refine zB F h (λF h=>?_) λF h=>?_
    ·refine zI encI F h λyw F h=>?_
     refine zC F h λF h=>?_
     refine zF (eq_true (show (vP.length+1) * 24<=140737488355328 by omega)) F λF=>?_
     refine zF (bh aB vP [(⟨4,yw,((i14:Nat):Int)⟩:aI)] (c:=[[.val (.int .i64 4),.val (.int .i64 yw),.val (.int .i64 ((i14:Nat):Int))]]) rfl) F λF=>?_
     exact zX (z:=acr _ (g14+1) h zW)
    ·exact zX (z:=acr _ g14 h zW)
  ·intro i14 vP g14 _ F h;try dsimp only at h
   exact zX (z:=ajz _ g14 h zW)
 ·intro i13 uS g13 _ F h;try dsimp only at h
  exact iR h
end
noncomputable section
theorem wK(a0:Types)(a1:ax)(a2:aG)(a3:aG)(r:Int)(h:gh a0 a1 a2 a3=some r):aS pw 95 [.agg [.aV (a0.nodes.map aJ),.aV (a0.au.map aL)],.agg (aA a1),.agg (aC a2),.agg (aC a3)] (λv=>v = .val (.int .i64 r)):=by
 refine aS.mV ?_;refine aQ [] func95 ?_;rw[ntmps95,results95];unfold gh at h;have F:=trivial;refine zG 1272 F h (fz _ _ _) λr4 h=>?_
 refine l6 F h (λF h=>?_) λF h=>?_
 ·refine zG 1432 F h (fz _ _ _) λr5 h=>?_
  refine l6 F h (λF h=>?_) λF h=>?_
  ·refine zK F h (p6 _) λr6 h=>?_
   refine mH F h (λF h=>?_) λF h=>?_
   ·refine zK F h (p6 _) λr7 h=>?_
    refine l6 F h (λF h=>?_) λF h=>?_
    ·refine zF (show (0:Int)<=1 by decide) F λF=>?_
     refine zF (show (1:Int)<((2:Nat):Int) by decide) F λF=>?_
     refine zF (show (0:Int)<=1 by decide) F λF=>?_
     refine zF (show (1:Int)<((2:Nat):Int) by decide) F λF=>?_
     refine zF (show (0:Int)<=0 by decide) F λF=>?_
     refine zF (show (0:Int)<((2:Nat):Int) by decide) F λF=>?_
     refine zB F h (λF h=>?_) λF h=>?_
     ·exact zR h
     ·exact zR h
    ·exact zR h
   ·exact zR h
  ·exact zR h
 ·exact zR h
end
noncomputable section
theorem vV(a0:Types)(a1:ax)(a2:aG)(a3:aG)(r:ax×Int)(h:fU a0 a1 a2 a3=some r):br pw 97 [.agg [.aV (a0.nodes.map aJ),.aV (a0.au.map aL)],.agg (aA a1),.agg (aC a2),.agg (aC a3)] (λv=>v = .dQ [.agg [.row 3 1 (r.1.host.graph.nodes.map encI),.row 175 3 (r.1.host.graph.au.map aZ),.row 32 1 (r.1.host.values.map bI),.row 3 1 (r.1.nodes.map encI),.row 3 1 (r.1.au.map encI),.p (.val (.int .i64 r.1.next))],.p (.val (.int .i64 r.2))]):=by
 refine br.tF ?_;refine bB [] func97 ?_;rw[ntmps97,results97];unfold fU at h;have F:=trivial;refine zT F h (fz _ _ _) λr4 h=>?_
 refine l6 F h (λF h=>?_) λF h=>?_
 ·refine zD [.q,.q,.q,.q,.q,.q,.q,.w,.s] ?_;refine zTd F h (oO _ _) λr5 h=>?_
  refine zTd F h (xz _ _) λr6 h=>?_
  refine zTd F h (qP _ _) λr7 h=>?_
  refine rG F h (λF h=>?_) λF h=>?_
  ·exact iR h
  ·refine zB F h (λF h=>?_) λF h=>?_
   ·exact iR h
   ·refine zG 1976 F h (fz _ _ _) λr8 h=>?_
    exact iR h
 ·exact iR h
end
noncomputable section
theorem vW(a0:Types)(a1:ax)(a2:aG)(a3:aG)(r:ax×Int)(h:iq a0 a1 a2 a3=some r):aS pw 16 [.agg [.aV (a0.nodes.map aJ),.aV (a0.au.map aL)],.agg (aA a1),.agg (aC a2),.agg (aC a3)] (λv=>v = .dQ [.agg (aA r.1),.val (.int .i64 r.2)]):=by
 refine aS.mV ?_;refine aQ [] func16 ?_;rw[ntmps16,results16];unfold iq at h;have F:=trivial;refine zK F h (vT _ _ _ _) λr4 h=>?_
 refine l6 F h (λF h=>?_) λF h=>?_
 ·refine zG 1352 F h (pS _ _) λr5 h=>?_
  refine zB F h (λF h=>?_) λF h=>?_
  ·exact zR h
  ·refine zK F h (ajA _ _ _ _) λr6 h=>?_
   exact zR h
 ·exact zR h
end
noncomputable section
theorem mm  (r:Bool)(h:fq  = some r):aS pw 13 [] (λv=>v = .val (.bool r)):=by
 refine aS.mV ?_;refine aQ [] func13 ?_;rw[ntmps13,results13];unfold fq at h;have F:=trivial;refine zG 1144 F h uY λr1 h=>?_
 refine zD [.q,.q,.q,.q,.f,.q,.q,.q,.q,.q] ?_;refine zTd F h qB λr2 h=>?_
 refine zH 1416 F h (acs _ _ _ _) λr3 h=>?_
 refine zV ?_;refine kL 1144 0 165 4 (r1.nodes.map aJ) [] (by simp -implicitDefEqProofs only[go_sem,F]<;>rfl) (by simp -implicitDefEqProofs only[go_sem,F]<;>and_intros<;>rfl) (by decide) ?_;refine kL 1145 0 170 7 (r1.au.map aL) [] (by simp -implicitDefEqProofs only[go_sem,F]<;>rfl) (by simp -implicitDefEqProofs only[go_sem,F]<;>and_intros<;>rfl) (by decide) ?_;refine zD [.q,.q,.q,.q,.q,.q,.q,.o,.w,.s,.q] ?_;refine zTd F h qB λr4 h=>?_
 refine th F h (vW _ _ _ _) λr5 h=>?_
 refine mH F h (λF h=>?_) λF h=>?_
 ·refine zK F h (vS _ _) λr6 h=>?_
  refine mH F h (λF h=>?_) λF h=>?_
  ·refine mH F h (λF h=>?_) λF h=>?_
   ·refine zK F h (uG _ _) λr7 h=>?_
    refine mH F h (λF h=>?_) λF h=>?_
    ·refine mH F h (λF h=>?_) λF h=>?_
     ·refine zJ 1 bI F h λe8 F h=>?_
      refine zK F h (uG _ _) λr9 h=>?_
      exact zR h
     ·exact zR h
    ·exact zR h
   ·exact zR h
  ·exact zR h
 ·exact zR h
end
noncomputable section
theorem tK(a0:Types)(a1:ax)(a2:aG)(a3:aG)(r:(List aI)×Int)(h:ga a0 a1 a2 a3=some r):br pw 46 [.agg [.aV (a0.nodes.map aJ),.aV (a0.au.map aL)],.agg (aA a1),.agg (aC a2),.agg (aC a3)] (λv=>v = .dQ [.row 57 3 (r.1.map aB),.p (.val (.int .i64 r.2))]):=by
 refine br.tF ?_;refine bB [] func46 ?_;rw[ntmps46,results46];unfold ga at h;have F:=trivial;refine zK F h (wK _ _ _ _) λr4 h=>?_
 refine l6 F h (λF h=>?_) λF h=>?_
 ·refine zG 1400 F h (sS _ _ _) λr5 h=>?_
  refine zB F h (λF h=>?_) λF h=>?_
  ·exact iR h
  ·refine zG 1560 F h (vV _ _ _ _) λr6 h=>?_
   refine l6 F h (λF h=>?_) λF h=>?_
   ·refine zG 1736 F h (vU _ _ _ _ _) λr7 h=>?_
    exact iR h
   ·exact iR h
 ·exact iR h
end
noncomputable section
theorem rL(a0:bQ)(r:Types×bV×Bool)(h:fm a0=some r):br pw 12 [.agg (ew a0)] (λv=>v = .dQ [.agg [.p (.aV (r.1.nodes.map aJ)),.p (.aV (r.1.au.map aL))],.agg [.p (.aV (r.2.1.a.host.graph.nodes.map encI)),.p (.aV (r.2.1.a.host.graph.au.map aZ)),.p (.aV (r.2.1.a.host.values.map bI)),.p (.aV (r.2.1.a.nodes.map encI)),.p (.aV (r.2.1.a.au.map encI)),.p (.val (.int .i64 r.2.1.a.next)),.row 75 3 (r.2.1.p.az.map ag),.row 102 4 (r.2.1.p.aF.map aj),.row 75 3 (r.2.1.p.aR.map ag),.row 102 4 (r.2.1.p.aP.map aj),.row 105 4 (r.2.1.p.values.map aH),.p (.val (.int .i64 r.2.1.p.next.x0)),.p (.val (.int .i64 r.2.1.p.next.x1)),.row 75 3 (r.2.1.q.az.map ag),.row 102 4 (r.2.1.q.aF.map aj),.row 75 3 (r.2.1.q.aR.map ag),.row 102 4 (r.2.1.q.aP.map aj),.row 105 4 (r.2.1.q.values.map aH),.p (.val (.int .i64 r.2.1.q.next.x0)),.p (.val (.int .i64 r.2.1.q.next.x1))],.p (.val (.bool r.2.2))]):=by
 refine br.tF ?_;refine bB [2000002] func12 ?_;rw[ntmps12,results12];unfold fm at h;have F:=trivial;refine rG F h (λF h=>?_) λF h=>?_
 ·exact iR h
 ·refine rG F h (λF h=>?_) λF h=>?_
  ·exact iR h
  ·refine rG F h (λF h=>?_) λF h=>?_
   ·exact iR h
   ·refine rG F h (λF h=>?_) λF h=>?_
    ·exact iR h
    ·refine rG F h (λF h=>?_) λF h=>?_
     ·exact iR h
     ·refine rG F h (λF h=>?_) λF h=>?_
      ·exact iR h
      ·refine zB F h (λF h=>?_) λF h=>?_
       ·exact iR h
       ·refine zT F h (xw _ _) λr1 h=>?_
        refine zD [.q,.q,.q,.q,.q,.q,.q,.q,.o,.w,.s,.q] ?_;refine zTd F h (qC _ _) λr2 h=>?_
        refine zTd F h (yx _ _) λr3 h=>?_
        refine zK F h (kH _ _ _) λr4 h=>?_
        refine zD [.q,.q,.q,.q,.q,.q,.q,.f,.q,.q,.o,.w,.s,.q] ?_;refine th F h (kH _ _ _) λr5 h=>?_
        refine zH 2376 F h (qD _ _ _) λr6 h=>?_
        refine zD [.q,.q,.q,.q,.q,.q,.q,.f,.q,.q,.o,.w,.s,.q] ?_;refine th F h (kH _ _ _) λr7 h=>?_
        refine zH 2552 F h (qD _ _ _) λr8 h=>?_
        refine zG 2744 F h (tK _ _ _ _) λr9 h=>?_
        refine zD [.q,.o,.q,.q,.q,.q,.q,.q,.q,.p,.p,.p,.s,.w,.q] ?_;refine zBd F h (λF h=>?_) λF h=>?_
        ·refine zBd F h (λF h=>?_) λF h=>?_
         ·exact iR h
         ·exact iR h
        ·exact iR h
end
noncomputable section
end
noncomputable section
theorem rM(a0:bQ)(r:Bool)(h:fu a0=some r):aS pw 4 [.agg (ew a0)] (λv=>v = .val (.bool r)):=by
 refine aS.mV ?_;refine aQ [] func4 ?_;rw[ntmps4,results4];unfold fu at h;have F:=trivial;refine zG 1272 F h (rL _) λr1 h=>?_
 refine zK F h mm λr2 h=>?_
 refine mH F h (λF h=>?_) λF h=>?_
 ·refine l6 F h (λF h=>?_) λF h=>?_
  ·refine zGs ([1272,1273,1274,1275,1276],1672) F h (fz _ _ _) λr3 h=>?_
   refine zK F h (vW _ _ _ _) λr4 h=>?_
   refine zK F h (vW _ _ _ _) λr5 h=>?_
   refine zG 2152 F h (afI _ _ _ _) λr6 h=>?_
   refine mH F h (λF h=>?_) λF h=>?_
   ·refine mH F h (λF h=>?_) λF h=>?_
    ·refine mH F h (λF h=>?_) λF h=>?_
     ·refine mH F h (λF h=>?_) λF h=>?_
      ·refine zK F h (qE _ _) λr7 h=>?_
       refine mH F h (λF h=>?_) λF h=>?_
       ·refine zK F h (qE _ _) λr8 h=>?_
        refine mH F h (λF h=>?_) λF h=>?_
        ·refine zK F h (tJ _ _) λr9 h=>?_
         exact zR h
        ·exact zR h
       ·exact zR h
      ·exact zR h
     ·exact zR h
    ·exact zR h
   ·exact zR h
  ·refine zK F h mm λr10 h=>?_
   exact zR h
 ·refine zK F h mm λr11 h=>?_
  exact zR h
end
noncomputable section
end
noncomputable section
end
noncomputable section
end
noncomputable section
end
noncomputable section
end
noncomputable section
end
open Go.ChangeShapes Go.WideShapes Go.ChangeAt Go.RowKit
variable{w:World}{H:Type}{enc:TypeId×Value->H}
def G5(n:Int):Prop:=IntKind.u8.min<=n/\n<=IntKind.u8.max
theorem d5:Dec pw w enc 5 1 (λn:Int=>[.val (.int .u8 n)]) G5 :=
 .aH8 .u8 underlying5
def aEG(x:cz):Prop:=G5 x.x0/\G5 x.x1/\True
theorem d162:Dec pw w enc 162 2 (λx:cz=>[.val (.int .u8 x.x0),.val (.int .u8 x.x1)]) aEG:=(Dec.array underlying162 (by kernel_rfl) (sz0:=1) (by kernel_rfl) (.cons rfl (by kernel_rfl) d5 (.cons rfl (by kernel_rfl) d5 (.nil _)))).map (λx=>⟨x.1,x.2.1⟩) (λa=>(a.x0,a.x1,())) (λ_=>rfl) (λ_=>rfl) (λ_ h=>h)
def G22(l:List cz):Prop:=(∀x∈l,aEG x)/\l.length<=reachBytes
theorem d22:Dec pw w enc 22 1 (λl:List cz=>[.aV (l.map dW)]) G22:=(Dec.slice underlying22 (by kernel_rfl) (by decide) (cu (by kernel_rfl)) d162).map id id (λ_=>rfl) (λ_=>rfl) (λ_ h=>h)
def aEH(x:jF):Prop:=G5 x.x0/\G5 x.x1/\G5 x.x2/\True
theorem d159:Dec pw w enc 159 3 (λx:jF=>[.val (.int .u8 x.x0),.val (.int .u8 x.x1),.val (.int .u8 x.x2)]) aEH:=(Dec.array underlying159 (by kernel_rfl) (sz0:=1) (by kernel_rfl) (.cons rfl (by kernel_rfl) d5 (.cons rfl (by kernel_rfl) d5 (.cons rfl (by kernel_rfl) d5 (.nil _))))).map (λx=>⟨x.1,x.2.1,x.2.2.1⟩) (λa=>(a.x0,a.x1,a.x2,())) (λ_=>rfl) (λ_=>rfl) (λ_ h=>h)
def G23(l:List jF):Prop:=(∀x∈l,aEH x)/\l.length<=reachBytes
theorem d23:Dec pw w enc 23 1 (λl:List jF=>[.aV (l.map dP)]) G23:=(Dec.slice underlying23 (by kernel_rfl) (by decide) (cu (by kernel_rfl)) d159).map id id (λ_=>rfl) (λ_=>rfl) (λ_ h=>h)
def G25(x:cZ):Prop:=G22 x.nodes/\G23 x.au/\True
theorem d25:Dec pw w enc 25 2 (λx:cZ=>[.aV (x.nodes.map dW),.aV (x.au.map dP)]) G25:=(Dec.struct underlying25 (by kernel_rfl) (.cons rfl (by kernel_rfl) d22 (.cons rfl (by kernel_rfl) d23 (.nil _)))).map (λx=>⟨x.1,x.2.1⟩) (λa=>(a.nodes,a.au,())) (λ_=>rfl) (λ_=>rfl) (λ_ h=>h)
def G27(x:bQ):Prop:=G22 x.nodes/\G22 x.au/\G25 x.h/\G23 x.first/\G23 x.p/\G23 x.q/\True
theorem d27:Dec pw w enc 27 7 (λx:bQ=>[.aV (x.nodes.map dW),.aV (x.au.map dW),.aV (x.h.nodes.map dW),.aV (x.h.au.map dP),.aV (x.first.map dP),.aV (x.p.map dP),.aV (x.q.map dP)]) G27:=(Dec.struct underlying27 (by kernel_rfl) (.cons rfl (by kernel_rfl) d22 (.cons rfl (by kernel_rfl) d22 (.cons rfl (by kernel_rfl) d25 (.cons rfl (by kernel_rfl) d23 (.cons rfl (by kernel_rfl) d23 (.cons rfl (by kernel_rfl) d23 (.nil _)))))))).map (λx=>⟨x.1,x.2.1,x.2.2.1,x.2.2.2.1,x.2.2.2.2.1,x.2.2.2.2.2.1⟩) (λa=>(a.nodes,a.au,a.h,a.first,a.p,a.q,())) (λ_=>rfl) (λ_=>rfl) (λ_ h=>h)
set_option maxRecDepth 100000 in
theorem aBk:laidOutB Tryz.checked.prog=true:=by kernel_rfl
def G4(_:Bool):Prop:=True
theorem d4:Dec pw w enc 4 1 aBX G4 :=
 .bool underlying4
end Go.Proofs.YtjhkgjlmiolfoaaGreat
namespace Go.cr
section
variable{σ O α:Type}{Q:O->Prop}
theorem acu{f:σ->(σ->Option O)->(σ->Option O)->Option O}{K:σ->Option O}(φ ψ:σ->Prop)(μ:σ->Nat){n:Nat}{s:σ}(h0:φ s)(hm:μ s<n)
  (hr:∀s (cv brk:σ->Option O),φ s->(∀s',φ s'->μ s'<μ s->Ok (cv s') Q)->(∀s',ψ s'->Ok (brk s') Q)->Ok (f s cv brk) Q) (he:∀s,ψ s->Ok (K s) Q):Ok (iter f n s K) Q :=
 aet φ μ h0 hm λs cv hs hn=>hr s cv K hs hn he
end
theorem aC0{n:Int}(h:0<=n/\n<=255):IntKind.u8.wrap n=n:=by simp only[IntKind.wrap,IntKind.signed,IntKind.bits,Bool.false_and,Bool.false_eq_true,if_false];omega
def zk{α β:Type}(o:Option α)(x:α->β)(y:β):β:=match o with
 |some a=>x a
 |none=>y
section
variable{σ O α β:Type}
theorem adm{f:Nat->Unit->(Unit->Option O)->(Unit->Option O)->Option O}{K:Unit->Option O}(p:Nat->Bool)(x:Nat->Option O):∀ (k i:Nat),
  (∀j,i<=j->j<i+k->∀cv,f j () cv K=cond (p j) (cv ()) (x j))->bZ f k i () K=zk ((List.range' i k).find? (λj=>!p j)) x (K ())
 |0,i,_=>rfl
 |k+1,i,h=>by
  rw[bZ,h i (Nat.le_refl _) (by omega),List.range'_succ,List.find?_cons];cases hp:p i with
  |false=>rfl
  |true =>
   have:=adm p x k (i+1) λj h1 h2 cv=>h j (by omega) (by omega) cv
   simpa using this
theorem uJ{f:Nat->Unit->(Unit->Option O)->(Unit->Option O)->Option O}{K:Unit->Option O}{n:Nat}(p:Nat->Bool)(x:Nat->Option O)(h:∀j,j<n->∀cv,f j () cv K=cond (p j) (cv ()) (x j)) :
  bZ f (n-0) 0 () K=zk ((List.range n).find? (λj=>!p j)) x (K ()):=by
 rw[adm p x (n-0) 0 λj _ h2 cv=>h j (by omega) cv,Nat.sub_zero,List.range_eq_range']
theorem aaQ{f:Nat->Unit->(Unit->Option O)->(Unit->Option O)->Option O}{K:Unit->Option O}(l:List α)(p:α->Bool)(x:α->Option O)(h:∀i (hi:i<l.length) cv,f i () cv K=cond (p l[i]) (cv ()) (x l[i])):∀ (k i:Nat),i+k=l.length ->
  bZ f k i () K=zk ((l.drop i).find? (λa=>!p a)) x (K ())
 |0,i,hk=>by rw[List.drop_eq_nil_of_le (by omega)];rfl
 |k+1,i,hk=>by
  rw[bZ,h i (by omega),List.drop_eq_getElem_cons (by omega),List.find?_cons];cases hp:p l[i] with
  |false=>rfl
  |true=>have:=aaQ l p x h k (i+1) (by omega);simpa using this
theorem oG{f:Nat->Unit->(Unit->Option O)->(Unit->Option O)->Option O}{K:Unit->Option O}(l:List α)(p:α->Bool)(x:α->Option O)(h:∀i (hi:i<l.length) cv,f i () cv K=cond (p l[i]) (cv ()) (x l[i])) :
  bZ f (l.length-0) 0 () K=zk (l.find? (λa=>!p a)) x (K ()):=by
 have:=aaQ l p x h (l.length-0) 0 (by omega);simpa using this
theorem aaR{f:Nat->σ->(σ->Option O)->(σ->Option O)->Option O}{K:σ->Option O}(l:List α)(g:σ->α->σ)(Inv:Nat->σ->Prop)(h:∀i (hi:i<l.length) s,Inv i s->(∀cv,f i s cv K=cv (g s l[i]))/\Inv (i+1) (g s l[i])) :
  ∀ (k i:Nat) (s:σ),i+k=l.length->Inv i s->bZ f k i s K=K ((l.drop i).foldl g s)/\Inv l.length ((l.drop i).foldl g s)
 |0,i,s,hk,hs=>by rw[List.drop_eq_nil_of_le (by omega)];exact⟨rfl,by rw[show l.length=i by omega];exact hs⟩
 |k+1,i,s,hk,hs=>by obtain⟨h1,h2⟩:=h i (by omega) s hs;rw[bZ,h1,List.drop_eq_getElem_cons (by omega),List.foldl_cons];exact aaR l g Inv h k (i+1) _ (by omega) h2
theorem rN{f:Nat->σ->(σ->Option O)->(σ->Option O)->Option O}{K:σ->Option O}{s:σ}(l:List α)(g:σ->α->σ)(Inv:Nat->σ->Prop)(h0:Inv 0 s)(h:∀i (hi:i<l.length) s,Inv i s->(∀cv,f i s cv K=cv (g s l[i]))/\Inv (i+1) (g s l[i])) :
  bZ f (l.length-0) 0 s K=K (l.foldl g s)/\Inv l.length (l.foldl g s):=by
 have:=aaR l g Inv h (l.length-0) 0 s (by omega) h0;simpa using this
theorem bw{p:Prop} [Decidable p]{x:Option O}(h:p):cB p x=x:=by unfold cB;rw[if_pos h]
theorem mo{x:α}{k:α->Option O} : thn (some x) k=k x:=rfl
theorem aT{x:Option α}{y:α}{k:α->Option O}(h:x=some y):thn x k=k y:=by rw[h];rfl
theorem bR{l:List α}{i:Nat}{k:α->Option O}(h:i<l.length):thn l[i]? k=k l[i]:=by rw[List.getElem?_eq_getElem h];rfl
theorem fS{l:List α}{i:Int}{k:α->Option O}(h0:0<=i)(h:i.toNat<l.length):thn (nc l i) k=k (l[i.toNat]'h):=by unfold nc;rw[if_pos h0,List.getElem?_eq_getElem h];rfl
theorem aX{p:Prop} [Decidable p]{x y:Option O} : cond (decide p) x y=if p then x else y:=by by_cases h:p<;>simp[h]
theorem iN{b:Bool}{x y:Option O} : cond (!b) x y=cond b y x:=by cases b<;>rfl
def ayR(e:α->Int)(l:List α):Int:=zk (l.find? (λa=>!decide (e a=0))) e 0
theorem auj{e:α->Int}{l:List α} : ayR e l=0↔∀a∈l,e a=0:=by
 unfold ayR zk;split
 ·rename_i a h;have h1:=List.find?_some h;have h2:=List.mem_of_find?_eq_some h;simp only[Bool.not_eq_true',decide_eq_false_iff_not] at h1;exact⟨λh=>absurd h h1,λh=>h a h2⟩
 ·rename_i h;simp only[List.find?_eq_none,Bool.not_eq_true',decide_eq_false_iff_not,Decidable.not_not] at h;exact⟨λ_=>h,λ_=>rfl⟩
theorem ahT{e:α->Int}{l:List α}{K:Option Int}(hK:K=some 0):zk (l.find? (λa=>!decide (e a=0))) (λa=>some (e a)) K=some (ayR e l):=by subst hK;unfold ayR zk;split<;>rfl
theorem pI{p:α->Bool}{l:List α}{x y:β} : zk (l.find? (λa=>!p a)) (λ_=>x) y=if l.all p=true then y else x:=by
 unfold zk;split
 ·rename_i a h;have h1:=List.find?_some h;have h2:=List.mem_of_find?_eq_some h;rw[if_neg];intro h3;have:=List.all_eq_true.1 h3 a h2;simp[this] at h1
 ·rename_i h;rw[if_pos];simpa using h
def wL(q:α->Bool)(l:List α):Int:=match l.findIdx? q with
 |some i=>i
 |none=>-1
theorem xC{q:α->Bool}{l:List α} : decide (0<=wL q l)=l.any q:=by
 unfold wL;cases h:l.findIdx? q with
 |none =>
  have:=List.findIdx?_eq_none_iff.1 h;have h2:l.any q=false:=by simpa using this
  rw[h2];rfl
 |some i =>
  have h1:l.any q=true:=by have:=List.findIdx?_eq_some_iff_getElem.1 h;obtain⟨hi,hq,_⟩:=this;exact List.any_eq_true.2 ⟨_,nI hi,hq⟩
  rw[h1];simp
theorem wM{f:Nat->Unit->(Unit->Option Int)->(Unit->Option Int)->Option Int}{K:Unit->Option Int}(l:List α)(q:α->Bool)(h:∀i (hi:i<l.length) cv,f i () cv K=cond (q l[i]) (some (i:Int)) (cv ()))(hK:K ()=some (-1)) :
  bZ f (l.length-0) 0 () K=some (wL q l):=by
 have key:∀ (k i:Nat),i+k=l.length->bZ f k i () K=some (match (l.drop i).findIdx? q with|some j=>((i+j:Nat):Int)|none=>-1):=by
  intro k
  induction k with
  |zero=>intro i hk;rw[List.drop_eq_nil_of_le (by omega)];exact hK
  |succ k ih =>
   intro i hk;rw[bZ,h i (by omega),List.drop_eq_getElem_cons (by omega),List.findIdx?_cons];cases hq:q l[i] with
   |true=>simp
   |false =>
    have:=ih (i+1) (by omega);rw[cond_false,this];cases (l.drop (i+1)).findIdx? q with
    |none=>rfl
    |some j=>simp only[Option.map_some,Bool.false_eq_true,if_false,cA];rw[show i+1+j=i+(j+1) by omega]
 have:=key (l.length-0) 0 (by omega);rw[this,List.drop_zero];unfold wL;cases l.findIdx? q<;>simp
end
section
variable{α β:Type}{lt:α->α->Prop}
theorem ajB(irr:∀a,¬ lt a a)(tr:∀a b c,lt a b->lt b c->lt a c):∀ {l m:List α},l.Pairwise lt->m.Pairwise lt->(∀x,x∈l↔x∈m)->l=m
 | [],[],_,_,_=>rfl
 | [],b :: s,_,_,h=>by have:=(h b).2 (List.mem_cons_self ..);cases this
 |a :: r,[],_,_,h=>by have:=(h a).1 (List.mem_cons_self ..);cases this
 |a :: r,b :: s,h1,h2,h=>by
  rw[List.pairwise_cons] at h1 h2;have e:a=b:=by
   rcases List.mem_cons.1 ((h a).1 (List.mem_cons_self ..)) with e|e
   ·exact e
   ·rcases List.mem_cons.1 ((h b).2 (List.mem_cons_self ..)) with e'|e'
    ·exact e'.symm
    ·exact absurd (tr _ _ _ (h1.1 b e') (h2.1 a e)) (irr a)
  subst e;rw[ajB irr tr h1.2 h2.2 λx=>?_];constructor
  ·intro hx;rcases List.mem_cons.1 ((h x).1 (List.mem_cons_of_mem _ hx)) with e|e
   ·subst e;exact absurd (h1.1 x hx) (irr x)
   ·exact e
  ·intro hx;rcases List.mem_cons.1 ((h x).2 (List.mem_cons_of_mem _ hx)) with e|e
   ·subst e;exact absurd (h2.1 x hx) (irr x)
   ·exact e
def iS(f:α->Int)(l:List α):Prop:=l.Pairwise λa b=>f a<f b
theorem iS.ext{f:α->Int}{l m:List α}(h1:iS f l)(h2:iS f m)(h:∀x,x∈l↔x∈m):l=m:=ajB (lt:=λa b=>f a<f b) (λa=>by omega) (λa b c h1 h2=>by omega) h1 h2 h
theorem iS.nil{f:α->Int} : iS f []:=List.Pairwise.nil
theorem iS.sub{f:α->Int}{l m:List α}(h:iS f l)(hs:m.Sublist l):iS f m:=List.Pairwise.sublist hs h
theorem iS.map{f:β->Int}{g:α->β}{l:List α}(h:iS (λa=>f (g a)) l):iS f (l.map g):=List.pairwise_map.2 h
theorem iS.aqy{f:β->Int}{g:α->β}{l:List α}(h:iS f (l.map g)):iS (λa=>f (g a)) l:=by unfold iS at *;exact (List.pairwise_map (f:=g) (R:=λa b=>f a<f b)).1 h
theorem iS.inj{f:α->Int}{l:List α}(h:iS f l){a b:α}(ha:a∈l)(hb:b∈l)(e:f a=f b):a=b:=by
 induction l with
 |nil=>cases ha
 |cons c r ih =>
  unfold iS at h;rw[List.pairwise_cons] at h;rcases List.mem_cons.1 ha with h1|h1<;>rcases List.mem_cons.1 hb with h2|h2
  ·rw[h1,h2]
  ·have:=h.1 b h2;rw[h1] at e;omega
  ·have:=h.1 a h1;rw[h2] at e;omega
  ·exact ih h.2 h1 h2
theorem iS.acv{f:α->Int}{l:List α}(h:iS f l){i j:Nat}(hij:i<j)(hj:j<l.length):f (l[i]'(by omega))<f l[j]:=List.pairwise_iff_getElem.1 h i j (by omega) hj hij
theorem iS.apG{f:α->Int}{l:List α}(h:iS f l){i j:Nat}(hi:i<l.length)(hj:j<l.length)(e:f l[i]=f l[j]):i=j:=by
 rcases Nat.lt_trichotomy i j with h1|h1|h1
 ·have:=h.acv h1 hj;omega
 ·exact h1
 ·have:=h.acv h1 hi;omega
theorem iS.aEI{f:α->Int}{l:List α}(h:∀i,(hi:i+1<l.length)->f (l[i]'(by omega))<f l[i+1]):iS f l:=by
 refine List.pairwise_iff_getElem.2 λi j hi hj hij=>?_
 obtain⟨k,rfl⟩:∃k,j=i+1+k:=⟨j-(i+1),by omega⟩
 induction k with
 |zero=>exact h i hj
 |succ k ih=>have h1:=ih (by omega) (by omega);have h2:=h (i+1+k) hj;exact Int.lt_trans h1 h2
theorem iS.sort{f:α->Int}{l:List α}(h:(l.map f).Nodup):iS f (l.mergeSort λx y=>decide (f x<=f y)):=by
 have hp:=List.mergeSort_perm l (λx y=>decide (f x<=f y));have hs:(l.mergeSort λx y=>decide (f x<=f y)).Pairwise λa b=>decide (f a<=f b)=true:=List.pairwise_mergeSort (λa b c h1 h2=>by simp at *;omega) (λa b=>by simp;omega) l
 have hn:((l.mergeSort λx y=>decide (f x<=f y)).map f).Nodup:=(hp.map f).nodup_iff.2 h;have hn':(l.mergeSort λx y=>decide (f x<=f y)).Pairwise λa b=>f a≠f b:=List.pairwise_map.1 hn
 refine (List.pairwise_and_iff.2 ⟨hs,hn'⟩).imp λ{a b} hab=>?_
 have:=cu hab.1;have:=hab.2;omega
theorem iS.app{f:α->Int}{l m:List α}(h1:iS f l)(h2:iS f m)(h:∀a∈l,∀b∈m,f a<f b):iS f (l++m):=List.pairwise_append.2 ⟨h1,h2,h⟩
theorem iS.xD{f:α->Int}{l:List α}(h:iS f l):(l.map f).Nodup:=List.pairwise_map.2 (List.Pairwise.imp (λh=>by omega) h)
theorem mq{f:α->Int}{l m:List α}(h1:iS f l)(h2:iS f m)(h:∀a∈l,∀b∈m,f a≠f b):((l++m).map f).Nodup:=by rw[List.map_append,List.nodup_append];refine⟨h1.xD,h2.xD,λa ha b hb=>?_⟩;obtain⟨x,hx,rfl⟩:=List.mem_map.1 ha;obtain⟨y,hy,rfl⟩:=List.mem_map.1 hb;exact h x hx y hy
end
end Go.cr
namespace Go.Proofs.YtjhkgjlmiolfoaaGreat
open Go.cr
theorem rO{a b:ah} : eD a b=true↔a=b:=by cases a;cases b;simp[eD]
theorem aew{a b:ak} : rU a b=true↔a=b:=by cases a;cases b;simp[rU]
section
variable{α:Type}{f:α->Int}{q:α->α->Bool}
theorem erase_filter(hq:∀a b,q a b=true↔a=b){l:List α}(h:iS f l){i:Nat}(hi:i<l.length){n:α}(hn:l[i]=n):l.take i++l.drop (i+1)=l.filter λm=>!q m n:=by
 rw[<-List.eraseIdx_eq_take_drop_succ];refine iS.ext (h.sub (List.eraseIdx_sublist ..)) (h.sub List.filter_sublist) λx=>?_
 rw[List.mem_eraseIdx_iff_getElem,List.mem_filter];constructor
 ·rintro⟨j,hj,hne,rfl⟩;refine⟨nI _,?_⟩;cases hx:q l[j] n with
  |false=>rfl
  |true=>have e:=(hq _ _).1 hx;exact absurd (h.apG hj hi (by rw[e,hn])) hne
 ·rintro⟨hx,hne⟩;obtain⟨j,hj,rfl⟩:=List.getElem_of_mem hx;refine⟨j,hj,λe=>?_,rfl⟩;subst e;rw[(hq _ _).2 hn] at hne;cases hne
def mu(q:α->α->Bool)(l r:List α):Bool:=r.all λn=>l.any λm=>q m n
def less(q:α->α->Bool)(l r:List α):List α:=l.filter λm=>!r.any λn=>q m n
def rmL [Inhabited α](f:α->Int)(q:α->α->Bool):List α->List α->Nat->Bool×List α×Nat
 |l,[],v=>(true,l,v)
 |l,n :: r,v=>match l.findIdx? λm=>decide (f m=f n) with
  |none=>(false,l,v)
  |some i=>if q (l.getD i default) n then rmL f q (l.take i++l.drop (i+1)) r (v+1) else (false,l,v)
theorem adn(hq:∀a b,q a b=true↔a=b){l r:List α}{n:α}(hr:∀m∈r,f n≠f m):mu q (l.filter λm=>!q m n) r=mu q l r/\less q (l.filter λm=>!q m n) r=less q l (n :: r):=by
 constructor
 ·unfold mu;rw[Bool.eq_iff_iff,List.all_eq_true,List.all_eq_true];refine forall_congr' λx=>forall_congr' λhx=>?_
  rw[List.any_eq_true,List.any_eq_true];constructor
  ·rintro⟨m,hm,h⟩;exact⟨m,(List.mem_filter.1 hm).1,h⟩
  ·rintro⟨m,hm,h⟩;refine⟨m,List.mem_filter.2 ⟨hm,?_⟩,h⟩;cases hmn:q m n with
   |false=>rfl
   |true=>have e1:=(hq _ _).1 h;have e2:=(hq _ _).1 hmn;exact absurd (by rw[<-e2,e1]) (hr x hx)
 ·unfold less;rw[List.filter_filter];congr 1;funext m;rw[List.any_cons,Bool.not_or,Bool.and_comm]
theorem afJ [Inhabited α](hq:∀a b,q a b=true↔a=b):∀ (r l:List α) (v:Nat),iS f l->r.Pairwise (λa b=>f a≠f b)->(rmL f q l r v).1=mu q l r/\((rmL f q l r v).1=true->(rmL f q l r v).2.1=less q l r)
 | [],l,v,_,_=>⟨rfl,λ_=>by unfold less rmL;exact (List.filter_eq_self.2 (by simp)).symm⟩
 |n :: r,l,v,hl,hr=>by
  rw[List.pairwise_cons] at hr;rw[rmL];cases hf:l.findIdx? λm=>decide (f m=f n) with
  |none =>
   have h0:mu q l (n :: r)=false:=by unfold mu;rw[List.all_cons,Bool.and_eq_false_iff];left;rw[List.any_eq_false];intro m hm h;have:=List.findIdx?_eq_none_iff.1 hf m hm;rw[(hq _ _).1 h] at this;simp at this
   simp only[h0];exact⟨trivial,λh=>by cases h⟩
  |some i =>
   obtain⟨hi,h1,_⟩:=List.findIdx?_eq_some_iff_getElem.1 hf;have h1:=cu h1;have hg:l.getD i default=l[i]:=by simp[hi]
   simp only[hg];by_cases hs:q l[i] n=true
   ·rw[if_pos hs,erase_filter hq hl hi ((hq _ _).1 hs)];obtain⟨e1,e2⟩:=adn hq (l:=l) hr.1;obtain⟨k1,k2⟩:=afJ hq r (l.filter λm=>!q m n) (v+1) (hl.sub List.filter_sublist) hr.2;rw[e1] at k1;rw[e2] at k2;refine⟨?_,k2⟩;rw[k1];unfold mu;rw[List.all_cons,show (l.any λm=>q m n)=true from List.any_eq_true.2 ⟨_,nI hi,hs⟩,Bool.true_and]
   ·rw[if_neg hs];have h0:mu q l (n :: r)=false:=by unfold mu;rw[List.all_cons,Bool.and_eq_false_iff];left;rw[List.any_eq_false];intro m hm h;have e:=(hq _ _).1 h;have:=hl.inj hm (nI hi) (by rw[e,h1]);rw[this] at h;exact hs h
    simp only[h0];exact⟨trivial,λh=>by cases h⟩
def wN(q:α->α->Bool)(l:List α)(n:α):List α×Bool:=match l.findIdx? λm=>q m n with
 |none=>(l,false)
 |some i=>(l.take i++l.drop (i+1),true)
def iD(q:α->α->Bool):List α->List α->List α×Bool
 |l,[]=>(l,true)
 |l,n :: r=>if (wN q l n).2=true then iD q (wN q l n).1 r else ((wN q l n).1,false)
theorem zl(hq:∀a b,q a b=true↔a=b):∀ (r l:List α),iS f l->r.Pairwise (λa b=>f a≠f b)->(iD q l r).2=mu q l r/\((iD q l r).2=true->(iD q l r).1=less q l r)
 | [],l,_,_=>⟨rfl,λ_=>by unfold less iD;exact (List.filter_eq_self.2 (by simp)).symm⟩
 |n :: r,l,hl,hr=>by
  rw[List.pairwise_cons] at hr;rw[iD];unfold wN;cases hf:l.findIdx? λm=>q m n with
  |none =>
   have h0:mu q l (n :: r)=false:=by unfold mu;rw[List.all_cons,Bool.and_eq_false_iff];left;rw[List.any_eq_false];intro m hm h;have:=List.findIdx?_eq_none_iff.1 hf m hm;rw[h] at this;cases this
   simp only[h0];exact⟨rfl,λh=>by cases h⟩
  |some i=>obtain⟨hi,hs,_⟩:=List.findIdx?_eq_some_iff_getElem.1 hf;simp only[if_true,erase_filter hq hl hi ((hq _ _).1 hs)];obtain⟨e1,e2⟩:=adn hq (l:=l) hr.1;obtain⟨k1,k2⟩:=zl hq r (l.filter λm=>!q m n) (hl.sub List.filter_sublist) hr.2;rw[e1] at k1;rw[e2] at k2;refine⟨?_,k2⟩;rw[k1];unfold mu;rw[List.all_cons,show (l.any λm=>q m n)=true from List.any_eq_true.2 ⟨_,nI hi,hs⟩,Bool.true_and]
theorem zm{l r:List α}(h:iS f l):iS f (less q l r):=h.sub List.filter_sublist
end
theorem afK:∀ (r l:List ah) (v:Nat),lM l r v=rmL ah.id eD l r v
 | [],l,v=>rfl
 |n :: r,l,v=>by
  rw[lM,rmL];cases l.findIdx? λm=>decide (m.id=n.id) with
  |none=>rfl
  |some i=>simp only;rw[afK r]
theorem afL:∀ (r l:List ak) (v:Nat),nS l r v=rmL ak.id rU l r v
 | [],l,v=>rfl
 |n :: r,l,v=>by
  rw[nS,rmL];cases l.findIdx? λm=>decide (m.id=n.id) with
  |none=>rfl
  |some i=>simp only;rw[afL r]
def mw(v:aM)(n:ah):Bool:=decide (n.id=v.id)&&okV n.values v
def sD(v:aM)(n:ah):ah:=if mw v n=true then { n with values:=n.values.set v.attr.toNat v.new } else n
theorem aex(v:aM)(n:ah):(sD v n).id=n.id:=by unfold sD;split<;>rfl
theorem auk(v:aM)(n:ah):(sD v n).type=n.type:=by unfold sD;split<;>rfl
theorem afM(v:aM)(n:ah):(sD v n).values.length=n.values.length:=by unfold sD;split<;>simp
def gy:List ah->List aM->List ah×Bool
 |l,[]=>(l,true)
 |l,v :: r=>if l.any (mw v)=true then gy (l.map (sD v)) r else (l.map (sD v),false)
theorem afN:∀ (r:List aM) (l:List ah),iS ah.id l->(lN l r).1=(gy l r).2/\((lN l r).1=true->(lN l r).2=(gy l r).1)
 | [],l,_=>⟨rfl,λ_=>rfl⟩
 |v :: r,l,hl=>by
  rw[lN,gy];cases hf:l.findIdx? λm=>decide (m.id=v.id) with
  |none =>
   have h0:l.any (mw v)=false:=by rw[List.any_eq_false];intro m hm h;have:=List.findIdx?_eq_none_iff.1 hf m hm;unfold mw at h;rw[this] at h;cases h
   simp only[h0];exact⟨rfl,λh=>by cases h⟩
  |some i =>
   obtain⟨hi,h1,_⟩:=List.findIdx?_eq_some_iff_getElem.1 hf;have h1:=cu h1;have hg:l.getD i default=l[i]:=by simp[hi]
   simp only[hg];have hfit:∀m∈l,mw v m=true->m=l[i]:=λm hm h=>by unfold mw at h;rw[Bool.and_eq_true] at h;exact hl.inj hm (nI hi) (by rw[cu h.1,h1])
   by_cases hs:okV l[i].values v=true
   ·have ae5:l.any (mw v)=true:=List.any_eq_true.2 ⟨_,nI hi,by unfold mw;rw[h1,hs,dK rfl];rfl⟩;rw[if_pos hs,if_pos ae5];have e:l.set i { l[i] with values:=l[i].values.set v.attr.toNat v.new } = l.map (sD v):=by
     refine List.ext_getElem (by simp) λj h2 h3=>?_
     rw[List.getElem_set,List.getElem_map];split
     ·rename_i e;subst e;unfold sD;rw[if_pos (by unfold mw;rw[h1,hs,dK rfl];rfl)]
     ·rename_i hne;unfold sD;rw[if_neg λh=>hne ?_];have:=hfit _ (nI (by simpa using h3)) h;exact (hl.apG (by simpa using h3) hi (by rw[this])).symm
    rw[e];exact afN r _ (iS.map (by simpa only[aex] using hl))
   ·rw[if_neg hs,if_neg λh=>hs ?_]
    ·exact⟨rfl,λh=>by cases h⟩
    ·obtain⟨m,hm,h⟩:=List.any_eq_true.1 h;have e:=hfit m hm h;subst e;unfold mw at h;rw[Bool.and_eq_true] at h;exact h.2
theorem abw:∀ (r:List aM) (l:List ah),iS ah.id l->iS ah.id (gy l r).1
 | [],l,h=>h
 |v :: r,l,h=>by
  have h':iS ah.id (l.map (sD v)):=iS.map (by simpa only[aex] using h);rw[gy];split
  ·exact abw r _ h'
  ·exact h'
def ajC(l m:List ah):Prop:=l.map (λn=>(n.id,n.type,n.values.length))=m.map (λn=>(n.id,n.type,n.values.length))
theorem vt:∀ (r:List aM) (l:List ah),ajC (gy l r).1 l
 | [],l=>rfl
 |v :: r,l=>by
  have h':ajC (l.map (sD v)) l:=by
   unfold ajC;rw[List.map_map];refine List.map_congr_left λn _=>?_
   simp only[Function.comp,aex,auk,afM]
  rw[gy];split
  ·exact (vt r _).trans h'
  ·exact h'
theorem ajC.len{l m:List ah}(h:ajC l m):l.length=m.length:=by simpa using congrArg List.length h
theorem ado{l:List ah}(h:(l.map ah.id).Nodup):iS ah.id (kG l):=iS.sort h
theorem adp{l:List ak}(h:(l.map ak.id).Nodup):iS ak.id (nT l):=iS.sort h
theorem tV{l:List ah}{x:ah} : x∈kG l↔x∈l:=(List.mergeSort_perm l _).mem_iff
theorem wO{l:List ak}{x:ak} : x∈nT l↔x∈l:=(List.mergeSort_perm l _).mem_iff
theorem ahU{l:List ah} : (kG l).length=l.length:=List.length_mergeSort _
theorem ahV{l:List ak} : (nT l).length=l.length:=List.length_mergeSort _
theorem abx{l:List ah}{m:List ak}{p:aG}(h:gM l m p=false):(∀n∈p.aR,(∀x∈l,x.id≠n.id)/\∀x∈m,x.id≠n.id)/\∀e∈p.aP,(∀x∈l,x.id≠e.id)/\∀x∈m,x.id≠e.id:=by unfold gM k9 at h;simp only[Bool.or_eq_false_iff,List.any_eq_false,decide_eq_true_eq] at h;simp only[Bool.not_eq_true,Bool.or_eq_false_iff,List.any_eq_false,decide_eq_true_eq] at h;exact h
theorem amn{α:Type} [Inhabited α]{f:α->Int}{d:List α}(h:(d.map f).Nodup):ahM f d:=λi j hi hj e=>by
 have hg:∀k,(hk:k<d.length)->d.getD k default=d[k]:=λk hk=>by simp[hk]
 rw[hg i hi,hg j hj] at e;have h2:=List.pairwise_iff_getElem.1 h;rcases Nat.lt_trichotomy i j with h1|h1|h1
 ·exact absurd (by rw[List.getElem_map,List.getElem_map];exact e) (h2 i j (by simpa using hi) (by simpa using hj) h1)
 ·exact h1
 ·exact absurd (by rw[List.getElem_map,List.getElem_map];exact e.symm) (h2 j i (by simpa using hj) (by simpa using hi) h1)
theorem bt{n:Nat}(h:n<=4000000000000000000):n<=fuel:=by unfold fuel;omega
theorem pT{l:List Int}(hl:l.length<=1000000)(x:Int):iB l x=some (wL (λy=>decide (y=x)) l):=by unfold iB;rw[bw (bt (by omega))];refine wM l _ (λi hi cv=>?_) rfl;rw[bR hi];try simp only[eq_comm (a:=x)]
theorem c9{l:List Int}(hl:l.length<=1000000)(x:Int):bW l x=some (wL (λy=>decide (y=x)) l):=by unfold bW;rw[bw (bt (by omega))];refine wM l _ (λi hi cv=>?_) rfl;rw[bR hi];try simp only[eq_comm (a:=x)]
theorem yy{l:List Int}(hl:l.length<=1000000)(x:Int):jr l x=some (decide (x∈l)):=by
 unfold jr;rw[aT (pT hl x),xC];congr 1;rw[Bool.eq_iff_iff,List.any_eq_true,decide_eq_true_iff];constructor
 ·rintro⟨y,hy,e⟩;rw[<-cu e];exact hy
 ·intro h;exact⟨x,h,dK rfl⟩
theorem xE{l:List Int}{p:Int->Option Bool}(q:Int->Bool)(hl:l.length<=1000000)(hp:∀x∈l,p x=some (q x)):iW l p=some (wL q l):=by unfold iW;rw[bw (bt (by omega))];refine wM l q (λi hi cv=>?_) rfl;rw[bR hi,aT (hp _ (nI hi))]
theorem u9{l:List Int}{p:Int->Option Bool}(q:Int->Bool)(hl:l.length<=1000000)(hp:∀x∈l,p x=some (q x)):gN l p=some (l.any q):=by unfold gN;rw[aT (xE q hl hp),xC]
theorem nw{l:List ah}{p:ah->Option Bool}(q:ah->Bool)(hl:l.length<=1000000)(hp:∀x∈l,p x=some (q x)):eA l p=some (wL q l):=by unfold eA;rw[bw (bt (by omega))];refine wM l q (λi hi cv=>?_) rfl;rw[bR hi,aT (hp _ (nI hi))]
theorem lI{l:List ah}{p:ah->Option Bool}(q:ah->Bool)(hl:l.length<=1000000)(hp:∀x∈l,p x=some (q x)):dO l p=some (l.any q):=by unfold dO;rw[aT (nw q hl hp),xC]
theorem ny{l:List ak}{p:ak->Option Bool}(q:ak->Bool)(hl:l.length<=1000000)(hp:∀x∈l,p x=some (q x)):eB l p=some (wL q l):=by unfold eB;rw[bw (bt (by omega))];refine wM l q (λi hi cv=>?_) rfl;rw[bR hi,aT (hp _ (nI hi))]
theorem qQ{l:List ak}{p:ak->Option Bool}(q:ak->Bool)(hl:l.length<=1000000)(hp:∀x∈l,p x=some (q x)):eU l p=some (l.any q):=by unfold eU;rw[aT (ny q hl hp),xC]
def jy(l:List Int)(next:Int)(j:Nat):Int:=if l.getD j 0<0\/next<=l.getD j 0 then 6 else if 0<j/\l.getD j 0<=l.getD (j-1) 0 then 12 else 0
def sV(l:List Int)(next:Int):Int:=ayR (jy l next) (List.range l.length)
theorem sE{l:List Int}(hl:l.length<=1000000)(next:Int):iJ l next=some (sV l next):=by
 unfold iJ;rw[bw (bt (by omega))];rw[uJ (λj=>decide (jy l next j=0)) (λj=>some (jy l next j)) ?_]
 ·exact ahT rfl
 ·intro j hj cv;have hg:l.getD j 0=l[j]:=by simp[hj]
  rw[bR hj,aX,aX,aX];by_cases h1:l[j]<0
  ·rw[if_pos h1];have:jy l next j=6:=by unfold jy;rw[if_pos (by rw[hg];exact .inl h1)]
   rw[this];rfl
  rw[if_neg h1];by_cases h2:next<=l[j]
  ·rw[if_pos h2];have:jy l next j=6:=by unfold jy;rw[if_pos (by rw[hg];exact .inr h2)]
   rw[this];rfl
  rw[if_neg h2];by_cases h3:0<j
  ·have hg2:l.getD (j-1) 0=l[j-1]'(by omega):=by simp[show j-1<l.length by omega]
   rw[if_pos (by omega),dJ (by omega),fS (by omega) (by omega)];rw[aX];have e2:l[(((j:Nat):Int)-1).toNat]'(by omega)=l[j-1]'(by omega):=by congr 1;omega
   rw[e2];by_cases h4:l[j]<=l[j-1]'(by omega)
   ·rw[if_pos h4];have:jy l next j=12:=by unfold jy;rw[if_neg (by rw[hg];omega),if_pos (by rw[hg,hg2];exact⟨h3,h4⟩)]
    rw[this];rfl
   ·rw[if_neg h4];have:jy l next j=0:=by unfold jy;rw[if_neg (by rw[hg];omega),if_neg (by rw[hg,hg2];omega)]
    rw[this];rfl
  ·rw[if_neg (by omega)];have:jy l next j=0:=by unfold jy;rw[if_neg (by rw[hg];omega),if_neg (by omega)]
   rw[this];rfl
theorem qW{l:List Int}(hl:l.length<=1000000)(next:Int):gZ l next=some (sV l next):=by
 unfold gZ;rw[bw (bt (by omega))];rw[uJ (λj=>decide (jy l next j=0)) (λj=>some (jy l next j)) ?_]
 ·exact ahT rfl
 ·intro j hj cv;have hg:l.getD j 0=l[j]:=by simp[hj]
  rw[bR hj,aX,aX,aX];by_cases h1:l[j]<0
  ·rw[if_pos h1];have:jy l next j=6:=by unfold jy;rw[if_pos (by rw[hg];exact .inl h1)]
   rw[this];rfl
  rw[if_neg h1];by_cases h2:next<=l[j]
  ·rw[if_pos h2];have:jy l next j=6:=by unfold jy;rw[if_pos (by rw[hg];exact .inr h2)]
   rw[this];rfl
  rw[if_neg h2];by_cases h3:0<j
  ·have hg2:l.getD (j-1) 0=l[j-1]'(by omega):=by simp[show j-1<l.length by omega]
   rw[if_pos (by omega),dJ (by omega),fS (by omega) (by omega)];rw[aX];have e2:l[(((j:Nat):Int)-1).toNat]'(by omega)=l[j-1]'(by omega):=by congr 1;omega
   rw[e2];by_cases h4:l[j]<=l[j-1]'(by omega)
   ·rw[if_pos h4];have:jy l next j=12:=by unfold jy;rw[if_neg (by rw[hg];omega),if_pos (by rw[hg,hg2];exact⟨h3,h4⟩)]
    rw[this];rfl
   ·rw[if_neg h4];have:jy l next j=0:=by unfold jy;rw[if_neg (by rw[hg];omega),if_neg (by rw[hg,hg2];omega)]
    rw[this];rfl
  ·rw[if_neg (by omega)];have:jy l next j=0:=by unfold jy;rw[if_neg (by rw[hg];omega),if_neg (by omega)]
   rw[this];rfl
theorem vu{l:List Int}{next:Int} : sV l next=0↔(∀x∈l,0<=x/\x<next)/\iS id l:=by
 unfold sV;rw[auj];have hg:∀j,(hj:j<l.length)->l.getD j 0=l[j]:=λj hj=>by simp[hj]
 constructor
 ·intro h;have h':∀j,(hj:j<l.length)->(0<=l[j]/\l[j]<next)/\∀ (_:0<j),l[j-1]'(by omega)<l[j]:=λj hj=>by
   have:=h j (List.mem_range.2 hj);unfold jy at this;rw[hg j hj] at this;split at this
   ·cases this
   ·split at this
    ·cases this
    ·rename_i h1 h2;refine⟨by omega,λh0=>?_⟩;rw[hg (j-1) (by omega)] at h2;omega
  refine⟨λx hx=>?_,iS.aEI λi hi=>?_⟩
  ·obtain⟨j,hj,rfl⟩:=List.getElem_of_mem hx;exact (h' j hj).1
  ·exact (h' (i+1) hi).2 (by omega)
 ·rintro⟨h1,h2⟩ j hj;have hj:=List.mem_range.1 hj;have hx:=h1 _ (nI hj);unfold jy;rw[hg j hj,if_neg (by omega)];by_cases h0:0<j
  ·rw[hg (j-1) (by omega)];have:=h2.acv (i:=j-1) (j:=j) (by omega) hj;simp only[id] at this;rw[if_neg (by omega)]
  ·rw[if_neg (by omega)]
def lg(t:Types)(x:ax):Int :=
 if (jU t x.host).2≠0 then (jU t x.host).2
 else if x.nodes.length≠x.host.graph.nodes.length\/x.au.length≠x.host.graph.au.length then 20
 else if x.next<0\/1000000<x.next then 6
 else if sV x.nodes x.next≠0 then sV x.nodes x.next
 else if sV x.au x.next≠0 then sV x.au x.next
 else if x.au.any (λe=>decide (e∈x.nodes))=true then 5 else 0
structure j4(x:ax):Prop where
 host:sM x.host
 nodes:x.nodes.length<=1000000
 au:x.au.length<=1000000
theorem acw{t:Types}{h:Host}(ht:fM t)(hh:sM h):tH t h=some (jU t h):=tg ⟨ht,hh⟩
theorem vX{t:Types}{h:Host}(ht:fM t)(hh:sM h):iI t h=some (jU t h):=tg ⟨ht,hh⟩
theorem zn{t:Types}(h:fM t):jO t=some (gC t):=tg h
theorem acy{t:Types}{h:Host}(hv:(gC t).2≠0):jU t h=(-1,(gC t).2):=by unfold jU;rw[if_pos hv]
theorem nA{t:Types}(ht:fM t){x:ax}(hx:j4 x):fO t x=some (lg t x):=by
 have h1:=hx.nodes;have h2:=hx.au;unfold fO lg;rw[aT (acw ht hx.host),aX];by_cases h0:(jU t x.host).2=0
 ·rw[if_pos h0,if_neg (λh=>h h0),aX,aX];by_cases h3:x.nodes.length=x.host.graph.nodes.length
  ·rw[if_pos (by omega)];by_cases h4:x.au.length=x.host.graph.au.length
   ·rw[if_pos (by omega),if_neg (show ¬ (_\/_) by omega),aX,aX];by_cases h5:x.next<0
    ·rw[if_pos h5,if_pos (.inl h5)]
    rw[if_neg h5];by_cases h6:1000000<x.next
    ·rw[if_pos h6,if_pos (.inr h6)]
    rw[if_neg h6,if_neg (show ¬ (_\/_) by omega),aT (sE h1 _),aX];by_cases h7:sV x.nodes x.next=0
    ·rw[if_pos h7,if_neg (λh=>h h7),aT (sE h2 _),aX];by_cases h8:sV x.au x.next=0
     ·rw[if_pos h8,if_neg (λh=>h h8),aT (u9 (λe=>decide (e∈x.nodes)) h2 (λe _=>by unfold kU;rw[aT (yy h1 e)]))];cases x.au.any λe=>decide (e∈x.nodes)<;>rfl
     ·rw[if_neg h8,if_pos h8]
    ·rw[if_neg h7,if_pos h7]
   ·rw[if_neg (by omega),if_pos (.inr h4)]
  ·rw[if_neg (by omega),if_pos (.inl h3)]
 ·rw[if_neg h0,if_pos h0]
theorem mz{t:Types}(ht:fM t){x:ax}(hx:j4 x):b8 t x=some (lg t x):=by
 have h1:=hx.nodes;have h2:=hx.au;unfold b8 lg;rw[aT (zn ht),aX];by_cases hT:(gC t).2=0;rotate_left
 ·rw[if_neg hT,acy hT,if_pos hT]
 rw[if_pos hT,aT (vX ht hx.host),aX];by_cases h0:(jU t x.host).2=0
 ·rw[if_pos h0,if_neg (λh=>h h0),aX,aX];by_cases h3:x.nodes.length=x.host.graph.nodes.length
  ·rw[if_pos (by omega)];by_cases h4:x.au.length=x.host.graph.au.length
   ·rw[if_pos (by omega),if_neg (show ¬ (_\/_) by omega),aX,aX];by_cases h5:x.next<0
    ·rw[if_pos h5,if_pos (.inl h5)]
    rw[if_neg h5];by_cases h6:1000000<x.next
    ·rw[if_pos h6,if_pos (.inr h6)]
    rw[if_neg h6,if_neg (show ¬ (_\/_) by omega),aT (qW h1 _),aX];by_cases h7:sV x.nodes x.next=0
    ·rw[if_pos h7,if_neg (λh=>h h7),aT (qW h2 _),aX];by_cases h8:sV x.au x.next=0
     ·rw[if_pos h8,if_neg (λh=>h h8),bw (bt (by omega))];rw[oG x.au (λe=>!decide (e∈x.nodes)) (λ_=>some 5) ?_]
      ·rw[pI];have e:(x.au.all λe=>!decide (e∈x.nodes)) = !x.au.any λe=>decide (e∈x.nodes):=by rw[List.not_any_eq_all_not]
       rw[e];cases x.au.any λe=>decide (e∈x.nodes)<;>rfl
      ·intro i hi cv;rw[bR hi,aT (c9 h1 _),xC];have e:(x.nodes.any λy=>decide (y=x.au[i]))=decide (x.au[i]∈x.nodes):=by
        rw[Bool.eq_iff_iff,List.any_eq_true,decide_eq_true_iff];constructor
        ·rintro⟨y,hy,e⟩;rw[<-cu e];exact hy
        ·intro h;exact⟨_,h,dK rfl⟩
       rw[e];cases decide (x.au[i]∈x.nodes)<;>rfl
     ·rw[if_neg h8,if_pos h8]
    ·rw[if_neg h7,if_pos h7]
   ·rw[if_neg (by omega),if_pos (.inr h4)]
  ·rw[if_neg (by omega),if_pos (.inl h3)]
 ·rw[if_neg h0,if_pos h0]
end Go.Proofs.YtjhkgjlmiolfoaaGreat
namespace Go.cr
section
variable{α X Y O:Type}
def ot(step:X->Y->α->(X×Y)×Bool):X->Y->List α->(X×Y)×Bool
 |x,y,[]=>((x,y),true)
 |x,y,e :: r=>if (step x y e).2=true then ot step (step x y e).1.1 (step x y e).1.2 r else step x y e
theorem afO{F:Bool×Int×X×Y->(Bool×Int×X×Y->Option O)->(Bool×Int×X×Y->Option O)->Option O}{K:Bool×Int×X×Y->Option O}(l:List α)(step:X->Y->α->(X×Y)×Bool)(inv:X->Y->Prop)
  (h0:∀i x y cv,F (false,i,x,y) cv K=K (false,i,x,y)) (h1:∀x y cv,F (true,((l.length:Nat):Int),x,y) cv K=K (true,((l.length:Nat):Int),x,y))
  (h2:∀ (i:Nat) (hi:i<l.length) x y cv,inv x y->F (true,(i:Int),x,y) cv K=cv ((step x y l[i]).2,((i+1:Nat):Int),(step x y l[i]).1.1,(step x y l[i]).1.2)/\inv (step x y l[i]).1.1 (step x y l[i]).1.2) :
  ∀ (k i n:Nat) (x:X) (y:Y),i+k=l.length->k+2<=n->inv x y->(∃j,iter F n (true,(i:Int),x,y) K=K ((ot step x y (l.drop i)).2,j,(ot step x y (l.drop i)).1.1,(ot step x y (l.drop i)).1.2))/\inv (ot step x y (l.drop i)).1.1 (ot step x y (l.drop i)).1.2
 |0,i,n+1,x,y,hk,hn,hv=>by
  have:i=l.length:=by omega
  subst this;rw[List.drop_length];exact⟨⟨_,by rw[iter,h1];rfl⟩,hv⟩
 |k+1,i,n+1,x,y,hk,hn,hv=>by
  have hi:i<l.length:=by omega
  obtain⟨g1,g2⟩:=h2 i hi x y (λs=>iter F n s K) hv;rw[List.drop_eq_getElem_cons hi,ot];cases hb:(step x y l[i]).2 with
  |true=>simp only[if_true];obtain⟨⟨j,q1⟩,q2⟩:=afO l step inv h0 h1 h2 k (i+1) n _ _ (by omega) (by omega) g2;exact⟨⟨j,by rw[iter,g1,hb];exact q1⟩,q2⟩
  |false=>simp only[Bool.false_eq_true,if_false];obtain⟨n,rfl⟩:∃m,n=m+1:=⟨n-1,by omega⟩;exact⟨⟨_,by rw[iter,g1,hb,iter,h0]⟩,g2⟩
theorem ayS{F:Bool×Int×X×Y->(Bool×Int×X×Y->Option O)->(Bool×Int×X×Y->Option O)->Option O}{K:Bool×Int×X×Y->Option O}(l:List α)(step:X->Y->α->(X×Y)×Bool)(inv:X->Y->Prop)(hl:l.length<=1000000)
  (h0:∀i x y cv,F (false,i,x,y) cv K=K (false,i,x,y)) (h1:∀x y cv,F (true,((l.length:Nat):Int),x,y) cv K=K (true,((l.length:Nat):Int),x,y))
  (h2:∀ (i:Nat) (hi:i<l.length) x y cv,inv x y->F (true,(i:Int),x,y) cv K=cv ((step x y l[i]).2,((i+1:Nat):Int),(step x y l[i]).1.1,(step x y l[i]).1.2)/\inv (step x y l[i]).1.1 (step x y l[i]).1.2)
  (b:Bool) (x:X) (y:Y) (hv:inv x y):∃j,iter F fuel (b,0,x,y) K=K (if b=true then (ot step x y l).2 else false,j,if b=true then (ot step x y l).1.1 else x,if b=true then (ot step x y l).1.2 else y)/\(b=true->inv (ot step x y l).1.1 (ot step x y l).1.2):=by
 cases b with
 |true=>obtain⟨⟨j,q1⟩,q2⟩:=afO l step inv h0 h1 h2 l.length 0 fuel x y (by omega) (by unfold fuel;omega) hv;rw[List.drop_zero] at q1 q2;simp only[if_true];exact⟨j,q1,λ_=>q2⟩
 |false=>simp only[Bool.false_eq_true,if_false];refine⟨0,?_,λh=>by cases h⟩;rw[show fuel=4611686018427387903+1 from rfl,iter,h0]
end
section
variable{α O:Type}{Q:O->Prop}
theorem adV(f:α->Int)(A B:List α)(hA:iS f A)(hB:iS f B)(hd:∀a∈A,∀b∈B,f a≠f b)(hlA:A.length<=1000000)(hlB:B.length<=1000000){K:Int×Int×List α->Option O}
    (hK:∀out,iS f out->(∀x,x∈out↔x∈A\/x∈B)->∀k i,Ok (K (k,i,out)) Q) :
    Ok (iter (λ(s:Int×Int×List α) aEJ aIq =>
      cond (decide (s.2.1<=((A.length:Nat):Int))) (
       iter (λ(s1:Int×List α) lF vq =>
        cond (decide (s1.1<((B.length:Nat):Int))) (
         cond (decide (s.2.1=((A.length:Nat):Int))) (
          thn (nc B s1.1) λe =>
          cB (s1.2.length+1<=68719476736) <|
          lF ((i64.wrap (s1.1+1)),(s1.2++[e]))) <|
         thn (nc B s1.1) λe =>
         thn (nc A s.2.1) λe2 =>
         cond (decide (f e<f e2)) (
          cB (s1.2.length+1<=68719476736) <|
          lF ((i64.wrap (s1.1+1)),(s1.2++[e]))) <|
         vq (s1.1,s1.2)) <|
        vq (s1.1,s1.2))
       fuel (s.1,s.2.2) λs1 =>
       cond (decide (s.2.1<((A.length:Nat):Int))) (
        thn (nc A s.2.1) λe =>
        cB (s1.2.length+1<=68719476736) <|
        aEJ (s1.1,(i64.wrap (s.2.1+1)),(s1.2++[e]))) <|
       aEJ (s1.1,(i64.wrap (s.2.1+1)),s1.2)) <|
      aIq (s.1,s.2.1,s.2.2))
     fuel (0,0,([]:List α)) K) Q:=by
  refine aet (λ(s:Int×Int×List α)=>∃k i:Nat,s.1=(k:Int)/\s.2.1=(i:Int)/\k<=B.length/\i<=A.length+1/\s.2.2.length<=i+k/\iS f s.2.2/\(∀x,x∈s.2.2↔x∈A.take i\/x∈B.take k)/\(∀x∈s.2.2,∀j,(hj:j<A.length)->i<=j->f x<f A[j])/\(∀x∈s.2.2,∀j,(hj:j<B.length)->k<=j->f x<f B[j])/\(i<=A.length\/k=B.length)) (λs=>A.length+1-s.2.1.toNat)
    ⟨0,0,rfl,rfl,Nat.zero_le _,Nat.zero_le _,Nat.le_refl _,iS.nil,by simp,λx hx=>(by cases hx),λx hx=>(by cases hx),.inl (Nat.zero_le _)⟩ (by unfold fuel;simp;omega) ?_
  rintro⟨s1,s2,out⟩ cv ⟨k,i,rfl,rfl,hk,hi,hlen,ayT,hmem,h1,h2,h3⟩ hn;simp only at hlen ayT hmem h1 h2 hn ⊢;by_cases hc:i<=A.length;rotate_left
  · refine ayf (eZ (by omega)) (hK out ayT (λx=>?_) _ _);have hkB:k=B.length:=by omega
    rw[hmem,List.take_of_length_le (by omega),List.take_of_length_le (by omega)]
  refine qc (dK (by omega)) ?_;refine aet (λ(s:Int×List α)=>∃k':Nat,s.1=(k':Int)/\k<=k'/\k'<=B.length/\s.2.length<=i+k'/\iS f s.2/\(∀x,x∈s.2↔x∈A.take i\/x∈B.take k')/\(∀x∈s.2,∀j,(hj:j<A.length)->i<=j->f x<f A[j])/\(∀x∈s.2,∀j,(hj:j<B.length)->k'<=j->f x<f B[j])) (λs=>B.length-s.1.toNat)
    ⟨k,rfl,Nat.le_refl _,hk,hlen,ayT,hmem,h1,h2⟩ (by unfold fuel;simp;omega) ?_
  rintro⟨t,out⟩ aIr ⟨k',rfl,hkk,hk',hlen',aqz,aqA,tA,h2'⟩ hn1;simp only at hlen' aqz aqA tA h2' hn1 ⊢
  have behind : (k' = B.length ∨ (i < A.length ∧ ∃ hb : k' < B.length, ∀ ha : i < A.length, f A[i] < f B[k'])) → Ok (cond (decide (((i : Nat) : Int) < ((A.length : Nat) : Int))) (
        thn (nc A ((i:Nat):Int)) λe =>
        cB (out.length+1<=68719476736) <|
        cv (((k':Nat):Int),(i64.wrap (((i:Nat):Int)+1)),(out++[e]))) <|
       cv (((k':Nat):Int),(i64.wrap (((i:Nat):Int)+1)),out)) Q:=by
    intro hb;rw[dJ (by omega)];by_cases ha:i<A.length
    · refine qc (dK (by omega)) (nO (by omega) (by omega) (cq (by omega) (hn _ ⟨k',i+1,rfl,by simp only;omega,hk',by omega,by simp;omega,?_,?_,?_,?_,.inl (by omega)⟩ (by simp only;omega))))
      · refine aqz.app (List.pairwise_singleton _ _) λa hx b hb=>?_
        rw[List.mem_singleton.1 hb];exact tA a hx i ha (Nat.le_refl _)
      · intro x;rw[List.mem_append,aqA,List.mem_singleton,List.take_add_one,List.getElem?_eq_getElem ha,Option.toList_some,List.mem_append,List.mem_singleton];simp only[Int.toNat_natCast];constructor
        · rintro ((h|h)|h)
          · exact .inl (.inl h)
          · exact .inr h
          · exact .inl (.inr h)
        · rintro ((h|h)|h)
          · exact .inl (.inl h)
          · exact .inr h
          · exact .inl (.inr h)
      · intro x hx j hj hij;rcases List.mem_append.1 hx with hx|hx
        · exact tA x hx j hj (by omega)
        · rw[List.mem_singleton.1 hx];exact hA.acv (by simp only[Int.toNat_natCast];omega) hj
      · intro x hx j hj hij;rcases List.mem_append.1 hx with hx|hx
        · exact h2' x hx j hj hij
        · rw[List.mem_singleton.1 hx];rcases hb with hb|⟨_,hb,hab⟩
          · omega
          · have e1:=hab ha;rcases Nat.lt_or_eq_of_le hij with h|h
            · exact Int.lt_trans e1 (hB.acv h hj)
            · subst h;exact e1
    · refine ayf (eZ (by omega)) (hn _ ⟨k',i+1,rfl,by simp only;omega,hk',by omega,by simp only;omega,aqz,?_,?_,h2',?_⟩ (by simp only;omega))
      · intro x;simp only;rw[aqA,List.take_of_length_le (show A.length<=i by omega),List.take_of_length_le (show A.length<=i+1 by omega)]
      · intro x hx j hj hij;omega
      · rcases hb with hb|⟨hb,_⟩
        · exact .inr hb
        · omega
  have step:(hb:k'<B.length)->(∀ha:i<A.length,f B[k']<f A[i])->Ok (aIr (i64.wrap (((k':Nat):Int)+1),out++[B[k']])) Q:=by
    intro hb hab;rw[dJ (by omega)];refine hn1 _ ⟨k'+1,by simp only;omega,by omega,by omega,by simp;omega,?_,?_,?_,?_⟩ (by simp only;omega)
    · refine aqz.app (List.pairwise_singleton _ _) λa hx b hb'=>?_
      rw[List.mem_singleton.1 hb'];exact h2' a hx k' hb (Nat.le_refl _)
    · intro x;rw[List.mem_append,aqA,List.mem_singleton,List.take_add_one (l:=B),List.getElem?_eq_getElem hb,Option.toList_some,List.mem_append,List.mem_singleton,or_assoc]
    · intro x hx j hj hij;rcases List.mem_append.1 hx with hx|hx
      · exact tA x hx j hj hij
      · rw[List.mem_singleton.1 hx];have e1:=hab (by omega);rcases Nat.lt_or_eq_of_le hij with h|h
        · exact Int.lt_trans e1 (hA.acv h hj)
        · subst h;exact e1
    · intro x hx j hj hij;rcases List.mem_append.1 hx with hx|hx
      · exact h2' x hx j hj (by omega)
      · rw[List.mem_singleton.1 hx];exact hB.acv (by omega) hj
  by_cases hb:k'<B.length;rotate_left
  · exact ayf (eZ (by omega)) (behind (.inl (by omega)))
  refine qc (dK (by omega)) ?_;by_cases ha:i<A.length
  · refine ayf (eZ (by omega)) (nO (by omega) (by omega) (nO (by omega) (by omega) ?_));simp only[Int.toNat_natCast];by_cases hlt:f B[k']<f A[i]
    · exact qc (dK hlt) (cq (by omega) (step hb λ_=>hlt))
    · refine ayf (eZ hlt) (behind (.inr ⟨ha,hb,λ_=>?_⟩));have:=hd A[i] (nI ha) B[k'] (nI hb);omega
  · refine qc (dK (by omega)) (nO (by omega) (by omega) (cq (by omega) ?_));simp only[Int.toNat_natCast];exact step hb λh=>absurd h ha
end
end Go.cr
namespace Go.Proofs.YtjhkgjlmiolfoaaGreat
open Go.cr
structure oV(t:Types)(h:Host):Prop where
 types:(gC t).2=0
 valid:qt h.graph=0
 ael:h.values.length=h.graph.nodes.length
 node:∀i,i<h.graph.nodes.length->ni t (h.graph.nodes.getD i default) (h.values.getD i default)=0
 iu:∀i,i<h.graph.au.length->tf t h i=0
theorem oV.graph{t:Types}{h:Host}(hh:oV t h):OkG h.graph:=okG hh.valid
theorem p8{t:Types}{h:Host} : (jU t h).2=0↔oV t h:=by
 unfold jU;constructor
 ·intro hv;split at hv
  ·rename_i h1;exact absurd hv h1
  ·rename_i h1;split at hv
   ·rename_i h2;exact absurd hv h2
   ·rename_i h2;split at hv
    ·cases hv
    ·rename_i h3;split at hv
     ·rename_i k hk;exact absurd hv (vm hk)
     ·rename_i h4;split at hv
      ·rename_i k hk;exact absurd hv (vm hk)
      ·rename_i h5;exact⟨Decidable.of_not_not h1,Decidable.of_not_not h2,Decidable.of_not_not h3,xg h4,xg h5⟩
 ·rintro⟨h1,h2,h3,h4,h5⟩;rw[if_neg (λh=>h h1),if_neg (λh=>h h2),if_neg (λh=>h h3),gl (λj _ hj=>h4 j hj),gl (λj _ hj=>h5 j hj)]
structure gd(t:Types)(x:ax):Prop where
 host:oV t x.host
 sW:x.nodes.length=x.host.graph.nodes.length
 agW:x.au.length=x.host.graph.au.length
 next:0<=x.next/\x.next<=1000000
 nid:(∀n∈x.nodes,0<=n/\n<x.next)/\iS id x.nodes
 eid:(∀n∈x.au,0<=n/\n<x.next)/\iS id x.au
 apart:∀e∈x.au,e ∉ x.nodes
theorem dm{t:Types}{x:ax} : lg t x=0↔gd t x:=by
 unfold lg;constructor
 ·intro h;split at h
  ·rename_i h1;exact absurd h h1
  ·rename_i h1;split at h
   ·cases h
   ·rename_i h2;split at h
    ·cases h
    ·rename_i h3;split at h
     ·rename_i h4;exact absurd h h4
     ·rename_i h4;split at h
      ·rename_i h5;exact absurd h h5
      ·rename_i h5;split at h
       ·cases h
       ·rename_i h6;refine⟨p8.1 (Decidable.of_not_not h1),by omega,by omega,by omega,vu.1 (Decidable.of_not_not h4),vu.1 (Decidable.of_not_not h5),λe he hn=>h6 ?_⟩;exact List.any_eq_true.2 ⟨e,he,dK hn⟩
 ·rintro⟨h1,h2,h3,h4,h5,h6,h7⟩;rw[if_neg (λh=>h (p8.2 h1)),if_neg (by omega),if_neg (by omega),if_neg (λh=>h (vu.2 h5)),if_neg (λh=>h (vu.2 h6)),if_neg];intro h;obtain⟨e,he,hn⟩:=List.any_eq_true.1 h;exact h7 e he (cu hn)
def dG(a:ax)(i:Nat):ak:=⟨a.au.getD i default,(a.host.graph.au.getD i default).type,a.nodes.getD (a.host.graph.au.getD i default).src.toNat default,a.nodes.getD (a.host.graph.au.getD i default).dst.toNat default⟩
def cT(a:ax):List ak:=(List.range a.au.length).map (dG a)
theorem uK{α:Type} [Inhabited α](l:List α):(List.range l.length).map (λi=>l.getD i default)=l:=by
 refine List.ext_getElem (by simp) λi h1 h2=>?_
 simp[show i<l.length from h2]
theorem xF(a:ax):(bC a).map ah.id=a.nodes:=by unfold bC;rw[List.map_map];exact uK a.nodes
theorem xG(a:ax):(cT a).map ak.id=a.au:=by unfold cT;rw[List.map_map];exact uK a.au
theorem gU(a:ax):(bC a).length=a.nodes.length:=by simp[bC]
theorem gz(a:ax):(cT a).length=a.au.length:=by simp[cT]
section
variable{t:Types}{a:ax}
theorem gd.aem(h:gd t a):iS ah.id (bC a):=iS.aqy (f:=id) (by rw[xF];exact h.nid.2)
theorem gd.agX(h:gd t a):iS ak.id (cT a):=iS.aqy (f:=id) (by rw[xG];exact h.eid.2)
theorem gd.n40(h:gd t a):a.nodes.length<=40:=by rw[h.sW];exact h.host.graph.nodes
theorem gd.e80(h:gd t a):a.au.length<=80:=by rw[h.agW];exact h.host.graph.au
theorem uL{α:Type}(g:Nat->α){i n:Nat}(hi:i<n):((List.range n).map g).take (i+1)=((List.range n).map g).take i++[g i]:=by rw[List.take_add_one,List.getElem?_eq_getElem (by simpa using hi),Option.toList_some,List.getElem_map,List.getElem_range]
theorem sX(h:gd t a):jV a=some (cT a):=by
 have hn:=h.n40;have he:=h.e80;refine Ok.eq ?_;unfold jV;refine cq (bt (by omega)) ?_;refine tG (λi s=>i<=a.au.length/\s=(cT a).take i) (Nat.zero_le _) ⟨Nat.zero_le _,rfl⟩ ?_ ?_
 ·rintro i s cv _ hi ⟨_,rfl⟩ hnx;have hi2:i<a.host.graph.au.length:=by rw[<-h.agW];exact hi
  have hg:a.host.graph.au.getD i default=a.host.graph.au[i]:=by simp[hi2]
  have hE:=h.host.graph.iu i hi2;rw[hg] at hE;rw[<-h.sW] at hE;refine oL hi (oL hi2 (nO hE.2.1.1 (by omega) (nO hE.2.2.1 (by omega) (cq (by rw[List.length_take];omega) (hnx _ ⟨hi,?_⟩)))));unfold cT;rw[uL _ hi];congr 2;unfold dG;rw[hg];simp only[ak.mk.injEq];refine⟨by simp[hi],trivial,?_,?_⟩
  ·simp[show a.host.graph.au[i].src.toNat<a.nodes.length by omega]
  ·simp[show a.host.graph.au[i].dst.toNat<a.nodes.length by omega]
 ·rintro s ⟨_,rfl⟩;refine Ok.mk ?_;rw[List.take_of_length_le (by rw[gz];exact Nat.le_refl _)]
theorem ayU(h:gd t a){i:Nat}(hi:i<a.nodes.length)(hv:∀l∈a.host.values,l.length<=1000000):gH a (i:Int)=some (bF a i):=by
 have h1:i<a.host.graph.nodes.length:=by rw[<-h.sW];exact hi
 have h2:i<a.host.values.length:=by rw[h.host.ael];exact h1
 unfold gH;rw[fS (by omega) (by simpa using hi),fS (by omega) (by simpa using h1),fS (by omega) (by simpa using h2)];have:=hv _ (nI h2);simp only[Int.toNat_natCast];rw[bw (by omega)];unfold bF;simp[hi,h1,h2]
theorem ajD(h:gd t a){i:Nat}(hi:i<a.au.length):dz a (i:Int)=some (dG a i):=by
 have hi2:i<a.host.graph.au.length:=by rw[<-h.agW];exact hi
 have hg:a.host.graph.au.getD i default=a.host.graph.au[i]:=by simp[hi2]
 have hE:=h.host.graph.iu i hi2;rw[hg] at hE;rw[<-h.sW] at hE;unfold dz;rw[fS (by omega) (by simpa using hi2),fS (by omega) (by simpa using hi)];simp only[Int.toNat_natCast];rw[fS hE.2.1.1 (by omega),fS hE.2.2.1 (by omega)];unfold dG;rw[hg];simp only[cA,ak.mk.injEq];refine⟨by simp[hi],trivial,?_,?_⟩
 ·simp[show a.host.graph.au[i].src.toNat<a.nodes.length by omega]
 ·simp[show a.host.graph.au[i].dst.toNat<a.nodes.length by omega]
theorem afP(h:gd t a)(hv:∀l∈a.host.values,l.length<=1000000):eH a=some ⟨bC a,cT a⟩:=by
 have hn:=h.n40;have he:=h.e80;refine Ok.eq ?_;unfold eH;refine cq (bt (by omega)) ?_;refine tG (λi s=>i<=a.nodes.length/\s=(bC a).take i) (Nat.zero_le _) ⟨Nat.zero_le _,rfl⟩ ?_ ?_
 ·rintro i s cv _ hi ⟨_,rfl⟩ hnx;refine ok_eq (ayU h hi hv) (cq (by rw[List.length_take];omega) (hnx _ ⟨hi,?_⟩));unfold bC;rw[uL _ hi]
 ·rintro s ⟨_,rfl⟩;refine cq (bt (by omega)) ?_;refine tG (λi s=>i<=a.au.length/\s=(cT a).take i) (Nat.zero_le _) ⟨Nat.zero_le _,rfl⟩ ?_ ?_
  ·rintro i s cv _ hi ⟨_,rfl⟩ hnx;refine ok_eq (ajD h hi) (cq (by rw[List.length_take];omega) (hnx _ ⟨hi,?_⟩));unfold cT;rw[uL _ hi]
  ·rintro s ⟨_,rfl⟩;refine Ok.mk ?_;rw[List.take_of_length_le (by rw[gU];exact Nat.le_refl _),List.take_of_length_le (by rw[gz];exact Nat.le_refl _)]
end
theorem acz{α:Type} [Inhabited α](l:List α)(q:α->Bool):(List.range l.length).find? (λj=>q (l.getD j default))=l.findIdx? q:=by
 have hg:∀k,(hk:k<l.length)->l.getD k default=l[k]:=λk hk=>by simp[hk]
 cases h:l.findIdx? q with
 |none=>rw[List.find?_eq_none];intro j hj;have hj:=List.mem_range.1 hj;rw[hg j hj];have:=List.findIdx?_eq_none_iff.1 h _ (nI hj);rw[this];simp
 |some i=>obtain⟨hi,h1,h2⟩:=List.findIdx?_eq_some_iff_getElem.1 h;rw[List.find?_range_eq_some];refine⟨by rw[hg i hi];exact h1,List.mem_range.2 hi,λj hj=>?_⟩;rw[hg j (by omega)];have:=h2 j hj;simpa using this
theorem ahW(s:aO)(e:ak)(hl:s.au.length<=1000000):cD s e=some (⟨s.nodes,(wN rU s.au e).1⟩,(wN rU s.au e).2):=by
 unfold cD;rw[bw (bt (by omega))];rw[uJ (λj=>!rU (s.au.getD j default) e) (λj=>some (⟨s.nodes,s.au.take j++s.au.drop (j+1)⟩,true)) ?_]
 ·simp only[Bool.not_not];rw[acz s.au (λm=>rU m e)];unfold wN;cases s.au.findIdx? λm=>rU m e<;>rfl
 ·intro j hj cv;have hg:s.au.getD j default=s.au[j]:=by simp[hj]
  rw[bR hj,hg,iN];show cond (rU s.au[j] e) _ _=_;cases rU s.au[j] e with
  |false=>rfl
  |true=>rw[cond_true,cond_true,dJ (by omega),bw (by omega),bw (by rw[List.length_take];omega),bw (by omega),bw (by rw[List.length_take,List.length_drop];omega)];rfl
theorem xH{a b:List Int}(ha:a.length<=1000000):dA a b=some (decide (a=b)):=by
 unfold dA;rw[aX];by_cases hl:a.length=b.length
 ·rw[if_pos (by omega),bw (bt (by omega))];rw[uJ (λj=>decide (a.getD j 0=b.getD j 0)) (λ_=>some false) ?_]
  ·rw[pI];by_cases h:a=b
   ·subst h;rw[if_pos (by simp),dK rfl]
   ·rw[if_neg,eZ h];intro h2;apply h;refine List.ext_getElem hl λi h3 h4=>?_
    have:=List.all_eq_true.1 h2 i (List.mem_range.2 h3);simpa[h3,h4] using this
  ·intro j hj cv;rw[bR hj,bR (show j<b.length by omega)];simp[hj,show j<b.length by omega]
 ·rw[if_neg (by omega),eZ λh=>hl (by rw[h])]
theorem afQ(a b:ah)(ha:a.values.length<=1000000):fh a b=some (eD a b):=by
 unfold fh eD;rw[aX,aX,aT (xH ha)];by_cases h1:a.id=b.id
 ·rw[if_pos h1,dK h1,Bool.true_and];by_cases h2:a.type=b.type
  ·rw[if_pos h2,dK h2,Bool.true_and]
  ·rw[if_neg h2,eZ h2,Bool.false_and]
 ·rw[if_neg h1,eZ h1,Bool.false_and]
theorem ahX(s:aO)(e:ah)(hl:s.nodes.length<=1000000)(hv:∀n∈s.nodes,n.values.length<=1000000):cc s e=some (⟨(wN eD s.nodes e).1,s.au⟩,(wN eD s.nodes e).2):=by
 unfold cc;rw[bw (bt (by omega))];rw[uJ (λj=>!eD (s.nodes.getD j default) e) (λj=>some (⟨s.nodes.take j++s.nodes.drop (j+1),s.au⟩,true)) ?_]
 ·simp only[Bool.not_not];rw[acz s.nodes (λm=>eD m e)];unfold wN;cases s.nodes.findIdx? λm=>eD m e<;>rfl
 ·intro j hj cv;have hg:s.nodes.getD j default=s.nodes[j]:=by simp[hj]
  rw[bR hj,aT (afQ _ e (hv _ (nI hj))),hg,iN];cases eD s.nodes[j] e with
  |false=>rfl
  |true=>rw[cond_true,cond_true,dJ (by omega),bw (by omega),bw (by omega),bw (by rw[List.length_take];omega),bw (by rw[List.length_take,List.length_drop];omega)];rfl
theorem aEK(s:aO)(v:aM)(hl:s.nodes.length<=1000000)(hv:∀n∈s.nodes,n.values.length<=1000000):cK s v=some (⟨s.nodes.map (sD v),s.au⟩,s.nodes.any (mw v)):=by
 unfold cK;rw[bw (bt (by omega))];rw[(rN s.nodes (λ(s:List ah×Bool) n=>(s.1++[sD v n],s.2||mw v n)) (λi s=>s.1.length=i) rfl ?_).1]
 ·have key:∀ (l:List ah) (a:List ah×Bool),l.foldl (λ(s:List ah×Bool) n=>(s.1++[sD v n],s.2||mw v n)) a=(a.1++l.map (sD v),a.2||l.any (mw v)):=by
   intro l
   induction l with
   |nil=>intro a;simp
   |cons n l ih=>intro a;rw[List.foldl_cons,ih];simp[Bool.or_assoc]
  rw[key];rfl
 ·rintro i hi ⟨out,b⟩ hlen;simp only at hlen;have hn:=hv _ (nI hi);refine⟨λcv=>?_,by simp[hlen]⟩;rw[bR hi];generalize s.nodes[i]=n at hn ⊢;simp only;rw[bw (show out.length+1<=68719476736 by omega)];have hno:mw v n=false->cv (out++[n],b)=cv (out++[sD v n],b||mw v n):=λh=>by unfold sD;rw[h];simp
  rw[aX,aX,aX];by_cases h1:n.id=v.id;rotate_left
  ·rw[if_neg h1,hno];unfold mw;rw[eZ h1];rfl
  rw[if_pos h1];by_cases h2:0<=v.attr;rotate_left
  ·rw[if_neg h2,hno];unfold mw okV;rw[dK (show v.attr<0 by omega)];simp
  rw[if_pos h2];by_cases h3:v.attr<n.values.length;rotate_left
  ·rw[if_neg h3,hno];unfold mw okV;rw[dK (show (n.values.length:Int)<=v.attr by omega)];simp
  have hk:v.attr.toNat<n.values.length:=by omega
  have hg:n.values.getD v.attr.toNat default=n.values[v.attr.toNat]:=by simp[hk]
  rw[if_pos h3,fS h2 hk,aX];by_cases h4:n.values[v.attr.toNat]=v.old;rotate_left
  ·rw[if_neg h4,hno];unfold mw okV;rw[hg,eZ h4];simp
  rw[if_pos h4,aX];by_cases h5:v.old=v.new
  ·rw[if_pos h5,hno];unfold mw okV;rw[dK (show v.new=v.old from h5.symm)];simp
  rw[if_neg h5,bw (by omega),bw (show out.length+1<=68719476736 by omega)];have hy:mw v n=true:=by unfold mw okV;rw[hg,dK h1,eZ (show ¬ v.attr<0 by omega),eZ (show ¬ (n.values.length:Int)<=v.attr by omega),dK h4,eZ (show ¬ v.new=v.old from λh=>h5 h.symm)];rfl
  unfold sD;rw[hy,if_pos rfl,Bool.or_true]
theorem wP{α O:Type}{l:List α}(R:α->α->Prop) [DecidableRel R](tr:∀a b c,R a b->R b c->R a c){f:Nat->Unit->(Unit->Option O)->(Unit->Option O)->Option O}{K:Unit->Option O}(y n:Option O)(hy:K ()=y)
  (h:∀i (hi:i<l.length) (_:1<=i) cv,f i () cv K=cond (decide (R (l[i-1]'(by omega)) l[i])) (cv ()) n):bZ f (l.length-1) 1 () K=if l.Pairwise R then y else n:=by
 rw[adm (λj=>decide (∀h:j<l.length,1<=j->R (l[j-1]'(by omega)) l[j])) (λ_=>n) (l.length-1) 1 λj h1 h2 cv=>?_]
 ·rw[pI,hy];congr 1;rw[eq_iff_iff,List.all_eq_true,List.pairwise_iff_getElem];constructor
  ·intro h;have step:∀k,(hk:k+1<l.length)->R (l[k]'(by omega)) l[k+1]:=λk hk=>cu (h (k+1) (List.mem_range'_1.2 ⟨by omega,by omega⟩)) hk (by omega)
   have key:∀k i,(hk:i+1+k<l.length)->R (l[i]'(by omega)) l[i+1+k]:=λk=>by
    induction k with
    |zero=>exact λi hi=>step i hi
    |succ k ih=>exact λi hi=>tr _ _ _ (ih i (by omega)) (step (i+1+k) hi)
   intro i j hi hj hij;obtain⟨k,rfl⟩:∃k,j=i+1+k:=⟨j-(i+1),by omega⟩;exact key k i hj
  ·intro h j hj;exact dK λh1 h2=>h _ _ _ _ (by omega)
 ·rw[h j (by omega) h1 cv];congr 1;rw[decide_eq_decide];exact⟨λh _ _=>h,λh=>h _ h1⟩
instance{α:Type}(f:α->Int)(l:List α):Decidable (iS f l):=inferInstanceAs (Decidable (l.Pairwise λa b=>f a<f b))
def ltV(a b:aM):Prop:=a.id<b.id\/a.id=b.id/\a.attr<b.attr
instance:DecidableRel ltV:=λa b=>inferInstanceAs (Decidable (a.id<b.id\/a.id=b.id/\a.attr<b.attr))
theorem ayV(a b c:aM)(h1:ltV a b)(h2:ltV b c):ltV a c:=by unfold ltV at *;omega
structure Ordered(p:aG):Prop where
 rn:iS ah.id p.az
 re:iS ak.id p.aF
 an:iS ah.id p.aR
 ae:iS ak.id p.aP
 va:p.values.Pairwise ltV
def rV(p:aG):Int :=
 if 500<p.az.length\/500<p.aF.length\/500<p.aR.length\/500<p.aP.length\/500<p.values.length then 3
 else if iS ah.id p.az/\iS ak.id p.aF/\iS ah.id p.aR/\iS ak.id p.aP/\p.values.Pairwise ltV then 0 else 12
structure jf(p:aG):Prop where
 rn:p.az.length<=1000000
 re:p.aF.length<=1000000
 an:p.aR.length<=1000000
 ae:p.aP.length<=1000000
 va:p.values.length<=1000000
 rv:∀n∈p.az,n.values.length<=1000
 av:∀n∈p.aR,n.values.length<=1000
structure Small(p:aG):Prop where
 rn:p.az.length<=500
 re:p.aF.length<=500
 an:p.aR.length<=500
 ae:p.aP.length<=500
 va:p.values.length<=500
theorem tL{p:aG} : rV p=0↔Small p/\Ordered p:=by
 unfold rV;constructor
 ·intro h;split at h
  ·cases h
  ·split at h
   ·rename_i h1 h2;exact⟨⟨by omega,by omega,by omega,by omega,by omega⟩,⟨h2.1,h2.2.1,h2.2.2.1,h2.2.2.2.1,h2.2.2.2.2⟩⟩
   ·cases h
 ·rintro⟨h1,h2⟩;have a1:=h1.rn;have a2:=h1.re;have a3:=h1.an;have a4:=h1.ae;have a5:=h1.va;rw[if_neg (by omega),if_pos ⟨h2.rn,h2.re,h2.an,h2.ae,h2.va⟩]
theorem mA{l:List ah}(hl:l.length<=1000000):dR l=some (decide (iS ah.id l)):=by
 unfold dR;rw[bw (bt (by omega))];rw[wP (λa b:ah=>a.id<b.id) (λa b c h1 h2=>by omega) (some true) (some false) rfl λi hi h1 cv=>?_]
 ·by_cases h:l.Pairwise λa b:ah=>a.id<b.id
  ·rw[if_pos h,dK (show iS ah.id l from h)]
  ·rw[if_neg h,eZ (show ¬ iS ah.id l from h)]
 ·have e:l[(((i:Nat):Int)-1).toNat]'(by omega)=l[i-1]'(by omega):=by congr 1;omega
  rw[bR hi,dJ (by omega),fS (by omega) (by omega),e,aX,aX];by_cases h:l[i].id<=(l[i-1]'(by omega)).id
  ·rw[if_pos h,if_neg (by omega)]
  ·rw[if_neg h,if_pos (by omega)]
theorem mB{l:List ak}(hl:l.length<=1000000):dS l=some (decide (iS ak.id l)):=by
 unfold dS;rw[bw (bt (by omega))];rw[wP (λa b:ak=>a.id<b.id) (λa b c h1 h2=>by omega) (some true) (some false) rfl λi hi h1 cv=>?_]
 ·by_cases h:l.Pairwise λa b:ak=>a.id<b.id
  ·rw[if_pos h,dK (show iS ak.id l from h)]
  ·rw[if_neg h,eZ (show ¬ iS ak.id l from h)]
 ·have e:l[(((i:Nat):Int)-1).toNat]'(by omega)=l[i-1]'(by omega):=by congr 1;omega
  rw[bR hi,dJ (by omega),fS (by omega) (by omega),e,aX,aX];by_cases h:l[i].id<=(l[i-1]'(by omega)).id
  ·rw[if_pos h,if_neg (by omega)]
  ·rw[if_neg h,if_pos (by omega)]
theorem aen{l:List aM}(hl:l.length<=1000000):eT l=some (decide (l.Pairwise ltV)):=by
 unfold eT;rw[bw (bt (by omega))];rw[wP ltV ayV (some true) (some false) rfl λi hi h1 cv=>?_]
 ·by_cases h:l.Pairwise ltV
  ·rw[if_pos h,dK h]
  ·rw[if_neg h,eZ h]
 ·have e:l[(((i:Nat):Int)-1).toNat]'(by omega)=l[i-1]'(by omega):=by congr 1;omega
  rw[bR hi,dJ (by omega),fS (by omega) (by omega),e,aX,aX,aX,aX];generalize l[i]=x;generalize l[i-1]'(by omega)=y;have hv:ltV y x↔(y.id<x.id\/y.id=x.id/\y.attr<x.attr):=Iff.rfl;by_cases h1:x.id<y.id
  ·rw[if_pos h1,if_neg λh=>by have:=hv.1 h;omega]
  rw[if_neg h1];by_cases h2:x.id=y.id
  ·rw[if_pos h2];by_cases h3:x.attr<=y.attr
   ·rw[if_pos h3,if_neg λh=>by have:=hv.1 h;omega]
   ·rw[if_neg h3,if_pos (hv.2 (by omega))]
  ·rw[if_neg h2,if_pos (hv.2 (by omega))]
theorem l_ordered{p:aG}(hp:jf p):gP p=some (rV p):=by
 unfold gP rV;rw[aX,aX,aX,aX,aX];by_cases h1:500<p.az.length
 ·rw[if_pos (by omega),if_pos (.inl h1)]
 rw[if_neg (by omega)];by_cases h2:500<p.aF.length
 ·rw[if_pos (by omega),if_pos (.inr (.inl h2))]
 rw[if_neg (by omega)];by_cases h3:500<p.aR.length
 ·rw[if_pos (by omega),if_pos (.inr (.inr (.inl h3)))]
 rw[if_neg (by omega)];by_cases h4:500<p.aP.length
 ·rw[if_pos (by omega),if_pos (.inr (.inr (.inr (.inl h4))))]
 rw[if_neg (by omega)];by_cases h5:500<p.values.length
 ·rw[if_pos (by omega),if_pos (.inr (.inr (.inr (.inr h5))))]
 rw[if_neg (by omega),if_neg (show ¬ (_\/_) by omega)];rw[aT (mA hp.rn),aX];by_cases g1:iS ah.id p.az;rotate_left
 ·rw[if_neg g1,if_neg λh=>g1 h.1]
 rw[if_pos g1,aT (mB hp.re),aX];by_cases g2:iS ak.id p.aF;rotate_left
 ·rw[if_neg g2,if_neg λh=>g2 h.2.1]
 rw[if_pos g2,aT (mA hp.an),aX];by_cases g3:iS ah.id p.aR;rotate_left
 ·rw[if_neg g3,if_neg λh=>g3 h.2.2.1]
 rw[if_pos g3,aT (mB hp.ae),aX];by_cases g4:iS ak.id p.aP;rotate_left
 ·rw[if_neg g4,if_neg λh=>g4 h.2.2.2.1]
 rw[if_pos g4,aT (aen hp.va),aX];by_cases g5:p.values.Pairwise ltV
 ·rw[if_pos g5,if_pos ⟨g1,g2,g3,g4,g5⟩]
 ·rw[if_neg g5,if_neg λh=>g5 h.2.2.2.2]
theorem aqB(a b:Int):gX a b=some (qv a b):=by
 unfold gX;rw[aT (show ji a=some false by unfold ji;simp),aT (show ji b=some false by unfold ji;simp),cond_false,cond_false,aX,aX];unfold qv;split
 ·rfl
 ·split<;>rfl
theorem aIs(a b:Int):qw [a,b]=some (if a=0 then b else a):=by
 unfold qw;rw[bw (bt (by simp))];show bZ _ 2 0 () _=_;simp only[bZ,List.getElem?_cons_zero,List.getElem?_cons_succ,mo,aX];by_cases h:a=0
 ·rw[if_pos h,if_pos h];by_cases h2:b=0
  ·rw[if_pos h2,h2]
  ·rw[if_neg h2]
 ·rw[if_neg h,if_neg h]
theorem acA{a b:Int} : ¬ (0<=qv a b)↔a<b:=by
 unfold qv;split
 ·omega
 ·split<;>omega
theorem ayW(a b:ah):gE a b=some (qv a.id b.id):=by unfold gE;rw[aT (aqB _ _)]
theorem ayX(a b:ak):gF a b=some (qv a.id b.id):=by unfold gF;rw[aT (aqB _ _)]
theorem aul(a b:aM):iV a b=some (if qv a.id b.id=0 then qv a.attr b.attr else qv a.id b.id):=by unfold iV;rw[aT (aqB _ _),aT (aqB _ _),aT (aIs _ _)]
theorem yc{l:List ah}(hl:l.length<=1000000):dX l (λa b=>gE a b)=some (decide (iS ah.id l)):=by
 unfold dX;rw[bw (bt (by omega))];rw[wP (λa b:ah=>a.id<b.id) (λa b c h1 h2=>by omega) (some true) (some false) rfl λi hi h1 cv=>?_]
 ·by_cases h:l.Pairwise λa b:ah=>a.id<b.id
  ·rw[if_pos h,dK (show iS ah.id l from h)]
  ·rw[if_neg h,eZ (show ¬ iS ah.id l from h)]
 ·have e:l[(((i:Nat):Int)-1).toNat]'(by omega)=l[i-1]'(by omega):=by congr 1;omega
  rw[dJ (by omega),fS (by omega) (by omega),bR hi,e];rw[aT (ayW _ _),aX,aX];by_cases h:(l[i-1]'(by omega)).id<l[i].id
  ·rw[if_pos h,if_neg (acA.2 h)]
  ·rw[if_neg h,if_pos (Decidable.of_not_not λh2=>h (acA.1 h2))]
theorem yd{l:List ak}(hl:l.length<=1000000):dY l (λa b=>gF a b)=some (decide (iS ak.id l)):=by
 unfold dY;rw[bw (bt (by omega))];rw[wP (λa b:ak=>a.id<b.id) (λa b c h1 h2=>by omega) (some true) (some false) rfl λi hi h1 cv=>?_]
 ·by_cases h:l.Pairwise λa b:ak=>a.id<b.id
  ·rw[if_pos h,dK (show iS ak.id l from h)]
  ·rw[if_neg h,eZ (show ¬ iS ak.id l from h)]
 ·have e:l[(((i:Nat):Int)-1).toNat]'(by omega)=l[i-1]'(by omega):=by congr 1;omega
  rw[dJ (by omega),fS (by omega) (by omega),bR hi,e];rw[aT (ayX _ _),aX,aX];by_cases h:(l[i-1]'(by omega)).id<l[i].id
  ·rw[if_pos h,if_neg (acA.2 h)]
  ·rw[if_neg h,if_pos (Decidable.of_not_not λh2=>h (acA.1 h2))]
theorem adq{l:List aM}(hl:l.length<=1000000):ff l (λa b=>iV a b)=some (decide (l.Pairwise ltV)):=by
 unfold ff;rw[bw (bt (by omega))];rw[wP ltV ayV (some true) (some false) rfl λi hi h1 cv=>?_]
 ·by_cases h:l.Pairwise ltV
  ·rw[if_pos h,dK h]
  ·rw[if_neg h,eZ h]
 ·have e:l[(((i:Nat):Int)-1).toNat]'(by omega)=l[i-1]'(by omega):=by congr 1;omega
  rw[dJ (by omega),fS (by omega) (by omega),bR hi,e];rw[aT (aul _ _),aX,aX];generalize l[i]=x;generalize l[i-1]'(by omega)=y;have hv:ltV y x↔(y.id<x.id\/y.id=x.id/\y.attr<x.attr):=Iff.rfl;have hc:(0<=if qv y.id x.id=0 then qv y.attr x.attr else qv y.id x.id)↔¬ ltV y x:=by
   rw[hv];unfold qv;by_cases h1:y.id<x.id
   ·rw[if_pos h1,if_neg (by omega)];omega
   ·rw[if_neg h1];by_cases h2:y.id > x.id
    ·rw[if_pos h2,if_neg (by omega)];omega
    ·rw[if_neg h2,if_pos rfl];split
     ·omega
     ·split<;>omega
  by_cases h:ltV y x
  ·rw[if_pos h,if_neg λh2=>hc.1 h2 h]
  ·rw[if_neg h,if_pos (hc.2 h)]
theorem ayY{p:aG}(hp:jf p):l8 p=some (rV p):=by
 unfold l8 rV;rw[aX];by_cases h0:500<p.az.length\/500<p.aF.length\/500<p.aR.length\/500<p.aP.length\/500<p.values.length
 ·rw[if_pos (by omega),if_pos h0]
 rw[if_neg (by omega),if_neg h0];rw[aT (yc hp.rn),aX];by_cases g1:iS ah.id p.az;rotate_left
 ·rw[if_neg g1,if_neg λh=>g1 h.1]
 rw[if_pos g1,aT (yc hp.an),aX];by_cases g3:iS ah.id p.aR;rotate_left
 ·rw[if_neg g3,if_neg λh=>g3 h.2.2.1]
 rw[if_pos g3,aT (yd hp.re),aX];by_cases g2:iS ak.id p.aF;rotate_left
 ·rw[if_neg g2,if_neg λh=>g2 h.2.1]
 rw[if_pos g2,aT (yd hp.ae),aX];by_cases g4:iS ak.id p.aP;rotate_left
 ·rw[if_neg g4,if_neg λh=>g4 h.2.2.2.1]
 rw[if_pos g4,aT (adq hp.va),aX];by_cases g5:p.values.Pairwise ltV
 ·rw[if_pos g5,if_pos ⟨g1,g2,g3,g4,g5⟩]
 ·rw[if_neg g5,if_neg λh=>g5 h.2.2.2.2]
theorem zo{α:Type}{q:α->α->Bool}{l:List α}{n:α} : ((wN q l n).1).Sublist l:=by
 unfold wN;split
 ·exact List.Sublist.refl _
 ·rw[<-List.eraseIdx_eq_take_drop_succ];exact List.eraseIdx_sublist ..
theorem afR(x:List ah):∀ (r y:List ak),ot (λ(x:List ah) y e=>((x,(wN rU y e).1),(wN rU y e).2)) x y r=((x,(iD rU y r).1),(iD rU y r).2)
 | [],y=>rfl
 |e :: r,y=>by
  rw[ot,iD];simp only;split
  ·exact afR x r _
  ·rename_i h;simp only[Bool.not_eq_true] at h;rw[h]
theorem afS(y:List ak):∀ (r x:List ah),ot (λx (y:List ak) e=>(((wN eD x e).1,y),(wN eD x e).2)) x y r=(((iD eD x r).1,y),(iD eD x r).2)
 | [],x=>rfl
 |e :: r,x=>by
  rw[ot,iD];simp only;split
  ·exact afS y r _
  ·rename_i h;simp only[Bool.not_eq_true] at h;rw[h]
theorem ahY(y:List ak):∀ (r:List aM) (x:List ah),ot (λx (y:List ak) v=>((x.map (sD v),y),x.any (mw v))) x y r=(((gy x r).1,y),(gy x r).2)
 | [],x=>rfl
 |e :: r,x=>by
  rw[ot,gy];simp only;split
  ·exact ahY y r _
  ·rename_i h;simp only[Bool.not_eq_true] at h;rw[h]
def ayZ(s:aO)(p:aG):aO×Bool :=
 if (iD rU s.au p.aF).2=true then
  if (iD eD s.nodes p.az).2=true then (⟨(gy (iD eD s.nodes p.az).1 p.values).1,(iD rU s.au p.aF).1⟩,(gy (iD eD s.nodes p.az).1 p.values).2)
  else (⟨(iD eD s.nodes p.az).1,(iD rU s.au p.aF).1⟩,false)
 else (⟨s.nodes,(iD rU s.au p.aF).1⟩,false)
def Rows(l:List ah):Prop:=∀n∈l,n.values.length<=1000
theorem adr{l:List ah}(h:Rows l)(v:aM):Rows (l.map (sD v)):=λn hn=>by obtain⟨m,hm,rfl⟩:=List.mem_map.1 hn;rw[afM];exact h m hm
def vY{α O:Type}(l:List α)(f:aO->α->Option (aO×Bool))(s:Bool×Int×List ah×List ak)(cv brk:Bool×Int×List ah×List ak->Option O):Option O :=
  cond (decide (s.2.1<((l.length:Nat):Int))) (
   cond s.1 (
    thn (nc l s.2.1) λe =>
    thn (f (⟨s.2.2.1,s.2.2.2⟩:aO) e) λr =>
    cv (r.2,(i64.wrap (s.2.1+1)),r.1.nodes,r.1.au)) <|
   brk (s.1,s.2.1,s.2.2.1,s.2.2.2)) <|
  brk (s.1,s.2.1,s.2.2.1,s.2.2.2)
theorem zp{α O:Type}{K:Bool×Int×List ah×List ak->Option O}(l:List α)(f:aO->α->Option (aO×Bool))(step:List ah->List ak->α->(List ah×List ak)×Bool)(inv:List ah->List ak->Prop)(hl:l.length<=1000000)
  (h:∀x y e,inv x y->f ⟨x,y⟩ e=some (⟨(step x y e).1.1,(step x y e).1.2⟩,(step x y e).2)/\inv (step x y e).1.1 (step x y e).1.2) (b:Bool) (x:List ah) (y:List ak) (hv:inv x y) :
  ∃j,iter (vY l f) fuel (b,0,x,y) K=K (if b=true then (ot step x y l).2 else false,j,if b=true then (ot step x y l).1.1 else x,if b=true then (ot step x y l).1.2 else y)/\(b=true->inv (ot step x y l).1.1 (ot step x y l).1.2):=by
 refine ayS l step inv hl (λi x y cv=>?_) (λx y cv=>?_) (λi hi x y cv hxy=>?_) b x y hv
 ·unfold vY;simp only;cases decide (i<((l.length:Nat):Int))<;>rfl
 ·unfold vY;simp
 ·obtain⟨h1,h2⟩:=h x y l[i] hxy;unfold vY;simp only;rw[dK (by omega),cond_true,cond_true,fS (by omega) (by simpa using hi),dJ (by omega)];exact⟨by rw[show l[((i:Nat):Int).toNat]'(by simpa using hi)=l[i] from rfl,aT h1];rfl,h2⟩
theorem aC1(s:aO)(p:aG)(hn:s.nodes.length<=1000000)(he:s.au.length<=1000000)(hv:Rows s.nodes)(hp:jf p):fP s p=some (ayZ s p):=by
 unfold fP;show iter (vY p.aF cD) fuel (true,0,s.nodes,s.au) (λs1=>iter (vY p.az cc) fuel (s1.1,0,s1.2.2.1,s1.2.2.2) λs2=>iter (vY p.values cK) fuel (s2.1,0,s2.2.2.1,s2.2.2.2) λs3=>some ((⟨s3.2.2.1,s3.2.2.2⟩:aO),s3.1))=_;obtain⟨j1,e1,_⟩:=zp (K:=λs1=>iter (vY p.az cc) fuel (s1.1,0,s1.2.2.1,s1.2.2.2) λs2=>iter (vY p.values cK) fuel (s2.1,0,s2.2.2.1,s2.2.2.2) λs3=>some ((⟨s3.2.2.1,s3.2.2.2⟩:aO),s3.1)) p.aF cD (λ(x:List ah) y e=>((x,(wN rU y e).1),(wN rU y e).2)) (λx y=>y.length<=1000000) hp.re
  (λx y e hy=>⟨ahW ⟨x,y⟩ e hy,Nat.le_trans (zo (q:=rU)).length_le hy⟩) true s.nodes s.au he
 rw[e1];simp only[if_true,afR];obtain⟨j2,e2,i2⟩:=zp (K:=λs2=>iter (vY p.values cK) fuel (s2.1,0,s2.2.2.1,s2.2.2.2) λs3=>some ((⟨s3.2.2.1,s3.2.2.2⟩:aO),s3.1)) p.az cc (λx (y:List ak) e=>(((wN eD x e).1,y),(wN eD x e).2)) (λx y=>x.length<=1000000/\Rows x) hp.rn
  (λx y e hy=>⟨ahX ⟨x,y⟩ e hy.1 λn hn=>by have:=hy.2 n hn;omega,Nat.le_trans (zo (q:=eD)).length_le hy.1,λn hn=>hy.2 n (zo.mem hn)⟩) (iD rU s.au p.aF).2 s.nodes (iD rU s.au p.aF).1 ⟨hn,hv⟩
 rw[e2];simp only[afS] at i2 ⊢;obtain⟨j3,e3,_⟩:=zp (K:=λs3=>some ((⟨s3.2.2.1,s3.2.2.2⟩:aO),s3.1)) p.values cK (λx (y:List ak) v=>((x.map (sD v),y),x.any (mw v))) (λx y=>x.length<=1000000/\Rows x) hp.va
  (λx y v hy=>⟨aEK ⟨x,y⟩ v hy.1 λn hn=>by have:=hy.2 n hn;omega,by simpa using hy.1,adr hy.2 _⟩) (if (iD rU s.au p.aF).2=true then (iD eD s.nodes p.az).2 else false) (if (iD rU s.au p.aF).2=true then (iD eD s.nodes p.az).1 else s.nodes) (if (iD rU s.au p.aF).2=true then (iD rU s.au p.aF).1 else (iD rU s.au p.aF).1) (by
  split
  ·rename_i h;exact i2 h
  ·exact⟨hn,hv⟩)
 rw[e3];simp only[ahY];unfold ayZ;cases h1:(iD rU s.au p.aF).2 with
 |false=>simp
 |true =>
  simp only[if_true];cases h2:(iD eD s.nodes p.az).2 with
  |false=>simp
  |true=>simp
theorem aBZ(s:aO)(id:Int)(hn:s.nodes.length<=1000000)(he:s.au.length<=1000000):eM s id=some (k9 s.nodes s.au id):=by
 unfold eM k9;rw[bw (bt (by omega))];rw[oG s.nodes (λn=>!decide (n.id=id)) (λ_=>some true) (λi hi cv=>by rw[bR hi,iN]),pI];by_cases h1:(s.nodes.all λn=>!decide (n.id=id))=true
 ·rw[if_pos h1,bw (bt (by omega))];rw[oG s.au (λn=>!decide (n.id=id)) (λ_=>some true) (λi hi cv=>by rw[bR hi,iN]),pI];rw[List.all_eq_not_any_not] at h1 ⊢;simp only[Bool.not_not] at h1 ⊢;rw[show (s.nodes.any λn=>decide (n.id=id))=false by simpa using h1,Bool.false_or];cases s.au.any λn=>decide (n.id=id)<;>rfl
 ·rw[if_neg h1];rw[List.all_eq_not_any_not] at h1;simp only[Bool.not_not] at h1;rw[show (s.nodes.any λn=>decide (n.id=id))=true by simpa using h1];rfl
def ay0(s:aO)(p:aG):aO×Bool:=if gM s.nodes s.au p=true then (s,false) else (⟨kG (s.nodes++p.aR),nT (s.au++p.aP)⟩,true)
theorem aC2(s:aO)(p:aG)(hn:s.nodes.length<=1000000)(he:s.au.length<=1000000)(aN:iS ah.id s.nodes)(aE:iS ak.id s.au)(hp:jf p)(ho:Ordered p):fQ s p=some (ay0 s p):=by
 have hpn:=hp.an;have hpe:=hp.ae;unfold fQ ay0;rw[bw (bt (by omega))];rw[oG p.aR (λn=>!k9 s.nodes s.au n.id) (λ_=>some (s,false)) (λi hi cv=>by rw[bR hi,aT (aBZ s _ hn he),iN]),pI];by_cases h1:(p.aR.all λn=>!k9 s.nodes s.au n.id)=true;rotate_left
 ·rw[if_neg h1];rw[List.all_eq_not_any_not] at h1;simp only[Bool.not_not] at h1;have e:gM s.nodes s.au p=true:=by unfold gM;rw[show (p.aR.any λn=>k9 s.nodes s.au n.id)=true by simpa using h1];rfl
  rw[if_pos e]
 rw[if_pos h1,bw (bt (by omega))];rw[List.all_eq_not_any_not] at h1;simp only[Bool.not_not] at h1;have tA:(p.aR.any λn=>k9 s.nodes s.au n.id)=false:=by simpa using h1
 rw[oG p.aP (λn=>!k9 s.nodes s.au n.id) (λ_=>some (s,false)) (λi hi cv=>by rw[bR hi,aT (aBZ s _ hn he),iN]),pI];by_cases h2:(p.aP.all λn=>!k9 s.nodes s.au n.id)=true;rotate_left
 ·rw[if_neg h2];rw[List.all_eq_not_any_not] at h2;simp only[Bool.not_not] at h2;have e:gM s.nodes s.au p=true:=by unfold gM;rw[show (p.aP.any λn=>k9 s.nodes s.au n.id)=true by simpa using h2,Bool.or_true]
  rw[if_pos e]
 rw[if_pos h2];rw[List.all_eq_not_any_not] at h2;simp only[Bool.not_not] at h2;have h2':(p.aP.any λn=>k9 s.nodes s.au n.id)=false:=by simpa using h2
 have ht:gM s.nodes s.au p=false:=by unfold gM;rw[tA,h2'];rfl
 rw[if_neg (by rw[ht];simp)];obtain⟨f1,f2⟩:=abx ht;have dN:∀a∈s.nodes,∀b∈p.aR,a.id≠b.id:=λa ha b hb=>(f1 b hb).1 a ha
 have dE:∀a∈s.au,∀b∈p.aP,a.id≠b.id:=λa ha b hb=>(f2 b hb).2 a ha
 refine Ok.eq ?_;refine adV ah.id s.nodes p.aR aN ho.an dN hn hp.an λout ayT hmem _ _=>?_
 have e1:out=kG (s.nodes++p.aR):=ayT.ext (ado (mq aN ho.an dN)) λx=>by rw[hmem,tV,List.mem_append]
 refine adV ak.id s.au p.aP aE ho.ae dE he hp.ae λaIt aEL aEM _ _=>?_
 have e2:aIt=nT (s.au++p.aP):=aEL.ext (adp (mq aE ho.ae dE)) λx=>by rw[aEM,wO,List.mem_append]
 subst e1 e2;exact Ok.mk rfl
def bK(ids:List Int)(n:Int):Int:=wL (λy=>decide (y=n)) ids
def mC(ids:List Int)(e:ak):Edge:=⟨e.type,bK ids e.src,bK ids e.dst⟩
def dF(N:List ah)(E:List ak)(next:Int):ax:=⟨⟨⟨N.map ah.type,E.map (mC (N.map ah.id))⟩,N.map ah.values⟩,N.map ah.id,E.map ak.id,next⟩
theorem aby:∀ (l:List ah) (a:List Int×List (List Int)×List Int),l.foldl (λ(s:List Int×List (List Int)×List Int) n=>(s.1++[n.type],s.2.1++[n.values],s.2.2++[n.id])) a=(a.1++l.map ah.type,a.2.1++l.map ah.values,a.2.2++l.map ah.id)
 | [],a=>by simp
 |n :: l,a=>by rw[List.foldl_cons,aby l];simp
theorem afT(ids:List Int):∀ (l:List ak) (a:List Edge×List Int),l.foldl (λ(s:List Edge×List Int) e=>(s.1++[mC ids e],s.2++[e.id])) a=(a.1++l.map (mC ids),a.2++l.map ak.id)
 | [],a=>by simp
 |n :: l,a=>by rw[List.foldl_cons,afT ids l];simp
theorem sY(s:aO)(next:Int)(hn:s.nodes.length<=1000000)(he:s.au.length<=1000000)(hv:Rows s.nodes):cW s next=some (dF s.nodes s.au next):=by
 unfold cW;rw[bw (bt (by omega))];rw[(rN s.nodes (λ(s:List Int×List (List Int)×List Int) n=>(s.1++[n.type],s.2.1++[n.values],s.2.2++[n.id])) (λi s=>s.1.length=i/\s.2.1.length=i/\s.2.2.length=i) ⟨rfl,rfl,rfl⟩ ?_).1]
 ·rw[aby];simp only[List.nil_append];rw[bw (bt (by omega))];rw[(rN s.au (λ(s1:List Edge×List Int) e=>(s1.1++[mC (s.nodes.map ah.id) e],s1.2++[e.id])) (λi s=>s.1.length=i/\s.2.length=i) ⟨rfl,rfl⟩ ?_).1]
  ·rw[afT];rfl
  ·rintro i hi ⟨a,b⟩ ⟨h1,h2⟩;simp only at h1 h2;refine⟨λcv=>?_,by simp[h1],by simp[h2]⟩;rw[bR hi,bw (by simp only;omega),aT (c9 (by simpa using hn) _),aT (c9 (by simpa using hn) _),bw (by simp only;omega)];rfl
 ·rintro i hi ⟨a,b,c⟩ ⟨h1,h2,h3⟩;simp only at h1 h2 h3;refine⟨λcv=>?_,by simp[h1],by simp[h2],by simp[h3]⟩;have:=hv _ (nI hi);rw[bR hi,bw (by simp only;omega),bw (by simp only;omega),bw (by omega),bw (by simp only;omega)]
def zq(ids:List Int)(e:ak):Bool:=decide (0<=bK ids e.src)&&decide (0<=bK ids e.dst)
theorem adW{l:List Int}(h:l.length<=1000000):mX l=some l:=tg h
theorem acB(N:List ah)(E:List ak)(next:Int)(hn:N.length<=1000000)(he:E.length<=1000000)(hv:Rows N):kT N E next=some (if E.all (zq (N.map ah.id))=true then (dF N E next,true) else (kV,false)):=by
 unfold kT;rw[bw (bt (by omega))];rw[(rN N (λ(s:List Int×List (List Int)×List Int) n=>(s.1++[n.type],s.2.1++[n.values],s.2.2++[n.id])) (λi s=>s.1.length=i/\s.2.1.length=i/\s.2.2.length=i) ⟨rfl,rfl,rfl⟩ ?_).1]
 ·rw[aby];simp only[List.nil_append];rw[bw (bt (by omega))];refine Ok.eq ?_;refine tG (λj s=>j<=E.length/\s=((E.take j).map (mC (N.map ah.id)),(E.take j).map ak.id)/\(E.take j).all (zq (N.map ah.id))=true) (Nat.zero_le _) ⟨Nat.zero_le _,by simp,by simp⟩ ?_ ?_
  ·rintro j s cv _ hj ⟨_,rfl,ha⟩ hnx;refine oL hj (ok_eq (pT (by simpa using hn) _) (ok_eq (pT (by simpa using hn) _) ?_));have hno:zq (N.map ah.id) E[j]=false->(if E.all (zq (N.map ah.id))=true then (dF N E next,true) else (kV,false))=(kV,false):=λh=>by rw[if_neg];intro h2;rw[List.all_eq_true.1 h2 _ (nI hj)] at h;cases h
   refine cV (λhc=>?_) λhc=>?_
   ·refine Ok.mk ?_;rw[hno]
    ·rfl
    ·unfold zq bK;have:=cu hc;rw[eZ (by omega),Bool.false_and]
   refine cV (λy6=>?_) λy6=>?_
   ·refine Ok.mk ?_;rw[hno]
    ·rfl
    ·unfold zq bK;have:=cu y6;rw[eZ (p:=0<=wL (λy=>decide (y=E[j].dst)) (N.map ah.id)) (by omega),Bool.and_false]
   have c1:=en hc;have c2:=en y6;have he2:zq (N.map ah.id) E[j]=true:=by unfold zq;rw[Bool.and_eq_true];exact⟨dK (Int.not_lt.1 c1),dK (Int.not_lt.1 c2)⟩
   refine cq (by simp;omega) (cq (by simp;omega) (hnx _ ⟨hj,?_,?_⟩))
   ·rw[List.take_add_one,List.getElem?_eq_getElem hj,Option.toList_some,List.map_append,List.map_append];rfl
   ·rw[List.take_add_one,List.getElem?_eq_getElem hj,Option.toList_some,List.all_append,ha];simpa using he2
  ·rintro s ⟨_,rfl,ha⟩;rw[List.take_length] at ha ⊢;rw[if_pos ha];exact Ok.mk rfl
 ·rintro i hi ⟨a,b,c⟩ ⟨h1,h2,h3⟩;simp only at h1 h2 h3;refine⟨λcv=>?_,by simp[h1],by simp[h2],by simp[h3]⟩;have:=hv _ (nI hi);rw[bR hi,bw (by simp only;omega),bw (by simp only;omega),aT (adW (by omega)),bw (by simp only;omega)]
theorem afU{t:Types}{N:List ah}{E:List ak}{next:Int}(h:gd t (dF N E next)):E.all (zq (N.map ah.id))=true:=by
 rw[List.all_eq_true];intro e he;obtain⟨j,hj,rfl⟩:=List.getElem_of_mem he;have:=h.host.graph.iu j (by simpa[dF] using hj);simp only[dF] at this;have hg:(E.map (mC (N.map ah.id))).getD j default=mC (N.map ah.id) E[j]:=by simp[hj]
 rw[hg] at this;unfold zq;rw[Bool.and_eq_true];exact⟨dK this.2.1.1,dK this.2.2.1⟩
def afV(a:ax)(p:aG):Option (List ah×List ak) :=
 if mu eD (bC a) p.az=true/\mu rU (cT a) p.aF=true then
  if (gy (less eD (bC a) p.az) p.values).2=true then
   if gM (gy (less eD (bC a) p.az) p.values).1 (less rU (cT a) p.aF) p=true then none
   else some (kG ((gy (less eD (bC a) p.az) p.values).1++p.aR),nT (less rU (cT a) p.aF++p.aP))
  else none
 else none
def xI(t:Types)(a:ax)(p:aG):ax×Int :=
 if rV p≠0 then (kV,rV p) else if p.next.x0≠a.next then (kV,11) else match afV a p with
 |none=>(kV,11)
 |some s=>if lg t (dF s.1 s.2 p.next.x1)≠0 then (kV,1) else (dF s.1 s.2 p.next.x1,0)
def nP(t:Types)(a:ax)(p:aG):ax×Int:=if lg t a≠0 then (kV,lg t a) else xI t a p
section
variable{t:Types}{a:ax}{p:aG}
theorem jl(ha:gd t a)(hb:sM a.host):Rows (bC a):=λn hn=>by
 obtain⟨i,hi,rfl⟩:=List.mem_map.1 hn;have hi:i<a.nodes.length:=by simpa using hi
 refine hb.row _ ?_;have:i<a.host.values.length:=by rw[ha.host.ael,<-ha.sW];exact hi
 simp[bF,this]
theorem afW{α:Type}{q:α->α->Bool}{l r:List α} : (less q l r).length<=l.length:=List.length_filter_le _ _
theorem adX:∀ (r:List aM) (l:List ah),Rows l->Rows (gy l r).1
 | [],l,h=>h
 |v :: r,l,h=>by
  rw[gy];split
  ·exact adX r _ (adr h v)
  ·exact adr h v
theorem aum{N:List ah}{E:List ak}{next:Int}(h1:N.length<=1000)(h2:E.length<=1000)(h3:Rows N):j4 (dF N E next) :=
 ⟨⟨⟨by simpa[dF] using h1,by simpa[dF] using h2⟩,by simpa[dF] using h1,λl hl=>by
  obtain⟨n,hn,rfl⟩:=List.mem_map.1 hl;exact h3 n hn⟩,by simp[dF];omega,by simp[dF];omega⟩
structure Mid(a:ax)(p:aG):Prop where
 n:(gy (less eD (bC a) p.az) p.values).1.length<=40
 e:(less rU (cT a) p.aF).length<=80
 rows:Rows (gy (less eD (bC a) p.az) p.values).1
 aem:iS ah.id (gy (less eD (bC a) p.az) p.values).1
 agX:iS ak.id (less rU (cT a) p.aF)
theorem apH(ha:gd t a)(hb:sM a.host):Mid a p:=by have h1:=ha.n40;have h2:=ha.e80;have l1:=afW (q:=eD) (l:=bC a) (r:=p.az);have l2:=afW (q:=rU) (l:=cT a) (r:=p.aF);rw[gU] at l1;rw[gz] at l2;exact⟨by rw[(vt _ _).len];omega,by omega,adX _ _ λn hn=>jl ha hb n (List.mem_filter.1 hn).1,abw _ _ (zm ha.aem),zm ha.agX⟩
theorem Small.add(hs:Small p)(hm:Mid a p)(hp:jf p)(next:Int):j4 (dF (kG ((gy (less eD (bC a) p.az) p.values).1++p.aR)) (nT (less rU (cT a) p.aF++p.aP)) next):=by
 have h1:=hm.n;have h2:=hm.e;have h3:=hs.an;have h4:=hs.ae;refine aum (by rw[ahU,List.length_append];omega) (by rw[ahV,List.length_append];omega) λn hn=>?_
 rcases List.mem_append.1 (tV.1 hn) with h|h
 ·exact hm.rows n h
 ·exact hp.av n h
theorem afX(ho:Ordered p):p.az.Pairwise λa b=>a.id≠b.id:=List.Pairwise.imp (λh=>by omega) ho.rn
theorem afY(ho:Ordered p):p.aF.Pairwise λa b=>a.id≠b.id:=List.Pairwise.imp (λh=>by omega) ho.re
theorem aun(ht:fM t)(ha:gd t a)(hb:sM a.host)(hp:jf p):fG t a p=some (xI t a p):=by
 have h1:=ha.n40;have h2:=ha.e80;unfold fG xI;rw[aT (l_ordered hp),aX];by_cases hsh:rV p=0;rotate_left
 ·rw[if_neg hsh,if_pos hsh];rfl
 obtain⟨hs,ho⟩:=tL.1 hsh;rw[if_pos hsh,if_neg (λh=>h hsh),aX];by_cases hx:p.next.x0=a.next
 rotate_left
 ·rw[if_neg hx,if_pos hx];rfl
 rw[if_pos hx,if_neg (λh=>h hx),aT (show eH ⟨a.host,a.nodes,a.au,a.next⟩=_ from afP ha λl hl=>by have:=hb.row l hl;omega)];rw[aT (aC1 ⟨bC a,cT a⟩ p (by rw[gU];omega) (by rw[gz];omega) (jl ha hb) hp)];obtain⟨c1,c2⟩:=zl (q:=eD) (λ_ _=>rO) p.az (bC a) ha.aem (afX ho);obtain⟨d1,d2⟩:=zl (q:=rU) (λ_ _=>aew) p.aF (cT a) ha.agX (afY ho);unfold ayZ afV;simp only[c1,d1] at c2 d2 ⊢;by_cases g1:mu rU (cT a) p.aF=true;rotate_left
 ·rw[if_neg g1,cond_false,if_neg λh=>g1 h.2];rfl
 by_cases g2:mu eD (bC a) p.az=true;rotate_left
 ·rw[if_pos g1,if_neg g2,cond_false,if_neg λh=>g2 h.1];rfl
 rw[if_pos g1,if_pos g2,if_pos ⟨g2,g1⟩,c2 g2,d2 g1];have hm:=apH (p:=p) ha hb;have m1:=hm.n;have m2:=hm.e;by_cases g3:(gy (less eD (bC a) p.az) p.values).2=true;rotate_left
 ·rw[if_neg g3];simp only[Bool.not_eq_true] at g3;simp only[g3,cond_false];try rfl
 rw[if_pos g3];simp only[g3,cond_true];rw[aT (aC2 _ p (by simp only;omega) (by simp only;omega) hm.aem hm.agX hp ho)];unfold ay0;simp only;by_cases g4:gM (gy (less eD (bC a) p.az) p.values).1 (less rU (cT a) p.aF) p=true
 ·rw[if_pos g4,if_pos g4];rfl
 rw[if_neg g4,if_neg g4];simp only[cond_true];have hbt:=hs.add hm hp p.next.x1
 have e1:=hbt.nodes;have e2:=hbt.au;have e3:=hbt.host.row;rw[aT (sY _ _ (by simpa[dF] using e1) (by simpa[dF] using e2) λn hn=>e3 _ (List.mem_map_of_mem hn))];rw[aT (show b8 ⟨t.nodes,t.au⟩ _=_ from mz ht hbt),aX];by_cases g5:lg t (dF (kG ((gy (less eD (bC a) p.az) p.values).1++p.aR)) (nT (less rU (cT a) p.aF++p.aP)) p.next.x1)=0
 ·rw[if_pos g5,if_neg (λh=>h g5)]
 ·rw[if_neg g5,if_pos g5];rfl
theorem uM(ht:fM t)(hb:j4 a)(hp:jf p):bN t a p=some (nP t a p):=by
 unfold bN nP;rw[aT (show b8 ⟨t.nodes,t.au⟩ ⟨a.host,a.nodes,a.au,a.next⟩=_ from mz ht hb),aX];by_cases h:lg t a=0
 ·rw[if_pos h,if_neg (λh2=>h2 h),aT (show fG ⟨t.nodes,t.au⟩ ⟨a.host,a.nodes,a.au,a.next⟩ p=_ from aun ht (dm.1 h) hb.host hp)]
 ·rw[if_neg h,if_pos h];rfl
theorem ay1(ht:fM t)(ha:gd t a)(hb:sM a.host)(hp:jf p):j9 t a p=some (xI t a p):=by
 have h1:=ha.n40;have h2:=ha.e80;unfold j9 xI;rw[aT (ayY hp),iN,aX];by_cases hsh:rV p=0;rotate_left
 ·rw[if_neg hsh,if_pos hsh]
 obtain⟨hs,ho⟩:=tL.1 hsh;have s1:=hs.rn;have s2:=hs.re;have s3:=hs.an;have s4:=hs.ae;have s5:=hs.va;rw[if_pos hsh,if_neg (λh=>h hsh)];rw[aT (tg ⟨by rw[ha.sW];exact Nat.le_refl _,by rw[ha.host.ael,ha.sW];exact Nat.le_refl _,by omega,λl hl=>by have:=hb.row l hl;omega,by omega,by omega,by omega,by omega,by omega,λn hn=>by have:=hp.rv n hn;omega⟩)];rw[aT (sX ha),aT (tg (by rw[gz];omega)),iN,aX];by_cases hx:p.next.x0=a.next
 rotate_left
 ·rw[if_neg hx,if_pos hx]
 rw[if_pos hx,if_neg (λh=>h hx)];obtain⟨c1,c2⟩:=afJ (q:=eD) (λ_ _=>rO) p.az (bC a) 0 ha.aem (afX ho);obtain⟨d1,d2⟩:=afJ (q:=rU) (λ_ _=>aew) p.aF (cT a) 0 ha.agX (afY ho);rw[afK,afL,c1,d1,iN];unfold afV;by_cases g1:mu eD (bC a) p.az=true/\mu rU (cT a) p.aF=true;rotate_left
 ·rw[if_neg g1];have:(mu eD (bC a) p.az&&mu rU (cT a) p.aF)=false:=by rw[Bool.eq_false_iff];intro h;exact g1 (by rw[Bool.and_eq_true] at h;exact h)
  rw[this,cond_false]
 rw[if_pos g1,g1.1,g1.2,Bool.and_true,cond_true,c2 (c1.trans g1.1),d2 (d1.trans g1.2)];have hm:=apH (p:=p) ha hb;have m1:=hm.n;have m2:=hm.e;have l1:=afW (q:=eD) (l:=bC a) (r:=p.az);rw[gU] at l1;rw[aT (tg ⟨by omega,by omega⟩)];obtain⟨v1,v2⟩:=afN p.values (less eD (bC a) p.az) (zm ha.aem);rw[v1,iN];by_cases g3:(gy (less eD (bC a) p.az) p.values).2=true;rotate_left
 ·rw[if_neg g3];simp only[Bool.not_eq_true] at g3;rw[g3,cond_false]
 rw[if_pos g3,g3,cond_true,v2 (v1.trans g3)];rw[aT (tg ⟨by omega,λhf=>⟨amn (mq hm.aem ho.an λa ha b hb=>((abx hf).1 b hb).1 a ha),amn (mq hm.agX ho.ae λa ha b hb=>((abx hf).2 b hb).2 a ha)⟩⟩)];by_cases g4:gM (gy (less eD (bC a) p.az) p.values).1 (less rU (cT a) p.aF) p=true
 ·rw[if_pos g4,g4,cond_true]
 rw[if_neg g4];simp only[Bool.not_eq_true] at g4;rw[g4,cond_false];have hbt:=hs.add hm hp p.next.x1
 have e1:=hbt.nodes;have e2:=hbt.au;have e3:=hbt.host.row;rw[aT (acB _ _ _ (by simpa[dF] using e1) (by simpa[dF] using e2) λn hn=>e3 _ (List.mem_map_of_mem hn)),iN];simp only;by_cases g5:lg t (dF (kG ((gy (less eD (bC a) p.az) p.values).1++p.aR)) (nT (less rU (cT a) p.aF++p.aP)) p.next.x1)=0
 ·rw[if_pos (afU (dm.1 g5)),if_neg (λh=>h g5),cond_true,aT (nA ht hbt),iN,aX,if_pos g5]
 ·rw[if_pos (c:=_≠_) g5];split
  ·rw[cond_true,aT (nA ht hbt),iN,aX,if_neg g5]
  ·rw[cond_false]
theorem acC(ht:fM t)(hb:j4 a)(hp:jf p):eY t a p=some (nP t a p):=by
 unfold eY nP;rw[aT (show fO ⟨t.nodes,t.au⟩ ⟨a.host,a.nodes,a.au,a.next⟩=_ from nA ht hb),aX];by_cases h:lg t a=0
 ·rw[if_pos h,if_neg (λh2=>h2 h),aT (show j9 ⟨t.nodes,t.au⟩ ⟨a.host,a.nodes,a.au,a.next⟩ p=_ from ay1 ht (dm.1 h) hb.host hp)]
 ·rw[if_neg h,if_pos h];rfl
end
def lp(a:ax)(p:aG):List ah:=(gy (less eD (bC a) p.az) p.values).1
def oH(a:ax)(p:aG):List ak:=less rU (cT a) p.aF
def bD(a:ax)(p:aG):ax:=dF (kG (lp a p++p.aR)) (nT (oH a p++p.aP)) p.next.x1
structure cg(t:Types)(a:ax)(p:aG):Prop where
 tk:gd t a
 small:Small p
 ord:Ordered p
 next:p.next.x0=a.next
 rn:mu eD (bC a) p.az=true
 re:mu rU (cT a) p.aF=true
 va:(gy (less eD (bC a) p.az) p.values).2=true
 free:gM (lp a p) (oH a p) p=false
 ok:gd t (bD a p)
theorem mD{t:Types}{a:ax}{p:aG}(h:cg t a p):nP t a p=(bD a p,0):=by unfold nP xI afV;rw[if_neg (λh2=>h2 (dm.2 h.tk)),if_neg (λh2=>h2 (tL.2 ⟨h.small,h.ord⟩)),if_neg (λh2=>h2 h.next),if_pos ⟨h.rn,h.re⟩,if_pos h.va,if_neg (λh2=>by have h3:=h.free;unfold lp oH at h3;rw[h3] at h2;cases h2)];exact if_neg (λh2=>h2 (dm.2 h.ok))
theorem nF{t:Types}{a:ax}{p:aG} : (nP t a p).2=0↔cg t a p:=by
 constructor
 ·intro h;unfold nP at h;split at h
  ·rename_i h1;exact absurd h h1
  rename_i h1;unfold xI at h;split at h
  ·rename_i h2;exact absurd h h2
  rename_i h2;split at h
  ·cases h
  rename_i h3;obtain⟨s1,s2⟩:=tL.1 (Decidable.of_not_not h2);split at h
  ·cases h
  rename_i s hs;split at h
  ·cases h
  rename_i h4;unfold afV at hs;split at hs;rotate_left
  ·cases hs
  rename_i h5;split at hs;rotate_left
  ·cases hs
  rename_i h6;split at hs
  ·cases hs
  rename_i h7;cases hs;exact⟨dm.1 (Decidable.of_not_not h1),s1,s2,Decidable.of_not_not h3,h5.1,h5.2,h6,Bool.eq_false_iff.2 h7,dm.1 (Decidable.of_not_not h4)⟩
 ·intro h;rw[mD h]
theorem ahZ{α:Type}{q:α->α->Bool}(hq:∀a b,q a b=true↔a=b){l r:List α}(h:mu q l r=true):∀x∈r,x∈l:=λx hx=>by obtain⟨m,hm,e⟩:=List.any_eq_true.1 (List.all_eq_true.1 h x hx);rw[<- (hq _ _).1 e];exact hm
theorem aqC:∀ (r:List aM) (l:List ah),(gy l r).2=true->∀v∈r,∃n∈l,n.id=v.id/\0<=v.attr/\v.attr<n.values.length
 | [],l,_,v,hv=>by cases hv
 |w :: r,l,h,v,hv=>by
  rw[gy] at h;split at h;rotate_left
  ·cases h
  rename_i ha;rcases List.mem_cons.1 hv with e|hv
  ·subst e;obtain⟨n,hn,hf⟩:=List.any_eq_true.1 ha;unfold mw okV at hf;simp only[Bool.and_eq_true,Bool.not_eq_true',decide_eq_true_eq,decide_eq_false_iff_not] at hf;exact⟨n,hn,hf.1,by omega,by omega⟩
  ·obtain⟨n,hn,h1,h2,h3⟩:=aqC r _ h v hv;obtain⟨m,hm,rfl⟩:=List.mem_map.1 hn;rw[aex] at h1;rw[afM] at h3;exact⟨m,hm,h1,h2,h3⟩
section
variable{t:Types}{a:ax}{p q:aG}
theorem cg.aqD(h:cg t a p){n:ah}(hn:n∈p.az):n∈bC a:=ahZ (q:=eD) (λ_ _=>rO) h.rn n hn
theorem ajE{n:ah}(hn:n∈bC a):n.id∈a.nodes:=by rw[<-xF];exact List.mem_map_of_mem hn
theorem aqE{n:ak}(hn:n∈cT a):n.id∈a.au:=by rw[<-xG];exact List.mem_map_of_mem hn
theorem cg.value(h:cg t a p){v:aM}(hv:v∈p.values):∃n∈bC a,n.id=v.id/\0<=v.attr/\v.attr<n.values.length/\n ∉ p.az:=by obtain⟨n,hn,h1,h2,h3⟩:=aqC p.values _ h.va v hv;obtain⟨hn1,hn2⟩:=List.mem_filter.1 hn;refine⟨n,hn1,h1,h2,h3,λhm=>?_⟩;have:(p.az.any λm=>eD n m)=true:=List.any_eq_true.2 ⟨n,hm,rO.2 rfl⟩;rw[this] at hn2;cases hn2
theorem cg.n1(h:cg t a p):0<=p.next.x1/\p.next.x1<=1000000:=h.ok.next
theorem cg.n0(h:cg t a p):0<=p.next.x0/\p.next.x0<=1000000:=by rw[h.next];exact h.tk.next
theorem cg.ids(h:cg t a p):(∀n∈p.aR,0<=n.id/\n.id<p.next.x1)/\∀e∈p.aP,0<=e.id/\e.id<p.next.x1:=⟨λn hn=>h.ok.nid.1 _ (List.mem_map_of_mem (tV.2 (List.mem_append_right _ hn))),λn hn=>h.ok.eid.1 _ (List.mem_map_of_mem (wO.2 (List.mem_append_right _ hn)))⟩
end
def sZ(p:aG):Bool:=decide (p.next.x0<=p.next.x1)&&(!(p.aR.any λn=>decide (n.id<p.next.x0)) && !(p.aP.any λn=>decide (n.id<p.next.x0)))
theorem aqF{p:aG}(hp:jf p):nE p=some (sZ p):=by
 unfold nE sZ;rw[aX];by_cases h:p.next.x0<=p.next.x1
 ·rw[if_pos h,aT (lI (p:=λx=>nq x p) (λn=>decide (n.id<p.next.x0)) hp.an λn _=>rfl),dK h,Bool.true_and];cases p.aR.any λn=>decide (n.id<p.next.x0) with
  |true=>rfl
  |false=>rw[cond_false,aT (qQ (p:=λx=>nr x p) (λn=>decide (n.id<p.next.x0)) hp.ae λn _=>rfl)];rfl
 ·rw[if_neg h,eZ h];rfl
theorem amo{p:aG}(hp:jf p):gf p=some (sZ p):=by
 have h1:=hp.an;have h2:=hp.ae;unfold gf sZ;rw[bw (bt (by omega)),oG p.aR (λn=>!decide (n.id<p.next.x0)) (λ_=>some false) (λi hi cv=>by rw[bR hi,iN]),pI,List.all_eq_not_any_not];simp only[Bool.not_not];cases p.aR.any λn=>decide (n.id<p.next.x0) with
 |true=>simp
 |false=>simp only[Bool.not_false,if_true,Bool.true_and];rw[bw (bt (by omega)),oG p.aP (λn=>!decide (n.id<p.next.x0)) (λ_=>some false) (λi hi cv=>by rw[bR hi,iN]),pI,List.all_eq_not_any_not];simp only[Bool.not_not];cases p.aP.any λn=>decide (n.id<p.next.x0)<;>simp
structure ye(p:aG):Prop where
 next:p.next.x0<=p.next.x1
 n:∀n∈p.aR,p.next.x0<=n.id
 e:∀n∈p.aP,p.next.x0<=n.id
theorem xJ{p:aG} : sZ p=true↔ye p:=by unfold sZ;simp only[Bool.and_eq_true,Bool.not_eq_true',List.any_eq_false,decide_eq_true_eq,Int.not_lt];exact⟨λh=>⟨h.1,h.2.1,h.2.2⟩,λh=>⟨h.next,h.n,h.e⟩⟩
def oW(t:Types)(a:ax)(p q:aG):Int :=
 if (nP t a p).2≠0 then (nP t a p).2 else if (nP t a q).2≠0 then (nP t a q).2
 else if sZ p=true then if sZ q=true then if 1000000<p.next.x1+q.next.x1-q.next.x0 then 6 else 0 else 8 else 8
theorem afZ{σ O:Type}{f:Nat->σ->(σ->Option O)->(σ->Option O)->Option O}{K:σ->Option O}{s:σ} : bZ f (2-0) 0 s K=f 0 s (λs'=>f 1 s' K K) K:=rfl
section
variable{t:Types}{a:ax}{p q:aG}
theorem aB0{p q:aG}(h1:cg t a p)(h2:cg t a q):i64.wrap (i64.wrap (p.next.x1+q.next.x1)-q.next.x0)=p.next.x1+q.next.x1-q.next.x0:=by have a1:=h1.n1;have a2:=h2.n1;have a3:=h2.n0;rw[dJ (n:=p.next.x1+q.next.x1) (by omega),dJ (by omega)]
theorem aBl(ht:fM t)(hb:j4 a)(hp:jf p)(hq:jf q):gh t a p q=some (oW t a p q):=by
 unfold gh oW;rw[aT (show bN ⟨t.nodes,t.au⟩ ⟨a.host,a.nodes,a.au,a.next⟩ p=_ from uM ht hb hp),aX];by_cases h1:(nP t a p).2=0;rotate_left
 ·rw[if_neg h1,if_pos h1]
 rw[if_pos h1,if_neg (λh=>h h1),aT (show bN ⟨t.nodes,t.au⟩ ⟨a.host,a.nodes,a.au,a.next⟩ q=_ from uM ht hb hq),aX];by_cases h2:(nP t a q).2=0;rotate_left
 ·rw[if_neg h2,if_pos h2]
 rw[if_pos h2,if_neg (λh=>h h2),aT (amo hp),aT (amo hq),aB0 (nF.1 h1) (nF.1 h2),aX];cases sZ p with
 |false=>simp
 |true =>
  cases sZ q with
  |false=>simp
  |true=>simp only[cond_true,if_true];split<;>rfl
theorem vZ(ht:fM t)(hb:j4 a)(hp:jf p)(hq:jf q):jD t a p q=some (oW t a p q):=by
 unfold jD oW;rw[mo,bw (bt (by omega)),afZ];rw[show ([p,q][0]?)=some p from rfl,mo];rw[aT (show eY ⟨t.nodes,t.au⟩ ⟨a.host,a.nodes,a.au,a.next⟩ p=_ from acC ht hb hp),aX];by_cases h1:(nP t a p).2=0;rotate_left
 ·rw[if_neg h1,if_pos h1]
 rw[if_pos h1,if_neg (λh=>h h1),show ([p,q][1]?)=some q from rfl,mo];rw[aT (show eY ⟨t.nodes,t.au⟩ ⟨a.host,a.nodes,a.au,a.next⟩ q=_ from acC ht hb hq),aX];by_cases h2:(nP t a q).2=0;rotate_left
 ·rw[if_neg h2,if_pos h2]
 rw[if_pos h2,if_neg (λh=>h h2),aT (aqF hp),aT (aqF hq),aB0 (nF.1 h1) (nF.1 h2),aX];cases sZ p with
 |false=>simp
 |true =>
  cases sZ q with
  |false=>simp
  |true=>simp only[cond_true,if_true];split<;>rfl
structure vb(t:Types)(a:ax)(p q:aG):Prop where
 ap:cg t a p
 aq:cg t a q
 gp:ye p
 gq:ye q
 next:p.next.x1+q.next.x1-q.next.x0<=1000000
theorem j6:oW t a p q=0↔vb t a p q:=by
 unfold oW;constructor
 ·intro h;split at h
  ·rename_i h1;exact absurd h h1
  rename_i h1;split at h
  ·rename_i h2;exact absurd h h2
  rename_i h2;split at h;rotate_left
  ·cases h
  rename_i h3;split at h;rotate_left
  ·cases h
  rename_i h4;split at h
  ·cases h
  exact⟨nF.1 (Decidable.of_not_not h1),nF.1 (Decidable.of_not_not h2),xJ.1 h3,xJ.1 h4,by omega⟩
 ·intro h;rw[if_neg (λh2=>h2 (nF.2 h.ap)),if_neg (λh2=>h2 (nF.2 h.aq)),if_pos (xJ.2 h.gp),if_pos (xJ.2 h.gq),if_neg (by have:=h.next;omega)]
end
def ltC(a b:aI):Prop:=a.id<b.id\/a.id=b.id/\a.attr<b.attr
theorem aBm(a:aI):¬ ltC a a:=by unfold ltC;omega
theorem ay2(a b c:aI)(h1:ltC a b)(h2:ltC b c):ltC a c:=by unfold ltC at *;omega
theorem ah0{K:Int}{l:List aI}(hk:∀x∈l,x.kind=K)(hs:l.Pairwise λa b=>leC a b=true):∀j,j<=l.length->(kept l j).Pairwise ltC/\(∀x,x∈kept l j↔x∈l.take j)/\∀x∈kept l j,∀i,(hi:i<l.length)->j<=i+1->x=l[i]\/ltC x l[i]
 |0,_=>⟨List.Pairwise.nil,λx=>by simp[kept],λx hx=>by cases hx⟩
 |j+1,hj=>by
  obtain⟨h1,h2,h3⟩:=ah0 hk hs j (by omega);have hg:l.getD j default=l[j]:=by simp[show j<l.length by omega]
  have le_or:∀x∈l,∀i,(hi:i<l.length)->leC x l[i]=true->x=l[i]\/ltC x l[i]:=λx hx i hi h=>by
   have k1:=hk x hx;have k2:=hk _ (nI hi);unfold leC at h;have h:=cu h;by_cases he:x.id=l[i].id/\x.attr=l[i].attr
   ·left;generalize l[i]=y at *;cases x;cases y;simp only[aI.mk.injEq] at *;exact⟨by omega,he.1,he.2⟩
   ·right;unfold ltC;omega
  have up:∀i,(hi:i<l.length)->j<=i->l[j]=l[i]\/ltC l[j] l[i]:=λi hi hji=>by
   rcases Nat.lt_or_eq_of_le hji with h|h
   ·exact le_or _ (nI _) i hi (List.pairwise_iff_getElem.1 hs j i (by omega) hi h)
   ·subst h;exact .inl rfl
  have trans:∀x,(x=l[j]\/ltC x l[j])->∀i,(hi:i<l.length)->j<=i->x=l[i]\/ltC x l[i]:=λx hx i hi hji=>by
   rcases hx with rfl|hx
   ·exact up i hi hji
   ·rcases up i hi hji with h|h
    ·rw[<-h];exact .inr hx
    ·exact .inr (ay2 _ _ _ hx h)
  rw[kept,hg];have lB:l.take (j+1)=l.take j++[l[j]]:=by rw[List.take_add_one,List.getElem?_eq_getElem (by omega),Option.toList_some]
  by_cases hf:fresh l j=true
  ·rw[if_pos hf];have hlt:∀x∈kept l j,ltC x l[j]:=λx hx=>by
    rcases h3 x hx j (by omega) (by omega) with h|h
    ·-- x is the element at j: then so is the one ahead of it
     exfalso;unfold fresh at hf;rcases Nat.eq_zero_or_pos j with h0|h0
     ·subst h0;simp[kept] at hx
     ·rw[eZ (by omega),Bool.false_or,hg] at hf;have hg2:l.getD (j-1) default=l[j-1]:=by simp[show j-1<l.length by omega]
      rw[hg2] at hf;have hne:l[j]≠l[j-1]:=λe=>by rw[(ayr _ _).2 e] at hf;cases hf
      rcases h3 x hx (j-1) (by omega) (by omega) with h4|h4
      ·exact hne (by rw[<-h,<-h4])
      ·rw[h] at h4;have h5:=List.pairwise_iff_getElem.1 hs (j-1) j (by omega) (by omega) (by omega);unfold leC at h5;have h5:=cu h5;unfold ltC at h4;omega
    ·exact h
   refine⟨List.pairwise_append.2 ⟨h1,List.pairwise_singleton _ _,λx hx y hy=>?_⟩,λx=>?_,λx hx i hi hji=>?_⟩
   ·rw[List.mem_singleton.1 hy];exact hlt x hx
   ·rw[lB,List.mem_append,List.mem_append,h2]
   ·rcases List.mem_append.1 hx with hx|hx
    ·exact trans x (.inr (hlt x hx)) i hi (by omega)
    ·exact trans x (.inl (List.mem_singleton.1 hx)) i hi (by omega)
  ·rw[if_neg hf];unfold fresh at hf;have h0:0<j:=by
    rcases Nat.eq_zero_or_pos j with h0|h0
    ·subst h0;simp at hf
    ·exact h0
   rw[eZ (by omega),Bool.false_or,hg] at hf;have hg2:l.getD (j-1) default=l[j-1]:=by simp[show j-1<l.length by omega]
   rw[hg2] at hf;have he:l[j]=l[j-1]:=(ayr _ _).1 (by simpa using hf);refine⟨h1,λx=>?_,λx hx i hi hji=>trans x (h3 x hx j (by omega) (by omega)) i hi (by omega)⟩;rw[h2,lB,List.mem_append,List.mem_singleton];constructor
   ·exact .inl
   ·rintro (h|h)
    ·exact h
    ·rw[h,he];have:l[j-1]=(l.take j)[j-1]'(by simp;omega):=by simp
     rw[this];exact nI _
theorem aaS{K:Int}{l:List aI}(hk:∀x∈l,x.kind=K):(iU l).Pairwise ltC/\∀x,x∈iU l↔x∈l:=by
 unfold iU;have hp:=List.mergeSort_perm l leC;have hs:(l.mergeSort leC).Pairwise λa b=>leC a b=true:=List.pairwise_mergeSort (λa b c h1 h2=>by unfold leC at *;simp at *;omega) (λa b=>by unfold leC;simp;omega) l
 obtain⟨h1,h2,_⟩:=ah0 (l:=l.mergeSort leC) (λx hx=>hk x (hp.mem_iff.1 hx)) hs l.length (by rw[List.length_mergeSort];exact Nat.le_refl _);refine⟨h1,λx=>?_⟩;rw[h2,List.take_of_length_le (by rw[List.length_mergeSort];exact Nat.le_refl _)];exact hp.mem_iff
theorem xK{K:Int}{l m:List aI}(hk:∀x∈l,x.kind=K)(hm:m.Pairwise ltC)(h:∀x,x∈l↔x∈m):iU l=m:=by obtain⟨h1,h2⟩:=aaS hk;exact ajB aBm ay2 h1 hm λx=>(h2 x).trans (h x)
def dg(p:aG)(id:Int):Bool:=p.az.any λn=>decide (n.id=id)
def vv(p:aG)(id:Int):Bool:=p.aP.any λe=>decide (e.src=id)||decide (e.dst=id)
def ou(p:aG)(id attr:Int):Option aM:=p.values.find? λv=>decide (v.id=id)&&decide (v.attr=attr)
def aqG(p:aG)(id:Int):Bool:=p.aF.any λn=>decide (n.id=id)
section
variable{p q:aG}
theorem aap(hp:p.az.length<=1000000)(id:Int):jk p id=some (dg p id):=by unfold jk;rw[aT (lI (p:=λx=>kW x id) (λn=>decide (n.id=id)) hp λn _=>rfl)];rfl
theorem acD{α:Type}{l:List α}{b:α->Bool}{f:Nat->Unit->(Unit->Option Bool)->(Unit->Option Bool)->Option Bool}{K:Unit->Option Bool}(h:∀i (hi:i<l.length) cv,f i () cv K=cond (b l[i]) (some true) (cv ()))(hK:K ()=some false):bZ f (l.length-0) 0 () K=some (l.any b):=by rw[oG l (λa=>!b a) (λ_=>some true) (λi hi cv=>by rw[h i hi cv,iN]),pI,List.all_eq_not_any_not,hK];simp only[Bool.not_not];cases l.any b<;>simp
theorem uN(hp:p.az.length<=1000000)(id:Int):bE p id=some (dg p id):=by unfold bE;rw[bw (bt (by omega))];exact acD (λi hi cv=>by rw[bR hi]) rfl
theorem aC3(hp:p.aF.length<=1000000)(id:Int):iZ p id=some (aqG p id):=by unfold iZ;rw[bw (bt (by omega))];exact acD (λi hi cv=>by rw[bR hi]) rfl
theorem ay3(hp:p.aP.length<=1000000)(id:Int):fI p id=some (vv p id):=by unfold fI;rw[bw (bt (by omega))];refine acD (λi hi cv=>?_) rfl;rw[bR hi];cases decide (p.aP[i].src=id)<;>rfl
theorem aey(hp:p.values.length<=1000000)(id attr:Int):b9 p id attr=some (match ou p id attr with|some v=>(v,true)|none=>(⟨0,0,0,0⟩,false)):=by
 unfold b9 ou;rw[bw (bt (by omega)),oG p.values (λv=>!(decide (v.id=id)&&decide (v.attr=attr))) (λv=>some (v,true)) (λi hi cv=>by
  rw[bR hi,iN];cases decide (p.values[i].id=id)<;>rfl)]
 simp only[Bool.not_not];unfold zk;cases p.values.find? λv=>decide (v.id=id)&&decide (v.attr=attr)<;>rfl
theorem adY{id attr:Int}{v:aM}(h:ou p id attr=some v):v∈p.values/\v.id=id/\v.attr=attr:=by have h1:=List.mem_of_find?_eq_some h;have h2:=List.find?_some h;simp only[Bool.and_eq_true,decide_eq_true_eq] at h2;exact⟨h1,h2⟩
theorem nH{id attr:Int} : (ou p id attr).isSome=true↔∃v∈p.values,v.id=id/\v.attr=attr:=by unfold ou;rw[List.find?_isSome];simp only[Bool.and_eq_true,decide_eq_true_eq]
theorem aBn{l:List aM}(h:l.Pairwise ltV){v w:aM}(hv:v∈l)(hw:w∈l)(h1:v.id=w.id)(h2:v.attr=w.attr):v=w:=by
 induction l with
 |nil=>cases hv
 |cons c r ih =>
  rw[List.pairwise_cons] at h;rcases List.mem_cons.1 hv with e1|e1<;>rcases List.mem_cons.1 hw with e2|e2
  ·rw[e1,e2]
  ·have:=h.1 w e2;unfold ltV at this;rw[e1] at h1 h2;omega
  ·have:=h.1 v e1;unfold ltV at this;rw[e2] at h1 h2;omega
  ·exact ih h.2 e1 e2
theorem auo(ho:p.values.Pairwise ltV){v:aM}(hv:v∈p.values):ou p v.id v.attr=some v:=by
 cases h:ou p v.id v.attr with
 |none =>
  have:=nH (p:=p) (id:=v.id) (attr:=v.attr) |>.2 ⟨v,hv,rfl,rfl⟩
  rw[h] at this;cases this
 |some w=>obtain⟨h1,h2,h3⟩:=adY h;rw[aBn ho h1 hv h2 h3]
end
def apI(x:aG)(e:ak):List aI:=([e.src,e.dst].filter (dg x)).map λid=>⟨1,id,-1⟩
def xL(x y:aG):List aI:=y.aP.flatMap (apI x)
def xM(x y:aG):List aI:=(y.values.filter λv=>dg x v.id).map λv=>⟨2,v.id,v.attr⟩
def apJ(q:aG)(v:aM):List aI:=(q.values.filter λw=>decide (v.id=w.id)&&(decide (v.attr=w.attr) && !decide (v.new=w.new))).map λ_=>⟨3,v.id,v.attr⟩
def agY(p q:aG):List aI:=p.values.flatMap (apJ q)
def amp(p q:aG):List aI:=iU (xL p q++xL q p)++iU (xM p q++xM q p)++iU (agY p q)
theorem tW{α β:Type}(g:α->List β):∀ (l:List α) (s:List β),l.foldl (λs a=>s++g a) s=s++l.flatMap g
 | [],s=>by simp
 |a :: l,s=>by rw[List.foldl_cons,tW g l];simp
theorem acE{α β:Type}(g:α->List β)(l:List α)(s:List β)(k:Nat)(h:∀a∈l,(g a).length<=k):(l.foldl (λs a=>s++g a) s).length<=s.length+k * l.length:=by
 induction l generalizing s with
 |nil=>simp
 |cons a l ih =>
  rw[List.foldl_cons];have h1:=ih (s++g a) λb hb=>h b (List.mem_cons_of_mem _ hb)
  have h2:=h a (List.mem_cons_self ..);rw[List.length_append] at h1;rw[List.length_cons,Nat.mul_add];omega
theorem jI{α β O:Type}{f:Nat->List β->(List β->Option O)->(List β->Option O)->Option O}{K:List β->Option O}{s:List β}(l:List α)(g:α->List β)(k:Nat)(hg:∀a∈l,(g a).length<=k)
  (h:∀i (hi:i<l.length) (s':List β),s'.length<=s.length+k * i->∀cv,f i s' cv K=cv (s'++g l[i])):bZ f (l.length-0) 0 s K=K (s++l.flatMap g):=by
 rw[(rN l (λs a=>s++g a) (λi s'=>s'.length<=s.length+k * i) (by simp) λi hi s' hs'=>⟨λcv=>h i hi s' hs' cv,by
  have:=hg _ (nI hi);rw[List.length_append,Nat.mul_add];omega⟩).1,tW]
section
variable{p q:aG}
theorem amq(x:aG)(e:ak):(apI x e).length<=2:=by unfold apI;rw[List.length_map];exact List.length_filter_le _ _
theorem amr(q:aG)(hq:Small q)(v:aM):(apJ q v).length<=500:=by unfold apJ;rw[List.length_map];exact Nat.le_trans (List.length_filter_le _ _) hq.va
theorem ams(hq:Small q):(xL p q).length<=1000:=by
 have:=acE (apI p) q.aP [] 2 λa _=>amq p a
 rw[tW] at this;have h2:=hq.ae;simp only[List.nil_append,List.length_nil] at this;unfold xL;omega
theorem amt(hq:Small q):(xM p q).length<=500:=by unfold xM;rw[List.length_map];exact Nat.le_trans (List.length_filter_le _ _) hq.va
theorem ay4(hp:Small p)(hq:Small q):(agY p q).length<=250000:=by
 have:=acE (apJ q) p.values [] 500 λa _=>amr q hq a
 rw[tW] at this;have h2:=hp.va;simp only[List.nil_append,List.length_nil] at this;unfold agY;omega
end
theorem ads{n:Int}(h:0<=n/\n<=1000000):lZ ([]:List aI) n=some []:=tg ⟨rfl,by omega⟩
theorem aup(x y z:List aI)(h:x.length<=300000/\y.length<=300000/\z.length<=300000):gR [x,y,z]=some (x++y++z):=by unfold gR;rw[bw (bt (by simp))];show bZ _ 3 0 0 _=_;simp only[bZ,List.getElem?_cons_zero,List.getElem?_cons_succ,mo];rw[dJ (n:=0+((x.length:Nat):Int)) (by omega),eZ (by omega),cond_false];rw[dJ (n:=0+((x.length:Nat):Int)+((y.length:Nat):Int)) (by omega),eZ (by omega),cond_false];rw[dJ (n:=0+((x.length:Nat):Int)+((y.length:Nat):Int)+((z.length:Nat):Int)) (by omega),eZ (by omega),cond_false];rw[aT (ads (by omega)),bw (bt (by simp))];show bZ _ 3 0 [] _=_;simp only[bZ,List.getElem?_cons_zero,List.getElem?_cons_succ,mo];rw[bw (by simp;omega),bw (by simp;omega),bw (by simp;omega)];simp
theorem jR{β O:Type}{f:Nat->List β->(List β->Option O)->(List β->Option O)->Option O}{K:List β->Option O}{s:List β}(n:Nat)(g:Nat->List β)(k:Nat)(hg:∀i,i<n->(g i).length<=k)
  (h:∀i (hi:i<n) (s':List β),s'.length<=s.length+k * i->∀cv,f i s' cv K=cv (s'++g i)):bZ f (n-0) 0 s K=K (s++(List.range n).flatMap g):=by
 have:=jI (f:=f) (K:=K) (s:=s) (List.range n) g k (λi hi=>hg i (List.mem_range.1 hi)) λi hi s' hs' cv=>by rw[List.getElem_range];exact h i (by simpa using hi) s' hs' cv
 rwa [List.length_range] at this
theorem af0{σ O:Type}{f:Nat->σ->(σ->Option O)->(σ->Option O)->Option O}{K:σ->Option O}{s r1 r2:σ}(h0:∀cv,f 0 s cv K=cv r1)(h1:∀cv,f 1 r1 cv K=cv r2):bZ f (2-0) 0 s K=K r2:=by rw[afZ,h0,h1]
section
variable{t:Types}{a:ax}{p q:aG}
theorem jW{α β:Type}(b:α->Bool)(f:α->β)(l:List α):(l.flatMap λa=>if b a=true then [f a] else [])=(l.filter b).map f:=by
 induction l with
 |nil=>rfl
 |cons x l ih=>rw[List.flatMap_cons,ih,List.filter_cons];split<;>simp
theorem xN{id:Int} : dg p id=true↔∃n∈p.az,n.id=id:=by unfold dg;rw[List.any_eq_true];simp only[decide_eq_true_eq]
theorem auq{id:Int} : vv p id=true↔∃e∈p.aP,e.src=id\/e.dst=id:=by unfold vv;rw[List.any_eq_true];simp only[Bool.or_eq_true,decide_eq_true_eq]
theorem sF{x:aI} : x∈xL p q↔∃id,dg p id=true/\vv q id=true/\x=⟨1,id,-1⟩:=by
 unfold xL apI;simp only[List.mem_flatMap,List.mem_map,List.mem_filter,auq];constructor
 ·rintro⟨e,he,id,⟨h1,h2⟩,rfl⟩;refine⟨id,h2,⟨e,he,?_⟩,rfl⟩;simp at h1;rcases h1 with h1|h1
  ·exact .inl h1.symm
  ·exact .inr h1.symm
 ·rintro⟨id,h1,⟨e,he,h2⟩,rfl⟩;refine⟨e,he,id,⟨?_,h1⟩,rfl⟩;rcases h2 with h2|h2<;>simp[h2]
theorem sG{x:aI} : x∈xM p q↔∃v∈q.values,dg p v.id=true/\x=⟨2,v.id,v.attr⟩:=by
 unfold xM;simp only[List.mem_map,List.mem_filter];constructor
 ·rintro⟨v,⟨h1,h2⟩,rfl⟩;exact⟨v,h1,h2,rfl⟩
 ·rintro⟨v,h1,h2,rfl⟩;exact⟨v,⟨h1,h2⟩,rfl⟩
theorem zu{x:aI} : x∈agY p q↔∃v∈p.values,∃w∈q.values,v.id=w.id/\v.attr=w.attr/\v.new≠w.new/\x=⟨3,v.id,v.attr⟩:=by
 unfold agY apJ;simp only[List.mem_flatMap,List.mem_map,List.mem_filter,Bool.and_eq_true,decide_eq_true_eq,Bool.not_eq_true',decide_eq_false_iff_not];constructor
 ·rintro⟨v,hv,w,⟨h1,h2,h3,h4⟩,rfl⟩;exact⟨v,hv,w,h1,h2,h3,h4,rfl⟩
 ·rintro⟨v,hv,w,h1,h2,h3,h4,rfl⟩;exact⟨v,hv,w,⟨h1,h2,h3,h4⟩,rfl⟩
theorem cg.rid(h:cg t a p){id:Int}(hr:dg p id=true):id∈a.nodes:=by obtain⟨n,hn,rfl⟩:=xN.1 hr;exact ajE (h.aqD hn)
theorem gd.small(h:gd t a){id:Int}(hi:id∈a.nodes):0<=id/\id<=1000000:=by
 have h1:=h.nid.1 id hi;have h2:=h.next
 omega
theorem cg.apK(h:cg t a p)(hb:sM a.host){v:aM}(hv:v∈p.values):(0<=v.id/\v.id<=1000000)/\0<=v.attr/\v.attr<=1000000:=by obtain⟨n,hn,h1,h2,h3,_⟩:=h.value hv;have h4:=jl h.tk hb n hn;have h5:=h.tk.small (ajE hn);rw[h1] at h5;exact⟨h5,h2,by omega⟩
theorem pU(hp:cg t a p)(hq:cg t a q)(hb:sM a.host):iC p q=some (amp p q):=by
  have p1:=hp.small.rn;have p2:=hp.small.ae;have p3:=hp.small.va;have q1:=hq.small.rn;have q2:=hq.small.ae;have q3:=hq.small.va
  have round : ∀ (x y : aG) (u v : List aI) (cv : List aI × List aI → Option (List aI)), x.az.length ≤ 500 → y.aP.length ≤ 500 → y.values.length ≤ 500 → u.length ≤ 1000000 → v.length ≤ 1000000 →
      (cB (y.aP.length<=fuel) <|
      bZ (λaIu (aC4:(List aI)) aBo aGD =>
       thn (y.aP[aIu]?) λaB1 =>
       thn (some [aB1.src,aB1.dst]) λaEN =>
       cB (2<=fuel) <|
       bZ (λaEO (amu:(List aI)) amv aEP =>
        thn (aEN[aEO]?) λaB2 =>
        thn (jk x aB2) λaEQ =>
        cond aEQ (
         cB (amu.length+1<=68719476736) <|
         amv (amu++[(⟨1,aB2,(-1)⟩:aI)])) <|
        amv amu)
       (2-0) 0 aC4 λamu =>
       aBo amu)
      (y.aP.length-0) 0 u λaC4 =>
      cB (y.values.length<=fuel) <|
      bZ (λaER (amw:(List aI)) amx aES =>
       thn (y.values[aER]?) λay5 =>
       thn (jk x ay5.id) λaET =>
       cond aET (
        cB (amw.length+1<=68719476736) <|
        amx (amw++[(⟨2,ay5.id,ay5.attr⟩:aI)])) <|
       amx amw)
      (y.values.length-0) 0 v λamw =>
      cv (aC4,amw))=cv (u++xL x y,v++xM x y):=by
    intro x y u v cv h1 h2 h3 h4 h5;rw[bw (bt (by omega))];rw[jI y.aP (apI x) 2 (λe _=>amq x e) ?_]
    · rw[bw (bt (by omega))];rw[jI y.values (λv=>if dg x v.id=true then [(⟨2,v.id,v.attr⟩:aI)] else []) 1 (λv _=>by split<;>simp) ?_,jW]
      · rfl
      · intro i hi s' hs' cv;rw[bR hi,aT (aap (by omega) _)];cases dg x y.values[i].id with
        |true=>rw[cond_true,bw (by omega),if_pos rfl]
        |false=>rw[cond_false,if_neg (by simp),List.append_nil]
    · intro i hi s' hs' cv;rw[bR hi,mo,bw (bt (by omega)),afZ];unfold apI;simp only[List.getElem?_cons_zero,List.getElem?_cons_succ,mo];rw[aT (aap (by omega) _)];cases h6:dg x y.aP[i].src with
      |true =>
        rw[cond_true,bw (by omega),aT (aap (by omega) _)];cases h7:dg x y.aP[i].dst with
        |true=>rw[cond_true,bw (by simp;omega)];simp[h6,h7]
        |false=>rw[cond_false];simp[h6,h7]
      |false =>
        rw[cond_false,aT (aap (by omega) _)];cases h7:dg x y.aP[i].dst with
        |true=>rw[cond_true,bw (by omega)];simp[h6,h7]
        |false=>rw[cond_false];simp[h6,h7]
  have u1:=ams (p:=p) hq.small;have u2:=ams (p:=q) hp.small;have c1:=amt (p:=p) hq.small;have c2:=amt (p:=q) hp.small;have v1:=ay4 hp.small hq.small;unfold iC amp;rw[mo,bw (bt (by omega)),af0 (r1:=(xL p q,xM p q)) (r2:=(xL p q++xL q p,xM p q++xM q p)) (λcv=>round p q [] [] cv p1 q2 q3 (by simp) (by simp)) (λcv=>round q p (xL p q) (xM p q) cv q1 p2 p3 (by omega) (by omega))];rw[bw (bt (by omega))];rw[jI p.values (apJ q) 500 (λv _=>amr q hq.small v) ?_]
  · simp only[List.nil_append];have o1:∀x∈xL p q++xL q p,x.kind=1/\oo x:=λx hx=>by
      rcases List.mem_append.1 hx with h|h
      · obtain⟨id,h1,_,rfl⟩:=sF.1 h;have:=hp.tk.small (hp.rid h1);exact⟨rfl,by unfold oo;simp only;omega⟩
      · obtain⟨id,h1,_,rfl⟩:=sF.1 h;have:=hp.tk.small (hq.rid h1);exact⟨rfl,by unfold oo;simp only;omega⟩
    have o2:∀x∈xM p q++xM q p,x.kind=2/\oo x:=λx hx=>by
      rcases List.mem_append.1 hx with h|h
      · obtain⟨v,h1,_,rfl⟩:=sG.1 h;have:=hq.apK hb h1;exact⟨rfl,by unfold oo;simp only;omega⟩
      · obtain⟨v,h1,_,rfl⟩:=sG.1 h;have:=hp.apK hb h1;exact⟨rfl,by unfold oo;simp only;omega⟩
    have o3:∀x∈agY p q,x.kind=3/\oo x:=λx hx=>by obtain⟨v,h1,_,_,_,_,_,rfl⟩:=zu.1 hx;have:=hp.apK hb h1;exact⟨rfl,by unfold oo;simp only;omega⟩
    have kl:∀l:List aI,(iU l).length<=l.length:=λl=>by unfold iU;exact al9 _ _
    have k1:=kl (xL p q++xL q p);have k2:=kl (xM p q++xM q p);have k3:=kl (agY p q);rw[List.length_append] at k1 k2;rw[aT (show eX (xL p q++xL q p)=_ from qx ⟨by rw[List.length_append];omega,1,o1⟩),aT (show eX (xM p q++xM q p)=_ from qx ⟨by rw[List.length_append];omega,2,o2⟩)];rw[aT (show eX (p.values.flatMap (apJ q))=_ from qx ⟨by show (agY p q).length<=_;omega,3,o3⟩)];rw[aT (aup _ _ _ ⟨by omega,by omega,by show (iU (agY p q)).length<=_;omega⟩)];rfl
  · intro i hi s' hs' cv;have hbase:s'.length<=250000:=by simp at hs';omega
    rw[bR hi,bw (bt (by omega))];generalize p.values[i]=v;rw[jI q.values (λw=>if (decide (v.id=w.id)&&(decide (v.attr=w.attr) && !decide (v.new=w.new)))=true then [(⟨3,v.id,v.attr⟩:aI)] else []) 1 (λw _=>by split<;>simp) ?_,jW]
    · rfl
    · intro j hj s2 hs2 cv;rw[bR hj];generalize q.values[j]=w;cases decide (v.id=w.id) with
      |false=>rw[cond_false,if_neg (by simp),List.append_nil]
      |true =>
        rw[cond_true];cases decide (v.attr=w.attr) with
        |false=>rw[cond_false,if_neg (by simp),List.append_nil]
        |true =>
          rw[cond_true];cases decide (v.new=w.new) with
          |true=>rw[cond_true,if_neg (by simp),List.append_nil]
          |false=>rw[cond_false,bw (by omega),if_pos (by rfl)]
end
def adt(p q:aG)(id:Int):Bool:=(dg p id&&vv q id)||(dg q id&&vv p id)
def ajF(p q:aG)(id k:Int):Bool:=(dg p id&&(ou q id k).isSome)||(dg q id&&(ou p id k).isSome)
def zv(a:ax)(p q:aG)(i:Nat):List aI:=((List.range (a.host.values.getD i default).length).filter λk:Nat=>ajF p q (a.nodes.getD i default) (k:Int)).map λk:Nat=>⟨2,a.nodes.getD i default,(k:Int)⟩
def apL(q:aG)(v:aM):Bool:=match ou q v.id v.attr with
 |some w=>!decide (w.new=v.new)
 |none=>false
def ov(a:ax)(p q:aG):List aI:=(a.nodes.filter (adt p q)).map (λid=>⟨1,id,-1⟩)++(List.range a.nodes.length).flatMap (zv a p q)++(p.values.filter (apL q)).map λv=>⟨3,v.id,v.attr⟩
section
variable{t:Types}{a:ax}{p q:aG}
theorem agZ(ha:gd t a)(hb:sM a.host)(hp:jf p)(hq:jf q):ez a p q=some (ov a p q):=by
  have hn:=ha.n40;have hvl:a.host.values.length=a.nodes.length:=by rw[ha.host.ael,ha.sW]
  unfold ez ov;rw[bw (bt (by omega))];rw[jI a.nodes (λid=>if adt p q id=true then [(⟨1,id,-1⟩:aI)] else []) 1 (λv _=>by split<;>simp) ?_,jW];rotate_left
  · intro i hi s hs cv;simp only[List.length_nil] at hs;simp only[bR hi,uN hp.rn,ay3 hq.ae,uN hq.rn,ay3 hp.ae,mo,bw (show s.length+1<=68719476736 by omega)];unfold adt;cases dg p a.nodes[i]<;>cases vv q a.nodes[i]<;>cases dg q a.nodes[i]<;>cases vv p a.nodes[i]<;>simp
  have aEU:((a.nodes.filter (adt p q)).map λid=>(⟨1,id,-1⟩:aI)).length<=40:=by rw[List.length_map];exact Nat.le_trans (List.length_filter_le _ _) hn
  rw[List.nil_append,bw (bt (by omega))];generalize (a.nodes.filter (adt p q)).map (λid=>(⟨1,id,-1⟩:aI))=u at aEU ⊢;have hI:∀i∈List.range a.nodes.length,(zv a p q i).length<=1000:=λi hi=>by have hi:=List.mem_range.1 hi;unfold zv;rw[List.length_map];refine Nat.le_trans (List.length_filter_le _ _) ?_;rw[List.length_range];refine hb.row _ ?_;simp[show i<a.host.values.length by omega]
  rw[jR a.nodes.length (zv a p q) 1000 (λi hi=>hI i (List.mem_range.2 hi)) ?_]
  · rw[bw (bt (by have:=hp.va;omega))];have aEV:(u++(List.range a.nodes.length).flatMap (zv a p q)).length<=1000000:=by have:=acE (zv a p q) (List.range a.nodes.length) u 1000 hI;rw[tW,List.length_range] at this;omega
    generalize u++(List.range a.nodes.length).flatMap (zv a p q)=w at aEV ⊢;rw[jI p.values (λv=>if apL q v=true then [(⟨3,v.id,v.attr⟩:aI)] else []) 1 (λv _=>by split<;>simp) ?_,jW];intro i hi s hs cv;have:=hp.va;rw[bR hi,aT (show b9 ⟨q.az,q.aF,q.aR,q.aP,q.values,q.next⟩ _ _=_ from aey hq.va _ _),bw (by omega)];unfold apL;cases ou q p.values[i].id p.values[i].attr with
    |none=>simp
    |some w=>simp only[cond_true];by_cases hw:w.new=p.values[i].new<;>simp[hw]
  · intro i hi s hs cv;have hi':i<a.nodes.length:=hi;have hv:i<a.host.values.length:=by omega
    have hgn:a.nodes.getD i default=a.nodes[i]:=by simp[hi']
    have hgv:a.host.values.getD i default=a.host.values[i]:=by simp[hv]
    have hrow:=hb.row _ (nI hv);have hsl:s.length<=100000:=by have:1000 * i<=1000 * 40:=Nat.mul_le_mul_left _ (by omega);omega
    rw[bR hi'];unfold zv;rw[hgn,hgv];generalize a.nodes[i]=id at *;generalize hvv:a.host.values[i]=vals at *;have inner:∀ (m k n:Nat) (z:List aI),k+m=vals.length->m+1<=n->z.length<=100000+k->iter (λ(mF:Int×(List aI)) uO ay6 =>
   thn (a.host.values[i]?) λaEW =>
   cond (decide (mF.1<((aEW.length:Nat):Int))) (
    thn (b9 (⟨p.az,p.aF,p.aR,p.aP,p.values,p.next⟩:aG) id mF.1) λaB3 =>
    thn (b9 (⟨q.az,q.aF,q.aR,q.aP,q.values,q.next⟩:aG) id mF.1) λaEX =>
    thn (bE (⟨p.az,p.aF,p.aR,p.aP,p.values,p.next⟩:aG) id) λaEY =>
    cond aEY (
     cond aEX.2 (
      cB (mF.2.length+1<=68719476736) <|
      uO ((i64.wrap (mF.1+1)),(mF.2++[(⟨2,id,mF.1⟩:aI)]))) <|
     thn (bE (⟨q.az,q.aF,q.aR,q.aP,q.values,q.next⟩:aG) id) λaEZ =>
     cond aEZ (
      cond aB3.2 (
       cB (mF.2.length+1<=68719476736) <|
       uO ((i64.wrap (mF.1+1)),(mF.2++[(⟨2,id,mF.1⟩:aI)]))) <|
      uO ((i64.wrap (mF.1+1)),mF.2)) <|
     uO ((i64.wrap (mF.1+1)),mF.2)) <|
    thn (bE (⟨q.az,q.aF,q.aR,q.aP,q.values,q.next⟩:aG) id) λaE0 =>
    cond aE0 (
     cond aB3.2 (
      cB (mF.2.length+1<=68719476736) <|
      uO ((i64.wrap (mF.1+1)),(mF.2++[(⟨2,id,mF.1⟩:aI)]))) <|
     uO ((i64.wrap (mF.1+1)),mF.2)) <|
    uO ((i64.wrap (mF.1+1)),mF.2)) <|
   ay6 (mF.1, mF.2)) n ((k : Int), z) (fun mF => cv mF.2) = cv (z ++ ((List.range' k m).filter fun k : Nat => ajF p q id (k : Int)).map fun k : Nat => ⟨2, id, (k : Int)⟩) := by
      intro m
      induction m with
      |zero=>intro k n z hk hn hz;obtain⟨n,rfl⟩:∃n',n=n'+1:=⟨n-1,by omega⟩;rw[iter,bR hv,hvv,eZ (by simp only;omega),cond_false];simp
      |succ m ih=>intro k n z hk hn hz;obtain⟨n,rfl⟩:∃n',n=n'+1:=⟨n-1,by omega⟩;rw[iter,bR hv,hvv,dK (by simp only;omega),cond_true];rw[aT (show b9 ⟨p.az,p.aF,p.aR,p.aP,p.values,p.next⟩ _ _=_ from aey hp.va _ _),aT (show b9 ⟨q.az,q.aF,q.aR,q.aP,q.values,q.next⟩ _ _=_ from aey hq.va _ _)];have r1:bE ⟨p.az,p.aF,p.aR,p.aP,p.values,p.next⟩ id=_:=uN hp.rn id;have r2:bE ⟨q.az,q.aF,q.aR,q.aP,q.values,q.next⟩ id=_:=uN hq.rn id;rw[aT r1,aT r2];dsimp only;rw[bw (show z.length+1<=68719476736 by omega),dJ (n:=((k:Nat):Int)+1) (by omega),show ((k:Nat):Int)+1=((k+1:Nat):Int) from rfl];rw[ih (k+1) n _ (by omega) (by omega) (by rw[List.length_append,List.length_singleton];omega),ih (k+1) n z (by omega) (by omega) (by omega)];rw[List.range'_succ,List.filter_cons];unfold ajF;cases dg p id<;>cases dg q id<;>cases ou p id (k:Int)<;>cases ou q id (k:Int)<;>simp
    have:=inner vals.length 0 fuel s (by omega) (by unfold fuel;omega) (by omega);rw[List.range_eq_range'];exact this
theorem aaq{n:ah}(h:n∈bC a):∃i,i<a.nodes.length/\n=bF a i:=by obtain⟨i,hi,rfl⟩:=List.mem_map.1 h;exact⟨i,by simpa using hi,rfl⟩
theorem aar(hp:cg t a p)(hq:cg t a q):amp p q=ov a p q:=by
 have ha:=hp.tk;unfold amp ov;have e1:iU (xL p q++xL q p)=(a.nodes.filter (adt p q)).map λid=>⟨1,id,-1⟩:=by
  refine xK (K:=1) (λx hx=>?_) ?_ λx=>?_
  ·rcases List.mem_append.1 hx with h|h<;>(obtain⟨id,_,_,rfl⟩:=sF.1 h;rfl)
  ·rw[List.pairwise_map];exact (ha.nid.2.sub List.filter_sublist).imp λh=>.inl h
  ·rw[List.mem_append,sF,sF,List.mem_map];constructor
   ·rintro (⟨id,h1,h2,rfl⟩|⟨id,h1,h2,rfl⟩)
    ·exact⟨id,List.mem_filter.2 ⟨hp.rid h1,by unfold adt;rw[h1,h2];rfl⟩,rfl⟩
    ·exact⟨id,List.mem_filter.2 ⟨hq.rid h1,by unfold adt;rw[h1,h2];simp⟩,rfl⟩
   ·rintro⟨id,h,rfl⟩;have h:=(List.mem_filter.1 h).2;unfold adt at h;rw[Bool.or_eq_true,Bool.and_eq_true,Bool.and_eq_true] at h;rcases h with h|h
    ·exact .inl ⟨id,h.1,h.2,rfl⟩
    ·exact .inr ⟨id,h.1,h.2,rfl⟩
 have e2:iU (xM p q++xM q p)=(List.range a.nodes.length).flatMap (zv a p q):=by
  have mem:∀x,x∈(List.range a.nodes.length).flatMap (zv a p q)↔∃i,i<a.nodes.length/\∃k:Nat,k<(a.host.values.getD i default).length/\ajF p q (a.nodes.getD i default) (k:Int)=true/\x=⟨2,a.nodes.getD i default,(k:Int)⟩:=λx=>by
   unfold zv;simp only[List.mem_flatMap,List.mem_range,List.mem_map,List.mem_filter];constructor
   ·rintro⟨i,hi,k,⟨h1,h2⟩,rfl⟩;exact⟨i,hi,k,h1,h2,rfl⟩
   ·rintro⟨i,hi,k,h1,h2,rfl⟩;exact⟨i,hi,k,⟨h1,h2⟩,rfl⟩
  have into:∀ {x y:aG},cg t a y->∀v∈y.values,∃i,i<a.nodes.length/\∃k:Nat,k<(a.host.values.getD i default).length/\v.id=a.nodes.getD i default/\v.attr=(k:Int):=λ{x y} hy v hv=>by obtain⟨n,hn,h1,h2,h3,_⟩:=hy.value hv;obtain⟨i,hi,rfl⟩:=aaq hn;exact⟨i,hi,v.attr.toNat,by simp only[bF] at h3;omega,h1.symm,by omega⟩
  refine xK (K:=2) (λx hx=>?_) ?_ λx=>?_
  ·rcases List.mem_append.1 hx with h|h<;>(obtain⟨id,_,_,rfl⟩:=sG.1 h;rfl)
  ·rw[List.pairwise_flatMap];constructor
   ·intro i _;unfold zv;rw[List.pairwise_map];exact (List.Pairwise.sublist List.filter_sublist List.pairwise_lt_range).imp λh=>.inr ⟨rfl,by simp only;omega⟩
   ·refine List.Pairwise.imp_of_mem ?_ (List.pairwise_lt_range (n:=a.nodes.length));intro i j hi hj hij x hx y hy;have hi:=List.mem_range.1 hi;have hj:=List.mem_range.1 hj;unfold zv at hx hy;obtain⟨k,_,rfl⟩:=List.mem_map.1 hx;obtain⟨m,_,rfl⟩:=List.mem_map.1 hy;left;have:=ha.nid.2.acv hij hj;simpa[hi,hj] using this
  ·rw[mem,List.mem_append,sG,sG];constructor
   ·rintro (⟨v,hv,h1,rfl⟩|⟨v,hv,h1,rfl⟩)
    ·obtain⟨i,hi,k,hk,e1,e2⟩:=into (x:=p) hq v hv;refine⟨i,hi,k,hk,?_,by rw[e1,e2]⟩;unfold ajF;rw[<-e1,h1,nH.2 ⟨v,hv,rfl,e2⟩];rfl
    ·obtain⟨i,hi,k,hk,e1,e2⟩:=into (x:=q) hp v hv;refine⟨i,hi,k,hk,?_,by rw[e1,e2]⟩;unfold ajF;rw[<-e1,h1,nH (p:=p) |>.2 ⟨v,hv,rfl,e2⟩];simp
   ·rintro⟨i,hi,k,hk,h,rfl⟩;unfold ajF at h;rw[Bool.or_eq_true,Bool.and_eq_true,Bool.and_eq_true] at h;rcases h with h|h
    ·obtain⟨v,hv,e1,e2⟩:=nH.1 h.2;exact .inl ⟨v,hv,by rw[e1];exact h.1,by rw[e1,e2]⟩
    ·obtain⟨v,hv,e1,e2⟩:=nH.1 h.2;exact .inr ⟨v,hv,by rw[e1];exact h.1,by rw[e1,e2]⟩
 have e3:iU (agY p q)=(p.values.filter (apL q)).map λv=>⟨3,v.id,v.attr⟩:=by
  refine xK (K:=3) (λx hx=>?_) ?_ λx=>?_
  ·obtain⟨v,_,_,_,_,_,_,rfl⟩:=zu.1 hx;rfl
  ·rw[List.pairwise_map];exact (List.Pairwise.sublist List.filter_sublist hp.ord.va).imp λh=>h
  ·rw[zu,List.mem_map];constructor
   ·rintro⟨v,hv,w,hw,h1,h2,h3,rfl⟩;refine⟨v,List.mem_filter.2 ⟨hv,?_⟩,rfl⟩;unfold apL;rw[h1,h2,auo hq.ord.va hw];simp only[Bool.not_eq_true',decide_eq_false_iff_not];exact λe=>h3 e.symm
   ·rintro⟨v,hv,rfl⟩;obtain⟨hv,h⟩:=List.mem_filter.1 hv;unfold apL at h;split at h
    ·rename_i w hw;obtain⟨h1,h2,h3⟩:=adY hw;refine⟨v,hv,w,h1,h2.symm,h3.symm,λe=>?_,rfl⟩;rw[e] at h;simp at h
    ·cases h
 rw[e1,e2,e3]
end
section
variable{t:Types}{a:ax}{p q:aG}
theorem wQ{ids:List Int}{n:Int} : 0<=bK ids n↔n∈ids:=by
 unfold bK;have:=xC (q:=λy=>decide (y=n)) (l:=ids);constructor
 ·intro h;rw[dK h] at this;obtain⟨y,hy,e⟩:=List.any_eq_true.1 this.symm;rw[<-cu e];exact hy
 ·intro h;rw[List.any_eq_true.2 ⟨n,h,dK rfl⟩] at this;exact cu this
theorem cg.ends(h:cg t a p){e:ak}(he:e∈oH a p++p.aP):e.src∈(kG (lp a p++p.aR)).map ah.id/\e.dst∈(kG (lp a p++p.aR)).map ah.id:=by have:=List.all_eq_true.1 (afU (N:=kG (lp a p++p.aR)) (E:=nT (oH a p++p.aP)) (next:=p.next.x1) h.ok) e (wO.2 he);unfold zq at this;rw[Bool.and_eq_true] at this;exact⟨wQ.1 (cu this.1),wQ.1 (cu this.2)⟩
theorem cg.aIv(h:cg t a p){e:ak}(he:e∈oH a p++p.aP):(0<=e.src/\e.src<p.next.x1)/\0<=e.dst/\e.dst<p.next.x1:=by obtain⟨h1,h2⟩:=h.ends he;exact⟨h.ok.nid.1 _ h1,h.ok.nid.1 _ h2⟩
end
def iQ(x0 d id:Int):Int:=if x0<=id then id+d else id
def mG(x0 d:Int)(n:ah):ah:=⟨iQ x0 d n.id,n.type,n.values⟩
def lq(x0 d:Int)(e:ak):ak:=⟨iQ x0 d e.id,e.type,iQ x0 d e.src,iQ x0 d e.dst⟩
def jA(p q:aG):aG:=⟨q.az,q.aF,q.aR.map (mG q.next.x0 (p.next.x1-p.next.x0)),q.aP.map (lq q.next.x0 (p.next.x1-p.next.x0)),q.values,⟨p.next.x1,p.next.x1+q.next.x1-q.next.x0⟩⟩
structure aBp(p q:aG):Prop where
 x0:0<=p.next.x0/\p.next.x0<=1000000
 x1:0<=p.next.x1/\p.next.x1<=1000000
 y0:0<=q.next.x0/\q.next.x0<=1000000
 y1:0<=q.next.x1/\q.next.x1<=1000000
 n:∀n∈q.aR,0<=n.id/\n.id<=1000000
 e:∀e∈q.aP,(0<=e.id/\e.id<=1000000)/\(0<=e.src/\e.src<=1000000)/\0<=e.dst/\e.dst<=1000000
theorem vb.aBq{t:Types}{a:ax}{p q:aG}(h:vb t a p q):aBp p q :=
 ⟨h.ap.n0,h.ap.n1,h.aq.n0,h.aq.n1,λn hn=>by have:=h.aq.ids.1 n hn;have:=h.aq.n1;omega,λe he=>by
  have h1:=h.aq.ids.2 e he;have h2:=h.aq.aIv (List.mem_append_right _ he);have h3:=h.aq.n1;omega⟩
theorem af1{x0 d id:Int}(h1 : -1000000<=d/\d<=1000000)(h2:0<=id/\id<=1000000):(if x0<=id then some (i64.wrap (id+d)) else some id)=some (iQ x0 d id):=by
 unfold iQ;split
 ·rw[dJ (by omega)]
 ·rfl
theorem aaT{l:List ah}(h:l.length<=1000000)(hv:Rows l):dZ l=some l:=by
 unfold dZ;rw[bw (bt (by omega))];rw[jI l (λn=>[n]) 1 (λn _=>by simp) λi hi s hs cv=>?_]
 ·simp
 ·have:=hv _ (nI hi);simp only[List.length_nil] at hs;rw[bR hi,bw (by omega),bw (by omega)]
theorem v7{p:aG}(hp:jf p):dB p=some p:=by have h1:=hp.re;have h2:=hp.ae;have h3:=hp.va;unfold dB;rw[aT (aaT hp.rn hp.rv),bw (by omega),aT (aaT hp.an hp.av),bw (by omega),bw (by omega)]
theorem af2{α O:Type}(g:α->α){F:Int×List α->(Int×List α->Option O)->(Int×List α->Option O)->Option O}{K:Int×List α->Option O}(l:List α)(hl:l.length<=1000000)
  (h:∀ (i:Nat) (s:List α) (hi:i<s.length) (hi2:i<l.length),s.length=l.length->s[i]=l[i]->∀cv,F ((i:Int),s) cv K=cv (((i+1:Nat):Int),s.set i (g l[i])))
  (he:∀ (s:List α),s.length=l.length->∀cv,F (((l.length:Nat):Int),s) cv K=K (((l.length:Nat):Int),s)):iter F fuel (0,l) K=K (((l.length:Nat):Int),l.map g):=by
 have key:∀ (m i n:Nat),i+m=l.length->m+1<=n->iter F n ((i:Int),(l.take i).map g++l.drop i) K=K (((l.length:Nat):Int),l.map g):=by
  intro m
  induction m with
  |zero =>
   intro i n hi hn;obtain⟨n,rfl⟩:∃k,n=k+1:=⟨n-1,by omega⟩;have:i=l.length:=by omega
   subst this;rw[iter,List.take_length,List.drop_length,List.append_nil,he _ (by simp)]
  |succ m ih =>
   intro i n hi hn;obtain⟨n,rfl⟩:∃k,n=k+1:=⟨n-1,by omega⟩;have hlt:i<l.length:=by omega
   have hs:((l.take i).map g++l.drop i).length=l.length:=by simp;omega
   have hg:((l.take i).map g++l.drop i)[i]'(by omega)=l[i]:=by rw[List.getElem_append_right (by simp;omega)];simp[Nat.min_eq_left (Nat.le_of_lt hlt)]
   rw[iter,h i _ (by omega) hlt hs hg,<-ih (i+1) n (by omega) (by omega)];congr 2;rw[List.set_append_right _ _ (by simp;omega),List.take_add_one,List.getElem?_eq_getElem hlt,Option.toList_some,List.map_append];simp[Nat.min_eq_left (Nat.le_of_lt hlt)];rw[List.drop_eq_getElem_cons hlt];rfl
 have:=key l.length 0 fuel (by omega) (by unfold fuel;omega);simpa using this
theorem ajG{α:Type}{l:List α}{i:Nat}(hi:i<l.length):l[((i:Nat):Int).toNat]'(by simpa using hi)=l[i]:=rfl
theorem vw{α β:Type}(f:α->β)(l:List α):(l.flatMap λa=>[f a])=l.map f:=by
 induction l with
 |nil=>rfl
 |cons x l ih=>rw[List.flatMap_cons,ih];rfl
section
variable{p q:aG}
theorem aez{x0 d id:Int}(h1 : -1000000<=d/\d<=1000000)(h2:0<=id/\id<=1000000):ee id x0 d=some (iQ x0 d id):=by unfold ee;rw[aX,af1 h1 h2]
theorem vz{d id:Int}(h1 : -1000000<=d/\d<=1000000)(h2:0<=id/\id<=1000000):gY id q d=some (iQ q.next.x0 d id):=by unfold gY;rw[aX,af1 h1 h2]
theorem ah1(h:aBp p q):i64.wrap (p.next.x1-p.next.x0)=p.next.x1-p.next.x0/\i64.wrap (i64.wrap (p.next.x1+q.next.x1)-q.next.x0)=p.next.x1+q.next.x1-q.next.x0:=by have h1:=h.x0;have h2:=h.x1;have h3:=h.y0;have h4:=h.y1;exact⟨dJ (by omega),by rw[dJ (n:=p.next.x1+q.next.x1) (by omega),dJ (by omega)]⟩
theorem ah2(h:aBp p q)(hq:jf q):er p q=some (jA p q):=by
 obtain⟨w1,w2⟩:=ah1 h;have h1:=h.x0;have h2:=h.x1;have qn:=hq.an;have qe:=hq.ae;unfold er jA;rw[aT (v7 hq),w1,w2];rw[af2 (mG q.next.x0 (p.next.x1-p.next.x0)) q.aR hq.an]
 ·rw[af2 (lq q.next.x0 (p.next.x1-p.next.x0)) q.aP hq.ae]
  ·intro i s hi hi2 hs hg cv;have hr:=h.e _ (nI hi2);dsimp only;rw[dK (by omega),cond_true,fS (by omega) (by simpa using hi),ajG hi,hg,aT (aez (by omega) hr.1),aT (aez (by omega) hr.2.1),aT (aez (by omega) hr.2.2),dJ (by omega)];rfl
  ·intro s hs cv;dsimp only;rw[eZ (by omega),cond_false]
 ·intro i s hi hi2 hs hg cv;have hr:=h.n _ (nI hi2);dsimp only;rw[dK (by omega),cond_true,fS (by omega) (by simpa using hi),ajG hi,hg,aT (aez (by omega) hr),dJ (by omega)];rfl
 ·intro s hs cv;dsimp only;rw[eZ (by omega),cond_false]
theorem yf(h:aBp p q)(hq:jf q):kM p q=some (jA p q):=by
 obtain⟨w1,w2⟩:=ah1 h;have h1:=h.x0;have h2:=h.x1;have qn:=hq.an;have qe:=hq.ae;unfold kM jA;rw[w1,w2,bw (bt (by omega))];rw[jI q.aR (λn=>[mG q.next.x0 (p.next.x1-p.next.x0) n]) 1 (λn _=>by simp) λi hi s hs cv=>?_]
 ·rw[bw (bt (by omega))];rw[jI q.aP (λn=>[lq q.next.x0 (p.next.x1-p.next.x0) n]) 1 (λn _=>by simp) λi hi s hs cv=>?_]
  ·simp only[List.nil_append,vw]
  ·have hr:=h.e _ (nI hi);simp only[List.length_nil] at hs;rw[bR hi,aT (vz (by omega) hr.1),aT (vz (by omega) hr.2.1),aT (vz (by omega) hr.2.2),bw (by omega)];rfl
 ·have hr:=h.n _ (nI hi);simp only[List.length_nil] at hs;rw[bR hi,aT (vz (by omega) hr),bw (by omega)];rfl
theorem aeo(hp:jf p)(hq:jf q):sP p q=some (nk p q):=tg ⟨hp.rn,hp.re,hp.va,hq.rn,hq.re,hq.va⟩
theorem adu{α:Type}(b:α->Bool)(l:List α):(l.flatMap λa=>if b a=true then [] else [a])=l.filter λa=>!b a:=by
 induction l with
 |nil=>rfl
 |cons x l ih=>rw[List.flatMap_cons,ih,List.filter_cons];cases b x<;>simp
theorem aC5(hp:jf p)(hq:jf q):gJ p q=some (nk p q):=by
 have q1:=hq.rn;have q2:=hq.re;have q3:=hq.va;unfold gJ;rw[aT (v7 hq),bw (bt (by omega))];rw[jI q.az (λn=>if dg p n.id=true then [] else [n]) 1 (λn _=>by split<;>simp) λi hi s hs cv=>?_,adu]
 ·rw[bw (bt (by omega))];rw[jI q.aF (λn=>if aqG p n.id=true then [] else [n]) 1 (λn _=>by split<;>simp) λi hi s hs cv=>?_,adu]
  ·rw[bw (bt (by omega))];rw[jI q.values (λv=>if (ou p v.id v.attr).isSome=true then [] else [v]) 1 (λn _=>by split<;>simp) λi hi s hs cv=>?_,adu]
   ·unfold nk;simp only[List.nil_append,cA,aG.mk.injEq,true_and];refine⟨rfl,?_,?_⟩
    ·refine List.filter_congr λx _=>?_
     unfold aqG;congr 2;funext y;rw[decide_eq_decide];exact⟨λh=>h.symm,λh=>h.symm⟩
    ·refine⟨List.filter_congr λv _=>?_,trivial⟩;congr 1;rw[Bool.eq_iff_iff,nH,List.any_eq_true];simp only[Bool.and_eq_true,decide_eq_true_eq];exact⟨λ⟨w,h1,h2,h3⟩=>⟨w,h1,h2.symm,h3.symm⟩,λ⟨w,h1,h2,h3⟩=>⟨w,h1,h2.symm,h3.symm⟩⟩
   ·simp only[List.length_nil] at hs;rw[bR hi,aT (aey hp.va _ _),bw (by omega)];cases ou p q.values[i].id q.values[i].attr<;>simp
  ·simp only[List.length_nil] at hs;rw[bR hi,aT (aC3 hp.re _),bw (by omega)];cases aqG p q.aF[i].id<;>simp
 ·simp only[List.length_nil] at hs;rw[bR hi,aT (uN hp.rn _),bw (by omega)];cases dg p q.az[i].id<;>simp
theorem aep(hq:jf q){x:ax}(hx:x.nodes.length<=1000000)(hv:x.host.values.length=x.nodes.length)(hs:∀n∈q.az,∀k,(hk:k<x.nodes.length)->x.nodes[k]=n.id->x.host.values[k]'(by omega)=n.values):dM q x=some q:=by
  have q1:=hq.rn;unfold dM;rw[aT (v7 hq)];rw[af2 (λn=>n) q.az hq.rn]
  · simp
  · intro i s hi hi2 hs' hg cv;dsimp only;rw[dK (by omega),cond_true,bw (bt (by omega))];have aaU:s.set i q.az[i]=s:=by rw[<-hg];exact List.set_getElem_self hi
    have key:=(rN (O:=aG) (K:=λamy=>cv ((i64.wrap (((i:Nat):Int)+1)),amy)) (s:=s) (f:=λaB4 (amy:(List ah)) amz aE1 =>
    thn (x.nodes[aB4]?) λaE2 =>
    thn (nc amy ((i:Nat):Int)) λay7 =>
    cond (decide (aE2=ay7.id)) (
     thn (x.host.values[aB4]?) λaB5 =>
     cB (aB5.length<=68719476736) <|
     amz (amy.set ((i:Nat):Int).toNat (⟨ay7.id,ay7.type,aB5⟩:ah))) <|
    amz amy) x.nodes (λs' _=>s') (λ_ s'=>s'=s) rfl λk hk s' e=>by
      subst e;refine⟨λcv=>?_,rfl⟩;rw[bR hk,fS (by omega) (by simpa using hi),ajG hi,hg,aX];split
      · rename_i he;have hval:=hs _ (nI hi2) k hk he;have hr:=hq.rv _ (nI hi2);rw[bR (show k<x.host.values.length by omega),hval,bw (by omega)];congr 1
      · rfl).1
    rw[key];have:x.nodes.foldl (λ(s':List ah) _=>s') s=s:=by
      induction x.nodes with
      |nil=>rfl
      |cons a l ih=>rw[List.foldl_cons];exact ih
    rw[this,aaU,dJ (by omega)];rfl
  · intro s hs' cv;dsimp only;rw[eZ (by omega),cond_false]
end
def adv(g:eS)(k i:Int)(out:Bool):Int:=(((g.au.filter λe=>decide (e.type=k)&&(if out=true then decide (e.src=i) else decide (e.dst=i))).length:Nat):Int)
def ay8(t:Types)(g:eS)(k:Int)(out:Bool)(kind low high:Int)(i:Nat):Bool:=isB t (g.nodes.getD i default) kind&&(decide (adv g k (i:Int) out<low)||(decide (0<=high)&&decide (high<adv g k (i:Int) out)))
def qF(t:Types)(g:eS)(k:Int)(out:Bool)(kind low high:Int):List cF:=((List.range g.nodes.length).filter (ay8 t g k out kind low high)).map λi:Nat=>⟨k,(i:Int),adv g k (i:Int) out,out⟩
def aeq(t:Types)(g:eS)(k:Nat):List cF:=qF t g (k:Int) true (t.au.getD k default).src (t.au.getD k default).nL (t.au.getD k default).jZ++qF t g (k:Int) false (t.au.getD k default).dst (t.au.getD k default).ta (t.au.getD k default).oe
def af3(t:Types)(h:Host):List cF:=(List.range t.au.length).flatMap (aeq t h.graph)
theorem amA{O:Type}{f:Nat->Int->(Int->Option O)->(Int->Option O)->Option O}{K:Int->Option O}(l:List Edge)(hl:l.length<=1000000)(b:Edge->Bool)
  (h:∀i (hi:i<l.length) (s:Int) cv,f i s cv K=cv (if b l[i]=true then i64.wrap (s+1) else s)):bZ f (l.length-0) 0 0 K=K (((l.filter b).length:Nat):Int):=by
 have key:∀ (m i:Nat) (s:Nat),i+m=l.length->s<=i->bZ f m i (s:Int) K=K (((s+((l.drop i).filter b).length:Nat)):Int):=by
  intro m
  induction m with
  |zero=>intro i s hi hs;rw[List.drop_eq_nil_of_le (by omega)];rfl
  |succ m ih =>
   intro i s hi hs;have hlt:i<l.length:=by omega
   rw[bZ,h i hlt,List.drop_eq_getElem_cons hlt,List.filter_cons];split
   ·rw[dJ (by omega),show ((s:Nat):Int)+1=((s+1:Nat):Int) from rfl,ih (i+1) (s+1) (by omega) (by omega)];rw[List.length_cons,Nat.add_assoc,Nat.add_comm 1]
   ·exact ih (i+1) s (by omega) (by omega)
 have:=key (l.length-0) 0 0 (by omega) (Nat.le_refl _);simpa using this
section
variable{t:Types}{h:Host}
theorem oV.okT(hf:fM t)(hh:oV t h):OkT t:=tD hf hh.types
theorem oV.aB6(hh:oV t h){i:Nat}(hi:i<h.graph.nodes.length):0<=h.graph.nodes[i]/\h.graph.nodes[i]<t.nodes.length:=by
 have h1:=(hh.graph.kind i hi).1;have h2:=hh.node i hi;have hg:h.graph.nodes.getD i default=h.graph.nodes[i]:=by simp[hi]
 rw[hg] at h1 h2;unfold ni at h2;split at h2
 ·cases h2
 ·omega
theorem ay9(hf:fM t)(ho:OkT t){k:Nat}(hk:k<t.au.length):(0<=t.au[k].src/\t.au[k].src<t.nodes.length)/\0<=t.au[k].dst/\t.au[k].dst<t.nodes.length:=by
 have:=ho.ends hk;have hg:t.au.getD k default=t.au[k]:=by simp[hk]
 rw[hg] at this;unfold inB at this;simp only[Bool.and_eq_true,decide_eq_true_eq] at this;exact this
theorem aIw(hf:fM t)(hv:(gC t).2=0){a b:Int}(ha:0<=a/\a<t.nodes.length)(hb:0<=b/\b<t.nodes.length):uE t a b=some (isB t a b):=by
 unfold uE;have hg:qq t [a,b]=0:=by unfold qq;rw[if_neg (λh=>h hv),if_neg];simp only[List.any_cons,List.any_nil,Bool.or_false];unfold inB;rw[dK ha.1,dK ha.2,dK hb.1,dK hb.2];simp
 rw[aT (show vN t [a,b]=_ from tg ⟨hf,by simp⟩),hg,dK rfl,cond_true,aT (show abp t a b=_ from tg ⟨tD hf hv,ha⟩)]
theorem aza(hf:fM t)(hv:(gC t).2=0){a b:Int}(ha:0<=a/\a<t.nodes.length)(hb:0<=b):ic t a b=some (isB t a b):=tg ⟨hf,tD hf hv,ha.1,ha.2,hb⟩
theorem aBr(g:eS)(hg:g.au.length<=1000000)(k i:Int)(out:Bool):fk g k i out=some (adv g k i out):=by
 unfold fk adv;rw[bw (bt (by omega)),amA g.au hg (λe=>decide (e.type=k)&&(if out=true then decide (e.src=i) else decide (e.dst=i))) λj hj s cv=>?_];rw[bR hj];by_cases h1:g.au[j].type=k
 ·rw[dK h1,cond_true,Bool.true_and];cases out with
  |true=>rw[cond_true,if_pos rfl];by_cases h2:g.au[j].src=i<;>simp[h2]
  |false=>rw[cond_false];by_cases h2:g.au[j].dst=i<;>simp[h2]
 ·rw[eZ h1,cond_false,Bool.false_and,if_neg (by simp)]
theorem kX(g:eS)(k:Int)(out:Bool)(kind low high:Int):(qF t g k out kind low high).length<=g.nodes.length:=by unfold qF;rw[List.length_map];refine Nat.le_trans (List.length_filter_le _ _) ?_;rw[List.length_range];exact Nat.le_refl _
theorem yg(hf:fM t)(hh:oV t h)(k:Int)(out:Bool){kind low high:Int}(hk:0<=kind/\kind<t.nodes.length):kN t h k out kind low high=some (qF t h.graph k out kind low high):=by
 have hn:=hh.graph.nodes;have he:=hh.graph.au;unfold kN qF;rw[bw (bt (by omega))];rw[jR h.graph.nodes.length (λi=>if ay8 t h.graph k out kind low high i=true then [(⟨k,(i:Int),adv h.graph k (i:Int) out,out⟩:cF)] else []) 1 (λi _=>by split<;>simp) λi hi s hs cv=>?_,jW]
 ·rfl
 ·simp only[List.length_nil] at hs;have hg:h.graph.nodes.getD i default=h.graph.nodes[i]:=by simp[hi]
  rw[bR hi,aT (aIw hf hh.types (hh.aB6 hi) hk)];unfold ay8;rw[hg];cases isB t h.graph.nodes[i] kind with
  |false=>simp
  |true =>
   rw[cond_true,bw (bt (by omega)),amA h.graph.au (by omega) (λe=>decide (e.type=k)&&(if out=true then decide (e.src=(i:Int)) else decide (e.dst=(i:Int)))) λj hj s cv=>?_]
   ·rw[bw (by omega)];show cond (decide (adv h.graph k (i:Int) out<low)) _ (cond (decide (0<=high)) (cond (decide (high<adv h.graph k (i:Int) out)) _ _) _)=_;cases decide (adv h.graph k (i:Int) out<low)<;>cases decide (0<=high)<;>cases decide (high<adv h.graph k (i:Int) out)<;>simp<;>rfl
   ·rw[bR hj];by_cases h1:h.graph.au[j].type=k
    ·rw[dK h1,cond_true,Bool.true_and];cases out with
     |true=>rw[cond_true,if_pos rfl];by_cases h2:h.graph.au[j].src=(i:Int)<;>simp[h2]
     |false=>rw[cond_false];by_cases h2:h.graph.au[j].dst=(i:Int)<;>simp[h2]
    ·rw[eZ h1,cond_false,Bool.false_and,if_neg (by simp)]
theorem apM(hf:fM t)(hh:oV t h)(hb:sM h):nt t h=some (af3 t h,0):=by
 have hn:=hh.graph.nodes;have hE:=hf.au;unfold nt af3;rw[aT (show qy t h=some 0 by unfold qy;rw[aT (acw hf hb),p8.2 hh]),dK rfl,cond_true,bw (bt (by omega))];have hlen:∀k,(aeq t h.graph k).length<=80:=λk=>by unfold aeq;rw[List.length_append];have h1:=kX (t:=t) h.graph (k:Int) true (t.au.getD k default).src (t.au.getD k default).nL (t.au.getD k default).jZ;have h2:=kX (t:=t) h.graph (k:Int) false (t.au.getD k default).dst (t.au.getD k default).ta (t.au.getD k default).oe;omega
 rw[jR t.au.length (aeq t h.graph) 80 (λk _=>hlen k) λi hi s hs cv=>?_]
 ·rfl
 ·simp only[List.length_nil] at hs;have hg:t.au.getD i default=t.au[i]:=by simp[hi]
  obtain⟨r1,r2⟩:=ay9 hf (hh.okT hf) hi;rw[bR hi,aT (yg hf hh _ _ r1)];have h1:=kX (t:=t) h.graph (i:Int) true t.au[i].src t.au[i].nL t.au[i].jZ;have h2:=kX (t:=t) h.graph (i:Int) false t.au[i].dst t.au[i].ta t.au[i].oe;have:80 * i<=80 * t.au.length:=Nat.mul_le_mul_left _ (by omega);rw[bw (by omega),aT (yg hf hh _ _ r2),bw (by omega)];unfold aeq;rw[hg,List.append_assoc]
theorem amB(hf:fM t)(hh:oV t h)(hb:sM h):gn t h=some (af3 t h,0):=by
  have hn:=hh.graph.nodes;have he:=hh.graph.au;have hE:=hf.au;unfold gn af3;rw[aT (vX hf hb),p8.2 hh,dK rfl,cond_true,bw (bt (by omega))];have hlen:∀k,(aeq t h.graph k).length<=80:=λk=>by unfold aeq;rw[List.length_append];have h1:=kX (t:=t) h.graph (k:Int) true (t.au.getD k default).src (t.au.getD k default).nL (t.au.getD k default).jZ;have h2:=kX (t:=t) h.graph (k:Int) false (t.au.getD k default).dst (t.au.getD k default).ta (t.au.getD k default).oe;omega
  rw[jR t.au.length (aeq t h.graph) 80 (λk _=>hlen k) λi hi s hs cv=>?_]
  · rfl
  · simp only[List.length_nil] at hs;have hg:t.au.getD i default=t.au[i]:=by simp[hi]
    obtain⟨r1,r2⟩:=ay9 hf (hh.okT hf) hi;have hb1:80 * i<=80 * t.au.length:=Nat.mul_le_mul_left _ (by omega);have hs':s.length<=1000000:=by omega
    have key : ∀ (out : Bool) (kind low high : Int) (s : List cF) (cv : List cF → Option (List cF × Int)), s.length ≤ 2000000 → (0 ≤ kind ∧ kind < t.nodes.length) →
        (cB (h.graph.nodes.length<=fuel) <|
     bZ (λaqH (acF:(List cF)) zw aE3 =>
      thn (h.graph.nodes[aqH]?) λaE4 =>
      thn (ic t aE4 kind) λaE5 =>
      cond aE5 (
       thn (fk h.graph ((i:Nat):Int) ((aqH:Nat):Int) out) λaqI =>
       cond (decide (aqI<low)) (
        cB (acF.length+1<=68719476736) <|
        zw (acF++[(⟨((i:Nat):Int),((aqH:Nat):Int),aqI,out⟩:cF)])) <|
       cond (decide (0<=high)) (
        cond (decide (high<aqI)) (
         cB (acF.length+1<=68719476736) <|
         zw (acF++[(⟨((i:Nat):Int),((aqH:Nat):Int),aqI,out⟩:cF)])) <|
        zw acF) <|
       zw acF) <|
      zw acF)
     (h.graph.nodes.length-0) 0 s λacF =>
     cv acF)=cv (s++qF t h.graph (i:Int) out kind low high):=by
      intro out kind low high s cv hs hk;rw[bw (bt (by omega))];rw[jR h.graph.nodes.length (λj=>if ay8 t h.graph (i:Int) out kind low high j=true then [(⟨(i:Int),(j:Int),adv h.graph (i:Int) (j:Int) out,out⟩:cF)] else []) 1 (λi _=>by split<;>simp) λj hj s2 hs2 cv=>?_,jW]
      · rfl
      · have hgj:h.graph.nodes.getD j default=h.graph.nodes[j]:=by simp[hj]
        rw[bR hj,aT (aza hf hh.types (hh.aB6 hj) hk.1),aT (aBr h.graph (by omega) _ _ _),bw (by omega)];unfold ay8;rw[hgj];cases isB t h.graph.nodes[j] kind with
        |false=>simp
        |true=>simp only[cond_true,Bool.true_and];all_goals(cases decide (adv h.graph (i:Int) (j:Int) out<low)<;>cases decide (0<=high)<;>cases decide (high<adv h.graph (i:Int) (j:Int) out)<;>simp<;>rfl)
    have h1:=kX (t:=t) h.graph (i:Int) true t.au[i].src t.au[i].nL t.au[i].jZ;rw[bR hi,bw (bt (by omega))];rw[af0 (r1:=s++qF t h.graph (i:Int) true t.au[i].src t.au[i].nL t.au[i].jZ) (r2:=s++qF t h.graph (i:Int) true t.au[i].src t.au[i].nL t.au[i].jZ++qF t h.graph (i:Int) false t.au[i].dst t.au[i].ta t.au[i].oe) (λcv=>key true _ _ _ s cv (by omega) r1) (λcv=>key false _ _ _ _ cv (by rw[List.length_append];omega) r2)];unfold aeq;rw[hg,List.append_assoc]
end
end Go.Proofs.YtjhkgjlmiolfoaaGreat
