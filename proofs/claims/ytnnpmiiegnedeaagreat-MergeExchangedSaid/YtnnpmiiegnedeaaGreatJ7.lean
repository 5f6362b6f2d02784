/- Joined texts, part 7: lemmas for the statement. No condition. -/
import Derived.Test.YtnnpmiiegnedeaaGreatJ5
import Derived.Test.YtnnpmiiegnedeaaGreatJ6
import Derived.Test.YtnnpmiiegnedeaaGreatJ4
import Derived.Test.YtnnpmiiegnedeaaGreatRows
set_option maxHeartbeats 4000000
set_option linter.unusedSimpArgs false
set_option linter.unusedVariables false
open Nat (reduceEqDiff reduceLT reduceLeDiff reduceMul reduceAdd reduceSub)
open Go.IntKind (i64)
open Go.Proofs.Tryz
open Go.Proofs.Tryz renaming prog → pw
set_option maxRecDepth 20000
namespace Go.Proofs.YtnnpmiiegnedeaaGreat
open Go.cv
noncomputable section
theorem KX(d:Types)(f:ay)(g:aH)(i:aH)(j:ay)(k:ay)(r:(List aG)×Int)(h:mT d f g i j k=some r):bw pw 27 [.agg [.aV (d.nodes.map aJ),.aV (d.ak.map aL)],.agg (aC f),.agg (aF g),.agg (aF i),.agg (aC j),.agg (aC k)] (λv=>v = .dY [.row 57 3 (r.1.map aB),.p (.val (.int .i64 r.2))]):=by
 refine bw.vg ?_;refine bF [61] func27 ntmps27 results27 ?_;unfold mT at h;have F:=trivial;refine zK F h (ahy _ _ _ _) λt h=>?_
 refine oM F h (λF h=>?_) λF h=>?_
 ·refine eZ 9 [.p,.q,.q] ?_;refine eN F h (o9 _ _) λu h=>?_
  refine eN F h (o9 _ _) λw h=>?_
  refine eN F h (o9 _ _) λy h=>?_
  refine eN F h (tO _) λA h=>?_
  refine zG 1704 F h (o9 _ _) λn h=>?_
  refine zV ?_;refine zN F h (0:Nat) [16,44,45] (λx=>[(17,.row 13793 x.2),(46,.p (.val (.int .i64 ((x.1.1:Nat):Int))))]) [1704] (λx H=>[(13793,.row x.2 57 3 (x.1.2.map aB))]) ?_ ?_ (hw:=by refine dw.trans (jl 17 13793 57 3 rfl rfl (by decide)) ?_;exact zW)
  ·intro m e b _ _ F l h;try dsimp only at h
   refine zI cB F h λa F h=>?_
   refine zK F h (sL _ _) λo h=>?_
   refine oM F h (λF h=>?_) λF h=>?_
   ·exact zX (z:=l _ b h zW)
   ·refine zC F h λF h=>?_
    refine dc (e.length+1) 24 F λF=>?_
    refine zF (bt aB e [(⟨4,a.id,a.fq⟩:aG)] (c:=[[.val (.int .i64 4),.val (.int .i64 a.id),.val (.int .i64 a.fq)]]) rfl) F λF=>?_
    exact zX (z:=l _ (b+1) h zW)
  ·intro m e b _ F h;try dsimp only at h
   refine DB F h (qh b _) λs h=>?_
   exact jx h
 ·exact jx h
end
noncomputable section
theorem vP(a:Types)(b:ay)(c:aH)(r:ay×Int)(h:fT a b c=some r):bw pw 164 [.agg [.aV (a.nodes.map aJ),.aV (a.ak.map aL)],.agg (aC b),.agg (aF c)] (λv=>v = .dY [.agg [.row 3 1 (r.1.host.graph.nodes.map encI),.row 150 3 (r.1.host.graph.ak.map aY),.row 32 1 (r.1.host.values.map bI),.row 3 1 (r.1.nodes.map encI),.row 3 1 (r.1.ak.map encI),.p (.val (.int .i64 r.1.next))],.p (.val (.int .i64 r.2))]):=by
 refine bw.vg ?_;refine bF [] func164 ntmps164 results164 ?_;unfold fT at h;have F:=trivial;refine zK F h (vN _) λd h=>?_
 refine oM F h (λF h=>?_) λF h=>?_
 ·refine b5 ((0:Int)<=0) F λF=>?_
  refine b5 ((0:Int)<((2:Nat):Int)) F λF=>?_
  refine oM F h (λF h=>?_) λF h=>?_
  ·refine eZ 6 [.o,.w,.s,.q] ?_;refine eN F h (p9 _) λe h=>?_
   refine si F h (tR _ _) λf h=>?_
   refine oM F h (λF h=>?_) λF h=>?_
   ·refine zK F h (tP _ _) λg h=>?_
    refine oM F h (λF h=>?_) λF h=>?_
    ·refine b5 ((0:Int)<=1) F λF=>?_
     refine b5 ((1:Int)<((2:Nat):Int)) F λF=>?_
     refine zG 1768 F h (jE _ _) λi h=>?_
     refine zK F h (jf _ _) λj h=>?_
     refine oM F h (λF h=>?_) λF h=>?_
     ·exact jx h
     ·exact jx h
    ·exact jx h
   ·exact jx h
  ·exact jx h
 ·exact jx h
end
noncomputable section
theorem lu(a:Types)(b:ay)(c:List jW)(r:ay)(h:eL a b c=some r):aS pw 18 [.agg [.aV (a.nodes.map aJ),.aV (a.ak.map aL)],.agg (aC b),.aV (c.map dW)] (λv=>v = .agg (aC r)):=by
 refine aS.oA ?_;refine aR [] func18 ntmps18 results18 ?_;unfold eL at h;have F:=trivial;refine zV ?_;refine zN F h () [2,3,4,6] (λx=>[(7,.p (.val (.int .i64 ((x.1.1:Nat):Int))))]) [3,6] (λx H=>[(4,.box [.p (.aV (x.1.2.1.map encI)),.p (.aV (x.1.2.2.1.map aY)),.p (.aV (x.1.2.2.2.1.map bI)),.p (.aV (x.1.2.2.2.2.1.map encI)),.p (.aV (x.1.2.2.2.2.2.1.map encI)),.p (.val (.int .i64 x.1.2.2.2.2.2.2))])]) ?_ ?_
 ·intro f g e _ _ F d h;try dsimp only at h
  refine eZ 7 [.w,.s] ?_;refine zI dW F h λi F h=>?_
  refine eN F h (vO _ _ _) λj h=>?_
  refine zK F h (jf _ _) λk h=>?_
  refine zB F h (λF h=>?_) λF h=>?_
  ·exact zX (z:=d _ () h zW)
  ·exact zX (z:=d _ () h zW)
 ·intro f g e _ F h;try dsimp only at h
  exact zR h
end
noncomputable section
theorem rG(a:Types)(b:ay)(c:aH)(d:aH)(r:(List aG)×Int)(h:gI a b c d=some r):bw pw 7 [.agg [.aV (a.nodes.map aJ),.aV (a.ak.map aL)],.agg (aC b),.agg (aF c),.agg (aF d)] (λv=>v = .dY [.row 57 3 (r.1.map aB),.p (.val (.int .i64 r.2))]):=by
 refine bw.vg ?_;refine bF [] func7 ntmps7 results7 ?_;unfold gI at h;have F:=trivial;refine zK F h (KW _ _ _ _) λe h=>?_
 refine oM F h (λF h=>?_) λF h=>?_
 ·refine zG 1400 F h (vp _ _) λf h=>?_
  refine zB F h (λF h=>?_) λF h=>?_
  ·exact jx h
  ·refine zK F h (KU _ _ _ _) λg h=>?_
   refine oM F h (λF h=>?_) λF h=>?_
   ·refine zG 1768 F h (KX _ _ _ _ _ _) λi h=>?_
    exact jx h
   ·exact jx h
 ·exact jx h
end
noncomputable section
theorem gM(a:Types)(b:ay)(c:aH)(r:ay×Int)(h:bX a b c=some r):bw pw 97 [.agg [.aV (a.nodes.map aJ),.aV (a.ak.map aL)],.agg (aC b),.agg (aF c)] (λv=>v = .dY [.agg [.row 3 1 (r.1.host.graph.nodes.map encI),.row 150 3 (r.1.host.graph.ak.map aY),.row 32 1 (r.1.host.values.map bI),.row 3 1 (r.1.nodes.map encI),.row 3 1 (r.1.ak.map encI),.p (.val (.int .i64 r.1.next))],.p (.val (.int .i64 r.2))]):=by
 refine bw.vg ?_;refine bF [] func97 ntmps97 results97 ?_;unfold bX at h;have F:=trivial;refine zK F h (jf _ _) λd h=>?_
 refine oM F h (λF h=>?_) λF h=>?_
 ·refine zG 1304 F h (vP _ _ _) λe h=>?_
  exact jx h
 ·exact jx h
end
noncomputable section
theorem akd(a:Types)(b:ay)(c:aH)(d:aH)(r:ay×Int)(h:rA a b c d=some r):aS pw 28 [.agg [.aV (a.nodes.map aJ),.aV (a.ak.map aL)],.agg (aC b),.agg (aF c),.agg (aF d)] (λv=>v = .dY [.agg (aC r.1),.val (.int .i64 r.2)]):=by
 refine aS.oA ?_;refine aR [] func28 ntmps28 results28 ?_;unfold rA at h;have F:=trivial;refine zK F h (KU _ _ _ _) λe h=>?_
 refine oM F h (λF h=>?_) λF h=>?_
 ·refine zG 1544 F h (KX _ _ _ _ _ _) λf h=>?_
  refine oM F h (λF h=>?_) λF h=>?_
  ·refine zB F h (λF h=>?_) λF h=>?_
   ·exact zR h
   ·exact zR h
  ·exact zR h
 ·exact zR h
end
noncomputable section
theorem wJ(g:Types)(l:ay)(m:aH)(t:aH)(u:ay)(r:(List aG))(h:iR g l m t u=some r):bw pw 55 [.agg [.aV (g.nodes.map aJ),.aV (g.ak.map aL)],.agg (aC l),.agg (aF m),.agg (aF t),.agg (aC u)] (λv=>v = .row 57 3 (r.map aB)):=by
 refine bw.vg ?_;refine bF [121] func55 ntmps55 results55 ?_;unfold iR at h;have F:=trivial;refine zG 1432 F h (gM _ _ _) λa h=>?_
 refine zT F h (wH _) λQ h=>?_
 refine b5 ((0:Int)<=1) F λF=>?_
 refine b5 ((1:Int)<((2:Nat):Int)) F λF=>?_
 refine eZ 8 [.o,.w,.s,.q] ?_;refine eN F h (pH _ _) λR h=>?_
 refine eN F h (gM _ _ _) λS h=>?_
 refine zV ?_;refine iZ 1432 0 3 1 (a.1.host.graph.nodes.map encI) [] (by simp -implicitDefEqProofs only[go_sem,F]<;>rfl) (by simp -implicitDefEqProofs only[go_sem,F]<;>and_intros<;>rfl) (by decide) ?_;refine iZ 1433 0 150 3 (a.1.host.graph.ak.map aY) [] (by simp -implicitDefEqProofs only[go_sem,F]<;>rfl) (by simp -implicitDefEqProofs only[go_sem,F]<;>and_intros<;>rfl) (by decide) ?_;refine iZ 1434 0 32 1 (a.1.host.values.map bI) [] (by simp -implicitDefEqProofs only[go_sem,F]<;>rfl) (by simp -implicitDefEqProofs only[go_sem,F]<;>and_intros<;>rfl) (by decide) ?_;refine iZ 1435 0 3 1 (a.1.nodes.map encI) [] (by simp -implicitDefEqProofs only[go_sem,F]<;>rfl) (by simp -implicitDefEqProofs only[go_sem,F]<;>and_intros<;>rfl) (by decide) ?_;refine iZ 1436 0 3 1 (a.1.ak.map encI) [] (by simp -implicitDefEqProofs only[go_sem,F]<;>rfl) (by simp -implicitDefEqProofs only[go_sem,F]<;>and_intros<;>rfl) (by decide) ?_;refine zE [(0,.q),(1,.q),(3,.q),(4,.q),(7,.b),(8,.b),(2,.f),(5,.f),(6,.w),(9,.q),(10,.w),(11,.q)] ?_;refine zH 1752 F h (jw _ _) λD h=>?_
 refine zH 1800 F h (jw _ _) λk h=>?_
 refine zC F h λF h=>?_
 refine dc (D.length+k.length) 24 F λF=>?_
 refine zF (eq_true (dJ (n:=3) (f:=bZ) (λ_=>rfl) k)) F λF=>?_
 refine eN F h (jw _ _) λC h=>?_
 refine zC F h λF h=>?_
 refine dc (D.length+k.length+C.length) 24 F λF=>?_
 refine zF (eq_true (dJ (n:=3) (f:=bZ) (λ_=>rfl) C)) F λF=>?_
 refine zG 1928 F h (jw _ _) λO h=>?_
 refine zV ?_;refine zN F h (0:Nat) [5,9,16,17] (λx=>[(18,.row 11820 x.2),(19,.p (.val (.int .i64 ((x.1.1:Nat):Int))))]) [5,9,1752,1928] (λx H=>[(11820,.row x.2 57 3 (x.1.2.map aB))]) ?_ ?_ (hw:=by refine dw.trans (jl 18 11820 57 3 rfl rfl (by decide)) ?_;exact zW)
 ·intro I K B _ _ F E h;try dsimp only at h
  refine zV ?_;refine zN F h (B:Nat) [5,9,16,17,19] (λx=>[(18,.row 11820 x.2),(20,.p (.val (.int .i64 ((x.1.1:Nat):Int))))]) [5,9,1752,1928] (λx H=>[(11820,.row x.2 57 3 (x.1.2.map aB))]) ?_ ?_
  ·intro i j e _ _ F y h;try dsimp only at h
   refine zV ?_;refine zN F h () [5,9,16,17,18,19,20] (λx=>[(21,.p (.val (.bool x.1.2))),(22,.p (.val (.int .i64 ((x.1.1:Nat):Int))))]) [5,9,1752,1928,11820] (λx H=>[]) ?_ ?_
   ·intro J L G _ _ F d h;try dsimp only at h
    refine eZ 33 [] ?_;refine AZ F h (λF h=>?_) λF h=>?_
    ·exact zX (z:=d _ () h zW)
    ·refine zI bZ F h λM F h=>?_
     refine zI encI F h λN F h=>?_
     refine mE F h (λF h=>?_) λF h=>?_
     ·refine mE F h (λF h=>?_) λF h=>?_
      ·refine si F h (aan _ _) λP h=>?_
       exact zX (z:=d _ () h zW)
      ·exact zX (z:=d _ () h zW)
     ·exact zX (z:=d _ () h zW)
   ·intro J L G _ F h;try dsimp only at h
    refine zB F h (λF h=>?_) λF h=>?_
    ·refine zI encI F h λA F h=>?_
     refine zC F h λF h=>?_
     refine dc (j.length+1) 24 F λF=>?_
     refine zF (bt aB j [(⟨4,A,((i:Nat):Int)⟩:aG)] (c:=[[.val (.int .i64 4),.val (.int .i64 A),.val (.int .i64 ((i:Nat):Int))]]) rfl) F λF=>?_
     exact zX (z:=y _ (e+1) h zW)
    ·exact zX (z:=y _ e h zW)
  ·intro i j e _ F h;try dsimp only at h
   exact zX (z:=E _ e h zW)
 ·intro I K B _ F h;try dsimp only at h
  exact jx h
end
noncomputable section
theorem wK(b:Types)(c:ay)(d:aH)(e:aH)(r:ay×Int)(h:gx b c d e=some r):bw pw 54 [.agg [.aV (b.nodes.map aJ),.aV (b.ak.map aL)],.agg (aC c),.agg (aF d),.agg (aF e)] (λv=>v = .dY [.agg [.row 3 1 (r.1.host.graph.nodes.map encI),.row 150 3 (r.1.host.graph.ak.map aY),.row 32 1 (r.1.host.values.map bI),.row 3 1 (r.1.nodes.map encI),.row 3 1 (r.1.ak.map encI),.p (.val (.int .i64 r.1.next))],.p (.val (.int .i64 r.2))]):=by
 refine bw.vg ?_;refine bF [] func54 ntmps54 results54 ?_;unfold gx at h;have F:=trivial;refine zG 1272 F h (gM _ _ _) λa h=>?_
 refine oM F h (λF h=>?_) λF h=>?_
 ·refine zV ?_;refine iZ 1272 0 3 1 (a.1.host.graph.nodes.map encI) [] (by simp -implicitDefEqProofs only[go_sem,F]<;>rfl) (by simp -implicitDefEqProofs only[go_sem,F]<;>and_intros<;>rfl) (by decide) ?_;refine iZ 1273 0 150 3 (a.1.host.graph.ak.map aY) [] (by simp -implicitDefEqProofs only[go_sem,F]<;>rfl) (by simp -implicitDefEqProofs only[go_sem,F]<;>and_intros<;>rfl) (by decide) ?_;refine iZ 1274 0 32 1 (a.1.host.values.map bI) [] (by simp -implicitDefEqProofs only[go_sem,F]<;>rfl) (by simp -implicitDefEqProofs only[go_sem,F]<;>and_intros<;>rfl) (by decide) ?_;refine iZ 1275 0 3 1 (a.1.nodes.map encI) [] (by simp -implicitDefEqProofs only[go_sem,F]<;>rfl) (by simp -implicitDefEqProofs only[go_sem,F]<;>and_intros<;>rfl) (by decide) ?_;refine iZ 1276 0 3 1 (a.1.ak.map encI) [] (by simp -implicitDefEqProofs only[go_sem,F]<;>rfl) (by simp -implicitDefEqProofs only[go_sem,F]<;>and_intros<;>rfl) (by decide) ?_;refine eZ 7 [.w,.s] ?_;refine eN F h (pH _ _) λf h=>?_
  refine eN F h (yc _ _) λg h=>?_
  refine eN F h (rV _ _) λi h=>?_
  refine rS F h (λF h=>?_) λF h=>?_
  ·exact jx h
  ·refine zB F h (λF h=>?_) λF h=>?_
   ·exact jx h
   ·refine zG 1976 F h (gM _ _ _) λj h=>?_
    exact jx h
 ·exact jx h
end
noncomputable section
theorem xm(a:Types)(b:ay)(c:aH)(d:aH)(r:Int)(h:gL a b c d=some r):aS pw 52 [.agg [.aV (a.nodes.map aJ),.aV (a.ak.map aL)],.agg (aC b),.agg (aF c),.agg (aF d)] (λv=>v = .val (.int .i64 r)):=by
 refine aS.oA ?_;refine aR [] func52 ntmps52 results52 ?_;unfold gL at h;have F:=trivial;refine zG 1272 F h (gM _ _ _) λe h=>?_
 refine oM F h (λF h=>?_) λF h=>?_
 ·refine zG 1432 F h (gM _ _ _) λf h=>?_
  refine oM F h (λF h=>?_) λF h=>?_
  ·refine zK F h (qF _) λg h=>?_
   refine nQ F h (λF h=>?_) λF h=>?_
   ·refine zK F h (qF _) λi h=>?_
    refine oM F h (λF h=>?_) λF h=>?_
    ·refine b5 ((0:Int)<=1) F λF=>?_
     refine b5 ((1:Int)<((2:Nat):Int)) F λF=>?_
     refine b5 ((0:Int)<=1) F λF=>?_
     refine b5 ((1:Int)<((2:Nat):Int)) F λF=>?_
     refine b5 ((0:Int)<=0) F λF=>?_
     refine b5 ((0:Int)<((2:Nat):Int)) F λF=>?_
     refine zB F h (λF h=>?_) λF h=>?_
     ·exact zR h
     ·exact zR h
    ·exact zR h
   ·exact zR h
  ·exact zR h
 ·exact zR h
end
noncomputable section
theorem qa(a:Types)(b:ay)(c:aH)(d:aH)(r:ay×Int)(h:gy a b c d=some r):aS pw 9 [.agg [.aV (a.nodes.map aJ),.aV (a.ak.map aL)],.agg (aC b),.agg (aF c),.agg (aF d)] (λv=>v = .dY [.agg (aC r.1),.val (.int .i64 r.2)]):=by
 refine aS.oA ?_;refine aR [] func9 ntmps9 results9 ?_;unfold gy at h;have F:=trivial;refine zK F h (KW _ _ _ _) λe h=>?_
 refine oM F h (λF h=>?_) λF h=>?_
 ·refine zG 1352 F h (vp _ _) λf h=>?_
  refine zB F h (λF h=>?_) λF h=>?_
  ·exact zR h
  ·refine zK F h (akd _ _ _ _) λg h=>?_
   exact zR h
 ·exact zR h
end
noncomputable section
theorem mW  (r:Bool)(h:fI  = some r):aS pw 6 [] (λv=>v = .val (.bool r)):=by
 refine aS.oA ?_;refine aR [] func6 ntmps6 results6 ?_;unfold fI at h;have F:=trivial;refine zG 1144 F h vL λr1 h=>?_
 refine zV ?_;refine iZ 1144 0 135 4 (r1.nodes.map aJ) [] (by simp -implicitDefEqProofs only[go_sem,F]<;>rfl) (by simp -implicitDefEqProofs only[go_sem,F]<;>and_intros<;>rfl) (by decide) ?_;refine iZ 1145 0 140 7 (r1.ak.map aL) [] (by simp -implicitDefEqProofs only[go_sem,F]<;>rfl) (by simp -implicitDefEqProofs only[go_sem,F]<;>and_intros<;>rfl) (by decide) ?_;refine eZ 10 [] ?_;refine eN F h rC λr2 h=>?_
 refine eN F h (rG _ _ _ _) λb h=>?_
 refine eZ 7 [.o,.w,.s,.q] ?_;refine eN F h rC λc h=>?_
 refine si F h (qa _ _ _ _) λd h=>?_
 refine nQ F h (λF h=>?_) λF h=>?_
 ·refine zK F h (p8 _ _) λe h=>?_
  refine nQ F h (λF h=>?_) λF h=>?_
  ·refine nQ F h (λF h=>?_) λF h=>?_
   ·refine zK F h (vl _ _) λf h=>?_
    refine nQ F h (λF h=>?_) λF h=>?_
    ·refine nQ F h (λF h=>?_) λF h=>?_
     ·refine zJ 1 bI F h λa F h=>?_
      refine zK F h (vl _ _) λg h=>?_
      exact zR h
     ·exact zR h
    ·exact zR h
   ·exact zR h
  ·exact zR h
 ·exact zR h
end
noncomputable section
theorem uC(a:Types)(b:ay)(c:aH)(d:aH)(r:(List aG)×Int)(h:gG a b c d=some r):bw pw 20 [.agg [.aV (a.nodes.map aJ),.aV (a.ak.map aL)],.agg (aC b),.agg (aF c),.agg (aF d)] (λv=>v = .dY [.row 57 3 (r.1.map aB),.p (.val (.int .i64 r.2))]):=by
 refine bw.vg ?_;refine bF [] func20 ntmps20 results20 ?_;unfold gG at h;have F:=trivial;refine zK F h (xm _ _ _ _) λe h=>?_
 refine oM F h (λF h=>?_) λF h=>?_
 ·refine zG 1400 F h (tQ _ _ _) λf h=>?_
  refine zB F h (λF h=>?_) λF h=>?_
  ·exact jx h
  ·refine zG 1560 F h (wK _ _ _ _) λg h=>?_
   refine oM F h (λF h=>?_) λF h=>?_
   ·refine zG 1736 F h (wJ _ _ _ _ _) λi h=>?_
    exact jx h
   ·exact jx h
 ·exact jx h
end
noncomputable section
theorem sM(b:bS)(r:Types×bP×Bool)(h:fG b=some r):bw pw 5 [.agg (eR b)] (λv=>v = .dY [.agg [.p (.aV (r.1.nodes.map aJ)),.p (.aV (r.1.ak.map aL))],.agg [.p (.aV (r.2.1.a.host.graph.nodes.map encI)),.p (.aV (r.2.1.a.host.graph.ak.map aY)),.p (.aV (r.2.1.a.host.values.map bI)),.p (.aV (r.2.1.a.nodes.map encI)),.p (.aV (r.2.1.a.ak.map encI)),.p (.val (.int .i64 r.2.1.a.next)),.row 86 3 (r.2.1.p.ax.map ag),.row 88 4 (r.2.1.p.aA.map aj),.row 86 3 (r.2.1.p.aP.map ag),.row 88 4 (r.2.1.p.aM.map aj),.row 91 4 (r.2.1.p.values.map aI),.p (.val (.int .i64 r.2.1.p.next.x0)),.p (.val (.int .i64 r.2.1.p.next.x1)),.row 86 3 (r.2.1.q.ax.map ag),.row 88 4 (r.2.1.q.aA.map aj),.row 86 3 (r.2.1.q.aP.map ag),.row 88 4 (r.2.1.q.aM.map aj),.row 91 4 (r.2.1.q.values.map aI),.p (.val (.int .i64 r.2.1.q.next.x0)),.p (.val (.int .i64 r.2.1.q.next.x1))],.p (.val (.bool r.2.2))]):=by
 refine bw.vg ?_;refine bF [2000002] func5 ntmps5 results5 ?_;unfold fG at h;have F:=trivial;refine rS F h (λF h=>?_) λF h=>?_
 ·exact jx h
 ·refine rS F h (λF h=>?_) λF h=>?_
  ·exact jx h
  ·refine rS F h (λF h=>?_) λF h=>?_
   ·exact jx h
   ·refine rS F h (λF h=>?_) λF h=>?_
    ·exact jx h
    ·refine rS F h (λF h=>?_) λF h=>?_
     ·exact jx h
     ·refine rS F h (λF h=>?_) λF h=>?_
      ·exact jx h
      ·refine zB F h (λF h=>?_) λF h=>?_
       ·exact jx h
       ·refine zT F h (x9 _ _) λr1 h=>?_
        refine eZ 8 [.o,.w,.s,.q] ?_;refine eN F h (rD _ _) λr2 h=>?_
        refine eN F h (zb _ _) λc h=>?_
        refine zK F h (lu _ _ _) λd h=>?_
        refine eZ 7 [.f,.q,.q,.o,.w,.s,.q] ?_;refine si F h (lu _ _ _) λe h=>?_
        refine zH 2376 F h (rF _ _ _) λg h=>?_
        refine eZ 7 [.f,.q,.q,.o,.w,.s,.q] ?_;refine si F h (lu _ _ _) λi h=>?_
        refine zH 2552 F h (rF _ _ _) λj h=>?_
        refine zG 2744 F h (uC _ _ _ _) λk h=>?_
        refine zD [.q,.o,.q,.q,.q,.q,.q,.q,.q,.p,.p,.p,.s,.w,.q] ?_;refine mE F h (λF h=>?_) λF h=>?_
        ·refine mE F h (λF h=>?_) λF h=>?_
         ·exact jx h
         ·exact jx h
        ·exact jx h
end
noncomputable section
theorem rH(a:bS)(r:Bool)(h:eV a=some r):aS pw 3 [.agg (eR a)] (λv=>v = .val (.bool r)):=by
 refine aS.oA ?_;refine aR [] func3 ntmps3 results3 ?_;unfold eV at h;have F:=trivial;refine zG 1288 F h (sM _) λr1 h=>?_
 refine zK F h mW λr2 h=>?_
 refine nQ F h (λF h=>?_) λF h=>?_
 ·refine oM F h (λF h=>?_) λF h=>?_
  ·refine zG 1592 F h (rG _ _ _ _) λg h=>?_
   refine zG 1768 F h (rG _ _ _ _) λi h=>?_
   refine nQ F h (λF h=>?_) λF h=>?_
   ·refine oM F h (λF h=>?_) λF h=>?_
    ·refine nQ F h (λF h=>?_) λF h=>?_
     ·refine zJ 0 aB F h λb F h=>?_
      refine zB F h (λF h=>?_) λF h=>?_
      ·refine zK F h (p8 _ _) λj h=>?_
       exact zR h
      ·refine DA [1288,1289,1290,1291,1292,1293,1294,1295,1296,1297] F h (qa _ _ _ _) λk h=>?_
       refine zK F h (qa _ _ _ _) λl h=>?_
       refine nQ F h (λF h=>?_) λF h=>?_
       ·refine nQ F h (λF h=>?_) λF h=>?_
        ·refine zB F h (λF h=>?_) λF h=>?_
         ·exact zR h
         ·refine zG 2936 F h (rE _ _ _) λm h=>?_
          refine nQ F h (λF h=>?_) λF h=>?_
          ·exact zR h
          ·exact zR h
        ·exact zR h
       ·exact zR h
     ·refine DA [1288,1289,1290,1291,1292,1293,1294,1295,1296,1297] F h (qa _ _ _ _) λn h=>?_
      refine zK F h (qa _ _ _ _) λc h=>?_
      refine nQ F h (λF h=>?_) λF h=>?_
      ·refine nQ F h (λF h=>?_) λF h=>?_
       ·refine zB F h (λF h=>?_) λF h=>?_
        ·exact zR h
        ·refine zG 2936 F h (rE _ _ _) λd h=>?_
         refine nQ F h (λF h=>?_) λF h=>?_
         ·exact zR h
         ·exact zR h
       ·exact zR h
      ·exact zR h
    ·exact zR h
   ·exact zR h
  ·refine zK F h mW λe h=>?_
   exact zR h
 ·refine zK F h mW λf h=>?_
  exact zR h
end
open Go.ChangeShapes Go.WideShapes Go.ChangeAt Go.RowKit
variable{w:World}{H:Type}{enc:TypeId×Value->H}
def G5(n:Int):Prop:=IntKind.u8.min<=n/\n<=IntKind.u8.max
theorem d5:ek pw w enc 5 1 (λn:Int=>[.val (.int .u8 n)]) G5 :=
 .WC .u8 underlying5
def KY(x:dM):Prop:=G5 x.x0/\G5 x.x1/\True
theorem d132:ek pw w enc 132 2 (λx:dM=>[.val (.int .u8 x.x0),.val (.int .u8 x.x1)]) KY:=(ek.array underlying132 (by kernel_rfl) (sz0:=1) (by kernel_rfl) (.cons rfl (by kernel_rfl) d5 (.cons rfl (by kernel_rfl) d5 (.nil _)))).map (λx=>⟨x.1,x.2.1⟩) (λa=>(a.x0,a.x1,())) (λ_=>rfl) (λ_=>rfl) (λ_ h=>h)
def Ck(l:List dM):Prop:=(∀x∈l,KY x)/\l.length<=reachBytes
theorem d22:ek pw w enc 22 1 (λl:List dM=>[.aV (l.map er)]) Ck:=(ek.slice underlying22 (by kernel_rfl) (by decide) (b6 (by kernel_rfl)) d132).map id id (λ_=>rfl) (λ_=>rfl) (λ_ h=>h)
def KZ(x:jW):Prop:=G5 x.x0/\G5 x.x1/\G5 x.x2/\True
theorem d148:ek pw w enc 148 3 (λx:jW=>[.val (.int .u8 x.x0),.val (.int .u8 x.x1),.val (.int .u8 x.x2)]) KZ:=(ek.array underlying148 (by kernel_rfl) (sz0:=1) (by kernel_rfl) (.cons rfl (by kernel_rfl) d5 (.cons rfl (by kernel_rfl) d5 (.cons rfl (by kernel_rfl) d5 (.nil _))))).map (λx=>⟨x.1,x.2.1,x.2.2.1⟩) (λa=>(a.x0,a.x1,a.x2,())) (λ_=>rfl) (λ_=>rfl) (λ_ h=>h)
def Bx(l:List jW):Prop:=(∀x∈l,KZ x)/\l.length<=reachBytes
theorem d23:ek pw w enc 23 1 (λl:List jW=>[.aV (l.map dW)]) Bx:=(ek.slice underlying23 (by kernel_rfl) (by decide) (b6 (by kernel_rfl)) d148).map id id (λ_=>rfl) (λ_=>rfl) (λ_ h=>h)
def Gw(x:dO):Prop:=Ck x.nodes/\Bx x.ak/\True
theorem d25:ek pw w enc 25 2 (λx:dO=>[.aV (x.nodes.map er),.aV (x.ak.map dW)]) Gw:=(ek.struct underlying25 (by kernel_rfl) (.cons rfl (by kernel_rfl) d22 (.cons rfl (by kernel_rfl) d23 (.nil _)))).map (λx=>⟨x.1,x.2.1⟩) (λa=>(a.nodes,a.ak,())) (λ_=>rfl) (λ_=>rfl) (λ_ h=>h)
def Cl(x:bS):Prop:=Ck x.nodes/\Ck x.ak/\Gw x.h/\Bx x.first/\Bx x.p/\Bx x.q/\True
theorem d27:ek pw w enc 27 7 (λx:bS=>[.aV (x.nodes.map er),.aV (x.ak.map er),.aV (x.h.nodes.map er),.aV (x.h.ak.map dW),.aV (x.first.map dW),.aV (x.p.map dW),.aV (x.q.map dW)]) Cl:=(ek.struct underlying27 (by kernel_rfl) (.cons rfl (by kernel_rfl) d22 (.cons rfl (by kernel_rfl) d22 (.cons rfl (by kernel_rfl) d25 (.cons rfl (by kernel_rfl) d23 (.cons rfl (by kernel_rfl) d23 (.cons rfl (by kernel_rfl) d23 (.nil _)))))))).map (λx=>⟨x.1,x.2.1,x.2.2.1,x.2.2.2.1,x.2.2.2.2.1,x.2.2.2.2.2.1⟩) (λa=>(a.nodes,a.ak,a.h,a.first,a.p,a.q,())) (λ_=>rfl) (λ_=>rfl) (λ_ h=>h)
set_option maxRecDepth 100000 in
theorem aCo:laidOutB Tryz.checked.prog=true:=by kernel_rfl
end Go.Proofs.YtnnpmiiegnedeaaGreat
namespace Go.cv
section
variable{σ O α:Type}{Q:O->Prop}
theorem xo{f:σ->(σ->Option O)->(σ->Option O)->Option O}{K:σ->Option O}(d g:σ->Prop)(c:σ->Nat){n:Nat}{s:σ}(h:d s)(j:c s<n)
  (l:∀s (b e:σ->Option O),d s->(∀a,d a->c a<c s->Ok (b a) Q)->(∀a,g a->Ok (e a) Q)->Ok (f s b e) Q) (i:∀s,g s->Ok (K s) Q):Ok (iter f n s K) Q :=
 Ds d c h j λs b m k=>l s b K m k i
end
theorem aD5{n:Int}(h:0<=n/\n<=255):IntKind.u8.wrap n=n:=by simp only[IntKind.wrap,IntKind.signed,IntKind.bits,Bool.false_and,Bool.false_eq_true,if_false];omega
def tf{α β:Type}(o:Option α)(x:α->β)(y:β):β:=match o with
 |some a=>x a
 |none=>y
section
variable{σ O α β:Type}
theorem Gx{f:Nat->Unit->(Unit->Option O)->(Unit->Option O)->Option O}{K:Unit->Option O}(p:Nat->Bool)(x:Nat->Option O):∀ (k i:Nat),
  (∀j,i<=j->j<i+k->∀a,f j () a K=cond (p j) (a ()) (x j))->cq f k i () K=tf ((List.range' i k).find? (λj=>!p j)) x (K ())
 |0,i,_=>rfl
 |k+1,i,h=>by
  rw[cq,h i (Nat.le_refl _) (by omega),List.range'_succ,List.find?_cons];cases d:p i with
  |false=>rfl
  |true =>
   have:=Gx p x k (i+1) λj b c a=>h j (by omega) (by omega) a
   simpa using this
theorem vq{f:Nat->Unit->(Unit->Option O)->(Unit->Option O)->Option O}{K:Unit->Option O}{n:Nat}(p:Nat->Bool)(x:Nat->Option O)(h:∀j,j<n->∀a,f j () a K=cond (p j) (a ()) (x j)) :
  cq f (n-0) 0 () K=tf ((List.range n).find? (λj=>!p j)) x (K ()):=by
 rw[Gx p x (n-0) 0 λj _ b a=>h j (by omega) a,Nat.sub_zero,List.range_eq_range']
theorem K0{f:Nat->Unit->(Unit->Option O)->(Unit->Option O)->Option O}{K:Unit->Option O}(l:List α)(p:α->Bool)(x:α->Option O)(h:∀i (d:i<l.length) b,f i () b K=cond (p l[i]) (b ()) (x l[i])):∀ (k i:Nat),i+k=l.length ->
  cq f k i () K=tf ((l.drop i).find? (λa=>!p a)) x (K ())
 |0,i,c=>by rw[List.drop_eq_nil_of_le (by omega)];rfl
 |k+1,i,c=>by
  rw[cq,h i (by omega),List.drop_eq_getElem_cons (by omega),List.find?_cons];cases e:p l[i] with
  |false=>rfl
  |true=>have:=K0 l p x h k (i+1) (by omega);simpa using this
theorem pe{f:Nat->Unit->(Unit->Option O)->(Unit->Option O)->Option O}{K:Unit->Option O}(l:List α)(p:α->Bool)(x:α->Option O)(h:∀i (c:i<l.length) b,f i () b K=cond (p l[i]) (b ()) (x l[i])) :
  cq f (l.length-0) 0 () K=tf (l.find? (λa=>!p a)) x (K ()):=by
 have:=K0 l p x h (l.length-0) 0 (by omega);simpa using this
theorem K1{f:Nat->σ->(σ->Option O)->(σ->Option O)->Option O}{K:σ->Option O}(l:List α)(g:σ->α->σ)(Inv:Nat->σ->Prop)(h:∀i (j:i<l.length) s,Inv i s->(∀b,f i s b K=b (g s l[i]))/\Inv (i+1) (g s l[i])) :
  ∀ (k i:Nat) (s:σ),i+k=l.length->Inv i s->cq f k i s K=K ((l.drop i).foldl g s)/\Inv l.length ((l.drop i).foldl g s)
 |0,i,s,e,a=>by rw[List.drop_eq_nil_of_le (by omega)];exact⟨rfl,by rw[show l.length=i by omega];exact a⟩
 |k+1,i,s,e,a=>by obtain⟨c,d⟩:=h i (by omega) s a;rw[cq,c,List.drop_eq_getElem_cons (by omega),List.foldl_cons];exact K1 l g Inv h k (i+1) _ (by omega) d
theorem sN{f:Nat->σ->(σ->Option O)->(σ->Option O)->Option O}{K:σ->Option O}{s:σ}(l:List α)(g:σ->α->σ)(Inv:Nat->σ->Prop)(b:Inv 0 s)(h:∀i (c:i<l.length) s,Inv i s->(∀a,f i s a K=a (g s l[i]))/\Inv (i+1) (g s l[i])) :
  cq f (l.length-0) 0 s K=K (l.foldl g s)/\Inv l.length (l.foldl g s):=by
 have:=K1 l g Inv h (l.length-0) 0 s (by omega) b;simpa using this
theorem bC{p:Prop} [Decidable p]{x:Option O}(h:p):cL p x=x:=by unfold cL;rw[if_pos h]
theorem mX{x:α}{k:α->Option O} : thn (some x) k=k x:=rfl
theorem aT{x:Option α}{y:α}{k:α->Option O}(h:x=some y):thn x k=k y:=by rw[h];rfl
theorem b8{l:List α}{i:Nat}{k:α->Option O}(h:i<l.length):thn l[i]? k=k l[i]:=by rw[List.getElem?_eq_getElem h];rfl
theorem gO{l:List α}{i:Int}{k:α->Option O}(a:0<=i)(h:i.toNat<l.length):thn (nr l i) k=k (l[i.toNat]'h):=by unfold nr;rw[if_pos a,List.getElem?_eq_getElem h];rfl
theorem bh{p:Prop} [Decidable p]{x y:Option O} : cond (decide p) x y=if p then x else y:=by by_cases h:p<;>simp[h]
theorem jg{b:Bool}{x y:Option O} : cond (!b) x y=cond b y x:=by cases b<;>rfl
def Cm(e:α->Int)(l:List α):Int:=tf (l.find? (λa=>!decide (e a=0))) e 0
theorem avc{e:α->Int}{l:List α} : Cm e l=0↔∀a∈l,e a=0:=by
 unfold Cm tf;split
 ·rename_i a h;have b:=List.find?_some h;have c:=List.mem_of_find?_eq_some h;simp only[Bool.not_eq_true',decide_eq_false_iff_not] at b;exact⟨λh=>absurd h b,λh=>h a c⟩
 ·rename_i h;simp only[List.find?_eq_none,Bool.not_eq_true',decide_eq_false_iff_not,Decidable.not_not] at h;exact⟨λ_=>h,λ_=>rfl⟩
theorem K2{e:α->Int}{l:List α}{K:Option Int}(b:K=some 0):tf (l.find? (λa=>!decide (e a=0))) (λa=>some (e a)) K=some (Cm e l):=by subst b;unfold Cm tf;split<;>rfl
theorem qb{p:α->Bool}{l:List α}{x y:β} : tf (l.find? (λa=>!p a)) (λ_=>x) y=if l.all p=true then y else x:=by
 unfold tf;split
 ·rename_i a h;have b:=List.find?_some h;have c:=List.mem_of_find?_eq_some h;rw[if_neg];intro d;have:=List.all_eq_true.1 d a c;simp[this] at b
 ·rename_i h;rw[if_pos];simpa using h
def mN(q:α->Bool)(l:List α):Int:=match l.findIdx? q with
 |some i=>i
 |none=>-1
theorem ye{q:α->Bool}{l:List α} : decide (0<=mN q l)=l.any q:=by
 unfold mN;cases h:l.findIdx? q with
 |none =>
  have:=List.findIdx?_eq_none_iff.1 h;have b:l.any q=false:=by simpa using this
  rw[b];rfl
 |some i =>
  have a:l.any q=true:=by have:=List.findIdx?_eq_some_iff_getElem.1 h;obtain⟨c,d,_⟩:=this;exact List.any_eq_true.2 ⟨_,l8 c,d⟩
  rw[a];simp
theorem xq{f:Nat->Unit->(Unit->Option Int)->(Unit->Option Int)->Option Int}{K:Unit->Option Int}(l:List α)(q:α->Bool)(h:∀i (g:i<l.length) a,f i () a K=cond (q l[i]) (some (i:Int)) (a ()))(b:K ()=some (-1)) :
  cq f (l.length-0) 0 () K=some (mN q l):=by
 have e:∀ (k i:Nat),i+k=l.length->cq f k i () K=some (match (l.drop i).findIdx? q with|some j=>((i+j:Nat):Int)|none=>-1):=by
  intro k
  induction k with
  |zero=>intro i c;rw[List.drop_eq_nil_of_le (by omega)];exact b
  |succ k d =>
   intro i c;rw[cq,h i (by omega),List.drop_eq_getElem_cons (by omega),List.findIdx?_cons];cases m:q l[i] with
   |true=>simp
   |false =>
    have:=d (i+1) (by omega);rw[cond_false,this];cases (l.drop (i+1)).findIdx? q with
    |none=>rfl
    |some j=>simp only[Option.map_some,Bool.false_eq_true,if_false,cG];rw[show i+1+j=i+(j+1) by omega]
 have:=e (l.length-0) 0 (by omega);rw[this,List.drop_zero];unfold mN;cases l.findIdx? q<;>simp
end
section
variable{α β:Type}{lt:α->α->Prop}
theorem Gy(i:∀a,¬ lt a a)(j:∀a b c,lt a b->lt b c->lt a c):∀ {l m:List α},l.Pairwise lt->m.Pairwise lt->(∀x,x∈l↔x∈m)->l=m
 | [],[],_,_,_=>rfl
 | [],b :: s,_,_,h=>by have:=(h b).2 (List.mem_cons_self ..);cases this
 |a :: r,[],_,_,h=>by have:=(h a).1 (List.mem_cons_self ..);cases this
 |a :: r,b :: s,f,g,h=>by
  rw[List.pairwise_cons] at f g;have e:a=b:=by
   rcases List.mem_cons.1 ((h a).1 (List.mem_cons_self ..)) with e|e
   ·exact e
   ·rcases List.mem_cons.1 ((h b).2 (List.mem_cons_self ..)) with e'|e'
    ·exact e'.symm
    ·exact absurd (j _ _ _ (f.1 b e') (g.1 a e)) (i a)
  subst e;rw[Gy i j f.2 g.2 λx=>?_];constructor
  ·intro d;rcases List.mem_cons.1 ((h x).1 (List.mem_cons_of_mem _ d)) with e|e
   ·subst e;exact absurd (f.1 x d) (i x)
   ·exact e
  ·intro d;rcases List.mem_cons.1 ((h x).2 (List.mem_cons_of_mem _ d)) with e|e
   ·subst e;exact absurd (g.1 x d) (i x)
   ·exact e
def iS(f:α->Int)(l:List α):Prop:=l.Pairwise λa b=>f a<f b
theorem iS.ext{f:α->Int}{l m:List α}(d:iS f l)(e:iS f m)(h:∀x,x∈l↔x∈m):l=m:=Gy (lt:=λa b=>f a<f b) (λa=>by omega) (λa b c d e=>by omega) d e h
theorem iS.nil{f:α->Int} : iS f []:=List.Pairwise.nil
theorem iS.sub{f:α->Int}{l m:List α}(h:iS f l)(a:m.Sublist l):iS f m:=List.Pairwise.sublist a h
theorem iS.map{f:β->Int}{g:α->β}{l:List α}(h:iS (λa=>f (g a)) l):iS f (l.map g):=List.pairwise_map.2 h
theorem iS.DC{f:β->Int}{g:α->β}{l:List α}(h:iS f (l.map g)):iS (λa=>f (g a)) l:=by unfold iS at *;exact (List.pairwise_map (f:=g) (R:=λa b=>f a<f b)).1 h
theorem iS.inj{f:α->Int}{l:List α}(h:iS f l){a b:α}(d:a∈l)(g:b∈l)(e:f a=f b):a=b:=by
 induction l with
 |nil=>cases d
 |cons c r i =>
  unfold iS at h;rw[List.pairwise_cons] at h;rcases List.mem_cons.1 d with h1|h1<;>rcases List.mem_cons.1 g with h2|h2
  ·rw[h1,h2]
  ·have:=h.1 b h2;rw[h1] at e;omega
  ·have:=h.1 a h1;rw[h2] at e;omega
  ·exact i h.2 h1 h2
theorem iS.Ag{f:α->Int}{l:List α}(h:iS f l){i j:Nat}(a:i<j)(b:j<l.length):f (l[i]'(by omega))<f l[j]:=List.pairwise_iff_getElem.1 h i j (by omega) b a
theorem iS.tS{f:α->Int}{l:List α}(h:iS f l){i j:Nat}(a:i<l.length)(b:j<l.length)(e:f l[i]=f l[j]):i=j:=by
 rcases Nat.lt_trichotomy i j with h1|h1|h1
 ·have:=h.Ag h1 b;omega
 ·exact h1
 ·have:=h.Ag h1 a;omega
theorem iS.aFM{f:α->Int}{l:List α}(h:∀i,(d:i+1<l.length)->f (l[i]'(by omega))<f l[i+1]):iS f l:=by
 refine List.pairwise_iff_getElem.2 λi j d a g=>?_
 obtain⟨k,rfl⟩:∃k,j=i+1+k:=⟨j-(i+1),by omega⟩
 induction k with
 |zero=>exact h i a
 |succ k e=>have b:=e (by omega) (by omega);have c:=h (i+1+k) a;exact Int.lt_trans b c
theorem iS.sort{f:α->Int}{l:List α}(h:(l.map f).Nodup):iS f (l.mergeSort λx y=>decide (f x<=f y)):=by
 have i:=List.mergeSort_perm l (λx y=>decide (f x<=f y));have j:(l.mergeSort λx y=>decide (f x<=f y)).Pairwise λa b=>decide (f a<=f b)=true:=List.pairwise_mergeSort (λa b c k m=>by simp at *;omega) (λa b=>by simp;omega) l
 have e:((l.mergeSort λx y=>decide (f x<=f y)).map f).Nodup:=(i.map f).nodup_iff.2 h;have g:(l.mergeSort λx y=>decide (f x<=f y)).Pairwise λa b=>f a≠f b:=List.pairwise_map.1 e
 refine (List.pairwise_and_iff.2 ⟨j,g⟩).imp λ{a b} d=>?_
 have:=b6 d.1;have:=d.2;omega
theorem iS.app{f:α->Int}{l m:List α}(c:iS f l)(d:iS f m)(h:∀a∈l,∀b∈m,f a<f b):iS f (l++m):=List.pairwise_append.2 ⟨c,d,h⟩
theorem iS.oN{f:α->Int}{l:List α}(h:iS f l):(l.map f).Nodup:=List.pairwise_map.2 (List.Pairwise.imp (λh=>by omega) h)
theorem mY{f:α->Int}{l m:List α}(c:iS f l)(d:iS f m)(h:∀a∈l,∀b∈m,f a≠f b):((l++m).map f).Nodup:=by rw[List.map_append,List.nodup_append];refine⟨c.oN,d.oN,λa e b g=>?_⟩;obtain⟨x,i,rfl⟩:=List.mem_map.1 e;obtain⟨y,j,rfl⟩:=List.mem_map.1 g;exact h x i y j
end
end Go.cv
namespace Go.Proofs.YtnnpmiiegnedeaaGreat
open Go.cv
theorem kz{a b:ah} : dV a b=true↔a=b:=by cases a;cases b;simp[dV]
theorem yf{a b:au} : qK a b=true↔a=b:=by cases a;cases b;simp[qK]
section
variable{α:Type}{f:α->Int}{q:α->α->Bool}
theorem erase_filter(o:∀a b,q a b=true↔a=b){l:List α}(h:iS f l){i:Nat}(p:i<l.length){n:α}(k:l[i]=n):l.take i++l.drop (i+1)=l.filter λm=>!q m n:=by
 rw[<-List.eraseIdx_eq_take_drop_succ];refine iS.ext (h.sub (List.eraseIdx_sublist ..)) (h.sub List.filter_sublist) λx=>?_
 rw[List.mem_eraseIdx_iff_getElem,List.mem_filter];constructor
 ·rintro⟨j,d,c,rfl⟩;refine⟨l8 _,?_⟩;cases g:q l[j] n with
  |false=>rfl
  |true=>have e:=(o _ _).1 g;exact absurd (h.tS d p (by rw[e,k])) c
 ·rintro⟨g,c⟩;obtain⟨j,d,rfl⟩:=List.getElem_of_mem g;refine⟨j,d,λe=>?_,rfl⟩;subst e;rw[(o _ _).2 k] at c;cases c
def kA(q:α->α->Bool)(l r:List α):Bool:=r.all λn=>l.any λm=>q m n
def less(q:α->α->Bool)(l r:List α):List α:=l.filter λm=>!r.any λn=>q m n
def x3 [Inhabited α](f:α->Int)(q:α->α->Bool):List α->List α->Nat->Bool×List α×Nat
 |l,[],v=>(true,l,v)
 |l,n :: r,v=>match l.findIdx? λm=>decide (f m=f n) with
  |none=>(false,l,v)
  |some i=>if q (l.getD i default) n then x3 f q (l.take i++l.drop (i+1)) r (v+1) else (false,l,v)
theorem Gz(d:∀a b,q a b=true↔a=b){l r:List α}{n:α}(j:∀m∈r,f n≠f m):kA q (l.filter λm=>!q m n) r=kA q l r/\less q (l.filter λm=>!q m n) r=less q l (n :: r):=by
 constructor
 ·unfold kA;rw[Bool.eq_iff_iff,List.all_eq_true,List.all_eq_true];refine forall_congr' λx=>forall_congr' λk=>?_
  rw[List.any_eq_true,List.any_eq_true];constructor
  ·rintro⟨m,c,h⟩;exact⟨m,(List.mem_filter.1 c).1,h⟩
  ·rintro⟨m,c,h⟩;refine⟨m,List.mem_filter.2 ⟨c,?_⟩,h⟩;cases i:q m n with
   |false=>rfl
   |true=>have e:=(d _ _).1 h;have g:=(d _ _).1 i;exact absurd (by rw[<-g,e]) (j x k)
 ·unfold less;rw[List.filter_filter];congr 1;funext m;rw[List.any_cons,Bool.not_or,Bool.and_comm]
theorem GA [Inhabited α](c:∀a b,q a b=true↔a=b):∀ (r l:List α) (v:Nat),iS f l->r.Pairwise (λa b=>f a≠f b)->(x3 f q l r v).1=kA q l r/\((x3 f q l r v).1=true->(x3 f q l r v).2.1=less q l r)
 | [],l,v,_,_=>⟨rfl,λ_=>by unfold less x3;exact (List.filter_eq_self.2 (by simp)).symm⟩
 |n :: r,l,v,hl,p=>by
  rw[List.pairwise_cons] at p;rw[x3];cases s:l.findIdx? λm=>decide (f m=f n) with
  |none =>
   have j:kA q l (n :: r)=false:=by unfold kA;rw[List.all_cons,Bool.and_eq_false_iff];left;rw[List.any_eq_false];intro m o h;have:=List.findIdx?_eq_none_iff.1 s m o;rw[(c _ _).1 h] at this;simp at this
   simp only[j];exact⟨trivial,λh=>by cases h⟩
  |some i =>
   obtain⟨g,k,_⟩:=List.findIdx?_eq_some_iff_getElem.1 s;have k:=b6 k;have y:l.getD i default=l[i]:=by simp[g]
   simp only[y];by_cases d:q l[i] n=true
   ·rw[if_pos d,erase_filter c hl g ((c _ _).1 d)];obtain⟨w,x⟩:=Gz c (l:=l) p.1;obtain⟨t,u⟩:=GA c r (l.filter λm=>!q m n) (v+1) (hl.sub List.filter_sublist) p.2;rw[w] at t;rw[x] at u;refine⟨?_,u⟩;rw[t];unfold kA;rw[List.all_cons,show (l.any λm=>q m n)=true from List.any_eq_true.2 ⟨_,l8 g,d⟩,Bool.true_and]
   ·rw[if_neg d];have j:kA q l (n :: r)=false:=by unfold kA;rw[List.all_cons,Bool.and_eq_false_iff];left;rw[List.any_eq_false];intro m o h;have e:=(c _ _).1 h;have:=hl.inj o (l8 g) (by rw[e,k]);rw[this] at h;exact d h
    simp only[j];exact⟨trivial,λh=>by cases h⟩
def xu(q:α->α->Bool)(l:List α)(n:α):List α×Bool:=match l.findIdx? λm=>q m n with
 |none=>(l,false)
 |some i=>(l.take i++l.drop (i+1),true)
def iX(q:α->α->Bool):List α->List α->List α×Bool
 |l,[]=>(l,true)
 |l,n :: r=>if (xu q l n).2=true then iX q (xu q l n).1 r else ((xu q l n).1,false)
theorem GB(c:∀a b,q a b=true↔a=b):∀ (r l:List α),iS f l->r.Pairwise (λa b=>f a≠f b)->(iX q l r).2=kA q l r/\((iX q l r).2=true->(iX q l r).1=less q l r)
 | [],l,_,_=>⟨rfl,λ_=>by unfold less iX;exact (List.filter_eq_self.2 (by simp)).symm⟩
 |n :: r,l,hl,d=>by
  rw[List.pairwise_cons] at d;rw[iX];unfold xu;cases e:l.findIdx? λm=>q m n with
  |none =>
   have t:kA q l (n :: r)=false:=by unfold kA;rw[List.all_cons,Bool.and_eq_false_iff];left;rw[List.any_eq_false];intro m u h;have:=List.findIdx?_eq_none_iff.1 e m u;rw[h] at this;cases this
   simp only[t];exact⟨rfl,λh=>by cases h⟩
  |some i=>obtain⟨g,j,_⟩:=List.findIdx?_eq_some_iff_getElem.1 e;simp only[if_true,erase_filter c hl g ((c _ _).1 j)];obtain⟨p,s⟩:=Gz c (l:=l) d.1;obtain⟨k,o⟩:=GB c r (l.filter λm=>!q m n) (hl.sub List.filter_sublist) d.2;rw[p] at k;rw[s] at o;refine⟨?_,o⟩;rw[k];unfold kA;rw[List.all_cons,show (l.any λm=>q m n)=true from List.any_eq_true.2 ⟨_,l8 g,j⟩,Bool.true_and]
theorem vr{l r:List α}(h:iS f l):iS f (less q l r):=h.sub List.filter_sublist
end
theorem K3:∀ (r l:List ah) (v:Nat),mA l r v=x3 ah.id dV l r v
 | [],l,v=>rfl
 |n :: r,l,v=>by
  rw[mA,x3];cases l.findIdx? λm=>decide (m.id=n.id) with
  |none=>rfl
  |some i=>simp only;rw[K3 r]
theorem K4:∀ (r l:List au) (v:Nat),ot l r v=x3 au.id qK l r v
 | [],l,v=>rfl
 |n :: r,l,v=>by
  rw[ot,x3];cases l.findIdx? λm=>decide (m.id=n.id) with
  |none=>rfl
  |some i=>simp only;rw[K4 r]
def jB(v:aQ)(n:ah):Bool:=decide (n.id=v.id)&&gw n.values v
def mZ(v:aQ)(n:ah):ah:=if jB v n=true then { n with values:=n.values.set v.attr.toNat v.new } else n
theorem pg(v:aQ)(n:ah):(mZ v n).id=n.id:=by unfold mZ;split<;>rfl
theorem GC(v:aQ)(n:ah):(mZ v n).type=n.type:=by unfold mZ;split<;>rfl
theorem Cn(v:aQ)(n:ah):(mZ v n).values.length=n.values.length:=by unfold mZ;split<;>simp
def eW:List ah->List aQ->List ah×Bool
 |l,[]=>(l,true)
 |l,v :: r=>if l.any (jB v)=true then eW (l.map (mZ v)) r else (l.map (mZ v),false)
theorem K5:∀ (r:List aQ) (l:List ah),iS ah.id l->(mB l r).1=(eW l r).2/\((mB l r).1=true->(mB l r).2=(eW l r).1)
 | [],l,_=>⟨rfl,λ_=>rfl⟩
 |v :: r,l,hl=>by
  rw[mB,eW];cases g:l.findIdx? λm=>decide (m.id=v.id) with
  |none =>
   have o:l.any (jB v)=false:=by rw[List.any_eq_false];intro m b h;have:=List.findIdx?_eq_none_iff.1 g m b;unfold jB at h;rw[this] at h;cases h
   simp only[o];exact⟨rfl,λh=>by cases h⟩
  |some i =>
   obtain⟨d,a,_⟩:=List.findIdx?_eq_some_iff_getElem.1 g;have a:=b6 a;have p:l.getD i default=l[i]:=by simp[d]
   simp only[p];have k:∀m∈l,jB v m=true->m=l[i]:=λm b h=>by unfold jB at h;rw[Bool.and_eq_true] at h;exact hl.inj b (l8 d) (by rw[b6 h.1,a])
   by_cases c:gw l[i].values v=true
   ·have n:l.any (jB v)=true:=List.any_eq_true.2 ⟨_,l8 d,by unfold jB;rw[a,c,dr rfl];rfl⟩;rw[if_pos c,if_pos n];have e:l.set i { l[i] with values:=l[i].values.set v.attr.toNat v.new } = l.map (mZ v):=by
     refine List.ext_getElem (by simp) λj s f=>?_
     rw[List.getElem_set,List.getElem_map];split
     ·rename_i e;subst e;unfold mZ;rw[if_pos (by unfold jB;rw[a,c,dr rfl];rfl)]
     ·rename_i q;unfold mZ;rw[if_neg λh=>q ?_];have:=k _ (l8 (by simpa using f)) h;exact (hl.tS (by simpa using f) d (by rw[this])).symm
    rw[e];exact K5 r _ (iS.map (by simpa only[pg] using hl))
   ·rw[if_neg c,if_neg λh=>c ?_]
    ·exact⟨rfl,λh=>by cases h⟩
    ·obtain⟨m,b,h⟩:=List.any_eq_true.1 h;have e:=k m b h;subst e;unfold jB at h;rw[Bool.and_eq_true] at h;exact h.2
theorem yg:∀ (r:List aQ) (l:List ah),iS ah.id l->iS ah.id (eW l r).1
 | [],l,h=>h
 |v :: r,l,h=>by
  have a:iS ah.id (l.map (mZ v)):=iS.map (by simpa only[pg] using h);rw[eW];split
  ·exact yg r _ a
  ·exact a
def x4(l m:List ah):Prop:=l.map (λn=>(n.id,n.type,n.values.length))=m.map (λn=>(n.id,n.type,n.values.length))
theorem qH:∀ (r:List aQ) (l:List ah),x4 (eW l r).1 l
 | [],l=>rfl
 |v :: r,l=>by
  have a:x4 (l.map (mZ v)) l:=by
   unfold x4;rw[List.map_map];refine List.map_congr_left λn _=>?_
   simp only[Function.comp,pg,GC,Cn]
  rw[eW];split
  ·exact (qH r _).trans a
  ·exact a
theorem x4.len{l m:List ah}(h:x4 l m):l.length=m.length:=by simpa using congrArg List.length h
theorem GD{l:List ah}(h:(l.map ah.id).Nodup):iS ah.id (kU l):=iS.sort h
theorem GF{l:List au}(h:(l.map au.id).Nodup):iS au.id (nt l):=iS.sort h
theorem oa{l:List ah}{x:ah} : x∈kU l↔x∈l:=(List.mergeSort_perm l _).mem_iff
theorem uQ{l:List au}{x:au} : x∈nt l↔x∈l:=(List.mergeSort_perm l _).mem_iff
theorem K6{l:List ah} : (kU l).length=l.length:=List.length_mergeSort _
theorem K7{l:List au} : (nt l).length=l.length:=List.length_mergeSort _
theorem GG{l:List ah}{m:List au}{p:aH}(h:gF l m p=false):(∀n∈p.aP,(∀x∈l,x.id≠n.id)/\∀x∈m,x.id≠n.id)/\∀e∈p.aM,(∀x∈l,x.id≠e.id)/\∀x∈m,x.id≠e.id:=by unfold gF kI at h;simp only[Bool.or_eq_false_iff,List.any_eq_false,decide_eq_true_eq] at h;simp only[Bool.not_eq_true,Bool.or_eq_false_iff,List.any_eq_false,decide_eq_true_eq] at h;exact h
theorem K8{α:Type} [Inhabited α]{f:α->Int}{d:List α}(h:(d.map f).Nodup):Bv f d:=λi j a b e=>by
 have g:∀k,(l:k<d.length)->d.getD k default=d[k]:=λk l=>by simp[l]
 rw[g i a,g j b] at e;have c:=List.pairwise_iff_getElem.1 h;rcases Nat.lt_trichotomy i j with h1|h1|h1
 ·exact absurd (by rw[List.getElem_map,List.getElem_map];exact e) (c i j (by simpa using a) (by simpa using b) h1)
 ·exact h1
 ·exact absurd (by rw[List.getElem_map,List.getElem_map];exact e.symm) (c j i (by simpa using b) (by simpa using a) h1)
theorem bl{n:Nat}(h:n<=4000000000000000000):n<=fuel:=by unfold fuel;omega
theorem qv{l:List Int}(hl:l.length<=1000000)(x:Int):iW l x=some (mN (λy=>decide (y=x)) l):=by unfold iW;rw[bC (bl (by omega))];refine xq l _ (λi b c=>?_) rfl;rw[b8 b];try simp only[eq_comm (a:=x)]
theorem dm{l:List Int}(hl:l.length<=1000000)(x:Int):bW l x=some (mN (λy=>decide (y=x)) l):=by unfold bW;rw[bC (bl (by omega))];refine xq l _ (λi b c=>?_) rfl;rw[b8 b];try simp only[eq_comm (a:=x)]
theorem zc{l:List Int}(hl:l.length<=1000000)(x:Int):jG l x=some (decide (x∈l)):=by
 unfold jG;rw[aT (qv hl x),ye];congr 1;rw[Bool.eq_iff_iff,List.any_eq_true,decide_eq_true_iff];constructor
 ·rintro⟨y,a,e⟩;rw[<-b6 e];exact a
 ·intro h;exact⟨x,h,dr rfl⟩
theorem yh{l:List Int}{p:Int->Option Bool}(q:Int->Bool)(hl:l.length<=1000000)(b:∀x∈l,p x=some (q x)):jr l p=some (mN q l):=by unfold jr;rw[bC (bl (by omega))];refine xq l q (λi a c=>?_) rfl;rw[b8 a,aT (b _ (l8 a))]
theorem vQ{l:List Int}{p:Int->Option Bool}(q:Int->Bool)(hl:l.length<=1000000)(a:∀x∈l,p x=some (q x)):iB l p=some (l.any q):=by unfold iB;rw[aT (yh q hl a),ye]
theorem tT{l:List ah}{p:ah->Option Bool}(q:ah->Bool)(hl:l.length<=1000000)(b:∀x∈l,p x=some (q x)):gn l p=some (mN q l):=by unfold gn;rw[bC (bl (by omega))];refine xq l q (λi a c=>?_) rfl;rw[b8 a,aT (b _ (l8 a))]
theorem mo{l:List ah}{p:ah->Option Bool}(q:ah->Bool)(hl:l.length<=1000000)(a:∀x∈l,p x=some (q x)):dU l p=some (l.any q):=by unfold dU;rw[aT (tT q hl a),ye]
theorem tU{l:List au}{p:au->Option Bool}(q:au->Bool)(hl:l.length<=1000000)(b:∀x∈l,p x=some (q x)):gr l p=some (mN q l):=by unfold gr;rw[bC (bl (by omega))];refine xq l q (λi a c=>?_) rfl;rw[b8 a,aT (b _ (l8 a))]
theorem rW{l:List au}{p:au->Option Bool}(q:au->Bool)(hl:l.length<=1000000)(a:∀x∈l,p x=some (q x)):fm l p=some (l.any q):=by unfold fm;rw[aT (tU q hl a),ye]
def jM(l:List Int)(next:Int)(j:Nat):Int:=if l.getD j 0<0\/next<=l.getD j 0 then 6 else if 0<j/\l.getD j 0<=l.getD (j-1) 0 then 12 else 0
def tV(l:List Int)(next:Int):Int:=Cm (jM l next) (List.range l.length)
theorem tE{l:List Int}(hl:l.length<=1000000)(next:Int):jc l next=some (tV l next):=by
 unfold jc;rw[bC (bl (by omega))];rw[vq (λj=>decide (jM l next j=0)) (λj=>some (jM l next j)) ?_]
 ·exact K2 rfl
 ·intro j f i;have a:l.getD j 0=l[j]:=by simp[f]
  rw[b8 f,bh,bh,bh];by_cases b:l[j]<0
  ·rw[if_pos b];have:jM l next j=6:=by unfold jM;rw[if_pos (by rw[a];exact .inl b)]
   rw[this];rfl
  rw[if_neg b];by_cases c:next<=l[j]
  ·rw[if_pos c];have:jM l next j=6:=by unfold jM;rw[if_pos (by rw[a];exact .inr c)]
   rw[this];rfl
  rw[if_neg c];by_cases h:0<j
  ·have e:l.getD (j-1) 0=l[j-1]'(by omega):=by simp[show j-1<l.length by omega]
   rw[if_pos (by omega),dy (by omega),gO (by omega) (by omega)];rw[bh];have g:l[(((j:Nat):Int)-1).toNat]'(by omega)=l[j-1]'(by omega):=by congr 1;omega
   rw[g];by_cases d:l[j]<=l[j-1]'(by omega)
   ·rw[if_pos d];have:jM l next j=12:=by unfold jM;rw[if_neg (by rw[a];omega),if_pos (by rw[a,e];exact⟨h,d⟩)]
    rw[this];rfl
   ·rw[if_neg d];have:jM l next j=0:=by unfold jM;rw[if_neg (by rw[a];omega),if_neg (by rw[a,e];omega)]
    rw[this];rfl
  ·rw[if_neg (by omega)];have:jM l next j=0:=by unfold jM;rw[if_neg (by rw[a];omega),if_neg (by omega)]
   rw[this];rfl
theorem sk{l:List Int}(hl:l.length<=1000000)(next:Int):iM l next=some (tV l next):=by
 unfold iM;rw[bC (bl (by omega))];rw[vq (λj=>decide (jM l next j=0)) (λj=>some (jM l next j)) ?_]
 ·exact K2 rfl
 ·intro j f i;have a:l.getD j 0=l[j]:=by simp[f]
  rw[b8 f,bh,bh,bh];by_cases b:l[j]<0
  ·rw[if_pos b];have:jM l next j=6:=by unfold jM;rw[if_pos (by rw[a];exact .inl b)]
   rw[this];rfl
  rw[if_neg b];by_cases c:next<=l[j]
  ·rw[if_pos c];have:jM l next j=6:=by unfold jM;rw[if_pos (by rw[a];exact .inr c)]
   rw[this];rfl
  rw[if_neg c];by_cases h:0<j
  ·have e:l.getD (j-1) 0=l[j-1]'(by omega):=by simp[show j-1<l.length by omega]
   rw[if_pos (by omega),dy (by omega),gO (by omega) (by omega)];rw[bh];have g:l[(((j:Nat):Int)-1).toNat]'(by omega)=l[j-1]'(by omega):=by congr 1;omega
   rw[g];by_cases d:l[j]<=l[j-1]'(by omega)
   ·rw[if_pos d];have:jM l next j=12:=by unfold jM;rw[if_neg (by rw[a];omega),if_pos (by rw[a,e];exact⟨h,d⟩)]
    rw[this];rfl
   ·rw[if_neg d];have:jM l next j=0:=by unfold jM;rw[if_neg (by rw[a];omega),if_neg (by rw[a,e];omega)]
    rw[this];rfl
  ·rw[if_neg (by omega)];have:jM l next j=0:=by unfold jM;rw[if_neg (by rw[a];omega),if_neg (by omega)]
   rw[this];rfl
theorem wg{l:List Int}{next:Int} : tV l next=0↔(∀x∈l,0<=x/\x<next)/\iS id l:=by
 unfold tV;rw[avc];have b:∀j,(a:j<l.length)->l.getD j 0=l[j]:=λj a=>by simp[a]
 constructor
 ·intro h;have d:∀j,(a:j<l.length)->(0<=l[j]/\l[j]<next)/\∀ (_:0<j),l[j-1]'(by omega)<l[j]:=λj a=>by
   have:=h j (List.mem_range.2 a);unfold jM at this;rw[b j a] at this;split at this
   ·cases this
   ·split at this
    ·cases this
    ·rename_i e c;refine⟨by omega,λg=>?_⟩;rw[b (j-1) (by omega)] at c;omega
  refine⟨λx f=>?_,iS.aFM λi k=>?_⟩
  ·obtain⟨j,a,rfl⟩:=List.getElem_of_mem f;exact (d j a).1
  ·exact (d (i+1) k).2 (by omega)
 ·rintro⟨e,c⟩ j a;have a:=List.mem_range.1 a;have f:=e _ (l8 a);unfold jM;rw[b j a,if_neg (by omega)];by_cases g:0<j
  ·rw[b (j-1) (by omega)];have:=c.Ag (i:=j-1) (j:=j) (by omega) a;simp only[id] at this;rw[if_neg (by omega)]
  ·rw[if_neg (by omega)]
def nO(t:Types)(x:ay):Int :=
 if (kC t x.host).2≠0 then (kC t x.host).2
 else if x.nodes.length≠x.host.graph.nodes.length\/x.ak.length≠x.host.graph.ak.length then 20
 else if x.next<0\/1000000<x.next then 6
 else if tV x.nodes x.next≠0 then tV x.nodes x.next
 else if tV x.ak x.next≠0 then tV x.ak x.next
 else if x.ak.any (λe=>decide (e∈x.nodes))=true then 5 else 0
structure lX(x:ay):Prop where
 host:qW x.host
 nodes:x.nodes.length<=1000000
 ak:x.ak.length<=1000000
theorem K9{t:Types}{h:Host}(b:fK t)(a:qW h):uA t h=some (kC t h):=uc ⟨b,a⟩
theorem qc{t:Types}{h:Host}(b:fK t)(a:qW h):fB t h=some (kC t h):=uc ⟨b,a⟩
theorem yU{t:Types}(h:fK t):kj t=some (gR t):=uc h
theorem La{t:Types}{h:Host}(a:(gR t).2≠0):kC t h=(-1,(gR t).2):=by unfold kC;rw[if_pos a]
theorem tW{t:Types}(m:fK t){x:ay}(g:lX x):kD t x=some (nO t x):=by
 have i:=g.nodes;have j:=g.ak;unfold kD nO;rw[aT (K9 m g.host),bh];by_cases a:(kC t x.host).2=0
 ·rw[if_pos a,if_neg (λh=>h a),bh,bh];by_cases k:x.nodes.length=x.host.graph.nodes.length
  ·rw[if_pos (by omega)];by_cases l:x.ak.length=x.host.graph.ak.length
   ·rw[if_pos (by omega),if_neg (show ¬ (_\/_) by omega),bh,bh];by_cases d:x.next<0
    ·rw[if_pos d,if_pos (.inl d)]
    rw[if_neg d];by_cases f:1000000<x.next
    ·rw[if_pos f,if_pos (.inr f)]
    rw[if_neg f,if_neg (show ¬ (_\/_) by omega),aT (tE i _),bh];by_cases b:tV x.nodes x.next=0
    ·rw[if_pos b,if_neg (λh=>h b),aT (tE j _),bh];by_cases c:tV x.ak x.next=0
     ·rw[if_pos c,if_neg (λh=>h c),aT (vQ (λe=>decide (e∈x.nodes)) j (λe _=>by unfold lQ;rw[aT (zc i e)]))];cases x.ak.any λe=>decide (e∈x.nodes)<;>rfl
     ·rw[if_neg c,if_pos c]
    ·rw[if_neg b,if_pos b]
   ·rw[if_neg (by omega),if_pos (.inr l)]
  ·rw[if_neg (by omega),if_pos (.inl k)]
 ·rw[if_neg a,if_pos a]
theorem nc{t:Types}(l:fK t){x:ay}(j:lX x):ck t x=some (nO t x):=by
 have k:=j.nodes;have m:=j.ak;unfold ck nO;rw[aT (yU l),bh];by_cases d:(gR t).2=0;rotate_left
 ·rw[if_neg d,La d,if_pos d]
 rw[if_pos d,aT (qc l j.host),bh];by_cases a:(kC t x.host).2=0
 ·rw[if_pos a,if_neg (λh=>h a),bh,bh];by_cases n:x.nodes.length=x.host.graph.nodes.length
  ·rw[if_pos (by omega)];by_cases o:x.ak.length=x.host.graph.ak.length
   ·rw[if_pos (by omega),if_neg (show ¬ (_\/_) by omega),bh,bh];by_cases f:x.next<0
    ·rw[if_pos f,if_pos (.inl f)]
    rw[if_neg f];by_cases g:1000000<x.next
    ·rw[if_pos g,if_pos (.inr g)]
    rw[if_neg g,if_neg (show ¬ (_\/_) by omega),aT (sk k _),bh];by_cases b:tV x.nodes x.next=0
    ·rw[if_pos b,if_neg (λh=>h b),aT (sk m _),bh];by_cases c:tV x.ak x.next=0
     ·rw[if_pos c,if_neg (λh=>h c),bC (bl (by omega))];rw[pe x.ak (λe=>!decide (e∈x.nodes)) (λ_=>some 5) ?_]
      ·rw[qb];have e:(x.ak.all λe=>!decide (e∈x.nodes)) = !x.ak.any λe=>decide (e∈x.nodes):=by rw[List.not_any_eq_all_not]
       rw[e];cases x.ak.any λe=>decide (e∈x.nodes)<;>rfl
      ·intro i p r;rw[b8 p,aT (dm k _),ye];have e:(x.nodes.any λy=>decide (y=x.ak[i]))=decide (x.ak[i]∈x.nodes):=by
        rw[Bool.eq_iff_iff,List.any_eq_true,decide_eq_true_iff];constructor
        ·rintro⟨y,q,e⟩;rw[<-b6 e];exact q
        ·intro h;exact⟨_,h,dr rfl⟩
       rw[e];cases decide (x.ak[i]∈x.nodes)<;>rfl
     ·rw[if_neg c,if_pos c]
    ·rw[if_neg b,if_pos b]
   ·rw[if_neg (by omega),if_pos (.inr o)]
  ·rw[if_neg (by omega),if_pos (.inl n)]
 ·rw[if_neg a,if_pos a]
end Go.Proofs.YtnnpmiiegnedeaaGreat
namespace Go.cv
section
variable{α X Y O:Type}
def oO(step:X->Y->α->(X×Y)×Bool):X->Y->List α->(X×Y)×Bool
 |x,y,[]=>((x,y),true)
 |x,y,e :: r=>if (step x y e).2=true then oO step (step x y e).1.1 (step x y e).1.2 r else step x y e
theorem Lb{F:Bool×Int×X×Y->(Bool×Int×X×Y->Option O)->(Bool×Int×X×Y->Option O)->Option O}{K:Bool×Int×X×Y->Option O}(l:List α)(step:X->Y->α->(X×Y)×Bool)(b:X->Y->Prop)
  (g:∀i x y a,F (false,i,x,y) a K=K (false,i,x,y)) (h:∀x y a,F (true,((l.length:Nat):Int),x,y) a K=K (true,((l.length:Nat):Int),x,y))
  (o:∀ (i:Nat) (c:i<l.length) x y a,b x y->F (true,(i:Int),x,y) a K=a ((step x y l[i]).2,((i+1:Nat):Int),(step x y l[i]).1.1,(step x y l[i]).1.2)/\b (step x y l[i]).1.1 (step x y l[i]).1.2) :
  ∀ (k i n:Nat) (x:X) (y:Y),i+k=l.length->k+2<=n->b x y->(∃j,iter F n (true,(i:Int),x,y) K=K ((oO step x y (l.drop i)).2,j,(oO step x y (l.drop i)).1.1,(oO step x y (l.drop i)).1.2))/\b (oO step x y (l.drop i)).1.1 (oO step x y (l.drop i)).1.2
 |0,i,n+1,x,y,q,r,d=>by
  have:i=l.length:=by omega
  subst this;rw[List.drop_length];exact⟨⟨_,by rw[iter,h];rfl⟩,d⟩
 |k+1,i,n+1,x,y,q,r,d=>by
  have c:i<l.length:=by omega
  obtain⟨e,f⟩:=o i c x y (λs=>iter F n s K) d;rw[List.drop_eq_getElem_cons c,oO];cases p:(step x y l[i]).2 with
  |true=>simp only[if_true];obtain⟨⟨j,t⟩,u⟩:=Lb l step b g h o k (i+1) n _ _ (by omega) (by omega) f;exact⟨⟨j,by rw[iter,e,p];exact t⟩,u⟩
  |false=>simp only[Bool.false_eq_true,if_false];obtain⟨n,rfl⟩:∃m,n=m+1:=⟨n-1,by omega⟩;exact⟨⟨_,by rw[iter,e,p,iter,g]⟩,f⟩
theorem azB{F:Bool×Int×X×Y->(Bool×Int×X×Y->Option O)->(Bool×Int×X×Y->Option O)->Option O}{K:Bool×Int×X×Y->Option O}(l:List α)(step:X->Y->α->(X×Y)×Bool)(c:X->Y->Prop)(hl:l.length<=1000000)
  (d:∀i x y a,F (false,i,x,y) a K=K (false,i,x,y)) (g:∀x y a,F (true,((l.length:Nat):Int),x,y) a K=K (true,((l.length:Nat):Int),x,y))
  (k:∀ (i:Nat) (n:i<l.length) x y a,c x y->F (true,(i:Int),x,y) a K=a ((step x y l[i]).2,((i+1:Nat):Int),(step x y l[i]).1.1,(step x y l[i]).1.2)/\c (step x y l[i]).1.1 (step x y l[i]).1.2)
  (b:Bool) (x:X) (y:Y) (m:c x y):∃j,iter F fuel (b,0,x,y) K=K (if b=true then (oO step x y l).2 else false,j,if b=true then (oO step x y l).1.1 else x,if b=true then (oO step x y l).1.2 else y)/\(b=true->c (oO step x y l).1.1 (oO step x y l).1.2):=by
 cases b with
 |true=>obtain⟨⟨j,e⟩,f⟩:=Lb l step c d g k l.length 0 fuel x y (by omega) (by unfold fuel;omega) m;rw[List.drop_zero] at e f;simp only[if_true];exact⟨j,e,λ_=>f⟩
 |false=>simp only[Bool.false_eq_true,if_false];refine⟨0,?_,λh=>by cases h⟩;rw[show fuel=4611686018427387903+1 from rfl,iter,d]
end
section
variable{α O:Type}{Q:O->Prop}
theorem Lc(f:α->Int)(A B:List α)(L:iS f A)(M:iS f B)(Z:∀a∈A,∀b∈B,f a≠f b)(al:A.length<=1000000)(am:B.length<=1000000){K:Int×Int×List α->Option O}
    (X:∀n,iS f n->(∀x,x∈n↔x∈A\/x∈B)->∀k i,Ok (K (k,i,n)) Q) :
    Ok (iter (λ(s:Int×Int×List α) F U =>
      cond (decide (s.2.1<=((A.length:Nat):Int))) (
       iter (λ(d:Int×List α) S T =>
        cond (decide (d.1<((B.length:Nat):Int))) (
         cond (decide (s.2.1=((A.length:Nat):Int))) (
          thn (nr B d.1) λe =>
          cL (d.2.length+1<=68719476736) <|
          S ((i64.wrap (d.1+1)),(d.2++[e]))) <|
         thn (nr B d.1) λe =>
         thn (nr A s.2.1) λW =>
         cond (decide (f e<f W)) (
          cL (d.2.length+1<=68719476736) <|
          S ((i64.wrap (d.1+1)),(d.2++[e]))) <|
         T (d.1,d.2)) <|
        T (d.1,d.2))
       fuel (s.1,s.2.2) λd =>
       cond (decide (s.2.1<((A.length:Nat):Int))) (
        thn (nr A s.2.1) λe =>
        cL (d.2.length+1<=68719476736) <|
        F (d.1,(i64.wrap (s.2.1+1)),(d.2++[e]))) <|
       F (d.1,(i64.wrap (s.2.1+1)),d.2)) <|
      U (s.1,s.2.1,s.2.2))
     fuel (0,0,([]:List α)) K) Q:=by
  refine Ds (λ(s:Int×Int×List α)=>∃k i:Nat,s.1=(k:Int)/\s.2.1=(i:Int)/\k<=B.length/\i<=A.length+1/\s.2.2.length<=i+k/\iS f s.2.2/\(∀x,x∈s.2.2↔x∈A.take i\/x∈B.take k)/\(∀x∈s.2.2,∀j,(m:j<A.length)->i<=j->f x<f A[j])/\(∀x∈s.2.2,∀j,(m:j<B.length)->k<=j->f x<f B[j])/\(i<=A.length\/k=B.length)) (λs=>A.length+1-s.2.1.toNat)
    ⟨0,0,rfl,rfl,Nat.zero_le _,Nat.zero_le _,Nat.le_refl _,iS.nil,by simp,λx hx=>(by cases hx),λx hx=>(by cases hx),.inl (Nat.zero_le _)⟩ (by unfold fuel;simp;omega) ?_
  rintro⟨d,s2,n⟩ H ⟨k,i,rfl,rfl,hk,hi,P,y,D,I,J,h3⟩ E;simp only at P y D I J E ⊢;by_cases hc:i<=A.length;rotate_left
  · refine AY (gA (by omega)) (X n y (λx=>?_) _ _);have ai:k=B.length:=by omega
    rw[D,List.take_of_length_le (by omega),List.take_of_length_le (by omega)]
  refine r6 (dr (by omega)) ?_;refine Ds (λ(s:Int×List α)=>∃c:Nat,s.1=(c:Int)/\k<=c/\c<=B.length/\s.2.length<=i+c/\iS f s.2/\(∀x,x∈s.2↔x∈A.take i\/x∈B.take c)/\(∀x∈s.2,∀j,(m:j<A.length)->i<=j->f x<f A[j])/\(∀x∈s.2,∀j,(m:j<B.length)->c<=j->f x<f B[j])) (λs=>B.length-s.1.toNat)
    ⟨k,rfl,Nat.le_refl _,hk,P,y,D,I,J⟩ (by unfold fuel;simp;omega) ?_
  rintro⟨t,n⟩ V ⟨c,rfl,ak,N,ab,u,v,w,r⟩ R;simp only at ab u v w r R ⊢
  have G : (c = B.length ∨ (i < A.length ∧ ∃ g : c < B.length, ∀ o : i < A.length, f A[i] < f B[c])) → Ok (cond (decide (((i : Nat) : Int) < ((A.length : Nat) : Int))) (
        thn (nr A ((i:Nat):Int)) λe =>
        cL (n.length+1<=68719476736) <|
        H (((c:Nat):Int),(i64.wrap (((i:Nat):Int)+1)),(n++[e]))) <|
       H (((c:Nat):Int),(i64.wrap (((i:Nat):Int)+1)),n)) Q:=by
    intro g;rw[dy (by omega)];by_cases o:i<A.length
    · refine r6 (dr (by omega)) (kS (by omega) (by omega) (bU (by omega) (E _ ⟨c,i+1,rfl,by simp only;omega,N,by omega,by simp;omega,?_,?_,?_,?_,.inl (by omega)⟩ (by simp only;omega))))
      · refine u.app (List.pairwise_singleton _ _) λa hx b g=>?_
        rw[List.mem_singleton.1 g];exact w a hx i o (Nat.le_refl _)
      · intro x;rw[List.mem_append,v,List.mem_singleton,List.take_add_one,List.getElem?_eq_getElem o,Option.toList_some,List.mem_append,List.mem_singleton];simp only[Int.toNat_natCast];constructor
        · rintro ((h|h)|h)
          · exact .inl (.inl h)
          · exact .inr h
          · exact .inl (.inr h)
        · rintro ((h|h)|h)
          · exact .inl (.inl h)
          · exact .inr h
          · exact .inl (.inr h)
      · intro x hx j m p;rcases List.mem_append.1 hx with hx|hx
        · exact w x hx j m (by omega)
        · rw[List.mem_singleton.1 hx];exact L.Ag (by simp only[Int.toNat_natCast];omega) m
      · intro x hx j m p;rcases List.mem_append.1 hx with hx|hx
        · exact r x hx j m p
        · rw[List.mem_singleton.1 hx];rcases g with g|⟨_,g,z⟩
          · omega
          · have q:=z o;rcases Nat.lt_or_eq_of_le p with h|h
            · exact Int.lt_trans q (M.Ag h m)
            · subst h;exact q
    · refine AY (gA (by omega)) (E _ ⟨c,i+1,rfl,by simp only;omega,N,by omega,by simp only;omega,u,?_,?_,r,?_⟩ (by simp only;omega))
      · intro x;simp only;rw[v,List.take_of_length_le (show A.length<=i by omega),List.take_of_length_le (show A.length<=i+1 by omega)]
      · intro x hx j m p;omega
      · rcases g with g|⟨g,_⟩
        · exact .inr g
        · omega
  have step:(g:c<B.length)->(∀o:i<A.length,f B[c]<f A[i])->Ok (V (i64.wrap (((c:Nat):Int)+1),n++[B[c]])) Q:=by
    intro g z;rw[dy (by omega)];refine R _ ⟨c+1,by simp only;omega,by omega,by omega,by simp;omega,?_,?_,?_,?_⟩ (by simp only;omega)
    · refine u.app (List.pairwise_singleton _ _) λa hx b Y=>?_
      rw[List.mem_singleton.1 Y];exact r a hx c g (Nat.le_refl _)
    · intro x;rw[List.mem_append,v,List.mem_singleton,List.take_add_one (l:=B),List.getElem?_eq_getElem g,Option.toList_some,List.mem_append,List.mem_singleton,or_assoc]
    · intro x hx j m p;rcases List.mem_append.1 hx with hx|hx
      · exact w x hx j m p
      · rw[List.mem_singleton.1 hx];have q:=z (by omega);rcases Nat.lt_or_eq_of_le p with h|h
        · exact Int.lt_trans q (L.Ag h m)
        · subst h;exact q
    · intro x hx j m p;rcases List.mem_append.1 hx with hx|hx
      · exact r x hx j m (by omega)
      · rw[List.mem_singleton.1 hx];exact M.Ag (by omega) m
  by_cases g:c<B.length;rotate_left
  · exact AY (gA (by omega)) (G (.inl (by omega)))
  refine r6 (dr (by omega)) ?_;by_cases o:i<A.length
  · refine AY (gA (by omega)) (kS (by omega) (by omega) (kS (by omega) (by omega) ?_));simp only[Int.toNat_natCast];by_cases C:f B[c]<f A[i]
    · exact r6 (dr C) (bU (by omega) (step g λ_=>C))
    · refine AY (gA C) (G (.inr ⟨o,g,λ_=>?_⟩));have:=Z A[i] (l8 o) B[c] (l8 g);omega
  · refine r6 (dr (by omega)) (kS (by omega) (by omega) (bU (by omega) ?_));simp only[Int.toNat_natCast];exact step g λh=>absurd h o
end
end Go.cv
namespace Go.Proofs.YtnnpmiiegnedeaaGreat
open Go.cv
structure lY(t:Types)(h:Host):Prop where
 types:(gR t).2=0
 valid:pP h.graph=0
 sn:h.values.length=h.graph.nodes.length
 node:∀i,i<h.graph.nodes.length->lJ t (h.graph.nodes.getD i default) (h.values.getD i default)=0
 fq:∀i,i<h.graph.ak.length->rZ t h i=0
theorem lY.graph{t:Types}{h:Host}(a:lY t h):B8 h.graph:=FO a.valid
theorem nA{t:Types}{h:Host} : (kC t h).2=0↔lY t h:=by
 unfold kC;constructor
 ·intro a;split at a
  ·rename_i b;exact absurd a b
  ·rename_i b;split at a
   ·rename_i c;exact absurd a c
   ·rename_i c;split at a
    ·cases a
    ·rename_i d;split at a
     ·rename_i k i;exact absurd a (tv i)
     ·rename_i e;split at a
      ·rename_i k i;exact absurd a (tv i)
      ·rename_i f;exact⟨Decidable.of_not_not b,Decidable.of_not_not c,Decidable.of_not_not d,vb e,vb f⟩
 ·rintro⟨b,c,d,e,f⟩;rw[if_neg (λh=>h b),if_neg (λh=>h c),if_neg (λh=>h d),gQ (λj _ g=>e j g),gQ (λj _ g=>f j g)]
structure eX(t:Types)(x:ay):Prop where
 host:lY t x.host
 qJ:x.nodes.length=x.host.graph.nodes.length
 ru:x.ak.length=x.host.graph.ak.length
 next:0<=x.next/\x.next<=1000000
 ze:(∀n∈x.nodes,0<=n/\n<x.next)/\iS id x.nodes
 r9:(∀n∈x.ak,0<=n/\n<x.next)/\iS id x.ak
 apart:∀e∈x.ak,e ∉ x.nodes
theorem eC{t:Types}{x:ay} : nO t x=0↔eX t x:=by
 unfold nO;constructor
 ·intro h;split at h
  ·rename_i a;exact absurd h a
  ·rename_i a;split at h
   ·cases h
   ·rename_i i;split at h
    ·cases h
    ·rename_i j;split at h
     ·rename_i c;exact absurd h c
     ·rename_i c;split at h
      ·rename_i b;exact absurd h b
      ·rename_i b;split at h
       ·cases h
       ·rename_i d;refine⟨nA.1 (Decidable.of_not_not a),by omega,by omega,by omega,wg.1 (Decidable.of_not_not c),wg.1 (Decidable.of_not_not b),λe f g=>d ?_⟩;exact List.any_eq_true.2 ⟨e,f,dr g⟩
 ·rintro⟨a,i,j,c,b,d,k⟩;rw[if_neg (λh=>h (nA.2 a)),if_neg (by omega),if_neg (by omega),if_neg (λh=>h (wg.2 b)),if_neg (λh=>h (wg.2 d)),if_neg];intro h;obtain⟨e,f,g⟩:=List.any_eq_true.1 h;exact k e f (b6 g)
def fJ(a:ay)(i:Nat):au:=⟨a.ak.getD i default,(a.host.graph.ak.getD i default).type,a.nodes.getD (a.host.graph.ak.getD i default).src.toNat default,a.nodes.getD (a.host.graph.ak.getD i default).dst.toNat default⟩
def cC(a:ay):List au:=(List.range a.ak.length).map (fJ a)
theorem yj{α:Type} [Inhabited α](l:List α):(List.range l.length).map (λi=>l.getD i default)=l:=by
 refine List.ext_getElem (by simp) λi b a=>?_
 simp[show i<l.length from a]
theorem Ld(a:ay):(bA a).map ah.id=a.nodes:=by unfold bA;rw[List.map_map];exact yj a.nodes
theorem Le(a:ay):(cC a).map au.id=a.ak:=by unfold cC;rw[List.map_map];exact yj a.ak
theorem lZ(a:ay):(bA a).length=a.nodes.length:=by simp[bA]
theorem kW(a:ay):(cC a).length=a.ak.length:=by simp[cC]
section
variable{t:Types}{a:ay}
theorem eX.wL(h:eX t a):iS ah.id (bA a):=iS.DC (f:=id) (by rw[Ld];exact h.ze.2)
theorem eX.rq(h:eX t a):iS au.id (cC a):=iS.DC (f:=id) (by rw[Le];exact h.r9.2)
theorem eX.n40(h:eX t a):a.nodes.length<=40:=by rw[h.qJ];exact h.host.graph.nodes
theorem eX.hG(h:eX t a):a.ak.length<=80:=by rw[h.ru];exact h.host.graph.ak
theorem vt{α:Type}(g:Nat->α){i n:Nat}(a:i<n):((List.range n).map g).take (i+1)=((List.range n).map g).take i++[g i]:=by rw[List.take_add_one,List.getElem?_eq_getElem (by simpa using a),Option.toList_some,List.getElem_map,List.getElem_range]
theorem afa(h:eX t a):nT a=some (cC a):=by
 have k:=h.n40;have j:=h.hG;refine Ok.eq ?_;unfold nT;refine bU (bl (by omega)) ?_;refine mz (λi s=>i<=a.ak.length/\s=(cC a).take i) (Nat.zero_le _) ⟨Nat.zero_le _,rfl⟩ ?_ ?_
 ·rintro i s g _ b ⟨_,rfl⟩ f;have d:i<a.host.graph.ak.length:=by rw[<-h.ru];exact b
  have e:a.host.graph.ak.getD i default=a.host.graph.ak[i]:=by simp[d]
  have c:=h.host.graph.fq i d;rw[e] at c;rw[<-h.qJ] at c;refine oK b (oK d (kS c.2.1.1 (by omega) (kS c.2.2.1 (by omega) (bU (by rw[List.length_take];omega) (f _ ⟨b,?_⟩)))));unfold cC;rw[vt _ b];congr 2;unfold fJ;rw[e];simp only[au.mk.injEq];refine⟨by simp[b],trivial,?_,?_⟩
  ·simp[show a.host.graph.ak[i].src.toNat<a.nodes.length by omega]
  ·simp[show a.host.graph.ak[i].dst.toNat<a.nodes.length by omega]
 ·rintro s ⟨_,rfl⟩;refine Ok.mk ?_;rw[List.take_of_length_le (by rw[kW];exact Nat.le_refl _)]
theorem Lf(h:eX t a){i:Nat}(d:i<a.nodes.length)(e:∀l∈a.host.values,l.length<=1000000):ir a (i:Int)=some (cD a i):=by
 have b:i<a.host.graph.nodes.length:=by rw[<-h.qJ];exact d
 have c:i<a.host.values.length:=by rw[h.host.sn];exact b
 unfold ir;rw[gO (by omega) (by simpa using d),gO (by omega) (by simpa using b),gO (by omega) (by simpa using c)];have:=e _ (l8 c);simp only[Int.toNat_natCast];rw[bC (by omega)];unfold cD;simp[d,b,c]
theorem DD(h:eX t a){i:Nat}(c:i<a.ak.length):dG a (i:Int)=some (fJ a i):=by
 have d:i<a.host.graph.ak.length:=by rw[<-h.ru];exact c
 have e:a.host.graph.ak.getD i default=a.host.graph.ak[i]:=by simp[d]
 have b:=h.host.graph.fq i d;rw[e] at b;rw[<-h.qJ] at b;unfold dG;rw[gO (by omega) (by simpa using d),gO (by omega) (by simpa using c)];simp only[Int.toNat_natCast];rw[gO b.2.1.1 (by omega),gO b.2.2.1 (by omega)];unfold fJ;rw[e];simp only[cG,au.mk.injEq];refine⟨by simp[c],trivial,?_,?_⟩
 ·simp[show a.host.graph.ak[i].src.toNat<a.nodes.length by omega]
 ·simp[show a.host.graph.ak[i].dst.toNat<a.nodes.length by omega]
theorem GH(h:eX t a)(e:∀l∈a.host.values,l.length<=1000000):fc a=some ⟨bA a,cC a⟩:=by
 have g:=h.n40;have f:=h.hG;refine Ok.eq ?_;unfold fc;refine bU (bl (by omega)) ?_;refine mz (λi s=>i<=a.nodes.length/\s=(bA a).take i) (Nat.zero_le _) ⟨Nat.zero_le _,rfl⟩ ?_ ?_
 ·rintro i s d _ b ⟨_,rfl⟩ c;refine ok_eq (Lf h b e) (bU (by rw[List.length_take];omega) (c _ ⟨b,?_⟩));unfold bA;rw[vt _ b]
 ·rintro s ⟨_,rfl⟩;refine bU (bl (by omega)) ?_;refine mz (λi s=>i<=a.ak.length/\s=(cC a).take i) (Nat.zero_le _) ⟨Nat.zero_le _,rfl⟩ ?_ ?_
  ·rintro i s d _ b ⟨_,rfl⟩ c;refine ok_eq (DD h b) (bU (by rw[List.length_take];omega) (c _ ⟨b,?_⟩));unfold cC;rw[vt _ b]
  ·rintro s ⟨_,rfl⟩;refine Ok.mk ?_;rw[List.take_of_length_le (by rw[lZ];exact Nat.le_refl _),List.take_of_length_le (by rw[kW];exact Nat.le_refl _)]
end
theorem Lg{α:Type} [Inhabited α](l:List α)(q:α->Bool):(List.range l.length).find? (λj=>q (l.getD j default))=l.findIdx? q:=by
 have b:∀k,(d:k<l.length)->l.getD k default=l[k]:=λk d=>by simp[d]
 cases h:l.findIdx? q with
 |none=>rw[List.find?_eq_none];intro j a;have a:=List.mem_range.1 a;rw[b j a];have:=List.findIdx?_eq_none_iff.1 h _ (l8 a);rw[this];simp
 |some i=>obtain⟨c,e,f⟩:=List.findIdx?_eq_some_iff_getElem.1 h;rw[List.find?_range_eq_some];refine⟨by rw[b i c];exact e,List.mem_range.2 c,λj a=>?_⟩;rw[b j (by omega)];have:=f j a;simpa using this
theorem Lh(s:aO)(e:au)(hl:s.ak.length<=1000000):cI s e=some (⟨s.nodes,(xu qK s.ak e).1⟩,(xu qK s.ak e).2):=by
 unfold cI;rw[bC (bl (by omega))];rw[vq (λj=>!qK (s.ak.getD j default) e) (λj=>some (⟨s.nodes,s.ak.take j++s.ak.drop (j+1)⟩,true)) ?_]
 ·simp only[Bool.not_not];rw[Lg s.ak (λm=>qK m e)];unfold xu;cases s.ak.findIdx? λm=>qK m e<;>rfl
 ·intro j a c;have b:s.ak.getD j default=s.ak[j]:=by simp[a]
  rw[b8 a,b,jg];show cond (qK s.ak[j] e) _ _=_;cases qK s.ak[j] e with
  |false=>rfl
  |true=>rw[cond_true,cond_true,dy (by omega),bC (by omega),bC (by rw[List.length_take];omega),bC (by omega),bC (by rw[List.length_take,List.length_drop];omega)];rfl
theorem aqp{a b:List Int}(k:a.length<=1000000):gV a b=some (decide (a=b)):=by
 unfold gV;rw[bh];by_cases hl:a.length=b.length
 ·rw[if_pos (by omega),bC (bl (by omega))];rw[vq (λj=>decide (a.getD j 0=b.getD j 0)) (λ_=>some false) ?_]
  ·rw[qb];by_cases h:a=b
   ·subst h;rw[if_pos (by simp),dr rfl]
   ·rw[if_neg,gA h];intro e;apply h;refine List.ext_getElem hl λi c f=>?_
    have:=List.all_eq_true.1 e i (List.mem_range.2 c);simpa[c,f] using this
  ·intro j d g;rw[b8 d,b8 (show j<b.length by omega)];simp[d,show j<b.length by omega]
 ·rw[if_neg (by omega),gA λh=>hl (by rw[h])]
theorem aqq(a b:ah)(e:a.values.length<=1000000):gW a b=some (dV a b):=by
 unfold gW dV;rw[bh,bh,aT (aqp e)];by_cases c:a.id=b.id
 ·rw[if_pos c,dr c,Bool.true_and];by_cases d:a.type=b.type
  ·rw[if_pos d,dr d,Bool.true_and]
  ·rw[if_neg d,gA d,Bool.false_and]
 ·rw[if_neg c,gA c,Bool.false_and]
theorem Li(s:aO)(e:ah)(hl:s.nodes.length<=1000000)(c:∀n∈s.nodes,n.values.length<=1000000):cr s e=some (⟨(xu dV s.nodes e).1,s.ak⟩,(xu dV s.nodes e).2):=by
 unfold cr;rw[bC (bl (by omega))];rw[vq (λj=>!dV (s.nodes.getD j default) e) (λj=>some (⟨s.nodes.take j++s.nodes.drop (j+1),s.ak⟩,true)) ?_]
 ·simp only[Bool.not_not];rw[Lg s.nodes (λm=>dV m e)];unfold xu;cases s.nodes.findIdx? λm=>dV m e<;>rfl
 ·intro j a d;have b:s.nodes.getD j default=s.nodes[j]:=by simp[a]
  rw[b8 a,aT (aqq _ e (c _ (l8 a))),b,jg];cases dV s.nodes[j] e with
  |false=>rfl
  |true=>rw[cond_true,cond_true,dy (by omega),bC (by omega),bC (by omega),bC (by rw[List.length_take];omega),bC (by rw[List.length_take,List.length_drop];omega)];rfl
theorem aFO(s:aO)(v:aQ)(hl:s.nodes.length<=1000000)(u:∀n∈s.nodes,n.values.length<=1000000):cV s v=some (⟨s.nodes.map (mZ v),s.ak⟩,s.nodes.any (jB v)):=by
 unfold cV;rw[bC (bl (by omega))];rw[(sN s.nodes (λ(s:List ah×Bool) n=>(s.1++[mZ v n],s.2||jB v n)) (λi s=>s.1.length=i) rfl ?_).1]
 ·have y:∀ (l:List ah) (a:List ah×Bool),l.foldl (λ(s:List ah×Bool) n=>(s.1++[mZ v n],s.2||jB v n)) a=(a.1++l.map (mZ v),a.2||l.any (jB v)):=by
   intro l
   induction l with
   |nil=>intro a;simp
   |cons n l x=>intro a;rw[List.foldl_cons,x];simp[Bool.or_assoc]
  rw[y];rfl
 ·rintro i p ⟨g,b⟩ r;simp only at r;have t:=u _ (l8 p);refine⟨λk=>?_,by simp[r]⟩;rw[b8 p];generalize s.nodes[i]=n at t ⊢;simp only;rw[bC (show g.length+1<=68719476736 by omega)];have c:jB v n=false->k (g++[n],b)=k (g++[mZ v n],b||jB v n):=λh=>by unfold mZ;rw[h];simp
  rw[bh,bh,bh];by_cases d:n.id=v.id;rotate_left
  ·rw[if_neg d,c];unfold jB;rw[gA d];rfl
  rw[if_pos d];by_cases j:0<=v.attr;rotate_left
  ·rw[if_neg j,c];unfold jB gw;rw[dr (show v.attr<0 by omega)];simp
  rw[if_pos j];by_cases m:v.attr<n.values.length;rotate_left
  ·rw[if_neg m,c];unfold jB gw;rw[dr (show (n.values.length:Int)<=v.attr by omega)];simp
  have q:v.attr.toNat<n.values.length:=by omega
  have o:n.values.getD v.attr.toNat default=n.values[v.attr.toNat]:=by simp[q]
  rw[if_pos m,gO j q,bh];by_cases e:n.values[v.attr.toNat]=v.old;rotate_left
  ·rw[if_neg e,c];unfold jB gw;rw[o,gA e];simp
  rw[if_pos e,bh];by_cases f:v.old=v.new
  ·rw[if_pos f,c];unfold jB gw;rw[dr (show v.new=v.old from f.symm)];simp
  rw[if_neg f,bC (by omega),bC (show g.length+1<=68719476736 by omega)];have w:jB v n=true:=by unfold jB gw;rw[o,dr d,gA (show ¬ v.attr<0 by omega),gA (show ¬ (n.values.length:Int)<=v.attr by omega),dr e,gA (show ¬ v.new=v.old from λh=>f h.symm)];rfl
  unfold mZ;rw[w,if_pos rfl,Bool.or_true]
theorem xw{α O:Type}{l:List α}(R:α->α->Prop) [DecidableRel R](t:∀a b c,R a b->R b c->R a c){f:Nat->Unit->(Unit->Option O)->(Unit->Option O)->Option O}{K:Unit->Option O}(y n:Option O)(q:K ()=y)
  (h:∀i (d:i<l.length) (_:1<=i) e,f i () e K=cond (decide (R (l[i-1]'(by omega)) l[i])) (e ()) n):cq f (l.length-1) 1 () K=if l.Pairwise R then y else n:=by
 rw[Gx (λj=>decide (∀h:j<l.length,1<=j->R (l[j-1]'(by omega)) l[j])) (λ_=>n) (l.length-1) 1 λj g p e=>?_]
 ·rw[qb,q];congr 1;rw[eq_iff_iff,List.all_eq_true,List.pairwise_iff_getElem];constructor
  ·intro h;have step:∀k,(m:k+1<l.length)->R (l[k]'(by omega)) l[k+1]:=λk m=>b6 (h (k+1) (List.mem_range'_1.2 ⟨by omega,by omega⟩)) m (by omega)
   have s:∀k i,(m:i+1+k<l.length)->R (l[i]'(by omega)) l[i+1+k]:=λk=>by
    induction k with
    |zero=>exact λi d=>step i d
    |succ k r=>exact λi d=>t _ _ _ (r i (by omega)) (step (i+1+k) d)
   intro i j d o u;obtain⟨k,rfl⟩:∃k,j=i+1+k:=⟨j-(i+1),by omega⟩;exact s k i o
  ·intro h j o;exact dr λg p=>h _ _ _ _ (by omega)
 ·rw[h j (by omega) g e];congr 1;rw[decide_eq_decide];exact⟨λh _ _=>h,λh=>h _ g⟩
instance{α:Type}(f:α->Int)(l:List α):Decidable (iS f l):=inferInstanceAs (Decidable (l.Pairwise λa b=>f a<f b))
def fF(a b:aQ):Prop:=a.id<b.id\/a.id=b.id/\a.attr<b.attr
instance:DecidableRel fF:=λa b=>inferInstanceAs (Decidable (a.id<b.id\/a.id=b.id/\a.attr<b.attr))
theorem Lj(a b c:aQ)(d:fF a b)(e:fF b c):fF a c:=by unfold fF at *;omega
structure Ordered(p:aH):Prop where
 rn:iS ah.id p.ax
 re:iS au.id p.aA
 an:iS ah.id p.aP
 ae:iS au.id p.aM
 va:p.values.Pairwise fF
def sX(p:aH):Int :=
 if 500<p.ax.length\/500<p.aA.length\/500<p.aP.length\/500<p.aM.length\/500<p.values.length then 3
 else if iS ah.id p.ax/\iS au.id p.aA/\iS ah.id p.aP/\iS au.id p.aM/\p.values.Pairwise fF then 0 else 12
structure jJ(p:aH):Prop where
 rn:p.ax.length<=1000000
 re:p.aA.length<=1000000
 an:p.aP.length<=1000000
 ae:p.aM.length<=1000000
 va:p.values.length<=1000000
 rv:∀n∈p.ax,n.values.length<=1000
 av:∀n∈p.aP,n.values.length<=1000
structure Small(p:aH):Prop where
 rn:p.ax.length<=500
 re:p.aA.length<=500
 an:p.aP.length<=500
 ae:p.aM.length<=500
 va:p.values.length<=500
theorem uD{p:aH} : sX p=0↔Small p/\Ordered p:=by
 unfold sX;constructor
 ·intro h;split at h
  ·cases h
  ·split at h
   ·rename_i b a;exact⟨⟨by omega,by omega,by omega,by omega,by omega⟩,⟨a.1,a.2.1,a.2.2.1,a.2.2.2.1,a.2.2.2.2⟩⟩
   ·cases h
 ·rintro⟨b,a⟩;have c:=b.rn;have d:=b.re;have e:=b.an;have f:=b.ae;have g:=b.va;rw[if_neg (by omega),if_pos ⟨a.rn,a.re,a.an,a.ae,a.va⟩]
theorem ng{l:List ah}(hl:l.length<=1000000):dZ l=some (decide (iS ah.id l)):=by
 unfold dZ;rw[bC (bl (by omega))];rw[xw (λa b:ah=>a.id<b.id) (λa b c d j=>by omega) (some true) (some false) rfl λi f d g=>?_]
 ·by_cases h:l.Pairwise λa b:ah=>a.id<b.id
  ·rw[if_pos h,dr (show iS ah.id l from h)]
  ·rw[if_neg h,gA (show ¬ iS ah.id l from h)]
 ·have e:l[(((i:Nat):Int)-1).toNat]'(by omega)=l[i-1]'(by omega):=by congr 1;omega
  rw[b8 f,dy (by omega),gO (by omega) (by omega),e,bh,bh];by_cases h:l[i].id<=(l[i-1]'(by omega)).id
  ·rw[if_pos h,if_neg (by omega)]
  ·rw[if_neg h,if_pos (by omega)]
theorem nh{l:List au}(hl:l.length<=1000000):ee l=some (decide (iS au.id l)):=by
 unfold ee;rw[bC (bl (by omega))];rw[xw (λa b:au=>a.id<b.id) (λa b c d j=>by omega) (some true) (some false) rfl λi f d g=>?_]
 ·by_cases h:l.Pairwise λa b:au=>a.id<b.id
  ·rw[if_pos h,dr (show iS au.id l from h)]
  ·rw[if_neg h,gA (show ¬ iS au.id l from h)]
 ·have e:l[(((i:Nat):Int)-1).toNat]'(by omega)=l[i-1]'(by omega):=by congr 1;omega
  rw[b8 f,dy (by omega),gO (by omega) (by omega),e,bh,bh];by_cases h:l[i].id<=(l[i-1]'(by omega)).id
  ·rw[if_pos h,if_neg (by omega)]
  ·rw[if_neg h,if_pos (by omega)]
theorem afb{l:List aQ}(hl:l.length<=1000000):fk l=some (decide (l.Pairwise fF)):=by
 unfold fk;rw[bC (bl (by omega))];rw[xw fF Lj (some true) (some false) rfl λi f b g=>?_]
 ·by_cases h:l.Pairwise fF
  ·rw[if_pos h,dr h]
  ·rw[if_neg h,gA h]
 ·have e:l[(((i:Nat):Int)-1).toNat]'(by omega)=l[i-1]'(by omega):=by congr 1;omega
  rw[b8 f,dy (by omega),gO (by omega) (by omega),e,bh,bh,bh,bh];generalize l[i]=x;generalize l[i-1]'(by omega)=y;have a:fF y x↔(y.id<x.id\/y.id=x.id/\y.attr<x.attr):=Iff.rfl;by_cases b:x.id<y.id
  ·rw[if_pos b,if_neg λh=>by have:=a.1 h;omega]
  rw[if_neg b];by_cases c:x.id=y.id
  ·rw[if_pos c];by_cases d:x.attr<=y.attr
   ·rw[if_pos d,if_neg λh=>by have:=a.1 h;omega]
   ·rw[if_neg d,if_pos (a.2 (by omega))]
  ·rw[if_neg c,if_pos (a.2 (by omega))]
theorem l_ordered{p:aH}(a:jJ p):iD p=some (sX p):=by
 unfold iD sX;rw[bh,bh,bh,bh,bh];by_cases g:500<p.ax.length
 ·rw[if_pos (by omega),if_pos (.inl g)]
 rw[if_neg (by omega)];by_cases i:500<p.aA.length
 ·rw[if_pos (by omega),if_pos (.inr (.inl i))]
 rw[if_neg (by omega)];by_cases j:500<p.aP.length
 ·rw[if_pos (by omega),if_pos (.inr (.inr (.inl j)))]
 rw[if_neg (by omega)];by_cases k:500<p.aM.length
 ·rw[if_pos (by omega),if_pos (.inr (.inr (.inr (.inl k))))]
 rw[if_neg (by omega)];by_cases l:500<p.values.length
 ·rw[if_pos (by omega),if_pos (.inr (.inr (.inr (.inr l))))]
 rw[if_neg (by omega),if_neg (show ¬ (_\/_) by omega)];rw[aT (ng a.rn),bh];by_cases b:iS ah.id p.ax;rotate_left
 ·rw[if_neg b,if_neg λh=>b h.1]
 rw[if_pos b,aT (nh a.re),bh];by_cases c:iS au.id p.aA;rotate_left
 ·rw[if_neg c,if_neg λh=>c h.2.1]
 rw[if_pos c,aT (ng a.an),bh];by_cases d:iS ah.id p.aP;rotate_left
 ·rw[if_neg d,if_neg λh=>d h.2.2.1]
 rw[if_pos d,aT (nh a.ae),bh];by_cases e:iS au.id p.aM;rotate_left
 ·rw[if_neg e,if_neg λh=>e h.2.2.2.1]
 rw[if_pos e,aT (afb a.va),bh];by_cases f:p.values.Pairwise fF
 ·rw[if_pos f,if_pos ⟨b,c,d,e,f⟩]
 ·rw[if_neg f,if_neg λh=>f h.2.2.2.2]
theorem DE(a b:Int):iJ a b=some (qY a b):=by
 unfold iJ;rw[aT (show jy a=some false by unfold jy;simp),aT (show jy b=some false by unfold jy;simp),cond_false,cond_false,bh,bh];unfold qY;split
 ·rfl
 ·split<;>rfl
theorem aJD(a b:Int):qZ [a,b]=some (if a=0 then b else a):=by
 unfold qZ;rw[bC (bl (by simp))];show cq _ 2 0 () _=_;simp only[cq,List.getElem?_cons_zero,List.getElem?_cons_succ,mX,bh];by_cases h:a=0
 ·rw[if_pos h,if_pos h];by_cases c:b=0
  ·rw[if_pos c,c]
  ·rw[if_neg c]
 ·rw[if_neg h,if_neg h]
theorem DF{a b:Int} : ¬ (0<=qY a b)↔a<b:=by
 unfold qY;split
 ·omega
 ·split<;>omega
theorem azF(a b:ah):ig a b=some (qY a.id b.id):=by unfold ig;rw[aT (DE _ _)]
theorem azG(a b:au):ij a b=some (qY a.id b.id):=by unfold ij;rw[aT (DE _ _)]
theorem avd(a b:aQ):jq a b=some (if qY a.id b.id=0 then qY a.attr b.attr else qY a.id b.id):=by unfold jq;rw[aT (DE _ _),aT (DE _ _),aT (aJD _ _)]
theorem yV{l:List ah}(hl:l.length<=1000000):eu l (λa b=>ig a b)=some (decide (iS ah.id l)):=by
 unfold eu;rw[bC (bl (by omega))];rw[xw (λa b:ah=>a.id<b.id) (λa b c f d=>by omega) (some true) (some false) rfl λi g f j=>?_]
 ·by_cases h:l.Pairwise λa b:ah=>a.id<b.id
  ·rw[if_pos h,dr (show iS ah.id l from h)]
  ·rw[if_neg h,gA (show ¬ iS ah.id l from h)]
 ·have e:l[(((i:Nat):Int)-1).toNat]'(by omega)=l[i-1]'(by omega):=by congr 1;omega
  rw[dy (by omega),gO (by omega) (by omega),b8 g,e];rw[aT (azF _ _),bh,bh];by_cases h:(l[i-1]'(by omega)).id<l[i].id
  ·rw[if_pos h,if_neg (DF.2 h)]
  ·rw[if_neg h,if_pos (Decidable.of_not_not λd=>h (DF.1 d))]
theorem yW{l:List au}(hl:l.length<=1000000):ew l (λa b=>ij a b)=some (decide (iS au.id l)):=by
 unfold ew;rw[bC (bl (by omega))];rw[xw (λa b:au=>a.id<b.id) (λa b c f d=>by omega) (some true) (some false) rfl λi g f j=>?_]
 ·by_cases h:l.Pairwise λa b:au=>a.id<b.id
  ·rw[if_pos h,dr (show iS au.id l from h)]
  ·rw[if_neg h,gA (show ¬ iS au.id l from h)]
 ·have e:l[(((i:Nat):Int)-1).toNat]'(by omega)=l[i-1]'(by omega):=by congr 1;omega
  rw[dy (by omega),gO (by omega) (by omega),b8 g,e];rw[aT (azG _ _),bh,bh];by_cases h:(l[i-1]'(by omega)).id<l[i].id
  ·rw[if_pos h,if_neg (DF.2 h)]
  ·rw[if_neg h,if_pos (Decidable.of_not_not λd=>h (DF.1 d))]
theorem aea{l:List aQ}(hl:l.length<=1000000):fC l (λa b=>jq a b)=some (decide (l.Pairwise fF)):=by
 unfold fC;rw[bC (bl (by omega))];rw[xw fF Lj (some true) (some false) rfl λi g d k=>?_]
 ·by_cases h:l.Pairwise fF
  ·rw[if_pos h,dr h]
  ·rw[if_neg h,gA h]
 ·have e:l[(((i:Nat):Int)-1).toNat]'(by omega)=l[i-1]'(by omega):=by congr 1;omega
  rw[dy (by omega),gO (by omega) (by omega),b8 g,e];rw[aT (avd _ _),bh,bh];generalize l[i]=x;generalize l[i-1]'(by omega)=y;have j:fF y x↔(y.id<x.id\/y.id=x.id/\y.attr<x.attr):=Iff.rfl;have f:(0<=if qY y.id x.id=0 then qY y.attr x.attr else qY y.id x.id)↔¬ fF y x:=by
   rw[j];unfold qY;by_cases d:y.id<x.id
   ·rw[if_pos d,if_neg (by omega)];omega
   ·rw[if_neg d];by_cases c:y.id > x.id
    ·rw[if_pos c,if_neg (by omega)];omega
    ·rw[if_neg c,if_pos rfl];split
     ·omega
     ·split<;>omega
  by_cases h:fF y x
  ·rw[if_pos h,if_neg λc=>f.1 c h]
  ·rw[if_neg h,if_pos (f.2 h)]
theorem azH{p:aH}(a:jJ p):mR p=some (sX p):=by
 unfold mR sX;rw[bh];by_cases g:500<p.ax.length\/500<p.aA.length\/500<p.aP.length\/500<p.aM.length\/500<p.values.length
 ·rw[if_pos (by omega),if_pos g]
 rw[if_neg (by omega),if_neg g];rw[aT (yV a.rn),bh];by_cases b:iS ah.id p.ax;rotate_left
 ·rw[if_neg b,if_neg λh=>b h.1]
 rw[if_pos b,aT (yV a.an),bh];by_cases d:iS ah.id p.aP;rotate_left
 ·rw[if_neg d,if_neg λh=>d h.2.2.1]
 rw[if_pos d,aT (yW a.re),bh];by_cases c:iS au.id p.aA;rotate_left
 ·rw[if_neg c,if_neg λh=>c h.2.1]
 rw[if_pos c,aT (yW a.ae),bh];by_cases e:iS au.id p.aM;rotate_left
 ·rw[if_neg e,if_neg λh=>e h.2.2.2.1]
 rw[if_pos e,aT (aea a.va),bh];by_cases f:p.values.Pairwise fF
 ·rw[if_pos f,if_pos ⟨b,c,d,e,f⟩]
 ·rw[if_neg f,if_neg λh=>f h.2.2.2.2]
theorem Co{α:Type}{q:α->α->Bool}{l:List α}{n:α} : ((xu q l n).1).Sublist l:=by
 unfold xu;split
 ·exact List.Sublist.refl _
 ·rw[<-List.eraseIdx_eq_take_drop_succ];exact List.eraseIdx_sublist ..
theorem Lk(x:List ah):∀ (r y:List au),oO (λ(x:List ah) y e=>((x,(xu qK y e).1),(xu qK y e).2)) x y r=((x,(iX qK y r).1),(iX qK y r).2)
 | [],y=>rfl
 |e :: r,y=>by
  rw[oO,iX];simp only;split
  ·exact Lk x r _
  ·rename_i h;simp only[Bool.not_eq_true] at h;rw[h]
theorem Ll(y:List au):∀ (r x:List ah),oO (λx (y:List au) e=>(((xu dV x e).1,y),(xu dV x e).2)) x y r=(((iX dV x r).1,y),(iX dV x r).2)
 | [],x=>rfl
 |e :: r,x=>by
  rw[oO,iX];simp only;split
  ·exact Ll y r _
  ·rename_i h;simp only[Bool.not_eq_true] at h;rw[h]
theorem Lm(y:List au):∀ (r:List aQ) (x:List ah),oO (λx (y:List au) v=>((x.map (mZ v),y),x.any (jB v))) x y r=(((eW x r).1,y),(eW x r).2)
 | [],x=>rfl
 |e :: r,x=>by
  rw[oO,eW];simp only;split
  ·exact Lm y r _
  ·rename_i h;simp only[Bool.not_eq_true] at h;rw[h]
def GI(s:aO)(p:aH):aO×Bool :=
 if (iX qK s.ak p.aA).2=true then
  if (iX dV s.nodes p.ax).2=true then (⟨(eW (iX dV s.nodes p.ax).1 p.values).1,(iX qK s.ak p.aA).1⟩,(eW (iX dV s.nodes p.ax).1 p.values).2)
  else (⟨(iX dV s.nodes p.ax).1,(iX qK s.ak p.aA).1⟩,false)
 else (⟨s.nodes,(iX qK s.ak p.aA).1⟩,false)
def Rows(l:List ah):Prop:=∀n∈l,n.values.length<=1000
theorem GJ{l:List ah}(h:Rows l)(v:aQ):Rows (l.map (mZ v)):=λn b=>by obtain⟨m,a,rfl⟩:=List.mem_map.1 b;rw[Cn];exact h m a
def wM{α O:Type}(l:List α)(f:aO->α->Option (aO×Bool))(s:Bool×Int×List ah×List au)(b a:Bool×Int×List ah×List au->Option O):Option O :=
  cond (decide (s.2.1<((l.length:Nat):Int))) (
   cond s.1 (
    thn (nr l s.2.1) λe =>
    thn (f (⟨s.2.2.1,s.2.2.2⟩:aO) e) λr =>
    b (r.2,(i64.wrap (s.2.1+1)),r.1.nodes,r.1.ak)) <|
   a (s.1,s.2.1,s.2.2.1,s.2.2.2)) <|
  a (s.1,s.2.1,s.2.2.1,s.2.2.2)
theorem GK{α O:Type}{K:Bool×Int×List ah×List au->Option O}(l:List α)(f:aO->α->Option (aO×Bool))(step:List ah->List au->α->(List ah×List au)×Bool)(a:List ah->List au->Prop)(hl:l.length<=1000000)
  (h:∀x y e,a x y->f ⟨x,y⟩ e=some (⟨(step x y e).1.1,(step x y e).1.2⟩,(step x y e).2)/\a (step x y e).1.1 (step x y e).1.2) (b:Bool) (x:List ah) (y:List au) (m:a x y) :
  ∃j,iter (wM l f) fuel (b,0,x,y) K=K (if b=true then (oO step x y l).2 else false,j,if b=true then (oO step x y l).1.1 else x,if b=true then (oO step x y l).1.2 else y)/\(b=true->a (oO step x y l).1.1 (oO step x y l).1.2):=by
 refine azB l step a hl (λi x y c=>?_) (λx y c=>?_) (λi d x y c n=>?_) b x y m
 ·unfold wM;simp only;cases decide (i<((l.length:Nat):Int))<;>rfl
 ·unfold wM;simp
 ·obtain⟨g,k⟩:=h x y l[i] n;unfold wM;simp only;rw[dr (by omega),cond_true,cond_true,gO (by omega) (by simpa using d),dy (by omega)];exact⟨by rw[show l[((i:Nat):Int).toNat]'(by simpa using d)=l[i] from rfl,aT g];rfl,k⟩
theorem aD6(s:aO)(p:aH)(d:s.nodes.length<=1000000)(o:s.ak.length<=1000000)(i:Rows s.nodes)(g:jJ p):gl s p=some (GI s p):=by
 unfold gl;show iter (wM p.aA cI) fuel (true,0,s.nodes,s.ak) (λf=>iter (wM p.ax cr) fuel (f.1,0,f.2.2.1,f.2.2.2) λc=>iter (wM p.values cV) fuel (c.1,0,c.2.2.1,c.2.2.2) λa=>some ((⟨a.2.2.1,a.2.2.2⟩:aO),a.1))=_;obtain⟨u,k,_⟩:=GK (K:=λf=>iter (wM p.ax cr) fuel (f.1,0,f.2.2.1,f.2.2.2) λc=>iter (wM p.values cV) fuel (c.1,0,c.2.2.1,c.2.2.2) λa=>some ((⟨a.2.2.1,a.2.2.2⟩:aO),a.1)) p.aA cI (λ(x:List ah) y e=>((x,(xu qK y e).1),(xu qK y e).2)) (λx y=>y.length<=1000000) g.re
  (λx y e b=>⟨Lh ⟨x,y⟩ e b,Nat.le_trans (Co (q:=qK)).length_le b⟩) true s.nodes s.ak o
 rw[k];simp only[if_true,Lk];obtain⟨w,l,j⟩:=GK (K:=λc=>iter (wM p.values cV) fuel (c.1,0,c.2.2.1,c.2.2.2) λa=>some ((⟨a.2.2.1,a.2.2.2⟩:aO),a.1)) p.ax cr (λx (y:List au) e=>(((xu dV x e).1,y),(xu dV x e).2)) (λx y=>x.length<=1000000/\Rows x) g.rn
  (λx y e b=>⟨Li ⟨x,y⟩ e b.1 λn d=>by have:=b.2 n d;omega,Nat.le_trans (Co (q:=dV)).length_le b.1,λn d=>b.2 n (Co.mem d)⟩) (iX qK s.ak p.aA).2 s.nodes (iX qK s.ak p.aA).1 ⟨d,i⟩
 rw[l];simp only[Ll] at j ⊢;obtain⟨z,m,_⟩:=GK (K:=λa=>some ((⟨a.2.2.1,a.2.2.2⟩:aO),a.1)) p.values cV (λx (y:List au) v=>((x.map (mZ v),y),x.any (jB v))) (λx y=>x.length<=1000000/\Rows x) g.va
  (λx y v b=>⟨aFO ⟨x,y⟩ v b.1 λn d=>by have:=b.2 n d;omega,by simpa using b.1,GJ b.2 _⟩) (if (iX qK s.ak p.aA).2=true then (iX dV s.nodes p.ax).2 else false) (if (iX qK s.ak p.aA).2=true then (iX dV s.nodes p.ax).1 else s.nodes) (if (iX qK s.ak p.aA).2=true then (iX qK s.ak p.aA).1 else (iX qK s.ak p.aA).1) (by
  split
  ·rename_i h;exact j h
  ·exact⟨d,i⟩)
 rw[m];simp only[Lm];unfold GI;cases r:(iX qK s.ak p.aA).2 with
 |false=>simp
 |true =>
  simp only[if_true];cases t:(iX dV s.nodes p.ax).2 with
  |false=>simp
  |true=>simp
theorem Ln(s:aO)(id:Int)(e:s.nodes.length<=1000000)(d:s.ak.length<=1000000):ff s id=some (kI s.nodes s.ak id):=by
 unfold ff kI;rw[bC (bl (by omega))];rw[pe s.nodes (λn=>!decide (n.id=id)) (λ_=>some true) (λi b c=>by rw[b8 b,jg]),qb];by_cases a:(s.nodes.all λn=>!decide (n.id=id))=true
 ·rw[if_pos a,bC (bl (by omega))];rw[pe s.ak (λn=>!decide (n.id=id)) (λ_=>some true) (λi b c=>by rw[b8 b,jg]),qb];rw[List.all_eq_not_any_not] at a ⊢;simp only[Bool.not_not] at a ⊢;rw[show (s.nodes.any λn=>decide (n.id=id))=false by simpa using a,Bool.false_or];cases s.ak.any λn=>decide (n.id=id)<;>rfl
 ·rw[if_neg a];rw[List.all_eq_not_any_not] at a;simp only[Bool.not_not] at a;rw[show (s.nodes.any λn=>decide (n.id=id))=true by simpa using a];rfl
def GL(s:aO)(p:aH):aO×Bool:=if gF s.nodes s.ak p=true then (s,false) else (⟨kU (s.nodes++p.aP),nt (s.ak++p.aM)⟩,true)
theorem aD7(s:aO)(p:aH)(m:s.nodes.length<=1000000)(k:s.ak.length<=1000000)(q:iS ah.id s.nodes)(o:iS au.id s.ak)(g:jJ p)(f:Ordered p):gm s p=some (GL s p):=by
 have I:=g.an;have H:=g.ae;unfold gm GL;rw[bC (bl (by omega))];rw[pe p.aP (λn=>!kI s.nodes s.ak n.id) (λ_=>some (s,false)) (λi l A=>by rw[b8 l,aT (Ln s _ m k),jg]),qb];by_cases c:(p.aP.all λn=>!kI s.nodes s.ak n.id)=true;rotate_left
 ·rw[if_neg c];rw[List.all_eq_not_any_not] at c;simp only[Bool.not_not] at c;have e:gF s.nodes s.ak p=true:=by unfold gF;rw[show (p.aP.any λn=>kI s.nodes s.ak n.id)=true by simpa using c];rfl
  rw[if_pos e]
 rw[if_pos c,bC (bl (by omega))];rw[List.all_eq_not_any_not] at c;simp only[Bool.not_not] at c;have G:(p.aP.any λn=>kI s.nodes s.ak n.id)=false:=by simpa using c
 rw[pe p.aM (λn=>!kI s.nodes s.ak n.id) (λ_=>some (s,false)) (λi l A=>by rw[b8 l,aT (Ln s _ m k),jg]),qb];by_cases d:(p.aM.all λn=>!kI s.nodes s.ak n.id)=true;rotate_left
 ·rw[if_neg d];rw[List.all_eq_not_any_not] at d;simp only[Bool.not_not] at d;have e:gF s.nodes s.ak p=true:=by unfold gF;rw[show (p.aM.any λn=>kI s.nodes s.ak n.id)=true by simpa using d,Bool.or_true]
  rw[if_pos e]
 rw[if_pos d];rw[List.all_eq_not_any_not] at d;simp only[Bool.not_not] at d;have D:(p.aM.any λn=>kI s.nodes s.ak n.id)=false:=by simpa using d
 have u:gF s.nodes s.ak p=false:=by unfold gF;rw[G,D];rfl
 rw[if_neg (by rw[u];simp)];obtain⟨f1,f2⟩:=GG u;have t:∀a∈s.nodes,∀b∈p.aP,a.id≠b.id:=λa h b j=>(f1 b j).1 a h
 have r:∀a∈s.ak,∀b∈p.aM,a.id≠b.id:=λa h b j=>(f2 b j).2 a h
 refine Ok.eq ?_;refine Lc ah.id s.nodes p.aP q f.an t m g.an λF z E _ _=>?_
 have B:F=kU (s.nodes++p.aP):=z.ext (GD (mY q f.an t)) λx=>by rw[E,oa,List.mem_append]
 refine Lc au.id s.ak p.aM o f.ae r k g.ae λy v w _ _=>?_
 have C:y=nt (s.ak++p.aM):=v.ext (GF (mY o f.ae r)) λx=>by rw[w,uQ,List.mem_append]
 subst B C;exact Ok.mk rfl
def cA(ids:List Int)(n:Int):Int:=mN (λy=>decide (y=n)) ids
def jZ(ids:List Int)(e:au):Edge:=⟨e.type,cA ids e.src,cA ids e.dst⟩
def c8(N:List ah)(E:List au)(next:Int):ay:=⟨⟨⟨N.map ah.type,E.map (jZ (N.map ah.id))⟩,N.map ah.values⟩,N.map ah.id,E.map au.id,next⟩
theorem GM:∀ (l:List ah) (a:List Int×List (List Int)×List Int),l.foldl (λ(s:List Int×List (List Int)×List Int) n=>(s.1++[n.type],s.2.1++[n.values],s.2.2++[n.id])) a=(a.1++l.map ah.type,a.2.1++l.map ah.values,a.2.2++l.map ah.id)
 | [],a=>by simp
 |n :: l,a=>by rw[List.foldl_cons,GM l];simp
theorem Lo(ids:List Int):∀ (l:List au) (a:List Edge×List Int),l.foldl (λ(s:List Edge×List Int) e=>(s.1++[jZ ids e],s.2++[e.id])) a=(a.1++l.map (jZ ids),a.2++l.map au.id)
 | [],a=>by simp
 |n :: l,a=>by rw[List.foldl_cons,Lo ids l];simp
theorem tX(s:aO)(next:Int)(j:s.nodes.length<=1000000)(o:s.ak.length<=1000000)(m:Rows s.nodes):dg s next=some (c8 s.nodes s.ak next):=by
 unfold dg;rw[bC (bl (by omega))];rw[(sN s.nodes (λ(s:List Int×List (List Int)×List Int) n=>(s.1++[n.type],s.2.1++[n.values],s.2.2++[n.id])) (λi s=>s.1.length=i/\s.2.1.length=i/\s.2.2.length=i) ⟨rfl,rfl,rfl⟩ ?_).1]
 ·rw[GM];simp only[List.nil_append];rw[bC (bl (by omega))];rw[(sN s.ak (λ(k:List Edge×List Int) e=>(k.1++[jZ (s.nodes.map ah.id) e],k.2++[e.id])) (λi s=>s.1.length=i/\s.2.length=i) ⟨rfl,rfl⟩ ?_).1]
  ·rw[Lo];rfl
  ·rintro i g ⟨a,b⟩ ⟨d,f⟩;simp only at d f;refine⟨λl=>?_,by simp[d],by simp[f]⟩;rw[b8 g,bC (by simp only;omega),aT (dm (by simpa using j) _),aT (dm (by simpa using j) _),bC (by simp only;omega)];rfl
 ·rintro i g ⟨a,b,c⟩ ⟨d,f,h⟩;simp only at d f h;refine⟨λl=>?_,by simp[d],by simp[f],by simp[h]⟩;have:=m _ (l8 g);rw[b8 g,bC (by simp only;omega),bC (by simp only;omega),bC (by omega),bC (by simp only;omega)]
def tr(ids:List Int)(e:au):Bool:=decide (0<=cA ids e.src)&&decide (0<=cA ids e.dst)
theorem amX{l:List Int}(h:l.length<=1000000):qt l=some l:=uc h
theorem ada(N:List ah)(E:List au)(next:Int)(q:N.length<=1000000)(A:E.length<=1000000)(z:Rows N):lP N E next=some (if E.all (tr (N.map ah.id))=true then (c8 N E next,true) else (kV,false)):=by
 unfold lP;rw[bC (bl (by omega))];rw[(sN N (λ(s:List Int×List (List Int)×List Int) n=>(s.1++[n.type],s.2.1++[n.values],s.2.2++[n.id])) (λi s=>s.1.length=i/\s.2.1.length=i/\s.2.2.length=i) ⟨rfl,rfl,rfl⟩ ?_).1]
 ·rw[GM];simp only[List.nil_append];rw[bC (bl (by omega))];refine Ok.eq ?_;refine mz (λj s=>j<=E.length/\s=((E.take j).map (jZ (N.map ah.id)),(E.take j).map au.id)/\(E.take j).all (tr (N.map ah.id))=true) (Nat.zero_le _) ⟨Nat.zero_le _,by simp,by simp⟩ ?_ ?_
  ·rintro j s v _ d ⟨_,rfl,f⟩ x;refine oK d (ok_eq (qv (by simpa using q) _) (ok_eq (qv (by simpa using q) _) ?_));have r:tr (N.map ah.id) E[j]=false->(if E.all (tr (N.map ah.id))=true then (c8 N E next,true) else (kV,false))=(kV,false):=λh=>by rw[if_neg];intro e;rw[List.all_eq_true.1 e _ (l8 d)] at h;cases h
   refine bV (λg=>?_) λg=>?_
   ·refine Ok.mk ?_;rw[r]
    ·rfl
    ·unfold tr cA;have:=b6 g;rw[gA (by omega),Bool.false_and]
   refine bV (λk=>?_) λk=>?_
   ·refine Ok.mk ?_;rw[r]
    ·rfl
    ·unfold tr cA;have:=b6 k;rw[gA (p:=0<=mN (λy=>decide (y=E[j].dst)) (N.map ah.id)) (by omega),Bool.and_false]
   have t:=dK g;have u:=dK k;have w:tr (N.map ah.id) E[j]=true:=by unfold tr;rw[Bool.and_eq_true];exact⟨dr (Int.not_lt.1 t),dr (Int.not_lt.1 u)⟩
   refine bU (by simp;omega) (bU (by simp;omega) (x _ ⟨d,?_,?_⟩))
   ·rw[List.take_add_one,List.getElem?_eq_getElem d,Option.toList_some,List.map_append,List.map_append];rfl
   ·rw[List.take_add_one,List.getElem?_eq_getElem d,Option.toList_some,List.all_append,f];simpa using w
  ·rintro s ⟨_,rfl,f⟩;rw[List.take_length] at f ⊢;rw[if_pos f];exact Ok.mk rfl
 ·rintro i o ⟨a,b,c⟩ ⟨l,e,m⟩;simp only at l e m;refine⟨λv=>?_,by simp[l],by simp[e],by simp[m]⟩;have:=z _ (l8 o);rw[b8 o,bC (by simp only;omega),bC (by simp only;omega),aT (amX (by omega)),bC (by simp only;omega)]
theorem Lp{t:Types}{N:List ah}{E:List au}{next:Int}(h:eX t (c8 N E next)):E.all (tr (N.map ah.id))=true:=by
 rw[List.all_eq_true];intro e b;obtain⟨j,a,rfl⟩:=List.getElem_of_mem b;have:=h.host.graph.fq j (by simpa[c8] using a);simp only[c8] at this;have c:(E.map (jZ (N.map ah.id))).getD j default=jZ (N.map ah.id) E[j]:=by simp[a]
 rw[c] at this;unfold tr;rw[Bool.and_eq_true];exact⟨dr this.2.1.1,dr this.2.2.1⟩
def Cp(a:ay)(p:aH):Option (List ah×List au) :=
 if kA dV (bA a) p.ax=true/\kA qK (cC a) p.aA=true then
  if (eW (less dV (bA a) p.ax) p.values).2=true then
   if gF (eW (less dV (bA a) p.ax) p.values).1 (less qK (cC a) p.aA) p=true then none
   else some (kU ((eW (less dV (bA a) p.ax) p.values).1++p.aP),nt (less qK (cC a) p.aA++p.aM))
  else none
 else none
def ym(t:Types)(a:ay)(p:aH):ay×Int :=
 if sX p≠0 then (kV,sX p) else if p.next.x0≠a.next then (kV,11) else match Cp a p with
 |none=>(kV,11)
 |some s=>if nO t (c8 s.1 s.2 p.next.x1)≠0 then (kV,1) else (c8 s.1 s.2 p.next.x1,0)
def om(t:Types)(a:ay)(p:aH):ay×Int:=if nO t a≠0 then (kV,nO t a) else ym t a p
section
variable{t:Types}{a:ay}{p:aH}
theorem jC(c:eX t a)(d:qW a.host):Rows (bA a):=λn e=>by
 obtain⟨i,b,rfl⟩:=List.mem_map.1 e;have b:i<a.nodes.length:=by simpa using b
 refine d.row _ ?_;have:i<a.host.values.length:=by rw[c.host.sn,<-c.qJ];exact b
 simp[cD,this]
theorem GN{α:Type}{q:α->α->Bool}{l r:List α} : (less q l r).length<=l.length:=List.length_filter_le _ _
theorem Lq:∀ (r:List aQ) (l:List ah),Rows l->Rows (eW l r).1
 | [],l,h=>h
 |v :: r,l,h=>by
  rw[eW];split
  ·exact Lq r _ (GJ h v)
  ·exact GJ h v
theorem ave{N:List ah}{E:List au}{next:Int}(a:N.length<=1000)(b:E.length<=1000)(c:Rows N):lX (c8 N E next) :=
 ⟨⟨⟨by simpa[c8] using a,by simpa[c8] using b⟩,by simpa[c8] using a,λl hl=>by
  obtain⟨n,d,rfl⟩:=List.mem_map.1 hl;exact c n d⟩,by simp[c8];omega,by simp[c8];omega⟩
structure Lr(a:ay)(p:aH):Prop where
 n:(eW (less dV (bA a) p.ax) p.values).1.length<=40
 e:(less qK (cC a) p.aA).length<=80
 rows:Rows (eW (less dV (bA a) p.ax) p.values).1
 wL:iS ah.id (eW (less dV (bA a) p.ax) p.values).1
 rq:iS au.id (less qK (cC a) p.aA)
theorem GO(b:eX t a)(c:qW a.host):Lr a p:=by have e:=b.n40;have f:=b.hG;have l1:=GN (q:=dV) (l:=bA a) (r:=p.ax);have l2:=GN (q:=qK) (l:=cC a) (r:=p.aA);rw[lZ] at l1;rw[kW] at l2;exact⟨by rw[(qH _ _).len];omega,by omega,Lq _ _ λn d=>jC b c n (List.mem_filter.1 d).1,yg _ _ (vr b.wL),vr b.rq⟩
theorem Small.add(c:Small p)(b:Lr a p)(f:jJ p)(next:Int):lX (c8 (kU ((eW (less dV (bA a) p.ax) p.values).1++p.aP)) (nt (less qK (cC a) p.aA++p.aM)) next):=by
 have g:=b.n;have i:=b.e;have j:=c.an;have k:=c.ae;refine ave (by rw[K6,List.length_append];omega) (by rw[K7,List.length_append];omega) λn d=>?_
 rcases List.mem_append.1 (oa.1 d) with h|h
 ·exact b.rows n h
 ·exact f.av n h
theorem GP(c:Ordered p):p.ax.Pairwise λa b=>a.id≠b.id:=List.Pairwise.imp (λh=>by omega) c.rn
theorem GQ(c:Ordered p):p.aA.Pairwise λa b=>a.id≠b.id:=List.Pairwise.imp (λh=>by omega) c.re
theorem avf(C:fK t)(b:eX t a)(s:qW a.host)(o:jJ p):fT t a p=some (ym t a p):=by
 have D:=b.n40;have E:=b.hG;unfold fT ym;rw[aT (l_ordered o),bh];by_cases i:sX p=0;rotate_left
 ·rw[if_neg i,if_pos i];rfl
 obtain⟨B,u⟩:=uD.1 i;rw[if_pos i,if_neg (λh=>h i),bh];by_cases r:p.next.x0=a.next
 rotate_left
 ·rw[if_neg r,if_pos r];rfl
 rw[if_pos r,if_neg (λh=>h r),aT (show fc ⟨a.host,a.nodes,a.ak,a.next⟩=_ from GH b λl hl=>by have:=s.row l hl;omega)];rw[aT (aD6 ⟨bA a,cC a⟩ p (by rw[lZ];omega) (by rw[kW];omega) (jC b s) o)];obtain⟨w,v⟩:=GB (q:=dV) (λ_ _=>kz) p.ax (bA a) b.wL (GP u);obtain⟨d1,d2⟩:=GB (q:=qK) (λ_ _=>yf) p.aA (cC a) b.rq (GQ u);unfold GI Cp;simp only[w,d1] at v d2 ⊢;by_cases c:kA qK (cC a) p.aA=true;rotate_left
 ·rw[if_neg c,cond_false,if_neg λh=>c h.2];rfl
 by_cases d:kA dV (bA a) p.ax=true;rotate_left
 ·rw[if_pos c,if_neg d,cond_false,if_neg λh=>d h.1];rfl
 rw[if_pos c,if_pos d,if_pos ⟨d,c⟩,v d,d2 c];have g:=GO (p:=p) b s;have F:=g.n;have G:=g.e;by_cases f:(eW (less dV (bA a) p.ax) p.values).2=true;rotate_left
 ·rw[if_neg f];simp only[Bool.not_eq_true] at f;simp only[f,cond_false];try rfl
 rw[if_pos f];simp only[f,cond_true];rw[aT (aD7 _ p (by simp only;omega) (by simp only;omega) g.wL g.rq o u)];unfold GL;simp only;by_cases j:gF (eW (less dV (bA a) p.ax) p.values).1 (less qK (cC a) p.aA) p=true
 ·rw[if_pos j,if_pos j];rfl
 rw[if_neg j,if_neg j];simp only[cond_true];have m:=B.add g o p.next.x1
 have x:=m.nodes;have y:=m.ak;have z:=m.host.row;rw[aT (tX _ _ (by simpa[c8] using x) (by simpa[c8] using y) λn A=>z _ (List.mem_map_of_mem A))];rw[aT (show ck ⟨t.nodes,t.ak⟩ _=_ from nc C m),bh];by_cases k:nO t (c8 (kU ((eW (less dV (bA a) p.ax) p.values).1++p.aP)) (nt (less qK (cC a) p.aA++p.aM)) p.next.x1)=0
 ·rw[if_pos k,if_neg (λh=>h k)]
 ·rw[if_neg k,if_pos k];rfl
theorem xx(c:fK t)(b:lX a)(e:jJ p):bX t a p=some (om t a p):=by
 unfold bX om;rw[aT (show ck ⟨t.nodes,t.ak⟩ ⟨a.host,a.nodes,a.ak,a.next⟩=_ from nc c b),bh];by_cases h:nO t a=0
 ·rw[if_pos h,if_neg (λd=>d h),aT (show fT ⟨t.nodes,t.ak⟩ ⟨a.host,a.nodes,a.ak,a.next⟩ p=_ from avf c (eC.1 h) b.host e)]
 ·rw[if_neg h,if_pos h];rfl
theorem azK(B:fK t)(d:eX t a)(i:qW a.host)(y:jJ p):kO t a p=some (ym t a p):=by
 have I:=d.n40;have J:=d.hG;unfold kO ym;rw[aT (azH y),jg,bh];by_cases u:sX p=0;rotate_left
 ·rw[if_neg u,if_pos u]
 obtain⟨j,v⟩:=uD.1 u;have M:=j.rn;have N:=j.re;have O:=j.an;have P:=j.ae;have Q:=j.va;rw[if_pos u,if_neg (λh=>h u)];rw[aT (uc ⟨by rw[d.qJ];exact Nat.le_refl _,by rw[d.host.sn,d.qJ];exact Nat.le_refl _,by omega,λl hl=>by have:=i.row l hl;omega,by omega,by omega,by omega,by omega,by omega,λn x=>by have:=y.rv n x;omega⟩)];rw[aT (afa d),aT (uc (by rw[kW];omega)),jg,bh];by_cases w:p.next.x0=a.next
 rotate_left
 ·rw[if_neg w,if_pos w]
 rw[if_pos w,if_neg (λh=>h w)];obtain⟨z,D⟩:=GA (q:=dV) (λ_ _=>kz) p.ax (bA a) 0 d.wL (GP v);obtain⟨d1,d2⟩:=GA (q:=qK) (λ_ _=>yf) p.aA (cC a) 0 d.rq (GQ v);rw[K3,K4,z,d1,jg];unfold Cp;by_cases f:kA dV (bA a) p.ax=true/\kA qK (cC a) p.aA=true;rotate_left
 ·rw[if_neg f];have:(kA dV (bA a) p.ax&&kA qK (cC a) p.aA)=false:=by rw[Bool.eq_false_iff];intro h;exact f (by rw[Bool.and_eq_true] at h;exact h)
  rw[this,cond_false]
 rw[if_pos f,f.1,f.2,Bool.and_true,cond_true,D (z.trans f.1),d2 (d1.trans f.2)];have s:=GO (p:=p) d i;have K:=s.n;have L:=s.e;have l1:=GN (q:=dV) (l:=bA a) (r:=p.ax);rw[lZ] at l1;rw[aT (uc ⟨by omega,by omega⟩)];obtain⟨C,H⟩:=K5 p.values (less dV (bA a) p.ax) (vr d.wL);rw[C,jg];by_cases g:(eW (less dV (bA a) p.ax) p.values).2=true;rotate_left
 ·rw[if_neg g];simp only[Bool.not_eq_true] at g;rw[g,cond_false]
 rw[if_pos g,g,cond_true,H (C.trans g)];rw[aT (uc ⟨by omega,λA=>⟨K8 (mY s.wL v.an λa d b i=>((GG A).1 b i).1 a d),K8 (mY s.rq v.ae λa d b i=>((GG A).2 b i).2 a d)⟩⟩)];by_cases k:gF (eW (less dV (bA a) p.ax) p.values).1 (less qK (cC a) p.aA) p=true
 ·rw[if_pos k,k,cond_true]
 rw[if_neg k];simp only[Bool.not_eq_true] at k;rw[k,cond_false];have o:=j.add s y p.next.x1
 have E:=o.nodes;have F:=o.ak;have G:=o.host.row;rw[aT (ada _ _ _ (by simpa[c8] using E) (by simpa[c8] using F) λn x=>G _ (List.mem_map_of_mem x)),jg];simp only;by_cases m:nO t (c8 (kU ((eW (less dV (bA a) p.ax) p.values).1++p.aP)) (nt (less qK (cC a) p.aA++p.aM)) p.next.x1)=0
 ·rw[if_pos (Lp (eC.1 m)),if_neg (λh=>h m),cond_true,aT (tW B o),jg,bh,if_pos m]
 ·rw[if_pos (c:=_≠_) m];split
  ·rw[cond_true,aT (tW B o),jg,bh,if_neg m]
  ·rw[cond_false]
theorem Cq(c:fK t)(b:lX a)(e:jJ p):fz t a p=some (om t a p):=by
 unfold fz om;rw[aT (show kD ⟨t.nodes,t.ak⟩ ⟨a.host,a.nodes,a.ak,a.next⟩=_ from tW c b),bh];by_cases h:nO t a=0
 ·rw[if_pos h,if_neg (λd=>d h),aT (show kO ⟨t.nodes,t.ak⟩ ⟨a.host,a.nodes,a.ak,a.next⟩ p=_ from azK c (eC.1 h) b.host e)]
 ·rw[if_neg h,if_pos h];rfl
end
def jh(a:ay)(p:aH):List ah:=(eW (less dV (bA a) p.ax) p.values).1
def lB(a:ay)(p:aH):List au:=less qK (cC a) p.aA
def bf(a:ay)(p:aH):ay:=c8 (kU (jh a p++p.aP)) (nt (lB a p++p.aM)) p.next.x1
structure bH(t:Types)(a:ay)(p:aH):Prop where
 tk:eX t a
 small:Small p
 ord:Ordered p
 next:p.next.x0=a.next
 rn:kA dV (bA a) p.ax=true
 re:kA qK (cC a) p.aA=true
 va:(eW (less dV (bA a) p.ax) p.values).2=true
 free:gF (jh a p) (lB a p) p=false
 ok:eX t (bf a p)
theorem pn{t:Types}{a:ay}{p:aH}(h:bH t a p):om t a p=(bf a p,0):=by unfold om ym Cp;rw[if_neg (λb=>b (eC.2 h.tk)),if_neg (λb=>b (uD.2 ⟨h.small,h.ord⟩)),if_neg (λb=>b h.next),if_pos ⟨h.rn,h.re⟩,if_pos h.va,if_neg (λb=>by have c:=h.free;unfold jh lB at c;rw[c] at b;cases b)];exact if_neg (λb=>b (eC.2 h.ok))
theorem oc{t:Types}{a:ay}{p:aH} : (om t a p).2=0↔bH t a p:=by
 constructor
 ·intro h;unfold om at h;split at h
  ·rename_i c;exact absurd h c
  rename_i c;unfold ym at h;split at h
  ·rename_i d;exact absurd h d
  rename_i d;split at h
  ·cases h
  rename_i f;obtain⟨k,l⟩:=uD.1 (Decidable.of_not_not d);split at h
  ·cases h
  rename_i s b;split at h
  ·cases h
  rename_i g;unfold Cp at b;split at b;rotate_left
  ·cases b
  rename_i e;split at b;rotate_left
  ·cases b
  rename_i i;split at b
  ·cases b
  rename_i j;cases b;exact⟨eC.1 (Decidable.of_not_not c),k,l,Decidable.of_not_not f,e.1,e.2,i,Bool.eq_false_iff.2 j,eC.1 (Decidable.of_not_not g)⟩
 ·intro h;rw[pn h]
theorem GR{α:Type}{q:α->α->Bool}(d:∀a b,q a b=true↔a=b){l r:List α}(h:kA q l r=true):∀x∈r,x∈l:=λx f=>by obtain⟨m,c,e⟩:=List.any_eq_true.1 (List.all_eq_true.1 h x f);rw[<- (d _ _).1 e];exact c
theorem Ls:∀ (r:List aQ) (l:List ah),(eW l r).2=true->∀v∈r,∃n∈l,n.id=v.id/\0<=v.attr/\v.attr<n.values.length
 | [],l,_,v,hv=>by cases hv
 |w :: r,l,h,v,hv=>by
  rw[eW] at h;split at h;rotate_left
  ·cases h
  rename_i g;rcases List.mem_cons.1 hv with e|hv
  ·subst e;obtain⟨n,b,a⟩:=List.any_eq_true.1 g;unfold jB gw at a;simp only[Bool.and_eq_true,Bool.not_eq_true',decide_eq_true_eq,decide_eq_false_iff_not] at a;exact⟨n,b,a.1,by omega,by omega⟩
  ·obtain⟨n,b,c,f,d⟩:=Ls r _ h v hv;obtain⟨m,i,rfl⟩:=List.mem_map.1 b;rw[pg] at c;rw[Cn] at d;exact⟨m,i,c,f,d⟩
section
variable{t:Types}{a:ay}{p q:aH}
theorem bH.sY(h:bH t a p){n:ah}(b:n∈p.ax):n∈bA a:=GR (q:=dV) (λ_ _=>kz) h.rn n b
theorem bH.DG(h:bH t a p){n:au}(b:n∈p.aA):n∈cC a:=GR (q:=qK) (λ_ _=>yf) h.re n b
theorem vu{n:ah}(b:n∈bA a):n.id∈a.nodes:=by rw[<-Ld];exact List.mem_map_of_mem b
theorem Cr{n:au}(b:n∈cC a):n.id∈a.ak:=by rw[<-Le];exact List.mem_map_of_mem b
theorem bH.value(h:bH t a p){v:aQ}(j:v∈p.values):∃n∈bA a,n.id=v.id/\0<=v.attr/\v.attr<n.values.length/\n ∉ p.ax:=by obtain⟨n,g,c,d,e⟩:=Ls p.values _ h.va v j;obtain⟨i,b⟩:=List.mem_filter.1 g;refine⟨n,i,c,d,e,λf=>?_⟩;have:(p.ax.any λm=>dV n m)=true:=List.any_eq_true.2 ⟨n,f,kz.2 rfl⟩;rw[this] at b;cases b
theorem bH.n1(h:bH t a p):0<=p.next.x1/\p.next.x1<=1000000:=h.ok.next
theorem bH.n0(h:bH t a p):0<=p.next.x0/\p.next.x0<=1000000:=by rw[h.next];exact h.tk.next
theorem bH.ids(h:bH t a p):(∀n∈p.aP,0<=n.id/\n.id<p.next.x1)/\∀e∈p.aM,0<=e.id/\e.id<p.next.x1:=⟨λn b=>h.ok.ze.1 _ (List.mem_map_of_mem (oa.2 (List.mem_append_right _ b))),λn b=>h.ok.r9.1 _ (List.mem_map_of_mem (uQ.2 (List.mem_append_right _ b)))⟩
end
def tY(p:aH):Bool:=decide (p.next.x0<=p.next.x1)&&(!(p.aP.any λn=>decide (n.id<p.next.x0)) && !(p.aM.any λn=>decide (n.id<p.next.x0)))
theorem Lt{p:aH}(a:jJ p):n9 p=some (tY p):=by
 unfold n9 tY;rw[bh];by_cases h:p.next.x0<=p.next.x1
 ·rw[if_pos h,aT (mo (p:=λx=>nU x p) (λn=>decide (n.id<p.next.x0)) a.an λn _=>rfl),dr h,Bool.true_and];cases p.aP.any λn=>decide (n.id<p.next.x0) with
  |true=>rfl
  |false=>rw[cond_false,aT (rW (p:=λx=>nV x p) (λn=>decide (n.id<p.next.x0)) a.ae λn _=>rfl)];rfl
 ·rw[if_neg h,gA h];rfl
theorem Lu{p:aH}(b:jJ p):gK p=some (tY p):=by
 have d:=b.an;have e:=b.ae;unfold gK tY;rw[bC (bl (by omega)),pe p.aP (λn=>!decide (n.id<p.next.x0)) (λ_=>some false) (λi a c=>by rw[b8 a,jg]),qb,List.all_eq_not_any_not];simp only[Bool.not_not];cases p.aP.any λn=>decide (n.id<p.next.x0) with
 |true=>simp
 |false=>simp only[Bool.not_false,if_true,Bool.true_and];rw[bC (bl (by omega)),pe p.aM (λn=>!decide (n.id<p.next.x0)) (λ_=>some false) (λi a c=>by rw[b8 a,jg]),qb,List.all_eq_not_any_not];simp only[Bool.not_not];cases p.aM.any λn=>decide (n.id<p.next.x0)<;>simp
structure AB(p:aH):Prop where
 next:p.next.x0<=p.next.x1
 n:∀n∈p.aP,p.next.x0<=n.id
 e:∀n∈p.aM,p.next.x0<=n.id
theorem yo{p:aH} : tY p=true↔AB p:=by unfold tY;simp only[Bool.and_eq_true,Bool.not_eq_true',List.any_eq_false,decide_eq_true_eq,Int.not_lt];exact⟨λh=>⟨h.1,h.2.1,h.2.2⟩,λh=>⟨h.next,h.n,h.e⟩⟩
def oP(t:Types)(a:ay)(p q:aH):Int :=
 if (om t a p).2≠0 then (om t a p).2 else if (om t a q).2≠0 then (om t a q).2
 else if tY p=true then if tY q=true then if 1000000<p.next.x1+q.next.x1-q.next.x0 then 6 else 0 else 8 else 8
theorem GS{σ O:Type}{f:Nat->σ->(σ->Option O)->(σ->Option O)->Option O}{K:σ->Option O}{s:σ} : cq f (2-0) 0 s K=f 0 s (λa=>f 1 a K K) K:=rfl
section
variable{t:Types}{a:ay}{p q:aH}
theorem Lv{p q:aH}(c:bH t a p)(b:bH t a q):i64.wrap (i64.wrap (p.next.x1+q.next.x1)-q.next.x0)=p.next.x1+q.next.x1-q.next.x0:=by have d:=c.n1;have e:=b.n1;have f:=b.n0;rw[dy (n:=p.next.x1+q.next.x1) (by omega),dy (by omega)]
theorem azL(g:fK t)(d:lX a)(e:jJ p)(f:jJ q):gL t a p q=some (oP t a p q):=by
 unfold gL oP;rw[aT (show bX ⟨t.nodes,t.ak⟩ ⟨a.host,a.nodes,a.ak,a.next⟩ p=_ from xx g d e),bh];by_cases b:(om t a p).2=0;rotate_left
 ·rw[if_neg b,if_pos b]
 rw[if_pos b,if_neg (λh=>h b),aT (show bX ⟨t.nodes,t.ak⟩ ⟨a.host,a.nodes,a.ak,a.next⟩ q=_ from xx g d f),bh];by_cases c:(om t a q).2=0;rotate_left
 ·rw[if_neg c,if_pos c]
 rw[if_pos c,if_neg (λh=>h c),aT (Lu e),aT (Lu f),Lv (oc.1 b) (oc.1 c),bh];cases tY p with
 |false=>simp
 |true =>
  cases tY q with
  |false=>simp
  |true=>simp only[cond_true,if_true];split<;>rfl
theorem Lw(g:fK t)(d:lX a)(e:jJ p)(f:jJ q):lW t a p q=some (oP t a p q):=by
 unfold lW oP;rw[mX,bC (bl (by omega)),GS];rw[show ([p,q][0]?)=some p from rfl,mX];rw[aT (show fz ⟨t.nodes,t.ak⟩ ⟨a.host,a.nodes,a.ak,a.next⟩ p=_ from Cq g d e),bh];by_cases b:(om t a p).2=0;rotate_left
 ·rw[if_neg b,if_pos b]
 rw[if_pos b,if_neg (λh=>h b),show ([p,q][1]?)=some q from rfl,mX];rw[aT (show fz ⟨t.nodes,t.ak⟩ ⟨a.host,a.nodes,a.ak,a.next⟩ q=_ from Cq g d f),bh];by_cases c:(om t a q).2=0;rotate_left
 ·rw[if_neg c,if_pos c]
 rw[if_pos c,if_neg (λh=>h c),aT (Lt e),aT (Lt f),Lv (oc.1 b) (oc.1 c),bh];cases tY p with
 |false=>simp
 |true =>
  cases tY q with
  |false=>simp
  |true=>simp only[cond_true,if_true];split<;>rfl
structure j0(t:Types)(a:ay)(p q:aH):Prop where
 ap:bH t a p
 aq:bH t a q
 gp:AB p
 gq:AB q
 next:p.next.x1+q.next.x1-q.next.x0<=1000000
theorem kL:oP t a p q=0↔j0 t a p q:=by
 unfold oP;constructor
 ·intro h;split at h
  ·rename_i c;exact absurd h c
  rename_i c;split at h
  ·rename_i b;exact absurd h b
  rename_i b;split at h;rotate_left
  ·cases h
  rename_i d;split at h;rotate_left
  ·cases h
  rename_i e;split at h
  ·cases h
  exact⟨oc.1 (Decidable.of_not_not c),oc.1 (Decidable.of_not_not b),yo.1 d,yo.1 e,by omega⟩
 ·intro h;rw[if_neg (λb=>b (oc.2 h.ap)),if_neg (λb=>b (oc.2 h.aq)),if_pos (yo.2 h.gp),if_pos (yo.2 h.gq),if_neg (by have:=h.next;omega)]
end
def l7(a b:aG):Prop:=a.id<b.id\/a.id=b.id/\a.attr<b.attr
theorem Lx(a:aG):¬ l7 a a:=by unfold l7;omega
theorem Lz(a b c:aG)(d:l7 a b)(e:l7 b c):l7 a c:=by unfold l7 at *;omega
theorem LA{K:Int}{l:List aG}(p:∀x∈l,x.kind=K)(q:l.Pairwise λa b=>gN a b=true):∀j,j<=l.length->(kept l j).Pairwise l7/\(∀x,x∈kept l j↔x∈l.take j)/\∀x∈kept l j,∀i,(c:i<l.length)->j<=i+1->x=l[i]\/l7 x l[i]
 |0,_=>⟨List.Pairwise.nil,λx=>by simp[kept],λx hx=>by cases hx⟩
 |j+1,E=>by
  obtain⟨r,s,k⟩:=LA p q j (by omega);have n:l.getD j default=l[j]:=by simp[show j<l.length by omega]
  have B:∀x∈l,∀i,(c:i<l.length)->gN x l[i]=true->x=l[i]\/l7 x l[i]:=λx hx i c h=>by
   have G:=p x hx;have H:=p _ (l8 c);unfold gN at h;have h:=b6 h;by_cases g:x.id=l[i].id/\x.attr=l[i].attr
   ·left;generalize l[i]=y at *;cases x;cases y;simp only[aG.mk.injEq] at *;exact⟨by omega,g.1,g.2⟩
   ·right;unfold l7;omega
  have v:∀i,(c:i<l.length)->j<=i->l[j]=l[i]\/l7 l[j] l[i]:=λi c f=>by
   rcases Nat.lt_or_eq_of_le f with h|h
   ·exact B _ (l8 _) i c (List.pairwise_iff_getElem.1 q j i (by omega) c h)
   ·subst h;exact .inl rfl
  have trans:∀x,(x=l[j]\/l7 x l[j])->∀i,(c:i<l.length)->j<=i->x=l[i]\/l7 x l[i]:=λx hx i c f=>by
   rcases hx with rfl|hx
   ·exact v i c f
   ·rcases v i c f with h|h
    ·rw[<-h];exact .inr hx
    ·exact .inr (Lz _ _ _ hx h)
  rw[kept,n];have u:l.take (j+1)=l.take j++[l[j]]:=by rw[List.take_add_one,List.getElem?_eq_getElem (by omega),Option.toList_some]
  by_cases d:fresh l j=true
  ·rw[if_pos d];have t:∀x∈kept l j,l7 x l[j]:=λx hx=>by
    rcases k x hx j (by omega) (by omega) with h|h
    ·-- x A C D at j: then I A C one ahead of F
     exfalso;unfold fresh at d;rcases Nat.eq_zero_or_pos j with h0|h0
     ·subst h0;simp[kept] at hx
     ·rw[gA (by omega),Bool.false_or,n] at d;have o:l.getD (j-1) default=l[j-1]:=by simp[show j-1<l.length by omega]
      rw[o] at d;have w:l[j]≠l[j-1]:=λe=>by rw[(KA _ _).2 e] at d;cases d
      rcases k x hx (j-1) (by omega) (by omega) with h4|h4
      ·exact w (by rw[<-h,<-h4])
      ·rw[h] at h4;have m:=List.pairwise_iff_getElem.1 q (j-1) j (by omega) (by omega) (by omega);unfold gN at m;have m:=b6 m;unfold l7 at h4;omega
    ·exact h
   refine⟨List.pairwise_append.2 ⟨r,List.pairwise_singleton _ _,λx hx y z=>?_⟩,λx=>?_,λx hx i c f=>?_⟩
   ·rw[List.mem_singleton.1 z];exact t x hx
   ·rw[u,List.mem_append,List.mem_append,s]
   ·rcases List.mem_append.1 hx with hx|hx
    ·exact trans x (.inr (t x hx)) i c (by omega)
    ·exact trans x (.inl (List.mem_singleton.1 hx)) i c (by omega)
  ·rw[if_neg d];unfold fresh at d;have h0:0<j:=by
    rcases Nat.eq_zero_or_pos j with h0|h0
    ·subst h0;simp at d
    ·exact h0
   rw[gA (by omega),Bool.false_or,n] at d;have o:l.getD (j-1) default=l[j-1]:=by simp[show j-1<l.length by omega]
   rw[o] at d;have g:l[j]=l[j-1]:=(KA _ _).1 (by simpa using d);refine⟨r,λx=>?_,λx hx i c f=>trans x (k x hx j (by omega) (by omega)) i c (by omega)⟩;rw[s,u,List.mem_append,List.mem_singleton];constructor
   ·exact .inl
   ·rintro (h|h)
    ·exact h
    ·rw[h,g];have:l[j-1]=(l.take j)[j-1]'(by simp;omega):=by simp
     rw[this];exact l8 _
theorem jT{K:Int}{l:List aG}(g:∀x∈l,x.kind=K):(gT l).Pairwise l7/\∀x,x∈gT l↔x∈l:=by
 unfold gT;have f:=List.mergeSort_perm l gN;have h:(l.mergeSort gN).Pairwise λa b=>gN a b=true:=List.pairwise_mergeSort (λa b c d e=>by unfold gN at *;simp at *;omega) (λa b=>by unfold gN;simp;omega) l
 obtain⟨d,e,_⟩:=LA (l:=l.mergeSort gN) (λx i=>g x (f.mem_iff.1 i)) h l.length (by rw[List.length_mergeSort];exact Nat.le_refl _);refine⟨d,λx=>?_⟩;rw[e,List.take_of_length_le (by rw[List.length_mergeSort];exact Nat.le_refl _)];exact f.mem_iff
theorem vv{K:Int}{l m:List aG}(c:∀x∈l,x.kind=K)(d:m.Pairwise l7)(h:∀x,x∈l↔x∈m):gT l=m:=by obtain⟨a,b⟩:=jT c;exact Gy Lx Lz a d λx=>(b x).trans (h x)
def cF(p:aH)(id:Int):Bool:=p.ax.any λn=>decide (n.id=id)
def ug(p:aH)(id:Int):Bool:=p.aM.any λe=>decide (e.src=id)||decide (e.dst=id)
def qw(p:aH)(id attr:Int):Option aQ:=p.values.find? λv=>decide (v.id=id)&&decide (v.attr=attr)
def DH(p:aH)(id:Int):Bool:=p.aA.any λn=>decide (n.id=id)
section
variable{p q:aH}
theorem DI(a:p.ax.length<=1000000)(id:Int):jA p id=some (cF p id):=by unfold jA;rw[aT (mo (p:=λx=>lR x id) (λn=>decide (n.id=id)) a λn _=>rfl)];rfl
theorem DJ{α:Type}{l:List α}{b:α->Bool}{f:Nat->Unit->(Unit->Option Bool)->(Unit->Option Bool)->Option Bool}{K:Unit->Option Bool}(h:∀i (d:i<l.length) c,f i () c K=cond (b l[i]) (some true) (c ()))(e:K ()=some false):cq f (l.length-0) 0 () K=some (l.any b):=by rw[pe l (λa=>!b a) (λ_=>some true) (λi d c=>by rw[h i d c,jg]),qb,List.all_eq_not_any_not,e];simp only[Bool.not_not];cases l.any b<;>simp
theorem vw(c:p.ax.length<=1000000)(id:Int):bD p id=some (cF p id):=by unfold bD;rw[bC (bl (by omega))];exact DJ (λi a b=>by rw[b8 a]) rfl
theorem aD8(c:p.aA.length<=1000000)(id:Int):jv p id=some (DH p id):=by unfold jv;rw[bC (bl (by omega))];exact DJ (λi a b=>by rw[b8 a]) rfl
theorem LB(c:p.aM.length<=1000000)(id:Int):fW p id=some (ug p id):=by unfold fW;rw[bC (bl (by omega))];refine DJ (λi a b=>?_) rfl;rw[b8 a];cases decide (p.aM[i].src=id)<;>rfl
theorem DK(c:p.values.length<=1000000)(id attr:Int):cm p id attr=some (match qw p id attr with|some v=>(v,true)|none=>(⟨0,0,0,0⟩,false)):=by
 unfold cm qw;rw[bC (bl (by omega)),pe p.values (λv=>!(decide (v.id=id)&&decide (v.attr=attr))) (λv=>some (v,true)) (λi a b=>by
  rw[b8 a,jg];cases decide (p.values[i].id=id)<;>rfl)]
 simp only[Bool.not_not];unfold tf;cases p.values.find? λv=>decide (v.id=id)&&decide (v.attr=attr)<;>rfl
theorem LC{id attr:Int}{v:aQ}(h:qw p id attr=some v):v∈p.values/\v.id=id/\v.attr=attr:=by have b:=List.mem_of_find?_eq_some h;have a:=List.find?_some h;simp only[Bool.and_eq_true,decide_eq_true_eq] at a;exact⟨b,a⟩
theorem od{id attr:Int} : (qw p id attr).isSome=true↔∃v∈p.values,v.id=id/\v.attr=attr:=by unfold qw;rw[List.find?_isSome];simp only[Bool.and_eq_true,decide_eq_true_eq]
theorem aCp{l:List aQ}(h:l.Pairwise fF){v w:aQ}(d:v∈l)(hw:w∈l)(a:v.id=w.id)(b:v.attr=w.attr):v=w:=by
 induction l with
 |nil=>cases d
 |cons c r e =>
  rw[List.pairwise_cons] at h;rcases List.mem_cons.1 d with e1|e1<;>rcases List.mem_cons.1 hw with e2|e2
  ·rw[e1,e2]
  ·have:=h.1 w e2;unfold fF at this;rw[e1] at a b;omega
  ·have:=h.1 v e1;unfold fF at this;rw[e2] at a b;omega
  ·exact e h.2 e1 e2
theorem avg(e:p.values.Pairwise fF){v:aQ}(a:v∈p.values):qw p v.id v.attr=some v:=by
 cases h:qw p v.id v.attr with
 |none =>
  have:=od (p:=p) (id:=v.id) (attr:=v.attr) |>.2 ⟨v,a,rfl,rfl⟩
  rw[h] at this;cases this
 |some w=>obtain⟨b,c,d⟩:=LC h;rw[aCp e b a c d]
end
def A1(x:aH)(e:au):List aG:=([e.src,e.dst].filter (cF x)).map λid=>⟨1,id,-1⟩
def rI(x y:aH):List aG:=y.aM.flatMap (A1 x)
def rJ(x y:aH):List aG:=(y.values.filter λv=>cF x v.id).map λv=>⟨2,v.id,v.attr⟩
def A2(q:aH)(v:aQ):List aG:=(q.values.filter λw=>decide (v.id=w.id)&&(decide (v.attr=w.attr) && !decide (v.new=w.new))).map λ_=>⟨3,v.id,v.attr⟩
def ni(p q:aH):List aG:=p.values.flatMap (A2 q)
def tK(p q:aH):List aG:=gT (rI p q++rI q p)++gT (rJ p q++rJ q p)++gT (ni p q)
theorem uR{α β:Type}(g:α->List β):∀ (l:List α) (s:List β),l.foldl (λs a=>s++g a) s=s++l.flatMap g
 | [],s=>by simp
 |a :: l,s=>by rw[List.foldl_cons,uR g l];simp
theorem DL{α β:Type}(g:α->List β)(l:List α)(s:List β)(k:Nat)(h:∀a∈l,(g a).length<=k):(l.foldl (λs a=>s++g a) s).length<=s.length+k * l.length:=by
 induction l generalizing s with
 |nil=>simp
 |cons a l e =>
  rw[List.foldl_cons];have c:=e (s++g a) λb d=>h b (List.mem_cons_of_mem _ d)
  have f:=h a (List.mem_cons_self ..);rw[List.length_append] at c;rw[List.length_cons,Nat.mul_add];omega
theorem j4{α β O:Type}{f:Nat->List β->(List β->Option O)->(List β->Option O)->Option O}{K:List β->Option O}{s:List β}(l:List α)(g:α->List β)(k:Nat)(e:∀a∈l,(g a).length<=k)
  (h:∀i (d:i<l.length) (b:List β),b.length<=s.length+k * i->∀c,f i b c K=c (b++g l[i])):cq f (l.length-0) 0 s K=K (s++l.flatMap g):=by
 rw[(sN l (λs a=>s++g a) (λi b=>b.length<=s.length+k * i) (by simp) λi d b j=>⟨λc=>h i d b j c,by
  have:=e _ (l8 d);rw[List.length_append,Nat.mul_add];omega⟩).1,uR]
section
variable{p q:aH}
theorem LD(x:aH)(e:au):(A1 x e).length<=2:=by unfold A1;rw[List.length_map];exact List.length_filter_le _ _
theorem LF(q:aH)(a:Small q)(v:aQ):(A2 q v).length<=500:=by unfold A2;rw[List.length_map];exact Nat.le_trans (List.length_filter_le _ _) a.va
theorem DM(b:Small q):(rI p q).length<=1000:=by
 have:=DL (A1 p) q.aM [] 2 λa _=>LD p a
 rw[uR] at this;have c:=b.ae;simp only[List.nil_append,List.length_nil] at this;unfold rI;omega
theorem DN(a:Small q):(rJ p q).length<=500:=by unfold rJ;rw[List.length_map];exact Nat.le_trans (List.length_filter_le _ _) a.va
theorem LG(b:Small p)(c:Small q):(ni p q).length<=250000:=by
 have:=DL (A2 q) p.values [] 500 λa _=>LF q c a
 rw[uR] at this;have d:=b.va;simp only[List.nil_append,List.length_nil] at this;unfold ni;omega
end
theorem aed{n:Int}(h:0<=n/\n<=1000000):mP ([]:List aG) n=some []:=uc ⟨rfl,by omega⟩
theorem avh(x y z:List aG)(h:x.length<=300000/\y.length<=300000/\z.length<=300000):iF [x,y,z]=some (x++y++z):=by unfold iF;rw[bC (bl (by simp))];show cq _ 3 0 0 _=_;simp only[cq,List.getElem?_cons_zero,List.getElem?_cons_succ,mX];rw[dy (n:=0+((x.length:Nat):Int)) (by omega),gA (by omega),cond_false];rw[dy (n:=0+((x.length:Nat):Int)+((y.length:Nat):Int)) (by omega),gA (by omega),cond_false];rw[dy (n:=0+((x.length:Nat):Int)+((y.length:Nat):Int)+((z.length:Nat):Int)) (by omega),gA (by omega),cond_false];rw[aT (aed (by omega)),bC (bl (by simp))];show cq _ 3 0 [] _=_;simp only[cq,List.getElem?_cons_zero,List.getElem?_cons_succ,mX];rw[bC (by simp;omega),bC (by simp;omega),bC (by simp;omega)];simp
theorem oe{β O:Type}{f:Nat->List β->(List β->Option O)->(List β->Option O)->Option O}{K:List β->Option O}{s:List β}(n:Nat)(g:Nat->List β)(k:Nat)(d:∀i,i<n->(g i).length<=k)
  (h:∀i (c:i<n) (a:List β),a.length<=s.length+k * i->∀b,f i a b K=b (a++g i)):cq f (n-0) 0 s K=K (s++(List.range n).flatMap g):=by
 have:=j4 (f:=f) (K:=K) (s:=s) (List.range n) g k (λi c=>d i (List.mem_range.1 c)) λi c a e b=>by rw[List.getElem_range];exact h i (by simpa using c) a e b
 rwa [List.length_range] at this
theorem LH{σ O:Type}{f:Nat->σ->(σ->Option O)->(σ->Option O)->Option O}{K:σ->Option O}{s r1 r2:σ}(b:∀a,f 0 s a K=a r1)(c:∀a,f 1 r1 a K=a r2):cq f (2-0) 0 s K=K r2:=by rw[GS,b,c]
section
variable{t:Types}{a:ay}{p q:aH}
theorem l6{α β:Type}(b:α->Bool)(f:α->β)(l:List α):(l.flatMap λa=>if b a=true then [f a] else [])=(l.filter b).map f:=by
 induction l with
 |nil=>rfl
 |cons x l c=>rw[List.flatMap_cons,c,List.filter_cons];split<;>simp
theorem lS{id:Int} : cF p id=true↔∃n∈p.ax,n.id=id:=by unfold cF;rw[List.any_eq_true];simp only[decide_eq_true_eq]
theorem avi{id:Int} : ug p id=true↔∃e∈p.aM,e.src=id\/e.dst=id:=by unfold ug;rw[List.any_eq_true];simp only[Bool.or_eq_true,decide_eq_true_eq]
theorem qd{x:aG} : x∈rI p q↔∃id,cF p id=true/\ug q id=true/\x=⟨1,id,-1⟩:=by
 unfold rI A1;simp only[List.mem_flatMap,List.mem_map,List.mem_filter,avi];constructor
 ·rintro⟨e,a,id,⟨h1,h2⟩,rfl⟩;refine⟨id,h2,⟨e,a,?_⟩,rfl⟩;simp at h1;rcases h1 with h1|h1
  ·exact .inl h1.symm
  ·exact .inr h1.symm
 ·rintro⟨id,h1,⟨e,a,h2⟩,rfl⟩;refine⟨e,a,id,⟨?_,h1⟩,rfl⟩;rcases h2 with h2|h2<;>simp[h2]
theorem qf{x:aG} : x∈rJ p q↔∃v∈q.values,cF p v.id=true/\x=⟨2,v.id,v.attr⟩:=by
 unfold rJ;simp only[List.mem_map,List.mem_filter];constructor
 ·rintro⟨v,⟨a,b⟩,rfl⟩;exact⟨v,a,b,rfl⟩
 ·rintro⟨v,a,b,rfl⟩;exact⟨v,⟨a,b⟩,rfl⟩
theorem rK{x:aG} : x∈ni p q↔∃v∈p.values,∃w∈q.values,v.id=w.id/\v.attr=w.attr/\v.new≠w.new/\x=⟨3,v.id,v.attr⟩:=by
 unfold ni A2;simp only[List.mem_flatMap,List.mem_map,List.mem_filter,Bool.and_eq_true,decide_eq_true_eq,Bool.not_eq_true',decide_eq_false_iff_not];constructor
 ·rintro⟨v,e,w,⟨a,b,c,d⟩,rfl⟩;exact⟨v,e,w,a,b,c,d,rfl⟩
 ·rintro⟨v,e,w,a,b,c,d,rfl⟩;exact⟨v,e,w,⟨a,b,c,d⟩,rfl⟩
theorem bH.DO(h:bH t a p){id:Int}(c:cF p id=true):id∈a.nodes:=by obtain⟨n,b,rfl⟩:=lS.1 c;exact vu (h.sY b)
theorem eX.small(h:eX t a){id:Int}(b:id∈a.nodes):0<=id/\id<=1000000:=by
 have c:=h.ze.1 id b;have d:=h.next
 omega
theorem bH.GU(h:bH t a p)(f:qW a.host){v:aQ}(g:v∈p.values):(0<=v.id/\v.id<=1000000)/\0<=v.attr/\v.attr<=1000000:=by obtain⟨n,c,d,e,i,_⟩:=h.value g;have j:=jC h.tk f n c;have b:=h.tk.small (vu c);rw[d] at b;exact⟨b,e,by omega⟩
theorem vz(c:bH t a p)(f:bH t a q)(A:qW a.host):jL p q=some (tK p q):=by
  have V:=c.small.rn;have W:=c.small.ae;have X:=c.small.va;have Y:=f.small.rn;have Z:=f.small.ae;have q3:=f.small.va
  have round : ∀ (x y : aH) (u v : List aG) (b : List aG × List aG → Option (List aG)), x.ax.length ≤ 500 → y.aM.length ≤ 500 → y.values.length ≤ 500 → u.length ≤ 1000000 → v.length ≤ 1000000 →
      (cL (y.aM.length<=fuel) <|
      cq (λO (s:(List aG)) I af =>
       thn (y.aM[O]?) λE =>
       thn (some [E.src,E.dst]) λJ =>
       cL (2<=fuel) <|
       cq (λK (g:(List aG)) G ab =>
        thn (J[K]?) λF =>
        thn (jA x F) λL =>
        cond L (
         cL (g.length+1<=68719476736) <|
         G (g++[(⟨1,F,(-1)⟩:aG)])) <|
        G g)
       (2-0) 0 s λg =>
       I g)
      (y.aM.length-0) 0 u λs =>
      cL (y.values.length<=fuel) <|
      cq (λM (k:(List aG)) H ad =>
       thn (y.values[M]?) λz =>
       thn (jA x z.id) λN =>
       cond N (
        cL (k.length+1<=68719476736) <|
        H (k++[(⟨2,z.id,z.attr⟩:aG)])) <|
       H k)
      (y.values.length-0) 0 v λk =>
      b (s,k))=b (u++rI x y,v++rJ x y):=by
    intro x y u v b d h2 h3 h4 h5;rw[bC (bl (by omega))];rw[j4 y.aM (A1 x) 2 (λe _=>LD x e) ?_]
    · rw[bC (bl (by omega))];rw[j4 y.values (λv=>if cF x v.id=true then [(⟨2,v.id,v.attr⟩:aG)] else []) 1 (λv _=>by split<;>simp) ?_,l6]
      · rfl
      · intro i n D B b;rw[b8 n,aT (DI (by omega) _)];cases cF x y.values[i].id with
        |true=>rw[cond_true,bC (by omega),if_pos rfl]
        |false=>rw[cond_false,if_neg (by simp),List.append_nil]
    · intro i n D B b;rw[b8 n,mX,bC (bl (by omega)),GS];unfold A1;simp only[List.getElem?_cons_zero,List.getElem?_cons_succ,mX];rw[aT (DI (by omega) _)];cases r:cF x y.aM[i].src with
      |true =>
        rw[cond_true,bC (by omega),aT (DI (by omega) _)];cases m:cF x y.aM[i].dst with
        |true=>rw[cond_true,bC (by simp;omega)];simp[r,m]
        |false=>rw[cond_false];simp[r,m]
      |false =>
        rw[cond_false,aT (DI (by omega) _)];cases m:cF x y.aM[i].dst with
        |true=>rw[cond_true,bC (by omega)];simp[r,m]
        |false=>rw[cond_false];simp[r,m]
  have u1:=DM (p:=p) f.small;have u2:=DM (p:=q) c.small;have c1:=DN (p:=p) f.small;have c2:=DN (p:=q) c.small;have v1:=LG c.small f.small;unfold jL tK;rw[mX,bC (bl (by omega)),LH (r1:=(rI p q,rJ p q)) (r2:=(rI p q++rI q p,rJ p q++rJ q p)) (λb=>round p q [] [] b V Z q3 (by simp) (by simp)) (λb=>round q p (rI p q) (rJ p q) b Y W X (by omega) (by omega))];rw[bC (bl (by omega))];rw[j4 p.values (A2 q) 500 (λv _=>LF q f.small v) ?_]
  · simp only[List.nil_append];have S:∀x∈rI p q++rI q p,x.kind=1/\oL x:=λx o=>by
      rcases List.mem_append.1 o with h|h
      · obtain⟨id,d,_,rfl⟩:=qd.1 h;have:=c.tk.small (c.DO d);exact⟨rfl,by unfold oL;simp only;omega⟩
      · obtain⟨id,d,_,rfl⟩:=qd.1 h;have:=c.tk.small (f.DO d);exact⟨rfl,by unfold oL;simp only;omega⟩
    have T:∀x∈rJ p q++rJ q p,x.kind=2/\oL x:=λx o=>by
      rcases List.mem_append.1 o with h|h
      · obtain⟨v,d,_,rfl⟩:=qf.1 h;have:=f.GU A d;exact⟨rfl,by unfold oL;simp only;omega⟩
      · obtain⟨v,d,_,rfl⟩:=qf.1 h;have:=c.GU A d;exact⟨rfl,by unfold oL;simp only;omega⟩
    have U:∀x∈ni p q,x.kind=3/\oL x:=λx o=>by obtain⟨v,d,_,_,_,_,_,rfl⟩:=rK.1 o;have:=c.GU A d;exact⟨rfl,by unfold oL;simp only;omega⟩
    have C:∀l:List aG,(gT l).length<=l.length:=λl=>by unfold gT;exact Gl _ _
    have Q:=C (rI p q++rI q p);have R:=C (rJ p q++rJ q p);have k3:=C (ni p q);rw[List.length_append] at Q R;rw[aT (show fu (rI p q++rI q p)=_ from rj ⟨by rw[List.length_append];omega,1,S⟩),aT (show fu (rJ p q++rJ q p)=_ from rj ⟨by rw[List.length_append];omega,2,T⟩)];rw[aT (show fu (p.values.flatMap (A2 q))=_ from rj ⟨by show (ni p q).length<=_;omega,3,U⟩)];rw[aT (avh _ _ _ ⟨by omega,by omega,by show (gT (ni p q)).length<=_;omega⟩)];rfl
  · intro i n D B b;have ap:D.length<=250000:=by simp at B;omega
    rw[b8 n,bC (bl (by omega))];generalize p.values[i]=v;rw[j4 q.values (λw=>if (decide (v.id=w.id)&&(decide (v.attr=w.attr) && !decide (v.new=w.new)))=true then [(⟨3,v.id,v.attr⟩:aG)] else []) 1 (λw _=>by split<;>simp) ?_,l6]
    · rfl
    · intro j P s2 aq b;rw[b8 P];generalize q.values[j]=w;cases decide (v.id=w.id) with
      |false=>rw[cond_false,if_neg (by simp),List.append_nil]
      |true =>
        rw[cond_true];cases decide (v.attr=w.attr) with
        |false=>rw[cond_false,if_neg (by simp),List.append_nil]
        |true =>
          rw[cond_true];cases decide (v.new=w.new) with
          |true=>rw[cond_true,if_neg (by simp),List.append_nil]
          |false=>rw[cond_false,bC (by omega),if_pos (by rfl)]
end
def Ah(p q:aH)(id:Int):Bool:=(cF p id&&ug q id)||(cF q id&&ug p id)
def A3(p q:aH)(id k:Int):Bool:=(cF p id&&(qw q id k).isSome)||(cF q id&&(qw p id k).isSome)
def r7(a:ay)(p q:aH)(i:Nat):List aG:=((List.range (a.host.values.getD i default).length).filter λk:Nat=>A3 p q (a.nodes.getD i default) (k:Int)).map λk:Nat=>⟨2,a.nodes.getD i default,(k:Int)⟩
def By(q:aH)(v:aQ):Bool:=match qw q v.id v.attr with
 |some w=>!decide (w.new=v.new)
 |none=>false
def ji(a:ay)(p q:aH):List aG:=(a.nodes.filter (Ah p q)).map (λid=>⟨1,id,-1⟩)++(List.range a.nodes.length).flatMap (r7 a p q)++(p.values.filter (By q)).map λv=>⟨3,v.id,v.attr⟩
section
variable{t:Types}{a:ay}{p q:aH}
theorem ahA(j:eX t a)(A:qW a.host)(e:jJ p)(f:jJ q):eS a p q=some (ji a p q):=by
  have l:=j.n40;have S:a.host.values.length=a.nodes.length:=by rw[j.host.sn,j.qJ]
  unfold eS ji;rw[bC (bl (by omega))];rw[j4 a.nodes (λid=>if Ah p q id=true then [(⟨1,id,-1⟩:aG)] else []) 1 (λv _=>by split<;>simp) ?_,l6];rotate_left
  · intro i c s o g;simp only[List.length_nil] at o;simp only[b8 c,vw e.rn,LB f.ae,vw f.rn,LB e.ae,mX,bC (show s.length+1<=68719476736 by omega)];unfold Ah;cases cF p a.nodes[i]<;>cases ug q a.nodes[i]<;>cases cF q a.nodes[i]<;>cases ug p a.nodes[i]<;>simp
  have J:((a.nodes.filter (Ah p q)).map λid=>(⟨1,id,-1⟩:aG)).length<=40:=by rw[List.length_map];exact Nat.le_trans (List.length_filter_le _ _) l
  rw[List.nil_append,bC (bl (by omega))];generalize (a.nodes.filter (Ah p q)).map (λid=>(⟨1,id,-1⟩:aG))=u at J ⊢;have y:∀i∈List.range a.nodes.length,(r7 a p q i).length<=1000:=λi c=>by have c:=List.mem_range.1 c;unfold r7;rw[List.length_map];refine Nat.le_trans (List.length_filter_le _ _) ?_;rw[List.length_range];refine A.row _ ?_;simp[show i<a.host.values.length by omega]
  rw[oe a.nodes.length (r7 a p q) 1000 (λi c=>y i (List.mem_range.2 c)) ?_]
  · rw[bC (bl (by have:=e.va;omega))];have K:(u++(List.range a.nodes.length).flatMap (r7 a p q)).length<=1000000:=by have:=DL (r7 a p q) (List.range a.nodes.length) u 1000 y;rw[uR,List.length_range] at this;omega
    generalize u++(List.range a.nodes.length).flatMap (r7 a p q)=w at K ⊢;rw[j4 p.values (λv=>if By q v=true then [(⟨3,v.id,v.attr⟩:aG)] else []) 1 (λv _=>by split<;>simp) ?_,l6];intro i c s o g;have:=e.va;rw[b8 c,aT (show cm ⟨q.ax,q.aA,q.aP,q.aM,q.values,q.next⟩ _ _=_ from DK f.va _ _),bC (by omega)];unfold By;cases qw q p.values[i].id p.values[i].attr with
    |none=>simp
    |some w=>simp only[cond_true];by_cases hw:w.new=p.values[i].new<;>simp[hw]
  · intro i c s o g;have B:i<a.nodes.length:=c;have h:i<a.host.values.length:=by omega
    have M:a.nodes.getD i default=a.nodes[i]:=by simp[B]
    have N:a.host.values.getD i default=a.host.values[i]:=by simp[h]
    have Q:=A.row _ (l8 h);have R:s.length<=100000:=by have:1000 * i<=1000 * 40:=Nat.mul_le_mul_left _ (by omega);omega
    rw[b8 B];unfold r7;rw[M,N];generalize a.nodes[i]=id at *;generalize C:a.host.values[i]=vals at *;have inner:∀ (m k n:Nat) (z:List aG),k+m=vals.length->m+1<=n->z.length<=100000+k->iter (λ(b:Int×(List aG)) d L =>
   thn (a.host.values[i]?) λE =>
   cond (decide (b.1<((E.length:Nat):Int))) (
    thn (cm (⟨p.ax,p.aA,p.aP,p.aM,p.values,p.next⟩:aH) id b.1) λx =>
    thn (cm (⟨q.ax,q.aA,q.aP,q.aM,q.values,q.next⟩:aH) id b.1) λF =>
    thn (bD (⟨p.ax,p.aA,p.aP,p.aM,p.values,p.next⟩:aH) id) λG =>
    cond G (
     cond F.2 (
      cL (b.2.length+1<=68719476736) <|
      d ((i64.wrap (b.1+1)),(b.2++[(⟨2,id,b.1⟩:aG)]))) <|
     thn (bD (⟨q.ax,q.aA,q.aP,q.aM,q.values,q.next⟩:aH) id) λH =>
     cond H (
      cond x.2 (
       cL (b.2.length+1<=68719476736) <|
       d ((i64.wrap (b.1+1)),(b.2++[(⟨2,id,b.1⟩:aG)]))) <|
      d ((i64.wrap (b.1+1)),b.2)) <|
     d ((i64.wrap (b.1+1)),b.2)) <|
    thn (bD (⟨q.ax,q.aA,q.aP,q.aM,q.values,q.next⟩:aH) id) λI =>
    cond I (
     cond x.2 (
      cL (b.2.length+1<=68719476736) <|
      d ((i64.wrap (b.1+1)),(b.2++[(⟨2,id,b.1⟩:aG)]))) <|
     d ((i64.wrap (b.1+1)),b.2)) <|
    d ((i64.wrap (b.1+1)),b.2)) <|
   L (b.1, b.2)) n ((k : Int), z) (fun b => g b.2) = g (z ++ ((List.range' k m).filter fun k : Nat => A3 p q id (k : Int)).map fun k : Nat => ⟨2, id, (k : Int)⟩) := by
      intro m
      induction m with
      |zero=>intro k n z O l P;obtain⟨n,rfl⟩:∃r,n=r+1:=⟨n-1,by omega⟩;rw[iter,b8 h,C,gA (by simp only;omega),cond_false];simp
      |succ m D=>intro k n z O l P;obtain⟨n,rfl⟩:∃r,n=r+1:=⟨n-1,by omega⟩;rw[iter,b8 h,C,dr (by simp only;omega),cond_true];rw[aT (show cm ⟨p.ax,p.aA,p.aP,p.aM,p.values,p.next⟩ _ _=_ from DK e.va _ _),aT (show cm ⟨q.ax,q.aA,q.aP,q.aM,q.values,q.next⟩ _ _=_ from DK f.va _ _)];have r1:bD ⟨p.ax,p.aA,p.aP,p.aM,p.values,p.next⟩ id=_:=vw e.rn id;have r2:bD ⟨q.ax,q.aA,q.aP,q.aM,q.values,q.next⟩ id=_:=vw f.rn id;rw[aT r1,aT r2];dsimp only;rw[bC (show z.length+1<=68719476736 by omega),dy (n:=((k:Nat):Int)+1) (by omega),show ((k:Nat):Int)+1=((k+1:Nat):Int) from rfl];rw[D (k+1) n _ (by omega) (by omega) (by rw[List.length_append,List.length_singleton];omega),D (k+1) n z (by omega) (by omega) (by omega)];rw[List.range'_succ,List.filter_cons];unfold A3;cases cF p id<;>cases cF q id<;>cases qw p id (k:Int)<;>cases qw q id (k:Int)<;>simp
    have:=inner vals.length 0 fuel s (by omega) (by unfold fuel;omega) (by omega);rw[List.range_eq_range'];exact this
theorem sO{n:ah}(h:n∈bA a):∃i,i<a.nodes.length/\n=cD a i:=by obtain⟨i,b,rfl⟩:=List.mem_map.1 h;exact⟨i,by simpa using b,rfl⟩
theorem sP(z:bH t a p)(B:bH t a q):tK p q=ji a p q:=by
 have C:=z.tk;unfold tK ji;have f:gT (rI p q++rI q p)=(a.nodes.filter (Ah p q)).map λid=>⟨1,id,-1⟩:=by
  refine vv (K:=1) (λx o=>?_) ?_ λx=>?_
  ·rcases List.mem_append.1 o with h|h<;>(obtain⟨id,_,_,rfl⟩:=qd.1 h;rfl)
  ·rw[List.pairwise_map];exact (C.ze.2.sub List.filter_sublist).imp λh=>.inl h
  ·rw[List.mem_append,qd,qd,List.mem_map];constructor
   ·rintro (⟨id,b,g,rfl⟩|⟨id,b,g,rfl⟩)
    ·exact⟨id,List.mem_filter.2 ⟨z.DO b,by unfold Ah;rw[b,g];rfl⟩,rfl⟩
    ·exact⟨id,List.mem_filter.2 ⟨B.DO b,by unfold Ah;rw[b,g];simp⟩,rfl⟩
   ·rintro⟨id,h,rfl⟩;have h:=(List.mem_filter.1 h).2;unfold Ah at h;rw[Bool.or_eq_true,Bool.and_eq_true,Bool.and_eq_true] at h;rcases h with h|h
    ·exact .inl ⟨id,h.1,h.2,rfl⟩
    ·exact .inr ⟨id,h.1,h.2,rfl⟩
 have l:gT (rJ p q++rJ q p)=(List.range a.nodes.length).flatMap (r7 a p q):=by
  have mem:∀x,x∈(List.range a.nodes.length).flatMap (r7 a p q)↔∃i,i<a.nodes.length/\∃k:Nat,k<(a.host.values.getD i default).length/\A3 p q (a.nodes.getD i default) (k:Int)=true/\x=⟨2,a.nodes.getD i default,(k:Int)⟩:=λx=>by
   unfold r7;simp only[List.mem_flatMap,List.mem_range,List.mem_map,List.mem_filter];constructor
   ·rintro⟨i,d,k,⟨b,g⟩,rfl⟩;exact⟨i,d,k,b,g,rfl⟩
   ·rintro⟨i,d,k,b,g,rfl⟩;exact⟨i,d,k,⟨b,g⟩,rfl⟩
  have D:∀ {x y:aH},bH t a y->∀v∈y.values,∃i,i<a.nodes.length/\∃k:Nat,k<(a.host.values.getD i default).length/\v.id=a.nodes.getD i default/\v.attr=(k:Int):=λ{x y} A v c=>by obtain⟨n,G,b,g,r,_⟩:=A.value c;obtain⟨i,d,rfl⟩:=sO G;exact⟨i,d,v.attr.toNat,by simp only[cD] at r;omega,b.symm,by omega⟩
  refine vv (K:=2) (λx o=>?_) ?_ λx=>?_
  ·rcases List.mem_append.1 o with h|h<;>(obtain⟨id,_,_,rfl⟩:=qf.1 h;rfl)
  ·rw[List.pairwise_flatMap];constructor
   ·intro i _;unfold r7;rw[List.pairwise_map];exact (List.Pairwise.sublist List.filter_sublist List.pairwise_lt_range).imp λh=>.inr ⟨rfl,by simp only;omega⟩
   ·refine List.Pairwise.imp_of_mem ?_ (List.pairwise_lt_range (n:=a.nodes.length));intro i j d s F x o y A;have d:=List.mem_range.1 d;have s:=List.mem_range.1 s;unfold r7 at o A;obtain⟨k,_,rfl⟩:=List.mem_map.1 o;obtain⟨m,_,rfl⟩:=List.mem_map.1 A;left;have:=C.ze.2.Ag F s;simpa[d,s] using this
  ·rw[mem,List.mem_append,qf,qf];constructor
   ·rintro (⟨v,c,b,rfl⟩|⟨v,c,b,rfl⟩)
    ·obtain⟨i,d,k,u,f,l⟩:=D (x:=p) B v c;refine⟨i,d,k,u,?_,by rw[f,l]⟩;unfold A3;rw[<-f,b,od.2 ⟨v,c,rfl,l⟩];rfl
    ·obtain⟨i,d,k,u,f,l⟩:=D (x:=q) z v c;refine⟨i,d,k,u,?_,by rw[f,l]⟩;unfold A3;rw[<-f,b,od (p:=p) |>.2 ⟨v,c,rfl,l⟩];simp
   ·rintro⟨i,d,k,u,h,rfl⟩;unfold A3 at h;rw[Bool.or_eq_true,Bool.and_eq_true,Bool.and_eq_true] at h;rcases h with h|h
    ·obtain⟨v,c,f,l⟩:=od.1 h.2;exact .inl ⟨v,c,by rw[f];exact h.1,by rw[f,l]⟩
    ·obtain⟨v,c,f,l⟩:=od.1 h.2;exact .inr ⟨v,c,by rw[f];exact h.1,by rw[f,l]⟩
 have E:gT (ni p q)=(p.values.filter (By q)).map λv=>⟨3,v.id,v.attr⟩:=by
  refine vv (K:=3) (λx o=>?_) ?_ λx=>?_
  ·obtain⟨v,_,_,_,_,_,_,rfl⟩:=rK.1 o;rfl
  ·rw[List.pairwise_map];exact (List.Pairwise.sublist List.filter_sublist z.ord.va).imp λh=>h
  ·rw[rK,List.mem_map];constructor
   ·rintro⟨v,c,w,hw,b,g,r,rfl⟩;refine⟨v,List.mem_filter.2 ⟨c,?_⟩,rfl⟩;unfold By;rw[b,g,avg B.ord.va hw];simp only[Bool.not_eq_true',decide_eq_false_iff_not];exact λe=>r e.symm
   ·rintro⟨v,c,rfl⟩;obtain⟨c,h⟩:=List.mem_filter.1 c;unfold By at h;split at h
    ·rename_i w hw;obtain⟨b,g,r⟩:=LC hw;refine⟨v,c,w,b,g.symm,r.symm,λe=>?_,rfl⟩;rw[e] at h;simp at h
    ·cases h
 rw[f,l,E]
end
section
variable{t:Types}{a:ay}{p q:aH}
theorem DP{ids:List Int}{n:Int} : 0<=cA ids n↔n∈ids:=by
 unfold cA;have:=ye (q:=λy=>decide (y=n)) (l:=ids);constructor
 ·intro h;rw[dr h] at this;obtain⟨y,a,e⟩:=List.any_eq_true.1 this.symm;rw[<-b6 e];exact a
 ·intro h;rw[List.any_eq_true.2 ⟨n,h,dr rfl⟩] at this;exact b6 this
theorem bH.ends(h:bH t a p){e:au}(b:e∈lB a p++p.aM):e.src∈(kU (jh a p++p.aP)).map ah.id/\e.dst∈(kU (jh a p++p.aP)).map ah.id:=by have:=List.all_eq_true.1 (Lp (N:=kU (jh a p++p.aP)) (E:=nt (lB a p++p.aM)) (next:=p.next.x1) h.ok) e (uQ.2 b);unfold tr at this;rw[Bool.and_eq_true] at this;exact⟨DP.1 (b6 this.1),DP.1 (b6 this.2)⟩
theorem bH.aJG(h:bH t a p){e:au}(d:e∈lB a p++p.aM):(0<=e.src/\e.src<p.next.x1)/\0<=e.dst/\e.dst<p.next.x1:=by obtain⟨b,c⟩:=h.ends d;exact⟨h.ok.ze.1 _ b,h.ok.ze.1 _ c⟩
end
def dR(x0 d id:Int):Int:=if x0<=id then id+d else id
def nP(x0 d:Int)(n:ah):ah:=⟨dR x0 d n.id,n.type,n.values⟩
def oQ(x0 d:Int)(e:au):au:=⟨dR x0 d e.id,e.type,dR x0 d e.src,dR x0 d e.dst⟩
def jN(p q:aH):aH:=⟨q.ax,q.aA,q.aP.map (nP q.next.x0 (p.next.x1-p.next.x0)),q.aM.map (oQ q.next.x0 (p.next.x1-p.next.x0)),q.values,⟨p.next.x1,p.next.x1+q.next.x1-q.next.x0⟩⟩
structure DQ(p q:aH):Prop where
 x0:0<=p.next.x0/\p.next.x0<=1000000
 x1:0<=p.next.x1/\p.next.x1<=1000000
 y0:0<=q.next.x0/\q.next.x0<=1000000
 y1:0<=q.next.x1/\q.next.x1<=1000000
 n:∀n∈q.aP,0<=n.id/\n.id<=1000000
 e:∀e∈q.aM,(0<=e.id/\e.id<=1000000)/\(0<=e.src/\e.src<=1000000)/\0<=e.dst/\e.dst<=1000000
theorem j0.DR{t:Types}{a:ay}{p q:aH}(h:j0 t a p q):DQ p q :=
 ⟨h.ap.n0,h.ap.n1,h.aq.n0,h.aq.n1,λn c=>by have:=h.aq.ids.1 n c;have:=h.aq.n1;omega,λe b=>by
  have d:=h.aq.ids.2 e b;have f:=h.aq.aJG (List.mem_append_right _ b);have g:=h.aq.n1;omega⟩
theorem LI{x0 d id:Int}(a : -1000000<=d/\d<=1000000)(b:0<=id/\id<=1000000):(if x0<=id then some (i64.wrap (id+d)) else some id)=some (dR x0 d id):=by
 unfold dR;split
 ·rw[dy (by omega)]
 ·rfl
theorem LJ{l:List ah}(h:l.length<=1000000)(c:Rows l):eA l=some l:=by
 unfold eA;rw[bC (bl (by omega))];rw[j4 l (λn=>[n]) 1 (λn _=>by simp) λi a s b d=>?_]
 ·simp
 ·have:=c _ (l8 a);simp only[List.length_nil] at b;rw[b8 a,bC (by omega),bC (by omega)]
theorem wN{p:aH}(a:jJ p):dH p=some p:=by have b:=a.re;have c:=a.ae;have d:=a.va;unfold dH;rw[aT (LJ a.rn a.rv),bC (by omega),aT (LJ a.an a.av),bC (by omega),bC (by omega)]
theorem GV{α O:Type}(g:α->α){F:Int×List α->(Int×List α->Option O)->(Int×List α->Option O)->Option O}{K:Int×List α->Option O}(l:List α)(hl:l.length<=1000000)
  (h:∀ (i:Nat) (s:List α) (c:i<s.length) (q:i<l.length),s.length=l.length->s[i]=l[i]->∀b,F ((i:Int),s) b K=b (((i+1:Nat):Int),s.set i (g l[i])))
  (d:∀ (s:List α),s.length=l.length->∀b,F (((l.length:Nat):Int),s) b K=K (((l.length:Nat):Int),s)):iter F fuel (0,l) K=K (((l.length:Nat):Int),l.map g):=by
 have p:∀ (m i n:Nat),i+m=l.length->m+1<=n->iter F n ((i:Int),(l.take i).map g++l.drop i) K=K (((l.length:Nat):Int),l.map g):=by
  intro m
  induction m with
  |zero =>
   intro i n c f;obtain⟨n,rfl⟩:∃k,n=k+1:=⟨n-1,by omega⟩;have:i=l.length:=by omega
   subst this;rw[iter,List.take_length,List.drop_length,List.append_nil,d _ (by simp)]
  |succ m o =>
   intro i n c f;obtain⟨n,rfl⟩:∃k,n=k+1:=⟨n-1,by omega⟩;have a:i<l.length:=by omega
   have j:((l.take i).map g++l.drop i).length=l.length:=by simp;omega
   have e:((l.take i).map g++l.drop i)[i]'(by omega)=l[i]:=by rw[List.getElem_append_right (by simp;omega)];simp[Nat.min_eq_left (Nat.le_of_lt a)]
   rw[iter,h i _ (by omega) a j e,<-o (i+1) n (by omega) (by omega)];congr 2;rw[List.set_append_right _ _ (by simp;omega),List.take_add_one,List.getElem?_eq_getElem a,Option.toList_some,List.map_append];simp[Nat.min_eq_left (Nat.le_of_lt a)];rw[List.drop_eq_getElem_cons a];rfl
 have:=p l.length 0 fuel (by omega) (by unfold fuel;omega);simpa using this
theorem GW{α:Type}{l:List α}{i:Nat}(a:i<l.length):l[((i:Nat):Int).toNat]'(by simpa using a)=l[i]:=rfl
theorem GX{α β:Type}(f:α->β)(l:List α):(l.flatMap λa=>[f a])=l.map f:=by
 induction l with
 |nil=>rfl
 |cons x l b=>rw[List.flatMap_cons,b];rfl
section
variable{p q:aH}
theorem DS{x0 d id:Int}(a : -1000000<=d/\d<=1000000)(b:0<=id/\id<=1000000):eB id x0 d=some (dR x0 d id):=by unfold eB;rw[bh,LI a b]
theorem wh{d id:Int}(a : -1000000<=d/\d<=1000000)(b:0<=id/\id<=1000000):iK id q d=some (dR q.next.x0 d id):=by unfold iK;rw[bh,LI a b]
theorem LK(h:DQ p q):i64.wrap (p.next.x1-p.next.x0)=p.next.x1-p.next.x0/\i64.wrap (i64.wrap (p.next.x1+q.next.x1)-q.next.x0)=p.next.x1+q.next.x1-q.next.x0:=by have a:=h.x0;have b:=h.x1;have c:=h.y0;have d:=h.y1;exact⟨dy (by omega),by rw[dy (n:=p.next.x1+q.next.x1) (by omega),dy (by omega)]⟩
theorem LL(h:DQ p q)(b:jJ q):eM p q=some (jN p q):=by
 obtain⟨k,l⟩:=LK h;have m:=h.x0;have o:=h.x1;have t:=b.an;have r:=b.ae;unfold eM jN;rw[aT (wN b),k,l];rw[GV (nP q.next.x0 (p.next.x1-p.next.x0)) q.aP b.an]
 ·rw[GV (oQ q.next.x0 (p.next.x1-p.next.x0)) q.aM b.ae]
  ·intro i s a g j f d;have c:=h.e _ (l8 g);dsimp only;rw[dr (by omega),cond_true,gO (by omega) (by simpa using a),GW a,f,aT (DS (by omega) c.1),aT (DS (by omega) c.2.1),aT (DS (by omega) c.2.2),dy (by omega)];rfl
  ·intro s j d;dsimp only;rw[gA (by omega),cond_false]
 ·intro i s a g j f d;have c:=h.n _ (l8 g);dsimp only;rw[dr (by omega),cond_true,gO (by omega) (by simpa using a),GW a,f,aT (DS (by omega) c),dy (by omega)];rfl
 ·intro s j d;dsimp only;rw[gA (by omega),cond_false]
theorem yX(h:DQ p q)(d:jJ q):lF p q=some (jN p q):=by
 obtain⟨g,j⟩:=LK h;have k:=h.x0;have l:=h.x1;have o:=d.an;have m:=d.ae;unfold lF jN;rw[g,j,bC (bl (by omega))];rw[j4 q.aP (λn=>[nP q.next.x0 (p.next.x1-p.next.x0) n]) 1 (λn _=>by simp) λi a s c f=>?_]
 ·rw[bC (bl (by omega))];rw[j4 q.aM (λn=>[oQ q.next.x0 (p.next.x1-p.next.x0) n]) 1 (λn _=>by simp) λi a s c f=>?_]
  ·simp only[List.nil_append,GX]
  ·have b:=h.e _ (l8 a);simp only[List.length_nil] at c;rw[b8 a,aT (wh (by omega) b.1),aT (wh (by omega) b.2.1),aT (wh (by omega) b.2.2),bC (by omega)];rfl
 ·have b:=h.n _ (l8 a);simp only[List.length_nil] at c;rw[b8 a,aT (wh (by omega) b),bC (by omega)];rfl
theorem afc(a:jJ p)(b:jJ q):tL p q=some (mQ p q):=uc ⟨a.rn,a.re,a.va,b.rn,b.re,b.va⟩
theorem GY{α:Type}(b:α->Bool)(l:List α):(l.flatMap λa=>if b a=true then [] else [a])=l.filter λa=>!b a:=by
 induction l with
 |nil=>rfl
 |cons x l c=>rw[List.flatMap_cons,c,List.filter_cons];cases b x<;>simp
theorem aEa(g:jJ p)(c:jJ q):iw p q=some (mQ p q):=by
 have k:=c.rn;have l:=c.re;have m:=c.va;unfold iw;rw[aT (wN c),bC (bl (by omega))];rw[j4 q.ax (λn=>if cF p n.id=true then [] else [n]) 1 (λn _=>by split<;>simp) λi a s b j=>?_,GY]
 ·rw[bC (bl (by omega))];rw[j4 q.aA (λn=>if DH p n.id=true then [] else [n]) 1 (λn _=>by split<;>simp) λi a s b j=>?_,GY]
  ·rw[bC (bl (by omega))];rw[j4 q.values (λv=>if (qw p v.id v.attr).isSome=true then [] else [v]) 1 (λn _=>by split<;>simp) λi a s b j=>?_,GY]
   ·unfold mQ;simp only[List.nil_append,cG,aH.mk.injEq,true_and];refine⟨rfl,?_,?_⟩
    ·refine List.filter_congr λx _=>?_
     unfold DH;congr 2;funext y;rw[decide_eq_decide];exact⟨λh=>h.symm,λh=>h.symm⟩
    ·refine⟨List.filter_congr λv _=>?_,trivial⟩;congr 1;rw[Bool.eq_iff_iff,od,List.any_eq_true];simp only[Bool.and_eq_true,decide_eq_true_eq];exact⟨λ⟨w,d,e,f⟩=>⟨w,d,e.symm,f.symm⟩,λ⟨w,d,e,f⟩=>⟨w,d,e.symm,f.symm⟩⟩
   ·simp only[List.length_nil] at b;rw[b8 a,aT (DK g.va _ _),bC (by omega)];cases qw p q.values[i].id q.values[i].attr<;>simp
  ·simp only[List.length_nil] at b;rw[b8 a,aT (aD8 g.re _),bC (by omega)];cases DH p q.aA[i].id<;>simp
 ·simp only[List.length_nil] at b;rw[b8 a,aT (vw g.rn _),bC (by omega)];cases cF p q.ax[i].id<;>simp
theorem afd(d:jJ q){x:ay}(H:x.nodes.length<=1000000)(G:x.host.values.length=x.nodes.length)(z:∀n∈q.ax,∀k,(m:k<x.nodes.length)->x.nodes[k]=n.id->x.host.values[k]'(by omega)=n.values):dS q x=some q:=by
  have I:=d.rn;unfold dS;rw[aT (wN d)];rw[GV (λn=>n) q.ax d.rn]
  · simp
  · intro i s j u A t h;dsimp only;rw[dr (by omega),cond_true,bC (bl (by omega))];have w:s.set i q.ax[i]=s:=by rw[<-t];exact List.set_getElem_self j
    have D:=(sN (O:=aH) (K:=λc=>h ((i64.wrap (((i:Nat):Int)+1)),c)) (s:=s) (f:=λo (c:(List ah)) r E =>
    thn (x.nodes[o]?) λv =>
    thn (nr c ((i:Nat):Int)) λg =>
    cond (decide (v=g.id)) (
     thn (x.host.values[o]?) λp =>
     cL (p.length<=68719476736) <|
     r (c.set ((i:Nat):Int).toNat (⟨g.id,g.type,p⟩:ah))) <|
    r c) x.nodes (λb _=>b) (λ_ b=>b=s) rfl λk m b e=>by
      subst e;refine⟨λh=>?_,rfl⟩;rw[b8 m,gO (by omega) (by simpa using j),GW j,t,bh];split
      · rename_i y;have B:=z _ (l8 u) k m y;have F:=d.rv _ (l8 u);rw[b8 (show k<x.host.values.length by omega),B,bC (by omega)];congr 1
      · rfl).1
    rw[D];have:x.nodes.foldl (λ(b:List ah) _=>b) s=s:=by
      induction x.nodes with
      |nil=>rfl
      |cons a l C=>rw[List.foldl_cons];exact C
    rw[this,w,dy (by omega)];rfl
  · intro s A h;dsimp only;rw[gA (by omega),cond_false]
end
def qm(g:eU)(k i:Int)(a:Bool):Int:=(((g.ak.filter λe=>decide (e.type=k)&&(if a=true then decide (e.src=i) else decide (e.dst=i))).length:Nat):Int)
def AD(t:Types)(g:eU)(k:Int)(a:Bool)(b low high:Int)(i:Nat):Bool:=ko t (g.nodes.getD i default) b&&(decide (qm g k (i:Int) a<low)||(decide (0<=high)&&decide (high<qm g k (i:Int) a)))
def qj(t:Types)(g:eU)(k:Int)(a:Bool)(b low high:Int):List cM:=((List.range g.nodes.length).filter (AD t g k a b low high)).map λi:Nat=>⟨k,(i:Int),qm g k (i:Int) a,a⟩
def r8(t:Types)(g:eU)(k:Nat):List cM:=qj t g (k:Int) true (t.ak.getD k default).src (t.ak.getD k default).nI (t.ak.getD k default).j9++qj t g (k:Int) false (t.ak.getD k default).dst (t.ak.getD k default).tq (t.ak.getD k default).og
def s6(t:Types)(h:Host):List cM:=(List.range t.ak.length).flatMap (r8 t h.graph)
theorem LM{O:Type}{f:Nat->Int->(Int->Option O)->(Int->Option O)->Option O}{K:Int->Option O}(l:List Edge)(hl:l.length<=1000000)(b:Edge->Bool)
  (h:∀i (c:i<l.length) (s:Int) a,f i s a K=a (if b l[i]=true then i64.wrap (s+1) else s)):cq f (l.length-0) 0 0 K=K (((l.filter b).length:Nat):Int):=by
 have j:∀ (m i:Nat) (s:Nat),i+m=l.length->s<=i->cq f m i (s:Int) K=K (((s+((l.drop i).filter b).length:Nat)):Int):=by
  intro m
  induction m with
  |zero=>intro i s c g;rw[List.drop_eq_nil_of_le (by omega)];rfl
  |succ m e =>
   intro i s c g;have d:i<l.length:=by omega
   rw[cq,h i d,List.drop_eq_getElem_cons d,List.filter_cons];split
   ·rw[dy (by omega),show ((s:Nat):Int)+1=((s+1:Nat):Int) from rfl,e (i+1) (s+1) (by omega) (by omega)];rw[List.length_cons,Nat.add_assoc,Nat.add_comm 1]
   ·exact e (i+1) s (by omega) (by omega)
 have:=j (l.length-0) 0 0 (by omega) (Nat.le_refl _);simpa using this
section
variable{t:Types}{h:Host}
theorem lY.FF(a:fK t)(b:lY t h):eE t:=qU a b.types
theorem lY.LN(c:lY t h){i:Nat}(b:i<h.graph.nodes.length):0<=h.graph.nodes[i]/\h.graph.nodes[i]<t.nodes.length:=by
 have d:=(c.graph.kind i b).1;have a:=c.node i b;have e:h.graph.nodes.getD i default=h.graph.nodes[i]:=by simp[b]
 rw[e] at d a;unfold lJ at a;split at a
 ·cases a
 ·omega
theorem LO(d:fK t)(c:eE t){k:Nat}(a:k<t.ak.length):(0<=t.ak[k].src/\t.ak[k].src<t.nodes.length)/\0<=t.ak[k].dst/\t.ak[k].dst<t.nodes.length:=by
 have:=c.ends a;have b:t.ak.getD k default=t.ak[k]:=by simp[a]
 rw[b] at this;unfold hM at this;simp only[Bool.and_eq_true,decide_eq_true_eq] at this;exact this
theorem aJH(e:fK t)(f:(gR t).2=0){a b:Int}(c:0<=a/\a<t.nodes.length)(d:0<=b/\b<t.nodes.length):vj t a b=some (ko t a b):=by
 unfold vj;have g:qV t [a,b]=0:=by unfold qV;rw[if_neg (λh=>h f),if_neg];simp only[List.any_cons,List.any_nil,Bool.or_false];unfold hM;rw[dr c.1,dr c.2,dr d.1,dr d.2];simp
 rw[aT (show wG t [a,b]=_ from uc ⟨e,by simp⟩),g,dr rfl,cond_true,aT (show Gi t a b=_ from uc ⟨qU e f,c⟩)]
theorem azS(d:fK t)(f:(gR t).2=0){a b:Int}(c:0<=a/\a<t.nodes.length)(e:0<=b):iP t a b=some (ko t a b):=uc ⟨d,qU d f,c.1,c.2,e⟩
theorem aCt(g:eU)(d:g.ak.length<=1000000)(k i:Int)(a:Bool):fD g k i a=some (qm g k i a):=by
 unfold fD qm;rw[bC (bl (by omega)),LM g.ak d (λe=>decide (e.type=k)&&(if a=true then decide (e.src=i) else decide (e.dst=i))) λj f s h=>?_];rw[b8 f];by_cases c:g.ak[j].type=k
 ·rw[dr c,cond_true,Bool.true_and];cases a with
  |true=>rw[cond_true,if_pos rfl];by_cases b:g.ak[j].src=i<;>simp[b]
  |false=>rw[cond_false];by_cases b:g.ak[j].dst=i<;>simp[b]
 ·rw[gA c,cond_false,Bool.false_and,if_neg (by simp)]
theorem lT(g:eU)(k:Int)(b:Bool)(a low high:Int):(qj t g k b a low high).length<=g.nodes.length:=by unfold qj;rw[List.length_map];refine Nat.le_trans (List.length_filter_le _ _) ?_;rw[List.length_range];exact Nat.le_refl _
theorem yY(m:fK t)(c:lY t h)(k:Int)(a:Bool){b low high:Int}(p:0<=b/\b<t.nodes.length):lG t h k a b low high=some (qj t h.graph k a b low high):=by
 have u:=c.graph.nodes;have r:=c.graph.ak;unfold lG qj;rw[bC (bl (by omega))];rw[oe h.graph.nodes.length (λi=>if AD t h.graph k a b low high i=true then [(⟨k,(i:Int),qm h.graph k (i:Int) a,a⟩:cM)] else []) 1 (λi _=>by split<;>simp) λi f s q l=>?_,l6]
 ·rfl
 ·simp only[List.length_nil] at q;have n:h.graph.nodes.getD i default=h.graph.nodes[i]:=by simp[f]
  rw[b8 f,aT (aJH m c.types (c.LN f) p)];unfold AD;rw[n];cases ko t h.graph.nodes[i] b with
  |false=>simp
  |true =>
   rw[cond_true,bC (bl (by omega)),LM h.graph.ak (by omega) (λe=>decide (e.type=k)&&(if a=true then decide (e.src=(i:Int)) else decide (e.dst=(i:Int)))) λj o s l=>?_]
   ·rw[bC (by omega)];show cond (decide (qm h.graph k (i:Int) a<low)) _ (cond (decide (0<=high)) (cond (decide (high<qm h.graph k (i:Int) a)) _ _) _)=_;cases decide (qm h.graph k (i:Int) a<low)<;>cases decide (0<=high)<;>cases decide (high<qm h.graph k (i:Int) a)<;>simp<;>rfl
   ·rw[b8 o];by_cases g:h.graph.ak[j].type=k
    ·rw[dr g,cond_true,Bool.true_and];cases a with
     |true=>rw[cond_true,if_pos rfl];by_cases d:h.graph.ak[j].src=(i:Int)<;>simp[d]
     |false=>rw[cond_false];by_cases d:h.graph.ak[j].dst=(i:Int)<;>simp[d]
    ·rw[gA g,cond_false,Bool.false_and,if_neg (by simp)]
theorem aqw(a:fK t)(b:lY t h)(f:qW h):nW t h=some (s6 t h,0):=by
 have o:=b.graph.nodes;have n:=a.ak;unfold nW s6;rw[aT (show rz t h=some 0 by unfold rz;rw[aT (K9 a f),nA.2 b]),dr rfl,cond_true,bC (bl (by omega))];have j:∀k,(r8 t h.graph k).length<=80:=λk=>by unfold r8;rw[List.length_append];have d:=lT (t:=t) h.graph (k:Int) true (t.ak.getD k default).src (t.ak.getD k default).nI (t.ak.getD k default).j9;have e:=lT (t:=t) h.graph (k:Int) false (t.ak.getD k default).dst (t.ak.getD k default).tq (t.ak.getD k default).og;omega
 rw[oe t.ak.length (r8 t h.graph) 80 (λk _=>j k) λi c s l m=>?_]
 ·rfl
 ·simp only[List.length_nil] at l;have g:t.ak.getD i default=t.ak[i]:=by simp[c]
  obtain⟨r1,r2⟩:=LO a (b.FF a) c;rw[b8 c,aT (yY a b _ _ r1)];have d:=lT (t:=t) h.graph (i:Int) true t.ak[i].src t.ak[i].nI t.ak[i].j9;have e:=lT (t:=t) h.graph (i:Int) false t.ak[i].dst t.ak[i].tq t.ak[i].og;have:80 * i<=80 * t.ak.length:=Nat.mul_le_mul_left _ (by omega);rw[bC (by omega),aT (yY a b _ _ r2),bC (by omega)];unfold r8;rw[g,List.append_assoc]
theorem ana(g:fK t)(e:lY t h)(w:qW h):gX t h=some (s6 t h,0):=by
  have G:=e.graph.nodes;have F:=e.graph.ak;have D:=g.ak;unfold gX s6;rw[aT (qc g w),nA.2 e,dr rfl,cond_true,bC (bl (by omega))];have A:∀k,(r8 t h.graph k).length<=80:=λk=>by unfold r8;rw[List.length_append];have v:=lT (t:=t) h.graph (k:Int) true (t.ak.getD k default).src (t.ak.getD k default).nI (t.ak.getD k default).j9;have C:=lT (t:=t) h.graph (k:Int) false (t.ak.getD k default).dst (t.ak.getD k default).tq (t.ak.getD k default).og;omega
  rw[oe t.ak.length (r8 t h.graph) 80 (λk _=>A k) λi n s p c=>?_]
  · rfl
  · simp only[List.length_nil] at p;have x:t.ak.getD i default=t.ak[i]:=by simp[n]
    obtain⟨r1,r2⟩:=LO g (e.FF g) n;have E:80 * i<=80 * t.ak.length:=Nat.mul_le_mul_left _ (by omega);have H:s.length<=1000000:=by omega
    have q : ∀ (a : Bool) (d low high : Int) (s : List cM) (c : List cM → Option (List cM × Int)), s.length ≤ 2000000 → (0 ≤ d ∧ d < t.nodes.length) →
        (cL (h.graph.nodes.length<=fuel) <|
     cq (λl (b:(List cM)) f B =>
      thn (h.graph.nodes[l]?) λr =>
      thn (iP t r d) λu =>
      cond u (
       thn (fD h.graph ((i:Nat):Int) ((l:Nat):Int) a) λm =>
       cond (decide (m<low)) (
        cL (b.length+1<=68719476736) <|
        f (b++[(⟨((i:Nat):Int),((l:Nat):Int),m,a⟩:cM)])) <|
       cond (decide (0<=high)) (
        cond (decide (high<m)) (
         cL (b.length+1<=68719476736) <|
         f (b++[(⟨((i:Nat):Int),((l:Nat):Int),m,a⟩:cM)])) <|
        f b) <|
       f b) <|
      f b)
     (h.graph.nodes.length-0) 0 s λb =>
     c b)=c (s++qj t h.graph (i:Int) a d low high):=by
      intro a d low high s c p z;rw[bC (bl (by omega))];rw[oe h.graph.nodes.length (λj=>if AD t h.graph (i:Int) a d low high j=true then [(⟨(i:Int),(j:Int),qm h.graph (i:Int) (j:Int) a,a⟩:cM)] else []) 1 (λi _=>by split<;>simp) λj o J I c=>?_,l6]
      · rfl
      · have y:h.graph.nodes.getD j default=h.graph.nodes[j]:=by simp[o]
        rw[b8 o,aT (azS g e.types (e.LN o) z.1),aT (aCt h.graph (by omega) _ _ _),bC (by omega)];unfold AD;rw[y];cases ko t h.graph.nodes[j] d with
        |false=>simp
        |true=>simp only[cond_true,Bool.true_and];all_goals(cases decide (qm h.graph (i:Int) (j:Int) a<low)<;>cases decide (0<=high)<;>cases decide (high<qm h.graph (i:Int) (j:Int) a)<;>simp<;>rfl)
    have v:=lT (t:=t) h.graph (i:Int) true t.ak[i].src t.ak[i].nI t.ak[i].j9;rw[b8 n,bC (bl (by omega))];rw[LH (r1:=s++qj t h.graph (i:Int) true t.ak[i].src t.ak[i].nI t.ak[i].j9) (r2:=s++qj t h.graph (i:Int) true t.ak[i].src t.ak[i].nI t.ak[i].j9++qj t h.graph (i:Int) false t.ak[i].dst t.ak[i].tq t.ak[i].og) (λc=>q true _ _ _ s c (by omega) r1) (λc=>q false _ _ _ _ c (by rw[List.length_append];omega) r2)];unfold r8;rw[x,List.append_assoc]
end
def bK(p q:aH):aH:=mQ p (jN p q)
theorem oR{p q:aH}(a:jJ q):jJ (jN p q) :=
 ⟨a.rn,a.re,by simp[jN];exact a.an,by simp[jN];exact a.ae,a.va,a.rv,λn c=>by
  obtain⟨m,b,rfl⟩:=List.mem_map.1 c;exact a.av m b⟩
theorem wj{p q:aH}(a:jJ q):jJ (mQ p q):=⟨Nat.le_trans (List.length_filter_le _ _) a.rn,Nat.le_trans (List.length_filter_le _ _) a.re,a.an,a.ae,Nat.le_trans (List.length_filter_le _ _) a.va,λn b=>a.rv n (List.mem_filter.1 b).1,a.av⟩
def tooMany(a:ay)(p q:aH):Bool:=decide ((40:Int)<((bf a p).nodes.length:Int)+(bK p q).aP.length-(bK p q).ax.length)||decide ((80:Int)<((bf a p).ak.length:Int)+(bK p q).aM.length-(bK p q).aA.length)
def fL(t:Types)(a:ay)(p q:aH):ay×Int:=if tooMany a p q=true then (kV,3) else om t (bf a p) (bK p q)
section
variable{t:Types}{a:ay}{p q:aH}
theorem bH.A4(h:bH t a p)(b:qW a.host)(c:jJ p):lX (bf a p):=h.small.add (GO h.tk b) c _
theorem GZ(p q:aH):(bK p q).aP.length=q.aP.length/\(bK p q).aM.length=q.aM.length/\(bK p q).ax.length<=q.ax.length/\(bK p q).aA.length<=q.aA.length:=⟨by simp[bK,mQ,jN],by simp[bK,mQ,jN],List.length_filter_le _ _,List.length_filter_le _ _⟩
theorem LP(e:fK t)(h:j0 t a p q)(d:lX a)(b:jJ p)(c:jJ q):∃x,mS t a p q=some (x,(fL t a p q).1,(fL t a p q).2)/\((fL t a p q).2=0->x=bf a p):=by
 have f:=h.ap.A4 d.host b;have g:=h.ap.ok.n40;have i:=h.ap.ok.hG;obtain⟨r1,r2,l,m⟩:=GZ p q;have o:=h.aq.small.an;have r:=h.aq.small.ae;have s:=h.aq.small.rn;have u:=h.aq.small.re;unfold mS fL tooMany;rw[aT (Cq e d b),pn h.ap,dr rfl,cond_true,aT (yX h.DR c),aT (afc b (oR c))];rw[show mQ p (jN p q)=bK p q from rfl];dsimp only;rw[dy (n:=(((bf a p).nodes.length:Nat):Int)+(((bK p q).aP.length:Nat):Int)) (by omega),dy (n:=(((bf a p).nodes.length:Nat):Int)+(((bK p q).aP.length:Nat):Int)-(((bK p q).ax.length:Nat):Int)) (by omega)];rw[dy (n:=(((bf a p).ak.length:Nat):Int)+(((bK p q).aM.length:Nat):Int)) (by omega),dy (n:=(((bf a p).ak.length:Nat):Int)+(((bK p q).aM.length:Nat):Int)-(((bK p q).aA.length:Nat):Int)) (by omega)];cases j:decide ((40:Int)<(((bf a p).nodes.length:Nat):Int)+(((bK p q).aP.length:Nat):Int)-(((bK p q).ax.length:Nat):Int)) with
 |true=>exact⟨kV,by rw[cond_true];rfl,λh=>by cases h⟩
 |false =>
  rw[cond_false,Bool.false_or];cases k:decide ((80:Int)<(((bf a p).ak.length:Nat):Int)+(((bK p q).aM.length:Nat):Int)-(((bK p q).aA.length:Nat):Int)) with
  |true=>exact⟨kV,by rw[cond_true];rfl,λh=>by cases h⟩
  |false=>rw[cond_false,aT (show fz t (bf a p) (bK p q)=_ from Cq e f (wj (oR c)))];exact⟨bf a p,rfl,λ_=>rfl⟩
def G0(p q:aH):Prop:=(∀v∈q.values,cF p v.id=false)/\∀v∈p.values,cF q v.id=false
theorem G1:∀ (r:List aQ) (l:List ah) (n:ah),n∈l->(∀v∈r,v.id≠n.id)->n∈(eW l r).1
 | [],l,n,h,_=>h
 |v :: r,l,n,h,b=>by
  have c:mZ v n=n:=by unfold mZ;rw[if_neg];unfold jB;rw[gA λe=>b v (List.mem_cons_self ..) e.symm,Bool.false_and];simp
  have a:n∈l.map (mZ v):=List.mem_map.2 ⟨n,h,c⟩;rw[eW];split
  ·exact G1 r _ n a λw hw=>b w (List.mem_cons_of_mem _ hw)
  ·exact a
theorem bH.keep(h:bH t a p){n:ah}(d:n∈bA a)(b:cF p n.id=false)(f:∀v∈p.values,v.id≠n.id):n∈jh a p:=by
 refine G1 _ _ n (List.mem_filter.2 ⟨d,?_⟩) f;cases g:p.ax.any λm=>dV n m with
 |false=>rfl
 |true=>obtain⟨m,c,e⟩:=List.any_eq_true.1 g;have:=kz.1 e;subst this;rw[lS.2 ⟨n,c,rfl⟩] at b;cases b
theorem avk{a:ay}{p:aH}{k:Nat}(c:k<(bf a p).nodes.length):∃b:k<(kU (jh a p++p.aP)).length,∃d:k<(bf a p).host.values.length,(bf a p).nodes[k]=(kU (jh a p++p.aP))[k].id/\(bf a p).host.values[k]=(kU (jh a p++p.aP))[k].values:=by
 have b:k<(kU (jh a p++p.aP)).length:=by simpa[bf,c8] using c
 exact⟨b,by simpa[bf,c8] using b,by simp[bf,c8],by simp[bf,c8]⟩
theorem bH.wL(h:bH t a p):iS ah.id (kU (jh a p++p.aP)):=iS.DC (f:=id) h.ok.ze.2
theorem bH.rq(h:bH t a p):iS au.id (nt (lB a p++p.aM)):=iS.DC (f:=id) h.ok.r9.2
theorem avl(i:fK t)(h:j0 t a p q)(d:lX a)(c:jJ p)(b:jJ q)(m:G0 p q):gx t a p q=some (fL t a p q):=by
 have y:=h.ap.A4 d.host c;have C:=h.ap.ok.n40;have D:=h.ap.ok.hG;obtain⟨r1,r2,H,I⟩:=GZ p q;have J:=h.aq.small.an;have K:=h.aq.small.ae;have L:=h.aq.small.rn;have M:=h.aq.small.re;unfold gx fL tooMany;rw[aT (xx i d c),pn h.ap,dr rfl,cond_true];rw[aT (show eM ⟨p.ax,p.aA,p.aP,p.aM,p.values,p.next⟩ q=_ from LL h.DR b)];rw[aT (show iw ⟨p.ax,p.aA,p.aP,p.aM,p.values,p.next⟩ _=_ from aEa c (oR b))];rw[show mQ p (jN p q)=bK p q from rfl];dsimp only;have j:(bf a p).host.values.length=(bf a p).nodes.length:=by simp[bf,c8]
 have l:dS (bK p q) (bf a p)=some (bK p q):=afd (wj (oR b)) (by omega) j λn s k o f=>by
  obtain⟨g,u⟩:=List.mem_filter.1 s;have w:cF p n.id=false:=by simpa[cF] using u
  have r:n∈jh a p:=h.ap.keep (h.aq.sY g) w λv x e=>by have:=m.2 v x;rw[e,lS (p:=q) |>.2 ⟨n,g,rfl⟩] at this;cases this
  obtain⟨z,G,A,B⟩:=avk o;rw[B];rw[A] at f;rw[h.ap.wL.inj (l8 z) (oa.2 (List.mem_append_left _ r)) f]
 rw[aT l];rw[dy (n:=(((bf a p).nodes.length:Nat):Int)-(((bK p q).ax.length:Nat):Int)) (by omega),dy (n:=(((bf a p).nodes.length:Nat):Int)-(((bK p q).ax.length:Nat):Int)+(((bK p q).aP.length:Nat):Int)) (by omega)];rw[dy (n:=(((bf a p).ak.length:Nat):Int)-(((bK p q).aA.length:Nat):Int)) (by omega),dy (n:=(((bf a p).ak.length:Nat):Int)-(((bK p q).aA.length:Nat):Int)+(((bK p q).aM.length:Nat):Int)) (by omega)];rw[show (((bf a p).nodes.length:Nat):Int)-(((bK p q).ax.length:Nat):Int)+(((bK p q).aP.length:Nat):Int)=(((bf a p).nodes.length:Nat):Int)+(((bK p q).aP.length:Nat):Int)-(((bK p q).ax.length:Nat):Int) by omega];rw[show (((bf a p).ak.length:Nat):Int)-(((bK p q).aA.length:Nat):Int)+(((bK p q).aM.length:Nat):Int)=(((bf a p).ak.length:Nat):Int)+(((bK p q).aM.length:Nat):Int)-(((bK p q).aA.length:Nat):Int) by omega];cases E:decide ((40:Int)<(((bf a p).nodes.length:Nat):Int)+(((bK p q).aP.length:Nat):Int)-(((bK p q).ax.length:Nat):Int)) with
 |true=>rw[cond_true];rfl
 |false =>
  rw[cond_false,Bool.false_or];cases F:decide ((80:Int)<(((bf a p).ak.length:Nat):Int)+(((bK p q).aM.length:Nat):Int)-(((bK p q).aA.length:Nat):Int)) with
  |true=>rw[cond_true];rfl
  |false=>rw[cond_false,aT (show bX ⟨t.nodes,t.ak⟩ (bf a p) (bK p q)=_ from xx i y (wj (oR b)))];rfl
theorem xy(h:ji a p q=[])(s:bH t a p)(u:bH t a q):G0 p q/\(∀id,cF p id=true->ug q id=false)/\(∀id,cF q id=true->ug p id=false)/\∀v∈p.values,∀w∈q.values,v.id=w.id->v.attr=w.attr->v.new=w.new:=by
 rw[<-sP s u] at h;unfold tK at h;obtain⟨m,n⟩:=List.append_eq_nil_iff.1 h;obtain⟨e,f⟩:=List.append_eq_nil_iff.1 m;have i:∀ {K:Int} {l:List aG},(∀x∈l,x.kind=K)->gT l=[]->∀x,x ∉ l:=λ{K l} o r x c=>by
  have:=(jT o).2 x |>.2 c
  rw[r] at this;cases this
 have n1:=i (K:=1) (λx c=>by rcases List.mem_append.1 c with h|h<;>(obtain⟨id,_,_,rfl⟩:=qd.1 h;rfl)) e;have k:=i (K:=2) (λx c=>by rcases List.mem_append.1 c with h|h<;>(obtain⟨id,_,_,rfl⟩:=qf.1 h;rfl)) f;have y:=i (K:=3) (λx c=>by obtain⟨v,_,_,_,_,_,_,rfl⟩:=rK.1 c;rfl) n;refine⟨⟨λv d=>?_,λv d=>?_⟩,λid b=>?_,λid b=>?_,λv d w hw e f=>?_⟩
 ·cases b:cF p v.id with
  |false=>rfl
  |true=>exact absurd (List.mem_append_left _ (qf.2 ⟨v,d,b,rfl⟩)) (k _)
 ·cases b:cF q v.id with
  |false=>rfl
  |true=>exact absurd (List.mem_append_right _ (qf.2 ⟨v,d,b,rfl⟩)) (k _)
 ·cases g:ug q id with
  |false=>rfl
  |true=>exact absurd (List.mem_append_left _ (qd.2 ⟨id,b,g,rfl⟩)) (n1 _)
 ·cases g:ug p id with
  |false=>rfl
  |true=>exact absurd (List.mem_append_right _ (qd.2 ⟨id,b,g,rfl⟩)) (n1 _)
 ·by_cases j:v.new=w.new
  ·exact j
  ·exact absurd (rK.2 ⟨v,d,w,hw,e,f,j,rfl⟩) (y _)
theorem kM{x0 d:Int}(a:0<=d){m n:Int}(h:m<n):dR x0 d m<dR x0 d n:=by unfold dR;split<;>split<;>omega
theorem yp{x0 d:Int}(a:0<=d){m n:Int}(h:dR x0 d m=dR x0 d n):m=n:=by unfold dR at h;split at h<;>split at h<;>omega
theorem vB{x0 d m:Int}(h:m<x0):dR x0 d m=m:=by unfold dR;rw[if_neg (by omega)]
theorem G2{l m:List ah}(c:iS ah.id l)(d:iS ah.id m)(h:∀a∈l,∀b∈m,a.id<b.id):kU (l++m)=l++m:=(GD (mY c d λa e b f=>by have:=h a e b f;omega)).ext (c.app d h) λx=>oa
theorem G3{l m:List au}(c:iS au.id l)(d:iS au.id m)(h:∀a∈l,∀b∈m,a.id<b.id):nt (l++m)=l++m:=(GF (mY c d λa e b f=>by have:=h a e b f;omega)).ext (c.app d h) λx=>uQ
theorem x4.ids{l m:List ah}(h:x4 l m):l.map ah.id=m.map ah.id:=by have:=congrArg (List.map λx:Int×Int×Nat=>x.1) h;rw[List.map_map,List.map_map] at this;exact this
theorem DT{n:ah}(c:n∈jh a p):n.id∈a.nodes:=by have:n.id∈(jh a p).map ah.id:=List.mem_map_of_mem c;unfold jh at this;rw[(qH _ _).ids] at this;obtain⟨m,b,e⟩:=List.mem_map.1 this;rw[<-e];exact vu (List.mem_filter.1 b).1
theorem DU{n:au}(b:n∈lB a p):n.id∈a.ak:=Cr (List.mem_filter.1 b).1
theorem G4(h:eX t a){e:au}(f:e∈lB a p):e.src<a.next/\e.dst<a.next:=by
 obtain⟨i,c,rfl⟩:=List.mem_map.1 (List.mem_filter.1 f).1;have c:i<a.ak.length:=by simpa using c
 have b:=h.host.graph.fq i (by rw[<-h.ru];exact c);rw[<-h.qJ] at b;unfold fJ;have g:∀n:Int,0<=n->n<(a.nodes.length:Int)->a.nodes.getD n.toNat default<a.next:=λn j k=>by
  have d:n.toNat<a.nodes.length:=by omega
  have:=(h.ze.1 _ (l8 d)).2;simpa[d] using this
 exact⟨g _ b.2.1.1 b.2.1.2,g _ b.2.2.1 b.2.2.2⟩
theorem LQ{f:Int->Int}(a:∀m n,f m=f n->m=n)(ids:List Int)(n:Int):cA (ids.map f) (f n)=cA ids n:=by
 unfold cA mN;rw[List.findIdx?_map];have:((λy=>decide (y=f n)) ∘ f)=λy=>decide (y=n):=by funext y;simp only[Function.comp,decide_eq_decide];exact⟨λh=>a _ _ h,λh=>by rw[h]⟩
 rw[this]
def DV(p q:aH)(n0:Int):aH:=⟨q.ax,q.aA,q.aP.map (nP q.next.x0 (p.next.x1-p.next.x0)),q.aM.map (oQ q.next.x0 (p.next.x1-p.next.x0)),q.values,⟨n0,p.next.x1+q.next.x1-q.next.x0⟩⟩
def jk(a:ay)(p q:aH):ay:=bf a (DV p q 0)
theorem DW(h:j0 t a p q):jk a p q=⟨(bf a q).host,(bf a q).nodes.map (dR q.next.x0 (p.next.x1-p.next.x0)),(bf a q).ak.map (dR q.next.x0 (p.next.x1-p.next.x0)),p.next.x1+q.next.x1-q.next.x0⟩/\kU (jh a q++q.aP)=jh a q++q.aP/\nt (lB a q++q.aM)=lB a q++q.aM:=by
 have g:0<=p.next.x1-p.next.x0:=by have:=h.gp.next;omega
 have k:∀m∈jh a q,m.id<q.next.x0:=λm b=>by rw[h.aq.next];exact (h.aq.tk.ze.1 _ (DT b)).2
 have j:∀m∈lB a q,m.id<q.next.x0:=λm b=>by rw[h.aq.next];exact (h.aq.tk.r9.1 _ (DU b)).2
 have u:iS ah.id (jh a q):=yg _ _ (vr h.aq.tk.wL);have s:iS au.id (lB a q):=vr h.aq.tk.rq;have v:kU (jh a q++q.aP)=jh a q++q.aP:=G2 u h.aq.ord.an λx c y d=>by have:=k x c;have:=h.gq.n y d;omega
 have w:nt (lB a q++q.aM)=lB a q++q.aM:=G3 s h.aq.ord.ae λx c y d=>by have:=j x c;have:=h.gq.e y d;omega
 have G:iS ah.id (q.aP.map (nP q.next.x0 (p.next.x1-p.next.x0))):=iS.map (List.Pairwise.imp (λh=>kM g h) h.aq.ord.an);have F:iS au.id (q.aM.map (oQ q.next.x0 (p.next.x1-p.next.x0))):=iS.map (List.Pairwise.imp (λh=>kM g h) h.aq.ord.ae);have t1:kU (jh a q++q.aP.map (nP q.next.x0 (p.next.x1-p.next.x0)))=jh a q++q.aP.map (nP q.next.x0 (p.next.x1-p.next.x0)):=G2 u G λx c y d=>by obtain⟨z,o,rfl⟩:=List.mem_map.1 d;have i:=k x c;have f:=h.gq.n z o;simp only[nP,dR];rw[if_pos f];omega
 have t2:nt (lB a q++q.aM.map (oQ q.next.x0 (p.next.x1-p.next.x0)))=lB a q++q.aM.map (oQ q.next.x0 (p.next.x1-p.next.x0)):=G3 s F λx c y d=>by obtain⟨z,o,rfl⟩:=List.mem_map.1 d;have i:=j x c;have f:=h.gq.e z o;simp only[oQ,dR];rw[if_pos f];omega
 have A:(jh a q).map (nP q.next.x0 (p.next.x1-p.next.x0))=jh a q:=by
  have:∀l:List ah,(∀m∈l,m.id<q.next.x0)->l.map (nP q.next.x0 (p.next.x1-p.next.x0))=l:=λl hl=>by
   induction l with
   |nil=>rfl
   |cons x l r=>rw[List.map_cons,r λm b=>hl m (List.mem_cons_of_mem _ b)];congr 1;unfold nP;rw[vB (hl x (List.mem_cons_self ..))]
  exact this _ k
 have B:(lB a q).map (oQ q.next.x0 (p.next.x1-p.next.x0))=lB a q:=by
  have:∀l:List au,(∀m∈l,m.id<q.next.x0/\m.src<q.next.x0/\m.dst<q.next.x0)->l.map (oQ q.next.x0 (p.next.x1-p.next.x0))=l:=λl hl=>by
   induction l with
   |nil=>rfl
   |cons x l r=>rw[List.map_cons,r λm b=>hl m (List.mem_cons_of_mem _ b)];obtain⟨i,f,E⟩:=hl x (List.mem_cons_self ..);congr 1;unfold oQ;rw[vB i,vB f,vB E]
  exact this _ λm b=>⟨j m b,by rw[h.aq.next];exact (G4 h.aq.tk b).1,by rw[h.aq.next];exact (G4 h.aq.tk b).2⟩
 refine⟨?_,v,w⟩;show c8 (kU (jh a q++q.aP.map (nP q.next.x0 (p.next.x1-p.next.x0)))) (nt (lB a q++q.aM.map (oQ q.next.x0 (p.next.x1-p.next.x0)))) _=_;unfold bf;rw[t1,t2,v,w];have D:jh a q++q.aP.map (nP q.next.x0 (p.next.x1-p.next.x0))=(jh a q++q.aP).map (nP q.next.x0 (p.next.x1-p.next.x0)):=by rw[List.map_append,A]
 have C:lB a q++q.aM.map (oQ q.next.x0 (p.next.x1-p.next.x0))=(lB a q++q.aM).map (oQ q.next.x0 (p.next.x1-p.next.x0)):=by rw[List.map_append,B]
 rw[D,C];unfold c8;simp only[List.map_map,ay.mk.injEq,Host.mk.injEq,eU.mk.injEq];have ids:((jh a q++q.aP).map (ah.id ∘ nP q.next.x0 (p.next.x1-p.next.x0)))=((jh a q++q.aP).map ah.id).map (dR q.next.x0 (p.next.x1-p.next.x0)):=by rw[List.map_map];rfl
 refine⟨⟨⟨rfl,?_⟩,rfl⟩,rfl,rfl,rfl⟩;rw[ids];refine List.map_congr_left λe _=>?_
 show jZ _ (oQ _ _ e)=jZ _ e;unfold jZ oQ;simp only[Edge.mk.injEq];exact⟨trivial,LQ (λm n=>yp g) _ _,LQ (λm n=>yp g) _ _⟩
theorem xz(h:j0 t a p q):eX t (jk a p q):=by
 have f:0<=p.next.x1-p.next.x0:=by have:=h.gp.next;omega
 have b:=h.aq.ok;have n1:=h.aq.n1;have n0:=h.aq.n0;have n:=h.gq.next
 have o:=h.next
 have r:=h.ap.n0;have l:p.next.x0=q.next.x0:=by rw[h.ap.next,h.aq.next]
 rw[(DW h).1];have g:∀m,0<=m/\m<q.next.x1->0<=dR q.next.x0 (p.next.x1-p.next.x0) m/\dR q.next.x0 (p.next.x1-p.next.x0) m<p.next.x1+q.next.x1-q.next.x0:=λm d=>by unfold dR;split<;>omega
 refine⟨b.host,by simp only[List.length_map];exact b.qJ,by simp only[List.length_map];exact b.ru,⟨by simp only;omega,by simp only;omega⟩,⟨λm d=>?_,?_⟩,⟨λm d=>?_,?_⟩,λe i j=>?_⟩
 ·obtain⟨x,c,rfl⟩:=List.mem_map.1 d;exact g x (b.ze.1 x c)
 ·exact iS.map (List.Pairwise.imp (λh=>kM f h) b.ze.2)
 ·obtain⟨x,c,rfl⟩:=List.mem_map.1 d;exact g x (b.r9.1 x c)
 ·exact iS.map (List.Pairwise.imp (λh=>kM f h) b.r9.2)
 ·obtain⟨x,c,rfl⟩:=List.mem_map.1 i;obtain⟨y,k,e⟩:=List.mem_map.1 j;have:=yp f e;subst this;exact b.apart y c k
theorem LR(h:j0 t a p q){n0:Int}(o:eX t ⟨a.host,a.nodes,a.ak,n0⟩):bH t ⟨a.host,a.nodes,a.ak,n0⟩ (DV p q n0):=by
 have j:0<=p.next.x1-p.next.x0:=by have:=h.gp.next;omega
 have f:=h.aq.small;have d:=h.aq.ord;refine⟨o,⟨f.rn,f.re,by simp[DV];exact f.an,by simp[DV];exact f.ae,f.va⟩,⟨d.rn,d.re,iS.map (List.Pairwise.imp (λh=>kM j h) d.an),iS.map (List.Pairwise.imp (λh=>kM j h) d.ae),d.va⟩,rfl,h.aq.rn,h.aq.re,h.aq.va,?_,(show eX t (jk a p q) from xz h)⟩;have l:∀m∈jh a q,m.id<q.next.x0:=λm c=>by rw[h.aq.next];exact (h.aq.tk.ze.1 _ (DT c)).2
 have k:∀m∈lB a q,m.id<q.next.x0:=λm c=>by rw[h.aq.next];exact (h.aq.tk.r9.1 _ (DU c)).2
 have i:∀m,q.next.x0<=m->kI (jh a q) (lB a q) (dR q.next.x0 (p.next.x1-p.next.x0) m)=false:=λm c=>by unfold kI dR;rw[if_pos c,Bool.or_eq_false_iff];simp only[List.any_eq_false,decide_eq_true_eq];exact⟨λx b e=>by have:=l x b;omega,λx b e=>by have:=k x b;omega⟩
 show gF (jh a q) (lB a q) _=false;unfold gF;rw[Bool.or_eq_false_iff];simp only[List.any_eq_false];refine⟨λx b=>?_,λx b=>?_⟩
 ·obtain⟨z,g,rfl⟩:=List.mem_map.1 b;rw[show (nP q.next.x0 (p.next.x1-p.next.x0) z).id=dR q.next.x0 (p.next.x1-p.next.x0) z.id from rfl,i _ (h.gq.n z g)];simp
 ·obtain⟨z,g,rfl⟩:=List.mem_map.1 b;rw[show (oQ q.next.x0 (p.next.x1-p.next.x0) z).id=dR q.next.x0 (p.next.x1-p.next.x0) z.id from rfl,i _ (h.gq.e z g)];simp
theorem ahB(g:fK t)(h:j0 t a p q)(f:lX a)(i:jJ p)(c:jJ q):p7 t a p q=some (jk a p q,0):=by have d:=LR h (n0:=a.next) h.ap.tk;unfold p7;rw[aT (yX h.DR c)];have b:=oR (p:=p) c;rw[aT (show fz t a ⟨(jN p q).ax,(jN p q).aA,(jN p q).aP,(jN p q).aM,(jN p q).values,⟨a.next,(jN p q).next.x1⟩⟩=_ from Cq g f ⟨b.rn,b.re,b.an,b.ae,b.va,b.rv,b.av⟩)];have e:om t a ⟨(jN p q).ax,(jN p q).aA,(jN p q).aP,(jN p q).aM,(jN p q).values,⟨a.next,(jN p q).next.x1⟩⟩=(jk a p q,0):=pn d;rw[e]
theorem azU(j:fK t)(h:j0 t a p q)(c:lX a)(i:jJ q):bX t ⟨a.host,a.nodes,a.ak,p.next.x1⟩ (jN p q)=some (jk a p q,0):=by
 have b:=h.ap.tk;have k:=h.ap.n1;have g:=h.gp.next
 rw[h.ap.next] at g;have f:eX t ⟨a.host,a.nodes,a.ak,p.next.x1⟩:=⟨b.host,b.qJ,b.ru,k,⟨λn d=>by have:=b.ze.1 n d;simp only;omega,b.ze.2⟩,⟨λn d=>by have:=b.r9.1 n d;simp only;omega,b.r9.2⟩,b.apart⟩;have e:=LR h f;refine (xx j (a:=⟨a.host,a.nodes,a.ak,p.next.x1⟩) ⟨c.host,c.nodes,c.ak⟩ (oR i)).trans ?_;congr 1;exact pn e
end
end Go.Proofs.YtnnpmiiegnedeaaGreat
