/- Joined texts, part 7: lemmas for the statement. No condition. -/
import Derived.Test.YteambpeibacfpaaGreatJ5
import Derived.Test.YteambpeibacfpaaGreatJ6
import Derived.Test.YteambpeibacfpaaGreatJ4
import Derived.Test.YteambpeibacfpaaGreatRows
set_option maxHeartbeats 4000000
set_option linter.unusedSimpArgs false
set_option linter.unusedVariables false
open Nat (reduceEqDiff reduceLT reduceLeDiff reduceMul reduceAdd reduceSub)
open Go.IntKind (i64)
open Go.Proofs.Tryz
open Go.Proofs.Tryz renaming prog → pw
set_option maxRecDepth 20000
open List hiding cons erase_filter iter nil replace
open Nat (le_refl zero_le)
open Int (toNat_natCast lt_trans)
namespace Go.Proofs.YteambpeibacfpaaGreat
open Go.b7
noncomputable section
theorem sW(a0:ay)(a1:ay)(r:aQ×Bool)(h:iO a0 a1=some r):bl pw 50 [.agg (az a0),.agg (az a1)] (λv=>v = .dH [.agg [.row 96 3 (r.1.aG.map ag),.row 125 4 (r.1.aM.map ak),.row 96 3 (r.1.aV.map ag),.row 125 4 (r.1.bn.map ak),.row 116 4 (r.1.values.map aP),.p (.val (.int .i64 r.1.next.x0)),.p (.val (.int .i64 r.1.next.x1))],.p (.val (.bool r.2))]):=by
 refine bl.qX ?_;refine bz [76,106,146,164,182] func50 ntmps50 results50 ?_;unfold iO at h;have F:=trivial;refine eD 12 [] ?_;refine zTd F h (aaF _) λr2 h=>?_
 refine zTd F h (uu _) λr3 h=>?_
 refine zTd F h (aaF _) λr4 h=>?_
 refine zTd F h (uu _) λr5 h=>?_
 refine zV ?_;refine zN F h ((0,0):Nat×Nat) [4,6,7,8,9,10,38,39] (λx=>[(40,.p (.val (.int .i64 ((x.1.1:Nat):Int))))]) [4] (λx H=>[(6,bx (H 6) [(0,.row 6393 x.2.1),(4,.row 6394 x.2.2)]),(6393,.row x.2.1 96 3 (x.1.2.1.map ag)),(6394,.row x.2.2 116 4 (x.1.2.2.map aP))]) ?_ ?_ (hw:=by refine c8.trans (bK 6 0 6393 96 3 _ rfl rfl rfl (by decide)) ?_;refine c8.trans (bK 6 4 6394 116 4 _ rfl rfl rfl (by decide)) ?_;exact zW)
 ·intro i6 s6 g6 _ _ F Ns6 h;try dsimp only at h
  refine zI ag F h λe7 F h=>?_
  refine zK F h (sU _ _) λr8 h=>?_
  refine eD 20 [] ?_;refine vl F h (sS _ _) λr9 h=>?_
  refine arn F h (λF h=>?_) λF h=>?_
  ·exact gJ h
  ·refine zBd F h (λF h=>?_) λF h=>?_
   ·refine zA ag F h λpE F h=>?_
    refine fB F h (λF h=>?_) λF h=>?_
    ·refine zB F h (λF h=>?_) λF h=>?_
     ·refine zC F h λF h=>?_
      refine dz (s6.1.length+1) 40 F λF=>?_
      refine zF (bt ag s6.1 [e7] (c:=[[.val (.int .i64 e7.id),.val (.int .i64 e7.type),.aL (e7.values.map encI)]]) rfl) F λF=>?_
      exact zX (z:=Ns6 _ (g6.1+1,g6.2) h zW)
     ·refine zV ?_;refine zN F h (g6.2:Nat) [4,6,7,8,9,10,12,13,38,39,40,79,80] (λx=>[(81,.p (.val (.int .i64 ((x.1.1:Nat):Int))))]) [4,12,6393] (λx H=>[(6,bx (H 6) [(4,.row 6394 x.2)]),(6394,.row x.2 116 4 (x.1.2.map aP))]) ?_ ?_
      ·intro i11 s11 g11 _ _ F avO h;try dsimp only at h
       refine zI encI F h λe12 F h=>?_
       refine zI encI F h λe13 F h=>?_
       refine fB F h (λF h=>?_) λF h=>?_
       ·exact zX (z:=avO _ g11 h zW)
       ·refine zC F h λF h=>?_
        refine dz (s11.length+1) 32 F λF=>?_
        refine zF (bt aP s11 [(⟨e7.id,((i11:Nat):Int),e12,e13⟩:aO)] (c:=[[.val (.int .i64 e7.id),.val (.int .i64 ((i11:Nat):Int)),.val (.int .i64 e12),.val (.int .i64 e13)]]) rfl) F λF=>?_
        exact zX (z:=avO _ (g11+1) h zW)
      ·intro i11 s11 g11 _ F h;try dsimp only at h
       exact zX (z:=Ns6 _ (g6.1,g11) h zW)
    ·exact gJ h
   ·refine zB F h (λF h=>?_) λF h=>?_
    ·refine zC F h λF h=>?_
     refine dz (s6.1.length+1) 40 F λF=>?_
     refine zF (bt ag s6.1 [e7] (c:=[[.val (.int .i64 e7.id),.val (.int .i64 e7.type),.aL (e7.values.map encI)]]) rfl) F λF=>?_
     exact zX (z:=Ns6 _ (g6.1+1,g6.2) h zW)
    ·refine zV ?_;refine zN F h (g6.2:Nat) [4,6,7,8,9,10,12,13,38,39,40,79,80] (λx=>[(81,.p (.val (.int .i64 ((x.1.1:Nat):Int))))]) [4,12,6393] (λx H=>[(6,bx (H 6) [(4,.row 6394 x.2)]),(6394,.row x.2 116 4 (x.1.2.map aP))]) ?_ ?_
     ·intro i14 s14 g14 _ _ F aia h;try dsimp only at h
      refine zI encI F h λe15 F h=>?_
      refine zA ag F h λe16 F h=>?_
      refine zI encI F h λe17 F h=>?_
      refine fB F h (λF h=>?_) λF h=>?_
      ·exact zX (z:=aia _ g14 h zW)
      ·refine zC F h λF h=>?_
       refine dz (s14.length+1) 32 F λF=>?_
       refine zF (bt aP s14 [(⟨e7.id,((i14:Nat):Int),e15,e17⟩:aO)] (c:=[[.val (.int .i64 e7.id),.val (.int .i64 ((i14:Nat):Int)),.val (.int .i64 e15),.val (.int .i64 e17)]]) rfl) F λF=>?_
       exact zX (z:=aia _ (g14+1) h zW)
     ·intro i14 s14 g14 _ F h;try dsimp only at h
      exact zX (z:=Ns6 _ (g6.1,g14) h zW)
 ·intro i6 s6 g6 _ F h;try dsimp only at h
  refine zV ?_;refine zN F h (0:Nat) [4,6,7,8,9,10,110,111] (λx=>[(112,.p (.val (.int .i64 ((x.1.1:Nat):Int))))]) [4,6393,6394] (λx H=>[(6,bx (H 6) [(1,.row 6537 x.2)]),(6537,.row x.2 125 4 (x.1.2.map ak))]) ?_ ?_ (hw:=by refine c8.trans (bK 6 1 6537 125 4 _ rfl rfl rfl (by decide)) ?_;exact zW)
  ·intro i18 s18 g18 _ _ F aCc h;try dsimp only at h
   refine zI ak F h λe19 F h=>?_
   refine zK F h (sS _ _) λr20 h=>?_
   refine eD 18 [] ?_;refine vl F h (sU _ _) λr21 h=>?_
   refine arn F h (λF h=>?_) λF h=>?_
   ·exact gJ h
   ·refine zBd F h (λF h=>?_) λF h=>?_
    ·refine zA ak F h λe22 F h=>?_
     refine fB F h (λF h=>?_) λF h=>?_
     ·refine zB F h (λF h=>?_) λF h=>?_
      ·refine zC F h λF h=>?_
       refine dz (s18.length+1) 32 F λF=>?_
       refine zF (bt ak s18 [e19] (c:=[[.val (.int .i64 e19.id),.val (.int .i64 e19.type),.val (.int .i64 e19.src),.val (.int .i64 e19.dst)]]) rfl) F λF=>?_
       exact zX (z:=aCc _ (g18+1) h zW)
      ·exact zX (z:=aCc _ g18 h zW)
     ·exact gJ h
    ·refine zB F h (λF h=>?_) λF h=>?_
     ·refine zC F h λF h=>?_
      refine dz (s18.length+1) 32 F λF=>?_
      refine zF (bt ak s18 [e19] (c:=[[.val (.int .i64 e19.id),.val (.int .i64 e19.type),.val (.int .i64 e19.src),.val (.int .i64 e19.dst)]]) rfl) F λF=>?_
      exact zX (z:=aCc _ (g18+1) h zW)
     ·exact zX (z:=aCc _ g18 h zW)
  ·intro i18 s18 g18 _ F h;try dsimp only at h
   refine zV ?_;refine zN F h (0:Nat) [4,6,7,8,10,149,150] (λx=>[(151,.p (.val (.int .i64 ((x.1.1:Nat):Int))))]) [4,6393,6537,6394] (λx H=>[(6,bx (H 6) [(2,.row 6580 x.2)]),(6580,.row x.2 96 3 (x.1.2.map ag))]) ?_ ?_ (hw:=by refine c8.trans (bK 6 2 6580 96 3 _ rfl rfl rfl (by decide)) ?_;exact zW)
   ·intro i23 s23 g23 _ _ F aFa h;try dsimp only at h
    refine zI ag F h λe24 F h=>?_
    refine zK F h (sU _ _) λr25 h=>?_
    refine zB F h (λF h=>?_) λF h=>?_
    ·refine zC F h λF h=>?_
     refine dz (s23.length+1) 40 F λF=>?_
     refine zF (bt ag s23 [e24] (c:=[[.val (.int .i64 e24.id),.val (.int .i64 e24.type),.aL (e24.values.map encI)]]) rfl) F λF=>?_
     exact zX (z:=aFa _ (g23+1) h zW)
    ·exact zX (z:=aFa _ g23 h zW)
   ·intro i23 s23 g23 _ F h;try dsimp only at h
    refine zV ?_;refine zN F h (0:Nat) [4,6,8,167,168] (λx=>[(169,.p (.val (.int .i64 ((x.1.1:Nat):Int))))]) [4,6393,6537,6580,6394] (λx H=>[(6,bx (H 6) [(3,.row 6601 x.2)]),(6601,.row x.2 125 4 (x.1.2.map ak))]) ?_ ?_ (hw:=by refine c8.trans (bK 6 3 6601 125 4 _ rfl rfl rfl (by decide)) ?_;exact zW)
    ·intro i26 s26 g26 _ _ F aFb h;try dsimp only at h
     refine zI ak F h λe27 F h=>?_
     refine zK F h (sS _ _) λr28 h=>?_
     refine zB F h (λF h=>?_) λF h=>?_
     ·refine zC F h λF h=>?_
      refine dz (s26.length+1) 32 F λF=>?_
      refine zF (bt ak s26 [e27] (c:=[[.val (.int .i64 e27.id),.val (.int .i64 e27.type),.val (.int .i64 e27.src),.val (.int .i64 e27.dst)]]) rfl) F λF=>?_
      exact zX (z:=aFb _ (g26+1) h zW)
     ·exact zX (z:=aFb _ g26 h zW)
    ·intro i26 s26 g26 _ F h;try dsimp only at h
     exact gJ h
end
noncomputable section
theorem abF(a0:List Int)(a1:Int)(r:Bool)(h:rA a0 a1=some r):aD pw 331 [.aL (a0.map encI),.val (.int .i64 a1)] (λv=>v = .val (.bool r)):=by
 refine aD.gW ?_;refine aF [] func331 ntmps331 results331 ?_;unfold rA at h;have F:=trivial;refine zK F h (jl _ _) λr2 h=>?_
 exact zR h
theorem aaa(a0:ay)(a1:ay)(r:aQ×Bool)(h:je a0 a1=some r):bl pw 51 [.agg (az a0),.agg (az a1)] (λv=>v = .dH [.agg [.row 96 3 (r.1.aG.map ag),.row 125 4 (r.1.aM.map ak),.row 96 3 (r.1.aV.map ag),.row 125 4 (r.1.bn.map ak),.row 116 4 (r.1.values.map aP),.p (.val (.int .i64 r.1.next.x0)),.p (.val (.int .i64 r.1.next.x1))],.p (.val (.bool r.2))]):=by
 refine bl.qX ?_;refine bz [100] func51 ntmps51 results51 ?_;unfold je at h;have F:=trivial;refine zK F h (yC _ _) λr2 h=>?_
 refine fB F h (λF h=>?_) λF h=>?_
 ·refine zG 1416 F h (pG _ _) λr3 h=>?_
  refine zG 1544 F h (pG _ _) λr4 h=>?_
  refine zV ?_;refine zN F h (0:Nat) [2,3,4,6] (λx=>[(7,.p (.val (.int .i64 ((x.1.1:Nat):Int))))]) [2,3,4,1416,1417,1544,1545] (λx H=>[(6,bx (H 6) [(4,.row 7551 x.2)]),(7551,.row x.2 116 4 (x.1.2.map aP))]) ?_ ?_ (hw:=by refine c8.trans (bK 6 4 7551 116 4 _ rfl rfl rfl (by decide)) ?_;exact zW)
  ·intro i5 s5 g5 _ _ F Ns5 h;try dsimp only at h
   refine eD 9 [] ?_;refine zI encI F h λe6 F h=>?_
   refine vl F h (di _ _) λr7 h=>?_
   refine zB F h (λF h=>?_) λF h=>?_
   ·exact zX (z:=Ns5 _ g5 h zW)
   ·refine zV ?_;refine zL F h (g5:Nat) [2,3,4,6,7,8] (λx=>[(9,.p (.val (.int .i64 x.1.1)))]) [2,3,4,1416,1417,1544,1545] (λx H=>[(6,bx (H 6) [(4,.row 7551 x.2)]),(7551,.row x.2 116 4 (x.1.2.map aP))]) ?_;intro s8 g8 _ _ F Ns8 h;try dsimp only at h
    refine zI bw F h λe9 F h=>?_
    refine zB F h (λF h=>?_) λF h=>?_
    ·refine eD 20 [] ?_;refine zA encI F h λpE F h=>?_
     refine zA bw F h λe11 F h=>?_
     refine zA encI F h λe12 F h=>?_
     refine fB F h (λF h=>?_) λF h=>?_
     ·exact zX (z:=Ns8 _ g8 h zW)
     ·refine zE [(0,.p),(2,.q),(3,.q),(4,.q),(5,.q),(6,.q),(7,.q),(8,.q),(9,.q),(10,.q),(11,.p),(1,.q),(12,.w),(13,.q),(14,.w)] ?_;refine zC F h λF h=>?_
      refine dz (s8.2.length+1) 32 F λF=>?_
      refine zF (bt aP s8.2 [(⟨e6,s8.1,pE,e12⟩:aO)] (c:=[[.val (.int .i64 e6),.val (.int .i64 s8.1),.val (.int .i64 pE),.val (.int .i64 e12)]]) rfl) F λF=>?_
      exact zX (z:=Ns8 _ (g8+1) h zW)
    ·try dsimp only at h
     exact zX (z:=Ns5 _ g8 h zW)
  ·intro i5 s5 g5 _ F h;try dsimp only at h
   exact gJ h
 ·exact gJ h
end
noncomputable section
theorem aab(n:Nat):∀ (a0:aT) (r:Bool) (h:bI n a0=some r),aD pw 280 [.agg (aX a0)] (λv=>v = .val (.bool r)):=by
 induction n with
 |zero=>intro a0 r h;cases h
 |succ n ih =>
 intro a0 r h;refine aD.gW ?_;refine aF [] func280 ntmps280 results280 ?_;unfold bI at h;have F:=trivial;refine zB F h (λF h=>?_) λF h=>?_
 ·refine gx F h (λF h=>?_) λF h=>?_
  ·refine zK F h (o9 _) λr1 h=>?_
   refine gx F h (λF h=>?_) λF h=>?_
   ·refine zK F h (fu _ (λx2=>cq (λy0=>bI n y0) x2) 323 [] [] (λx2 r h=>iD (λy0=>bI n y0) ih x2 r h)) λr3 h=>?_
    exact zR h
   ·exact zR h
  ·exact zR h
 ·refine zB F h (λF h=>?_) λF h=>?_
  ·refine gx F h (λF h=>?_) λF h=>?_
   ·refine zK F h (o9 _) λr4 h=>?_
    refine gx F h (λF h=>?_) λF h=>?_
    ·refine zK F h (fu _ (λx5=>cq (λy0=>bI n y0) x5) 323 [] [] (λx5 r h=>iD (λy0=>bI n y0) ih x5 r h)) λr6 h=>?_
     exact zR h
    ·exact zR h
   ·exact zR h
  ·refine zB F h (λF h=>?_) λF h=>?_
   ·refine gx F h (λF h=>?_) λF h=>?_
    ·refine zK F h (o9 _) λr7 h=>?_
     refine gx F h (λF h=>?_) λF h=>?_
     ·refine zK F h (fu _ (λx8=>cq (λy0=>bI n y0) x8) 323 [] [] (λx8 r h=>iD (λy0=>bI n y0) ih x8 r h)) λr9 h=>?_
      exact zR h
     ·exact zR h
    ·exact zR h
   ·refine zB F h (λF h=>?_) λF h=>?_
    ·refine gx F h (λF h=>?_) λF h=>?_
     ·refine zK F h (o9 _) λtT h=>?_
      refine gx F h (λF h=>?_) λF h=>?_
      ·refine zK F h (fu _ (λx11=>cq (λy0=>bI n y0) x11) 323 [] [] (λx11 r h=>iD (λy0=>bI n y0) ih x11 r h)) λy5 h=>?_
       exact zR h
      ·exact zR h
     ·exact zR h
    ·refine zB F h (λF h=>?_) λF h=>?_
     ·refine gx F h (λF h=>?_) λF h=>?_
      ·refine zK F h (fu _ (λx13=>cq (λy0=>bI n y0) x13) 323 [] [] (λx13 r h=>iD (λy0=>bI n y0) ih x13 r h)) λr14 h=>?_
       exact zR h
      ·exact zR h
     ·exact zR h
theorem afG(a0:dF)(a1:dF)(r:Bool)(h:sR a0 a1=some r):aD pw 195 [.agg (iL a0),.agg (iL a1)] (λv=>v = .val (.bool r)):=by
 refine aD.gW ?_;refine aF [] func195 ntmps195 results195 ?_;unfold sR at h;have F:=trivial;refine zK F h (nJ _ _) λr2 h=>?_
 refine gx F h (λF h=>?_) λF h=>?_
 ·refine zK F h (dR _ _) λr3 h=>?_
  exact zR h
 ·exact zR h
end
noncomputable section
theorem abG(a0:Types)(a1:bE)(a2:bE)(a3:aY)(r:Int)(h:rD a0 a1 a2 a3=some r):aD pw 185 [.agg [.aL (a0.nodes.map aB),.aL (a0.ah.map aC)],.agg [.aL (a1.nodes.map encI),.aL (a1.ah.map aK)],.agg [.aL (a2.nodes.map encI),.aL (a2.ah.map aK)],.agg [.aL (a3.nodes.map encI),.aL (a3.ah.map encI)]] (λv=>v = .val (.int .i64 r)):=by
 refine aD.gW ?_;refine aF [] func185 ntmps185 results185 ?_;unfold rD at h;have F:=trivial;refine gx F h (λF h=>?_) λF h=>?_
 ·refine fB F h (λF h=>?_) λF h=>?_
  ·refine zG 1528 F h (aid _) λr4 h=>?_
   refine zV ?_;refine zN F h () [5,6,7,9,35,36] (λx=>[(37,.p (.val (.int .i64 ((x.1.1:Nat):Int))))]) [5,6,7,1528] (λx H=>[]) ?_ ?_
   ·intro i5 s5 g5 _ _ F Ns5 h;try dsimp only at h
    refine zI encI F h λe6 F h=>?_
    refine nv F h (λF h=>?_) λF h=>?_
    ·exact zR h
    ·refine zB F h (λF h=>?_) λF h=>?_
     ·exact zR h
     ·refine eD 16 [] ?_;refine zI encI F h λe7 F h=>?_
      refine zA sK F h λe8 F h=>?_
      refine zA encI F h λe9 F h=>?_
      refine zA mY F h λpE F h=>?_
      refine fB F h (λF h=>?_) λF h=>?_
      ·exact zX (z:=Ns5 _ () h zW)
      ·exact zR h
   ·intro i5 s5 g5 _ F h;try dsimp only at h
    refine zV ?_;refine zN F h () [5,6,7,69,70] (λx=>[(71,.p (.val (.int .i64 ((x.1.1:Nat):Int))))]) [5,6,7] (λx H=>[]) ?_ ?_
    ·intro i11 s11 g11 _ _ F avO h;try dsimp only at h
     refine zI encI F h λe12 F h=>?_
     refine nv F h (λF h=>?_) λF h=>?_
     ·exact zR h
     ·refine zB F h (λF h=>?_) λF h=>?_
      ·exact zR h
      ·refine eD 5 [.o,.o,.o,.o,.o,.w,.w,.s,.s] ?_;refine zI aK F h λe13 F h=>?_
       refine zA aK F h λe14 F h=>?_
       refine fB F h (λF h=>?_) λF h=>?_
       ·refine eD 20 [] ?_;refine zA encI F h λe15 F h=>?_
        refine zBd F h (λF h=>?_) λF h=>?_
        ·refine zA encI F h λe16 F h=>?_
         refine fB F h (λF h=>?_) λF h=>?_
         ·exact zX (z:=avO _ () h zW)
         ·exact zR h
        ·exact zR h
       ·exact zR h
    ·intro i11 s11 g11 _ F h;try dsimp only at h
     exact zR h
  ·exact zR h
 ·exact zR h
theorem vY(a0:bL)(a1:bL)(r:Bool)(h:nB a0 a1=some r):aD pw 244 [.agg (fc a0),.agg (fc a1)] (λv=>v = .val (.bool r)):=by
 refine aD.gW ?_;refine aF [] func244 ntmps244 results244 ?_;unfold nB at h;have F:=trivial;refine zK F h (alS _ _) λr2 h=>?_
 refine gx F h (λF h=>?_) λF h=>?_
 ·refine gx F h (λF h=>?_) λF h=>?_
  ·refine zK F h (uS _ _) λr3 h=>?_
   refine gx F h (λF h=>?_) λF h=>?_
   ·refine zK F h (uQ _ _) λr4 h=>?_
    exact zR h
   ·exact zR h
  ·exact zR h
 ·exact zR h
end
noncomputable section
theorem ou(a0:List aj)(a1:List aj)(r:Bool)(h:ff a0 a1=some r):aD pw 52 [.aL (a0.map ag),.aL (a1.map ag)] (λv=>v = .val (.bool r)):=by
 refine aD.gW ?_;refine aF [] func52 ntmps52 results52 ?_;unfold ff at h;have F:=trivial;refine fB F h (λF h=>?_) λF h=>?_
 ·refine zV ?_;refine zN F h () [0,1] (λx=>[(5,.p (.val (.int .i64 ((x.1.1:Nat):Int))))]) [] (λx H=>[]) ?_ ?_
  ·intro i2 s2 g2 _ _ F jL h;try dsimp only at h
   refine eD 10 [] ?_;refine zI ag F h λe3 F h=>?_
   refine zI ag F h λe4 F h=>?_
   refine vl F h (oP _ _) λr5 h=>?_
   refine fB F h (λF h=>?_) λF h=>?_
   ·exact zX (z:=jL _ () h zW)
   ·exact zR h
  ·intro i2 s2 g2 _ F h;try dsimp only at h
   exact zR h
 ·exact zR h
theorem jj(a0:aH)(a1:aj)(r:aH×Bool)(h:cg a0 a1=some r):aD pw 173 [.agg [.aL (a0.nodes.map ag),.aL (a0.ah.map ak)],.agg (ag a1)] (λv=>v = .dH [.agg [.aL (r.1.nodes.map ag),.aL (r.1.ah.map ak)],.val (.bool r.2)]):=by
 refine aD.gW ?_;refine aF [21,26] func173 ntmps173 results173 ?_;unfold cg at h;have F:=trivial;refine zV ?_;refine zN F h () [2,3,4] (λx=>[(6,.p (.val (.int .i64 ((x.1.1:Nat):Int))))]) [2,3,4] (λx H=>[]) ?_ ?_
 ·intro i2 s2 g2 _ _ F jL h;try dsimp only at h
  have Ws2:=F.2.2;refine eD 7 [] ?_;refine zI ag F h λe3 F h=>?_
  refine vl F h (oP _ _) λr4 h=>?_
  refine zB F h (λF h=>?_) λF h=>?_
  ·refine zE [(1,.q),(2,.q),(3,.q),(4,.q),(6,.b),(7,.b),(8,.b),(9,.b),(10,.b),(12,.b),(13,.b),(0,.w),(5,.s),(11,.w),(14,.q),(15,.w),(16,.q)] ?_;refine zC F h λF h=>?_
   refine zF (eq_true (gN (n:=3) (f:=ag) (λ_=>rfl) a0.nodes)) F λF=>?_
   refine zC F h λF h=>?_
   have w:=F.2;simp only[Ws2,toNat_natCast] at w;replace F:=And.intro F w;refine zF (eq_true (gN (n:=3) (f:=ag) (λ_=>rfl) a0.nodes)) F λF=>?_
   refine zC F h λF h=>?_
   refine dz ((a0.nodes.take i2).length) 40 F λF=>?_
   refine zF (eq_true (gN (n:=3) (f:=ag) (λ_=>rfl) (a0.nodes.take i2))) F λF=>?_
   refine zC F h λF h=>?_
   have w:=F.2;simp only[Ws2,toNat_natCast] at w;replace F:=And.intro F w;refine dz ((a0.nodes.take i2).length+(a0.nodes.drop (i64.wrap (((i2:Nat):Int)+1)).toNat).length) 40 F λF=>?_
   have w:=F.2;simp only[Ws2,toNat_natCast] at w;replace F:=And.intro F w;refine zF (eq_true (gN (n:=3) (f:=ag) (λ_=>rfl) (a0.nodes.drop (i64.wrap (((i2:Nat):Int)+1)).toNat))) F λF=>?_
   have w:=F.2;simp only[Ws2,toNat_natCast] at w;replace F:=And.intro F w;exact zR h
  ·exact zX (z:=jL _ () h zW)
 ·intro i2 s2 g2 _ F h;try dsimp only at h
  exact zR h
end
noncomputable section
theorem alT(a0:Types)(a1:bE)(r:Bool)(h:zu a0 a1=some r):aD pw 221 [.agg [.aL (a0.nodes.map aB),.aL (a0.ah.map aC)],.agg [.aL (a1.nodes.map encI),.aL (a1.ah.map aK)]] (λv=>v = .val (.bool r)):=by
 refine aD.gW ?_;refine aF [] func221 ntmps221 results221 ?_;unfold zu at h;have F:=trivial;refine zK F h (fL _ (λx2=>ry x2 (⟨a0.nodes,a0.ah⟩:Types)) 275 [] [.ez [.aL (((⟨a0.nodes,a0.ah⟩:Types).nodes).map aB),.aL (((⟨a0.nodes,a0.ah⟩:Types).ah).map aC)] 0] (λx2 r h=>ah9 x2 (⟨a0.nodes,a0.ah⟩:Types) r h)) λr3 h=>?_
 refine nv F h (λF h=>?_) λF h=>?_
 ·exact zR h
 ·refine zK F h (kV _ (λx4=>rz x4 (⟨a0.nodes,a0.ah⟩:Types)) 276 [] [.ez [.aL (((⟨a0.nodes,a0.ah⟩:Types).nodes).map aB),.aL (((⟨a0.nodes,a0.ah⟩:Types).ah).map aC)] 0] (λx4 r h=>ah8 x4 (⟨a0.nodes,a0.ah⟩:Types) r h)) λr5 h=>?_
  exact zR h
theorem aos(a0:Types)(a1:gf)(a2:Int)(r:Int)(h:abx a0 a1 a2=some r):aD pw 222 [.agg [.aL (a0.nodes.map aB),.aL (a0.ah.map aC)],.agg (jx a1),.val (.int .i64 a2)] (λv=>v = .val (.int .i64 r)):=by
 refine aD.gW ?_;refine aF [] func222 ntmps222 results222 ?_;unfold abx at h;have F:=trivial;refine zA bQ F h λe3 F h=>?_
 refine nv F h (λF h=>?_) λF h=>?_
 ·exact zR h
 ·refine zB F h (λF h=>?_) λF h=>?_
  ·exact zR h
  ·refine eD 15 [] ?_;refine zA encI F h λe4 F h=>?_
   refine vl F h (xP _ _) λr5 h=>?_
   refine nv F h (λF h=>?_) λF h=>?_
   ·exact zR h
   ·refine nv F h (λF h=>?_) λF h=>?_
    ·exact zR h
    ·refine nv F h (λF h=>?_) λF h=>?_
     ·exact zR h
     ·refine nv F h (λF h=>?_) λF h=>?_
      ·exact zR h
      ·refine nv F h (λF h=>?_) λF h=>?_
       ·exact zR h
       ·refine zB F h (λF h=>?_) λF h=>?_
        ·exact zR h
        ·refine zC F h λF h=>?_
         refine zF (eq_true (gN (n:=4) (f:=bQ) (λ_=>rfl) a1.right.slots)) F λF=>?_
         refine zK F h (oO _ (λx6=>tj x6 e3) 278 [] [.ez (bQ e3) 0] (λx6 r h=>aji x6 e3 r h)) λr7 h=>?_
         refine zB F h (λF h=>?_) λF h=>?_
         ·exact zR h
         ·exact zR h
theorem aaP(a0:ay)(r:Bool)(h:jt a0=some r):aD pw 33 [.agg (az a0)] (λv=>v = .val (.bool r)):=by
 refine aD.gW ?_;refine aF [] func33 ntmps33 results33 ?_;unfold jt at h;have F:=trivial;refine zK F h (aaO _) λr1 h=>?_
 refine gx F h (λF h=>?_) λF h=>?_
 ·exact zR h
 ·exact zR h
end
noncomputable section
theorem afH(n:Nat):∀ (a0:aT) (a1:aT) (r:Bool) (h:mK n a0 a1=some r),aD pw 245 [.agg (aX a0),.agg (aX a1)] (λv=>v = .val (.bool r)):=by
 induction n with
 |zero=>intro a0 a1 r h;cases h
 |succ n ih =>
 intro a0 a1 r h;refine aD.gW ?_;refine aF [] func245 ntmps245 results245 ?_;unfold mK at h;have F:=trivial;refine zD [.q,.q,.o,.o,.w,.w,.s,.s] ?_;refine gx F h (λF h=>?_) λF h=>?_
 ·refine zK F h (nJ _ _) λr2 h=>?_
  refine gx F h (λF h=>?_) λF h=>?_
  ·refine gx F h (λF h=>?_) λF h=>?_
   ·refine zK F h (dR _ _) λr3 h=>?_
    refine gx F h (λF h=>?_) λF h=>?_
    ·refine zK F h (pS _ _) λr4 h=>?_
     refine fB F h (λF h=>?_) λF h=>?_
     ·refine zK F h (uS _ _) λr5 h=>?_
      refine gx F h (λF h=>?_) λF h=>?_
      ·refine zK F h (uQ _ _) λr6 h=>?_
       refine gx F h (λF h=>?_) λF h=>?_
       ·refine zK F h (uB _ _ (λx7 x8=>mK n x7 x8) 245 [] [] (λx7 x8 r h=>ih x7 x8 r h)) λr9 h=>?_
        exact zR h
       ·exact zR h
      ·exact zR h
     ·exact zR h
    ·exact zR h
   ·exact zR h
  ·exact zR h
 ·exact zR h
theorem aac(a0:Host)(a1:Host)(r:Bool)(h:jd a0 a1=some r):aD pw 42 [.agg (gm a0),.agg (gm a1)] (λv=>v = .val (.bool r)):=by
 refine aD.gW ?_;refine aF [] func42 ntmps42 results42 ?_;unfold jd at h;have F:=trivial;refine zK F h (z7 _ _) λr2 h=>?_
 refine gx F h (λF h=>?_) λF h=>?_
 ·refine fB F h (λF h=>?_) λF h=>?_
  ·refine zV ?_;refine zN F h () [2,3] (λx=>[(5,.p (.val (.int .i64 ((x.1.1:Nat):Int))))]) [2,3] (λx H=>[]) ?_ ?_
   ·intro i3 s3 g3 _ _ F vL h;try dsimp only at h
    refine eD 12 [] ?_;refine zI bw F h λe4 F h=>?_
    refine zI bw F h λe5 F h=>?_
    refine vl F h (wA _ _) λr6 h=>?_
    refine fB F h (λF h=>?_) λF h=>?_
    ·exact zX (z:=vL _ () h zW)
    ·exact zR h
   ·intro i3 s3 g3 _ F h;try dsimp only at h
    exact zR h
  ·exact zR h
 ·exact zR h
theorem rO(a0:bC)(r:Types×ay)(h:gU a0=some r):bl pw 25 [.agg (cQ a0)] (λv=>v = .dH [.agg [.p (.aL (r.1.nodes.map aB)),.p (.aL (r.1.ah.map aC))],.agg [.row 3 1 (r.2.host.graph.nodes.map encI),.row 143 3 (r.2.host.graph.ah.map aK),.row 26 1 (r.2.host.values.map bw),.row 3 1 (r.2.nodes.map encI),.row 3 1 (r.2.ah.map encI),.p (.val (.int .i64 r.2.next))]]):=by
 refine bl.qX ?_;refine bz [2000002] func25 ntmps25 results25 ?_;unfold gU at h;have F:=trivial;refine zT F h (z6 _ _) λr1 h=>?_
 refine eD 5 [.f,.q,.q,.o,.w,.s,.q] ?_;refine zTd F h (rN _ _) λr2 h=>?_
 refine zH 1288 F h (sj _ _) λr3 h=>?_
 refine zD [.q,.o,.s,.w] ?_;exact gJ h
end
noncomputable section
theorem adU(a0:Int)(a1:List iT)(r:Int)(h:ql a0 a1=some r):aD pw 219 [.val (.int .i64 a0),.aL (a1.map cI)] (λv=>v = .val (.int .i64 r)):=by
 refine aD.gW ?_;refine aF [] func219 ntmps219 results219 ?_;unfold ql at h;have F:=trivial;refine nv F h (λF h=>?_) λF h=>?_
 ·exact zR h
 ·refine zB F h (λF h=>?_) λF h=>?_
  ·exact zR h
  ·refine zB F h (λF h=>?_) λF h=>?_
   ·exact zR h
   ·refine zV ?_;refine zN F h () [0,17,18] (λx=>[(19,.p (.val (.int .i64 ((x.1.1:Nat):Int))))]) [] (λx H=>[]) ?_ ?_
    ·intro i2 s2 g2 _ _ F jL h;try dsimp only at h
     refine zI cI F h λe3 F h=>?_
     refine zK F h (afE _ _) λr4 h=>?_
     refine fB F h (λF h=>?_) λF h=>?_
     ·exact zX (z:=jL _ () h zW)
     ·exact zR h
    ·intro i2 s2 g2 _ F h;try dsimp only at h
     exact zR h
theorem aaG(a0:Types)(a1:bE)(r:Bool)(h:qf a0 a1=some r):aD pw 234 [.agg [.aL (a0.nodes.map aB),.aL (a0.ah.map aC)],.agg [.aL (a1.nodes.map encI),.aL (a1.ah.map aK)]] (λv=>v = .val (.bool r)):=by
 refine aD.gW ?_;refine aF [] func234 ntmps234 results234 ?_;unfold qf at h;have F:=trivial;refine zK F h (fL _ (λx2=>oe x2 (⟨a0.nodes,a0.ah⟩:Types)) 288 [] [.ez [.aL (((⟨a0.nodes,a0.ah⟩:Types).nodes).map aB),.aL (((⟨a0.nodes,a0.ah⟩:Types).ah).map aC)] 0] (λx2 r h=>aeK x2 (⟨a0.nodes,a0.ah⟩:Types) r h)) λr3 h=>?_
 refine nv F h (λF h=>?_) λF h=>?_
 ·exact zR h
 ·refine zK F h (kV _ (λx4=>og x4 (⟨a0.nodes,a0.ah⟩:Types)) 289 [] [.ez [.aL (((⟨a0.nodes,a0.ah⟩:Types).nodes).map aB),.aL (((⟨a0.nodes,a0.ah⟩:Types).ah).map aC)] 0] (λx4 r h=>aeJ x4 (⟨a0.nodes,a0.ah⟩:Types) r h)) λr5 h=>?_
  exact zR h
theorem aeM(a0:Int)(a1:List Int)(r:(List Int))(h:u5 a0 a1=some r):bl pw 112 [.val (.int .i64 a0),.aL (a1.map encI)] (λv=>v = .row 3 1 (r.map encI)):=by
 refine bl.qX ?_;refine bz [10] func112 ntmps112 results112 ?_;unfold u5 at h;have F:=trivial;refine zC F h λF h=>?_
 refine zF (eq_true (show a0 * ((8:Nat):Int)<=140737488355328 by omega)) F λF=>?_
 refine zF (acq encI a0.toNat 0 (c:=[.val (.int .i64 0)]) rfl) F λF=>?_
 refine zV ?_;refine zN F h (0:Nat) [1,12] (λx=>[(5,.row 10 x.2),(13,.p (.val (.int .i64 ((x.1.1:Nat):Int))))]) [] (λx H=>[(10,.row x.2 3 1 (x.1.2.map encI))]) ?_ ?_
 ·intro i2 s2 g2 _ _ F jL h;try dsimp only at h
  refine zK F h (jl _ _) λr3 h=>?_
  refine fB F h (λF h=>?_) λF h=>?_
  ·refine zI encI F h λe4 F h=>?_
   refine zF (lK encI s2 i2 r3.1 (c:=[.val (.int .i64 r3.1)]) rfl) F λF=>?_
   exact zX (z:=jL _ g2 h zW)
  ·refine zI encI F h λe5 F h=>?_
   refine zF (lK encI s2 i2 (-1) (c:=[.val (.int .i64 (-1))]) rfl) F λF=>?_
   exact zX (z:=jL _ g2 h zW)
 ·intro i2 s2 g2 _ F h;try dsimp only at h
  exact gJ h
end
noncomputable section
theorem uG(a0:aH)(a1:aQ)(r:aH×Bool)(h:fZ a0 a1=some r):aD pw 99 [.agg [.aL (a0.nodes.map ag),.aL (a0.ah.map ak)],.agg (aJ a1)] (λv=>v = .dH [.agg [.aL (r.1.nodes.map ag),.aL (r.1.ah.map ak)],.val (.bool r.2)]):=by
 refine aD.gW ?_;refine aF [] func99 ntmps99 results99 ?_;unfold fZ at h;have F:=trivial;refine zV ?_;refine zL F h () [2,3,4] (λx=>[(6,.p (.val (.bool x.1.1))),(7,.p (.val (.int .i64 x.1.2.1)))]) [3,4] (λx H=>[(2,.box [.p (.aL (x.1.2.2.1.map ag)),.p (.aL (x.1.2.2.2.map ak))])]) ?_;intro s2 g2 _ _ F jL h;try dsimp only at h
 refine gx F h (λF h=>?_) λF h=>?_
 ·refine zB F h (λF h=>?_) λF h=>?_
  ·refine eD 9 [.p,.w,.q] ?_;refine zA ak F h λe3 F h=>?_
   refine vl F h (mj _ _) λr4 h=>?_
   exact zX (z:=jL _ () h zW)
  ·try dsimp only at h
   refine zV ?_;refine zL F h () [2,3,4] (λx=>[(6,.p (.val (.bool x.1.1))),(8,.p (.val (.int .i64 x.1.2.1)))]) [3,4] (λx H=>[(2,.box [.p (.aL (x.1.2.2.1.map ag)),.p (.aL (x.1.2.2.2.map ak))])]) ?_;intro s5 g5 _ _ F Ns5 h;try dsimp only at h
   refine gx F h (λF h=>?_) λF h=>?_
   ·refine zB F h (λF h=>?_) λF h=>?_
    ·refine eD 9 [.p,.w,.q] ?_;refine zA ag F h λe6 F h=>?_
     refine vl F h (jj _ _) λr7 h=>?_
     exact zX (z:=Ns5 _ () h zW)
    ·try dsimp only at h
     refine zV ?_;refine zL F h () [2,3,4] (λx=>[(6,.p (.val (.bool x.1.1))),(9,.p (.val (.int .i64 x.1.2.1)))]) [3,4] (λx H=>[(2,.box [.p (.aL (x.1.2.2.1.map ag)),.p (.aL (x.1.2.2.2.map ak))])]) ?_;intro s8 g8 _ _ F Ns8 h;try dsimp only at h
     refine gx F h (λF h=>?_) λF h=>?_
     ·refine zB F h (λF h=>?_) λF h=>?_
      ·refine eD 9 [.p,.w,.q] ?_;refine zA aP F h λe9 F h=>?_
       refine zTd F h (iS _ _) λtT h=>?_
       exact zX (z:=Ns8 _ () h zW)
      ·try dsimp only at h
       exact zR h
     ·try dsimp only at h
      exact zR h
   ·try dsimp only at h
    refine zV ?_;refine zL F h () [2,3,4] (λx=>[(6,.p (.val (.bool x.1.1))),(9,.p (.val (.int .i64 x.1.2.1)))]) [3,4] (λx H=>[(2,.box [.p (.aL (x.1.2.2.1.map ag)),.p (.aL (x.1.2.2.2.map ak))])]) ?_;intro s11 g11 _ _ F avO h;try dsimp only at h
    refine gx F h (λF h=>?_) λF h=>?_
    ·refine zB F h (λF h=>?_) λF h=>?_
     ·refine eD 9 [.p,.w,.q] ?_;refine zA aP F h λe12 F h=>?_
      refine zTd F h (iS _ _) λr13 h=>?_
      exact zX (z:=avO _ () h zW)
     ·try dsimp only at h
      exact zR h
    ·try dsimp only at h
     exact zR h
 ·try dsimp only at h
  refine zV ?_;refine zL F h () [2,3,4] (λx=>[(6,.p (.val (.bool x.1.1))),(8,.p (.val (.int .i64 x.1.2.1)))]) [3,4] (λx H=>[(2,.box [.p (.aL (x.1.2.2.1.map ag)),.p (.aL (x.1.2.2.2.map ak))])]) ?_;intro s14 g14 _ _ F aia h;try dsimp only at h
  refine gx F h (λF h=>?_) λF h=>?_
  ·refine zB F h (λF h=>?_) λF h=>?_
   ·refine eD 9 [.p,.w,.q] ?_;refine zA ag F h λe15 F h=>?_
    refine vl F h (jj _ _) λr16 h=>?_
    exact zX (z:=aia _ () h zW)
   ·try dsimp only at h
    refine zV ?_;refine zL F h () [2,3,4] (λx=>[(6,.p (.val (.bool x.1.1))),(9,.p (.val (.int .i64 x.1.2.1)))]) [3,4] (λx H=>[(2,.box [.p (.aL (x.1.2.2.1.map ag)),.p (.aL (x.1.2.2.2.map ak))])]) ?_;intro s17 g17 _ _ F aJs h;try dsimp only at h
    refine gx F h (λF h=>?_) λF h=>?_
    ·refine zB F h (λF h=>?_) λF h=>?_
     ·refine eD 9 [.p,.w,.q] ?_;refine zA aP F h λe18 F h=>?_
      refine zTd F h (iS _ _) λr19 h=>?_
      exact zX (z:=aJs _ () h zW)
     ·try dsimp only at h
      exact zR h
    ·try dsimp only at h
     exact zR h
  ·try dsimp only at h
   refine zV ?_;refine zL F h () [2,3,4] (λx=>[(6,.p (.val (.bool x.1.1))),(9,.p (.val (.int .i64 x.1.2.1)))]) [3,4] (λx H=>[(2,.box [.p (.aL (x.1.2.2.1.map ag)),.p (.aL (x.1.2.2.2.map ak))])]) ?_;intro s20 g20 _ _ F aJt h;try dsimp only at h
   refine gx F h (λF h=>?_) λF h=>?_
   ·refine zB F h (λF h=>?_) λF h=>?_
    ·refine eD 9 [.p,.w,.q] ?_;refine zA aP F h λe21 F h=>?_
     refine zTd F h (iS _ _) λr22 h=>?_
     exact zX (z:=aJt _ () h zW)
    ·try dsimp only at h
     exact zR h
   ·try dsimp only at h
    exact zR h
end
noncomputable section
theorem ov(a0:Types)(a1:bL)(r:Int)(h:jV a0 a1=some r):aD pw 176 [.agg [.aL (a0.nodes.map aB),.aL (a0.ah.map aC)],.agg (fc a1)] (λv=>v = .val (.int .i64 r)):=by
 refine aD.gW ?_;refine aF [56] func176 ntmps176 results176 ?_;unfold jV at h;have F:=trivial;refine zK F h (p7 _) λr2 h=>?_
 refine fB F h (λF h=>?_) λF h=>?_
 ·refine zK F h (nO _) λr3 h=>?_
  refine fB F h (λF h=>?_) λF h=>?_
  ·refine zK F h (fL _ (λx4=>mw x4 a0) 215 [] [.ez [.aL (a0.nodes.map aB),.aL (a0.ah.map aC)] 0] (λx4 r h=>acG x4 a0 r h)) λr5 h=>?_
   refine nv F h (λF h=>?_) λF h=>?_
   ·exact zR h
   ·refine zK F h (kV _ (λx6=>mz x6 a0) 216 [] [.ez [.aL (a0.nodes.map aB),.aL (a0.ah.map aC)] 0] (λx6 r h=>acF x6 a0 r h)) λr7 h=>?_
    refine zB F h (λF h=>?_) λF h=>?_
    ·exact zR h
    ·refine zK F h (kU _ _ _) λr8 h=>?_
     refine fB F h (λF h=>?_) λF h=>?_
     ·refine nv F h (λF h=>?_) λF h=>?_
      ·exact zR h
      ·refine zB F h (λF h=>?_) λF h=>?_
       ·exact zR h
       ·refine zC F h λF h=>?_
        refine zF (eq_true (show a1.vars * ((1:Nat):Int)<=140737488355328 by omega)) F λF=>?_
        refine zF (acq mY a1.vars.toNat false (c:=[.val (.bool false)]) rfl) F λF=>?_
        refine zV ?_;refine zN F h (0:Nat) [2,3,58,59] (λx=>[(8,.row 56 x.2),(60,.p (.val (.int .i64 ((x.1.1:Nat):Int))))]) [2,3] (λx H=>[(56,.row x.2 4 1 (x.1.2.map mY))]) ?_ ?_
        ·intro i9 s9 g9 _ _ F Ns9 h;try dsimp only at h
         refine zI bQ F h λpE F h=>?_
         refine zK F h (afF _ _ _) λw6 h=>?_
         refine gx F h (λF h=>?_) λF h=>?_
         ·refine zK F h (kU _ _ _) λy5 h=>?_
          refine gx F h (λF h=>?_) λF h=>?_
          ·refine zK F h (kU _ _ _) λr13 h=>?_
           refine fB F h (λF h=>?_) λF h=>?_
           ·refine zB F h (λF h=>?_) λF h=>?_
            ·refine zA mY F h λe14 F h=>?_
             refine zF (lK mY s9 pE.term.var.toNat true (c:=[.val (.bool true)]) rfl) F λF=>?_
             exact zX (z:=Ns9 _ g9 h zW)
            ·exact zX (z:=Ns9 _ g9 h zW)
           ·exact zR h
          ·exact zR h
         ·exact zR h
        ·intro i9 s9 g9 _ F h;try dsimp only at h
         refine zK F h (adU _ _) λr15 h=>?_
         refine fB F h (λF h=>?_) λF h=>?_
         ·refine zK F h (z8 _ _) λr16 h=>?_
          refine zB F h (λF h=>?_) λF h=>?_
          ·exact zR h
          ·exact zR h
         ·exact zR h
     ·exact zR h
  ·exact zR h
 ·exact zR h
end
noncomputable section
theorem kZ(a0:Types)(a1:ay)(r:Bool)(h:cU a0 a1=some r):aD pw 9 [.agg [.aL (a0.nodes.map aB),.aL (a0.ah.map aC)],.agg (az a1)] (λv=>v = .val (.bool r)):=by
 refine aD.gW ?_;refine aF [] func9 ntmps9 results9 ?_;unfold cU at h;have F:=trivial;refine zK F h (aaL _) λr2 h=>?_
 refine gx F h (λF h=>?_) λF h=>?_
 ·refine zK F h (aaP _) λr3 h=>?_
  exact zR h
 ·exact zR h
theorem pH(a0:ay)(a1:Bool)(a2:Int)(r:ay)(h:fR a0 a1 a2=some r):bl pw 104 [.agg (az a0),.val (.bool a1),.val (.int .i64 a2)] (λv=>v = .agg [.row 3 1 (r.host.graph.nodes.map encI),.row 143 3 (r.host.graph.ah.map aK),.row 26 1 (r.host.values.map bw),.row 3 1 (r.nodes.map encI),.row 3 1 (r.ah.map encI),.p (.val (.int .i64 r.next))]):=by
 refine bl.qX ?_;refine bz [] func104 ntmps104 results104 ?_;unfold fR at h;have F:=trivial;refine zG 1144 F h (qa _) λr3 h=>?_
 refine zB F h (λF h=>?_) λF h=>?_
 ·refine zV ?_;refine sJ 1144 0 96 3 (r3.nodes.map ag) [] (by simp -implicitDefEqProofs only[go_sem,F]<;>rfl) (by simp -implicitDefEqProofs only[go_sem,F]<;>and_intros<;>rfl) (by decide) ?_;refine sJ 1145 0 125 4 (r3.ah.map ak) [] (by simp -implicitDefEqProofs only[go_sem,F]<;>rfl) (by simp -implicitDefEqProofs only[go_sem,F]<;>and_intros<;>rfl) (by decide) ?_;refine eD 9 [.p,.w] ?_;refine zA ak F h λe4 F h=>?_
  refine vl F h (mj _ _) λr5 h=>?_
  refine zG 1544 F h (ji _ _) λr6 h=>?_
  exact gJ h
 ·refine zV ?_;refine sJ 1144 0 96 3 (r3.nodes.map ag) [] (by simp -implicitDefEqProofs only[go_sem,F]<;>rfl) (by simp -implicitDefEqProofs only[go_sem,F]<;>and_intros<;>rfl) (by decide) ?_;refine sJ 1145 0 125 4 (r3.ah.map ak) [] (by simp -implicitDefEqProofs only[go_sem,F]<;>rfl) (by simp -implicitDefEqProofs only[go_sem,F]<;>and_intros<;>rfl) (by decide) ?_;refine eD 9 [.p,.w] ?_;refine zA ag F h λe7 F h=>?_
  refine vl F h (jj _ _) λr8 h=>?_
  refine zG 1544 F h (ji _ _) λr9 h=>?_
  exact gJ h
end
noncomputable section
theorem aeN(a0:aT)(r:Int)(h:rB a0=some r):aD pw 229 [.agg (aX a0)] (λv=>v = .val (.int .i64 r)):=by
 refine aD.gW ?_;refine aF [] func229 ntmps229 results229 ?_;unfold rB at h;have F:=trivial;refine zK F h (aab fuel _) λr1 h=>?_
 refine fB F h (λF h=>?_) λF h=>?_
 ·refine zK F h (acI fuel _) λr2 h=>?_
  refine nv F h (λF h=>?_) λF h=>?_
  ·exact zR h
  ·refine zB F h (λF h=>?_) λF h=>?_
   ·exact zR h
   ·exact zR h
 ·exact zR h
theorem dX(a0:aQ)(a1:aQ)(r:Bool)(h:bR a0 a1=some r):aD pw 19 [.agg (aJ a0),.agg (aJ a1)] (λv=>v = .val (.bool r)):=by
 refine aD.gW ?_;refine aF [] func19 ntmps19 results19 ?_;unfold bR at h;have F:=trivial;refine zK F h (ou _ _) λr2 h=>?_
 refine gx F h (λF h=>?_) λF h=>?_
 ·refine zK F h (ou _ _) λr3 h=>?_
  refine gx F h (λF h=>?_) λF h=>?_
  ·refine zK F h (oq _ _) λr4 h=>?_
   refine gx F h (λF h=>?_) λF h=>?_
   ·refine zK F h (oq _ _) λr5 h=>?_
    refine gx F h (λF h=>?_) λF h=>?_
    ·refine fB F h (λF h=>?_) λF h=>?_
     ·refine zV ?_;refine zN F h () [2,3] (λx=>[(5,.p (.val (.int .i64 ((x.1.1:Nat):Int))))]) [2,3] (λx H=>[]) ?_ ?_
      ·intro i6 s6 g6 _ _ F Ns6 h;try dsimp only at h
       refine eD 11 [] ?_;refine zI aP F h λe7 F h=>?_
       refine zI aP F h λe8 F h=>?_
       refine fB F h (λF h=>?_) λF h=>?_
       ·exact zX (z:=Ns6 _ () h zW)
       ·exact zR h
      ·intro i6 s6 g6 _ F h;try dsimp only at h
       refine zF (avA (P:=pw) .eql 47 (by kernel_rfl)) F λF=>?_
       refine zV ?_;refine azD 47 3 rfl (by kernel_rfl) (by kernel_rfl) (by kernel_rfl) (by kernel_rfl) (by simp -implicitDefEqProofs only[go_sem,F]<;>first|exact⟨rfl,rfl⟩|rfl) (by simp -implicitDefEqProofs only[go_sem,F]<;>first|exact⟨rfl,rfl⟩|rfl) ?_;exact zR h
     ·exact zR h
    ·exact zR h
   ·exact zR h
  ·exact zR h
 ·exact zR h
end
noncomputable section
theorem abH(a0:Types)(a1:bE)(a2:bE)(r:Int)(h:rC a0 a1 a2=some r):aD pw 184 [.agg [.aL (a0.nodes.map aB),.aL (a0.ah.map aC)],.agg [.aL (a1.nodes.map encI),.aL (a1.ah.map aK)],.agg [.aL (a2.nodes.map encI),.aL (a2.ah.map aK)]] (λv=>v = .val (.int .i64 r)):=by
 refine aD.gW ?_;refine aF [] func184 ntmps184 results184 ?_;unfold rC at h;have F:=trivial;refine zK F h (p7 _) λr3 h=>?_
 refine fB F h (λF h=>?_) λF h=>?_
 ·obtain⟨l4,hl5,h⟩:=nY h;have hm6:l4.map yq=[[.aL (a1.nodes.map encI),.aL (a1.ah.map aK)],[.aL (a2.nodes.map encI),.aL (a2.ah.map aK)]]:=by cases hl5;rfl
  refine zV ?_;refine zN F h () [3,4,5,23] (λx=>[(22,.p (.aL (l4.map yq))),(24,.p (.val (.int .i64 ((x.1.1:Nat):Int))))]) [3,4,5] (λx H=>[]) ?_ ?_ (hw:=by exact aeu (by simp -implicitDefEqProofs only[go_sem,F,hm6]<;>and_intros<;>rfl))
  ·intro i7 s7 g7 _ _ F Ns7 h;try dsimp only at h
   refine zI yq F h λe8 F h=>?_
   refine zK F h (nO _) λr9 h=>?_
   refine fB F h (λF h=>?_) λF h=>?_
   ·exact zX (z:=Ns7 _ () h zW)
   ·exact zR h
  ·intro i7 s7 g7 _ F h;try dsimp only at h
   refine zK F h (aaG _ _) λtT h=>?_
   refine gx F h (λF h=>?_) λF h=>?_
   ·refine zK F h (aaG _ _) λw6 h=>?_
    refine fB F h (λF h=>?_) λF h=>?_
    ·exact zR h
    ·exact zR h
   ·exact zR h
 ·exact zR h
theorem kA(a0:ay)(a1:ay)(r:Bool)(h:eW a0 a1=some r):aD pw 13 [.agg (az a0),.agg (az a1)] (λv=>v = .val (.bool r)):=by
 refine aD.gW ?_;refine aF [] func13 ntmps13 results13 ?_;unfold eW at h;have F:=trivial;refine zK F h (aac _ _) λr2 h=>?_
 refine gx F h (λF h=>?_) λF h=>?_
 ·refine zK F h (jg _ _) λr3 h=>?_
  refine gx F h (λF h=>?_) λF h=>?_
  ·refine zK F h (jg _ _) λr4 h=>?_
   refine gx F h (λF h=>?_) λF h=>?_
   ·exact zR h
   ·exact zR h
  ·exact zR h
 ·exact zR h
end
noncomputable section
theorem agB(a0:bE)(a1:jZ)(r:Int)(h:uv a0 a1=some r):aD pw 291 [.agg [.aL (a0.nodes.map encI),.aL (a0.ah.map aK)],.agg [.aL (a1.nodes.map encI),.aL (a1.ah.map encI)]] (λv=>v = .val (.int .i64 r)):=by
 refine aD.gW ?_;refine aF [] func291 ntmps291 results291 ?_;unfold uv at h;have F:=trivial;refine zK F h (aaE _ _) λr2 h=>?_
 refine fB F h (λF h=>?_) λF h=>?_
 ·refine zK F h (aaE _ _) λr3 h=>?_
  refine fB F h (λF h=>?_) λF h=>?_
  ·refine zV ?_;refine zN F h () [2,3,28,29] (λx=>[(30,.p (.val (.int .i64 ((x.1.1:Nat):Int))))]) [2,3] (λx H=>[]) ?_ ?_
   ·intro i4 s4 g4 _ _ F Ns4 h;try dsimp only at h
    refine zI encI F h λe5 F h=>?_
    refine eD 22 [] ?_;refine zA aK F h λe6 F h=>?_
    refine vl F h (abF _ _) λr7 h=>?_
    refine zBd F h (λF h=>?_) λF h=>?_
    ·refine vl F h (abF _ _) λr8 h=>?_
     refine fB F h (λF h=>?_) λF h=>?_
     ·exact zX (z:=Ns4 _ () h zW)
     ·exact zR h
    ·exact zR h
   ·intro i4 s4 g4 _ F h;try dsimp only at h
    exact zR h
  ·exact zR h
 ·exact zR h
theorem mO(a0:Types)(a1:ay)(a2:ay)(r:aQ×Int)(h:dW a0 a1 a2=some r):bl pw 17 [.agg [.aL (a0.nodes.map aB),.aL (a0.ah.map aC)],.agg (az a1),.agg (az a2)] (λv=>v = .dH [.agg [.row 96 3 (r.1.aG.map ag),.row 125 4 (r.1.aM.map ak),.row 96 3 (r.1.aV.map ag),.row 125 4 (r.1.bn.map ak),.row 116 4 (r.1.values.map aP),.p (.val (.int .i64 r.1.next.x0)),.p (.val (.int .i64 r.1.next.x1))],.p (.val (.int .i64 r.2))]):=by
 refine bl.qX ?_;refine bz [] func17 ntmps17 results17 ?_;unfold dW at h;have F:=trivial;refine zK F h (lC _ _) λr3 h=>?_
 refine fB F h (λF h=>?_) λF h=>?_
 ·refine zK F h (lC _ _) λr4 h=>?_
  refine fB F h (λF h=>?_) λF h=>?_
  ·refine zG 1464 F h (sW _ _) λr5 h=>?_
   refine fB F h (λF h=>?_) λF h=>?_
   ·exact gJ h
   ·exact gJ h
  ·exact gJ h
 ·exact gJ h
end
noncomputable section
theorem alU(a0:Types)(a1:gf)(r:Int)(h:zv a0 a1=some r):aD pw 177 [.agg [.aL (a0.nodes.map aB),.aL (a0.ah.map aC)],.agg (jx a1)] (λv=>v = .val (.int .i64 r)):=by
 refine aD.gW ?_;refine aF [] func177 ntmps177 results177 ?_;unfold zv at h;have F:=trivial;refine zK F h (nO _) λr2 h=>?_
 refine fB F h (λF h=>?_) λF h=>?_
 ·refine zK F h (alT _ _) λr3 h=>?_
  refine fB F h (λF h=>?_) λF h=>?_
  ·refine gx F h (λF h=>?_) λF h=>?_
   ·refine zB F h (λF h=>?_) λF h=>?_
    ·exact zR h
    ·refine zB F h (λF h=>?_) λF h=>?_
     ·exact zR h
     ·refine zV ?_;refine zN F h () [2,3,46] (λx=>[(47,.p (.val (.int .i64 ((x.1.1:Nat):Int))))]) [2,3] (λx H=>[]) ?_ ?_
      ·intro i4 s4 g4 _ _ F Ns4 h;try dsimp only at h
       refine zK F h (aos _ _ _) λr5 h=>?_
       refine fB F h (λF h=>?_) λF h=>?_
       ·exact zX (z:=Ns4 _ () h zW)
       ·exact zR h
      ·intro i4 s4 g4 _ F h;try dsimp only at h
       exact zR h
   ·exact zR h
  ·exact zR h
 ·exact zR h
theorem rP(a0:Types)(a1:ay)(a2:ay)(r:aQ×Int)(h:eX a0 a1 a2=some r):bl pw 18 [.agg [.aL (a0.nodes.map aB),.aL (a0.ah.map aC)],.agg (az a1),.agg (az a2)] (λv=>v = .dH [.agg [.row 96 3 (r.1.aG.map ag),.row 125 4 (r.1.aM.map ak),.row 96 3 (r.1.aV.map ag),.row 125 4 (r.1.bn.map ak),.row 116 4 (r.1.values.map aP),.p (.val (.int .i64 r.1.next.x0)),.p (.val (.int .i64 r.1.next.x1))],.p (.val (.int .i64 r.2))]):=by
 refine bl.qX ?_;refine bz [] func18 ntmps18 results18 ?_;unfold eX at h;have F:=trivial;refine zK F h (gz _ _) λr3 h=>?_
 refine fB F h (λF h=>?_) λF h=>?_
 ·refine zK F h (gz _ _) λr4 h=>?_
  refine fB F h (λF h=>?_) λF h=>?_
  ·refine zG 1464 F h (aaa _ _) λr5 h=>?_
   refine fB F h (λF h=>?_) λF h=>?_
   ·exact gJ h
   ·exact gJ h
  ·exact gJ h
 ·exact gJ h
end
noncomputable section
theorem aot(a0:gf)(a1:gf)(r:Bool)(h:abz a0 a1=some r):aD pw 194 [.agg (jx a0),.agg (jx a1)] (λv=>v = .val (.bool r)):=by
 refine aD.gW ?_;refine aF [] func194 ntmps194 results194 ?_;unfold abz at h;have F:=trivial;refine gx F h (λF h=>?_) λF h=>?_
 ·refine gx F h (λF h=>?_) λF h=>?_
  ·refine zK F h (vY _ _) λr2 h=>?_
   refine gx F h (λF h=>?_) λF h=>?_
   ·refine zK F h (vY _ _) λr3 h=>?_
    refine gx F h (λF h=>?_) λF h=>?_
    ·refine zK F h (dR _ _) λr4 h=>?_
     refine gx F h (λF h=>?_) λF h=>?_
     ·refine zK F h (dR _ _) λr5 h=>?_
      refine gx F h (λF h=>?_) λF h=>?_
      ·refine zK F h (nJ _ _) λr6 h=>?_
       refine gx F h (λF h=>?_) λF h=>?_
       ·refine zK F h (afH fuel _ _) λr7 h=>?_
        exact zR h
       ·exact zR h
      ·exact zR h
     ·exact zR h
    ·exact zR h
   ·exact zR h
  ·exact zR h
 ·exact zR h
theorem rQ(a0:Types)(a1:ay)(a2:aQ)(a3:aQ)(r:aQ×Int)(h:fH a0 a1 a2 a3=some r):bl pw 21 [.agg [.aL (a0.nodes.map aB),.aL (a0.ah.map aC)],.agg (az a1),.agg (aJ a2),.agg (aJ a3)] (λv=>v = .dH [.agg [.row 96 3 (r.1.aG.map ag),.row 125 4 (r.1.aM.map ak),.row 96 3 (r.1.aV.map ag),.row 125 4 (r.1.bn.map ak),.row 116 4 (r.1.values.map aP),.p (.val (.int .i64 r.1.next.x0)),.p (.val (.int .i64 r.1.next.x1))],.p (.val (.int .i64 r.2))]):=by
 refine bl.qX ?_;refine bz [] func21 ntmps21 results21 ?_;unfold fH at h;have F:=trivial;refine zK F h (j8 _ _ _) λr4 h=>?_
 refine fB F h (λF h=>?_) λF h=>?_
 ·refine zK F h (yx _ _ _) λr5 h=>?_
  refine fB F h (λF h=>?_) λF h=>?_
  ·refine zG 1640 F h (sW _ _) λr6 h=>?_
   refine fB F h (λF h=>?_) λF h=>?_
   ·exact gJ h
   ·exact gJ h
  ·exact gJ h
 ·exact gJ h
end
noncomputable section
theorem wD(a0:Types)(a1:ay)(a2:eB)(r:ay)(h:hU a0 a1 a2=some r):bl pw 60 [.agg [.aL (a0.nodes.map aB),.aL (a0.ah.map aC)],.agg (az a1),.agg (dw a2)] (λv=>v = .agg [.row 3 1 (r.host.graph.nodes.map encI),.row 143 3 (r.host.graph.ah.map aK),.row 26 1 (r.host.values.map bw),.row 3 1 (r.nodes.map encI),.row 3 1 (r.ah.map encI),.p (.val (.int .i64 r.next))]):=by
 refine bl.qX ?_;refine bz [115,188] func60 ntmps60 results60 ?_;unfold hU at h;have F:=trivial;refine eD 8 [] ?_;refine eU ((0:Int)<=1) F λF=>?_
 refine eU ((1:Int)<((3:Nat):Int)) F λF=>?_
 refine eU ((0:Int)<=2) F λF=>?_
 refine eU ((2:Int)<((3:Nat):Int)) F λF=>?_
 refine zG 1352 F h (wv _) λr3 h=>?_
 refine eD 8 [] ?_;refine eU ((0:Int)<=0) F λF=>?_
 refine eU ((0:Int)<((3:Nat):Int)) F λF=>?_
 refine eU (¬ ((5:Int)=0)) F λF=>?_
 refine gx F h (λF h=>?_) λF h=>?_
 ·refine zB F h (λF h=>?_) λF h=>?_
  ·refine eD 9 [] ?_;refine zC F h λF h=>?_
   refine zAq bw F h λe4 qe4 F h=>?_
   refine zB F h (λF h=>?_) λF h=>?_
   ·refine eD 14 [.t] ?_;refine zC F h λF h=>?_
    refine zC F h λF h=>?_
    refine zA encI F h λe5 F h=>?_
    refine zF (lK encI e4 (((i64.wrap a2.x2).tmod ((e4.length:Nat):Int)).toNat) (i64.wrap (e5+1)) (c:=[.val (.int .i64 (i64.wrap (e5+1)))]) rfl) F λF=>?_
    refine zF (lK bw r3.host.values (((i64.wrap a2.x1).tmod ((a1.nodes.length:Nat):Int)).toNat) (e4.set (((i64.wrap a2.x2).tmod ((e4.length:Nat):Int)).toNat) (i64.wrap (e5+1))) (c:=[.aL ((e4.set (((i64.wrap a2.x2).tmod ((e4.length:Nat):Int)).toNat) (i64.wrap (e5+1))).map encI)]) rfl) F λF=>?_
    refine zV ?_;refine ahO 3 _ _ 1354 0 (((i64.wrap a2.x1).tmod ((a1.nodes.length:Nat):Int)).toNat) (((i64.wrap a2.x2).tmod ((e4.length:Nat):Int)).toNat) 26 1 0 3 (r3.host.values.map bw) (bw e4) (e4.map encI) (.val (.int .i64 (i64.wrap (e5+1)))) rfl (by simp -implicitDefEqProofs only[go_sem,F]<;>rfl) (by simp -implicitDefEqProofs only[go_sem,F]) (by simp -implicitDefEqProofs only[go_sem,F]) ⟨rfl,rfl⟩ (by simp -implicitDefEqProofs only[go_sem,F]<;>rfl) (by rw[getElem?_map,aEY qe4];rfl) rfl (by rw[length_map];omega) ?_;refine zV ?_;refine qc _ _ (kF 1354 0 26 1 0 3 1 ((r3.host.values.set (((i64.wrap a2.x1).tmod ((a1.nodes.length:Nat):Int)).toNat) (e4.set (((i64.wrap a2.x2).tmod ((e4.length:Nat):Int)).toNat) (i64.wrap (e5+1)))).map bw) (by decide) (by simp -implicitDefEqProofs only[go_sem,F]<;>rfl)) (by simp -implicitDefEqProofs only[go_sem,F]<;>rfl) (by first|trivial|(simp -implicitDefEqProofs only[go_sem,F]<;>trivial)) ?_;exact gJ h
   ·refine zV ?_;refine qc _ _ (kF 1354 0 26 1 0 3 1 (r3.host.values.map bw) (by decide) (by simp -implicitDefEqProofs only[go_sem,F]<;>rfl)) (by simp -implicitDefEqProofs only[go_sem,F]<;>rfl) (by first|trivial|(simp -implicitDefEqProofs only[go_sem,F]<;>trivial)) ?_;exact gJ h
  ·refine zF (show decide (((i64.wrap a2.x0).tmod 5)=1)=false from gd (by have w:=F;simp only[decide_eq_true_eq] at w;omega)) F λF=>?_
   refine zF (show decide (((i64.wrap a2.x0).tmod 5)=2)=false from gd (by have w:=F;simp only[decide_eq_true_eq] at w;omega)) F λF=>?_
   refine zF (show decide (((i64.wrap a2.x0).tmod 5)=3)=false from gd (by have w:=F;simp only[decide_eq_true_eq] at w;omega)) F λF=>?_
   refine zF (show decide (((i64.wrap a2.x0).tmod 5)=4)=false from gd (by have w:=F;simp only[decide_eq_true_eq] at w;omega)) F λF=>?_
   refine zV ?_;refine qc _ _ (kF 1354 0 26 1 0 3 1 (r3.host.values.map bw) (by decide) (by simp -implicitDefEqProofs only[go_sem,F]<;>rfl)) (by simp -implicitDefEqProofs only[go_sem,F]<;>rfl) (by first|trivial|(simp -implicitDefEqProofs only[go_sem,F]<;>trivial)) ?_;exact gJ h
 ·refine gx F h (λF h=>?_) λF h=>?_
  ·refine zB F h (λF h=>?_) λF h=>?_
   ·refine eD 4 [.f,.w] ?_;refine zC F h λF h=>?_
    refine zH 2216 F h (pH _ _ _) λr6 h=>?_
    exact gJ h
   ·refine zF (show decide (((i64.wrap a2.x0).tmod 5)=2)=false from gd (by have w:=F;simp only[decide_eq_true_eq] at w;omega)) F λF=>?_
    refine zF (show decide (((i64.wrap a2.x0).tmod 5)=3)=false from gd (by have w:=F;simp only[decide_eq_true_eq] at w;omega)) F λF=>?_
    refine zF (show decide (((i64.wrap a2.x0).tmod 5)=4)=false from gd (by have w:=F;simp only[decide_eq_true_eq] at w;omega)) F λF=>?_
    refine zV ?_;refine qc _ _ (kF 1354 0 26 1 0 3 1 (r3.host.values.map bw) (by decide) (by simp -implicitDefEqProofs only[go_sem,F]<;>rfl)) (by simp -implicitDefEqProofs only[go_sem,F]<;>rfl) (by first|trivial|(simp -implicitDefEqProofs only[go_sem,F]<;>trivial)) ?_;exact gJ h
  ·refine gx F h (λF h=>?_) λF h=>?_
   ·refine zB F h (λF h=>?_) λF h=>?_
    ·refine eD 4 [.f,.w] ?_;refine zC F h λF h=>?_
     refine zH 2408 F h (pH _ _ _) λr7 h=>?_
     exact gJ h
    ·refine zF (show decide (((i64.wrap a2.x0).tmod 5)=3)=false from gd (by have w:=F;simp only[decide_eq_true_eq] at w;omega)) F λF=>?_
     refine zF (show decide (((i64.wrap a2.x0).tmod 5)=4)=false from gd (by have w:=F;simp only[decide_eq_true_eq] at w;omega)) F λF=>?_
     refine zV ?_;refine qc _ _ (kF 1354 0 26 1 0 3 1 (r3.host.values.map bw) (by decide) (by simp -implicitDefEqProofs only[go_sem,F]<;>rfl)) (by simp -implicitDefEqProofs only[go_sem,F]<;>rfl) (by first|trivial|(simp -implicitDefEqProofs only[go_sem,F]<;>trivial)) ?_;exact gJ h
   ·refine zB F h (λF h=>?_) λF h=>?_
    ·refine eU ((0:Int)<=1) F λF=>?_
     refine eU ((1:Int)<((3:Nat):Int)) F λF=>?_
     refine eU ((0:Int)<=2) F λF=>?_
     refine eU ((2:Int)<((3:Nat):Int)) F λF=>?_
     refine zT F h (rN _ _) λr8 h=>?_
     refine zB F h (λF h=>?_) λF h=>?_
     ·refine zV ?_;refine avJ (kF 1354 0 26 1 0 3 1 (r3.host.values.map bw) (by decide) (by simp -implicitDefEqProofs only[go_sem,F]<;>rfl)) ?_;refine zE [(0,.p),(1,.p),(2,.p),(4,.p),(5,.p),(11,.p),(12,.p),(14,.b),(15,.b),(16,.b),(17,.b),(18,.p),(3,.q),(6,.q),(7,.q),(8,.q),(13,.b),(9,.w),(10,.w),(20,.b),(21,.b),(22,.b),(19,.w),(23,.w),(24,.q),(25,.q),(26,.w)] ?_;refine zJ 0 bw F h λe9 F h=>?_
      refine zJ 0 encI F h λpE F h=>?_
      refine zC F h λF h=>?_
      refine dz (r3.host.graph.nodes.length+1) 8 F λF=>?_
      refine zF (bt encI r3.host.graph.nodes [pE] (c:=[[.val (.int .i64 pE)]]) rfl) F λF=>?_
      refine zC F h λF h=>?_
      refine dz (r3.host.values.length+1) 24 F λF=>?_
      refine zF (bt bw r3.host.values [e9] (c:=[[.aL (e9.map encI)]]) rfl) F λF=>?_
      refine zE [(0,.p),(2,.q),(3,.q),(4,.p),(1,.q),(6,.b),(7,.b),(5,.w),(8,.p),(9,.q),(10,.w),(11,.q),(12,.w)] ?_;refine zC F h λF h=>?_
      refine dz (r3.nodes.length+1) 8 F λF=>?_
      refine zF (bt encI r3.nodes [r3.next] (c:=[[.val (.int .i64 r3.next)]]) rfl) F λF=>?_
      refine zV ?_;refine qc _ _ ((show True->c8 _ _ _ _ from λ_ C I L tm w hs=>⟨I,L,hs⟩) (by simp -implicitDefEqProofs only[go_sem,F]<;>rfl)) (by simp -implicitDefEqProofs only[go_sem,F]<;>rfl) (by first|trivial|(simp -implicitDefEqProofs only[go_sem,F]<;>trivial)) ?_;exact gJ h
     ·refine zV ?_;refine qc _ _ (kF 1354 0 26 1 0 3 1 (r3.host.values.map bw) (by decide) (by simp -implicitDefEqProofs only[go_sem,F]<;>rfl)) (by simp -implicitDefEqProofs only[go_sem,F]<;>rfl) (by first|trivial|(simp -implicitDefEqProofs only[go_sem,F]<;>trivial)) ?_;exact gJ h
    ·refine gx F h (λF h=>?_) λF h=>?_
     ·refine gx F h (λF h=>?_) λF h=>?_
      ·refine zB F h (λF h=>?_) λF h=>?_
       ·refine zE [(0,.p),(1,.p),(2,.p),(4,.q),(5,.q),(6,.q),(7,.q),(8,.q),(9,.q),(10,.q),(11,.q),(12,.q),(13,.q),(14,.q),(15,.q),(16,.q),(17,.p),(3,.q),(18,.w),(19,.q),(20,.q),(21,.q),(22,.w)] ?_;refine zC F h λF h=>?_
        refine eU (¬ ((5:Int)=0)) F λF=>?_
        refine zC F h λF h=>?_
        refine zC F h λF h=>?_
        refine zC F h λF h=>?_
        refine dz (r3.host.graph.ah.length+1) 24 F λF=>?_
        refine zF (bt aK r3.host.graph.ah [(⟨((i64.wrap a2.x1).tmod ((a0.ah.length:Nat):Int)),((i64.wrap ((i64.wrap a2.x1).tdiv 5)).tmod ((a1.nodes.length:Nat):Int)),((i64.wrap a2.x2).tmod ((a1.nodes.length:Nat):Int))⟩:Edge)] (c:=[[.val (.int .i64 ((i64.wrap a2.x1).tmod ((a0.ah.length:Nat):Int))),.val (.int .i64 ((i64.wrap ((i64.wrap a2.x1).tdiv 5)).tmod ((a1.nodes.length:Nat):Int))),.val (.int .i64 ((i64.wrap a2.x2).tmod ((a1.nodes.length:Nat):Int)))]]) rfl) F λF=>?_
        refine zE [(0,.p),(2,.q),(3,.q),(4,.p),(1,.q),(6,.b),(7,.b),(5,.w),(8,.p),(9,.q),(10,.w),(11,.q),(12,.w)] ?_;refine zC F h λF h=>?_
        refine dz (r3.ah.length+1) 8 F λF=>?_
        refine zF (bt encI r3.ah [r3.next] (c:=[[.val (.int .i64 r3.next)]]) rfl) F λF=>?_
        refine zV ?_;refine qc _ _ (kF 1354 0 26 1 0 3 1 (r3.host.values.map bw) (by decide) (by simp -implicitDefEqProofs only[go_sem,F]<;>rfl)) (by simp -implicitDefEqProofs only[go_sem,F]<;>rfl) (by first|trivial|(simp -implicitDefEqProofs only[go_sem,F]<;>trivial)) ?_;exact gJ h
       ·refine zV ?_;refine qc _ _ (kF 1354 0 26 1 0 3 1 (r3.host.values.map bw) (by decide) (by simp -implicitDefEqProofs only[go_sem,F]<;>rfl)) (by simp -implicitDefEqProofs only[go_sem,F]<;>rfl) (by first|trivial|(simp -implicitDefEqProofs only[go_sem,F]<;>trivial)) ?_;exact gJ h
      ·refine zV ?_;refine qc _ _ (kF 1354 0 26 1 0 3 1 (r3.host.values.map bw) (by decide) (by simp -implicitDefEqProofs only[go_sem,F]<;>rfl)) (by simp -implicitDefEqProofs only[go_sem,F]<;>rfl) (by first|trivial|(simp -implicitDefEqProofs only[go_sem,F]<;>trivial)) ?_;exact gJ h
     ·refine zV ?_;refine qc _ _ (kF 1354 0 26 1 0 3 1 (r3.host.values.map bw) (by decide) (by simp -implicitDefEqProofs only[go_sem,F]<;>rfl)) (by simp -implicitDefEqProofs only[go_sem,F]<;>rfl) (by first|trivial|(simp -implicitDefEqProofs only[go_sem,F]<;>trivial)) ?_;exact gJ h
end
noncomputable section
theorem aeO(a0:Types)(a1:bE)(a2:bE)(a3:aY)(r:bE×Int)(h:rH a0 a1 a2 a3=some r):bl pw 107 [.agg [.aL (a0.nodes.map aB),.aL (a0.ah.map aC)],.agg [.aL (a1.nodes.map encI),.aL (a1.ah.map aK)],.agg [.aL (a2.nodes.map encI),.aL (a2.ah.map aK)],.agg [.aL (a3.nodes.map encI),.aL (a3.ah.map encI)]] (λv=>v = .dH [.agg [.row 3 1 (r.1.nodes.map encI),.row 143 3 (r.1.ah.map aK)],.p (.val (.int .i64 r.2))]):=by
 refine bl.qX ?_;refine bz [51] func107 ntmps107 results107 ?_;unfold rH at h;have F:=trivial;refine zK F h (abH _ _ _) λr4 h=>?_
 refine fB F h (λF h=>?_) λF h=>?_
 ·refine zK F h (abG _ _ _ _) λr5 h=>?_
  refine fB F h (λF h=>?_) λF h=>?_
  ·refine zG 1544 F h (pN _) λr6 h=>?_
   refine zV ?_;refine zN F h (0:Nat) [6,8,12,37,38] (λx=>[(39,.p (.val (.int .i64 ((x.1.1:Nat):Int))))]) [6,8,1544] (λx H=>[(12,bx (H 12) [(0,.row 3478 x.2)]),(3478,.row x.2 3 1 (x.1.2.map encI))]) ?_ ?_ (hw:=by refine c8.trans (bK 12 0 3478 3 1 _ rfl rfl rfl (by decide)) ?_;exact zW)
   ·intro i7 s7 g7 _ _ F Ns7 h;try dsimp only at h
    refine zI encI F h λe8 F h=>?_
    refine zE [(0,.p),(2,.q),(3,.q),(4,.q),(5,.q),(6,.q),(7,.p),(1,.q),(8,.w),(9,.q),(10,.w)] ?_;refine zA encI F h λe9 F h=>?_
    refine zC F h λF h=>?_
    refine dz (s7.length+1) 8 F λF=>?_
    refine zF (bt encI s7 [e9] (c:=[[.val (.int .i64 e9)]]) rfl) F λF=>?_
    exact zX (z:=Ns7 _ (g7+1) h zW)
   ·intro i7 s7 g7 _ F h;try dsimp only at h
    exact gJ h
  ·exact gJ h
 ·exact gJ h
end
noncomputable section
theorem pI(a0:Types)(a1:ay)(a2:aQ)(r:ay×Int)(h:dU a0 a1 a2=some r):bl pw 57 [.agg [.aL (a0.nodes.map aB),.aL (a0.ah.map aC)],.agg (az a1),.agg (aJ a2)] (λv=>v = .dH [.agg [.row 3 1 (r.1.host.graph.nodes.map encI),.row 143 3 (r.1.host.graph.ah.map aK),.row 26 1 (r.1.host.values.map bw),.row 3 1 (r.1.nodes.map encI),.row 3 1 (r.1.ah.map encI),.p (.val (.int .i64 r.1.next))],.p (.val (.int .i64 r.2))]):=by
 refine bl.qX ?_;refine bz [] func57 ntmps57 results57 ?_;unfold dU at h;have F:=trivial;refine zK F h (wC _) λr3 h=>?_
 refine fB F h (λF h=>?_) λF h=>?_
 ·refine eU ((0:Int)<=0) F λF=>?_
  refine eU ((0:Int)<((2:Nat):Int)) F λF=>?_
  refine fB F h (λF h=>?_) λF h=>?_
  ·refine eD 6 [.o,.w,.s,.q] ?_;refine zTd F h (qa _) λr4 h=>?_
   refine vl F h (uG _ _) λr5 h=>?_
   refine fB F h (λF h=>?_) λF h=>?_
   ·refine zK F h (uE _ _) λr6 h=>?_
    refine fB F h (λF h=>?_) λF h=>?_
    ·refine eU ((0:Int)<=1) F λF=>?_
     refine eU ((1:Int)<((2:Nat):Int)) F λF=>?_
     refine zG 1768 F h (ji _ _) λr7 h=>?_
     refine zK F h (gz _ _) λr8 h=>?_
     refine fB F h (λF h=>?_) λF h=>?_
     ·exact gJ h
     ·exact gJ h
    ·exact gJ h
   ·exact gJ h
  ·exact gJ h
 ·exact gJ h
end
noncomputable section
theorem acJ(a0:Types)(a1:bL)(a2:Int)(r:Int)(h:pQ a0 a1 a2=some r):aD pw 282 [.agg [.aL (a0.nodes.map aB),.aL (a0.ah.map aC)],.agg (fc a1),.val (.int .i64 a2)] (λv=>v = .val (.int .i64 r)):=by
 refine aD.gW ?_;refine aF [] func282 ntmps282 results282 ?_;unfold pQ at h;have F:=trivial;refine zK F h (ov _ _) λr3 h=>?_
 refine fB F h (λF h=>?_) λF h=>?_
 ·refine zV ?_;refine zL F h () [4,7,8] (λx=>[]) [4] (λx H=>[(8,.box [.p (.val (.int .i64 x.1))])]) ?_;intro s4 g4 _ _ F Ns4 h;try dsimp only at h
  refine zB F h (λF h=>?_) λF h=>?_
  ·refine zK F h (oO _ (λx5=>kY x5 s4) 324 [] [.ez [.val (.int .i64 s4)] 0] (λx5 r h=>aaN x5 s4 r h)) λr6 h=>?_
   refine fB F h (λF h=>?_) λF h=>?_
   ·refine zV ?_;refine qc (rV [(4,.ptr 4 0),(7,.p (.val (.int .i64 r3))),(28,.p (.val (.int .i64 s4)))]) (bN [(4,.box [.p (.aL (a1.graph.nodes.map encI)),.p (.aL (a1.graph.ah.map aK)),.p (.aL (a1.slots.map bQ)),.p (.val (.int .i64 a1.vars)),.p (.aL (a1.tests.map cI))])]) zW (by simp -implicitDefEqProofs only[go_sem,F]<;>rfl) (by trivial) ?_;exact zX (z:=Ns4 _ () h zW)
   ·exact zR h
  ·try dsimp only at h
   exact zR h
 ·exact zR h
end
noncomputable section
theorem vZ(a0:Types)(a1:bE)(a2:bE)(a3:aY)(a4:Bool)(r:Int)(h:oM a0 a1 a2 a3 a4=some r):aD pw 182 [.agg [.aL (a0.nodes.map aB),.aL (a0.ah.map aC)],.agg [.aL (a1.nodes.map encI),.aL (a1.ah.map aK)],.agg [.aL (a2.nodes.map encI),.aL (a2.ah.map aK)],.agg [.aL (a3.nodes.map encI),.aL (a3.ah.map encI)],.val (.bool a4)] (λv=>v = .val (.int .i64 r)):=by
 refine aD.gW ?_;refine aF [] func182 ntmps182 results182 ?_;unfold oM at h;have F:=trivial;refine zK F h (abH _ _ _) λr5 h=>?_
 refine fB F h (λF h=>?_) λF h=>?_
 ·refine zK F h (abG _ _ _ _) λr6 h=>?_
  refine fB F h (λF h=>?_) λF h=>?_
  ·refine gx F h (λF h=>?_) λF h=>?_
   ·refine zK F h (abC _) λr7 h=>?_
    refine nv F h (λF h=>?_) λF h=>?_
    ·exact zR h
    ·refine zK F h (abC _) λr8 h=>?_
     refine zB F h (λF h=>?_) λF h=>?_
     ·exact zR h
     ·exact zR h
   ·exact zR h
  ·exact zR h
 ·exact zR h
end
noncomputable section
theorem aou(a0:jK)(a1:jK)(r:Bool)(h:abA a0 a1=some r):aD pw 116 [.agg (sL a0),.agg (sL a1)] (λv=>v = .val (.bool r)):=by
 refine aD.gW ?_;refine aF [] func116 ntmps116 results116 ?_;unfold abA at h;have F:=trivial;refine zK F h (aot _ _) λr2 h=>?_
 refine gx F h (λF h=>?_) λF h=>?_
 ·refine zK F h (afG _ _) λr3 h=>?_
  refine gx F h (λF h=>?_) λF h=>?_
  ·refine zK F h (abE _ _) λr4 h=>?_
   refine gx F h (λF h=>?_) λF h=>?_
   ·refine zK F h (abE _ _) λr5 h=>?_
    refine gx F h (λF h=>?_) λF h=>?_
    ·refine zK F h (nJ _ _) λr6 h=>?_
     refine gx F h (λF h=>?_) λF h=>?_
     ·refine zK F h (nJ _ _) λr7 h=>?_
      exact zR h
     ·exact zR h
    ·exact zR h
   ·exact zR h
  ·exact zR h
 ·exact zR h
end
noncomputable section
theorem aeP(a0:Types)(a1:bL)(a2:Host)(r:Int)(h:rF a0 a1 a2=some r):aD pw 232 [.agg [.aL (a0.nodes.map aB),.aL (a0.ah.map aC)],.agg (fc a1),.agg (gm a2)] (λv=>v = .val (.int .i64 r)):=by
 refine aD.gW ?_;refine aF [] func232 ntmps232 results232 ?_;unfold rF at h;have F:=trivial;refine zK F h (ov _ _) λr3 h=>?_
 refine fB F h (λF h=>?_) λF h=>?_
 ·refine zK F h (qZ _ _) λr4 h=>?_
  exact zR h
 ·exact zR h
end
noncomputable section
theorem yD(a0:bE)(a1:jZ)(r:Int)(h:o5 a0 a1=some r):aD pw 236 [.agg [.aL (a0.nodes.map encI),.aL (a0.ah.map aK)],.agg [.aL (a1.nodes.map encI),.aL (a1.ah.map encI)]] (λv=>v = .val (.int .i64 r)):=by
 refine aD.gW ?_;refine aF [] func236 ntmps236 results236 ?_;unfold o5 at h;have F:=trivial;refine zK F h (nO _) λr2 h=>?_
 refine fB F h (λF h=>?_) λF h=>?_
 ·refine zK F h (agB _ _) λr3 h=>?_
  exact zR h
 ·exact zR h
end
noncomputable section
theorem adV(a0:bE)(a1:jZ)(r:bE×aY×Int)(h:qm a0 a1=some r):bl pw 223 [.agg [.aL (a0.nodes.map encI),.aL (a0.ah.map aK)],.agg [.aL (a1.nodes.map encI),.aL (a1.ah.map encI)]] (λv=>v = .dH [.agg [.row 3 1 (r.1.nodes.map encI),.row 143 3 (r.1.ah.map aK)],.agg [.row 3 1 (r.2.1.nodes.map encI),.row 3 1 (r.2.1.ah.map encI)],.p (.val (.int .i64 r.2.2))]):=by
 refine bl.qX ?_;refine bz [37,74] func223 ntmps223 results223 ?_;unfold qm at h;have F:=trivial;refine zK F h (yD _ _) λr2 h=>?_
 refine fB F h (λF h=>?_) λF h=>?_
 ·refine zV ?_;refine zN F h (0:Nat) [2,3,4,5,8,23,24] (λx=>[(25,.p (.val (.int .i64 ((x.1.1:Nat):Int))))]) [2,3,4,5] (λx H=>[(8,bx (H 8) [(0,.row 2702 x.2)]),(2702,.row x.2 3 1 (x.1.2.map encI))]) ?_ ?_ (hw:=by refine c8.trans (bK 8 0 2702 3 1 _ rfl rfl rfl (by decide)) ?_;exact zW)
  ·intro i3 s3 g3 _ _ F vL h;try dsimp only at h
   refine zI encI F h λe4 F h=>?_
   refine zE [(0,.p),(2,.q),(3,.q),(4,.q),(5,.q),(6,.q),(7,.p),(1,.q),(8,.w),(9,.q),(10,.w)] ?_;refine zA encI F h λe5 F h=>?_
   refine zC F h λF h=>?_
   refine dz (s3.length+1) 8 F λF=>?_
   refine zF (bt encI s3 [e5] (c:=[[.val (.int .i64 e5)]]) rfl) F λF=>?_
   exact zX (z:=vL _ (g3+1) h zW)
  ·intro i3 s3 g3 _ F h;try dsimp only at h
   refine zV ?_;refine zN F h (0:Nat) [2,3,4,5,8,41,42] (λx=>[(43,.p (.val (.int .i64 ((x.1.1:Nat):Int))))]) [2,3,4,5,2702] (λx H=>[(8,bx (H 8) [(1,.row 2738 x.2)]),(2738,.row x.2 143 3 (x.1.2.map aK))]) ?_ ?_ (hw:=by refine c8.trans (bK 8 1 2738 143 3 _ rfl rfl rfl (by decide)) ?_;exact zW)
   ·intro i6 s6 g6 _ _ F Ns6 h;try dsimp only at h
    refine zI encI F h λe7 F h=>?_
    refine zA aK F h λe8 F h=>?_
    refine zK F h (jl _ _) λr9 h=>?_
    refine zK F h (jl _ _) λtT h=>?_
    refine zC F h λF h=>?_
    refine dz (s6.length+1) 24 F λF=>?_
    refine zF (bt aK s6 [(⟨e8.type,r9.1,tT.1⟩:Edge)] (c:=[[.val (.int .i64 e8.type),.val (.int .i64 r9.1),.val (.int .i64 tT.1)]]) rfl) F λF=>?_
    exact zX (z:=Ns6 _ (g6+1) h zW)
   ·intro i6 s6 g6 _ F h;try dsimp only at h
    refine zE [(0,.q),(1,.q),(2,.q),(4,.q),(5,.q),(3,.f),(6,.f),(7,.p),(8,.w),(9,.w),(10,.q)] ?_;refine zH 2280 F h (dQ _) λw6 h=>?_
    refine zH 2328 F h (dQ _) λy5 h=>?_
    exact gJ h
 ·exact gJ h
end
noncomputable section
theorem adW(n:Nat):∀ (a0:Types) (a1:bL) (a2:aT) (r:Int) (h:kQ n a0 a1 a2=some r),aD pw 230 [.agg [.aL (a0.nodes.map aB),.aL (a0.ah.map aC)],.agg (fc a1),.agg (aX a2)] (λv=>v = .val (.int .i64 r)):=by
 induction n with
 |zero=>intro a0 a1 a2 r h;cases h
 |succ n ih =>
 intro a0 a1 a2 r h;refine aD.gW ?_;refine aF [] func230 ntmps230 results230 ?_;unfold kQ at h;have F:=trivial;refine zB F h (λF h=>?_) λF h=>?_
 ·refine zB F h (λF h=>?_) λF h=>?_
  ·exact zR h
  ·refine zK F h (acJ _ _ _) λr3 h=>?_
   refine fB F h (λF h=>?_) λF h=>?_
   ·refine zK F h (o8 _ _ _) λr4 h=>?_
    refine fB F h (λF h=>?_) λF h=>?_
    ·refine zK F h (tV _ _ _) λr5 h=>?_
     refine fB F h (λF h=>?_) λF h=>?_
     ·refine zV ?_;refine zN F h () [3,4,51,52] (λx=>[(53,.p (.val (.int .i64 ((x.1.1:Nat):Int))))]) [3,4] (λx H=>[]) ?_ ?_
      ·intro i6 s6 g6 _ _ F Ns6 h;try dsimp only at h
       refine zI aX F h λe7 F h=>?_
       refine zK F h (ih _ _ _) λr8 h=>?_
       refine fB F h (λF h=>?_) λF h=>?_
       ·exact zX (z:=Ns6 _ () h zW)
       ·exact zR h
      ·intro i6 s6 g6 _ F h;try dsimp only at h
       exact zR h
     ·exact zR h
    ·exact zR h
   ·exact zR h
 ·refine zV ?_;refine zN F h () [3,4,51,52] (λx=>[(53,.p (.val (.int .i64 ((x.1.1:Nat):Int))))]) [3,4] (λx H=>[]) ?_ ?_
  ·intro i9 s9 g9 _ _ F Ns9 h;try dsimp only at h
   refine zI aX F h λpE F h=>?_
   refine zK F h (ih _ _ _) λw6 h=>?_
   refine fB F h (λF h=>?_) λF h=>?_
   ·exact zX (z:=Ns9 _ () h zW)
   ·exact zR h
  ·intro i9 s9 g9 _ F h;try dsimp only at h
   exact zR h
end
noncomputable section
theorem lu(a0:Types)(a1:ay)(a2:List eB)(r:ay)(h:eS a0 a1 a2=some r):aD pw 26 [.agg [.aL (a0.nodes.map aB),.aL (a0.ah.map aC)],.agg (az a1),.aL (a2.map dw)] (λv=>v = .agg (az r)):=by
 refine aD.gW ?_;refine aF [] func26 ntmps26 results26 ?_;unfold eS at h;have F:=trivial;refine zV ?_;refine zN F h () [2,3,4,6] (λx=>[(7,.p (.val (.int .i64 ((x.1.1:Nat):Int))))]) [3,6] (λx H=>[(4,.box [.p (.aL (x.1.2.1.map encI)),.p (.aL (x.1.2.2.1.map aK)),.p (.aL (x.1.2.2.2.1.map bw)),.p (.aL (x.1.2.2.2.2.1.map encI)),.p (.aL (x.1.2.2.2.2.2.1.map encI)),.p (.val (.int .i64 x.1.2.2.2.2.2.2))])]) ?_ ?_
 ·intro i3 s3 g3 _ _ F vL h;try dsimp only at h
  refine eD 7 [.w,.s] ?_;refine zI dw F h λe4 F h=>?_
  refine zTd F h (wD _ _ _) λr5 h=>?_
  refine zK F h (gz _ _) λr6 h=>?_
  refine zB F h (λF h=>?_) λF h=>?_
  ·exact zX (z:=vL _ () h zW)
  ·exact zX (z:=vL _ () h zW)
 ·intro i3 s3 g3 _ F h;try dsimp only at h
  exact zR h
end
noncomputable section
theorem yE(a0:Types)(a1:ay)(a2:aQ)(r:ay×Int)(h:gy a0 a1 a2=some r):bl pw 56 [.agg [.aL (a0.nodes.map aB),.aL (a0.ah.map aC)],.agg (az a1),.agg (aJ a2)] (λv=>v = .dH [.agg [.row 3 1 (r.1.host.graph.nodes.map encI),.row 143 3 (r.1.host.graph.ah.map aK),.row 26 1 (r.1.host.values.map bw),.row 3 1 (r.1.nodes.map encI),.row 3 1 (r.1.ah.map encI),.p (.val (.int .i64 r.1.next))],.p (.val (.int .i64 r.2))]):=by
 refine bl.qX ?_;refine bz [] func56 ntmps56 results56 ?_;unfold gy at h;have F:=trivial;refine zK F h (gz _ _) λr3 h=>?_
 refine fB F h (λF h=>?_) λF h=>?_
 ·refine zG 1304 F h (pI _ _ _) λr4 h=>?_
  exact gJ h
 ·exact gJ h
end
noncomputable section
theorem xo(a0:Types)(a1:bL)(a2:Host)(a3:aY)(r:(List Int)×Int)(h:oh a0 a1 a2 a3=some r):bl pw 183 [.agg [.aL (a0.nodes.map aB),.aL (a0.ah.map aC)],.agg (fc a1),.agg (gm a2),.agg [.aL (a3.nodes.map encI),.aL (a3.ah.map encI)]] (λv=>v = .dH [.row 3 1 (r.1.map encI),.p (.val (.int .i64 r.2))]):=by
 refine bl.qX ?_;refine bz [] func183 ntmps183 results183 ?_;unfold oh at h;have F:=trivial;refine zK F h (aeP _ _ _) λr4 h=>?_
 refine fB F h (λF h=>?_) λF h=>?_
 ·refine zK F h (vZ _ _ _ _ _) λr5 h=>?_
  refine fB F h (λF h=>?_) λF h=>?_
  ·refine zG 1512 F h (aeL _ _ _) λr6 h=>?_
   exact gJ h
  ·exact gJ h
 ·exact gJ h
end
noncomputable section
theorem wE(a0:dB)(r:Int)(h:lq a0=some r):aD pw 186 [.agg (gr a0)] (λv=>v = .val (.int .i64 r)):=by
 refine aD.gW ?_;refine aF [] func186 ntmps186 results186 ?_;unfold lq at h;have F:=trivial;refine zK F h (o8 _ _ _) λr1 h=>?_
 refine fB F h (λF h=>?_) λF h=>?_
 ·refine zK F h (yD _ _) λr2 h=>?_
  exact zR h
 ·exact zR h
end
noncomputable section
theorem agC(a0:bE)(a1:bE)(a2:jZ)(a3:aY)(r:jZ×Int)(h:uw a0 a1 a2 a3=some r):bl pw 108 [.agg [.aL (a0.nodes.map encI),.aL (a0.ah.map aK)],.agg [.aL (a1.nodes.map encI),.aL (a1.ah.map aK)],.agg [.aL (a2.nodes.map encI),.aL (a2.ah.map encI)],.agg [.aL (a3.nodes.map encI),.aL (a3.ah.map encI)]] (λv=>v = .dH [.agg [.row 3 1 (r.1.nodes.map encI),.row 3 1 (r.1.ah.map encI)],.p (.val (.int .i64 r.2))]):=by
 refine bl.qX ?_;refine bz [] func108 ntmps108 results108 ?_;unfold uw at h;have F:=trivial;refine zK F h (wE _) λr4 h=>?_
 refine fB F h (λF h=>?_) λF h=>?_
 ·refine zG 1432 F h (sV _) λr5 h=>?_
  refine zB F h (λF h=>?_) λF h=>?_
  ·exact gJ h
  ·refine zG 1640 F h (uF _) λr6 h=>?_
   refine zB F h (λF h=>?_) λF h=>?_
   ·exact gJ h
   ·refine zE [(0,.q),(1,.q),(2,.q),(3,.q),(4,.q),(5,.q),(6,.q),(8,.q),(9,.q),(10,.q),(11,.q),(12,.q),(13,.q),(14,.q),(7,.f),(15,.f),(16,.q),(17,.w),(18,.q)] ?_;refine zH 1816 F h (xk _ _ _) λr7 h=>?_
    refine zH 1944 F h (xk _ _ _) λr8 h=>?_
    exact gJ h
 ·exact gJ h
end
noncomputable section
theorem wF(a0:Types)(a1:ay)(a2:aQ)(a3:aQ)(r:aQ×Int)(h:fQ a0 a1 a2 a3=some r):bl pw 23 [.agg [.aL (a0.nodes.map aB),.aL (a0.ah.map aC)],.agg (az a1),.agg (aJ a2),.agg (aJ a3)] (λv=>v = .dH [.agg [.row 96 3 (r.1.aG.map ag),.row 125 4 (r.1.aM.map ak),.row 96 3 (r.1.aV.map ag),.row 125 4 (r.1.bn.map ak),.row 116 4 (r.1.values.map aP),.p (.val (.int .i64 r.1.next.x0)),.p (.val (.int .i64 r.1.next.x1))],.p (.val (.int .i64 r.2))]):=by
 refine bl.qX ?_;refine bz [] func23 ntmps23 results23 ?_;unfold fQ at h;have F:=trivial;refine zG 1272 F h (yE _ _ _) λr4 h=>?_
 refine fB F h (λF h=>?_) λF h=>?_
 ·refine zGs ([1272,1273,1274,1275,1276],1448) F h (pI _ _ _) λr5 h=>?_
  refine fB F h (λF h=>?_) λF h=>?_
  ·refine zGs ([1448,1449,1450,1451,1452],1608) F h (rP _ _ _) λr6 h=>?_
   exact gJ h
  ·exact gJ h
 ·exact gJ h
end
noncomputable section
theorem aie(a0:Types)(a1:gf)(a2:Host)(a3:dF)(r:Int)(h:vR a0 a1 a2 a3=some r):aD pw 106 [.agg [.aL (a0.nodes.map aB),.aL (a0.ah.map aC)],.agg (jx a1),.agg (gm a2),.agg (iL a3)] (λv=>v = .val (.int .i64 r)):=by
 refine aD.gW ?_;refine aF [] func106 ntmps106 results106 ?_;unfold vR at h;have F:=trivial;refine zK F h (vZ _ _ _ _ _) λr4 h=>?_
 refine fB F h (λF h=>?_) λF h=>?_
 ·refine zG 1480 F h (xo _ _ _ _) λr5 h=>?_
  refine fB F h (λF h=>?_) λF h=>?_
  ·refine zK F h (dR _ _) λr6 h=>?_
   refine fB F h (λF h=>?_) λF h=>?_
   ·exact zR h
   ·exact zR h
  ·exact zR h
 ·exact zR h
end
noncomputable section
theorem xq(a0:Types)(a1:bL)(a2:aT)(r:Int)(h:od a0 a1 a2=some r):aD pw 181 [.agg [.aL (a0.nodes.map aB),.aL (a0.ah.map aC)],.agg (fc a1),.agg (aX a2)] (λv=>v = .val (.int .i64 r)):=by
 refine aD.gW ?_;refine aF [] func181 ntmps181 results181 ?_;unfold od at h;have F:=trivial;refine zK F h (ov _ _) λr3 h=>?_
 refine fB F h (λF h=>?_) λF h=>?_
 ·refine zK F h (aeN _) λr4 h=>?_
  refine fB F h (λF h=>?_) λF h=>?_
  ·refine zK F h (adW fuel _ _ _) λr5 h=>?_
   exact zR h
  ·exact zR h
 ·exact zR h
end
noncomputable section
theorem aov(a0:gf)(r:Int)(h:aby a0=some r):aD pw 178 [.agg (jx a0)] (λv=>v = .val (.int .i64 r)):=by
 refine aD.gW ?_;refine aF [] func178 ntmps178 results178 ?_;unfold aby at h;have F:=trivial;refine zG 1208 F h (adV _ _) λr1 h=>?_
 refine fB F h (λF h=>?_) λF h=>?_
 ·refine zK F h (o8 _ _ _) λr2 h=>?_
  refine fB F h (λF h=>?_) λF h=>?_
  ·refine zK F h (tV _ _ _) λr3 h=>?_
   refine fB F h (λF h=>?_) λF h=>?_
   ·exact zR h
   ·exact zR h
  ·exact zR h
 ·exact zR h
end
noncomputable section
theorem alV(a0:Types)(a1:gf)(r:Int)(h:zw a0 a1=some r):aD pw 105 [.agg [.aL (a0.nodes.map aB),.aL (a0.ah.map aC)],.agg (jx a1)] (λv=>v = .val (.int .i64 r)):=by
 refine aD.gW ?_;refine aF [] func105 ntmps105 results105 ?_;unfold zw at h;have F:=trivial;refine zK F h (p7 _) λr2 h=>?_
 refine fB F h (λF h=>?_) λF h=>?_
 ·refine zK F h (ahY _) λr3 h=>?_
  refine fB F h (λF h=>?_) λF h=>?_
  ·refine zK F h (ov _ _) λr4 h=>?_
   refine fB F h (λF h=>?_) λF h=>?_
   ·refine zK F h (alU _ _) λr5 h=>?_
    refine fB F h (λF h=>?_) λF h=>?_
    ·refine zK F h (aov _) λr6 h=>?_
     refine fB F h (λF h=>?_) λF h=>?_
     ·refine zG 1704 F h (aib _) λr7 h=>?_
      refine zK F h (aic _ _ _ _) λr8 h=>?_
      refine fB F h (λF h=>?_) λF h=>?_
      ·refine zK F h (xq _ _ _) λr9 h=>?_
       exact zR h
      ·exact zR h
     ·exact zR h
    ·exact zR h
   ·exact zR h
  ·exact zR h
 ·exact zR h
end
noncomputable section
theorem aeQ(a0:Types)(a1:bL)(a2:aT)(a3:Host)(a4:dF)(a5:Bool)(r:Int)(h:rI a0 a1 a2 a3 a4 a5=some r):aD pw 239 [.agg [.aL (a0.nodes.map aB),.aL (a0.ah.map aC)],.agg (fc a1),.agg (aX a2),.agg (gm a3),.agg (iL a4),.val (.bool a5)] (λv=>v = .val (.int .i64 r)):=by
 refine aD.gW ?_;refine aF [] func239 ntmps239 results239 ?_;unfold rI at h;have F:=trivial;refine zK F h (xq _ _ _) λr6 h=>?_
 refine fB F h (λF h=>?_) λF h=>?_
 ·refine zK F h (qZ _ _) λr7 h=>?_
  refine fB F h (λF h=>?_) λF h=>?_
  ·refine zK F h (vZ _ _ _ _ _) λr8 h=>?_
   refine fB F h (λF h=>?_) λF h=>?_
   ·refine zG 1848 F h (xo _ _ _ _) λr9 h=>?_
    refine fB F h (λF h=>?_) λF h=>?_
    ·refine zK F h (dR _ _) λtT h=>?_
     refine fB F h (λF h=>?_) λF h=>?_
     ·exact zR h
     ·exact zR h
    ·exact zR h
   ·exact zR h
  ·exact zR h
 ·exact zR h
end
noncomputable section
theorem acK(a0:Types)(a1:bL)(a2:aT)(a3:Host)(a4:dF)(a5:Bool)(r:gn×Int)(h:pR a0 a1 a2 a3 a4 a5=some r):aD pw 190 [.agg [.aL (a0.nodes.map aB),.aL (a0.ah.map aC)],.agg (fc a1),.agg (aX a2),.agg (gm a3),.agg (iL a4),.val (.bool a5)] (λv=>v = .dH [.agg (jJ r.1),.val (.int .i64 r.2)]):=by
 refine aD.gW ?_;refine aF [] func190 ntmps190 results190 ?_;unfold pR at h;have F:=trivial;refine zK F h (aeQ _ _ _ _ _ _) λr6 h=>?_
 refine fB F h (λF h=>?_) λF h=>?_
 ·refine zK F h (wB fuel _ _ _) λr7 h=>?_
  exact zR h
 ·exact zR h
end
noncomputable section
theorem alW(a0:Types)(a1:gf)(a2:Host)(r:Int)(h:zx a0 a1 a2=some r):aD pw 64 [.agg [.aL (a0.nodes.map aB),.aL (a0.ah.map aC)],.agg (jx a1),.agg (gm a2)] (λv=>v = .val (.int .i64 r)):=by
 refine aD.gW ?_;refine aF [] func64 ntmps64 results64 ?_;unfold zx at h;have F:=trivial;refine zK F h (p7 _) λr3 h=>?_
 refine fB F h (λF h=>?_) λF h=>?_
 ·refine zK F h (alV _ _) λr4 h=>?_
  refine fB F h (λF h=>?_) λF h=>?_
  ·refine zK F h (qZ _ _) λr5 h=>?_
   exact zR h
  ·exact zR h
 ·exact zR h
end
noncomputable section
theorem aaQ(a0:Types)(a1:bL)(a2:aT)(a3:Host)(a4:dF)(a5:Bool)(r:Bool×Int)(h:nU a0 a1 a2 a3 a4 a5=some r):aD pw 109 [.agg [.aL (a0.nodes.map aB),.aL (a0.ah.map aC)],.agg (fc a1),.agg (aX a2),.agg (gm a3),.agg (iL a4),.val (.bool a5)] (λv=>v = .dH [.val (.bool r.1),.val (.int .i64 r.2)]):=by
 refine aD.gW ?_;refine aF [] func109 ntmps109 results109 ?_;unfold nU at h;have F:=trivial;refine zK F h (acK _ _ _ _ _ _) λr6 h=>?_
 refine zB F h (λF h=>?_) λF h=>?_
 ·exact zR h
 ·exact zR h
end
noncomputable section
theorem alX(a0:Types)(a1:gf)(a2:Host)(a3:dF)(r:jK×Int)(h:zQ a0 a1 a2 a3=some r):bl pw 65 [.agg [.aL (a0.nodes.map aB),.aL (a0.ah.map aC)],.agg (jx a1),.agg (gm a2),.agg (iL a3)] (λv=>v = .dH [.agg [.p (.val (.string r.1.rule.name)),.p (.aL (r.1.rule.left.graph.nodes.map encI)),.p (.aL (r.1.rule.left.graph.ah.map aK)),.p (.aL (r.1.rule.left.slots.map bQ)),.p (.val (.int .i64 r.1.rule.left.vars)),.p (.aL (r.1.rule.left.tests.map cI)),.p (.aL (r.1.rule.right.graph.nodes.map encI)),.p (.aL (r.1.rule.right.graph.ah.map aK)),.p (.aL (r.1.rule.right.slots.map bQ)),.p (.val (.int .i64 r.1.rule.right.vars)),.p (.aL (r.1.rule.right.tests.map cI)),.p (.aL (r.1.rule.keep.nodes.map encI)),.p (.aL (r.1.rule.keep.ah.map encI)),.p (.aL (r.1.rule.into.nodes.map encI)),.p (.aL (r.1.rule.into.ah.map encI)),.p (.val (.bool r.1.rule.injective)),.p (.val (.int .i64 r.1.rule.condition.kind)),.p (.aL (r.1.rule.condition.kids.map aX)),.p (.aL (r.1.rule.condition.map.nodes.map encI)),.p (.aL (r.1.rule.condition.map.ah.map encI)),.p (.aL (r.1.rule.condition.pattern.graph.nodes.map encI)),.p (.aL (r.1.rule.condition.pattern.graph.ah.map aK)),.p (.aL (r.1.rule.condition.pattern.slots.map bQ)),.p (.val (.int .i64 r.1.rule.condition.pattern.vars)),.p (.aL (r.1.rule.condition.pattern.tests.map cI)),.p (.aL (r.1.tN.ee.nodes.map encI)),.p (.aL (r.1.tN.ee.ah.map encI)),.p (.aL (r.1.tN.vars.map encI)),.p (.aL (r.1.before.graph.nodes.map encI)),.p (.aL (r.1.before.graph.ah.map aK)),.p (.aL (r.1.before.values.map bw)),.row 3 1 (r.1.after.graph.nodes.map encI),.row 143 3 (r.1.after.graph.ah.map aK),.row 26 1 (r.1.after.values.map bw),.p (.aL (r.1.tO.nodes.map encI)),.p (.aL (r.1.tO.ah.map encI)),.p (.aL (r.1.lP.nodes.map encI)),.p (.aL (r.1.lP.ah.map encI))],.p (.val (.int .i64 r.2))]):=by
 refine bl.qX ?_;refine bz [] func65 ntmps65 results65 ?_;unfold zQ at h;have F:=trivial;refine zK F h (aie _ _ _ _) λr4 h=>?_
 refine fB F h (λF h=>?_) λF h=>?_
 ·refine zG 1560 F h (aeO _ _ _ _) λr5 h=>?_
  refine fB F h (λF h=>?_) λF h=>?_
  ·refine zG 1800 F h (agC _ _ _ _) λr6 h=>?_
   refine fB F h (λF h=>?_) λF h=>?_
   ·refine zK F h (aaQ _ _ _ _ _ _) λr7 h=>?_
    refine fB F h (λF h=>?_) λF h=>?_
    ·refine fB F h (λF h=>?_) λF h=>?_
     ·refine eD 6 [.w,.s] ?_;refine zTd F h (afD _) λr8 h=>?_
      refine zTd F h (agA _) λr9 h=>?_
      refine zV ?_;refine sJ 1800 0 3 1 (r6.1.nodes.map encI) [] (by simp -implicitDefEqProofs only[go_sem,F]<;>rfl) (by simp -implicitDefEqProofs only[go_sem,F]<;>and_intros<;>rfl) (by decide) ?_;refine sJ 1801 0 3 1 (r6.1.ah.map encI) [] (by simp -implicitDefEqProofs only[go_sem,F]<;>rfl) (by simp -implicitDefEqProofs only[go_sem,F]<;>and_intros<;>rfl) (by decide) ?_;refine eD 16 [.w] ?_;refine zTd F h (aeM _ _) λtT h=>?_
      refine zTd F h (aeM _ _) λw6 h=>?_
      refine eD 44 [.w] ?_;refine zTd F h (abD _ _ _ _ _ _) λy5 h=>?_
      refine zTd F h (abD _ _ _ _ _ _) λr13 h=>?_
      refine zCH 15 F h (alR _ _ _) λr14 v15 h=>?_
      refine zC F h λF h=>?_
      refine aE3 ?_;refine nv F h (λF h=>?_) λF h=>?_
      ·exact gJ h
      ·refine zB F h (λF h=>?_) λF h=>?_
       ·exact gJ h
       ·exact gJ h
     ·exact gJ h
    ·exact gJ h
   ·exact gJ h
  ·exact gJ h
 ·exact gJ h
end
noncomputable section
theorem aeR(a0:Types)(a1:gf)(a2:Host)(a3:dF)(r:jK×Int)(h:u6 a0 a1 a2 a3=some r):bl pw 29 [.agg [.aL (a0.nodes.map aB),.aL (a0.ah.map aC)],.agg (jx a1),.agg (gm a2),.agg (iL a3)] (λv=>v = .dH [.agg [.p (.val (.string r.1.rule.name)),.p (.aL (r.1.rule.left.graph.nodes.map encI)),.p (.aL (r.1.rule.left.graph.ah.map aK)),.p (.aL (r.1.rule.left.slots.map bQ)),.p (.val (.int .i64 r.1.rule.left.vars)),.p (.aL (r.1.rule.left.tests.map cI)),.p (.aL (r.1.rule.right.graph.nodes.map encI)),.p (.aL (r.1.rule.right.graph.ah.map aK)),.p (.aL (r.1.rule.right.slots.map bQ)),.p (.val (.int .i64 r.1.rule.right.vars)),.p (.aL (r.1.rule.right.tests.map cI)),.p (.aL (r.1.rule.keep.nodes.map encI)),.p (.aL (r.1.rule.keep.ah.map encI)),.p (.aL (r.1.rule.into.nodes.map encI)),.p (.aL (r.1.rule.into.ah.map encI)),.p (.val (.bool r.1.rule.injective)),.p (.val (.int .i64 r.1.rule.condition.kind)),.p (.aL (r.1.rule.condition.kids.map aX)),.p (.aL (r.1.rule.condition.map.nodes.map encI)),.p (.aL (r.1.rule.condition.map.ah.map encI)),.p (.aL (r.1.rule.condition.pattern.graph.nodes.map encI)),.p (.aL (r.1.rule.condition.pattern.graph.ah.map aK)),.p (.aL (r.1.rule.condition.pattern.slots.map bQ)),.p (.val (.int .i64 r.1.rule.condition.pattern.vars)),.p (.aL (r.1.rule.condition.pattern.tests.map cI)),.p (.aL (r.1.tN.ee.nodes.map encI)),.p (.aL (r.1.tN.ee.ah.map encI)),.p (.aL (r.1.tN.vars.map encI)),.p (.aL (r.1.before.graph.nodes.map encI)),.p (.aL (r.1.before.graph.ah.map aK)),.p (.aL (r.1.before.values.map bw)),.row 3 1 (r.1.after.graph.nodes.map encI),.row 143 3 (r.1.after.graph.ah.map aK),.row 26 1 (r.1.after.values.map bw),.p (.aL (r.1.tO.nodes.map encI)),.p (.aL (r.1.tO.ah.map encI)),.p (.aL (r.1.lP.nodes.map encI)),.p (.aL (r.1.lP.ah.map encI))],.p (.val (.int .i64 r.2))]):=by
 refine bl.qX ?_;refine bz [] func29 ntmps29 results29 ?_;unfold u6 at h;have F:=trivial;refine zK F h (alW _ _ _) λr4 h=>?_
 refine fB F h (λF h=>?_) λF h=>?_
 ·refine zG 1368 F h (alX _ _ _ _) λr5 h=>?_
  exact gJ h
 ·exact gJ h
end
noncomputable section
theorem alY(a0:Types)(a1:jK)(r:Bool)(h:zY a0 a1=some r):aD pw 66 [.agg [.aL (a0.nodes.map aB),.aL (a0.ah.map aC)],.agg (sL a1)] (λv=>v = .val (.bool r)):=by
 refine aD.gW ?_;refine aF [] func66 ntmps66 results66 ?_;unfold zY at h;have F:=trivial;refine zG 1240 F h (aeR _ _ _ _) λr2 h=>?_
 refine gx F h (λF h=>?_) λF h=>?_
 ·refine zK F h (aou _ _) λr3 h=>?_
  exact zR h
 ·exact zR h
end
noncomputable section
theorem aif(a0:Types)(a1:ay)(a2:jK)(r:ay×aQ×Int)(h:vS a0 a1 a2=some r):bl pw 30 [.agg [.aL (a0.nodes.map aB),.aL (a0.ah.map aC)],.agg (az a1),.agg (sL a2)] (λv=>v = .dH [.agg [.p (.aL (r.1.host.graph.nodes.map encI)),.p (.aL (r.1.host.graph.ah.map aK)),.p (.aL (r.1.host.values.map bw)),.p (.aL (r.1.nodes.map encI)),.p (.aL (r.1.ah.map encI)),.p (.val (.int .i64 r.1.next))],.agg [.row 96 3 (r.2.1.aG.map ag),.row 125 4 (r.2.1.aM.map ak),.row 96 3 (r.2.1.aV.map ag),.row 125 4 (r.2.1.bn.map ak),.row 116 4 (r.2.1.values.map aP),.p (.val (.int .i64 r.2.1.next.x0)),.p (.val (.int .i64 r.2.1.next.x1))],.p (.val (.int .i64 r.2.2))]):=by
 refine bl.qX ?_;refine bz [2000006] func30 ntmps30 results30 ?_;unfold vS at h;have F:=trivial;refine zK F h (lC _ _) λr3 h=>?_
 refine fB F h (λF h=>?_) λF h=>?_
 ·refine zK F h (alY _ _) λr4 h=>?_
  refine fB F h (λF h=>?_) λF h=>?_
  ·refine zK F h (abE _ _) λr5 h=>?_
   refine fB F h (λF h=>?_) λF h=>?_
   ·refine zG 1624 F h (yz _) λr6 h=>?_
    refine zG 1864 F h (vX _ _ _ _) λr7 h=>?_
    refine zG 2152 F h (vX _ _ _ _) λr8 h=>?_
    refine zB F h (λF h=>?_) λF h=>?_
    ·exact gJ h
    ·refine zGs ([1624,1625,1626,1864,2152],2360) F h (sW _ _) λr9 h=>?_
     refine zD [.q,.o,.s,.w,.q] ?_;exact gJ h
   ·exact gJ h
  ·exact gJ h
 ·exact gJ h
end
noncomputable section
theorem bF  (r:Bool)(h:bu  = some r):aD pw 8 [] (λv=>v = .val (.bool r)):=by
 refine aD.gW ?_;refine aF [] func8 ntmps8 results8 ?_;unfold bu at h;have F:=trivial;refine zG 1160 F h wz λr1 h=>?_
 refine zGs ([1160,1161],1272) F h (adi _ _) λr2 h=>?_
 refine zGs ([1272,1273,1274],1528) F h (aeR _ _ _ _) λr3 h=>?_
 refine zGs ([1275,1276,1528,1529,1530],1640) F h (aif _ _ _) λr4 h=>?_
 refine gx F h (λF h=>?_) λF h=>?_
 ·refine gx F h (λF h=>?_) λF h=>?_
  ·refine gx F h (λF h=>?_) λF h=>?_
   ·refine gx F h (λF h=>?_) λF h=>?_
    ·refine zK F h (dR _ _) λr5 h=>?_
     refine gx F h (λF h=>?_) λF h=>?_
     ·refine gx F h (λF h=>?_) λF h=>?_
      ·refine gx F h (λF h=>?_) λF h=>?_
       ·refine zJ 0 ag F h λe6 F h=>?_
        exact zR h
       ·exact zR h
      ·exact zR h
     ·exact zR h
    ·exact zR h
   ·exact zR h
  ·exact zR h
 ·exact zR h
end
noncomputable section
theorem rR(a0:Types)(a1:ay)(a2:eF)(r:Bool)(h:eY a0 a1 a2=some r):aD pw 5 [.agg [.aL (a0.nodes.map aB),.aL (a0.ah.map aC)],.agg (az a1),.agg (gX a2)] (λv=>v = .val (.bool r)):=by
 refine aD.gW ?_;refine aF [] func5 ntmps5 results5 ?_;unfold eY at h;have F:=trivial;refine zK F h bF λr3 h=>?_
 refine gx F h (λF h=>?_) λF h=>?_
 ·refine zK F h (kZ _ _) λr4 h=>?_
  refine gx F h (λF h=>?_) λF h=>?_
  ·refine zK F h (oN _) λr5 h=>?_
   refine gx F h (λF h=>?_) λF h=>?_
   ·refine zK F h (oN _) λr6 h=>?_
    refine fB F h (λF h=>?_) λF h=>?_
    ·refine eD 12 [.o,.w,.s,.q] ?_;refine zTd F h (jF _) λr7 h=>?_
     refine zTd F h (nh _) λr8 h=>?_
     refine zTd F h (nh _) λr9 h=>?_
     refine zTd F h (rQ _ _ _ _) λtT h=>?_
     refine zG 1928 F h (wF _ _ _ _) λw6 h=>?_
     refine gx F h (λF h=>?_) λF h=>?_
     ·refine zK F h (dX _ _) λy5 h=>?_
      refine gx F h (λF h=>?_) λF h=>?_
      ·refine fB F h (λF h=>?_) λF h=>?_
       ·refine zK F h (j8 _ _ _) λr13 h=>?_
        refine zK F h (j8 _ _ _) λr14 h=>?_
        refine zK F h (j8 _ _ _) λr15 h=>?_
        refine gx F h (λF h=>?_) λF h=>?_
        ·refine gx F h (λF h=>?_) λF h=>?_
         ·refine gx F h (λF h=>?_) λF h=>?_
          ·refine zK F h (kA _ _) λr16 h=>?_
           exact zR h
          ·exact zR h
         ·exact zR h
        ·exact zR h
       ·refine zK F h (dX _ _) λr17 h=>?_
        exact zR h
      ·refine zK F h (dX _ _) λr18 h=>?_
       exact zR h
     ·exact zR h
    ·refine zK F h bF λr19 h=>?_
     exact zR h
   ·refine zK F h bF λr20 h=>?_
    exact zR h
  ·refine zK F h bF λr21 h=>?_
   exact zR h
 ·refine zK F h bF λr22 h=>?_
  exact zR h
end
noncomputable section
theorem qI(a0:bC)(a1:List eB)(a2:List eB)(r:Bool)(h:eR a0 a1 a2=some r):aD pw 7 [.agg (cQ a0),.aL (a1.map dw),.aL (a2.map dw)] (λv=>v = .val (.bool r)):=by
 refine aD.gW ?_;refine aF [] func7 ntmps7 results7 ?_;unfold eR at h;have F:=trivial;refine zK F h bF λr3 h=>?_
 refine gx F h (λF h=>?_) λF h=>?_
 ·refine nv F h (λF h=>?_) λF h=>?_
  ·refine zK F h bF λr4 h=>?_
   exact zR h
  ·refine zB F h (λF h=>?_) λF h=>?_
   ·refine zK F h bF λr5 h=>?_
    exact zR h
   ·refine zG 1608 F h (rO _) λr6 h=>?_
    refine zKs [1608,1609,1610,1611,1612] F h (lu _ _ _) λr7 h=>?_
    refine zK F h (lu _ _ _) λr8 h=>?_
    refine zG 1848 F h (mO _ _ _) λr9 h=>?_
    refine zG 1960 F h (mO _ _ _) λtT h=>?_
    refine zG 2072 F h (mO _ _ _) λw6 h=>?_
    refine zGs ([1848,1849,1850,1851,1852,1960,1961,1962,1963,1964],2200) F h (rQ _ _ _ _) λy5 h=>?_
    refine zG 2312 F h (xm _ _ _) λr13 h=>?_
    refine zGs ([2312,2313,2314,2315,2316],2440) F h (rQ _ _ _ _) λr14 h=>?_
    refine gx F h (λF h=>?_) λF h=>?_
    ·refine gx F h (λF h=>?_) λF h=>?_
     ·refine gx F h (λF h=>?_) λF h=>?_
      ·refine gx F h (λF h=>?_) λF h=>?_
       ·refine gx F h (λF h=>?_) λF h=>?_
        ·refine gx F h (λF h=>?_) λF h=>?_
         ·refine zK F h (dX _ _) λr15 h=>?_
          refine gx F h (λF h=>?_) λF h=>?_
          ·refine zK F h (dX _ _) λr16 h=>?_
           exact zR h
          ·exact zR h
         ·exact zR h
        ·exact zR h
       ·exact zR h
      ·exact zR h
     ·exact zR h
    ·exact zR h
 ·refine zK F h bF λr17 h=>?_
  exact zR h
end
noncomputable section
theorem sX(a0:bC)(a1:List eB)(r:Bool)(h:fG a0 a1=some r):aD pw 6 [.agg (cQ a0),.aL (a1.map dw)] (λv=>v = .val (.bool r)):=by
 refine aD.gW ?_;refine aF [] func6 ntmps6 results6 ?_;unfold fG at h;have F:=trivial;refine zK F h bF λr2 h=>?_
 refine gx F h (λF h=>?_) λF h=>?_
 ·refine zB F h (λF h=>?_) λF h=>?_
  ·refine zK F h bF λr3 h=>?_
   exact zR h
  ·refine zG 1448 F h (rO _) λr4 h=>?_
   refine zKs [1448,1449,1450,1451,1452] F h (lu _ _ _) λr5 h=>?_
   refine zG 1624 F h (mO _ _ _) λr6 h=>?_
   refine zKs [1624,1625,1626,1627,1628] F h (j8 _ _ _) λr7 h=>?_
   refine zG 1848 F h (xm _ _ _) λr8 h=>?_
   refine zG 1960 F h (mO _ _ _) λr9 h=>?_
   refine zKs [1848,1849,1850,1851,1852] F h (j8 _ _ _) λtT h=>?_
   refine gx F h (λF h=>?_) λF h=>?_
   ·refine gx F h (λF h=>?_) λF h=>?_
    ·refine gx F h (λF h=>?_) λF h=>?_
     ·refine gx F h (λF h=>?_) λF h=>?_
      ·refine gx F h (λF h=>?_) λF h=>?_
       ·refine zK F h (kA _ _) λw6 h=>?_
        refine gx F h (λF h=>?_) λF h=>?_
        ·refine zK F h (dX _ _) λy5 h=>?_
         refine gx F h (λF h=>?_) λF h=>?_
         ·refine zK F h (kA _ _) λr13 h=>?_
          exact zR h
         ·exact zR h
        ·exact zR h
       ·exact zR h
      ·exact zR h
     ·exact zR h
    ·exact zR h
   ·exact zR h
 ·refine zK F h bF λr14 h=>?_
  exact zR h
end
noncomputable section
theorem sY(a0:Types)(a1:ay)(r:Bool)(h:fD a0 a1=some r):aD pw 3 [.agg [.aL (a0.nodes.map aB),.aL (a0.ah.map aC)],.agg (az a1)] (λv=>v = .val (.bool r)):=by
 refine aD.gW ?_;refine aF [] func3 ntmps3 results3 ?_;unfold fD at h;have F:=trivial;refine zK F h bF λr2 h=>?_
 refine gx F h (λF h=>?_) λF h=>?_
 ·refine zK F h (kZ _ _) λr3 h=>?_
  refine fB F h (λF h=>?_) λF h=>?_
  ·refine eD 7 [.o,.w,.s,.q] ?_;refine zTd F h (l7 _) λr4 h=>?_
   refine zTd F h (adi _ _) λr5 h=>?_
   refine zG 1480 F h (sj _ _) λr6 h=>?_
   refine eD 19 [] ?_;refine zBd F h (λF h=>?_) λF h=>?_
   ·refine vl F h (kA _ _) λr7 h=>?_
    refine zBd F h (λF h=>?_) λF h=>?_
    ·refine zTd F h (jF _) λr8 h=>?_
     refine vl F h (lC _ _) λr9 h=>?_
     refine vl F h (gz _ _) λtT h=>?_
     exact zR h
    ·exact zR h
   ·exact zR h
  ·refine zK F h bF λw6 h=>?_
   exact zR h
 ·refine zK F h bF λy5 h=>?_
  exact zR h
end
noncomputable section
theorem tW(a0:Types)(a1:ay)(a2:ay)(r:Bool)(h:fK a0 a1 a2=some r):aD pw 4 [.agg [.aL (a0.nodes.map aB),.aL (a0.ah.map aC)],.agg (az a1),.agg (az a2)] (λv=>v = .val (.bool r)):=by
 refine aD.gW ?_;refine aF [] func4 ntmps4 results4 ?_;unfold fK at h;have F:=trivial;refine zK F h bF λr3 h=>?_
 refine gx F h (λF h=>?_) λF h=>?_
 ·refine zK F h (kZ _ _) λr4 h=>?_
  refine gx F h (λF h=>?_) λF h=>?_
  ·refine zK F h (kZ _ _) λr5 h=>?_
   refine fB F h (λF h=>?_) λF h=>?_
   ·refine eD 8 [.o,.w,.s,.q] ?_;refine zTd F h (jF _) λr6 h=>?_
    refine zTd F h (jF _) λr7 h=>?_
    refine zTd F h (mO _ _ _) λr8 h=>?_
    refine zG 1624 F h (rP _ _ _) λr9 h=>?_
    refine gx F h (λF h=>?_) λF h=>?_
    ·refine zK F h (dX _ _) λtT h=>?_
     exact zR h
    ·exact zR h
   ·refine zK F h bF λw6 h=>?_
    exact zR h
  ·refine zK F h bF λy5 h=>?_
   exact zR h
 ·refine zK F h bF λr13 h=>?_
  exact zR h
end
open Go.ChangeShapes Go.WideShapes Go.ChangeAt Go.RowKit
variable{w:World}{H:Type}{enc:TypeId×Value->H}
def G9(_:ByteArray):Prop:=True
theorem d9:me pw w enc 9 1 encS G9 :=
 .str underlying9
def G3(n:Int):Prop:=IntKind.i64.min<=n/\n<=IntKind.i64.max
theorem d3:me pw w enc 3 1 (λn:Int=>[.val (.int .i64 n)]) G3 :=
 .aEM .i64 underlying3
def G4(_:Bool):Prop:=True
theorem d4:me pw w enc 4 1 mY G4 :=
 .bool underlying4
def aFc(l:List ByteArray):Prop:=(∀x∈l,G9 x)/\l.length<=reachBytes
theorem d126:me pw w enc 126 1 (λl:List ByteArray=>[.aL (l.map encS)]) aFc:=(me.slice underlying126 (by kernel_rfl) (by decide) (bX (by kernel_rfl)) d9).map id id (λ_=>rfl) (λ_=>rfl) (λ_ h=>h)
def aFd(x:Attr):Prop:=G9 x.name/\G3 x.low/\G3 x.high/\aFc x.names/\True
theorem d128:me pw w enc 128 4 (λx:Attr=>[.val (.string x.name),.val (.int .i64 x.low),.val (.int .i64 x.high),.aL (x.names.map encS)]) aFd:=(me.struct underlying128 (by kernel_rfl) (.cons rfl (by kernel_rfl) d9 (.cons rfl (by kernel_rfl) d3 (.cons rfl (by kernel_rfl) d3 (.cons rfl (by kernel_rfl) d126 (.nil _)))))).map (λx=>⟨x.1,x.2.1,x.2.2.1,x.2.2.2.1⟩) (λa=>(a.name,a.low,a.high,a.names,())) (λ_=>rfl) (λ_=>rfl) (λ_ h=>h)
def aFe(l:List Attr):Prop:=(∀x∈l,aFd x)/\l.length<=reachBytes
theorem d129:me pw w enc 129 1 (λl:List Attr=>[.aL (l.map aS)]) aFe:=(me.slice underlying129 (by kernel_rfl) (by decide) (bX (by kernel_rfl)) d128).map id id (λ_=>rfl) (λ_=>rfl) (λ_ h=>h)
def aFf(x:iy):Prop:=G9 x.name/\G3 x.parent/\G4 x.abs/\aFe x.attrs/\True
theorem d131:me pw w enc 131 4 (λx:iy=>[.val (.string x.name),.val (.int .i64 x.parent),.val (.bool x.abs),.aL (x.attrs.map aS)]) aFf:=(me.struct underlying131 (by kernel_rfl) (.cons rfl (by kernel_rfl) d9 (.cons rfl (by kernel_rfl) d3 (.cons rfl (by kernel_rfl) d4 (.cons rfl (by kernel_rfl) d129 (.nil _)))))).map (λx=>⟨x.1,x.2.1,x.2.2.1,x.2.2.2.1⟩) (λa=>(a.name,a.parent,a.abs,a.attrs,())) (λ_=>rfl) (λ_=>rfl) (λ_ h=>h)
def G22(l:List iy):Prop:=(∀x∈l,aFf x)/\l.length<=reachBytes
theorem d22:me pw w enc 22 1 (λl:List iy=>[.aL (l.map aB)]) G22:=(me.slice underlying22 (by kernel_rfl) (by decide) (bX (by kernel_rfl)) d131).map id id (λ_=>rfl) (λ_=>rfl) (λ_ h=>h)
def aFg(x:nW):Prop:=G9 x.name/\G3 x.src/\G3 x.dst/\G3 x.vz/\G3 x.qS/\G3 x.abl/\G3 x.vA/\True
theorem d133:me pw w enc 133 7 (λx:nW=>[.val (.string x.name),.val (.int .i64 x.src),.val (.int .i64 x.dst),.val (.int .i64 x.vz),.val (.int .i64 x.qS),.val (.int .i64 x.abl),.val (.int .i64 x.vA)]) aFg:=(me.struct underlying133 (by kernel_rfl) (.cons rfl (by kernel_rfl) d9 (.cons rfl (by kernel_rfl) d3 (.cons rfl (by kernel_rfl) d3 (.cons rfl (by kernel_rfl) d3 (.cons rfl (by kernel_rfl) d3 (.cons rfl (by kernel_rfl) d3 (.cons rfl (by kernel_rfl) d3 (.nil _))))))))).map (λx=>⟨x.1,x.2.1,x.2.2.1,x.2.2.2.1,x.2.2.2.2.1,x.2.2.2.2.2.1,x.2.2.2.2.2.2.1⟩) (λa=>(a.name,a.src,a.dst,a.vz,a.qS,a.abl,a.vA,())) (λ_=>rfl) (λ_=>rfl) (λ_ h=>h)
def G23(l:List nW):Prop:=(∀x∈l,aFg x)/\l.length<=reachBytes
theorem d23:me pw w enc 23 1 (λl:List nW=>[.aL (l.map aC)]) G23:=(me.slice underlying23 (by kernel_rfl) (by decide) (bX (by kernel_rfl)) d133).map id id (λ_=>rfl) (λ_=>rfl) (λ_ h=>h)
def G25(x:Types):Prop:=G22 x.nodes/\G23 x.ah/\True
theorem d25:me pw w enc 25 2 (λx:Types=>[.aL (x.nodes.map aB),.aL (x.ah.map aC)]) G25:=(me.struct underlying25 (by kernel_rfl) (.cons rfl (by kernel_rfl) d22 (.cons rfl (by kernel_rfl) d23 (.nil _)))).map (λx=>⟨x.1,x.2.1⟩) (λa=>(a.nodes,a.ah,())) (λ_=>rfl) (λ_=>rfl) (λ_ h=>h)
def G26(l:List Int):Prop:=(∀x∈l,G3 x)/\l.length<=reachBytes
theorem d26:me pw w enc 26 1 (λl:List Int=>[.aL (l.map encI)]) G26:=(me.slice underlying26 (by kernel_rfl) (by decide) (bX (by kernel_rfl)) d3).map id id (λ_=>rfl) (λ_=>rfl) (λ_ h=>h)
def aFh(x:Edge):Prop:=G3 x.type/\G3 x.src/\G3 x.dst/\True
theorem d143:me pw w enc 143 3 (λx:Edge=>[.val (.int .i64 x.type),.val (.int .i64 x.src),.val (.int .i64 x.dst)]) aFh:=(me.struct underlying143 (by kernel_rfl) (.cons rfl (by kernel_rfl) d3 (.cons rfl (by kernel_rfl) d3 (.cons rfl (by kernel_rfl) d3 (.nil _))))).map (λx=>⟨x.1,x.2.1,x.2.2.1⟩) (λa=>(a.type,a.src,a.dst,())) (λ_=>rfl) (λ_=>rfl) (λ_ h=>h)
def G27(l:List Edge):Prop:=(∀x∈l,aFh x)/\l.length<=reachBytes
theorem d27:me pw w enc 27 1 (λl:List Edge=>[.aL (l.map aK)]) G27:=(me.slice underlying27 (by kernel_rfl) (by decide) (bX (by kernel_rfl)) d143).map id id (λ_=>rfl) (λ_=>rfl) (λ_ h=>h)
def G29(x:bE):Prop:=G26 x.nodes/\G27 x.ah/\True
theorem d29:me pw w enc 29 2 (λx:bE=>[.aL (x.nodes.map encI),.aL (x.ah.map aK)]) G29:=(me.struct underlying29 (by kernel_rfl) (.cons rfl (by kernel_rfl) d26 (.cons rfl (by kernel_rfl) d27 (.nil _)))).map (λx=>⟨x.1,x.2.1⟩) (λa=>(a.nodes,a.ah,())) (λ_=>rfl) (λ_=>rfl) (λ_ h=>h)
def G30(l:List (List Int)):Prop:=(∀x∈l,G26 x)/\l.length<=reachBytes
theorem d30:me pw w enc 30 1 (λl:List (List Int)=>[.aL (l.map bw)]) G30:=(me.slice underlying30 (by kernel_rfl) (by decide) (bX (by kernel_rfl)) d26).map id id (λ_=>rfl) (λ_=>rfl) (λ_ h=>h)
def G32(x:Host):Prop:=G29 x.graph/\G30 x.values/\True
theorem d32:me pw w enc 32 3 (λx:Host=>[.aL (x.graph.nodes.map encI),.aL (x.graph.ah.map aK),.aL (x.values.map bw)]) G32:=(me.struct underlying32 (by kernel_rfl) (.cons rfl (by kernel_rfl) d29 (.cons rfl (by kernel_rfl) d30 (.nil _)))).map (λx=>⟨x.1,x.2.1⟩) (λa=>(a.graph,a.values,())) (λ_=>rfl) (λ_=>rfl) (λ_ h=>h)
def G34(x:ay):Prop:=G32 x.host/\G26 x.nodes/\G26 x.ah/\G3 x.next/\True
theorem d34:me pw w enc 34 6 (λx:ay=>[.aL (x.host.graph.nodes.map encI),.aL (x.host.graph.ah.map aK),.aL (x.host.values.map bw),.aL (x.nodes.map encI),.aL (x.ah.map encI),.val (.int .i64 x.next)]) G34:=(me.struct underlying34 (by kernel_rfl) (.cons rfl (by kernel_rfl) d32 (.cons rfl (by kernel_rfl) d26 (.cons rfl (by kernel_rfl) d26 (.cons rfl (by kernel_rfl) d3 (.nil _)))))).map (λx=>⟨x.1,x.2.1,x.2.2.1,x.2.2.2.1⟩) (λa=>(a.host,a.nodes,a.ah,a.next,())) (λ_=>rfl) (λ_=>rfl) (λ_ h=>h)
set_option maxRecDepth 100000 in
theorem aeS:laidOutB Tryz.checked.prog=true:=by kernel_rfl
def G96(x:aj):Prop:=G3 x.id/\G3 x.type/\G26 x.values/\True
theorem d96:me pw w enc 96 3 (λx:aj=>[.val (.int .i64 x.id),.val (.int .i64 x.type),.aL (x.values.map encI)]) G96:=(me.struct underlying96 (by kernel_rfl) (.cons rfl (by kernel_rfl) d3 (.cons rfl (by kernel_rfl) d3 (.cons rfl (by kernel_rfl) d26 (.nil _))))).map (λx=>⟨x.1,x.2.1,x.2.2.1⟩) (λa=>(a.id,a.type,a.values,())) (λ_=>rfl) (λ_=>rfl) (λ_ h=>h)
def G44(l:List aj):Prop:=(∀x∈l,G96 x)/\l.length<=reachBytes
theorem d44:me pw w enc 44 1 (λl:List aj=>[.aL (l.map ag)]) G44:=(me.slice underlying44 (by kernel_rfl) (by decide) (bX (by kernel_rfl)) d96).map id id (λ_=>rfl) (λ_=>rfl) (λ_ h=>h)
def aFi(x:ax):Prop:=G3 x.id/\G3 x.type/\G3 x.src/\G3 x.dst/\True
theorem d125:me pw w enc 125 4 (λx:ax=>[.val (.int .i64 x.id),.val (.int .i64 x.type),.val (.int .i64 x.src),.val (.int .i64 x.dst)]) aFi:=(me.struct underlying125 (by kernel_rfl) (.cons rfl (by kernel_rfl) d3 (.cons rfl (by kernel_rfl) d3 (.cons rfl (by kernel_rfl) d3 (.cons rfl (by kernel_rfl) d3 (.nil _)))))).map (λx=>⟨x.1,x.2.1,x.2.2.1,x.2.2.2.1⟩) (λa=>(a.id,a.type,a.src,a.dst,())) (λ_=>rfl) (λ_=>rfl) (λ_ h=>h)
def G45(l:List ax):Prop:=(∀x∈l,aFi x)/\l.length<=reachBytes
theorem d45:me pw w enc 45 1 (λl:List ax=>[.aL (l.map ak)]) G45:=(me.slice underlying45 (by kernel_rfl) (by decide) (bX (by kernel_rfl)) d125).map id id (λ_=>rfl) (λ_=>rfl) (λ_ h=>h)
def aFj(x:aO):Prop:=G3 x.id/\G3 x.attr/\G3 x.old/\G3 x.new/\True
theorem d116:me pw w enc 116 4 (λx:aO=>[.val (.int .i64 x.id),.val (.int .i64 x.attr),.val (.int .i64 x.old),.val (.int .i64 x.new)]) aFj:=(me.struct underlying116 (by kernel_rfl) (.cons rfl (by kernel_rfl) d3 (.cons rfl (by kernel_rfl) d3 (.cons rfl (by kernel_rfl) d3 (.cons rfl (by kernel_rfl) d3 (.nil _)))))).map (λx=>⟨x.1,x.2.1,x.2.2.1,x.2.2.2.1⟩) (λa=>(a.id,a.attr,a.old,a.new,())) (λ_=>rfl) (λ_=>rfl) (λ_ h=>h)
def G46(l:List aO):Prop:=(∀x∈l,aFj x)/\l.length<=reachBytes
theorem d46:me pw w enc 46 1 (λl:List aO=>[.aL (l.map aP)]) G46:=(me.slice underlying46 (by kernel_rfl) (by decide) (bX (by kernel_rfl)) d116).map id id (λ_=>rfl) (λ_=>rfl) (λ_ h=>h)
def G47(x:dJ):Prop:=G3 x.x0/\G3 x.x1/\True
theorem d47:me pw w enc 47 2 (λx:dJ=>[.val (.int .i64 x.x0),.val (.int .i64 x.x1)]) G47:=(me.array underlying47 (by kernel_rfl) (sz0:=1) (by kernel_rfl) (.cons rfl (by kernel_rfl) d3 (.cons rfl (by kernel_rfl) d3 (.nil _)))).map (λx=>⟨x.1,x.2.1⟩) (λa=>(a.x0,a.x1,())) (λ_=>rfl) (λ_=>rfl) (λ_ h=>h)
def G49(x:aQ):Prop:=G44 x.aG/\G45 x.aM/\G44 x.aV/\G45 x.bn/\G46 x.values/\G47 x.next/\True
theorem d49:me pw w enc 49 7 (λx:aQ=>[.aL (x.aG.map ag),.aL (x.aM.map ak),.aL (x.aV.map ag),.aL (x.bn.map ak),.aL (x.values.map aP),.val (.int .i64 x.next.x0),.val (.int .i64 x.next.x1)]) G49:=(me.struct underlying49 (by kernel_rfl) (.cons rfl (by kernel_rfl) d44 (.cons rfl (by kernel_rfl) d45 (.cons rfl (by kernel_rfl) d44 (.cons rfl (by kernel_rfl) d45 (.cons rfl (by kernel_rfl) d46 (.cons rfl (by kernel_rfl) d47 (.nil _)))))))).map (λx=>⟨x.1,x.2.1,x.2.2.1,x.2.2.2.1,x.2.2.2.2.1,x.2.2.2.2.2.1⟩) (λa=>(a.aG,a.aM,a.aV,a.bn,a.values,a.next,())) (λ_=>rfl) (λ_=>rfl) (λ_ h=>h)
def G55(x:eF):Prop:=G49 x.p/\G49 x.q/\True
theorem d55:me pw w enc 55 14 (λx:eF=>[.aL (x.p.aG.map ag),.aL (x.p.aM.map ak),.aL (x.p.aV.map ag),.aL (x.p.bn.map ak),.aL (x.p.values.map aP),.val (.int .i64 x.p.next.x0),.val (.int .i64 x.p.next.x1),.aL (x.q.aG.map ag),.aL (x.q.aM.map ak),.aL (x.q.aV.map ag),.aL (x.q.bn.map ak),.aL (x.q.values.map aP),.val (.int .i64 x.q.next.x0),.val (.int .i64 x.q.next.x1)]) G55:=(me.struct underlying55 (by kernel_rfl) (.cons rfl (by kernel_rfl) d49 (.cons rfl (by kernel_rfl) d49 (.nil _)))).map (λx=>⟨x.1,x.2.1⟩) (λa=>(a.p,a.q,())) (λ_=>rfl) (λ_=>rfl) (λ_ h=>h)
def G5(n:Int):Prop:=IntKind.u8.min<=n/\n<=IntKind.u8.max
theorem d5:me pw w enc 5 1 (λn:Int=>[.val (.int .u8 n)]) G5 :=
 .aEM .u8 underlying5
def aFk(x:dJ):Prop:=G5 x.x0/\G5 x.x1/\True
theorem d167:me pw w enc 167 2 (λx:dJ=>[.val (.int .u8 x.x0),.val (.int .u8 x.x1)]) aFk:=(me.array underlying167 (by kernel_rfl) (sz0:=1) (by kernel_rfl) (.cons rfl (by kernel_rfl) d5 (.cons rfl (by kernel_rfl) d5 (.nil _)))).map (λx=>⟨x.1,x.2.1⟩) (λa=>(a.x0,a.x1,())) (λ_=>rfl) (λ_=>rfl) (λ_ h=>h)
def G61(l:List dJ):Prop:=(∀x∈l,aFk x)/\l.length<=reachBytes
theorem d61:me pw w enc 61 1 (λl:List dJ=>[.aL (l.map eG)]) G61:=(me.slice underlying61 (by kernel_rfl) (by decide) (bX (by kernel_rfl)) d167).map id id (λ_=>rfl) (λ_=>rfl) (λ_ h=>h)
def aFl(x:eB):Prop:=G5 x.x0/\G5 x.x1/\G5 x.x2/\True
theorem d121:me pw w enc 121 3 (λx:eB=>[.val (.int .u8 x.x0),.val (.int .u8 x.x1),.val (.int .u8 x.x2)]) aFl:=(me.array underlying121 (by kernel_rfl) (sz0:=1) (by kernel_rfl) (.cons rfl (by kernel_rfl) d5 (.cons rfl (by kernel_rfl) d5 (.cons rfl (by kernel_rfl) d5 (.nil _))))).map (λx=>⟨x.1,x.2.1,x.2.2.1⟩) (λa=>(a.x0,a.x1,a.x2,())) (λ_=>rfl) (λ_=>rfl) (λ_ h=>h)
def G62(l:List eB):Prop:=(∀x∈l,aFl x)/\l.length<=reachBytes
theorem d62:me pw w enc 62 1 (λl:List eB=>[.aL (l.map dw)]) G62:=(me.slice underlying62 (by kernel_rfl) (by decide) (bX (by kernel_rfl)) d121).map id id (λ_=>rfl) (λ_=>rfl) (λ_ h=>h)
def G64(x:dP):Prop:=G61 x.nodes/\G62 x.ah/\True
theorem d64:me pw w enc 64 2 (λx:dP=>[.aL (x.nodes.map eG),.aL (x.ah.map dw)]) G64:=(me.struct underlying64 (by kernel_rfl) (.cons rfl (by kernel_rfl) d61 (.cons rfl (by kernel_rfl) d62 (.nil _)))).map (λx=>⟨x.1,x.2.1⟩) (λa=>(a.nodes,a.ah,())) (λ_=>rfl) (λ_=>rfl) (λ_ h=>h)
def G66(x:bC):Prop:=G61 x.types/\G61 x.ends/\G64 x.host/\True
theorem d66:me pw w enc 66 4 (λx:bC=>[.aL (x.types.map eG),.aL (x.ends.map eG),.aL (x.host.nodes.map eG),.aL (x.host.ah.map dw)]) G66:=(me.struct underlying66 (by kernel_rfl) (.cons rfl (by kernel_rfl) d61 (.cons rfl (by kernel_rfl) d61 (.cons rfl (by kernel_rfl) d64 (.nil _))))).map (λx=>⟨x.1,x.2.1,x.2.2.1⟩) (λa=>(a.types,a.ends,a.host,())) (λ_=>rfl) (λ_=>rfl) (λ_ h=>h)
end Go.Proofs.YteambpeibacfpaaGreat
namespace Go.b7
section
variable{σ O α:Type}{Q:O->Prop}
theorem aeT{f:σ->(σ->Option O)->(σ->Option O)->Option O}{K:σ->Option O}(φ ψ:σ->Prop)(μ:σ->Nat){n:Nat}{s:σ}(h0:φ s)(hm:μ s<n)
  (hr:∀s (eE brk:σ->Option O),φ s->(∀s',φ s'->μ s'<μ s->Ok (eE s') Q)->(∀s',ψ s'->Ok (brk s') Q)->Ok (f s eE brk) Q) (he:∀s,ψ s->Ok (K s) Q):Ok (iter f n s K) Q :=
 agJ φ μ h0 hm λs eE hs hn=>hr s eE K hs hn he
end
theorem aDq{n:Int}(h:0<=n/\n<=255):IntKind.u8.wrap n=n:=by simp only[IntKind.wrap,IntKind.signed,IntKind.bits,Bool.false_and,Bool.false_eq_true,if_false];omega
def adj{α β:Type}(o:Option α)(x:α->β)(y:β):β:=match o with
 |some a=>x a
 |none=>y
section
variable{σ O α β:Type}
theorem afI{f:Nat->Unit->(Unit->Option O)->(Unit->Option O)->Option O}{K:Unit->Option O}(p:Nat->Bool)(x:Nat->Option O):∀ (k i:Nat),
  (∀j,i<=j->j<i+k->∀eE,f j () eE K=cond (p j) (eE ()) (x j))->bZ f k i () K=adj ((range' i k).find? (λj=>!p j)) x (K ())
 |0,i,_=>rfl
 |k+1,i,h=>by
  rw[bZ,h i (le_refl _) (by omega),range'_succ,find?_cons];cases hp:p i with
  |false=>rfl
  |true =>
   have:=afI p x k (i+1) λj h1 h2 eE=>h j (by omega) (by omega) eE
   simpa using this
theorem v7{f:Nat->Unit->(Unit->Option O)->(Unit->Option O)->Option O}{K:Unit->Option O}{n:Nat}(p:Nat->Bool)(x:Nat->Option O)(h:∀j,j<n->∀eE,f j () eE K=cond (p j) (eE ()) (x j)) :
  bZ f (n-0) 0 () K=adj ((range n).find? (λj=>!p j)) x (K ()):=by
 rw[afI p x (n-0) 0 λj _ h2 eE=>h j (by omega) eE,Nat.sub_zero,range_eq_range']
theorem adk{f:Nat->Unit->(Unit->Option O)->(Unit->Option O)->Option O}{K:Unit->Option O}(l:List α)(p:α->Bool)(x:α->Option O)(h:∀i (hi:i<l.length) eE,f i () eE K=cond (p l[i]) (eE ()) (x l[i])):∀ (k i:Nat),i+k=l.length ->
  bZ f k i () K=adj ((l.drop i).find? (λa=>!p a)) x (K ())
 |0,i,hk=>by rw[drop_eq_nil_of_le (by omega)];rfl
 |k+1,i,hk=>by
  rw[bZ,h i (by omega),drop_eq_getElem_cons (by omega),find?_cons];cases hp:p l[i] with
  |false=>rfl
  |true=>have:=adk l p x h k (i+1) (by omega);simpa using this
theorem yF{f:Nat->Unit->(Unit->Option O)->(Unit->Option O)->Option O}{K:Unit->Option O}(l:List α)(p:α->Bool)(x:α->Option O)(h:∀i (hi:i<l.length) eE,f i () eE K=cond (p l[i]) (eE ()) (x l[i])) :
  bZ f (l.length-0) 0 () K=adj (l.find? (λa=>!p a)) x (K ()):=by
 have:=adk l p x h (l.length-0) 0 (by omega);simpa using this
theorem adl{f:Nat->σ->(σ->Option O)->(σ->Option O)->Option O}{K:σ->Option O}(l:List α)(g:σ->α->σ)(Inv:Nat->σ->Prop)(h:∀i (hi:i<l.length) s,Inv i s->(∀eE,f i s eE K=eE (g s l[i]))/\Inv (i+1) (g s l[i])) :
  ∀ (k i:Nat) (s:σ),i+k=l.length->Inv i s->bZ f k i s K=K ((l.drop i).foldl g s)/\Inv l.length ((l.drop i).foldl g s)
 |0,i,s,hk,hs=>by rw[drop_eq_nil_of_le (by omega)];exact⟨rfl,by rw[show l.length=i by omega];exact hs⟩
 |k+1,i,s,hk,hs=>by obtain⟨h1,h2⟩:=h i (by omega) s hs;rw[bZ,h1,drop_eq_getElem_cons (by omega),foldl_cons];exact adl l g Inv h k (i+1) _ (by omega) h2
theorem yG{f:Nat->σ->(σ->Option O)->(σ->Option O)->Option O}{K:σ->Option O}{s:σ}(l:List α)(g:σ->α->σ)(Inv:Nat->σ->Prop)(h0:Inv 0 s)(h:∀i (hi:i<l.length) s,Inv i s->(∀eE,f i s eE K=eE (g s l[i]))/\Inv (i+1) (g s l[i])) :
  bZ f (l.length-0) 0 s K=K (l.foldl g s)/\Inv l.length (l.foldl g s):=by
 have:=adl l g Inv h (l.length-0) 0 s (by omega) h0;simpa using this
theorem cv{p:Prop} [Decidable p]{x:Option O}(h:p):cz p x=x:=by unfold cz;rw[if_pos h]
theorem aow{x:α}{k:α->Option O} : thn (some x) k=k x:=rfl
theorem aR{x:Option α}{y:α}{k:α->Option O}(h:x=some y):thn x k=k y:=by rw[h];rfl
theorem eo{l:List α}{i:Nat}{k:α->Option O}(h:i<l.length):thn l[i]? k=k l[i]:=by rw[getElem?_eq_getElem h];rfl
theorem iE{l:List α}{i:Int}{k:α->Option O}(h0:0<=i)(h:i.toNat<l.length):thn (iX l i) k=k (l[i.toNat]'h):=by unfold iX;rw[if_pos h0,getElem?_eq_getElem h];rfl
theorem bh{p:Prop} [Decidable p]{x y:Option O} : cond (decide p) x y=if p then x else y:=by by_cases h:p<;>simp[h]
theorem kJ{b:Bool}{x y:Option O} : cond (!b) x y=cond b y x:=by cases b<;>rfl
def az5(e:α->Int)(l:List α):Int:=adj (l.find? (λa=>!decide (e a=0))) e 0
theorem avP{e:α->Int}{l:List α} : az5 e l=0↔∀a∈l,e a=0:=by
 unfold az5 adj;split
 ·rename_i a h;have h1:=find?_some h;have h2:=mem_of_find?_eq_some h;simp only[Bool.not_eq_true',decide_eq_false_iff_not] at h1;exact⟨λh=>absurd h h1,λh=>h a h2⟩
 ·rename_i h;simp only[find?_eq_none,Bool.not_eq_true',decide_eq_false_iff_not,Decidable.not_not] at h;exact⟨λ_=>h,λ_=>rfl⟩
theorem aki{e:α->Int}{l:List α}{K:Option Int}(hK:K=some 0):adj (l.find? (λa=>!decide (e a=0))) (λa=>some (e a)) K=some (az5 e l):=by subst hK;unfold az5 adj;split<;>rfl
theorem v8{p:α->Bool}{l:List α}{x y:β} : adj (l.find? (λa=>!p a)) (λ_=>x) y=if l.all p=true then y else x:=by
 unfold adj;split
 ·rename_i a h;have h1:=find?_some h;have h2:=mem_of_find?_eq_some h;rw[if_neg];intro h3;have:=all_eq_true.1 h3 a h2;simp[this] at h1
 ·rename_i h;rw[if_pos];simpa using h
def aaR(q:α->Bool)(l:List α):Int:=match l.findIdx? q with
 |some i=>i
 |none=>-1
theorem agM{q:α->Bool}{l:List α} : decide (0<=aaR q l)=l.any q:=by
 unfold aaR;cases h:l.findIdx? q with
 |none =>
  have:=findIdx?_eq_none_iff.1 h;have h2:l.any q=false:=by simpa using this
  rw[h2];rfl
 |some i =>
  have h1:l.any q=true:=by have:=findIdx?_eq_some_iff_getElem.1 h;obtain⟨hi,hq,_⟩:=this;exact any_eq_true.2 ⟨_,pT hi,hq⟩
  rw[h1];simp
theorem abI{f:Nat->Unit->(Unit->Option Int)->(Unit->Option Int)->Option Int}{K:Unit->Option Int}(l:List α)(q:α->Bool)(h:∀i (hi:i<l.length) eE,f i () eE K=cond (q l[i]) (some (i:Int)) (eE ()))(hK:K ()=some (-1)) :
  bZ f (l.length-0) 0 () K=some (aaR q l):=by
 have key:∀ (k i:Nat),i+k=l.length->bZ f k i () K=some (match (l.drop i).findIdx? q with|some j=>((i+j:Nat):Int)|none=>-1):=by
  intro k
  induction k with
  |zero=>intro i hk;rw[drop_eq_nil_of_le (by omega)];exact hK
  |succ k ih =>
   intro i hk;rw[bZ,h i (by omega),drop_eq_getElem_cons (by omega),findIdx?_cons];cases hq:q l[i] with
   |true=>simp
   |false =>
    have:=ih (i+1) (by omega);rw[cond_false,this];cases (l.drop (i+1)).findIdx? q with
    |none=>rfl
    |some j=>simp only[Option.map_some,Bool.false_eq_true,if_false,cC];rw[show i+1+j=i+(j+1) by omega]
 have:=key (l.length-0) 0 (by omega);rw[this,drop_zero];unfold aaR;cases l.findIdx? q<;>simp
end
section
variable{α β:Type}{lt:α->α->Prop}
theorem asl(irr:∀a,¬ lt a a)(tr:∀a b c,lt a b->lt b c->lt a c):∀ {l m:List α},l.Pairwise lt->m.Pairwise lt->(∀x,x∈l↔x∈m)->l=m
 | [],[],_,_,_=>rfl
 | [],b :: s,_,_,h=>by have:=(h b).2 (mem_cons_self ..);cases this
 |a :: r,[],_,_,h=>by have:=(h a).1 (mem_cons_self ..);cases this
 |a :: r,b :: s,h1,h2,h=>by
  rw[pairwise_cons] at h1 h2;have e:a=b:=by
   rcases mem_cons.1 ((h a).1 (mem_cons_self ..)) with e|e
   ·exact e
   ·rcases mem_cons.1 ((h b).2 (mem_cons_self ..)) with e'|e'
    ·exact e'.symm
    ·exact absurd (tr _ _ _ (h1.1 b e') (h2.1 a e)) (irr a)
  subst e;rw[asl irr tr h1.2 h2.2 λx=>?_];constructor
  ·intro hx;rcases mem_cons.1 ((h x).1 (mem_cons_of_mem _ hx)) with e|e
   ·subst e;exact absurd (h1.1 x hx) (irr x)
   ·exact e
  ·intro hx;rcases mem_cons.1 ((h x).2 (mem_cons_of_mem _ hx)) with e|e
   ·subst e;exact absurd (h2.1 x hx) (irr x)
   ·exact e
def jE(f:α->Int)(l:List α):Prop:=l.Pairwise λa b=>f a<f b
theorem jE.ext{f:α->Int}{l m:List α}(h1:jE f l)(h2:jE f m)(h:∀x,x∈l↔x∈m):l=m:=asl (lt:=λa b=>f a<f b) (λa=>by omega) (λa b c h1 h2=>by omega) h1 h2 h
theorem jE.nil{f:α->Int} : jE f []:=Pairwise.nil
theorem jE.sub{f:α->Int}{l m:List α}(h:jE f l)(hs:m.Sublist l):jE f m:=Pairwise.sublist hs h
theorem jE.map{f:β->Int}{g:α->β}{l:List α}(h:jE (λa=>f (g a)) l):jE f (l.map g):=pairwise_map.2 h
theorem jE.asm{f:β->Int}{g:α->β}{l:List α}(h:jE f (l.map g)):jE (λa=>f (g a)) l:=by unfold jE at *;exact (pairwise_map (f:=g) (R:=λa b=>f a<f b)).1 h
theorem jE.inj{f:α->Int}{l:List α}(h:jE f l){a b:α}(ha:a∈l)(hb:b∈l)(e:f a=f b):a=b:=by
 induction l with
 |nil=>cases ha
 |cons c r ih =>
  unfold jE at h;rw[pairwise_cons] at h;rcases mem_cons.1 ha with h1|h1<;>rcases mem_cons.1 hb with h2|h2
  ·rw[h1,h2]
  ·have:=h.1 b h2;rw[h1] at e;omega
  ·have:=h.1 a h1;rw[h2] at e;omega
  ·exact ih h.2 h1 h2
theorem jE.agc{f:α->Int}{l:List α}(h:jE f l){i j:Nat}(hij:i<j)(hj:j<l.length):f (l[i]'(by omega))<f l[j]:=pairwise_iff_getElem.1 h i j (by omega) hj hij
theorem jE.art{f:α->Int}{l:List α}(h:jE f l){i j:Nat}(hi:i<l.length)(hj:j<l.length)(e:f l[i]=f l[j]):i=j:=by
 rcases Nat.lt_trichotomy i j with h1|h1|h1
 ·have:=h.agc h1 hj;omega
 ·exact h1
 ·have:=h.agc h1 hi;omega
theorem jE.aFm{f:α->Int}{l:List α}(h:∀i,(hi:i+1<l.length)->f (l[i]'(by omega))<f l[i+1]):jE f l:=by
 refine pairwise_iff_getElem.2 λi j hi hj hij=>?_
 obtain⟨k,rfl⟩:∃k,j=i+1+k:=⟨j-(i+1),by omega⟩
 induction k with
 |zero=>exact h i hj
 |succ k ih=>have h1:=ih (by omega) (by omega);have h2:=h (i+1+k) hj;exact lt_trans h1 h2
theorem jE.nodup{f:α->Int}{l:List α}(h:jE f l):l.Nodup:=Pairwise.imp (λh e=>by subst e;omega) h
theorem jE.sort{f:α->Int}{l:List α}(h:(l.map f).Nodup):jE f (l.mergeSort λx y=>decide (f x<=f y)):=by
 have hp:=mergeSort_perm l (λx y=>decide (f x<=f y));have hs:(l.mergeSort λx y=>decide (f x<=f y)).Pairwise λa b=>decide (f a<=f b)=true:=pairwise_mergeSort (λa b c h1 h2=>by simp at *;omega) (λa b=>by simp;omega) l
 have hn:((l.mergeSort λx y=>decide (f x<=f y)).map f).Nodup:=(hp.map f).nodup_iff.2 h;have hn':(l.mergeSort λx y=>decide (f x<=f y)).Pairwise λa b=>f a≠f b:=pairwise_map.1 hn
 refine (pairwise_and_iff.2 ⟨hs,hn'⟩).imp λ{a b} hab=>?_
 have:=bX hab.1;have:=hab.2;omega
theorem jE.app{f:α->Int}{l m:List α}(h1:jE f l)(h2:jE f m)(h:∀a∈l,∀b∈m,f a<f b):jE f (l++m):=pairwise_append.2 ⟨h1,h2,h⟩
theorem jE.aih{f:α->Int}{l:List α}(h:jE f l):(l.map f).Nodup:=pairwise_map.2 (Pairwise.imp (λh=>by omega) h)
theorem rS{f:α->Int}{l m:List α}(h1:jE f l)(h2:jE f m)(h:∀a∈l,∀b∈m,f a≠f b):((l++m).map f).Nodup:=by rw[map_append,nodup_append];refine⟨h1.aih,h2.aih,λa ha b hb=>?_⟩;obtain⟨x,hx,rfl⟩:=mem_map.1 ha;obtain⟨y,hy,rfl⟩:=mem_map.1 hb;exact h x hx y hy
end
end Go.b7
namespace Go.Proofs.YteambpeibacfpaaGreat
open Go.b7
theorem pe{a b:aj} : eC a b=true↔a=b:=by cases a;cases b;simp[eC]
theorem u9{a b:ax} : rZ a b=true↔a=b:=by cases a;cases b;simp[rZ]
section
variable{α:Type}{f:α->Int}{q:α->α->Bool}
theorem erase_filter(hq:∀a b,q a b=true↔a=b){l:List α}(h:jE f l){i:Nat}(hi:i<l.length){n:α}(hn:l[i]=n):l.take i++l.drop (i+1)=l.filter λm=>!q m n:=by
 rw[<-eraseIdx_eq_take_drop_succ];refine jE.ext (h.sub (eraseIdx_sublist ..)) (h.sub filter_sublist) λx=>?_
 rw[mem_eraseIdx_iff_getElem,mem_filter];constructor
 ·rintro⟨j,hj,hne,rfl⟩;refine⟨pT _,?_⟩;cases hx:q l[j] n with
  |false=>rfl
  |true=>have e:=(hq _ _).1 hx;exact absurd (h.art hj hi (by rw[e,hn])) hne
 ·rintro⟨hx,hne⟩;obtain⟨j,hj,rfl⟩:=getElem_of_mem hx;refine⟨j,hj,λe=>?_,rfl⟩;subst e;rw[(hq _ _).2 hn] at hne;cases hne
def ow(q:α->α->Bool)(l r:List α):Bool:=r.all λn=>l.any λm=>q m n
def less(q:α->α->Bool)(l r:List α):List α:=l.filter λm=>!r.any λn=>q m n
def rmL [Inhabited α](f:α->Int)(q:α->α->Bool):List α->List α->Nat->Bool×List α×Nat
 |l,[],v=>(true,l,v)
 |l,n :: r,v=>match l.findIdx? λm=>decide (f m=f n) with
  |none=>(false,l,v)
  |some i=>if q (l.getD i default) n then rmL f q (l.take i++l.drop (i+1)) r (v+1) else (false,l,v)
theorem akj(hq:∀a b,q a b=true↔a=b){l r:List α}{n:α}(hr:∀m∈r,f n≠f m):ow q (l.filter λm=>!q m n) r=ow q l r/\less q (l.filter λm=>!q m n) r=less q l (n :: r):=by
 constructor
 ·unfold ow;rw[Bool.eq_iff_iff,all_eq_true,all_eq_true];refine forall_congr' λx=>forall_congr' λhx=>?_
  rw[any_eq_true,any_eq_true];constructor
  ·rintro⟨m,hm,h⟩;exact⟨m,(mem_filter.1 hm).1,h⟩
  ·rintro⟨m,hm,h⟩;refine⟨m,mem_filter.2 ⟨hm,?_⟩,h⟩;cases hmn:q m n with
   |false=>rfl
   |true=>have e1:=(hq _ _).1 h;have e2:=(hq _ _).1 hmn;exact absurd (by rw[<-e2,e1]) (hr x hx)
 ·unfold less;rw[filter_filter];congr 1;funext m;rw[any_cons,Bool.not_or,Bool.and_comm]
theorem aii [Inhabited α](hq:∀a b,q a b=true↔a=b):∀ (r l:List α) (v:Nat),jE f l->r.Pairwise (λa b=>f a≠f b)->(rmL f q l r v).1=ow q l r/\((rmL f q l r v).1=true->(rmL f q l r v).2.1=less q l r)
 | [],l,v,_,_=>⟨rfl,λ_=>by unfold less rmL;exact (filter_eq_self.2 (by simp)).symm⟩
 |n :: r,l,v,hl,hr=>by
  rw[pairwise_cons] at hr;rw[rmL];cases hf:l.findIdx? λm=>decide (f m=f n) with
  |none =>
   have h0:ow q l (n :: r)=false:=by unfold ow;rw[all_cons,Bool.and_eq_false_iff];left;rw[any_eq_false];intro m hm h;have:=findIdx?_eq_none_iff.1 hf m hm;rw[(hq _ _).1 h] at this;simp at this
   simp only[h0];exact⟨trivial,λh=>by cases h⟩
  |some i =>
   obtain⟨hi,h1,_⟩:=findIdx?_eq_some_iff_getElem.1 hf;have h1:=bX h1;have hg:l.getD i default=l[i]:=by simp[hi]
   simp only[hg];by_cases hs:q l[i] n=true
   ·rw[if_pos hs,erase_filter hq hl hi ((hq _ _).1 hs)];obtain⟨e1,e2⟩:=akj hq (l:=l) hr.1;obtain⟨k1,k2⟩:=aii hq r (l.filter λm=>!q m n) (v+1) (hl.sub filter_sublist) hr.2;rw[e1] at k1;rw[e2] at k2;refine⟨?_,k2⟩;rw[k1];unfold ow;rw[all_cons,show (l.any λm=>q m n)=true from any_eq_true.2 ⟨_,pT hi,hs⟩,Bool.true_and]
   ·rw[if_neg hs];have h0:ow q l (n :: r)=false:=by unfold ow;rw[all_cons,Bool.and_eq_false_iff];left;rw[any_eq_false];intro m hm h;have e:=(hq _ _).1 h;have:=hl.inj hm (pT hi) (by rw[e,h1]);rw[this] at h;exact hs h
    simp only[h0];exact⟨trivial,λh=>by cases h⟩
def yH(q:α->α->Bool)(l:List α)(n:α):List α×Bool:=match l.findIdx? λm=>q m n with
 |none=>(l,false)
 |some i=>(l.take i++l.drop (i+1),true)
def iI(q:α->α->Bool):List α->List α->List α×Bool
 |l,[]=>(l,true)
 |l,n :: r=>if (yH q l n).2=true then iI q (yH q l n).1 r else ((yH q l n).1,false)
theorem abJ(hq:∀a b,q a b=true↔a=b):∀ (r l:List α),jE f l->r.Pairwise (λa b=>f a≠f b)->(iI q l r).2=ow q l r/\((iI q l r).2=true->(iI q l r).1=less q l r)
 | [],l,_,_=>⟨rfl,λ_=>by unfold less iI;exact (filter_eq_self.2 (by simp)).symm⟩
 |n :: r,l,hl,hr=>by
  rw[pairwise_cons] at hr;rw[iI];unfold yH;cases hf:l.findIdx? λm=>q m n with
  |none =>
   have h0:ow q l (n :: r)=false:=by unfold ow;rw[all_cons,Bool.and_eq_false_iff];left;rw[any_eq_false];intro m hm h;have:=findIdx?_eq_none_iff.1 hf m hm;rw[h] at this;cases this
   simp only[h0];exact⟨rfl,λh=>by cases h⟩
  |some i=>obtain⟨hi,hs,_⟩:=findIdx?_eq_some_iff_getElem.1 hf;simp only[if_true,erase_filter hq hl hi ((hq _ _).1 hs)];obtain⟨e1,e2⟩:=akj hq (l:=l) hr.1;obtain⟨k1,k2⟩:=abJ hq r (l.filter λm=>!q m n) (hl.sub filter_sublist) hr.2;rw[e1] at k1;rw[e2] at k2;refine⟨?_,k2⟩;rw[k1];unfold ow;rw[all_cons,show (l.any λm=>q m n)=true from any_eq_true.2 ⟨_,pT hi,hs⟩,Bool.true_and]
theorem aij{l r:List α}(h:jE f l):jE f (less q l r):=h.sub filter_sublist
end
theorem aik:∀ (r l:List aj) (v:Nat),mq l r v=rmL aj.id eC l r v
 | [],l,v=>rfl
 |n :: r,l,v=>by
  rw[mq,rmL];cases l.findIdx? λm=>decide (m.id=n.id) with
  |none=>rfl
  |some i=>simp only;rw[aik r]
theorem ail:∀ (r l:List ax) (v:Nat),n9 l r v=rmL ax.id rZ l r v
 | [],l,v=>rfl
 |n :: r,l,v=>by
  rw[n9,rmL];cases l.findIdx? λm=>decide (m.id=n.id) with
  |none=>rfl
  |some i=>simp only;rw[ail r]
def lg(v:aO)(n:aj):Bool:=decide (n.id=v.id)&&okV n.values v
def qJ(v:aO)(n:aj):aj:=if lg v n=true then { n with values:=n.values.set v.attr.toNat v.new } else n
theorem agN(v:aO)(n:aj):(qJ v n).id=n.id:=by unfold qJ;split<;>rfl
theorem avQ(v:aO)(n:aj):(qJ v n).type=n.type:=by unfold qJ;split<;>rfl
theorem aim(v:aO)(n:aj):(qJ v n).values.length=n.values.length:=by unfold qJ;split<;>simp
def ep:List aj->List aO->List aj×Bool
 |l,[]=>(l,true)
 |l,v :: r=>if l.any (lg v)=true then ep (l.map (qJ v)) r else (l.map (qJ v),false)
theorem ain:∀ (r:List aO) (l:List aj),jE aj.id l->(mu l r).1=(ep l r).2/\((mu l r).1=true->(mu l r).2=(ep l r).1)
 | [],l,_=>⟨rfl,λ_=>rfl⟩
 |v :: r,l,hl=>by
  rw[mu,ep];cases hf:l.findIdx? λm=>decide (m.id=v.id) with
  |none =>
   have h0:l.any (lg v)=false:=by rw[any_eq_false];intro m hm h;have:=findIdx?_eq_none_iff.1 hf m hm;unfold lg at h;rw[this] at h;cases h
   simp only[h0];exact⟨rfl,λh=>by cases h⟩
  |some i =>
   obtain⟨hi,h1,_⟩:=findIdx?_eq_some_iff_getElem.1 hf;have h1:=bX h1;have hg:l.getD i default=l[i]:=by simp[hi]
   simp only[hg];have hfit:∀m∈l,lg v m=true->m=l[i]:=λm hm h=>by unfold lg at h;rw[Bool.and_eq_true] at h;exact hl.inj hm (pT hi) (by rw[bX h.1,h1])
   by_cases hs:okV l[i].values v=true
   ·have ahm:l.any (lg v)=true:=any_eq_true.2 ⟨_,pT hi,by unfold lg;rw[h1,hs,ew rfl];rfl⟩;rw[if_pos hs,if_pos ahm];have e:l.set i { l[i] with values:=l[i].values.set v.attr.toNat v.new } = l.map (qJ v):=by
     refine ext_getElem (by simp) λj h2 h3=>?_
     rw[getElem_set,getElem_map];split
     ·rename_i e;subst e;unfold qJ;rw[if_pos (by unfold lg;rw[h1,hs,ew rfl];rfl)]
     ·rename_i hne;unfold qJ;rw[if_neg λh=>hne ?_];have:=hfit _ (pT (by simpa using h3)) h;exact (hl.art (by simpa using h3) hi (by rw[this])).symm
    rw[e];exact ain r _ (jE.map (by simpa only[agN] using hl))
   ·rw[if_neg hs,if_neg λh=>hs ?_]
    ·exact⟨rfl,λh=>by cases h⟩
    ·obtain⟨m,hm,h⟩:=any_eq_true.1 h;have e:=hfit m hm h;subst e;unfold lg at h;rw[Bool.and_eq_true] at h;exact h.2
theorem aio:∀ (r:List aO) (l:List aj),jE aj.id l->jE aj.id (ep l r).1
 | [],l,h=>h
 |v :: r,l,h=>by
  have h':jE aj.id (l.map (qJ v)):=jE.map (by simpa only[agN] using h);rw[ep];split
  ·exact aio r _ h'
  ·exact h'
def alZ(l m:List aj):Prop:=l.map (λn=>(n.id,n.type,n.values.length))=m.map (λn=>(n.id,n.type,n.values.length))
theorem agd:∀ (r:List aO) (l:List aj),alZ (ep l r).1 l
 | [],l=>rfl
 |v :: r,l=>by
  have h':alZ (l.map (qJ v)) l:=by
   unfold alZ;rw[map_map];refine map_congr_left λn _=>?_
   simp only[Function.comp,agN,avQ,aim]
  rw[ep];split
  ·exact (agd r _).trans h'
  ·exact h'
theorem alZ.len{l m:List aj}(h:alZ l m):l.length=m.length:=by simpa using congrArg length h
theorem akk{l:List aj}(h:(l.map aj.id).Nodup):jE aj.id (qA l):=jE.sort h
theorem akl{l:List ax}(h:(l.map ax.id).Nodup):jE ax.id (sg l):=jE.sort h
theorem acr{l:List aj}{x:aj} : x∈qA l↔x∈l:=(mergeSort_perm l _).mem_iff
theorem acs{l:List ax}{x:ax} : x∈sg l↔x∈l:=(mergeSort_perm l _).mem_iff
theorem avR{l:List aj} : (qA l).length=l.length:=length_mergeSort _
theorem avS{l:List ax} : (sg l).length=l.length:=length_mergeSort _
theorem adX{l:List aj}{m:List ax}{p:aQ}(h:iA l m p=false):(∀n∈p.aV,(∀x∈l,x.id≠n.id)/\∀x∈m,x.id≠n.id)/\∀e∈p.bn,(∀x∈l,x.id≠e.id)/\∀x∈m,x.id≠e.id:=by unfold iA l6 at h;simp only[Bool.or_eq_false_iff,any_eq_false,decide_eq_true_eq] at h;simp only[Bool.not_eq_true,Bool.or_eq_false_iff,any_eq_false,decide_eq_true_eq] at h;exact h
theorem aox{α:Type} [Inhabited α]{f:α->Int}{d:List α}(h:(d.map f).Nodup):aj9 f d:=λi j hi hj e=>by
 have hg:∀k,(hk:k<d.length)->d.getD k default=d[k]:=λk hk=>by simp[hk]
 rw[hg i hi,hg j hj] at e;have h2:=pairwise_iff_getElem.1 h;rcases Nat.lt_trichotomy i j with h1|h1|h1
 ·exact absurd (by rw[getElem_map,getElem_map];exact e) (h2 i j (by simpa using hi) (by simpa using hj) h1)
 ·exact h1
 ·exact absurd (by rw[getElem_map,getElem_map];exact e.symm) (h2 j i (by simpa using hj) (by simpa using hi) h1)
theorem bU{n:Nat}(h:n<=4000000000000000000):n<=fuel:=by unfold fuel;omega
theorem qo{l:List Int}(hl:l.length<=1000000)(x:Int):iG l x=some (aaR (λy=>decide (y=x)) l):=by unfold iG;rw[cv (bU (by omega))];refine abI l _ (λi hi eE=>?_) rfl;rw[eo hi];try simp only[eq_comm (a:=x)]
theorem dm{l:List Int}(hl:l.length<=1000000)(x:Int):bW l x=some (aaR (λy=>decide (y=x)) l):=by unfold bW;rw[cv (bU (by omega))];refine abI l _ (λi hi eE=>?_) rfl;rw[eo hi];try simp only[eq_comm (a:=x)]
theorem aaS{l:List Int}(hl:l.length<=1000000)(x:Int):cF l x=some (decide (x∈l)):=by
 unfold cF;rw[aR (qo hl x),agM];congr 1;rw[Bool.eq_iff_iff,any_eq_true,decide_eq_true_iff];constructor
 ·rintro⟨y,hy,e⟩;rw[<-bX e];exact hy
 ·intro h;exact⟨x,h,ew rfl⟩
theorem aad{l:List Int}{p:Int->Option Bool}(q:Int->Bool)(hl:l.length<=1000000)(hp:∀x∈l,p x=some (q x)):ja l p=some (aaR q l):=by unfold ja;rw[cv (bU (by omega))];refine abI l q (λi hi eE=>?_) rfl;rw[eo hi,aR (hp _ (pT hi))]
theorem wG{l:List Int}{p:Int->Option Bool}(q:Int->Bool)(hl:l.length<=1000000)(hp:∀x∈l,p x=some (q x)):cM l p=some (l.any q):=by unfold cM;rw[aR (aad q hl hp),agM]
theorem uH{l:List aj}{p:aj->Option Bool}(q:aj->Bool)(hl:l.length<=1000000)(hp:∀x∈l,p x=some (q x)):fV l p=some (aaR q l):=by unfold fV;rw[cv (bU (by omega))];refine abI l q (λi hi eE=>?_) rfl;rw[eo hi,aR (hp _ (pT hi))]
theorem uI{l:List ax}{p:ax->Option Bool}(q:ax->Bool)(hl:l.length<=1000000)(hp:∀x∈l,p x=some (q x)):fW l p=some (aaR q l):=by unfold fW;rw[cv (bU (by omega))];refine abI l q (λi hi eE=>?_) rfl;rw[eo hi,aR (hp _ (pT hi))]
def jC(l:List Int)(next:Int)(j:Nat):Int:=if l.getD j 0<0\/next<=l.getD j 0 then 6 else if 0<j/\l.getD j 0<=l.getD (j-1) 0 then 12 else 0
def uJ(l:List Int)(next:Int):Int:=az5 (jC l next) (range l.length)
theorem tX{l:List Int}(hl:l.length<=1000000)(next:Int):iM l next=some (uJ l next):=by
 unfold iM;rw[cv (bU (by omega))];rw[v7 (λj=>decide (jC l next j=0)) (λj=>some (jC l next j)) ?_]
 ·exact aki rfl
 ·intro j hj eE;have hg:l.getD j 0=l[j]:=by simp[hj]
  rw[eo hj,bh,bh,bh];by_cases h1:l[j]<0
  ·rw[if_pos h1];have:jC l next j=6:=by unfold jC;rw[if_pos (by rw[hg];exact .inl h1)]
   rw[this];rfl
  rw[if_neg h1];by_cases h2:next<=l[j]
  ·rw[if_pos h2];have:jC l next j=6:=by unfold jC;rw[if_pos (by rw[hg];exact .inr h2)]
   rw[this];rfl
  rw[if_neg h2];by_cases h3:0<j
  ·have hg2:l.getD (j-1) 0=l[j-1]'(by omega):=by simp[show j-1<l.length by omega]
   rw[if_pos (by omega),gl (by omega),iE (by omega) (by omega)];rw[bh];have e2:l[(((j:Nat):Int)-1).toNat]'(by omega)=l[j-1]'(by omega):=by congr 1;omega
   rw[e2];by_cases h4:l[j]<=l[j-1]'(by omega)
   ·rw[if_pos h4];have:jC l next j=12:=by unfold jC;rw[if_neg (by rw[hg];omega),if_pos (by rw[hg,hg2];exact⟨h3,h4⟩)]
    rw[this];rfl
   ·rw[if_neg h4];have:jC l next j=0:=by unfold jC;rw[if_neg (by rw[hg];omega),if_neg (by rw[hg,hg2];omega)]
    rw[this];rfl
  ·rw[if_neg (by omega)];have:jC l next j=0:=by unfold jC;rw[if_neg (by rw[hg];omega),if_neg (by omega)]
   rw[this];rfl
theorem sk{l:List Int}(hl:l.length<=1000000)(next:Int):iu l next=some (uJ l next):=by
 unfold iu;rw[cv (bU (by omega))];rw[v7 (λj=>decide (jC l next j=0)) (λj=>some (jC l next j)) ?_]
 ·exact aki rfl
 ·intro j hj eE;have hg:l.getD j 0=l[j]:=by simp[hj]
  rw[eo hj,bh,bh,bh];by_cases h1:l[j]<0
  ·rw[if_pos h1];have:jC l next j=6:=by unfold jC;rw[if_pos (by rw[hg];exact .inl h1)]
   rw[this];rfl
  rw[if_neg h1];by_cases h2:next<=l[j]
  ·rw[if_pos h2];have:jC l next j=6:=by unfold jC;rw[if_pos (by rw[hg];exact .inr h2)]
   rw[this];rfl
  rw[if_neg h2];by_cases h3:0<j
  ·have hg2:l.getD (j-1) 0=l[j-1]'(by omega):=by simp[show j-1<l.length by omega]
   rw[if_pos (by omega),gl (by omega),iE (by omega) (by omega)];rw[bh];have e2:l[(((j:Nat):Int)-1).toNat]'(by omega)=l[j-1]'(by omega):=by congr 1;omega
   rw[e2];by_cases h4:l[j]<=l[j-1]'(by omega)
   ·rw[if_pos h4];have:jC l next j=12:=by unfold jC;rw[if_neg (by rw[hg];omega),if_pos (by rw[hg,hg2];exact⟨h3,h4⟩)]
    rw[this];rfl
   ·rw[if_neg h4];have:jC l next j=0:=by unfold jC;rw[if_neg (by rw[hg];omega),if_neg (by rw[hg,hg2];omega)]
    rw[this];rfl
  ·rw[if_neg (by omega)];have:jC l next j=0:=by unfold jC;rw[if_neg (by rw[hg];omega),if_neg (by omega)]
   rw[this];rfl
theorem xu{l:List Int}{next:Int} : uJ l next=0↔(∀x∈l,0<=x/\x<next)/\jE id l:=by
 unfold uJ;rw[avP];have hg:∀j,(hj:j<l.length)->l.getD j 0=l[j]:=λj hj=>by simp[hj]
 constructor
 ·intro h;have h':∀j,(hj:j<l.length)->(0<=l[j]/\l[j]<next)/\∀ (_:0<j),l[j-1]'(by omega)<l[j]:=λj hj=>by
   have:=h j (mem_range.2 hj);unfold jC at this;rw[hg j hj] at this;split at this
   ·cases this
   ·split at this
    ·cases this
    ·rename_i h1 h2;refine⟨by omega,λh0=>?_⟩;rw[hg (j-1) (by omega)] at h2;omega
  refine⟨λx hx=>?_,jE.aFm λi hi=>?_⟩
  ·obtain⟨j,hj,rfl⟩:=getElem_of_mem hx;exact (h' j hj).1
  ·exact (h' (i+1) hi).2 (by omega)
 ·rintro⟨h1,h2⟩ j hj;have hj:=mem_range.1 hj;have hx:=h1 _ (pT hj);unfold jC;rw[hg j hj,if_neg (by omega)];by_cases h0:0<j
  ·rw[hg (j-1) (by omega)];have:=h2.agc (i:=j-1) (j:=j) (by omega) hj;simp only[id] at this;rw[if_neg (by omega)]
  ·rw[if_neg (by omega)]
def l8(t:Types)(x:ay):Int :=
 if (jI t x.host).2≠0 then (jI t x.host).2
 else if x.nodes.length≠x.host.graph.nodes.length\/x.ah.length≠x.host.graph.ah.length then 20
 else if x.next<0\/1000000<x.next then 6
 else if uJ x.nodes x.next≠0 then uJ x.nodes x.next
 else if uJ x.ah x.next≠0 then uJ x.ah x.next
 else if x.ah.any (λe=>decide (e∈x.nodes))=true then 5 else 0
structure oQ(x:ay):Prop where
 host:vF x.host
 nodes:x.nodes.length<=1000000
 ah:x.ah.length<=1000000
theorem aeU{t:Types}{h:Host}(ht:iq t)(hh:vF h):nt t h=some (jI t h):=yp ⟨ht,hh⟩
theorem adm{t:Types}{h:Host}(ht:iq t)(hh:vF h):jS t h=some (jI t h):=yp ⟨ht,hh⟩
theorem abK{t:Types}(h:iq t):jR t=some (gD t):=yp h
theorem aae{t:Types}{h:Host}(hv:(gD t).2≠0):jI t h=(-1,(gD t).2):=by unfold jI;rw[if_pos hv]
theorem lE{t:Types}(ht:iq t){x:ay}(hx:oQ x):er t x=some (l8 t x):=by
 have h1:=hx.nodes;have h2:=hx.ah;unfold er l8;rw[aR (aeU ht hx.host),bh];by_cases h0:(jI t x.host).2=0
 ·rw[if_pos h0,if_neg (λh=>h h0),bh,bh];by_cases h3:x.nodes.length=x.host.graph.nodes.length
  ·rw[if_pos (by omega)];by_cases h4:x.ah.length=x.host.graph.ah.length
   ·rw[if_pos (by omega),if_neg (show ¬ (_\/_) by omega),bh,bh];by_cases h5:x.next<0
    ·rw[if_pos h5,if_pos (.inl h5)]
    rw[if_neg h5];by_cases h6:1000000<x.next
    ·rw[if_pos h6,if_pos (.inr h6)]
    rw[if_neg h6,if_neg (show ¬ (_\/_) by omega),aR (tX h1 _),bh];by_cases h7:uJ x.nodes x.next=0
    ·rw[if_pos h7,if_neg (λh=>h h7),aR (tX h2 _),bh];by_cases h8:uJ x.ah x.next=0
     ·rw[if_pos h8,if_neg (λh=>h h8),aR (wG (λe=>decide (e∈x.nodes)) h2 (λe _=>by unfold lR;rw[aR (aaS h1 e)]))];cases x.ah.any λe=>decide (e∈x.nodes)<;>rfl
     ·rw[if_neg h8,if_pos h8]
    ·rw[if_neg h7,if_pos h7]
   ·rw[if_neg (by omega),if_pos (.inr h4)]
  ·rw[if_neg (by omega),if_pos (.inl h3)]
 ·rw[if_neg h0,if_pos h0]
theorem kK{t:Types}(ht:iq t){x:ay}(hx:oQ x):bO t x=some (l8 t x):=by
 have h1:=hx.nodes;have h2:=hx.ah;unfold bO l8;rw[aR (abK ht),bh];by_cases hT:(gD t).2=0;rotate_left
 ·rw[if_neg hT,aae hT,if_pos hT]
 rw[if_pos hT,aR (adm ht hx.host),bh];by_cases h0:(jI t x.host).2=0
 ·rw[if_pos h0,if_neg (λh=>h h0),bh,bh];by_cases h3:x.nodes.length=x.host.graph.nodes.length
  ·rw[if_pos (by omega)];by_cases h4:x.ah.length=x.host.graph.ah.length
   ·rw[if_pos (by omega),if_neg (show ¬ (_\/_) by omega),bh,bh];by_cases h5:x.next<0
    ·rw[if_pos h5,if_pos (.inl h5)]
    rw[if_neg h5];by_cases h6:1000000<x.next
    ·rw[if_pos h6,if_pos (.inr h6)]
    rw[if_neg h6,if_neg (show ¬ (_\/_) by omega),aR (sk h1 _),bh];by_cases h7:uJ x.nodes x.next=0
    ·rw[if_pos h7,if_neg (λh=>h h7),aR (sk h2 _),bh];by_cases h8:uJ x.ah x.next=0
     ·rw[if_pos h8,if_neg (λh=>h h8),cv (bU (by omega))];rw[yF x.ah (λe=>!decide (e∈x.nodes)) (λ_=>some 5) ?_]
      ·rw[v8];have e:(x.ah.all λe=>!decide (e∈x.nodes)) = !x.ah.any λe=>decide (e∈x.nodes):=by rw[not_any_eq_all_not]
       rw[e];cases x.ah.any λe=>decide (e∈x.nodes)<;>rfl
      ·intro i hi eE;rw[eo hi,aR (dm h1 _),agM];have e:(x.nodes.any λy=>decide (y=x.ah[i]))=decide (x.ah[i]∈x.nodes):=by
        rw[Bool.eq_iff_iff,any_eq_true,decide_eq_true_iff];constructor
        ·rintro⟨y,hy,e⟩;rw[<-bX e];exact hy
        ·intro h;exact⟨_,h,ew rfl⟩
       rw[e];cases decide (x.ah[i]∈x.nodes)<;>rfl
     ·rw[if_neg h8,if_pos h8]
    ·rw[if_neg h7,if_pos h7]
   ·rw[if_neg (by omega),if_pos (.inr h4)]
  ·rw[if_neg (by omega),if_pos (.inl h3)]
 ·rw[if_neg h0,if_pos h0]
end Go.Proofs.YteambpeibacfpaaGreat
namespace Go.b7
section
variable{α X Y O:Type}
def oR(step:X->Y->α->(X×Y)×Bool):X->Y->List α->(X×Y)×Bool
 |x,y,[]=>((x,y),true)
 |x,y,e :: r=>if (step x y e).2=true then oR step (step x y e).1.1 (step x y e).1.2 r else step x y e
theorem aip{F:Bool×Int×X×Y->(Bool×Int×X×Y->Option O)->(Bool×Int×X×Y->Option O)->Option O}{K:Bool×Int×X×Y->Option O}(l:List α)(step:X->Y->α->(X×Y)×Bool)(inv:X->Y->Prop)
  (h0:∀i x y eE,F (false,i,x,y) eE K=K (false,i,x,y)) (h1:∀x y eE,F (true,((l.length:Nat):Int),x,y) eE K=K (true,((l.length:Nat):Int),x,y))
  (h2:∀ (i:Nat) (hi:i<l.length) x y eE,inv x y->F (true,(i:Int),x,y) eE K=eE ((step x y l[i]).2,((i+1:Nat):Int),(step x y l[i]).1.1,(step x y l[i]).1.2)/\inv (step x y l[i]).1.1 (step x y l[i]).1.2) :
  ∀ (k i n:Nat) (x:X) (y:Y),i+k=l.length->k+2<=n->inv x y->(∃j,iter F n (true,(i:Int),x,y) K=K ((oR step x y (l.drop i)).2,j,(oR step x y (l.drop i)).1.1,(oR step x y (l.drop i)).1.2))/\inv (oR step x y (l.drop i)).1.1 (oR step x y (l.drop i)).1.2
 |0,i,n+1,x,y,hk,hn,hv=>by
  have:i=l.length:=by omega
  subst this;rw[drop_length];exact⟨⟨_,by rw[iter,h1];rfl⟩,hv⟩
 |k+1,i,n+1,x,y,hk,hn,hv=>by
  have hi:i<l.length:=by omega
  obtain⟨g1,g2⟩:=h2 i hi x y (λs=>iter F n s K) hv;rw[drop_eq_getElem_cons hi,oR];cases hb:(step x y l[i]).2 with
  |true=>simp only[if_true];obtain⟨⟨j,q1⟩,q2⟩:=aip l step inv h0 h1 h2 k (i+1) n _ _ (by omega) (by omega) g2;exact⟨⟨j,by rw[iter,g1,hb];exact q1⟩,q2⟩
  |false=>simp only[Bool.false_eq_true,if_false];obtain⟨n,rfl⟩:∃m,n=m+1:=⟨n-1,by omega⟩;exact⟨⟨_,by rw[iter,g1,hb,iter,h0]⟩,g2⟩
theorem az6{F:Bool×Int×X×Y->(Bool×Int×X×Y->Option O)->(Bool×Int×X×Y->Option O)->Option O}{K:Bool×Int×X×Y->Option O}(l:List α)(step:X->Y->α->(X×Y)×Bool)(inv:X->Y->Prop)(hl:l.length<=1000000)
  (h0:∀i x y eE,F (false,i,x,y) eE K=K (false,i,x,y)) (h1:∀x y eE,F (true,((l.length:Nat):Int),x,y) eE K=K (true,((l.length:Nat):Int),x,y))
  (h2:∀ (i:Nat) (hi:i<l.length) x y eE,inv x y->F (true,(i:Int),x,y) eE K=eE ((step x y l[i]).2,((i+1:Nat):Int),(step x y l[i]).1.1,(step x y l[i]).1.2)/\inv (step x y l[i]).1.1 (step x y l[i]).1.2)
  (b:Bool) (x:X) (y:Y) (hv:inv x y):∃j,iter F fuel (b,0,x,y) K=K (if b=true then (oR step x y l).2 else false,j,if b=true then (oR step x y l).1.1 else x,if b=true then (oR step x y l).1.2 else y)/\(b=true->inv (oR step x y l).1.1 (oR step x y l).1.2):=by
 cases b with
 |true=>obtain⟨⟨j,q1⟩,q2⟩:=aip l step inv h0 h1 h2 l.length 0 fuel x y (by omega) (by unfold fuel;omega) hv;rw[drop_zero] at q1 q2;simp only[if_true];exact⟨j,q1,λ_=>q2⟩
 |false=>simp only[Bool.false_eq_true,if_false];refine⟨0,?_,λh=>by cases h⟩;rw[show fuel=4611686018427387903+1 from rfl,iter,h0]
end
section
variable{α O:Type}{Q:O->Prop}
theorem age(f:α->Int)(A B:List α)(hA:jE f A)(hB:jE f B)(hd:∀a∈A,∀b∈B,f a≠f b)(hlA:A.length<=1000000)(hlB:B.length<=1000000){K:Int×Int×List α->Option O}
    (hK:∀out,jE f out->(∀x,x∈out↔x∈A\/x∈B)->∀k i,Ok (K (k,i,out)) Q) :
    Ok (iter (λ(s:Int×Int×List α) aFn aJu =>
      cond (decide (s.2.1<=((A.length:Nat):Int))) (
       iter (λ(s1:Int×List α) jM tP =>
        cond (decide (s1.1<((B.length:Nat):Int))) (
         cond (decide (s.2.1=((A.length:Nat):Int))) (
          thn (iX B s1.1) λe =>
          cz (s1.2.length+1<=68719476736) <|
          jM ((i64.wrap (s1.1+1)),(s1.2++[e]))) <|
         thn (iX B s1.1) λe =>
         thn (iX A s.2.1) λe2 =>
         cond (decide (f e<f e2)) (
          cz (s1.2.length+1<=68719476736) <|
          jM ((i64.wrap (s1.1+1)),(s1.2++[e]))) <|
         tP (s1.1,s1.2)) <|
        tP (s1.1,s1.2))
       fuel (s.1,s.2.2) λs1 =>
       cond (decide (s.2.1<((A.length:Nat):Int))) (
        thn (iX A s.2.1) λe =>
        cz (s1.2.length+1<=68719476736) <|
        aFn (s1.1,(i64.wrap (s.2.1+1)),(s1.2++[e]))) <|
       aFn (s1.1,(i64.wrap (s.2.1+1)),s1.2)) <|
      aJu (s.1,s.2.1,s.2.2))
     fuel (0,0,([]:List α)) K) Q:=by
  refine agJ (λ(s:Int×Int×List α)=>∃k i:Nat,s.1=(k:Int)/\s.2.1=(i:Int)/\k<=B.length/\i<=A.length+1/\s.2.2.length<=i+k/\jE f s.2.2/\(∀x,x∈s.2.2↔x∈A.take i\/x∈B.take k)/\(∀x∈s.2.2,∀j,(hj:j<A.length)->i<=j->f x<f A[j])/\(∀x∈s.2.2,∀j,(hj:j<B.length)->k<=j->f x<f B[j])/\(i<=A.length\/k=B.length)) (λs=>A.length+1-s.2.1.toNat)
    ⟨0,0,rfl,rfl,zero_le _,zero_le _,le_refl _,jE.nil,by simp,λx hx=>(by cases hx),λx hx=>(by cases hx),.inl (zero_le _)⟩ (by unfold fuel;simp;omega) ?_
  rintro⟨s1,s2,out⟩ eE ⟨k,i,rfl,rfl,hk,hi,hlen,az7,hmem,h1,h2,h3⟩ hn;simp only at hlen az7 hmem h1 h2 hn ⊢;by_cases hc:i<=A.length;rotate_left
  · refine azv (gd (by omega)) (hK out az7 (λx=>?_) _ _);have hkB:k=B.length:=by omega
    rw[hmem,take_of_length_le (by omega),take_of_length_le (by omega)]
  refine tM (ew (by omega)) ?_;refine agJ (λ(s:Int×List α)=>∃k':Nat,s.1=(k':Int)/\k<=k'/\k'<=B.length/\s.2.length<=i+k'/\jE f s.2/\(∀x,x∈s.2↔x∈A.take i\/x∈B.take k')/\(∀x∈s.2,∀j,(hj:j<A.length)->i<=j->f x<f A[j])/\(∀x∈s.2,∀j,(hj:j<B.length)->k'<=j->f x<f B[j])) (λs=>B.length-s.1.toNat)
    ⟨k,rfl,le_refl _,hk,hlen,az7,hmem,h1,h2⟩ (by unfold fuel;simp;omega) ?_
  rintro⟨t,out⟩ aJv ⟨k',rfl,hkk,hk',hlen',asn,aso,uq,h2'⟩ hn1;simp only at hlen' asn aso uq h2' hn1 ⊢
  have behind : (k' = B.length ∨ (i < A.length ∧ ∃ hb : k' < B.length, ∀ ha : i < A.length, f A[i] < f B[k'])) → Ok (cond (decide (((i : Nat) : Int) < ((A.length : Nat) : Int))) (
        thn (iX A ((i:Nat):Int)) λe =>
        cz (out.length+1<=68719476736) <|
        eE (((k':Nat):Int),(i64.wrap (((i:Nat):Int)+1)),(out++[e]))) <|
       eE (((k':Nat):Int),(i64.wrap (((i:Nat):Int)+1)),out)) Q:=by
    intro hb;rw[gl (by omega)];by_cases ha:i<A.length
    · refine tM (ew (by omega)) (nT (by omega) (by omega) (b6 (by omega) (hn _ ⟨k',i+1,rfl,by simp only;omega,hk',by omega,by simp;omega,?_,?_,?_,?_,.inl (by omega)⟩ (by simp only;omega))))
      · refine asn.app (pairwise_singleton _ _) λa hx b hb=>?_
        rw[mem_singleton.1 hb];exact uq a hx i ha (le_refl _)
      · intro x;rw[mem_append,aso,mem_singleton,take_add_one,getElem?_eq_getElem ha,Option.toList_some,mem_append,mem_singleton];simp only[toNat_natCast];constructor
        · rintro ((h|h)|h)
          · exact .inl (.inl h)
          · exact .inr h
          · exact .inl (.inr h)
        · rintro ((h|h)|h)
          · exact .inl (.inl h)
          · exact .inr h
          · exact .inl (.inr h)
      · intro x hx j hj hij;rcases mem_append.1 hx with hx|hx
        · exact uq x hx j hj (by omega)
        · rw[mem_singleton.1 hx];exact hA.agc (by simp only[toNat_natCast];omega) hj
      · intro x hx j hj hij;rcases mem_append.1 hx with hx|hx
        · exact h2' x hx j hj hij
        · rw[mem_singleton.1 hx];rcases hb with hb|⟨_,hb,hab⟩
          · omega
          · have e1:=hab ha;rcases Nat.lt_or_eq_of_le hij with h|h
            · exact lt_trans e1 (hB.agc h hj)
            · subst h;exact e1
    · refine azv (gd (by omega)) (hn _ ⟨k',i+1,rfl,by simp only;omega,hk',by omega,by simp only;omega,asn,?_,?_,h2',?_⟩ (by simp only;omega))
      · intro x;simp only;rw[aso,take_of_length_le (show A.length<=i by omega),take_of_length_le (show A.length<=i+1 by omega)]
      · intro x hx j hj hij;omega
      · rcases hb with hb|⟨hb,_⟩
        · exact .inr hb
        · omega
  have step:(hb:k'<B.length)->(∀ha:i<A.length,f B[k']<f A[i])->Ok (aJv (i64.wrap (((k':Nat):Int)+1),out++[B[k']])) Q:=by
    intro hb hab;rw[gl (by omega)];refine hn1 _ ⟨k'+1,by simp only;omega,by omega,by omega,by simp;omega,?_,?_,?_,?_⟩ (by simp only;omega)
    · refine asn.app (pairwise_singleton _ _) λa hx b hb'=>?_
      rw[mem_singleton.1 hb'];exact h2' a hx k' hb (le_refl _)
    · intro x;rw[mem_append,aso,mem_singleton,take_add_one (l:=B),getElem?_eq_getElem hb,Option.toList_some,mem_append,mem_singleton,or_assoc]
    · intro x hx j hj hij;rcases mem_append.1 hx with hx|hx
      · exact uq x hx j hj hij
      · rw[mem_singleton.1 hx];have e1:=hab (by omega);rcases Nat.lt_or_eq_of_le hij with h|h
        · exact lt_trans e1 (hA.agc h hj)
        · subst h;exact e1
    · intro x hx j hj hij;rcases mem_append.1 hx with hx|hx
      · exact h2' x hx j hj (by omega)
      · rw[mem_singleton.1 hx];exact hB.agc (by omega) hj
  by_cases hb:k'<B.length;rotate_left
  · exact azv (gd (by omega)) (behind (.inl (by omega)))
  refine tM (ew (by omega)) ?_;by_cases ha:i<A.length
  · refine azv (gd (by omega)) (nT (by omega) (by omega) (nT (by omega) (by omega) ?_));simp only[toNat_natCast];by_cases hlt:f B[k']<f A[i]
    · exact tM (ew hlt) (b6 (by omega) (step hb λ_=>hlt))
    · refine azv (gd hlt) (behind (.inr ⟨ha,hb,λ_=>?_⟩));have:=hd A[i] (pT ha) B[k'] (pT hb);omega
  · refine tM (ew (by omega)) (nT (by omega) (by omega) (b6 (by omega) ?_));simp only[toNat_natCast];exact step hb λh=>absurd h ha
end
end Go.b7
namespace Go.Proofs.YteambpeibacfpaaGreat
open Go.b7
structure aaf(t:Types)(h:Host):Prop where
 types:(gD t).2=0
 valid:qj h.graph=0
 aiq:h.values.length=h.graph.nodes.length
 node:∀i,i<h.graph.nodes.length->nH t (h.graph.nodes.getD i default) (h.values.getD i default)=0
 xN:∀i,i<h.graph.ah.length->uO t h i=0
theorem aaf.graph{t:Types}{h:Host}(hh:aaf t h):OkG h.graph:=okG hh.valid
theorem tY{t:Types}{h:Host} : (jI t h).2=0↔aaf t h:=by
 unfold jI;constructor
 ·intro hv;split at hv
  ·rename_i h1;exact absurd hv h1
  ·rename_i h1;split at hv
   ·rename_i h2;exact absurd hv h2
   ·rename_i h2;split at hv
    ·cases hv
    ·rename_i h3;split at hv
     ·rename_i k hk;exact absurd hv (wX hk)
     ·rename_i h4;split at hv
      ·rename_i k hk;exact absurd hv (wX hk)
      ·rename_i h5;exact⟨Decidable.of_not_not h1,Decidable.of_not_not h2,Decidable.of_not_not h3,zh h4,zh h5⟩
 ·rintro⟨h1,h2,h3,h4,h5⟩;rw[if_neg (λh=>h h1),if_neg (λh=>h h2),if_neg (λh=>h h3),gC (λj _ hj=>h4 j hj),gC (λj _ hj=>h5 j hj)]
structure dY(t:Types)(x:ay):Prop where
 host:aaf t x.host
 aag:x.nodes.length=x.host.graph.nodes.length
 aru:x.ah.length=x.host.graph.ah.length
 next:0<=x.next/\x.next<=1000000
 nid:(∀n∈x.nodes,0<=n/\n<x.next)/\jE id x.nodes
 eid:(∀n∈x.ah,0<=n/\n<x.next)/\jE id x.ah
 apart:∀e∈x.ah,e ∉ x.nodes
theorem ef{t:Types}{x:ay} : l8 t x=0↔dY t x:=by
 unfold l8;constructor
 ·intro h;split at h
  ·rename_i h1;exact absurd h h1
  ·rename_i h1;split at h
   ·cases h
   ·rename_i h2;split at h
    ·cases h
    ·rename_i h3;split at h
     ·rename_i h4;exact absurd h h4
     ·rename_i h4;split at h
      ·rename_i h5;exact absurd h h5
      ·rename_i h5;split at h
       ·cases h
       ·rename_i h6;refine⟨tY.1 (Decidable.of_not_not h1),by omega,by omega,by omega,xu.1 (Decidable.of_not_not h4),xu.1 (Decidable.of_not_not h5),λe he hn=>h6 ?_⟩;exact any_eq_true.2 ⟨e,he,ew hn⟩
 ·rintro⟨h1,h2,h3,h4,h5,h6,h7⟩;rw[if_neg (λh=>h (tY.2 h1)),if_neg (by omega),if_neg (by omega),if_neg (λh=>h (xu.2 h5)),if_neg (λh=>h (xu.2 h6)),if_neg];intro h;obtain⟨e,he,hn⟩:=any_eq_true.1 h;exact h7 e he (bX hn)
def cE(a:ay)(i:Nat):ax:=⟨a.ah.getD i default,(a.host.graph.ah.getD i default).type,a.nodes.getD (a.host.graph.ah.getD i default).src.toNat default,a.nodes.getD (a.host.graph.ah.getD i default).dst.toNat default⟩
def cD(a:ay):List ax:=(range a.ah.length).map (cE a)
theorem we{α:Type} [Inhabited α](l:List α):(range l.length).map (λi=>l.getD i default)=l:=by
 refine ext_getElem (by simp) λi h1 h2=>?_
 simp[show i<l.length from h2]
theorem sZ(a:ay):(bG a).map aj.id=a.nodes:=by unfold bG;rw[map_map];exact we a.nodes
theorem qp(a:ay):(cD a).map ax.id=a.ah:=by unfold cD;rw[map_map];exact we a.ah
theorem iJ(a:ay):(bG a).length=a.nodes.length:=by simp[bG]
theorem ia(a:ay):(cD a).length=a.ah.length:=by simp[cD]
section
variable{t:Types}{a:ay}
theorem dY.agD(h:dY t a):jE aj.id (bG a):=jE.asm (f:=id) (by rw[sZ];exact h.nid.2)
theorem dY.agE(h:dY t a):jE ax.id (cD a):=jE.asm (f:=id) (by rw[qp];exact h.eid.2)
theorem dY.n40(h:dY t a):a.nodes.length<=40:=by rw[h.aag];exact h.host.graph.nodes
theorem dY.e80(h:dY t a):a.ah.length<=80:=by rw[h.aru];exact h.host.graph.ah
theorem wg{α:Type}(g:Nat->α){i n:Nat}(hi:i<n):((range n).map g).take (i+1)=((range n).map g).take i++[g i]:=by rw[take_add_one,getElem?_eq_getElem (by simpa using hi),Option.toList_some,getElem_map,getElem_range]
theorem uK(h:dY t a):j0 a=some (cD a):=by
 have hn:=h.n40;have he:=h.e80;refine Ok.eq ?_;unfold j0;refine b6 (bU (by omega)) ?_;refine nZ (λi s=>i<=a.ah.length/\s=(cD a).take i) (zero_le _) ⟨zero_le _,rfl⟩ ?_ ?_
 ·rintro i s eE _ hi ⟨_,rfl⟩ hnx;have hi2:i<a.host.graph.ah.length:=by rw[<-h.aru];exact hi
  have hg:a.host.graph.ah.getD i default=a.host.graph.ah[i]:=by simp[hi2]
  have hE:=h.host.graph.xN i hi2;rw[hg] at hE;rw[<-h.aag] at hE;refine nI hi (nI hi2 (nT hE.2.1.1 (by omega) (nT hE.2.2.1 (by omega) (b6 (by rw[length_take];omega) (hnx _ ⟨hi,?_⟩)))));unfold cD;rw[wg _ hi];congr 2;unfold cE;rw[hg];simp only[ax.mk.injEq];refine⟨by simp[hi],trivial,?_,?_⟩
  ·simp[show a.host.graph.ah[i].src.toNat<a.nodes.length by omega]
  ·simp[show a.host.graph.ah[i].dst.toNat<a.nodes.length by omega]
 ·rintro s ⟨_,rfl⟩;refine Ok.mk ?_;rw[take_of_length_le (by rw[ia];exact le_refl _)]
theorem az8(h:dY t a){i:Nat}(hi:i<a.nodes.length)(hv:∀l∈a.host.values,l.length<=1000000):gR a (i:Int)=some (aZ a i):=by
 have h1:i<a.host.graph.nodes.length:=by rw[<-h.aag];exact hi
 have h2:i<a.host.values.length:=by rw[h.host.aiq];exact h1
 unfold gR;rw[iE (by omega) (by simpa using hi),iE (by omega) (by simpa using h1),iE (by omega) (by simpa using h2)];have:=hv _ (pT h2);simp only[toNat_natCast];rw[cv (by omega)];unfold aZ;simp[hi,h1,h2]
theorem al0(h:dY t a){i:Nat}(hi:i<a.ah.length):dG a (i:Int)=some (cE a i):=by
 have hi2:i<a.host.graph.ah.length:=by rw[<-h.aru];exact hi
 have hg:a.host.graph.ah.getD i default=a.host.graph.ah[i]:=by simp[hi2]
 have hE:=h.host.graph.xN i hi2;rw[hg] at hE;rw[<-h.aag] at hE;unfold dG;rw[iE (by omega) (by simpa using hi2),iE (by omega) (by simpa using hi)];simp only[toNat_natCast];rw[iE hE.2.1.1 (by omega),iE hE.2.2.1 (by omega)];unfold cE;rw[hg];simp only[cC,ax.mk.injEq];refine⟨by simp[hi],trivial,?_,?_⟩
 ·simp[show a.host.graph.ah[i].src.toNat<a.nodes.length by omega]
 ·simp[show a.host.graph.ah[i].dst.toNat<a.nodes.length by omega]
theorem air(h:dY t a)(hv:∀l∈a.host.values,l.length<=1000000):fe a=some ⟨bG a,cD a⟩:=by
 have hn:=h.n40;have he:=h.e80;refine Ok.eq ?_;unfold fe;refine b6 (bU (by omega)) ?_;refine nZ (λi s=>i<=a.nodes.length/\s=(bG a).take i) (zero_le _) ⟨zero_le _,rfl⟩ ?_ ?_
 ·rintro i s eE _ hi ⟨_,rfl⟩ hnx;refine ok_eq (az8 h hi hv) (b6 (by rw[length_take];omega) (hnx _ ⟨hi,?_⟩));unfold bG;rw[wg _ hi]
 ·rintro s ⟨_,rfl⟩;refine b6 (bU (by omega)) ?_;refine nZ (λi s=>i<=a.ah.length/\s=(cD a).take i) (zero_le _) ⟨zero_le _,rfl⟩ ?_ ?_
  ·rintro i s eE _ hi ⟨_,rfl⟩ hnx;refine ok_eq (al0 h hi) (b6 (by rw[length_take];omega) (hnx _ ⟨hi,?_⟩));unfold cD;rw[wg _ hi]
  ·rintro s ⟨_,rfl⟩;refine Ok.mk ?_;rw[take_of_length_le (by rw[iJ];exact le_refl _),take_of_length_le (by rw[ia];exact le_refl _)]
end
theorem aeV{α:Type} [Inhabited α](l:List α)(q:α->Bool):(range l.length).find? (λj=>q (l.getD j default))=l.findIdx? q:=by
 have hg:∀k,(hk:k<l.length)->l.getD k default=l[k]:=λk hk=>by simp[hk]
 cases h:l.findIdx? q with
 |none=>rw[find?_eq_none];intro j hj;have hj:=mem_range.1 hj;rw[hg j hj];have:=findIdx?_eq_none_iff.1 h _ (pT hj);rw[this];simp
 |some i=>obtain⟨hi,h1,h2⟩:=findIdx?_eq_some_iff_getElem.1 h;rw[find?_range_eq_some];refine⟨by rw[hg i hi];exact h1,mem_range.2 hi,λj hj=>?_⟩;rw[hg j (by omega)];have:=h2 j hj;simpa using this
theorem akm(s:aH)(e:ax)(hl:s.ah.length<=1000000):cG s e=some (⟨s.nodes,(yH rZ s.ah e).1⟩,(yH rZ s.ah e).2):=by
 unfold cG;rw[cv (bU (by omega))];rw[v7 (λj=>!rZ (s.ah.getD j default) e) (λj=>some (⟨s.nodes,s.ah.take j++s.ah.drop (j+1)⟩,true)) ?_]
 ·simp only[Bool.not_not];rw[aeV s.ah (λm=>rZ m e)];unfold yH;cases s.ah.findIdx? λm=>rZ m e<;>rfl
 ·intro j hj eE;have hg:s.ah.getD j default=s.ah[j]:=by simp[hj]
  rw[eo hj,hg,kJ];show cond (rZ s.ah[j] e) _ _=_;cases rZ s.ah[j] e with
  |false=>rfl
  |true=>rw[cond_true,cond_true,gl (by omega),cv (by omega),cv (by rw[length_take];omega),cv (by omega),cv (by rw[length_take,length_drop];omega)];rfl
theorem aah{a b:List Int}(ha:a.length<=1000000):dK a b=some (decide (a=b)):=by
 unfold dK;rw[bh];by_cases hl:a.length=b.length
 ·rw[if_pos (by omega),cv (bU (by omega))];rw[v7 (λj=>decide (a.getD j 0=b.getD j 0)) (λ_=>some false) ?_]
  ·rw[v8];by_cases h:a=b
   ·subst h;rw[if_pos (by simp),ew rfl]
   ·rw[if_neg,gd h];intro h2;apply h;refine ext_getElem hl λi h3 h4=>?_
    have:=all_eq_true.1 h2 i (mem_range.2 h3);simpa[h3,h4] using this
  ·intro j hj eE;rw[eo hj,eo (show j<b.length by omega)];simp[hj,show j<b.length by omega]
 ·rw[if_neg (by omega),gd λh=>hl (by rw[h])]
theorem ais(a b:aj)(ha:a.values.length<=1000000):fE a b=some (eC a b):=by
 unfold fE eC;rw[bh,bh,aR (aah ha)];by_cases h1:a.id=b.id
 ·rw[if_pos h1,ew h1,Bool.true_and];by_cases h2:a.type=b.type
  ·rw[if_pos h2,ew h2,Bool.true_and]
  ·rw[if_neg h2,gd h2,Bool.false_and]
 ·rw[if_neg h1,gd h1,Bool.false_and]
theorem akn(s:aH)(e:aj)(hl:s.nodes.length<=1000000)(hv:∀n∈s.nodes,n.values.length<=1000000):cg s e=some (⟨(yH eC s.nodes e).1,s.ah⟩,(yH eC s.nodes e).2):=by
 unfold cg;rw[cv (bU (by omega))];rw[v7 (λj=>!eC (s.nodes.getD j default) e) (λj=>some (⟨s.nodes.take j++s.nodes.drop (j+1),s.ah⟩,true)) ?_]
 ·simp only[Bool.not_not];rw[aeV s.nodes (λm=>eC m e)];unfold yH;cases s.nodes.findIdx? λm=>eC m e<;>rfl
 ·intro j hj eE;have hg:s.nodes.getD j default=s.nodes[j]:=by simp[hj]
  rw[eo hj,aR (ais _ e (hv _ (pT hj))),hg,kJ];cases eC s.nodes[j] e with
  |false=>rfl
  |true=>rw[cond_true,cond_true,gl (by omega),cv (by omega),cv (by omega),cv (by rw[length_take];omega),cv (by rw[length_take,length_drop];omega)];rfl
theorem aFo(s:aH)(v:aO)(hl:s.nodes.length<=1000000)(hv:∀n∈s.nodes,n.values.length<=1000000):cS s v=some (⟨s.nodes.map (qJ v),s.ah⟩,s.nodes.any (lg v)):=by
 unfold cS;rw[cv (bU (by omega))];rw[(yG s.nodes (λ(s:List aj×Bool) n=>(s.1++[qJ v n],s.2||lg v n)) (λi s=>s.1.length=i) rfl ?_).1]
 ·have key:∀ (l:List aj) (a:List aj×Bool),l.foldl (λ(s:List aj×Bool) n=>(s.1++[qJ v n],s.2||lg v n)) a=(a.1++l.map (qJ v),a.2||l.any (lg v)):=by
   intro l
   induction l with
   |nil=>intro a;simp
   |cons n l ih=>intro a;rw[foldl_cons,ih];simp[Bool.or_assoc]
  rw[key];rfl
 ·rintro i hi ⟨out,b⟩ hlen;simp only at hlen;have hn:=hv _ (pT hi);refine⟨λeE=>?_,by simp[hlen]⟩;rw[eo hi];generalize s.nodes[i]=n at hn ⊢;simp only;rw[cv (show out.length+1<=68719476736 by omega)];have hno:lg v n=false->eE (out++[n],b)=eE (out++[qJ v n],b||lg v n):=λh=>by unfold qJ;rw[h];simp
  rw[bh,bh,bh];by_cases h1:n.id=v.id;rotate_left
  ·rw[if_neg h1,hno];unfold lg;rw[gd h1];rfl
  rw[if_pos h1];by_cases h2:0<=v.attr;rotate_left
  ·rw[if_neg h2,hno];unfold lg okV;rw[ew (show v.attr<0 by omega)];simp
  rw[if_pos h2];by_cases h3:v.attr<n.values.length;rotate_left
  ·rw[if_neg h3,hno];unfold lg okV;rw[ew (show (n.values.length:Int)<=v.attr by omega)];simp
  have hk:v.attr.toNat<n.values.length:=by omega
  have hg:n.values.getD v.attr.toNat default=n.values[v.attr.toNat]:=by simp[hk]
  rw[if_pos h3,iE h2 hk,bh];by_cases h4:n.values[v.attr.toNat]=v.old;rotate_left
  ·rw[if_neg h4,hno];unfold lg okV;rw[hg,gd h4];simp
  rw[if_pos h4,bh];by_cases h5:v.old=v.new
  ·rw[if_pos h5,hno];unfold lg okV;rw[ew (show v.new=v.old from h5.symm)];simp
  rw[if_neg h5,cv (by omega),cv (show out.length+1<=68719476736 by omega)];have hy:lg v n=true:=by unfold lg okV;rw[hg,ew h1,gd (show ¬ v.attr<0 by omega),gd (show ¬ (n.values.length:Int)<=v.attr by omega),ew h4,gd (show ¬ v.new=v.old from λh=>h5 h.symm)];rfl
  unfold qJ;rw[hy,if_pos rfl,Bool.or_true]
end Go.Proofs.YteambpeibacfpaaGreat
