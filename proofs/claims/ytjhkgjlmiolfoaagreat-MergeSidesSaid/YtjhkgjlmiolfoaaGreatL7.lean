/- Joined texts, part 7: lemmas for the statement. No condition. -/
import Derived.Test.YtjhkgjlmiolfoaaGreatL5
import Derived.Test.YtjhkgjlmiolfoaaGreatL6
import Derived.Test.YtjhkgjlmiolfoaaGreatL4
import Derived.Test.YtjhkgjlmiolfoaaGreatL3
import Derived.Test.YtjhkgjlmiolfoaaGreatRows
set_option maxHeartbeats 4000000
set_option linter.unusedSimpArgs false
set_option linter.unusedVariables false
open Nat (reduceEqDiff reduceLT reduceLeDiff reduceMul reduceAdd reduceSub)
open Go.IntKind (i64)
open Go.Proofs.Tryz
open Go.Proofs.Tryz renaming prog → pw
set_option maxRecDepth 20000
open List hiding cons erase_filter iter nil
open Nat (le_refl zero_le le_trans)
open Bool (false_eq_true not_eq_true' and_eq_true not_eq_true not_not or_eq_true)
open Int (toNat_natCast lt_trans not_lt)
open Option (toList_some)
namespace Go.Proofs.YtjhkgjlmiolfoaaGreat
open Go.cv
noncomputable section
theorem wB(a0:Types)(a1:az)(a2:aF)(a3:aF)(a4:az)(r:(List aG))(h:iG a0 a1 a2 a3 a4=some r):bt pw 98 [.agg [.aU (a0.nodes.map aJ),.aU (a0.ak.map aP)],.agg (aD a1),.agg (aB a2),.agg (aB a3),.agg (aD a4)] (λv=>v = .row 57 3 (r.map ay)):=by
 refine bt.uz ?_;refine bF [121] func98 ntmps98 results98 ?_;unfold iG at h;have F:=trivial;refine zG 1432 F h (gB _ _ _) λr5 h=>?_
 refine zT F h (wu _) λr6 h=>?_
 refine bY ((0:Int)<=1) F λF=>?_
 refine bY ((1:Int)<((2:Nat):Int)) F λF=>?_
 refine fo 8 [.o,.w,.s,.q] ?_;refine zTd F h (oU _ _) λr7 h=>?_
 refine zTd F h (gB _ _ _) λr8 h=>?_
 refine zV ?_;refine kS 1432 0 3 1 (r5.1.host.graph.nodes.map encI) [] (by simp -implicitDefEqProofs only[go_sem,F]<;>rfl) (by simp -implicitDefEqProofs only[go_sem,F]<;>and_intros<;>rfl) (by decide) ?_;refine kS 1433 0 175 3 (r5.1.host.graph.ak.map aZ) [] (by simp -implicitDefEqProofs only[go_sem,F]<;>rfl) (by simp -implicitDefEqProofs only[go_sem,F]<;>and_intros<;>rfl) (by decide) ?_;refine kS 1434 0 32 1 (r5.1.host.values.map bJ) [] (by simp -implicitDefEqProofs only[go_sem,F]<;>rfl) (by simp -implicitDefEqProofs only[go_sem,F]<;>and_intros<;>rfl) (by decide) ?_;refine kS 1435 0 3 1 (r5.1.nodes.map encI) [] (by simp -implicitDefEqProofs only[go_sem,F]<;>rfl) (by simp -implicitDefEqProofs only[go_sem,F]<;>and_intros<;>rfl) (by decide) ?_;refine kS 1436 0 3 1 (r5.1.ak.map encI) [] (by simp -implicitDefEqProofs only[go_sem,F]<;>rfl) (by simp -implicitDefEqProofs only[go_sem,F]<;>and_intros<;>rfl) (by decide) ?_;refine zE [(0,.q),(1,.q),(3,.q),(4,.q),(7,.b),(8,.b),(2,.f),(5,.q),(6,.w),(9,.q),(10,.w),(11,.q)] ?_;refine zH 1752 F h (ji _ _) λr9 h=>?_
 refine zTd F h (ji _ _) λr10 h=>?_
 refine zC F h λF h=>?_
 refine dJ (r9.length+r10.length) 24 F λF=>?_
 refine zF (eq_true (fc (n:=3) (f:=bZ) (λ_=>rfl) r10)) F λF=>?_
 refine zTd F h (ji _ _) λr11 h=>?_
 refine zC F h λF h=>?_
 refine dJ (r9.length+r10.length+r11.length) 24 F λF=>?_
 refine zF (eq_true (fc (n:=3) (f:=bZ) (λ_=>rfl) r11)) F λF=>?_
 refine zG 1928 F h (ji _ _) λxX h=>?_
 refine zV ?_;refine zN F h (0:Nat) [5,9,16,17] (λx=>[(18,.row 11845 x.2),(19,.p (.val (.int .i64 ((x.1.1:Nat):Int))))]) [5,9,1752,1928] (λx H=>[(11845,.row x.2 57 3 (x.1.2.map ay))]) ?_ ?_ (hw:=by refine dx.trans (ja 18 11845 57 3 rfl rfl (by decide)) ?_;exact zW)
 ·intro i13 tM g13 _ _ F agk h;try dsimp only at h
  refine zV ?_;refine zN F h (g13:Nat) [5,9,16,17,19] (λx=>[(18,.row 11845 x.2),(20,.p (.val (.int .i64 ((x.1.1:Nat):Int))))]) [5,9,1752,1928] (λx H=>[(11845,.row x.2 57 3 (x.1.2.map ay))]) ?_ ?_
  ·intro i14 s14 g14 _ _ F agj h;try dsimp only at h
   refine zV ?_;refine zN F h () [5,9,16,17,18,19,20] (λx=>[(21,.p (.val (.bool x.1.2))),(22,.p (.val (.int .i64 ((x.1.1:Nat):Int))))]) [5,9,1752,1928,11845] (λx H=>[]) ?_ ?_
   ·intro i15 yF g15 _ _ F ahn h;try dsimp only at h
    refine fo 33 [] ?_;refine amM F h (λF h=>?_) λF h=>?_
    ·exact zX (z:=ahn _ () h zW)
    ·refine zI bZ F h λe16 F h=>?_
     refine zI encI F h λe17 F h=>?_
     refine zBd F h (λF h=>?_) λF h=>?_
     ·refine zBd F h (λF h=>?_) λF h=>?_
      ·refine uD F h (zM _ _) λr18 h=>?_
       exact zX (z:=ahn _ () h zW)
      ·exact zX (z:=ahn _ () h zW)
     ·exact zX (z:=ahn _ () h zW)
   ·intro i15 yF g15 _ F h;try dsimp only at h
    refine zB F h (λF h=>?_) λF h=>?_
    ·refine zI encI F h λe19 F h=>?_
     refine zC F h λF h=>?_
     refine dJ (s14.length+1) 24 F λF=>?_
     refine zF (bz ay s14 [(⟨4,e19,((i14:Nat):Int)⟩:aG)] (c:=[[.val (.int .i64 4),.val (.int .i64 e19),.val (.int .i64 ((i14:Nat):Int))]]) rfl) F λF=>?_
     exact zX (z:=agj _ (g14+1) h zW)
    ·exact zX (z:=agj _ g14 h zW)
  ·intro i14 s14 g14 _ F h;try dsimp only at h
   exact zX (z:=agk _ g14 h zW)
 ·intro i13 tM g13 _ F h;try dsimp only at h
  exact jC h
end
noncomputable section
theorem xm(a0:Types)(a1:az)(a2:aF)(a3:aF)(r:Int)(h:gA a0 a1 a2 a3=some r):aS pw 95 [.agg [.aU (a0.nodes.map aJ),.aU (a0.ak.map aP)],.agg (aD a1),.agg (aB a2),.agg (aB a3)] (λv=>v = .val (.int .i64 r)):=by
 refine aS.oa ?_;refine aR [] func95 ntmps95 results95 ?_;unfold gA at h;have F:=trivial;refine zG 1272 F h (gB _ _ _) λr4 h=>?_
 refine o9 F h (λF h=>?_) λF h=>?_
 ·refine zG 1432 F h (gB _ _ _) λr5 h=>?_
  refine o9 F h (λF h=>?_) λF h=>?_
  ·refine zK F h (qm _) λr6 h=>?_
   refine oQ F h (λF h=>?_) λF h=>?_
   ·refine zK F h (qm _) λr7 h=>?_
    refine o9 F h (λF h=>?_) λF h=>?_
    ·refine bY ((0:Int)<=1) F λF=>?_
     refine bY ((1:Int)<((2:Nat):Int)) F λF=>?_
     refine bY ((0:Int)<=1) F λF=>?_
     refine bY ((1:Int)<((2:Nat):Int)) F λF=>?_
     refine bY ((0:Int)<=0) F λF=>?_
     refine bY ((0:Int)<((2:Nat):Int)) F λF=>?_
     refine zB F h (λF h=>?_) λF h=>?_
     ·exact zR h
     ·exact zR h
    ·exact zR h
   ·exact zR h
  ·exact zR h
 ·exact zR h
end
noncomputable section
theorem wC(a0:Types)(a1:az)(a2:aF)(a3:aF)(r:az×Int)(h:gh a0 a1 a2 a3=some r):bt pw 97 [.agg [.aU (a0.nodes.map aJ),.aU (a0.ak.map aP)],.agg (aD a1),.agg (aB a2),.agg (aB a3)] (λv=>v = .dW [.agg [.row 3 1 (r.1.host.graph.nodes.map encI),.row 175 3 (r.1.host.graph.ak.map aZ),.row 32 1 (r.1.host.values.map bJ),.row 3 1 (r.1.nodes.map encI),.row 3 1 (r.1.ak.map encI),.p (.val (.int .i64 r.1.next))],.p (.val (.int .i64 r.2))]):=by
 refine bt.uz ?_;refine bF [] func97 ntmps97 results97 ?_;unfold gh at h;have F:=trivial;refine zT F h (gB _ _ _) λr4 h=>?_
 refine o9 F h (λF h=>?_) λF h=>?_
 ·refine fo 7 [.w,.s] ?_;refine zTd F h (oU _ _) λr5 h=>?_
  refine zTd F h (yb _ _) λr6 h=>?_
  refine zTd F h (rC _ _) λr7 h=>?_
  refine pO F h (λF h=>?_) λF h=>?_
  ·exact jC h
  ·refine zB F h (λF h=>?_) λF h=>?_
   ·exact jC h
   ·refine zG 1976 F h (gB _ _ _) λr8 h=>?_
    exact jC h
 ·exact jC h
end
noncomputable section
theorem ahq(a0:Types)(a1:az)(a2:aF)(a3:aF)(r:az×Int)(h:lG a0 a1 a2 a3=some r):aS pw 16 [.agg [.aU (a0.nodes.map aJ),.aU (a0.ak.map aP)],.agg (aD a1),.agg (aB a2),.agg (aB a3)] (λv=>v = .dW [.agg (aD r.1),.val (.int .i64 r.2)]):=by
 refine aS.oa ?_;refine aR [] func16 ntmps16 results16 ?_;unfold lG at h;have F:=trivial;refine zK F h (wA _ _ _ _) λr4 h=>?_
 refine o9 F h (λF h=>?_) λF h=>?_
 ·refine zG 1352 F h (p6 _ _) λr5 h=>?_
  refine zB F h (λF h=>?_) λF h=>?_
  ·exact zR h
  ·refine zK F h (acK _ _ _ _) λr6 h=>?_
   exact zR h
 ·exact zR h
end
noncomputable section
theorem mA  (r:Bool)(h:fB  = some r):aS pw 13 [] (λv=>v = .val (.bool r)):=by
 refine aS.oa ?_;refine aR [] func13 ntmps13 results13 ?_;unfold fB at h;have F:=trivial;refine zG 1144 F h vw λr1 h=>?_
 refine fo 4 [.f,.q,.q,.q,.q,.q] ?_;refine zTd F h qR λr2 h=>?_
 refine zH 1416 F h (qU _ _ _ _) λr3 h=>?_
 refine zV ?_;refine kS 1144 0 165 4 (r1.nodes.map aJ) [] (by simp -implicitDefEqProofs only[go_sem,F]<;>rfl) (by simp -implicitDefEqProofs only[go_sem,F]<;>and_intros<;>rfl) (by decide) ?_;refine kS 1145 0 170 7 (r1.ak.map aP) [] (by simp -implicitDefEqProofs only[go_sem,F]<;>rfl) (by simp -implicitDefEqProofs only[go_sem,F]<;>and_intros<;>rfl) (by decide) ?_;refine fo 7 [.o,.w,.s,.q] ?_;refine zTd F h qR λr4 h=>?_
 refine uD F h (ahq _ _ _ _) λr5 h=>?_
 refine oQ F h (λF h=>?_) λF h=>?_
 ·refine zK F h (wz _ _) λr6 h=>?_
  refine oQ F h (λF h=>?_) λF h=>?_
  ·refine oQ F h (λF h=>?_) λF h=>?_
   ·refine zK F h (vc _ _) λr7 h=>?_
    refine oQ F h (λF h=>?_) λF h=>?_
    ·refine oQ F h (λF h=>?_) λF h=>?_
     ·refine zJ 1 bJ F h λe8 F h=>?_
      refine zK F h (vc _ _) λr9 h=>?_
      exact zR h
     ·exact zR h
    ·exact zR h
   ·exact zR h
  ·exact zR h
 ·exact zR h
end
noncomputable section
theorem tZ(a0:Types)(a1:az)(a2:aF)(a3:aF)(r:(List aG)×Int)(h:gn a0 a1 a2 a3=some r):bt pw 46 [.agg [.aU (a0.nodes.map aJ),.aU (a0.ak.map aP)],.agg (aD a1),.agg (aB a2),.agg (aB a3)] (λv=>v = .dW [.row 57 3 (r.1.map ay),.p (.val (.int .i64 r.2))]):=by
 refine bt.uz ?_;refine bF [] func46 ntmps46 results46 ?_;unfold gn at h;have F:=trivial;refine zK F h (xm _ _ _ _) λr4 h=>?_
 refine o9 F h (λF h=>?_) λF h=>?_
 ·refine zG 1400 F h (tu _ _ _) λr5 h=>?_
  refine zB F h (λF h=>?_) λF h=>?_
  ·exact jC h
  ·refine zG 1560 F h (wC _ _ _ _) λr6 h=>?_
   refine o9 F h (λF h=>?_) λF h=>?_
   ·refine zG 1736 F h (wB _ _ _ _ _) λr7 h=>?_
    exact jC h
   ·exact jC h
 ·exact jC h
end
noncomputable section
theorem sj(a0:bT)(r:Types×bV×Bool)(h:fz a0=some r):bt pw 12 [.agg (eL a0)] (λv=>v = .dW [.agg [.p (.aU (r.1.nodes.map aJ)),.p (.aU (r.1.ak.map aP))],.agg [.p (.aU (r.2.1.a.host.graph.nodes.map encI)),.p (.aU (r.2.1.a.host.graph.ak.map aZ)),.p (.aU (r.2.1.a.host.values.map bJ)),.p (.aU (r.2.1.a.nodes.map encI)),.p (.aU (r.2.1.a.ak.map encI)),.p (.val (.int .i64 r.2.1.a.next)),.row 75 3 (r.2.1.p.au.map ag),.row 102 4 (r.2.1.p.aC.map aj),.row 75 3 (r.2.1.p.aM.map ag),.row 102 4 (r.2.1.p.aK.map aj),.row 105 4 (r.2.1.p.values.map aI),.p (.val (.int .i64 r.2.1.p.next.x0)),.p (.val (.int .i64 r.2.1.p.next.x1)),.row 75 3 (r.2.1.q.au.map ag),.row 102 4 (r.2.1.q.aC.map aj),.row 75 3 (r.2.1.q.aM.map ag),.row 102 4 (r.2.1.q.aK.map aj),.row 105 4 (r.2.1.q.values.map aI),.p (.val (.int .i64 r.2.1.q.next.x0)),.p (.val (.int .i64 r.2.1.q.next.x1))],.p (.val (.bool r.2.2))]):=by
 refine bt.uz ?_;refine bF [2000002] func12 ntmps12 results12 ?_;unfold fz at h;have F:=trivial;refine pO F h (λF h=>?_) λF h=>?_
 ·exact jC h
 ·refine pO F h (λF h=>?_) λF h=>?_
  ·exact jC h
  ·refine pO F h (λF h=>?_) λF h=>?_
   ·exact jC h
   ·refine pO F h (λF h=>?_) λF h=>?_
    ·exact jC h
    ·refine pO F h (λF h=>?_) λF h=>?_
     ·exact jC h
     ·refine pO F h (λF h=>?_) λF h=>?_
      ·exact jC h
      ·refine zB F h (λF h=>?_) λF h=>?_
       ·exact jC h
       ·refine zT F h (x9 _ _) λr1 h=>?_
        refine fo 8 [.o,.w,.s,.q] ?_;refine zTd F h (qS _ _) λr2 h=>?_
        refine zTd F h (yQ _ _) λr3 h=>?_
        refine zK F h (kM _ _ _) λr4 h=>?_
        refine fo 7 [.f,.q,.q,.o,.w,.s,.q] ?_;refine uD F h (kM _ _ _) λr5 h=>?_
        refine zH 2376 F h (qT _ _ _) λr6 h=>?_
        refine fo 7 [.f,.q,.q,.o,.w,.s,.q] ?_;refine uD F h (kM _ _ _) λr7 h=>?_
        refine zH 2552 F h (qT _ _ _) λr8 h=>?_
        refine zG 2744 F h (tZ _ _ _ _) λr9 h=>?_
        refine zD [.q,.o,.q,.q,.q,.q,.q,.q,.q,.p,.p,.p,.s,.w,.q] ?_;refine zBd F h (λF h=>?_) λF h=>?_
        ·refine zBd F h (λF h=>?_) λF h=>?_
         ·exact jC h
         ·exact jC h
        ·exact jC h
end
noncomputable section
end
noncomputable section
end
def amT(c:aG)(v:aO):Bool:=decide (v.id=c.id)&&decide (v.attr=c.attr)
def aep(l:List aO)(c:aG):List aO:=l.filter λv=>!amT c v
def abA(p q:aF)(c:aG)(counts:Bool):aF×aF :=
 if counts=false then (⟨p.au.filter (λn=>!decide (n.id=c.id)),p.aC,p.aM,p.aK,p.values,p.next⟩,q)
 else if c.kind=1 then (p,⟨q.au,q.aC,q.aM,q.aK.filter (λe=>!(decide (e.src=c.id)||decide (e.dst=c.id))),q.values,q.next⟩)
 else (p,⟨q.au,q.aC,q.aM,q.aK,aep q.values c,q.next⟩)
theorem auT(v:aO)(c:aG):aS pw 200 [.agg (aI v),.ee (ay c) 0] (λr=>r = .val (.bool (amT c v))):=by
 unfold amT;refine aR [] func200 ntmps200 results200 ?_;simp only[go_sem,aI,ay]
 repeat' first|done|(refine bQ (λh=>?_) (λh=>?_)<;>try simp only[go_sem,h])|(refine bL (λh=>?_) (λh=>?_)<;>try simp only[go_sem,h])|(refine aW (λh=>?_) (λh=>?_)<;>try simp only[go_sem,h])|(refine aL (λh=>?_) (λh=>?_)<;>try simp only[go_sem,h])
theorem acL(l:List aO)(c:aG)(hl:l.length<=1000000):bt pw 124 [.aU (l.map aI),.agg (ay c)] (λv=>v = .row 105 4 ((aep l c).map aI)):=by have hd:=aie (amT c) l hl 0 200 [] [.ee (ay c) 0] (λx _=>auT x c);refine bF [] func124 ntmps124 results124 ?_;simp only[go_sem,ay];refine pJ 1000 (agc l hl) (by simp only[go_sem]<;>rfl) (vM) (by simp only[go_sem]) ?_;simp only[go_sem];refine tX (acw 3 (ay c) (by decide) (by simp only[go_sem,ay])) hd (by simp only[go_sem]<;>rfl) (by simp only[go_sem]<;>rfl) (by simp only[go_sem]<;>rfl) (λh=>by cases h) ?_;simp only[go_sem];exact⟨by decide,_,.refl _,rfl⟩
theorem auU(n:ah)(c:aG):aS pw 201 [.agg (ag n),.ee (ay c) 0] (λr=>r = .val (.bool (decide (n.id=c.id)))):=by refine aR [] func201 ntmps201 results201 ?_;simp only[go_sem,ag,ay]
theorem auV(e:ax)(c:aG):aS pw 202 [.agg (aj e),.ee (ay c) 0] (λr=>r = .val (.bool (decide (e.src=c.id)||decide (e.dst=c.id)))):=by
 refine aR [] func202 ntmps202 results202 ?_;simp only[go_sem,aj,ay]
 repeat' first|done|(refine bQ (λh=>?_) (λh=>?_)<;>try simp only[go_sem,h])|(refine bL (λh=>?_) (λh=>?_)<;>try simp only[go_sem,h])|(refine aW (λh=>?_) (λh=>?_)<;>try simp only[go_sem,h])|(refine aL (λh=>?_) (λh=>?_)<;>try simp only[go_sem,h])
theorem auW(p q:aF)(c:aG)(hl:p.au.length<=1000000):bt pw 125 [.agg (aB p),.agg (aB q),.agg (ay c),.val (.bool false)] (λv=>v = .dW [.agg [.row 75 3 ((p.au.filter λn=>!decide (n.id=c.id)).map ag),.p (.aU (p.aC.map aj)),.p (.aU (p.aM.map ag)),.p (.aU (p.aK.map aj)),.p (.aU (p.values.map aI)),.p (.val (.int .i64 p.next.x0)),.p (.val (.int .i64 p.next.x1))],.p (.agg (aB q))]):=by refine bt.uz ?_;have hd:=af6 (λn=>decide (n.id=c.id)) p.au hl 0 201 [] [.ee (ay c) 0] (λx _=>auU x c);refine bF [2000008,2000009] func125 ntmps125 results125 ?_;simp only[go_sem,aB,ay,Bool.not_false];refine pJ 1000 (aem p.au hl) (by simp only[go_sem]<;>rfl) (vM) (by simp only[go_sem]) ?_;simp only[go_sem];refine tX (acw 6 (ay c) (by decide) (by simp only[go_sem,ay])) hd (by simp only[go_sem]<;>rfl) (by simp only[go_sem]<;>rfl) (by simp only[go_sem]<;>rfl) (λh=>by cases h) ?_;simp only[go_sem];refine cZ [.o,.o,.s,.s] (by kernel_rfl) ?_;simp only[go_sem];refine⟨by decide,_,.refl _,?_⟩;simp only[go_sem,aB]<;>(and_intros)<;>rfl
theorem auX(p q:aF)(c:aG)(hk:c.kind=1)(hl:q.aK.length<=1000000):bt pw 125 [.agg (aB p),.agg (aB q),.agg (ay c),.val (.bool true)] (λv=>v = .dW [.p (.agg (aB p)),.agg [.p (.aU (q.au.map ag)),.p (.aU (q.aC.map aj)),.p (.aU (q.aM.map ag)),.row 102 4 ((q.aK.filter λe=>!(decide (e.src=c.id)||decide (e.dst=c.id))).map aj),.p (.aU (q.values.map aI)),.p (.val (.int .i64 q.next.x0)),.p (.val (.int .i64 q.next.x1))]]):=by refine bt.uz ?_;have hd:=af7 (λe=>decide (e.src=c.id)||decide (e.dst=c.id)) q.aK hl 0 202 [] [.ee (ay c) 0] (λx _=>auV x c);have hk1:=dB hk;refine bF [2000008,2000009] func125 ntmps125 results125 ?_;simp only[go_sem,aB,ay,Bool.not_true,hk1];refine pJ 1000 (aen q.aK hl) (by simp only[go_sem]<;>rfl) (vM) (by simp only[go_sem]) ?_;simp only[go_sem];refine tX (acw 6 (ay c) (by decide) (by simp only[go_sem,ay])) hd (by simp only[go_sem]<;>rfl) (by simp only[go_sem]<;>rfl) (by simp only[go_sem]<;>rfl) (λh=>by cases h) ?_;simp only[go_sem];refine cZ [.o,.o,.s,.s] (by kernel_rfl) ?_;simp only[go_sem];refine⟨by decide,_,.refl _,?_⟩;simp only[go_sem,aB]<;>(and_intros)<;>rfl
theorem auY(p q:aF)(c:aG)(hk:c.kind≠1)(hl:q.values.length<=1000000):bt pw 125 [.agg (aB p),.agg (aB q),.agg (ay c),.val (.bool true)] (λv=>v = .dW [.p (.agg (aB p)),.agg [.p (.aU (q.au.map ag)),.p (.aU (q.aC.map aj)),.p (.aU (q.aM.map ag)),.p (.aU (q.aK.map aj)),.row 105 4 ((aep q.values c).map aI),.p (.val (.int .i64 q.next.x0)),.p (.val (.int .i64 q.next.x1))]]):=by refine bt.uz ?_;have hk1:=gf hk;refine bF [2000008,2000009] func125 ntmps125 results125 ?_;simp only[go_sem,aB,ay,Bool.not_true,hk1];refine pJ 1000 (acL q.values c hl) (by simp only[go_sem]<;>rfl) (vM) (by simp only[go_sem]) ?_;simp only[go_sem];refine cZ [.o,.o,.s,.s] (by kernel_rfl) ?_;simp only[go_sem];refine⟨by decide,_,.refl _,?_⟩;simp only[go_sem,aB]<;>(and_intros)<;>rfl
theorem azo(p q:aF)(c:aG)(counts:Bool)(h1:p.au.length<=1000000)(h2:q.aK.length<=1000000)(h3:q.values.length<=1000000):aS pw 125 [.agg (aB p),.agg (aB q),.agg (ay c),.val (.bool counts)] (λv=>v = .dW [.agg (aB (abA p q c counts).1),.agg (aB (abA p q c counts).2)]):=by
 cases counts with
 |false=>have h:=(auW p q c h1).anJ;simp only[RV.pv,RV.pvL] at h;exact h
 |true =>
  by_cases hk:c.kind=1
  ·have h:=(auX p q c hk h2).anJ;simp only[RV.pv,RV.pvL] at h;unfold abA;rw[if_neg (by decide),if_pos hk];exact h
  ·have h:=(auY p q c hk h3).anJ;simp only[RV.pv,RV.pvL] at h;unfold abA;rw[if_neg (by decide),if_neg hk];exact h
def n9(l:List aO)(c:aG):Option (List aO):=giv (l.length<=1000000) (aep l c)
theorem vR(l:List aO)(c:aG)(r:List aO)(h:n9 l c=some r):bt pw 124 [.aU (l.map aI),.agg (ay c)] (λv=>v = .row 105 4 (r.map aI)):=by obtain⟨h1,rfl⟩:=qg h;exact acL l c h1
def sC(p q:aF)(c:aG)(counts:Bool):Option (aF×aF):=giv (p.au.length<=1000000/\q.aK.length<=1000000/\q.values.length<=1000000) (abA p q c counts)
theorem aaU(p q:aF)(c:aG)(counts:Bool)(r:aF×aF)(h:sC p q c counts=some r):aS pw 125 [.agg (aB p),.agg (aB q),.agg (ay c),.val (.bool counts)] (λv=>v = .dW [.agg (aB r.1),.agg (aB r.2)]):=by obtain⟨⟨h1,h2,h3⟩,rfl⟩:=qg h;exact azo p q c counts h1 h2 h3
def pe(l:List Int)(n:Int):Option (List Int):=giv (1<=n/\n<=1000000/\l.length=1) (replicate n.toNat (l.getD 0 0))
theorem azp{P:Program}{t:TypeId}{k:IntKind}{a b:Int} : mM P .and t (.p (.val (.int k a))) (.p (.val (.int k b)))=some (True,.p (.val (.int k (k.wrap (BitVec.ofInt k.bits a &&& BitVec.ofInt k.bits b).toNat)))):=by simp[mM,yO]
theorem azq(n:Nat)(h:n<=1000000):IntKind.u64.wrap ((BitVec.ofInt 64 (n:Int) &&& BitVec.ofInt 64 4294967295).toNat:Int)=n:=by
 have e:(BitVec.ofInt 64 (n:Int) &&& BitVec.ofInt 64 4294967295).toNat=n:=by
  rw[BitVec.toNat_and];have e1:(BitVec.ofInt 64 (n:Int)).toNat=n:=by rw[BitVec.toNat_ofInt];omega
  have e2:(BitVec.ofInt 64 4294967295).toNat=2 ^ 32-1:=by decide
  rw[e1,e2,Nat.and_two_pow_sub_one_eq_mod];omega
 rw[e];exact IntWalk.u64_in _ (by omega)
theorem aB6:IntKind.u64.wrap ((BitVec.ofInt 64 1 &&& BitVec.ofInt 64 4294967295).toNat:Int)=1:=by decide
theorem and_zero:IntKind.u64.wrap ((BitVec.ofInt 64 0 &&& BitVec.ofInt 64 4294967295).toNat:Int)=0:=by decide
theorem azr{P:Program}{t:TypeId}(a b:Int)(h:IntKind.u64.wrap ((BitVec.ofInt 64 a &&& BitVec.ofInt 64 4294967295).toNat:Int)=b):mM P .and t (.p (.val (.int .u64 a))) (.p (.val (.int .u64 4294967295)))=some (True,.p (.val (.int .u64 b))):=by subst h;exact azp
set_option maxRecDepth 20000 in
theorem azs(n:Nat)(hn:n<=1000000):aS pw 122 [.val (.int .u64 1),.val (.int .u64 n)] (λv=>v = .dW [.val (.int .u64 0),.val (.int .u64 n)]):=by
 have hw:IntKind.u64.wrap (n:Int)=n:=IntWalk.u64_in _ (by omega);have hw0:IntKind.u64.wrap 0=0:=by decide
 have hf:(n:Int).fdiv (2 ^ 32)=0:=by rw[Int.fdiv_eq_ediv_of_nonneg _ (by decide)];omega
 have hf1:(1:Int).fdiv (2 ^ 32)=0:=by decide
 have hf0:(0:Int).fdiv (2 ^ 32)=0:=by decide
 have hm:min 32 64=32:=rfl;have a1:=λt=>azr (P:=pw) (t:=t) n n (azq n hn)
 have a2:=λt=>azr (P:=pw) (t:=t) 1 1 aB6
 have a3:=λt=>azr (P:=pw) (t:=t) 0 0 and_zero
 have hw1:IntKind.u64.wrap 1=1:=by decide
 refine aR [] func122 ntmps122 results122 ?_;simp only[go_sem,a1,a2,a3,hw1,hw,hw0,hf,hf1,hf0,hm,Int.one_mul,Int.zero_mul,Int.mul_zero,Int.add_zero,Int.zero_add];decide
set_option maxRecDepth 20000 in
theorem aDO(n:Nat)(hn:n<=1000000):aS pw 64 [.val (.int .u64 1),.val (.int .u64 n)] (λv=>v = .dW [.val (.int .u64 0),.val (.int .u64 n)]):=by refine aR [] func64 ntmps64 results64 ?_;simp only[go_sem];refine aX (azs n hn) (by simp only[go_sem]<;>rfl) (wW) ?_;simp only[go_sem]
def abB(N k:Nat)(a:Int):List (List PV):=replicate k [.val (.int .i64 a)]++replicate (N-k) [.val (.int .i64 0)]
theorem qV(N k:Nat)(a:Int)(h:k<=N):(abB N k a).length=N:=by simp[abB];omega
theorem azt(N:Nat)(a:Int):[PV.val (.int .i64 a)] :: drop 1 (replicate N [PV.val (.int .i64 0)])=abB N 1 a:=by simp[abB]
theorem auZ(N k c:Nat)(a:Int)(h:k+c<=N):splice (abB N k a) k ((replicate c (PV.val (.int .i64 a))).map λp=>[p])=abB N (k+c) a:=by unfold splice abB;rw[take_left' (by simp),map_replicate,length_replicate,<-drop_drop,drop_left' (by simp),drop_replicate,replicate_append_replicate,show N-k-c=N-(k+c) by omega]
set_option maxRecDepth 20000 in
theorem aaE(l:List Int)(n:Int)(r:List Int)(h:pe l n=some r):bt pw 23 [.aU (l.map encI),.val (.int .i64 n)] (λv=>v = .row 3 1 (r.map encI)):=by
 obtain⟨⟨h0,h1,h2⟩,rfl⟩:=qg h;obtain⟨a,rfl⟩:∃a,l=[a]:=length_eq_one_iff.1 h2;obtain⟨N,rfl⟩:∃N:Nat,n=N:=⟨n.toNat,by omega⟩;simp only[toNat_natCast];refine bF [30] func23 ntmps23 results23 ?_;simp only[go_sem];refine aL (λhc=>?_) (λhc=>?_)
 ·have:=ct hc;omega
 have hw1:IntKind.u64.wrap (N:Int)=N:=IntWalk.u64_in _ (by omega);have hw2:i64.wrap (N:Int)=N:=dA (by omega);have hwl:IntKind.u64.wrap 1=1:=rfl;simp only[go_sem,hw1,hw2,hwl,toNat_natCast];refine aX (aDO N (by omega)) (by simp only[go_sem,hw1,hw2,hwl,toNat_natCast]<;>rfl) (wW) ?_;have hlt:decide ((9223372036854775807:Int)<N)=false:=gf (by omega);have hz:decide ((0:Int)<0)=false:=rfl;simp only[go_sem,hw1,hw2,hwl,toNat_natCast,hlt,hz,Bool.not_false,me];refine⟨by omega,?_⟩;refine aBL 32 32 (.tmp 31) (.tmp 32) 30 0 3 (replicate N [.val (.int .i64 0)]) [.val (.int .i64 a)] rfl (by kernel_rfl) (by kernel_rfl) (by simp only[go_sem,hw1,hw2,hwl,toNat_natCast,hlt,hz,Bool.not_false,me]) (by simp only[go_sem,hw1,hw2,hwl,toNat_natCast,hlt,hz,Bool.not_false,me]<;>rfl) (by simp only[go_sem,hw1,hw2,hwl,toNat_natCast,hlt,hz,Bool.not_false,me]) (by simp) (by simp;omega) ?_;simp only[go_sem,hw1,hw2,hwl,toNat_natCast,hlt,hz,Bool.not_false,me];refine bM (σ:=Nat) (λk=>(cE (cE fS 7 (.row 30 0)) 8 (.p (.val (.int .i64 k))))) (λk=>(bh cq 30 (.row 0 3 1 (abB N k a)))) (λk=>1<=k/\k<=N) (λk=>N-k) 1 ⟨by omega,by omega⟩ ?_ ?_
 ·rw[azt N a];exact bU
 rintro k ⟨hk1,hk2⟩;simp only[go_sem,hw1,hw2,hwl,toNat_natCast,hlt,hz,Bool.not_false,me,qV N k a hk2];refine aL (λhc=>?_) (λhc=>?_)
 ·have hk3:k<N:=by have:=ct hc;omega
  simp only[go_sem,hw1,hw2,hwl,toNat_natCast,hlt,hz,Bool.not_false,me,qV N k a hk2];intro C I L tm w hC hs;have hs0:=(Fr.drew C I L _ w) _ tm hs;have hlen:(abB N k a).length=N:=qV N k a hk2;obtain⟨g,cap,us,hL,hcap,aFt,aJj,aJk,aJl,hone⟩:=aBM hs0 (id:=30) (v:=0) (e:=3) (es:=abB N k a) (by simp only[go_sem,hw1,hw2,hwl,toNat_natCast,hlt,hz,Bool.not_false,me,qV N k a hk2]) (by omega);rw[hlen] at hL hcap aFt;refine xW (fuel:=9) 0 _ (.int .i64 k) rfl (by kernel_rfl) (by kernel_rfl) (by kernel_rfl) (λ_ _ _ h=>by cases h.2.1) rfl (by rw[hC];show 38<48;decide) rfl hs0 (λσ hσ w=>w6 rfl (dR.dK (show dR I L (σ (.tmp 8)) (.p (.val (.int .i64 k))) from hσ (.tmp 8))).1 w) λtm1 hs1=>?_
  refine xW (fuel:=8) 1 _ (.slice (some ⟨g,0,none⟩) N cap) rfl (by kernel_rfl) (by kernel_rfl) (by kernel_rfl) (λ_ _ _ h=>by cases h.2.1) rfl (by rw[hC];show 39<48;decide) rfl hs1 (λσ hσ w=>w6 rfl (dR.ajX (show dR I L (σ (.tmp 7)) (.row 30 0) from hσ (.tmp 7)) hL) w) λtm2 hs2=>?_
  refine xW (fuel:=7) 2 _ (.int .i64 k) rfl (by kernel_rfl) (by kernel_rfl) (by kernel_rfl) (λ_ _ _ h=>by cases h.2.1) rfl (by rw[hC];show 40<48;decide) rfl hs2 (λσ hσ w=>w6 rfl (dR.dK (show dR I L (σ (.tmp 8)) (.p (.val (.int .i64 k))) from hσ (.tmp 8))).1 w) λtm3 hs3=>?_
  refine xW (fuel:=6) 3 _ (.slice (some ⟨g,k,none⟩) (N-k) (cap-k)) rfl (by kernel_rfl) (by kernel_rfl) (by kernel_rfl) (λ_ _ _ h=>by cases h.2.1) rfl (by rw[hC];show 41<48;decide) rfl hs3 (λσ hσ w=>aml (P:=pw) (e:=3) rfl (by kernel_rfl) (by kernel_rfl) (dR.dK (show dR I L (σ (.tmp 39)) (.p (.val (.slice (some ⟨g,0,none⟩) N cap))) from hσ (.tmp 39))).1 (dR.dK (show dR I L (σ (.tmp 40)) (.p (.val (.int .i64 k))) from hσ (.tmp 40))).1 hk2 (by omega) w) λtm4 hs4=>?_
  refine xW (fuel:=5) 4 _ (.slice (some ⟨g,0,none⟩) N cap) rfl (by kernel_rfl) (by kernel_rfl) (by kernel_rfl) (λ_ _ _ h=>by cases h.2.1) rfl (by rw[hC];show 42<48;decide) rfl hs4 (λσ hσ w=>w6 rfl (dR.ajX (show dR I L (σ (.tmp 7)) (.row 30 0) from hσ (.tmp 7)) hL) w) λtm5 hs5=>?_
  refine xW (fuel:=4) 5 _ (.int .i64 k) rfl (by kernel_rfl) (by kernel_rfl) (by kernel_rfl) (λ_ _ _ h=>by cases h.2.1) rfl (by rw[hC];show 43<48;decide) rfl hs5 (λσ hσ w=>w6 rfl (dR.dK (show dR I L (σ (.tmp 8)) (.p (.val (.int .i64 k))) from hσ (.tmp 8))).1 w) λtm6 hs6=>?_
  refine xW (fuel:=3) 6 _ (.slice (some ⟨g,0,none⟩) k cap) rfl (by kernel_rfl) (by kernel_rfl) (by kernel_rfl) (λ_ _ _ h=>by cases h.2.1) rfl (by rw[hC];show 44<48;decide) rfl hs6 (λσ hσ w=>amm (P:=pw) (e:=3) rfl (by kernel_rfl) (by kernel_rfl) (dR.dK (show dR I L (σ (.tmp 42)) (.p (.val (.slice (some ⟨g,0,none⟩) N cap))) from hσ (.tmp 42))).1 (dR.dK (show dR I L (σ (.tmp 43)) (.p (.val (.int .i64 k))) from hσ (.tmp 43))).1 (by omega) w) λtm7 hs7=>?_
  have hcl:(us.take (min k (N-k))).length=min k (N-k):=by rw[length_take,aFt];omega
  have hfl:(abB N k a).flatten=replicate k (PV.val (.int .i64 a))++replicate (N-k) (PV.val (.int .i64 0)):=by simp[abB,flatten_append]
  have hft:(abB N k a).flatten.take (min k (N-k))=replicate (min k (N-k)) (PV.val (.int .i64 a)):=by rw[hfl,take_append_of_le_length (by simp;omega),take_replicate];congr 1;omega
  refine apv (fuel:=2) 7 _ rfl (by kernel_rfl) rfl (by rw[hC];show 45<48;decide) hs7 (λσ hσ=>af3 hs7 (.tmp 41) (.tmp 44) 32 32 rfl (id:=30) (v:=0) (e:=3) (es:=abB N k a) (by simp only[go_sem,hw1,hw2,hwl,toNat_natCast,hlt,hz,Bool.not_false,me,qV N k a hk2]) hL (by kernel_rfl) (by kernel_rfl) (dR.dK (show dR I L (σ (.tmp 41)) (.p (.val (.slice (some ⟨g,k,none⟩) (N-k) (cap-k)))) from hσ (.tmp 41))).1 (dR.dK (show dR I L (σ (.tmp 44)) (.p (.val (.slice (some ⟨g,0,none⟩) k cap))) from hσ (.tmp 44))).1 (us.take (min k (N-k))) (replicate (min k (N-k)) (PV.val (.int .i64 a))) ?_ ?_ ?_ ?_ ?_ ?_) ?_
  ·exact hcl
  ·rw[hcl,length_replicate]
  ·rw[hcl,hlen];omega
  ·intro j u hj;rw[getElem?_take] at hj;split at hj
   ·rw[Addr.add_mid,Nat.zero_add];exact aJl j u hj
   ·cases hj
  ·intro u hu;exact aJk u (mem_of_mem_take hu)
  ·intro j u c hj hc;rw[<-hft] at hc;rw[getElem?_take] at hj hc;split at hj
   ·rename_i h;rw[if_pos h] at hc;exact aJj j u c hj hc
   ·cases hj
  intro I8 L8 tm8 w8 _ hs8;have hw3:i64.wrap ((k:Int)+((min k (N-k):Nat):Int))=((k+min k (N-k):Nat):Int):=by rw[dA (by omega)];omega
  refine apv (fuel:=1) 8 _ rfl (by kernel_rfl) rfl (by rw[hC];show 46<48;decide) hs8 (λσ hσ=>uq (v:=.p (.val (.int .i64 ((k+min k (N-k):Nat):Int)))) (pre:=True) (by simp only[go_sem,hcl,hw3,getElem_toArray,getElem_cons_succ,getElem_cons_zero,hw1,hw2,hwl,toNat_natCast,hlt,hz,Bool.not_false,me,qV N k a hk2];try rfl) trivial hs8 hσ) ?_;intro I9 L9 tm9 w9 _ hs9;refine apv (fuel:=0) 9 _ rfl (by kernel_rfl) rfl (by rw[hC];show 8<48;decide) hs9 (λσ hσ=>uq (v:=.p (.val (.int .i64 ((k+min k (N-k):Nat):Int)))) (pre:=True) (by simp only[go_sem,getElem_toArray,getElem_cons_succ,getElem_cons_zero,hw1,hw2,hwl,toNat_natCast,hlt,hz,Bool.not_false,me,qV N k a hk2];try rfl) trivial hs9 hσ) ?_;intro I10 L10 tm10 w10 _ aJm;refine wpAny_done (by kernel_rfl) ⟨rfl,rfl,_,_,_,_,?_,aJm⟩ 0;have hsp:=auZ N k (min k (N-k)) a (by omega);simp only[splice,length_map,length_replicate,append_assoc] at hsp;simp only[go_sem,getElem_toArray,getElem_cons_succ,getElem_cons_zero,hsp,append_assoc,length_map,length_replicate,hw1,hw2,hwl,toNat_natCast,hlt,hz,Bool.not_false,me,qV N k a hk2];exact bO (k+min k (N-k)) ⟨by omega,by omega⟩ (by omega) bU
 ·have hk3:k=N:=by have:=dV hc;omega
  simp only[go_sem,hw1,hw2,hwl,toNat_natCast,hlt,hz,Bool.not_false,me,qV N k a hk2];refine⟨by decide,_,.refl _,?_⟩;rw[hk3];simp[abB,encI]
noncomputable section
def jW(a0:Int):Option Bool :=
 cond (decide (a0=0)) (
  some false) <|
 some (!(decide (a0=1)))
def mB(a0:ng)(a1:aF)(a2:aF)(a3:aG)(a4:Bool):Option (aF×aF) :=
 cond (decide (a3.kind=3)) (
  cond a4 (
   thn (n9 a1.values a3) λr5 =>
   some ((⟨a1.au,a1.aC,a1.aM,a1.aK,r5,a1.next⟩:aF),a2)) <|
  thn (n9 a2.values a3) λr6 =>
  some (a1,(⟨a2.au,a2.aC,a2.aM,a2.aK,r6,a2.next⟩:aF))) <|
 thn (iI a0.x0 a3.id) λr7 =>
 cond r7 (
  thn (sC a1 a2 a3 (!a4)) λr8 =>
  some (r8.1,r8.2)) <|
 thn (sC a2 a1 a3 a4) λr9 =>
 some (r9.2,r9.1)
def jl(a0:az)(a1:aF):Option Bool :=
 cond (decide (40<(i64.wrap ((i64.wrap (((a0.nodes.length:Nat):Int)+((a1.aM.length:Nat):Int)))-((a1.au.length:Nat):Int))))) (
  some true) <|
 some (decide (80<(i64.wrap ((i64.wrap (((a0.ak.length:Nat):Int)+((a1.aK.length:Nat):Int)))-((a1.aC.length:Nat):Int)))))
def kV(a0:Types)(a1:az)(a2:aF)(a3:aF)(a4:List Int):Option (az×Int) :=
 thn (kg a0 a1 a2 a3) λr5 =>
 cond (decide (r5=0)) (
  cond (decide (100<((a4.length:Nat):Int))) (
   some ((⟨(⟨(⟨([]:List Int),([]:List Edge)⟩:eY),([]:List (List Int))⟩:Host),([]:List Int),([]:List Int),0⟩:az),3)) <|
  thn (fH a4 (λx6=>jW x6)) λr7 =>
  cond r7 (
   some ((⟨(⟨(⟨([]:List Int),([]:List Edge)⟩:eY),([]:List (List Int))⟩:Host),([]:List Int),([]:List Int),0⟩:az),6)) <|
  thn (iN a2 a3) λr8 =>
  cT (r8.length<=fuel) <|
  cr (λi9 (s9:(List ah)×(List ax)×(List ah)×(List ax)×(List aO)×Int×Int×(List ah)×(List ax)×(List ah)×(List ax)×(List aO)×Int×Int) zy acG =>
   thn (r8[i9]?) λvr =>
   cond (decide (i9<a4.length)) (
    thn (a4[i9]?) λe11 =>
    thn (mB (⟨a2,⟨a3.au,a3.aC,a3.aM,a3.aK,a3.values,a3.next⟩⟩:ng) (⟨s9.2.2.2.2.2.2.2.1,s9.2.2.2.2.2.2.2.2.1,s9.2.2.2.2.2.2.2.2.2.1,s9.2.2.2.2.2.2.2.2.2.2.1,s9.2.2.2.2.2.2.2.2.2.2.2.1,⟨s9.2.2.2.2.2.2.2.2.2.2.2.2.1,s9.2.2.2.2.2.2.2.2.2.2.2.2.2⟩⟩:aF) (⟨s9.1,s9.2.1,s9.2.2.1,s9.2.2.2.1,s9.2.2.2.2.1,⟨s9.2.2.2.2.2.1,s9.2.2.2.2.2.2.1⟩⟩:aF) vr (decide (e11=1))) λxX =>
    zy (xX.2.au,xX.2.aC,xX.2.aM,xX.2.aK,xX.2.values,xX.2.next.x0,xX.2.next.x1,xX.1.au,xX.1.aC,xX.1.aM,xX.1.aK,xX.1.values,xX.1.next.x0,xX.1.next.x1)) <|
   thn (mB (⟨a2,⟨a3.au,a3.aC,a3.aM,a3.aK,a3.values,a3.next⟩⟩:ng) (⟨s9.2.2.2.2.2.2.2.1,s9.2.2.2.2.2.2.2.2.1,s9.2.2.2.2.2.2.2.2.2.1,s9.2.2.2.2.2.2.2.2.2.2.1,s9.2.2.2.2.2.2.2.2.2.2.2.1,⟨s9.2.2.2.2.2.2.2.2.2.2.2.2.1,s9.2.2.2.2.2.2.2.2.2.2.2.2.2⟩⟩:aF) (⟨s9.1,s9.2.1,s9.2.2.1,s9.2.2.2.1,s9.2.2.2.2.1,⟨s9.2.2.2.2.2.1,s9.2.2.2.2.2.2.1⟩⟩:aF) vr false) λyP =>
   zy (yP.2.au,yP.2.aC,yP.2.aM,yP.2.aK,yP.2.values,yP.2.next.x0,yP.2.next.x1,yP.1.au,yP.1.aC,yP.1.aM,yP.1.aK,yP.1.values,yP.1.next.x0,yP.1.next.x1))
  (r8.length-0) 0 (a3.au,a3.aC,a3.aM,a3.aK,a3.values,a3.next.x0,a3.next.x1,a2.au,a2.aC,a2.aM,a2.aK,a2.values,a2.next.x0,a2.next.x1) λs9 =>
  thn (jl (⟨a1.host,a1.nodes,a1.ak,a1.next⟩:az) (⟨s9.2.2.2.2.2.2.2.1,s9.2.2.2.2.2.2.2.2.1,s9.2.2.2.2.2.2.2.2.2.1,s9.2.2.2.2.2.2.2.2.2.2.1,s9.2.2.2.2.2.2.2.2.2.2.2.1,⟨s9.2.2.2.2.2.2.2.2.2.2.2.2.1,s9.2.2.2.2.2.2.2.2.2.2.2.2.2⟩⟩:aF)) λr14 =>
  cond r14 (
   some ((⟨(⟨(⟨([]:List Int),([]:List Edge)⟩:eY),([]:List (List Int))⟩:Host),([]:List Int),([]:List Int),0⟩:az),3)) <|
  thn (jl (⟨a1.host,a1.nodes,a1.ak,a1.next⟩:az) (⟨s9.1,s9.2.1,s9.2.2.1,s9.2.2.2.1,s9.2.2.2.2.1,⟨s9.2.2.2.2.2.1,s9.2.2.2.2.2.2.1⟩⟩:aF)) λr15 =>
  cond r15 (
   some ((⟨(⟨(⟨([]:List Int),([]:List Edge)⟩:eY),([]:List (List Int))⟩:Host),([]:List Int),([]:List Int),0⟩:az),3)) <|
  thn (j7 (⟨a0.nodes,a0.ak⟩:Types) (⟨a1.host,a1.nodes,a1.ak,a1.next⟩:az) (⟨s9.2.2.2.2.2.2.2.1,s9.2.2.2.2.2.2.2.2.1,s9.2.2.2.2.2.2.2.2.2.1,s9.2.2.2.2.2.2.2.2.2.2.1,s9.2.2.2.2.2.2.2.2.2.2.2.1,⟨s9.2.2.2.2.2.2.2.2.2.2.2.2.1,s9.2.2.2.2.2.2.2.2.2.2.2.2.2⟩⟩:aF) (⟨s9.1,s9.2.1,s9.2.2.1,s9.2.2.2.1,s9.2.2.2.2.1,⟨s9.2.2.2.2.2.1,s9.2.2.2.2.2.2.1⟩⟩:aF)) λr16 =>
  some (r16.1,r16.2)) <|
 some ((⟨⟨⟨[],[]⟩,[]⟩,[],[],0⟩:az),r5)
def gd(a0:bT)(a1:Bool):Option Bool :=
 thn (fz a0) λr2 =>
 thn (fB) λr3 =>
 cond r3 (
  cond r2.2.2 (
   cond a1 (
    thn (pe [1] 100) λr4 =>
    thn (gx r2.1 r2.2.1.a r2.2.1.p r2.2.1.q) λr5 =>
    cond (decide (r5.2=0)) (
     cond (decide (100<((r5.1.length:Nat):Int))) (
      some (decide (r5.2=0))) <|
     thn (kV r2.1 r2.2.1.a r2.2.1.p r2.2.1.q r4) λr6 =>
     cond (decide (r6.2=0)) (
      cT (r2.2.1.q.au.length<=fuel) <|
      cr (λi7 (s7:Unit) acF aCJ =>
       thn (r2.2.1.q.au[i7]?) λe8 =>
       thn (eZ r6.1.nodes e8.id) λr9 =>
       cond r9 (
        some false) <|
       acF ())
      (r2.2.1.q.au.length-0) 0 () λs7 =>
      thn (fC r6.1 r2.2.1.q.values) λr10 =>
      some r10) <|
     cond (decide (r6.2=11)) (
      some true) <|
     some (decide (r6.2=3))) <|
    some (decide (r5.2=0))) <|
   thn (gx r2.1 r2.2.1.a r2.2.1.p r2.2.1.q) λr11 =>
   cond (decide (r11.2=0)) (
    cond (decide (100<((r11.1.length:Nat):Int))) (
     some (decide (r11.2=0))) <|
    thn (kV r2.1 r2.2.1.a r2.2.1.p r2.2.1.q ([]:List Int)) λxX =>
    cond (decide (xX.2=0)) (
     cT (r2.2.1.p.au.length<=fuel) <|
     cr (λi13 (tM:Unit) u5 ap7 =>
      thn (r2.2.1.p.au[i13]?) λe14 =>
      thn (eZ xX.1.nodes e14.id) λr15 =>
      cond r15 (
       some false) <|
      u5 ())
     (r2.2.1.p.au.length-0) 0 () λtM =>
     thn (fC xX.1 r2.2.1.p.values) λr16 =>
     some r16) <|
    cond (decide (xX.2=11)) (
     some true) <|
    some (decide (xX.2=3))) <|
   some (decide (r11.2=0))) <|
  thn (fB) λr17 =>
  some r17) <|
 thn (fB) λr18 =>
 some r18
end
noncomputable section
theorem zZ(a0:ng)(a1:aF)(a2:aF)(a3:aG)(a4:Bool)(r:aF×aF)(h:mB a0 a1 a2 a3 a4=some r):aS pw 67 [.agg (kz a0),.agg (aB a1),.agg (aB a2),.agg (ay a3),.val (.bool a4)] (λv=>v = .dW [.agg (aB r.1),.agg (aB r.2)]):=by
 refine aS.oa ?_;refine aR [2000010] func67 ntmps67 results67 ?_;unfold mB at h;have F:=trivial;refine zB F h (λF h=>?_) λF h=>?_
 ·refine zB F h (λF h=>?_) λF h=>?_
  ·refine zG 1336 F h (vR _ _) λr5 h=>?_
   refine zD [.q,.o,.s,.w] ?_;exact zR h
  ·refine zG 1416 F h (vR _ _) λr6 h=>?_
   refine zD [.q,.o,.s,.w] ?_;exact zR h
 ·refine bY ((0:Int)<=0) F λF=>?_
  refine bY ((0:Int)<((2:Nat):Int)) F λF=>?_
  refine zK F h (tv _ _) λr7 h=>?_
  refine zB F h (λF h=>?_) λF h=>?_
  ·refine zK F h (aaU _ _ _ _) λr8 h=>?_
   exact zR h
  ·refine zK F h (aaU _ _ _ _) λr9 h=>?_
   refine zD [.q,.o,.s,.w] ?_;exact zR h
end
noncomputable section
theorem yI(a0:az)(a1:aF)(r:Bool)(h:jl a0 a1=some r):aS pw 68 [.agg (aD a0),.agg (aB a1)] (λv=>v = .val (.bool r)):=by
 refine aS.oa ?_;refine aR [] func68 ntmps68 results68 ?_;unfold jl at h;have F:=trivial;refine pO F h (λF h=>?_) λF h=>?_
 ·exact zR h
 ·exact zR h
end
noncomputable section
theorem acM(a0:Int)(r:Bool)(h:jW a0=some r):aS pw 66 [.val (.int .i64 a0)] (λv=>v = .val (.bool r)):=by
 refine aS.oa ?_;refine aR [] func66 ntmps66 results66 ?_;unfold jW at h;have F:=trivial;refine pO F h (λF h=>?_) λF h=>?_
 ·exact zR h
 ·exact zR h
end
noncomputable section
theorem yJ(a0:Types)(a1:az)(a2:aF)(a3:aF)(a4:List Int)(r:az×Int)(h:kV a0 a1 a2 a3 a4=some r):aS pw 24 [.agg [.aU (a0.nodes.map aJ),.aU (a0.ak.map aP)],.agg (aD a1),.agg (aB a2),.agg (aB a3),.aU (a4.map encI)] (λv=>v = .dW [.agg (aD r.1),.val (.int .i64 r.2)]):=by
 refine aS.oa ?_;refine aR [] func24 ntmps24 results24 ?_;unfold kV at h;have F:=trivial;refine zK F h (wA _ _ _ _) λr5 h=>?_
 refine o9 F h (λF h=>?_) λF h=>?_
 ·refine zB F h (λF h=>?_) λF h=>?_
  ·exact zR h
  ·refine zK F h (oR _ (λx6=>jW x6) 66 [] [] (λx6 r h=>acM x6 r h)) λr7 h=>?_
   refine zB F h (λF h=>?_) λF h=>?_
   ·exact zR h
   ·refine zG 1592 F h (p6 _ _) λr8 h=>?_
    refine zV ?_;refine zN F h () [4,5,6,7,8,10,13,37,38] (λx=>[(39,.p (.val (.int .i64 ((x.1.1:Nat):Int))))]) [5,6,10,13,1592] (λx H=>[(7,.box [.p (.aU (x.1.2.2.2.2.2.2.2.2.1.map ag)),.p (.aU (x.1.2.2.2.2.2.2.2.2.2.1.map aj)),.p (.aU (x.1.2.2.2.2.2.2.2.2.2.2.1.map ag)),.p (.aU (x.1.2.2.2.2.2.2.2.2.2.2.2.1.map aj)),.p (.aU (x.1.2.2.2.2.2.2.2.2.2.2.2.2.1.map aI)),.p (.val (.int .i64 x.1.2.2.2.2.2.2.2.2.2.2.2.2.2.1)),.p (.val (.int .i64 x.1.2.2.2.2.2.2.2.2.2.2.2.2.2.2))]),(8,.box [.p (.aU (x.1.2.1.map ag)),.p (.aU (x.1.2.2.1.map aj)),.p (.aU (x.1.2.2.2.1.map ag)),.p (.aU (x.1.2.2.2.2.1.map aj)),.p (.aU (x.1.2.2.2.2.2.1.map aI)),.p (.val (.int .i64 x.1.2.2.2.2.2.2.1)),.p (.val (.int .i64 x.1.2.2.2.2.2.2.2.1))])]) ?_ ?_
    ·intro i9 s9 g9 _ _ F Ns9 h;try dsimp only at h
     refine zI ay F h λvr F h=>?_
     refine fo 18 [.p,.w,.w] ?_;refine zBd F h (λF h=>?_) λF h=>?_
     ·refine zI encI F h λe11 F h=>?_
      refine uD F h (zZ _ _ _ _ _) λxX h=>?_
      exact zX (z:=Ns9 _ () h zW)
     ·refine uD F h (zZ _ _ _ _ _) λyP h=>?_
      exact zX (z:=Ns9 _ () h zW)
    ·intro i9 s9 g9 _ F h;try dsimp only at h
     refine zK F h (yI _ _) λr14 h=>?_
     refine pO F h (λF h=>?_) λF h=>?_
     ·exact zR h
     ·refine zK F h (yI _ _) λr15 h=>?_
      refine zB F h (λF h=>?_) λF h=>?_
      ·exact zR h
      ·refine zK F h (acK _ _ _ _) λr16 h=>?_
       exact zR h
 ·exact zR h
end
noncomputable section
theorem tA(a0:bT)(a1:Bool)(r:Bool)(h:gd a0 a1=some r):aS pw 6 [.agg (eL a0),.val (.bool a1)] (λv=>v = .val (.bool r)):=by
 refine aS.oa ?_;refine aR [] func6 ntmps6 results6 ?_;unfold gd at h;have F:=trivial;refine zG 1288 F h (sj _) λr2 h=>?_
 refine zK F h mA λr3 h=>?_
 refine oQ F h (λF h=>?_) λF h=>?_
 ·refine o9 F h (λF h=>?_) λF h=>?_
  ·refine zB F h (λF h=>?_) λF h=>?_
   ·refine zE [(0,.p),(2,.p),(1,.q),(3,.q),(4,.w),(5,.q)] ?_;refine zTd F h (aaE _ _) λr4 h=>?_
    refine zG 1704 F h (qU _ _ _ _) λr5 h=>?_
    refine oQ F h (λF h=>?_) λF h=>?_
    ·refine zB F h (λF h=>?_) λF h=>?_
     ·exact zR h
     ·refine zKs [1288,1289,1290,1291,1292,1293,1294,1295,1296,1297] F h (yJ _ _ _ _ _) λr6 h=>?_
      refine o9 F h (λF h=>?_) λF h=>?_
      ·refine zV ?_;refine zN F h () [8,12,77,78] (λx=>[(79,.p (.val (.int .i64 ((x.1.1:Nat):Int))))]) [8,12,1293,1294,1295,1296,1297] (λx H=>[]) ?_ ?_
       ·intro i7 s7 g7 _ _ F Ns7 h;try dsimp only at h
        refine zI ag F h λe8 F h=>?_
        refine zK F h (nR _ _) λr9 h=>?_
        refine zB F h (λF h=>?_) λF h=>?_
        ·exact zR h
        ·exact zX (z:=Ns7 _ () h zW)
       ·intro i7 s7 g7 _ F h;try dsimp only at h
        refine zK F h (qp _ _) λr10 h=>?_
        exact zR h
      ·refine pO F h (λF h=>?_) λF h=>?_
       ·exact zR h
       ·exact zR h
    ·exact zR h
   ·refine zG 1704 F h (qU _ _ _ _) λr11 h=>?_
    refine oQ F h (λF h=>?_) λF h=>?_
    ·refine zB F h (λF h=>?_) λF h=>?_
     ·exact zR h
     ·refine zKs [1288,1289,1290,1291,1292,1293,1294,1295,1296,1297] F h (yJ _ _ _ _ _) λxX h=>?_
      refine o9 F h (λF h=>?_) λF h=>?_
      ·refine zV ?_;refine zN F h () [8,12,77,78] (λx=>[(79,.p (.val (.int .i64 ((x.1.1:Nat):Int))))]) [8,12,1288,1289,1290,1291,1292] (λx H=>[]) ?_ ?_
       ·intro i13 tM g13 _ _ F agk h;try dsimp only at h
        refine zI ag F h λe14 F h=>?_
        refine zK F h (nR _ _) λr15 h=>?_
        refine zB F h (λF h=>?_) λF h=>?_
        ·exact zR h
        ·exact zX (z:=agk _ () h zW)
       ·intro i13 tM g13 _ F h;try dsimp only at h
        refine zK F h (qp _ _) λr16 h=>?_
        exact zR h
      ·refine pO F h (λF h=>?_) λF h=>?_
       ·exact zR h
       ·exact zR h
    ·exact zR h
  ·refine zK F h mA λr17 h=>?_
   exact zR h
 ·refine zK F h mA λr18 h=>?_
  exact zR h
end
open Go.ChangeShapes Go.WideShapes Go.ChangeAt Go.RowKit
variable{w:World}{H:Type}{enc:TypeId×Value->H}
def G5(n:Int):Prop:=IntKind.u8.min<=n/\n<=IntKind.u8.max
theorem d5:Dec pw w enc 5 1 (λn:Int=>[.val (.int .u8 n)]) G5 :=
 .aI2 .u8 underlying5
def aFu(x:dz):Prop:=G5 x.x0/\G5 x.x1/\True
theorem d162:Dec pw w enc 162 2 (λx:dz=>[.val (.int .u8 x.x0),.val (.int .u8 x.x1)]) aFu:=(Dec.array underlying162 (by kernel_rfl) (sz0:=1) (by kernel_rfl) (.cons rfl (by kernel_rfl) d5 (.cons rfl (by kernel_rfl) d5 (.nil _)))).map (λx=>⟨x.1,x.2.1⟩) (λa=>(a.x0,a.x1,())) (λ_=>rfl) (λ_=>rfl) (λ_ h=>h)
def G22(l:List dz):Prop:=(∀x∈l,aFu x)/\l.length<=reachBytes
theorem d22:Dec pw w enc 22 1 (λl:List dz=>[.aU (l.map eo)]) G22:=(Dec.slice underlying22 (by kernel_rfl) (by decide) (ct (by kernel_rfl)) d162).map id id (λ_=>rfl) (λ_=>rfl) (λ_ h=>h)
def aFv(x:jH):Prop:=G5 x.x0/\G5 x.x1/\G5 x.x2/\True
theorem d159:Dec pw w enc 159 3 (λx:jH=>[.val (.int .u8 x.x0),.val (.int .u8 x.x1),.val (.int .u8 x.x2)]) aFv:=(Dec.array underlying159 (by kernel_rfl) (sz0:=1) (by kernel_rfl) (.cons rfl (by kernel_rfl) d5 (.cons rfl (by kernel_rfl) d5 (.cons rfl (by kernel_rfl) d5 (.nil _))))).map (λx=>⟨x.1,x.2.1,x.2.2.1⟩) (λa=>(a.x0,a.x1,a.x2,())) (λ_=>rfl) (λ_=>rfl) (λ_ h=>h)
def G23(l:List jH):Prop:=(∀x∈l,aFv x)/\l.length<=reachBytes
theorem d23:Dec pw w enc 23 1 (λl:List jH=>[.aU (l.map dZ)]) G23:=(Dec.slice underlying23 (by kernel_rfl) (by decide) (ct (by kernel_rfl)) d159).map id id (λ_=>rfl) (λ_=>rfl) (λ_ h=>h)
def G25(x:dg):Prop:=G22 x.nodes/\G23 x.ak/\True
theorem d25:Dec pw w enc 25 2 (λx:dg=>[.aU (x.nodes.map eo),.aU (x.ak.map dZ)]) G25:=(Dec.struct underlying25 (by kernel_rfl) (.cons rfl (by kernel_rfl) d22 (.cons rfl (by kernel_rfl) d23 (.nil _)))).map (λx=>⟨x.1,x.2.1⟩) (λa=>(a.nodes,a.ak,())) (λ_=>rfl) (λ_=>rfl) (λ_ h=>h)
def G27(x:bT):Prop:=G22 x.nodes/\G22 x.ak/\G25 x.h/\G23 x.first/\G23 x.p/\G23 x.q/\True
theorem d27:Dec pw w enc 27 7 (λx:bT=>[.aU (x.nodes.map eo),.aU (x.ak.map eo),.aU (x.h.nodes.map eo),.aU (x.h.ak.map dZ),.aU (x.first.map dZ),.aU (x.p.map dZ),.aU (x.q.map dZ)]) G27:=(Dec.struct underlying27 (by kernel_rfl) (.cons rfl (by kernel_rfl) d22 (.cons rfl (by kernel_rfl) d22 (.cons rfl (by kernel_rfl) d25 (.cons rfl (by kernel_rfl) d23 (.cons rfl (by kernel_rfl) d23 (.cons rfl (by kernel_rfl) d23 (.nil _)))))))).map (λx=>⟨x.1,x.2.1,x.2.2.1,x.2.2.2.1,x.2.2.2.2.1,x.2.2.2.2.2.1⟩) (λa=>(a.nodes,a.ak,a.h,a.first,a.p,a.q,())) (λ_=>rfl) (λ_=>rfl) (λ_ h=>h)
set_option maxRecDepth 100000 in
theorem aB7:laidOutB Tryz.checked.prog=true:=by kernel_rfl
def G4(_:Bool):Prop:=True
theorem d4:Dec pw w enc 4 1 aCH G4 :=
 .bool underlying4
end Go.Proofs.YtjhkgjlmiolfoaaGreat
namespace Go.cv
section
variable{σ O α:Type}{Q:O->Prop}
theorem acN{f:σ->(σ->Option O)->(σ->Option O)->Option O}{K:σ->Option O}(φ ψ:σ->Prop)(μ:σ->Nat){n:Nat}{s:σ}(h0:φ s)(hm:μ s<n)
  (hr:∀s (cH brk:σ->Option O),φ s->(∀s',φ s'->μ s'<μ s->Ok (cH s') Q)->(∀s',ψ s'->Ok (brk s') Q)->Ok (f s cH brk) Q) (he:∀s,ψ s->Ok (K s) Q):Ok (iter f n s K) Q :=
 ajZ φ μ h0 hm λs cH hs hn=>hr s cH K hs hn he
end
theorem aDP{n:Int}(h:0<=n/\n<=255):IntKind.u8.wrap n=n:=by simp only[IntKind.wrap,IntKind.signed,IntKind.bits,Bool.false_and,false_eq_true,if_false];omega
def z6{α β:Type}(o:Option α)(x:α->β)(y:β):β:=match o with
 |some a=>x a
 |none=>y
section
variable{σ O α β:Type}
theorem adJ{f:Nat->Unit->(Unit->Option O)->(Unit->Option O)->Option O}{K:Unit->Option O}(p:Nat->Bool)(x:Nat->Option O):∀ (k i:Nat),
  (∀j,i<=j->j<i+k->∀cH,f j () cH K=cond (p j) (cH ()) (x j))->cr f k i () K=z6 ((range' i k).find? (λj=>!p j)) x (K ())
 |0,i,_=>rfl
 |k+1,i,h=>by
  rw[cr,h i (le_refl _) (by omega),range'_succ,find?_cons];cases hp:p i with
  |false=>rfl
  |true =>
   have:=adJ p x k (i+1) λj h1 h2 cH=>h j (by omega) (by omega) cH
   simpa using this
theorem vg{f:Nat->Unit->(Unit->Option O)->(Unit->Option O)->Option O}{K:Unit->Option O}{n:Nat}(p:Nat->Bool)(x:Nat->Option O)(h:∀j,j<n->∀cH,f j () cH K=cond (p j) (cH ()) (x j)) :
  cr f (n-0) 0 () K=z6 ((range n).find? (λj=>!p j)) x (K ()):=by
 rw[adJ p x (n-0) 0 λj _ h2 cH=>h j (by omega) cH,Nat.sub_zero,range_eq_range']
theorem aaV{f:Nat->Unit->(Unit->Option O)->(Unit->Option O)->Option O}{K:Unit->Option O}(l:List α)(p:α->Bool)(x:α->Option O)(h:∀i (hi:i<l.length) cH,f i () cH K=cond (p l[i]) (cH ()) (x l[i])):∀ (k i:Nat),i+k=l.length ->
  cr f k i () K=z6 ((l.drop i).find? (λa=>!p a)) x (K ())
 |0,i,hk=>by rw[drop_eq_nil_of_le (by omega)];rfl
 |k+1,i,hk=>by
  rw[cr,h i (by omega),drop_eq_getElem_cons (by omega),find?_cons];cases hp:p l[i] with
  |false=>rfl
  |true=>have:=aaV l p x h k (i+1) (by omega);simpa using this
theorem oL{f:Nat->Unit->(Unit->Option O)->(Unit->Option O)->Option O}{K:Unit->Option O}(l:List α)(p:α->Bool)(x:α->Option O)(h:∀i (hi:i<l.length) cH,f i () cH K=cond (p l[i]) (cH ()) (x l[i])) :
  cr f (l.length-0) 0 () K=z6 (l.find? (λa=>!p a)) x (K ()):=by
 have:=aaV l p x h (l.length-0) 0 (by omega);simpa using this
theorem aaW{f:Nat->σ->(σ->Option O)->(σ->Option O)->Option O}{K:σ->Option O}(l:List α)(g:σ->α->σ)(Inv:Nat->σ->Prop)(h:∀i (hi:i<l.length) s,Inv i s->(∀cH,f i s cH K=cH (g s l[i]))/\Inv (i+1) (g s l[i])) :
  ∀ (k i:Nat) (s:σ),i+k=l.length->Inv i s->cr f k i s K=K ((l.drop i).foldl g s)/\Inv l.length ((l.drop i).foldl g s)
 |0,i,s,hk,hs=>by rw[drop_eq_nil_of_le (by omega)];exact⟨rfl,by rw[show l.length=i by omega];exact hs⟩
 |k+1,i,s,hk,hs=>by obtain⟨h1,h2⟩:=h i (by omega) s hs;rw[cr,h1,drop_eq_getElem_cons (by omega),foldl_cons];exact aaW l g Inv h k (i+1) _ (by omega) h2
theorem sk{f:Nat->σ->(σ->Option O)->(σ->Option O)->Option O}{K:σ->Option O}{s:σ}(l:List α)(g:σ->α->σ)(Inv:Nat->σ->Prop)(h0:Inv 0 s)(h:∀i (hi:i<l.length) s,Inv i s->(∀cH,f i s cH K=cH (g s l[i]))/\Inv (i+1) (g s l[i])) :
  cr f (l.length-0) 0 s K=K (l.foldl g s)/\Inv l.length (l.foldl g s):=by
 have:=aaW l g Inv h (l.length-0) 0 s (by omega) h0;simpa using this
theorem bC{p:Prop} [Decidable p]{x:Option O}(h:p):cT p x=x:=by unfold cT;rw[if_pos h]
theorem mC{x:α}{k:α->Option O} : thn (some x) k=k x:=rfl
theorem aT{x:Option α}{y:α}{k:α->Option O}(h:x=some y):thn x k=k y:=by rw[h];rfl
theorem ck{l:List α}{i:Nat}{k:α->Option O}(h:i<l.length):thn l[i]? k=k l[i]:=by rw[getElem?_eq_getElem h];rfl
theorem gD{l:List α}{i:Int}{k:α->Option O}(h0:0<=i)(h:i.toNat<l.length):thn (nO l i) k=k (l[i.toNat]'h):=by unfold nO;rw[if_pos h0,getElem?_eq_getElem h];rfl
theorem aY{p:Prop} [Decidable p]{x y:Option O} : cond (decide p) x y=if p then x else y:=by by_cases h:p<;>simp[h]
theorem iX{b:Bool}{x y:Option O} : cond (!b) x y=cond b y x:=by cases b<;>rfl
def azu(e:α->Int)(l:List α):Int:=z6 (l.find? (λa=>!decide (e a=0))) e 0
theorem au0{e:α->Int}{l:List α} : azu e l=0↔∀a∈l,e a=0:=by
 unfold azu z6;split
 ·rename_i a h;have h1:=find?_some h;have h2:=mem_of_find?_eq_some h;simp only[not_eq_true',decide_eq_false_iff_not] at h1;exact⟨λh=>absurd h h1,λh=>h a h2⟩
 ·rename_i h;simp only[find?_eq_none,not_eq_true',decide_eq_false_iff_not,Decidable.not_not] at h;exact⟨λ_=>h,λ_=>rfl⟩
theorem aiq{e:α->Int}{l:List α}{K:Option Int}(hK:K=some 0):z6 (l.find? (λa=>!decide (e a=0))) (λa=>some (e a)) K=some (azu e l):=by subst hK;unfold azu z6;split<;>rfl
theorem pT{p:α->Bool}{l:List α}{x y:β} : z6 (l.find? (λa=>!p a)) (λ_=>x) y=if l.all p=true then y else x:=by
 unfold z6;split
 ·rename_i a h;have h1:=find?_some h;have h2:=mem_of_find?_eq_some h;rw[if_neg];intro h3;have:=all_eq_true.1 h3 a h2;simp[this] at h1
 ·rename_i h;rw[if_pos];simpa using h
def z7(q:α->Bool)(l:List α):Int:=match l.findIdx? q with
 |some i=>i
 |none=>-1
theorem yd{q:α->Bool}{l:List α} : decide (0<=z7 q l)=l.any q:=by
 unfold z7;cases h:l.findIdx? q with
 |none =>
  have:=findIdx?_eq_none_iff.1 h;have h2:l.any q=false:=by simpa using this
  rw[h2];rfl
 |some i =>
  have h1:l.any q=true:=by have:=findIdx?_eq_some_iff_getElem.1 h;obtain⟨hi,hq,_⟩:=this;exact any_eq_true.2 ⟨_,nS hi,hq⟩
  rw[h1];simp
theorem xo{f:Nat->Unit->(Unit->Option Int)->(Unit->Option Int)->Option Int}{K:Unit->Option Int}(l:List α)(q:α->Bool)(h:∀i (hi:i<l.length) cH,f i () cH K=cond (q l[i]) (some (i:Int)) (cH ()))(hK:K ()=some (-1)) :
  cr f (l.length-0) 0 () K=some (z7 q l):=by
 have key:∀ (k i:Nat),i+k=l.length->cr f k i () K=some (match (l.drop i).findIdx? q with|some j=>((i+j:Nat):Int)|none=>-1):=by
  intro k
  induction k with
  |zero=>intro i hk;rw[drop_eq_nil_of_le (by omega)];exact hK
  |succ k ih =>
   intro i hk;rw[cr,h i (by omega),drop_eq_getElem_cons (by omega),findIdx?_cons];cases hq:q l[i] with
   |true=>simp
   |false =>
    have:=ih (i+1) (by omega);rw[cond_false,this];cases (l.drop (i+1)).findIdx? q with
    |none=>rfl
    |some j=>simp only[Option.map_some,false_eq_true,if_false,cA];rw[show i+1+j=i+(j+1) by omega]
 have:=key (l.length-0) 0 (by omega);rw[this,drop_zero];unfold z7;cases l.findIdx? q<;>simp
end
section
variable{α β:Type}{lt:α->α->Prop}
theorem aka(irr:∀a,¬ lt a a)(tr:∀a b c,lt a b->lt b c->lt a c):∀ {l m:List α},l.Pairwise lt->m.Pairwise lt->(∀x,x∈l↔x∈m)->l=m
 | [],[],_,_,_=>rfl
 | [],b :: s,_,_,h=>by have:=(h b).2 (mem_cons_self ..);cases this
 |a :: r,[],_,_,h=>by have:=(h a).1 (mem_cons_self ..);cases this
 |a :: r,b :: s,h1,h2,h=>by
  rw[pairwise_cons] at h1 h2;have e:a=b:=by
   rcases mem_cons.1 ((h a).1 (mem_cons_self ..)) with e|e
   ·exact e
   ·rcases mem_cons.1 ((h b).2 (mem_cons_self ..)) with e'|e'
    ·exact e'.symm
    ·exact absurd (tr _ _ _ (h1.1 b e') (h2.1 a e)) (irr a)
  subst e;rw[aka irr tr h1.2 h2.2 λx=>?_];constructor
  ·intro hx;rcases mem_cons.1 ((h x).1 (mem_cons_of_mem _ hx)) with e|e
   ·subst e;exact absurd (h1.1 x hx) (irr x)
   ·exact e
  ·intro hx;rcases mem_cons.1 ((h x).2 (mem_cons_of_mem _ hx)) with e|e
   ·subst e;exact absurd (h2.1 x hx) (irr x)
   ·exact e
def iJ(f:α->Int)(l:List α):Prop:=l.Pairwise λa b=>f a<f b
theorem iJ.ext{f:α->Int}{l m:List α}(h1:iJ f l)(h2:iJ f m)(h:∀x,x∈l↔x∈m):l=m:=aka (lt:=λa b=>f a<f b) (λa=>by omega) (λa b c h1 h2=>by omega) h1 h2 h
theorem iJ.nil{f:α->Int} : iJ f []:=Pairwise.nil
theorem iJ.sub{f:α->Int}{l m:List α}(h:iJ f l)(hs:m.Sublist l):iJ f m:=Pairwise.sublist hs h
theorem iJ.map{f:β->Int}{g:α->β}{l:List α}(h:iJ (λa=>f (g a)) l):iJ f (l.map g):=pairwise_map.2 h
theorem iJ.arc{f:β->Int}{g:α->β}{l:List α}(h:iJ f (l.map g)):iJ (λa=>f (g a)) l:=by unfold iJ at *;exact (pairwise_map (f:=g) (R:=λa b=>f a<f b)).1 h
theorem iJ.inj{f:α->Int}{l:List α}(h:iJ f l){a b:α}(ha:a∈l)(hb:b∈l)(e:f a=f b):a=b:=by
 induction l with
 |nil=>cases ha
 |cons c r ih =>
  unfold iJ at h;rw[pairwise_cons] at h;rcases mem_cons.1 ha with h1|h1<;>rcases mem_cons.1 hb with h2|h2
  ·rw[h1,h2]
  ·have:=h.1 b h2;rw[h1] at e;omega
  ·have:=h.1 a h1;rw[h2] at e;omega
  ·exact ih h.2 h1 h2
theorem iJ.acO{f:α->Int}{l:List α}(h:iJ f l){i j:Nat}(hij:i<j)(hj:j<l.length):f (l[i]'(by omega))<f l[j]:=pairwise_iff_getElem.1 h i j (by omega) hj hij
theorem iJ.azv{f:α->Int}{l:List α}(h:iJ f l){i j:Nat}(hi:i<l.length)(hj:j<l.length)(e:f l[i]=f l[j]):i=j:=by
 rcases Nat.lt_trichotomy i j with h1|h1|h1
 ·have:=h.acO h1 hj;omega
 ·exact h1
 ·have:=h.acO h1 hi;omega
theorem iJ.aFw{f:α->Int}{l:List α}(h:∀i,(hi:i+1<l.length)->f (l[i]'(by omega))<f l[i+1]):iJ f l:=by
 refine pairwise_iff_getElem.2 λi j hi hj hij=>?_
 obtain⟨k,rfl⟩:∃k,j=i+1+k:=⟨j-(i+1),by omega⟩
 induction k with
 |zero=>exact h i hj
 |succ k ih=>have h1:=ih (by omega) (by omega);have h2:=h (i+1+k) hj;exact lt_trans h1 h2
theorem iJ.sort{f:α->Int}{l:List α}(h:(l.map f).Nodup):iJ f (l.mergeSort λx y=>decide (f x<=f y)):=by
 have hp:=mergeSort_perm l (λx y=>decide (f x<=f y));have hs:(l.mergeSort λx y=>decide (f x<=f y)).Pairwise λa b=>decide (f a<=f b)=true:=pairwise_mergeSort (λa b c h1 h2=>by simp at *;omega) (λa b=>by simp;omega) l
 have hn:((l.mergeSort λx y=>decide (f x<=f y)).map f).Nodup:=(hp.map f).nodup_iff.2 h;have hn':(l.mergeSort λx y=>decide (f x<=f y)).Pairwise λa b=>f a≠f b:=pairwise_map.1 hn
 refine (pairwise_and_iff.2 ⟨hs,hn'⟩).imp λ{a b} hab=>?_
 have:=ct hab.1;have:=hab.2;omega
theorem iJ.app{f:α->Int}{l m:List α}(h1:iJ f l)(h2:iJ f m)(h:∀a∈l,∀b∈m,f a<f b):iJ f (l++m):=pairwise_append.2 ⟨h1,h2,h⟩
theorem iJ.ye{f:α->Int}{l:List α}(h:iJ f l):(l.map f).Nodup:=pairwise_map.2 (Pairwise.imp (λh=>by omega) h)
theorem mD{f:α->Int}{l m:List α}(h1:iJ f l)(h2:iJ f m)(h:∀a∈l,∀b∈m,f a≠f b):((l++m).map f).Nodup:=by rw[map_append,nodup_append];refine⟨h1.ye,h2.ye,λa ha b hb=>?_⟩;obtain⟨x,hx,rfl⟩:=mem_map.1 ha;obtain⟨y,hy,rfl⟩:=mem_map.1 hb;exact h x hx y hy
end
end Go.cv
namespace Go.Proofs.YtjhkgjlmiolfoaaGreat
open Go.cv
theorem oM{a b:ah} : dS a b=true↔a=b:=by cases a;cases b;simp[dS]
theorem aay{a b:ax} : ql a b=true↔a=b:=by cases a;cases b;simp[ql]
section
variable{α:Type}{f:α->Int}{q:α->α->Bool}
theorem erase_filter(hq:∀a b,q a b=true↔a=b){l:List α}(h:iJ f l){i:Nat}(hi:i<l.length){n:α}(hn:l[i]=n):l.take i++l.drop (i+1)=l.filter λm=>!q m n:=by
 rw[<-eraseIdx_eq_take_drop_succ];refine iJ.ext (h.sub (eraseIdx_sublist ..)) (h.sub filter_sublist) λx=>?_
 rw[mem_eraseIdx_iff_getElem,mem_filter];constructor
 ·rintro⟨j,hj,hne,rfl⟩;refine⟨nS _,?_⟩;cases hx:q l[j] n with
  |false=>rfl
  |true=>have e:=(hq _ _).1 hx;exact absurd (h.azv hj hi (by rw[e,hn])) hne
 ·rintro⟨hx,hne⟩;obtain⟨j,hj,rfl⟩:=getElem_of_mem hx;refine⟨j,hj,λe=>?_,rfl⟩;subst e;rw[(hq _ _).2 hn] at hne;cases hne
def jK(q:α->α->Bool)(l r:List α):Bool:=r.all λn=>l.any λm=>q m n
def less(q:α->α->Bool)(l r:List α):List α:=l.filter λm=>!r.any λn=>q m n
def rmL [Inhabited α](f:α->Int)(q:α->α->Bool):List α->List α->Nat->Bool×List α×Nat
 |l,[],v=>(true,l,v)
 |l,n :: r,v=>match l.findIdx? λm=>decide (f m=f n) with
  |none=>(false,l,v)
  |some i=>if q (l.getD i default) n then rmL f q (l.take i++l.drop (i+1)) r (v+1) else (false,l,v)
theorem adK(hq:∀a b,q a b=true↔a=b){l r:List α}{n:α}(hr:∀m∈r,f n≠f m):jK q (l.filter λm=>!q m n) r=jK q l r/\less q (l.filter λm=>!q m n) r=less q l (n :: r):=by
 constructor
 ·unfold jK;rw[Bool.eq_iff_iff,all_eq_true,all_eq_true];refine forall_congr' λx=>forall_congr' λhx=>?_
  rw[any_eq_true,any_eq_true];constructor
  ·rintro⟨m,hm,h⟩;exact⟨m,(mem_filter.1 hm).1,h⟩
  ·rintro⟨m,hm,h⟩;refine⟨m,mem_filter.2 ⟨hm,?_⟩,h⟩;cases hmn:q m n with
   |false=>rfl
   |true=>have e1:=(hq _ _).1 h;have e2:=(hq _ _).1 hmn;exact absurd (by rw[<-e2,e1]) (hr x hx)
 ·unfold less;rw[filter_filter];congr 1;funext m;rw[any_cons,Bool.not_or,Bool.and_comm]
theorem agm [Inhabited α](hq:∀a b,q a b=true↔a=b):∀ (r l:List α) (v:Nat),iJ f l->r.Pairwise (λa b=>f a≠f b)->(rmL f q l r v).1=jK q l r/\((rmL f q l r v).1=true->(rmL f q l r v).2.1=less q l r)
 | [],l,v,_,_=>⟨rfl,λ_=>by unfold less rmL;exact (filter_eq_self.2 (by simp)).symm⟩
 |n :: r,l,v,hl,hr=>by
  rw[pairwise_cons] at hr;rw[rmL];cases hf:l.findIdx? λm=>decide (f m=f n) with
  |none =>
   have h0:jK q l (n :: r)=false:=by unfold jK;rw[all_cons,Bool.and_eq_false_iff];left;rw[any_eq_false];intro m hm h;have:=findIdx?_eq_none_iff.1 hf m hm;rw[(hq _ _).1 h] at this;simp at this
   simp only[h0];exact⟨trivial,λh=>by cases h⟩
  |some i =>
   obtain⟨hi,h1,_⟩:=findIdx?_eq_some_iff_getElem.1 hf;have h1:=ct h1;have hg:l.getD i default=l[i]:=by simp[hi]
   simp only[hg];by_cases hs:q l[i] n=true
   ·rw[if_pos hs,erase_filter hq hl hi ((hq _ _).1 hs)];obtain⟨e1,e2⟩:=adK hq (l:=l) hr.1;obtain⟨k1,k2⟩:=agm hq r (l.filter λm=>!q m n) (v+1) (hl.sub filter_sublist) hr.2;rw[e1] at k1;rw[e2] at k2;refine⟨?_,k2⟩;rw[k1];unfold jK;rw[all_cons,show (l.any λm=>q m n)=true from any_eq_true.2 ⟨_,nS hi,hs⟩,Bool.true_and]
   ·rw[if_neg hs];have h0:jK q l (n :: r)=false:=by unfold jK;rw[all_cons,Bool.and_eq_false_iff];left;rw[any_eq_false];intro m hm h;have e:=(hq _ _).1 h;have:=hl.inj hm (nS hi) (by rw[e,h1]);rw[this] at h;exact hs h
    simp only[h0];exact⟨trivial,λh=>by cases h⟩
def xq(q:α->α->Bool)(l:List α)(n:α):List α×Bool:=match l.findIdx? λm=>q m n with
 |none=>(l,false)
 |some i=>(l.take i++l.drop (i+1),true)
def iO(q:α->α->Bool):List α->List α->List α×Bool
 |l,[]=>(l,true)
 |l,n :: r=>if (xq q l n).2=true then iO q (xq q l n).1 r else ((xq q l n).1,false)
theorem z8(hq:∀a b,q a b=true↔a=b):∀ (r l:List α),iJ f l->r.Pairwise (λa b=>f a≠f b)->(iO q l r).2=jK q l r/\((iO q l r).2=true->(iO q l r).1=less q l r)
 | [],l,_,_=>⟨rfl,λ_=>by unfold less iO;exact (filter_eq_self.2 (by simp)).symm⟩
 |n :: r,l,hl,hr=>by
  rw[pairwise_cons] at hr;rw[iO];unfold xq;cases hf:l.findIdx? λm=>q m n with
  |none =>
   have h0:jK q l (n :: r)=false:=by unfold jK;rw[all_cons,Bool.and_eq_false_iff];left;rw[any_eq_false];intro m hm h;have:=findIdx?_eq_none_iff.1 hf m hm;rw[h] at this;cases this
   simp only[h0];exact⟨rfl,λh=>by cases h⟩
  |some i=>obtain⟨hi,hs,_⟩:=findIdx?_eq_some_iff_getElem.1 hf;simp only[if_true,erase_filter hq hl hi ((hq _ _).1 hs)];obtain⟨e1,e2⟩:=adK hq (l:=l) hr.1;obtain⟨k1,k2⟩:=z8 hq r (l.filter λm=>!q m n) (hl.sub filter_sublist) hr.2;rw[e1] at k1;rw[e2] at k2;refine⟨?_,k2⟩;rw[k1];unfold jK;rw[all_cons,show (l.any λm=>q m n)=true from any_eq_true.2 ⟨_,nS hi,hs⟩,Bool.true_and]
theorem vh{l r:List α}(h:iJ f l):iJ f (less q l r):=h.sub filter_sublist
end
theorem agn:∀ (r l:List ah) (v:Nat),lV l r v=rmL ah.id dS l r v
 | [],l,v=>rfl
 |n :: r,l,v=>by
  rw[lV,rmL];cases l.findIdx? λm=>decide (m.id=n.id) with
  |none=>rfl
  |some i=>simp only;rw[agn r]
theorem ago:∀ (r l:List ax) (v:Nat),nW l r v=rmL ax.id ql l r v
 | [],l,v=>rfl
 |n :: r,l,v=>by
  rw[nW,rmL];cases l.findIdx? λm=>decide (m.id=n.id) with
  |none=>rfl
  |some i=>simp only;rw[ago r]
def jy(v:aO)(n:ah):Bool:=decide (n.id=v.id)&&okV n.values v
def mF(v:aO)(n:ah):ah:=if jy v n=true then { n with values:=n.values.set v.attr.toNat v.new } else n
theorem oN(v:aO)(n:ah):(mF v n).id=n.id:=by unfold mF;split<;>rfl
theorem adL(v:aO)(n:ah):(mF v n).type=n.type:=by unfold mF;split<;>rfl
theorem aaa(v:aO)(n:ah):(mF v n).values.length=n.values.length:=by unfold mF;split<;>simp
def eB:List ah->List aO->List ah×Bool
 |l,[]=>(l,true)
 |l,v :: r=>if l.any (jy v)=true then eB (l.map (mF v)) r else (l.map (mF v),false)
theorem agp:∀ (r:List aO) (l:List ah),iJ ah.id l->(lW l r).1=(eB l r).2/\((lW l r).1=true->(lW l r).2=(eB l r).1)
 | [],l,_=>⟨rfl,λ_=>rfl⟩
 |v :: r,l,hl=>by
  rw[lW,eB];cases hf:l.findIdx? λm=>decide (m.id=v.id) with
  |none =>
   have h0:l.any (jy v)=false:=by rw[any_eq_false];intro m hm h;have:=findIdx?_eq_none_iff.1 hf m hm;unfold jy at h;rw[this] at h;cases h
   simp only[h0];exact⟨rfl,λh=>by cases h⟩
  |some i =>
   obtain⟨hi,h1,_⟩:=findIdx?_eq_some_iff_getElem.1 hf;have h1:=ct h1;have hg:l.getD i default=l[i]:=by simp[hi]
   simp only[hg];have hfit:∀m∈l,jy v m=true->m=l[i]:=λm hm h=>by unfold jy at h;rw[and_eq_true] at h;exact hl.inj hm (nS hi) (by rw[ct h.1,h1])
   by_cases hs:okV l[i].values v=true
   ·have adq:l.any (jy v)=true:=any_eq_true.2 ⟨_,nS hi,by unfold jy;rw[h1,hs,dB rfl];rfl⟩;rw[if_pos hs,if_pos adq];have e:l.set i { l[i] with values:=l[i].values.set v.attr.toNat v.new } = l.map (mF v):=by
     refine ext_getElem (by simp) λj h2 h3=>?_
     rw[getElem_set,getElem_map];split
     ·rename_i e;subst e;unfold mF;rw[if_pos (by unfold jy;rw[h1,hs,dB rfl];rfl)]
     ·rename_i hne;unfold mF;rw[if_neg λh=>hne ?_];have:=hfit _ (nS (by simpa using h3)) h;exact (hl.azv (by simpa using h3) hi (by rw[this])).symm
    rw[e];exact agp r _ (iJ.map (by simpa only[oN] using hl))
   ·rw[if_neg hs,if_neg λh=>hs ?_]
    ·exact⟨rfl,λh=>by cases h⟩
    ·obtain⟨m,hm,h⟩:=any_eq_true.1 h;have e:=hfit m hm h;subst e;unfold jy at h;rw[and_eq_true] at h;exact h.2
theorem yf:∀ (r:List aO) (l:List ah),iJ ah.id l->iJ ah.id (eB l r).1
 | [],l,h=>h
 |v :: r,l,h=>by
  have h':iJ ah.id (l.map (mF v)):=iJ.map (by simpa only[oN] using h);rw[eB];split
  ·exact yf r _ h'
  ·exact h'
def ahr(l m:List ah):Prop:=l.map (λn=>(n.id,n.type,n.values.length))=m.map (λn=>(n.id,n.type,n.values.length))
theorem qq:∀ (r:List aO) (l:List ah),ahr (eB l r).1 l
 | [],l=>rfl
 |v :: r,l=>by
  have h':ahr (l.map (mF v)) l:=by
   unfold ahr;rw[map_map];refine map_congr_left λn _=>?_
   simp only[Function.comp,oN,adL,aaa]
  rw[eB];split
  ·exact (qq r _).trans h'
  ·exact h'
theorem ahr.len{l m:List ah}(h:ahr l m):l.length=m.length:=by simpa using congrArg length h
theorem adM{l:List ah}(h:(l.map ah.id).Nodup):iJ ah.id (kF l):=iJ.sort h
theorem adN{l:List ax}(h:(l.map ax.id).Nodup):iJ ax.id (mR l):=iJ.sort h
theorem nI{l:List ah}{x:ah} : x∈kF l↔x∈l:=(mergeSort_perm l _).mem_iff
theorem uE{l:List ax}{x:ax} : x∈mR l↔x∈l:=(mergeSort_perm l _).mem_iff
theorem au1{l:List ah} : (kF l).length=l.length:=length_mergeSort _
theorem au2{l:List ax} : (mR l).length=l.length:=length_mergeSort _
theorem abC{l:List ah}{m:List ax}{p:aF}(h:gm l m p=false):(∀n∈p.aM,(∀x∈l,x.id≠n.id)/\∀x∈m,x.id≠n.id)/\∀e∈p.aK,(∀x∈l,x.id≠e.id)/\∀x∈m,x.id≠e.id:=by unfold gm j6 at h;simp only[Bool.or_eq_false_iff,any_eq_false,decide_eq_true_eq] at h;simp only[not_eq_true,Bool.or_eq_false_iff,any_eq_false,decide_eq_true_eq] at h;exact h
theorem amU{α:Type} [Inhabited α]{f:α->Int}{d:List α}(h:(d.map f).Nodup):aii f d:=λi j hi hj e=>by
 have hg:∀k,(hk:k<d.length)->d.getD k default=d[k]:=λk hk=>by simp[hk]
 rw[hg i hi,hg j hj] at e;have h2:=pairwise_iff_getElem.1 h;rcases Nat.lt_trichotomy i j with h1|h1|h1
 ·exact absurd (by rw[getElem_map,getElem_map];exact e) (h2 i j (by simpa using hi) (by simpa using hj) h1)
 ·exact h1
 ·exact absurd (by rw[getElem_map,getElem_map];exact e.symm) (h2 j i (by simpa using hj) (by simpa using hi) h1)
theorem bB{n:Nat}(h:n<=4000000000000000000):n<=fuel:=by unfold fuel;omega
theorem nq{l:List Int}(hl:l.length<=1000000)(x:Int):fQ l x=some (z7 (λy=>decide (y=x)) l):=by unfold fQ;rw[bC (bB (by omega))];refine xo l _ (λi hi cH=>?_) rfl;rw[ck hi];try simp only[eq_comm (a:=x)]
theorem dm{l:List Int}(hl:l.length<=1000000)(x:Int):bW l x=some (z7 (λy=>decide (y=x)) l):=by unfold bW;rw[bC (bB (by omega))];refine xo l _ (λi hi cH=>?_) rfl;rw[ck hi];try simp only[eq_comm (a:=x)]
theorem rI{l:List Int}(hl:l.length<=1000000)(x:Int):eZ l x=some (decide (x∈l)):=by
 unfold eZ;rw[aT (nq hl x),yd];congr 1;rw[Bool.eq_iff_iff,any_eq_true,decide_eq_true_iff];constructor
 ·rintro⟨y,hy,e⟩;rw[<-ct e];exact hy
 ·intro h;exact⟨x,h,dB rfl⟩
theorem yg{l:List Int}{p:Int->Option Bool}(q:Int->Bool)(hl:l.length<=1000000)(hp:∀x∈l,p x=some (q x)):je l p=some (z7 q l):=by unfold je;rw[bC (bB (by omega))];refine xo l q (λi hi cH=>?_) rfl;rw[ck hi,aT (hp _ (nS hi))]
theorem oW{l:List Int}{p:Int->Option Bool}(q:Int->Bool)(hl:l.length<=1000000)(hp:∀x∈l,p x=some (q x)):fH l p=some (l.any q):=by unfold fH;rw[aT (yg q hl hp),yd]
theorem tB{l:List ah}{p:ah->Option Bool}(q:ah->Bool)(hl:l.length<=1000000)(hp:∀x∈l,p x=some (q x)):fZ l p=some (z7 q l):=by unfold fZ;rw[bC (bB (by omega))];refine xo l q (λi hi cH=>?_) rfl;rw[ck hi,aT (hp _ (nS hi))]
theorem lR{l:List ah}{p:ah->Option Bool}(q:ah->Bool)(hl:l.length<=1000000)(hp:∀x∈l,p x=some (q x)):dY l p=some (l.any q):=by unfold dY;rw[aT (tB q hl hp),yd]
theorem tC{l:List ax}{p:ax->Option Bool}(q:ax->Bool)(hl:l.length<=1000000)(hp:∀x∈l,p x=some (q x)):ga l p=some (z7 q l):=by unfold ga;rw[bC (bB (by omega))];refine xo l q (λi hi cH=>?_) rfl;rw[ck hi,aT (hp _ (nS hi))]
theorem rD{l:List ax}{p:ax->Option Bool}(q:ax->Bool)(hl:l.length<=1000000)(hp:∀x∈l,p x=some (q x)):eW l p=some (l.any q):=by unfold eW;rw[aT (tC q hl hp),yd]
def jv(l:List Int)(next:Int)(j:Nat):Int:=if l.getD j 0<0\/next<=l.getD j 0 then 6 else if 0<j/\l.getD j 0<=l.getD (j-1) 0 then 12 else 0
def tD(l:List Int)(next:Int):Int:=azu (jv l next) (range l.length)
theorem sW{l:List Int}(hl:l.length<=1000000)(next:Int):iT l next=some (tD l next):=by
 unfold iT;rw[bC (bB (by omega))];rw[vg (λj=>decide (jv l next j=0)) (λj=>some (jv l next j)) ?_]
 ·exact aiq rfl
 ·intro j hj cH;have hg:l.getD j 0=l[j]:=by simp[hj]
  rw[ck hj,aY,aY,aY];by_cases h1:l[j]<0
  ·rw[if_pos h1];have:jv l next j=6:=by unfold jv;rw[if_pos (by rw[hg];exact .inl h1)]
   rw[this];rfl
  rw[if_neg h1];by_cases h2:next<=l[j]
  ·rw[if_pos h2];have:jv l next j=6:=by unfold jv;rw[if_pos (by rw[hg];exact .inr h2)]
   rw[this];rfl
  rw[if_neg h2];by_cases h3:0<j
  ·have hg2:l.getD (j-1) 0=l[j-1]'(by omega):=by simp[show j-1<l.length by omega]
   rw[if_pos (by omega),dA (by omega),gD (by omega) (by omega)];rw[aY];have e2:l[(((j:Nat):Int)-1).toNat]'(by omega)=l[j-1]'(by omega):=by congr 1;omega
   rw[e2];by_cases h4:l[j]<=l[j-1]'(by omega)
   ·rw[if_pos h4];have:jv l next j=12:=by unfold jv;rw[if_neg (by rw[hg];omega),if_pos (by rw[hg,hg2];exact⟨h3,h4⟩)]
    rw[this];rfl
   ·rw[if_neg h4];have:jv l next j=0:=by unfold jv;rw[if_neg (by rw[hg];omega),if_neg (by rw[hg,hg2];omega)]
    rw[this];rfl
  ·rw[if_neg (by omega)];have:jv l next j=0:=by unfold jv;rw[if_neg (by rw[hg];omega),if_neg (by omega)]
   rw[this];rfl
theorem rJ{l:List Int}(hl:l.length<=1000000)(next:Int):iB l next=some (tD l next):=by
 unfold iB;rw[bC (bB (by omega))];rw[vg (λj=>decide (jv l next j=0)) (λj=>some (jv l next j)) ?_]
 ·exact aiq rfl
 ·intro j hj cH;have hg:l.getD j 0=l[j]:=by simp[hj]
  rw[ck hj,aY,aY,aY];by_cases h1:l[j]<0
  ·rw[if_pos h1];have:jv l next j=6:=by unfold jv;rw[if_pos (by rw[hg];exact .inl h1)]
   rw[this];rfl
  rw[if_neg h1];by_cases h2:next<=l[j]
  ·rw[if_pos h2];have:jv l next j=6:=by unfold jv;rw[if_pos (by rw[hg];exact .inr h2)]
   rw[this];rfl
  rw[if_neg h2];by_cases h3:0<j
  ·have hg2:l.getD (j-1) 0=l[j-1]'(by omega):=by simp[show j-1<l.length by omega]
   rw[if_pos (by omega),dA (by omega),gD (by omega) (by omega)];rw[aY];have e2:l[(((j:Nat):Int)-1).toNat]'(by omega)=l[j-1]'(by omega):=by congr 1;omega
   rw[e2];by_cases h4:l[j]<=l[j-1]'(by omega)
   ·rw[if_pos h4];have:jv l next j=12:=by unfold jv;rw[if_neg (by rw[hg];omega),if_pos (by rw[hg,hg2];exact⟨h3,h4⟩)]
    rw[this];rfl
   ·rw[if_neg h4];have:jv l next j=0:=by unfold jv;rw[if_neg (by rw[hg];omega),if_neg (by rw[hg,hg2];omega)]
    rw[this];rfl
  ·rw[if_neg (by omega)];have:jv l next j=0:=by unfold jv;rw[if_neg (by rw[hg];omega),if_neg (by omega)]
   rw[this];rfl
theorem vS{l:List Int}{next:Int} : tD l next=0↔(∀x∈l,0<=x/\x<next)/\iJ id l:=by
 unfold tD;rw[au0];have hg:∀j,(hj:j<l.length)->l.getD j 0=l[j]:=λj hj=>by simp[hj]
 constructor
 ·intro h;have h':∀j,(hj:j<l.length)->(0<=l[j]/\l[j]<next)/\∀ (_:0<j),l[j-1]'(by omega)<l[j]:=λj hj=>by
   have:=h j (mem_range.2 hj);unfold jv at this;rw[hg j hj] at this;split at this
   ·cases this
   ·split at this
    ·cases this
    ·rename_i h1 h2;refine⟨by omega,λh0=>?_⟩;rw[hg (j-1) (by omega)] at h2;omega
  refine⟨λx hx=>?_,iJ.aFw λi hi=>?_⟩
  ·obtain⟨j,hj,rfl⟩:=getElem_of_mem hx;exact (h' j hj).1
  ·exact (h' (i+1) hi).2 (by omega)
 ·rintro⟨h1,h2⟩ j hj;have hj:=mem_range.1 hj;have hx:=h1 _ (nS hj);unfold jv;rw[hg j hj,if_neg (by omega)];by_cases h0:0<j
  ·rw[hg (j-1) (by omega)];have:=h2.acO (i:=j-1) (j:=j) (by omega) hj;simp only[id] at this;rw[if_neg (by omega)]
  ·rw[if_neg (by omega)]
def nr(t:Types)(x:az):Int :=
 if (jY t x.host).2≠0 then (jY t x.host).2
 else if x.nodes.length≠x.host.graph.nodes.length\/x.ak.length≠x.host.graph.ak.length then 20
 else if x.next<0\/1000000<x.next then 6
 else if tD x.nodes x.next≠0 then tD x.nodes x.next
 else if tD x.ak x.next≠0 then tD x.ak x.next
 else if x.ak.any (λe=>decide (e∈x.nodes))=true then 5 else 0
structure kN(x:az):Prop where
 host:tT x.host
 nodes:x.nodes.length<=1000000
 ak:x.ak.length<=1000000
theorem acP{t:Types}{h:Host}(ht:fm t)(hh:tT h):tW t h=some (jY t h):=qJ ⟨ht,hh⟩
theorem wD{t:Types}{h:Host}(ht:fm t)(hh:tT h):iS t h=some (jY t h):=qJ ⟨ht,hh⟩
theorem aab{t:Types}(h:fm t):jS t=some (gH t):=qJ h
theorem acQ{t:Types}{h:Host}(hv:(gH t).2≠0):jY t h=(-1,(gH t).2):=by unfold jY;rw[if_pos hv]
theorem tE{t:Types}(ht:fm t){x:az}(hx:kN x):jZ t x=some (nr t x):=by
 have h1:=hx.nodes;have h2:=hx.ak;unfold jZ nr;rw[aT (acP ht hx.host),aY];by_cases h0:(jY t x.host).2=0
 ·rw[if_pos h0,if_neg (λh=>h h0),aY,aY];by_cases h3:x.nodes.length=x.host.graph.nodes.length
  ·rw[if_pos (by omega)];by_cases h4:x.ak.length=x.host.graph.ak.length
   ·rw[if_pos (by omega),if_neg (show ¬ (_\/_) by omega),aY,aY];by_cases h5:x.next<0
    ·rw[if_pos h5,if_pos (.inl h5)]
    rw[if_neg h5];by_cases h6:1000000<x.next
    ·rw[if_pos h6,if_pos (.inr h6)]
    rw[if_neg h6,if_neg (show ¬ (_\/_) by omega),aT (sW h1 _),aY];by_cases h7:tD x.nodes x.next=0
    ·rw[if_pos h7,if_neg (λh=>h h7),aT (sW h2 _),aY];by_cases h8:tD x.ak x.next=0
     ·rw[if_pos h8,if_neg (λh=>h h8),aT (oW (λe=>decide (e∈x.nodes)) h2 (λe _=>by unfold lq;rw[aT (rI h1 e)]))];cases x.ak.any λe=>decide (e∈x.nodes)<;>rfl
     ·rw[if_neg h8,if_pos h8]
    ·rw[if_neg h7,if_pos h7]
   ·rw[if_neg (by omega),if_pos (.inr h4)]
  ·rw[if_neg (by omega),if_pos (.inl h3)]
 ·rw[if_neg h0,if_pos h0]
theorem mG{t:Types}(ht:fm t){x:az}(hx:kN x):b9 t x=some (nr t x):=by
 have h1:=hx.nodes;have h2:=hx.ak;unfold b9 nr;rw[aT (aab ht),aY];by_cases hT:(gH t).2=0;rotate_left
 ·rw[if_neg hT,acQ hT,if_pos hT]
 rw[if_pos hT,aT (wD ht hx.host),aY];by_cases h0:(jY t x.host).2=0
 ·rw[if_pos h0,if_neg (λh=>h h0),aY,aY];by_cases h3:x.nodes.length=x.host.graph.nodes.length
  ·rw[if_pos (by omega)];by_cases h4:x.ak.length=x.host.graph.ak.length
   ·rw[if_pos (by omega),if_neg (show ¬ (_\/_) by omega),aY,aY];by_cases h5:x.next<0
    ·rw[if_pos h5,if_pos (.inl h5)]
    rw[if_neg h5];by_cases h6:1000000<x.next
    ·rw[if_pos h6,if_pos (.inr h6)]
    rw[if_neg h6,if_neg (show ¬ (_\/_) by omega),aT (rJ h1 _),aY];by_cases h7:tD x.nodes x.next=0
    ·rw[if_pos h7,if_neg (λh=>h h7),aT (rJ h2 _),aY];by_cases h8:tD x.ak x.next=0
     ·rw[if_pos h8,if_neg (λh=>h h8),bC (bB (by omega))];rw[oL x.ak (λe=>!decide (e∈x.nodes)) (λ_=>some 5) ?_]
      ·rw[pT];have e:(x.ak.all λe=>!decide (e∈x.nodes)) = !x.ak.any λe=>decide (e∈x.nodes):=by rw[not_any_eq_all_not]
       rw[e];cases x.ak.any λe=>decide (e∈x.nodes)<;>rfl
      ·intro i hi cH;rw[ck hi,aT (dm h1 _),yd];have e:(x.nodes.any λy=>decide (y=x.ak[i]))=decide (x.ak[i]∈x.nodes):=by
        rw[Bool.eq_iff_iff,any_eq_true,decide_eq_true_iff];constructor
        ·rintro⟨y,hy,e⟩;rw[<-ct e];exact hy
        ·intro h;exact⟨_,h,dB rfl⟩
       rw[e];cases decide (x.ak[i]∈x.nodes)<;>rfl
     ·rw[if_neg h8,if_pos h8]
    ·rw[if_neg h7,if_pos h7]
   ·rw[if_neg (by omega),if_pos (.inr h4)]
  ·rw[if_neg (by omega),if_pos (.inl h3)]
 ·rw[if_neg h0,if_pos h0]
end Go.Proofs.YtjhkgjlmiolfoaaGreat
namespace Go.cv
section
variable{α X Y O:Type}
def ow(step:X->Y->α->(X×Y)×Bool):X->Y->List α->(X×Y)×Bool
 |x,y,[]=>((x,y),true)
 |x,y,e :: r=>if (step x y e).2=true then ow step (step x y e).1.1 (step x y e).1.2 r else step x y e
theorem agq{F:Bool×Int×X×Y->(Bool×Int×X×Y->Option O)->(Bool×Int×X×Y->Option O)->Option O}{K:Bool×Int×X×Y->Option O}(l:List α)(step:X->Y->α->(X×Y)×Bool)(inv:X->Y->Prop)
  (h0:∀i x y cH,F (false,i,x,y) cH K=K (false,i,x,y)) (h1:∀x y cH,F (true,((l.length:Nat):Int),x,y) cH K=K (true,((l.length:Nat):Int),x,y))
  (h2:∀ (i:Nat) (hi:i<l.length) x y cH,inv x y->F (true,(i:Int),x,y) cH K=cH ((step x y l[i]).2,((i+1:Nat):Int),(step x y l[i]).1.1,(step x y l[i]).1.2)/\inv (step x y l[i]).1.1 (step x y l[i]).1.2) :
  ∀ (k i n:Nat) (x:X) (y:Y),i+k=l.length->k+2<=n->inv x y->(∃j,iter F n (true,(i:Int),x,y) K=K ((ow step x y (l.drop i)).2,j,(ow step x y (l.drop i)).1.1,(ow step x y (l.drop i)).1.2))/\inv (ow step x y (l.drop i)).1.1 (ow step x y (l.drop i)).1.2
 |0,i,n+1,x,y,hk,hn,hv=>by
  have:i=l.length:=by omega
  subst this;rw[drop_length];exact⟨⟨_,by rw[iter,h1];rfl⟩,hv⟩
 |k+1,i,n+1,x,y,hk,hn,hv=>by
  have hi:i<l.length:=by omega
  obtain⟨g1,g2⟩:=h2 i hi x y (λs=>iter F n s K) hv;rw[drop_eq_getElem_cons hi,ow];cases hb:(step x y l[i]).2 with
  |true=>simp only[if_true];obtain⟨⟨j,q1⟩,q2⟩:=agq l step inv h0 h1 h2 k (i+1) n _ _ (by omega) (by omega) g2;exact⟨⟨j,by rw[iter,g1,hb];exact q1⟩,q2⟩
  |false=>simp only[false_eq_true,if_false];obtain⟨n,rfl⟩:∃m,n=m+1:=⟨n-1,by omega⟩;exact⟨⟨_,by rw[iter,g1,hb,iter,h0]⟩,g2⟩
theorem azw{F:Bool×Int×X×Y->(Bool×Int×X×Y->Option O)->(Bool×Int×X×Y->Option O)->Option O}{K:Bool×Int×X×Y->Option O}(l:List α)(step:X->Y->α->(X×Y)×Bool)(inv:X->Y->Prop)(hl:l.length<=1000000)
  (h0:∀i x y cH,F (false,i,x,y) cH K=K (false,i,x,y)) (h1:∀x y cH,F (true,((l.length:Nat):Int),x,y) cH K=K (true,((l.length:Nat):Int),x,y))
  (h2:∀ (i:Nat) (hi:i<l.length) x y cH,inv x y->F (true,(i:Int),x,y) cH K=cH ((step x y l[i]).2,((i+1:Nat):Int),(step x y l[i]).1.1,(step x y l[i]).1.2)/\inv (step x y l[i]).1.1 (step x y l[i]).1.2)
  (b:Bool) (x:X) (y:Y) (hv:inv x y):∃j,iter F fuel (b,0,x,y) K=K (if b=true then (ow step x y l).2 else false,j,if b=true then (ow step x y l).1.1 else x,if b=true then (ow step x y l).1.2 else y)/\(b=true->inv (ow step x y l).1.1 (ow step x y l).1.2):=by
 cases b with
 |true=>obtain⟨⟨j,q1⟩,q2⟩:=agq l step inv h0 h1 h2 l.length 0 fuel x y (by omega) (by unfold fuel;omega) hv;rw[drop_zero] at q1 q2;simp only[if_true];exact⟨j,q1,λ_=>q2⟩
 |false=>simp only[false_eq_true,if_false];refine⟨0,?_,λh=>by cases h⟩;rw[show fuel=4611686018427387903+1 from rfl,iter,h0]
end
section
variable{α O:Type}{Q:O->Prop}
theorem aeq(f:α->Int)(A B:List α)(hA:iJ f A)(hB:iJ f B)(hd:∀a∈A,∀b∈B,f a≠f b)(hlA:A.length<=1000000)(hlB:B.length<=1000000){K:Int×Int×List α->Option O}
    (hK:∀out,iJ f out->(∀x,x∈out↔x∈A\/x∈B)->∀k i,Ok (K (k,i,out)) Q) :
    Ok (iter (λ(s:Int×Int×List α) aFx aJn =>
      cond (decide (s.2.1<=((A.length:Nat):Int))) (
       iter (λ(s1:Int×List α) mU xh =>
        cond (decide (s1.1<((B.length:Nat):Int))) (
         cond (decide (s.2.1=((A.length:Nat):Int))) (
          thn (nO B s1.1) λe =>
          cT (s1.2.length+1<=68719476736) <|
          mU ((i64.wrap (s1.1+1)),(s1.2++[e]))) <|
         thn (nO B s1.1) λe =>
         thn (nO A s.2.1) λe2 =>
         cond (decide (f e<f e2)) (
          cT (s1.2.length+1<=68719476736) <|
          mU ((i64.wrap (s1.1+1)),(s1.2++[e]))) <|
         xh (s1.1,s1.2)) <|
        xh (s1.1,s1.2))
       fuel (s.1,s.2.2) λs1 =>
       cond (decide (s.2.1<((A.length:Nat):Int))) (
        thn (nO A s.2.1) λe =>
        cT (s1.2.length+1<=68719476736) <|
        aFx (s1.1,(i64.wrap (s.2.1+1)),(s1.2++[e]))) <|
       aFx (s1.1,(i64.wrap (s.2.1+1)),s1.2)) <|
      aJn (s.1,s.2.1,s.2.2))
     fuel (0,0,([]:List α)) K) Q:=by
  refine ajZ (λ(s:Int×Int×List α)=>∃k i:Nat,s.1=(k:Int)/\s.2.1=(i:Int)/\k<=B.length/\i<=A.length+1/\s.2.2.length<=i+k/\iJ f s.2.2/\(∀x,x∈s.2.2↔x∈A.take i\/x∈B.take k)/\(∀x∈s.2.2,∀j,(hj:j<A.length)->i<=j->f x<f A[j])/\(∀x∈s.2.2,∀j,(hj:j<B.length)->k<=j->f x<f B[j])/\(i<=A.length\/k=B.length)) (λs=>A.length+1-s.2.1.toNat)
    ⟨0,0,rfl,rfl,zero_le _,zero_le _,le_refl _,iJ.nil,by simp,λx hx=>(by cases hx),λx hx=>(by cases hx),.inl (zero_le _)⟩ (by unfold fuel;simp;omega) ?_
  rintro⟨s1,s2,out⟩ cH ⟨k,i,rfl,rfl,hk,hi,hlen,azx,hmem,h1,h2,h3⟩ hn;simp only at hlen azx hmem h1 h2 hn ⊢;by_cases hc:i<=A.length;rotate_left
  · refine ahk (gf (by omega)) (hK out azx (λx=>?_) _ _);have hkB:k=B.length:=by omega
    rw[hmem,take_of_length_le (by omega),take_of_length_le (by omega)]
  refine af8 (dB (by omega)) ?_;refine ajZ (λ(s:Int×List α)=>∃k':Nat,s.1=(k':Int)/\k<=k'/\k'<=B.length/\s.2.length<=i+k'/\iJ f s.2/\(∀x,x∈s.2↔x∈A.take i\/x∈B.take k')/\(∀x∈s.2,∀j,(hj:j<A.length)->i<=j->f x<f A[j])/\(∀x∈s.2,∀j,(hj:j<B.length)->k'<=j->f x<f B[j])) (λs=>B.length-s.1.toNat)
    ⟨k,rfl,le_refl _,hk,hlen,azx,hmem,h1,h2⟩ (by unfold fuel;simp;omega) ?_
  rintro⟨t,out⟩ aJo ⟨k',rfl,hkk,hk',hlen',ard,arf,ur,h2'⟩ hn1;simp only at hlen' ard arf ur h2' hn1 ⊢
  have behind : (k' = B.length ∨ (i < A.length ∧ ∃ hb : k' < B.length, ∀ ha : i < A.length, f A[i] < f B[k'])) → Ok (cond (decide (((i : Nat) : Int) < ((A.length : Nat) : Int))) (
        thn (nO A ((i:Nat):Int)) λe =>
        cT (out.length+1<=68719476736) <|
        cH (((k':Nat):Int),(i64.wrap (((i:Nat):Int)+1)),(out++[e]))) <|
       cH (((k':Nat):Int),(i64.wrap (((i:Nat):Int)+1)),out)) Q:=by
    intro hb;rw[dA (by omega)];by_cases ha:i<A.length
    · refine af8 (dB (by omega)) (nQ (by omega) (by omega) (cC (by omega) (hn _ ⟨k',i+1,rfl,by simp only;omega,hk',by omega,by simp;omega,?_,?_,?_,?_,.inl (by omega)⟩ (by simp only;omega))))
      · refine ard.app (pairwise_singleton _ _) λa hx b hb=>?_
        rw[mem_singleton.1 hb];exact ur a hx i ha (le_refl _)
      · intro x;rw[mem_append,arf,mem_singleton,take_add_one,getElem?_eq_getElem ha,toList_some,mem_append,mem_singleton];simp only[toNat_natCast];constructor
        · rintro ((h|h)|h)
          · exact .inl (.inl h)
          · exact .inr h
          · exact .inl (.inr h)
        · rintro ((h|h)|h)
          · exact .inl (.inl h)
          · exact .inr h
          · exact .inl (.inr h)
      · intro x hx j hj hij;rcases mem_append.1 hx with hx|hx
        · exact ur x hx j hj (by omega)
        · rw[mem_singleton.1 hx];exact hA.acO (by simp only[toNat_natCast];omega) hj
      · intro x hx j hj hij;rcases mem_append.1 hx with hx|hx
        · exact h2' x hx j hj hij
        · rw[mem_singleton.1 hx];rcases hb with hb|⟨_,hb,hab⟩
          · omega
          · have e1:=hab ha;rcases Nat.lt_or_eq_of_le hij with h|h
            · exact lt_trans e1 (hB.acO h hj)
            · subst h;exact e1
    · refine ahk (gf (by omega)) (hn _ ⟨k',i+1,rfl,by simp only;omega,hk',by omega,by simp only;omega,ard,?_,?_,h2',?_⟩ (by simp only;omega))
      · intro x;simp only;rw[arf,take_of_length_le (show A.length<=i by omega),take_of_length_le (show A.length<=i+1 by omega)]
      · intro x hx j hj hij;omega
      · rcases hb with hb|⟨hb,_⟩
        · exact .inr hb
        · omega
  have step:(hb:k'<B.length)->(∀ha:i<A.length,f B[k']<f A[i])->Ok (aJo (i64.wrap (((k':Nat):Int)+1),out++[B[k']])) Q:=by
    intro hb hab;rw[dA (by omega)];refine hn1 _ ⟨k'+1,by simp only;omega,by omega,by omega,by simp;omega,?_,?_,?_,?_⟩ (by simp only;omega)
    · refine ard.app (pairwise_singleton _ _) λa hx b hb'=>?_
      rw[mem_singleton.1 hb'];exact h2' a hx k' hb (le_refl _)
    · intro x;rw[mem_append,arf,mem_singleton,take_add_one (l:=B),getElem?_eq_getElem hb,toList_some,mem_append,mem_singleton,or_assoc]
    · intro x hx j hj hij;rcases mem_append.1 hx with hx|hx
      · exact ur x hx j hj hij
      · rw[mem_singleton.1 hx];have e1:=hab (by omega);rcases Nat.lt_or_eq_of_le hij with h|h
        · exact lt_trans e1 (hA.acO h hj)
        · subst h;exact e1
    · intro x hx j hj hij;rcases mem_append.1 hx with hx|hx
      · exact h2' x hx j hj (by omega)
      · rw[mem_singleton.1 hx];exact hB.acO (by omega) hj
  by_cases hb:k'<B.length;rotate_left
  · exact ahk (gf (by omega)) (behind (.inl (by omega)))
  refine af8 (dB (by omega)) ?_;by_cases ha:i<A.length
  · refine ahk (gf (by omega)) (nQ (by omega) (by omega) (nQ (by omega) (by omega) ?_));simp only[toNat_natCast];by_cases hlt:f B[k']<f A[i]
    · exact af8 (dB hlt) (cC (by omega) (step hb λ_=>hlt))
    · refine ahk (gf hlt) (behind (.inr ⟨ha,hb,λ_=>?_⟩));have:=hd A[i] (nS ha) B[k'] (nS hb);omega
  · refine af8 (dB (by omega)) (nQ (by omega) (by omega) (cC (by omega) ?_));simp only[toNat_natCast];exact step hb λh=>absurd h ha
end
end Go.cv
namespace Go.Proofs.YtjhkgjlmiolfoaaGreat
open Go.cv
structure pg(t:Types)(h:Host):Prop where
 types:(gH t).2=0
 valid:o8 h.graph=0
 agr:h.values.length=h.graph.nodes.length
 node:∀i,i<h.graph.nodes.length->kZ t (h.graph.nodes.getD i default) (h.values.getD i default)=0
 ia:∀i,i<h.graph.ak.length->rG t h i=0
theorem pg.graph{t:Types}{h:Host}(hh:pg t h):OkG h.graph:=okG hh.valid
theorem qt{t:Types}{h:Host} : (jY t h).2=0↔pg t h:=by
 unfold jY;constructor
 ·intro hv;split at hv
  ·rename_i h1;exact absurd hv h1
  ·rename_i h1;split at hv
   ·rename_i h2;exact absurd hv h2
   ·rename_i h2;split at hv
    ·cases hv
    ·rename_i h3;split at hv
     ·rename_i k hk;exact absurd hv (sN hk)
     ·rename_i h4;split at hv
      ·rename_i k hk;exact absurd hv (sN hk)
      ·rename_i h5;exact⟨Decidable.of_not_not h1,Decidable.of_not_not h2,Decidable.of_not_not h3,uU h4,uU h5⟩
 ·rintro⟨h1,h2,h3,h4,h5⟩;rw[if_neg (λh=>h h1),if_neg (λh=>h h2),if_neg (λh=>h h3),gG (λj _ hj=>h4 j hj),gG (λj _ hj=>h5 j hj)]
structure fD(t:Types)(x:az):Prop where
 host:pg t x.host
 uc:x.nodes.length=x.host.graph.nodes.length
 ahs:x.ak.length=x.host.graph.ak.length
 next:0<=x.next/\x.next<=1000000
 nid:(∀n∈x.nodes,0<=n/\n<x.next)/\iJ id x.nodes
 eid:(∀n∈x.ak,0<=n/\n<x.next)/\iJ id x.ak
 apart:∀e∈x.ak,e ∉ x.nodes
theorem dU{t:Types}{x:az} : nr t x=0↔fD t x:=by
 unfold nr;constructor
 ·intro h;split at h
  ·rename_i h1;exact absurd h h1
  ·rename_i h1;split at h
   ·cases h
   ·rename_i h2;split at h
    ·cases h
    ·rename_i h3;split at h
     ·rename_i h4;exact absurd h h4
     ·rename_i h4;split at h
      ·rename_i h5;exact absurd h h5
      ·rename_i h5;split at h
       ·cases h
       ·rename_i h6;refine⟨qt.1 (Decidable.of_not_not h1),by omega,by omega,by omega,vS.1 (Decidable.of_not_not h4),vS.1 (Decidable.of_not_not h5),λe he hn=>h6 ?_⟩;exact any_eq_true.2 ⟨e,he,dB hn⟩
 ·rintro⟨h1,h2,h3,h4,h5,h6,h7⟩;rw[if_neg (λh=>h (qt.2 h1)),if_neg (by omega),if_neg (by omega),if_neg (λh=>h (vS.2 h5)),if_neg (λh=>h (vS.2 h6)),if_neg];intro h;obtain⟨e,he,hn⟩:=any_eq_true.1 h;exact h7 e he (ct hn)
def gP(a:az)(i:Nat):ax:=⟨a.ak.getD i default,(a.host.graph.ak.getD i default).type,a.nodes.getD (a.host.graph.ak.getD i default).src.toNat default,a.nodes.getD (a.host.graph.ak.getD i default).dst.toNat default⟩
def dI(a:az):List ax:=(range a.ak.length).map (gP a)
theorem ags{α:Type} [Inhabited α](l:List α):(range l.length).map (λi=>l.getD i default)=l:=by
 refine ext_getElem (by simp) λi h1 h2=>?_
 simp[show i<l.length from h2]
theorem yh(a:az):(bD a).map ah.id=a.nodes:=by unfold bD;rw[map_map];exact ags a.nodes
theorem agt(a:az):(dI a).map ax.id=a.ak:=by unfold dI;rw[map_map];exact ags a.ak
theorem lH(a:az):(bD a).length=a.nodes.length:=by simp[bD]
theorem kG(a:az):(dI a).length=a.ak.length:=by simp[dI]
section
variable{t:Types}{a:az}
theorem fD.xu(h:fD t a):iJ ah.id (bD a):=iJ.arc (f:=id) (by rw[yh];exact h.nid.2)
theorem fD.agu(h:fD t a):iJ ax.id (dI a):=iJ.arc (f:=id) (by rw[agt];exact h.eid.2)
theorem fD.n40(h:fD t a):a.nodes.length<=40:=by rw[h.uc];exact h.host.graph.nodes
theorem fD.e80(h:fD t a):a.ak.length<=80:=by rw[h.ahs];exact h.host.graph.ak
theorem vi{α:Type}(g:Nat->α){i n:Nat}(hi:i<n):((range n).map g).take (i+1)=((range n).map g).take i++[g i]:=by rw[take_add_one,getElem?_eq_getElem (by simpa using hi),toList_some,getElem_map,getElem_range]
theorem aeR(h:fD t a):ny a=some (dI a):=by
 have hn:=h.n40;have he:=h.e80;refine Ok.eq ?_;unfold ny;refine cC (bB (by omega)) ?_;refine sB (λi s=>i<=a.ak.length/\s=(dI a).take i) (zero_le _) ⟨zero_le _,rfl⟩ ?_ ?_
 ·rintro i s cH _ hi ⟨_,rfl⟩ hnx;have hi2:i<a.host.graph.ak.length:=by rw[<-h.ahs];exact hi
  have hg:a.host.graph.ak.getD i default=a.host.graph.ak[i]:=by simp[hi2]
  have hE:=h.host.graph.ia i hi2;rw[hg] at hE;rw[<-h.uc] at hE;refine tK hi (tK hi2 (nQ hE.2.1.1 (by omega) (nQ hE.2.2.1 (by omega) (cC (by rw[length_take];omega) (hnx _ ⟨hi,?_⟩)))));unfold dI;rw[vi _ hi];congr 2;unfold gP;rw[hg];simp only[ax.mk.injEq];refine⟨by simp[hi],trivial,?_,?_⟩
  ·simp[show a.host.graph.ak[i].src.toNat<a.nodes.length by omega]
  ·simp[show a.host.graph.ak[i].dst.toNat<a.nodes.length by omega]
 ·rintro s ⟨_,rfl⟩;refine Ok.mk ?_;rw[take_of_length_le (by rw[kG];exact le_refl _)]
theorem azy(h:fD t a){i:Nat}(hi:i<a.nodes.length)(hv:∀l∈a.host.values,l.length<=1000000):gX a (i:Int)=some (cK a i):=by
 have h1:i<a.host.graph.nodes.length:=by rw[<-h.uc];exact hi
 have h2:i<a.host.values.length:=by rw[h.host.agr];exact h1
 unfold gX;rw[gD (by omega) (by simpa using hi),gD (by omega) (by simpa using h1),gD (by omega) (by simpa using h2)];have:=hv _ (nS h2);simp only[toNat_natCast];rw[bC (by omega)];unfold cK;simp[hi,h1,h2]
theorem akb(h:fD t a){i:Nat}(hi:i<a.ak.length):dH a (i:Int)=some (gP a i):=by
 have hi2:i<a.host.graph.ak.length:=by rw[<-h.ahs];exact hi
 have hg:a.host.graph.ak.getD i default=a.host.graph.ak[i]:=by simp[hi2]
 have hE:=h.host.graph.ia i hi2;rw[hg] at hE;rw[<-h.uc] at hE;unfold dH;rw[gD (by omega) (by simpa using hi2),gD (by omega) (by simpa using hi)];simp only[toNat_natCast];rw[gD hE.2.1.1 (by omega),gD hE.2.2.1 (by omega)];unfold gP;rw[hg];simp only[cA,ax.mk.injEq];refine⟨by simp[hi],trivial,?_,?_⟩
 ·simp[show a.host.graph.ak[i].src.toNat<a.nodes.length by omega]
 ·simp[show a.host.graph.ak[i].dst.toNat<a.nodes.length by omega]
theorem agv(h:fD t a)(hv:∀l∈a.host.values,l.length<=1000000):eR a=some ⟨bD a,dI a⟩:=by
 have hn:=h.n40;have he:=h.e80;refine Ok.eq ?_;unfold eR;refine cC (bB (by omega)) ?_;refine sB (λi s=>i<=a.nodes.length/\s=(bD a).take i) (zero_le _) ⟨zero_le _,rfl⟩ ?_ ?_
 ·rintro i s cH _ hi ⟨_,rfl⟩ hnx;refine ok_eq (azy h hi hv) (cC (by rw[length_take];omega) (hnx _ ⟨hi,?_⟩));unfold bD;rw[vi _ hi]
 ·rintro s ⟨_,rfl⟩;refine cC (bB (by omega)) ?_;refine sB (λi s=>i<=a.ak.length/\s=(dI a).take i) (zero_le _) ⟨zero_le _,rfl⟩ ?_ ?_
  ·rintro i s cH _ hi ⟨_,rfl⟩ hnx;refine ok_eq (akb h hi) (cC (by rw[length_take];omega) (hnx _ ⟨hi,?_⟩));unfold dI;rw[vi _ hi]
  ·rintro s ⟨_,rfl⟩;refine Ok.mk ?_;rw[take_of_length_le (by rw[lH];exact le_refl _),take_of_length_le (by rw[kG];exact le_refl _)]
end
theorem acR{α:Type} [Inhabited α](l:List α)(q:α->Bool):(range l.length).find? (λj=>q (l.getD j default))=l.findIdx? q:=by
 have hg:∀k,(hk:k<l.length)->l.getD k default=l[k]:=λk hk=>by simp[hk]
 cases h:l.findIdx? q with
 |none=>rw[find?_eq_none];intro j hj;have hj:=mem_range.1 hj;rw[hg j hj];have:=findIdx?_eq_none_iff.1 h _ (nS hj);rw[this];simp
 |some i=>obtain⟨hi,h1,h2⟩:=findIdx?_eq_some_iff_getElem.1 h;rw[find?_range_eq_some];refine⟨by rw[hg i hi];exact h1,mem_range.2 hi,λj hj=>?_⟩;rw[hg j (by omega)];have:=h2 j hj;simpa using this
theorem air(s:aQ)(e:ax)(hl:s.ak.length<=1000000):cF s e=some (⟨s.nodes,(xq ql s.ak e).1⟩,(xq ql s.ak e).2):=by
 unfold cF;rw[bC (bB (by omega))];rw[vg (λj=>!ql (s.ak.getD j default) e) (λj=>some (⟨s.nodes,s.ak.take j++s.ak.drop (j+1)⟩,true)) ?_]
 ·simp only[not_not];rw[acR s.ak (λm=>ql m e)];unfold xq;cases s.ak.findIdx? λm=>ql m e<;>rfl
 ·intro j hj cH;have hg:s.ak.getD j default=s.ak[j]:=by simp[hj]
  rw[ck hj,hg,iX];show cond (ql s.ak[j] e) _ _=_;cases ql s.ak[j] e with
  |false=>rfl
  |true=>rw[cond_true,cond_true,dA (by omega),bC (by omega),bC (by rw[length_take];omega),bC (by omega),bC (by rw[length_take,length_drop];omega)];rfl
theorem aqf{a b:List Int}(ha:a.length<=1000000):gJ a b=some (decide (a=b)):=by
 unfold gJ;rw[aY];by_cases hl:a.length=b.length
 ·rw[if_pos (by omega),bC (bB (by omega))];rw[vg (λj=>decide (a.getD j 0=b.getD j 0)) (λ_=>some false) ?_]
  ·rw[pT];by_cases h:a=b
   ·subst h;rw[if_pos (by simp),dB rfl]
   ·rw[if_neg,gf h];intro h2;apply h;refine ext_getElem hl λi h3 h4=>?_
    have:=all_eq_true.1 h2 i (mem_range.2 h3);simpa[h3,h4] using this
  ·intro j hj cH;rw[ck hj,ck (show j<b.length by omega)];simp[hj,show j<b.length by omega]
 ·rw[if_neg (by omega),gf λh=>hl (by rw[h])]
theorem aqg(a b:ah)(ha:a.values.length<=1000000):gK a b=some (dS a b):=by
 unfold gK dS;rw[aY,aY,aT (aqf ha)];by_cases h1:a.id=b.id
 ·rw[if_pos h1,dB h1,Bool.true_and];by_cases h2:a.type=b.type
  ·rw[if_pos h2,dB h2,Bool.true_and]
  ·rw[if_neg h2,gf h2,Bool.false_and]
 ·rw[if_neg h1,gf h1,Bool.false_and]
theorem ais(s:aQ)(e:ah)(hl:s.nodes.length<=1000000)(hv:∀n∈s.nodes,n.values.length<=1000000):cm s e=some (⟨(xq dS s.nodes e).1,s.ak⟩,(xq dS s.nodes e).2):=by
 unfold cm;rw[bC (bB (by omega))];rw[vg (λj=>!dS (s.nodes.getD j default) e) (λj=>some (⟨s.nodes.take j++s.nodes.drop (j+1),s.ak⟩,true)) ?_]
 ·simp only[not_not];rw[acR s.nodes (λm=>dS m e)];unfold xq;cases s.nodes.findIdx? λm=>dS m e<;>rfl
 ·intro j hj cH;have hg:s.nodes.getD j default=s.nodes[j]:=by simp[hj]
  rw[ck hj,aT (aqg _ e (hv _ (nS hj))),hg,iX];cases dS s.nodes[j] e with
  |false=>rfl
  |true=>rw[cond_true,cond_true,dA (by omega),bC (by omega),bC (by omega),bC (by rw[length_take];omega),bC (by rw[length_take,length_drop];omega)];rfl
theorem aFy(s:aQ)(v:aO)(hl:s.nodes.length<=1000000)(hv:∀n∈s.nodes,n.values.length<=1000000):cQ s v=some (⟨s.nodes.map (mF v),s.ak⟩,s.nodes.any (jy v)):=by
 unfold cQ;rw[bC (bB (by omega))];rw[(sk s.nodes (λ(s:List ah×Bool) n=>(s.1++[mF v n],s.2||jy v n)) (λi s=>s.1.length=i) rfl ?_).1]
 ·have key:∀ (l:List ah) (a:List ah×Bool),l.foldl (λ(s:List ah×Bool) n=>(s.1++[mF v n],s.2||jy v n)) a=(a.1++l.map (mF v),a.2||l.any (jy v)):=by
   intro l
   induction l with
   |nil=>intro a;simp
   |cons n l ih=>intro a;rw[foldl_cons,ih];simp[Bool.or_assoc]
  rw[key];rfl
 ·rintro i hi ⟨out,b⟩ hlen;simp only at hlen;have hn:=hv _ (nS hi);refine⟨λcH=>?_,by simp[hlen]⟩;rw[ck hi];generalize s.nodes[i]=n at hn ⊢;simp only;rw[bC (show out.length+1<=68719476736 by omega)];have hno:jy v n=false->cH (out++[n],b)=cH (out++[mF v n],b||jy v n):=λh=>by unfold mF;rw[h];simp
  rw[aY,aY,aY];by_cases h1:n.id=v.id;rotate_left
  ·rw[if_neg h1,hno];unfold jy;rw[gf h1];rfl
  rw[if_pos h1];by_cases h2:0<=v.attr;rotate_left
  ·rw[if_neg h2,hno];unfold jy okV;rw[dB (show v.attr<0 by omega)];simp
  rw[if_pos h2];by_cases h3:v.attr<n.values.length;rotate_left
  ·rw[if_neg h3,hno];unfold jy okV;rw[dB (show (n.values.length:Int)<=v.attr by omega)];simp
  have hk:v.attr.toNat<n.values.length:=by omega
  have hg:n.values.getD v.attr.toNat default=n.values[v.attr.toNat]:=by simp[hk]
  rw[if_pos h3,gD h2 hk,aY];by_cases h4:n.values[v.attr.toNat]=v.old;rotate_left
  ·rw[if_neg h4,hno];unfold jy okV;rw[hg,gf h4];simp
  rw[if_pos h4,aY];by_cases h5:v.old=v.new
  ·rw[if_pos h5,hno];unfold jy okV;rw[dB (show v.new=v.old from h5.symm)];simp
  rw[if_neg h5,bC (by omega),bC (show out.length+1<=68719476736 by omega)];have hy:jy v n=true:=by unfold jy okV;rw[hg,dB h1,gf (show ¬ v.attr<0 by omega),gf (show ¬ (n.values.length:Int)<=v.attr by omega),dB h4,gf (show ¬ v.new=v.old from λh=>h5 h.symm)];rfl
  unfold mF;rw[hy,if_pos rfl,Bool.or_true]
theorem xw{α O:Type}{l:List α}(R:α->α->Prop) [DecidableRel R](tr:∀a b c,R a b->R b c->R a c){f:Nat->Unit->(Unit->Option O)->(Unit->Option O)->Option O}{K:Unit->Option O}(y n:Option O)(hy:K ()=y)
  (h:∀i (hi:i<l.length) (_:1<=i) cH,f i () cH K=cond (decide (R (l[i-1]'(by omega)) l[i])) (cH ()) n):cr f (l.length-1) 1 () K=if l.Pairwise R then y else n:=by
 rw[adJ (λj=>decide (∀h:j<l.length,1<=j->R (l[j-1]'(by omega)) l[j])) (λ_=>n) (l.length-1) 1 λj h1 h2 cH=>?_]
 ·rw[pT,hy];congr 1;rw[eq_iff_iff,all_eq_true,pairwise_iff_getElem];constructor
  ·intro h;have step:∀k,(hk:k+1<l.length)->R (l[k]'(by omega)) l[k+1]:=λk hk=>ct (h (k+1) (mem_range'_1.2 ⟨by omega,by omega⟩)) hk (by omega)
   have key:∀k i,(hk:i+1+k<l.length)->R (l[i]'(by omega)) l[i+1+k]:=λk=>by
    induction k with
    |zero=>exact λi hi=>step i hi
    |succ k ih=>exact λi hi=>tr _ _ _ (ih i (by omega)) (step (i+1+k) hi)
   intro i j hi hj hij;obtain⟨k,rfl⟩:∃k,j=i+1+k:=⟨j-(i+1),by omega⟩;exact key k i hj
  ·intro h j hj;exact dB λh1 h2=>h _ _ _ _ (by omega)
 ·rw[h j (by omega) h1 cH];congr 1;rw[decide_eq_decide];exact⟨λh _ _=>h,λh=>h _ h1⟩
instance{α:Type}(f:α->Int)(l:List α):Decidable (iJ f l):=inferInstanceAs (Decidable (l.Pairwise λa b=>f a<f b))
def ltV(a b:aO):Prop:=a.id<b.id\/a.id=b.id/\a.attr<b.attr
instance:DecidableRel ltV:=λa b=>inferInstanceAs (Decidable (a.id<b.id\/a.id=b.id/\a.attr<b.attr))
theorem azz(a b c:aO)(h1:ltV a b)(h2:ltV b c):ltV a c:=by unfold ltV at *;omega
structure Ordered(p:aF):Prop where
 rn:iJ ah.id p.au
 re:iJ ax.id p.aC
 an:iJ ah.id p.aM
 ae:iJ ax.id p.aK
 va:p.values.Pairwise ltV
def sD(p:aF):Int :=
 if 500<p.au.length\/500<p.aC.length\/500<p.aM.length\/500<p.aK.length\/500<p.values.length then 3
 else if iJ ah.id p.au/\iJ ax.id p.aC/\iJ ah.id p.aM/\iJ ax.id p.aK/\p.values.Pairwise ltV then 0 else 12
structure ir(p:aF):Prop where
 rn:p.au.length<=1000000
 re:p.aC.length<=1000000
 an:p.aM.length<=1000000
 ae:p.aK.length<=1000000
 va:p.values.length<=1000000
 rv:∀n∈p.au,n.values.length<=1000
 av:∀n∈p.aM,n.values.length<=1000
structure Small(p:aF):Prop where
 rn:p.au.length<=500
 re:p.aC.length<=500
 an:p.aM.length<=500
 ae:p.aK.length<=500
 va:p.values.length<=500
theorem qW{p:aF} : sD p=0↔Small p/\Ordered p:=by
 unfold sD;constructor
 ·intro h;split at h
  ·cases h
  ·split at h
   ·rename_i h1 h2;exact⟨⟨by omega,by omega,by omega,by omega,by omega⟩,⟨h2.1,h2.2.1,h2.2.2.1,h2.2.2.2.1,h2.2.2.2.2⟩⟩
   ·cases h
 ·rintro⟨h1,h2⟩;have a1:=h1.rn;have a2:=h1.re;have a3:=h1.an;have a4:=h1.ae;have a5:=h1.va;rw[if_neg (by omega),if_pos ⟨h2.rn,h2.re,h2.an,h2.ae,h2.va⟩]
theorem mH{l:List ah}(hl:l.length<=1000000):ef l=some (decide (iJ ah.id l)):=by
 unfold ef;rw[bC (bB (by omega))];rw[xw (λa b:ah=>a.id<b.id) (λa b c h1 h2=>by omega) (some true) (some false) rfl λi hi h1 cH=>?_]
 ·by_cases h:l.Pairwise λa b:ah=>a.id<b.id
  ·rw[if_pos h,dB (show iJ ah.id l from h)]
  ·rw[if_neg h,gf (show ¬ iJ ah.id l from h)]
 ·have e:l[(((i:Nat):Int)-1).toNat]'(by omega)=l[i-1]'(by omega):=by congr 1;omega
  rw[ck hi,dA (by omega),gD (by omega) (by omega),e,aY,aY];by_cases h:l[i].id<=(l[i-1]'(by omega)).id
  ·rw[if_pos h,if_neg (by omega)]
  ·rw[if_neg h,if_pos (by omega)]
theorem mI{l:List ax}(hl:l.length<=1000000):ek l=some (decide (iJ ax.id l)):=by
 unfold ek;rw[bC (bB (by omega))];rw[xw (λa b:ax=>a.id<b.id) (λa b c h1 h2=>by omega) (some true) (some false) rfl λi hi h1 cH=>?_]
 ·by_cases h:l.Pairwise λa b:ax=>a.id<b.id
  ·rw[if_pos h,dB (show iJ ax.id l from h)]
  ·rw[if_neg h,gf (show ¬ iJ ax.id l from h)]
 ·have e:l[(((i:Nat):Int)-1).toNat]'(by omega)=l[i-1]'(by omega):=by congr 1;omega
  rw[ck hi,dA (by omega),gD (by omega) (by omega),e,aY,aY];by_cases h:l[i].id<=(l[i-1]'(by omega)).id
  ·rw[if_pos h,if_neg (by omega)]
  ·rw[if_neg h,if_pos (by omega)]
theorem aeS{l:List aO}(hl:l.length<=1000000):eV l=some (decide (l.Pairwise ltV)):=by
 unfold eV;rw[bC (bB (by omega))];rw[xw ltV azz (some true) (some false) rfl λi hi h1 cH=>?_]
 ·by_cases h:l.Pairwise ltV
  ·rw[if_pos h,dB h]
  ·rw[if_neg h,gf h]
 ·have e:l[(((i:Nat):Int)-1).toNat]'(by omega)=l[i-1]'(by omega):=by congr 1;omega
  rw[ck hi,dA (by omega),gD (by omega) (by omega),e,aY,aY,aY,aY];generalize l[i]=x;generalize l[i-1]'(by omega)=y;have hv:ltV y x↔(y.id<x.id\/y.id=x.id/\y.attr<x.attr):=Iff.rfl;by_cases h1:x.id<y.id
  ·rw[if_pos h1,if_neg λh=>by have:=hv.1 h;omega]
  rw[if_neg h1];by_cases h2:x.id=y.id
  ·rw[if_pos h2];by_cases h3:x.attr<=y.attr
   ·rw[if_pos h3,if_neg λh=>by have:=hv.1 h;omega]
   ·rw[if_neg h3,if_pos (hv.2 (by omega))]
  ·rw[if_neg h2,if_pos (hv.2 (by omega))]
theorem l_ordered{p:aF}(hp:ir p):ig p=some (sD p):=by
 unfold ig sD;rw[aY,aY,aY,aY,aY];by_cases h1:500<p.au.length
 ·rw[if_pos (by omega),if_pos (.inl h1)]
 rw[if_neg (by omega)];by_cases h2:500<p.aC.length
 ·rw[if_pos (by omega),if_pos (.inr (.inl h2))]
 rw[if_neg (by omega)];by_cases h3:500<p.aM.length
 ·rw[if_pos (by omega),if_pos (.inr (.inr (.inl h3)))]
 rw[if_neg (by omega)];by_cases h4:500<p.aK.length
 ·rw[if_pos (by omega),if_pos (.inr (.inr (.inr (.inl h4))))]
 rw[if_neg (by omega)];by_cases h5:500<p.values.length
 ·rw[if_pos (by omega),if_pos (.inr (.inr (.inr (.inr h5))))]
 rw[if_neg (by omega),if_neg (show ¬ (_\/_) by omega)];rw[aT (mH hp.rn),aY];by_cases g1:iJ ah.id p.au;rotate_left
 ·rw[if_neg g1,if_neg λh=>g1 h.1]
 rw[if_pos g1,aT (mI hp.re),aY];by_cases g2:iJ ax.id p.aC;rotate_left
 ·rw[if_neg g2,if_neg λh=>g2 h.2.1]
 rw[if_pos g2,aT (mH hp.an),aY];by_cases g3:iJ ah.id p.aM;rotate_left
 ·rw[if_neg g3,if_neg λh=>g3 h.2.2.1]
 rw[if_pos g3,aT (mI hp.ae),aY];by_cases g4:iJ ax.id p.aK;rotate_left
 ·rw[if_neg g4,if_neg λh=>g4 h.2.2.2.1]
 rw[if_pos g4,aT (aeS hp.va),aY];by_cases g5:p.values.Pairwise ltV
 ·rw[if_pos g5,if_pos ⟨g1,g2,g3,g4,g5⟩]
 ·rw[if_neg g5,if_neg λh=>g5 h.2.2.2.2]
theorem arh(a b:Int):iy a b=some (qL a b):=by
 unfold iy;rw[aT (show jj a=some false by unfold jj;simp),aT (show jj b=some false by unfold jj;simp),cond_false,cond_false,aY,aY];unfold qL;split
 ·rfl
 ·split<;>rfl
theorem aJp(a b:Int):qM [a,b]=some (if a=0 then b else a):=by
 unfold qM;rw[bC (bB (by simp))];show cr _ 2 0 () _=_;simp only[cr,getElem?_cons_zero,getElem?_cons_succ,mC,aY];by_cases h:a=0
 ·rw[if_pos h,if_pos h];by_cases h2:b=0
  ·rw[if_pos h2,h2]
  ·rw[if_neg h2]
 ·rw[if_neg h,if_neg h]
theorem acS{a b:Int} : ¬ (0<=qL a b)↔a<b:=by
 unfold qL;split
 ·omega
 ·split<;>omega
theorem azA(a b:ah):gU a b=some (qL a.id b.id):=by unfold gU;rw[aT (arh _ _)]
theorem azB(a b:ax):gV a b=some (qL a.id b.id):=by unfold gV;rw[aT (arh _ _)]
theorem au3(a b:aO):jd a b=some (if qL a.id b.id=0 then qL a.attr b.attr else qL a.id b.id):=by unfold jd;rw[aT (arh _ _),aT (arh _ _),aT (aJp _ _)]
theorem yK{l:List ah}(hl:l.length<=1000000):ep l (λa b=>gU a b)=some (decide (iJ ah.id l)):=by
 unfold ep;rw[bC (bB (by omega))];rw[xw (λa b:ah=>a.id<b.id) (λa b c h1 h2=>by omega) (some true) (some false) rfl λi hi h1 cH=>?_]
 ·by_cases h:l.Pairwise λa b:ah=>a.id<b.id
  ·rw[if_pos h,dB (show iJ ah.id l from h)]
  ·rw[if_neg h,gf (show ¬ iJ ah.id l from h)]
 ·have e:l[(((i:Nat):Int)-1).toNat]'(by omega)=l[i-1]'(by omega):=by congr 1;omega
  rw[dA (by omega),gD (by omega) (by omega),ck hi,e];rw[aT (azA _ _),aY,aY];by_cases h:(l[i-1]'(by omega)).id<l[i].id
  ·rw[if_pos h,if_neg (acS.2 h)]
  ·rw[if_neg h,if_pos (Decidable.of_not_not λh2=>h (acS.1 h2))]
theorem yL{l:List ax}(hl:l.length<=1000000):eu l (λa b=>gV a b)=some (decide (iJ ax.id l)):=by
 unfold eu;rw[bC (bB (by omega))];rw[xw (λa b:ax=>a.id<b.id) (λa b c h1 h2=>by omega) (some true) (some false) rfl λi hi h1 cH=>?_]
 ·by_cases h:l.Pairwise λa b:ax=>a.id<b.id
  ·rw[if_pos h,dB (show iJ ax.id l from h)]
  ·rw[if_neg h,gf (show ¬ iJ ax.id l from h)]
 ·have e:l[(((i:Nat):Int)-1).toNat]'(by omega)=l[i-1]'(by omega):=by congr 1;omega
  rw[dA (by omega),gD (by omega) (by omega),ck hi,e];rw[aT (azB _ _),aY,aY];by_cases h:(l[i-1]'(by omega)).id<l[i].id
  ·rw[if_pos h,if_neg (acS.2 h)]
  ·rw[if_neg h,if_pos (Decidable.of_not_not λh2=>h (acS.1 h2))]
theorem adO{l:List aO}(hl:l.length<=1000000):fq l (λa b=>jd a b)=some (decide (l.Pairwise ltV)):=by
 unfold fq;rw[bC (bB (by omega))];rw[xw ltV azz (some true) (some false) rfl λi hi h1 cH=>?_]
 ·by_cases h:l.Pairwise ltV
  ·rw[if_pos h,dB h]
  ·rw[if_neg h,gf h]
 ·have e:l[(((i:Nat):Int)-1).toNat]'(by omega)=l[i-1]'(by omega):=by congr 1;omega
  rw[dA (by omega),gD (by omega) (by omega),ck hi,e];rw[aT (au3 _ _),aY,aY];generalize l[i]=x;generalize l[i-1]'(by omega)=y;have hv:ltV y x↔(y.id<x.id\/y.id=x.id/\y.attr<x.attr):=Iff.rfl;have hc:(0<=if qL y.id x.id=0 then qL y.attr x.attr else qL y.id x.id)↔¬ ltV y x:=by
   rw[hv];unfold qL;by_cases h1:y.id<x.id
   ·rw[if_pos h1,if_neg (by omega)];omega
   ·rw[if_neg h1];by_cases h2:y.id > x.id
    ·rw[if_pos h2,if_neg (by omega)];omega
    ·rw[if_neg h2,if_pos rfl];split
     ·omega
     ·split<;>omega
  by_cases h:ltV y x
  ·rw[if_pos h,if_neg λh2=>hc.1 h2 h]
  ·rw[if_neg h,if_pos (hc.2 h)]
theorem azC{p:aF}(hp:ir p):mo p=some (sD p):=by
 unfold mo sD;rw[aY];by_cases h0:500<p.au.length\/500<p.aC.length\/500<p.aM.length\/500<p.aK.length\/500<p.values.length
 ·rw[if_pos (by omega),if_pos h0]
 rw[if_neg (by omega),if_neg h0];rw[aT (yK hp.rn),aY];by_cases g1:iJ ah.id p.au;rotate_left
 ·rw[if_neg g1,if_neg λh=>g1 h.1]
 rw[if_pos g1,aT (yK hp.an),aY];by_cases g3:iJ ah.id p.aM;rotate_left
 ·rw[if_neg g3,if_neg λh=>g3 h.2.2.1]
 rw[if_pos g3,aT (yL hp.re),aY];by_cases g2:iJ ax.id p.aC;rotate_left
 ·rw[if_neg g2,if_neg λh=>g2 h.2.1]
 rw[if_pos g2,aT (yL hp.ae),aY];by_cases g4:iJ ax.id p.aK;rotate_left
 ·rw[if_neg g4,if_neg λh=>g4 h.2.2.2.1]
 rw[if_pos g4,aT (adO hp.va),aY];by_cases g5:p.values.Pairwise ltV
 ·rw[if_pos g5,if_pos ⟨g1,g2,g3,g4,g5⟩]
 ·rw[if_neg g5,if_neg λh=>g5 h.2.2.2.2]
theorem aac{α:Type}{q:α->α->Bool}{l:List α}{n:α} : ((xq q l n).1).Sublist l:=by
 unfold xq;split
 ·exact Sublist.refl _
 ·rw[<-eraseIdx_eq_take_drop_succ];exact eraseIdx_sublist ..
theorem agw(x:List ah):∀ (r y:List ax),ow (λ(x:List ah) y e=>((x,(xq ql y e).1),(xq ql y e).2)) x y r=((x,(iO ql y r).1),(iO ql y r).2)
 | [],y=>rfl
 |e :: r,y=>by
  rw[ow,iO];simp only;split
  ·exact agw x r _
  ·rename_i h;simp only[not_eq_true] at h;rw[h]
theorem agx(y:List ax):∀ (r x:List ah),ow (λx (y:List ax) e=>(((xq dS x e).1,y),(xq dS x e).2)) x y r=(((iO dS x r).1,y),(iO dS x r).2)
 | [],x=>rfl
 |e :: r,x=>by
  rw[ow,iO];simp only;split
  ·exact agx y r _
  ·rename_i h;simp only[not_eq_true] at h;rw[h]
theorem ait(y:List ax):∀ (r:List aO) (x:List ah),ow (λx (y:List ax) v=>((x.map (mF v),y),x.any (jy v))) x y r=(((eB x r).1,y),(eB x r).2)
 | [],x=>rfl
 |e :: r,x=>by
  rw[ow,eB];simp only;split
  ·exact ait y r _
  ·rename_i h;simp only[not_eq_true] at h;rw[h]
def azD(s:aQ)(p:aF):aQ×Bool :=
 if (iO ql s.ak p.aC).2=true then
  if (iO dS s.nodes p.au).2=true then (⟨(eB (iO dS s.nodes p.au).1 p.values).1,(iO ql s.ak p.aC).1⟩,(eB (iO dS s.nodes p.au).1 p.values).2)
  else (⟨(iO dS s.nodes p.au).1,(iO ql s.ak p.aC).1⟩,false)
 else (⟨s.nodes,(iO ql s.ak p.aC).1⟩,false)
def Rows(l:List ah):Prop:=∀n∈l,n.values.length<=1000
theorem adP{l:List ah}(h:Rows l)(v:aO):Rows (l.map (mF v)):=λn hn=>by obtain⟨m,hm,rfl⟩:=mem_map.1 hn;rw[aaa];exact h m hm
def wE{α O:Type}(l:List α)(f:aQ->α->Option (aQ×Bool))(s:Bool×Int×List ah×List ax)(cH brk:Bool×Int×List ah×List ax->Option O):Option O :=
  cond (decide (s.2.1<((l.length:Nat):Int))) (
   cond s.1 (
    thn (nO l s.2.1) λe =>
    thn (f (⟨s.2.2.1,s.2.2.2⟩:aQ) e) λr =>
    cH (r.2,(i64.wrap (s.2.1+1)),r.1.nodes,r.1.ak)) <|
   brk (s.1,s.2.1,s.2.2.1,s.2.2.2)) <|
  brk (s.1,s.2.1,s.2.2.1,s.2.2.2)
theorem aad{α O:Type}{K:Bool×Int×List ah×List ax->Option O}(l:List α)(f:aQ->α->Option (aQ×Bool))(step:List ah->List ax->α->(List ah×List ax)×Bool)(inv:List ah->List ax->Prop)(hl:l.length<=1000000)
  (h:∀x y e,inv x y->f ⟨x,y⟩ e=some (⟨(step x y e).1.1,(step x y e).1.2⟩,(step x y e).2)/\inv (step x y e).1.1 (step x y e).1.2) (b:Bool) (x:List ah) (y:List ax) (hv:inv x y) :
  ∃j,iter (wE l f) fuel (b,0,x,y) K=K (if b=true then (ow step x y l).2 else false,j,if b=true then (ow step x y l).1.1 else x,if b=true then (ow step x y l).1.2 else y)/\(b=true->inv (ow step x y l).1.1 (ow step x y l).1.2):=by
 refine azw l step inv hl (λi x y cH=>?_) (λx y cH=>?_) (λi hi x y cH hxy=>?_) b x y hv
 ·unfold wE;simp only;cases decide (i<((l.length:Nat):Int))<;>rfl
 ·unfold wE;simp
 ·obtain⟨h1,h2⟩:=h x y l[i] hxy;unfold wE;simp only;rw[dB (by omega),cond_true,cond_true,gD (by omega) (by simpa using hi),dA (by omega)];exact⟨by rw[show l[((i:Nat):Int).toNat]'(by simpa using hi)=l[i] from rfl,aT h1];rfl,h2⟩
theorem aDQ(s:aQ)(p:aF)(hn:s.nodes.length<=1000000)(he:s.ak.length<=1000000)(hv:Rows s.nodes)(hp:ir p):fV s p=some (azD s p):=by
 unfold fV;show iter (wE p.aC cF) fuel (true,0,s.nodes,s.ak) (λs1=>iter (wE p.au cm) fuel (s1.1,0,s1.2.2.1,s1.2.2.2) λs2=>iter (wE p.values cQ) fuel (s2.1,0,s2.2.2.1,s2.2.2.2) λs3=>some ((⟨s3.2.2.1,s3.2.2.2⟩:aQ),s3.1))=_;obtain⟨j1,e1,_⟩:=aad (K:=λs1=>iter (wE p.au cm) fuel (s1.1,0,s1.2.2.1,s1.2.2.2) λs2=>iter (wE p.values cQ) fuel (s2.1,0,s2.2.2.1,s2.2.2.2) λs3=>some ((⟨s3.2.2.1,s3.2.2.2⟩:aQ),s3.1)) p.aC cF (λ(x:List ah) y e=>((x,(xq ql y e).1),(xq ql y e).2)) (λx y=>y.length<=1000000) hp.re
  (λx y e hy=>⟨air ⟨x,y⟩ e hy,le_trans (aac (q:=ql)).length_le hy⟩) true s.nodes s.ak he
 rw[e1];simp only[if_true,agw];obtain⟨j2,e2,i2⟩:=aad (K:=λs2=>iter (wE p.values cQ) fuel (s2.1,0,s2.2.2.1,s2.2.2.2) λs3=>some ((⟨s3.2.2.1,s3.2.2.2⟩:aQ),s3.1)) p.au cm (λx (y:List ax) e=>(((xq dS x e).1,y),(xq dS x e).2)) (λx y=>x.length<=1000000/\Rows x) hp.rn
  (λx y e hy=>⟨ais ⟨x,y⟩ e hy.1 λn hn=>by have:=hy.2 n hn;omega,le_trans (aac (q:=dS)).length_le hy.1,λn hn=>hy.2 n (aac.mem hn)⟩) (iO ql s.ak p.aC).2 s.nodes (iO ql s.ak p.aC).1 ⟨hn,hv⟩
 rw[e2];simp only[agx] at i2 ⊢;obtain⟨j3,e3,_⟩:=aad (K:=λs3=>some ((⟨s3.2.2.1,s3.2.2.2⟩:aQ),s3.1)) p.values cQ (λx (y:List ax) v=>((x.map (mF v),y),x.any (jy v))) (λx y=>x.length<=1000000/\Rows x) hp.va
  (λx y v hy=>⟨aFy ⟨x,y⟩ v hy.1 λn hn=>by have:=hy.2 n hn;omega,by simpa using hy.1,adP hy.2 _⟩) (if (iO ql s.ak p.aC).2=true then (iO dS s.nodes p.au).2 else false) (if (iO ql s.ak p.aC).2=true then (iO dS s.nodes p.au).1 else s.nodes) (if (iO ql s.ak p.aC).2=true then (iO ql s.ak p.aC).1 else (iO ql s.ak p.aC).1) (by
  split
  ·rename_i h;exact i2 h
  ·exact⟨hn,hv⟩)
 rw[e3];simp only[ait];unfold azD;cases h1:(iO ql s.ak p.aC).2 with
 |false=>simp
 |true =>
  simp only[if_true];cases h2:(iO dS s.nodes p.au).2 with
  |false=>simp
  |true=>simp
theorem aCL(s:aQ)(id:Int)(hn:s.nodes.length<=1000000)(he:s.ak.length<=1000000):eT s id=some (j6 s.nodes s.ak id):=by
 unfold eT j6;rw[bC (bB (by omega))];rw[oL s.nodes (λn=>!decide (n.id=id)) (λ_=>some true) (λi hi cH=>by rw[ck hi,iX]),pT];by_cases h1:(s.nodes.all λn=>!decide (n.id=id))=true
 ·rw[if_pos h1,bC (bB (by omega))];rw[oL s.ak (λn=>!decide (n.id=id)) (λ_=>some true) (λi hi cH=>by rw[ck hi,iX]),pT];rw[all_eq_not_any_not] at h1 ⊢;simp only[not_not] at h1 ⊢;rw[show (s.nodes.any λn=>decide (n.id=id))=false by simpa using h1,Bool.false_or];cases s.ak.any λn=>decide (n.id=id)<;>rfl
 ·rw[if_neg h1];rw[all_eq_not_any_not] at h1;simp only[not_not] at h1;rw[show (s.nodes.any λn=>decide (n.id=id))=true by simpa using h1];rfl
def azE(s:aQ)(p:aF):aQ×Bool:=if gm s.nodes s.ak p=true then (s,false) else (⟨kF (s.nodes++p.aM),mR (s.ak++p.aK)⟩,true)
theorem aDR(s:aQ)(p:aF)(hn:s.nodes.length<=1000000)(he:s.ak.length<=1000000)(aN:iJ ah.id s.nodes)(aE:iJ ax.id s.ak)(hp:ir p)(ho:Ordered p):fW s p=some (azE s p):=by
 have hpn:=hp.an;have hpe:=hp.ae;unfold fW azE;rw[bC (bB (by omega))];rw[oL p.aM (λn=>!j6 s.nodes s.ak n.id) (λ_=>some (s,false)) (λi hi cH=>by rw[ck hi,aT (aCL s _ hn he),iX]),pT];by_cases h1:(p.aM.all λn=>!j6 s.nodes s.ak n.id)=true;rotate_left
 ·rw[if_neg h1];rw[all_eq_not_any_not] at h1;simp only[not_not] at h1;have e:gm s.nodes s.ak p=true:=by unfold gm;rw[show (p.aM.any λn=>j6 s.nodes s.ak n.id)=true by simpa using h1];rfl
  rw[if_pos e]
 rw[if_pos h1,bC (bB (by omega))];rw[all_eq_not_any_not] at h1;simp only[not_not] at h1;have ur:(p.aM.any λn=>j6 s.nodes s.ak n.id)=false:=by simpa using h1
 rw[oL p.aK (λn=>!j6 s.nodes s.ak n.id) (λ_=>some (s,false)) (λi hi cH=>by rw[ck hi,aT (aCL s _ hn he),iX]),pT];by_cases h2:(p.aK.all λn=>!j6 s.nodes s.ak n.id)=true;rotate_left
 ·rw[if_neg h2];rw[all_eq_not_any_not] at h2;simp only[not_not] at h2;have e:gm s.nodes s.ak p=true:=by unfold gm;rw[show (p.aK.any λn=>j6 s.nodes s.ak n.id)=true by simpa using h2,Bool.or_true]
  rw[if_pos e]
 rw[if_pos h2];rw[all_eq_not_any_not] at h2;simp only[not_not] at h2;have h2':(p.aK.any λn=>j6 s.nodes s.ak n.id)=false:=by simpa using h2
 have ht:gm s.nodes s.ak p=false:=by unfold gm;rw[ur,h2'];rfl
 rw[if_neg (by rw[ht];simp)];obtain⟨f1,f2⟩:=abC ht;have dN:∀a∈s.nodes,∀b∈p.aM,a.id≠b.id:=λa ha b hb=>(f1 b hb).1 a ha
 have dE:∀a∈s.ak,∀b∈p.aK,a.id≠b.id:=λa ha b hb=>(f2 b hb).2 a ha
 refine Ok.eq ?_;refine aeq ah.id s.nodes p.aM aN ho.an dN hn hp.an λout azx hmem _ _=>?_
 have e1:out=kF (s.nodes++p.aM):=azx.ext (adM (mD aN ho.an dN)) λx=>by rw[hmem,nI,mem_append]
 refine aeq ax.id s.ak p.aK aE ho.ae dE he hp.ae λaJq aFz aFA _ _=>?_
 have e2:aJq=mR (s.ak++p.aK):=aFz.ext (adN (mD aE ho.ae dE)) λx=>by rw[aFA,uE,mem_append]
 subst e1 e2;exact Ok.mk rfl
def cu(ids:List Int)(n:Int):Int:=z7 (λy=>decide (y=n)) ids
def jL(ids:List Int)(e:ax):Edge:=⟨e.type,cu ids e.src,cu ids e.dst⟩
def c9(N:List ah)(E:List ax)(next:Int):az:=⟨⟨⟨N.map ah.type,E.map (jL (N.map ah.id))⟩,N.map ah.values⟩,N.map ah.id,E.map ax.id,next⟩
theorem abD:∀ (l:List ah) (a:List Int×List (List Int)×List Int),l.foldl (λ(s:List Int×List (List Int)×List Int) n=>(s.1++[n.type],s.2.1++[n.values],s.2.2++[n.id])) a=(a.1++l.map ah.type,a.2.1++l.map ah.values,a.2.2++l.map ah.id)
 | [],a=>by simp
 |n :: l,a=>by rw[foldl_cons,abD l];simp
theorem agy(ids:List Int):∀ (l:List ax) (a:List Edge×List Int),l.foldl (λ(s:List Edge×List Int) e=>(s.1++[jL ids e],s.2++[e.id])) a=(a.1++l.map (jL ids),a.2++l.map ax.id)
 | [],a=>by simp
 |n :: l,a=>by rw[foldl_cons,agy ids l];simp
theorem tF(s:aQ)(next:Int)(hn:s.nodes.length<=1000000)(he:s.ak.length<=1000000)(hv:Rows s.nodes):dc s next=some (c9 s.nodes s.ak next):=by
 unfold dc;rw[bC (bB (by omega))];rw[(sk s.nodes (λ(s:List Int×List (List Int)×List Int) n=>(s.1++[n.type],s.2.1++[n.values],s.2.2++[n.id])) (λi s=>s.1.length=i/\s.2.1.length=i/\s.2.2.length=i) ⟨rfl,rfl,rfl⟩ ?_).1]
 ·rw[abD];simp only[nil_append];rw[bC (bB (by omega))];rw[(sk s.ak (λ(s1:List Edge×List Int) e=>(s1.1++[jL (s.nodes.map ah.id) e],s1.2++[e.id])) (λi s=>s.1.length=i/\s.2.length=i) ⟨rfl,rfl⟩ ?_).1]
  ·rw[agy];rfl
  ·rintro i hi ⟨a,b⟩ ⟨h1,h2⟩;simp only at h1 h2;refine⟨λcH=>?_,by simp[h1],by simp[h2]⟩;rw[ck hi,bC (by simp only;omega),aT (dm (by simpa using hn) _),aT (dm (by simpa using hn) _),bC (by simp only;omega)];rfl
 ·rintro i hi ⟨a,b,c⟩ ⟨h1,h2,h3⟩;simp only at h1 h2 h3;refine⟨λcH=>?_,by simp[h1],by simp[h2],by simp[h3]⟩;have:=hv _ (nS hi);rw[ck hi,bC (by simp only;omega),bC (by simp only;omega),bC (by omega),bC (by simp only;omega)]
def aae(ids:List Int)(e:ax):Bool:=decide (0<=cu ids e.src)&&decide (0<=cu ids e.dst)
theorem amV{l:List Int}(h:l.length<=1000000):p5 l=some l:=qJ h
theorem acT(N:List ah)(E:List ax)(next:Int)(hn:N.length<=1000000)(he:E.length<=1000000)(hv:Rows N):lp N E next=some (if E.all (aae (N.map ah.id))=true then (c9 N E next,true) else (lu,false)):=by
 unfold lp;rw[bC (bB (by omega))];rw[(sk N (λ(s:List Int×List (List Int)×List Int) n=>(s.1++[n.type],s.2.1++[n.values],s.2.2++[n.id])) (λi s=>s.1.length=i/\s.2.1.length=i/\s.2.2.length=i) ⟨rfl,rfl,rfl⟩ ?_).1]
 ·rw[abD];simp only[nil_append];rw[bC (bB (by omega))];refine Ok.eq ?_;refine sB (λj s=>j<=E.length/\s=((E.take j).map (jL (N.map ah.id)),(E.take j).map ax.id)/\(E.take j).all (aae (N.map ah.id))=true) (zero_le _) ⟨zero_le _,by simp,by simp⟩ ?_ ?_
  ·rintro j s cH _ hj ⟨_,rfl,ha⟩ hnx;refine tK hj (ok_eq (nq (by simpa using hn) _) (ok_eq (nq (by simpa using hn) _) ?_));have hno:aae (N.map ah.id) E[j]=false->(if E.all (aae (N.map ah.id))=true then (c9 N E next,true) else (lu,false))=(lu,false):=λh=>by rw[if_neg];intro h2;rw[all_eq_true.1 h2 _ (nS hj)] at h;cases h
   refine cW (λhc=>?_) λhc=>?_
   ·refine Ok.mk ?_;rw[hno]
    ·rfl
    ·unfold aae cu;have:=ct hc;rw[gf (by omega),Bool.false_and]
   refine cW (λzk=>?_) λzk=>?_
   ·refine Ok.mk ?_;rw[hno]
    ·rfl
    ·unfold aae cu;have:=ct zk;rw[gf (p:=0<=z7 (λy=>decide (y=E[j].dst)) (N.map ah.id)) (by omega),Bool.and_false]
   have c1:=dV hc;have c2:=dV zk;have he2:aae (N.map ah.id) E[j]=true:=by unfold aae;rw[and_eq_true];exact⟨dB (not_lt.1 c1),dB (not_lt.1 c2)⟩
   refine cC (by simp;omega) (cC (by simp;omega) (hnx _ ⟨hj,?_,?_⟩))
   ·rw[take_add_one,getElem?_eq_getElem hj,toList_some,map_append,map_append];rfl
   ·rw[take_add_one,getElem?_eq_getElem hj,toList_some,all_append,ha];simpa using he2
  ·rintro s ⟨_,rfl,ha⟩;rw[take_length] at ha ⊢;rw[if_pos ha];exact Ok.mk rfl
 ·rintro i hi ⟨a,b,c⟩ ⟨h1,h2,h3⟩;simp only at h1 h2 h3;refine⟨λcH=>?_,by simp[h1],by simp[h2],by simp[h3]⟩;have:=hv _ (nS hi);rw[ck hi,bC (by simp only;omega),bC (by simp only;omega),aT (amV (by omega)),bC (by simp only;omega)]
theorem agz{t:Types}{N:List ah}{E:List ax}{next:Int}(h:fD t (c9 N E next)):E.all (aae (N.map ah.id))=true:=by
 rw[all_eq_true];intro e he;obtain⟨j,hj,rfl⟩:=getElem_of_mem he;have:=h.host.graph.ia j (by simpa[c9] using hj);simp only[c9] at this;have hg:(E.map (jL (N.map ah.id))).getD j default=jL (N.map ah.id) E[j]:=by simp[hj]
 rw[hg] at this;unfold aae;rw[and_eq_true];exact⟨dB this.2.1.1,dB this.2.2.1⟩
def adQ(a:az)(p:aF):Option (List ah×List ax) :=
 if jK dS (bD a) p.au=true/\jK ql (dI a) p.aC=true then
  if (eB (less dS (bD a) p.au) p.values).2=true then
   if gm (eB (less dS (bD a) p.au) p.values).1 (less ql (dI a) p.aC) p=true then none
   else some (kF ((eB (less dS (bD a) p.au) p.values).1++p.aM),mR (less ql (dI a) p.aC++p.aK))
  else none
 else none
def vT(t:Types)(a:az)(p:aF):az×Int :=
 if sD p≠0 then (lu,sD p) else if p.next.x0≠a.next then (lu,11) else match adQ a p with
 |none=>(lu,11)
 |some s=>if nr t (c9 s.1 s.2 p.next.x1)≠0 then (lu,1) else (c9 s.1 s.2 p.next.x1,0)
def nt(t:Types)(a:az)(p:aF):az×Int:=if nr t a≠0 then (lu,nr t a) else vT t a p
section
variable{t:Types}{a:az}{p:aF}
theorem jm(ha:fD t a)(hb:tT a.host):Rows (bD a):=λn hn=>by
 obtain⟨i,hi,rfl⟩:=mem_map.1 hn;have hi:i<a.nodes.length:=by simpa using hi
 refine hb.row _ ?_;have:i<a.host.values.length:=by rw[ha.host.agr,<-ha.uc];exact hi
 simp[cK,this]
theorem agA{α:Type}{q:α->α->Bool}{l r:List α} : (less q l r).length<=l.length:=length_filter_le _ _
theorem aer:∀ (r:List aO) (l:List ah),Rows l->Rows (eB l r).1
 | [],l,h=>h
 |v :: r,l,h=>by
  rw[eB];split
  ·exact aer r _ (adP h v)
  ·exact adP h v
theorem au4{N:List ah}{E:List ax}{next:Int}(h1:N.length<=1000)(h2:E.length<=1000)(h3:Rows N):kN (c9 N E next) :=
 ⟨⟨⟨by simpa[c9] using h1,by simpa[c9] using h2⟩,by simpa[c9] using h1,λl hl=>by
  obtain⟨n,hn,rfl⟩:=mem_map.1 hl;exact h3 n hn⟩,by simp[c9];omega,by simp[c9];omega⟩
structure Mid(a:az)(p:aF):Prop where
 n:(eB (less dS (bD a) p.au) p.values).1.length<=40
 e:(less ql (dI a) p.aC).length<=80
 rows:Rows (eB (less dS (bD a) p.au) p.values).1
 xu:iJ ah.id (eB (less dS (bD a) p.au) p.values).1
 agu:iJ ax.id (less ql (dI a) p.aC)
theorem aqh(ha:fD t a)(hb:tT a.host):Mid a p:=by have h1:=ha.n40;have h2:=ha.e80;have l1:=agA (q:=dS) (l:=bD a) (r:=p.au);have l2:=agA (q:=ql) (l:=dI a) (r:=p.aC);rw[lH] at l1;rw[kG] at l2;exact⟨by rw[(qq _ _).len];omega,by omega,aer _ _ λn hn=>jm ha hb n (mem_filter.1 hn).1,yf _ _ (vh ha.xu),vh ha.agu⟩
theorem Small.add(hs:Small p)(hm:Mid a p)(hp:ir p)(next:Int):kN (c9 (kF ((eB (less dS (bD a) p.au) p.values).1++p.aM)) (mR (less ql (dI a) p.aC++p.aK)) next):=by
 have h1:=hm.n;have h2:=hm.e;have h3:=hs.an;have h4:=hs.ae;refine au4 (by rw[au1,length_append];omega) (by rw[au2,length_append];omega) λn hn=>?_
 rcases mem_append.1 (nI.1 hn) with h|h
 ·exact hm.rows n h
 ·exact hp.av n h
theorem agB(ho:Ordered p):p.au.Pairwise λa b=>a.id≠b.id:=Pairwise.imp (λh=>by omega) ho.rn
theorem agC(ho:Ordered p):p.aC.Pairwise λa b=>a.id≠b.id:=Pairwise.imp (λh=>by omega) ho.re
theorem au5(ht:fm t)(ha:fD t a)(hb:tT a.host)(hp:ir p):fL t a p=some (vT t a p):=by
 have h1:=ha.n40;have h2:=ha.e80;unfold fL vT;rw[aT (l_ordered hp),aY];by_cases hsh:sD p=0;rotate_left
 ·rw[if_neg hsh,if_pos hsh];rfl
 obtain⟨hs,ho⟩:=qW.1 hsh;rw[if_pos hsh,if_neg (λh=>h hsh),aY];by_cases hx:p.next.x0=a.next
 rotate_left
 ·rw[if_neg hx,if_pos hx];rfl
 rw[if_pos hx,if_neg (λh=>h hx),aT (show eR ⟨a.host,a.nodes,a.ak,a.next⟩=_ from agv ha λl hl=>by have:=hb.row l hl;omega)];rw[aT (aDQ ⟨bD a,dI a⟩ p (by rw[lH];omega) (by rw[kG];omega) (jm ha hb) hp)];obtain⟨c1,c2⟩:=z8 (q:=dS) (λ_ _=>oM) p.au (bD a) ha.xu (agB ho);obtain⟨d1,d2⟩:=z8 (q:=ql) (λ_ _=>aay) p.aC (dI a) ha.agu (agC ho);unfold azD adQ;simp only[c1,d1] at c2 d2 ⊢;by_cases g1:jK ql (dI a) p.aC=true;rotate_left
 ·rw[if_neg g1,cond_false,if_neg λh=>g1 h.2];rfl
 by_cases g2:jK dS (bD a) p.au=true;rotate_left
 ·rw[if_pos g1,if_neg g2,cond_false,if_neg λh=>g2 h.1];rfl
 rw[if_pos g1,if_pos g2,if_pos ⟨g2,g1⟩,c2 g2,d2 g1];have hm:=aqh (p:=p) ha hb;have m1:=hm.n;have m2:=hm.e;by_cases g3:(eB (less dS (bD a) p.au) p.values).2=true;rotate_left
 ·rw[if_neg g3];simp only[not_eq_true] at g3;simp only[g3,cond_false];try rfl
 rw[if_pos g3];simp only[g3,cond_true];rw[aT (aDR _ p (by simp only;omega) (by simp only;omega) hm.xu hm.agu hp ho)];unfold azE;simp only;by_cases g4:gm (eB (less dS (bD a) p.au) p.values).1 (less ql (dI a) p.aC) p=true
 ·rw[if_pos g4,if_pos g4];rfl
 rw[if_neg g4,if_neg g4];simp only[cond_true];have hbt:=hs.add hm hp p.next.x1
 have e1:=hbt.nodes;have e2:=hbt.ak;have e3:=hbt.host.row;rw[aT (tF _ _ (by simpa[c9] using e1) (by simpa[c9] using e2) λn hn=>e3 _ (mem_map_of_mem hn))];rw[aT (show b9 ⟨t.nodes,t.ak⟩ _=_ from mG ht hbt),aY];by_cases g5:nr t (c9 (kF ((eB (less dS (bD a) p.au) p.values).1++p.aM)) (mR (less ql (dI a) p.aC++p.aK)) p.next.x1)=0
 ·rw[if_pos g5,if_neg (λh=>h g5)]
 ·rw[if_neg g5,if_pos g5];rfl
theorem xx(ht:fm t)(hb:kN a)(hp:ir p):bX t a p=some (nt t a p):=by
 unfold bX nt;rw[aT (show b9 ⟨t.nodes,t.ak⟩ ⟨a.host,a.nodes,a.ak,a.next⟩=_ from mG ht hb),aY];by_cases h:nr t a=0
 ·rw[if_pos h,if_neg (λh2=>h2 h),aT (show fL ⟨t.nodes,t.ak⟩ ⟨a.host,a.nodes,a.ak,a.next⟩ p=_ from au5 ht (dU.1 h) hb.host hp)]
 ·rw[if_neg h,if_pos h];rfl
theorem azF(ht:fm t)(ha:fD t a)(hb:tT a.host)(hp:ir p):kA t a p=some (vT t a p):=by
 have h1:=ha.n40;have h2:=ha.e80;unfold kA vT;rw[aT (azC hp),iX,aY];by_cases hsh:sD p=0;rotate_left
 ·rw[if_neg hsh,if_pos hsh]
 obtain⟨hs,ho⟩:=qW.1 hsh;have s1:=hs.rn;have s2:=hs.re;have s3:=hs.an;have s4:=hs.ae;have s5:=hs.va;rw[if_pos hsh,if_neg (λh=>h hsh)];rw[aT (qJ ⟨by rw[ha.uc];exact le_refl _,by rw[ha.host.agr,ha.uc];exact le_refl _,by omega,λl hl=>by have:=hb.row l hl;omega,by omega,by omega,by omega,by omega,by omega,λn hn=>by have:=hp.rv n hn;omega⟩)];rw[aT (aeR ha),aT (qJ (by rw[kG];omega)),iX,aY];by_cases hx:p.next.x0=a.next
 rotate_left
 ·rw[if_neg hx,if_pos hx]
 rw[if_pos hx,if_neg (λh=>h hx)];obtain⟨c1,c2⟩:=agm (q:=dS) (λ_ _=>oM) p.au (bD a) 0 ha.xu (agB ho);obtain⟨d1,d2⟩:=agm (q:=ql) (λ_ _=>aay) p.aC (dI a) 0 ha.agu (agC ho);rw[agn,ago,c1,d1,iX];unfold adQ;by_cases g1:jK dS (bD a) p.au=true/\jK ql (dI a) p.aC=true;rotate_left
 ·rw[if_neg g1];have:(jK dS (bD a) p.au&&jK ql (dI a) p.aC)=false:=by rw[Bool.eq_false_iff];intro h;exact g1 (by rw[and_eq_true] at h;exact h)
  rw[this,cond_false]
 rw[if_pos g1,g1.1,g1.2,Bool.and_true,cond_true,c2 (c1.trans g1.1),d2 (d1.trans g1.2)];have hm:=aqh (p:=p) ha hb;have m1:=hm.n;have m2:=hm.e;have l1:=agA (q:=dS) (l:=bD a) (r:=p.au);rw[lH] at l1;rw[aT (qJ ⟨by omega,by omega⟩)];obtain⟨v1,v2⟩:=agp p.values (less dS (bD a) p.au) (vh ha.xu);rw[v1,iX];by_cases g3:(eB (less dS (bD a) p.au) p.values).2=true;rotate_left
 ·rw[if_neg g3];simp only[not_eq_true] at g3;rw[g3,cond_false]
 rw[if_pos g3,g3,cond_true,v2 (v1.trans g3)];rw[aT (qJ ⟨by omega,λhf=>⟨amU (mD hm.xu ho.an λa ha b hb=>((abC hf).1 b hb).1 a ha),amU (mD hm.agu ho.ae λa ha b hb=>((abC hf).2 b hb).2 a ha)⟩⟩)];by_cases g4:gm (eB (less dS (bD a) p.au) p.values).1 (less ql (dI a) p.aC) p=true
 ·rw[if_pos g4,g4,cond_true]
 rw[if_neg g4];simp only[not_eq_true] at g4;rw[g4,cond_false];have hbt:=hs.add hm hp p.next.x1
 have e1:=hbt.nodes;have e2:=hbt.ak;have e3:=hbt.host.row;rw[aT (acT _ _ _ (by simpa[c9] using e1) (by simpa[c9] using e2) λn hn=>e3 _ (mem_map_of_mem hn)),iX];simp only;by_cases g5:nr t (c9 (kF ((eB (less dS (bD a) p.au) p.values).1++p.aM)) (mR (less ql (dI a) p.aC++p.aK)) p.next.x1)=0
 ·rw[if_pos (agz (dU.1 g5)),if_neg (λh=>h g5),cond_true,aT (tE ht hbt),iX,aY,if_pos g5]
 ·rw[if_pos (c:=_≠_) g5];split
  ·rw[cond_true,aT (tE ht hbt),iX,aY,if_neg g5]
  ·rw[cond_false]
theorem acU(ht:fm t)(hb:kN a)(hp:ir p):ff t a p=some (nt t a p):=by
 unfold ff nt;rw[aT (show jZ ⟨t.nodes,t.ak⟩ ⟨a.host,a.nodes,a.ak,a.next⟩=_ from tE ht hb),aY];by_cases h:nr t a=0
 ·rw[if_pos h,if_neg (λh2=>h2 h),aT (show kA ⟨t.nodes,t.ak⟩ ⟨a.host,a.nodes,a.ak,a.next⟩ p=_ from azF ht (dU.1 h) hb.host hp)]
 ·rw[if_neg h,if_pos h];rfl
end
def iZ(a:az)(p:aF):List ah:=(eB (less dS (bD a) p.au) p.values).1
def kO(a:az)(p:aF):List ax:=less ql (dI a) p.aC
def bu(a:az)(p:aF):az:=c9 (kF (iZ a p++p.aM)) (mR (kO a p++p.aK)) p.next.x1
structure b5(t:Types)(a:az)(p:aF):Prop where
 tk:fD t a
 small:Small p
 ord:Ordered p
 next:p.next.x0=a.next
 rn:jK dS (bD a) p.au=true
 re:jK ql (dI a) p.aC=true
 va:(eB (less dS (bD a) p.au) p.values).2=true
 free:gm (iZ a p) (kO a p) p=false
 ok:fD t (bu a p)
theorem qu{t:Types}{a:az}{p:aF}(h:b5 t a p):nt t a p=(bu a p,0):=by unfold nt vT adQ;rw[if_neg (λh2=>h2 (dU.2 h.tk)),if_neg (λh2=>h2 (qW.2 ⟨h.small,h.ord⟩)),if_neg (λh2=>h2 h.next),if_pos ⟨h.rn,h.re⟩,if_pos h.va,if_neg (λh2=>by have h3:=h.free;unfold iZ kO at h3;rw[h3] at h2;cases h2)];exact if_neg (λh2=>h2 (dU.2 h.ok))
theorem nJ{t:Types}{a:az}{p:aF} : (nt t a p).2=0↔b5 t a p:=by
 constructor
 ·intro h;unfold nt at h;split at h
  ·rename_i h1;exact absurd h h1
  rename_i h1;unfold vT at h;split at h
  ·rename_i h2;exact absurd h h2
  rename_i h2;split at h
  ·cases h
  rename_i h3;obtain⟨s1,s2⟩:=qW.1 (Decidable.of_not_not h2);split at h
  ·cases h
  rename_i s hs;split at h
  ·cases h
  rename_i h4;unfold adQ at hs;split at hs;rotate_left
  ·cases hs
  rename_i h5;split at hs;rotate_left
  ·cases hs
  rename_i h6;split at hs
  ·cases hs
  rename_i h7;cases hs;exact⟨dU.1 (Decidable.of_not_not h1),s1,s2,Decidable.of_not_not h3,h5.1,h5.2,h6,Bool.eq_false_iff.2 h7,dU.1 (Decidable.of_not_not h4)⟩
 ·intro h;rw[qu h]
theorem adR{α:Type}{q:α->α->Bool}(hq:∀a b,q a b=true↔a=b){l r:List α}(h:jK q l r=true):∀x∈r,x∈l:=λx hx=>by obtain⟨m,hm,e⟩:=any_eq_true.1 (all_eq_true.1 h x hx);rw[<- (hq _ _).1 e];exact hm
theorem ari:∀ (r:List aO) (l:List ah),(eB l r).2=true->∀v∈r,∃n∈l,n.id=v.id/\0<=v.attr/\v.attr<n.values.length
 | [],l,_,v,hv=>by cases hv
 |w :: r,l,h,v,hv=>by
  rw[eB] at h;split at h;rotate_left
  ·cases h
  rename_i ha;rcases mem_cons.1 hv with e|hv
  ·subst e;obtain⟨n,hn,hf⟩:=any_eq_true.1 ha;unfold jy okV at hf;simp only[and_eq_true,not_eq_true',decide_eq_true_eq,decide_eq_false_iff_not] at hf;exact⟨n,hn,hf.1,by omega,by omega⟩
  ·obtain⟨n,hn,h1,h2,h3⟩:=ari r _ h v hv;obtain⟨m,hm,rfl⟩:=mem_map.1 hn;rw[oN] at h1;rw[aaa] at h3;exact⟨m,hm,h1,h2,h3⟩
section
variable{t:Types}{a:az}{p q:aF}
theorem b5.ud(h:b5 t a p){n:ah}(hn:n∈p.au):n∈bD a:=adR (q:=dS) (λ_ _=>oM) h.rn n hn
theorem b5.azG(h:b5 t a p){n:ax}(hn:n∈p.aC):n∈dI a:=adR (q:=ql) (λ_ _=>aay) h.re n hn
theorem wF{n:ah}(hn:n∈bD a):n.id∈a.nodes:=by rw[<-yh];exact mem_map_of_mem hn
theorem akc{n:ax}(hn:n∈dI a):n.id∈a.ak:=by rw[<-agt];exact mem_map_of_mem hn
theorem b5.value(h:b5 t a p){v:aO}(hv:v∈p.values):∃n∈bD a,n.id=v.id/\0<=v.attr/\v.attr<n.values.length/\n ∉ p.au:=by obtain⟨n,hn,h1,h2,h3⟩:=ari p.values _ h.va v hv;obtain⟨hn1,hn2⟩:=mem_filter.1 hn;refine⟨n,hn1,h1,h2,h3,λhm=>?_⟩;have:(p.au.any λm=>dS n m)=true:=any_eq_true.2 ⟨n,hm,oM.2 rfl⟩;rw[this] at hn2;cases hn2
theorem b5.n1(h:b5 t a p):0<=p.next.x1/\p.next.x1<=1000000:=h.ok.next
theorem b5.n0(h:b5 t a p):0<=p.next.x0/\p.next.x0<=1000000:=by rw[h.next];exact h.tk.next
theorem b5.ids(h:b5 t a p):(∀n∈p.aM,0<=n.id/\n.id<p.next.x1)/\∀e∈p.aK,0<=e.id/\e.id<p.next.x1:=⟨λn hn=>h.ok.nid.1 _ (mem_map_of_mem (nI.2 (mem_append_right _ hn))),λn hn=>h.ok.eid.1 _ (mem_map_of_mem (uE.2 (mem_append_right _ hn)))⟩
end
def tG(p:aF):Bool:=decide (p.next.x0<=p.next.x1)&&(!(p.aM.any λn=>decide (n.id<p.next.x0)) && !(p.aK.any λn=>decide (n.id<p.next.x0)))
theorem arj{p:aF}(hp:ir p):nH p=some (tG p):=by
 unfold nH tG;rw[aY];by_cases h:p.next.x0<=p.next.x1
 ·rw[if_pos h,aT (lR (p:=λx=>nA x p) (λn=>decide (n.id<p.next.x0)) hp.an λn _=>rfl),dB h,Bool.true_and];cases p.aM.any λn=>decide (n.id<p.next.x0) with
  |true=>rfl
  |false=>rw[cond_false,aT (rD (p:=λx=>nB x p) (λn=>decide (n.id<p.next.x0)) hp.ae λn _=>rfl)];rfl
 ·rw[if_neg h,gf h];rfl
theorem amW{p:aF}(hp:ir p):gz p=some (tG p):=by
 have h1:=hp.an;have h2:=hp.ae;unfold gz tG;rw[bC (bB (by omega)),oL p.aM (λn=>!decide (n.id<p.next.x0)) (λ_=>some false) (λi hi cH=>by rw[ck hi,iX]),pT,all_eq_not_any_not];simp only[not_not];cases p.aM.any λn=>decide (n.id<p.next.x0) with
 |true=>simp
 |false=>simp only[Bool.not_false,if_true,Bool.true_and];rw[bC (bB (by omega)),oL p.aK (λn=>!decide (n.id<p.next.x0)) (λ_=>some false) (λi hi cH=>by rw[ck hi,iX]),pT,all_eq_not_any_not];simp only[not_not];cases p.aK.any λn=>decide (n.id<p.next.x0)<;>simp
structure vj(p:aF):Prop where
 next:p.next.x0<=p.next.x1
 n:∀n∈p.aM,p.next.x0<=n.id
 e:∀n∈p.aK,p.next.x0<=n.id
theorem yj{p:aF} : tG p=true↔vj p:=by unfold tG;simp only[and_eq_true,not_eq_true',any_eq_false,decide_eq_true_eq,not_lt];exact⟨λh=>⟨h.1,h.2.1,h.2.2⟩,λh=>⟨h.next,h.n,h.e⟩⟩
def sr(t:Types)(a:az)(p q:aF):Int :=
 if (nt t a p).2≠0 then (nt t a p).2 else if (nt t a q).2≠0 then (nt t a q).2
 else if tG p=true then if tG q=true then if 1000000<p.next.x1+q.next.x1-q.next.x0 then 6 else 0 else 8 else 8
theorem agD{σ O:Type}{f:Nat->σ->(σ->Option O)->(σ->Option O)->Option O}{K:σ->Option O}{s:σ} : cr f (2-0) 0 s K=f 0 s (λs'=>f 1 s' K K) K:=rfl
section
variable{t:Types}{a:az}{p q:aF}
theorem aCM{p q:aF}(h1:b5 t a p)(h2:b5 t a q):i64.wrap (i64.wrap (p.next.x1+q.next.x1)-q.next.x0)=p.next.x1+q.next.x1-q.next.x0:=by have a1:=h1.n1;have a2:=h2.n1;have a3:=h2.n0;rw[dA (n:=p.next.x1+q.next.x1) (by omega),dA (by omega)]
theorem aB8(ht:fm t)(hb:kN a)(hp:ir p)(hq:ir q):gA t a p q=some (sr t a p q):=by
 unfold gA sr;rw[aT (show bX ⟨t.nodes,t.ak⟩ ⟨a.host,a.nodes,a.ak,a.next⟩ p=_ from xx ht hb hp),aY];by_cases h1:(nt t a p).2=0;rotate_left
 ·rw[if_neg h1,if_pos h1]
 rw[if_pos h1,if_neg (λh=>h h1),aT (show bX ⟨t.nodes,t.ak⟩ ⟨a.host,a.nodes,a.ak,a.next⟩ q=_ from xx ht hb hq),aY];by_cases h2:(nt t a q).2=0;rotate_left
 ·rw[if_neg h2,if_pos h2]
 rw[if_pos h2,if_neg (λh=>h h2),aT (amW hp),aT (amW hq),aCM (nJ.1 h1) (nJ.1 h2),aY];cases tG p with
 |false=>simp
 |true =>
  cases tG q with
  |false=>simp
  |true=>simp only[cond_true,if_true];split<;>rfl
theorem wG(ht:fm t)(hb:kN a)(hp:ir p)(hq:ir q):kg t a p q=some (sr t a p q):=by
 unfold kg sr;rw[mC,bC (bB (by omega)),agD];rw[show ([p,q][0]?)=some p from rfl,mC];rw[aT (show ff ⟨t.nodes,t.ak⟩ ⟨a.host,a.nodes,a.ak,a.next⟩ p=_ from acU ht hb hp),aY];by_cases h1:(nt t a p).2=0;rotate_left
 ·rw[if_neg h1,if_pos h1]
 rw[if_pos h1,if_neg (λh=>h h1),show ([p,q][1]?)=some q from rfl,mC];rw[aT (show ff ⟨t.nodes,t.ak⟩ ⟨a.host,a.nodes,a.ak,a.next⟩ q=_ from acU ht hb hq),aY];by_cases h2:(nt t a q).2=0;rotate_left
 ·rw[if_neg h2,if_pos h2]
 rw[if_pos h2,if_neg (λh=>h h2),aT (arj hp),aT (arj hq),aCM (nJ.1 h1) (nJ.1 h2),aY];cases tG p with
 |false=>simp
 |true =>
  cases tG q with
  |false=>simp
  |true=>simp only[cond_true,if_true];split<;>rfl
structure p7(t:Types)(a:az)(p q:aF):Prop where
 ap:b5 t a p
 aq:b5 t a q
 gp:vj p
 gq:vj q
 next:p.next.x1+q.next.x1-q.next.x0<=1000000
theorem mW:sr t a p q=0↔p7 t a p q:=by
 unfold sr;constructor
 ·intro h;split at h
  ·rename_i h1;exact absurd h h1
  rename_i h1;split at h
  ·rename_i h2;exact absurd h h2
  rename_i h2;split at h;rotate_left
  ·cases h
  rename_i h3;split at h;rotate_left
  ·cases h
  rename_i h4;split at h
  ·cases h
  exact⟨nJ.1 (Decidable.of_not_not h1),nJ.1 (Decidable.of_not_not h2),yj.1 h3,yj.1 h4,by omega⟩
 ·intro h;rw[if_neg (λh2=>h2 (nJ.2 h.ap)),if_neg (λh2=>h2 (nJ.2 h.aq)),if_pos (yj.2 h.gp),if_pos (yj.2 h.gq),if_neg (by have:=h.next;omega)]
end
def ltC(a b:aG):Prop:=a.id<b.id\/a.id=b.id/\a.attr<b.attr
theorem aB9(a:aG):¬ ltC a a:=by unfold ltC;omega
theorem azH(a b c:aG)(h1:ltC a b)(h2:ltC b c):ltC a c:=by unfold ltC at *;omega
theorem aiu{K:Int}{l:List aG}(hk:∀x∈l,x.kind=K)(hs:l.Pairwise λa b=>leC a b=true):∀j,j<=l.length->(kept l j).Pairwise ltC/\(∀x,x∈kept l j↔x∈l.take j)/\∀x∈kept l j,∀i,(hi:i<l.length)->j<=i+1->x=l[i]\/ltC x l[i]
 |0,_=>⟨Pairwise.nil,λx=>by simp[kept],λx hx=>by cases hx⟩
 |j+1,hj=>by
  obtain⟨h1,h2,h3⟩:=aiu hk hs j (by omega);have hg:l.getD j default=l[j]:=by simp[show j<l.length by omega]
  have le_or:∀x∈l,∀i,(hi:i<l.length)->leC x l[i]=true->x=l[i]\/ltC x l[i]:=λx hx i hi h=>by
   have k1:=hk x hx;have k2:=hk _ (nS hi);unfold leC at h;have h:=ct h;by_cases he:x.id=l[i].id/\x.attr=l[i].attr
   ·left;generalize l[i]=y at *;cases x;cases y;simp only[aG.mk.injEq] at *;exact⟨by omega,he.1,he.2⟩
   ·right;unfold ltC;omega
  have up:∀i,(hi:i<l.length)->j<=i->l[j]=l[i]\/ltC l[j] l[i]:=λi hi hji=>by
   rcases Nat.lt_or_eq_of_le hji with h|h
   ·exact le_or _ (nS _) i hi (pairwise_iff_getElem.1 hs j i (by omega) hi h)
   ·subst h;exact .inl rfl
  have trans:∀x,(x=l[j]\/ltC x l[j])->∀i,(hi:i<l.length)->j<=i->x=l[i]\/ltC x l[i]:=λx hx i hi hji=>by
   rcases hx with rfl|hx
   ·exact up i hi hji
   ·rcases up i hi hji with h|h
    ·rw[<-h];exact .inr hx
    ·exact .inr (azH _ _ _ hx h)
  rw[kept,hg];have jN:l.take (j+1)=l.take j++[l[j]]:=by rw[take_add_one,getElem?_eq_getElem (by omega),toList_some]
  by_cases hf:fresh l j=true
  ·rw[if_pos hf];have hlt:∀x∈kept l j,ltC x l[j]:=λx hx=>by
    rcases h3 x hx j (by omega) (by omega) with h|h
    ·-- x is the element at j: then so is the one ahead of it
     exfalso;unfold fresh at hf;rcases Nat.eq_zero_or_pos j with h0|h0
     ·subst h0;simp[kept] at hx
     ·rw[gf (by omega),Bool.false_or,hg] at hf;have hg2:l.getD (j-1) default=l[j-1]:=by simp[show j-1<l.length by omega]
      rw[hg2] at hf;have hne:l[j]≠l[j-1]:=λe=>by rw[(ay4 _ _).2 e] at hf;cases hf
      rcases h3 x hx (j-1) (by omega) (by omega) with h4|h4
      ·exact hne (by rw[<-h,<-h4])
      ·rw[h] at h4;have h5:=pairwise_iff_getElem.1 hs (j-1) j (by omega) (by omega) (by omega);unfold leC at h5;have h5:=ct h5;unfold ltC at h4;omega
    ·exact h
   refine⟨pairwise_append.2 ⟨h1,pairwise_singleton _ _,λx hx y hy=>?_⟩,λx=>?_,λx hx i hi hji=>?_⟩
   ·rw[mem_singleton.1 hy];exact hlt x hx
   ·rw[jN,mem_append,mem_append,h2]
   ·rcases mem_append.1 hx with hx|hx
    ·exact trans x (.inr (hlt x hx)) i hi (by omega)
    ·exact trans x (.inl (mem_singleton.1 hx)) i hi (by omega)
  ·rw[if_neg hf];unfold fresh at hf;have h0:0<j:=by
    rcases Nat.eq_zero_or_pos j with h0|h0
    ·subst h0;simp at hf
    ·exact h0
   rw[gf (by omega),Bool.false_or,hg] at hf;have hg2:l.getD (j-1) default=l[j-1]:=by simp[show j-1<l.length by omega]
   rw[hg2] at hf;have he:l[j]=l[j-1]:=(ay4 _ _).1 (by simpa using hf);refine⟨h1,λx=>?_,λx hx i hi hji=>trans x (h3 x hx j (by omega) (by omega)) i hi (by omega)⟩;rw[h2,jN,mem_append,mem_singleton];constructor
   ·exact .inl
   ·rintro (h|h)
    ·exact h
    ·rw[h,he];have:l[j-1]=(l.take j)[j-1]'(by simp;omega):=by simp
     rw[this];exact nS _
theorem pU{K:Int}{l:List aG}(hk:∀x∈l,x.kind=K):(jc l).Pairwise ltC/\∀x,x∈jc l↔x∈l:=by
 unfold jc;have hp:=mergeSort_perm l leC;have hs:(l.mergeSort leC).Pairwise λa b=>leC a b=true:=pairwise_mergeSort (λa b c h1 h2=>by unfold leC at *;simp at *;omega) (λa b=>by unfold leC;simp;omega) l
 obtain⟨h1,h2,_⟩:=aiu (l:=l.mergeSort leC) (λx hx=>hk x (hp.mem_iff.1 hx)) hs l.length (by rw[length_mergeSort];exact le_refl _);refine⟨h1,λx=>?_⟩;rw[h2,take_of_length_le (by rw[length_mergeSort];exact le_refl _)];exact hp.mem_iff
theorem ym{K:Int}{l m:List aG}(hk:∀x∈l,x.kind=K)(hm:m.Pairwise ltC)(h:∀x,x∈l↔x∈m):jc l=m:=by obtain⟨h1,h2⟩:=pU hk;exact aka aB9 azH h1 hm λx=>(h2 x).trans (h x)
def bR(p:aF)(id:Int):Bool:=p.au.any λn=>decide (n.id=id)
def qX(p:aF)(id:Int):Bool:=p.aK.any λe=>decide (e.src=id)||decide (e.dst=id)
def p8(p:aF)(id attr:Int):Option aO:=p.values.find? λv=>decide (v.id=id)&&decide (v.attr=attr)
def ark(p:aF)(id:Int):Bool:=p.aC.any λn=>decide (n.id=id)
section
variable{p q:aF}
theorem xy(hp:p.au.length<=1000000)(id:Int):iI p id=some (bR p id):=by unfold iI;rw[aT (lR (p:=λx=>lB x id) (λn=>decide (n.id=id)) hp λn _=>rfl)];rfl
theorem acV{α:Type}{l:List α}{b:α->Bool}{f:Nat->Unit->(Unit->Option Bool)->(Unit->Option Bool)->Option Bool}{K:Unit->Option Bool}(h:∀i (hi:i<l.length) cH,f i () cH K=cond (b l[i]) (some true) (cH ()))(hK:K ()=some false):cr f (l.length-0) 0 () K=some (l.any b):=by rw[oL l (λa=>!b a) (λ_=>some true) (λi hi cH=>by rw[h i hi cH,iX]),pT,all_eq_not_any_not,hK];simp only[not_not];cases l.any b<;>simp
theorem vk(hp:p.au.length<=1000000)(id:Int):bG p id=some (bR p id):=by unfold bG;rw[bC (bB (by omega))];exact acV (λi hi cH=>by rw[ck hi]) rfl
theorem aDS(hp:p.aC.length<=1000000)(id:Int):jh p id=some (ark p id):=by unfold jh;rw[bC (bB (by omega))];exact acV (λi hi cH=>by rw[ck hi]) rfl
theorem azI(hp:p.aK.length<=1000000)(id:Int):fR p id=some (qX p id):=by unfold fR;rw[bC (bB (by omega))];refine acV (λi hi cH=>?_) rfl;rw[ck hi];cases decide (p.aK[i].src=id)<;>rfl
theorem ae1(hp:p.values.length<=1000000)(id attr:Int):cc p id attr=some (match p8 p id attr with|some v=>(v,true)|none=>(⟨0,0,0,0⟩,false)):=by
 unfold cc p8;rw[bC (bB (by omega)),oL p.values (λv=>!(decide (v.id=id)&&decide (v.attr=attr))) (λv=>some (v,true)) (λi hi cH=>by
  rw[ck hi,iX];cases decide (p.values[i].id=id)<;>rfl)]
 simp only[not_not];unfold z6;cases p.values.find? λv=>decide (v.id=id)&&decide (v.attr=attr)<;>rfl
theorem aes{id attr:Int}{v:aO}(h:p8 p id attr=some v):v∈p.values/\v.id=id/\v.attr=attr:=by have h1:=mem_of_find?_eq_some h;have h2:=find?_some h;simp only[and_eq_true,decide_eq_true_eq] at h2;exact⟨h1,h2⟩
theorem nK{id attr:Int} : (p8 p id attr).isSome=true↔∃v∈p.values,v.id=id/\v.attr=attr:=by unfold p8;rw[find?_isSome];simp only[and_eq_true,decide_eq_true_eq]
theorem aCa{l:List aO}(h:l.Pairwise ltV){v w:aO}(hv:v∈l)(hw:w∈l)(h1:v.id=w.id)(h2:v.attr=w.attr):v=w:=by
 induction l with
 |nil=>cases hv
 |cons c r ih =>
  rw[pairwise_cons] at h;rcases mem_cons.1 hv with e1|e1<;>rcases mem_cons.1 hw with e2|e2
  ·rw[e1,e2]
  ·have:=h.1 w e2;unfold ltV at this;rw[e1] at h1 h2;omega
  ·have:=h.1 v e1;unfold ltV at this;rw[e2] at h1 h2;omega
  ·exact ih h.2 e1 e2
theorem au6(ho:p.values.Pairwise ltV){v:aO}(hv:v∈p.values):p8 p v.id v.attr=some v:=by
 cases h:p8 p v.id v.attr with
 |none =>
  have:=nK (p:=p) (id:=v.id) (attr:=v.attr) |>.2 ⟨v,hv,rfl,rfl⟩
  rw[h] at this;cases this
 |some w=>obtain⟨h1,h2,h3⟩:=aes h;rw[aCa ho h1 hv h2 h3]
end
def aqi(x:aF)(e:ax):List aG:=([e.src,e.dst].filter (bR x)).map λid=>⟨1,id,-1⟩
def wH(x y:aF):List aG:=y.aK.flatMap (aqi x)
def wI(x y:aF):List aG:=(y.values.filter λv=>bR x v.id).map λv=>⟨2,v.id,v.attr⟩
def aqj(q:aF)(v:aO):List aG:=(q.values.filter λw=>decide (v.id=w.id)&&(decide (v.attr=w.attr) && !decide (v.new=w.new))).map λ_=>⟨3,v.id,v.attr⟩
def agE(p q:aF):List aG:=p.values.flatMap (aqj q)
def xz(p q:aF):List aG:=jc (wH p q++wH q p)++jc (wI p q++wI q p)++jc (agE p q)
theorem uF{α β:Type}(g:α->List β):∀ (l:List α) (s:List β),l.foldl (λs a=>s++g a) s=s++l.flatMap g
 | [],s=>by simp
 |a :: l,s=>by rw[foldl_cons,uF g l];simp
theorem acW{α β:Type}(g:α->List β)(l:List α)(s:List β)(k:Nat)(h:∀a∈l,(g a).length<=k):(l.foldl (λs a=>s++g a) s).length<=s.length+k * l.length:=by
 induction l generalizing s with
 |nil=>simp
 |cons a l ih =>
  rw[foldl_cons];have h1:=ih (s++g a) λb hb=>h b (mem_cons_of_mem _ hb)
  have h2:=h a (mem_cons_self ..);rw[length_append] at h1;rw[length_cons,Nat.mul_add];omega
theorem jM{α β O:Type}{f:Nat->List β->(List β->Option O)->(List β->Option O)->Option O}{K:List β->Option O}{s:List β}(l:List α)(g:α->List β)(k:Nat)(hg:∀a∈l,(g a).length<=k)
  (h:∀i (hi:i<l.length) (s':List β),s'.length<=s.length+k * i->∀cH,f i s' cH K=cH (s'++g l[i])):cr f (l.length-0) 0 s K=K (s++l.flatMap g):=by
 rw[(sk l (λs a=>s++g a) (λi s'=>s'.length<=s.length+k * i) (by simp) λi hi s' hs'=>⟨λcH=>h i hi s' hs' cH,by
  have:=hg _ (nS hi);rw[length_append,Nat.mul_add];omega⟩).1,uF]
section
variable{p q:aF}
theorem amX(x:aF)(e:ax):(aqi x e).length<=2:=by unfold aqi;rw[length_map];exact length_filter_le _ _
theorem amY(q:aF)(hq:Small q)(v:aO):(aqj q v).length<=500:=by unfold aqj;rw[length_map];exact le_trans (length_filter_le _ _) hq.va
theorem amZ(hq:Small q):(wH p q).length<=1000:=by
 have:=acW (aqi p) q.aK [] 2 λa _=>amX p a
 rw[uF] at this;have h2:=hq.ae;simp only[nil_append,length_nil] at this;unfold wH;omega
theorem am0(hq:Small q):(wI p q).length<=500:=by unfold wI;rw[length_map];exact le_trans (length_filter_le _ _) hq.va
theorem azJ(hp:Small p)(hq:Small q):(agE p q).length<=250000:=by
 have:=acW (aqj q) p.values [] 500 λa _=>amY q hq a
 rw[uF] at this;have h2:=hp.va;simp only[nil_append,length_nil] at this;unfold agE;omega
end
theorem adS{n:Int}(h:0<=n/\n<=1000000):mj ([]:List aG) n=some []:=qJ ⟨rfl,by omega⟩
theorem au7(x y z:List aG)(h:x.length<=300000/\y.length<=300000/\z.length<=300000):iq [x,y,z]=some (x++y++z):=by unfold iq;rw[bC (bB (by simp))];show cr _ 3 0 0 _=_;simp only[cr,getElem?_cons_zero,getElem?_cons_succ,mC];rw[dA (n:=0+((x.length:Nat):Int)) (by omega),gf (by omega),cond_false];rw[dA (n:=0+((x.length:Nat):Int)+((y.length:Nat):Int)) (by omega),gf (by omega),cond_false];rw[dA (n:=0+((x.length:Nat):Int)+((y.length:Nat):Int)+((z.length:Nat):Int)) (by omega),gf (by omega),cond_false];rw[aT (adS (by omega)),bC (bB (by simp))];show cr _ 3 0 [] _=_;simp only[cr,getElem?_cons_zero,getElem?_cons_succ,mC];rw[bC (by simp;omega),bC (by simp;omega),bC (by simp;omega)];simp
theorem nL{β O:Type}{f:Nat->List β->(List β->Option O)->(List β->Option O)->Option O}{K:List β->Option O}{s:List β}(n:Nat)(g:Nat->List β)(k:Nat)(hg:∀i,i<n->(g i).length<=k)
  (h:∀i (hi:i<n) (s':List β),s'.length<=s.length+k * i->∀cH,f i s' cH K=cH (s'++g i)):cr f (n-0) 0 s K=K (s++(range n).flatMap g):=by
 have:=jM (f:=f) (K:=K) (s:=s) (range n) g k (λi hi=>hg i (mem_range.1 hi)) λi hi s' hs' cH=>by rw[getElem_range];exact h i (by simpa using hi) s' hs' cH
 rwa [length_range] at this
theorem agF{σ O:Type}{f:Nat->σ->(σ->Option O)->(σ->Option O)->Option O}{K:σ->Option O}{s r1 r2:σ}(h0:∀cH,f 0 s cH K=cH r1)(h1:∀cH,f 1 r1 cH K=cH r2):cr f (2-0) 0 s K=K r2:=by rw[agD,h0,h1]
section
variable{t:Types}{a:az}{p q:aF}
theorem lI{α β:Type}(b:α->Bool)(f:α->β)(l:List α):(l.flatMap λa=>if b a=true then [f a] else [])=(l.filter b).map f:=by
 induction l with
 |nil=>rfl
 |cons x l ih=>rw[flatMap_cons,ih,filter_cons];split<;>simp
theorem gy{id:Int} : bR p id=true↔∃n∈p.au,n.id=id:=by unfold bR;rw[any_eq_true];simp only[decide_eq_true_eq]
theorem uG{id:Int} : qX p id=true↔∃e∈p.aK,e.src=id\/e.dst=id:=by unfold qX;rw[any_eq_true];simp only[or_eq_true,decide_eq_true_eq]
theorem mJ{x:aG} : x∈wH p q↔∃id,bR p id=true/\qX q id=true/\x=⟨1,id,-1⟩:=by
 unfold wH aqi;simp only[mem_flatMap,mem_map,mem_filter,uG];constructor
 ·rintro⟨e,he,id,⟨h1,h2⟩,rfl⟩;refine⟨id,h2,⟨e,he,?_⟩,rfl⟩;simp at h1;rcases h1 with h1|h1
  ·exact .inl h1.symm
  ·exact .inr h1.symm
 ·rintro⟨id,h1,⟨e,he,h2⟩,rfl⟩;refine⟨e,he,id,⟨?_,h1⟩,rfl⟩;rcases h2 with h2|h2<;>simp[h2]
theorem mK{x:aG} : x∈wI p q↔∃v∈q.values,bR p v.id=true/\x=⟨2,v.id,v.attr⟩:=by
 unfold wI;simp only[mem_map,mem_filter];constructor
 ·rintro⟨v,⟨h1,h2⟩,rfl⟩;exact⟨v,h1,h2,rfl⟩
 ·rintro⟨v,h1,h2,rfl⟩;exact⟨v,⟨h1,h2⟩,rfl⟩
theorem sX{x:aG} : x∈agE p q↔∃v∈p.values,∃w∈q.values,v.id=w.id/\v.attr=w.attr/\v.new≠w.new/\x=⟨3,v.id,v.attr⟩:=by
 unfold agE aqj;simp only[mem_flatMap,mem_map,mem_filter,and_eq_true,decide_eq_true_eq,not_eq_true',decide_eq_false_iff_not];constructor
 ·rintro⟨v,hv,w,⟨h1,h2,h3,h4⟩,rfl⟩;exact⟨v,hv,w,h1,h2,h3,h4,rfl⟩
 ·rintro⟨v,hv,w,h1,h2,h3,h4,rfl⟩;exact⟨v,hv,w,⟨h1,h2,h3,h4⟩,rfl⟩
theorem b5.rid(h:b5 t a p){id:Int}(hr:bR p id=true):id∈a.nodes:=by obtain⟨n,hn,rfl⟩:=gy.1 hr;exact wF (h.ud hn)
theorem fD.small(h:fD t a){id:Int}(hi:id∈a.nodes):0<=id/\id<=1000000:=by
 have h1:=h.nid.1 id hi;have h2:=h.next
 omega
theorem b5.aqk(h:b5 t a p)(hb:tT a.host){v:aO}(hv:v∈p.values):(0<=v.id/\v.id<=1000000)/\0<=v.attr/\v.attr<=1000000:=by obtain⟨n,hn,h1,h2,h3,_⟩:=h.value hv;have h4:=jm h.tk hb n hn;have h5:=h.tk.small (wF hn);rw[h1] at h5;exact⟨h5,h2,by omega⟩
theorem p9(hp:b5 t a p)(hq:b5 t a q)(hb:tT a.host):iN p q=some (xz p q):=by
  have p1:=hp.small.rn;have p2:=hp.small.ae;have p3:=hp.small.va;have q1:=hq.small.rn;have q2:=hq.small.ae;have q3:=hq.small.va
  have round : ∀ (x y : aF) (u v : List aG) (cH : List aG × List aG → Option (List aG)), x.au.length ≤ 500 → y.aK.length ≤ 500 → y.values.length ≤ 500 → u.length ≤ 1000000 → v.length ≤ 1000000 →
      (cT (y.aK.length<=fuel) <|
      cr (λaJr (aDT:(List aG)) aCb aHu =>
       thn (y.aK[aJr]?) λaCN =>
       thn (some [aCN.src,aCN.dst]) λaFB =>
       cT (2<=fuel) <|
       cr (λaFC (am1:(List aG)) am2 aFD =>
        thn (aFB[aFC]?) λaCO =>
        thn (iI x aCO) λaFE =>
        cond aFE (
         cT (am1.length+1<=68719476736) <|
         am2 (am1++[(⟨1,aCO,(-1)⟩:aG)])) <|
        am2 am1)
       (2-0) 0 aDT λam1 =>
       aCb am1)
      (y.aK.length-0) 0 u λaDT =>
      cT (y.values.length<=fuel) <|
      cr (λaFF (am3:(List aG)) am4 aFG =>
       thn (y.values[aFF]?) λazK =>
       thn (iI x azK.id) λaFH =>
       cond aFH (
        cT (am3.length+1<=68719476736) <|
        am4 (am3++[(⟨2,azK.id,azK.attr⟩:aG)])) <|
       am4 am3)
      (y.values.length-0) 0 v λam3 =>
      cH (aDT,am3))=cH (u++wH x y,v++wI x y):=by
    intro x y u v cH h1 h2 h3 h4 h5;rw[bC (bB (by omega))];rw[jM y.aK (aqi x) 2 (λe _=>amX x e) ?_]
    · rw[bC (bB (by omega))];rw[jM y.values (λv=>if bR x v.id=true then [(⟨2,v.id,v.attr⟩:aG)] else []) 1 (λv _=>by split<;>simp) ?_,lI]
      · rfl
      · intro i hi s' hs' cH;rw[ck hi,aT (xy (by omega) _)];cases bR x y.values[i].id with
        |true=>rw[cond_true,bC (by omega),if_pos rfl]
        |false=>rw[cond_false,if_neg (by simp),append_nil]
    · intro i hi s' hs' cH;rw[ck hi,mC,bC (bB (by omega)),agD];unfold aqi;simp only[getElem?_cons_zero,getElem?_cons_succ,mC];rw[aT (xy (by omega) _)];cases h6:bR x y.aK[i].src with
      |true =>
        rw[cond_true,bC (by omega),aT (xy (by omega) _)];cases h7:bR x y.aK[i].dst with
        |true=>rw[cond_true,bC (by simp;omega)];simp[h6,h7]
        |false=>rw[cond_false];simp[h6,h7]
      |false =>
        rw[cond_false,aT (xy (by omega) _)];cases h7:bR x y.aK[i].dst with
        |true=>rw[cond_true,bC (by omega)];simp[h6,h7]
        |false=>rw[cond_false];simp[h6,h7]
  have u1:=amZ (p:=p) hq.small;have u2:=amZ (p:=q) hp.small;have c1:=am0 (p:=p) hq.small;have c2:=am0 (p:=q) hp.small;have v1:=azJ hp.small hq.small;unfold iN xz;rw[mC,bC (bB (by omega)),agF (r1:=(wH p q,wI p q)) (r2:=(wH p q++wH q p,wI p q++wI q p)) (λcH=>round p q [] [] cH p1 q2 q3 (by simp) (by simp)) (λcH=>round q p (wH p q) (wI p q) cH q1 p2 p3 (by omega) (by omega))];rw[bC (bB (by omega))];rw[jM p.values (aqj q) 500 (λv _=>amY q hq.small v) ?_]
  · simp only[nil_append];have o1:∀x∈wH p q++wH q p,x.kind=1/\ov x:=λx hx=>by
      rcases mem_append.1 hx with h|h
      · obtain⟨id,h1,_,rfl⟩:=mJ.1 h;have:=hp.tk.small (hp.rid h1);exact⟨rfl,by unfold ov;simp only;omega⟩
      · obtain⟨id,h1,_,rfl⟩:=mJ.1 h;have:=hp.tk.small (hq.rid h1);exact⟨rfl,by unfold ov;simp only;omega⟩
    have o2:∀x∈wI p q++wI q p,x.kind=2/\ov x:=λx hx=>by
      rcases mem_append.1 hx with h|h
      · obtain⟨v,h1,_,rfl⟩:=mK.1 h;have:=hq.aqk hb h1;exact⟨rfl,by unfold ov;simp only;omega⟩
      · obtain⟨v,h1,_,rfl⟩:=mK.1 h;have:=hp.aqk hb h1;exact⟨rfl,by unfold ov;simp only;omega⟩
    have o3:∀x∈agE p q,x.kind=3/\ov x:=λx hx=>by obtain⟨v,h1,_,_,_,_,_,rfl⟩:=sX.1 hx;have:=hp.aqk hb h1;exact⟨rfl,by unfold ov;simp only;omega⟩
    have kl:∀l:List aG,(jc l).length<=l.length:=λl=>by unfold jc;exact amF _ _
    have k1:=kl (wH p q++wH q p);have k2:=kl (wI p q++wI q p);have k3:=kl (agE p q);rw[length_append] at k1 k2;rw[aT (show fe (wH p q++wH q p)=_ from qO ⟨by rw[length_append];omega,1,o1⟩),aT (show fe (wI p q++wI q p)=_ from qO ⟨by rw[length_append];omega,2,o2⟩)];rw[aT (show fe (p.values.flatMap (aqj q))=_ from qO ⟨by show (agE p q).length<=_;omega,3,o3⟩)];rw[aT (au7 _ _ _ ⟨by omega,by omega,by show (jc (agE p q)).length<=_;omega⟩)];rfl
  · intro i hi s' hs' cH;have hbase:s'.length<=250000:=by simp at hs';omega
    rw[ck hi,bC (bB (by omega))];generalize p.values[i]=v;rw[jM q.values (λw=>if (decide (v.id=w.id)&&(decide (v.attr=w.attr) && !decide (v.new=w.new)))=true then [(⟨3,v.id,v.attr⟩:aG)] else []) 1 (λw _=>by split<;>simp) ?_,lI]
    · rfl
    · intro j hj s2 hs2 cH;rw[ck hj];generalize q.values[j]=w;cases decide (v.id=w.id) with
      |false=>rw[cond_false,if_neg (by simp),append_nil]
      |true =>
        rw[cond_true];cases decide (v.attr=w.attr) with
        |false=>rw[cond_false,if_neg (by simp),append_nil]
        |true =>
          rw[cond_true];cases decide (v.new=w.new) with
          |true=>rw[cond_true,if_neg (by simp),append_nil]
          |false=>rw[cond_false,bC (by omega),if_pos (by rfl)]
end
def akd(p q:aF)(id:Int):Bool:=(bR p id&&qX q id)||(bR q id&&qX p id)
def aql(p q:aF)(id k:Int):Bool:=(bR p id&&(p8 q id k).isSome)||(bR q id&&(p8 p id k).isSome)
def adT(a:az)(p q:aF)(i:Nat):List aG:=((range (a.host.values.getD i default).length).filter λk:Nat=>aql p q (a.nodes.getD i default) (k:Int)).map λk:Nat=>⟨2,a.nodes.getD i default,(k:Int)⟩
def au8(q:aF)(v:aO):Bool:=match p8 q v.id v.attr with
 |some w=>!decide (w.new=v.new)
 |none=>false
def qv(a:az)(p q:aF):List aG:=(a.nodes.filter (akd p q)).map (λid=>⟨1,id,-1⟩)++(range a.nodes.length).flatMap (adT a p q)++(p.values.filter (au8 q)).map λv=>⟨3,v.id,v.attr⟩
section
variable{t:Types}{a:az}{p q:aF}
theorem aht(ha:fD t a)(hb:tT a.host)(hp:ir p)(hq:ir q):eM a p q=some (qv a p q):=by
  have hn:=ha.n40;have hvl:a.host.values.length=a.nodes.length:=by rw[ha.host.agr,ha.uc]
  unfold eM qv;rw[bC (bB (by omega))];rw[jM a.nodes (λid=>if akd p q id=true then [(⟨1,id,-1⟩:aG)] else []) 1 (λv _=>by split<;>simp) ?_,lI];rotate_left
  · intro i hi s hs cH;simp only[length_nil] at hs;simp only[ck hi,vk hp.rn,azI hq.ae,vk hq.rn,azI hp.ae,mC,bC (show s.length+1<=68719476736 by omega)];unfold akd;cases bR p a.nodes[i]<;>cases qX q a.nodes[i]<;>cases bR q a.nodes[i]<;>cases qX p a.nodes[i]<;>simp
  have aFI:((a.nodes.filter (akd p q)).map λid=>(⟨1,id,-1⟩:aG)).length<=40:=by rw[length_map];exact le_trans (length_filter_le _ _) hn
  rw[nil_append,bC (bB (by omega))];generalize (a.nodes.filter (akd p q)).map (λid=>(⟨1,id,-1⟩:aG))=u at aFI ⊢;have hI:∀i∈range a.nodes.length,(adT a p q i).length<=1000:=λi hi=>by have hi:=mem_range.1 hi;unfold adT;rw[length_map];refine le_trans (length_filter_le _ _) ?_;rw[length_range];refine hb.row _ ?_;simp[show i<a.host.values.length by omega]
  rw[nL a.nodes.length (adT a p q) 1000 (λi hi=>hI i (mem_range.2 hi)) ?_]
  · rw[bC (bB (by have:=hp.va;omega))];have aFJ:(u++(range a.nodes.length).flatMap (adT a p q)).length<=1000000:=by have:=acW (adT a p q) (range a.nodes.length) u 1000 hI;rw[uF,length_range] at this;omega
    generalize u++(range a.nodes.length).flatMap (adT a p q)=w at aFJ ⊢;rw[jM p.values (λv=>if au8 q v=true then [(⟨3,v.id,v.attr⟩:aG)] else []) 1 (λv _=>by split<;>simp) ?_,lI];intro i hi s hs cH;have:=hp.va;rw[ck hi,aT (show cc ⟨q.au,q.aC,q.aM,q.aK,q.values,q.next⟩ _ _=_ from ae1 hq.va _ _),bC (by omega)];unfold au8;cases p8 q p.values[i].id p.values[i].attr with
    |none=>simp
    |some w=>simp only[cond_true];by_cases hw:w.new=p.values[i].new<;>simp[hw]
  · intro i hi s hs cH;have hi':i<a.nodes.length:=hi;have hv:i<a.host.values.length:=by omega
    have hgn:a.nodes.getD i default=a.nodes[i]:=by simp[hi']
    have hgv:a.host.values.getD i default=a.host.values[i]:=by simp[hv]
    have hrow:=hb.row _ (nS hv);have xL:s.length<=100000:=by have:1000 * i<=1000 * 40:=Nat.mul_le_mul_left _ (by omega);omega
    rw[ck hi'];unfold adT;rw[hgn,hgv];generalize a.nodes[i]=id at *;generalize hvv:a.host.values[i]=vals at *;have inner:∀ (m k n:Nat) (z:List aG),k+m=vals.length->m+1<=n->z.length<=100000+k->iter (λ(mL:Int×(List aG)) vl azL =>
   thn (a.host.values[i]?) λaFK =>
   cond (decide (mL.1<((aFK.length:Nat):Int))) (
    thn (cc (⟨p.au,p.aC,p.aM,p.aK,p.values,p.next⟩:aF) id mL.1) λaCP =>
    thn (cc (⟨q.au,q.aC,q.aM,q.aK,q.values,q.next⟩:aF) id mL.1) λaFL =>
    thn (bG (⟨p.au,p.aC,p.aM,p.aK,p.values,p.next⟩:aF) id) λaFM =>
    cond aFM (
     cond aFL.2 (
      cT (mL.2.length+1<=68719476736) <|
      vl ((i64.wrap (mL.1+1)),(mL.2++[(⟨2,id,mL.1⟩:aG)]))) <|
     thn (bG (⟨q.au,q.aC,q.aM,q.aK,q.values,q.next⟩:aF) id) λaFN =>
     cond aFN (
      cond aCP.2 (
       cT (mL.2.length+1<=68719476736) <|
       vl ((i64.wrap (mL.1+1)),(mL.2++[(⟨2,id,mL.1⟩:aG)]))) <|
      vl ((i64.wrap (mL.1+1)),mL.2)) <|
     vl ((i64.wrap (mL.1+1)),mL.2)) <|
    thn (bG (⟨q.au,q.aC,q.aM,q.aK,q.values,q.next⟩:aF) id) λaFO =>
    cond aFO (
     cond aCP.2 (
      cT (mL.2.length+1<=68719476736) <|
      vl ((i64.wrap (mL.1+1)),(mL.2++[(⟨2,id,mL.1⟩:aG)]))) <|
     vl ((i64.wrap (mL.1+1)),mL.2)) <|
    vl ((i64.wrap (mL.1+1)),mL.2)) <|
   azL (mL.1, mL.2)) n ((k : Int), z) (fun mL => cH mL.2) = cH (z ++ ((range' k m).filter fun k : Nat => aql p q id (k : Int)).map fun k : Nat => ⟨2, id, (k : Int)⟩) := by
      intro m
      induction m with
      |zero=>intro k n z hk hn hz;obtain⟨n,rfl⟩:∃n',n=n'+1:=⟨n-1,by omega⟩;rw[iter,ck hv,hvv,gf (by simp only;omega),cond_false];simp
      |succ m ih=>intro k n z hk hn hz;obtain⟨n,rfl⟩:∃n',n=n'+1:=⟨n-1,by omega⟩;rw[iter,ck hv,hvv,dB (by simp only;omega),cond_true];rw[aT (show cc ⟨p.au,p.aC,p.aM,p.aK,p.values,p.next⟩ _ _=_ from ae1 hp.va _ _),aT (show cc ⟨q.au,q.aC,q.aM,q.aK,q.values,q.next⟩ _ _=_ from ae1 hq.va _ _)];have r1:bG ⟨p.au,p.aC,p.aM,p.aK,p.values,p.next⟩ id=_:=vk hp.rn id;have r2:bG ⟨q.au,q.aC,q.aM,q.aK,q.values,q.next⟩ id=_:=vk hq.rn id;rw[aT r1,aT r2];dsimp only;rw[bC (show z.length+1<=68719476736 by omega),dA (n:=((k:Nat):Int)+1) (by omega),show ((k:Nat):Int)+1=((k+1:Nat):Int) from rfl];rw[ih (k+1) n _ (by omega) (by omega) (by rw[length_append,length_singleton];omega),ih (k+1) n z (by omega) (by omega) (by omega)];rw[range'_succ,filter_cons];unfold aql;cases bR p id<;>cases bR q id<;>cases p8 p id (k:Int)<;>cases p8 q id (k:Int)<;>simp
    have:=inner vals.length 0 fuel s (by omega) (by unfold fuel;omega) (by omega);rw[range_eq_range'];exact this
theorem xA{n:ah}(h:n∈bD a):∃i,i<a.nodes.length/\n=cK a i:=by obtain⟨i,hi,rfl⟩:=mem_map.1 h;exact⟨i,by simpa using hi,rfl⟩
theorem xB(hp:b5 t a p)(hq:b5 t a q):xz p q=qv a p q:=by
 have ha:=hp.tk;unfold xz qv;have e1:jc (wH p q++wH q p)=(a.nodes.filter (akd p q)).map λid=>⟨1,id,-1⟩:=by
  refine ym (K:=1) (λx hx=>?_) ?_ λx=>?_
  ·rcases mem_append.1 hx with h|h<;>(obtain⟨id,_,_,rfl⟩:=mJ.1 h;rfl)
  ·rw[pairwise_map];exact (ha.nid.2.sub filter_sublist).imp λh=>.inl h
  ·rw[mem_append,mJ,mJ,mem_map];constructor
   ·rintro (⟨id,h1,h2,rfl⟩|⟨id,h1,h2,rfl⟩)
    ·exact⟨id,mem_filter.2 ⟨hp.rid h1,by unfold akd;rw[h1,h2];rfl⟩,rfl⟩
    ·exact⟨id,mem_filter.2 ⟨hq.rid h1,by unfold akd;rw[h1,h2];simp⟩,rfl⟩
   ·rintro⟨id,h,rfl⟩;have h:=(mem_filter.1 h).2;unfold akd at h;rw[or_eq_true,and_eq_true,and_eq_true] at h;rcases h with h|h
    ·exact .inl ⟨id,h.1,h.2,rfl⟩
    ·exact .inr ⟨id,h.1,h.2,rfl⟩
 have e2:jc (wI p q++wI q p)=(range a.nodes.length).flatMap (adT a p q):=by
  have mem:∀x,x∈(range a.nodes.length).flatMap (adT a p q)↔∃i,i<a.nodes.length/\∃k:Nat,k<(a.host.values.getD i default).length/\aql p q (a.nodes.getD i default) (k:Int)=true/\x=⟨2,a.nodes.getD i default,(k:Int)⟩:=λx=>by
   unfold adT;simp only[mem_flatMap,mem_range,mem_map,mem_filter];constructor
   ·rintro⟨i,hi,k,⟨h1,h2⟩,rfl⟩;exact⟨i,hi,k,h1,h2,rfl⟩
   ·rintro⟨i,hi,k,h1,h2,rfl⟩;exact⟨i,hi,k,⟨h1,h2⟩,rfl⟩
  have into:∀ {x y:aF},b5 t a y->∀v∈y.values,∃i,i<a.nodes.length/\∃k:Nat,k<(a.host.values.getD i default).length/\v.id=a.nodes.getD i default/\v.attr=(k:Int):=λ{x y} hy v hv=>by obtain⟨n,hn,h1,h2,h3,_⟩:=hy.value hv;obtain⟨i,hi,rfl⟩:=xA hn;exact⟨i,hi,v.attr.toNat,by simp only[cK] at h3;omega,h1.symm,by omega⟩
  refine ym (K:=2) (λx hx=>?_) ?_ λx=>?_
  ·rcases mem_append.1 hx with h|h<;>(obtain⟨id,_,_,rfl⟩:=mK.1 h;rfl)
  ·rw[pairwise_flatMap];constructor
   ·intro i _;unfold adT;rw[pairwise_map];exact (Pairwise.sublist filter_sublist pairwise_lt_range).imp λh=>.inr ⟨rfl,by simp only;omega⟩
   ·refine Pairwise.imp_of_mem ?_ (pairwise_lt_range (n:=a.nodes.length));intro i j hi hj hij x hx y hy;have hi:=mem_range.1 hi;have hj:=mem_range.1 hj;unfold adT at hx hy;obtain⟨k,_,rfl⟩:=mem_map.1 hx;obtain⟨m,_,rfl⟩:=mem_map.1 hy;left;have:=ha.nid.2.acO hij hj;simpa[hi,hj] using this
  ·rw[mem,mem_append,mK,mK];constructor
   ·rintro (⟨v,hv,h1,rfl⟩|⟨v,hv,h1,rfl⟩)
    ·obtain⟨i,hi,k,hk,e1,e2⟩:=into (x:=p) hq v hv;refine⟨i,hi,k,hk,?_,by rw[e1,e2]⟩;unfold aql;rw[<-e1,h1,nK.2 ⟨v,hv,rfl,e2⟩];rfl
    ·obtain⟨i,hi,k,hk,e1,e2⟩:=into (x:=q) hp v hv;refine⟨i,hi,k,hk,?_,by rw[e1,e2]⟩;unfold aql;rw[<-e1,h1,nK (p:=p) |>.2 ⟨v,hv,rfl,e2⟩];simp
   ·rintro⟨i,hi,k,hk,h,rfl⟩;unfold aql at h;rw[or_eq_true,and_eq_true,and_eq_true] at h;rcases h with h|h
    ·obtain⟨v,hv,e1,e2⟩:=nK.1 h.2;exact .inl ⟨v,hv,by rw[e1];exact h.1,by rw[e1,e2]⟩
    ·obtain⟨v,hv,e1,e2⟩:=nK.1 h.2;exact .inr ⟨v,hv,by rw[e1];exact h.1,by rw[e1,e2]⟩
 have e3:jc (agE p q)=(p.values.filter (au8 q)).map λv=>⟨3,v.id,v.attr⟩:=by
  refine ym (K:=3) (λx hx=>?_) ?_ λx=>?_
  ·obtain⟨v,_,_,_,_,_,_,rfl⟩:=sX.1 hx;rfl
  ·rw[pairwise_map];exact (Pairwise.sublist filter_sublist hp.ord.va).imp λh=>h
  ·rw[sX,mem_map];constructor
   ·rintro⟨v,hv,w,hw,h1,h2,h3,rfl⟩;refine⟨v,mem_filter.2 ⟨hv,?_⟩,rfl⟩;unfold au8;rw[h1,h2,au6 hq.ord.va hw];simp only[not_eq_true',decide_eq_false_iff_not];exact λe=>h3 e.symm
   ·rintro⟨v,hv,rfl⟩;obtain⟨hv,h⟩:=mem_filter.1 hv;unfold au8 at h;split at h
    ·rename_i w hw;obtain⟨h1,h2,h3⟩:=aes hw;refine⟨v,hv,w,h1,h2.symm,h3.symm,λe=>?_,rfl⟩;rw[e] at h;simp at h
    ·cases h
 rw[e1,e2,e3]
end
section
variable{t:Types}{a:az}{p q:aF}
theorem aaz{ids:List Int}{n:Int} : 0<=cu ids n↔n∈ids:=by
 unfold cu;have:=yd (q:=λy=>decide (y=n)) (l:=ids);constructor
 ·intro h;rw[dB h] at this;obtain⟨y,hy,e⟩:=any_eq_true.1 this.symm;rw[<-ct e];exact hy
 ·intro h;rw[any_eq_true.2 ⟨n,h,dB rfl⟩] at this;exact ct this
theorem b5.ends(h:b5 t a p){e:ax}(he:e∈kO a p++p.aK):e.src∈(kF (iZ a p++p.aM)).map ah.id/\e.dst∈(kF (iZ a p++p.aM)).map ah.id:=by have:=all_eq_true.1 (agz (N:=kF (iZ a p++p.aM)) (E:=mR (kO a p++p.aK)) (next:=p.next.x1) h.ok) e (uE.2 he);unfold aae at this;rw[and_eq_true] at this;exact⟨aaz.1 (ct this.1),aaz.1 (ct this.2)⟩
theorem b5.aJs(h:b5 t a p){e:ax}(he:e∈kO a p++p.aK):(0<=e.src/\e.src<p.next.x1)/\0<=e.dst/\e.dst<p.next.x1:=by obtain⟨h1,h2⟩:=h.ends he;exact⟨h.ok.nid.1 _ h1,h.ok.nid.1 _ h2⟩
end
def gi(x0 d id:Int):Int:=if x0<=id then id+d else id
def oz(x0 d:Int)(n:ah):ah:=⟨gi x0 d n.id,n.type,n.values⟩
def oA(x0 d:Int)(e:ax):ax:=⟨gi x0 d e.id,e.type,gi x0 d e.src,gi x0 d e.dst⟩
def jw(p q:aF):aF:=⟨q.au,q.aC,q.aM.map (oz q.next.x0 (p.next.x1-p.next.x0)),q.aK.map (oA q.next.x0 (p.next.x1-p.next.x0)),q.values,⟨p.next.x1,p.next.x1+q.next.x1-q.next.x0⟩⟩
structure aCc(p q:aF):Prop where
 x0:0<=p.next.x0/\p.next.x0<=1000000
 x1:0<=p.next.x1/\p.next.x1<=1000000
 y0:0<=q.next.x0/\q.next.x0<=1000000
 y1:0<=q.next.x1/\q.next.x1<=1000000
 n:∀n∈q.aM,0<=n.id/\n.id<=1000000
 e:∀e∈q.aK,(0<=e.id/\e.id<=1000000)/\(0<=e.src/\e.src<=1000000)/\0<=e.dst/\e.dst<=1000000
theorem p7.aCd{t:Types}{a:az}{p q:aF}(h:p7 t a p q):aCc p q :=
 ⟨h.ap.n0,h.ap.n1,h.aq.n0,h.aq.n1,λn hn=>by have:=h.aq.ids.1 n hn;have:=h.aq.n1;omega,λe he=>by
  have h1:=h.aq.ids.2 e he;have h2:=h.aq.aJs (mem_append_right _ he);have h3:=h.aq.n1;omega⟩
theorem agG{x0 d id:Int}(h1 : -1000000<=d/\d<=1000000)(h2:0<=id/\id<=1000000):(if x0<=id then some (i64.wrap (id+d)) else some id)=some (gi x0 d id):=by
 unfold gi;split
 ·rw[dA (by omega)]
 ·rfl
theorem aaX{l:List ah}(h:l.length<=1000000)(hv:Rows l):ew l=some l:=by
 unfold ew;rw[bC (bB (by omega))];rw[jM l (λn=>[n]) 1 (λn _=>by simp) λi hi s hs cH=>?_]
 ·simp
 ·have:=hv _ (nS hi);simp only[length_nil] at hs;rw[ck hi,bC (by omega),bC (by omega)]
theorem wJ{p:aF}(hp:ir p):dM p=some p:=by have h1:=hp.re;have h2:=hp.ae;have h3:=hp.va;unfold dM;rw[aT (aaX hp.rn hp.rv),bC (by omega),aT (aaX hp.an hp.av),bC (by omega),bC (by omega)]
theorem agH{α O:Type}(g:α->α){F:Int×List α->(Int×List α->Option O)->(Int×List α->Option O)->Option O}{K:Int×List α->Option O}(l:List α)(hl:l.length<=1000000)
  (h:∀ (i:Nat) (s:List α) (hi:i<s.length) (hi2:i<l.length),s.length=l.length->s[i]=l[i]->∀cH,F ((i:Int),s) cH K=cH (((i+1:Nat):Int),s.set i (g l[i])))
  (he:∀ (s:List α),s.length=l.length->∀cH,F (((l.length:Nat):Int),s) cH K=K (((l.length:Nat):Int),s)):iter F fuel (0,l) K=K (((l.length:Nat):Int),l.map g):=by
 have key:∀ (m i n:Nat),i+m=l.length->m+1<=n->iter F n ((i:Int),(l.take i).map g++l.drop i) K=K (((l.length:Nat):Int),l.map g):=by
  intro m
  induction m with
  |zero =>
   intro i n hi hn;obtain⟨n,rfl⟩:∃k,n=k+1:=⟨n-1,by omega⟩;have:i=l.length:=by omega
   subst this;rw[iter,take_length,drop_length,append_nil,he _ (by simp)]
  |succ m ih =>
   intro i n hi hn;obtain⟨n,rfl⟩:∃k,n=k+1:=⟨n-1,by omega⟩;have hlt:i<l.length:=by omega
   have hs:((l.take i).map g++l.drop i).length=l.length:=by simp;omega
   have hg:((l.take i).map g++l.drop i)[i]'(by omega)=l[i]:=by rw[getElem_append_right (by simp;omega)];simp[Nat.min_eq_left (Nat.le_of_lt hlt)]
   rw[iter,h i _ (by omega) hlt hs hg,<-ih (i+1) n (by omega) (by omega)];congr 2;rw[set_append_right _ _ (by simp;omega),take_add_one,getElem?_eq_getElem hlt,toList_some,map_append];simp[Nat.min_eq_left (Nat.le_of_lt hlt)];rw[drop_eq_getElem_cons hlt];rfl
 have:=key l.length 0 fuel (by omega) (by unfold fuel;omega);simpa using this
theorem ake{α:Type}{l:List α}{i:Nat}(hi:i<l.length):l[((i:Nat):Int).toNat]'(by simpa using hi)=l[i]:=rfl
theorem aaf{α β:Type}(f:α->β)(l:List α):(l.flatMap λa=>[f a])=l.map f:=by
 induction l with
 |nil=>rfl
 |cons x l ih=>rw[flatMap_cons,ih];rfl
section
variable{p q:aF}
theorem ae2{x0 d id:Int}(h1 : -1000000<=d/\d<=1000000)(h2:0<=id/\id<=1000000):eA id x0 d=some (gi x0 d id):=by unfold eA;rw[aY,agG h1 h2]
theorem vU{d id:Int}(h1 : -1000000<=d/\d<=1000000)(h2:0<=id/\id<=1000000):iz id q d=some (gi q.next.x0 d id):=by unfold iz;rw[aY,agG h1 h2]
theorem aiv(h:aCc p q):i64.wrap (p.next.x1-p.next.x0)=p.next.x1-p.next.x0/\i64.wrap (i64.wrap (p.next.x1+q.next.x1)-q.next.x0)=p.next.x1+q.next.x1-q.next.x0:=by have h1:=h.x0;have h2:=h.x1;have h3:=h.y0;have h4:=h.y1;exact⟨dA (by omega),by rw[dA (n:=p.next.x1+q.next.x1) (by omega),dA (by omega)]⟩
theorem aiw(h:aCc p q)(hq:ir q):eG p q=some (jw p q):=by
 obtain⟨w1,w2⟩:=aiv h;have h1:=h.x0;have h2:=h.x1;have qn:=hq.an;have qe:=hq.ae;unfold eG jw;rw[aT (wJ hq),w1,w2];rw[agH (oz q.next.x0 (p.next.x1-p.next.x0)) q.aM hq.an]
 ·rw[agH (oA q.next.x0 (p.next.x1-p.next.x0)) q.aK hq.ae]
  ·intro i s hi hi2 hs hg cH;have hr:=h.e _ (nS hi2);dsimp only;rw[dB (by omega),cond_true,gD (by omega) (by simpa using hi),ake hi,hg,aT (ae2 (by omega) hr.1),aT (ae2 (by omega) hr.2.1),aT (ae2 (by omega) hr.2.2),dA (by omega)];rfl
  ·intro s hs cH;dsimp only;rw[gf (by omega),cond_false]
 ·intro i s hi hi2 hs hg cH;have hr:=h.n _ (nS hi2);dsimp only;rw[dB (by omega),cond_true,gD (by omega) (by simpa using hi),ake hi,hg,aT (ae2 (by omega) hr),dA (by omega)];rfl
 ·intro s hs cH;dsimp only;rw[gf (by omega),cond_false]
theorem yM(h:aCc p q)(hq:ir q):kT p q=some (jw p q):=by
 obtain⟨w1,w2⟩:=aiv h;have h1:=h.x0;have h2:=h.x1;have qn:=hq.an;have qe:=hq.ae;unfold kT jw;rw[w1,w2,bC (bB (by omega))];rw[jM q.aM (λn=>[oz q.next.x0 (p.next.x1-p.next.x0) n]) 1 (λn _=>by simp) λi hi s hs cH=>?_]
 ·rw[bC (bB (by omega))];rw[jM q.aK (λn=>[oA q.next.x0 (p.next.x1-p.next.x0) n]) 1 (λn _=>by simp) λi hi s hs cH=>?_]
  ·simp only[nil_append,aaf]
  ·have hr:=h.e _ (nS hi);simp only[length_nil] at hs;rw[ck hi,aT (vU (by omega) hr.1),aT (vU (by omega) hr.2.1),aT (vU (by omega) hr.2.2),bC (by omega)];rfl
 ·have hr:=h.n _ (nS hi);simp only[length_nil] at hs;rw[ck hi,aT (vU (by omega) hr),bC (by omega)];rfl
theorem aeT(hp:ir p)(hq:ir q):tf p q=some (mm p q):=qJ ⟨hp.rn,hp.re,hp.va,hq.rn,hq.re,hq.va⟩
theorem adU{α:Type}(b:α->Bool)(l:List α):(l.flatMap λa=>if b a=true then [] else [a])=l.filter λa=>!b a:=by
 induction l with
 |nil=>rfl
 |cons x l ih=>rw[flatMap_cons,ih,filter_cons];cases b x<;>simp
theorem aDU(hp:ir p)(hq:ir q):gZ p q=some (mm p q):=by
 have q1:=hq.rn;have q2:=hq.re;have q3:=hq.va;unfold gZ;rw[aT (wJ hq),bC (bB (by omega))];rw[jM q.au (λn=>if bR p n.id=true then [] else [n]) 1 (λn _=>by split<;>simp) λi hi s hs cH=>?_,adU]
 ·rw[bC (bB (by omega))];rw[jM q.aC (λn=>if ark p n.id=true then [] else [n]) 1 (λn _=>by split<;>simp) λi hi s hs cH=>?_,adU]
  ·rw[bC (bB (by omega))];rw[jM q.values (λv=>if (p8 p v.id v.attr).isSome=true then [] else [v]) 1 (λn _=>by split<;>simp) λi hi s hs cH=>?_,adU]
   ·unfold mm;simp only[nil_append,cA,aF.mk.injEq,true_and];refine⟨rfl,?_,?_⟩
    ·refine filter_congr λx _=>?_
     unfold ark;congr 2;funext y;rw[decide_eq_decide];exact⟨λh=>h.symm,λh=>h.symm⟩
    ·refine⟨filter_congr λv _=>?_,trivial⟩;congr 1;rw[Bool.eq_iff_iff,nK,any_eq_true];simp only[and_eq_true,decide_eq_true_eq];exact⟨λ⟨w,h1,h2,h3⟩=>⟨w,h1,h2.symm,h3.symm⟩,λ⟨w,h1,h2,h3⟩=>⟨w,h1,h2.symm,h3.symm⟩⟩
   ·simp only[length_nil] at hs;rw[ck hi,aT (ae1 hp.va _ _),bC (by omega)];cases p8 p q.values[i].id q.values[i].attr<;>simp
  ·simp only[length_nil] at hs;rw[ck hi,aT (aDS hp.re _),bC (by omega)];cases ark p q.aC[i].id<;>simp
 ·simp only[length_nil] at hs;rw[ck hi,aT (vk hp.rn _),bC (by omega)];cases bR p q.au[i].id<;>simp
theorem aeU(hq:ir q){x:az}(hx:x.nodes.length<=1000000)(hv:x.host.values.length=x.nodes.length)(hs:∀n∈q.au,∀k,(hk:k<x.nodes.length)->x.nodes[k]=n.id->x.host.values[k]'(by omega)=n.values):dX q x=some q:=by
  have q1:=hq.rn;unfold dX;rw[aT (wJ hq)];rw[agH (λn=>n) q.au hq.rn]
  · simp
  · intro i s hi hi2 hs' hg cH;dsimp only;rw[dB (by omega),cond_true,bC (bB (by omega))];have aaY:s.set i q.au[i]=s:=by rw[<-hg];exact set_getElem_self hi
    have key:=(sk (O:=aF) (K:=λam5=>cH ((i64.wrap (((i:Nat):Int)+1)),am5)) (s:=s) (f:=λaCQ (am5:(List ah)) am6 aFP =>
    thn (x.nodes[aCQ]?) λaFQ =>
    thn (nO am5 ((i:Nat):Int)) λazM =>
    cond (decide (aFQ=azM.id)) (
     thn (x.host.values[aCQ]?) λaCR =>
     cT (aCR.length<=68719476736) <|
     am6 (am5.set ((i:Nat):Int).toNat (⟨azM.id,azM.type,aCR⟩:ah))) <|
    am6 am5) x.nodes (λs' _=>s') (λ_ s'=>s'=s) rfl λk hk s' e=>by
      subst e;refine⟨λcH=>?_,rfl⟩;rw[ck hk,gD (by omega) (by simpa using hi),ake hi,hg,aY];split
      · rename_i he;have hval:=hs _ (nS hi2) k hk he;have hr:=hq.rv _ (nS hi2);rw[ck (show k<x.host.values.length by omega),hval,bC (by omega)];congr 1
      · rfl).1
    rw[key];have:x.nodes.foldl (λ(s':List ah) _=>s') s=s:=by
      induction x.nodes with
      |nil=>rfl
      |cons a l ih=>rw[foldl_cons];exact ih
    rw[this,aaY,dA (by omega)];rfl
  · intro s hs' cH;dsimp only;rw[gf (by omega),cond_false]
end
def adV(g:eY)(k i:Int)(out:Bool):Int:=(((g.ak.filter λe=>decide (e.type=k)&&(if out=true then decide (e.src=i) else decide (e.dst=i))).length:Nat):Int)
def azN(t:Types)(g:eY)(k:Int)(out:Bool)(kind low high:Int)(i:Nat):Bool:=isB t (g.nodes.getD i default) kind&&(decide (adV g k (i:Int) out<low)||(decide (0<=high)&&decide (high<adV g k (i:Int) out)))
def qY(t:Types)(g:eY)(k:Int)(out:Bool)(kind low high:Int):List cI:=((range g.nodes.length).filter (azN t g k out kind low high)).map λi:Nat=>⟨k,(i:Int),adV g k (i:Int) out,out⟩
def aeV(t:Types)(g:eY)(k:Nat):List cI:=qY t g (k:Int) true (t.ak.getD k default).src (t.ak.getD k default).nN (t.ak.getD k default).j5++qY t g (k:Int) false (t.ak.getD k default).dst (t.ak.getD k default).tH (t.ak.getD k default).oh
def agI(t:Types)(h:Host):List cI:=(range t.ak.length).flatMap (aeV t h.graph)
theorem am7{O:Type}{f:Nat->Int->(Int->Option O)->(Int->Option O)->Option O}{K:Int->Option O}(l:List Edge)(hl:l.length<=1000000)(b:Edge->Bool)
  (h:∀i (hi:i<l.length) (s:Int) cH,f i s cH K=cH (if b l[i]=true then i64.wrap (s+1) else s)):cr f (l.length-0) 0 0 K=K (((l.filter b).length:Nat):Int):=by
 have key:∀ (m i:Nat) (s:Nat),i+m=l.length->s<=i->cr f m i (s:Int) K=K (((s+((l.drop i).filter b).length:Nat)):Int):=by
  intro m
  induction m with
  |zero=>intro i s hi hs;rw[drop_eq_nil_of_le (by omega)];rfl
  |succ m ih =>
   intro i s hi hs;have hlt:i<l.length:=by omega
   rw[cr,h i hlt,drop_eq_getElem_cons hlt,filter_cons];split
   ·rw[dA (by omega),show ((s:Nat):Int)+1=((s+1:Nat):Int) from rfl,ih (i+1) (s+1) (by omega) (by omega)];rw[length_cons,Nat.add_assoc,Nat.add_comm 1]
   ·exact ih (i+1) s (by omega) (by omega)
 have:=key (l.length-0) 0 0 (by omega) (le_refl _);simpa using this
section
variable{t:Types}{h:Host}
theorem pg.okT(hf:fm t)(hh:pg t h):OkT t:=sA hf hh.types
theorem pg.aCS(hh:pg t h){i:Nat}(hi:i<h.graph.nodes.length):0<=h.graph.nodes[i]/\h.graph.nodes[i]<t.nodes.length:=by
 have h1:=(hh.graph.kind i hi).1;have h2:=hh.node i hi;have hg:h.graph.nodes.getD i default=h.graph.nodes[i]:=by simp[hi]
 rw[hg] at h1 h2;unfold kZ at h2;split at h2
 ·cases h2
 ·omega
theorem azO(hf:fm t)(ho:OkT t){k:Nat}(hk:k<t.ak.length):(0<=t.ak[k].src/\t.ak[k].src<t.nodes.length)/\0<=t.ak[k].dst/\t.ak[k].dst<t.nodes.length:=by
 have:=ho.ends hk;have hg:t.ak.getD k default=t.ak[k]:=by simp[hk]
 rw[hg] at this;unfold inB at this;simp only[and_eq_true,decide_eq_true_eq] at this;exact this
theorem aJt(hf:fm t)(hv:(gH t).2=0){a b:Int}(ha:0<=a/\a<t.nodes.length)(hb:0<=b/\b<t.nodes.length):u7 t a b=some (isB t a b):=by
 unfold u7;have hg:qI t [a,b]=0:=by unfold qI;rw[if_neg (λh=>h hv),if_neg];simp only[any_cons,any_nil,Bool.or_false];unfold inB;rw[dB ha.1,dB ha.2,dB hb.1,dB hb.2];simp
 rw[aT (show wq t [a,b]=_ from qJ ⟨hf,by simp⟩),hg,dB rfl,cond_true,aT (show abw t a b=_ from qJ ⟨sA hf hv,ha⟩)]
theorem azP(hf:fm t)(hv:(gH t).2=0){a b:Int}(ha:0<=a/\a<t.nodes.length)(hb:0<=b):iE t a b=some (isB t a b):=qJ ⟨hf,sA hf hv,ha.1,ha.2,hb⟩
theorem aCe(g:eY)(hg:g.ak.length<=1000000)(k i:Int)(out:Bool):fu g k i out=some (adV g k i out):=by
 unfold fu adV;rw[bC (bB (by omega)),am7 g.ak hg (λe=>decide (e.type=k)&&(if out=true then decide (e.src=i) else decide (e.dst=i))) λj hj s cH=>?_];rw[ck hj];by_cases h1:g.ak[j].type=k
 ·rw[dB h1,cond_true,Bool.true_and];cases out with
  |true=>rw[cond_true,if_pos rfl];by_cases h2:g.ak[j].src=i<;>simp[h2]
  |false=>rw[cond_false];by_cases h2:g.ak[j].dst=i<;>simp[h2]
 ·rw[gf h1,cond_false,Bool.false_and,if_neg (by simp)]
theorem lC(g:eY)(k:Int)(out:Bool)(kind low high:Int):(qY t g k out kind low high).length<=g.nodes.length:=by unfold qY;rw[length_map];refine le_trans (length_filter_le _ _) ?_;rw[length_range];exact le_refl _
theorem yN(hf:fm t)(hh:pg t h)(k:Int)(out:Bool){kind low high:Int}(hk:0<=kind/\kind<t.nodes.length):kU t h k out kind low high=some (qY t h.graph k out kind low high):=by
 have hn:=hh.graph.nodes;have he:=hh.graph.ak;unfold kU qY;rw[bC (bB (by omega))];rw[nL h.graph.nodes.length (λi=>if azN t h.graph k out kind low high i=true then [(⟨k,(i:Int),adV h.graph k (i:Int) out,out⟩:cI)] else []) 1 (λi _=>by split<;>simp) λi hi s hs cH=>?_,lI]
 ·rfl
 ·simp only[length_nil] at hs;have hg:h.graph.nodes.getD i default=h.graph.nodes[i]:=by simp[hi]
  rw[ck hi,aT (aJt hf hh.types (hh.aCS hi) hk)];unfold azN;rw[hg];cases isB t h.graph.nodes[i] kind with
  |false=>simp
  |true =>
   rw[cond_true,bC (bB (by omega)),am7 h.graph.ak (by omega) (λe=>decide (e.type=k)&&(if out=true then decide (e.src=(i:Int)) else decide (e.dst=(i:Int)))) λj hj s cH=>?_]
   ·rw[bC (by omega)];show cond (decide (adV h.graph k (i:Int) out<low)) _ (cond (decide (0<=high)) (cond (decide (high<adV h.graph k (i:Int) out)) _ _) _)=_;cases decide (adV h.graph k (i:Int) out<low)<;>cases decide (0<=high)<;>cases decide (high<adV h.graph k (i:Int) out)<;>simp<;>rfl
   ·rw[ck hj];by_cases h1:h.graph.ak[j].type=k
    ·rw[dB h1,cond_true,Bool.true_and];cases out with
     |true=>rw[cond_true,if_pos rfl];by_cases h2:h.graph.ak[j].src=(i:Int)<;>simp[h2]
     |false=>rw[cond_false];by_cases h2:h.graph.ak[j].dst=(i:Int)<;>simp[h2]
    ·rw[gf h1,cond_false,Bool.false_and,if_neg (by simp)]
theorem aqm(hf:fm t)(hh:pg t h)(hb:tT h):nC t h=some (agI t h,0):=by
 have hn:=hh.graph.nodes;have hE:=hf.ak;unfold nC agI;rw[aT (show qP t h=some 0 by unfold qP;rw[aT (acP hf hb),qt.2 hh]),dB rfl,cond_true,bC (bB (by omega))];have hlen:∀k,(aeV t h.graph k).length<=80:=λk=>by unfold aeV;rw[length_append];have h1:=lC (t:=t) h.graph (k:Int) true (t.ak.getD k default).src (t.ak.getD k default).nN (t.ak.getD k default).j5;have h2:=lC (t:=t) h.graph (k:Int) false (t.ak.getD k default).dst (t.ak.getD k default).tH (t.ak.getD k default).oh;omega
 rw[nL t.ak.length (aeV t h.graph) 80 (λk _=>hlen k) λi hi s hs cH=>?_]
 ·rfl
 ·simp only[length_nil] at hs;have hg:t.ak.getD i default=t.ak[i]:=by simp[hi]
  obtain⟨r1,r2⟩:=azO hf (hh.okT hf) hi;rw[ck hi,aT (yN hf hh _ _ r1)];have h1:=lC (t:=t) h.graph (i:Int) true t.ak[i].src t.ak[i].nN t.ak[i].j5;have h2:=lC (t:=t) h.graph (i:Int) false t.ak[i].dst t.ak[i].tH t.ak[i].oh;have:80 * i<=80 * t.ak.length:=Nat.mul_le_mul_left _ (by omega);rw[bC (by omega),aT (yN hf hh _ _ r2),bC (by omega)];unfold aeV;rw[hg,append_assoc]
theorem am8(hf:fm t)(hh:pg t h)(hb:tT h):gL t h=some (agI t h,0):=by
  have hn:=hh.graph.nodes;have he:=hh.graph.ak;have hE:=hf.ak;unfold gL agI;rw[aT (wD hf hb),qt.2 hh,dB rfl,cond_true,bC (bB (by omega))];have hlen:∀k,(aeV t h.graph k).length<=80:=λk=>by unfold aeV;rw[length_append];have h1:=lC (t:=t) h.graph (k:Int) true (t.ak.getD k default).src (t.ak.getD k default).nN (t.ak.getD k default).j5;have h2:=lC (t:=t) h.graph (k:Int) false (t.ak.getD k default).dst (t.ak.getD k default).tH (t.ak.getD k default).oh;omega
  rw[nL t.ak.length (aeV t h.graph) 80 (λk _=>hlen k) λi hi s hs cH=>?_]
  · rfl
  · simp only[length_nil] at hs;have hg:t.ak.getD i default=t.ak[i]:=by simp[hi]
    obtain⟨r1,r2⟩:=azO hf (hh.okT hf) hi;have hb1:80 * i<=80 * t.ak.length:=Nat.mul_le_mul_left _ (by omega);have hs':s.length<=1000000:=by omega
    have key : ∀ (out : Bool) (kind low high : Int) (s : List cI) (cH : List cI → Option (List cI × Int)), s.length ≤ 2000000 → (0 ≤ kind ∧ kind < t.nodes.length) →
        (cT (h.graph.nodes.length<=fuel) <|
     cr (λarl (acX:(List cI)) aag aFR =>
      thn (h.graph.nodes[arl]?) λaFS =>
      thn (iE t aFS kind) λaFT =>
      cond aFT (
       thn (fu h.graph ((i:Nat):Int) ((arl:Nat):Int) out) λarn =>
       cond (decide (arn<low)) (
        cT (acX.length+1<=68719476736) <|
        aag (acX++[(⟨((i:Nat):Int),((arl:Nat):Int),arn,out⟩:cI)])) <|
       cond (decide (0<=high)) (
        cond (decide (high<arn)) (
         cT (acX.length+1<=68719476736) <|
         aag (acX++[(⟨((i:Nat):Int),((arl:Nat):Int),arn,out⟩:cI)])) <|
        aag acX) <|
       aag acX) <|
      aag acX)
     (h.graph.nodes.length-0) 0 s λacX =>
     cH acX)=cH (s++qY t h.graph (i:Int) out kind low high):=by
      intro out kind low high s cH hs hk;rw[bC (bB (by omega))];rw[nL h.graph.nodes.length (λj=>if azN t h.graph (i:Int) out kind low high j=true then [(⟨(i:Int),(j:Int),adV h.graph (i:Int) (j:Int) out,out⟩:cI)] else []) 1 (λi _=>by split<;>simp) λj hj s2 hs2 cH=>?_,lI]
      · rfl
      · have hgj:h.graph.nodes.getD j default=h.graph.nodes[j]:=by simp[hj]
        rw[ck hj,aT (azP hf hh.types (hh.aCS hj) hk.1),aT (aCe h.graph (by omega) _ _ _),bC (by omega)];unfold azN;rw[hgj];cases isB t h.graph.nodes[j] kind with
        |false=>simp
        |true=>simp only[cond_true,Bool.true_and];all_goals(cases decide (adV h.graph (i:Int) (j:Int) out<low)<;>cases decide (0<=high)<;>cases decide (high<adV h.graph (i:Int) (j:Int) out)<;>simp<;>rfl)
    have h1:=lC (t:=t) h.graph (i:Int) true t.ak[i].src t.ak[i].nN t.ak[i].j5;rw[ck hi,bC (bB (by omega))];rw[agF (r1:=s++qY t h.graph (i:Int) true t.ak[i].src t.ak[i].nN t.ak[i].j5) (r2:=s++qY t h.graph (i:Int) true t.ak[i].src t.ak[i].nN t.ak[i].j5++qY t h.graph (i:Int) false t.ak[i].dst t.ak[i].tH t.ak[i].oh) (λcH=>key true _ _ _ s cH (by omega) r1) (λcH=>key false _ _ _ _ cH (by rw[length_append];omega) r2)];unfold aeV;rw[hg,append_assoc]
end
end Go.Proofs.YtjhkgjlmiolfoaaGreat
