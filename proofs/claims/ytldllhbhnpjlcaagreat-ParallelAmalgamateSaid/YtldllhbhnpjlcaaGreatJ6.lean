/- Joined texts, part 6: lemmas for the statement. No condition. -/
import Derived.Test.YtldllhbhnpjlcaaGreatJ4
import Derived.Test.YtldllhbhnpjlcaaGreatJ5
set_option maxHeartbeats 4000000
set_option linter.unusedSimpArgs false
set_option linter.unusedVariables false
open Nat (reduceEqDiff reduceLT reduceLeDiff reduceMul reduceAdd reduceSub)
open Go.IntKind (i64)
open Go.Proofs.Tryz
open Go.Proofs.Tryz renaming prog → pw
set_option maxRecDepth 20000
namespace Go.Proofs.YtldllhbhnpjlcaaGreat
open Go.bP
noncomputable section
theorem xT  (r:aF)(h:mg  = some r):aZ pw 40 [] (λv=>v = .agg [.p (.val (.string r.name)),.row 3 1 (r.left.graph.nodes.map encI),.p (.aE (r.left.graph.ag.map ay)),.p (.aE (r.left.slots.map aL)),.p (.val (.int .i64 r.left.vars)),.p (.aE (r.left.tests.map aM)),.row 3 1 (r.right.graph.nodes.map encI),.row 165 3 (r.right.graph.ag.map ay),.p (.aE (r.right.slots.map aL)),.p (.val (.int .i64 r.right.vars)),.p (.aE (r.right.tests.map aM)),.row 3 1 (r.keep.nodes.map encI),.p (.aE (r.keep.ag.map encI)),.row 3 1 (r.into.nodes.map encI),.p (.aE (r.into.ag.map encI)),.p (.val (.bool r.injective)),.p (.val (.int .i64 r.condition.kind)),.p (.aE (r.condition.kids.map aI)),.p (.aE (r.condition.map.nodes.map encI)),.p (.aE (r.condition.map.ag.map encI)),.p (.aE (r.condition.pattern.graph.nodes.map encI)),.p (.aE (r.condition.pattern.graph.ag.map ay)),.p (.aE (r.condition.pattern.slots.map aL)),.p (.val (.int .i64 r.condition.pattern.vars)),.p (.aE (r.condition.pattern.tests.map aM))]):=by refine aZ.tj ?_;refine bl [2,4,6,11,13] func40 ?_;rw[ntmps40,results40];unfold mg at h;have F:=trivial;exact fQ h
theorem wF(a0:List Edge)(p1:Edge->Option Bool)(k1:FuncId)(fs1 cs1:List PV)(hp1:∀x0 r,p1 x0=some r->aB pw k1 (fs1++[.agg (ay x0)]++cs1) (λv=>v = .val (.bool r)))(r:Int)(h:gI a0 p1=some r):aB pw 298 [.aE (a0.map ay),.jF (.func k1) fs1 cs1] (λv=>v = .val (.int .i64 r)):=by
 refine aB.eV ?_;refine aC [] func298 ?_;rw[ntmps298,results298];unfold gI at h;have F:=trivial;refine zV ?_;refine zN F h () [0,1,7] (λx=>[(8,.p (.val (.int .i64 ((x.1.1:Nat):Int))))]) [] (λx H=>[]) ?_ ?_
 ·intro i2 s2 g2 _ _ F kN h;try dsimp only at h
  refine zI ay F h λe3 F h=>?_
  refine zP F h (hp1 _) λr4 h=>?_
  refine zB F h (λF h=>?_) λF h=>?_
  ·exact zR h
  ·exact zX (z:=kN _ () h zW)
 ·intro i2 s2 g2 _ F h;try dsimp only at h
  exact zR h
theorem yI(a0:List Int)(a1:Int)(r:Int)(h:kA a0 a1=some r):aB pw 299 [.aE (a0.map encI),.val (.int .i64 a1)] (λv=>v = .val (.int .i64 r)):=by
 refine aB.eV ?_;refine aC [] func299 ?_;rw[ntmps299,results299];unfold kA at h;have F:=trivial;refine zV ?_;refine zN F h () [0,1,7,8] (λx=>[(9,.p (.val (.int .i64 ((x.1.1:Nat):Int))))]) [] (λx H=>[]) ?_ ?_
 ·intro i2 s2 g2 _ _ F kN h;try dsimp only at h
  refine zI encI F h λe3 F h=>?_
  refine jj F h (λF h=>?_) λF h=>?_
  ·exact zR h
  ·refine zB F h (λF h=>?_) λF h=>?_
   ·exact zR h
   ·refine eZ F h (λF h=>?_) λF h=>?_
    ·refine zA encI F h λe4 F h=>?_
     refine zB F h (λF h=>?_) λF h=>?_
     ·exact zR h
     ·exact zX (z:=kN _ () h zW)
    ·exact zX (z:=kN _ () h zW)
 ·intro i2 s2 g2 _ F h;try dsimp only at h
  exact zR h
theorem ue(a0:Int)(r:Bool)(h:iR a0=some r):aB pw 219 [.val (.int .i64 a0)] (λv=>v = .val (.bool r)):=by refine aB.eV ?_;refine aC [] func219 ?_;rw[ntmps219,results219];unfold iR at h;have F:=trivial;exact zR h
theorem nU(a0:aj)(r:Bool)(h:gK a0=some r):aB pw 402 [.agg (aI a0)] (λv=>v = .val (.bool r)):=by
 refine aB.eV ?_;refine aC [] func402 ?_;rw[ntmps402,results402];unfold gK at h;have F:=trivial;refine eZ F h (λF h=>?_) λF h=>?_
 ·exact zR h
 ·exact zR h
theorem qO(a0:Int)(a1:Int)(r:Bool)(h:iU a0 a1=some r):aB pw 72 [.val (.int .i64 a0),.val (.int .i64 a1)] (λv=>v = .val (.bool r)):=by
 refine aB.eV ?_;refine aC [] func72 ?_;rw[ntmps72,results72];unfold iU at h;have F:=trivial;refine jj F h (λF h=>?_) λF h=>?_
 ·exact zR h
 ·exact zR h
theorem rL(a0:List Int)(a1:List Int)(r:(List Int)×Bool)(h:gM a0 a1=some r):aZ pw 68 [.aE (a0.map encI),.aE (a1.map encI)] (λv=>v = .dg [.row 3 1 (r.1.map encI),.p (.val (.bool r.2))]):=by
 refine aZ.tj ?_;refine bl [49] func68 ?_;rw[ntmps68,results68];unfold gM at h;have F:=trivial;refine zV ?_;refine zN F h (0:Nat) [0,1,9] (λx=>[(6,.row 3414 x.2),(10,.p (.val (.int .i64 ((x.1.1:Nat):Int))))]) [] (λx H=>[(3414,.row x.2 3 1 (x.1.2.map encI))]) ?_ ?_ (hw:=by refine fE.trans (jg 6 3414 3 1 rfl rfl (by decide)) ?_;exact zW)
 ·intro i2 s2 g2 _ _ F kN h;try dsimp only at h
  refine zD [.q,.q,.q,.q,.q,.q,.q,.q,.q,.q,.q,.q,.q,.q,.q,.q,.q,.q,.q,.q,.q,.q,.q] ?_;refine zI encI F h λe3 F h=>?_
  refine zBd F h (λF h=>?_) λF h=>?_
  ·refine zI encI F h λe4 F h=>?_
   refine zBd F h (λF h=>?_) λF h=>?_
   ·refine cG F h (λF h=>?_) λF h=>?_
    ·refine zD [.q,.q,.q,.q,.q,.q,.q,.q,.q,.q] ?_;refine zB F h (λF h=>?_) λF h=>?_
     ·refine zC F h λF h=>?_
      refine zF (eq_true (show (s2.length+1) * 8<=140737488355328 by omega)) F λF=>?_
      refine zF (bK encI s2 [((i2:Nat):Int)] (c:=[[.val (.int .i64 ((i2:Nat):Int))]]) rfl) F λF=>?_
      exact zX (z:=kN _ (g2+1) h zW)
     ·exact zX (z:=kN _ g2 h zW)
    ·exact fQ h
   ·refine zD [.q,.q,.q,.q,.q,.q,.q,.q,.q,.q] ?_;refine zB F h (λF h=>?_) λF h=>?_
    ·refine zC F h λF h=>?_
     refine zF (eq_true (show (s2.length+1) * 8<=140737488355328 by omega)) F λF=>?_
     refine zF (bK encI s2 [((i2:Nat):Int)] (c:=[[.val (.int .i64 ((i2:Nat):Int))]]) rfl) F λF=>?_
     exact zX (z:=kN _ (g2+1) h zW)
    ·exact zX (z:=kN _ g2 h zW)
  ·refine zD [.q,.q,.q,.q,.q,.q,.q,.q,.q,.q] ?_;refine zI encI F h λe5 F h=>?_
   refine zB F h (λF h=>?_) λF h=>?_
   ·refine zC F h λF h=>?_
    refine zF (eq_true (show (s2.length+1) * 8<=140737488355328 by omega)) F λF=>?_
    refine zF (bK encI s2 [((i2:Nat):Int)] (c:=[[.val (.int .i64 ((i2:Nat):Int))]]) rfl) F λF=>?_
    exact zX (z:=kN _ (g2+1) h zW)
   ·exact zX (z:=kN _ g2 h zW)
 ·intro i2 s2 g2 _ F h;try dsimp only at h
  exact fQ h
theorem o4(a0:Types)(a1:au)(r:Bool)(h:ff a0 a1=some r):aB pw 125 [.agg [.aE (a0.nodes.map az),.aE (a0.ag.map aA)],.agg [.aE (a1.nodes.map encI),.aE (a1.ag.map ay)]] (λv=>v = .val (.bool r)):=by
 refine aB.eV ?_;refine aC [] func125 ?_;rw[ntmps125,results125];unfold ff at h;have F:=trivial;refine zV ?_;refine zN F h () [2,3] (λx=>[(5,.p (.val (.int .i64 ((x.1.1:Nat):Int))))]) [2,3] (λx H=>[]) ?_ ?_
 ·intro i2 s2 g2 _ _ F kN h;try dsimp only at h
  refine zD [.q,.q,.q,.q,.q,.q,.q,.q,.q,.q,.q,.q,.q,.q,.q,.q,.q] ?_;refine zI encI F h λe3 F h=>?_
  refine ayM F h (λF h=>?_) λF h=>?_
  ·exact zR h
  ·refine zB F h (λF h=>?_) λF h=>?_
   ·exact zR h
   ·exact zX (z:=kN _ () h zW)
 ·intro i2 s2 g2 _ F h;try dsimp only at h
  refine zV ?_;refine zN F h () [2,3] (λx=>[(6,.p (.val (.int .i64 ((x.1.1:Nat):Int))))]) [2,3] (λx H=>[]) ?_ ?_
  ·intro i4 s4 g4 _ _ F Ns4 h;try dsimp only at h
   refine zD [.q,.q,.q,.q,.q,.q,.q,.q,.q,.q,.q,.q,.q,.q,.q,.q,.q,.q,.q] ?_;refine zI ay F h λe5 F h=>?_
   refine ayM F h (λF h=>?_) λF h=>?_
   ·exact zR h
   ·refine zB F h (λF h=>?_) λF h=>?_
    ·exact zR h
    ·exact zX (z:=Ns4 _ () h zW)
  ·intro i4 s4 g4 _ F h;try dsimp only at h
   exact zR h
theorem o5(a0:List Int)(a1:Int)(r:Int)(h:fh a0 a1=some r):aB pw 207 [.aE (a0.map encI),.val (.int .i64 a1)] (λv=>v = .val (.int .i64 r)):=by
 refine aB.eV ?_;refine aC [] func207 ?_;rw[ntmps207,results207];unfold fh at h;have F:=trivial;refine zV ?_;refine zN F h () [0,1] (λx=>[(5,.p (.val (.int .i64 ((x.1.1:Nat):Int))))]) [] (λx H=>[]) ?_ ?_
 ·intro i2 s2 g2 _ _ F kN h;try dsimp only at h
  refine zI encI F h λe3 F h=>?_
  refine zB F h (λF h=>?_) λF h=>?_
  ·exact zR h
  ·exact zX (z:=kN _ () h zW)
 ·intro i2 s2 g2 _ F h;try dsimp only at h
  exact zR h
theorem iu(a0:List Int)(r:Bool)(h:cH a0=some r):aB pw 61 [.aE (a0.map encI)] (λv=>v = .val (.bool r)):=by
 refine aB.eV ?_;refine aC [] func61 ?_;rw[ntmps61,results61];unfold cH at h;have F:=trivial;refine zV ?_;refine zN F h () [0] (λx=>[(3,.p (.val (.int .i64 ((x.1.1:Nat):Int))))]) [] (λx H=>[]) ?_ ?_
 ·intro i1 s1 g1 _ _ F Ns1 h;try dsimp only at h
  refine zV ?_;refine zN F h () [0,3] (λx=>[(4,.p (.val (.int .i64 ((x.1.1:Nat):Int))))]) [] (λx H=>[]) ?_ ?_
  ·intro i2 s2 g2 _ _ F kN h;try dsimp only at h
   refine zD [.q,.q,.q,.q,.q,.q,.q,.q,.q] ?_;refine zI encI F h λe3 F h=>?_
   refine zI encI F h λe4 F h=>?_
   refine zB F h (λF h=>?_) λF h=>?_
   ·exact zR h
   ·exact zX (z:=kN _ () h zW)
  ·intro i2 s2 g2 _ F h;try dsimp only at h
   exact zX (z:=Ns1 _ () h zW)
 ·intro i1 s1 g1 _ F h;try dsimp only at h
  exact zR h
theorem jb(a0:aj)(r:Bool)(h:dc a0=some r):aB pw 360 [.agg (aI a0)] (λv=>v = .val (.bool r)):=by
 refine aB.eV ?_;refine aC [] func360 ?_;rw[ntmps360,results360];unfold dc at h;have F:=trivial;refine eZ F h (λF h=>?_) λF h=>?_
 ·refine eZ F h (λF h=>?_) λF h=>?_
  ·exact zR h
  ·exact zR h
 ·exact zR h
end
noncomputable section
theorem xU(a0:List Int)(p1:Int->Option Bool)(k1:FuncId)(fs1 cs1:List PV)(hp1:∀x0 r,p1 x0=some r->aB pw k1 (fs1++[.val (.int .i64 x0)]++cs1) (λv=>v = .val (.bool r)))(r:Int)(h:ia a0 p1=some r):aB pw 106 [.aE (a0.map encI),.jF (.func k1) fs1 cs1] (λv=>v = .val (.int .i64 r)):=by
 refine aB.eV ?_;refine aC [] func106 ?_;rw[ntmps106,results106];unfold ia at h;have F:=trivial;refine zV ?_;refine zN F h () [0,1,7] (λx=>[(8,.p (.val (.int .i64 ((x.1.1:Nat):Int))))]) [] (λx H=>[]) ?_ ?_
 ·intro i2 s2 g2 _ _ F kN h;try dsimp only at h
  refine zI encI F h λe3 F h=>?_
  refine zP F h (hp1 _) λr4 h=>?_
  refine zB F h (λF h=>?_) λF h=>?_
  ·exact zR h
  ·exact zX (z:=kN _ () h zW)
 ·intro i2 s2 g2 _ F h;try dsimp only at h
  exact zR h
theorem wG(a0:aF)(r:Bool)(h:fG a0=some r):aB pw 118 [.agg (aQ a0)] (λv=>v = .val (.bool r)):=by
 refine aB.eV ?_;refine aC [] func118 ?_;rw[ntmps118,results118];unfold fG at h;have F:=trivial;refine eZ F h (λF h=>?_) λF h=>?_
 ·refine eZ F h (λF h=>?_) λF h=>?_
  ·exact zR h
  ·exact zR h
 ·exact zR h
theorem bQ(a0:List Int)(a1:List Int)(r:Bool)(h:bu a0 a1=some r):aB pw 25 [.aE (a0.map encI),.aE (a1.map encI)] (λv=>v = .val (.bool r)):=by
 refine aB.eV ?_;refine aC [] func25 ?_;rw[ntmps25,results25];unfold bu at h;have F:=trivial;refine cG F h (λF h=>?_) λF h=>?_
 ·refine zV ?_;refine zN F h () [0,1,12] (λx=>[(13,.p (.val (.int .i64 ((x.1.1:Nat):Int))))]) [] (λx H=>[]) ?_ ?_
  ·intro i2 s2 g2 _ _ F kN h;try dsimp only at h
   refine zD [.q,.q,.q,.q,.q,.q,.q,.q,.q] ?_;refine zI encI F h λe3 F h=>?_
   refine zI encI F h λe4 F h=>?_
   refine cG F h (λF h=>?_) λF h=>?_
   ·exact zX (z:=kN _ () h zW)
   ·exact zR h
  ·intro i2 s2 g2 _ F h;try dsimp only at h
   exact zR h
 ·exact zR h
theorem aco(a0:Edge)(a1:Types)(r:Bool)(h:mU a0 a1=some r):aB pw 385 [.agg (ay a0),.fq [.aE (a1.nodes.map az),.aE (a1.ag.map aA)] 0] (λv=>v = .val (.bool r)):=by refine aB.eV ?_;refine aC [] func385 ?_;rw[ntmps385,results385];unfold mU at h;have F:=trivial;exact zR h
theorem sW(a0:cE)(r:(List Int))(h:jM a0=some r):aZ pw 334 [.agg (fe a0)] (λv=>v = .row 3 1 (r.map encI)):=by
 refine aZ.tj ?_;refine bl [24] func334 ?_;rw[ntmps334,results334];unfold jM at h;have F:=trivial;refine zV ?_;refine zN F h (0:Nat) [1,8,9] (λx=>[(3,.row 4559 x.2),(10,.p (.val (.int .i64 ((x.1.1:Nat):Int))))]) [1] (λx H=>[(4559,.row x.2 3 1 (x.1.2.map encI))]) ?_ ?_ (hw:=by refine fE.trans (jg 3 4559 3 1 rfl rfl (by decide)) ?_;exact zW)
 ·intro i1 s1 g1 _ _ F Ns1 h;try dsimp only at h
  refine zI encI F h λe2 F h=>?_
  refine zK F h (cc _ _) λr3 h=>?_
  refine cG F h (λF h=>?_) λF h=>?_
  ·exact zX (z:=Ns1 _ g1 h zW)
  ·refine zC F h λF h=>?_
   refine zF (eq_true (show (s1.length+1) * 8<=140737488355328 by omega)) F λF=>?_
   refine zF (bK encI s1 [e2] (c:=[[.val (.int .i64 e2)]]) rfl) F λF=>?_
   exact zX (z:=Ns1 _ (g1+1) h zW)
 ·intro i1 s1 g1 _ F h;try dsimp only at h
  exact fQ h
theorem aev(a0:Host)(r:Host)(h:rZ a0=some r):aZ pw 181 [.agg (jW a0)] (λv=>v = .agg [.row 3 1 (r.graph.nodes.map encI),.row 165 3 (r.graph.ag.map ay),.row 35 1 (r.values.map dw)]):=by
 refine aZ.tj ?_;refine bl [28,29] func181 ?_;rw[ntmps181,results181];unfold rZ at h;have F:=trivial;refine zE [(0,.q),(1,.q),(2,.q),(4,.q),(5,.q),(6,.q),(3,.f),(7,.f),(8,.q),(9,.q),(10,.w),(11,.s)] ?_;refine zH 1144 F h (bE _) λr1 h=>?_
 refine zH 1208 F h (lf _) λr2 h=>?_
 refine zV ?_;refine zN F h (0:Nat) [2,3,17,18] (λx=>[(19,.p (.val (.int .i64 ((x.1.1:Nat):Int))))]) [2,1144,1208] (λx H=>[(3,bx (H 3) [(2,.row 5200 x.2)]),(5200,.row x.2 35 1 (x.1.2.map dw))]) ?_ ?_ (hw:=by refine fE.trans (eN 3 2 5200 35 1 _ rfl rfl rfl (by decide)) ?_;exact zW)
 ·intro i3 s3 g3 _ _ F sV h;try dsimp only at h
  refine zI dw F h λe4 F h=>?_
  refine zE [(0,.p),(2,.p),(1,.b),(3,.q),(4,.w),(5,.w),(6,.w),(7,.q),(8,.w)] ?_;refine zC F h λF h=>?_
  refine zF (eq_true (show (e4.length) * 8<=140737488355328 by omega)) F λF=>?_
  refine zF (eq_true (eu (n:=1) (f:=encI) (λ_=>rfl) e4)) F λF=>?_
  refine zC F h λF h=>?_
  refine zF (eq_true (show (s3.length+1) * 24<=140737488355328 by omega)) F λF=>?_
  refine zF (bK dw s3 [e4] (c:=[[.aE (e4.map encI)]]) rfl) F λF=>?_
  exact zX (z:=sV _ (g3+1) h zW)
 ·intro i3 s3 g3 _ F h;try dsimp only at h
  exact fQ h
theorem sF(a0:List aG)(a1:List aG)(r:Bool)(h:lq a0 a1=some r):aB pw 267 [.aE (a0.map aL),.aE (a1.map aL)] (λv=>v = .val (.bool r)):=by
 refine aB.eV ?_;refine aC [] func267 ?_;rw[ntmps267,results267];unfold lq at h;have F:=trivial;refine cG F h (λF h=>?_) λF h=>?_
 ·refine zV ?_;refine zL F h () [0,1,12,13] (λx=>[]) [] (λx H=>[]) ?_;intro s2 g2 _ _ F kN h;try dsimp only at h
  refine zB F h (λF h=>?_) λF h=>?_
  ·refine zD [.q,.q,.q,.q,.q,.q,.q,.q,.q] ?_;cases h
  ·try dsimp only at h
   exact zR h
 ·exact zR h
theorem iB(a0:List Int)(r:Bool)(h:eP a0=some r):aB pw 111 [.aE (a0.map encI)] (λv=>v = .val (.bool r)):=by
 refine aB.eV ?_;refine aC [] func111 ?_;rw[ntmps111,results111];unfold eP at h;have F:=trivial;refine zG 1064 F h (bE _) λr1 h=>?_
 refine zM F h (vl 0 _) λr2 h=>?_
 refine zG 1128 F h (bE _) λr3 h=>?_
 refine zMb F h (rJ 0 _) λr4 h=>?_
 exact zR h
theorem yS(a0:Types)(r:Bool)(h:iK a0=some r):aB pw 43 [.agg [.aE (a0.nodes.map az),.aE (a0.ag.map aA)]] (λv=>v = .val (.bool r)):=by
 refine aB.eV ?_;refine aC [] func43 ?_;rw[ntmps43,results43];unfold iK at h;have F:=trivial;refine jj F h (λF h=>?_) λF h=>?_
 ·exact zR h
 ·refine zB F h (λF h=>?_) λF h=>?_
  ·exact zR h
  ·refine zV ?_;refine zN F h () [1] (λx=>[(3,.p (.val (.int .i64 x.1.2))),(4,.p (.val (.int .i64 ((x.1.1:Nat):Int))))]) [1] (λx H=>[]) ?_ ?_
   ·intro i1 s1 g1 _ _ F Ns1 h;try dsimp only at h
    refine zI az F h λe2 F h=>?_
    refine jj F h (λF h=>?_) λF h=>?_
    ·exact zR h
    ·refine zB F h (λF h=>?_) λF h=>?_
     ·exact zR h
     ·refine zV ?_;refine zN F h () [1,3,4] (λx=>[(5,.p (.val (.int .i64 ((x.1.1:Nat):Int))))]) [1] (λx H=>[]) ?_ ?_
      ·intro i3 s3 g3 _ _ F sV h;try dsimp only at h
       refine zI aN F h λe4 F h=>?_
       refine jj F h (λF h=>?_) λF h=>?_
       ·exact zR h
       ·refine zB F h (λF h=>?_) λF h=>?_
        ·exact zR h
        ·refine zV ?_;refine zN F h () [1,3,4,5,6] (λx=>[(7,.p (.val (.int .i64 ((x.1.1:Nat):Int))))]) [1,6] (λx H=>[]) ?_ ?_
         ·intro i5 s5 g5 _ _ F Ns5 h;try dsimp only at h
          refine zI encS F h λe6 F h=>?_
          refine zB F h (λF h=>?_) λF h=>?_
          ·exact zR h
          ·exact zX (z:=Ns5 _ () h zW)
         ·intro i5 s5 g5 _ F h;try dsimp only at h
          exact zX (z:=sV _ () h zW)
      ·intro i3 s3 g3 _ F h;try dsimp only at h
       exact zX (z:=Ns1 _ () h zW)
   ·intro i1 s1 g1 _ F h;try dsimp only at h
    refine zV ?_;refine zN F h () [1] (λx=>[(8,.p (.val (.int .i64 ((x.1.1:Nat):Int))))]) [1] (λx H=>[]) ?_ ?_
    ·intro i7 s7 g7 _ _ F Ns7 h;try dsimp only at h
     refine zI aA F h λe8 F h=>?_
     refine zB F h (λF h=>?_) λF h=>?_
     ·exact zR h
     ·exact zX (z:=Ns7 _ () h zW)
    ·intro i7 s7 g7 _ F h;try dsimp only at h
     exact zR h
theorem wH(a0:List aF)(p1:aF->Option Bool)(k1:FuncId)(fs1 cs1:List PV)(hp1:∀x0 r,p1 x0=some r->aB pw k1 (fs1++[.agg (aQ x0)]++cs1) (λv=>v = .val (.bool r)))(r:Int)(h:ju a0 p1=some r):aB pw 113 [.aE (a0.map aQ),.jF (.func k1) fs1 cs1] (λv=>v = .val (.int .i64 r)):=by
 refine aB.eV ?_;refine aC [] func113 ?_;rw[ntmps113,results113];unfold ju at h;have F:=trivial;refine zV ?_;refine zN F h () [0,1,7] (λx=>[(8,.p (.val (.int .i64 ((x.1.1:Nat):Int))))]) [] (λx H=>[]) ?_ ?_
 ·intro i2 s2 g2 _ _ F kN h;try dsimp only at h
  refine zI aQ F h λe3 F h=>?_
  refine zP F h (hp1 _) λr4 h=>?_
  refine zB F h (λF h=>?_) λF h=>?_
  ·exact zR h
  ·exact zX (z:=kN _ () h zW)
 ·intro i2 s2 g2 _ F h;try dsimp only at h
  exact zR h
theorem cV(a0:Int)(a1:Int)(r:(List Int))(h:br a0 a1=some r):aZ pw 83 [.val (.int .i64 a0),.val (.int .i64 a1)] (λv=>v = .row 3 1 (r.map encI)):=by
 refine aZ.tj ?_;refine bl [17] func83 ?_;rw[ntmps83,results83];unfold br at h;have F:=trivial;refine zV ?_;refine zO F h (0:Nat) [0,1] (λx=>[(5,.row 7902 x.2),(6,.p (.val (.int .i64 ((x.1.1:Nat):Int))))]) [] (λx H=>[(7902,.row x.2 3 1 (x.1.2.map encI))]) ?_ ?_ (hw:=by refine fE.trans (jg 5 7902 3 1 rfl rfl (by decide)) ?_;exact zW)
 ·intro i2 s2 g2 _ _ F kN h;try dsimp only at h
  refine zC F h λF h=>?_
  refine zF (eq_true (show (s2.length+1) * 8<=140737488355328 by omega)) F λF=>?_
  refine zF (bK encI s2 [(i64.wrap (a0+((i2:Nat):Int)))] (c:=[[.val (.int .i64 (i64.wrap (a0+((i2:Nat):Int))))]]) rfl) F λF=>?_
  exact zX (z:=kN _ (g2+1) h zW)
 ·intro i2 s2 g2 _ F h;try dsimp only at h
  exact fQ h
end
noncomputable section
theorem acp(a0:Int)(a1:Types)(r:Bool)(h:mT a0 a1=some r):aB pw 384 [.val (.int .i64 a0),.fq [.aE (a1.nodes.map az),.aE (a1.ag.map aA)] 0] (λv=>v = .val (.bool r)):=by refine aB.eV ?_;refine aC [] func384 ?_;rw[ntmps384,results384];unfold mT at h;have F:=trivial;exact zR h
theorem p6(a0:pP)(a1:List Int)(r:Int)(h:kM a0 a1=some r):aB pw 382 [.agg [.val (.int .i64 a0.var),.val (.int .i64 a0.add)],.aE (a1.map encI)] (λv=>v = .val (.int .i64 r)):=by
 refine aB.eV ?_;refine aC [] func382 ?_;rw[ntmps382,results382];unfold kM at h;have F:=trivial;refine zB F h (λF h=>?_) λF h=>?_
 ·exact zR h
 ·refine zD [.q,.q,.q,.q,.q,.q,.q,.q,.q] ?_;refine zA encI F h λe2 F h=>?_
  exact zR h
theorem ug(a0:List Int)(a1:List Int)(r:(List tF))(h:mj a0 a1=some r):aZ pw 333 [.aE (a0.map encI),.aE (a1.map encI)] (λv=>v = .row 423 2 (r.map sL)):=by
 refine aZ.tj ?_;refine bl [47] func333 ?_;rw[ntmps333,results333];unfold mj at h;have F:=trivial;refine zV ?_;refine zN F h (0:Nat) [0,1,9] (λx=>[(5,.row 4413 x.2),(10,.p (.val (.int .i64 ((x.1.1:Nat):Int))))]) [] (λx H=>[(4413,.row x.2 423 2 (x.1.2.map sL))]) ?_ ?_ (hw:=by refine fE.trans (jg 5 4413 423 2 rfl rfl (by decide)) ?_;exact zW)
 ·intro i2 s2 g2 _ _ F kN h;try dsimp only at h
  refine zV ?_;refine zL F h (g2:Nat) [0,1,6,9,10] (λx=>[(5,.row 4413 x.2),(7,.p (.val (.int .i64 x.1.1)))]) [] (λx H=>[(4413,.row x.2 423 2 (x.1.2.map sL))]) ?_;intro s3 g3 _ _ F sV h;try dsimp only at h
  refine zB F h (λF h=>?_) λF h=>?_
  ·refine zD [.q,.q,.q,.q,.q,.q,.q,.q,.q,.q,.q,.q,.q,.q,.q,.q,.q,.q,.q,.q,.q] ?_;refine zI encI F h λe4 F h=>?_
   refine zA encI F h λe5 F h=>?_
   refine zBd F h (λF h=>?_) λF h=>?_
   ·refine zKd F h (cc _ _) λr6 h=>?_
    refine zBd F h (λF h=>?_) λF h=>?_
    ·refine zKd F h (cc _ _) λr7 h=>?_
     refine cG F h (λF h=>?_) λF h=>?_
     ·exact zX (z:=sV _ g3 h zW)
     ·refine zC F h λF h=>?_
      refine zF (eq_true (show (s3.2.length+1) * 16<=140737488355328 by omega)) F λF=>?_
      refine zF (bK sL s3.2 [(⟨((i2:Nat):Int),s3.1⟩:tF)] (c:=[[.val (.int .i64 ((i2:Nat):Int)),.val (.int .i64 s3.1)]]) rfl) F λF=>?_
      exact zX (z:=sV _ (g3+1) h zW)
    ·refine zC F h λF h=>?_
     refine zF (eq_true (show (s3.2.length+1) * 16<=140737488355328 by omega)) F λF=>?_
     refine zF (bK sL s3.2 [(⟨((i2:Nat):Int),s3.1⟩:tF)] (c:=[[.val (.int .i64 ((i2:Nat):Int)),.val (.int .i64 s3.1)]]) rfl) F λF=>?_
     exact zX (z:=sV _ (g3+1) h zW)
   ·exact zX (z:=sV _ g3 h zW)
  ·try dsimp only at h
   exact zX (z:=kN _ g3 h zW)
 ·intro i2 s2 g2 _ F h;try dsimp only at h
  exact fQ h
theorem sG(a0:List aH)(a1:List aH)(r:Bool)(h:lu a0 a1=some r):aB pw 268 [.aE (a0.map aM),.aE (a1.map aM)] (λv=>v = .val (.bool r)):=by
 refine aB.eV ?_;refine aC [] func268 ?_;rw[ntmps268,results268];unfold lu at h;have F:=trivial;refine cG F h (λF h=>?_) λF h=>?_
 ·refine zV ?_;refine zL F h () [0,1,12,13] (λx=>[]) [] (λx H=>[]) ?_;intro s2 g2 _ _ F kN h;try dsimp only at h
  refine zB F h (λF h=>?_) λF h=>?_
  ·refine zD [.q,.q,.q,.q,.q,.q,.q,.q,.q] ?_;cases h
  ·try dsimp only at h
   exact zR h
 ·exact zR h
theorem qv(a0:au)(r:Bool)(h:gi a0=some r):aB pw 18 [.agg [.aE (a0.nodes.map encI),.aE (a0.ag.map ay)]] (λv=>v = .val (.bool r)):=by
 refine aB.eV ?_;refine aC [] func18 ?_;rw[ntmps18,results18];unfold gi at h;have F:=trivial;refine eZ F h (λF h=>?_) λF h=>?_
 ·exact zR h
 ·exact zR h
theorem vO(a0:Types)(a1:au)(a2:List Int)(a3:List Int)(r:Bool)(h:gq a0 a1 a2 a3=some r):aB pw 63 [.agg [.aE (a0.nodes.map az),.aE (a0.ag.map aA)],.agg [.aE (a1.nodes.map encI),.aE (a1.ag.map ay)],.aE (a2.map encI),.aE (a3.map encI)] (λv=>v = .val (.bool r)):=by
 refine aB.eV ?_;refine aC [] func63 ?_;rw[ntmps63,results63];unfold gq at h;have F:=trivial;refine zV ?_;refine zN F h () [2,3,4,5] (λx=>[(9,.p (.val (.int .i64 ((x.1.1:Nat):Int))))]) [4,5] (λx H=>[]) ?_ ?_
 ·intro i4 s4 g4 _ _ F Ns4 h;try dsimp only at h
  refine zD [.q,.q,.q,.q,.q,.q,.q,.q,.q,.q,.q,.q,.q] ?_;refine zI encI F h λe5 F h=>?_
  refine zA encI F h λe6 F h=>?_
  refine zA az F h λe7 F h=>?_
  refine zB F h (λF h=>?_) λF h=>?_
  ·exact zR h
  ·exact zX (z:=Ns4 _ () h zW)
 ·intro i4 s4 g4 _ F h;try dsimp only at h
  refine zV ?_;refine zN F h () [3,4,5] (λx=>[(10,.p (.val (.int .i64 ((x.1.1:Nat):Int))))]) [4,5] (λx H=>[]) ?_ ?_
  ·intro i8 s8 g8 _ _ F Ns8 h;try dsimp only at h
   refine zD [.q,.q,.q,.q,.q,.q,.q,.q,.w,.s] ?_;refine zI encI F h λe9 F h=>?_
   refine zA ay F h λsS F h=>?_
   refine zD [.q,.q,.q,.q,.q,.q,.q,.q,.q,.q,.q,.q,.q,.q,.q,.q,.q] ?_;refine zA encI F h λe11 F h=>?_
   refine zA encI F h λe12 F h=>?_
   refine zKd F h (xI _ _ _ _) λr13 h=>?_
   refine cG F h (λF h=>?_) λF h=>?_
   ·exact zX (z:=Ns8 _ () h zW)
   ·exact zR h
  ·intro i8 s8 g8 _ F h;try dsimp only at h
   exact zR h
theorem kV(a0:au)(r:au)(h:bV a0=some r):aZ pw 81 [.agg [.aE (a0.nodes.map encI),.aE (a0.ag.map ay)]] (λv=>v = .agg [.row 3 1 (r.nodes.map encI),.row 165 3 (r.ag.map ay)]):=by
 refine aZ.tj ?_;refine bl [3,6,7,10] func81 ?_;rw[ntmps81,results81];unfold bV at h;have F:=trivial;refine zE [(1,.q),(2,.q),(5,.b),(6,.b),(0,.w),(3,.s),(4,.w),(7,.s),(8,.q),(9,.w)] ?_;refine zC F h λF h=>?_
 refine zF (eq_true (show (a0.nodes.length) * 8<=140737488355328 by omega)) F λF=>?_
 refine zF (eq_true (eu (n:=1) (f:=encI) (λ_=>rfl) a0.nodes)) F λF=>?_
 refine zC F h λF h=>?_
 refine zF (eq_true (show (a0.ag.length) * 24<=140737488355328 by omega)) F λF=>?_
 refine zF (eq_true (eu (n:=3) (f:=ay) (λ_=>rfl) a0.ag)) F λF=>?_
 exact fQ h
theorem jv(a0:List Int)(a1:List Int)(a2:Int)(r:(List Int))(h:dH a0 a1 a2=some r):aZ pw 51 [.aE (a0.map encI),.aE (a1.map encI),.val (.int .i64 a2)] (λv=>v = .row 3 1 (r.map encI)):=by
 refine aZ.tj ?_;refine bl [9,11] func51 ?_;rw[ntmps51,results51];unfold dH at h;have F:=trivial;refine zC F h λF h=>?_
 refine zF (eq_true (show (a0.length) * 8<=140737488355328 by omega)) F λF=>?_
 refine zF (eq_true (eu (n:=1) (f:=encI) (λ_=>rfl) a0)) F λF=>?_
 refine zV ?_;refine zN F h (1:Nat) [1,2] (λx=>[(7,.row 9 x.2),(8,.p (.val (.int .i64 ((x.1.1:Nat):Int))))]) [] (λx H=>[(9,.row x.2 3 1 (x.1.2.map encI))]) ?_ ?_
 ·intro i3 s3 g3 _ _ F sV h;try dsimp only at h
  refine zI encI F h λe4 F h=>?_
  refine zC F h λF h=>?_
  refine zF (eq_true (show (s3.length+1) * 8<=140737488355328 by omega)) F λF=>?_
  refine zF (bK encI s3 [(i64.wrap (e4+a2))] (c:=[[.val (.int .i64 (i64.wrap (e4+a2)))]]) rfl) F λF=>?_
  exact zX (z:=sV _ (g3+1) h zW)
 ·intro i3 s3 g3 _ F h;try dsimp only at h
  exact fQ h
theorem nA(a0:List Int)(a1:List Int)(r:Bool)(h:fB a0 a1=some r):aB pw 55 [.aE (a0.map encI),.aE (a1.map encI)] (λv=>v = .val (.bool r)):=by
 refine aB.eV ?_;refine aC [] func55 ?_;rw[ntmps55,results55];unfold fB at h;have F:=trivial;refine cG F h (λF h=>?_) λF h=>?_
 ·refine zV ?_;refine zN F h () [0,1] (λx=>[(5,.p (.val (.int .i64 ((x.1.1:Nat):Int))))]) [] (λx H=>[]) ?_ ?_
  ·intro i2 s2 g2 _ _ F kN h;try dsimp only at h
   refine zD [.q,.q,.q,.q,.q,.q,.q,.q,.q] ?_;refine zI encI F h λe3 F h=>?_
   refine zI encI F h λe4 F h=>?_
   refine cG F h (λF h=>?_) λF h=>?_
   ·exact zX (z:=kN _ () h zW)
   ·exact zR h
  ·intro i2 s2 g2 _ F h;try dsimp only at h
   exact zR h
 ·exact zR h
end
noncomputable section
theorem vo(a0:List Int)(r:Int)(h:js a0=some r):aB pw 137 [.aE (a0.map encI)] (λv=>v = .val (.int .i64 r)):=by
 refine aB.eV ?_;refine aC [] func137 ?_;rw[ntmps137,results137];unfold js at h;have F:=trivial;refine zG 1080 F h (bE _) λr1 h=>?_
 refine zM F h (vl 0 _) λr2 h=>?_
 refine zMb F h (rJ 0 _) λr3 h=>?_
 exact zR h
theorem gy(ayV:aj->Option Bool)(aCe:∀ (a0:aj) (r:Bool),ayV a0=some r->aB pw 357 [.agg (aI a0)] (λv=>v = .val (.bool r)))(a0:aj)(r:Bool)(h:bz ayV a0=some r):aB pw 404 [.agg (aI a0)] (λv=>v = .val (.bool r)):=by
 refine aB.eV ?_;refine aC [] func404 ?_;rw[ntmps404,results404];unfold bz at h;have F:=trivial;refine zK F h (aCe _) λr2 h=>?_
 exact zR h
theorem aaS(n:Nat):∀ (a0:aj) (r:Int×Int) (h:dY n a0=some r),aB pw 358 [.agg (aI a0)] (λv=>v = .dg [.val (.int .i64 r.1),.val (.int .i64 r.2)]):=by
 induction n with
 |zero=>intro a0 r h;cases h
 |succ n ih =>
 intro a0 r h;refine aB.eV ?_;refine aC [] func358 ?_;rw[ntmps358,results358];unfold dY at h;have F:=trivial;refine zV ?_;refine zN F h () [1,11,12] (λx=>[(4,.p (.val (.int .i64 x.1.2.1))),(5,.p (.val (.int .i64 x.1.2.2))),(13,.p (.val (.int .i64 ((x.1.1:Nat):Int))))]) [1] (λx H=>[]) ?_ ?_
 ·intro i1 s1 g1 _ _ F Ns1 h;try dsimp only at h
  refine zI aI F h λe2 F h=>?_
  refine zK F h (ih _) λr3 h=>?_
  exact zX (z:=Ns1 _ () h zW)
 ·intro i1 s1 g1 _ F h;try dsimp only at h
  refine zB F h (λF h=>?_) λF h=>?_
  ·exact zR h
  ·exact zR h
theorem yT(a0:aG)(a1:Int)(r:Bool)(h:iJ a0 a1=some r):aB pw 405 [.agg (aL a0),.fq [.val (.int .i64 a1)] 0] (λv=>v = .val (.bool r)):=by refine aB.eV ?_;refine aC [] func405 ?_;rw[ntmps405,results405];unfold iJ at h;have F:=trivial;exact zR h
theorem aad(a0:aO)(r:ah)(h:jl a0=some r):aZ pw 75 [.agg [.aE (a0.nodes.map encI),.aE (a0.ag.map encI)]] (λv=>v = .agg [.row 3 1 (r.nodes.map encI),.row 3 1 (r.ag.map encI)]):=by
 refine aZ.tj ?_;refine bl [16,29] func75 ?_;rw[ntmps75,results75];unfold jl at h;have F:=trivial;refine zV ?_;refine zN F h (0:Nat) [1,2,3,8] (λx=>[(9,.p (.val (.int .i64 ((x.1.1:Nat):Int))))]) [1,2] (λx H=>[(3,bx (H 3) [(0,.row 3680 x.2)]),(3680,.row x.2 3 1 (x.1.2.map encI))]) ?_ ?_ (hw:=by refine fE.trans (eN 3 0 3680 3 1 _ rfl rfl rfl (by decide)) ?_;exact zW)
 ·intro i1 s1 g1 _ _ F Ns1 h;try dsimp only at h
  refine zC F h λF h=>?_
  refine zF (eq_true (show (s1.length+1) * 8<=140737488355328 by omega)) F λF=>?_
  refine zF (bK encI s1 [((i1:Nat):Int)] (c:=[[.val (.int .i64 ((i1:Nat):Int))]]) rfl) F λF=>?_
  exact zX (z:=Ns1 _ (g1+1) h zW)
 ·intro i1 s1 g1 _ F h;try dsimp only at h
  refine zV ?_;refine zN F h (0:Nat) [2,3,21] (λx=>[(22,.p (.val (.int .i64 ((x.1.1:Nat):Int))))]) [2,3680] (λx H=>[(3,bx (H 3) [(1,.row 3692 x.2)]),(3692,.row x.2 3 1 (x.1.2.map encI))]) ?_ ?_ (hw:=by refine fE.trans (eN 3 1 3692 3 1 _ rfl rfl rfl (by decide)) ?_;exact zW)
  ·intro i2 s2 g2 _ _ F kN h;try dsimp only at h
   refine zC F h λF h=>?_
   refine zF (eq_true (show (s2.length+1) * 8<=140737488355328 by omega)) F λF=>?_
   refine zF (bK encI s2 [((i2:Nat):Int)] (c:=[[.val (.int .i64 ((i2:Nat):Int))]]) rfl) F λF=>?_
   exact zX (z:=kN _ (g2+1) h zW)
  ·intro i2 s2 g2 _ F h;try dsimp only at h
   exact fQ h
theorem abM(a0:aH)(a1:List Int)(r:Bool)(h:oM a0 a1=some r):aB pw 383 [.agg (aM a0),.aE (a1.map encI)] (λv=>v = .val (.bool r)):=by unfold oM at h;cases h
theorem adx(a0:aS)(r:aS)(h:qL a0=some r):aZ pw 180 [.agg (gG a0)] (λv=>v = .agg [.row 3 1 (r.aK.nodes.map encI),.row 3 1 (r.aK.ag.map encI),.row 3 1 (r.vars.map encI)]):=by
 refine aZ.tj ?_;refine bl [] func180 ?_;rw[ntmps180,results180];unfold qL at h;have F:=trivial;refine zE [(0,.q),(1,.q),(2,.q),(4,.q),(5,.q),(6,.q),(9,.q),(10,.q),(3,.f),(7,.f),(8,.q),(11,.f),(12,.q),(13,.w)] ?_;refine zH 1096 F h (bE _) λr1 h=>?_
 refine zH 1160 F h (bE _) λr2 h=>?_
 refine zH 1224 F h (bE _) λr3 h=>?_
 exact fQ h
theorem yU(a0:aO)(a1:Int)(r:Bool)(h:iL a0 a1=some r):aB pw 115 [.agg [.aE (a0.nodes.map encI),.aE (a0.ag.map encI)],.val (.int .i64 a1)] (λv=>v = .val (.bool r)):=by refine aB.eV ?_;refine aC [] func115 ?_;rw[ntmps115,results115];unfold iL at h;have F:=trivial;exact zR h
theorem mZ(a0:List Int)(a1:Int)(r:Int)(h:eY a0 a1=some r):aB pw 294 [.aE (a0.map encI),.val (.int .i64 a1)] (λv=>v = .val (.int .i64 r)):=by
 refine aB.eV ?_;refine aC [] func294 ?_;rw[ntmps294,results294];unfold eY at h;have F:=trivial;refine zV ?_;refine zN F h () [0,1] (λx=>[(5,.p (.val (.int .i64 ((x.1.1:Nat):Int))))]) [] (λx H=>[]) ?_ ?_
 ·intro i2 s2 g2 _ _ F kN h;try dsimp only at h
  refine zI encI F h λe3 F h=>?_
  refine jj F h (λF h=>?_) λF h=>?_
  ·exact zR h
  ·refine zB F h (λF h=>?_) λF h=>?_
   ·exact zR h
   ·refine zD [.q,.q,.q,.q,.q,.q,.q,.q,.q,.q,.q,.q,.q,.q] ?_;refine zBd F h (λF h=>?_) λF h=>?_
    ·refine zA encI F h λe4 F h=>?_
     refine zB F h (λF h=>?_) λF h=>?_
     ·exact zR h
     ·exact zX (z:=kN _ () h zW)
    ·exact zX (z:=kN _ () h zW)
 ·intro i2 s2 g2 _ F h;try dsimp only at h
  exact zR h
theorem vP(a0:ak)(a1:Int)(r:Bool)(h:gr a0 a1=some r):aB pw 297 [.agg (bL a0),.val (.int .i64 a1)] (λv=>v = .val (.bool r)):=by
 refine aB.eV ?_;refine aC [] func297 ?_;rw[ntmps297,results297];unfold gr at h;have F:=trivial;refine zV ?_;refine zN F h () [1,2] (λx=>[(5,.p (.val (.int .i64 ((x.1.1:Nat):Int))))]) [2] (λx H=>[]) ?_ ?_
 ·intro i2 s2 g2 _ _ F kN h;try dsimp only at h
  refine zI aL F h λe3 F h=>?_
  refine zB F h (λF h=>?_) λF h=>?_
  ·exact zR h
  ·exact zX (z:=kN _ () h zW)
 ·intro i2 s2 g2 _ F h;try dsimp only at h
  exact zR h
theorem iG(a0:List Bool)(a1:List Bool)(r:(List Int))(h:cU a0 a1=some r):aZ pw 82 [.aE (a0.map gY),.aE (a1.map gY)] (λv=>v = .row 3 1 (r.map encI)):=by
 refine aZ.tj ?_;refine bl [28] func82 ?_;rw[ntmps82,results82];unfold cU at h;have F:=trivial;refine zV ?_;refine zN F h (0:Nat) [0,1] (λx=>[(5,.row 8467 x.2),(6,.p (.val (.int .i64 ((x.1.1:Nat):Int))))]) [] (λx H=>[(8467,.row x.2 3 1 (x.1.2.map encI))]) ?_ ?_ (hw:=by refine fE.trans (jg 5 8467 3 1 rfl rfl (by decide)) ?_;exact zW)
 ·intro i2 s2 g2 _ _ F kN h;try dsimp only at h
  refine zI gY F h λe3 F h=>?_
  refine jj F h (λF h=>?_) λF h=>?_
  ·exact zX (z:=kN _ g2 h zW)
  ·refine zI gY F h λe4 F h=>?_
   refine cG F h (λF h=>?_) λF h=>?_
   ·exact zX (z:=kN _ g2 h zW)
   ·refine zC F h λF h=>?_
    refine zF (eq_true (show (s2.length+1) * 8<=140737488355328 by omega)) F λF=>?_
    refine zF (bK encI s2 [((i2:Nat):Int)] (c:=[[.val (.int .i64 ((i2:Nat):Int))]]) rfl) F λF=>?_
    exact zX (z:=kN _ (g2+1) h zW)
 ·intro i2 s2 g2 _ F h;try dsimp only at h
  exact fQ h
end
noncomputable section
theorem aaT(a0:List Bool)(a1:Bool)(r:Int)(h:lp a0 a1=some r):aB pw 352 [.aE (a0.map gY),.val (.bool a1)] (λv=>v = .val (.int .i64 r)):=by
 refine aB.eV ?_;refine aC [] func352 ?_;rw[ntmps352,results352];unfold lp at h;have F:=trivial;refine zV ?_;refine zN F h () [0,1,7] (λx=>[(8,.p (.val (.int .i64 ((x.1.1:Nat):Int))))]) [] (λx H=>[]) ?_ ?_
 ·intro i2 s2 g2 _ _ F kN h;try dsimp only at h
  refine zI gY F h λe3 F h=>?_
  refine zB F h (λF h=>?_) λF h=>?_
  ·exact zR h
  ·exact zX (z:=kN _ () h zW)
 ·intro i2 s2 g2 _ F h;try dsimp only at h
  exact zR h
theorem abe(a0:List Int)(a1:Int)(r:(List Int))(h:mK a0 a1=some r):aZ pw 282 [.aE (a0.map encI),.val (.int .i64 a1)] (λv=>v = .row 3 1 (r.map encI)):=by
 refine aZ.tj ?_;refine bl [18] func282 ?_;rw[ntmps282,results282];unfold mK at h;have F:=trivial;refine zV ?_;refine zO F h (0:Nat) [0,7] (λx=>[(5,.row 2712 x.2),(8,.p (.val (.int .i64 ((x.1.1:Nat):Int))))]) [] (λx H=>[(2712,.row x.2 3 1 (x.1.2.map encI))]) ?_ ?_ (hw:=by refine fE.trans (jg 5 2712 3 1 rfl rfl (by decide)) ?_;exact zW)
 ·intro i2 s2 g2 _ _ F kN h;try dsimp only at h
  refine zK F h (cc _ _) λr3 h=>?_
  refine cG F h (λF h=>?_) λF h=>?_
  ·exact zX (z:=kN _ g2 h zW)
  ·refine zC F h λF h=>?_
   refine zF (eq_true (show (s2.length+1) * 8<=140737488355328 by omega)) F λF=>?_
   refine zF (bK encI s2 [((i2:Nat):Int)] (c:=[[.val (.int .i64 ((i2:Nat):Int))]]) rfl) F λF=>?_
   exact zX (z:=kN _ (g2+1) h zW)
 ·intro i2 s2 g2 _ F h;try dsimp only at h
  exact fQ h
theorem wI(a0:Int)(a1:List Int)(a2:List Int)(r:Bool)(h:jT a0 a1 a2=some r):aB pw 138 [.val (.int .i64 a0),.aE (a1.map encI),.aE (a2.map encI)] (λv=>v = .val (.bool r)):=by
 refine aB.eV ?_;refine aC [] func138 ?_;rw[ntmps138,results138];unfold jT at h;have F:=trivial;refine zV ?_;refine zO F h () [1,2,8] (λx=>[(9,.p (.val (.int .i64 ((x.1.1:Nat):Int))))]) [] (λx H=>[]) ?_ ?_
 ·intro i3 s3 g3 _ _ F sV h;try dsimp only at h
  refine zK F h (cc _ _) λr4 h=>?_
  refine jj F h (λF h=>?_) λF h=>?_
  ·exact zX (z:=sV _ () h zW)
  ·refine zK F h (cc _ _) λr5 h=>?_
   refine cG F h (λF h=>?_) λF h=>?_
   ·exact zX (z:=sV _ () h zW)
   ·exact zR h
 ·intro i3 s3 g3 _ F h;try dsimp only at h
  exact zR h
theorem agS(a0:Types)(a1:Int)(r:(List Int)×Int)(h:vN a0 a1=some r):aZ pw 386 [.agg [.aE (a0.nodes.map az),.aE (a0.ag.map aA)],.val (.int .i64 a1)] (λv=>v = .dg [.row 3 1 (r.1.map encI),.p (.val (.int .i64 r.2))]):=by
 refine aZ.tj ?_;refine bl [29] func386 ?_;rw[ntmps386,results386];unfold vN at h;have F:=trivial;refine zK F h (agP _ _) λr2 h=>?_
 refine cG F h (λF h=>?_) λF h=>?_
 ·refine zV ?_;refine zN F h (0:Nat) [1,2,18] (λx=>[(7,.row 3945 x.2),(19,.p (.val (.int .i64 ((x.1.1:Nat):Int))))]) [2] (λx H=>[(3945,.row x.2 3 1 (x.1.2.map encI))]) ?_ ?_ (hw:=by refine fE.trans (jg 7 3945 3 1 rfl rfl (by decide)) ?_;exact zW)
  ·intro i3 s3 g3 _ _ F sV h;try dsimp only at h
   refine zK F h (aoG _ _ _) λr4 h=>?_
   refine zB F h (λF h=>?_) λF h=>?_
   ·refine zC F h λF h=>?_
    refine zF (eq_true (show (s3.length+1) * 8<=140737488355328 by omega)) F λF=>?_
    refine zF (bK encI s3 [((i3:Nat):Int)] (c:=[[.val (.int .i64 ((i3:Nat):Int))]]) rfl) F λF=>?_
    exact zX (z:=sV _ (g3+1) h zW)
   ·exact zX (z:=sV _ g3 h zW)
  ·intro i3 s3 g3 _ F h;try dsimp only at h
   exact fQ h
 ·exact fQ h
theorem aae(a0:Int)(a1:List Int)(a2:List Int)(a3:List Int)(a4:List Int)(a5:Int)(r:(List Int))(h:p4 a0 a1 a2 a3 a4 a5=some r):aZ pw 183 [.val (.int .i64 a0),.aE (a1.map encI),.aE (a2.map encI),.aE (a3.map encI),.aE (a4.map encI),.val (.int .i64 a5)] (λv=>v = .row 3 1 (r.map encI)):=by
 refine aZ.tj ?_;refine bl [] func183 ?_;rw[ntmps183,results183];unfold p4 at h;have F:=trivial;refine zG 1304 F h (aaP _ _) λr6 h=>?_
 refine zV ?_;refine zN F h (0:Nat) [1,3,4,5,20,21] (λx=>[(13,.row 1304 x.2),(22,.p (.val (.int .i64 ((x.1.1:Nat):Int))))]) [] (λx H=>[(1304,.row x.2 3 1 (x.1.2.map encI))]) ?_ ?_
 ·intro i7 s7 g7 _ _ F Ns7 h;try dsimp only at h
  refine zI encI F h λe8 F h=>?_
  refine zI encI F h λe9 F h=>?_
  refine zA encI F h λsS F h=>?_
  refine zA encI F h λe11 F h=>?_
  refine zA encI F h λe12 F h=>?_
  refine zF (mC encI s7 e8.toNat e11 (c:=[.val (.int .i64 e11)]) rfl) F λF=>?_
  exact zX (z:=Ns7 _ g7 h zW)
 ·intro i7 s7 g7 _ F h;try dsimp only at h
  refine zV ?_;refine zN F h (g7:Nat) [42] (λx=>[(5,.p (.val (.int .i64 x.1.2.1))),(13,.row 1304 x.2),(43,.p (.val (.int .i64 ((x.1.1:Nat):Int))))]) [] (λx H=>[(1304,.row x.2 3 1 (x.1.2.2.map encI))]) ?_ ?_
  ·intro i13 s13 g13 _ _ F ayY h;try dsimp only at h
   refine zI encI F h λe14 F h=>?_
   refine zB F h (λF h=>?_) λF h=>?_
   ·refine zF (mC encI s13.2 i13 s13.1 (c:=[.val (.int .i64 s13.1)]) rfl) F λF=>?_
    exact zX (z:=ayY _ g13 h zW)
   ·exact zX (z:=ayY _ g13 h zW)
  ·intro i13 s13 g13 _ F h;try dsimp only at h
   exact fQ h
theorem ajs(a0:Types)(a1:Int)(r:(List Int))(h:xN a0 a1=some r):aZ pw 261 [.agg [.aE (a0.nodes.map az),.aE (a0.ag.map aA)],.val (.int .i64 a1)] (λv=>v = .row 3 1 (r.map encI)):=by
 refine aZ.tj ?_;refine bl [16,27] func261 ?_;rw[ntmps261,results261];unfold xN at h;have F:=trivial;refine zK F h (vL _ _) λr2 h=>?_
 refine zV ?_;refine zN F h (0:Nat) [17,18] (λx=>[(7,.row 16 x.2),(19,.p (.val (.int .i64 ((x.1.1:Nat):Int))))]) [] (λx H=>[(16,.row x.2 3 1 (x.1.2.map encI))]) ?_ ?_
 ·intro i3 s3 g3 _ _ F sV h;try dsimp only at h
  refine zI aN F h λe4 F h=>?_
  refine zC F h λF h=>?_
  refine zF (eq_true (show (s3.length+1) * 8<=140737488355328 by omega)) F λF=>?_
  refine zF (bK encI s3 [e4.low] (c:=[[.val (.int .i64 e4.low)]]) rfl) F λF=>?_
  exact zX (z:=sV _ (g3+1) h zW)
 ·intro i3 s3 g3 _ F h;try dsimp only at h
  exact fQ h
theorem j7(a0:ah)(a1:Int)(r:Bool)(h:cP a0 a1=some r):aB pw 19 [.agg [.aE (a0.nodes.map encI),.aE (a0.ag.map encI)],.val (.int .i64 a1)] (λv=>v = .val (.bool r)):=by refine aB.eV ?_;refine aC [] func19 ?_;rw[ntmps19,results19];unfold cP at h;have F:=trivial;exact zR h
theorem vQ(a0:ak)(a1:Int)(r:Bool)(h:gp a0 a1=some r):aB pw 129 [.agg (bL a0),.val (.int .i64 a1)] (λv=>v = .val (.bool r)):=by
 refine aB.eV ?_;refine aC [] func129 ?_;rw[ntmps129,results129];unfold gp at h;have F:=trivial;refine zV ?_;refine zN F h () [1,2] (λx=>[(5,.p (.val (.int .i64 ((x.1.1:Nat):Int))))]) [2] (λx H=>[]) ?_ ?_
 ·intro i2 s2 g2 _ _ F kN h;try dsimp only at h
  refine zI aL F h λe3 F h=>?_
  refine zB F h (λF h=>?_) λF h=>?_
  ·exact zR h
  ·exact zX (z:=kN _ () h zW)
 ·intro i2 s2 g2 _ F h;try dsimp only at h
  exact zR h
end
noncomputable section
theorem aaU(a0:Int)(a1:Types)(r:Bool)(h:jG a0 a1=some r):aB pw 274 [.val (.int .i64 a0),.fq [.aE (a1.nodes.map az),.aE (a1.ag.map aA)] 0] (λv=>v = .val (.bool r)):=by refine aB.eV ?_;refine aC [] func274 ?_;rw[ntmps274,results274];unfold jG at h;have F:=trivial;exact zR h
theorem j3(a0:Int)(a1:Int)(a2:Int)(r:Bool)(h:eC a0 a1 a2=some r):aB pw 276 [.val (.int .i64 a0),.val (.int .i64 a1),.val (.int .i64 a2)] (λv=>v = .val (.bool r)):=by
 refine aB.eV ?_;refine aC [] func276 ?_;rw[ntmps276,results276];unfold eC at h;have F:=trivial;refine eZ F h (λF h=>?_) λF h=>?_
 ·exact zR h
 ·exact zR h
theorem af0(a0:Int)(a1:Types)(r:Bool)(h:nu a0 a1=some r):aB pw 353 [.val (.int .i64 a0),.fq [.aE (a1.nodes.map az),.aE (a1.ag.map aA)] 0] (λv=>v = .val (.bool r)):=by refine aB.eV ?_;refine aC [] func353 ?_;rw[ntmps353,results353];unfold nu at h;have F:=trivial;exact zR h
theorem yJ(a0:Int)(r:Bool)(h:kB a0=some r):aB pw 301 [.val (.int .i64 a0)] (λv=>v = .val (.bool r)):=by refine aB.eV ?_;refine aC [] func301 ?_;rw[ntmps301,results301];unfold kB at h;have F:=trivial;exact zR h
theorem ady(a0:Int)(a1:Types)(a2:au)(r:Bool)(h:jQ a0 a1 a2=some r):aB pw 283 [.val (.int .i64 a0),.fq [.aE (a1.nodes.map az),.aE (a1.ag.map aA)] 0,.fq [.aE (a2.nodes.map encI),.aE (a2.ag.map ay)] 0] (λv=>v = .val (.bool r)):=by
 refine aB.eV ?_;refine aC [] func283 ?_;rw[ntmps283,results283];unfold jQ at h;have F:=trivial;refine zD [.q,.q,.q,.q,.q,.q,.q,.q,.q,.q,.q] ?_;refine zA encI F h λe3 F h=>?_
 refine zA az F h λe4 F h=>?_
 exact zR h
theorem si(a0:List aj)(p1:aj->Option Bool)(k1:FuncId)(fs1 cs1:List PV)(hp1:∀x0 r,p1 x0=some r->aB pw k1 (fs1++[.agg (aI x0)]++cs1) (λv=>v = .val (.bool r)))(r:Int)(h:eH a0 p1=some r):aB pw 424 [.aE (a0.map aI),.jF (.func k1) fs1 cs1] (λv=>v = .val (.int .i64 r)):=by
 refine aB.eV ?_;refine aC [] func424 ?_;rw[ntmps424,results424];unfold eH at h;have F:=trivial;refine zV ?_;refine zN F h () [0,1,7] (λx=>[(8,.p (.val (.int .i64 ((x.1.1:Nat):Int))))]) [] (λx H=>[]) ?_ ?_
 ·intro i2 s2 g2 _ _ F kN h;try dsimp only at h
  refine zI aI F h λe3 F h=>?_
  refine zP F h (hp1 _) λr4 h=>?_
  refine zB F h (λF h=>?_) λF h=>?_
  ·exact zR h
  ·exact zX (z:=kN _ () h zW)
 ·intro i2 s2 g2 _ F h;try dsimp only at h
  exact zR h
theorem mo(a0:List Int)(a1:List Int)(a2:Int)(r:(List Int))(h:fA a0 a1 a2=some r):aZ pw 120 [.aE (a0.map encI),.aE (a1.map encI),.val (.int .i64 a2)] (λv=>v = .row 3 1 (r.map encI)):=by
 refine aZ.tj ?_;refine bl [] func120 ?_;rw[ntmps120,results120];unfold fA at h;have F:=trivial;refine zG 1176 F h (bE _) λr3 h=>?_
 refine zV ?_;refine zN F h (0:Nat) [2,12,13] (λx=>[(7,.row 1176 x.2),(14,.p (.val (.int .i64 ((x.1.1:Nat):Int))))]) [] (λx H=>[(1176,.row x.2 3 1 (x.1.2.map encI))]) ?_ ?_
 ·intro i4 s4 g4 _ _ F Ns4 h;try dsimp only at h
  refine zI encI F h λe5 F h=>?_
  refine zC F h λF h=>?_
  refine zF (eq_true (show (s4.length+1) * 8<=140737488355328 by omega)) F λF=>?_
  refine zF (bK encI s4 [(i64.wrap (e5+a2))] (c:=[[.val (.int .i64 (i64.wrap (e5+a2)))]]) rfl) F λF=>?_
  exact zX (z:=Ns4 _ (g4+1) h zW)
 ·intro i4 s4 g4 _ F h;try dsimp only at h
  exact fQ h
theorem vp(a0:Int)(a1:List Int)(a2:List Int)(r:(List Int))(h:mW a0 a1 a2=some r):aZ pw 259 [.val (.int .i64 a0),.aE (a1.map encI),.aE (a2.map encI)] (λv=>v = .row 3 1 (r.map encI)):=by
 refine aZ.tj ?_;refine bl [14,42] func259 ?_;rw[ntmps259,results259];unfold mW at h;have F:=trivial;refine zC F h λF h=>?_
 refine zF (eq_true (show a0 * ((1:Nat):Int)<=140737488355328 by omega)) F λF=>?_
 refine zF (vj gY a0.toNat false (c:=[.val (.bool false)]) rfl) F λF=>?_
 refine zV ?_;refine zN F h (0:Nat) [2,15,16] (λx=>[(7,.row 14 x.2),(17,.p (.val (.int .i64 ((x.1.1:Nat):Int))))]) [] (λx H=>[(14,.row x.2 4 1 (x.1.2.map gY))]) ?_ ?_
 ·intro i3 s3 g3 _ _ F sV h;try dsimp only at h
  refine zI encI F h λe4 F h=>?_
  refine zK F h (cc _ _) λr5 h=>?_
  refine cG F h (λF h=>?_) λF h=>?_
  ·exact zX (z:=sV _ g3 h zW)
  ·refine zA gY F h λe6 F h=>?_
   refine zF (mC gY s3 e4.toNat true (c:=[.val (.bool true)]) rfl) F λF=>?_
   exact zX (z:=sV _ g3 h zW)
 ·intro i3 s3 g3 _ F h;try dsimp only at h
  refine zV ?_;refine zN F h (0:Nat) [30,31] (λx=>[(10,.row 4694 x.2),(32,.p (.val (.int .i64 ((x.1.1:Nat):Int))))]) [14] (λx H=>[(4694,.row x.2 3 1 (x.1.2.map encI))]) ?_ ?_ (hw:=by refine fE.trans (jg 10 4694 3 1 rfl rfl (by decide)) ?_;exact zW)
  ·intro i7 s7 g7 _ _ F Ns7 h;try dsimp only at h
   refine zI gY F h λe8 F h=>?_
   refine cG F h (λF h=>?_) λF h=>?_
   ·exact zX (z:=Ns7 _ g7 h zW)
   ·refine zC F h λF h=>?_
    refine zF (eq_true (show (s7.length+1) * 8<=140737488355328 by omega)) F λF=>?_
    refine zF (bK encI s7 [((i7:Nat):Int)] (c:=[[.val (.int .i64 ((i7:Nat):Int))]]) rfl) F λF=>?_
    exact zX (z:=Ns7 _ (g7+1) h zW)
  ·intro i7 s7 g7 _ F h;try dsimp only at h
   exact fQ h
theorem sj(a0:List aj)(a1:List aj)(p2:aj->aj->Option Bool)(k2:FuncId)(fs2 cs2:List PV)(hp2:∀x0 x1 r,p2 x0 x1=some r->aB pw k2 (fs2++[.agg (aI x0),.agg (aI x1)]++cs2) (λv=>v = .val (.bool r)))(r:Bool)(h:jE a0 a1 p2=some r):aB pw 270 [.aE (a0.map aI),.aE (a1.map aI),.jF (.func k2) fs2 cs2] (λv=>v = .val (.bool r)):=by
 refine aB.eV ?_;refine aC [] func270 ?_;rw[ntmps270,results270];unfold jE at h;have F:=trivial;refine cG F h (λF h=>?_) λF h=>?_
 ·refine zV ?_;refine zN F h () [1,2,15,16] (λx=>[(17,.p (.val (.int .i64 ((x.1.1:Nat):Int))))]) [] (λx H=>[]) ?_ ?_
  ·intro i3 s3 g3 _ _ F sV h;try dsimp only at h
   refine zI aI F h λe4 F h=>?_
   refine zI aI F h λe5 F h=>?_
   refine zP F h (hp2 _ _) λr6 h=>?_
   refine cG F h (λF h=>?_) λF h=>?_
   ·exact zX (z:=sV _ () h zW)
   ·exact zR h
  ·intro i3 s3 g3 _ F h;try dsimp only at h
   exact zR h
 ·exact zR h
theorem xV(a0:Types)(a1:ak)(a2:Int)(r:Int)(h:ij a0 a1 a2=some r):aB pw 130 [.agg [.aE (a0.nodes.map az),.aE (a0.ag.map aA)],.agg (bL a1),.val (.int .i64 a2)] (λv=>v = .val (.int .i64 r)):=by
 refine aB.eV ?_;refine aC [] func130 ?_;rw[ntmps130,results130];unfold ij at h;have F:=trivial;refine zA aL F h λe3 F h=>?_
 refine jj F h (λF h=>?_) λF h=>?_
 ·exact zR h
 ·refine zB F h (λF h=>?_) λF h=>?_
  ·exact zR h
  ·refine zD [.q,.q,.q,.q,.q,.q,.q,.q,.q,.q,.q,.q,.q,.q] ?_;refine zA encI F h λe4 F h=>?_
   refine zKd F h (oX _ _) λr5 h=>?_
   refine jj F h (λF h=>?_) λF h=>?_
   ·exact zR h
   ·refine jj F h (λF h=>?_) λF h=>?_
    ·exact zR h
    ·refine jj F h (λF h=>?_) λF h=>?_
     ·exact zR h
     ·refine jj F h (λF h=>?_) λF h=>?_
      ·exact zR h
      ·refine jj F h (λF h=>?_) λF h=>?_
       ·exact zR h
       ·refine zB F h (λF h=>?_) λF h=>?_
        ·exact zR h
        ·refine zV ?_;refine zO F h () [2,4,7] (λx=>[(10,.p (.val (.int .i64 ((x.1.1:Nat):Int))))]) [4,7] (λx H=>[]) ?_ ?_
         ·intro i6 s6 g6 _ _ F Ns6 h;try dsimp only at h
          refine zD [.q,.q,.q,.q,.q,.q,.q,.q,.q,.q,.q,.q,.q,.q,.q,.q,.q,.q,.q,.q] ?_;refine zI aL F h λe7 F h=>?_
          refine zBd F h (λF h=>?_) λF h=>?_
          ·refine zB F h (λF h=>?_) λF h=>?_
           ·exact zR h
           ·exact zX (z:=Ns6 _ () h zW)
          ·exact zX (z:=Ns6 _ () h zW)
         ·intro i6 s6 g6 _ F h;try dsimp only at h
          exact zR h
theorem rM(a0:List Int)(a1:Int)(r:Bool)(h:gR a0 a1=some r):aB pw 160 [.aE (a0.map encI),.val (.int .i64 a1)] (λv=>v = .val (.bool r)):=by
 refine aB.eV ?_;refine aC [] func160 ?_;rw[ntmps160,results160];unfold gR at h;have F:=trivial;refine zV ?_;refine zN F h () [0,1] (λx=>[(5,.p (.val (.int .i64 ((x.1.1:Nat):Int))))]) [] (λx H=>[]) ?_ ?_
 ·intro i2 s2 g2 _ _ F kN h;try dsimp only at h
  refine zI encI F h λe3 F h=>?_
  refine zB F h (λF h=>?_) λF h=>?_
  ·exact zR h
  ·exact zX (z:=kN _ () h zW)
 ·intro i2 s2 g2 _ F h;try dsimp only at h
  exact zR h
theorem ep(a0:List Int)(a1:Int)(r:Int)(h:bN a0 a1=some r):aB pw 84 [.aE (a0.map encI),.val (.int .i64 a1)] (λv=>v = .val (.int .i64 r)):=by
 refine aB.eV ?_;refine aC [] func84 ?_;rw[ntmps84,results84];unfold bN at h;have F:=trivial;refine zV ?_;refine zN F h () [0,1] (λx=>[(5,.p (.val (.int .i64 ((x.1.1:Nat):Int))))]) [] (λx H=>[]) ?_ ?_
 ·intro i2 s2 g2 _ _ F kN h;try dsimp only at h
  refine zI encI F h λe3 F h=>?_
  refine zB F h (λF h=>?_) λF h=>?_
  ·exact zR h
  ·exact zX (z:=kN _ () h zW)
 ·intro i2 s2 g2 _ F h;try dsimp only at h
  exact zR h
end
noncomputable section
theorem ajt(a0:Types)(a1:bB)(a2:aO)(r:(List Int)×(List Edge)×(List (List Int)))(h:xO a0 a1 a2=some r):yF pw 184 (bq [(1000000,.box [.p (.val (.string a1.rule.name)),.p (.aE (a1.rule.left.graph.nodes.map encI)),.p (.aE (a1.rule.left.graph.ag.map ay)),.p (.aE (a1.rule.left.slots.map aL)),.p (.val (.int .i64 a1.rule.left.vars)),.p (.aE (a1.rule.left.tests.map aM)),.p (.aE (a1.rule.right.graph.nodes.map encI)),.p (.aE (a1.rule.right.graph.ag.map ay)),.p (.aE (a1.rule.right.slots.map aL)),.p (.val (.int .i64 a1.rule.right.vars)),.p (.aE (a1.rule.right.tests.map aM)),.p (.aE (a1.rule.keep.nodes.map encI)),.p (.aE (a1.rule.keep.ag.map encI)),.p (.aE (a1.rule.into.nodes.map encI)),.p (.aE (a1.rule.into.ag.map encI)),.p (.val (.bool a1.rule.injective)),.p (.val (.int .i64 a1.rule.condition.kind)),.p (.aE (a1.rule.condition.kids.map aI)),.p (.aE (a1.rule.condition.map.nodes.map encI)),.p (.aE (a1.rule.condition.map.ag.map encI)),.p (.aE (a1.rule.condition.pattern.graph.nodes.map encI)),.p (.aE (a1.rule.condition.pattern.graph.ag.map ay)),.p (.aE (a1.rule.condition.pattern.slots.map aL)),.p (.val (.int .i64 a1.rule.condition.pattern.vars)),.p (.aE (a1.rule.condition.pattern.tests.map aM)),.p (.aE (a1.cg.aK.nodes.map encI)),.p (.aE (a1.cg.aK.ag.map encI)),.p (.aE (a1.cg.vars.map encI)),.p (.aE (a1.before.graph.nodes.map encI)),.p (.aE (a1.before.graph.ag.map ay)),.p (.aE (a1.before.values.map dw)),.p (.val (.slice none 0 0)),.p (.val (.slice none 0 0)),.p (.val (.slice none 0 0)),.p (.aE (a1.lD.nodes.map encI)),.p (.aE (a1.lD.ag.map encI)),.p (.aE (a1.iZ.nodes.map encI)),.p (.aE (a1.iZ.ag.map encI))])]) [.p (.agg [.aE (a0.nodes.map az),.aE (a0.ag.map aA)]),.ptr 1000000 0,.p (.agg [.aE (a2.nodes.map encI),.aE (a2.ag.map encI)])] (λa H=>∃v:Nat×Nat×Nat,mb a (.dg [])/\vJ H [(1000000,.box [.p (.val (.string a1.rule.name)),.p (.aE (a1.rule.left.graph.nodes.map encI)),.p (.aE (a1.rule.left.graph.ag.map ay)),.p (.aE (a1.rule.left.slots.map aL)),.p (.val (.int .i64 a1.rule.left.vars)),.p (.aE (a1.rule.left.tests.map aM)),.p (.aE (a1.rule.right.graph.nodes.map encI)),.p (.aE (a1.rule.right.graph.ag.map ay)),.p (.aE (a1.rule.right.slots.map aL)),.p (.val (.int .i64 a1.rule.right.vars)),.p (.aE (a1.rule.right.tests.map aM)),.p (.aE (a1.rule.keep.nodes.map encI)),.p (.aE (a1.rule.keep.ag.map encI)),.p (.aE (a1.rule.into.nodes.map encI)),.p (.aE (a1.rule.into.ag.map encI)),.p (.val (.bool a1.rule.injective)),.p (.val (.int .i64 a1.rule.condition.kind)),.p (.aE (a1.rule.condition.kids.map aI)),.p (.aE (a1.rule.condition.map.nodes.map encI)),.p (.aE (a1.rule.condition.map.ag.map encI)),.p (.aE (a1.rule.condition.pattern.graph.nodes.map encI)),.p (.aE (a1.rule.condition.pattern.graph.ag.map ay)),.p (.aE (a1.rule.condition.pattern.slots.map aL)),.p (.val (.int .i64 a1.rule.condition.pattern.vars)),.p (.aE (a1.rule.condition.pattern.tests.map aM)),.p (.aE (a1.cg.aK.nodes.map encI)),.p (.aE (a1.cg.aK.ag.map encI)),.p (.aE (a1.cg.vars.map encI)),.p (.aE (a1.before.graph.nodes.map encI)),.p (.aE (a1.before.graph.ag.map ay)),.p (.aE (a1.before.values.map dw)),.row 5555 v.1,.row 5628 v.2.1,.row 5556 v.2.2,.p (.aE (a1.lD.nodes.map encI)),.p (.aE (a1.lD.ag.map encI)),.p (.aE (a1.iZ.nodes.map encI)),.p (.aE (a1.iZ.ag.map encI))]),(5555,.row v.1 3 1 (r.1.map encI)),(5628,.row v.2.1 165 3 (r.2.1.map ay)),(5556,.row v.2.2 35 1 (r.2.2.map dw))]):=by
 refine ad2 [48,66,67,114] Ty.mixed func184 rfl (by kernel_rfl) (by simp[ntmps184]) ?_;rw[ntmps184,results184];unfold xO at h;have F:=trivial;refine zD [.q,.q,.q,.q,.o,.o,.o,.o,.o,.o,.w,.w,.s,.s] ?_;refine zV ?_;refine zN F h ((0,0):Nat×Nat) [1,3,5,6,7,28,29] (λx=>[(30,.p (.val (.int .i64 ((x.1.1:Nat):Int))))]) [3,5,6,7] (λx H=>[(1000000,bx (H 1000000) [(31,.row 5555 x.2.1),(33,.row 5556 x.2.2)]),(5555,.row x.2.1 3 1 (x.1.2.1.map encI)),(5556,.row x.2.2 35 1 (x.1.2.2.map dw))]) ?_ ?_ (hw:=by refine fE.trans (eN 1000000 31 5555 3 1 _ rfl rfl rfl (by decide)) ?_;refine fE.trans (eN 1000000 33 5556 35 1 _ rfl rfl rfl (by decide)) ?_;exact zW)
 ·intro i3 s3 g3 _ _ F sV h;try dsimp only at h
  refine zI encI F h λe4 F h=>?_
  refine zE [(0,.p),(1,.p),(7,.q),(8,.q),(9,.q),(10,.q),(11,.q),(12,.q),(13,.p),(2,.q),(3,.q),(4,.q),(5,.q),(6,.q),(14,.w),(15,.q),(16,.q),(17,.q),(18,.q),(19,.w)] ?_;refine zA encI F h λe5 F h=>?_
  refine zC F h λF h=>?_
  refine zF (eq_true (show (s3.1.length+1) * 8<=140737488355328 by omega)) F λF=>?_
  refine zF (bK encI s3.1 [e5] (c:=[[.val (.int .i64 e5)]]) rfl) F λF=>?_
  refine zE [(0,.p),(1,.p),(6,.p),(2,.b),(3,.b),(4,.b),(5,.b),(7,.q),(8,.q),(9,.q),(10,.q),(11,.q),(12,.w),(13,.w),(14,.w),(15,.q),(16,.q),(17,.q),(18,.w)] ?_;refine zA dw F h λe6 F h=>?_
  refine zC F h λF h=>?_
  refine zF (eq_true (show (e6.length) * 8<=140737488355328 by omega)) F λF=>?_
  refine zF (eq_true (eu (n:=1) (f:=encI) (λ_=>rfl) e6)) F λF=>?_
  refine zC F h λF h=>?_
  refine zF (eq_true (show (s3.2.length+1) * 24<=140737488355328 by omega)) F λF=>?_
  refine zF (bK dw s3.2 [e6] (c:=[[.aE (e6.map encI)]]) rfl) F λF=>?_
  exact zX (z:=sV _ (g3.1+1,g3.2+1) h zW)
 ·intro i3 s3 g3 _ F h;try dsimp only at h
  refine zV ?_;refine zN F h (0:Nat) [1,3,6,7,73,74] (λx=>[(75,.p (.val (.int .i64 ((x.1.1:Nat):Int))))]) [3,6,7,5555,5556] (λx H=>[(1000000,bx (H 1000000) [(32,.row 5628 x.2)]),(5628,.row x.2 165 3 (x.1.2.map ay))]) ?_ ?_ (hw:=by refine fE.trans (eN 1000000 32 5628 165 3 _ rfl rfl rfl (by decide)) ?_;exact zW)
  ·intro i7 s7 g7 _ _ F Ns7 h;try dsimp only at h
   refine zI encI F h λe8 F h=>?_
   refine zA ay F h λe9 F h=>?_
   refine zE [(0,.p),(1,.p),(7,.q),(8,.q),(9,.q),(10,.q),(11,.q),(12,.q),(13,.q),(14,.q),(15,.q),(16,.q),(17,.q),(18,.q),(19,.q),(20,.q),(21,.q),(22,.q),(23,.q),(24,.q),(25,.q),(26,.q),(27,.q),(28,.p),(2,.q),(3,.q),(4,.q),(5,.q),(6,.q),(29,.w),(30,.q),(31,.q),(32,.q),(33,.q),(34,.w)] ?_;refine zA encI F h λsS F h=>?_
   refine zA encI F h λe11 F h=>?_
   refine zC F h λF h=>?_
   refine zF (eq_true (show (s7.length+1) * 24<=140737488355328 by omega)) F λF=>?_
   refine zF (bK ay s7 [(⟨e9.type,sS,e11⟩:Edge)] (c:=[[.val (.int .i64 e9.type),.val (.int .i64 sS),.val (.int .i64 e11)]]) rfl) F λF=>?_
   exact zX (z:=Ns7 _ (g7+1) h zW)
  ·intro i7 s7 g7 _ F h;try dsimp only at h
   refine zV ?_;refine zN F h ((g3.2,g3.1):Nat×Nat) [1,3,7,121,122] (λx=>[(123,.p (.val (.int .i64 ((x.1.1:Nat):Int))))]) [3,7,5628] (λx H=>[(1000000,bx (H 1000000) [(31,.row 5555 x.2.2),(33,.row 5556 x.2.1)]),(5555,.row x.2.2 3 1 (x.1.2.2.map encI)),(5556,.row x.2.1 35 1 (x.1.2.1.map dw))]) ?_ ?_
   ·intro i12 s12 g12 _ _ F aCf h;try dsimp only at h
    refine zI encI F h λe13 F h=>?_
    refine zD [.q,.q,.q,.q,.q,.q,.q,.q,.q,.q,.q,.q,.q,.q,.q,.q] ?_;refine zI encI F h λe14 F h=>?_
    refine zB F h (λF h=>?_) λF h=>?_
    ·refine zC F h λF h=>?_
     refine zF (eq_true (show (s12.2.length+1) * 8<=140737488355328 by omega)) F λF=>?_
     refine zF (bK encI s12.2 [e13] (c:=[[.val (.int .i64 e13)]]) rfl) F λF=>?_
     refine zE [(0,.p),(1,.p),(6,.q),(7,.q),(8,.q),(9,.p),(2,.q),(3,.q),(4,.q),(5,.q),(10,.w),(11,.q),(12,.q),(13,.q),(14,.w)] ?_;refine yH F h (ajs _ _) λr15 h=>?_
     refine zC F h λF h=>?_
     refine zF (eq_true (show (s12.1.length+1) * 24<=140737488355328 by omega)) F λF=>?_
     refine zF (bK dw s12.1 [r15] (c:=[[.aE (r15.map encI)]]) rfl) F λF=>?_
     exact zX (z:=aCf _ (g12.1+1,g12.2+1) h zW)
    ·exact zX (z:=aCf _ (g12.1,g12.2) h zW)
   ·intro i12 s12 g12 _ F h;try dsimp only at h
    refine zV ?_;refine zN F h (g7:Nat) [1,174,175] (λx=>[(176,.p (.val (.int .i64 ((x.1.1:Nat):Int))))]) [5555,5556] (λx H=>[(1000000,bx (H 1000000) [(32,.row 5628 x.2)]),(5628,.row x.2 165 3 (x.1.2.map ay))]) ?_ ?_
    ·intro i16 s16 g16 _ _ F aCg h;try dsimp only at h
     refine zI ay F h λe17 F h=>?_
     refine zD [.q,.q,.q,.q,.q,.q,.q,.q,.q,.q,.q,.q,.q,.q,.q,.q] ?_;refine zI encI F h λe18 F h=>?_
     refine zB F h (λF h=>?_) λF h=>?_
     ·refine zE [(0,.p),(1,.p),(7,.q),(8,.q),(9,.q),(10,.q),(11,.q),(12,.q),(13,.q),(14,.q),(15,.q),(16,.q),(17,.q),(18,.q),(19,.q),(20,.q),(21,.q),(22,.q),(23,.q),(24,.q),(25,.q),(26,.q),(27,.q),(28,.p),(2,.q),(3,.q),(4,.q),(5,.q),(6,.q),(29,.w),(30,.q),(31,.q),(32,.q),(33,.q),(34,.w)] ?_;refine zA encI F h λe19 F h=>?_
      refine zA encI F h λe20 F h=>?_
      refine zC F h λF h=>?_
      refine zF (eq_true (show (s16.length+1) * 24<=140737488355328 by omega)) F λF=>?_
      refine zF (bK ay s16 [(⟨e17.type,e19,e20⟩:Edge)] (c:=[[.val (.int .i64 e17.type),.val (.int .i64 e19),.val (.int .i64 e20)]]) rfl) F λF=>?_
      exact zX (z:=aCg _ (g16+1) h zW)
     ·exact zX (z:=aCg _ g16 h zW)
    ·intro i16 s16 g16 _ F h;try dsimp only at h
     refine zV ?_;refine⟨(g12.2,g16,g12.1),?_⟩;exact zR h
end
noncomputable section
theorem af1(a0:Int)(a1:Int)(r:Bool)(h:nw a0 a1=some r):aB pw 218 [.val (.int .i64 a0),.val (.int .i64 a1)] (λv=>v = .val (.bool r)):=by
 refine aB.eV ?_;refine aC [] func218 ?_;rw[ntmps218,results218];unfold nw at h;have F:=trivial;refine zK F h (yJ _) λr2 h=>?_
 refine eZ F h (λF h=>?_) λF h=>?_
 ·refine zK F h (yJ _) λr3 h=>?_
  refine eZ F h (λF h=>?_) λF h=>?_
  ·exact zR h
  ·exact zR h
 ·exact zR h
theorem ad5(a0:Host)(a1:Host)(r:Bool)(h:vn a0 a1=some r):aB pw 265 [.agg (jW a0),.agg (jW a1)] (λv=>v = .val (.bool r)):=by
 refine aB.eV ?_;refine aC [] func265 ?_;rw[ntmps265,results265];unfold vn at h;have F:=trivial;refine zK F h (bQ _ _) λr2 h=>?_
 refine eZ F h (λF h=>?_) λF h=>?_
 ·refine zK F h (od _ _) λr3 h=>?_
  refine eZ F h (λF h=>?_) λF h=>?_
  ·refine zK F h (wE _ _ (λx4 x5=>bu x4 x5) 25 [] [] (λx4 x5 r h=>bQ x4 x5 r h)) λr6 h=>?_
   exact zR h
  ·exact zR h
 ·exact zR h
theorem uj(a0:List aF)(p1:aF->Option Bool)(k1:FuncId)(fs1 cs1:List PV)(hp1:∀x0 r,p1 x0=some r->aB pw k1 (fs1++[.agg (aQ x0)]++cs1) (λv=>v = .val (.bool r)))(r:Bool)(h:ie a0 p1=some r):aB pw 44 [.aE (a0.map aQ),.jF (.func k1) fs1 cs1] (λv=>v = .val (.bool r)):=by
 refine aB.eV ?_;refine aC [] func44 ?_;rw[ntmps44,results44];unfold ie at h;have F:=trivial;refine zK F h (wH _ p1 k1 fs1 cs1 hp1) λr2 h=>?_
 exact zR h
end
noncomputable section
theorem fT(a0:List Int)(p1:Int->Option Bool)(k1:FuncId)(fs1 cs1:List PV)(hp1:∀x0 r,p1 x0=some r->aB pw k1 (fs1++[.val (.int .i64 x0)]++cs1) (λv=>v = .val (.bool r)))(r:Bool)(h:cy a0 p1=some r):aB pw 37 [.aE (a0.map encI),.jF (.func k1) fs1 cs1] (λv=>v = .val (.bool r)):=by
 refine aB.eV ?_;refine aC [] func37 ?_;rw[ntmps37,results37];unfold cy at h;have F:=trivial;refine zK F h (xU _ p1 k1 fs1 cs1 hp1) λr2 h=>?_
 exact zR h
theorem af2(a0:aF)(r:(List Int)×(List Int))(h:lH a0=some r):aZ pw 197 [.agg (aQ a0)] (λv=>v = .dg [.row 3 1 (r.1.map encI),.row 3 1 (r.2.map encI)]):=by
 refine aZ.tj ?_;refine bl [] func197 ?_;rw[ntmps197,results197];unfold lH at h;have F:=trivial;refine zE [(0,.q),(1,.q),(2,.q),(3,.q),(4,.q),(5,.q),(6,.q),(7,.q),(9,.q),(10,.q),(11,.q),(12,.q),(13,.q),(14,.q),(15,.q),(16,.q),(8,.f),(17,.f),(18,.q),(19,.q)] ?_;refine zH 1192 F h (abe _ _) λr1 h=>?_
 refine zH 1336 F h (abe _ _) λr2 h=>?_
 exact fQ h
theorem abf(a0:au)(a1:au)(r:au×ah×ah×Int)(h:mL a0 a1=some r):aZ pw 119 [.agg [.aE (a0.nodes.map encI),.aE (a0.ag.map ay)],.agg [.aE (a1.nodes.map encI),.aE (a1.ag.map ay)]] (λv=>v = .dg [.agg [.row 3 1 (r.1.nodes.map encI),.row 165 3 (r.1.ag.map ay)],.agg [.row 3 1 (r.2.1.nodes.map encI),.row 3 1 (r.2.1.ag.map encI)],.agg [.row 3 1 (r.2.2.1.nodes.map encI),.row 3 1 (r.2.2.1.ag.map encI)],.p (.val (.int .i64 r.2.2.2))]):=by
 refine aZ.tj ?_;refine bl [2000004,2000005] func119 ?_;rw[ntmps119,results119];unfold mL at h;have F:=trivial;obtain⟨l2,hl3,h⟩:=rF h;have hm4:l2.map oW=[[.aE (a0.nodes.map encI),.aE (a0.ag.map ay)],[.aE (a1.nodes.map encI),.aE (a1.ag.map ay)]]:=by cases hl3;rfl
 refine zV ?_;refine zN F h () [2,3,4,5,6,21] (λx=>[(20,.p (.aE (l2.map oW))),(22,.p (.val (.int .i64 ((x.1.1:Nat):Int))))]) [2,3,4,5,6] (λx H=>[]) ?_ ?_ (hw:=by exact afJ (by simp -implicitDefEqProofs only[go_sem,F,hm4]<;>and_intros<;>rfl))
 ·intro i5 s5 g5 _ _ F Ns5 h;try dsimp only at h
  refine zI oW F h λe6 F h=>?_
  refine zK F h (kT _) λr7 h=>?_
  refine cG F h (λF h=>?_) λF h=>?_
  ·exact zX (z:=Ns5 _ () h zW)
  ·exact fQ h
 ·intro i5 s5 g5 _ F h;try dsimp only at h
  refine zD [.q,.q,.q,.q,.q,.q,.q,.q] ?_;refine jj F h (λF h=>?_) λF h=>?_
  ·exact fQ h
  ·refine zB F h (λF h=>?_) λF h=>?_
   ·exact fQ h
   ·refine zE [(0,.q),(1,.q),(2,.q),(3,.q),(4,.p),(6,.q),(7,.q),(5,.f),(8,.f),(9,.q),(10,.w),(11,.s)] ?_;refine zH 2008 F h (aaR _) λr8 h=>?_
    refine zH 2056 F h (lf _) λr9 h=>?_
    refine zV ?_;refine zN F h (0:Nat) [3,4,5,6,11,12,13,69,70] (λx=>[(71,.p (.val (.int .i64 ((x.1.1:Nat):Int))))]) [3,4,5,6,2008] (λx H=>[(13,bx (H 13) [(1,.row 2056 x.2)]),(2056,.row x.2 165 3 (x.1.2.map ay))]) ?_ ?_
    ·intro i10 s10 g10 _ _ F aAC h;try dsimp only at h
     refine zI ay F h λe11 F h=>?_
     refine zC F h λF h=>?_
     refine zF (eq_true (show (s10.length+1) * 24<=140737488355328 by omega)) F λF=>?_
     refine zF (bK ay s10 [(⟨e11.type,(i64.wrap (e11.src+((a0.nodes.length:Nat):Int))),(i64.wrap (e11.dst+((a0.nodes.length:Nat):Int)))⟩:Edge)] (c:=[[.val (.int .i64 e11.type),.val (.int .i64 (i64.wrap (e11.src+((a0.nodes.length:Nat):Int)))),.val (.int .i64 (i64.wrap (e11.dst+((a0.nodes.length:Nat):Int))))]]) rfl) F λF=>?_
     exact zX (z:=aAC _ (g10+1) h zW)
    ·intro i10 s10 g10 _ F h;try dsimp only at h
     refine zG 2488 F h (oG _ _) λvM h=>?_
     refine zG 2520 F h (oG _ _) λr13 h=>?_
     refine zE [(0,.q),(1,.q),(2,.q),(3,.q),(5,.q),(6,.q),(7,.q),(8,.q),(4,.f),(9,.f),(10,.q),(11,.w),(12,.s)] ?_;refine zH 2616 F h (oG _ _) λr14 h=>?_
     refine zH 2696 F h (oG _ _) λr15 h=>?_
     refine zD [.q,.o,.o,.s,.s,.w,.q] ?_;exact fQ h
theorem yV(a0:Int)(a1:aH)(r:Int)(h:iM a0 a1=some r):aB pw 205 [.val (.int .i64 a0),.agg (aM a1)] (λv=>v = .val (.int .i64 r)):=by
 refine aB.eV ?_;refine aC [] func205 ?_;rw[ntmps205,results205];unfold iM at h;have F:=trivial;refine jj F h (λF h=>?_) λF h=>?_
 ·refine zK F h (ja _ _) λr2 h=>?_
  refine cG F h (λF h=>?_) λF h=>?_
  ·refine zK F h (ja _ _) λr3 h=>?_
   exact zR h
  ·exact zR h
 ·refine cG F h (λF h=>?_) λF h=>?_
  ·refine zK F h (ja _ _) λr4 h=>?_
   refine cG F h (λF h=>?_) λF h=>?_
   ·refine zK F h (ja _ _) λr5 h=>?_
    exact zR h
   ·exact zR h
  ·exact zR h
theorem xW(a0:au)(a1:au)(r:Bool)(h:iq a0 a1=some r):aB pw 24 [.agg [.aE (a0.nodes.map encI),.aE (a0.ag.map ay)],.agg [.aE (a1.nodes.map encI),.aE (a1.ag.map ay)]] (λv=>v = .val (.bool r)):=by
 refine aB.eV ?_;refine aC [] func24 ?_;rw[ntmps24,results24];unfold iq at h;have F:=trivial;refine zK F h (j0 _ _) λr2 h=>?_
 refine eZ F h (λF h=>?_) λF h=>?_
 ·refine cG F h (λF h=>?_) λF h=>?_
  ·refine zV ?_;refine zN F h () [2,3] (λx=>[(5,.p (.val (.int .i64 ((x.1.1:Nat):Int))))]) [2,3] (λx H=>[]) ?_ ?_
   ·intro i3 s3 g3 _ _ F sV h;try dsimp only at h
    refine zD [.q,.q,.q,.q,.q,.q,.q,.q,.q,.q,.q] ?_;refine zI ay F h λe4 F h=>?_
    refine zI ay F h λe5 F h=>?_
    refine cG F h (λF h=>?_) λF h=>?_
    ·exact zX (z:=sV _ () h zW)
    ·exact zR h
   ·intro i3 s3 g3 _ F h;try dsimp only at h
    exact zR h
  ·exact zR h
 ·exact zR h
end
noncomputable section
theorem j4(a0:List Edge)(p1:Edge->Option Bool)(k1:FuncId)(fs1 cs1:List PV)(hp1:∀x0 r,p1 x0=some r->aB pw k1 (fs1++[.agg (ay x0)]++cs1) (λv=>v = .val (.bool r)))(r:Bool)(h:dx a0 p1=some r):aB pw 214 [.aE (a0.map ay),.jF (.func k1) fs1 cs1] (λv=>v = .val (.bool r)):=by
 refine aB.eV ?_;refine aC [] func214 ?_;rw[ntmps214,results214];unfold dx at h;have F:=trivial;refine zK F h (wF _ p1 k1 fs1 cs1 hp1) λr2 h=>?_
 exact zR h
theorem adz(a0:Types)(a1:ak)(a2:aG)(r:Attr×Bool)(h:lF a0 a1 a2=some r):aB pw 277 [.agg [.aE (a0.nodes.map az),.aE (a0.ag.map aA)],.agg (bL a1),.agg (aL a2)] (λv=>v = .dg [.agg (aN r.1),.val (.bool r.2)]):=by
 refine aB.eV ?_;refine aC [] func277 ?_;rw[ntmps277,results277];unfold lF at h;have F:=trivial;refine zK F h (j3 _ _ _) λr3 h=>?_
 refine cG F h (λF h=>?_) λF h=>?_
 ·refine zD [.q,.q,.q,.q,.q,.q,.q,.q,.q,.q,.q,.q,.q,.q] ?_;refine zA encI F h λe4 F h=>?_
  refine zKd F h (vL _ _) λr5 h=>?_
  refine zK F h (j3 _ _ _) λr6 h=>?_
  refine cG F h (λF h=>?_) λF h=>?_
  ·refine zA aN F h λe7 F h=>?_
   exact zR h
  ·exact zR h
 ·exact zR h
theorem dU(a0:List aj)(p1:aj->Option Bool)(k1:FuncId)(fs1 cs1:List PV)(hp1:∀x0 r,p1 x0=some r->aB pw k1 (fs1++[.agg (aI x0)]++cs1) (λv=>v = .val (.bool r)))(r:Bool)(h:bF a0 p1=some r):aB pw 403 [.aE (a0.map aI),.jF (.func k1) fs1 cs1] (λv=>v = .val (.bool r)):=by
 refine aB.eV ?_;refine aC [] func403 ?_;rw[ntmps403,results403];unfold bF at h;have F:=trivial;refine zK F h (si _ p1 k1 fs1 cs1 hp1) λr2 h=>?_
 exact zR h
theorem acq(a0:ak)(a1:Host)(a2:ah)(r:(List Int)×Int)(h:pY a0 a1 a2=some r):aZ pw 330 [.agg (bL a0),.agg (jW a1),.agg [.aE (a2.nodes.map encI),.aE (a2.ag.map encI)]] (λv=>v = .dg [.row 3 1 (r.1.map encI),.p (.val (.int .i64 r.2))]):=by
 refine aZ.tj ?_;refine bl [18,21] func330 ?_;rw[ntmps330,results330];unfold pY at h;have F:=trivial;refine zE [(0,.q),(1,.q),(3,.q),(4,.q),(2,.w),(5,.w),(6,.q),(7,.q)] ?_;refine zC F h λF h=>?_
 refine zF (eq_true (show a0.vars * ((8:Nat):Int)<=140737488355328 by omega)) F λF=>?_
 refine zF (vj encI a0.vars.toNat 0 (c:=[.val (.int .i64 0)]) rfl) F λF=>?_
 refine zC F h λF h=>?_
 refine zF (eq_true (show a0.vars * ((1:Nat):Int)<=140737488355328 by omega)) F λF=>?_
 refine zF (vj gY a0.vars.toNat false (c:=[.val (.bool false)]) rfl) F λF=>?_
 refine zV ?_;refine zN F h ((0,0):Nat×Nat) [3,4,5,23,24] (λx=>[(8,.row 18 x.2.2),(9,.row 21 x.2.1),(25,.p (.val (.int .i64 ((x.1.1:Nat):Int))))]) [3,4,5] (λx H=>[(18,.row x.2.2 3 1 (x.1.2.2.map encI)),(21,.row x.2.1 4 1 (x.1.2.1.map gY))]) ?_ ?_
 ·intro i3 s3 g3 _ _ F sV h;try dsimp only at h
  refine zI aL F h λe4 F h=>?_
  refine zD [.q,.q,.q,.q,.q,.q,.q,.q,.q,.q,.q,.q,.q,.q,.q] ?_;refine zA encI F h λe5 F h=>?_
  refine zA dw F h λe6 F h=>?_
  refine zA encI F h λe7 F h=>?_
  refine eZ F h (λF h=>?_) λF h=>?_
  ·refine zA gY F h λe8 F h=>?_
   refine cG F h (λF h=>?_) λF h=>?_
   ·refine zK F h (p6 _ _) λr9 h=>?_
    refine cG F h (λF h=>?_) λF h=>?_
    ·exact zX (z:=sV _ (g3.1,g3.2) h zW)
    ·exact fQ h
   ·refine zA encI F h λsS F h=>?_
    refine zF (mC encI s3.2 e4.term.var.toNat (i64.wrap (e7-e4.term.add)) (c:=[.val (.int .i64 (i64.wrap (e7-e4.term.add)))]) rfl) F λF=>?_
    refine zF (mC gY s3.1 e4.term.var.toNat true (c:=[.val (.bool true)]) rfl) F λF=>?_
    refine zK F h (p6 _ _) λqg h=>?_
    refine cG F h (λF h=>?_) λF h=>?_
    ·exact zX (z:=sV _ (g3.1,g3.2) h zW)
    ·exact fQ h
  ·refine zK F h (p6 _ _) λvM h=>?_
   refine cG F h (λF h=>?_) λF h=>?_
   ·exact zX (z:=sV _ (g3.1,g3.2) h zW)
   ·exact fQ h
 ·intro i3 s3 g3 _ F h;try dsimp only at h
  refine zV ?_;refine zN F h () [8,74,75] (λx=>[(76,.p (.val (.int .i64 ((x.1.1:Nat):Int))))]) [18] (λx H=>[]) ?_ ?_
  ·intro i13 s13 g13 _ _ F ayY h;try dsimp only at h
   refine zI aM F h λe14 F h=>?_
   refine zK F h (abM _ _) λr15 h=>?_
   refine cG F h (λF h=>?_) λF h=>?_
   ·exact zX (z:=ayY _ () h zW)
   ·exact fQ h
  ·intro i13 s13 g13 _ F h;try dsimp only at h
   exact fQ h
theorem mQ(a0:ak)(r:Bool)(h:eR a0=some r):aB pw 114 [.agg (bL a0)] (λv=>v = .val (.bool r)):=by
 refine aB.eV ?_;refine aC [] func114 ?_;rw[ntmps114,results114];unfold eR at h;have F:=trivial;refine zK F h (qv _) λr1 h=>?_
 refine eZ F h (λF h=>?_) λF h=>?_
 ·refine eZ F h (λF h=>?_) λF h=>?_
  ·exact zR h
  ·exact zR h
 ·exact zR h
theorem p7(a0:Int)(a1:List Int)(r:(List Int))(h:fI a0 a1=some r):aZ pw 133 [.val (.int .i64 a0),.aE (a1.map encI)] (λv=>v = .row 3 1 (r.map encI)):=by
 refine aZ.tj ?_;refine bl [19] func133 ?_;rw[ntmps133,results133];unfold fI at h;have F:=trivial;refine zV ?_;refine zO F h (0:Nat) [0,1] (λx=>[(5,.row 7588 x.2),(6,.p (.val (.int .i64 ((x.1.1:Nat):Int))))]) [] (λx H=>[(7588,.row x.2 3 1 (x.1.2.map encI))]) ?_ ?_ (hw:=by refine fE.trans (jg 5 7588 3 1 rfl rfl (by decide)) ?_;exact zW)
 ·intro i2 s2 g2 _ _ F kN h;try dsimp only at h
  refine zK F h (yR _ _) λr3 h=>?_
  refine cG F h (λF h=>?_) λF h=>?_
  ·exact zX (z:=kN _ g2 h zW)
  ·refine zC F h λF h=>?_
   refine zF (eq_true (show (s2.length+1) * 8<=140737488355328 by omega)) F λF=>?_
   refine zF (bK encI s2 [((i2:Nat):Int)] (c:=[[.val (.int .i64 ((i2:Nat):Int))]]) rfl) F λF=>?_
   exact zX (z:=kN _ (g2+1) h zW)
 ·intro i2 s2 g2 _ F h;try dsimp only at h
  exact fQ h
end
noncomputable section
theorem xX(a0:List Bool)(a1:Bool)(r:Bool)(h:ic a0 a1=some r):aB pw 279 [.aE (a0.map gY),.val (.bool a1)] (λv=>v = .val (.bool r)):=by
 refine aB.eV ?_;refine aC [] func279 ?_;rw[ntmps279,results279];unfold ic at h;have F:=trivial;refine zK F h (aaT _ _) λr2 h=>?_
 exact zR h
theorem qP(a0:cE)(r:(List tF)×(List tF))(h:iV a0=some r):aZ pw 257 [.agg (fe a0)] (λv=>v = .dg [.row 423 2 (r.1.map sL),.row 423 2 (r.2.map sL)]):=by
 refine aZ.tj ?_;refine bl [] func257 ?_;rw[ntmps257,results257];unfold iV at h;have F:=trivial;refine zE [(0,.q),(1,.q),(2,.q),(3,.q),(4,.q),(5,.q),(7,.q),(8,.q),(9,.q),(10,.q),(11,.q),(12,.q),(6,.f),(13,.f),(14,.q),(15,.q)] ?_;refine zH 1160 F h (ug _ _) λr1 h=>?_
 refine zH 1272 F h (ug _ _) λr2 h=>?_
 exact fQ h
theorem wJ(a0:aj)(r:Bool)(h:gP a0=some r):aB pw 296 [.agg (aI a0)] (λv=>v = .val (.bool r)):=by
 refine aB.eV ?_;refine aC [] func296 ?_;rw[ntmps296,results296];unfold gP at h;have F:=trivial;refine zB F h (λF h=>?_) λF h=>?_
 ·refine eZ F h (λF h=>?_) λF h=>?_
  ·refine zK F h (jb _) λr1 h=>?_
   exact zR h
  ·exact zR h
 ·refine zB F h (λF h=>?_) λF h=>?_
  ·refine eZ F h (λF h=>?_) λF h=>?_
   ·refine zK F h (jb _) λr2 h=>?_
    exact zR h
   ·exact zR h
  ·refine zB F h (λF h=>?_) λF h=>?_
   ·refine eZ F h (λF h=>?_) λF h=>?_
    ·refine zK F h (jb _) λr3 h=>?_
     exact zR h
    ·exact zR h
   ·refine zB F h (λF h=>?_) λF h=>?_
    ·refine eZ F h (λF h=>?_) λF h=>?_
     ·refine zK F h (jb _) λr4 h=>?_
      exact zR h
     ·exact zR h
    ·refine zB F h (λF h=>?_) λF h=>?_
     ·exact zR h
     ·exact zR h
theorem o6(a0:au)(a1:au)(r:au×ah×ah×Int)(h:fm a0 a1=some r):aZ pw 50 [.agg [.aE (a0.nodes.map encI),.aE (a0.ag.map ay)],.agg [.aE (a1.nodes.map encI),.aE (a1.ag.map ay)]] (λv=>v = .dg [.agg [.row 3 1 (r.1.nodes.map encI),.row 165 3 (r.1.ag.map ay)],.agg [.row 3 1 (r.2.1.nodes.map encI),.row 3 1 (r.2.1.ag.map encI)],.agg [.row 3 1 (r.2.2.1.nodes.map encI),.row 3 1 (r.2.2.1.ag.map encI)],.p (.val (.int .i64 r.2.2.2))]):=by
 refine aZ.tj ?_;refine bl [] func50 ?_;rw[ntmps50,results50];unfold fm at h;have F:=trivial;refine zK F h (cN _) λr2 h=>?_
 refine cG F h (λF h=>?_) λF h=>?_
 ·refine zK F h (cN _) λr3 h=>?_
  refine cG F h (λF h=>?_) λF h=>?_
  ·refine zD [.q,.q,.q,.q,.q,.q,.q,.q] ?_;refine jj F h (λF h=>?_) λF h=>?_
   ·exact fQ h
   ·refine zB F h (λF h=>?_) λF h=>?_
    ·exact fQ h
    ·refine zG 1880 F h (kV _) λr4 h=>?_
     refine zC F h λF h=>?_
     refine zF (eq_true (show (r4.nodes.length+a1.nodes.length) * 8<=140737488355328 by omega)) F λF=>?_
     refine zF (eq_true (eu (n:=1) (f:=encI) (λ_=>rfl) a1.nodes)) F λF=>?_
     refine zV ?_;refine zN F h (0:Nat) [3,4,5,6,10,11,12] (λx=>[(13,.p (.val (.int .i64 ((x.1.1:Nat):Int))))]) [3,4,5,6,1880] (λx H=>[(12,bx (H 12) [(1,.row 1881 x.2)]),(1881,.row x.2 165 3 (x.1.2.map ay))]) ?_ ?_
     ·intro i5 s5 g5 _ _ F Ns5 h;try dsimp only at h
      refine zI ay F h λe6 F h=>?_
      refine zC F h λF h=>?_
      refine zF (eq_true (show (s5.length+1) * 24<=140737488355328 by omega)) F λF=>?_
      refine zF (bK ay s5 [(⟨e6.type,(i64.wrap (e6.src+((a0.nodes.length:Nat):Int))),(i64.wrap (e6.dst+((a0.nodes.length:Nat):Int)))⟩:Edge)] (c:=[[.val (.int .i64 e6.type),.val (.int .i64 (i64.wrap (e6.src+((a0.nodes.length:Nat):Int)))),.val (.int .i64 (i64.wrap (e6.dst+((a0.nodes.length:Nat):Int))))]]) rfl) F λF=>?_
      exact zX (z:=Ns5 _ (g5+1) h zW)
     ·intro i5 s5 g5 _ F h;try dsimp only at h
      refine zE [(0,.q),(1,.q),(3,.q),(6,.q),(7,.q),(8,.q),(9,.q),(11,.q),(12,.q),(13,.q),(14,.q),(2,.f),(4,.f),(5,.p),(10,.f),(15,.f),(16,.p),(17,.w),(18,.w),(19,.w),(20,.q)] ?_;refine zH 2472 F h (cV _ _) λr7 h=>?_
      refine zH 2504 F h (cV _ _) λr8 h=>?_
      refine zH 2600 F h (cV _ _) λr9 h=>?_
      refine zH 2680 F h (cV _ _) λoZ h=>?_
      exact fQ h
  ·exact fQ h
 ·exact fQ h
theorem xY(a0:aO)(a1:aO)(r:Bool)(h:ir a0 a1=some r):aB pw 53 [.agg [.aE (a0.nodes.map encI),.aE (a0.ag.map encI)],.agg [.aE (a1.nodes.map encI),.aE (a1.ag.map encI)]] (λv=>v = .val (.bool r)):=by
 refine aB.eV ?_;refine aC [] func53 ?_;rw[ntmps53,results53];unfold ir at h;have F:=trivial;refine zK F h (j0 _ _) λr2 h=>?_
 refine eZ F h (λF h=>?_) λF h=>?_
 ·refine zK F h (j0 _ _) λr3 h=>?_
  exact zR h
 ·exact zR h
theorem oD(a0:List Int)(a1:List Int)(a2:Int)(r:Bool)(h:eM a0 a1 a2=some r):aB pw 143 [.aE (a0.map encI),.aE (a1.map encI),.val (.int .i64 a2)] (λv=>v = .val (.bool r)):=by
 refine aB.eV ?_;refine aC [] func143 ?_;rw[ntmps143,results143];unfold eM at h;have F:=trivial;refine zV ?_;refine zO F h () [0,1,2] (λx=>[(7,.p (.val (.int .i64 ((x.1.1:Nat):Int))))]) [] (λx H=>[]) ?_ ?_
 ·intro i3 s3 g3 _ _ F sV h;try dsimp only at h
  refine zK F h (rM _ _) λr4 h=>?_
  refine jj F h (λF h=>?_) λF h=>?_
  ·exact zX (z:=sV _ () h zW)
  ·refine zK F h (rM _ _) λr5 h=>?_
   refine cG F h (λF h=>?_) λF h=>?_
   ·exact zX (z:=sV _ () h zW)
   ·exact zR h
 ·intro i3 s3 g3 _ F h;try dsimp only at h
  exact zR h
end
noncomputable section
theorem kO(a0:au)(a1:au)(a2:ah)(r:Bool)(h:c8 a0 a1 a2=some r):aB pw 66 [.agg [.aE (a0.nodes.map encI),.aE (a0.ag.map ay)],.agg [.aE (a1.nodes.map encI),.aE (a1.ag.map ay)],.agg [.aE (a2.nodes.map encI),.aE (a2.ag.map encI)]] (λv=>v = .val (.bool r)):=by
 refine aB.eV ?_;refine aC [] func66 ?_;rw[ntmps66,results66];unfold c8 at h;have F:=trivial;refine zD [.q,.q,.q,.q,.q,.q,.q,.q,.q,.q,.q,.q,.q,.q,.q,.q,.q,.q,.q,.q,.q,.q,.q,.q] ?_;refine zKd F h (gS _ _ _) λr3 h=>?_
 refine zBd F h (λF h=>?_) λF h=>?_
 ·refine zKd F h (vo _) λr4 h=>?_
  refine zBd F h (λF h=>?_) λF h=>?_
  ·refine zKd F h (vo _) λr5 h=>?_
   exact zR h
  ·exact zR h
 ·exact zR h
theorem uS(n:Nat):∀ (a0:jq) (a1:aj) (a2:aS) (r:eX×Int) (h:ez n a0 a1 a2=some r),aB pw 336 [.agg (j5 a0),.agg (aI a1),.agg (gG a2)] (λv=>v = .dg [.agg (ji r.1),.val (.int .i64 r.2)]):=by
 induction n with
 |zero=>intro a0 a1 a2 r h;cases h
 |succ n ih =>
 intro a0 a1 a2 r h;refine aB.eV ?_;refine aC [66,91] func336 ?_;rw[ntmps336,results336];unfold ez at h;have F:=trivial;refine zB F h (λF h=>?_) λF h=>?_
 ·refine zD [.q,.q,.q,.q,.q,.q,.q,.q,.q,.o,.w,.s,.q] ?_;refine zJ 0 aI F h λe3 F h=>?_
  refine zKd F h (ih _ _ _) λr4 h=>?_
  refine zB F h (λF h=>?_) λF h=>?_
  ·exact zR h
  ·refine zB F h (λF h=>?_) λF h=>?_
   ·exact zR h
   ·exact zR h
 ·refine zB F h (λF h=>?_) λF h=>?_
  ·refine zV ?_;refine zN F h (0:Nat) [3,5,6,10,45,46] (λx=>[(47,.p (.val (.int .i64 ((x.1.1:Nat):Int))))]) [3,5,6] (λx H=>[(10,bx (H 10) [(4,.row 4988 x.2)]),(4988,.row x.2 332 5 (x.1.2.map ji))]) ?_ ?_ (hw:=by refine fE.trans (eN 10 4 4988 332 5 _ rfl rfl rfl (by decide)) ?_;exact zW)
   ·intro i5 s5 g5 _ _ F Ns5 h;try dsimp only at h
    refine zI aI F h λe6 F h=>?_
    refine zK F h (ih _ _ _) λr7 h=>?_
    refine cG F h (λF h=>?_) λF h=>?_
    ·refine zC F h λF h=>?_
     refine zF (eq_true (show (s5.length+1) * 104<=140737488355328 by omega)) F λF=>?_
     refine zF (bK ji s5 [r7.1] (c:=[[.val (.int .i64 r7.1.choice),.aE (r7.1.cg.aK.nodes.map encI),.aE (r7.1.cg.aK.ag.map encI),.aE (r7.1.cg.vars.map encI),.aE (r7.1.kids.map ji)]]) (by simp only[List.map_cons,List.map_nil,nt])) F λF=>?_
     exact zX (z:=Ns5 _ (g5+1) h zW)
    ·exact zR h
   ·intro i5 s5 g5 _ F h;try dsimp only at h
    exact zR h
  ·refine zB F h (λF h=>?_) λF h=>?_
   ·refine zV ?_;refine zN F h () [3,5,6,73,74] (λx=>[(75,.p (.val (.int .i64 ((x.1.1:Nat):Int))))]) [3,5,6] (λx H=>[]) ?_ ?_
    ·intro i8 s8 g8 _ _ F Ns8 h;try dsimp only at h
     refine zI aI F h λe9 F h=>?_
     refine zK F h (ih _ _ _) λoZ h=>?_
     refine zB F h (λF h=>?_) λF h=>?_
     ·exact zR h
     ·refine cG F h (λF h=>?_) λF h=>?_
      ·exact zX (z:=Ns8 _ () h zW)
      ·exact zR h
    ·intro i8 s8 g8 _ F h;try dsimp only at h
     exact zR h
   ·refine zB F h (λF h=>?_) λF h=>?_
    ·refine zK F h (ud _ _ _) λqg h=>?_
     exact zR h
    ·exact zR h
theorem wK(a0:Types)(a1:aF)(r:Int)(h:gO a0 a1=some r):aB pw 59 [.agg [.aE (a0.nodes.map az),.aE (a0.ag.map aA)],.agg (aQ a1)] (λv=>v = .val (.int .i64 r)):=by
 refine aB.eV ?_;refine aC [] func59 ?_;rw[ntmps59,results59];unfold gO at h;have F:=trivial;refine zK F h (cN _) λr2 h=>?_
 refine cG F h (λF h=>?_) λF h=>?_
 ·refine zK F h (o4 _ _) λr3 h=>?_
  refine cG F h (λF h=>?_) λF h=>?_
  ·refine eZ F h (λF h=>?_) λF h=>?_
   ·refine zB F h (λF h=>?_) λF h=>?_
    ·exact zR h
    ·refine zB F h (λF h=>?_) λF h=>?_
     ·exact zR h
     ·refine zV ?_;refine zN F h () [2,3] (λx=>[(6,.p (.val (.int .i64 ((x.1.1:Nat):Int))))]) [2,3] (λx H=>[]) ?_ ?_
      ·intro i4 s4 g4 _ _ F Ns4 h;try dsimp only at h
       refine zK F h (xV _ _ _) λr5 h=>?_
       refine cG F h (λF h=>?_) λF h=>?_
       ·exact zX (z:=Ns4 _ () h zW)
       ·exact zR h
      ·intro i4 s4 g4 _ F h;try dsimp only at h
       exact zR h
   ·exact zR h
  ·exact zR h
 ·exact zR h
theorem jN(a0:ah)(a1:ah)(r:Bool)(h:c6 a0 a1=some r):aB pw 16 [.agg [.aE (a0.nodes.map encI),.aE (a0.ag.map encI)],.agg [.aE (a1.nodes.map encI),.aE (a1.ag.map encI)]] (λv=>v = .val (.bool r)):=by
 refine aB.eV ?_;refine aC [] func16 ?_;rw[ntmps16,results16];unfold c6 at h;have F:=trivial;refine zK F h (nA _ _) λr2 h=>?_
 refine eZ F h (λF h=>?_) λF h=>?_
 ·refine zK F h (nA _ _) λr3 h=>?_
  exact zR h
 ·exact zR h
theorem iO(a0:List Int)(a1:Int)(r:Bool)(h:dD a0 a1=some r):aB pw 144 [.aE (a0.map encI),.val (.int .i64 a1)] (λv=>v = .val (.bool r)):=by
 refine aB.eV ?_;refine aC [] func144 ?_;rw[ntmps144,results144];unfold dD at h;have F:=trivial;refine zK F h (ep _ _) λr2 h=>?_
 exact zR h
end
noncomputable section
theorem adA(a0:au)(a1:au)(a2:au)(a3:ah)(a4:ah)(r:Bool)(h:lJ a0 a1 a2 a3 a4=some r):aB pw 67 [.agg [.aE (a0.nodes.map encI),.aE (a0.ag.map ay)],.agg [.aE (a1.nodes.map encI),.aE (a1.ag.map ay)],.agg [.aE (a2.nodes.map encI),.aE (a2.ag.map ay)],.agg [.aE (a3.nodes.map encI),.aE (a3.ag.map encI)],.agg [.aE (a4.nodes.map encI),.aE (a4.ag.map encI)]] (λv=>v = .val (.bool r)):=by
 refine aB.eV ?_;refine aC [] func67 ?_;rw[ntmps67,results67];unfold lJ at h;have F:=trivial;refine zK F h (gS _ _ _) λr5 h=>?_
 refine eZ F h (λF h=>?_) λF h=>?_
 ·refine zK F h (gS _ _ _) λr6 h=>?_
  refine cG F h (λF h=>?_) λF h=>?_
  ·refine zK F h (wI _ _ _) λr7 h=>?_
   refine eZ F h (λF h=>?_) λF h=>?_
   ·refine zK F h (wI _ _ _) λr8 h=>?_
    exact zR h
   ·exact zR h
  ·exact zR h
 ·exact zR h
theorem af3(a0:Types)(r:(List (List Bool)))(h:tZ a0=some r):aZ pw 332 [.agg [.aE (a0.nodes.map az),.aE (a0.ag.map aA)]] (λv=>v = .row 167 1 (r.map qJ)):=by
 refine aZ.tj ?_;refine bl [19,39] func332 ?_;rw[ntmps332,results332];unfold tZ at h;have F:=trivial;refine zV ?_;refine zN F h (0:Nat) [1,12] (λx=>[(3,.row 4011 x.2),(13,.p (.val (.int .i64 ((x.1.1:Nat):Int))))]) [1] (λx H=>[(4011,.row x.2 167 1 (x.1.2.map qJ))]) ?_ ?_ (hw:=by refine fE.trans (jg 3 4011 167 1 rfl rfl (by decide)) ?_;exact zW)
 ·intro i1 s1 g1 _ _ F Ns1 h;try dsimp only at h
  refine zC F h λF h=>?_
  refine zF (eq_true (show ((a0.nodes.length:Nat):Int) * ((1:Nat):Int)<=140737488355328 by omega)) F λF=>?_
  refine zF (eq_true (show (0:Int)<=((a0.nodes.length:Nat):Int) by omega)) F λF=>?_
  refine zF (vj gY a0.nodes.length false (c:=[.val (.bool false)]) rfl) F λF=>?_
  refine zG 1368 F h (agS _ _) λr2 h=>?_
  refine zV ?_;refine zN F h (0:Nat) [1,3,12,13,26,27] (λx=>[(5,.row 19 x.2),(28,.p (.val (.int .i64 ((x.1.1:Nat):Int))))]) [1,4011,1368] (λx H=>[(19,.row x.2 4 1 (x.1.2.map gY))]) ?_ ?_
  ·intro i3 s3 g3 _ _ F sV h;try dsimp only at h
   refine zI encI F h λe4 F h=>?_
   refine zA gY F h λe5 F h=>?_
   refine zF (mC gY s3 e4.toNat true (c:=[.val (.bool true)]) rfl) F λF=>?_
   exact zX (z:=sV _ g3 h zW)
  ·intro i3 s3 g3 _ F h;try dsimp only at h
   refine zC F h λF h=>?_
   refine zF (eq_true (show (s1.length+1) * 24<=140737488355328 by omega)) F λF=>?_
   refine zF (bK qJ s1 [s3] (c:=[[.aE (s3.map gY)]]) rfl) F λF=>?_
   exact zX (z:=Ns1 _ (g1+1) h zW)
 ·intro i1 s1 g1 _ F h;try dsimp only at h
  exact fQ h
theorem mF(a0:ah)(a1:ah)(r:Bool)(h:jD a0 a1=some r):aB pw 188 [.agg [.aE (a0.nodes.map encI),.aE (a0.ag.map encI)],.agg [.aE (a1.nodes.map encI),.aE (a1.ag.map encI)]] (λv=>v = .val (.bool r)):=by
 refine aB.eV ?_;refine aC [] func188 ?_;rw[ntmps188,results188];unfold jD at h;have F:=trivial;refine zK F h (bQ _ _) λr2 h=>?_
 refine eZ F h (λF h=>?_) λF h=>?_
 ·refine zK F h (bQ _ _) λr3 h=>?_
  exact zR h
 ·exact zR h
theorem wL(a0:au)(a1:aO)(r:Int)(h:cx a0 a1=some r):aB pw 206 [.agg [.aE (a0.nodes.map encI),.aE (a0.ag.map ay)],.agg [.aE (a1.nodes.map encI),.aE (a1.ag.map encI)]] (λv=>v = .val (.int .i64 r)):=by
 refine aB.eV ?_;refine aC [] func206 ?_;rw[ntmps206,results206];unfold cx at h;have F:=trivial;refine zK F h (mZ _ _) λr2 h=>?_
 refine cG F h (λF h=>?_) λF h=>?_
 ·refine zK F h (mZ _ _) λr3 h=>?_
  refine cG F h (λF h=>?_) λF h=>?_
  ·refine zV ?_;refine zN F h () [2,3] (λx=>[(7,.p (.val (.int .i64 ((x.1.1:Nat):Int))))]) [2,3] (λx H=>[]) ?_ ?_
   ·intro i4 s4 g4 _ _ F Ns4 h;try dsimp only at h
    refine zD [.q,.q,.q,.q,.q,.q,.q,.q,.q,.w,.s] ?_;refine zI encI F h λe5 F h=>?_
    refine zA ay F h λe6 F h=>?_
    refine zK F h (qu _ _) λr7 h=>?_
    refine eZ F h (λF h=>?_) λF h=>?_
    ·refine zK F h (qu _ _) λr8 h=>?_
     refine cG F h (λF h=>?_) λF h=>?_
     ·exact zX (z:=Ns4 _ () h zW)
     ·exact zR h
    ·exact zR h
   ·intro i4 s4 g4 _ F h;try dsimp only at h
    exact zR h
  ·exact zR h
 ·exact zR h
theorem jO(a0:au)(a1:au)(a2:ah)(r:Bool)(h:b9 a0 a1 a2=some r):aB pw 77 [.agg [.aE (a0.nodes.map encI),.aE (a0.ag.map ay)],.agg [.aE (a1.nodes.map encI),.aE (a1.ag.map ay)],.agg [.aE (a2.nodes.map encI),.aE (a2.ag.map encI)]] (λv=>v = .val (.bool r)):=by
 refine aB.eV ?_;refine aC [] func77 ?_;rw[ntmps77,results77];unfold b9 at h;have F:=trivial;refine zK F h (eo _ _ _) λr3 h=>?_
 refine eZ F h (λF h=>?_) λF h=>?_
 ·refine zK F h (iu _) λr4 h=>?_
  refine eZ F h (λF h=>?_) λF h=>?_
  ·refine zK F h (iu _) λr5 h=>?_
   exact zR h
  ·exact zR h
 ·exact zR h
end
noncomputable section
theorem adB(a0:Int)(a1:aH)(r:Int)(h:lG a0 a1=some r):aB pw 351 [.val (.int .i64 a0),.agg (aM a1)] (λv=>v = .val (.int .i64 r)):=by
 refine aB.eV ?_;refine aC [] func351 ?_;rw[ntmps351,results351];unfold lG at h;have F:=trivial;refine jj F h (λF h=>?_) λF h=>?_
 ·refine zK F h (mY _ _) λr2 h=>?_
  refine eZ F h (λF h=>?_) λF h=>?_
  ·refine zK F h (mY _ _) λr3 h=>?_
   refine cG F h (λF h=>?_) λF h=>?_
   ·exact zR h
   ·exact zR h
  ·exact zR h
 ·refine cG F h (λF h=>?_) λF h=>?_
  ·refine zK F h (mY _ _) λr4 h=>?_
   refine eZ F h (λF h=>?_) λF h=>?_
   ·refine zK F h (mY _ _) λr5 h=>?_
    refine cG F h (λF h=>?_) λF h=>?_
    ·exact zR h
    ·exact zR h
   ·exact zR h
  ·exact zR h
theorem nB(a0:List aG)(p1:aG->Option Bool)(k1:FuncId)(fs1 cs1:List PV)(hp1:∀x0 r,p1 x0=some r->aB pw k1 (fs1++[.agg (aL x0)]++cs1) (λv=>v = .val (.bool r)))(r:Bool)(h:dy a0 p1=some r):aB pw 355 [.aE (a0.map aL),.jF (.func k1) fs1 cs1] (λv=>v = .val (.bool r)):=by
 refine aB.eV ?_;refine aC [] func355 ?_;rw[ntmps355,results355];unfold dy at h;have F:=trivial;refine zK F h (wD _ p1 k1 fs1 cs1 hp1) λr2 h=>?_
 exact zR h
theorem sk(a0:cE)(r:(List Int))(h:jC a0=some r):aZ pw 258 [.agg (fe a0)] (λv=>v = .row 3 1 (r.map encI)):=by
 refine aZ.tj ?_;refine bl [39] func258 ?_;rw[ntmps258,results258];unfold jC at h;have F:=trivial;refine zG 1128 F h (sW _) λr1 h=>?_
 refine zV ?_;refine zN F h (0:Nat) [1,3,11,12] (λx=>[(4,.row 4607 x.2),(13,.p (.val (.int .i64 ((x.1.1:Nat):Int))))]) [1,1128] (λx H=>[(4607,.row x.2 3 1 (x.1.2.map encI))]) ?_ ?_ (hw:=by refine fE.trans (jg 4 4607 3 1 rfl rfl (by decide)) ?_;exact zW)
 ·intro i2 s2 g2 _ _ F kN h;try dsimp only at h
  refine zI ay F h λe3 F h=>?_
  refine zK F h (cc _ _) λr4 h=>?_
  refine jj F h (λF h=>?_) λF h=>?_
  ·exact zX (z:=kN _ g2 h zW)
  ·refine zK F h (cc _ _) λr5 h=>?_
   refine jj F h (λF h=>?_) λF h=>?_
   ·refine zC F h λF h=>?_
    refine zF (eq_true (show (s2.length+1) * 8<=140737488355328 by omega)) F λF=>?_
    refine zF (bK encI s2 [((i2:Nat):Int)] (c:=[[.val (.int .i64 ((i2:Nat):Int))]]) rfl) F λF=>?_
    exact zX (z:=kN _ (g2+1) h zW)
   ·refine zK F h (cc _ _) λr6 h=>?_
    refine zB F h (λF h=>?_) λF h=>?_
    ·refine zC F h λF h=>?_
     refine zF (eq_true (show (s2.length+1) * 8<=140737488355328 by omega)) F λF=>?_
     refine zF (bK encI s2 [((i2:Nat):Int)] (c:=[[.val (.int .i64 ((i2:Nat):Int))]]) rfl) F λF=>?_
     exact zX (z:=kN _ (g2+1) h zW)
    ·exact zX (z:=kN _ g2 h zW)
 ·intro i2 s2 g2 _ F h;try dsimp only at h
  exact fQ h
theorem aju(a0:au)(a1:au)(r:Bool)(h:xQ a0 a1=some r):aB pw 266 [.agg [.aE (a0.nodes.map encI),.aE (a0.ag.map ay)],.agg [.aE (a1.nodes.map encI),.aE (a1.ag.map ay)]] (λv=>v = .val (.bool r)):=by
 refine aB.eV ?_;refine aC [] func266 ?_;rw[ntmps266,results266];unfold xQ at h;have F:=trivial;refine zK F h (bQ _ _) λr2 h=>?_
 refine eZ F h (λF h=>?_) λF h=>?_
 ·refine zK F h (od _ _) λr3 h=>?_
  exact zR h
 ·exact zR h
theorem uk(a0:Int)(a1:List Int)(a2:List Int)(a3:List Int)(a4:List Int)(a5:Int)(r:(List Int))(h:fC a0 a1 a2 a3 a4 a5=some r):aZ pw 145 [.val (.int .i64 a0),.aE (a1.map encI),.aE (a2.map encI),.aE (a3.map encI),.aE (a4.map encI),.val (.int .i64 a5)] (λv=>v = .row 3 1 (r.map encI)):=by
 refine aZ.tj ?_;refine bl [29] func145 ?_;rw[ntmps145,results145];unfold fC at h;have F:=trivial;refine zV ?_;refine zO F h (0:Nat) [0,1,2,3,4] (λx=>[(5,.p (.val (.int .i64 x.1.2.1))),(13,.row 8777 x.2),(14,.p (.val (.int .i64 ((x.1.1:Nat):Int))))]) [] (λx H=>[(8777,.row x.2 3 1 (x.1.2.2.map encI))]) ?_ ?_ (hw:=by refine fE.trans (jg 13 8777 3 1 rfl rfl (by decide)) ?_;exact zW)
 ·intro i6 s6 g6 _ _ F Ns6 h;try dsimp only at h
  refine zK F h (ep _ _) λr7 h=>?_
  refine zB F h (λF h=>?_) λF h=>?_
  ·refine zC F h λF h=>?_
   refine zF (eq_true (show (s6.2.length+1) * 8<=140737488355328 by omega)) F λF=>?_
   refine zF (bK encI s6.2 [s6.1] (c:=[[.val (.int .i64 s6.1)]]) rfl) F λF=>?_
   exact zX (z:=Ns6 _ (g6+1) h zW)
  ·refine zA encI F h λe8 F h=>?_
   refine zA encI F h λe9 F h=>?_
   refine zK F h (ep _ _) λoZ h=>?_
   refine zC F h λF h=>?_
   refine zF (eq_true (show (s6.2.length+1) * 8<=140737488355328 by omega)) F λF=>?_
   refine zF (bK encI s6.2 [oZ] (c:=[[.val (.int .i64 oZ)]]) rfl) F λF=>?_
   exact zX (z:=Ns6 _ (g6+1) h zW)
 ·intro i6 s6 g6 _ F h;try dsimp only at h
  exact fQ h
end
noncomputable section
theorem uq(n:Nat):∀ (a0:aj) (r:Bool) (h:cI n a0=some r),aB pw 209 [.agg (aI a0)] (λv=>v = .val (.bool r)):=by
 induction n with
 |zero=>intro a0 r h;cases h
 |succ n ih =>
 intro a0 r h;refine aB.eV ?_;refine aC [] func209 ?_;rw[ntmps209,results209];unfold cI at h;have F:=trivial;refine zK F h (wJ _) λr1 h=>?_
 refine cG F h (λF h=>?_) λF h=>?_
 ·refine zV ?_;refine zN F h () [1] (λx=>[(3,.p (.val (.int .i64 ((x.1.1:Nat):Int))))]) [1] (λx H=>[]) ?_ ?_
  ·intro i2 s2 g2 _ _ F kN h;try dsimp only at h
   refine zI aI F h λe3 F h=>?_
   refine zK F h (ih _) λr4 h=>?_
   refine cG F h (λF h=>?_) λF h=>?_
   ·exact zX (z:=kN _ () h zW)
   ·exact zR h
  ·intro i2 s2 g2 _ F h;try dsimp only at h
   exact zR h
 ·exact zR h
end
noncomputable section
theorem adC(a0:aF)(a1:aF)(r:aF×ah×ah×Int)(h:jS a0 a1=some r):aZ pw 48 [.agg (aQ a0),.agg (aQ a1)] (λv=>v = .dg [.agg [.p (.val (.string r.1.name)),.row 3 1 (r.1.left.graph.nodes.map encI),.row 165 3 (r.1.left.graph.ag.map ay),.p (.aE (r.1.left.slots.map aL)),.p (.val (.int .i64 r.1.left.vars)),.p (.aE (r.1.left.tests.map aM)),.row 3 1 (r.1.right.graph.nodes.map encI),.row 165 3 (r.1.right.graph.ag.map ay),.p (.aE (r.1.right.slots.map aL)),.p (.val (.int .i64 r.1.right.vars)),.p (.aE (r.1.right.tests.map aM)),.row 3 1 (r.1.keep.nodes.map encI),.row 3 1 (r.1.keep.ag.map encI),.row 3 1 (r.1.into.nodes.map encI),.row 3 1 (r.1.into.ag.map encI),.p (.val (.bool r.1.injective)),.p (.val (.int .i64 r.1.condition.kind)),.p (.aE (r.1.condition.kids.map aI)),.p (.aE (r.1.condition.map.nodes.map encI)),.p (.aE (r.1.condition.map.ag.map encI)),.p (.aE (r.1.condition.pattern.graph.nodes.map encI)),.p (.aE (r.1.condition.pattern.graph.ag.map ay)),.p (.aE (r.1.condition.pattern.slots.map aL)),.p (.val (.int .i64 r.1.condition.pattern.vars)),.p (.aE (r.1.condition.pattern.tests.map aM))],.agg [.row 3 1 (r.2.1.nodes.map encI),.row 3 1 (r.2.1.ag.map encI)],.agg [.row 3 1 (r.2.2.1.nodes.map encI),.row 3 1 (r.2.2.1.ag.map encI)],.p (.val (.int .i64 r.2.2.2))]):=by
 refine aZ.tj ?_;refine bl [2000004,2000005] func48 ?_;rw[ntmps48,results48];unfold jS at h;have F:=trivial;refine zD [.q,.q,.q,.o,.o,.o,.o,.o,.o,.o,.o,.o,.w,.w,.w,.w,.s,.s,.s,.s] ?_;refine zK F h (qO _ _) λr2 h=>?_
 refine jj F h (λF h=>?_) λF h=>?_
 ·exact fQ h
 ·refine zK F h (qO _ _) λr3 h=>?_
  refine zB F h (λF h=>?_) λF h=>?_
  ·exact fQ h
  ·refine zG 2104 F h (abf _ _) λr4 h=>?_
   refine cG F h (λF h=>?_) λF h=>?_
   ·refine zG 2328 F h (abf _ _) λr5 h=>?_
    refine cG F h (λF h=>?_) λF h=>?_
    ·refine zE [(0,.q),(1,.q),(2,.q),(3,.q),(4,.q),(5,.q),(6,.q),(7,.q),(8,.q),(9,.q),(10,.q),(11,.q),(12,.q),(13,.q),(14,.q),(16,.q),(17,.q),(18,.q),(19,.q),(20,.q),(21,.q),(22,.q),(23,.q),(24,.q),(27,.q),(28,.q),(29,.q),(30,.q),(31,.q),(32,.q),(33,.q),(34,.q),(35,.q),(37,.q),(38,.q),(39,.q),(40,.q),(41,.q),(42,.q),(43,.q),(44,.q),(45,.q),(48,.q),(50,.o),(51,.o),(15,.f),(25,.f),(26,.q),(36,.f),(46,.f),(47,.q),(49,.q),(52,.s),(53,.s),(54,.w),(55,.q)] ?_;refine zH 2744 F h (mo _ _ _) λr6 h=>?_
     refine zH 2904 F h (mo _ _ _) λr7 h=>?_
     refine zH 3080 F h (mo _ _ _) λr8 h=>?_
     refine zH 3240 F h (mo _ _ _) λr9 h=>?_
     exact fQ h
    ·exact fQ h
   ·exact fQ h
theorem wM(a0:Int)(a1:List aH)(r:Int)(h:gN a0 a1=some r):aB pw 128 [.val (.int .i64 a0),.aE (a1.map aM)] (λv=>v = .val (.int .i64 r)):=by
 refine aB.eV ?_;refine aC [] func128 ?_;rw[ntmps128,results128];unfold gN at h;have F:=trivial;refine jj F h (λF h=>?_) λF h=>?_
 ·exact zR h
 ·refine zB F h (λF h=>?_) λF h=>?_
  ·exact zR h
  ·refine zB F h (λF h=>?_) λF h=>?_
   ·exact zR h
   ·refine zV ?_;refine zN F h () [0,1] (λx=>[(5,.p (.val (.int .i64 ((x.1.1:Nat):Int))))]) [] (λx H=>[]) ?_ ?_
    ·intro i2 s2 g2 _ _ F kN h;try dsimp only at h
     refine zI aM F h λe3 F h=>?_
     refine zK F h (yV _ _) λr4 h=>?_
     refine cG F h (λF h=>?_) λF h=>?_
     ·exact zX (z:=kN _ () h zW)
     ·exact zR h
    ·intro i2 s2 g2 _ F h;try dsimp only at h
     exact zR h
end
noncomputable section
theorem xZ(n:Nat):∀ (a0:aj) (r:Bool) (h:aT n a0=some r),aB pw 357 [.agg (aI a0)] (λv=>v = .val (.bool r)):=by
 induction n with
 |zero=>intro a0 r h;cases h
 |succ n ih =>
 intro a0 r h;refine aB.eV ?_;refine aC [] func357 ?_;rw[ntmps357,results357];unfold aT at h;have F:=trivial;refine zB F h (λF h=>?_) λF h=>?_
 ·refine eZ F h (λF h=>?_) λF h=>?_
  ·refine zK F h (nU _) λr1 h=>?_
   refine eZ F h (λF h=>?_) λF h=>?_
   ·refine zK F h (dU _ (λx2=>bz (λy0=>aT n y0) x2) 404 [] [] (λx2 r h=>gy (λy0=>aT n y0) ih x2 r h)) λr3 h=>?_
    exact zR h
   ·exact zR h
  ·exact zR h
 ·refine zB F h (λF h=>?_) λF h=>?_
  ·refine eZ F h (λF h=>?_) λF h=>?_
   ·refine zK F h (nU _) λr4 h=>?_
    refine eZ F h (λF h=>?_) λF h=>?_
    ·refine zK F h (dU _ (λx5=>bz (λy0=>aT n y0) x5) 404 [] [] (λx5 r h=>gy (λy0=>aT n y0) ih x5 r h)) λr6 h=>?_
     exact zR h
    ·exact zR h
   ·exact zR h
  ·refine zB F h (λF h=>?_) λF h=>?_
   ·refine eZ F h (λF h=>?_) λF h=>?_
    ·refine zK F h (nU _) λr7 h=>?_
     refine eZ F h (λF h=>?_) λF h=>?_
     ·refine zK F h (dU _ (λx8=>bz (λy0=>aT n y0) x8) 404 [] [] (λx8 r h=>gy (λy0=>aT n y0) ih x8 r h)) λr9 h=>?_
      exact zR h
     ·exact zR h
    ·exact zR h
   ·refine zB F h (λF h=>?_) λF h=>?_
    ·refine eZ F h (λF h=>?_) λF h=>?_
     ·refine zK F h (nU _) λoZ h=>?_
      refine eZ F h (λF h=>?_) λF h=>?_
      ·refine zK F h (dU _ (λx11=>bz (λy0=>aT n y0) x11) 404 [] [] (λx11 r h=>gy (λy0=>aT n y0) ih x11 r h)) λvM h=>?_
       exact zR h
      ·exact zR h
     ·exact zR h
    ·refine zB F h (λF h=>?_) λF h=>?_
     ·refine eZ F h (λF h=>?_) λF h=>?_
      ·refine zK F h (dU _ (λx13=>bz (λy0=>aT n y0) x13) 404 [] [] (λx13 r h=>gy (λy0=>aT n y0) ih x13 r h)) λr14 h=>?_
       exact zR h
      ·exact zR h
     ·exact zR h
theorem yK(a0:Types)(a1:au)(r:Bool)(h:oF a0 a1=some r):aB pw 331 [.agg [.aE (a0.nodes.map az),.aE (a0.ag.map aA)],.agg [.aE (a1.nodes.map encI),.aE (a1.ag.map ay)]] (λv=>v = .val (.bool r)):=by
 refine aB.eV ?_;refine aC [] func331 ?_;rw[ntmps331,results331];unfold oF at h;have F:=trivial;refine zK F h (fT _ (λx2=>mT x2 (⟨a0.nodes,a0.ag⟩:Types)) 384 [] [.fq [.aE (((⟨a0.nodes,a0.ag⟩:Types).nodes).map az),.aE (((⟨a0.nodes,a0.ag⟩:Types).ag).map aA)] 0] (λx2 r h=>acp x2 (⟨a0.nodes,a0.ag⟩:Types) r h)) λr3 h=>?_
 refine jj F h (λF h=>?_) λF h=>?_
 ·exact zR h
 ·refine zK F h (j4 _ (λx4=>mU x4 (⟨a0.nodes,a0.ag⟩:Types)) 385 [] [.fq [.aE (((⟨a0.nodes,a0.ag⟩:Types).nodes).map az),.aE (((⟨a0.nodes,a0.ag⟩:Types).ag).map aA)] 0] (λx4 r h=>aco x4 (⟨a0.nodes,a0.ag⟩:Types) r h)) λr5 h=>?_
  exact zR h
theorem uT(a0:aF)(r:(List Int)×(List Int))(h:cT a0=some r):aZ pw 62 [.agg (aQ a0)] (λv=>v = .dg [.row 3 1 (r.1.map encI),.row 3 1 (r.2.map encI)]):=by
 refine aZ.tj ?_;refine bl [] func62 ?_;rw[ntmps62,results62];unfold cT at h;have F:=trivial;refine zE [(0,.q),(1,.q),(2,.q),(3,.q),(4,.q),(5,.q),(6,.q),(7,.q),(9,.q),(10,.q),(11,.q),(12,.q),(13,.q),(14,.q),(15,.q),(16,.q),(8,.f),(17,.f),(18,.q),(19,.q)] ?_;refine zH 1192 F h (p7 _ _) λr1 h=>?_
 refine zH 1336 F h (p7 _ _) λr2 h=>?_
 exact fQ h
end
noncomputable section
theorem ur(a0:ak)(a1:ak)(r:Bool)(h:mm a0 a1=some r):aB pw 187 [.agg (bL a0),.agg (bL a1)] (λv=>v = .val (.bool r)):=by
 refine aB.eV ?_;refine aC [] func187 ?_;rw[ntmps187,results187];unfold mm at h;have F:=trivial;refine zK F h (aju _ _) λr2 h=>?_
 refine eZ F h (λF h=>?_) λF h=>?_
 ·refine eZ F h (λF h=>?_) λF h=>?_
  ·refine zK F h (sF _ _) λr3 h=>?_
   refine eZ F h (λF h=>?_) λF h=>?_
   ·refine zK F h (sG _ _) λr4 h=>?_
    exact zR h
   ·exact zR h
  ·exact zR h
 ·exact zR h
theorem x9(n:Nat):∀ (a0:aj) (a1:Int) (r:Int) (h:fH n a0 a1=some r),aB pw 192 [.agg (aI a0),.val (.int .i64 a1)] (λv=>v = .val (.int .i64 r)):=by
 induction n with
 |zero=>intro a0 a1 r h;cases h
 |succ n ih =>
 intro a0 a1 r h;refine aB.eV ?_;refine aC [] func192 ?_;rw[ntmps192,results192];unfold fH at h;have F:=trivial;refine zK F h (mQ _) λr2 h=>?_
 refine eZ F h (λF h=>?_) λF h=>?_
 ·refine zK F h (j7 _ _) λr3 h=>?_
  refine cG F h (λF h=>?_) λF h=>?_
  ·refine zV ?_;refine zL F h () [2] (λx=>[(1,.p (.val (.int .i64 x.1.1))),(5,.p (.val (.int .i64 x.1.2)))]) [2] (λx H=>[]) ?_;intro s4 g4 _ _ F Ns4 h;try dsimp only at h
   refine eZ F h (λF h=>?_) λF h=>?_
   ·refine zB F h (λF h=>?_) λF h=>?_
    ·refine zA aI F h λe5 F h=>?_
     refine zK F h (ih _ _) λr6 h=>?_
     exact zX (z:=Ns4 _ () h zW)
    ·try dsimp only at h
     exact zR h
   ·try dsimp only at h
    exact zR h
  ·exact zR h
 ·exact zR h
theorem jw(a0:au)(a1:aF)(a2:ah)(a3:aO)(r:au)(h:bG a0 a1 a2 a3=some r):aZ pw 85 [.agg [.aE (a0.nodes.map encI),.aE (a0.ag.map ay)],.agg (aQ a1),.agg [.aE (a2.nodes.map encI),.aE (a2.ag.map encI)],.agg [.aE (a3.nodes.map encI),.aE (a3.ag.map encI)]] (λv=>v = .agg [.row 3 1 (r.nodes.map encI),.row 165 3 (r.ag.map ay)]):=by
 refine aZ.tj ?_;refine bl [] func85 ?_;rw[ntmps85,results85];unfold bG at h;have F:=trivial;refine zG 1240 F h (kV _) λr4 h=>?_
 refine zG 1544 F h (uk _ _ _ _ _ _) λr5 h=>?_
 refine zV ?_;refine zN F h (0:Nat) [5,8,9,10] (λx=>[(11,.p (.val (.int .i64 ((x.1.1:Nat):Int))))]) [5,8,1544,1241] (λx H=>[(9,bx (H 9) [(0,.row 1240 x.2)]),(1240,.row x.2 3 1 (x.1.2.map encI))]) ?_ ?_
 ·intro i6 s6 g6 _ _ F Ns6 h;try dsimp only at h
  refine zK F h (iO _ _) λr7 h=>?_
  refine cG F h (λF h=>?_) λF h=>?_
  ·exact zX (z:=Ns6 _ g6 h zW)
  ·refine zE [(0,.p),(2,.q),(3,.q),(4,.q),(5,.q),(6,.q),(7,.q),(8,.q),(9,.p),(1,.q),(10,.w),(11,.q),(12,.w)] ?_;refine zI encI F h λe8 F h=>?_
   refine zC F h λF h=>?_
   refine zF (eq_true (show (s6.length+1) * 8<=140737488355328 by omega)) F λF=>?_
   refine zF (bK encI s6 [e8] (c:=[[.val (.int .i64 e8)]]) rfl) F λF=>?_
   exact zX (z:=Ns6 _ (g6+1) h zW)
 ·intro i6 s6 g6 _ F h;try dsimp only at h
  refine zV ?_;refine zN F h (0:Nat) [5,8,9,10] (λx=>[(12,.p (.val (.int .i64 ((x.1.1:Nat):Int))))]) [5,8,1544,1240] (λx H=>[(9,bx (H 9) [(1,.row 1241 x.2)]),(1241,.row x.2 165 3 (x.1.2.map ay))]) ?_ ?_
  ·intro i9 s9 g9 _ _ F Ns9 h;try dsimp only at h
   refine zI ay F h λsS F h=>?_
   refine zK F h (iO _ _) λqg h=>?_
   refine cG F h (λF h=>?_) λF h=>?_
   ·exact zX (z:=Ns9 _ g9 h zW)
   ·refine zE [(0,.p),(2,.q),(3,.q),(4,.q),(5,.q),(6,.q),(7,.q),(8,.q),(9,.q),(10,.q),(11,.q),(12,.q),(13,.q),(14,.q),(15,.p),(1,.q),(16,.w),(17,.q),(18,.w)] ?_;refine zA encI F h λe12 F h=>?_
    refine zA encI F h λe13 F h=>?_
    refine zC F h λF h=>?_
    refine zF (eq_true (show (s9.length+1) * 24<=140737488355328 by omega)) F λF=>?_
    refine zF (bK ay s9 [(⟨sS.type,e12,e13⟩:Edge)] (c:=[[.val (.int .i64 sS.type),.val (.int .i64 e12),.val (.int .i64 e13)]]) rfl) F λF=>?_
    exact zX (z:=Ns9 _ (g9+1) h zW)
  ·intro i9 s9 g9 _ F h;try dsimp only at h
   exact fQ h
end
noncomputable section
theorem aaf(a0:Types)(a1:au)(a2:au)(a3:ah)(r:Int)(h:pW a0 a1 a2 a3=some r):aB pw 255 [.agg [.aE (a0.nodes.map az),.aE (a0.ag.map aA)],.agg [.aE (a1.nodes.map encI),.aE (a1.ag.map ay)],.agg [.aE (a2.nodes.map encI),.aE (a2.ag.map ay)],.agg [.aE (a3.nodes.map encI),.aE (a3.ag.map encI)]] (λv=>v = .val (.int .i64 r)):=by
 refine aB.eV ?_;refine aC [] func255 ?_;rw[ntmps255,results255];unfold pW at h;have F:=trivial;refine eZ F h (λF h=>?_) λF h=>?_
 ·refine cG F h (λF h=>?_) λF h=>?_
  ·refine zG 1528 F h (af3 _) λr4 h=>?_
   refine zV ?_;refine zN F h () [5,6,7,9,35,36] (λx=>[(37,.p (.val (.int .i64 ((x.1.1:Nat):Int))))]) [5,6,7,1528] (λx H=>[]) ?_ ?_
   ·intro i5 s5 g5 _ _ F Ns5 h;try dsimp only at h
    refine zI encI F h λe6 F h=>?_
    refine jj F h (λF h=>?_) λF h=>?_
    ·exact zR h
    ·refine zB F h (λF h=>?_) λF h=>?_
     ·exact zR h
     ·refine zD [.q,.q,.q,.q,.q,.q,.q,.q,.q,.q,.q,.q,.q,.q,.q,.q] ?_;refine zI encI F h λe7 F h=>?_
      refine zA qJ F h λe8 F h=>?_
      refine zA encI F h λe9 F h=>?_
      refine zA gY F h λsS F h=>?_
      refine cG F h (λF h=>?_) λF h=>?_
      ·exact zX (z:=Ns5 _ () h zW)
      ·exact zR h
   ·intro i5 s5 g5 _ F h;try dsimp only at h
    refine zV ?_;refine zN F h () [5,6,7,69,70] (λx=>[(71,.p (.val (.int .i64 ((x.1.1:Nat):Int))))]) [5,6,7] (λx H=>[]) ?_ ?_
    ·intro i11 s11 g11 _ _ F aFH h;try dsimp only at h
     refine zI encI F h λe12 F h=>?_
     refine jj F h (λF h=>?_) λF h=>?_
     ·exact zR h
     ·refine zB F h (λF h=>?_) λF h=>?_
      ·exact zR h
      ·refine zD [.q,.q,.q,.q,.q,.o,.o,.o,.o,.o,.w,.w,.s,.s] ?_;refine zI ay F h λe13 F h=>?_
       refine zA ay F h λe14 F h=>?_
       refine cG F h (λF h=>?_) λF h=>?_
       ·refine zD [.q,.q,.q,.q,.q,.q,.q,.q,.q,.q,.q,.q,.q,.q,.q,.q,.q,.q,.q,.q] ?_;refine zA encI F h λe15 F h=>?_
        refine zBd F h (λF h=>?_) λF h=>?_
        ·refine zA encI F h λe16 F h=>?_
         refine cG F h (λF h=>?_) λF h=>?_
         ·exact zX (z:=aFH _ () h zW)
         ·exact zR h
        ·exact zR h
       ·exact zR h
    ·intro i11 s11 g11 _ F h;try dsimp only at h
     exact zR h
  ·exact zR h
 ·exact zR h
theorem o7(a0:au)(a1:aO)(r:Int)(h:b8 a0 a1=some r):aB pw 131 [.agg [.aE (a0.nodes.map encI),.aE (a0.ag.map ay)],.agg [.aE (a1.nodes.map encI),.aE (a1.ag.map encI)]] (λv=>v = .val (.int .i64 r)):=by
 refine aB.eV ?_;refine aC [] func131 ?_;rw[ntmps131,results131];unfold b8 at h;have F:=trivial;refine zK F h (cN _) λr2 h=>?_
 refine cG F h (λF h=>?_) λF h=>?_
 ·refine zK F h (wL _ _) λr3 h=>?_
  exact zR h
 ·exact zR h
theorem o8(a0:List Int)(a1:List Int)(a2:List Bool)(a3:List Bool)(r:Bool)(h:fo a0 a1 a2 a3=some r):aB pw 80 [.aE (a0.map encI),.aE (a1.map encI),.aE (a2.map gY),.aE (a3.map gY)] (λv=>v = .val (.bool r)):=by
 refine aB.eV ?_;refine aC [] func80 ?_;rw[ntmps80,results80];unfold fo at h;have F:=trivial;refine zV ?_;refine zN F h () [0,1,2,3] (λx=>[(9,.p (.val (.int .i64 ((x.1.1:Nat):Int))))]) [] (λx H=>[]) ?_ ?_
 ·intro i4 s4 g4 _ _ F Ns4 h;try dsimp only at h
  refine zD [.q,.q,.q,.q,.q,.q,.q,.q,.q,.q,.q,.q,.q,.q,.q,.q,.q,.q,.q] ?_;refine zKd F h (iO _ _) λr5 h=>?_
  refine zBd F h (λF h=>?_) λF h=>?_
  ·refine zKd F h (iO _ _) λr6 h=>?_
   refine zBd F h (λF h=>?_) λF h=>?_
   ·refine zI gY F h λe7 F h=>?_
    refine zI gY F h λe8 F h=>?_
    refine cG F h (λF h=>?_) λF h=>?_
    ·exact zX (z:=Ns4 _ () h zW)
    ·exact zR h
   ·exact zX (z:=Ns4 _ () h zW)
  ·exact zX (z:=Ns4 _ () h zW)
 ·intro i4 s4 g4 _ F h;try dsimp only at h
  exact zR h
end
noncomputable section
theorem abN(a0:Int)(a1:List aH)(r:Int)(h:jY a0 a1=some r):aB pw 278 [.val (.int .i64 a0),.aE (a1.map aM)] (λv=>v = .val (.int .i64 r)):=by
 refine aB.eV ?_;refine aC [] func278 ?_;rw[ntmps278,results278];unfold jY at h;have F:=trivial;refine jj F h (λF h=>?_) λF h=>?_
 ·exact zR h
 ·refine zB F h (λF h=>?_) λF h=>?_
  ·exact zR h
  ·refine zB F h (λF h=>?_) λF h=>?_
   ·exact zR h
   ·refine zV ?_;refine zN F h () [0,17,18] (λx=>[(19,.p (.val (.int .i64 ((x.1.1:Nat):Int))))]) [] (λx H=>[]) ?_ ?_
    ·intro i2 s2 g2 _ _ F kN h;try dsimp only at h
     refine zI aM F h λe3 F h=>?_
     refine zK F h (adB _ _) λr4 h=>?_
     refine cG F h (λF h=>?_) λF h=>?_
     ·exact zX (z:=kN _ () h zW)
     ·exact zR h
    ·intro i2 s2 g2 _ F h;try dsimp only at h
     exact zR h
theorem ama(a0:Types)(a1:aF)(a2:Int)(r:Int)(h:rK a0 a1 a2=some r):aB pw 281 [.agg [.aE (a0.nodes.map az),.aE (a0.ag.map aA)],.agg (aQ a1),.val (.int .i64 a2)] (λv=>v = .val (.int .i64 r)):=by
 refine aB.eV ?_;refine aC [] func281 ?_;rw[ntmps281,results281];unfold rK at h;have F:=trivial;refine zA aL F h λe3 F h=>?_
 refine jj F h (λF h=>?_) λF h=>?_
 ·exact zR h
 ·refine zB F h (λF h=>?_) λF h=>?_
  ·exact zR h
  ·refine zD [.q,.q,.q,.q,.q,.q,.q,.q,.q,.q,.q,.q,.q,.q,.q] ?_;refine zA encI F h λe4 F h=>?_
   refine zKd F h (vL _ _) λr5 h=>?_
   refine jj F h (λF h=>?_) λF h=>?_
   ·exact zR h
   ·refine jj F h (λF h=>?_) λF h=>?_
    ·exact zR h
    ·refine jj F h (λF h=>?_) λF h=>?_
     ·exact zR h
     ·refine jj F h (λF h=>?_) λF h=>?_
      ·exact zR h
      ·refine jj F h (λF h=>?_) λF h=>?_
       ·exact zR h
       ·refine zB F h (λF h=>?_) λF h=>?_
        ·exact zR h
        ·refine zC F h λF h=>?_
         refine zF (eq_true (eu (n:=4) (f:=aL) (λ_=>rfl) a1.right.slots)) F λF=>?_
         refine zK F h (nB _ (λx6=>mJ x6 e3) 356 [] [.fq (aL e3) 0] (λx6 r h=>agR x6 e3 r h)) λr7 h=>?_
         refine zB F h (λF h=>?_) λF h=>?_
         ·exact zR h
         ·exact zR h
theorem adD(a0:aS)(a1:aS)(r:Bool)(h:qM a0 a1=some r):aB pw 264 [.agg (gG a0),.agg (gG a1)] (λv=>v = .val (.bool r)):=by
 refine aB.eV ?_;refine aC [] func264 ?_;rw[ntmps264,results264];unfold qM at h;have F:=trivial;refine zK F h (mF _ _) λr2 h=>?_
 refine eZ F h (λF h=>?_) λF h=>?_
 ·refine zK F h (bQ _ _) λr3 h=>?_
  exact zR h
 ·exact zR h
theorem jP(a0:Int)(a1:List Int)(a2:List Int)(r:(List Bool))(h:dM a0 a1 a2=some r):aZ pw 79 [.val (.int .i64 a0),.aE (a1.map encI),.aE (a2.map encI)] (λv=>v = .row 4 1 (r.map gY)):=by
 refine aZ.tj ?_;refine bl [10] func79 ?_;rw[ntmps79,results79];unfold dM at h;have F:=trivial;refine zC F h λF h=>?_
 refine zF (eq_true (show a0 * ((1:Nat):Int)<=140737488355328 by omega)) F λF=>?_
 refine zF (vj gY a0.toNat false (c:=[.val (.bool false)]) rfl) F λF=>?_
 refine zV ?_;refine zN F h (0:Nat) [1,2] (λx=>[(7,.row 10 x.2),(8,.p (.val (.int .i64 ((x.1.1:Nat):Int))))]) [] (λx H=>[(10,.row x.2 4 1 (x.1.2.map gY))]) ?_ ?_
 ·intro i3 s3 g3 _ _ F sV h;try dsimp only at h
  refine zK F h (iO _ _) λr4 h=>?_
  refine cG F h (λF h=>?_) λF h=>?_
  ·exact zX (z:=sV _ g3 h zW)
  ·refine zI encI F h λe5 F h=>?_
   refine zA gY F h λe6 F h=>?_
   refine zF (mC gY s3 e5.toNat true (c:=[.val (.bool true)]) rfl) F λF=>?_
   exact zX (z:=sV _ g3 h zW)
 ·intro i3 s3 g3 _ F h;try dsimp only at h
  exact fQ h
end
noncomputable section
theorem ajv(a0:Types)(a1:au)(r:Bool)(h:pR a0 a1=some r):aB pw 280 [.agg [.aE (a0.nodes.map az),.aE (a0.ag.map aA)],.agg [.aE (a1.nodes.map encI),.aE (a1.ag.map ay)]] (λv=>v = .val (.bool r)):=by
 refine aB.eV ?_;refine aC [] func280 ?_;rw[ntmps280,results280];unfold pR at h;have F:=trivial;refine zK F h (fT _ (λx2=>nu x2 (⟨a0.nodes,a0.ag⟩:Types)) 353 [] [.fq [.aE (((⟨a0.nodes,a0.ag⟩:Types).nodes).map az),.aE (((⟨a0.nodes,a0.ag⟩:Types).ag).map aA)] 0] (λx2 r h=>af0 x2 (⟨a0.nodes,a0.ag⟩:Types) r h)) λr3 h=>?_
 refine jj F h (λF h=>?_) λF h=>?_
 ·exact zR h
 ·refine zK F h (j4 _ (λx4=>nv x4 (⟨a0.nodes,a0.ag⟩:Types)) 354 [] [.fq [.aE (((⟨a0.nodes,a0.ag⟩:Types).nodes).map az),.aE (((⟨a0.nodes,a0.ag⟩:Types).ag).map aA)] 0] (λx4 r h=>afZ x4 (⟨a0.nodes,a0.ag⟩:Types) r h)) λr5 h=>?_
  exact zR h
theorem iH(a0:List Int)(a1:Int)(r:Int×Bool)(h:cS a0 a1=some r):aB pw 141 [.aE (a0.map encI),.val (.int .i64 a1)] (λv=>v = .dg [.val (.int .i64 r.1),.val (.bool r.2)]):=by
 refine aB.eV ?_;refine aC [] func141 ?_;rw[ntmps141,results141];unfold cS at h;have F:=trivial;refine zV ?_;refine zL F h () [0,1,6] (λx=>[(7,.p (.val (.int .i64 x.1.1))),(8,.p (.val (.int .i64 x.1.2)))]) [] (λx H=>[]) ?_;intro s2 g2 _ _ F kN h;try dsimp only at h
 refine zB F h (λF h=>?_) λF h=>?_
 ·refine zF (show (0:Int)<=1 by decide) F λF=>?_
  refine zF (show min 1 64=1 from rfl) F λF=>?_
  refine zA encI F h λe3 F h=>?_
  refine zK F h (af1 _ _) λr4 h=>?_
  refine zB F h (λF h=>?_) λF h=>?_
  ·exact zX (z:=kN _ () h zW)
  ·exact zX (z:=kN _ () h zW)
 ·try dsimp only at h
  refine eZ F h (λF h=>?_) λF h=>?_
  ·refine zA encI F h λe5 F h=>?_
   refine jj F h (λF h=>?_) λF h=>?_
   ·exact zR h
   ·refine zK F h (ue _) λr6 h=>?_
    refine eZ F h (λF h=>?_) λF h=>?_
    ·refine zK F h (ue _) λr7 h=>?_
     exact zR h
    ·exact zR h
  ·exact zR h
theorem adE(n:Nat):∀ (a0:aj) (a1:aj) (r:Bool) (h:lK n a0 a1=some r),aB pw 189 [.agg (aI a0),.agg (aI a1)] (λv=>v = .val (.bool r)):=by
 induction n with
 |zero=>intro a0 a1 r h;cases h
 |succ n ih =>
 intro a0 a1 r h;refine aB.eV ?_;refine aC [] func189 ?_;rw[ntmps189,results189];unfold lK at h;have F:=trivial;refine zD [.q,.q,.o,.o,.w,.w,.s,.s] ?_;refine eZ F h (λF h=>?_) λF h=>?_
 ·refine zK F h (mF _ _) λr2 h=>?_
  refine eZ F h (λF h=>?_) λF h=>?_
  ·refine eZ F h (λF h=>?_) λF h=>?_
   ·refine zK F h (bQ _ _) λr3 h=>?_
    refine eZ F h (λF h=>?_) λF h=>?_
    ·refine zK F h (od _ _) λr4 h=>?_
     refine cG F h (λF h=>?_) λF h=>?_
     ·refine zK F h (sF _ _) λr5 h=>?_
      refine eZ F h (λF h=>?_) λF h=>?_
      ·refine zK F h (sG _ _) λr6 h=>?_
       refine eZ F h (λF h=>?_) λF h=>?_
       ·refine zK F h (sj _ _ (λx7 x8=>lK n x7 x8) 189 [] [] (λx7 x8 r h=>ih x7 x8 r h)) λr9 h=>?_
        exact zR h
       ·exact zR h
      ·exact zR h
     ·exact zR h
    ·exact zR h
   ·exact zR h
  ·exact zR h
 ·exact zR h
end
noncomputable section
theorem af4(a0:Types)(a1:au)(a2:List Int)(a3:List Int)(r:Bool)(h:lI a0 a1 a2 a3=some r):aB pw 198 [.agg [.aE (a0.nodes.map az),.aE (a0.ag.map aA)],.agg [.aE (a1.nodes.map encI),.aE (a1.ag.map ay)],.aE (a2.map encI),.aE (a3.map encI)] (λv=>v = .val (.bool r)):=by
 refine aB.eV ?_;refine aC [] func198 ?_;rw[ntmps198,results198];unfold lI at h;have F:=trivial;refine zK F h (fT _ (λx4=>jQ x4 (⟨a0.nodes,a0.ag⟩:Types) (⟨a1.nodes,a1.ag⟩:au)) 283 [] [.fq [.aE (((⟨a0.nodes,a0.ag⟩:Types).nodes).map az),.aE (((⟨a0.nodes,a0.ag⟩:Types).ag).map aA)] 0,.fq [.aE (((⟨a1.nodes,a1.ag⟩:au).nodes).map encI),.aE (((⟨a1.nodes,a1.ag⟩:au).ag).map ay)] 0] (λx4 r h=>ady x4 (⟨a0.nodes,a0.ag⟩:Types) (⟨a1.nodes,a1.ag⟩:au) r h)) λr5 h=>?_
 refine jj F h (λF h=>?_) λF h=>?_
 ·exact zR h
 ·refine zK F h (fT _ (λx6=>jR x6 a1 (⟨a0.nodes,a0.ag⟩:Types)) 284 [] [.fq [.aE (a1.nodes.map encI),.aE (a1.ag.map ay)] 0,.fq [.aE (((⟨a0.nodes,a0.ag⟩:Types).nodes).map az),.aE (((⟨a0.nodes,a0.ag⟩:Types).ag).map aA)] 0] (λx6 r h=>adw x6 a1 (⟨a0.nodes,a0.ag⟩:Types) r h)) λr7 h=>?_
  exact zR h
theorem mq(a0:ak)(a1:ak)(r:Bool)(h:eD a0 a1=some r):aB pw 52 [.agg (bL a0),.agg (bL a1)] (λv=>v = .val (.bool r)):=by
 refine aB.eV ?_;refine aC [] func52 ?_;rw[ntmps52,results52];unfold eD at h;have F:=trivial;refine zK F h (xW _ _) λr2 h=>?_
 refine eZ F h (λF h=>?_) λF h=>?_
 ·refine eZ F h (λF h=>?_) λF h=>?_
  ·refine eZ F h (λF h=>?_) λF h=>?_
   ·refine cG F h (λF h=>?_) λF h=>?_
    ·refine zV ?_;refine zL F h () [2,3,5] (λx=>[]) [2,3] (λx H=>[]) ?_;intro s3 g3 _ _ F sV h;try dsimp only at h
     refine zB F h (λF h=>?_) λF h=>?_
     ·refine zD [.q,.q,.q,.q,.q,.q,.q,.q,.q,.q,.q] ?_;cases h
     ·try dsimp only at h
      refine zV ?_;refine zL F h () [2,3,6] (λx=>[]) [2,3] (λx H=>[]) ?_;intro s4 g4 _ _ F Ns4 h;try dsimp only at h
      refine zB F h (λF h=>?_) λF h=>?_
      ·refine zD [.q,.q,.q,.q,.q,.q,.q,.q,.q,.q,.q] ?_;cases h
      ·try dsimp only at h
       exact zR h
    ·exact zR h
   ·exact zR h
  ·exact zR h
 ·exact zR h
theorem uU(a0:au)(a1:au)(a2:au)(a3:ah)(a4:ah)(r:Bool)(h:fS a0 a1 a2 a3 a4=some r):aB pw 78 [.agg [.aE (a0.nodes.map encI),.aE (a0.ag.map ay)],.agg [.aE (a1.nodes.map encI),.aE (a1.ag.map ay)],.agg [.aE (a2.nodes.map encI),.aE (a2.ag.map ay)],.agg [.aE (a3.nodes.map encI),.aE (a3.ag.map encI)],.agg [.aE (a4.nodes.map encI),.aE (a4.ag.map encI)]] (λv=>v = .val (.bool r)):=by
 refine aB.eV ?_;refine aC [] func78 ?_;rw[ntmps78,results78];unfold fS at h;have F:=trivial;refine zK F h (eo _ _ _) λr5 h=>?_
 refine eZ F h (λF h=>?_) λF h=>?_
 ·refine zK F h (eo _ _ _) λr6 h=>?_
  refine eZ F h (λF h=>?_) λF h=>?_
  ·refine zK F h (oD _ _ _) λr7 h=>?_
   refine eZ F h (λF h=>?_) λF h=>?_
   ·refine zK F h (oD _ _ _) λr8 h=>?_
    exact zR h
   ·exact zR h
  ·exact zR h
 ·exact zR h
end
noncomputable section
theorem uV(a0:au)(a1:aO)(r:au×ah×Int)(h:fR a0 a1=some r):aZ pw 132 [.agg [.aE (a0.nodes.map encI),.aE (a0.ag.map ay)],.agg [.aE (a1.nodes.map encI),.aE (a1.ag.map encI)]] (λv=>v = .dg [.agg [.row 3 1 (r.1.nodes.map encI),.row 165 3 (r.1.ag.map ay)],.agg [.row 3 1 (r.2.1.nodes.map encI),.row 3 1 (r.2.1.ag.map encI)],.p (.val (.int .i64 r.2.2))]):=by
 refine aZ.tj ?_;refine bl [39,73,76,79,80,83] func132 ?_;rw[ntmps132,results132];unfold fR at h;have F:=trivial;refine zK F h (o7 _ _) λr2 h=>?_
 refine cG F h (λF h=>?_) λF h=>?_
 ·refine zV ?_;refine zN F h (0:Nat) [2,3,4,5,8] (λx=>[(9,.p (.val (.int .i64 ((x.1.1:Nat):Int))))]) [2,3,4,5] (λx H=>[(8,bx (H 8) [(0,.row 7315 x.2)]),(7315,.row x.2 3 1 (x.1.2.map encI))]) ?_ ?_ (hw:=by refine fE.trans (eN 8 0 7315 3 1 _ rfl rfl rfl (by decide)) ?_;exact zW)
  ·intro i3 s3 g3 _ _ F sV h;try dsimp only at h
   refine zE [(0,.p),(2,.q),(3,.q),(4,.q),(5,.q),(6,.q),(7,.q),(8,.q),(9,.q),(10,.q),(11,.p),(1,.q),(12,.w),(13,.q),(14,.w)] ?_;refine zI encI F h λe4 F h=>?_
   refine zA encI F h λe5 F h=>?_
   refine zC F h λF h=>?_
   refine zF (eq_true (show (s3.length+1) * 8<=140737488355328 by omega)) F λF=>?_
   refine zF (bK encI s3 [e5] (c:=[[.val (.int .i64 e5)]]) rfl) F λF=>?_
   exact zX (z:=sV _ (g3+1) h zW)
  ·intro i3 s3 g3 _ F h;try dsimp only at h
   refine zV ?_;refine zN F h (0:Nat) [2,3,4,5,8] (λx=>[(10,.p (.val (.int .i64 ((x.1.1:Nat):Int))))]) [2,3,4,5,7315] (λx H=>[(8,bx (H 8) [(1,.row 7365 x.2)]),(7365,.row x.2 165 3 (x.1.2.map ay))]) ?_ ?_ (hw:=by refine fE.trans (eN 8 1 7365 165 3 _ rfl rfl rfl (by decide)) ?_;exact zW)
   ·intro i6 s6 g6 _ _ F Ns6 h;try dsimp only at h
    refine zD [.q,.q,.q,.q,.q,.q,.q,.q,.q,.w,.s] ?_;refine zI encI F h λe7 F h=>?_
    refine zA ay F h λe8 F h=>?_
    refine zE [(0,.p),(2,.q),(3,.q),(4,.q),(5,.q),(6,.q),(7,.q),(8,.q),(9,.q),(10,.q),(11,.q),(12,.q),(13,.q),(14,.q),(15,.p),(1,.q),(16,.w),(17,.q),(18,.w)] ?_;refine zKd F h (o5 _ _) λr9 h=>?_
    refine zKd F h (o5 _ _) λoZ h=>?_
    refine zC F h λF h=>?_
    refine zF (eq_true (show (s6.length+1) * 24<=140737488355328 by omega)) F λF=>?_
    refine zF (bK ay s6 [(⟨e8.type,r9,oZ⟩:Edge)] (c:=[[.val (.int .i64 e8.type),.val (.int .i64 r9),.val (.int .i64 oZ)]]) rfl) F λF=>?_
    exact zX (z:=Ns6 _ (g6+1) h zW)
   ·intro i6 s6 g6 _ F h;try dsimp only at h
    refine zE [(0,.b),(2,.q),(3,.q),(6,.b),(7,.b),(1,.w),(4,.s),(5,.w),(8,.s),(9,.p),(10,.w),(11,.w),(12,.q)] ?_;refine zC F h λF h=>?_
    refine zF (eq_true (show (a1.nodes.length) * 8<=140737488355328 by omega)) F λF=>?_
    refine zF (eq_true (eu (n:=1) (f:=encI) (λ_=>rfl) a1.nodes)) F λF=>?_
    refine zC F h λF h=>?_
    refine zF (eq_true (show (a1.ag.length) * 8<=140737488355328 by omega)) F λF=>?_
    refine zF (eq_true (eu (n:=1) (f:=encI) (λ_=>rfl) a1.ag)) F λF=>?_
    exact fQ h
 ·exact fQ h
end
noncomputable section
theorem m0(a0:Types)(a1:ak)(r:Int)(h:fZ a0 a1=some r):aB pw 194 [.agg [.aE (a0.nodes.map az),.aE (a0.ag.map aA)],.agg (bL a1)] (λv=>v = .val (.int .i64 r)):=by
 refine aB.eV ?_;refine aC [56] func194 ?_;rw[ntmps194,results194];unfold fZ at h;have F:=trivial;refine zK F h (oA _) λr2 h=>?_
 refine cG F h (λF h=>?_) λF h=>?_
 ·refine zK F h (kT _) λr3 h=>?_
  refine cG F h (λF h=>?_) λF h=>?_
  ·refine zK F h (fT _ (λx4=>jG x4 a0) 274 [] [.fq [.aE (a0.nodes.map az),.aE (a0.ag.map aA)] 0] (λx4 r h=>aaU x4 a0 r h)) λr5 h=>?_
   refine jj F h (λF h=>?_) λF h=>?_
   ·exact zR h
   ·refine zK F h (j4 _ (λx6=>jH x6 a0) 275 [] [.fq [.aE (a0.nodes.map az),.aE (a0.ag.map aA)] 0] (λx6 r h=>aaQ x6 a0 r h)) λr7 h=>?_
    refine zB F h (λF h=>?_) λF h=>?_
    ·exact zR h
    ·refine zK F h (j3 _ _ _) λr8 h=>?_
     refine cG F h (λF h=>?_) λF h=>?_
     ·refine jj F h (λF h=>?_) λF h=>?_
      ·exact zR h
      ·refine zB F h (λF h=>?_) λF h=>?_
       ·exact zR h
       ·refine zC F h λF h=>?_
        refine zF (eq_true (show a1.vars * ((1:Nat):Int)<=140737488355328 by omega)) F λF=>?_
        refine zF (vj gY a1.vars.toNat false (c:=[.val (.bool false)]) rfl) F λF=>?_
        refine zV ?_;refine zN F h (0:Nat) [2,3,58,59] (λx=>[(8,.row 56 x.2),(60,.p (.val (.int .i64 ((x.1.1:Nat):Int))))]) [2,3] (λx H=>[(56,.row x.2 4 1 (x.1.2.map gY))]) ?_ ?_
        ·intro i9 s9 g9 _ _ F Ns9 h;try dsimp only at h
         refine zI aL F h λsS F h=>?_
         refine zK F h (adz _ _ _) λqg h=>?_
         refine eZ F h (λF h=>?_) λF h=>?_
         ·refine zK F h (j3 _ _ _) λvM h=>?_
          refine eZ F h (λF h=>?_) λF h=>?_
          ·refine zK F h (j3 _ _ _) λr13 h=>?_
           refine cG F h (λF h=>?_) λF h=>?_
           ·refine zB F h (λF h=>?_) λF h=>?_
            ·refine zA gY F h λe14 F h=>?_
             refine zF (mC gY s9 sS.term.var.toNat true (c:=[.val (.bool true)]) rfl) F λF=>?_
             exact zX (z:=Ns9 _ g9 h zW)
            ·exact zX (z:=Ns9 _ g9 h zW)
           ·exact zR h
          ·exact zR h
         ·exact zR h
        ·intro i9 s9 g9 _ F h;try dsimp only at h
         refine zK F h (abN _ _) λr15 h=>?_
         refine cG F h (λF h=>?_) λF h=>?_
         ·refine zK F h (xX _ _) λr16 h=>?_
          refine zB F h (λF h=>?_) λF h=>?_
          ·exact zR h
          ·exact zR h
         ·exact zR h
     ·exact zR h
  ·exact zR h
 ·exact zR h
end
noncomputable section
theorem lN(a0:Types)(a1:ak)(r:Int)(h:ef a0 a1=some r):aB pw 58 [.agg [.aE (a0.nodes.map az),.aE (a0.ag.map aA)],.agg (bL a1)] (λv=>v = .val (.int .i64 r)):=by
 refine aB.eV ?_;refine aC [] func58 ?_;rw[ntmps58,results58];unfold ef at h;have F:=trivial;refine zK F h (lE _) λr2 h=>?_
 refine cG F h (λF h=>?_) λF h=>?_
 ·refine zK F h (cN _) λr3 h=>?_
  refine cG F h (λF h=>?_) λF h=>?_
  ·refine zK F h (o4 _ _) λr4 h=>?_
   refine cG F h (λF h=>?_) λF h=>?_
   ·refine jj F h (λF h=>?_) λF h=>?_
    ·exact zR h
    ·refine zB F h (λF h=>?_) λF h=>?_
     ·exact zR h
     ·refine jj F h (λF h=>?_) λF h=>?_
      ·exact zR h
      ·refine zB F h (λF h=>?_) λF h=>?_
       ·exact zR h
       ·refine zV ?_;refine zN F h () [2,3] (λx=>[(8,.p (.val (.int .i64 ((x.1.1:Nat):Int))))]) [2,3] (λx H=>[]) ?_ ?_
        ·intro i5 s5 g5 _ _ F Ns5 h;try dsimp only at h
         refine zI aL F h λe6 F h=>?_
         refine zK F h (xS _ _ _ _) λr7 h=>?_
         refine eZ F h (λF h=>?_) λF h=>?_
         ·refine jj F h (λF h=>?_) λF h=>?_
          ·exact zR h
          ·refine jj F h (λF h=>?_) λF h=>?_
           ·exact zR h
           ·refine zK F h (uQ _) λr8 h=>?_
            refine cG F h (λF h=>?_) λF h=>?_
            ·exact zX (z:=Ns5 _ () h zW)
            ·exact zR h
         ·exact zR h
        ·intro i5 s5 g5 _ F h;try dsimp only at h
         refine zK F h (wM _ _) λr9 h=>?_
         refine cG F h (λF h=>?_) λF h=>?_
         ·refine zV ?_;refine zO F h () [3] (λx=>[(13,.p (.val (.int .i64 ((x.1.1:Nat):Int))))]) [3] (λx H=>[]) ?_ ?_
          ·intro i10 s10 g10 _ _ F aAC h;try dsimp only at h
           refine zK F h (vQ _ _) λqg h=>?_
           refine cG F h (λF h=>?_) λF h=>?_
           ·exact zX (z:=aAC _ () h zW)
           ·exact zR h
          ·intro i10 s10 g10 _ F h;try dsimp only at h
           exact zR h
         ·exact zR h
   ·exact zR h
  ·exact zR h
 ·exact zR h
end
noncomputable section
theorem aag(a0:Types)(a1:au)(a2:au)(r:Int)(h:pU a0 a1 a2=some r):aB pw 254 [.agg [.aE (a0.nodes.map az),.aE (a0.ag.map aA)],.agg [.aE (a1.nodes.map encI),.aE (a1.ag.map ay)],.agg [.aE (a2.nodes.map encI),.aE (a2.ag.map ay)]] (λv=>v = .val (.int .i64 r)):=by
 refine aB.eV ?_;refine aC [] func254 ?_;rw[ntmps254,results254];unfold pU at h;have F:=trivial;refine zK F h (oA _) λr3 h=>?_
 refine cG F h (λF h=>?_) λF h=>?_
 ·obtain⟨l4,hl5,h⟩:=rF h;have hm6:l4.map oW=[[.aE (a1.nodes.map encI),.aE (a1.ag.map ay)],[.aE (a2.nodes.map encI),.aE (a2.ag.map ay)]]:=by cases hl5;rfl
  refine zV ?_;refine zN F h () [3,4,5,23] (λx=>[(22,.p (.aE (l4.map oW))),(24,.p (.val (.int .i64 ((x.1.1:Nat):Int))))]) [3,4,5] (λx H=>[]) ?_ ?_ (hw:=by exact afJ (by simp -implicitDefEqProofs only[go_sem,F,hm6]<;>and_intros<;>rfl))
  ·intro i7 s7 g7 _ _ F Ns7 h;try dsimp only at h
   refine zI oW F h λe8 F h=>?_
   refine zK F h (kT _) λr9 h=>?_
   refine cG F h (λF h=>?_) λF h=>?_
   ·exact zX (z:=Ns7 _ () h zW)
   ·exact zR h
  ·intro i7 s7 g7 _ F h;try dsimp only at h
   refine zK F h (yK _ _) λoZ h=>?_
   refine eZ F h (λF h=>?_) λF h=>?_
   ·refine zK F h (yK _ _) λqg h=>?_
    refine cG F h (λF h=>?_) λF h=>?_
    ·exact zR h
    ·exact zR h
   ·exact zR h
 ·exact zR h
end
noncomputable section
theorem yW(a0:aj)(r:Bool)(h:j6 a0=some r):aB pw 116 [.agg (aI a0)] (λv=>v = .val (.bool r)):=by
 refine aB.eV ?_;refine aC [] func116 ?_;rw[ntmps116,results116];unfold j6 at h;have F:=trivial;refine zK F h (x9 fuel _ _) λr1 h=>?_
 exact zR h
theorem ya(n:Nat):∀ (a0:aj) (a1:aj) (r:Bool) (h:fJ n a0 a1=some r),aB pw 54 [.agg (aI a0),.agg (aI a1)] (λv=>v = .val (.bool r)):=by
 induction n with
 |zero=>intro a0 a1 r h;cases h
 |succ n ih =>
 intro a0 a1 r h;refine aB.eV ?_;refine aC [] func54 ?_;rw[ntmps54,results54];unfold fJ at h;have F:=trivial;refine eZ F h (λF h=>?_) λF h=>?_
 ·refine eZ F h (λF h=>?_) λF h=>?_
  ·refine zK F h (jN _ _) λr2 h=>?_
   refine eZ F h (λF h=>?_) λF h=>?_
   ·refine zK F h (mq _ _) λr3 h=>?_
    refine cG F h (λF h=>?_) λF h=>?_
    ·refine zV ?_;refine zN F h () [2,3] (λx=>[(5,.p (.val (.int .i64 ((x.1.1:Nat):Int))))]) [2,3] (λx H=>[]) ?_ ?_
     ·intro i4 s4 g4 _ _ F Ns4 h;try dsimp only at h
      refine zD [.q,.q,.q,.q,.q,.q,.q,.q,.q,.q,.q,.q] ?_;refine zI aI F h λe5 F h=>?_
      refine zI aI F h λe6 F h=>?_
      refine zKd F h (ih _ _) λr7 h=>?_
      refine cG F h (λF h=>?_) λF h=>?_
      ·exact zX (z:=Ns4 _ () h zW)
      ·exact zR h
     ·intro i4 s4 g4 _ F h;try dsimp only at h
      exact zR h
    ·exact zR h
   ·exact zR h
  ·exact zR h
 ·exact zR h
end
noncomputable section
theorem aah(a0:List Int)(a1:Int)(r:Bool)(h:jk a0 a1=some r):aB pw 300 [.aE (a0.map encI),.val (.int .i64 a1)] (λv=>v = .val (.bool r)):=by
 refine aB.eV ?_;refine aC [] func300 ?_;rw[ntmps300,results300];unfold jk at h;have F:=trivial;refine zK F h (iH _ _) λr2 h=>?_
 exact zR h
theorem acr(a0:Int)(a1:List Int)(r:(List Int))(h:sU a0 a1=some r):aZ pw 182 [.val (.int .i64 a0),.aE (a1.map encI)] (λv=>v = .row 3 1 (r.map encI)):=by
 refine aZ.tj ?_;refine bl [10] func182 ?_;rw[ntmps182,results182];unfold sU at h;have F:=trivial;refine zC F h λF h=>?_
 refine zF (eq_true (show a0 * ((8:Nat):Int)<=140737488355328 by omega)) F λF=>?_
 refine zF (vj encI a0.toNat 0 (c:=[.val (.int .i64 0)]) rfl) F λF=>?_
 refine zV ?_;refine zN F h (0:Nat) [1,12] (λx=>[(5,.row 10 x.2),(13,.p (.val (.int .i64 ((x.1.1:Nat):Int))))]) [] (λx H=>[(10,.row x.2 3 1 (x.1.2.map encI))]) ?_ ?_
 ·intro i2 s2 g2 _ _ F kN h;try dsimp only at h
  refine zK F h (iH _ _) λr3 h=>?_
  refine cG F h (λF h=>?_) λF h=>?_
  ·refine zI encI F h λe4 F h=>?_
   refine zF (mC encI s2 i2 r3.1 (c:=[.val (.int .i64 r3.1)]) rfl) F λF=>?_
   exact zX (z:=kN _ g2 h zW)
  ·refine zI encI F h λe5 F h=>?_
   refine zF (mC encI s2 i2 (-1) (c:=[.val (.int .i64 (-1))]) rfl) F λF=>?_
   exact zX (z:=kN _ g2 h zW)
 ·intro i2 s2 g2 _ F h;try dsimp only at h
  exact fQ h
end
noncomputable section
theorem ajw(a0:Types)(a1:aF)(r:Int)(h:pS a0 a1=some r):aB pw 195 [.agg [.aE (a0.nodes.map az),.aE (a0.ag.map aA)],.agg (aQ a1)] (λv=>v = .val (.int .i64 r)):=by
 refine aB.eV ?_;refine aC [] func195 ?_;rw[ntmps195,results195];unfold pS at h;have F:=trivial;refine zK F h (kT _) λr2 h=>?_
 refine cG F h (λF h=>?_) λF h=>?_
 ·refine zK F h (ajv _ _) λr3 h=>?_
  refine cG F h (λF h=>?_) λF h=>?_
  ·refine eZ F h (λF h=>?_) λF h=>?_
   ·refine zB F h (λF h=>?_) λF h=>?_
    ·exact zR h
    ·refine zB F h (λF h=>?_) λF h=>?_
     ·exact zR h
     ·refine zV ?_;refine zN F h () [2,3,46] (λx=>[(47,.p (.val (.int .i64 ((x.1.1:Nat):Int))))]) [2,3] (λx H=>[]) ?_ ?_
      ·intro i4 s4 g4 _ _ F Ns4 h;try dsimp only at h
       refine zK F h (ama _ _ _) λr5 h=>?_
       refine cG F h (λF h=>?_) λF h=>?_
       ·exact zX (z:=Ns4 _ () h zW)
       ·exact zR h
      ·intro i4 s4 g4 _ F h;try dsimp only at h
       exact zR h
   ·exact zR h
  ·exact zR h
 ·exact zR h
theorem acs(a0:aj)(r:Int)(h:kL a0=some r):aB pw 285 [.agg (aI a0)] (λv=>v = .val (.int .i64 r)):=by
 refine aB.eV ?_;refine aC [] func285 ?_;rw[ntmps285,results285];unfold kL at h;have F:=trivial;refine zK F h (xZ fuel _) λr1 h=>?_
 refine cG F h (λF h=>?_) λF h=>?_
 ·refine zK F h (aaS fuel _) λr2 h=>?_
  refine jj F h (λF h=>?_) λF h=>?_
  ·exact zR h
  ·refine zB F h (λF h=>?_) λF h=>?_
   ·exact zR h
   ·exact zR h
 ·exact zR h
end
noncomputable section
theorem ad6(a0:aF)(a1:aF)(r:Bool)(h:vm a0 a1=some r):aB pw 110 [.agg (aQ a0),.agg (aQ a1)] (λv=>v = .val (.bool r)):=by
 refine aB.eV ?_;refine aC [] func110 ?_;rw[ntmps110,results110];unfold vm at h;have F:=trivial;refine eZ F h (λF h=>?_) λF h=>?_
 ·refine eZ F h (λF h=>?_) λF h=>?_
  ·refine zK F h (ur _ _) λr2 h=>?_
   refine eZ F h (λF h=>?_) λF h=>?_
   ·refine zK F h (ur _ _) λr3 h=>?_
    refine eZ F h (λF h=>?_) λF h=>?_
    ·refine zK F h (bQ _ _) λr4 h=>?_
     refine eZ F h (λF h=>?_) λF h=>?_
     ·refine zK F h (bQ _ _) λr5 h=>?_
      refine eZ F h (λF h=>?_) λF h=>?_
      ·refine zK F h (mF _ _) λr6 h=>?_
       refine eZ F h (λF h=>?_) λF h=>?_
       ·refine zK F h (adE fuel _ _) λr7 h=>?_
        exact zR h
       ·exact zR h
      ·exact zR h
     ·exact zR h
    ·exact zR h
   ·exact zR h
  ·exact zR h
 ·exact zR h
theorem wN(a0:aj)(r:Int)(h:fk a0=some r):aB pw 134 [.agg (aI a0)] (λv=>v = .val (.int .i64 r)):=by
 refine aB.eV ?_;refine aC [] func134 ?_;rw[ntmps134,results134];unfold fk at h;have F:=trivial;refine zK F h (uq fuel _) λr1 h=>?_
 refine cG F h (λF h=>?_) λF h=>?_
 ·refine zK F h (uR fuel _) λr2 h=>?_
  refine jj F h (λF h=>?_) λF h=>?_
  ·exact zR h
  ·refine zB F h (λF h=>?_) λF h=>?_
   ·exact zR h
   ·exact zR h
 ·exact zR h
end
noncomputable section
theorem acu(a0:Types)(a1:au)(a2:au)(a3:ah)(r:au×Int)(h:pZ a0 a1 a2 a3=some r):aZ pw 177 [.agg [.aE (a0.nodes.map az),.aE (a0.ag.map aA)],.agg [.aE (a1.nodes.map encI),.aE (a1.ag.map ay)],.agg [.aE (a2.nodes.map encI),.aE (a2.ag.map ay)],.agg [.aE (a3.nodes.map encI),.aE (a3.ag.map encI)]] (λv=>v = .dg [.agg [.row 3 1 (r.1.nodes.map encI),.row 165 3 (r.1.ag.map ay)],.p (.val (.int .i64 r.2))]):=by
 refine aZ.tj ?_;refine bl [51] func177 ?_;rw[ntmps177,results177];unfold pZ at h;have F:=trivial;refine zK F h (aag _ _ _) λr4 h=>?_
 refine cG F h (λF h=>?_) λF h=>?_
 ·refine zK F h (aaf _ _ _ _) λr5 h=>?_
  refine cG F h (λF h=>?_) λF h=>?_
  ·refine zG 1544 F h (lf _) λr6 h=>?_
   refine zV ?_;refine zN F h (0:Nat) [6,8,12,37,38] (λx=>[(39,.p (.val (.int .i64 ((x.1.1:Nat):Int))))]) [6,8,1544] (λx H=>[(12,bx (H 12) [(0,.row 4289 x.2)]),(4289,.row x.2 3 1 (x.1.2.map encI))]) ?_ ?_ (hw:=by refine fE.trans (eN 12 0 4289 3 1 _ rfl rfl rfl (by decide)) ?_;exact zW)
   ·intro i7 s7 g7 _ _ F Ns7 h;try dsimp only at h
    refine zI encI F h λe8 F h=>?_
    refine zE [(0,.p),(2,.q),(3,.q),(4,.q),(5,.q),(6,.q),(7,.p),(1,.q),(8,.w),(9,.q),(10,.w)] ?_;refine zA encI F h λe9 F h=>?_
    refine zC F h λF h=>?_
    refine zF (eq_true (show (s7.length+1) * 8<=140737488355328 by omega)) F λF=>?_
    refine zF (bK encI s7 [e9] (c:=[[.val (.int .i64 e9)]]) rfl) F λF=>?_
    exact zX (z:=Ns7 _ (g7+1) h zW)
   ·intro i7 s7 g7 _ F h;try dsimp only at h
    exact fQ h
  ·exact fQ h
 ·exact fQ h
end
noncomputable section
theorem aaV(a0:Types)(a1:ak)(a2:Int)(r:Int)(h:eO a0 a1 a2=some r):aB pw 359 [.agg [.aE (a0.nodes.map az),.aE (a0.ag.map aA)],.agg (bL a1),.val (.int .i64 a2)] (λv=>v = .val (.int .i64 r)):=by
 refine aB.eV ?_;refine aC [] func359 ?_;rw[ntmps359,results359];unfold eO at h;have F:=trivial;refine zK F h (m0 _ _) λr3 h=>?_
 refine cG F h (λF h=>?_) λF h=>?_
 ·refine zV ?_;refine zL F h () [4,7,8] (λx=>[]) [4] (λx H=>[(8,.box [.p (.val (.int .i64 x.1))])]) ?_;intro s4 g4 _ _ F Ns4 h;try dsimp only at h
  refine zB F h (λF h=>?_) λF h=>?_
  ·refine zK F h (nB _ (λx5=>iJ x5 s4) 405 [] [.fq [.val (.int .i64 s4)] 0] (λx5 r h=>yT x5 s4 r h)) λr6 h=>?_
   refine cG F h (λF h=>?_) λF h=>?_
   ·refine zV ?_;refine ayi (rX [(4,.ptr 4 0),(7,.p (.val (.int .i64 r3))),(28,.p (.val (.int .i64 s4)))]) (bq [(4,.box [.p (.aE (a1.graph.nodes.map encI)),.p (.aE (a1.graph.ag.map ay)),.p (.aE (a1.slots.map aL)),.p (.val (.int .i64 a1.vars)),.p (.aE (a1.tests.map aM))])]) zW (by simp -implicitDefEqProofs only[go_sem,F]<;>rfl) (by trivial) ?_;exact zX (z:=Ns4 _ () h zW)
   ·exact zR h
  ·try dsimp only at h
   exact zR h
 ·exact zR h
end
noncomputable section
theorem aew(a0:au)(a1:aO)(r:Int)(h:mD a0 a1=some r):aB pw 217 [.agg [.aE (a0.nodes.map encI),.aE (a0.ag.map ay)],.agg [.aE (a1.nodes.map encI),.aE (a1.ag.map encI)]] (λv=>v = .val (.int .i64 r)):=by
 refine aB.eV ?_;refine aC [] func217 ?_;rw[ntmps217,results217];unfold mD at h;have F:=trivial;refine zK F h (yI _ _) λr2 h=>?_
 refine cG F h (λF h=>?_) λF h=>?_
 ·refine zK F h (yI _ _) λr3 h=>?_
  refine cG F h (λF h=>?_) λF h=>?_
  ·refine zV ?_;refine zN F h () [2,3,28,29] (λx=>[(30,.p (.val (.int .i64 ((x.1.1:Nat):Int))))]) [2,3] (λx H=>[]) ?_ ?_
   ·intro i4 s4 g4 _ _ F Ns4 h;try dsimp only at h
    refine zI encI F h λe5 F h=>?_
    refine zD [.q,.q,.q,.q,.q,.q,.q,.q,.q,.q,.q,.q,.q,.q,.q,.q,.q,.q,.q,.q,.q,.q] ?_;refine zA ay F h λe6 F h=>?_
    refine zKd F h (aah _ _) λr7 h=>?_
    refine zBd F h (λF h=>?_) λF h=>?_
    ·refine zKd F h (aah _ _) λr8 h=>?_
     refine cG F h (λF h=>?_) λF h=>?_
     ·exact zX (z:=Ns4 _ () h zW)
     ·exact zR h
    ·exact zR h
   ·intro i4 s4 g4 _ F h;try dsimp only at h
    exact zR h
  ·exact zR h
 ·exact zR h
end
noncomputable section
theorem uu(a0:Types)(a1:au)(a2:au)(a3:ah)(a4:Bool)(r:Int)(h:nx a0 a1 a2 a3 a4=some r):aB pw 252 [.agg [.aE (a0.nodes.map az),.aE (a0.ag.map aA)],.agg [.aE (a1.nodes.map encI),.aE (a1.ag.map ay)],.agg [.aE (a2.nodes.map encI),.aE (a2.ag.map ay)],.agg [.aE (a3.nodes.map encI),.aE (a3.ag.map encI)],.val (.bool a4)] (λv=>v = .val (.int .i64 r)):=by
 refine aB.eV ?_;refine aC [] func252 ?_;rw[ntmps252,results252];unfold nx at h;have F:=trivial;refine zK F h (aag _ _ _) λr5 h=>?_
 refine cG F h (λF h=>?_) λF h=>?_
 ·refine zK F h (aaf _ _ _ _) λr6 h=>?_
  refine cG F h (λF h=>?_) λF h=>?_
  ·refine eZ F h (λF h=>?_) λF h=>?_
   ·refine zK F h (z8 _) λr7 h=>?_
    refine jj F h (λF h=>?_) λF h=>?_
    ·exact zR h
    ·refine zK F h (z8 _) λr8 h=>?_
     refine zB F h (λF h=>?_) λF h=>?_
     ·exact zR h
     ·exact zR h
   ·exact zR h
  ·exact zR h
 ·exact zR h
end
noncomputable section
theorem p8(a0:aF)(a1:aF)(r:Bool)(h:fK a0 a1=some r):aB pw 15 [.agg (aQ a0),.agg (aQ a1)] (λv=>v = .val (.bool r)):=by
 refine aB.eV ?_;refine aC [] func15 ?_;rw[ntmps15,results15];unfold fK at h;have F:=trivial;refine eZ F h (λF h=>?_) λF h=>?_
 ·refine eZ F h (λF h=>?_) λF h=>?_
  ·refine zK F h (mq _ _) λr2 h=>?_
   refine eZ F h (λF h=>?_) λF h=>?_
   ·refine zK F h (mq _ _) λr3 h=>?_
    refine eZ F h (λF h=>?_) λF h=>?_
    ·refine zK F h (xY _ _) λr4 h=>?_
     refine eZ F h (λF h=>?_) λF h=>?_
     ·refine zK F h (jN _ _) λr5 h=>?_
      refine eZ F h (λF h=>?_) λF h=>?_
      ·refine zK F h (ya fuel _ _) λr6 h=>?_
       exact zR h
      ·exact zR h
     ·exact zR h
    ·exact zR h
   ·exact zR h
  ·exact zR h
 ·exact zR h
end
noncomputable section
theorem wO(a0:Types)(a1:Int)(a2:ak)(r:Int)(h:dF a0 a1 a2=some r):aB pw 211 [.agg [.aE (a0.nodes.map az),.aE (a0.ag.map aA)],.val (.int .i64 a1),.agg (bL a2)] (λv=>v = .val (.int .i64 r)):=by
 refine aB.eV ?_;refine aC [] func211 ?_;rw[ntmps211,results211];unfold dF at h;have F:=trivial;refine zB F h (λF h=>?_) λF h=>?_
 ·exact zR h
 ·refine zK F h (lN _ _) λr3 h=>?_
  refine cG F h (λF h=>?_) λF h=>?_
  ·refine zV ?_;refine zL F h () [5,7] (λx=>[(8,.p (.val (.int .i64 x.1)))]) [5] (λx H=>[]) ?_;intro s4 g4 _ _ F Ns4 h;try dsimp only at h
   refine zB F h (λF h=>?_) λF h=>?_
   ·refine zK F h (vP _ _) λr5 h=>?_
    refine cG F h (λF h=>?_) λF h=>?_
    ·exact zX (z:=Ns4 _ () h zW)
    ·exact zR h
   ·try dsimp only at h
    exact zR h
  ·exact zR h
end
noncomputable section
theorem amb(a0:bB)(a1:bB)(r:Bool)(h:aab a0 a1=some r):aB pw 186 [.agg (tX a0),.agg (tX a1)] (λv=>v = .val (.bool r)):=by
 refine aB.eV ?_;refine aC [] func186 ?_;rw[ntmps186,results186];unfold aab at h;have F:=trivial;refine zK F h (ad6 _ _) λr2 h=>?_
 refine eZ F h (λF h=>?_) λF h=>?_
 ·refine zK F h (adD _ _) λr3 h=>?_
  refine eZ F h (λF h=>?_) λF h=>?_
  ·refine zK F h (ad5 _ _) λr4 h=>?_
   refine eZ F h (λF h=>?_) λF h=>?_
   ·refine zK F h (ad5 _ _) λr5 h=>?_
    refine eZ F h (λF h=>?_) λF h=>?_
    ·refine zK F h (mF _ _) λr6 h=>?_
     refine eZ F h (λF h=>?_) λF h=>?_
     ·refine zK F h (mF _ _) λr7 h=>?_
      exact zR h
     ·exact zR h
    ·exact zR h
   ·exact zR h
  ·exact zR h
 ·exact zR h
theorem yb(a0:aF)(r:Int)(h:bS a0=some r):aB pw 60 [.agg (aQ a0)] (λv=>v = .val (.int .i64 r)):=by
 refine aB.eV ?_;refine aC [] func60 ?_;rw[ntmps60,results60];unfold bS at h;have F:=trivial;refine zK F h (o7 _ _) λr1 h=>?_
 refine cG F h (λF h=>?_) λF h=>?_
 ·refine zG 1352 F h (uV _ _) λr2 h=>?_
  refine zK F h (eo _ _ _) λr3 h=>?_
  exact zR h
 ·exact zR h
end
noncomputable section
theorem acv(a0:Types)(a1:ak)(a2:Host)(r:Int)(h:pX a0 a1 a2=some r):aB pw 329 [.agg [.aE (a0.nodes.map az),.aE (a0.ag.map aA)],.agg (bL a1),.agg (jW a2)] (λv=>v = .val (.int .i64 r)):=by
 refine aB.eV ?_;refine aC [] func329 ?_;rw[ntmps329,results329];unfold pX at h;have F:=trivial;refine zK F h (m0 _ _) λr3 h=>?_
 refine cG F h (λF h=>?_) λF h=>?_
 ·refine zK F h (xG _ _) λr4 h=>?_
  exact zR h
 ·exact zR h
theorem yX(a0:aF)(r:Bool)(h:gj a0=some r):aB pw 46 [.agg (aQ a0)] (λv=>v = .val (.bool r)):=by
 refine aB.eV ?_;refine aC [] func46 ?_;rw[ntmps46,results46];unfold gj at h;have F:=trivial;refine eZ F h (λF h=>?_) λF h=>?_
 ·refine zK F h (mQ _) λr1 h=>?_
  refine eZ F h (λF h=>?_) λF h=>?_
  ·refine zK F h (mQ _) λr2 h=>?_
   refine eZ F h (λF h=>?_) λF h=>?_
   ·refine zK F h (yU _ _) λr3 h=>?_
    refine eZ F h (λF h=>?_) λF h=>?_
    ·refine zK F h (j7 _ _) λr4 h=>?_
     refine eZ F h (λF h=>?_) λF h=>?_
     ·refine zK F h (yW _) λr5 h=>?_
      exact zR h
     ·exact zR h
    ·exact zR h
   ·exact zR h
  ·exact zR h
 ·exact zR h
end
noncomputable section
theorem yc(n:Nat):∀ (a0:Types) (a1:ak) (a2:aj) (r:Int) (h:bW n a0 a1 a2=some r),aB pw 135 [.agg [.aE (a0.nodes.map az),.aE (a0.ag.map aA)],.agg (bL a1),.agg (aI a2)] (λv=>v = .val (.int .i64 r)):=by
 induction n with
 |zero=>intro a0 a1 a2 r h;cases h
 |succ n ih =>
 intro a0 a1 a2 r h;refine aB.eV ?_;refine aC [] func135 ?_;rw[ntmps135,results135];unfold bW at h;have F:=trivial;refine zB F h (λF h=>?_) λF h=>?_
 ·refine zK F h (wO _ _ _) λr3 h=>?_
  refine cG F h (λF h=>?_) λF h=>?_
  ·refine zK F h (eo _ _ _) λr4 h=>?_
   refine cG F h (λF h=>?_) λF h=>?_
   ·refine zK F h (jO _ _ _) λr5 h=>?_
    refine cG F h (λF h=>?_) λF h=>?_
    ·refine zV ?_;refine zN F h () [3,5,7] (λx=>[(10,.p (.val (.int .i64 ((x.1.1:Nat):Int))))]) [3,5,7] (λx H=>[]) ?_ ?_
     ·intro i6 s6 g6 _ _ F Ns6 h;try dsimp only at h
      refine zD [.q,.q,.q,.q,.q,.q,.q,.q,.q] ?_;refine zI aI F h λe7 F h=>?_
      refine zKd F h (ih _ _ _) λr8 h=>?_
      refine cG F h (λF h=>?_) λF h=>?_
      ·exact zX (z:=Ns6 _ () h zW)
      ·exact zR h
     ·intro i6 s6 g6 _ F h;try dsimp only at h
      exact zR h
    ·exact zR h
   ·exact zR h
  ·exact zR h
 ·refine zV ?_;refine zN F h () [3,5,7] (λx=>[(10,.p (.val (.int .i64 ((x.1.1:Nat):Int))))]) [3,5,7] (λx H=>[]) ?_ ?_
  ·intro i9 s9 g9 _ _ F Ns9 h;try dsimp only at h
   refine zD [.q,.q,.q,.q,.q,.q,.q,.q,.q] ?_;refine zI aI F h λsS F h=>?_
   refine zKd F h (ih _ _ _) λqg h=>?_
   refine cG F h (λF h=>?_) λF h=>?_
   ·exact zX (z:=Ns9 _ () h zW)
   ·exact zR h
  ·intro i9 s9 g9 _ F h;try dsimp only at h
   exact zR h
end
noncomputable section
theorem abO(n:Nat):∀ (a0:Types) (a1:ak) (a2:aj) (r:Int) (h:cQ n a0 a1 a2=some r),aB pw 286 [.agg [.aE (a0.nodes.map az),.aE (a0.ag.map aA)],.agg (bL a1),.agg (aI a2)] (λv=>v = .val (.int .i64 r)):=by
 induction n with
 |zero=>intro a0 a1 a2 r h;cases h
 |succ n ih =>
 intro a0 a1 a2 r h;refine aB.eV ?_;refine aC [] func286 ?_;rw[ntmps286,results286];unfold cQ at h;have F:=trivial;refine zB F h (λF h=>?_) λF h=>?_
 ·refine zB F h (λF h=>?_) λF h=>?_
  ·exact zR h
  ·refine zK F h (aaV _ _ _) λr3 h=>?_
   refine cG F h (λF h=>?_) λF h=>?_
   ·refine zK F h (gS _ _ _) λr4 h=>?_
    refine cG F h (λF h=>?_) λF h=>?_
    ·refine zK F h (kO _ _ _) λr5 h=>?_
     refine cG F h (λF h=>?_) λF h=>?_
     ·refine zV ?_;refine zN F h () [3,4,51,52] (λx=>[(53,.p (.val (.int .i64 ((x.1.1:Nat):Int))))]) [3,4] (λx H=>[]) ?_ ?_
      ·intro i6 s6 g6 _ _ F Ns6 h;try dsimp only at h
       refine zI aI F h λe7 F h=>?_
       refine zK F h (ih _ _ _) λr8 h=>?_
       refine cG F h (λF h=>?_) λF h=>?_
       ·exact zX (z:=Ns6 _ () h zW)
       ·exact zR h
      ·intro i6 s6 g6 _ F h;try dsimp only at h
       exact zR h
     ·exact zR h
    ·exact zR h
   ·exact zR h
 ·refine zV ?_;refine zN F h () [3,4,51,52] (λx=>[(53,.p (.val (.int .i64 ((x.1.1:Nat):Int))))]) [3,4] (λx H=>[]) ?_ ?_
  ·intro i9 s9 g9 _ _ F Ns9 h;try dsimp only at h
   refine zI aI F h λsS F h=>?_
   refine zK F h (ih _ _ _) λqg h=>?_
   refine cG F h (λF h=>?_) λF h=>?_
   ·exact zX (z:=Ns9 _ () h zW)
   ·exact zR h
  ·intro i9 s9 g9 _ F h;try dsimp only at h
   exact zR h
end
noncomputable section
theorem vq(a0:Types)(a1:ak)(a2:Host)(a3:ah)(r:(List Int)×Int)(h:mV a0 a1 a2 a3=some r):aZ pw 253 [.agg [.aE (a0.nodes.map az),.aE (a0.ag.map aA)],.agg (bL a1),.agg (jW a2),.agg [.aE (a3.nodes.map encI),.aE (a3.ag.map encI)]] (λv=>v = .dg [.row 3 1 (r.1.map encI),.p (.val (.int .i64 r.2))]):=by
 refine aZ.tj ?_;refine bl [] func253 ?_;rw[ntmps253,results253];unfold mV at h;have F:=trivial;refine zK F h (acv _ _ _) λr4 h=>?_
 refine cG F h (λF h=>?_) λF h=>?_
 ·refine zK F h (uu _ _ _ _ _) λr5 h=>?_
  refine cG F h (λF h=>?_) λF h=>?_
  ·refine zG 1512 F h (acq _ _ _) λr6 h=>?_
   exact fQ h
  ·exact fQ h
 ·exact fQ h
end
noncomputable section
theorem wP(a0:au)(a1:aO)(r:Int)(h:iS a0 a1=some r):aB pw 140 [.agg [.aE (a0.nodes.map encI),.aE (a0.ag.map ay)],.agg [.aE (a1.nodes.map encI),.aE (a1.ag.map encI)]] (λv=>v = .val (.int .i64 r)):=by
 refine aB.eV ?_;refine aC [] func140 ?_;rw[ntmps140,results140];unfold iS at h;have F:=trivial;refine zK F h (kT _) λr2 h=>?_
 refine cG F h (λF h=>?_) λF h=>?_
 ·refine zK F h (aew _ _) λr3 h=>?_
  exact zR h
 ·exact zR h
end
noncomputable section
theorem uW(a0:aF)(r:Bool)(h:eA a0=some r):aB pw 45 [.agg (aQ a0)] (λv=>v = .val (.bool r)):=by
 refine aB.eV ?_;refine aC [] func45 ?_;rw[ntmps45,results45];unfold eA at h;have F:=trivial;refine zK F h (yX _) λr1 h=>?_
 exact zR h
end
noncomputable section
theorem uv(a0:au)(a1:aO)(r:au×ah×Int)(h:dQ a0 a1=some r):aZ pw 70 [.agg [.aE (a0.nodes.map encI),.aE (a0.ag.map ay)],.agg [.aE (a1.nodes.map encI),.aE (a1.ag.map encI)]] (λv=>v = .dg [.agg [.row 3 1 (r.1.nodes.map encI),.row 165 3 (r.1.ag.map ay)],.agg [.row 3 1 (r.2.1.nodes.map encI),.row 3 1 (r.2.1.ag.map encI)],.p (.val (.int .i64 r.2.2))]):=by
 refine aZ.tj ?_;refine bl [37,74] func70 ?_;rw[ntmps70,results70];unfold dQ at h;have F:=trivial;refine zK F h (wP _ _) λr2 h=>?_
 refine cG F h (λF h=>?_) λF h=>?_
 ·refine zV ?_;refine zN F h (0:Nat) [2,3,4,5,8,23,24] (λx=>[(25,.p (.val (.int .i64 ((x.1.1:Nat):Int))))]) [2,3,4,5] (λx H=>[(8,bx (H 8) [(0,.row 2534 x.2)]),(2534,.row x.2 3 1 (x.1.2.map encI))]) ?_ ?_ (hw:=by refine fE.trans (eN 8 0 2534 3 1 _ rfl rfl rfl (by decide)) ?_;exact zW)
  ·intro i3 s3 g3 _ _ F sV h;try dsimp only at h
   refine zI encI F h λe4 F h=>?_
   refine zE [(0,.p),(2,.q),(3,.q),(4,.q),(5,.q),(6,.q),(7,.p),(1,.q),(8,.w),(9,.q),(10,.w)] ?_;refine zA encI F h λe5 F h=>?_
   refine zC F h λF h=>?_
   refine zF (eq_true (show (s3.length+1) * 8<=140737488355328 by omega)) F λF=>?_
   refine zF (bK encI s3 [e5] (c:=[[.val (.int .i64 e5)]]) rfl) F λF=>?_
   exact zX (z:=sV _ (g3+1) h zW)
  ·intro i3 s3 g3 _ F h;try dsimp only at h
   refine zV ?_;refine zN F h (0:Nat) [2,3,4,5,8,41,42] (λx=>[(43,.p (.val (.int .i64 ((x.1.1:Nat):Int))))]) [2,3,4,5,2534] (λx H=>[(8,bx (H 8) [(1,.row 2570 x.2)]),(2570,.row x.2 165 3 (x.1.2.map ay))]) ?_ ?_ (hw:=by refine fE.trans (eN 8 1 2570 165 3 _ rfl rfl rfl (by decide)) ?_;exact zW)
   ·intro i6 s6 g6 _ _ F Ns6 h;try dsimp only at h
    refine zI encI F h λe7 F h=>?_
    refine zA ay F h λe8 F h=>?_
    refine zK F h (iH _ _) λr9 h=>?_
    refine zK F h (iH _ _) λoZ h=>?_
    refine zC F h λF h=>?_
    refine zF (eq_true (show (s6.length+1) * 24<=140737488355328 by omega)) F λF=>?_
    refine zF (bK ay s6 [(⟨e8.type,r9.1,oZ.1⟩:Edge)] (c:=[[.val (.int .i64 e8.type),.val (.int .i64 r9.1),.val (.int .i64 oZ.1)]]) rfl) F λF=>?_
    exact zX (z:=Ns6 _ (g6+1) h zW)
   ·intro i6 s6 g6 _ F h;try dsimp only at h
    refine zE [(0,.q),(1,.q),(2,.q),(4,.q),(5,.q),(3,.f),(6,.f),(7,.p),(8,.w),(9,.w),(10,.q)] ?_;refine zH 2280 F h (bE _) λqg h=>?_
    refine zH 2328 F h (bE _) λvM h=>?_
    exact fQ h
 ·exact fQ h
end
noncomputable section
theorem af5(a0:Types)(a1:aF)(a2:Host)(a3:aS)(r:Int)(h:uc a0 a1 a2 a3=some r):aB pw 176 [.agg [.aE (a0.nodes.map az),.aE (a0.ag.map aA)],.agg (aQ a1),.agg (jW a2),.agg (gG a3)] (λv=>v = .val (.int .i64 r)):=by
 refine aB.eV ?_;refine aC [] func176 ?_;rw[ntmps176,results176];unfold uc at h;have F:=trivial;refine zK F h (uu _ _ _ _ _) λr4 h=>?_
 refine cG F h (λF h=>?_) λF h=>?_
 ·refine zG 1480 F h (vq _ _ _ _) λr5 h=>?_
  refine cG F h (λF h=>?_) λF h=>?_
  ·refine zK F h (bQ _ _) λr6 h=>?_
   refine cG F h (λF h=>?_) λF h=>?_
   ·exact zR h
   ·exact zR h
  ·exact zR h
 ·exact zR h
end
noncomputable section
theorem wQ(a0:Types)(a1:ak)(a2:aj)(r:Int)(h:dG a0 a1 a2=some r):aB pw 64 [.agg [.aE (a0.nodes.map az),.aE (a0.ag.map aA)],.agg (bL a1),.agg (aI a2)] (λv=>v = .val (.int .i64 r)):=by
 refine aB.eV ?_;refine aC [] func64 ?_;rw[ntmps64,results64];unfold dG at h;have F:=trivial;refine zK F h (lN _ _) λr3 h=>?_
 refine cG F h (λF h=>?_) λF h=>?_
 ·refine zK F h (wN _) λr4 h=>?_
  refine cG F h (λF h=>?_) λF h=>?_
  ·refine zK F h (yc fuel _ _ _) λr5 h=>?_
   exact zR h
  ·exact zR h
 ·exact zR h
end
noncomputable section
theorem vr(a0:Types)(a1:ak)(a2:aj)(r:Int)(h:jt a0 a1 a2=some r):aB pw 199 [.agg [.aE (a0.nodes.map az),.aE (a0.ag.map aA)],.agg (bL a1),.agg (aI a2)] (λv=>v = .val (.int .i64 r)):=by
 refine aB.eV ?_;refine aC [] func199 ?_;rw[ntmps199,results199];unfold jt at h;have F:=trivial;refine zK F h (m0 _ _) λr3 h=>?_
 refine cG F h (λF h=>?_) λF h=>?_
 ·refine zK F h (acs _) λr4 h=>?_
  refine cG F h (λF h=>?_) λF h=>?_
  ·refine zK F h (abO fuel _ _ _) λr5 h=>?_
   exact zR h
  ·exact zR h
 ·exact zR h
end
noncomputable section
theorem o9(a0:Types)(a1:List aF)(r:Bool)(h:dZ a0 a1=some r):aB pw 12 [.agg [.aE (a0.nodes.map az),.aE (a0.ag.map aA)],.aE (a1.map aQ)] (λv=>v = .val (.bool r)):=by
 refine aB.eV ?_;refine aC [] func12 ?_;rw[ntmps12,results12];unfold dZ at h;have F:=trivial;refine zK F h (yS _) λr2 h=>?_
 refine eZ F h (λF h=>?_) λF h=>?_
 ·refine zK F h (uj _ (λx3=>eA x3) 45 [] [] (λx3 r h=>uW x3 r h)) λr4 h=>?_
  exact zR h
 ·exact zR h
end
noncomputable section
theorem uX(a0:cE)(r:Int)(h:kz a0=some r):aB pw 256 [.agg (fe a0)] (λv=>v = .val (.int .i64 r)):=by
 refine aB.eV ?_;refine aC [] func256 ?_;rw[ntmps256,results256];unfold kz at h;have F:=trivial;refine zK F h (gS _ _ _) λr1 h=>?_
 refine cG F h (λF h=>?_) λF h=>?_
 ·refine zK F h (wP _ _) λr2 h=>?_
  exact zR h
 ·exact zR h
end
noncomputable section
theorem jx(a0:Types)(a1:aF)(r:Int)(h:bn a0 a1=some r):aB pw 17 [.agg [.aE (a0.nodes.map az),.aE (a0.ag.map aA)],.agg (aQ a1)] (λv=>v = .val (.int .i64 r)):=by
 refine aB.eV ?_;refine aC [] func17 ?_;rw[ntmps17,results17];unfold bn at h;have F:=trivial;refine zK F h (lE _) λr2 h=>?_
 refine cG F h (λF h=>?_) λF h=>?_
 ·refine zK F h (vK _) λr3 h=>?_
  refine cG F h (λF h=>?_) λF h=>?_
  ·refine zK F h (lN _ _) λr4 h=>?_
   refine cG F h (λF h=>?_) λF h=>?_
   ·refine zK F h (wK _ _) λr5 h=>?_
    refine cG F h (λF h=>?_) λF h=>?_
    ·refine zK F h (yb _) λr6 h=>?_
     refine cG F h (λF h=>?_) λF h=>?_
     ·refine zK F h (iu _) λr7 h=>?_
      refine eZ F h (λF h=>?_) λF h=>?_
      ·refine zK F h (iu _) λr8 h=>?_
       refine cG F h (λF h=>?_) λF h=>?_
       ·refine zG 1896 F h (uT _) λr9 h=>?_
        refine zK F h (vO _ _ _ _) λoZ h=>?_
        refine cG F h (λF h=>?_) λF h=>?_
        ·refine zK F h (wQ _ _ _) λqg h=>?_
         exact zR h
        ·exact zR h
       ·exact zR h
      ·exact zR h
     ·exact zR h
    ·exact zR h
   ·exact zR h
  ·exact zR h
 ·exact zR h
end
noncomputable section
theorem aex(a0:au)(a1:au)(a2:aO)(a3:ah)(r:aO×Int)(h:rY a0 a1 a2 a3=some r):aZ pw 178 [.agg [.aE (a0.nodes.map encI),.aE (a0.ag.map ay)],.agg [.aE (a1.nodes.map encI),.aE (a1.ag.map ay)],.agg [.aE (a2.nodes.map encI),.aE (a2.ag.map encI)],.agg [.aE (a3.nodes.map encI),.aE (a3.ag.map encI)]] (λv=>v = .dg [.agg [.row 3 1 (r.1.nodes.map encI),.row 3 1 (r.1.ag.map encI)],.p (.val (.int .i64 r.2))]):=by
 refine aZ.tj ?_;refine bl [] func178 ?_;rw[ntmps178,results178];unfold rY at h;have F:=trivial;refine zK F h (uX _) λr4 h=>?_
 refine cG F h (λF h=>?_) λF h=>?_
 ·refine zG 1432 F h (qP _) λr5 h=>?_
  refine zB F h (λF h=>?_) λF h=>?_
  ·exact fQ h
  ·refine zG 1640 F h (sk _) λr6 h=>?_
   refine zB F h (λF h=>?_) λF h=>?_
   ·exact fQ h
   ·refine zE [(0,.q),(1,.q),(2,.q),(3,.q),(4,.q),(5,.q),(6,.q),(8,.q),(9,.q),(10,.q),(11,.q),(12,.q),(13,.q),(14,.q),(7,.f),(15,.f),(16,.q),(17,.w),(18,.q)] ?_;refine zH 1816 F h (vp _ _ _) λr7 h=>?_
    refine zH 1944 F h (vp _ _ _) λr8 h=>?_
    exact fQ h
 ·exact fQ h
end
noncomputable section
theorem acw(a0:Types)(a1:ak)(a2:aj)(a3:Host)(a4:aS)(a5:Bool)(r:Int)(h:p0 a0 a1 a2 a3 a4 a5=some r):aB pw 335 [.agg [.aE (a0.nodes.map az),.aE (a0.ag.map aA)],.agg (bL a1),.agg (aI a2),.agg (jW a3),.agg (gG a4),.val (.bool a5)] (λv=>v = .val (.int .i64 r)):=by
 refine aB.eV ?_;refine aC [] func335 ?_;rw[ntmps335,results335];unfold p0 at h;have F:=trivial;refine zK F h (vr _ _ _) λr6 h=>?_
 refine cG F h (λF h=>?_) λF h=>?_
 ·refine zK F h (xG _ _) λr7 h=>?_
  refine cG F h (λF h=>?_) λF h=>?_
  ·refine zK F h (uu _ _ _ _ _) λr8 h=>?_
   refine cG F h (λF h=>?_) λF h=>?_
   ·refine zG 1848 F h (vq _ _ _ _) λr9 h=>?_
    refine cG F h (λF h=>?_) λF h=>?_
    ·refine zK F h (bQ _ _) λoZ h=>?_
     refine cG F h (λF h=>?_) λF h=>?_
     ·exact zR h
     ·exact zR h
    ·exact zR h
   ·exact zR h
  ·exact zR h
 ·exact zR h
end
noncomputable section
theorem amc(a0:aF)(r:Int)(h:o3 a0=some r):aB pw 196 [.agg (aQ a0)] (λv=>v = .val (.int .i64 r)):=by
 refine aB.eV ?_;refine aC [] func196 ?_;rw[ntmps196,results196];unfold o3 at h;have F:=trivial;refine zG 1208 F h (uv _ _) λr1 h=>?_
 refine cG F h (λF h=>?_) λF h=>?_
 ·refine zK F h (gS _ _ _) λr2 h=>?_
  refine cG F h (λF h=>?_) λF h=>?_
  ·refine zK F h (kO _ _ _) λr3 h=>?_
   refine cG F h (λF h=>?_) λF h=>?_
   ·exact zR h
   ·exact zR h
  ·exact zR h
 ·exact zR h
end
noncomputable section
theorem acy(a0:Types)(a1:aF)(r:Int)(h:mh a0 a1=some r):aB pw 117 [.agg [.aE (a0.nodes.map az),.aE (a0.ag.map aA)],.agg (aQ a1)] (λv=>v = .val (.int .i64 r)):=by
 refine aB.eV ?_;refine aC [] func117 ?_;rw[ntmps117,results117];unfold mh at h;have F:=trivial;refine zK F h (oA _) λr2 h=>?_
 refine cG F h (λF h=>?_) λF h=>?_
 ·refine zK F h (afN _) λr3 h=>?_
  refine cG F h (λF h=>?_) λF h=>?_
  ·refine zK F h (m0 _ _) λr4 h=>?_
   refine cG F h (λF h=>?_) λF h=>?_
   ·refine zK F h (ajw _ _) λr5 h=>?_
    refine cG F h (λF h=>?_) λF h=>?_
    ·refine zK F h (amc _) λr6 h=>?_
     refine cG F h (λF h=>?_) λF h=>?_
     ·refine zG 1704 F h (af2 _) λr7 h=>?_
      refine zK F h (af4 _ _ _ _) λr8 h=>?_
      refine cG F h (λF h=>?_) λF h=>?_
      ·refine zK F h (vr _ _ _) λr9 h=>?_
       exact zR h
      ·exact zR h
     ·exact zR h
    ·exact zR h
   ·exact zR h
  ·exact zR h
 ·exact zR h
end
noncomputable section
theorem pe(a0:Types)(a1:aF)(a2:aF)(r:Int)(h:fl a0 a1 a2=some r):aB pw 49 [.agg [.aE (a0.nodes.map az),.aE (a0.ag.map aA)],.agg (aQ a1),.agg (aQ a2)] (λv=>v = .val (.int .i64 r)):=by
 refine aB.eV ?_;refine aC [] func49 ?_;rw[ntmps49,results49];unfold fl at h;have F:=trivial;refine zK F h (lE _) λr3 h=>?_
 refine cG F h (λF h=>?_) λF h=>?_
 ·refine zK F h (jx _ _) λr4 h=>?_
  refine cG F h (λF h=>?_) λF h=>?_
  ·refine zK F h (jx _ _) λr5 h=>?_
   refine cG F h (λF h=>?_) λF h=>?_
   ·refine zK F h (n9 _) λr6 h=>?_
    refine eZ F h (λF h=>?_) λF h=>?_
    ·refine zK F h (n9 _) λr7 h=>?_
     refine cG F h (λF h=>?_) λF h=>?_
     ·exact zR h
     ·exact zR h
    ·exact zR h
   ·exact zR h
  ·exact zR h
 ·exact zR h
end
noncomputable section
theorem aaW(a0:Types)(a1:ak)(a2:aj)(a3:Host)(a4:aS)(a5:Bool)(r:eX×Int)(h:oc a0 a1 a2 a3 a4 a5=some r):aB pw 260 [.agg [.aE (a0.nodes.map az),.aE (a0.ag.map aA)],.agg (bL a1),.agg (aI a2),.agg (jW a3),.agg (gG a4),.val (.bool a5)] (λv=>v = .dg [.agg (ji r.1),.val (.int .i64 r.2)]):=by
 refine aB.eV ?_;refine aC [] func260 ?_;rw[ntmps260,results260];unfold oc at h;have F:=trivial;refine zK F h (acw _ _ _ _ _ _) λr6 h=>?_
 refine cG F h (λF h=>?_) λF h=>?_
 ·refine zK F h (uS fuel _ _ _) λr7 h=>?_
  exact zR h
 ·exact zR h
end
noncomputable section
theorem sn(a0:Types)(a1:aF)(a2:aF)(a3:cM)(r:aF×Int)(h:dK a0 a1 a2 a3=some r):aZ pw 21 [.agg [.aE (a0.nodes.map az),.aE (a0.ag.map aA)],.agg (aQ a1),.agg (aQ a2),.agg (kR a3)] (λv=>v = .dg [.agg [.p (.val (.string r.1.name)),.row 3 1 (r.1.left.graph.nodes.map encI),.row 165 3 (r.1.left.graph.ag.map ay),.p (.aE (r.1.left.slots.map aL)),.p (.val (.int .i64 r.1.left.vars)),.p (.aE (r.1.left.tests.map aM)),.row 3 1 (r.1.right.graph.nodes.map encI),.row 165 3 (r.1.right.graph.ag.map ay),.p (.aE (r.1.right.slots.map aL)),.p (.val (.int .i64 r.1.right.vars)),.p (.aE (r.1.right.tests.map aM)),.p (.aE (r.1.keep.nodes.map encI)),.p (.aE (r.1.keep.ag.map encI)),.row 3 1 (r.1.into.nodes.map encI),.row 3 1 (r.1.into.ag.map encI),.p (.val (.bool r.1.injective)),.p (.val (.int .i64 r.1.condition.kind)),.p (.aE (r.1.condition.kids.map aI)),.p (.aE (r.1.condition.map.nodes.map encI)),.p (.aE (r.1.condition.map.ag.map encI)),.p (.aE (r.1.condition.pattern.graph.nodes.map encI)),.p (.aE (r.1.condition.pattern.graph.ag.map ay)),.p (.aE (r.1.condition.pattern.slots.map aL)),.p (.val (.int .i64 r.1.condition.pattern.vars)),.p (.aE (r.1.condition.pattern.tests.map aM))],.p (.val (.int .i64 r.2))]):=by
 refine aZ.tj ?_;refine bl [212,251] func21 ?_;rw[ntmps21,results21];unfold dK at h;have F:=trivial;refine zK F h (pe _ _ _) λr4 h=>?_
 refine cG F h (λF h=>?_) λF h=>?_
 ·refine zK F h (eo _ _ _) λr5 h=>?_
  refine cG F h (λF h=>?_) λF h=>?_
  ·refine zK F h (eo _ _ _) λr6 h=>?_
   refine cG F h (λF h=>?_) λF h=>?_
   ·refine zK F h (jO _ _ _) λr7 h=>?_
    refine eZ F h (λF h=>?_) λF h=>?_
    ·refine zK F h (jO _ _ _) λr8 h=>?_
     refine eZ F h (λF h=>?_) λF h=>?_
     ·refine zK F h (uU _ _ _ _ _) λr9 h=>?_
      refine cG F h (λF h=>?_) λF h=>?_
      ·refine zD [.q,.q,.q,.q,.q,.q,.q,.q,.q,.q] ?_;refine zD [.q,.q,.q,.q,.q,.q,.q,.q,.q,.q,.q,.q,.q,.q,.q,.q,.q,.q] ?_;refine yH F h (jP _ _ _) λoZ h=>?_
       refine yH F h (jP _ _ _) λqg h=>?_
       refine zD [.q,.q,.q,.q,.q,.q,.q,.q,.q,.q,.q,.q,.q,.q,.q,.q,.q,.q] ?_;refine yH F h (jP _ _ _) λvM h=>?_
       refine yH F h (jP _ _ _) λr13 h=>?_
       refine zK F h (o8 _ _ _ _) λr14 h=>?_
       refine eZ F h (λF h=>?_) λF h=>?_
       ·refine zK F h (o8 _ _ _ _) λr15 h=>?_
        refine cG F h (λF h=>?_) λF h=>?_
        ·refine zE [(0,.q),(1,.q),(2,.q),(3,.q),(6,.q),(7,.q),(4,.f),(5,.q),(8,.q),(9,.q),(10,.q),(11,.q),(12,.q),(13,.q),(14,.w),(15,.s)] ?_;refine zH 3560 F h (kV _) λr16 h=>?_
         refine zBd F h (λF h=>?_) λF h=>?_
         ·refine zG 3752 F h (iG _ _) λr17 h=>?_
          refine zG 3800 F h (iG _ _) λr18 h=>?_
          refine zE [(0,.q),(1,.q),(2,.q),(3,.q),(5,.q),(6,.q),(7,.q),(8,.q),(4,.f),(9,.f),(10,.q),(11,.q),(12,.w)] ?_;refine zH 3912 F h (cV _ _) λr19 h=>?_
          refine zH 3992 F h (cV _ _) λr20 h=>?_
          refine zV ?_;refine zN F h (0:Nat) [5,6,7,8,19,20] (λx=>[(21,.p (.val (.int .i64 ((x.1.1:Nat):Int))))]) [5,6,7,8,19,3560,3561,3752,3800,3912,3992] (λx H=>[(20,bx (H 20) [(0,.row 9402 x.2)]),(9402,.row x.2 3 1 (x.1.2.map encI))]) ?_ ?_ (hw:=by refine fE.trans (eN 20 0 9402 3 1 _ rfl rfl rfl (by decide)) ?_;exact zW)
          ·intro i21 s21 g21 _ _ F aFI h;try dsimp only at h
           refine zE [(0,.p),(2,.q),(3,.q),(4,.q),(5,.q),(6,.q),(7,.q),(8,.q),(9,.q),(10,.q),(11,.q),(12,.q),(13,.p),(1,.q),(14,.w),(15,.q),(16,.w)] ?_;refine zI encI F h λe22 F h=>?_
           refine zA encI F h λe23 F h=>?_
           refine zC F h λF h=>?_
           refine zF (eq_true (show (s21.length+1) * 8<=140737488355328 by omega)) F λF=>?_
           refine zF (bK encI s21 [e23] (c:=[[.val (.int .i64 e23)]]) rfl) F λF=>?_
           exact zX (z:=aFI _ (g21+1) h zW)
          ·intro i21 s21 g21 _ F h;try dsimp only at h
           refine zV ?_;refine zN F h (0:Nat) [5,6,7,8,19,20] (λx=>[(22,.p (.val (.int .i64 ((x.1.1:Nat):Int))))]) [5,6,7,8,19,3560,3561,3752,3800,3912,3992,9402] (λx H=>[(20,bx (H 20) [(1,.row 9452 x.2)]),(9452,.row x.2 165 3 (x.1.2.map ay))]) ?_ ?_ (hw:=by refine fE.trans (eN 20 1 9452 165 3 _ rfl rfl rfl (by decide)) ?_;exact zW)
           ·intro i24 s24 g24 _ _ F aFJ h;try dsimp only at h
            refine zD [.q,.q,.q,.q,.q,.q,.q,.q,.q,.q,.q,.w,.s] ?_;refine zI encI F h λe25 F h=>?_
            refine zA ay F h λe26 F h=>?_
            refine zE [(0,.p),(2,.q),(3,.q),(4,.q),(5,.q),(6,.q),(7,.q),(8,.q),(9,.q),(10,.q),(11,.q),(12,.q),(13,.q),(14,.q),(15,.q),(16,.q),(17,.p),(1,.q),(18,.w),(19,.q),(20,.w)] ?_;refine zKd F h (ep _ _) λr27 h=>?_
            refine zKd F h (ep _ _) λr28 h=>?_
            refine zC F h λF h=>?_
            refine zF (eq_true (show (s24.length+1) * 24<=140737488355328 by omega)) F λF=>?_
            refine zF (bK ay s24 [(⟨e26.type,r27,r28⟩:Edge)] (c:=[[.val (.int .i64 e26.type),.val (.int .i64 r27),.val (.int .i64 r28)]]) rfl) F λF=>?_
            exact zX (z:=aFJ _ (g24+1) h zW)
           ·intro i24 s24 g24 _ F h;try dsimp only at h
            refine zV ?_;refine mI 9402 g21 3 1 (s21.map encI) [] (by simp -implicitDefEqProofs only[go_sem,F]<;>rfl) (by simp -implicitDefEqProofs only[go_sem,F]<;>and_intros<;>rfl) (by decide) ?_;refine mI 9452 g24 165 3 (s24.map ay) [] (by simp -implicitDefEqProofs only[go_sem,F]<;>rfl) (by simp -implicitDefEqProofs only[go_sem,F]<;>and_intros<;>rfl) (by decide) ?_;refine mI 3752 0 3 1 (r17.map encI) [] (by simp -implicitDefEqProofs only[go_sem,F]<;>rfl) (by simp -implicitDefEqProofs only[go_sem,F]<;>and_intros<;>rfl) (by decide) ?_;refine mI 3800 0 3 1 (r18.map encI) [] (by simp -implicitDefEqProofs only[go_sem,F]<;>rfl) (by simp -implicitDefEqProofs only[go_sem,F]<;>and_intros<;>rfl) (by decide) ?_;refine zD [.q,.q,.q,.q,.q,.q,.q,.q,.q,.q,.q,.q,.f,.q,.q,.w] ?_;refine yH F h (jw _ _ _ _) λr29 h=>?_
            refine zH 5240 F h (jw _ _ _ _) λr30 h=>?_
            refine zK F h (cN _) λr31 h=>?_
            refine cG F h (λF h=>?_) λF h=>?_
            ·exact fQ h
            ·exact fQ h
         ·refine zG 3752 F h (iG _ _) λr32 h=>?_
          refine zG 3800 F h (iG _ _) λr33 h=>?_
          refine zE [(0,.q),(1,.q),(2,.q),(3,.q),(5,.q),(6,.q),(7,.q),(8,.q),(4,.f),(9,.f),(10,.q),(11,.q),(12,.w)] ?_;refine zH 3912 F h (cV _ _) λr34 h=>?_
          refine zH 3992 F h (cV _ _) λr35 h=>?_
          refine zV ?_;refine zN F h (0:Nat) [5,6,7,8,19,20] (λx=>[(21,.p (.val (.int .i64 ((x.1.1:Nat):Int))))]) [5,6,7,8,19,3560,3561,3752,3800,3912,3992] (λx H=>[(20,bx (H 20) [(0,.row 9522 x.2)]),(9522,.row x.2 3 1 (x.1.2.map encI))]) ?_ ?_ (hw:=by refine fE.trans (eN 20 0 9522 3 1 _ rfl rfl rfl (by decide)) ?_;exact zW)
          ·intro i36 s36 g36 _ _ F aFK h;try dsimp only at h
           refine zE [(0,.p),(2,.q),(3,.q),(4,.q),(5,.q),(6,.q),(7,.q),(8,.q),(9,.q),(10,.q),(11,.q),(12,.q),(13,.p),(1,.q),(14,.w),(15,.q),(16,.w)] ?_;refine zI encI F h λe37 F h=>?_
           refine zA encI F h λe38 F h=>?_
           refine zC F h λF h=>?_
           refine zF (eq_true (show (s36.length+1) * 8<=140737488355328 by omega)) F λF=>?_
           refine zF (bK encI s36 [e38] (c:=[[.val (.int .i64 e38)]]) rfl) F λF=>?_
           exact zX (z:=aFK _ (g36+1) h zW)
          ·intro i36 s36 g36 _ F h;try dsimp only at h
           refine zV ?_;refine zN F h (0:Nat) [5,6,7,8,19,20] (λx=>[(22,.p (.val (.int .i64 ((x.1.1:Nat):Int))))]) [5,6,7,8,19,3560,3561,3752,3800,3912,3992,9522] (λx H=>[(20,bx (H 20) [(1,.row 9572 x.2)]),(9572,.row x.2 165 3 (x.1.2.map ay))]) ?_ ?_ (hw:=by refine fE.trans (eN 20 1 9572 165 3 _ rfl rfl rfl (by decide)) ?_;exact zW)
           ·intro i39 s39 g39 _ _ F aFL h;try dsimp only at h
            refine zD [.q,.q,.q,.q,.q,.q,.q,.q,.q,.q,.q,.w,.s] ?_;refine zI encI F h λe40 F h=>?_
            refine zA ay F h λe41 F h=>?_
            refine zE [(0,.p),(2,.q),(3,.q),(4,.q),(5,.q),(6,.q),(7,.q),(8,.q),(9,.q),(10,.q),(11,.q),(12,.q),(13,.q),(14,.q),(15,.q),(16,.q),(17,.p),(1,.q),(18,.w),(19,.q),(20,.w)] ?_;refine zKd F h (ep _ _) λr42 h=>?_
            refine zKd F h (ep _ _) λr43 h=>?_
            refine zC F h λF h=>?_
            refine zF (eq_true (show (s39.length+1) * 24<=140737488355328 by omega)) F λF=>?_
            refine zF (bK ay s39 [(⟨e41.type,r42,r43⟩:Edge)] (c:=[[.val (.int .i64 e41.type),.val (.int .i64 r42),.val (.int .i64 r43)]]) rfl) F λF=>?_
            exact zX (z:=aFL _ (g39+1) h zW)
           ·intro i39 s39 g39 _ F h;try dsimp only at h
            refine zV ?_;refine mI 9522 g36 3 1 (s36.map encI) [] (by simp -implicitDefEqProofs only[go_sem,F]<;>rfl) (by simp -implicitDefEqProofs only[go_sem,F]<;>and_intros<;>rfl) (by decide) ?_;refine mI 9572 g39 165 3 (s39.map ay) [] (by simp -implicitDefEqProofs only[go_sem,F]<;>rfl) (by simp -implicitDefEqProofs only[go_sem,F]<;>and_intros<;>rfl) (by decide) ?_;refine mI 3752 0 3 1 (r32.map encI) [] (by simp -implicitDefEqProofs only[go_sem,F]<;>rfl) (by simp -implicitDefEqProofs only[go_sem,F]<;>and_intros<;>rfl) (by decide) ?_;refine mI 3800 0 3 1 (r33.map encI) [] (by simp -implicitDefEqProofs only[go_sem,F]<;>rfl) (by simp -implicitDefEqProofs only[go_sem,F]<;>and_intros<;>rfl) (by decide) ?_;refine zD [.q,.q,.q,.q,.q,.q,.q,.q,.q,.q,.q,.q,.f,.q,.q,.w] ?_;refine yH F h (jw _ _ _ _) λr44 h=>?_
            refine zH 5240 F h (jw _ _ _ _) λr45 h=>?_
            refine zK F h (cN _) λr46 h=>?_
            refine cG F h (λF h=>?_) λF h=>?_
            ·exact fQ h
            ·exact fQ h
        ·exact fQ h
       ·exact fQ h
      ·exact fQ h
     ·exact fQ h
    ·exact fQ h
   ·exact fQ h
  ·exact fQ h
 ·exact fQ h
end
end Go.Proofs.YtldllhbhnpjlcaaGreat
