/- Joined texts, part 5: lemmas for the statement. No condition. -/
import Derived.Test.YtldllhbhnpjlcaaGreatJ4
import Derived.Test.YtldllhbhnpjlcaaGreatJ3
import Derived.LoopTactic
import Derived.Shelf.Abstract
import Derived.Maps.OwnIn
import Derived.Maps.AppendAt
import Derived.RowKit3
import Derived.Carry
import Derived.WalkKit
import Derived.Maps.RangeRun
set_option maxHeartbeats 4000000
set_option linter.unusedSimpArgs false
set_option linter.unusedVariables false
open Nat (reduceEqDiff reduceLT reduceLeDiff reduceMul reduceAdd reduceSub)
open Go.IntKind (i64)
open Go.Proofs.Tryz
open Go.Proofs.Tryz renaming prog → pw
set_option maxRecDepth 20000
namespace Go.Proofs.YtldllhbhnpjlcaaGreat
open Go.bP
attribute [go_sem] List.cons_append List.nil_append aN ay aA encI bR qJ az sL dw encS cz oW jW jV gG kR bL nt nt aQ aL tX aM fe j5 iE gY
noncomputable section
def ku  : Option Types:=some (⟨[(⟨⟨#[65,99,99,111,117,110,116]⟩,(-1),true,[(⟨⟨#[98,97,108,97,110,99,101]⟩,(-1000),1000,[]⟩:Attr)]⟩:qo),(⟨⟨#[67,97,115,104]⟩,0,false,[]⟩:qo),(⟨⟨#[76,111,97,110]⟩,0,false,[(⟨⟨#[115,116,97,116,101]⟩,0,1,[(⟨#[111,112,101,110]⟩:ByteArray),(⟨#[99,108,111,115,101,100]⟩:ByteArray)]⟩:Attr)]⟩:qo),(⟨⟨#[80,101,114,115,111,110]⟩,(-1),false,[]⟩:qo)],[(⟨⟨#[111,119,110,115]⟩,3,0,0,(-1),1,1⟩:sA),(⟨⟨#[112,97,121,115]⟩,1,1,0,(-1),0,(-1)⟩:sA)]⟩:Types)
def mg  : Option aF:=some (⟨⟨#[111,112,101,110]⟩,⟨⟨[3],[]⟩,[],0,[]⟩,⟨⟨[3,1],[(⟨0,0,1⟩:Edge)]⟩,[],0,[]⟩,⟨[0],[]⟩,⟨[0],[]⟩,true,⟨1,[],⟨[],[]⟩,⟨⟨[],[]⟩,[],0,[]⟩⟩⟩:aF)
def ia(a0:List Int)(p1:Int->Option Bool):Option Int :=
 cA (a0.length<=fuel) <|
 bH (λi2 (s2:Unit) bU gT =>
  thn (a0[i2]?) λe3 =>
  thn (p1 e3) λr4 =>
  cond r4 (
   some ((i2:Nat):Int)) <|
  bU ())
 (a0.length-0) 0 () λs2 =>
 some (-1)
def cy(a0:List Int)(p1:Int->Option Bool):Option Bool :=
 thn (ia a0 p1) λr2 =>
 some (decide (0<=r2))
def jG(a0:Int)(a1:Types):Option Bool:=some (decide (((a1.nodes.length:Nat):Int)<=a0))
def gI(a0:List Edge)(p1:Edge->Option Bool):Option Int :=
 cA (a0.length<=fuel) <|
 bH (λi2 (s2:Unit) bU gT =>
  thn (a0[i2]?) λe3 =>
  thn (p1 e3) λr4 =>
  cond r4 (
   some ((i2:Nat):Int)) <|
  bU ())
 (a0.length-0) 0 () λs2 =>
 some (-1)
def dx(a0:List Edge)(p1:Edge->Option Bool):Option Bool :=
 thn (gI a0 p1) λr2 =>
 some (decide (0<=r2))
def jH(a0:Edge)(a1:Types):Option Bool:=some (decide (((a1.ag.length:Nat):Int)<=a0.type))
def eC(a0:Int)(a1:Int)(a2:Int):Option Bool :=
 cond (decide (a1<=a0)) (
  some (decide (a0<=a2))) <|
 some false
def lF(a0:Types)(a1:ak)(a2:aG):Option (Attr×Bool) :=
 thn (eC a2.node 0 (i64.wrap (((a1.graph.nodes.length:Nat):Int)-1))) λr3 =>
 cond r3 (
  thn (jd a1.graph.nodes a2.node) λe4 =>
  thn (oB a0 e4) λr5 =>
  thn (eC a2.attr 0 (i64.wrap (((r5.1.length:Nat):Int)-1))) λr6 =>
  cond r6 (
   thn (jd r5.1 a2.attr) λe7 =>
   some (e7,true)) <|
  some ((⟨(⟨#[]⟩:ByteArray),0,0,([]:List ByteArray)⟩:Attr),false)) <|
 some ((⟨⟨#[]⟩,0,0,[]⟩:Attr),false)
def fY(a0:Int)(a1:pP):Option Bool :=
 cond (decide ((-1)<=a1.var)) (
  cond (decide (a1.var<a0)) (
   cond (decide ((-1000000)<=a1.add)) (
    some (decide (a1.add<=1000000))) <|
   some false) <|
  some false) <|
 some false
def lG(a0:Int)(a1:aH):Option Int :=
 cond (decide (a1.kind=1)) (
  thn (fY a0 a1.left) λr2 =>
  cond r2 (
   thn (fY a0 a1.right) λr3 =>
   cond r3 (
    some 0) <|
   some 6) <|
  some 6) <|
 cond (decide (a1.kind=2)) (
  thn (fY a0 a1.left) λr4 =>
  cond r4 (
   thn (fY a0 a1.right) λr5 =>
   cond r5 (
    some 0) <|
   some 6) <|
  some 6) <|
 some 1
def jY(a0:Int)(a1:List aH):Option Int :=
 cond (decide (a0<0)) (
  some 6) <|
 cond (decide (12<a0)) (
  some 6) <|
 cond (decide (40<((a1.length:Nat):Int))) (
  some 3) <|
 cA (a1.length<=fuel) <|
 bH (λi2 (s2:Unit) bU gT =>
  thn (a1[i2]?) λe3 =>
  thn (lG a0 e3) λr4 =>
  cond (decide (r4=0)) (
   bU ()) <|
  some r4)
 (a1.length-0) 0 () λs2 =>
 some 0
def lp(a0:List Bool)(a1:Bool):Option Int :=
 cA (a0.length<=fuel) <|
 bH (λi2 (s2:Unit) bU gT =>
  thn (a0[i2]?) λe3 =>
  cond (a1 == e3) (
   some ((i2:Nat):Int)) <|
  bU ())
 (a0.length-0) 0 () λs2 =>
 some (-1)
def ic(a0:List Bool)(a1:Bool):Option Bool :=
 thn (lp a0 a1) λr2 =>
 some (decide (0<=r2))
def fZ(a0:Types)(a1:ak):Option Int :=
 thn (kS a0) λr2 =>
 cond (decide (r2.2=0)) (
  thn (eL a1.graph) λr3 =>
  cond (decide (r3=0)) (
   thn (cy a1.graph.nodes (λx4=>jG x4 a0)) λr5 =>
   cond r5 (
    some 13) <|
   thn (dx a1.graph.ag (λx6=>jH x6 a0)) λr7 =>
   cond r7 (
    some 13) <|
   thn (eC a1.vars 0 12) λr8 =>
   cond r8 (
    cond (decide (10<((a1.slots.length:Nat):Int))) (
     some 3) <|
    cond (decide (10<((a1.tests.length:Nat):Int))) (
     some 3) <|
    cA (0<=a1.vars/\a1.vars<=68719476736) <|
    cA (a1.slots.length<=fuel) <|
    bH (λi9 (s9:(List Bool)) wB al7 =>
     thn (a1.slots[i9]?) λsS =>
     thn (lF a0 a1 sS) λqg =>
     cond qg.2 (
      thn (eC sS.term.var (-1) (i64.wrap (a1.vars-1))) λvM =>
      cond vM (
       thn (eC sS.term.add (-1000000) 1000000) λr13 =>
       cond r13 (
        cond (decide (0<=sS.term.var)) (
         thn (jd s9 sS.term.var) λe14 =>
         wB (s9.set sS.term.var.toNat true)) <|
        wB s9) <|
       some 6) <|
      some 6) <|
     some 6)
    (a1.slots.length-0) 0 (List.replicate a1.vars.toNat false) λs9 =>
    thn (jY a1.vars a1.tests) λr15 =>
    cond (decide (r15=0)) (
     thn (ic s9 false) λr16 =>
     cond r16 (
      some 9) <|
     some 0) <|
    some r15) <|
   some 6) <|
  some r3) <|
 some r2.2
def nu(a0:Int)(a1:Types):Option Bool:=some (decide (((a1.nodes.length:Nat):Int)<=a0))
def nv(a0:Edge)(a1:Types):Option Bool:=some (decide (((a1.ag.length:Nat):Int)<=a0.type))
def pR(a0:Types)(a1:au):Option Bool :=
 thn (cy a1.nodes (λx2=>nu x2 (⟨a0.nodes,a0.ag⟩:Types))) λr3 =>
 cond r3 (
  some false) <|
 thn (dx a1.ag (λx4=>nv x4 (⟨a0.nodes,a0.ag⟩:Types))) λr5 =>
 some (!r5)
def gJ(a0:List aG)(p1:aG->Option Bool):Option Int :=
 cA (a0.length<=fuel) <|
 bH (λi2 (s2:Unit) bU gT =>
  thn (a0[i2]?) λe3 =>
  thn (p1 e3) λr4 =>
  cond r4 (
   some ((i2:Nat):Int)) <|
  bU ())
 (a0.length-0) 0 () λs2 =>
 some (-1)
def dy(a0:List aG)(p1:aG->Option Bool):Option Bool :=
 thn (gJ a0 p1) λr2 =>
 some (decide (0<=r2))
def mJ(a0:aG)(a1:aG):Option Bool :=
 cond (decide (a0.node=a1.node)) (
  some (decide (a0.attr=a1.attr))) <|
 some false
def rK(a0:Types)(a1:aF)(a2:Int):Option Int :=
 thn (jd a1.right.slots a2) λe3 =>
 cond (decide (e3.node<0)) (
  some 6) <|
 cond (decide (((a1.right.graph.nodes.length:Nat):Int)<=e3.node)) (
  some 6) <|
 thn (jd a1.right.graph.nodes e3.node) λe4 =>
 thn (oB a0 e4) λr5 =>
 cond (decide (e3.attr<0)) (
  some 6) <|
 cond (decide (((r5.1.length:Nat):Int)<=e3.attr)) (
  some 6) <|
 cond (decide (e3.term.var<(-1))) (
  some 6) <|
 cond (decide (a1.right.vars<=e3.term.var)) (
  some 6) <|
 cond (decide (e3.term.add<(-1000000))) (
  some 6) <|
 cond (decide (1000000<e3.term.add)) (
  some 6) <|
 cA ((0:Int)<=0/\0<=a2/\a2<=(a1.right.slots.length:Int)) <|
 thn (dy (a1.right.slots.take a2.toNat) (λx6=>mJ x6 e3)) λr7 =>
 cond r7 (
  some 5) <|
 some 0
def pS(a0:Types)(a1:aF):Option Int :=
 thn (eL a1.right.graph) λr2 =>
 cond (decide (r2=0)) (
  thn (pR (⟨a0.nodes,a0.ag⟩:Types) a1.right.graph) λr3 =>
  cond r3 (
   cond (decide (a1.right.vars=a1.left.vars)) (
    cond (decide (0<((a1.right.tests.length:Nat):Int))) (
     some 1) <|
    cond (decide (10<((a1.right.slots.length:Nat):Int))) (
     some 3) <|
    cA (a1.right.slots.length<=fuel) <|
    bH (λi4 (s4:Unit) kg pT =>
     thn (rK (⟨a0.nodes,a0.ag⟩:Types) (⟨a1.name,a1.left,a1.right,a1.keep,a1.into,a1.injective,a1.condition⟩:aF) ((i4:Nat):Int)) λr5 =>
     cond (decide (r5=0)) (
      kg ()) <|
     some r5)
    (a1.right.slots.length-0) 0 () λs4 =>
    some 0) <|
   some 1) <|
  some 13) <|
 some r2
def kA(a0:List Int)(a1:Int):Option Int :=
 cA (a0.length<=fuel) <|
 bH (λi2 (s2:Unit) bU gT =>
  thn (a0[i2]?) λe3 =>
  cond (decide (e3<0)) (
   some 6) <|
  cond (decide (a1<=e3)) (
   some 6) <|
  cond (decide (0<((i2:Nat):Int))) (
   thn (jd a0 (i64.wrap (((i2:Nat):Int)-1))) λe4 =>
   cond (decide (e3<=e4)) (
    some 12) <|
   bU ()) <|
  bU ())
 (a0.length-0) 0 () λs2 =>
 some 0
def kB(a0:Int):Option Bool:=some (!(decide (a0=a0)))
def nw(a0:Int)(a1:Int):Option Bool :=
 thn (kB a0) λr2 =>
 cond r2 (
  thn (kB a1) λr3 =>
  cond r3 (
   some (decide (a0<a1))) <|
  some true) <|
 some (decide (a0<a1))
def iR(a0:Int):Option Bool:=some (!(decide (a0=a0)))
def cS(a0:List Int)(a1:Int):Option (Int×Bool) :=
 iter (λ(s2:Int×Int) bU gT =>
  cond (decide (s2.1<s2.2)) (
   thn (jd a0 (i64.wrap ((IntKind.u64.wrap (i64.wrap (s2.1+s2.2))).fdiv (2 ^ 1)))) λe3 =>
   thn (nw e3 a1) λr4 =>
   cond r4 (
    bU ((i64.wrap ((i64.wrap ((IntKind.u64.wrap (i64.wrap (s2.1+s2.2))).fdiv (2 ^ 1)))+1)),s2.2)) <|
   bU (s2.1,(i64.wrap ((IntKind.u64.wrap (i64.wrap (s2.1+s2.2))).fdiv (2 ^ 1))))) <|
  gT (s2.1,s2.2))
 fuel (0,((a0.length:Nat):Int)) λs2 =>
 cond (decide (s2.1<((a0.length:Nat):Int))) (
  thn (jd a0 s2.1) λe5 =>
  cond (decide (e5=a1)) (
   some (s2.1,true)) <|
  thn (iR e5) λr6 =>
  cond r6 (
   thn (iR a1) λr7 =>
   some (s2.1,r7)) <|
  some (s2.1,false)) <|
 some (s2.1,false)
def jk(a0:List Int)(a1:Int):Option Bool :=
 thn (cS a0 a1) λr2 =>
 some r2.2
def mD(a0:au)(a1:aO):Option Int :=
 thn (kA a1.nodes ((a0.nodes.length:Nat):Int)) λr2 =>
 cond (decide (r2=0)) (
  thn (kA a1.ag ((a0.ag.length:Nat):Int)) λr3 =>
  cond (decide (r3=0)) (
   cA (a1.ag.length<=fuel) <|
   bH (λi4 (s4:Unit) kg pT =>
    thn (a1.ag[i4]?) λe5 =>
    thn (jd a0.ag e5) λe6 =>
    thn (jk a1.nodes e6.src) λr7 =>
    cond r7 (
     thn (jk a1.nodes e6.dst) λr8 =>
     cond r8 (
      kg ()) <|
     some 14) <|
    some 14)
   (a1.ag.length-0) 0 () λs4 =>
   some 0) <|
  some r3) <|
 some r2
def iS(a0:au)(a1:aO):Option Int :=
 thn (eL a0) λr2 =>
 cond (decide (r2=0)) (
  thn (mD (⟨a0.nodes,a0.ag⟩:au) (⟨a1.nodes,a1.ag⟩:aO)) λr3 =>
  some r3) <|
 some r2
def dQ(a0:au)(a1:aO):Option (au×ah×Int) :=
 thn (iS a0 a1) λr2 =>
 cond (decide (r2=0)) (
  cA (a1.nodes.length<=fuel) <|
  bH (λi3 (s3:(List Int)) eG n8 =>
   thn (a1.nodes[i3]?) λe4 =>
   thn (jd a0.nodes e4) λe5 =>
   cA (s3.length+1<=68719476736) <|
   eG (s3++[e5]))
  (a1.nodes.length-0) 0 ([]:List Int) λs3 =>
  cA (a1.ag.length<=fuel) <|
  bH (λi6 (s6:(List Edge)) sD ahN =>
   thn (a1.ag[i6]?) λe7 =>
   thn (jd a0.ag e7) λe8 =>
   thn (cS a1.nodes e8.src) λr9 =>
   thn (cS a1.nodes e8.dst) λoZ =>
   cA (s6.length+1<=68719476736) <|
   sD (s6++[(⟨e8.type,r9.1,oZ.1⟩:Edge)]))
  (a1.ag.length-0) 0 ([]:List Edge) λs6 =>
  thn (bp a1.nodes) λqg =>
  thn (bp a1.ag) λvM =>
  some ((⟨s3,s6⟩:au),(⟨qg,vM⟩:ah),0)) <|
 some ((⟨[],[]⟩:au),(⟨[],[]⟩:ah),r2)
def b7(a0:au)(a1:au)(a2:ah):Option Int :=
 thn (eL a0) λr3 =>
 cond (decide (r3=0)) (
  thn (eL a1) λr4 =>
  cond (decide (r4=0)) (
   cond (decide (((a2.nodes.length:Nat):Int)=((a0.nodes.length:Nat):Int))) (
    cond (decide (((a2.ag.length:Nat):Int)=((a0.ag.length:Nat):Int))) (
     cA (a2.nodes.length<=fuel) <|
     bH (λi5 (s5:Unit) tY afW =>
      thn (a2.nodes[i5]?) λe6 =>
      cond (decide (e6<0)) (
       some 6) <|
      cond (decide (((a1.nodes.length:Nat):Int)<=e6)) (
       some 6) <|
      thn (jd a1.nodes e6) λe7 =>
      thn (a0.nodes[i5]?) λe8 =>
      cond (decide (e7=e8)) (
       tY ()) <|
      some 13)
     (a2.nodes.length-0) 0 () λs5 =>
     cA (a2.ag.length<=fuel) <|
     bH (λi9 (s9:Unit) wB al7 =>
      thn (a2.ag[i9]?) λsS =>
      cond (decide (sS<0)) (
       some 6) <|
      cond (decide (((a1.ag.length:Nat):Int)<=sS)) (
       some 6) <|
      thn (a0.ag[i9]?) λe11 =>
      thn (jd a1.ag sS) λe12 =>
      cond (decide (e11.type=e12.type)) (
       thn (jd a2.nodes e11.src) λe13 =>
       cond (decide (e13=e12.src)) (
        thn (jd a2.nodes e11.dst) λe14 =>
        cond (decide (e14=e12.dst)) (
         wB ()) <|
        some 11) <|
       some 11) <|
      some 13)
     (a2.ag.length-0) 0 () λs9 =>
     some 0) <|
    some 20) <|
   some 20) <|
  some r4) <|
 some r3
def js(a0:List Int):Option Int :=
 thn (bp a0) λr1 =>
 thn (mS r1) λr2 =>
 thn (kK r2) λr3 =>
 some ((r3.length:Nat):Int)
def c8(a0:au)(a1:au)(a2:ah):Option Bool :=
 thn (b7 (⟨a0.nodes,a0.ag⟩:au) a1 a2) λr3 =>
 cond (decide (r3=0)) (
  thn (js a2.nodes) λr4 =>
  cond (decide (r4=((a2.nodes.length:Nat):Int))) (
   thn (js a2.ag) λr5 =>
   some (decide (r5=((a2.ag.length:Nat):Int)))) <|
  some false) <|
 some false
def o3(a0:aF):Option Int :=
 thn (dQ a0.left.graph a0.keep) λr1 =>
 cond (decide (r1.2.2=0)) (
  thn (b7 r1.1 a0.right.graph a0.into) λr2 =>
  cond (decide (r2=0)) (
   thn (c8 r1.1 a0.right.graph a0.into) λr3 =>
   cond r3 (
    some 0) <|
   some 11) <|
  some r2) <|
 some r1.2.2
def mK(a0:List Int)(a1:Int):Option (List Int) :=
 cA (a1.toNat<=fuel) <|
 bH (λi2 (s2:(List Int)) bU gT =>
  thn (bC a0 ((i2:Nat):Int)) λr3 =>
  cond r3 (
   bU s2) <|
  cA (s2.length+1<=68719476736) <|
  bU (s2++[((i2:Nat):Int)]))
 (a1.toNat-0) 0 ([]:List Int) λs2 =>
 some s2
def lH(a0:aF):Option ((List Int)×(List Int)) :=
 thn (mK a0.into.nodes ((a0.right.graph.nodes.length:Nat):Int)) λr1 =>
 thn (mK a0.into.ag ((a0.right.graph.ag.length:Nat):Int)) λr2 =>
 some (r1,r2)
def jQ(a0:Int)(a1:Types)(a2:au):Option Bool :=
 thn (jd a2.nodes a0) λe3 =>
 thn (jd a1.nodes e3) λe4 =>
 some e4.abs
def jR(a0:Int)(a1:au)(a2:Types):Option Bool :=
 thn (jd a1.ag a0) λe3 =>
 thn (jd a1.nodes e3.src) λe4 =>
 thn (jd a1.nodes e3.dst) λe5 =>
 thn (xH a2 e3.type e4 e5) λr6 =>
 some (!r6)
def lI(a0:Types)(a1:au)(a2:List Int)(a3:List Int):Option Bool :=
 thn (cy a2 (λx4=>jQ x4 (⟨a0.nodes,a0.ag⟩:Types) (⟨a1.nodes,a1.ag⟩:au))) λr5 =>
 cond r5 (
  some false) <|
 thn (cy a3 (λx6=>jR x6 a1 (⟨a0.nodes,a0.ag⟩:Types))) λr7 =>
 some (!r7)
def gK(a0:aj):Option Bool :=
 cond (decide ((i64.wrap ((i64.wrap ((i64.wrap ((i64.wrap ((i64.wrap (((a0.map.nodes.length:Nat):Int)+((a0.map.ag.length:Nat):Int)))+((a0.pattern.graph.nodes.length:Nat):Int)))+((a0.pattern.graph.ag.length:Nat):Int)))+((a0.pattern.slots.length:Nat):Int)))+((a0.pattern.tests.length:Nat):Int)))=0)) (
  some (decide (a0.pattern.vars=0))) <|
 some false
def eH(a0:List aj)(p1:aj->Option Bool):Option Int :=
 cA (a0.length<=fuel) <|
 bH (λi2 (s2:Unit) bU gT =>
  thn (a0[i2]?) λe3 =>
  thn (p1 e3) λr4 =>
  cond r4 (
   some ((i2:Nat):Int)) <|
  bU ())
 (a0.length-0) 0 () λs2 =>
 some (-1)
def bF(a0:List aj)(p1:aj->Option Bool):Option Bool :=
 thn (eH a0 p1) λr2 =>
 some (decide (0<=r2))
def bz(ayV:aj->Option Bool)(a0:aj):Option Bool :=
 thn (ayV a0) λr2 =>
 some (!r2)
def aT:Nat->aj ->  Option Bool
  |0,_=>none
  |n+1,a0 =>
    cond (decide (a0.kind=1)) (
     cond (decide (((a0.kids.length:Nat):Int)=0)) (
      thn (gK a0) λr1 =>
      cond r1 (
       thn (bF a0.kids (λx2=>bz (λy0=>aT n y0) x2)) λr3 =>
       some (!r3)) <|
      some false) <|
     some false) <|
    cond (decide (a0.kind=2)) (
     cond (decide (((a0.kids.length:Nat):Int)=1)) (
      thn (gK a0) λr4 =>
      cond r4 (
       thn (bF a0.kids (λx5=>bz (λy0=>aT n y0) x5)) λr6 =>
       some (!r6)) <|
      some false) <|
     some false) <|
    cond (decide (a0.kind=3)) (
     cond (decide (1<=((a0.kids.length:Nat):Int))) (
      thn (gK a0) λr7 =>
      cond r7 (
       thn (bF a0.kids (λx8=>bz (λy0=>aT n y0) x8)) λr9 =>
       some (!r9)) <|
      some false) <|
     some false) <|
    cond (decide (a0.kind=4)) (
     cond (decide (1<=((a0.kids.length:Nat):Int))) (
      thn (gK a0) λoZ =>
      cond oZ (
       thn (bF a0.kids (λx11=>bz (λy0=>aT n y0) x11)) λvM =>
       some (!vM)) <|
      some false) <|
     some false) <|
    cond (decide (a0.kind=5)) (
     cond (decide (((a0.kids.length:Nat):Int)=1)) (
      thn (bF a0.kids (λx13=>bz (λy0=>aT n y0) x13)) λr14 =>
      some (!r14)) <|
     some false) <|
    some false
def dY:Nat->aj ->  Option (Int×Int)
  |0,_=>none
  |n+1,a0 =>
    cA (a0.kids.length<=fuel) <|
    bH (λi1 (s1:Int×Int) sE afX =>
     thn (a0.kids[i1]?) λe2 =>
     thn (dY n e2) λr3 =>
     sE ((i64.wrap (s1.1+r3.1)),(max s1.2 r3.2)))
    (a0.kids.length-0) 0 (1,0) λs1 =>
    cond (decide (a0.kind=5)) (
     some (s1.1,(i64.wrap (s1.2+1)))) <|
    some (s1.1,s1.2)
def kL(a0:aj):Option Int :=
 thn (aT fuel a0) λr1 =>
 cond r1 (
  thn (dY fuel a0) λr2 =>
  cond (decide (12<r2.1)) (
   some 3) <|
  cond (decide (3<r2.2)) (
   some 3) <|
  some 0) <|
 some 1
def iJ(a0:aG)(a1:Int):Option Bool:=some (decide (a0.term.var=a1))
def eO(a0:Types)(a1:ak)(a2:Int):Option Int :=
 thn (fZ a0 a1) λr3 =>
 cond (decide (r3=9)) (
  iter (λ(s4:Int) kg pT =>
   cond (decide (s4<a1.vars)) (
    thn (dy a1.slots (λx5=>iJ x5 s4)) λr6 =>
    cond r6 (
     kg (i64.wrap (s4+1))) <|
    some r3) <|
   pT s4)
  fuel a2 λs4 =>
  some 0) <|
 some r3
def cQ:Nat->Types->ak->aj ->  Option Int
  |0,_,_,_=>none
  |n+1,a0,a1,a2 =>
    cond (decide (a2.kind=5)) (
     cond (decide (a2.pattern.vars<a1.vars)) (
      some 20) <|
     thn (eO a0 a2.pattern a1.vars) λr3 =>
     cond (decide (r3=0)) (
      thn (b7 a1.graph a2.pattern.graph a2.map) λr4 =>
      cond (decide (r4=0)) (
       thn (c8 a1.graph a2.pattern.graph a2.map) λr5 =>
       cond r5 (
        cA (a2.kids.length<=fuel) <|
        bH (λi6 (s6:Unit) sD ahN =>
         thn (a2.kids[i6]?) λe7 =>
         thn (cQ n a0 a2.pattern e7) λr8 =>
         cond (decide (r8=0)) (
          sD ()) <|
         some r8)
        (a2.kids.length-0) 0 () λs6 =>
        some 0) <|
       some 1) <|
      some r4) <|
     some r3) <|
    cA (a2.kids.length<=fuel) <|
    bH (λi9 (s9:Unit) wB al7 =>
     thn (a2.kids[i9]?) λsS =>
     thn (cQ n a0 a1 sS) λqg =>
     cond (decide (qg=0)) (
      wB ()) <|
     some qg)
    (a2.kids.length-0) 0 () λs9 =>
    some 0
def jt(a0:Types)(a1:ak)(a2:aj):Option Int :=
 thn (fZ a0 a1) λr3 =>
 cond (decide (r3=0)) (
  thn (kL a2) λr4 =>
  cond (decide (r4=0)) (
   thn (cQ fuel a0 a1 a2) λr5 =>
   some r5) <|
  some r4) <|
 some r3
def mh(a0:Types)(a1:aF):Option Int :=
 thn (kS a0) λr2 =>
 cond (decide (r2.2=0)) (
  thn (tS a1.name) λr3 =>
  cond r3 (
   thn (fZ (⟨a0.nodes,a0.ag⟩:Types) a1.left) λr4 =>
   cond (decide (r4=0)) (
    thn (pS (⟨a0.nodes,a0.ag⟩:Types) (⟨a1.name,a1.left,a1.right,a1.keep,a1.into,a1.injective,a1.condition⟩:aF)) λr5 =>
    cond (decide (r5=0)) (
     thn (o3 (⟨a1.name,a1.left,a1.right,a1.keep,a1.into,a1.injective,a1.condition⟩:aF)) λr6 =>
     cond (decide (r6=0)) (
      thn (lH (⟨a1.name,a1.left,a1.right,a1.keep,a1.into,a1.injective,a1.condition⟩:aF)) λr7 =>
      thn (lI (⟨a0.nodes,a0.ag⟩:Types) a1.right.graph r7.1 r7.2) λr8 =>
      cond r8 (
       thn (jt a0 a1.left a1.condition) λr9 =>
       some r9) <|
      some 13) <|
     some r6) <|
    some r5) <|
   some r4) <|
  some 2) <|
 some r2.2
def fG(a0:aF):Option Bool :=
 cond (decide (a0.left.vars=0)) (
  cond (decide ((i64.wrap ((i64.wrap (((a0.left.slots.length:Nat):Int)+((a0.left.tests.length:Nat):Int)))+((a0.right.slots.length:Nat):Int)))=0)) (
   some (decide (a0.condition.kind=1))) <|
  some false) <|
 some false
def iT(a0:Types)(a1:aF)(a2:aF):Option Int :=
 thn (kS a0) λr3 =>
 cond (decide (r3.2=0)) (
  thn (some [a1,a2]) λl5 =>
  cA (2<=fuel) <|
  bH (λi4 (s4:Unit) kg pT =>
   thn (l5[i4]?) λe6 =>
   thn (mh a0 e6) λr7 =>
   cond (decide (r7=0)) (
    kg ()) <|
   some r7)
  (2-0) 0 () λs4 =>
  thn (fG (⟨a1.name,a1.left,a1.right,a1.keep,a1.into,a1.injective,a1.condition⟩:aF)) λr8 =>
  cond r8 (
   thn (fG (⟨a2.name,a2.left,a2.right,a2.keep,a2.into,a2.injective,a2.condition⟩:aF)) λr9 =>
   cond r9 (
    some 0) <|
   some 8) <|
  some 8) <|
 some r3.2
def iU(a0:Int)(a1:Int):Option Bool :=
 cond (decide (40<a0)) (
  some true) <|
 some (decide (80<a1))
def jI(a0:List (List Int)):Option (List Int) :=
 cA (a0.length<=fuel) <|
 bH (λi1 (s1:Int) sE afX =>
  thn (a0[i1]?) λe2 =>
  cond (decide ((i64.wrap (s1+((e2.length:Nat):Int)))<0)) (
   none) <|
  sE (i64.wrap (s1+((e2.length:Nat):Int))))
 (a0.length-0) 0 0 λs1 =>
 thn (vk ([]:List Int) s1) λr3 =>
 cA (a0.length<=fuel) <|
 bH (λi4 (s4:(List Int)) kg pT =>
  thn (a0[i4]?) λe5 =>
  cA (s4.length+e5.length<=68719476736) <|
  kg (s4++e5))
 (a0.length-0) 0 r3 λs4 =>
 some s4
def iC(a0:Int)(a1:Int):Option (List Int) :=
 cA (a1.toNat<=fuel) <|
 bH (λi2 (s2:(List Int)) bU gT =>
  cA (s2.length+1<=68719476736) <|
  bU (s2++[(i64.wrap (a0+((i2:Nat):Int)))]))
 (a1.toNat-0) 0 ([]:List Int) λs2 =>
 some s2
def mL(a0:au)(a1:au):Option (au×ah×ah×Int) :=
 thn (some [a0,a1]) λl2 =>
 cA (2<=fuel) <|
 bH (λi3 (s3:Unit) eG n8 =>
  thn (l2[i3]?) λe4 =>
  thn (eL e4) λr5 =>
  cond (decide (r5=0)) (
   eG ()) <|
  some ((⟨([]:List Int),([]:List Edge)⟩:au),(⟨([]:List Int),([]:List Int)⟩:ah),(⟨([]:List Int),([]:List Int)⟩:ah),r5))
 (2-0) 0 () λs3 =>
 cond (decide (40<(i64.wrap (((a0.nodes.length:Nat):Int)+((a1.nodes.length:Nat):Int))))) (
  some ((⟨([]:List Int),([]:List Edge)⟩:au),(⟨([]:List Int),([]:List Int)⟩:ah),(⟨([]:List Int),([]:List Int)⟩:ah),3)) <|
 cond (decide (80<(i64.wrap (((a0.ag.length:Nat):Int)+((a1.ag.length:Nat):Int))))) (
  some ((⟨([]:List Int),([]:List Edge)⟩:au),(⟨([]:List Int),([]:List Int)⟩:ah),(⟨([]:List Int),([]:List Int)⟩:ah),3)) <|
 thn (jI [a0.nodes,a1.nodes]) λr6 =>
 thn (iA a0.ag) λr7 =>
 cA (a1.ag.length<=fuel) <|
 bH (λi8 (s8:(List Edge)) afV awy =>
  thn (a1.ag[i8]?) λe9 =>
  cA (s8.length+1<=68719476736) <|
  afV (s8++[(⟨e9.type,(i64.wrap (e9.src+((a0.nodes.length:Nat):Int))),(i64.wrap (e9.dst+((a0.nodes.length:Nat):Int)))⟩:Edge)]))
 (a1.ag.length-0) 0 r7 λs8 =>
 thn (iC 0 ((a0.nodes.length:Nat):Int)) λoZ =>
 thn (iC 0 ((a0.ag.length:Nat):Int)) λqg =>
 thn (iC ((a0.nodes.length:Nat):Int) ((a1.nodes.length:Nat):Int)) λvM =>
 thn (iC ((a0.ag.length:Nat):Int) ((a1.ag.length:Nat):Int)) λr13 =>
 some ((⟨r6,s8⟩:au),(⟨oZ,qg⟩:ah),(⟨vM,r13⟩:ah),0)
def fA(a0:List Int)(a1:List Int)(a2:Int):Option (List Int) :=
 thn (bp a0) λr3 =>
 cA (a1.length<=fuel) <|
 bH (λi4 (s4:(List Int)) kg pT =>
  thn (a1[i4]?) λe5 =>
  cA (s4.length+1<=68719476736) <|
  kg (s4++[(i64.wrap (e5+a2))]))
 (a1.length-0) 0 r3 λs4 =>
 some s4
def jS(a0:aF)(a1:aF):Option (aF×ah×ah×Int) :=
 thn (iU (i64.wrap (((a0.left.graph.nodes.length:Nat):Int)+((a1.left.graph.nodes.length:Nat):Int))) (i64.wrap (((a0.left.graph.ag.length:Nat):Int)+((a1.left.graph.ag.length:Nat):Int)))) λr2 =>
 cond r2 (
  some ((⟨(⟨#[]⟩:ByteArray),(⟨(⟨([]:List Int),([]:List Edge)⟩:au),([]:List aG),0,([]:List aH)⟩:ak),(⟨(⟨([]:List Int),([]:List Edge)⟩:au),([]:List aG),0,([]:List aH)⟩:ak),(⟨([]:List Int),([]:List Int)⟩:aO),(⟨([]:List Int),([]:List Int)⟩:ah),false,(⟨0,([]:List aj),(⟨([]:List Int),([]:List Int)⟩:ah),(⟨(⟨([]:List Int),([]:List Edge)⟩:au),([]:List aG),0,([]:List aH)⟩:ak)⟩:aj)⟩:aF),(⟨([]:List Int),([]:List Int)⟩:ah),(⟨([]:List Int),([]:List Int)⟩:ah),3)) <|
 thn (iU (i64.wrap (((a0.right.graph.nodes.length:Nat):Int)+((a1.right.graph.nodes.length:Nat):Int))) (i64.wrap (((a0.right.graph.ag.length:Nat):Int)+((a1.right.graph.ag.length:Nat):Int)))) λr3 =>
 cond r3 (
  some ((⟨(⟨#[]⟩:ByteArray),(⟨(⟨([]:List Int),([]:List Edge)⟩:au),([]:List aG),0,([]:List aH)⟩:ak),(⟨(⟨([]:List Int),([]:List Edge)⟩:au),([]:List aG),0,([]:List aH)⟩:ak),(⟨([]:List Int),([]:List Int)⟩:aO),(⟨([]:List Int),([]:List Int)⟩:ah),false,(⟨0,([]:List aj),(⟨([]:List Int),([]:List Int)⟩:ah),(⟨(⟨([]:List Int),([]:List Edge)⟩:au),([]:List aG),0,([]:List aH)⟩:ak)⟩:aj)⟩:aF),(⟨([]:List Int),([]:List Int)⟩:ah),(⟨([]:List Int),([]:List Int)⟩:ah),3)) <|
 thn (mL a0.left.graph a1.left.graph) λr4 =>
 cond (decide (r4.2.2.2=0)) (
  thn (mL a0.right.graph a1.right.graph) λr5 =>
  cond (decide (r5.2.2.2=0)) (
   thn (fA a0.keep.nodes a1.keep.nodes ((a0.left.graph.nodes.length:Nat):Int)) λr6 =>
   thn (fA a0.keep.ag a1.keep.ag ((a0.left.graph.ag.length:Nat):Int)) λr7 =>
   thn (fA a0.into.nodes a1.into.nodes ((a0.right.graph.nodes.length:Nat):Int)) λr8 =>
   thn (fA a0.into.ag a1.into.ag ((a0.right.graph.ag.length:Nat):Int)) λr9 =>
   some ((⟨a0.name,(⟨r4.1,([]:List aG),0,([]:List aH)⟩:ak),(⟨r5.1,([]:List aG),0,([]:List aH)⟩:ak),(⟨r6,r7⟩:aO),(⟨r8,r9⟩:ah),false,(⟨1,([]:List aj),(⟨([]:List Int),([]:List Int)⟩:ah),(⟨(⟨([]:List Int),([]:List Edge)⟩:au),([]:List aG),0,([]:List aH)⟩:ak)⟩:aj)⟩:aF),r4.2.1,r4.2.2.1,0)) <|
  some ((⟨(⟨#[]⟩:ByteArray),(⟨(⟨([]:List Int),([]:List Edge)⟩:au),([]:List aG),0,([]:List aH)⟩:ak),(⟨(⟨([]:List Int),([]:List Edge)⟩:au),([]:List aG),0,([]:List aH)⟩:ak),(⟨([]:List Int),([]:List Int)⟩:aO),(⟨([]:List Int),([]:List Int)⟩:ah),false,(⟨0,([]:List aj),(⟨([]:List Int),([]:List Int)⟩:ah),(⟨(⟨([]:List Int),([]:List Edge)⟩:au),([]:List aG),0,([]:List aH)⟩:ak)⟩:aj)⟩:aF),(⟨([]:List Int),([]:List Int)⟩:ah),(⟨([]:List Int),([]:List Int)⟩:ah),r5.2.2.2)) <|
 some ((⟨⟨#[]⟩,⟨⟨[],[]⟩,[],0,[]⟩,⟨⟨[],[]⟩,[],0,[]⟩,⟨[],[]⟩,⟨[],[]⟩,false,⟨0,[],⟨[],[]⟩,⟨⟨[],[]⟩,[],0,[]⟩⟩⟩:aF),(⟨[],[]⟩:ah),(⟨[],[]⟩:ah),r4.2.2.2)
def gL(a0:Types)(a1:aF)(a2:aF):Option (aF×ah×ah×Int) :=
 thn (iT (⟨a0.nodes,a0.ag⟩:Types) (⟨a1.name,a1.left,a1.right,a1.keep,a1.into,a1.injective,a1.condition⟩:aF) (⟨a2.name,a2.left,a2.right,a2.keep,a2.into,a2.injective,a2.condition⟩:aF)) λr3 =>
 cond (decide (r3=0)) (
  thn (jS a1 (⟨a2.name,a2.left,a2.right,a2.keep,a2.into,a2.injective,a2.condition⟩:aF)) λr4 =>
  some (r4.1,r4.2.1,r4.2.2.1,r4.2.2.2)) <|
 some ((⟨⟨#[]⟩,⟨⟨[],[]⟩,[],0,[]⟩,⟨⟨[],[]⟩,[],0,[]⟩,⟨[],[]⟩,⟨[],[]⟩,false,⟨0,[],⟨[],[]⟩,⟨⟨[],[]⟩,[],0,[]⟩⟩⟩:aF),(⟨[],[]⟩:ah),(⟨[],[]⟩:ah),r3)
def jT(a0:Int)(a1:List Int)(a2:List Int):Option Bool :=
 cA (a0.toNat<=fuel) <|
 bH (λi3 (s3:Unit) eG n8 =>
  thn (bC a1 ((i3:Nat):Int)) λr4 =>
  cond r4 (
   eG ()) <|
  thn (bC a2 ((i3:Nat):Int)) λr5 =>
  cond r5 (
   eG ()) <|
  some false)
 (a0.toNat-0) 0 () λs3 =>
 some true
def lJ(a0:au)(a1:au)(a2:au)(a3:ah)(a4:ah):Option Bool :=
 thn (b7 a0 a2 a3) λr5 =>
 cond (decide (r5=0)) (
  thn (b7 a1 a2 a4) λr6 =>
  cond (decide (r6=0)) (
   thn (jT ((a2.nodes.length:Nat):Int) a3.nodes a4.nodes) λr7 =>
   cond r7 (
    thn (jT ((a2.ag.length:Nat):Int) a3.ag a4.ag) λr8 =>
    some r8) <|
   some false) <|
  some false) <|
 some false
def gd(a0:Int)(a1:List Int)(a2:List Int):Option (List Int) :=
 cA (0<=a0/\a0<=68719476736) <|
 cA (a1.length<=fuel) <|
 bH (λi3 (s3:(List Int)) eG n8 =>
  thn (a1[i3]?) λe4 =>
  thn (jd s3 e4) λe5 =>
  thn (bC a2 ((i3:Nat):Int)) λr6 =>
  cond r6 (
   thn (jd (s3.set e4.toNat 2) e4) λe7 =>
   eG ((s3.set e4.toNat 2).set e4.toNat 1)) <|
  eG (s3.set e4.toNat 2))
 (a1.length-0) 0 (List.replicate a0.toNat 0) λs3 =>
 some s3
def gM(a0:List Int)(a1:List Int):Option ((List Int)×Bool) :=
 cA (a0.length<=fuel) <|
 bH (λi2 (s2:(List Int)) bU gT =>
  thn (a0[i2]?) λe3 =>
  cond (decide (0<e3)) (
   thn (a1[i2]?) λe4 =>
   cond (decide (0<e4)) (
    cond (decide (e3=e4)) (
     cond (decide ((max e3 e4)<2)) (
      cA (s2.length+1<=68719476736) <|
      bU (s2++[((i2:Nat):Int)])) <|
     bU s2) <|
    some (([]:List Int),false)) <|
   cond (decide ((max e3 e4)<2)) (
    cA (s2.length+1<=68719476736) <|
    bU (s2++[((i2:Nat):Int)])) <|
   bU s2) <|
  thn (a1[i2]?) λe5 =>
  cond (decide ((max e3 e5)<2)) (
   cA (s2.length+1<=68719476736) <|
   bU (s2++[((i2:Nat):Int)])) <|
  bU s2)
 (a0.length-0) 0 ([]:List Int) λs2 =>
 some (s2,true)
def jl(a0:aO):Option ah :=
 cA (a0.nodes.length<=fuel) <|
 bH (λi1 (s1:(List Int)) sE afX =>
  cA (s1.length+1<=68719476736) <|
  sE (s1++[((i1:Nat):Int)]))
 (a0.nodes.length-0) 0 ([]:List Int) λs1 =>
 cA (a0.ag.length<=fuel) <|
 bH (λi2 (s2:(List Int)) bU gT =>
  cA (s2.length+1<=68719476736) <|
  bU (s2++[((i2:Nat):Int)]))
 (a0.ag.length-0) 0 ([]:List Int) λs2 =>
 some (⟨s1,s2⟩:ah)
def gh(a0:Types)(a1:aF)(a2:aF)(a3:cM):Option (aF×Int) :=
 thn (iT a0 a1 a2) λr4 =>
 cond (decide (r4=0)) (
  thn (b7 a1.left.graph a3.graph a3.left) λr5 =>
  cond (decide (r5=0)) (
   thn (b7 a2.left.graph a3.graph a3.right) λr6 =>
   cond (decide (r6=0)) (
    thn (c8 a1.left.graph a3.graph a3.left) λr7 =>
    cond r7 (
     thn (c8 a2.left.graph a3.graph a3.right) λr8 =>
     cond r8 (
      thn (lJ a1.left.graph a2.left.graph a3.graph a3.left a3.right) λr9 =>
      cond r9 (
       thn (gd ((a3.graph.nodes.length:Nat):Int) a3.left.nodes a1.keep.nodes) λoZ =>
       thn (gd ((a3.graph.nodes.length:Nat):Int) a3.right.nodes a2.keep.nodes) λqg =>
       thn (gM oZ qg) λvM =>
       thn (gd ((a3.graph.ag.length:Nat):Int) a3.left.ag a1.keep.ag) λr13 =>
       thn (gd ((a3.graph.ag.length:Nat):Int) a3.right.ag a2.keep.ag) λr14 =>
       thn (gM r13 r14) λr15 =>
       cond vM.2 (
        cond r15.2 (
         thn (dQ a3.graph (⟨vM.1,r15.1⟩:aO)) λr16 =>
         cond (decide (r16.2.2=0)) (
          thn (gn r16.1 a1 a3.left (⟨vM.1,r15.1⟩:aO)) λr17 =>
          thn (gn (⟨r17.1,r17.2⟩:au) a2 a3.right (⟨vM.1,r15.1⟩:aO)) λr18 =>
          thn (iU ((r18.1.length:Nat):Int) ((r18.2.length:Nat):Int)) λr19 =>
          cond r19 (
           some ((⟨(⟨#[]⟩:ByteArray),(⟨(⟨([]:List Int),([]:List Edge)⟩:au),([]:List aG),0,([]:List aH)⟩:ak),(⟨(⟨([]:List Int),([]:List Edge)⟩:au),([]:List aG),0,([]:List aH)⟩:ak),(⟨([]:List Int),([]:List Int)⟩:aO),(⟨([]:List Int),([]:List Int)⟩:ah),false,(⟨0,([]:List aj),(⟨([]:List Int),([]:List Int)⟩:ah),(⟨(⟨([]:List Int),([]:List Edge)⟩:au),([]:List aG),0,([]:List aH)⟩:ak)⟩:aj)⟩:aF),3)) <|
          thn (bp a3.graph.nodes) λr20 =>
          thn (iA a3.graph.ag) λr21 =>
          thn (jl (⟨vM.1,r15.1⟩:aO)) λr22 =>
          cond a1.injective (
           some ((⟨a1.name,(⟨(⟨r20,r21⟩:au),([]:List aG),0,([]:List aH)⟩:ak),(⟨(⟨r18.1,r18.2⟩:au),([]:List aG),0,([]:List aH)⟩:ak),(⟨vM.1,r15.1⟩:aO),r22,a2.injective,(⟨1,([]:List aj),(⟨([]:List Int),([]:List Int)⟩:ah),(⟨(⟨([]:List Int),([]:List Edge)⟩:au),([]:List aG),0,([]:List aH)⟩:ak)⟩:aj)⟩:aF),0)) <|
          some ((⟨a1.name,(⟨(⟨r20,r21⟩:au),([]:List aG),0,([]:List aH)⟩:ak),(⟨(⟨r18.1,r18.2⟩:au),([]:List aG),0,([]:List aH)⟩:ak),(⟨vM.1,r15.1⟩:aO),r22,false,(⟨1,([]:List aj),(⟨([]:List Int),([]:List Int)⟩:ah),(⟨(⟨([]:List Int),([]:List Edge)⟩:au),([]:List aG),0,([]:List aH)⟩:ak)⟩:aj)⟩:aF),0)) <|
         some ((⟨(⟨#[]⟩:ByteArray),(⟨(⟨([]:List Int),([]:List Edge)⟩:au),([]:List aG),0,([]:List aH)⟩:ak),(⟨(⟨([]:List Int),([]:List Edge)⟩:au),([]:List aG),0,([]:List aH)⟩:ak),(⟨([]:List Int),([]:List Int)⟩:aO),(⟨([]:List Int),([]:List Int)⟩:ah),false,(⟨0,([]:List aj),(⟨([]:List Int),([]:List Int)⟩:ah),(⟨(⟨([]:List Int),([]:List Edge)⟩:au),([]:List aG),0,([]:List aH)⟩:ak)⟩:aj)⟩:aF),r16.2.2)) <|
        some ((⟨(⟨#[]⟩:ByteArray),(⟨(⟨([]:List Int),([]:List Edge)⟩:au),([]:List aG),0,([]:List aH)⟩:ak),(⟨(⟨([]:List Int),([]:List Edge)⟩:au),([]:List aG),0,([]:List aH)⟩:ak),(⟨([]:List Int),([]:List Int)⟩:aO),(⟨([]:List Int),([]:List Int)⟩:ah),false,(⟨0,([]:List aj),(⟨([]:List Int),([]:List Int)⟩:ah),(⟨(⟨([]:List Int),([]:List Edge)⟩:au),([]:List aG),0,([]:List aH)⟩:ak)⟩:aj)⟩:aF),11)) <|
       some ((⟨(⟨#[]⟩:ByteArray),(⟨(⟨([]:List Int),([]:List Edge)⟩:au),([]:List aG),0,([]:List aH)⟩:ak),(⟨(⟨([]:List Int),([]:List Edge)⟩:au),([]:List aG),0,([]:List aH)⟩:ak),(⟨([]:List Int),([]:List Int)⟩:aO),(⟨([]:List Int),([]:List Int)⟩:ah),false,(⟨0,([]:List aj),(⟨([]:List Int),([]:List Int)⟩:ah),(⟨(⟨([]:List Int),([]:List Edge)⟩:au),([]:List aG),0,([]:List aH)⟩:ak)⟩:aj)⟩:aF),11)) <|
      some ((⟨(⟨#[]⟩:ByteArray),(⟨(⟨([]:List Int),([]:List Edge)⟩:au),([]:List aG),0,([]:List aH)⟩:ak),(⟨(⟨([]:List Int),([]:List Edge)⟩:au),([]:List aG),0,([]:List aH)⟩:ak),(⟨([]:List Int),([]:List Int)⟩:aO),(⟨([]:List Int),([]:List Int)⟩:ah),false,(⟨0,([]:List aj),(⟨([]:List Int),([]:List Int)⟩:ah),(⟨(⟨([]:List Int),([]:List Edge)⟩:au),([]:List aG),0,([]:List aH)⟩:ak)⟩:aj)⟩:aF),1)) <|
     some ((⟨(⟨#[]⟩:ByteArray),(⟨(⟨([]:List Int),([]:List Edge)⟩:au),([]:List aG),0,([]:List aH)⟩:ak),(⟨(⟨([]:List Int),([]:List Edge)⟩:au),([]:List aG),0,([]:List aH)⟩:ak),(⟨([]:List Int),([]:List Int)⟩:aO),(⟨([]:List Int),([]:List Int)⟩:ah),false,(⟨0,([]:List aj),(⟨([]:List Int),([]:List Int)⟩:ah),(⟨(⟨([]:List Int),([]:List Edge)⟩:au),([]:List aG),0,([]:List aH)⟩:ak)⟩:aj)⟩:aF),1)) <|
    some ((⟨(⟨#[]⟩:ByteArray),(⟨(⟨([]:List Int),([]:List Edge)⟩:au),([]:List aG),0,([]:List aH)⟩:ak),(⟨(⟨([]:List Int),([]:List Edge)⟩:au),([]:List aG),0,([]:List aH)⟩:ak),(⟨([]:List Int),([]:List Int)⟩:aO),(⟨([]:List Int),([]:List Int)⟩:ah),false,(⟨0,([]:List aj),(⟨([]:List Int),([]:List Int)⟩:ah),(⟨(⟨([]:List Int),([]:List Edge)⟩:au),([]:List aG),0,([]:List aH)⟩:ak)⟩:aj)⟩:aF),1)) <|
   some ((⟨(⟨#[]⟩:ByteArray),(⟨(⟨([]:List Int),([]:List Edge)⟩:au),([]:List aG),0,([]:List aH)⟩:ak),(⟨(⟨([]:List Int),([]:List Edge)⟩:au),([]:List aG),0,([]:List aH)⟩:ak),(⟨([]:List Int),([]:List Int)⟩:aO),(⟨([]:List Int),([]:List Int)⟩:ah),false,(⟨0,([]:List aj),(⟨([]:List Int),([]:List Int)⟩:ah),(⟨(⟨([]:List Int),([]:List Edge)⟩:au),([]:List aG),0,([]:List aH)⟩:ak)⟩:aj)⟩:aF),r6)) <|
  some ((⟨(⟨#[]⟩:ByteArray),(⟨(⟨([]:List Int),([]:List Edge)⟩:au),([]:List aG),0,([]:List aH)⟩:ak),(⟨(⟨([]:List Int),([]:List Edge)⟩:au),([]:List aG),0,([]:List aH)⟩:ak),(⟨([]:List Int),([]:List Int)⟩:aO),(⟨([]:List Int),([]:List Int)⟩:ah),false,(⟨0,([]:List aj),(⟨([]:List Int),([]:List Int)⟩:ah),(⟨(⟨([]:List Int),([]:List Edge)⟩:au),([]:List aG),0,([]:List aH)⟩:ak)⟩:aj)⟩:aF),r5)) <|
 some ((⟨⟨#[]⟩,⟨⟨[],[]⟩,[],0,[]⟩,⟨⟨[],[]⟩,[],0,[]⟩,⟨[],[]⟩,⟨[],[]⟩,false,⟨0,[],⟨[],[]⟩,⟨⟨[],[]⟩,[],0,[]⟩⟩⟩:aF),r4)
def bu(a0:List Int)(a1:List Int):Option Bool :=
 cond (decide (((a0.length:Nat):Int)=((a1.length:Nat):Int))) (
  cA (a0.length<=fuel) <|
  bH (λi2 (s2:Unit) bU gT =>
   thn (a0[i2]?) λe3 =>
   thn (a1[i2]?) λe4 =>
   cond (decide (e3=e4)) (
    bU ()) <|
   some false)
  (a0.length-0) 0 () λs2 =>
  some true) <|
 some false
def xM(a0:Types)(a1:aF)(a2:Host):Option Int :=
 thn (kS a0) λr3 =>
 cond (decide (r3.2=0)) (
  thn (mh a0 a1) λr4 =>
  cond (decide (r4=0)) (
   thn (sO a0 a2) λr5 =>
   some r5.2) <|
  some r4) <|
 some r3.2
def mT(a0:Int)(a1:Types):Option Bool:=some (decide (((a1.nodes.length:Nat):Int)<=a0))
def mU(a0:Edge)(a1:Types):Option Bool:=some (decide (((a1.ag.length:Nat):Int)<=a0.type))
def oF(a0:Types)(a1:au):Option Bool :=
 thn (cy a1.nodes (λx2=>mT x2 (⟨a0.nodes,a0.ag⟩:Types))) λr3 =>
 cond r3 (
  some false) <|
 thn (dx a1.ag (λx4=>mU x4 (⟨a0.nodes,a0.ag⟩:Types))) λr5 =>
 some (!r5)
def pU(a0:Types)(a1:au)(a2:au):Option Int :=
 thn (kS a0) λr3 =>
 cond (decide (r3.2=0)) (
  thn (some [a1,a2]) λl4 =>
  cA (2<=fuel) <|
  bH (λi5 (s5:Unit) tY afW =>
   thn (l4[i5]?) λe6 =>
   thn (eL e6) λr7 =>
   cond (decide (r7=0)) (
    tY ()) <|
   some r7)
  (2-0) 0 () λs5 =>
  thn (oF (⟨a0.nodes,a0.ag⟩:Types) (⟨a1.nodes,a1.ag⟩:au)) λr8 =>
  cond r8 (
   thn (oF (⟨a0.nodes,a0.ag⟩:Types) a2) λr9 =>
   cond r9 (
    some 0) <|
   some 13) <|
  some 13) <|
 some r3.2
def vN(a0:Types)(a1:Int):Option ((List Int)×Int) :=
 thn (aba a0 [a1]) λr2 =>
 cond (decide (r2=0)) (
  cA (a0.nodes.length<=fuel) <|
  bH (λi3 (s3:(List Int)) eG n8 =>
   thn (afO a0 ((i3:Nat):Int) a1) λr4 =>
   cond r4 (
    cA (s3.length+1<=68719476736) <|
    eG (s3++[((i3:Nat):Int)])) <|
   eG s3)
  (a0.nodes.length-0) 0 ([]:List Int) λs3 =>
  some (s3,0)) <|
 some (([]:List Int),r2)
def tZ(a0:Types):Option (List (List Bool)) :=
 cA (a0.nodes.length<=fuel) <|
 bH (λi1 (s1:(List (List Bool))) sE afX =>
  cA (a0.nodes.length<=68719476736) <|
  thn (vN a0 ((i1:Nat):Int)) λr2 =>
  cA (r2.1.length<=fuel) <|
  bH (λi3 (s3:(List Bool)) eG n8 =>
   thn (r2.1[i3]?) λe4 =>
   thn (jd s3 e4) λe5 =>
   eG (s3.set e4.toNat true))
  (r2.1.length-0) 0 (List.replicate a0.nodes.length false) λs3 =>
  cA (s1.length+1<=68719476736) <|
  sE (s1++[s3]))
 (a0.nodes.length-0) 0 ([]:List (List Bool)) λs1 =>
 some s1
def pW(a0:Types)(a1:au)(a2:au)(a3:ah):Option Int :=
 cond (decide (((a3.nodes.length:Nat):Int)=((a1.nodes.length:Nat):Int))) (
  cond (decide (((a3.ag.length:Nat):Int)=((a1.ag.length:Nat):Int))) (
   thn (tZ a0) λr4 =>
   cA (a3.nodes.length<=fuel) <|
   bH (λi5 (s5:Unit) tY afW =>
    thn (a3.nodes[i5]?) λe6 =>
    cond (decide (e6<0)) (
     some 6) <|
    cond (decide (((a2.nodes.length:Nat):Int)<=e6)) (
     some 6) <|
    thn (a1.nodes[i5]?) λe7 =>
    thn (jd r4 e7) λe8 =>
    thn (jd a2.nodes e6) λe9 =>
    thn (jd e8 e9) λsS =>
    cond sS (
     tY ()) <|
    some 13)
   (a3.nodes.length-0) 0 () λs5 =>
   cA (a3.ag.length<=fuel) <|
   bH (λi11 (s11:Unit) aAu aFu =>
    thn (a3.ag[i11]?) λe12 =>
    cond (decide (e12<0)) (
     some 6) <|
    cond (decide (((a2.ag.length:Nat):Int)<=e12)) (
     some 6) <|
    thn (a1.ag[i11]?) λe13 =>
    thn (jd a2.ag e12) λe14 =>
    cond (decide (e13.type=e14.type)) (
     thn (jd a3.nodes e13.src) λe15 =>
     cond (decide (e15=e14.src)) (
      thn (jd a3.nodes e13.dst) λe16 =>
      cond (decide (e16=e14.dst)) (
       aAu ()) <|
      some 11) <|
     some 11) <|
    some 13)
   (a3.ag.length-0) 0 () λs11 =>
   some 0) <|
  some 20) <|
 some 20
def nx(a0:Types)(a1:au)(a2:au)(a3:ah)(a4:Bool):Option Int :=
 thn (pU (⟨a0.nodes,a0.ag⟩:Types) (⟨a1.nodes,a1.ag⟩:au) a2) λr5 =>
 cond (decide (r5=0)) (
  thn (pW a0 (⟨a1.nodes,a1.ag⟩:au) a2 a3) λr6 =>
  cond (decide (r6=0)) (
   cond a4 (
    thn (tW a3.nodes) λr7 =>
    cond r7 (
     some 5) <|
    thn (tW a3.ag) λr8 =>
    cond r8 (
     some 5) <|
    some 0) <|
   some 0) <|
  some r6) <|
 some r5
def pX(a0:Types)(a1:ak)(a2:Host):Option Int :=
 thn (fZ a0 a1) λr3 =>
 cond (decide (r3=0)) (
  thn (sO a0 a2) λr4 =>
  some r4.2) <|
 some r3
def kM(a0:pP)(a1:List Int):Option Int :=
 cond (decide (a0.var<0)) (
  some a0.add) <|
 thn (jd a1 a0.var) λe2 =>
 some (i64.wrap (e2+a0.add))
def oM(a0:aH)(a1:List Int):Option Bool:=none
def pY(a0:ak)(a1:Host)(a2:ah):Option ((List Int)×Int) :=
 cA (0<=a0.vars/\a0.vars<=68719476736) <|
 cA (0<=a0.vars/\a0.vars<=68719476736) <|
 cA (a0.slots.length<=fuel) <|
 bH (λi3 (s3:(List Bool)×(List Int)) eG n8 =>
  thn (a0.slots[i3]?) λe4 =>
  thn (jd a2.nodes e4.node) λe5 =>
  thn (jd a1.values e5) λe6 =>
  thn (jd e6 e4.attr) λe7 =>
  cond (decide (0<=e4.term.var)) (
   thn (jd s3.1 e4.term.var) λe8 =>
   cond e8 (
    thn (kM e4.term s3.2) λr9 =>
    cond (decide (r9=e7)) (
     eG (s3.1,s3.2)) <|
    some (([]:List Int),11)) <|
   thn (jd s3.2 e4.term.var) λsS =>
   thn (kM e4.term (s3.2.set e4.term.var.toNat (i64.wrap (e7-e4.term.add)))) λqg =>
   cond (decide (qg=e7)) (
    eG ((s3.1.set e4.term.var.toNat true),(s3.2.set e4.term.var.toNat (i64.wrap (e7-e4.term.add))))) <|
   some (([]:List Int),11)) <|
  thn (kM e4.term s3.2) λvM =>
  cond (decide (vM=e7)) (
   eG (s3.1,s3.2)) <|
  some (([]:List Int),11))
 (a0.slots.length-0) 0 ((List.replicate a0.vars.toNat false),(List.replicate a0.vars.toNat 0)) λs3 =>
 cA (a0.tests.length<=fuel) <|
 bH (λi13 (s13:Unit) ajp aAv =>
  thn (a0.tests[i13]?) λe14 =>
  thn (oM e14 s3.2) λr15 =>
  cond r15 (
   ajp ()) <|
  some (([]:List Int),16))
 (a0.tests.length-0) 0 () λs13 =>
 some (s3.2,0)
def mV(a0:Types)(a1:ak)(a2:Host)(a3:ah):Option ((List Int)×Int) :=
 thn (pX a0 a1 a2) λr4 =>
 cond (decide (r4=0)) (
  thn (nx a0 a1.graph a2.graph a3 false) λr5 =>
  cond (decide (r5=0)) (
   thn (pY (⟨a1.graph,a1.slots,a1.vars,a1.tests⟩:ak) (⟨a2.graph,a2.values⟩:Host) a3) λr6 =>
   some (r6.1,r6.2)) <|
  some (([]:List Int),r5)) <|
 some (([]:List Int),r4)
def uc(a0:Types)(a1:aF)(a2:Host)(a3:aS):Option Int :=
 thn (nx a0 a1.left.graph a2.graph a3.aK a1.injective) λr4 =>
 cond (decide (r4=0)) (
  thn (mV (⟨a0.nodes,a0.ag⟩:Types) a1.left (⟨a2.graph,a2.values⟩:Host) a3.aK) λr5 =>
  cond (decide (r5.2=0)) (
   thn (bu r5.1 a3.vars) λr6 =>
   cond r6 (
    some 0) <|
   some 11) <|
  some r5.2) <|
 some 1
def pZ(a0:Types)(a1:au)(a2:au)(a3:ah):Option (au×Int) :=
 thn (pU a0 a1 a2) λr4 =>
 cond (decide (r4=0)) (
  thn (pW a0 a1 a2 a3) λr5 =>
  cond (decide (r5=0)) (
   thn (iA a1.ag) λr6 =>
   cA (a3.nodes.length<=fuel) <|
   bH (λi7 (s7:(List Int)) abd apU =>
    thn (a3.nodes[i7]?) λe8 =>
    thn (jd a2.nodes e8) λe9 =>
    cA (s7.length+1<=68719476736) <|
    abd (s7++[e9]))
   (a3.nodes.length-0) 0 ([]:List Int) λs7 =>
   some ((⟨s7,r6⟩:au),0)) <|
  some ((⟨([]:List Int),([]:List Edge)⟩:au),r5)) <|
 some ((⟨[],[]⟩:au),r4)
def kz(a0:cE):Option Int :=
 thn (b7 a0.l a0.g a0.m) λr1 =>
 cond (decide (r1=0)) (
  thn (iS a0.l a0.keep) λr2 =>
  some r2) <|
 some r1
def mj(a0:List Int)(a1:List Int):Option (List tF) :=
 cA (a0.length<=fuel) <|
 bH (λi2 (s2:(List tF)) bU gT =>
  iter (λ(s3:Int×(List tF)) eG n8 =>
   cond (decide (s3.1<((a0.length:Nat):Int))) (
    thn (a0[i2]?) λe4 =>
    thn (jd a0 s3.1) λe5 =>
    cond (decide (e4=e5)) (
     thn (bC a1 ((i2:Nat):Int)) λr6 =>
     cond r6 (
      thn (bC a1 s3.1) λr7 =>
      cond r7 (
       eG ((i64.wrap (s3.1+1)),s3.2)) <|
      cA (s3.2.length+1<=68719476736) <|
      eG ((i64.wrap (s3.1+1)),(s3.2++[(⟨((i2:Nat):Int),s3.1⟩:tF)]))) <|
     cA (s3.2.length+1<=68719476736) <|
     eG ((i64.wrap (s3.1+1)),(s3.2++[(⟨((i2:Nat):Int),s3.1⟩:tF)]))) <|
    eG ((i64.wrap (s3.1+1)),s3.2)) <|
   n8 (s3.1,s3.2))
  fuel ((i64.wrap (((i2:Nat):Int)+1)),s2) λs3 =>
  bU s3.2)
 (a0.length-0) 0 ([]:List tF) λs2 =>
 some s2
def iV(a0:cE):Option ((List tF)×(List tF)) :=
 thn (mj a0.m.nodes a0.keep.nodes) λr1 =>
 thn (mj a0.m.ag a0.keep.ag) λr2 =>
 some (r1,r2)
def jM(a0:cE):Option (List Int) :=
 cA (a0.m.nodes.length<=fuel) <|
 bH (λi1 (s1:(List Int)) sE afX =>
  thn (a0.m.nodes[i1]?) λe2 =>
  thn (bC a0.keep.nodes ((i1:Nat):Int)) λr3 =>
  cond r3 (
   sE s1) <|
  cA (s1.length+1<=68719476736) <|
  sE (s1++[e2]))
 (a0.m.nodes.length-0) 0 ([]:List Int) λs1 =>
 some s1
def jC(a0:cE):Option (List Int) :=
 thn (jM a0) λr1 =>
 cA (a0.g.ag.length<=fuel) <|
 bH (λi2 (s2:(List Int)) bU gT =>
  thn (a0.g.ag[i2]?) λe3 =>
  thn (bC a0.m.ag ((i2:Nat):Int)) λr4 =>
  cond r4 (
   bU s2) <|
  thn (bC r1 e3.src) λr5 =>
  cond r5 (
   cA (s2.length+1<=68719476736) <|
   bU (s2++[((i2:Nat):Int)])) <|
  thn (bC r1 e3.dst) λr6 =>
  cond r6 (
   cA (s2.length+1<=68719476736) <|
   bU (s2++[((i2:Nat):Int)])) <|
  bU s2)
 (a0.g.ag.length-0) 0 ([]:List Int) λs2 =>
 some s2
def mW(a0:Int)(a1:List Int)(a2:List Int):Option (List Int) :=
 cA (0<=a0/\a0<=68719476736) <|
 cA (a1.length<=fuel) <|
 bH (λi3 (s3:(List Bool)) eG n8 =>
  thn (a1[i3]?) λe4 =>
  thn (bC a2 ((i3:Nat):Int)) λr5 =>
  cond r5 (
   eG s3) <|
  thn (jd s3 e4) λe6 =>
  eG (s3.set e4.toNat true))
 (a1.length-0) 0 (List.replicate a0.toNat false) λs3 =>
 cA (s3.length<=fuel) <|
 bH (λi7 (s7:(List Int)) abd apU =>
  thn (s3[i7]?) λe8 =>
  cond e8 (
   abd s7) <|
  cA (s7.length+1<=68719476736) <|
  abd (s7++[((i7:Nat):Int)]))
 (s3.length-0) 0 ([]:List Int) λs7 =>
 some s7
def rY(a0:au)(a1:au)(a2:aO)(a3:ah):Option (aO×Int) :=
 thn (kz (⟨a0,a1,a2,a3⟩:cE)) λr4 =>
 cond (decide (r4=0)) (
  thn (iV (⟨a0,a1,a2,a3⟩:cE)) λr5 =>
  cond (decide (0<(i64.wrap (((r5.1.length:Nat):Int)+((r5.2.length:Nat):Int))))) (
   some ((⟨([]:List Int),([]:List Int)⟩:aO),15)) <|
  thn (jC (⟨a0,a1,a2,a3⟩:cE)) λr6 =>
  cond (decide (0<((r6.length:Nat):Int))) (
   some ((⟨([]:List Int),([]:List Int)⟩:aO),14)) <|
  thn (mW ((a1.nodes.length:Nat):Int) a3.nodes a2.nodes) λr7 =>
  thn (mW ((a1.ag.length:Nat):Int) a3.ag a2.ag) λr8 =>
  some ((⟨r7,r8⟩:aO),0)) <|
 some ((⟨[],[]⟩:aO),r4)
def p0(a0:Types)(a1:ak)(a2:aj)(a3:Host)(a4:aS)(a5:Bool):Option Int :=
 thn (jt a0 a1 a2) λr6 =>
 cond (decide (r6=0)) (
  thn (sO a0 a3) λr7 =>
  cond (decide (r7.2=0)) (
   thn (nx a0 a1.graph a3.graph a4.aK a5) λr8 =>
   cond (decide (r8=0)) (
    thn (mV a0 a1 a3 a4.aK) λr9 =>
    cond (decide (r9.2=0)) (
     thn (bu r9.1 a4.vars) λoZ =>
     cond oZ (
      some 0) <|
     some 11) <|
    some r9.2) <|
   some r8) <|
  some r7.2) <|
 some r6
def jZ(a0:jq)(a1:aj)(a2:aS):Option (eX×Int):=none
def ez:Nat->jq->aj->aS ->  Option (eX×Int)
  |0,_,_,_=>none
  |n+1,a0,a1,a2 =>
    cond (decide (a1.kind=2)) (
     thn (a1.kids[0]?) λe3 =>
     thn (ez n a0 e3 a2) λr4 =>
     cond (decide (r4.2=0)) (
      some ((⟨0,(⟨(⟨([]:List Int),([]:List Int)⟩:ah),([]:List Int)⟩:aS),([]:List eX)⟩:eX),10)) <|
     cond (decide (r4.2=10)) (
      some ((⟨0,(⟨(⟨([]:List Int),([]:List Int)⟩:ah),([]:List Int)⟩:aS),([]:List eX)⟩:eX),0)) <|
     some ((⟨0,(⟨(⟨([]:List Int),([]:List Int)⟩:ah),([]:List Int)⟩:aS),([]:List eX)⟩:eX),r4.2)) <|
    cond (decide (a1.kind=3)) (
     cA (a1.kids.length<=fuel) <|
     bH (λi5 (s5:(List eX)) tY afW =>
      thn (a1.kids[i5]?) λe6 =>
      thn (ez n a0 e6 a2) λr7 =>
      cond (decide (r7.2=0)) (
       cA (s5.length+1<=68719476736) <|
       tY (s5++[r7.1])) <|
      some ((⟨0,(⟨(⟨([]:List Int),([]:List Int)⟩:ah),([]:List Int)⟩:aS),([]:List eX)⟩:eX),r7.2))
     (a1.kids.length-0) 0 ([]:List eX) λs5 =>
     some ((⟨0,(⟨(⟨([]:List Int),([]:List Int)⟩:ah),([]:List Int)⟩:aS),s5⟩:eX),0)) <|
    cond (decide (a1.kind=4)) (
     cA (a1.kids.length<=fuel) <|
     bH (λi8 (s8:Unit) afV awy =>
      thn (a1.kids[i8]?) λe9 =>
      thn (ez n a0 e9 a2) λoZ =>
      cond (decide (oZ.2=0)) (
       some ((⟨((i8:Nat):Int),(⟨(⟨([]:List Int),([]:List Int)⟩:ah),([]:List Int)⟩:aS),[oZ.1]⟩:eX),0)) <|
      cond (decide (oZ.2=10)) (
       afV ()) <|
      some ((⟨0,(⟨(⟨([]:List Int),([]:List Int)⟩:ah),([]:List Int)⟩:aS),([]:List eX)⟩:eX),oZ.2))
     (a1.kids.length-0) 0 () λs8 =>
     some ((⟨0,(⟨(⟨([]:List Int),([]:List Int)⟩:ah),([]:List Int)⟩:aS),([]:List eX)⟩:eX),10)) <|
    cond (decide (a1.kind=5)) (
     thn (jZ a0 a1 a2) λqg =>
     some (qg.1,qg.2)) <|
    some ((⟨0,⟨⟨[],[]⟩,[]⟩,[]⟩:eX),0)
def oc(a0:Types)(a1:ak)(a2:aj)(a3:Host)(a4:aS)(a5:Bool):Option (eX×Int) :=
 thn (p0 a0 a1 a2 a3 a4 a5) λr6 =>
 cond (decide (r6=0)) (
  thn (ez fuel (⟨⟨a0.nodes,a0.ag⟩,a3,a5⟩:jq) (⟨a2.kind,a2.kids,a2.map,a2.pattern⟩:aj) a4) λr7 =>
  some (r7.1,r7.2)) <|
 some ((⟨0,⟨⟨[],[]⟩,[]⟩,[]⟩:eX),r6)
def mO(a0:Types)(a1:ak)(a2:aj)(a3:Host)(a4:aS)(a5:Bool):Option (Bool×Int) :=
 thn (oc (⟨a0.nodes,a0.ag⟩:Types) (⟨a1.graph,a1.slots,a1.vars,a1.tests⟩:ak) (⟨a2.kind,a2.kids,a2.map,a2.pattern⟩:aj) a3 a4 a5) λr6 =>
 cond (decide (r6.2=10)) (
  some (false,0)) <|
 some ((decide (r6.2=0)),r6.2)
def qL(a0:aS):Option aS :=
 thn (bp a0.aK.nodes) λr1 =>
 thn (bp a0.aK.ag) λr2 =>
 thn (bp a0.vars) λr3 =>
 some (⟨⟨r1,r2⟩,r3⟩:aS)
def rZ(a0:Host):Option Host :=
 thn (bp a0.graph.nodes) λr1 =>
 thn (iA a0.graph.ag) λr2 =>
 cA (a0.values.length<=fuel) <|
 bH (λi3 (s3:(List (List Int))) eG n8 =>
  thn (a0.values[i3]?) λe4 =>
  cA (e4.length<=68719476736) <|
  cA (s3.length+1<=68719476736) <|
  eG (s3++[e4]))
 (a0.values.length-0) 0 ([]:List (List Int)) λs3 =>
 some (⟨⟨r1,r2⟩,s3⟩:Host)
def sU(a0:Int)(a1:List Int):Option (List Int) :=
 cA (0<=a0/\a0<=68719476736) <|
 cA (a0.toNat<=fuel) <|
 bH (λi2 (s2:(List Int)) bU gT =>
  thn (cS a1 ((i2:Nat):Int)) λr3 =>
  cond r3.2 (
   thn (s2[i2]?) λe4 =>
   bU (s2.set i2 r3.1)) <|
  thn (s2[i2]?) λe5 =>
  bU (s2.set i2 (-1)))
 (a0.toNat-0) 0 (List.replicate a0.toNat 0) λs2 =>
 some s2
def p4(a0:Int)(a1:List Int)(a2:List Int)(a3:List Int)(a4:List Int)(a5:Int):Option (List Int) :=
 thn (sC [(-1)] a0) λr6 =>
 cA (a2.length<=fuel) <|
 bH (λi7 (s7:(List Int)) abd apU =>
  thn (a2[i7]?) λe8 =>
  thn (a1[i7]?) λe9 =>
  thn (jd a3 e9) λsS =>
  thn (jd a4 sS) λe11 =>
  thn (jd s7 e8) λe12 =>
  abd (s7.set e8.toNat e11))
 (a2.length-0) 0 r6 λs7 =>
 cA (s7.length<=fuel) <|
 bH (λi13 (s13:Int×(List Int)) ajp aAv =>
  thn (s13.2[i13]?) λe14 =>
  cond (decide (e14<0)) (
   ajp ((i64.wrap (s13.1+1)),(s13.2.set i13 s13.1))) <|
  ajp (s13.1,s13.2))
 (s7.length-0) 0 (a5,s7) λs13 =>
 some s13.2
def xN(a0:Types)(a1:Int):Option (List Int) :=
 thn (oB a0 a1) λr2 =>
 cA (r2.1.length<=fuel) <|
 bH (λi3 (s3:(List Int)) eG n8 =>
  thn (r2.1[i3]?) λe4 =>
  cA (s3.length+1<=68719476736) <|
  eG (s3++[e4.low]))
 (r2.1.length-0) 0 ([]:List Int) λs3 =>
 some s3
def xO(a0:Types)(a1:bB)(a2:aO):Option ((List Int)×(List Edge)×(List (List Int))) :=
 cA (a2.nodes.length<=fuel) <|
 bH (λi3 (s3:(List Int)×(List (List Int))) eG n8 =>
  thn (a2.nodes[i3]?) λe4 =>
  thn (jd a1.before.graph.nodes e4) λe5 =>
  cA (s3.1.length+1<=68719476736) <|
  thn (jd a1.before.values e4) λe6 =>
  cA (e6.length<=68719476736) <|
  cA (s3.2.length+1<=68719476736) <|
  eG ((s3.1++[e5]),(s3.2++[e6])))
 (a2.nodes.length-0) 0 (([]:List Int),([]:List (List Int))) λs3 =>
 cA (a2.ag.length<=fuel) <|
 bH (λi7 (s7:(List Edge)) abd apU =>
  thn (a2.ag[i7]?) λe8 =>
  thn (jd a1.before.graph.ag e8) λe9 =>
  thn (jd a1.lD.nodes e9.src) λsS =>
  thn (jd a1.lD.nodes e9.dst) λe11 =>
  cA (s7.length+1<=68719476736) <|
  abd (s7++[(⟨e9.type,sS,e11⟩:Edge)]))
 (a2.ag.length-0) 0 ([]:List Edge) λs7 =>
 cA (a1.rule.right.graph.nodes.length<=fuel) <|
 bH (λi12 (s12:(List (List Int))×(List Int)) awA aFv =>
  thn (a1.rule.right.graph.nodes[i12]?) λe13 =>
  thn (a1.iZ.nodes[i12]?) λe14 =>
  cond (decide (e14=((s12.2.length:Nat):Int))) (
   cA (s12.2.length+1<=68719476736) <|
   thn (xN a0 e13) λr15 =>
   cA (s12.1.length+1<=68719476736) <|
   awA ((s12.1++[r15]),(s12.2++[e13]))) <|
  awA (s12.1,s12.2))
 (a1.rule.right.graph.nodes.length-0) 0 (s3.2,s3.1) λs12 =>
 cA (a1.rule.right.graph.ag.length<=fuel) <|
 bH (λi16 (s16:(List Edge)) awB aFw =>
  thn (a1.rule.right.graph.ag[i16]?) λe17 =>
  thn (a1.iZ.ag[i16]?) λe18 =>
  cond (decide (e18=((s16.length:Nat):Int))) (
   thn (jd a1.iZ.nodes e17.src) λe19 =>
   thn (jd a1.iZ.nodes e17.dst) λe20 =>
   cA (s16.length+1<=68719476736) <|
   awB (s16++[(⟨e17.type,e19,e20⟩:Edge)])) <|
  awB s16)
 (a1.rule.right.graph.ag.length-0) 0 s7 λs16 =>
 some (s12.2,s16,s12.1)
def xP(a0:Types)(a1:aF)(a2:Host)(a3:aS):Option (bB×Int) :=
 thn (uc a0 a1 a2 a3) λr4 =>
 cond (decide (r4=0)) (
  thn (pZ a0 a1.left.graph a2.graph a3.aK) λr5 =>
  cond (decide (r5.2=0)) (
   thn (rY r5.1 a2.graph a1.keep a3.aK) λr6 =>
   cond (decide (r6.2=0)) (
    thn (mO a0 a1.left a1.condition a2 a3 a1.injective) λr7 =>
    cond (decide (r7.2=0)) (
     cond r7.1 (
      thn (qL a3) λr8 =>
      thn (rZ a2) λr9 =>
      thn (sU ((a2.graph.nodes.length:Nat):Int) r6.1.nodes) λoZ =>
      thn (sU ((a2.graph.ag.length:Nat):Int) r6.1.ag) λqg =>
      thn (p4 ((a1.right.graph.nodes.length:Nat):Int) a1.keep.nodes a1.into.nodes a3.aK.nodes oZ ((r6.1.nodes.length:Nat):Int)) λvM =>
      thn (p4 ((a1.right.graph.ag.length:Nat):Int) a1.keep.ag a1.into.ag a3.aK.ag qg ((r6.1.ag.length:Nat):Int)) λr13 =>
      thn (xO a0 (⟨a1,r8,r9,⟨⟨[],[]⟩,[]⟩,⟨oZ,qg⟩,⟨vM,r13⟩⟩:bB) r6.1) λr14 =>
      cA (a1.right.slots.length=0) <|
      cond (decide (40<((r14.1.length:Nat):Int))) (
       some ((⟨(⟨(⟨#[]⟩:ByteArray),(⟨(⟨([]:List Int),([]:List Edge)⟩:au),([]:List aG),0,([]:List aH)⟩:ak),(⟨(⟨([]:List Int),([]:List Edge)⟩:au),([]:List aG),0,([]:List aH)⟩:ak),(⟨([]:List Int),([]:List Int)⟩:aO),(⟨([]:List Int),([]:List Int)⟩:ah),false,(⟨0,([]:List aj),(⟨([]:List Int),([]:List Int)⟩:ah),(⟨(⟨([]:List Int),([]:List Edge)⟩:au),([]:List aG),0,([]:List aH)⟩:ak)⟩:aj)⟩:aF),(⟨(⟨([]:List Int),([]:List Int)⟩:ah),([]:List Int)⟩:aS),(⟨(⟨([]:List Int),([]:List Edge)⟩:au),([]:List (List Int))⟩:Host),(⟨(⟨([]:List Int),([]:List Edge)⟩:au),([]:List (List Int))⟩:Host),(⟨([]:List Int),([]:List Int)⟩:ah),(⟨([]:List Int),([]:List Int)⟩:ah)⟩:bB),3)) <|
      cond (decide (80<((r14.2.1.length:Nat):Int))) (
       some ((⟨(⟨(⟨#[]⟩:ByteArray),(⟨(⟨([]:List Int),([]:List Edge)⟩:au),([]:List aG),0,([]:List aH)⟩:ak),(⟨(⟨([]:List Int),([]:List Edge)⟩:au),([]:List aG),0,([]:List aH)⟩:ak),(⟨([]:List Int),([]:List Int)⟩:aO),(⟨([]:List Int),([]:List Int)⟩:ah),false,(⟨0,([]:List aj),(⟨([]:List Int),([]:List Int)⟩:ah),(⟨(⟨([]:List Int),([]:List Edge)⟩:au),([]:List aG),0,([]:List aH)⟩:ak)⟩:aj)⟩:aF),(⟨(⟨([]:List Int),([]:List Int)⟩:ah),([]:List Int)⟩:aS),(⟨(⟨([]:List Int),([]:List Edge)⟩:au),([]:List (List Int))⟩:Host),(⟨(⟨([]:List Int),([]:List Edge)⟩:au),([]:List (List Int))⟩:Host),(⟨([]:List Int),([]:List Int)⟩:ah),(⟨([]:List Int),([]:List Int)⟩:ah)⟩:bB),3)) <|
      some ((⟨a1,r8,r9,(⟨(⟨r14.1,r14.2.1⟩:au),r14.2.2⟩:Host),(⟨oZ,qg⟩:ah),(⟨vM,r13⟩:ah)⟩:bB),0)) <|
     some ((⟨(⟨(⟨#[]⟩:ByteArray),(⟨(⟨([]:List Int),([]:List Edge)⟩:au),([]:List aG),0,([]:List aH)⟩:ak),(⟨(⟨([]:List Int),([]:List Edge)⟩:au),([]:List aG),0,([]:List aH)⟩:ak),(⟨([]:List Int),([]:List Int)⟩:aO),(⟨([]:List Int),([]:List Int)⟩:ah),false,(⟨0,([]:List aj),(⟨([]:List Int),([]:List Int)⟩:ah),(⟨(⟨([]:List Int),([]:List Edge)⟩:au),([]:List aG),0,([]:List aH)⟩:ak)⟩:aj)⟩:aF),(⟨(⟨([]:List Int),([]:List Int)⟩:ah),([]:List Int)⟩:aS),(⟨(⟨([]:List Int),([]:List Edge)⟩:au),([]:List (List Int))⟩:Host),(⟨(⟨([]:List Int),([]:List Edge)⟩:au),([]:List (List Int))⟩:Host),(⟨([]:List Int),([]:List Int)⟩:ah),(⟨([]:List Int),([]:List Int)⟩:ah)⟩:bB),16)) <|
    some ((⟨(⟨(⟨#[]⟩:ByteArray),(⟨(⟨([]:List Int),([]:List Edge)⟩:au),([]:List aG),0,([]:List aH)⟩:ak),(⟨(⟨([]:List Int),([]:List Edge)⟩:au),([]:List aG),0,([]:List aH)⟩:ak),(⟨([]:List Int),([]:List Int)⟩:aO),(⟨([]:List Int),([]:List Int)⟩:ah),false,(⟨0,([]:List aj),(⟨([]:List Int),([]:List Int)⟩:ah),(⟨(⟨([]:List Int),([]:List Edge)⟩:au),([]:List aG),0,([]:List aH)⟩:ak)⟩:aj)⟩:aF),(⟨(⟨([]:List Int),([]:List Int)⟩:ah),([]:List Int)⟩:aS),(⟨(⟨([]:List Int),([]:List Edge)⟩:au),([]:List (List Int))⟩:Host),(⟨(⟨([]:List Int),([]:List Edge)⟩:au),([]:List (List Int))⟩:Host),(⟨([]:List Int),([]:List Int)⟩:ah),(⟨([]:List Int),([]:List Int)⟩:ah)⟩:bB),r7.2)) <|
   some ((⟨(⟨(⟨#[]⟩:ByteArray),(⟨(⟨([]:List Int),([]:List Edge)⟩:au),([]:List aG),0,([]:List aH)⟩:ak),(⟨(⟨([]:List Int),([]:List Edge)⟩:au),([]:List aG),0,([]:List aH)⟩:ak),(⟨([]:List Int),([]:List Int)⟩:aO),(⟨([]:List Int),([]:List Int)⟩:ah),false,(⟨0,([]:List aj),(⟨([]:List Int),([]:List Int)⟩:ah),(⟨(⟨([]:List Int),([]:List Edge)⟩:au),([]:List aG),0,([]:List aH)⟩:ak)⟩:aj)⟩:aF),(⟨(⟨([]:List Int),([]:List Int)⟩:ah),([]:List Int)⟩:aS),(⟨(⟨([]:List Int),([]:List Edge)⟩:au),([]:List (List Int))⟩:Host),(⟨(⟨([]:List Int),([]:List Edge)⟩:au),([]:List (List Int))⟩:Host),(⟨([]:List Int),([]:List Int)⟩:ah),(⟨([]:List Int),([]:List Int)⟩:ah)⟩:bB),r6.2)) <|
  some ((⟨(⟨(⟨#[]⟩:ByteArray),(⟨(⟨([]:List Int),([]:List Edge)⟩:au),([]:List aG),0,([]:List aH)⟩:ak),(⟨(⟨([]:List Int),([]:List Edge)⟩:au),([]:List aG),0,([]:List aH)⟩:ak),(⟨([]:List Int),([]:List Int)⟩:aO),(⟨([]:List Int),([]:List Int)⟩:ah),false,(⟨0,([]:List aj),(⟨([]:List Int),([]:List Int)⟩:ah),(⟨(⟨([]:List Int),([]:List Edge)⟩:au),([]:List aG),0,([]:List aH)⟩:ak)⟩:aj)⟩:aF),(⟨(⟨([]:List Int),([]:List Int)⟩:ah),([]:List Int)⟩:aS),(⟨(⟨([]:List Int),([]:List Edge)⟩:au),([]:List (List Int))⟩:Host),(⟨(⟨([]:List Int),([]:List Edge)⟩:au),([]:List (List Int))⟩:Host),(⟨([]:List Int),([]:List Int)⟩:ah),(⟨([]:List Int),([]:List Int)⟩:ah)⟩:bB),r5.2)) <|
 some ((⟨⟨⟨#[]⟩,⟨⟨[],[]⟩,[],0,[]⟩,⟨⟨[],[]⟩,[],0,[]⟩,⟨[],[]⟩,⟨[],[]⟩,false,⟨0,[],⟨[],[]⟩,⟨⟨[],[]⟩,[],0,[]⟩⟩⟩,⟨⟨[],[]⟩,[]⟩,⟨⟨[],[]⟩,[]⟩,⟨⟨[],[]⟩,[]⟩,⟨[],[]⟩,⟨[],[]⟩⟩:bB),r4)
def gC(a0:Types)(a1:aF)(a2:Host)(a3:aS):Option (bB×Int) :=
 thn (xM a0 a1 a2) λr4 =>
 cond (decide (r4=0)) (
  thn (xP a0 a1 a2 a3) λr5 =>
  some (r5.1,r5.2)) <|
 some ((⟨⟨⟨#[]⟩,⟨⟨[],[]⟩,[],0,[]⟩,⟨⟨[],[]⟩,[],0,[]⟩,⟨[],[]⟩,⟨[],[]⟩,false,⟨0,[],⟨[],[]⟩,⟨⟨[],[]⟩,[],0,[]⟩⟩⟩,⟨⟨[],[]⟩,[]⟩,⟨⟨[],[]⟩,[]⟩,⟨⟨[],[]⟩,[]⟩,⟨[],[]⟩,⟨[],[]⟩⟩:bB),r4)
def jJ(a0:List Edge)(a1:List Edge):Option Bool :=
 cond (decide (((a0.length:Nat):Int)=((a1.length:Nat):Int))) (
  cA (a0.length<=fuel) <|
  bH (λi2 (s2:Unit) bU gT =>
   thn (a0[i2]?) λe3 =>
   thn (a1[i2]?) λe4 =>
   cond (decide (e3.type=e4.type)&&(decide (e3.src=e4.src)&&decide (e3.dst=e4.dst))) (
    bU ()) <|
   some false)
  (a0.length-0) 0 () λs2 =>
  some true) <|
 some false
def xQ(a0:au)(a1:au):Option Bool :=
 thn (bu a0.nodes a1.nodes) λr2 =>
 cond r2 (
  thn (jJ a0.ag a1.ag) λr3 =>
  some r3) <|
 some false
def lq(a0:List aG)(a1:List aG):Option Bool :=
 cond (decide (((a0.length:Nat):Int)=((a1.length:Nat):Int))) (
  iter (λ(s2:Unit) bU gT =>
   cond (decide (0<((a0.length:Nat):Int))) (
    none) <|
   gT ())
  fuel () λs2 =>
  some true) <|
 some false
def lu(a0:List aH)(a1:List aH):Option Bool :=
 cond (decide (((a0.length:Nat):Int)=((a1.length:Nat):Int))) (
  iter (λ(s2:Unit) bU gT =>
   cond (decide (0<((a0.length:Nat):Int))) (
    none) <|
   gT ())
  fuel () λs2 =>
  some true) <|
 some false
def mm(a0:ak)(a1:ak):Option Bool :=
 thn (xQ a0.graph a1.graph) λr2 =>
 cond r2 (
  cond (decide (a0.vars=a1.vars)) (
   thn (lq a0.slots a1.slots) λr3 =>
   cond r3 (
    thn (lu a0.tests a1.tests) λr4 =>
    some r4) <|
   some false) <|
  some false) <|
 some false
def jD(a0:ah)(a1:ah):Option Bool :=
 thn (bu a0.nodes a1.nodes) λr2 =>
 cond r2 (
  thn (bu a0.ag a1.ag) λr3 =>
  some r3) <|
 some false
def jE(a0:List aj)(a1:List aj)(p2:aj->aj->Option Bool):Option Bool :=
 cond (decide (((a0.length:Nat):Int)=((a1.length:Nat):Int))) (
  cA (a0.length<=fuel) <|
  bH (λi3 (s3:Unit) eG n8 =>
   thn (a0[i3]?) λe4 =>
   thn (a1[i3]?) λe5 =>
   thn (p2 e4 e5) λr6 =>
   cond r6 (
    eG ()) <|
   some false)
  (a0.length-0) 0 () λs3 =>
  some true) <|
 some false
def lK:Nat->aj->aj ->  Option Bool
  |0,_,_=>none
  |n+1,a0,a1 =>
    cond (decide (a0.kind=a1.kind)) (
     thn (jD a0.map a1.map) λr2 =>
     cond r2 (
      cond (decide (a0.pattern.vars=a1.pattern.vars)) (
       thn (bu a0.pattern.graph.nodes a1.pattern.graph.nodes) λr3 =>
       cond r3 (
        thn (jJ a0.pattern.graph.ag a1.pattern.graph.ag) λr4 =>
        cond r4 (
         thn (lq a0.pattern.slots a1.pattern.slots) λr5 =>
         cond r5 (
          thn (lu a0.pattern.tests a1.pattern.tests) λr6 =>
          cond r6 (
           thn (jE a0.kids a1.kids (λx7 x8=>lK n x7 x8)) λr9 =>
           some r9) <|
          some false) <|
         some false) <|
        some false) <|
       some false) <|
      some false) <|
     some false) <|
    some false
def vm(a0:aF)(a1:aF):Option Bool :=
 cond (decide (a0.name=a1.name)) (
  cond (a0.injective == a1.injective) (
   thn (mm a0.left a1.left) λr2 =>
   cond r2 (
    thn (mm a0.right a1.right) λr3 =>
    cond r3 (
     thn (bu a0.keep.nodes a1.keep.nodes) λr4 =>
     cond r4 (
      thn (bu a0.keep.ag a1.keep.ag) λr5 =>
      cond r5 (
       thn (jD a0.into a1.into) λr6 =>
       cond r6 (
        thn (lK fuel a0.condition a1.condition) λr7 =>
        some r7) <|
       some false) <|
      some false) <|
     some false) <|
    some false) <|
   some false) <|
  some false) <|
 some false
def qM(a0:aS)(a1:aS):Option Bool :=
 thn (jD a0.aK a1.aK) λr2 =>
 cond r2 (
  thn (bu a0.vars a1.vars) λr3 =>
  some r3) <|
 some false
def lM(a0:List (List Int))(a1:List (List Int))(p2:(List Int)->(List Int)->Option Bool):Option Bool :=
 cond (decide (((a0.length:Nat):Int)=((a1.length:Nat):Int))) (
  cA (a0.length<=fuel) <|
  bH (λi3 (s3:Unit) eG n8 =>
   thn (a0[i3]?) λe4 =>
   thn (a1[i3]?) λe5 =>
   thn (p2 e4 e5) λr6 =>
   cond r6 (
    eG ()) <|
   some false)
  (a0.length-0) 0 () λs3 =>
  some true) <|
 some false
def vn(a0:Host)(a1:Host):Option Bool :=
 thn (bu a0.graph.nodes a1.graph.nodes) λr2 =>
 cond r2 (
  thn (jJ a0.graph.ag a1.graph.ag) λr3 =>
  cond r3 (
   thn (lM a0.values a1.values (λx4 x5=>bu x4 x5)) λr6 =>
   some r6) <|
  some false) <|
 some false
def aab(a0:bB)(a1:bB):Option Bool :=
 thn (vm a0.rule a1.rule) λr2 =>
 cond r2 (
  thn (qM a0.cg a1.cg) λr3 =>
  cond r3 (
   thn (vn a0.before a1.before) λr4 =>
   cond r4 (
    thn (vn a0.after a1.after) λr5 =>
    cond r5 (
     thn (jD a0.lD a1.lD) λr6 =>
     cond r6 (
      thn (jD a0.iZ a1.iZ) λr7 =>
      some r7) <|
     some false) <|
    some false) <|
   some false) <|
  some false) <|
 some false
def xR(a0:Types)(a1:bB):Option Bool :=
 thn (gC a0 a1.rule a1.before a1.cg) λr2 =>
 cond (decide (r2.2=0)) (
  thn (aab r2.1 (⟨a1.rule,a1.cg,a1.before,a1.after,a1.lD,a1.iZ⟩:bB)) λr3 =>
  some r3) <|
 some false
def eP(a0:List Int):Option Bool :=
 thn (bp a0) λr1 =>
 thn (mS r1) λr2 =>
 thn (bp r2) λr3 =>
 thn (kK r3) λr4 =>
 some (decide (((r4.length:Nat):Int)=((r2.length:Nat):Int)))
def dR(a0:List Int)(a1:List Int):Option ((List Int)×Bool) :=
 cA (a0.length<=fuel) <|
 bH (λi2 (s2:(List Int)) bU gT =>
  thn (a0[i2]?) λe3 =>
  thn (jd a1 e3) λe4 =>
  cond (decide (e4<0)) (
   some (([]:List Int),false)) <|
  cA (s2.length+1<=68719476736) <|
  bU (s2++[e4]))
 (a0.length-0) 0 ([]:List Int) λs2 =>
 some (s2,true)
def qN(a0:Types)(a1:aF)(a2:aF)(a3:bB):Option (bB×bB×Int) :=
 thn (gL a0 a1 a2) λr4 =>
 cond (decide (r4.2.2.2=0)) (
  thn (xR a0 a3) λr5 =>
  cond r5 (
   thn (vm r4.1 a3.rule) λr6 =>
   cond r6 (
    cond a1.injective (
     cA ((0:Int)<=0/\0<=((a1.left.graph.nodes.length:Nat):Int)/\((a1.left.graph.nodes.length:Nat):Int)<=(a3.cg.aK.nodes.length:Int)) <|
     thn (eP (a3.cg.aK.nodes.take a1.left.graph.nodes.length)) λr7 =>
     cond r7 (
      cA ((0:Int)<=0/\0<=((a1.left.graph.ag.length:Nat):Int)/\((a1.left.graph.ag.length:Nat):Int)<=(a3.cg.aK.ag.length:Int)) <|
      thn (eP (a3.cg.aK.ag.take a1.left.graph.ag.length)) λr8 =>
      cond r8 (
       cond a2.injective (
        cA ((0:Int)<=((a1.left.graph.nodes.length:Nat):Int)/\((a1.left.graph.nodes.length:Nat):Int)<=((a3.cg.aK.nodes.length:Nat):Int)/\((a3.cg.aK.nodes.length:Nat):Int)<=(a3.cg.aK.nodes.length:Int)) <|
        thn (eP (a3.cg.aK.nodes.drop a1.left.graph.nodes.length)) λr9 =>
        cond r9 (
         cA ((0:Int)<=((a1.left.graph.ag.length:Nat):Int)/\((a1.left.graph.ag.length:Nat):Int)<=((a3.cg.aK.ag.length:Nat):Int)/\((a3.cg.aK.ag.length:Nat):Int)<=(a3.cg.aK.ag.length:Int)) <|
         thn (eP (a3.cg.aK.ag.drop a1.left.graph.ag.length)) λoZ =>
         cond oZ (
          cA ((0:Int)<=0/\0<=((a1.left.graph.nodes.length:Nat):Int)/\((a1.left.graph.nodes.length:Nat):Int)<=(a3.cg.aK.nodes.length:Int)) <|
          thn (bp (a3.cg.aK.nodes.take a1.left.graph.nodes.length)) λqg =>
          cA ((0:Int)<=0/\0<=((a1.left.graph.ag.length:Nat):Int)/\((a1.left.graph.ag.length:Nat):Int)<=(a3.cg.aK.ag.length:Int)) <|
          thn (bp (a3.cg.aK.ag.take a1.left.graph.ag.length)) λvM =>
          thn (gC a0 a1 a3.before (⟨⟨qg,vM⟩,[]⟩:aS)) λr13 =>
          cond (decide (r13.2=0)) (
           cA ((0:Int)<=((a1.left.graph.nodes.length:Nat):Int)/\((a1.left.graph.nodes.length:Nat):Int)<=((a3.cg.aK.nodes.length:Nat):Int)/\((a3.cg.aK.nodes.length:Nat):Int)<=(a3.cg.aK.nodes.length:Int)) <|
           thn (dR (a3.cg.aK.nodes.drop a1.left.graph.nodes.length) r13.1.lD.nodes) λr14 =>
           cA ((0:Int)<=((a1.left.graph.ag.length:Nat):Int)/\((a1.left.graph.ag.length:Nat):Int)<=((a3.cg.aK.ag.length:Nat):Int)/\((a3.cg.aK.ag.length:Nat):Int)<=(a3.cg.aK.ag.length:Int)) <|
           thn (dR (a3.cg.aK.ag.drop a1.left.graph.ag.length) r13.1.lD.ag) λr15 =>
           cond r14.2 (
            cond r15.2 (
             thn (gC a0 a2 r13.1.after (⟨⟨r14.1,r15.1⟩,[]⟩:aS)) λr16 =>
             cond (decide (r16.2=0)) (
              some (r13.1,r16.1,0)) <|
             some ((⟨(⟨(⟨#[]⟩:ByteArray),(⟨(⟨([]:List Int),([]:List Edge)⟩:au),([]:List aG),0,([]:List aH)⟩:ak),(⟨(⟨([]:List Int),([]:List Edge)⟩:au),([]:List aG),0,([]:List aH)⟩:ak),(⟨([]:List Int),([]:List Int)⟩:aO),(⟨([]:List Int),([]:List Int)⟩:ah),false,(⟨0,([]:List aj),(⟨([]:List Int),([]:List Int)⟩:ah),(⟨(⟨([]:List Int),([]:List Edge)⟩:au),([]:List aG),0,([]:List aH)⟩:ak)⟩:aj)⟩:aF),(⟨(⟨([]:List Int),([]:List Int)⟩:ah),([]:List Int)⟩:aS),(⟨(⟨([]:List Int),([]:List Edge)⟩:au),([]:List (List Int))⟩:Host),(⟨(⟨([]:List Int),([]:List Edge)⟩:au),([]:List (List Int))⟩:Host),(⟨([]:List Int),([]:List Int)⟩:ah),(⟨([]:List Int),([]:List Int)⟩:ah)⟩:bB),(⟨(⟨(⟨#[]⟩:ByteArray),(⟨(⟨([]:List Int),([]:List Edge)⟩:au),([]:List aG),0,([]:List aH)⟩:ak),(⟨(⟨([]:List Int),([]:List Edge)⟩:au),([]:List aG),0,([]:List aH)⟩:ak),(⟨([]:List Int),([]:List Int)⟩:aO),(⟨([]:List Int),([]:List Int)⟩:ah),false,(⟨0,([]:List aj),(⟨([]:List Int),([]:List Int)⟩:ah),(⟨(⟨([]:List Int),([]:List Edge)⟩:au),([]:List aG),0,([]:List aH)⟩:ak)⟩:aj)⟩:aF),(⟨(⟨([]:List Int),([]:List Int)⟩:ah),([]:List Int)⟩:aS),(⟨(⟨([]:List Int),([]:List Edge)⟩:au),([]:List (List Int))⟩:Host),(⟨(⟨([]:List Int),([]:List Edge)⟩:au),([]:List (List Int))⟩:Host),(⟨([]:List Int),([]:List Int)⟩:ah),(⟨([]:List Int),([]:List Int)⟩:ah)⟩:bB),r16.2)) <|
            some ((⟨(⟨(⟨#[]⟩:ByteArray),(⟨(⟨([]:List Int),([]:List Edge)⟩:au),([]:List aG),0,([]:List aH)⟩:ak),(⟨(⟨([]:List Int),([]:List Edge)⟩:au),([]:List aG),0,([]:List aH)⟩:ak),(⟨([]:List Int),([]:List Int)⟩:aO),(⟨([]:List Int),([]:List Int)⟩:ah),false,(⟨0,([]:List aj),(⟨([]:List Int),([]:List Int)⟩:ah),(⟨(⟨([]:List Int),([]:List Edge)⟩:au),([]:List aG),0,([]:List aH)⟩:ak)⟩:aj)⟩:aF),(⟨(⟨([]:List Int),([]:List Int)⟩:ah),([]:List Int)⟩:aS),(⟨(⟨([]:List Int),([]:List Edge)⟩:au),([]:List (List Int))⟩:Host),(⟨(⟨([]:List Int),([]:List Edge)⟩:au),([]:List (List Int))⟩:Host),(⟨([]:List Int),([]:List Int)⟩:ah),(⟨([]:List Int),([]:List Int)⟩:ah)⟩:bB),(⟨(⟨(⟨#[]⟩:ByteArray),(⟨(⟨([]:List Int),([]:List Edge)⟩:au),([]:List aG),0,([]:List aH)⟩:ak),(⟨(⟨([]:List Int),([]:List Edge)⟩:au),([]:List aG),0,([]:List aH)⟩:ak),(⟨([]:List Int),([]:List Int)⟩:aO),(⟨([]:List Int),([]:List Int)⟩:ah),false,(⟨0,([]:List aj),(⟨([]:List Int),([]:List Int)⟩:ah),(⟨(⟨([]:List Int),([]:List Edge)⟩:au),([]:List aG),0,([]:List aH)⟩:ak)⟩:aj)⟩:aF),(⟨(⟨([]:List Int),([]:List Int)⟩:ah),([]:List Int)⟩:aS),(⟨(⟨([]:List Int),([]:List Edge)⟩:au),([]:List (List Int))⟩:Host),(⟨(⟨([]:List Int),([]:List Edge)⟩:au),([]:List (List Int))⟩:Host),(⟨([]:List Int),([]:List Int)⟩:ah),(⟨([]:List Int),([]:List Int)⟩:ah)⟩:bB),1)) <|
           some ((⟨(⟨(⟨#[]⟩:ByteArray),(⟨(⟨([]:List Int),([]:List Edge)⟩:au),([]:List aG),0,([]:List aH)⟩:ak),(⟨(⟨([]:List Int),([]:List Edge)⟩:au),([]:List aG),0,([]:List aH)⟩:ak),(⟨([]:List Int),([]:List Int)⟩:aO),(⟨([]:List Int),([]:List Int)⟩:ah),false,(⟨0,([]:List aj),(⟨([]:List Int),([]:List Int)⟩:ah),(⟨(⟨([]:List Int),([]:List Edge)⟩:au),([]:List aG),0,([]:List aH)⟩:ak)⟩:aj)⟩:aF),(⟨(⟨([]:List Int),([]:List Int)⟩:ah),([]:List Int)⟩:aS),(⟨(⟨([]:List Int),([]:List Edge)⟩:au),([]:List (List Int))⟩:Host),(⟨(⟨([]:List Int),([]:List Edge)⟩:au),([]:List (List Int))⟩:Host),(⟨([]:List Int),([]:List Int)⟩:ah),(⟨([]:List Int),([]:List Int)⟩:ah)⟩:bB),(⟨(⟨(⟨#[]⟩:ByteArray),(⟨(⟨([]:List Int),([]:List Edge)⟩:au),([]:List aG),0,([]:List aH)⟩:ak),(⟨(⟨([]:List Int),([]:List Edge)⟩:au),([]:List aG),0,([]:List aH)⟩:ak),(⟨([]:List Int),([]:List Int)⟩:aO),(⟨([]:List Int),([]:List Int)⟩:ah),false,(⟨0,([]:List aj),(⟨([]:List Int),([]:List Int)⟩:ah),(⟨(⟨([]:List Int),([]:List Edge)⟩:au),([]:List aG),0,([]:List aH)⟩:ak)⟩:aj)⟩:aF),(⟨(⟨([]:List Int),([]:List Int)⟩:ah),([]:List Int)⟩:aS),(⟨(⟨([]:List Int),([]:List Edge)⟩:au),([]:List (List Int))⟩:Host),(⟨(⟨([]:List Int),([]:List Edge)⟩:au),([]:List (List Int))⟩:Host),(⟨([]:List Int),([]:List Int)⟩:ah),(⟨([]:List Int),([]:List Int)⟩:ah)⟩:bB),1)) <|
          some ((⟨(⟨(⟨#[]⟩:ByteArray),(⟨(⟨([]:List Int),([]:List Edge)⟩:au),([]:List aG),0,([]:List aH)⟩:ak),(⟨(⟨([]:List Int),([]:List Edge)⟩:au),([]:List aG),0,([]:List aH)⟩:ak),(⟨([]:List Int),([]:List Int)⟩:aO),(⟨([]:List Int),([]:List Int)⟩:ah),false,(⟨0,([]:List aj),(⟨([]:List Int),([]:List Int)⟩:ah),(⟨(⟨([]:List Int),([]:List Edge)⟩:au),([]:List aG),0,([]:List aH)⟩:ak)⟩:aj)⟩:aF),(⟨(⟨([]:List Int),([]:List Int)⟩:ah),([]:List Int)⟩:aS),(⟨(⟨([]:List Int),([]:List Edge)⟩:au),([]:List (List Int))⟩:Host),(⟨(⟨([]:List Int),([]:List Edge)⟩:au),([]:List (List Int))⟩:Host),(⟨([]:List Int),([]:List Int)⟩:ah),(⟨([]:List Int),([]:List Int)⟩:ah)⟩:bB),(⟨(⟨(⟨#[]⟩:ByteArray),(⟨(⟨([]:List Int),([]:List Edge)⟩:au),([]:List aG),0,([]:List aH)⟩:ak),(⟨(⟨([]:List Int),([]:List Edge)⟩:au),([]:List aG),0,([]:List aH)⟩:ak),(⟨([]:List Int),([]:List Int)⟩:aO),(⟨([]:List Int),([]:List Int)⟩:ah),false,(⟨0,([]:List aj),(⟨([]:List Int),([]:List Int)⟩:ah),(⟨(⟨([]:List Int),([]:List Edge)⟩:au),([]:List aG),0,([]:List aH)⟩:ak)⟩:aj)⟩:aF),(⟨(⟨([]:List Int),([]:List Int)⟩:ah),([]:List Int)⟩:aS),(⟨(⟨([]:List Int),([]:List Edge)⟩:au),([]:List (List Int))⟩:Host),(⟨(⟨([]:List Int),([]:List Edge)⟩:au),([]:List (List Int))⟩:Host),(⟨([]:List Int),([]:List Int)⟩:ah),(⟨([]:List Int),([]:List Int)⟩:ah)⟩:bB),r13.2)) <|
         some ((⟨(⟨(⟨#[]⟩:ByteArray),(⟨(⟨([]:List Int),([]:List Edge)⟩:au),([]:List aG),0,([]:List aH)⟩:ak),(⟨(⟨([]:List Int),([]:List Edge)⟩:au),([]:List aG),0,([]:List aH)⟩:ak),(⟨([]:List Int),([]:List Int)⟩:aO),(⟨([]:List Int),([]:List Int)⟩:ah),false,(⟨0,([]:List aj),(⟨([]:List Int),([]:List Int)⟩:ah),(⟨(⟨([]:List Int),([]:List Edge)⟩:au),([]:List aG),0,([]:List aH)⟩:ak)⟩:aj)⟩:aF),(⟨(⟨([]:List Int),([]:List Int)⟩:ah),([]:List Int)⟩:aS),(⟨(⟨([]:List Int),([]:List Edge)⟩:au),([]:List (List Int))⟩:Host),(⟨(⟨([]:List Int),([]:List Edge)⟩:au),([]:List (List Int))⟩:Host),(⟨([]:List Int),([]:List Int)⟩:ah),(⟨([]:List Int),([]:List Int)⟩:ah)⟩:bB),(⟨(⟨(⟨#[]⟩:ByteArray),(⟨(⟨([]:List Int),([]:List Edge)⟩:au),([]:List aG),0,([]:List aH)⟩:ak),(⟨(⟨([]:List Int),([]:List Edge)⟩:au),([]:List aG),0,([]:List aH)⟩:ak),(⟨([]:List Int),([]:List Int)⟩:aO),(⟨([]:List Int),([]:List Int)⟩:ah),false,(⟨0,([]:List aj),(⟨([]:List Int),([]:List Int)⟩:ah),(⟨(⟨([]:List Int),([]:List Edge)⟩:au),([]:List aG),0,([]:List aH)⟩:ak)⟩:aj)⟩:aF),(⟨(⟨([]:List Int),([]:List Int)⟩:ah),([]:List Int)⟩:aS),(⟨(⟨([]:List Int),([]:List Edge)⟩:au),([]:List (List Int))⟩:Host),(⟨(⟨([]:List Int),([]:List Edge)⟩:au),([]:List (List Int))⟩:Host),(⟨([]:List Int),([]:List Int)⟩:ah),(⟨([]:List Int),([]:List Int)⟩:ah)⟩:bB),1)) <|
        some ((⟨(⟨(⟨#[]⟩:ByteArray),(⟨(⟨([]:List Int),([]:List Edge)⟩:au),([]:List aG),0,([]:List aH)⟩:ak),(⟨(⟨([]:List Int),([]:List Edge)⟩:au),([]:List aG),0,([]:List aH)⟩:ak),(⟨([]:List Int),([]:List Int)⟩:aO),(⟨([]:List Int),([]:List Int)⟩:ah),false,(⟨0,([]:List aj),(⟨([]:List Int),([]:List Int)⟩:ah),(⟨(⟨([]:List Int),([]:List Edge)⟩:au),([]:List aG),0,([]:List aH)⟩:ak)⟩:aj)⟩:aF),(⟨(⟨([]:List Int),([]:List Int)⟩:ah),([]:List Int)⟩:aS),(⟨(⟨([]:List Int),([]:List Edge)⟩:au),([]:List (List Int))⟩:Host),(⟨(⟨([]:List Int),([]:List Edge)⟩:au),([]:List (List Int))⟩:Host),(⟨([]:List Int),([]:List Int)⟩:ah),(⟨([]:List Int),([]:List Int)⟩:ah)⟩:bB),(⟨(⟨(⟨#[]⟩:ByteArray),(⟨(⟨([]:List Int),([]:List Edge)⟩:au),([]:List aG),0,([]:List aH)⟩:ak),(⟨(⟨([]:List Int),([]:List Edge)⟩:au),([]:List aG),0,([]:List aH)⟩:ak),(⟨([]:List Int),([]:List Int)⟩:aO),(⟨([]:List Int),([]:List Int)⟩:ah),false,(⟨0,([]:List aj),(⟨([]:List Int),([]:List Int)⟩:ah),(⟨(⟨([]:List Int),([]:List Edge)⟩:au),([]:List aG),0,([]:List aH)⟩:ak)⟩:aj)⟩:aF),(⟨(⟨([]:List Int),([]:List Int)⟩:ah),([]:List Int)⟩:aS),(⟨(⟨([]:List Int),([]:List Edge)⟩:au),([]:List (List Int))⟩:Host),(⟨(⟨([]:List Int),([]:List Edge)⟩:au),([]:List (List Int))⟩:Host),(⟨([]:List Int),([]:List Int)⟩:ah),(⟨([]:List Int),([]:List Int)⟩:ah)⟩:bB),1)) <|
       cA ((0:Int)<=0/\0<=((a1.left.graph.nodes.length:Nat):Int)/\((a1.left.graph.nodes.length:Nat):Int)<=(a3.cg.aK.nodes.length:Int)) <|
       thn (bp (a3.cg.aK.nodes.take a1.left.graph.nodes.length)) λr17 =>
       cA ((0:Int)<=0/\0<=((a1.left.graph.ag.length:Nat):Int)/\((a1.left.graph.ag.length:Nat):Int)<=(a3.cg.aK.ag.length:Int)) <|
       thn (bp (a3.cg.aK.ag.take a1.left.graph.ag.length)) λr18 =>
       thn (gC a0 a1 a3.before (⟨⟨r17,r18⟩,[]⟩:aS)) λr19 =>
       cond (decide (r19.2=0)) (
        cA ((0:Int)<=((a1.left.graph.nodes.length:Nat):Int)/\((a1.left.graph.nodes.length:Nat):Int)<=((a3.cg.aK.nodes.length:Nat):Int)/\((a3.cg.aK.nodes.length:Nat):Int)<=(a3.cg.aK.nodes.length:Int)) <|
        thn (dR (a3.cg.aK.nodes.drop a1.left.graph.nodes.length) r19.1.lD.nodes) λr20 =>
        cA ((0:Int)<=((a1.left.graph.ag.length:Nat):Int)/\((a1.left.graph.ag.length:Nat):Int)<=((a3.cg.aK.ag.length:Nat):Int)/\((a3.cg.aK.ag.length:Nat):Int)<=(a3.cg.aK.ag.length:Int)) <|
        thn (dR (a3.cg.aK.ag.drop a1.left.graph.ag.length) r19.1.lD.ag) λr21 =>
        cond r20.2 (
         cond r21.2 (
          thn (gC a0 a2 r19.1.after (⟨⟨r20.1,r21.1⟩,[]⟩:aS)) λr22 =>
          cond (decide (r22.2=0)) (
           some (r19.1,r22.1,0)) <|
          some ((⟨(⟨(⟨#[]⟩:ByteArray),(⟨(⟨([]:List Int),([]:List Edge)⟩:au),([]:List aG),0,([]:List aH)⟩:ak),(⟨(⟨([]:List Int),([]:List Edge)⟩:au),([]:List aG),0,([]:List aH)⟩:ak),(⟨([]:List Int),([]:List Int)⟩:aO),(⟨([]:List Int),([]:List Int)⟩:ah),false,(⟨0,([]:List aj),(⟨([]:List Int),([]:List Int)⟩:ah),(⟨(⟨([]:List Int),([]:List Edge)⟩:au),([]:List aG),0,([]:List aH)⟩:ak)⟩:aj)⟩:aF),(⟨(⟨([]:List Int),([]:List Int)⟩:ah),([]:List Int)⟩:aS),(⟨(⟨([]:List Int),([]:List Edge)⟩:au),([]:List (List Int))⟩:Host),(⟨(⟨([]:List Int),([]:List Edge)⟩:au),([]:List (List Int))⟩:Host),(⟨([]:List Int),([]:List Int)⟩:ah),(⟨([]:List Int),([]:List Int)⟩:ah)⟩:bB),(⟨(⟨(⟨#[]⟩:ByteArray),(⟨(⟨([]:List Int),([]:List Edge)⟩:au),([]:List aG),0,([]:List aH)⟩:ak),(⟨(⟨([]:List Int),([]:List Edge)⟩:au),([]:List aG),0,([]:List aH)⟩:ak),(⟨([]:List Int),([]:List Int)⟩:aO),(⟨([]:List Int),([]:List Int)⟩:ah),false,(⟨0,([]:List aj),(⟨([]:List Int),([]:List Int)⟩:ah),(⟨(⟨([]:List Int),([]:List Edge)⟩:au),([]:List aG),0,([]:List aH)⟩:ak)⟩:aj)⟩:aF),(⟨(⟨([]:List Int),([]:List Int)⟩:ah),([]:List Int)⟩:aS),(⟨(⟨([]:List Int),([]:List Edge)⟩:au),([]:List (List Int))⟩:Host),(⟨(⟨([]:List Int),([]:List Edge)⟩:au),([]:List (List Int))⟩:Host),(⟨([]:List Int),([]:List Int)⟩:ah),(⟨([]:List Int),([]:List Int)⟩:ah)⟩:bB),r22.2)) <|
         some ((⟨(⟨(⟨#[]⟩:ByteArray),(⟨(⟨([]:List Int),([]:List Edge)⟩:au),([]:List aG),0,([]:List aH)⟩:ak),(⟨(⟨([]:List Int),([]:List Edge)⟩:au),([]:List aG),0,([]:List aH)⟩:ak),(⟨([]:List Int),([]:List Int)⟩:aO),(⟨([]:List Int),([]:List Int)⟩:ah),false,(⟨0,([]:List aj),(⟨([]:List Int),([]:List Int)⟩:ah),(⟨(⟨([]:List Int),([]:List Edge)⟩:au),([]:List aG),0,([]:List aH)⟩:ak)⟩:aj)⟩:aF),(⟨(⟨([]:List Int),([]:List Int)⟩:ah),([]:List Int)⟩:aS),(⟨(⟨([]:List Int),([]:List Edge)⟩:au),([]:List (List Int))⟩:Host),(⟨(⟨([]:List Int),([]:List Edge)⟩:au),([]:List (List Int))⟩:Host),(⟨([]:List Int),([]:List Int)⟩:ah),(⟨([]:List Int),([]:List Int)⟩:ah)⟩:bB),(⟨(⟨(⟨#[]⟩:ByteArray),(⟨(⟨([]:List Int),([]:List Edge)⟩:au),([]:List aG),0,([]:List aH)⟩:ak),(⟨(⟨([]:List Int),([]:List Edge)⟩:au),([]:List aG),0,([]:List aH)⟩:ak),(⟨([]:List Int),([]:List Int)⟩:aO),(⟨([]:List Int),([]:List Int)⟩:ah),false,(⟨0,([]:List aj),(⟨([]:List Int),([]:List Int)⟩:ah),(⟨(⟨([]:List Int),([]:List Edge)⟩:au),([]:List aG),0,([]:List aH)⟩:ak)⟩:aj)⟩:aF),(⟨(⟨([]:List Int),([]:List Int)⟩:ah),([]:List Int)⟩:aS),(⟨(⟨([]:List Int),([]:List Edge)⟩:au),([]:List (List Int))⟩:Host),(⟨(⟨([]:List Int),([]:List Edge)⟩:au),([]:List (List Int))⟩:Host),(⟨([]:List Int),([]:List Int)⟩:ah),(⟨([]:List Int),([]:List Int)⟩:ah)⟩:bB),1)) <|
        some ((⟨(⟨(⟨#[]⟩:ByteArray),(⟨(⟨([]:List Int),([]:List Edge)⟩:au),([]:List aG),0,([]:List aH)⟩:ak),(⟨(⟨([]:List Int),([]:List Edge)⟩:au),([]:List aG),0,([]:List aH)⟩:ak),(⟨([]:List Int),([]:List Int)⟩:aO),(⟨([]:List Int),([]:List Int)⟩:ah),false,(⟨0,([]:List aj),(⟨([]:List Int),([]:List Int)⟩:ah),(⟨(⟨([]:List Int),([]:List Edge)⟩:au),([]:List aG),0,([]:List aH)⟩:ak)⟩:aj)⟩:aF),(⟨(⟨([]:List Int),([]:List Int)⟩:ah),([]:List Int)⟩:aS),(⟨(⟨([]:List Int),([]:List Edge)⟩:au),([]:List (List Int))⟩:Host),(⟨(⟨([]:List Int),([]:List Edge)⟩:au),([]:List (List Int))⟩:Host),(⟨([]:List Int),([]:List Int)⟩:ah),(⟨([]:List Int),([]:List Int)⟩:ah)⟩:bB),(⟨(⟨(⟨#[]⟩:ByteArray),(⟨(⟨([]:List Int),([]:List Edge)⟩:au),([]:List aG),0,([]:List aH)⟩:ak),(⟨(⟨([]:List Int),([]:List Edge)⟩:au),([]:List aG),0,([]:List aH)⟩:ak),(⟨([]:List Int),([]:List Int)⟩:aO),(⟨([]:List Int),([]:List Int)⟩:ah),false,(⟨0,([]:List aj),(⟨([]:List Int),([]:List Int)⟩:ah),(⟨(⟨([]:List Int),([]:List Edge)⟩:au),([]:List aG),0,([]:List aH)⟩:ak)⟩:aj)⟩:aF),(⟨(⟨([]:List Int),([]:List Int)⟩:ah),([]:List Int)⟩:aS),(⟨(⟨([]:List Int),([]:List Edge)⟩:au),([]:List (List Int))⟩:Host),(⟨(⟨([]:List Int),([]:List Edge)⟩:au),([]:List (List Int))⟩:Host),(⟨([]:List Int),([]:List Int)⟩:ah),(⟨([]:List Int),([]:List Int)⟩:ah)⟩:bB),1)) <|
       some ((⟨(⟨(⟨#[]⟩:ByteArray),(⟨(⟨([]:List Int),([]:List Edge)⟩:au),([]:List aG),0,([]:List aH)⟩:ak),(⟨(⟨([]:List Int),([]:List Edge)⟩:au),([]:List aG),0,([]:List aH)⟩:ak),(⟨([]:List Int),([]:List Int)⟩:aO),(⟨([]:List Int),([]:List Int)⟩:ah),false,(⟨0,([]:List aj),(⟨([]:List Int),([]:List Int)⟩:ah),(⟨(⟨([]:List Int),([]:List Edge)⟩:au),([]:List aG),0,([]:List aH)⟩:ak)⟩:aj)⟩:aF),(⟨(⟨([]:List Int),([]:List Int)⟩:ah),([]:List Int)⟩:aS),(⟨(⟨([]:List Int),([]:List Edge)⟩:au),([]:List (List Int))⟩:Host),(⟨(⟨([]:List Int),([]:List Edge)⟩:au),([]:List (List Int))⟩:Host),(⟨([]:List Int),([]:List Int)⟩:ah),(⟨([]:List Int),([]:List Int)⟩:ah)⟩:bB),(⟨(⟨(⟨#[]⟩:ByteArray),(⟨(⟨([]:List Int),([]:List Edge)⟩:au),([]:List aG),0,([]:List aH)⟩:ak),(⟨(⟨([]:List Int),([]:List Edge)⟩:au),([]:List aG),0,([]:List aH)⟩:ak),(⟨([]:List Int),([]:List Int)⟩:aO),(⟨([]:List Int),([]:List Int)⟩:ah),false,(⟨0,([]:List aj),(⟨([]:List Int),([]:List Int)⟩:ah),(⟨(⟨([]:List Int),([]:List Edge)⟩:au),([]:List aG),0,([]:List aH)⟩:ak)⟩:aj)⟩:aF),(⟨(⟨([]:List Int),([]:List Int)⟩:ah),([]:List Int)⟩:aS),(⟨(⟨([]:List Int),([]:List Edge)⟩:au),([]:List (List Int))⟩:Host),(⟨(⟨([]:List Int),([]:List Edge)⟩:au),([]:List (List Int))⟩:Host),(⟨([]:List Int),([]:List Int)⟩:ah),(⟨([]:List Int),([]:List Int)⟩:ah)⟩:bB),r19.2)) <|
      some ((⟨(⟨(⟨#[]⟩:ByteArray),(⟨(⟨([]:List Int),([]:List Edge)⟩:au),([]:List aG),0,([]:List aH)⟩:ak),(⟨(⟨([]:List Int),([]:List Edge)⟩:au),([]:List aG),0,([]:List aH)⟩:ak),(⟨([]:List Int),([]:List Int)⟩:aO),(⟨([]:List Int),([]:List Int)⟩:ah),false,(⟨0,([]:List aj),(⟨([]:List Int),([]:List Int)⟩:ah),(⟨(⟨([]:List Int),([]:List Edge)⟩:au),([]:List aG),0,([]:List aH)⟩:ak)⟩:aj)⟩:aF),(⟨(⟨([]:List Int),([]:List Int)⟩:ah),([]:List Int)⟩:aS),(⟨(⟨([]:List Int),([]:List Edge)⟩:au),([]:List (List Int))⟩:Host),(⟨(⟨([]:List Int),([]:List Edge)⟩:au),([]:List (List Int))⟩:Host),(⟨([]:List Int),([]:List Int)⟩:ah),(⟨([]:List Int),([]:List Int)⟩:ah)⟩:bB),(⟨(⟨(⟨#[]⟩:ByteArray),(⟨(⟨([]:List Int),([]:List Edge)⟩:au),([]:List aG),0,([]:List aH)⟩:ak),(⟨(⟨([]:List Int),([]:List Edge)⟩:au),([]:List aG),0,([]:List aH)⟩:ak),(⟨([]:List Int),([]:List Int)⟩:aO),(⟨([]:List Int),([]:List Int)⟩:ah),false,(⟨0,([]:List aj),(⟨([]:List Int),([]:List Int)⟩:ah),(⟨(⟨([]:List Int),([]:List Edge)⟩:au),([]:List aG),0,([]:List aH)⟩:ak)⟩:aj)⟩:aF),(⟨(⟨([]:List Int),([]:List Int)⟩:ah),([]:List Int)⟩:aS),(⟨(⟨([]:List Int),([]:List Edge)⟩:au),([]:List (List Int))⟩:Host),(⟨(⟨([]:List Int),([]:List Edge)⟩:au),([]:List (List Int))⟩:Host),(⟨([]:List Int),([]:List Int)⟩:ah),(⟨([]:List Int),([]:List Int)⟩:ah)⟩:bB),1)) <|
     some ((⟨(⟨(⟨#[]⟩:ByteArray),(⟨(⟨([]:List Int),([]:List Edge)⟩:au),([]:List aG),0,([]:List aH)⟩:ak),(⟨(⟨([]:List Int),([]:List Edge)⟩:au),([]:List aG),0,([]:List aH)⟩:ak),(⟨([]:List Int),([]:List Int)⟩:aO),(⟨([]:List Int),([]:List Int)⟩:ah),false,(⟨0,([]:List aj),(⟨([]:List Int),([]:List Int)⟩:ah),(⟨(⟨([]:List Int),([]:List Edge)⟩:au),([]:List aG),0,([]:List aH)⟩:ak)⟩:aj)⟩:aF),(⟨(⟨([]:List Int),([]:List Int)⟩:ah),([]:List Int)⟩:aS),(⟨(⟨([]:List Int),([]:List Edge)⟩:au),([]:List (List Int))⟩:Host),(⟨(⟨([]:List Int),([]:List Edge)⟩:au),([]:List (List Int))⟩:Host),(⟨([]:List Int),([]:List Int)⟩:ah),(⟨([]:List Int),([]:List Int)⟩:ah)⟩:bB),(⟨(⟨(⟨#[]⟩:ByteArray),(⟨(⟨([]:List Int),([]:List Edge)⟩:au),([]:List aG),0,([]:List aH)⟩:ak),(⟨(⟨([]:List Int),([]:List Edge)⟩:au),([]:List aG),0,([]:List aH)⟩:ak),(⟨([]:List Int),([]:List Int)⟩:aO),(⟨([]:List Int),([]:List Int)⟩:ah),false,(⟨0,([]:List aj),(⟨([]:List Int),([]:List Int)⟩:ah),(⟨(⟨([]:List Int),([]:List Edge)⟩:au),([]:List aG),0,([]:List aH)⟩:ak)⟩:aj)⟩:aF),(⟨(⟨([]:List Int),([]:List Int)⟩:ah),([]:List Int)⟩:aS),(⟨(⟨([]:List Int),([]:List Edge)⟩:au),([]:List (List Int))⟩:Host),(⟨(⟨([]:List Int),([]:List Edge)⟩:au),([]:List (List Int))⟩:Host),(⟨([]:List Int),([]:List Int)⟩:ah),(⟨([]:List Int),([]:List Int)⟩:ah)⟩:bB),1)) <|
    cond a2.injective (
     cA ((0:Int)<=((a1.left.graph.nodes.length:Nat):Int)/\((a1.left.graph.nodes.length:Nat):Int)<=((a3.cg.aK.nodes.length:Nat):Int)/\((a3.cg.aK.nodes.length:Nat):Int)<=(a3.cg.aK.nodes.length:Int)) <|
     thn (eP (a3.cg.aK.nodes.drop a1.left.graph.nodes.length)) λr23 =>
     cond r23 (
      cA ((0:Int)<=((a1.left.graph.ag.length:Nat):Int)/\((a1.left.graph.ag.length:Nat):Int)<=((a3.cg.aK.ag.length:Nat):Int)/\((a3.cg.aK.ag.length:Nat):Int)<=(a3.cg.aK.ag.length:Int)) <|
      thn (eP (a3.cg.aK.ag.drop a1.left.graph.ag.length)) λr24 =>
      cond r24 (
       cA ((0:Int)<=0/\0<=((a1.left.graph.nodes.length:Nat):Int)/\((a1.left.graph.nodes.length:Nat):Int)<=(a3.cg.aK.nodes.length:Int)) <|
       thn (bp (a3.cg.aK.nodes.take a1.left.graph.nodes.length)) λr25 =>
       cA ((0:Int)<=0/\0<=((a1.left.graph.ag.length:Nat):Int)/\((a1.left.graph.ag.length:Nat):Int)<=(a3.cg.aK.ag.length:Int)) <|
       thn (bp (a3.cg.aK.ag.take a1.left.graph.ag.length)) λr26 =>
       thn (gC a0 a1 a3.before (⟨⟨r25,r26⟩,[]⟩:aS)) λr27 =>
       cond (decide (r27.2=0)) (
        cA ((0:Int)<=((a1.left.graph.nodes.length:Nat):Int)/\((a1.left.graph.nodes.length:Nat):Int)<=((a3.cg.aK.nodes.length:Nat):Int)/\((a3.cg.aK.nodes.length:Nat):Int)<=(a3.cg.aK.nodes.length:Int)) <|
        thn (dR (a3.cg.aK.nodes.drop a1.left.graph.nodes.length) r27.1.lD.nodes) λr28 =>
        cA ((0:Int)<=((a1.left.graph.ag.length:Nat):Int)/\((a1.left.graph.ag.length:Nat):Int)<=((a3.cg.aK.ag.length:Nat):Int)/\((a3.cg.aK.ag.length:Nat):Int)<=(a3.cg.aK.ag.length:Int)) <|
        thn (dR (a3.cg.aK.ag.drop a1.left.graph.ag.length) r27.1.lD.ag) λr29 =>
        cond r28.2 (
         cond r29.2 (
          thn (gC a0 a2 r27.1.after (⟨⟨r28.1,r29.1⟩,[]⟩:aS)) λr30 =>
          cond (decide (r30.2=0)) (
           some (r27.1,r30.1,0)) <|
          some ((⟨(⟨(⟨#[]⟩:ByteArray),(⟨(⟨([]:List Int),([]:List Edge)⟩:au),([]:List aG),0,([]:List aH)⟩:ak),(⟨(⟨([]:List Int),([]:List Edge)⟩:au),([]:List aG),0,([]:List aH)⟩:ak),(⟨([]:List Int),([]:List Int)⟩:aO),(⟨([]:List Int),([]:List Int)⟩:ah),false,(⟨0,([]:List aj),(⟨([]:List Int),([]:List Int)⟩:ah),(⟨(⟨([]:List Int),([]:List Edge)⟩:au),([]:List aG),0,([]:List aH)⟩:ak)⟩:aj)⟩:aF),(⟨(⟨([]:List Int),([]:List Int)⟩:ah),([]:List Int)⟩:aS),(⟨(⟨([]:List Int),([]:List Edge)⟩:au),([]:List (List Int))⟩:Host),(⟨(⟨([]:List Int),([]:List Edge)⟩:au),([]:List (List Int))⟩:Host),(⟨([]:List Int),([]:List Int)⟩:ah),(⟨([]:List Int),([]:List Int)⟩:ah)⟩:bB),(⟨(⟨(⟨#[]⟩:ByteArray),(⟨(⟨([]:List Int),([]:List Edge)⟩:au),([]:List aG),0,([]:List aH)⟩:ak),(⟨(⟨([]:List Int),([]:List Edge)⟩:au),([]:List aG),0,([]:List aH)⟩:ak),(⟨([]:List Int),([]:List Int)⟩:aO),(⟨([]:List Int),([]:List Int)⟩:ah),false,(⟨0,([]:List aj),(⟨([]:List Int),([]:List Int)⟩:ah),(⟨(⟨([]:List Int),([]:List Edge)⟩:au),([]:List aG),0,([]:List aH)⟩:ak)⟩:aj)⟩:aF),(⟨(⟨([]:List Int),([]:List Int)⟩:ah),([]:List Int)⟩:aS),(⟨(⟨([]:List Int),([]:List Edge)⟩:au),([]:List (List Int))⟩:Host),(⟨(⟨([]:List Int),([]:List Edge)⟩:au),([]:List (List Int))⟩:Host),(⟨([]:List Int),([]:List Int)⟩:ah),(⟨([]:List Int),([]:List Int)⟩:ah)⟩:bB),r30.2)) <|
         some ((⟨(⟨(⟨#[]⟩:ByteArray),(⟨(⟨([]:List Int),([]:List Edge)⟩:au),([]:List aG),0,([]:List aH)⟩:ak),(⟨(⟨([]:List Int),([]:List Edge)⟩:au),([]:List aG),0,([]:List aH)⟩:ak),(⟨([]:List Int),([]:List Int)⟩:aO),(⟨([]:List Int),([]:List Int)⟩:ah),false,(⟨0,([]:List aj),(⟨([]:List Int),([]:List Int)⟩:ah),(⟨(⟨([]:List Int),([]:List Edge)⟩:au),([]:List aG),0,([]:List aH)⟩:ak)⟩:aj)⟩:aF),(⟨(⟨([]:List Int),([]:List Int)⟩:ah),([]:List Int)⟩:aS),(⟨(⟨([]:List Int),([]:List Edge)⟩:au),([]:List (List Int))⟩:Host),(⟨(⟨([]:List Int),([]:List Edge)⟩:au),([]:List (List Int))⟩:Host),(⟨([]:List Int),([]:List Int)⟩:ah),(⟨([]:List Int),([]:List Int)⟩:ah)⟩:bB),(⟨(⟨(⟨#[]⟩:ByteArray),(⟨(⟨([]:List Int),([]:List Edge)⟩:au),([]:List aG),0,([]:List aH)⟩:ak),(⟨(⟨([]:List Int),([]:List Edge)⟩:au),([]:List aG),0,([]:List aH)⟩:ak),(⟨([]:List Int),([]:List Int)⟩:aO),(⟨([]:List Int),([]:List Int)⟩:ah),false,(⟨0,([]:List aj),(⟨([]:List Int),([]:List Int)⟩:ah),(⟨(⟨([]:List Int),([]:List Edge)⟩:au),([]:List aG),0,([]:List aH)⟩:ak)⟩:aj)⟩:aF),(⟨(⟨([]:List Int),([]:List Int)⟩:ah),([]:List Int)⟩:aS),(⟨(⟨([]:List Int),([]:List Edge)⟩:au),([]:List (List Int))⟩:Host),(⟨(⟨([]:List Int),([]:List Edge)⟩:au),([]:List (List Int))⟩:Host),(⟨([]:List Int),([]:List Int)⟩:ah),(⟨([]:List Int),([]:List Int)⟩:ah)⟩:bB),1)) <|
        some ((⟨(⟨(⟨#[]⟩:ByteArray),(⟨(⟨([]:List Int),([]:List Edge)⟩:au),([]:List aG),0,([]:List aH)⟩:ak),(⟨(⟨([]:List Int),([]:List Edge)⟩:au),([]:List aG),0,([]:List aH)⟩:ak),(⟨([]:List Int),([]:List Int)⟩:aO),(⟨([]:List Int),([]:List Int)⟩:ah),false,(⟨0,([]:List aj),(⟨([]:List Int),([]:List Int)⟩:ah),(⟨(⟨([]:List Int),([]:List Edge)⟩:au),([]:List aG),0,([]:List aH)⟩:ak)⟩:aj)⟩:aF),(⟨(⟨([]:List Int),([]:List Int)⟩:ah),([]:List Int)⟩:aS),(⟨(⟨([]:List Int),([]:List Edge)⟩:au),([]:List (List Int))⟩:Host),(⟨(⟨([]:List Int),([]:List Edge)⟩:au),([]:List (List Int))⟩:Host),(⟨([]:List Int),([]:List Int)⟩:ah),(⟨([]:List Int),([]:List Int)⟩:ah)⟩:bB),(⟨(⟨(⟨#[]⟩:ByteArray),(⟨(⟨([]:List Int),([]:List Edge)⟩:au),([]:List aG),0,([]:List aH)⟩:ak),(⟨(⟨([]:List Int),([]:List Edge)⟩:au),([]:List aG),0,([]:List aH)⟩:ak),(⟨([]:List Int),([]:List Int)⟩:aO),(⟨([]:List Int),([]:List Int)⟩:ah),false,(⟨0,([]:List aj),(⟨([]:List Int),([]:List Int)⟩:ah),(⟨(⟨([]:List Int),([]:List Edge)⟩:au),([]:List aG),0,([]:List aH)⟩:ak)⟩:aj)⟩:aF),(⟨(⟨([]:List Int),([]:List Int)⟩:ah),([]:List Int)⟩:aS),(⟨(⟨([]:List Int),([]:List Edge)⟩:au),([]:List (List Int))⟩:Host),(⟨(⟨([]:List Int),([]:List Edge)⟩:au),([]:List (List Int))⟩:Host),(⟨([]:List Int),([]:List Int)⟩:ah),(⟨([]:List Int),([]:List Int)⟩:ah)⟩:bB),1)) <|
       some ((⟨(⟨(⟨#[]⟩:ByteArray),(⟨(⟨([]:List Int),([]:List Edge)⟩:au),([]:List aG),0,([]:List aH)⟩:ak),(⟨(⟨([]:List Int),([]:List Edge)⟩:au),([]:List aG),0,([]:List aH)⟩:ak),(⟨([]:List Int),([]:List Int)⟩:aO),(⟨([]:List Int),([]:List Int)⟩:ah),false,(⟨0,([]:List aj),(⟨([]:List Int),([]:List Int)⟩:ah),(⟨(⟨([]:List Int),([]:List Edge)⟩:au),([]:List aG),0,([]:List aH)⟩:ak)⟩:aj)⟩:aF),(⟨(⟨([]:List Int),([]:List Int)⟩:ah),([]:List Int)⟩:aS),(⟨(⟨([]:List Int),([]:List Edge)⟩:au),([]:List (List Int))⟩:Host),(⟨(⟨([]:List Int),([]:List Edge)⟩:au),([]:List (List Int))⟩:Host),(⟨([]:List Int),([]:List Int)⟩:ah),(⟨([]:List Int),([]:List Int)⟩:ah)⟩:bB),(⟨(⟨(⟨#[]⟩:ByteArray),(⟨(⟨([]:List Int),([]:List Edge)⟩:au),([]:List aG),0,([]:List aH)⟩:ak),(⟨(⟨([]:List Int),([]:List Edge)⟩:au),([]:List aG),0,([]:List aH)⟩:ak),(⟨([]:List Int),([]:List Int)⟩:aO),(⟨([]:List Int),([]:List Int)⟩:ah),false,(⟨0,([]:List aj),(⟨([]:List Int),([]:List Int)⟩:ah),(⟨(⟨([]:List Int),([]:List Edge)⟩:au),([]:List aG),0,([]:List aH)⟩:ak)⟩:aj)⟩:aF),(⟨(⟨([]:List Int),([]:List Int)⟩:ah),([]:List Int)⟩:aS),(⟨(⟨([]:List Int),([]:List Edge)⟩:au),([]:List (List Int))⟩:Host),(⟨(⟨([]:List Int),([]:List Edge)⟩:au),([]:List (List Int))⟩:Host),(⟨([]:List Int),([]:List Int)⟩:ah),(⟨([]:List Int),([]:List Int)⟩:ah)⟩:bB),r27.2)) <|
      some ((⟨(⟨(⟨#[]⟩:ByteArray),(⟨(⟨([]:List Int),([]:List Edge)⟩:au),([]:List aG),0,([]:List aH)⟩:ak),(⟨(⟨([]:List Int),([]:List Edge)⟩:au),([]:List aG),0,([]:List aH)⟩:ak),(⟨([]:List Int),([]:List Int)⟩:aO),(⟨([]:List Int),([]:List Int)⟩:ah),false,(⟨0,([]:List aj),(⟨([]:List Int),([]:List Int)⟩:ah),(⟨(⟨([]:List Int),([]:List Edge)⟩:au),([]:List aG),0,([]:List aH)⟩:ak)⟩:aj)⟩:aF),(⟨(⟨([]:List Int),([]:List Int)⟩:ah),([]:List Int)⟩:aS),(⟨(⟨([]:List Int),([]:List Edge)⟩:au),([]:List (List Int))⟩:Host),(⟨(⟨([]:List Int),([]:List Edge)⟩:au),([]:List (List Int))⟩:Host),(⟨([]:List Int),([]:List Int)⟩:ah),(⟨([]:List Int),([]:List Int)⟩:ah)⟩:bB),(⟨(⟨(⟨#[]⟩:ByteArray),(⟨(⟨([]:List Int),([]:List Edge)⟩:au),([]:List aG),0,([]:List aH)⟩:ak),(⟨(⟨([]:List Int),([]:List Edge)⟩:au),([]:List aG),0,([]:List aH)⟩:ak),(⟨([]:List Int),([]:List Int)⟩:aO),(⟨([]:List Int),([]:List Int)⟩:ah),false,(⟨0,([]:List aj),(⟨([]:List Int),([]:List Int)⟩:ah),(⟨(⟨([]:List Int),([]:List Edge)⟩:au),([]:List aG),0,([]:List aH)⟩:ak)⟩:aj)⟩:aF),(⟨(⟨([]:List Int),([]:List Int)⟩:ah),([]:List Int)⟩:aS),(⟨(⟨([]:List Int),([]:List Edge)⟩:au),([]:List (List Int))⟩:Host),(⟨(⟨([]:List Int),([]:List Edge)⟩:au),([]:List (List Int))⟩:Host),(⟨([]:List Int),([]:List Int)⟩:ah),(⟨([]:List Int),([]:List Int)⟩:ah)⟩:bB),1)) <|
     some ((⟨(⟨(⟨#[]⟩:ByteArray),(⟨(⟨([]:List Int),([]:List Edge)⟩:au),([]:List aG),0,([]:List aH)⟩:ak),(⟨(⟨([]:List Int),([]:List Edge)⟩:au),([]:List aG),0,([]:List aH)⟩:ak),(⟨([]:List Int),([]:List Int)⟩:aO),(⟨([]:List Int),([]:List Int)⟩:ah),false,(⟨0,([]:List aj),(⟨([]:List Int),([]:List Int)⟩:ah),(⟨(⟨([]:List Int),([]:List Edge)⟩:au),([]:List aG),0,([]:List aH)⟩:ak)⟩:aj)⟩:aF),(⟨(⟨([]:List Int),([]:List Int)⟩:ah),([]:List Int)⟩:aS),(⟨(⟨([]:List Int),([]:List Edge)⟩:au),([]:List (List Int))⟩:Host),(⟨(⟨([]:List Int),([]:List Edge)⟩:au),([]:List (List Int))⟩:Host),(⟨([]:List Int),([]:List Int)⟩:ah),(⟨([]:List Int),([]:List Int)⟩:ah)⟩:bB),(⟨(⟨(⟨#[]⟩:ByteArray),(⟨(⟨([]:List Int),([]:List Edge)⟩:au),([]:List aG),0,([]:List aH)⟩:ak),(⟨(⟨([]:List Int),([]:List Edge)⟩:au),([]:List aG),0,([]:List aH)⟩:ak),(⟨([]:List Int),([]:List Int)⟩:aO),(⟨([]:List Int),([]:List Int)⟩:ah),false,(⟨0,([]:List aj),(⟨([]:List Int),([]:List Int)⟩:ah),(⟨(⟨([]:List Int),([]:List Edge)⟩:au),([]:List aG),0,([]:List aH)⟩:ak)⟩:aj)⟩:aF),(⟨(⟨([]:List Int),([]:List Int)⟩:ah),([]:List Int)⟩:aS),(⟨(⟨([]:List Int),([]:List Edge)⟩:au),([]:List (List Int))⟩:Host),(⟨(⟨([]:List Int),([]:List Edge)⟩:au),([]:List (List Int))⟩:Host),(⟨([]:List Int),([]:List Int)⟩:ah),(⟨([]:List Int),([]:List Int)⟩:ah)⟩:bB),1)) <|
    cA ((0:Int)<=0/\0<=((a1.left.graph.nodes.length:Nat):Int)/\((a1.left.graph.nodes.length:Nat):Int)<=(a3.cg.aK.nodes.length:Int)) <|
    thn (bp (a3.cg.aK.nodes.take a1.left.graph.nodes.length)) λr31 =>
    cA ((0:Int)<=0/\0<=((a1.left.graph.ag.length:Nat):Int)/\((a1.left.graph.ag.length:Nat):Int)<=(a3.cg.aK.ag.length:Int)) <|
    thn (bp (a3.cg.aK.ag.take a1.left.graph.ag.length)) λr32 =>
    thn (gC a0 a1 a3.before (⟨⟨r31,r32⟩,[]⟩:aS)) λr33 =>
    cond (decide (r33.2=0)) (
     cA ((0:Int)<=((a1.left.graph.nodes.length:Nat):Int)/\((a1.left.graph.nodes.length:Nat):Int)<=((a3.cg.aK.nodes.length:Nat):Int)/\((a3.cg.aK.nodes.length:Nat):Int)<=(a3.cg.aK.nodes.length:Int)) <|
     thn (dR (a3.cg.aK.nodes.drop a1.left.graph.nodes.length) r33.1.lD.nodes) λr34 =>
     cA ((0:Int)<=((a1.left.graph.ag.length:Nat):Int)/\((a1.left.graph.ag.length:Nat):Int)<=((a3.cg.aK.ag.length:Nat):Int)/\((a3.cg.aK.ag.length:Nat):Int)<=(a3.cg.aK.ag.length:Int)) <|
     thn (dR (a3.cg.aK.ag.drop a1.left.graph.ag.length) r33.1.lD.ag) λr35 =>
     cond r34.2 (
      cond r35.2 (
       thn (gC a0 a2 r33.1.after (⟨⟨r34.1,r35.1⟩,[]⟩:aS)) λr36 =>
       cond (decide (r36.2=0)) (
        some (r33.1,r36.1,0)) <|
       some ((⟨(⟨(⟨#[]⟩:ByteArray),(⟨(⟨([]:List Int),([]:List Edge)⟩:au),([]:List aG),0,([]:List aH)⟩:ak),(⟨(⟨([]:List Int),([]:List Edge)⟩:au),([]:List aG),0,([]:List aH)⟩:ak),(⟨([]:List Int),([]:List Int)⟩:aO),(⟨([]:List Int),([]:List Int)⟩:ah),false,(⟨0,([]:List aj),(⟨([]:List Int),([]:List Int)⟩:ah),(⟨(⟨([]:List Int),([]:List Edge)⟩:au),([]:List aG),0,([]:List aH)⟩:ak)⟩:aj)⟩:aF),(⟨(⟨([]:List Int),([]:List Int)⟩:ah),([]:List Int)⟩:aS),(⟨(⟨([]:List Int),([]:List Edge)⟩:au),([]:List (List Int))⟩:Host),(⟨(⟨([]:List Int),([]:List Edge)⟩:au),([]:List (List Int))⟩:Host),(⟨([]:List Int),([]:List Int)⟩:ah),(⟨([]:List Int),([]:List Int)⟩:ah)⟩:bB),(⟨(⟨(⟨#[]⟩:ByteArray),(⟨(⟨([]:List Int),([]:List Edge)⟩:au),([]:List aG),0,([]:List aH)⟩:ak),(⟨(⟨([]:List Int),([]:List Edge)⟩:au),([]:List aG),0,([]:List aH)⟩:ak),(⟨([]:List Int),([]:List Int)⟩:aO),(⟨([]:List Int),([]:List Int)⟩:ah),false,(⟨0,([]:List aj),(⟨([]:List Int),([]:List Int)⟩:ah),(⟨(⟨([]:List Int),([]:List Edge)⟩:au),([]:List aG),0,([]:List aH)⟩:ak)⟩:aj)⟩:aF),(⟨(⟨([]:List Int),([]:List Int)⟩:ah),([]:List Int)⟩:aS),(⟨(⟨([]:List Int),([]:List Edge)⟩:au),([]:List (List Int))⟩:Host),(⟨(⟨([]:List Int),([]:List Edge)⟩:au),([]:List (List Int))⟩:Host),(⟨([]:List Int),([]:List Int)⟩:ah),(⟨([]:List Int),([]:List Int)⟩:ah)⟩:bB),r36.2)) <|
      some ((⟨(⟨(⟨#[]⟩:ByteArray),(⟨(⟨([]:List Int),([]:List Edge)⟩:au),([]:List aG),0,([]:List aH)⟩:ak),(⟨(⟨([]:List Int),([]:List Edge)⟩:au),([]:List aG),0,([]:List aH)⟩:ak),(⟨([]:List Int),([]:List Int)⟩:aO),(⟨([]:List Int),([]:List Int)⟩:ah),false,(⟨0,([]:List aj),(⟨([]:List Int),([]:List Int)⟩:ah),(⟨(⟨([]:List Int),([]:List Edge)⟩:au),([]:List aG),0,([]:List aH)⟩:ak)⟩:aj)⟩:aF),(⟨(⟨([]:List Int),([]:List Int)⟩:ah),([]:List Int)⟩:aS),(⟨(⟨([]:List Int),([]:List Edge)⟩:au),([]:List (List Int))⟩:Host),(⟨(⟨([]:List Int),([]:List Edge)⟩:au),([]:List (List Int))⟩:Host),(⟨([]:List Int),([]:List Int)⟩:ah),(⟨([]:List Int),([]:List Int)⟩:ah)⟩:bB),(⟨(⟨(⟨#[]⟩:ByteArray),(⟨(⟨([]:List Int),([]:List Edge)⟩:au),([]:List aG),0,([]:List aH)⟩:ak),(⟨(⟨([]:List Int),([]:List Edge)⟩:au),([]:List aG),0,([]:List aH)⟩:ak),(⟨([]:List Int),([]:List Int)⟩:aO),(⟨([]:List Int),([]:List Int)⟩:ah),false,(⟨0,([]:List aj),(⟨([]:List Int),([]:List Int)⟩:ah),(⟨(⟨([]:List Int),([]:List Edge)⟩:au),([]:List aG),0,([]:List aH)⟩:ak)⟩:aj)⟩:aF),(⟨(⟨([]:List Int),([]:List Int)⟩:ah),([]:List Int)⟩:aS),(⟨(⟨([]:List Int),([]:List Edge)⟩:au),([]:List (List Int))⟩:Host),(⟨(⟨([]:List Int),([]:List Edge)⟩:au),([]:List (List Int))⟩:Host),(⟨([]:List Int),([]:List Int)⟩:ah),(⟨([]:List Int),([]:List Int)⟩:ah)⟩:bB),1)) <|
     some ((⟨(⟨(⟨#[]⟩:ByteArray),(⟨(⟨([]:List Int),([]:List Edge)⟩:au),([]:List aG),0,([]:List aH)⟩:ak),(⟨(⟨([]:List Int),([]:List Edge)⟩:au),([]:List aG),0,([]:List aH)⟩:ak),(⟨([]:List Int),([]:List Int)⟩:aO),(⟨([]:List Int),([]:List Int)⟩:ah),false,(⟨0,([]:List aj),(⟨([]:List Int),([]:List Int)⟩:ah),(⟨(⟨([]:List Int),([]:List Edge)⟩:au),([]:List aG),0,([]:List aH)⟩:ak)⟩:aj)⟩:aF),(⟨(⟨([]:List Int),([]:List Int)⟩:ah),([]:List Int)⟩:aS),(⟨(⟨([]:List Int),([]:List Edge)⟩:au),([]:List (List Int))⟩:Host),(⟨(⟨([]:List Int),([]:List Edge)⟩:au),([]:List (List Int))⟩:Host),(⟨([]:List Int),([]:List Int)⟩:ah),(⟨([]:List Int),([]:List Int)⟩:ah)⟩:bB),(⟨(⟨(⟨#[]⟩:ByteArray),(⟨(⟨([]:List Int),([]:List Edge)⟩:au),([]:List aG),0,([]:List aH)⟩:ak),(⟨(⟨([]:List Int),([]:List Edge)⟩:au),([]:List aG),0,([]:List aH)⟩:ak),(⟨([]:List Int),([]:List Int)⟩:aO),(⟨([]:List Int),([]:List Int)⟩:ah),false,(⟨0,([]:List aj),(⟨([]:List Int),([]:List Int)⟩:ah),(⟨(⟨([]:List Int),([]:List Edge)⟩:au),([]:List aG),0,([]:List aH)⟩:ak)⟩:aj)⟩:aF),(⟨(⟨([]:List Int),([]:List Int)⟩:ah),([]:List Int)⟩:aS),(⟨(⟨([]:List Int),([]:List Edge)⟩:au),([]:List (List Int))⟩:Host),(⟨(⟨([]:List Int),([]:List Edge)⟩:au),([]:List (List Int))⟩:Host),(⟨([]:List Int),([]:List Int)⟩:ah),(⟨([]:List Int),([]:List Int)⟩:ah)⟩:bB),1)) <|
    some ((⟨(⟨(⟨#[]⟩:ByteArray),(⟨(⟨([]:List Int),([]:List Edge)⟩:au),([]:List aG),0,([]:List aH)⟩:ak),(⟨(⟨([]:List Int),([]:List Edge)⟩:au),([]:List aG),0,([]:List aH)⟩:ak),(⟨([]:List Int),([]:List Int)⟩:aO),(⟨([]:List Int),([]:List Int)⟩:ah),false,(⟨0,([]:List aj),(⟨([]:List Int),([]:List Int)⟩:ah),(⟨(⟨([]:List Int),([]:List Edge)⟩:au),([]:List aG),0,([]:List aH)⟩:ak)⟩:aj)⟩:aF),(⟨(⟨([]:List Int),([]:List Int)⟩:ah),([]:List Int)⟩:aS),(⟨(⟨([]:List Int),([]:List Edge)⟩:au),([]:List (List Int))⟩:Host),(⟨(⟨([]:List Int),([]:List Edge)⟩:au),([]:List (List Int))⟩:Host),(⟨([]:List Int),([]:List Int)⟩:ah),(⟨([]:List Int),([]:List Int)⟩:ah)⟩:bB),(⟨(⟨(⟨#[]⟩:ByteArray),(⟨(⟨([]:List Int),([]:List Edge)⟩:au),([]:List aG),0,([]:List aH)⟩:ak),(⟨(⟨([]:List Int),([]:List Edge)⟩:au),([]:List aG),0,([]:List aH)⟩:ak),(⟨([]:List Int),([]:List Int)⟩:aO),(⟨([]:List Int),([]:List Int)⟩:ah),false,(⟨0,([]:List aj),(⟨([]:List Int),([]:List Int)⟩:ah),(⟨(⟨([]:List Int),([]:List Edge)⟩:au),([]:List aG),0,([]:List aH)⟩:ak)⟩:aj)⟩:aF),(⟨(⟨([]:List Int),([]:List Int)⟩:ah),([]:List Int)⟩:aS),(⟨(⟨([]:List Int),([]:List Edge)⟩:au),([]:List (List Int))⟩:Host),(⟨(⟨([]:List Int),([]:List Edge)⟩:au),([]:List (List Int))⟩:Host),(⟨([]:List Int),([]:List Int)⟩:ah),(⟨([]:List Int),([]:List Int)⟩:ah)⟩:bB),r33.2)) <|
   some ((⟨(⟨(⟨#[]⟩:ByteArray),(⟨(⟨([]:List Int),([]:List Edge)⟩:au),([]:List aG),0,([]:List aH)⟩:ak),(⟨(⟨([]:List Int),([]:List Edge)⟩:au),([]:List aG),0,([]:List aH)⟩:ak),(⟨([]:List Int),([]:List Int)⟩:aO),(⟨([]:List Int),([]:List Int)⟩:ah),false,(⟨0,([]:List aj),(⟨([]:List Int),([]:List Int)⟩:ah),(⟨(⟨([]:List Int),([]:List Edge)⟩:au),([]:List aG),0,([]:List aH)⟩:ak)⟩:aj)⟩:aF),(⟨(⟨([]:List Int),([]:List Int)⟩:ah),([]:List Int)⟩:aS),(⟨(⟨([]:List Int),([]:List Edge)⟩:au),([]:List (List Int))⟩:Host),(⟨(⟨([]:List Int),([]:List Edge)⟩:au),([]:List (List Int))⟩:Host),(⟨([]:List Int),([]:List Int)⟩:ah),(⟨([]:List Int),([]:List Int)⟩:ah)⟩:bB),(⟨(⟨(⟨#[]⟩:ByteArray),(⟨(⟨([]:List Int),([]:List Edge)⟩:au),([]:List aG),0,([]:List aH)⟩:ak),(⟨(⟨([]:List Int),([]:List Edge)⟩:au),([]:List aG),0,([]:List aH)⟩:ak),(⟨([]:List Int),([]:List Int)⟩:aO),(⟨([]:List Int),([]:List Int)⟩:ah),false,(⟨0,([]:List aj),(⟨([]:List Int),([]:List Int)⟩:ah),(⟨(⟨([]:List Int),([]:List Edge)⟩:au),([]:List aG),0,([]:List aH)⟩:ak)⟩:aj)⟩:aF),(⟨(⟨([]:List Int),([]:List Int)⟩:ah),([]:List Int)⟩:aS),(⟨(⟨([]:List Int),([]:List Edge)⟩:au),([]:List (List Int))⟩:Host),(⟨(⟨([]:List Int),([]:List Edge)⟩:au),([]:List (List Int))⟩:Host),(⟨([]:List Int),([]:List Int)⟩:ah),(⟨([]:List Int),([]:List Int)⟩:ah)⟩:bB),1)) <|
  some ((⟨(⟨(⟨#[]⟩:ByteArray),(⟨(⟨([]:List Int),([]:List Edge)⟩:au),([]:List aG),0,([]:List aH)⟩:ak),(⟨(⟨([]:List Int),([]:List Edge)⟩:au),([]:List aG),0,([]:List aH)⟩:ak),(⟨([]:List Int),([]:List Int)⟩:aO),(⟨([]:List Int),([]:List Int)⟩:ah),false,(⟨0,([]:List aj),(⟨([]:List Int),([]:List Int)⟩:ah),(⟨(⟨([]:List Int),([]:List Edge)⟩:au),([]:List aG),0,([]:List aH)⟩:ak)⟩:aj)⟩:aF),(⟨(⟨([]:List Int),([]:List Int)⟩:ah),([]:List Int)⟩:aS),(⟨(⟨([]:List Int),([]:List Edge)⟩:au),([]:List (List Int))⟩:Host),(⟨(⟨([]:List Int),([]:List Edge)⟩:au),([]:List (List Int))⟩:Host),(⟨([]:List Int),([]:List Int)⟩:ah),(⟨([]:List Int),([]:List Int)⟩:ah)⟩:bB),(⟨(⟨(⟨#[]⟩:ByteArray),(⟨(⟨([]:List Int),([]:List Edge)⟩:au),([]:List aG),0,([]:List aH)⟩:ak),(⟨(⟨([]:List Int),([]:List Edge)⟩:au),([]:List aG),0,([]:List aH)⟩:ak),(⟨([]:List Int),([]:List Int)⟩:aO),(⟨([]:List Int),([]:List Int)⟩:ah),false,(⟨0,([]:List aj),(⟨([]:List Int),([]:List Int)⟩:ah),(⟨(⟨([]:List Int),([]:List Edge)⟩:au),([]:List aG),0,([]:List aH)⟩:ak)⟩:aj)⟩:aF),(⟨(⟨([]:List Int),([]:List Int)⟩:ah),([]:List Int)⟩:aS),(⟨(⟨([]:List Int),([]:List Edge)⟩:au),([]:List (List Int))⟩:Host),(⟨(⟨([]:List Int),([]:List Edge)⟩:au),([]:List (List Int))⟩:Host),(⟨([]:List Int),([]:List Int)⟩:ah),(⟨([]:List Int),([]:List Int)⟩:ah)⟩:bB),1)) <|
 some ((⟨⟨⟨#[]⟩,⟨⟨[],[]⟩,[],0,[]⟩,⟨⟨[],[]⟩,[],0,[]⟩,⟨[],[]⟩,⟨[],[]⟩,false,⟨0,[],⟨[],[]⟩,⟨⟨[],[]⟩,[],0,[]⟩⟩⟩,⟨⟨[],[]⟩,[]⟩,⟨⟨[],[]⟩,[]⟩,⟨⟨[],[]⟩,[]⟩,⟨[],[]⟩,⟨[],[]⟩⟩:bB),(⟨⟨⟨#[]⟩,⟨⟨[],[]⟩,[],0,[]⟩,⟨⟨[],[]⟩,[],0,[]⟩,⟨[],[]⟩,⟨[],[]⟩,false,⟨0,[],⟨[],[]⟩,⟨⟨[],[]⟩,[],0,[]⟩⟩⟩,⟨⟨[],[]⟩,[]⟩,⟨⟨[],[]⟩,[]⟩,⟨⟨[],[]⟩,[]⟩,⟨[],[]⟩,⟨[],[]⟩⟩:bB),r4.2.2.2)
def bT  : Option Bool :=
 thn (ku) λr1 =>
 thn (mg) λr2 =>
 thn (gL r1 r2 r2) λr3 =>
 thn (gh r1 r2 r2 (⟨⟨[3],[]⟩,⟨[0],[]⟩,⟨[0],[]⟩⟩:cM)) λr4 =>
 cond (decide (r3.2.2.2=0)) (
  cond (decide (r4.2=0)) (
   thn (bu r3.2.1.nodes [0]) λr5 =>
   cond r5 (
    thn (bu r3.2.2.1.nodes [1]) λr6 =>
    cond r6 (
     thn (bu r3.1.left.graph.nodes [3,3]) λr7 =>
     cond r7 (
      thn (bu r3.1.right.graph.nodes [3,1,3,1]) λr8 =>
      cond r8 (
       thn (gC r1 r3.1 (⟨⟨[3],[]⟩,[([]:List Int)]⟩:Host) (⟨⟨[0,0],[]⟩,[]⟩:aS)) λr9 =>
       thn (qN r1 r2 r2 r9.1) λoZ =>
       cond (decide (r9.2=0)) (
        cond (decide (oZ.2.2=0)) (
         thn (bu r4.1.right.graph.nodes [3,1,1]) λqg =>
         cond qg (
          cond (decide (((oZ.1.after.graph.nodes.length:Nat):Int)=2)) (
           thn (bu oZ.2.1.after.graph.nodes [3,1,1]) λvM =>
           some vM) <|
          some false) <|
         some false) <|
        some false) <|
       some false) <|
      some false) <|
     some false) <|
    some false) <|
   some false) <|
  some false) <|
 some false
def iK(a0:Types):Option Bool :=
 cond (decide (20<((a0.nodes.length:Nat):Int))) (
  some false) <|
 cond (decide (30<((a0.ag.length:Nat):Int))) (
  some false) <|
 cA (a0.nodes.length<=fuel) <|
 bH (λi1 (s1:Int) sE afX =>
  thn (a0.nodes[i1]?) λe2 =>
  cond (decide (30<(i64.wrap (s1+((e2.attrs.length:Nat):Int))))) (
   some false) <|
  cond (decide (40<((e2.name.size:Nat):Int))) (
   some false) <|
  cA (e2.attrs.length<=fuel) <|
  bH (λi3 (s3:Unit) eG n8 =>
   thn (e2.attrs[i3]?) λe4 =>
   cond (decide (40<((e4.name.size:Nat):Int))) (
    some false) <|
   cond (decide (25<((e4.names.length:Nat):Int))) (
    some false) <|
   cA (e4.names.length<=fuel) <|
   bH (λi5 (s5:Unit) tY afW =>
    thn (e4.names[i5]?) λe6 =>
    cond (decide (40<((e6.size:Nat):Int))) (
     some false) <|
    tY ())
   (e4.names.length-0) 0 () λs5 =>
   eG ())
  (e2.attrs.length-0) 0 () λs3 =>
  sE (i64.wrap (s1+((e2.attrs.length:Nat):Int))))
 (a0.nodes.length-0) 0 0 λs1 =>
 cA (a0.ag.length<=fuel) <|
 bH (λi7 (s7:Unit) abd apU =>
  thn (a0.ag[i7]?) λe8 =>
  cond (decide (40<((e8.name.size:Nat):Int))) (
   some false) <|
  abd ())
 (a0.ag.length-0) 0 () λs7 =>
 some true
def ju(a0:List aF)(p1:aF->Option Bool):Option Int :=
 cA (a0.length<=fuel) <|
 bH (λi2 (s2:Unit) bU gT =>
  thn (a0[i2]?) λe3 =>
  thn (p1 e3) λr4 =>
  cond r4 (
   some ((i2:Nat):Int)) <|
  bU ())
 (a0.length-0) 0 () λs2 =>
 some (-1)
def ie(a0:List aF)(p1:aF->Option Bool):Option Bool :=
 thn (ju a0 p1) λr2 =>
 some (decide (0<=r2))
def gi(a0:au):Option Bool :=
 cond (decide (((a0.nodes.length:Nat):Int)<=45)) (
  some (decide (((a0.ag.length:Nat):Int)<=90))) <|
 some false
def eR(a0:ak):Option Bool :=
 thn (gi a0.graph) λr1 =>
 cond r1 (
  cond (decide (((a0.slots.length:Nat):Int)<=15)) (
   some (decide (((a0.tests.length:Nat):Int)<=15))) <|
  some false) <|
 some false
def iL(a0:aO)(a1:Int):Option Bool:=some (decide ((i64.wrap (((a0.nodes.length:Nat):Int)+((a0.ag.length:Nat):Int)))<=a1))
def cP(a0:ah)(a1:Int):Option Bool:=some (decide ((i64.wrap (((a0.nodes.length:Nat):Int)+((a0.ag.length:Nat):Int)))<=a1))
def fH:Nat->aj->Int ->  Option Int
  |0,_,_=>none
  |n+1,a0,a1 =>
    thn (eR a0.pattern) λr2 =>
    cond r2 (
     thn (cP a0.map 140) λr3 =>
     cond r3 (
      iter (λ(s4:Int×Int) kg pT =>
       cond (decide (s4.2<((a0.kids.length:Nat):Int))) (
        cond (decide (0<=s4.1)) (
         thn (jd a0.kids s4.2) λe5 =>
         thn (fH n e5 s4.1) λr6 =>
         kg (r6,(i64.wrap (s4.2+1)))) <|
        pT (s4.1,s4.2)) <|
       pT (s4.1,s4.2))
      fuel ((i64.wrap (a1-1)),0) λs4 =>
      some s4.1) <|
     some (-1)) <|
    some (-1)
def j6(a0:aj):Option Bool :=
 thn (fH fuel a0 40) λr1 =>
 some (decide (0<=r1))
def gj(a0:aF):Option Bool :=
 cond (decide (((a0.name.size:Nat):Int)<=60)) (
  thn (eR a0.left) λr1 =>
  cond r1 (
   thn (eR a0.right) λr2 =>
   cond r2 (
    thn (iL a0.keep 140) λr3 =>
    cond r3 (
     thn (cP a0.into 140) λr4 =>
     cond r4 (
      thn (j6 a0.condition) λr5 =>
      some r5) <|
     some false) <|
    some false) <|
   some false) <|
  some false) <|
 some false
def eA(a0:aF):Option Bool :=
 thn (gj (⟨a0.name,a0.left,a0.right,a0.keep,a0.into,a0.injective,a0.condition⟩:aF)) λr1 =>
 some (!r1)
def dZ(a0:Types)(a1:List aF):Option Bool :=
 thn (iK a0) λr2 =>
 cond r2 (
  thn (ie a1 (λx3=>eA x3)) λr4 =>
  some (!r4)) <|
 some false
def ff(a0:Types)(a1:au):Option Bool :=
 cA (a1.nodes.length<=fuel) <|
 bH (λi2 (s2:Unit) bU gT =>
  thn (a1.nodes[i2]?) λe3 =>
  cond (decide (e3<0)) (
   some false) <|
  cond (decide (((a0.nodes.length:Nat):Int)<=e3)) (
   some false) <|
  bU ())
 (a1.nodes.length-0) 0 () λs2 =>
 cA (a1.ag.length<=fuel) <|
 bH (λi4 (s4:Unit) kg pT =>
  thn (a1.ag[i4]?) λe5 =>
  cond (decide (e5.type<0)) (
   some false) <|
  cond (decide (((a0.ag.length:Nat):Int)<=e5.type)) (
   some false) <|
  kg ())
 (a1.ag.length-0) 0 () λs4 =>
 some true
def ig(a0:Types)(a1:ak)(a2:Int)(a3:Int):Option (Attr×Bool) :=
 cond (decide (a2<0)) (
  some ((⟨(⟨#[]⟩:ByteArray),0,0,([]:List ByteArray)⟩:Attr),false)) <|
 cond (decide (((a1.graph.nodes.length:Nat):Int)<=a2)) (
  some ((⟨(⟨#[]⟩:ByteArray),0,0,([]:List ByteArray)⟩:Attr),false)) <|
 thn (jd a1.graph.nodes a2) λe4 =>
 thn (jr a0 e4) λr5 =>
 cond (decide (r5.2=0)) (
  cond (decide (a3<0)) (
   some ((⟨(⟨#[]⟩:ByteArray),0,0,([]:List ByteArray)⟩:Attr),false)) <|
  cond (decide (((r5.1.length:Nat):Int)<=a3)) (
   some ((⟨(⟨#[]⟩:ByteArray),0,0,([]:List ByteArray)⟩:Attr),false)) <|
  thn (jd r5.1 a3) λe6 =>
  some (e6,true)) <|
 some ((⟨⟨#[]⟩,0,0,[]⟩:Attr),false)
def iF(a0:Int):Option Bool :=
 cond (decide ((-1000000)<=a0)) (
  some (decide (a0<=1000000))) <|
 some false
def c9(a0:Int)(a1:pP):Option Int :=
 cond (decide (a1.var<(-1))) (
  some 6) <|
 cond (decide (a0<=a1.var)) (
  some 6) <|
 cond (decide (a1.add<(-1000000))) (
  some 6) <|
 cond (decide (1000000<a1.add)) (
  some 6) <|
 some 0
def iM(a0:Int)(a1:aH):Option Int :=
 cond (decide (a1.kind=1)) (
  thn (c9 a0 a1.left) λr2 =>
  cond (decide (r2=0)) (
   thn (c9 a0 a1.right) λr3 =>
   some r3) <|
  some r2) <|
 cond (decide (a1.kind=2)) (
  thn (c9 a0 a1.left) λr4 =>
  cond (decide (r4=0)) (
   thn (c9 a0 a1.right) λr5 =>
   some r5) <|
  some r4) <|
 some 1
def gN(a0:Int)(a1:List aH):Option Int :=
 cond (decide (a0<0)) (
  some 6) <|
 cond (decide (12<a0)) (
  some 6) <|
 cond (decide (40<((a1.length:Nat):Int))) (
  some 3) <|
 cA (a1.length<=fuel) <|
 bH (λi2 (s2:Unit) bU gT =>
  thn (a1[i2]?) λe3 =>
  thn (iM a0 e3) λr4 =>
  cond (decide (r4=0)) (
   bU ()) <|
  some r4)
 (a1.length-0) 0 () λs2 =>
 some 0
def gp(a0:ak)(a1:Int):Option Bool :=
 cA (a0.slots.length<=fuel) <|
 bH (λi2 (s2:Unit) bU gT =>
  thn (a0.slots[i2]?) λe3 =>
  cond (decide (e3.term.var=a1)) (
   some true) <|
  bU ())
 (a0.slots.length-0) 0 () λs2 =>
 some false
def ef(a0:Types)(a1:ak):Option Int :=
 thn (gH a0) λr2 =>
 cond (decide (r2.2=0)) (
  thn (bM a1.graph) λr3 =>
  cond (decide (r3=0)) (
   thn (ff a0 a1.graph) λr4 =>
   cond r4 (
    cond (decide (a1.vars<0)) (
     some 6) <|
    cond (decide (12<a1.vars)) (
     some 6) <|
    cond (decide (10<((a1.slots.length:Nat):Int))) (
     some 3) <|
    cond (decide (10<((a1.tests.length:Nat):Int))) (
     some 3) <|
    cA (a1.slots.length<=fuel) <|
    bH (λi5 (s5:Unit) tY afW =>
     thn (a1.slots[i5]?) λe6 =>
     thn (ig (⟨a0.nodes,a0.ag⟩:Types) a1 e6.node e6.attr) λr7 =>
     cond r7.2 (
      cond (decide (e6.term.var<(-1))) (
       some 6) <|
      cond (decide (a1.vars<=e6.term.var)) (
       some 6) <|
      thn (iF e6.term.add) λr8 =>
      cond r8 (
       tY ()) <|
      some 6) <|
     some 6)
    (a1.slots.length-0) 0 () λs5 =>
    thn (gN a1.vars a1.tests) λr9 =>
    cond (decide (r9=0)) (
     cA (a1.vars.toNat<=fuel) <|
     bH (λi10 (s10:Unit) aAw aFx =>
      thn (gp (⟨a1.graph,a1.slots,a1.vars,a1.tests⟩:ak) ((i10:Nat):Int)) λqg =>
      cond qg (
       aAw ()) <|
      some 9)
     (a1.vars.toNat-0) 0 () λs10 =>
     some 0) <|
    some r9) <|
   some 13) <|
  some r3) <|
 some r2.2
def ij(a0:Types)(a1:ak)(a2:Int):Option Int :=
 thn (jd a1.slots a2) λe3 =>
 cond (decide (e3.node<0)) (
  some 6) <|
 cond (decide (((a1.graph.nodes.length:Nat):Int)<=e3.node)) (
  some 6) <|
 thn (jd a1.graph.nodes e3.node) λe4 =>
 thn (jr a0 e4) λr5 =>
 cond (decide (e3.attr<0)) (
  some 6) <|
 cond (decide (((r5.1.length:Nat):Int)<=e3.attr)) (
  some 6) <|
 cond (decide (e3.term.var<(-1))) (
  some 6) <|
 cond (decide (a1.vars<=e3.term.var)) (
  some 6) <|
 cond (decide (e3.term.add<(-1000000))) (
  some 6) <|
 cond (decide (1000000<e3.term.add)) (
  some 6) <|
 cA (a2.toNat<=fuel) <|
 bH (λi6 (s6:Unit) sD ahN =>
  thn (a1.slots[i6]?) λe7 =>
  cond (decide (e7.node=e3.node)) (
   cond (decide (e7.attr=e3.attr)) (
    some 5) <|
   sD ()) <|
  sD ())
 (a2.toNat-0) 0 () λs6 =>
 some 0
def gO(a0:Types)(a1:aF):Option Int :=
 thn (bM a1.right.graph) λr2 =>
 cond (decide (r2=0)) (
  thn (ff a0 a1.right.graph) λr3 =>
  cond r3 (
   cond (decide (a1.right.vars=a1.left.vars)) (
    cond (decide (0<((a1.right.tests.length:Nat):Int))) (
     some 1) <|
    cond (decide (10<((a1.right.slots.length:Nat):Int))) (
     some 3) <|
    cA (a1.right.slots.length<=fuel) <|
    bH (λi4 (s4:Unit) kg pT =>
     thn (ij a0 a1.right ((i4:Nat):Int)) λr5 =>
     cond (decide (r5=0)) (
      kg ()) <|
     some r5)
    (a1.right.slots.length-0) 0 () λs4 =>
    some 0) <|
   some 1) <|
  some 13) <|
 some r2
def eY(a0:List Int)(a1:Int):Option Int :=
 cA (a0.length<=fuel) <|
 bH (λi2 (s2:Unit) bU gT =>
  thn (a0[i2]?) λe3 =>
  cond (decide (e3<0)) (
   some 6) <|
  cond (decide (a1<=e3)) (
   some 6) <|
  cond (decide (0<((i2:Nat):Int))) (
   thn (jd a0 (i64.wrap (((i2:Nat):Int)-1))) λe4 =>
   cond (decide (e3<=e4)) (
    some 12) <|
   bU ()) <|
  bU ())
 (a0.length-0) 0 () λs2 =>
 some 0
def dX(a0:List Int)(a1:Int):Option Bool :=
 cA (a0.length<=fuel) <|
 bH (λi2 (s2:Unit) bU gT =>
  thn (a0[i2]?) λe3 =>
  cond (decide (e3=a1)) (
   some true) <|
  bU ())
 (a0.length-0) 0 () λs2 =>
 some false
def cx(a0:au)(a1:aO):Option Int :=
 thn (eY a1.nodes ((a0.nodes.length:Nat):Int)) λr2 =>
 cond (decide (r2=0)) (
  thn (eY a1.ag ((a0.ag.length:Nat):Int)) λr3 =>
  cond (decide (r3=0)) (
   cA (a1.ag.length<=fuel) <|
   bH (λi4 (s4:Unit) kg pT =>
    thn (a1.ag[i4]?) λe5 =>
    thn (jd a0.ag e5) λe6 =>
    thn (dX a1.nodes e6.src) λr7 =>
    cond r7 (
     thn (dX a1.nodes e6.dst) λr8 =>
     cond r8 (
      kg ()) <|
     some 14) <|
    some 14)
   (a1.ag.length-0) 0 () λs4 =>
   some 0) <|
  some r3) <|
 some r2
def b8(a0:au)(a1:aO):Option Int :=
 thn (bM a0) λr2 =>
 cond (decide (r2=0)) (
  thn (cx (⟨a0.nodes,a0.ag⟩:au) (⟨a1.nodes,a1.ag⟩:aO)) λr3 =>
  some r3) <|
 some r2
def fh(a0:List Int)(a1:Int):Option Int :=
 cA (a0.length<=fuel) <|
 bH (λi2 (s2:Unit) bU gT =>
  thn (a0[i2]?) λe3 =>
  cond (decide (e3=a1)) (
   some ((i2:Nat):Int)) <|
  bU ())
 (a0.length-0) 0 () λs2 =>
 some (-1)
def fR(a0:au)(a1:aO):Option (au×ah×Int) :=
 thn (b8 a0 a1) λr2 =>
 cond (decide (r2=0)) (
  cA (a1.nodes.length<=fuel) <|
  bH (λi3 (s3:(List Int)) eG n8 =>
   thn (a1.nodes[i3]?) λe4 =>
   thn (jd a0.nodes e4) λe5 =>
   cA (s3.length+1<=68719476736) <|
   eG (s3++[e5]))
  (a1.nodes.length-0) 0 ([]:List Int) λs3 =>
  cA (a1.ag.length<=fuel) <|
  bH (λi6 (s6:(List Edge)) sD ahN =>
   thn (a1.ag[i6]?) λe7 =>
   thn (jd a0.ag e7) λe8 =>
   thn (fh a1.nodes e8.src) λr9 =>
   thn (fh a1.nodes e8.dst) λoZ =>
   cA (s6.length+1<=68719476736) <|
   sD (s6++[(⟨e8.type,r9,oZ⟩:Edge)]))
  (a1.ag.length-0) 0 ([]:List Edge) λs6 =>
  cA (a1.nodes.length<=68719476736) <|
  cA (a1.ag.length<=68719476736) <|
  some ((⟨s3,s6⟩:au),(⟨a1.nodes,a1.ag⟩:ah),0)) <|
 some ((⟨[],[]⟩:au),(⟨[],[]⟩:ah),r2)
def aY(a0:au)(a1:au)(a2:ah):Option Int :=
 thn (bM a0) λr3 =>
 cond (decide (r3=0)) (
  thn (bM a1) λr4 =>
  cond (decide (r4=0)) (
   cond (decide (((a2.nodes.length:Nat):Int)=((a0.nodes.length:Nat):Int))) (
    cond (decide (((a2.ag.length:Nat):Int)=((a0.ag.length:Nat):Int))) (
     cA (a0.nodes.length<=fuel) <|
     bH (λi5 (s5:Unit) tY afW =>
      thn (a2.nodes[i5]?) λe6 =>
      cond (decide (e6<0)) (
       some 6) <|
      cond (decide (((a1.nodes.length:Nat):Int)<=e6)) (
       some 6) <|
      thn (jd a1.nodes e6) λe7 =>
      thn (a0.nodes[i5]?) λe8 =>
      cond (decide (e7=e8)) (
       tY ()) <|
      some 13)
     (a0.nodes.length-0) 0 () λs5 =>
     cA (a0.ag.length<=fuel) <|
     bH (λi9 (s9:Unit) wB al7 =>
      thn (a2.ag[i9]?) λsS =>
      cond (decide (sS<0)) (
       some 6) <|
      cond (decide (((a1.ag.length:Nat):Int)<=sS)) (
       some 6) <|
      thn (a0.ag[i9]?) λe11 =>
      thn (jd a1.ag sS) λe12 =>
      cond (decide (e11.type=e12.type)) (
       thn (jd a2.nodes e11.src) λe13 =>
       cond (decide (e13=e12.src)) (
        thn (jd a2.nodes e11.dst) λe14 =>
        cond (decide (e14=e12.dst)) (
         wB ()) <|
        some 11) <|
       some 11) <|
      some 13)
     (a0.ag.length-0) 0 () λs9 =>
     some 0) <|
    some 20) <|
   some 20) <|
  some r4) <|
 some r3
def bS(a0:aF):Option Int :=
 thn (b8 a0.left.graph a0.keep) λr1 =>
 cond (decide (r1=0)) (
  thn (fR a0.left.graph a0.keep) λr2 =>
  thn (aY r2.1 a0.right.graph a0.into) λr3 =>
  some r3) <|
 some r1
def cH(a0:List Int):Option Bool :=
 cA (a0.length<=fuel) <|
 bH (λi1 (s1:Unit) sE afX =>
  cA (i1<=fuel) <|
  bH (λi2 (s2:Unit) bU gT =>
   thn (a0[i1]?) λe3 =>
   thn (a0[i2]?) λe4 =>
   cond (decide (e3=e4)) (
    some false) <|
   bU ())
  (i1-0) 0 () λs2 =>
  sE ())
 (a0.length-0) 0 () λs1 =>
 some true
def iN(a0:List Int)(a1:Int):Option Bool :=
 cA (a0.length<=fuel) <|
 bH (λi2 (s2:Unit) bU gT =>
  thn (a0[i2]?) λe3 =>
  cond (decide (e3=a1)) (
   some true) <|
  bU ())
 (a0.length-0) 0 () λs2 =>
 some false
def fI(a0:Int)(a1:List Int):Option (List Int) :=
 cA (a0.toNat<=fuel) <|
 bH (λi2 (s2:(List Int)) bU gT =>
  thn (iN a1 ((i2:Nat):Int)) λr3 =>
  cond r3 (
   bU s2) <|
  cA (s2.length+1<=68719476736) <|
  bU (s2++[((i2:Nat):Int)]))
 (a0.toNat-0) 0 ([]:List Int) λs2 =>
 some s2
def cT(a0:aF):Option ((List Int)×(List Int)) :=
 thn (fI ((a0.right.graph.nodes.length:Nat):Int) a0.into.nodes) λr1 =>
 thn (fI ((a0.right.graph.ag.length:Nat):Int) a0.into.ag) λr2 =>
 some (r1,r2)
def gq(a0:Types)(a1:au)(a2:List Int)(a3:List Int):Option Bool :=
 cA (a2.length<=fuel) <|
 bH (λi4 (s4:Unit) kg pT =>
  thn (a2[i4]?) λe5 =>
  thn (jd a1.nodes e5) λe6 =>
  thn (jd a0.nodes e6) λe7 =>
  cond e7.abs (
   some false) <|
  kg ())
 (a2.length-0) 0 () λs4 =>
 cA (a3.length<=fuel) <|
 bH (λi8 (s8:Unit) afV awy =>
  thn (a3[i8]?) λe9 =>
  thn (jd a1.ag e9) λsS =>
  thn (jd a1.nodes sS.src) λe11 =>
  thn (jd a1.nodes sS.dst) λe12 =>
  thn (mc a0 sS.type e11 e12) λr13 =>
  cond r13 (
   afV ()) <|
  some false)
 (a3.length-0) 0 () λs8 =>
 some true
def dc(a0:aj):Option Bool :=
 cond (decide ((i64.wrap ((i64.wrap ((i64.wrap (((a0.map.nodes.length:Nat):Int)+((a0.map.ag.length:Nat):Int)))+((a0.pattern.graph.nodes.length:Nat):Int)))+((a0.pattern.graph.ag.length:Nat):Int)))=0)) (
  cond (decide ((i64.wrap (((a0.pattern.slots.length:Nat):Int)+((a0.pattern.tests.length:Nat):Int)))=0)) (
   some (decide (a0.pattern.vars=0))) <|
  some false) <|
 some false
def gP(a0:aj):Option Bool :=
 cond (decide (a0.kind=1)) (
  cond (decide (((a0.kids.length:Nat):Int)=0)) (
   thn (dc a0) λr1 =>
   some r1) <|
  some false) <|
 cond (decide (a0.kind=2)) (
  cond (decide (((a0.kids.length:Nat):Int)=1)) (
   thn (dc a0) λr2 =>
   some r2) <|
  some false) <|
 cond (decide (a0.kind=3)) (
  cond (decide (0<((a0.kids.length:Nat):Int))) (
   thn (dc a0) λr3 =>
   some r3) <|
  some false) <|
 cond (decide (a0.kind=4)) (
  cond (decide (0<((a0.kids.length:Nat):Int))) (
   thn (dc a0) λr4 =>
   some r4) <|
  some false) <|
 cond (decide (a0.kind=5)) (
  some (decide (((a0.kids.length:Nat):Int)=1))) <|
 some false
def cI:Nat->aj ->  Option Bool
  |0,_=>none
  |n+1,a0 =>
    thn (gP a0) λr1 =>
    cond r1 (
     cA (a0.kids.length<=fuel) <|
     bH (λi2 (s2:Unit) bU gT =>
      thn (a0.kids[i2]?) λe3 =>
      thn (cI n e3) λr4 =>
      cond r4 (
       bU ()) <|
      some false)
     (a0.kids.length-0) 0 () λs2 =>
     some true) <|
    some false
def eB:Nat->aj ->  Option (Int×Int)
  |0,_=>none
  |n+1,a0 =>
    cA (a0.kids.length<=fuel) <|
    bH (λi1 (s1:Int×Int) sE afX =>
     thn (a0.kids[i1]?) λe2 =>
     thn (eB n e2) λr3 =>
     sE ((i64.wrap (s1.1+r3.1)),(max s1.2 r3.2)))
    (a0.kids.length-0) 0 (1,0) λs1 =>
    cond (decide (a0.kind=5)) (
     some (s1.1,(i64.wrap (s1.2+1)))) <|
    some (s1.1,s1.2)
def fk(a0:aj):Option Int :=
 thn (cI fuel a0) λr1 =>
 cond r1 (
  thn (eB fuel a0) λr2 =>
  cond (decide (12<r2.1)) (
   some 3) <|
  cond (decide (3<r2.2)) (
   some 3) <|
  some 0) <|
 some 1
def gr(a0:ak)(a1:Int):Option Bool :=
 cA (a0.slots.length<=fuel) <|
 bH (λi2 (s2:Unit) bU gT =>
  thn (a0.slots[i2]?) λe3 =>
  cond (decide (e3.term.var=a1)) (
   some true) <|
  bU ())
 (a0.slots.length-0) 0 () λs2 =>
 some false
def dF(a0:Types)(a1:Int)(a2:ak):Option Int :=
 cond (decide (a2.vars<a1)) (
  some 20) <|
 thn (ef a0 a2) λr3 =>
 cond (decide (r3=9)) (
  iter (λ(s4:Int) kg pT =>
   cond (decide (s4<a2.vars)) (
    thn (gr a2 s4) λr5 =>
    cond r5 (
     kg (i64.wrap (s4+1))) <|
    some r3) <|
   pT s4)
  fuel a1 λs4 =>
  some 0) <|
 some r3
def b9(a0:au)(a1:au)(a2:ah):Option Bool :=
 thn (aY a0 a1 a2) λr3 =>
 cond (decide (r3=0)) (
  thn (cH a2.nodes) λr4 =>
  cond r4 (
   thn (cH a2.ag) λr5 =>
   some r5) <|
  some false) <|
 some false
def bW:Nat->Types->ak->aj ->  Option Int
  |0,_,_,_=>none
  |n+1,a0,a1,a2 =>
    cond (decide (a2.kind=5)) (
     thn (dF a0 a1.vars a2.pattern) λr3 =>
     cond (decide (r3=0)) (
      thn (aY a1.graph a2.pattern.graph a2.map) λr4 =>
      cond (decide (r4=0)) (
       thn (b9 a1.graph a2.pattern.graph a2.map) λr5 =>
       cond r5 (
        cA (a2.kids.length<=fuel) <|
        bH (λi6 (s6:Unit) sD ahN =>
         thn (a2.kids[i6]?) λe7 =>
         thn (bW n a0 a2.pattern e7) λr8 =>
         cond (decide (r8=0)) (
          sD ()) <|
         some r8)
        (a2.kids.length-0) 0 () λs6 =>
        some 0) <|
       some 1) <|
      some r4) <|
     some r3) <|
    cA (a2.kids.length<=fuel) <|
    bH (λi9 (s9:Unit) wB al7 =>
     thn (a2.kids[i9]?) λsS =>
     thn (bW n a0 a1 sS) λqg =>
     cond (decide (qg=0)) (
      wB ()) <|
     some qg)
    (a2.kids.length-0) 0 () λs9 =>
    some 0
def dG(a0:Types)(a1:ak)(a2:aj):Option Int :=
 thn (ef a0 a1) λr3 =>
 cond (decide (r3=0)) (
  thn (fk a2) λr4 =>
  cond (decide (r4=0)) (
   thn (bW fuel a0 a1 a2) λr5 =>
   some r5) <|
  some r4) <|
 some r3
def bn(a0:Types)(a1:aF):Option Int :=
 thn (gH a0) λr2 =>
 cond (decide (r2.2=0)) (
  thn (kU a1.name) λr3 =>
  cond r3 (
   thn (ef (⟨a0.nodes,a0.ag⟩:Types) a1.left) λr4 =>
   cond (decide (r4=0)) (
    thn (gO a0 (⟨a1.name,a1.left,a1.right,a1.keep,a1.into,a1.injective,a1.condition⟩:aF)) λr5 =>
    cond (decide (r5=0)) (
     thn (bS (⟨a1.name,a1.left,a1.right,a1.keep,a1.into,a1.injective,a1.condition⟩:aF)) λr6 =>
     cond (decide (r6=0)) (
      thn (cH a1.into.nodes) λr7 =>
      cond r7 (
       thn (cH a1.into.ag) λr8 =>
       cond r8 (
        thn (cT (⟨a1.name,a1.left,a1.right,a1.keep,a1.into,a1.injective,a1.condition⟩:aF)) λr9 =>
        thn (gq a0 a1.right.graph r9.1 r9.2) λoZ =>
        cond oZ (
         thn (dG a0 a1.left a1.condition) λqg =>
         some qg) <|
        some 13) <|
       some 11) <|
      some 11) <|
     some r6) <|
    some r5) <|
   some r4) <|
  some 2) <|
 some r2.2
def dJ(a0:aF):Option Bool :=
 cond (decide (a0.left.vars=0)) (
  cond (decide ((i64.wrap ((i64.wrap (((a0.left.slots.length:Nat):Int)+((a0.left.tests.length:Nat):Int)))+((a0.right.slots.length:Nat):Int)))=0)) (
   some (decide (a0.condition.kind=1))) <|
  some false) <|
 some false
def fl(a0:Types)(a1:aF)(a2:aF):Option Int :=
 thn (gH a0) λr3 =>
 cond (decide (r3.2=0)) (
  thn (bn a0 (⟨a1.name,a1.left,a1.right,a1.keep,a1.into,a1.injective,a1.condition⟩:aF)) λr4 =>
  cond (decide (r4=0)) (
   thn (bn a0 (⟨a2.name,a2.left,a2.right,a2.keep,a2.into,a2.injective,a2.condition⟩:aF)) λr5 =>
   cond (decide (r5=0)) (
    thn (dJ (⟨a1.name,a1.left,a1.right,a1.keep,a1.into,a1.injective,a1.condition⟩:aF)) λr6 =>
    cond r6 (
     thn (dJ (⟨a2.name,a2.left,a2.right,a2.keep,a2.into,a2.injective,a2.condition⟩:aF)) λr7 =>
     cond r7 (
      some 0) <|
     some 8) <|
    some 8) <|
   some r5) <|
  some r4) <|
 some r3.2
def bV(a0:au):Option au :=
 cA (a0.nodes.length<=68719476736) <|
 cA (a0.ag.length<=68719476736) <|
 some a0
def br(a0:Int)(a1:Int):Option (List Int) :=
 cA (a1.toNat<=fuel) <|
 bH (λi2 (s2:(List Int)) bU gT =>
  cA (s2.length+1<=68719476736) <|
  bU (s2++[(i64.wrap (a0+((i2:Nat):Int)))]))
 (a1.toNat-0) 0 ([]:List Int) λs2 =>
 some s2
def fm(a0:au)(a1:au):Option (au×ah×ah×Int) :=
 thn (bM a0) λr2 =>
 cond (decide (r2=0)) (
  thn (bM a1) λr3 =>
  cond (decide (r3=0)) (
   cond (decide (40<(i64.wrap (((a0.nodes.length:Nat):Int)+((a1.nodes.length:Nat):Int))))) (
    some ((⟨([]:List Int),([]:List Edge)⟩:au),(⟨([]:List Int),([]:List Int)⟩:ah),(⟨([]:List Int),([]:List Int)⟩:ah),3)) <|
   cond (decide (80<(i64.wrap (((a0.ag.length:Nat):Int)+((a1.ag.length:Nat):Int))))) (
    some ((⟨([]:List Int),([]:List Edge)⟩:au),(⟨([]:List Int),([]:List Int)⟩:ah),(⟨([]:List Int),([]:List Int)⟩:ah),3)) <|
   thn (bV a0) λr4 =>
   cA (r4.nodes.length+a1.nodes.length<=68719476736) <|
   cA (a1.ag.length<=fuel) <|
   bH (λi5 (s5:(List Edge)) tY afW =>
    thn (a1.ag[i5]?) λe6 =>
    cA (s5.length+1<=68719476736) <|
    tY (s5++[(⟨e6.type,(i64.wrap (e6.src+((a0.nodes.length:Nat):Int))),(i64.wrap (e6.dst+((a0.nodes.length:Nat):Int)))⟩:Edge)]))
   (a1.ag.length-0) 0 r4.ag λs5 =>
   thn (br 0 ((a0.nodes.length:Nat):Int)) λr7 =>
   thn (br 0 ((a0.ag.length:Nat):Int)) λr8 =>
   thn (br ((a0.nodes.length:Nat):Int) ((a1.nodes.length:Nat):Int)) λr9 =>
   thn (br ((a0.ag.length:Nat):Int) ((a1.ag.length:Nat):Int)) λoZ =>
   some ((⟨(r4.nodes++a1.nodes),s5⟩:au),(⟨r7,r8⟩:ah),(⟨r9,oZ⟩:ah),0)) <|
  some ((⟨([]:List Int),([]:List Edge)⟩:au),(⟨([]:List Int),([]:List Int)⟩:ah),(⟨([]:List Int),([]:List Int)⟩:ah),r3)) <|
 some ((⟨[],[]⟩:au),(⟨[],[]⟩:ah),(⟨[],[]⟩:ah),r2)
def dH(a0:List Int)(a1:List Int)(a2:Int):Option (List Int) :=
 cA (a0.length<=68719476736) <|
 cA (a1.length<=fuel) <|
 bH (λi3 (s3:(List Int)) eG n8 =>
  thn (a1[i3]?) λe4 =>
  cA (s3.length+1<=68719476736) <|
  eG (s3++[(i64.wrap (e4+a2))]))
 (a1.length-0) 0 a0 λs3 =>
 some s3
def gQ(a0:Types)(a1:aF)(a2:aF):Option (aF×ah×ah×Int) :=
 thn (fl a0 a1 a2) λr3 =>
 cond (decide (r3=0)) (
  thn (fm a1.left.graph a2.left.graph) λr4 =>
  cond (decide (r4.2.2.2=0)) (
   thn (fm a1.right.graph a2.right.graph) λr5 =>
   cond (decide (r5.2.2.2=0)) (
    thn (dH a1.keep.nodes a2.keep.nodes ((a1.left.graph.nodes.length:Nat):Int)) λr6 =>
    thn (dH a1.keep.ag a2.keep.ag ((a1.left.graph.ag.length:Nat):Int)) λr7 =>
    thn (dH a1.into.nodes a2.into.nodes ((a1.right.graph.nodes.length:Nat):Int)) λr8 =>
    thn (dH a1.into.ag a2.into.ag ((a1.right.graph.ag.length:Nat):Int)) λr9 =>
    some ((⟨a1.name,(⟨r4.1,([]:List aG),0,([]:List aH)⟩:ak),(⟨r5.1,([]:List aG),0,([]:List aH)⟩:ak),(⟨r6,r7⟩:aO),(⟨r8,r9⟩:ah),false,(⟨1,([]:List aj),(⟨([]:List Int),([]:List Int)⟩:ah),(⟨(⟨([]:List Int),([]:List Edge)⟩:au),([]:List aG),0,([]:List aH)⟩:ak)⟩:aj)⟩:aF),r4.2.1,r4.2.2.1,0)) <|
   some ((⟨(⟨#[]⟩:ByteArray),(⟨(⟨([]:List Int),([]:List Edge)⟩:au),([]:List aG),0,([]:List aH)⟩:ak),(⟨(⟨([]:List Int),([]:List Edge)⟩:au),([]:List aG),0,([]:List aH)⟩:ak),(⟨([]:List Int),([]:List Int)⟩:aO),(⟨([]:List Int),([]:List Int)⟩:ah),false,(⟨0,([]:List aj),(⟨([]:List Int),([]:List Int)⟩:ah),(⟨(⟨([]:List Int),([]:List Edge)⟩:au),([]:List aG),0,([]:List aH)⟩:ak)⟩:aj)⟩:aF),(⟨([]:List Int),([]:List Int)⟩:ah),(⟨([]:List Int),([]:List Int)⟩:ah),r5.2.2.2)) <|
  some ((⟨(⟨#[]⟩:ByteArray),(⟨(⟨([]:List Int),([]:List Edge)⟩:au),([]:List aG),0,([]:List aH)⟩:ak),(⟨(⟨([]:List Int),([]:List Edge)⟩:au),([]:List aG),0,([]:List aH)⟩:ak),(⟨([]:List Int),([]:List Int)⟩:aO),(⟨([]:List Int),([]:List Int)⟩:ah),false,(⟨0,([]:List aj),(⟨([]:List Int),([]:List Int)⟩:ah),(⟨(⟨([]:List Int),([]:List Edge)⟩:au),([]:List aG),0,([]:List aH)⟩:ak)⟩:aj)⟩:aF),(⟨([]:List Int),([]:List Int)⟩:ah),(⟨([]:List Int),([]:List Int)⟩:ah),r4.2.2.2)) <|
 some ((⟨⟨#[]⟩,⟨⟨[],[]⟩,[],0,[]⟩,⟨⟨[],[]⟩,[],0,[]⟩,⟨[],[]⟩,⟨[],[]⟩,false,⟨0,[],⟨[],[]⟩,⟨⟨[],[]⟩,[],0,[]⟩⟩⟩:aF),(⟨[],[]⟩:ah),(⟨[],[]⟩:ah),r3)
def dz(a0:List Int)(a1:List Int):Option Bool :=
 cond (decide (((a0.length:Nat):Int)=((a1.length:Nat):Int))) (
  cA (a0.length<=fuel) <|
  bH (λi2 (s2:Unit) bU gT =>
   thn (a0[i2]?) λe3 =>
   thn (a1[i2]?) λe4 =>
   cond (decide (e3=e4)) (
    bU ()) <|
   some false)
  (a0.length-0) 0 () λs2 =>
  some true) <|
 some false
def iq(a0:au)(a1:au):Option Bool :=
 thn (dz a0.nodes a1.nodes) λr2 =>
 cond r2 (
  cond (decide (((a0.ag.length:Nat):Int)=((a1.ag.length:Nat):Int))) (
   cA (a0.ag.length<=fuel) <|
   bH (λi3 (s3:Unit) eG n8 =>
    thn (a0.ag[i3]?) λe4 =>
    thn (a1.ag[i3]?) λe5 =>
    cond (decide (e4.type=e5.type)&&(decide (e4.src=e5.src)&&decide (e4.dst=e5.dst))) (
     eG ()) <|
    some false)
   (a0.ag.length-0) 0 () λs3 =>
   some true) <|
  some false) <|
 some false
def eD(a0:ak)(a1:ak):Option Bool :=
 thn (iq a0.graph a1.graph) λr2 =>
 cond r2 (
  cond (decide (a0.vars=a1.vars)) (
   cond (decide (((a0.slots.length:Nat):Int)=((a1.slots.length:Nat):Int))) (
    cond (decide (((a0.tests.length:Nat):Int)=((a1.tests.length:Nat):Int))) (
     iter (λ(s3:Unit) eG n8 =>
      cond (decide (0<((a0.slots.length:Nat):Int))) (
       none) <|
      n8 ())
     fuel () λs3 =>
     iter (λ(s4:Unit) kg pT =>
      cond (decide (0<((a0.tests.length:Nat):Int))) (
       none) <|
      pT ())
     fuel () λs4 =>
     some true) <|
    some false) <|
   some false) <|
  some false) <|
 some false
def ir(a0:aO)(a1:aO):Option Bool :=
 thn (dz a0.nodes a1.nodes) λr2 =>
 cond r2 (
  thn (dz a0.ag a1.ag) λr3 =>
  some r3) <|
 some false
def fB(a0:List Int)(a1:List Int):Option Bool :=
 cond (decide (((a0.length:Nat):Int)=((a1.length:Nat):Int))) (
  cA (a0.length<=fuel) <|
  bH (λi2 (s2:Unit) bU gT =>
   thn (a0[i2]?) λe3 =>
   thn (a1[i2]?) λe4 =>
   cond (decide (e3=e4)) (
    bU ()) <|
   some false)
  (a0.length-0) 0 () λs2 =>
  some true) <|
 some false
def c6(a0:ah)(a1:ah):Option Bool :=
 thn (fB a0.nodes a1.nodes) λr2 =>
 cond r2 (
  thn (fB a0.ag a1.ag) λr3 =>
  some r3) <|
 some false
def fJ:Nat->aj->aj ->  Option Bool
  |0,_,_=>none
  |n+1,a0,a1 =>
    cond (decide (a0.kind=a1.kind)) (
     cond (decide (((a0.kids.length:Nat):Int)=((a1.kids.length:Nat):Int))) (
      thn (c6 a0.map a1.map) λr2 =>
      cond r2 (
       thn (eD a0.pattern a1.pattern) λr3 =>
       cond r3 (
        cA (a0.kids.length<=fuel) <|
        bH (λi4 (s4:Unit) kg pT =>
         thn (a0.kids[i4]?) λe5 =>
         thn (a1.kids[i4]?) λe6 =>
         thn (fJ n e5 e6) λr7 =>
         cond r7 (
          kg ()) <|
         some false)
        (a0.kids.length-0) 0 () λs4 =>
        some true) <|
       some false) <|
      some false) <|
     some false) <|
    some false
def fK(a0:aF)(a1:aF):Option Bool :=
 cond (decide (a0.name=a1.name)) (
  cond (a0.injective == a1.injective) (
   thn (eD a0.left a1.left) λr2 =>
   cond r2 (
    thn (eD a0.right a1.right) λr3 =>
    cond r3 (
     thn (ir a0.keep a1.keep) λr4 =>
     cond r4 (
      thn (c6 a0.into a1.into) λr5 =>
      cond r5 (
       thn (fJ fuel a0.condition a1.condition) λr6 =>
       some r6) <|
      some false) <|
     some false) <|
    some false) <|
   some false) <|
  some false) <|
 some false
def dS(a0:Types)(a1:aF)(a2:aF):Option Bool :=
 thn (bT) λr3 =>
 cond r3 (
  thn (dZ (⟨a0.nodes,a0.ag⟩:Types) [(⟨a1.name,a1.left,a1.right,a1.keep,a1.into,a1.injective,a1.condition⟩:aF),a2]) λr4 =>
  cond r4 (
   thn (gL (⟨a0.nodes,a0.ag⟩:Types) (⟨a1.name,a1.left,a1.right,a1.keep,a1.into,a1.injective,a1.condition⟩:aF) a2) λr5 =>
   thn (gQ a0 a1 a2) λr6 =>
   thn (fK r5.1 r6.1) λr7 =>
   cond r7 (
    thn (c6 r5.2.1 r6.2.1) λr8 =>
    cond r8 (
     thn (c6 r5.2.2.1 r6.2.2.1) λr9 =>
     cond r9 (
      cond (decide (r5.2.2.2=r6.2.2.2)) (
       cond (decide (r5.2.2.2=0)) (
        thn (bn (⟨a0.nodes,a0.ag⟩:Types) r5.1) λoZ =>
        some (decide (oZ=0))) <|
       some true) <|
      some false) <|
     some false) <|
    some false) <|
   some false) <|
  thn (bT) λqg =>
  some qg) <|
 thn (bT) λvM =>
 some vM
def gR(a0:List Int)(a1:Int):Option Bool :=
 cA (a0.length<=fuel) <|
 bH (λi2 (s2:Unit) bU gT =>
  thn (a0[i2]?) λe3 =>
  cond (decide (e3=a1)) (
   some true) <|
  bU ())
 (a0.length-0) 0 () λs2 =>
 some false
def eM(a0:List Int)(a1:List Int)(a2:Int):Option Bool :=
 cA (a2.toNat<=fuel) <|
 bH (λi3 (s3:Unit) eG n8 =>
  thn (gR a0 ((i3:Nat):Int)) λr4 =>
  cond r4 (
   eG ()) <|
  thn (gR a1 ((i3:Nat):Int)) λr5 =>
  cond r5 (
   eG ()) <|
  some false)
 (a2.toNat-0) 0 () λs3 =>
 some true
def fS(a0:au)(a1:au)(a2:au)(a3:ah)(a4:ah):Option Bool :=
 thn (aY a0 a2 a3) λr5 =>
 cond (decide (r5=0)) (
  thn (aY a1 a2 a4) λr6 =>
  cond (decide (r6=0)) (
   thn (eM a3.nodes a4.nodes ((a2.nodes.length:Nat):Int)) λr7 =>
   cond r7 (
    thn (eM a3.ag a4.ag ((a2.ag.length:Nat):Int)) λr8 =>
    some r8) <|
   some false) <|
  some false) <|
 some false
def bN(a0:List Int)(a1:Int):Option Int :=
 cA (a0.length<=fuel) <|
 bH (λi2 (s2:Unit) bU gT =>
  thn (a0[i2]?) λe3 =>
  cond (decide (e3=a1)) (
   some ((i2:Nat):Int)) <|
  bU ())
 (a0.length-0) 0 () λs2 =>
 some (-1)
def dD(a0:List Int)(a1:Int):Option Bool :=
 thn (bN a0 a1) λr2 =>
 some (decide (0<=r2))
def dM(a0:Int)(a1:List Int)(a2:List Int):Option (List Bool) :=
 cA (0<=a0/\a0<=68719476736) <|
 cA (a1.length<=fuel) <|
 bH (λi3 (s3:(List Bool)) eG n8 =>
  thn (dD a2 ((i3:Nat):Int)) λr4 =>
  cond r4 (
   eG s3) <|
  thn (a1[i3]?) λe5 =>
  thn (jd s3 e5) λe6 =>
  eG (s3.set e5.toNat true))
 (a1.length-0) 0 (List.replicate a0.toNat false) λs3 =>
 some s3
def fo(a0:List Int)(a1:List Int)(a2:List Bool)(a3:List Bool):Option Bool :=
 cA (a2.length<=fuel) <|
 bH (λi4 (s4:Unit) kg pT =>
  thn (dD a0 ((i4:Nat):Int)) λr5 =>
  cond r5 (
   thn (dD a1 ((i4:Nat):Int)) λr6 =>
   cond r6 (
    thn (a2[i4]?) λe7 =>
    thn (a3[i4]?) λe8 =>
    cond (e7 == e8) (
     kg ()) <|
    some false) <|
   kg ()) <|
  kg ())
 (a2.length-0) 0 () λs4 =>
 some true
def cU(a0:List Bool)(a1:List Bool):Option (List Int) :=
 cA (a0.length<=fuel) <|
 bH (λi2 (s2:(List Int)) bU gT =>
  thn (a0[i2]?) λe3 =>
  cond e3 (
   bU s2) <|
  thn (a1[i2]?) λe4 =>
  cond e4 (
   bU s2) <|
  cA (s2.length+1<=68719476736) <|
  bU (s2++[((i2:Nat):Int)]))
 (a0.length-0) 0 ([]:List Int) λs2 =>
 some s2
def fC(a0:Int)(a1:List Int)(a2:List Int)(a3:List Int)(a4:List Int)(a5:Int):Option (List Int) :=
 cA (a0.toNat<=fuel) <|
 bH (λi6 (s6:Int×(List Int)) sD ahN =>
  thn (bN a4 ((i6:Nat):Int)) λr7 =>
  cond (decide (r7<0)) (
   cA (s6.2.length+1<=68719476736) <|
   sD ((i64.wrap (s6.1+1)),(s6.2++[s6.1]))) <|
  thn (jd a3 r7) λe8 =>
  thn (jd a1 e8) λe9 =>
  thn (bN a2 e9) λoZ =>
  cA (s6.2.length+1<=68719476736) <|
  sD (s6.1,(s6.2++[oZ])))
 (a0.toNat-0) 0 (a5,([]:List Int)) λs6 =>
 some s6.2
def bG(a0:au)(a1:aF)(a2:ah)(a3:aO):Option au :=
 thn (bV a0) λr4 =>
 thn (fC ((a1.right.graph.nodes.length:Nat):Int) a2.nodes a3.nodes a1.keep.nodes a1.into.nodes ((a0.nodes.length:Nat):Int)) λr5 =>
 cA (a1.right.graph.nodes.length<=fuel) <|
 bH (λi6 (s6:(List Int)) sD ahN =>
  thn (dD a1.into.nodes ((i6:Nat):Int)) λr7 =>
  cond r7 (
   sD s6) <|
  thn (a1.right.graph.nodes[i6]?) λe8 =>
  cA (s6.length+1<=68719476736) <|
  sD (s6++[e8]))
 (a1.right.graph.nodes.length-0) 0 r4.nodes λs6 =>
 cA (a1.right.graph.ag.length<=fuel) <|
 bH (λi9 (s9:(List Edge)) wB al7 =>
  thn (a1.right.graph.ag[i9]?) λsS =>
  thn (dD a1.into.ag ((i9:Nat):Int)) λqg =>
  cond qg (
   wB s9) <|
  thn (jd r5 sS.src) λe12 =>
  thn (jd r5 sS.dst) λe13 =>
  cA (s9.length+1<=68719476736) <|
  wB (s9++[(⟨sS.type,e12,e13⟩:Edge)]))
 (a1.right.graph.ag.length-0) 0 r4.ag λs9 =>
 some (⟨s6,s9⟩:au)
def dK(a0:Types)(a1:aF)(a2:aF)(a3:cM):Option (aF×Int) :=
 thn (fl a0 a1 a2) λr4 =>
 cond (decide (r4=0)) (
  thn (aY a1.left.graph a3.graph a3.left) λr5 =>
  cond (decide (r5=0)) (
   thn (aY a2.left.graph a3.graph a3.right) λr6 =>
   cond (decide (r6=0)) (
    thn (b9 a1.left.graph a3.graph a3.left) λr7 =>
    cond r7 (
     thn (b9 a2.left.graph a3.graph a3.right) λr8 =>
     cond r8 (
      thn (fS a1.left.graph a2.left.graph a3.graph a3.left a3.right) λr9 =>
      cond r9 (
       thn (dM ((a3.graph.nodes.length:Nat):Int) a3.left.nodes a1.keep.nodes) λoZ =>
       thn (dM ((a3.graph.nodes.length:Nat):Int) a3.right.nodes a2.keep.nodes) λqg =>
       thn (dM ((a3.graph.ag.length:Nat):Int) a3.left.ag a1.keep.ag) λvM =>
       thn (dM ((a3.graph.ag.length:Nat):Int) a3.right.ag a2.keep.ag) λr13 =>
       thn (fo a3.left.nodes a3.right.nodes oZ qg) λr14 =>
       cond r14 (
        thn (fo a3.left.ag a3.right.ag vM r13) λr15 =>
        cond r15 (
         thn (bV a3.graph) λr16 =>
         cond a1.injective (
          thn (cU oZ qg) λr17 =>
          thn (cU vM r13) λr18 =>
          thn (br 0 ((r17.length:Nat):Int)) λr19 =>
          thn (br 0 ((r18.length:Nat):Int)) λr20 =>
          cA (r17.length<=fuel) <|
          bH (λi21 (s21:(List Int)) aAx aFy =>
           thn (r17[i21]?) λe22 =>
           thn (jd a3.graph.nodes e22) λe23 =>
           cA (s21.length+1<=68719476736) <|
           aAx (s21++[e23]))
          (r17.length-0) 0 ([]:List Int) λs21 =>
          cA (r18.length<=fuel) <|
          bH (λi24 (s24:(List Edge)) aAy aFz =>
           thn (r18[i24]?) λe25 =>
           thn (jd a3.graph.ag e25) λe26 =>
           thn (bN r17 e26.src) λr27 =>
           thn (bN r17 e26.dst) λr28 =>
           cA (s24.length+1<=68719476736) <|
           aAy (s24++[(⟨e26.type,r27,r28⟩:Edge)]))
          (r18.length-0) 0 ([]:List Edge) λs24 =>
          thn (bG (⟨s21,s24⟩:au) a1 a3.left (⟨r17,r18⟩:aO)) λr29 =>
          thn (bG r29 a2 a3.right (⟨r17,r18⟩:aO)) λr30 =>
          thn (bM r30) λr31 =>
          cond (decide (r31=0)) (
           some ((⟨a1.name,(⟨r16,([]:List aG),0,([]:List aH)⟩:ak),(⟨r30,([]:List aG),0,([]:List aH)⟩:ak),(⟨r17,r18⟩:aO),(⟨r19,r20⟩:ah),a2.injective,(⟨1,([]:List aj),(⟨([]:List Int),([]:List Int)⟩:ah),(⟨(⟨([]:List Int),([]:List Edge)⟩:au),([]:List aG),0,([]:List aH)⟩:ak)⟩:aj)⟩:aF),0)) <|
          some ((⟨(⟨#[]⟩:ByteArray),(⟨(⟨([]:List Int),([]:List Edge)⟩:au),([]:List aG),0,([]:List aH)⟩:ak),(⟨(⟨([]:List Int),([]:List Edge)⟩:au),([]:List aG),0,([]:List aH)⟩:ak),(⟨([]:List Int),([]:List Int)⟩:aO),(⟨([]:List Int),([]:List Int)⟩:ah),false,(⟨0,([]:List aj),(⟨([]:List Int),([]:List Int)⟩:ah),(⟨(⟨([]:List Int),([]:List Edge)⟩:au),([]:List aG),0,([]:List aH)⟩:ak)⟩:aj)⟩:aF),3)) <|
         thn (cU oZ qg) λr32 =>
         thn (cU vM r13) λr33 =>
         thn (br 0 ((r32.length:Nat):Int)) λr34 =>
         thn (br 0 ((r33.length:Nat):Int)) λr35 =>
         cA (r32.length<=fuel) <|
         bH (λi36 (s36:(List Int)) aAz aFA =>
          thn (r32[i36]?) λe37 =>
          thn (jd a3.graph.nodes e37) λe38 =>
          cA (s36.length+1<=68719476736) <|
          aAz (s36++[e38]))
         (r32.length-0) 0 ([]:List Int) λs36 =>
         cA (r33.length<=fuel) <|
         bH (λi39 (s39:(List Edge)) aAA aFB =>
          thn (r33[i39]?) λe40 =>
          thn (jd a3.graph.ag e40) λe41 =>
          thn (bN r32 e41.src) λr42 =>
          thn (bN r32 e41.dst) λr43 =>
          cA (s39.length+1<=68719476736) <|
          aAA (s39++[(⟨e41.type,r42,r43⟩:Edge)]))
         (r33.length-0) 0 ([]:List Edge) λs39 =>
         thn (bG (⟨s36,s39⟩:au) a1 a3.left (⟨r32,r33⟩:aO)) λr44 =>
         thn (bG r44 a2 a3.right (⟨r32,r33⟩:aO)) λr45 =>
         thn (bM r45) λr46 =>
         cond (decide (r46=0)) (
          some ((⟨a1.name,(⟨r16,([]:List aG),0,([]:List aH)⟩:ak),(⟨r45,([]:List aG),0,([]:List aH)⟩:ak),(⟨r32,r33⟩:aO),(⟨r34,r35⟩:ah),false,(⟨1,([]:List aj),(⟨([]:List Int),([]:List Int)⟩:ah),(⟨(⟨([]:List Int),([]:List Edge)⟩:au),([]:List aG),0,([]:List aH)⟩:ak)⟩:aj)⟩:aF),0)) <|
         some ((⟨(⟨#[]⟩:ByteArray),(⟨(⟨([]:List Int),([]:List Edge)⟩:au),([]:List aG),0,([]:List aH)⟩:ak),(⟨(⟨([]:List Int),([]:List Edge)⟩:au),([]:List aG),0,([]:List aH)⟩:ak),(⟨([]:List Int),([]:List Int)⟩:aO),(⟨([]:List Int),([]:List Int)⟩:ah),false,(⟨0,([]:List aj),(⟨([]:List Int),([]:List Int)⟩:ah),(⟨(⟨([]:List Int),([]:List Edge)⟩:au),([]:List aG),0,([]:List aH)⟩:ak)⟩:aj)⟩:aF),3)) <|
        some ((⟨(⟨#[]⟩:ByteArray),(⟨(⟨([]:List Int),([]:List Edge)⟩:au),([]:List aG),0,([]:List aH)⟩:ak),(⟨(⟨([]:List Int),([]:List Edge)⟩:au),([]:List aG),0,([]:List aH)⟩:ak),(⟨([]:List Int),([]:List Int)⟩:aO),(⟨([]:List Int),([]:List Int)⟩:ah),false,(⟨0,([]:List aj),(⟨([]:List Int),([]:List Int)⟩:ah),(⟨(⟨([]:List Int),([]:List Edge)⟩:au),([]:List aG),0,([]:List aH)⟩:ak)⟩:aj)⟩:aF),11)) <|
       some ((⟨(⟨#[]⟩:ByteArray),(⟨(⟨([]:List Int),([]:List Edge)⟩:au),([]:List aG),0,([]:List aH)⟩:ak),(⟨(⟨([]:List Int),([]:List Edge)⟩:au),([]:List aG),0,([]:List aH)⟩:ak),(⟨([]:List Int),([]:List Int)⟩:aO),(⟨([]:List Int),([]:List Int)⟩:ah),false,(⟨0,([]:List aj),(⟨([]:List Int),([]:List Int)⟩:ah),(⟨(⟨([]:List Int),([]:List Edge)⟩:au),([]:List aG),0,([]:List aH)⟩:ak)⟩:aj)⟩:aF),11)) <|
      some ((⟨(⟨#[]⟩:ByteArray),(⟨(⟨([]:List Int),([]:List Edge)⟩:au),([]:List aG),0,([]:List aH)⟩:ak),(⟨(⟨([]:List Int),([]:List Edge)⟩:au),([]:List aG),0,([]:List aH)⟩:ak),(⟨([]:List Int),([]:List Int)⟩:aO),(⟨([]:List Int),([]:List Int)⟩:ah),false,(⟨0,([]:List aj),(⟨([]:List Int),([]:List Int)⟩:ah),(⟨(⟨([]:List Int),([]:List Edge)⟩:au),([]:List aG),0,([]:List aH)⟩:ak)⟩:aj)⟩:aF),1)) <|
     some ((⟨(⟨#[]⟩:ByteArray),(⟨(⟨([]:List Int),([]:List Edge)⟩:au),([]:List aG),0,([]:List aH)⟩:ak),(⟨(⟨([]:List Int),([]:List Edge)⟩:au),([]:List aG),0,([]:List aH)⟩:ak),(⟨([]:List Int),([]:List Int)⟩:aO),(⟨([]:List Int),([]:List Int)⟩:ah),false,(⟨0,([]:List aj),(⟨([]:List Int),([]:List Int)⟩:ah),(⟨(⟨([]:List Int),([]:List Edge)⟩:au),([]:List aG),0,([]:List aH)⟩:ak)⟩:aj)⟩:aF),1)) <|
    some ((⟨(⟨#[]⟩:ByteArray),(⟨(⟨([]:List Int),([]:List Edge)⟩:au),([]:List aG),0,([]:List aH)⟩:ak),(⟨(⟨([]:List Int),([]:List Edge)⟩:au),([]:List aG),0,([]:List aH)⟩:ak),(⟨([]:List Int),([]:List Int)⟩:aO),(⟨([]:List Int),([]:List Int)⟩:ah),false,(⟨0,([]:List aj),(⟨([]:List Int),([]:List Int)⟩:ah),(⟨(⟨([]:List Int),([]:List Edge)⟩:au),([]:List aG),0,([]:List aH)⟩:ak)⟩:aj)⟩:aF),1)) <|
   some ((⟨(⟨#[]⟩:ByteArray),(⟨(⟨([]:List Int),([]:List Edge)⟩:au),([]:List aG),0,([]:List aH)⟩:ak),(⟨(⟨([]:List Int),([]:List Edge)⟩:au),([]:List aG),0,([]:List aH)⟩:ak),(⟨([]:List Int),([]:List Int)⟩:aO),(⟨([]:List Int),([]:List Int)⟩:ah),false,(⟨0,([]:List aj),(⟨([]:List Int),([]:List Int)⟩:ah),(⟨(⟨([]:List Int),([]:List Edge)⟩:au),([]:List aG),0,([]:List aH)⟩:ak)⟩:aj)⟩:aF),r6)) <|
  some ((⟨(⟨#[]⟩:ByteArray),(⟨(⟨([]:List Int),([]:List Edge)⟩:au),([]:List aG),0,([]:List aH)⟩:ak),(⟨(⟨([]:List Int),([]:List Edge)⟩:au),([]:List aG),0,([]:List aH)⟩:ak),(⟨([]:List Int),([]:List Int)⟩:aO),(⟨([]:List Int),([]:List Int)⟩:ah),false,(⟨0,([]:List aj),(⟨([]:List Int),([]:List Int)⟩:ah),(⟨(⟨([]:List Int),([]:List Edge)⟩:au),([]:List aG),0,([]:List aH)⟩:ak)⟩:aj)⟩:aF),r5)) <|
 some ((⟨⟨#[]⟩,⟨⟨[],[]⟩,[],0,[]⟩,⟨⟨[],[]⟩,[],0,[]⟩,⟨[],[]⟩,⟨[],[]⟩,false,⟨0,[],⟨[],[]⟩,⟨⟨[],[]⟩,[],0,[]⟩⟩⟩:aF),r4)
def cX(a0:Types)(a1:dB)(a2:cM):Option Bool :=
 thn (bT) λr3 =>
 cond r3 (
  thn (dZ a0 [a1.a,a1.b]) λr4 =>
  cond r4 (
   thn (gi a2.graph) λr5 =>
   cond r5 (
    thn (cP a2.left 150) λr6 =>
    cond r6 (
     thn (cP a2.right 150) λr7 =>
     cond r7 (
      thn (gh a0 a1.a a1.b a2) λr8 =>
      thn (dK a0 a1.a a1.b (⟨a2.graph,a2.left,a2.right⟩:cM)) λr9 =>
      thn (fK r8.1 r9.1) λoZ =>
      cond oZ (
       cond (decide (r8.2=r9.2)) (
        cond (decide (r8.2=0)) (
         thn (bn a0 r8.1) λqg =>
         some (decide (qg=0))) <|
        some true) <|
       some false) <|
      some false) <|
     thn (bT) λvM =>
     some vM) <|
    thn (bT) λr13 =>
    some r13) <|
   thn (bT) λr14 =>
   some r14) <|
  thn (bT) λr15 =>
  some r15) <|
 thn (bT) λr16 =>
 some r16
end
theorem awC{P:Program}{t:TypeId}{k:IntKind}{a b:Int} : lT P .and t (.p (.val (.int k a))) (.p (.val (.int k b)))=some (True,.p (.val (.int k (k.wrap (BitVec.ofInt k.bits a &&& BitVec.ofInt k.bits b).toNat)))):=by simp[lT,yN]
theorem awD(n:Nat)(h:n<=1000000):IntKind.u64.wrap ((BitVec.ofInt 64 (n:Int) &&& BitVec.ofInt 64 4294967295).toNat:Int)=n:=by
 have e:(BitVec.ofInt 64 (n:Int) &&& BitVec.ofInt 64 4294967295).toNat=n:=by
  rw[BitVec.toNat_and];have e1:(BitVec.ofInt 64 (n:Int)).toNat=n:=by rw[BitVec.toNat_ofInt];omega
  have e2:(BitVec.ofInt 64 4294967295).toNat=2 ^ 32-1:=by decide
  rw[e1,e2,Nat.and_two_pow_sub_one_eq_mod];omega
 rw[e];exact IntWalk.u64_in _ (by omega)
theorem ayW:IntKind.u64.wrap ((BitVec.ofInt 64 1 &&& BitVec.ofInt 64 4294967295).toNat:Int)=1:=by decide
theorem and_zero:IntKind.u64.wrap ((BitVec.ofInt 64 0 &&& BitVec.ofInt 64 4294967295).toNat:Int)=0:=by decide
theorem awE{P:Program}{t:TypeId}(a b:Int)(h:IntKind.u64.wrap ((BitVec.ofInt 64 a &&& BitVec.ofInt 64 4294967295).toNat:Int)=b):lT P .and t (.p (.val (.int .u64 a))) (.p (.val (.int .u64 4294967295)))=some (True,.p (.val (.int .u64 b))):=by subst h;exact awC
set_option maxRecDepth 20000 in
theorem awF(n:Nat)(hn:n<=1000000):aB pw 375 [.val (.int .u64 1),.val (.int .u64 n)] (λv=>v = .dg [.val (.int .u64 0),.val (.int .u64 n)]):=by
 have hw:IntKind.u64.wrap (n:Int)=n:=IntWalk.u64_in _ (by omega);have hw0:IntKind.u64.wrap 0=0:=by decide
 have hf:(n:Int).fdiv (2 ^ 32)=0:=by rw[Int.fdiv_eq_ediv_of_nonneg _ (by decide)];omega
 have hf1:(1:Int).fdiv (2 ^ 32)=0:=by decide
 have hf0:(0:Int).fdiv (2 ^ 32)=0:=by decide
 have hm:min 32 64=32:=rfl;have a1:=λt=>awE (P:=pw) (t:=t) n n (awD n hn)
 have a2:=λt=>awE (P:=pw) (t:=t) 1 1 ayW
 have a3:=λt=>awE (P:=pw) (t:=t) 0 0 and_zero
 have hw1:IntKind.u64.wrap 1=1:=by decide
 refine aC [] func375 ?_;rw[ntmps375,results375];simp only[go_sem,a1,a2,a3,hw1,hw,hw0,hf,hf1,hf0,hm,Int.one_mul,Int.zero_mul,Int.mul_zero,Int.add_zero,Int.zero_add];decide
set_option maxRecDepth 20000 in
theorem awG(n:Nat)(hn:n<=1000000):aB pw 321 [.val (.int .u64 1),.val (.int .u64 n)] (λv=>v = .dg [.val (.int .u64 0),.val (.int .u64 n)]):=by refine aC [] func321 ?_;rw[ntmps321,results321];simp only[go_sem];refine aU (awF n hn) (by simp only[go_sem]<;>rfl) (abB) ?_;simp only[go_sem]
def abL(N k:Nat)(a:Int):List (List PV):=List.replicate k [.val (.int .i64 a)]++List.replicate (N-k) [.val (.int .i64 0)]
theorem p5(N k:Nat)(a:Int)(h:k<=N):(abL N k a).length=N:=by simp[abL];omega
theorem awH(N:Nat)(a:Int):[PV.val (.int .i64 a)] :: List.drop 1 (List.replicate N [PV.val (.int .i64 0)])=abL N 1 a:=by simp[abL]
theorem asP(N k c:Nat)(a:Int)(h:k+c<=N):splice (abL N k a) k ((List.replicate c (PV.val (.int .i64 a))).map λp=>[p])=abL N (k+c) a:=by unfold splice abL;rw[List.take_left' (by simp),List.map_replicate,List.length_replicate,<-List.drop_drop,List.drop_left' (by simp),List.drop_replicate,List.replicate_append_replicate,show N-k-c=N-(k+c) by omega]
theorem asQ{P:Program}(w:World)(dT sT ty e:TypeId)(hu:P.underlying dT=some (.slice e))(hs:bf P e=some 1)(base a:Option Addr)(dCap sLen sCap:Nat) :
  (Builtin.copy_ #[dT,sT] ty #[.slice base 0 dCap,.slice a sLen sCap]).run P w = .ok (.int .i64 0) w:=by
 cases hq:P.info? e with
 |none=>simp[bf,hq] at hs
 |some i =>
  have hi:i.size=1:=by simpa[bf,hq] using hs
  have hl:∀a:Addr,(loadCells a 0).run P w = .ok #[] w:=λa=>run_loadCells_list (P:=P) w a [] (λj v h=>by simp at h)
  cases a<;>cases base<;>simp[Builtin.copy_,run_underlying hu,Builtin.lenOf,Builtin.firstCells,sizeOf,typeInfo,hq,hi,hl,storeCells,goInt]
theorem awI{P:Program}{o:Oper}{W:Env->aq->Prop}{env:Env}{H:aq}(t1 t2:TypeId)(x y:Operand)(id v:Nat)(e:TypeId)(es:List (List PV))(hop:o.op = .call ⟨.builtin .copy,#[x,y],#[t1,t2]⟩)(hu:P.underlying t1=some (.slice e))(hsz:bf P e=some 1)
  (hx:ev env x = .row id v) (hy:ev env y = .p (.aE es)) (hH:H id=some (.row v e 1 []))
  (hW:W (bZ env o.dst (.p (.val (.int .i64 0)))) H):kf P o W env H:=by
 refine .inr (.inr (.inl ⟨_,_,hW,λC I L tm w σ hs hσ=>?_⟩));have hxv:=hσ x;have hyv:=hσ y;rw[hx] at hxv;rw[hy] at hyv;obtain⟨hdr,us,q1,q2,q3,q4,q5,q6,q7⟩:=hs.chunk id _ hH;obtain⟨ao,cap,cs,e2,_⟩:=hyv.nc.apR;have e1:∃base cp,σ x = .slice base 0 cp:=by
  generalize σ x=ux at hxv;cases hxv with
  |row _ _ _ v1 m9 sz1 ql hle hh hone =>
   rw[q1] at ql;simp only[cm,Loc.row.injEq] at ql;obtain⟨r1,r2,r3⟩:=ql;subst r1 r2 r3;rw[hh rfl];rcases q2.2 with ⟨h,_⟩|⟨g,cp,cur,heq,_⟩
   ·exact⟨_,_,h⟩
   ·exact⟨_,_,heq⟩
 obtain⟨base,cp,e1⟩:=e1;have hr:=asQ (P:=P) w t1 t2 o.type e hu hsz base ao cp es.length cap;refine⟨_,_,I,L,.inl (by unfold execOp;rw[hop];simp[resolve,invoke,builtin,Result.andThen,e1,e2,hr]),.p _ _ (.val _ rfl),λenv tm hs=>hs⟩
set_option maxRecDepth 20000 in
theorem aac(a:Int):aZ pw 240 [.aE [[.val (.int .i64 a)]],.val (.int .i64 0)] (λv=>v = .row 3 1 []):=by refine bl [30] func240 ?_;rw[ntmps240,results240];simp only[go_sem];have hc:decide ((0:Int)<0)=false:=rfl;have hwl:IntKind.u64.wrap 1=1:=rfl;have hw1:IntKind.u64.wrap 0=0:=rfl;have hw2:i64.wrap 0=0:=rfl;have hlt:decide ((9223372036854775807:Int)<((0:Nat):Int))=false:=rfl;have hz:decide ((0:Int)<0)=false:=rfl;have hr0:(i64.wrap ((0:Nat):Int)).toNat=0:=rfl;simp only[go_sem,hr0,List.replicate_zero,hc,hw1,hw2,hwl,Bool.not_false];refine aU (awG 0 (by omega)) (by simp only[go_sem,hr0,List.replicate_zero,hc,hw1,hw2,hwl,Bool.not_false]<;>rfl) (abB) ?_;simp only[go_sem,hr0,List.replicate_zero,hc,hw1,hw2,hwl,Bool.not_false,hlt,Int.toNat_natCast,gZ];refine⟨by decide,?_⟩;refine awI 35 35 (.tmp 31) (.tmp 32) 30 0 3 [[.val (.int .i64 a)]] rfl (by kernel_rfl) (by kernel_rfl) (by simp only[go_sem,hr0,List.replicate_zero,hc,hw1,hw2,hwl,Bool.not_false,hlt,Int.toNat_natCast,gZ]) (by simp only[go_sem,hr0,List.replicate_zero,hc,hw1,hw2,hwl,Bool.not_false,hlt,Int.toNat_natCast,gZ]<;>rfl) (by simp only[go_sem,hr0,List.replicate_zero,hc,hw1,hw2,hwl,Bool.not_false,hlt,Int.toNat_natCast,gZ]) ?_;simp only[go_sem,hr0,List.replicate_zero,hc,hw1,hw2,hwl,Bool.not_false,hlt,Int.toNat_natCast,gZ];refine ck (σ:=Nat) (λk=>(cD (cD gU 7 (.row 30 0)) 8 (.p (.val (.int .i64 k))))) (λ_=>(bh cv 30 (.row 0 3 1 []))) (λk=>k=0) (λ_=>0) 0 rfl cJ ?_;rintro k rfl;simp only[go_sem,hr0,List.replicate_zero,hc,hw1,hw2,hwl,Bool.not_false,hlt,Int.toNat_natCast,gZ];exact⟨by decide,_,.refl _,rfl⟩
set_option maxRecDepth 20000 in
theorem aaP(l:List Int)(n:Int)(r:List Int)(h:sC l n=some r):aZ pw 240 [.aE (l.map encI),.val (.int .i64 n)] (λv=>v = .row 3 1 (r.map encI)):=by
 obtain⟨⟨h0,h1,h2⟩,rfl⟩:=oV h;obtain⟨a,rfl⟩:∃a,l=[a]:=List.length_eq_one_iff.1 h2;obtain⟨N,rfl⟩:∃N:Nat,n=N:=⟨n.toNat,by omega⟩;rcases Nat.eq_zero_or_pos N with rfl|h0
 ·exact aac a
 simp only[Int.toNat_natCast];refine bl [30] func240 ?_;rw[ntmps240,results240];simp only[go_sem];refine aJ (λhc=>?_) (λhc=>?_)
 ·have:=bY hc;omega
 have hw1:IntKind.u64.wrap (N:Int)=N:=IntWalk.u64_in _ (by omega);have hw2:i64.wrap (N:Int)=N:=gm (by omega);have hwl:IntKind.u64.wrap 1=1:=rfl;simp only[go_sem,hw1,hw2,hwl,Int.toNat_natCast];refine aU (awG N (by omega)) (by simp only[go_sem,hw1,hw2,hwl,Int.toNat_natCast]<;>rfl) (abB) ?_;have hlt:decide ((9223372036854775807:Int)<N)=false:=jz (by omega);have hz:decide ((0:Int)<0)=false:=rfl;simp only[go_sem,hw1,hw2,hwl,Int.toNat_natCast,hlt,hz,Bool.not_false,gZ];refine⟨by omega,?_⟩;refine ayF 35 35 (.tmp 31) (.tmp 32) 30 0 3 (List.replicate N [.val (.int .i64 0)]) [.val (.int .i64 a)] rfl (by kernel_rfl) (by kernel_rfl) (by simp only[go_sem,hw1,hw2,hwl,Int.toNat_natCast,hlt,hz,Bool.not_false,gZ]) (by simp only[go_sem,hw1,hw2,hwl,Int.toNat_natCast,hlt,hz,Bool.not_false,gZ]<;>rfl) (by simp only[go_sem,hw1,hw2,hwl,Int.toNat_natCast,hlt,hz,Bool.not_false,gZ]) (by simp) (by simp;omega) ?_;simp only[go_sem,hw1,hw2,hwl,Int.toNat_natCast,hlt,hz,Bool.not_false,gZ];refine ck (σ:=Nat) (λk=>(cD (cD gU 7 (.row 30 0)) 8 (.p (.val (.int .i64 k))))) (λk=>(bh cv 30 (.row 0 3 1 (abL N k a)))) (λk=>1<=k/\k<=N) (λk=>N-k) 1 ⟨by omega,by omega⟩ ?_ ?_
 ·rw[awH N a];exact cJ
 rintro k ⟨hk1,hk2⟩;simp only[go_sem,hw1,hw2,hwl,Int.toNat_natCast,hlt,hz,Bool.not_false,gZ,p5 N k a hk2];refine aJ (λhc=>?_) (λhc=>?_)
 ·have hk3:k<N:=by have:=bY hc;omega
  simp only[go_sem,hw1,hw2,hwl,Int.toNat_natCast,hlt,hz,Bool.not_false,gZ,p5 N k a hk2];intro C I L tm w hC hs;have hs0:=(Fr.drew C I L _ w) _ tm hs;have hlen:(abL N k a).length=N:=p5 N k a hk2;obtain⟨g,cap,us,hL,hcap,aB9,aFC,aFD,aFE,hone⟩:=ayG hs0 (id:=30) (v:=0) (e:=3) (es:=abL N k a) (by simp only[go_sem,hw1,hw2,hwl,Int.toNat_natCast,hlt,hz,Bool.not_false,gZ,p5 N k a hk2]) (by omega);rw[hlen] at hL hcap aB9;refine xL (fuel:=9) 0 _ (.int .i64 k) rfl (by kernel_rfl) (by kernel_rfl) (by kernel_rfl) (λ_ _ _ h=>by cases h.2.1) rfl (by rw[hC];show 38<48;decide) rfl hs0 (λσ hσ w=>wA rfl (di.dr (show di I L (σ (.tmp 8)) (.p (.val (.int .i64 k))) from hσ (.tmp 8))).1 w) λtm1 hs1=>?_
  refine xL (fuel:=8) 1 _ (.slice (some ⟨g,0,none⟩) N cap) rfl (by kernel_rfl) (by kernel_rfl) (by kernel_rfl) (λ_ _ _ h=>by cases h.2.1) rfl (by rw[hC];show 39<48;decide) rfl hs1 (λσ hσ w=>wA rfl (di.awh (show di I L (σ (.tmp 7)) (.row 30 0) from hσ (.tmp 7)) hL) w) λtm2 hs2=>?_
  refine xL (fuel:=7) 2 _ (.int .i64 k) rfl (by kernel_rfl) (by kernel_rfl) (by kernel_rfl) (λ_ _ _ h=>by cases h.2.1) rfl (by rw[hC];show 40<48;decide) rfl hs2 (λσ hσ w=>wA rfl (di.dr (show di I L (σ (.tmp 8)) (.p (.val (.int .i64 k))) from hσ (.tmp 8))).1 w) λtm3 hs3=>?_
  refine xL (fuel:=6) 3 _ (.slice (some ⟨g,k,none⟩) (N-k) (cap-k)) rfl (by kernel_rfl) (by kernel_rfl) (by kernel_rfl) (λ_ _ _ h=>by cases h.2.1) rfl (by rw[hC];show 41<48;decide) rfl hs3 (λσ hσ w=>al1 (P:=pw) (e:=3) rfl (by kernel_rfl) (by kernel_rfl) (di.dr (show di I L (σ (.tmp 39)) (.p (.val (.slice (some ⟨g,0,none⟩) N cap))) from hσ (.tmp 39))).1 (di.dr (show di I L (σ (.tmp 40)) (.p (.val (.int .i64 k))) from hσ (.tmp 40))).1 hk2 (by omega) w) λtm4 hs4=>?_
  refine xL (fuel:=5) 4 _ (.slice (some ⟨g,0,none⟩) N cap) rfl (by kernel_rfl) (by kernel_rfl) (by kernel_rfl) (λ_ _ _ h=>by cases h.2.1) rfl (by rw[hC];show 42<48;decide) rfl hs4 (λσ hσ w=>wA rfl (di.awh (show di I L (σ (.tmp 7)) (.row 30 0) from hσ (.tmp 7)) hL) w) λtm5 hs5=>?_
  refine xL (fuel:=4) 5 _ (.int .i64 k) rfl (by kernel_rfl) (by kernel_rfl) (by kernel_rfl) (λ_ _ _ h=>by cases h.2.1) rfl (by rw[hC];show 43<48;decide) rfl hs5 (λσ hσ w=>wA rfl (di.dr (show di I L (σ (.tmp 8)) (.p (.val (.int .i64 k))) from hσ (.tmp 8))).1 w) λtm6 hs6=>?_
  refine xL (fuel:=3) 6 _ (.slice (some ⟨g,0,none⟩) k cap) rfl (by kernel_rfl) (by kernel_rfl) (by kernel_rfl) (λ_ _ _ h=>by cases h.2.1) rfl (by rw[hC];show 44<48;decide) rfl hs6 (λσ hσ w=>al2 (P:=pw) (e:=3) rfl (by kernel_rfl) (by kernel_rfl) (di.dr (show di I L (σ (.tmp 42)) (.p (.val (.slice (some ⟨g,0,none⟩) N cap))) from hσ (.tmp 42))).1 (di.dr (show di I L (σ (.tmp 43)) (.p (.val (.int .i64 k))) from hσ (.tmp 43))).1 (by omega) w) λtm7 hs7=>?_
  have hcl:(us.take (min k (N-k))).length=min k (N-k):=by rw[List.length_take,aB9];omega
  have hfl:(abL N k a).flatten=List.replicate k (PV.val (.int .i64 a))++List.replicate (N-k) (PV.val (.int .i64 0)):=by simp[abL,List.flatten_append]
  have hft:(abL N k a).flatten.take (min k (N-k))=List.replicate (min k (N-k)) (PV.val (.int .i64 a)):=by rw[hfl,List.take_append_of_le_length (by simp;omega),List.take_replicate];congr 1;omega
  refine aoM (fuel:=2) 7 _ rfl (by kernel_rfl) rfl (by rw[hC];show 45<48;decide) hs7 (λσ hσ=>afR hs7 (.tmp 41) (.tmp 44) 35 35 rfl (id:=30) (v:=0) (e:=3) (es:=abL N k a) (by simp only[go_sem,hw1,hw2,hwl,Int.toNat_natCast,hlt,hz,Bool.not_false,gZ,p5 N k a hk2]) hL (by kernel_rfl) (by kernel_rfl) (di.dr (show di I L (σ (.tmp 41)) (.p (.val (.slice (some ⟨g,k,none⟩) (N-k) (cap-k)))) from hσ (.tmp 41))).1 (di.dr (show di I L (σ (.tmp 44)) (.p (.val (.slice (some ⟨g,0,none⟩) k cap))) from hσ (.tmp 44))).1 (us.take (min k (N-k))) (List.replicate (min k (N-k)) (PV.val (.int .i64 a))) ?_ ?_ ?_ ?_ ?_ ?_) ?_
  ·exact hcl
  ·rw[hcl,List.length_replicate]
  ·rw[hcl,hlen];omega
  ·intro j u hj;rw[List.getElem?_take] at hj;split at hj
   ·rw[Addr.add_mid,Nat.zero_add];exact aFE j u hj
   ·cases hj
  ·intro u hu;exact aFD u (List.mem_of_mem_take hu)
  ·intro j u c hj hc;rw[<-hft] at hc;rw[List.getElem?_take] at hj hc;split at hj
   ·rename_i h;rw[if_pos h] at hc;exact aFC j u c hj hc
   ·cases hj
  intro I8 L8 tm8 w8 _ hs8;have hw3:i64.wrap ((k:Int)+((min k (N-k):Nat):Int))=((k+min k (N-k):Nat):Int):=by rw[gm (by omega)];omega
  refine aoM (fuel:=1) 8 _ rfl (by kernel_rfl) rfl (by rw[hC];show 46<48;decide) hs8 (λσ hσ=>td (v:=.p (.val (.int .i64 ((k+min k (N-k):Nat):Int)))) (pre:=True) (by simp only[go_sem,hcl,hw3,List.getElem_toArray,List.getElem_cons_succ,List.getElem_cons_zero,hw1,hw2,hwl,Int.toNat_natCast,hlt,hz,Bool.not_false,gZ,p5 N k a hk2];try rfl) trivial hs8 hσ) ?_;intro I9 L9 tm9 w9 _ hs9;refine aoM (fuel:=0) 9 _ rfl (by kernel_rfl) rfl (by rw[hC];show 8<48;decide) hs9 (λσ hσ=>td (v:=.p (.val (.int .i64 ((k+min k (N-k):Nat):Int)))) (pre:=True) (by simp only[go_sem,List.getElem_toArray,List.getElem_cons_succ,List.getElem_cons_zero,hw1,hw2,hwl,Int.toNat_natCast,hlt,hz,Bool.not_false,gZ,p5 N k a hk2];try rfl) trivial hs9 hσ) ?_;intro I10 L10 tm10 w10 _ aFF;refine wpAny_done (by kernel_rfl) ⟨rfl,rfl,_,_,_,_,?_,aFF⟩ 0;have hsp:=asP N k (min k (N-k)) a (by omega);simp only[splice,List.length_map,List.length_replicate,List.append_assoc] at hsp;simp only[go_sem,List.getElem_toArray,List.getElem_cons_succ,List.getElem_cons_zero,hsp,List.append_assoc,List.length_map,List.length_replicate,hw1,hw2,hwl,Int.toNat_natCast,hlt,hz,Bool.not_false,gZ,p5 N k a hk2];exact cC (k+min k (N-k)) ⟨by omega,by omega⟩ (by omega) cJ
 ·have hk3:k=N:=by have:=dm hc;omega
  simp only[go_sem,hw1,hw2,hwl,Int.toNat_natCast,hlt,hz,Bool.not_false,gZ,p5 N k a hk2];refine⟨by decide,_,.refl _,?_⟩;rw[hk3];simp[abL,encI]
structure DInv(N B M:Nat)(s:List Int×List Int):Prop where
 len:s.1.length=N
 val:∀x∈s.1,-1<=x/\x<=B
 que:∀x∈s.2,0<=x/\x<(N:Int)
 many:s.2.length<=M
 set:∀x∈s.2,0<=s.1.getD x.toNat 0
end Go.Proofs.YtldllhbhnpjlcaaGreat
namespace Go.Proofs
open Go.Shelf Go.RowKit Go.Lib Go.Sort
theorem YtldllhbhnpjlcaaGreat.ahO(arr:Array Value):(Value.agg arr).cells=arr:=rfl
theorem YtldllhbhnpjlcaaGreat.awJ{w:World}{k:Nat}(h:w.heap.size=k)(o:Obj):(w.alloc o).heap[k]? = some o:=by subst h;show (w.heap.push o)[w.heap.size]? = _;exact Array.getElem?_push_size
theorem YtldllhbhnpjlcaaGreat.aAB{w:World}{k:Nat}{x:Obj}(h:w.heap[k]? = some x)(o:Obj):(w.alloc o).heap[k]? = some x:=by have:=(Array.getElem?_eq_some_iff.1 h).1;show (w.heap.push o)[k]? = _;rw[Array.getElem?_push_lt this,<-h,Array.getElem?_eq_getElem this]
theorem YtldllhbhnpjlcaaGreat.ajq(arr:Array Value)(ao:Option Addr)(cap:Nat)(h8:arr[8]? = some (.slice ao 0 cap))(W:World) :
  Calls pw 262 #[.agg arr] W λe w'=>e = .returned (.tuple #[.map (some (W.heap.size+1)),.int .i64 0])/\w'=(W.alloc (.cells arr 97)).alloc (.map #[] 0):=by
 have hb:(Instr.box 97 (.agg arr)).run pw W = .ok (.pointer (some ⟨W.heap.size,0,none⟩)) (W.alloc (.cells arr 97)):=by simp[Instr.box,newVar,newRow,newObj,Sem.run,YtldllhbhnpjlcaaGreat.ahO];try rfl
 have hmm:=@run_makeMap pw;have hc8:((W.alloc (.cells arr 97)).alloc (.map #[] 0)).cell? ⟨W.heap.size,8,none⟩=some (.slice ao 0 cap):=by
  rw[<-h8];have e:((W.heap.push (.cells arr 97)).push (.map #[] 0))[W.heap.size]? = some (.cells arr 97):=by rw[Array.getElem?_push_lt (by simp)];simp
  simp only[World.cell?,World.alloc,e,Option.isSome_none,Bool.false_eq_true,if_false]
 go_enter func262,ntmps262
 go_wp2
 refine wp_loop_rounds 1 ?_;rw[rounds_succ]
 go_wp2
 go_ret2
 exact⟨rfl,rfl⟩
set_option maxRecDepth 20000 in
theorem YtldllhbhnpjlcaaGreat.awK(vs:Array Value)(arr:Array Value)(b:Nat)(e:TypeId)(ao:Option Addr)(cap:Nat)(hs:arr.size=38)(hone:∀u∈arr.toList,u.oneCell'=true)(h8:arr[8]? = some (.slice ao 0 cap))(W:World)(hb:W.heap[b]? = some (.cells arr e (0,0))) :
  Calls pw 185 #[.agg vs,.pointer (some ⟨b,0,none⟩)] W λe w'=>e = .returned (.int .i64 0)/\Below W.heap.size W w':=by
 have hx:(Instr.box 33 (.agg vs)).run pw W = .ok (.pointer (some ⟨W.heap.size,0,none⟩)) (W.alloc (.cells vs 33)):=by simp[Instr.box,newVar,newRow,newObj,Sem.run,YtldllhbhnpjlcaaGreat.ahO];try rfl
 have hbl:b<W.heap.size:=(Array.getElem?_eq_some_iff.1 hb).1;have hal:(W.alloc (.cells vs 33)).heap[b]? = some (.cells arr e (0,0)):=by rw[<-hb];simp only[World.alloc];rw[Array.getElem?_push_lt hbl,Array.getElem?_eq_getElem hbl]
 have hg:Go.bP.fP pw 97=some true:=by kernel_rfl
 have hi:(Tryz.prog.info? 97).map (·.size)=some 38:=by kernel_rfl
 obtain⟨d,hu,hd⟩:=Go.bP.xj hg;have hl:(W.alloc (.cells vs 33)).rangeAt b 0 arr.toList:=λj u hu=>by simp only[World.cell?,hal,Option.isSome_none,Bool.false_eq_true,if_false];simpa using hu
 rw[show some 38=some arr.toList.length by rw[Array.length_toList,hs]] at hi;have hum:Tryz.prog.underlying 336=some (.map 340 3):=by kernel_rfl
 have hm:∀ (A B:Obj),(((W.alloc A).alloc B).alloc (.map #[] 0)).heap[W.heap.size+1+1]? = some (.map #[] 0):=λA B=>YtldllhbhnpjlcaaGreat.awJ (by simp) _
 have hrg:∀ (A B:Obj),(Instr.range 336 (.map (some (W.heap.size+1+1)))).run pw (((W.alloc A).alloc B).alloc (.map #[] 0)) = .ok (.pointer (some ⟨W.heap.size+1+1+1,0,none⟩)) ((((W.alloc A).alloc B).alloc (.map #[] 0)).alloc (.mapIter (some (W.heap.size+1+1)) 0 #[] 0)):=λA B=>by
  simp only[Instr.range,Sem.run_bind,run_underlying hum,Result.andThen,getObj,Sem.run,hm A B];simp only[newObj,Sem.run,Result.andThen,Sem.run_bind];have e:(((W.alloc A).alloc B).alloc (.map #[] 0)).heap.size=W.heap.size+1+1+1:=by simp
  show Result.ok (Value.pointer (some ⟨(((W.alloc A).alloc B).alloc (.map #[] 0)).heap.size,0,none⟩)) _=_;rw[e];rfl
 have hnx:∀ (A B:Obj) (ty:TypeId),(Instr.next (.pointer (some ⟨W.heap.size+1+1+1,0,none⟩)) false ty).run pw ((((W.alloc A).alloc B).alloc (.map #[] 0)).alloc (.mapIter (some (W.heap.size+1+1)) 0 #[] 0)) = .ok (.tuple #[.bool false]) ((((W.alloc A).alloc B).alloc (.map #[] 0)).alloc (.mapIter (some (W.heap.size+1+1)) 0 #[] 0)):=λA B ty=>by
  have h1:((((W.alloc A).alloc B).alloc (.map #[] 0)).alloc (.mapIter (some (W.heap.size+1+1)) 0 #[] 0)).heap[W.heap.size+1+1+1]? = some (.mapIter (some (W.heap.size+1+1)) 0 #[] 0):=YtldllhbhnpjlcaaGreat.awJ (by simp) _;have h2:((((W.alloc A).alloc B).alloc (.map #[] 0)).alloc (.mapIter (some (W.heap.size+1+1)) 0 #[] 0)).heap[W.heap.size+1+1]? = some (.map #[] 0):=YtldllhbhnpjlcaaGreat.aAB (hm A B) _;rcases run_next_at (P:=pw) _ ty _ _ _ _ _ _ _ h1 h2 (λx hx=>by simp at hx) (Nat.le_refl _) with h|⟨x,hx,_⟩
  ·exact h.2
  ·simp[leftOf] at hx
 have eg:∀args w,(callFunc 262 args).run pw w = .ok (.enter 262 args) w:=enters_of func262 (by kernel_rfl) rfl
 go_enter func185,ntmps185
 go_wp2_with (first
  |(refine wpList_load_mid rfl 97 _ rfl b 0 rfl arr.toList d hl hu hd hi ?_)
  |(go_at_call 262;refine (YtldllhbhnpjlcaaGreat.ajq _ _ _ h8 _).mono ?_;rintro e w' ⟨rfl,rfl⟩)
  |go_in)
 refine wp_loop_rounds 1 ?_;rw[rounds_succ]
 go_wp2
 go_ret
 have b1:=(Below.refl W.heap.size W).alloc (Nat.le_refl _) (.cells vs 33);have b2:=b1.alloc b1.size (.cells arr 97);have b3:=b2.alloc b2.size (.map #[] 0);exact⟨rfl,b3.alloc b3.size _⟩
namespace YtldllhbhnpjlcaaGreat
open Go.bP
theorem ayX{W:Env->aq->Prop}{env:Env}{H:aq}{o:Oper}{ts:List PV}{id:Nat}{cs:List AV}(ha:cB o (ev env)=some (185,[.p (.agg ts),.ptr id 0]))(hH:H id=some (.box cs))(hl:cs.length=38){es:List (List PV)}(h8:cs[8]? = some (.p (.aE es)))(he:es.length=0)
  (hW:W (bZ env o.dst (.p (.val (.int .i64 0)))) H):aa3 pw o W env H:=λC I L tm w σ hs hσ=>by
 obtain⟨us,hr,hu⟩:=nQ ha (by kernel_rfl) hσ w;refine⟨185,_,hr,?_⟩;obtain⟨hu1,hu2⟩:=hu;obtain⟨u0,u1,rfl⟩:∃a b,us=[a,b]:=by
  match us,hu1 with
  | [a,b],_=>exact⟨a,b,rfl⟩
 have q0:=hu2 0 u0 _ rfl rfl;have q1:=hu2 1 u1 _ rfl rfl;obtain⟨b,arr,e,k1,k2,k3,k4,k5,k6⟩:=hs.chunk id _ hH;cases q1 with
 |ptr _ b' _ hb' =>
  rw[k1] at hb';cases hb';cases q0 with
  |p _ _ hv =>
   cases hv with
   |agg ws _ _ _ _ =>
    obtain⟨u8,hu8⟩:∃u,arr[8]? = some u:=⟨arr[8]'(by omega),Array.getElem?_eq_getElem _⟩;have hv8:=k4 8 u8 _ hu8 h8;cases hv8 with
    |p _ _ hv8 =>
     cases hv8 with
     |aE ao n cap es us' sz hn =>
      obtain rfl:n=0:=by omega
      refine (YtldllhbhnpjlcaaGreat.awK ws.toArray arr b e ao cap (by omega) (λu hu=>by
       obtain⟨j,hj,rfl⟩:=List.mem_iff_getElem.1 hu;exact k5 j _ (by simp at hj ⊢)) hu8 w k2).mono ?_
      rintro x w' ⟨rfl,hb⟩;exact⟨_,I,L,.p (.val (.int .i64 0)),H,rfl,hW,.p _ _ (.val _ rfl),hs.world (hb.mono hs.leB) λb hb'=>hb.block b hb'⟩
theorem aCa{q p : Prop}(z : q)(e : q → p := by
  intro Z
  (try simp only[go_sem,F])
  exact .inr (.inr (.inr (ayX (by simp only[go_sem,F]<;>rfl) (by simp only[go_sem,F]<;>rfl) rfl rfl (by rw[List.length_map];exact F.2) Z)))):p:=e z
end YtldllhbhnpjlcaaGreat
end Go.Proofs
namespace Go.bP
open Go.RowKit
variable{P:Program}{N:Nat}{own:List Nat}{ops:Array Oper}
theorem al8{K:Env->aq->Prop}(Inv:Array Bool->Env->aq->Prop)
  (hs:∀L e G,L.size=ops.size->Inv L e G->∀i∈Region.ready .any ops L,∃o,ops[i]? = some o/\adW P own ops o (Inv (L.setIfInBounds i true)) e G)
  (he:∀L e G,L.size=ops.size->Inv L e G->Region.ready .any ops L=[]->K e G) :
  ∀ (fuel:Nat) (L:Array Bool) (e:Env) (G:aq),L.size=ops.size->L.toList.countP (λb=>!b)<=fuel->Inv L e G->aiW P own ops (λ_=>true) K fuel L e G
 |0,L,e,G,hL,hc,h=>by
  have h0:Region.ready .any ops L=[]:=by
   apply List.eq_nil_iff_forall_not_mem.2;intro i hi;have h1:=(mem_ready.1 hi).1;have h2:L.toList.countP (λb=>!b)=0:=by omega
   rw[List.countP_eq_zero] at h2;obtain⟨o,ho,_⟩:=(mem_ready.1 hi).2;have hlt:i<L.size:=by rw[hL];exact (Array.getElem?_eq_some_iff.1 ho).1
   have h3:L.getD i true=L[i]:=by simp[Array.getD,hlt]
   have h4:=h2 L[i] (by simp);rw[h3] at h1;rw[h1] at h4;exact h4 rfl
  exact⟨h0,he L e G hL h h0⟩
 |fuel+1,L,e,G,hL,hc,h=>by
  refine⟨he L e G hL h,λi hi=>?_⟩;obtain⟨o,ho,ht⟩:=hs L e G hL h i hi;have h1:=(mem_ready.1 hi).1;have hlt:i<ops.size:=(Array.getElem?_eq_some_iff.1 ho).1;have aAh:∀e' G',Inv (L.setIfInBounds i true) e' G'->aiW P own ops (λ_=>true) K fuel (L.setIfInBounds i true) e' G':=λe' G' h' =>
   al8 Inv hs he fuel _ e' G' (by simp[hL]) (by
    have hlL:i<L.size:=by omega
    have h3:L.getD i true=L[i]:=by simp[Array.getD,hlL]
    rw[h3] at h1;have h4:(L.setIfInBounds i true).toList=L.toList.set i true:=by simp
    have h5:L.toList[i]'(by simpa using hlL)=false:=by simpa using h1
    have h6:0<L.toList.countP (λb=>!b):=List.countP_pos_iff.2 ⟨false,by rw[<-h5];exact pz _,rfl⟩;rw[h4,List.countP_set (by simpa using hlL),h5];simp only[Bool.not_false,Bool.not_true,if_true,Bool.false_eq_true,if_false];omega) h'
  unfold aOp;rw[ho];rcases afk aAh ht with h2|h2
  ·exact .inl h2
  ·exact .inr ⟨h2.1,.inr ⟨rfl,h2.2⟩⟩
theorem awL{K:Env->aq->Prop}{env:Env}{H:aq}(Inv:Array Bool->Env->aq->Prop)(hd:abA N ops=true)(h0:Inv (Array.replicate ops.size false) env H)
  (hs:∀L e G,L.size=ops.size->Inv L e G->∀i∈Region.ready .any ops L,∃o,ops[i]? = some o/\adW P own ops o (Inv (L.setIfInBounds i true)) e G)
  (he:∀L e G,L.size=ops.size->Inv L e G->Region.ready .any ops L=[]->K e G):vf P N own ops K env H:=by
 intro C I L tm w hN aFG;have akY:=al8 Inv hs he ops.size _ env H (by simp) (by simp;exact Nat.le_trans (List.countP_le_length) (by simp)) h0;have hs':fV C env H I L tm { w with drawn:=w.drawn+1 }:=(Fr.drew C I L H w) env tm aFG;exact qz (by rw[hN];exact zQ hd) (λenv' H' I' L' tm' w' hk aAb=>⟨rfl,rfl,env',H',I',L',hk,aAb⟩) ops.size _ env H I L tm _ akY hs'
theorem agQ{o:Oper}{K:Env->aq->Prop}{env:Env}{H:aq}(h:er P N own ops [(o,.t)] K env H):adW P own ops o K env H:=by
 unfold er at h;obtain⟨_,h⟩:=h;unfold adW;split at h
 ·rename_i hg;refine .inr ⟨hg,afh (λe G hk=>?_) h⟩;unfold er at hk;exact hk
 ·rename_i hg;unfold er at h;exact .inl ⟨hg,h⟩
 ·exact h.elim
def mP(Q:Nat->Oper->Prop):List Oper->Nat->Prop
 | [],_=>True
 |o :: r,k=>Q k o/\mP Q r (k+1)
theorem ahP{Q:Nat->Oper->Prop} : ∀ (l:List Oper) (k:Nat),mP Q l k->∀ (i:Nat) (o:Oper),l[i]? = some o->Q (k+i) o
 | [],_,_,i,o,h=>by simp at h
 |x :: r,k,hq,0,o,h=>by simp only[List.getElem?_cons_zero,cm] at h;subst h;exact hq.1
 |x :: r,k,hq,i+1,o,h=>by have:=ahP r (k+1) hq.2 i o (by simpa using h);rwa [show k+(i+1)=k+1+i by omega]
def awM(P:Program)(N:Nat)(own:List Nat)(ops:Array Oper)(Inv:(Nat->Bool)->Env->aq->Prop)(i:Nat)(o:Oper):Prop:=∀ (l:Nat->Bool) (e:Env) (G:aq),Inv l e G->l i=false->(o.after.toList.all λx=>!Region.binds .any x||l x.on)=true->er P N own ops [(o,.t)] (Inv λj=>j == i||l j) e G
def awN(l:List Oper):Bool:=(List.range l.length).all λi=>match l[i]? with
 |some o=>o.after.toList.all λx=>!Region.binds .any x||decide (x.on<i)
 |none=>true
theorem asR{l:List Oper}{K:Env->aq->Prop}{env:Env}{H:aq}(Inv:(Nat->Bool)->Env->aq->Prop)(hd:abA N l.toArray=true)(hb:awN l=true)(h0:Inv (λ_=>false) env H)
  (he:∀L e G,Inv L e G->(∀i,i<l.length->L i=true)->K e G) (hs:mP (awM P N own l.toArray Inv) l 0):vf P N own l.toArray K env H:=by
 refine awL (λL e G=>Inv (λi=>L.getD i false) e G) hd ?_ ?_ ?_
 ·have:(λi=>(Array.replicate l.toArray.size false).getD i false)=λ_=>false:=by funext i;simp only[Array.getD];split<;>simp
  rw[this];exact h0
 ·intro L e G hL hI i hi;obtain⟨h1,o,ho,h2⟩:=mem_ready.1 hi;have hlt:i<L.size:=by rw[hL];exact (Array.getElem?_eq_some_iff.1 ho).1
  refine⟨o,ho,agQ (N:=N) ?_⟩;have hst:=ahP l 0 hs i o (by simpa using ho);rw[Nat.zero_add] at hst;have hw:=hst (λi=>L.getD i false) e G hI (by
   have h3:L.getD i true=L[i]:=by simp[Array.getD,hlt]
   have h4:L.getD i false=L[i]:=by simp[Array.getD,hlt]
   show L.getD i false=false;rw[h4,<-h3];exact h1) (by
   rw[List.all_eq_true];intro x hx;cases hb:Region.binds .any x
   ·rfl
   ·exact h2 x (by simpa using hx) hb)
  have:(λj=>(L.setIfInBounds i true).getD j false)=λj=>j == i||L.getD j false:=by
   funext j;by_cases hj:i=j
   ·subst hj;simp[Array.getD,hlt]
   ·rw[getD_set_ne false hj];have:(j == i)=false:=by simpa using λh=>hj h.symm
    rw[this];rfl
  rw[this];exact hw
 ·intro L e G hL hI hr;refine he _ e G hI λi=>?_
  induction i using Nat.strongRecOn with
  |_ i ih =>
   intro hi;have hlt:i<L.size:=by rw[hL];simpa using hi
   cases hc:L.getD i false with
   |true=>rfl
   |false =>
    have h3:L.getD i true=L[i]:=by simp[Array.getD,hlt]
    have h4:L.getD i false=L[i]:=by simp[Array.getD,hlt]
    have hm:i∈Region.ready .any l.toArray L:=mem_ready.2 ⟨by rw[h3,<-h4];exact hc,l[i],by simp[hi],λx hx hbx=>by
     have h5:=List.all_eq_true.1 hb i (List.mem_range.2 hi);rw[List.getElem?_eq_getElem hi] at h5;have h6:=List.all_eq_true.1 h5 x (by simpa using hx);rw[hbx] at h6;have h7:x.on<i:=by simpa using h6
     exact ih x.on h7 (by omega)⟩
    rw[hr] at hm;cases hm
end Go.bP
namespace Go.bP
variable{P:Program}{k:FuncId}
mutual
theorem afY(s t:Nat):∀a:AV,fy s t (fy s t a)=a
 | .row id v=>by simp only[fy,kJ]
 | .ptr id o=>by simp only[fy,kJ]
 | .iY id v i o=>by simp only[fy,kJ]
 | .agg cs=>by simp only[fy,wC]
 | .dg cs=>by simp only[fy,wC]
 | .jF f a b=>by simp only[fy,wC]
 | .kP id v=>by simp only[fy,kJ]
 | .lz id v i o=>by simp only[fy,kJ]
 | .mu id v i=>by simp only[fy,kJ]
 | .om id v i j o=>by simp only[fy,kJ]
 | .bsl id n=>by simp only[fy,kJ]
 | .nP id v o n m z=>by simp only[fy,kJ]
 | .p x=>by simp only[fy]
 | .dead=>by simp only[fy]
theorem wC(s t:Nat):∀a:List AV,kY s t (kY s t a)=a
 | []=>by simp only[kY]
 |a :: r=>by simp only[kY,afY,wC]
end
theorem awO(s t:Nat):∀c:Chunk,aet s t (aet s t c)=c
 | .box cs=>by simp only[aet,wC]
 | .row ..=>rfl
 | .shut ..=>rfl
 | .tail ..=>rfl
 | .deep ..=>rfl
theorem awP(s t:Nat)(c:Option Chunk):adp s t (adp s t c)=c:=by
 cases c with
 |none=>rfl
 |some c=>simp only[adp,awO]
def awQ(G H:aq):List AV->List AV->Prop
 | [],[]=>True
 |a :: r,x :: s=>((lU G a/\x=a)\/zZ G H a=some x)/\awQ G H r s
 |_,_=>False
theorem al9{I:Mem}{L:bg}{C:Ctx}{H G:aq}{env:Env}{tm:Array Value}{w:World}(hs:fV C env H I L tm w):∀ {us:List Value} {dP xs:List AV},ng I L us dP->awQ G H dP xs->ng I (L.to G) us xs
 |us,[],[],hu,h=>⟨by simpa using hu.1,by simp⟩
 |us,[],_ :: _,hu,h=>h.elim
 |us,_ :: _,[],hu,h=>h.elim
 | [],a :: r,x :: xs,hu,h=>by have:=hu.1;simp at this
 |u :: us,a :: r,x :: xs,hu,h=>by
  have k:=al9 hs (us:=us) (dP:=r) ⟨by have:=hu.1;simpa using this,λj u c hj hc=>hu.2 (j+1) u c hj hc⟩ h.2;refine⟨by simp[k.1],λj u' c hj hc=>?_⟩;cases j with
  |zero =>
   simp at hj hc;subst hj hc;rcases h.1 with ⟨h1,h2⟩|h1
   ·subst h2;exact (hu.2 0 u x rfl rfl).to h1
   ·exact alZ hs (hu.2 0 u a rfl rfl) h1
  |succ j=>exact k.2 j u' c (by simpa using hj) (by simpa using hc)
theorem asS{γ:Type}{o:Oper}{W:Env->aq->Prop}{env:Env}{H:aq}{dP xs ys:List AV}{A:γ->AV}{l0:List (Nat×Chunk)}{l1:γ->List (Nat×Chunk)}
  (c:yF P k (bq l0) ys λa H=>∃v,mb a (A v)/\vJ H (l1 v)) (ha:cB o (ev env)=some (k,dP)) (hx:awQ (bq l0) H dP xs) (hy:ow xs ys)
  (hh:hiL l0) (h0:vJ H l0/\wo (bq l0) l0) (h1:∀v,wo (bq (l1 v)) (l1 v)/\lU (bq (l1 v)) (A v)) (hst:∀v,xJ (bq (l1 v)) l0) (hnw:∀v,newL (bq l0) H (l1 v))
  (hW:∀v,W (bZ env o.dst (A v)) (over (l1 v) H)):aa3 P o W env H:=λC I L tm w σ hs hσ=>by
 obtain⟨us,hr,hu⟩:=nQ ha c.1 hσ w;refine⟨k,_,hr,?_⟩;have hv:=al9 hs hu hx;obtain⟨q1,q2⟩:=qH hy;have yz:ng I (L.to (bq l0)) us ys:=⟨hv.1.trans q1,λj u c hj hc=>by
  obtain⟨a,ha⟩:∃a,xs[j]? = some a:=by have hj:j<us.length:=(List.getElem?_eq_some_iff.1 hj).1;have hl:=hv.1;exact⟨xs[j]'(by omega),by simp[hl ▸ hj]⟩
  exact xF (hv.2 j u a hj ha) (q2 j a c ha hc)⟩
 refine (c.2 C.B I _ w us hs.leB (apQ hh) (hs.abb h0.1 h0.2 hh) yz).mono λx w' ⟨u,a,H',I',L',m1,⟨v,m2,m3⟩,m4,m5⟩=>?_
 obtain⟨n1,n2⟩:=hs.azF h0.1 hh m5 m3 (h1 v).1 (hst v) (hnw v);exact⟨u,I',_,A v,_,m1,hW v,((xF m4 m2).to (h1 v).2).mono (Mem.ew _) n2,n1⟩
theorem awR{o:Oper}{W:Env->aq->Prop}{env:Env}{H:aq}{i j u v:Nat}{e e':TypeId}{s s':Nat}{es es' fs fs':List (List PV)}{x y z:PV}{X Y Z:AV}(hi:i<1000000)(hj:j<1000000)(hij:i≠j)(hA:H 1000000=none)(hB:H 1000001=none)
  (c:yF P k (bq [(1000000,.row u e s es),(1000001,.row v e' s' es')]) [.agg [.row 1000000 u,.row 1000001 v],.p x,.p y,.p z] λa H=>∃w:Nat×Nat,mb a (.agg [.row 1000000 w.1,.row 1000001 w.2])/\vJ H [(1000000,.row w.1 e s fs),(1000001,.row w.2 e' s' fs')])
  (hHi:H i=some (.row u e s es)) (hHj:H j=some (.row v e' s' es')) (ha:cB o (ev (sP j 1000001 (sP i 1000000 env)))=some (k,[.agg [.row 1000000 u,.row 1000001 v],X,Y,Z]))
  (hX:zZ (bq [(1000000,.row u e s es),(1000001,.row v e' s' es')]) (sQ j 1000001 (sQ i 1000000 H)) X=some (.p x)) (hY:zZ (bq [(1000000,.row u e s es),(1000001,.row v e' s' es')]) (sQ j 1000001 (sQ i 1000000 H)) Y=some (.p y)) (hZ:zZ (bq [(1000000,.row u e s es),(1000001,.row v e' s' es')]) (sQ j 1000001 (sQ i 1000000 H)) Z=some (.p z))
  (hW:∀w:Nat×Nat,W (bZ env o.dst (.agg [.row i w.1,.row j w.2])) (bh (bh H i (.row w.1 e s fs)) j (.row w.2 e' s' fs'))):kf P o W env H:=by
 have hji:¬ j=i:=λh=>hij h.symm
 have a1:¬ (1000000:Nat)=i:=by omega
 have a2:¬ (1000000:Nat)=j:=by omega
 have a3:¬ (1000001:Nat)=i:=by omega
 have a4:¬ (1000001:Nat)=j:=by omega
 have b1:¬ i=1000000:=by omega
 have b2:¬ j=1000000:=by omega
 have b3:¬ i=1000001:=by omega
 have b4:¬ j=1000001:=by omega
 have hB2:sQ i 1000000 H 1000001=none:=by simp[sR,sw,a3,hB,ahJ]
 refine .inr (.inr (.inr (adq i 1000000 hi hA (adq j 1000001 hj hB2 (asS (xs:=[.agg [.row 1000000 u,.row 1000001 v],.p x,.p y,.p z]) (A:=λw:Nat×Nat=>.agg [.row 1000000 w.1,.row 1000001 w.2]) (l0:=[(1000000,.row u e s es),(1000001,.row v e' s' es')]) (l1:=λw:Nat×Nat=>[(1000000,.row w.1 e s fs),(1000001,.row w.2 e' s' fs')]) c ha ?_ ?_ ?_ ?_ ?_ ?_ ?_ λw=>?_)))))
 ·exact⟨.inl ⟨by simp[go_sem,bq,bh],rfl⟩,.inr hX,.inr hY,.inr hZ,trivial⟩
 ·simp[go_sem,ahC]
 ·simp[go_sem]
 ·simp[go_sem,sR,sw,a1,a2,a3,a4,b1,b2,b3,b4,hHi,hHj,adp,aet,bq,hji]
 ·intro w;simp[go_sem,bq]
 ·intro w;simp[go_sem,bq]
 ·intro w;simp[go_sem,bq]
 have e1:sP i 1000000 (sP j 1000001 (bZ (sP j 1000001 (sP i 1000000 env)) o.dst (.agg [.row 1000000 w.1,.row 1000001 w.2])))=bZ env o.dst (.agg [.row i w.1,.row j w.2]):=by
  cases hd:o.dst with
  |none=>funext t;simp only[bZ,sP,afY]
  |some d =>
   funext t;simp only[bZ,cD,sP];split
   ·simp[fy,kY,sw,hij,hji,a1,a2,a3,a4,b1,b2,b3,b4]
   ·simp only[afY]
 have e2:sQ i 1000000 (sQ j 1000001 (over [(1000000,.row w.1 e s fs),(1000001,.row w.2 e' s' fs')] (sQ j 1000001 (sQ i 1000000 H))))=bh (bh H i (.row w.1 e s fs)) j (.row w.2 e' s' fs'):=by
  funext t;simp only[sQ,ahG,alV,bh];by_cases t1:t=i
  ·subst t1;simp[sw,hij,adp,aet,a2,b1,b2,b3,b4]
  by_cases t2:t=j
  ·subst t2;simp[sw,hji,a2,adp,aet,t1,b1,b2,b3,b4]
  by_cases t3:t=1000000
  ·subst t3;simp[sw,a1,a2,hij,a3,hA,adp,t1,t2,b1,b2,b3,b4]
  by_cases t4:t=1000001
  ·subst t4;simp[sw,hji,a1,a2,a3,a4,b1,b2,b3,b4,hB,adp,t1,t2]
  ·simp[sw,t1,t2,t3,t4,awP]
 rw[e1,e2];exact hW w
end Go.bP
namespace Go.bP
variable{P:Program}{N:Nat}{own:List Nat}
theorem aoZ{l:List Oper}{K:Env->aq->Prop}{env:Env}{H:aq}(Inv:Env->aq->(Nat->Bool)->Env->aq->Prop)(hd:abA N l.toArray=true)(hb:awN l=true)(h0:Inv env H (λ_=>false) env H)
  (hs:mP (awM P N own l.toArray (Inv env H)) l 0) (he:∀L e G,Inv env H L e G->(∀i,i<l.length->L i=true)->K e G):vf P N own l.toArray K env H:=asR (Inv env H) hd hb h0 he hs
end Go.bP
namespace Go.Proofs.YtldllhbhnpjlcaaGreat
open Go.bP
def FrA(E:Env)(H0:aq)(e:Env)(G:aq):Prop:=(∀t,(t<157\/167<t)->t≠20->e t=E t)/\∀i,i≠20->i≠3384->i≠3385->G i=H0 i
theorem FrA.start(E:Env)(H0:aq):FrA E H0 E H0:=⟨λ_ _ _=>rfl,λ_ _ _ _=>rfl⟩
theorem FrA.up{E e:Env}{H0 G:aq}(h:FrA E H0 e G){d:Nat}{v:AV}(hd:157<=d/\d<=167\/d=20):FrA E H0 (cD e d v) G:=⟨λt h1 h2=>by
 unfold cD;rw[if_neg (by omega)];exact h.1 t h1 h2,h.2⟩
theorem FrA.hs{E e:Env}{H0 G:aq}(h:FrA E H0 e G){i:Nat}{c:Chunk}(hi:i=20\/i=3384\/i=3385):FrA E H0 e (bh G i c):=⟨h.1,λj h1 h2 h3=>by
 unfold bh;rw[if_neg (by omega)];exact h.2 j h1 h2 h3⟩
def fL(a:aF):List AV:=(aQ a).map .p
def ny(w:Nat×Nat):AV:=.agg [.row 3384 w.1,.row 3385 w.2]
def azJ(a b:aF)(o:cM)(kp:aO)(g:au)(r s:List Int×List Edge)(E:Env)(H0:aq)(l:Nat->Bool)(e:Env)(G:aq):Prop:=∃x y:Nat×Nat,FrA E H0 e G /\
 (e 5 = .ptr 5 0/\e 6 = .ptr 6 0/\e 7 = .ptr 7 0/\e 17 = .ptr 17 0/\e 18 = .ptr 18 0) /\
 (G 5=some (.box (fL a))/\G 6=some (.box (fL b))/\G 7=some (.box [.p (.aE (o.graph.nodes.map encI)),.p (.aE (o.graph.ag.map ay)),.p (.aE (o.left.nodes.map encI)),.p (.aE (o.left.ag.map encI)),.p (.aE (o.right.nodes.map encI)),.p (.aE (o.right.ag.map encI))]) /\
  G 17=some (.box [.p (.aE (kp.nodes.map encI)),.p (.aE (kp.ag.map encI))])/\G 18=some (.box [.row 3384 0,.row 3385 0])/\G 1000000=none/\G 1000001=none) /\
 (l 0=true->e 157=ny (0,0)) /\
 (l 1=true->e 158 = .p (.agg (aQ a))) /\
 (l 2=true->e 159 = .ptr 7 2) /\
 (l 3=true->e 160 = .p (.agg [.aE (o.left.nodes.map encI),.aE (o.left.ag.map encI)])) /\
 (l 4=true->e 161 = .p (.agg [.aE (kp.nodes.map encI),.aE (kp.ag.map encI)])) /\
 (l 5=true->e 162=ny x) /\
 (l 6=true->e 163 = .p (.agg (aQ b))) /\
 (l 7=true->e 164 = .ptr 7 4) /\
 (l 8=true->e 165 = .p (.agg [.aE (o.right.nodes.map encI),.aE (o.right.ag.map encI)])) /\
 (l 9=true->e 166 = .p (.agg [.aE (kp.nodes.map encI),.aE (kp.ag.map encI)])) /\
 (l 10=true->e 167=ny y) /\
 (l 11=true->e 20 = .ptr 20 0) /\
 (l 10=true->l 5=true) /\
 (l 12=true->l 10=true/\l 11=true) /\
 (l 5=false->G 3384=some (.row 0 3 1 (g.nodes.map encI))/\G 3385=some (.row 0 165 3 (g.ag.map ay))) /\
 (l 5=true->l 10=false->G 3384=some (.row x.1 3 1 (r.1.map encI))/\G 3385=some (.row x.2 165 3 (r.2.map ay))) /\
 (l 10=true->G 3384=some (.row y.1 3 1 (s.1.map encI))/\G 3385=some (.row y.2 165 3 (s.2.map ay))) /\
 (l 11=false->G 20=none) /\
 (l 11=true->l 12=false->G 20=some (.box [.p (.val (.slice none 0 0)),.p (.val (.slice none 0 0))])) /\
 (l 12=true->G 20=some (.box [.row 3384 y.1,.row 3385 y.2]))
def aCb(a b:aF)(o:cM)(kp:aO)(x y:Nat×Nat)(E:Env):Env :=
 cD (cD (cD (cD (cD (cD (cD (cD (cD (cD (cD (cD E 157 (ny (0,0))) 158 (.p (.agg (aQ a)))) 159 (.ptr 7 2)) 160 (.p (.agg [.aE (o.left.nodes.map encI),.aE (o.left.ag.map encI)]))) 161 (.p (.agg [.aE (kp.nodes.map encI),.aE (kp.ag.map encI)])))
  162 (ny x)) 163 (.p (.agg (aQ b)))) 164 (.ptr 7 4)) 165 (.p (.agg [.aE (o.right.nodes.map encI),.aE (o.right.ag.map encI)]))) 166 (.p (.agg [.aE (kp.nodes.map encI),.aE (kp.ag.map encI)]))) 167 (ny y)) 20 (.ptr 20 0)
def aCc(s:List Int×List Edge)(y:Nat×Nat)(H0:aq):aq:=bh (bh (bh H0 3384 (.row y.1 3 1 (s.1.map encI))) 3385 (.row y.2 165 3 (s.2.map ay))) 20 (.box [.row 3384 y.1,.row 3385 y.2])
theorem sg{e E:Env}{d:Nat}{v:AV}(t:Nat)(h1:e d=v)(h2:t≠d->e t=E t):e t=cD E d v t:=by
 unfold cD;by_cases h:t=d
 ·rw[if_pos h,h,h1]
 ·rw[if_neg h,h2 h]
theorem ajr{G H:aq}{d:Nat}{c:Chunk}(t:Nat)(h1:G d=some c)(h2:t≠d->G t=H t):G t=bh H d c t:=by
 unfold bh;by_cases h:t=d
 ·rw[if_pos h,h,h1]
 ·rw[if_neg h,h2 h]
theorem aCd{a b:aF}{o:cM}{kp:aO}{g:au}{r s:List Int×List Edge}{E e:Env}{H0 G:aq}{l:Nat->Bool}(h:azJ a b o kp g r s E H0 l e G)(hl:∀i,i<13->l i=true):∃x y,e=aCb a b o kp x y E/\G=aCc s y H0:=by
 obtain⟨x,y,⟨f1,f2⟩,_,_,v0,v1,v2,v3,v4,v5,v6,v7,v8,v9,v10,v11,_,_,_,_,g1,_,_,g2⟩:=h;refine⟨x,y,funext λt=>?_,funext λi=>?_⟩
 ·exact sg t (v11 (hl 11 (by decide))) λ_=>sg t (v10 (hl 10 (by decide))) λ_=>sg t (v9 (hl 9 (by decide))) λ_=>sg t (v8 (hl 8 (by decide))) λ_=>sg t (v7 (hl 7 (by decide))) λ_=>sg t (v6 (hl 6 (by decide))) λ_=>sg t (v5 (hl 5 (by decide))) λ_=>sg t (v4 (hl 4 (by decide))) λ_=>sg t (v3 (hl 3 (by decide))) λ_=>sg t (v2 (hl 2 (by decide))) λ_=>sg t (v1 (hl 1 (by decide))) λ_=>sg t (v0 (hl 0 (by decide))) λ_=>f1 t (by omega) (by omega)
 ·exact ajr i (g2 (hl 12 (by decide))) λ_=>ajr i (g1 (hl 10 (by decide))).2 λ_=>ajr i (g1 (hl 10 (by decide))).1 λ_=>f2 i (by omega) (by omega) (by omega)
noncomputable section
theorem uP  (r:Types)(h:ku  = some r):aZ pw 26 [] (λv=>v = .agg [.row 188 4 (r.nodes.map az),.row 190 7 (r.ag.map aA)]):=by refine aZ.tj ?_;refine bl [10,13] func26 ?_;rw[ntmps26,results26];unfold ku at h;have F:=trivial;exact fQ h
theorem wD(a0:List aG)(p1:aG->Option Bool)(k1:FuncId)(fs1 cs1:List PV)(hp1:∀x0 r,p1 x0=some r->aB pw k1 (fs1++[.agg (aL x0)]++cs1) (λv=>v = .val (.bool r)))(r:Int)(h:gJ a0 p1=some r):aB pw 401 [.aE (a0.map aL),.jF (.func k1) fs1 cs1] (λv=>v = .val (.int .i64 r)):=by
 refine aB.eV ?_;refine aC [] func401 ?_;rw[ntmps401,results401];unfold gJ at h;have F:=trivial;refine zV ?_;refine zN F h () [0,1,7] (λx=>[(8,.p (.val (.int .i64 ((x.1.1:Nat):Int))))]) [] (λx H=>[]) ?_ ?_
 ·intro i2 s2 g2 _ _ F kN h;try dsimp only at h
  refine zI aL F h λe3 F h=>?_
  refine zP F h (hp1 _) λr4 h=>?_
  refine zB F h (λF h=>?_) λF h=>?_
  ·exact zR h
  ·exact zX (z:=kN _ () h zW)
 ·intro i2 s2 g2 _ F h;try dsimp only at h
  exact zR h
theorem agR(a0:aG)(a1:aG)(r:Bool)(h:mJ a0 a1=some r):aB pw 356 [.agg (aL a0),.fq (aL a1) 0] (λv=>v = .val (.bool r)):=by
 refine aB.eV ?_;refine aC [] func356 ?_;rw[ntmps356,results356];unfold mJ at h;have F:=trivial;refine eZ F h (λF h=>?_) λF h=>?_
 ·exact zR h
 ·exact zR h
theorem oG(a0:Int)(a1:Int)(r:(List Int))(h:iC a0 a1=some r):aZ pw 200 [.val (.int .i64 a0),.val (.int .i64 a1)] (λv=>v = .row 3 1 (r.map encI)):=by
 refine aZ.tj ?_;refine bl [16] func200 ?_;rw[ntmps200,results200];unfold iC at h;have F:=trivial;refine zV ?_;refine zO F h (0:Nat) [0,7] (λx=>[(5,.row 3006 x.2),(8,.p (.val (.int .i64 ((x.1.1:Nat):Int))))]) [] (λx H=>[(3006,.row x.2 3 1 (x.1.2.map encI))]) ?_ ?_ (hw:=by refine fE.trans (jg 5 3006 3 1 rfl rfl (by decide)) ?_;exact zW)
 ·intro i2 s2 g2 _ _ F kN h;try dsimp only at h
  refine zC F h λF h=>?_
  refine zF (eq_true (show (s2.length+1) * 8<=140737488355328 by omega)) F λF=>?_
  refine zF (bK encI s2 [(i64.wrap (a0+((i2:Nat):Int)))] (c:=[[.val (.int .i64 (i64.wrap (a0+((i2:Nat):Int))))]]) rfl) F λF=>?_
  exact zX (z:=kN _ (g2+1) h zW)
 ·intro i2 s2 g2 _ F h;try dsimp only at h
  exact fQ h
theorem mX(a0:Int)(a1:List Int)(a2:List Int)(r:(List Int))(h:gd a0 a1 a2=some r):aZ pw 69 [.val (.int .i64 a0),.aE (a1.map encI),.aE (a2.map encI)] (λv=>v = .row 3 1 (r.map encI)):=by
 refine aZ.tj ?_;refine bl [11] func69 ?_;rw[ntmps69,results69];unfold gd at h;have F:=trivial;refine zC F h λF h=>?_
 refine zF (eq_true (show a0 * ((8:Nat):Int)<=140737488355328 by omega)) F λF=>?_
 refine zF (vj encI a0.toNat 0 (c:=[.val (.int .i64 0)]) rfl) F λF=>?_
 refine zV ?_;refine zN F h (0:Nat) [2,12,13] (λx=>[(7,.row 11 x.2),(14,.p (.val (.int .i64 ((x.1.1:Nat):Int))))]) [] (λx H=>[(11,.row x.2 3 1 (x.1.2.map encI))]) ?_ ?_
 ·intro i3 s3 g3 _ _ F sV h;try dsimp only at h
  refine zI encI F h λe4 F h=>?_
  refine zA encI F h λe5 F h=>?_
  refine zF (mC encI s3 e4.toNat 2 (c:=[.val (.int .i64 2)]) rfl) F λF=>?_
  refine zK F h (cc _ _) λr6 h=>?_
  refine zB F h (λF h=>?_) λF h=>?_
  ·refine zA encI F h λe7 F h=>?_
   refine zF (mC encI (s3.set e4.toNat 2) e4.toNat 1 (c:=[.val (.int .i64 1)]) rfl) F λF=>?_
   exact zX (z:=sV _ g3 h zW)
  ·exact zX (z:=sV _ g3 h zW)
 ·intro i3 s3 g3 _ F h;try dsimp only at h
  exact fQ h
theorem fD(a0:List Int)(a1:List Int)(r:(List Int)×Bool)(h:dR a0 a1=some r):aZ pw 112 [.aE (a0.map encI),.aE (a1.map encI)] (λv=>v = .dg [.row 3 1 (r.1.map encI),.p (.val (.bool r.2))]):=by
 refine aZ.tj ?_;refine bl [26] func112 ?_;rw[ntmps112,results112];unfold dR at h;have F:=trivial;refine zV ?_;refine zN F h (0:Nat) [1,9,10] (λx=>[(6,.row 6045 x.2),(11,.p (.val (.int .i64 ((x.1.1:Nat):Int))))]) [] (λx H=>[(6045,.row x.2 3 1 (x.1.2.map encI))]) ?_ ?_ (hw:=by refine fE.trans (jg 6 6045 3 1 rfl rfl (by decide)) ?_;exact zW)
 ·intro i2 s2 g2 _ _ F kN h;try dsimp only at h
  refine zI encI F h λe3 F h=>?_
  refine zA encI F h λe4 F h=>?_
  refine zB F h (λF h=>?_) λF h=>?_
  ·exact fQ h
  ·refine zC F h λF h=>?_
   refine zF (eq_true (show (s2.length+1) * 8<=140737488355328 by omega)) F λF=>?_
   refine zF (bK encI s2 [e4] (c:=[[.val (.int .i64 e4)]]) rfl) F λF=>?_
   exact zX (z:=kN _ (g2+1) h zW)
 ·intro i2 s2 g2 _ F h;try dsimp only at h
  exact fQ h
theorem uQ(a0:Int)(r:Bool)(h:iF a0=some r):aB pw 127 [.val (.int .i64 a0)] (λv=>v = .val (.bool r)):=by
 refine aB.eV ?_;refine aC [] func127 ?_;rw[ntmps127,results127];unfold iF at h;have F:=trivial;refine eZ F h (λF h=>?_) λF h=>?_
 ·exact zR h
 ·exact zR h
theorem ja(a0:Int)(a1:pP)(r:Int)(h:c9 a0 a1=some r):aB pw 293 [.val (.int .i64 a0),.agg [.val (.int .i64 a1.var),.val (.int .i64 a1.add)]] (λv=>v = .val (.int .i64 r)):=by
 refine aB.eV ?_;refine aC [] func293 ?_;rw[ntmps293,results293];unfold c9 at h;have F:=trivial;refine jj F h (λF h=>?_) λF h=>?_
 ·exact zR h
 ·refine jj F h (λF h=>?_) λF h=>?_
  ·exact zR h
  ·refine jj F h (λF h=>?_) λF h=>?_
   ·exact zR h
   ·refine zB F h (λF h=>?_) λF h=>?_
    ·exact zR h
    ·exact zR h
theorem eo(a0:au)(a1:au)(a2:ah)(r:Int)(h:aY a0 a1 a2=some r):aB pw 76 [.agg [.aE (a0.nodes.map encI),.aE (a0.ag.map ay)],.agg [.aE (a1.nodes.map encI),.aE (a1.ag.map ay)],.agg [.aE (a2.nodes.map encI),.aE (a2.ag.map encI)]] (λv=>v = .val (.int .i64 r)):=by
 refine aB.eV ?_;refine aC [] func76 ?_;rw[ntmps76,results76];unfold aY at h;have F:=trivial;refine zK F h (cN _) λr3 h=>?_
 refine cG F h (λF h=>?_) λF h=>?_
 ·refine zK F h (cN _) λr4 h=>?_
  refine cG F h (λF h=>?_) λF h=>?_
  ·refine eZ F h (λF h=>?_) λF h=>?_
   ·refine cG F h (λF h=>?_) λF h=>?_
    ·refine zV ?_;refine zN F h () [3,4,5] (λx=>[(9,.p (.val (.int .i64 ((x.1.1:Nat):Int))))]) [3,4,5] (λx H=>[]) ?_ ?_
     ·intro i5 s5 g5 _ _ F Ns5 h;try dsimp only at h
      refine zD [.q,.q,.q,.q,.q,.q,.q,.q,.q,.q,.q,.q,.q,.q,.q,.q,.q] ?_;refine zI encI F h λe6 F h=>?_
      refine ayM F h (λF h=>?_) λF h=>?_
      ·exact zR h
      ·refine zB F h (λF h=>?_) λF h=>?_
       ·exact zR h
       ·refine zD [.q,.q,.q,.q,.q,.q,.q,.q,.q,.q,.q,.q,.q,.q,.q] ?_;refine zA encI F h λe7 F h=>?_
        refine zI encI F h λe8 F h=>?_
        refine cG F h (λF h=>?_) λF h=>?_
        ·exact zX (z:=Ns5 _ () h zW)
        ·exact zR h
     ·intro i5 s5 g5 _ F h;try dsimp only at h
      refine zV ?_;refine zN F h () [3,4,5] (λx=>[(10,.p (.val (.int .i64 ((x.1.1:Nat):Int))))]) [3,4,5] (λx H=>[]) ?_ ?_
      ·intro i9 s9 g9 _ _ F Ns9 h;try dsimp only at h
       refine zD [.q,.q,.q,.q,.q,.q,.q,.q,.q,.q,.q,.q,.q,.q,.q,.q,.q] ?_;refine zI encI F h λsS F h=>?_
       refine ayM F h (λF h=>?_) λF h=>?_
       ·exact zR h
       ·refine zB F h (λF h=>?_) λF h=>?_
        ·exact zR h
        ·refine zD [.q,.q,.q,.q,.q,.o,.o,.o,.o,.o,.o,.o,.o,.o,.w,.w,.s,.s] ?_;refine zI ay F h λe11 F h=>?_
         refine zA ay F h λe12 F h=>?_
         refine cG F h (λF h=>?_) λF h=>?_
         ·refine zD [.q,.q,.q,.q,.q,.q,.q,.q,.q,.q,.q,.q,.q,.q,.q,.q,.q,.q,.q,.q] ?_;refine zA encI F h λe13 F h=>?_
          refine zBd F h (λF h=>?_) λF h=>?_
          ·refine zA encI F h λe14 F h=>?_
           refine cG F h (λF h=>?_) λF h=>?_
           ·exact zX (z:=Ns9 _ () h zW)
           ·exact zR h
          ·exact zR h
         ·exact zR h
      ·intro i9 s9 g9 _ F h;try dsimp only at h
       exact zR h
    ·exact zR h
   ·exact zR h
  ·exact zR h
 ·exact zR h
theorem yR(a0:List Int)(a1:Int)(r:Bool)(h:iN a0 a1=some r):aB pw 208 [.aE (a0.map encI),.val (.int .i64 a1)] (λv=>v = .val (.bool r)):=by
 refine aB.eV ?_;refine aC [] func208 ?_;rw[ntmps208,results208];unfold iN at h;have F:=trivial;refine zV ?_;refine zN F h () [0,1] (λx=>[(5,.p (.val (.int .i64 ((x.1.1:Nat):Int))))]) [] (λx H=>[]) ?_ ?_
 ·intro i2 s2 g2 _ _ F kN h;try dsimp only at h
  refine zI encI F h λe3 F h=>?_
  refine zB F h (λF h=>?_) λF h=>?_
  ·exact zR h
  ·exact zX (z:=kN _ () h zW)
 ·intro i2 s2 g2 _ F h;try dsimp only at h
  exact zR h
theorem j0(a0:List Int)(a1:List Int)(r:Bool)(h:dz a0 a1=some r):aB pw 92 [.aE (a0.map encI),.aE (a1.map encI)] (λv=>v = .val (.bool r)):=by
 refine aB.eV ?_;refine aC [] func92 ?_;rw[ntmps92,results92];unfold dz at h;have F:=trivial;refine cG F h (λF h=>?_) λF h=>?_
 ·refine zV ?_;refine zN F h () [0,1] (λx=>[(5,.p (.val (.int .i64 ((x.1.1:Nat):Int))))]) [] (λx H=>[]) ?_ ?_
  ·intro i2 s2 g2 _ _ F kN h;try dsimp only at h
   refine zD [.q,.q,.q,.q,.q,.q,.q,.q,.q] ?_;refine zI encI F h λe3 F h=>?_
   refine zI encI F h λe4 F h=>?_
   refine cG F h (λF h=>?_) λF h=>?_
   ·exact zX (z:=kN _ () h zW)
   ·exact zR h
  ·intro i2 s2 g2 _ F h;try dsimp only at h
   exact zR h
 ·exact zR h
end
noncomputable section
theorem aaQ(a0:Edge)(a1:Types)(r:Bool)(h:jH a0 a1=some r):aB pw 275 [.agg (ay a0),.fq [.aE (a1.nodes.map az),.aE (a1.ag.map aA)] 0] (λv=>v = .val (.bool r)):=by refine aB.eV ?_;refine aC [] func275 ?_;rw[ntmps275,results275];unfold jH at h;have F:=trivial;exact zR h
theorem mY(a0:Int)(a1:pP)(r:Bool)(h:fY a0 a1=some r):aB pw 400 [.val (.int .i64 a0),.agg [.val (.int .i64 a1.var),.val (.int .i64 a1.add)]] (λv=>v = .val (.bool r)):=by
 refine aB.eV ?_;refine aC [] func400 ?_;rw[ntmps400,results400];unfold fY at h;have F:=trivial;refine eZ F h (λF h=>?_) λF h=>?_
 ·refine eZ F h (λF h=>?_) λF h=>?_
  ·refine eZ F h (λF h=>?_) λF h=>?_
   ·exact zR h
   ·exact zR h
  ·exact zR h
 ·exact zR h
theorem afZ(a0:Edge)(a1:Types)(r:Bool)(h:nv a0 a1=some r):aB pw 354 [.agg (ay a0),.fq [.aE (a1.nodes.map az),.aE (a1.ag.map aA)] 0] (λv=>v = .val (.bool r)):=by refine aB.eV ?_;refine aC [] func354 ?_;rw[ntmps354,results354];unfold nv at h;have F:=trivial;exact zR h
theorem gS(a0:au)(a1:au)(a2:ah)(r:Int)(h:b7 a0 a1 a2=some r):aB pw 65 [.agg [.aE (a0.nodes.map encI),.aE (a0.ag.map ay)],.agg [.aE (a1.nodes.map encI),.aE (a1.ag.map ay)],.agg [.aE (a2.nodes.map encI),.aE (a2.ag.map encI)]] (λv=>v = .val (.int .i64 r)):=by
 refine aB.eV ?_;refine aC [] func65 ?_;rw[ntmps65,results65];unfold b7 at h;have F:=trivial;refine zK F h (kT _) λr3 h=>?_
 refine cG F h (λF h=>?_) λF h=>?_
 ·refine zK F h (kT _) λr4 h=>?_
  refine cG F h (λF h=>?_) λF h=>?_
  ·refine eZ F h (λF h=>?_) λF h=>?_
   ·refine cG F h (λF h=>?_) λF h=>?_
    ·refine zV ?_;refine zN F h () [3,4,5,42,43] (λx=>[(44,.p (.val (.int .i64 ((x.1.1:Nat):Int))))]) [3,4,5] (λx H=>[]) ?_ ?_
     ·intro i5 s5 g5 _ _ F Ns5 h;try dsimp only at h
      refine zI encI F h λe6 F h=>?_
      refine jj F h (λF h=>?_) λF h=>?_
      ·exact zR h
      ·refine zB F h (λF h=>?_) λF h=>?_
       ·exact zR h
       ·refine zD [.q,.q,.q,.q,.q,.q,.q,.q,.q,.q,.q] ?_;refine zA encI F h λe7 F h=>?_
        refine zI encI F h λe8 F h=>?_
        refine cG F h (λF h=>?_) λF h=>?_
        ·exact zX (z:=Ns5 _ () h zW)
        ·exact zR h
     ·intro i5 s5 g5 _ F h;try dsimp only at h
      refine zV ?_;refine zN F h () [3,4,5,71,72] (λx=>[(73,.p (.val (.int .i64 ((x.1.1:Nat):Int))))]) [3,4,5] (λx H=>[]) ?_ ?_
      ·intro i9 s9 g9 _ _ F Ns9 h;try dsimp only at h
       refine zI encI F h λsS F h=>?_
       refine jj F h (λF h=>?_) λF h=>?_
       ·exact zR h
       ·refine zB F h (λF h=>?_) λF h=>?_
        ·exact zR h
        ·refine zD [.q,.q,.q,.q,.q,.o,.o,.o,.o,.o,.w,.w,.s,.s] ?_;refine zI ay F h λe11 F h=>?_
         refine zA ay F h λe12 F h=>?_
         refine cG F h (λF h=>?_) λF h=>?_
         ·refine zD [.q,.q,.q,.q,.q,.q,.q,.q,.q,.q,.q,.q,.q,.q,.q,.q,.q,.q,.q,.q] ?_;refine zA encI F h λe13 F h=>?_
          refine zBd F h (λF h=>?_) λF h=>?_
          ·refine zA encI F h λe14 F h=>?_
           refine cG F h (λF h=>?_) λF h=>?_
           ·exact zX (z:=Ns9 _ () h zW)
           ·exact zR h
          ·exact zR h
         ·exact zR h
      ·intro i9 s9 g9 _ F h;try dsimp only at h
       exact zR h
    ·exact zR h
   ·exact zR h
  ·exact zR h
 ·exact zR h
theorem adw(a0:Int)(a1:au)(a2:Types)(r:Bool)(h:jR a0 a1 a2=some r):aB pw 284 [.val (.int .i64 a0),.fq [.aE (a1.nodes.map encI),.aE (a1.ag.map ay)] 0,.fq [.aE (a2.nodes.map az),.aE (a2.ag.map aA)] 0] (λv=>v = .val (.bool r)):=by
 refine aB.eV ?_;refine aC [] func284 ?_;rw[ntmps284,results284];unfold jR at h;have F:=trivial;refine zA ay F h λe3 F h=>?_
 refine zD [.q,.q,.q,.q,.q,.q,.q,.q,.q,.q,.q,.q,.q,.q,.q,.q,.q,.q] ?_;refine zA encI F h λe4 F h=>?_
 refine zA encI F h λe5 F h=>?_
 refine zKd F h (ajk _ _ _ _) λr6 h=>?_
 exact zR h
theorem aaR(a0:List (List Int))(r:(List Int))(h:jI a0=some r):aZ pw 36 [.aE (a0.map dw)] (λv=>v = .row 3 1 (r.map encI)):=by
 refine aZ.tj ?_;refine bl [] func36 ?_;rw[ntmps36,results36];unfold jI at h;have F:=trivial;refine zV ?_;refine zN F h () [0,9,10] (λx=>[(3,.p (.val (.int .i64 x.1.2))),(11,.p (.val (.int .i64 ((x.1.1:Nat):Int))))]) [] (λx H=>[]) ?_ ?_
 ·intro i1 s1 g1 _ _ F Ns1 h;try dsimp only at h
  refine zI dw F h λe2 F h=>?_
  refine zB F h (λF h=>?_) λF h=>?_
  ·cases h
  ·exact zX (z:=Ns1 _ () h zW)
 ·intro i1 s1 g1 _ F h;try dsimp only at h
  refine zG 1384 F h (acm _ _) λr3 h=>?_
  refine zV ?_;refine zN F h (0:Nat) [25,26] (λx=>[(6,.row 1384 x.2),(27,.p (.val (.int .i64 ((x.1.1:Nat):Int))))]) [] (λx H=>[(1384,.row x.2 3 1 (x.1.2.map encI))]) ?_ ?_
  ·intro i4 s4 g4 _ _ F Ns4 h;try dsimp only at h
   refine zI dw F h λe5 F h=>?_
   refine zC F h λF h=>?_
   refine zF (eq_true (show (s4.length+e5.length) * 8<=140737488355328 by omega)) F λF=>?_
   refine zF (eq_true (eu (n:=1) (f:=encI) (λ_=>rfl) e5)) F λF=>?_
   exact zX (z:=Ns4 _ (g4+1) h zW)
  ·intro i4 s4 g4 _ F h;try dsimp only at h
   exact fQ h
theorem ud(a0:jq)(a1:aj)(a2:aS)(r:eX×Int)(h:jZ a0 a1 a2=some r):aB pw 387 [.agg (j5 a0),.agg (aI a1),.agg (gG a2)] (λv=>v = .dg [.agg (ji r.1),.val (.int .i64 r.2)]):=by unfold jZ at h;cases h
theorem od(a0:List Edge)(a1:List Edge)(r:Bool)(h:jJ a0 a1=some r):aB pw 269 [.aE (a0.map ay),.aE (a1.map ay)] (λv=>v = .val (.bool r)):=by
 refine aB.eV ?_;refine aC [] func269 ?_;rw[ntmps269,results269];unfold jJ at h;have F:=trivial;refine cG F h (λF h=>?_) λF h=>?_
 ·refine zV ?_;refine zN F h () [0,1,12] (λx=>[(13,.p (.val (.int .i64 ((x.1.1:Nat):Int))))]) [] (λx H=>[]) ?_ ?_
  ·intro i2 s2 g2 _ _ F kN h;try dsimp only at h
   refine zD [.q,.q,.q,.q,.q,.q,.q,.q,.q] ?_;refine zI ay F h λe3 F h=>?_
   refine zI ay F h λe4 F h=>?_
   refine cG F h (λF h=>?_) λF h=>?_
   ·exact zX (z:=kN _ () h zW)
   ·exact zR h
  ·intro i2 s2 g2 _ F h;try dsimp only at h
   exact zR h
 ·exact zR h
theorem wE(a0:List (List Int))(a1:List (List Int))(p2:(List Int)->(List Int)->Option Bool)(k2:FuncId)(fs2 cs2:List PV)(hp2:∀x0 x1 r,p2 x0 x1=some r->aB pw k2 (fs2++[.aE (x0.map encI),.aE (x1.map encI)]++cs2) (λv=>v = .val (.bool r)))(r:Bool)(h:lM a0 a1 p2=some r):aB pw 339 [.aE (a0.map dw),.aE (a1.map dw),.jF (.func k2) fs2 cs2] (λv=>v = .val (.bool r)):=by
 refine aB.eV ?_;refine aC [] func339 ?_;rw[ntmps339,results339];unfold lM at h;have F:=trivial;refine cG F h (λF h=>?_) λF h=>?_
 ·refine zV ?_;refine zN F h () [1,2,15,16] (λx=>[(17,.p (.val (.int .i64 ((x.1.1:Nat):Int))))]) [] (λx H=>[]) ?_ ?_
  ·intro i3 s3 g3 _ _ F sV h;try dsimp only at h
   refine zI dw F h λe4 F h=>?_
   refine zI dw F h λe5 F h=>?_
   refine zP F h (hp2 _ _) λr6 h=>?_
   refine cG F h (λF h=>?_) λF h=>?_
   ·exact zX (z:=sV _ () h zW)
   ·exact zR h
  ·intro i3 s3 g3 _ F h;try dsimp only at h
   exact zR h
 ·exact zR h
theorem xS(a0:Types)(a1:ak)(a2:Int)(a3:Int)(r:Attr×Bool)(h:ig a0 a1 a2 a3=some r):aB pw 126 [.agg [.aE (a0.nodes.map az),.aE (a0.ag.map aA)],.agg (bL a1),.val (.int .i64 a2),.val (.int .i64 a3)] (λv=>v = .dg [.agg (aN r.1),.val (.bool r.2)]):=by
 refine aB.eV ?_;refine aC [] func126 ?_;rw[ntmps126,results126];unfold ig at h;have F:=trivial;refine jj F h (λF h=>?_) λF h=>?_
 ·exact zR h
 ·refine zB F h (λF h=>?_) λF h=>?_
  ·exact zR h
  ·refine zD [.q,.q,.q,.q,.q,.q,.q,.q,.q,.q,.q,.q,.q] ?_;refine zA encI F h λe4 F h=>?_
   refine zKd F h (oX _ _) λr5 h=>?_
   refine eZ F h (λF h=>?_) λF h=>?_
   ·refine jj F h (λF h=>?_) λF h=>?_
    ·exact zR h
    ·refine zB F h (λF h=>?_) λF h=>?_
     ·exact zR h
     ·refine zA aN F h λe6 F h=>?_
      exact zR h
   ·exact zR h
theorem qu(a0:List Int)(a1:Int)(r:Bool)(h:dX a0 a1=some r):aB pw 295 [.aE (a0.map encI),.val (.int .i64 a1)] (λv=>v = .val (.bool r)):=by
 refine aB.eV ?_;refine aC [] func295 ?_;rw[ntmps295,results295];unfold dX at h;have F:=trivial;refine zV ?_;refine zN F h () [0,1] (λx=>[(5,.p (.val (.int .i64 ((x.1.1:Nat):Int))))]) [] (λx H=>[]) ?_ ?_
 ·intro i2 s2 g2 _ _ F kN h;try dsimp only at h
  refine zI encI F h λe3 F h=>?_
  refine zB F h (λF h=>?_) λF h=>?_
  ·exact zR h
  ·exact zX (z:=kN _ () h zW)
 ·intro i2 s2 g2 _ F h;try dsimp only at h
  exact zR h
theorem uR(n:Nat):∀ (a0:aj) (r:Int×Int) (h:eB n a0=some r),aB pw 210 [.agg (aI a0)] (λv=>v = .dg [.val (.int .i64 r.1),.val (.int .i64 r.2)]):=by
 induction n with
 |zero=>intro a0 r h;cases h
 |succ n ih =>
 intro a0 r h;refine aB.eV ?_;refine aC [] func210 ?_;rw[ntmps210,results210];unfold eB at h;have F:=trivial;refine zV ?_;refine zN F h () [1] (λx=>[(4,.p (.val (.int .i64 x.1.2.1))),(5,.p (.val (.int .i64 x.1.2.2))),(6,.p (.val (.int .i64 ((x.1.1:Nat):Int))))]) [1] (λx H=>[]) ?_ ?_
 ·intro i1 s1 g1 _ _ F Ns1 h;try dsimp only at h
  refine zI aI F h λe2 F h=>?_
  refine zK F h (ih _) λr3 h=>?_
  exact zX (z:=Ns1 _ () h zW)
 ·intro i1 s1 g1 _ F h;try dsimp only at h
  refine zB F h (λF h=>?_) λF h=>?_
  ·exact zR h
  ·exact zR h
theorem n9(a0:aF)(r:Bool)(h:dJ a0=some r):aB pw 121 [.agg (aQ a0)] (λv=>v = .val (.bool r)):=by
 refine aB.eV ?_;refine aC [] func121 ?_;rw[ntmps121,results121];unfold dJ at h;have F:=trivial;refine eZ F h (λF h=>?_) λF h=>?_
 ·refine eZ F h (λF h=>?_) λF h=>?_
  ·exact zR h
  ·exact zR h
 ·exact zR h
end
end Go.Proofs.YtldllhbhnpjlcaaGreat
