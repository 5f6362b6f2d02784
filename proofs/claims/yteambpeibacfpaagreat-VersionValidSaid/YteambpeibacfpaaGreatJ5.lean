/- Joined texts, part 5: lemmas for the statement. No condition. -/
import Derived.Test.YteambpeibacfpaaGreatJ4
import Derived.Shelf.Spec.SlicesGrow
import Derived.Test.YteambpeibacfpaaGreatJ2
import Derived.Test.YteambpeibacfpaaGreatJ1
import Derived.Test.YteambpeibacfpaaGreatJ3
import Derived.Shelf.SlSortCmp.NoneTotal
import Derived.LoopTactic
import Derived.WalkKit
set_option maxHeartbeats 4000000
set_option linter.unusedSimpArgs false
set_option linter.unusedVariables false
open Nat (reduceEqDiff reduceLT reduceLeDiff reduceMul reduceAdd reduceSub)
open Go.IntKind (i64)
open Go.Proofs.Tryz
open Go.Proofs.Tryz renaming prog → pw
set_option maxRecDepth 20000
open List hiding Mem cons idxOf iter map nil
namespace Go.Proofs.YteambpeibacfpaaGreat
open Go.b7
def gm(x:Host):List PV:=[.aL (x.graph.nodes.map encI),.aL (x.graph.ah.map aK),.aL (x.values.map bw)]
structure adN where
 var:Int
 add:Int
structure fI where
 node:Int
 attr:Int
 term:adN
structure iT where
 kind:Int
 left:adN
 right:adN
structure bL where
 graph:bE
 slots:List fI
 vars:Int
 tests:List iT
structure jZ where
 nodes:List Int
 ah:List Int
structure aY where
 nodes:List Int
 ah:List Int
structure aT where
 kind:Int
 kids:List aT
 map:aY
 pattern:bL
structure gf where
 name:ByteArray
 left:bL
 right:bL
 keep:jZ
 into:aY
 injective:Bool
 condition:aT
def bQ(x:fI):List PV:=[.val (.int .i64 x.node),.val (.int .i64 x.attr),.val (.int .i64 x.term.var),.val (.int .i64 x.term.add)]
def cI(x:iT):List PV:=[.val (.int .i64 x.kind),.val (.int .i64 x.left.var),.val (.int .i64 x.left.add),.val (.int .i64 x.right.var),.val (.int .i64 x.right.add)]
mutual
def aX:aT->List PV
 |⟨v_kind,v_kids,v_map,v_pattern⟩=>[.val (.int .i64 v_kind),.aL (lN v_kids),.aL (v_map.nodes.map encI),.aL (v_map.ah.map encI),.aL (v_pattern.graph.nodes.map encI),.aL (v_pattern.graph.ah.map aK),.aL (v_pattern.slots.map bQ),.val (.int .i64 v_pattern.vars),.aL (v_pattern.tests.map cI)]
def lN:List aT->List (List PV)
 | []=>[]
 |a :: r=>aX a :: lN r
end
theorem acE(l:List aT):lN l=l.map aX:=by
 induction l with
 |nil=>simp[lN]
 |cons a r ih=>simp[lN,ih]
theorem vK(x:aT):aX x=[.val (.int .i64 x.kind),.aL (x.kids.map aX),.aL (x.map.nodes.map encI),.aL (x.map.ah.map encI),.aL (x.pattern.graph.nodes.map encI),.aL (x.pattern.graph.ah.map aK),.aL (x.pattern.slots.map bQ),.val (.int .i64 x.pattern.vars),.aL (x.pattern.tests.map cI)]:=by cases x;simp[aX,acE]
def jx(x:gf):List PV:=[.val (.string x.name),.aL (x.left.graph.nodes.map encI),.aL (x.left.graph.ah.map aK),.aL (x.left.slots.map bQ),.val (.int .i64 x.left.vars),.aL (x.left.tests.map cI),.aL (x.right.graph.nodes.map encI),.aL (x.right.graph.ah.map aK),.aL (x.right.slots.map bQ),.val (.int .i64 x.right.vars),.aL (x.right.tests.map cI),.aL (x.keep.nodes.map encI),.aL (x.keep.ah.map encI),.aL (x.into.nodes.map encI),.aL (x.into.ah.map encI),.val (.bool x.injective),.val (.int .i64 x.condition.kind),.aL (x.condition.kids.map aX),.aL (x.condition.map.nodes.map encI),.aL (x.condition.map.ah.map encI),.aL (x.condition.pattern.graph.nodes.map encI),.aL (x.condition.pattern.graph.ah.map aK),.aL (x.condition.pattern.slots.map bQ),.val (.int .i64 x.condition.pattern.vars),.aL (x.condition.pattern.tests.map cI)]
structure dF where
 ee:aY
 vars:List Int
def iL(x:dF):List PV:=[.aL (x.ee.nodes.map encI),.aL (x.ee.ah.map encI),.aL (x.vars.map encI)]
def fc(x:bL):List PV:=[.aL (x.graph.nodes.map encI),.aL (x.graph.ah.map aK),.aL (x.slots.map bQ),.val (.int .i64 x.vars),.aL (x.tests.map cI)]
def mY(b:Bool):List PV:=[.val (.bool b)]
def yq(x:bE):List PV:=[.aL (x.nodes.map encI),.aL (x.ah.map aK)]
def sK(l:List Bool):List PV:=[.aL (l.map mY)]
structure dB where
 l:bE
 g:bE
 keep:jZ
 m:aY
def gr(x:dB):List PV:=[.aL (x.l.nodes.map encI),.aL (x.l.ah.map aK),.aL (x.g.nodes.map encI),.aL (x.g.ah.map aK),.aL (x.keep.nodes.map encI),.aL (x.keep.ah.map encI),.aL (x.m.nodes.map encI),.aL (x.m.ah.map encI)]
structure jQ where
 t:Types
 h:Host
 injective:Bool
def kX(x:jQ):List PV:=[.aL (x.t.nodes.map aB),.aL (x.t.ah.map aC),.aL (x.h.graph.nodes.map encI),.aL (x.h.graph.ah.map aK),.aL (x.h.values.map bw),.val (.bool x.injective)]
structure gn where
 choice:Int
 tN:dF
 kids:List gn
mutual
def jJ:gn->List PV
 |⟨v_choice,v_mtch,v_kids⟩=>[.val (.int .i64 v_choice),.aL (v_mtch.ee.nodes.map encI),.aL (v_mtch.ee.ah.map encI),.aL (v_mtch.vars.map encI),.aL (p6 v_kids)]
def p6:List gn->List (List PV)
 | []=>[]
 |a :: r=>jJ a :: p6 r
end
theorem agz(l:List gn):p6 l=l.map jJ:=by
 induction l with
 |nil=>simp[p6]
 |cons a r ih=>simp[p6,ih]
theorem oJ(x:gn):jJ x=[.val (.int .i64 x.choice),.aL (x.tN.ee.nodes.map encI),.aL (x.tN.ee.ah.map encI),.aL (x.tN.vars.map encI),.aL (x.kids.map jJ)]:=by cases x;simp[jJ,agz]
structure jK where
 rule:gf
 tN:dF
 before:Host
 after:Host
 tO:aY
 lP:aY
def sL(x:jK):List PV:=[.val (.string x.rule.name),.aL (x.rule.left.graph.nodes.map encI),.aL (x.rule.left.graph.ah.map aK),.aL (x.rule.left.slots.map bQ),.val (.int .i64 x.rule.left.vars),.aL (x.rule.left.tests.map cI),.aL (x.rule.right.graph.nodes.map encI),.aL (x.rule.right.graph.ah.map aK),.aL (x.rule.right.slots.map bQ),.val (.int .i64 x.rule.right.vars),.aL (x.rule.right.tests.map cI),.aL (x.rule.keep.nodes.map encI),.aL (x.rule.keep.ah.map encI),.aL (x.rule.into.nodes.map encI),.aL (x.rule.into.ah.map encI),.val (.bool x.rule.injective),.val (.int .i64 x.rule.condition.kind),.aL (x.rule.condition.kids.map aX),.aL (x.rule.condition.map.nodes.map encI),.aL (x.rule.condition.map.ah.map encI),.aL (x.rule.condition.pattern.graph.nodes.map encI),.aL (x.rule.condition.pattern.graph.ah.map aK),.aL (x.rule.condition.pattern.slots.map bQ),.val (.int .i64 x.rule.condition.pattern.vars),.aL (x.rule.condition.pattern.tests.map cI),.aL (x.tN.ee.nodes.map encI),.aL (x.tN.ee.ah.map encI),.aL (x.tN.vars.map encI),.aL (x.before.graph.nodes.map encI),.aL (x.before.graph.ah.map aK),.aL (x.before.values.map bw),.aL (x.after.graph.nodes.map encI),.aL (x.after.graph.ah.map aK),.aL (x.after.values.map bw),.aL (x.tO.nodes.map encI),.aL (x.tO.ah.map encI),.aL (x.lP.nodes.map encI),.aL (x.lP.ah.map encI)]
structure eF where
 p:aQ
 q:aQ
def gX(x:eF):List PV:=[.aL (x.p.aG.map ag),.aL (x.p.aM.map ak),.aL (x.p.aV.map ag),.aL (x.p.bn.map ak),.aL (x.p.values.map aP),.val (.int .i64 x.p.next.x0),.val (.int .i64 x.p.next.x1),.aL (x.q.aG.map ag),.aL (x.q.aM.map ak),.aL (x.q.aV.map ag),.aL (x.q.bn.map ak),.aL (x.q.values.map aP),.val (.int .i64 x.q.next.x0),.val (.int .i64 x.q.next.x1)]
structure aH where
 nodes:List aj
 ah:List ax
structure eB where
 x0:Int
 x1:Int
 x2:Int
structure dP where
 nodes:List dJ
 ah:List eB
structure bC where
 types:List dJ
 ends:List dJ
 host:dP
def eG(x:dJ):List PV:=[.val (.int .u8 x.x0),.val (.int .u8 x.x1)]
def dw(x:eB):List PV:=[.val (.int .u8 x.x0),.val (.int .u8 x.x1),.val (.int .u8 x.x2)]
def cQ(x:bC):List PV:=[.aL (x.types.map eG),.aL (x.ends.map eG),.aL (x.host.nodes.map eG),.aL (x.host.ah.map dw)]
attribute [local go_sem] Nat.reduceEqDiff Nat.reduceLT Nat.reduceLeDiff Nat.reduceMul Nat.reduceAdd Nat.reduceBEq Nat.reduceSub Int.reduceToNat reduceIte reduceCtorEq abk cons_append nil_append aS aK aC encI bH sK aB uX bw encS cW yq gm eG dw vK iL aJ ak ag aP fc oJ oJ jx bQ sL cI az gr kX cQ gX mY
noncomputable section
end
end Go.Proofs.YteambpeibacfpaaGreat
namespace Go.Proofs.YteambpeibacfpaaGreat
open Go.b7
def lY(t:Types):Option (ByteArray×Int):=giv (iq t) (gD t)
theorem p7(t:Types)(r:ByteArray×Int)(h:lY t=some r):aD pw 34 [aA t] (λv=>v = .dH [.val (.string r.1),.val (.int .i64 r.2)]):=by obtain⟨h1,rfl⟩:=pz h;exact ahD t h1
def jR(t:Types):Option (ByteArray×Int):=giv (iq t) (gD t)
theorem qy(t:Types)(r:ByteArray×Int)(h:jR t=some r):aD pw 39 [aA t] (λv=>v = .dH [.val (.string r.1),.val (.int .i64 r.2)]):=by obtain⟨h1,rfl⟩:=pz h;exact aft t h1
def lZ(g:bE):Option Int:=giv (alv g) (qj g)
theorem nO(g:bE)(r:Int)(h:lZ g=some r):aD pw 72 [fo g] (λv=>v = .val (.int .i64 r)):=by obtain⟨h1,rfl⟩:=pz h;exact ajW g h1
def nt(t:Types)(h:Host):Option (Int×Int):=giv (iq t/\vF h) (jI t h)
theorem qZ(t:Types)(h:Host)(r:Int×Int)(hr:nt t h=some r):aD pw 35 [aA t,cL h] (λv=>v = .dH [.val (.int .i64 r.1),.val (.int .i64 r.2)]):=by obtain⟨⟨h1,h2⟩,rfl⟩:=pz hr;exact auz t h1 h h2
def jS(t:Types)(h:Host):Option (Int×Int):=giv (iq t/\vF h) (jI t h)
theorem qz(t:Types)(h:Host)(r:Int×Int)(hr:jS t h=some r):aD pw 40 [aA t,cL h] (λv=>v = .dH [.val (.int .i64 r.1),.val (.int .i64 r.2)]):=by obtain⟨⟨h1,h2⟩,rfl⟩:=pz hr;exact aqB t h1 h h2
def abu(s:ByteArray):Option Bool:=giv (s.size<=1000000) (lJ s)
theorem ahY(s:ByteArray)(r:Bool)(h:abu s=some r):aD pw 121 [.val (.string s)] (λv=>v = .val (.bool r)):=by obtain⟨h1,rfl⟩:=pz h;exact yh s h1
def aez(t:Types)(e a b:Int):Option Bool:=giv (iq t) (qW t e a b)
theorem alH(t:Types)(e a b:Int)(r:Bool)(h:aez t e a b=some r):aD pw 74 [aA t,.val (.int .i64 e),.val (.int .i64 a),.val (.int .i64 b)] (λv=>v = .val (.bool r)):=by obtain⟨h1,rfl⟩:=pz h;exact ar5 t h1 e a b
def ri(t:Types)(e a b:Int):Option Bool:=giv (iq t) (qW t e a b)
theorem nu(t:Types)(e a b:Int)(r:Bool)(h:ri t e a b=some r):aD pw 80 [aA t,.val (.int .i64 e),.val (.int .i64 a),.val (.int .i64 b)] (λv=>v = .val (.bool r)):=by obtain⟨h1,rfl⟩:=pz h;exact anJ t h1 e a b
def th(t:Types)(a:Int):Option (List Attr×Int):=giv (OkT t/\0<=a/\a<t.nodes.length) (bk t a.toNat,0)
theorem xP(t:Types)(a:Int)(r:List Attr×Int)(h:th t a=some r):aD pw 135 [aA t,.val (.int .i64 a)] (λv=>v = .dH [.aL (r.1.map aS),.val (.int .i64 r.2)]):=by obtain⟨⟨h1,h2,h3⟩,rfl⟩:=pz h;obtain⟨n,rfl⟩:=Int.eq_ofNat_of_zero_le h2;exact ajV t h1 n (by omega)
def mG(t:Types)(a:Int):Option (List Attr×Int):=giv (OkT t/\0<=a/\a<t.nodes.length) (bk t a.toNat,0)
theorem yt(t:Types)(a:Int)(r:List Attr×Int)(h:mG t a=some r):aD pw 103 [aA t,.val (.int .i64 a)] (λv=>v = .dH [.aL (r.1.map aS),.val (.int .i64 r.2)]):=by obtain⟨⟨h1,h2,h3⟩,rfl⟩:=pz h;obtain⟨n,rfl⟩:=Int.eq_ofNat_of_zero_le h2;exact ahG t h1 n (by omega)
def cZ(l:List Int):Option (List Int):=giv (l.length<=1000000) l
theorem dQ(l:List Int)(r:List Int)(h:cZ l=some r):bl pw 62 [.aL (l.map encI)] (λv=>v = .row 3 1 (r.map encI)):=by obtain⟨h1,rfl⟩:=pz h;exact ajR l h1
def j9(l:List Edge):Option (List Edge):=giv (l.length<=1000000) l
theorem pN(l:List Edge)(r:List Edge)(h:j9 l=some r):bl pw 75 [.aL (l.map aK)] (λv=>v = .row 143 3 (r.map aK)):=by obtain⟨h1,rfl⟩:=pz h;exact aqw l h1
def adg(t:Types)(l:List Int):Option Int:=giv (iq t/\l.length<=1000000) (ur t l)
theorem ajh(t:Types)(l:List Int)(r:Int)(h:adg t l=some r):aD pw 136 [aA t,.aL (l.map encI)] (λv=>v = .val (.int .i64 r)):=by obtain⟨⟨h1,h2⟩,rfl⟩:=pz h;exact ahF t h1 l h2
def ahZ(t:Types)(a b:Int):Option Bool:=giv (OkT t/\0<=a/\a<t.nodes.length) (isB t a b)
theorem aq6(t:Types)(a b:Int)(r:Bool)(h:ahZ t a b=some r):aD pw 137 [aA t,.val (.int .i64 a),.val (.int .i64 b)] (λv=>v = .val (.bool r)):=by obtain⟨⟨h1,h2,h3⟩,rfl⟩:=pz h;obtain⟨n,rfl⟩:=Int.eq_ofNat_of_zero_le h2;exact aqx t h1 n (by omega) b
end Go.Proofs.YteambpeibacfpaaGreat
namespace Go.b7
open Go.RowKit Go.Shelf Go.Proofs
variable{P:Program}{ρ:Ren}
end Go.b7
namespace Go.Proofs.YteambpeibacfpaaGreat
open Go.b7
end Go.Proofs.YteambpeibacfpaaGreat
namespace Go.b7
open Go.RowKit
variable{P:Program}{I:Mem}{L:bA}
mutual
def aJe(id:Nat)(ps:List PV):AV->AV
 | .ptr i o=>if i=id then .p (.ez ps o) else .ptr i o
 | .row i v=>if i=id then .dead else .row i v
 | .jG i v j o=>if i=id then .dead else .jG i v j o
 | .fm i v=>if i=id then .dead else .fm i v
 | .lF i v j o=>if i=id then .dead else .lF i v j o
 | .lG i v j=>if i=id then .dead else .lG i v j
 | .oB i v j k o=>if i=id then .dead else .oB i v j k o
 | .bsl i n=>if i=id then .dead else .bsl i n
 | .iV i v o n m sz=>if i=id then .dead else .iV i v o n m sz
 | .agg cs=>.agg (aoj id ps cs)
 | .dH cs=>.dH (aoj id ps cs)
 | .jk f a b=>.jk f (aoj id ps a) (aoj id ps b)
 |x=>x
def aoj(id:Nat)(ps:List PV):List AV->List AV
 | []=>[]
 |a :: r=>aJe id ps a :: aoj id ps r
end
def Mem.whole(I:Mem)(w:World)(b0:Nat):Mem:=λb o=>if b=b0 then w.cell? ⟨b,o,none⟩ else I b o
end Go.b7
namespace Go.Proofs.YteambpeibacfpaaGreat
open Go.b7
theorem aok{α:Type}(es:List α)(z:α)(i j:Nat)(hij:i<j)(hj:j<=es.length):(splice (splice es i ((es.drop j).take (es.length-j))) (i+(es.length-j)) (replicate (es.length-(i+(es.length-j))) z)).take (i+(es.length-j))=es.take i++es.drop j:=by
 have h1:(es.drop j).take (es.length-j)=es.drop j:=take_of_length_le (by simp);rw[h1];unfold splice;have e1:(es.take i++es.drop j++es.drop (i+(es.drop j).length)).take (i+(es.length-j))=es.take i++es.drop j:=by
  have hl:(es.take i++es.drop j).length=i+(es.length-j):=by simp;omega
  rw[<-hl,take_left]
 rw[e1,append_assoc];have hl:(es.take i++es.drop j).length=i+(es.length-j):=by simp;omega
 rw[<-hl,take_left]
theorem aBU(es:List (List PV))(i j:Nat)(v:Nat)(hij:i<j)(hj:j<=es.length)(hn:es.length<=1000000):mb pw 160 v 96 3 es [.val (.int .i64 i),.val (.int .i64 j)] (λa c=>a = .row 1000000 (v+1)/\c=some (.row (v+1) 96 3 (es.take i++es.drop j))):=by
 refine ahU ?_;refine abc [] Ty.mixed func160 rfl (by kernel_rfl) (by simp[ntmps160]) ?_;rw[ntmps160,results160];simp only[go_sem];refine asi 44 _ _ _ _ 0 1000000 v 96 3 es .i64 .i64 .i64 i j es.length rfl (by simp only[go_sem]) (by simp only[go_sem]) (by simp only[go_sem]) (by simp only[go_sem]) (by simp only[go_sem]) (by simp only[go_sem]) (by simp only[go_sem]) (by simp only[go_sem]) (by omega) ?_;simp only[go_sem];refine aI (λhc=>?_) (λhc=>?_)
 ·have:=bX hc;omega
 simp only[go_sem];refine dO [.p,.p,.p,.p,.p,.p,.t,.t] (by kernel_rfl) ?_;simp only[go_sem,Nat.sub_zero];refine⟨⟨by omega,by omega⟩,⟨by omega,by omega⟩,?_⟩;refine an9 44 44 _ _ 1000000 v i es.length j (es.length-j) (es.length-j) 96 3 _ es rfl (by simp only[go_sem]<;>rfl) (by simp only[go_sem]) (by simp only[go_sem]) (by simp only[go_sem]) (by omega) (by omega) (by omega) (by omega) ?_;simp only[go_sem];have hsl:(splice es i ((es.drop j).take (es.length-j))).length=es.length:=dD (by simp;omega);refine⟨⟨by omega,by omega⟩,?_⟩;refine ahT 44 _ 1000000 v (i+(es.length-j)) (es.length-(i+(es.length-j))) _ 96 3 (splice es i ((es.drop j).take (es.length-j))) _ rfl (by simp only[go_sem]) (by simp only[go_sem]<;>rfl) rfl (by decide) rfl (by simp only[go_sem]<;>rfl) (by simp only[go_sem]) (by omega) (by omega) ?_;simp only[go_sem];have hd:=aok es ((cH pw 96).getD [] |>.map PV.val) i j hij hj;have hl:i+(es.length-j)<=(splice (splice es i ((es.drop j).take (es.length-j))) (i+(es.length-j)) (replicate (es.length-(i+(es.length-j))) ((cH pw 96).getD [] |>.map PV.val))).length:=by rw[dD (by rw[hsl,length_replicate];omega),hsl];omega
 rw[show (cH pw 96).getD []=_ from by simp only[go_sem]<;>rfl] at hd hl;simp only[afi,length_replicate,append_assoc,map_cons,map_nil] at hd hl;exact⟨_,_,_,.inl rfl,rfl,hl,hd⟩
theorem aBV(es:List (List PV))(i j:Nat)(v:Nat)(hij:i<j)(hj:j<=es.length)(hn:es.length<=1000000):mb pw 161 v 125 4 es [.val (.int .i64 i),.val (.int .i64 j)] (λa c=>a = .row 1000000 (v+1)/\c=some (.row (v+1) 125 4 (es.take i++es.drop j))):=by
 refine ahU ?_;refine abc [] Ty.mixed func161 rfl (by kernel_rfl) (by simp[ntmps161]) ?_;rw[ntmps161,results161];simp only[go_sem];refine asi 45 _ _ _ _ 0 1000000 v 125 4 es .i64 .i64 .i64 i j es.length rfl (by simp only[go_sem]) (by simp only[go_sem]) (by simp only[go_sem]) (by simp only[go_sem]) (by simp only[go_sem]) (by simp only[go_sem]) (by simp only[go_sem]) (by simp only[go_sem]) (by omega) ?_;simp only[go_sem];refine aI (λhc=>?_) (λhc=>?_)
 ·have:=bX hc;omega
 simp only[go_sem];refine dO [.p,.p,.p,.p,.p,.p,.t,.t] (by kernel_rfl) ?_;simp only[go_sem,Nat.sub_zero];refine⟨⟨by omega,by omega⟩,⟨by omega,by omega⟩,?_⟩;refine an9 45 45 _ _ 1000000 v i es.length j (es.length-j) (es.length-j) 125 4 _ es rfl (by simp only[go_sem]<;>rfl) (by simp only[go_sem]) (by simp only[go_sem]) (by simp only[go_sem]) (by omega) (by omega) (by omega) (by omega) ?_;simp only[go_sem];have hsl:(splice es i ((es.drop j).take (es.length-j))).length=es.length:=dD (by simp;omega);refine⟨⟨by omega,by omega⟩,?_⟩;refine ahT 45 _ 1000000 v (i+(es.length-j)) (es.length-(i+(es.length-j))) _ 125 4 (splice es i ((es.drop j).take (es.length-j))) _ rfl (by simp only[go_sem]) (by simp only[go_sem]<;>rfl) rfl (by decide) rfl (by simp only[go_sem]<;>rfl) (by simp only[go_sem]) (by omega) (by omega) ?_;simp only[go_sem];have hd:=aok es ((cH pw 125).getD [] |>.map PV.val) i j hij hj;have hl:i+(es.length-j)<=(splice (splice es i ((es.drop j).take (es.length-j))) (i+(es.length-j)) (replicate (es.length-(i+(es.length-j))) ((cH pw 125).getD [] |>.map PV.val))).length:=by rw[dD (by rw[hsl,length_replicate];omega),hsl];omega
 rw[show (cH pw 125).getD []=_ from by simp only[go_sem]<;>rfl] at hd hl;simp only[afi,length_replicate,append_assoc,map_cons,map_nil] at hd hl;exact⟨_,_,_,.inl rfl,rfl,hl,hd⟩
theorem aq7(n:aj)(id:Int):aD pw 148 [.agg (ag n),.ez [.val (.int .i64 id)] 0] (λv=>v = .val (.bool (decide (n.id=id)))):=by refine aF [] func148 ntmps148 results148 ?_;simp only[go_sem,ag]
theorem afy(l:List aj)(hl:l.length<=1000000)(id:Int):aD pw 87 [.aL (l.map ag),.val (.int .i64 id)] (λv=>v = .val (.int .i64 (idxOf (λn=>decide (n.id=id)) l))):=by refine aF [] func87 ntmps87 results87 ?_;simp only[go_sem];have aDl:=aga (λn=>decide (n.id=id)) l hl 148 [] [.ez [.val (.int .i64 id)] 0] (λx _=>aq7 x id);refine aW (aDl) (by simp only[go_sem]<;>rfl) (cB rfl) ?_;simp only[go_sem]
theorem aq8(n:ax)(id:Int):aD pw 150 [.agg (ak n),.ez [.val (.int .i64 id)] 0] (λv=>v = .val (.bool (decide (n.id=id)))):=by refine aF [] func150 ntmps150 results150 ?_;simp only[go_sem,ak]
theorem aj8(l:List ax)(hl:l.length<=1000000)(id:Int):aD pw 88 [.aL (l.map ak),.val (.int .i64 id)] (λv=>v = .val (.int .i64 (idxOf (λn=>decide (n.id=id)) l))):=by refine aF [] func88 ntmps88 results88 ?_;simp only[go_sem];have aDl:=agb (λn=>decide (n.id=id)) l hl 150 [] [.ez [.val (.int .i64 id)] 0] (λx _=>aq8 x id);refine aW (aDl) (by simp only[go_sem]<;>rfl) (cB rfl) ?_;simp only[go_sem]
def aZ(x:ay)(i:Nat):aj:=⟨x.nodes.getD i default,x.host.graph.nodes.getD i default,x.host.values.getD i default⟩
def bG(x:ay):List aj:=(range x.nodes.length).map (aZ x)
theorem azw(x:ay)(h1:x.nodes.length<=x.host.graph.nodes.length)(h2:x.nodes.length<=x.host.values.length)(h3:x.nodes.length<=1000000)(h4:∀l∈x.host.values,l.length<=1000000) :
  bl pw 85 [.agg (az x)] (λv=>v = .deep 96 3 2 3 1 ((bG x).map ag)):=by
 refine bz [31] func85 ntmps85 results85 ?_;simp only[go_sem,az];refine bV (σ:=Nat) (λi=>(c9 (c9 (c9 (c9 (c9 gI 1 (.ptr 1 0)) 3 (.fm 2000 i)) 7 (.p (.aL (x.nodes.map encI)))) 8 (.p (.val (.int .i64 x.nodes.length)))) 9 (.p (.val (.int .i64 i))))) (λi=>(br (br ct 1 (.box [.p (.aL (x.host.graph.nodes.map encI)),.p (.aL (x.host.graph.ah.map aK)),.p (.aL (x.host.values.map bw)),.p (.aL (x.nodes.map encI)),.p (.aL (x.ah.map encI)),.p (.val (.int .i64 x.next))])) 2000 (.deep i 96 3 2 3 1 (((bG x).take i).map ag))))
  (λi=>i<=x.nodes.length) (λi=>x.nodes.length-i) 0 (Nat.zero_le _) (c8.trans (avd 3 2000 96 3 2 3 1 (by simp only[go_sem]) (by simp only[go_sem]) (by decide)) cu) ?_
 rintro i hi;simp only[go_sem,az];refine aI (λhc=>?_) (λhc=>?_)
 ·have hlt:i<x.nodes.length:=by have:=bX hc;omega
  have aEW:i<x.host.graph.nodes.length:=by omega
  have hlt2:i<x.host.values.length:=by omega
  simp only[go_sem,getD_map encI hlt,encI];refine⟨hlt,?_⟩;refine dO [.p,.p,.q,.q,.q,.q,.p,.q,.q,.q,.q,.q,.p,.q,.q,.f,.p,.w,.t,.t] (by kernel_rfl) ?_;simp only[go_sem,getD_map encI aEW,getD_map bw hlt2,encI,bw,bH];refine⟨aEW,hlt2,?_⟩;have hm:x.host.values.getD i default∈x.host.values:=by simp[hlt2]
  refine agK 1464 (ajR (x.host.values.getD i default) (h4 _ hm)) (by simp only[go_sem]<;>rfl) (gO _) af5 (by simp only[go_sem]) (by simp only[go_sem]) ?_;simp only[go_sem];refine an2 44 44 _ _ 2000 31 1464 i 0 2 96 3 40 3 1 (((bG x).take i).map ag) ((x.host.values.getD i default).map encI) [.val (.int .i64 (x.nodes.getD i default)),.val (.int .i64 (x.host.graph.nodes.getD i default)),.val (.slice none 0 0)] rfl (by simp only[go_sem]<;>rfl) (by simp only[go_sem]) (by simp only[go_sem]) (by simp only[go_sem]) (by simp only[go_sem]) (by simp only[go_sem]) rfl (by decide) ?_ ?_
  ·simp;omega
  have hel:((bG x).take i).map ag++[[.val (.int .i64 (x.nodes.getD i default)),.val (.int .i64 (x.host.graph.nodes.getD i default)),.aL ((x.host.values.getD i default).map encI)]]=((bG x).take (i+1)).map ag:=by
   have hl:i<(bG x).length:=by simp[bG];exact hlt
   rw[abm hl,map_append,map_cons,map_nil];have hg:(bG x).getD i default=aZ x i:=by simp[bG,hlt]
   rw[hg];rfl
  simp only[go_sem,bM hlt (by omega)];refine cr (i+1) hlt (by omega) ?_;rw[hel];exact cu
 ·have:i=x.nodes.length:=by have:=eu hc;omega
  subst this;simp only[go_sem];exact⟨by decide,_,.refl _,by rw[take_of_length_le (by simp[bG])]⟩
def ceq(a b:oI):Bool:=decide (a.kind=b.kind)&&(decide (a.id=b.id)&&decide (a.attr=b.attr))
def fresh(l:List oI)(j:Nat):Bool:=decide (j=0) || !ceq (l.getD j default) (l.getD (j-1) default)
def kept(l:List oI):Nat->List oI
 |0=>[]
 |j+1=>if fresh l j then kept l j++[l.getD j default] else kept l j
def azx(x:oI):Prop:=-1000000<=x.id/\x.id<=1000000/\-1000000<=x.attr/\x.attr<=1000000
def l6(l:List aj)(m:List ax)(id:Int):Bool:=(l.any λn=>decide (n.id=id))||m.any λe=>decide (e.id=id)
def eC(a b:aj):Bool:=decide (a.id=b.id)&&(decide (a.type=b.type)&&decide (a.values=b.values))
def mq:List aj->List aj->Nat->Bool×List aj×Nat
 |l,[],v=>(true,l,v)
 |l,n :: r,v=>match l.findIdx? λm=>decide (m.id=n.id) with
  |none=>(false,l,v)
  |some i=>if eC (l.getD i default) n then mq (l.take i++l.drop (i+1)) r (v+1) else (false,l,v)
def rZ(a b:ax):Bool:=decide (a.id=b.id)&&(decide (a.type=b.type)&&(decide (a.src=b.src)&&decide (a.dst=b.dst)))
def n9:List ax->List ax->Nat->Bool×List ax×Nat
 |l,[],v=>(true,l,v)
 |l,n :: r,v=>match l.findIdx? λm=>decide (m.id=n.id) with
  |none=>(false,l,v)
  |some i=>if rZ (l.getD i default) n then n9 (l.take i++l.drop (i+1)) r (v+1) else (false,l,v)
def okV(l:List Int)(v:aO):Bool:=!decide (v.attr<0)&&(!decide ((l.length:Int)<=v.attr)&&(decide (l.getD v.attr.toNat default=v.old) && !decide (v.new=v.old)))
def mu:List aj->List aO->Bool×List aj
 |l,[]=>(true,l)
 |l,v :: r=>match l.findIdx? λm=>decide (m.id=v.id) with
  |none=>(false,l)
  |some i=>if okV (l.getD i default).values v then mu (l.set i { l.getD i default with values:=(l.getD i default).values.set v.attr.toNat v.new }) r else (false,l)
def iA(l:List aj)(m:List ax)(p:aQ):Bool:=(p.aV.any λn=>l6 l m n.id)||p.bn.any λe=>l6 l m e.id
def qA(l:List aj):List aj:=l.mergeSort λx y=>decide (x.id<=y.id)
def sg(l:List ax):List ax:=l.mergeSort λx y=>decide (x.id<=y.id)
def aj9{α:Type} [Inhabited α](f:α->Int)(d:List α):Prop:=∀i j,i<d.length->j<d.length->f (d.getD i default)=f (d.getD j default)->i=j
instance{α:Type} [Inhabited α](f:α->Int)(d:List α):Decidable (aj9 f d):=decidable_of_iff (∀i,i<d.length->∀j,j<d.length->f (d.getD i default)=f (d.getD j default)->i=j) ⟨λh i j hi hj=>h i hi j hj,λh i hi j hj=>h i j hi hj⟩
def rj(a b:Int):Int:=if a<b then -1 else if a > b then 1 else 0
end Go.Proofs.YteambpeibacfpaaGreat
namespace Go.b7
theorem azy(id:Nat)(env:Env)(i:Nat):asg id env i=mg id (env i):=rfl
theorem azz(id:Nat)(H:au)(i:Nat):adf id H i=if i=id then aBQ (H i) else an4 id (H i):=rfl
theorem aBW(id:Nat)(x:PV):mg id (.p x) = .p x:=by simp only[mg]
theorem aq9(id i v:Nat):mg id (.fm i v)=if i=id then .row i v else .fm i v:=by simp only[mg]
theorem avv(id i v:Nat):mg id (.row i v)=if i=id then .dead else .row i v:=by simp only[mg]
theorem avw(id i o:Nat):mg id (.ptr i o)=if i=id then .dead else .ptr i o:=by simp only[mg]
theorem ara(id:Nat):nS id []=[]:=by simp only[nS]
theorem aol(id:Nat)(a:AV)(r:List AV):nS id (a :: r)=mg id a :: nS id r:=by simp only[nS]
theorem arb(id:Nat)(c:Chunk):an4 id (some c)=some (aj7 id c):=rfl
theorem arc(id:Nat):an4 id none=none:=rfl
theorem avx(id:Nat)(cs:List AV):aj7 id (.box cs) = .box (nS id cs):=rfl
theorem avy(id v:Nat)(e:TypeId)(sz:Nat)(es:List (List PV)):aj7 id (.row v e sz es) = .row v e sz es:=rfl
theorem ard(id v:Nat)(e:TypeId)(sz k:Nat)(e':TypeId)(sz':Nat)(es:List (List PV)):aj7 id (.deep v e sz k e' sz' es) = .deep v e sz k e' sz' es:=rfl
theorem avz(v:Nat)(e:TypeId)(sz k:Nat)(e':TypeId)(sz':Nat)(es:List (List PV)):aBQ (some (.deep v e sz k e' sz' es))=some (.row v e sz es):=rfl
attribute [go_sem] azy azz aBW aq9 avv avw ara aol arb arc avx avy ard avz 
theorem arf{H:au}(id:Nat):tH H id 5=(H id=none/\tH H (id+1) 4):=rfl
theorem arh{own:List Nat}{ops:Array Oper}(id:Nat):aey own ops id 5=(mc own ops id=false/\aey own ops (id+1) 4):=rfl
attribute [go_sem] arf arh 
def aom(n:Nat)(H:au):Prop:=∀i,n<=i->H i=none
theorem aBX(n:Nat):aom n ct:=λ_ _=>rfl
theorem aeA{n i:Nat}{c:Chunk}{H:au}(hi:i<n)(h:aom n H):aom n (br H i c):=λj hj=>by unfold br;rw[if_neg (by omega)];exact h j hj
theorem agL{n s t:Nat}{H:au}(hs:s<n)(ht:t<n)(h:aom n H):aom n (aew s t H):=λj hj=>by unfold aew sw;rw[if_neg (by omega),if_neg (by omega),h j hj];rfl
theorem azA{n id:Nat}{H:au}(hi:id<n)(h:aom n H):aom n (adf id H):=λj hj=>by unfold adf;rw[if_neg (by omega),h j hj];rfl
theorem keepTop{H H':au}(h:aom 1000003 H)(h0:H 1000000=none)(h1:H 1000001=none)(h2:H 1000002=none):kN H H':=λi hi hn=>by
 rcases Nat.lt_or_ge i 1000003 with h3|h3
 ·have:i=1000000\/i=1000001\/i=1000002:=by omega
  rcases this with rfl|rfl|rfl
  ·exact absurd h0 hn
  ·exact absurd h1 hn
  ·exact absurd h2 hn
 ·exact absurd (h i h3) hn
open Go.RowKit
variable{P:Program}{I:Mem}{L:bA}
theorem azB(a b c d e f:PV):iR [a,b,c,d,e,f]=c9 (c9 (c9 (c9 (c9 (c9 gI 0 (.p a)) 1 (.p b)) 2 (.p c)) 3 (.p d)) 4 (.p e)) 5 (.p f):=by funext t;unfold iR c9 gI;rcases t with _|_|_|_|_|_|t<;>simp
attribute [go_sem] azB
theorem avA(op:BinOp)(t:TypeId)(h:wM P t=none)(cs ds:List PV):lH P op t (.p (.agg cs)) (.p (.agg ds))=none:=by unfold lH;rw[h]
theorem azC(d:Nat){t e:TypeId}(hut:P.underlying t=some (.array 2 e))(hue:P.underlying e=some (.int .i64))(hsz:∀w,(sizeOf e).run P w = .ok 1 w)(a b c d':Int)(w:World):(Op.equalIn (d+2) t (.agg #[.int .i64 a,.int .i64 b]) (.agg #[.int .i64 c,.int .i64 d'])).run P w = .ok (decide (a=c)&&decide (b=d')) w:=by
 have hel:∀x y:Int,(Op.equalIn (d+1) e (.int .i64 x) (.int .i64 y)).run P w = .ok (decide (x=y)) w:=λx y=>by simp only[Op.equalIn,Sem.run_bind,run_underlying hue,Result.andThen_ok,if_true,Sem.run_pure];try rfl
 have hp:∀ (k:Nat) (u:Value) (xs:Array Value),xs[k]? = some u->(part e xs k).run P w = .ok u w:=λk u xs hu=>by
  have:(isAgg e).run P w = .ok false w:=by unfold isAgg;rw[Sem.run_bind,run_underlying hue w];rfl
  simp[part,this,hu]
 rw[show d+2=(d+1)+1 from rfl,Op.equalIn];simp only[Sem.run_bind,run_underlying hut,Result.andThen_ok,hsz];simp only[Std.Legacy.Range.forIn_eq_forIn_range',Std.Legacy.Range.size,range',forIn_cons,forIn_nil];have h0:∀x y:Int,(part e #[.int .i64 x,.int .i64 y] (0 * 1)).run P w = .ok (.int .i64 x) w:=λx y=>hp _ _ _ rfl
 have h1:∀x y:Int,(part e #[.int .i64 x,.int .i64 y] ((0+1) * 1)).run P w = .ok (.int .i64 y) w:=λx y=>hp _ _ _ rfl
 simp only[Sem.run_bind,h0,h1,hel,Result.andThen_ok];cases hA:decide (a=c)<;>cases hB:decide (b=d')<;>simp[h0,h1,hel,hA,hB]<;>simpa using hB
theorem azD{o:Oper}{W:Env->au->Prop}{env:Env}{H:au}{x y:Operand}{ty:TypeId}{a b c d:Int}(t e:TypeId)(hop:o.op = .binOp .eql t x y ty)(hut:P.underlying t=some (.array 2 e))(hue:P.underlying e=some (.int .i64))(hsz:bf P e=some 1)(hg:P.eqGuardType P.depth t=false)
  (hx:ev env x = .p (.agg [.val (.int .i64 a),.val (.int .i64 b)])) (hy:ev env y = .p (.agg [.val (.int .i64 c),.val (.int .i64 d)])) (hW:W (cA env o.dst (.p (.val (.bool (decide (a=c)&&decide (b=d)))))) H):iU P o W env H :=
 .inr (.inr (.inl ⟨_,H,hW,λC I L tm w σ hs hσ=>by
  have e0:execOp σ o=(do pure (.value (<- (do eqGuard .eql t x y (σ x) (σ y);binOp .eql t (σ x) (σ y)))):Sem Next):=by unfold execOp;rw[hop]
  rw[e0];have g1:=hσ x;have g2:=hσ y;rw[hx] at g1;rw[hy] at g2;have two:∀ {u:Value} {m n:Int},dV I L u (.p (.agg [.val (.int .i64 m),.val (.int .i64 n)]))->u = .agg #[.int .i64 m,.int .i64 n]:=λ{u m n} h=>by
   cases h.nE with
   |agg us _ hl hv hone =>
    match us,hl with
    | [p,q],_=>have v0:=hv 0 p _ rfl rfl;have v1:=hv 1 q _ rfl rfl;cases v0;cases v1;rfl
  rw[two g1,two g2];refine .jv (run_lift _) ⟨.bool (decide (a=c)&&decide (b=d)),?_,.p _ _ (.val _ rfl)⟩;rw[Sem.run_bind,run_eqGuard_agg w .eql t x y _ _ hg,Result.andThen_ok,run_eql_struct,show (10000:Nat)=9998+2 from rfl,azC 9998 hut hue (λw=>dy hsz w),Result.andThen_ok]⟩))
end Go.b7
namespace Go.b7
open Go.RowKit
theorem aka:∀ {a b c d:List (List PV)},lM a b->lM c d->lM (a++c) (b++d)
 | [],[],_,_,_,h=>h
 |_ :: _,_ :: _,_,_,h,k=>by unfold lM at h;rw[cons_append,cons_append];unfold lM;exact⟨h.1,aka h.2 k⟩
 | [],_ :: _,_,_,h,_=>by unfold lM at h;exact h.elim
 |_ :: _,[],_,_,h,_=>by unfold lM at h;exact h.elim
theorem ari{α:Type}(E:α->List PV)(l m:List α){c:List (List PV)}(h:lM c (m.map E)):lM (l.map E++c) ((l++m).map E):=by rw[map_append];exact aka (zl _) h
theorem arj{env:Env}{H:au}(id v:Nat)(e:TypeId)(sz:Nat)(es es':List (List PV))(hH:H id=some (.row v e sz es))(hp:lM es es'):c8 env H env (br H id (.row v e sz es')):=λC I L tm w hs=>by
 obtain⟨hl,hf⟩:=tJ es es' hp;have hlen:es.length=es'.length:=by have:=congrArg length hl;simpa using this
 refine⟨I,L,{ hs with dom:=λi l hi=>?_,chunk:=λi ch hch=>?_ }⟩
 ·obtain⟨c,hc⟩:=hs.dom i l hi;by_cases h:i=id
  ·exact⟨_,by unfold br;rw[if_pos h]⟩
  ·exact⟨c,by unfold br;rw[if_neg h];exact hc⟩
 ·by_cases h:i=id
  ·subst h;have:Chunk.row v e sz es'=ch:=by simpa[br] using hch
   subst this;obtain⟨hdr,us,g1,g2,g3,g4,g5,g6,g7⟩:=hs.chunk i _ hH;refine⟨hdr,us,g1,hlen ▸ g2,g3,λx hx=>?_,λj u c hu hc=>?_,g6,g7⟩
   ·obtain⟨k,hk,rfl⟩:=getElem_of_mem hx;have h2:(es.map (·.length))[k]? = (es'.map (·.length))[k]?:=by rw[hl]
    have hk':k<es.length:=by omega
    simp only[getElem?_map,getElem?_eq_getElem hk,getElem?_eq_getElem hk',Option.map_some,cC] at h2;rw[<-h2];exact g4 _ (pT hk')
   ·obtain⟨c',q1,q2⟩:=hf.at hc;exact q2 I u (g5 j u c' hu q1)
  ·exact hs.chunk i ch (by unfold br at hch;rw[if_neg h] at hch;exact hch)
theorem sM{α:Type}{env:Env}{H:au}(id v:Nat)(e:TypeId)(sz:Nat)(E:α->List PV)(l m:List α){c:List (List PV)}(hH:H id=some (.row v e sz (l.map E++c)))(hp:lM c (m.map E)):c8 env H env (br H id (.row v e sz ((l++m).map E))):=arj id v e sz _ _ hH (ari E l m hp)
end Go.b7
namespace Go.Proofs.YteambpeibacfpaaGreat
open Go.b7
attribute [go_sem] Nat.reduceEqDiff Nat.reduceLT Nat.reduceLeDiff Nat.reduceMul Nat.reduceAdd Nat.reduceBEq Nat.reduceSub Int.reduceToNat reduceIte reduceCtorEq abk cons_append nil_append 
def ah0(e:Env):List Nat->List (Nat×AV)->List (Nat×AV)
 | [],l=>l
 |t :: ts,l=>(t,e t) :: ah0 e ts l
theorem avB(e:Env)(l:List (Nat×AV)):ah0 e [] l=l:=rfl
theorem ark(e:Env)(t:Nat)(ts:List Nat)(l:List (Nat×AV)):ah0 e (t :: ts) l=(t,e t) :: ah0 e ts l:=rfl
def bxl(cs:List AV):List (Nat×AV)->List AV
 | []=>cs
 |(j,v) :: r=>bxl (cs.set j v) r
def bx(c:Option Chunk)(l:List (Nat×AV)):Chunk:=match c with
 |some (.box cs)=>.box (bxl cs l)
 |_=>.box []
def chG:Option Chunk->Chunk
 |some c=>c
 |none=>.box []
def adO(H:au):List Nat->List (Nat×Chunk)->List (Nat×Chunk)
 | [],l=>l
 |t :: ts,l=>(t,chG (H t)) :: adO H ts l
theorem arl(H:au)(l:List (Nat×Chunk)):adO H [] l=l:=rfl
theorem aon(H:au)(t:Nat)(ts:List Nat)(l:List (Nat×Chunk)):adO H (t :: ts) l=(t,chG (H t)) :: adO H ts l:=rfl
theorem aBY(cs:List AV)(l:List (Nat×AV)):bx (some (.box cs)) l = .box (bxl cs l):=rfl
theorem aBZ(cs:List AV):bxl cs []=cs:=rfl
theorem azE(cs:List AV)(j:Nat)(v:AV)(r:List (Nat×AV)):bxl cs ((j,v) :: r)=bxl (cs.set j v) r:=rfl
theorem azF(c:Chunk):chG (some c)=c:=rfl
theorem aEX(x:PV):(RV.p x).pv=x:=rfl
theorem aB0(e:TypeId)(sz:Nat)(es:List (List PV)):(RV.row e sz es).pv = .aL es:=rfl
theorem aB1(rs:List RV):(RV.agg rs).pv = .agg (RV.pvL rs):=rfl
theorem aB2(rs:List RV):(RV.dH rs).pv = .dH (RV.pvL rs):=rfl
theorem azG:RV.pvL []=[]:=rfl
theorem avC(r:RV)(rs:List RV):RV.pvL (r :: rs)=r.pv :: RV.pvL rs:=rfl
attribute [go_sem] avB ark arl aon aBY aBZ azE azF aEX aB0 aB1 aB2 azG avC 
section
variable{α β R:Type}{p q F:Prop}{r:R}{P:Program}{k:FuncId}{ps:List PV}
theorem zV(z:q)(e:q->p:=by intro Z;(try simp -implicitDefEqProofs only[go_sem,F]);exact Z):p:=e z
theorem zX(e:q->p:=by intro Z;(try simp -implicitDefEqProofs only[go_sem,F]);exact Z)(z:q):p:=e z
theorem zF{A:Prop}(a:A)(f:F)(z:F/\A->p):p:=z ⟨f,a⟩
theorem zC{A:Prop} [Decidable A]{x:Option R}(f:F)(h:cz A x=some r)(z:F/\A->x=some r->p):p:=z ⟨f,(ayG h).1⟩ (ayG h).2
theorem zI{l:List α}{i:Nat}{g:α->Option R}(E:α->List PV)(f:F)(h:thn l[i]? g=some r)(z:∀x,F/\i<l.length/\(l.map E).getD i []=E x->g x=some r->p):p:=by obtain⟨x,a,b,_,d⟩:=aCu E h;exact z x ⟨f,a,b⟩ d
theorem zJ{l:List α}{i:Nat}{g:α->Option R}(j:Int)(E:α->List PV)(f:F)(h:thn l[i]? g=some r)(z:∀x,F/\(i<l.length/\j<((l.length:Nat):Int)/\0<=j)/\(l.map E).getD i []=E x->g x=some r->p)(hj:j=(i:Int):=by rfl):p:=by obtain⟨x,a,b,_,d⟩:=aCu E h;exact z x ⟨f,⟨a,by omega,by omega⟩,b⟩ d
theorem zA{l:List α}{i:Int}{g:α->Option R}(E:α->List PV)(f:F)(h:thn (iX l i) g=some r)(z:∀x,F/\(0<=i/\i<((l.length:Nat):Int)/\i.toNat<l.length)/\(l.map E).getD i.toNat []=E x->g x=some r->p):p:=by obtain⟨x,a,b,c,_,d⟩:=aCv E h;exact z x ⟨f,⟨a,b,toNat_lt a b⟩,c⟩ d
theorem zAq{l:List α}{i:Int}{g:α->Option R}(E:α->List PV)(f:F)(h:thn (iX l i) g=some r)(z:∀x,iX l i=some x->F/\(0<=i/\i<((l.length:Nat):Int)/\i.toNat<l.length)/\(l.map E).getD i.toNat []=E x->g x=some r->p):p:=by obtain⟨x,a,b,c,q,d⟩:=aCv E h;exact z x q ⟨f,⟨a,b,toNat_lt a b⟩,c⟩ d
theorem aEY{l:List α}{i:Int}{x:α}(h:iX l i=some x):l[i.toNat]? = some x:=by
 unfold iX at h;split at h
 ·exact h
 ·cases h
theorem zU{o:Option α}{e:α}{g:α->Option R}(q:o=some e)(h:thn o g=some r)(z:g e=some r->p):p:=by subst q;exact z h
theorem zB{b:Bool}{x y:Option R}{q1 q2:Prop}(f:F)(h:cond b x y=some r)(t:F/\b=true->x=some r->q1)(u:F/\b=false->y=some r->q2)
  (e:(b=true->q1)->(b=false->q2)->p:=by intro A B;(try simp -implicitDefEqProofs only[go_sem,F]);exact aI A B):p :=
 e (λhb=>t ⟨f,hb⟩ (abr h hb)) λhb=>u ⟨f,hb⟩ (afv h hb)
theorem fB{b:Bool}{x y:Option R}{q1 q2:Prop}(f:F)(h:cond b x y=some r)(t:F/\b=true->x=some r->q1)(u:F/\b=false->y=some r->q2)
  (e:(b=true->q1)->(b=false->q2)->p:=by intro A B;(try simp -implicitDefEqProofs only[go_sem,F]);exact aU A B):p :=
 e (λhb=>t ⟨f,hb⟩ (abr h hb)) λhb=>u ⟨f,hb⟩ (afv h hb)
theorem gx{b:Bool}{x y:Option R}{q1 q2:Prop}(f:F)(h:cond b x y=some r)(t:F/\b=true->x=some r->q1)(u:F/\b=false->y=some r->q2)
  (e:(b=true->q1)->(b=false->q2)->p:=by intro A B;(try simp -implicitDefEqProofs only[go_sem,F]);exact bS A B):p :=
 e (λhb=>t ⟨f,hb⟩ (abr h hb)) λhb=>u ⟨f,hb⟩ (afv h hb)
theorem nv{b:Bool}{x y:Option R}{q1 q2:Prop}(f:F)(h:cond b x y=some r)(t:F/\b=true->x=some r->q1)(u:F/\b=false->y=some r->q2)
  (e:(b=true->q1)->(b=false->q2)->p:=by intro A B;(try simp -implicitDefEqProofs only[go_sem,F]);exact bY A B):p :=
 e (λhb=>t ⟨f,hb⟩ (abr h hb)) λhb=>u ⟨f,hb⟩ (afv h hb)
theorem zBd{b:Bool}{x y:Option R}{q1 q2:Prop}(f:F)(h:cond b x y=some r)(t:F/\b=true->x=some r->q1)(u:F/\b=false->y=some r->q2)
  (e:(b=true->q1)->(b=false->q2)->p:=by intro A B;(try simp -implicitDefEqProofs only[go_sem,F]);exact o3 A B):p :=
 e (λhb=>t ⟨f,hb⟩ (abr h hb)) λhb=>u ⟨f,hb⟩ (afv h hb)
theorem arn{b:Bool}{x y:Option R}{q1 q2:Prop}(f:F)(h:cond b x y=some r)(t:F/\b=true->x=some r->q1)(u:F/\b=false->y=some r->q2)
  (e:(b=true->q1)->(b=false->q2)->p:=by intro A B;(try simp -implicitDefEqProofs only[go_sem,F]);exact p5 A B):p :=
 e (λhb=>t ⟨f,hb⟩ (abr h hb)) λhb=>u ⟨f,hb⟩ (afv h hb)
def Hint{α:Type}(_:α):Prop:=True
theorem aB3{x:PV}{env:Env}{H:au}{o:Oper}{W:Env->au->Prop}{ps':List PV}{b:Bool}{ids:List Nat}(_:Hint ids)(c:aD P k ps λr=>r=x)(he:jY o (ev env) (dr ids H)=some (k,ps',b))(hp:qH ps' ps)(hb:b=true->x.scalar=true)(hW:W (cA env o.dst (.p x)) (dr ids H)):iU P o W env H:=aDd ids c he hp hb hW
theorem aB4{env:Env}{H:au}{o:Oper}{W:Env->au->Prop}{ps':List PV}{b:Bool}{id:Nat}(_:Hint id){x:RV}(c:bl P k ps λv=>v=x)(he:jY o (ev env) H=some (k,ps',b))(hp:qH ps' ps)(hb:b=true->x.flat=true)(hf:tH H id ((cT id x).2-id))(hW:W (cA env o.dst (cT id x).1) (gB id H x)):iU P o W env H:=aDc id c he hp hb hf hW
theorem azH{env:Env}{H:au}{o:Oper}{W:Env->au->Prop}{ps':List PV}{b:Bool}{ids:List Nat}{id:Nat}(_:Hint (ids,id)){x:RV}(c:bl P k ps λv=>v=x)(he:jY o (ev env) (dr ids H)=some (k,ps',b))(hp:qH ps' ps)(hb:b=true->x.flat=true)(hf:tH (dr ids H) id ((cT id x).2-id))(hW:W (cA env o.dst (cT id x).1) (gB id (dr ids H) x)):iU P o W env H:=aBL ids id c he hp hb hf hW
theorem azI{own:List Nat}{ops:Array Oper}{env:Env}{H:au}{o:Oper}{W:Env->au->Prop}{ps':List PV}{b:Bool}{id:Nat}(_:Hint id){x:RV}(c:bl P k ps λv=>v=x)(he:jY o (ev env) (p0 own ops H)=some (k,ps',b))(hp:qH ps' ps)(hb:b=true->x.flat=true)(hf:tH H id ((cT id x).2-id))(hn:aey own ops id ((cT id x).2-id))(hW:W (cA env o.dst (cT id x).1) (gB id H x)):ahn P own ops o W env H:=agK id c he hp hb hf hn hW
theorem zK{X:α->PV}{o:Option α}{g:α->Option R}{q:α->Prop}(f:F)(h:thn o g=some r)(c:∀x,o=some x->aD P k ps λv=>v=X x)(z:∀x,g x=some r->q x)
  (e:∀x,(aD P k ps λv=>v=X x)->q x->p:=by intro x C Z;(try simp -implicitDefEqProofs only[go_sem,F]);exact anU C (by simp -implicitDefEqProofs only[go_sem,F]<;>rfl) (by first|exact gO _|(simp -implicitDefEqProofs only[go_sem,F]<;>rfl)) (by first|exact xI|exact cB rfl) Z):p:=by
 obtain⟨x,h1,h2⟩:=nY h;exact e x (c x h1) (z x h2)
theorem vl{X:α->PV}{o:Option α}{g:α->Option R}{q:α->Prop}(f:F)(h:thn o g=some r)(c:∀x,o=some x->aD P k ps λv=>v=X x)(z:∀x,g x=some r->q x)
  (e:∀x,(aD P k ps λv=>v=X x)->q x->p:=by intro x C Z;(try simp -implicitDefEqProofs only[go_sem,F]);exact aqH C (by simp -implicitDefEqProofs only[go_sem,F]<;>rfl) (by first|exact gO _|(simp -implicitDefEqProofs only[go_sem,F]<;>rfl)) (by first|exact xI|exact cB rfl) Z):p:=by
 obtain⟨x,h1,h2⟩:=nY h;exact e x (c x h1) (z x h2)
theorem zT{X:α->RV}{o:Option α}{g:α->Option R}{q:α->Prop}(f:F)(h:thn o g=some r)(c:∀x,o=some x->bl P k ps λv=>v=X x)(z:∀x,g x=some r->q x)
  (e:∀x,(aD P k ps λv=>v=(X x).pv)->q x->p:=by intro x C Z;(try simp -implicitDefEqProofs only[go_sem,F]);exact anU C (by simp -implicitDefEqProofs only[go_sem,F]<;>rfl) (by first|exact gO _|(simp -implicitDefEqProofs only[go_sem,F]<;>rfl)) (by first|exact xI|exact cB rfl) Z):p:=by
 obtain⟨x,h1,h2⟩:=nY h;exact e x ((c x h1).aAC) (z x h2)
theorem zTd{X:α->RV}{o:Option α}{g:α->Option R}{q:α->Prop}(f:F)(h:thn o g=some r)(c:∀x,o=some x->bl P k ps λv=>v=X x)(z:∀x,g x=some r->q x)
  (e:∀x,(aD P k ps λv=>v=(X x).pv)->q x->p:=by intro x C Z;(try simp -implicitDefEqProofs only[go_sem,F]);exact aqH C (by simp -implicitDefEqProofs only[go_sem,F]<;>rfl) (by first|exact gO _|(simp -implicitDefEqProofs only[go_sem,F]<;>rfl)) (by first|exact xI|exact cB rfl) Z):p:=by
 obtain⟨x,h1,h2⟩:=nY h;exact e x ((c x h1).aAC) (z x h2)
theorem zKs{X:α->PV}{o:Option α}{g:α->Option R}{q:α->Prop}(id:List Nat)(f:F)(h:thn o g=some r)(c:∀x,o=some x->aD P k ps λv=>v=X x)(z:∀x,g x=some r->q x)
  (e:∀x,Hint id->(aD P k ps λv=>v=X x)->q x->p:=by intro x I C Z;(try simp -implicitDefEqProofs only[go_sem,F]);exact aB3 I C (by simp -implicitDefEqProofs only[go_sem,F]<;>rfl) (by first|exact gO _|(simp -implicitDefEqProofs only[go_sem,F]<;>rfl)) (by first|exact xI|exact cB rfl) Z):p:=by
 obtain⟨x,h1,h2⟩:=nY h;exact e x trivial (c x h1) (z x h2)
theorem zG{X:α->RV}{o:Option α}{g:α->Option R}{q:α->Prop}(id:Nat)(f:F)(h:thn o g=some r)(c:∀x,o=some x->bl P k ps λv=>v=X x)(z:∀x,g x=some r->q x)
  (e:∀x,Hint id->(bl P k ps λv=>v=X x)->q x->p:=by intro x I C Z;(try simp -implicitDefEqProofs only[go_sem,F]);exact aB4 I C (by simp -implicitDefEqProofs only[go_sem,F]<;>rfl) (by first|exact gO _|(simp -implicitDefEqProofs only[go_sem,F]<;>rfl)) (by first|exact af5|exact ajL rfl|exact ajL (by simp[RV.flat,RV.ac5,PV.scalar,isVal,go_sem])) (by simp -implicitDefEqProofs only[go_sem,F]) Z):p:=by
 obtain⟨x,h1,h2⟩:=nY h;exact e x trivial (c x h1) (z x h2)
theorem zH{X:α->RV}{o:Option α}{g:α->Option R}{q:α->Prop}(id:Nat)(f:F)(h:thn o g=some r)(c:∀x,o=some x->bl P k ps λv=>v=X x)(z:∀x,g x=some r->q x)
  (e:∀x,Hint id->(bl P k ps λv=>v=X x)->q x->p:=by intro x I C Z;(try simp -implicitDefEqProofs only[go_sem,F]);exact azI I C (by simp -implicitDefEqProofs only[go_sem,F]<;>rfl) (by first|exact gO _|(simp -implicitDefEqProofs only[go_sem,F]<;>rfl)) (by first|exact af5|exact ajL rfl|exact ajL (by simp[RV.flat,RV.ac5,PV.scalar,isVal,go_sem])) (by simp -implicitDefEqProofs only[go_sem,F]) (by simp -implicitDefEqProofs only[go_sem,F]) Z):p:=by
 obtain⟨x,h1,h2⟩:=nY h;exact e x trivial (c x h1) (z x h2)
theorem zGs{X:α->RV}{o:Option α}{g:α->Option R}{q:α->Prop}(id:List Nat×Nat)(f:F)(h:thn o g=some r)(c:∀x,o=some x->bl P k ps λv=>v=X x)(z:∀x,g x=some r->q x)
  (e:∀x,Hint id->(bl P k ps λv=>v=X x)->q x->p:=by intro x I C Z;(try simp -implicitDefEqProofs only[go_sem,F]);exact azH I C (by simp -implicitDefEqProofs only[go_sem,F]<;>rfl) (by first|exact gO _|(simp -implicitDefEqProofs only[go_sem,F]<;>rfl)) (by first|exact af5|exact ajL rfl|exact ajL (by simp[RV.flat,RV.ac5,PV.scalar,isVal,go_sem])) (by simp -implicitDefEqProofs only[go_sem,F]) Z):p:=by
 obtain⟨x,h1,h2⟩:=nY h;exact e x trivial (c x h1) (z x h2)
theorem zP{X:α->PV}{o:Option α}{g:α->Option R}{q:α->Prop}(f:F)(h:thn o g=some r)(c:∀x,o=some x->aD P k ps λv=>v=X x)(z:∀x,g x=some r->q x)
  (e:∀x,(aD P k ps λv=>v=X x)->q x->p:=by intro x C Z;(try simp -implicitDefEqProofs only[go_sem,F]);exact anU C (by simp -implicitDefEqProofs only[go_sem,F,nM,nL,Bool.or_false,Bool.false_or]<;>rfl) (gO _) (by first|exact xI|exact cB rfl) Z):p:=by
 obtain⟨x,h1,h2⟩:=nY h;exact e x (c x h1) (z x h2)
theorem zPd{X:α->PV}{o:Option α}{g:α->Option R}{q:α->Prop}(f:F)(h:thn o g=some r)(c:∀x,o=some x->aD P k ps λv=>v=X x)(z:∀x,g x=some r->q x)
  (e:∀x,(aD P k ps λv=>v=X x)->q x->p:=by intro x C Z;(try simp -implicitDefEqProofs only[go_sem,F]);exact aqH C (by simp -implicitDefEqProofs only[go_sem,F,nM,nL,Bool.or_false,Bool.false_or]<;>rfl) (gO _) (by first|exact xI|exact cB rfl) Z):p:=by
 obtain⟨x,h1,h2⟩:=nY h;exact e x (c x h1) (z x h2)
theorem zM{v sz:Nat}{e:TypeId}{es:List (List PV)}{X:α->List (List PV)}{o:Option α}{g:α->Option R}{q:α->Prop}(f:F)(h:thn o g=some r)(c:∀x,o=some x->mb P k v e sz (es) ps λa c=>a = .dH []/\c=some (.row v e sz (X x)))(z:∀x,g x=some r->q x)
  (e:∀x,(mb P k v e sz (es) ps λa c=>a = .dH []/\c=some (.row v e sz (X x)))->q x->p:=by intro x C Z;(try simp -implicitDefEqProofs only[go_sem,F]);exact aen C (by simp -implicitDefEqProofs only[go_sem,F]<;>rfl) (by simp -implicitDefEqProofs only[go_sem,F]<;>rfl) (by simp -implicitDefEqProofs only[go_sem,F]<;>rfl) (by first|exact λh=>by cases h|exact λ_=>ar6 (λ_=>rfl) _) Z):p:=by
 obtain⟨x,h1,h2⟩:=nY h;exact e x (c x h1) (z x h2)
theorem zMb{v sz:Nat}{e:TypeId}{es:List (List PV)}{X:α->List (List PV)}{o:Option α}{g:α->Option R}{q:α->Prop}(f:F)(h:thn o g=some r)(c:∀x,o=some x->mb P k v e sz (es) ps λa c=>a = .row 1000000 (v+1)/\c=some (.row (v+1) e sz (X x)))(z:∀x,g x=some r->q x)
  (e:∀x,(mb P k v e sz (es) ps λa c=>a = .row 1000000 (v+1)/\c=some (.row (v+1) e sz (X x)))->q x->p:=by intro x C Z;(try simp -implicitDefEqProofs only[go_sem,F]);exact ajN C (by simp -implicitDefEqProofs only[go_sem,F]<;>rfl) (by simp -implicitDefEqProofs only[go_sem,F]<;>rfl) (by simp -implicitDefEqProofs only[go_sem,F]<;>rfl) (by first|exact λh=>by cases h|exact λ_=>ar6 (λ_=>rfl) _) Z):p:=by
 obtain⟨x,h1,h2⟩:=nY h;exact e x (c x h1) (z x h2)
theorem aCy{N:Nat}{own:List Nat}{K:Env->au->Prop}{env:Env}{H:au}{l:List Oper}{cs:List oV}(_:Hint cs)(hok:aek N own l.toArray (masks l.toArray) cs=true)(hw:gj P N own l.toArray (l.zip cs) K env H):wR P N own l.toArray K env H:=dO cs hok hw
theorem aEZ{N:Nat}{own:List Nat}{K:Env->au->Prop}{env:Env}{H:au}{l:List Oper}{pc:List (Nat×oV)}(_:Hint pc)(hok:ap0 N own l pc=true)(hw:gj P N own l.toArray (aaB l pc) K env H):wR P N own l.toArray K env H:=alj pc hok hw
theorem zD(cs:List oV)(z:q)(e:Hint cs->q->p:=by intro I Z;(try simp -implicitDefEqProofs only[go_sem,F]);exact aCy I (by kernel_rfl) Z):p:=e trivial z
def azJ:Nat->List oV->List oV
 |0,l=>l
 |n+1,l=>.q :: azJ n l
theorem eD(n:Nat)(l:List oV){cs:List oV}(z:q)(hc:azJ n l=cs:=by simp only[azJ];exact rfl)(e:Hint cs->q->p:=by intro I Z;(try simp -implicitDefEqProofs only[go_sem,F]);exact aCy I (by kernel_rfl) Z):p:=e trivial z
theorem zE(pc:List (Nat×oV))(z:q)(e:Hint pc->q->p:=by intro I Z;(try simp -implicitDefEqProofs only[go_sem,F]);exact aEZ I (by kernel_rfl) Z):p:=e trivial z
theorem zR{A:Prop}(h:A)(e:A->p:=by intro h;cases h;(try simp -implicitDefEqProofs only[go_sem,F]);all_goals(and_intros<;>first|rfl|omega)):p:=e h
theorem gJ{A:Prop}(h:A)(e:A->p:=by intro h;cases h;(try simp -implicitDefEqProofs only[go_sem,F]);refine⟨by decide,_,.refl _,?_⟩;simp -implicitDefEqProofs only[go_sem,F]<;>and_intros<;>first|rfl|trivial):p:=e h
theorem zW{e:Env}{H:au}{l:List (Nat×AV)}{hl:List (Nat×Chunk)}(h:aqL e l/\wo H hl/\aqM (bN hl) l/\wq (bN hl) hl/\kN H (bN hl):=by simp -implicitDefEqProofs only[go_sem,F]<;>and_intros<;>rfl):c8 e H (rV l) (bN hl):=aeu h
end
section
variable{P:Program}{N:Nat}{own:List Nat}{σ γ O:Type}{c:Code}{K:qN}{env:Env}{H:au}{Kf:σ->Option O}{r:O}{F:Prop}
theorem zL{f:σ->(σ->Option O)->(σ->Option O)->Option O}{n:Nat}{s:σ}{L:σ×γ->List (Nat×AV)}{M:σ×γ->List (Nat×Chunk)}(fF:F)(h:iter f n s Kf=some r)(g0:γ)(ts:List Nat)(de:σ×γ->List (Nat×AV))(is:List Nat)(dh:σ×γ->au->List (Nat×Chunk))
  (hr:∀s g (eE:σ->Option O) (R:Env->au->Prop),F->(∀s' g' {e H},eE s'=some r->c8 e H (rV (L (s',g'))) (bN (M (s',g')))->R e H)->f s eE Kf=some r->cw P N own c (vI R K) (rV (L (s,g))) (bN (M (s,g))))
  (e1:∀x,ah0 env ts (de x)=L x:=by intro x;(try simp -implicitDefEqProofs only[go_sem,F]);exact rfl) (e2:∀x,adO H is (dh x H)=M x:=by intro x;(try simp -implicitDefEqProofs only[go_sem,F]);exact rfl)
  (hw:c8 env H (rV (L (s,g0))) (bN (M (s,g0))):=by exact aeu (by simp -implicitDefEqProofs only[go_sem,F]<;>and_intros<;>rfl)):aef P N own c K env H :=
 aBI (λx=>rV (L x)) (λx=>bN (M x)) g0 h hw λs g eE R hN h=>hr s g eE R fF hN h
theorem zN{f:Nat->σ->(σ->Option O)->(σ->Option O)->Option O}{n i:Nat}{s:σ}{L:(Nat×σ)×γ->List (Nat×AV)}{M:(Nat×σ)×γ->List (Nat×Chunk)}(fF:F)(h:cz (n<=fuel) (bZ f (n-i) i s Kf)=some r)(g0:γ)(ts:List Nat)(de:(Nat×σ)×γ->List (Nat×AV))(is:List Nat)(dh:(Nat×σ)×γ->au->List (Nat×Chunk))
  (hr:∀j s g (eE:σ->Option O) (R:Env->au->Prop),F/\(j<n/\n<=4611686018427387904)/\i64.wrap ((j:Int)+1)=((j+1:Nat):Int)->(∀s' g' {e H},eE s'=some r->c8 e H (rV (L ((j+1,s'),g'))) (bN (M ((j+1,s'),g')))->R e H)->f j s eE Kf=some r->cw P N own c (vI R K) (rV (L ((j,s),g))) (bN (M ((j,s),g))))
  (he:∀j s g (R:Env->au->Prop),F/\¬ j<n->Kf s=some r->cw P N own c (vI R K) (rV (L ((j,s),g))) (bN (M ((j,s),g))))
  (e1:∀x,ah0 env ts (de x)=L x:=by intro x;(try simp -implicitDefEqProofs only[go_sem,F]);exact rfl) (e2:∀x,adO H is (dh x H)=M x:=by intro x;(try simp -implicitDefEqProofs only[go_sem,F]);exact rfl)
  (hw:c8 env H (rV (L ((i,s),g0))) (bN (M ((i,s),g0))):=by exact aeu (by simp -implicitDefEqProofs only[go_sem,F]<;>and_intros<;>rfl)):aef P N own c K env H:=by
 obtain⟨hf,h⟩:=ayG h;unfold fuel at hf;exact aBJ (λx=>rV (L x)) (λx=>bN (M x)) g0 h hw (λj s g eE R hj hN h=>hr j s g eE R ⟨fF,⟨hj,hf⟩,bM hj hf⟩ hN h) λj s g R hj h=>he j s g R ⟨fF,by omega⟩ h
theorem zO{f:Nat->σ->(σ->Option O)->(σ->Option O)->Option O}{b:Int}{i:Nat}{s:σ}{L:(Nat×σ)×γ->List (Nat×AV)}{M:(Nat×σ)×γ->List (Nat×Chunk)}(fF:F)(h:cz (b.toNat<=fuel) (bZ f (b.toNat-i) i s Kf)=some r)(g0:γ)(ts:List Nat)(de:(Nat×σ)×γ->List (Nat×AV))(is:List Nat)(dh:(Nat×σ)×γ->au->List (Nat×Chunk))
  (hr:∀ (j:Nat) s g (eE:σ->Option O) (R:Env->au->Prop),F/\((j:Int)<b/\j<b.toNat/\b.toNat<=4611686018427387904)/\i64.wrap ((j:Int)+1)=((j+1:Nat):Int)->(∀s' g' {e H},eE s'=some r->c8 e H (rV (L ((j+1,s'),g'))) (bN (M ((j+1,s'),g')))->R e H)->f j s eE Kf=some r->cw P N own c (vI R K) (rV (L ((j,s),g))) (bN (M ((j,s),g))))
  (he:∀ (j:Nat) s g (R:Env->au->Prop),F/\¬ (j:Int)<b->Kf s=some r->cw P N own c (vI R K) (rV (L ((j,s),g))) (bN (M ((j,s),g))))
  (e1:∀x,ah0 env ts (de x)=L x:=by intro x;(try simp -implicitDefEqProofs only[go_sem,F]);exact rfl) (e2:∀x,adO H is (dh x H)=M x:=by intro x;(try simp -implicitDefEqProofs only[go_sem,F]);exact rfl)
  (hw:c8 env H (rV (L ((i,s),g0))) (bN (M ((i,s),g0))):=by exact aeu (by simp -implicitDefEqProofs only[go_sem,F]<;>and_intros<;>rfl)):aef P N own c K env H :=
 zN fF h g0 ts de is dh (λj s g eE R h=>hr j s g eE R ⟨h.1,⟨by omega,h.2.1⟩,h.2.2⟩) (λj s g R h=>he j s g R ⟨h.1,by omega⟩) e1 e2 hw
end
attribute [go_sem] abk cons_append nil_append aK aC encI bH aB bw cW aJ ak ag aP az
noncomputable section
def eM(a0:List aj)(p1:aj->aj->Option Int):Option Bool :=
 cz (a0.length<=fuel) <|
 bZ (λi2 (s2:Unit) bT fU =>
  thn (iX a0 (i64.wrap (((i2:Nat):Int)-1))) λe3 =>
  thn (a0[i2]?) λe4 =>
  thn (p1 e3 e4) λr5 =>
  cond (decide (0<=r5)) (
   some false) <|
  bT ())
 (a0.length-1) 1 () λs2 =>
 some true
theorem mZ(a0:List aj)(p1:aj->aj->Option Int)(k1:FuncId)(xV xW:List PV)(hp1:∀x0 x1 r,p1 x0 x1=some r->aD pw k1 (xV++[.agg (ag x0),.agg (ag x1)]++xW) (λv=>v = .val (.int .i64 r)))(r:Bool)(h:eM a0 p1=some r):aD pw 153 [.aL (a0.map ag),.jk (.func k1) xV xW] (λv=>v = .val (.bool r)):=by
 refine aD.gW ?_;refine aF [] func153 ntmps153 results153 ?_;unfold eM at h;have F:=trivial;refine zV ?_;refine zN F h () [0,1] (λx=>[(5,.p (.val (.int .i64 ((x.1.1:Nat):Int))))]) [] (λx H=>[]) ?_ ?_
 ·intro i2 s2 g2 _ _ F jL h;try dsimp only at h
  refine eD 12 [] ?_;refine zA ag F h λe3 F h=>?_
  refine zI ag F h λe4 F h=>?_
  refine zPd F h (hp1 _ _) λr5 h=>?_
  refine zB F h (λF h=>?_) λF h=>?_
  ·exact zR h
  ·exact zX (z:=jL _ () h zW)
 ·intro i2 s2 g2 _ F h;try dsimp only at h
  exact zR h
def gH(a0:Int):Option Bool:=some (!(decide (a0=a0)))
theorem qd(a0:Int)(r:Bool)(h:gH a0=some r):aD pw 254 [.val (.int .i64 a0)] (λv=>v = .val (.bool r)):=by refine aD.gW ?_;refine aF [] func254 ntmps254 results254 ?_;unfold gH at h;have F:=trivial;exact zR h
def ig(a0:Int)(a1:Int):Option Int :=
 thn (gH a0) λr2 =>
 thn (gH a1) λr3 =>
 cond r2 (
  cond r3 (
   some 0) <|
  some (-1)) <|
 cond r3 (
  some 1) <|
 cond (decide (a0<a1)) (
  some (-1)) <|
 cond (decide (a1<a0)) (
  some 1) <|
 some 0
theorem oa(a0:Int)(a1:Int)(r:Int)(h:ig a0 a1=some r):aD pw 210 [.val (.int .i64 a0),.val (.int .i64 a1)] (λv=>v = .val (.int .i64 r)):=by
 refine aD.gW ?_;refine aF [] func210 ntmps210 results210 ?_;unfold ig at h;have F:=trivial;refine zK F h (qd _) λr2 h=>?_
 refine zK F h (qd _) λr3 h=>?_
 refine zB F h (λF h=>?_) λF h=>?_
 ·refine zB F h (λF h=>?_) λF h=>?_
  ·exact zR h
  ·exact zR h
 ·refine zB F h (λF h=>?_) λF h=>?_
  ·exact zR h
  ·refine zB F h (λF h=>?_) λF h=>?_
   ·exact zR h
   ·refine zB F h (λF h=>?_) λF h=>?_
    ·exact zR h
    ·exact zR h
def gP(a0:aj)(a1:aj):Option Int :=
 thn (ig a0.id a1.id) λr2 =>
 some r2
theorem yu(a0:aj)(a1:aj)(r:Int)(h:gP a0 a1=some r):aD pw 154 [.agg (ag a0),.agg (ag a1)] (λv=>v = .val (.int .i64 r)):=by
 refine aD.gW ?_;refine aF [] func154 ntmps154 results154 ?_;unfold gP at h;have F:=trivial;refine zK F h (oa _ _) λr2 h=>?_
 exact zR h
def eN(a0:List ax)(p1:ax->ax->Option Int):Option Bool :=
 cz (a0.length<=fuel) <|
 bZ (λi2 (s2:Unit) bT fU =>
  thn (iX a0 (i64.wrap (((i2:Nat):Int)-1))) λe3 =>
  thn (a0[i2]?) λe4 =>
  thn (p1 e3 e4) λr5 =>
  cond (decide (0<=r5)) (
   some false) <|
  bT ())
 (a0.length-1) 1 () λs2 =>
 some true
theorem nc(a0:List ax)(p1:ax->ax->Option Int)(k1:FuncId)(xV xW:List PV)(hp1:∀x0 x1 r,p1 x0 x1=some r->aD pw k1 (xV++[.agg (ak x0),.agg (ak x1)]++xW) (λv=>v = .val (.int .i64 r)))(r:Bool)(h:eN a0 p1=some r):aD pw 155 [.aL (a0.map ak),.jk (.func k1) xV xW] (λv=>v = .val (.bool r)):=by
 refine aD.gW ?_;refine aF [] func155 ntmps155 results155 ?_;unfold eN at h;have F:=trivial;refine zV ?_;refine zN F h () [0,1] (λx=>[(5,.p (.val (.int .i64 ((x.1.1:Nat):Int))))]) [] (λx H=>[]) ?_ ?_
 ·intro i2 s2 g2 _ _ F jL h;try dsimp only at h
  refine eD 12 [] ?_;refine zA ak F h λe3 F h=>?_
  refine zI ak F h λe4 F h=>?_
  refine zPd F h (hp1 _ _) λr5 h=>?_
  refine zB F h (λF h=>?_) λF h=>?_
  ·exact zR h
  ·exact zX (z:=jL _ () h zW)
 ·intro i2 s2 g2 _ F h;try dsimp only at h
  exact zR h
def gQ(a0:ax)(a1:ax):Option Int :=
 thn (ig a0.id a1.id) λr2 =>
 some r2
theorem yw(a0:ax)(a1:ax)(r:Int)(h:gQ a0 a1=some r):aD pw 156 [.agg (ak a0),.agg (ak a1)] (λv=>v = .val (.int .i64 r)):=by
 refine aD.gW ?_;refine aF [] func156 ntmps156 results156 ?_;unfold gQ at h;have F:=trivial;refine zK F h (oa _ _) λr2 h=>?_
 exact zR h
def fC(a0:List aO)(p1:aO->aO->Option Int):Option Bool :=
 cz (a0.length<=fuel) <|
 bZ (λi2 (s2:Unit) bT fU =>
  thn (iX a0 (i64.wrap (((i2:Nat):Int)-1))) λe3 =>
  thn (a0[i2]?) λe4 =>
  thn (p1 e3 e4) λr5 =>
  cond (decide (0<=r5)) (
   some false) <|
  bT ())
 (a0.length-1) 1 () λs2 =>
 some true
theorem sN(a0:List aO)(p1:aO->aO->Option Int)(k1:FuncId)(xV xW:List PV)(hp1:∀x0 x1 r,p1 x0 x1=some r->aD pw k1 (xV++[.agg (aP x0),.agg (aP x1)]++xW) (λv=>v = .val (.int .i64 r)))(r:Bool)(h:fC a0 p1=some r):aD pw 157 [.aL (a0.map aP),.jk (.func k1) xV xW] (λv=>v = .val (.bool r)):=by
 refine aD.gW ?_;refine aF [] func157 ntmps157 results157 ?_;unfold fC at h;have F:=trivial;refine zV ?_;refine zN F h () [0,1] (λx=>[(5,.p (.val (.int .i64 ((x.1.1:Nat):Int))))]) [] (λx H=>[]) ?_ ?_
 ·intro i2 s2 g2 _ _ F jL h;try dsimp only at h
  refine eD 12 [] ?_;refine zA aP F h λe3 F h=>?_
  refine zI aP F h λe4 F h=>?_
  refine zPd F h (hp1 _ _) λr5 h=>?_
  refine zB F h (λF h=>?_) λF h=>?_
  ·exact zR h
  ·exact zX (z:=jL _ () h zW)
 ·intro i2 s2 g2 _ F h;try dsimp only at h
  exact zR h
def rq(a0:List Int):Option Int :=
 cz (a0.length<=fuel) <|
 bZ (λi1 (s1:Unit) jM tP =>
  thn (a0[i1]?) λe2 =>
  cond (decide (e2=0)) (
   jM ()) <|
  some e2)
 (a0.length-0) 0 () λs1 =>
 some 0
theorem alI(a0:List Int)(r:Int)(h:rq a0=some r):aD pw 211 [.aL (a0.map encI)] (λv=>v = .val (.int .i64 r)):=by
 refine aD.gW ?_;refine aF [] func211 ntmps211 results211 ?_;unfold rq at h;have F:=trivial;refine zV ?_;refine zN F h () [3,6,7] (λx=>[(8,.p (.val (.int .i64 ((x.1.1:Nat):Int))))]) [] (λx H=>[]) ?_ ?_
 ·intro i1 s1 g1 _ _ F Ns1 h;try dsimp only at h
  refine zI encI F h λe2 F h=>?_
  refine fB F h (λF h=>?_) λF h=>?_
  ·exact zX (z:=Ns1 _ () h zW)
  ·exact zR h
 ·intro i1 s1 g1 _ F h;try dsimp only at h
  exact zR h
def iZ(a0:aO)(a1:aO):Option Int :=
 thn (ig a0.id a1.id) λr2 =>
 thn (ig a0.attr a1.attr) λr3 =>
 thn (rq [r2,r3]) λr4 =>
 some r4
theorem aeB(a0:aO)(a1:aO)(r:Int)(h:iZ a0 a1=some r):aD pw 158 [.agg (aP a0),.agg (aP a1)] (λv=>v = .val (.int .i64 r)):=by
 refine aD.gW ?_;refine aF [] func158 ntmps158 results158 ?_;unfold iZ at h;have F:=trivial;refine eD 10 [.p,.q,.q] ?_;refine vl F h (oa _ _) λr2 h=>?_
 refine vl F h (oa _ _) λr3 h=>?_
 refine vl F h (alI _) λr4 h=>?_
 exact zR h
def mH(a0:aQ):Option Int :=
 cond (decide (500<(max (max (max (max ((a0.aG.length:Nat):Int) ((a0.aM.length:Nat):Int)) ((a0.aV.length:Nat):Int)) ((a0.bn.length:Nat):Int)) ((a0.values.length:Nat):Int)))) (
  some 3) <|
 thn (eM a0.aG (λx1 x2=>gP x1 x2)) λr3 =>
 cond r3 (
  thn (eM a0.aV (λx4 x5=>gP x4 x5)) λr6 =>
  cond r6 (
   thn (eN a0.aM (λx7 x8=>gQ x7 x8)) λr9 =>
   cond r9 (
    thn (eN a0.bn (λx10 x11=>gQ x10 x11)) λy5 =>
    cond y5 (
     thn (fC a0.values (λx13 x14=>iZ x13 x14)) λr15 =>
     cond r15 (
      some 0) <|
     some 12) <|
    some 12) <|
   some 12) <|
  some 12) <|
 some 12
theorem afz(a0:aQ)(r:Int)(h:mH a0=some r):aD pw 92 [.agg (aJ a0)] (λv=>v = .val (.int .i64 r)):=by
 refine aD.gW ?_;refine aF [] func92 ntmps92 results92 ?_;unfold mH at h;have F:=trivial;refine zB F h (λF h=>?_) λF h=>?_
 ·exact zR h
 ·refine zK F h (mZ _ (λx1 x2=>gP x1 x2) 154 [] [] (λx1 x2 r h=>yu x1 x2 r h)) λr3 h=>?_
  refine gx F h (λF h=>?_) λF h=>?_
  ·refine zK F h (mZ _ (λx4 x5=>gP x4 x5) 154 [] [] (λx4 x5 r h=>yu x4 x5 r h)) λr6 h=>?_
   refine gx F h (λF h=>?_) λF h=>?_
   ·refine zK F h (nc _ (λx7 x8=>gQ x7 x8) 156 [] [] (λx7 x8 r h=>yw x7 x8 r h)) λr9 h=>?_
    refine gx F h (λF h=>?_) λF h=>?_
    ·refine zK F h (nc _ (λx10 x11=>gQ x10 x11) 156 [] [] (λx10 x11 r h=>yw x10 x11 r h)) λy5 h=>?_
     refine gx F h (λF h=>?_) λF h=>?_
     ·refine zK F h (sN _ (λx13 x14=>iZ x13 x14) 158 [] [] (λx13 x14 r h=>aeB x13 x14 r h)) λr15 h=>?_
      refine fB F h (λF h=>?_) λF h=>?_
      ·exact zR h
      ·exact zR h
     ·exact zR h
    ·exact zR h
   ·exact zR h
  ·exact zR h
def iG(a0:List Int)(a1:Int):Option Int :=
 cz (a0.length<=fuel) <|
 bZ (λi2 (s2:Unit) bT fU =>
  thn (a0[i2]?) λe3 =>
  cond (decide (a1=e3)) (
   some ((i2:Nat):Int)) <|
  bT ())
 (a0.length-0) 0 () λs2 =>
 some (-1)
theorem qk(a0:List Int)(a1:Int)(r:Int)(h:iG a0 a1=some r):aD pw 84 [.aL (a0.map encI),.val (.int .i64 a1)] (λv=>v = .val (.int .i64 r)):=by
 refine aD.gW ?_;refine aF [] func84 ntmps84 results84 ?_;unfold iG at h;have F:=trivial;refine zV ?_;refine zN F h () [0,1,7] (λx=>[(8,.p (.val (.int .i64 ((x.1.1:Nat):Int))))]) [] (λx H=>[]) ?_ ?_
 ·intro i2 s2 g2 _ _ F jL h;try dsimp only at h
  refine zI encI F h λe3 F h=>?_
  refine zB F h (λF h=>?_) λF h=>?_
  ·exact zR h
  ·exact zX (z:=jL _ () h zW)
 ·intro i2 s2 g2 _ F h;try dsimp only at h
  exact zR h
def lQ(a0:List aj)(a1:List ax)(a2:Int):Option (ay×Bool) :=
 cz (a0.length<=fuel) <|
 bZ (λi3 (s3:(List Int)×(List (List Int))×(List Int)) gE oK =>
  thn (a0[i3]?) λe4 =>
  cz (s3.2.2.length+1<=68719476736) <|
  cz (s3.1.length+1<=68719476736) <|
  thn (cZ e4.values) λr5 =>
  cz (s3.2.1.length+1<=68719476736) <|
  gE ((s3.1++[e4.type]),(s3.2.1++[r5]),(s3.2.2++[e4.id])))
 (a0.length-0) 0 (([]:List Int),([]:List (List Int)),([]:List Int)) λs3 =>
 cz (a1.length<=fuel) <|
 bZ (λi6 (s6:(List Edge)×(List Int)) tQ akb =>
  thn (a1[i6]?) λe7 =>
  thn (iG s3.2.2 e7.src) λr8 =>
  thn (iG s3.2.2 e7.dst) λr9 =>
  cond (decide (r8<0)) (
   some ((⟨(⟨(⟨([]:List Int),([]:List Edge)⟩:bE),([]:List (List Int))⟩:Host),([]:List Int),([]:List Int),0⟩:ay),false)) <|
  cond (decide (r9<0)) (
   some ((⟨(⟨(⟨([]:List Int),([]:List Edge)⟩:bE),([]:List (List Int))⟩:Host),([]:List Int),([]:List Int),0⟩:ay),false)) <|
  cz (s6.2.length+1<=68719476736) <|
  cz (s6.1.length+1<=68719476736) <|
  tQ ((s6.1++[(⟨e7.type,r8,r9⟩:Edge)]),(s6.2++[e7.id])))
 (a1.length-0) 0 (([]:List Edge),([]:List Int)) λs6 =>
 some ((⟨⟨⟨s3.1,s6.1⟩,s3.2.1⟩,s3.2.2,s6.2,a2⟩:ay),true)
theorem aeC(a0:List aj)(a1:List ax)(a2:Int)(r:ay×Bool)(h:lQ a0 a1 a2=some r):bl pw 96 [.aL (a0.map ag),.aL (a1.map ak),.val (.int .i64 a2)] (λv=>v = .dH [.agg [.row 3 1 (r.1.host.graph.nodes.map encI),.row 143 3 (r.1.host.graph.ah.map aK),.row 26 1 (r.1.host.values.map bw),.row 3 1 (r.1.nodes.map encI),.row 3 1 (r.1.ah.map encI),.p (.val (.int .i64 r.1.next))],.p (.val (.bool r.2))]):=by
 refine bl.qX ?_;refine bz [28,37,44,45,80,92] func96 ntmps96 results96 ?_;unfold lQ at h;have F:=trivial;refine zV ?_;refine zN F h ((0,0,0):Nat×Nat×Nat) [1,6,8,17,18] (λx=>[(19,.p (.val (.int .i64 ((x.1.1:Nat):Int))))]) [6] (λx H=>[(8,bx (H 8) [(0,.row 2437 x.2.1),(2,.row 2438 x.2.2.1),(3,.row 2439 x.2.2.2)]),(2437,.row x.2.1 3 1 (x.1.2.1.map encI)),(2438,.row x.2.2.1 26 1 (x.1.2.2.1.map bw)),(2439,.row x.2.2.2 3 1 (x.1.2.2.2.map encI))]) ?_ ?_ (hw:=by refine c8.trans (bK 8 0 2437 3 1 _ rfl rfl rfl (by decide)) ?_;refine c8.trans (bK 8 2 2438 26 1 _ rfl rfl rfl (by decide)) ?_;refine c8.trans (bK 8 3 2439 3 1 _ rfl rfl rfl (by decide)) ?_;exact zW)
 ·intro i3 s3 g3 _ _ F vL h;try dsimp only at h
  refine zI ag F h λe4 F h=>?_
  refine zC F h λF h=>?_
  refine dz (s3.2.2.length+1) 8 F λF=>?_
  refine zF (bt encI s3.2.2 [e4.id] (c:=[[.val (.int .i64 e4.id)]]) rfl) F λF=>?_
  refine zE [(0,.p),(1,.p),(2,.p),(4,.q),(5,.q),(6,.p),(3,.q),(8,.b),(9,.b),(10,.b),(11,.b),(12,.b),(7,.w),(13,.q),(16,.b),(17,.b),(18,.b),(14,.w),(15,.w),(19,.w),(20,.q),(21,.q),(22,.w)] ?_;refine zC F h λF h=>?_
  refine dz (s3.1.length+1) 8 F λF=>?_
  refine zF (bt encI s3.1 [e4.type] (c:=[[.val (.int .i64 e4.type)]]) rfl) F λF=>?_
  refine zTd F h (dQ _) λr5 h=>?_
  refine zC F h λF h=>?_
  refine dz (s3.2.1.length+1) 24 F λF=>?_
  refine zF (bt bw s3.2.1 [r5] (c:=[[.aL (r5.map encI)]]) rfl) F λF=>?_
  exact zX (z:=vL _ (g3.1+1,g3.2.1+1,g3.2.2+1) h zW)
 ·intro i3 s3 g3 _ F h;try dsimp only at h
  refine zV ?_;refine zN F h ((0,0):Nat×Nat) [6,8,52,53] (λx=>[(54,.p (.val (.int .i64 ((x.1.1:Nat):Int))))]) [6,2437,2438,2439] (λx H=>[(8,bx (H 8) [(1,.row 2504 x.2.1),(4,.row 2505 x.2.2)]),(2504,.row x.2.1 143 3 (x.1.2.1.map aK)),(2505,.row x.2.2 3 1 (x.1.2.2.map encI))]) ?_ ?_ (hw:=by refine c8.trans (bK 8 1 2504 143 3 _ rfl rfl rfl (by decide)) ?_;refine c8.trans (bK 8 4 2505 3 1 _ rfl rfl rfl (by decide)) ?_;exact zW)
  ·intro i6 s6 g6 _ _ F Ns6 h;try dsimp only at h
   refine zI ak F h λe7 F h=>?_
   refine eD 12 [] ?_;refine vl F h (qk _ _) λr8 h=>?_
   refine vl F h (qk _ _) λr9 h=>?_
   refine nv F h (λF h=>?_) λF h=>?_
   ·exact gJ h
   ·refine zB F h (λF h=>?_) λF h=>?_
    ·exact gJ h
    ·refine zC F h λF h=>?_
     refine dz (s6.2.length+1) 8 F λF=>?_
     refine zF (bt encI s6.2 [e7.id] (c:=[[.val (.int .i64 e7.id)]]) rfl) F λF=>?_
     refine zC F h λF h=>?_
     refine dz (s6.1.length+1) 24 F λF=>?_
     refine zF (bt aK s6.1 [(⟨e7.type,r8,r9⟩:Edge)] (c:=[[.val (.int .i64 e7.type),.val (.int .i64 r8),.val (.int .i64 r9)]]) rfl) F λF=>?_
     exact zX (z:=Ns6 _ (g6.1+1,g6.2+1) h zW)
  ·intro i6 s6 g6 _ F h;try dsimp only at h
   exact gJ h
def j0(a0:ay):Option (List ax) :=
 cz (a0.ah.length<=fuel) <|
 bZ (λi1 (s1:(List ax)) jM tP =>
  thn (a0.ah[i1]?) λe2 =>
  thn (a0.host.graph.ah[i1]?) λe3 =>
  thn (iX a0.nodes e3.src) λe4 =>
  thn (iX a0.nodes e3.dst) λe5 =>
  cz (s1.length+1<=68719476736) <|
  jM (s1++[(⟨e2,e3.type,e4,e5⟩:ax)]))
 (a0.ah.length-0) 0 ([]:List ax) λs1 =>
 some s1
theorem uu(a0:ay)(r:(List ax))(h:j0 a0=some r):bl pw 86 [.agg (az a0)] (λv=>v = .row 125 4 (r.map ak)):=by
 refine bl.qX ?_;refine bz [40] func86 ntmps86 results86 ?_;unfold j0 at h;have F:=trivial;refine zV ?_;refine zN F h (0:Nat) [1,8,9] (λx=>[(3,.row 2570 x.2),(10,.p (.val (.int .i64 ((x.1.1:Nat):Int))))]) [1] (λx H=>[(2570,.row x.2 125 4 (x.1.2.map ak))]) ?_ ?_ (hw:=by refine c8.trans (jm 3 2570 125 4 rfl rfl (by decide)) ?_;exact zW)
 ·intro i1 s1 g1 _ _ F Ns1 h;try dsimp only at h
  refine zI encI F h λe2 F h=>?_
  refine zI aK F h λe3 F h=>?_
  refine zD [.p,.q,.q,.q,.q,.q,.q,.q,.q,.q,.q,.q,.q,.q,.q,.q,.q,.p,.w,.q] ?_;refine zA encI F h λe4 F h=>?_
  refine zA encI F h λe5 F h=>?_
  refine zC F h λF h=>?_
  refine dz (s1.length+1) 32 F λF=>?_
  refine zF (bt ak s1 [(⟨e2,e3.type,e4,e5⟩:ax)] (c:=[[.val (.int .i64 e2),.val (.int .i64 e3.type),.val (.int .i64 e4),.val (.int .i64 e5)]]) rfl) F λF=>?_
  exact zX (z:=Ns1 _ (g1+1) h zW)
 ·intro i1 s1 g1 _ F h;try dsimp only at h
  exact gJ h
def iM(a0:List Int)(a1:Int):Option Int :=
 cz (a0.length<=fuel) <|
 bZ (λi2 (s2:Unit) bT fU =>
  thn (a0[i2]?) λe3 =>
  cond (decide (e3<0)) (
   some 6) <|
  cond (decide (a1<=e3)) (
   some 6) <|
  cond (decide (0<((i2:Nat):Int))) (
   thn (iX a0 (i64.wrap (((i2:Nat):Int)-1))) λe4 =>
   cond (decide (e3<=e4)) (
    some 12) <|
   bT ()) <|
  bT ())
 (a0.length-0) 0 () λs2 =>
 some 0
theorem tR(a0:List Int)(a1:Int)(r:Int)(h:iM a0 a1=some r):aD pw 44 [.aL (a0.map encI),.val (.int .i64 a1)] (λv=>v = .val (.int .i64 r)):=by
 refine aD.gW ?_;refine aF [] func44 ntmps44 results44 ?_;unfold iM at h;have F:=trivial;refine zV ?_;refine zN F h () [0,1,7,8] (λx=>[(9,.p (.val (.int .i64 ((x.1.1:Nat):Int))))]) [] (λx H=>[]) ?_ ?_
 ·intro i2 s2 g2 _ _ F jL h;try dsimp only at h
  refine zI encI F h λe3 F h=>?_
  refine nv F h (λF h=>?_) λF h=>?_
  ·exact zR h
  ·refine zB F h (λF h=>?_) λF h=>?_
   ·exact zR h
   ·refine gx F h (λF h=>?_) λF h=>?_
    ·refine zA encI F h λe4 F h=>?_
     refine zB F h (λF h=>?_) λF h=>?_
     ·exact zR h
     ·exact zX (z:=jL _ () h zW)
    ·exact zX (z:=jL _ () h zW)
 ·intro i2 s2 g2 _ F h;try dsimp only at h
  exact zR h
def ja(a0:List Int)(p1:Int->Option Bool):Option Int :=
 cz (a0.length<=fuel) <|
 bZ (λi2 (s2:Unit) bT fU =>
  thn (a0[i2]?) λe3 =>
  thn (p1 e3) λr4 =>
  cond r4 (
   some ((i2:Nat):Int)) <|
  bT ())
 (a0.length-0) 0 () λs2 =>
 some (-1)
theorem zq(a0:List Int)(p1:Int->Option Bool)(k1:FuncId)(xV xW:List PV)(hp1:∀x0 r,p1 x0=some r->aD pw k1 (xV++[.val (.int .i64 x0)]++xW) (λv=>v = .val (.bool r)))(r:Int)(h:ja a0 p1=some r):aD pw 83 [.aL (a0.map encI),.jk (.func k1) xV xW] (λv=>v = .val (.int .i64 r)):=by
 refine aD.gW ?_;refine aF [] func83 ntmps83 results83 ?_;unfold ja at h;have F:=trivial;refine zV ?_;refine zN F h () [0,1,7] (λx=>[(8,.p (.val (.int .i64 ((x.1.1:Nat):Int))))]) [] (λx H=>[]) ?_ ?_
 ·intro i2 s2 g2 _ _ F jL h;try dsimp only at h
  refine zI encI F h λe3 F h=>?_
  refine zP F h (hp1 _) λr4 h=>?_
  refine zB F h (λF h=>?_) λF h=>?_
  ·exact zR h
  ·exact zX (z:=jL _ () h zW)
 ·intro i2 s2 g2 _ F h;try dsimp only at h
  exact zR h
def cM(a0:List Int)(p1:Int->Option Bool):Option Bool :=
 thn (ja a0 p1) λr2 =>
 some (decide (0<=r2))
theorem fL(a0:List Int)(p1:Int->Option Bool)(k1:FuncId)(xV xW:List PV)(hp1:∀x0 r,p1 x0=some r->aD pw k1 (xV++[.val (.int .i64 x0)]++xW) (λv=>v = .val (.bool r)))(r:Bool)(h:cM a0 p1=some r):aD pw 45 [.aL (a0.map encI),.jk (.func k1) xV xW] (λv=>v = .val (.bool r)):=by
 refine aD.gW ?_;refine aF [] func45 ntmps45 results45 ?_;unfold cM at h;have F:=trivial;refine zK F h (zq _ p1 k1 xV xW hp1) λr2 h=>?_
 exact zR h
def cF(a0:List Int)(a1:Int):Option Bool :=
 thn (iG a0 a1) λr2 =>
 some (decide (0<=r2))
theorem eH(a0:List Int)(a1:Int)(r:Bool)(h:cF a0 a1=some r):aD pw 47 [.aL (a0.map encI),.val (.int .i64 a1)] (λv=>v = .val (.bool r)):=by
 refine aD.gW ?_;refine aF [] func47 ntmps47 results47 ?_;unfold cF at h;have F:=trivial;refine zK F h (qk _ _) λr2 h=>?_
 exact zR h
def lR(a0:Int)(a1:ay):Option Bool :=
 thn (cF a1.nodes a0) λr2 =>
 some r2
theorem aeD(a0:Int)(a1:ay)(r:Bool)(h:lR a0 a1=some r):aD pw 46 [.val (.int .i64 a0),.ez (az a1) 0] (λv=>v = .val (.bool r)):=by
 refine aD.gW ?_;refine aF [] func46 ntmps46 results46 ?_;unfold lR at h;have F:=trivial;refine zK F h (eH _ _) λr2 h=>?_
 exact zR h
def er(a0:Types)(a1:ay):Option Int :=
 thn (nt a0 a1.host) λr2 =>
 cond (decide (r2.2=0)) (
  cond (decide (((a1.nodes.length:Nat):Int)=((a1.host.graph.nodes.length:Nat):Int))) (
   cond (decide (((a1.ah.length:Nat):Int)=((a1.host.graph.ah.length:Nat):Int))) (
    cond (decide (a1.next<0)) (
     some 6) <|
    cond (decide (1000000<a1.next)) (
     some 6) <|
    thn (iM a1.nodes a1.next) λr3 =>
    cond (decide (r3=0)) (
     thn (iM a1.ah a1.next) λr4 =>
     cond (decide (r4=0)) (
      thn (cM a1.ah (λx5=>lR x5 (⟨a1.host,a1.nodes,a1.ah,a1.next⟩:ay))) λr6 =>
      cond r6 (
       some 5) <|
      some 0) <|
     some r4) <|
    some r3) <|
   some 20) <|
  some 20) <|
 some r2.2
theorem lC(a0:Types)(a1:ay)(r:Int)(h:er a0 a1=some r):aD pw 14 [.agg [.aL (a0.nodes.map aB),.aL (a0.ah.map aC)],.agg (az a1)] (λv=>v = .val (.int .i64 r)):=by
 refine aD.gW ?_;refine aF [] func14 ntmps14 results14 ?_;unfold er at h;have F:=trivial;refine zK F h (qZ _ _) λr2 h=>?_
 refine fB F h (λF h=>?_) λF h=>?_
 ·refine gx F h (λF h=>?_) λF h=>?_
  ·refine fB F h (λF h=>?_) λF h=>?_
   ·refine nv F h (λF h=>?_) λF h=>?_
    ·exact zR h
    ·refine zB F h (λF h=>?_) λF h=>?_
     ·exact zR h
     ·refine zK F h (tR _ _) λr3 h=>?_
      refine fB F h (λF h=>?_) λF h=>?_
      ·refine zK F h (tR _ _) λr4 h=>?_
       refine fB F h (λF h=>?_) λF h=>?_
       ·refine zK F h (fL _ (λx5=>lR x5 (⟨a1.host,a1.nodes,a1.ah,a1.next⟩:ay)) 46 [] [.ez (az (⟨a1.host,a1.nodes,a1.ah,a1.next⟩:ay)) 0] (λx5 r h=>aeD x5 (⟨a1.host,a1.nodes,a1.ah,a1.next⟩:ay) r h)) λr6 h=>?_
        refine zB F h (λF h=>?_) λF h=>?_
        ·exact zR h
        ·exact zR h
       ·exact zR h
      ·exact zR h
   ·exact zR h
  ·exact zR h
 ·exact zR h
end
def mh:ay:=⟨⟨⟨[],[]⟩,[]⟩,[],[],0⟩
def iN(t:Types)(a:ay)(p:aQ):Option (ay×Int) :=
 thn (mH p) λe =>
 cond (!decide (e=0)) (some (mh,e)) <|
 thn (giv (a.nodes.length<=a.host.graph.nodes.length/\a.nodes.length<=a.host.values.length/\a.nodes.length<=1000/\(∀l∈a.host.values,l.length<=1000000)/\p.aG.length<=1000/\p.aM.length<=1000/\p.aV.length<=1000/\p.bn.length<=1000/\p.values.length<=1000/\∀n∈p.aG,n.values.length<=1000000) ()) λ_ =>
 thn (j0 a) λes =>
 thn (giv (es.length<=1000) ()) λ_ =>
 cond (!decide (p.next.x0=a.next)) (some (mh,11)) <|
 cond (!((mq (bG a) p.aG 0).1&&(n9 es p.aM 0).1)) (some (mh,11)) <|
 thn (giv ((mq (bG a) p.aG 0).2.1.length<=1000/\(n9 es p.aM 0).2.1.length<=1000) ()) λ_ =>
 cond (!(mu (mq (bG a) p.aG 0).2.1 p.values).1) (some (mh,11)) <|
 thn (giv ((mu (mq (bG a) p.aG 0).2.1 p.values).2.length<=1000/\(iA (mu (mq (bG a) p.aG 0).2.1 p.values).2 (n9 es p.aM 0).2.1 p=false->aj9 aj.id ((mu (mq (bG a) p.aG 0).2.1 p.values).2++p.aV)/\aj9 ax.id ((n9 es p.aM 0).2.1++p.bn))) ()) λ_ =>
 cond (iA (mu (mq (bG a) p.aG 0).2.1 p.values).2 (n9 es p.aM 0).2.1 p) (some (mh,11)) <|
 thn (lQ (qA ((mu (mq (bG a) p.aG 0).2.1 p.values).2++p.aV)) (sg ((n9 es p.aM 0).2.1++p.bn)) p.next.x1) λx =>
 cond (!x.2) (some (mh,1)) <|
 thn (er t x.1) λe2 =>
 cond (!decide (e2=0)) (some (mh,1)) (some (x.1,0))
attribute [go_sem] gm
noncomputable section
def iB(a0:bE):Option bE :=
 cz (a0.nodes.length<=68719476736) <|
 cz (a0.ah.length<=68719476736) <|
 some a0
theorem p8(a0:bE)(r:bE)(h:iB a0=some r):bl pw 38 [.agg [.aL (a0.nodes.map encI),.aL (a0.ah.map aK)]] (λv=>v = .agg [.row 3 1 (r.nodes.map encI),.row 143 3 (r.ah.map aK)]):=by
 refine bl.qX ?_;refine bz [3,6,7,10] func38 ntmps38 results38 ?_;unfold iB at h;have F:=trivial;refine zE [(1,.q),(2,.q),(5,.b),(6,.b),(0,.w),(3,.s),(4,.w),(7,.s),(8,.q),(9,.w)] ?_;refine zC F h λF h=>?_
 refine dz a0.nodes.length 8 F λF=>?_
 refine zF (eq_true (gN (n:=1) (f:=encI) (λ_=>rfl) a0.nodes)) F λF=>?_
 refine zC F h λF h=>?_
 refine dz a0.ah.length 24 F λF=>?_
 refine zF (eq_true (gN (n:=3) (f:=aK) (λ_=>rfl) a0.ah)) F λF=>?_
 exact gJ h
def ck(a0:Host):Option Host :=
 thn (iB a0.graph) λr1 =>
 cz (a0.values.length<=fuel) <|
 bZ (λi2 (s2:(List (List Int))) bT fU =>
  thn (a0.values[i2]?) λe3 =>
  cz (e3.length<=68719476736) <|
  cz (s2.length+1<=68719476736) <|
  bT (s2++[e3]))
 (a0.values.length-0) 0 ([]:List (List Int)) λs2 =>
 some (⟨r1,s2⟩:Host)
theorem l7(a0:Host)(r:Host)(h:ck a0=some r):bl pw 11 [.agg (gm a0)] (λv=>v = .agg [.row 3 1 (r.graph.nodes.map encI),.row 143 3 (r.graph.ah.map aK),.row 26 1 (r.values.map bw)]):=by
 refine bl.qX ?_;refine bz [25,26] func11 ntmps11 results11 ?_;unfold ck at h;have F:=trivial;refine zG 1112 F h (p8 _) λr1 h=>?_
 refine zV ?_;refine zN F h (0:Nat) [1,2,3] (λx=>[(4,.p (.val (.int .i64 ((x.1.1:Nat):Int))))]) [1,2,1112,1113] (λx H=>[(3,bx (H 3) [(2,.row 2089 x.2)]),(2089,.row x.2 26 1 (x.1.2.map bw))]) ?_ ?_ (hw:=by refine c8.trans (bK 3 2 2089 26 1 _ rfl rfl rfl (by decide)) ?_;exact zW)
 ·intro i2 s2 g2 _ _ F jL h;try dsimp only at h
  refine zE [(0,.p),(2,.p),(1,.b),(3,.q),(4,.q),(5,.q),(6,.q),(7,.q),(8,.w),(9,.w),(10,.w),(11,.q),(12,.w)] ?_;refine zI bw F h λe3 F h=>?_
  refine zC F h λF h=>?_
  refine dz e3.length 8 F λF=>?_
  refine zF (eq_true (gN (n:=1) (f:=encI) (λ_=>rfl) e3)) F λF=>?_
  refine zC F h λF h=>?_
  refine dz (s2.length+1) 24 F λF=>?_
  refine zF (bt bw s2 [e3] (c:=[[.aL (e3.map encI)]]) rfl) F λF=>?_
  exact zX (z:=jL _ (g2+1) h zW)
 ·intro i2 s2 g2 _ F h;try dsimp only at h
  exact gJ h
def cm(a0:ay):Option ay :=
 thn (ck a0.host) λr1 =>
 cz (a0.nodes.length<=68719476736) <|
 cz (a0.ah.length<=68719476736) <|
 some (⟨r1,a0.nodes,a0.ah,a0.next⟩:ay)
theorem jF(a0:ay)(r:ay)(h:cm a0=some r):bl pw 15 [.agg (az a0)] (λv=>v = .agg [.row 3 1 (r.host.graph.nodes.map encI),.row 143 3 (r.host.graph.ah.map aK),.row 26 1 (r.host.values.map bw),.row 3 1 (r.nodes.map encI),.row 3 1 (r.ah.map encI),.p (.val (.int .i64 r.next))]):=by
 refine bl.qX ?_;refine bz [6,9,10,13] func15 ntmps15 results15 ?_;unfold cm at h;have F:=trivial;refine zE [(0,.q),(1,.q),(4,.q),(5,.q),(8,.b),(9,.b),(11,.b),(12,.b),(2,.f),(3,.w),(6,.s),(7,.w),(10,.s),(13,.q),(14,.w)] ?_;refine zH 1080 F h (l7 _) λr1 h=>?_
 refine zC F h λF h=>?_
 refine dz a0.nodes.length 8 F λF=>?_
 refine zF (eq_true (gN (n:=1) (f:=encI) (λ_=>rfl) a0.nodes)) F λF=>?_
 refine zC F h λF h=>?_
 refine dz a0.ah.length 8 F λF=>?_
 refine zF (eq_true (gN (n:=1) (f:=encI) (λ_=>rfl) a0.ah)) F λF=>?_
 exact gJ h
end
def pO(l:List Int)(n:Int):Option (List Int):=giv (0<=n/\n<=1000000/\l.length=1) (replicate n.toNat (l.getD 0 0))
def w5(l:List Int):Option (List Int):=giv (l.length<=1000000) (l.mergeSort λx y=>decide (x<=y))
theorem aeE(v:Nat)(l r:List Int)(h:w5 l=some r):mb pw 320 v 3 1 (l.map encI) [] (λa c=>a = .dH []/\c=some (.row v 3 1 (r.map encI))):=by obtain⟨h1,rfl⟩:=pz h;exact Go.SortM.callM_sortInt sortInt (by kernel_rfl) l (by omega) v 3
def tS(l:List Int):Option (List Int):=giv (l.length<=1000000) (Lib.compact l)
theorem abv(v:Nat)(l r:List Int)(h:tS l=some r):mb pw 283 v 3 1 (l.map encI) [] (λa c=>a = .row 1000000 (v+1)/\c=some (.row (v+1) 3 1 (r.map encI))):=by obtain⟨h1,rfl⟩:=pz h;exact Go.SortM.callM_compactInt aqD (by kernel_rfl) l (by omega) v 3
attribute [go_sem] aS sK uX encS yq eG dw vK iL fc oJ oJ jx bQ sL cI gr kX cQ gX mY
noncomputable section
def lp  : Option Types:=some (⟨[(⟨⟨#[65,99,99,111,117,110,116]⟩,(-1),true,[(⟨⟨#[98,97,108,97,110,99,101]⟩,(-1000),1000,[]⟩:Attr)]⟩:iy),(⟨⟨#[67,97,115,104]⟩,0,false,[]⟩:iy),(⟨⟨#[76,111,97,110]⟩,0,false,[(⟨⟨#[115,116,97,116,101]⟩,0,1,[(⟨#[111,112,101,110]⟩:ByteArray),(⟨#[99,108,111,115,101,100]⟩:ByteArray)]⟩:Attr)]⟩:iy),(⟨⟨#[80,101,114,115,111,110]⟩,(-1),false,[]⟩:iy)],[(⟨⟨#[111,119,110,115]⟩,3,0,0,(-1),1,1⟩:nW),(⟨⟨#[112,97,121,115]⟩,1,1,0,(-1),0,(-1)⟩:nW)]⟩:Types)
def kG(a0:Host):Option Host :=
 thn (cZ a0.graph.nodes) λr1 =>
 thn (j9 a0.graph.ah) λr2 =>
 cz (a0.values.length<=fuel) <|
 bZ (λi3 (s3:(List (List Int))) gE oK =>
  thn (a0.values[i3]?) λe4 =>
  thn (cZ e4) λr5 =>
  cz (s3.length+1<=68719476736) <|
  gE (s3++[r5]))
 (a0.values.length-0) 0 ([]:List (List Int)) λs3 =>
 some (⟨⟨r1,r2⟩,s3⟩:Host)
def jT(a0:Int)(a1:Int):Option (List Int) :=
 cz (a1.toNat<=fuel) <|
 bZ (λi2 (s2:(List Int)) bT fU =>
  cz (s2.length+1<=68719476736) <|
  bT (s2++[(i64.wrap (a0+((i2:Nat):Int)))]))
 (a1.toNat-0) 0 ([]:List Int) λs2 =>
 some s2
def nP(a0:Types)(a1:Host):Option (ay×Int) :=
 thn (lY a0) λr2 =>
 cond (decide (r2.2=0)) (
  thn (nt a0 a1) λr4 =>
  cond (decide (r4.2=0)) (
   thn (kG a1) λr3 =>
   thn (jT 0 ((a1.graph.nodes.length:Nat):Int)) λr5 =>
   thn (jT ((a1.graph.nodes.length:Nat):Int) ((a1.graph.ah.length:Nat):Int)) λr6 =>
   some ((⟨r3,r5,r6,(i64.wrap (((a1.graph.nodes.length:Nat):Int)+((a1.graph.ah.length:Nat):Int)))⟩:ay),0)) <|
  some ((⟨(⟨(⟨([]:List Int),([]:List Edge)⟩:bE),([]:List (List Int))⟩:Host),([]:List Int),([]:List Int),0⟩:ay),r4.2)) <|
 some ((⟨⟨⟨[],[]⟩,[]⟩,[],[],0⟩:ay),r2.2)
def mw(a0:Int)(a1:Types):Option Bool:=some (decide (((a1.nodes.length:Nat):Int)<=a0))
def mI(a0:List Edge)(p1:Edge->Option Bool):Option Int :=
 cz (a0.length<=fuel) <|
 bZ (λi2 (s2:Unit) bT fU =>
  thn (a0[i2]?) λe3 =>
  thn (p1 e3) λr4 =>
  cond r4 (
   some ((i2:Nat):Int)) <|
  bT ())
 (a0.length-0) 0 () λs2 =>
 some (-1)
def gF(a0:List Edge)(p1:Edge->Option Bool):Option Bool :=
 thn (mI a0 p1) λr2 =>
 some (decide (0<=r2))
def mz(a0:Edge)(a1:Types):Option Bool:=some (decide (((a1.ah.length:Nat):Int)<=a0.type))
def iH(a0:Int)(a1:Int)(a2:Int):Option Bool :=
 cond (decide (a1<=a0)) (
  some (decide (a0<=a2))) <|
 some false
def sO(a0:Types)(a1:bL)(a2:fI):Option (Attr×Bool) :=
 thn (iH a2.node 0 (i64.wrap (((a1.graph.nodes.length:Nat):Int)-1))) λr3 =>
 cond r3 (
  thn (iX a1.graph.nodes a2.node) λe4 =>
  thn (th a0 e4) λr5 =>
  thn (iH a2.attr 0 (i64.wrap (((r5.1.length:Nat):Int)-1))) λr6 =>
  cond r6 (
   thn (iX r5.1 a2.attr) λe7 =>
   some (e7,true)) <|
  some ((⟨(⟨#[]⟩:ByteArray),0,0,([]:List ByteArray)⟩:Attr),false)) <|
 some ((⟨⟨#[]⟩,0,0,[]⟩:Attr),false)
def jU(a0:Int)(a1:adN):Option Bool :=
 cond (decide ((-1)<=a1.var)) (
  cond (decide (a1.var<a0)) (
   cond (decide ((-1000000)<=a1.add)) (
    some (decide (a1.add<=1000000))) <|
   some false) <|
  some false) <|
 some false
def sP(a0:Int)(a1:iT):Option Int :=
 cond (decide (a1.kind=1)) (
  thn (jU a0 a1.left) λr2 =>
  cond r2 (
   thn (jU a0 a1.right) λr3 =>
   cond r3 (
    some 0) <|
   some 6) <|
  some 6) <|
 cond (decide (a1.kind=2)) (
  thn (jU a0 a1.left) λr4 =>
  cond r4 (
   thn (jU a0 a1.right) λr5 =>
   cond r5 (
    some 0) <|
   some 6) <|
  some 6) <|
 some 1
def ql(a0:Int)(a1:List iT):Option Int :=
 cond (decide (a0<0)) (
  some 6) <|
 cond (decide (12<a0)) (
  some 6) <|
 cond (decide (40<((a1.length:Nat):Int))) (
  some 3) <|
 cz (a1.length<=fuel) <|
 bZ (λi2 (s2:Unit) bT fU =>
  thn (a1[i2]?) λe3 =>
  thn (sP a0 e3) λr4 =>
  cond (decide (r4=0)) (
   bT ()) <|
  some r4)
 (a1.length-0) 0 () λs2 =>
 some 0
def pP(a0:List Bool)(a1:Bool):Option Int :=
 cz (a0.length<=fuel) <|
 bZ (λi2 (s2:Unit) bT fU =>
  thn (a0[i2]?) λe3 =>
  cond (a1 == e3) (
   some ((i2:Nat):Int)) <|
  bT ())
 (a0.length-0) 0 () λs2 =>
 some (-1)
def nw(a0:List Bool)(a1:Bool):Option Bool :=
 thn (pP a0 a1) λr2 =>
 some (decide (0<=r2))
def jV(a0:Types)(a1:bL):Option Int :=
 thn (lY a0) λr2 =>
 cond (decide (r2.2=0)) (
  thn (lZ a1.graph) λr3 =>
  cond (decide (r3=0)) (
   thn (cM a1.graph.nodes (λx4=>mw x4 a0)) λr5 =>
   cond r5 (
    some 13) <|
   thn (gF a1.graph.ah (λx6=>mz x6 a0)) λr7 =>
   cond r7 (
    some 13) <|
   thn (iH a1.vars 0 12) λr8 =>
   cond r8 (
    cond (decide (10<((a1.slots.length:Nat):Int))) (
     some 3) <|
    cond (decide (10<((a1.tests.length:Nat):Int))) (
     some 3) <|
    cz (0<=a1.vars/\a1.vars<=68719476736) <|
    cz (a1.slots.length<=fuel) <|
    bZ (λi9 (s9:(List Bool)) vM abw =>
     thn (a1.slots[i9]?) λpE =>
     thn (sO a0 a1 pE) λw6 =>
     cond w6.2 (
      thn (iH pE.term.var (-1) (i64.wrap (a1.vars-1))) λy5 =>
      cond y5 (
       thn (iH pE.term.add (-1000000) 1000000) λr13 =>
       cond r13 (
        cond (decide (0<=pE.term.var)) (
         thn (iX s9 pE.term.var) λe14 =>
         vM (s9.set pE.term.var.toNat true)) <|
        vM s9) <|
       some 6) <|
      some 6) <|
     some 6)
    (a1.slots.length-0) 0 (replicate a1.vars.toNat false) λs9 =>
    thn (ql a1.vars a1.tests) λr15 =>
    cond (decide (r15=0)) (
     thn (nw s9 false) λr16 =>
     cond r16 (
      some 9) <|
     some 0) <|
    some r15) <|
   some 6) <|
  some r3) <|
 some r2.2
def ry(a0:Int)(a1:Types):Option Bool:=some (decide (((a1.nodes.length:Nat):Int)<=a0))
def rz(a0:Edge)(a1:Types):Option Bool:=some (decide (((a1.ah.length:Nat):Int)<=a0.type))
def zu(a0:Types)(a1:bE):Option Bool :=
 thn (cM a1.nodes (λx2=>ry x2 (⟨a0.nodes,a0.ah⟩:Types))) λr3 =>
 cond r3 (
  some false) <|
 thn (gF a1.ah (λx4=>rz x4 (⟨a0.nodes,a0.ah⟩:Types))) λr5 =>
 some (!r5)
def mJ(a0:List fI)(p1:fI->Option Bool):Option Int :=
 cz (a0.length<=fuel) <|
 bZ (λi2 (s2:Unit) bT fU =>
  thn (a0[i2]?) λe3 =>
  thn (p1 e3) λr4 =>
  cond r4 (
   some ((i2:Nat):Int)) <|
  bT ())
 (a0.length-0) 0 () λs2 =>
 some (-1)
def jb(a0:List fI)(p1:fI->Option Bool):Option Bool :=
 thn (mJ a0 p1) λr2 =>
 some (decide (0<=r2))
def tj(a0:fI)(a1:fI):Option Bool :=
 cond (decide (a0.node=a1.node)) (
  some (decide (a0.attr=a1.attr))) <|
 some false
def abx(a0:Types)(a1:gf)(a2:Int):Option Int :=
 thn (iX a1.right.slots a2) λe3 =>
 cond (decide (e3.node<0)) (
  some 6) <|
 cond (decide (((a1.right.graph.nodes.length:Nat):Int)<=e3.node)) (
  some 6) <|
 thn (iX a1.right.graph.nodes e3.node) λe4 =>
 thn (th a0 e4) λr5 =>
 cond (decide (e3.attr<0)) (
  some 6) <|
 cond (decide (((r5.1.length:Nat):Int)<=e3.attr)) (
  some 6) <|
 cond (decide (e3.term.var<(-1))) (
  some 6) <|
 cond (decide (a1.right.vars<=e3.term.var)) (
  some 6) <|
 cond (decide (e3.term.add<(-1000000))) (
  some 6) <|
 cond (decide (1000000<e3.term.add)) (
  some 6) <|
 cz ((0:Int)<=0/\0<=a2/\a2<=(a1.right.slots.length:Int)) <|
 thn (jb (a1.right.slots.take a2.toNat) (λx6=>tj x6 e3)) λr7 =>
 cond r7 (
  some 5) <|
 some 0
def zv(a0:Types)(a1:gf):Option Int :=
 thn (lZ a1.right.graph) λr2 =>
 cond (decide (r2=0)) (
  thn (zu (⟨a0.nodes,a0.ah⟩:Types) a1.right.graph) λr3 =>
  cond r3 (
   cond (decide (a1.right.vars=a1.left.vars)) (
    cond (decide (0<((a1.right.tests.length:Nat):Int))) (
     some 1) <|
    cond (decide (10<((a1.right.slots.length:Nat):Int))) (
     some 3) <|
    cz (a1.right.slots.length<=fuel) <|
    bZ (λi4 (s4:Unit) aeF aoo =>
     thn (abx (⟨a0.nodes,a0.ah⟩:Types) (⟨a1.name,a1.left,a1.right,a1.keep,a1.into,a1.injective,a1.condition⟩:gf) ((i4:Nat):Int)) λr5 =>
     cond (decide (r5=0)) (
      aeF ()) <|
     some r5)
    (a1.right.slots.length-0) 0 () λs4 =>
    some 0) <|
   some 1) <|
  some 13) <|
 some r2
def qe(a0:List Int)(a1:Int):Option Int :=
 cz (a0.length<=fuel) <|
 bZ (λi2 (s2:Unit) bT fU =>
  thn (a0[i2]?) λe3 =>
  cond (decide (e3<0)) (
   some 6) <|
  cond (decide (a1<=e3)) (
   some 6) <|
  cond (decide (0<((i2:Nat):Int))) (
   thn (iX a0 (i64.wrap (((i2:Nat):Int)-1))) λe4 =>
   cond (decide (e3<=e4)) (
    some 12) <|
   bT ()) <|
  bT ())
 (a0.length-0) 0 () λs2 =>
 some 0
def vN(a0:Int)(a1:Int):Option Bool :=
 thn (gH a0) λr2 =>
 cond r2 (
  thn (gH a1) λr3 =>
  cond r3 (
   some (decide (a0<a1))) <|
  some true) <|
 some (decide (a0<a1))
def ny(a0:Int):Option Bool:=some (!(decide (a0=a0)))
def fM(a0:List Int)(a1:Int):Option (Int×Bool) :=
 iter (λ(s2:Int×Int) bT fU =>
  cond (decide (s2.1<s2.2)) (
   thn (iX a0 (i64.wrap ((IntKind.u64.wrap (i64.wrap (s2.1+s2.2))).fdiv (2 ^ 1)))) λe3 =>
   thn (vN e3 a1) λr4 =>
   cond r4 (
    bT ((i64.wrap ((i64.wrap ((IntKind.u64.wrap (i64.wrap (s2.1+s2.2))).fdiv (2 ^ 1)))+1)),s2.2)) <|
   bT (s2.1,(i64.wrap ((IntKind.u64.wrap (i64.wrap (s2.1+s2.2))).fdiv (2 ^ 1))))) <|
  fU (s2.1,s2.2))
 fuel (0,((a0.length:Nat):Int)) λs2 =>
 cond (decide (s2.1<((a0.length:Nat):Int))) (
  thn (iX a0 s2.1) λe5 =>
  cond (decide (e5=a1)) (
   some (s2.1,true)) <|
  thn (ny e5) λr6 =>
  cond r6 (
   thn (ny a1) λr7 =>
   some (s2.1,r7)) <|
  some (s2.1,false)) <|
 some (s2.1,false)
def rA(a0:List Int)(a1:Int):Option Bool :=
 thn (fM a0 a1) λr2 =>
 some r2.2
def uv(a0:bE)(a1:jZ):Option Int :=
 thn (qe a1.nodes ((a0.nodes.length:Nat):Int)) λr2 =>
 cond (decide (r2=0)) (
  thn (qe a1.ah ((a0.ah.length:Nat):Int)) λr3 =>
  cond (decide (r3=0)) (
   cz (a1.ah.length<=fuel) <|
   bZ (λi4 (s4:Unit) aeF aoo =>
    thn (a1.ah[i4]?) λe5 =>
    thn (iX a0.ah e5) λe6 =>
    thn (rA a1.nodes e6.src) λr7 =>
    cond r7 (
     thn (rA a1.nodes e6.dst) λr8 =>
     cond r8 (
      aeF ()) <|
     some 14) <|
    some 14)
   (a1.ah.length-0) 0 () λs4 =>
   some 0) <|
  some r3) <|
 some r2
def o5(a0:bE)(a1:jZ):Option Int :=
 thn (lZ a0) λr2 =>
 cond (decide (r2=0)) (
  thn (uv (⟨a0.nodes,a0.ah⟩:bE) (⟨a1.nodes,a1.ah⟩:jZ)) λr3 =>
  some r3) <|
 some r2
def qm(a0:bE)(a1:jZ):Option (bE×aY×Int) :=
 thn (o5 a0 a1) λr2 =>
 cond (decide (r2=0)) (
  cz (a1.nodes.length<=fuel) <|
  bZ (λi3 (s3:(List Int)) gE oK =>
   thn (a1.nodes[i3]?) λe4 =>
   thn (iX a0.nodes e4) λe5 =>
   cz (s3.length+1<=68719476736) <|
   gE (s3++[e5]))
  (a1.nodes.length-0) 0 ([]:List Int) λs3 =>
  cz (a1.ah.length<=fuel) <|
  bZ (λi6 (s6:(List Edge)) tQ akb =>
   thn (a1.ah[i6]?) λe7 =>
   thn (iX a0.ah e7) λe8 =>
   thn (fM a1.nodes e8.src) λr9 =>
   thn (fM a1.nodes e8.dst) λtT =>
   cz (s6.length+1<=68719476736) <|
   tQ (s6++[(⟨e8.type,r9.1,tT.1⟩:Edge)]))
  (a1.ah.length-0) 0 ([]:List Edge) λs6 =>
  thn (cZ a1.nodes) λw6 =>
  thn (cZ a1.ah) λy5 =>
  some ((⟨s3,s6⟩:bE),(⟨w6,y5⟩:aY),0)) <|
 some ((⟨[],[]⟩:bE),(⟨[],[]⟩:aY),r2)
def kH(a0:bE)(a1:bE)(a2:aY):Option Int :=
 thn (lZ a0) λr3 =>
 cond (decide (r3=0)) (
  thn (lZ a1) λr4 =>
  cond (decide (r4=0)) (
   cond (decide (((a2.nodes.length:Nat):Int)=((a0.nodes.length:Nat):Int))) (
    cond (decide (((a2.ah.length:Nat):Int)=((a0.ah.length:Nat):Int))) (
     cz (a2.nodes.length<=fuel) <|
     bZ (λi5 (s5:Unit) oL xb =>
      thn (a2.nodes[i5]?) λe6 =>
      cond (decide (e6<0)) (
       some 6) <|
      cond (decide (((a1.nodes.length:Nat):Int)<=e6)) (
       some 6) <|
      thn (iX a1.nodes e6) λe7 =>
      thn (a0.nodes[i5]?) λe8 =>
      cond (decide (e7=e8)) (
       oL ()) <|
      some 13)
     (a2.nodes.length-0) 0 () λs5 =>
     cz (a2.ah.length<=fuel) <|
     bZ (λi9 (s9:Unit) vM abw =>
      thn (a2.ah[i9]?) λpE =>
      cond (decide (pE<0)) (
       some 6) <|
      cond (decide (((a1.ah.length:Nat):Int)<=pE)) (
       some 6) <|
      thn (a0.ah[i9]?) λe11 =>
      thn (iX a1.ah pE) λe12 =>
      cond (decide (e11.type=e12.type)) (
       thn (iX a2.nodes e11.src) λe13 =>
       cond (decide (e13=e12.src)) (
        thn (iX a2.nodes e11.dst) λe14 =>
        cond (decide (e14=e12.dst)) (
         vM ()) <|
        some 11) <|
       some 11) <|
      some 13)
     (a2.ah.length-0) 0 () λs9 =>
     some 0) <|
    some 20) <|
   some 20) <|
  some r4) <|
 some r3
def oc(a0:List Int):Option Int :=
 thn (cZ a0) λr1 =>
 thn (w5 r1) λr2 =>
 thn (tS r2) λr3 =>
 some ((r3.length:Nat):Int)
def lS(a0:bE)(a1:bE)(a2:aY):Option Bool :=
 thn (kH (⟨a0.nodes,a0.ah⟩:bE) a1 a2) λr3 =>
 cond (decide (r3=0)) (
  thn (oc a2.nodes) λr4 =>
  cond (decide (r4=((a2.nodes.length:Nat):Int))) (
   thn (oc a2.ah) λr5 =>
   some (decide (r5=((a2.ah.length:Nat):Int)))) <|
  some false) <|
 some false
def aby(a0:gf):Option Int :=
 thn (qm a0.left.graph a0.keep) λr1 =>
 cond (decide (r1.2.2=0)) (
  thn (kH r1.1 a0.right.graph a0.into) λr2 =>
  cond (decide (r2=0)) (
   thn (lS r1.1 a0.right.graph a0.into) λr3 =>
   cond r3 (
    some 0) <|
   some 11) <|
  some r2) <|
 some r1.2.2
def tq(a0:List Int)(a1:Int):Option (List Int) :=
 cz (a1.toNat<=fuel) <|
 bZ (λi2 (s2:(List Int)) bT fU =>
  thn (cF a0 ((i2:Nat):Int)) λr3 =>
  cond r3 (
   bT s2) <|
  cz (s2.length+1<=68719476736) <|
  bT (s2++[((i2:Nat):Int)]))
 (a1.toNat-0) 0 ([]:List Int) λs2 =>
 some s2
def vO(a0:gf):Option ((List Int)×(List Int)) :=
 thn (tq a0.into.nodes ((a0.right.graph.nodes.length:Nat):Int)) λr1 =>
 thn (tq a0.into.ah ((a0.right.graph.ah.length:Nat):Int)) λr2 =>
 some (r1,r2)
def o6(a0:Int)(a1:Types)(a2:bE):Option Bool :=
 thn (iX a2.nodes a0) λe3 =>
 thn (iX a1.nodes e3) λe4 =>
 some e4.abs
def o7(a0:Int)(a1:bE)(a2:Types):Option Bool :=
 thn (iX a1.ah a0) λe3 =>
 thn (iX a1.nodes e3.src) λe4 =>
 thn (iX a1.nodes e3.dst) λe5 =>
 thn (aez a2 e3.type e4 e5) λr6 =>
 some (!r6)
def vP(a0:Types)(a1:bE)(a2:List Int)(a3:List Int):Option Bool :=
 thn (cM a2 (λx4=>o6 x4 (⟨a0.nodes,a0.ah⟩:Types) (⟨a1.nodes,a1.ah⟩:bE))) λr5 =>
 cond r5 (
  some false) <|
 thn (cM a3 (λx6=>o7 x6 a1 (⟨a0.nodes,a0.ah⟩:Types))) λr7 =>
 some (!r7)
def kI(a0:aT):Option Bool :=
 cond (decide ((i64.wrap ((i64.wrap ((i64.wrap ((i64.wrap ((i64.wrap (((a0.map.nodes.length:Nat):Int)+((a0.map.ah.length:Nat):Int)))+((a0.pattern.graph.nodes.length:Nat):Int)))+((a0.pattern.graph.ah.length:Nat):Int)))+((a0.pattern.slots.length:Nat):Int)))+((a0.pattern.tests.length:Nat):Int)))=0)) (
  some (decide (a0.pattern.vars=0))) <|
 some false
def j4(a0:List aT)(p1:aT->Option Bool):Option Int :=
 cz (a0.length<=fuel) <|
 bZ (λi2 (s2:Unit) bT fU =>
  thn (a0[i2]?) λe3 =>
  thn (p1 e3) λr4 =>
  cond r4 (
   some ((i2:Nat):Int)) <|
  bT ())
 (a0.length-0) 0 () λs2 =>
 some (-1)
def dc(a0:List aT)(p1:aT->Option Bool):Option Bool :=
 thn (j4 a0 p1) λr2 =>
 some (decide (0<=r2))
def cq(aB5:aT->Option Bool)(a0:aT):Option Bool :=
 thn (aB5 a0) λr2 =>
 some (!r2)
def bI:Nat->aT ->  Option Bool
  |0,_=>none
  |n+1,a0 =>
    cond (decide (a0.kind=1)) (
     cond (decide (((a0.kids.length:Nat):Int)=0)) (
      thn (kI a0) λr1 =>
      cond r1 (
       thn (dc a0.kids (λx2=>cq (λy0=>bI n y0) x2)) λr3 =>
       some (!r3)) <|
      some false) <|
     some false) <|
    cond (decide (a0.kind=2)) (
     cond (decide (((a0.kids.length:Nat):Int)=1)) (
      thn (kI a0) λr4 =>
      cond r4 (
       thn (dc a0.kids (λx5=>cq (λy0=>bI n y0) x5)) λr6 =>
       some (!r6)) <|
      some false) <|
     some false) <|
    cond (decide (a0.kind=3)) (
     cond (decide (1<=((a0.kids.length:Nat):Int))) (
      thn (kI a0) λr7 =>
      cond r7 (
       thn (dc a0.kids (λx8=>cq (λy0=>bI n y0) x8)) λr9 =>
       some (!r9)) <|
      some false) <|
     some false) <|
    cond (decide (a0.kind=4)) (
     cond (decide (1<=((a0.kids.length:Nat):Int))) (
      thn (kI a0) λtT =>
      cond tT (
       thn (dc a0.kids (λx11=>cq (λy0=>bI n y0) x11)) λy5 =>
       some (!y5)) <|
      some false) <|
     some false) <|
    cond (decide (a0.kind=5)) (
     cond (decide (((a0.kids.length:Nat):Int)=1)) (
      thn (dc a0.kids (λx13=>cq (λy0=>bI n y0) x13)) λr14 =>
      some (!r14)) <|
     some false) <|
    some false
def mA:Nat->aT ->  Option (Int×Int)
  |0,_=>none
  |n+1,a0 =>
    cz (a0.kids.length<=fuel) <|
    bZ (λi1 (s1:Int×Int) jM tP =>
     thn (a0.kids[i1]?) λe2 =>
     thn (mA n e2) λr3 =>
     jM ((i64.wrap (s1.1+r3.1)),(max s1.2 r3.2)))
    (a0.kids.length-0) 0 (1,0) λs1 =>
    cond (decide (a0.kind=5)) (
     some (s1.1,(i64.wrap (s1.2+1)))) <|
    some (s1.1,s1.2)
def rB(a0:aT):Option Int :=
 thn (bI fuel a0) λr1 =>
 cond r1 (
  thn (mA fuel a0) λr2 =>
  cond (decide (12<r2.1)) (
   some 3) <|
  cond (decide (3<r2.2)) (
   some 3) <|
  some 0) <|
 some 1
def kY(a0:fI)(a1:Int):Option Bool:=some (decide (a0.term.var=a1))
def pQ(a0:Types)(a1:bL)(a2:Int):Option Int :=
 thn (jV a0 a1) λr3 =>
 cond (decide (r3=9)) (
  iter (λ(s4:Int) aeF aoo =>
   cond (decide (s4<a1.vars)) (
    thn (jb a1.slots (λx5=>kY x5 s4)) λr6 =>
    cond r6 (
     aeF (i64.wrap (s4+1))) <|
    some r3) <|
   aoo s4)
  fuel a2 λs4 =>
  some 0) <|
 some r3
def kQ:Nat->Types->bL->aT ->  Option Int
  |0,_,_,_=>none
  |n+1,a0,a1,a2 =>
    cond (decide (a2.kind=5)) (
     cond (decide (a2.pattern.vars<a1.vars)) (
      some 20) <|
     thn (pQ a0 a2.pattern a1.vars) λr3 =>
     cond (decide (r3=0)) (
      thn (kH a1.graph a2.pattern.graph a2.map) λr4 =>
      cond (decide (r4=0)) (
       thn (lS a1.graph a2.pattern.graph a2.map) λr5 =>
       cond r5 (
        cz (a2.kids.length<=fuel) <|
        bZ (λi6 (s6:Unit) tQ akb =>
         thn (a2.kids[i6]?) λe7 =>
         thn (kQ n a0 a2.pattern e7) λr8 =>
         cond (decide (r8=0)) (
          tQ ()) <|
         some r8)
        (a2.kids.length-0) 0 () λs6 =>
        some 0) <|
       some 1) <|
      some r4) <|
     some r3) <|
    cz (a2.kids.length<=fuel) <|
    bZ (λi9 (s9:Unit) vM abw =>
     thn (a2.kids[i9]?) λpE =>
     thn (kQ n a0 a1 pE) λw6 =>
     cond (decide (w6=0)) (
      vM ()) <|
     some w6)
    (a2.kids.length-0) 0 () λs9 =>
    some 0
def od(a0:Types)(a1:bL)(a2:aT):Option Int :=
 thn (jV a0 a1) λr3 =>
 cond (decide (r3=0)) (
  thn (rB a2) λr4 =>
  cond (decide (r4=0)) (
   thn (kQ fuel a0 a1 a2) λr5 =>
   some r5) <|
  some r4) <|
 some r3
def zw(a0:Types)(a1:gf):Option Int :=
 thn (lY a0) λr2 =>
 cond (decide (r2.2=0)) (
  thn (abu a1.name) λr3 =>
  cond r3 (
   thn (jV (⟨a0.nodes,a0.ah⟩:Types) a1.left) λr4 =>
   cond (decide (r4=0)) (
    thn (zv (⟨a0.nodes,a0.ah⟩:Types) (⟨a1.name,a1.left,a1.right,a1.keep,a1.into,a1.injective,a1.condition⟩:gf)) λr5 =>
    cond (decide (r5=0)) (
     thn (aby (⟨a1.name,a1.left,a1.right,a1.keep,a1.into,a1.injective,a1.condition⟩:gf)) λr6 =>
     cond (decide (r6=0)) (
      thn (vO (⟨a1.name,a1.left,a1.right,a1.keep,a1.into,a1.injective,a1.condition⟩:gf)) λr7 =>
      thn (vP (⟨a0.nodes,a0.ah⟩:Types) a1.right.graph r7.1 r7.2) λr8 =>
      cond r8 (
       thn (od a0 a1.left a1.condition) λr9 =>
       some r9) <|
      some 13) <|
     some r6) <|
    some r5) <|
   some r4) <|
  some 2) <|
 some r2.2
def zx(a0:Types)(a1:gf)(a2:Host):Option Int :=
 thn (lY a0) λr3 =>
 cond (decide (r3.2=0)) (
  thn (zw a0 (⟨a1.name,a1.left,a1.right,a1.keep,a1.into,a1.injective,a1.condition⟩:gf)) λr4 =>
  cond (decide (r4=0)) (
   thn (nt a0 (⟨a2.graph,a2.values⟩:Host)) λr5 =>
   some r5.2) <|
  some r4) <|
 some r3.2
def oe(a0:Int)(a1:Types):Option Bool:=some (decide (((a1.nodes.length:Nat):Int)<=a0))
def og(a0:Edge)(a1:Types):Option Bool:=some (decide (((a1.ah.length:Nat):Int)<=a0.type))
def qf(a0:Types)(a1:bE):Option Bool :=
 thn (cM a1.nodes (λx2=>oe x2 (⟨a0.nodes,a0.ah⟩:Types))) λr3 =>
 cond r3 (
  some false) <|
 thn (gF a1.ah (λx4=>og x4 (⟨a0.nodes,a0.ah⟩:Types))) λr5 =>
 some (!r5)
def rC(a0:Types)(a1:bE)(a2:bE):Option Int :=
 thn (lY a0) λr3 =>
 cond (decide (r3.2=0)) (
  thn (some [a1,a2]) λl4 =>
  cz (2<=fuel) <|
  bZ (λi5 (s5:Unit) oL xb =>
   thn (l4[i5]?) λe6 =>
   thn (lZ e6) λr7 =>
   cond (decide (r7=0)) (
    oL ()) <|
   some r7)
  (2-0) 0 () λs5 =>
  thn (qf (⟨a0.nodes,a0.ah⟩:Types) (⟨a1.nodes,a1.ah⟩:bE)) λr8 =>
  cond r8 (
   thn (qf (⟨a0.nodes,a0.ah⟩:Types) a2) λr9 =>
   cond r9 (
    some 0) <|
   some 13) <|
  some 13) <|
 some r3.2
def xQ(a0:Types)(a1:Int):Option ((List Int)×Int) :=
 thn (adg a0 [a1]) λr2 =>
 cond (decide (r2=0)) (
  cz (a0.nodes.length<=fuel) <|
  bZ (λi3 (s3:(List Int)) gE oK =>
   thn (ahZ a0 ((i3:Nat):Int) a1) λr4 =>
   cond r4 (
    cz (s3.length+1<=68719476736) <|
    gE (s3++[((i3:Nat):Int)])) <|
   gE s3)
  (a0.nodes.length-0) 0 ([]:List Int) λs3 =>
  some (s3,0)) <|
 some (([]:List Int),r2)
def vQ(a0:Types):Option (List (List Bool)) :=
 cz (a0.nodes.length<=fuel) <|
 bZ (λi1 (s1:(List (List Bool))) jM tP =>
  cz (a0.nodes.length<=68719476736) <|
  thn (xQ a0 ((i1:Nat):Int)) λr2 =>
  cz (r2.1.length<=fuel) <|
  bZ (λi3 (s3:(List Bool)) gE oK =>
   thn (r2.1[i3]?) λe4 =>
   thn (iX s3 e4) λe5 =>
   gE (s3.set e4.toNat true))
  (r2.1.length-0) 0 (replicate a0.nodes.length false) λs3 =>
  cz (s1.length+1<=68719476736) <|
  jM (s1++[s3]))
 (a0.nodes.length-0) 0 ([]:List (List Bool)) λs1 =>
 some s1
def rD(a0:Types)(a1:bE)(a2:bE)(a3:aY):Option Int :=
 cond (decide (((a3.nodes.length:Nat):Int)=((a1.nodes.length:Nat):Int))) (
  cond (decide (((a3.ah.length:Nat):Int)=((a1.ah.length:Nat):Int))) (
   thn (vQ a0) λr4 =>
   cz (a3.nodes.length<=fuel) <|
   bZ (λi5 (s5:Unit) oL xb =>
    thn (a3.nodes[i5]?) λe6 =>
    cond (decide (e6<0)) (
     some 6) <|
    cond (decide (((a2.nodes.length:Nat):Int)<=e6)) (
     some 6) <|
    thn (a1.nodes[i5]?) λe7 =>
    thn (iX r4 e7) λe8 =>
    thn (iX a2.nodes e6) λe9 =>
    thn (iX e8 e9) λpE =>
    cond pE (
     oL ()) <|
    some 13)
   (a3.nodes.length-0) 0 () λs5 =>
   cz (a3.ah.length<=fuel) <|
   bZ (λi11 (s11:Unit) alJ aDm =>
    thn (a3.ah[i11]?) λe12 =>
    cond (decide (e12<0)) (
     some 6) <|
    cond (decide (((a2.ah.length:Nat):Int)<=e12)) (
     some 6) <|
    thn (a1.ah[i11]?) λe13 =>
    thn (iX a2.ah e12) λe14 =>
    cond (decide (e13.type=e14.type)) (
     thn (iX a3.nodes e13.src) λe15 =>
     cond (decide (e15=e14.src)) (
      thn (iX a3.nodes e13.dst) λe16 =>
      cond (decide (e16=e14.dst)) (
       alJ ()) <|
      some 11) <|
     some 11) <|
    some 13)
   (a3.ah.length-0) 0 () λs11 =>
   some 0) <|
  some 20) <|
 some 20
def rE(a0:List Int):Option Bool:=none
def oM(a0:Types)(a1:bE)(a2:bE)(a3:aY)(a4:Bool):Option Int :=
 thn (rC (⟨a0.nodes,a0.ah⟩:Types) (⟨a1.nodes,a1.ah⟩:bE) a2) λr5 =>
 cond (decide (r5=0)) (
  thn (rD a0 (⟨a1.nodes,a1.ah⟩:bE) a2 a3) λr6 =>
  cond (decide (r6=0)) (
   cond a4 (
    thn (rE a3.nodes) λr7 =>
    cond r7 (
     some 5) <|
    thn (rE a3.ah) λr8 =>
    cond r8 (
     some 5) <|
    some 0) <|
   some 0) <|
  some r6) <|
 some r5
def rF(a0:Types)(a1:bL)(a2:Host):Option Int :=
 thn (jV a0 a1) λr3 =>
 cond (decide (r3=0)) (
  thn (nt a0 a2) λr4 =>
  some r4.2) <|
 some r3
def lT(a0:adN)(a1:List Int):Option Int :=
 cond (decide (a0.var<0)) (
  some a0.add) <|
 thn (iX a1 a0.var) λe2 =>
 some (i64.wrap (e2+a0.add))
def qn(a0:iT)(a1:List Int):Option Bool:=none
def rG(a0:bL)(a1:Host)(a2:aY):Option ((List Int)×Int) :=
 cz (0<=a0.vars/\a0.vars<=68719476736) <|
 cz (0<=a0.vars/\a0.vars<=68719476736) <|
 cz (a0.slots.length<=fuel) <|
 bZ (λi3 (s3:(List Bool)×(List Int)) gE oK =>
  thn (a0.slots[i3]?) λe4 =>
  thn (iX a2.nodes e4.node) λe5 =>
  thn (iX a1.values e5) λe6 =>
  thn (iX e6 e4.attr) λe7 =>
  cond (decide (0<=e4.term.var)) (
   thn (iX s3.1 e4.term.var) λe8 =>
   cond e8 (
    thn (lT e4.term s3.2) λr9 =>
    cond (decide (r9=e7)) (
     gE (s3.1,s3.2)) <|
    some (([]:List Int),11)) <|
   thn (iX s3.2 e4.term.var) λpE =>
   thn (lT e4.term (s3.2.set e4.term.var.toNat (i64.wrap (e7-e4.term.add)))) λw6 =>
   cond (decide (w6=e7)) (
    gE ((s3.1.set e4.term.var.toNat true),(s3.2.set e4.term.var.toNat (i64.wrap (e7-e4.term.add))))) <|
   some (([]:List Int),11)) <|
  thn (lT e4.term s3.2) λy5 =>
  cond (decide (y5=e7)) (
   gE (s3.1,s3.2)) <|
  some (([]:List Int),11))
 (a0.slots.length-0) 0 ((replicate a0.vars.toNat false),(replicate a0.vars.toNat 0)) λs3 =>
 cz (a0.tests.length<=fuel) <|
 bZ (λi13 (s13:Unit) alK aDn =>
  thn (a0.tests[i13]?) λe14 =>
  thn (qn e14 s3.2) λr15 =>
  cond r15 (
   alK ()) <|
  some (([]:List Int),16))
 (a0.tests.length-0) 0 () λs13 =>
 some (s3.2,0)
def oh(a0:Types)(a1:bL)(a2:Host)(a3:aY):Option ((List Int)×Int) :=
 thn (rF a0 a1 a2) λr4 =>
 cond (decide (r4=0)) (
  thn (oM a0 a1.graph a2.graph a3 false) λr5 =>
  cond (decide (r5=0)) (
   thn (rG (⟨a1.graph,a1.slots,a1.vars,a1.tests⟩:bL) (⟨a2.graph,a2.values⟩:Host) a3) λr6 =>
   some (r6.1,r6.2)) <|
  some (([]:List Int),r5)) <|
 some (([]:List Int),r4)
def cK(a0:List Int)(a1:List Int):Option Bool :=
 cond (decide (((a0.length:Nat):Int)=((a1.length:Nat):Int))) (
  cz (a0.length<=fuel) <|
  bZ (λi2 (s2:Unit) bT fU =>
   thn (a0[i2]?) λe3 =>
   thn (a1[i2]?) λe4 =>
   cond (decide (e3=e4)) (
    bT ()) <|
   some false)
  (a0.length-0) 0 () λs2 =>
  some true) <|
 some false
def vR(a0:Types)(a1:gf)(a2:Host)(a3:dF):Option Int :=
 thn (oM (⟨a0.nodes,a0.ah⟩:Types) a1.left.graph a2.graph a3.ee a1.injective) λr4 =>
 cond (decide (r4=0)) (
  thn (oh (⟨a0.nodes,a0.ah⟩:Types) a1.left (⟨a2.graph,a2.values⟩:Host) a3.ee) λr5 =>
  cond (decide (r5.2=0)) (
   thn (cK r5.1 a3.vars) λr6 =>
   cond r6 (
    some 0) <|
   some 11) <|
  some r5.2) <|
 some 1
def rH(a0:Types)(a1:bE)(a2:bE)(a3:aY):Option (bE×Int) :=
 thn (rC a0 a1 a2) λr4 =>
 cond (decide (r4=0)) (
  thn (rD a0 a1 a2 a3) λr5 =>
  cond (decide (r5=0)) (
   thn (j9 a1.ah) λr6 =>
   cz (a3.nodes.length<=fuel) <|
   bZ (λi7 (s7:(List Int)) xd akc =>
    thn (a3.nodes[i7]?) λe8 =>
    thn (iX a2.nodes e8) λe9 =>
    cz (s7.length+1<=68719476736) <|
    xd (s7++[e9]))
   (a3.nodes.length-0) 0 ([]:List Int) λs7 =>
   some ((⟨s7,r6⟩:bE),0)) <|
  some ((⟨([]:List Int),([]:List Edge)⟩:bE),r5)) <|
 some ((⟨[],[]⟩:bE),r4)
def lq(a0:dB):Option Int :=
 thn (kH a0.l a0.g a0.m) λr1 =>
 cond (decide (r1=0)) (
  thn (o5 a0.l a0.keep) λr2 =>
  some r2) <|
 some r1
def nA(a0:List Int)(a1:List Int):Option (List vB) :=
 cz (a0.length<=fuel) <|
 bZ (λi2 (s2:(List vB)) bT fU =>
  iter (λ(s3:Int×(List vB)) gE oK =>
   cond (decide (s3.1<((a0.length:Nat):Int))) (
    thn (a0[i2]?) λe4 =>
    thn (iX a0 s3.1) λe5 =>
    cond (decide (e4=e5)) (
     thn (cF a1 ((i2:Nat):Int)) λr6 =>
     cond r6 (
      thn (cF a1 s3.1) λr7 =>
      cond r7 (
       gE ((i64.wrap (s3.1+1)),s3.2)) <|
      cz (s3.2.length+1<=68719476736) <|
      gE ((i64.wrap (s3.1+1)),(s3.2++[(⟨((i2:Nat):Int),s3.1⟩:vB)]))) <|
     cz (s3.2.length+1<=68719476736) <|
     gE ((i64.wrap (s3.1+1)),(s3.2++[(⟨((i2:Nat):Int),s3.1⟩:vB)]))) <|
    gE ((i64.wrap (s3.1+1)),s3.2)) <|
   oK (s3.1,s3.2))
  fuel ((i64.wrap (((i2:Nat):Int)+1)),s2) λs3 =>
  bT s3.2)
 (a0.length-0) 0 ([]:List vB) λs2 =>
 some s2
def jy(a0:dB):Option ((List vB)×(List vB)) :=
 thn (nA a0.m.nodes a0.keep.nodes) λr1 =>
 thn (nA a0.m.ah a0.keep.ah) λr2 =>
 some (r1,r2)
def ku(a0:dB):Option (List Int) :=
 cz (a0.m.nodes.length<=fuel) <|
 bZ (λi1 (s1:(List Int)) jM tP =>
  thn (a0.m.nodes[i1]?) λe2 =>
  thn (cF a0.keep.nodes ((i1:Nat):Int)) λr3 =>
  cond r3 (
   jM s1) <|
  cz (s1.length+1<=68719476736) <|
  jM (s1++[e2]))
 (a0.m.nodes.length-0) 0 ([]:List Int) λs1 =>
 some s1
def j5(a0:dB):Option (List Int) :=
 thn (ku a0) λr1 =>
 cz (a0.g.ah.length<=fuel) <|
 bZ (λi2 (s2:(List Int)) bT fU =>
  thn (a0.g.ah[i2]?) λe3 =>
  thn (cF a0.m.ah ((i2:Nat):Int)) λr4 =>
  cond r4 (
   bT s2) <|
  thn (cF r1 e3.src) λr5 =>
  cond r5 (
   cz (s2.length+1<=68719476736) <|
   bT (s2++[((i2:Nat):Int)])) <|
  thn (cF r1 e3.dst) λr6 =>
  cond r6 (
   cz (s2.length+1<=68719476736) <|
   bT (s2++[((i2:Nat):Int)])) <|
  bT s2)
 (a0.g.ah.length-0) 0 ([]:List Int) λs2 =>
 some s2
def om(a0:Int)(a1:List Int)(a2:List Int):Option (List Int) :=
 cz (0<=a0/\a0<=68719476736) <|
 cz (a1.length<=fuel) <|
 bZ (λi3 (s3:(List Bool)) gE oK =>
  thn (a1[i3]?) λe4 =>
  thn (cF a2 ((i3:Nat):Int)) λr5 =>
  cond r5 (
   gE s3) <|
  thn (iX s3 e4) λe6 =>
  gE (s3.set e4.toNat true))
 (a1.length-0) 0 (replicate a0.toNat false) λs3 =>
 cz (s3.length<=fuel) <|
 bZ (λi7 (s7:(List Int)) xd akc =>
  thn (s3[i7]?) λe8 =>
  cond e8 (
   xd s7) <|
  cz (s7.length+1<=68719476736) <|
  xd (s7++[((i7:Nat):Int)]))
 (s3.length-0) 0 ([]:List Int) λs7 =>
 some s7
def uw(a0:bE)(a1:bE)(a2:jZ)(a3:aY):Option (jZ×Int) :=
 thn (lq (⟨a0,a1,a2,a3⟩:dB)) λr4 =>
 cond (decide (r4=0)) (
  thn (jy (⟨a0,a1,a2,a3⟩:dB)) λr5 =>
  cond (decide (0<(i64.wrap (((r5.1.length:Nat):Int)+((r5.2.length:Nat):Int))))) (
   some ((⟨([]:List Int),([]:List Int)⟩:jZ),15)) <|
  thn (j5 (⟨a0,a1,a2,a3⟩:dB)) λr6 =>
  cond (decide (0<((r6.length:Nat):Int))) (
   some ((⟨([]:List Int),([]:List Int)⟩:jZ),14)) <|
  thn (om ((a1.nodes.length:Nat):Int) a3.nodes a2.nodes) λr7 =>
  thn (om ((a1.ah.length:Nat):Int) a3.ah a2.ah) λr8 =>
  some ((⟨r7,r8⟩:jZ),0)) <|
 some ((⟨[],[]⟩:jZ),r4)
def rI(a0:Types)(a1:bL)(a2:aT)(a3:Host)(a4:dF)(a5:Bool):Option Int :=
 thn (od a0 a1 a2) λr6 =>
 cond (decide (r6=0)) (
  thn (nt a0 a3) λr7 =>
  cond (decide (r7.2=0)) (
   thn (oM a0 a1.graph a3.graph a4.ee a5) λr8 =>
   cond (decide (r8=0)) (
    thn (oh a0 a1 a3 a4.ee) λr9 =>
    cond (decide (r9.2=0)) (
     thn (cK r9.1 a4.vars) λtT =>
     cond tT (
      some 0) <|
     some 11) <|
    some r9.2) <|
   some r8) <|
  some r7.2) <|
 some r6
def kR(a0:jQ)(a1:aT)(a2:dF):Option (gn×Int):=none
def fN:Nat->jQ->aT->dF ->  Option (gn×Int)
  |0,_,_,_=>none
  |n+1,a0,a1,a2 =>
    cond (decide (a1.kind=2)) (
     thn (a1.kids[0]?) λe3 =>
     thn (fN n a0 e3 a2) λr4 =>
     cond (decide (r4.2=0)) (
      some ((⟨0,(⟨(⟨([]:List Int),([]:List Int)⟩:aY),([]:List Int)⟩:dF),([]:List gn)⟩:gn),10)) <|
     cond (decide (r4.2=10)) (
      some ((⟨0,(⟨(⟨([]:List Int),([]:List Int)⟩:aY),([]:List Int)⟩:dF),([]:List gn)⟩:gn),0)) <|
     some ((⟨0,(⟨(⟨([]:List Int),([]:List Int)⟩:aY),([]:List Int)⟩:dF),([]:List gn)⟩:gn),r4.2)) <|
    cond (decide (a1.kind=3)) (
     cz (a1.kids.length<=fuel) <|
     bZ (λi5 (s5:(List gn)) oL xb =>
      thn (a1.kids[i5]?) λe6 =>
      thn (fN n a0 e6 a2) λr7 =>
      cond (decide (r7.2=0)) (
       cz (s5.length+1<=68719476736) <|
       oL (s5++[r7.1])) <|
      some ((⟨0,(⟨(⟨([]:List Int),([]:List Int)⟩:aY),([]:List Int)⟩:dF),([]:List gn)⟩:gn),r7.2))
     (a1.kids.length-0) 0 ([]:List gn) λs5 =>
     some ((⟨0,(⟨(⟨([]:List Int),([]:List Int)⟩:aY),([]:List Int)⟩:dF),s5⟩:gn),0)) <|
    cond (decide (a1.kind=4)) (
     cz (a1.kids.length<=fuel) <|
     bZ (λi8 (s8:Unit) xe aeG =>
      thn (a1.kids[i8]?) λe9 =>
      thn (fN n a0 e9 a2) λtT =>
      cond (decide (tT.2=0)) (
       some ((⟨((i8:Nat):Int),(⟨(⟨([]:List Int),([]:List Int)⟩:aY),([]:List Int)⟩:dF),[tT.1]⟩:gn),0)) <|
      cond (decide (tT.2=10)) (
       xe ()) <|
      some ((⟨0,(⟨(⟨([]:List Int),([]:List Int)⟩:aY),([]:List Int)⟩:dF),([]:List gn)⟩:gn),tT.2))
     (a1.kids.length-0) 0 () λs8 =>
     some ((⟨0,(⟨(⟨([]:List Int),([]:List Int)⟩:aY),([]:List Int)⟩:dF),([]:List gn)⟩:gn),10)) <|
    cond (decide (a1.kind=5)) (
     thn (kR a0 a1 a2) λw6 =>
     some (w6.1,w6.2)) <|
    some ((⟨0,⟨⟨[],[]⟩,[]⟩,[]⟩:gn),0)
def pR(a0:Types)(a1:bL)(a2:aT)(a3:Host)(a4:dF)(a5:Bool):Option (gn×Int) :=
 thn (rI a0 a1 a2 a3 a4 a5) λr6 =>
 cond (decide (r6=0)) (
  thn (fN fuel (⟨⟨a0.nodes,a0.ah⟩,a3,a5⟩:jQ) (⟨a2.kind,a2.kids,a2.map,a2.pattern⟩:aT) a4) λr7 =>
  some (r7.1,r7.2)) <|
 some ((⟨0,⟨⟨[],[]⟩,[]⟩,[]⟩:gn),r6)
def nU(a0:Types)(a1:bL)(a2:aT)(a3:Host)(a4:dF)(a5:Bool):Option (Bool×Int) :=
 thn (pR (⟨a0.nodes,a0.ah⟩:Types) (⟨a1.graph,a1.slots,a1.vars,a1.tests⟩:bL) (⟨a2.kind,a2.kids,a2.map,a2.pattern⟩:aT) a3 a4 a5) λr6 =>
 cond (decide (r6.2=10)) (
  some (false,0)) <|
 some ((decide (r6.2=0)),r6.2)
def sQ(a0:dF):Option dF :=
 thn (cZ a0.ee.nodes) λr1 =>
 thn (cZ a0.ee.ah) λr2 =>
 thn (cZ a0.vars) λr3 =>
 some (⟨⟨r1,r2⟩,r3⟩:dF)
def uz(a0:Host):Option Host :=
 thn (cZ a0.graph.nodes) λr1 =>
 thn (j9 a0.graph.ah) λr2 =>
 cz (a0.values.length<=fuel) <|
 bZ (λi3 (s3:(List (List Int))) gE oK =>
  thn (a0.values[i3]?) λe4 =>
  cz (e4.length<=68719476736) <|
  cz (s3.length+1<=68719476736) <|
  gE (s3++[e4]))
 (a0.values.length-0) 0 ([]:List (List Int)) λs3 =>
 some (⟨⟨r1,r2⟩,s3⟩:Host)
def u5(a0:Int)(a1:List Int):Option (List Int) :=
 cz (0<=a0/\a0<=68719476736) <|
 cz (a0.toNat<=fuel) <|
 bZ (λi2 (s2:(List Int)) bT fU =>
  thn (fM a1 ((i2:Nat):Int)) λr3 =>
  cond r3.2 (
   thn (s2[i2]?) λe4 =>
   bT (s2.set i2 r3.1)) <|
  thn (s2[i2]?) λe5 =>
  bT (s2.set i2 (-1)))
 (a0.toNat-0) 0 (replicate a0.toNat 0) λs2 =>
 some s2
def rJ(a0:Int)(a1:List Int)(a2:List Int)(a3:List Int)(a4:List Int)(a5:Int):Option (List Int) :=
 thn (pO [(-1)] a0) λr6 =>
 cz (a2.length<=fuel) <|
 bZ (λi7 (s7:(List Int)) xd akc =>
  thn (a2[i7]?) λe8 =>
  thn (a1[i7]?) λe9 =>
  thn (iX a3 e9) λpE =>
  thn (iX a4 pE) λe11 =>
  thn (iX s7 e8) λe12 =>
  xd (s7.set e8.toNat e11))
 (a2.length-0) 0 r6 λs7 =>
 cz (s7.length<=fuel) <|
 bZ (λi13 (s13:Int×(List Int)) alK aDn =>
  thn (s13.2[i13]?) λe14 =>
  cond (decide (e14<0)) (
   alK ((i64.wrap (s13.1+1)),(s13.2.set i13 s13.1))) <|
  alK (s13.1,s13.2))
 (s7.length-0) 0 (a5,s7) λs13 =>
 some s13.2
def zy(a0:Types)(a1:Int):Option (List Int) :=
 thn (th a0 a1) λr2 =>
 cz (r2.1.length<=fuel) <|
 bZ (λi3 (s3:(List Int)) gE oK =>
  thn (r2.1[i3]?) λe4 =>
  cz (s3.length+1<=68719476736) <|
  gE (s3++[e4.low]))
 (r2.1.length-0) 0 ([]:List Int) λs3 =>
 some s3
def zz(a0:Types)(a1:jK)(a2:jZ):Option ((List Int)×(List Edge)×(List (List Int))) :=
 cz (a2.nodes.length<=fuel) <|
 bZ (λi3 (s3:(List Int)×(List (List Int))) gE oK =>
  thn (a2.nodes[i3]?) λe4 =>
  thn (iX a1.before.graph.nodes e4) λe5 =>
  cz (s3.1.length+1<=68719476736) <|
  thn (iX a1.before.values e4) λe6 =>
  cz (e6.length<=68719476736) <|
  cz (s3.2.length+1<=68719476736) <|
  gE ((s3.1++[e5]),(s3.2++[e6])))
 (a2.nodes.length-0) 0 (([]:List Int),([]:List (List Int))) λs3 =>
 cz (a2.ah.length<=fuel) <|
 bZ (λi7 (s7:(List Edge)) xd akc =>
  thn (a2.ah[i7]?) λe8 =>
  thn (iX a1.before.graph.ah e8) λe9 =>
  thn (iX a1.tO.nodes e9.src) λpE =>
  thn (iX a1.tO.nodes e9.dst) λe11 =>
  cz (s7.length+1<=68719476736) <|
  xd (s7++[(⟨e9.type,pE,e11⟩:Edge)]))
 (a2.ah.length-0) 0 ([]:List Edge) λs7 =>
 cz (a1.rule.right.graph.nodes.length<=fuel) <|
 bZ (λi12 (s12:(List (List Int))×(List Int)) azK aJf =>
  thn (a1.rule.right.graph.nodes[i12]?) λe13 =>
  thn (a1.lP.nodes[i12]?) λe14 =>
  cond (decide (e14=((s12.2.length:Nat):Int))) (
   cz (s12.2.length+1<=68719476736) <|
   thn (zy a0 e13) λr15 =>
   cz (s12.1.length+1<=68719476736) <|
   azK ((s12.1++[r15]),(s12.2++[e13]))) <|
  azK (s12.1,s12.2))
 (a1.rule.right.graph.nodes.length-0) 0 (s3.2,s3.1) λs12 =>
 cz (a1.rule.right.graph.ah.length<=fuel) <|
 bZ (λi16 (s16:(List Edge)) azL aJg =>
  thn (a1.rule.right.graph.ah[i16]?) λe17 =>
  thn (a1.lP.ah[i16]?) λe18 =>
  cond (decide (e18=((s16.length:Nat):Int))) (
   thn (iX a1.lP.nodes e17.src) λe19 =>
   thn (iX a1.lP.nodes e17.dst) λe20 =>
   cz (s16.length+1<=68719476736) <|
   azL (s16++[(⟨e17.type,e19,e20⟩:Edge)])) <|
  azL s16)
 (a1.rule.right.graph.ah.length-0) 0 s7 λs16 =>
 some (s12.2,s16,s12.1)
def zQ(a0:Types)(a1:gf)(a2:Host)(a3:dF):Option (jK×Int) :=
 thn (vR a0 a1 a2 a3) λr4 =>
 cond (decide (r4=0)) (
  thn (rH a0 a1.left.graph a2.graph a3.ee) λr5 =>
  cond (decide (r5.2=0)) (
   thn (uw r5.1 a2.graph a1.keep a3.ee) λr6 =>
   cond (decide (r6.2=0)) (
    thn (nU a0 a1.left a1.condition a2 a3 a1.injective) λr7 =>
    cond (decide (r7.2=0)) (
     cond r7.1 (
      thn (sQ a3) λr8 =>
      thn (uz a2) λr9 =>
      thn (u5 ((a2.graph.nodes.length:Nat):Int) r6.1.nodes) λtT =>
      thn (u5 ((a2.graph.ah.length:Nat):Int) r6.1.ah) λw6 =>
      thn (rJ ((a1.right.graph.nodes.length:Nat):Int) a1.keep.nodes a1.into.nodes a3.ee.nodes tT ((r6.1.nodes.length:Nat):Int)) λy5 =>
      thn (rJ ((a1.right.graph.ah.length:Nat):Int) a1.keep.ah a1.into.ah a3.ee.ah w6 ((r6.1.ah.length:Nat):Int)) λr13 =>
      thn (zz a0 (⟨a1,r8,r9,⟨⟨[],[]⟩,[]⟩,⟨tT,w6⟩,⟨y5,r13⟩⟩:jK) r6.1) λr14 =>
      cz (a1.right.slots.length=0) <|
      cond (decide (40<((r14.1.length:Nat):Int))) (
       some ((⟨(⟨(⟨#[]⟩:ByteArray),(⟨(⟨([]:List Int),([]:List Edge)⟩:bE),([]:List fI),0,([]:List iT)⟩:bL),(⟨(⟨([]:List Int),([]:List Edge)⟩:bE),([]:List fI),0,([]:List iT)⟩:bL),(⟨([]:List Int),([]:List Int)⟩:jZ),(⟨([]:List Int),([]:List Int)⟩:aY),false,(⟨0,([]:List aT),(⟨([]:List Int),([]:List Int)⟩:aY),(⟨(⟨([]:List Int),([]:List Edge)⟩:bE),([]:List fI),0,([]:List iT)⟩:bL)⟩:aT)⟩:gf),(⟨(⟨([]:List Int),([]:List Int)⟩:aY),([]:List Int)⟩:dF),(⟨(⟨([]:List Int),([]:List Edge)⟩:bE),([]:List (List Int))⟩:Host),(⟨(⟨([]:List Int),([]:List Edge)⟩:bE),([]:List (List Int))⟩:Host),(⟨([]:List Int),([]:List Int)⟩:aY),(⟨([]:List Int),([]:List Int)⟩:aY)⟩:jK),3)) <|
      cond (decide (80<((r14.2.1.length:Nat):Int))) (
       some ((⟨(⟨(⟨#[]⟩:ByteArray),(⟨(⟨([]:List Int),([]:List Edge)⟩:bE),([]:List fI),0,([]:List iT)⟩:bL),(⟨(⟨([]:List Int),([]:List Edge)⟩:bE),([]:List fI),0,([]:List iT)⟩:bL),(⟨([]:List Int),([]:List Int)⟩:jZ),(⟨([]:List Int),([]:List Int)⟩:aY),false,(⟨0,([]:List aT),(⟨([]:List Int),([]:List Int)⟩:aY),(⟨(⟨([]:List Int),([]:List Edge)⟩:bE),([]:List fI),0,([]:List iT)⟩:bL)⟩:aT)⟩:gf),(⟨(⟨([]:List Int),([]:List Int)⟩:aY),([]:List Int)⟩:dF),(⟨(⟨([]:List Int),([]:List Edge)⟩:bE),([]:List (List Int))⟩:Host),(⟨(⟨([]:List Int),([]:List Edge)⟩:bE),([]:List (List Int))⟩:Host),(⟨([]:List Int),([]:List Int)⟩:aY),(⟨([]:List Int),([]:List Int)⟩:aY)⟩:jK),3)) <|
      some ((⟨a1,r8,r9,(⟨(⟨r14.1,r14.2.1⟩:bE),r14.2.2⟩:Host),(⟨tT,w6⟩:aY),(⟨y5,r13⟩:aY)⟩:jK),0)) <|
     some ((⟨(⟨(⟨#[]⟩:ByteArray),(⟨(⟨([]:List Int),([]:List Edge)⟩:bE),([]:List fI),0,([]:List iT)⟩:bL),(⟨(⟨([]:List Int),([]:List Edge)⟩:bE),([]:List fI),0,([]:List iT)⟩:bL),(⟨([]:List Int),([]:List Int)⟩:jZ),(⟨([]:List Int),([]:List Int)⟩:aY),false,(⟨0,([]:List aT),(⟨([]:List Int),([]:List Int)⟩:aY),(⟨(⟨([]:List Int),([]:List Edge)⟩:bE),([]:List fI),0,([]:List iT)⟩:bL)⟩:aT)⟩:gf),(⟨(⟨([]:List Int),([]:List Int)⟩:aY),([]:List Int)⟩:dF),(⟨(⟨([]:List Int),([]:List Edge)⟩:bE),([]:List (List Int))⟩:Host),(⟨(⟨([]:List Int),([]:List Edge)⟩:bE),([]:List (List Int))⟩:Host),(⟨([]:List Int),([]:List Int)⟩:aY),(⟨([]:List Int),([]:List Int)⟩:aY)⟩:jK),16)) <|
    some ((⟨(⟨(⟨#[]⟩:ByteArray),(⟨(⟨([]:List Int),([]:List Edge)⟩:bE),([]:List fI),0,([]:List iT)⟩:bL),(⟨(⟨([]:List Int),([]:List Edge)⟩:bE),([]:List fI),0,([]:List iT)⟩:bL),(⟨([]:List Int),([]:List Int)⟩:jZ),(⟨([]:List Int),([]:List Int)⟩:aY),false,(⟨0,([]:List aT),(⟨([]:List Int),([]:List Int)⟩:aY),(⟨(⟨([]:List Int),([]:List Edge)⟩:bE),([]:List fI),0,([]:List iT)⟩:bL)⟩:aT)⟩:gf),(⟨(⟨([]:List Int),([]:List Int)⟩:aY),([]:List Int)⟩:dF),(⟨(⟨([]:List Int),([]:List Edge)⟩:bE),([]:List (List Int))⟩:Host),(⟨(⟨([]:List Int),([]:List Edge)⟩:bE),([]:List (List Int))⟩:Host),(⟨([]:List Int),([]:List Int)⟩:aY),(⟨([]:List Int),([]:List Int)⟩:aY)⟩:jK),r7.2)) <|
   some ((⟨(⟨(⟨#[]⟩:ByteArray),(⟨(⟨([]:List Int),([]:List Edge)⟩:bE),([]:List fI),0,([]:List iT)⟩:bL),(⟨(⟨([]:List Int),([]:List Edge)⟩:bE),([]:List fI),0,([]:List iT)⟩:bL),(⟨([]:List Int),([]:List Int)⟩:jZ),(⟨([]:List Int),([]:List Int)⟩:aY),false,(⟨0,([]:List aT),(⟨([]:List Int),([]:List Int)⟩:aY),(⟨(⟨([]:List Int),([]:List Edge)⟩:bE),([]:List fI),0,([]:List iT)⟩:bL)⟩:aT)⟩:gf),(⟨(⟨([]:List Int),([]:List Int)⟩:aY),([]:List Int)⟩:dF),(⟨(⟨([]:List Int),([]:List Edge)⟩:bE),([]:List (List Int))⟩:Host),(⟨(⟨([]:List Int),([]:List Edge)⟩:bE),([]:List (List Int))⟩:Host),(⟨([]:List Int),([]:List Int)⟩:aY),(⟨([]:List Int),([]:List Int)⟩:aY)⟩:jK),r6.2)) <|
  some ((⟨(⟨(⟨#[]⟩:ByteArray),(⟨(⟨([]:List Int),([]:List Edge)⟩:bE),([]:List fI),0,([]:List iT)⟩:bL),(⟨(⟨([]:List Int),([]:List Edge)⟩:bE),([]:List fI),0,([]:List iT)⟩:bL),(⟨([]:List Int),([]:List Int)⟩:jZ),(⟨([]:List Int),([]:List Int)⟩:aY),false,(⟨0,([]:List aT),(⟨([]:List Int),([]:List Int)⟩:aY),(⟨(⟨([]:List Int),([]:List Edge)⟩:bE),([]:List fI),0,([]:List iT)⟩:bL)⟩:aT)⟩:gf),(⟨(⟨([]:List Int),([]:List Int)⟩:aY),([]:List Int)⟩:dF),(⟨(⟨([]:List Int),([]:List Edge)⟩:bE),([]:List (List Int))⟩:Host),(⟨(⟨([]:List Int),([]:List Edge)⟩:bE),([]:List (List Int))⟩:Host),(⟨([]:List Int),([]:List Int)⟩:aY),(⟨([]:List Int),([]:List Int)⟩:aY)⟩:jK),r5.2)) <|
 some ((⟨⟨⟨#[]⟩,⟨⟨[],[]⟩,[],0,[]⟩,⟨⟨[],[]⟩,[],0,[]⟩,⟨[],[]⟩,⟨[],[]⟩,false,⟨0,[],⟨[],[]⟩,⟨⟨[],[]⟩,[],0,[]⟩⟩⟩,⟨⟨[],[]⟩,[]⟩,⟨⟨[],[]⟩,[]⟩,⟨⟨[],[]⟩,[]⟩,⟨[],[]⟩,⟨[],[]⟩⟩:jK),r4)
def u6(a0:Types)(a1:gf)(a2:Host)(a3:dF):Option (jK×Int) :=
 thn (zx a0 (⟨a1.name,a1.left,a1.right,a1.keep,a1.into,a1.injective,a1.condition⟩:gf) (⟨a2.graph,a2.values⟩:Host)) λr4 =>
 cond (decide (r4=0)) (
  thn (zQ a0 a1 a2 a3) λr5 =>
  some (r5.1,r5.2)) <|
 some ((⟨⟨⟨#[]⟩,⟨⟨[],[]⟩,[],0,[]⟩,⟨⟨[],[]⟩,[],0,[]⟩,⟨[],[]⟩,⟨[],[]⟩,false,⟨0,[],⟨[],[]⟩,⟨⟨[],[]⟩,[],0,[]⟩⟩⟩,⟨⟨[],[]⟩,[]⟩,⟨⟨[],[]⟩,[]⟩,⟨⟨[],[]⟩,[]⟩,⟨[],[]⟩,⟨[],[]⟩⟩:jK),r4)
def kg(a0:List Edge)(a1:List Edge):Option Bool :=
 cond (decide (((a0.length:Nat):Int)=((a1.length:Nat):Int))) (
  cz (a0.length<=fuel) <|
  bZ (λi2 (s2:Unit) bT fU =>
   thn (a0[i2]?) λe3 =>
   thn (a1[i2]?) λe4 =>
   cond (decide (e3.type=e4.type)&&(decide (e3.src=e4.src)&&decide (e3.dst=e4.dst))) (
    bT ()) <|
   some false)
  (a0.length-0) 0 () λs2 =>
  some true) <|
 some false
def zS(a0:bE)(a1:bE):Option Bool :=
 thn (cK a0.nodes a1.nodes) λr2 =>
 cond r2 (
  thn (kg a0.ah a1.ah) λr3 =>
  some r3) <|
 some false
def mB(a0:List fI)(a1:List fI):Option Bool :=
 cond (decide (((a0.length:Nat):Int)=((a1.length:Nat):Int))) (
  iter (λ(s2:Unit) bT fU =>
   cond (decide (0<((a0.length:Nat):Int))) (
    none) <|
   fU ())
  fuel () λs2 =>
  some true) <|
 some false
def mC(a0:List iT)(a1:List iT):Option Bool :=
 cond (decide (((a0.length:Nat):Int)=((a1.length:Nat):Int))) (
  iter (λ(s2:Unit) bT fU =>
   cond (decide (0<((a0.length:Nat):Int))) (
    none) <|
   fU ())
  fuel () λs2 =>
  some true) <|
 some false
def nB(a0:bL)(a1:bL):Option Bool :=
 thn (zS a0.graph a1.graph) λr2 =>
 cond r2 (
  cond (decide (a0.vars=a1.vars)) (
   thn (mB a0.slots a1.slots) λr3 =>
   cond r3 (
    thn (mC a0.tests a1.tests) λr4 =>
    some r4) <|
   some false) <|
  some false) <|
 some false
def j6(a0:aY)(a1:aY):Option Bool :=
 thn (cK a0.nodes a1.nodes) λr2 =>
 cond r2 (
  thn (cK a0.ah a1.ah) λr3 =>
  some r3) <|
 some false
def j7(a0:List aT)(a1:List aT)(p2:aT->aT->Option Bool):Option Bool :=
 cond (decide (((a0.length:Nat):Int)=((a1.length:Nat):Int))) (
  cz (a0.length<=fuel) <|
  bZ (λi3 (s3:Unit) gE oK =>
   thn (a0[i3]?) λe4 =>
   thn (a1[i3]?) λe5 =>
   thn (p2 e4 e5) λr6 =>
   cond r6 (
    gE ()) <|
   some false)
  (a0.length-0) 0 () λs3 =>
  some true) <|
 some false
def mK:Nat->aT->aT ->  Option Bool
  |0,_,_=>none
  |n+1,a0,a1 =>
    cond (decide (a0.kind=a1.kind)) (
     thn (j6 a0.map a1.map) λr2 =>
     cond r2 (
      cond (decide (a0.pattern.vars=a1.pattern.vars)) (
       thn (cK a0.pattern.graph.nodes a1.pattern.graph.nodes) λr3 =>
       cond r3 (
        thn (kg a0.pattern.graph.ah a1.pattern.graph.ah) λr4 =>
        cond r4 (
         thn (mB a0.pattern.slots a1.pattern.slots) λr5 =>
         cond r5 (
          thn (mC a0.pattern.tests a1.pattern.tests) λr6 =>
          cond r6 (
           thn (j7 a0.kids a1.kids (λx7 x8=>mK n x7 x8)) λr9 =>
           some r9) <|
          some false) <|
         some false) <|
        some false) <|
       some false) <|
      some false) <|
     some false) <|
    some false
def abz(a0:gf)(a1:gf):Option Bool :=
 cond (decide (a0.name=a1.name)) (
  cond (a0.injective == a1.injective) (
   thn (nB a0.left a1.left) λr2 =>
   cond r2 (
    thn (nB a0.right a1.right) λr3 =>
    cond r3 (
     thn (cK a0.keep.nodes a1.keep.nodes) λr4 =>
     cond r4 (
      thn (cK a0.keep.ah a1.keep.ah) λr5 =>
      cond r5 (
       thn (j6 a0.into a1.into) λr6 =>
       cond r6 (
        thn (mK fuel a0.condition a1.condition) λr7 =>
        some r7) <|
       some false) <|
      some false) <|
     some false) <|
    some false) <|
   some false) <|
  some false) <|
 some false
def sR(a0:dF)(a1:dF):Option Bool :=
 thn (j6 a0.ee a1.ee) λr2 =>
 cond r2 (
  thn (cK a0.vars a1.vars) λr3 =>
  some r3) <|
 some false
def mL(a0:List (List Int))(a1:List (List Int))(p2:(List Int)->(List Int)->Option Bool):Option Bool :=
 cond (decide (((a0.length:Nat):Int)=((a1.length:Nat):Int))) (
  cz (a0.length<=fuel) <|
  bZ (λi3 (s3:Unit) gE oK =>
   thn (a0[i3]?) λe4 =>
   thn (a1[i3]?) λe5 =>
   thn (p2 e4 e5) λr6 =>
   cond r6 (
    gE ()) <|
   some false)
  (a0.length-0) 0 () λs3 =>
  some true) <|
 some false
def tU(a0:Host)(a1:Host):Option Bool :=
 thn (cK a0.graph.nodes a1.graph.nodes) λr2 =>
 cond r2 (
  thn (kg a0.graph.ah a1.graph.ah) λr3 =>
  cond r3 (
   thn (mL a0.values a1.values (λx4 x5=>cK x4 x5)) λr6 =>
   some r6) <|
  some false) <|
 some false
def abA(a0:jK)(a1:jK):Option Bool :=
 thn (abz a0.rule a1.rule) λr2 =>
 cond r2 (
  thn (sR a0.tN a1.tN) λr3 =>
  cond r3 (
   thn (tU a0.before a1.before) λr4 =>
   cond r4 (
    thn (tU a0.after a1.after) λr5 =>
    cond r5 (
     thn (j6 a0.tO a1.tO) λr6 =>
     cond r6 (
      thn (j6 a0.lP a1.lP) λr7 =>
      some r7) <|
     some false) <|
    some false) <|
   some false) <|
  some false) <|
 some false
def zY(a0:Types)(a1:jK):Option Bool :=
 thn (u6 a0 a1.rule a1.before a1.tN) λr2 =>
 cond (decide (r2.2=0)) (
  thn (abA r2.1 (⟨a1.rule,a1.tN,a1.before,a1.after,a1.tO,a1.lP⟩:jK)) λr3 =>
  some r3) <|
 some false
def nC(a0:List Int)(a1:List Int)(a2:Int)(a3:Int):Option ((List Int)×Int) :=
 thn (pO [(-1)] a2) λr4 =>
 cz (a1.length<=fuel) <|
 bZ (λi5 (s5:(List Int)) oL xb =>
  thn (a1[i5]?) λe6 =>
  cond (decide (0<=e6)) (
   thn (a0[i5]?) λe7 =>
   thn (iX s5 e6) λe8 =>
   oL (s5.set e6.toNat e7)) <|
  oL s5)
 (a1.length-0) 0 r4 λs5 =>
 cz (s5.length<=fuel) <|
 bZ (λi9 (s9:Int×(List Int)) vM abw =>
  thn (s9.2[i9]?) λpE =>
  cond (decide (pE<0)) (
   vM ((i64.wrap (s9.1+1)),(s9.2.set i9 s9.1))) <|
  vM (s9.1,s9.2))
 (s5.length-0) 0 (a3,s5) λs9 =>
 some (s9.2,s9.1)
def lD(a0:ay):Option (List aj) :=
 cz (a0.nodes.length<=fuel) <|
 bZ (λi1 (s1:(List aj)) jM tP =>
  thn (a0.nodes[i1]?) λe2 =>
  thn (a0.host.graph.nodes[i1]?) λe3 =>
  thn (a0.host.values[i1]?) λe4 =>
  thn (cZ e4) λr5 =>
  cz (s1.length+1<=68719476736) <|
  jM (s1++[(⟨e2,e3,r5⟩:aj)]))
 (a0.nodes.length-0) 0 ([]:List aj) λs1 =>
 some s1
def fV(a0:List aj)(p1:aj->Option Bool):Option Int :=
 cz (a0.length<=fuel) <|
 bZ (λi2 (s2:Unit) bT fU =>
  thn (a0[i2]?) λe3 =>
  thn (p1 e3) λr4 =>
  cond r4 (
   some ((i2:Nat):Int)) <|
  bT ())
 (a0.length-0) 0 () λs2 =>
 some (-1)
def kS(a0:aj)(a1:Int):Option Bool:=some (decide (a0.id=a1))
def jA(a0:List aj)(a1:Int):Option Int :=
 thn (fV a0 (λx2=>kS x2 a1)) λr3 =>
 some r3
def fW(a0:List ax)(p1:ax->Option Bool):Option Int :=
 cz (a0.length<=fuel) <|
 bZ (λi2 (s2:Unit) bT fU =>
  thn (a0[i2]?) λe3 =>
  thn (p1 e3) λr4 =>
  cond r4 (
   some ((i2:Nat):Int)) <|
  bT ())
 (a0.length-0) 0 () λs2 =>
 some (-1)
def kT(a0:ax)(a1:Int):Option Bool:=some (decide (a0.id=a1))
def jB(a0:List ax)(a1:Int):Option Int :=
 thn (fW a0 (λx2=>kT x2 a1)) λr3 =>
 some r3
def iO(a0:ay)(a1:ay):Option (aQ×Bool) :=
 thn (lD a0) λr2 =>
 thn (j0 a0) λr3 =>
 thn (lD a1) λr4 =>
 thn (j0 a1) λr5 =>
 cz (r2.length<=fuel) <|
 bZ (λi6 (s6:(List aj)×(List aO)) tQ akb =>
  thn (r2[i6]?) λe7 =>
  thn (jA r4 e7.id) λr8 =>
  thn (jB r5 e7.id) λr9 =>
  cond (decide (0<=r9)) (
   some ((⟨([]:List aj),([]:List ax),([]:List aj),([]:List ax),([]:List aO),(⟨0,0⟩:dJ)⟩:aQ),false)) <|
  cond (decide (0<=r8)) (
   thn (iX r4 r8) λpE =>
   cond (decide (pE.type=e7.type)) (
    cond (decide (r8<0)) (
     cz (s6.1.length+1<=68719476736) <|
     tQ ((s6.1++[e7]),s6.2)) <|
    cz (e7.values.length<=fuel) <|
    bZ (λi11 (s11:(List aO)) alJ aDm =>
     thn (e7.values[i11]?) λe12 =>
     thn (pE.values[i11]?) λe13 =>
     cond (decide (e12=e13)) (
      alJ s11) <|
     cz (s11.length+1<=68719476736) <|
     alJ (s11++[(⟨e7.id,((i11:Nat):Int),e12,e13⟩:aO)]))
    (e7.values.length-0) 0 s6.2 λs11 =>
    tQ (s6.1,s11)) <|
   some ((⟨([]:List aj),([]:List ax),([]:List aj),([]:List ax),([]:List aO),(⟨0,0⟩:dJ)⟩:aQ),false)) <|
  cond (decide (r8<0)) (
   cz (s6.1.length+1<=68719476736) <|
   tQ ((s6.1++[e7]),s6.2)) <|
  cz (e7.values.length<=fuel) <|
  bZ (λi14 (s14:(List aO)) ah1 azM =>
   thn (e7.values[i14]?) λe15 =>
   thn (iX r4 r8) λe16 =>
   thn (e16.values[i14]?) λe17 =>
   cond (decide (e15=e17)) (
    ah1 s14) <|
   cz (s14.length+1<=68719476736) <|
   ah1 (s14++[(⟨e7.id,((i14:Nat):Int),e15,e17⟩:aO)]))
  (e7.values.length-0) 0 s6.2 λs14 =>
  tQ (s6.1,s14))
 (r2.length-0) 0 (([]:List aj),([]:List aO)) λs6 =>
 cz (r3.length<=fuel) <|
 bZ (λi18 (s18:(List ax)) alL aJh =>
  thn (r3[i18]?) λe19 =>
  thn (jB r5 e19.id) λr20 =>
  thn (jA r4 e19.id) λr21 =>
  cond (decide (0<=r21)) (
   some ((⟨([]:List aj),([]:List ax),([]:List aj),([]:List ax),([]:List aO),(⟨0,0⟩:dJ)⟩:aQ),false)) <|
  cond (decide (0<=r20)) (
   thn (iX r5 r20) λe22 =>
   cond (decide (e22.id=e19.id)&&(decide (e22.type=e19.type)&&(decide (e22.src=e19.src)&&decide (e22.dst=e19.dst)))) (
    cond (decide (r20<0)) (
     cz (s18.length+1<=68719476736) <|
     alL (s18++[e19])) <|
    alL s18) <|
   some ((⟨([]:List aj),([]:List ax),([]:List aj),([]:List ax),([]:List aO),(⟨0,0⟩:dJ)⟩:aQ),false)) <|
  cond (decide (r20<0)) (
   cz (s18.length+1<=68719476736) <|
   alL (s18++[e19])) <|
  alL s18)
 (r3.length-0) 0 ([]:List ax) λs18 =>
 cz (r4.length<=fuel) <|
 bZ (λi23 (s23:(List aj)) azN aJi =>
  thn (r4[i23]?) λe24 =>
  thn (jA r2 e24.id) λr25 =>
  cond (decide (r25<0)) (
   cz (s23.length+1<=68719476736) <|
   azN (s23++[e24])) <|
  azN s23)
 (r4.length-0) 0 ([]:List aj) λs23 =>
 cz (r5.length<=fuel) <|
 bZ (λi26 (s26:(List ax)) azO aJj =>
  thn (r5[i26]?) λe27 =>
  thn (jB r3 e27.id) λr28 =>
  cond (decide (r28<0)) (
   cz (s26.length+1<=68719476736) <|
   azO (s26++[e27])) <|
  azO s26)
 (r5.length-0) 0 ([]:List ax) λs26 =>
 some ((⟨s6.1,s18,s23,s26,s6.2,⟨a0.next,a1.next⟩⟩:aQ),true)
def vS(a0:Types)(a1:ay)(a2:jK):Option (ay×aQ×Int) :=
 thn (er a0 a1) λr3 =>
 cond (decide (r3=0)) (
  thn (zY a0 a2) λr4 =>
  cond r4 (
   thn (tU a2.before a1.host) λr5 =>
   cond r5 (
    thn (kG a2.after) λr6 =>
    thn (nC a1.nodes a2.tO.nodes ((a2.after.graph.nodes.length:Nat):Int) a1.next) λr7 =>
    thn (nC a1.ah a2.tO.ah ((a2.after.graph.ah.length:Nat):Int) r7.2) λr8 =>
    cond (decide (1000000<r8.2)) (
     some ((⟨(⟨(⟨([]:List Int),([]:List Edge)⟩:bE),([]:List (List Int))⟩:Host),([]:List Int),([]:List Int),0⟩:ay),(⟨([]:List aj),([]:List ax),([]:List aj),([]:List ax),([]:List aO),(⟨0,0⟩:dJ)⟩:aQ),3)) <|
    thn (iO a1 (⟨r6,r7.1,r8.1,r8.2⟩:ay)) λr9 =>
    some ((⟨r6,r7.1,r8.1,r8.2⟩:ay),r9.1,0)) <|
   some ((⟨(⟨(⟨([]:List Int),([]:List Edge)⟩:bE),([]:List (List Int))⟩:Host),([]:List Int),([]:List Int),0⟩:ay),(⟨([]:List aj),([]:List ax),([]:List aj),([]:List ax),([]:List aO),(⟨0,0⟩:dJ)⟩:aQ),11)) <|
  some ((⟨(⟨(⟨([]:List Int),([]:List Edge)⟩:bE),([]:List (List Int))⟩:Host),([]:List Int),([]:List Int),0⟩:ay),(⟨([]:List aj),([]:List ax),([]:List aj),([]:List ax),([]:List aO),(⟨0,0⟩:dJ)⟩:aQ),1)) <|
 some ((⟨⟨⟨[],[]⟩,[]⟩,[],[],0⟩:ay),(⟨[],[],[],[],[],⟨0,0⟩⟩:aQ),r3)
def bu  : Option Bool :=
 thn (lp) λr1 =>
 thn (nP r1 (⟨⟨[3,3],[]⟩,[([]:List Int),([]:List Int)]⟩:Host)) λr2 =>
 thn (u6 r1 (⟨⟨#[103,111,110,101]⟩,⟨⟨[3],[]⟩,[],0,[]⟩,⟨⟨[],[]⟩,[],0,[]⟩,⟨[],[]⟩,⟨[],[]⟩,false,⟨1,[],⟨[],[]⟩,⟨⟨[],[]⟩,[],0,[]⟩⟩⟩:gf) r2.1.host (⟨⟨[0],[]⟩,[]⟩:dF)) λr3 =>
 thn (vS r1 r2.1 r3.1) λr4 =>
 cond (decide (r2.2=0)) (
  cond (decide (r2.1.next=2)) (
   cond (decide (r3.2=0)) (
    cond (decide (r4.2.2=0)) (
     thn (cK r4.1.nodes [1]) λr5 =>
     cond r5 (
      cond (decide (r4.1.next=2)) (
       cond (decide (((r4.2.1.aG.length:Nat):Int)=1)) (
        thn (r4.2.1.aG[0]?) λe6 =>
        some (decide (e6.id=0))) <|
       some false) <|
      some false) <|
     some false) <|
    some false) <|
   some false) <|
  some false) <|
 some false
def jq(a0:Types):Option Bool :=
 cond (decide (20<((a0.nodes.length:Nat):Int))) (
  some false) <|
 cond (decide (30<((a0.ah.length:Nat):Int))) (
  some false) <|
 cz (a0.nodes.length<=fuel) <|
 bZ (λi1 (s1:Int) jM tP =>
  thn (a0.nodes[i1]?) λe2 =>
  cond (decide (30<(i64.wrap (s1+((e2.attrs.length:Nat):Int))))) (
   some false) <|
  cond (decide (40<((e2.name.size:Nat):Int))) (
   some false) <|
  cz (e2.attrs.length<=fuel) <|
  bZ (λi3 (s3:Unit) gE oK =>
   thn (e2.attrs[i3]?) λe4 =>
   cond (decide (40<((e4.name.size:Nat):Int))) (
    some false) <|
   cond (decide (25<((e4.names.length:Nat):Int))) (
    some false) <|
   cz (e4.names.length<=fuel) <|
   bZ (λi5 (s5:Unit) oL xb =>
    thn (e4.names[i5]?) λe6 =>
    cond (decide (40<((e6.size:Nat):Int))) (
     some false) <|
    oL ())
   (e4.names.length-0) 0 () λs5 =>
   gE ())
  (e2.attrs.length-0) 0 () λs3 =>
  jM (i64.wrap (s1+((e2.attrs.length:Nat):Int))))
 (a0.nodes.length-0) 0 0 λs1 =>
 cz (a0.ah.length<=fuel) <|
 bZ (λi7 (s7:Unit) xd akc =>
  thn (a0.ah[i7]?) λe8 =>
  cond (decide (40<((e8.name.size:Nat):Int))) (
   some false) <|
  xd ())
 (a0.ah.length-0) 0 () λs7 =>
 some true
def jr(a0:bE):Option Bool :=
 cond (decide (((a0.nodes.length:Nat):Int)<=45)) (
  some (decide (((a0.ah.length:Nat):Int)<=90))) <|
 some false
def js(a0:Host):Option Bool :=
 thn (jr a0.graph) λr1 =>
 cond r1 (
  cond (decide (45<((a0.values.length:Nat):Int))) (
   some false) <|
  cz (a0.values.length<=fuel) <|
  bZ (λi2 (s2:Unit) bT fU =>
   thn (a0.values[i2]?) λe3 =>
   cond (decide (12<((e3.length:Nat):Int))) (
    some false) <|
   bT ())
  (a0.values.length-0) 0 () λs2 =>
  some true) <|
 some false
def jt(a0:ay):Option Bool :=
 thn (js a0.host) λr1 =>
 cond r1 (
  some (decide ((i64.wrap (((a0.nodes.length:Nat):Int)+((a0.ah.length:Nat):Int)))<=140))) <|
 some false
def cU(a0:Types)(a1:ay):Option Bool :=
 thn (jq a0) λr2 =>
 cond r2 (
  thn (jt a1) λr3 =>
  some r3) <|
 some false
def fO(a0:Int)(a1:Int):Option (List Int) :=
 cz (a1.toNat<=fuel) <|
 bZ (λi2 (s2:(List Int)) bT fU =>
  cz (s2.length+1<=68719476736) <|
  bT (s2++[(i64.wrap (a0+((i2:Nat):Int)))]))
 (a1.toNat-0) 0 ([]:List Int) λs2 =>
 some s2
def ir(a0:Types)(a1:Host):Option (ay×Int) :=
 thn (jR a0) λr2 =>
 cond (decide (r2.2=0)) (
  thn (jS a0 a1) λr3 =>
  cond (decide (r3.2=0)) (
   thn (ck a1) λr4 =>
   thn (fO 0 ((a1.graph.nodes.length:Nat):Int)) λr5 =>
   thn (fO ((a1.graph.nodes.length:Nat):Int) (i64.wrap ((i64.wrap (((a1.graph.nodes.length:Nat):Int)+((a1.graph.ah.length:Nat):Int)))-((a1.graph.nodes.length:Nat):Int)))) λr6 =>
   some ((⟨r4,r5,r6,(i64.wrap (((a1.graph.nodes.length:Nat):Int)+((a1.graph.ah.length:Nat):Int)))⟩:ay),0)) <|
  some ((⟨(⟨(⟨([]:List Int),([]:List Edge)⟩:bE),([]:List (List Int))⟩:Host),([]:List Int),([]:List Int),0⟩:ay),r3.2)) <|
 some ((⟨⟨⟨[],[]⟩,[]⟩,[],[],0⟩:ay),r2.2)
def dK(a0:List Int)(a1:List Int):Option Bool :=
 cond (decide (((a0.length:Nat):Int)=((a1.length:Nat):Int))) (
  cz (a0.length<=fuel) <|
  bZ (λi2 (s2:Unit) bT fU =>
   thn (a0[i2]?) λe3 =>
   thn (a1[i2]?) λe4 =>
   cond (decide (e3=e4)) (
    bT ()) <|
   some false)
  (a0.length-0) 0 () λs2 =>
  some true) <|
 some false
def jc(a0:bE)(a1:bE):Option Bool :=
 thn (dK a0.nodes a1.nodes) λr2 =>
 cond r2 (
  cond (decide (((a0.ah.length:Nat):Int)=((a1.ah.length:Nat):Int))) (
   cz (a0.ah.length<=fuel) <|
   bZ (λi3 (s3:Unit) gE oK =>
    thn (a0.ah[i3]?) λe4 =>
    thn (a1.ah[i3]?) λe5 =>
    cond (decide (e4.type=e5.type)&&(decide (e4.src=e5.src)&&decide (e4.dst=e5.dst))) (
     gE ()) <|
    some false)
   (a0.ah.length-0) 0 () λs3 =>
   some true) <|
  some false) <|
 some false
def gY(a0:List Int)(a1:List Int):Option Int :=
 iter (λ(s2:Int) bT fU =>
  cond (decide (s2<((a0.length:Nat):Int))) (
   cond (decide (s2<((a1.length:Nat):Int))) (
    thn (iX a0 s2) λe3 =>
    thn (iX a1 s2) λe4 =>
    cond (decide (e3=e4)) (
     bT (i64.wrap (s2+1))) <|
    some (i64.wrap (e3-e4))) <|
   fU s2) <|
  fU s2)
 fuel 0 λs2 =>
 some (i64.wrap (((a0.length:Nat):Int)-((a1.length:Nat):Int)))
def jd(a0:Host)(a1:Host):Option Bool :=
 thn (jc a0.graph a1.graph) λr2 =>
 cond r2 (
  cond (decide (((a0.values.length:Nat):Int)=((a1.values.length:Nat):Int))) (
   cz (a0.values.length<=fuel) <|
   bZ (λi3 (s3:Unit) gE oK =>
    thn (a0.values[i3]?) λe4 =>
    thn (a1.values[i3]?) λe5 =>
    thn (gY e4 e5) λr6 =>
    cond (decide (r6=0)) (
     gE ()) <|
    some false)
   (a0.values.length-0) 0 () λs3 =>
   some true) <|
  some false) <|
 some false
def eW(a0:ay)(a1:ay):Option Bool :=
 thn (jd a0.host a1.host) λr2 =>
 cond r2 (
  thn (dK a0.nodes a1.nodes) λr3 =>
  cond r3 (
   thn (dK a0.ah a1.ah) λr4 =>
   cond r4 (
    some (decide (a0.next=a1.next))) <|
   some false) <|
  some false) <|
 some false
def iu(a0:List Int)(a1:Int):Option Int :=
 cz (a0.length<=fuel) <|
 bZ (λi2 (s2:Unit) bT fU =>
  thn (a0[i2]?) λe3 =>
  cond (decide (e3<0)) (
   some 6) <|
  cond (decide (a1<=e3)) (
   some 6) <|
  cond (decide (0<((i2:Nat):Int))) (
   thn (iX a0 (i64.wrap (((i2:Nat):Int)-1))) λe4 =>
   cond (decide (e3<=e4)) (
    some 12) <|
   bT ()) <|
  bT ())
 (a0.length-0) 0 () λs2 =>
 some 0
def bW(a0:List Int)(a1:Int):Option Int :=
 cz (a0.length<=fuel) <|
 bZ (λi2 (s2:Unit) bT fU =>
  thn (a0[i2]?) λe3 =>
  cond (decide (e3=a1)) (
   some ((i2:Nat):Int)) <|
  bT ())
 (a0.length-0) 0 () λs2 =>
 some (-1)
def bO(a0:Types)(a1:ay):Option Int :=
 thn (jR a0) λr2 =>
 cond (decide (r2.2=0)) (
  thn (jS a0 a1.host) λr3 =>
  cond (decide (r3.2=0)) (
   cond (decide (((a1.nodes.length:Nat):Int)=((a1.host.graph.nodes.length:Nat):Int))) (
    cond (decide (((a1.ah.length:Nat):Int)=((a1.host.graph.ah.length:Nat):Int))) (
     cond (decide (a1.next<0)) (
      some 6) <|
     cond (decide (1000000<a1.next)) (
      some 6) <|
     thn (iu a1.nodes a1.next) λr4 =>
     cond (decide (r4=0)) (
      thn (iu a1.ah a1.next) λr5 =>
      cond (decide (r5=0)) (
       cz (a1.ah.length<=fuel) <|
       bZ (λi6 (s6:Unit) tQ akb =>
        thn (a1.ah[i6]?) λe7 =>
        thn (bW a1.nodes e7) λr8 =>
        cond (decide (0<=r8)) (
         some 5) <|
        tQ ())
       (a1.ah.length-0) 0 () λs6 =>
       some 0) <|
      some r5) <|
     some r4) <|
    some 20) <|
   some 20) <|
  some r3.2) <|
 some r2.2
def fD(a0:Types)(a1:ay):Option Bool :=
 thn (bu) λr2 =>
 cond r2 (
  thn (cU (⟨a0.nodes,a0.ah⟩:Types) a1) λr3 =>
  cond r3 (
   thn (ck a1.host) λr4 =>
   thn (nP (⟨a0.nodes,a0.ah⟩:Types) r4) λr5 =>
   thn (ir (⟨a0.nodes,a0.ah⟩:Types) a1.host) λr6 =>
   cond (decide (r5.2=r6.2)) (
    thn (eW r5.1 r6.1) λr7 =>
    cond r7 (
     thn (cm (⟨a1.host,a1.nodes,a1.ah,a1.next⟩:ay)) λr8 =>
     thn (er (⟨a0.nodes,a0.ah⟩:Types) r8) λr9 =>
     thn (bO (⟨a0.nodes,a0.ah⟩:Types) (⟨a1.host,a1.nodes,a1.ah,a1.next⟩:ay)) λtT =>
     some (decide (r9=tT))) <|
    some false) <|
   some false) <|
  thn (bu) λw6 =>
  some w6) <|
 thn (bu) λy5 =>
 some y5
def dW(a0:Types)(a1:ay)(a2:ay):Option (aQ×Int) :=
 thn (er a0 a1) λr3 =>
 cond (decide (r3=0)) (
  thn (er a0 a2) λr4 =>
  cond (decide (r4=0)) (
   thn (iO a1 a2) λr5 =>
   cond r5.2 (
    some (r5.1,0)) <|
   some ((⟨([]:List aj),([]:List ax),([]:List aj),([]:List ax),([]:List aO),(⟨0,0⟩:dJ)⟩:aQ),11)) <|
  some ((⟨([]:List aj),([]:List ax),([]:List aj),([]:List ax),([]:List aO),(⟨0,0⟩:dJ)⟩:aQ),r4)) <|
 some ((⟨[],[],[],[],[],⟨0,0⟩⟩:aQ),r3)
def dG(a0:ay)(a1:Int):Option ax :=
 thn (iX a0.host.graph.ah a1) λe2 =>
 thn (iX a0.ah a1) λe3 =>
 thn (iX a0.nodes e2.src) λe4 =>
 thn (iX a0.nodes e2.dst) λe5 =>
 some (⟨e3,e2.type,e4,e5⟩:ax)
def iP(a0:ay)(a1:ay):Option Bool :=
 cz (a0.nodes.length<=fuel) <|
 bZ (λi2 (s2:Unit) bT fU =>
  thn (a0.nodes[i2]?) λe3 =>
  thn (bW a1.nodes e3) λr4 =>
  thn (bW a1.ah e3) λr5 =>
  cond (decide (0<=r5)) (
   some false) <|
  cond (decide (0<=r4)) (
   thn (a0.host.graph.nodes[i2]?) λe6 =>
   thn (iX a1.host.graph.nodes r4) λe7 =>
   cond (decide (e6=e7)) (
    bT ()) <|
   some false) <|
  bT ())
 (a0.nodes.length-0) 0 () λs2 =>
 cz (a0.ah.length<=fuel) <|
 bZ (λi8 (s8:Unit) xe aeG =>
  thn (a0.ah[i8]?) λe9 =>
  thn (bW a1.ah e9) λtT =>
  thn (bW a1.nodes e9) λw6 =>
  cond (decide (0<=w6)) (
   some false) <|
  cond (decide (0<=tT)) (
   thn (dG a0 ((i8:Nat):Int)) λy5 =>
   thn (dG (⟨a1.host,a1.nodes,a1.ah,a1.next⟩:ay) tT) λr13 =>
   cond (decide (y5.id=r13.id)&&(decide (y5.type=r13.type)&&(decide (y5.src=r13.src)&&decide (y5.dst=r13.dst)))) (
    xe ()) <|
   some false) <|
  xe ())
 (a0.ah.length-0) 0 () λs8 =>
 some true
def gR(a0:ay)(a1:Int):Option aj :=
 thn (iX a0.nodes a1) λe2 =>
 thn (iX a0.host.graph.nodes a1) λe3 =>
 thn (iX a0.host.values a1) λe4 =>
 cz (e4.length<=68719476736) <|
 some (⟨e2,e3,e4⟩:aj)
def fP(a0:ay)(a1:ay):Option ((List aj)×(List ax)) :=
 cz (a0.nodes.length<=fuel) <|
 bZ (λi2 (s2:(List aj)) bT fU =>
  thn (a0.nodes[i2]?) λe3 =>
  thn (bW a1.nodes e3) λr4 =>
  cond (decide (r4<0)) (
   thn (gR a0 ((i2:Nat):Int)) λr5 =>
   cz (s2.length+1<=68719476736) <|
   bT (s2++[r5])) <|
  bT s2)
 (a0.nodes.length-0) 0 ([]:List aj) λs2 =>
 cz (a0.ah.length<=fuel) <|
 bZ (λi6 (s6:(List ax)) tQ akb =>
  thn (a0.ah[i6]?) λe7 =>
  thn (bW a1.ah e7) λr8 =>
  cond (decide (r8<0)) (
   thn (dG a0 ((i6:Nat):Int)) λr9 =>
   cz (s6.length+1<=68719476736) <|
   tQ (s6++[r9])) <|
  tQ s6)
 (a0.ah.length-0) 0 ([]:List ax) λs6 =>
 some (s2,s6)
def je(a0:ay)(a1:ay):Option (aQ×Bool) :=
 thn (iP a0 a1) λr2 =>
 cond r2 (
  thn (fP a0 a1) λr3 =>
  thn (fP a1 a0) λr4 =>
  cz (a0.nodes.length<=fuel) <|
  bZ (λi5 (s5:(List aO)) oL xb =>
   thn (a0.nodes[i5]?) λe6 =>
   thn (bW a1.nodes e6) λr7 =>
   cond (decide (r7<0)) (
    oL s5) <|
   iter (λ(s8:Int×(List aO)) xe aeG =>
    thn (a0.host.values[i5]?) λe9 =>
    cond (decide (s8.1<((e9.length:Nat):Int))) (
     thn (iX e9 s8.1) λpE =>
     thn (iX a1.host.values r7) λe11 =>
     thn (iX e11 s8.1) λe12 =>
     cond (decide (pE=e12)) (
      xe ((i64.wrap (s8.1+1)),s8.2)) <|
     cz (s8.2.length+1<=68719476736) <|
     xe ((i64.wrap (s8.1+1)),(s8.2++[(⟨e6,s8.1,pE,e12⟩:aO)]))) <|
    aeG (s8.1,s8.2))
   fuel (0,s5) λs8 =>
   oL s8.2)
  (a0.nodes.length-0) 0 ([]:List aO) λs5 =>
  some ((⟨r3.1,r3.2,r4.1,r4.2,s5,(⟨a0.next,a1.next⟩:dJ)⟩:aQ),true)) <|
 some ((⟨[],[],[],[],[],⟨0,0⟩⟩:aQ),false)
def eX(a0:Types)(a1:ay)(a2:ay):Option (aQ×Int) :=
 thn (bO a0 a1) λr3 =>
 cond (decide (r3=0)) (
  thn (bO a0 a2) λr4 =>
  cond (decide (r4=0)) (
   thn (je a1 a2) λr5 =>
   cond r5.2 (
    some (r5.1,0)) <|
   some ((⟨([]:List aj),([]:List ax),([]:List aj),([]:List ax),([]:List aO),(⟨0,0⟩:dJ)⟩:aQ),11)) <|
  some ((⟨([]:List aj),([]:List ax),([]:List aj),([]:List ax),([]:List aO),(⟨0,0⟩:dJ)⟩:aQ),r4)) <|
 some ((⟨[],[],[],[],[],⟨0,0⟩⟩:aQ),r3)
def fE(a0:aj)(a1:aj):Option Bool :=
 cond (decide (a0.id=a1.id)) (
  cond (decide (a0.type=a1.type)) (
   thn (dK a0.values a1.values) λr2 =>
   some r2) <|
  some false) <|
 some false
def ff(a0:List aj)(a1:List aj):Option Bool :=
 cond (decide (((a0.length:Nat):Int)=((a1.length:Nat):Int))) (
  cz (a0.length<=fuel) <|
  bZ (λi2 (s2:Unit) bT fU =>
   thn (a0[i2]?) λe3 =>
   thn (a1[i2]?) λe4 =>
   thn (fE e3 e4) λr5 =>
   cond r5 (
    bT ()) <|
   some false)
  (a0.length-0) 0 () λs2 =>
  some true) <|
 some false
def fh(a0:List ax)(a1:List ax):Option Bool :=
 cond (decide (((a0.length:Nat):Int)=((a1.length:Nat):Int))) (
  cz (a0.length<=fuel) <|
  bZ (λi2 (s2:Unit) bT fU =>
   thn (a0[i2]?) λe3 =>
   thn (a1[i2]?) λe4 =>
   cond (decide (e3.id=e4.id)&&(decide (e3.type=e4.type)&&(decide (e3.src=e4.src)&&decide (e3.dst=e4.dst)))) (
    bT ()) <|
   some false)
  (a0.length-0) 0 () λs2 =>
  some true) <|
 some false
def bR(a0:aQ)(a1:aQ):Option Bool :=
 thn (ff a0.aG a1.aG) λr2 =>
 cond r2 (
  thn (ff a0.aV a1.aV) λr3 =>
  cond r3 (
   thn (fh a0.aM a1.aM) λr4 =>
   cond r4 (
    thn (fh a0.bn a1.bn) λr5 =>
    cond r5 (
     cond (decide (((a0.values.length:Nat):Int)=((a1.values.length:Nat):Int))) (
      cz (a0.values.length<=fuel) <|
      bZ (λi6 (s6:Unit) tQ akb =>
       thn (a0.values[i6]?) λe7 =>
       thn (a1.values[i6]?) λe8 =>
       cond (decide (e7.id=e8.id)&&(decide (e7.attr=e8.attr)&&(decide (e7.old=e8.old)&&decide (e7.new=e8.new)))) (
        tQ ()) <|
       some false)
      (a0.values.length-0) 0 () λs6 =>
      some (decide (a0.next.x0=a1.next.x0)&&decide (a0.next.x1=a1.next.x1))) <|
     some false) <|
    some false) <|
   some false) <|
  some false) <|
 some false
def fK(a0:Types)(a1:ay)(a2:ay):Option Bool :=
 thn (bu) λr3 =>
 cond r3 (
  thn (cU a0 a1) λr4 =>
  cond r4 (
   thn (cU a0 a2) λr5 =>
   cond r5 (
    thn (cm a1) λr6 =>
    thn (cm a2) λr7 =>
    thn (dW a0 r6 r7) λr8 =>
    thn (eX (⟨a0.nodes,a0.ah⟩:Types) a1 a2) λr9 =>
    cond (decide (r8.2=r9.2)) (
     thn (bR r8.1 r9.1) λtT =>
     some tT) <|
    some false) <|
   thn (bu) λw6 =>
   some w6) <|
  thn (bu) λy5 =>
  some y5) <|
 thn (bu) λr13 =>
 some r13
def dL(a0:aQ):Option Bool :=
 cond (decide (510<(max (max (max (max ((a0.aG.length:Nat):Int) ((a0.aM.length:Nat):Int)) ((a0.aV.length:Nat):Int)) ((a0.bn.length:Nat):Int)) ((a0.values.length:Nat):Int)))) (
  some false) <|
 cond (decide (60<(max (max (max (max ((a0.aG.length:Nat):Int) ((a0.aM.length:Nat):Int)) ((a0.aV.length:Nat):Int)) ((a0.bn.length:Nat):Int)) ((a0.values.length:Nat):Int)))) (
  cond (decide ((max (max (max (max ((a0.aG.length:Nat):Int) ((a0.aM.length:Nat):Int)) ((a0.aV.length:Nat):Int)) ((a0.bn.length:Nat):Int)) ((a0.values.length:Nat):Int))<=500)) (
   some false) <|
  cz (a0.aG.length<=fuel) <|
  bZ (λi1 (s1:Unit) jM tP =>
   thn (a0.aG[i1]?) λe2 =>
   cond (decide (12<((e2.values.length:Nat):Int))) (
    some false) <|
   jM ())
  (a0.aG.length-0) 0 () λs1 =>
  cz (a0.aV.length<=fuel) <|
  bZ (λi3 (s3:Unit) gE oK =>
   thn (a0.aV[i3]?) λe4 =>
   cond (decide (12<((e4.values.length:Nat):Int))) (
    some false) <|
   gE ())
  (a0.aV.length-0) 0 () λs3 =>
  some true) <|
 cz (a0.aG.length<=fuel) <|
 bZ (λi5 (s5:Unit) oL xb =>
  thn (a0.aG[i5]?) λe6 =>
  cond (decide (12<((e6.values.length:Nat):Int))) (
   some false) <|
  oL ())
 (a0.aG.length-0) 0 () λs5 =>
 cz (a0.aV.length<=fuel) <|
 bZ (λi7 (s7:Unit) xd akc =>
  thn (a0.aV[i7]?) λe8 =>
  cond (decide (12<((e8.values.length:Nat):Int))) (
   some false) <|
  xd ())
 (a0.aV.length-0) 0 () λs7 =>
 some true
def eO(a0:List aj):Option (List aj) :=
 cz (a0.length<=fuel) <|
 bZ (λi1 (s1:(List aj)) jM tP =>
  thn (a0[i1]?) λe2 =>
  cz (e2.values.length<=68719476736) <|
  cz (s1.length+1<=68719476736) <|
  jM (s1++[e2]))
 (a0.length-0) 0 ([]:List aj) λs1 =>
 some s1
def eP(a0:aQ):Option aQ :=
 thn (eO a0.aG) λr1 =>
 cz (a0.aM.length<=68719476736) <|
 thn (eO a0.aV) λr2 =>
 cz (a0.bn.length<=68719476736) <|
 cz (a0.values.length<=68719476736) <|
 some (⟨r1,a0.aM,r2,a0.bn,a0.values,a0.next⟩:aQ)
def cV(a0:Types)(a1:ay)(a2:aQ):Option (ay×Int) :=
 thn (er a0 a1) λr3 =>
 cond (decide (r3=0)) (
  thn (iN a0 a1 a2) λr4 =>
  some (r4.1,r4.2)) <|
 some ((⟨⟨⟨[],[]⟩,[]⟩,[],[],0⟩:ay),r3)
def fH(a0:Types)(a1:ay)(a2:aQ)(a3:aQ):Option (aQ×Int) :=
 thn (cV a0 a1 a2) λr4 =>
 cond (decide (r4.2=0)) (
  thn (iN a0 r4.1 a3) λr5 =>
  cond (decide (r5.2=0)) (
   thn (iO a1 r5.1) λr6 =>
   cond r6.2 (
    some (r6.1,0)) <|
   some ((⟨([]:List aj),([]:List ax),([]:List aj),([]:List ax),([]:List aO),(⟨0,0⟩:dJ)⟩:aQ),11)) <|
  some ((⟨([]:List aj),([]:List ax),([]:List aj),([]:List ax),([]:List aO),(⟨0,0⟩:dJ)⟩:aQ),r5.2)) <|
 some ((⟨[],[],[],[],[],⟨0,0⟩⟩:aQ),r4.2)
def ek(a0:List aj):Option Bool :=
 cz (a0.length<=fuel) <|
 bZ (λi1 (s1:Unit) jM tP =>
  thn (a0[i1]?) λe2 =>
  thn (iX a0 (i64.wrap (((i1:Nat):Int)-1))) λe3 =>
  cond (decide (e2.id<=e3.id)) (
   some false) <|
  jM ())
 (a0.length-1) 1 () λs1 =>
 some true
def en(a0:List ax):Option Bool :=
 cz (a0.length<=fuel) <|
 bZ (λi1 (s1:Unit) jM tP =>
  thn (a0[i1]?) λe2 =>
  thn (iX a0 (i64.wrap (((i1:Nat):Int)-1))) λe3 =>
  cond (decide (e2.id<=e3.id)) (
   some false) <|
  jM ())
 (a0.length-1) 1 () λs1 =>
 some true
def fq(a0:List aO):Option Bool :=
 cz (a0.length<=fuel) <|
 bZ (λi1 (s1:Unit) jM tP =>
  thn (a0[i1]?) λe2 =>
  thn (iX a0 (i64.wrap (((i1:Nat):Int)-1))) λe3 =>
  cond (decide (e2.id<e3.id)) (
   some false) <|
  cond (decide (e2.id=e3.id)) (
   cond (decide (e2.attr<=e3.attr)) (
    some false) <|
   jM ()) <|
  jM ())
 (a0.length-1) 1 () λs1 =>
 some true
def gZ(a0:aQ):Option Int :=
 cond (decide (500<((a0.aG.length:Nat):Int))) (
  some 3) <|
 cond (decide (500<((a0.aM.length:Nat):Int))) (
  some 3) <|
 cond (decide (500<((a0.aV.length:Nat):Int))) (
  some 3) <|
 cond (decide (500<((a0.bn.length:Nat):Int))) (
  some 3) <|
 cond (decide (500<((a0.values.length:Nat):Int))) (
  some 3) <|
 thn (ek a0.aG) λr1 =>
 cond r1 (
  thn (en a0.aM) λr2 =>
  cond r2 (
   thn (ek a0.aV) λr3 =>
   cond r3 (
    thn (en a0.bn) λr4 =>
    cond r4 (
     thn (fq a0.values) λr5 =>
     cond r5 (
      some 0) <|
     some 12) <|
    some 12) <|
   some 12) <|
  some 12) <|
 some 12
def fe(a0:ay):Option aH :=
 cz (a0.nodes.length<=fuel) <|
 bZ (λi1 (s1:(List aj)) jM tP =>
  thn (gR a0 ((i1:Nat):Int)) λr2 =>
  cz (s1.length+1<=68719476736) <|
  jM (s1++[r2]))
 (a0.nodes.length-0) 0 ([]:List aj) λs1 =>
 cz (a0.ah.length<=fuel) <|
 bZ (λi3 (s3:(List ax)) gE oK =>
  thn (dG a0 ((i3:Nat):Int)) λr4 =>
  cz (s3.length+1<=68719476736) <|
  gE (s3++[r4]))
 (a0.ah.length-0) 0 ([]:List ax) λs3 =>
 some (⟨s1,s3⟩:aH)
def cG(a0:aH)(a1:ax):Option (aH×Bool) :=
 cz (a0.ah.length<=fuel) <|
 bZ (λi2 (s2:Unit) bT fU =>
  thn (a0.ah[i2]?) λe3 =>
  cond (decide (e3.id=a1.id)&&(decide (e3.type=a1.type)&&(decide (e3.src=a1.src)&&decide (e3.dst=a1.dst)))) (
   cz ((0:Int)<=0/\0<=((i2:Nat):Int)/\((i2:Nat):Int)<=(a0.ah.length:Int)) <|
   cz ((a0.ah.take i2).length<=68719476736) <|
   cz ((0:Int)<=(i64.wrap (((i2:Nat):Int)+1))/\(i64.wrap (((i2:Nat):Int)+1))<=((a0.ah.length:Nat):Int)/\((a0.ah.length:Nat):Int)<=(a0.ah.length:Int)) <|
   cz ((a0.ah.take i2).length+(a0.ah.drop (i64.wrap (((i2:Nat):Int)+1)).toNat).length<=68719476736) <|
   some ((⟨a0.nodes,((a0.ah.take i2)++(a0.ah.drop (i64.wrap (((i2:Nat):Int)+1)).toNat))⟩:aH),true)) <|
  bT ())
 (a0.ah.length-0) 0 () λs2 =>
 some (a0,false)
def cg(a0:aH)(a1:aj):Option (aH×Bool) :=
 cz (a0.nodes.length<=fuel) <|
 bZ (λi2 (s2:Unit) bT fU =>
  thn (a0.nodes[i2]?) λe3 =>
  thn (fE e3 a1) λr4 =>
  cond r4 (
   cz ((0:Int)<=0/\0<=((i2:Nat):Int)/\((i2:Nat):Int)<=(a0.nodes.length:Int)) <|
   cz ((0:Int)<=(i64.wrap (((i2:Nat):Int)+1))/\(i64.wrap (((i2:Nat):Int)+1))<=((a0.nodes.length:Nat):Int)/\((a0.nodes.length:Nat):Int)<=(a0.nodes.length:Int)) <|
   cz ((a0.nodes.take i2).length<=68719476736) <|
   cz ((a0.nodes.take i2).length+(a0.nodes.drop (i64.wrap (((i2:Nat):Int)+1)).toNat).length<=68719476736) <|
   some ((⟨((a0.nodes.take i2)++(a0.nodes.drop (i64.wrap (((i2:Nat):Int)+1)).toNat)),a0.ah⟩:aH),true)) <|
  bT ())
 (a0.nodes.length-0) 0 () λs2 =>
 some (a0,false)
def cS(a0:aH)(a1:aO):Option (aH×Bool) :=
 cz (a0.nodes.length<=fuel) <|
 bZ (λi2 (s2:(List aj)×Bool) bT fU =>
  thn (a0.nodes[i2]?) λe3 =>
  cond (decide (e3.id=a1.id)) (
   cond (decide (0<=a1.attr)) (
    cond (decide (a1.attr<((e3.values.length:Nat):Int))) (
     thn (iX e3.values a1.attr) λe4 =>
     cond (decide (e4=a1.old)) (
      cond (decide (a1.old=a1.new)) (
       cz (s2.1.length+1<=68719476736) <|
       bT ((s2.1++[e3]),s2.2)) <|
      cz (e3.values.length<=68719476736) <|
      cz (s2.1.length+1<=68719476736) <|
      bT ((s2.1++[(⟨e3.id,e3.type,(e3.values.set a1.attr.toNat a1.new)⟩:aj)]),true)) <|
     cz (s2.1.length+1<=68719476736) <|
     bT ((s2.1++[e3]),s2.2)) <|
    cz (s2.1.length+1<=68719476736) <|
    bT ((s2.1++[e3]),s2.2)) <|
   cz (s2.1.length+1<=68719476736) <|
   bT ((s2.1++[e3]),s2.2)) <|
  cz (s2.1.length+1<=68719476736) <|
  bT ((s2.1++[e3]),s2.2))
 (a0.nodes.length-0) 0 (([]:List aj),false) λs2 =>
 some ((⟨s2.1,a0.ah⟩:aH),s2.2)
def fZ(a0:aH)(a1:aQ):Option (aH×Bool) :=
 iter (λ(s2:Bool×Int×(List aj)×(List ax)) bT fU =>
  cond (decide (s2.2.1<((a1.aM.length:Nat):Int))) (
   cond s2.1 (
    thn (iX a1.aM s2.2.1) λe3 =>
    thn (cG (⟨s2.2.2.1,s2.2.2.2⟩:aH) e3) λr4 =>
    bT (r4.2,(i64.wrap (s2.2.1+1)),r4.1.nodes,r4.1.ah)) <|
   fU (s2.1,s2.2.1,s2.2.2.1,s2.2.2.2)) <|
  fU (s2.1,s2.2.1,s2.2.2.1,s2.2.2.2))
 fuel (true,0,a0.nodes,a0.ah) λs2 =>
 iter (λ(s5:Bool×Int×(List aj)×(List ax)) oL xb =>
  cond (decide (s5.2.1<((a1.aG.length:Nat):Int))) (
   cond s5.1 (
    thn (iX a1.aG s5.2.1) λe6 =>
    thn (cg (⟨s5.2.2.1,s5.2.2.2⟩:aH) e6) λr7 =>
    oL (r7.2,(i64.wrap (s5.2.1+1)),r7.1.nodes,r7.1.ah)) <|
   xb (s5.1,s5.2.1,s5.2.2.1,s5.2.2.2)) <|
  xb (s5.1,s5.2.1,s5.2.2.1,s5.2.2.2))
 fuel (s2.1,0,s2.2.2.1,s2.2.2.2) λs5 =>
 iter (λ(s8:Bool×Int×(List aj)×(List ax)) xe aeG =>
  cond (decide (s8.2.1<((a1.values.length:Nat):Int))) (
   cond s8.1 (
    thn (iX a1.values s8.2.1) λe9 =>
    thn (cS (⟨s8.2.2.1,s8.2.2.2⟩:aH) e9) λtT =>
    xe (tT.2,(i64.wrap (s8.2.1+1)),tT.1.nodes,tT.1.ah)) <|
   aeG (s8.1,s8.2.1,s8.2.2.1,s8.2.2.2)) <|
  aeG (s8.1,s8.2.1,s8.2.2.1,s8.2.2.2))
 fuel (s5.1,0,s5.2.2.1,s5.2.2.2) λs8 =>
 some ((⟨s8.2.2.1,s8.2.2.2⟩:aH),s8.1)
def fk(a0:aH)(a1:Int):Option Bool :=
 cz (a0.nodes.length<=fuel) <|
 bZ (λi2 (s2:Unit) bT fU =>
  thn (a0.nodes[i2]?) λe3 =>
  cond (decide (e3.id=a1)) (
   some true) <|
  bT ())
 (a0.nodes.length-0) 0 () λs2 =>
 cz (a0.ah.length<=fuel) <|
 bZ (λi4 (s4:Unit) aeF aoo =>
  thn (a0.ah[i4]?) λe5 =>
  cond (decide (e5.id=a1)) (
   some true) <|
  aeF ())
 (a0.ah.length-0) 0 () λs4 =>
 some false
def ga(a0:aH)(a1:aQ):Option (aH×Bool) :=
 cz (a1.aV.length<=fuel) <|
 bZ (λi2 (s2:Unit) bT fU =>
  thn (a1.aV[i2]?) λe3 =>
  thn (fk a0 e3.id) λr4 =>
  cond r4 (
   some (a0,false)) <|
  bT ())
 (a1.aV.length-0) 0 () λs2 =>
 cz (a1.bn.length<=fuel) <|
 bZ (λi5 (s5:Unit) oL xb =>
  thn (a1.bn[i5]?) λe6 =>
  thn (fk a0 e6.id) λr7 =>
  cond r7 (
   some (a0,false)) <|
  oL ())
 (a1.bn.length-0) 0 () λs5 =>
 iter (λ(s8:Int×Int×(List aj)) xe aeG =>
  cond (decide (s8.2.1<=((a0.nodes.length:Nat):Int))) (
   iter (λ(s9:Int×(List aj)) vM abw =>
    cond (decide (s9.1<((a1.aV.length:Nat):Int))) (
     cond (decide (s8.2.1=((a0.nodes.length:Nat):Int))) (
      thn (iX a1.aV s9.1) λpE =>
      cz (s9.2.length+1<=68719476736) <|
      vM ((i64.wrap (s9.1+1)),(s9.2++[pE]))) <|
     thn (iX a1.aV s9.1) λe11 =>
     thn (iX a0.nodes s8.2.1) λe12 =>
     cond (decide (e11.id<e12.id)) (
      cz (s9.2.length+1<=68719476736) <|
      vM ((i64.wrap (s9.1+1)),(s9.2++[e11]))) <|
     abw (s9.1,s9.2)) <|
    abw (s9.1,s9.2))
   fuel (s8.1,s8.2.2) λs9 =>
   cond (decide (s8.2.1<((a0.nodes.length:Nat):Int))) (
    thn (iX a0.nodes s8.2.1) λe13 =>
    cz (s9.2.length+1<=68719476736) <|
    xe (s9.1,(i64.wrap (s8.2.1+1)),(s9.2++[e13]))) <|
   xe (s9.1,(i64.wrap (s8.2.1+1)),s9.2)) <|
  aeG (s8.1,s8.2.1,s8.2.2))
 fuel (0,0,([]:List aj)) λs8 =>
 iter (λ(s14:Int×Int×(List ax)) ah1 azM =>
  cond (decide (s14.2.1<=((a0.ah.length:Nat):Int))) (
   iter (λ(s15:Int×(List ax)) azP azQ =>
    cond (decide (s15.1<((a1.bn.length:Nat):Int))) (
     cond (decide (s14.2.1=((a0.ah.length:Nat):Int))) (
      thn (iX a1.bn s15.1) λe16 =>
      cz (s15.2.length+1<=68719476736) <|
      azP ((i64.wrap (s15.1+1)),(s15.2++[e16]))) <|
     thn (iX a1.bn s15.1) λe17 =>
     thn (iX a0.ah s14.2.1) λe18 =>
     cond (decide (e17.id<e18.id)) (
      cz (s15.2.length+1<=68719476736) <|
      azP ((i64.wrap (s15.1+1)),(s15.2++[e17]))) <|
     azQ (s15.1,s15.2)) <|
    azQ (s15.1,s15.2))
   fuel (s14.1,s14.2.2) λs15 =>
   cond (decide (s14.2.1<((a0.ah.length:Nat):Int))) (
    thn (iX a0.ah s14.2.1) λe19 =>
    cz (s15.2.length+1<=68719476736) <|
    ah1 (s15.1,(i64.wrap (s14.2.1+1)),(s15.2++[e19]))) <|
   ah1 (s15.1,(i64.wrap (s14.2.1+1)),s15.2)) <|
  azM (s14.1,s14.2.1,s14.2.2))
 fuel (0,0,([]:List ax)) λs14 =>
 some ((⟨s8.2.2,s14.2.2⟩:aH),true)
def dg(a0:aH)(a1:Int):Option ay :=
 cz (a0.nodes.length<=fuel) <|
 bZ (λi2 (s2:(List Int)×(List (List Int))×(List Int)) bT fU =>
  thn (a0.nodes[i2]?) λe3 =>
  cz (s2.2.2.length+1<=68719476736) <|
  cz (s2.1.length+1<=68719476736) <|
  cz (e3.values.length<=68719476736) <|
  cz (s2.2.1.length+1<=68719476736) <|
  bT ((s2.1++[e3.type]),(s2.2.1++[e3.values]),(s2.2.2++[e3.id])))
 (a0.nodes.length-0) 0 (([]:List Int),([]:List (List Int)),([]:List Int)) λs2 =>
 cz (a0.ah.length<=fuel) <|
 bZ (λi4 (s4:(List Edge)×(List Int)) aeF aoo =>
  thn (a0.ah[i4]?) λe5 =>
  cz (s4.2.length+1<=68719476736) <|
  thn (bW s2.2.2 e5.src) λr6 =>
  thn (bW s2.2.2 e5.dst) λr7 =>
  cz (s4.1.length+1<=68719476736) <|
  aeF ((s4.1++[(⟨e5.type,r6,r7⟩:Edge)]),(s4.2++[e5.id])))
 (a0.ah.length-0) 0 (([]:List Edge),([]:List Int)) λs4 =>
 some (⟨⟨⟨s2.1,s4.1⟩,s2.2.1⟩,s2.2.2,s4.2,a1⟩:ay)
def dU(a0:Types)(a1:ay)(a2:aQ):Option (ay×Int) :=
 thn (gZ a2) λr3 =>
 cond (decide (r3=0)) (
  cond (decide (a2.next.x0=a1.next)) (
   thn (fe (⟨a1.host,a1.nodes,a1.ah,a1.next⟩:ay)) λr4 =>
   thn (fZ r4 a2) λr5 =>
   cond r5.2 (
    thn (ga r5.1 a2) λr6 =>
    cond r6.2 (
     thn (dg r6.1 a2.next.x1) λr7 =>
     thn (bO (⟨a0.nodes,a0.ah⟩:Types) r7) λr8 =>
     cond (decide (r8=0)) (
      some (r7,0)) <|
     some ((⟨(⟨(⟨([]:List Int),([]:List Edge)⟩:bE),([]:List (List Int))⟩:Host),([]:List Int),([]:List Int),0⟩:ay),1)) <|
    some ((⟨(⟨(⟨([]:List Int),([]:List Edge)⟩:bE),([]:List (List Int))⟩:Host),([]:List Int),([]:List Int),0⟩:ay),11)) <|
   some ((⟨(⟨(⟨([]:List Int),([]:List Edge)⟩:bE),([]:List (List Int))⟩:Host),([]:List Int),([]:List Int),0⟩:ay),11)) <|
  some ((⟨(⟨(⟨([]:List Int),([]:List Edge)⟩:bE),([]:List (List Int))⟩:Host),([]:List Int),([]:List Int),0⟩:ay),11)) <|
 some ((⟨⟨⟨[],[]⟩,[]⟩,[],[],0⟩:ay),r3)
def gy(a0:Types)(a1:ay)(a2:aQ):Option (ay×Int) :=
 thn (bO a0 a1) λr3 =>
 cond (decide (r3=0)) (
  thn (dU (⟨a0.nodes,a0.ah⟩:Types) (⟨a1.host,a1.nodes,a1.ah,a1.next⟩:ay) a2) λr4 =>
  some (r4.1,r4.2)) <|
 some ((⟨⟨⟨[],[]⟩,[]⟩,[],[],0⟩:ay),r3)
def fQ(a0:Types)(a1:ay)(a2:aQ)(a3:aQ):Option (aQ×Int) :=
 thn (gy (⟨a0.nodes,a0.ah⟩:Types) (⟨a1.host,a1.nodes,a1.ah,a1.next⟩:ay) a2) λr4 =>
 cond (decide (r4.2=0)) (
  thn (dU (⟨a0.nodes,a0.ah⟩:Types) r4.1 a3) λr5 =>
  cond (decide (r5.2=0)) (
   thn (eX (⟨a0.nodes,a0.ah⟩:Types) (⟨a1.host,a1.nodes,a1.ah,a1.next⟩:ay) r5.1) λr6 =>
   some (r6.1,r6.2)) <|
  some ((⟨([]:List aj),([]:List ax),([]:List aj),([]:List ax),([]:List aO),(⟨0,0⟩:dJ)⟩:aQ),r5.2)) <|
 some ((⟨[],[],[],[],[],⟨0,0⟩⟩:aQ),r4.2)
def eY(a0:Types)(a1:ay)(a2:eF):Option Bool :=
 thn (bu) λr3 =>
 cond r3 (
  thn (cU a0 a1) λr4 =>
  cond r4 (
   thn (dL a2.p) λr5 =>
   cond r5 (
    thn (dL a2.q) λr6 =>
    cond r6 (
     thn (cm a1) λr7 =>
     thn (eP a2.p) λr8 =>
     thn (eP a2.q) λr9 =>
     thn (fH a0 r7 r8 r9) λtT =>
     thn (fQ (⟨a0.nodes,a0.ah⟩:Types) (⟨a1.host,a1.nodes,a1.ah,a1.next⟩:ay) a2.p a2.q) λw6 =>
     cond (decide (tT.2=w6.2)) (
      thn (bR tT.1 w6.1) λy5 =>
      cond y5 (
       cond (decide (tT.2=0)) (
        thn (cV (⟨a0.nodes,a0.ah⟩:Types) (⟨a1.host,a1.nodes,a1.ah,a1.next⟩:ay) a2.p) λr13 =>
        thn (cV (⟨a0.nodes,a0.ah⟩:Types) r13.1 a2.q) λr14 =>
        thn (cV (⟨a0.nodes,a0.ah⟩:Types) (⟨a1.host,a1.nodes,a1.ah,a1.next⟩:ay) tT.1) λr15 =>
        cond (decide (r13.2=0)) (
         cond (decide (r14.2=0)) (
          cond (decide (r15.2=0)) (
           thn (eW r14.1 r15.1) λr16 =>
           some r16) <|
          some false) <|
         some false) <|
        some false) <|
       thn (bR tT.1 w6.1) λr17 =>
       some r17) <|
      thn (bR tT.1 w6.1) λr18 =>
      some r18) <|
     some false) <|
    thn (bu) λr19 =>
    some r19) <|
   thn (bu) λr20 =>
   some r20) <|
  thn (bu) λr21 =>
  some r21) <|
 thn (bu) λr22 =>
 some r22
def jf(a0:List dJ)(a1:List dJ):Option Types :=
 iter (λ(s2:Int×(List iy)) bT fU =>
  cond (decide (s2.1=0)) (
   cond (decide (s2.1<((a0.length:Nat):Int))) (
    thn (iX a0 s2.1) λe3 =>
    cz ((0:Int)<=s2.1/\s2.1<=(i64.wrap (s2.1+1))/\(i64.wrap (s2.1+1))<=((#[65,66,67,68,69,70]:Array UInt8).size:Int)) <|
    cz (¬ ((i64.wrap (s2.1+1))=0)) <|
    cz ((0:Int)<=s2.1/\s2.1<=(i64.wrap (s2.1+1))/\(i64.wrap (s2.1+1))<=((#[117,118,119,120,121,122]:Array UInt8).size:Int)) <|
    cond (decide ((e3.x1.tmod 4)=1)) (
     cz (s2.2.length+1<=68719476736) <|
     bT ((i64.wrap (s2.1+1)),(s2.2++[(⟨((⟨#[65,66,67,68,69,70]⟩:ByteArray).extract s2.1.toNat (i64.wrap (s2.1+1)).toNat),(i64.wrap (((i64.wrap e3.x0).tmod (i64.wrap (s2.1+1)))-1)),(decide (((IntKind.u8.wrap (e3.x0.tdiv 16)).tmod 4)=3)),[(⟨((⟨#[117,118,119,120,121,122]⟩:ByteArray).extract s2.1.toNat (i64.wrap (s2.1+1)).toNat),(-3),(i64.wrap (3+((i64.wrap (IntKind.u8.wrap (e3.x1.tdiv 4))).tmod 9))),([]:List ByteArray)⟩:Attr)]⟩:iy)]))) <|
    cond (decide ((e3.x1.tmod 4)=2)) (
     cz (s2.2.length+1<=68719476736) <|
     bT ((i64.wrap (s2.1+1)),(s2.2++[(⟨((⟨#[65,66,67,68,69,70]⟩:ByteArray).extract s2.1.toNat (i64.wrap (s2.1+1)).toNat),(i64.wrap (((i64.wrap e3.x0).tmod (i64.wrap (s2.1+1)))-1)),(decide (((IntKind.u8.wrap (e3.x0.tdiv 16)).tmod 4)=3)),[(⟨((⟨#[117,118,119,120,121,122]⟩:ByteArray).extract s2.1.toNat (i64.wrap (s2.1+1)).toNat),0,1,[(⟨#[111,102,102]⟩:ByteArray),(⟨#[111,110]⟩:ByteArray)]⟩:Attr)]⟩:iy)]))) <|
    cz (s2.2.length+1<=68719476736) <|
    bT ((i64.wrap (s2.1+1)),(s2.2++[(⟨((⟨#[65,66,67,68,69,70]⟩:ByteArray).extract s2.1.toNat (i64.wrap (s2.1+1)).toNat),(i64.wrap (((i64.wrap e3.x0).tmod (i64.wrap (s2.1+1)))-1)),(decide (((IntKind.u8.wrap (e3.x0.tdiv 16)).tmod 4)=3)),([]:List Attr)⟩:iy)]))) <|
   cz ((0:Int)<=s2.1/\s2.1<=(i64.wrap (s2.1+1))/\(i64.wrap (s2.1+1))<=((#[65,66,67,68,69,70]:Array UInt8).size:Int)) <|
   cz (¬ ((i64.wrap (s2.1+1))=0)) <|
   cz ((0:Int)<=s2.1/\s2.1<=(i64.wrap (s2.1+1))/\(i64.wrap (s2.1+1))<=((#[117,118,119,120,121,122]:Array UInt8).size:Int)) <|
   cond (decide (((0:Int).tmod 4)=1)) (
    cz (s2.2.length+1<=68719476736) <|
    bT ((i64.wrap (s2.1+1)),(s2.2++[(⟨((⟨#[65,66,67,68,69,70]⟩:ByteArray).extract s2.1.toNat (i64.wrap (s2.1+1)).toNat),(i64.wrap (((i64.wrap 0).tmod (i64.wrap (s2.1+1)))-1)),(decide (((IntKind.u8.wrap ((0:Int).tdiv 16)).tmod 4)=3)),[(⟨((⟨#[117,118,119,120,121,122]⟩:ByteArray).extract s2.1.toNat (i64.wrap (s2.1+1)).toNat),(-3),(i64.wrap (3+((i64.wrap (IntKind.u8.wrap ((0:Int).tdiv 4))).tmod 9))),([]:List ByteArray)⟩:Attr)]⟩:iy)]))) <|
   cond (decide (((0:Int).tmod 4)=2)) (
    cz (s2.2.length+1<=68719476736) <|
    bT ((i64.wrap (s2.1+1)),(s2.2++[(⟨((⟨#[65,66,67,68,69,70]⟩:ByteArray).extract s2.1.toNat (i64.wrap (s2.1+1)).toNat),(i64.wrap (((i64.wrap 0).tmod (i64.wrap (s2.1+1)))-1)),(decide (((IntKind.u8.wrap ((0:Int).tdiv 16)).tmod 4)=3)),[(⟨((⟨#[117,118,119,120,121,122]⟩:ByteArray).extract s2.1.toNat (i64.wrap (s2.1+1)).toNat),0,1,[(⟨#[111,102,102]⟩:ByteArray),(⟨#[111,110]⟩:ByteArray)]⟩:Attr)]⟩:iy)]))) <|
   cz (s2.2.length+1<=68719476736) <|
   bT ((i64.wrap (s2.1+1)),(s2.2++[(⟨((⟨#[65,66,67,68,69,70]⟩:ByteArray).extract s2.1.toNat (i64.wrap (s2.1+1)).toNat),(i64.wrap (((i64.wrap 0).tmod (i64.wrap (s2.1+1)))-1)),(decide (((IntKind.u8.wrap ((0:Int).tdiv 16)).tmod 4)=3)),([]:List Attr)⟩:iy)]))) <|
  cond (decide (s2.1<((a0.length:Nat):Int))) (
   cond (decide (s2.1<6)) (
    thn (iX a0 s2.1) λe4 =>
    cz ((0:Int)<=s2.1/\s2.1<=(i64.wrap (s2.1+1))/\(i64.wrap (s2.1+1))<=((#[65,66,67,68,69,70]:Array UInt8).size:Int)) <|
    cz (¬ ((i64.wrap (s2.1+1))=0)) <|
    cz ((0:Int)<=s2.1/\s2.1<=(i64.wrap (s2.1+1))/\(i64.wrap (s2.1+1))<=((#[117,118,119,120,121,122]:Array UInt8).size:Int)) <|
    cond (decide ((e4.x1.tmod 4)=1)) (
     cz (s2.2.length+1<=68719476736) <|
     bT ((i64.wrap (s2.1+1)),(s2.2++[(⟨((⟨#[65,66,67,68,69,70]⟩:ByteArray).extract s2.1.toNat (i64.wrap (s2.1+1)).toNat),(i64.wrap (((i64.wrap e4.x0).tmod (i64.wrap (s2.1+1)))-1)),(decide (((IntKind.u8.wrap (e4.x0.tdiv 16)).tmod 4)=3)),[(⟨((⟨#[117,118,119,120,121,122]⟩:ByteArray).extract s2.1.toNat (i64.wrap (s2.1+1)).toNat),(-3),(i64.wrap (3+((i64.wrap (IntKind.u8.wrap (e4.x1.tdiv 4))).tmod 9))),([]:List ByteArray)⟩:Attr)]⟩:iy)]))) <|
    cond (decide ((e4.x1.tmod 4)=2)) (
     cz (s2.2.length+1<=68719476736) <|
     bT ((i64.wrap (s2.1+1)),(s2.2++[(⟨((⟨#[65,66,67,68,69,70]⟩:ByteArray).extract s2.1.toNat (i64.wrap (s2.1+1)).toNat),(i64.wrap (((i64.wrap e4.x0).tmod (i64.wrap (s2.1+1)))-1)),(decide (((IntKind.u8.wrap (e4.x0.tdiv 16)).tmod 4)=3)),[(⟨((⟨#[117,118,119,120,121,122]⟩:ByteArray).extract s2.1.toNat (i64.wrap (s2.1+1)).toNat),0,1,[(⟨#[111,102,102]⟩:ByteArray),(⟨#[111,110]⟩:ByteArray)]⟩:Attr)]⟩:iy)]))) <|
    cz (s2.2.length+1<=68719476736) <|
    bT ((i64.wrap (s2.1+1)),(s2.2++[(⟨((⟨#[65,66,67,68,69,70]⟩:ByteArray).extract s2.1.toNat (i64.wrap (s2.1+1)).toNat),(i64.wrap (((i64.wrap e4.x0).tmod (i64.wrap (s2.1+1)))-1)),(decide (((IntKind.u8.wrap (e4.x0.tdiv 16)).tmod 4)=3)),([]:List Attr)⟩:iy)]))) <|
   fU (s2.1,s2.2)) <|
  fU (s2.1,s2.2))
 fuel (0,([]:List iy)) λs2 =>
 iter (λ(s5:Int×(List nW)) oL xb =>
  cond (decide (s5.1<((a1.length:Nat):Int))) (
   cond (decide (s5.1<5)) (
    cz ((0:Int)<=s5.1/\s5.1<=(i64.wrap (s5.1+1))/\(i64.wrap (s5.1+1))<=((#[101,102,103,104,105]:Array UInt8).size:Int)) <|
    thn (iX a1 s5.1) λe6 =>
    cz (¬ (((s2.2.length:Nat):Int)=0)) <|
    cz (¬ (((s2.2.length:Nat):Int)=0)) <|
    cz (s5.2.length+1<=68719476736) <|
    oL ((i64.wrap (s5.1+1)),(s5.2++[(⟨((⟨#[101,102,103,104,105]⟩:ByteArray).extract s5.1.toNat (i64.wrap (s5.1+1)).toNat),((i64.wrap e6.x0).tmod ((s2.2.length:Nat):Int)),((i64.wrap e6.x1).tmod ((s2.2.length:Nat):Int)),0,(-1),0,(-1)⟩:nW)]))) <|
   xb (s5.1,s5.2)) <|
  xb (s5.1,s5.2))
 fuel (0,([]:List nW)) λs5 =>
 some (⟨s2.2,s5.2⟩:Types)
def gG(a0:Types):Option (List Int) :=
 cz (a0.nodes.length<=fuel) <|
 bZ (λi1 (s1:(List Int)) jM tP =>
  thn (a0.nodes[i1]?) λe2 =>
  cond e2.abs (
   jM s1) <|
  cz (s1.length+1<=68719476736) <|
  jM (s1++[((i1:Nat):Int)]))
 (a0.nodes.length-0) 0 ([]:List Int) λs1 =>
 some s1
def gT(a0:Types)(a1:dP):Option Host :=
 thn (gG a0) λr2 =>
 iter (λ(s3:Int×(List Int)×(List (List Int))) gE oK =>
  cond (decide (s3.1<((a1.nodes.length:Nat):Int))) (
   cond (decide (s3.1<8)) (
    cond (decide (0<((r2.length:Nat):Int))) (
     thn (iX a1.nodes s3.1) λe4 =>
     cz (¬ (((r2.length:Nat):Int)=0)) <|
     thn (iX r2 ((i64.wrap e4.x0).tmod ((r2.length:Nat):Int))) λe5 =>
     thn (mG a0 e5) λr6 =>
     cz (r6.1.length<=fuel) <|
     bZ (λi7 (s7:(List Int)) xd akc =>
      thn (r6.1[i7]?) λe8 =>
      cz (¬ ((i64.wrap ((i64.wrap (e8.high-e8.low))+1))=0)) <|
      cz (s7.length+1<=68719476736) <|
      xd (s7++[(i64.wrap (e8.low+((i64.wrap ((i64.wrap e4.x1)+(i64.wrap (7 * ((i7:Nat):Int))))).tmod (i64.wrap ((i64.wrap (e8.high-e8.low))+1)))))]))
     (r6.1.length-0) 0 ([]:List Int) λs7 =>
     cz (s3.2.1.length+1<=68719476736) <|
     cz (s3.2.2.length+1<=68719476736) <|
     gE ((i64.wrap (s3.1+1)),(s3.2.1++[e5]),(s3.2.2++[s7]))) <|
    oK (s3.1,s3.2.1,s3.2.2)) <|
   oK (s3.1,s3.2.1,s3.2.2)) <|
  oK (s3.1,s3.2.1,s3.2.2))
 fuel (0,([]:List Int),([]:List (List Int))) λs3 =>
 iter (λ(s9:Int×(List Edge)) vM abw =>
  cond (decide (s9.1<((a1.ah.length:Nat):Int))) (
   cond (decide (s9.1<10)) (
    cond (decide (0<((s3.2.1.length:Nat):Int))) (
     cond (decide (0<((a0.ah.length:Nat):Int))) (
      thn (iX a1.ah s9.1) λpE =>
      cz (¬ (((a0.ah.length:Nat):Int)=0)) <|
      cz (¬ (((s3.2.1.length:Nat):Int)=0)) <|
      cz (¬ (((s3.2.1.length:Nat):Int)=0)) <|
      thn (iX s3.2.1 ((i64.wrap pE.x1).tmod ((s3.2.1.length:Nat):Int))) λe11 =>
      thn (iX s3.2.1 ((i64.wrap pE.x2).tmod ((s3.2.1.length:Nat):Int))) λe12 =>
      thn (ri a0 ((i64.wrap pE.x0).tmod ((a0.ah.length:Nat):Int)) e11 e12) λr13 =>
      cond r13 (
       cz (s9.2.length+1<=68719476736) <|
       vM ((i64.wrap (s9.1+1)),(s9.2++[(⟨((i64.wrap pE.x0).tmod ((a0.ah.length:Nat):Int)),((i64.wrap pE.x1).tmod ((s3.2.1.length:Nat):Int)),((i64.wrap pE.x2).tmod ((s3.2.1.length:Nat):Int))⟩:Edge)]))) <|
      vM ((i64.wrap (s9.1+1)),s9.2)) <|
     abw (s9.1,s9.2)) <|
    abw (s9.1,s9.2)) <|
   abw (s9.1,s9.2)) <|
  abw (s9.1,s9.2))
 fuel (0,([]:List Edge)) λs9 =>
 some (⟨⟨s3.2.1,s9.2⟩,s3.2.2⟩:Host)
def gU(a0:bC):Option (Types×ay) :=
 thn (jf a0.types a0.ends) λr1 =>
 thn (gT r1 a0.host) λr2 =>
 thn (ir r1 r2) λr3 =>
 some (r1,r3.1)
def fR(a0:ay)(a1:Bool)(a2:Int):Option ay :=
 thn (fe a0) λr3 =>
 cond a1 (
  thn (iX r3.ah a2) λe4 =>
  thn (cG r3 e4) λr5 =>
  thn (dg r5.1 a0.next) λr6 =>
  some r6) <|
 thn (iX r3.nodes a2) λe7 =>
 thn (cg r3 e7) λr8 =>
 thn (dg r8.1 a0.next) λr9 =>
 some r9
def hU(a0:Types)(a1:ay)(a2:eB):Option ay :=
 thn (cm a1) λr3 =>
 cond (decide (((i64.wrap a2.x0).tmod 5)=0)) (
  cond (decide (0<((a1.nodes.length:Nat):Int))) (
   cz (¬ (((a1.nodes.length:Nat):Int)=0)) <|
   thn (iX r3.host.values ((i64.wrap a2.x1).tmod ((a1.nodes.length:Nat):Int))) λe4 =>
   cond (decide (0<((e4.length:Nat):Int))) (
    cz (¬ (((e4.length:Nat):Int)=0)) <|
    cz (¬ (((e4.length:Nat):Int)=0)) <|
    thn (iX e4 ((i64.wrap a2.x2).tmod ((e4.length:Nat):Int))) λe5 =>
    some (⟨(⟨r3.host.graph,(r3.host.values.set (((i64.wrap a2.x1).tmod ((a1.nodes.length:Nat):Int)).toNat) (e4.set (((i64.wrap a2.x2).tmod ((e4.length:Nat):Int)).toNat) (i64.wrap (e5+1))))⟩:Host),r3.nodes,r3.ah,r3.next⟩:ay)) <|
   some r3) <|
  some r3) <|
 cond (decide (((i64.wrap a2.x0).tmod 5)=1)) (
  cond (decide (0<((a1.nodes.length:Nat):Int))) (
   cz (¬ (((a1.nodes.length:Nat):Int)=0)) <|
   thn (fR a1 false ((i64.wrap a2.x1).tmod ((a1.nodes.length:Nat):Int))) λr6 =>
   some r6) <|
  some r3) <|
 cond (decide (((i64.wrap a2.x0).tmod 5)=2)) (
  cond (decide (0<((a1.ah.length:Nat):Int))) (
   cz (¬ (((a1.ah.length:Nat):Int)=0)) <|
   thn (fR a1 true ((i64.wrap a2.x1).tmod ((a1.ah.length:Nat):Int))) λr7 =>
   some r7) <|
  some r3) <|
 cond (decide (((i64.wrap a2.x0).tmod 5)=3)) (
  thn (gT a0 (⟨[(⟨a2.x1,a2.x2⟩:dJ)],[]⟩:dP)) λr8 =>
  cond (decide (((r8.graph.nodes.length:Nat):Int)=1)) (
   thn (r8.values[0]?) λe9 =>
   thn (r8.graph.nodes[0]?) λpE =>
   cz (r3.host.graph.nodes.length+1<=68719476736) <|
   cz (r3.host.values.length+1<=68719476736) <|
   cz (r3.nodes.length+1<=68719476736) <|
   some (⟨(⟨(⟨(r3.host.graph.nodes++[pE]),r3.host.graph.ah⟩:bE),(r3.host.values++[e9])⟩:Host),(r3.nodes++[r3.next]),r3.ah,(i64.wrap (r3.next+1))⟩:ay)) <|
  some r3) <|
 cond (decide (((i64.wrap a2.x0).tmod 5)=4)) (
  cond (decide (0<((a1.nodes.length:Nat):Int))) (
   cond (decide (0<((a0.ah.length:Nat):Int))) (
    cz (¬ (((a0.ah.length:Nat):Int)=0)) <|
    cz (¬ (((a1.nodes.length:Nat):Int)=0)) <|
    cz (¬ (((a1.nodes.length:Nat):Int)=0)) <|
    cz (r3.host.graph.ah.length+1<=68719476736) <|
    cz (r3.ah.length+1<=68719476736) <|
    some (⟨(⟨(⟨r3.host.graph.nodes,(r3.host.graph.ah++[(⟨((i64.wrap a2.x1).tmod ((a0.ah.length:Nat):Int)),((i64.wrap ((i64.wrap a2.x1).tdiv 5)).tmod ((a1.nodes.length:Nat):Int)),((i64.wrap a2.x2).tmod ((a1.nodes.length:Nat):Int))⟩:Edge)])⟩:bE),r3.host.values⟩:Host),r3.nodes,(r3.ah++[r3.next]),(i64.wrap (r3.next+1))⟩:ay)) <|
   some r3) <|
  some r3) <|
 some r3
def eS(a0:Types)(a1:ay)(a2:List eB):Option ay :=
 cz (a2.length<=fuel) <|
 bZ (λi3 (s3:(List Int)×(List Edge)×(List (List Int))×(List Int)×(List Int)×Int) gE oK =>
  thn (a2[i3]?) λe4 =>
  thn (hU a0 (⟨⟨⟨s3.1,s3.2.1⟩,s3.2.2.1⟩,s3.2.2.2.1,s3.2.2.2.2.1,s3.2.2.2.2.2⟩:ay) e4) λr5 =>
  thn (bO a0 r5) λr6 =>
  cond (decide (r6=0)) (
   gE (r5.host.graph.nodes,r5.host.graph.ah,r5.host.values,r5.nodes,r5.ah,r5.next)) <|
  gE (s3.1,s3.2.1,s3.2.2.1,s3.2.2.2.1,s3.2.2.2.2.1,s3.2.2.2.2.2))
 (a2.length-0) 0 (a1.host.graph.nodes,a1.host.graph.ah,a1.host.values,a1.nodes,a1.ah,a1.next) λs3 =>
 some (⟨⟨⟨s3.1,s3.2.1⟩,s3.2.2.1⟩,s3.2.2.2.1,s3.2.2.2.2.1,s3.2.2.2.2.2⟩:ay)
def jh(a0:List aj):Option (List aj) :=
 cz (a0.length<=fuel) <|
 bZ (λi1 (s1:(List aj)) jM tP =>
  thn (a0[i1]?) λe2 =>
  thn (cZ e2.values) λr3 =>
  cz (s1.length+1<=68719476736) <|
  jM (s1++[(⟨e2.id,e2.type,r3⟩:aj)]))
 (a0.length-0) 0 ([]:List aj) λs1 =>
 some s1
def iC(l:List ax):Option (List ax):=giv (l.length<=1000000) l
def ij(a0:Types)(a1:ay)(a2:aQ):Option (aQ×Int) :=
 thn (cV a0 a1 a2) λr3 =>
 cond (decide (r3.2=0)) (
  thn (jh a2.aV) λr4 =>
  thn (iC a2.bn) λr5 =>
  thn (jh a2.aG) λr6 =>
  thn (iC a2.aM) λr7 =>
  cz (a2.values.length<=fuel) <|
  bZ (λi8 (s8:(List aO)) xe aeG =>
   thn (a2.values[i8]?) λe9 =>
   cz (s8.length+1<=68719476736) <|
   xe (s8++[(⟨e9.id,e9.attr,e9.new,e9.old⟩:aO)]))
  (a2.values.length-0) 0 ([]:List aO) λs8 =>
  some ((⟨r4,r5,r6,r7,s8,(⟨a2.next.x1,a2.next.x0⟩:dJ)⟩:aQ),0)) <|
 some ((⟨[],[],[],[],[],⟨0,0⟩⟩:aQ),r3.2)
def fG(a0:bC)(a1:List eB):Option Bool :=
 thn (bu) λr2 =>
 cond r2 (
  cond (decide (8<((a1.length:Nat):Int))) (
   thn (bu) λr3 =>
   some r3) <|
  thn (gU a0) λr4 =>
  thn (eS r4.1 r4.2 a1) λr5 =>
  thn (dW r4.1 r4.2 r5) λr6 =>
  thn (cV r4.1 r4.2 r6.1) λr7 =>
  thn (ij r4.1 r4.2 r6.1) λr8 =>
  thn (dW r4.1 r5 r4.2) λr9 =>
  thn (cV r4.1 r5 r8.1) λtT =>
  cond (decide (r6.2=0)) (
   cond (decide (r7.2=0)) (
    cond (decide (r8.2=0)) (
     cond (decide (r9.2=0)) (
      cond (decide (tT.2=0)) (
       thn (eW r7.1 r5) λw6 =>
       cond w6 (
        thn (bR r8.1 r9.1) λy5 =>
        cond y5 (
         thn (eW tT.1 r4.2) λr13 =>
         some r13) <|
        some false) <|
       some false) <|
      some false) <|
     some false) <|
    some false) <|
   some false) <|
  some false) <|
 thn (bu) λr14 =>
 some r14
def eR(a0:bC)(a1:List eB)(a2:List eB):Option Bool :=
 thn (bu) λr3 =>
 cond r3 (
  cond (decide (6<((a1.length:Nat):Int))) (
   thn (bu) λr4 =>
   some r4) <|
  cond (decide (6<((a2.length:Nat):Int))) (
   thn (bu) λr5 =>
   some r5) <|
  thn (gU a0) λr6 =>
  thn (eS r6.1 r6.2 a1) λr7 =>
  thn (eS r6.1 r7 a2) λr8 =>
  thn (dW r6.1 r6.2 r7) λr9 =>
  thn (dW r6.1 r7 r8) λtT =>
  thn (dW r6.1 r6.2 r8) λw6 =>
  thn (fH r6.1 r6.2 r9.1 tT.1) λy5 =>
  thn (ij r6.1 r6.2 r9.1) λr13 =>
  thn (fH r6.1 r6.2 r9.1 r13.1) λr14 =>
  cond (decide (r9.2=0)) (
   cond (decide (tT.2=0)) (
    cond (decide (w6.2=0)) (
     cond (decide (y5.2=0)) (
      cond (decide (r13.2=0)) (
       cond (decide (r14.2=0)) (
        thn (bR w6.1 y5.1) λr15 =>
        cond r15 (
         thn (bR r14.1 (⟨[],[],[],[],[],⟨r6.2.next,r6.2.next⟩⟩:aQ)) λr16 =>
         some r16) <|
        some false) <|
       some false) <|
      some false) <|
     some false) <|
    some false) <|
   some false) <|
  some false) <|
 thn (bu) λr17 =>
 some r17
end
end Go.Proofs.YteambpeibacfpaaGreat
namespace Go.SortM
open Go.b7 hiding flatK
open Go.RowKit Go.Shelf Go.Sort Go.Proofs
variable{P:Program}{ρ:Ren}{α:Type} [Inhabited α]
omit [Inhabited α] in
theorem flatMap_eq(enc:α->List Value)(d:List α):d.flatMap enc=(d.map enc).flatten:=by rw[flatMap_def]
theorem flatK_list{enc:α->List Value}{k:Nat}(hk:∀x,(enc x).length=k)(h0:0<k)(d:List α):flatK enc k d.toArray=(d.flatMap enc).toArray:=by
 have hall:∀e∈d.map enc,e.length=k:=λe he=>by obtain⟨x,_,rfl⟩:=mem_map.1 he;exact hk x
 have hlen:(d.flatMap enc).length=d.length * k:=by rw[flatMap_eq,bJ hall,length_map]
 apply Array.ext
 ·simp[hlen]
 ·intro t h1 h2;have ht:t<d.length * k:=by simpa using h1
  have hd:t / k<d.length:=(Nat.div_lt_iff_lt_mul h0).2 ht;have hm:t % k<k:=Nat.mod_lt _ h0;have e1:(flatK enc k d.toArray)[t]=(flatK enc k d.toArray)[t]!:=(getElem!_pos _ t h1).symm;rw[e1,get_flatK enc k d.toArray t (by simpa using ht)];have e2:=ic hall (t / k) (t % k) (by simpa using hd) hm;rw[Nat.div_add_mod' t k,<-flatMap_eq] at e2;have e3:(d.map enc).getD (t / k) []=enc d[t / k]:=by simp[hd]
  rw[e3] at e2;have e4:d.toArray[t / k]! = d[t / k]:=by simp[hd]
  rw[e4];have hl:t % k<(enc d[t / k]).length:=by rw[hk];exact hm
  have h2':t<(d.flatMap enc).length:=by simpa using h2
  rw[getElem?_eq_getElem h2',getElem?_eq_getElem hl] at e2;have e5:=Option.some.inj e2;rw[getElem!_pos (enc d[t / k]) (t % k) hl];simpa using e5.symm
theorem grown_sortWorldK(enc:α->List Value)(k:Nat)(w:World)(g n:Nat)(d:Array α)(os:Array Obj):w.grownBy (sortWorldK enc k w g 0 n d os) (some g) where
 os:=rfl
 tape:=rfl
 output:=rfl
 size:=by simp[sortWorldK,grow,putRowK,putRow,mapBlock,Sort.ahead]
 block:=λb hb hn=>by
  have:g≠b:=λh=>hn (by rw[h])
  simp[sortWorldK,grow,putRowK,putRow,mapBlock,Sort.ahead,Array.getElem?_append,hb,Array.getElem?_modify,this];rw[Array.getElem_modify,if_neg this]
theorem row_sortWorldK(enc:α->List Value)(k:Nat)(w:World)(g n m:Nat)(d:Array α)(os:Array Obj){cur:Array Value}{e:TypeId}(hg:w.heap[g]? = some (.cells cur e (0,0)))(hm:d.size * k=m)(hle:m<=cur.size) :
  ∃cur',(sortWorldK enc k w g 0 n d os).heap[g]? = some (.cells cur' e (0,0))/\cur'.size=cur.size/\cur'.toList.take m=(flatK enc k d).toList:=by
 have hlt:g<w.heap.size:=(Array.getElem?_eq_some_iff.1 hg).1;refine⟨putCells id 0 (flatK enc k d) cur,?_,by simp[putCells],?_⟩
 ·simp[sortWorldK,grow,putRowK,putRow,mapBlock,Sort.ahead,Array.getElem?_append,hlt,Array.getElem?_modify,hg,onCells];rw[Array.getElem_modify,if_pos rfl,(Array.getElem?_eq_some_iff.1 hg).2];rfl
 ·apply ext_getElem
  ·simp[putCells,hm];omega
  ·intro t h1 h2;have ht:t<d.size * k:=by simpa using h2
   have htc:t<cur.size:=by omega
   have hf:t<(flatK enc k d).size:=by simpa using ht
   simp[putCells,ht]
end Go.SortM
namespace Go.b7
open Go.RowKit
variable{P:Program}
theorem aro{f:FuncId}{v:Nat}{e:TypeId}{sz:Nat}{es es':List (List PV)}{ps:List PV}(hc:gA P f=true)(hlen:es'.length=es.length)(hsz:∀x∈es',x.length=sz)
  (h:∀ (B:Nat) (I:Mem) (w:World) (hdr:Value) (us vs:List Value),B<=w.heap.size->I.inW w->qK w B I hdr e sz es us->hdr.oneCell'=true->VRs I vs ps ->
   ∃ws:List Value,ws.length=es.length * sz/\(∀u∈ws,u.oneCell'=true)/\(∀ (j:Nat) u c,ws[j]? = some u->es'.flatten[j]? = some c->VR I u c) /\
   Calls P f (hdr :: vs).toArray w λx w'=>x = .returned (.tuple #[])/\alw w w' hdr (es.length * sz) ws) :
  mb P f v e sz es ps (λa c=>a = .dH []/\c=some (.row v e sz es')):=by
 refine⟨hc,λB I w hdr us vs hB hI hr h1 hv=>?_⟩;obtain⟨ws,hwl,hone,hval,ajX⟩:=h B I w hdr us vs hB hI hr h1 hv;refine ajX.mono ?_;rintro x w' ⟨rfl,hg,hrow⟩;let L:bA:=λi=>if i=1000000 then some (.row v hdr sz) else none
 have hL:∀i l,L i=some l->i=1000000/\l = .row v hdr sz:=λi l h=>by
  simp only[L] at h;split at h
  ·rename_i hi;exact⟨hi,by simpa using h.symm⟩
  ·cases h
 have hblk:∀b,hdr.ownBlock=some b->B<=b/\b<w.heap.size:=λb hb=>td hr.own hb
 refine⟨.tuple #[],.dH [],br ct 1000000 (.row v e sz es'),I,L,rfl,⟨rfl,by simp[br]⟩,.dH [] [] rfl (by simp),?_⟩;exact
 {below:=⟨hg.os,hg.tape,hg.output,hg.size,λk hk=>hg.block k (Nat.lt_of_lt_of_le hk hB) λhb=>by have:=(hblk k hb.symm).1;have:k<B:=hk;omega⟩
  mem:=hI.keep λb ⟨o,u,hu⟩=>hg.block b (hI.lt hu) λhb=>by rw[hr.free b hb.symm o] at hu;cases hu
  lW:=Mem.eA I
  mS:=λ_ _ _ _=>rfl
  frame:=λb hb hn=>hg.block b hb λhb'=>hn hb'.symm
  loc:=dS.refl _
  jO:=λid l b hl hb=>by obtain⟨_,rfl⟩:=hL id l hl;exact .inr hb
  size:=rfl
  env:=λt=>.dead _
  dom:=λi l hl=>by obtain⟨rfl,rfl⟩:=hL i l hl;exact⟨.row v e sz es',by simp[br]⟩
  chunk:=λi ch hch=>by
   by_cases hi:i=1000000
   ·subst hi;have:Chunk.row v e sz es'=ch:=by simpa[br] using hch
    subst this;refine⟨hdr,ws,by simp[L],⟨by rw[hlen];exact hwl,?_⟩,hr.pos,hsz,hval,hone,hr.free⟩;rcases hr.own.2 with ⟨e1,e2⟩|⟨g,cap,cur,rfl,g1,g2,g3,g4,g5,g6⟩
    ·exact .inl ⟨e1,by rw[hlen];exact e2⟩
    ·obtain⟨cur',k1,k2,k3⟩:=hrow g rfl cur e g2 (by rw[g5];exact Nat.mul_le_mul_right sz g3);exact .inr ⟨g,cap,cur',by rw[hlen],g1,k1,by rw[hlen];exact g3,g4,by rw[k2];exact g5,by rw[hlen];exact k3⟩
   ·have:ct i=some ch:=by simpa[br,hi] using hch
    cases this
  fT:=λi l b hl hb=>by obtain⟨rfl,rfl⟩:=hL i l hl;have:=hblk b hb;exact⟨this.1,Nat.lt_of_lt_of_le this.2 hg.size⟩
  apart:=λi j li lj b hi hj _ _=>by rw[(hL i li hi).1,(hL j lj hj).1] }
end Go.b7
namespace Go.SortM
open Go.b7 hiding flatK
open Go.RowKit Go.Shelf Go.Sort Go.Proofs
variable{P:Program}{ρ:Ren}{α:Type} [Inhabited α]
def Raw(enc:α->List PV)(k:Nat)(x:α)(xs:List Value):Prop:=xs.length=k/\∀ (j:Nat) u c,xs[j]? = some u->(enc x)[j]? = some c->∃I,VR I u c
theorem chunks_get{us:List Value}{n k:Nat}(h:us.length=n * k)(i j:Nat)(hi:i<n)(hj:j<k):((us.drop (i * k)).take k)[j]? = us[i * k+j]?:=by rw[getElem?_take,if_pos hj,getElem?_drop]
theorem chunks_len{us:List Value}{n k:Nat}(h:us.length=n * k)(i:Nat)(hi:i<n):((us.drop (i * k)).take k).length=k:=by have:(i+1) * k<=n * k:=Nat.mul_le_mul_right _ hi;rw[Nat.add_mul] at this;rw[length_take,length_drop];omega
theorem chunks_all{us:List Value}{n k:Nat}(h0:0<k)(h:us.length=n * k):(finRange n).flatMap (λi=>(us.drop (i.1 * k)).take k)=us:=by
 have hall:∀e∈(finRange n).map λi=>(us.drop (i.1 * k)).take k,e.length=k:=λe he=>by obtain⟨i,_,rfl⟩:=mem_map.1 he;exact chunks_len h i.1 i.2
 rw[flatMap_def];apply ext_getElem?;intro t;rcases Nat.lt_or_ge t (n * k) with ht|ht
 ·have hd:t / k<n:=(Nat.div_lt_iff_lt_mul h0).2 ht;have hm:t % k<k:=Nat.mod_lt _ h0;have e2:=ic hall (t / k) (t % k) (by simpa using hd) hm;rw[Nat.div_add_mod' t k] at e2;rw[e2];have e3:((finRange n).map λi=>(us.drop (i.1 * k)).take k).getD (t / k) []=(us.drop (t / k * k)).take k:=by simp[hd]
  rw[e3,chunks_get h _ _ hd hm,Nat.div_add_mod' t k]
 ·rw[getElem?_eq_none (by rw[bJ hall,length_map,length_finRange];exact ht),getElem?_eq_none (by omega)]
omit [Inhabited α] in
theorem rel_flatMap{I:Mem}{β:Type}(f:β->List Value)(g:β->List PV)(hl:∀x,(f x).length=(g x).length)(hv:∀x,∀ (j:Nat) u c,(f x)[j]? = some u->(g x)[j]? = some c->VR I u c):∀l:List β,∀ (j:Nat) u c,(l.flatMap f)[j]? = some u->(l.map g).flatten[j]? = some c->VR I u c
 | [],j,u,c,h,_=>by simp at h
 |x :: r,j,u,c,hu,hc=>by rw[flatMap_cons] at hu;rw[map_cons,flatten_cons] at hc;exact ady (hl x) (hv x) (rel_flatMap f g hl hv r) j u c hu hc
theorem callM_sortG(L:SlLaysF0.n6 P ρ)(k:Nat)(h0:0<k)(aE:∀w,(isAgg (ρ.t 24)).run P w = .ok true w)(zE:∀w,(Go.sizeOf (ρ.t 24)).run P w = .ok k w)(enc:α->List PV)(hk:∀x,(enc x).length=k)
  (cf:α->α->Int) (hO:SWO (ltOf cf)) (g:FuncId) (eg:∀args w,(callFunc g args).run P w = .ok (.enter g args) w)
  (hcmp:∀x y xs ys W,Raw enc k x xs->Raw enc k y ys->Calls P g #[.agg xs.toArray,.agg ys.toArray] W λe w'=>e = .returned (.int .i64 (cf x y))/\∃q os',w'=grow (W.drewN q) os')
  (hc:gA P (ρ.f 6)=true) (d:List α) (hd:d.length<4611686018427387904) (hT:∀i j,i<d.length->j<d.length->(ltOf cf) (d.getD i default) (d.getD j default)=false->(ltOf cf) (d.getD j default) (d.getD i default)=false->i=j) (v:Nat) (e:TypeId) :
  mb P (ρ.f 6) v e k (d.map enc) [.jk (.func g) [] []] (λa c=>a = .dH []/\c=some (.row v e k ((d.mergeSort λx y=>!(ltOf cf) y x).map enc))):=by
 have hlen:(d.mergeSort λx y=>!(ltOf cf) y x).length=d.length:=length_mergeSort _;refine aro hc (by simp[hlen]) (λx hx=>?_) ?_
 ·obtain⟨y,_,rfl⟩:=mem_map.1 hx;exact hk y
 intro B I w hdr us vs hB hI hr hone hv;have hvs:vs=[.func (.func g) #[] #[]]:=by
  match vs,hv with
  | [],hv=>have:=hv.1;simp at this
  | [x],hv =>
   have:=hv.2 0 x _ rfl rfl;cases this with
   |jk _ us vs _ _ hl hl' _ _=>have e1:us=[]:=length_eq_zero_iff.1 (by simpa using hl);have e2:vs=[]:=length_eq_zero_iff.1 (by simpa using hl');subst e1 e2;rfl
  |_ :: _ :: _,hv=>have:=hv.1;simp at this
 subst hvs;have hn:(d.map enc).length=d.length:=length_map _;rcases hr.own.2 with ⟨rfl,hn0⟩|⟨b,cap,cur,rfl,g1,g2,g3,g4,g5,g6⟩
 ·have hd0:d=[]:=by simpa using hn0
  subst hd0;refine⟨[],by simp,by simp,by simp,(AnyF.slices_SortFunc_none L none 0 _ w).mono ?_⟩;rintro x w' ⟨rfl,rfl⟩;exact⟨rfl,⟨rfl,rfl,rfl,Nat.le_refl _,λ_ _ _=>rfl⟩,λg hg=>by cases hg⟩
 ·rw[hn] at g3 g6 ⊢;rcases Nat.eq_zero_or_pos d.length with hz|hpos
  ·have hd0:d=[]:=length_eq_zero_iff.1 hz;subst hd0;refine⟨[],by simp,by simp,by simp,(AnyF.slices_SortFunc_none L (some ⟨b,0,none⟩) cap _ w).mono ?_⟩;rintro x w' ⟨rfl,rfl⟩;refine⟨rfl,⟨rfl,rfl,rfl,Nat.le_refl _,λ_ _ _=>rfl⟩,λg hg cur' e' hg' hle=>⟨cur',hg',rfl,?_⟩⟩;simp
  have hul:us.length=d.length * k:=by have:=hr.own.1;rw[hn] at this;exact this
  let aeH:Fin d.length->List Value:=λi=>(us.drop (i.1 * k)).take k
  let f:Fin d.length->α:=λi=>d.getD i.1 default
  have hdf:(finRange d.length).map f=d:=by
   apply ext_getElem
   ·simp
   ·intro t h1 h2;simp[f,h2]
  haveI:Inhabited (Fin d.length):=⟨⟨0,hpos⟩⟩
  have hkR:∀i,(aeH i).length=k:=λi=>chunks_len hul i.1 i.2
  have h1R:∀i,∀u∈aeH i,u.oneCell'=true:=λi u hu=>hr.one u (mem_of_mem_drop (mem_of_mem_take hu))
  have hall:∀z∈d.map enc,z.length=k:=λz hz=>by obtain⟨y,_,rfl⟩:=mem_map.1 hz;exact hk y
  have hvR:∀i:Fin d.length,∀ (j:Nat) u c,(aeH i)[j]? = some u->(enc (f i))[j]? = some c->VR I u c:=λi j u c hu hc=>by
   have hj:j<k:=by have:=(List.getElem?_eq_some_iff.1 hu).1;rw[hkR] at this;exact this
   have e1:us[i.1 * k+j]? = some u:=by rw[<-chunks_get hul i.1 j i.2 hj];exact hu
   have e2:=ic hall i.1 j (by simp) hj;have e3:(d.map enc).getD i.1 []=enc (f i):=by simp[f]
   rw[e3,hc] at e2;exact hr.val _ u c e1 e2
  have y9:∀i,Raw enc k (f i) (aeH i):=λi=>⟨hkR i,λj u c hu hc=>⟨I,hvR i j u c hu hc⟩⟩
  have hfl:(finRange d.length).flatMap aeH=us:=chunks_all h0 hul;have hH:HoldsK aeH k w b 0 (finRange d.length).toArray:=by
   unfold HoldsK;rw[flatK_list hkR h0,hfl];intro j hj;have hj':j<us.length:=by simpa using hj
   refine⟨?_,frozen_of_row w b _ cur _ g2⟩;rw[Nat.zero_add,gM g2];have:us[j]? = cur.toList[j]?:=by rw[<-g6,getElem?_take,if_pos];omega
   have h7:cur[j]? = us[j]?:=by rw[this];simp
   rw[h7,getElem?_eq_getElem hj'];simp[hj']
  have hb:b<w.heap.size:=(Array.getElem?_eq_some_iff.1 g2).1;let cR:Fin d.length->Fin d.length->Int:=λi j=>cf (f i) (f j)
  have hOR:SWO (ltOf cR) :=
   {irrefl:=λx=>hO.irrefl (f x)
    trans:=λx y z h1 h2=>hO.trans (f x) (f y) (f z) h1 h2
    ntrans:=λx y z h1 h2=>hO.ntrans (f x) (f y) (f z) h1 h2 }
  have hTR:∀x y,(ltOf cR) x y=false->(ltOf cR) y x=false->x=y:=λx y h1 h2=>Fin.ext (hT x.1 y.1 x.2 y.2 h1 h2)
  have hms:((finRange d.length).mergeSort λx y=>!(ltOf cR) y x).map f=d.mergeSort λx y=>!(ltOf cf) y x:=by have h2:=map_mergeSort (r:=λx y=>!(ltOf cR) y x) (s:=λx y=>!(ltOf cf) y x) (f:=f) (l:=finRange d.length) (λa _ b _=>rfl);rw[hdf] at h2;exact h2
  have hsl:((finRange d.length).mergeSort λx y=>!(ltOf cR) y x).length=d.length:=by rw[length_mergeSort,length_finRange]
  refine⟨((finRange d.length).mergeSort λx y=>!(ltOf cR) y x).flatMap aeH,?_,λu hu=>?_,?_,?_⟩
  ·have h2:∀z∈((finRange d.length).mergeSort λx y=>!(ltOf cR) y x).map aeH,z.length=k:=λz hz=>by obtain⟨y,_,rfl⟩:=mem_map.1 hz;exact hkR y
   rw[flatMap_def,bJ h2,length_map,hsl]
  ·obtain⟨y,_,hy⟩:=mem_flatMap.1 hu;exact h1R y u hy
  ·rw[<-hms,map_map];exact rel_flatMap aeH (enc ∘ f) (λx=>by rw[hkR];exact (hk _).symm) hvR _
  ·have hsz:(finRange d.length).toArray.size=d.length:=by simp
   have ajX:=AnyQ.slices_SortFunc_total L k aE zE aeH hkR h1R cR hOR g #[] b 0 cap (finRange d.length).toArray w eg (λm os dk _ x y=>hcmp (f x) (f y) (aeH x) (aeH y) _ (y9 x) (y9 y)) hH hb (by rw[hsz];exact hd) hTR;rw[hsz] at ajX;refine ajX.mono ?_;rintro x w' ⟨rfl,n,os,rfl⟩;refine⟨rfl,grown_sortWorldK aeH k w b n _ os,λg hg cur' e' hg' hle=>?_⟩;have:b=g:=by simpa[Value.ownBlock] using hg
   subst this;obtain⟨c2,k1,k2,k3⟩:=row_sortWorldK aeH k w b n (d.length * k) ((finRange d.length).toArray.toList.mergeSort λx y=>!(ltOf cR) y x).toArray os hg' (by simp) hle;refine⟨c2,k1,k2,?_⟩;rw[k3,flatK_list hkR h0]
end Go.SortM
namespace Go.Proofs
open Go.Shelf Go.RowKit Go.Lib Go.Sort
theorem YteambpeibacfpaaGreat.avD(a:Int)(W:World):Calls pw 254 #[.int .i64 a] W λe w'=>e = .returned (.bool false)/\w'=W:=by
 have hd:(a != a)=false:=by simp
 go_enter func254,ntmps254
 go_wp2
 go_ret
 exact⟨rfl,rfl⟩
theorem YteambpeibacfpaaGreat.asj(a b:Int)(W:World):Calls pw 210 #[.int .i64 a,.int .i64 b] W λe w'=>e = .returned (.int .i64 (YteambpeibacfpaaGreat.rj a b))/\w'=W:=by
 have eg:∀args w,(callFunc 254 args).run pw w = .ok (.enter 254 args) w:=enters_of func254 (by kernel_rfl) rfl
 go_enter func210,ntmps210
 go_wp2_with (go_at_call 254;refine (YteambpeibacfpaaGreat.avD _ _).mono ?_;rintro e w' ⟨rfl,rfl⟩)
 all_goals first
  |rw[show YteambpeibacfpaaGreat.rj a b = -1 from if_pos (by assumption)];go_ret;exact⟨rfl,rfl⟩
  |rw[show YteambpeibacfpaaGreat.rj a b=1 from by unfold YteambpeibacfpaaGreat.rj;rw[if_neg (by omega),if_pos (by assumption)]];go_ret;exact⟨rfl,rfl⟩
  |rw[show YteambpeibacfpaaGreat.rj a b=0 from by unfold YteambpeibacfpaaGreat.rj;rw[if_neg (by omega),if_neg (by omega)]];go_ret;exact⟨rfl,rfl⟩
theorem YteambpeibacfpaaGreat.arp(x y:YteambpeibacfpaaGreat.aj)(xs ys:List Value)(W:World)(hx:Go.SortM.Raw YteambpeibacfpaaGreat.ag 3 x xs)(hy:Go.SortM.Raw YteambpeibacfpaaGreat.ag 3 y ys) :
  Calls pw 154 #[.agg xs.toArray,.agg ys.toArray] W λe w'=>e = .returned (.int .i64 (YteambpeibacfpaaGreat.rj x.id y.id))/\∃q os',w'=grow (W.drewN q) os':=by
 have eg:∀args w,(callFunc 210 args).run pw w = .ok (.enter 210 args) w:=enters_of func210 (by kernel_rfl) rfl;obtain⟨xl,xv⟩:=hx;obtain⟨yl,yv⟩:=hy;obtain⟨x0,xr,rfl⟩:=exists_cons_of_length_pos (show 0<xs.length by omega);obtain⟨y0,yr,rfl⟩:=exists_cons_of_length_pos (show 0<ys.length by omega);have ex:x0 = .int .i64 x.id:=by obtain⟨I,h⟩:=xv 0 x0 _ rfl rfl;cases h;rfl
 have ey:y0 = .int .i64 y.id:=by obtain⟨I,h⟩:=yv 0 y0 _ rfl rfl;cases h;rfl
 subst ex ey
 go_enter func154,ntmps154
 go_wp2_with (go_at_call 210;refine (YteambpeibacfpaaGreat.asj _ _ _).mono ?_;rintro e w' ⟨rfl,rfl⟩)
 go_ret
 exact⟨rfl,0,_,by rw[alloc_eq_grow,alloc_eq_grow,grow_grow];rfl⟩
theorem YteambpeibacfpaaGreat.arq(x y:YteambpeibacfpaaGreat.ax)(xs ys:List Value)(W:World)(hx:Go.SortM.Raw YteambpeibacfpaaGreat.ak 4 x xs)(hy:Go.SortM.Raw YteambpeibacfpaaGreat.ak 4 y ys) :
  Calls pw 156 #[.agg xs.toArray,.agg ys.toArray] W λe w'=>e = .returned (.int .i64 (YteambpeibacfpaaGreat.rj x.id y.id))/\∃q os',w'=grow (W.drewN q) os':=by
 have eg:∀args w,(callFunc 210 args).run pw w = .ok (.enter 210 args) w:=enters_of func210 (by kernel_rfl) rfl;obtain⟨xl,xv⟩:=hx;obtain⟨yl,yv⟩:=hy;obtain⟨x0,xr,rfl⟩:=exists_cons_of_length_pos (show 0<xs.length by omega);obtain⟨y0,yr,rfl⟩:=exists_cons_of_length_pos (show 0<ys.length by omega);have ex:x0 = .int .i64 x.id:=by obtain⟨I,h⟩:=xv 0 x0 _ rfl rfl;cases h;rfl
 have ey:y0 = .int .i64 y.id:=by obtain⟨I,h⟩:=yv 0 y0 _ rfl rfl;cases h;rfl
 subst ex ey
 go_enter func156,ntmps156
 go_wp2_with (go_at_call 210;refine (YteambpeibacfpaaGreat.asj _ _ _).mono ?_;rintro e w' ⟨rfl,rfl⟩)
 go_ret
 exact⟨rfl,0,_,by rw[alloc_eq_grow,alloc_eq_grow,grow_grow];rfl⟩
namespace YteambpeibacfpaaGreat
open Go.b7
theorem zZ{α:Type}(f:α->Int)(x y:α):(ltOf λx y=>rj (f x) (f y)) x y=decide (f x<f y):=by
 show decide (rj (f x) (f y)<0)=_;unfold rj;apply decide_eq_decide.2;constructor
 ·intro h;split at h
  ·assumption
  ·split at h<;>omega
 ·intro h;rw[if_pos h];omega
theorem aop{α:Type}(f:α->Int):SWO (ltOf λx y=>rj (f x) (f y)) :=
 {irrefl:=λx=>by rw[zZ f];simp
  trans:=λx y z h1 h2=>by rw[zZ f] at *;simp at *;omega
  ntrans:=λx y z h1 h2=>by rw[zZ f] at *;simp at *;omega }
theorem alM(d:List aj)(hd:d.length<=1000000)(hT:∀i j,i<d.length->j<d.length->(d.getD i default).id=(d.getD j default).id->i=j)(v:Nat):mb pw 167 v 96 3 (d.map ag) [.jk (.func 154) [] []]
  (λa c=>a = .dH []/\c=some (.row v 96 3 ((d.mergeSort λx y=>decide (x.id<=y.id)).map ag))):=by
 have eg:∀args w,(callFunc 154 args).run pw w = .ok (.enter 154 args) w:=enters_of func154 (by kernel_rfl) rfl;have hle:(λx y:aj=>decide (x.id<=y.id))=λx y=>!(ltOf λx y:aj=>rj x.id y.id) y x:=by
  funext x y;rw[zZ (λx:aj=>x.id)];by_cases h:x.id<=y.id
  ·rw[ew h,gd (by omega)];rfl
  ·rw[gd h,ew (by omega)];rfl
 rw[hle];exact Go.SortM.callM_sortG YteambpeibacfpaaGreat.auB 3 (by decide) isAgg96 sizeOf96 ag (λ_=>rfl) (λx y=>rj x.id y.id) (aop λx:aj=>x.id) 154 eg (λx y xs ys W hx hy=>arp x y xs ys W hx hy) (by kernel_rfl) d (by omega)
  (λi j hi hj h1 h2=>hT i j hi hj (by rw[zZ (λx:aj=>x.id)] at h1 h2;have a:=eu h1;have b:=eu h2;omega)) v 96
theorem alN(d:List ax)(hd:d.length<=1000000)(hT:∀i j,i<d.length->j<d.length->(d.getD i default).id=(d.getD j default).id->i=j)(v:Nat):mb pw 168 v 125 4 (d.map ak) [.jk (.func 156) [] []]
  (λa c=>a = .dH []/\c=some (.row v 125 4 ((d.mergeSort λx y=>decide (x.id<=y.id)).map ak))):=by
 have eg:∀args w,(callFunc 156 args).run pw w = .ok (.enter 156 args) w:=enters_of func156 (by kernel_rfl) rfl;have hle:(λx y:ax=>decide (x.id<=y.id))=λx y=>!(ltOf λx y:ax=>rj x.id y.id) y x:=by
  funext x y;rw[zZ (λx:ax=>x.id)];by_cases h:x.id<=y.id
  ·rw[ew h,gd (by omega)];rfl
  ·rw[gd h,ew (by omega)];rfl
 rw[hle];exact Go.SortM.callM_sortG YteambpeibacfpaaGreat.auC 4 (by decide) isAgg125 sizeOf125 ak (λ_=>rfl) (λx y=>rj x.id y.id) (aop λx:ax=>x.id) 156 eg (λx y xs ys W hx hy=>arq x y xs ys W hx hy) (by kernel_rfl) d (by omega)
  (λi j hi hj h1 h2=>hT i j hi hj (by rw[zZ (λx:ax=>x.id)] at h1 h2;have a:=eu h1;have b:=eu h2;omega)) v 125
abbrev SC(K:Int):={x:oI // x.kind=K/\azx x}
instance(K:Int):Inhabited (SC K):=⟨⟨⟨K,0,0⟩,rfl,by simp[azx]⟩⟩
end YteambpeibacfpaaGreat
end Go.Proofs
namespace Go.Proofs.YteambpeibacfpaaGreat
open Go.b7
theorem aoq(l:List aj)(m:List ax)(hl:l.length<=1000000)(hm:m.length<=1000000)(id:Int):aD pw 164 [.ez [.aL (l.map ag),.aL (m.map ak)] 0,.val (.int .i64 id)] (λv=>v = .val (.bool (l6 l m id))):=by
 have hn:=mE (p:=λn:aj=>decide (n.id=id)) (l:=l);have he:=mE (p:=λn:ax=>decide (n.id=id)) (l:=m);unfold l6;rw[<-hn,<-he];refine aF [] func164 ntmps164 results164 ?_;simp only[go_sem];refine aW (afy l hl id) (by simp only[go_sem]<;>rfl) (cB rfl) ?_;simp only[go_sem];cases hb:decide (0<=idxOf (λn:aj=>decide (n.id=id)) l)
 ·simp only[go_sem,hb];refine aW (aj8 m hm id) (by simp only[go_sem]<;>rfl) (cB rfl) ?_;simp only[go_sem,hb]
 ·simp only[go_sem,hb]
theorem aB6(x:aj)(l:List aj)(m:List ax)(hl:l.length<=1000000)(hm:m.length<=1000000):aD pw 163 [.agg (ag x),.ez [.ez [.aL (l.map ag),.aL (m.map ak)] 0] 0] (λv=>v = .val (.bool (l6 l m x.id))):=by refine aF [] func163 ntmps163 results163 ?_;simp only[go_sem,ag];refine aW (aoq l m hl hm x.id) (by simp only[go_sem]<;>rfl) (cB rfl) ?_;simp only[go_sem]
theorem aB7(x:ax)(l:List aj)(m:List ax)(hl:l.length<=1000000)(hm:m.length<=1000000):aD pw 166 [.agg (ak x),.ez [.ez [.aL (l.map ag),.aL (m.map ak)] 0] 0] (λv=>v = .val (.bool (l6 l m x.id))):=by refine aF [] func166 ntmps166 results166 ?_;simp only[go_sem,ak];refine aW (aoq l m hl hm x.id) (by simp only[go_sem]<;>rfl) (cB rfl) ?_;simp only[go_sem]
theorem azR(a b:List Int)(ha:a.length<=1000000)(hb:b.length<=1000000):aD pw 31 [.aL (a.map encI),.aL (b.map encI)] (λv=>v = .val (.bool (decide (a=b)))):=by
 refine aF [] func31 ntmps31 results31 ?_;simp only[go_sem];refine aU (λhc=>?_) (λhc=>?_)
 ·have hl:a.length=b.length:=by have:=bX hc;omega
  simp only[go_sem];refine bV (σ:=Nat) (λx=>(c9 (c9 (c9 (c9 gI 0 (.p (.aL (a.map encI)))) 1 (.p (.aL (b.map encI)))) 12 (.p (.val (.int .i64 a.length)))) 13 (.p (.val (.int .i64 x))))) (λx=>ct)
   (λx=>x<=a.length/\∀j,j<x->a.getD j default=b.getD j default) (λx=>a.length-x) 0 ⟨Nat.zero_le _,λj hj=>absurd hj (Nat.not_lt_zero j)⟩ cu ?_
  rintro x ⟨hx,hq⟩;simp only[go_sem];refine aI (λhc2=>?_) (λhc2=>?_)
  ·have h1:x<a.length:=by have:=bX hc2;omega
   have h2:x<b.length:=by omega
   simp only[go_sem];refine dO [.p,.p,.q,.q,.p,.p,.q,.q,.p] (by kernel_rfl) ?_;simp only[go_sem,getD_map encI h1,getD_map encI h2,encI];refine⟨h1,h2,?_⟩;refine aU (λhd=>?_) (λhd=>?_)
   ·have hd':=bX hd;simp only[go_sem,bM h1 (by omega)];refine cr (x+1) ⟨h1,λj hj=>?_⟩ (by omega) cu;rcases Nat.lt_succ_iff_lt_or_eq.1 hj with h|h
    ·exact hq j h
    ·rw[h];exact hd'
   ·have hd':=eu hd;simp only[go_sem];have:decide (a=b)=false:=gd λe=>hd' (by rw[e])
    rw[this]
  ·have:x=a.length:=by have:=eu hc2;omega
   subst this;simp only[go_sem];have:decide (a=b)=true:=by apply ew;apply ext_getElem hl;intro j h1 h2;have:=hq j h1;simpa[h1,h2] using this
   rw[this]
 ·have hl:a.length≠b.length:=by have:=eu hc;omega
  simp only[go_sem];have:decide (a=b)=false:=gd λe=>hl (by rw[e])
  rw[this]
theorem aB8(a b:aj)(ha:a.values.length<=1000000)(hb:b.values.length<=1000000):aD pw 159 [.agg (ag a),.agg (ag b)] (λv=>v = .val (.bool (eC a b))):=by
 unfold eC;refine aF [] func159 ntmps159 results159 ?_;simp only[go_sem,ag];cases h1:decide (a.id=b.id)
 ·simp only[go_sem,h1]
 ·simp only[go_sem,h1];cases h2:decide (a.type=b.type)
  ·simp only[go_sem,h2]
  ·simp only[go_sem,h2];refine aW (azR a.values b.values ha hb) (by simp only[go_sem]<;>rfl) (cB rfl) ?_;simp only[go_sem]
end Go.Proofs.YteambpeibacfpaaGreat
