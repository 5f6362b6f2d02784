/- Joined texts, part 5: lemmas for the statement. No condition. -/
import Derived.Test.YtjhkgjlmiolfoaaGreatL4
import Derived.Shelf.Spec.SlicesGrow
import Derived.Test.YtjhkgjlmiolfoaaGreatL2
import Derived.Test.YtjhkgjlmiolfoaaGreatL1
import Derived.Test.YtjhkgjlmiolfoaaGreatL3
import Derived.Shelf.SlSortCmp.NoneTotal
import Derived.LoopTactic
import Derived.WalkKit
set_option maxHeartbeats 4000000
set_option linter.unusedSimpArgs false
set_option linter.unusedVariables false
open Nat (reduceEqDiff reduceLT reduceLeDiff reduceMul reduceAdd reduceSub)
open Go.IntKind (i64)
open Go.Proofs.Tryz
open Go.Proofs.Tryz renaming prog → pw
set_option maxRecDepth 20000
open List hiding Mem cons count idxOf iter map nil tail
open Nat (lt_or_ge le_refl zero_le zero_add)
namespace Go.cv
open Go.RowKit
variable{P:Program}{N:Nat}{own:List Nat}
theorem kS{ops:Array Oper}{K:Env->aA->Prop}{env:Env}{H:aA}(id v:Nat)(e:TypeId)(sz:Nat)(es:List (List PV))(ts:List Nat)(hH:H id=some (.row v e sz es))(ht:holds env id v ts)(hn:ts.Nodup)
  (hw:vI P N own ops K (anK (.p (.aU es)) ts env) (bh H id (.shut v es))):vI P N own ops K env H:=by
 intro C I L tm w hN hs;have h1:=Fr.shut C I L w hH env tm hs;exact hw C _ L tm w hN (adg (by simp[bh]) ts _ hn h1 ht)
theorem toNat_lt{i:Int}{n:Nat}(h:0<=i)(k:i<(n:Int)):i.toNat<n:=by omega
def acu(own:List Nat)(ops:Array Oper)(id:Nat):Nat->Prop
 |0=>True
 |n+1=>lK own ops id=false/\acu own ops (id+1) n
variable{ops:Array Oper}
theorem auw(id:Nat):acu own ops id 1=(lK own ops id=false/\True):=rfl
theorem amx(id:Nat):acu own ops id 3=(lK own ops id=false/\lK own ops (id+1)=false/\lK own ops (id+1+1)=false/\True):=rfl
theorem apH(id:Nat):acu own ops id 4=(lK own ops id=false/\lK own ops (id+1)=false/\lK own ops (id+1+1)=false/\lK own ops (id+1+1+1)=false/\True):=rfl
theorem af9:∀ (n id:Nat),acu own ops id n->∀i,id<=i->i<id+n->lK own ops i=false
 |0,id,_,i,h1,h2=>by omega
 |n+1,id,h,i,h1,h2=>by
  rcases lt_or_ge id i with h'|h'
  ·exact af9 n (id+1) h.2 i (by omega) (by omega)
  ·have:i=id:=by omega
   subst this;exact h.1
theorem aeZ{env:Env}{H:aA}{o:Oper}{W:Env->aA->Prop}{k:FuncId}{ps ps':List PV}{b:Bool}(id:Nat){r:RV}(c:bt P k ps λx=>x=r)(he:kL o (ev env) (pH own ops H)=some (k,ps',b))(hp:ry ps' ps)(hb:b=true->r.flat=true)
  (hf:nU H id ((dw id r).2-id)) (hn:acu own ops id ((dw id r).2-id)) (hW:W (cL env o.dst (dw id r).1) (iC id H r)):afA P own ops o W env H:=by
 have c':bt P k ps' λx=>x=r:=c.args (tV _ _ hp)
 have hle:=y7 r id;unfold kL at he;cases ha:dP o (ev env) with
 |none=>rw[ha] at he;cases he
 |some q =>
  obtain⟨k',eS⟩:=q;rw[ha] at he;simp only[] at he;cases hl:eC (gR (pH own ops H)) eS with
  |none=>rw[hl] at he;cases he
  |some q=>obtain⟨qs,b'⟩:=q;rw[hl] at he;simp only[cA,iL] at he;obtain⟨rfl,rfl,rfl⟩:=he;exact⟨_,_,⟨_,eS,_,_,r,id,ha,hl,c',hb,λi h1 h2=>⟨abm _ id hf i h1 (by omega),af9 _ id hn i h1 (by omega)⟩,rfl,rfl⟩,hW⟩
attribute [go_sem] auw amx apH
end Go.cv
namespace Go.Proofs.YtjhkgjlmiolfoaaGreat
open Go.cv
structure jH where
 x0:Int
 x1:Int
 x2:Int
structure dg where
 nodes:List dz
 ak:List jH
structure bT where
 nodes:List dz
 ak:List dz
 h:dg
 first:List jH
 p:List jH
 q:List jH
def eo(x:dz):List PV:=[.val (.int .u8 x.x0),.val (.int .u8 x.x1)]
def dZ(x:jH):List PV:=[.val (.int .u8 x.x0),.val (.int .u8 x.x1),.val (.int .u8 x.x2)]
def eL(x:bT):List PV:=[.aU (x.nodes.map eo),.aU (x.ak.map eo),.aU (x.h.nodes.map eo),.aU (x.h.ak.map dZ),.aU (x.first.map dZ),.aU (x.p.map dZ),.aU (x.q.map dZ)]
structure bV where
 a:az
 p:aF
 q:aF
def pM(x:Host):List PV:=[.aU (x.graph.nodes.map encI),.aU (x.graph.ak.map aZ),.aU (x.values.map bJ)]
structure aQ where
 nodes:List ah
 ak:List ax
structure cI where
 ia:Int
 node:Int
 count:Int
 out:Bool
def dF(x:cI):List PV:=[.val (.int .i64 x.ia),.val (.int .i64 x.node),.val (.int .i64 x.count),.val (.bool x.out)]
structure bK where
 id:Int
 ia:Int
 out:Bool
def bZ(x:bK):List PV:=[.val (.int .i64 x.id),.val (.int .i64 x.ia),.val (.bool x.out)]
structure ng where
 x0:aF
 x1:aF
def kz(x:ng):List PV:=[.aU (x.x0.au.map ag),.aU (x.x0.aC.map aj),.aU (x.x0.aM.map ag),.aU (x.x0.aK.map aj),.aU (x.x0.values.map aI),.val (.int .i64 x.x0.next.x0),.val (.int .i64 x.x0.next.x1),.aU (x.x1.au.map ag),.aU (x.x1.aC.map aj),.aU (x.x1.aM.map ag),.aU (x.x1.aK.map aj),.aU (x.x1.values.map aI),.val (.int .i64 x.x1.next.x0),.val (.int .i64 x.x1.next.x1)]
def jI(l:List aG):List PV:=[.aU (l.map ay)]
structure bn where
 id:Int
 ia:Int
 out:Bool
def cB(x:bn):List PV:=[.val (.int .i64 x.id),.val (.int .i64 x.ia),.val (.bool x.out)]
def iR(l:List bn):List PV:=[.aU (l.map cB)]
structure apI where
 var:Int
 add:Int
structure ayU where
 node:Int
 attr:Int
 term:apI
structure ayV where
 kind:Int
 left:apI
 right:apI
structure adE where
 graph:eY
 slots:List ayU
 vars:Int
 tests:List ayV
structure aDG where
 nodes:List Int
 ak:List Int
structure abu where
 nodes:List Int
 ak:List Int
structure vP where
 kind:Int
 kids:List vP
 map:abu
 pattern:adE
structure aI6 where
 name:ByteArray
 left:adE
 right:adE
 keep:aDG
 into:abu
 injective:Bool
 condition:vP
def aga(x:ayU):List PV:=[.val (.int .i64 x.node),.val (.int .i64 x.attr),.val (.int .i64 x.term.var),.val (.int .i64 x.term.add)]
def agb(x:ayV):List PV:=[.val (.int .i64 x.kind),.val (.int .i64 x.left.var),.val (.int .i64 x.left.add),.val (.int .i64 x.right.var),.val (.int .i64 x.right.add)]
mutual
def aeL:vP->List PV
 |⟨v_kind,v_kids,v_map,v_pattern⟩=>[.val (.int .i64 v_kind),.aU (vQ v_kids),.aU (v_map.nodes.map encI),.aU (v_map.ak.map encI),.aU (v_pattern.graph.nodes.map encI),.aU (v_pattern.graph.ak.map aZ),.aU (v_pattern.slots.map aga),.val (.int .i64 v_pattern.vars),.aU (v_pattern.tests.map agb)]
def vQ:List vP->List (List PV)
 | []=>[]
 |a :: r=>aeL a :: vQ r
end
structure aHt where
 aFk:abu
 vars:List Int
def aCH(b:Bool):List PV:=[.val (.bool b)]
structure akp where
 p:aF
 q:aF
structure aif where
 types:List dz
 ends:List dz
 host:dg
attribute [local go_sem] Nat.reduceEqDiff Nat.reduceLT Nat.reduceLeDiff Nat.reduceMul Nat.reduceAdd Nat.reduceBEq Nat.reduceSub Int.reduceToNat reduceIte reduceCtorEq zf cons_append nil_append aV aZ aP encI bk jI iR aJ bJ cV pM eo kz dZ ay dF aB aj ag aI aga agb aD cB eL bZ aCH
noncomputable section
end
end Go.Proofs.YtjhkgjlmiolfoaaGreat
namespace Go.Proofs.YtjhkgjlmiolfoaaGreat
open Go.cv
def jS(t:Types):Option (ByteArray×Int):=giv (fm t) (gH t)
theorem qj(t:Types)(r:ByteArray×Int)(h:jS t=some r):aS pw 78 [aH t] (λv=>v = .dW [.val (.string r.1),.val (.int .i64 r.2)]):=by obtain⟨h1,rfl⟩:=qg h;exact adv t h1
def tW(t:Types)(h:Host):Option (Int×Int):=giv (fm t/\tT h) (jY t h)
theorem acv(t:Types)(h:Host)(r:Int×Int)(hr:tW t h=some r):aS pw 74 [aH t,cM h] (λv=>v = .dW [.val (.int .i64 r.1),.val (.int .i64 r.2)]):=by obtain⟨⟨h1,h2⟩,rfl⟩:=qg hr;exact atx t h1 h h2
def iS(t:Types)(h:Host):Option (Int×Int):=giv (fm t/\tT h) (jY t h)
theorem mg(t:Types)(h:Host)(r:Int×Int)(hr:iS t h=some r):aS pw 55 [aH t,cM h] (λv=>v = .dW [.val (.int .i64 r.1),.val (.int .i64 r.2)]):=by obtain⟨⟨h1,h2⟩,rfl⟩:=qg hr;exact ape t h1 h h2
def qK(t:Types)(e a b:Int):Option Bool:=giv (fm t) (qf t e a b)
theorem nh(t:Types)(e a b:Int)(r:Bool)(h:qK t e a b=some r):aS pw 94 [aH t,.val (.int .i64 e),.val (.int .i64 a),.val (.int .i64 b)] (λv=>v = .val (.bool r)):=by obtain⟨h1,rfl⟩:=qg h;exact alY t h1 e a b
def ahl(t:Types)(a:Int):Option (List Attr×Int):=giv (OkT t/\0<=a/\a<t.nodes.length) (bg t a.toNat,0)
theorem aAr(t:Types)(a:Int)(r:List Attr×Int)(h:ahl t a=some r):aS pw 232 [aH t,.val (.int .i64 a)] (λv=>v = .dW [.aU (r.1.map aV),.val (.int .i64 r.2)]):=by obtain⟨⟨h1,h2,h3⟩,rfl⟩:=qg h;obtain⟨n,rfl⟩:=Int.eq_ofNat_of_zero_le h2;exact ah2 t h1 n (by omega)
def mh(t:Types)(a:Int):Option (List Attr×Int):=giv (OkT t/\0<=a/\a<t.nodes.length) (bg t a.toNat,0)
theorem xb(t:Types)(a:Int)(r:List Attr×Int)(h:mh t a=some r):aS pw 93 [aH t,.val (.int .i64 a)] (λv=>v = .dW [.aU (r.1.map aV),.val (.int .i64 r.2)]):=by obtain⟨⟨h1,h2,h3⟩,rfl⟩:=qg h;obtain⟨n,rfl⟩:=Int.eq_ofNat_of_zero_le h2;exact afR t h1 n (by omega)
def p5(l:List Int):Option (List Int):=giv (l.length<=1000000) l
theorem abv(l:List Int)(r:List Int)(h:p5 l=some r):bt pw 90 [.aU (l.map encI)] (λv=>v = .row 3 1 (r.map encI)):=by obtain⟨h1,rfl⟩:=qg h;exact ahZ l h1
def wq(t:Types)(l:List Int):Option Int:=giv (fm t/\l.length<=1000000) (qI t l)
theorem ahm(t:Types)(l:List Int)(r:Int)(h:wq t l=some r):aS pw 233 [aH t,.aU (l.map encI)] (λv=>v = .val (.int .i64 r)):=by obtain⟨⟨h1,h2⟩,rfl⟩:=qg h;exact afQ t h1 l h2
def abw(t:Types)(a b:Int):Option Bool:=giv (OkT t/\0<=a/\a<t.nodes.length) (isB t a b)
theorem apJ(t:Types)(a b:Int)(r:Bool)(h:abw t a b=some r):aS pw 234 [aH t,.val (.int .i64 a),.val (.int .i64 b)] (λv=>v = .val (.bool r)):=by obtain⟨⟨h1,h2,h3⟩,rfl⟩:=qg h;obtain⟨n,rfl⟩:=Int.eq_ofNat_of_zero_le h2;exact ao9 t h1 n (by omega) b
def iE(t:Types)(a b:Int):Option Bool:=giv (fm t/\OkT t/\0<=a/\a<t.nodes.length/\0<=b) (isB t a b)
theorem pN(t:Types)(a b:Int)(r:Bool)(h:iE t a b=some r):aS pw 155 [aH t,.val (.int .i64 a),.val (.int .i64 b)] (λv=>v = .val (.bool r)):=by obtain⟨⟨h0,h1,h2,h3,h4⟩,rfl⟩:=qg h;exact adw t b h4 h0 (a.toNat+1) a (by omega) (by omega) h3 h1.par
end Go.Proofs.YtjhkgjlmiolfoaaGreat
namespace Go.cv
open Go.RowKit Go.Shelf Go.Proofs
variable{P:Program}{ρ:Ren}
theorem apK(L:Lays8.n4 P ρ)(hc:gF P (ρ.f 4)=true)(i0:TypeInfo)(z:Value)(hi0:P.info? (ρ.t 25)=some i0)(hz0:i0.zero=some z)(hs0:0<i0.size)(hzs:z.cells.size=i0.size)
  (n:Nat) (hbig:n * i0.bytes<=140737488355328) (h63:n<=4611686018427387904) :
  bt P (ρ.f 4) [.val (.slice none 0 0),.val (.int .i64 n)] (λv=>v = .row (ρ.t 25) i0.size []):=by
 refine⟨hc,λI w vs hI hv=>?_⟩;obtain⟨hl,hv⟩:=hv
 match vs,hl with
 | [a,b],_ =>
  have ha:a = .slice none 0 0:=by have:=hv 0 a _ rfl rfl;cases this;rfl
  have hb:b = .int .i64 n:=by have:=hv 1 b _ rfl rfl;cases this;rfl
  subst ha hb;by_cases h0:n=0
  ·subst h0;refine (Any8.slices_Grow_room L none 0 0 0 w (by omega) (by omega) (by omega) (by omega)).mono ?_;rintro e w' ⟨rfl,rfl⟩;refine⟨_,_,_,I,rfl,rfl,.row _ _ _ _ [] ⟨⟨by simp,.inl ⟨rfl,rfl⟩⟩,hs0,by simp,by simp,by simp,λb hb=>by simp[Value.ownBlock] at hb⟩ rfl,by simp[Value.ownBlock],by simp[Value.ownBlock],Below.refl _ _,Mem.en I,hI,λ_ _ _=>rfl⟩
  ·refine (Any8.slices_Grow_grow L i0 z hi0 hz0 hs0 none 0 0 n [] w (by omega) (by omega) (by simpa using hbig) (by omega) (by simp) (λ_=>rfl) (λa h=>by cases h)).mono ?_;rintro e w' ⟨rfl,rfl⟩;have hG:n<=grownCap w (0+n) 0 (ρ.t 25):=by have:=grownCap_ge w (0+n) 0 (ρ.t 25);omega
   have hG2:grownCap w (0+n) 0 (ρ.t 25)<=maxLen:=grownCap_le_maxLen w (0+n) 0 (ρ.t 25) (by unfold maxLen;omega);generalize grownCap w (0+n) 0 (ρ.t 25)=G at hG hG2 ⊢;have hheap:∀o:Obj,(w.drew.alloc o).heap=w.heap.push o:=λo=>rfl
   have bel:∀o:Obj,Below w.heap.size w (w.drew.alloc o):=λo=>(Below.refl _ w).drew.alloc (le_refl _) o
   refine⟨_,_,[w.heap.size],I,rfl,rfl,?_,by simp,?_,bel _,Mem.en I,hI.keep λb ⟨o,u,hu⟩=>(bel _).block b (hI.lt hu),λ_ _ _=>rfl⟩
   ·refine .row (.slice (some ⟨w.heap.size,0,none⟩) 0 G) _ _ _ [] ⟨⟨by simp,.inr ⟨w.heap.size,G,_,rfl,le_refl _,by rw[hheap];exact Array.getElem?_push_size,zero_le _,hG2,?_,by simp⟩⟩,hs0,by simp,by simp,by simp,λb hb o=>?_⟩ rfl
    ·have e:(0+n-0)+(G-(0+n))=G:=by omega
     have e0:([]:List Value).toArray.size=0:=rfl;rw[Array.size_append,Array.size_append,size_zeroCells,size_zeroCells,hzs,e0,zero_add,<-Nat.add_mul,e]
    ·simp only[Value.ownBlock,cA] at hb;subst hb;cases hI0:I w.heap.size o with
     |none=>rfl
     |some u=>exact absurd (hI.lt hI0) (Nat.lt_irrefl _)
   ·intro b hb;simp only[mem_cons,not_mem_nil,or_false] at hb;subst hb;rw[hheap];simp
theorem ael(L:Lays8.n4 P ρ)(hc:gF P (ρ.f 4)=true){t e:TypeId}{sz qz:Nat}(ht:dy P t t=some (e,sz,qz))(he:e=ρ.t 25)(n:Nat)(hbig:n * qz<=140737488355328)(h63:n<=4611686018427387904) :
  bt P (ρ.f 4) [.val (.slice none 0 0),.val (.int .i64 n)] (λv=>v = .row e sz []):=by
 obtain⟨_,_,hpos,_,i,z,hi,hz,hsz,hby,hzc⟩:=nD ht;subst he;have:=apK L hc i z hi hz (by omega) (by omega) n (by rw[hby];exact hbig) h63;rw[hsz] at this;exact this
end Go.cv
namespace Go.Proofs.YtjhkgjlmiolfoaaGreat
open Go.cv
def mj(l:List aG)(n:Int):Option (List aG):=giv (l=[]/\0<=n/\n<=1000000) []
theorem xd(l:List aG)(n:Int)(r:List aG)(h:mj l n=some r):bt pw 170 [.val (.slice none 0 0),.val (.int .i64 n)] (λv=>v = .row 57 3 (r.map ay)):=by obtain⟨⟨_,h0,h1⟩,rfl⟩:=qg h;obtain⟨k,rfl⟩:∃k:Nat,n=k:=⟨n.toNat,by omega⟩;exact ael ax1 (by kernel_rfl) Ty.aEo rfl k (by omega) (by omega)
def kE(l:List bn)(n:Int):Option (List bn):=giv (l=[]/\0<=n/\n<=1000000) []
theorem uY(l:List bn)(n:Int)(r:List bn)(h:kE l n=some r):bt pw 186 [.val (.slice none 0 0),.val (.int .i64 n)] (λv=>v = .row 188 3 (r.map cB)):=by obtain⟨⟨_,h0,h1⟩,rfl⟩:=qg h;obtain⟨k,rfl⟩:∃k:Nat,n=k:=⟨n.toNat,by omega⟩;exact ael aBA (by kernel_rfl) Ty.aDl rfl k (by omega) (by omega)
end Go.Proofs.YtjhkgjlmiolfoaaGreat
namespace Go.cv
open Go.RowKit
variable{P:Program}{I:Mem}{L:bA}
mutual
def rz(id:Nat)(ps:List PV):AV->AV
 | .ptr i o=>if i=id then .p (.ee ps o) else .ptr i o
 | .row i v=>if i=id then .dead else .row i v
 | .jo i v j o=>if i=id then .dead else .jo i v j o
 | .eP i v=>if i=id then .dead else .eP i v
 | .kH i v j o=>if i=id then .dead else .kH i v j o
 | .kI i v j=>if i=id then .dead else .kI i v j
 | .nv i v j k o=>if i=id then .dead else .nv i v j k o
 | .bsl i n=>if i=id then .dead else .bsl i n
 | .iM i v o n m sz=>if i=id then .dead else .iM i v o n m sz
 | .agg cs=>.agg (qk id ps cs)
 | .dW cs=>.dW (qk id ps cs)
 | .iK f a b=>.iK f (qk id ps a) (qk id ps b)
 |x=>x
def qk(id:Nat)(ps:List PV):List AV->List AV
 | []=>[]
 |a :: r=>rz id ps a :: qk id ps r
end
theorem uC{id:Nat}{ps:List PV} : ∀ {cs:List AV} {j:Nat} {c:AV},(qk id ps cs)[j]? = some c->∃d,cs[j]? = some d/\c=rz id ps d
 | [],j,c,h=>by simp[qk] at h
 |a :: r,0,c,h=>by unfold qk at h;simp only[getElem?_cons_zero,cA] at h;exact⟨a,rfl,h.symm⟩
 |a :: r,j+1,c,h=>by unfold qk at h;exact uC (cs:=r) (by simpa using h)
theorem oJ{id:Nat}{ps:List PV} : ∀cs:List AV,(qk id ps cs).length=cs.length
 | []=>rfl
 |a :: r=>by unfold qk;simp[oJ r]
def fixC(id:Nat)(ps:List PV):Chunk->Chunk
 | .box cs=>.box (qk id ps cs)
 |c=>c
def ayW(id:Nat)(ps:List PV):Option Chunk->Option Chunk
 |some c=>some (fixC id ps c)
 |none=>none
def aFl(id:Nat)(ps:List PV)(env:Env):Env:=λi=>rz id ps (env i)
def ayX(id:Nat)(ps:List PV)(H:aA):aA:=λi=>if i=id then none else ayW id ps (H i)
def amy(L:bA)(id:Nat):bA:=λi=>if i=id then none else L i
theorem dR.fix{J:Mem}{id b:Nat}{ps:List PV}(hl:L id=some (.box b))(sJ:I.sub J)(hb:∀off,VR J (.pointer (some ⟨b,off,none⟩)) (.ee ps off)){u:Value}{a:AV}(h:dR I L u a):dR J (amy L id) u (rz id ps a):=by
 have kr:∀i,i≠id->amy L id i=L i:=λi hi=>by simp[amy,hi]
 induction h with
 |p u x h=>unfold rz;exact .p u x (h.mono sJ)
 |row u i bf v1 jD sz1 lS hle h h1 =>
  unfold rz;split
  ·exact .dead _
  ·exact .row u i bf v1 jD sz1 ((kr i (by assumption)).trans lS) hle h h1
 |ptr i b1 off lS =>
  unfold rz;split
  ·rename_i e;subst e;rw[hl] at lS;simp only[cA,Loc.box.injEq] at lS;subst lS;exact .p _ _ (hb off)
  ·exact .ptr i b1 off ((kr i (by assumption)).trans lS)
 |jo u i bf v1 j off jD sz1 lS hle h h1 =>
  unfold rz;split
  ·exact .dead _
  ·exact .jo u i bf v1 j off jD sz1 ((kr i (by assumption)).trans lS) hle h h1
 |bsl i b1 n lS =>
  unfold rz;split
  ·exact .dead _
  ·exact .bsl i b1 n ((kr i (by assumption)).trans lS)
 |iM a i bf v1 off n m c jD sz1 lS hle hn hm hz h =>
  unfold rz;split
  ·exact .dead _
  ·exact .iM a i bf v1 off n m c jD sz1 ((kr i (by assumption)).trans lS) hle hn hm hz h
 |agg us cs lS _ hone ih=>unfold rz;refine .agg us _ (by rw[oJ];exact lS) (λj u c hu hc=>?_) hone;obtain⟨d,hd,rfl⟩:=uC hc;exact ih j u d hu hd
 |dW us cs lS _ ih=>unfold rz;refine .dW us _ (by rw[oJ];exact lS) (λj u c hu hc=>?_);obtain⟨d,hd,rfl⟩:=uC hc;exact ih j u d hu hd
 |iK fn us vs fs cs lS hl2 _ _ ih ih' =>
  unfold rz;refine .iK fn us vs _ _ (by rw[oJ];exact lS) (by rw[oJ];exact hl2) (λj u c hu hc=>?_) (λj u c hu hc=>?_)
  ·obtain⟨d,hd,rfl⟩:=uC hc;exact ih j u d hu hd
  ·obtain⟨d,hd,rfl⟩:=uC hc;exact ih' j u d hu hd
 |eP u i bf v1 jD s1 s2 rm n1 lS hle h h1 =>
  unfold rz;split
  ·exact .dead _
  ·exact .eP u i bf v1 jD s1 s2 rm n1 ((kr i (by assumption)).trans lS) hle h h1
 |kH u i bf v1 j off jD s1 s2 rm n1 lS hle h h1 =>
  unfold rz;split
  ·exact .dead _
  ·exact .kH u i bf v1 j off jD s1 s2 rm n1 ((kr i (by assumption)).trans lS) hle h h1
 |kI u i bf v1 j jD s1 s2 rm n1 lS hle h h1 =>
  unfold rz;split
  ·exact .dead _
  ·exact .kI u i bf v1 j jD s1 s2 rm n1 ((kr i (by assumption)).trans lS) hle h h1
 |nv u i bf v1 j m off jD s1 s2 rm n1 lS hle h h1 =>
  unfold rz;split
  ·exact .dead _
  ·exact .nv u i bf v1 j m off jD s1 s2 rm n1 ((kr i (by assumption)).trans lS) hle h h1
 |dead u=>unfold rz;exact .dead u
def Mem.whole(I:Mem)(w:World)(b0:Nat):Mem:=λb o=>if b=b0 then w.cell? ⟨b,o,none⟩ else I b o
theorem acw{env:Env}{H:aA}(id:Nat)(ps:List PV)(hid:id<1000000)(hH:H id=some (.box (ps.map AV.p))):dx env H (aFl id ps env) (ayX id ps H):=λC I L tm w hs=>by
 obtain⟨b,arr,e,q1,q2,q3,q4,q5,q6⟩:=hs.chunk id _ hH;have hL0:C.L0 id=none:=by
  cases h:C.L0 id with
  |none=>rfl
  |some l=>have:=C.hL0 id l h;omega
 let J:Mem:=I.whole w b;have hJb:∀o,J b o=w.cell? ⟨b,o,none⟩:=λo=>by show I.whole w b b o=_;unfold Mem.whole;rw[if_pos rfl]
 have hJo:∀b',b'≠b->∀o,J b' o=I b' o:=λb' hn o=>by show I.whole w b b' o=_;unfold Mem.whole;rw[if_neg hn]
 have sJ:I.sub J:=λb' o u hu=>by
  by_cases h:b'=b
  ·subst h;rw[q6 o] at hu;cases hu
  ·rw[hJo b' h];exact hu
 have hJw:J.inW w:=λb' o u hu=>by
  by_cases h:b'=b
  ·subst h;rw[hJb] at hu;exact hu
  ·rw[hJo b' h] at hu;exact hs.mem b' o u hu
 have hnot:∀i l b',i≠id->L i=some l->l.has b'->b'≠b:=λi l b' hi hl hb' e=>hi (hs.apart i id l _ b hl q1 (e ▸ hb') rfl)
 have hlen:arr.toList.length=ps.length:=by simpa using q3
 have hvr:∀off,VR J (.pointer (some ⟨b,off,none⟩)) (.ee ps off):=λoff=>by
  have:=VR.ee (I:=J) b 0 ps arr.toList off hlen (λj u c hu hc=>by
   have:=(q4 j u (.p c) (by simpa using hu) (by rw[getElem?_map,hc];rfl)).nM;exact this.mono sJ) (λu hu=>by
    obtain⟨j,hj⟩:=mem_iff_getElem?.1 hu;exact q5 j u (by simpa using hj)) (λj u hu=>by
     rw[zero_add,hJb,fP q2];simpa using hu)
  rwa [zero_add] at this
 have kr:∀i,i≠id->amy L id i=L i:=λi hi=>by simp[amy,hi]
 have amz:amy L id id=none:=by simp[amy]
 refine⟨J,amy L id,?_⟩;exact
 {below:=hs.below
  mem:=hJw
  kX:=Mem.lX hs.kX sJ
  lY:=λb' hb hf o=>by
   rw[hJo b' (λe=>?_)]
   ·exact hs.lY b' hb hf o
   ·subst e;rcases hs.jA id _ b' q1 rfl with h|h
    ·omega
    ·exact hf h
  frame:=hs.frame
  loc:=λi=>by
   by_cases hi:i=id
   ·subst hi;rw[hL0];trivial
   ·rw[kr i hi];exact hs.loc i
  jA:=λi l b' hl hb=>by
   by_cases hi:i=id
   ·subst hi;rw[amz] at hl;cases hl
   ·rw[kr i hi] at hl;exact hs.jA i l b' hl hb
  size:=hs.size
  env:=λt=>(hs.env t).fix q1 sJ hvr
  dom:=λi l hl=>by
   by_cases hi:i=id
   ·subst hi;rw[amz] at hl;cases hl
   ·rw[kr i hi] at hl;obtain⟨c,hc⟩:=hs.dom i l hl;exact⟨fixC id ps c,by unfold ayX;rw[if_neg hi,hc];rfl⟩
  chunk:=λi c hc=>by
   by_cases hi:i=id
   ·subst hi;unfold ayX at hc;rw[if_pos rfl] at hc;cases hc
   ·unfold ayX at hc;rw[if_neg hi] at hc;cases hci:H i with
    |none=>rw[hci] at hc;cases hc
    |some c0 =>
     rw[hci] at hc;simp only[ayW,cA] at hc;subst hc;have h0:=hs.chunk i c0 hci;cases c0 with
     |box cs =>
      obtain⟨b',aI7,e0,g1,g2,g3,g4,g5,g6⟩:=h0;refine⟨b',aI7,e0,(kr i hi).trans g1,g2,by rw[oJ];exact g3,λj u c hu hc=>?_,g5,λo=>?_⟩
      ·obtain⟨d,hd,rfl⟩:=uC hc;exact (g4 j u d hu hd).fix q1 sJ hvr
      ·rw[hJo b' (hnot i _ b' hi g1 rfl)];exact g6 o
     |row v1 e1 s1 es1=>obtain⟨h1,us1,g1,g2,g3,g4,g5,g6,g7⟩:=h0;exact⟨h1,us1,(kr i hi).trans g1,g2,g3,g4,λj u c hu hc=>(g5 j u c hu hc).mono sJ,g6,λb' hb o=>by rw[hJo b' (hnot i _ b' hi g1 hb)];exact g7 b' hb o⟩
     |shut v1 es1=>obtain⟨h1,s1,g1,g2,g3⟩:=h0;exact⟨h1,s1,(kr i hi).trans g1,g2.mono sJ,g3⟩
     |tail v1 e1 s1 es1=>obtain⟨g,o0,cap,arr,g1,g2,g3,g4,g5,g6,g7,g8⟩:=h0;exact⟨g,o0,cap,arr,(kr i hi).trans g1,g2,g3,g4,g5,g6,g7.mono sJ,λj a b=>by rw[hJo g (hnot i _ g hi g1 rfl)];exact g8 j a b⟩
     |deep v1 e1 s1 k1 e2 s2 es1 =>
      obtain⟨h1,us1,rm,g1,g2,g3,g4,g5,g6,g7⟩:=h0;have hk:∀b',(Loc.deep v1 h1 s1 s2 rm es1.length).has b'->w.heap[b']? = w.heap[b']?/\∀o,J b' o=I b' o:=λb' hb=>⟨rfl,λo=>hJo b' (hnot i _ b' hi g1 hb) o⟩
      refine⟨h1,us1,rm,(kr i hi).trans g1,g2.keep sJ λb' hb=>hk b' (.inl hb),g3,g4,g5,λj x hx=>?_,g7⟩;obtain⟨l,us2,m1,m2,m3⟩:=g6 j x hx;exact⟨l,us2,m1,m2.keep sJ λb' hb=>hk b' (.inr ⟨j,(List.getElem?_eq_some_iff.1 hx).1,hb⟩),m3⟩
  fM:=λi l b' hl hb=>by
   by_cases hi:i=id
   ·subst hi;rw[amz] at hl;cases hl
   ·rw[kr i hi] at hl;exact hs.fM i l b' hl hb
  apart:=λi j li lj b' hi hj rK vq=>by
   by_cases ei:i=id
   ·subst ei;rw[amz] at hi;cases hi
   by_cases ej:j=id
   ·subst ej;rw[amz] at hj;cases hj
   rw[kr i ei] at hi;rw[kr j ej] at hj;exact hs.apart i j li lj b' hi hj rK vq }
theorem aBP(id:Nat)(ps:List PV)(env:Env)(i:Nat):aFl id ps env i=rz id ps (env i):=rfl
theorem aBQ(id:Nat)(ps:List PV)(H:aA)(i:Nat):ayX id ps H i=if i=id then none else ayW id ps (H i):=rfl
theorem auy(id:Nat)(ps:List PV)(c:Chunk):ayW id ps (some c)=some (fixC id ps c):=rfl
theorem auz(id:Nat)(ps:List PV):ayW id ps none=none:=rfl
theorem ayY(id:Nat)(ps:List PV)(cs:List AV):fixC id ps (.box cs) = .box (qk id ps cs):=rfl
theorem ayZ(id:Nat)(ps:List PV)(v:Nat)(e:TypeId)(sz:Nat)(es:List (List PV)):fixC id ps (.row v e sz es) = .row v e sz es:=rfl
theorem auA(id:Nat)(ps:List PV):qk id ps []=[]:=by simp only[qk]
theorem apL(id:Nat)(ps:List PV)(a:AV)(r:List AV):qk id ps (a :: r)=rz id ps a :: qk id ps r:=by simp only[qk]
theorem aDH(id:Nat)(ps:List PV)(x:PV):rz id ps (.p x) = .p x:=by simp only[rz]
theorem ay0(id:Nat)(ps:List PV)(i o:Nat):rz id ps (.ptr i o)=if i=id then .p (.ee ps o) else .ptr i o:=by simp only[rz]
theorem ay1(id:Nat)(ps:List PV)(i v:Nat):rz id ps (.row i v)=if i=id then .dead else .row i v:=by simp only[rz]
theorem ay2(id:Nat)(ps:List PV)(f:Fn)(a b:List AV):rz id ps (.iK f a b) = .iK f (qk id ps a) (qk id ps b):=by simp only[rz]
theorem tX{o:Oper}{W:Env->aA->Prop}{env ta:Env}{H H2:aA}(hw:dx env H ta H2){k:FuncId}{ps:List PV}{b:Bool}{id v:Nat}{e:TypeId}{sz:Nat}{es es':List (List PV)}{eS:List AV}(c:kJ P k v e sz es ps λa c=>a = .row 1000000 (v+1)/\c=some (.row (v+1) e sz es'))
  (ha:dP o (ev ta)=some (k,.row id v :: eS)) (hH:H2 id=some (.row v e sz es))
  (he:eC (gR (agZ H2 id)) eS=some (ps,b)) (hb:b=true->(es'.all λx=>x.all isVal)=true) (hW:W (cL ta o.dst (.row id (v+1))) (bh H2 id (.row (v+1) e sz es'))):jF P o W env H :=
 uu hw (.inl (.inr (.inr ⟨[],.inr ⟨k,id,v,e,sz,es,eS,ps,b,_,ha,hH,he,c,λa c ⟨h1,h2⟩=>by
  subst h1 h2;exact⟨v+1,e,sz,es',.row id (v+1),rfl,rfl,λh=>⟨hb h,rfl⟩,hW⟩⟩⟩)))
attribute [go_sem] ay2 aBP aBQ auy auz ayY ayZ auA apL aDH ay0 ay1
end Go.cv
namespace Go.Proofs.YtjhkgjlmiolfoaaGreat
open Go.cv
theorem amA(n:ah)(id:Int):aS pw 169 [.agg (ag n),.ee [.val (.int .i64 id)] 0] (λv=>v = .val (.bool (decide (n.id=id)))):=by refine aR [] func169 ntmps169 results169 ?_;simp only[go_sem,ag]
theorem apM(p:aF)(id:Int)(hl:p.au.length<=1000000):aS pw 100 [.agg (aB p),.val (.int .i64 id)] (λv=>v = .val (.bool (p.au.any λn=>decide (n.id=id)))):=by refine aR [] func100 ntmps100 results100 ?_;simp only[go_sem,aB];have aj0:=zp (λn=>decide (n.id=id)) p.au hl 169 [] [.ee [.val (.int .i64 id)] 0] (λx _=>amA x id);refine aX (aj0) (by simp only[go_sem]<;>rfl) (b7 rfl) ?_;simp only[go_sem]
theorem amB(n:ah)(p:aF)(hl:p.au.length<=1000000):aS pw 176 [.agg (ag n),.ee (aB p) 0] (λv=>v = .val (.bool (p.au.any λm=>decide (m.id=n.id)))):=by refine aR [] func176 ntmps176 results176 ?_;simp only[go_sem,ag,aB];refine aX (apM p n.id hl) (by simp only[go_sem,aB]<;>rfl) (b7 rfl) ?_;simp only[go_sem,aB]
theorem aj1(y x:ax):aS pw 179 [.agg (aj y),.ee (aj x) 0] (λv=>v = .val (.bool (decide (x.id=y.id)))):=by refine aR [] func179 ntmps179 results179 ?_;simp only[go_sem,aj]
theorem amC(x:ax)(p:aF)(hl:p.aC.length<=1000000):aS pw 178 [.agg (aj x),.ee (aB p) 0] (λv=>v = .val (.bool (p.aC.any λy=>decide (x.id=y.id)))):=by refine aR [] func178 ntmps178 results178 ?_;simp only[go_sem,aj,aB];have aj0:=zu (λy=>decide (x.id=y.id)) p.aC hl 179 [] [.ee (aj x) 0] (λy _=>aj1 y x);refine aX (aj0) (by simp only[go_sem,aj]<;>rfl) (b7 rfl) ?_;simp only[go_sem,aj]
theorem aj2(w v:aO):aS pw 184 [.agg (aI w),.ee (aI v) 0] (λr=>r = .val (.bool (decide (v.id=w.id)&&decide (v.attr=w.attr)))):=by
 refine aR [] func184 ntmps184 results184 ?_;simp only[go_sem,aI]
 repeat' first|done|(refine bQ (λh=>?_) (λh=>?_)<;>try simp only[go_sem,h])|(refine bL (λh=>?_) (λh=>?_)<;>try simp only[go_sem,h])|(refine aW (λh=>?_) (λh=>?_)<;>try simp only[go_sem,h])|(refine aL (λh=>?_) (λh=>?_)<;>try simp only[go_sem,h])
theorem amD(v:aO)(p:aF)(hl:p.values.length<=1000000):aS pw 182 [.agg (aI v),.ee (aB p) 0] (λr=>r = .val (.bool (p.values.any λw=>decide (v.id=w.id)&&decide (v.attr=w.attr)))):=by refine aR [] func182 ntmps182 results182 ?_;simp only[go_sem,aI,aB];have aj0:=ahj (λw=>decide (v.id=w.id)&&decide (v.attr=w.attr)) p.values hl 184 [] [.ee (aI v) 0] (λw _=>aj2 w v);refine aX (aj0) (by simp only[go_sem,aI]<;>rfl) (b7 rfl) ?_;simp only[go_sem,aI]
theorem aem(l:List ah)(hl:l.length<=1000000):bt pw 175 [.aU (l.map ag)] (λr=>r = .row 75 3 (l.map ag)):=by
 by_cases h0:l=[]
 ·subst h0;refine bt.tR (by kernel_rfl) λao cap=>?_
  refine bF [5] func175 ntmps175 results175 ?_;simp only[go_sem];cases ao with
  |none=>simp only[go_sem];exact⟨by decide,_,.nil _ _ (by decide),rfl⟩
  |some a=>simp only[go_sem];exact⟨λ_ h=>h.elim,by decide,_,.refl _,rfl⟩
 ·have hne:l.map ag≠[]:=by simpa using h0
  refine bF [5] func175 ntmps175 results175 ?_;simp only[go_sem,hne];exact⟨⟨by omega,fc (n:=3) (f:=ag) (λ_=>rfl) l⟩,by decide,_,.refl _,rfl⟩
theorem aen(l:List ax)(hl:l.length<=1000000):bt pw 91 [.aU (l.map aj)] (λr=>r = .row 102 4 (l.map aj)):=by
 by_cases h0:l=[]
 ·subst h0;refine bt.tR (by kernel_rfl) λao cap=>?_
  refine bF [5] func91 ntmps91 results91 ?_;simp only[go_sem];cases ao with
  |none=>simp only[go_sem];exact⟨by decide,_,.nil _ _ (by decide),rfl⟩
  |some a=>simp only[go_sem];exact⟨λ_ h=>h.elim,by decide,_,.refl _,rfl⟩
 ·have hne:l.map aj≠[]:=by simpa using h0
  refine bF [5] func91 ntmps91 results91 ?_;simp only[go_sem,hne];exact⟨⟨by omega,fc (n:=4) (f:=aj) (λ_=>rfl) l⟩,by decide,_,.refl _,rfl⟩
theorem agc(l:List aO)(hl:l.length<=1000000):bt pw 181 [.aU (l.map aI)] (λr=>r = .row 105 4 (l.map aI)):=by
 by_cases h0:l=[]
 ·subst h0;refine bt.tR (by kernel_rfl) λao cap=>?_
  refine bF [5] func181 ntmps181 results181 ?_;simp only[go_sem];cases ao with
  |none=>simp only[go_sem];exact⟨by decide,_,.nil _ _ (by decide),rfl⟩
  |some a=>simp only[go_sem];exact⟨λ_ h=>h.elim,by decide,_,.refl _,rfl⟩
 ·have hne:l.map aI≠[]:=by simpa using h0
  refine bF [5] func181 ntmps181 results181 ?_;simp only[go_sem,hne];exact⟨⟨by omega,fc (n:=4) (f:=aI) (λ_=>rfl) l⟩,by decide,_,.refl _,rfl⟩
def mm(p q:aF):aF:={ q with
 au:=q.au.filter λn=>!p.au.any λm=>decide (m.id=n.id)
 aC:=q.aC.filter λx=>!p.aC.any λy=>decide (x.id=y.id)
 values:=q.values.filter λv=>!p.values.any λw=>decide (v.id=w.id)&&decide (v.attr=w.attr) }
theorem apN(p q:aF)(h1:p.au.length<=1000000)(h2:p.aC.length<=1000000)(h3:p.values.length<=1000000)(g1:q.au.length<=1000000)(g2:q.aC.length<=1000000)(g3:q.values.length<=1000000)(r:aF)(hr:r=mm p q) :
  bt pw 103 [.agg (aB p),.agg (aB q)] (λv=>v = .agg [.row 75 3 (r.au.map ag),.row 102 4 (r.aC.map aj),.p (.aU (r.aM.map ag)),.p (.aU (r.aK.map aj)),.row 105 4 (r.values.map aI),.p (.val (.int .i64 r.next.x0)),.p (.val (.int .i64 r.next.x1))]):=by
 subst hr;have hd1:=af6 (λn=>p.au.any λm=>decide (m.id=n.id)) q.au g1 0 176 [] [.ee (aB p) 0] (λx _=>amB x p h1);have hd2:=af7 (λx=>p.aC.any λy=>decide (x.id=y.id)) q.aC g2 0 178 [] [.ee (aB p) 0] (λx _=>amC x p h2);have hd3:=aie (λv=>p.values.any λw=>decide (v.id=w.id)&&decide (v.attr=w.attr)) q.values g3 0 182 [] [.ee (aB p) 0] (λx _=>amD x p h3);refine bF [] func103 ntmps103 results103 ?_;simp only[go_sem,aB];refine pJ 1000 (aem q.au g1) (by simp only[go_sem]<;>rfl) (vM) (by simp only[go_sem]) ?_;simp only[go_sem];refine tX (acw 2 (aB p) (by decide) (by simp only[go_sem,aB])) hd1 (by simp only[go_sem]<;>rfl) (by simp only[go_sem]<;>rfl) (by simp only[go_sem]<;>rfl) (λh=>by cases h) ?_;simp only[go_sem];refine pJ 1001 (aen q.aC g2) (by simp only[go_sem]<;>rfl) (vM) (by simp only[go_sem]) ?_;simp only[go_sem];refine wX hd2 (by simp only[go_sem]<;>rfl) (by simp only[go_sem]<;>rfl) (by simp only[go_sem]<;>rfl) (λh=>by cases h) ?_;simp only[go_sem];refine pJ 1002 (agc q.values g3) (by simp only[go_sem]<;>rfl) (vM) (by simp only[go_sem]) ?_;simp only[go_sem];refine wX hd3 (by simp only[go_sem]<;>rfl) (by simp only[go_sem]<;>rfl) (by simp only[go_sem]<;>rfl) (λh=>by cases h) ?_;simp only[go_sem];exact⟨by decide,_,.refl _,rfl⟩
theorem amE{α:Type}(es:List α)(z:α)(i j:Nat)(hij:i<j)(hj:j<=es.length):(splice (splice es i ((es.drop j).take (es.length-j))) (i+(es.length-j)) (replicate (es.length-(i+(es.length-j))) z)).take (i+(es.length-j))=es.take i++es.drop j:=by
 have h1:(es.drop j).take (es.length-j)=es.drop j:=take_of_length_le (by simp);rw[h1];unfold splice;have e1:(es.take i++es.drop j++es.drop (i+(es.drop j).length)).take (i+(es.length-j))=es.take i++es.drop j:=by
  have hl:(es.take i++es.drop j).length=i+(es.length-j):=by simp;omega
  rw[<-hl,take_left]
 rw[e1,append_assoc];have hl:(es.take i++es.drop j).length=i+(es.length-j):=by simp;omega
 rw[<-hl,take_left]
theorem aBR(es:List (List PV))(i j:Nat)(v:Nat)(hij:i<j)(hj:j<=es.length)(hn:es.length<=1000000):kJ pw 249 v 75 3 es [.val (.int .i64 i),.val (.int .i64 j)] (λa c=>a = .row 1000000 (v+1)/\c=some (.row (v+1) 75 3 (es.take i++es.drop j))):=by
 refine rY ?_;refine mP [] Ty.mixed func249 rfl (by kernel_rfl) (by simp[ntmps249]) ?_;rw[ntmps249,results249];simp only[go_sem];refine aq8 41 _ _ _ _ 0 1000000 v 75 3 es .i64 .i64 .i64 i j es.length rfl (by simp only[go_sem]) (by simp only[go_sem]) (by simp only[go_sem]) (by simp only[go_sem]) (by simp only[go_sem]) (by simp only[go_sem]) (by simp only[go_sem]) (by simp only[go_sem]) (by omega) ?_;simp only[go_sem];refine aL (λhc=>?_) (λhc=>?_)
 ·have:=ct hc;omega
 simp only[go_sem];refine cZ [.p,.p,.p,.p,.p,.p,.t,.t] (by kernel_rfl) ?_;simp only[go_sem,Nat.sub_zero];refine⟨⟨by omega,by omega⟩,⟨by omega,by omega⟩,?_⟩;refine amo 41 41 _ _ 1000000 v i es.length j (es.length-j) (es.length-j) 75 3 _ es rfl (by simp only[go_sem]<;>rfl) (by simp only[go_sem]) (by simp only[go_sem]) (by simp only[go_sem]) (by omega) (by omega) (by omega) (by omega) ?_;simp only[go_sem];have xL:(splice es i ((es.drop j).take (es.length-j))).length=es.length:=dD (by simp;omega);refine⟨⟨by omega,by omega⟩,?_⟩;refine rX 41 _ 1000000 v (i+(es.length-j)) (es.length-(i+(es.length-j))) _ 75 3 (splice es i ((es.drop j).take (es.length-j))) _ rfl (by simp only[go_sem]) (by simp only[go_sem]<;>rfl) rfl (by decide) rfl (by simp only[go_sem]<;>rfl) (by simp only[go_sem]) (by omega) (by omega) ?_;simp only[go_sem];have hd:=amE es ((cN pw 75).getD [] |>.map PV.val) i j hij hj;have hl:i+(es.length-j)<=(splice (splice es i ((es.drop j).take (es.length-j))) (i+(es.length-j)) (replicate (es.length-(i+(es.length-j))) ((cN pw 75).getD [] |>.map PV.val))).length:=by rw[dD (by rw[xL,length_replicate];omega),xL];omega
 rw[show (cN pw 75).getD []=_ from by simp only[go_sem]<;>rfl] at hd hl;simp only[rN,length_replicate,append_assoc,map_cons,map_nil] at hd hl;exact⟨_,_,_,.inl rfl,rfl,hl,hd⟩
theorem aBS(es:List (List PV))(i j:Nat)(v:Nat)(hij:i<j)(hj:j<=es.length)(hn:es.length<=1000000):kJ pw 250 v 102 4 es [.val (.int .i64 i),.val (.int .i64 j)] (λa c=>a = .row 1000000 (v+1)/\c=some (.row (v+1) 102 4 (es.take i++es.drop j))):=by
 refine rY ?_;refine mP [] Ty.mixed func250 rfl (by kernel_rfl) (by simp[ntmps250]) ?_;rw[ntmps250,results250];simp only[go_sem];refine aq8 42 _ _ _ _ 0 1000000 v 102 4 es .i64 .i64 .i64 i j es.length rfl (by simp only[go_sem]) (by simp only[go_sem]) (by simp only[go_sem]) (by simp only[go_sem]) (by simp only[go_sem]) (by simp only[go_sem]) (by simp only[go_sem]) (by simp only[go_sem]) (by omega) ?_;simp only[go_sem];refine aL (λhc=>?_) (λhc=>?_)
 ·have:=ct hc;omega
 simp only[go_sem];refine cZ [.p,.p,.p,.p,.p,.p,.t,.t] (by kernel_rfl) ?_;simp only[go_sem,Nat.sub_zero];refine⟨⟨by omega,by omega⟩,⟨by omega,by omega⟩,?_⟩;refine amo 42 42 _ _ 1000000 v i es.length j (es.length-j) (es.length-j) 102 4 _ es rfl (by simp only[go_sem]<;>rfl) (by simp only[go_sem]) (by simp only[go_sem]) (by simp only[go_sem]) (by omega) (by omega) (by omega) (by omega) ?_;simp only[go_sem];have xL:(splice es i ((es.drop j).take (es.length-j))).length=es.length:=dD (by simp;omega);refine⟨⟨by omega,by omega⟩,?_⟩;refine rX 42 _ 1000000 v (i+(es.length-j)) (es.length-(i+(es.length-j))) _ 102 4 (splice es i ((es.drop j).take (es.length-j))) _ rfl (by simp only[go_sem]) (by simp only[go_sem]<;>rfl) rfl (by decide) rfl (by simp only[go_sem]<;>rfl) (by simp only[go_sem]) (by omega) (by omega) ?_;simp only[go_sem];have hd:=amE es ((cN pw 102).getD [] |>.map PV.val) i j hij hj;have hl:i+(es.length-j)<=(splice (splice es i ((es.drop j).take (es.length-j))) (i+(es.length-j)) (replicate (es.length-(i+(es.length-j))) ((cN pw 102).getD [] |>.map PV.val))).length:=by rw[dD (by rw[xL,length_replicate];omega),xL];omega
 rw[show (cN pw 102).getD []=_ from by simp only[go_sem]<;>rfl] at hd hl;simp only[rN,length_replicate,append_assoc,map_cons,map_nil] at hd hl;exact⟨_,_,_,.inl rfl,rfl,hl,hd⟩
theorem apO(n:ah)(id:Int):aS pw 239 [.agg (ag n),.ee [.val (.int .i64 id)] 0] (λv=>v = .val (.bool (decide (n.id=id)))):=by refine aR [] func239 ntmps239 results239 ?_;simp only[go_sem,ag]
theorem adF(l:List ah)(hl:l.length<=1000000)(id:Int):aS pw 142 [.aU (l.map ag),.val (.int .i64 id)] (λv=>v = .val (.int .i64 (idxOf (λn=>decide (n.id=id)) l))):=by refine aR [] func142 ntmps142 results142 ?_;simp only[go_sem];have aj0:=zo (λn=>decide (n.id=id)) l hl 239 [] [.ee [.val (.int .i64 id)] 0] (λx _=>apO x id);refine aX (aj0) (by simp only[go_sem]<;>rfl) (b7 rfl) ?_;simp only[go_sem]
theorem apP(n:ax)(id:Int):aS pw 241 [.agg (aj n),.ee [.val (.int .i64 id)] 0] (λv=>v = .val (.bool (decide (n.id=id)))):=by refine aR [] func241 ntmps241 results241 ?_;simp only[go_sem,aj]
theorem aih(l:List ax)(hl:l.length<=1000000)(id:Int):aS pw 143 [.aU (l.map aj),.val (.int .i64 id)] (λv=>v = .val (.int .i64 (idxOf (λn=>decide (n.id=id)) l))):=by refine aR [] func143 ntmps143 results143 ?_;simp only[go_sem];have aj0:=zq (λn=>decide (n.id=id)) l hl 241 [] [.ee [.val (.int .i64 id)] 0] (λx _=>apP x id);refine aX (aj0) (by simp only[go_sem]<;>rfl) (b7 rfl) ?_;simp only[go_sem]
def cK(x:az)(i:Nat):ah:=⟨x.nodes.getD i default,x.host.graph.nodes.getD i default,x.host.values.getD i default⟩
def bD(x:az):List ah:=(range x.nodes.length).map (cK x)
theorem ay3(x:az)(h1:x.nodes.length<=x.host.graph.nodes.length)(h2:x.nodes.length<=x.host.values.length)(h3:x.nodes.length<=1000000)(h4:∀l∈x.host.values,l.length<=1000000) :
  bt pw 140 [.agg (aD x)] (λv=>v = .deep 75 3 2 3 1 ((bD x).map ag)):=by
 refine bF [31] func140 ntmps140 results140 ?_;simp only[go_sem,aD];refine bM (σ:=Nat) (λi=>(cE (cE (cE (cE (cE fS 1 (.ptr 1 0)) 3 (.eP 2000 i)) 7 (.p (.aU (x.nodes.map encI)))) 8 (.p (.val (.int .i64 x.nodes.length)))) 9 (.p (.val (.int .i64 i))))) (λi=>(bh (bh cq 1 (.box [.p (.aU (x.host.graph.nodes.map encI)),.p (.aU (x.host.graph.ak.map aZ)),.p (.aU (x.host.values.map bJ)),.p (.aU (x.nodes.map encI)),.p (.aU (x.ak.map encI)),.p (.val (.int .i64 x.next))])) 2000 (.deep i 75 3 2 3 1 (((bD x).take i).map ag))))
  (λi=>i<=x.nodes.length) (λi=>x.nodes.length-i) 0 (zero_le _) (dx.trans (auf 3 2000 75 3 2 3 1 (by simp only[go_sem]) (by simp only[go_sem]) (by decide)) bU) ?_
 rintro i hi;simp only[go_sem,aD];refine aL (λhc=>?_) (λhc=>?_)
 ·have hlt:i<x.nodes.length:=by have:=ct hc;omega
  have td:i<x.host.graph.nodes.length:=by omega
  have avH:i<x.host.values.length:=by omega
  simp only[go_sem,getD_map encI hlt,encI];refine⟨hlt,?_⟩;refine cZ [.p,.p,.q,.q,.q,.q,.p,.q,.q,.q,.q,.q,.p,.q,.q,.f,.p,.w,.t,.t] (by kernel_rfl) ?_;simp only[go_sem,getD_map encI td,getD_map bJ avH,encI,bJ,bk];refine⟨td,avH,?_⟩;have hm:x.host.values.getD i default∈x.host.values:=by simp[avH]
  refine aeZ 1464 (ahZ (x.host.values.getD i default) (h4 _ hm)) (by simp only[go_sem]<;>rfl) (iA _) vM (by simp only[go_sem]) (by simp only[go_sem]) ?_;simp only[go_sem];refine amh 41 41 _ _ 2000 31 1464 i 0 2 75 3 40 3 1 (((bD x).take i).map ag) ((x.host.values.getD i default).map encI) [.val (.int .i64 (x.nodes.getD i default)),.val (.int .i64 (x.host.graph.nodes.getD i default)),.val (.slice none 0 0)] rfl (by simp only[go_sem]<;>rfl) (by simp only[go_sem]) (by simp only[go_sem]) (by simp only[go_sem]) (by simp only[go_sem]) (by simp only[go_sem]) rfl (by decide) ?_ ?_
  ·simp;omega
  have hel:((bD x).take i).map ag++[[.val (.int .i64 (x.nodes.getD i default)),.val (.int .i64 (x.host.graph.nodes.getD i default)),.aU ((x.host.values.getD i default).map encI)]]=((bD x).take (i+1)).map ag:=by
   have hl:i<(bD x).length:=by simp[bD];exact hlt
   rw[om hl,map_append,map_cons,map_nil];have hg:(bD x).getD i default=cK x i:=by simp[bD,hlt]
   rw[hg];rfl
  simp only[go_sem,bw hlt (by omega)];refine bO (i+1) hlt (by omega) ?_;rw[hel];exact bU
 ·have:i=x.nodes.length:=by have:=dV hc;omega
  subst this;simp only[go_sem];exact⟨by decide,_,.refl _,by rw[take_of_length_le (by simp[bD])]⟩
def ceq(a b:aG):Bool:=decide (a.kind=b.kind)&&(decide (a.id=b.id)&&decide (a.attr=b.attr))
theorem ay4(a b:aG):ceq a b=true↔a=b:=by cases a;cases b;simp[ceq]
def fresh(l:List aG)(j:Nat):Bool:=decide (j=0) || !ceq (l.getD j default) (l.getD (j-1) default)
theorem acy{l:List aG}{j:Nat}{b:Bool}(h1:1<=j)(h:ceq (l.getD j default) (l.getD (j-1) default)=b):fresh l j = !b:=by unfold fresh;rw[h,gf (by omega),Bool.false_or]
def kept(l:List aG):Nat->List aG
 |0=>[]
 |j+1=>if fresh l j then kept l j++[l.getD j default] else kept l j
theorem acz(l:List aG):∀j,j<=l.length->(∀i,i<j->fresh l i=true)->kept l j=l.take j
 |0,_,_=>rfl
 |j+1,hj,h=>by rw[kept,if_pos (h j (by omega)),acz l j (by omega) λi hi=>h i (by omega),om (by omega)]
theorem amF(l:List aG):∀j,(kept l j).length<=j
 |0=>le_refl _
 |j+1=>by
  have:=amF l j;unfold kept;split
  ·simp;omega
  ·omega
def lg(K g l:List aG)(j:Nat):List aG:=K++g++l.drop (j-1)
theorem auB{K g l:List aG}{j:Nat}(h:K.length+g.length=j-1)(hj:j<=l.length):(lg K g l j).length=l.length:=by simp[lg];omega
theorem amG{K g l:List aG}{j:Nat}(h:K.length+g.length=j-1)(i:Nat)(hi:j-1<=i):(lg K g l j).getD i default=l.getD i default:=by
 have h1:(K++g).length=j-1:=by rw[length_append];exact h
 simp only[lg,getD_eq_getElem?_getD];rw[getElem?_append_right (by omega),h1,getElem?_drop,show j-1+(i-(j-1))=i by omega]
theorem apQ{K g l:List aG}{j:Nat}(h1:1<=j)(hj:j<l.length):lg K g l j=lg K (g++[l.getD (j-1) default]) l (j+1):=by
 have h2:l.drop (j-1)=l.getD (j-1) default :: l.drop j:=by rw[drop_eq_getElem_cons (by omega)];simp[show j-1<l.length by omega,show j-1+1=j by omega]
 simp[lg,h2]
theorem apR{K g l:List aG}{j:Nat}(x:aG)(h:K.length+g.length=j-1)(h1:1<=j)(hj:j<l.length):∃g2,(lg K g l j).set K.length x=lg (K++[x]) g2 l (j+1)/\(K++[x]).length+g2.length=j+1-1:=by
 have h2:l.drop (j-1)=l.getD (j-1) default :: l.drop j:=by rw[drop_eq_getElem_cons (by omega)];simp[show j-1<l.length by omega,show j-1+1=j by omega]
 cases g with
 |nil=>refine⟨[],?_,by simp at h ⊢;omega⟩;rw[lg,h2,append_nil,set_append_right _ _ (le_refl _),Nat.sub_self];simp[lg]
 |cons y r=>refine⟨r++[l.getD (j-1) default],?_,by simp at h ⊢;omega⟩;rw[lg,h2,append_assoc,set_append_right _ _ (le_refl _),Nat.sub_self];simp[lg]
theorem aDI(z:List PV)(K g l:List aG)(i:Nat)(hi:K.length=i)(hl:(lg K g l l.length).length=l.length):(splice ((lg K g l l.length).map ay) i (replicate (l.length-i) z)).take i=K.map ay:=by
 unfold lg splice;rw[map_append,map_append,append_assoc,append_assoc];have h2:(K.map ay).length=i:=by rw[length_map];exact hi
 rw[<-h2,take_left,take_left]
theorem apS(l:List aG)(hl:l.length<=1000000)(v:Nat):kJ pw 173 v 57 3 (l.map ay) []
  (λa c=>a = .row 1000000 (v+1)/\c=some (.row (v+1) 57 3 ((kept l l.length).map ay))):=by
 refine rY ?_;refine mP [] Ty.mixed func173 rfl (by kernel_rfl) (by simp[ntmps173]) ?_;rw[ntmps173,results173];simp only[go_sem];refine aL (λhc=>?_) (λhc=>?_)
 ·have qE:l.length<2:=by have:=ct hc;omega
  simp only[go_sem];refine⟨_,_,0,rfl,rfl,le_refl _,?_⟩;rw[take_length,acz l _ (le_refl _) (λi hi=>by have e0:i=0:=(by omega);subst e0;rfl),take_length]
 have qE:2<=l.length:=by have:=dV hc;omega
 simp only[go_sem];refine bM (σ:=Nat) (λx=>(cE (cE fS 0 (.row 1000000 v)) 3 (.p (.val (.int .i64 x))))) (λx=>(bh cq 1000000 (.row v 57 3 (l.map ay))))
  (λx=>1<=x/\x<=l.length/\∀i,i<x->fresh l i=true) (λx=>l.length-x) 1 ⟨le_refl _,by omega,λi hi=>by have e0:i=0:=(by omega);subst e0;rfl⟩ bU ?_
 rintro k ⟨hk1,hk2,hk3⟩;simp only[go_sem];refine aL (λhc=>?_) (λhc=>?_)
 ·have hlt:k<l.length:=by have:=ct hc;omega
  have hw:i64.wrap ((k:Int)-1)=((k-1:Nat):Int):=by rw[IntWalk.i64_in _ (by omega)];omega
  have td:k-1<l.length:=by omega
  simp only[go_sem,hw,getD_map ay hlt,getD_map ay td,ay];refine cZ [.q,.q,.q,.q,.q,.q,.q,.q,.q,.q] (by kernel_rfl) ?_;simp only[go_sem,hw,getD_map ay hlt,getD_map ay td,ay];refine⟨hlt,hlt,by omega,td,?_⟩;refine aL (λhb=>?_) (λhb=>?_)
  ·have hf:=acy hk1 hb;simp only[go_sem,hw,getD_map ay hlt,getD_map ay td,ay];refine jP _ _ (nF 26 1000000 v 57 3 _ rfl rfl) (by simp only[go_sem,hw,getD_map ay hlt,getD_map ay td,ay]<;>rfl) ?_ ?_
   ·omega
   simp only[go_sem,hw,getD_map ay hlt,getD_map ay td,ay];refine bM (σ:=Nat×List aG×List aG) (λx=>(cE (cE (cE (cE fS 0 (.row 1000000 v)) 3 (.p (.val (.int .i64 x.2.1.length)))) 4 (.iM 1000000 v k (l.length-k) (l.length-k) 3)) 5 (.p (.val (.int .i64 x.1))))) (λx=>(bh cq 1000000 (.row v 57 3 ((lg x.2.1 x.2.2 l (k+x.1)).map ay))))
    (λx=>1<=x.1/\k+x.1<=l.length/\x.2.1=kept l (k+x.1)/\x.2.1.length+x.2.2.length=k+x.1-1) (λx=>l.length-(k+x.1)) (1,l.take k,[]) ⟨le_refl _,hlt,?_,?_⟩ ?_ ?_
   ·simp only;rw[kept,if_neg (by rw[hf];simp),acz l k (by omega) hk3]
   ·simp;omega
   ·have:lg (l.take k) [] l (k+1)=l:=by simp[lg]
    have rj:(l.take k).length=k:=by simp;omega
    rw[this,rj];exact bU
   rintro⟨x,K,g⟩ ⟨hx1,hx2,hx3,hx4⟩;simp only at hx1 hx2 hx3 hx4;have hlen:=auB hx4 hx2;simp only[go_sem,hw,getD_map ay hlt,getD_map ay td,ay];refine aL (λzk=>?_) (λzk=>?_)
   ·have hx:k+x<l.length:=by have:=ct zk;omega
    have hwx:i64.wrap ((x:Int)-1)=((x-1:Nat):Int):=by rw[IntWalk.i64_in _ (by omega)];omega
    have hi1:k+x<(lg K g l (k+x)).length:=by omega
    have hi2:k+(x-1)<(lg K g l (k+x)).length:=by omega
    have hg1:((lg K g l (k+x)).map ay).getD (k+x) []=ay (l.getD (k+x) default):=by rw[getD_map ay hi1,amG hx4 _ (by omega)]
    have hg2:((lg K g l (k+x)).map ay).getD (k+(x-1)) []=ay (l.getD (k+x-1) default):=by rw[getD_map ay hi2,amG hx4 _ (by omega),show k+(x-1)=k+x-1 by omega]
    simp only[go_sem,hw,getD_map ay hlt,getD_map ay td,ay,hwx,hg1,hg2,hlen];refine cZ [.q,.q,.q,.q,.q,.q,.q,.q,.q,.q] (by kernel_rfl) ?_;simp only[go_sem,hw,getD_map ay hlt,getD_map ay td,ay,hwx,hg1,hg2,hlen];refine⟨⟨by omega,by omega⟩,by omega,⟨by omega,by omega⟩,by omega,?_⟩;refine aW (λhe=>?_) (λhe=>?_)
    ·have hf2:=acy (show 1<=k+x by omega) he;simp only[go_sem,bw (show x<l.length by omega) (by omega),hw,getD_map ay hlt,getD_map ay td,ay,hwx,hg1,hg2,hlen];refine bO (x+1,K,g++[l.getD (k+x-1) default]) ⟨by omega,hx,?_,by simp;omega⟩ (by simp only;omega) ?_
     ·show K=kept l (k+x+1);rw[kept,if_neg (by rw[hf2];simp)];exact hx3
     ·rw[apQ (by omega) hx];exact bU
    ·have hf2:=acy (show 1<=k+x by omega) he;obtain⟨g2,e1,e2⟩:=apR (l.getD (k+x) default) hx4 (by omega) hx;have hst:((lg K g l (k+x)).map ay).set K.length (ay (l.getD (k+x) default))=(lg (K++[l.getD (k+x) default]) g2 l (k+x+1)).map ay:=by rw[<-e1,map_set]
     have hKl:K.length<l.length:=by omega
     have hgK:((lg K g l (k+x)).map ay).getD K.length []=ay ((lg K g l (k+x)).getD K.length default):=getD_map ay (by omega);simp only[ay] at hst;simp only[go_sem,bw (show x<l.length by omega) (by omega),bw hKl (by omega),hgK,hw,getD_map ay hlt,getD_map ay td,ay,hwx,hg1,hg2,hlen];refine⟨⟨by omega,by omega⟩,hx,hKl,hKl,?_⟩;refine bO (x+1,K++[l.getD (k+x) default],g2) ⟨by omega,hx,?_,e2⟩ (by simp only;omega) ?_
     ·show K++_=kept l (k+x+1);rw[kept,if_pos (by rw[hf2];rfl),hx3]
     ·rw[hst];exact bU
   ·have hkx:k+x=l.length:=by have:=dV zk;omega
    rw[hkx] at hx3 hx4 hlen;have hKl:K.length<l.length:=by omega
    have xL:((lg K g l l.length).map ay).length=l.length:=by rw[length_map];exact hlen
    have hend:=aDI [PV.val (.int .i64 0),PV.val (.int .i64 0),PV.val (.int .i64 0)] K g l K.length rfl hlen;simp only[rN,length_replicate,append_assoc] at hend;rw[hkx];generalize (lg K g l l.length).map ay=E at xL hend ⊢;simp only[go_sem,hw,getD_map ay hlt,getD_map ay td,ay];refine jP _ _ (nF 54 1000000 v 57 3 _ rfl rfl) (by simp only[go_sem,hw,getD_map ay hlt,getD_map ay td,ay]<;>rfl) ?_ ?_
    ·omega
    simp only[go_sem,xL,hw,getD_map ay hlt,getD_map ay td,ay];refine rX 52 _ 1000000 v K.length (l.length-K.length) _ 57 3 E _ rfl (by simp only[go_sem,hw,getD_map ay hlt,getD_map ay td,ay]) (by simp only[go_sem,hw,getD_map ay hlt,getD_map ay td,ay]<;>rfl) rfl (by decide) rfl (by simp only[go_sem,hw,getD_map ay hlt,getD_map ay td,ay]<;>rfl) (by simp only[go_sem,hw,getD_map ay hlt,getD_map ay td,ay]) (by omega) (by omega) ?_;simp only[go_sem,hw,getD_map ay hlt,getD_map ay td,ay];refine jP _ _ (nF 57 1000000 v 57 3 _ rfl rfl) (by simp only[go_sem,hw,getD_map ay hlt,getD_map ay td,ay]<;>rfl) ?_ ?_
    ·simp[xL];omega
    simp only[go_sem,hw,getD_map ay hlt,getD_map ay td,ay];exact⟨_,_,_,.inl rfl,rfl,by simp[xL];omega,by rw[<-hx3];exact hend⟩
  ·have hf:=acy hk1 hb;simp only[go_sem,bw hlt (by omega),hw,getD_map ay hlt,getD_map ay td,ay];refine bO (k+1) ⟨by omega,hlt,λi hi=>?_⟩ (by omega) bU;rcases Nat.lt_succ_iff_lt_or_eq.1 hi with h|h
   ·exact hk3 i h
   ·rw[h,hf];rfl
 ·have:k=l.length:=by have:=dV hc;omega
  subst this;simp only[go_sem];exact⟨_,_,0,rfl,rfl,le_refl _,by rw[take_length,acz l _ (le_refl _) hk3,take_length]⟩
def leC(x y:aG):Bool:=decide (x.id<y.id\/x.id=y.id/\x.attr<=y.attr)
def ov(x:aG):Prop:=-1000000<=x.id/\x.id<=1000000/\-1000000<=x.attr/\x.attr<=1000000
def jc(l:List aG):List aG:=kept (l.mergeSort leC) l.length
def j6(l:List ah)(m:List ax)(id:Int):Bool:=(l.any λn=>decide (n.id=id))||m.any λe=>decide (e.id=id)
def dS(a b:ah):Bool:=decide (a.id=b.id)&&(decide (a.type=b.type)&&decide (a.values=b.values))
def lV:List ah->List ah->Nat->Bool×List ah×Nat
 |l,[],v=>(true,l,v)
 |l,n :: r,v=>match l.findIdx? λm=>decide (m.id=n.id) with
  |none=>(false,l,v)
  |some i=>if dS (l.getD i default) n then lV (l.take i++l.drop (i+1)) r (v+1) else (false,l,v)
def ql(a b:ax):Bool:=decide (a.id=b.id)&&(decide (a.type=b.type)&&(decide (a.src=b.src)&&decide (a.dst=b.dst)))
def nW:List ax->List ax->Nat->Bool×List ax×Nat
 |l,[],v=>(true,l,v)
 |l,n :: r,v=>match l.findIdx? λm=>decide (m.id=n.id) with
  |none=>(false,l,v)
  |some i=>if ql (l.getD i default) n then nW (l.take i++l.drop (i+1)) r (v+1) else (false,l,v)
def okV(l:List Int)(v:aO):Bool:=!decide (v.attr<0)&&(!decide ((l.length:Int)<=v.attr)&&(decide (l.getD v.attr.toNat default=v.old) && !decide (v.new=v.old)))
def lW:List ah->List aO->Bool×List ah
 |l,[]=>(true,l)
 |l,v :: r=>match l.findIdx? λm=>decide (m.id=v.id) with
  |none=>(false,l)
  |some i=>if okV (l.getD i default).values v then lW (l.set i { l.getD i default with values:=(l.getD i default).values.set v.attr.toNat v.new }) r else (false,l)
def gm(l:List ah)(m:List ax)(p:aF):Bool:=(p.aM.any λn=>j6 l m n.id)||p.aK.any λe=>j6 l m e.id
def kF(l:List ah):List ah:=l.mergeSort λx y=>decide (x.id<=y.id)
def mR(l:List ax):List ax:=l.mergeSort λx y=>decide (x.id<=y.id)
def aii{α:Type} [Inhabited α](f:α->Int)(d:List α):Prop:=∀i j,i<d.length->j<d.length->f (d.getD i default)=f (d.getD j default)->i=j
instance{α:Type} [Inhabited α](f:α->Int)(d:List α):Decidable (aii f d):=decidable_of_iff (∀i,i<d.length->∀j,j<d.length->f (d.getD i default)=f (d.getD j default)->i=j) ⟨λh i j hi hj=>h i hi j hj,λh i hi j hj=>h i j hi hj⟩
def qL(a b:Int):Int:=if a<b then -1 else if a > b then 1 else 0
end Go.Proofs.YtjhkgjlmiolfoaaGreat
namespace Go.cv
theorem ay5(id:Nat)(env:Env)(i:Nat):aq6 id env i=lN id (env i):=rfl
theorem ay6(id:Nat)(H:aA)(i:Nat):aaS id H i=if i=id then aBK (H i) else amj id (H i):=rfl
theorem aBT(id:Nat)(x:PV):lN id (.p x) = .p x:=by simp only[lN]
theorem apT(id i v:Nat):lN id (.eP i v)=if i=id then .row i v else .eP i v:=by simp only[lN]
theorem auC(id i v:Nat):lN id (.row i v)=if i=id then .dead else .row i v:=by simp only[lN]
theorem auD(id i o:Nat):lN id (.ptr i o)=if i=id then .dead else .ptr i o:=by simp only[lN]
theorem apU(id:Nat):nP id []=[]:=by simp only[nP]
theorem amH(id:Nat)(a:AV)(r:List AV):nP id (a :: r)=lN id a :: nP id r:=by simp only[nP]
theorem apV(id:Nat)(c:Chunk):amj id (some c)=some (aid id c):=rfl
theorem apW(id:Nat):amj id none=none:=rfl
theorem auE(id:Nat)(cs:List AV):aid id (.box cs) = .box (nP id cs):=rfl
theorem auF(id v:Nat)(e:TypeId)(sz:Nat)(es:List (List PV)):aid id (.row v e sz es) = .row v e sz es:=rfl
theorem apX(id v:Nat)(e:TypeId)(sz k:Nat)(e':TypeId)(sz':Nat)(es:List (List PV)):aid id (.deep v e sz k e' sz' es) = .deep v e sz k e' sz' es:=rfl
theorem auG(v:Nat)(e:TypeId)(sz k:Nat)(e':TypeId)(sz':Nat)(es:List (List PV)):aBK (some (.deep v e sz k e' sz' es))=some (.row v e sz es):=rfl
attribute [go_sem] ay5 ay6 aBT apT auC auD apU amH apV apW auE auF apX auG 
theorem apY{H:aA}(id:Nat):nU H id 5=(H id=none/\nU H (id+1) 4):=rfl
theorem auH{H:aA}(id:Nat):nU H id 6=(H id=none/\nU H (id+1) 5):=rfl
theorem amI{H:aA}(id:Nat):nU H id 7=(H id=none/\nU H (id+1) 6):=rfl
theorem amJ{H:aA}(id:Nat):nU H id 8=(H id=none/\nU H (id+1) 7):=rfl
theorem apZ{H:aA}(id:Nat):nU H id 9=(H id=none/\nU H (id+1) 8):=rfl
theorem auI{H:aA}(id:Nat):nU H id 10=(H id=none/\nU H (id+1) 9):=rfl
theorem ap0{own:List Nat}{ops:Array Oper}(id:Nat):acu own ops id 5=(lK own ops id=false/\acu own ops (id+1) 4):=rfl
attribute [go_sem] apY auH amI amJ apZ auI ap0 
def amK(n:Nat)(H:aA):Prop:=∀i,n<=i->H i=none
theorem aBU(n:Nat):amK n cq:=λ_ _=>rfl
theorem acA{n i:Nat}{c:Chunk}{H:aA}(hi:i<n)(h:amK n H):amK n (bh H i c):=λj hj=>by unfold bh;rw[if_neg (by omega)];exact h j hj
theorem ae0{n s t:Nat}{H:aA}(hs:s<n)(ht:t<n)(h:amK n H):amK n (ajV s t H):=λj hj=>by unfold ajV sw;rw[if_neg (by omega),if_neg (by omega),h j hj];rfl
theorem ay7{n id:Nat}{H:aA}(hi:id<n)(h:amK n H):amK n (aaS id H):=λj hj=>by unfold aaS;rw[if_neg (by omega),h j hj];rfl
theorem keepTop{H H':aA}(h:amK 1000003 H)(h0:H 1000000=none)(h1:H 1000001=none)(h2:H 1000002=none):l6 H H':=λi hi hn=>by
 rcases lt_or_ge i 1000003 with h3|h3
 ·have:i=1000000\/i=1000001\/i=1000002:=by omega
  rcases this with rfl|rfl|rfl
  ·exact absurd h0 hn
  ·exact absurd h1 hn
  ·exact absurd h2 hn
 ·exact absurd (h i h3) hn
open Go.RowKit
variable{P:Program}{I:Mem}{L:bA}
theorem ay8(a b c d e f:PV):iw [a,b,c,d,e,f]=cE (cE (cE (cE (cE (cE fS 0 (.p a)) 1 (.p b)) 2 (.p c)) 3 (.p d)) 4 (.p e)) 5 (.p f):=by funext t;unfold iw cE fS;rcases t with _|_|_|_|_|_|t<;>simp
theorem ay9(a b c d e f g:PV):iw [a,b,c,d,e,f,g]=cE (cE (cE (cE (cE (cE (cE fS 0 (.p a)) 1 (.p b)) 2 (.p c)) 3 (.p d)) 4 (.p e)) 5 (.p f)) 6 (.p g):=by funext t;unfold iw cE fS;rcases t with _|_|_|_|_|_|_|t<;>simp
attribute [go_sem] ay8 ay9
end Go.cv
namespace Go.cv
open Go.RowKit
theorem aij:∀ {a b c d:List (List PV)},k9 a b->k9 c d->k9 (a++c) (b++d)
 | [],[],_,_,_,h=>h
 |_ :: _,_ :: _,_,_,h,k=>by unfold k9 at h;rw[cons_append,cons_append];unfold k9;exact⟨h.1,aij h.2 k⟩
 | [],_ :: _,_,_,h,_=>by unfold k9 at h;exact h.elim
 |_ :: _,[],_,_,h,_=>by unfold k9 at h;exact h.elim
theorem ap1{α:Type}(E:α->List PV)(l m:List α){c:List (List PV)}(h:k9 c (m.map E)):k9 (l.map E++c) ((l++m).map E):=by rw[map_append];exact aij (xV _) h
theorem ap2{env:Env}{H:aA}(id v:Nat)(e:TypeId)(sz:Nat)(es es':List (List PV))(hH:H id=some (.row v e sz es))(hp:k9 es es'):dx env H env (bh H id (.row v e sz es')):=λC I L tm w hs=>by
 obtain⟨hl,hf⟩:=sO es es' hp;have hlen:es.length=es'.length:=by have:=congrArg length hl;simpa using this
 refine⟨I,L,{ hs with dom:=λi l hi=>?_,chunk:=λi ch hch=>?_ }⟩
 ·obtain⟨c,hc⟩:=hs.dom i l hi;by_cases h:i=id
  ·exact⟨_,by unfold bh;rw[if_pos h]⟩
  ·exact⟨c,by unfold bh;rw[if_neg h];exact hc⟩
 ·by_cases h:i=id
  ·subst h;have:Chunk.row v e sz es'=ch:=by simpa[bh] using hch
   subst this;obtain⟨bI,us,g1,g2,g3,g4,g5,g6,g7⟩:=hs.chunk i _ hH;refine⟨bI,us,g1,hlen ▸ g2,g3,λx hx=>?_,λj u c hu hc=>?_,g6,g7⟩
   ·obtain⟨k,hk,rfl⟩:=getElem_of_mem hx;have h2:(es.map (·.length))[k]? = (es'.map (·.length))[k]?:=by rw[hl]
    have hk':k<es.length:=by omega
    simp only[getElem?_map,getElem?_eq_getElem hk,getElem?_eq_getElem hk',Option.map_some,cA] at h2;rw[<-h2];exact g4 _ (nS hk')
   ·obtain⟨c',q1,q2⟩:=hf.at hc;exact q2 I u (g5 j u c' hu q1)
  ·exact hs.chunk i ch (by unfold bh at hch;rw[if_neg h] at hch;exact hch)
theorem rZ{α:Type}{env:Env}{H:aA}(id v:Nat)(e:TypeId)(sz:Nat)(E:α->List PV)(l m:List α){c:List (List PV)}(hH:H id=some (.row v e sz (l.map E++c)))(hp:k9 c (m.map E)):dx env H env (bh H id (.row v e sz ((l++m).map E))):=ap2 id v e sz _ _ hH (ap1 E l m hp)
end Go.cv
namespace Go.Proofs.YtjhkgjlmiolfoaaGreat
open Go.cv
attribute [go_sem] Nat.reduceEqDiff Nat.reduceLT Nat.reduceLeDiff Nat.reduceMul Nat.reduceAdd Nat.reduceBEq Nat.reduceSub Int.reduceToNat reduceIte reduceCtorEq zf cons_append nil_append 
def aeo(e:Env):List Nat->List (Nat×AV)->List (Nat×AV)
 | [],l=>l
 |t :: ts,l=>(t,e t) :: aeo e ts l
theorem auJ(e:Env)(l:List (Nat×AV)):aeo e [] l=l:=rfl
theorem ap3(e:Env)(t:Nat)(ts:List Nat)(l:List (Nat×AV)):aeo e (t :: ts) l=(t,e t) :: aeo e ts l:=rfl
def bxl(cs:List AV):List (Nat×AV)->List AV
 | []=>cs
 |(j,v) :: r=>bxl (cs.set j v) r
def bx(c:Option Chunk)(l:List (Nat×AV)):Chunk:=match c with
 |some (.box cs)=>.box (bxl cs l)
 |_=>.box []
def chG:Option Chunk->Chunk
 |some c=>c
 |none=>.box []
def zw(H:aA):List Nat->List (Nat×Chunk)->List (Nat×Chunk)
 | [],l=>l
 |t :: ts,l=>(t,chG (H t)) :: zw H ts l
theorem ap4(H:aA)(l:List (Nat×Chunk)):zw H [] l=l:=rfl
theorem amL(H:aA)(t:Nat)(ts:List Nat)(l:List (Nat×Chunk)):zw H (t :: ts) l=(t,chG (H t)) :: zw H ts l:=rfl
theorem aBV(cs:List AV)(l:List (Nat×AV)):bx (some (.box cs)) l = .box (bxl cs l):=rfl
theorem aBW(cs:List AV):bxl cs []=cs:=rfl
theorem aza(cs:List AV)(j:Nat)(v:AV)(r:List (Nat×AV)):bxl cs ((j,v) :: r)=bxl (cs.set j v) r:=rfl
theorem azb(c:Chunk):chG (some c)=c:=rfl
theorem aFm(x:PV):(RV.p x).pv=x:=rfl
theorem aBX(e:TypeId)(sz:Nat)(es:List (List PV)):(RV.row e sz es).pv = .aU es:=rfl
theorem aBY(rs:List RV):(RV.agg rs).pv = .agg (RV.pvL rs):=rfl
theorem aBZ(rs:List RV):(RV.dW rs).pv = .dW (RV.pvL rs):=rfl
theorem azc:RV.pvL []=[]:=rfl
theorem auK(r:RV)(rs:List RV):RV.pvL (r :: rs)=r.pv :: RV.pvL rs:=rfl
attribute [go_sem] auJ ap3 ap4 amL aBV aBW aza azb aFm aBX aBY aBZ azc auK 
section
variable{α β R:Type}{p q F:Prop}{r:R}{P:Program}{k:FuncId}{ps:List PV}
theorem zV(z:q)(e:q->p:=by intro Z;(try simp -implicitDefEqProofs only[go_sem,F]);exact Z):p:=e z
theorem zX(e:q->p:=by intro Z;(try simp -implicitDefEqProofs only[go_sem,F]);exact Z)(z:q):p:=e z
theorem zF{A:Prop}(a:A)(f:F)(z:F/\A->p):p:=z ⟨f,a⟩
theorem zC{A:Prop} [Decidable A]{x:Option R}(f:F)(h:cT A x=some r)(z:F/\A->x=some r->p):p:=z ⟨f,(ax6 h).1⟩ (ax6 h).2
theorem zI{l:List α}{i:Nat}{g:α->Option R}(E:α->List PV)(f:F)(h:thn l[i]? g=some r)(z:∀x,F/\i<l.length/\(l.map E).getD i []=E x->g x=some r->p):p:=by obtain⟨x,a,b,_,d⟩:=aCD E h;exact z x ⟨f,a,b⟩ d
theorem zJ{l:List α}{i:Nat}{g:α->Option R}(j:Int)(E:α->List PV)(f:F)(h:thn l[i]? g=some r)(z:∀x,F/\(i<l.length/\j<((l.length:Nat):Int)/\0<=j)/\(l.map E).getD i []=E x->g x=some r->p)(hj:j=(i:Int):=by rfl):p:=by obtain⟨x,a,b,_,d⟩:=aCD E h;exact z x ⟨f,⟨a,by omega,by omega⟩,b⟩ d
theorem zA{l:List α}{i:Int}{g:α->Option R}(E:α->List PV)(f:F)(h:thn (nO l i) g=some r)(z:∀x,F/\(0<=i/\i<((l.length:Nat):Int)/\i.toNat<l.length)/\(l.map E).getD i.toNat []=E x->g x=some r->p):p:=by obtain⟨x,a,b,c,_,d⟩:=aCE E h;exact z x ⟨f,⟨a,b,toNat_lt a b⟩,c⟩ d
theorem zAq{l:List α}{i:Int}{g:α->Option R}(E:α->List PV)(f:F)(h:thn (nO l i) g=some r)(z:∀x,nO l i=some x->F/\(0<=i/\i<((l.length:Nat):Int)/\i.toNat<l.length)/\(l.map E).getD i.toNat []=E x->g x=some r->p):p:=by obtain⟨x,a,b,c,q,d⟩:=aCE E h;exact z x q ⟨f,⟨a,b,toNat_lt a b⟩,c⟩ d
theorem aFn{l:List α}{i:Int}{x:α}(h:nO l i=some x):l[i.toNat]? = some x:=by
 unfold nO at h;split at h
 ·exact h
 ·cases h
theorem zU{o:Option α}{e:α}{g:α->Option R}(q:o=some e)(h:thn o g=some r)(z:g e=some r->p):p:=by subst q;exact z h
theorem zB{b:Bool}{x y:Option R}{q1 q2:Prop}(f:F)(h:cond b x y=some r)(t:F/\b=true->x=some r->q1)(u:F/\b=false->y=some r->q2)
  (e:(b=true->q1)->(b=false->q2)->p:=by intro A B;(try simp -implicitDefEqProofs only[go_sem,F]);exact aL A B):p :=
 e (λhb=>t ⟨f,hb⟩ (zj h hb)) λhb=>u ⟨f,hb⟩ (ady h hb)
theorem o9{b:Bool}{x y:Option R}{q1 q2:Prop}(f:F)(h:cond b x y=some r)(t:F/\b=true->x=some r->q1)(u:F/\b=false->y=some r->q2)
  (e:(b=true->q1)->(b=false->q2)->p:=by intro A B;(try simp -implicitDefEqProofs only[go_sem,F]);exact aW A B):p :=
 e (λhb=>t ⟨f,hb⟩ (zj h hb)) λhb=>u ⟨f,hb⟩ (ady h hb)
theorem oQ{b:Bool}{x y:Option R}{q1 q2:Prop}(f:F)(h:cond b x y=some r)(t:F/\b=true->x=some r->q1)(u:F/\b=false->y=some r->q2)
  (e:(b=true->q1)->(b=false->q2)->p:=by intro A B;(try simp -implicitDefEqProofs only[go_sem,F]);exact bL A B):p :=
 e (λhb=>t ⟨f,hb⟩ (zj h hb)) λhb=>u ⟨f,hb⟩ (ady h hb)
theorem pO{b:Bool}{x y:Option R}{q1 q2:Prop}(f:F)(h:cond b x y=some r)(t:F/\b=true->x=some r->q1)(u:F/\b=false->y=some r->q2)
  (e:(b=true->q1)->(b=false->q2)->p:=by intro A B;(try simp -implicitDefEqProofs only[go_sem,F]);exact bQ A B):p :=
 e (λhb=>t ⟨f,hb⟩ (zj h hb)) λhb=>u ⟨f,hb⟩ (ady h hb)
theorem zBd{b:Bool}{x y:Option R}{q1 q2:Prop}(f:F)(h:cond b x y=some r)(t:F/\b=true->x=some r->q1)(u:F/\b=false->y=some r->q2)
  (e:(b=true->q1)->(b=false->q2)->p:=by intro A B;(try simp -implicitDefEqProofs only[go_sem,F]);exact oG A B):p :=
 e (λhb=>t ⟨f,hb⟩ (zj h hb)) λhb=>u ⟨f,hb⟩ (ady h hb)
theorem amM{b:Bool}{x y:Option R}{q1 q2:Prop}(f:F)(h:cond b x y=some r)(t:F/\b=true->x=some r->q1)(u:F/\b=false->y=some r->q2)
  (e:(b=true->q1)->(b=false->q2)->p:=by intro A B;(try simp -implicitDefEqProofs only[go_sem,F]);exact pK A B):p :=
 e (λhb=>t ⟨f,hb⟩ (zj h hb)) λhb=>u ⟨f,hb⟩ (ady h hb)
def Hint{α:Type}(_:α):Prop:=True
theorem aB0{x:PV}{env:Env}{H:aA}{o:Oper}{W:Env->aA->Prop}{ps':List PV}{b:Bool}{ids:List Nat}(_:Hint ids)(c:aS P k ps λr=>r=x)(he:kL o (ev env) (eD ids H)=some (k,ps',b))(hp:ry ps' ps)(hb:b=true->x.scalar=true)(hW:W (cL env o.dst (.p x)) (eD ids H)):jF P o W env H:=aDy ids c he hp hb hW
theorem aB1{env:Env}{H:aA}{o:Oper}{W:Env->aA->Prop}{ps':List PV}{b:Bool}{id:Nat}(_:Hint id){x:RV}(c:bt P k ps λv=>v=x)(he:kL o (ev env) H=some (k,ps',b))(hp:ry ps' ps)(hb:b=true->x.flat=true)(hf:nU H id ((dw id x).2-id))(hW:W (cL env o.dst (dw id x).1) (iC id H x)):jF P o W env H:=aDx id c he hp hb hf hW
theorem azd{own:List Nat}{ops:Array Oper}{env:Env}{H:aA}{o:Oper}{W:Env->aA->Prop}{ps':List PV}{b:Bool}{id:Nat}(_:Hint id){x:RV}(c:bt P k ps λv=>v=x)(he:kL o (ev env) (pH own ops H)=some (k,ps',b))(hp:ry ps' ps)(hb:b=true->x.flat=true)(hf:nU H id ((dw id x).2-id))(hn:acu own ops id ((dw id x).2-id))(hW:W (cL env o.dst (dw id x).1) (iC id H x)):afA P own ops o W env H:=aeZ id c he hp hb hf hn hW
theorem zK{X:α->PV}{o:Option α}{g:α->Option R}{q:α->Prop}(f:F)(h:thn o g=some r)(c:∀x,o=some x->aS P k ps λv=>v=X x)(z:∀x,g x=some r->q x)
  (e:∀x,(aS P k ps λv=>v=X x)->q x->p:=by intro x C Z;(try simp -implicitDefEqProofs only[go_sem,F]);exact al9 C (by simp -implicitDefEqProofs only[go_sem,F]<;>rfl) (by first|exact iA _|(simp -implicitDefEqProofs only[go_sem,F]<;>rfl)) (by first|exact wW|exact b7 rfl) Z):p:=by
 obtain⟨x,h1,h2⟩:=ot h;exact e x (c x h1) (z x h2)
theorem uD{X:α->PV}{o:Option α}{g:α->Option R}{q:α->Prop}(f:F)(h:thn o g=some r)(c:∀x,o=some x->aS P k ps λv=>v=X x)(z:∀x,g x=some r->q x)
  (e:∀x,(aS P k ps λv=>v=X x)->q x->p:=by intro x C Z;(try simp -implicitDefEqProofs only[go_sem,F]);exact apj C (by simp -implicitDefEqProofs only[go_sem,F]<;>rfl) (by first|exact iA _|(simp -implicitDefEqProofs only[go_sem,F]<;>rfl)) (by first|exact wW|exact b7 rfl) Z):p:=by
 obtain⟨x,h1,h2⟩:=ot h;exact e x (c x h1) (z x h2)
theorem zT{X:α->RV}{o:Option α}{g:α->Option R}{q:α->Prop}(f:F)(h:thn o g=some r)(c:∀x,o=some x->bt P k ps λv=>v=X x)(z:∀x,g x=some r->q x)
  (e:∀x,(aS P k ps λv=>v=(X x).pv)->q x->p:=by intro x C Z;(try simp -implicitDefEqProofs only[go_sem,F]);exact al9 C (by simp -implicitDefEqProofs only[go_sem,F]<;>rfl) (by first|exact iA _|(simp -implicitDefEqProofs only[go_sem,F]<;>rfl)) (by first|exact wW|exact b7 rfl) Z):p:=by
 obtain⟨x,h1,h2⟩:=ot h;exact e x ((c x h1).anJ) (z x h2)
theorem zTd{X:α->RV}{o:Option α}{g:α->Option R}{q:α->Prop}(f:F)(h:thn o g=some r)(c:∀x,o=some x->bt P k ps λv=>v=X x)(z:∀x,g x=some r->q x)
  (e:∀x,(aS P k ps λv=>v=(X x).pv)->q x->p:=by intro x C Z;(try simp -implicitDefEqProofs only[go_sem,F]);exact apj C (by simp -implicitDefEqProofs only[go_sem,F]<;>rfl) (by first|exact iA _|(simp -implicitDefEqProofs only[go_sem,F]<;>rfl)) (by first|exact wW|exact b7 rfl) Z):p:=by
 obtain⟨x,h1,h2⟩:=ot h;exact e x ((c x h1).anJ) (z x h2)
theorem zKs{X:α->PV}{o:Option α}{g:α->Option R}{q:α->Prop}(id:List Nat)(f:F)(h:thn o g=some r)(c:∀x,o=some x->aS P k ps λv=>v=X x)(z:∀x,g x=some r->q x)
  (e:∀x,Hint id->(aS P k ps λv=>v=X x)->q x->p:=by intro x I C Z;(try simp -implicitDefEqProofs only[go_sem,F]);exact aB0 I C (by simp -implicitDefEqProofs only[go_sem,F]<;>rfl) (by first|exact iA _|(simp -implicitDefEqProofs only[go_sem,F]<;>rfl)) (by first|exact wW|exact b7 rfl) Z):p:=by
 obtain⟨x,h1,h2⟩:=ot h;exact e x trivial (c x h1) (z x h2)
theorem zG{X:α->RV}{o:Option α}{g:α->Option R}{q:α->Prop}(id:Nat)(f:F)(h:thn o g=some r)(c:∀x,o=some x->bt P k ps λv=>v=X x)(z:∀x,g x=some r->q x)
  (e:∀x,Hint id->(bt P k ps λv=>v=X x)->q x->p:=by intro x I C Z;(try simp -implicitDefEqProofs only[go_sem,F]);exact aB1 I C (by simp -implicitDefEqProofs only[go_sem,F]<;>rfl) (by first|exact iA _|(simp -implicitDefEqProofs only[go_sem,F]<;>rfl)) (by first|exact vM|exact aqU rfl|exact aqU (by simp[RV.flat,RV.ab2,PV.scalar,isVal,go_sem])) (by simp -implicitDefEqProofs only[go_sem,F]) Z):p:=by
 obtain⟨x,h1,h2⟩:=ot h;exact e x trivial (c x h1) (z x h2)
theorem zH{X:α->RV}{o:Option α}{g:α->Option R}{q:α->Prop}(id:Nat)(f:F)(h:thn o g=some r)(c:∀x,o=some x->bt P k ps λv=>v=X x)(z:∀x,g x=some r->q x)
  (e:∀x,Hint id->(bt P k ps λv=>v=X x)->q x->p:=by intro x I C Z;(try simp -implicitDefEqProofs only[go_sem,F]);exact azd I C (by simp -implicitDefEqProofs only[go_sem,F]<;>rfl) (by first|exact iA _|(simp -implicitDefEqProofs only[go_sem,F]<;>rfl)) (by first|exact vM|exact aqU rfl|exact aqU (by simp[RV.flat,RV.ab2,PV.scalar,isVal,go_sem])) (by simp -implicitDefEqProofs only[go_sem,F]) (by simp -implicitDefEqProofs only[go_sem,F]) Z):p:=by
 obtain⟨x,h1,h2⟩:=ot h;exact e x trivial (c x h1) (z x h2)
theorem zP{X:α->PV}{o:Option α}{g:α->Option R}{q:α->Prop}(f:F)(h:thn o g=some r)(c:∀x,o=some x->aS P k ps λv=>v=X x)(z:∀x,g x=some r->q x)
  (e:∀x,(aS P k ps λv=>v=X x)->q x->p:=by intro x C Z;(try simp -implicitDefEqProofs only[go_sem,F]);exact al9 C (by simp -implicitDefEqProofs only[go_sem,F,jR,jQ,Bool.or_false,Bool.false_or]<;>rfl) (iA _) (by first|exact wW|exact b7 rfl) Z):p:=by
 obtain⟨x,h1,h2⟩:=ot h;exact e x (c x h1) (z x h2)
theorem zPd{X:α->PV}{o:Option α}{g:α->Option R}{q:α->Prop}(f:F)(h:thn o g=some r)(c:∀x,o=some x->aS P k ps λv=>v=X x)(z:∀x,g x=some r->q x)
  (e:∀x,(aS P k ps λv=>v=X x)->q x->p:=by intro x C Z;(try simp -implicitDefEqProofs only[go_sem,F]);exact apj C (by simp -implicitDefEqProofs only[go_sem,F,jR,jQ,Bool.or_false,Bool.false_or]<;>rfl) (iA _) (by first|exact wW|exact b7 rfl) Z):p:=by
 obtain⟨x,h1,h2⟩:=ot h;exact e x (c x h1) (z x h2)
theorem zMb{v sz:Nat}{e:TypeId}{es:List (List PV)}{X:α->List (List PV)}{o:Option α}{g:α->Option R}{q:α->Prop}(f:F)(h:thn o g=some r)(c:∀x,o=some x->kJ P k v e sz (es) ps λa c=>a = .row 1000000 (v+1)/\c=some (.row (v+1) e sz (X x)))(z:∀x,g x=some r->q x)
  (e:∀x,(kJ P k v e sz (es) ps λa c=>a = .row 1000000 (v+1)/\c=some (.row (v+1) e sz (X x)))->q x->p:=by intro x C Z;(try simp -implicitDefEqProofs only[go_sem,F]);exact wX C (by simp -implicitDefEqProofs only[go_sem,F]<;>rfl) (by simp -implicitDefEqProofs only[go_sem,F]<;>rfl) (by simp -implicitDefEqProofs only[go_sem,F]<;>rfl) (by first|exact λh=>by cases h|exact λ_=>aBB (λ_=>rfl) _) Z):p:=by
 obtain⟨x,h1,h2⟩:=ot h;exact e x (c x h1) (z x h2)
theorem aCI{N:Nat}{own:List Nat}{K:Env->aA->Prop}{env:Env}{H:aA}{l:List Oper}{cs:List oE}(_:Hint cs)(hok:acd N own l.toArray (masks l.toArray) cs=true)(hw:gl P N own l.toArray (l.zip cs) K env H):vI P N own l.toArray K env H:=cZ cs hok hw
theorem aFo{N:Nat}{own:List Nat}{K:Env->aA->Prop}{env:Env}{H:aA}{l:List Oper}{pc:List (Nat×oE)}(_:Hint pc)(hok:aoD N own l pc=true)(hw:gl P N own l.toArray (yy l pc) K env H):vI P N own l.toArray K env H:=ajE pc hok hw
theorem zD(cs:List oE)(z:q)(e:Hint cs->q->p:=by intro I Z;(try simp -implicitDefEqProofs only[go_sem,F]);exact aCI I (by kernel_rfl) Z):p:=e trivial z
def aze:Nat->List oE->List oE
 |0,l=>l
 |n+1,l=>.q :: aze n l
theorem fo(n:Nat)(l:List oE){cs:List oE}(z:q)(hc:aze n l=cs:=by simp only[aze];exact rfl)(e:Hint cs->q->p:=by intro I Z;(try simp -implicitDefEqProofs only[go_sem,F]);exact aCI I (by kernel_rfl) Z):p:=e trivial z
theorem zE(pc:List (Nat×oE))(z:q)(e:Hint pc->q->p:=by intro I Z;(try simp -implicitDefEqProofs only[go_sem,F]);exact aFo I (by kernel_rfl) Z):p:=e trivial z
theorem zR{A:Prop}(h:A)(e:A->p:=by intro h;cases h;(try simp -implicitDefEqProofs only[go_sem,F]);all_goals(and_intros<;>first|rfl|omega)):p:=e h
theorem jC{A:Prop}(h:A)(e:A->p:=by intro h;cases h;(try simp -implicitDefEqProofs only[go_sem,F]);refine⟨by decide,_,.refl _,?_⟩;simp -implicitDefEqProofs only[go_sem,F]<;>and_intros<;>first|rfl|trivial):p:=e h
theorem zW{e:Env}{H:aA}{l:List (Nat×AV)}{hl:List (Nat×Chunk)}(h:apn e l/\abp H hl/\apo (b8 hl) l/\w5 (b8 hl) hl/\l6 H (b8 hl):=by simp -implicitDefEqProofs only[go_sem,F]<;>and_intros<;>rfl):dx e H (p4 l) (b8 hl):=yA h
end
section
variable{P:Program}{N:Nat}{own:List Nat}{σ γ O:Type}{c:Code}{K:qB}{env:Env}{H:aA}{Kf:σ->Option O}{r:O}{F:Prop}
theorem zL{f:σ->(σ->Option O)->(σ->Option O)->Option O}{n:Nat}{s:σ}{L:σ×γ->List (Nat×AV)}{M:σ×γ->List (Nat×Chunk)}(fF:F)(h:iter f n s Kf=some r)(g0:γ)(ts:List Nat)(de:σ×γ->List (Nat×AV))(is:List Nat)(dh:σ×γ->aA->List (Nat×Chunk))
  (hr:∀s g (cH:σ->Option O) (R:Env->aA->Prop),F->(∀s' g' {e H},cH s'=some r->dx e H (p4 (L (s',g'))) (b8 (M (s',g')))->R e H)->f s cH Kf=some r->cw P N own c (sP R K) (p4 (L (s,g))) (b8 (M (s,g))))
  (e1:∀x,aeo env ts (de x)=L x:=by intro x;(try simp -implicitDefEqProofs only[go_sem,F]);exact rfl) (e2:∀x,zw H is (dh x H)=M x:=by intro x;(try simp -implicitDefEqProofs only[go_sem,F]);exact rfl)
  (hw:dx env H (p4 (L (s,g0))) (b8 (M (s,g0))):=by exact yA (by simp -implicitDefEqProofs only[go_sem,F]<;>and_intros<;>rfl)):aaO P N own c K env H :=
 aBC (λx=>p4 (L x)) (λx=>b8 (M x)) g0 h hw λs g cH R hN h=>hr s g cH R fF hN h
theorem zN{f:Nat->σ->(σ->Option O)->(σ->Option O)->Option O}{n i:Nat}{s:σ}{L:(Nat×σ)×γ->List (Nat×AV)}{M:(Nat×σ)×γ->List (Nat×Chunk)}(fF:F)(h:cT (n<=fuel) (cr f (n-i) i s Kf)=some r)(g0:γ)(ts:List Nat)(de:(Nat×σ)×γ->List (Nat×AV))(is:List Nat)(dh:(Nat×σ)×γ->aA->List (Nat×Chunk))
  (hr:∀j s g (cH:σ->Option O) (R:Env->aA->Prop),F/\(j<n/\n<=4611686018427387904)/\i64.wrap ((j:Int)+1)=((j+1:Nat):Int)->(∀s' g' {e H},cH s'=some r->dx e H (p4 (L ((j+1,s'),g'))) (b8 (M ((j+1,s'),g')))->R e H)->f j s cH Kf=some r->cw P N own c (sP R K) (p4 (L ((j,s),g))) (b8 (M ((j,s),g))))
  (he:∀j s g (R:Env->aA->Prop),F/\¬ j<n->Kf s=some r->cw P N own c (sP R K) (p4 (L ((j,s),g))) (b8 (M ((j,s),g))))
  (e1:∀x,aeo env ts (de x)=L x:=by intro x;(try simp -implicitDefEqProofs only[go_sem,F]);exact rfl) (e2:∀x,zw H is (dh x H)=M x:=by intro x;(try simp -implicitDefEqProofs only[go_sem,F]);exact rfl)
  (hw:dx env H (p4 (L ((i,s),g0))) (b8 (M ((i,s),g0))):=by exact yA (by simp -implicitDefEqProofs only[go_sem,F]<;>and_intros<;>rfl)):aaO P N own c K env H:=by
 obtain⟨hf,h⟩:=ax6 h;unfold fuel at hf;exact aBD (λx=>p4 (L x)) (λx=>b8 (M x)) g0 h hw (λj s g cH R hj hN h=>hr j s g cH R ⟨fF,⟨hj,hf⟩,bw hj hf⟩ hN h) λj s g R hj h=>he j s g R ⟨fF,by omega⟩ h
theorem zO{f:Nat->σ->(σ->Option O)->(σ->Option O)->Option O}{b:Int}{i:Nat}{s:σ}{L:(Nat×σ)×γ->List (Nat×AV)}{M:(Nat×σ)×γ->List (Nat×Chunk)}(fF:F)(h:cT (b.toNat<=fuel) (cr f (b.toNat-i) i s Kf)=some r)(g0:γ)(ts:List Nat)(de:(Nat×σ)×γ->List (Nat×AV))(is:List Nat)(dh:(Nat×σ)×γ->aA->List (Nat×Chunk))
  (hr:∀ (j:Nat) s g (cH:σ->Option O) (R:Env->aA->Prop),F/\((j:Int)<b/\j<b.toNat/\b.toNat<=4611686018427387904)/\i64.wrap ((j:Int)+1)=((j+1:Nat):Int)->(∀s' g' {e H},cH s'=some r->dx e H (p4 (L ((j+1,s'),g'))) (b8 (M ((j+1,s'),g')))->R e H)->f j s cH Kf=some r->cw P N own c (sP R K) (p4 (L ((j,s),g))) (b8 (M ((j,s),g))))
  (he:∀ (j:Nat) s g (R:Env->aA->Prop),F/\¬ (j:Int)<b->Kf s=some r->cw P N own c (sP R K) (p4 (L ((j,s),g))) (b8 (M ((j,s),g))))
  (e1:∀x,aeo env ts (de x)=L x:=by intro x;(try simp -implicitDefEqProofs only[go_sem,F]);exact rfl) (e2:∀x,zw H is (dh x H)=M x:=by intro x;(try simp -implicitDefEqProofs only[go_sem,F]);exact rfl)
  (hw:dx env H (p4 (L ((i,s),g0))) (b8 (M ((i,s),g0))):=by exact yA (by simp -implicitDefEqProofs only[go_sem,F]<;>and_intros<;>rfl)):aaO P N own c K env H :=
 zN fF h g0 ts de is dh (λj s g cH R h=>hr j s g cH R ⟨h.1,⟨by omega,h.2.1⟩,h.2.2⟩) (λj s g R h=>he j s g R ⟨h.1,by omega⟩) e1 e2 hw
theorem zQ(b:Int){m:Nat}{f:Nat->σ->(σ->Option O)->(σ->Option O)->Option O}{i:Nat}{s:σ}{L:(Nat×σ)×γ->List (Nat×AV)}{M:(Nat×σ)×γ->List (Nat×Chunk)}(fF:F)(h:cT (m<=fuel) (cr f (m-i) i s Kf)=some r)(g0:γ)(ts:List Nat)(de:(Nat×σ)×γ->List (Nat×AV))(is:List Nat)(dh:(Nat×σ)×γ->aA->List (Nat×Chunk))
  (hr:∀ (j:Nat) s g (cH:σ->Option O) (R:Env->aA->Prop),F/\((j:Int)<b/\j<m/\m<=4611686018427387904)/\i64.wrap ((j:Int)+1)=((j+1:Nat):Int)->(∀s' g' {e H},cH s'=some r->dx e H (p4 (L ((j+1,s'),g'))) (b8 (M ((j+1,s'),g')))->R e H)->f j s cH Kf=some r->cw P N own c (sP R K) (p4 (L ((j,s),g))) (b8 (M ((j,s),g))))
  (he:∀ (j:Nat) s g (R:Env->aA->Prop),F/\¬ (j:Int)<b->Kf s=some r->cw P N own c (sP R K) (p4 (L ((j,s),g))) (b8 (M ((j,s),g))))
  (hb:b=(m:Int):=by rfl) (e1:∀x,aeo env ts (de x)=L x:=by intro x;(try simp -implicitDefEqProofs only[go_sem,F]);exact rfl) (e2:∀x,zw H is (dh x H)=M x:=by intro x;(try simp -implicitDefEqProofs only[go_sem,F]);exact rfl)
  (hw:dx env H (p4 (L ((i,s),g0))) (b8 (M ((i,s),g0))):=by exact yA (by simp -implicitDefEqProofs only[go_sem,F]<;>and_intros<;>rfl)):aaO P N own c K env H :=
 zN fF h g0 ts de is dh (λj s g cH R h=>hr j s g cH R ⟨h.1,⟨by omega,h.2.1⟩,h.2.2⟩) (λj s g R h=>he j s g R ⟨h.1,by omega⟩) e1 e2 hw
end
attribute [go_sem] zf cons_append nil_append aZ aP encI bk aJ bJ cV aB aj ag aI aD
noncomputable section
def ep(a0:List ah)(p1:ah->ah->Option Int):Option Bool :=
 cT (a0.length<=fuel) <|
 cr (λi8 (s8:Unit) uZ acB =>
  thn (nO a0 (i64.wrap (((i8:Nat):Int)-1))) λe2 =>
  thn (a0[i8]?) λe3 =>
  thn (p1 e2 e3) λr4 =>
  cond (decide (0<=r4)) (
   some false) <|
  uZ ())
 (a0.length-1) 1 () λs8 =>
 some true
theorem mS(a0:List ah)(p1:ah->ah->Option Int)(k1:FuncId)(fs1 cs1:List PV)(hp1:∀x0 x1 r,p1 x0 x1=some r->aS pw k1 (fs1++[.agg (ag x0),.agg (ag x1)]++cs1) (λv=>v = .val (.int .i64 r)))(r:Bool)(h:ep a0 p1=some r):aS pw 242 [.aU (a0.map ag),.iK (.func k1) fs1 cs1] (λv=>v = .val (.bool r)):=by
 refine aS.oa ?_;refine aR [] func242 ntmps242 results242 ?_;unfold ep at h;have F:=trivial;refine zV ?_;refine zN F h () [0,1] (λx=>[(5,.p (.val (.int .i64 ((x.1.1:Nat):Int))))]) [] (λx H=>[]) ?_ ?_
 ·intro i8 s8 g8 _ _ F Ns8 h;try dsimp only at h
  refine fo 12 [] ?_;refine zA ag F h λe2 F h=>?_
  refine zI ag F h λe3 F h=>?_
  refine zPd F h (hp1 _ _) λr4 h=>?_
  refine zB F h (λF h=>?_) λF h=>?_
  ·exact zR h
  ·exact zX (z:=Ns8 _ () h zW)
 ·intro i8 s8 g8 _ F h;try dsimp only at h
  exact zR h
def jj(a0:Int):Option Bool:=some (!(decide (a0=a0)))
theorem yC(a0:Int)(r:Bool)(h:jj a0=some r):aS pw 350 [.val (.int .i64 a0)] (λv=>v = .val (.bool r)):=by refine aS.oa ?_;refine aR [] func350 ntmps350 results350 ?_;unfold jj at h;have F:=trivial;exact zR h
def iy(a0:Int)(a1:Int):Option Int :=
 thn (jj a0) λr2 =>
 thn (jj a1) λr3 =>
 cond r2 (
  cond r3 (
   some 0) <|
  some (-1)) <|
 cond r3 (
  some 1) <|
 cond (decide (a0<a1)) (
  some (-1)) <|
 cond (decide (a1<a0)) (
  some 1) <|
 some 0
theorem nX(a0:Int)(a1:Int)(r:Int)(h:iy a0 a1=some r):aS pw 298 [.val (.int .i64 a0),.val (.int .i64 a1)] (λv=>v = .val (.int .i64 r)):=by
 refine aS.oa ?_;refine aR [] func298 ntmps298 results298 ?_;unfold iy at h;have F:=trivial;refine zK F h (yC _) λr2 h=>?_
 refine zK F h (yC _) λr3 h=>?_
 refine zB F h (λF h=>?_) λF h=>?_
 ·refine zB F h (λF h=>?_) λF h=>?_
  ·exact zR h
  ·exact zR h
 ·refine zB F h (λF h=>?_) λF h=>?_
  ·exact zR h
  ·refine zB F h (λF h=>?_) λF h=>?_
   ·exact zR h
   ·refine zB F h (λF h=>?_) λF h=>?_
    ·exact zR h
    ·exact zR h
def gU(a0:ah)(a1:ah):Option Int :=
 thn (iy a0.id a1.id) λr2 =>
 some r2
theorem xe(a0:ah)(a1:ah)(r:Int)(h:gU a0 a1=some r):aS pw 243 [.agg (ag a0),.agg (ag a1)] (λv=>v = .val (.int .i64 r)):=by
 refine aS.oa ?_;refine aR [] func243 ntmps243 results243 ?_;unfold gU at h;have F:=trivial;refine zK F h (nX _ _) λr2 h=>?_
 exact zR h
def eu(a0:List ax)(p1:ax->ax->Option Int):Option Bool :=
 cT (a0.length<=fuel) <|
 cr (λi2 (s2:Unit) c8 jT =>
  thn (nO a0 (i64.wrap (((i2:Nat):Int)-1))) λe3 =>
  thn (a0[i2]?) λe4 =>
  thn (p1 e3 e4) λr5 =>
  cond (decide (0<=r5)) (
   some false) <|
  c8 ())
 (a0.length-1) 1 () λs2 =>
 some true
theorem mT(a0:List ax)(p1:ax->ax->Option Int)(k1:FuncId)(fs1 cs1:List PV)(hp1:∀x0 x1 r,p1 x0 x1=some r->aS pw k1 (fs1++[.agg (aj x0),.agg (aj x1)]++cs1) (λv=>v = .val (.int .i64 r)))(r:Bool)(h:eu a0 p1=some r):aS pw 244 [.aU (a0.map aj),.iK (.func k1) fs1 cs1] (λv=>v = .val (.bool r)):=by
 refine aS.oa ?_;refine aR [] func244 ntmps244 results244 ?_;unfold eu at h;have F:=trivial;refine zV ?_;refine zN F h () [0,1] (λx=>[(5,.p (.val (.int .i64 ((x.1.1:Nat):Int))))]) [] (λx H=>[]) ?_ ?_
 ·intro i2 s2 g2 _ _ F nu h;try dsimp only at h
  refine fo 12 [] ?_;refine zA aj F h λe3 F h=>?_
  refine zI aj F h λe4 F h=>?_
  refine zPd F h (hp1 _ _) λr5 h=>?_
  refine zB F h (λF h=>?_) λF h=>?_
  ·exact zR h
  ·exact zX (z:=nu _ () h zW)
 ·intro i2 s2 g2 _ F h;try dsimp only at h
  exact zR h
def gV(a0:ax)(a1:ax):Option Int :=
 thn (iy a0.id a1.id) λr2 =>
 some r2
theorem xg(a0:ax)(a1:ax)(r:Int)(h:gV a0 a1=some r):aS pw 245 [.agg (aj a0),.agg (aj a1)] (λv=>v = .val (.int .i64 r)):=by
 refine aS.oa ?_;refine aR [] func245 ntmps245 results245 ?_;unfold gV at h;have F:=trivial;refine zK F h (nX _ _) λr2 h=>?_
 exact zR h
def fq(a0:List aO)(p1:aO->aO->Option Int):Option Bool :=
 cT (a0.length<=fuel) <|
 cr (λi2 (s2:Unit) c8 jT =>
  thn (nO a0 (i64.wrap (((i2:Nat):Int)-1))) λe3 =>
  thn (a0[i2]?) λe4 =>
  thn (p1 e3 e4) λr5 =>
  cond (decide (0<=r5)) (
   some false) <|
  c8 ())
 (a0.length-1) 1 () λs2 =>
 some true
theorem sg(a0:List aO)(p1:aO->aO->Option Int)(k1:FuncId)(fs1 cs1:List PV)(hp1:∀x0 x1 r,p1 x0 x1=some r->aS pw k1 (fs1++[.agg (aI x0),.agg (aI x1)]++cs1) (λv=>v = .val (.int .i64 r)))(r:Bool)(h:fq a0 p1=some r):aS pw 246 [.aU (a0.map aI),.iK (.func k1) fs1 cs1] (λv=>v = .val (.bool r)):=by
 refine aS.oa ?_;refine aR [] func246 ntmps246 results246 ?_;unfold fq at h;have F:=trivial;refine zV ?_;refine zN F h () [0,1] (λx=>[(5,.p (.val (.int .i64 ((x.1.1:Nat):Int))))]) [] (λx H=>[]) ?_ ?_
 ·intro i2 s2 g2 _ _ F nu h;try dsimp only at h
  refine fo 12 [] ?_;refine zA aI F h λe3 F h=>?_
  refine zI aI F h λe4 F h=>?_
  refine zPd F h (hp1 _ _) λr5 h=>?_
  refine zB F h (λF h=>?_) λF h=>?_
  ·exact zR h
  ·exact zX (z:=nu _ () h zW)
 ·intro i2 s2 g2 _ F h;try dsimp only at h
  exact zR h
def qM(a0:List Int):Option Int :=
 cT (a0.length<=fuel) <|
 cr (λi1 (s1:Unit) mU xh =>
  thn (a0[i1]?) λe2 =>
  cond (decide (e2=0)) (
   mU ()) <|
  some e2)
 (a0.length-0) 0 () λs1 =>
 some 0
theorem aj3(a0:List Int)(r:Int)(h:qM a0=some r):aS pw 261 [.aU (a0.map encI)] (λv=>v = .val (.int .i64 r)):=by
 refine aS.oa ?_;refine aR [] func261 ntmps261 results261 ?_;unfold qM at h;have F:=trivial;refine zV ?_;refine zN F h () [3,6,7] (λx=>[(8,.p (.val (.int .i64 ((x.1.1:Nat):Int))))]) [] (λx H=>[]) ?_ ?_
 ·intro i1 s1 g1 _ _ F Ns1 h;try dsimp only at h
  refine zI encI F h λe2 F h=>?_
  refine o9 F h (λF h=>?_) λF h=>?_
  ·exact zX (z:=Ns1 _ () h zW)
  ·exact zR h
 ·intro i1 s1 g1 _ F h;try dsimp only at h
  exact zR h
def jd(a0:aO)(a1:aO):Option Int :=
 thn (iy a0.id a1.id) λr2 =>
 thn (iy a0.attr a1.attr) λr3 =>
 thn (qM [r2,r3]) λr4 =>
 some r4
theorem acC(a0:aO)(a1:aO)(r:Int)(h:jd a0 a1=some r):aS pw 247 [.agg (aI a0),.agg (aI a1)] (λv=>v = .val (.int .i64 r)):=by
 refine aS.oa ?_;refine aR [] func247 ntmps247 results247 ?_;unfold jd at h;have F:=trivial;refine fo 10 [.p,.q,.q] ?_;refine uD F h (nX _ _) λr2 h=>?_
 refine uD F h (nX _ _) λr3 h=>?_
 refine uD F h (aj3 _) λr4 h=>?_
 exact zR h
def mo(a0:aF):Option Int :=
 cond (decide (500<(max (max (max (max ((a0.au.length:Nat):Int) ((a0.aC.length:Nat):Int)) ((a0.aM.length:Nat):Int)) ((a0.aK.length:Nat):Int)) ((a0.values.length:Nat):Int)))) (
  some 3) <|
 thn (ep a0.au (λx1 x2=>gU x1 x2)) λr3 =>
 cond r3 (
  thn (ep a0.aM (λx4 x5=>gU x4 x5)) λr6 =>
  cond r6 (
   thn (eu a0.aC (λx7 x8=>gV x7 x8)) λr9 =>
   cond r9 (
    thn (eu a0.aK (λx10 x11=>gV x10 x11)) λxX =>
    cond xX (
     thn (fq a0.values (λx13 x14=>jd x13 x14)) λr15 =>
     cond r15 (
      some 0) <|
     some 12) <|
    some 12) <|
   some 12) <|
  some 12) <|
 some 12
theorem adG(a0:aF)(r:Int)(h:mo a0=some r):aS pw 146 [.agg (aB a0)] (λv=>v = .val (.int .i64 r)):=by
 refine aS.oa ?_;refine aR [] func146 ntmps146 results146 ?_;unfold mo at h;have F:=trivial;refine zB F h (λF h=>?_) λF h=>?_
 ·exact zR h
 ·refine zK F h (mS _ (λx1 x2=>gU x1 x2) 243 [] [] (λx1 x2 r h=>xe x1 x2 r h)) λr3 h=>?_
  refine oQ F h (λF h=>?_) λF h=>?_
  ·refine zK F h (mS _ (λx4 x5=>gU x4 x5) 243 [] [] (λx4 x5 r h=>xe x4 x5 r h)) λr6 h=>?_
   refine oQ F h (λF h=>?_) λF h=>?_
   ·refine zK F h (mT _ (λx7 x8=>gV x7 x8) 245 [] [] (λx7 x8 r h=>xg x7 x8 r h)) λr9 h=>?_
    refine oQ F h (λF h=>?_) λF h=>?_
    ·refine zK F h (mT _ (λx10 x11=>gV x10 x11) 245 [] [] (λx10 x11 r h=>xg x10 x11 r h)) λxX h=>?_
     refine oQ F h (λF h=>?_) λF h=>?_
     ·refine zK F h (sg _ (λx13 x14=>jd x13 x14) 247 [] [] (λx13 x14 r h=>acC x13 x14 r h)) λr15 h=>?_
      refine o9 F h (λF h=>?_) λF h=>?_
      ·exact zR h
      ·exact zR h
     ·exact zR h
    ·exact zR h
   ·exact zR h
  ·exact zR h
def fQ(a0:List Int)(a1:Int):Option Int :=
 cT (a0.length<=fuel) <|
 cr (λi2 (s2:Unit) c8 jT =>
  thn (a0[i2]?) λe3 =>
  cond (decide (a1=e3)) (
   some ((i2:Nat):Int)) <|
  c8 ())
 (a0.length-0) 0 () λs2 =>
 some (-1)
theorem ni(a0:List Int)(a1:Int)(r:Int)(h:fQ a0 a1=some r):aS pw 63 [.aU (a0.map encI),.val (.int .i64 a1)] (λv=>v = .val (.int .i64 r)):=by
 refine aS.oa ?_;refine aR [] func63 ntmps63 results63 ?_;unfold fQ at h;have F:=trivial;refine zV ?_;refine zN F h () [0,1,7] (λx=>[(8,.p (.val (.int .i64 ((x.1.1:Nat):Int))))]) [] (λx H=>[]) ?_ ?_
 ·intro i2 s2 g2 _ _ F nu h;try dsimp only at h
  refine zI encI F h λe3 F h=>?_
  refine zB F h (λF h=>?_) λF h=>?_
  ·exact zR h
  ·exact zX (z:=nu _ () h zW)
 ·intro i2 s2 g2 _ F h;try dsimp only at h
  exact zR h
def lp(a0:List ah)(a1:List ax)(a2:Int):Option (az×Bool) :=
 cT (a0.length<=fuel) <|
 cr (λi3 (s3:(List Int)×(List (List Int))×(List Int)) jk qN =>
  thn (a0[i3]?) λe4 =>
  cT (s3.2.2.length+1<=68719476736) <|
  cT (s3.1.length+1<=68719476736) <|
  thn (p5 e4.values) λr5 =>
  cT (s3.2.1.length+1<=68719476736) <|
  jk ((s3.1++[e4.type]),(s3.2.1++[r5]),(s3.2.2++[e4.id])))
 (a0.length-0) 0 (([]:List Int),([]:List (List Int)),([]:List Int)) λs3 =>
 cT (a1.length<=fuel) <|
 cr (λi6 (s6:(List Edge)×(List Int)) sS aik =>
  thn (a1[i6]?) λe7 =>
  thn (fQ s3.2.2 e7.src) λr8 =>
  thn (fQ s3.2.2 e7.dst) λr9 =>
  cond (decide (r8<0)) (
   some ((⟨(⟨(⟨([]:List Int),([]:List Edge)⟩:eY),([]:List (List Int))⟩:Host),([]:List Int),([]:List Int),0⟩:az),false)) <|
  cond (decide (r9<0)) (
   some ((⟨(⟨(⟨([]:List Int),([]:List Edge)⟩:eY),([]:List (List Int))⟩:Host),([]:List Int),([]:List Int),0⟩:az),false)) <|
  cT (s6.2.length+1<=68719476736) <|
  cT (s6.1.length+1<=68719476736) <|
  sS ((s6.1++[(⟨e7.type,r8,r9⟩:Edge)]),(s6.2++[e7.id])))
 (a1.length-0) 0 (([]:List Edge),([]:List Int)) λs6 =>
 some ((⟨⟨⟨s3.1,s6.1⟩,s3.2.1⟩,s3.2.2,s6.2,a2⟩:az),true)
theorem acD(a0:List ah)(a1:List ax)(a2:Int)(r:az×Bool)(h:lp a0 a1 a2=some r):bt pw 150 [.aU (a0.map ag),.aU (a1.map aj),.val (.int .i64 a2)] (λv=>v = .dW [.agg [.row 3 1 (r.1.host.graph.nodes.map encI),.row 175 3 (r.1.host.graph.ak.map aZ),.row 32 1 (r.1.host.values.map bJ),.row 3 1 (r.1.nodes.map encI),.row 3 1 (r.1.ak.map encI),.p (.val (.int .i64 r.1.next))],.p (.val (.bool r.2))]):=by
 refine bt.uz ?_;refine bF [28,37,44,45,80,92] func150 ntmps150 results150 ?_;unfold lp at h;have F:=trivial;refine zV ?_;refine zN F h ((0,0,0):Nat×Nat×Nat) [1,6,8,17,18] (λx=>[(19,.p (.val (.int .i64 ((x.1.1:Nat):Int))))]) [6] (λx H=>[(8,bx (H 8) [(0,.row 2336 x.2.1),(2,.row 2337 x.2.2.1),(3,.row 2338 x.2.2.2)]),(2336,.row x.2.1 3 1 (x.1.2.1.map encI)),(2337,.row x.2.2.1 32 1 (x.1.2.2.1.map bJ)),(2338,.row x.2.2.2 3 1 (x.1.2.2.2.map encI))]) ?_ ?_ (hw:=by refine dx.trans (cz 8 0 2336 3 1 _ rfl rfl rfl (by decide)) ?_;refine dx.trans (cz 8 2 2337 32 1 _ rfl rfl rfl (by decide)) ?_;refine dx.trans (cz 8 3 2338 3 1 _ rfl rfl rfl (by decide)) ?_;exact zW)
 ·intro i3 s3 g3 _ _ F yR h;try dsimp only at h
  refine zI ag F h λe4 F h=>?_
  refine zC F h λF h=>?_
  refine dJ (s3.2.2.length+1) 8 F λF=>?_
  refine zF (bz encI s3.2.2 [e4.id] (c:=[[.val (.int .i64 e4.id)]]) rfl) F λF=>?_
  refine zE [(0,.p),(1,.p),(2,.p),(4,.q),(5,.q),(6,.p),(3,.q),(8,.b),(9,.b),(10,.b),(11,.b),(12,.b),(7,.w),(13,.q),(16,.b),(17,.b),(18,.b),(14,.w),(15,.w),(19,.w),(20,.q),(21,.q),(22,.w)] ?_;refine zC F h λF h=>?_
  refine dJ (s3.1.length+1) 8 F λF=>?_
  refine zF (bz encI s3.1 [e4.type] (c:=[[.val (.int .i64 e4.type)]]) rfl) F λF=>?_
  refine zTd F h (abv _) λr5 h=>?_
  refine zC F h λF h=>?_
  refine dJ (s3.2.1.length+1) 24 F λF=>?_
  refine zF (bz bJ s3.2.1 [r5] (c:=[[.aU (r5.map encI)]]) rfl) F λF=>?_
  exact zX (z:=yR _ (g3.1+1,g3.2.1+1,g3.2.2+1) h zW)
 ·intro i3 s3 g3 _ F h;try dsimp only at h
  refine zV ?_;refine zN F h ((0,0):Nat×Nat) [6,8,52,53] (λx=>[(54,.p (.val (.int .i64 ((x.1.1:Nat):Int))))]) [6,2336,2337,2338] (λx H=>[(8,bx (H 8) [(1,.row 2387 x.2.1),(4,.row 2388 x.2.2)]),(2387,.row x.2.1 175 3 (x.1.2.1.map aZ)),(2388,.row x.2.2 3 1 (x.1.2.2.map encI))]) ?_ ?_ (hw:=by refine dx.trans (cz 8 1 2387 175 3 _ rfl rfl rfl (by decide)) ?_;refine dx.trans (cz 8 4 2388 3 1 _ rfl rfl rfl (by decide)) ?_;exact zW)
  ·intro i6 s6 g6 _ _ F Ns6 h;try dsimp only at h
   refine zI aj F h λe7 F h=>?_
   refine fo 12 [] ?_;refine uD F h (ni _ _) λr8 h=>?_
   refine uD F h (ni _ _) λr9 h=>?_
   refine pO F h (λF h=>?_) λF h=>?_
   ·exact jC h
   ·refine zB F h (λF h=>?_) λF h=>?_
    ·exact jC h
    ·refine zC F h λF h=>?_
     refine dJ (s6.2.length+1) 8 F λF=>?_
     refine zF (bz encI s6.2 [e7.id] (c:=[[.val (.int .i64 e7.id)]]) rfl) F λF=>?_
     refine zC F h λF h=>?_
     refine dJ (s6.1.length+1) 24 F λF=>?_
     refine zF (bz aZ s6.1 [(⟨e7.type,r8,r9⟩:Edge)] (c:=[[.val (.int .i64 e7.type),.val (.int .i64 r8),.val (.int .i64 r9)]]) rfl) F λF=>?_
     exact zX (z:=Ns6 _ (g6.1+1,g6.2+1) h zW)
  ·intro i6 s6 g6 _ F h;try dsimp only at h
   exact jC h
def ny(a0:az):Option (List ax) :=
 cT (a0.ak.length<=fuel) <|
 cr (λi1 (s1:(List ax)) mU xh =>
  thn (a0.ak[i1]?) λe2 =>
  thn (a0.host.graph.ak[i1]?) λe3 =>
  thn (nO a0.nodes e3.src) λe4 =>
  thn (nO a0.nodes e3.dst) λe5 =>
  cT (s1.length+1<=68719476736) <|
  mU (s1++[(⟨e2,e3.type,e4,e5⟩:ax)]))
 (a0.ak.length-0) 0 ([]:List ax) λs1 =>
 some s1
theorem aeM(a0:az)(r:(List ax))(h:ny a0=some r):bt pw 141 [.agg (aD a0)] (λv=>v = .row 102 4 (r.map aj)):=by
 refine bt.uz ?_;refine bF [40] func141 ntmps141 results141 ?_;unfold ny at h;have F:=trivial;refine zV ?_;refine zN F h (0:Nat) [1,8,9] (λx=>[(3,.row 2441 x.2),(10,.p (.val (.int .i64 ((x.1.1:Nat):Int))))]) [1] (λx H=>[(2441,.row x.2 102 4 (x.1.2.map aj))]) ?_ ?_ (hw:=by refine dx.trans (ja 3 2441 102 4 rfl rfl (by decide)) ?_;exact zW)
 ·intro i1 s1 g1 _ _ F Ns1 h;try dsimp only at h
  refine zI encI F h λe2 F h=>?_
  refine zI aZ F h λe3 F h=>?_
  refine zD [.p,.q,.q,.q,.q,.q,.q,.q,.q,.q,.q,.q,.q,.q,.q,.q,.q,.p,.w,.q] ?_;refine zA encI F h λe4 F h=>?_
  refine zA encI F h λe5 F h=>?_
  refine zC F h λF h=>?_
  refine dJ (s1.length+1) 32 F λF=>?_
  refine zF (bz aj s1 [(⟨e2,e3.type,e4,e5⟩:ax)] (c:=[[.val (.int .i64 e2),.val (.int .i64 e3.type),.val (.int .i64 e4),.val (.int .i64 e5)]]) rfl) F λF=>?_
  exact zX (z:=Ns1 _ (g1+1) h zW)
 ·intro i1 s1 g1 _ F h;try dsimp only at h
  exact jC h
def iT(a0:List Int)(a1:Int):Option Int :=
 cT (a0.length<=fuel) <|
 cr (λi2 (s2:Unit) c8 jT =>
  thn (a0[i2]?) λe3 =>
  cond (decide (e3<0)) (
   some 6) <|
  cond (decide (a1<=e3)) (
   some 6) <|
  cond (decide (0<((i2:Nat):Int))) (
   thn (nO a0 (i64.wrap (((i2:Nat):Int)-1))) λe4 =>
   cond (decide (e3<=e4)) (
    some 12) <|
   c8 ()) <|
  c8 ())
 (a0.length-0) 0 () λs2 =>
 some 0
theorem sU(a0:List Int)(a1:Int)(r:Int)(h:iT a0 a1=some r):aS pw 80 [.aU (a0.map encI),.val (.int .i64 a1)] (λv=>v = .val (.int .i64 r)):=by
 refine aS.oa ?_;refine aR [] func80 ntmps80 results80 ?_;unfold iT at h;have F:=trivial;refine zV ?_;refine zN F h () [0,1,7,8] (λx=>[(9,.p (.val (.int .i64 ((x.1.1:Nat):Int))))]) [] (λx H=>[]) ?_ ?_
 ·intro i2 s2 g2 _ _ F nu h;try dsimp only at h
  refine zI encI F h λe3 F h=>?_
  refine pO F h (λF h=>?_) λF h=>?_
  ·exact zR h
  ·refine zB F h (λF h=>?_) λF h=>?_
   ·exact zR h
   ·refine oQ F h (λF h=>?_) λF h=>?_
    ·refine zA encI F h λe4 F h=>?_
     refine zB F h (λF h=>?_) λF h=>?_
     ·exact zR h
     ·exact zX (z:=nu _ () h zW)
    ·exact zX (z:=nu _ () h zW)
 ·intro i2 s2 g2 _ F h;try dsimp only at h
  exact zR h
def je(a0:List Int)(p1:Int->Option Bool):Option Int :=
 cT (a0.length<=fuel) <|
 cr (λi2 (s2:Unit) c8 jT =>
  thn (a0[i2]?) λe3 =>
  thn (p1 e3) λr4 =>
  cond r4 (
   some ((i2:Nat):Int)) <|
  c8 ())
 (a0.length-0) 0 () λs2 =>
 some (-1)
theorem xY(a0:List Int)(p1:Int->Option Bool)(k1:FuncId)(fs1 cs1:List PV)(hp1:∀x0 r,p1 x0=some r->aS pw k1 (fs1++[.val (.int .i64 x0)]++cs1) (λv=>v = .val (.bool r)))(r:Int)(h:je a0 p1=some r):aS pw 123 [.aU (a0.map encI),.iK (.func k1) fs1 cs1] (λv=>v = .val (.int .i64 r)):=by
 refine aS.oa ?_;refine aR [] func123 ntmps123 results123 ?_;unfold je at h;have F:=trivial;refine zV ?_;refine zN F h () [0,1,7] (λx=>[(8,.p (.val (.int .i64 ((x.1.1:Nat):Int))))]) [] (λx H=>[]) ?_ ?_
 ·intro i2 s2 g2 _ _ F nu h;try dsimp only at h
  refine zI encI F h λe3 F h=>?_
  refine zP F h (hp1 _) λr4 h=>?_
  refine zB F h (λF h=>?_) λF h=>?_
  ·exact zR h
  ·exact zX (z:=nu _ () h zW)
 ·intro i2 s2 g2 _ F h;try dsimp only at h
  exact zR h
def fH(a0:List Int)(p1:Int->Option Bool):Option Bool :=
 thn (je a0 p1) λr2 =>
 some (decide (0<=r2))
theorem oR(a0:List Int)(p1:Int->Option Bool)(k1:FuncId)(fs1 cs1:List PV)(hp1:∀x0 r,p1 x0=some r->aS pw k1 (fs1++[.val (.int .i64 x0)]++cs1) (λv=>v = .val (.bool r)))(r:Bool)(h:fH a0 p1=some r):aS pw 65 [.aU (a0.map encI),.iK (.func k1) fs1 cs1] (λv=>v = .val (.bool r)):=by
 refine aS.oa ?_;refine aR [] func65 ntmps65 results65 ?_;unfold fH at h;have F:=trivial;refine zK F h (xY _ p1 k1 fs1 cs1 hp1) λr2 h=>?_
 exact zR h
def eZ(a0:List Int)(a1:Int):Option Bool :=
 thn (fQ a0 a1) λr2 =>
 some (decide (0<=r2))
theorem nR(a0:List Int)(a1:Int)(r:Bool)(h:eZ a0 a1=some r):aS pw 25 [.aU (a0.map encI),.val (.int .i64 a1)] (λv=>v = .val (.bool r)):=by
 refine aS.oa ?_;refine aR [] func25 ntmps25 results25 ?_;unfold eZ at h;have F:=trivial;refine zK F h (ni _ _) λr2 h=>?_
 exact zR h
def lq(a0:Int)(a1:az):Option Bool :=
 thn (eZ a1.nodes a0) λr2 =>
 some r2
theorem acE(a0:Int)(a1:az)(r:Bool)(h:lq a0 a1=some r):aS pw 81 [.val (.int .i64 a0),.ee (aD a1) 0] (λv=>v = .val (.bool r)):=by
 refine aS.oa ?_;refine aR [] func81 ntmps81 results81 ?_;unfold lq at h;have F:=trivial;refine zK F h (nR _ _) λr2 h=>?_
 exact zR h
def jZ(a0:Types)(a1:az):Option Int :=
 thn (tW a0 a1.host) λr2 =>
 cond (decide (r2.2=0)) (
  cond (decide (((a1.nodes.length:Nat):Int)=((a1.host.graph.nodes.length:Nat):Int))) (
   cond (decide (((a1.ak.length:Nat):Int)=((a1.host.graph.ak.length:Nat):Int))) (
    cond (decide (a1.next<0)) (
     some 6) <|
    cond (decide (1000000<a1.next)) (
     some 6) <|
    thn (iT a1.nodes a1.next) λr3 =>
    cond (decide (r3=0)) (
     thn (iT a1.ak a1.next) λr4 =>
     cond (decide (r4=0)) (
      thn (fH a1.ak (λx5=>lq x5 (⟨a1.host,a1.nodes,a1.ak,a1.next⟩:az))) λr6 =>
      cond r6 (
       some 5) <|
      some 0) <|
     some r4) <|
    some r3) <|
   some 20) <|
  some 20) <|
 some r2.2
theorem yD(a0:Types)(a1:az)(r:Int)(h:jZ a0 a1=some r):aS pw 31 [.agg [.aU (a0.nodes.map aJ),.aU (a0.ak.map aP)],.agg (aD a1)] (λv=>v = .val (.int .i64 r)):=by
 refine aS.oa ?_;refine aR [] func31 ntmps31 results31 ?_;unfold jZ at h;have F:=trivial;refine zK F h (acv _ _) λr2 h=>?_
 refine o9 F h (λF h=>?_) λF h=>?_
 ·refine oQ F h (λF h=>?_) λF h=>?_
  ·refine o9 F h (λF h=>?_) λF h=>?_
   ·refine pO F h (λF h=>?_) λF h=>?_
    ·exact zR h
    ·refine zB F h (λF h=>?_) λF h=>?_
     ·exact zR h
     ·refine zK F h (sU _ _) λr3 h=>?_
      refine o9 F h (λF h=>?_) λF h=>?_
      ·refine zK F h (sU _ _) λr4 h=>?_
       refine o9 F h (λF h=>?_) λF h=>?_
       ·refine zK F h (oR _ (λx5=>lq x5 (⟨a1.host,a1.nodes,a1.ak,a1.next⟩:az)) 81 [] [.ee (aD (⟨a1.host,a1.nodes,a1.ak,a1.next⟩:az)) 0] (λx5 r h=>acE x5 (⟨a1.host,a1.nodes,a1.ak,a1.next⟩:az) r h)) λr6 h=>?_
        refine zB F h (λF h=>?_) λF h=>?_
        ·exact zR h
        ·exact zR h
       ·exact zR h
      ·exact zR h
   ·exact zR h
  ·exact zR h
 ·exact zR h
end
def lu:az:=⟨⟨⟨[],[]⟩,[]⟩,[],[],0⟩
def kA(t:Types)(a:az)(p:aF):Option (az×Int) :=
 thn (mo p) λe =>
 cond (!decide (e=0)) (some (lu,e)) <|
 thn (giv (a.nodes.length<=a.host.graph.nodes.length/\a.nodes.length<=a.host.values.length/\a.nodes.length<=1000/\(∀l∈a.host.values,l.length<=1000000)/\p.au.length<=1000/\p.aC.length<=1000/\p.aM.length<=1000/\p.aK.length<=1000/\p.values.length<=1000/\∀n∈p.au,n.values.length<=1000000) ()) λ_ =>
 thn (ny a) λes =>
 thn (giv (es.length<=1000) ()) λ_ =>
 cond (!decide (p.next.x0=a.next)) (some (lu,11)) <|
 cond (!((lV (bD a) p.au 0).1&&(nW es p.aC 0).1)) (some (lu,11)) <|
 thn (giv ((lV (bD a) p.au 0).2.1.length<=1000/\(nW es p.aC 0).2.1.length<=1000) ()) λ_ =>
 cond (!(lW (lV (bD a) p.au 0).2.1 p.values).1) (some (lu,11)) <|
 thn (giv ((lW (lV (bD a) p.au 0).2.1 p.values).2.length<=1000/\(gm (lW (lV (bD a) p.au 0).2.1 p.values).2 (nW es p.aC 0).2.1 p=false->aii ah.id ((lW (lV (bD a) p.au 0).2.1 p.values).2++p.aM)/\aii ax.id ((nW es p.aC 0).2.1++p.aK))) ()) λ_ =>
 cond (gm (lW (lV (bD a) p.au 0).2.1 p.values).2 (nW es p.aC 0).2.1 p) (some (lu,11)) <|
 thn (lp (kF ((lW (lV (bD a) p.au 0).2.1 p.values).2++p.aM)) (mR ((nW es p.aC 0).2.1++p.aK)) p.next.x1) λx =>
 cond (!x.2) (some (lu,1)) <|
 thn (jZ t x.1) λe2 =>
 cond (!decide (e2=0)) (some (lu,1)) (some (x.1,0))
noncomputable def fe(l:List aG):Option (List aG):=open Classical in giv (l.length<=1000000/\∃K,∀x∈l,x.kind=K/\ov x) (jc l)
theorem qO{l:List aG}(h:l.length<=1000000/\∃K,∀x∈l,x.kind=K/\ov x):fe l=some (jc l):=by unfold fe giv;rw[if_pos h]
def tf(p q:aF):Option aF:=giv (p.au.length<=1000000/\p.aC.length<=1000000/\p.values.length<=1000000/\q.au.length<=1000000/\q.aC.length<=1000000/\q.values.length<=1000000) (mm p q)
attribute [go_sem] pM
noncomputable section
def iF(a0:eY):Option eY :=
 cT (a0.nodes.length<=68719476736) <|
 cT (a0.ak.length<=68719476736) <|
 some a0
theorem pP(a0:eY)(r:eY)(h:iF a0=some r):bt pw 77 [.agg [.aU (a0.nodes.map encI),.aU (a0.ak.map aZ)]] (λv=>v = .agg [.row 3 1 (r.nodes.map encI),.row 175 3 (r.ak.map aZ)]):=by
 refine bt.uz ?_;refine bF [3,6,7,10] func77 ntmps77 results77 ?_;unfold iF at h;have F:=trivial;refine zE [(1,.q),(2,.q),(5,.b),(6,.b),(0,.w),(3,.s),(4,.w),(7,.s),(8,.q),(9,.w)] ?_;refine zC F h λF h=>?_
 refine dJ a0.nodes.length 8 F λF=>?_
 refine zF (eq_true (fc (n:=1) (f:=encI) (λ_=>rfl) a0.nodes)) F λF=>?_
 refine zC F h λF h=>?_
 refine dJ a0.ak.length 24 F λF=>?_
 refine zF (eq_true (fc (n:=3) (f:=aZ) (λ_=>rfl) a0.ak)) F λF=>?_
 exact jC h
def cD(a0:Host):Option Host :=
 thn (iF a0.graph) λr1 =>
 cT (a0.values.length<=fuel) <|
 cr (λi2 (s2:(List (List Int))) c8 jT =>
  thn (a0.values[i2]?) λe3 =>
  cT (e3.length<=68719476736) <|
  cT (s2.length+1<=68719476736) <|
  c8 (s2++[e3]))
 (a0.values.length-0) 0 ([]:List (List Int)) λs2 =>
 some (⟨r1,s2⟩:Host)
theorem pQ(a0:Host)(r:Host)(h:cD a0=some r):bt pw 29 [.agg (pM a0)] (λv=>v = .agg [.row 3 1 (r.graph.nodes.map encI),.row 175 3 (r.graph.ak.map aZ),.row 32 1 (r.values.map bJ)]):=by
 refine bt.uz ?_;refine bF [25,26] func29 ntmps29 results29 ?_;unfold cD at h;have F:=trivial;refine zG 1112 F h (pP _) λr1 h=>?_
 refine zV ?_;refine zN F h (0:Nat) [1,2,3] (λx=>[(4,.p (.val (.int .i64 ((x.1.1:Nat):Int))))]) [1,2,1112,1113] (λx H=>[(3,bx (H 3) [(2,.row 2053 x.2)]),(2053,.row x.2 32 1 (x.1.2.map bJ))]) ?_ ?_ (hw:=by refine dx.trans (cz 3 2 2053 32 1 _ rfl rfl rfl (by decide)) ?_;exact zW)
 ·intro i2 s2 g2 _ _ F nu h;try dsimp only at h
  refine zE [(0,.p),(2,.p),(1,.b),(3,.q),(4,.q),(5,.q),(6,.q),(7,.q),(8,.w),(9,.w),(10,.w),(11,.q),(12,.w)] ?_;refine zI bJ F h λe3 F h=>?_
  refine zC F h λF h=>?_
  refine dJ e3.length 8 F λF=>?_
  refine zF (eq_true (fc (n:=1) (f:=encI) (λ_=>rfl) e3)) F λF=>?_
  refine zC F h λF h=>?_
  refine dJ (s2.length+1) 24 F λF=>?_
  refine zF (bz bJ s2 [e3] (c:=[[.aU (e3.map encI)]]) rfl) F λF=>?_
  exact zX (z:=nu _ (g2+1) h zW)
 ·intro i2 s2 g2 _ F h;try dsimp only at h
  exact jC h
def dG(a0:az):Option az :=
 thn (cD a0.host) λr1 =>
 cT (a0.nodes.length<=68719476736) <|
 cT (a0.ak.length<=68719476736) <|
 some (⟨r1,a0.nodes,a0.ak,a0.next⟩:az)
theorem wu(a0:az)(r:az)(h:dG a0=some r):bt pw 32 [.agg (aD a0)] (λv=>v = .agg [.row 3 1 (r.host.graph.nodes.map encI),.row 175 3 (r.host.graph.ak.map aZ),.row 32 1 (r.host.values.map bJ),.row 3 1 (r.nodes.map encI),.row 3 1 (r.ak.map encI),.p (.val (.int .i64 r.next))]):=by
 refine bt.uz ?_;refine bF [6,9,10,13] func32 ntmps32 results32 ?_;unfold dG at h;have F:=trivial;refine zE [(0,.q),(1,.q),(4,.q),(5,.q),(8,.b),(9,.b),(11,.b),(12,.b),(2,.f),(3,.w),(6,.s),(7,.w),(10,.s),(13,.q),(14,.w)] ?_;refine zH 1080 F h (pQ _) λr1 h=>?_
 refine zC F h λF h=>?_
 refine dJ a0.nodes.length 8 F λF=>?_
 refine zF (eq_true (fc (n:=1) (f:=encI) (λ_=>rfl) a0.nodes)) F λF=>?_
 refine zC F h λF h=>?_
 refine dJ a0.ak.length 8 F λF=>?_
 refine zF (eq_true (fc (n:=1) (f:=encI) (λ_=>rfl) a0.ak)) F λF=>?_
 exact jC h
end
attribute [go_sem] aV jI iR eo kz dZ ay dF cB eL bZ
noncomputable section
def jf(a0:List dz)(a1:List dz):Option Types :=
 iter (λ(s2:Int×(List gT)) c8 jT =>
  cond (decide (s2.1=0)) (
   cond (decide (s2.1<((a0.length:Nat):Int))) (
    thn (nO a0 s2.1) λe3 =>
    cT ((0:Int)<=s2.1/\s2.1<=(i64.wrap (s2.1+1))/\(i64.wrap (s2.1+1))<=((#[65,66,67,68,69,70]:Array UInt8).size:Int)) <|
    cT (¬ ((i64.wrap (s2.1+1))=0)) <|
    cT ((0:Int)<=s2.1/\s2.1<=(i64.wrap (s2.1+1))/\(i64.wrap (s2.1+1))<=((#[117,118,119,120,121,122]:Array UInt8).size:Int)) <|
    cond (decide ((e3.x1.tmod 4)=1)) (
     cT (s2.2.length+1<=68719476736) <|
     c8 ((i64.wrap (s2.1+1)),(s2.2++[(⟨((⟨#[65,66,67,68,69,70]⟩:ByteArray).extract s2.1.toNat (i64.wrap (s2.1+1)).toNat),(i64.wrap (((i64.wrap e3.x0).tmod (i64.wrap (s2.1+1)))-1)),(decide (((IntKind.u8.wrap (e3.x0.tdiv 16)).tmod 4)=3)),[(⟨((⟨#[117,118,119,120,121,122]⟩:ByteArray).extract s2.1.toNat (i64.wrap (s2.1+1)).toNat),(-3),(i64.wrap (3+((i64.wrap (IntKind.u8.wrap (e3.x1.tdiv 4))).tmod 9))),([]:List ByteArray)⟩:Attr)]⟩:gT)]))) <|
    cond (decide ((e3.x1.tmod 4)=2)) (
     cT (s2.2.length+1<=68719476736) <|
     c8 ((i64.wrap (s2.1+1)),(s2.2++[(⟨((⟨#[65,66,67,68,69,70]⟩:ByteArray).extract s2.1.toNat (i64.wrap (s2.1+1)).toNat),(i64.wrap (((i64.wrap e3.x0).tmod (i64.wrap (s2.1+1)))-1)),(decide (((IntKind.u8.wrap (e3.x0.tdiv 16)).tmod 4)=3)),[(⟨((⟨#[117,118,119,120,121,122]⟩:ByteArray).extract s2.1.toNat (i64.wrap (s2.1+1)).toNat),0,1,[(⟨#[111,102,102]⟩:ByteArray),(⟨#[111,110]⟩:ByteArray)]⟩:Attr)]⟩:gT)]))) <|
    cT (s2.2.length+1<=68719476736) <|
    c8 ((i64.wrap (s2.1+1)),(s2.2++[(⟨((⟨#[65,66,67,68,69,70]⟩:ByteArray).extract s2.1.toNat (i64.wrap (s2.1+1)).toNat),(i64.wrap (((i64.wrap e3.x0).tmod (i64.wrap (s2.1+1)))-1)),(decide (((IntKind.u8.wrap (e3.x0.tdiv 16)).tmod 4)=3)),([]:List Attr)⟩:gT)]))) <|
   cT ((0:Int)<=s2.1/\s2.1<=(i64.wrap (s2.1+1))/\(i64.wrap (s2.1+1))<=((#[65,66,67,68,69,70]:Array UInt8).size:Int)) <|
   cT (¬ ((i64.wrap (s2.1+1))=0)) <|
   cT ((0:Int)<=s2.1/\s2.1<=(i64.wrap (s2.1+1))/\(i64.wrap (s2.1+1))<=((#[117,118,119,120,121,122]:Array UInt8).size:Int)) <|
   cond (decide (((0:Int).tmod 4)=1)) (
    cT (s2.2.length+1<=68719476736) <|
    c8 ((i64.wrap (s2.1+1)),(s2.2++[(⟨((⟨#[65,66,67,68,69,70]⟩:ByteArray).extract s2.1.toNat (i64.wrap (s2.1+1)).toNat),(i64.wrap (((i64.wrap 0).tmod (i64.wrap (s2.1+1)))-1)),(decide (((IntKind.u8.wrap ((0:Int).tdiv 16)).tmod 4)=3)),[(⟨((⟨#[117,118,119,120,121,122]⟩:ByteArray).extract s2.1.toNat (i64.wrap (s2.1+1)).toNat),(-3),(i64.wrap (3+((i64.wrap (IntKind.u8.wrap ((0:Int).tdiv 4))).tmod 9))),([]:List ByteArray)⟩:Attr)]⟩:gT)]))) <|
   cond (decide (((0:Int).tmod 4)=2)) (
    cT (s2.2.length+1<=68719476736) <|
    c8 ((i64.wrap (s2.1+1)),(s2.2++[(⟨((⟨#[65,66,67,68,69,70]⟩:ByteArray).extract s2.1.toNat (i64.wrap (s2.1+1)).toNat),(i64.wrap (((i64.wrap 0).tmod (i64.wrap (s2.1+1)))-1)),(decide (((IntKind.u8.wrap ((0:Int).tdiv 16)).tmod 4)=3)),[(⟨((⟨#[117,118,119,120,121,122]⟩:ByteArray).extract s2.1.toNat (i64.wrap (s2.1+1)).toNat),0,1,[(⟨#[111,102,102]⟩:ByteArray),(⟨#[111,110]⟩:ByteArray)]⟩:Attr)]⟩:gT)]))) <|
   cT (s2.2.length+1<=68719476736) <|
   c8 ((i64.wrap (s2.1+1)),(s2.2++[(⟨((⟨#[65,66,67,68,69,70]⟩:ByteArray).extract s2.1.toNat (i64.wrap (s2.1+1)).toNat),(i64.wrap (((i64.wrap 0).tmod (i64.wrap (s2.1+1)))-1)),(decide (((IntKind.u8.wrap ((0:Int).tdiv 16)).tmod 4)=3)),([]:List Attr)⟩:gT)]))) <|
  cond (decide (s2.1<((a0.length:Nat):Int))) (
   cond (decide (s2.1<6)) (
    thn (nO a0 s2.1) λe4 =>
    cT ((0:Int)<=s2.1/\s2.1<=(i64.wrap (s2.1+1))/\(i64.wrap (s2.1+1))<=((#[65,66,67,68,69,70]:Array UInt8).size:Int)) <|
    cT (¬ ((i64.wrap (s2.1+1))=0)) <|
    cT ((0:Int)<=s2.1/\s2.1<=(i64.wrap (s2.1+1))/\(i64.wrap (s2.1+1))<=((#[117,118,119,120,121,122]:Array UInt8).size:Int)) <|
    cond (decide ((e4.x1.tmod 4)=1)) (
     cT (s2.2.length+1<=68719476736) <|
     c8 ((i64.wrap (s2.1+1)),(s2.2++[(⟨((⟨#[65,66,67,68,69,70]⟩:ByteArray).extract s2.1.toNat (i64.wrap (s2.1+1)).toNat),(i64.wrap (((i64.wrap e4.x0).tmod (i64.wrap (s2.1+1)))-1)),(decide (((IntKind.u8.wrap (e4.x0.tdiv 16)).tmod 4)=3)),[(⟨((⟨#[117,118,119,120,121,122]⟩:ByteArray).extract s2.1.toNat (i64.wrap (s2.1+1)).toNat),(-3),(i64.wrap (3+((i64.wrap (IntKind.u8.wrap (e4.x1.tdiv 4))).tmod 9))),([]:List ByteArray)⟩:Attr)]⟩:gT)]))) <|
    cond (decide ((e4.x1.tmod 4)=2)) (
     cT (s2.2.length+1<=68719476736) <|
     c8 ((i64.wrap (s2.1+1)),(s2.2++[(⟨((⟨#[65,66,67,68,69,70]⟩:ByteArray).extract s2.1.toNat (i64.wrap (s2.1+1)).toNat),(i64.wrap (((i64.wrap e4.x0).tmod (i64.wrap (s2.1+1)))-1)),(decide (((IntKind.u8.wrap (e4.x0.tdiv 16)).tmod 4)=3)),[(⟨((⟨#[117,118,119,120,121,122]⟩:ByteArray).extract s2.1.toNat (i64.wrap (s2.1+1)).toNat),0,1,[(⟨#[111,102,102]⟩:ByteArray),(⟨#[111,110]⟩:ByteArray)]⟩:Attr)]⟩:gT)]))) <|
    cT (s2.2.length+1<=68719476736) <|
    c8 ((i64.wrap (s2.1+1)),(s2.2++[(⟨((⟨#[65,66,67,68,69,70]⟩:ByteArray).extract s2.1.toNat (i64.wrap (s2.1+1)).toNat),(i64.wrap (((i64.wrap e4.x0).tmod (i64.wrap (s2.1+1)))-1)),(decide (((IntKind.u8.wrap (e4.x0.tdiv 16)).tmod 4)=3)),([]:List Attr)⟩:gT)]))) <|
   jT (s2.1,s2.2)) <|
  jT (s2.1,s2.2))
 fuel (0,([]:List gT)) λs2 =>
 iter (λ(s5:Int×(List l8)) sV zx =>
  cond (decide (s5.1<((a1.length:Nat):Int))) (
   cond (decide (s5.1<5)) (
    cT ((0:Int)<=s5.1/\s5.1<=(i64.wrap (s5.1+1))/\(i64.wrap (s5.1+1))<=((#[101,102,103,104,105]:Array UInt8).size:Int)) <|
    thn (nO a1 s5.1) λe6 =>
    cT (¬ (((s2.2.length:Nat):Int)=0)) <|
    cT (¬ (((s2.2.length:Nat):Int)=0)) <|
    cT (s5.2.length+1<=68719476736) <|
    sV ((i64.wrap (s5.1+1)),(s5.2++[(⟨((⟨#[101,102,103,104,105]⟩:ByteArray).extract s5.1.toNat (i64.wrap (s5.1+1)).toNat),((i64.wrap e6.x0).tmod ((s2.2.length:Nat):Int)),((i64.wrap e6.x1).tmod ((s2.2.length:Nat):Int)),0,(-1),0,(-1)⟩:l8)]))) <|
   zx (s5.1,s5.2)) <|
  zx (s5.1,s5.2))
 fuel (0,([]:List l8)) λs5 =>
 some (⟨s2.2,s5.2⟩:Types)
def gI(a0:Types):Option (List Int) :=
 cT (a0.nodes.length<=fuel) <|
 cr (λi1 (s1:(List Int)) mU xh =>
  thn (a0.nodes[i1]?) λe2 =>
  cond e2.abs (
   mU s1) <|
  cT (s1.length+1<=68719476736) <|
  mU (s1++[((i1:Nat):Int)]))
 (a0.nodes.length-0) 0 ([]:List Int) λs1 =>
 some s1
def gW(a0:Types)(a1:dg):Option Host :=
 thn (gI a0) λr2 =>
 iter (λ(s3:Int×(List Int)×(List (List Int))) jk qN =>
  cond (decide (s3.1<((a1.nodes.length:Nat):Int))) (
   cond (decide (s3.1<8)) (
    cond (decide (0<((r2.length:Nat):Int))) (
     thn (nO a1.nodes s3.1) λe4 =>
     cT (¬ (((r2.length:Nat):Int)=0)) <|
     thn (nO r2 ((i64.wrap e4.x0).tmod ((r2.length:Nat):Int))) λe5 =>
     thn (mh a0 e5) λr6 =>
     cT (r6.1.length<=fuel) <|
     cr (λi7 (s7:(List Int)) acF aCJ =>
      thn (r6.1[i7]?) λe8 =>
      cT (¬ ((i64.wrap ((i64.wrap (e8.high-e8.low))+1))=0)) <|
      cT (s7.length+1<=68719476736) <|
      acF (s7++[(i64.wrap (e8.low+((i64.wrap ((i64.wrap e4.x1)+(i64.wrap (7 * ((i7:Nat):Int))))).tmod (i64.wrap ((i64.wrap (e8.high-e8.low))+1)))))]))
     (r6.1.length-0) 0 ([]:List Int) λs7 =>
     cT (s3.2.1.length+1<=68719476736) <|
     cT (s3.2.2.length+1<=68719476736) <|
     jk ((i64.wrap (s3.1+1)),(s3.2.1++[e5]),(s3.2.2++[s7]))) <|
    qN (s3.1,s3.2.1,s3.2.2)) <|
   qN (s3.1,s3.2.1,s3.2.2)) <|
  qN (s3.1,s3.2.1,s3.2.2))
 fuel (0,([]:List Int),([]:List (List Int))) λs3 =>
 iter (λ(s9:Int×(List Edge)) zy acG =>
  cond (decide (s9.1<((a1.ak.length:Nat):Int))) (
   cond (decide (s9.1<10)) (
    cond (decide (0<((s3.2.1.length:Nat):Int))) (
     cond (decide (0<((a0.ak.length:Nat):Int))) (
      thn (nO a1.ak s9.1) λvr =>
      cT (¬ (((a0.ak.length:Nat):Int)=0)) <|
      cT (¬ (((s3.2.1.length:Nat):Int)=0)) <|
      cT (¬ (((s3.2.1.length:Nat):Int)=0)) <|
      thn (nO s3.2.1 ((i64.wrap vr.x1).tmod ((s3.2.1.length:Nat):Int))) λe11 =>
      thn (nO s3.2.1 ((i64.wrap vr.x2).tmod ((s3.2.1.length:Nat):Int))) λyE =>
      thn (qK a0 ((i64.wrap vr.x0).tmod ((a0.ak.length:Nat):Int)) e11 yE) λyP =>
      cond yP (
       cT (s9.2.length+1<=68719476736) <|
       zy ((i64.wrap (s9.1+1)),(s9.2++[(⟨((i64.wrap vr.x0).tmod ((a0.ak.length:Nat):Int)),((i64.wrap vr.x1).tmod ((s3.2.1.length:Nat):Int)),((i64.wrap vr.x2).tmod ((s3.2.1.length:Nat):Int))⟩:Edge)]))) <|
      zy ((i64.wrap (s9.1+1)),s9.2)) <|
     acG (s9.1,s9.2)) <|
    acG (s9.1,s9.2)) <|
   acG (s9.1,s9.2)) <|
  acG (s9.1,s9.2))
 fuel (0,([]:List Edge)) λs9 =>
 some (⟨⟨s3.2.1,s9.2⟩,s3.2.2⟩:Host)
def fI(a0:Int)(a1:Int):Option (List Int) :=
 cT (a1.toNat<=fuel) <|
 cr (λi2 (s2:(List Int)) c8 jT =>
  cT (s2.length+1<=68719476736) <|
  c8 (s2++[(i64.wrap (a0+((i2:Nat):Int)))]))
 (a1.toNat-0) 0 ([]:List Int) λs2 =>
 some s2
def js(a0:Types)(a1:Host):Option (az×Int) :=
 thn (jS a0) λr2 =>
 cond (decide (r2.2=0)) (
  thn (iS a0 a1) λr3 =>
  cond (decide (r3.2=0)) (
   thn (cD a1) λr4 =>
   thn (fI 0 ((a1.graph.nodes.length:Nat):Int)) λr5 =>
   thn (fI ((a1.graph.nodes.length:Nat):Int) (i64.wrap ((i64.wrap (((a1.graph.nodes.length:Nat):Int)+((a1.graph.ak.length:Nat):Int)))-((a1.graph.nodes.length:Nat):Int)))) λr6 =>
   some ((⟨r4,r5,r6,(i64.wrap (((a1.graph.nodes.length:Nat):Int)+((a1.graph.ak.length:Nat):Int)))⟩:az),0)) <|
  some ((⟨(⟨(⟨([]:List Int),([]:List Edge)⟩:eY),([]:List (List Int))⟩:Host),([]:List Int),([]:List Int),0⟩:az),r3.2)) <|
 some ((⟨⟨⟨[],[]⟩,[]⟩,[],[],0⟩:az),r2.2)
def gX(a0:az)(a1:Int):Option ah :=
 thn (nO a0.nodes a1) λe2 =>
 thn (nO a0.host.graph.nodes a1) λe3 =>
 thn (nO a0.host.values a1) λe4 =>
 cT (e4.length<=68719476736) <|
 some (⟨e2,e3,e4⟩:ah)
def dH(a0:az)(a1:Int):Option ax :=
 thn (nO a0.host.graph.ak a1) λe2 =>
 thn (nO a0.ak a1) λe3 =>
 thn (nO a0.nodes e2.src) λe4 =>
 thn (nO a0.nodes e2.dst) λe5 =>
 some (⟨e3,e2.type,e4,e5⟩:ax)
def eR(a0:az):Option aQ :=
 cT (a0.nodes.length<=fuel) <|
 cr (λi1 (s1:(List ah)) mU xh =>
  thn (gX a0 ((i1:Nat):Int)) λr2 =>
  cT (s1.length+1<=68719476736) <|
  mU (s1++[r2]))
 (a0.nodes.length-0) 0 ([]:List ah) λs1 =>
 cT (a0.ak.length<=fuel) <|
 cr (λi3 (s3:(List ax)) jk qN =>
  thn (dH a0 ((i3:Nat):Int)) λr4 =>
  cT (s3.length+1<=68719476736) <|
  jk (s3++[r4]))
 (a0.ak.length-0) 0 ([]:List ax) λs3 =>
 some (⟨s1,s3⟩:aQ)
def cF(a0:aQ)(a1:ax):Option (aQ×Bool) :=
 cT (a0.ak.length<=fuel) <|
 cr (λi2 (s2:Unit) c8 jT =>
  thn (a0.ak[i2]?) λe3 =>
  cond (decide (e3.id=a1.id)&&(decide (e3.type=a1.type)&&(decide (e3.src=a1.src)&&decide (e3.dst=a1.dst)))) (
   cT ((0:Int)<=0/\0<=((i2:Nat):Int)/\((i2:Nat):Int)<=(a0.ak.length:Int)) <|
   cT ((a0.ak.take i2).length<=68719476736) <|
   cT ((0:Int)<=(i64.wrap (((i2:Nat):Int)+1))/\(i64.wrap (((i2:Nat):Int)+1))<=((a0.ak.length:Nat):Int)/\((a0.ak.length:Nat):Int)<=(a0.ak.length:Int)) <|
   cT ((a0.ak.take i2).length+(a0.ak.drop (i64.wrap (((i2:Nat):Int)+1)).toNat).length<=68719476736) <|
   some ((⟨a0.nodes,((a0.ak.take i2)++(a0.ak.drop (i64.wrap (((i2:Nat):Int)+1)).toNat))⟩:aQ),true)) <|
  c8 ())
 (a0.ak.length-0) 0 () λs2 =>
 some (a0,false)
def bW(a0:List Int)(a1:Int):Option Int :=
 cT (a0.length<=fuel) <|
 cr (λi2 (s2:Unit) c8 jT =>
  thn (a0[i2]?) λe3 =>
  cond (decide (e3=a1)) (
   some ((i2:Nat):Int)) <|
  c8 ())
 (a0.length-0) 0 () λs2 =>
 some (-1)
def dc(a0:aQ)(a1:Int):Option az :=
 cT (a0.nodes.length<=fuel) <|
 cr (λi2 (s2:(List Int)×(List (List Int))×(List Int)) c8 jT =>
  thn (a0.nodes[i2]?) λe3 =>
  cT (s2.2.2.length+1<=68719476736) <|
  cT (s2.1.length+1<=68719476736) <|
  cT (e3.values.length<=68719476736) <|
  cT (s2.2.1.length+1<=68719476736) <|
  c8 ((s2.1++[e3.type]),(s2.2.1++[e3.values]),(s2.2.2++[e3.id])))
 (a0.nodes.length-0) 0 (([]:List Int),([]:List (List Int)),([]:List Int)) λs2 =>
 cT (a0.ak.length<=fuel) <|
 cr (λi4 (s4:(List Edge)×(List Int)) tL amN =>
  thn (a0.ak[i4]?) λe5 =>
  cT (s4.2.length+1<=68719476736) <|
  thn (bW s2.2.2 e5.src) λr6 =>
  thn (bW s2.2.2 e5.dst) λr7 =>
  cT (s4.1.length+1<=68719476736) <|
  tL ((s4.1++[(⟨e5.type,r6,r7⟩:Edge)]),(s4.2++[e5.id])))
 (a0.ak.length-0) 0 (([]:List Edge),([]:List Int)) λs4 =>
 some (⟨⟨⟨s2.1,s4.1⟩,s2.2.1⟩,s2.2.2,s4.2,a1⟩:az)
def gJ(a0:List Int)(a1:List Int):Option Bool :=
 cond (decide (((a0.length:Nat):Int)=((a1.length:Nat):Int))) (
  cT (a0.length<=fuel) <|
  cr (λi2 (s2:Unit) c8 jT =>
   thn (a0[i2]?) λe3 =>
   thn (a1[i2]?) λe4 =>
   cond (decide (e3=e4)) (
    c8 ()) <|
   some false)
  (a0.length-0) 0 () λs2 =>
  some true) <|
 some false
def gK(a0:ah)(a1:ah):Option Bool :=
 cond (decide (a0.id=a1.id)) (
  cond (decide (a0.type=a1.type)) (
   thn (gJ a0.values a1.values) λr2 =>
   some r2) <|
  some false) <|
 some false
def cm(a0:aQ)(a1:ah):Option (aQ×Bool) :=
 cT (a0.nodes.length<=fuel) <|
 cr (λi2 (s2:Unit) c8 jT =>
  thn (a0.nodes[i2]?) λe3 =>
  thn (gK e3 a1) λr4 =>
  cond r4 (
   cT ((0:Int)<=0/\0<=((i2:Nat):Int)/\((i2:Nat):Int)<=(a0.nodes.length:Int)) <|
   cT ((0:Int)<=(i64.wrap (((i2:Nat):Int)+1))/\(i64.wrap (((i2:Nat):Int)+1))<=((a0.nodes.length:Nat):Int)/\((a0.nodes.length:Nat):Int)<=(a0.nodes.length:Int)) <|
   cT ((a0.nodes.take i2).length<=68719476736) <|
   cT ((a0.nodes.take i2).length+(a0.nodes.drop (i64.wrap (((i2:Nat):Int)+1)).toNat).length<=68719476736) <|
   some ((⟨((a0.nodes.take i2)++(a0.nodes.drop (i64.wrap (((i2:Nat):Int)+1)).toNat)),a0.ak⟩:aQ),true)) <|
  c8 ())
 (a0.nodes.length-0) 0 () λs2 =>
 some (a0,false)
def fJ(a0:az)(a1:Bool)(a2:Int):Option az :=
 thn (eR a0) λr3 =>
 cond a1 (
  thn (nO r3.ak a2) λe4 =>
  thn (cF r3 e4) λr5 =>
  thn (dc r5.1 a0.next) λr6 =>
  some r6) <|
 thn (nO r3.nodes a2) λe7 =>
 thn (cm r3 e7) λr8 =>
 thn (dc r8.1 a0.next) λr9 =>
 some r9
def ic(a0:Types)(a1:az)(a2:jH):Option az :=
 thn (dG a1) λr3 =>
 cond (decide (((i64.wrap a2.x0).tmod 5)=0)) (
  cond (decide (0<((a1.nodes.length:Nat):Int))) (
   cT (¬ (((a1.nodes.length:Nat):Int)=0)) <|
   thn (nO r3.host.values ((i64.wrap a2.x1).tmod ((a1.nodes.length:Nat):Int))) λe4 =>
   cond (decide (0<((e4.length:Nat):Int))) (
    cT (¬ (((e4.length:Nat):Int)=0)) <|
    cT (¬ (((e4.length:Nat):Int)=0)) <|
    thn (nO e4 ((i64.wrap a2.x2).tmod ((e4.length:Nat):Int))) λe5 =>
    some (⟨(⟨r3.host.graph,(r3.host.values.set (((i64.wrap a2.x1).tmod ((a1.nodes.length:Nat):Int)).toNat) (e4.set (((i64.wrap a2.x2).tmod ((e4.length:Nat):Int)).toNat) (i64.wrap (e5+1))))⟩:Host),r3.nodes,r3.ak,r3.next⟩:az)) <|
   some r3) <|
  some r3) <|
 cond (decide (((i64.wrap a2.x0).tmod 5)=1)) (
  cond (decide (0<((a1.nodes.length:Nat):Int))) (
   cT (¬ (((a1.nodes.length:Nat):Int)=0)) <|
   thn (fJ a1 false ((i64.wrap a2.x1).tmod ((a1.nodes.length:Nat):Int))) λr6 =>
   some r6) <|
  some r3) <|
 cond (decide (((i64.wrap a2.x0).tmod 5)=2)) (
  cond (decide (0<((a1.ak.length:Nat):Int))) (
   cT (¬ (((a1.ak.length:Nat):Int)=0)) <|
   thn (fJ a1 true ((i64.wrap a2.x1).tmod ((a1.ak.length:Nat):Int))) λr7 =>
   some r7) <|
  some r3) <|
 cond (decide (((i64.wrap a2.x0).tmod 5)=3)) (
  thn (gW a0 (⟨[(⟨a2.x1,a2.x2⟩:dz)],[]⟩:dg)) λr8 =>
  cond (decide (((r8.graph.nodes.length:Nat):Int)=1)) (
   thn (r8.values[0]?) λe9 =>
   thn (r8.graph.nodes[0]?) λvr =>
   cT (r3.host.graph.nodes.length+1<=68719476736) <|
   cT (r3.host.values.length+1<=68719476736) <|
   cT (r3.nodes.length+1<=68719476736) <|
   some (⟨(⟨(⟨(r3.host.graph.nodes++[vr]),r3.host.graph.ak⟩:eY),(r3.host.values++[e9])⟩:Host),(r3.nodes++[r3.next]),r3.ak,(i64.wrap (r3.next+1))⟩:az)) <|
  some r3) <|
 cond (decide (((i64.wrap a2.x0).tmod 5)=4)) (
  cond (decide (0<((a1.nodes.length:Nat):Int))) (
   cond (decide (0<((a0.ak.length:Nat):Int))) (
    cT (¬ (((a0.ak.length:Nat):Int)=0)) <|
    cT (¬ (((a1.nodes.length:Nat):Int)=0)) <|
    cT (¬ (((a1.nodes.length:Nat):Int)=0)) <|
    cT (r3.host.graph.ak.length+1<=68719476736) <|
    cT (r3.ak.length+1<=68719476736) <|
    some (⟨(⟨(⟨r3.host.graph.nodes,(r3.host.graph.ak++[(⟨((i64.wrap a2.x1).tmod ((a0.ak.length:Nat):Int)),((i64.wrap ((i64.wrap a2.x1).tdiv 5)).tmod ((a1.nodes.length:Nat):Int)),((i64.wrap a2.x2).tmod ((a1.nodes.length:Nat):Int))⟩:Edge)])⟩:eY),r3.host.values⟩:Host),r3.nodes,(r3.ak++[r3.next]),(i64.wrap (r3.next+1))⟩:az)) <|
   some r3) <|
  some r3) <|
 some r3
def iB(a0:List Int)(a1:Int):Option Int :=
 cT (a0.length<=fuel) <|
 cr (λi2 (s2:Unit) c8 jT =>
  thn (a0[i2]?) λe3 =>
  cond (decide (e3<0)) (
   some 6) <|
  cond (decide (a1<=e3)) (
   some 6) <|
  cond (decide (0<((i2:Nat):Int))) (
   thn (nO a0 (i64.wrap (((i2:Nat):Int)-1))) λe4 =>
   cond (decide (e3<=e4)) (
    some 12) <|
   c8 ()) <|
  c8 ())
 (a0.length-0) 0 () λs2 =>
 some 0
def b9(a0:Types)(a1:az):Option Int :=
 thn (jS a0) λr2 =>
 cond (decide (r2.2=0)) (
  thn (iS a0 a1.host) λr3 =>
  cond (decide (r3.2=0)) (
   cond (decide (((a1.nodes.length:Nat):Int)=((a1.host.graph.nodes.length:Nat):Int))) (
    cond (decide (((a1.ak.length:Nat):Int)=((a1.host.graph.ak.length:Nat):Int))) (
     cond (decide (a1.next<0)) (
      some 6) <|
     cond (decide (1000000<a1.next)) (
      some 6) <|
     thn (iB a1.nodes a1.next) λr4 =>
     cond (decide (r4=0)) (
      thn (iB a1.ak a1.next) λr5 =>
      cond (decide (r5=0)) (
       cT (a1.ak.length<=fuel) <|
       cr (λi6 (s6:Unit) sS aik =>
        thn (a1.ak[i6]?) λe7 =>
        thn (bW a1.nodes e7) λr8 =>
        cond (decide (0<=r8)) (
         some 5) <|
        sS ())
       (a1.ak.length-0) 0 () λs6 =>
       some 0) <|
      some r5) <|
     some r4) <|
    some 20) <|
   some 20) <|
  some r3.2) <|
 some r2.2
def eF(a0:Types)(a1:az)(a2:List jH):Option az :=
 cT (a2.length<=fuel) <|
 cr (λi3 (s3:(List Int)×(List Edge)×(List (List Int))×(List Int)×(List Int)×Int) jk qN =>
  thn (a2[i3]?) λe4 =>
  thn (ic a0 (⟨⟨⟨s3.1,s3.2.1⟩,s3.2.2.1⟩,s3.2.2.2.1,s3.2.2.2.2.1,s3.2.2.2.2.2⟩:az) e4) λr5 =>
  thn (b9 a0 r5) λr6 =>
  cond (decide (r6=0)) (
   jk (r5.host.graph.nodes,r5.host.graph.ak,r5.host.values,r5.nodes,r5.ak,r5.next)) <|
  jk (s3.1,s3.2.1,s3.2.2.1,s3.2.2.2.1,s3.2.2.2.2.1,s3.2.2.2.2.2))
 (a2.length-0) 0 (a1.host.graph.nodes,a1.host.graph.ak,a1.host.values,a1.nodes,a1.ak,a1.next) λs3 =>
 some (⟨⟨⟨s3.1,s3.2.1⟩,s3.2.2.1⟩,s3.2.2.2.1,s3.2.2.2.2.1,s3.2.2.2.2.2⟩:az)
def iU(a0:az)(a1:az):Option Bool :=
 cT (a0.nodes.length<=fuel) <|
 cr (λi2 (s2:Unit) c8 jT =>
  thn (a0.nodes[i2]?) λe3 =>
  thn (bW a1.nodes e3) λr4 =>
  thn (bW a1.ak e3) λr5 =>
  cond (decide (0<=r5)) (
   some false) <|
  cond (decide (0<=r4)) (
   thn (a0.host.graph.nodes[i2]?) λe6 =>
   thn (nO a1.host.graph.nodes r4) λe7 =>
   cond (decide (e6=e7)) (
    c8 ()) <|
   some false) <|
  c8 ())
 (a0.nodes.length-0) 0 () λs2 =>
 cT (a0.ak.length<=fuel) <|
 cr (λi8 (s8:Unit) uZ acB =>
  thn (a0.ak[i8]?) λe9 =>
  thn (bW a1.ak e9) λr10 =>
  thn (bW a1.nodes e9) λr11 =>
  cond (decide (0<=r11)) (
   some false) <|
  cond (decide (0<=r10)) (
   thn (dH a0 ((i8:Nat):Int)) λxX =>
   thn (dH a1 r10) λyP =>
   cond (decide (xX.id=yP.id)&&(decide (xX.type=yP.type)&&(decide (xX.src=yP.src)&&decide (xX.dst=yP.dst)))) (
    uZ ()) <|
   some false) <|
  uZ ())
 (a0.ak.length-0) 0 () λs8 =>
 some true
def fK(a0:az)(a1:az):Option ((List ah)×(List ax)) :=
 cT (a0.nodes.length<=fuel) <|
 cr (λi2 (s2:(List ah)) c8 jT =>
  thn (a0.nodes[i2]?) λe3 =>
  thn (bW a1.nodes e3) λr4 =>
  cond (decide (r4<0)) (
   thn (gX a0 ((i2:Nat):Int)) λr5 =>
   cT (s2.length+1<=68719476736) <|
   c8 (s2++[r5])) <|
  c8 s2)
 (a0.nodes.length-0) 0 ([]:List ah) λs2 =>
 cT (a0.ak.length<=fuel) <|
 cr (λi6 (s6:(List ax)) sS aik =>
  thn (a0.ak[i6]?) λe7 =>
  thn (bW a1.ak e7) λr8 =>
  cond (decide (r8<0)) (
   thn (dH a0 ((i6:Nat):Int)) λr9 =>
   cT (s6.length+1<=68719476736) <|
   sS (s6++[r9])) <|
  sS s6)
 (a0.ak.length-0) 0 ([]:List ax) λs6 =>
 some (s2,s6)
def jg(a0:az)(a1:az):Option (aF×Bool) :=
 thn (iU a0 a1) λr2 =>
 cond r2 (
  thn (fK a0 a1) λr3 =>
  thn (fK a1 a0) λr4 =>
  cT (a0.nodes.length<=fuel) <|
  cr (λi5 (s5:(List aO)) sV zx =>
   thn (a0.nodes[i5]?) λe6 =>
   thn (bW a1.nodes e6) λr7 =>
   cond (decide (r7<0)) (
    sV s5) <|
   iter (λ(s8:Int×(List aO)) uZ acB =>
    thn (a0.host.values[i5]?) λe9 =>
    cond (decide (s8.1<((e9.length:Nat):Int))) (
     thn (nO e9 s8.1) λvr =>
     thn (nO a1.host.values r7) λe11 =>
     thn (nO e11 s8.1) λyE =>
     cond (decide (vr=yE)) (
      uZ ((i64.wrap (s8.1+1)),s8.2)) <|
     cT (s8.2.length+1<=68719476736) <|
     uZ ((i64.wrap (s8.1+1)),(s8.2++[(⟨e6,s8.1,vr,yE⟩:aO)]))) <|
    acB (s8.1,s8.2))
   fuel (0,s5) λs8 =>
   sV s8.2)
  (a0.nodes.length-0) 0 ([]:List aO) λs5 =>
  some ((⟨r3.1,r3.2,r4.1,r4.2,s5,(⟨a0.next,a1.next⟩:dz)⟩:aF),true)) <|
 some ((⟨[],[],[],[],[],⟨0,0⟩⟩:aF),false)
def gY(a0:Types)(a1:az)(a2:az):Option (aF×Int) :=
 thn (b9 a0 a1) λr3 =>
 cond (decide (r3=0)) (
  thn (b9 a0 a2) λr4 =>
  cond (decide (r4=0)) (
   thn (jg a1 a2) λr5 =>
   cond r5.2 (
    some (r5.1,0)) <|
   some ((⟨([]:List ah),([]:List ax),([]:List ah),([]:List ax),([]:List aO),(⟨0,0⟩:dz)⟩:aF),11)) <|
  some ((⟨([]:List ah),([]:List ax),([]:List ah),([]:List ax),([]:List aO),(⟨0,0⟩:dz)⟩:aF),r4)) <|
 some ((⟨[],[],[],[],[],⟨0,0⟩⟩:aF),r3)
def ef(a0:List ah):Option Bool :=
 cT (a0.length<=fuel) <|
 cr (λi1 (s1:Unit) mU xh =>
  thn (a0[i1]?) λe2 =>
  thn (nO a0 (i64.wrap (((i1:Nat):Int)-1))) λe3 =>
  cond (decide (e2.id<=e3.id)) (
   some false) <|
  mU ())
 (a0.length-1) 1 () λs1 =>
 some true
def ek(a0:List ax):Option Bool :=
 cT (a0.length<=fuel) <|
 cr (λi1 (s1:Unit) mU xh =>
  thn (a0[i1]?) λe2 =>
  thn (nO a0 (i64.wrap (((i1:Nat):Int)-1))) λe3 =>
  cond (decide (e2.id<=e3.id)) (
   some false) <|
  mU ())
 (a0.length-1) 1 () λs1 =>
 some true
def eV(a0:List aO):Option Bool :=
 cT (a0.length<=fuel) <|
 cr (λi1 (s1:Unit) mU xh =>
  thn (a0[i1]?) λe2 =>
  thn (nO a0 (i64.wrap (((i1:Nat):Int)-1))) λe3 =>
  cond (decide (e2.id<e3.id)) (
   some false) <|
  cond (decide (e2.id=e3.id)) (
   cond (decide (e2.attr<=e3.attr)) (
    some false) <|
   mU ()) <|
  mU ())
 (a0.length-1) 1 () λs1 =>
 some true
def ig(a0:aF):Option Int :=
 cond (decide (500<((a0.au.length:Nat):Int))) (
  some 3) <|
 cond (decide (500<((a0.aC.length:Nat):Int))) (
  some 3) <|
 cond (decide (500<((a0.aM.length:Nat):Int))) (
  some 3) <|
 cond (decide (500<((a0.aK.length:Nat):Int))) (
  some 3) <|
 cond (decide (500<((a0.values.length:Nat):Int))) (
  some 3) <|
 thn (ef a0.au) λr1 =>
 cond r1 (
  thn (ek a0.aC) λr2 =>
  cond r2 (
   thn (ef a0.aM) λr3 =>
   cond r3 (
    thn (ek a0.aK) λr4 =>
    cond r4 (
     thn (eV a0.values) λr5 =>
     cond r5 (
      some 0) <|
     some 12) <|
    some 12) <|
   some 12) <|
  some 12) <|
 some 12
def cQ(a0:aQ)(a1:aO):Option (aQ×Bool) :=
 cT (a0.nodes.length<=fuel) <|
 cr (λi2 (s2:(List ah)×Bool) c8 jT =>
  thn (a0.nodes[i2]?) λe3 =>
  cond (decide (e3.id=a1.id)) (
   cond (decide (0<=a1.attr)) (
    cond (decide (a1.attr<((e3.values.length:Nat):Int))) (
     thn (nO e3.values a1.attr) λe4 =>
     cond (decide (e4=a1.old)) (
      cond (decide (a1.old=a1.new)) (
       cT (s2.1.length+1<=68719476736) <|
       c8 ((s2.1++[e3]),s2.2)) <|
      cT (e3.values.length<=68719476736) <|
      cT (s2.1.length+1<=68719476736) <|
      c8 ((s2.1++[(⟨e3.id,e3.type,(e3.values.set a1.attr.toNat a1.new)⟩:ah)]),true)) <|
     cT (s2.1.length+1<=68719476736) <|
     c8 ((s2.1++[e3]),s2.2)) <|
    cT (s2.1.length+1<=68719476736) <|
    c8 ((s2.1++[e3]),s2.2)) <|
   cT (s2.1.length+1<=68719476736) <|
   c8 ((s2.1++[e3]),s2.2)) <|
  cT (s2.1.length+1<=68719476736) <|
  c8 ((s2.1++[e3]),s2.2))
 (a0.nodes.length-0) 0 (([]:List ah),false) λs2 =>
 some ((⟨s2.1,a0.ak⟩:aQ),s2.2)
def fV(a0:aQ)(a1:aF):Option (aQ×Bool) :=
 iter (λ(s2:Bool×Int×(List ah)×(List ax)) c8 jT =>
  cond (decide (s2.2.1<((a1.aC.length:Nat):Int))) (
   cond s2.1 (
    thn (nO a1.aC s2.2.1) λe3 =>
    thn (cF (⟨s2.2.2.1,s2.2.2.2⟩:aQ) e3) λr4 =>
    c8 (r4.2,(i64.wrap (s2.2.1+1)),r4.1.nodes,r4.1.ak)) <|
   jT (s2.1,s2.2.1,s2.2.2.1,s2.2.2.2)) <|
  jT (s2.1,s2.2.1,s2.2.2.1,s2.2.2.2))
 fuel (true,0,a0.nodes,a0.ak) λs2 =>
 iter (λ(s5:Bool×Int×(List ah)×(List ax)) sV zx =>
  cond (decide (s5.2.1<((a1.au.length:Nat):Int))) (
   cond s5.1 (
    thn (nO a1.au s5.2.1) λe6 =>
    thn (cm (⟨s5.2.2.1,s5.2.2.2⟩:aQ) e6) λr7 =>
    sV (r7.2,(i64.wrap (s5.2.1+1)),r7.1.nodes,r7.1.ak)) <|
   zx (s5.1,s5.2.1,s5.2.2.1,s5.2.2.2)) <|
  zx (s5.1,s5.2.1,s5.2.2.1,s5.2.2.2))
 fuel (s2.1,0,s2.2.2.1,s2.2.2.2) λs5 =>
 iter (λ(s8:Bool×Int×(List ah)×(List ax)) uZ acB =>
  cond (decide (s8.2.1<((a1.values.length:Nat):Int))) (
   cond s8.1 (
    thn (nO a1.values s8.2.1) λe9 =>
    thn (cQ (⟨s8.2.2.1,s8.2.2.2⟩:aQ) e9) λr10 =>
    uZ (r10.2,(i64.wrap (s8.2.1+1)),r10.1.nodes,r10.1.ak)) <|
   acB (s8.1,s8.2.1,s8.2.2.1,s8.2.2.2)) <|
  acB (s8.1,s8.2.1,s8.2.2.1,s8.2.2.2))
 fuel (s5.1,0,s5.2.2.1,s5.2.2.2) λs8 =>
 some ((⟨s8.2.2.1,s8.2.2.2⟩:aQ),s8.1)
def eT(a0:aQ)(a1:Int):Option Bool :=
 cT (a0.nodes.length<=fuel) <|
 cr (λi2 (s2:Unit) c8 jT =>
  thn (a0.nodes[i2]?) λe3 =>
  cond (decide (e3.id=a1)) (
   some true) <|
  c8 ())
 (a0.nodes.length-0) 0 () λs2 =>
 cT (a0.ak.length<=fuel) <|
 cr (λi4 (s4:Unit) tL amN =>
  thn (a0.ak[i4]?) λe5 =>
  cond (decide (e5.id=a1)) (
   some true) <|
  tL ())
 (a0.ak.length-0) 0 () λs4 =>
 some false
def fW(a0:aQ)(a1:aF):Option (aQ×Bool) :=
 cT (a1.aM.length<=fuel) <|
 cr (λi2 (s2:Unit) c8 jT =>
  thn (a1.aM[i2]?) λe3 =>
  thn (eT a0 e3.id) λr4 =>
  cond r4 (
   some (a0,false)) <|
  c8 ())
 (a1.aM.length-0) 0 () λs2 =>
 cT (a1.aK.length<=fuel) <|
 cr (λi5 (s5:Unit) sV zx =>
  thn (a1.aK[i5]?) λe6 =>
  thn (eT a0 e6.id) λr7 =>
  cond r7 (
   some (a0,false)) <|
  sV ())
 (a1.aK.length-0) 0 () λs5 =>
 iter (λ(s8:Int×Int×(List ah)) uZ acB =>
  cond (decide (s8.2.1<=((a0.nodes.length:Nat):Int))) (
   iter (λ(s9:Int×(List ah)) zy acG =>
    cond (decide (s9.1<((a1.aM.length:Nat):Int))) (
     cond (decide (s8.2.1=((a0.nodes.length:Nat):Int))) (
      thn (nO a1.aM s9.1) λvr =>
      cT (s9.2.length+1<=68719476736) <|
      zy ((i64.wrap (s9.1+1)),(s9.2++[vr]))) <|
     thn (nO a1.aM s9.1) λe11 =>
     thn (nO a0.nodes s8.2.1) λyE =>
     cond (decide (e11.id<yE.id)) (
      cT (s9.2.length+1<=68719476736) <|
      zy ((i64.wrap (s9.1+1)),(s9.2++[e11]))) <|
     acG (s9.1,s9.2)) <|
    acG (s9.1,s9.2))
   fuel (s8.1,s8.2.2) λs9 =>
   cond (decide (s8.2.1<((a0.nodes.length:Nat):Int))) (
    thn (nO a0.nodes s8.2.1) λe13 =>
    cT (s9.2.length+1<=68719476736) <|
    uZ (s9.1,(i64.wrap (s8.2.1+1)),(s9.2++[e13]))) <|
   uZ (s9.1,(i64.wrap (s8.2.1+1)),s9.2)) <|
  acB (s8.1,s8.2.1,s8.2.2))
 fuel (0,0,([]:List ah)) λs8 =>
 iter (λ(s14:Int×Int×(List ax)) abx ap5 =>
  cond (decide (s14.2.1<=((a0.ak.length:Nat):Int))) (
   iter (λ(yF:Int×(List ax)) aby ap6 =>
    cond (decide (yF.1<((a1.aK.length:Nat):Int))) (
     cond (decide (s14.2.1=((a0.ak.length:Nat):Int))) (
      thn (nO a1.aK yF.1) λe16 =>
      cT (yF.2.length+1<=68719476736) <|
      aby ((i64.wrap (yF.1+1)),(yF.2++[e16]))) <|
     thn (nO a1.aK yF.1) λe17 =>
     thn (nO a0.ak s14.2.1) λe18 =>
     cond (decide (e17.id<e18.id)) (
      cT (yF.2.length+1<=68719476736) <|
      aby ((i64.wrap (yF.1+1)),(yF.2++[e17]))) <|
     ap6 (yF.1,yF.2)) <|
    ap6 (yF.1,yF.2))
   fuel (s14.1,s14.2.2) λyF =>
   cond (decide (s14.2.1<((a0.ak.length:Nat):Int))) (
    thn (nO a0.ak s14.2.1) λe19 =>
    cT (yF.2.length+1<=68719476736) <|
    abx (yF.1,(i64.wrap (s14.2.1+1)),(yF.2++[e19]))) <|
   abx (yF.1,(i64.wrap (s14.2.1+1)),yF.2)) <|
  ap5 (s14.1,s14.2.1,s14.2.2))
 fuel (0,0,([]:List ax)) λs14 =>
 some ((⟨s8.2.2,s14.2.2⟩:aQ),true)
def fL(a0:Types)(a1:az)(a2:aF):Option (az×Int) :=
 thn (ig a2) λr3 =>
 cond (decide (r3=0)) (
  cond (decide (a2.next.x0=a1.next)) (
   thn (eR (⟨a1.host,a1.nodes,a1.ak,a1.next⟩:az)) λr4 =>
   thn (fV r4 a2) λr5 =>
   cond r5.2 (
    thn (fW r5.1 a2) λr6 =>
    cond r6.2 (
     thn (dc r6.1 a2.next.x1) λr7 =>
     thn (b9 (⟨a0.nodes,a0.ak⟩:Types) r7) λr8 =>
     cond (decide (r8=0)) (
      some (r7,0)) <|
     some ((⟨(⟨(⟨([]:List Int),([]:List Edge)⟩:eY),([]:List (List Int))⟩:Host),([]:List Int),([]:List Int),0⟩:az),1)) <|
    some ((⟨(⟨(⟨([]:List Int),([]:List Edge)⟩:eY),([]:List (List Int))⟩:Host),([]:List Int),([]:List Int),0⟩:az),11)) <|
   some ((⟨(⟨(⟨([]:List Int),([]:List Edge)⟩:eY),([]:List (List Int))⟩:Host),([]:List Int),([]:List Int),0⟩:az),11)) <|
  some ((⟨(⟨(⟨([]:List Int),([]:List Edge)⟩:eY),([]:List (List Int))⟩:Host),([]:List Int),([]:List Int),0⟩:az),11)) <|
 some ((⟨⟨⟨[],[]⟩,[]⟩,[],[],0⟩:az),r3)
def bX(a0:Types)(a1:az)(a2:aF):Option (az×Int) :=
 thn (b9 a0 a1) λr3 =>
 cond (decide (r3=0)) (
  thn (fL (⟨a0.nodes,a0.ak⟩:Types) (⟨a1.host,a1.nodes,a1.ak,a1.next⟩:az) a2) λr4 =>
  some (r4.1,r4.2)) <|
 some ((⟨⟨⟨[],[]⟩,[]⟩,[],[],0⟩:az),r3)
def gz(a0:aF):Option Bool :=
 cT (a0.aM.length<=fuel) <|
 cr (λi1 (s1:Unit) mU xh =>
  thn (a0.aM[i1]?) λe2 =>
  cond (decide (e2.id<a0.next.x0)) (
   some false) <|
  mU ())
 (a0.aM.length-0) 0 () λs1 =>
 cT (a0.aK.length<=fuel) <|
 cr (λi3 (s3:Unit) jk qN =>
  thn (a0.aK[i3]?) λe4 =>
  cond (decide (e4.id<a0.next.x0)) (
   some false) <|
  jk ())
 (a0.aK.length-0) 0 () λs3 =>
 some (decide (a0.next.x0<=a0.next.x1))
def gA(a0:Types)(a1:az)(a2:aF)(a3:aF):Option Int :=
 thn (bX (⟨a0.nodes,a0.ak⟩:Types) (⟨a1.host,a1.nodes,a1.ak,a1.next⟩:az) a2) λr4 =>
 cond (decide (r4.2=0)) (
  thn (bX (⟨a0.nodes,a0.ak⟩:Types) (⟨a1.host,a1.nodes,a1.ak,a1.next⟩:az) a3) λr5 =>
  cond (decide (r5.2=0)) (
   thn (gz a2) λr6 =>
   cond r6 (
    thn (gz a3) λr7 =>
    cond r7 (
     cond (decide (1000000<(i64.wrap ((i64.wrap (a2.next.x1+a3.next.x1))-a3.next.x0)))) (
      some 6) <|
     some 0) <|
    some 8) <|
   some 8) <|
  some r5.2) <|
 some r4.2
def bG(a0:aF)(a1:Int):Option Bool :=
 cT (a0.au.length<=fuel) <|
 cr (λi2 (s2:Unit) c8 jT =>
  thn (a0.au[i2]?) λe3 =>
  cond (decide (e3.id=a1)) (
   some true) <|
  c8 ())
 (a0.au.length-0) 0 () λs2 =>
 some false
def fR(a0:aF)(a1:Int):Option Bool :=
 cT (a0.aK.length<=fuel) <|
 cr (λi2 (s2:Unit) c8 jT =>
  thn (a0.aK[i2]?) λe3 =>
  cond (decide (e3.src=a1)) (
   some true) <|
  cond (decide (e3.dst=a1)) (
   some true) <|
  c8 ())
 (a0.aK.length-0) 0 () λs2 =>
 some false
def cc(a0:aF)(a1:Int)(a2:Int):Option (aO×Bool) :=
 cT (a0.values.length<=fuel) <|
 cr (λi3 (s3:Unit) jk qN =>
  thn (a0.values[i3]?) λe4 =>
  cond (decide (e4.id=a1)) (
   cond (decide (e4.attr=a2)) (
    some (e4,true)) <|
   jk ()) <|
  jk ())
 (a0.values.length-0) 0 () λs3 =>
 some ((⟨0,0,0,0⟩:aO),false)
def eM(a0:az)(a1:aF)(a2:aF):Option (List aG) :=
 cT (a0.nodes.length<=fuel) <|
 cr (λi3 (s3:(List aG)) jk qN =>
  thn (a0.nodes[i3]?) λe4 =>
  thn (bG a1 e4) λr5 =>
  cond r5 (
   thn (fR a2 e4) λr6 =>
   cond r6 (
    cT (s3.length+1<=68719476736) <|
    jk (s3++[(⟨1,e4,(-1)⟩:aG)])) <|
   thn (bG a2 e4) λr7 =>
   cond r7 (
    thn (fR a1 e4) λr8 =>
    cond r8 (
     cT (s3.length+1<=68719476736) <|
     jk (s3++[(⟨1,e4,(-1)⟩:aG)])) <|
    jk s3) <|
   jk s3) <|
  thn (bG a2 e4) λr9 =>
  cond r9 (
   thn (fR a1 e4) λr10 =>
   cond r10 (
    cT (s3.length+1<=68719476736) <|
    jk (s3++[(⟨1,e4,(-1)⟩:aG)])) <|
   jk s3) <|
  jk s3)
 (a0.nodes.length-0) 0 ([]:List aG) λs3 =>
 cT (a0.nodes.length<=fuel) <|
 cr (λi11 (s11:(List aG)) aj4 aDJ =>
  thn (a0.nodes[i11]?) λyE =>
  iter (λ(tM:Int×(List aG)) u5 ap7 =>
   thn (a0.host.values[i11]?) λe14 =>
   cond (decide (tM.1<((e14.length:Nat):Int))) (
    thn (cc (⟨a1.au,a1.aC,a1.aM,a1.aK,a1.values,a1.next⟩:aF) yE tM.1) λr15 =>
    thn (cc (⟨a2.au,a2.aC,a2.aM,a2.aK,a2.values,a2.next⟩:aF) yE tM.1) λr16 =>
    thn (bG (⟨a1.au,a1.aC,a1.aM,a1.aK,a1.values,a1.next⟩:aF) yE) λr17 =>
    cond r17 (
     cond r16.2 (
      cT (tM.2.length+1<=68719476736) <|
      u5 ((i64.wrap (tM.1+1)),(tM.2++[(⟨2,yE,tM.1⟩:aG)]))) <|
     thn (bG (⟨a2.au,a2.aC,a2.aM,a2.aK,a2.values,a2.next⟩:aF) yE) λr18 =>
     cond r18 (
      cond r15.2 (
       cT (tM.2.length+1<=68719476736) <|
       u5 ((i64.wrap (tM.1+1)),(tM.2++[(⟨2,yE,tM.1⟩:aG)]))) <|
      u5 ((i64.wrap (tM.1+1)),tM.2)) <|
     u5 ((i64.wrap (tM.1+1)),tM.2)) <|
    thn (bG (⟨a2.au,a2.aC,a2.aM,a2.aK,a2.values,a2.next⟩:aF) yE) λr19 =>
    cond r19 (
     cond r15.2 (
      cT (tM.2.length+1<=68719476736) <|
      u5 ((i64.wrap (tM.1+1)),(tM.2++[(⟨2,yE,tM.1⟩:aG)]))) <|
     u5 ((i64.wrap (tM.1+1)),tM.2)) <|
    u5 ((i64.wrap (tM.1+1)),tM.2)) <|
   ap7 (tM.1,tM.2))
  fuel (0,s11) λtM =>
  aj4 tM.2)
 (a0.nodes.length-0) 0 s3 λs11 =>
 cT (a1.values.length<=fuel) <|
 cr (λi20 (s20:(List aG)) ap8 aI8 =>
  thn (a1.values[i20]?) λe21 =>
  thn (cc (⟨a2.au,a2.aC,a2.aM,a2.aK,a2.values,a2.next⟩:aF) e21.id e21.attr) λr22 =>
  cond r22.2 (
   cond (decide (r22.1.new=e21.new)) (
    ap8 s20) <|
   cT (s20.length+1<=68719476736) <|
   ap8 (s20++[(⟨3,e21.id,e21.attr⟩:aG)])) <|
  ap8 s20)
 (a1.values.length-0) 0 s11 λs20 =>
 some s20
def ew(a0:List ah):Option (List ah) :=
 cT (a0.length<=fuel) <|
 cr (λi1 (s1:(List ah)) mU xh =>
  thn (a0[i1]?) λe2 =>
  cT (e2.values.length<=68719476736) <|
  cT (s1.length+1<=68719476736) <|
  mU (s1++[e2]))
 (a0.length-0) 0 ([]:List ah) λs1 =>
 some s1
def dM(a0:aF):Option aF :=
 thn (ew a0.au) λr1 =>
 cT (a0.aC.length<=68719476736) <|
 thn (ew a0.aM) λr2 =>
 cT (a0.aK.length<=68719476736) <|
 cT (a0.values.length<=68719476736) <|
 some (⟨r1,a0.aC,r2,a0.aK,a0.values,a0.next⟩:aF)
def eA(a0:Int)(a1:Int)(a2:Int):Option Int :=
 cond (decide (a1<=a0)) (
  some (i64.wrap (a0+a2))) <|
 some a0
def eG(a0:aF)(a1:aF):Option aF :=
 thn (dM a1) λr2 =>
 iter (λ(s3:Int×(List ah)) jk qN =>
  cond (decide (s3.1<((s3.2.length:Nat):Int))) (
   thn (nO s3.2 s3.1) λe4 =>
   thn (eA e4.id a1.next.x0 (i64.wrap (a0.next.x1-a0.next.x0))) λr5 =>
   jk ((i64.wrap (s3.1+1)),(s3.2.set s3.1.toNat (⟨r5,e4.type,e4.values⟩:ah)))) <|
  qN (s3.1,s3.2))
 fuel (0,r2.aM) λs3 =>
 iter (λ(s6:Int×(List ax)) sS aik =>
  cond (decide (s6.1<((s6.2.length:Nat):Int))) (
   thn (nO s6.2 s6.1) λe7 =>
   thn (eA e7.id a1.next.x0 (i64.wrap (a0.next.x1-a0.next.x0))) λr8 =>
   thn (eA e7.src a1.next.x0 (i64.wrap (a0.next.x1-a0.next.x0))) λr9 =>
   thn (eA e7.dst a1.next.x0 (i64.wrap (a0.next.x1-a0.next.x0))) λr10 =>
   sS ((i64.wrap (s6.1+1)),(s6.2.set s6.1.toNat (⟨r8,e7.type,r9,r10⟩:ax)))) <|
  aik (s6.1,s6.2))
 fuel (0,r2.aK) λs6 =>
 some (⟨r2.au,r2.aC,s3.2,s6.2,r2.values,⟨a0.next.x1,(i64.wrap ((i64.wrap (a0.next.x1+a1.next.x1))-a1.next.x0))⟩⟩:aF)
def jh(a0:aF)(a1:Int):Option Bool :=
 cT (a0.aC.length<=fuel) <|
 cr (λi2 (s2:Unit) c8 jT =>
  thn (a0.aC[i2]?) λe3 =>
  cond (decide (e3.id=a1)) (
   some true) <|
  c8 ())
 (a0.aC.length-0) 0 () λs2 =>
 some false
def gZ(a0:aF)(a1:aF):Option aF :=
 thn (dM a1) λr2 =>
 cT (a1.au.length<=fuel) <|
 cr (λi3 (s3:(List ah)) jk qN =>
  thn (a1.au[i3]?) λe4 =>
  thn (bG a0 e4.id) λr5 =>
  cond r5 (
   jk s3) <|
  cT (s3.length+1<=68719476736) <|
  jk (s3++[e4]))
 (a1.au.length-0) 0 ([]:List ah) λs3 =>
 cT (a1.aC.length<=fuel) <|
 cr (λi6 (s6:(List ax)) sS aik =>
  thn (a1.aC[i6]?) λe7 =>
  thn (jh a0 e7.id) λr8 =>
  cond r8 (
   sS s6) <|
  cT (s6.length+1<=68719476736) <|
  sS (s6++[e7]))
 (a1.aC.length-0) 0 ([]:List ax) λs6 =>
 cT (a1.values.length<=fuel) <|
 cr (λi9 (s9:(List aO)) zy acG =>
  thn (a1.values[i9]?) λvr =>
  thn (cc a0 vr.id vr.attr) λr11 =>
  cond r11.2 (
   zy s9) <|
  cT (s9.length+1<=68719476736) <|
  zy (s9++[vr]))
 (a1.values.length-0) 0 ([]:List aO) λs9 =>
 some (⟨s3,s6,r2.aM,r2.aK,s9,r2.next⟩:aF)
def dX(a0:aF)(a1:az):Option aF :=
 thn (dM a0) λr2 =>
 iter (λ(s3:Int×(List ah)) jk qN =>
  cond (decide (s3.1<((s3.2.length:Nat):Int))) (
   cT (a1.nodes.length<=fuel) <|
   cr (λi4 (s4:(List ah)) tL amN =>
    thn (a1.nodes[i4]?) λe5 =>
    thn (nO s4 s3.1) λe6 =>
    cond (decide (e5=e6.id)) (
     thn (a1.host.values[i4]?) λe7 =>
     cT (e7.length<=68719476736) <|
     tL (s4.set s3.1.toNat (⟨e6.id,e6.type,e7⟩:ah))) <|
    tL s4)
   (a1.nodes.length-0) 0 s3.2 λs4 =>
   jk ((i64.wrap (s3.1+1)),s4)) <|
  qN (s3.1,s3.2))
 fuel (0,r2.au) λs3 =>
 some (⟨s3.2,r2.aC,r2.aM,r2.aK,r2.values,r2.next⟩:aF)
def gh(a0:Types)(a1:az)(a2:aF)(a3:aF):Option (az×Int) :=
 thn (bX a0 a1 a2) λr4 =>
 cond (decide (r4.2=0)) (
  thn (eG a2 a3) λr5 =>
  thn (gZ a2 r5) λr6 =>
  thn (dX r6 r4.1) λr7 =>
  cond (decide (40<(i64.wrap ((i64.wrap (((r4.1.nodes.length:Nat):Int)-((r7.au.length:Nat):Int)))+((r7.aM.length:Nat):Int))))) (
   some ((⟨(⟨(⟨([]:List Int),([]:List Edge)⟩:eY),([]:List (List Int))⟩:Host),([]:List Int),([]:List Int),0⟩:az),3)) <|
  cond (decide (80<(i64.wrap ((i64.wrap (((r4.1.ak.length:Nat):Int)-((r7.aC.length:Nat):Int)))+((r7.aK.length:Nat):Int))))) (
   some ((⟨(⟨(⟨([]:List Int),([]:List Edge)⟩:eY),([]:List (List Int))⟩:Host),([]:List Int),([]:List Int),0⟩:az),3)) <|
  thn (bX a0 r4.1 r7) λr8 =>
  some (r8.1,r8.2)) <|
 some ((⟨⟨⟨[],[]⟩,[]⟩,[],[],0⟩:az),r4.2)
def fu(a0:eY)(a1:Int)(a2:Int)(a3:Bool):Option Int :=
 cT (a0.ak.length<=fuel) <|
 cr (λi4 (s4:Int) tL amN =>
  thn (a0.ak[i4]?) λe5 =>
  cond (decide (e5.type=a1)) (
   cond a3 (
    cond (decide (e5.src=a2)) (
     tL (i64.wrap (s4+1))) <|
    tL s4) <|
   cond (decide (e5.dst=a2)) (
    tL (i64.wrap (s4+1))) <|
   tL s4) <|
  tL s4)
 (a0.ak.length-0) 0 0 λs4 =>
 some s4
def gL(a0:Types)(a1:Host):Option ((List cI)×Int) :=
 thn (iS a0 a1) λr2 =>
 cond (decide (r2.2=0)) (
  cT (a0.ak.length<=fuel) <|
  cr (λi3 (s3:(List cI)) jk qN =>
   thn (a0.ak[i3]?) λe4 =>
   cT (2<=fuel) <|
   cr (λi5 (s5:(List cI)) sV zx =>
    cond (decide (((i5:Nat):Int)=1)) (
     cT (a1.graph.nodes.length<=fuel) <|
     cr (λi6 (s6:(List cI)) sS aik =>
      thn (a1.graph.nodes[i6]?) λe7 =>
      thn (iE a0 e7 e4.dst) λr8 =>
      cond r8 (
       thn (fu a1.graph ((i3:Nat):Int) ((i6:Nat):Int) (decide (((i5:Nat):Int)=0))) λr9 =>
       cond (decide (r9<e4.tH)) (
        cT (s6.length+1<=68719476736) <|
        sS (s6++[(⟨((i3:Nat):Int),((i6:Nat):Int),r9,(decide (((i5:Nat):Int)=0))⟩:cI)])) <|
       cond (decide (0<=e4.oh)) (
        cond (decide (e4.oh<r9)) (
         cT (s6.length+1<=68719476736) <|
         sS (s6++[(⟨((i3:Nat):Int),((i6:Nat):Int),r9,(decide (((i5:Nat):Int)=0))⟩:cI)])) <|
        sS s6) <|
       sS s6) <|
      sS s6)
     (a1.graph.nodes.length-0) 0 s5 λs6 =>
     sV s6) <|
    cT (a1.graph.nodes.length<=fuel) <|
    cr (λi10 (s10:(List cI)) u6 aDK =>
     thn (a1.graph.nodes[i10]?) λe11 =>
     thn (iE a0 e11 e4.src) λxX =>
     cond xX (
      thn (fu a1.graph ((i3:Nat):Int) ((i10:Nat):Int) (decide (((i5:Nat):Int)=0))) λyP =>
      cond (decide (yP<e4.nN)) (
       cT (s10.length+1<=68719476736) <|
       u6 (s10++[(⟨((i3:Nat):Int),((i10:Nat):Int),yP,(decide (((i5:Nat):Int)=0))⟩:cI)])) <|
      cond (decide (0<=e4.j5)) (
       cond (decide (e4.j5<yP)) (
        cT (s10.length+1<=68719476736) <|
        u6 (s10++[(⟨((i3:Nat):Int),((i10:Nat):Int),yP,(decide (((i5:Nat):Int)=0))⟩:cI)])) <|
       u6 s10) <|
      u6 s10) <|
     u6 s10)
    (a1.graph.nodes.length-0) 0 s5 λs10 =>
    sV s10)
   (2-0) 0 s3 λs5 =>
   jk s5)
  (a0.ak.length-0) 0 ([]:List cI) λs3 =>
  some (s3,0)) <|
 some (([]:List cI),r2.2)
def dO(a0:Types)(a1:az):Option (List bK) :=
 thn (gL a0 a1.host) λr2 =>
 cT (r2.1.length<=fuel) <|
 cr (λi3 (s3:(List bK)) jk qN =>
  thn (r2.1[i3]?) λe4 =>
  thn (nO a1.nodes e4.node) λe5 =>
  cT (s3.length+1<=68719476736) <|
  jk (s3++[(⟨e5,e4.ia,e4.out⟩:bK)]))
 (r2.1.length-0) 0 ([]:List bK) λs3 =>
 some s3
def gM(a0:List bK)(a1:bK):Option Bool :=
 cT (a0.length<=fuel) <|
 cr (λi2 (s2:Unit) c8 jT =>
  thn (a0[i2]?) λe3 =>
  cond (decide (e3.id=a1.id)&&(decide (e3.ia=a1.ia)&&(e3.out == a1.out))) (
   some true) <|
  c8 ())
 (a0.length-0) 0 () λs2 =>
 some false
def iG(a0:Types)(a1:az)(a2:aF)(a3:aF)(a4:az):Option (List aG) :=
 thn (bX a0 a1 a2) λr5 =>
 thn (dG a1) λr6 =>
 thn (eG a2 a3) λr7 =>
 thn (bX a0 (⟨r6.host,r6.nodes,r6.ak,a2.next.x1⟩:az) r7) λr8 =>
 thn (dO a0 a1) λr9 =>
 thn (dO a0 r5.1) λr10 =>
 cT (r9.length+r10.length<=68719476736) <|
 thn (dO a0 r8.1) λr11 =>
 cT (r9.length+r10.length+r11.length<=68719476736) <|
 thn (dO a0 a4) λxX =>
 cT (a4.nodes.length<=fuel) <|
 cr (λi13 (tM:(List aG)) u5 ap7 =>
  cT (a0.ak.length<=fuel) <|
  cr (λi14 (s14:(List aG)) abx ap5 =>
   cT (xX.length<=fuel) <|
   cr (λi15 (yF:Bool) aby ap6 =>
    cond yF (
     aby true) <|
    thn (xX[i15]?) λe16 =>
    thn (a4.nodes[i13]?) λe17 =>
    cond (decide (e16.id=e17)) (
     cond (decide (e16.ia=((i14:Nat):Int))) (
      thn (gM ((r9++r10)++r11) e16) λr18 =>
      aby (!r18)) <|
     aby false) <|
    aby false)
   (xX.length-0) 0 false λyF =>
   cond yF (
    thn (a4.nodes[i13]?) λe19 =>
    cT (s14.length+1<=68719476736) <|
    abx (s14++[(⟨4,e19,((i14:Nat):Int)⟩:aG)])) <|
   abx s14)
  (a0.ak.length-0) 0 tM λs14 =>
  u5 s14)
 (a4.nodes.length-0) 0 ([]:List aG) λtM =>
 some tM
def gn(a0:Types)(a1:az)(a2:aF)(a3:aF):Option ((List aG)×Int) :=
 thn (gA (⟨a0.nodes,a0.ak⟩:Types) (⟨a1.host,a1.nodes,a1.ak,a1.next⟩:az) a2 a3) λr4 =>
 cond (decide (r4=0)) (
  thn (eM (⟨a1.host,a1.nodes,a1.ak,a1.next⟩:az) (⟨a2.au,a2.aC,a2.aM,a2.aK,a2.values,a2.next⟩:aF) a3) λr5 =>
  cond (decide (0<((r5.length:Nat):Int))) (
   some (r5,0)) <|
  thn (gh a0 a1 a2 a3) λr6 =>
  cond (decide (r6.2=0)) (
   thn (iG a0 a1 a2 a3 r6.1) λr7 =>
   some (r7,0)) <|
  some (([]:List aG),r6.2)) <|
 some (([]:List aG),r4)
def fz(a0:bT):Option (Types×bV×Bool) :=
 cond (decide (5<((a0.nodes.length:Nat):Int))) (
  some ((⟨([]:List gT),([]:List l8)⟩:Types),(⟨(⟨(⟨(⟨([]:List Int),([]:List Edge)⟩:eY),([]:List (List Int))⟩:Host),([]:List Int),([]:List Int),0⟩:az),(⟨([]:List ah),([]:List ax),([]:List ah),([]:List ax),([]:List aO),(⟨0,0⟩:dz)⟩:aF),(⟨([]:List ah),([]:List ax),([]:List ah),([]:List ax),([]:List aO),(⟨0,0⟩:dz)⟩:aF)⟩:bV),false)) <|
 cond (decide (5<((a0.ak.length:Nat):Int))) (
  some ((⟨([]:List gT),([]:List l8)⟩:Types),(⟨(⟨(⟨(⟨([]:List Int),([]:List Edge)⟩:eY),([]:List (List Int))⟩:Host),([]:List Int),([]:List Int),0⟩:az),(⟨([]:List ah),([]:List ax),([]:List ah),([]:List ax),([]:List aO),(⟨0,0⟩:dz)⟩:aF),(⟨([]:List ah),([]:List ax),([]:List ah),([]:List ax),([]:List aO),(⟨0,0⟩:dz)⟩:aF)⟩:bV),false)) <|
 cond (decide (6<((a0.h.nodes.length:Nat):Int))) (
  some ((⟨([]:List gT),([]:List l8)⟩:Types),(⟨(⟨(⟨(⟨([]:List Int),([]:List Edge)⟩:eY),([]:List (List Int))⟩:Host),([]:List Int),([]:List Int),0⟩:az),(⟨([]:List ah),([]:List ax),([]:List ah),([]:List ax),([]:List aO),(⟨0,0⟩:dz)⟩:aF),(⟨([]:List ah),([]:List ax),([]:List ah),([]:List ax),([]:List aO),(⟨0,0⟩:dz)⟩:aF)⟩:bV),false)) <|
 cond (decide (8<((a0.h.ak.length:Nat):Int))) (
  some ((⟨([]:List gT),([]:List l8)⟩:Types),(⟨(⟨(⟨(⟨([]:List Int),([]:List Edge)⟩:eY),([]:List (List Int))⟩:Host),([]:List Int),([]:List Int),0⟩:az),(⟨([]:List ah),([]:List ax),([]:List ah),([]:List ax),([]:List aO),(⟨0,0⟩:dz)⟩:aF),(⟨([]:List ah),([]:List ax),([]:List ah),([]:List ax),([]:List aO),(⟨0,0⟩:dz)⟩:aF)⟩:bV),false)) <|
 cond (decide (6<((a0.first.length:Nat):Int))) (
  some ((⟨([]:List gT),([]:List l8)⟩:Types),(⟨(⟨(⟨(⟨([]:List Int),([]:List Edge)⟩:eY),([]:List (List Int))⟩:Host),([]:List Int),([]:List Int),0⟩:az),(⟨([]:List ah),([]:List ax),([]:List ah),([]:List ax),([]:List aO),(⟨0,0⟩:dz)⟩:aF),(⟨([]:List ah),([]:List ax),([]:List ah),([]:List ax),([]:List aO),(⟨0,0⟩:dz)⟩:aF)⟩:bV),false)) <|
 cond (decide (6<((a0.p.length:Nat):Int))) (
  some ((⟨([]:List gT),([]:List l8)⟩:Types),(⟨(⟨(⟨(⟨([]:List Int),([]:List Edge)⟩:eY),([]:List (List Int))⟩:Host),([]:List Int),([]:List Int),0⟩:az),(⟨([]:List ah),([]:List ax),([]:List ah),([]:List ax),([]:List aO),(⟨0,0⟩:dz)⟩:aF),(⟨([]:List ah),([]:List ax),([]:List ah),([]:List ax),([]:List aO),(⟨0,0⟩:dz)⟩:aF)⟩:bV),false)) <|
 cond (decide (6<((a0.q.length:Nat):Int))) (
  some ((⟨([]:List gT),([]:List l8)⟩:Types),(⟨(⟨(⟨(⟨([]:List Int),([]:List Edge)⟩:eY),([]:List (List Int))⟩:Host),([]:List Int),([]:List Int),0⟩:az),(⟨([]:List ah),([]:List ax),([]:List ah),([]:List ax),([]:List aO),(⟨0,0⟩:dz)⟩:aF),(⟨([]:List ah),([]:List ax),([]:List ah),([]:List ax),([]:List aO),(⟨0,0⟩:dz)⟩:aF)⟩:bV),false)) <|
 thn (jf a0.nodes a0.ak) λr1 =>
 thn (gW r1 a0.h) λr2 =>
 thn (js r1 r2) λr3 =>
 thn (eF r1 r3.1 a0.first) λr4 =>
 thn (eF r1 r4 a0.p) λr5 =>
 thn (gY r1 r4 r5) λr6 =>
 thn (eF r1 r4 a0.q) λr7 =>
 thn (gY r1 r4 r7) λr8 =>
 thn (gn r1 r4 r6.1 r8.1) λr9 =>
 cond (decide (r6.2=0)) (
  cond (decide (r8.2=0)) (
   some (r1,(⟨r4,r6.1,r8.1⟩:bV),(decide (r9.2=0)))) <|
  some (r1,(⟨r4,r6.1,r8.1⟩:bV),false)) <|
 some (r1,(⟨r4,r6.1,r8.1⟩:bV),false)
def ij  : Option Types:=some (⟨[(⟨⟨#[65,99,99,111,117,110,116]⟩,(-1),true,[(⟨⟨#[98,97,108,97,110,99,101]⟩,(-1000),1000,[]⟩:Attr)]⟩:gT),(⟨⟨#[67,97,115,104]⟩,0,false,[]⟩:gT),(⟨⟨#[76,111,97,110]⟩,0,false,[(⟨⟨#[115,116,97,116,101]⟩,0,1,[(⟨#[111,112,101,110]⟩:ByteArray),(⟨#[99,108,111,115,101,100]⟩:ByteArray)]⟩:Attr)]⟩:gT),(⟨⟨#[80,101,114,115,111,110]⟩,(-1),false,[]⟩:gT)],[(⟨⟨#[111,119,110,115]⟩,3,0,0,(-1),1,1⟩:l8),(⟨⟨#[112,97,121,115]⟩,1,1,0,(-1),0,(-1)⟩:l8)]⟩:Types)
def hU  : Option az:=some (⟨⟨⟨[3,1,1],[(⟨0,0,1⟩:Edge),(⟨0,0,2⟩:Edge)]⟩,[([]:List Int),[10],[5]]⟩,[0,1,2],[3,4],5⟩:az)
def ff(a0:Types)(a1:az)(a2:aF):Option (az×Int) :=
 thn (jZ (⟨a0.nodes,a0.ak⟩:Types) (⟨a1.host,a1.nodes,a1.ak,a1.next⟩:az)) λr3 =>
 cond (decide (r3=0)) (
  thn (kA (⟨a0.nodes,a0.ak⟩:Types) (⟨a1.host,a1.nodes,a1.ak,a1.next⟩:az) a2) λr4 =>
  some (r4.1,r4.2)) <|
 some ((⟨⟨⟨[],[]⟩,[]⟩,[],[],0⟩:az),r3)
def fZ(a0:List ah)(p1:ah->Option Bool):Option Int :=
 cT (a0.length<=fuel) <|
 cr (λi2 (s2:Unit) c8 jT =>
  thn (a0[i2]?) λe3 =>
  thn (p1 e3) λr4 =>
  cond r4 (
   some ((i2:Nat):Int)) <|
  c8 ())
 (a0.length-0) 0 () λs2 =>
 some (-1)
def dY(a0:List ah)(p1:ah->Option Bool):Option Bool :=
 thn (fZ a0 p1) λr2 =>
 some (decide (0<=r2))
def nA(a0:ah)(a1:aF):Option Bool:=some (decide (a0.id<a1.next.x0))
def ga(a0:List ax)(p1:ax->Option Bool):Option Int :=
 cT (a0.length<=fuel) <|
 cr (λi2 (s2:Unit) c8 jT =>
  thn (a0[i2]?) λe3 =>
  thn (p1 e3) λr4 =>
  cond r4 (
   some ((i2:Nat):Int)) <|
  c8 ())
 (a0.length-0) 0 () λs2 =>
 some (-1)
def eW(a0:List ax)(p1:ax->Option Bool):Option Bool :=
 thn (ga a0 p1) λr2 =>
 some (decide (0<=r2))
def nB(a0:ax)(a1:aF):Option Bool:=some (decide (a0.id<a1.next.x0))
def nH(a0:aF):Option Bool :=
 cond (decide (a0.next.x0<=a0.next.x1)) (
  thn (dY a0.aM (λx1=>nA x1 (⟨a0.au,a0.aC,a0.aM,a0.aK,a0.values,a0.next⟩:aF))) λr2 =>
  cond r2 (
   some false) <|
  thn (eW a0.aK (λx3=>nB x3 (⟨a0.au,a0.aC,a0.aM,a0.aK,a0.values,a0.next⟩:aF))) λr4 =>
  some (!r4)) <|
 some false
def kg(a0:Types)(a1:az)(a2:aF)(a3:aF):Option Int :=
 thn (some [a2,a3]) λl4 =>
 cT (2<=fuel) <|
 cr (λi5 (s5:Unit) sV zx =>
  thn (l4[i5]?) λe6 =>
  thn (ff (⟨a0.nodes,a0.ak⟩:Types) (⟨a1.host,a1.nodes,a1.ak,a1.next⟩:az) e6) λr7 =>
  cond (decide (r7.2=0)) (
   sV ()) <|
  some r7.2)
 (2-0) 0 () λs5 =>
 thn (nH a2) λr8 =>
 cond r8 (
  thn (nH a3) λr9 =>
  cond r9 (
   cond (decide (1000000<(i64.wrap ((i64.wrap (a2.next.x1+a3.next.x1))-a3.next.x0)))) (
    some 6) <|
   some 0) <|
  some 8) <|
 some 8
def lB(a0:ah)(a1:Int):Option Bool:=some (decide (a0.id=a1))
def iI(a0:aF)(a1:Int):Option Bool :=
 thn (dY a0.au (λx2=>lB x2 a1)) λr3 =>
 some r3
def iq(a0:List (List aG)):Option (List aG) :=
 cT (a0.length<=fuel) <|
 cr (λi1 (s1:Int) mU xh =>
  thn (a0[i1]?) λe2 =>
  cond (decide ((i64.wrap (s1+((e2.length:Nat):Int)))<0)) (
   none) <|
  mU (i64.wrap (s1+((e2.length:Nat):Int))))
 (a0.length-0) 0 0 λs1 =>
 thn (mj ([]:List aG) s1) λr3 =>
 cT (a0.length<=fuel) <|
 cr (λi4 (s4:(List aG)) tL amN =>
  thn (a0[i4]?) λe5 =>
  cT (s4.length+e5.length<=68719476736) <|
  tL (s4++e5))
 (a0.length-0) 0 r3 λs4 =>
 some s4
def iN(a0:aF)(a1:aF):Option (List aG) :=
 thn (some [(⟨a0,a1⟩:ng),(⟨a1,a0⟩:ng)]) λl2 =>
 cT (2<=fuel) <|
 cr (λi3 (s3:(List aG)×(List aG)) jk qN =>
  thn (l2[i3]?) λe4 =>
  cT (e4.x1.aK.length<=fuel) <|
  cr (λi5 (s5:(List aG)) sV zx =>
   thn (e4.x1.aK[i5]?) λe6 =>
   thn (some [e6.src,e6.dst]) λl7 =>
   cT (2<=fuel) <|
   cr (λi8 (s8:(List aG)) uZ acB =>
    thn (l7[i8]?) λe9 =>
    thn (iI e4.x0 e9) λr10 =>
    cond r10 (
     cT (s8.length+1<=68719476736) <|
     uZ (s8++[(⟨1,e9,(-1)⟩:aG)])) <|
    uZ s8)
   (2-0) 0 s5 λs8 =>
   sV s8)
  (e4.x1.aK.length-0) 0 s3.1 λs5 =>
  cT (e4.x1.values.length<=fuel) <|
  cr (λi11 (s11:(List aG)) aj4 aDJ =>
   thn (e4.x1.values[i11]?) λyE =>
   thn (iI e4.x0 yE.id) λyP =>
   cond yP (
    cT (s11.length+1<=68719476736) <|
    aj4 (s11++[(⟨2,yE.id,yE.attr⟩:aG)])) <|
   aj4 s11)
  (e4.x1.values.length-0) 0 s3.2 λs11 =>
  jk (s5,s11))
 (2-0) 0 (([]:List aG),([]:List aG)) λs3 =>
 cT (a0.values.length<=fuel) <|
 cr (λi14 (s14:(List aG)) abx ap5 =>
  thn (a0.values[i14]?) λe15 =>
  cT (a1.values.length<=fuel) <|
  cr (λi16 (s16:(List aG)) aj5 aI9 =>
   thn (a1.values[i16]?) λe17 =>
   cond (decide (e15.id=e17.id)) (
    cond (decide (e15.attr=e17.attr)) (
     cond (decide (e15.new=e17.new)) (
      aj5 s16) <|
     cT (s16.length+1<=68719476736) <|
     aj5 (s16++[(⟨3,e15.id,e15.attr⟩:aG)])) <|
    aj5 s16) <|
   aj5 s16)
  (a1.values.length-0) 0 s14 λs16 =>
  abx s16)
 (a0.values.length-0) 0 ([]:List aG) λs14 =>
 thn (fe s3.1) λr18 =>
 thn (fe s3.2) λr19 =>
 thn (fe s14) λr20 =>
 thn (iq [r18,r19,r20]) λr21 =>
 some r21
def iz(a0:Int)(a1:aF)(a2:Int):Option Int :=
 cond (decide (a1.next.x0<=a0)) (
  some (i64.wrap (a0+a2))) <|
 some a0
def kT(a0:aF)(a1:aF):Option aF :=
 cT (a1.aM.length<=fuel) <|
 cr (λi2 (s2:(List ah)) c8 jT =>
  thn (a1.aM[i2]?) λe3 =>
  thn (iz e3.id a1 (i64.wrap (a0.next.x1-a0.next.x0))) λr4 =>
  cT (s2.length+1<=68719476736) <|
  c8 (s2++[(⟨r4,e3.type,e3.values⟩:ah)]))
 (a1.aM.length-0) 0 ([]:List ah) λs2 =>
 cT (a1.aK.length<=fuel) <|
 cr (λi5 (s5:(List ax)) sV zx =>
  thn (a1.aK[i5]?) λe6 =>
  thn (iz e6.id a1 (i64.wrap (a0.next.x1-a0.next.x0))) λr7 =>
  thn (iz e6.src a1 (i64.wrap (a0.next.x1-a0.next.x0))) λr8 =>
  thn (iz e6.dst a1 (i64.wrap (a0.next.x1-a0.next.x0))) λr9 =>
  cT (s5.length+1<=68719476736) <|
  sV (s5++[(⟨r7,e6.type,r8,r9⟩:ax)]))
 (a1.aK.length-0) 0 ([]:List ax) λs5 =>
 some (⟨a1.au,a1.aC,s2,s5,a1.values,⟨a0.next.x1,(i64.wrap ((i64.wrap (a0.next.x1+a1.next.x1))-a1.next.x0))⟩⟩:aF)
def mq(a0:Types)(a1:az)(a2:aF)(a3:aF):Option (az×az×Int) :=
 thn (ff a0 a1 a2) λr4 =>
 cond (decide (r4.2=0)) (
  thn (kT a2 a3) λr5 =>
  thn (tf a2 r5) λr6 =>
  cond (decide (40<(i64.wrap ((i64.wrap (((r4.1.nodes.length:Nat):Int)+((r6.aM.length:Nat):Int)))-((r6.au.length:Nat):Int))))) (
   some ((⟨(⟨(⟨([]:List Int),([]:List Edge)⟩:eY),([]:List (List Int))⟩:Host),([]:List Int),([]:List Int),0⟩:az),(⟨(⟨(⟨([]:List Int),([]:List Edge)⟩:eY),([]:List (List Int))⟩:Host),([]:List Int),([]:List Int),0⟩:az),3)) <|
  cond (decide (80<(i64.wrap ((i64.wrap (((r4.1.ak.length:Nat):Int)+((r6.aK.length:Nat):Int)))-((r6.aC.length:Nat):Int))))) (
   some ((⟨(⟨(⟨([]:List Int),([]:List Edge)⟩:eY),([]:List (List Int))⟩:Host),([]:List Int),([]:List Int),0⟩:az),(⟨(⟨(⟨([]:List Int),([]:List Edge)⟩:eY),([]:List (List Int))⟩:Host),([]:List Int),([]:List Int),0⟩:az),3)) <|
  thn (ff a0 r4.1 r6) λr7 =>
  some (r4.1,r7.1,r7.2)) <|
 some ((⟨⟨⟨[],[]⟩,[]⟩,[],[],0⟩:az),(⟨⟨⟨[],[]⟩,[]⟩,[],[],0⟩:az),r4.2)
def pR(a0:Types)(a1:az)(a2:aF)(a3:aF):Option (az×Int) :=
 thn (kT a2 a3) λr4 =>
 thn (ff a0 a1 (⟨r4.au,r4.aC,r4.aM,r4.aK,r4.values,⟨a1.next,r4.next.x1⟩⟩:aF)) λr5 =>
 some (r5.1,r5.2)
def qP(a0:Types)(a1:Host):Option Int :=
 thn (tW a0 a1) λr2 =>
 some r2.2
def u7(a0:Types)(a1:Int)(a2:Int):Option Bool :=
 thn (wq a0 [a1,a2]) λr3 =>
 cond (decide (r3=0)) (
  thn (abw a0 a1 a2) λr4 =>
  some r4) <|
 some false
def kU(a0:Types)(a1:Host)(a2:Int)(a3:Bool)(a4:Int)(a5:Int)(a6:Int):Option (List cI) :=
 cT (a1.graph.nodes.length<=fuel) <|
 cr (λi7 (s7:(List cI)) acF aCJ =>
  thn (a1.graph.nodes[i7]?) λe8 =>
  thn (u7 a0 e8 a4) λr9 =>
  cond r9 (
   cT (a1.graph.ak.length<=fuel) <|
   cr (λi10 (s10:Int) u6 aDK =>
    thn (a1.graph.ak[i10]?) λe11 =>
    cond (decide (e11.type=a2)) (
     cond a3 (
      cond (decide (e11.src=((i7:Nat):Int))) (
       u6 (i64.wrap (s10+1))) <|
      u6 s10) <|
     cond (decide (e11.dst=((i7:Nat):Int))) (
      u6 (i64.wrap (s10+1))) <|
     u6 s10) <|
    u6 s10)
   (a1.graph.ak.length-0) 0 0 λs10 =>
   cond (decide (s10<a5)) (
    cT (s7.length+1<=68719476736) <|
    acF (s7++[(⟨a2,((i7:Nat):Int),s10,a3⟩:cI)])) <|
   cond (decide (0<=a6)) (
    cond (decide (a6<s10)) (
     cT (s7.length+1<=68719476736) <|
     acF (s7++[(⟨a2,((i7:Nat):Int),s10,a3⟩:cI)])) <|
    acF s7) <|
   acF s7) <|
  acF s7)
 (a1.graph.nodes.length-0) 0 ([]:List cI) λs7 =>
 some s7
def nC(a0:Types)(a1:Host):Option ((List cI)×Int) :=
 thn (qP a0 a1) λr2 =>
 cond (decide (r2=0)) (
  cT (a0.ak.length<=fuel) <|
  cr (λi3 (s3:(List cI)) jk qN =>
   thn (a0.ak[i3]?) λe4 =>
   thn (kU a0 a1 ((i3:Nat):Int) true e4.src e4.nN e4.j5) λr5 =>
   cT (s3.length+r5.length<=68719476736) <|
   thn (kU a0 a1 ((i3:Nat):Int) false e4.dst e4.tH e4.oh) λr6 =>
   cT (s3.length+r5.length+r6.length<=68719476736) <|
   jk ((s3++r5)++r6))
  (a0.ak.length-0) 0 ([]:List cI) λs3 =>
  some (s3,0)) <|
 some (([]:List cI),r2)
def iV(a0:Types)(a1:az):Option (List bn) :=
 thn (nC a0 a1.host) λr2 =>
 cT (r2.1.length<=fuel) <|
 cr (λi3 (s3:(List bn)) jk qN =>
  thn (r2.1[i3]?) λe4 =>
  thn (nO a1.nodes e4.node) λe5 =>
  cT (s3.length+1<=68719476736) <|
  jk (s3++[(⟨e5,e4.ia,e4.out⟩:bn)]))
 (r2.1.length-0) 0 ([]:List bn) λs3 =>
 some s3
def gb(a0:List (List bn)):Option (List bn) :=
 cT (a0.length<=fuel) <|
 cr (λi1 (s1:Int) mU xh =>
  thn (a0[i1]?) λe2 =>
  cond (decide ((i64.wrap (s1+((e2.length:Nat):Int)))<0)) (
   none) <|
  mU (i64.wrap (s1+((e2.length:Nat):Int))))
 (a0.length-0) 0 0 λs1 =>
 thn (kE ([]:List bn) s1) λr3 =>
 cT (a0.length<=fuel) <|
 cr (λi4 (s4:(List bn)) tL amN =>
  thn (a0[i4]?) λe5 =>
  cT (s4.length+e5.length<=68719476736) <|
  tL (s4++e5))
 (a0.length-0) 0 r3 λs4 =>
 some s4
def gr(a0:List bn)(a1:bn):Option Int :=
 cT (a0.length<=fuel) <|
 cr (λi2 (s2:Unit) c8 jT =>
  thn (a0[i2]?) λe3 =>
  cond (decide (a1.id=e3.id)&&(decide (a1.ia=e3.ia)&&(a1.out == e3.out))) (
   some ((i2:Nat):Int)) <|
  c8 ())
 (a0.length-0) 0 () λs2 =>
 some (-1)
def fA(a0:List bn)(a1:bn):Option Bool :=
 thn (gr a0 a1) λr2 =>
 some (decide (0<=r2))
def mu(a0:Types)(a1:az)(a2:aF)(a3:aF)(a4:az)(a5:az):Option ((List aG)×Int) :=
 thn (pR a0 a1 a2 a3) λr6 =>
 cond (decide (r6.2=0)) (
  thn (iV a0 a1) λr7 =>
  thn (iV a0 a4) λr8 =>
  thn (iV a0 r6.1) λr9 =>
  thn (gb [r7,r8,r9]) λr10 =>
  thn (iV a0 a5) λr11 =>
  cT (r11.length<=fuel) <|
  cr (λi12 (s12:(List aG)) azf aJa =>
   thn (r11[i12]?) λe13 =>
   thn (fA r10 e13) λr14 =>
   cond r14 (
    azf s12) <|
   cT (s12.length+1<=68719476736) <|
   azf (s12++[(⟨4,e13.id,e13.ia⟩:aG)]))
  (r11.length-0) 0 ([]:List aG) λs12 =>
  thn (fe s12) λr15 =>
  some (r15,0)) <|
 some (([]:List aG),r6.2)
def gx(a0:Types)(a1:az)(a2:aF)(a3:aF):Option ((List aG)×Int) :=
 thn (kg (⟨a0.nodes,a0.ak⟩:Types) (⟨a1.host,a1.nodes,a1.ak,a1.next⟩:az) a2 a3) λr4 =>
 cond (decide (r4=0)) (
  thn (iN a2 a3) λr5 =>
  cond (decide (0<((r5.length:Nat):Int))) (
   some (r5,0)) <|
  thn (mq a0 a1 a2 a3) λr6 =>
  cond (decide (r6.2.2=0)) (
   thn (mu a0 a1 a2 a3 r6.1 r6.2.1) λr7 =>
   some (r7.1,r7.2)) <|
  some (([]:List aG),r6.2.2)) <|
 some (([]:List aG),r4)
def j7(a0:Types)(a1:az)(a2:aF)(a3:aF):Option (az×Int) :=
 thn (mq a0 a1 a2 a3) λr4 =>
 cond (decide (r4.2.2=0)) (
  thn (mu a0 a1 a2 a3 r4.1 r4.2.1) λr5 =>
  cond (decide (r5.2=0)) (
   cond (decide (0<((r5.1.length:Nat):Int))) (
    some ((⟨(⟨(⟨([]:List Int),([]:List Edge)⟩:eY),([]:List (List Int))⟩:Host),([]:List Int),([]:List Int),0⟩:az),11)) <|
   some (r4.2.1,0)) <|
  some ((⟨(⟨(⟨([]:List Int),([]:List Edge)⟩:eY),([]:List (List Int))⟩:Host),([]:List Int),([]:List Int),0⟩:az),r5.2)) <|
 some ((⟨⟨⟨[],[]⟩,[]⟩,[],[],0⟩:az),r4.2.2)
def lG(a0:Types)(a1:az)(a2:aF)(a3:aF):Option (az×Int) :=
 thn (kg a0 a1 a2 a3) λr4 =>
 cond (decide (r4=0)) (
  thn (iN a2 a3) λr5 =>
  cond (decide (0<((r5.length:Nat):Int))) (
   some ((⟨(⟨(⟨([]:List Int),([]:List Edge)⟩:eY),([]:List (List Int))⟩:Host),([]:List Int),([]:List Int),0⟩:az),11)) <|
  thn (j7 a0 a1 a2 a3) λr6 =>
  some (r6.1,r6.2)) <|
 some ((⟨⟨⟨[],[]⟩,[]⟩,[],[],0⟩:az),r4)
def iH(a0:List aG)(a1:List aG):Option Bool :=
 cond (decide (((a0.length:Nat):Int)=((a1.length:Nat):Int))) (
  cT (a0.length<=fuel) <|
  cr (λi2 (s2:Unit) c8 jT =>
   thn (a0[i2]?) λe3 =>
   thn (a1[i2]?) λe4 =>
   cond (decide (e3.kind=e4.kind)&&(decide (e3.id=e4.id)&&decide (e3.attr=e4.attr))) (
    c8 ()) <|
   some false)
  (a0.length-0) 0 () λs2 =>
  some true) <|
 some false
def gO(a0:List Int)(a1:List Int):Option Bool :=
 cond (decide (((a0.length:Nat):Int)=((a1.length:Nat):Int))) (
  cT (a0.length<=fuel) <|
  cr (λi2 (s2:Unit) c8 jT =>
   thn (a0[i2]?) λe3 =>
   thn (a1[i2]?) λe4 =>
   cond (decide (e3=e4)) (
    c8 ()) <|
   some false)
  (a0.length-0) 0 () λs2 =>
  some true) <|
 some false
def fB  : Option Bool :=
 thn (ij) λr1 =>
 thn (hU) λr2 =>
 thn (gx r1 r2 (⟨[(⟨1,1,[10]⟩:ah)],[(⟨3,0,0,1⟩:ax)],[],[],[],⟨5,5⟩⟩:aF) (⟨[],[],[],[(⟨5,1,1,2⟩:ax)],[],⟨5,6⟩⟩:aF)) λr3 =>
 thn (hU) λr4 =>
 thn (lG r1 r4 (⟨[(⟨1,1,[10]⟩:ah)],[(⟨3,0,0,1⟩:ax)],[],[],[],⟨5,5⟩⟩:aF) (⟨[],[],[],[],[(⟨2,0,5,7⟩:aO)],⟨5,5⟩⟩:aF)) λr5 =>
 cond (decide (r3.2=0)) (
  thn (iH r3.1 [(⟨1,1,(-1)⟩:aG)]) λr6 =>
  cond r6 (
   cond (decide (r5.2=0)) (
    thn (gO r5.1.nodes [0,2]) λr7 =>
    cond r7 (
     cond (decide (((r5.1.host.values.length:Nat):Int)=2)) (
      thn (r5.1.host.values[1]?) λe8 =>
      thn (gO e8 [7]) λr9 =>
      some r9) <|
     some false) <|
    some false) <|
   some false) <|
  some false) <|
 some false
def fC(a0:az)(a1:List aO):Option Bool :=
 cT (a1.length<=fuel) <|
 cr (λi2 (s2:Unit) c8 jT =>
  thn (a1[i2]?) λe3 =>
  thn (fQ a0.nodes e3.id) λr4 =>
  cond (decide (r4<0)) (
   some false) <|
  thn (nO a0.host.values r4) λe5 =>
  cond (decide (((e5.length:Nat):Int)<=e3.attr)) (
   some false) <|
  thn (nO e5 e3.attr) λe6 =>
  cond (decide (e6=e3.new)) (
   c8 ()) <|
  some false)
 (a1.length-0) 0 () λs2 =>
 some true
end
end Go.Proofs.YtjhkgjlmiolfoaaGreat
namespace Go.cv
open Go.RowKit
variable{P:Program}
structure aq9(w w':World)(bI:Value)(n:Nat)(vs:List Value):Prop where
 grown:w.grownBy w' bI.ownBlock
 row:∀g,bI.ownBlock=some g->∀cur e,w.heap[g]? = some (.cells cur e (0,0))->n<=cur.size->∃cur',w'.heap[g]? = some (.cells cur' e (0,0))/\cur'.size=cur.size/\cur'.toList.take n=vs
theorem auL{f:FuncId}{v:Nat}{e:TypeId}{sz:Nat}{es es':List (List PV)}{ps:List PV}{ws:List Value}(hc:gF P f=true)(hlen:es'.length=es.length)(hsz:∀x∈es',x.length=sz)
  (hfl:es'.flatten=ws.map PV.val) (hone:∀u∈ws,u.oneCell'=true)
  (h:∀ (B:Nat) (I:Mem) (w:World) (bI:Value) (us vs:List Value),B<=w.heap.size->I.inW w->sE w B I bI e sz es us->bI.oneCell'=true->VRs I vs ps ->
   Calls P f (bI :: vs).toArray w λx w'=>x = .returned (.tuple #[])/\aq9 w w' bI (es.length * sz) ws) :
  kJ P f v e sz es ps (λa c=>a = .dW []/\c=some (.row v e sz es')):=by
 refine⟨hc,λB I w bI us vs hB hI hr h1 hv=>(h B I w bI us vs hB hI hr h1 hv).mono ?_⟩;rintro x w' ⟨rfl,hg,hrow⟩;let L:bA:=λi=>if i=1000000 then some (.row v bI sz) else none
 have hL:∀i l,L i=some l->i=1000000/\l = .row v bI sz:=λi l h=>by
  simp only[L] at h;split at h
  ·rename_i hi;exact⟨hi,by simpa using h.symm⟩
  ·cases h
 have hwl:ws.length=es.length * sz:=by have h2:=bH hsz;rw[hfl,length_map,hlen] at h2;exact h2
 have hblk:∀b,bI.ownBlock=some b->B<=b/\b<w.heap.size:=λb hb=>wg hr.own hb
 refine⟨.tuple #[],.dW [],bh cq 1000000 (.row v e sz es'),I,L,rfl,⟨rfl,by simp[bh]⟩,.dW [] [] rfl (by simp),?_⟩;exact
 {below:=⟨hg.os,hg.tape,hg.output,hg.size,λk hk=>hg.block k (Nat.lt_of_lt_of_le hk hB) λhb=>by have:=(hblk k hb.symm).1;have:k<B:=hk;omega⟩
  mem:=hI.keep λb ⟨o,u,hu⟩=>hg.block b (hI.lt hu) λhb=>by rw[hr.free b hb.symm o] at hu;cases hu
  kX:=Mem.en I
  lY:=λ_ _ _ _=>rfl
  frame:=λb hb hn=>hg.block b hb λhb'=>hn hb'.symm
  loc:=dQ.refl _
  jA:=λid l b hl hb=>by obtain⟨_,rfl⟩:=hL id l hl;exact .inr hb
  size:=rfl
  env:=λt=>.dead _
  dom:=λi l hl=>by obtain⟨rfl,rfl⟩:=hL i l hl;exact⟨.row v e sz es',by simp[bh]⟩
  chunk:=λi ch hch=>by
   by_cases hi:i=1000000
   ·subst hi;have:Chunk.row v e sz es'=ch:=by simpa[bh] using hch
    subst this;refine⟨bI,ws,by simp[L],⟨by rw[hlen];exact hwl,?_⟩,hr.pos,hsz,λj u c hu hc=>?_,hone,hr.free⟩
    ·rcases hr.own.2 with ⟨e1,e2⟩|⟨g,cap,cur,rfl,g1,g2,g3,g4,g5,g6⟩
     ·exact .inl ⟨e1,by rw[hlen];exact e2⟩
     ·obtain⟨cur',k1,k2,k3⟩:=hrow g rfl cur e g2 (by rw[g5];exact Nat.mul_le_mul_right sz g3);exact .inr ⟨g,cap,cur',by rw[hlen],g1,k1,by rw[hlen];exact g3,g4,by rw[k2];exact g5,by rw[hlen];exact k3⟩
    ·rw[hfl] at hc;simp only[getElem?_map,hu,Option.map_some,cA] at hc;subst hc;exact .val u (hone u (mem_of_getElem? hu))
   ·have:cq i=some ch:=by simpa[bh,hi] using hch
    cases this
  fM:=λi l b hl hb=>by obtain⟨rfl,rfl⟩:=hL i l hl;have:=hblk b hb;exact⟨this.1,Nat.lt_of_lt_of_le this.2 hg.size⟩
  apart:=λi j li lj b hi hj _ _=>by rw[(hL i li hi).1,(hL j lj hj).1] }
end Go.cv
namespace Go.SortM
open Go.cv hiding flatK
open Go.RowKit Go.Shelf Go.Sort Go.Proofs
variable{P:Program}{ρ:Ren}{α:Type} [Inhabited α]
def encV(enc:α->List Value)(x:α):List PV:=(enc x).map .val
omit [Inhabited α] in
theorem flat_encV(enc:α->List Value)(d:List α):(d.map (encV enc)).flatten=(d.flatMap enc).map .val:=by
 induction d with
 |nil=>rfl
 |cons x r ih=>rw[map_cons,flatten_cons,ih,flatMap_cons,map_append];rfl
omit [Inhabited α] in
theorem flatMap_eq(enc:α->List Value)(d:List α):d.flatMap enc=(d.map enc).flatten:=by rw[flatMap_def]
theorem flatK_list{enc:α->List Value}{k:Nat}(hk:∀x,(enc x).length=k)(h0:0<k)(d:List α):flatK enc k d.toArray=(d.flatMap enc).toArray:=by
 have hall:∀e∈d.map enc,e.length=k:=λe he=>by obtain⟨x,_,rfl⟩:=mem_map.1 he;exact hk x
 have hlen:(d.flatMap enc).length=d.length * k:=by rw[flatMap_eq,bH hall,length_map]
 apply Array.ext
 ·simp[hlen]
 ·intro t h1 h2;have ht:t<d.length * k:=by simpa using h1
  have hd:t / k<d.length:=(Nat.div_lt_iff_lt_mul h0).2 ht;have hm:t % k<k:=Nat.mod_lt _ h0;have e1:(flatK enc k d.toArray)[t]=(flatK enc k d.toArray)[t]!:=(getElem!_pos _ t h1).symm;rw[e1,get_flatK enc k d.toArray t (by simpa using ht)];have e2:=iu hall (t / k) (t % k) (by simpa using hd) hm;rw[Nat.div_add_mod' t k,<-flatMap_eq] at e2;have e3:(d.map enc).getD (t / k) []=enc d[t / k]:=by simp[hd]
  rw[e3] at e2;have e4:d.toArray[t / k]! = d[t / k]:=by simp[hd]
  rw[e4];have hl:t % k<(enc d[t / k]).length:=by rw[hk];exact hm
  have h2':t<(d.flatMap enc).length:=by simpa using h2
  rw[getElem?_eq_getElem h2',getElem?_eq_getElem hl] at e2;have e5:=Option.some.inj e2;rw[getElem!_pos (enc d[t / k]) (t % k) hl];simpa using e5.symm
theorem grown_sortWorldK(enc:α->List Value)(k:Nat)(w:World)(g n:Nat)(d:Array α)(os:Array Obj):w.grownBy (sortWorldK enc k w g 0 n d os) (some g) where
 os:=rfl
 tape:=rfl
 output:=rfl
 size:=by simp[sortWorldK,grow,putRowK,putRow,mapBlock,Sort.ahead]
 block:=λb hb hn=>by
  have:g≠b:=λh=>hn (by rw[h])
  simp[sortWorldK,grow,putRowK,putRow,mapBlock,Sort.ahead,Array.getElem?_append,hb,Array.getElem?_modify,this];rw[Array.getElem_modify,if_neg this]
theorem row_sortWorldK(enc:α->List Value)(k:Nat)(w:World)(g n m:Nat)(d:Array α)(os:Array Obj){cur:Array Value}{e:TypeId}(hg:w.heap[g]? = some (.cells cur e (0,0)))(hm:d.size * k=m)(hle:m<=cur.size) :
  ∃cur',(sortWorldK enc k w g 0 n d os).heap[g]? = some (.cells cur' e (0,0))/\cur'.size=cur.size/\cur'.toList.take m=(flatK enc k d).toList:=by
 have hlt:g<w.heap.size:=(Array.getElem?_eq_some_iff.1 hg).1;refine⟨putCells id 0 (flatK enc k d) cur,?_,by simp[putCells],?_⟩
 ·simp[sortWorldK,grow,putRowK,putRow,mapBlock,Sort.ahead,Array.getElem?_append,hlt,Array.getElem?_modify,hg,onCells];rw[Array.getElem_modify,if_pos rfl,(Array.getElem?_eq_some_iff.1 hg).2];rfl
 ·apply ext_getElem
  ·simp[putCells,hm];omega
  ·intro t h1 h2;have ht:t<d.size * k:=by simpa using h2
   have htc:t<cur.size:=by omega
   have hf:t<(flatK enc k d).size:=by simpa using ht
   simp[putCells,ht]
theorem callM_sortFunc(L:SlLaysF0.n6 P ρ)(k:Nat)(h0:0<k)(aE:∀w,(isAgg (ρ.t 24)).run P w = .ok true w)(zE:∀w,(Go.sizeOf (ρ.t 24)).run P w = .ok k w)(enc:α->List Value)(hk:∀x,(enc x).length=k)(h1:∀x,∀v∈enc x,v.oneCell'=true)
  (cf:α->α->Int) (hO:SWO (ltOf cf)) (hT:∀x y,(ltOf cf) x y=false->(ltOf cf) y x=false->x=y) (g:FuncId) (eg:∀args w,(callFunc g args).run P w = .ok (.enter g args) w)
  (hcmp:∀x y W,Calls P g #[.agg (enc x).toArray,.agg (enc y).toArray] W λe w'=>e = .returned (.int .i64 (cf x y))/\∃q os',w'=grow (W.drewN q) os')
  (hc:gF P (ρ.f 6)=true) (d:List α) (hd:d.length<4611686018427387904) (v:Nat) (e:TypeId) :
  kJ P (ρ.f 6) v e k (d.map (encV enc)) [.iK (.func g) [] []] (λa c=>a = .dW []/\c=some (.row v e k ((d.mergeSort λx y=>!(ltOf cf) y x).map (encV enc)))):=by
 have hlen:(d.mergeSort λx y=>!(ltOf cf) y x).length=d.length:=length_mergeSort _;refine auL (ws:=(d.mergeSort λx y=>!(ltOf cf) y x).flatMap enc) hc (by simp[hlen]) (λx hx=>?_) (flat_encV enc _) (λu hu=>?_) ?_
 ·obtain⟨y,_,rfl⟩:=mem_map.1 hx;simp[encV,hk]
 ·obtain⟨y,_,hy⟩:=mem_flatMap.1 hu;exact h1 y u hy
 intro B I w bI us vs hB hI hr hone hv;have hvs:vs=[.func (.func g) #[] #[]]:=by
  match vs,hv with
  | [],hv=>have:=hv.1;simp at this
  | [x],hv =>
   have:=hv.2 0 x _ rfl rfl;cases this with
   |iK _ us vs _ _ hl hl' _ _=>have e1:us=[]:=length_eq_zero_iff.1 (by simpa using hl);have e2:vs=[]:=length_eq_zero_iff.1 (by simpa using hl');subst e1 e2;rfl
  |_ :: _ :: _,hv=>have:=hv.1;simp at this
 subst hvs;rcases hr.own.2 with ⟨rfl,hn⟩|⟨b,cap,cur,rfl,g1,g2,g3,g4,g5,g6⟩
 ·have hd0:d=[]:=by simpa using hn
  subst hd0;refine (AnyF.slices_SortFunc_none L none 0 _ w).mono ?_;rintro x w' ⟨rfl,rfl⟩;exact⟨rfl,⟨rfl,rfl,rfl,le_refl _,λ_ _ _=>rfl⟩,λg hg=>by cases hg⟩
 ·have hn:(d.map (encV enc)).length=d.length:=length_map _;rw[hn] at g3 g6 ⊢;have hus:us=d.flatMap enc:=by
   have hl:us.length=(d.flatMap enc).length:=by have h2:=hr.own.1;have h3:=bH hr.all;rw[flat_encV,length_map] at h3;rw[h2,h3]
   apply ext_getElem hl;intro j j1 j2;have:=hr.val j us[j] (.val (d.flatMap enc)[j]) (getElem?_eq_getElem j1) (by rw[flat_encV];simp[j2]);generalize us[j]=u,(d.flatMap enc)[j]=u' at this;cases this;rfl
  have hH:HoldsK enc k w b 0 d.toArray:=by
   unfold HoldsK;rw[flatK_list hk h0,<-hus];intro j hj;have hj':j<us.length:=by simpa using hj
   refine⟨?_,frozen_of_row w b _ cur _ g2⟩;rw[zero_add,fP g2];have:us[j]? = cur.toList[j]?:=by rw[<-g6,getElem?_take,if_pos];have:=hr.own.1;rw[hn] at this;omega
   have h7:cur[j]? = us[j]?:=by rw[this];simp
   rw[h7,getElem?_eq_getElem hj'];simp[hj']
  have hb:b<w.heap.size:=(Array.getElem?_eq_some_iff.1 g2).1;refine (AnyQ.slices_SortFunc_total L k aE zE enc hk h1 cf hO g #[] b 0 cap d.toArray w eg (λm os dk _ x y=>hcmp x y _) hH hb (by simpa using hd) hT).mono ?_;rintro x w' ⟨rfl,n,os,rfl⟩;refine⟨rfl,grown_sortWorldK enc k w b n _ os,λg hg cur' e' hg' hle=>?_⟩;have:b=g:=by simpa[Value.ownBlock] using hg
  subst this;obtain⟨c2,k1,k2,k3⟩:=row_sortWorldK enc k w b n (d.length * k) (d.toArray.toList.mergeSort λx y=>!(ltOf cf) y x).toArray os hg' (by simp) hle;refine⟨c2,k1,k2,?_⟩;rw[k3,flatK_list hk h0]
end Go.SortM
namespace Go.cv
open Go.RowKit
variable{P:Program}
theorem ap9{f:FuncId}{v:Nat}{e:TypeId}{sz:Nat}{es es':List (List PV)}{ps:List PV}(hc:gF P f=true)(hlen:es'.length=es.length)(hsz:∀x∈es',x.length=sz)
  (h:∀ (B:Nat) (I:Mem) (w:World) (bI:Value) (us vs:List Value),B<=w.heap.size->I.inW w->sE w B I bI e sz es us->bI.oneCell'=true->VRs I vs ps ->
   ∃ws:List Value,ws.length=es.length * sz/\(∀u∈ws,u.oneCell'=true)/\(∀ (j:Nat) u c,ws[j]? = some u->es'.flatten[j]? = some c->VR I u c) /\
   Calls P f (bI :: vs).toArray w λx w'=>x = .returned (.tuple #[])/\aq9 w w' bI (es.length * sz) ws) :
  kJ P f v e sz es ps (λa c=>a = .dW []/\c=some (.row v e sz es')):=by
 refine⟨hc,λB I w bI us vs hB hI hr h1 hv=>?_⟩;obtain⟨ws,hwl,hone,hval,ara⟩:=h B I w bI us vs hB hI hr h1 hv;refine ara.mono ?_;rintro x w' ⟨rfl,hg,hrow⟩;let L:bA:=λi=>if i=1000000 then some (.row v bI sz) else none
 have hL:∀i l,L i=some l->i=1000000/\l = .row v bI sz:=λi l h=>by
  simp only[L] at h;split at h
  ·rename_i hi;exact⟨hi,by simpa using h.symm⟩
  ·cases h
 have hblk:∀b,bI.ownBlock=some b->B<=b/\b<w.heap.size:=λb hb=>wg hr.own hb
 refine⟨.tuple #[],.dW [],bh cq 1000000 (.row v e sz es'),I,L,rfl,⟨rfl,by simp[bh]⟩,.dW [] [] rfl (by simp),?_⟩;exact
 {below:=⟨hg.os,hg.tape,hg.output,hg.size,λk hk=>hg.block k (Nat.lt_of_lt_of_le hk hB) λhb=>by have:=(hblk k hb.symm).1;have:k<B:=hk;omega⟩
  mem:=hI.keep λb ⟨o,u,hu⟩=>hg.block b (hI.lt hu) λhb=>by rw[hr.free b hb.symm o] at hu;cases hu
  kX:=Mem.en I
  lY:=λ_ _ _ _=>rfl
  frame:=λb hb hn=>hg.block b hb λhb'=>hn hb'.symm
  loc:=dQ.refl _
  jA:=λid l b hl hb=>by obtain⟨_,rfl⟩:=hL id l hl;exact .inr hb
  size:=rfl
  env:=λt=>.dead _
  dom:=λi l hl=>by obtain⟨rfl,rfl⟩:=hL i l hl;exact⟨.row v e sz es',by simp[bh]⟩
  chunk:=λi ch hch=>by
   by_cases hi:i=1000000
   ·subst hi;have:Chunk.row v e sz es'=ch:=by simpa[bh] using hch
    subst this;refine⟨bI,ws,by simp[L],⟨by rw[hlen];exact hwl,?_⟩,hr.pos,hsz,hval,hone,hr.free⟩;rcases hr.own.2 with ⟨e1,e2⟩|⟨g,cap,cur,rfl,g1,g2,g3,g4,g5,g6⟩
    ·exact .inl ⟨e1,by rw[hlen];exact e2⟩
    ·obtain⟨cur',k1,k2,k3⟩:=hrow g rfl cur e g2 (by rw[g5];exact Nat.mul_le_mul_right sz g3);exact .inr ⟨g,cap,cur',by rw[hlen],g1,k1,by rw[hlen];exact g3,g4,by rw[k2];exact g5,by rw[hlen];exact k3⟩
   ·have:cq i=some ch:=by simpa[bh,hi] using hch
    cases this
  fM:=λi l b hl hb=>by obtain⟨rfl,rfl⟩:=hL i l hl;have:=hblk b hb;exact⟨this.1,Nat.lt_of_lt_of_le this.2 hg.size⟩
  apart:=λi j li lj b hi hj _ _=>by rw[(hL i li hi).1,(hL j lj hj).1] }
end Go.cv
namespace Go.SortM
open Go.cv hiding flatK
open Go.RowKit Go.Shelf Go.Sort Go.Proofs
variable{P:Program}{ρ:Ren}{α:Type} [Inhabited α]
def Raw(enc:α->List PV)(k:Nat)(x:α)(xs:List Value):Prop:=xs.length=k/\∀ (j:Nat) u c,xs[j]? = some u->(enc x)[j]? = some c->∃I,VR I u c
theorem chunks_get{us:List Value}{n k:Nat}(h:us.length=n * k)(i j:Nat)(hi:i<n)(hj:j<k):((us.drop (i * k)).take k)[j]? = us[i * k+j]?:=by rw[getElem?_take,if_pos hj,getElem?_drop]
theorem chunks_len{us:List Value}{n k:Nat}(h:us.length=n * k)(i:Nat)(hi:i<n):((us.drop (i * k)).take k).length=k:=by have:(i+1) * k<=n * k:=Nat.mul_le_mul_right _ hi;rw[Nat.add_mul] at this;rw[length_take,length_drop];omega
theorem chunks_all{us:List Value}{n k:Nat}(h0:0<k)(h:us.length=n * k):(finRange n).flatMap (λi=>(us.drop (i.1 * k)).take k)=us:=by
 have hall:∀e∈(finRange n).map λi=>(us.drop (i.1 * k)).take k,e.length=k:=λe he=>by obtain⟨i,_,rfl⟩:=mem_map.1 he;exact chunks_len h i.1 i.2
 rw[flatMap_def];apply ext_getElem?;intro t;rcases lt_or_ge t (n * k) with ht|ht
 ·have hd:t / k<n:=(Nat.div_lt_iff_lt_mul h0).2 ht;have hm:t % k<k:=Nat.mod_lt _ h0;have e2:=iu hall (t / k) (t % k) (by simpa using hd) hm;rw[Nat.div_add_mod' t k] at e2;rw[e2];have e3:((finRange n).map λi=>(us.drop (i.1 * k)).take k).getD (t / k) []=(us.drop (t / k * k)).take k:=by simp[hd]
  rw[e3,chunks_get h _ _ hd hm,Nat.div_add_mod' t k]
 ·rw[getElem?_eq_none (by rw[bH hall,length_map,length_finRange];exact ht),getElem?_eq_none (by omega)]
omit [Inhabited α] in
theorem rel_flatMap{I:Mem}{β:Type}(f:β->List Value)(g:β->List PV)(hl:∀x,(f x).length=(g x).length)(hv:∀x,∀ (j:Nat) u c,(f x)[j]? = some u->(g x)[j]? = some c->VR I u c):∀l:List β,∀ (j:Nat) u c,(l.flatMap f)[j]? = some u->(l.map g).flatten[j]? = some c->VR I u c
 | [],j,u,c,h,_=>by simp at h
 |x :: r,j,u,c,hu,hc=>by rw[flatMap_cons] at hu;rw[map_cons,flatten_cons] at hc;exact abb (hl x) (hv x) (rel_flatMap f g hl hv r) j u c hu hc
theorem callM_sortG(L:SlLaysF0.n6 P ρ)(k:Nat)(h0:0<k)(aE:∀w,(isAgg (ρ.t 24)).run P w = .ok true w)(zE:∀w,(Go.sizeOf (ρ.t 24)).run P w = .ok k w)(enc:α->List PV)(hk:∀x,(enc x).length=k)
  (cf:α->α->Int) (hO:SWO (ltOf cf)) (g:FuncId) (eg:∀args w,(callFunc g args).run P w = .ok (.enter g args) w)
  (hcmp:∀x y xs ys W,Raw enc k x xs->Raw enc k y ys->Calls P g #[.agg xs.toArray,.agg ys.toArray] W λe w'=>e = .returned (.int .i64 (cf x y))/\∃q os',w'=grow (W.drewN q) os')
  (hc:gF P (ρ.f 6)=true) (d:List α) (hd:d.length<4611686018427387904) (hT:∀i j,i<d.length->j<d.length->(ltOf cf) (d.getD i default) (d.getD j default)=false->(ltOf cf) (d.getD j default) (d.getD i default)=false->i=j) (v:Nat) (e:TypeId) :
  kJ P (ρ.f 6) v e k (d.map enc) [.iK (.func g) [] []] (λa c=>a = .dW []/\c=some (.row v e k ((d.mergeSort λx y=>!(ltOf cf) y x).map enc))):=by
 have hlen:(d.mergeSort λx y=>!(ltOf cf) y x).length=d.length:=length_mergeSort _;refine ap9 hc (by simp[hlen]) (λx hx=>?_) ?_
 ·obtain⟨y,_,rfl⟩:=mem_map.1 hx;exact hk y
 intro B I w bI us vs hB hI hr hone hv;have hvs:vs=[.func (.func g) #[] #[]]:=by
  match vs,hv with
  | [],hv=>have:=hv.1;simp at this
  | [x],hv =>
   have:=hv.2 0 x _ rfl rfl;cases this with
   |iK _ us vs _ _ hl hl' _ _=>have e1:us=[]:=length_eq_zero_iff.1 (by simpa using hl);have e2:vs=[]:=length_eq_zero_iff.1 (by simpa using hl');subst e1 e2;rfl
  |_ :: _ :: _,hv=>have:=hv.1;simp at this
 subst hvs;have hn:(d.map enc).length=d.length:=length_map _;rcases hr.own.2 with ⟨rfl,hn0⟩|⟨b,cap,cur,rfl,g1,g2,g3,g4,g5,g6⟩
 ·have hd0:d=[]:=by simpa using hn0
  subst hd0;refine⟨[],by simp,by simp,by simp,(AnyF.slices_SortFunc_none L none 0 _ w).mono ?_⟩;rintro x w' ⟨rfl,rfl⟩;exact⟨rfl,⟨rfl,rfl,rfl,le_refl _,λ_ _ _=>rfl⟩,λg hg=>by cases hg⟩
 ·rw[hn] at g3 g6 ⊢;rcases Nat.eq_zero_or_pos d.length with hz|hpos
  ·have hd0:d=[]:=length_eq_zero_iff.1 hz;subst hd0;refine⟨[],by simp,by simp,by simp,(AnyF.slices_SortFunc_none L (some ⟨b,0,none⟩) cap _ w).mono ?_⟩;rintro x w' ⟨rfl,rfl⟩;refine⟨rfl,⟨rfl,rfl,rfl,le_refl _,λ_ _ _=>rfl⟩,λg hg cur' e' hg' hle=>⟨cur',hg',rfl,?_⟩⟩;simp
  have hul:us.length=d.length * k:=by have:=hr.own.1;rw[hn] at this;exact this
  let acH:Fin d.length->List Value:=λi=>(us.drop (i.1 * k)).take k
  let f:Fin d.length->α:=λi=>d.getD i.1 default
  have hdf:(finRange d.length).map f=d:=by
   apply ext_getElem
   ·simp
   ·intro t h1 h2;simp[f,h2]
  haveI:Inhabited (Fin d.length):=⟨⟨0,hpos⟩⟩
  have hkR:∀i,(acH i).length=k:=λi=>chunks_len hul i.1 i.2
  have h1R:∀i,∀u∈acH i,u.oneCell'=true:=λi u hu=>hr.one u (mem_of_mem_drop (mem_of_mem_take hu))
  have hall:∀z∈d.map enc,z.length=k:=λz hz=>by obtain⟨y,_,rfl⟩:=mem_map.1 hz;exact hk y
  have hvR:∀i:Fin d.length,∀ (j:Nat) u c,(acH i)[j]? = some u->(enc (f i))[j]? = some c->VR I u c:=λi j u c hu hc=>by
   have hj:j<k:=by have:=(List.getElem?_eq_some_iff.1 hu).1;rw[hkR] at this;exact this
   have e1:us[i.1 * k+j]? = some u:=by rw[<-chunks_get hul i.1 j i.2 hj];exact hu
   have e2:=iu hall i.1 j (by simp) hj;have e3:(d.map enc).getD i.1 []=enc (f i):=by simp[f]
   rw[e3,hc] at e2;exact hr.val _ u c e1 e2
  have xN:∀i,Raw enc k (f i) (acH i):=λi=>⟨hkR i,λj u c hu hc=>⟨I,hvR i j u c hu hc⟩⟩
  have hfl:(finRange d.length).flatMap acH=us:=chunks_all h0 hul;have hH:HoldsK acH k w b 0 (finRange d.length).toArray:=by
   unfold HoldsK;rw[flatK_list hkR h0,hfl];intro j hj;have hj':j<us.length:=by simpa using hj
   refine⟨?_,frozen_of_row w b _ cur _ g2⟩;rw[zero_add,fP g2];have:us[j]? = cur.toList[j]?:=by rw[<-g6,getElem?_take,if_pos];omega
   have h7:cur[j]? = us[j]?:=by rw[this];simp
   rw[h7,getElem?_eq_getElem hj'];simp[hj']
  have hb:b<w.heap.size:=(Array.getElem?_eq_some_iff.1 g2).1;let cR:Fin d.length->Fin d.length->Int:=λi j=>cf (f i) (f j)
  have hOR:SWO (ltOf cR) :=
   {irrefl:=λx=>hO.irrefl (f x)
    trans:=λx y z h1 h2=>hO.trans (f x) (f y) (f z) h1 h2
    ntrans:=λx y z h1 h2=>hO.ntrans (f x) (f y) (f z) h1 h2 }
  have hTR:∀x y,(ltOf cR) x y=false->(ltOf cR) y x=false->x=y:=λx y h1 h2=>Fin.ext (hT x.1 y.1 x.2 y.2 h1 h2)
  have hms:((finRange d.length).mergeSort λx y=>!(ltOf cR) y x).map f=d.mergeSort λx y=>!(ltOf cf) y x:=by have h2:=map_mergeSort (r:=λx y=>!(ltOf cR) y x) (s:=λx y=>!(ltOf cf) y x) (f:=f) (l:=finRange d.length) (λa _ b _=>rfl);rw[hdf] at h2;exact h2
  have xL:((finRange d.length).mergeSort λx y=>!(ltOf cR) y x).length=d.length:=by rw[length_mergeSort,length_finRange]
  refine⟨((finRange d.length).mergeSort λx y=>!(ltOf cR) y x).flatMap acH,?_,λu hu=>?_,?_,?_⟩
  ·have h2:∀z∈((finRange d.length).mergeSort λx y=>!(ltOf cR) y x).map acH,z.length=k:=λz hz=>by obtain⟨y,_,rfl⟩:=mem_map.1 hz;exact hkR y
   rw[flatMap_def,bH h2,length_map,xL]
  ·obtain⟨y,_,hy⟩:=mem_flatMap.1 hu;exact h1R y u hy
  ·rw[<-hms,map_map];exact rel_flatMap acH (enc ∘ f) (λx=>by rw[hkR];exact (hk _).symm) hvR _
  ·have hsz:(finRange d.length).toArray.size=d.length:=by simp
   have ara:=AnyQ.slices_SortFunc_total L k aE zE acH hkR h1R cR hOR g #[] b 0 cap (finRange d.length).toArray w eg (λm os dk _ x y=>hcmp (f x) (f y) (acH x) (acH y) _ (xN x) (xN y)) hH hb (by rw[hsz];exact hd) hTR;rw[hsz] at ara;refine ara.mono ?_;rintro x w' ⟨rfl,n,os,rfl⟩;refine⟨rfl,grown_sortWorldK acH k w b n _ os,λg hg cur' e' hg' hle=>?_⟩;have:b=g:=by simpa[Value.ownBlock] using hg
   subst this;obtain⟨c2,k1,k2,k3⟩:=row_sortWorldK acH k w b n (d.length * k) ((finRange d.length).toArray.toList.mergeSort λx y=>!(ltOf cR) y x).toArray os hg' (by simp) hle;refine⟨c2,k1,k2,?_⟩;rw[k3,flatK_list hkR h0]
end Go.SortM
namespace Go.Proofs
open Go.Shelf Go.RowKit Go.Lib Go.Sort
theorem YtjhkgjlmiolfoaaGreat.auM(a:Int)(W:World):Calls pw 350 #[.int .i64 a] W λe w'=>e = .returned (.bool false)/\w'=W:=by
 have hd:(a != a)=false:=by simp
 go_enter func350,ntmps350
 go_wp2
 go_ret
 exact⟨rfl,rfl⟩
theorem YtjhkgjlmiolfoaaGreat.arb(a b:Int)(W:World):Calls pw 298 #[.int .i64 a,.int .i64 b] W λe w'=>e = .returned (.int .i64 (YtjhkgjlmiolfoaaGreat.qL a b))/\w'=W:=by
 have eg:∀args w,(callFunc 350 args).run pw w = .ok (.enter 350 args) w:=enters_of func350 (by kernel_rfl) rfl
 go_enter func298,ntmps298
 go_wp2_with (go_at_call 350;refine (YtjhkgjlmiolfoaaGreat.auM _ _).mono ?_;rintro e w' ⟨rfl,rfl⟩)
 all_goals first
  |rw[show YtjhkgjlmiolfoaaGreat.qL a b = -1 from if_pos (by assumption)];go_ret;exact⟨rfl,rfl⟩
  |rw[show YtjhkgjlmiolfoaaGreat.qL a b=1 from by unfold YtjhkgjlmiolfoaaGreat.qL;rw[if_neg (by omega),if_pos (by assumption)]];go_ret;exact⟨rfl,rfl⟩
  |rw[show YtjhkgjlmiolfoaaGreat.qL a b=0 from by unfold YtjhkgjlmiolfoaaGreat.qL;rw[if_neg (by omega),if_neg (by omega)]];go_ret;exact⟨rfl,rfl⟩
theorem YtjhkgjlmiolfoaaGreat.aqa(x y:YtjhkgjlmiolfoaaGreat.ah)(xs ys:List Value)(W:World)(hx:Go.SortM.Raw YtjhkgjlmiolfoaaGreat.ag 3 x xs)(hy:Go.SortM.Raw YtjhkgjlmiolfoaaGreat.ag 3 y ys) :
  Calls pw 243 #[.agg xs.toArray,.agg ys.toArray] W λe w'=>e = .returned (.int .i64 (YtjhkgjlmiolfoaaGreat.qL x.id y.id))/\∃q os',w'=grow (W.drewN q) os':=by
 have eg:∀args w,(callFunc 298 args).run pw w = .ok (.enter 298 args) w:=enters_of func298 (by kernel_rfl) rfl;obtain⟨xl,xv⟩:=hx;obtain⟨yl,yv⟩:=hy;obtain⟨x0,xr,rfl⟩:=exists_cons_of_length_pos (show 0<xs.length by omega);obtain⟨y0,yr,rfl⟩:=exists_cons_of_length_pos (show 0<ys.length by omega);have ex:x0 = .int .i64 x.id:=by obtain⟨I,h⟩:=xv 0 x0 _ rfl rfl;cases h;rfl
 have ey:y0 = .int .i64 y.id:=by obtain⟨I,h⟩:=yv 0 y0 _ rfl rfl;cases h;rfl
 subst ex ey
 go_enter func243,ntmps243
 go_wp2_with (go_at_call 298;refine (YtjhkgjlmiolfoaaGreat.arb _ _ _).mono ?_;rintro e w' ⟨rfl,rfl⟩)
 go_ret
 exact⟨rfl,0,_,by rw[alloc_eq_grow,alloc_eq_grow,grow_grow];rfl⟩
theorem YtjhkgjlmiolfoaaGreat.aqb(x y:YtjhkgjlmiolfoaaGreat.ax)(xs ys:List Value)(W:World)(hx:Go.SortM.Raw YtjhkgjlmiolfoaaGreat.aj 4 x xs)(hy:Go.SortM.Raw YtjhkgjlmiolfoaaGreat.aj 4 y ys) :
  Calls pw 245 #[.agg xs.toArray,.agg ys.toArray] W λe w'=>e = .returned (.int .i64 (YtjhkgjlmiolfoaaGreat.qL x.id y.id))/\∃q os',w'=grow (W.drewN q) os':=by
 have eg:∀args w,(callFunc 298 args).run pw w = .ok (.enter 298 args) w:=enters_of func298 (by kernel_rfl) rfl;obtain⟨xl,xv⟩:=hx;obtain⟨yl,yv⟩:=hy;obtain⟨x0,xr,rfl⟩:=exists_cons_of_length_pos (show 0<xs.length by omega);obtain⟨y0,yr,rfl⟩:=exists_cons_of_length_pos (show 0<ys.length by omega);have ex:x0 = .int .i64 x.id:=by obtain⟨I,h⟩:=xv 0 x0 _ rfl rfl;cases h;rfl
 have ey:y0 = .int .i64 y.id:=by obtain⟨I,h⟩:=yv 0 y0 _ rfl rfl;cases h;rfl
 subst ex ey
 go_enter func245,ntmps245
 go_wp2_with (go_at_call 298;refine (YtjhkgjlmiolfoaaGreat.arb _ _ _).mono ?_;rintro e w' ⟨rfl,rfl⟩)
 go_ret
 exact⟨rfl,0,_,by rw[alloc_eq_grow,alloc_eq_grow,grow_grow];rfl⟩
theorem YtjhkgjlmiolfoaaGreat.aDL(a b:Int)(B c:Nat)(W:World)(h0:W.cell? ⟨B,0,none⟩=some (.int .i64 a))(h1:W.cell? ⟨B,1,none⟩=some (.int .i64 b)) :
  Calls pw 261 #[.slice (some ⟨B,0,none⟩) 2 c] W λe w'=>e = .returned (.int .i64 (if a=0 then b else a))/\w'=W:=by
 go_enter func261,ntmps261
 go_wp2
 go_loop [8] (λi=>∃k:Nat,k<=2/\i = .int .i64 k/\(1<=k->a=0)/\(2<=k->b=0)) (λi=>2-(intOf i).toNat)
 case atStart=>exact⟨0,by omega,rfl,λh=>by omega,λh=>by omega⟩
 case round =>
  obtain⟨k,hk,rfl,ha,hb⟩:=hrel;obtain rfl|rfl|rfl:k=0\/k=1\/k=2:=by omega
  ·go_wp2
   all_goals first
    |(go_ret;exact⟨rfl,rfl⟩)
    |exact⟨⟨1,by omega,rfl,λ_=>by simpa using ‹(a != 0)=false›,λh=>by omega⟩,by simp[intOf]⟩
    |(exfalso;simp_all;done)
  ·have ha0:=ha (by omega);subst ha0
   go_wp2
   all_goals first
    |(go_ret;exact⟨rfl,rfl⟩)
    |exact⟨⟨2,by omega,rfl,λ_=>trivial,λ_=>by simpa using ‹(b != 0)=false›⟩,by simp[intOf]⟩
    |(exfalso;simp_all;done)
  ·have ha0:=ha (by omega);have hb0:=hb (by omega);subst ha0 hb0
   go_wp2
   all_goals first
    |(go_ret;exact⟨rfl,rfl⟩)
    |(exfalso;simp_all;done)
theorem YtjhkgjlmiolfoaaGreat.ail(W:World)(A B:Obj)(a:Array Value)(t:TypeId)(j:Nat){v:Option Value}(h:a[j]? = v):(((W.alloc A).alloc B).alloc (.cells a t)).cell? ⟨W.heap.size+1+1,j,none⟩=v:=by
 have e:W.heap.size+1+1=((W.alloc A).alloc B).heap.size:=by simp
 rw[e,<-h];simp only[World.cell?,World.alloc,Array.getElem?_push_size,Option.isSome_none,Bool.false_eq_true,if_false]
def YtjhkgjlmiolfoaaGreat.azg(x y:YtjhkgjlmiolfoaaGreat.aG):Int:=if i64.wrap (x.id-y.id)=0 then i64.wrap (x.attr-y.attr) else i64.wrap (x.id-y.id)
theorem YtjhkgjlmiolfoaaGreat.azh(x y:YtjhkgjlmiolfoaaGreat.aG)(W:World):Calls pw 172 #[.agg #[.int .i64 x.kind,.int .i64 x.id,.int .i64 x.attr],.agg #[.int .i64 y.kind,.int .i64 y.id,.int .i64 y.attr]] W λe w'=>e = .returned (.int .i64 (YtjhkgjlmiolfoaaGreat.azg x y))/\∃q os',w'=grow (W.drewN q) os':=by
 have eg:∀args w,(callFunc 261 args).run pw w = .ok (.enter 261 args) w:=enters_of func261 (by kernel_rfl) rfl;have hw:∀n,i64.wrap n=wrap64 n:=λn=>by unfold wrap64;rw[IntKind.wrap_i64]
 unfold YtjhkgjlmiolfoaaGreat.azg;simp only[hw]
 go_enter func172,ntmps172
 go_wp2_with (go_at_call 261;refine (YtjhkgjlmiolfoaaGreat.aDL _ _ _ _ _ (YtjhkgjlmiolfoaaGreat.ail _ _ _ _ _ _ rfl) (YtjhkgjlmiolfoaaGreat.ail _ _ _ _ _ _ rfl)).mono ?_;rintro e w' ⟨rfl,rfl⟩)
 all_goals
  go_ret
  exact⟨rfl,0,_,by rw[alloc_eq_grow,alloc_eq_grow,alloc_eq_grow,grow_grow,grow_grow];rfl⟩
namespace YtjhkgjlmiolfoaaGreat
open Go.cv
theorem xZ{α:Type}(f:α->Int)(x y:α):(ltOf λx y=>qL (f x) (f y)) x y=decide (f x<f y):=by
 show decide (qL (f x) (f y)<0)=_;unfold qL;apply decide_eq_decide.2;constructor
 ·intro h;split at h
  ·assumption
  ·split at h<;>omega
 ·intro h;rw[if_pos h];omega
theorem amO{α:Type}(f:α->Int):SWO (ltOf λx y=>qL (f x) (f y)) :=
 {irrefl:=λx=>by rw[xZ f];simp
  trans:=λx y z h1 h2=>by rw[xZ f] at *;simp at *;omega
  ntrans:=λx y z h1 h2=>by rw[xZ f] at *;simp at *;omega }
theorem aj6(d:List ah)(hd:d.length<=1000000)(hT:∀i j,i<d.length->j<d.length->(d.getD i default).id=(d.getD j default).id->i=j)(v:Nat):kJ pw 254 v 75 3 (d.map ag) [.iK (.func 243) [] []]
  (λa c=>a = .dW []/\c=some (.row v 75 3 ((d.mergeSort λx y=>decide (x.id<=y.id)).map ag))):=by
 have eg:∀args w,(callFunc 243 args).run pw w = .ok (.enter 243 args) w:=enters_of func243 (by kernel_rfl) rfl;have hle:(λx y:ah=>decide (x.id<=y.id))=λx y=>!(ltOf λx y:ah=>qL x.id y.id) y x:=by
  funext x y;rw[xZ (λx:ah=>x.id)];by_cases h:x.id<=y.id
  ·rw[dB h,gf (by omega)];rfl
  ·rw[gf h,dB (by omega)];rfl
 rw[hle];exact Go.SortM.callM_sortG YtjhkgjlmiolfoaaGreat.aty 3 (by decide) isAgg75 sizeOf75 ag (λ_=>rfl) (λx y=>qL x.id y.id) (amO λx:ah=>x.id) 243 eg (λx y xs ys W hx hy=>aqa x y xs ys W hx hy) (by kernel_rfl) d (by omega)
  (λi j hi hj h1 h2=>hT i j hi hj (by rw[xZ (λx:ah=>x.id)] at h1 h2;have a:=dV h1;have b:=dV h2;omega)) v 75
theorem aj7(d:List ax)(hd:d.length<=1000000)(hT:∀i j,i<d.length->j<d.length->(d.getD i default).id=(d.getD j default).id->i=j)(v:Nat):kJ pw 255 v 102 4 (d.map aj) [.iK (.func 245) [] []]
  (λa c=>a = .dW []/\c=some (.row v 102 4 ((d.mergeSort λx y=>decide (x.id<=y.id)).map aj))):=by
 have eg:∀args w,(callFunc 245 args).run pw w = .ok (.enter 245 args) w:=enters_of func245 (by kernel_rfl) rfl;have hle:(λx y:ax=>decide (x.id<=y.id))=λx y=>!(ltOf λx y:ax=>qL x.id y.id) y x:=by
  funext x y;rw[xZ (λx:ax=>x.id)];by_cases h:x.id<=y.id
  ·rw[dB h,gf (by omega)];rfl
  ·rw[gf h,dB (by omega)];rfl
 rw[hle];exact Go.SortM.callM_sortG YtjhkgjlmiolfoaaGreat.atz 4 (by decide) isAgg102 sizeOf102 aj (λ_=>rfl) (λx y=>qL x.id y.id) (amO λx:ax=>x.id) 245 eg (λx y xs ys W hx hy=>aqb x y xs ys W hx hy) (by kernel_rfl) d (by omega)
  (λi j hi hj h1 h2=>hT i j hi hj (by rw[xZ (λx:ax=>x.id)] at h1 h2;have a:=dV h1;have b:=dV h2;omega)) v 102
abbrev SC(K:Int):={x:aG // x.kind=K/\ov x}
instance(K:Int):Inhabited (SC K):=⟨⟨⟨K,0,0⟩,rfl,by simp[ov]⟩⟩
theorem aB2{x y:aG}(hx:ov x)(hy:ov y):decide (azg x y<0) = !leC y x:=by obtain⟨a1,a2,a3,a4⟩:=hx;obtain⟨b1,b2,b3,b4⟩:=hy;have h1:i64.wrap (x.id-y.id)=x.id-y.id:=IntWalk.i64_in _ (by omega);have h2:i64.wrap (x.attr-y.attr)=x.attr-y.attr:=IntWalk.i64_in _ (by omega);unfold azg leC;rw[h1,h2,<-decide_not];apply decide_eq_decide.2;split<;>omega
theorem amP{α:Type}{p:α->Prop} : ∀l:List α,(∀x∈l,p x)->∃d:List {x // p x},d.map Subtype.val=l
 | [],_=>⟨[],rfl⟩
 |x :: r,h=>by
  obtain⟨d,hd⟩:=amP r λy hy=>h y (mem_cons_of_mem _ hy)
  exact⟨⟨x,h x mem_cons_self⟩ :: d,by rw[map_cons,hd]⟩
theorem amQ(K:Int)(l:List aG)(hl:l.length<=1000000)(hin:∀x∈l,x.kind=K/\ov x)(v:Nat):kJ pw 171 v 57 3 (l.map ay) [.iK (.func 172) [] []]
  (λa c=>a = .dW []/\c=some (.row v 57 3 ((l.mergeSort leC).map ay))):=by
 have eg:∀args w,(callFunc 172 args).run pw w = .ok (.enter 172 args) w:=enters_of func172 (by kernel_rfl) rfl;obtain⟨d,hd⟩:=amP l hin;let cS:SC K->SC K->Int:=λx y=>azg x.1 y.1
 have hlt:∀x y:SC K,ltOf cS x y = !leC y.1 x.1:=λx y=>aB2 x.2.2 y.2.2
 have hO:SWO (ltOf cS) :=
  {irrefl:=λx=>by rw[hlt];simp[leC]
   trans:=λx y z h1 h2=>by rw[hlt] at *;simp[leC] at *;omega
   ntrans:=λx y z h1 h2=>by rw[hlt] at *;simp[leC] at *;omega }
 have h:=Go.SortM.callM_sortFunc YtjhkgjlmiolfoaaGreat.ax2 3 (by decide) isAgg57 sizeOf57 (λx:SC K=>[Value.int .i64 x.1.kind,Value.int .i64 x.1.id,Value.int .i64 x.1.attr]) (λ_=>rfl) (λx v hv=>by simp at hv;rcases hv with rfl|rfl|rfl<;>rfl) cS
  hO (λx y h1 h2=>by
   rw[hlt] at h1 h2;simp[leC] at h1 h2;apply Subtype.ext;have e1:=x.2.1;have e2:=y.2.1;obtain⟨⟨k,i,a⟩,_⟩:=x;obtain⟨⟨k',i',a'⟩,_⟩:=y;simp only[aG.mk.injEq] at *;omega) 172 eg (λx y W=>azh x.1 y.1 W) (by kernel_rfl) d (by rw[<-hd,length_map] at hl;omega) v 57
 have e1:d.map (Go.SortM.encV λx:SC K=>[Value.int .i64 x.1.kind,Value.int .i64 x.1.id,Value.int .i64 x.1.attr])=l.map ay:=by rw[<-hd,map_map];rfl
 have e2:(d.mergeSort λx y=>!(ltOf cS) y x).map (Go.SortM.encV λx:SC K=>[Value.int .i64 x.1.kind,Value.int .i64 x.1.id,Value.int .i64 x.1.attr])=(l.mergeSort leC).map ay:=by have h2:=map_mergeSort (r:=λx y:SC K=>!(ltOf cS) y x) (s:=leC) (f:=Subtype.val) (l:=d) (λa _ b _=>by rw[hlt];simp);rw[hd] at h2;rw[<-h2,map_map];rfl
 rw[e1,e2] at h;exact h
end YtjhkgjlmiolfoaaGreat
end Go.Proofs
namespace Go.Proofs.YtjhkgjlmiolfoaaGreat
open Go.cv
theorem aqc(K:Int)(l:List aG)(hl:l.length<=1000000)(hin:∀x∈l,x.kind=K/\ov x)(v:Nat):kJ pw 102 v 57 3 (l.map ay) []
  (λa c=>a = .row 1000000 (v+1)/\c=some (.row (v+1) 57 3 ((jc l).map ay))):=by
 have hlen:(l.mergeSort leC).length=l.length:=length_mergeSort _;refine mP [] Ty.mixed func102 rfl (by kernel_rfl) (by simp[ntmps102]) ?_;rw[ntmps102,results102];simp only[go_sem];refine acg (amQ K l hl hin v) (by simp only[go_sem]<;>rfl) (by simp only[go_sem]<;>rfl) (by simp only[go_sem]<;>rfl) (λh=>by cases h) ?_;simp only[go_sem];refine wX (apS (l.mergeSort leC) (by omega) v) (by simp only[go_sem]<;>rfl) (by simp only[go_sem]<;>rfl) (by simp only[go_sem]<;>rfl) (λh=>by cases h) ?_;simp only[go_sem];unfold jc;rw[hlen]
theorem amR(l:List ah)(m:List ax)(hl:l.length<=1000000)(hm:m.length<=1000000)(id:Int):aS pw 252 [.ee [.aU (l.map ag),.aU (m.map aj)] 0,.val (.int .i64 id)] (λv=>v = .val (.bool (j6 l m id))):=by
 have hn:=kQ (p:=λn:ah=>decide (n.id=id)) (l:=l);have he:=kQ (p:=λn:ax=>decide (n.id=id)) (l:=m);unfold j6;rw[<-hn,<-he];refine aR [] func252 ntmps252 results252 ?_;simp only[go_sem];refine aX (adF l hl id) (by simp only[go_sem]<;>rfl) (b7 rfl) ?_;simp only[go_sem];cases hb:decide (0<=idxOf (λn:ah=>decide (n.id=id)) l)
 ·simp only[go_sem,hb];refine aX (aih m hm id) (by simp only[go_sem]<;>rfl) (b7 rfl) ?_;simp only[go_sem,hb]
 ·simp only[go_sem,hb]
theorem aB3(x:ah)(l:List ah)(m:List ax)(hl:l.length<=1000000)(hm:m.length<=1000000):aS pw 251 [.agg (ag x),.ee [.ee [.aU (l.map ag),.aU (m.map aj)] 0] 0] (λv=>v = .val (.bool (j6 l m x.id))):=by refine aR [] func251 ntmps251 results251 ?_;simp only[go_sem,ag];refine aX (amR l m hl hm x.id) (by simp only[go_sem]<;>rfl) (b7 rfl) ?_;simp only[go_sem]
theorem aB4(x:ax)(l:List ah)(m:List ax)(hl:l.length<=1000000)(hm:m.length<=1000000):aS pw 253 [.agg (aj x),.ee [.ee [.aU (l.map ag),.aU (m.map aj)] 0] 0] (λv=>v = .val (.bool (j6 l m x.id))):=by refine aR [] func253 ntmps253 results253 ?_;simp only[go_sem,aj];refine aX (amR l m hl hm x.id) (by simp only[go_sem]<;>rfl) (b7 rfl) ?_;simp only[go_sem]
theorem azi(a b:List Int)(ha:a.length<=1000000)(hb:b.length<=1000000):aS pw 49 [.aU (a.map encI),.aU (b.map encI)] (λv=>v = .val (.bool (decide (a=b)))):=by
 refine aR [] func49 ntmps49 results49 ?_;simp only[go_sem];refine aW (λhc=>?_) (λhc=>?_)
 ·have hl:a.length=b.length:=by have:=ct hc;omega
  simp only[go_sem];refine bM (σ:=Nat) (λx=>(cE (cE (cE (cE fS 0 (.p (.aU (a.map encI)))) 1 (.p (.aU (b.map encI)))) 12 (.p (.val (.int .i64 a.length)))) 13 (.p (.val (.int .i64 x))))) (λx=>cq)
   (λx=>x<=a.length/\∀j,j<x->a.getD j default=b.getD j default) (λx=>a.length-x) 0 ⟨zero_le _,λj hj=>absurd hj (Nat.not_lt_zero j)⟩ bU ?_
  rintro x ⟨hx,hq⟩;simp only[go_sem];refine aL (λzk=>?_) (λzk=>?_)
  ·have h1:x<a.length:=by have:=ct zk;omega
   have h2:x<b.length:=by omega
   simp only[go_sem];refine cZ [.p,.p,.q,.q,.p,.p,.q,.q,.p] (by kernel_rfl) ?_;simp only[go_sem,getD_map encI h1,getD_map encI h2,encI];refine⟨h1,h2,?_⟩;refine aW (λhd=>?_) (λhd=>?_)
   ·have hd':=ct hd;simp only[go_sem,bw h1 (by omega)];refine bO (x+1) ⟨h1,λj hj=>?_⟩ (by omega) bU;rcases Nat.lt_succ_iff_lt_or_eq.1 hj with h|h
    ·exact hq j h
    ·rw[h];exact hd'
   ·have hd':=dV hd;simp only[go_sem];have:decide (a=b)=false:=gf λe=>hd' (by rw[e])
    rw[this]
  ·have:x=a.length:=by have:=dV zk;omega
   subst this;simp only[go_sem];have:decide (a=b)=true:=by apply dB;apply ext_getElem hl;intro j h1 h2;have:=hq j h1;simpa[h1,h2] using this
   rw[this]
 ·have hl:a.length≠b.length:=by have:=dV hc;omega
  simp only[go_sem];have:decide (a=b)=false:=gf λe=>hl (by rw[e])
  rw[this]
theorem aB5(a b:ah)(ha:a.values.length<=1000000)(hb:b.values.length<=1000000):aS pw 248 [.agg (ag a),.agg (ag b)] (λv=>v = .val (.bool (dS a b))):=by
 unfold dS;refine aR [] func248 ntmps248 results248 ?_;simp only[go_sem,ag];cases h1:decide (a.id=b.id)
 ·simp only[go_sem,h1]
 ·simp only[go_sem,h1];cases h2:decide (a.type=b.type)
  ·simp only[go_sem,h2]
  ·simp only[go_sem,h2];refine aX (azi a.values b.values ha hb) (by simp only[go_sem]<;>rfl) (b7 rfl) ?_;simp only[go_sem]
end Go.Proofs.YtjhkgjlmiolfoaaGreat
