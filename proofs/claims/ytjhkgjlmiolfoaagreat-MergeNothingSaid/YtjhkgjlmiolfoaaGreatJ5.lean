/- Joined texts, part 5: lemmas for the statement. No condition. -/
import Derived.Shelf.Spec.SlicesGrow
import Derived.Test.YtjhkgjlmiolfoaaGreatJ2
import Derived.Test.YtjhkgjlmiolfoaaGreatJ1
import Derived.Test.YtjhkgjlmiolfoaaGreatJ4
import Derived.Test.YtjhkgjlmiolfoaaGreatJ3
import Derived.Shelf.SlSortCmp.NoneTotal
import Derived.LoopTactic
import Derived.WalkKit
set_option maxHeartbeats 4000000
set_option linter.unusedSimpArgs false
set_option linter.unusedVariables false
open Nat (reduceEqDiff reduceLT reduceLeDiff reduceMul reduceAdd reduceSub)
open Go.IntKind (i64)
open Go.Proofs.Tryz
open Go.Proofs.Tryz renaming prog → pw
set_option maxRecDepth 20000
namespace Go.cr
open Go.RowKit Go.Shelf Go.Proofs
variable{P:Program}{ρ:Ren}
theorem apb(L:Lays8.n4 P ρ)(hc:hU P (ρ.f 4)=true)(i0:TypeInfo)(z:Value)(hi0:P.info? (ρ.t 25)=some i0)(hz0:i0.zero=some z)(hs0:0<i0.size)(hzs:z.cells.size=i0.size)
  (n:Nat) (hbig:n * i0.bytes<=140737488355328) (h63:n<=4611686018427387904) :
  br P (ρ.f 4) [.val (.slice none 0 0),.val (.int .i64 n)] (λv=>v = .row (ρ.t 25) i0.size []):=by
 refine⟨hc,λI w vs hI hv=>?_⟩;obtain⟨hl,hv⟩:=hv
 match vs,hl with
 | [a,b],_ =>
  have ha:a = .slice none 0 0:=by have:=hv 0 a _ rfl rfl;cases this;rfl
  have hb:b = .int .i64 n:=by have:=hv 1 b _ rfl rfl;cases this;rfl
  subst ha hb;by_cases h0:n=0
  ·subst h0;refine (Any8.slices_Grow_room L none 0 0 0 w (by omega) (by omega) (by omega) (by omega)).mono ?_;rintro e w' ⟨rfl,rfl⟩;refine⟨_,_,_,I,rfl,rfl,.row _ _ _ _ [] ⟨⟨by simp,.inl ⟨rfl,rfl⟩⟩,hs0,by simp,by simp,by simp,λb hb=>by simp[Value.ownBlock] at hb⟩ rfl,by simp[Value.ownBlock],by simp[Value.ownBlock],Below.refl _ _,Mem.dV I,hI,λ_ _ _=>rfl⟩
  ·refine (Any8.slices_Grow_grow L i0 z hi0 hz0 hs0 none 0 0 n [] w (by omega) (by omega) (by simpa using hbig) (by omega) (by simp) (λ_=>rfl) (λa h=>by cases h)).mono ?_;rintro e w' ⟨rfl,rfl⟩;have hG:n<=grownCap w (0+n) 0 (ρ.t 25):=by have:=grownCap_ge w (0+n) 0 (ρ.t 25);omega
   have hG2:grownCap w (0+n) 0 (ρ.t 25)<=maxLen:=grownCap_le_maxLen w (0+n) 0 (ρ.t 25) (by unfold maxLen;omega);generalize grownCap w (0+n) 0 (ρ.t 25)=G at hG hG2 ⊢;have hheap:∀o:Obj,(w.drew.alloc o).heap=w.heap.push o:=λo=>rfl
   have bel:∀o:Obj,Below w.heap.size w (w.drew.alloc o):=λo=>(Below.refl _ w).drew.alloc (Nat.le_refl _) o
   refine⟨_,_,[w.heap.size],I,rfl,rfl,?_,by simp,?_,bel _,Mem.dV I,hI.keep λb ⟨o,u,hu⟩=>(bel _).block b (hI.lt hu),λ_ _ _=>rfl⟩
   ·refine .row (.slice (some ⟨w.heap.size,0,none⟩) 0 G) _ _ _ [] ⟨⟨by simp,.inr ⟨w.heap.size,G,_,rfl,Nat.le_refl _,by rw[hheap];exact Array.getElem?_push_size,Nat.zero_le _,hG2,?_,by simp⟩⟩,hs0,by simp,by simp,by simp,λb hb o=>?_⟩ rfl
    ·have e:(0+n-0)+(G-(0+n))=G:=by omega
     have e0:([]:List Value).toArray.size=0:=rfl;rw[Array.size_append,Array.size_append,size_zeroCells,size_zeroCells,hzs,e0,Nat.zero_add,<-Nat.add_mul,e]
    ·simp only[Value.ownBlock,cA] at hb;subst hb;cases hI0:I w.heap.size o with
     |none=>rfl
     |some u=>exact absurd (hI.lt hI0) (Nat.lt_irrefl _)
   ·intro b hb;simp only[List.mem_cons,List.not_mem_nil,or_false] at hb;subst hb;rw[hheap];simp
theorem adQ(L:Lays8.n4 P ρ)(hc:hU P (ρ.f 4)=true){t e:TypeId}{sz qT:Nat}(ht:dr P t t=some (e,sz,qT))(he:e=ρ.t 25)(n:Nat)(hbig:n * qT<=140737488355328)(h63:n<=4611686018427387904) :
  br P (ρ.f 4) [.val (.slice none 0 0),.val (.int .i64 n)] (λv=>v = .row e sz []):=by
 obtain⟨_,_,hpos,_,i,z,hi,hz,hsz,hby,hzc⟩:=nB ht;subst he;have:=apb L hc i z hi hz (by omega) (by omega) n (by rw[hby];exact hbig) h63;rw[hsz] at this;exact this
end Go.cr
namespace Go.Proofs.YtjhkgjlmiolfoaaGreat
open Go.cr
def lZ(l:List aI)(n:Int):Option (List aI):=giv (l=[]/\0<=n/\n<=1000000) []
theorem wG(l:List aI)(n:Int)(r:List aI)(h:lZ l n=some r):br pw 170 [.val (.slice none 0 0),.val (.int .i64 n)] (λv=>v = .row 57 3 (r.map aB)):=by obtain⟨⟨_,h0,h1⟩,rfl⟩:=sx h;obtain⟨k,rfl⟩:∃k:Nat,n=k:=⟨n.toNat,by omega⟩;exact adQ axk (by kernel_rfl) Ty.aDA rfl k (by omega) (by omega)
def ku(l:List bn)(n:Int):Option (List bn):=giv (l=[]/\0<=n/\n<=1000000) []
theorem uB(l:List bn)(n:Int)(r:List bn)(h:ku l n=some r):br pw 186 [.val (.slice none 0 0),.val (.int .i64 n)] (λv=>v = .row 188 3 (r.map ct)):=by obtain⟨⟨_,h0,h1⟩,rfl⟩:=sx h;obtain⟨k,rfl⟩:∃k:Nat,n=k:=⟨n.toNat,by omega⟩;exact adQ aAQ (by kernel_rfl) Ty.aCz rfl k (by omega) (by omega)
end Go.Proofs.YtjhkgjlmiolfoaaGreat
namespace Go.cr
open Go.RowKit
variable{P:Program}{I:Mem}{L:bA}
mutual
def qM(id:Nat)(ps:List PV):AV->AV
 | .ptr i o=>if i=id then .p (.dU ps o) else .ptr i o
 | .row i v=>if i=id then .dead else .row i v
 | .jm i v j o=>if i=id then .dead else .jm i v j o
 | .eG i v=>if i=id then .dead else .eG i v
 | .kC i v j o=>if i=id then .dead else .kC i v j o
 | .kD i v j=>if i=id then .dead else .kD i v j
 | .ng i v j k o=>if i=id then .dead else .ng i v j k o
 | .bsl i n=>if i=id then .dead else .bsl i n
 | .iA i v o n m sz=>if i=id then .dead else .iA i v o n m sz
 | .agg cs=>.agg (p5 id ps cs)
 | .dQ cs=>.dQ (p5 id ps cs)
 | .iw f a b=>.iw f (p5 id ps a) (p5 id ps b)
 |x=>x
def p5(id:Nat)(ps:List PV):List AV->List AV
 | []=>[]
 |a :: r=>qM id ps a :: p5 id ps r
end
theorem tU{id:Nat}{ps:List PV} : ∀ {cs:List AV} {j:Nat} {c:AV},(p5 id ps cs)[j]? = some c->∃d,cs[j]? = some d/\c=qM id ps d
 | [],j,c,h=>by simp[p5] at h
 |a :: r,0,c,h=>by unfold p5 at h;simp only[List.getElem?_cons_zero,cA] at h;exact⟨a,rfl,h.symm⟩
 |a :: r,j+1,c,h=>by unfold p5 at h;exact tU (cs:=r) (by simpa using h)
theorem oE{id:Nat}{ps:List PV} : ∀cs:List AV,(p5 id ps cs).length=cs.length
 | []=>rfl
 |a :: r=>by unfold p5;simp[oE r]
def fixC(id:Nat)(ps:List PV):Chunk->Chunk
 | .box cs=>.box (p5 id ps cs)
 |c=>c
def ayi(id:Nat)(ps:List PV):Option Chunk->Option Chunk
 |some c=>some (fixC id ps c)
 |none=>none
def aEu(id:Nat)(ps:List PV)(env:Env):Env:=λi=>qM id ps (env i)
def ayj(id:Nat)(ps:List PV)(H:ay):ay:=λi=>if i=id then none else ayi id ps (H i)
def al0(L:bA)(id:Nat):bA:=λi=>if i=id then none else L i
theorem eo.fix{J:Mem}{id b:Nat}{ps:List PV}(hl:L id=some (.box b))(sg:I.sub J)(hb:∀off,VR J (.pointer (some ⟨b,off,none⟩)) (.dU ps off)){u:Value}{a:AV}(h:eo I L u a):eo J (al0 L id) u (qM id ps a):=by
 have j7:∀i,i≠id->al0 L id i=L i:=λi hi=>by simp[al0,hi]
 induction h with
 |p u x h=>unfold qM;exact .p u x (h.mono sg)
 |row u i bf v1 jJ sz1 mJ hle h h1 =>
  unfold qM;split
  ·exact .dead _
  ·exact .row u i bf v1 jJ sz1 ((j7 i (by assumption)).trans mJ) hle h h1
 |ptr i b1 off mJ =>
  unfold qM;split
  ·rename_i e;subst e;rw[hl] at mJ;simp only[cA,Loc.box.injEq] at mJ;subst mJ;exact .p _ _ (hb off)
  ·exact .ptr i b1 off ((j7 i (by assumption)).trans mJ)
 |jm u i bf v1 j off jJ sz1 mJ hle h h1 =>
  unfold qM;split
  ·exact .dead _
  ·exact .jm u i bf v1 j off jJ sz1 ((j7 i (by assumption)).trans mJ) hle h h1
 |bsl i b1 n mJ =>
  unfold qM;split
  ·exact .dead _
  ·exact .bsl i b1 n ((j7 i (by assumption)).trans mJ)
 |iA a i bf v1 off n m c jJ sz1 mJ hle hn hm hz h =>
  unfold qM;split
  ·exact .dead _
  ·exact .iA a i bf v1 off n m c jJ sz1 ((j7 i (by assumption)).trans mJ) hle hn hm hz h
 |agg us cs mJ _ hone ih=>unfold qM;refine .agg us _ (by rw[oE];exact mJ) (λj u c hu hc=>?_) hone;obtain⟨d,hd,rfl⟩:=tU hc;exact ih j u d hu hd
 |dQ us cs mJ _ ih=>unfold qM;refine .dQ us _ (by rw[oE];exact mJ) (λj u c hu hc=>?_);obtain⟨d,hd,rfl⟩:=tU hc;exact ih j u d hu hd
 |iw fn us vs fs cs mJ hl2 _ _ ih ih' =>
  unfold qM;refine .iw fn us vs _ _ (by rw[oE];exact mJ) (by rw[oE];exact hl2) (λj u c hu hc=>?_) (λj u c hu hc=>?_)
  ·obtain⟨d,hd,rfl⟩:=tU hc;exact ih j u d hu hd
  ·obtain⟨d,hd,rfl⟩:=tU hc;exact ih' j u d hu hd
 |eG u i bf v1 jJ s1 s2 qK n1 mJ hle h h1 =>
  unfold qM;split
  ·exact .dead _
  ·exact .eG u i bf v1 jJ s1 s2 qK n1 ((j7 i (by assumption)).trans mJ) hle h h1
 |kC u i bf v1 j off jJ s1 s2 qK n1 mJ hle h h1 =>
  unfold qM;split
  ·exact .dead _
  ·exact .kC u i bf v1 j off jJ s1 s2 qK n1 ((j7 i (by assumption)).trans mJ) hle h h1
 |kD u i bf v1 j jJ s1 s2 qK n1 mJ hle h h1 =>
  unfold qM;split
  ·exact .dead _
  ·exact .kD u i bf v1 j jJ s1 s2 qK n1 ((j7 i (by assumption)).trans mJ) hle h h1
 |ng u i bf v1 j m off jJ s1 s2 qK n1 mJ hle h h1 =>
  unfold qM;split
  ·exact .dead _
  ·exact .ng u i bf v1 j m off jJ s1 s2 qK n1 ((j7 i (by assumption)).trans mJ) hle h h1
 |dead u=>unfold qM;exact .dead u
def Mem.whole(I:Mem)(w:World)(b0:Nat):Mem:=λb o=>if b=b0 then w.cell? ⟨b,o,none⟩ else I b o
theorem ayk{env:Env}{H:ay}(id:Nat)(ps:List PV)(hid:id<1000000)(hH:H id=some (.box (ps.map AV.p))):cU env H (aEu id ps env) (ayj id ps H):=λC I L tm w hs=>by
 obtain⟨b,arr,e,q1,q2,q3,q4,q5,q6⟩:=hs.chunk id _ hH;have hL0:C.L0 id=none:=by
  cases h:C.L0 id with
  |none=>rfl
  |some l=>have:=C.hL0 id l h;omega
 let J:Mem:=I.whole w b;have hJb:∀o,J b o=w.cell? ⟨b,o,none⟩:=λo=>by show I.whole w b b o=_;unfold Mem.whole;rw[if_pos rfl]
 have hJo:∀b',b'≠b->∀o,J b' o=I b' o:=λb' hn o=>by show I.whole w b b' o=_;unfold Mem.whole;rw[if_neg hn]
 have sg:I.sub J:=λb' o u hu=>by
  by_cases h:b'=b
  ·subst h;rw[q6 o] at hu;cases hu
  ·rw[hJo b' h];exact hu
 have hJw:J.inW w:=λb' o u hu=>by
  by_cases h:b'=b
  ·subst h;rw[hJb] at hu;exact hu
  ·rw[hJo b' h] at hu;exact hs.mem b' o u hu
 have hnot:∀i l b',i≠id->L i=some l->l.has b'->b'≠b:=λi l b' hi hl hb' e=>hi (hs.apart i id l _ b hl q1 (e ▸ hb') rfl)
 have hlen:arr.toList.length=ps.length:=by simpa using q3
 have hvr:∀off,VR J (.pointer (some ⟨b,off,none⟩)) (.dU ps off):=λoff=>by
  have:=VR.dU (I:=J) b 0 ps arr.toList off hlen (λj u c hu hc=>by
   have:=(q4 j u (.p c) (by simpa using hu) (by rw[List.getElem?_map,hc];rfl)).nJ;exact this.mono sg) (λu hu=>by
    obtain⟨j,hj⟩:=List.mem_iff_getElem?.1 hu;exact q5 j u (by simpa using hj)) (λj u hu=>by
     rw[Nat.zero_add,hJb,fV q2];simpa using hu)
  rwa [Nat.zero_add] at this
 have j7:∀i,i≠id->al0 L id i=L i:=λi hi=>by simp[al0,hi]
 have al1:al0 L id id=none:=by simp[al0]
 refine⟨J,al0 L id,?_⟩;exact
 {below:=hs.below
  mem:=hJw
  kP:=Mem.lP hs.kP sg
  lQ:=λb' hb hf o=>by
   rw[hJo b' (λe=>?_)]
   ·exact hs.lQ b' hb hf o
   ·subst e;rcases hs.jB id _ b' q1 rfl with h|h
    ·omega
    ·exact hf h
  frame:=hs.frame
  loc:=λi=>by
   by_cases hi:i=id
   ·subst hi;rw[hL0];trivial
   ·rw[j7 i hi];exact hs.loc i
  jB:=λi l b' hl hb=>by
   by_cases hi:i=id
   ·subst hi;rw[al1] at hl;cases hl
   ·rw[j7 i hi] at hl;exact hs.jB i l b' hl hb
  size:=hs.size
  env:=λt=>(hs.env t).fix q1 sg hvr
  dom:=λi l hl=>by
   by_cases hi:i=id
   ·subst hi;rw[al1] at hl;cases hl
   ·rw[j7 i hi] at hl;obtain⟨c,hc⟩:=hs.dom i l hl;exact⟨fixC id ps c,by unfold ayj;rw[if_neg hi,hc];rfl⟩
  chunk:=λi c hc=>by
   by_cases hi:i=id
   ·subst hi;unfold ayj at hc;rw[if_pos rfl] at hc;cases hc
   ·unfold ayj at hc;rw[if_neg hi] at hc;cases hci:H i with
    |none=>rw[hci] at hc;cases hc
    |some c0 =>
     rw[hci] at hc;simp only[ayi,cA] at hc;subst hc;have h0:=hs.chunk i c0 hci;cases c0 with
     |box cs =>
      obtain⟨b',aIc,e0,g1,g2,g3,g4,g5,g6⟩:=h0;refine⟨b',aIc,e0,(j7 i hi).trans g1,g2,by rw[oE];exact g3,λj u c hu hc=>?_,g5,λo=>?_⟩
      ·obtain⟨d,hd,rfl⟩:=tU hc;exact (g4 j u d hu hd).fix q1 sg hvr
      ·rw[hJo b' (hnot i _ b' hi g1 rfl)];exact g6 o
     |row v1 e1 s1 es1=>obtain⟨h1,us1,g1,g2,g3,g4,g5,g6,g7⟩:=h0;exact⟨h1,us1,(j7 i hi).trans g1,g2,g3,g4,λj u c hu hc=>(g5 j u c hu hc).mono sg,g6,λb' hb o=>by rw[hJo b' (hnot i _ b' hi g1 hb)];exact g7 b' hb o⟩
     |shut v1 es1=>obtain⟨h1,s1,g1,g2,g3⟩:=h0;exact⟨h1,s1,(j7 i hi).trans g1,g2.mono sg,g3⟩
     |tail v1 e1 s1 es1=>obtain⟨g,o0,cap,arr,g1,g2,g3,g4,g5,g6,g7,g8⟩:=h0;exact⟨g,o0,cap,arr,(j7 i hi).trans g1,g2,g3,g4,g5,g6,g7.mono sg,λj a b=>by rw[hJo g (hnot i _ g hi g1 rfl)];exact g8 j a b⟩
     |deep v1 e1 s1 k1 e2 s2 es1 =>
      obtain⟨h1,us1,qK,g1,g2,g3,g4,g5,g6,g7⟩:=h0;have hk:∀b',(Loc.deep v1 h1 s1 s2 qK es1.length).has b'->w.heap[b']? = w.heap[b']?/\∀o,J b' o=I b' o:=λb' hb=>⟨rfl,λo=>hJo b' (hnot i _ b' hi g1 hb) o⟩
      refine⟨h1,us1,qK,(j7 i hi).trans g1,g2.keep sg λb' hb=>hk b' (.inl hb),g3,g4,g5,λj x hx=>?_,g7⟩;obtain⟨l,us2,m1,m2,m3⟩:=g6 j x hx;exact⟨l,us2,m1,m2.keep sg λb' hb=>hk b' (.inr ⟨j,(List.getElem?_eq_some_iff.1 hx).1,hb⟩),m3⟩
  fK:=λi l b' hl hb=>by
   by_cases hi:i=id
   ·subst hi;rw[al1] at hl;cases hl
   ·rw[j7 i hi] at hl;exact hs.fK i l b' hl hb
  apart:=λi j li lj b' hi hj qX uR=>by
   by_cases ei:i=id
   ·subst ei;rw[al1] at hi;cases hi
   by_cases ej:j=id
   ·subst ej;rw[al1] at hj;cases hj
   rw[j7 i ei] at hi;rw[j7 j ej] at hj;exact hs.apart i j li lj b' hi hj qX uR }
theorem aA3(id:Nat)(ps:List PV)(env:Env)(i:Nat):aEu id ps env i=qM id ps (env i):=rfl
theorem aA4(id:Nat)(ps:List PV)(H:ay)(i:Nat):ayj id ps H i=if i=id then none else ayi id ps (H i):=rfl
theorem atU(id:Nat)(ps:List PV)(c:Chunk):ayi id ps (some c)=some (fixC id ps c):=rfl
theorem atV(id:Nat)(ps:List PV):ayi id ps none=none:=rfl
theorem ayl(id:Nat)(ps:List PV)(cs:List AV):fixC id ps (.box cs) = .box (p5 id ps cs):=rfl
theorem aym(id:Nat)(ps:List PV)(v:Nat)(e:TypeId)(sz:Nat)(es:List (List PV)):fixC id ps (.row v e sz es) = .row v e sz es:=rfl
theorem atW(id:Nat)(ps:List PV):p5 id ps []=[]:=by simp only[p5]
theorem apc(id:Nat)(ps:List PV)(a:AV)(r:List AV):p5 id ps (a :: r)=qM id ps a :: p5 id ps r:=by simp only[p5]
theorem aCV(id:Nat)(ps:List PV)(x:PV):qM id ps (.p x) = .p x:=by simp only[qM]
theorem ayn(id:Nat)(ps:List PV)(i o:Nat):qM id ps (.ptr i o)=if i=id then .p (.dU ps o) else .ptr i o:=by simp only[qM]
theorem ayo(id:Nat)(ps:List PV)(i v:Nat):qM id ps (.row i v)=if i=id then .dead else .row i v:=by simp only[qM]
theorem ayp(id:Nat)(ps:List PV)(f:Fn)(a b:List AV):qM id ps (.iw f a b) = .iw f (p5 id ps a) (p5 id ps b):=by simp only[qM]
theorem ajn{o:Oper}{W:Env->ay->Prop}{env sK:Env}{H H2:ay}(hw:cU env H sK H2){k:FuncId}{ps:List PV}{b:Bool}{id v:Nat}{e:TypeId}{sz:Nat}{es es':List (List PV)}{eL:List AV}(c:kE P k v e sz es ps λa c=>a = .row 1000000 (v+1)/\c=some (.row (v+1) e sz es'))
  (ha:dH o (ev sK)=some (k,.row id v :: eL)) (hH:H2 id=some (.row v e sz es))
  (he:ek (gA (agw H2 id)) eL=some (ps,b)) (hb:b=true->(es'.all λx=>x.all isVal)=true) (hW:W (cH sK o.dst (.row id (v+1))) (bk H2 id (.row (v+1) e sz es'))):jh P o W env H :=
 tP hw (.inl (.inr (.inr ⟨[],.inr ⟨k,id,v,e,sz,es,eL,ps,b,_,ha,hH,he,c,λa c ⟨h1,h2⟩=>by
  subst h1 h2;exact⟨v+1,e,sz,es',.row id (v+1),rfl,rfl,λh=>⟨hb h,rfl⟩,hW⟩⟩⟩)))
attribute [go_sem] ayp aA3 aA4 atU atV ayl aym atW apc aCV ayn ayo
end Go.cr
namespace Go.Proofs.YtjhkgjlmiolfoaaGreat
open Go.cr
theorem al2(n:ah)(id:Int):aS pw 169 [.agg (ag n),.dU [.val (.int .i64 id)] 0] (λv=>v = .val (.bool (decide (n.id=id)))):=by refine aQ [] func169 ?_;rw[ntmps169,results169];simp only[go_sem,ag]
theorem apd(p:aG)(id:Int)(hl:p.az.length<=1000000):aS pw 100 [.agg (aC p),.val (.int .i64 id)] (λv=>v = .val (.bool (p.az.any λn=>decide (n.id=id)))):=by refine aQ [] func100 ?_;rw[ntmps100,results100];simp only[go_sem,aC];have ajo:=zb (λn=>decide (n.id=id)) p.az hl 169 [] [.dU [.val (.int .i64 id)] 0] (λx _=>al2 x id);refine aY (ajo) (by simp only[go_sem]<;>rfl) (b6 rfl) ?_;simp only[go_sem]
theorem al3(n:ah)(p:aG)(hl:p.az.length<=1000000):aS pw 176 [.agg (ag n),.dU (aC p) 0] (λv=>v = .val (.bool (p.az.any λm=>decide (m.id=n.id)))):=by refine aQ [] func176 ?_;rw[ntmps176,results176];simp only[go_sem,ag,aC];refine aY (apd p n.id hl) (by simp only[go_sem,aC]<;>rfl) (b6 rfl) ?_;simp only[go_sem,aC]
theorem ajp(y x:ak):aS pw 179 [.agg (aj y),.dU (aj x) 0] (λv=>v = .val (.bool (decide (x.id=y.id)))):=by refine aQ [] func179 ?_;rw[ntmps179,results179];simp only[go_sem,aj]
theorem al4(x:ak)(p:aG)(hl:p.aF.length<=1000000):aS pw 178 [.agg (aj x),.dU (aC p) 0] (λv=>v = .val (.bool (p.aF.any λy=>decide (x.id=y.id)))):=by refine aQ [] func178 ?_;rw[ntmps178,results178];simp only[go_sem,aj,aC];have ajo:=zd (λy=>decide (x.id=y.id)) p.aF hl 179 [] [.dU (aj x) 0] (λy _=>ajp y x);refine aY (ajo) (by simp only[go_sem,aj]<;>rfl) (b6 rfl) ?_;simp only[go_sem,aj]
theorem ajq(w v:aM):aS pw 184 [.agg (aH w),.dU (aH v) 0] (λr=>r = .val (.bool (decide (v.id=w.id)&&decide (v.attr=w.attr)))):=by
 refine aQ [] func184 ?_;rw[ntmps184,results184];simp only[go_sem,aH]
 repeat' first|done|(refine bU (λh=>?_) (λh=>?_)<;>try simp only[go_sem,h])|(refine bP (λh=>?_) (λh=>?_)<;>try simp only[go_sem,h])|(refine aW (λh=>?_) (λh=>?_)<;>try simp only[go_sem,h])|(refine aK (λh=>?_) (λh=>?_)<;>try simp only[go_sem,h])
theorem al5(v:aM)(p:aG)(hl:p.values.length<=1000000):aS pw 182 [.agg (aH v),.dU (aC p) 0] (λr=>r = .val (.bool (p.values.any λw=>decide (v.id=w.id)&&decide (v.attr=w.attr)))):=by refine aQ [] func182 ?_;rw[ntmps182,results182];simp only[go_sem,aH,aC];have ajo:=agQ (λw=>decide (v.id=w.id)&&decide (v.attr=w.attr)) p.values hl 184 [] [.dU (aH v) 0] (λw _=>ajq w v);refine aY (ajo) (by simp only[go_sem,aH]<;>rfl) (b6 rfl) ?_;simp only[go_sem,aH]
theorem al6(l:List ah)(hl:l.length<=1000000):br pw 175 [.aV (l.map ag)] (λr=>r = .row 75 3 (l.map ag)):=by
 by_cases h0:l=[]
 ·subst h0;refine br.tB (by kernel_rfl) λao cap=>?_
  refine bB [5] func175 ?_;rw[ntmps175,results175];simp only[go_sem];cases ao with
  |none=>simp only[go_sem];exact⟨by decide,_,.nil _ _ (by decide),rfl⟩
  |some a=>simp only[go_sem];exact⟨λ_ h=>h.elim,by decide,_,.refl _,rfl⟩
 ·have hne:l.map ag≠[]:=by simpa using h0
  refine bB [5] func175 ?_;rw[ntmps175,results175];simp only[go_sem,hne];exact⟨⟨by omega,eW (n:=3) (f:=ag) (λ_=>rfl) l⟩,by decide,_,.refl _,rfl⟩
theorem al7(l:List ak)(hl:l.length<=1000000):br pw 91 [.aV (l.map aj)] (λr=>r = .row 102 4 (l.map aj)):=by
 by_cases h0:l=[]
 ·subst h0;refine br.tB (by kernel_rfl) λao cap=>?_
  refine bB [5] func91 ?_;rw[ntmps91,results91];simp only[go_sem];cases ao with
  |none=>simp only[go_sem];exact⟨by decide,_,.nil _ _ (by decide),rfl⟩
  |some a=>simp only[go_sem];exact⟨λ_ h=>h.elim,by decide,_,.refl _,rfl⟩
 ·have hne:l.map aj≠[]:=by simpa using h0
  refine bB [5] func91 ?_;rw[ntmps91,results91];simp only[go_sem,hne];exact⟨⟨by omega,eW (n:=4) (f:=aj) (λ_=>rfl) l⟩,by decide,_,.refl _,rfl⟩
theorem ape(l:List aM)(hl:l.length<=1000000):br pw 181 [.aV (l.map aH)] (λr=>r = .row 105 4 (l.map aH)):=by
 by_cases h0:l=[]
 ·subst h0;refine br.tB (by kernel_rfl) λao cap=>?_
  refine bB [5] func181 ?_;rw[ntmps181,results181];simp only[go_sem];cases ao with
  |none=>simp only[go_sem];exact⟨by decide,_,.nil _ _ (by decide),rfl⟩
  |some a=>simp only[go_sem];exact⟨λ_ h=>h.elim,by decide,_,.refl _,rfl⟩
 ·have hne:l.map aH≠[]:=by simpa using h0
  refine bB [5] func181 ?_;rw[ntmps181,results181];simp only[go_sem,hne];exact⟨⟨by omega,eW (n:=4) (f:=aH) (λ_=>rfl) l⟩,by decide,_,.refl _,rfl⟩
def nk(p q:aG):aG:={ q with
 az:=q.az.filter λn=>!p.az.any λm=>decide (m.id=n.id)
 aF:=q.aF.filter λx=>!p.aF.any λy=>decide (x.id=y.id)
 values:=q.values.filter λv=>!p.values.any λw=>decide (v.id=w.id)&&decide (v.attr=w.attr) }
theorem apf(p q:aG)(h1:p.az.length<=1000000)(h2:p.aF.length<=1000000)(h3:p.values.length<=1000000)(g1:q.az.length<=1000000)(g2:q.aF.length<=1000000)(g3:q.values.length<=1000000)(r:aG)(hr:r=nk p q) :
  br pw 103 [.agg (aC p),.agg (aC q)] (λv=>v = .agg [.row 75 3 (r.az.map ag),.row 102 4 (r.aF.map aj),.p (.aV (r.aR.map ag)),.p (.aV (r.aP.map aj)),.row 105 4 (r.values.map aH),.p (.val (.int .i64 r.next.x0)),.p (.val (.int .i64 r.next.x1))]):=by
 subst hr;have hd1:=ao6 (λn=>p.az.any λm=>decide (m.id=n.id)) q.az g1 0 176 [] [.dU (aC p) 0] (λx _=>al3 x p h1);have hd2:=ao7 (λx=>p.aF.any λy=>decide (x.id=y.id)) q.aF g2 0 178 [] [.dU (aC p) 0] (λx _=>al4 x p h2);have hd3:=atS (λv=>p.values.any λw=>decide (v.id=w.id)&&decide (v.attr=w.attr)) q.values g3 0 182 [] [.dU (aC p) 0] (λx _=>al5 x p h3);refine bB [] func103 ?_;rw[ntmps103,results103];simp only[go_sem,aC];refine wB 1000 (al6 q.az g1) (by simp only[go_sem]<;>rfl) (yX) (by simp only[go_sem]) ?_;simp only[go_sem];refine ajn (ayk 2 (aC p) (by decide) (by simp only[go_sem,aC])) hd1 (by simp only[go_sem]<;>rfl) (by simp only[go_sem]<;>rfl) (by simp only[go_sem]<;>rfl) (λh=>by cases h) ?_;simp only[go_sem];refine wB 1001 (al7 q.aF g2) (by simp only[go_sem]<;>rfl) (yX) (by simp only[go_sem]) ?_;simp only[go_sem];refine wC hd2 (by simp only[go_sem]<;>rfl) (by simp only[go_sem]<;>rfl) (by simp only[go_sem]<;>rfl) (λh=>by cases h) ?_;simp only[go_sem];refine wB 1002 (ape q.values g3) (by simp only[go_sem]<;>rfl) (yX) (by simp only[go_sem]) ?_;simp only[go_sem];refine wC hd3 (by simp only[go_sem]<;>rfl) (by simp only[go_sem]<;>rfl) (by simp only[go_sem]<;>rfl) (λh=>by cases h) ?_;simp only[go_sem];exact⟨by decide,_,.refl _,rfl⟩
theorem al8{α:Type}(es:List α)(z:α)(i j:Nat)(hij:i<j)(hj:j<=es.length):(splice (splice es i ((es.drop j).take (es.length-j))) (i+(es.length-j)) (List.replicate (es.length-(i+(es.length-j))) z)).take (i+(es.length-j))=es.take i++es.drop j:=by
 have h1:(es.drop j).take (es.length-j)=es.drop j:=List.take_of_length_le (by simp);rw[h1];unfold splice;have e1:(es.take i++es.drop j++es.drop (i+(es.drop j).length)).take (i+(es.length-j))=es.take i++es.drop j:=by
  have hl:(es.take i++es.drop j).length=i+(es.length-j):=by simp;omega
  rw[<-hl,List.take_left]
 rw[e1,List.append_assoc];have hl:(es.take i++es.drop j).length=i+(es.length-j):=by simp;omega
 rw[<-hl,List.take_left]
theorem aA5(es:List (List PV))(i j:Nat)(v:Nat)(hij:i<j)(hj:j<=es.length)(hn:es.length<=1000000):kE pw 249 v 75 3 es [.val (.int .i64 i),.val (.int .i64 j)] (λa c=>a = .row 1000000 (v+1)/\c=some (.row (v+1) 75 3 (es.take i++es.drop j))):=by
 refine rE ?_;refine mK [] Ty.mixed func249 rfl (by kernel_rfl) (by simp[ntmps249]) ?_;rw[ntmps249,results249];simp only[go_sem];refine aqu 41 _ _ _ _ 0 1000000 v 75 3 es .i64 .i64 .i64 i j es.length rfl (by simp only[go_sem]) (by simp only[go_sem]) (by simp only[go_sem]) (by simp only[go_sem]) (by simp only[go_sem]) (by simp only[go_sem]) (by simp only[go_sem]) (by simp only[go_sem]) (by omega) ?_;simp only[go_sem];refine aK (λhc=>?_) (λhc=>?_)
 ·have:=cu hc;omega
 simp only[go_sem];refine dw [.p,.p,.p,.p,.p,.p,.t,.t] (by kernel_rfl) ?_;simp only[go_sem,Nat.sub_zero];refine⟨⟨by omega,by omega⟩,⟨by omega,by omega⟩,?_⟩;refine alQ 41 41 _ _ 1000000 v i es.length j (es.length-j) (es.length-j) 75 3 _ es rfl (by simp only[go_sem]<;>rfl) (by simp only[go_sem]) (by simp only[go_sem]) (by simp only[go_sem]) (by omega) (by omega) (by omega) (by omega) ?_;simp only[go_sem];have hsl:(splice es i ((es.drop j).take (es.length-j))).length=es.length:=ef (by simp;omega);refine⟨⟨by omega,by omega⟩,?_⟩;refine rD 41 _ 1000000 v (i+(es.length-j)) (es.length-(i+(es.length-j))) _ 75 3 (splice es i ((es.drop j).take (es.length-j))) _ rfl (by simp only[go_sem]) (by simp only[go_sem]<;>rfl) rfl (by decide) rfl (by simp only[go_sem]<;>rfl) (by simp only[go_sem]) (by omega) (by omega) ?_;simp only[go_sem];have hd:=al8 es ((cN pw 75).getD [] |>.map PV.val) i j hij hj;have hl:i+(es.length-j)<=(splice (splice es i ((es.drop j).take (es.length-j))) (i+(es.length-j)) (List.replicate (es.length-(i+(es.length-j))) ((cN pw 75).getD [] |>.map PV.val))).length:=by rw[ef (by rw[hsl,List.length_replicate];omega),hsl];omega
 rw[show (cN pw 75).getD []=_ from by simp only[go_sem]<;>rfl] at hd hl;simp only[qZ,List.length_replicate,List.append_assoc,List.map_cons,List.map_nil] at hd hl;exact⟨_,_,_,.inl rfl,rfl,hl,hd⟩
theorem aA6(es:List (List PV))(i j:Nat)(v:Nat)(hij:i<j)(hj:j<=es.length)(hn:es.length<=1000000):kE pw 250 v 102 4 es [.val (.int .i64 i),.val (.int .i64 j)] (λa c=>a = .row 1000000 (v+1)/\c=some (.row (v+1) 102 4 (es.take i++es.drop j))):=by
 refine rE ?_;refine mK [] Ty.mixed func250 rfl (by kernel_rfl) (by simp[ntmps250]) ?_;rw[ntmps250,results250];simp only[go_sem];refine aqu 42 _ _ _ _ 0 1000000 v 102 4 es .i64 .i64 .i64 i j es.length rfl (by simp only[go_sem]) (by simp only[go_sem]) (by simp only[go_sem]) (by simp only[go_sem]) (by simp only[go_sem]) (by simp only[go_sem]) (by simp only[go_sem]) (by simp only[go_sem]) (by omega) ?_;simp only[go_sem];refine aK (λhc=>?_) (λhc=>?_)
 ·have:=cu hc;omega
 simp only[go_sem];refine dw [.p,.p,.p,.p,.p,.p,.t,.t] (by kernel_rfl) ?_;simp only[go_sem,Nat.sub_zero];refine⟨⟨by omega,by omega⟩,⟨by omega,by omega⟩,?_⟩;refine alQ 42 42 _ _ 1000000 v i es.length j (es.length-j) (es.length-j) 102 4 _ es rfl (by simp only[go_sem]<;>rfl) (by simp only[go_sem]) (by simp only[go_sem]) (by simp only[go_sem]) (by omega) (by omega) (by omega) (by omega) ?_;simp only[go_sem];have hsl:(splice es i ((es.drop j).take (es.length-j))).length=es.length:=ef (by simp;omega);refine⟨⟨by omega,by omega⟩,?_⟩;refine rD 42 _ 1000000 v (i+(es.length-j)) (es.length-(i+(es.length-j))) _ 102 4 (splice es i ((es.drop j).take (es.length-j))) _ rfl (by simp only[go_sem]) (by simp only[go_sem]<;>rfl) rfl (by decide) rfl (by simp only[go_sem]<;>rfl) (by simp only[go_sem]) (by omega) (by omega) ?_;simp only[go_sem];have hd:=al8 es ((cN pw 102).getD [] |>.map PV.val) i j hij hj;have hl:i+(es.length-j)<=(splice (splice es i ((es.drop j).take (es.length-j))) (i+(es.length-j)) (List.replicate (es.length-(i+(es.length-j))) ((cN pw 102).getD [] |>.map PV.val))).length:=by rw[ef (by rw[hsl,List.length_replicate];omega),hsl];omega
 rw[show (cN pw 102).getD []=_ from by simp only[go_sem]<;>rfl] at hd hl;simp only[qZ,List.length_replicate,List.append_assoc,List.map_cons,List.map_nil] at hd hl;exact⟨_,_,_,.inl rfl,rfl,hl,hd⟩
theorem apg(n:ah)(id:Int):aS pw 239 [.agg (ag n),.dU [.val (.int .i64 id)] 0] (λv=>v = .val (.bool (decide (n.id=id)))):=by refine aQ [] func239 ?_;rw[ntmps239,results239];simp only[go_sem,ag]
theorem adh(l:List ah)(hl:l.length<=1000000)(id:Int):aS pw 142 [.aV (l.map ag),.val (.int .i64 id)] (λv=>v = .val (.int .i64 (idxOf (λn=>decide (n.id=id)) l))):=by refine aQ [] func142 ?_;rw[ntmps142,results142];simp only[go_sem];have ajo:=za (λn=>decide (n.id=id)) l hl 239 [] [.dU [.val (.int .i64 id)] 0] (λx _=>apg x id);refine aY (ajo) (by simp only[go_sem]<;>rfl) (b6 rfl) ?_;simp only[go_sem]
theorem aph(n:ak)(id:Int):aS pw 241 [.agg (aj n),.dU [.val (.int .i64 id)] 0] (λv=>v = .val (.bool (decide (n.id=id)))):=by refine aQ [] func241 ?_;rw[ntmps241,results241];simp only[go_sem,aj]
theorem ahL(l:List ak)(hl:l.length<=1000000)(id:Int):aS pw 143 [.aV (l.map aj),.val (.int .i64 id)] (λv=>v = .val (.int .i64 (idxOf (λn=>decide (n.id=id)) l))):=by refine aQ [] func143 ?_;rw[ntmps143,results143];simp only[go_sem];have ajo:=zc (λn=>decide (n.id=id)) l hl 241 [] [.dU [.val (.int .i64 id)] 0] (λx _=>aph x id);refine aY (ajo) (by simp only[go_sem]<;>rfl) (b6 rfl) ?_;simp only[go_sem]
def bF(x:ax)(i:Nat):ah:=⟨x.nodes.getD i default,x.host.graph.nodes.getD i default,x.host.values.getD i default⟩
def bC(x:ax):List ah:=(List.range x.nodes.length).map (bF x)
theorem ayq(x:ax)(h1:x.nodes.length<=x.host.graph.nodes.length)(h2:x.nodes.length<=x.host.values.length)(h3:x.nodes.length<=1000000)(h4:∀l∈x.host.values,l.length<=1000000) :
  br pw 140 [.agg (aA x)] (λv=>v = .deep 75 3 2 3 1 ((bC x).map ag)):=by
 refine bB [31] func140 ?_;rw[ntmps140,results140];simp only[go_sem,aA];refine bL (σ:=Nat) (λi=>(cE (cE (cE (cE (cE fT 1 (.ptr 1 0)) 3 (.eG 2000 i)) 7 (.p (.aV (x.nodes.map encI)))) 8 (.p (.val (.int .i64 x.nodes.length)))) 9 (.p (.val (.int .i64 i))))) (λi=>(bk (bk cm 1 (.box [.p (.aV (x.host.graph.nodes.map encI)),.p (.aV (x.host.graph.au.map aZ)),.p (.aV (x.host.values.map bI)),.p (.aV (x.nodes.map encI)),.p (.aV (x.au.map encI)),.p (.val (.int .i64 x.next))])) 2000 (.deep i 75 3 2 3 1 (((bC x).take i).map ag))))
  (λi=>i<=x.nodes.length) (λi=>x.nodes.length-i) 0 (Nat.zero_le _) (cU.trans (atz 3 2000 75 3 2 3 1 (by simp only[go_sem]) (by simp only[go_sem]) (by decide)) bX) ?_
 rintro i hi;simp only[go_sem,aA];refine aK (λhc=>?_) (λhc=>?_)
 ·have hlt:i<x.nodes.length:=by have:=cu hc;omega
  have sN:i<x.host.graph.nodes.length:=by omega
  have au4:i<x.host.values.length:=by omega
  simp only[go_sem,getD_map encI hlt,encI];refine⟨hlt,?_⟩;refine dw [.p,.p,.q,.q,.q,.q,.p,.q,.q,.q,.q,.q,.p,.q,.q,.f,.p,.w,.t,.t] (by kernel_rfl) ?_;simp only[go_sem,getD_map encI sN,getD_map bI au4,encI,bI,bl];refine⟨sN,au4,?_⟩;have hm:x.host.values.getD i default∈x.host.values:=by simp[au4]
  refine aeu 1464 (ahv (x.host.values.getD i default) (h4 _ hm)) (by simp only[go_sem]<;>rfl) (gD _) yX (by simp only[go_sem]) (by simp only[go_sem]) ?_;simp only[go_sem];refine alM 41 41 _ _ 2000 31 1464 i 0 2 75 3 40 3 1 (((bC x).take i).map ag) ((x.host.values.getD i default).map encI) [.val (.int .i64 (x.nodes.getD i default)),.val (.int .i64 (x.host.graph.nodes.getD i default)),.val (.slice none 0 0)] rfl (by simp only[go_sem]<;>rfl) (by simp only[go_sem]) (by simp only[go_sem]) (by simp only[go_sem]) (by simp only[go_sem]) (by simp only[go_sem]) rfl (by decide) ?_ ?_
  ·simp;omega
  have hel:((bC x).take i).map ag++[[.val (.int .i64 (x.nodes.getD i default)),.val (.int .i64 (x.host.graph.nodes.getD i default)),.aV ((x.host.values.getD i default).map encI)]]=((bC x).take (i+1)).map ag:=by
   have hl:i<(bC x).length:=by simp[bC];exact hlt
   rw[og hl,List.map_append,List.map_cons,List.map_nil];have hg:(bC x).getD i default=bF x i:=by simp[bC,hlt]
   rw[hg];rfl
  simp only[go_sem,bz hlt (by omega)];refine bM (i+1) hlt (by omega) ?_;rw[hel];exact bX
 ·have:i=x.nodes.length:=by have:=en hc;omega
  subst this;simp only[go_sem];exact⟨by decide,_,.refl _,by rw[List.take_of_length_le (by simp[bC])]⟩
def ceq(a b:aI):Bool:=decide (a.kind=b.kind)&&(decide (a.id=b.id)&&decide (a.attr=b.attr))
theorem ayr(a b:aI):ceq a b=true↔a=b:=by cases a;cases b;simp[ceq]
def fresh(l:List aI)(j:Nat):Bool:=decide (j=0) || !ceq (l.getD j default) (l.getD (j-1) default)
theorem acg{l:List aI}{j:Nat}{b:Bool}(h1:1<=j)(h:ceq (l.getD j default) (l.getD (j-1) default)=b):fresh l j = !b:=by unfold fresh;rw[h,eZ (by omega),Bool.false_or]
def kept(l:List aI):Nat->List aI
 |0=>[]
 |j+1=>if fresh l j then kept l j++[l.getD j default] else kept l j
theorem ach(l:List aI):∀j,j<=l.length->(∀i,i<j->fresh l i=true)->kept l j=l.take j
 |0,_,_=>rfl
 |j+1,hj,h=>by rw[kept,if_pos (h j (by omega)),ach l j (by omega) λi hi=>h i (by omega),og (by omega)]
theorem al9(l:List aI):∀j,(kept l j).length<=j
 |0=>Nat.le_refl _
 |j+1=>by
  have:=al9 l j;unfold kept;split
  ·simp;omega
  ·omega
def kS(K g l:List aI)(j:Nat):List aI:=K++g++l.drop (j-1)
theorem atX{K g l:List aI}{j:Nat}(h:K.length+g.length=j-1)(hj:j<=l.length):(kS K g l j).length=l.length:=by simp[kS];omega
theorem ama{K g l:List aI}{j:Nat}(h:K.length+g.length=j-1)(i:Nat)(hi:j-1<=i):(kS K g l j).getD i default=l.getD i default:=by
 have h1:(K++g).length=j-1:=by rw[List.length_append];exact h
 simp only[kS,List.getD_eq_getElem?_getD];rw[List.getElem?_append_right (by omega),h1,List.getElem?_drop,show j-1+(i-(j-1))=i by omega]
theorem api{K g l:List aI}{j:Nat}(h1:1<=j)(hj:j<l.length):kS K g l j=kS K (g++[l.getD (j-1) default]) l (j+1):=by
 have h2:l.drop (j-1)=l.getD (j-1) default :: l.drop j:=by rw[List.drop_eq_getElem_cons (by omega)];simp[show j-1<l.length by omega,show j-1+1=j by omega]
 simp[kS,h2]
theorem apj{K g l:List aI}{j:Nat}(x:aI)(h:K.length+g.length=j-1)(h1:1<=j)(hj:j<l.length):∃g2,(kS K g l j).set K.length x=kS (K++[x]) g2 l (j+1)/\(K++[x]).length+g2.length=j+1-1:=by
 have h2:l.drop (j-1)=l.getD (j-1) default :: l.drop j:=by rw[List.drop_eq_getElem_cons (by omega)];simp[show j-1<l.length by omega,show j-1+1=j by omega]
 cases g with
 |nil=>refine⟨[],?_,by simp at h ⊢;omega⟩;rw[kS,h2,List.append_nil,List.set_append_right _ _ (Nat.le_refl _),Nat.sub_self];simp[kS]
 |cons y r=>refine⟨r++[l.getD (j-1) default],?_,by simp at h ⊢;omega⟩;rw[kS,h2,List.append_assoc,List.set_append_right _ _ (Nat.le_refl _),Nat.sub_self];simp[kS]
theorem aCW(z:List PV)(K g l:List aI)(i:Nat)(hi:K.length=i)(hl:(kS K g l l.length).length=l.length):(splice ((kS K g l l.length).map aB) i (List.replicate (l.length-i) z)).take i=K.map aB:=by
 unfold kS splice;rw[List.map_append,List.map_append,List.append_assoc,List.append_assoc];have h2:(K.map aB).length=i:=by rw[List.length_map];exact hi
 rw[<-h2,List.take_left,List.take_left]
theorem apk(l:List aI)(hl:l.length<=1000000)(v:Nat):kE pw 173 v 57 3 (l.map aB) []
  (λa c=>a = .row 1000000 (v+1)/\c=some (.row (v+1) 57 3 ((kept l l.length).map aB))):=by
 refine rE ?_;refine mK [] Ty.mixed func173 rfl (by kernel_rfl) (by simp[ntmps173]) ?_;rw[ntmps173,results173];simp only[go_sem];refine aK (λhc=>?_) (λhc=>?_)
 ·have ql:l.length<2:=by have:=cu hc;omega
  simp only[go_sem];refine⟨_,_,0,rfl,rfl,Nat.le_refl _,?_⟩;rw[List.take_length,ach l _ (Nat.le_refl _) (λi hi=>by have e0:i=0:=(by omega);subst e0;rfl),List.take_length]
 have ql:2<=l.length:=by have:=en hc;omega
 simp only[go_sem];refine bL (σ:=Nat) (λx=>(cE (cE fT 0 (.row 1000000 v)) 3 (.p (.val (.int .i64 x))))) (λx=>(bk cm 1000000 (.row v 57 3 (l.map aB))))
  (λx=>1<=x/\x<=l.length/\∀i,i<x->fresh l i=true) (λx=>l.length-x) 1 ⟨Nat.le_refl _,by omega,λi hi=>by have e0:i=0:=(by omega);subst e0;rfl⟩ bX ?_
 rintro k ⟨hk1,hk2,hk3⟩;simp only[go_sem];refine aK (λhc=>?_) (λhc=>?_)
 ·have hlt:k<l.length:=by have:=cu hc;omega
  have hw:i64.wrap ((k:Int)-1)=((k-1:Nat):Int):=by rw[IntWalk.i64_in _ (by omega)];omega
  have sN:k-1<l.length:=by omega
  simp only[go_sem,hw,getD_map aB hlt,getD_map aB sN,aB];refine dw [.q,.q,.q,.q,.q,.q,.q,.q,.q,.q] (by kernel_rfl) ?_;simp only[go_sem,hw,getD_map aB hlt,getD_map aB sN,aB];refine⟨hlt,hlt,by omega,sN,?_⟩;refine aK (λhb=>?_) (λhb=>?_)
  ·have hf:=acg hk1 hb;simp only[go_sem,hw,getD_map aB hlt,getD_map aB sN,aB];refine jL _ _ (nD 26 1000000 v 57 3 _ rfl rfl) (by simp only[go_sem,hw,getD_map aB hlt,getD_map aB sN,aB]<;>rfl) ?_ ?_
   ·omega
   simp only[go_sem,hw,getD_map aB hlt,getD_map aB sN,aB];refine bL (σ:=Nat×List aI×List aI) (λx=>(cE (cE (cE (cE fT 0 (.row 1000000 v)) 3 (.p (.val (.int .i64 x.2.1.length)))) 4 (.iA 1000000 v k (l.length-k) (l.length-k) 3)) 5 (.p (.val (.int .i64 x.1))))) (λx=>(bk cm 1000000 (.row v 57 3 ((kS x.2.1 x.2.2 l (k+x.1)).map aB))))
    (λx=>1<=x.1/\k+x.1<=l.length/\x.2.1=kept l (k+x.1)/\x.2.1.length+x.2.2.length=k+x.1-1) (λx=>l.length-(k+x.1)) (1,l.take k,[]) ⟨Nat.le_refl _,hlt,?_,?_⟩ ?_ ?_
   ·simp only;rw[kept,if_neg (by rw[hf];simp),ach l k (by omega) hk3]
   ·simp;omega
   ·have:kS (l.take k) [] l (k+1)=l:=by simp[kS]
    have qJ:(l.take k).length=k:=by simp;omega
    rw[this,qJ];exact bX
   rintro⟨x,K,g⟩ ⟨hx1,hx2,hx3,hx4⟩;simp only at hx1 hx2 hx3 hx4;have hlen:=atX hx4 hx2;simp only[go_sem,hw,getD_map aB hlt,getD_map aB sN,aB];refine aK (λy6=>?_) (λy6=>?_)
   ·have hx:k+x<l.length:=by have:=cu y6;omega
    have hwx:i64.wrap ((x:Int)-1)=((x-1:Nat):Int):=by rw[IntWalk.i64_in _ (by omega)];omega
    have hi1:k+x<(kS K g l (k+x)).length:=by omega
    have hi2:k+(x-1)<(kS K g l (k+x)).length:=by omega
    have hg1:((kS K g l (k+x)).map aB).getD (k+x) []=aB (l.getD (k+x) default):=by rw[getD_map aB hi1,ama hx4 _ (by omega)]
    have hg2:((kS K g l (k+x)).map aB).getD (k+(x-1)) []=aB (l.getD (k+x-1) default):=by rw[getD_map aB hi2,ama hx4 _ (by omega),show k+(x-1)=k+x-1 by omega]
    simp only[go_sem,hw,getD_map aB hlt,getD_map aB sN,aB,hwx,hg1,hg2,hlen];refine dw [.q,.q,.q,.q,.q,.q,.q,.q,.q,.q] (by kernel_rfl) ?_;simp only[go_sem,hw,getD_map aB hlt,getD_map aB sN,aB,hwx,hg1,hg2,hlen];refine⟨⟨by omega,by omega⟩,by omega,⟨by omega,by omega⟩,by omega,?_⟩;refine aW (λhe=>?_) (λhe=>?_)
    ·have hf2:=acg (show 1<=k+x by omega) he;simp only[go_sem,bz (show x<l.length by omega) (by omega),hw,getD_map aB hlt,getD_map aB sN,aB,hwx,hg1,hg2,hlen];refine bM (x+1,K,g++[l.getD (k+x-1) default]) ⟨by omega,hx,?_,by simp;omega⟩ (by simp only;omega) ?_
     ·show K=kept l (k+x+1);rw[kept,if_neg (by rw[hf2];simp)];exact hx3
     ·rw[api (by omega) hx];exact bX
    ·have hf2:=acg (show 1<=k+x by omega) he;obtain⟨g2,e1,e2⟩:=apj (l.getD (k+x) default) hx4 (by omega) hx;have hst:((kS K g l (k+x)).map aB).set K.length (aB (l.getD (k+x) default))=(kS (K++[l.getD (k+x) default]) g2 l (k+x+1)).map aB:=by rw[<-e1,List.map_set]
     have hKl:K.length<l.length:=by omega
     have hgK:((kS K g l (k+x)).map aB).getD K.length []=aB ((kS K g l (k+x)).getD K.length default):=getD_map aB (by omega);simp only[aB] at hst;simp only[go_sem,bz (show x<l.length by omega) (by omega),bz hKl (by omega),hgK,hw,getD_map aB hlt,getD_map aB sN,aB,hwx,hg1,hg2,hlen];refine⟨⟨by omega,by omega⟩,hx,hKl,hKl,?_⟩;refine bM (x+1,K++[l.getD (k+x) default],g2) ⟨by omega,hx,?_,e2⟩ (by simp only;omega) ?_
     ·show K++_=kept l (k+x+1);rw[kept,if_pos (by rw[hf2];rfl),hx3]
     ·rw[hst];exact bX
   ·have hkx:k+x=l.length:=by have:=en y6;omega
    rw[hkx] at hx3 hx4 hlen;have hKl:K.length<l.length:=by omega
    have hsl:((kS K g l l.length).map aB).length=l.length:=by rw[List.length_map];exact hlen
    have hend:=aCW [PV.val (.int .i64 0),PV.val (.int .i64 0),PV.val (.int .i64 0)] K g l K.length rfl hlen;simp only[qZ,List.length_replicate,List.append_assoc] at hend;rw[hkx];generalize (kS K g l l.length).map aB=E at hsl hend ⊢;simp only[go_sem,hw,getD_map aB hlt,getD_map aB sN,aB];refine jL _ _ (nD 54 1000000 v 57 3 _ rfl rfl) (by simp only[go_sem,hw,getD_map aB hlt,getD_map aB sN,aB]<;>rfl) ?_ ?_
    ·omega
    simp only[go_sem,hsl,hw,getD_map aB hlt,getD_map aB sN,aB];refine rD 52 _ 1000000 v K.length (l.length-K.length) _ 57 3 E _ rfl (by simp only[go_sem,hw,getD_map aB hlt,getD_map aB sN,aB]) (by simp only[go_sem,hw,getD_map aB hlt,getD_map aB sN,aB]<;>rfl) rfl (by decide) rfl (by simp only[go_sem,hw,getD_map aB hlt,getD_map aB sN,aB]<;>rfl) (by simp only[go_sem,hw,getD_map aB hlt,getD_map aB sN,aB]) (by omega) (by omega) ?_;simp only[go_sem,hw,getD_map aB hlt,getD_map aB sN,aB];refine jL _ _ (nD 57 1000000 v 57 3 _ rfl rfl) (by simp only[go_sem,hw,getD_map aB hlt,getD_map aB sN,aB]<;>rfl) ?_ ?_
    ·simp[hsl];omega
    simp only[go_sem,hw,getD_map aB hlt,getD_map aB sN,aB];exact⟨_,_,_,.inl rfl,rfl,by simp[hsl];omega,by rw[<-hx3];exact hend⟩
  ·have hf:=acg hk1 hb;simp only[go_sem,bz hlt (by omega),hw,getD_map aB hlt,getD_map aB sN,aB];refine bM (k+1) ⟨by omega,hlt,λi hi=>?_⟩ (by omega) bX;rcases Nat.lt_succ_iff_lt_or_eq.1 hi with h|h
   ·exact hk3 i h
   ·rw[h,hf];rfl
 ·have:k=l.length:=by have:=en hc;omega
  subst this;simp only[go_sem];exact⟨_,_,0,rfl,rfl,Nat.le_refl _,by rw[List.take_length,ach l _ (Nat.le_refl _) hk3,List.take_length]⟩
def leC(x y:aI):Bool:=decide (x.id<y.id\/x.id=y.id/\x.attr<=y.attr)
def oo(x:aI):Prop:=-1000000<=x.id/\x.id<=1000000/\-1000000<=x.attr/\x.attr<=1000000
def iU(l:List aI):List aI:=kept (l.mergeSort leC) l.length
def k9(l:List ah)(m:List ak)(id:Int):Bool:=(l.any λn=>decide (n.id=id))||m.any λe=>decide (e.id=id)
def eD(a b:ah):Bool:=decide (a.id=b.id)&&(decide (a.type=b.type)&&decide (a.values=b.values))
def lM:List ah->List ah->Nat->Bool×List ah×Nat
 |l,[],v=>(true,l,v)
 |l,n :: r,v=>match l.findIdx? λm=>decide (m.id=n.id) with
  |none=>(false,l,v)
  |some i=>if eD (l.getD i default) n then lM (l.take i++l.drop (i+1)) r (v+1) else (false,l,v)
def rU(a b:ak):Bool:=decide (a.id=b.id)&&(decide (a.type=b.type)&&(decide (a.src=b.src)&&decide (a.dst=b.dst)))
def nS:List ak->List ak->Nat->Bool×List ak×Nat
 |l,[],v=>(true,l,v)
 |l,n :: r,v=>match l.findIdx? λm=>decide (m.id=n.id) with
  |none=>(false,l,v)
  |some i=>if rU (l.getD i default) n then nS (l.take i++l.drop (i+1)) r (v+1) else (false,l,v)
def okV(l:List Int)(v:aM):Bool:=!decide (v.attr<0)&&(!decide ((l.length:Int)<=v.attr)&&(decide (l.getD v.attr.toNat default=v.old) && !decide (v.new=v.old)))
def lN:List ah->List aM->Bool×List ah
 |l,[]=>(true,l)
 |l,v :: r=>match l.findIdx? λm=>decide (m.id=v.id) with
  |none=>(false,l)
  |some i=>if okV (l.getD i default).values v then lN (l.set i { l.getD i default with values:=(l.getD i default).values.set v.attr.toNat v.new }) r else (false,l)
def gM(l:List ah)(m:List ak)(p:aG):Bool:=(p.aR.any λn=>k9 l m n.id)||p.aP.any λe=>k9 l m e.id
def kG(l:List ah):List ah:=l.mergeSort λx y=>decide (x.id<=y.id)
def nT(l:List ak):List ak:=l.mergeSort λx y=>decide (x.id<=y.id)
def ahM{α:Type} [Inhabited α](f:α->Int)(d:List α):Prop:=∀i j,i<d.length->j<d.length->f (d.getD i default)=f (d.getD j default)->i=j
instance{α:Type} [Inhabited α](f:α->Int)(d:List α):Decidable (ahM f d):=decidable_of_iff (∀i,i<d.length->∀j,j<d.length->f (d.getD i default)=f (d.getD j default)->i=j) ⟨λh i j hi hj=>h i hi j hj,λh i hi j hj=>h i j hi hj⟩
def qv(a b:Int):Int:=if a<b then -1 else if a > b then 1 else 0
end Go.Proofs.YtjhkgjlmiolfoaaGreat
namespace Go.cr
theorem ays(id:Nat)(env:Env)(i:Nat):aqs id env i=lE id (env i):=rfl
theorem ayt(id:Nat)(H:ay)(i:Nat):aaO id H i=if i=id then aA0 (H i) else alO id (H i):=rfl
theorem aA7(id:Nat)(x:PV):lE id (.p x) = .p x:=by simp only[lE]
theorem apl(id i v:Nat):lE id (.eG i v)=if i=id then .row i v else .eG i v:=by simp only[lE]
theorem atY(id i v:Nat):lE id (.row i v)=if i=id then .dead else .row i v:=by simp only[lE]
theorem at0(id i o:Nat):lE id (.ptr i o)=if i=id then .dead else .ptr i o:=by simp only[lE]
theorem apm(id:Nat):nN id []=[]:=by simp only[nN]
theorem amb(id:Nat)(a:AV)(r:List AV):nN id (a :: r)=lE id a :: nN id r:=by simp only[nN]
theorem apn(id:Nat)(c:Chunk):alO id (some c)=some (ahJ id c):=rfl
theorem apo(id:Nat):alO id none=none:=rfl
theorem at1(id:Nat)(cs:List AV):ahJ id (.box cs) = .box (nN id cs):=rfl
theorem at2(id v:Nat)(e:TypeId)(sz:Nat)(es:List (List PV)):ahJ id (.row v e sz es) = .row v e sz es:=rfl
theorem apq(id v:Nat)(e:TypeId)(sz k:Nat)(e':TypeId)(sz':Nat)(es:List (List PV)):ahJ id (.deep v e sz k e' sz' es) = .deep v e sz k e' sz' es:=rfl
theorem at3(v:Nat)(e:TypeId)(sz k:Nat)(e':TypeId)(sz':Nat)(es:List (List PV)):aA0 (some (.deep v e sz k e' sz' es))=some (.row v e sz es):=rfl
attribute [go_sem] ays ayt aA7 apl atY at0 apm amb apn apo at1 at2 apq at3 /-! ### aGC with many rows -/
theorem apr{H:ay}(id:Nat):lT H id 5=(H id=none/\lT H (id+1) 4):=rfl
theorem at4{H:ay}(id:Nat):lT H id 6=(H id=none/\lT H (id+1) 5):=rfl
theorem amc{H:ay}(id:Nat):lT H id 7=(H id=none/\lT H (id+1) 6):=rfl
theorem amd{H:ay}(id:Nat):lT H id 8=(H id=none/\lT H (id+1) 7):=rfl
theorem aps{H:ay}(id:Nat):lT H id 9=(H id=none/\lT H (id+1) 8):=rfl
theorem at5{H:ay}(id:Nat):lT H id 10=(H id=none/\lT H (id+1) 9):=rfl
theorem apt{own:List Nat}{ops:Array Oper}(id:Nat):ace own ops id 5=(lC own ops id=false/\ace own ops (id+1) 4):=rfl
attribute [go_sem] apr at4 amc amd aps at5 apt /-! ### aJD with nothing at high ids -/
def ame(n:Nat)(H:ay):Prop:=∀i,n<=i->H i=none
theorem aA8(n:Nat):ame n cm:=λ_ _=>rfl
theorem aci{n i:Nat}{c:Chunk}{H:ay}(hi:i<n)(h:ame n H):ame n (bk H i c):=λj hj=>by unfold bk;rw[if_neg (by omega)];exact h j hj
theorem aev{n s t:Nat}{H:ay}(hs:s<n)(ht:t<n)(h:ame n H):ame n (ajk s t H):=λj hj=>by unfold ajk sw;rw[if_neg (by omega),if_neg (by omega),h j hj];rfl
theorem ayu{n id:Nat}{H:ay}(hi:id<n)(h:ame n H):ame n (aaO id H):=λj hj=>by unfold aaO;rw[if_neg (by omega),h j hj];rfl
theorem keepTop{H H':ay}(h:ame 1000003 H)(h0:H 1000000=none)(h1:H 1000001=none)(h2:H 1000002=none):lS H H':=λi hi hn=>by
 rcases Nat.lt_or_ge i 1000003 with h3|h3
 ·have:i=1000000\/i=1000001\/i=1000002:=by omega
  rcases this with rfl|rfl|rfl
  ·exact absurd h0 hn
  ·exact absurd h1 hn
  ·exact absurd h2 hn
 ·exact absurd (h i h3) hn
open Go.RowKit
variable{P:Program}{I:Mem}{L:bA}
theorem ayv(a b c d e f:PV):iO [a,b,c,d,e,f]=cE (cE (cE (cE (cE (cE fT 0 (.p a)) 1 (.p b)) 2 (.p c)) 3 (.p d)) 4 (.p e)) 5 (.p f):=by funext t;unfold iO cE fT;rcases t with _|_|_|_|_|_|t<;>simp
theorem ayw(a b c d e f g:PV):iO [a,b,c,d,e,f,g]=cE (cE (cE (cE (cE (cE (cE fT 0 (.p a)) 1 (.p b)) 2 (.p c)) 3 (.p d)) 4 (.p e)) 5 (.p f)) 6 (.p g):=by funext t;unfold iO cE fT;rcases t with _|_|_|_|_|_|_|t<;>simp
attribute [go_sem] ayv ayw
theorem at6(op:BinOp)(t:TypeId)(h:qf P t=none)(cs ds:List PV):nK P op t (.p (.agg cs)) (.p (.agg ds))=none:=by unfold nK;rw[h]
theorem ayx(d:Nat){t e:TypeId}(hut:P.underlying t=some (.array 2 e))(hue:P.underlying e=some (.int .i64))(hsz:∀w,(sizeOf e).run P w = .ok 1 w)(a b c d':Int)(w:World):(Op.equalIn (d+2) t (.agg #[.int .i64 a,.int .i64 b]) (.agg #[.int .i64 c,.int .i64 d'])).run P w = .ok (decide (a=c)&&decide (b=d')) w:=by
 have hel:∀x y:Int,(Op.equalIn (d+1) e (.int .i64 x) (.int .i64 y)).run P w = .ok (decide (x=y)) w:=λx y=>by simp only[Op.equalIn,Sem.run_bind,run_underlying hue,Result.andThen_ok,if_true,Sem.run_pure];try rfl
 have hp:∀ (k:Nat) (u:Value) (xs:Array Value),xs[k]? = some u->(part e xs k).run P w = .ok u w:=λk u xs hu=>by
  have:(isAgg e).run P w = .ok false w:=by unfold isAgg;rw[Sem.run_bind,run_underlying hue w];rfl
  simp[part,this,hu]
 rw[show d+2=(d+1)+1 from rfl,Op.equalIn];simp only[Sem.run_bind,run_underlying hut,Result.andThen_ok,hsz];simp only[Std.Legacy.Range.forIn_eq_forIn_range',Std.Legacy.Range.size,List.range',List.forIn_cons,List.forIn_nil];have h0:∀x y:Int,(part e #[.int .i64 x,.int .i64 y] (0 * 1)).run P w = .ok (.int .i64 x) w:=λx y=>hp _ _ _ rfl
 have h1:∀x y:Int,(part e #[.int .i64 x,.int .i64 y] ((0+1) * 1)).run P w = .ok (.int .i64 y) w:=λx y=>hp _ _ _ rfl
 simp only[Sem.run_bind,h0,h1,hel,Result.andThen_ok];cases hA:decide (a=c)<;>cases hB:decide (b=d')<;>simp[h0,h1,hel,hA,hB]<;>simpa using hB
theorem ayy{o:Oper}{W:Env->ay->Prop}{env:Env}{H:ay}{x y:Operand}{ty:TypeId}{a b c d:Int}(t e:TypeId)(hop:o.op = .binOp .eql t x y ty)(hut:P.underlying t=some (.array 2 e))(hue:P.underlying e=some (.int .i64))(hsz:bu P e=some 1)(hg:P.eqGuardType P.depth t=false)
  (hx:ev env x = .p (.agg [.val (.int .i64 a),.val (.int .i64 b)])) (hy:ev env y = .p (.agg [.val (.int .i64 c),.val (.int .i64 d)])) (hW:W (cH env o.dst (.p (.val (.bool (decide (a=c)&&decide (b=d)))))) H):jh P o W env H :=
 .inr (.inr (.inl ⟨_,H,hW,λC I L tm w σ hs hσ=>by
  have e0:execOp σ o=(do pure (.value (<- (do eqGuard .eql t x y (σ x) (σ y);binOp .eql t (σ x) (σ y)))):Sem Next):=by unfold execOp;rw[hop]
  rw[e0];have g1:=hσ x;have g2:=hσ y;rw[hx] at g1;rw[hy] at g2;have two:∀ {u:Value} {m n:Int},eo I L u (.p (.agg [.val (.int .i64 m),.val (.int .i64 n)]))->u = .agg #[.int .i64 m,.int .i64 n]:=λ{u m n} h=>by
   cases h.nJ with
   |agg us _ hl hv hone =>
    match us,hl with
    | [p,q],_=>have v0:=hv 0 p _ rfl rfl;have v1:=hv 1 q _ rfl rfl;cases v0;cases v1;rfl
  rw[two g1,two g2];refine .jt (run_lift _) ⟨.bool (decide (a=c)&&decide (b=d)),?_,.p _ _ (.val _ rfl)⟩;rw[Sem.run_bind,run_eqGuard_agg w .eql t x y _ _ hg,Result.andThen_ok,run_eql_struct,show (10000:Nat)=9998+2 from rfl,ayx 9998 hut hue (λw=>dI hsz w),Result.andThen_ok]⟩))
end Go.cr
namespace Go.cr
open Go.RowKit
theorem ahN:∀ {a b c d:List (List PV)},kR a b->kR c d->kR (a++c) (b++d)
 | [],[],_,_,_,h=>h
 |_ :: _,_ :: _,_,_,h,k=>by unfold kR at h;rw[List.cons_append,List.cons_append];unfold kR;exact⟨h.1,ahN h.2 k⟩
 | [],_ :: _,_,_,h,_=>by unfold kR at h;exact h.elim
 |_ :: _,[],_,_,h,_=>by unfold kR at h;exact h.elim
theorem apu{α:Type}(E:α->List PV)(l m:List α){c:List (List PV)}(h:kR c (m.map E)):kR (l.map E++c) ((l++m).map E):=by rw[List.map_append];exact ahN (xk _) h
theorem apv{env:Env}{H:ay}(id v:Nat)(e:TypeId)(sz:Nat)(es es':List (List PV))(hH:H id=some (.row v e sz es))(hp:kR es es'):cU env H env (bk H id (.row v e sz es')):=λC I L tm w hs=>by
 obtain⟨hl,hf⟩:=sr es es' hp;have hlen:es.length=es'.length:=by have:=congrArg List.length hl;simpa using this
 refine⟨I,L,{ hs with dom:=λi l hi=>?_,chunk:=λi ch hch=>?_ }⟩
 ·obtain⟨c,hc⟩:=hs.dom i l hi;by_cases h:i=id
  ·exact⟨_,by unfold bk;rw[if_pos h]⟩
  ·exact⟨c,by unfold bk;rw[if_neg h];exact hc⟩
 ·by_cases h:i=id
  ·subst h;have:Chunk.row v e sz es'=ch:=by simpa[bk] using hch
   subst this;obtain⟨bH,us,g1,g2,g3,g4,g5,g6,g7⟩:=hs.chunk i _ hH;refine⟨bH,us,g1,hlen ▸ g2,g3,λx hx=>?_,λj u c hu hc=>?_,g6,g7⟩
   ·obtain⟨k,hk,rfl⟩:=List.getElem_of_mem hx;have h2:(es.map (·.length))[k]? = (es'.map (·.length))[k]?:=by rw[hl]
    have hk':k<es.length:=by omega
    simp only[List.getElem?_map,List.getElem?_eq_getElem hk,List.getElem?_eq_getElem hk',Option.map_some,cA] at h2;rw[<-h2];exact g4 _ (nI hk')
   ·obtain⟨c',q1,q2⟩:=hf.at hc;exact q2 I u (g5 j u c' hu q1)
  ·exact hs.chunk i ch (by unfold bk at hch;rw[if_neg h] at hch;exact hch)
theorem rF{α:Type}{env:Env}{H:ay}(id v:Nat)(e:TypeId)(sz:Nat)(E:α->List PV)(l m:List α){c:List (List PV)}(hH:H id=some (.row v e sz (l.map E++c)))(hp:kR c (m.map E)):cU env H env (bk H id (.row v e sz ((l++m).map E))):=apv id v e sz _ _ hH (apu E l m hp)
end Go.cr
namespace Go.Proofs.YtjhkgjlmiolfoaaGreat
open Go.cr
attribute [go_sem] Nat.reduceEqDiff Nat.reduceLT Nat.reduceLeDiff Nat.reduceMul Nat.reduceAdd Nat.reduceBEq Nat.reduceSub Int.reduceToNat reduceIte reduceCtorEq yY List.cons_append List.nil_append /-! ### What a loop keeps -/
def adR(e:Env):List Nat->List (Nat×AV)->List (Nat×AV)
 | [],l=>l
 |t :: ts,l=>(t,e t) :: adR e ts l
theorem at7(e:Env)(l:List (Nat×AV)):adR e [] l=l:=rfl
theorem apw(e:Env)(t:Nat)(ts:List Nat)(l:List (Nat×AV)):adR e (t :: ts) l=(t,e t) :: adR e ts l:=rfl
def bxl(cs:List AV):List (Nat×AV)->List AV
 | []=>cs
 |(j,v) :: r=>bxl (cs.set j v) r
def bx(c:Option Chunk)(l:List (Nat×AV)):Chunk:=match c with
 |some (.box cs)=>.box (bxl cs l)
 |_=>.box []
def chG:Option Chunk->Chunk
 |some c=>c
 |none=>.box []
def zf(H:ay):List Nat->List (Nat×Chunk)->List (Nat×Chunk)
 | [],l=>l
 |t :: ts,l=>(t,chG (H t)) :: zf H ts l
theorem apx(H:ay)(l:List (Nat×Chunk)):zf H [] l=l:=rfl
theorem amf(H:ay)(t:Nat)(ts:List Nat)(l:List (Nat×Chunk)):zf H (t :: ts) l=(t,chG (H t)) :: zf H ts l:=rfl
theorem aA9(cs:List AV)(l:List (Nat×AV)):bx (some (.box cs)) l = .box (bxl cs l):=rfl
theorem aBa(cs:List AV):bxl cs []=cs:=rfl
theorem ayz(cs:List AV)(j:Nat)(v:AV)(r:List (Nat×AV)):bxl cs ((j,v) :: r)=bxl (cs.set j v) r:=rfl
theorem ayA(c:Chunk):chG (some c)=c:=rfl
theorem aEv(x:PV):(RV.p x).pv=x:=rfl
theorem aBb(e:TypeId)(sz:Nat)(es:List (List PV)):(RV.row e sz es).pv = .aV es:=rfl
theorem aBc(rs:List RV):(RV.agg rs).pv = .agg (RV.pvL rs):=rfl
theorem aBd(rs:List RV):(RV.dQ rs).pv = .dQ (RV.pvL rs):=rfl
theorem ayB:RV.pvL []=[]:=rfl
theorem at8(r:RV)(rs:List RV):RV.pvL (r :: rs)=r.pv :: RV.pvL rs:=rfl
attribute [go_sem] at7 apw apx amf aA9 aBa ayz ayA aEv aBb aBc aBd ayB at8 /-! ### Steps: F is what is known,h what the function answers -/
section
variable{α β R:Type}{p q F:Prop}{r:R}{P:Program}{k:FuncId}{ps:List PV}
theorem zV(z:q)(e:q->p:=by intro Z;(try simp -implicitDefEqProofs only[go_sem,F]);exact Z):p:=e z
theorem zX(e:q->p:=by intro Z;(try simp -implicitDefEqProofs only[go_sem,F]);exact Z)(z:q):p:=e z
theorem zF{A:Prop}(a:A)(f:F)(z:F/\A->p):p:=z ⟨f,a⟩
theorem zC{A:Prop} [Decidable A]{x:Option R}(f:F)(h:cB A x=some r)(z:F/\A->x=some r->p):p:=z ⟨f,(axp h).1⟩ (axp h).2
theorem zI{l:List α}{i:Nat}{g:α->Option R}(E:α->List PV)(f:F)(h:thn l[i]? g=some r)(z:∀x,F/\i<l.length/\(l.map E).getD i []=E x->g x=some r->p):p:=by obtain⟨x,a,b,_,d⟩:=aBT E h;exact z x ⟨f,a,b⟩ d
theorem zJ{l:List α}{i:Nat}{g:α->Option R}(j:Int)(E:α->List PV)(f:F)(h:thn l[i]? g=some r)(z:∀x,F/\(i<l.length/\j<((l.length:Nat):Int)/\0<=j)/\(l.map E).getD i []=E x->g x=some r->p)(hj:j=(i:Int):=by rfl):p:=by obtain⟨x,a,b,_,d⟩:=aBT E h;exact z x ⟨f,⟨a,by omega,by omega⟩,b⟩ d
theorem zA{l:List α}{i:Int}{g:α->Option R}(E:α->List PV)(f:F)(h:thn (nc l i) g=some r)(z:∀x,F/\(0<=i/\i<((l.length:Nat):Int)/\i.toNat<l.length)/\(l.map E).getD i.toNat []=E x->g x=some r->p):p:=by obtain⟨x,a,b,c,_,d⟩:=aBU E h;exact z x ⟨f,⟨a,b,toNat_lt a b⟩,c⟩ d
theorem zAq{l:List α}{i:Int}{g:α->Option R}(E:α->List PV)(f:F)(h:thn (nc l i) g=some r)(z:∀x,nc l i=some x->F/\(0<=i/\i<((l.length:Nat):Int)/\i.toNat<l.length)/\(l.map E).getD i.toNat []=E x->g x=some r->p):p:=by obtain⟨x,a,b,c,q,d⟩:=aBU E h;exact z x q ⟨f,⟨a,b,toNat_lt a b⟩,c⟩ d
theorem aEw{l:List α}{i:Int}{x:α}(h:nc l i=some x):l[i.toNat]? = some x:=by
 unfold nc at h;split at h
 ·exact h
 ·cases h
theorem zU{o:Option α}{e:α}{g:α->Option R}(q:o=some e)(h:thn o g=some r)(z:g e=some r->p):p:=by subst q;exact z h
theorem zB{b:Bool}{x y:Option R}{q1 q2:Prop}(f:F)(h:cond b x y=some r)(t:F/\b=true->x=some r->q1)(u:F/\b=false->y=some r->q2)
  (e:(b=true->q1)->(b=false->q2)->p:=by intro A B;(try simp -implicitDefEqProofs only[go_sem,F]);exact aK A B):p :=
 e (λhb=>t ⟨f,hb⟩ (y5 h hb)) λhb=>u ⟨f,hb⟩ (ac8 h hb)
theorem l6{b:Bool}{x y:Option R}{q1 q2:Prop}(f:F)(h:cond b x y=some r)(t:F/\b=true->x=some r->q1)(u:F/\b=false->y=some r->q2)
  (e:(b=true->q1)->(b=false->q2)->p:=by intro A B;(try simp -implicitDefEqProofs only[go_sem,F]);exact aW A B):p :=
 e (λhb=>t ⟨f,hb⟩ (y5 h hb)) λhb=>u ⟨f,hb⟩ (ac8 h hb)
theorem mH{b:Bool}{x y:Option R}{q1 q2:Prop}(f:F)(h:cond b x y=some r)(t:F/\b=true->x=some r->q1)(u:F/\b=false->y=some r->q2)
  (e:(b=true->q1)->(b=false->q2)->p:=by intro A B;(try simp -implicitDefEqProofs only[go_sem,F]);exact bP A B):p :=
 e (λhb=>t ⟨f,hb⟩ (y5 h hb)) λhb=>u ⟨f,hb⟩ (ac8 h hb)
theorem rG{b:Bool}{x y:Option R}{q1 q2:Prop}(f:F)(h:cond b x y=some r)(t:F/\b=true->x=some r->q1)(u:F/\b=false->y=some r->q2)
  (e:(b=true->q1)->(b=false->q2)->p:=by intro A B;(try simp -implicitDefEqProofs only[go_sem,F]);exact bU A B):p :=
 e (λhb=>t ⟨f,hb⟩ (y5 h hb)) λhb=>u ⟨f,hb⟩ (ac8 h hb)
theorem zBd{b:Bool}{x y:Option R}{q1 q2:Prop}(f:F)(h:cond b x y=some r)(t:F/\b=true->x=some r->q1)(u:F/\b=false->y=some r->q2)
  (e:(b=true->q1)->(b=false->q2)->p:=by intro A B;(try simp -implicitDefEqProofs only[go_sem,F]);exact oB A B):p :=
 e (λhb=>t ⟨f,hb⟩ (y5 h hb)) λhb=>u ⟨f,hb⟩ (ac8 h hb)
theorem amg{b:Bool}{x y:Option R}{q1 q2:Prop}(f:F)(h:cond b x y=some r)(t:F/\b=true->x=some r->q1)(u:F/\b=false->y=some r->q2)
  (e:(b=true->q1)->(b=false->q2)->p:=by intro A B;(try simp -implicitDefEqProofs only[go_sem,F]);exact pg A B):p :=
 e (λhb=>t ⟨f,hb⟩ (y5 h hb)) λhb=>u ⟨f,hb⟩ (ac8 h hb)
def Hint{α:Type}(_:α):Prop:=True
theorem aBe{x:PV}{env:Env}{H:ay}{o:Oper}{W:Env->ay->Prop}{ps':List PV}{b:Bool}{ids:List Nat}(_:Hint ids)(c:aS P k ps λr=>r=x)(he:jT o (ev env) (dc ids H)=some (k,ps',b))(hp:qb ps' ps)(hb:b=true->x.scalar=true)(hW:W (cH env o.dst (.p x)) (dc ids H)):jh P o W env H:=aCM ids c he hp hb hW
theorem aBf{env:Env}{H:ay}{o:Oper}{W:Env->ay->Prop}{ps':List PV}{b:Bool}{id:Nat}(_:Hint id){x:RV}(c:br P k ps λv=>v=x)(he:jT o (ev env) H=some (k,ps',b))(hp:qb ps' ps)(hb:b=true->x.flat=true)(hf:lT H id ((cO id x).2-id))(hW:W (cH env o.dst (cO id x).1) (gj id H x)):jh P o W env H:=aCL id c he hp hb hf hW
theorem ayC{env:Env}{H:ay}{o:Oper}{W:Env->ay->Prop}{ps':List PV}{b:Bool}{ids:List Nat}{id:Nat}(_:Hint (ids,id)){x:RV}(c:br P k ps λv=>v=x)(he:jT o (ev env) (dc ids H)=some (k,ps',b))(hp:qb ps' ps)(hb:b=true->x.flat=true)(hf:lT (dc ids H) id ((cO id x).2-id))(hW:W (cH env o.dst (cO id x).1) (gj id (dc ids H) x)):jh P o W env H:=aAV ids id c he hp hb hf hW
theorem ayD{own:List Nat}{ops:Array Oper}{env:Env}{H:ay}{o:Oper}{W:Env->ay->Prop}{ps':List PV}{b:Bool}{id:Nat}(_:Hint id){x:RV}(c:br P k ps λv=>v=x)(he:jT o (ev env) (o9 own ops H)=some (k,ps',b))(hp:qb ps' ps)(hb:b=true->x.flat=true)(hf:lT H id ((cO id x).2-id))(hn:ace own ops id ((cO id x).2-id))(hW:W (cH env o.dst (cO id x).1) (gj id H x)):ae6 P own ops o W env H:=aeu id c he hp hb hf hn hW
theorem zK{X:α->PV}{o:Option α}{g:α->Option R}{q:α->Prop}(f:F)(h:thn o g=some r)(c:∀x,o=some x->aS P k ps λv=>v=X x)(z:∀x,g x=some r->q x)
  (e:∀x,(aS P k ps λv=>v=X x)->q x->p:=by intro x C Z;(try simp -implicitDefEqProofs only[go_sem,F]);exact alE C (by simp -implicitDefEqProofs only[go_sem,F]<;>rfl) (by first|exact gD _|(simp -implicitDefEqProofs only[go_sem,F]<;>rfl)) (by first|exact yq|exact b6 rfl) Z):p:=by
 obtain⟨x,h1,h2⟩:=nR h;exact e x (c x h1) (z x h2)
theorem th{X:α->PV}{o:Option α}{g:α->Option R}{q:α->Prop}(f:F)(h:thn o g=some r)(c:∀x,o=some x->aS P k ps λv=>v=X x)(z:∀x,g x=some r->q x)
  (e:∀x,(aS P k ps λv=>v=X x)->q x->p:=by intro x C Z;(try simp -implicitDefEqProofs only[go_sem,F]);exact aoJ C (by simp -implicitDefEqProofs only[go_sem,F]<;>rfl) (by first|exact gD _|(simp -implicitDefEqProofs only[go_sem,F]<;>rfl)) (by first|exact yq|exact b6 rfl) Z):p:=by
 obtain⟨x,h1,h2⟩:=nR h;exact e x (c x h1) (z x h2)
theorem zT{X:α->RV}{o:Option α}{g:α->Option R}{q:α->Prop}(f:F)(h:thn o g=some r)(c:∀x,o=some x->br P k ps λv=>v=X x)(z:∀x,g x=some r->q x)
  (e:∀x,(aS P k ps λv=>v=(X x).pv)->q x->p:=by intro x C Z;(try simp -implicitDefEqProofs only[go_sem,F]);exact alE C (by simp -implicitDefEqProofs only[go_sem,F]<;>rfl) (by first|exact gD _|(simp -implicitDefEqProofs only[go_sem,F]<;>rfl)) (by first|exact yq|exact b6 rfl) Z):p:=by
 obtain⟨x,h1,h2⟩:=nR h;exact e x ((c x h1).azN) (z x h2)
theorem zTd{X:α->RV}{o:Option α}{g:α->Option R}{q:α->Prop}(f:F)(h:thn o g=some r)(c:∀x,o=some x->br P k ps λv=>v=X x)(z:∀x,g x=some r->q x)
  (e:∀x,(aS P k ps λv=>v=(X x).pv)->q x->p:=by intro x C Z;(try simp -implicitDefEqProofs only[go_sem,F]);exact aoJ C (by simp -implicitDefEqProofs only[go_sem,F]<;>rfl) (by first|exact gD _|(simp -implicitDefEqProofs only[go_sem,F]<;>rfl)) (by first|exact yq|exact b6 rfl) Z):p:=by
 obtain⟨x,h1,h2⟩:=nR h;exact e x ((c x h1).azN) (z x h2)
theorem zKs{X:α->PV}{o:Option α}{g:α->Option R}{q:α->Prop}(id:List Nat)(f:F)(h:thn o g=some r)(c:∀x,o=some x->aS P k ps λv=>v=X x)(z:∀x,g x=some r->q x)
  (e:∀x,Hint id->(aS P k ps λv=>v=X x)->q x->p:=by intro x I C Z;(try simp -implicitDefEqProofs only[go_sem,F]);exact aBe I C (by simp -implicitDefEqProofs only[go_sem,F]<;>rfl) (by first|exact gD _|(simp -implicitDefEqProofs only[go_sem,F]<;>rfl)) (by first|exact yq|exact b6 rfl) Z):p:=by
 obtain⟨x,h1,h2⟩:=nR h;exact e x trivial (c x h1) (z x h2)
theorem zG{X:α->RV}{o:Option α}{g:α->Option R}{q:α->Prop}(id:Nat)(f:F)(h:thn o g=some r)(c:∀x,o=some x->br P k ps λv=>v=X x)(z:∀x,g x=some r->q x)
  (e:∀x,Hint id->(br P k ps λv=>v=X x)->q x->p:=by intro x I C Z;(try simp -implicitDefEqProofs only[go_sem,F]);exact aBf I C (by simp -implicitDefEqProofs only[go_sem,F]<;>rfl) (by first|exact gD _|(simp -implicitDefEqProofs only[go_sem,F]<;>rfl)) (by first|exact yX|exact ahq rfl|exact ahq (by simp[RV.flat,RV.aaG,PV.scalar,isVal,go_sem])) (by simp -implicitDefEqProofs only[go_sem,F]) Z):p:=by
 obtain⟨x,h1,h2⟩:=nR h;exact e x trivial (c x h1) (z x h2)
theorem zH{X:α->RV}{o:Option α}{g:α->Option R}{q:α->Prop}(id:Nat)(f:F)(h:thn o g=some r)(c:∀x,o=some x->br P k ps λv=>v=X x)(z:∀x,g x=some r->q x)
  (e:∀x,Hint id->(br P k ps λv=>v=X x)->q x->p:=by intro x I C Z;(try simp -implicitDefEqProofs only[go_sem,F]);exact ayD I C (by simp -implicitDefEqProofs only[go_sem,F]<;>rfl) (by first|exact gD _|(simp -implicitDefEqProofs only[go_sem,F]<;>rfl)) (by first|exact yX|exact ahq rfl|exact ahq (by simp[RV.flat,RV.aaG,PV.scalar,isVal,go_sem])) (by simp -implicitDefEqProofs only[go_sem,F]) (by simp -implicitDefEqProofs only[go_sem,F]) Z):p:=by
 obtain⟨x,h1,h2⟩:=nR h;exact e x trivial (c x h1) (z x h2)
theorem zGs{X:α->RV}{o:Option α}{g:α->Option R}{q:α->Prop}(id:List Nat×Nat)(f:F)(h:thn o g=some r)(c:∀x,o=some x->br P k ps λv=>v=X x)(z:∀x,g x=some r->q x)
  (e:∀x,Hint id->(br P k ps λv=>v=X x)->q x->p:=by intro x I C Z;(try simp -implicitDefEqProofs only[go_sem,F]);exact ayC I C (by simp -implicitDefEqProofs only[go_sem,F]<;>rfl) (by first|exact gD _|(simp -implicitDefEqProofs only[go_sem,F]<;>rfl)) (by first|exact yX|exact ahq rfl|exact ahq (by simp[RV.flat,RV.aaG,PV.scalar,isVal,go_sem])) (by simp -implicitDefEqProofs only[go_sem,F]) Z):p:=by
 obtain⟨x,h1,h2⟩:=nR h;exact e x trivial (c x h1) (z x h2)
theorem zP{X:α->PV}{o:Option α}{g:α->Option R}{q:α->Prop}(f:F)(h:thn o g=some r)(c:∀x,o=some x->aS P k ps λv=>v=X x)(z:∀x,g x=some r->q x)
  (e:∀x,(aS P k ps λv=>v=X x)->q x->p:=by intro x C Z;(try simp -implicitDefEqProofs only[go_sem,F]);exact alE C (by simp -implicitDefEqProofs only[go_sem,F,jN,jM,Bool.or_false,Bool.false_or]<;>rfl) (gD _) (by first|exact yq|exact b6 rfl) Z):p:=by
 obtain⟨x,h1,h2⟩:=nR h;exact e x (c x h1) (z x h2)
theorem zPd{X:α->PV}{o:Option α}{g:α->Option R}{q:α->Prop}(f:F)(h:thn o g=some r)(c:∀x,o=some x->aS P k ps λv=>v=X x)(z:∀x,g x=some r->q x)
  (e:∀x,(aS P k ps λv=>v=X x)->q x->p:=by intro x C Z;(try simp -implicitDefEqProofs only[go_sem,F]);exact aoJ C (by simp -implicitDefEqProofs only[go_sem,F,jN,jM,Bool.or_false,Bool.false_or]<;>rfl) (gD _) (by first|exact yq|exact b6 rfl) Z):p:=by
 obtain⟨x,h1,h2⟩:=nR h;exact e x (c x h1) (z x h2)
theorem zMb{v sz:Nat}{e:TypeId}{es:List (List PV)}{X:α->List (List PV)}{o:Option α}{g:α->Option R}{q:α->Prop}(f:F)(h:thn o g=some r)(c:∀x,o=some x->kE P k v e sz (es) ps λa c=>a = .row 1000000 (v+1)/\c=some (.row (v+1) e sz (X x)))(z:∀x,g x=some r->q x)
  (e:∀x,(kE P k v e sz (es) ps λa c=>a = .row 1000000 (v+1)/\c=some (.row (v+1) e sz (X x)))->q x->p:=by intro x C Z;(try simp -implicitDefEqProofs only[go_sem,F]);exact wC C (by simp -implicitDefEqProofs only[go_sem,F]<;>rfl) (by simp -implicitDefEqProofs only[go_sem,F]<;>rfl) (by simp -implicitDefEqProofs only[go_sem,F]<;>rfl) (by first|exact λh=>by cases h|exact λ_=>aAR (λ_=>rfl) _) Z):p:=by
 obtain⟨x,h1,h2⟩:=nR h;exact e x (c x h1) (z x h2)
theorem aEx{N:Nat}{own:List Nat}{K:Env->ay->Prop}{env:Env}{H:ay}{l:List Oper}{cs:List oZ}(_:Hint cs)(hok:abX N own l.toArray (masks l.toArray) cs=true)(hw:fZ P N own l.toArray (l.zip cs) K env H):vh P N own l.toArray K env H:=dw cs hok hw
theorem aEy{N:Nat}{own:List Nat}{K:Env->ay->Prop}{env:Env}{H:ay}{l:List Oper}{pc:List (Nat×oZ)}(_:Hint pc)(hok:an7 N own l pc=true)(hw:fZ P N own l.toArray (xU l pc) K env H):vh P N own l.toArray K env H:=ai1 pc hok hw
theorem zD(cs:List oZ)(z:q)(e:Hint cs->q->p:=by intro I Z;(try simp -implicitDefEqProofs only[go_sem,F]);exact aEx I (by kernel_rfl) Z):p:=e trivial z
theorem zE(pc:List (Nat×oZ))(z:q)(e:Hint pc->q->p:=by intro I Z;(try simp -implicitDefEqProofs only[go_sem,F]);exact aEy I (by kernel_rfl) Z):p:=e trivial z
theorem zR{A:Prop}(h:A)(e:A->p:=by intro h;cases h;(try simp -implicitDefEqProofs only[go_sem,F]);all_goals(and_intros<;>first|rfl|omega)):p:=e h
theorem iR{A:Prop}(h:A)(e:A->p:=by intro h;cases h;(try simp -implicitDefEqProofs only[go_sem,F]);refine⟨by decide,_,.refl _,?_⟩;simp -implicitDefEqProofs only[go_sem,F]<;>and_intros<;>first|rfl|trivial):p:=e h
theorem zW{e:Env}{H:ay}{l:List (Nat×AV)}{hl:List (Nat×Chunk)}(h:aoN e l/\abk H hl/\aoO (b7 hl) l/\yt (b7 hl) hl/\lS H (b7 hl):=by simp -implicitDefEqProofs only[go_sem,F]<;>and_intros<;>rfl):cU e H (pQ l) (b7 hl):=xW h
end
section
variable{P:Program}{N:Nat}{own:List Nat}{σ γ O:Type}{c:Code}{K:qi}{env:Env}{H:ay}{Kf:σ->Option O}{r:O}{F:Prop}
theorem zL{f:σ->(σ->Option O)->(σ->Option O)->Option O}{n:Nat}{s:σ}{L:σ×γ->List (Nat×AV)}{M:σ×γ->List (Nat×Chunk)}(fF:F)(h:iter f n s Kf=some r)(g0:γ)(ts:List Nat)(de:σ×γ->List (Nat×AV))(is:List Nat)(dh:σ×γ->ay->List (Nat×Chunk))
  (hr:∀s g (cv:σ->Option O) (R:Env->ay->Prop),F->(∀s' g' {e H},cv s'=some r->cU e H (pQ (L (s',g'))) (b7 (M (s',g')))->R e H)->f s cv Kf=some r->cw P N own c (su R K) (pQ (L (s,g))) (b7 (M (s,g))))
  (e1:∀x,adR env ts (de x)=L x:=by intro x;(try simp -implicitDefEqProofs only[go_sem,F]);exact rfl) (e2:∀x,zf H is (dh x H)=M x:=by intro x;(try simp -implicitDefEqProofs only[go_sem,F]);exact rfl)
  (hw:cU env H (pQ (L (s,g0))) (b7 (M (s,g0))):=by exact xW (by simp -implicitDefEqProofs only[go_sem,F]<;>and_intros<;>rfl)):aaK P N own c K env H :=
 aAS (λx=>pQ (L x)) (λx=>b7 (M x)) g0 h hw λs g cv R hN h=>hr s g cv R fF hN h
theorem zN{f:Nat->σ->(σ->Option O)->(σ->Option O)->Option O}{n i:Nat}{s:σ}{L:(Nat×σ)×γ->List (Nat×AV)}{M:(Nat×σ)×γ->List (Nat×Chunk)}(fF:F)(h:cB (n<=fuel) (bZ f (n-i) i s Kf)=some r)(g0:γ)(ts:List Nat)(de:(Nat×σ)×γ->List (Nat×AV))(is:List Nat)(dh:(Nat×σ)×γ->ay->List (Nat×Chunk))
  (hr:∀j s g (cv:σ->Option O) (R:Env->ay->Prop),F/\(j<n/\n<=4611686018427387904)/\i64.wrap ((j:Int)+1)=((j+1:Nat):Int)->(∀s' g' {e H},cv s'=some r->cU e H (pQ (L ((j+1,s'),g'))) (b7 (M ((j+1,s'),g')))->R e H)->f j s cv Kf=some r->cw P N own c (su R K) (pQ (L ((j,s),g))) (b7 (M ((j,s),g))))
  (he:∀j s g (R:Env->ay->Prop),F/\¬ j<n->Kf s=some r->cw P N own c (su R K) (pQ (L ((j,s),g))) (b7 (M ((j,s),g))))
  (e1:∀x,adR env ts (de x)=L x:=by intro x;(try simp -implicitDefEqProofs only[go_sem,F]);exact rfl) (e2:∀x,zf H is (dh x H)=M x:=by intro x;(try simp -implicitDefEqProofs only[go_sem,F]);exact rfl)
  (hw:cU env H (pQ (L ((i,s),g0))) (b7 (M ((i,s),g0))):=by exact xW (by simp -implicitDefEqProofs only[go_sem,F]<;>and_intros<;>rfl)):aaK P N own c K env H:=by
 obtain⟨hf,h⟩:=axp h;unfold fuel at hf;exact aAT (λx=>pQ (L x)) (λx=>b7 (M x)) g0 h hw (λj s g cv R hj hN h=>hr j s g cv R ⟨fF,⟨hj,hf⟩,bz hj hf⟩ hN h) λj s g R hj h=>he j s g R ⟨fF,by omega⟩ h
theorem zO{f:Nat->σ->(σ->Option O)->(σ->Option O)->Option O}{b:Int}{i:Nat}{s:σ}{L:(Nat×σ)×γ->List (Nat×AV)}{M:(Nat×σ)×γ->List (Nat×Chunk)}(fF:F)(h:cB (b.toNat<=fuel) (bZ f (b.toNat-i) i s Kf)=some r)(g0:γ)(ts:List Nat)(de:(Nat×σ)×γ->List (Nat×AV))(is:List Nat)(dh:(Nat×σ)×γ->ay->List (Nat×Chunk))
  (hr:∀ (j:Nat) s g (cv:σ->Option O) (R:Env->ay->Prop),F/\((j:Int)<b/\j<b.toNat/\b.toNat<=4611686018427387904)/\i64.wrap ((j:Int)+1)=((j+1:Nat):Int)->(∀s' g' {e H},cv s'=some r->cU e H (pQ (L ((j+1,s'),g'))) (b7 (M ((j+1,s'),g')))->R e H)->f j s cv Kf=some r->cw P N own c (su R K) (pQ (L ((j,s),g))) (b7 (M ((j,s),g))))
  (he:∀ (j:Nat) s g (R:Env->ay->Prop),F/\¬ (j:Int)<b->Kf s=some r->cw P N own c (su R K) (pQ (L ((j,s),g))) (b7 (M ((j,s),g))))
  (e1:∀x,adR env ts (de x)=L x:=by intro x;(try simp -implicitDefEqProofs only[go_sem,F]);exact rfl) (e2:∀x,zf H is (dh x H)=M x:=by intro x;(try simp -implicitDefEqProofs only[go_sem,F]);exact rfl)
  (hw:cU env H (pQ (L ((i,s),g0))) (b7 (M ((i,s),g0))):=by exact xW (by simp -implicitDefEqProofs only[go_sem,F]<;>and_intros<;>rfl)):aaK P N own c K env H :=
 zN fF h g0 ts de is dh (λj s g cv R h=>hr j s g cv R ⟨h.1,⟨by omega,h.2.1⟩,h.2.2⟩) (λj s g R h=>he j s g R ⟨h.1,by omega⟩) e1 e2 hw
theorem zQ(b:Int){m:Nat}{f:Nat->σ->(σ->Option O)->(σ->Option O)->Option O}{i:Nat}{s:σ}{L:(Nat×σ)×γ->List (Nat×AV)}{M:(Nat×σ)×γ->List (Nat×Chunk)}(fF:F)(h:cB (m<=fuel) (bZ f (m-i) i s Kf)=some r)(g0:γ)(ts:List Nat)(de:(Nat×σ)×γ->List (Nat×AV))(is:List Nat)(dh:(Nat×σ)×γ->ay->List (Nat×Chunk))
  (hr:∀ (j:Nat) s g (cv:σ->Option O) (R:Env->ay->Prop),F/\((j:Int)<b/\j<m/\m<=4611686018427387904)/\i64.wrap ((j:Int)+1)=((j+1:Nat):Int)->(∀s' g' {e H},cv s'=some r->cU e H (pQ (L ((j+1,s'),g'))) (b7 (M ((j+1,s'),g')))->R e H)->f j s cv Kf=some r->cw P N own c (su R K) (pQ (L ((j,s),g))) (b7 (M ((j,s),g))))
  (he:∀ (j:Nat) s g (R:Env->ay->Prop),F/\¬ (j:Int)<b->Kf s=some r->cw P N own c (su R K) (pQ (L ((j,s),g))) (b7 (M ((j,s),g))))
  (hb:b=(m:Int):=by rfl) (e1:∀x,adR env ts (de x)=L x:=by intro x;(try simp -implicitDefEqProofs only[go_sem,F]);exact rfl) (e2:∀x,zf H is (dh x H)=M x:=by intro x;(try simp -implicitDefEqProofs only[go_sem,F]);exact rfl)
  (hw:cU env H (pQ (L ((i,s),g0))) (b7 (M ((i,s),g0))):=by exact xW (by simp -implicitDefEqProofs only[go_sem,F]<;>and_intros<;>rfl)):aaK P N own c K env H :=
 zN fF h g0 ts de is dh (λj s g cv R h=>hr j s g cv R ⟨h.1,⟨by omega,h.2.1⟩,h.2.2⟩) (λj s g R h=>he j s g R ⟨h.1,by omega⟩) e1 e2 hw
end
attribute [go_sem] yY List.cons_append List.nil_append aZ aL encI bl aJ bI cQ aC aj ag aH aA
noncomputable section
def dX(a0:List ah)(p1:ah->ah->Option Int):Option Bool :=
 cB (a0.length<=fuel) <|
 bZ (λi8 (s8:Unit) uC acj =>
  thn (nc a0 (i64.wrap (((i8:Nat):Int)-1))) λe2 =>
  thn (a0[i8]?) λe3 =>
  thn (p1 e2 e3) λr4 =>
  cond (decide (0<=r4)) (
   some false) <|
  uC ())
 (a0.length-1) 1 () λs8 =>
 some true
theorem mM(a0:List ah)(p1:ah->ah->Option Int)(k1:FuncId)(fs1 cs1:List PV)(hp1:∀x0 x1 r,p1 x0 x1=some r->aS pw k1 (fs1++[.agg (ag x0),.agg (ag x1)]++cs1) (λv=>v = .val (.int .i64 r)))(r:Bool)(h:dX a0 p1=some r):aS pw 242 [.aV (a0.map ag),.iw (.func k1) fs1 cs1] (λv=>v = .val (.bool r)):=by
 refine aS.mV ?_;refine aQ [] func242 ?_;rw[ntmps242,results242];unfold dX at h;have F:=trivial;refine zV ?_;refine zN F h () [0,1] (λx=>[(5,.p (.val (.int .i64 ((x.1.1:Nat):Int))))]) [] (λx H=>[]) ?_ ?_
 ·intro i8 s8 g8 _ _ F Ns8 h;try dsimp only at h
  refine zD [.q,.q,.q,.q,.q,.q,.q,.q,.q,.q,.q,.q] ?_;refine zA ag F h λe2 F h=>?_
  refine zI ag F h λe3 F h=>?_
  refine zPd F h (hp1 _ _) λr4 h=>?_
  refine zB F h (λF h=>?_) λF h=>?_
  ·exact zR h
  ·exact zX (z:=Ns8 _ () h zW)
 ·intro i8 s8 g8 _ F h;try dsimp only at h
  exact zR h
def ji(a0:Int):Option Bool:=some (!(decide (a0=a0)))
theorem xY(a0:Int)(r:Bool)(h:ji a0=some r):aS pw 350 [.val (.int .i64 a0)] (λv=>v = .val (.bool r)):=by refine aS.mV ?_;refine aQ [] func350 ?_;rw[ntmps350,results350];unfold ji at h;have F:=trivial;exact zR h
def gX(a0:Int)(a1:Int):Option Int :=
 thn (ji a0) λr2 =>
 thn (ji a1) λr3 =>
 cond r2 (
  cond r3 (
   some 0) <|
  some (-1)) <|
 cond r3 (
  some 1) <|
 cond (decide (a0<a1)) (
  some (-1)) <|
 cond (decide (a1<a0)) (
  some 1) <|
 some 0
theorem nU(a0:Int)(a1:Int)(r:Int)(h:gX a0 a1=some r):aS pw 298 [.val (.int .i64 a0),.val (.int .i64 a1)] (λv=>v = .val (.int .i64 r)):=by
 refine aS.mV ?_;refine aQ [] func298 ?_;rw[ntmps298,results298];unfold gX at h;have F:=trivial;refine zK F h (xY _) λr2 h=>?_
 refine zK F h (xY _) λr3 h=>?_
 refine zB F h (λF h=>?_) λF h=>?_
 ·refine zB F h (λF h=>?_) λF h=>?_
  ·exact zR h
  ·exact zR h
 ·refine zB F h (λF h=>?_) λF h=>?_
  ·exact zR h
  ·refine zB F h (λF h=>?_) λF h=>?_
   ·exact zR h
   ·refine zB F h (λF h=>?_) λF h=>?_
    ·exact zR h
    ·exact zR h
def gE(a0:ah)(a1:ah):Option Int :=
 thn (gX a0.id a1.id) λr2 =>
 some r2
theorem wH(a0:ah)(a1:ah)(r:Int)(h:gE a0 a1=some r):aS pw 243 [.agg (ag a0),.agg (ag a1)] (λv=>v = .val (.int .i64 r)):=by
 refine aS.mV ?_;refine aQ [] func243 ?_;rw[ntmps243,results243];unfold gE at h;have F:=trivial;refine zK F h (nU _ _) λr2 h=>?_
 exact zR h
def dY(a0:List ak)(p1:ak->ak->Option Int):Option Bool :=
 cB (a0.length<=fuel) <|
 bZ (λi2 (s2:Unit) cL jj =>
  thn (nc a0 (i64.wrap (((i2:Nat):Int)-1))) λe3 =>
  thn (a0[i2]?) λe4 =>
  thn (p1 e3 e4) λr5 =>
  cond (decide (0<=r5)) (
   some false) <|
  cL ())
 (a0.length-1) 1 () λs2 =>
 some true
theorem mO(a0:List ak)(p1:ak->ak->Option Int)(k1:FuncId)(fs1 cs1:List PV)(hp1:∀x0 x1 r,p1 x0 x1=some r->aS pw k1 (fs1++[.agg (aj x0),.agg (aj x1)]++cs1) (λv=>v = .val (.int .i64 r)))(r:Bool)(h:dY a0 p1=some r):aS pw 244 [.aV (a0.map aj),.iw (.func k1) fs1 cs1] (λv=>v = .val (.bool r)):=by
 refine aS.mV ?_;refine aQ [] func244 ?_;rw[ntmps244,results244];unfold dY at h;have F:=trivial;refine zV ?_;refine zN F h () [0,1] (λx=>[(5,.p (.val (.int .i64 ((x.1.1:Nat):Int))))]) [] (λx H=>[]) ?_ ?_
 ·intro i2 s2 g2 _ _ F mI h;try dsimp only at h
  refine zD [.q,.q,.q,.q,.q,.q,.q,.q,.q,.q,.q,.q] ?_;refine zA aj F h λe3 F h=>?_
  refine zI aj F h λe4 F h=>?_
  refine zPd F h (hp1 _ _) λr5 h=>?_
  refine zB F h (λF h=>?_) λF h=>?_
  ·exact zR h
  ·exact zX (z:=mI _ () h zW)
 ·intro i2 s2 g2 _ F h;try dsimp only at h
  exact zR h
def gF(a0:ak)(a1:ak):Option Int :=
 thn (gX a0.id a1.id) λr2 =>
 some r2
theorem wI(a0:ak)(a1:ak)(r:Int)(h:gF a0 a1=some r):aS pw 245 [.agg (aj a0),.agg (aj a1)] (λv=>v = .val (.int .i64 r)):=by
 refine aS.mV ?_;refine aQ [] func245 ?_;rw[ntmps245,results245];unfold gF at h;have F:=trivial;refine zK F h (nU _ _) λr2 h=>?_
 exact zR h
def ff(a0:List aM)(p1:aM->aM->Option Int):Option Bool :=
 cB (a0.length<=fuel) <|
 bZ (λi2 (s2:Unit) cL jj =>
  thn (nc a0 (i64.wrap (((i2:Nat):Int)-1))) λe3 =>
  thn (a0[i2]?) λe4 =>
  thn (p1 e3 e4) λr5 =>
  cond (decide (0<=r5)) (
   some false) <|
  cL ())
 (a0.length-1) 1 () λs2 =>
 some true
theorem rH(a0:List aM)(p1:aM->aM->Option Int)(k1:FuncId)(fs1 cs1:List PV)(hp1:∀x0 x1 r,p1 x0 x1=some r->aS pw k1 (fs1++[.agg (aH x0),.agg (aH x1)]++cs1) (λv=>v = .val (.int .i64 r)))(r:Bool)(h:ff a0 p1=some r):aS pw 246 [.aV (a0.map aH),.iw (.func k1) fs1 cs1] (λv=>v = .val (.bool r)):=by
 refine aS.mV ?_;refine aQ [] func246 ?_;rw[ntmps246,results246];unfold ff at h;have F:=trivial;refine zV ?_;refine zN F h () [0,1] (λx=>[(5,.p (.val (.int .i64 ((x.1.1:Nat):Int))))]) [] (λx H=>[]) ?_ ?_
 ·intro i2 s2 g2 _ _ F mI h;try dsimp only at h
  refine zD [.q,.q,.q,.q,.q,.q,.q,.q,.q,.q,.q,.q] ?_;refine zA aH F h λe3 F h=>?_
  refine zI aH F h λe4 F h=>?_
  refine zPd F h (hp1 _ _) λr5 h=>?_
  refine zB F h (λF h=>?_) λF h=>?_
  ·exact zR h
  ·exact zX (z:=mI _ () h zW)
 ·intro i2 s2 g2 _ F h;try dsimp only at h
  exact zR h
def qw(a0:List Int):Option Int :=
 cB (a0.length<=fuel) <|
 bZ (λi1 (s1:Unit) lF vq =>
  thn (a0[i1]?) λe2 =>
  cond (decide (e2=0)) (
   lF ()) <|
  some e2)
 (a0.length-0) 0 () λs1 =>
 some 0
theorem ajr(a0:List Int)(r:Int)(h:qw a0=some r):aS pw 261 [.aV (a0.map encI)] (λv=>v = .val (.int .i64 r)):=by
 refine aS.mV ?_;refine aQ [] func261 ?_;rw[ntmps261,results261];unfold qw at h;have F:=trivial;refine zV ?_;refine zN F h () [3,6,7] (λx=>[(8,.p (.val (.int .i64 ((x.1.1:Nat):Int))))]) [] (λx H=>[]) ?_ ?_
 ·intro i1 s1 g1 _ _ F Ns1 h;try dsimp only at h
  refine zI encI F h λe2 F h=>?_
  refine l6 F h (λF h=>?_) λF h=>?_
  ·exact zX (z:=Ns1 _ () h zW)
  ·exact zR h
 ·intro i1 s1 g1 _ F h;try dsimp only at h
  exact zR h
def iV(a0:aM)(a1:aM):Option Int :=
 thn (gX a0.id a1.id) λr2 =>
 thn (gX a0.attr a1.attr) λr3 =>
 thn (qw [r2,r3]) λr4 =>
 some r4
theorem ack(a0:aM)(a1:aM)(r:Int)(h:iV a0 a1=some r):aS pw 247 [.agg (aH a0),.agg (aH a1)] (λv=>v = .val (.int .i64 r)):=by
 refine aS.mV ?_;refine aQ [] func247 ?_;rw[ntmps247,results247];unfold iV at h;have F:=trivial;refine zD [.q,.q,.q,.q,.q,.q,.q,.q,.q,.q,.p,.q,.q] ?_;refine th F h (nU _ _) λr2 h=>?_
 refine th F h (nU _ _) λr3 h=>?_
 refine th F h (ajr _) λr4 h=>?_
 exact zR h
def l8(a0:aG):Option Int :=
 cond (decide (500<(max (max (max (max ((a0.az.length:Nat):Int) ((a0.aF.length:Nat):Int)) ((a0.aR.length:Nat):Int)) ((a0.aP.length:Nat):Int)) ((a0.values.length:Nat):Int)))) (
  some 3) <|
 thn (dX a0.az (λx1 x2=>gE x1 x2)) λr3 =>
 cond r3 (
  thn (dX a0.aR (λx4 x5=>gE x4 x5)) λr6 =>
  cond r6 (
   thn (dY a0.aF (λx7 x8=>gF x7 x8)) λr9 =>
   cond r9 (
    thn (dY a0.aP (λx10 x11=>gF x10 x11)) λr12 =>
    cond r12 (
     thn (ff a0.values (λx13 x14=>iV x13 x14)) λr15 =>
     cond r15 (
      some 0) <|
     some 12) <|
    some 12) <|
   some 12) <|
  some 12) <|
 some 12
theorem adi(a0:aG)(r:Int)(h:l8 a0=some r):aS pw 146 [.agg (aC a0)] (λv=>v = .val (.int .i64 r)):=by
 refine aS.mV ?_;refine aQ [] func146 ?_;rw[ntmps146,results146];unfold l8 at h;have F:=trivial;refine zB F h (λF h=>?_) λF h=>?_
 ·exact zR h
 ·refine zK F h (mM _ (λx1 x2=>gE x1 x2) 243 [] [] (λx1 x2 r h=>wH x1 x2 r h)) λr3 h=>?_
  refine mH F h (λF h=>?_) λF h=>?_
  ·refine zK F h (mM _ (λx4 x5=>gE x4 x5) 243 [] [] (λx4 x5 r h=>wH x4 x5 r h)) λr6 h=>?_
   refine mH F h (λF h=>?_) λF h=>?_
   ·refine zK F h (mO _ (λx7 x8=>gF x7 x8) 245 [] [] (λx7 x8 r h=>wI x7 x8 r h)) λr9 h=>?_
    refine mH F h (λF h=>?_) λF h=>?_
    ·refine zK F h (mO _ (λx10 x11=>gF x10 x11) 245 [] [] (λx10 x11 r h=>wI x10 x11 r h)) λr12 h=>?_
     refine mH F h (λF h=>?_) λF h=>?_
     ·refine zK F h (rH _ (λx13 x14=>iV x13 x14) 247 [] [] (λx13 x14 r h=>ack x13 x14 r h)) λr15 h=>?_
      refine l6 F h (λF h=>?_) λF h=>?_
      ·exact zR h
      ·exact zR h
     ·exact zR h
    ·exact zR h
   ·exact zR h
  ·exact zR h
def iB(a0:List Int)(a1:Int):Option Int :=
 cB (a0.length<=fuel) <|
 bZ (λi2 (s2:Unit) cL jj =>
  thn (a0[i2]?) λe3 =>
  cond (decide (a1=e3)) (
   some ((i2:Nat):Int)) <|
  cL ())
 (a0.length-0) 0 () λs2 =>
 some (-1)
theorem pR(a0:List Int)(a1:Int)(r:Int)(h:iB a0 a1=some r):aS pw 63 [.aV (a0.map encI),.val (.int .i64 a1)] (λv=>v = .val (.int .i64 r)):=by
 refine aS.mV ?_;refine aQ [] func63 ?_;rw[ntmps63,results63];unfold iB at h;have F:=trivial;refine zV ?_;refine zN F h () [0,1,7] (λx=>[(8,.p (.val (.int .i64 ((x.1.1:Nat):Int))))]) [] (λx H=>[]) ?_ ?_
 ·intro i2 s2 g2 _ _ F mI h;try dsimp only at h
  refine zI encI F h λe3 F h=>?_
  refine zB F h (λF h=>?_) λF h=>?_
  ·exact zR h
  ·exact zX (z:=mI _ () h zW)
 ·intro i2 s2 g2 _ F h;try dsimp only at h
  exact zR h
def kT(a0:List ah)(a1:List ak)(a2:Int):Option (ax×Bool) :=
 cB (a0.length<=fuel) <|
 bZ (λi3 (s3:(List Int)×(List (List Int))×(List Int)) iy pz =>
  thn (a0[i3]?) λe4 =>
  cB (s3.2.2.length+1<=68719476736) <|
  cB (s3.1.length+1<=68719476736) <|
  thn (mX e4.values) λr5 =>
  cB (s3.2.1.length+1<=68719476736) <|
  iy ((s3.1++[e4.type]),(s3.2.1++[r5]),(s3.2.2++[e4.id])))
 (a0.length-0) 0 (([]:List Int),([]:List (List Int)),([]:List Int)) λs3 =>
 cB (a1.length<=fuel) <|
 bZ (λi6 (s6:(List Edge)×(List Int)) nV adS =>
  thn (a1[i6]?) λe7 =>
  thn (iB s3.2.2 e7.src) λr8 =>
  thn (iB s3.2.2 e7.dst) λr9 =>
  cond (decide (r8<0)) (
   some ((⟨(⟨(⟨([]:List Int),([]:List Edge)⟩:eS),([]:List (List Int))⟩:Host),([]:List Int),([]:List Int),0⟩:ax),false)) <|
  cond (decide (r9<0)) (
   some ((⟨(⟨(⟨([]:List Int),([]:List Edge)⟩:eS),([]:List (List Int))⟩:Host),([]:List Int),([]:List Int),0⟩:ax),false)) <|
  cB (s6.2.length+1<=68719476736) <|
  cB (s6.1.length+1<=68719476736) <|
  nV ((s6.1++[(⟨e7.type,r8,r9⟩:Edge)]),(s6.2++[e7.id])))
 (a1.length-0) 0 (([]:List Edge),([]:List Int)) λs6 =>
 some ((⟨⟨⟨s3.1,s6.1⟩,s3.2.1⟩,s3.2.2,s6.2,a2⟩:ax),true)
theorem acm(a0:List ah)(a1:List ak)(a2:Int)(r:ax×Bool)(h:kT a0 a1 a2=some r):br pw 150 [.aV (a0.map ag),.aV (a1.map aj),.val (.int .i64 a2)] (λv=>v = .dQ [.agg [.row 3 1 (r.1.host.graph.nodes.map encI),.row 175 3 (r.1.host.graph.au.map aZ),.row 32 1 (r.1.host.values.map bI),.row 3 1 (r.1.nodes.map encI),.row 3 1 (r.1.au.map encI),.p (.val (.int .i64 r.1.next))],.p (.val (.bool r.2))]):=by
 refine br.tF ?_;refine bB [28,37,44,45,80,92] func150 ?_;rw[ntmps150,results150];unfold kT at h;have F:=trivial;refine zV ?_;refine zN F h ((0,0,0):Nat×Nat×Nat) [1,6,8,17,18] (λx=>[(19,.p (.val (.int .i64 ((x.1.1:Nat):Int))))]) [6] (λx H=>[(8,bx (H 8) [(0,.row 2336 x.2.1),(2,.row 2337 x.2.2.1),(3,.row 2338 x.2.2.2)]),(2336,.row x.2.1 3 1 (x.1.2.1.map encI)),(2337,.row x.2.2.1 32 1 (x.1.2.2.1.map bI)),(2338,.row x.2.2.2 3 1 (x.1.2.2.2.map encI))]) ?_ ?_ (hw:=by refine cU.trans (bT 8 0 2336 3 1 _ rfl rfl rfl (by decide)) ?_;refine cU.trans (bT 8 2 2337 32 1 _ rfl rfl rfl (by decide)) ?_;refine cU.trans (bT 8 3 2338 3 1 _ rfl rfl rfl (by decide)) ?_;exact zW)
 ·intro i3 s3 g3 _ _ F wV h;try dsimp only at h
  refine zI ag F h λe4 F h=>?_
  refine zC F h λF h=>?_
  refine zF (eq_true (show (s3.2.2.length+1) * 8<=140737488355328 by omega)) F λF=>?_
  refine zF (bh encI s3.2.2 [e4.id] (c:=[[.val (.int .i64 e4.id)]]) rfl) F λF=>?_
  refine zE [(0,.p),(1,.p),(2,.p),(4,.q),(5,.q),(6,.p),(3,.q),(8,.b),(9,.b),(10,.b),(11,.b),(12,.b),(7,.w),(13,.q),(16,.b),(17,.b),(18,.b),(14,.w),(15,.w),(19,.w),(20,.q),(21,.q),(22,.w)] ?_;refine zC F h λF h=>?_
  refine zF (eq_true (show (s3.1.length+1) * 8<=140737488355328 by omega)) F λF=>?_
  refine zF (bh encI s3.1 [e4.type] (c:=[[.val (.int .i64 e4.type)]]) rfl) F λF=>?_
  refine zTd F h (uA _) λr5 h=>?_
  refine zC F h λF h=>?_
  refine zF (eq_true (show (s3.2.1.length+1) * 24<=140737488355328 by omega)) F λF=>?_
  refine zF (bh bI s3.2.1 [r5] (c:=[[.aV (r5.map encI)]]) rfl) F λF=>?_
  exact zX (z:=wV _ (g3.1+1,g3.2.1+1,g3.2.2+1) h zW)
 ·intro i3 s3 g3 _ F h;try dsimp only at h
  refine zV ?_;refine zN F h ((0,0):Nat×Nat) [6,8,52,53] (λx=>[(54,.p (.val (.int .i64 ((x.1.1:Nat):Int))))]) [6,2336,2337,2338] (λx H=>[(8,bx (H 8) [(1,.row 2387 x.2.1),(4,.row 2388 x.2.2)]),(2387,.row x.2.1 175 3 (x.1.2.1.map aZ)),(2388,.row x.2.2 3 1 (x.1.2.2.map encI))]) ?_ ?_ (hw:=by refine cU.trans (bT 8 1 2387 175 3 _ rfl rfl rfl (by decide)) ?_;refine cU.trans (bT 8 4 2388 3 1 _ rfl rfl rfl (by decide)) ?_;exact zW)
  ·intro i6 s6 g6 _ _ F Ns6 h;try dsimp only at h
   refine zI aj F h λe7 F h=>?_
   refine zD [.q,.q,.q,.q,.q,.q,.q,.q,.q,.q,.q,.q] ?_;refine th F h (pR _ _) λr8 h=>?_
   refine th F h (pR _ _) λr9 h=>?_
   refine rG F h (λF h=>?_) λF h=>?_
   ·exact iR h
   ·refine zB F h (λF h=>?_) λF h=>?_
    ·exact iR h
    ·refine zC F h λF h=>?_
     refine zF (eq_true (show (s6.2.length+1) * 8<=140737488355328 by omega)) F λF=>?_
     refine zF (bh encI s6.2 [e7.id] (c:=[[.val (.int .i64 e7.id)]]) rfl) F λF=>?_
     refine zC F h λF h=>?_
     refine zF (eq_true (show (s6.1.length+1) * 24<=140737488355328 by omega)) F λF=>?_
     refine zF (bh aZ s6.1 [(⟨e7.type,r8,r9⟩:Edge)] (c:=[[.val (.int .i64 e7.type),.val (.int .i64 r8),.val (.int .i64 r9)]]) rfl) F λF=>?_
     exact zX (z:=Ns6 _ (g6.1+1,g6.2+1) h zW)
  ·intro i6 s6 g6 _ F h;try dsimp only at h
   exact iR h
def jV(a0:ax):Option (List ak) :=
 cB (a0.au.length<=fuel) <|
 bZ (λi1 (s1:(List ak)) lF vq =>
  thn (a0.au[i1]?) λe2 =>
  thn (a0.host.graph.au[i1]?) λe3 =>
  thn (nc a0.nodes e3.src) λe4 =>
  thn (nc a0.nodes e3.dst) λe5 =>
  cB (s1.length+1<=68719476736) <|
  lF (s1++[(⟨e2,e3.type,e4,e5⟩:ak)]))
 (a0.au.length-0) 0 ([]:List ak) λs1 =>
 some s1
theorem sO(a0:ax)(r:(List ak))(h:jV a0=some r):br pw 141 [.agg (aA a0)] (λv=>v = .row 102 4 (r.map aj)):=by
 refine br.tF ?_;refine bB [40] func141 ?_;rw[ntmps141,results141];unfold jV at h;have F:=trivial;refine zV ?_;refine zN F h (0:Nat) [1,8,9] (λx=>[(3,.row 2441 x.2),(10,.p (.val (.int .i64 ((x.1.1:Nat):Int))))]) [1] (λx H=>[(2441,.row x.2 102 4 (x.1.2.map aj))]) ?_ ?_ (hw:=by refine cU.trans (iF 3 2441 102 4 rfl rfl (by decide)) ?_;exact zW)
 ·intro i1 s1 g1 _ _ F Ns1 h;try dsimp only at h
  refine zI encI F h λe2 F h=>?_
  refine zI aZ F h λe3 F h=>?_
  refine zD [.p,.q,.q,.q,.q,.q,.q,.q,.q,.q,.q,.q,.q,.q,.q,.q,.q,.p,.w,.q] ?_;refine zA encI F h λe4 F h=>?_
  refine zA encI F h λe5 F h=>?_
  refine zC F h λF h=>?_
  refine zF (eq_true (show (s1.length+1) * 32<=140737488355328 by omega)) F λF=>?_
  refine zF (bh aj s1 [(⟨e2,e3.type,e4,e5⟩:ak)] (c:=[[.val (.int .i64 e2),.val (.int .i64 e3.type),.val (.int .i64 e4),.val (.int .i64 e5)]]) rfl) F λF=>?_
  exact zX (z:=Ns1 _ (g1+1) h zW)
 ·intro i1 s1 g1 _ F h;try dsimp only at h
  exact iR h
def iJ(a0:List Int)(a1:Int):Option Int :=
 cB (a0.length<=fuel) <|
 bZ (λi2 (s2:Unit) cL jj =>
  thn (a0[i2]?) λe3 =>
  cond (decide (e3<0)) (
   some 6) <|
  cond (decide (a1<=e3)) (
   some 6) <|
  cond (decide (0<((i2:Nat):Int))) (
   thn (nc a0 (i64.wrap (((i2:Nat):Int)-1))) λe4 =>
   cond (decide (e3<=e4)) (
    some 12) <|
   cL ()) <|
  cL ())
 (a0.length-0) 0 () λs2 =>
 some 0
theorem sB(a0:List Int)(a1:Int)(r:Int)(h:iJ a0 a1=some r):aS pw 80 [.aV (a0.map encI),.val (.int .i64 a1)] (λv=>v = .val (.int .i64 r)):=by
 refine aS.mV ?_;refine aQ [] func80 ?_;rw[ntmps80,results80];unfold iJ at h;have F:=trivial;refine zV ?_;refine zN F h () [0,1,7,8] (λx=>[(9,.p (.val (.int .i64 ((x.1.1:Nat):Int))))]) [] (λx H=>[]) ?_ ?_
 ·intro i2 s2 g2 _ _ F mI h;try dsimp only at h
  refine zI encI F h λe3 F h=>?_
  refine rG F h (λF h=>?_) λF h=>?_
  ·exact zR h
  ·refine zB F h (λF h=>?_) λF h=>?_
   ·exact zR h
   ·refine mH F h (λF h=>?_) λF h=>?_
    ·refine zA encI F h λe4 F h=>?_
     refine zB F h (λF h=>?_) λF h=>?_
     ·exact zR h
     ·exact zX (z:=mI _ () h zW)
    ·exact zX (z:=mI _ () h zW)
 ·intro i2 s2 g2 _ F h;try dsimp only at h
  exact zR h
def iW(a0:List Int)(p1:Int->Option Bool):Option Int :=
 cB (a0.length<=fuel) <|
 bZ (λi2 (s2:Unit) cL jj =>
  thn (a0[i2]?) λe3 =>
  thn (p1 e3) λr4 =>
  cond r4 (
   some ((i2:Nat):Int)) <|
  cL ())
 (a0.length-0) 0 () λs2 =>
 some (-1)
theorem xo(a0:List Int)(p1:Int->Option Bool)(k1:FuncId)(fs1 cs1:List PV)(hp1:∀x0 r,p1 x0=some r->aS pw k1 (fs1++[.val (.int .i64 x0)]++cs1) (λv=>v = .val (.bool r)))(r:Int)(h:iW a0 p1=some r):aS pw 123 [.aV (a0.map encI),.iw (.func k1) fs1 cs1] (λv=>v = .val (.int .i64 r)):=by
 refine aS.mV ?_;refine aQ [] func123 ?_;rw[ntmps123,results123];unfold iW at h;have F:=trivial;refine zV ?_;refine zN F h () [0,1,7] (λx=>[(8,.p (.val (.int .i64 ((x.1.1:Nat):Int))))]) [] (λx H=>[]) ?_ ?_
 ·intro i2 s2 g2 _ _ F mI h;try dsimp only at h
  refine zI encI F h λe3 F h=>?_
  refine zP F h (hp1 _) λr4 h=>?_
  refine zB F h (λF h=>?_) λF h=>?_
  ·exact zR h
  ·exact zX (z:=mI _ () h zW)
 ·intro i2 s2 g2 _ F h;try dsimp only at h
  exact zR h
def gN(a0:List Int)(p1:Int->Option Bool):Option Bool :=
 thn (iW a0 p1) λr2 =>
 some (decide (0<=r2))
theorem uT(a0:List Int)(p1:Int->Option Bool)(k1:FuncId)(fs1 cs1:List PV)(hp1:∀x0 r,p1 x0=some r->aS pw k1 (fs1++[.val (.int .i64 x0)]++cs1) (λv=>v = .val (.bool r)))(r:Bool)(h:gN a0 p1=some r):aS pw 65 [.aV (a0.map encI),.iw (.func k1) fs1 cs1] (λv=>v = .val (.bool r)):=by
 refine aS.mV ?_;refine aQ [] func65 ?_;rw[ntmps65,results65];unfold gN at h;have F:=trivial;refine zK F h (xo _ p1 k1 fs1 cs1 hp1) λr2 h=>?_
 exact zR h
def jr(a0:List Int)(a1:Int):Option Bool :=
 thn (iB a0 a1) λr2 =>
 some (decide (0<=r2))
theorem yu(a0:List Int)(a1:Int)(r:Bool)(h:jr a0 a1=some r):aS pw 25 [.aV (a0.map encI),.val (.int .i64 a1)] (λv=>v = .val (.bool r)):=by
 refine aS.mV ?_;refine aQ [] func25 ?_;rw[ntmps25,results25];unfold jr at h;have F:=trivial;refine zK F h (pR _ _) λr2 h=>?_
 exact zR h
def kU(a0:Int)(a1:ax):Option Bool :=
 thn (jr a1.nodes a0) λr2 =>
 some r2
theorem acn(a0:Int)(a1:ax)(r:Bool)(h:kU a0 a1=some r):aS pw 81 [.val (.int .i64 a0),.dU (aA a1) 0] (λv=>v = .val (.bool r)):=by
 refine aS.mV ?_;refine aQ [] func81 ?_;rw[ntmps81,results81];unfold kU at h;have F:=trivial;refine zK F h (yu _ _) λr2 h=>?_
 exact zR h
def fO(a0:Types)(a1:ax):Option Int :=
 thn (tH a0 a1.host) λr2 =>
 cond (decide (r2.2=0)) (
  cond (decide (((a1.nodes.length:Nat):Int)=((a1.host.graph.nodes.length:Nat):Int))) (
   cond (decide (((a1.au.length:Nat):Int)=((a1.host.graph.au.length:Nat):Int))) (
    cond (decide (a1.next<0)) (
     some 6) <|
    cond (decide (1000000<a1.next)) (
     some 6) <|
    thn (iJ a1.nodes a1.next) λr3 =>
    cond (decide (r3=0)) (
     thn (iJ a1.au a1.next) λr4 =>
     cond (decide (r4=0)) (
      thn (gN a1.au (λx5=>kU x5 (⟨a1.host,a1.nodes,a1.au,a1.next⟩:ax))) λr6 =>
      cond r6 (
       some 5) <|
      some 0) <|
     some r4) <|
    some r3) <|
   some 20) <|
  some 20) <|
 some r2.2
theorem pK(a0:Types)(a1:ax)(r:Int)(h:fO a0 a1=some r):aS pw 31 [.agg [.aV (a0.nodes.map aJ),.aV (a0.au.map aL)],.agg (aA a1)] (λv=>v = .val (.int .i64 r)):=by
 refine aS.mV ?_;refine aQ [] func31 ?_;rw[ntmps31,results31];unfold fO at h;have F:=trivial;refine zK F h (acf _ _) λr2 h=>?_
 refine l6 F h (λF h=>?_) λF h=>?_
 ·refine mH F h (λF h=>?_) λF h=>?_
  ·refine l6 F h (λF h=>?_) λF h=>?_
   ·refine rG F h (λF h=>?_) λF h=>?_
    ·exact zR h
    ·refine zB F h (λF h=>?_) λF h=>?_
     ·exact zR h
     ·refine zK F h (sB _ _) λr3 h=>?_
      refine l6 F h (λF h=>?_) λF h=>?_
      ·refine zK F h (sB _ _) λr4 h=>?_
       refine l6 F h (λF h=>?_) λF h=>?_
       ·refine zK F h (uT _ (λx5=>kU x5 (⟨a1.host,a1.nodes,a1.au,a1.next⟩:ax)) 81 [] [.dU (aA (⟨a1.host,a1.nodes,a1.au,a1.next⟩:ax)) 0] (λx5 r h=>acn x5 (⟨a1.host,a1.nodes,a1.au,a1.next⟩:ax) r h)) λr6 h=>?_
        refine zB F h (λF h=>?_) λF h=>?_
        ·exact zR h
        ·exact zR h
       ·exact zR h
      ·exact zR h
   ·exact zR h
  ·exact zR h
 ·exact zR h
end
def kV:ax:=⟨⟨⟨[],[]⟩,[]⟩,[],[],0⟩
def j9(t:Types)(a:ax)(p:aG):Option (ax×Int) :=
 thn (l8 p) λe =>
 cond (!decide (e=0)) (some (kV,e)) <|
 thn (giv (a.nodes.length<=a.host.graph.nodes.length/\a.nodes.length<=a.host.values.length/\a.nodes.length<=1000/\(∀l∈a.host.values,l.length<=1000000)/\p.az.length<=1000/\p.aF.length<=1000/\p.aR.length<=1000/\p.aP.length<=1000/\p.values.length<=1000/\∀n∈p.az,n.values.length<=1000000) ()) λ_ =>
 thn (jV a) λes =>
 thn (giv (es.length<=1000) ()) λ_ =>
 cond (!decide (p.next.x0=a.next)) (some (kV,11)) <|
 cond (!((lM (bC a) p.az 0).1&&(nS es p.aF 0).1)) (some (kV,11)) <|
 thn (giv ((lM (bC a) p.az 0).2.1.length<=1000/\(nS es p.aF 0).2.1.length<=1000) ()) λ_ =>
 cond (!(lN (lM (bC a) p.az 0).2.1 p.values).1) (some (kV,11)) <|
 thn (giv ((lN (lM (bC a) p.az 0).2.1 p.values).2.length<=1000/\(gM (lN (lM (bC a) p.az 0).2.1 p.values).2 (nS es p.aF 0).2.1 p=false->ahM ah.id ((lN (lM (bC a) p.az 0).2.1 p.values).2++p.aR)/\ahM ak.id ((nS es p.aF 0).2.1++p.aP))) ()) λ_ =>
 cond (gM (lN (lM (bC a) p.az 0).2.1 p.values).2 (nS es p.aF 0).2.1 p) (some (kV,11)) <|
 thn (kT (kG ((lN (lM (bC a) p.az 0).2.1 p.values).2++p.aR)) (nT ((nS es p.aF 0).2.1++p.aP)) p.next.x1) λx =>
 cond (!x.2) (some (kV,1)) <|
 thn (fO t x.1) λe2 =>
 cond (!decide (e2=0)) (some (kV,1)) (some (x.1,0))
noncomputable def eX(l:List aI):Option (List aI):=open Classical in giv (l.length<=1000000/\∃K,∀x∈l,x.kind=K/\oo x) (iU l)
theorem qx{l:List aI}(h:l.length<=1000000/\∃K,∀x∈l,x.kind=K/\oo x):eX l=some (iU l):=by unfold eX giv;rw[if_pos h]
def sP(p q:aG):Option aG:=giv (p.az.length<=1000000/\p.aF.length<=1000000/\p.values.length<=1000000/\q.az.length<=1000000/\q.aF.length<=1000000/\q.values.length<=1000000) (nk p q)
attribute [go_sem] nj
noncomputable section
def ig(a0:eS):Option eS :=
 cB (a0.nodes.length<=68719476736) <|
 cB (a0.au.length<=68719476736) <|
 some a0
theorem pE(a0:eS)(r:eS)(h:ig a0=some r):br pw 77 [.agg [.aV (a0.nodes.map encI),.aV (a0.au.map aZ)]] (λv=>v = .agg [.row 3 1 (r.nodes.map encI),.row 175 3 (r.au.map aZ)]):=by
 refine br.tF ?_;refine bB [3,6,7,10] func77 ?_;rw[ntmps77,results77];unfold ig at h;have F:=trivial;refine zE [(1,.q),(2,.q),(5,.b),(6,.b),(0,.w),(3,.s),(4,.w),(7,.s),(8,.q),(9,.w)] ?_;refine zC F h λF h=>?_
 refine zF (eq_true (show (a0.nodes.length) * 8<=140737488355328 by omega)) F λF=>?_
 refine zF (eq_true (eW (n:=1) (f:=encI) (λ_=>rfl) a0.nodes)) F λF=>?_
 refine zC F h λF h=>?_
 refine zF (eq_true (show (a0.au.length) * 24<=140737488355328 by omega)) F λF=>?_
 refine zF (eq_true (eW (n:=3) (f:=aZ) (λ_=>rfl) a0.au)) F λF=>?_
 exact iR h
def cC(a0:Host):Option Host :=
 thn (ig a0.graph) λr1 =>
 cB (a0.values.length<=fuel) <|
 bZ (λi2 (s2:(List (List Int))) cL jj =>
  thn (a0.values[i2]?) λe3 =>
  cB (e3.length<=68719476736) <|
  cB (s2.length+1<=68719476736) <|
  cL (s2++[e3]))
 (a0.values.length-0) 0 ([]:List (List Int)) λs2 =>
 some (⟨r1,s2⟩:Host)
theorem pF(a0:Host)(r:Host)(h:cC a0=some r):br pw 29 [.agg (nj a0)] (λv=>v = .agg [.row 3 1 (r.graph.nodes.map encI),.row 175 3 (r.graph.au.map aZ),.row 32 1 (r.values.map bI)]):=by
 refine br.tF ?_;refine bB [25,26] func29 ?_;rw[ntmps29,results29];unfold cC at h;have F:=trivial;refine zG 1112 F h (pE _) λr1 h=>?_
 refine zV ?_;refine zN F h (0:Nat) [1,2,3] (λx=>[(4,.p (.val (.int .i64 ((x.1.1:Nat):Int))))]) [1,2,1112,1113] (λx H=>[(3,bx (H 3) [(2,.row 2053 x.2)]),(2053,.row x.2 32 1 (x.1.2.map bI))]) ?_ ?_ (hw:=by refine cU.trans (bT 3 2 2053 32 1 _ rfl rfl rfl (by decide)) ?_;exact zW)
 ·intro i2 s2 g2 _ _ F mI h;try dsimp only at h
  refine zE [(0,.p),(2,.p),(1,.b),(3,.q),(4,.q),(5,.q),(6,.q),(7,.q),(8,.w),(9,.w),(10,.w),(11,.q),(12,.w)] ?_;refine zI bI F h λe3 F h=>?_
  refine zC F h λF h=>?_
  refine zF (eq_true (show (e3.length) * 8<=140737488355328 by omega)) F λF=>?_
  refine zF (eq_true (eW (n:=1) (f:=encI) (λ_=>rfl) e3)) F λF=>?_
  refine zC F h λF h=>?_
  refine zF (eq_true (show (s2.length+1) * 24<=140737488355328 by omega)) F λF=>?_
  refine zF (bh bI s2 [e3] (c:=[[.aV (e3.map encI)]]) rfl) F λF=>?_
  exact zX (z:=mI _ (g2+1) h zW)
 ·intro i2 s2 g2 _ F h;try dsimp only at h
  exact iR h
def dy(a0:ax):Option ax :=
 thn (cC a0.host) λr1 =>
 cB (a0.nodes.length<=68719476736) <|
 cB (a0.au.length<=68719476736) <|
 some (⟨r1,a0.nodes,a0.au,a0.next⟩:ax)
theorem vO(a0:ax)(r:ax)(h:dy a0=some r):br pw 32 [.agg (aA a0)] (λv=>v = .agg [.row 3 1 (r.host.graph.nodes.map encI),.row 175 3 (r.host.graph.au.map aZ),.row 32 1 (r.host.values.map bI),.row 3 1 (r.nodes.map encI),.row 3 1 (r.au.map encI),.p (.val (.int .i64 r.next))]):=by
 refine br.tF ?_;refine bB [6,9,10,13] func32 ?_;rw[ntmps32,results32];unfold dy at h;have F:=trivial;refine zE [(0,.q),(1,.q),(4,.q),(5,.q),(8,.b),(9,.b),(11,.b),(12,.b),(2,.f),(3,.w),(6,.s),(7,.w),(10,.s),(13,.q),(14,.w)] ?_;refine zH 1080 F h (pF _) λr1 h=>?_
 refine zC F h λF h=>?_
 refine zF (eq_true (show (a0.nodes.length) * 8<=140737488355328 by omega)) F λF=>?_
 refine zF (eq_true (eW (n:=1) (f:=encI) (λ_=>rfl) a0.nodes)) F λF=>?_
 refine zC F h λF h=>?_
 refine zF (eq_true (show (a0.au.length) * 8<=140737488355328 by omega)) F λF=>?_
 refine zF (eq_true (eW (n:=1) (f:=encI) (λ_=>rfl) a0.au)) F λF=>?_
 exact iR h
end
attribute [go_sem] aU jG iH dW lW dP aB dx ct ew bY
noncomputable section
def iX(a0:List cz)(a1:List cz):Option Types :=
 iter (λ(s2:Int×(List gB)) cL jj =>
  cond (decide (s2.1=0)) (
   cond (decide (s2.1<((a0.length:Nat):Int))) (
    thn (nc a0 s2.1) λe3 =>
    cB ((0:Int)<=s2.1/\s2.1<=(i64.wrap (s2.1+1))/\(i64.wrap (s2.1+1))<=((#[65,66,67,68,69,70]:Array UInt8).size:Int)) <|
    cB (¬ ((i64.wrap (s2.1+1))=0)) <|
    cB ((0:Int)<=s2.1/\s2.1<=(i64.wrap (s2.1+1))/\(i64.wrap (s2.1+1))<=((#[117,118,119,120,121,122]:Array UInt8).size:Int)) <|
    cond (decide ((e3.x1.tmod 4)=1)) (
     cB (s2.2.length+1<=68719476736) <|
     cL ((i64.wrap (s2.1+1)),(s2.2++[(⟨((⟨#[65,66,67,68,69,70]⟩:ByteArray).extract s2.1.toNat (i64.wrap (s2.1+1)).toNat),(i64.wrap (((i64.wrap e3.x0).tmod (i64.wrap (s2.1+1)))-1)),(decide (((IntKind.u8.wrap (e3.x0.tdiv 16)).tmod 4)=3)),[(⟨((⟨#[117,118,119,120,121,122]⟩:ByteArray).extract s2.1.toNat (i64.wrap (s2.1+1)).toNat),(-3),(i64.wrap (3+((i64.wrap (IntKind.u8.wrap (e3.x1.tdiv 4))).tmod 9))),([]:List ByteArray)⟩:Attr)]⟩:gB)]))) <|
    cond (decide ((e3.x1.tmod 4)=2)) (
     cB (s2.2.length+1<=68719476736) <|
     cL ((i64.wrap (s2.1+1)),(s2.2++[(⟨((⟨#[65,66,67,68,69,70]⟩:ByteArray).extract s2.1.toNat (i64.wrap (s2.1+1)).toNat),(i64.wrap (((i64.wrap e3.x0).tmod (i64.wrap (s2.1+1)))-1)),(decide (((IntKind.u8.wrap (e3.x0.tdiv 16)).tmod 4)=3)),[(⟨((⟨#[117,118,119,120,121,122]⟩:ByteArray).extract s2.1.toNat (i64.wrap (s2.1+1)).toNat),0,1,[(⟨#[111,102,102]⟩:ByteArray),(⟨#[111,110]⟩:ByteArray)]⟩:Attr)]⟩:gB)]))) <|
    cB (s2.2.length+1<=68719476736) <|
    cL ((i64.wrap (s2.1+1)),(s2.2++[(⟨((⟨#[65,66,67,68,69,70]⟩:ByteArray).extract s2.1.toNat (i64.wrap (s2.1+1)).toNat),(i64.wrap (((i64.wrap e3.x0).tmod (i64.wrap (s2.1+1)))-1)),(decide (((IntKind.u8.wrap (e3.x0.tdiv 16)).tmod 4)=3)),([]:List Attr)⟩:gB)]))) <|
   cB ((0:Int)<=s2.1/\s2.1<=(i64.wrap (s2.1+1))/\(i64.wrap (s2.1+1))<=((#[65,66,67,68,69,70]:Array UInt8).size:Int)) <|
   cB (¬ ((i64.wrap (s2.1+1))=0)) <|
   cB ((0:Int)<=s2.1/\s2.1<=(i64.wrap (s2.1+1))/\(i64.wrap (s2.1+1))<=((#[117,118,119,120,121,122]:Array UInt8).size:Int)) <|
   cond (decide (((0:Int).tmod 4)=1)) (
    cB (s2.2.length+1<=68719476736) <|
    cL ((i64.wrap (s2.1+1)),(s2.2++[(⟨((⟨#[65,66,67,68,69,70]⟩:ByteArray).extract s2.1.toNat (i64.wrap (s2.1+1)).toNat),(i64.wrap (((i64.wrap 0).tmod (i64.wrap (s2.1+1)))-1)),(decide (((IntKind.u8.wrap ((0:Int).tdiv 16)).tmod 4)=3)),[(⟨((⟨#[117,118,119,120,121,122]⟩:ByteArray).extract s2.1.toNat (i64.wrap (s2.1+1)).toNat),(-3),(i64.wrap (3+((i64.wrap (IntKind.u8.wrap ((0:Int).tdiv 4))).tmod 9))),([]:List ByteArray)⟩:Attr)]⟩:gB)]))) <|
   cond (decide (((0:Int).tmod 4)=2)) (
    cB (s2.2.length+1<=68719476736) <|
    cL ((i64.wrap (s2.1+1)),(s2.2++[(⟨((⟨#[65,66,67,68,69,70]⟩:ByteArray).extract s2.1.toNat (i64.wrap (s2.1+1)).toNat),(i64.wrap (((i64.wrap 0).tmod (i64.wrap (s2.1+1)))-1)),(decide (((IntKind.u8.wrap ((0:Int).tdiv 16)).tmod 4)=3)),[(⟨((⟨#[117,118,119,120,121,122]⟩:ByteArray).extract s2.1.toNat (i64.wrap (s2.1+1)).toNat),0,1,[(⟨#[111,102,102]⟩:ByteArray),(⟨#[111,110]⟩:ByteArray)]⟩:Attr)]⟩:gB)]))) <|
   cB (s2.2.length+1<=68719476736) <|
   cL ((i64.wrap (s2.1+1)),(s2.2++[(⟨((⟨#[65,66,67,68,69,70]⟩:ByteArray).extract s2.1.toNat (i64.wrap (s2.1+1)).toNat),(i64.wrap (((i64.wrap 0).tmod (i64.wrap (s2.1+1)))-1)),(decide (((IntKind.u8.wrap ((0:Int).tdiv 16)).tmod 4)=3)),([]:List Attr)⟩:gB)]))) <|
  cond (decide (s2.1<((a0.length:Nat):Int))) (
   cond (decide (s2.1<6)) (
    thn (nc a0 s2.1) λe4 =>
    cB ((0:Int)<=s2.1/\s2.1<=(i64.wrap (s2.1+1))/\(i64.wrap (s2.1+1))<=((#[65,66,67,68,69,70]:Array UInt8).size:Int)) <|
    cB (¬ ((i64.wrap (s2.1+1))=0)) <|
    cB ((0:Int)<=s2.1/\s2.1<=(i64.wrap (s2.1+1))/\(i64.wrap (s2.1+1))<=((#[117,118,119,120,121,122]:Array UInt8).size:Int)) <|
    cond (decide ((e4.x1.tmod 4)=1)) (
     cB (s2.2.length+1<=68719476736) <|
     cL ((i64.wrap (s2.1+1)),(s2.2++[(⟨((⟨#[65,66,67,68,69,70]⟩:ByteArray).extract s2.1.toNat (i64.wrap (s2.1+1)).toNat),(i64.wrap (((i64.wrap e4.x0).tmod (i64.wrap (s2.1+1)))-1)),(decide (((IntKind.u8.wrap (e4.x0.tdiv 16)).tmod 4)=3)),[(⟨((⟨#[117,118,119,120,121,122]⟩:ByteArray).extract s2.1.toNat (i64.wrap (s2.1+1)).toNat),(-3),(i64.wrap (3+((i64.wrap (IntKind.u8.wrap (e4.x1.tdiv 4))).tmod 9))),([]:List ByteArray)⟩:Attr)]⟩:gB)]))) <|
    cond (decide ((e4.x1.tmod 4)=2)) (
     cB (s2.2.length+1<=68719476736) <|
     cL ((i64.wrap (s2.1+1)),(s2.2++[(⟨((⟨#[65,66,67,68,69,70]⟩:ByteArray).extract s2.1.toNat (i64.wrap (s2.1+1)).toNat),(i64.wrap (((i64.wrap e4.x0).tmod (i64.wrap (s2.1+1)))-1)),(decide (((IntKind.u8.wrap (e4.x0.tdiv 16)).tmod 4)=3)),[(⟨((⟨#[117,118,119,120,121,122]⟩:ByteArray).extract s2.1.toNat (i64.wrap (s2.1+1)).toNat),0,1,[(⟨#[111,102,102]⟩:ByteArray),(⟨#[111,110]⟩:ByteArray)]⟩:Attr)]⟩:gB)]))) <|
    cB (s2.2.length+1<=68719476736) <|
    cL ((i64.wrap (s2.1+1)),(s2.2++[(⟨((⟨#[65,66,67,68,69,70]⟩:ByteArray).extract s2.1.toNat (i64.wrap (s2.1+1)).toNat),(i64.wrap (((i64.wrap e4.x0).tmod (i64.wrap (s2.1+1)))-1)),(decide (((IntKind.u8.wrap (e4.x0.tdiv 16)).tmod 4)=3)),([]:List Attr)⟩:gB)]))) <|
   jj (s2.1,s2.2)) <|
  jj (s2.1,s2.2))
 fuel (0,([]:List gB)) λs2 =>
 iter (λ(s5:Int×(List lU)) sC zg =>
  cond (decide (s5.1<((a1.length:Nat):Int))) (
   cond (decide (s5.1<5)) (
    cB ((0:Int)<=s5.1/\s5.1<=(i64.wrap (s5.1+1))/\(i64.wrap (s5.1+1))<=((#[101,102,103,104,105]:Array UInt8).size:Int)) <|
    thn (nc a1 s5.1) λe6 =>
    cB (¬ (((s2.2.length:Nat):Int)=0)) <|
    cB (¬ (((s2.2.length:Nat):Int)=0)) <|
    cB (s5.2.length+1<=68719476736) <|
    sC ((i64.wrap (s5.1+1)),(s5.2++[(⟨((⟨#[101,102,103,104,105]⟩:ByteArray).extract s5.1.toNat (i64.wrap (s5.1+1)).toNat),((i64.wrap e6.x0).tmod ((s2.2.length:Nat):Int)),((i64.wrap e6.x1).tmod ((s2.2.length:Nat):Int)),0,(-1),0,(-1)⟩:lU)]))) <|
   zg (s5.1,s5.2)) <|
  zg (s5.1,s5.2))
 fuel (0,([]:List lU)) λs5 =>
 some (⟨s2.2,s5.2⟩:Types)
def gm(a0:Types):Option (List Int) :=
 cB (a0.nodes.length<=fuel) <|
 bZ (λi1 (s1:(List Int)) lF vq =>
  thn (a0.nodes[i1]?) λe2 =>
  cond e2.abs (
   lF s1) <|
  cB (s1.length+1<=68719476736) <|
  lF (s1++[((i1:Nat):Int)]))
 (a0.nodes.length-0) 0 ([]:List Int) λs1 =>
 some s1
def gG(a0:Types)(a1:cZ):Option Host :=
 thn (gm a0) λr2 =>
 iter (λ(s3:Int×(List Int)×(List (List Int))) iy pz =>
  cond (decide (s3.1<((a1.nodes.length:Nat):Int))) (
   cond (decide (s3.1<8)) (
    cond (decide (0<((r2.length:Nat):Int))) (
     thn (nc a1.nodes s3.1) λe4 =>
     cB (¬ (((r2.length:Nat):Int)=0)) <|
     thn (nc r2 ((i64.wrap e4.x0).tmod ((r2.length:Nat):Int))) λe5 =>
     thn (lY a0 e5) λr6 =>
     cB (r6.1.length<=fuel) <|
     bZ (λi7 (s7:(List Int)) afA aEz =>
      thn (r6.1[i7]?) λe8 =>
      cB (¬ ((i64.wrap ((i64.wrap (e8.high-e8.low))+1))=0)) <|
      cB (s7.length+1<=68719476736) <|
      afA (s7++[(i64.wrap (e8.low+((i64.wrap ((i64.wrap e4.x1)+(i64.wrap (7 * ((i7:Nat):Int))))).tmod (i64.wrap ((i64.wrap (e8.high-e8.low))+1)))))]))
     (r6.1.length-0) 0 ([]:List Int) λs7 =>
     cB (s3.2.1.length+1<=68719476736) <|
     cB (s3.2.2.length+1<=68719476736) <|
     iy ((i64.wrap (s3.1+1)),(s3.2.1++[e5]),(s3.2.2++[s7]))) <|
    pz (s3.1,s3.2.1,s3.2.2)) <|
   pz (s3.1,s3.2.1,s3.2.2)) <|
  pz (s3.1,s3.2.1,s3.2.2))
 fuel (0,([]:List Int),([]:List (List Int))) λs3 =>
 iter (λ(s9:Int×(List Edge)) adT adU =>
  cond (decide (s9.1<((a1.au.length:Nat):Int))) (
   cond (decide (s9.1<10)) (
    cond (decide (0<((s3.2.1.length:Nat):Int))) (
     cond (decide (0<((a0.au.length:Nat):Int))) (
      thn (nc a1.au s9.1) λuU =>
      cB (¬ (((a0.au.length:Nat):Int)=0)) <|
      cB (¬ (((s3.2.1.length:Nat):Int)=0)) <|
      cB (¬ (((s3.2.1.length:Nat):Int)=0)) <|
      thn (nc s3.2.1 ((i64.wrap uU.x1).tmod ((s3.2.1.length:Nat):Int))) λe11 =>
      thn (nc s3.2.1 ((i64.wrap uU.x2).tmod ((s3.2.1.length:Nat):Int))) λvr =>
      thn (qu a0 ((i64.wrap uU.x0).tmod ((a0.au.length:Nat):Int)) e11 vr) λr13 =>
      cond r13 (
       cB (s9.2.length+1<=68719476736) <|
       adT ((i64.wrap (s9.1+1)),(s9.2++[(⟨((i64.wrap uU.x0).tmod ((a0.au.length:Nat):Int)),((i64.wrap uU.x1).tmod ((s3.2.1.length:Nat):Int)),((i64.wrap uU.x2).tmod ((s3.2.1.length:Nat):Int))⟩:Edge)]))) <|
      adT ((i64.wrap (s9.1+1)),s9.2)) <|
     adU (s9.1,s9.2)) <|
    adU (s9.1,s9.2)) <|
   adU (s9.1,s9.2)) <|
  adU (s9.1,s9.2))
 fuel (0,([]:List Edge)) λs9 =>
 some (⟨⟨s3.2.1,s9.2⟩,s3.2.2⟩:Host)
def fC(a0:Int)(a1:Int):Option (List Int) :=
 cB (a1.toNat<=fuel) <|
 bZ (λi2 (s2:(List Int)) cL jj =>
  cB (s2.length+1<=68719476736) <|
  cL (s2++[(i64.wrap (a0+((i2:Nat):Int)))]))
 (a1.toNat-0) 0 ([]:List Int) λs2 =>
 some s2
def js(a0:Types)(a1:Host):Option (ax×Int) :=
 thn (jO a0) λr2 =>
 cond (decide (r2.2=0)) (
  thn (iI a0 a1) λr3 =>
  cond (decide (r3.2=0)) (
   thn (cC a1) λr4 =>
   thn (fC 0 ((a1.graph.nodes.length:Nat):Int)) λr5 =>
   thn (fC ((a1.graph.nodes.length:Nat):Int) (i64.wrap ((i64.wrap (((a1.graph.nodes.length:Nat):Int)+((a1.graph.au.length:Nat):Int)))-((a1.graph.nodes.length:Nat):Int)))) λr6 =>
   some ((⟨r4,r5,r6,(i64.wrap (((a1.graph.nodes.length:Nat):Int)+((a1.graph.au.length:Nat):Int)))⟩:ax),0)) <|
  some ((⟨(⟨(⟨([]:List Int),([]:List Edge)⟩:eS),([]:List (List Int))⟩:Host),([]:List Int),([]:List Int),0⟩:ax),r3.2)) <|
 some ((⟨⟨⟨[],[]⟩,[]⟩,[],[],0⟩:ax),r2.2)
def gH(a0:ax)(a1:Int):Option ah :=
 thn (nc a0.nodes a1) λe2 =>
 thn (nc a0.host.graph.nodes a1) λe3 =>
 thn (nc a0.host.values a1) λe4 =>
 cB (e4.length<=68719476736) <|
 some (⟨e2,e3,e4⟩:ah)
def dz(a0:ax)(a1:Int):Option ak :=
 thn (nc a0.host.graph.au a1) λe2 =>
 thn (nc a0.au a1) λe3 =>
 thn (nc a0.nodes e2.src) λe4 =>
 thn (nc a0.nodes e2.dst) λe5 =>
 some (⟨e3,e2.type,e4,e5⟩:ak)
def eH(a0:ax):Option aO :=
 cB (a0.nodes.length<=fuel) <|
 bZ (λi1 (s1:(List ah)) lF vq =>
  thn (gH a0 ((i1:Nat):Int)) λr2 =>
  cB (s1.length+1<=68719476736) <|
  lF (s1++[r2]))
 (a0.nodes.length-0) 0 ([]:List ah) λs1 =>
 cB (a0.au.length<=fuel) <|
 bZ (λi3 (s3:(List ak)) iy pz =>
  thn (dz a0 ((i3:Nat):Int)) λr4 =>
  cB (s3.length+1<=68719476736) <|
  iy (s3++[r4]))
 (a0.au.length-0) 0 ([]:List ak) λs3 =>
 some (⟨s1,s3⟩:aO)
def cD(a0:aO)(a1:ak):Option (aO×Bool) :=
 cB (a0.au.length<=fuel) <|
 bZ (λi2 (s2:Unit) cL jj =>
  thn (a0.au[i2]?) λe3 =>
  cond (decide (e3.id=a1.id)&&(decide (e3.type=a1.type)&&(decide (e3.src=a1.src)&&decide (e3.dst=a1.dst)))) (
   cB ((0:Int)<=0/\0<=((i2:Nat):Int)/\((i2:Nat):Int)<=(a0.au.length:Int)) <|
   cB ((a0.au.take i2).length<=68719476736) <|
   cB ((0:Int)<=(i64.wrap (((i2:Nat):Int)+1))/\(i64.wrap (((i2:Nat):Int)+1))<=((a0.au.length:Nat):Int)/\((a0.au.length:Nat):Int)<=(a0.au.length:Int)) <|
   cB ((a0.au.take i2).length+(a0.au.drop (i64.wrap (((i2:Nat):Int)+1)).toNat).length<=68719476736) <|
   some ((⟨a0.nodes,((a0.au.take i2)++(a0.au.drop (i64.wrap (((i2:Nat):Int)+1)).toNat))⟩:aO),true)) <|
  cL ())
 (a0.au.length-0) 0 () λs2 =>
 some (a0,false)
def bW(a0:List Int)(a1:Int):Option Int :=
 cB (a0.length<=fuel) <|
 bZ (λi2 (s2:Unit) cL jj =>
  thn (a0[i2]?) λe3 =>
  cond (decide (e3=a1)) (
   some ((i2:Nat):Int)) <|
  cL ())
 (a0.length-0) 0 () λs2 =>
 some (-1)
def cW(a0:aO)(a1:Int):Option ax :=
 cB (a0.nodes.length<=fuel) <|
 bZ (λi2 (s2:(List Int)×(List (List Int))×(List Int)) cL jj =>
  thn (a0.nodes[i2]?) λe3 =>
  cB (s2.2.2.length+1<=68719476736) <|
  cB (s2.1.length+1<=68719476736) <|
  cB (e3.values.length<=68719476736) <|
  cB (s2.2.1.length+1<=68719476736) <|
  cL ((s2.1++[e3.type]),(s2.2.1++[e3.values]),(s2.2.2++[e3.id])))
 (a0.nodes.length-0) 0 (([]:List Int),([]:List (List Int)),([]:List Int)) λs2 =>
 cB (a0.au.length<=fuel) <|
 bZ (λi4 (s4:(List Edge)×(List Int)) tj amh =>
  thn (a0.au[i4]?) λe5 =>
  cB (s4.2.length+1<=68719476736) <|
  thn (bW s2.2.2 e5.src) λr6 =>
  thn (bW s2.2.2 e5.dst) λr7 =>
  cB (s4.1.length+1<=68719476736) <|
  tj ((s4.1++[(⟨e5.type,r6,r7⟩:Edge)]),(s4.2++[e5.id])))
 (a0.au.length-0) 0 (([]:List Edge),([]:List Int)) λs4 =>
 some (⟨⟨⟨s2.1,s4.1⟩,s2.2.1⟩,s2.2.2,s4.2,a1⟩:ax)
def dA(a0:List Int)(a1:List Int):Option Bool :=
 cond (decide (((a0.length:Nat):Int)=((a1.length:Nat):Int))) (
  cB (a0.length<=fuel) <|
  bZ (λi2 (s2:Unit) cL jj =>
   thn (a0[i2]?) λe3 =>
   thn (a1[i2]?) λe4 =>
   cond (decide (e3=e4)) (
    cL ()) <|
   some false)
  (a0.length-0) 0 () λs2 =>
  some true) <|
 some false
def fh(a0:ah)(a1:ah):Option Bool :=
 cond (decide (a0.id=a1.id)) (
  cond (decide (a0.type=a1.type)) (
   thn (dA a0.values a1.values) λr2 =>
   some r2) <|
  some false) <|
 some false
def cc(a0:aO)(a1:ah):Option (aO×Bool) :=
 cB (a0.nodes.length<=fuel) <|
 bZ (λi2 (s2:Unit) cL jj =>
  thn (a0.nodes[i2]?) λe3 =>
  thn (fh e3 a1) λr4 =>
  cond r4 (
   cB ((0:Int)<=0/\0<=((i2:Nat):Int)/\((i2:Nat):Int)<=(a0.nodes.length:Int)) <|
   cB ((0:Int)<=(i64.wrap (((i2:Nat):Int)+1))/\(i64.wrap (((i2:Nat):Int)+1))<=((a0.nodes.length:Nat):Int)/\((a0.nodes.length:Nat):Int)<=(a0.nodes.length:Int)) <|
   cB ((a0.nodes.take i2).length<=68719476736) <|
   cB ((a0.nodes.take i2).length+(a0.nodes.drop (i64.wrap (((i2:Nat):Int)+1)).toNat).length<=68719476736) <|
   some ((⟨((a0.nodes.take i2)++(a0.nodes.drop (i64.wrap (((i2:Nat):Int)+1)).toNat)),a0.au⟩:aO),true)) <|
  cL ())
 (a0.nodes.length-0) 0 () λs2 =>
 some (a0,false)
def fD(a0:ax)(a1:Bool)(a2:Int):Option ax :=
 thn (eH a0) λr3 =>
 cond a1 (
  thn (nc r3.au a2) λe4 =>
  thn (cD r3 e4) λr5 =>
  thn (cW r5.1 a0.next) λr6 =>
  some r6) <|
 thn (nc r3.nodes a2) λe7 =>
 thn (cc r3 e7) λr8 =>
 thn (cW r8.1 a0.next) λr9 =>
 some r9
def gO(a0:Types)(a1:ax)(a2:jF):Option ax :=
 thn (dy a1) λr3 =>
 cond (decide (((i64.wrap a2.x0).tmod 5)=0)) (
  cond (decide (0<((a1.nodes.length:Nat):Int))) (
   cB (¬ (((a1.nodes.length:Nat):Int)=0)) <|
   thn (nc r3.host.values ((i64.wrap a2.x1).tmod ((a1.nodes.length:Nat):Int))) λe4 =>
   cond (decide (0<((e4.length:Nat):Int))) (
    cB (¬ (((e4.length:Nat):Int)=0)) <|
    cB (¬ (((e4.length:Nat):Int)=0)) <|
    thn (nc e4 ((i64.wrap a2.x2).tmod ((e4.length:Nat):Int))) λe5 =>
    some (⟨(⟨r3.host.graph,(r3.host.values.set (((i64.wrap a2.x1).tmod ((a1.nodes.length:Nat):Int)).toNat) (e4.set (((i64.wrap a2.x2).tmod ((e4.length:Nat):Int)).toNat) (i64.wrap (e5+1))))⟩:Host),r3.nodes,r3.au,r3.next⟩:ax)) <|
   some r3) <|
  some r3) <|
 cond (decide (((i64.wrap a2.x0).tmod 5)=1)) (
  cond (decide (0<((a1.nodes.length:Nat):Int))) (
   cB (¬ (((a1.nodes.length:Nat):Int)=0)) <|
   thn (fD a1 false ((i64.wrap a2.x1).tmod ((a1.nodes.length:Nat):Int))) λr6 =>
   some r6) <|
  some r3) <|
 cond (decide (((i64.wrap a2.x0).tmod 5)=2)) (
  cond (decide (0<((a1.au.length:Nat):Int))) (
   cB (¬ (((a1.au.length:Nat):Int)=0)) <|
   thn (fD a1 true ((i64.wrap a2.x1).tmod ((a1.au.length:Nat):Int))) λr7 =>
   some r7) <|
  some r3) <|
 cond (decide (((i64.wrap a2.x0).tmod 5)=3)) (
  thn (gG a0 (⟨[(⟨a2.x1,a2.x2⟩:cz)],[]⟩:cZ)) λr8 =>
  cond (decide (((r8.graph.nodes.length:Nat):Int)=1)) (
   thn (r8.values[0]?) λe9 =>
   thn (r8.graph.nodes[0]?) λuU =>
   cB (r3.host.graph.nodes.length+1<=68719476736) <|
   cB (r3.host.values.length+1<=68719476736) <|
   cB (r3.nodes.length+1<=68719476736) <|
   some (⟨(⟨(⟨(r3.host.graph.nodes++[uU]),r3.host.graph.au⟩:eS),(r3.host.values++[e9])⟩:Host),(r3.nodes++[r3.next]),r3.au,(i64.wrap (r3.next+1))⟩:ax)) <|
  some r3) <|
 cond (decide (((i64.wrap a2.x0).tmod 5)=4)) (
  cond (decide (0<((a1.nodes.length:Nat):Int))) (
   cond (decide (0<((a0.au.length:Nat):Int))) (
    cB (¬ (((a0.au.length:Nat):Int)=0)) <|
    cB (¬ (((a1.nodes.length:Nat):Int)=0)) <|
    cB (¬ (((a1.nodes.length:Nat):Int)=0)) <|
    cB (r3.host.graph.au.length+1<=68719476736) <|
    cB (r3.au.length+1<=68719476736) <|
    some (⟨(⟨(⟨r3.host.graph.nodes,(r3.host.graph.au++[(⟨((i64.wrap a2.x1).tmod ((a0.au.length:Nat):Int)),((i64.wrap ((i64.wrap a2.x1).tdiv 5)).tmod ((a1.nodes.length:Nat):Int)),((i64.wrap a2.x2).tmod ((a1.nodes.length:Nat):Int))⟩:Edge)])⟩:eS),r3.host.values⟩:Host),r3.nodes,(r3.au++[r3.next]),(i64.wrap (r3.next+1))⟩:ax)) <|
   some r3) <|
  some r3) <|
 some r3
def gZ(a0:List Int)(a1:Int):Option Int :=
 cB (a0.length<=fuel) <|
 bZ (λi2 (s2:Unit) cL jj =>
  thn (a0[i2]?) λe3 =>
  cond (decide (e3<0)) (
   some 6) <|
  cond (decide (a1<=e3)) (
   some 6) <|
  cond (decide (0<((i2:Nat):Int))) (
   thn (nc a0 (i64.wrap (((i2:Nat):Int)-1))) λe4 =>
   cond (decide (e3<=e4)) (
    some 12) <|
   cL ()) <|
  cL ())
 (a0.length-0) 0 () λs2 =>
 some 0
def b8(a0:Types)(a1:ax):Option Int :=
 thn (jO a0) λr2 =>
 cond (decide (r2.2=0)) (
  thn (iI a0 a1.host) λr3 =>
  cond (decide (r3.2=0)) (
   cond (decide (((a1.nodes.length:Nat):Int)=((a1.host.graph.nodes.length:Nat):Int))) (
    cond (decide (((a1.au.length:Nat):Int)=((a1.host.graph.au.length:Nat):Int))) (
     cond (decide (a1.next<0)) (
      some 6) <|
     cond (decide (1000000<a1.next)) (
      some 6) <|
     thn (gZ a1.nodes a1.next) λr4 =>
     cond (decide (r4=0)) (
      thn (gZ a1.au a1.next) λr5 =>
      cond (decide (r5=0)) (
       cB (a1.au.length<=fuel) <|
       bZ (λi6 (s6:Unit) nV adS =>
        thn (a1.au[i6]?) λe7 =>
        thn (bW a1.nodes e7) λr8 =>
        cond (decide (0<=r8)) (
         some 5) <|
        nV ())
       (a1.au.length-0) 0 () λs6 =>
       some 0) <|
      some r5) <|
     some r4) <|
    some 20) <|
   some 20) <|
  some r3.2) <|
 some r2.2
def ep(a0:Types)(a1:ax)(a2:List jF):Option ax :=
 cB (a2.length<=fuel) <|
 bZ (λi3 (s3:(List Int)×(List Edge)×(List (List Int))×(List Int)×(List Int)×Int) iy pz =>
  thn (a2[i3]?) λe4 =>
  thn (gO a0 (⟨⟨⟨s3.1,s3.2.1⟩,s3.2.2.1⟩,s3.2.2.2.1,s3.2.2.2.2.1,s3.2.2.2.2.2⟩:ax) e4) λr5 =>
  thn (b8 a0 r5) λr6 =>
  cond (decide (r6=0)) (
   iy (r5.host.graph.nodes,r5.host.graph.au,r5.host.values,r5.nodes,r5.au,r5.next)) <|
  iy (s3.1,s3.2.1,s3.2.2.1,s3.2.2.2.1,s3.2.2.2.2.1,s3.2.2.2.2.2))
 (a2.length-0) 0 (a1.host.graph.nodes,a1.host.graph.au,a1.host.values,a1.nodes,a1.au,a1.next) λs3 =>
 some (⟨⟨⟨s3.1,s3.2.1⟩,s3.2.2.1⟩,s3.2.2.2.1,s3.2.2.2.2.1,s3.2.2.2.2.2⟩:ax)
def iK(a0:ax)(a1:ax):Option Bool :=
 cB (a0.nodes.length<=fuel) <|
 bZ (λi2 (s2:Unit) cL jj =>
  thn (a0.nodes[i2]?) λe3 =>
  thn (bW a1.nodes e3) λr4 =>
  thn (bW a1.au e3) λr5 =>
  cond (decide (0<=r5)) (
   some false) <|
  cond (decide (0<=r4)) (
   thn (a0.host.graph.nodes[i2]?) λe6 =>
   thn (nc a1.host.graph.nodes r4) λe7 =>
   cond (decide (e6=e7)) (
    cL ()) <|
   some false) <|
  cL ())
 (a0.nodes.length-0) 0 () λs2 =>
 cB (a0.au.length<=fuel) <|
 bZ (λi8 (s8:Unit) uC acj =>
  thn (a0.au[i8]?) λe9 =>
  thn (bW a1.au e9) λr10 =>
  thn (bW a1.nodes e9) λr11 =>
  cond (decide (0<=r11)) (
   some false) <|
  cond (decide (0<=r10)) (
   thn (dz a0 ((i8:Nat):Int)) λr12 =>
   thn (dz a1 r10) λr13 =>
   cond (decide (r12.id=r13.id)&&(decide (r12.type=r13.type)&&(decide (r12.src=r13.src)&&decide (r12.dst=r13.dst)))) (
    uC ()) <|
   some false) <|
  uC ())
 (a0.au.length-0) 0 () λs8 =>
 some true
def fE(a0:ax)(a1:ax):Option ((List ah)×(List ak)) :=
 cB (a0.nodes.length<=fuel) <|
 bZ (λi2 (s2:(List ah)) cL jj =>
  thn (a0.nodes[i2]?) λe3 =>
  thn (bW a1.nodes e3) λr4 =>
  cond (decide (r4<0)) (
   thn (gH a0 ((i2:Nat):Int)) λr5 =>
   cB (s2.length+1<=68719476736) <|
   cL (s2++[r5])) <|
  cL s2)
 (a0.nodes.length-0) 0 ([]:List ah) λs2 =>
 cB (a0.au.length<=fuel) <|
 bZ (λi6 (s6:(List ak)) nV adS =>
  thn (a0.au[i6]?) λe7 =>
  thn (bW a1.au e7) λr8 =>
  cond (decide (r8<0)) (
   thn (dz a0 ((i6:Nat):Int)) λr9 =>
   cB (s6.length+1<=68719476736) <|
   nV (s6++[r9])) <|
  nV s6)
 (a0.au.length-0) 0 ([]:List ak) λs6 =>
 some (s2,s6)
def iY(a0:ax)(a1:ax):Option (aG×Bool) :=
 thn (iK a0 a1) λr2 =>
 cond r2 (
  thn (fE a0 a1) λr3 =>
  thn (fE a1 a0) λr4 =>
  cB (a0.nodes.length<=fuel) <|
  bZ (λi5 (s5:(List aM)) sC zg =>
   thn (a0.nodes[i5]?) λe6 =>
   thn (bW a1.nodes e6) λr7 =>
   cond (decide (r7<0)) (
    sC s5) <|
   iter (λ(s8:Int×(List aM)) uC acj =>
    thn (a0.host.values[i5]?) λe9 =>
    cond (decide (s8.1<((e9.length:Nat):Int))) (
     thn (nc e9 s8.1) λuU =>
     thn (nc a1.host.values r7) λe11 =>
     thn (nc e11 s8.1) λvr =>
     cond (decide (uU=vr)) (
      uC ((i64.wrap (s8.1+1)),s8.2)) <|
     cB (s8.2.length+1<=68719476736) <|
     uC ((i64.wrap (s8.1+1)),(s8.2++[(⟨e6,s8.1,uU,vr⟩:aM)]))) <|
    acj (s8.1,s8.2))
   fuel (0,s5) λs8 =>
   sC s8.2)
  (a0.nodes.length-0) 0 ([]:List aM) λs5 =>
  some ((⟨r3.1,r3.2,r4.1,r4.2,s5,(⟨a0.next,a1.next⟩:cz)⟩:aG),true)) <|
 some ((⟨[],[],[],[],[],⟨0,0⟩⟩:aG),false)
def gI(a0:Types)(a1:ax)(a2:ax):Option (aG×Int) :=
 thn (b8 a0 a1) λr3 =>
 cond (decide (r3=0)) (
  thn (b8 a0 a2) λr4 =>
  cond (decide (r4=0)) (
   thn (iY a1 a2) λr5 =>
   cond r5.2 (
    some (r5.1,0)) <|
   some ((⟨([]:List ah),([]:List ak),([]:List ah),([]:List ak),([]:List aM),(⟨0,0⟩:cz)⟩:aG),11)) <|
  some ((⟨([]:List ah),([]:List ak),([]:List ah),([]:List ak),([]:List aM),(⟨0,0⟩:cz)⟩:aG),r4)) <|
 some ((⟨[],[],[],[],[],⟨0,0⟩⟩:aG),r3)
def dR(a0:List ah):Option Bool :=
 cB (a0.length<=fuel) <|
 bZ (λi1 (s1:Unit) lF vq =>
  thn (a0[i1]?) λe2 =>
  thn (nc a0 (i64.wrap (((i1:Nat):Int)-1))) λe3 =>
  cond (decide (e2.id<=e3.id)) (
   some false) <|
  lF ())
 (a0.length-1) 1 () λs1 =>
 some true
def dS(a0:List ak):Option Bool :=
 cB (a0.length<=fuel) <|
 bZ (λi1 (s1:Unit) lF vq =>
  thn (a0[i1]?) λe2 =>
  thn (nc a0 (i64.wrap (((i1:Nat):Int)-1))) λe3 =>
  cond (decide (e2.id<=e3.id)) (
   some false) <|
  lF ())
 (a0.length-1) 1 () λs1 =>
 some true
def eT(a0:List aM):Option Bool :=
 cB (a0.length<=fuel) <|
 bZ (λi1 (s1:Unit) lF vq =>
  thn (a0[i1]?) λe2 =>
  thn (nc a0 (i64.wrap (((i1:Nat):Int)-1))) λe3 =>
  cond (decide (e2.id<e3.id)) (
   some false) <|
  cond (decide (e2.id=e3.id)) (
   cond (decide (e2.attr<=e3.attr)) (
    some false) <|
   lF ()) <|
  lF ())
 (a0.length-1) 1 () λs1 =>
 some true
def gP(a0:aG):Option Int :=
 cond (decide (500<((a0.az.length:Nat):Int))) (
  some 3) <|
 cond (decide (500<((a0.aF.length:Nat):Int))) (
  some 3) <|
 cond (decide (500<((a0.aR.length:Nat):Int))) (
  some 3) <|
 cond (decide (500<((a0.aP.length:Nat):Int))) (
  some 3) <|
 cond (decide (500<((a0.values.length:Nat):Int))) (
  some 3) <|
 thn (dR a0.az) λr1 =>
 cond r1 (
  thn (dS a0.aF) λr2 =>
  cond r2 (
   thn (dR a0.aR) λr3 =>
   cond r3 (
    thn (dS a0.aP) λr4 =>
    cond r4 (
     thn (eT a0.values) λr5 =>
     cond r5 (
      some 0) <|
     some 12) <|
    some 12) <|
   some 12) <|
  some 12) <|
 some 12
def cK(a0:aO)(a1:aM):Option (aO×Bool) :=
 cB (a0.nodes.length<=fuel) <|
 bZ (λi2 (s2:(List ah)×Bool) cL jj =>
  thn (a0.nodes[i2]?) λe3 =>
  cond (decide (e3.id=a1.id)) (
   cond (decide (0<=a1.attr)) (
    cond (decide (a1.attr<((e3.values.length:Nat):Int))) (
     thn (nc e3.values a1.attr) λe4 =>
     cond (decide (e4=a1.old)) (
      cond (decide (a1.old=a1.new)) (
       cB (s2.1.length+1<=68719476736) <|
       cL ((s2.1++[e3]),s2.2)) <|
      cB (e3.values.length<=68719476736) <|
      cB (s2.1.length+1<=68719476736) <|
      cL ((s2.1++[(⟨e3.id,e3.type,(e3.values.set a1.attr.toNat a1.new)⟩:ah)]),true)) <|
     cB (s2.1.length+1<=68719476736) <|
     cL ((s2.1++[e3]),s2.2)) <|
    cB (s2.1.length+1<=68719476736) <|
    cL ((s2.1++[e3]),s2.2)) <|
   cB (s2.1.length+1<=68719476736) <|
   cL ((s2.1++[e3]),s2.2)) <|
  cB (s2.1.length+1<=68719476736) <|
  cL ((s2.1++[e3]),s2.2))
 (a0.nodes.length-0) 0 (([]:List ah),false) λs2 =>
 some ((⟨s2.1,a0.au⟩:aO),s2.2)
def fP(a0:aO)(a1:aG):Option (aO×Bool) :=
 iter (λ(s2:Bool×Int×(List ah)×(List ak)) cL jj =>
  cond (decide (s2.2.1<((a1.aF.length:Nat):Int))) (
   cond s2.1 (
    thn (nc a1.aF s2.2.1) λe3 =>
    thn (cD (⟨s2.2.2.1,s2.2.2.2⟩:aO) e3) λr4 =>
    cL (r4.2,(i64.wrap (s2.2.1+1)),r4.1.nodes,r4.1.au)) <|
   jj (s2.1,s2.2.1,s2.2.2.1,s2.2.2.2)) <|
  jj (s2.1,s2.2.1,s2.2.2.1,s2.2.2.2))
 fuel (true,0,a0.nodes,a0.au) λs2 =>
 iter (λ(s5:Bool×Int×(List ah)×(List ak)) sC zg =>
  cond (decide (s5.2.1<((a1.az.length:Nat):Int))) (
   cond s5.1 (
    thn (nc a1.az s5.2.1) λe6 =>
    thn (cc (⟨s5.2.2.1,s5.2.2.2⟩:aO) e6) λr7 =>
    sC (r7.2,(i64.wrap (s5.2.1+1)),r7.1.nodes,r7.1.au)) <|
   zg (s5.1,s5.2.1,s5.2.2.1,s5.2.2.2)) <|
  zg (s5.1,s5.2.1,s5.2.2.1,s5.2.2.2))
 fuel (s2.1,0,s2.2.2.1,s2.2.2.2) λs5 =>
 iter (λ(s8:Bool×Int×(List ah)×(List ak)) uC acj =>
  cond (decide (s8.2.1<((a1.values.length:Nat):Int))) (
   cond s8.1 (
    thn (nc a1.values s8.2.1) λe9 =>
    thn (cK (⟨s8.2.2.1,s8.2.2.2⟩:aO) e9) λr10 =>
    uC (r10.2,(i64.wrap (s8.2.1+1)),r10.1.nodes,r10.1.au)) <|
   acj (s8.1,s8.2.1,s8.2.2.1,s8.2.2.2)) <|
  acj (s8.1,s8.2.1,s8.2.2.1,s8.2.2.2))
 fuel (s5.1,0,s5.2.2.1,s5.2.2.2) λs8 =>
 some ((⟨s8.2.2.1,s8.2.2.2⟩:aO),s8.1)
def eM(a0:aO)(a1:Int):Option Bool :=
 cB (a0.nodes.length<=fuel) <|
 bZ (λi2 (s2:Unit) cL jj =>
  thn (a0.nodes[i2]?) λe3 =>
  cond (decide (e3.id=a1)) (
   some true) <|
  cL ())
 (a0.nodes.length-0) 0 () λs2 =>
 cB (a0.au.length<=fuel) <|
 bZ (λi4 (s4:Unit) tj amh =>
  thn (a0.au[i4]?) λe5 =>
  cond (decide (e5.id=a1)) (
   some true) <|
  tj ())
 (a0.au.length-0) 0 () λs4 =>
 some false
def fQ(a0:aO)(a1:aG):Option (aO×Bool) :=
 cB (a1.aR.length<=fuel) <|
 bZ (λi2 (s2:Unit) cL jj =>
  thn (a1.aR[i2]?) λe3 =>
  thn (eM a0 e3.id) λr4 =>
  cond r4 (
   some (a0,false)) <|
  cL ())
 (a1.aR.length-0) 0 () λs2 =>
 cB (a1.aP.length<=fuel) <|
 bZ (λi5 (s5:Unit) sC zg =>
  thn (a1.aP[i5]?) λe6 =>
  thn (eM a0 e6.id) λr7 =>
  cond r7 (
   some (a0,false)) <|
  sC ())
 (a1.aP.length-0) 0 () λs5 =>
 iter (λ(s8:Int×Int×(List ah)) uC acj =>
  cond (decide (s8.2.1<=((a0.nodes.length:Nat):Int))) (
   iter (λ(s9:Int×(List ah)) adT adU =>
    cond (decide (s9.1<((a1.aR.length:Nat):Int))) (
     cond (decide (s8.2.1=((a0.nodes.length:Nat):Int))) (
      thn (nc a1.aR s9.1) λuU =>
      cB (s9.2.length+1<=68719476736) <|
      adT ((i64.wrap (s9.1+1)),(s9.2++[uU]))) <|
     thn (nc a1.aR s9.1) λe11 =>
     thn (nc a0.nodes s8.2.1) λvr =>
     cond (decide (e11.id<vr.id)) (
      cB (s9.2.length+1<=68719476736) <|
      adT ((i64.wrap (s9.1+1)),(s9.2++[e11]))) <|
     adU (s9.1,s9.2)) <|
    adU (s9.1,s9.2))
   fuel (s8.1,s8.2.2) λs9 =>
   cond (decide (s8.2.1<((a0.nodes.length:Nat):Int))) (
    thn (nc a0.nodes s8.2.1) λe13 =>
    cB (s9.2.length+1<=68719476736) <|
    uC (s9.1,(i64.wrap (s8.2.1+1)),(s9.2++[e13]))) <|
   uC (s9.1,(i64.wrap (s8.2.1+1)),s9.2)) <|
  acj (s8.1,s8.2.1,s8.2.2))
 fuel (0,0,([]:List ah)) λs8 =>
 iter (λ(vP:Int×Int×(List ak)) vQ ajs =>
  cond (decide (vP.2.1<=((a0.au.length:Nat):Int))) (
   iter (λ(xZ:Int×(List ak)) abq apy =>
    cond (decide (xZ.1<((a1.aP.length:Nat):Int))) (
     cond (decide (vP.2.1=((a0.au.length:Nat):Int))) (
      thn (nc a1.aP xZ.1) λe16 =>
      cB (xZ.2.length+1<=68719476736) <|
      abq ((i64.wrap (xZ.1+1)),(xZ.2++[e16]))) <|
     thn (nc a1.aP xZ.1) λe17 =>
     thn (nc a0.au vP.2.1) λe18 =>
     cond (decide (e17.id<e18.id)) (
      cB (xZ.2.length+1<=68719476736) <|
      abq ((i64.wrap (xZ.1+1)),(xZ.2++[e17]))) <|
     apy (xZ.1,xZ.2)) <|
    apy (xZ.1,xZ.2))
   fuel (vP.1,vP.2.2) λxZ =>
   cond (decide (vP.2.1<((a0.au.length:Nat):Int))) (
    thn (nc a0.au vP.2.1) λyw =>
    cB (xZ.2.length+1<=68719476736) <|
    vQ (xZ.1,(i64.wrap (vP.2.1+1)),(xZ.2++[yw]))) <|
   vQ (xZ.1,(i64.wrap (vP.2.1+1)),xZ.2)) <|
  ajs (vP.1,vP.2.1,vP.2.2))
 fuel (0,0,([]:List ak)) λvP =>
 some ((⟨s8.2.2,vP.2.2⟩:aO),true)
def fG(a0:Types)(a1:ax)(a2:aG):Option (ax×Int) :=
 thn (gP a2) λr3 =>
 cond (decide (r3=0)) (
  cond (decide (a2.next.x0=a1.next)) (
   thn (eH (⟨a1.host,a1.nodes,a1.au,a1.next⟩:ax)) λr4 =>
   thn (fP r4 a2) λr5 =>
   cond r5.2 (
    thn (fQ r5.1 a2) λr6 =>
    cond r6.2 (
     thn (cW r6.1 a2.next.x1) λr7 =>
     thn (b8 (⟨a0.nodes,a0.au⟩:Types) r7) λr8 =>
     cond (decide (r8=0)) (
      some (r7,0)) <|
     some ((⟨(⟨(⟨([]:List Int),([]:List Edge)⟩:eS),([]:List (List Int))⟩:Host),([]:List Int),([]:List Int),0⟩:ax),1)) <|
    some ((⟨(⟨(⟨([]:List Int),([]:List Edge)⟩:eS),([]:List (List Int))⟩:Host),([]:List Int),([]:List Int),0⟩:ax),11)) <|
   some ((⟨(⟨(⟨([]:List Int),([]:List Edge)⟩:eS),([]:List (List Int))⟩:Host),([]:List Int),([]:List Int),0⟩:ax),11)) <|
  some ((⟨(⟨(⟨([]:List Int),([]:List Edge)⟩:eS),([]:List (List Int))⟩:Host),([]:List Int),([]:List Int),0⟩:ax),11)) <|
 some ((⟨⟨⟨[],[]⟩,[]⟩,[],[],0⟩:ax),r3)
def bN(a0:Types)(a1:ax)(a2:aG):Option (ax×Int) :=
 thn (b8 a0 a1) λr3 =>
 cond (decide (r3=0)) (
  thn (fG (⟨a0.nodes,a0.au⟩:Types) (⟨a1.host,a1.nodes,a1.au,a1.next⟩:ax) a2) λr4 =>
  some (r4.1,r4.2)) <|
 some ((⟨⟨⟨[],[]⟩,[]⟩,[],[],0⟩:ax),r3)
def gf(a0:aG):Option Bool :=
 cB (a0.aR.length<=fuel) <|
 bZ (λi1 (s1:Unit) lF vq =>
  thn (a0.aR[i1]?) λe2 =>
  cond (decide (e2.id<a0.next.x0)) (
   some false) <|
  lF ())
 (a0.aR.length-0) 0 () λs1 =>
 cB (a0.aP.length<=fuel) <|
 bZ (λi3 (s3:Unit) iy pz =>
  thn (a0.aP[i3]?) λe4 =>
  cond (decide (e4.id<a0.next.x0)) (
   some false) <|
  iy ())
 (a0.aP.length-0) 0 () λs3 =>
 some (decide (a0.next.x0<=a0.next.x1))
def gh(a0:Types)(a1:ax)(a2:aG)(a3:aG):Option Int :=
 thn (bN (⟨a0.nodes,a0.au⟩:Types) (⟨a1.host,a1.nodes,a1.au,a1.next⟩:ax) a2) λr4 =>
 cond (decide (r4.2=0)) (
  thn (bN (⟨a0.nodes,a0.au⟩:Types) (⟨a1.host,a1.nodes,a1.au,a1.next⟩:ax) a3) λr5 =>
  cond (decide (r5.2=0)) (
   thn (gf a2) λr6 =>
   cond r6 (
    thn (gf a3) λr7 =>
    cond r7 (
     cond (decide (1000000<(i64.wrap ((i64.wrap (a2.next.x1+a3.next.x1))-a3.next.x0)))) (
      some 6) <|
     some 0) <|
    some 8) <|
   some 8) <|
  some r5.2) <|
 some r4.2
def bE(a0:aG)(a1:Int):Option Bool :=
 cB (a0.az.length<=fuel) <|
 bZ (λi2 (s2:Unit) cL jj =>
  thn (a0.az[i2]?) λe3 =>
  cond (decide (e3.id=a1)) (
   some true) <|
  cL ())
 (a0.az.length-0) 0 () λs2 =>
 some false
def fI(a0:aG)(a1:Int):Option Bool :=
 cB (a0.aP.length<=fuel) <|
 bZ (λi2 (s2:Unit) cL jj =>
  thn (a0.aP[i2]?) λe3 =>
  cond (decide (e3.src=a1)) (
   some true) <|
  cond (decide (e3.dst=a1)) (
   some true) <|
  cL ())
 (a0.aP.length-0) 0 () λs2 =>
 some false
def b9(a0:aG)(a1:Int)(a2:Int):Option (aM×Bool) :=
 cB (a0.values.length<=fuel) <|
 bZ (λi3 (s3:Unit) iy pz =>
  thn (a0.values[i3]?) λe4 =>
  cond (decide (e4.id=a1)) (
   cond (decide (e4.attr=a2)) (
    some (e4,true)) <|
   iy ()) <|
  iy ())
 (a0.values.length-0) 0 () λs3 =>
 some ((⟨0,0,0,0⟩:aM),false)
def ez(a0:ax)(a1:aG)(a2:aG):Option (List aI) :=
 cB (a0.nodes.length<=fuel) <|
 bZ (λi3 (s3:(List aI)) iy pz =>
  thn (a0.nodes[i3]?) λe4 =>
  thn (bE a1 e4) λr5 =>
  cond r5 (
   thn (fI a2 e4) λr6 =>
   cond r6 (
    cB (s3.length+1<=68719476736) <|
    iy (s3++[(⟨1,e4,(-1)⟩:aI)])) <|
   thn (bE a2 e4) λr7 =>
   cond r7 (
    thn (fI a1 e4) λr8 =>
    cond r8 (
     cB (s3.length+1<=68719476736) <|
     iy (s3++[(⟨1,e4,(-1)⟩:aI)])) <|
    iy s3) <|
   iy s3) <|
  thn (bE a2 e4) λr9 =>
  cond r9 (
   thn (fI a1 e4) λr10 =>
   cond r10 (
    cB (s3.length+1<=68719476736) <|
    iy (s3++[(⟨1,e4,(-1)⟩:aI)])) <|
   iy s3) <|
  iy s3)
 (a0.nodes.length-0) 0 ([]:List aI) λs3 =>
 cB (a0.nodes.length<=fuel) <|
 bZ (λi11 (s11:(List aI)) abr ayE =>
  thn (a0.nodes[i11]?) λvr =>
  iter (λ(uS:Int×(List aI)) xq ayF =>
   thn (a0.host.values[i11]?) λe14 =>
   cond (decide (uS.1<((e14.length:Nat):Int))) (
    thn (b9 (⟨a1.az,a1.aF,a1.aR,a1.aP,a1.values,a1.next⟩:aG) vr uS.1) λr15 =>
    thn (b9 (⟨a2.az,a2.aF,a2.aR,a2.aP,a2.values,a2.next⟩:aG) vr uS.1) λr16 =>
    thn (bE (⟨a1.az,a1.aF,a1.aR,a1.aP,a1.values,a1.next⟩:aG) vr) λr17 =>
    cond r17 (
     cond r16.2 (
      cB (uS.2.length+1<=68719476736) <|
      xq ((i64.wrap (uS.1+1)),(uS.2++[(⟨2,vr,uS.1⟩:aI)]))) <|
     thn (bE (⟨a2.az,a2.aF,a2.aR,a2.aP,a2.values,a2.next⟩:aG) vr) λr18 =>
     cond r18 (
      cond r15.2 (
       cB (uS.2.length+1<=68719476736) <|
       xq ((i64.wrap (uS.1+1)),(uS.2++[(⟨2,vr,uS.1⟩:aI)]))) <|
      xq ((i64.wrap (uS.1+1)),uS.2)) <|
     xq ((i64.wrap (uS.1+1)),uS.2)) <|
    thn (bE (⟨a2.az,a2.aF,a2.aR,a2.aP,a2.values,a2.next⟩:aG) vr) λr19 =>
    cond r19 (
     cond r15.2 (
      cB (uS.2.length+1<=68719476736) <|
      xq ((i64.wrap (uS.1+1)),(uS.2++[(⟨2,vr,uS.1⟩:aI)]))) <|
     xq ((i64.wrap (uS.1+1)),uS.2)) <|
    xq ((i64.wrap (uS.1+1)),uS.2)) <|
   ayF (uS.1,uS.2))
  fuel (0,s11) λuS =>
  abr uS.2)
 (a0.nodes.length-0) 0 s3 λs11 =>
 cB (a1.values.length<=fuel) <|
 bZ (λi20 (s20:(List aI)) apz aId =>
  thn (a1.values[i20]?) λe21 =>
  thn (b9 (⟨a2.az,a2.aF,a2.aR,a2.aP,a2.values,a2.next⟩:aG) e21.id e21.attr) λr22 =>
  cond r22.2 (
   cond (decide (r22.1.new=e21.new)) (
    apz s20) <|
   cB (s20.length+1<=68719476736) <|
   apz (s20++[(⟨3,e21.id,e21.attr⟩:aI)])) <|
  apz s20)
 (a1.values.length-0) 0 s11 λs20 =>
 some s20
def dZ(a0:List ah):Option (List ah) :=
 cB (a0.length<=fuel) <|
 bZ (λi1 (s1:(List ah)) lF vq =>
  thn (a0[i1]?) λe2 =>
  cB (e2.values.length<=68719476736) <|
  cB (s1.length+1<=68719476736) <|
  lF (s1++[e2]))
 (a0.length-0) 0 ([]:List ah) λs1 =>
 some s1
def dB(a0:aG):Option aG :=
 thn (dZ a0.az) λr1 =>
 cB (a0.aF.length<=68719476736) <|
 thn (dZ a0.aR) λr2 =>
 cB (a0.aP.length<=68719476736) <|
 cB (a0.values.length<=68719476736) <|
 some (⟨r1,a0.aF,r2,a0.aP,a0.values,a0.next⟩:aG)
def ee(a0:Int)(a1:Int)(a2:Int):Option Int :=
 cond (decide (a1<=a0)) (
  some (i64.wrap (a0+a2))) <|
 some a0
def er(a0:aG)(a1:aG):Option aG :=
 thn (dB a1) λr2 =>
 iter (λ(s3:Int×(List ah)) iy pz =>
  cond (decide (s3.1<((s3.2.length:Nat):Int))) (
   thn (nc s3.2 s3.1) λe4 =>
   thn (ee e4.id a1.next.x0 (i64.wrap (a0.next.x1-a0.next.x0))) λr5 =>
   iy ((i64.wrap (s3.1+1)),(s3.2.set s3.1.toNat (⟨r5,e4.type,e4.values⟩:ah)))) <|
  pz (s3.1,s3.2))
 fuel (0,r2.aR) λs3 =>
 iter (λ(s6:Int×(List ak)) nV adS =>
  cond (decide (s6.1<((s6.2.length:Nat):Int))) (
   thn (nc s6.2 s6.1) λe7 =>
   thn (ee e7.id a1.next.x0 (i64.wrap (a0.next.x1-a0.next.x0))) λr8 =>
   thn (ee e7.src a1.next.x0 (i64.wrap (a0.next.x1-a0.next.x0))) λr9 =>
   thn (ee e7.dst a1.next.x0 (i64.wrap (a0.next.x1-a0.next.x0))) λr10 =>
   nV ((i64.wrap (s6.1+1)),(s6.2.set s6.1.toNat (⟨r8,e7.type,r9,r10⟩:ak)))) <|
  adS (s6.1,s6.2))
 fuel (0,r2.aP) λs6 =>
 some (⟨r2.az,r2.aF,s3.2,s6.2,r2.values,⟨a0.next.x1,(i64.wrap ((i64.wrap (a0.next.x1+a1.next.x1))-a1.next.x0))⟩⟩:aG)
def iZ(a0:aG)(a1:Int):Option Bool :=
 cB (a0.aF.length<=fuel) <|
 bZ (λi2 (s2:Unit) cL jj =>
  thn (a0.aF[i2]?) λe3 =>
  cond (decide (e3.id=a1)) (
   some true) <|
  cL ())
 (a0.aF.length-0) 0 () λs2 =>
 some false
def gJ(a0:aG)(a1:aG):Option aG :=
 thn (dB a1) λr2 =>
 cB (a1.az.length<=fuel) <|
 bZ (λi3 (s3:(List ah)) iy pz =>
  thn (a1.az[i3]?) λe4 =>
  thn (bE a0 e4.id) λr5 =>
  cond r5 (
   iy s3) <|
  cB (s3.length+1<=68719476736) <|
  iy (s3++[e4]))
 (a1.az.length-0) 0 ([]:List ah) λs3 =>
 cB (a1.aF.length<=fuel) <|
 bZ (λi6 (s6:(List ak)) nV adS =>
  thn (a1.aF[i6]?) λe7 =>
  thn (iZ a0 e7.id) λr8 =>
  cond r8 (
   nV s6) <|
  cB (s6.length+1<=68719476736) <|
  nV (s6++[e7]))
 (a1.aF.length-0) 0 ([]:List ak) λs6 =>
 cB (a1.values.length<=fuel) <|
 bZ (λi9 (s9:(List aM)) adT adU =>
  thn (a1.values[i9]?) λuU =>
  thn (b9 a0 uU.id uU.attr) λr11 =>
  cond r11.2 (
   adT s9) <|
  cB (s9.length+1<=68719476736) <|
  adT (s9++[uU]))
 (a1.values.length-0) 0 ([]:List aM) λs9 =>
 some (⟨s3,s6,r2.aR,r2.aP,s9,r2.next⟩:aG)
def dM(a0:aG)(a1:ax):Option aG :=
 thn (dB a0) λr2 =>
 iter (λ(s3:Int×(List ah)) iy pz =>
  cond (decide (s3.1<((s3.2.length:Nat):Int))) (
   cB (a1.nodes.length<=fuel) <|
   bZ (λi4 (s4:(List ah)) tj amh =>
    thn (a1.nodes[i4]?) λe5 =>
    thn (nc s4 s3.1) λe6 =>
    cond (decide (e5=e6.id)) (
     thn (a1.host.values[i4]?) λe7 =>
     cB (e7.length<=68719476736) <|
     tj (s4.set s3.1.toNat (⟨e6.id,e6.type,e7⟩:ah))) <|
    tj s4)
   (a1.nodes.length-0) 0 s3.2 λs4 =>
   iy ((i64.wrap (s3.1+1)),s4)) <|
  pz (s3.1,s3.2))
 fuel (0,r2.az) λs3 =>
 some (⟨s3.2,r2.aF,r2.aR,r2.aP,r2.values,r2.next⟩:aG)
def fU(a0:Types)(a1:ax)(a2:aG)(a3:aG):Option (ax×Int) :=
 thn (bN a0 a1 a2) λr4 =>
 cond (decide (r4.2=0)) (
  thn (er a2 a3) λr5 =>
  thn (gJ a2 r5) λr6 =>
  thn (dM r6 r4.1) λr7 =>
  cond (decide (40<(i64.wrap ((i64.wrap (((r4.1.nodes.length:Nat):Int)-((r7.az.length:Nat):Int)))+((r7.aR.length:Nat):Int))))) (
   some ((⟨(⟨(⟨([]:List Int),([]:List Edge)⟩:eS),([]:List (List Int))⟩:Host),([]:List Int),([]:List Int),0⟩:ax),3)) <|
  cond (decide (80<(i64.wrap ((i64.wrap (((r4.1.au.length:Nat):Int)-((r7.aF.length:Nat):Int)))+((r7.aP.length:Nat):Int))))) (
   some ((⟨(⟨(⟨([]:List Int),([]:List Edge)⟩:eS),([]:List (List Int))⟩:Host),([]:List Int),([]:List Int),0⟩:ax),3)) <|
  thn (bN a0 r4.1 r7) λr8 =>
  some (r8.1,r8.2)) <|
 some ((⟨⟨⟨[],[]⟩,[]⟩,[],[],0⟩:ax),r4.2)
def fk(a0:eS)(a1:Int)(a2:Int)(a3:Bool):Option Int :=
 cB (a0.au.length<=fuel) <|
 bZ (λi4 (s4:Int) tj amh =>
  thn (a0.au[i4]?) λe5 =>
  cond (decide (e5.type=a1)) (
   cond a3 (
    cond (decide (e5.src=a2)) (
     tj (i64.wrap (s4+1))) <|
    tj s4) <|
   cond (decide (e5.dst=a2)) (
    tj (i64.wrap (s4+1))) <|
   tj s4) <|
  tj s4)
 (a0.au.length-0) 0 0 λs4 =>
 some s4
def gn(a0:Types)(a1:Host):Option ((List cF)×Int) :=
 thn (iI a0 a1) λr2 =>
 cond (decide (r2.2=0)) (
  cB (a0.au.length<=fuel) <|
  bZ (λi3 (s3:(List cF)) iy pz =>
   thn (a0.au[i3]?) λe4 =>
   cB (2<=fuel) <|
   bZ (λi5 (s5:(List cF)) sC zg =>
    cond (decide (((i5:Nat):Int)=1)) (
     cB (a1.graph.nodes.length<=fuel) <|
     bZ (λi6 (s6:(List cF)) nV adS =>
      thn (a1.graph.nodes[i6]?) λe7 =>
      thn (ic a0 e7 e4.dst) λr8 =>
      cond r8 (
       thn (fk a1.graph ((i3:Nat):Int) ((i6:Nat):Int) (decide (((i5:Nat):Int)=0))) λr9 =>
       cond (decide (r9<e4.ta)) (
        cB (s6.length+1<=68719476736) <|
        nV (s6++[(⟨((i3:Nat):Int),((i6:Nat):Int),r9,(decide (((i5:Nat):Int)=0))⟩:cF)])) <|
       cond (decide (0<=e4.oe)) (
        cond (decide (e4.oe<r9)) (
         cB (s6.length+1<=68719476736) <|
         nV (s6++[(⟨((i3:Nat):Int),((i6:Nat):Int),r9,(decide (((i5:Nat):Int)=0))⟩:cF)])) <|
        nV s6) <|
       nV s6) <|
      nV s6)
     (a1.graph.nodes.length-0) 0 s5 λs6 =>
     sC s6) <|
    cB (a1.graph.nodes.length<=fuel) <|
    bZ (λi10 (s10:(List cF)) uD aCX =>
     thn (a1.graph.nodes[i10]?) λe11 =>
     thn (ic a0 e11 e4.src) λr12 =>
     cond r12 (
      thn (fk a1.graph ((i3:Nat):Int) ((i10:Nat):Int) (decide (((i5:Nat):Int)=0))) λr13 =>
      cond (decide (r13<e4.nL)) (
       cB (s10.length+1<=68719476736) <|
       uD (s10++[(⟨((i3:Nat):Int),((i10:Nat):Int),r13,(decide (((i5:Nat):Int)=0))⟩:cF)])) <|
      cond (decide (0<=e4.jZ)) (
       cond (decide (e4.jZ<r13)) (
        cB (s10.length+1<=68719476736) <|
        uD (s10++[(⟨((i3:Nat):Int),((i10:Nat):Int),r13,(decide (((i5:Nat):Int)=0))⟩:cF)])) <|
       uD s10) <|
      uD s10) <|
     uD s10)
    (a1.graph.nodes.length-0) 0 s5 λs10 =>
    sC s10)
   (2-0) 0 s3 λs5 =>
   iy s5)
  (a0.au.length-0) 0 ([]:List cF) λs3 =>
  some (s3,0)) <|
 some (([]:List cF),r2.2)
def dD(a0:Types)(a1:ax):Option (List bJ) :=
 thn (gn a0 a1.host) λr2 =>
 cB (r2.1.length<=fuel) <|
 bZ (λi3 (s3:(List bJ)) iy pz =>
  thn (r2.1[i3]?) λe4 =>
  thn (nc a1.nodes e4.node) λe5 =>
  cB (s3.length+1<=68719476736) <|
  iy (s3++[(⟨e5,e4.iu,e4.out⟩:bJ)]))
 (r2.1.length-0) 0 ([]:List bJ) λs3 =>
 some s3
def gr(a0:List bJ)(a1:bJ):Option Bool :=
 cB (a0.length<=fuel) <|
 bZ (λi2 (s2:Unit) cL jj =>
  thn (a0[i2]?) λe3 =>
  cond (decide (e3.id=a1.id)&&(decide (e3.iu=a1.iu)&&(e3.out == a1.out))) (
   some true) <|
  cL ())
 (a0.length-0) 0 () λs2 =>
 some false
def ij(a0:Types)(a1:ax)(a2:aG)(a3:aG)(a4:ax):Option (List aI) :=
 thn (bN a0 a1 a2) λr5 =>
 thn (dy a1) λr6 =>
 thn (er a2 a3) λr7 =>
 thn (bN a0 (⟨r6.host,r6.nodes,r6.au,a2.next.x1⟩:ax) r7) λr8 =>
 thn (dD a0 a1) λr9 =>
 thn (dD a0 r5.1) λr10 =>
 cB (r9.length+r10.length<=68719476736) <|
 thn (dD a0 r8.1) λr11 =>
 cB (r9.length+r10.length+r11.length<=68719476736) <|
 thn (dD a0 a4) λr12 =>
 cB (a4.nodes.length<=fuel) <|
 bZ (λi13 (uS:(List aI)) xq ayF =>
  cB (a0.au.length<=fuel) <|
  bZ (λi14 (vP:(List aI)) vQ ajs =>
   cB (r12.length<=fuel) <|
   bZ (λi15 (xZ:Bool) abq apy =>
    cond xZ (
     abq true) <|
    thn (r12[i15]?) λe16 =>
    thn (a4.nodes[i13]?) λe17 =>
    cond (decide (e16.id=e17)) (
     cond (decide (e16.iu=((i14:Nat):Int))) (
      thn (gr ((r9++r10)++r11) e16) λr18 =>
      abq (!r18)) <|
     abq false) <|
    abq false)
   (r12.length-0) 0 false λxZ =>
   cond xZ (
    thn (a4.nodes[i13]?) λyw =>
    cB (vP.length+1<=68719476736) <|
    vQ (vP++[(⟨4,yw,((i14:Nat):Int)⟩:aI)])) <|
   vQ vP)
  (a0.au.length-0) 0 uS λvP =>
  xq vP)
 (a4.nodes.length-0) 0 ([]:List aI) λuS =>
 some uS
def ga(a0:Types)(a1:ax)(a2:aG)(a3:aG):Option ((List aI)×Int) :=
 thn (gh (⟨a0.nodes,a0.au⟩:Types) (⟨a1.host,a1.nodes,a1.au,a1.next⟩:ax) a2 a3) λr4 =>
 cond (decide (r4=0)) (
  thn (ez (⟨a1.host,a1.nodes,a1.au,a1.next⟩:ax) (⟨a2.az,a2.aF,a2.aR,a2.aP,a2.values,a2.next⟩:aG) a3) λr5 =>
  cond (decide (0<((r5.length:Nat):Int))) (
   some (r5,0)) <|
  thn (fU a0 a1 a2 a3) λr6 =>
  cond (decide (r6.2=0)) (
   thn (ij a0 a1 a2 a3 r6.1) λr7 =>
   some (r7,0)) <|
  some (([]:List aI),r6.2)) <|
 some (([]:List aI),r4)
def fm(a0:bQ):Option (Types×bV×Bool) :=
 cond (decide (5<((a0.nodes.length:Nat):Int))) (
  some ((⟨([]:List gB),([]:List lU)⟩:Types),(⟨(⟨(⟨(⟨([]:List Int),([]:List Edge)⟩:eS),([]:List (List Int))⟩:Host),([]:List Int),([]:List Int),0⟩:ax),(⟨([]:List ah),([]:List ak),([]:List ah),([]:List ak),([]:List aM),(⟨0,0⟩:cz)⟩:aG),(⟨([]:List ah),([]:List ak),([]:List ah),([]:List ak),([]:List aM),(⟨0,0⟩:cz)⟩:aG)⟩:bV),false)) <|
 cond (decide (5<((a0.au.length:Nat):Int))) (
  some ((⟨([]:List gB),([]:List lU)⟩:Types),(⟨(⟨(⟨(⟨([]:List Int),([]:List Edge)⟩:eS),([]:List (List Int))⟩:Host),([]:List Int),([]:List Int),0⟩:ax),(⟨([]:List ah),([]:List ak),([]:List ah),([]:List ak),([]:List aM),(⟨0,0⟩:cz)⟩:aG),(⟨([]:List ah),([]:List ak),([]:List ah),([]:List ak),([]:List aM),(⟨0,0⟩:cz)⟩:aG)⟩:bV),false)) <|
 cond (decide (6<((a0.h.nodes.length:Nat):Int))) (
  some ((⟨([]:List gB),([]:List lU)⟩:Types),(⟨(⟨(⟨(⟨([]:List Int),([]:List Edge)⟩:eS),([]:List (List Int))⟩:Host),([]:List Int),([]:List Int),0⟩:ax),(⟨([]:List ah),([]:List ak),([]:List ah),([]:List ak),([]:List aM),(⟨0,0⟩:cz)⟩:aG),(⟨([]:List ah),([]:List ak),([]:List ah),([]:List ak),([]:List aM),(⟨0,0⟩:cz)⟩:aG)⟩:bV),false)) <|
 cond (decide (8<((a0.h.au.length:Nat):Int))) (
  some ((⟨([]:List gB),([]:List lU)⟩:Types),(⟨(⟨(⟨(⟨([]:List Int),([]:List Edge)⟩:eS),([]:List (List Int))⟩:Host),([]:List Int),([]:List Int),0⟩:ax),(⟨([]:List ah),([]:List ak),([]:List ah),([]:List ak),([]:List aM),(⟨0,0⟩:cz)⟩:aG),(⟨([]:List ah),([]:List ak),([]:List ah),([]:List ak),([]:List aM),(⟨0,0⟩:cz)⟩:aG)⟩:bV),false)) <|
 cond (decide (6<((a0.first.length:Nat):Int))) (
  some ((⟨([]:List gB),([]:List lU)⟩:Types),(⟨(⟨(⟨(⟨([]:List Int),([]:List Edge)⟩:eS),([]:List (List Int))⟩:Host),([]:List Int),([]:List Int),0⟩:ax),(⟨([]:List ah),([]:List ak),([]:List ah),([]:List ak),([]:List aM),(⟨0,0⟩:cz)⟩:aG),(⟨([]:List ah),([]:List ak),([]:List ah),([]:List ak),([]:List aM),(⟨0,0⟩:cz)⟩:aG)⟩:bV),false)) <|
 cond (decide (6<((a0.p.length:Nat):Int))) (
  some ((⟨([]:List gB),([]:List lU)⟩:Types),(⟨(⟨(⟨(⟨([]:List Int),([]:List Edge)⟩:eS),([]:List (List Int))⟩:Host),([]:List Int),([]:List Int),0⟩:ax),(⟨([]:List ah),([]:List ak),([]:List ah),([]:List ak),([]:List aM),(⟨0,0⟩:cz)⟩:aG),(⟨([]:List ah),([]:List ak),([]:List ah),([]:List ak),([]:List aM),(⟨0,0⟩:cz)⟩:aG)⟩:bV),false)) <|
 cond (decide (6<((a0.q.length:Nat):Int))) (
  some ((⟨([]:List gB),([]:List lU)⟩:Types),(⟨(⟨(⟨(⟨([]:List Int),([]:List Edge)⟩:eS),([]:List (List Int))⟩:Host),([]:List Int),([]:List Int),0⟩:ax),(⟨([]:List ah),([]:List ak),([]:List ah),([]:List ak),([]:List aM),(⟨0,0⟩:cz)⟩:aG),(⟨([]:List ah),([]:List ak),([]:List ah),([]:List ak),([]:List aM),(⟨0,0⟩:cz)⟩:aG)⟩:bV),false)) <|
 thn (iX a0.nodes a0.au) λr1 =>
 thn (gG r1 a0.h) λr2 =>
 thn (js r1 r2) λr3 =>
 thn (ep r1 r3.1 a0.first) λr4 =>
 thn (ep r1 r4 a0.p) λr5 =>
 thn (gI r1 r4 r5) λr6 =>
 thn (ep r1 r4 a0.q) λr7 =>
 thn (gI r1 r4 r7) λr8 =>
 thn (ga r1 r4 r6.1 r8.1) λr9 =>
 cond (decide (r6.2=0)) (
  cond (decide (r8.2=0)) (
   some (r1,(⟨r4,r6.1,r8.1⟩:bV),(decide (r9.2=0)))) <|
  some (r1,(⟨r4,r6.1,r8.1⟩:bV),false)) <|
 some (r1,(⟨r4,r6.1,r8.1⟩:bV),false)
def gQ  : Option Types:=some (⟨[(⟨⟨#[65,99,99,111,117,110,116]⟩,(-1),true,[(⟨⟨#[98,97,108,97,110,99,101]⟩,(-1000),1000,[]⟩:Attr)]⟩:gB),(⟨⟨#[67,97,115,104]⟩,0,false,[]⟩:gB),(⟨⟨#[76,111,97,110]⟩,0,false,[(⟨⟨#[115,116,97,116,101]⟩,0,1,[(⟨#[111,112,101,110]⟩:ByteArray),(⟨#[99,108,111,115,101,100]⟩:ByteArray)]⟩:Attr)]⟩:gB),(⟨⟨#[80,101,114,115,111,110]⟩,(-1),false,[]⟩:gB)],[(⟨⟨#[111,119,110,115]⟩,3,0,0,(-1),1,1⟩:lU),(⟨⟨#[112,97,121,115]⟩,1,1,0,(-1),0,(-1)⟩:lU)]⟩:Types)
def gK  : Option ax:=some (⟨⟨⟨[3,1,1],[(⟨0,0,1⟩:Edge),(⟨0,0,2⟩:Edge)]⟩,[([]:List Int),[10],[5]]⟩,[0,1,2],[3,4],5⟩:ax)
def eY(a0:Types)(a1:ax)(a2:aG):Option (ax×Int) :=
 thn (fO (⟨a0.nodes,a0.au⟩:Types) (⟨a1.host,a1.nodes,a1.au,a1.next⟩:ax)) λr3 =>
 cond (decide (r3=0)) (
  thn (j9 (⟨a0.nodes,a0.au⟩:Types) (⟨a1.host,a1.nodes,a1.au,a1.next⟩:ax) a2) λr4 =>
  some (r4.1,r4.2)) <|
 some ((⟨⟨⟨[],[]⟩,[]⟩,[],[],0⟩:ax),r3)
def eA(a0:List ah)(p1:ah->Option Bool):Option Int :=
 cB (a0.length<=fuel) <|
 bZ (λi2 (s2:Unit) cL jj =>
  thn (a0[i2]?) λe3 =>
  thn (p1 e3) λr4 =>
  cond r4 (
   some ((i2:Nat):Int)) <|
  cL ())
 (a0.length-0) 0 () λs2 =>
 some (-1)
def dO(a0:List ah)(p1:ah->Option Bool):Option Bool :=
 thn (eA a0 p1) λr2 =>
 some (decide (0<=r2))
def nq(a0:ah)(a1:aG):Option Bool:=some (decide (a0.id<a1.next.x0))
def eB(a0:List ak)(p1:ak->Option Bool):Option Int :=
 cB (a0.length<=fuel) <|
 bZ (λi2 (s2:Unit) cL jj =>
  thn (a0[i2]?) λe3 =>
  thn (p1 e3) λr4 =>
  cond r4 (
   some ((i2:Nat):Int)) <|
  cL ())
 (a0.length-0) 0 () λs2 =>
 some (-1)
def eU(a0:List ak)(p1:ak->Option Bool):Option Bool :=
 thn (eB a0 p1) λr2 =>
 some (decide (0<=r2))
def nr(a0:ak)(a1:aG):Option Bool:=some (decide (a0.id<a1.next.x0))
def nE(a0:aG):Option Bool :=
 cond (decide (a0.next.x0<=a0.next.x1)) (
  thn (dO a0.aR (λx1=>nq x1 (⟨a0.az,a0.aF,a0.aR,a0.aP,a0.values,a0.next⟩:aG))) λr2 =>
  cond r2 (
   some false) <|
  thn (eU a0.aP (λx3=>nr x3 (⟨a0.az,a0.aF,a0.aR,a0.aP,a0.values,a0.next⟩:aG))) λr4 =>
  some (!r4)) <|
 some false
def jD(a0:Types)(a1:ax)(a2:aG)(a3:aG):Option Int :=
 thn (some [a2,a3]) λl4 =>
 cB (2<=fuel) <|
 bZ (λi5 (s5:Unit) sC zg =>
  thn (l4[i5]?) λe6 =>
  thn (eY (⟨a0.nodes,a0.au⟩:Types) (⟨a1.host,a1.nodes,a1.au,a1.next⟩:ax) e6) λr7 =>
  cond (decide (r7.2=0)) (
   sC ()) <|
  some r7.2)
 (2-0) 0 () λs5 =>
 thn (nE a2) λr8 =>
 cond r8 (
  thn (nE a3) λr9 =>
  cond r9 (
   cond (decide (1000000<(i64.wrap ((i64.wrap (a2.next.x1+a3.next.x1))-a3.next.x0)))) (
    some 6) <|
   some 0) <|
  some 8) <|
 some 8
def kW(a0:ah)(a1:Int):Option Bool:=some (decide (a0.id=a1))
def jk(a0:aG)(a1:Int):Option Bool :=
 thn (dO a0.az (λx2=>kW x2 a1)) λr3 =>
 some r3
def gR(a0:List (List aI)):Option (List aI) :=
 cB (a0.length<=fuel) <|
 bZ (λi1 (s1:Int) lF vq =>
  thn (a0[i1]?) λe2 =>
  cond (decide ((i64.wrap (s1+((e2.length:Nat):Int)))<0)) (
   none) <|
  lF (i64.wrap (s1+((e2.length:Nat):Int))))
 (a0.length-0) 0 0 λs1 =>
 thn (lZ ([]:List aI) s1) λr3 =>
 cB (a0.length<=fuel) <|
 bZ (λi4 (s4:(List aI)) tj amh =>
  thn (a0[i4]?) λe5 =>
  cB (s4.length+e5.length<=68719476736) <|
  tj (s4++e5))
 (a0.length-0) 0 r3 λs4 =>
 some s4
def iC(a0:aG)(a1:aG):Option (List aI) :=
 thn (some [(⟨a0,a1⟩:xm),(⟨a1,a0⟩:xm)]) λl2 =>
 cB (2<=fuel) <|
 bZ (λi3 (s3:(List aI)×(List aI)) iy pz =>
  thn (l2[i3]?) λe4 =>
  cB (e4.x1.aP.length<=fuel) <|
  bZ (λi5 (s5:(List aI)) sC zg =>
   thn (e4.x1.aP[i5]?) λe6 =>
   thn (some [e6.src,e6.dst]) λl7 =>
   cB (2<=fuel) <|
   bZ (λi8 (s8:(List aI)) uC acj =>
    thn (l7[i8]?) λe9 =>
    thn (jk e4.x0 e9) λr10 =>
    cond r10 (
     cB (s8.length+1<=68719476736) <|
     uC (s8++[(⟨1,e9,(-1)⟩:aI)])) <|
    uC s8)
   (2-0) 0 s5 λs8 =>
   sC s8)
  (e4.x1.aP.length-0) 0 s3.1 λs5 =>
  cB (e4.x1.values.length<=fuel) <|
  bZ (λi11 (s11:(List aI)) abr ayE =>
   thn (e4.x1.values[i11]?) λvr =>
   thn (jk e4.x0 vr.id) λr13 =>
   cond r13 (
    cB (s11.length+1<=68719476736) <|
    abr (s11++[(⟨2,vr.id,vr.attr⟩:aI)])) <|
   abr s11)
  (e4.x1.values.length-0) 0 s3.2 λs11 =>
  iy (s5,s11))
 (2-0) 0 (([]:List aI),([]:List aI)) λs3 =>
 cB (a0.values.length<=fuel) <|
 bZ (λi14 (vP:(List aI)) vQ ajs =>
  thn (a0.values[i14]?) λe15 =>
  cB (a1.values.length<=fuel) <|
  bZ (λi16 (s16:(List aI)) ajt aIe =>
   thn (a1.values[i16]?) λe17 =>
   cond (decide (e15.id=e17.id)) (
    cond (decide (e15.attr=e17.attr)) (
     cond (decide (e15.new=e17.new)) (
      ajt s16) <|
     cB (s16.length+1<=68719476736) <|
     ajt (s16++[(⟨3,e15.id,e15.attr⟩:aI)])) <|
    ajt s16) <|
   ajt s16)
  (a1.values.length-0) 0 vP λs16 =>
  vQ s16)
 (a0.values.length-0) 0 ([]:List aI) λvP =>
 thn (eX s3.1) λr18 =>
 thn (eX s3.2) λr19 =>
 thn (eX vP) λr20 =>
 thn (gR [r18,r19,r20]) λr21 =>
 some r21
def gY(a0:Int)(a1:aG)(a2:Int):Option Int :=
 cond (decide (a1.next.x0<=a0)) (
  some (i64.wrap (a0+a2))) <|
 some a0
def kM(a0:aG)(a1:aG):Option aG :=
 cB (a1.aR.length<=fuel) <|
 bZ (λi2 (s2:(List ah)) cL jj =>
  thn (a1.aR[i2]?) λe3 =>
  thn (gY e3.id a1 (i64.wrap (a0.next.x1-a0.next.x0))) λr4 =>
  cB (s2.length+1<=68719476736) <|
  cL (s2++[(⟨r4,e3.type,e3.values⟩:ah)]))
 (a1.aR.length-0) 0 ([]:List ah) λs2 =>
 cB (a1.aP.length<=fuel) <|
 bZ (λi5 (s5:(List ak)) sC zg =>
  thn (a1.aP[i5]?) λe6 =>
  thn (gY e6.id a1 (i64.wrap (a0.next.x1-a0.next.x0))) λr7 =>
  thn (gY e6.src a1 (i64.wrap (a0.next.x1-a0.next.x0))) λr8 =>
  thn (gY e6.dst a1 (i64.wrap (a0.next.x1-a0.next.x0))) λr9 =>
  cB (s5.length+1<=68719476736) <|
  sC (s5++[(⟨r7,e6.type,r8,r9⟩:ak)]))
 (a1.aP.length-0) 0 ([]:List ak) λs5 =>
 some (⟨a1.az,a1.aF,s2,s5,a1.values,⟨a0.next.x1,(i64.wrap ((i64.wrap (a0.next.x1+a1.next.x1))-a1.next.x0))⟩⟩:aG)
def kz(a0:Types)(a1:ax)(a2:aG)(a3:aG):Option (ax×ax×Int) :=
 thn (eY a0 a1 a2) λr4 =>
 cond (decide (r4.2=0)) (
  thn (kM a2 a3) λr5 =>
  thn (sP a2 r5) λr6 =>
  cond (decide (40<(i64.wrap ((i64.wrap (((r4.1.nodes.length:Nat):Int)+((r6.aR.length:Nat):Int)))-((r6.az.length:Nat):Int))))) (
   some ((⟨(⟨(⟨([]:List Int),([]:List Edge)⟩:eS),([]:List (List Int))⟩:Host),([]:List Int),([]:List Int),0⟩:ax),(⟨(⟨(⟨([]:List Int),([]:List Edge)⟩:eS),([]:List (List Int))⟩:Host),([]:List Int),([]:List Int),0⟩:ax),3)) <|
  cond (decide (80<(i64.wrap ((i64.wrap (((r4.1.au.length:Nat):Int)+((r6.aP.length:Nat):Int)))-((r6.aF.length:Nat):Int))))) (
   some ((⟨(⟨(⟨([]:List Int),([]:List Edge)⟩:eS),([]:List (List Int))⟩:Host),([]:List Int),([]:List Int),0⟩:ax),(⟨(⟨(⟨([]:List Int),([]:List Edge)⟩:eS),([]:List (List Int))⟩:Host),([]:List Int),([]:List Int),0⟩:ax),3)) <|
  thn (eY a0 r4.1 r6) λr7 =>
  some (r4.1,r7.1,r7.2)) <|
 some ((⟨⟨⟨[],[]⟩,[]⟩,[],[],0⟩:ax),(⟨⟨⟨[],[]⟩,[]⟩,[],[],0⟩:ax),r4.2)
def pG(a0:Types)(a1:ax)(a2:aG)(a3:aG):Option (ax×Int) :=
 thn (kM a2 a3) λr4 =>
 thn (eY a0 a1 (⟨r4.az,r4.aF,r4.aR,r4.aP,r4.values,⟨a1.next,r4.next.x1⟩⟩:aG)) λr5 =>
 some (r5.1,r5.2)
def qy(a0:Types)(a1:Host):Option Int :=
 thn (tH a0 a1) λr2 =>
 some r2.2
def uE(a0:Types)(a1:Int)(a2:Int):Option Bool :=
 thn (vN a0 [a1,a2]) λr3 =>
 cond (decide (r3=0)) (
  thn (abp a0 a1 a2) λr4 =>
  some r4) <|
 some false
def kN(a0:Types)(a1:Host)(a2:Int)(a3:Bool)(a4:Int)(a5:Int)(a6:Int):Option (List cF) :=
 cB (a1.graph.nodes.length<=fuel) <|
 bZ (λi7 (s7:(List cF)) afA aEz =>
  thn (a1.graph.nodes[i7]?) λe8 =>
  thn (uE a0 e8 a4) λr9 =>
  cond r9 (
   cB (a1.graph.au.length<=fuel) <|
   bZ (λi10 (s10:Int) uD aCX =>
    thn (a1.graph.au[i10]?) λe11 =>
    cond (decide (e11.type=a2)) (
     cond a3 (
      cond (decide (e11.src=((i7:Nat):Int))) (
       uD (i64.wrap (s10+1))) <|
      uD s10) <|
     cond (decide (e11.dst=((i7:Nat):Int))) (
      uD (i64.wrap (s10+1))) <|
     uD s10) <|
    uD s10)
   (a1.graph.au.length-0) 0 0 λs10 =>
   cond (decide (s10<a5)) (
    cB (s7.length+1<=68719476736) <|
    afA (s7++[(⟨a2,((i7:Nat):Int),s10,a3⟩:cF)])) <|
   cond (decide (0<=a6)) (
    cond (decide (a6<s10)) (
     cB (s7.length+1<=68719476736) <|
     afA (s7++[(⟨a2,((i7:Nat):Int),s10,a3⟩:cF)])) <|
    afA s7) <|
   afA s7) <|
  afA s7)
 (a1.graph.nodes.length-0) 0 ([]:List cF) λs7 =>
 some s7
def nt(a0:Types)(a1:Host):Option ((List cF)×Int) :=
 thn (qy a0 a1) λr2 =>
 cond (decide (r2=0)) (
  cB (a0.au.length<=fuel) <|
  bZ (λi3 (s3:(List cF)) iy pz =>
   thn (a0.au[i3]?) λe4 =>
   thn (kN a0 a1 ((i3:Nat):Int) true e4.src e4.nL e4.jZ) λr5 =>
   cB (s3.length+r5.length<=68719476736) <|
   thn (kN a0 a1 ((i3:Nat):Int) false e4.dst e4.ta e4.oe) λr6 =>
   cB (s3.length+r5.length+r6.length<=68719476736) <|
   iy ((s3++r5)++r6))
  (a0.au.length-0) 0 ([]:List cF) λs3 =>
  some (s3,0)) <|
 some (([]:List cF),r2)
def iL(a0:Types)(a1:ax):Option (List bn) :=
 thn (nt a0 a1.host) λr2 =>
 cB (r2.1.length<=fuel) <|
 bZ (λi3 (s3:(List bn)) iy pz =>
  thn (r2.1[i3]?) λe4 =>
  thn (nc a1.nodes e4.node) λe5 =>
  cB (s3.length+1<=68719476736) <|
  iy (s3++[(⟨e5,e4.iu,e4.out⟩:bn)]))
 (r2.1.length-0) 0 ([]:List bn) λs3 =>
 some s3
def fR(a0:List (List bn)):Option (List bn) :=
 cB (a0.length<=fuel) <|
 bZ (λi1 (s1:Int) lF vq =>
  thn (a0[i1]?) λe2 =>
  cond (decide ((i64.wrap (s1+((e2.length:Nat):Int)))<0)) (
   none) <|
  lF (i64.wrap (s1+((e2.length:Nat):Int))))
 (a0.length-0) 0 0 λs1 =>
 thn (ku ([]:List bn) s1) λr3 =>
 cB (a0.length<=fuel) <|
 bZ (λi4 (s4:(List bn)) tj amh =>
  thn (a0[i4]?) λe5 =>
  cB (s4.length+e5.length<=68719476736) <|
  tj (s4++e5))
 (a0.length-0) 0 r3 λs4 =>
 some s4
def gb(a0:List bn)(a1:bn):Option Int :=
 cB (a0.length<=fuel) <|
 bZ (λi2 (s2:Unit) cL jj =>
  thn (a0[i2]?) λe3 =>
  cond (decide (a1.id=e3.id)&&(decide (a1.iu=e3.iu)&&(a1.out == e3.out))) (
   some ((i2:Nat):Int)) <|
  cL ())
 (a0.length-0) 0 () λs2 =>
 some (-1)
def fo(a0:List bn)(a1:bn):Option Bool :=
 thn (gb a0 a1) λr2 =>
 some (decide (0<=r2))
def mb(a0:Types)(a1:ax)(a2:aG)(a3:aG)(a4:ax)(a5:ax):Option ((List aI)×Int) :=
 thn (pG a0 a1 a2 a3) λr6 =>
 cond (decide (r6.2=0)) (
  thn (iL a0 a1) λr7 =>
  thn (iL a0 a4) λr8 =>
  thn (iL a0 r6.1) λr9 =>
  thn (fR [r7,r8,r9]) λr10 =>
  thn (iL a0 a5) λr11 =>
  cB (r11.length<=fuel) <|
  bZ (λi12 (s12:(List aI)) ayG aIf =>
   thn (r11[i12]?) λe13 =>
   thn (fo r10 e13) λr14 =>
   cond r14 (
    ayG s12) <|
   cB (s12.length+1<=68719476736) <|
   ayG (s12++[(⟨4,e13.id,e13.iu⟩:aI)]))
  (r11.length-0) 0 ([]:List aI) λs12 =>
  thn (eX s12) λr15 =>
  some (r15,0)) <|
 some (([]:List aI),r6.2)
def ja(a0:Types)(a1:ax)(a2:aG)(a3:aG):Option ((List aI)×Int) :=
 thn (jD (⟨a0.nodes,a0.au⟩:Types) (⟨a1.host,a1.nodes,a1.au,a1.next⟩:ax) a2 a3) λr4 =>
 cond (decide (r4=0)) (
  thn (iC a2 a3) λr5 =>
  cond (decide (0<((r5.length:Nat):Int))) (
   some (r5,0)) <|
  thn (kz a0 a1 a2 a3) λr6 =>
  cond (decide (r6.2.2=0)) (
   thn (mb a0 a1 a2 a3 r6.1 r6.2.1) λr7 =>
   some (r7.1,r7.2)) <|
  some (([]:List aI),r6.2.2)) <|
 some (([]:List aI),r4)
def qz(a0:Types)(a1:ax)(a2:aG)(a3:aG):Option (ax×Int) :=
 thn (kz a0 a1 a2 a3) λr4 =>
 cond (decide (r4.2.2=0)) (
  thn (mb a0 a1 a2 a3 r4.1 r4.2.1) λr5 =>
  cond (decide (r5.2=0)) (
   cond (decide (0<((r5.1.length:Nat):Int))) (
    some ((⟨(⟨(⟨([]:List Int),([]:List Edge)⟩:eS),([]:List (List Int))⟩:Host),([]:List Int),([]:List Int),0⟩:ax),11)) <|
   some (r4.2.1,0)) <|
  some ((⟨(⟨(⟨([]:List Int),([]:List Edge)⟩:eS),([]:List (List Int))⟩:Host),([]:List Int),([]:List Int),0⟩:ax),r5.2)) <|
 some ((⟨⟨⟨[],[]⟩,[]⟩,[],[],0⟩:ax),r4.2.2)
def iq(a0:Types)(a1:ax)(a2:aG)(a3:aG):Option (ax×Int) :=
 thn (jD a0 a1 a2 a3) λr4 =>
 cond (decide (r4=0)) (
  thn (iC a2 a3) λr5 =>
  cond (decide (0<((r5.length:Nat):Int))) (
   some ((⟨(⟨(⟨([]:List Int),([]:List Edge)⟩:eS),([]:List (List Int))⟩:Host),([]:List Int),([]:List Int),0⟩:ax),11)) <|
  thn (qz a0 a1 a2 a3) λr6 =>
  some (r6.1,r6.2)) <|
 some ((⟨⟨⟨[],[]⟩,[]⟩,[],[],0⟩:ax),r4)
def ir(a0:List aI)(a1:List aI):Option Bool :=
 cond (decide (((a0.length:Nat):Int)=((a1.length:Nat):Int))) (
  cB (a0.length<=fuel) <|
  bZ (λi2 (s2:Unit) cL jj =>
   thn (a0[i2]?) λe3 =>
   thn (a1[i2]?) λe4 =>
   cond (decide (e3.kind=e4.kind)&&(decide (e3.id=e4.id)&&decide (e3.attr=e4.attr))) (
    cL ()) <|
   some false)
  (a0.length-0) 0 () λs2 =>
  some true) <|
 some false
def gx(a0:List Int)(a1:List Int):Option Bool :=
 cond (decide (((a0.length:Nat):Int)=((a1.length:Nat):Int))) (
  cB (a0.length<=fuel) <|
  bZ (λi2 (s2:Unit) cL jj =>
   thn (a0[i2]?) λe3 =>
   thn (a1[i2]?) λe4 =>
   cond (decide (e3=e4)) (
    cL ()) <|
   some false)
  (a0.length-0) 0 () λs2 =>
  some true) <|
 some false
def fq  : Option Bool :=
 thn (gQ) λr1 =>
 thn (gK) λr2 =>
 thn (ja r1 r2 (⟨[(⟨1,1,[10]⟩:ah)],[(⟨3,0,0,1⟩:ak)],[],[],[],⟨5,5⟩⟩:aG) (⟨[],[],[],[(⟨5,1,1,2⟩:ak)],[],⟨5,6⟩⟩:aG)) λr3 =>
 thn (gK) λr4 =>
 thn (iq r1 r4 (⟨[(⟨1,1,[10]⟩:ah)],[(⟨3,0,0,1⟩:ak)],[],[],[],⟨5,5⟩⟩:aG) (⟨[],[],[],[],[(⟨2,0,5,7⟩:aM)],⟨5,5⟩⟩:aG)) λr5 =>
 cond (decide (r3.2=0)) (
  thn (ir r3.1 [(⟨1,1,(-1)⟩:aI)]) λr6 =>
  cond r6 (
   cond (decide (r5.2=0)) (
    thn (gx r5.1.nodes [0,2]) λr7 =>
    cond r7 (
     cond (decide (((r5.1.host.values.length:Nat):Int)=2)) (
      thn (r5.1.host.values[1]?) λe8 =>
      thn (gx e8 [7]) λr9 =>
      some r9) <|
     some false) <|
    some false) <|
   some false) <|
  some false) <|
 some false
def kO(a0:ax):Option (List ah) :=
 cB (a0.nodes.length<=fuel) <|
 bZ (λi1 (s1:(List ah)) lF vq =>
  thn (a0.nodes[i1]?) λe2 =>
  thn (a0.host.graph.nodes[i1]?) λe3 =>
  thn (a0.host.values[i1]?) λe4 =>
  thn (mX e4) λr5 =>
  cB (s1.length+1<=68719476736) <|
  lF (s1++[(⟨e2,e3,r5⟩:ah)]))
 (a0.nodes.length-0) 0 ([]:List ah) λs1 =>
 some s1
def kA(a0:ah)(a1:Int):Option Bool:=some (decide (a0.id=a1))
def jw(a0:List ah)(a1:Int):Option Int :=
 thn (eA a0 (λx2=>kA x2 a1)) λr3 =>
 some r3
def kB(a0:ak)(a1:Int):Option Bool:=some (decide (a0.id=a1))
def jx(a0:List ak)(a1:Int):Option Int :=
 thn (eB a0 (λx2=>kB x2 a1)) λr3 =>
 some r3
def mc(a0:ax)(a1:ax):Option (aG×Bool) :=
 thn (kO a0) λr2 =>
 thn (jV a0) λr3 =>
 thn (kO a1) λr4 =>
 thn (jV a1) λr5 =>
 cB (r2.length<=fuel) <|
 bZ (λi6 (s6:(List ah)×(List aM)) nV adS =>
  thn (r2[i6]?) λe7 =>
  thn (jw r4 e7.id) λr8 =>
  thn (jx r5 e7.id) λr9 =>
  cond (decide (0<=r9)) (
   some ((⟨([]:List ah),([]:List ak),([]:List ah),([]:List ak),([]:List aM),(⟨0,0⟩:cz)⟩:aG),false)) <|
  cond (decide (0<=r8)) (
   thn (nc r4 r8) λuU =>
   cond (decide (uU.type=e7.type)) (
    cond (decide (r8<0)) (
     cB (s6.1.length+1<=68719476736) <|
     nV ((s6.1++[e7]),s6.2)) <|
    cB (e7.values.length<=fuel) <|
    bZ (λi11 (s11:(List aM)) abr ayE =>
     thn (e7.values[i11]?) λvr =>
     thn (uU.values[i11]?) λe13 =>
     cond (decide (vr=e13)) (
      abr s11) <|
     cB (s11.length+1<=68719476736) <|
     abr (s11++[(⟨e7.id,((i11:Nat):Int),vr,e13⟩:aM)]))
    (e7.values.length-0) 0 s6.2 λs11 =>
    nV (s6.1,s11)) <|
   some ((⟨([]:List ah),([]:List ak),([]:List ah),([]:List ak),([]:List aM),(⟨0,0⟩:cz)⟩:aG),false)) <|
  cond (decide (r8<0)) (
   cB (s6.1.length+1<=68719476736) <|
   nV ((s6.1++[e7]),s6.2)) <|
  cB (e7.values.length<=fuel) <|
  bZ (λi14 (vP:(List aM)) vQ ajs =>
   thn (e7.values[i14]?) λe15 =>
   thn (nc r4 r8) λe16 =>
   thn (e16.values[i14]?) λe17 =>
   cond (decide (e15=e17)) (
    vQ vP) <|
   cB (vP.length+1<=68719476736) <|
   vQ (vP++[(⟨e7.id,((i14:Nat):Int),e15,e17⟩:aM)]))
  (e7.values.length-0) 0 s6.2 λvP =>
  nV (s6.1,vP))
 (r2.length-0) 0 (([]:List ah),([]:List aM)) λs6 =>
 cB (r3.length<=fuel) <|
 bZ (λi18 (s18:(List ak)) aju aIg =>
  thn (r3[i18]?) λyw =>
  thn (jx r5 yw.id) λr20 =>
  thn (jw r4 yw.id) λr21 =>
  cond (decide (0<=r21)) (
   some ((⟨([]:List ah),([]:List ak),([]:List ah),([]:List ak),([]:List aM),(⟨0,0⟩:cz)⟩:aG),false)) <|
  cond (decide (0<=r20)) (
   thn (nc r5 r20) λe22 =>
   cond (decide (e22.id=yw.id)&&(decide (e22.type=yw.type)&&(decide (e22.src=yw.src)&&decide (e22.dst=yw.dst)))) (
    cond (decide (r20<0)) (
     cB (s18.length+1<=68719476736) <|
     aju (s18++[yw])) <|
    aju s18) <|
   some ((⟨([]:List ah),([]:List ak),([]:List ah),([]:List ak),([]:List aM),(⟨0,0⟩:cz)⟩:aG),false)) <|
  cond (decide (r20<0)) (
   cB (s18.length+1<=68719476736) <|
   aju (s18++[yw])) <|
  aju s18)
 (r3.length-0) 0 ([]:List ak) λs18 =>
 cB (r4.length<=fuel) <|
 bZ (λi23 (s23:(List ah)) ayH aIh =>
  thn (r4[i23]?) λe24 =>
  thn (jw r2 e24.id) λr25 =>
  cond (decide (r25<0)) (
   cB (s23.length+1<=68719476736) <|
   ayH (s23++[e24])) <|
  ayH s23)
 (r4.length-0) 0 ([]:List ah) λs23 =>
 cB (r5.length<=fuel) <|
 bZ (λi26 (s26:(List ak)) ayI aIi =>
  thn (r5[i26]?) λe27 =>
  thn (jx r3 e27.id) λr28 =>
  cond (decide (r28<0)) (
   cB (s26.length+1<=68719476736) <|
   ayI (s26++[e27])) <|
  ayI s26)
 (r5.length-0) 0 ([]:List ak) λs26 =>
 some ((⟨s6.1,s18,s23,s26,s6.2,⟨a0.next,a1.next⟩⟩:aG),true)
def me(a0:Types)(a1:ax)(a2:ax):Option (aG×Int) :=
 thn (fO a0 a1) λr3 =>
 cond (decide (r3=0)) (
  thn (fO a0 a2) λr4 =>
  cond (decide (r4=0)) (
   thn (mc a1 a2) λr5 =>
   cond r5.2 (
    some (r5.1,0)) <|
   some ((⟨([]:List ah),([]:List ak),([]:List ah),([]:List ak),([]:List aM),(⟨0,0⟩:cz)⟩:aG),11)) <|
  some ((⟨([]:List ah),([]:List ak),([]:List ah),([]:List ak),([]:List aM),(⟨0,0⟩:cz)⟩:aG),r4)) <|
 some ((⟨[],[],[],[],[],⟨0,0⟩⟩:aG),r3)
def mg(a0:Types)(a1:ax)(a2:aG)(a3:aG):Option (aG×Int) :=
 thn (jD a0 a1 a2 a3) λr4 =>
 cond (decide (r4=0)) (
  thn (iC a2 a3) λr5 =>
  cond (decide (0<((r5.length:Nat):Int))) (
   some ((⟨([]:List ah),([]:List ak),([]:List ah),([]:List ak),([]:List aM),(⟨0,0⟩:cz)⟩:aG),11)) <|
  thn (kz a0 a1 a2 a3) λr6 =>
  cond (decide (r6.2.2=0)) (
   thn (me (⟨a0.nodes,a0.au⟩:Types) r6.1 r6.2.1) λr7 =>
   some (r7.1,r7.2)) <|
  some ((⟨([]:List ah),([]:List ak),([]:List ah),([]:List ak),([]:List aM),(⟨0,0⟩:cz)⟩:aG),r6.2.2)) <|
 some ((⟨[],[],[],[],[],⟨0,0⟩⟩:aG),r4)
def jb(a0:eS)(a1:eS):Option Bool :=
 thn (dA a0.nodes a1.nodes) λr2 =>
 cond r2 (
  cond (decide (((a0.au.length:Nat):Int)=((a1.au.length:Nat):Int))) (
   cB (a0.au.length<=fuel) <|
   bZ (λi3 (s3:Unit) iy pz =>
    thn (a0.au[i3]?) λe4 =>
    thn (a1.au[i3]?) λe5 =>
    cond (decide (e4.type=e5.type)&&(decide (e4.src=e5.src)&&decide (e4.dst=e5.dst))) (
     iy ()) <|
    some false)
   (a0.au.length-0) 0 () λs3 =>
   some true) <|
  some false) <|
 some false
def gT(a0:List Int)(a1:List Int):Option Int :=
 iter (λ(s2:Int) cL jj =>
  cond (decide (s2<((a0.length:Nat):Int))) (
   cond (decide (s2<((a1.length:Nat):Int))) (
    thn (nc a0 s2) λe3 =>
    thn (nc a1 s2) λe4 =>
    cond (decide (e3=e4)) (
     cL (i64.wrap (s2+1))) <|
    some (i64.wrap (e3-e4))) <|
   jj s2) <|
  jj s2)
 fuel 0 λs2 =>
 some (i64.wrap (((a0.length:Nat):Int)-((a1.length:Nat):Int)))
def jc(a0:Host)(a1:Host):Option Bool :=
 thn (jb a0.graph a1.graph) λr2 =>
 cond r2 (
  cond (decide (((a0.values.length:Nat):Int)=((a1.values.length:Nat):Int))) (
   cB (a0.values.length<=fuel) <|
   bZ (λi3 (s3:Unit) iy pz =>
    thn (a0.values[i3]?) λe4 =>
    thn (a1.values[i3]?) λe5 =>
    thn (gT e4 e5) λr6 =>
    cond (decide (r6=0)) (
     iy ()) <|
    some false)
   (a0.values.length-0) 0 () λs3 =>
   some true) <|
  some false) <|
 some false
def gL(a0:ax)(a1:ax):Option Bool :=
 thn (jc a0.host a1.host) λr2 =>
 cond r2 (
  thn (dA a0.nodes a1.nodes) λr3 =>
  cond r3 (
   thn (dA a0.au a1.au) λr4 =>
   cond r4 (
    some (decide (a0.next=a1.next))) <|
   some false) <|
  some false) <|
 some false
def eO(a0:List ah)(a1:List ah):Option Bool :=
 cond (decide (((a0.length:Nat):Int)=((a1.length:Nat):Int))) (
  cB (a0.length<=fuel) <|
  bZ (λi2 (s2:Unit) cL jj =>
   thn (a0[i2]?) λe3 =>
   thn (a1[i2]?) λe4 =>
   thn (fh e3 e4) λr5 =>
   cond r5 (
    cL ()) <|
   some false)
  (a0.length-0) 0 () λs2 =>
  some true) <|
 some false
def eP(a0:List ak)(a1:List ak):Option Bool :=
 cond (decide (((a0.length:Nat):Int)=((a1.length:Nat):Int))) (
  cB (a0.length<=fuel) <|
  bZ (λi2 (s2:Unit) cL jj =>
   thn (a0[i2]?) λe3 =>
   thn (a1[i2]?) λe4 =>
   cond (decide (e3.id=e4.id)&&(decide (e3.type=e4.type)&&(decide (e3.src=e4.src)&&decide (e3.dst=e4.dst)))) (
    cL ()) <|
   some false)
  (a0.length-0) 0 () λs2 =>
  some true) <|
 some false
def eR(a0:aG)(a1:aG):Option Bool :=
 thn (eO a0.az a1.az) λr2 =>
 cond r2 (
  thn (eO a0.aR a1.aR) λr3 =>
  cond r3 (
   thn (eP a0.aF a1.aF) λr4 =>
   cond r4 (
    thn (eP a0.aP a1.aP) λr5 =>
    cond r5 (
     cond (decide (((a0.values.length:Nat):Int)=((a1.values.length:Nat):Int))) (
      cB (a0.values.length<=fuel) <|
      bZ (λi6 (s6:Unit) nV adS =>
       thn (a0.values[i6]?) λe7 =>
       thn (a1.values[i6]?) λe8 =>
       cond (decide (e7.id=e8.id)&&(decide (e7.attr=e8.attr)&&(decide (e7.old=e8.old)&&decide (e7.new=e8.new)))) (
        nV ()) <|
       some false)
      (a0.values.length-0) 0 () λs6 =>
      some (decide (a0.next.x0=a1.next.x0)&&decide (a0.next.x1=a1.next.x1))) <|
     some false) <|
    some false) <|
   some false) <|
  some false) <|
 some false
def fu(a0:bQ):Option Bool :=
 thn (fm a0) λr1 =>
 thn (fq) λr2 =>
 cond r2 (
  cond r1.2.2 (
   thn (bN r1.1 r1.2.1.a r1.2.1.p) λr3 =>
   thn (iq r1.1 r1.2.1.a r1.2.1.p (⟨[],[],[],[],[],⟨r1.2.1.a.next,r1.2.1.a.next⟩⟩:aG)) λr4 =>
   thn (iq r1.1 r1.2.1.a (⟨[],[],[],[],[],⟨r1.2.1.a.next,r1.2.1.a.next⟩⟩:aG) r1.2.1.p) λr5 =>
   thn (mg r1.1 r1.2.1.a r1.2.1.p (⟨[],[],[],[],[],⟨r1.2.1.a.next,r1.2.1.a.next⟩⟩:aG)) λr6 =>
   cond (decide (r3.2=0)) (
    cond (decide (r4.2=0)) (
     cond (decide (r5.2=0)) (
      cond (decide (r6.2=0)) (
       thn (gL r4.1 r3.1) λr7 =>
       cond r7 (
        thn (gL r5.1 r3.1) λr8 =>
        cond r8 (
         thn (eR r6.1 (⟨[],[],[],[],[],⟨r3.1.next,r3.1.next⟩⟩:aG)) λr9 =>
         some r9) <|
        some false) <|
       some false) <|
      some false) <|
     some false) <|
    some false) <|
   some false) <|
  thn (fq) λr10 =>
  some r10) <|
 thn (fq) λr11 =>
 some r11
end
end Go.Proofs.YtjhkgjlmiolfoaaGreat
namespace Go.cr
open Go.RowKit
variable{P:Program}
structure aqv(w w':World)(bH:Value)(n:Nat)(vs:List Value):Prop where
 grown:w.grownBy w' bH.ownBlock
 row:∀g,bH.ownBlock=some g->∀cur e,w.heap[g]? = some (.cells cur e (0,0))->n<=cur.size->∃cur',w'.heap[g]? = some (.cells cur' e (0,0))/\cur'.size=cur.size/\cur'.toList.take n=vs
theorem at9{f:FuncId}{v:Nat}{e:TypeId}{sz:Nat}{es es':List (List PV)}{ps:List PV}{ws:List Value}(hc:hU P f=true)(hlen:es'.length=es.length)(hsz:∀x∈es',x.length=sz)
  (hfl:es'.flatten=ws.map PV.val) (hone:∀u∈ws,u.oneCell'=true)
  (h:∀ (B:Nat) (I:Mem) (w:World) (bH:Value) (us vs:List Value),B<=w.heap.size->I.inW w->rW w B I bH e sz es us->bH.oneCell'=true->VRs I vs ps ->
   Calls P f (bH :: vs).toArray w λx w'=>x = .returned (.tuple #[])/\aqv w w' bH (es.length * sz) ws) :
  kE P f v e sz es ps (λa c=>a = .dQ []/\c=some (.row v e sz es')):=by
 refine⟨hc,λB I w bH us vs hB hI hr h1 hv=>(h B I w bH us vs hB hI hr h1 hv).mono ?_⟩;rintro x w' ⟨rfl,hg,hrow⟩;let L:bA:=λi=>if i=1000000 then some (.row v bH sz) else none
 have hL:∀i l,L i=some l->i=1000000/\l = .row v bH sz:=λi l h=>by
  simp only[L] at h;split at h
  ·rename_i hi;exact⟨hi,by simpa using h.symm⟩
  ·cases h
 have hwl:ws.length=es.length * sz:=by have h2:=bG hsz;rw[hfl,List.length_map,hlen] at h2;exact h2
 have hblk:∀b,bH.ownBlock=some b->B<=b/\b<w.heap.size:=λb hb=>vH hr.own hb
 refine⟨.tuple #[],.dQ [],bk cm 1000000 (.row v e sz es'),I,L,rfl,⟨rfl,by simp[bk]⟩,.dQ [] [] rfl (by simp),?_⟩;exact
 {below:=⟨hg.os,hg.tape,hg.output,hg.size,λk hk=>hg.block k (Nat.lt_of_lt_of_le hk hB) λhb=>by have:=(hblk k hb.symm).1;have:k<B:=hk;omega⟩
  mem:=hI.keep λb ⟨o,u,hu⟩=>hg.block b (hI.lt hu) λhb=>by rw[hr.free b hb.symm o] at hu;cases hu
  kP:=Mem.dV I
  lQ:=λ_ _ _ _=>rfl
  frame:=λb hb hn=>hg.block b hb λhb'=>hn hb'.symm
  loc:=dL.refl _
  jB:=λid l b hl hb=>by obtain⟨_,rfl⟩:=hL id l hl;exact .inr hb
  size:=rfl
  env:=λt=>.dead _
  dom:=λi l hl=>by obtain⟨rfl,rfl⟩:=hL i l hl;exact⟨.row v e sz es',by simp[bk]⟩
  chunk:=λi ch hch=>by
   by_cases hi:i=1000000
   ·subst hi;have:Chunk.row v e sz es'=ch:=by simpa[bk] using hch
    subst this;refine⟨bH,ws,by simp[L],⟨by rw[hlen];exact hwl,?_⟩,hr.pos,hsz,λj u c hu hc=>?_,hone,hr.free⟩
    ·rcases hr.own.2 with ⟨e1,e2⟩|⟨g,cap,cur,rfl,g1,g2,g3,g4,g5,g6⟩
     ·exact .inl ⟨e1,by rw[hlen];exact e2⟩
     ·obtain⟨cur',k1,k2,k3⟩:=hrow g rfl cur e g2 (by rw[g5];exact Nat.mul_le_mul_right sz g3);exact .inr ⟨g,cap,cur',by rw[hlen],g1,k1,by rw[hlen];exact g3,g4,by rw[k2];exact g5,by rw[hlen];exact k3⟩
    ·rw[hfl] at hc;simp only[List.getElem?_map,hu,Option.map_some,cA] at hc;subst hc;exact .val u (hone u (List.mem_of_getElem? hu))
   ·have:cm i=some ch:=by simpa[bk,hi] using hch
    cases this
  fK:=λi l b hl hb=>by obtain⟨rfl,rfl⟩:=hL i l hl;have:=hblk b hb;exact⟨this.1,Nat.lt_of_lt_of_le this.2 hg.size⟩
  apart:=λi j li lj b hi hj _ _=>by rw[(hL i li hi).1,(hL j lj hj).1] }
end Go.cr
namespace Go.SortM
open Go.cr hiding flatK
open Go.RowKit Go.Shelf Go.Sort Go.Proofs
variable{P:Program}{ρ:Ren}{α:Type} [Inhabited α]
def encV(enc:α->List Value)(x:α):List PV:=(enc x).map .val
omit [Inhabited α] in
theorem flat_encV(enc:α->List Value)(d:List α):(d.map (encV enc)).flatten=(d.flatMap enc).map .val:=by
 induction d with
 |nil=>rfl
 |cons x r ih=>rw[List.map_cons,List.flatten_cons,ih,List.flatMap_cons,List.map_append];rfl
omit [Inhabited α] in
theorem flatMap_eq(enc:α->List Value)(d:List α):d.flatMap enc=(d.map enc).flatten:=by rw[List.flatMap_def]
theorem flatK_list{enc:α->List Value}{k:Nat}(hk:∀x,(enc x).length=k)(h0:0<k)(d:List α):flatK enc k d.toArray=(d.flatMap enc).toArray:=by
 have hall:∀e∈d.map enc,e.length=k:=λe he=>by obtain⟨x,_,rfl⟩:=List.mem_map.1 he;exact hk x
 have hlen:(d.flatMap enc).length=d.length * k:=by rw[flatMap_eq,bG hall,List.length_map]
 apply Array.ext
 ·simp[hlen]
 ·intro t h1 h2;have ht:t<d.length * k:=by simpa using h1
  have hd:t / k<d.length:=(Nat.div_lt_iff_lt_mul h0).2 ht;have hm:t % k<k:=Nat.mod_lt _ h0;have e1:(flatK enc k d.toArray)[t]=(flatK enc k d.toArray)[t]!:=(getElem!_pos _ t h1).symm;rw[e1,get_flatK enc k d.toArray t (by simpa using ht)];have e2:=gW hall (t / k) (t % k) (by simpa using hd) hm;rw[Nat.div_add_mod' t k,<-flatMap_eq] at e2;have e3:(d.map enc).getD (t / k) []=enc d[t / k]:=by simp[hd]
  rw[e3] at e2;have e4:d.toArray[t / k]! = d[t / k]:=by simp[hd]
  rw[e4];have hl:t % k<(enc d[t / k]).length:=by rw[hk];exact hm
  have h2':t<(d.flatMap enc).length:=by simpa using h2
  rw[List.getElem?_eq_getElem h2',List.getElem?_eq_getElem hl] at e2;have e5:=Option.some.inj e2;rw[getElem!_pos (enc d[t / k]) (t % k) hl];simpa using e5.symm
theorem grown_sortWorldK(enc:α->List Value)(k:Nat)(w:World)(g n:Nat)(d:Array α)(os:Array Obj):w.grownBy (sortWorldK enc k w g 0 n d os) (some g) where
 os:=rfl
 tape:=rfl
 output:=rfl
 size:=by simp[sortWorldK,grow,putRowK,putRow,mapBlock,Sort.ahead]
 block:=λb hb hn=>by
  have:g≠b:=λh=>hn (by rw[h])
  simp[sortWorldK,grow,putRowK,putRow,mapBlock,Sort.ahead,Array.getElem?_append,hb,Array.getElem?_modify,this];rw[Array.getElem_modify,if_neg this]
theorem row_sortWorldK(enc:α->List Value)(k:Nat)(w:World)(g n m:Nat)(d:Array α)(os:Array Obj){cur:Array Value}{e:TypeId}(hg:w.heap[g]? = some (.cells cur e (0,0)))(hm:d.size * k=m)(hle:m<=cur.size) :
  ∃cur',(sortWorldK enc k w g 0 n d os).heap[g]? = some (.cells cur' e (0,0))/\cur'.size=cur.size/\cur'.toList.take m=(flatK enc k d).toList:=by
 have hlt:g<w.heap.size:=(Array.getElem?_eq_some_iff.1 hg).1;refine⟨putCells id 0 (flatK enc k d) cur,?_,by simp[putCells],?_⟩
 ·simp[sortWorldK,grow,putRowK,putRow,mapBlock,Sort.ahead,Array.getElem?_append,hlt,Array.getElem?_modify,hg,onCells];rw[Array.getElem_modify,if_pos rfl,(Array.getElem?_eq_some_iff.1 hg).2];rfl
 ·apply List.ext_getElem
  ·simp[putCells,hm];omega
  ·intro t h1 h2;have ht:t<d.size * k:=by simpa using h2
   have htc:t<cur.size:=by omega
   have hf:t<(flatK enc k d).size:=by simpa using ht
   simp[putCells,ht]
theorem callM_sortFunc(L:SlLaysF0.n6 P ρ)(k:Nat)(h0:0<k)(aE:∀w,(isAgg (ρ.t 24)).run P w = .ok true w)(zE:∀w,(Go.sizeOf (ρ.t 24)).run P w = .ok k w)(enc:α->List Value)(hk:∀x,(enc x).length=k)(h1:∀x,∀v∈enc x,v.oneCell'=true)
  (cf:α->α->Int) (hO:SWO (ltOf cf)) (hT:∀x y,(ltOf cf) x y=false->(ltOf cf) y x=false->x=y) (g:FuncId) (eg:∀args w,(callFunc g args).run P w = .ok (.enter g args) w)
  (hcmp:∀x y W,Calls P g #[.agg (enc x).toArray,.agg (enc y).toArray] W λe w'=>e = .returned (.int .i64 (cf x y))/\∃q os',w'=grow (W.drewN q) os')
  (hc:hU P (ρ.f 6)=true) (d:List α) (hd:d.length<4611686018427387904) (v:Nat) (e:TypeId) :
  kE P (ρ.f 6) v e k (d.map (encV enc)) [.iw (.func g) [] []] (λa c=>a = .dQ []/\c=some (.row v e k ((d.mergeSort λx y=>!(ltOf cf) y x).map (encV enc)))):=by
 have hlen:(d.mergeSort λx y=>!(ltOf cf) y x).length=d.length:=List.length_mergeSort _;refine at9 (ws:=(d.mergeSort λx y=>!(ltOf cf) y x).flatMap enc) hc (by simp[hlen]) (λx hx=>?_) (flat_encV enc _) (λu hu=>?_) ?_
 ·obtain⟨y,_,rfl⟩:=List.mem_map.1 hx;simp[encV,hk]
 ·obtain⟨y,_,hy⟩:=List.mem_flatMap.1 hu;exact h1 y u hy
 intro B I w bH us vs hB hI hr hone hv;have hvs:vs=[.func (.func g) #[] #[]]:=by
  match vs,hv with
  | [],hv=>have:=hv.1;simp at this
  | [x],hv =>
   have:=hv.2 0 x _ rfl rfl;cases this with
   |iw _ us vs _ _ hl hl' _ _=>have e1:us=[]:=List.length_eq_zero_iff.1 (by simpa using hl);have e2:vs=[]:=List.length_eq_zero_iff.1 (by simpa using hl');subst e1 e2;rfl
  |_ :: _ :: _,hv=>have:=hv.1;simp at this
 subst hvs;rcases hr.own.2 with ⟨rfl,hn⟩|⟨b,cap,cur,rfl,g1,g2,g3,g4,g5,g6⟩
 ·have hd0:d=[]:=by simpa using hn
  subst hd0;refine (AnyF.slices_SortFunc_none L none 0 _ w).mono ?_;rintro x w' ⟨rfl,rfl⟩;exact⟨rfl,⟨rfl,rfl,rfl,Nat.le_refl _,λ_ _ _=>rfl⟩,λg hg=>by cases hg⟩
 ·have hn:(d.map (encV enc)).length=d.length:=List.length_map _;rw[hn] at g3 g6 ⊢;have hus:us=d.flatMap enc:=by
   have hl:us.length=(d.flatMap enc).length:=by have h2:=hr.own.1;have h3:=bG hr.all;rw[flat_encV,List.length_map] at h3;rw[h2,h3]
   apply List.ext_getElem hl;intro j j1 j2;have:=hr.val j us[j] (.val (d.flatMap enc)[j]) (List.getElem?_eq_getElem j1) (by rw[flat_encV];simp[j2]);generalize us[j]=u,(d.flatMap enc)[j]=u' at this;cases this;rfl
  have hH:HoldsK enc k w b 0 d.toArray:=by
   unfold HoldsK;rw[flatK_list hk h0,<-hus];intro j hj;have hj':j<us.length:=by simpa using hj
   refine⟨?_,frozen_of_row w b _ cur _ g2⟩;rw[Nat.zero_add,fV g2];have:us[j]? = cur.toList[j]?:=by rw[<-g6,List.getElem?_take,if_pos];have:=hr.own.1;rw[hn] at this;omega
   have h7:cur[j]? = us[j]?:=by rw[this];simp
   rw[h7,List.getElem?_eq_getElem hj'];simp[hj']
  have hb:b<w.heap.size:=(Array.getElem?_eq_some_iff.1 g2).1;refine (AnyQ.slices_SortFunc_total L k aE zE enc hk h1 cf hO g #[] b 0 cap d.toArray w eg (λm os dk _ x y=>hcmp x y _) hH hb (by simpa using hd) hT).mono ?_;rintro x w' ⟨rfl,n,os,rfl⟩;refine⟨rfl,grown_sortWorldK enc k w b n _ os,λg hg cur' e' hg' hle=>?_⟩;have:b=g:=by simpa[Value.ownBlock] using hg
  subst this;obtain⟨c2,k1,k2,k3⟩:=row_sortWorldK enc k w b n (d.length * k) (d.toArray.toList.mergeSort λx y=>!(ltOf cf) y x).toArray os hg' (by simp) hle;refine⟨c2,k1,k2,?_⟩;rw[k3,flatK_list hk h0]
end Go.SortM
namespace Go.cr
open Go.RowKit
variable{P:Program}
theorem apA{f:FuncId}{v:Nat}{e:TypeId}{sz:Nat}{es es':List (List PV)}{ps:List PV}(hc:hU P f=true)(hlen:es'.length=es.length)(hsz:∀x∈es',x.length=sz)
  (h:∀ (B:Nat) (I:Mem) (w:World) (bH:Value) (us vs:List Value),B<=w.heap.size->I.inW w->rW w B I bH e sz es us->bH.oneCell'=true->VRs I vs ps ->
   ∃ws:List Value,ws.length=es.length * sz/\(∀u∈ws,u.oneCell'=true)/\(∀ (j:Nat) u c,ws[j]? = some u->es'.flatten[j]? = some c->VR I u c) /\
   Calls P f (bH :: vs).toArray w λx w'=>x = .returned (.tuple #[])/\aqv w w' bH (es.length * sz) ws) :
  kE P f v e sz es ps (λa c=>a = .dQ []/\c=some (.row v e sz es')):=by
 refine⟨hc,λB I w bH us vs hB hI hr h1 hv=>?_⟩;obtain⟨ws,hwl,hone,hval,aqw⟩:=h B I w bH us vs hB hI hr h1 hv;refine aqw.mono ?_;rintro x w' ⟨rfl,hg,hrow⟩;let L:bA:=λi=>if i=1000000 then some (.row v bH sz) else none
 have hL:∀i l,L i=some l->i=1000000/\l = .row v bH sz:=λi l h=>by
  simp only[L] at h;split at h
  ·rename_i hi;exact⟨hi,by simpa using h.symm⟩
  ·cases h
 have hblk:∀b,bH.ownBlock=some b->B<=b/\b<w.heap.size:=λb hb=>vH hr.own hb
 refine⟨.tuple #[],.dQ [],bk cm 1000000 (.row v e sz es'),I,L,rfl,⟨rfl,by simp[bk]⟩,.dQ [] [] rfl (by simp),?_⟩;exact
 {below:=⟨hg.os,hg.tape,hg.output,hg.size,λk hk=>hg.block k (Nat.lt_of_lt_of_le hk hB) λhb=>by have:=(hblk k hb.symm).1;have:k<B:=hk;omega⟩
  mem:=hI.keep λb ⟨o,u,hu⟩=>hg.block b (hI.lt hu) λhb=>by rw[hr.free b hb.symm o] at hu;cases hu
  kP:=Mem.dV I
  lQ:=λ_ _ _ _=>rfl
  frame:=λb hb hn=>hg.block b hb λhb'=>hn hb'.symm
  loc:=dL.refl _
  jB:=λid l b hl hb=>by obtain⟨_,rfl⟩:=hL id l hl;exact .inr hb
  size:=rfl
  env:=λt=>.dead _
  dom:=λi l hl=>by obtain⟨rfl,rfl⟩:=hL i l hl;exact⟨.row v e sz es',by simp[bk]⟩
  chunk:=λi ch hch=>by
   by_cases hi:i=1000000
   ·subst hi;have:Chunk.row v e sz es'=ch:=by simpa[bk] using hch
    subst this;refine⟨bH,ws,by simp[L],⟨by rw[hlen];exact hwl,?_⟩,hr.pos,hsz,hval,hone,hr.free⟩;rcases hr.own.2 with ⟨e1,e2⟩|⟨g,cap,cur,rfl,g1,g2,g3,g4,g5,g6⟩
    ·exact .inl ⟨e1,by rw[hlen];exact e2⟩
    ·obtain⟨cur',k1,k2,k3⟩:=hrow g rfl cur e g2 (by rw[g5];exact Nat.mul_le_mul_right sz g3);exact .inr ⟨g,cap,cur',by rw[hlen],g1,k1,by rw[hlen];exact g3,g4,by rw[k2];exact g5,by rw[hlen];exact k3⟩
   ·have:cm i=some ch:=by simpa[bk,hi] using hch
    cases this
  fK:=λi l b hl hb=>by obtain⟨rfl,rfl⟩:=hL i l hl;have:=hblk b hb;exact⟨this.1,Nat.lt_of_lt_of_le this.2 hg.size⟩
  apart:=λi j li lj b hi hj _ _=>by rw[(hL i li hi).1,(hL j lj hj).1] }
end Go.cr
namespace Go.SortM
open Go.cr hiding flatK
open Go.RowKit Go.Shelf Go.Sort Go.Proofs
variable{P:Program}{ρ:Ren}{α:Type} [Inhabited α]
def Raw(enc:α->List PV)(k:Nat)(x:α)(xs:List Value):Prop:=xs.length=k/\∀ (j:Nat) u c,xs[j]? = some u->(enc x)[j]? = some c->∃I,VR I u c
theorem chunks_get{us:List Value}{n k:Nat}(h:us.length=n * k)(i j:Nat)(hi:i<n)(hj:j<k):((us.drop (i * k)).take k)[j]? = us[i * k+j]?:=by rw[List.getElem?_take,if_pos hj,List.getElem?_drop]
theorem chunks_len{us:List Value}{n k:Nat}(h:us.length=n * k)(i:Nat)(hi:i<n):((us.drop (i * k)).take k).length=k:=by have:(i+1) * k<=n * k:=Nat.mul_le_mul_right _ hi;rw[Nat.add_mul] at this;rw[List.length_take,List.length_drop];omega
theorem chunks_all{us:List Value}{n k:Nat}(h0:0<k)(h:us.length=n * k):(List.finRange n).flatMap (λi=>(us.drop (i.1 * k)).take k)=us:=by
 have hall:∀e∈(List.finRange n).map λi=>(us.drop (i.1 * k)).take k,e.length=k:=λe he=>by obtain⟨i,_,rfl⟩:=List.mem_map.1 he;exact chunks_len h i.1 i.2
 rw[List.flatMap_def];apply List.ext_getElem?;intro t;rcases Nat.lt_or_ge t (n * k) with ht|ht
 ·have hd:t / k<n:=(Nat.div_lt_iff_lt_mul h0).2 ht;have hm:t % k<k:=Nat.mod_lt _ h0;have e2:=gW hall (t / k) (t % k) (by simpa using hd) hm;rw[Nat.div_add_mod' t k] at e2;rw[e2];have e3:((List.finRange n).map λi=>(us.drop (i.1 * k)).take k).getD (t / k) []=(us.drop (t / k * k)).take k:=by simp[hd]
  rw[e3,chunks_get h _ _ hd hm,Nat.div_add_mod' t k]
 ·rw[List.getElem?_eq_none (by rw[bG hall,List.length_map,List.length_finRange];exact ht),List.getElem?_eq_none (by omega)]
omit [Inhabited α] in
theorem rel_flatMap{I:Mem}{β:Type}(f:β->List Value)(g:β->List PV)(hl:∀x,(f x).length=(g x).length)(hv:∀x,∀ (j:Nat) u c,(f x)[j]? = some u->(g x)[j]? = some c->VR I u c):∀l:List β,∀ (j:Nat) u c,(l.flatMap f)[j]? = some u->(l.map g).flatten[j]? = some c->VR I u c
 | [],j,u,c,h,_=>by simp at h
 |x :: r,j,u,c,hu,hc=>by rw[List.flatMap_cons] at hu;rw[List.map_cons,List.flatten_cons] at hc;exact aa6 (hl x) (hv x) (rel_flatMap f g hl hv r) j u c hu hc
theorem callM_sortG(L:SlLaysF0.n6 P ρ)(k:Nat)(h0:0<k)(aE:∀w,(isAgg (ρ.t 24)).run P w = .ok true w)(zE:∀w,(Go.sizeOf (ρ.t 24)).run P w = .ok k w)(enc:α->List PV)(hk:∀x,(enc x).length=k)
  (cf:α->α->Int) (hO:SWO (ltOf cf)) (g:FuncId) (eg:∀args w,(callFunc g args).run P w = .ok (.enter g args) w)
  (hcmp:∀x y xs ys W,Raw enc k x xs->Raw enc k y ys->Calls P g #[.agg xs.toArray,.agg ys.toArray] W λe w'=>e = .returned (.int .i64 (cf x y))/\∃q os',w'=grow (W.drewN q) os')
  (hc:hU P (ρ.f 6)=true) (d:List α) (hd:d.length<4611686018427387904) (hT:∀i j,i<d.length->j<d.length->(ltOf cf) (d.getD i default) (d.getD j default)=false->(ltOf cf) (d.getD j default) (d.getD i default)=false->i=j) (v:Nat) (e:TypeId) :
  kE P (ρ.f 6) v e k (d.map enc) [.iw (.func g) [] []] (λa c=>a = .dQ []/\c=some (.row v e k ((d.mergeSort λx y=>!(ltOf cf) y x).map enc))):=by
 have hlen:(d.mergeSort λx y=>!(ltOf cf) y x).length=d.length:=List.length_mergeSort _;refine apA hc (by simp[hlen]) (λx hx=>?_) ?_
 ·obtain⟨y,_,rfl⟩:=List.mem_map.1 hx;exact hk y
 intro B I w bH us vs hB hI hr hone hv;have hvs:vs=[.func (.func g) #[] #[]]:=by
  match vs,hv with
  | [],hv=>have:=hv.1;simp at this
  | [x],hv =>
   have:=hv.2 0 x _ rfl rfl;cases this with
   |iw _ us vs _ _ hl hl' _ _=>have e1:us=[]:=List.length_eq_zero_iff.1 (by simpa using hl);have e2:vs=[]:=List.length_eq_zero_iff.1 (by simpa using hl');subst e1 e2;rfl
  |_ :: _ :: _,hv=>have:=hv.1;simp at this
 subst hvs;have hn:(d.map enc).length=d.length:=List.length_map _;rcases hr.own.2 with ⟨rfl,hn0⟩|⟨b,cap,cur,rfl,g1,g2,g3,g4,g5,g6⟩
 ·have hd0:d=[]:=by simpa using hn0
  subst hd0;refine⟨[],by simp,by simp,by simp,(AnyF.slices_SortFunc_none L none 0 _ w).mono ?_⟩;rintro x w' ⟨rfl,rfl⟩;exact⟨rfl,⟨rfl,rfl,rfl,Nat.le_refl _,λ_ _ _=>rfl⟩,λg hg=>by cases hg⟩
 ·rw[hn] at g3 g6 ⊢;rcases Nat.eq_zero_or_pos d.length with hz|hpos
  ·have hd0:d=[]:=List.length_eq_zero_iff.1 hz;subst hd0;refine⟨[],by simp,by simp,by simp,(AnyF.slices_SortFunc_none L (some ⟨b,0,none⟩) cap _ w).mono ?_⟩;rintro x w' ⟨rfl,rfl⟩;refine⟨rfl,⟨rfl,rfl,rfl,Nat.le_refl _,λ_ _ _=>rfl⟩,λg hg cur' e' hg' hle=>⟨cur',hg',rfl,?_⟩⟩;simp
  have hul:us.length=d.length * k:=by have:=hr.own.1;rw[hn] at this;exact this
  let aco:Fin d.length->List Value:=λi=>(us.drop (i.1 * k)).take k
  let f:Fin d.length->α:=λi=>d.getD i.1 default
  have hdf:(List.finRange d.length).map f=d:=by
   apply List.ext_getElem
   ·simp
   ·intro t h1 h2;simp[f,h2]
  haveI:Inhabited (Fin d.length):=⟨⟨0,hpos⟩⟩
  have hkR:∀i,(aco i).length=k:=λi=>chunks_len hul i.1 i.2
  have h1R:∀i,∀u∈aco i,u.oneCell'=true:=λi u hu=>hr.one u (List.mem_of_mem_drop (List.mem_of_mem_take hu))
  have hall:∀z∈d.map enc,z.length=k:=λz hz=>by obtain⟨y,_,rfl⟩:=List.mem_map.1 hz;exact hk y
  have hvR:∀i:Fin d.length,∀ (j:Nat) u c,(aco i)[j]? = some u->(enc (f i))[j]? = some c->VR I u c:=λi j u c hu hc=>by
   have hj:j<k:=by have:=(List.getElem?_eq_some_iff.1 hu).1;rw[hkR] at this;exact this
   have e1:us[i.1 * k+j]? = some u:=by rw[<-chunks_get hul i.1 j i.2 hj];exact hu
   have e2:=gW hall i.1 j (by simp) hj;have e3:(d.map enc).getD i.1 []=enc (f i):=by simp[f]
   rw[e3,hc] at e2;exact hr.val _ u c e1 e2
  have wX:∀i,Raw enc k (f i) (aco i):=λi=>⟨hkR i,λj u c hu hc=>⟨I,hvR i j u c hu hc⟩⟩
  have hfl:(List.finRange d.length).flatMap aco=us:=chunks_all h0 hul;have hH:HoldsK aco k w b 0 (List.finRange d.length).toArray:=by
   unfold HoldsK;rw[flatK_list hkR h0,hfl];intro j hj;have hj':j<us.length:=by simpa using hj
   refine⟨?_,frozen_of_row w b _ cur _ g2⟩;rw[Nat.zero_add,fV g2];have:us[j]? = cur.toList[j]?:=by rw[<-g6,List.getElem?_take,if_pos];omega
   have h7:cur[j]? = us[j]?:=by rw[this];simp
   rw[h7,List.getElem?_eq_getElem hj'];simp[hj']
  have hb:b<w.heap.size:=(Array.getElem?_eq_some_iff.1 g2).1;let cR:Fin d.length->Fin d.length->Int:=λi j=>cf (f i) (f j)
  have hOR:SWO (ltOf cR) :=
   {irrefl:=λx=>hO.irrefl (f x)
    trans:=λx y z h1 h2=>hO.trans (f x) (f y) (f z) h1 h2
    ntrans:=λx y z h1 h2=>hO.ntrans (f x) (f y) (f z) h1 h2 }
  have hTR:∀x y,(ltOf cR) x y=false->(ltOf cR) y x=false->x=y:=λx y h1 h2=>Fin.ext (hT x.1 y.1 x.2 y.2 h1 h2)
  have hms:((List.finRange d.length).mergeSort λx y=>!(ltOf cR) y x).map f=d.mergeSort λx y=>!(ltOf cf) y x:=by have h2:=List.map_mergeSort (r:=λx y=>!(ltOf cR) y x) (s:=λx y=>!(ltOf cf) y x) (f:=f) (l:=List.finRange d.length) (λa _ b _=>rfl);rw[hdf] at h2;exact h2
  have hsl:((List.finRange d.length).mergeSort λx y=>!(ltOf cR) y x).length=d.length:=by rw[List.length_mergeSort,List.length_finRange]
  refine⟨((List.finRange d.length).mergeSort λx y=>!(ltOf cR) y x).flatMap aco,?_,λu hu=>?_,?_,?_⟩
  ·have h2:∀z∈((List.finRange d.length).mergeSort λx y=>!(ltOf cR) y x).map aco,z.length=k:=λz hz=>by obtain⟨y,_,rfl⟩:=List.mem_map.1 hz;exact hkR y
   rw[List.flatMap_def,bG h2,List.length_map,hsl]
  ·obtain⟨y,_,hy⟩:=List.mem_flatMap.1 hu;exact h1R y u hy
  ·rw[<-hms,List.map_map];exact rel_flatMap aco (enc ∘ f) (λx=>by rw[hkR];exact (hk _).symm) hvR _
  ·have hsz:(List.finRange d.length).toArray.size=d.length:=by simp
   have aqw:=AnyQ.slices_SortFunc_total L k aE zE aco hkR h1R cR hOR g #[] b 0 cap (List.finRange d.length).toArray w eg (λm os dk _ x y=>hcmp (f x) (f y) (aco x) (aco y) _ (wX x) (wX y)) hH hb (by rw[hsz];exact hd) hTR;rw[hsz] at aqw;refine aqw.mono ?_;rintro x w' ⟨rfl,n,os,rfl⟩;refine⟨rfl,grown_sortWorldK aco k w b n _ os,λg hg cur' e' hg' hle=>?_⟩;have:b=g:=by simpa[Value.ownBlock] using hg
   subst this;obtain⟨c2,k1,k2,k3⟩:=row_sortWorldK aco k w b n (d.length * k) ((List.finRange d.length).toArray.toList.mergeSort λx y=>!(ltOf cR) y x).toArray os hg' (by simp) hle;refine⟨c2,k1,k2,?_⟩;rw[k3,flatK_list hkR h0]
end Go.SortM
namespace Go.Proofs
open Go.Shelf Go.RowKit Go.Lib Go.Sort
theorem YtjhkgjlmiolfoaaGreat.aua(a:Int)(W:World):Calls pw 350 #[.int .i64 a] W λe w'=>e = .returned (.bool false)/\w'=W:=by
 have hd:(a != a)=false:=by simp
 go_enter func350,ntmps350
 go_wp2
 go_ret
 exact⟨rfl,rfl⟩
theorem YtjhkgjlmiolfoaaGreat.aqx(a b:Int)(W:World):Calls pw 298 #[.int .i64 a,.int .i64 b] W λe w'=>e = .returned (.int .i64 (YtjhkgjlmiolfoaaGreat.qv a b))/\w'=W:=by
 have eg:∀args w,(callFunc 350 args).run pw w = .ok (.enter 350 args) w:=enters_of func350 (by kernel_rfl) rfl
 go_enter func298,ntmps298
 go_wp2_with (go_at_call 350;refine (YtjhkgjlmiolfoaaGreat.aua _ _).mono ?_;rintro e w' ⟨rfl,rfl⟩)
 all_goals first
  |rw[show YtjhkgjlmiolfoaaGreat.qv a b = -1 from if_pos (by assumption)];go_ret;exact⟨rfl,rfl⟩
  |rw[show YtjhkgjlmiolfoaaGreat.qv a b=1 from by unfold YtjhkgjlmiolfoaaGreat.qv;rw[if_neg (by omega),if_pos (by assumption)]];go_ret;exact⟨rfl,rfl⟩
  |rw[show YtjhkgjlmiolfoaaGreat.qv a b=0 from by unfold YtjhkgjlmiolfoaaGreat.qv;rw[if_neg (by omega),if_neg (by omega)]];go_ret;exact⟨rfl,rfl⟩
theorem YtjhkgjlmiolfoaaGreat.apB(x y:YtjhkgjlmiolfoaaGreat.ah)(xs ys:List Value)(W:World)(hx:Go.SortM.Raw YtjhkgjlmiolfoaaGreat.ag 3 x xs)(hy:Go.SortM.Raw YtjhkgjlmiolfoaaGreat.ag 3 y ys) :
  Calls pw 243 #[.agg xs.toArray,.agg ys.toArray] W λe w'=>e = .returned (.int .i64 (YtjhkgjlmiolfoaaGreat.qv x.id y.id))/\∃q os',w'=grow (W.drewN q) os':=by
 have eg:∀args w,(callFunc 298 args).run pw w = .ok (.enter 298 args) w:=enters_of func298 (by kernel_rfl) rfl;obtain⟨xl,xv⟩:=hx;obtain⟨yl,yv⟩:=hy;obtain⟨x0,xr,rfl⟩:=List.exists_cons_of_length_pos (show 0<xs.length by omega);obtain⟨y0,yr,rfl⟩:=List.exists_cons_of_length_pos (show 0<ys.length by omega);have ex:x0 = .int .i64 x.id:=by obtain⟨I,h⟩:=xv 0 x0 _ rfl rfl;cases h;rfl
 have ey:y0 = .int .i64 y.id:=by obtain⟨I,h⟩:=yv 0 y0 _ rfl rfl;cases h;rfl
 subst ex ey
 go_enter func243,ntmps243
 go_wp2_with (go_at_call 298;refine (YtjhkgjlmiolfoaaGreat.aqx _ _ _).mono ?_;rintro e w' ⟨rfl,rfl⟩)
 go_ret
 exact⟨rfl,0,_,by rw[alloc_eq_grow,alloc_eq_grow,grow_grow];rfl⟩
theorem YtjhkgjlmiolfoaaGreat.apC(x y:YtjhkgjlmiolfoaaGreat.ak)(xs ys:List Value)(W:World)(hx:Go.SortM.Raw YtjhkgjlmiolfoaaGreat.aj 4 x xs)(hy:Go.SortM.Raw YtjhkgjlmiolfoaaGreat.aj 4 y ys) :
  Calls pw 245 #[.agg xs.toArray,.agg ys.toArray] W λe w'=>e = .returned (.int .i64 (YtjhkgjlmiolfoaaGreat.qv x.id y.id))/\∃q os',w'=grow (W.drewN q) os':=by
 have eg:∀args w,(callFunc 298 args).run pw w = .ok (.enter 298 args) w:=enters_of func298 (by kernel_rfl) rfl;obtain⟨xl,xv⟩:=hx;obtain⟨yl,yv⟩:=hy;obtain⟨x0,xr,rfl⟩:=List.exists_cons_of_length_pos (show 0<xs.length by omega);obtain⟨y0,yr,rfl⟩:=List.exists_cons_of_length_pos (show 0<ys.length by omega);have ex:x0 = .int .i64 x.id:=by obtain⟨I,h⟩:=xv 0 x0 _ rfl rfl;cases h;rfl
 have ey:y0 = .int .i64 y.id:=by obtain⟨I,h⟩:=yv 0 y0 _ rfl rfl;cases h;rfl
 subst ex ey
 go_enter func245,ntmps245
 go_wp2_with (go_at_call 298;refine (YtjhkgjlmiolfoaaGreat.aqx _ _ _).mono ?_;rintro e w' ⟨rfl,rfl⟩)
 go_ret
 exact⟨rfl,0,_,by rw[alloc_eq_grow,alloc_eq_grow,grow_grow];rfl⟩
theorem YtjhkgjlmiolfoaaGreat.aCY(a b:Int)(B c:Nat)(W:World)(h0:W.cell? ⟨B,0,none⟩=some (.int .i64 a))(h1:W.cell? ⟨B,1,none⟩=some (.int .i64 b)) :
  Calls pw 261 #[.slice (some ⟨B,0,none⟩) 2 c] W λe w'=>e = .returned (.int .i64 (if a=0 then b else a))/\w'=W:=by
 go_enter func261,ntmps261
 go_wp2
 go_loop [8] (λi=>∃k:Nat,k<=2/\i = .int .i64 k/\(1<=k->a=0)/\(2<=k->b=0)) (λi=>2-(intOf i).toNat)
 case atStart=>exact⟨0,by omega,rfl,λh=>by omega,λh=>by omega⟩
 case round =>
  obtain⟨k,hk,rfl,ha,hb⟩:=hrel;obtain rfl|rfl|rfl:k=0\/k=1\/k=2:=by omega
  ·go_wp2
   all_goals first
    |(go_ret;exact⟨rfl,rfl⟩)
    |exact⟨⟨1,by omega,rfl,λ_=>by simpa using ‹(a != 0)=false›,λh=>by omega⟩,by simp[intOf]⟩
    |(exfalso;simp_all;done)
  ·have ha0:=ha (by omega);subst ha0
   go_wp2
   all_goals first
    |(go_ret;exact⟨rfl,rfl⟩)
    |exact⟨⟨2,by omega,rfl,λ_=>trivial,λ_=>by simpa using ‹(b != 0)=false›⟩,by simp[intOf]⟩
    |(exfalso;simp_all;done)
  ·have ha0:=ha (by omega);have hb0:=hb (by omega);subst ha0 hb0
   go_wp2
   all_goals first
    |(go_ret;exact⟨rfl,rfl⟩)
    |(exfalso;simp_all;done)
theorem YtjhkgjlmiolfoaaGreat.ahO(W:World)(A B:Obj)(a:Array Value)(t:TypeId)(j:Nat){v:Option Value}(h:a[j]? = v):(((W.alloc A).alloc B).alloc (.cells a t)).cell? ⟨W.heap.size+1+1,j,none⟩=v:=by
 have e:W.heap.size+1+1=((W.alloc A).alloc B).heap.size:=by simp
 rw[e,<-h];simp only[World.cell?,World.alloc,Array.getElem?_push_size,Option.isSome_none,Bool.false_eq_true,if_false]
def YtjhkgjlmiolfoaaGreat.ayJ(x y:YtjhkgjlmiolfoaaGreat.aI):Int:=if i64.wrap (x.id-y.id)=0 then i64.wrap (x.attr-y.attr) else i64.wrap (x.id-y.id)
theorem YtjhkgjlmiolfoaaGreat.ayK(x y:YtjhkgjlmiolfoaaGreat.aI)(W:World):Calls pw 172 #[.agg #[.int .i64 x.kind,.int .i64 x.id,.int .i64 x.attr],.agg #[.int .i64 y.kind,.int .i64 y.id,.int .i64 y.attr]] W λe w'=>e = .returned (.int .i64 (YtjhkgjlmiolfoaaGreat.ayJ x y))/\∃q os',w'=grow (W.drewN q) os':=by
 have eg:∀args w,(callFunc 261 args).run pw w = .ok (.enter 261 args) w:=enters_of func261 (by kernel_rfl) rfl;have hw:∀n,i64.wrap n=wrap64 n:=λn=>by unfold wrap64;rw[IntKind.wrap_i64]
 unfold YtjhkgjlmiolfoaaGreat.ayJ;simp only[hw]
 go_enter func172,ntmps172
 go_wp2_with (go_at_call 261;refine (YtjhkgjlmiolfoaaGreat.aCY _ _ _ _ _ (YtjhkgjlmiolfoaaGreat.ahO _ _ _ _ _ _ rfl) (YtjhkgjlmiolfoaaGreat.ahO _ _ _ _ _ _ rfl)).mono ?_;rintro e w' ⟨rfl,rfl⟩)
 all_goals
  go_ret
  exact⟨rfl,0,_,by rw[alloc_eq_grow,alloc_eq_grow,alloc_eq_grow,grow_grow,grow_grow];rfl⟩
namespace YtjhkgjlmiolfoaaGreat
open Go.cr
theorem xu{α:Type}(f:α->Int)(x y:α):(ltOf λx y=>qv (f x) (f y)) x y=decide (f x<f y):=by
 show decide (qv (f x) (f y)<0)=_;unfold qv;apply decide_eq_decide.2;constructor
 ·intro h;split at h
  ·assumption
  ·split at h<;>omega
 ·intro h;rw[if_pos h];omega
theorem ami{α:Type}(f:α->Int):SWO (ltOf λx y=>qv (f x) (f y)) :=
 {irrefl:=λx=>by rw[xu f];simp
  trans:=λx y z h1 h2=>by rw[xu f] at *;simp at *;omega
  ntrans:=λx y z h1 h2=>by rw[xu f] at *;simp at *;omega }
theorem ajv(d:List ah)(hd:d.length<=1000000)(hT:∀i j,i<d.length->j<d.length->(d.getD i default).id=(d.getD j default).id->i=j)(v:Nat):kE pw 254 v 75 3 (d.map ag) [.iw (.func 243) [] []]
  (λa c=>a = .dQ []/\c=some (.row v 75 3 ((d.mergeSort λx y=>decide (x.id<=y.id)).map ag))):=by
 have eg:∀args w,(callFunc 243 args).run pw w = .ok (.enter 243 args) w:=enters_of func243 (by kernel_rfl) rfl;have hle:(λx y:ah=>decide (x.id<=y.id))=λx y=>!(ltOf λx y:ah=>qv x.id y.id) y x:=by
  funext x y;rw[xu (λx:ah=>x.id)];by_cases h:x.id<=y.id
  ·rw[dK h,eZ (by omega)];rfl
  ·rw[eZ h,dK (by omega)];rfl
 rw[hle];exact Go.SortM.callM_sortG YtjhkgjlmiolfoaaGreat.asY 3 (by decide) isAgg75 sizeOf75 ag (λ_=>rfl) (λx y=>qv x.id y.id) (ami λx:ah=>x.id) 243 eg (λx y xs ys W hx hy=>apB x y xs ys W hx hy) (by kernel_rfl) d (by omega)
  (λi j hi hj h1 h2=>hT i j hi hj (by rw[xu (λx:ah=>x.id)] at h1 h2;have a:=en h1;have b:=en h2;omega)) v 75
theorem ajw(d:List ak)(hd:d.length<=1000000)(hT:∀i j,i<d.length->j<d.length->(d.getD i default).id=(d.getD j default).id->i=j)(v:Nat):kE pw 255 v 102 4 (d.map aj) [.iw (.func 245) [] []]
  (λa c=>a = .dQ []/\c=some (.row v 102 4 ((d.mergeSort λx y=>decide (x.id<=y.id)).map aj))):=by
 have eg:∀args w,(callFunc 245 args).run pw w = .ok (.enter 245 args) w:=enters_of func245 (by kernel_rfl) rfl;have hle:(λx y:ak=>decide (x.id<=y.id))=λx y=>!(ltOf λx y:ak=>qv x.id y.id) y x:=by
  funext x y;rw[xu (λx:ak=>x.id)];by_cases h:x.id<=y.id
  ·rw[dK h,eZ (by omega)];rfl
  ·rw[eZ h,dK (by omega)];rfl
 rw[hle];exact Go.SortM.callM_sortG YtjhkgjlmiolfoaaGreat.asZ 4 (by decide) isAgg102 sizeOf102 aj (λ_=>rfl) (λx y=>qv x.id y.id) (ami λx:ak=>x.id) 245 eg (λx y xs ys W hx hy=>apC x y xs ys W hx hy) (by kernel_rfl) d (by omega)
  (λi j hi hj h1 h2=>hT i j hi hj (by rw[xu (λx:ak=>x.id)] at h1 h2;have a:=en h1;have b:=en h2;omega)) v 102
abbrev SC(K:Int):={x:aI // x.kind=K/\oo x}
instance(K:Int):Inhabited (SC K):=⟨⟨⟨K,0,0⟩,rfl,by simp[oo]⟩⟩
theorem aBg{x y:aI}(hx:oo x)(hy:oo y):decide (ayJ x y<0) = !leC y x:=by obtain⟨a1,a2,a3,a4⟩:=hx;obtain⟨b1,b2,b3,b4⟩:=hy;have h1:i64.wrap (x.id-y.id)=x.id-y.id:=IntWalk.i64_in _ (by omega);have h2:i64.wrap (x.attr-y.attr)=x.attr-y.attr:=IntWalk.i64_in _ (by omega);unfold ayJ leC;rw[h1,h2,<-decide_not];apply decide_eq_decide.2;split<;>omega
theorem amj{α:Type}{p:α->Prop} : ∀l:List α,(∀x∈l,p x)->∃d:List {x // p x},d.map Subtype.val=l
 | [],_=>⟨[],rfl⟩
 |x :: r,h=>by
  obtain⟨d,hd⟩:=amj r λy hy=>h y (List.mem_cons_of_mem _ hy)
  exact⟨⟨x,h x List.mem_cons_self⟩ :: d,by rw[List.map_cons,hd]⟩
theorem amk(K:Int)(l:List aI)(hl:l.length<=1000000)(hin:∀x∈l,x.kind=K/\oo x)(v:Nat):kE pw 171 v 57 3 (l.map aB) [.iw (.func 172) [] []]
  (λa c=>a = .dQ []/\c=some (.row v 57 3 ((l.mergeSort leC).map aB))):=by
 have eg:∀args w,(callFunc 172 args).run pw w = .ok (.enter 172 args) w:=enters_of func172 (by kernel_rfl) rfl;obtain⟨d,hd⟩:=amj l hin;let cS:SC K->SC K->Int:=λx y=>ayJ x.1 y.1
 have hlt:∀x y:SC K,ltOf cS x y = !leC y.1 x.1:=λx y=>aBg x.2.2 y.2.2
 have hO:SWO (ltOf cS) :=
  {irrefl:=λx=>by rw[hlt];simp[leC]
   trans:=λx y z h1 h2=>by rw[hlt] at *;simp[leC] at *;omega
   ntrans:=λx y z h1 h2=>by rw[hlt] at *;simp[leC] at *;omega }
 have h:=Go.SortM.callM_sortFunc YtjhkgjlmiolfoaaGreat.axl 3 (by decide) isAgg57 sizeOf57 (λx:SC K=>[Value.int .i64 x.1.kind,Value.int .i64 x.1.id,Value.int .i64 x.1.attr]) (λ_=>rfl) (λx v hv=>by simp at hv;rcases hv with rfl|rfl|rfl<;>rfl) cS
  hO (λx y h1 h2=>by
   rw[hlt] at h1 h2;simp[leC] at h1 h2;apply Subtype.ext;have e1:=x.2.1;have e2:=y.2.1;obtain⟨⟨k,i,a⟩,_⟩:=x;obtain⟨⟨k',i',a'⟩,_⟩:=y;simp only[aI.mk.injEq] at *;omega) 172 eg (λx y W=>ayK x.1 y.1 W) (by kernel_rfl) d (by rw[<-hd,List.length_map] at hl;omega) v 57
 have e1:d.map (Go.SortM.encV λx:SC K=>[Value.int .i64 x.1.kind,Value.int .i64 x.1.id,Value.int .i64 x.1.attr])=l.map aB:=by rw[<-hd,List.map_map];rfl
 have e2:(d.mergeSort λx y=>!(ltOf cS) y x).map (Go.SortM.encV λx:SC K=>[Value.int .i64 x.1.kind,Value.int .i64 x.1.id,Value.int .i64 x.1.attr])=(l.mergeSort leC).map aB:=by have h2:=List.map_mergeSort (r:=λx y:SC K=>!(ltOf cS) y x) (s:=leC) (f:=Subtype.val) (l:=d) (λa _ b _=>by rw[hlt];simp);rw[hd] at h2;rw[<-h2,List.map_map];rfl
 rw[e1,e2] at h;exact h
end YtjhkgjlmiolfoaaGreat
end Go.Proofs
namespace Go.Proofs.YtjhkgjlmiolfoaaGreat
open Go.cr
theorem apD(K:Int)(l:List aI)(hl:l.length<=1000000)(hin:∀x∈l,x.kind=K/\oo x)(v:Nat):kE pw 102 v 57 3 (l.map aB) []
  (λa c=>a = .row 1000000 (v+1)/\c=some (.row (v+1) 57 3 ((iU l).map aB))):=by
 have hlen:(l.mergeSort leC).length=l.length:=List.length_mergeSort _;refine mK [] Ty.mixed func102 rfl (by kernel_rfl) (by simp[ntmps102]) ?_;rw[ntmps102,results102];simp only[go_sem];refine ab0 (amk K l hl hin v) (by simp only[go_sem]<;>rfl) (by simp only[go_sem]<;>rfl) (by simp only[go_sem]<;>rfl) (λh=>by cases h) ?_;simp only[go_sem];refine wC (apk (l.mergeSort leC) (by omega) v) (by simp only[go_sem]<;>rfl) (by simp only[go_sem]<;>rfl) (by simp only[go_sem]<;>rfl) (λh=>by cases h) ?_;simp only[go_sem];unfold iU;rw[hlen]
theorem aml(l:List ah)(m:List ak)(hl:l.length<=1000000)(hm:m.length<=1000000)(id:Int):aS pw 252 [.dU [.aV (l.map ag),.aV (m.map aj)] 0,.val (.int .i64 id)] (λv=>v = .val (.bool (k9 l m id))):=by
 have hn:=kJ (p:=λn:ah=>decide (n.id=id)) (l:=l);have he:=kJ (p:=λn:ak=>decide (n.id=id)) (l:=m);unfold k9;rw[<-hn,<-he];refine aQ [] func252 ?_;rw[ntmps252,results252];simp only[go_sem];refine aY (adh l hl id) (by simp only[go_sem]<;>rfl) (b6 rfl) ?_;simp only[go_sem];cases hb:decide (0<=idxOf (λn:ah=>decide (n.id=id)) l)
 ·simp only[go_sem,hb];refine aY (ahL m hm id) (by simp only[go_sem]<;>rfl) (b6 rfl) ?_;simp only[go_sem,hb]
 ·simp only[go_sem,hb]
theorem aBh(x:ah)(l:List ah)(m:List ak)(hl:l.length<=1000000)(hm:m.length<=1000000):aS pw 251 [.agg (ag x),.dU [.dU [.aV (l.map ag),.aV (m.map aj)] 0] 0] (λv=>v = .val (.bool (k9 l m x.id))):=by refine aQ [] func251 ?_;rw[ntmps251,results251];simp only[go_sem,ag];refine aY (aml l m hl hm x.id) (by simp only[go_sem]<;>rfl) (b6 rfl) ?_;simp only[go_sem]
theorem aBi(x:ak)(l:List ah)(m:List ak)(hl:l.length<=1000000)(hm:m.length<=1000000):aS pw 253 [.agg (aj x),.dU [.dU [.aV (l.map ag),.aV (m.map aj)] 0] 0] (λv=>v = .val (.bool (k9 l m x.id))):=by refine aQ [] func253 ?_;rw[ntmps253,results253];simp only[go_sem,aj];refine aY (aml l m hl hm x.id) (by simp only[go_sem]<;>rfl) (b6 rfl) ?_;simp only[go_sem]
theorem ayL(a b:List Int)(ha:a.length<=1000000)(hb:b.length<=1000000):aS pw 49 [.aV (a.map encI),.aV (b.map encI)] (λv=>v = .val (.bool (decide (a=b)))):=by
 refine aQ [] func49 ?_;rw[ntmps49,results49];simp only[go_sem];refine aW (λhc=>?_) (λhc=>?_)
 ·have hl:a.length=b.length:=by have:=cu hc;omega
  simp only[go_sem];refine bL (σ:=Nat) (λx=>(cE (cE (cE (cE fT 0 (.p (.aV (a.map encI)))) 1 (.p (.aV (b.map encI)))) 12 (.p (.val (.int .i64 a.length)))) 13 (.p (.val (.int .i64 x))))) (λx=>cm)
   (λx=>x<=a.length/\∀j,j<x->a.getD j default=b.getD j default) (λx=>a.length-x) 0 ⟨Nat.zero_le _,λj hj=>absurd hj (Nat.not_lt_zero j)⟩ bX ?_
  rintro x ⟨hx,hq⟩;simp only[go_sem];refine aK (λy6=>?_) (λy6=>?_)
  ·have h1:x<a.length:=by have:=cu y6;omega
   have h2:x<b.length:=by omega
   simp only[go_sem];refine dw [.p,.p,.q,.q,.p,.p,.q,.q,.p] (by kernel_rfl) ?_;simp only[go_sem,getD_map encI h1,getD_map encI h2,encI];refine⟨h1,h2,?_⟩;refine aW (λhd=>?_) (λhd=>?_)
   ·have hd':=cu hd;simp only[go_sem,bz h1 (by omega)];refine bM (x+1) ⟨h1,λj hj=>?_⟩ (by omega) bX;rcases Nat.lt_succ_iff_lt_or_eq.1 hj with h|h
    ·exact hq j h
    ·rw[h];exact hd'
   ·have hd':=en hd;simp only[go_sem];have:decide (a=b)=false:=eZ λe=>hd' (by rw[e])
    rw[this]
  ·have:x=a.length:=by have:=en y6;omega
   subst this;simp only[go_sem];have:decide (a=b)=true:=by apply dK;apply List.ext_getElem hl;intro j h1 h2;have:=hq j h1;simpa[h1,h2] using this
   rw[this]
 ·have hl:a.length≠b.length:=by have:=en hc;omega
  simp only[go_sem];have:decide (a=b)=false:=eZ λe=>hl (by rw[e])
  rw[this]
theorem aBj(a b:ah)(ha:a.values.length<=1000000)(hb:b.values.length<=1000000):aS pw 248 [.agg (ag a),.agg (ag b)] (λv=>v = .val (.bool (eD a b))):=by
 unfold eD;refine aQ [] func248 ?_;rw[ntmps248,results248];simp only[go_sem,ag];cases h1:decide (a.id=b.id)
 ·simp only[go_sem,h1]
 ·simp only[go_sem,h1];cases h2:decide (a.type=b.type)
  ·simp only[go_sem,h2]
  ·simp only[go_sem,h2];refine aY (ayL a.values b.values ha hb) (by simp only[go_sem]<;>rfl) (b6 rfl) ?_;simp only[go_sem]
end Go.Proofs.YtjhkgjlmiolfoaaGreat
