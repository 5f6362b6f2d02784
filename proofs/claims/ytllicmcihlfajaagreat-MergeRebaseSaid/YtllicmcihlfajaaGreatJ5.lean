/- Joined texts, part 5: lemmas for the statement. No condition. -/
import Derived.Shelf.Spec.SlicesGrow
import Derived.Test.YtllicmcihlfajaaGreatJ2
import Derived.Test.YtllicmcihlfajaaGreatJ1
import Derived.Test.YtllicmcihlfajaaGreatJ4
import Derived.Test.YtllicmcihlfajaaGreatJ3
import Derived.Shelf.SlSortCmp.NoneTotal
import Derived.LoopTactic
import Derived.WalkKit
set_option maxHeartbeats 4000000
set_option linter.unusedSimpArgs false
set_option linter.unusedVariables false
open Nat (reduceEqDiff reduceLT reduceLeDiff reduceMul reduceAdd reduceSub)
open Go.Proofs.Tryz
namespace Go.cE
open Go.RowKit Go.Shelf Go.Proofs
variable {P:Program} {ρ:Ren}
theorem anT (L:Lays8.n4 P ρ) (hc:gL P (ρ.f 4)=true) (i0:TypeInfo) (z:Value) (hi0:P.info? (ρ.t 25)=some i0) (hz0:i0.zero=some z) (hs0:0<i0.size) (hzs:z.cells.size=i0.size)
  (n:Nat) (hbig:n * i0.bytes<=140737488355328) (h63:n<=4611686018427387904) :
  bu P (ρ.f 4) [.val (.slice none 0 0),.val (.int .i64 n)] (λv=>v = .row (ρ.t 25) i0.size []):=by
 refine⟨hc,λI w vs hI hv=>?_⟩; obtain⟨hl,hv⟩:=hv
 match vs,hl with
 | [a,b],_ =>
  have ha:a = .slice none 0 0:=by have:=hv 0 a _ rfl rfl; cases this; rfl
  have hb:b = .int .i64 n:=by have:=hv 1 b _ rfl rfl; cases this; rfl
  subst ha hb; by_cases h0:n=0
  ·subst h0; refine (Any8.slices_Grow_room L none 0 0 0 w (by omega) (by omega) (by omega) (by omega)).mono ?_; rintro e w' ⟨rfl,rfl⟩; refine⟨_,_,_,I,rfl,rfl,.row _ _ _ _ [] ⟨⟨by simp,.inl ⟨rfl,rfl⟩⟩,hs0,by simp,by simp,by simp,λb hb=>by simp[Value.ownBlock] at hb⟩ rfl,by simp[Value.ownBlock],by simp[Value.ownBlock],Below.refl _ _,Mem.dR I,hI,λ_ _ _=>rfl⟩
  ·refine (Any8.slices_Grow_grow L i0 z hi0 hz0 hs0 none 0 0 n [] w (by omega) (by omega) (by simpa using hbig) (by omega) (by simp) (λ_=>rfl) (λa h=>by cases h)).mono ?_; rintro e w' ⟨rfl,rfl⟩; have hG:n<=grownCap w (0+n) 0 (ρ.t 25):=by have:=grownCap_ge w (0+n) 0 (ρ.t 25); omega
   have hG2:grownCap w (0+n) 0 (ρ.t 25)<=maxLen:=grownCap_le_maxLen w (0+n) 0 (ρ.t 25) (by unfold maxLen; omega); generalize grownCap w (0+n) 0 (ρ.t 25)=G at hG hG2 ⊢; have hheap:∀o:Obj,(w.drew.alloc o).heap=w.heap.push o:=λo=>rfl
   have bel:∀o:Obj,Below w.heap.size w (w.drew.alloc o):=λo=>(Below.refl _ w).drew.alloc (Nat.le_refl _) o
   refine⟨_,_,[w.heap.size],I,rfl,rfl,?_,by simp,?_,bel _,Mem.dR I,hI.keep λb ⟨o,u,hu⟩=>(bel _).block b (hI.lt hu),λ_ _ _=>rfl⟩
   ·refine .row (.slice (some ⟨w.heap.size,0,none⟩) 0 G) _ _ _ [] ⟨⟨by simp,.inr ⟨w.heap.size,G,_,rfl,Nat.le_refl _,by rw[hheap]; exact Array.getElem?_push_size,Nat.zero_le _,hG2,?_,by simp⟩⟩,hs0,by simp,by simp,by simp,λb hb o=>?_⟩ rfl
    ·have e:(0+n - 0)+(G - (0+n))=G:=by omega
     have e0:([]:List Value).toArray.size=0:=rfl; rw[Array.size_append,Array.size_append,size_zeroCells,size_zeroCells,hzs,e0,Nat.zero_add,<-Nat.add_mul,e]
    ·simp only[Value.ownBlock,Option.some.injEq] at hb; subst hb; cases hI0:I w.heap.size o with
     | none=>rfl
     | some u=>exact absurd (hI.lt hI0) (Nat.lt_irrefl _)
   ·intro b hb; simp only[List.mem_cons,List.not_mem_nil,or_false] at hb; subst hb; rw[hheap]; simp
theorem adu (L:Lays8.n4 P ρ) (hc:gL P (ρ.f 4)=true) {t e:TypeId} {sz qf:Nat} (ht:dg P t t=some (e,sz,qf)) (he:e=ρ.t 25) (n:Nat) (hbig:n * qf<=140737488355328) (h63:n<=4611686018427387904) :
  bu P (ρ.f 4) [.val (.slice none 0 0),.val (.int .i64 n)] (λv=>v = .row e sz []):=by
 obtain⟨_,_,hpos,_,i,z,hi,hz,hsz,hby,hzc⟩:=mL ht; subst he; have:=anT L hc i z hi hz (by omega) (by omega) n (by rw[hby]; exact hbig) h63; rw[hsz] at this; exact this
end Go.cE
namespace Go.Proofs.YtllicmcihlfajaaGreat
open Go.cE
noncomputable def lF (l:List aI) (n:Int):Option (List aI):=giv (l=[]/\0<=n/\n<=1000000) []
theorem vw (l:List aI) (n:Int) (r:List aI) (h:lF l n=some r):bu Tryz.prog 126 [.val (.slice none 0 0),.val (.int .i64 n)] (λv=>v = .row 53 3 (r.map aC)):=by obtain⟨⟨_,h0,h1⟩,rfl⟩:=sg h; obtain⟨k,rfl⟩:∃k:Nat,n=k:=⟨n.toNat,by omega⟩; exact adu avC (by kernel_rfl) Ty.aBC rfl k (by omega) (by omega)
noncomputable def jV (l:List bn) (n:Int):Option (List bn):=giv (l=[]/\0<=n/\n<=1000000) []
theorem tB (l:List bn) (n:Int) (r:List bn) (h:jV l n=some r):bu Tryz.prog 143 [.val (.slice none 0 0),.val (.int .i64 n)] (λv=>v = .row 144 3 (r.map ck)):=by obtain⟨⟨_,h0,h1⟩,rfl⟩:=sg h; obtain⟨k,rfl⟩:∃k:Nat,n=k:=⟨n.toNat,by omega⟩; exact adu ayY (by kernel_rfl) Ty.aAz rfl k (by omega) (by omega)
end Go.Proofs.YtllicmcihlfajaaGreat
namespace Go.cE
open Go.RowKit
variable {P:Program} {I:Mem} {L:bt}
mutual
def p6 (id:Nat) (ps:List PV):AV->AV
 | .ptr i o=>if i=id then .p (.dJ ps o) else .ptr i o
 | .row i v=>if i=id then .dead else .row i v
 | .iO i v j o=>if i=id then .dead else .iO i v j o
 | .eC i v=>if i=id then .dead else .eC i v
 | .j0 i v j o=>if i=id then .dead else .j0 i v j o
 | .j4 i v j=>if i=id then .dead else .j4 i v j
 | .mu i v j k o=>if i=id then .dead else .mu i v j k o
 | .zz i n=>if i=id then .dead else .zz i n
 | .gU i v o n m sz=>if i=id then .dead else .gU i v o n m sz
 | .agg cs=>.agg (o6 id ps cs)
 | .dB cs=>.dB (o6 id ps cs)
 | .gR f a b=>.gR f (o6 id ps a) (o6 id ps b)
 | x=>x
def o6 (id:Nat) (ps:List PV):List AV->List AV
 | []=>[]
 | a :: r=>p6 id ps a :: o6 id ps r
end
theorem sQ {id:Nat} {ps:List PV} : ∀ {cs:List AV} {j:Nat} {c:AV},(o6 id ps cs)[j]? = some c->∃d,cs[j]? = some d/\c=p6 id ps d
 | [],j,c,h=>by simp[o6] at h
 | a :: r,0,c,h=>by unfold o6 at h; simp only[List.getElem?_cons_zero,Option.some.injEq] at h; exact⟨a,rfl,h.symm⟩
 | a :: r,j+1,c,h=>by unfold o6 at h; exact sQ (cs:=r) (by simpa using h)
theorem nM {id:Nat} {ps:List PV} : ∀cs:List AV,(o6 id ps cs).length=cs.length
 | []=>rfl
 | a :: r=>by unfold o6; simp[nM r]
def fixC (id:Nat) (ps:List PV):Chunk->Chunk
 | .box cs=>.box (o6 id ps cs)
 | c=>c
def awy (id:Nat) (ps:List PV):Option Chunk->Option Chunk
 | some c=>some (fixC id ps c)
 | none=>none
def aCo (id:Nat) (ps:List PV) (env:Env):Env:=λi=>p6 id ps (env i)
def awz (id:Nat) (ps:List PV) (H:ay):ay:=λi=>if i=id then none else awy id ps (H i)
def akR (L:bt) (id:Nat):bt:=λi=>if i=id then none else L i
theorem dU.fix {J:Mem} {id b:Nat} {ps:List PV} (hl:L id=some (.box b)) (qZ:I.sub J) (hb:∀off,VR J (.pointer (some ⟨b,off,none⟩)) (.dJ ps off)) {u:Value} {a:AV} (h:dU I L u a):dU J (akR L id) u (p6 id ps a):=by
 have jQ:∀i,i≠id->akR L id i=L i:=λi hi=>by simp[akR,hi]
 induction h with
 | p u x h=>unfold p6; exact .p u x (h.mono qZ)
 | row u i bg v1 js sz1 lV hle h h1 =>
  unfold p6; split
  ·exact .dead _
  ·exact .row u i bg v1 js sz1 ((jQ i (by assumption)).trans lV) hle h h1
 | ptr i b1 off lV =>
  unfold p6; split
  ·rename_i e; subst e; rw[hl] at lV; simp only[Option.some.injEq,Loc.box.injEq] at lV; subst lV; exact .p _ _ (hb off)
  ·exact .ptr i b1 off ((jQ i (by assumption)).trans lV)
 | iO u i bg v1 j off js sz1 lV hle h h1 =>
  unfold p6; split
  ·exact .dead _
  ·exact .iO u i bg v1 j off js sz1 ((jQ i (by assumption)).trans lV) hle h h1
 | zz i b1 n lV =>
  unfold p6; split
  ·exact .dead _
  ·exact .zz i b1 n ((jQ i (by assumption)).trans lV)
 | gU a i bg v1 off n m c js sz1 lV hle hn hm hz h =>
  unfold p6; split
  ·exact .dead _
  ·exact .gU a i bg v1 off n m c js sz1 ((jQ i (by assumption)).trans lV) hle hn hm hz h
 | agg us cs lV _ hone ih=>unfold p6; refine .agg us _ (by rw[nM]; exact lV) (λj u c hu hc=>?_) hone; obtain⟨d,hd,rfl⟩:=sQ hc; exact ih j u d hu hd
 | dB us cs lV _ ih=>unfold p6; refine .dB us _ (by rw[nM]; exact lV) (λj u c hu hc=>?_); obtain⟨d,hd,rfl⟩:=sQ hc; exact ih j u d hu hd
 | gR fn us vs fs cs lV hl2 _ _ ih ih' =>
  unfold p6; refine .gR fn us vs _ _ (by rw[nM]; exact lV) (by rw[nM]; exact hl2) (λj u c hu hc=>?_) (λj u c hu hc=>?_)
  ·obtain⟨d,hd,rfl⟩:=sQ hc; exact ih j u d hu hd
  ·obtain⟨d,hd,rfl⟩:=sQ hc; exact ih' j u d hu hd
 | eC u i bg v1 js s1 s2 p4 n1 lV hle h h1 =>
  unfold p6; split
  ·exact .dead _
  ·exact .eC u i bg v1 js s1 s2 p4 n1 ((jQ i (by assumption)).trans lV) hle h h1
 | j0 u i bg v1 j off js s1 s2 p4 n1 lV hle h h1 =>
  unfold p6; split
  ·exact .dead _
  ·exact .j0 u i bg v1 j off js s1 s2 p4 n1 ((jQ i (by assumption)).trans lV) hle h h1
 | j4 u i bg v1 j js s1 s2 p4 n1 lV hle h h1 =>
  unfold p6; split
  ·exact .dead _
  ·exact .j4 u i bg v1 j js s1 s2 p4 n1 ((jQ i (by assumption)).trans lV) hle h h1
 | mu u i bg v1 j m off js s1 s2 p4 n1 lV hle h h1 =>
  unfold p6; split
  ·exact .dead _
  ·exact .mu u i bg v1 j m off js s1 s2 p4 n1 ((jQ i (by assumption)).trans lV) hle h h1
 | dead u=>unfold p6; exact .dead u
def Mem.whole (I:Mem) (w:World) (b0:Nat):Mem:=λb o=>if b=b0 then w.cell? ⟨b,o,none⟩ else I b o
theorem awA {env:Env} {H:ay} (id:Nat) (ps:List PV) (hid:id<1000000) (hH:H id=some (.box (ps.map AV.p))):dP env H (aCo id ps env) (awz id ps H):=λC I L tm w hs=>by
 obtain⟨b,arr,e,q1,q2,q3,q4,q5,q6⟩:=hs.chunk id _ hH; have hL0:C.L0 id=none:=by
  cases h:C.L0 id with
  | none=>rfl
  | some l=>have:=C.hL0 id l h; omega
 let J:Mem:=I.whole w b; have hJb:∀o,J b o=w.cell? ⟨b,o,none⟩:=λo=>by show I.whole w b b o=_; unfold Mem.whole; rw[if_pos rfl]
 have hJo:∀b',b'≠b->∀o,J b' o=I b' o:=λb' hn o=>by show I.whole w b b' o=_; unfold Mem.whole; rw[if_neg hn]
 have qZ:I.sub J:=λb' o u hu=>by
  by_cases h:b'=b
  ·subst h; rw[q6 o] at hu; cases hu
  ·rw[hJo b' h]; exact hu
 have hJw:J.zy w:=λb' o u hu=>by
  by_cases h:b'=b
  ·subst h; rw[hJb] at hu; exact hu
  ·rw[hJo b' h] at hu; exact hs.mem b' o u hu
 have hnot:∀i l b',i≠id->L i=some l->l.has b'->b'≠b:=λi l b' hi hl hb' e=>hi (hs.apart i id l _ b hl q1 (e ▸ hb') rfl)
 have hlen:arr.toList.length=ps.length:=by simpa using q3
 have hvr:∀off,VR J (.pointer (some ⟨b,off,none⟩)) (.dJ ps off):=λoff=>by
  have:=VR.dJ (I:=J) b 0 ps arr.toList off hlen (λj u c hu hc=>by
   have:=(q4 j u (.p c) (by simpa using hu) (by rw[List.getElem?_map,hc]; rfl)).mS; exact this.mono qZ) (λu hu=>by
    obtain⟨j,hj⟩:=List.mem_iff_getElem?.1 hu; exact q5 j u (by simpa using hj)) (λj u hu=>by
     rw[Nat.zero_add,hJb,fG q2]; simpa using hu)
  rwa [Nat.zero_add] at this
 have jQ:∀i,i≠id->akR L id i=L i:=λi hi=>by simp[akR,hi]
 have akS:akR L id id=none:=by simp[akR]
 refine⟨J,akR L id,?_⟩; exact
 {below:=hs.below
  mem:=hJw
  ku:=Mem.lg hs.ku qZ
  lp:=λb' hb hf o=>by
   rw[hJo b' (λe=>?_)]
   ·exact hs.lp b' hb hf o
   ·subst e; rcases hs.jc id _ b' q1 rfl with h | h
    ·omega
    ·exact hf h
  frame:=hs.frame
  loc:=λi=>by
   by_cases hi:i=id
   ·subst hi; rw[hL0]; trivial
   ·rw[jQ i hi]; exact hs.loc i
  jc:=λi l b' hl hb=>by
   by_cases hi:i=id
   ·subst hi; rw[akS] at hl; cases hl
   ·rw[jQ i hi] at hl; exact hs.jc i l b' hl hb
  size:=hs.size
  env:=λt=>(hs.env t).fix q1 qZ hvr
  dom:=λi l hl=>by
   by_cases hi:i=id
   ·subst hi; rw[akS] at hl; cases hl
   ·rw[jQ i hi] at hl; obtain⟨c,hc⟩:=hs.dom i l hl; exact⟨fixC id ps c,by unfold awz; rw[if_neg hi,hc]; rfl⟩
  chunk:=λi c hc=>by
   by_cases hi:i=id
   ·subst hi; unfold awz at hc; rw[if_pos rfl] at hc; cases hc
   ·unfold awz at hc; rw[if_neg hi] at hc; cases hci:H i with
    | none=>rw[hci] at hc; cases hc
    | some c0 =>
     rw[hci] at hc; simp only[awy,Option.some.injEq] at hc; subst hc; have h0:=hs.chunk i c0 hci; cases c0 with
     | box cs =>
      obtain⟨b',aFV,e0,g1,g2,g3,g4,g5,g6⟩:=h0; refine⟨b',aFV,e0,(jQ i hi).trans g1,g2,by rw[nM]; exact g3,λj u c hu hc=>?_,g5,λo=>?_⟩
      ·obtain⟨d,hd,rfl⟩:=sQ hc; exact (g4 j u d hu hd).fix q1 qZ hvr
      ·rw[hJo b' (hnot i _ b' hi g1 rfl)]; exact g6 o
     | row v1 e1 s1 es1=>obtain⟨h1,us1,g1,g2,g3,g4,g5,g6,g7⟩:=h0; exact⟨h1,us1,(jQ i hi).trans g1,g2,g3,g4,λj u c hu hc=>(g5 j u c hu hc).mono qZ,g6,λb' hb o=>by rw[hJo b' (hnot i _ b' hi g1 hb)]; exact g7 b' hb o⟩
     | shut v1 es1=>obtain⟨h1,s1,g1,g2,g3⟩:=h0; exact⟨h1,s1,(jQ i hi).trans g1,g2.mono qZ,g3⟩
     | tail v1 e1 s1 es1=>obtain⟨g,o0,cap,arr,g1,g2,g3,g4,g5,g6,g7,g8⟩:=h0; exact⟨g,o0,cap,arr,(jQ i hi).trans g1,g2,g3,g4,g5,g6,g7.mono qZ,λj a b=>by rw[hJo g (hnot i _ g hi g1 rfl)]; exact g8 j a b⟩
     | deep v1 e1 s1 k1 e2 s2 es1 =>
      obtain⟨h1,us1,p4,g1,g2,g3,g4,g5,g6,g7⟩:=h0; have hk:∀b',(Loc.deep v1 h1 s1 s2 p4 es1.length).has b'->w.heap[b']? = w.heap[b']?/\∀o,J b' o=I b' o:=λb' hb=>⟨rfl,λo=>hJo b' (hnot i _ b' hi g1 hb) o⟩
      refine⟨h1,us1,p4,(jQ i hi).trans g1,g2.keep qZ λb' hb=>hk b' (.inl hb),g3,g4,g5,λj x hx=>?_,g7⟩; obtain⟨l,us2,m1,m2,m3⟩:=g6 j x hx; exact⟨l,us2,m1,m2.keep qZ λb' hb=>hk b' (.inr ⟨j,(List.getElem?_eq_some_iff.1 hx).1,hb⟩),m3⟩
  fe:=λi l b' hl hb=>by
   by_cases hi:i=id
   ·subst hi; rw[akS] at hl; cases hl
   ·rw[jQ i hi] at hl; exact hs.fe i l b' hl hb
  apart:=λi j li lj b' hi hj qt tS=>by
   by_cases ei:i=id
   ·subst ei; rw[akS] at hi; cases hi
   by_cases ej:j=id
   ·subst ej; rw[akS] at hj; cases hj
   rw[jQ i ei] at hi; rw[jQ j ej] at hj; exact hs.apart i j li lj b' hi hj qt tS }
theorem azb (id:Nat) (ps:List PV) (env:Env) (i:Nat):aCo id ps env i=p6 id ps (env i):=rfl
theorem azc (id:Nat) (ps:List PV) (H:ay) (i:Nat):awz id ps H i=if i=id then none else awy id ps (H i):=rfl
theorem asr (id:Nat) (ps:List PV) (c:Chunk):awy id ps (some c)=some (fixC id ps c):=rfl
theorem ass (id:Nat) (ps:List PV):awy id ps none=none:=rfl
theorem awB (id:Nat) (ps:List PV) (cs:List AV):fixC id ps (.box cs) = .box (o6 id ps cs):=rfl
theorem awC (id:Nat) (ps:List PV) (v:Nat) (e:TypeId) (sz:Nat) (es:List (List PV)):fixC id ps (.row v e sz es) = .row v e sz es:=rfl
theorem ast (id:Nat) (ps:List PV):o6 id ps []=[]:=by simp only[o6]
theorem anU (id:Nat) (ps:List PV) (a:AV) (r:List AV):o6 id ps (a :: r)=p6 id ps a :: o6 id ps r:=by simp only[o6]
theorem aAU (id:Nat) (ps:List PV) (x:PV):p6 id ps (.p x) = .p x:=by simp only[p6]
theorem awD (id:Nat) (ps:List PV) (i o:Nat):p6 id ps (.ptr i o)=if i=id then .p (.dJ ps o) else .ptr i o:=by simp only[p6]
theorem awE (id:Nat) (ps:List PV) (i v:Nat):p6 id ps (.row i v)=if i=id then .dead else .row i v:=by simp only[p6]
theorem awF (id:Nat) (ps:List PV) (f:Fn) (a b:List AV):p6 id ps (.gR f a b) = .gR f (o6 id ps a) (o6 id ps b):=by simp only[p6]
theorem aiv {o:Oper} {W:Env->ay->Prop} {env rM:Env} {H H2:ay} (hw:dP env H rM H2) {k:FuncId} {ps:List PV} {b:Bool} {id v:Nat} {e:TypeId} {sz:Nat} {es es':List (List PV)} {en:List AV} (c:j5 P k v e sz es ps λa c=>a = .row 1000000 (v+1)/\c=some (.row (v+1) e sz es'))
  (ha:di o (ev rM)=some (k,.row id v :: en)) (hH:H2 id=some (.row v e sz es))
  (he:dS (fZ (afN H2 id)) en=some (ps,b)) (hb:b=true->(es'.all λx=>x.all isVal)=true) (hW:W (cA rM o.dst (.row id (v+1))) (bl H2 id (.row (v+1) e sz es'))):iL P o W env H :=
 sL hw (.inl (.inr (.inr ⟨[],.inr ⟨k,id,v,e,sz,es,en,ps,b,_,ha,hH,he,c,λa c ⟨h1,h2⟩=>by
  subst h1 h2; exact⟨v+1,e,sz,es',.row id (v+1),rfl,rfl,λh=>⟨hb h,rfl⟩,hW⟩⟩⟩)))
attribute [go_sem] awF azb azc asr ass awB awC ast anU aAU awD awE
end Go.cE
namespace Go.Proofs.YtllicmcihlfajaaGreat
open Go.cE
theorem akT (n:aj) (id:Int):aS Tryz.prog 125 [.agg (ag n),.dJ [.val (.int .i64 id)] 0] (λv=>v = .val (.bool (decide (n.id=id)))):=by refine aR [] func125 ?_; rw[ntmps125,results125]; simp -implicitDefEqProofs only[go_sem,ag]
theorem anV (p:aG) (id:Int) (hl:p.ax.length<=1000000):aS Tryz.prog 72 [.agg (aB p),.val (.int .i64 id)] (λv=>v = .val (.bool (p.ax.any λn=>decide (n.id=id)))):=by refine aR [] func72 ?_; rw[ntmps72,results72]; simp -implicitDefEqProofs only[go_sem,aB]; have aiw:=yE (λn=>decide (n.id=id)) p.ax hl 125 [] [.dJ [.val (.int .i64 id)] 0] (λx _=>akT x id); refine aY (aiw) (by simp -implicitDefEqProofs only[go_sem]<;>rfl) (bY rfl) ?_; simp -implicitDefEqProofs only[go_sem]
theorem akU (n:aj) (p:aG) (hl:p.ax.length<=1000000):aS Tryz.prog 132 [.agg (ag n),.dJ (aB p) 0] (λv=>v = .val (.bool (p.ax.any λm=>decide (m.id=n.id)))):=by refine aR [] func132 ?_; rw[ntmps132,results132]; simp -implicitDefEqProofs only[go_sem,ag,aB]; refine aY (anV p n.id hl) (by simp -implicitDefEqProofs only[go_sem,aB]<;>rfl) (bY rfl) ?_; simp -implicitDefEqProofs only[go_sem,aB]
theorem aix (y x:ak):aS Tryz.prog 136 [.agg (ah y),.dJ (ah x) 0] (λv=>v = .val (.bool (decide (x.id=y.id)))):=by refine aR [] func136 ?_; rw[ntmps136,results136]; simp -implicitDefEqProofs only[go_sem,ah]
theorem akV (x:ak) (p:aG) (hl:p.aD.length<=1000000):aS Tryz.prog 135 [.agg (ah x),.dJ (aB p) 0] (λv=>v = .val (.bool (p.aD.any λy=>decide (x.id=y.id)))):=by refine aR [] func135 ?_; rw[ntmps135,results135]; simp -implicitDefEqProofs only[go_sem,ah,aB]; have aiw:=yG (λy=>decide (x.id=y.id)) p.aD hl 136 [] [.dJ (ah x) 0] (λy _=>aix y x); refine aY (aiw) (by simp -implicitDefEqProofs only[go_sem,ah]<;>rfl) (bY rfl) ?_; simp -implicitDefEqProofs only[go_sem,ah]
theorem aiy (w v:aO):aS Tryz.prog 141 [.agg (aH w),.dJ (aH v) 0] (λr=>r = .val (.bool (decide (v.id=w.id)&&decide (v.attr=w.attr)))):=by
 refine aR [] func141 ?_; rw[ntmps141,results141]; simp -implicitDefEqProofs only[go_sem,aH]
 repeat' first | done | (refine bO (λh=>?_) (λh=>?_)<;>try simp -implicitDefEqProofs only[go_sem,h]) | (refine bK (λh=>?_) (λh=>?_)<;>try simp -implicitDefEqProofs only[go_sem,h]) | (refine aX (λh=>?_) (λh=>?_)<;>try simp -implicitDefEqProofs only[go_sem,h]) | (refine aL (λh=>?_) (λh=>?_)<;>try simp -implicitDefEqProofs only[go_sem,h])
theorem akW (v:aO) (p:aG) (hl:p.values.length<=1000000):aS Tryz.prog 139 [.agg (aH v),.dJ (aB p) 0] (λr=>r = .val (.bool (p.values.any λw=>decide (v.id=w.id)&&decide (v.attr=w.attr)))):=by refine aR [] func139 ?_; rw[ntmps139,results139]; simp -implicitDefEqProofs only[go_sem,aH,aB]; have aiw:=af6 (λw=>decide (v.id=w.id)&&decide (v.attr=w.attr)) p.values hl 141 [] [.dJ (aH v) 0] (λw _=>aiy w v); refine aY (aiw) (by simp -implicitDefEqProofs only[go_sem,aH]<;>rfl) (bY rfl) ?_; simp -implicitDefEqProofs only[go_sem,aH]
theorem akX (l:List aj) (hl:l.length<=1000000):bu Tryz.prog 131 [.aU (l.map ag)] (λr=>r = .row 79 3 (l.map ag)):=by
 by_cases h0:l=[]
 ·subst h0; refine bu.su (by kernel_rfl) λao cap=>?_
  refine bF [5] func131 ?_; rw[ntmps131,results131]; simp -implicitDefEqProofs only[go_sem]; cases ao with
  | none=>simp -implicitDefEqProofs only[go_sem]; exact⟨by decide,_,.nil _ _ (by decide),rfl⟩
  | some a=>simp -implicitDefEqProofs only[go_sem]; exact⟨λ_ h=>h.elim,by decide,_,.refl _,rfl⟩
 ·have hne:l.map ag≠[]:=by simpa using h0
  refine bF [5] func131 ?_; rw[ntmps131,results131]; simp -implicitDefEqProofs only[go_sem,hne]; exact⟨⟨by omega,fz (n:=3) (f:=ag) (λ_=>rfl) l⟩,by decide,_,.refl _,rfl⟩
theorem akY (l:List ak) (hl:l.length<=1000000):bu Tryz.prog 134 [.aU (l.map ah)] (λr=>r = .row 84 4 (l.map ah)):=by
 by_cases h0:l=[]
 ·subst h0; refine bu.su (by kernel_rfl) λao cap=>?_
  refine bF [5] func134 ?_; rw[ntmps134,results134]; simp -implicitDefEqProofs only[go_sem]; cases ao with
  | none=>simp -implicitDefEqProofs only[go_sem]; exact⟨by decide,_,.nil _ _ (by decide),rfl⟩
  | some a=>simp -implicitDefEqProofs only[go_sem]; exact⟨λ_ h=>h.elim,by decide,_,.refl _,rfl⟩
 ·have hne:l.map ah≠[]:=by simpa using h0
  refine bF [5] func134 ?_; rw[ntmps134,results134]; simp -implicitDefEqProofs only[go_sem,hne]; exact⟨⟨by omega,fz (n:=4) (f:=ah) (λ_=>rfl) l⟩,by decide,_,.refl _,rfl⟩
theorem anW (l:List aO) (hl:l.length<=1000000):bu Tryz.prog 138 [.aU (l.map aH)] (λr=>r = .row 87 4 (l.map aH)):=by
 by_cases h0:l=[]
 ·subst h0; refine bu.su (by kernel_rfl) λao cap=>?_
  refine bF [5] func138 ?_; rw[ntmps138,results138]; simp -implicitDefEqProofs only[go_sem]; cases ao with
  | none=>simp -implicitDefEqProofs only[go_sem]; exact⟨by decide,_,.nil _ _ (by decide),rfl⟩
  | some a=>simp -implicitDefEqProofs only[go_sem]; exact⟨λ_ h=>h.elim,by decide,_,.refl _,rfl⟩
 ·have hne:l.map aH≠[]:=by simpa using h0
  refine bF [5] func138 ?_; rw[ntmps138,results138]; simp -implicitDefEqProofs only[go_sem,hne]; exact⟨⟨by omega,fz (n:=4) (f:=aH) (λ_=>rfl) l⟩,by decide,_,.refl _,rfl⟩
def nA (p q:aG):aG:={ q with
 ax:=q.ax.filter λn=>!p.ax.any λm=>decide (m.id=n.id)
 aD:=q.aD.filter λx=>!p.aD.any λy=>decide (x.id=y.id)
 values:=q.values.filter λv=>!p.values.any λw=>decide (v.id=w.id)&&decide (v.attr=w.attr) }
theorem anX (p q:aG) (h1:p.ax.length<=1000000) (h2:p.aD.length<=1000000) (h3:p.values.length<=1000000) (g1:q.ax.length<=1000000) (g2:q.aD.length<=1000000) (g3:q.values.length<=1000000) (r:aG) (hr:r=nA p q) :
  bu Tryz.prog 75 [.agg (aB p),.agg (aB q)] (λv=>v = .agg [.row 79 3 (r.ax.map ag),.row 84 4 (r.aD.map ah),.p (.aU (r.aQ.map ag)),.p (.aU (r.aM.map ah)),.row 87 4 (r.values.map aH),.p (.val (.int .i64 r.next.x0)),.p (.val (.int .i64 r.next.x1))]):=by
 subst hr; have hd1:=anP (λn=>p.ax.any λm=>decide (m.id=n.id)) q.ax g1 0 132 [] [.dJ (aB p) 0] (λx _=>akU x p h1); have hd2:=anQ (λx=>p.aD.any λy=>decide (x.id=y.id)) q.aD g2 0 135 [] [.dJ (aB p) 0] (λx _=>akV x p h2); have hd3:=asp (λv=>p.values.any λw=>decide (v.id=w.id)&&decide (v.attr=w.attr)) q.values g3 0 139 [] [.dJ (aB p) 0] (λx _=>akW x p h3); refine bF [] func75 ?_; rw[ntmps75,results75]; simp -implicitDefEqProofs only[go_sem,aB]; refine vr 1000 (akX q.ax g1) (by simp -implicitDefEqProofs only[go_sem]<;>rfl) (yp) (by simp -implicitDefEqProofs only[go_sem]) ?_; simp -implicitDefEqProofs only[go_sem]; refine aiv (awA 2 (aB p) (by decide) (by simp -implicitDefEqProofs only[go_sem,aB])) hd1 (by simp -implicitDefEqProofs only[go_sem]<;>rfl) (by simp -implicitDefEqProofs only[go_sem]<;>rfl) (by simp -implicitDefEqProofs only[go_sem]<;>rfl) (λh=>by cases h) ?_; simp -implicitDefEqProofs only[go_sem]; refine vr 1001 (akY q.aD g2) (by simp -implicitDefEqProofs only[go_sem]<;>rfl) (yp) (by simp -implicitDefEqProofs only[go_sem]) ?_; simp -implicitDefEqProofs only[go_sem]; refine vt hd2 (by simp -implicitDefEqProofs only[go_sem]<;>rfl) (by simp -implicitDefEqProofs only[go_sem]<;>rfl) (by simp -implicitDefEqProofs only[go_sem]<;>rfl) (λh=>by cases h) ?_; simp -implicitDefEqProofs only[go_sem]; refine vr 1002 (anW q.values g3) (by simp -implicitDefEqProofs only[go_sem]<;>rfl) (yp) (by simp -implicitDefEqProofs only[go_sem]) ?_; simp -implicitDefEqProofs only[go_sem]; refine vt hd3 (by simp -implicitDefEqProofs only[go_sem]<;>rfl) (by simp -implicitDefEqProofs only[go_sem]<;>rfl) (by simp -implicitDefEqProofs only[go_sem]<;>rfl) (λh=>by cases h) ?_; simp -implicitDefEqProofs only[go_sem]; exact⟨by decide,_,.refl _,rfl⟩
end Go.Proofs.YtllicmcihlfajaaGreat
namespace Go.Proofs.YtllicmcihlfajaaGreat
open Go.cE
theorem akZ {α:Type} (es:List α) (z:α) (i j:Nat) (hij:i<j) (hj:j<=es.length):(splice (splice es i ((es.drop j).take (es.length - j))) (i+(es.length - j)) (List.replicate (es.length - (i+(es.length - j))) z)).take (i+(es.length - j))=es.take i++es.drop j:=by
 have h1:(es.drop j).take (es.length - j)=es.drop j:=List.take_of_length_le (by simp); rw[h1]; unfold splice; have e1:(es.take i++es.drop j++es.drop (i+(es.drop j).length)).take (i+(es.length - j))=es.take i++es.drop j:=by
  have hl:(es.take i++es.drop j).length=i+(es.length - j):=by simp; omega
  rw[<-hl,List.take_left]
 rw[e1,List.append_assoc]; have hl:(es.take i++es.drop j).length=i+(es.length - j):=by simp; omega
 rw[<-hl,List.take_left]
theorem azd (es:List (List PV)) (i j:Nat) (v:Nat) (hij:i<j) (hj:j<=es.length) (hn:es.length<=1000000):j5 Tryz.prog 210 v 79 3 es [.val (.int .i64 i),.val (.int .i64 j)] (λa c=>a = .row 1000000 (v+1)/\c=some (.row (v+1) 79 3 (es.take i++es.drop j))):=by
 refine qI ?_; refine lW [] Ty.mixed func210 rfl (by kernel_rfl) (by simp[ntmps210]) ?_; rw[ntmps210,results210]; simp -implicitDefEqProofs only[go_sem]; refine ao9 35 _ _ _ _ 0 1000000 v 79 3 es .i64 .i64 .i64 i j es.length rfl (by simp -implicitDefEqProofs only[go_sem]) (by simp -implicitDefEqProofs only[go_sem]) (by simp -implicitDefEqProofs only[go_sem]) (by simp -implicitDefEqProofs only[go_sem]) (by simp -implicitDefEqProofs only[go_sem]) (by simp -implicitDefEqProofs only[go_sem]) (by simp -implicitDefEqProofs only[go_sem]) (by simp -implicitDefEqProofs only[go_sem]) (by omega) ?_; simp -implicitDefEqProofs only[go_sem]; refine aL (λhc=>?_) (λhc=>?_)
 ·have:=of_decide_eq_true hc; omega
 simp -implicitDefEqProofs only[go_sem]; refine cV [.p,.p,.p,.p,.p,.p,.t,.t] (by kernel_rfl) ?_; simp -implicitDefEqProofs only[go_sem,Nat.sub_zero]; refine⟨⟨by omega,by omega⟩,⟨by omega,by omega⟩,?_⟩; refine akH 35 35 _ _ 1000000 v i es.length j (es.length - j) (es.length - j) 79 3 _ es rfl (by simp -implicitDefEqProofs only[go_sem]<;>rfl) (by simp -implicitDefEqProofs only[go_sem]) (by simp -implicitDefEqProofs only[go_sem]) (by simp -implicitDefEqProofs only[go_sem]) (by omega) (by omega) (by omega) (by omega) ?_; simp -implicitDefEqProofs only[go_sem]; have yY:(splice es i ((es.drop j).take (es.length - j))).length=es.length:=dQ (by simp; omega); refine⟨⟨by omega,by omega⟩,?_⟩; refine qH 35 _ 1000000 v (i+(es.length - j)) (es.length - (i+(es.length - j))) _ 79 3 (splice es i ((es.drop j).take (es.length - j))) _ rfl (by simp -implicitDefEqProofs only[go_sem]) (by simp -implicitDefEqProofs only[go_sem]<;>rfl) rfl (by decide) rfl (by simp -implicitDefEqProofs only[go_sem]<;>rfl) (by simp -implicitDefEqProofs only[go_sem]) (by omega) (by omega) ?_; simp -implicitDefEqProofs only[go_sem]; have hd:=akZ es ((cI Tryz.prog 79).getD [] |>.map PV.val) i j hij hj; have hl:i+(es.length - j)<=(splice (splice es i ((es.drop j).take (es.length - j))) (i+(es.length - j)) (List.replicate (es.length - (i+(es.length - j))) ((cI Tryz.prog 79).getD [] |>.map PV.val))).length:=by rw[dQ (by rw[yY,List.length_replicate]; omega),yY]; omega
 rw[show (cI Tryz.prog 79).getD []=_ from by simp -implicitDefEqProofs only[go_sem]<;>rfl] at hd hl; simp only[qv,List.length_replicate,List.append_assoc,List.map_cons,List.map_nil] at hd hl; exact⟨_,_,_,.inl rfl,rfl,hl,hd⟩
theorem aze (es:List (List PV)) (i j:Nat) (v:Nat) (hij:i<j) (hj:j<=es.length) (hn:es.length<=1000000):j5 Tryz.prog 211 v 84 4 es [.val (.int .i64 i),.val (.int .i64 j)] (λa c=>a = .row 1000000 (v+1)/\c=some (.row (v+1) 84 4 (es.take i++es.drop j))):=by
 refine qI ?_; refine lW [] Ty.mixed func211 rfl (by kernel_rfl) (by simp[ntmps211]) ?_; rw[ntmps211,results211]; simp -implicitDefEqProofs only[go_sem]; refine ao9 36 _ _ _ _ 0 1000000 v 84 4 es .i64 .i64 .i64 i j es.length rfl (by simp -implicitDefEqProofs only[go_sem]) (by simp -implicitDefEqProofs only[go_sem]) (by simp -implicitDefEqProofs only[go_sem]) (by simp -implicitDefEqProofs only[go_sem]) (by simp -implicitDefEqProofs only[go_sem]) (by simp -implicitDefEqProofs only[go_sem]) (by simp -implicitDefEqProofs only[go_sem]) (by simp -implicitDefEqProofs only[go_sem]) (by omega) ?_; simp -implicitDefEqProofs only[go_sem]; refine aL (λhc=>?_) (λhc=>?_)
 ·have:=of_decide_eq_true hc; omega
 simp -implicitDefEqProofs only[go_sem]; refine cV [.p,.p,.p,.p,.p,.p,.t,.t] (by kernel_rfl) ?_; simp -implicitDefEqProofs only[go_sem,Nat.sub_zero]; refine⟨⟨by omega,by omega⟩,⟨by omega,by omega⟩,?_⟩; refine akH 36 36 _ _ 1000000 v i es.length j (es.length - j) (es.length - j) 84 4 _ es rfl (by simp -implicitDefEqProofs only[go_sem]<;>rfl) (by simp -implicitDefEqProofs only[go_sem]) (by simp -implicitDefEqProofs only[go_sem]) (by simp -implicitDefEqProofs only[go_sem]) (by omega) (by omega) (by omega) (by omega) ?_; simp -implicitDefEqProofs only[go_sem]; have yY:(splice es i ((es.drop j).take (es.length - j))).length=es.length:=dQ (by simp; omega); refine⟨⟨by omega,by omega⟩,?_⟩; refine qH 36 _ 1000000 v (i+(es.length - j)) (es.length - (i+(es.length - j))) _ 84 4 (splice es i ((es.drop j).take (es.length - j))) _ rfl (by simp -implicitDefEqProofs only[go_sem]) (by simp -implicitDefEqProofs only[go_sem]<;>rfl) rfl (by decide) rfl (by simp -implicitDefEqProofs only[go_sem]<;>rfl) (by simp -implicitDefEqProofs only[go_sem]) (by omega) (by omega) ?_; simp -implicitDefEqProofs only[go_sem]; have hd:=akZ es ((cI Tryz.prog 84).getD [] |>.map PV.val) i j hij hj; have hl:i+(es.length - j)<=(splice (splice es i ((es.drop j).take (es.length - j))) (i+(es.length - j)) (List.replicate (es.length - (i+(es.length - j))) ((cI Tryz.prog 84).getD [] |>.map PV.val))).length:=by rw[dQ (by rw[yY,List.length_replicate]; omega),yY]; omega
 rw[show (cI Tryz.prog 84).getD []=_ from by simp -implicitDefEqProofs only[go_sem]<;>rfl] at hd hl; simp only[qv,List.length_replicate,List.append_assoc,List.map_cons,List.map_nil] at hd hl; exact⟨_,_,_,.inl rfl,rfl,hl,hd⟩
end Go.Proofs.YtllicmcihlfajaaGreat
namespace Go.Proofs.YtllicmcihlfajaaGreat
open Go.cE
theorem anY (n:aj) (id:Int):aS Tryz.prog 201 [.agg (ag n),.dJ [.val (.int .i64 id)] 0] (λv=>v = .val (.bool (decide (n.id=id)))):=by refine aR [] func201 ?_; rw[ntmps201,results201]; simp -implicitDefEqProofs only[go_sem,ag]
theorem acW (l:List aj) (hl:l.length<=1000000) (id:Int):aS Tryz.prog 165 [.aU (l.map ag),.val (.int .i64 id)] (λv=>v = .val (.int .i64 (idxOf (λn=>decide (n.id=id)) l))):=by refine aR [] func165 ?_; rw[ntmps165,results165]; simp -implicitDefEqProofs only[go_sem]; have aiw:=yD (λn=>decide (n.id=id)) l hl 201 [] [.dJ [.val (.int .i64 id)] 0] (λx _=>anY x id); refine aY (aiw) (by simp -implicitDefEqProofs only[go_sem]<;>rfl) (bY rfl) ?_; simp -implicitDefEqProofs only[go_sem]
theorem anZ (n:ak) (id:Int):aS Tryz.prog 202 [.agg (ah n),.dJ [.val (.int .i64 id)] 0] (λv=>v = .val (.bool (decide (n.id=id)))):=by refine aR [] func202 ?_; rw[ntmps202,results202]; simp -implicitDefEqProofs only[go_sem,ah]
theorem ag1 (l:List ak) (hl:l.length<=1000000) (id:Int):aS Tryz.prog 166 [.aU (l.map ah),.val (.int .i64 id)] (λv=>v = .val (.int .i64 (idxOf (λn=>decide (n.id=id)) l))):=by refine aR [] func166 ?_; rw[ntmps166,results166]; simp -implicitDefEqProofs only[go_sem]; have aiw:=yF (λn=>decide (n.id=id)) l hl 202 [] [.dJ [.val (.int .i64 id)] 0] (λx _=>anZ x id); refine aY (aiw) (by simp -implicitDefEqProofs only[go_sem]<;>rfl) (bY rfl) ?_; simp -implicitDefEqProofs only[go_sem]
def bI (x:az) (i:Nat):aj:=⟨x.nodes.getD i default,x.host.graph.nodes.getD i default,x.host.values.getD i default⟩
def bZ (x:az):List aj:=(List.range x.nodes.length).map (bI x)
theorem awG (x:az) (h1:x.nodes.length<=x.host.graph.nodes.length) (h2:x.nodes.length<=x.host.values.length) (h3:x.nodes.length<=1000000) (h4:∀l∈x.host.values,l.length<=1000000) :
  bu Tryz.prog 163 [.agg (aA x)] (λv=>v = .deep 79 3 2 3 1 ((bZ x).map ag)):=by
 refine bF [31] func163 ?_; rw[ntmps163,results163]; simp -implicitDefEqProofs only[go_sem,aA]; refine bH (σ:=Nat) (λi=>(ct (ct (ct (ct (ct fA 1 (.ptr 1 0)) 3 (.eC 2000 i)) 7 (.p (.aU (x.nodes.map encI)))) 8 (.p (.val (.int .i64 x.nodes.length)))) 9 (.p (.val (.int .i64 i))))) (λi=>(bl (bl b8 1 (.box [.p (.aU (x.host.graph.nodes.map encI)),.p (.aU (x.host.graph.au.map bf)),.p (.aU (x.host.values.map b9)),.p (.aU (x.nodes.map encI)),.p (.aU (x.au.map encI)),.p (.val (.int .i64 x.next))])) 2000 (.deep i 79 3 2 3 1 (((bZ x).take i).map ag))))
  (λi=>i<=x.nodes.length) (λi=>x.nodes.length - i) 0 (Nat.zero_le _) (dP.trans (ar7 3 2000 79 3 2 3 1 (by simp -implicitDefEqProofs only[go_sem]) (by simp -implicitDefEqProofs only[go_sem]) (by decide)) bR) ?_
 rintro i hi; simp -implicitDefEqProofs only[go_sem,aA]; refine aL (λhc=>?_) (λhc=>?_)
 ·have hlt:i<x.nodes.length:=by have:=of_decide_eq_true hc; omega
  have rP:i<x.host.graph.nodes.length:=by omega
  have ato:i<x.host.values.length:=by omega
  simp -implicitDefEqProofs only[go_sem,getD_map encI hlt,encI]; refine⟨hlt,?_⟩; refine cV [.p,.p,.q,.q,.q,.q,.p,.q,.q,.q,.q,.q,.p,.q,.q,.f,.p,.w,.t,.t] (by kernel_rfl) ?_; simp -implicitDefEqProofs only[go_sem,getD_map encI rP,getD_map b9 ato,encI,b9,bh]; refine⟨rP,ato,?_⟩; have hm:x.host.values.getD i default∈x.host.values:=by simp[ato]
  refine ad4 1464 (agL (x.host.values.getD i default) (h4 _ hm)) (by simp -implicitDefEqProofs only[go_sem]<;>rfl) (gJ _) yp (by simp -implicitDefEqProofs only[go_sem]) (by simp -implicitDefEqProofs only[go_sem]) ?_; simp -implicitDefEqProofs only[go_sem]; refine awl 35 35 _ _ 2000 31 1464 i 0 2 79 3 40 3 1 (((bZ x).take i).map ag) ((x.host.values.getD i default).map encI) [.val (.int .i64 (x.nodes.getD i default)),.val (.int .i64 (x.host.graph.nodes.getD i default)),.val (.slice none 0 0)] rfl (by simp -implicitDefEqProofs only[go_sem]<;>rfl) (by simp -implicitDefEqProofs only[go_sem]) (by simp -implicitDefEqProofs only[go_sem]) (by simp -implicitDefEqProofs only[go_sem]) (by simp -implicitDefEqProofs only[go_sem]) (by simp -implicitDefEqProofs only[go_sem]) rfl (by decide) ?_ ?_
  ·simp; omega
  have hel:((bZ x).take i).map ag++[[.val (.int .i64 (x.nodes.getD i default)),.val (.int .i64 (x.host.graph.nodes.getD i default)),.aU ((x.host.values.getD i default).map encI)]]=((bZ x).take (i+1)).map ag:=by
   have hl:i<(bZ x).length:=by simp[bZ]; exact hlt
   rw[nu hl,List.map_append,List.map_cons,List.map_nil]; have hg:(bZ x).getD i default=bI x i:=by simp[bZ,hlt]
   rw[hg]; rfl
  simp -implicitDefEqProofs only[go_sem,bq hlt (by omega)]; refine bJ (i+1) hlt (by omega) ?_; rw[hel]; exact bR
 ·have:i=x.nodes.length:=by have:=of_decide_eq_false hc; omega
  subst this; simp -implicitDefEqProofs only[go_sem]; exact⟨by decide,_,.refl _,by rw[List.take_of_length_le (by simp[bZ])]⟩
end Go.Proofs.YtllicmcihlfajaaGreat
namespace Go.Proofs.YtllicmcihlfajaaGreat
open Go.cE
def ceq (a b:aI):Bool:=decide (a.kind=b.kind)&&(decide (a.id=b.id)&&decide (a.attr=b.attr))
theorem awH (a b:aI):ceq a b=true↔a=b:=by cases a; cases b; simp[ceq]
def fresh (l:List aI) (j:Nat):Bool:=decide (j=0) || !ceq (l.getD j default) (l.getD (j - 1) default)
theorem abR {l:List aI} {j:Nat} {b:Bool} (h1:1<=j) (h:ceq (l.getD j default) (l.getD (j - 1) default)=b):fresh l j = !b:=by unfold fresh; rw[h,decide_eq_false (by omega),Bool.false_or]
def kept (l:List aI):Nat->List aI
 | 0=>[]
 | j+1=>if fresh l j then kept l j++[l.getD j default] else kept l j
theorem abS (l:List aI):∀j,j<=l.length->(∀i,i<j->fresh l i=true)->kept l j=l.take j
 | 0,_,_=>rfl
 | j+1,hj,h=>by rw[kept,if_pos (h j (by omega)),abS l j (by omega) λi hi=>h i (by omega),nu (by omega)]
theorem abT (l:List aI):∀j,(kept l j).length<=j
 | 0=>Nat.le_refl _
 | j+1=>by
  have:=abT l j; unfold kept; split
  ·simp; omega
  ·omega
def kA (K g l:List aI) (j:Nat):List aI:=K++g++l.drop (j - 1)
theorem asu {K g l:List aI} {j:Nat} (h:K.length+g.length=j - 1) (hj:j<=l.length):(kA K g l j).length=l.length:=by simp[kA]; omega
theorem ak0 {K g l:List aI} {j:Nat} (h:K.length+g.length=j - 1) (i:Nat) (hi:j - 1<=i):(kA K g l j).getD i default=l.getD i default:=by
 have h1:(K++g).length=j - 1:=by rw[List.length_append]; exact h
 simp only[kA,List.getD_eq_getElem?_getD]; rw[List.getElem?_append_right (by omega),h1,List.getElem?_drop,show j - 1+(i - (j - 1))=i by omega]
theorem an0 {K g l:List aI} {j:Nat} (h1:1<=j) (hj:j<l.length):kA K g l j=kA K (g++[l.getD (j - 1) default]) l (j+1):=by
 have h2:l.drop (j - 1)=l.getD (j - 1) default :: l.drop j:=by rw[List.drop_eq_getElem_cons (by omega)]; simp[show j - 1<l.length by omega,show j - 1+1=j by omega]
 simp[kA,h2]
theorem an1 {K g l:List aI} {j:Nat} (x:aI) (h:K.length+g.length=j - 1) (h1:1<=j) (hj:j<l.length):∃g2,(kA K g l j).set K.length x=kA (K++[x]) g2 l (j+1)/\(K++[x]).length+g2.length=j+1 - 1:=by
 have h2:l.drop (j - 1)=l.getD (j - 1) default :: l.drop j:=by rw[List.drop_eq_getElem_cons (by omega)]; simp[show j - 1<l.length by omega,show j - 1+1=j by omega]
 cases g with
 | nil=>refine⟨[],?_,by simp at h ⊢; omega⟩; rw[kA,h2,List.append_nil,List.set_append_right _ _ (Nat.le_refl _),Nat.sub_self]; simp[kA]
 | cons y r=>refine⟨r++[l.getD (j - 1) default],?_,by simp at h ⊢; omega⟩; rw[kA,h2,List.append_assoc,List.set_append_right _ _ (Nat.le_refl _),Nat.sub_self]; simp[kA]
theorem aAV (z:List PV) (K g l:List aI) (i:Nat) (hi:K.length=i) (hl:(kA K g l l.length).length=l.length):(splice ((kA K g l l.length).map aC) i (List.replicate (l.length - i) z)).take i=K.map aC:=by
 unfold kA splice; rw[List.map_append,List.map_append,List.append_assoc,List.append_assoc]; have h2:(K.map aC).length=i:=by rw[List.length_map]; exact hi
 rw[<-h2,List.take_left,List.take_left]
theorem an2 (l:List aI) (hl:l.length<=1000000) (v:Nat):j5 Tryz.prog 129 v 53 3 (l.map aC) []
  (λa c=>a = .row 1000000 (v+1)/\c=some (.row (v+1) 53 3 ((kept l l.length).map aC))):=by
 refine qI ?_; refine lW [] Ty.mixed func129 rfl (by kernel_rfl) (by simp[ntmps129]) ?_; rw[ntmps129,results129]; simp -implicitDefEqProofs only[go_sem]; refine aL (λhc=>?_) (λhc=>?_)
 ·have pN:l.length<2:=by have:=of_decide_eq_true hc; omega
  simp -implicitDefEqProofs only[go_sem]; refine⟨_,_,0,rfl,rfl,Nat.le_refl _,?_⟩; rw[List.take_length,abS l _ (Nat.le_refl _) (λi hi=>by have e0:i=0:=(by omega); subst e0; rfl),List.take_length]
 have pN:2<=l.length:=by have:=of_decide_eq_false hc; omega
 simp -implicitDefEqProofs only[go_sem]; refine bH (σ:=Nat) (λx=>(ct (ct fA 0 (.row 1000000 v)) 3 (.p (.val (.int .i64 x))))) (λx=>(bl b8 1000000 (.row v 53 3 (l.map aC))))
  (λx=>1<=x/\x<=l.length/\∀i,i<x->fresh l i=true) (λx=>l.length - x) 1 ⟨Nat.le_refl _,by omega,λi hi=>by have e0:i=0:=(by omega); subst e0; rfl⟩ bR ?_
 rintro k ⟨hk1,hk2,hk3⟩; simp -implicitDefEqProofs only[go_sem]; refine aL (λhc=>?_) (λhc=>?_)
 ·have hlt:k<l.length:=by have:=of_decide_eq_true hc; omega
  have hw:IntKind.i64.wrap ((k:Int) - 1)=((k - 1:Nat):Int):=by rw[IntWalk.i64_in _ (by omega)]; omega
  have rP:k - 1<l.length:=by omega
  simp -implicitDefEqProofs only[go_sem,hw,getD_map aC hlt,getD_map aC rP,aC]; refine cV [.q,.q,.q,.q,.q,.q,.q,.q,.q,.q] (by kernel_rfl) ?_; simp -implicitDefEqProofs only[go_sem,hw,getD_map aC hlt,getD_map aC rP,aC]; refine⟨hlt,hlt,by omega,rP,?_⟩; refine aL (λhb=>?_) (λhb=>?_)
  ·have hf:=abR hk1 hb; simp -implicitDefEqProofs only[go_sem,hw,getD_map aC hlt,getD_map aC rP,aC]; refine sv _ _ (mO 26 1000000 v 53 3 _ rfl rfl) (by simp -implicitDefEqProofs only[go_sem,hw,getD_map aC hlt,getD_map aC rP,aC]<;>rfl) ?_ ?_
   ·omega
   simp -implicitDefEqProofs only[go_sem,hw,getD_map aC hlt,getD_map aC rP,aC]; refine bH (σ:=Nat×List aI×List aI) (λx=>(ct (ct (ct (ct fA 0 (.row 1000000 v)) 3 (.p (.val (.int .i64 x.2.1.length)))) 4 (.gU 1000000 v k (l.length - k) (l.length - k) 3)) 5 (.p (.val (.int .i64 x.1))))) (λx=>(bl b8 1000000 (.row v 53 3 ((kA x.2.1 x.2.2 l (k+x.1)).map aC))))
    (λx=>1<=x.1/\k+x.1<=l.length/\x.2.1=kept l (k+x.1)/\x.2.1.length+x.2.2.length=k+x.1 - 1) (λx=>l.length - (k+x.1)) (1,l.take k,[]) ⟨Nat.le_refl _,hlt,?_,?_⟩ ?_ ?_
   ·simp only; rw[kept,if_neg (by rw[hf]; simp),abS l k (by omega) hk3]
   ·simp; omega
   ·have:kA (l.take k) [] l (k+1)=l:=by simp[kA]
    have qD:(l.take k).length=k:=by simp; omega
    rw[this,qD]; exact bR
   rintro⟨x,K,g⟩ ⟨hx1,hx2,hx3,hx4⟩; simp only at hx1 hx2 hx3 hx4; have hlen:=asu hx4 hx2; simp -implicitDefEqProofs only[go_sem,hw,getD_map aC hlt,getD_map aC rP,aC]; refine aL (λyz=>?_) (λyz=>?_)
   ·have hx:k+x<l.length:=by have:=of_decide_eq_true yz; omega
    have hwx:IntKind.i64.wrap ((x:Int) - 1)=((x - 1:Nat):Int):=by rw[IntWalk.i64_in _ (by omega)]; omega
    have hi1:k+x<(kA K g l (k+x)).length:=by omega
    have hi2:k+(x - 1)<(kA K g l (k+x)).length:=by omega
    have hg1:((kA K g l (k+x)).map aC).getD (k+x) []=aC (l.getD (k+x) default):=by rw[getD_map aC hi1,ak0 hx4 _ (by omega)]
    have hg2:((kA K g l (k+x)).map aC).getD (k+(x - 1)) []=aC (l.getD (k+x - 1) default):=by rw[getD_map aC hi2,ak0 hx4 _ (by omega),show k+(x - 1)=k+x - 1 by omega]
    simp -implicitDefEqProofs only[go_sem,hw,getD_map aC hlt,getD_map aC rP,aC,hwx,hg1,hg2,hlen]; refine cV [.q,.q,.q,.q,.q,.q,.q,.q,.q,.q] (by kernel_rfl) ?_; simp -implicitDefEqProofs only[go_sem,hw,getD_map aC hlt,getD_map aC rP,aC,hwx,hg1,hg2,hlen]; refine⟨⟨by omega,by omega⟩,by omega,⟨by omega,by omega⟩,by omega,?_⟩; refine aX (λhe=>?_) (λhe=>?_)
    ·have hf2:=abR (show 1<=k+x by omega) he; simp -implicitDefEqProofs only[go_sem,bq (show x<l.length by omega) (by omega),hw,getD_map aC hlt,getD_map aC rP,aC,hwx,hg1,hg2,hlen]; refine bJ (x+1,K,g++[l.getD (k+x - 1) default]) ⟨by omega,hx,?_,by simp; omega⟩ (by simp only; omega) ?_
     ·show K=kept l (k+x+1); rw[kept,if_neg (by rw[hf2]; simp)]; exact hx3
     ·rw[an0 (by omega) hx]; exact bR
    ·have hf2:=abR (show 1<=k+x by omega) he; obtain⟨g2,e1,e2⟩:=an1 (l.getD (k+x) default) hx4 (by omega) hx; have hst:((kA K g l (k+x)).map aC).set K.length (aC (l.getD (k+x) default))=(kA (K++[l.getD (k+x) default]) g2 l (k+x+1)).map aC:=by rw[<-e1,List.map_set]
     have hKl:K.length<l.length:=by omega
     have hgK:((kA K g l (k+x)).map aC).getD K.length []=aC ((kA K g l (k+x)).getD K.length default):=getD_map aC (by omega); simp only[aC] at hst; simp -implicitDefEqProofs only[go_sem,bq (show x<l.length by omega) (by omega),bq hKl (by omega),hgK,hw,getD_map aC hlt,getD_map aC rP,aC,hwx,hg1,hg2,hlen]; refine⟨⟨by omega,by omega⟩,hx,hKl,hKl,?_⟩; refine bJ (x+1,K++[l.getD (k+x) default],g2) ⟨by omega,hx,?_,e2⟩ (by simp only; omega) ?_
     ·show K++_=kept l (k+x+1); rw[kept,if_pos (by rw[hf2]; rfl),hx3]
     ·rw[hst]; exact bR
   ·have hkx:k+x=l.length:=by have:=of_decide_eq_false yz; omega
    rw[hkx] at hx3 hx4 hlen; have hKl:K.length<l.length:=by omega
    have yY:((kA K g l l.length).map aC).length=l.length:=by rw[List.length_map]; exact hlen
    have hend:=aAV [PV.val (.int .i64 0),PV.val (.int .i64 0),PV.val (.int .i64 0)] K g l K.length rfl hlen; simp only[qv,List.length_replicate,List.append_assoc] at hend; rw[hkx]; generalize (kA K g l l.length).map aC=E at yY hend ⊢; simp -implicitDefEqProofs only[go_sem,hw,getD_map aC hlt,getD_map aC rP,aC]; refine sv _ _ (mO 54 1000000 v 53 3 _ rfl rfl) (by simp -implicitDefEqProofs only[go_sem,hw,getD_map aC hlt,getD_map aC rP,aC]<;>rfl) ?_ ?_
    ·omega
    simp -implicitDefEqProofs only[go_sem,yY,hw,getD_map aC hlt,getD_map aC rP,aC]; refine qH 45 _ 1000000 v K.length (l.length - K.length) _ 53 3 E _ rfl (by simp -implicitDefEqProofs only[go_sem,hw,getD_map aC hlt,getD_map aC rP,aC]) (by simp -implicitDefEqProofs only[go_sem,hw,getD_map aC hlt,getD_map aC rP,aC]<;>rfl) rfl (by decide) rfl (by simp -implicitDefEqProofs only[go_sem,hw,getD_map aC hlt,getD_map aC rP,aC]<;>rfl) (by simp -implicitDefEqProofs only[go_sem,hw,getD_map aC hlt,getD_map aC rP,aC]) (by omega) (by omega) ?_; simp -implicitDefEqProofs only[go_sem,hw,getD_map aC hlt,getD_map aC rP,aC]; refine sv _ _ (mO 57 1000000 v 53 3 _ rfl rfl) (by simp -implicitDefEqProofs only[go_sem,hw,getD_map aC hlt,getD_map aC rP,aC]<;>rfl) ?_ ?_
    ·simp[yY]; omega
    simp -implicitDefEqProofs only[go_sem,hw,getD_map aC hlt,getD_map aC rP,aC]; exact⟨_,_,_,.inl rfl,rfl,by simp[yY]; omega,by rw[<-hx3]; exact hend⟩
  ·have hf:=abR hk1 hb; simp -implicitDefEqProofs only[go_sem,bq hlt (by omega),hw,getD_map aC hlt,getD_map aC rP,aC]; refine bJ (k+1) ⟨by omega,hlt,λi hi=>?_⟩ (by omega) bR; rcases Nat.lt_succ_iff_lt_or_eq.1 hi with h | h
   ·exact hk3 i h
   ·rw[h,hf]; rfl
 ·have:k=l.length:=by have:=of_decide_eq_false hc; omega
  subst this; simp -implicitDefEqProofs only[go_sem]; exact⟨_,_,0,rfl,rfl,Nat.le_refl _,by rw[List.take_length,abS l _ (Nat.le_refl _) hk3,List.take_length]⟩
end Go.Proofs.YtllicmcihlfajaaGreat
namespace Go.Proofs.YtllicmcihlfajaaGreat
open Go.cE
def leC (x y:aI):Bool:=decide (x.id<y.id\/x.id=y.id/\x.attr<=y.attr)
def od (x:aI):Prop:=-1000000<=x.id/\x.id<=1000000/\-1000000<=x.attr/\x.attr<=1000000
def gn (l:List aI):List aI:=kept (l.mergeSort leC) l.length
def kI (l:List aj) (m:List ak) (id:Int):Bool:=(l.any λn=>decide (n.id=id))||m.any λe=>decide (e.id=id)
def eB (a b:aj):Bool:=decide (a.id=b.id)&&(decide (a.type=b.type)&&decide (a.values=b.values))
def kY:List aj->List aj->Nat->Bool×List aj×Nat
 | l,[],v=>(true,l,v)
 | l,n :: r,v=>match l.findIdx? λm=>decide (m.id=n.id) with
  | none=>(false,l,v)
  | some i=>if eB (l.getD i default) n then kY (l.take i++l.drop (i+1)) r (v+1) else (false,l,v)
def rB (a b:ak):Bool:=decide (a.id=b.id)&&(decide (a.type=b.type)&&(decide (a.src=b.src)&&decide (a.dst=b.dst)))
def mW:List ak->List ak->Nat->Bool×List ak×Nat
 | l,[],v=>(true,l,v)
 | l,n :: r,v=>match l.findIdx? λm=>decide (m.id=n.id) with
  | none=>(false,l,v)
  | some i=>if rB (l.getD i default) n then mW (l.take i++l.drop (i+1)) r (v+1) else (false,l,v)
def okV (l:List Int) (v:aO):Bool:=!decide (v.attr<0)&&(!decide ((l.length:Int)<=v.attr)&&(decide (l.getD v.attr.toNat default=v.old) && !decide (v.new=v.old)))
def kZ:List aj->List aO->Bool×List aj
 | l,[]=>(true,l)
 | l,v :: r=>match l.findIdx? λm=>decide (m.id=v.id) with
  | none=>(false,l)
  | some i=>if okV (l.getD i default).values v then kZ (l.set i { l.getD i default with values:=(l.getD i default).values.set v.attr.toNat v.new }) r else (false,l)
def gr (l:List aj) (m:List ak) (p:aG):Bool:=(p.aQ.any λn=>kI l m n.id)||p.aM.any λe=>kI l m e.id
def kR (l:List aj):List aj:=l.mergeSort λx y=>decide (x.id<=y.id)
def nW (l:List ak):List ak:=l.mergeSort λx y=>decide (x.id<=y.id)
def ak1 {α:Type} [Inhabited α] (f:α->Int) (d:List α):Prop:=∀i j,i<d.length->j<d.length->f (d.getD i default)=f (d.getD j default)->i=j
def pS (a b:Int):Int:=if a<b then -1 else if a > b then 1 else 0
end Go.Proofs.YtllicmcihlfajaaGreat
namespace Go.cE
theorem awI (id:Nat) (env:Env) (i:Nat):ao7 id env i=kQ id (env i):=rfl
theorem awJ (id:Nat) (H:ay) (i:Nat):aad id H i=if i=id then ay8 (H i) else akF id (H i):=rfl
theorem azf (id:Nat) (x:PV):kQ id (.p x) = .p x:=by simp only[kQ]
theorem an3 (id i v:Nat):kQ id (.eC i v)=if i=id then .row i v else .eC i v:=by simp only[kQ]
theorem asv (id i v:Nat):kQ id (.row i v)=if i=id then .dead else .row i v:=by simp only[kQ]
theorem asw (id i o:Nat):kQ id (.ptr i o)=if i=id then .dead else .ptr i o:=by simp only[kQ]
theorem an4 (id:Nat):mT id []=[]:=by simp only[mT]
theorem ak2 (id:Nat) (a:AV) (r:List AV):mT id (a :: r)=kQ id a :: mT id r:=by simp only[mT]
theorem an5 (id:Nat) (c:Chunk):akF id (some c)=some (agZ id c):=rfl
theorem an6 (id:Nat):akF id none=none:=rfl
theorem asx (id:Nat) (cs:List AV):agZ id (.box cs) = .box (mT id cs):=rfl
theorem asy (id v:Nat) (e:TypeId) (sz:Nat) (es:List (List PV)):agZ id (.row v e sz es) = .row v e sz es:=rfl
theorem an7 (id v:Nat) (e:TypeId) (sz k:Nat) (e':TypeId) (sz':Nat) (es:List (List PV)):agZ id (.deep v e sz k e' sz' es) = .deep v e sz k e' sz' es:=rfl
theorem asz (v:Nat) (e:TypeId) (sz k:Nat) (e':TypeId) (sz':Nat) (es:List (List PV)):ay8 (some (.deep v e sz k e' sz' es))=some (.row v e sz es):=rfl
attribute [go_sem] awI awJ azf an3 asv asw an4 ak2 an5 an6 asx asy an7 asz /-! ### aEy with many rows -/
theorem an8 {H:ay} (id:Nat):ry H id 5=(H id=none/\ry H (id+1) 4):=rfl
theorem an9 {own:List Nat} {ops:Array Oper} (id:Nat):abP own ops id 5=(kO own ops id=false/\abP own ops (id+1) 4):=rfl
attribute [go_sem] an8 an9 /-! ### aG9 with nothing at high ids -/
def ak3 (n:Nat) (H:ay):Prop:=∀i,n<=i->H i=none
theorem azg (n:Nat):ak3 n b8:=λ_ _=>rfl
theorem abU {n i:Nat} {c:Chunk} {H:ay} (hi:i<n) (h:ak3 n H):ak3 n (bl H i c):=λj hj=>by unfold bl; rw[if_neg (by omega)]; exact h j hj
theorem ad5 {n s t:Nat} {H:ay} (hs:s<n) (ht:t<n) (h:ak3 n H):ak3 n (air s t H):=λj hj=>by unfold air sw; rw[if_neg (by omega),if_neg (by omega),h j hj]; rfl
theorem awK {n id:Nat} {H:ay} (hi:id<n) (h:ak3 n H):ak3 n (aad id H):=λj hj=>by unfold aad; rw[if_neg (by omega),h j hj]; rfl
theorem keepTop {H H':ay} (h:ak3 1000003 H) (h0:H 1000000=none) (h1:H 1000001=none) (h2:H 1000002=none):lu H H':=λi hi hn=>by
 rcases Nat.lt_or_ge i 1000003 with h3 | h3
 ·have:i=1000000\/i=1000001\/i=1000002:=by omega
  rcases this with rfl | rfl | rfl
  ·exact absurd h0 hn
  ·exact absurd h1 hn
  ·exact absurd h2 hn
 ·exact absurd (h i h3) hn
end Go.cE
namespace Go.cE
open Go.RowKit
variable {P:Program} {I:Mem} {L:bt}
theorem awL (a b c d e f:PV):iu [a,b,c,d,e,f]=ct (ct (ct (ct (ct (ct fA 0 (.p a)) 1 (.p b)) 2 (.p c)) 3 (.p d)) 4 (.p e)) 5 (.p f):=by funext t; unfold iu ct fA; rcases t with _ | _ | _ | _ | _ | _ | t<;>simp
theorem awM (a b c d e f g:PV):iu [a,b,c,d,e,f,g]=ct (ct (ct (ct (ct (ct (ct fA 0 (.p a)) 1 (.p b)) 2 (.p c)) 3 (.p d)) 4 (.p e)) 5 (.p f)) 6 (.p g):=by funext t; unfold iu ct fA; rcases t with _ | _ | _ | _ | _ | _ | _ | t<;>simp
attribute [go_sem] awL awM
theorem asA (op:BinOp) (t:TypeId) (h:pG P t=none) (cs ds:List PV):oM P op t (.p (.agg cs)) (.p (.agg ds))=none:=by unfold oM; rw[h]
theorem awN (d:Nat) {t e:TypeId} (hut:P.underlying t=some (.array 2 e)) (hue:P.underlying e=some (.int .i64)) (hsz:∀w,(sizeOf e).run P w = .ok 1 w) (a b c d':Int) (w:World):(Op.equalIn (d+2) t (.agg #[.int .i64 a,.int .i64 b]) (.agg #[.int .i64 c,.int .i64 d'])).run P w = .ok (decide (a=c)&&decide (b=d')) w:=by
 have hel:∀x y:Int,(Op.equalIn (d+1) e (.int .i64 x) (.int .i64 y)).run P w = .ok (decide (x=y)) w:=λx y=>by simp only[Op.equalIn,Sem.run_bind,run_underlying hue,Result.andThen_ok,if_true,Sem.run_pure]; try rfl
 have hp:∀ (k:Nat) (u:Value) (xs:Array Value),xs[k]? = some u->(part e xs k).run P w = .ok u w:=λk u xs hu=>by
  have:(isAgg e).run P w = .ok false w:=by unfold isAgg; rw[Sem.run_bind,run_underlying hue w]; rfl
  simp[part,this,hu]
 rw[show d+2=(d+1)+1 from rfl,Op.equalIn]; simp only[Sem.run_bind,run_underlying hut,Result.andThen_ok,hsz]; simp only[Std.Legacy.Range.forIn_eq_forIn_range',Std.Legacy.Range.size,List.range',List.forIn_cons,List.forIn_nil]; have h0:∀x y:Int,(part e #[.int .i64 x,.int .i64 y] (0 * 1)).run P w = .ok (.int .i64 x) w:=λx y=>hp _ _ _ rfl
 have h1:∀x y:Int,(part e #[.int .i64 x,.int .i64 y] ((0+1) * 1)).run P w = .ok (.int .i64 y) w:=λx y=>hp _ _ _ rfl
 simp only[Sem.run_bind,h0,h1,hel,Result.andThen_ok]; cases hA:decide (a=c)<;>cases hB:decide (b=d')<;>simp[h0,h1,hel,hA,hB]<;>simpa using hB
theorem awO {o:Oper} {W:Env->ay->Prop} {env:Env} {H:ay} {x y:Operand} {ty:TypeId} {a b c d:Int} (t e:TypeId) (hop:o.op = .binOp .eql t x y ty) (hut:P.underlying t=some (.array 2 e)) (hue:P.underlying e=some (.int .i64)) (hsz:bw P e=some 1) (hg:P.eqGuardType P.depth t=false)
  (hx:ev env x = .p (.agg [.val (.int .i64 a),.val (.int .i64 b)])) (hy:ev env y = .p (.agg [.val (.int .i64 c),.val (.int .i64 d)])) (hW:W (cA env o.dst (.p (.val (.bool (decide (a=c)&&decide (b=d)))))) H):iL P o W env H :=
 .inr (.inr (.inl ⟨_,H,hW,λC I L tm w σ hs hσ=>by
  have e0:execOp σ o=(do pure (.value (<- (do eqGuard .eql t x y (σ x) (σ y); binOp .eql t (σ x) (σ y)))):Sem Next):=by unfold execOp; rw[hop]
  rw[e0]; have g1:=hσ x; have g2:=hσ y; rw[hx] at g1; rw[hy] at g2; have two:∀ {u:Value} {m n:Int},dU I L u (.p (.agg [.val (.int .i64 m),.val (.int .i64 n)]))->u = .agg #[.int .i64 m,.int .i64 n]:=λ{u m n} h=>by
   cases h.mS with
   | agg us _ hl hv hone =>
    match us,hl with
    | [p,q],_=>have v0:=hv 0 p _ rfl rfl; have v1:=hv 1 q _ rfl rfl; cases v0; cases v1; rfl
  rw[two g1,two g2]; refine .iW (run_lift _) ⟨.bool (decide (a=c)&&decide (b=d)),?_,.p _ _ (.val _ rfl)⟩; rw[Sem.run_bind,run_eqGuard_agg w .eql t x y _ _ hg,Result.andThen_ok,run_eql_struct,show (10000:Nat)=9998+2 from rfl,awN 9998 hut hue (λw=>dw hsz w),Result.andThen_ok]⟩))
end Go.cE
namespace Go.Proofs.YtllicmcihlfajaaGreat
open Go.cE
attribute [go_sem] Nat.reduceEqDiff Nat.reduceLT Nat.reduceLeDiff Nat.reduceMul Nat.reduceAdd Nat.reduceBEq Nat.reduceSub Int.reduceToNat reduceIte reduceCtorEq yq List.cons_append List.nil_append /-! ### What a loop keeps -/
def ae5 (e:Env):List Nat->List (Nat×AV)->List (Nat×AV)
 | [],l=>l
 | t :: ts,l=>(t,e t) :: ae5 e ts l
theorem asB (e:Env) (l:List (Nat×AV)):ae5 e [] l=l:=rfl
theorem aoa (e:Env) (t:Nat) (ts:List Nat) (l:List (Nat×AV)):ae5 e (t :: ts) l=(t,e t) :: ae5 e ts l:=rfl
def bxl (cs:List AV):List (Nat×AV)->List AV
 | []=>cs
 | (j,v) :: r=>bxl (cs.set j v) r
def bx (c:Option Chunk) (l:List (Nat×AV)):Chunk:=match c with
 | some (.box cs)=>.box (bxl cs l)
 | _=>.box []
def chG:Option Chunk->Chunk
 | some c=>c
 | none=>.box []
def aaP (H:ay):List Nat->List (Nat×Chunk)->List (Nat×Chunk)
 | [],l=>l
 | t :: ts,l=>(t,chG (H t)) :: aaP H ts l
theorem aob (H:ay) (l:List (Nat×Chunk)):aaP H [] l=l:=rfl
theorem ak4 (H:ay) (t:Nat) (ts:List Nat) (l:List (Nat×Chunk)):aaP H (t :: ts) l=(t,chG (H t)) :: aaP H ts l:=rfl
theorem azh (cs:List AV) (l:List (Nat×AV)):bx (some (.box cs)) l = .box (bxl cs l):=rfl
theorem azi (cs:List AV):bxl cs []=cs:=rfl
theorem awP (cs:List AV) (j:Nat) (v:AV) (r:List (Nat×AV)):bxl cs ((j,v) :: r)=bxl (cs.set j v) r:=rfl
theorem awQ (c:Chunk):chG (some c)=c:=rfl
theorem aCp (x:PV):(RV.p x).pv=x:=rfl
theorem azj (e:TypeId) (sz:Nat) (es:List (List PV)):(RV.row e sz es).pv = .aU es:=rfl
theorem azk (rs:List RV):(RV.agg rs).pv = .agg (RV.pvL rs):=rfl
theorem azl (rs:List RV):(RV.dB rs).pv = .dB (RV.pvL rs):=rfl
theorem awR:RV.pvL []=[]:=rfl
theorem asC (r:RV) (rs:List RV):RV.pvL (r :: rs)=r.pv :: RV.pvL rs:=rfl
attribute [go_sem] asB aoa aob ak4 azh azi awP awQ aCp azj azk azl awR asC /-! ### Steps: F is what is known,h what the function answers -/
section
variable {α β R:Type} {p q F:Prop} {r:R} {P:Program} {k:FuncId} {ps:List PV}
theorem zV (z:q) (e:q->p:=by intro Z; (try simp -implicitDefEqProofs only[go_sem,F]); exact Z):p:=e z
theorem zX (e:q->p:=by intro Z; (try simp -implicitDefEqProofs only[go_sem,F]); exact Z) (z:q):p:=e z
theorem zF {A:Prop} (a:A) (f:F) (z:F/\A->p):p:=z ⟨f,a⟩
theorem zC {A:Prop} [Decidable A] {x:Option R} (f:F) (h:cU A x=some r) (z:F/\A->x=some r->p):p:=z ⟨f,(avG h).1⟩ (avG h).2
theorem zI {l:List α} {i:Nat} {g:α->Option R} (E:α->List PV) (f:F) (h:thn l[i]? g=some r) (z:∀x,F/\i<l.length/\(l.map E).getD i []=E x->g x=some r->p):p:=by obtain⟨x,a,b,_,d⟩:=azT E h; exact z x ⟨f,a,b⟩ d
theorem zJ {l:List α} {i:Nat} {g:α->Option R} (j:Int) (E:α->List PV) (f:F) (h:thn l[i]? g=some r) (z:∀x,F/\(i<l.length/\j<((l.length:Nat):Int)/\0<=j)/\(l.map E).getD i []=E x->g x=some r->p) (hj:j=(i:Int):=by rfl):p:=by obtain⟨x,a,b,_,d⟩:=azT E h; exact z x ⟨f,⟨a,by omega,by omega⟩,b⟩ d
theorem zA {l:List α} {i:Int} {g:α->Option R} (E:α->List PV) (f:F) (h:thn (oI l i) g=some r) (z:∀x,F/\(0<=i/\i<((l.length:Nat):Int)/\i.toNat<l.length)/\(l.map E).getD i.toNat []=E x->g x=some r->p):p:=by obtain⟨x,a,b,c,_,d⟩:=azU E h; exact z x ⟨f,⟨a,b,toNat_lt a b⟩,c⟩ d
theorem zAq {l:List α} {i:Int} {g:α->Option R} (E:α->List PV) (f:F) (h:thn (oI l i) g=some r) (z:∀x,oI l i=some x->F/\(0<=i/\i<((l.length:Nat):Int)/\i.toNat<l.length)/\(l.map E).getD i.toNat []=E x->g x=some r->p):p:=by obtain⟨x,a,b,c,q,d⟩:=azU E h; exact z x q ⟨f,⟨a,b,toNat_lt a b⟩,c⟩ d
theorem zU {o:Option α} {e:α} {g:α->Option R} (q:o=some e) (h:thn o g=some r) (z:g e=some r->p):p:=by subst q; exact z h
theorem zB {b:Bool} {x y:Option R} {q1 q2:Prop} (f:F) (h:cond b x y=some r) (t:F/\b=true->x=some r->q1) (u:F/\b=false->y=some r->q2)
  (e:(b=true->q1)->(b=false->q2)->p:=by intro A B; (try simp -implicitDefEqProofs only[go_sem,F]); exact aL A B):p :=
 e (λhb=>t ⟨f,hb⟩ (yx h hb)) λhb=>u ⟨f,hb⟩ (acP h hb)
theorem kS {b:Bool} {x y:Option R} {q1 q2:Prop} (f:F) (h:cond b x y=some r) (t:F/\b=true->x=some r->q1) (u:F/\b=false->y=some r->q2)
  (e:(b=true->q1)->(b=false->q2)->p:=by intro A B; (try simp -implicitDefEqProofs only[go_sem,F]); exact aX A B):p :=
 e (λhb=>t ⟨f,hb⟩ (yx h hb)) λhb=>u ⟨f,hb⟩ (acP h hb)
theorem nN {b:Bool} {x y:Option R} {q1 q2:Prop} (f:F) (h:cond b x y=some r) (t:F/\b=true->x=some r->q1) (u:F/\b=false->y=some r->q2)
  (e:(b=true->q1)->(b=false->q2)->p:=by intro A B; (try simp -implicitDefEqProofs only[go_sem,F]); exact bK A B):p :=
 e (λhb=>t ⟨f,hb⟩ (yx h hb)) λhb=>u ⟨f,hb⟩ (acP h hb)
theorem sD {b:Bool} {x y:Option R} {q1 q2:Prop} (f:F) (h:cond b x y=some r) (t:F/\b=true->x=some r->q1) (u:F/\b=false->y=some r->q2)
  (e:(b=true->q1)->(b=false->q2)->p:=by intro A B; (try simp -implicitDefEqProofs only[go_sem,F]); exact bO A B):p :=
 e (λhb=>t ⟨f,hb⟩ (yx h hb)) λhb=>u ⟨f,hb⟩ (acP h hb)
theorem zBd {b:Bool} {x y:Option R} {q1 q2:Prop} (f:F) (h:cond b x y=some r) (t:F/\b=true->x=some r->q1) (u:F/\b=false->y=some r->q2)
  (e:(b=true->q1)->(b=false->q2)->p:=by intro A B; (try simp -implicitDefEqProofs only[go_sem,F]); exact nJ A B):p :=
 e (λhb=>t ⟨f,hb⟩ (yx h hb)) λhb=>u ⟨f,hb⟩ (acP h hb)
theorem ak5 {b:Bool} {x y:Option R} {q1 q2:Prop} (f:F) (h:cond b x y=some r) (t:F/\b=true->x=some r->q1) (u:F/\b=false->y=some r->q2)
  (e:(b=true->q1)->(b=false->q2)->p:=by intro A B; (try simp -implicitDefEqProofs only[go_sem,F]); exact ov A B):p :=
 e (λhb=>t ⟨f,hb⟩ (yx h hb)) λhb=>u ⟨f,hb⟩ (acP h hb)
def Hint {α:Type} (_:α):Prop:=True
theorem azm {x:PV} {env:Env} {H:ay} {o:Oper} {W:Env->ay->Prop} {ps':List PV} {b:Bool} {ids:List Nat} (_:Hint ids) (c:aS P k ps λr=>r=x) (he:jF o (ev env) (cO ids H)=some (k,ps',b)) (hp:pq ps' ps) (hb:b=true->x.scalar=true) (hW:W (cA env o.dst (.p x)) (cO ids H)):iL P o W env H:=aAM ids c he hp hb hW
theorem azn {env:Env} {H:ay} {o:Oper} {W:Env->ay->Prop} {ps':List PV} {b:Bool} {id:Nat} (_:Hint id) {x:RV} (c:bu P k ps λv=>v=x) (he:jF o (ev env) H=some (k,ps',b)) (hp:pq ps' ps) (hb:b=true->x.flat=true) (hf:ry H id ((cF id x).2 - id)) (hW:W (cA env o.dst (cF id x).1) (fR id H x)):iL P o W env H:=aAL id c he hp hb hf hW
theorem awS {env:Env} {H:ay} {o:Oper} {W:Env->ay->Prop} {ps':List PV} {b:Bool} {ids:List Nat} {id:Nat} (_:Hint (ids,id)) {x:RV} (c:bu P k ps λv=>v=x) (he:jF o (ev env) (cO ids H)=some (k,ps',b)) (hp:pq ps' ps) (hb:b=true->x.flat=true) (hf:ry (cO ids H) id ((cF id x).2 - id)) (hW:W (cA env o.dst (cF id x).1) (fR id (cO ids H) x)):iL P o W env H:=ay3 ids id c he hp hb hf hW
theorem awT {own:List Nat} {ops:Array Oper} {env:Env} {H:ay} {o:Oper} {W:Env->ay->Prop} {ps':List PV} {b:Bool} {id:Nat} (_:Hint id) {x:RV} (c:bu P k ps λv=>v=x) (he:jF o (ev env) (ou own ops H)=some (k,ps',b)) (hp:pq ps' ps) (hb:b=true->x.flat=true) (hf:ry H id ((cF id x).2 - id)) (hn:abP own ops id ((cF id x).2 - id)) (hW:W (cA env o.dst (cF id x).1) (fR id H x)):aeE P own ops o W env H:=ad4 id c he hp hb hf hn hW
theorem zK {X:α->PV} {o:Option α} {g:α->Option R} {q:α->Prop} (f:F) (h:thn o g=some r) (c:∀x,o=some x->aS P k ps λv=>v=X x) (z:∀x,g x=some r->q x)
  (e:∀x,(aS P k ps λv=>v=X x)->q x->p:=by intro x C Z; (try simp -implicitDefEqProofs only[go_sem,F]); exact aoZ C (by simp -implicitDefEqProofs only[go_sem,F]<;>rfl) (by first | exact gJ _ | (simp -implicitDefEqProofs only[go_sem,F]<;>rfl)) (by first | exact yo | exact bY rfl) Z):p:=by
 obtain⟨x,h1,h2⟩:=nx h; exact e x (c x h1) (z x h2)
theorem uC {X:α->PV} {o:Option α} {g:α->Option R} {q:α->Prop} (f:F) (h:thn o g=some r) (c:∀x,o=some x->aS P k ps λv=>v=X x) (z:∀x,g x=some r->q x)
  (e:∀x,(aS P k ps λv=>v=X x)->q x->p:=by intro x C Z; (try simp -implicitDefEqProofs only[go_sem,F]); exact anr C (by simp -implicitDefEqProofs only[go_sem,F]<;>rfl) (by first | exact gJ _ | (simp -implicitDefEqProofs only[go_sem,F]<;>rfl)) (by first | exact yo | exact bY rfl) Z):p:=by
 obtain⟨x,h1,h2⟩:=nx h; exact e x (c x h1) (z x h2)
theorem xP {X:α->RV} {o:Option α} {g:α->Option R} {q:α->Prop} (f:F) (h:thn o g=some r) (c:∀x,o=some x->bu P k ps λv=>v=X x) (z:∀x,g x=some r->q x)
  (e:∀x,(aS P k ps λv=>v=(X x).pv)->q x->p:=by intro x C Z; (try simp -implicitDefEqProofs only[go_sem,F]); exact anr C (by simp -implicitDefEqProofs only[go_sem,F]<;>rfl) (by first | exact gJ _ | (simp -implicitDefEqProofs only[go_sem,F]<;>rfl)) (by first | exact yo | exact bY rfl) Z):p:=by
 obtain⟨x,h1,h2⟩:=nx h; exact e x ((c x h1).aAi) (z x h2)
theorem zKs {X:α->PV} {o:Option α} {g:α->Option R} {q:α->Prop} (id:List Nat) (f:F) (h:thn o g=some r) (c:∀x,o=some x->aS P k ps λv=>v=X x) (z:∀x,g x=some r->q x)
  (e:∀x,Hint id->(aS P k ps λv=>v=X x)->q x->p:=by intro x I C Z; (try simp -implicitDefEqProofs only[go_sem,F]); exact azm I C (by simp -implicitDefEqProofs only[go_sem,F]<;>rfl) (by first | exact gJ _ | (simp -implicitDefEqProofs only[go_sem,F]<;>rfl)) (by first | exact yo | exact bY rfl) Z):p:=by
 obtain⟨x,h1,h2⟩:=nx h; exact e x trivial (c x h1) (z x h2)
theorem zG {X:α->RV} {o:Option α} {g:α->Option R} {q:α->Prop} (id:Nat) (f:F) (h:thn o g=some r) (c:∀x,o=some x->bu P k ps λv=>v=X x) (z:∀x,g x=some r->q x)
  (e:∀x,Hint id->(bu P k ps λv=>v=X x)->q x->p:=by intro x I C Z; (try simp -implicitDefEqProofs only[go_sem,F]); exact azn I C (by simp -implicitDefEqProofs only[go_sem,F]<;>rfl) (by first | exact gJ _ | (simp -implicitDefEqProofs only[go_sem,F]<;>rfl)) (by first | exact yp | exact agG rfl | exact agG (by simp[RV.flat,RV.zZ,PV.scalar,isVal,go_sem])) (by simp -implicitDefEqProofs only[go_sem,F]) Z):p:=by
 obtain⟨x,h1,h2⟩:=nx h; exact e x trivial (c x h1) (z x h2)
theorem zH {X:α->RV} {o:Option α} {g:α->Option R} {q:α->Prop} (id:Nat) (f:F) (h:thn o g=some r) (c:∀x,o=some x->bu P k ps λv=>v=X x) (z:∀x,g x=some r->q x)
  (e:∀x,Hint id->(bu P k ps λv=>v=X x)->q x->p:=by intro x I C Z; (try simp -implicitDefEqProofs only[go_sem,F]); exact awT I C (by simp -implicitDefEqProofs only[go_sem,F]<;>rfl) (by first | exact gJ _ | (simp -implicitDefEqProofs only[go_sem,F]<;>rfl)) (by first | exact yp | exact agG rfl | exact agG (by simp[RV.flat,RV.zZ,PV.scalar,isVal,go_sem])) (by simp -implicitDefEqProofs only[go_sem,F]) (by simp -implicitDefEqProofs only[go_sem,F]) Z):p:=by
 obtain⟨x,h1,h2⟩:=nx h; exact e x trivial (c x h1) (z x h2)
theorem zGs {X:α->RV} {o:Option α} {g:α->Option R} {q:α->Prop} (id:List Nat×Nat) (f:F) (h:thn o g=some r) (c:∀x,o=some x->bu P k ps λv=>v=X x) (z:∀x,g x=some r->q x)
  (e:∀x,Hint id->(bu P k ps λv=>v=X x)->q x->p:=by intro x I C Z; (try simp -implicitDefEqProofs only[go_sem,F]); exact awS I C (by simp -implicitDefEqProofs only[go_sem,F]<;>rfl) (by first | exact gJ _ | (simp -implicitDefEqProofs only[go_sem,F]<;>rfl)) (by first | exact yp | exact agG rfl | exact agG (by simp[RV.flat,RV.zZ,PV.scalar,isVal,go_sem])) (by simp -implicitDefEqProofs only[go_sem,F]) Z):p:=by
 obtain⟨x,h1,h2⟩:=nx h; exact e x trivial (c x h1) (z x h2)
theorem zP {X:α->PV} {o:Option α} {g:α->Option R} {q:α->Prop} (f:F) (h:thn o g=some r) (c:∀x,o=some x->aS P k ps λv=>v=X x) (z:∀x,g x=some r->q x)
  (e:∀x,(aS P k ps λv=>v=X x)->q x->p:=by intro x C Z; (try simp -implicitDefEqProofs only[go_sem,F]); exact aoZ C (by simp -implicitDefEqProofs only[go_sem,F,jw,jv,Bool.or_false,Bool.false_or]<;>rfl) (gJ _) (by first | exact yo | exact bY rfl) Z):p:=by
 obtain⟨x,h1,h2⟩:=nx h; exact e x (c x h1) (z x h2)
theorem zPd {X:α->PV} {o:Option α} {g:α->Option R} {q:α->Prop} (f:F) (h:thn o g=some r) (c:∀x,o=some x->aS P k ps λv=>v=X x) (z:∀x,g x=some r->q x)
  (e:∀x,(aS P k ps λv=>v=X x)->q x->p:=by intro x C Z; (try simp -implicitDefEqProofs only[go_sem,F]); exact anr C (by simp -implicitDefEqProofs only[go_sem,F,jw,jv,Bool.or_false,Bool.false_or]<;>rfl) (gJ _) (by first | exact yo | exact bY rfl) Z):p:=by
 obtain⟨x,h1,h2⟩:=nx h; exact e x (c x h1) (z x h2)
theorem zMb {v sz:Nat} {e:TypeId} {es:List (List PV)} {X:α->List (List PV)} {o:Option α} {g:α->Option R} {q:α->Prop} (f:F) (h:thn o g=some r) (c:∀x,o=some x->j5 P k v e sz (es) ps λa c=>a = .row 1000000 (v+1)/\c=some (.row (v+1) e sz (X x))) (z:∀x,g x=some r->q x)
  (e:∀x,(j5 P k v e sz (es) ps λa c=>a = .row 1000000 (v+1)/\c=some (.row (v+1) e sz (X x)))->q x->p:=by intro x C Z; (try simp -implicitDefEqProofs only[go_sem,F]); exact vt C (by simp -implicitDefEqProofs only[go_sem,F]<;>rfl) (by simp -implicitDefEqProofs only[go_sem,F]<;>rfl) (by simp -implicitDefEqProofs only[go_sem,F]<;>rfl) (by first | exact λh=>by cases h | exact λ_=>ayZ (λ_=>rfl) _) Z):p:=by
 obtain⟨x,h1,h2⟩:=nx h; exact e x (c x h1) (z x h2)
theorem aCq {N:Nat} {own:List Nat} {K:Env->ay->Prop} {env:Env} {H:ay} {l:List Oper} {cs:List og} (_:Hint cs) (hok:abz N own l.toArray (masks l.toArray) cs=true) (hw:fJ P N own l.toArray (l.zip cs) K env H):xd P N own l.toArray K env H:=cV cs hok hw
theorem aCr {N:Nat} {own:List Nat} {K:Env->ay->Prop} {env:Env} {H:ay} {l:List Oper} {pc:List (Nat×og)} (_:Hint pc) (hok:amM N own l pc=true) (hw:fJ P N own l.toArray (xe l pc) K env H):xd P N own l.toArray K env H:=ah8 pc hok hw
theorem zD (cs:List og) (z:q) (e:Hint cs->q->p:=by intro I Z; (try simp -implicitDefEqProofs only[go_sem,F]); exact aCq I (by kernel_rfl) Z):p:=e trivial z
theorem zE (pc:List (Nat×og)) (z:q) (e:Hint pc->q->p:=by intro I Z; (try simp -implicitDefEqProofs only[go_sem,F]); exact aCr I (by kernel_rfl) Z):p:=e trivial z
theorem zR {A:Prop} (h:A) (e:A->p:=by intro h; cases h; (try simp -implicitDefEqProofs only[go_sem,F]); all_goals(and_intros<;>first | rfl | omega)):p:=e h
theorem k9 {A:Prop} (h:A) (e:A->p:=by intro h; cases h; (try simp -implicitDefEqProofs only[go_sem,F]); refine⟨by decide,_,.refl _,?_⟩; simp -implicitDefEqProofs only[go_sem,F]<;>and_intros<;>rfl):p:=e h
theorem zW {e:Env} {H:ay} {l:List (Nat×AV)} {hl:List (Nat×Chunk)} (h:anv e l/\aaK H hl/\anw (b7 hl) l/\xE (b7 hl) hl/\lu H (b7 hl):=by simp -implicitDefEqProofs only[go_sem,F]<;>and_intros<;>rfl):dP e H (qF l) (b7 hl):=yy h
end
section
variable {P:Program} {N:Nat} {own:List Nat} {σ γ O:Type} {c:Code} {K:pJ} {env:Env} {H:ay} {Kf:σ->Option O} {r:O} {F:Prop}
theorem zL {f:σ->(σ->Option O)->(σ->Option O)->Option O} {n:Nat} {s:σ} {L:σ×γ->List (Nat×AV)} {M:σ×γ->List (Nat×Chunk)} (fF:F) (h:iter f n s Kf=some r) (g0:γ) (ts:List Nat) (de:σ×γ->List (Nat×AV)) (is:List Nat) (dh:σ×γ->ay->List (Nat×Chunk))
  (hr:∀s g (cv:σ->Option O) (R:Env->ay->Prop),F->(∀s' g' {e H},cv s'=some r->dP e H (qF (L (s',g'))) (b7 (M (s',g')))->R e H)->f s cv Kf=some r->cw P N own c (tv R K) (qF (L (s,g))) (b7 (M (s,g))))
  (e1:∀x,ae5 env ts (de x)=L x:=by intro x; (try simp -implicitDefEqProofs only[go_sem,F]); exact rfl) (e2:∀x,aaP H is (dh x H)=M x:=by intro x; (try simp -implicitDefEqProofs only[go_sem,F]); exact rfl)
  (hw:dP env H (qF (L (s,g0))) (b7 (M (s,g0))):=by exact yy (by simp -implicitDefEqProofs only[go_sem,F]<;>and_intros<;>rfl)):abu P N own c K env H :=
 ay0 (λx=>qF (L x)) (λx=>b7 (M x)) g0 h hw λs g cv R hN h=>hr s g cv R fF hN h
theorem zN {f:Nat->σ->(σ->Option O)->(σ->Option O)->Option O} {n i:Nat} {s:σ} {L:(Nat×σ)×γ->List (Nat×AV)} {M:(Nat×σ)×γ->List (Nat×Chunk)} (fF:F) (h:cU (n<=fuel) (bP f (n - i) i s Kf)=some r) (g0:γ) (ts:List Nat) (de:(Nat×σ)×γ->List (Nat×AV)) (is:List Nat) (dh:(Nat×σ)×γ->ay->List (Nat×Chunk))
  (hr:∀j s g (cv:σ->Option O) (R:Env->ay->Prop),F/\(j<n/\n<=4611686018427387904)/\IntKind.i64.wrap ((j:Int)+1)=((j+1:Nat):Int)->(∀s' g' {e H},cv s'=some r->dP e H (qF (L ((j+1,s'),g'))) (b7 (M ((j+1,s'),g')))->R e H)->f j s cv Kf=some r->cw P N own c (tv R K) (qF (L ((j,s),g))) (b7 (M ((j,s),g))))
  (he:∀j s g (R:Env->ay->Prop),F/\¬ j<n->Kf s=some r->cw P N own c (tv R K) (qF (L ((j,s),g))) (b7 (M ((j,s),g))))
  (e1:∀x,ae5 env ts (de x)=L x:=by intro x; (try simp -implicitDefEqProofs only[go_sem,F]); exact rfl) (e2:∀x,aaP H is (dh x H)=M x:=by intro x; (try simp -implicitDefEqProofs only[go_sem,F]); exact rfl)
  (hw:dP env H (qF (L ((i,s),g0))) (b7 (M ((i,s),g0))):=by exact yy (by simp -implicitDefEqProofs only[go_sem,F]<;>and_intros<;>rfl)):abu P N own c K env H:=by
 obtain⟨hf,h⟩:=avG h; unfold fuel at hf; exact ay1 (λx=>qF (L x)) (λx=>b7 (M x)) g0 h hw (λj s g cv R hj hN h=>hr j s g cv R ⟨fF,⟨hj,hf⟩,bq hj hf⟩ hN h) λj s g R hj h=>he j s g R ⟨fF,by omega⟩ h
theorem zQ (b:Int) {m:Nat} {f:Nat->σ->(σ->Option O)->(σ->Option O)->Option O} {i:Nat} {s:σ} {L:(Nat×σ)×γ->List (Nat×AV)} {M:(Nat×σ)×γ->List (Nat×Chunk)} (fF:F) (h:cU (m<=fuel) (bP f (m - i) i s Kf)=some r) (g0:γ) (ts:List Nat) (de:(Nat×σ)×γ->List (Nat×AV)) (is:List Nat) (dh:(Nat×σ)×γ->ay->List (Nat×Chunk))
  (hr:∀ (j:Nat) s g (cv:σ->Option O) (R:Env->ay->Prop),F/\((j:Int)<b/\j<m/\m<=4611686018427387904)/\IntKind.i64.wrap ((j:Int)+1)=((j+1:Nat):Int)->(∀s' g' {e H},cv s'=some r->dP e H (qF (L ((j+1,s'),g'))) (b7 (M ((j+1,s'),g')))->R e H)->f j s cv Kf=some r->cw P N own c (tv R K) (qF (L ((j,s),g))) (b7 (M ((j,s),g))))
  (he:∀ (j:Nat) s g (R:Env->ay->Prop),F/\¬ (j:Int)<b->Kf s=some r->cw P N own c (tv R K) (qF (L ((j,s),g))) (b7 (M ((j,s),g))))
  (hb:b=(m:Int):=by rfl) (e1:∀x,ae5 env ts (de x)=L x:=by intro x; (try simp -implicitDefEqProofs only[go_sem,F]); exact rfl) (e2:∀x,aaP H is (dh x H)=M x:=by intro x; (try simp -implicitDefEqProofs only[go_sem,F]); exact rfl)
  (hw:dP env H (qF (L ((i,s),g0))) (b7 (M ((i,s),g0))):=by exact yy (by simp -implicitDefEqProofs only[go_sem,F]<;>and_intros<;>rfl)):abu P N own c K env H :=
 zN fF h g0 ts de is dh (λj s g cv R h=>hr j s g cv R ⟨h.1,⟨by omega,h.2.1⟩,h.2.2⟩) (λj s g R h=>he j s g R ⟨h.1,by omega⟩) e1 e2 hw
end
end Go.Proofs.YtllicmcihlfajaaGreat
set_option maxRecDepth 20000
namespace Go.Proofs.YtllicmcihlfajaaGreat
open Go.cE
attribute [go_sem] yq List.cons_append List.nil_append bf aK encI bh aJ b9 cG aB ah ag aH aA
noncomputable section
def dK (a0:List aj) (p1:aj->aj->Option Int):Option Bool :=
 cU (a0.length<=fuel) <|
 bP (λi8 (s8:Unit) tC abV =>
  thn (oI a0 (IntKind.i64.wrap (((i8:Nat):Int) - 1))) λe2 =>
  thn (a0[i8]?) λe3 =>
  thn (p1 e2 e3) λr4 =>
  cond (decide (0<=r4)) (
   some false) <|
  tC ())
 (a0.length - 1) 1 () λs8 =>
 some true
theorem lY (a0:List aj) (p1:aj->aj->Option Int) (k1:FuncId) (fs1 cs1:List PV) (hp1:∀x0 x1 r,p1 x0 x1=some r->aS Tryz.prog k1 (fs1++[.agg (ag x0),.agg (ag x1)]++cs1) (λv=>v = .val (.int .i64 r))) (r:Bool) (h:dK a0 p1=some r):aS Tryz.prog 203 [.aU (a0.map ag),.gR (.func k1) fs1 cs1] (λv=>v = .val (.bool r)):=by
 refine aS.kP ?_; refine aR [] func203 ?_; rw[ntmps203,results203]; unfold dK at h; have F:=trivial; refine zV ?_; refine zN F h () [0,1] (λx=>[(5,.p (.val (.int .i64 ((x.1.1:Nat):Int))))]) [] (λx H=>[]) ?_ ?_
 ·intro i8 s8 g8 _ _ F Ns8 h; try dsimp only at h
  refine zD [.q,.q,.q,.q,.q,.q,.q,.q,.q,.q,.q,.q] ?_; refine zA ag F h λe2 F h=>?_
  refine zI ag F h λe3 F h=>?_
  refine zPd F h (hp1 _ _) λr4 h=>?_
  refine zB F h (λF h=>?_) λF h=>?_
  ·exact zR h
  ·exact zX (z:=Ns8 _ () h zW)
 ·intro i8 s8 g8 _ F h; try dsimp only at h
  exact zR h
def iM (a0:Int):Option Bool:=some (!(decide (a0=a0)))
theorem xm (a0:Int) (r:Bool) (h:iM a0=some r):aS Tryz.prog 263 [.val (.int .i64 a0)] (λv=>v = .val (.bool r)):=by refine aS.kP ?_; refine aR [] func263 ?_; rw[ntmps263,results263]; unfold iM at h; have F:=trivial; exact zR h
def gH (a0:Int) (a1:Int):Option Int :=
 thn (iM a0) λr2 =>
 thn (iM a1) λr3 =>
 cond r2 (
  cond r3 (
   some 0) <|
  some (-1)) <|
 cond r3 (
  some 1) <|
 cond (decide (a0<a1)) (
  some (-1)) <|
 cond (decide (a1<a0)) (
  some 1) <|
 some 0
theorem mX (a0:Int) (a1:Int) (r:Int) (h:gH a0 a1=some r):aS Tryz.prog 240 [.val (.int .i64 a0),.val (.int .i64 a1)] (λv=>v = .val (.int .i64 r)):=by
 refine aS.kP ?_; refine aR [] func240 ?_; rw[ntmps240,results240]; unfold gH at h; have F:=trivial; refine zK F h (xm _) λr2 h=>?_
 refine zK F h (xm _) λr3 h=>?_
 refine zB F h (λF h=>?_) λF h=>?_
 ·refine zB F h (λF h=>?_) λF h=>?_
  ·exact zR h
  ·exact zR h
 ·refine zB F h (λF h=>?_) λF h=>?_
  ·exact zR h
  ·refine zB F h (λF h=>?_) λF h=>?_
   ·exact zR h
   ·refine zB F h (λF h=>?_) λF h=>?_
    ·exact zR h
    ·exact zR h
def gb (a0:aj) (a1:aj):Option Int :=
 thn (gH a0.id a1.id) λr2 =>
 some r2
theorem vz (a0:aj) (a1:aj) (r:Int) (h:gb a0 a1=some r):aS Tryz.prog 204 [.agg (ag a0),.agg (ag a1)] (λv=>v = .val (.int .i64 r)):=by
 refine aS.kP ?_; refine aR [] func204 ?_; rw[ntmps204,results204]; unfold gb at h; have F:=trivial; refine zK F h (mX _ _) λr2 h=>?_
 exact zR h
def dL (a0:List ak) (p1:ak->ak->Option Int):Option Bool :=
 cU (a0.length<=fuel) <|
 bP (λi2 (s2:Unit) c8 jm =>
  thn (oI a0 (IntKind.i64.wrap (((i2:Nat):Int) - 1))) λe3 =>
  thn (a0[i2]?) λe4 =>
  thn (p1 e3 e4) λr5 =>
  cond (decide (0<=r5)) (
   some false) <|
  c8 ())
 (a0.length - 1) 1 () λs2 =>
 some true
theorem lZ (a0:List ak) (p1:ak->ak->Option Int) (k1:FuncId) (fs1 cs1:List PV) (hp1:∀x0 x1 r,p1 x0 x1=some r->aS Tryz.prog k1 (fs1++[.agg (ah x0),.agg (ah x1)]++cs1) (λv=>v = .val (.int .i64 r))) (r:Bool) (h:dL a0 p1=some r):aS Tryz.prog 205 [.aU (a0.map ah),.gR (.func k1) fs1 cs1] (λv=>v = .val (.bool r)):=by
 refine aS.kP ?_; refine aR [] func205 ?_; rw[ntmps205,results205]; unfold dL at h; have F:=trivial; refine zV ?_; refine zN F h () [0,1] (λx=>[(5,.p (.val (.int .i64 ((x.1.1:Nat):Int))))]) [] (λx H=>[]) ?_ ?_
 ·intro i2 s2 g2 _ _ F nk h; try dsimp only at h
  refine zD [.q,.q,.q,.q,.q,.q,.q,.q,.q,.q,.q,.q] ?_; refine zA ah F h λe3 F h=>?_
  refine zI ah F h λe4 F h=>?_
  refine zPd F h (hp1 _ _) λr5 h=>?_
  refine zB F h (λF h=>?_) λF h=>?_
  ·exact zR h
  ·exact zX (z:=nk _ () h zW)
 ·intro i2 s2 g2 _ F h; try dsimp only at h
  exact zR h
def gd (a0:ak) (a1:ak):Option Int :=
 thn (gH a0.id a1.id) λr2 =>
 some r2
theorem vA (a0:ak) (a1:ak) (r:Int) (h:gd a0 a1=some r):aS Tryz.prog 206 [.agg (ah a0),.agg (ah a1)] (λv=>v = .val (.int .i64 r)):=by
 refine aS.kP ?_; refine aR [] func206 ?_; rw[ntmps206,results206]; unfold gd at h; have F:=trivial; refine zK F h (mX _ _) λr2 h=>?_
 exact zR h
def eG (a0:List aO) (p1:aO->aO->Option Int):Option Bool :=
 cU (a0.length<=fuel) <|
 bP (λi2 (s2:Unit) c8 jm =>
  thn (oI a0 (IntKind.i64.wrap (((i2:Nat):Int) - 1))) λe3 =>
  thn (a0[i2]?) λe4 =>
  thn (p1 e3 e4) λr5 =>
  cond (decide (0<=r5)) (
   some false) <|
  c8 ())
 (a0.length - 1) 1 () λs2 =>
 some true
theorem qJ (a0:List aO) (p1:aO->aO->Option Int) (k1:FuncId) (fs1 cs1:List PV) (hp1:∀x0 x1 r,p1 x0 x1=some r->aS Tryz.prog k1 (fs1++[.agg (aH x0),.agg (aH x1)]++cs1) (λv=>v = .val (.int .i64 r))) (r:Bool) (h:eG a0 p1=some r):aS Tryz.prog 207 [.aU (a0.map aH),.gR (.func k1) fs1 cs1] (λv=>v = .val (.bool r)):=by
 refine aS.kP ?_; refine aR [] func207 ?_; rw[ntmps207,results207]; unfold eG at h; have F:=trivial; refine zV ?_; refine zN F h () [0,1] (λx=>[(5,.p (.val (.int .i64 ((x.1.1:Nat):Int))))]) [] (λx H=>[]) ?_ ?_
 ·intro i2 s2 g2 _ _ F nk h; try dsimp only at h
  refine zD [.q,.q,.q,.q,.q,.q,.q,.q,.q,.q,.q,.q] ?_; refine zA aH F h λe3 F h=>?_
  refine zI aH F h λe4 F h=>?_
  refine zPd F h (hp1 _ _) λr5 h=>?_
  refine zB F h (λF h=>?_) λF h=>?_
  ·exact zR h
  ·exact zX (z:=nk _ () h zW)
 ·intro i2 s2 g2 _ F h; try dsimp only at h
  exact zR h
def pT (a0:List Int):Option Int :=
 cU (a0.length<=fuel) <|
 bP (λi1 (s1:Unit) kB tD =>
  thn (a0[i1]?) λe2 =>
  cond (decide (e2=0)) (
   kB ()) <|
  some e2)
 (a0.length - 0) 0 () λs1 =>
 some 0
theorem aiz (a0:List Int) (r:Int) (h:pT a0=some r):aS Tryz.prog 188 [.aU (a0.map encI)] (λv=>v = .val (.int .i64 r)):=by
 refine aS.kP ?_; refine aR [] func188 ?_; rw[ntmps188,results188]; unfold pT at h; have F:=trivial; refine zV ?_; refine zN F h () [3,6,7] (λx=>[(8,.p (.val (.int .i64 ((x.1.1:Nat):Int))))]) [] (λx H=>[]) ?_ ?_
 ·intro i1 s1 g1 _ _ F Ns1 h; try dsimp only at h
  refine zI encI F h λe2 F h=>?_
  refine kS F h (λF h=>?_) λF h=>?_
  ·exact zX (z:=Ns1 _ () h zW)
  ·exact zR h
 ·intro i1 s1 g1 _ F h; try dsimp only at h
  exact zR h
def iB (a0:aO) (a1:aO):Option Int :=
 thn (gH a0.id a1.id) λr2 =>
 thn (gH a0.attr a1.attr) λr3 =>
 thn (pT [r2,r3]) λr4 =>
 some r4
theorem abW (a0:aO) (a1:aO) (r:Int) (h:iB a0 a1=some r):aS Tryz.prog 208 [.agg (aH a0),.agg (aH a1)] (λv=>v = .val (.int .i64 r)):=by
 refine aS.kP ?_; refine aR [] func208 ?_; rw[ntmps208,results208]; unfold iB at h; have F:=trivial; refine zD [.q,.q,.q,.q,.q,.q,.q,.q,.q,.q,.p,.q,.q] ?_; refine uC F h (mX _ _) λr2 h=>?_
 refine uC F h (mX _ _) λr3 h=>?_
 refine uC F h (aiz _) λr4 h=>?_
 exact zR h
def lG (a0:aG):Option Int :=
 cond (decide (500<(max (max (max (max ((a0.ax.length:Nat):Int) ((a0.aD.length:Nat):Int)) ((a0.aQ.length:Nat):Int)) ((a0.aM.length:Nat):Int)) ((a0.values.length:Nat):Int)))) (
  some 3) <|
 thn (dK a0.ax (λx1 x2=>gb x1 x2)) λr3 =>
 cond r3 (
  thn (dK a0.aQ (λx4 x5=>gb x4 x5)) λr6 =>
  cond r6 (
   thn (dL a0.aD (λx7 x8=>gd x7 x8)) λr9 =>
   cond r9 (
    thn (dL a0.aM (λx10 x11=>gd x10 x11)) λr12 =>
    cond r12 (
     thn (eG a0.values (λx13 x14=>iB x13 x14)) λr15 =>
     cond r15 (
      some 0) <|
     some 12) <|
    some 12) <|
   some 12) <|
  some 12) <|
 some 12
theorem acX (a0:aG) (r:Int) (h:lG a0=some r):aS Tryz.prog 179 [.agg (aB a0)] (λv=>v = .val (.int .i64 r)):=by
 refine aS.kP ?_; refine aR [] func179 ?_; rw[ntmps179,results179]; unfold lG at h; have F:=trivial; refine zB F h (λF h=>?_) λF h=>?_
 ·exact zR h
 ·refine zK F h (lY _ (λx1 x2=>gb x1 x2) 204 [] [] (λx1 x2 r h=>vz x1 x2 r h)) λr3 h=>?_
  refine nN F h (λF h=>?_) λF h=>?_
  ·refine zK F h (lY _ (λx4 x5=>gb x4 x5) 204 [] [] (λx4 x5 r h=>vz x4 x5 r h)) λr6 h=>?_
   refine nN F h (λF h=>?_) λF h=>?_
   ·refine zK F h (lZ _ (λx7 x8=>gd x7 x8) 206 [] [] (λx7 x8 r h=>vA x7 x8 r h)) λr9 h=>?_
    refine nN F h (λF h=>?_) λF h=>?_
    ·refine zK F h (lZ _ (λx10 x11=>gd x10 x11) 206 [] [] (λx10 x11 r h=>vA x10 x11 r h)) λr12 h=>?_
     refine nN F h (λF h=>?_) λF h=>?_
     ·refine zK F h (qJ _ (λx13 x14=>iB x13 x14) 208 [] [] (λx13 x14 r h=>abW x13 x14 r h)) λr15 h=>?_
      refine kS F h (λF h=>?_) λF h=>?_
      ·exact zR h
      ·exact zR h
     ·exact zR h
    ·exact zR h
   ·exact zR h
  ·exact zR h
def gV (a0:List Int) (a1:Int):Option Int :=
 cU (a0.length<=fuel) <|
 bP (λi2 (s2:Unit) c8 jm =>
  thn (a0[i2]?) λe3 =>
  cond (decide (a1=e3)) (
   some ((i2:Nat):Int)) <|
  c8 ())
 (a0.length - 0) 0 () λs2 =>
 some (-1)
theorem oQ (a0:List Int) (a1:Int) (r:Int) (h:gV a0 a1=some r):aS Tryz.prog 63 [.aU (a0.map encI),.val (.int .i64 a1)] (λv=>v = .val (.int .i64 r)):=by
 refine aS.kP ?_; refine aR [] func63 ?_; rw[ntmps63,results63]; unfold gV at h; have F:=trivial; refine zV ?_; refine zN F h () [0,1,7] (λx=>[(8,.p (.val (.int .i64 ((x.1.1:Nat):Int))))]) [] (λx H=>[]) ?_ ?_
 ·intro i2 s2 g2 _ _ F nk h; try dsimp only at h
  refine zI encI F h λe3 F h=>?_
  refine zB F h (λF h=>?_) λF h=>?_
  ·exact zR h
  ·exact zX (z:=nk _ () h zW)
 ·intro i2 s2 g2 _ F h; try dsimp only at h
  exact zR h
def kC (a0:List aj) (a1:List ak) (a2:Int):Option (az×Bool) :=
 cU (a0.length<=fuel) <|
 bP (λi3 (s3:(List Int)×(List (List Int))×(List Int)) ia qm =>
  thn (a0[i3]?) λe4 =>
  cU (s3.2.2.length+1<=68719476736) <|
  cU (s3.1.length+1<=68719476736) <|
  thn (mh e4.values) λr5 =>
  cU (s3.2.1.length+1<=68719476736) <|
  ia ((s3.1++[e4.type]),(s3.2.1++[r5]),(s3.2.2++[e4.id])))
 (a0.length - 0) 0 (([]:List Int),([]:List (List Int)),([]:List Int)) λs3 =>
 cU (a1.length<=fuel) <|
 bP (λi6 (s6:(List Edge)×(List Int)) mY adv =>
  thn (a1[i6]?) λe7 =>
  thn (gV s3.2.2 e7.src) λr8 =>
  thn (gV s3.2.2 e7.dst) λr9 =>
  cond (decide (r8<0)) (
   some ((⟨(⟨(⟨([]:List Int),([]:List Edge)⟩:dI),([]:List (List Int))⟩:Host),([]:List Int),([]:List Int),0⟩:az),false)) <|
  cond (decide (r9<0)) (
   some ((⟨(⟨(⟨([]:List Int),([]:List Edge)⟩:dI),([]:List (List Int))⟩:Host),([]:List Int),([]:List Int),0⟩:az),false)) <|
  cU (s6.2.length+1<=68719476736) <|
  cU (s6.1.length+1<=68719476736) <|
  mY ((s6.1++[(⟨e7.type,r8,r9⟩:Edge)]),(s6.2++[e7.id])))
 (a1.length - 0) 0 (([]:List Edge),([]:List Int)) λs6 =>
 some ((⟨(⟨(⟨s3.1,s6.1⟩:dI),s3.2.1⟩:Host),s3.2.2,s6.2,a2⟩:az),true)
theorem abX (a0:List aj) (a1:List ak) (a2:Int) (r:az×Bool) (h:kC a0 a1 a2=some r):bu Tryz.prog 183 [.aU (a0.map ag),.aU (a1.map ah),.val (.int .i64 a2)] (λv=>v = .dB [.agg [.row 3 1 (r.1.host.graph.nodes.map encI),.row 133 3 (r.1.host.graph.au.map bf),.row 26 1 (r.1.host.values.map b9),.row 3 1 (r.1.nodes.map encI),.row 3 1 (r.1.au.map encI),.p (.val (.int .i64 r.1.next))],.p (.val (.bool r.2))]):=by
 refine bu.uT ?_; refine bF [28,37,44,45,80,92] func183 ?_; rw[ntmps183,results183]; unfold kC at h; have F:=trivial; refine zV ?_; refine zN F h ((0,0,0):Nat×Nat×Nat) [1,6,8,17,18] (λx=>[(19,.p (.val (.int .i64 ((x.1.1:Nat):Int))))]) [6] (λx H=>[(8,bx (H 8) [(0,.row 2336 x.2.1),(2,.row 2337 x.2.2.1),(3,.row 2338 x.2.2.2)]),(2336,.row x.2.1 3 1 (x.1.2.1.map encI)),(2337,.row x.2.2.1 26 1 (x.1.2.2.1.map b9)),(2338,.row x.2.2.2 3 1 (x.1.2.2.2.map encI))]) ?_ ?_ (hw:=by refine dP.trans (cC 8 0 2336 3 1 _ rfl rfl rfl (by decide)) ?_; refine dP.trans (cC 8 2 2337 26 1 _ rfl rfl rfl (by decide)) ?_; refine dP.trans (cC 8 3 2338 3 1 _ rfl rfl rfl (by decide)) ?_; exact zW)
 ·intro i3 s3 g3 _ _ F wh h; try dsimp only at h
  refine zI ag F h λe4 F h=>?_
  refine zC F h λF h=>?_
  refine zF (eq_true (show (s3.2.2.length+1) * 8<=140737488355328 by omega)) F λF=>?_
  refine zF (bz encI s3.2.2 [e4.id] (c:=[[.val (.int .i64 e4.id)]]) rfl) F λF=>?_
  refine zE [(0,.p),(1,.p),(2,.p),(4,.q),(5,.q),(6,.p),(3,.q),(8,.b),(9,.b),(10,.b),(11,.b),(12,.b),(7,.w),(13,.q),(16,.b),(17,.b),(18,.b),(14,.w),(15,.w),(19,.w),(20,.q),(21,.q),(22,.w)] ?_; refine zC F h λF h=>?_
  refine zF (eq_true (show (s3.1.length+1) * 8<=140737488355328 by omega)) F λF=>?_
  refine zF (bz encI s3.1 [e4.type] (c:=[[.val (.int .i64 e4.type)]]) rfl) F λF=>?_
  refine xP F h (tA _) λr5 h=>?_
  refine zC F h λF h=>?_
  refine zF (eq_true (show (s3.2.1.length+1) * 24<=140737488355328 by omega)) F λF=>?_
  refine zF (bz b9 s3.2.1 [r5] (c:=[[.aU (r5.map encI)]]) rfl) F λF=>?_
  exact zX (z:=wh _ (g3.1+1,g3.2.1+1,g3.2.2+1) h zW)
 ·intro i3 s3 g3 _ F h; try dsimp only at h
  refine zV ?_; refine zN F h ((0,0):Nat×Nat) [6,8,52,53] (λx=>[(54,.p (.val (.int .i64 ((x.1.1:Nat):Int))))]) [6,2336,2337,2338] (λx H=>[(8,bx (H 8) [(1,.row 2387 x.2.1),(4,.row 2388 x.2.2)]),(2387,.row x.2.1 133 3 (x.1.2.1.map bf)),(2388,.row x.2.2 3 1 (x.1.2.2.map encI))]) ?_ ?_ (hw:=by refine dP.trans (cC 8 1 2387 133 3 _ rfl rfl rfl (by decide)) ?_; refine dP.trans (cC 8 4 2388 3 1 _ rfl rfl rfl (by decide)) ?_; exact zW)
  ·intro i6 s6 g6 _ _ F Ns6 h; try dsimp only at h
   refine zI ah F h λe7 F h=>?_
   refine zD [.q,.q,.q,.q,.q,.q,.q,.q,.q,.q,.q,.q] ?_; refine uC F h (oQ _ _) λr8 h=>?_
   refine uC F h (oQ _ _) λr9 h=>?_
   refine sD F h (λF h=>?_) λF h=>?_
   ·exact k9 h
   ·refine zB F h (λF h=>?_) λF h=>?_
    ·exact k9 h
    ·refine zC F h λF h=>?_
     refine zF (eq_true (show (s6.2.length+1) * 8<=140737488355328 by omega)) F λF=>?_
     refine zF (bz encI s6.2 [e7.id] (c:=[[.val (.int .i64 e7.id)]]) rfl) F λF=>?_
     refine zC F h λF h=>?_
     refine zF (eq_true (show (s6.1.length+1) * 24<=140737488355328 by omega)) F λF=>?_
     refine zF (bz bf s6.1 [(⟨e7.type,r8,r9⟩:Edge)] (c:=[[.val (.int .i64 e7.type),.val (.int .i64 r8),.val (.int .i64 r9)]]) rfl) F λF=>?_
     exact zX (z:=Ns6 _ (g6.1+1,g6.2+1) h zW)
  ·intro i6 s6 g6 _ F h; try dsimp only at h
   exact k9 h
def jH (a0:az):Option (List ak) :=
 cU (a0.au.length<=fuel) <|
 bP (λi1 (s1:(List ak)) kB tD =>
  thn (a0.au[i1]?) λe2 =>
  thn (a0.host.graph.au[i1]?) λe3 =>
  thn (oI a0.nodes e3.src) λe4 =>
  thn (oI a0.nodes e3.dst) λe5 =>
  cU (s1.length+1<=68719476736) <|
  kB (s1++[(⟨e2,e3.type,e4,e5⟩:ak)]))
 (a0.au.length - 0) 0 ([]:List ak) λs1 =>
 some s1
theorem rQ (a0:az) (r:(List ak)) (h:jH a0=some r):bu Tryz.prog 164 [.agg (aA a0)] (λv=>v = .row 84 4 (r.map ah)):=by
 refine bu.uT ?_; refine bF [40] func164 ?_; rw[ntmps164,results164]; unfold jH at h; have F:=trivial; refine zV ?_; refine zN F h (0:Nat) [1,8,9] (λx=>[(3,.row 2441 x.2),(10,.p (.val (.int .i64 ((x.1.1:Nat):Int))))]) [1] (λx H=>[(2441,.row x.2 84 4 (x.1.2.map ah))]) ?_ ?_ (hw:=by refine dP.trans (iQ 3 2441 84 4 rfl rfl (by decide)) ?_; exact zW)
 ·intro i1 s1 g1 _ _ F Ns1 h; try dsimp only at h
  refine zI encI F h λe2 F h=>?_
  refine zI bf F h λe3 F h=>?_
  refine zD [.p,.q,.q,.q,.q,.q,.q,.q,.q,.q,.q,.q,.q,.q,.q,.q,.q,.p,.w,.q] ?_; refine zA encI F h λe4 F h=>?_
  refine zA encI F h λe5 F h=>?_
  refine zC F h λF h=>?_
  refine zF (eq_true (show (s1.length+1) * 32<=140737488355328 by omega)) F λF=>?_
  refine zF (bz ah s1 [(⟨e2,e3.type,e4,e5⟩:ak)] (c:=[[.val (.int .i64 e2),.val (.int .i64 e3.type),.val (.int .i64 e4),.val (.int .i64 e5)]]) rfl) F λF=>?_
  exact zX (z:=Ns1 _ (g1+1) h zW)
 ·intro i1 s1 g1 _ F h; try dsimp only at h
  exact k9 h
def ic (a0:List Int) (a1:Int):Option Int :=
 cU (a0.length<=fuel) <|
 bP (λi2 (s2:Unit) c8 jm =>
  thn (a0[i2]?) λe3 =>
  cond (decide (e3<0)) (
   some 6) <|
  cond (decide (a1<=e3)) (
   some 6) <|
  cond (decide (0<((i2:Nat):Int))) (
   thn (oI a0 (IntKind.i64.wrap (((i2:Nat):Int) - 1))) λe4 =>
   cond (decide (e3<=e4)) (
    some 12) <|
   c8 ()) <|
  c8 ())
 (a0.length - 0) 0 () λs2 =>
 some 0
theorem rC (a0:List Int) (a1:Int) (r:Int) (h:ic a0 a1=some r):aS Tryz.prog 161 [.aU (a0.map encI),.val (.int .i64 a1)] (λv=>v = .val (.int .i64 r)):=by
 refine aS.kP ?_; refine aR [] func161 ?_; rw[ntmps161,results161]; unfold ic at h; have F:=trivial; refine zV ?_; refine zN F h () [0,1,7,8] (λx=>[(9,.p (.val (.int .i64 ((x.1.1:Nat):Int))))]) [] (λx H=>[]) ?_ ?_
 ·intro i2 s2 g2 _ _ F nk h; try dsimp only at h
  refine zI encI F h λe3 F h=>?_
  refine sD F h (λF h=>?_) λF h=>?_
  ·exact zR h
  ·refine zB F h (λF h=>?_) λF h=>?_
   ·exact zR h
   ·refine nN F h (λF h=>?_) λF h=>?_
    ·refine zA encI F h λe4 F h=>?_
     refine zB F h (λF h=>?_) λF h=>?_
     ·exact zR h
     ·exact zX (z:=nk _ () h zW)
    ·exact zX (z:=nk _ () h zW)
 ·intro i2 s2 g2 _ F h; try dsimp only at h
  exact zR h
def iC (a0:List Int) (p1:Int->Option Bool):Option Int :=
 cU (a0.length<=fuel) <|
 bP (λi2 (s2:Unit) c8 jm =>
  thn (a0[i2]?) λe3 =>
  thn (p1 e3) λr4 =>
  cond r4 (
   some ((i2:Nat):Int)) <|
  c8 ())
 (a0.length - 0) 0 () λs2 =>
 some (-1)
theorem wj (a0:List Int) (p1:Int->Option Bool) (k1:FuncId) (fs1 cs1:List PV) (hp1:∀x0 r,p1 x0=some r->aS Tryz.prog k1 (fs1++[.val (.int .i64 x0)]++cs1) (λv=>v = .val (.bool r))) (r:Int) (h:iC a0 p1=some r):aS Tryz.prog 116 [.aU (a0.map encI),.gR (.func k1) fs1 cs1] (λv=>v = .val (.int .i64 r)):=by
 refine aS.kP ?_; refine aR [] func116 ?_; rw[ntmps116,results116]; unfold iC at h; have F:=trivial; refine zV ?_; refine zN F h () [0,1,7] (λx=>[(8,.p (.val (.int .i64 ((x.1.1:Nat):Int))))]) [] (λx H=>[]) ?_ ?_
 ·intro i2 s2 g2 _ _ F nk h; try dsimp only at h
  refine zI encI F h λe3 F h=>?_
  refine zP F h (hp1 _) λr4 h=>?_
  refine zB F h (λF h=>?_) λF h=>?_
  ·exact zR h
  ·exact zX (z:=nk _ () h zW)
 ·intro i2 s2 g2 _ F h; try dsimp only at h
  exact zR h
def gx (a0:List Int) (p1:Int->Option Bool):Option Bool :=
 thn (iC a0 p1) λr2 =>
 some (decide (0<=r2))
theorem tV (a0:List Int) (p1:Int->Option Bool) (k1:FuncId) (fs1 cs1:List PV) (hp1:∀x0 r,p1 x0=some r->aS Tryz.prog k1 (fs1++[.val (.int .i64 x0)]++cs1) (λv=>v = .val (.bool r))) (r:Bool) (h:gx a0 p1=some r):aS Tryz.prog 65 [.aU (a0.map encI),.gR (.func k1) fs1 cs1] (λv=>v = .val (.bool r)):=by
 refine aS.kP ?_; refine aR [] func65 ?_; rw[ntmps65,results65]; unfold gx at h; have F:=trivial; refine zK F h (wj _ p1 k1 fs1 cs1 hp1) λr2 h=>?_
 exact zR h
def iR (a0:List Int) (a1:Int):Option Bool :=
 thn (gV a0 a1) λr2 =>
 some (decide (0<=r2))
theorem xF (a0:List Int) (a1:Int) (r:Bool) (h:iR a0 a1=some r):aS Tryz.prog 29 [.aU (a0.map encI),.val (.int .i64 a1)] (λv=>v = .val (.bool r)):=by
 refine aS.kP ?_; refine aR [] func29 ?_; rw[ntmps29,results29]; unfold iR at h; have F:=trivial; refine zK F h (oQ _ _) λr2 h=>?_
 exact zR h
def kD (a0:Int) (a1:az):Option Bool :=
 thn (iR a1.nodes a0) λr2 =>
 some r2
theorem abY (a0:Int) (a1:az) (r:Bool) (h:kD a0 a1=some r):aS Tryz.prog 162 [.val (.int .i64 a0),.dJ (aA a1) 0] (λv=>v = .val (.bool r)):=by
 refine aS.kP ?_; refine aR [] func162 ?_; rw[ntmps162,results162]; unfold kD at h; have F:=trivial; refine zK F h (xF _ _) λr2 h=>?_
 exact zR h
def fh (a0:Types) (a1:az):Option Int :=
 thn (sC a0 a1.host) λr2 =>
 cond (decide (r2.2=0)) (
  cond (decide (((a1.nodes.length:Nat):Int)=((a1.host.graph.nodes.length:Nat):Int))) (
   cond (decide (((a1.au.length:Nat):Int)=((a1.host.graph.au.length:Nat):Int))) (
    cond (decide (a1.next<0)) (
     some 6) <|
    cond (decide (1000000<a1.next)) (
     some 6) <|
    thn (ic a1.nodes a1.next) λr3 =>
    cond (decide (r3=0)) (
     thn (ic a1.au a1.next) λr4 =>
     cond (decide (r4=0)) (
      thn (gx a1.au (λx5=>kD x5 (⟨a1.host,a1.nodes,a1.au,a1.next⟩:az))) λr6 =>
      cond r6 (
       some 5) <|
      some 0) <|
     some r4) <|
    some r3) <|
   some 20) <|
  some 20) <|
 some r2.2
theorem oJ (a0:Types) (a1:az) (r:Int) (h:fh a0 a1=some r):aS Tryz.prog 104 [.agg [.aU (a0.nodes.map aJ),.aU (a0.au.map aK)],.agg (aA a1)] (λv=>v = .val (.int .i64 r)):=by
 refine aS.kP ?_; refine aR [] func104 ?_; rw[ntmps104,results104]; unfold fh at h; have F:=trivial; refine zK F h (abQ _ _) λr2 h=>?_
 refine kS F h (λF h=>?_) λF h=>?_
 ·refine nN F h (λF h=>?_) λF h=>?_
  ·refine kS F h (λF h=>?_) λF h=>?_
   ·refine sD F h (λF h=>?_) λF h=>?_
    ·exact zR h
    ·refine zB F h (λF h=>?_) λF h=>?_
     ·exact zR h
     ·refine zK F h (rC _ _) λr3 h=>?_
      refine kS F h (λF h=>?_) λF h=>?_
      ·refine zK F h (rC _ _) λr4 h=>?_
       refine kS F h (λF h=>?_) λF h=>?_
       ·refine zK F h (tV _ (λx5=>kD x5 (⟨a1.host,a1.nodes,a1.au,a1.next⟩:az)) 162 [] [.dJ (aA (⟨a1.host,a1.nodes,a1.au,a1.next⟩:az)) 0] (λx5 r h=>abY x5 (⟨a1.host,a1.nodes,a1.au,a1.next⟩:az) r h)) λr6 h=>?_
        refine zB F h (λF h=>?_) λF h=>?_
        ·exact zR h
        ·exact zR h
       ·exact zR h
      ·exact zR h
   ·exact zR h
  ·exact zR h
 ·exact zR h
end
end Go.Proofs.YtllicmcihlfajaaGreat
namespace Go.Proofs.YtllicmcihlfajaaGreat
open Go.cE
def jy:az:=⟨⟨⟨[],[]⟩,[]⟩,[],[],0⟩
noncomputable def jR (t:Types) (a:az) (p:aG):Option (az×Int) :=
 thn (lG p) λe =>
 cond (!decide (e=0)) (some (jy,e)) <|
 thn (giv (a.nodes.length<=a.host.graph.nodes.length/\a.nodes.length<=a.host.values.length/\a.nodes.length<=1000/\(∀l∈a.host.values,l.length<=1000000)/\p.ax.length<=1000/\p.aD.length<=1000/\p.aQ.length<=1000/\p.aM.length<=1000/\p.values.length<=1000/\∀n∈p.ax,n.values.length<=1000000) ()) λ_ =>
 thn (jH a) λes =>
 thn (giv (es.length<=1000) ()) λ_ =>
 cond (!decide (p.next.x0=a.next)) (some (jy,11)) <|
 cond (!((kY (bZ a) p.ax 0).1&&(mW es p.aD 0).1)) (some (jy,11)) <|
 thn (giv ((kY (bZ a) p.ax 0).2.1.length<=1000/\(mW es p.aD 0).2.1.length<=1000) ()) λ_ =>
 cond (!(kZ (kY (bZ a) p.ax 0).2.1 p.values).1) (some (jy,11)) <|
 thn (giv ((kZ (kY (bZ a) p.ax 0).2.1 p.values).2.length<=1000/\(gr (kZ (kY (bZ a) p.ax 0).2.1 p.values).2 (mW es p.aD 0).2.1 p=false->ak1 aj.id ((kZ (kY (bZ a) p.ax 0).2.1 p.values).2++p.aQ)/\ak1 ak.id ((mW es p.aD 0).2.1++p.aM))) ()) λ_ =>
 cond (gr (kZ (kY (bZ a) p.ax 0).2.1 p.values).2 (mW es p.aD 0).2.1 p) (some (jy,11)) <|
 thn (kC (kR ((kZ (kY (bZ a) p.ax 0).2.1 p.values).2++p.aQ)) (nW ((mW es p.aD 0).2.1++p.aM)) p.next.x1) λx =>
 cond (!x.2) (some (jy,1)) <|
 thn (fh t x.1) λe2 =>
 cond (!decide (e2=0)) (some (jy,1)) (some (x.1,0))
noncomputable def gQ (l:List aI):Option (List aI):=giv (l.length<=1000000/\∃K,∀x∈l,x.kind=K/\od x) (gn l)
noncomputable def rR (p q:aG):Option aG:=giv (p.ax.length<=1000000/\p.aD.length<=1000000/\p.values.length<=1000000/\q.ax.length<=1000000/\q.aD.length<=1000000/\q.values.length<=1000000) (nA p q)
end Go.Proofs.YtllicmcihlfajaaGreat
set_option maxRecDepth 20000
namespace Go.Proofs.YtllicmcihlfajaaGreat
open Go.cE
end Go.Proofs.YtllicmcihlfajaaGreat
set_option maxRecDepth 20000
namespace Go.Proofs.YtllicmcihlfajaaGreat
open Go.cE
attribute [go_sem] aV jl hU gC oB lD aC cW ck bN bS
noncomputable section
def gy  : Option Types:=some (⟨[(⟨(⟨#[65,99,99,111,117,110,116]⟩:ByteArray),(-1),true,[(⟨(⟨#[98,97,108,97,110,99,101]⟩:ByteArray),(-1000),1000,([]:List ByteArray)⟩:Attr)]⟩:qh),(⟨(⟨#[67,97,115,104]⟩:ByteArray),0,false,([]:List Attr)⟩:qh),(⟨(⟨#[76,111,97,110]⟩:ByteArray),0,false,[(⟨(⟨#[115,116,97,116,101]⟩:ByteArray),0,1,[(⟨#[111,112,101,110]⟩:ByteArray),(⟨#[99,108,111,115,101,100]⟩:ByteArray)]⟩:Attr)]⟩:qh),(⟨(⟨#[80,101,114,115,111,110]⟩:ByteArray),(-1),false,([]:List Attr)⟩:qh)],[(⟨(⟨#[111,119,110,115]⟩:ByteArray),3,0,0,(-1),1,1⟩:rZ),(⟨(⟨#[112,97,121,115]⟩:ByteArray),1,1,0,(-1),0,(-1)⟩:rZ)]⟩:Types)
def gf  : Option az:=some (⟨(⟨(⟨[3,1,1],[(⟨0,0,1⟩:Edge),(⟨0,0,2⟩:Edge)]⟩:dI),[([]:List Int),[10],[5]]⟩:Host),[0,1,2],[3,4],5⟩:az)
def eD (a0:Types) (a1:az) (a2:aG):Option (az×Int) :=
 thn (fh (⟨a0.nodes,a0.au⟩:Types) (⟨a1.host,a1.nodes,a1.au,a1.next⟩:az)) λr3 =>
 cond (decide (r3=0)) (
  thn (jR (⟨a0.nodes,a0.au⟩:Types) (⟨a1.host,a1.nodes,a1.au,a1.next⟩:az) a2) λr4 =>
  some (r4.1,r4.2)) <|
 some ((⟨(⟨(⟨([]:List Int),([]:List Edge)⟩:dI),([]:List (List Int))⟩:Host),([]:List Int),([]:List Int),0⟩:az),r3)
def dX (a0:List aj) (p1:aj->Option Bool):Option Int :=
 cU (a0.length<=fuel) <|
 bP (λi2 (s2:Unit) c8 jm =>
  thn (a0[i2]?) λe3 =>
  thn (p1 e3) λr4 =>
  cond r4 (
   some ((i2:Nat):Int)) <|
  c8 ())
 (a0.length - 0) 0 () λs2 =>
 some (-1)
def dz (a0:List aj) (p1:aj->Option Bool):Option Bool :=
 thn (dX a0 p1) λr2 =>
 some (decide (0<=r2))
def mB (a0:aj) (a1:aG):Option Bool:=some (decide (a0.id<a1.next.x0))
def dY (a0:List ak) (p1:ak->Option Bool):Option Int :=
 cU (a0.length<=fuel) <|
 bP (λi2 (s2:Unit) c8 jm =>
  thn (a0[i2]?) λe3 =>
  thn (p1 e3) λr4 =>
  cond r4 (
   some ((i2:Nat):Int)) <|
  c8 ())
 (a0.length - 0) 0 () λs2 =>
 some (-1)
def eu (a0:List ak) (p1:ak->Option Bool):Option Bool :=
 thn (dY a0 p1) λr2 =>
 some (decide (0<=r2))
def mC (a0:ak) (a1:aG):Option Bool:=some (decide (a0.id<a1.next.x0))
def mP (a0:aG):Option Bool :=
 cond (decide (a0.next.x0<=a0.next.x1)) (
  thn (dz a0.aQ (λx1=>mB x1 (⟨a0.ax,a0.aD,a0.aQ,a0.aM,a0.values,a0.next⟩:aG))) λr2 =>
  cond r2 (
   some false) <|
  thn (eu a0.aM (λx3=>mC x3 (⟨a0.ax,a0.aD,a0.aQ,a0.aM,a0.values,a0.next⟩:aG))) λr4 =>
  some (!r4)) <|
 some false
def jg (a0:Types) (a1:az) (a2:aG) (a3:aG):Option Int :=
 thn (some [a2,a3]) λl3 =>
 cU (2<=fuel) <|
 bP (λi4 (s4:Unit) qo ag2 =>
  thn (l3[i4]?) λe5 =>
  thn (eD (⟨a0.nodes,a0.au⟩:Types) (⟨a1.host,a1.nodes,a1.au,a1.next⟩:az) e5) λr6 =>
  cond (decide (r6.2=0)) (
   qo ()) <|
  some r6.2)
 (2 - 0) 0 () λs4 =>
 thn (mP a2) λr7 =>
 cond r7 (
  thn (mP a3) λr8 =>
  cond r8 (
   cond (decide (1000000<(IntKind.i64.wrap ((IntKind.i64.wrap (a2.next.x1+a3.next.x1)) - a3.next.x0)))) (
    some 6) <|
   some 0) <|
  some 8) <|
 some 8
def kE (a0:aj) (a1:Int):Option Bool:=some (decide (a0.id=a1))
def iN (a0:aG) (a1:Int):Option Bool :=
 thn (dz a0.ax (λx2=>kE x2 a1)) λr3 =>
 some r3
def gz (a0:List (List aI)):Option (List aI) :=
 cU (a0.length<=fuel) <|
 bP (λi1 (s1:Int) kB tD =>
  thn (a0[i1]?) λe2 =>
  cond (decide ((IntKind.i64.wrap (s1+((e2.length:Nat):Int)))<0)) (
   none) <|
  kB (IntKind.i64.wrap (s1+((e2.length:Nat):Int))))
 (a0.length - 0) 0 0 λs1 =>
 thn (lF ([]:List aI) s1) λr3 =>
 cU (a0.length<=fuel) <|
 bP (λi4 (s4:(List aI)) qo ag2 =>
  thn (a0[i4]?) λe5 =>
  cU (s4.length+e5.length<=68719476736) <|
  qo (s4++e5))
 (a0.length - 0) 0 r3 λs4 =>
 some s4
def gW (a0:aG) (a1:aG):Option (List aI) :=
 thn (some [(⟨a0,a1⟩:wg),(⟨a1,a0⟩:wg)]) λl2 =>
 cU (2<=fuel) <|
 bP (λi3 (s3:(List aI)×(List aI)) ia qm =>
  thn (l2[i3]?) λe4 =>
  cU (e4.x1.aM.length<=fuel) <|
  bP (λi5 (s5:(List aI)) rD abZ =>
   thn (e4.x1.aM[i5]?) λe6 =>
   thn (some [e6.src,e6.dst]) λl7 =>
   cU (2<=fuel) <|
   bP (λi8 (s8:(List aI)) tC abV =>
    thn (l7[i8]?) λe9 =>
    thn (iN e4.x0 e9) λwk =>
    cond wk (
     cU (s8.length+1<=68719476736) <|
     tC (s8++[(⟨1,e9,(-1)⟩:aI)])) <|
    tC s8)
   (2 - 0) 0 s5 λs8 =>
   rD s8)
  (e4.x1.aM.length - 0) 0 s3.1 λs5 =>
  cU (e4.x1.values.length<=fuel) <|
  bP (λi11 (s11:(List aI)) aaQ awU =>
   thn (e4.x1.values[i11]?) λvB =>
   thn (iN e4.x0 vB.id) λr13 =>
   cond r13 (
    cU (s11.length+1<=68719476736) <|
    aaQ (s11++[(⟨2,vB.id,vB.attr⟩:aI)])) <|
   aaQ s11)
  (e4.x1.values.length - 0) 0 s3.2 λs11 =>
  ia (s5,s11))
 (2 - 0) 0 (([]:List aI),([]:List aI)) λs3 =>
 cU (a0.values.length<=fuel) <|
 bP (λi14 (vQ:(List aI)) uV aiA =>
  thn (a0.values[i14]?) λe15 =>
  cU (a1.values.length<=fuel) <|
  bP (λi16 (s16:(List aI)) aiB aFW =>
   thn (a1.values[i16]?) λe17 =>
   cond (decide (e15.id=e17.id)) (
    cond (decide (e15.attr=e17.attr)) (
     cond (decide (e15.new=e17.new)) (
      aiB s16) <|
     cU (s16.length+1<=68719476736) <|
     aiB (s16++[(⟨3,e15.id,e15.attr⟩:aI)])) <|
    aiB s16) <|
   aiB s16)
  (a1.values.length - 0) 0 vQ λs16 =>
  uV s16)
 (a0.values.length - 0) 0 ([]:List aI) λvQ =>
 thn (gQ s3.1) λr18 =>
 thn (gQ s3.2) λr19 =>
 thn (gQ vQ) λr20 =>
 thn (gz [r18,r19,r20]) λr21 =>
 some r21
def gI (a0:Int) (a1:aG) (a2:Int):Option Int :=
 cond (decide (a1.next.x0<=a0)) (
  some (IntKind.i64.wrap (a0+a2))) <|
 some a0
def kg (a0:aG) (a1:aG):Option aG :=
 cU (a1.aQ.length<=fuel) <|
 bP (λi2 (s2:(List aj)) c8 jm =>
  thn (a1.aQ[i2]?) λe3 =>
  thn (gI e3.id a1 (IntKind.i64.wrap (a0.next.x1 - a0.next.x0))) λr4 =>
  cU (s2.length+1<=68719476736) <|
  c8 (s2++[(⟨r4,e3.type,e3.values⟩:aj)]))
 (a1.aQ.length - 0) 0 ([]:List aj) λs2 =>
 cU (a1.aM.length<=fuel) <|
 bP (λi5 (s5:(List ak)) rD abZ =>
  thn (a1.aM[i5]?) λe6 =>
  thn (gI e6.id a1 (IntKind.i64.wrap (a0.next.x1 - a0.next.x0))) λr7 =>
  thn (gI e6.src a1 (IntKind.i64.wrap (a0.next.x1 - a0.next.x0))) λr8 =>
  thn (gI e6.dst a1 (IntKind.i64.wrap (a0.next.x1 - a0.next.x0))) λr9 =>
  cU (s5.length+1<=68719476736) <|
  rD (s5++[(⟨r7,e6.type,r8,r9⟩:ak)]))
 (a1.aM.length - 0) 0 ([]:List ak) λs5 =>
 some (⟨a1.ax,a1.aD,s2,s5,a1.values,(⟨a0.next.x1,(IntKind.i64.wrap ((IntKind.i64.wrap (a0.next.x1+a1.next.x1)) - a1.next.x0))⟩:dZ)⟩:aG)
def jW (a0:Types) (a1:az) (a2:aG) (a3:aG):Option (az×az×Int) :=
 thn (eD a0 a1 a2) λr4 =>
 cond (decide (r4.2=0)) (
  thn (kg a2 a3) λr5 =>
  thn (rR a2 r5) λr6 =>
  cond (decide (40<(IntKind.i64.wrap ((IntKind.i64.wrap (((r4.1.nodes.length:Nat):Int)+((r6.aQ.length:Nat):Int))) - ((r6.ax.length:Nat):Int))))) (
   some ((⟨(⟨(⟨([]:List Int),([]:List Edge)⟩:dI),([]:List (List Int))⟩:Host),([]:List Int),([]:List Int),0⟩:az),(⟨(⟨(⟨([]:List Int),([]:List Edge)⟩:dI),([]:List (List Int))⟩:Host),([]:List Int),([]:List Int),0⟩:az),3)) <|
  cond (decide (80<(IntKind.i64.wrap ((IntKind.i64.wrap (((r4.1.au.length:Nat):Int)+((r6.aM.length:Nat):Int))) - ((r6.aD.length:Nat):Int))))) (
   some ((⟨(⟨(⟨([]:List Int),([]:List Edge)⟩:dI),([]:List (List Int))⟩:Host),([]:List Int),([]:List Int),0⟩:az),(⟨(⟨(⟨([]:List Int),([]:List Edge)⟩:dI),([]:List (List Int))⟩:Host),([]:List Int),([]:List Int),0⟩:az),3)) <|
  thn (eD a0 r4.1 r6) λr7 =>
  some (r4.1,r7.1,r7.2)) <|
 some ((⟨(⟨(⟨([]:List Int),([]:List Edge)⟩:dI),([]:List (List Int))⟩:Host),([]:List Int),([]:List Int),0⟩:az),(⟨(⟨(⟨([]:List Int),([]:List Edge)⟩:dI),([]:List (List Int))⟩:Host),([]:List Int),([]:List Int),0⟩:az),r4.2)
def oD (a0:Types) (a1:az) (a2:aG) (a3:aG):Option (az×Int) :=
 thn (kg a2 a3) λr4 =>
 thn (eD a0 a1 (⟨r4.ax,r4.aD,r4.aQ,r4.aM,r4.values,(⟨a1.next,r4.next.x1⟩:dZ)⟩:aG)) λr5 =>
 some (r5.1,r5.2)
def pU (a0:Types) (a1:Host):Option Int :=
 thn (sC a0 a1) λr2 =>
 some r2.2
def tE (a0:Types) (a1:Int) (a2:Int):Option Bool :=
 thn (uU a0 [a1,a2]) λr3 =>
 cond (decide (r3=0)) (
  thn (aaO a0 a1 a2) λr4 =>
  some r4) <|
 some false
def kj (a0:Types) (a1:Host) (a2:Int) (a3:Bool) (a4:Int) (a5:Int) (a6:Int):Option (List cu) :=
 cU (a1.graph.nodes.length<=fuel) <|
 bP (λi7 (s7:(List cu)) ab0 azX =>
  thn (a1.graph.nodes[i7]?) λe8 =>
  thn (tE a0 e8 a4) λr9 =>
  cond r9 (
   cU (a1.graph.au.length<=fuel) <|
   bP (λi10 (s10:Int) tF aAW =>
    thn (a1.graph.au[i10]?) λe11 =>
    cond (decide (e11.type=a2)) (
     cond a3 (
      cond (decide (e11.src=((i7:Nat):Int))) (
       tF (IntKind.i64.wrap (s10+1))) <|
      tF s10) <|
     cond (decide (e11.dst=((i7:Nat):Int))) (
      tF (IntKind.i64.wrap (s10+1))) <|
     tF s10) <|
    tF s10)
   (a1.graph.au.length - 0) 0 0 λs10 =>
   cond (decide (s10<a5)) (
    cU (s7.length+1<=68719476736) <|
    ab0 (s7++[(⟨a2,((i7:Nat):Int),s10,a3⟩:cu)])) <|
   cond (decide (0<=a6)) (
    cond (decide (a6<s10)) (
     cU (s7.length+1<=68719476736) <|
     ab0 (s7++[(⟨a2,((i7:Nat):Int),s10,a3⟩:cu)])) <|
    ab0 s7) <|
   ab0 s7) <|
  ab0 s7)
 (a1.graph.nodes.length - 0) 0 ([]:List cu) λs7 =>
 some s7
def mD (a0:Types) (a1:Host):Option ((List cu)×Int) :=
 thn (pU a0 a1) λr2 =>
 cond (decide (r2=0)) (
  cU (a0.au.length<=fuel) <|
  bP (λi3 (s3:(List cu)) ia qm =>
   thn (a0.au[i3]?) λe4 =>
   thn (kj a0 a1 ((i3:Nat):Int) true e4.src e4.lB e4.jd) λr5 =>
   cU (s3.length+r5.length<=68719476736) <|
   thn (kj a0 a1 ((i3:Nat):Int) false e4.dst e4.qi e4.mg) λr6 =>
   cU (s3.length+r5.length+r6.length<=68719476736) <|
   ia ((s3++r5)++r6))
  (a0.au.length - 0) 0 ([]:List cu) λs3 =>
  some (s3,0)) <|
 some (([]:List cu),r2)
def ig (a0:Types) (a1:az):Option (List bn) :=
 thn (mD a0 a1.host) λr2 =>
 cU (r2.1.length<=fuel) <|
 bP (λi3 (s3:(List bn)) ia qm =>
  thn (r2.1[i3]?) λe4 =>
  thn (oI a1.nodes e4.node) λe5 =>
  cU (s3.length+1<=68719476736) <|
  ia (s3++[(⟨e5,e4.je,e4.out⟩:bn)]))
 (r2.1.length - 0) 0 ([]:List bn) λs3 =>
 some s3
def fk (a0:List (List bn)):Option (List bn) :=
 cU (a0.length<=fuel) <|
 bP (λi1 (s1:Int) kB tD =>
  thn (a0[i1]?) λe2 =>
  cond (decide ((IntKind.i64.wrap (s1+((e2.length:Nat):Int)))<0)) (
   none) <|
  kB (IntKind.i64.wrap (s1+((e2.length:Nat):Int))))
 (a0.length - 0) 0 0 λs1 =>
 thn (jV ([]:List bn) s1) λr3 =>
 cU (a0.length<=fuel) <|
 bP (λi4 (s4:(List bn)) qo ag2 =>
  thn (a0[i4]?) λe5 =>
  cU (s4.length+e5.length<=68719476736) <|
  qo (s4++e5))
 (a0.length - 0) 0 r3 λs4 =>
 some s4
def fK (a0:List bn) (a1:bn):Option Int :=
 cU (a0.length<=fuel) <|
 bP (λi2 (s2:Unit) c8 jm =>
  thn (a0[i2]?) λe3 =>
  cond (decide (a1.id=e3.id)&&(decide (a1.je=e3.je)&&(a1.out == e3.out))) (
   some ((i2:Nat):Int)) <|
  c8 ())
 (a0.length - 0) 0 () λs2 =>
 some (-1)
def eH (a0:List bn) (a1:bn):Option Bool :=
 thn (fK a0 a1) λr2 =>
 some (decide (0<=r2))
def lH (a0:Types) (a1:az) (a2:aG) (a3:aG) (a4:az) (a5:az):Option ((List aI)×Int) :=
 thn (oD a0 a1 a2 a3) λr6 =>
 cond (decide (r6.2=0)) (
  thn (ig a0 a1) λr7 =>
  thn (ig a0 a4) λr8 =>
  thn (ig a0 r6.1) λr9 =>
  thn (fk [r7,r8,r9]) λwk =>
  thn (ig a0 a5) λr11 =>
  cU (r11.length<=fuel) <|
  bP (λi12 (s12:(List aI)) awV aFX =>
   thn (r11[i12]?) λe13 =>
   thn (eH wk e13) λr14 =>
   cond r14 (
    awV s12) <|
   cU (s12.length+1<=68719476736) <|
   awV (s12++[(⟨4,e13.id,e13.je⟩:aI)]))
  (r11.length - 0) 0 ([]:List aI) λs12 =>
  thn (gQ s12) λr15 =>
  some (r15,0)) <|
 some (([]:List aI),r6.2)
def fL (a0:Types) (a1:az) (a2:aG) (a3:aG):Option ((List aI)×Int) :=
 thn (jg (⟨a0.nodes,a0.au⟩:Types) (⟨a1.host,a1.nodes,a1.au,a1.next⟩:az) a2 a3) λr4 =>
 cond (decide (r4=0)) (
  thn (gW a2 a3) λr5 =>
  cond (decide (0<((r5.length:Nat):Int))) (
   some (r5,0)) <|
  thn (jW a0 a1 a2 a3) λr6 =>
  cond (decide (r6.2.2=0)) (
   thn (lH a0 a1 a2 a3 r6.1 r6.2.1) λr7 =>
   some (r7.1,r7.2)) <|
  some (([]:List aI),r6.2.2)) <|
 some (([]:List aI),r4)
def pW (a0:Types) (a1:az) (a2:aG) (a3:aG):Option (az×Int) :=
 thn (jW a0 a1 a2 a3) λr4 =>
 cond (decide (r4.2.2=0)) (
  thn (lH a0 a1 a2 a3 r4.1 r4.2.1) λr5 =>
  cond (decide (r5.2=0)) (
   cond (decide (0<((r5.1.length:Nat):Int))) (
    some ((⟨(⟨(⟨([]:List Int),([]:List Edge)⟩:dI),([]:List (List Int))⟩:Host),([]:List Int),([]:List Int),0⟩:az),11)) <|
   some (r4.2.1,0)) <|
  some ((⟨(⟨(⟨([]:List Int),([]:List Edge)⟩:dI),([]:List (List Int))⟩:Host),([]:List Int),([]:List Int),0⟩:az),r5.2)) <|
 some ((⟨(⟨(⟨([]:List Int),([]:List Edge)⟩:dI),([]:List (List Int))⟩:Host),([]:List Int),([]:List Int),0⟩:az),r4.2.2)
def jh (a0:Types) (a1:az) (a2:aG) (a3:aG):Option (az×Int) :=
 thn (jg a0 a1 a2 a3) λr4 =>
 cond (decide (r4=0)) (
  thn (gW a2 a3) λr5 =>
  cond (decide (0<((r5.length:Nat):Int))) (
   some ((⟨(⟨(⟨([]:List Int),([]:List Edge)⟩:dI),([]:List (List Int))⟩:Host),([]:List Int),([]:List Int),0⟩:az),11)) <|
  thn (pW a0 a1 a2 a3) λr6 =>
  some (r6.1,r6.2)) <|
 some ((⟨(⟨(⟨([]:List Int),([]:List Edge)⟩:dI),([]:List (List Int))⟩:Host),([]:List Int),([]:List Int),0⟩:az),r4)
def fB (a0:List aI) (a1:List aI):Option Bool :=
 cond (decide (((a0.length:Nat):Int)=((a1.length:Nat):Int))) (
  cU (a0.length<=fuel) <|
  bP (λi2 (s2:Unit) c8 jm =>
   thn (a0[i2]?) λe3 =>
   thn (a1[i2]?) λe4 =>
   cond (decide (e3.kind=e4.kind)&&(decide (e3.id=e4.id)&&decide (e3.attr=e4.attr))) (
    c8 ()) <|
   some false)
  (a0.length - 0) 0 () λs2 =>
  some true) <|
 some false
def fS (a0:List Int) (a1:List Int):Option Bool :=
 cond (decide (((a0.length:Nat):Int)=((a1.length:Nat):Int))) (
  cU (a0.length<=fuel) <|
  bP (λi2 (s2:Unit) c8 jm =>
   thn (a0[i2]?) λe3 =>
   thn (a1[i2]?) λe4 =>
   cond (decide (e3=e4)) (
    c8 ()) <|
   some false)
  (a0.length - 0) 0 () λs2 =>
  some true) <|
 some false
def bW  : Option Bool :=
 thn (gy) λr1 =>
 thn (gf) λr2 =>
 thn (fL r1 r2 (⟨[(⟨1,1,[10]⟩:aj)],[(⟨3,0,0,1⟩:ak)],([]:List aj),([]:List ak),([]:List aO),(⟨5,5⟩:dZ)⟩:aG) (⟨([]:List aj),([]:List ak),([]:List aj),[(⟨5,1,1,2⟩:ak)],([]:List aO),(⟨5,6⟩:dZ)⟩:aG)) λr3 =>
 thn (gf) λr4 =>
 thn (jh r1 r4 (⟨[(⟨1,1,[10]⟩:aj)],[(⟨3,0,0,1⟩:ak)],([]:List aj),([]:List ak),([]:List aO),(⟨5,5⟩:dZ)⟩:aG) (⟨([]:List aj),([]:List ak),([]:List aj),([]:List ak),[(⟨2,0,5,7⟩:aO)],(⟨5,5⟩:dZ)⟩:aG)) λr5 =>
 cond (decide (r3.2=0)) (
  thn (fB r3.1 [(⟨1,1,(-1)⟩:aI)]) λr6 =>
  cond r6 (
   cond (decide (r5.2=0)) (
    thn (fS r5.1.nodes [0,2]) λr7 =>
    cond r7 (
     cond (decide (((r5.1.host.values.length:Nat):Int)=2)) (
      thn (r5.1.host.values[1]?) λe8 =>
      thn (fS e8 [7]) λr9 =>
      some r9) <|
     some false) <|
    some false) <|
   some false) <|
  some false) <|
 some false
def iS (a0:Types):Option Bool :=
 cond (decide (20<((a0.nodes.length:Nat):Int))) (
  some false) <|
 cond (decide (30<((a0.au.length:Nat):Int))) (
  some false) <|
 cU (a0.nodes.length<=fuel) <|
 bP (λi1 (s1:Int) kB tD =>
  thn (a0.nodes[i1]?) λe2 =>
  cond (decide (30<(IntKind.i64.wrap (s1+((e2.attrs.length:Nat):Int))))) (
   some false) <|
  cond (decide (40<((e2.name.size:Nat):Int))) (
   some false) <|
  cU (e2.attrs.length<=fuel) <|
  bP (λi3 (s3:Unit) ia qm =>
   thn (e2.attrs[i3]?) λe4 =>
   cond (decide (40<((e4.name.size:Nat):Int))) (
    some false) <|
   cond (decide (25<((e4.names.length:Nat):Int))) (
    some false) <|
   cU (e4.names.length<=fuel) <|
   bP (λi5 (s5:Unit) rD abZ =>
    thn (e4.names[i5]?) λe6 =>
    cond (decide (40<((e6.size:Nat):Int))) (
     some false) <|
    rD ())
   (e4.names.length - 0) 0 () λs5 =>
   ia ())
  (e2.attrs.length - 0) 0 () λs3 =>
  kB (IntKind.i64.wrap (s1+((e2.attrs.length:Nat):Int))))
 (a0.nodes.length - 0) 0 0 λs1 =>
 cU (a0.au.length<=fuel) <|
 bP (λi7 (s7:Unit) ab0 azX =>
  thn (a0.au[i7]?) λe8 =>
  cond (decide (40<((e8.name.size:Nat):Int))) (
   some false) <|
  ab0 ())
 (a0.au.length - 0) 0 () λs7 =>
 some true
def iT (a0:dI):Option Bool :=
 cond (decide (((a0.nodes.length:Nat):Int)<=45)) (
  some (decide (((a0.au.length:Nat):Int)<=90))) <|
 some false
def iU (a0:Host):Option Bool :=
 thn (iT a0.graph) λr1 =>
 cond r1 (
  cond (decide (45<((a0.values.length:Nat):Int))) (
   some false) <|
  cU (a0.values.length<=fuel) <|
  bP (λi2 (s2:Unit) c8 jm =>
   thn (a0.values[i2]?) λe3 =>
   cond (decide (12<((e3.length:Nat):Int))) (
    some false) <|
   c8 ())
  (a0.values.length - 0) 0 () λs2 =>
  some true) <|
 some false
def iV (a0:az):Option Bool :=
 thn (iU a0.host) λr1 =>
 cond r1 (
  some (decide ((IntKind.i64.wrap (((a0.nodes.length:Nat):Int)+((a0.au.length:Nat):Int)))<=140))) <|
 some false
def eL (a0:aG):Option Bool :=
 cond (decide (510<(max (max (max (max ((a0.ax.length:Nat):Int) ((a0.aD.length:Nat):Int)) ((a0.aQ.length:Nat):Int)) ((a0.aM.length:Nat):Int)) ((a0.values.length:Nat):Int)))) (
  some false) <|
 cond (decide (60<(max (max (max (max ((a0.ax.length:Nat):Int) ((a0.aD.length:Nat):Int)) ((a0.aQ.length:Nat):Int)) ((a0.aM.length:Nat):Int)) ((a0.values.length:Nat):Int)))) (
  cond (decide ((max (max (max (max ((a0.ax.length:Nat):Int) ((a0.aD.length:Nat):Int)) ((a0.aQ.length:Nat):Int)) ((a0.aM.length:Nat):Int)) ((a0.values.length:Nat):Int))<=500)) (
   some false) <|
  cU (a0.ax.length<=fuel) <|
  bP (λi1 (s1:Unit) kB tD =>
   thn (a0.ax[i1]?) λe2 =>
   cond (decide (12<((e2.values.length:Nat):Int))) (
    some false) <|
   kB ())
  (a0.ax.length - 0) 0 () λs1 =>
  cU (a0.aQ.length<=fuel) <|
  bP (λi3 (s3:Unit) ia qm =>
   thn (a0.aQ[i3]?) λe4 =>
   cond (decide (12<((e4.values.length:Nat):Int))) (
    some false) <|
   ia ())
  (a0.aQ.length - 0) 0 () λs3 =>
  some true) <|
 cU (a0.ax.length<=fuel) <|
 bP (λi5 (s5:Unit) rD abZ =>
  thn (a0.ax[i5]?) λe6 =>
  cond (decide (12<((e6.values.length:Nat):Int))) (
   some false) <|
  rD ())
 (a0.ax.length - 0) 0 () λs5 =>
 cU (a0.aQ.length<=fuel) <|
 bP (λi7 (s7:Unit) ab0 azX =>
  thn (a0.aQ[i7]?) λe8 =>
  cond (decide (12<((e8.values.length:Nat):Int))) (
   some false) <|
  ab0 ())
 (a0.aQ.length - 0) 0 () λs7 =>
 some true
def cc (a0:aZ) (a1:Types):Option Bool :=
 thn (iS a1) λr2 =>
 cond r2 (
  thn (iV a0.a) λr3 =>
  cond r3 (
   thn (eL a0.p) λr4 =>
   cond r4 (
    thn (eL a0.q) λr5 =>
    some r5) <|
   some false) <|
  some false) <|
 some false
def gO (a0:dI):Option dI :=
 cU (a0.nodes.length<=68719476736) <|
 cU (a0.au.length<=68719476736) <|
 some a0
def gP (a0:Host):Option Host :=
 thn (gO a0.graph) λr1 =>
 cU (a0.values.length<=fuel) <|
 bP (λi2 (s2:(List (List Int))) c8 jm =>
  thn (a0.values[i2]?) λe3 =>
  cU (e3.length<=68719476736) <|
  cU (s2.length+1<=68719476736) <|
  c8 (s2++[e3]))
 (a0.values.length - 0) 0 ([]:List (List Int)) λs2 =>
 some (⟨r1,s2⟩:Host)
def dD (a0:az):Option az :=
 thn (gP a0.host) λr1 =>
 cU (a0.nodes.length<=68719476736) <|
 cU (a0.au.length<=68719476736) <|
 some (⟨r1,a0.nodes,a0.au,a0.next⟩:az)
def dM (a0:List aj):Option (List aj) :=
 cU (a0.length<=fuel) <|
 bP (λi1 (s1:(List aj)) kB tD =>
  thn (a0[i1]?) λe2 =>
  cU (e2.values.length<=68719476736) <|
  cU (s1.length+1<=68719476736) <|
  kB (s1++[e2]))
 (a0.length - 0) 0 ([]:List aj) λs1 =>
 some s1
def bB (a0:aG):Option aG :=
 thn (dM a0.ax) λr1 =>
 cU (a0.aD.length<=68719476736) <|
 thn (dM a0.aQ) λr2 =>
 cU (a0.aM.length<=68719476736) <|
 cU (a0.values.length<=68719476736) <|
 some (⟨r1,a0.aD,r2,a0.aM,a0.values,a0.next⟩:aG)
def gK (a0:List Int) (a1:Int):Option Int :=
 cU (a0.length<=fuel) <|
 bP (λi2 (s2:Unit) c8 jm =>
  thn (a0[i2]?) λe3 =>
  cond (decide (e3<0)) (
   some 6) <|
  cond (decide (a1<=e3)) (
   some 6) <|
  cond (decide (0<((i2:Nat):Int))) (
   thn (oI a0 (IntKind.i64.wrap (((i2:Nat):Int) - 1))) λe4 =>
   cond (decide (e3<=e4)) (
    some 12) <|
   c8 ()) <|
  c8 ())
 (a0.length - 0) 0 () λs2 =>
 some 0
def bQ (a0:List Int) (a1:Int):Option Int :=
 cU (a0.length<=fuel) <|
 bP (λi2 (s2:Unit) c8 jm =>
  thn (a0[i2]?) λe3 =>
  cond (decide (e3=a1)) (
   some ((i2:Nat):Int)) <|
  c8 ())
 (a0.length - 0) 0 () λs2 =>
 some (-1)
def cg (a0:Types) (a1:az):Option Int :=
 thn (lE a0) λr2 =>
 cond (decide (r2.2=0)) (
  thn (jx a0 a1.host) λr3 =>
  cond (decide (r3.2=0)) (
   cond (decide (((a1.nodes.length:Nat):Int)=((a1.host.graph.nodes.length:Nat):Int))) (
    cond (decide (((a1.au.length:Nat):Int)=((a1.host.graph.au.length:Nat):Int))) (
     cond (decide (a1.next<0)) (
      some 6) <|
     cond (decide (1000000<a1.next)) (
      some 6) <|
     thn (gK a1.nodes a1.next) λr4 =>
     cond (decide (r4=0)) (
      thn (gK a1.au a1.next) λr5 =>
      cond (decide (r5=0)) (
       cU (a1.au.length<=fuel) <|
       bP (λi6 (s6:Unit) mY adv =>
        thn (a1.au[i6]?) λe7 =>
        thn (bQ a1.nodes e7) λr8 =>
        cond (decide (0<=r8)) (
         some 5) <|
        mY ())
       (a1.au.length - 0) 0 () λs6 =>
       some 0) <|
      some r5) <|
     some r4) <|
    some 20) <|
   some 20) <|
  some r3.2) <|
 some r2.2
def dG (a0:List aj):Option Bool :=
 cU (a0.length<=fuel) <|
 bP (λi1 (s1:Unit) kB tD =>
  thn (a0[i1]?) λe2 =>
  thn (oI a0 (IntKind.i64.wrap (((i1:Nat):Int) - 1))) λe3 =>
  cond (decide (e2.id<=e3.id)) (
   some false) <|
  kB ())
 (a0.length - 1) 1 () λs1 =>
 some true
def dH (a0:List ak):Option Bool :=
 cU (a0.length<=fuel) <|
 bP (λi1 (s1:Unit) kB tD =>
  thn (a0[i1]?) λe2 =>
  thn (oI a0 (IntKind.i64.wrap (((i1:Nat):Int) - 1))) λe3 =>
  cond (decide (e2.id<=e3.id)) (
   some false) <|
  kB ())
 (a0.length - 1) 1 () λs1 =>
 some true
def ew (a0:List aO):Option Bool :=
 cU (a0.length<=fuel) <|
 bP (λi1 (s1:Unit) kB tD =>
  thn (a0[i1]?) λe2 =>
  thn (oI a0 (IntKind.i64.wrap (((i1:Nat):Int) - 1))) λe3 =>
  cond (decide (e2.id<e3.id)) (
   some false) <|
  cond (decide (e2.id=e3.id)) (
   cond (decide (e2.attr<=e3.attr)) (
    some false) <|
   kB ()) <|
  kB ())
 (a0.length - 1) 1 () λs1 =>
 some true
def gA (a0:aG):Option Int :=
 cond (decide (500<((a0.ax.length:Nat):Int))) (
  some 3) <|
 cond (decide (500<((a0.aD.length:Nat):Int))) (
  some 3) <|
 cond (decide (500<((a0.aQ.length:Nat):Int))) (
  some 3) <|
 cond (decide (500<((a0.aM.length:Nat):Int))) (
  some 3) <|
 cond (decide (500<((a0.values.length:Nat):Int))) (
  some 3) <|
 thn (dG a0.ax) λr1 =>
 cond r1 (
  thn (dH a0.aD) λr2 =>
  cond r2 (
   thn (dG a0.aQ) λr3 =>
   cond r3 (
    thn (dH a0.aM) λr4 =>
    cond r4 (
     thn (ew a0.values) λr5 =>
     cond r5 (
      some 0) <|
     some 12) <|
    some 12) <|
   some 12) <|
  some 12) <|
 some 12
def gh (a0:az) (a1:Int):Option aj :=
 thn (oI a0.nodes a1) λe2 =>
 thn (oI a0.host.graph.nodes a1) λe3 =>
 thn (oI a0.host.values a1) λe4 =>
 cU (e4.length<=68719476736) <|
 some (⟨e2,e3,e4⟩:aj)
def cZ (a0:az) (a1:Int):Option ak :=
 thn (oI a0.host.graph.au a1) λe2 =>
 thn (oI a0.au a1) λe3 =>
 thn (oI a0.nodes e2.src) λe4 =>
 thn (oI a0.nodes e2.dst) λe5 =>
 some (⟨e3,e2.type,e4,e5⟩:ak)
def fC (a0:az):Option aP :=
 cU (a0.nodes.length<=fuel) <|
 bP (λi1 (s1:(List aj)) kB tD =>
  thn (gh a0 ((i1:Nat):Int)) λr2 =>
  cU (s1.length+1<=68719476736) <|
  kB (s1++[r2]))
 (a0.nodes.length - 0) 0 ([]:List aj) λs1 =>
 cU (a0.au.length<=fuel) <|
 bP (λi3 (s3:(List ak)) ia qm =>
  thn (cZ a0 ((i3:Nat):Int)) λr4 =>
  cU (s3.length+1<=68719476736) <|
  ia (s3++[r4]))
 (a0.au.length - 0) 0 ([]:List ak) λs3 =>
 some (⟨s1,s3⟩:aP)
def cL (a0:aP) (a1:ak):Option (aP×Bool) :=
 cU (a0.au.length<=fuel) <|
 bP (λi2 (s2:Unit) c8 jm =>
  thn (a0.au[i2]?) λe3 =>
  cond (decide (e3.id=a1.id)&&(decide (e3.type=a1.type)&&(decide (e3.src=a1.src)&&decide (e3.dst=a1.dst)))) (
   cU ((0:Int)<=0/\0<=((i2:Nat):Int)/\((i2:Nat):Int)<=(a0.au.length:Int)) <|
   cU ((a0.au.take i2).length<=68719476736) <|
   cU ((0:Int)<=(IntKind.i64.wrap (((i2:Nat):Int)+1))/\(IntKind.i64.wrap (((i2:Nat):Int)+1))<=((a0.au.length:Nat):Int)/\((a0.au.length:Nat):Int)<=(a0.au.length:Int)) <|
   cU ((a0.au.take i2).length+(a0.au.drop (IntKind.i64.wrap (((i2:Nat):Int)+1)).toNat).length<=68719476736) <|
   some ((⟨a0.nodes,((a0.au.take i2)++(a0.au.drop (IntKind.i64.wrap (((i2:Nat):Int)+1)).toNat))⟩:aP),true)) <|
  c8 ())
 (a0.au.length - 0) 0 () λs2 =>
 some (a0,false)
def c9 (a0:List Int) (a1:List Int):Option Bool :=
 cond (decide (((a0.length:Nat):Int)=((a1.length:Nat):Int))) (
  cU (a0.length<=fuel) <|
  bP (λi2 (s2:Unit) c8 jm =>
   thn (a0[i2]?) λe3 =>
   thn (a1[i2]?) λe4 =>
   cond (decide (e3=e4)) (
    c8 ()) <|
   some false)
  (a0.length - 0) 0 () λs2 =>
  some true) <|
 some false
def eM (a0:aj) (a1:aj):Option Bool :=
 cond (decide (a0.id=a1.id)) (
  cond (decide (a0.type=a1.type)) (
   thn (c9 a0.values a1.values) λr2 =>
   some r2) <|
  some false) <|
 some false
def cq (a0:aP) (a1:aj):Option (aP×Bool) :=
 cU (a0.nodes.length<=fuel) <|
 bP (λi2 (s2:Unit) c8 jm =>
  thn (a0.nodes[i2]?) λe3 =>
  thn (eM e3 a1) λr4 =>
  cond r4 (
   cU ((0:Int)<=0/\0<=((i2:Nat):Int)/\((i2:Nat):Int)<=(a0.nodes.length:Int)) <|
   cU ((0:Int)<=(IntKind.i64.wrap (((i2:Nat):Int)+1))/\(IntKind.i64.wrap (((i2:Nat):Int)+1))<=((a0.nodes.length:Nat):Int)/\((a0.nodes.length:Nat):Int)<=(a0.nodes.length:Int)) <|
   cU ((a0.nodes.take i2).length<=68719476736) <|
   cU ((a0.nodes.take i2).length+(a0.nodes.drop (IntKind.i64.wrap (((i2:Nat):Int)+1)).toNat).length<=68719476736) <|
   some ((⟨((a0.nodes.take i2)++(a0.nodes.drop (IntKind.i64.wrap (((i2:Nat):Int)+1)).toNat)),a0.au⟩:aP),true)) <|
  c8 ())
 (a0.nodes.length - 0) 0 () λs2 =>
 some (a0,false)
def cD (a0:aP) (a1:aO):Option (aP×Bool) :=
 cU (a0.nodes.length<=fuel) <|
 bP (λi2 (s2:(List aj)×Bool) c8 jm =>
  thn (a0.nodes[i2]?) λe3 =>
  cond (decide (e3.id=a1.id)) (
   cond (decide (0<=a1.attr)) (
    cond (decide (a1.attr<((e3.values.length:Nat):Int))) (
     thn (oI e3.values a1.attr) λe4 =>
     cond (decide (e4=a1.old)) (
      cond (decide (a1.old=a1.new)) (
       cU (s2.1.length+1<=68719476736) <|
       c8 ((s2.1++[e3]),s2.2)) <|
      cU (e3.values.length<=68719476736) <|
      cU (s2.1.length+1<=68719476736) <|
      c8 ((s2.1++[(⟨e3.id,e3.type,(e3.values.set a1.attr.toNat a1.new)⟩:aj)]),true)) <|
     cU (s2.1.length+1<=68719476736) <|
     c8 ((s2.1++[e3]),s2.2)) <|
    cU (s2.1.length+1<=68719476736) <|
    c8 ((s2.1++[e3]),s2.2)) <|
   cU (s2.1.length+1<=68719476736) <|
   c8 ((s2.1++[e3]),s2.2)) <|
  cU (s2.1.length+1<=68719476736) <|
  c8 ((s2.1++[e3]),s2.2))
 (a0.nodes.length - 0) 0 (([]:List aj),false) λs2 =>
 some ((⟨s2.1,a0.au⟩:aP),s2.2)
def fm (a0:aP) (a1:aG):Option (aP×Bool) :=
 iter (λ(s2:Bool×Int×(List aj)×(List ak)) c8 jm =>
  cond (decide (s2.2.1<((a1.aD.length:Nat):Int))) (
   cond s2.1 (
    thn (oI a1.aD s2.2.1) λe3 =>
    thn (cL (⟨s2.2.2.1,s2.2.2.2⟩:aP) e3) λr4 =>
    c8 (r4.2,(IntKind.i64.wrap (s2.2.1+1)),r4.1.nodes,r4.1.au)) <|
   jm (s2.1,s2.2.1,s2.2.2.1,s2.2.2.2)) <|
  jm (s2.1,s2.2.1,s2.2.2.1,s2.2.2.2))
 fuel (true,0,a0.nodes,a0.au) λs2 =>
 iter (λ(s5:Bool×Int×(List aj)×(List ak)) rD abZ =>
  cond (decide (s5.2.1<((a1.ax.length:Nat):Int))) (
   cond s5.1 (
    thn (oI a1.ax s5.2.1) λe6 =>
    thn (cq (⟨s5.2.2.1,s5.2.2.2⟩:aP) e6) λr7 =>
    rD (r7.2,(IntKind.i64.wrap (s5.2.1+1)),r7.1.nodes,r7.1.au)) <|
   abZ (s5.1,s5.2.1,s5.2.2.1,s5.2.2.2)) <|
  abZ (s5.1,s5.2.1,s5.2.2.1,s5.2.2.2))
 fuel (s2.1,0,s2.2.2.1,s2.2.2.2) λs5 =>
 iter (λ(s8:Bool×Int×(List aj)×(List ak)) tC abV =>
  cond (decide (s8.2.1<((a1.values.length:Nat):Int))) (
   cond s8.1 (
    thn (oI a1.values s8.2.1) λe9 =>
    thn (cD (⟨s8.2.2.1,s8.2.2.2⟩:aP) e9) λwk =>
    tC (wk.2,(IntKind.i64.wrap (s8.2.1+1)),wk.1.nodes,wk.1.au)) <|
   abV (s8.1,s8.2.1,s8.2.2.1,s8.2.2.2)) <|
  abV (s8.1,s8.2.1,s8.2.2.1,s8.2.2.2))
 fuel (s5.1,0,s5.2.2.1,s5.2.2.2) λs8 =>
 some ((⟨s8.2.2.1,s8.2.2.2⟩:aP),s8.1)
def eo (a0:aP) (a1:Int):Option Bool :=
 cU (a0.nodes.length<=fuel) <|
 bP (λi2 (s2:Unit) c8 jm =>
  thn (a0.nodes[i2]?) λe3 =>
  cond (decide (e3.id=a1)) (
   some true) <|
  c8 ())
 (a0.nodes.length - 0) 0 () λs2 =>
 cU (a0.au.length<=fuel) <|
 bP (λi4 (s4:Unit) qo ag2 =>
  thn (a0.au[i4]?) λe5 =>
  cond (decide (e5.id=a1)) (
   some true) <|
  qo ())
 (a0.au.length - 0) 0 () λs4 =>
 some false
def fo (a0:aP) (a1:aG):Option (aP×Bool) :=
 cU (a1.aQ.length<=fuel) <|
 bP (λi2 (s2:Unit) c8 jm =>
  thn (a1.aQ[i2]?) λe3 =>
  thn (eo a0 e3.id) λr4 =>
  cond r4 (
   some (a0,false)) <|
  c8 ())
 (a1.aQ.length - 0) 0 () λs2 =>
 cU (a1.aM.length<=fuel) <|
 bP (λi5 (s5:Unit) rD abZ =>
  thn (a1.aM[i5]?) λe6 =>
  thn (eo a0 e6.id) λr7 =>
  cond r7 (
   some (a0,false)) <|
  rD ())
 (a1.aM.length - 0) 0 () λs5 =>
 iter (λ(s8:Int×Int×(List aj)) tC abV =>
  cond (decide (s8.2.1<=((a0.nodes.length:Nat):Int))) (
   iter (λ(s9:Int×(List aj)) ak6 awW =>
    cond (decide (s9.1<((a1.aQ.length:Nat):Int))) (
     cond (decide (s8.2.1=((a0.nodes.length:Nat):Int))) (
      thn (oI a1.aQ s9.1) λe10 =>
      cU (s9.2.length+1<=68719476736) <|
      ak6 ((IntKind.i64.wrap (s9.1+1)),(s9.2++[e10]))) <|
     thn (oI a1.aQ s9.1) λe11 =>
     thn (oI a0.nodes s8.2.1) λvB =>
     cond (decide (e11.id<vB.id)) (
      cU (s9.2.length+1<=68719476736) <|
      ak6 ((IntKind.i64.wrap (s9.1+1)),(s9.2++[e11]))) <|
     awW (s9.1,s9.2)) <|
    awW (s9.1,s9.2))
   fuel (s8.1,s8.2.2) λs9 =>
   cond (decide (s8.2.1<((a0.nodes.length:Nat):Int))) (
    thn (oI a0.nodes s8.2.1) λe13 =>
    cU (s9.2.length+1<=68719476736) <|
    tC (s9.1,(IntKind.i64.wrap (s8.2.1+1)),(s9.2++[e13]))) <|
   tC (s9.1,(IntKind.i64.wrap (s8.2.1+1)),s9.2)) <|
  abV (s8.1,s8.2.1,s8.2.2))
 fuel (0,0,([]:List aj)) λs8 =>
 iter (λ(vQ:Int×Int×(List ak)) uV aiA =>
  cond (decide (vQ.2.1<=((a0.au.length:Nat):Int))) (
   iter (λ(xo:Int×(List ak)) aaR aoc =>
    cond (decide (xo.1<((a1.aM.length:Nat):Int))) (
     cond (decide (vQ.2.1=((a0.au.length:Nat):Int))) (
      thn (oI a1.aM xo.1) λe16 =>
      cU (xo.2.length+1<=68719476736) <|
      aaR ((IntKind.i64.wrap (xo.1+1)),(xo.2++[e16]))) <|
     thn (oI a1.aM xo.1) λe17 =>
     thn (oI a0.au vQ.2.1) λe18 =>
     cond (decide (e17.id<e18.id)) (
      cU (xo.2.length+1<=68719476736) <|
      aaR ((IntKind.i64.wrap (xo.1+1)),(xo.2++[e17]))) <|
     aoc (xo.1,xo.2)) <|
    aoc (xo.1,xo.2))
   fuel (vQ.1,vQ.2.2) λxo =>
   cond (decide (vQ.2.1<((a0.au.length:Nat):Int))) (
    thn (oI a0.au vQ.2.1) λxG =>
    cU (xo.2.length+1<=68719476736) <|
    uV (xo.1,(IntKind.i64.wrap (vQ.2.1+1)),(xo.2++[xG]))) <|
   uV (xo.1,(IntKind.i64.wrap (vQ.2.1+1)),xo.2)) <|
  aiA (vQ.1,vQ.2.1,vQ.2.2))
 fuel (0,0,([]:List ak)) λvQ =>
 some ((⟨s8.2.2,vQ.2.2⟩:aP),true)
def ez (a0:aP) (a1:Int):Option az :=
 cU (a0.nodes.length<=fuel) <|
 bP (λi2 (s2:(List Int)×(List (List Int))×(List Int)) c8 jm =>
  thn (a0.nodes[i2]?) λe3 =>
  cU (s2.2.2.length+1<=68719476736) <|
  cU (s2.1.length+1<=68719476736) <|
  cU (e3.values.length<=68719476736) <|
  cU (s2.2.1.length+1<=68719476736) <|
  c8 ((s2.1++[e3.type]),(s2.2.1++[e3.values]),(s2.2.2++[e3.id])))
 (a0.nodes.length - 0) 0 (([]:List Int),([]:List (List Int)),([]:List Int)) λs2 =>
 cU (a0.au.length<=fuel) <|
 bP (λi4 (s4:(List Edge)×(List Int)) qo ag2 =>
  thn (a0.au[i4]?) λe5 =>
  cU (s4.2.length+1<=68719476736) <|
  thn (bQ s2.2.2 e5.src) λr6 =>
  thn (bQ s2.2.2 e5.dst) λr7 =>
  cU (s4.1.length+1<=68719476736) <|
  qo ((s4.1++[(⟨e5.type,r6,r7⟩:Edge)]),(s4.2++[e5.id])))
 (a0.au.length - 0) 0 (([]:List Edge),([]:List Int)) λs4 =>
 some (⟨(⟨(⟨s2.1,s4.1⟩:dI),s2.2.1⟩:Host),s2.2.2,s4.2,a1⟩:az)
def eX (a0:Types) (a1:az) (a2:aG):Option (az×Int) :=
 thn (gA a2) λr3 =>
 cond (decide (r3=0)) (
  cond (decide (a2.next.x0=a1.next)) (
   thn (fC (⟨a1.host,a1.nodes,a1.au,a1.next⟩:az)) λr4 =>
   thn (fm r4 a2) λr5 =>
   cond r5.2 (
    thn (fo r5.1 a2) λr6 =>
    cond r6.2 (
     thn (ez r6.1 a2.next.x1) λr7 =>
     thn (cg (⟨a0.nodes,a0.au⟩:Types) r7) λr8 =>
     cond (decide (r8=0)) (
      some (r7,0)) <|
     some ((⟨(⟨(⟨([]:List Int),([]:List Edge)⟩:dI),([]:List (List Int))⟩:Host),([]:List Int),([]:List Int),0⟩:az),1)) <|
    some ((⟨(⟨(⟨([]:List Int),([]:List Edge)⟩:dI),([]:List (List Int))⟩:Host),([]:List Int),([]:List Int),0⟩:az),11)) <|
   some ((⟨(⟨(⟨([]:List Int),([]:List Edge)⟩:dI),([]:List (List Int))⟩:Host),([]:List Int),([]:List Int),0⟩:az),11)) <|
  some ((⟨(⟨(⟨([]:List Int),([]:List Edge)⟩:dI),([]:List (List Int))⟩:Host),([]:List Int),([]:List Int),0⟩:az),11)) <|
 some ((⟨(⟨(⟨([]:List Int),([]:List Edge)⟩:dI),([]:List (List Int))⟩:Host),([]:List Int),([]:List Int),0⟩:az),r3)
def bE (a0:Types) (a1:az) (a2:aG):Option (az×Int) :=
 thn (cg (⟨a0.nodes,a0.au⟩:Types) (⟨a1.host,a1.nodes,a1.au,a1.next⟩:az)) λr3 =>
 cond (decide (r3=0)) (
  thn (eX (⟨a0.nodes,a0.au⟩:Types) (⟨a1.host,a1.nodes,a1.au,a1.next⟩:az) a2) λr4 =>
  some (r4.1,r4.2)) <|
 some ((⟨(⟨(⟨([]:List Int),([]:List Edge)⟩:dI),([]:List (List Int))⟩:Host),([]:List Int),([]:List Int),0⟩:az),r3)
def fP (a0:aG):Option Bool :=
 cU (a0.aQ.length<=fuel) <|
 bP (λi1 (s1:Unit) kB tD =>
  thn (a0.aQ[i1]?) λe2 =>
  cond (decide (e2.id<a0.next.x0)) (
   some false) <|
  kB ())
 (a0.aQ.length - 0) 0 () λs1 =>
 cU (a0.aM.length<=fuel) <|
 bP (λi3 (s3:Unit) ia qm =>
  thn (a0.aM[i3]?) λe4 =>
  cond (decide (e4.id<a0.next.x0)) (
   some false) <|
  ia ())
 (a0.aM.length - 0) 0 () λs3 =>
 some (decide (a0.next.x0<=a0.next.x1))
def dm (a0:Types) (a1:az) (a2:aG) (a3:aG):Option Int :=
 thn (bE (⟨a0.nodes,a0.au⟩:Types) (⟨a1.host,a1.nodes,a1.au,a1.next⟩:az) a2) λr4 =>
 cond (decide (r4.2=0)) (
  thn (bE (⟨a0.nodes,a0.au⟩:Types) (⟨a1.host,a1.nodes,a1.au,a1.next⟩:az) a3) λr5 =>
  cond (decide (r5.2=0)) (
   thn (fP a2) λr6 =>
   cond r6 (
    thn (fP a3) λr7 =>
    cond r7 (
     cond (decide (1000000<(IntKind.i64.wrap ((IntKind.i64.wrap (a2.next.x1+a3.next.x1)) - a3.next.x0)))) (
      some 6) <|
     some 0) <|
    some 8) <|
   some 8) <|
  some r5.2) <|
 some r4.2
def bA (a0:aG) (a1:Int):Option Bool :=
 cU (a0.ax.length<=fuel) <|
 bP (λi2 (s2:Unit) c8 jm =>
  thn (a0.ax[i2]?) λe3 =>
  cond (decide (e3.id=a1)) (
   some true) <|
  c8 ())
 (a0.ax.length - 0) 0 () λs2 =>
 some false
def fc (a0:aG) (a1:Int):Option Bool :=
 cU (a0.aM.length<=fuel) <|
 bP (λi2 (s2:Unit) c8 jm =>
  thn (a0.aM[i2]?) λe3 =>
  cond (decide (e3.src=a1)) (
   some true) <|
  cond (decide (e3.dst=a1)) (
   some true) <|
  c8 ())
 (a0.aM.length - 0) 0 () λs2 =>
 some false
def bX (a0:aG) (a1:Int) (a2:Int):Option (aO×Bool) :=
 cU (a0.values.length<=fuel) <|
 bP (λi3 (s3:Unit) ia qm =>
  thn (a0.values[i3]?) λe4 =>
  cond (decide (e4.id=a1)) (
   cond (decide (e4.attr=a2)) (
    some (e4,true)) <|
   ia ()) <|
  ia ())
 (a0.values.length - 0) 0 () λs3 =>
 some ((⟨0,0,0,0⟩:aO),false)
def cK (a0:az) (a1:aG) (a2:aG):Option (List aI) :=
 cU (a0.nodes.length<=fuel) <|
 bP (λi3 (s3:(List aI)) ia qm =>
  thn (a0.nodes[i3]?) λe4 =>
  thn (bA a1 e4) λr5 =>
  cond r5 (
   thn (fc a2 e4) λr6 =>
   cond r6 (
    cU (s3.length+1<=68719476736) <|
    ia (s3++[(⟨1,e4,(-1)⟩:aI)])) <|
   thn (bA a2 e4) λr7 =>
   cond r7 (
    thn (fc a1 e4) λr8 =>
    cond r8 (
     cU (s3.length+1<=68719476736) <|
     ia (s3++[(⟨1,e4,(-1)⟩:aI)])) <|
    ia s3) <|
   ia s3) <|
  thn (bA a2 e4) λr9 =>
  cond r9 (
   thn (fc a1 e4) λwk =>
   cond wk (
    cU (s3.length+1<=68719476736) <|
    ia (s3++[(⟨1,e4,(-1)⟩:aI)])) <|
   ia s3) <|
  ia s3)
 (a0.nodes.length - 0) 0 ([]:List aI) λs3 =>
 cU (a0.nodes.length<=fuel) <|
 bP (λi11 (s11:(List aI)) aaQ awU =>
  thn (a0.nodes[i11]?) λvB =>
  iter (λ(tT:Int×(List aI)) wm awX =>
   thn (a0.host.values[i11]?) λe14 =>
   cond (decide (tT.1<((e14.length:Nat):Int))) (
    thn (bX (⟨a1.ax,a1.aD,a1.aQ,a1.aM,a1.values,a1.next⟩:aG) vB tT.1) λr15 =>
    thn (bX (⟨a2.ax,a2.aD,a2.aQ,a2.aM,a2.values,a2.next⟩:aG) vB tT.1) λr16 =>
    thn (bA (⟨a1.ax,a1.aD,a1.aQ,a1.aM,a1.values,a1.next⟩:aG) vB) λr17 =>
    cond r17 (
     cond r16.2 (
      cU (tT.2.length+1<=68719476736) <|
      wm ((IntKind.i64.wrap (tT.1+1)),(tT.2++[(⟨2,vB,tT.1⟩:aI)]))) <|
     thn (bA (⟨a2.ax,a2.aD,a2.aQ,a2.aM,a2.values,a2.next⟩:aG) vB) λr18 =>
     cond r18 (
      cond r15.2 (
       cU (tT.2.length+1<=68719476736) <|
       wm ((IntKind.i64.wrap (tT.1+1)),(tT.2++[(⟨2,vB,tT.1⟩:aI)]))) <|
      wm ((IntKind.i64.wrap (tT.1+1)),tT.2)) <|
     wm ((IntKind.i64.wrap (tT.1+1)),tT.2)) <|
    thn (bA (⟨a2.ax,a2.aD,a2.aQ,a2.aM,a2.values,a2.next⟩:aG) vB) λr19 =>
    cond r19 (
     cond r15.2 (
      cU (tT.2.length+1<=68719476736) <|
      wm ((IntKind.i64.wrap (tT.1+1)),(tT.2++[(⟨2,vB,tT.1⟩:aI)]))) <|
     wm ((IntKind.i64.wrap (tT.1+1)),tT.2)) <|
    wm ((IntKind.i64.wrap (tT.1+1)),tT.2)) <|
   awX (tT.1,tT.2))
  fuel (0,s11) λtT =>
  aaQ tT.2)
 (a0.nodes.length - 0) 0 s3 λs11 =>
 cU (a1.values.length<=fuel) <|
 bP (λi20 (s20:(List aI)) aod aFY =>
  thn (a1.values[i20]?) λe21 =>
  thn (bX (⟨a2.ax,a2.aD,a2.aQ,a2.aM,a2.values,a2.next⟩:aG) e21.id e21.attr) λr22 =>
  cond r22.2 (
   cond (decide (r22.1.new=e21.new)) (
    aod s20) <|
   cU (s20.length+1<=68719476736) <|
   aod (s20++[(⟨3,e21.id,e21.attr⟩:aI)])) <|
  aod s20)
 (a1.values.length - 0) 0 s11 λs20 =>
 some s20
def dO (a0:Int) (a1:Int) (a2:Int):Option Int :=
 cond (decide (a1<=a0)) (
  some (IntKind.i64.wrap (a0+a2))) <|
 some a0
def dV (a0:aG) (a1:aG):Option aG :=
 thn (bB a1) λr2 =>
 iter (λ(s3:Int×(List aj)) ia qm =>
  cond (decide (s3.1<((s3.2.length:Nat):Int))) (
   thn (oI s3.2 s3.1) λe4 =>
   thn (dO e4.id a1.next.x0 (IntKind.i64.wrap (a0.next.x1 - a0.next.x0))) λr5 =>
   ia ((IntKind.i64.wrap (s3.1+1)),(s3.2.set s3.1.toNat (⟨r5,e4.type,e4.values⟩:aj)))) <|
  qm (s3.1,s3.2))
 fuel (0,r2.aQ) λs3 =>
 iter (λ(s6:Int×(List ak)) mY adv =>
  cond (decide (s6.1<((s6.2.length:Nat):Int))) (
   thn (oI s6.2 s6.1) λe7 =>
   thn (dO e7.id a1.next.x0 (IntKind.i64.wrap (a0.next.x1 - a0.next.x0))) λr8 =>
   thn (dO e7.src a1.next.x0 (IntKind.i64.wrap (a0.next.x1 - a0.next.x0))) λr9 =>
   thn (dO e7.dst a1.next.x0 (IntKind.i64.wrap (a0.next.x1 - a0.next.x0))) λwk =>
   mY ((IntKind.i64.wrap (s6.1+1)),(s6.2.set s6.1.toNat (⟨r8,e7.type,r9,wk⟩:ak)))) <|
  adv (s6.1,s6.2))
 fuel (0,r2.aM) λs6 =>
 some (⟨r2.ax,r2.aD,s3.2,s6.2,r2.values,(⟨a0.next.x1,(IntKind.i64.wrap ((IntKind.i64.wrap (a0.next.x1+a1.next.x1)) - a1.next.x0))⟩:dZ)⟩:aG)
def iD (a0:aG) (a1:Int):Option Bool :=
 cU (a0.aD.length<=fuel) <|
 bP (λi2 (s2:Unit) c8 jm =>
  thn (a0.aD[i2]?) λe3 =>
  cond (decide (e3.id=a1)) (
   some true) <|
  c8 ())
 (a0.aD.length - 0) 0 () λs2 =>
 some false
def gi (a0:aG) (a1:aG):Option aG :=
 thn (bB a1) λr2 =>
 cU (a1.ax.length<=fuel) <|
 bP (λi3 (s3:(List aj)) ia qm =>
  thn (a1.ax[i3]?) λe4 =>
  thn (bA a0 e4.id) λr5 =>
  cond r5 (
   ia s3) <|
  cU (s3.length+1<=68719476736) <|
  ia (s3++[e4]))
 (a1.ax.length - 0) 0 ([]:List aj) λs3 =>
 cU (a1.aD.length<=fuel) <|
 bP (λi6 (s6:(List ak)) mY adv =>
  thn (a1.aD[i6]?) λe7 =>
  thn (iD a0 e7.id) λr8 =>
  cond r8 (
   mY s6) <|
  cU (s6.length+1<=68719476736) <|
  mY (s6++[e7]))
 (a1.aD.length - 0) 0 ([]:List ak) λs6 =>
 cU (a1.values.length<=fuel) <|
 bP (λi9 (s9:(List aO)) ak6 awW =>
  thn (a1.values[i9]?) λe10 =>
  thn (bX a0 e10.id e10.attr) λr11 =>
  cond r11.2 (
   ak6 s9) <|
  cU (s9.length+1<=68719476736) <|
  ak6 (s9++[e10]))
 (a1.values.length - 0) 0 ([]:List aO) λs9 =>
 some (⟨s3,s6,r2.aQ,r2.aM,s9,r2.next⟩:aG)
def dA (a0:aG) (a1:az):Option aG :=
 thn (bB a0) λr2 =>
 iter (λ(s3:Int×(List aj)) ia qm =>
  cond (decide (s3.1<((s3.2.length:Nat):Int))) (
   cU (a1.nodes.length<=fuel) <|
   bP (λi4 (s4:(List aj)) qo ag2 =>
    thn (a1.nodes[i4]?) λe5 =>
    thn (oI s4 s3.1) λe6 =>
    cond (decide (e5=e6.id)) (
     thn (a1.host.values[i4]?) λe7 =>
     cU (e7.length<=68719476736) <|
     qo (s4.set s3.1.toNat (⟨e6.id,e6.type,e7⟩:aj))) <|
    qo s4)
   (a1.nodes.length - 0) 0 s3.2 λs4 =>
   ia ((IntKind.i64.wrap (s3.1+1)),s4)) <|
  qm (s3.1,s3.2))
 fuel (0,r2.ax) λs3 =>
 some (⟨s3.2,r2.aD,r2.aQ,r2.aM,r2.values,r2.next⟩:aG)
def dF (a0:Types) (a1:az) (a2:aG) (a3:aG):Option (az×Int) :=
 thn (bE a0 a1 a2) λr4 =>
 cond (decide (r4.2=0)) (
  thn (dV (⟨a2.ax,a2.aD,a2.aQ,a2.aM,a2.values,a2.next⟩:aG) a3) λr5 =>
  thn (gi (⟨a2.ax,a2.aD,a2.aQ,a2.aM,a2.values,a2.next⟩:aG) r5) λr6 =>
  thn (dA r6 r4.1) λr7 =>
  cond (decide (40<(IntKind.i64.wrap ((IntKind.i64.wrap (((r4.1.nodes.length:Nat):Int) - ((r7.ax.length:Nat):Int)))+((r7.aQ.length:Nat):Int))))) (
   some ((⟨(⟨(⟨([]:List Int),([]:List Edge)⟩:dI),([]:List (List Int))⟩:Host),([]:List Int),([]:List Int),0⟩:az),3)) <|
  cond (decide (80<(IntKind.i64.wrap ((IntKind.i64.wrap (((r4.1.au.length:Nat):Int) - ((r7.aD.length:Nat):Int)))+((r7.aM.length:Nat):Int))))) (
   some ((⟨(⟨(⟨([]:List Int),([]:List Edge)⟩:dI),([]:List (List Int))⟩:Host),([]:List Int),([]:List Int),0⟩:az),3)) <|
  thn (bE (⟨a0.nodes,a0.au⟩:Types) r4.1 r7) λr8 =>
  some (r8.1,r8.2)) <|
 some ((⟨(⟨(⟨([]:List Int),([]:List Edge)⟩:dI),([]:List (List Int))⟩:Host),([]:List Int),([]:List Int),0⟩:az),r4.2)
def eO (a0:dI) (a1:Int) (a2:Int) (a3:Bool):Option Int :=
 cU (a0.au.length<=fuel) <|
 bP (λi4 (s4:Int) qo ag2 =>
  thn (a0.au[i4]?) λe5 =>
  cond (decide (e5.type=a1)) (
   cond a3 (
    cond (decide (e5.src=a2)) (
     qo (IntKind.i64.wrap (s4+1))) <|
    qo s4) <|
   cond (decide (e5.dst=a2)) (
    qo (IntKind.i64.wrap (s4+1))) <|
   qo s4) <|
  qo s4)
 (a0.au.length - 0) 0 0 λs4 =>
 some s4
def fT (a0:Types) (a1:Host):Option ((List cu)×Int) :=
 thn (jx a0 a1) λr2 =>
 cond (decide (r2.2=0)) (
  cU (a0.au.length<=fuel) <|
  bP (λi3 (s3:(List cu)) ia qm =>
   thn (a0.au[i3]?) λe4 =>
   cU (2<=fuel) <|
   bP (λi5 (s5:(List cu)) rD abZ =>
    cond (decide (((i5:Nat):Int)=1)) (
     cU (a1.graph.nodes.length<=fuel) <|
     bP (λi6 (s6:(List cu)) mY adv =>
      thn (a1.graph.nodes[i6]?) λe7 =>
      thn (gN a0 e7 e4.dst) λr8 =>
      cond r8 (
       thn (eO a1.graph ((i3:Nat):Int) ((i6:Nat):Int) (decide (((i5:Nat):Int)=0))) λr9 =>
       cond (decide (r9<e4.qi)) (
        cU (s6.length+1<=68719476736) <|
        mY (s6++[(⟨((i3:Nat):Int),((i6:Nat):Int),r9,(decide (((i5:Nat):Int)=0))⟩:cu)])) <|
       cond (decide (0<=e4.mg)) (
        cond (decide (e4.mg<r9)) (
         cU (s6.length+1<=68719476736) <|
         mY (s6++[(⟨((i3:Nat):Int),((i6:Nat):Int),r9,(decide (((i5:Nat):Int)=0))⟩:cu)])) <|
        mY s6) <|
       mY s6) <|
      mY s6)
     (a1.graph.nodes.length - 0) 0 s5 λs6 =>
     rD s6) <|
    cU (a1.graph.nodes.length<=fuel) <|
    bP (λi10 (s10:(List cu)) tF aAW =>
     thn (a1.graph.nodes[i10]?) λe11 =>
     thn (gN a0 e11 e4.src) λr12 =>
     cond r12 (
      thn (eO a1.graph ((i3:Nat):Int) ((i10:Nat):Int) (decide (((i5:Nat):Int)=0))) λr13 =>
      cond (decide (r13<e4.lB)) (
       cU (s10.length+1<=68719476736) <|
       tF (s10++[(⟨((i3:Nat):Int),((i10:Nat):Int),r13,(decide (((i5:Nat):Int)=0))⟩:cu)])) <|
      cond (decide (0<=e4.jd)) (
       cond (decide (e4.jd<r13)) (
        cU (s10.length+1<=68719476736) <|
        tF (s10++[(⟨((i3:Nat):Int),((i10:Nat):Int),r13,(decide (((i5:Nat):Int)=0))⟩:cu)])) <|
       tF s10) <|
      tF s10) <|
     tF s10)
    (a1.graph.nodes.length - 0) 0 s5 λs10 =>
    rD s10)
   (2 - 0) 0 s3 λs5 =>
   ia s5)
  (a0.au.length - 0) 0 ([]:List cu) λs3 =>
  some (s3,0)) <|
 some (([]:List cu),r2.2)
def dc (a0:Types) (a1:az):Option (List bG) :=
 thn (fT a0 a1.host) λr2 =>
 cU (r2.1.length<=fuel) <|
 bP (λi3 (s3:(List bG)) ia qm =>
  thn (r2.1[i3]?) λe4 =>
  thn (oI a1.nodes e4.node) λe5 =>
  cU (s3.length+1<=68719476736) <|
  ia (s3++[(⟨e5,e4.je,e4.out⟩:bG)]))
 (r2.1.length - 0) 0 ([]:List bG) λs3 =>
 some s3
def fU (a0:List bG) (a1:bG):Option Bool :=
 cU (a0.length<=fuel) <|
 bP (λi2 (s2:Unit) c8 jm =>
  thn (a0[i2]?) λe3 =>
  cond (decide (e3.id=a1.id)&&(decide (e3.je=a1.je)&&(e3.out == a1.out))) (
   some true) <|
  c8 ())
 (a0.length - 0) 0 () λs2 =>
 some false
def fD (a0:Types) (a1:az) (a2:aG) (a3:aG) (a4:az):Option (List aI) :=
 thn (bE a0 a1 a2) λr5 =>
 thn (dD a1) λr6 =>
 thn (dV a2 a3) λr7 =>
 thn (bE a0 (⟨r6.host,r6.nodes,r6.au,a2.next.x1⟩:az) r7) λr8 =>
 thn (dc a0 a1) λr9 =>
 thn (dc a0 r5.1) λwk =>
 cU (r9.length+wk.length<=68719476736) <|
 thn (dc a0 r8.1) λr11 =>
 cU (r9.length+wk.length+r11.length<=68719476736) <|
 thn (dc a0 a4) λr12 =>
 cU (a4.nodes.length<=fuel) <|
 bP (λi13 (tT:(List aI)) wm awX =>
  cU (a0.au.length<=fuel) <|
  bP (λi14 (vQ:(List aI)) uV aiA =>
   cU (r12.length<=fuel) <|
   bP (λi15 (xo:Bool) aaR aoc =>
    cond xo (
     aaR true) <|
    thn (r12[i15]?) λe16 =>
    thn (a4.nodes[i13]?) λe17 =>
    cond (decide (e16.id=e17)) (
     cond (decide (e16.je=((i14:Nat):Int))) (
      thn (fU ((r9++wk)++r11) e16) λr18 =>
      aaR (!r18)) <|
     aaR false) <|
    aaR false)
   (r12.length - 0) 0 false λxo =>
   cond xo (
    thn (a4.nodes[i13]?) λxG =>
    cU (vQ.length+1<=68719476736) <|
    uV (vQ++[(⟨4,xG,((i14:Nat):Int)⟩:aI)])) <|
   uV vQ)
  (a0.au.length - 0) 0 tT λvQ =>
  wm vQ)
 (a4.nodes.length - 0) 0 ([]:List aI) λtT =>
 some tT
def fM (a0:Types) (a1:az) (a2:aG) (a3:aG):Option ((List aI)×Int) :=
 thn (dm (⟨a0.nodes,a0.au⟩:Types) (⟨a1.host,a1.nodes,a1.au,a1.next⟩:az) a2 a3) λr4 =>
 cond (decide (r4=0)) (
  thn (cK (⟨a1.host,a1.nodes,a1.au,a1.next⟩:az) (⟨a2.ax,a2.aD,a2.aQ,a2.aM,a2.values,a2.next⟩:aG) a3) λr5 =>
  cond (decide (0<((r5.length:Nat):Int))) (
   some (r5,0)) <|
  thn (dF (⟨a0.nodes,a0.au⟩:Types) a1 (⟨a2.ax,a2.aD,a2.aQ,a2.aM,a2.values,a2.next⟩:aG) a3) λr6 =>
  cond (decide (r6.2=0)) (
   thn (fD a0 a1 a2 a3 r6.1) λr7 =>
   some (r7,0)) <|
  some (([]:List aI),r6.2)) <|
 some (([]:List aI),r4)
def ee (a0:Types) (a1:aZ):Option Bool :=
 thn (bW) λr2 =>
 cond r2 (
  thn (cc (⟨a1.a,a1.p,a1.q⟩:aZ) (⟨a0.nodes,a0.au⟩:Types)) λr3 =>
  cond r3 (
   thn (dD a1.a) λr4 =>
   thn (bB a1.p) λr5 =>
   thn (bB a1.q) λr6 =>
   thn (fL (⟨a0.nodes,a0.au⟩:Types) r4 r5 r6) λr7 =>
   thn (fM a0 a1.a a1.p a1.q) λr8 =>
   cond (decide (r7.2=r8.2)) (
    thn (fB r7.1 r8.1) λr9 =>
    some r9) <|
   some false) <|
  thn (bW) λwk =>
  some wk) <|
 thn (bW) λr11 =>
 some r11
def fV (a0:Types) (a1:az) (a2:aG) (a3:aG):Option (az×Int) :=
 thn (dF a0 a1 a2 a3) λr4 =>
 cond (decide (r4.2=0)) (
  thn (fD a0 a1 a2 a3 r4.1) λr5 =>
  cond (decide (0<((r5.length:Nat):Int))) (
   some ((⟨(⟨(⟨([]:List Int),([]:List Edge)⟩:dI),([]:List (List Int))⟩:Host),([]:List Int),([]:List Int),0⟩:az),11)) <|
  some (r4.1,0)) <|
 some ((⟨(⟨(⟨([]:List Int),([]:List Edge)⟩:dI),([]:List (List Int))⟩:Host),([]:List Int),([]:List Int),0⟩:az),r4.2)
def ij (a0:Types) (a1:az) (a2:aG) (a3:aG):Option (az×Int) :=
 thn (dm a0 a1 a2 a3) λr4 =>
 cond (decide (r4=0)) (
  thn (cK a1 a2 a3) λr5 =>
  cond (decide (0<((r5.length:Nat):Int))) (
   some ((⟨(⟨(⟨([]:List Int),([]:List Edge)⟩:dI),([]:List (List Int))⟩:Host),([]:List Int),([]:List Int),0⟩:az),11)) <|
  thn (fV a0 a1 a2 a3) λr6 =>
  some (r6.1,r6.2)) <|
 some ((⟨(⟨(⟨([]:List Int),([]:List Edge)⟩:dI),([]:List (List Int))⟩:Host),([]:List Int),([]:List Int),0⟩:az),r4)
def iE (a0:dI) (a1:dI):Option Bool :=
 thn (c9 a0.nodes a1.nodes) λr2 =>
 cond r2 (
  cond (decide (((a0.au.length:Nat):Int)=((a1.au.length:Nat):Int))) (
   cU (a0.au.length<=fuel) <|
   bP (λi3 (s3:Unit) ia qm =>
    thn (a0.au[i3]?) λe4 =>
    thn (a1.au[i3]?) λe5 =>
    cond (decide (e4.type=e5.type)&&(decide (e4.src=e5.src)&&decide (e4.dst=e5.dst))) (
     ia ()) <|
    some false)
   (a0.au.length - 0) 0 () λs3 =>
   some true) <|
  some false) <|
 some false
def gB (a0:List Int) (a1:List Int):Option Int :=
 iter (λ(s2:Int) c8 jm =>
  cond (decide (s2<((a0.length:Nat):Int))) (
   cond (decide (s2<((a1.length:Nat):Int))) (
    thn (oI a0 s2) λe3 =>
    thn (oI a1 s2) λe4 =>
    cond (decide (e3=e4)) (
     c8 (IntKind.i64.wrap (s2+1))) <|
    some (IntKind.i64.wrap (e3 - e4))) <|
   jm s2) <|
  jm s2)
 fuel 0 λs2 =>
 some (IntKind.i64.wrap (((a0.length:Nat):Int) - ((a1.length:Nat):Int)))
def iF (a0:Host) (a1:Host):Option Bool :=
 thn (iE a0.graph a1.graph) λr2 =>
 cond r2 (
  cond (decide (((a0.values.length:Nat):Int)=((a1.values.length:Nat):Int))) (
   cU (a0.values.length<=fuel) <|
   bP (λi3 (s3:Unit) ia qm =>
    thn (a0.values[i3]?) λe4 =>
    thn (a1.values[i3]?) λe5 =>
    thn (gB e4 e5) λr6 =>
    cond (decide (r6=0)) (
     ia ()) <|
    some false)
   (a0.values.length - 0) 0 () λs3 =>
   some true) <|
  some false) <|
 some false
def iG (a0:az) (a1:az):Option Bool :=
 thn (iF a0.host a1.host) λr2 =>
 cond r2 (
  thn (c9 a0.nodes a1.nodes) λr3 =>
  cond r3 (
   thn (c9 a0.au a1.au) λr4 =>
   cond r4 (
    some (decide (a0.next=a1.next))) <|
   some false) <|
  some false) <|
 some false
def fq (a0:Types) (a1:aZ):Option Bool :=
 thn (bW) λr2 =>
 cond r2 (
  thn (cc a1 a0) λr3 =>
  cond r3 (
   thn (dD a1.a) λr4 =>
   thn (bB a1.p) λr5 =>
   thn (bB a1.q) λr6 =>
   thn (jh a0 r4 r5 r6) λr7 =>
   thn (ij a0 a1.a a1.p a1.q) λr8 =>
   cond (decide (r7.2=r8.2)) (
    thn (iG r7.1 r8.1) λr9 =>
    some r9) <|
   some false) <|
  thn (bW) λwk =>
  some wk) <|
 thn (bW) λr11 =>
 some r11
def kr (a0:az):Option (List aj) :=
 cU (a0.nodes.length<=fuel) <|
 bP (λi1 (s1:(List aj)) kB tD =>
  thn (a0.nodes[i1]?) λe2 =>
  thn (a0.host.graph.nodes[i1]?) λe3 =>
  thn (a0.host.values[i1]?) λe4 =>
  thn (mh e4) λr5 =>
  cU (s1.length+1<=68719476736) <|
  kB (s1++[(⟨e2,e3,r5⟩:aj)]))
 (a0.nodes.length - 0) 0 ([]:List aj) λs1 =>
 some s1
def jX (a0:aj) (a1:Int):Option Bool:=some (decide (a0.id=a1))
def iY (a0:List aj) (a1:Int):Option Int :=
 thn (dX a0 (λx2=>jX x2 a1)) λr3 =>
 some r3
def jY (a0:ak) (a1:Int):Option Bool:=some (decide (a0.id=a1))
def iZ (a0:List ak) (a1:Int):Option Int :=
 thn (dY a0 (λx2=>jY x2 a1)) λr3 =>
 some r3
def lI (a0:az) (a1:az):Option (aG×Bool) :=
 thn (kr a0) λr2 =>
 thn (jH a0) λr3 =>
 thn (kr a1) λr4 =>
 thn (jH a1) λr5 =>
 cU (r2.length<=fuel) <|
 bP (λi6 (s6:(List aj)×(List aO)) mY adv =>
  thn (r2[i6]?) λe7 =>
  thn (iY r4 e7.id) λr8 =>
  thn (iZ r5 e7.id) λr9 =>
  cond (decide (0<=r9)) (
   some ((⟨([]:List aj),([]:List ak),([]:List aj),([]:List ak),([]:List aO),(⟨0,0⟩:dZ)⟩:aG),false)) <|
  cond (decide (0<=r8)) (
   thn (oI r4 r8) λe10 =>
   cond (decide (e10.type=e7.type)) (
    cond (decide (r8<0)) (
     cU (s6.1.length+1<=68719476736) <|
     mY ((s6.1++[e7]),s6.2)) <|
    cU (e7.values.length<=fuel) <|
    bP (λi11 (s11:(List aO)) aaQ awU =>
     thn (e7.values[i11]?) λvB =>
     thn (e10.values[i11]?) λe13 =>
     cond (decide (vB=e13)) (
      aaQ s11) <|
     cU (s11.length+1<=68719476736) <|
     aaQ (s11++[(⟨e7.id,((i11:Nat):Int),vB,e13⟩:aO)]))
    (e7.values.length - 0) 0 s6.2 λs11 =>
    mY (s6.1,s11)) <|
   some ((⟨([]:List aj),([]:List ak),([]:List aj),([]:List ak),([]:List aO),(⟨0,0⟩:dZ)⟩:aG),false)) <|
  cond (decide (r8<0)) (
   cU (s6.1.length+1<=68719476736) <|
   mY ((s6.1++[e7]),s6.2)) <|
  cU (e7.values.length<=fuel) <|
  bP (λi14 (vQ:(List aO)) uV aiA =>
   thn (e7.values[i14]?) λe15 =>
   thn (oI r4 r8) λe16 =>
   thn (e16.values[i14]?) λe17 =>
   cond (decide (e15=e17)) (
    uV vQ) <|
   cU (vQ.length+1<=68719476736) <|
   uV (vQ++[(⟨e7.id,((i14:Nat):Int),e15,e17⟩:aO)]))
  (e7.values.length - 0) 0 s6.2 λvQ =>
  mY (s6.1,vQ))
 (r2.length - 0) 0 (([]:List aj),([]:List aO)) λs6 =>
 cU (r3.length<=fuel) <|
 bP (λi18 (s18:(List ak)) aiC aFZ =>
  thn (r3[i18]?) λxG =>
  thn (iZ r5 xG.id) λr20 =>
  thn (iY r4 xG.id) λr21 =>
  cond (decide (0<=r21)) (
   some ((⟨([]:List aj),([]:List ak),([]:List aj),([]:List ak),([]:List aO),(⟨0,0⟩:dZ)⟩:aG),false)) <|
  cond (decide (0<=r20)) (
   thn (oI r5 r20) λe22 =>
   cond (decide (e22.id=xG.id)&&(decide (e22.type=xG.type)&&(decide (e22.src=xG.src)&&decide (e22.dst=xG.dst)))) (
    cond (decide (r20<0)) (
     cU (s18.length+1<=68719476736) <|
     aiC (s18++[xG])) <|
    aiC s18) <|
   some ((⟨([]:List aj),([]:List ak),([]:List aj),([]:List ak),([]:List aO),(⟨0,0⟩:dZ)⟩:aG),false)) <|
  cond (decide (r20<0)) (
   cU (s18.length+1<=68719476736) <|
   aiC (s18++[xG])) <|
  aiC s18)
 (r3.length - 0) 0 ([]:List ak) λs18 =>
 cU (r4.length<=fuel) <|
 bP (λi23 (s23:(List aj)) awY aF0 =>
  thn (r4[i23]?) λe24 =>
  thn (iY r2 e24.id) λr25 =>
  cond (decide (r25<0)) (
   cU (s23.length+1<=68719476736) <|
   awY (s23++[e24])) <|
  awY s23)
 (r4.length - 0) 0 ([]:List aj) λs23 =>
 cU (r5.length<=fuel) <|
 bP (λi26 (s26:(List ak)) awZ aF1 =>
  thn (r5[i26]?) λe27 =>
  thn (iZ r3 e27.id) λr28 =>
  cond (decide (r28<0)) (
   cU (s26.length+1<=68719476736) <|
   awZ (s26++[e27])) <|
  awZ s26)
 (r5.length - 0) 0 ([]:List ak) λs26 =>
 some ((⟨s6.1,s18,s23,s26,s6.2,(⟨a0.next,a1.next⟩:dZ)⟩:aG),true)
def lJ (a0:Types) (a1:az) (a2:az):Option (aG×Int) :=
 thn (fh a0 a1) λr3 =>
 cond (decide (r3=0)) (
  thn (fh a0 a2) λr4 =>
  cond (decide (r4=0)) (
   thn (lI a1 a2) λr5 =>
   cond r5.2 (
    some (r5.1,0)) <|
   some ((⟨([]:List aj),([]:List ak),([]:List aj),([]:List ak),([]:List aO),(⟨0,0⟩:dZ)⟩:aG),11)) <|
  some ((⟨([]:List aj),([]:List ak),([]:List aj),([]:List ak),([]:List aO),(⟨0,0⟩:dZ)⟩:aG),r4)) <|
 some ((⟨([]:List aj),([]:List ak),([]:List aj),([]:List ak),([]:List aO),(⟨0,0⟩:dZ)⟩:aG),r3)
def lK (a0:Types) (a1:az) (a2:aG) (a3:aG):Option (aG×Int) :=
 thn (jg a0 a1 a2 a3) λr4 =>
 cond (decide (r4=0)) (
  thn (gW a2 a3) λr5 =>
  cond (decide (0<((r5.length:Nat):Int))) (
   some ((⟨([]:List aj),([]:List ak),([]:List aj),([]:List ak),([]:List aO),(⟨0,0⟩:dZ)⟩:aG),11)) <|
  thn (jW a0 a1 a2 a3) λr6 =>
  cond (decide (r6.2.2=0)) (
   thn (lJ (⟨a0.nodes,a0.au⟩:Types) r6.1 r6.2.1) λr7 =>
   some (r7.1,r7.2)) <|
  some ((⟨([]:List aj),([]:List ak),([]:List aj),([]:List ak),([]:List aO),(⟨0,0⟩:dZ)⟩:aG),r6.2.2)) <|
 some ((⟨([]:List aj),([]:List ak),([]:List aj),([]:List ak),([]:List aO),(⟨0,0⟩:dZ)⟩:aG),r4)
def iq (a0:az) (a1:az):Option Bool :=
 cU (a0.nodes.length<=fuel) <|
 bP (λi2 (s2:Unit) c8 jm =>
  thn (a0.nodes[i2]?) λe3 =>
  thn (bQ a1.nodes e3) λr4 =>
  thn (bQ a1.au e3) λr5 =>
  cond (decide (0<=r5)) (
   some false) <|
  cond (decide (0<=r4)) (
   thn (a0.host.graph.nodes[i2]?) λe6 =>
   thn (oI a1.host.graph.nodes r4) λe7 =>
   cond (decide (e6=e7)) (
    c8 ()) <|
   some false) <|
  c8 ())
 (a0.nodes.length - 0) 0 () λs2 =>
 cU (a0.au.length<=fuel) <|
 bP (λi8 (s8:Unit) tC abV =>
  thn (a0.au[i8]?) λe9 =>
  thn (bQ a1.au e9) λwk =>
  thn (bQ a1.nodes e9) λr11 =>
  cond (decide (0<=r11)) (
   some false) <|
  cond (decide (0<=wk)) (
   thn (cZ a0 ((i8:Nat):Int)) λr12 =>
   thn (cZ a1 wk) λr13 =>
   cond (decide (r12.id=r13.id)&&(decide (r12.type=r13.type)&&(decide (r12.src=r13.src)&&decide (r12.dst=r13.dst)))) (
    tC ()) <|
   some false) <|
  tC ())
 (a0.au.length - 0) 0 () λs8 =>
 some true
def eY (a0:az) (a1:az):Option ((List aj)×(List ak)) :=
 cU (a0.nodes.length<=fuel) <|
 bP (λi2 (s2:(List aj)) c8 jm =>
  thn (a0.nodes[i2]?) λe3 =>
  thn (bQ a1.nodes e3) λr4 =>
  cond (decide (r4<0)) (
   thn (gh a0 ((i2:Nat):Int)) λr5 =>
   cU (s2.length+1<=68719476736) <|
   c8 (s2++[r5])) <|
  c8 s2)
 (a0.nodes.length - 0) 0 ([]:List aj) λs2 =>
 cU (a0.au.length<=fuel) <|
 bP (λi6 (s6:(List ak)) mY adv =>
  thn (a0.au[i6]?) λe7 =>
  thn (bQ a1.au e7) λr8 =>
  cond (decide (r8<0)) (
   thn (cZ a0 ((i6:Nat):Int)) λr9 =>
   cU (s6.length+1<=68719476736) <|
   mY (s6++[r9])) <|
  mY s6)
 (a0.au.length - 0) 0 ([]:List ak) λs6 =>
 some (s2,s6)
def iH (a0:az) (a1:az):Option (aG×Bool) :=
 thn (iq a0 a1) λr2 =>
 cond r2 (
  thn (eY a0 a1) λr3 =>
  thn (eY a1 a0) λr4 =>
  cU (a0.nodes.length<=fuel) <|
  bP (λi5 (s5:(List aO)) rD abZ =>
   thn (a0.nodes[i5]?) λe6 =>
   thn (bQ a1.nodes e6) λr7 =>
   cond (decide (r7<0)) (
    rD s5) <|
   iter (λ(s8:Int×(List aO)) tC abV =>
    thn (a0.host.values[i5]?) λe9 =>
    cond (decide (s8.1<((e9.length:Nat):Int))) (
     thn (oI e9 s8.1) λe10 =>
     thn (oI a1.host.values r7) λe11 =>
     thn (oI e11 s8.1) λvB =>
     cond (decide (e10=vB)) (
      tC ((IntKind.i64.wrap (s8.1+1)),s8.2)) <|
     cU (s8.2.length+1<=68719476736) <|
     tC ((IntKind.i64.wrap (s8.1+1)),(s8.2++[(⟨e6,s8.1,e10,vB⟩:aO)]))) <|
    abV (s8.1,s8.2))
   fuel (0,s5) λs8 =>
   rD s8.2)
  (a0.nodes.length - 0) 0 ([]:List aO) λs5 =>
  some ((⟨r3.1,r3.2,r4.1,r4.2,s5,(⟨a0.next,a1.next⟩:dZ)⟩:aG),true)) <|
 some ((⟨([]:List aj),([]:List ak),([]:List aj),([]:List ak),([]:List aO),(⟨0,0⟩:dZ)⟩:aG),false)
def gj (a0:Types) (a1:az) (a2:az):Option (aG×Int) :=
 thn (cg a0 a1) λr3 =>
 cond (decide (r3=0)) (
  thn (cg a0 a2) λr4 =>
  cond (decide (r4=0)) (
   thn (iH a1 a2) λr5 =>
   cond r5.2 (
    some (r5.1,0)) <|
   some ((⟨([]:List aj),([]:List ak),([]:List aj),([]:List ak),([]:List aO),(⟨0,0⟩:dZ)⟩:aG),11)) <|
  some ((⟨([]:List aj),([]:List ak),([]:List aj),([]:List ak),([]:List aO),(⟨0,0⟩:dZ)⟩:aG),r4)) <|
 some ((⟨([]:List aj),([]:List ak),([]:List aj),([]:List ak),([]:List aO),(⟨0,0⟩:dZ)⟩:aG),r3)
def fE (a0:Types) (a1:az) (a2:aG) (a3:aG):Option (aG×Int) :=
 thn (dm a0 a1 a2 a3) λr4 =>
 cond (decide (r4=0)) (
  thn (cK a1 a2 a3) λr5 =>
  cond (decide (0<((r5.length:Nat):Int))) (
   some ((⟨([]:List aj),([]:List ak),([]:List aj),([]:List ak),([]:List aO),(⟨0,0⟩:dZ)⟩:aG),11)) <|
  thn (dF a0 a1 a2 a3) λr6 =>
  cond (decide (r6.2=0)) (
   thn (bE a0 a1 a2) λr7 =>
   thn (gj (⟨a0.nodes,a0.au⟩:Types) r7.1 r6.1) λr8 =>
   some (r8.1,r8.2)) <|
  some ((⟨([]:List aj),([]:List ak),([]:List aj),([]:List ak),([]:List aO),(⟨0,0⟩:dZ)⟩:aG),r6.2)) <|
 some ((⟨([]:List aj),([]:List ak),([]:List aj),([]:List ak),([]:List aO),(⟨0,0⟩:dZ)⟩:aG),r4)
def ep (a0:List aj) (a1:List aj):Option Bool :=
 cond (decide (((a0.length:Nat):Int)=((a1.length:Nat):Int))) (
  cU (a0.length<=fuel) <|
  bP (λi2 (s2:Unit) c8 jm =>
   thn (a0[i2]?) λe3 =>
   thn (a1[i2]?) λe4 =>
   thn (eM e3 e4) λr5 =>
   cond r5 (
    c8 ()) <|
   some false)
  (a0.length - 0) 0 () λs2 =>
  some true) <|
 some false
def er (a0:List ak) (a1:List ak):Option Bool :=
 cond (decide (((a0.length:Nat):Int)=((a1.length:Nat):Int))) (
  cU (a0.length<=fuel) <|
  bP (λi2 (s2:Unit) c8 jm =>
   thn (a0[i2]?) λe3 =>
   thn (a1[i2]?) λe4 =>
   cond (decide (e3.id=e4.id)&&(decide (e3.type=e4.type)&&(decide (e3.src=e4.src)&&decide (e3.dst=e4.dst)))) (
    c8 ()) <|
   some false)
  (a0.length - 0) 0 () λs2 =>
  some true) <|
 some false
def fN (a0:aG) (a1:aG):Option Bool :=
 thn (ep a0.ax a1.ax) λr2 =>
 cond r2 (
  thn (ep a0.aQ a1.aQ) λr3 =>
  cond r3 (
   thn (er a0.aD a1.aD) λr4 =>
   cond r4 (
    thn (er a0.aM a1.aM) λr5 =>
    cond r5 (
     cond (decide (((a0.values.length:Nat):Int)=((a1.values.length:Nat):Int))) (
      cU (a0.values.length<=fuel) <|
      bP (λi6 (s6:Unit) mY adv =>
       thn (a0.values[i6]?) λe7 =>
       thn (a1.values[i6]?) λe8 =>
       cond (decide (e7.id=e8.id)&&(decide (e7.attr=e8.attr)&&(decide (e7.old=e8.old)&&decide (e7.new=e8.new)))) (
        mY ()) <|
       some false)
      (a0.values.length - 0) 0 () λs6 =>
      some (decide (a0.next.x0=a1.next.x0)&&decide (a0.next.x1=a1.next.x1))) <|
     some false) <|
    some false) <|
   some false) <|
  some false) <|
 some false
def eV (a0:Types) (a1:aZ):Option Bool :=
 thn (bW) λr2 =>
 cond r2 (
  thn (cc a1 a0) λr3 =>
  cond r3 (
   thn (dD a1.a) λr4 =>
   thn (bB a1.p) λr5 =>
   thn (bB a1.q) λr6 =>
   thn (lK (⟨a0.nodes,a0.au⟩:Types) r4 r5 r6) λr7 =>
   thn (fE (⟨a0.nodes,a0.au⟩:Types) a1.a a1.p a1.q) λr8 =>
   cond (decide (r7.2=r8.2)) (
    thn (fN r7.1 r8.1) λr9 =>
    some r9) <|
   some false) <|
  thn (bW) λwk =>
  some wk) <|
 thn (bW) λr11 =>
 some r11
end
end Go.Proofs.YtllicmcihlfajaaGreat
namespace Go.cE
open Go.RowKit
variable {P:Program}
structure apa (w w':World) (bD:Value) (n:Nat) (vs:List Value):Prop where
 grown:w.grownBy w' bD.ownBlock
 row:∀g,bD.ownBlock=some g->∀cur e,w.heap[g]? = some (.cells cur e (0,0))->n<=cur.size->∃cur',w'.heap[g]? = some (.cells cur' e (0,0))/\cur'.size=cur.size/\cur'.toList.take n=vs
theorem asD {f:FuncId} {v:Nat} {e:TypeId} {sz:Nat} {es es':List (List PV)} {ps:List PV} {ws:List Value} (hc:gL P f=true) (hlen:es'.length=es.length) (hsz:∀x∈es',x.length=sz)
  (hfl:es'.flatten=ws.map PV.val) (hone:∀u∈ws,u.oneCell'=true)
  (h:∀ (B:Nat) (I:Mem) (w:World) (bD:Value) (us vs:List Value),B<=w.heap.size->I.zy w->qV w B I bD e sz es us->bD.oneCell'=true->VRs I vs ps ->
   Calls P f (bD :: vs).toArray w λx w'=>x = .returned (.tuple #[])/\apa w w' bD (es.length * sz) ws) :
  j5 P f v e sz es ps (λa c=>a = .dB []/\c=some (.row v e sz es')):=by
 refine⟨hc,λB I w bD us vs hB hI hr h1 hv=>(h B I w bD us vs hB hI hr h1 hv).mono ?_⟩; rintro x w' ⟨rfl,hg,hrow⟩; let L:bt:=λi=>if i=1000000 then some (.row v bD sz) else none
 have hL:∀i l,L i=some l->i=1000000/\l = .row v bD sz:=λi l h=>by
  simp only[L] at h; split at h
  ·rename_i hi; exact⟨hi,by simpa using h.symm⟩
  ·cases h
 have hwl:ws.length=es.length * sz:=by have h2:=bC hsz; rw[hfl,List.length_map,hlen] at h2; exact h2
 have hblk:∀b,bD.ownBlock=some b->B<=b/\b<w.heap.size:=λb hb=>uM hr.own hb
 refine⟨.tuple #[],.dB [],bl b8 1000000 (.row v e sz es'),I,L,rfl,⟨rfl,by simp[bl]⟩,.dB [] [] rfl (by simp),?_⟩; exact
 {below:=⟨hg.os,hg.tape,hg.output,hg.size,λk hk=>hg.block k (Nat.lt_of_lt_of_le hk hB) λhb=>by have:=(hblk k hb.symm).1; have:k<B:=hk; omega⟩
  mem:=hI.keep λb ⟨o,u,hu⟩=>hg.block b (hI.lt hu) λhb=>by rw[hr.free b hb.symm o] at hu; cases hu
  ku:=Mem.dR I
  lp:=λ_ _ _ _=>rfl
  frame:=λb hb hn=>hg.block b hb λhb'=>hn hb'.symm
  loc:=dx.refl _
  jc:=λid l b hl hb=>by obtain⟨_,rfl⟩:=hL id l hl; exact .inr hb
  size:=rfl
  env:=λt=>.dead _
  dom:=λi l hl=>by obtain⟨rfl,rfl⟩:=hL i l hl; exact⟨.row v e sz es',by simp[bl]⟩
  chunk:=λi ch hch=>by
   by_cases hi:i=1000000
   ·subst hi; have:Chunk.row v e sz es'=ch:=by simpa[bl] using hch
    subst this; refine⟨bD,ws,by simp[L],⟨by rw[hlen]; exact hwl,?_⟩,hr.pos,hsz,λj u c hu hc=>?_,hone,hr.free⟩
    ·rcases hr.own.2 with ⟨e1,e2⟩ | ⟨g,cap,cur,rfl,g1,g2,g3,g4,g5,g6⟩
     ·exact .inl ⟨e1,by rw[hlen]; exact e2⟩
     ·obtain⟨cur',k1,k2,k3⟩:=hrow g rfl cur e g2 (by rw[g5]; exact Nat.mul_le_mul_right sz g3); exact .inr ⟨g,cap,cur',by rw[hlen],g1,k1,by rw[hlen]; exact g3,g4,by rw[k2]; exact g5,by rw[hlen]; exact k3⟩
    ·rw[hfl] at hc; simp only[List.getElem?_map,hu,Option.map_some,Option.some.injEq] at hc; subst hc; exact .val u (hone u (List.mem_of_getElem? hu))
   ·have:b8 i=some ch:=by simpa[bl,hi] using hch
    cases this
  fe:=λi l b hl hb=>by obtain⟨rfl,rfl⟩:=hL i l hl; have:=hblk b hb; exact⟨this.1,Nat.lt_of_lt_of_le this.2 hg.size⟩
  apart:=λi j li lj b hi hj _ _=>by rw[(hL i li hi).1,(hL j lj hj).1] }
end Go.cE
namespace Go.SortM
open Go.cE hiding flatK
open Go.RowKit Go.Shelf Go.Sort Go.Proofs
variable {P:Program} {ρ:Ren} {α:Type} [Inhabited α]
def encV (enc:α->List Value) (x:α):List PV:=(enc x).map .val
omit [Inhabited α] in
theorem flat_encV (enc:α->List Value) (d:List α):(d.map (encV enc)).flatten=(d.flatMap enc).map .val:=by
 induction d with
 | nil=>rfl
 | cons x r ih=>rw[List.map_cons,List.flatten_cons,ih,List.flatMap_cons,List.map_append]; rfl
omit [Inhabited α] in
theorem flatMap_eq (enc:α->List Value) (d:List α):d.flatMap enc=(d.map enc).flatten:=by rw[List.flatMap_def]
theorem flatK_list {enc:α->List Value} {k:Nat} (hk:∀x,(enc x).length=k) (h0:0<k) (d:List α):flatK enc k d.toArray=(d.flatMap enc).toArray:=by
 have hall:∀e∈d.map enc,e.length=k:=λe he=>by obtain⟨x,_,rfl⟩:=List.mem_map.1 he; exact hk x
 have hlen:(d.flatMap enc).length=d.length * k:=by rw[flatMap_eq,bC hall,List.length_map]
 apply Array.ext
 ·simp[hlen]
 ·intro t h1 h2; have ht:t<d.length * k:=by simpa using h1
  have hd:t / k<d.length:=(Nat.div_lt_iff_lt_mul h0).2 ht; have hm:t % k<k:=Nat.mod_lt _ h0; have e1:(flatK enc k d.toArray)[t]=(flatK enc k d.toArray)[t]!:=(getElem!_pos _ t h1).symm; rw[e1,get_flatK enc k d.toArray t (by simpa using ht)]; have e2:=gG hall (t / k) (t % k) (by simpa using hd) hm; rw[Nat.div_add_mod' t k,<-flatMap_eq] at e2; have e3:(d.map enc).getD (t / k) []=enc d[t / k]:=by simp[hd]
  rw[e3] at e2; have e4:d.toArray[t / k]! = d[t / k]:=by simp[hd]
  rw[e4]; have hl:t % k<(enc d[t / k]).length:=by rw[hk]; exact hm
  have h2':t<(d.flatMap enc).length:=by simpa using h2
  rw[List.getElem?_eq_getElem h2',List.getElem?_eq_getElem hl] at e2; have e5:=Option.some.inj e2; rw[getElem!_pos (enc d[t / k]) (t % k) hl]; simpa using e5.symm
theorem grown_sortWorldK (enc:α->List Value) (k:Nat) (w:World) (g n:Nat) (d:Array α) (os:Array Obj):w.grownBy (sortWorldK enc k w g 0 n d os) (some g) where
 os:=rfl
 tape:=rfl
 output:=rfl
 size:=by simp[sortWorldK,grow,putRowK,putRow,mapBlock,Sort.ahead]
 block:=λb hb hn=>by
  have:g≠b:=λh=>hn (by rw[h])
  simp[sortWorldK,grow,putRowK,putRow,mapBlock,Sort.ahead,Array.getElem?_append,hb,Array.getElem?_modify,this]; rw[Array.getElem_modify,if_neg this]
theorem row_sortWorldK (enc:α->List Value) (k:Nat) (w:World) (g n m:Nat) (d:Array α) (os:Array Obj) {cur:Array Value} {e:TypeId} (hg:w.heap[g]? = some (.cells cur e (0,0))) (hm:d.size * k=m) (hle:m<=cur.size) :
  ∃cur',(sortWorldK enc k w g 0 n d os).heap[g]? = some (.cells cur' e (0,0))/\cur'.size=cur.size/\cur'.toList.take m=(flatK enc k d).toList:=by
 have hlt:g<w.heap.size:=(Array.getElem?_eq_some_iff.1 hg).1; refine⟨putCells id 0 (flatK enc k d) cur,?_,by simp[putCells],?_⟩
 ·simp[sortWorldK,grow,putRowK,putRow,mapBlock,Sort.ahead,Array.getElem?_append,hlt,Array.getElem?_modify,hg,onCells]; rw[Array.getElem_modify,if_pos rfl,(Array.getElem?_eq_some_iff.1 hg).2]; rfl
 ·apply List.ext_getElem
  ·simp[putCells,hm]; omega
  ·intro t h1 h2; have ht:t<d.size * k:=by simpa using h2
   have htc:t<cur.size:=by omega
   have hf:t<(flatK enc k d).size:=by simpa using ht
   simp[putCells,ht]
theorem callM_sortFunc (L:SlLaysF0.n6 P ρ) (k:Nat) (h0:0<k) (aE:∀w,(isAgg (ρ.t 24)).run P w = .ok true w) (zE:∀w,(Go.sizeOf (ρ.t 24)).run P w = .ok k w) (enc:α->List Value) (hk:∀x,(enc x).length=k) (h1:∀x,∀v∈enc x,v.oneCell'=true)
  (cf:α->α->Int) (hO:SWO (ltOf cf)) (hT:∀x y,(ltOf cf) x y=false->(ltOf cf) y x=false->x=y) (g:FuncId) (eg:∀args w,(callFunc g args).run P w = .ok (.enter g args) w)
  (hcmp:∀x y W,Calls P g #[.agg (enc x).toArray,.agg (enc y).toArray] W λe w'=>e = .returned (.int .i64 (cf x y))/\∃q os',w'=grow (W.drewN q) os')
  (hc:gL P (ρ.f 6)=true) (d:List α) (hd:d.length<4611686018427387904) (v:Nat) (e:TypeId) :
  j5 P (ρ.f 6) v e k (d.map (encV enc)) [.gR (.func g) [] []] (λa c=>a = .dB []/\c=some (.row v e k ((d.mergeSort λx y=>!(ltOf cf) y x).map (encV enc)))):=by
 have hlen:(d.mergeSort λx y=>!(ltOf cf) y x).length=d.length:=List.length_mergeSort _; refine asD (ws:=(d.mergeSort λx y=>!(ltOf cf) y x).flatMap enc) hc (by simp[hlen]) (λx hx=>?_) (flat_encV enc _) (λu hu=>?_) ?_
 ·obtain⟨y,_,rfl⟩:=List.mem_map.1 hx; simp[encV,hk]
 ·obtain⟨y,_,hy⟩:=List.mem_flatMap.1 hu; exact h1 y u hy
 intro B I w bD us vs hB hI hr hone hv; have hvs:vs=[.func (.func g) #[] #[]]:=by
  match vs,hv with
  | [],hv=>have:=hv.1; simp at this
  | [x],hv =>
   have:=hv.2 0 x _ rfl rfl; cases this with
   | gR _ us vs _ _ hl hl' _ _=>have e1:us=[]:=List.length_eq_zero_iff.1 (by simpa using hl); have e2:vs=[]:=List.length_eq_zero_iff.1 (by simpa using hl'); subst e1 e2; rfl
  | _ :: _ :: _,hv=>have:=hv.1; simp at this
 subst hvs; rcases hr.own.2 with ⟨rfl,hn⟩ | ⟨b,cap,cur,rfl,g1,g2,g3,g4,g5,g6⟩
 ·have hd0:d=[]:=by simpa using hn
  subst hd0; refine (AnyF.slices_SortFunc_none L none 0 _ w).mono ?_; rintro x w' ⟨rfl,rfl⟩; exact⟨rfl,⟨rfl,rfl,rfl,Nat.le_refl _,λ_ _ _=>rfl⟩,λg hg=>by cases hg⟩
 ·have hn:(d.map (encV enc)).length=d.length:=List.length_map _; rw[hn] at g3 g6 ⊢; have hus:us=d.flatMap enc:=by
   have hl:us.length=(d.flatMap enc).length:=by have h2:=hr.own.1; have h3:=bC hr.all; rw[flat_encV,List.length_map] at h3; rw[h2,h3]
   apply List.ext_getElem hl; intro j j1 j2; have:=hr.val j us[j] (.val (d.flatMap enc)[j]) (List.getElem?_eq_getElem j1) (by rw[flat_encV]; simp[j2]); generalize us[j]=u,(d.flatMap enc)[j]=u' at this; cases this; rfl
  have hH:HoldsK enc k w b 0 d.toArray:=by
   unfold HoldsK; rw[flatK_list hk h0,<-hus]; intro j hj; have hj':j<us.length:=by simpa using hj
   refine⟨?_,frozen_of_row w b _ cur _ g2⟩; rw[Nat.zero_add,fG g2]; have:us[j]? = cur.toList[j]?:=by rw[<-g6,List.getElem?_take,if_pos]; have:=hr.own.1; rw[hn] at this; omega
   have h7:cur[j]? = us[j]?:=by rw[this]; simp
   rw[h7,List.getElem?_eq_getElem hj']; simp[hj']
  have hb:b<w.heap.size:=(Array.getElem?_eq_some_iff.1 g2).1; refine (AnyQ.slices_SortFunc_total L k aE zE enc hk h1 cf hO g #[] b 0 cap d.toArray w eg (λm os dk _ x y=>hcmp x y _) hH hb (by simpa using hd) hT).mono ?_; rintro x w' ⟨rfl,n,os,rfl⟩; refine⟨rfl,grown_sortWorldK enc k w b n _ os,λg hg cur' e' hg' hle=>?_⟩; have:b=g:=by simpa[Value.ownBlock] using hg
  subst this; obtain⟨c2,k1,k2,k3⟩:=row_sortWorldK enc k w b n (d.length * k) (d.toArray.toList.mergeSort λx y=>!(ltOf cf) y x).toArray os hg' (by simp) hle; refine⟨c2,k1,k2,?_⟩; rw[k3,flatK_list hk h0]
end Go.SortM
namespace Go.cE
open Go.RowKit
variable {P:Program}
theorem aoe {f:FuncId} {v:Nat} {e:TypeId} {sz:Nat} {es es':List (List PV)} {ps:List PV} (hc:gL P f=true) (hlen:es'.length=es.length) (hsz:∀x∈es',x.length=sz)
  (h:∀ (B:Nat) (I:Mem) (w:World) (bD:Value) (us vs:List Value),B<=w.heap.size->I.zy w->qV w B I bD e sz es us->bD.oneCell'=true->VRs I vs ps ->
   ∃ws:List Value,ws.length=es.length * sz/\(∀u∈ws,u.oneCell'=true)/\(∀ (j:Nat) u c,ws[j]? = some u->es'.flatten[j]? = some c->VR I u c) /\
   Calls P f (bD :: vs).toArray w λx w'=>x = .returned (.tuple #[])/\apa w w' bD (es.length * sz) ws) :
  j5 P f v e sz es ps (λa c=>a = .dB []/\c=some (.row v e sz es')):=by
 refine⟨hc,λB I w bD us vs hB hI hr h1 hv=>?_⟩; obtain⟨ws,hwl,hone,hval,apb⟩:=h B I w bD us vs hB hI hr h1 hv; refine apb.mono ?_; rintro x w' ⟨rfl,hg,hrow⟩; let L:bt:=λi=>if i=1000000 then some (.row v bD sz) else none
 have hL:∀i l,L i=some l->i=1000000/\l = .row v bD sz:=λi l h=>by
  simp only[L] at h; split at h
  ·rename_i hi; exact⟨hi,by simpa using h.symm⟩
  ·cases h
 have hblk:∀b,bD.ownBlock=some b->B<=b/\b<w.heap.size:=λb hb=>uM hr.own hb
 refine⟨.tuple #[],.dB [],bl b8 1000000 (.row v e sz es'),I,L,rfl,⟨rfl,by simp[bl]⟩,.dB [] [] rfl (by simp),?_⟩; exact
 {below:=⟨hg.os,hg.tape,hg.output,hg.size,λk hk=>hg.block k (Nat.lt_of_lt_of_le hk hB) λhb=>by have:=(hblk k hb.symm).1; have:k<B:=hk; omega⟩
  mem:=hI.keep λb ⟨o,u,hu⟩=>hg.block b (hI.lt hu) λhb=>by rw[hr.free b hb.symm o] at hu; cases hu
  ku:=Mem.dR I
  lp:=λ_ _ _ _=>rfl
  frame:=λb hb hn=>hg.block b hb λhb'=>hn hb'.symm
  loc:=dx.refl _
  jc:=λid l b hl hb=>by obtain⟨_,rfl⟩:=hL id l hl; exact .inr hb
  size:=rfl
  env:=λt=>.dead _
  dom:=λi l hl=>by obtain⟨rfl,rfl⟩:=hL i l hl; exact⟨.row v e sz es',by simp[bl]⟩
  chunk:=λi ch hch=>by
   by_cases hi:i=1000000
   ·subst hi; have:Chunk.row v e sz es'=ch:=by simpa[bl] using hch
    subst this; refine⟨bD,ws,by simp[L],⟨by rw[hlen]; exact hwl,?_⟩,hr.pos,hsz,hval,hone,hr.free⟩; rcases hr.own.2 with ⟨e1,e2⟩ | ⟨g,cap,cur,rfl,g1,g2,g3,g4,g5,g6⟩
    ·exact .inl ⟨e1,by rw[hlen]; exact e2⟩
    ·obtain⟨cur',k1,k2,k3⟩:=hrow g rfl cur e g2 (by rw[g5]; exact Nat.mul_le_mul_right sz g3); exact .inr ⟨g,cap,cur',by rw[hlen],g1,k1,by rw[hlen]; exact g3,g4,by rw[k2]; exact g5,by rw[hlen]; exact k3⟩
   ·have:b8 i=some ch:=by simpa[bl,hi] using hch
    cases this
  fe:=λi l b hl hb=>by obtain⟨rfl,rfl⟩:=hL i l hl; have:=hblk b hb; exact⟨this.1,Nat.lt_of_lt_of_le this.2 hg.size⟩
  apart:=λi j li lj b hi hj _ _=>by rw[(hL i li hi).1,(hL j lj hj).1] }
end Go.cE
namespace Go.SortM
open Go.cE hiding flatK
open Go.RowKit Go.Shelf Go.Sort Go.Proofs
variable {P:Program} {ρ:Ren} {α:Type} [Inhabited α]
def Raw (enc:α->List PV) (k:Nat) (x:α) (xs:List Value):Prop:=xs.length=k/\∀ (j:Nat) u c,xs[j]? = some u->(enc x)[j]? = some c->∃I,VR I u c
theorem chunks_get {us:List Value} {n k:Nat} (h:us.length=n * k) (i j:Nat) (hi:i<n) (hj:j<k):((us.drop (i * k)).take k)[j]? = us[i * k+j]?:=by rw[List.getElem?_take,if_pos hj,List.getElem?_drop]
theorem chunks_len {us:List Value} {n k:Nat} (h:us.length=n * k) (i:Nat) (hi:i<n):((us.drop (i * k)).take k).length=k:=by have:(i+1) * k<=n * k:=Nat.mul_le_mul_right _ hi; rw[Nat.add_mul] at this; rw[List.length_take,List.length_drop]; omega
theorem chunks_all {us:List Value} {n k:Nat} (h0:0<k) (h:us.length=n * k):(List.finRange n).flatMap (λi=>(us.drop (i.1 * k)).take k)=us:=by
 have hall:∀e∈(List.finRange n).map λi=>(us.drop (i.1 * k)).take k,e.length=k:=λe he=>by obtain⟨i,_,rfl⟩:=List.mem_map.1 he; exact chunks_len h i.1 i.2
 rw[List.flatMap_def]; apply List.ext_getElem?; intro t; rcases Nat.lt_or_ge t (n * k) with ht | ht
 ·have hd:t / k<n:=(Nat.div_lt_iff_lt_mul h0).2 ht; have hm:t % k<k:=Nat.mod_lt _ h0; have e2:=gG hall (t / k) (t % k) (by simpa using hd) hm; rw[Nat.div_add_mod' t k] at e2; rw[e2]; have e3:((List.finRange n).map λi=>(us.drop (i.1 * k)).take k).getD (t / k) []=(us.drop (t / k * k)).take k:=by simp[hd]
  rw[e3,chunks_get h _ _ hd hm,Nat.div_add_mod' t k]
 ·rw[List.getElem?_eq_none (by rw[bC hall,List.length_map,List.length_finRange]; exact ht),List.getElem?_eq_none (by omega)]
omit [Inhabited α] in
theorem rel_flatMap {I:Mem} {β:Type} (f:β->List Value) (g:β->List PV) (hl:∀x,(f x).length=(g x).length) (hv:∀x,∀ (j:Nat) u c,(f x)[j]? = some u->(g x)[j]? = some c->VR I u c):∀l:List β,∀ (j:Nat) u c,(l.flatMap f)[j]? = some u->(l.map g).flatten[j]? = some c->VR I u c
 | [],j,u,c,h,_=>by simp at h
 | x :: r,j,u,c,hu,hc=>by rw[List.flatMap_cons] at hu; rw[List.map_cons,List.flatten_cons] at hc; exact aav (hl x) (hv x) (rel_flatMap f g hl hv r) j u c hu hc
theorem callM_sortG (L:SlLaysF0.n6 P ρ) (k:Nat) (h0:0<k) (aE:∀w,(isAgg (ρ.t 24)).run P w = .ok true w) (zE:∀w,(Go.sizeOf (ρ.t 24)).run P w = .ok k w) (enc:α->List PV) (hk:∀x,(enc x).length=k)
  (cf:α->α->Int) (hO:SWO (ltOf cf)) (g:FuncId) (eg:∀args w,(callFunc g args).run P w = .ok (.enter g args) w)
  (hcmp:∀x y xs ys W,Raw enc k x xs->Raw enc k y ys->Calls P g #[.agg xs.toArray,.agg ys.toArray] W λe w'=>e = .returned (.int .i64 (cf x y))/\∃q os',w'=grow (W.drewN q) os')
  (hc:gL P (ρ.f 6)=true) (d:List α) (hd:d.length<4611686018427387904) (hT:∀i j,i<d.length->j<d.length->(ltOf cf) (d.getD i default) (d.getD j default)=false->(ltOf cf) (d.getD j default) (d.getD i default)=false->i=j) (v:Nat) (e:TypeId) :
  j5 P (ρ.f 6) v e k (d.map enc) [.gR (.func g) [] []] (λa c=>a = .dB []/\c=some (.row v e k ((d.mergeSort λx y=>!(ltOf cf) y x).map enc))):=by
 have hlen:(d.mergeSort λx y=>!(ltOf cf) y x).length=d.length:=List.length_mergeSort _; refine aoe hc (by simp[hlen]) (λx hx=>?_) ?_
 ·obtain⟨y,_,rfl⟩:=List.mem_map.1 hx; exact hk y
 intro B I w bD us vs hB hI hr hone hv; have hvs:vs=[.func (.func g) #[] #[]]:=by
  match vs,hv with
  | [],hv=>have:=hv.1; simp at this
  | [x],hv =>
   have:=hv.2 0 x _ rfl rfl; cases this with
   | gR _ us vs _ _ hl hl' _ _=>have e1:us=[]:=List.length_eq_zero_iff.1 (by simpa using hl); have e2:vs=[]:=List.length_eq_zero_iff.1 (by simpa using hl'); subst e1 e2; rfl
  | _ :: _ :: _,hv=>have:=hv.1; simp at this
 subst hvs; have hn:(d.map enc).length=d.length:=List.length_map _; rcases hr.own.2 with ⟨rfl,hn0⟩ | ⟨b,cap,cur,rfl,g1,g2,g3,g4,g5,g6⟩
 ·have hd0:d=[]:=by simpa using hn0
  subst hd0; refine⟨[],by simp,by simp,by simp,(AnyF.slices_SortFunc_none L none 0 _ w).mono ?_⟩; rintro x w' ⟨rfl,rfl⟩; exact⟨rfl,⟨rfl,rfl,rfl,Nat.le_refl _,λ_ _ _=>rfl⟩,λg hg=>by cases hg⟩
 ·rw[hn] at g3 g6 ⊢; rcases Nat.eq_zero_or_pos d.length with hz | hpos
  ·have hd0:d=[]:=List.length_eq_zero_iff.1 hz; subst hd0; refine⟨[],by simp,by simp,by simp,(AnyF.slices_SortFunc_none L (some ⟨b,0,none⟩) cap _ w).mono ?_⟩; rintro x w' ⟨rfl,rfl⟩; refine⟨rfl,⟨rfl,rfl,rfl,Nat.le_refl _,λ_ _ _=>rfl⟩,λg hg cur' e' hg' hle=>⟨cur',hg',rfl,?_⟩⟩; simp
  have hul:us.length=d.length * k:=by have:=hr.own.1; rw[hn] at this; exact this
  let ab1:Fin d.length->List Value:=λi=>(us.drop (i.1 * k)).take k
  let f:Fin d.length->α:=λi=>d.getD i.1 default
  have hdf:(List.finRange d.length).map f=d:=by
   apply List.ext_getElem
   ·simp
   ·intro t h1 h2; simp[f,h2]
  haveI:Inhabited (Fin d.length):=⟨⟨0,hpos⟩⟩
  have hkR:∀i,(ab1 i).length=k:=λi=>chunks_len hul i.1 i.2
  have h1R:∀i,∀u∈ab1 i,u.oneCell'=true:=λi u hu=>hr.one u (List.mem_of_mem_drop (List.mem_of_mem_take hu))
  have hall:∀z∈d.map enc,z.length=k:=λz hz=>by obtain⟨y,_,rfl⟩:=List.mem_map.1 hz; exact hk y
  have hvR:∀i:Fin d.length,∀ (j:Nat) u c,(ab1 i)[j]? = some u->(enc (f i))[j]? = some c->VR I u c:=λi j u c hu hc=>by
   have hj:j<k:=by have:=(List.getElem?_eq_some_iff.1 hu).1; rw[hkR] at this; exact this
   have e1:us[i.1 * k+j]? = some u:=by rw[<-chunks_get hul i.1 j i.2 hj]; exact hu
   have e2:=gG hall i.1 j (by simp) hj; have e3:(d.map enc).getD i.1 []=enc (f i):=by simp[f]
   rw[e3,hc] at e2; exact hr.val _ u c e1 e2
  have vS:∀i,Raw enc k (f i) (ab1 i):=λi=>⟨hkR i,λj u c hu hc=>⟨I,hvR i j u c hu hc⟩⟩
  have hfl:(List.finRange d.length).flatMap ab1=us:=chunks_all h0 hul; have hH:HoldsK ab1 k w b 0 (List.finRange d.length).toArray:=by
   unfold HoldsK; rw[flatK_list hkR h0,hfl]; intro j hj; have hj':j<us.length:=by simpa using hj
   refine⟨?_,frozen_of_row w b _ cur _ g2⟩; rw[Nat.zero_add,fG g2]; have:us[j]? = cur.toList[j]?:=by rw[<-g6,List.getElem?_take,if_pos]; omega
   have h7:cur[j]? = us[j]?:=by rw[this]; simp
   rw[h7,List.getElem?_eq_getElem hj']; simp[hj']
  have hb:b<w.heap.size:=(Array.getElem?_eq_some_iff.1 g2).1; let cR:Fin d.length->Fin d.length->Int:=λi j=>cf (f i) (f j)
  have hOR:SWO (ltOf cR) :=
   {irrefl:=λx=>hO.irrefl (f x)
    trans:=λx y z h1 h2=>hO.trans (f x) (f y) (f z) h1 h2
    ntrans:=λx y z h1 h2=>hO.ntrans (f x) (f y) (f z) h1 h2 }
  have hTR:∀x y,(ltOf cR) x y=false->(ltOf cR) y x=false->x=y:=λx y h1 h2=>Fin.ext (hT x.1 y.1 x.2 y.2 h1 h2)
  have hms:((List.finRange d.length).mergeSort λx y=>!(ltOf cR) y x).map f=d.mergeSort λx y=>!(ltOf cf) y x:=by have h2:=List.map_mergeSort (r:=λx y=>!(ltOf cR) y x) (s:=λx y=>!(ltOf cf) y x) (f:=f) (l:=List.finRange d.length) (λa _ b _=>rfl); rw[hdf] at h2; exact h2
  have yY:((List.finRange d.length).mergeSort λx y=>!(ltOf cR) y x).length=d.length:=by rw[List.length_mergeSort,List.length_finRange]
  refine⟨((List.finRange d.length).mergeSort λx y=>!(ltOf cR) y x).flatMap ab1,?_,λu hu=>?_,?_,?_⟩
  ·have h2:∀z∈((List.finRange d.length).mergeSort λx y=>!(ltOf cR) y x).map ab1,z.length=k:=λz hz=>by obtain⟨y,_,rfl⟩:=List.mem_map.1 hz; exact hkR y
   rw[List.flatMap_def,bC h2,List.length_map,yY]
  ·obtain⟨y,_,hy⟩:=List.mem_flatMap.1 hu; exact h1R y u hy
  ·rw[<-hms,List.map_map]; exact rel_flatMap ab1 (enc ∘ f) (λx=>by rw[hkR]; exact (hk _).symm) hvR _
  ·have hsz:(List.finRange d.length).toArray.size=d.length:=by simp
   have apb:=AnyQ.slices_SortFunc_total L k aE zE ab1 hkR h1R cR hOR g #[] b 0 cap (List.finRange d.length).toArray w eg (λm os dk _ x y=>hcmp (f x) (f y) (ab1 x) (ab1 y) _ (vS x) (vS y)) hH hb (by rw[hsz]; exact hd) hTR; rw[hsz] at apb; refine apb.mono ?_; rintro x w' ⟨rfl,n,os,rfl⟩; refine⟨rfl,grown_sortWorldK ab1 k w b n _ os,λg hg cur' e' hg' hle=>?_⟩; have:b=g:=by simpa[Value.ownBlock] using hg
   subst this; obtain⟨c2,k1,k2,k3⟩:=row_sortWorldK ab1 k w b n (d.length * k) ((List.finRange d.length).toArray.toList.mergeSort λx y=>!(ltOf cR) y x).toArray os hg' (by simp) hle; refine⟨c2,k1,k2,?_⟩; rw[k3,flatK_list hkR h0]
end Go.SortM
namespace Go.Proofs
open Go.Shelf Go.RowKit Go.Lib Go.Sort
theorem YtllicmcihlfajaaGreat.asE (a:Int) (W:World):Calls Tryz.prog 263 #[.int .i64 a] W λe w'=>e = .returned (.bool false)/\w'=W:=by
 have hd:(a != a)=false:=by simp
 go_enter func263,ntmps263
 go_wp2
 go_ret
 exact⟨rfl,rfl⟩
theorem YtllicmcihlfajaaGreat.apc (a b:Int) (W:World):Calls Tryz.prog 240 #[.int .i64 a,.int .i64 b] W λe w'=>e = .returned (.int .i64 (YtllicmcihlfajaaGreat.pS a b))/\w'=W:=by
 have eg:∀args w,(callFunc 263 args).run Tryz.prog w = .ok (.enter 263 args) w:=enters_of func263 (by kernel_rfl) rfl
 go_enter func240,ntmps240
 go_wp2_with (go_at_call 263; refine (YtllicmcihlfajaaGreat.asE _ _).mono ?_; rintro e w' ⟨rfl,rfl⟩)
 all_goals first
  | rw[show YtllicmcihlfajaaGreat.pS a b = -1 from if_pos (by assumption)]; go_ret; exact⟨rfl,rfl⟩
  | rw[show YtllicmcihlfajaaGreat.pS a b=1 from by unfold YtllicmcihlfajaaGreat.pS; rw[if_neg (by omega),if_pos (by assumption)]]; go_ret; exact⟨rfl,rfl⟩
  | rw[show YtllicmcihlfajaaGreat.pS a b=0 from by unfold YtllicmcihlfajaaGreat.pS; rw[if_neg (by omega),if_neg (by omega)]]; go_ret; exact⟨rfl,rfl⟩
theorem YtllicmcihlfajaaGreat.aof (x y:YtllicmcihlfajaaGreat.aj) (xs ys:List Value) (W:World) (hx:Go.SortM.Raw YtllicmcihlfajaaGreat.ag 3 x xs) (hy:Go.SortM.Raw YtllicmcihlfajaaGreat.ag 3 y ys) :
  Calls Tryz.prog 204 #[.agg xs.toArray,.agg ys.toArray] W λe w'=>e = .returned (.int .i64 (YtllicmcihlfajaaGreat.pS x.id y.id))/\∃q os',w'=grow (W.drewN q) os':=by
 have eg:∀args w,(callFunc 240 args).run Tryz.prog w = .ok (.enter 240 args) w:=enters_of func240 (by kernel_rfl) rfl; obtain⟨xl,xv⟩:=hx; obtain⟨yl,yv⟩:=hy; obtain⟨x0,xr,rfl⟩:=List.exists_cons_of_length_pos (show 0<xs.length by omega); obtain⟨y0,yr,rfl⟩:=List.exists_cons_of_length_pos (show 0<ys.length by omega); have ex:x0 = .int .i64 x.id:=by obtain⟨I,h⟩:=xv 0 x0 _ rfl rfl; cases h; rfl
 have ey:y0 = .int .i64 y.id:=by obtain⟨I,h⟩:=yv 0 y0 _ rfl rfl; cases h; rfl
 subst ex ey
 go_enter func204,ntmps204
 go_wp2_with (go_at_call 240; refine (YtllicmcihlfajaaGreat.apc _ _ _).mono ?_; rintro e w' ⟨rfl,rfl⟩)
 go_ret
 exact⟨rfl,0,_,by rw[alloc_eq_grow,alloc_eq_grow,grow_grow]; rfl⟩
theorem YtllicmcihlfajaaGreat.aog (x y:YtllicmcihlfajaaGreat.ak) (xs ys:List Value) (W:World) (hx:Go.SortM.Raw YtllicmcihlfajaaGreat.ah 4 x xs) (hy:Go.SortM.Raw YtllicmcihlfajaaGreat.ah 4 y ys) :
  Calls Tryz.prog 206 #[.agg xs.toArray,.agg ys.toArray] W λe w'=>e = .returned (.int .i64 (YtllicmcihlfajaaGreat.pS x.id y.id))/\∃q os',w'=grow (W.drewN q) os':=by
 have eg:∀args w,(callFunc 240 args).run Tryz.prog w = .ok (.enter 240 args) w:=enters_of func240 (by kernel_rfl) rfl; obtain⟨xl,xv⟩:=hx; obtain⟨yl,yv⟩:=hy; obtain⟨x0,xr,rfl⟩:=List.exists_cons_of_length_pos (show 0<xs.length by omega); obtain⟨y0,yr,rfl⟩:=List.exists_cons_of_length_pos (show 0<ys.length by omega); have ex:x0 = .int .i64 x.id:=by obtain⟨I,h⟩:=xv 0 x0 _ rfl rfl; cases h; rfl
 have ey:y0 = .int .i64 y.id:=by obtain⟨I,h⟩:=yv 0 y0 _ rfl rfl; cases h; rfl
 subst ex ey
 go_enter func206,ntmps206
 go_wp2_with (go_at_call 240; refine (YtllicmcihlfajaaGreat.apc _ _ _).mono ?_; rintro e w' ⟨rfl,rfl⟩)
 go_ret
 exact⟨rfl,0,_,by rw[alloc_eq_grow,alloc_eq_grow,grow_grow]; rfl⟩
theorem YtllicmcihlfajaaGreat.aAX (a b:Int) (B c:Nat) (W:World) (h0:W.cell? ⟨B,0,none⟩=some (.int .i64 a)) (h1:W.cell? ⟨B,1,none⟩=some (.int .i64 b)) :
  Calls Tryz.prog 188 #[.slice (some ⟨B,0,none⟩) 2 c] W λe w'=>e = .returned (.int .i64 (if a=0 then b else a))/\w'=W:=by
 go_enter func188,ntmps188
 go_wp2
 go_loop [8] (λi=>∃k:Nat,k<=2/\i = .int .i64 k/\(1<=k->a=0)/\(2<=k->b=0)) (λi=>2 - (intOf i).toNat)
 case atStart=>exact⟨0,by omega,rfl,λh=>by omega,λh=>by omega⟩
 case round =>
  obtain⟨k,hk,rfl,ha,hb⟩:=hrel; obtain rfl | rfl | rfl:k=0\/k=1\/k=2:=by omega
  ·go_wp2
   all_goals first
    | (go_ret; exact⟨rfl,rfl⟩)
    | exact⟨⟨1,by omega,rfl,λ_=>by simpa using ‹(a != 0)=false›,λh=>by omega⟩,by simp[intOf]⟩
    | (exfalso; simp_all; done)
  ·have ha0:=ha (by omega); subst ha0
   go_wp2
   all_goals first
    | (go_ret; exact⟨rfl,rfl⟩)
    | exact⟨⟨2,by omega,rfl,λ_=>trivial,λ_=>by simpa using ‹(b != 0)=false›⟩,by simp[intOf]⟩
    | (exfalso; simp_all; done)
  ·have ha0:=ha (by omega); have hb0:=hb (by omega); subst ha0 hb0
   go_wp2
   all_goals first
    | (go_ret; exact⟨rfl,rfl⟩)
    | (exfalso; simp_all; done)
theorem YtllicmcihlfajaaGreat.ag3 (W:World) (A B:Obj) (a:Array Value) (t:TypeId) (j:Nat) {v:Option Value} (h:a[j]? = v):(((W.alloc A).alloc B).alloc (.cells a t)).cell? ⟨W.heap.size+1+1,j,none⟩=v:=by
 have e:W.heap.size+1+1=((W.alloc A).alloc B).heap.size:=by simp
 rw[e,<-h]; simp only[World.cell?,World.alloc,Array.getElem?_push_size,Option.isSome_none,Bool.false_eq_true,if_false]
def YtllicmcihlfajaaGreat.aw0 (x y:YtllicmcihlfajaaGreat.aI):Int:=if IntKind.i64.wrap (x.id - y.id)=0 then IntKind.i64.wrap (x.attr - y.attr) else IntKind.i64.wrap (x.id - y.id)
theorem YtllicmcihlfajaaGreat.aw1 (x y:YtllicmcihlfajaaGreat.aI) (W:World):Calls Tryz.prog 128 #[.agg #[.int .i64 x.kind,.int .i64 x.id,.int .i64 x.attr],.agg #[.int .i64 y.kind,.int .i64 y.id,.int .i64 y.attr]] W λe w'=>e = .returned (.int .i64 (YtllicmcihlfajaaGreat.aw0 x y))/\∃q os',w'=grow (W.drewN q) os':=by
 have eg:∀args w,(callFunc 188 args).run Tryz.prog w = .ok (.enter 188 args) w:=enters_of func188 (by kernel_rfl) rfl; have hw:∀n,IntKind.i64.wrap n=wrap64 n:=λn=>by unfold wrap64; rw[IntKind.wrap_i64]
 unfold YtllicmcihlfajaaGreat.aw0; simp only[hw]
 go_enter func128,ntmps128
 go_wp2_with (go_at_call 188; refine (YtllicmcihlfajaaGreat.aAX _ _ _ _ _ (YtllicmcihlfajaaGreat.ag3 _ _ _ _ _ _ rfl) (YtllicmcihlfajaaGreat.ag3 _ _ _ _ _ _ rfl)).mono ?_; rintro e w' ⟨rfl,rfl⟩)
 all_goals
  go_ret
  exact⟨rfl,0,_,by rw[alloc_eq_grow,alloc_eq_grow,alloc_eq_grow,grow_grow,grow_grow]; rfl⟩
namespace YtllicmcihlfajaaGreat
open Go.cE
theorem wo {α:Type} (f:α->Int) (x y:α):(ltOf λx y=>pS (f x) (f y)) x y=decide (f x<f y):=by
 show decide (pS (f x) (f y)<0)=_; unfold pS; apply decide_eq_decide.2; constructor
 ·intro h; split at h
  ·assumption
  ·split at h<;>omega
 ·intro h; rw[if_pos h]; omega
theorem ak7 {α:Type} (f:α->Int):SWO (ltOf λx y=>pS (f x) (f y)) :=
 {irrefl:=λx=>by rw[wo f]; simp
  trans:=λx y z h1 h2=>by rw[wo f] at *; simp at *; omega
  ntrans:=λx y z h1 h2=>by rw[wo f] at *; simp at *; omega }
theorem aiD (d:List aj) (hd:d.length<=1000000) (hT:∀i j,i<d.length->j<d.length->(d.getD i default).id=(d.getD j default).id->i=j) (v:Nat):j5 Tryz.prog 215 v 79 3 (d.map ag) [.gR (.func 204) [] []]
  (λa c=>a = .dB []/\c=some (.row v 79 3 ((d.mergeSort λx y=>decide (x.id<=y.id)).map ag))):=by
 have eg:∀args w,(callFunc 204 args).run Tryz.prog w = .ok (.enter 204 args) w:=enters_of func204 (by kernel_rfl) rfl; have hle:(λx y:aj=>decide (x.id<=y.id))=λx y=>!(ltOf λx y:aj=>pS x.id y.id) y x:=by
  funext x y; rw[wo (λx:aj=>x.id)]; by_cases h:x.id<=y.id
  ·rw[decide_eq_true h,decide_eq_false (by omega)]; rfl
  ·rw[decide_eq_false h,decide_eq_true (by omega)]; rfl
 rw[hle]; exact Go.SortM.callM_sortG YtllicmcihlfajaaGreat.arx 3 (by decide) isAgg79 sizeOf79 ag (λ_=>rfl) (λx y=>pS x.id y.id) (ak7 λx:aj=>x.id) 204 eg (λx y xs ys W hx hy=>aof x y xs ys W hx hy) (by kernel_rfl) d (by omega)
  (λi j hi hj h1 h2=>hT i j hi hj (by rw[wo (λx:aj=>x.id)] at h1 h2; have a:=of_decide_eq_false h1; have b:=of_decide_eq_false h2; omega)) v 79
theorem aiE (d:List ak) (hd:d.length<=1000000) (hT:∀i j,i<d.length->j<d.length->(d.getD i default).id=(d.getD j default).id->i=j) (v:Nat):j5 Tryz.prog 216 v 84 4 (d.map ah) [.gR (.func 206) [] []]
  (λa c=>a = .dB []/\c=some (.row v 84 4 ((d.mergeSort λx y=>decide (x.id<=y.id)).map ah))):=by
 have eg:∀args w,(callFunc 206 args).run Tryz.prog w = .ok (.enter 206 args) w:=enters_of func206 (by kernel_rfl) rfl; have hle:(λx y:ak=>decide (x.id<=y.id))=λx y=>!(ltOf λx y:ak=>pS x.id y.id) y x:=by
  funext x y; rw[wo (λx:ak=>x.id)]; by_cases h:x.id<=y.id
  ·rw[decide_eq_true h,decide_eq_false (by omega)]; rfl
  ·rw[decide_eq_false h,decide_eq_true (by omega)]; rfl
 rw[hle]; exact Go.SortM.callM_sortG YtllicmcihlfajaaGreat.ary 4 (by decide) isAgg84 sizeOf84 ah (λ_=>rfl) (λx y=>pS x.id y.id) (ak7 λx:ak=>x.id) 206 eg (λx y xs ys W hx hy=>aog x y xs ys W hx hy) (by kernel_rfl) d (by omega)
  (λi j hi hj h1 h2=>hT i j hi hj (by rw[wo (λx:ak=>x.id)] at h1 h2; have a:=of_decide_eq_false h1; have b:=of_decide_eq_false h2; omega)) v 84
abbrev SC (K:Int):={x:aI // x.kind=K/\od x}
instance (K:Int):Inhabited (SC K):=⟨⟨⟨K,0,0⟩,rfl,by simp[od]⟩⟩
theorem azo {x y:aI} (hx:od x) (hy:od y):decide (aw0 x y<0) = !leC y x:=by obtain⟨a1,a2,a3,a4⟩:=hx; obtain⟨b1,b2,b3,b4⟩:=hy; have h1:IntKind.i64.wrap (x.id - y.id)=x.id - y.id:=IntWalk.i64_in _ (by omega); have h2:IntKind.i64.wrap (x.attr - y.attr)=x.attr - y.attr:=IntWalk.i64_in _ (by omega); unfold aw0 leC; rw[h1,h2,<-decide_not]; apply decide_eq_decide.2; split<;>omega
theorem ak8 {α:Type} {p:α->Prop} : ∀l:List α,(∀x∈l,p x)->∃d:List {x // p x},d.map Subtype.val=l
 | [],_=>⟨[],rfl⟩
 | x :: r,h=>by
  obtain⟨d,hd⟩:=ak8 r λy hy=>h y (List.mem_cons_of_mem _ hy)
  exact⟨⟨x,h x List.mem_cons_self⟩ :: d,by rw[List.map_cons,hd]⟩
theorem ak9 (K:Int) (l:List aI) (hl:l.length<=1000000) (hin:∀x∈l,x.kind=K/\od x) (v:Nat):j5 Tryz.prog 127 v 53 3 (l.map aC) [.gR (.func 128) [] []]
  (λa c=>a = .dB []/\c=some (.row v 53 3 ((l.mergeSort leC).map aC))):=by
 have eg:∀args w,(callFunc 128 args).run Tryz.prog w = .ok (.enter 128 args) w:=enters_of func128 (by kernel_rfl) rfl; obtain⟨d,hd⟩:=ak8 l hin; let cS:SC K->SC K->Int:=λx y=>aw0 x.1 y.1
 have hlt:∀x y:SC K,ltOf cS x y = !leC y.1 x.1:=λx y=>azo x.2.2 y.2.2
 have hO:SWO (ltOf cS) :=
  {irrefl:=λx=>by rw[hlt]; simp[leC]
   trans:=λx y z h1 h2=>by rw[hlt] at *; simp[leC] at *; omega
   ntrans:=λx y z h1 h2=>by rw[hlt] at *; simp[leC] at *; omega }
 have h:=Go.SortM.callM_sortFunc YtllicmcihlfajaaGreat.avD 3 (by decide) isAgg53 sizeOf53 (λx:SC K=>[Value.int .i64 x.1.kind,Value.int .i64 x.1.id,Value.int .i64 x.1.attr]) (λ_=>rfl) (λx v hv=>by simp at hv; rcases hv with rfl | rfl | rfl<;>rfl) cS
  hO (λx y h1 h2=>by
   rw[hlt] at h1 h2; simp[leC] at h1 h2; apply Subtype.ext; have e1:=x.2.1; have e2:=y.2.1; obtain⟨⟨k,i,a⟩,_⟩:=x; obtain⟨⟨k',i',a'⟩,_⟩:=y; simp only[aI.mk.injEq] at *; omega) 128 eg (λx y W=>aw1 x.1 y.1 W) (by kernel_rfl) d (by rw[<-hd,List.length_map] at hl; omega) v 53
 have e1:d.map (Go.SortM.encV λx:SC K=>[Value.int .i64 x.1.kind,Value.int .i64 x.1.id,Value.int .i64 x.1.attr])=l.map aC:=by rw[<-hd,List.map_map]; rfl
 have e2:(d.mergeSort λx y=>!(ltOf cS) y x).map (Go.SortM.encV λx:SC K=>[Value.int .i64 x.1.kind,Value.int .i64 x.1.id,Value.int .i64 x.1.attr])=(l.mergeSort leC).map aC:=by have h2:=List.map_mergeSort (r:=λx y:SC K=>!(ltOf cS) y x) (s:=leC) (f:=Subtype.val) (l:=d) (λa _ b _=>by rw[hlt]; simp); rw[hd] at h2; rw[<-h2,List.map_map]; rfl
 rw[e1,e2] at h; exact h
end YtllicmcihlfajaaGreat
end Go.Proofs
namespace Go.Proofs.YtllicmcihlfajaaGreat
open Go.cE
theorem aoh (K:Int) (l:List aI) (hl:l.length<=1000000) (hin:∀x∈l,x.kind=K/\od x) (v:Nat):j5 Tryz.prog 74 v 53 3 (l.map aC) []
  (λa c=>a = .row 1000000 (v+1)/\c=some (.row (v+1) 53 3 ((gn l).map aC))):=by
 have hlen:(l.mergeSort leC).length=l.length:=List.length_mergeSort _; refine lW [] Ty.mixed func74 rfl (by kernel_rfl) (by simp[ntmps74]) ?_; rw[ntmps74,results74]; simp -implicitDefEqProofs only[go_sem]; refine abC (ak9 K l hl hin v) (by simp -implicitDefEqProofs only[go_sem]<;>rfl) (by simp -implicitDefEqProofs only[go_sem]<;>rfl) (by simp -implicitDefEqProofs only[go_sem]<;>rfl) (λh=>by cases h) ?_; simp -implicitDefEqProofs only[go_sem]; refine vt (an2 (l.mergeSort leC) (by omega) v) (by simp -implicitDefEqProofs only[go_sem]<;>rfl) (by simp -implicitDefEqProofs only[go_sem]<;>rfl) (by simp -implicitDefEqProofs only[go_sem]<;>rfl) (λh=>by cases h) ?_; simp -implicitDefEqProofs only[go_sem]; unfold gn; rw[hlen]
end Go.Proofs.YtllicmcihlfajaaGreat
namespace Go.Proofs.YtllicmcihlfajaaGreat
open Go.cE
theorem ala (l:List aj) (m:List ak) (hl:l.length<=1000000) (hm:m.length<=1000000) (id:Int):aS Tryz.prog 213 [.dJ [.aU (l.map ag),.aU (m.map ah)] 0,.val (.int .i64 id)] (λv=>v = .val (.bool (kI l m id))):=by
 have hn:=j8 (p:=λn:aj=>decide (n.id=id)) (l:=l); have he:=j8 (p:=λn:ak=>decide (n.id=id)) (l:=m); unfold kI; rw[<-hn,<-he]; refine aR [] func213 ?_; rw[ntmps213,results213]; simp -implicitDefEqProofs only[go_sem]; refine aY (acW l hl id) (by simp -implicitDefEqProofs only[go_sem]<;>rfl) (bY rfl) ?_; simp -implicitDefEqProofs only[go_sem]; cases hb:decide (0<=idxOf (λn:aj=>decide (n.id=id)) l)
 ·simp -implicitDefEqProofs only[go_sem,hb]; refine aY (ag1 m hm id) (by simp -implicitDefEqProofs only[go_sem]<;>rfl) (bY rfl) ?_; simp -implicitDefEqProofs only[go_sem,hb]
 ·simp -implicitDefEqProofs only[go_sem,hb]
theorem azp (x:aj) (l:List aj) (m:List ak) (hl:l.length<=1000000) (hm:m.length<=1000000):aS Tryz.prog 212 [.agg (ag x),.dJ [.dJ [.aU (l.map ag),.aU (m.map ah)] 0] 0] (λv=>v = .val (.bool (kI l m x.id))):=by refine aR [] func212 ?_; rw[ntmps212,results212]; simp -implicitDefEqProofs only[go_sem,ag]; refine aY (ala l m hl hm x.id) (by simp -implicitDefEqProofs only[go_sem]<;>rfl) (bY rfl) ?_; simp -implicitDefEqProofs only[go_sem]
theorem azq (x:ak) (l:List aj) (m:List ak) (hl:l.length<=1000000) (hm:m.length<=1000000):aS Tryz.prog 214 [.agg (ah x),.dJ [.dJ [.aU (l.map ag),.aU (m.map ah)] 0] 0] (λv=>v = .val (.bool (kI l m x.id))):=by refine aR [] func214 ?_; rw[ntmps214,results214]; simp -implicitDefEqProofs only[go_sem,ah]; refine aY (ala l m hl hm x.id) (by simp -implicitDefEqProofs only[go_sem]<;>rfl) (bY rfl) ?_; simp -implicitDefEqProofs only[go_sem]
theorem aw2 (a b:List Int) (ha:a.length<=1000000) (hb:b.length<=1000000):aS Tryz.prog 32 [.aU (a.map encI),.aU (b.map encI)] (λv=>v = .val (.bool (decide (a=b)))):=by
 refine aR [] func32 ?_; rw[ntmps32,results32]; simp -implicitDefEqProofs only[go_sem]; refine aX (λhc=>?_) (λhc=>?_)
 ·have hl:a.length=b.length:=by have:=of_decide_eq_true hc; omega
  simp -implicitDefEqProofs only[go_sem]; refine bH (σ:=Nat) (λx=>(ct (ct (ct (ct fA 0 (.p (.aU (a.map encI)))) 1 (.p (.aU (b.map encI)))) 12 (.p (.val (.int .i64 a.length)))) 13 (.p (.val (.int .i64 x))))) (λx=>b8)
   (λx=>x<=a.length/\∀j,j<x->a.getD j default=b.getD j default) (λx=>a.length - x) 0 ⟨Nat.zero_le _,λj hj=>absurd hj (Nat.not_lt_zero j)⟩ bR ?_
  rintro x ⟨hx,hq⟩; simp -implicitDefEqProofs only[go_sem]; refine aL (λyz=>?_) (λyz=>?_)
  ·have h1:x<a.length:=by have:=of_decide_eq_true yz; omega
   have h2:x<b.length:=by omega
   simp -implicitDefEqProofs only[go_sem]; refine cV [.p,.p,.q,.q,.p,.p,.q,.q,.p] (by kernel_rfl) ?_; simp -implicitDefEqProofs only[go_sem,getD_map encI h1,getD_map encI h2,encI]; refine⟨h1,h2,?_⟩; refine aX (λhd=>?_) (λhd=>?_)
   ·have hd':=of_decide_eq_true hd; simp -implicitDefEqProofs only[go_sem,bq h1 (by omega)]; refine bJ (x+1) ⟨h1,λj hj=>?_⟩ (by omega) bR; rcases Nat.lt_succ_iff_lt_or_eq.1 hj with h | h
    ·exact hq j h
    ·rw[h]; exact hd'
   ·have hd':=of_decide_eq_false hd; simp -implicitDefEqProofs only[go_sem]; have:decide (a=b)=false:=decide_eq_false λe=>hd' (by rw[e])
    rw[this]
  ·have:x=a.length:=by have:=of_decide_eq_false yz; omega
   subst this; simp -implicitDefEqProofs only[go_sem]; have:decide (a=b)=true:=by apply decide_eq_true; apply List.ext_getElem hl; intro j h1 h2; have:=hq j h1; simpa[h1,h2] using this
   rw[this]
 ·have hl:a.length≠b.length:=by have:=of_decide_eq_false hc; omega
  simp -implicitDefEqProofs only[go_sem]; have:decide (a=b)=false:=decide_eq_false λe=>hl (by rw[e])
  rw[this]
theorem azr (a b:aj) (ha:a.values.length<=1000000) (hb:b.values.length<=1000000):aS Tryz.prog 209 [.agg (ag a),.agg (ag b)] (λv=>v = .val (.bool (eB a b))):=by
 unfold eB; refine aR [] func209 ?_; rw[ntmps209,results209]; simp -implicitDefEqProofs only[go_sem,ag]; cases h1:decide (a.id=b.id)
 ·simp -implicitDefEqProofs only[go_sem,h1]
 ·simp -implicitDefEqProofs only[go_sem,h1]; cases h2:decide (a.type=b.type)
  ·simp -implicitDefEqProofs only[go_sem,h2]
  ·simp -implicitDefEqProofs only[go_sem,h2]; refine aY (aw2 a.values b.values ha hb) (by simp -implicitDefEqProofs only[go_sem]<;>rfl) (bY rfl) ?_; simp -implicitDefEqProofs only[go_sem]
end Go.Proofs.YtllicmcihlfajaaGreat
namespace Go.Proofs.YtllicmcihlfajaaGreat
open Go.cE
theorem ae6 (k:Nat):∀ (es:List (List PV)) (cT:Nat->Value) (i:Nat),(eT k cT es).drop i=eT k (λj=>cT (j+i)) (es.drop i)
 | [],cT,i=>by simp[eT]
 | x :: r,cT,0=>by simp
 | x :: r,cT,i+1=>by simp only[eT,List.drop_succ_cons]; rw[ae6 k r _ i]; rfl
theorem ab2 (k:Nat):∀ (es fs:List (List PV)) (cT:Nat->Value),eT k cT (es++fs)=eT k cT es++eT k (λj=>cT (j+es.length)) fs
 | [],fs,cT=>by simp[eT]
 | x :: r,fs,cT=>by simp only[List.cons_append,eT,List.length_cons]; rw[ab2 k r fs]; rfl
theorem ae7 (k:Nat):∀ (es:List (List PV)) (cT:Nat->Value) (i:Nat),(eT k cT es).take i=eT k cT (es.take i)
 | [],cT,i=>by simp[eT]
 | x :: r,cT,0=>by simp[eT]
 | x :: r,cT,i+1=>by simp only[eT,List.take_succ_cons,ae7 k r]
theorem alb (k:Nat) (es:List (List PV)) (cT:Nat->Value) (i:Nat) (hi:i<es.length):(eT k cT es).take i++(eT k cT es).drop (i+1)=eT k (λj=>cT (if j<i then j else j+1)) (es.take i++es.drop (i+1)):=by
 rw[ae7,ae6,ab2]; have hl:(es.take i).length=i:=by simp; omega
 rw[hl]; congr 1
 ·exact uB k _ _ _ λj hj=>by rw[if_pos (by omega)]
 ·exact uB k _ _ _ λj hj=>by rw[if_neg (by omega)]; rfl
theorem asF {α:Type} (es:List α) (i:Nat) (hi:i<es.length) (j:Nat) (hj:j<(es.take i++es.drop (i+1)).length):(if j<i then j else j+1)<es.length/\(es.take i++es.drop (i+1))[j]? = es[if j<i then j else j+1]?:=by
 have hl:(es.take i).length=i:=by simp; omega
 rw[List.length_append,hl,List.length_drop] at hj; by_cases h:j<i
 ·rw[if_pos h,List.getElem?_append_left (by omega),List.getElem?_take,if_pos h]; exact⟨by omega,rfl⟩
 ·rw[if_neg h,List.getElem?_append_right (by omega),hl,List.getElem?_drop,show i+1+(j - i)=j+1 by omega]; exact⟨by omega,rfl⟩
theorem asG (i:Nat) {j k:Nat} (h:(if j<i then j else j+1)=(if k<i then k else k+1)):j=k:=by split at h<;>split at h<;>omega
def stH (l:List aj) (v:Nat) (m:List ak) (u:Nat):List (Nat×Chunk):=[(1000000,.box [.eC 1000001 v,.row 1000002 u]),(1000001,.deep v 79 3 2 3 1 (l.map ag)),(1000002,.row u 84 4 (m.map ah))]
theorem asH (p:aG) (l:List aj) (m:List ak) (v u:Nat) (hl:l.length<=1000000) (hm:m.length<=1000000) (hv:∀n∈l,n.values.length<=1000000) (h1:p.ax.length<=1000000) (h2:p.aD.length<=1000000) (h3:∀n∈p.ax,n.values.length<=1000000)
  (R:Bool×List aj×Nat) (hR:kY l p.ax v=R) (S:Bool×List ak×Nat) (hS:mW m p.aD u=S) :
  ads Tryz.prog 180 (b7 (stH l v m u)) [.ptr 1000000 0,.p (.agg (aB p))] λa H=>ny a (.p (.val (.bool (R.1&&S.1))))/\aaK H (stH R.2.1 R.2.2 (if R.1 then S.2.1 else m) (if R.1 then S.2.2 else u)):=by
 refine yA [] Ty.mixed func180 rfl (by kernel_rfl) (by simp[ntmps180]) ?_; rw[ntmps180,results180]; simp -implicitDefEqProofs only[go_sem,aB,stH]; refine bH (σ:=Nat×List aj×Nat) (λx=>(ct (ct (ct (ct (ct fA 0 (.ptr 1000000 0)) 3 (.ptr 3 0)) 12 (.p (.aU (p.ax.map ag)))) 13 (.p (.val (.int .i64 p.ax.length)))) 14 (.p (.val (.int .i64 x.1))))) (λx=>(bl (bl (bl (bl b8 3 (.box [.p (.aU (p.ax.map ag)),.p (.aU (p.aD.map ah)),.p (.aU (p.aQ.map ag)),.p (.aU (p.aM.map ah)),.p (.aU (p.values.map aH)),.p (.val (.int .i64 p.next.x0)),.p (.val (.int .i64 p.next.x1))])) 1000000 (.box [.eC 1000001 x.2.2,.row 1000002 u])) 1000001 (.deep x.2.2 79 3 2 3 1 (x.2.1.map ag))) 1000002 (.row u 84 4 (m.map ah))))
  (λx=>x.1<=p.ax.length/\kY x.2.1 (p.ax.drop x.1) x.2.2=R/\x.2.1.length<=1000000/\∀n∈x.2.1,n.values.length<=1000000) (λx=>p.ax.length - x.1) (0,l,v) ⟨Nat.zero_le _,hR,hl,hv⟩ bR ?_
 rintro⟨t,l',v'⟩ ⟨ht,yI,hl',vh⟩; simp only at ht yI hl' vh; simp -implicitDefEqProofs only[go_sem]; refine aL (λhc=>?_) (λhc=>?_)
 ·have hlt:t<p.ax.length:=by have:=of_decide_eq_true hc; omega
  have bD:p.ax.drop t=p.ax.getD t default :: p.ax.drop (t+1):=by rw[List.drop_eq_getElem_cons hlt]; simp[hlt]
  rw[bD,kY] at yI; simp -implicitDefEqProofs only[go_sem,getD_map ag hlt,ag]; refine⟨hlt,?_⟩; refine cV [.p,.q,.q,.q,.q,.q,.q,.p] (by kernel_rfl) ?_; simp -implicitDefEqProofs only[go_sem]; refine jk (acW l' hl' (p.ax.getD t default).id) (by simp -implicitDefEqProofs only[go_sem]<;>rfl) (bY rfl) ?_; simp -implicitDefEqProofs only[go_sem]; cases hfi:l'.findIdx? λm=>decide (m.id=(p.ax.getD t default).id) with
  | none =>
   rw[hfi] at yI; simp only at yI; have hidx:idxOf (λn:aj=>decide (n.id=(p.ax.getD t default).id)) l' = -1:=by unfold idxOf; rw[hfi]
   simp -implicitDefEqProofs only[go_sem,hidx]; refine cV [.p,.p,.p,.p,.p,.q,.q,.p,.q,.q,.q,.q,.p,.p] (by kernel_rfl) ?_; have hneg:decide ((-1:Int)<0)=true:=by decide
   simp -implicitDefEqProofs only[go_sem,hneg]; subst yI; simp -implicitDefEqProofs only[go_sem]
  | some i =>
   rw[hfi] at yI; simp only at yI; have hidx:idxOf (λn:aj=>decide (n.id=(p.ax.getD t default).id)) l'=(i:Int):=by unfold idxOf; rw[hfi]
   have qg:i<l'.length:=by rw[List.findIdx?_eq_some_iff_getElem] at hfi; exact hfi.1
   simp -implicitDefEqProofs only[go_sem,hidx]; refine cV [.p,.p,.p,.p,.p,.q,.q,.p,.q,.q,.q,.q,.p,.p] (by kernel_rfl) ?_; have hpos:decide ((i:Int)<0)=false:=decide_eq_false (by omega); simp -implicitDefEqProofs only[go_sem,hpos,getD_map ag qg,ag]; refine⟨qg,qg,?_⟩; have hmi:l'.getD i default∈l':=by simp[qg]
   have hmt:p.ax.getD t default∈p.ax:=by simp[hlt]
   have hsm:=azr (l'.getD i default) (p.ax.getD t default) (vh _ hmi) (h3 _ hmt); refine jk (hsm) (by simp -implicitDefEqProofs only[go_sem,getD_map ag qg,ag]<;>rfl) (bY rfl) ?_; simp -implicitDefEqProofs only[go_sem,getD_map ag qg,ag]; refine aX (λhs=>?_) (λhs=>?_)
   ·rw[if_pos hs] at yI; simp -implicitDefEqProofs only[go_sem,bq qg (by omega),getD_map ag qg,ag]; have hes:(l'.map ag).take i++(l'.map ag).drop (i+1)=(l'.take i++l'.drop (i+1)).map ag:=by rw[List.map_append,List.map_take,List.map_drop]
    have he:=asF (l'.map ag) i (by rw[List.length_map]; exact qg); rw[hes] at he; refine anD (λj=>if j<i then j else j+1) (es':=(l'.take i++l'.drop (i+1)).map ag) (λcT _=>by
     have hd:=azd (eT 2 cT (l'.map ag)) i (i+1) v' (by omega) (by rw[eZ,List.length_map]; omega) (by rw[eZ,List.length_map]; omega); rw[alb 2 _ cT i (by rw[List.length_map]; exact qg),hes] at hd; exact hd) he (λj k _ _ h=>asG i h) (by simp -implicitDefEqProofs only[go_sem,getD_map ag qg,ag]<;>rfl) (by simp -implicitDefEqProofs only[go_sem,getD_map ag qg,ag]<;>rfl) (by simp -implicitDefEqProofs only[go_sem,getD_map ag qg,ag]<;>rfl) ?_
    generalize hL:l'.take i++l'.drop (i+1)=L' at yI ⊢; simp -implicitDefEqProofs only[go_sem,bq hlt (by omega),getD_map ag qg,ag]; refine bJ (t+1,L',v'+1) ⟨hlt,yI,by rw[<-hL]; simp; omega,λn hn=>?_⟩ (by simp only; omega) ?_
    ·rw[<-hL] at hn; rcases List.mem_append.1 hn with h | h
     ·exact vh n (List.mem_of_mem_take h)
     ·exact vh n (List.mem_of_mem_drop h)
    ·exact bR
   ·rw[if_neg (by rw[hs]; simp)] at yI; subst yI; simp -implicitDefEqProofs only[go_sem,getD_map ag qg,ag]
 ·have:t=p.ax.length:=by have:=of_decide_eq_false hc; omega
  subst this; rw[List.drop_length,kY] at yI; subst yI; simp -implicitDefEqProofs only[go_sem]; refine bH (σ:=Nat×List ak×Nat) (λx=>(ct (ct (ct (ct (ct fA 0 (.ptr 1000000 0)) 3 (.ptr 3 0)) 52 (.p (.aU (p.aD.map ah)))) 53 (.p (.val (.int .i64 p.aD.length)))) 54 (.p (.val (.int .i64 x.1))))) (λx=>(bl (bl (bl (bl b8 3 (.box [.p (.aU (p.ax.map ag)),.p (.aU (p.aD.map ah)),.p (.aU (p.aQ.map ag)),.p (.aU (p.aM.map ah)),.p (.aU (p.values.map aH)),.p (.val (.int .i64 p.next.x0)),.p (.val (.int .i64 p.next.x1))])) 1000000 (.box [.eC 1000001 v',.row 1000002 x.2.2])) 1000001 (.deep v' 79 3 2 3 1 (l'.map ag))) 1000002 (.row x.2.2 84 4 (x.2.1.map ah))))
   (λx=>x.1<=p.aD.length/\mW x.2.1 (p.aD.drop x.1) x.2.2=S/\x.2.1.length<=1000000) (λx=>p.aD.length - x.1) (0,m,u) ⟨Nat.zero_le _,hS,hm⟩ bR ?_
  rintro⟨t,m',u'⟩ ⟨ht,hS',hm'⟩; simp only at ht hS' hm'; simp -implicitDefEqProofs only[go_sem]; refine aL (λhc=>?_) (λhc=>?_)
  ·have hlt:t<p.aD.length:=by have:=of_decide_eq_true hc; omega
   have bD:p.aD.drop t=p.aD.getD t default :: p.aD.drop (t+1):=by rw[List.drop_eq_getElem_cons hlt]; simp[hlt]
   rw[bD,mW] at hS'; simp -implicitDefEqProofs only[go_sem,getD_map ah hlt,ah]; refine⟨hlt,?_⟩; refine cV [.p,.q,.q,.q,.q,.q,.q,.p] (by kernel_rfl) ?_; simp -implicitDefEqProofs only[go_sem]; refine jk (ag1 m' hm' (p.aD.getD t default).id) (by simp -implicitDefEqProofs only[go_sem]<;>rfl) (bY rfl) ?_; simp -implicitDefEqProofs only[go_sem]; cases hfi:m'.findIdx? λm=>decide (m.id=(p.aD.getD t default).id) with
   | none =>
    rw[hfi] at hS'; simp only at hS'; have hidx:idxOf (λn:ak=>decide (n.id=(p.aD.getD t default).id)) m' = -1:=by unfold idxOf; rw[hfi]
    have hneg:decide ((-1:Int)<0)=true:=by decide
    simp -implicitDefEqProofs only[go_sem,hidx]; refine cV [.p,.p,.p,.p,.p,.q,.q,.p,.q,.q,.q,.p,.p] (by kernel_rfl) ?_; simp -implicitDefEqProofs only[go_sem,hidx,hneg]; subst hS'; simp -implicitDefEqProofs only[go_sem]
   | some i =>
    rw[hfi] at hS'; simp only at hS'; have hidx:idxOf (λn:ak=>decide (n.id=(p.aD.getD t default).id)) m'=(i:Int):=by unfold idxOf; rw[hfi]
    have qg:i<m'.length:=by rw[List.findIdx?_eq_some_iff_getElem] at hfi; exact hfi.1
    have hpos:decide ((i:Int)<0)=false:=decide_eq_false (by omega); simp -implicitDefEqProofs only[go_sem,hidx]; refine cV [.p,.p,.p,.p,.p,.q,.q,.p,.q,.q,.q,.p,.p] (by kernel_rfl) ?_; simp -implicitDefEqProofs only[go_sem,hpos,getD_map ah qg,ah]; refine⟨qg,qg,?_⟩; refine aX (λhs=>?_) (λhs=>?_)
    ·have hs':rB (m'.getD i default) (p.aD.getD t default)=true:=hs; rw[if_pos hs'] at hS'; simp -implicitDefEqProofs only[go_sem,bq qg (by omega)]; have hes:(m'.map ah).take i++(m'.map ah).drop (i+1)=(m'.take i++m'.drop (i+1)).map ah:=by rw[List.map_append,List.map_take,List.map_drop]
     have hd:=aze (m'.map ah) i (i+1) u' (by omega) (by rw[List.length_map]; omega) (by rw[List.length_map]; omega); rw[hes] at hd; refine vt hd (by simp -implicitDefEqProofs only[go_sem]<;>rfl) (by simp -implicitDefEqProofs only[go_sem]<;>rfl) (by simp -implicitDefEqProofs only[go_sem]<;>rfl) (λh=>by cases h) ?_; generalize hL:m'.take i++m'.drop (i+1)=L' at hS' ⊢; simp -implicitDefEqProofs only[go_sem,bq hlt (by omega)]; exact bJ (t+1,L',u'+1) ⟨hlt,hS',by rw[<-hL]; simp; omega⟩ (by simp only; omega) bR
    ·have hs':rB (m'.getD i default) (p.aD.getD t default)=false:=hs; rw[if_neg (by rw[hs']; simp)] at hS'; subst hS'; simp -implicitDefEqProofs only[go_sem]
  ·have:t=p.aD.length:=by have:=of_decide_eq_false hc; omega
   subst this; rw[List.drop_length,mW] at hS'; subst hS'; simp -implicitDefEqProofs only[go_sem]
end Go.Proofs.YtllicmcihlfajaaGreat
namespace Go.Proofs.YtllicmcihlfajaaGreat
open Go.cE
theorem aAY (p:aG) (l:List aj) (m:List ak) (v u:Nat) (hl:l.length<=1000000) (h1:p.values.length<=1000000)
  (R:Bool×List aj) (hR:kZ l p.values=R) :
  ads Tryz.prog 181 (b7 (stH l v m u)) [.ptr 1000000 0,.p (.agg (aB p))] λa H=>ny a (.p (.val (.bool R.1)))/\aaK H (stH R.2 v m u):=by
 refine yA [] Ty.mixed func181 rfl (by kernel_rfl) (by simp[ntmps181]) ?_; rw[ntmps181,results181]; simp -implicitDefEqProofs only[go_sem,aB,stH]; refine bH (σ:=Nat×List aj) (λx=>(ct (ct (ct (ct (ct fA 0 (.ptr 1000000 0)) 3 (.ptr 3 0)) 9 (.p (.aU (p.values.map aH)))) 10 (.p (.val (.int .i64 p.values.length)))) 11 (.p (.val (.int .i64 x.1))))) (λx=>(bl (bl (bl (bl b8 3 (.box [.p (.aU (p.ax.map ag)),.p (.aU (p.aD.map ah)),.p (.aU (p.aQ.map ag)),.p (.aU (p.aM.map ah)),.p (.aU (p.values.map aH)),.p (.val (.int .i64 p.next.x0)),.p (.val (.int .i64 p.next.x1))])) 1000000 (.box [.eC 1000001 v,.row 1000002 u])) 1000001 (.deep v 79 3 2 3 1 (x.2.map ag))) 1000002 (.row u 84 4 (m.map ah))))
  (λx=>x.1<=p.values.length/\kZ x.2 (p.values.drop x.1)=R/\x.2.length<=1000000) (λx=>p.values.length - x.1) (0,l) ⟨Nat.zero_le _,hR,hl⟩ bR ?_
 rintro⟨t,l'⟩ ⟨ht,yI,hl'⟩; simp only at ht yI hl'; simp -implicitDefEqProofs only[go_sem]; refine aL (λhc=>?_) (λhc=>?_)
 ·have hlt:t<p.values.length:=by have:=of_decide_eq_true hc; omega
  have bD:p.values.drop t=p.values.getD t default :: p.values.drop (t+1):=by rw[List.drop_eq_getElem_cons hlt]; simp[hlt]
  rw[bD,kZ] at yI; simp -implicitDefEqProofs only[go_sem,getD_map aH hlt,aH]; refine⟨hlt,?_⟩; generalize p.values.getD t default=w at yI ⊢; refine cV [.p,.q,.q,.q,.q,.q,.q,.p] (by kernel_rfl) ?_; simp -implicitDefEqProofs only[go_sem]; refine jk (acW l' hl' w.id) (by simp -implicitDefEqProofs only[go_sem]<;>rfl) (bY rfl) ?_; simp -implicitDefEqProofs only[go_sem]; cases hfi:l'.findIdx? λm=>decide (m.id=w.id) with
  | none =>
   rw[hfi] at yI; simp only at yI; have hidx:idxOf (λn:aj=>decide (n.id=w.id)) l' = -1:=by unfold idxOf; rw[hfi]
   have hneg:decide ((-1:Int)<0)=true:=by decide
   simp -implicitDefEqProofs only[go_sem,hidx]; refine cV [.p,.p,.p,.q,.q,.p,.p,.p,.q,.q,.p,.p,.q,.q,.p,.q,.q,.q,.q,.p,.p,.p,.p,.p,.q,.q,.p,.q,.q,.q,.q,.q,.q,.q,.q,.q,.p,.p,.p,.q,.q,.q,.q,.p,.p] (by kernel_rfl) ?_; simp -implicitDefEqProofs only[go_sem,hidx,hneg]; subst yI; simp -implicitDefEqProofs only[go_sem]
  | some i =>
   rw[hfi] at yI; simp only at yI; have hidx:idxOf (λn:aj=>decide (n.id=w.id)) l'=(i:Int):=by unfold idxOf; rw[hfi]
   have qg:i<l'.length:=by rw[List.findIdx?_eq_some_iff_getElem] at hfi; exact hfi.1
   have hpos:decide ((i:Int)<0)=false:=decide_eq_false (by omega); simp -implicitDefEqProofs only[go_sem,hidx]; refine cV [.p,.p,.p,.q,.q,.p,.p,.p,.q,.q,.p,.p,.q,.q,.p,.q,.q,.q,.q,.p,.p,.p,.p,.p,.q,.q,.p,.q,.q,.q,.q,.q,.q,.q,.q,.q,.p,.p,.p,.q,.q,.q,.q,.p,.p] (by kernel_rfl) ?_; simp -implicitDefEqProofs only[go_sem,hpos,getD_map ag qg,ag]; cases ha:decide (w.attr<0)
   ·simp -implicitDefEqProofs only[go_sem,ha,hpos,getD_map ag qg,ag]; refine⟨qg,qg,?_⟩; cases hb:decide (((l'.getD i default).values.length:Int)<=w.attr)
    ·have hk0:0<=w.attr:=by have:=of_decide_eq_false ha; omega
     have hk1:w.attr<(l'.getD i default).values.length:=by have:=of_decide_eq_false hb; omega
     have hk:w.attr.toNat<(l'.getD i default).values.length:=by omega
     simp -implicitDefEqProofs only[go_sem,hb,getD_map encI hk,encI,hpos,getD_map ag qg,ag]; refine⟨qg,qg,⟨hk0,hk1⟩,hk,?_⟩; cases hcv:decide ((l'.getD i default).values.getD w.attr.toNat default=w.old)
     ·have hov:okV (l'.getD i default).values w=false:=by unfold okV; rw[ha,hb,hcv]; rfl
      rw[if_neg (by rw[hov]; simp)] at yI; subst yI; simp -implicitDefEqProofs only[go_sem,hcv,hpos,getD_map ag qg,ag]
     ·simp -implicitDefEqProofs only[go_sem,hcv,hpos,getD_map ag qg,ag]; refine aL (λhd=>?_) (λhd=>?_)
      ·have hov:okV (l'.getD i default).values w=false:=by unfold okV; rw[ha,hb,hcv,hd]; rfl
       rw[if_neg (by rw[hov]; simp)] at yI; subst yI; simp -implicitDefEqProofs only[go_sem,hpos,getD_map ag qg,ag]
      ·have hov:okV (l'.getD i default).values w=true:=by unfold okV; rw[ha,hb,hcv,hd]; rfl
       rw[if_pos hov] at yI; simp -implicitDefEqProofs only[go_sem,hpos,getD_map ag qg,ag]; refine cV [.p,.p,.q,.q,.p,.q,.q,.q,.q,.q,.q,.q,.q,.t] (by kernel_rfl) ?_; simp -implicitDefEqProofs only[go_sem,hpos,getD_map ag qg,ag]; refine⟨qg,qg,⟨⟨hk0,hk1⟩,by rw[getD_map encI hk]; rfl⟩,?_⟩; have hst:(l'.map ag).set i ((ag (l'.getD i default)).set 2 (.aU (((l'.getD i default).values.map encI).set w.attr.toNat [.val (.int .i64 w.new)])))=(l'.set i { l'.getD i default with values:=(l'.getD i default).values.set w.attr.toNat w.new }).map ag:=by rw[List.map_set]; congr 1; show _=[_,_,PV.aU (((l'.getD i default).values.set w.attr.toNat w.new).map encI)]; rw[List.map_set]; rfl
       refine anC 3 _ _ 1000001 v i w.attr.toNat 79 3 2 3 (l'.map ag) (ag (l'.getD i default)) ((l'.getD i default).values.map encI) (.val (.int .i64 w.new)) rfl (by simp -implicitDefEqProofs only[go_sem,hpos,getD_map ag qg,ag]) (by simp -implicitDefEqProofs only[go_sem,hpos,getD_map ag qg,ag]) (by simp -implicitDefEqProofs only[go_sem,hpos,getD_map ag qg,ag]) ⟨rfl,rfl⟩ (by simp -implicitDefEqProofs only[go_sem,hpos,getD_map ag qg,ag]<;>rfl) (by simp[qg]) rfl (by simpa using hk) ?_; rw[hst]; simp -implicitDefEqProofs only[go_sem,bq hlt (by omega),hpos,getD_map ag qg,ag]; exact bJ (t+1,_) ⟨hlt,yI,by simpa using hl'⟩ (by simp only; omega) bR
    ·have hov:okV (l'.getD i default).values w=false:=by unfold okV; rw[ha,hb]; rfl
     rw[if_neg (by rw[hov]; simp)] at yI; subst yI; simp -implicitDefEqProofs only[go_sem,hb,hpos,getD_map ag qg,ag]
   ·have hov:okV (l'.getD i default).values w=false:=by unfold okV; rw[ha]; rfl
    rw[if_neg (by rw[hov]; simp)] at yI; subst yI; simp -implicitDefEqProofs only[go_sem,ha,hpos,getD_map ag qg,ag]
 ·have:t=p.values.length:=by have:=of_decide_eq_false hc; omega
  subst this; rw[List.drop_length,kZ] at yI; subst yI; simp -implicitDefEqProofs only[go_sem]
end Go.Proofs.YtllicmcihlfajaaGreat
