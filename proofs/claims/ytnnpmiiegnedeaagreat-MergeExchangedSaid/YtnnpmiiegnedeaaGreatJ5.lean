/- Joined texts, part 5: lemmas for the statement. No condition. -/
import Derived.Test.YtnnpmiiegnedeaaGreatJ4
import Derived.Shelf.Spec.SlicesGrow
import Derived.Test.YtnnpmiiegnedeaaGreatJ2
import Derived.Test.YtnnpmiiegnedeaaGreatJ1
import Derived.Test.YtnnpmiiegnedeaaGreatJ3
import Derived.Shelf.SlSortCmp.NoneTotal
import Derived.LoopTactic
import Derived.WalkKit
set_option maxHeartbeats 4000000
set_option linter.unusedSimpArgs false
set_option linter.unusedVariables false
open Nat (reduceEqDiff reduceLT reduceLeDiff reduceMul reduceAdd reduceSub)
open Go.IntKind (i64)
open Go.Proofs.Tryz
open Go.Proofs.Tryz renaming prog → pw
set_option maxRecDepth 20000
namespace Go.Proofs.YtnnpmiiegnedeaaGreat
open Go.cv
def kj(t:Types):Option (ByteArray×Int):=gb (fK t) (gR t)
theorem qD(t:Types)(r:ByteArray×Int)(h:kj t=some r):aS pw 43 [aD t] (λv=>v = .dY [.val (.string r.1),.val (.int .i64 r.2)]):=by obtain⟨a,rfl⟩:=sg h;exact FJ t a
def uA(t:Types)(h:Host):Option (Int×Int):=gb (fK t/\qW h) (kC t h)
theorem Kw(t:Types)(h:Host)(r:Int×Int)(c:uA t h=some r):aS pw 169 [aD t,cO h] (λv=>v = .dY [.val (.int .i64 r.1),.val (.int .i64 r.2)]):=by obtain⟨⟨a,b⟩,rfl⟩:=sg c;exact Wm t a h b
def fB(t:Types)(h:Host):Option (Int×Int):=gb (fK t/\qW h) (kC t h)
theorem jb(t:Types)(h:Host)(r:Int×Int)(c:fB t h=some r):aS pw 29 [aD t,cO h] (λv=>v = .dY [.val (.int .i64 r.1),.val (.int .i64 r.2)]):=by obtain⟨⟨a,b⟩,rfl⟩:=sg c;exact Wn t a h b
def qX(t:Types)(e a b:Int):Option Bool:=gb (fK t) (qA t e a b)
theorem nL(t:Types)(e a b:Int)(r:Bool)(h:qX t e a b=some r):aS pw 48 [aD t,.val (.int .i64 e),.val (.int .i64 a),.val (.int .i64 b)] (λv=>v = .val (.bool r)):=by obtain⟨c,rfl⟩:=sg h;exact JK t c e a b
def Zc(t:Types)(a:Int):Option (List Attr×Int):=gb (eE t/\0<=a/\a<t.nodes.length) (bg t a.toNat,0)
theorem aAJ(t:Types)(a:Int)(r:List Attr×Int)(h:Zc t a=some r):aS pw 282 [aD t,.val (.int .i64 a)] (λv=>v = .dY [.aV (r.1.map aU),.val (.int .i64 r.2)]):=by obtain⟨⟨b,c,d⟩,rfl⟩:=sg h;obtain⟨n,rfl⟩:=Int.eq_ofNat_of_zero_le c;exact JL t b n (by omega)
def mO(t:Types)(a:Int):Option (List Attr×Int):=gb (eE t/\0<=a/\a<t.nodes.length) (bg t a.toNat,0)
theorem w9(t:Types)(a:Int)(r:List Attr×Int)(h:mO t a=some r):aS pw 47 [aD t,.val (.int .i64 a)] (λv=>v = .dY [.aV (r.1.map aU),.val (.int .i64 r.2)]):=by obtain⟨⟨b,c,d⟩,rfl⟩:=sg h;obtain⟨n,rfl⟩:=Int.eq_ofNat_of_zero_le c;exact JM t b n (by omega)
def qt(l:List Int):Option (List Int):=gb (l.length<=1000000) l
theorem Zd(l:List Int)(r:List Int)(h:qt l=some r):bw pw 229 [.aV (l.map encI)] (λv=>v = .row 3 1 (r.map encI)):=by obtain⟨a,rfl⟩:=sg h;exact JC l a
def wG(t:Types)(l:List Int):Option Int:=gb (fK t/\l.length<=1000000) (qV t l)
theorem Ze(t:Types)(l:List Int)(r:Int)(h:wG t l=some r):aS pw 283 [aD t,.aV (l.map encI)] (λv=>v = .val (.int .i64 r)):=by obtain⟨⟨a,b⟩,rfl⟩:=sg h;exact FM t a l b
def Gi(t:Types)(a b:Int):Option Bool:=gb (eE t/\0<=a/\a<t.nodes.length) (ko t a b)
theorem Zf(t:Types)(a b:Int)(r:Bool)(h:Gi t a b=some r):aS pw 284 [aD t,.val (.int .i64 a),.val (.int .i64 b)] (λv=>v = .val (.bool r)):=by obtain⟨⟨c,d,e⟩,rfl⟩:=sg h;obtain⟨n,rfl⟩:=Int.eq_ofNat_of_zero_le d;exact FN t c n (by omega) b
def iP(t:Types)(a b:Int):Option Bool:=gb (fK t/\eE t/\0<=a/\a<t.nodes.length/\0<=b) (ko t a b)
theorem p0(t:Types)(a b:Int)(r:Bool)(h:iP t a b=some r):aS pw 90 [aD t,.val (.int .i64 a),.val (.int .i64 b)] (λv=>v = .val (.bool r)):=by obtain⟨⟨c,d,g,e,f⟩,rfl⟩:=sg h;exact FL t b f c (a.toNat+1) a (by omega) (by omega) e d.par
end Go.Proofs.YtnnpmiiegnedeaaGreat
namespace Go.cv
open Go.RowKit Go.Shelf Go.Proofs
variable{P:Program}{ρ:Ren}
theorem Zg(L:Lays8.n4 P ρ)(A:gP P (ρ.f 4)=true)(d:TypeInfo)(z:Value)(B:P.info? (ρ.t 25)=some d)(D:d.zero=some z)(j:0<d.size)(E:z.cells.size=d.size)
  (n:Nat) (y:n * d.bytes<=140737488355328) (F:n<=4611686018427387904) :
  bw P (ρ.f 4) [.val (.slice none 0 0),.val (.int .i64 n)] (λv=>v = .row (ρ.t 25) d.size []):=by
 refine⟨A,λI w vs g i=>?_⟩;obtain⟨hl,i⟩:=i
 match vs,hl with
 | [a,b],_ =>
  have x:a = .slice none 0 0:=by have:=i 0 a _ rfl rfl;cases this;rfl
  have c:b = .int .i64 n:=by have:=i 1 b _ rfl rfl;cases this;rfl
  subst x c;by_cases q:n=0
  ·subst q;refine (Any8.slices_Grow_room L none 0 0 0 w (by omega) (by omega) (by omega) (by omega)).mono ?_;rintro e w' ⟨rfl,rfl⟩;refine⟨_,_,_,I,rfl,rfl,.row _ _ _ _ [] ⟨⟨by simp,.inl ⟨rfl,rfl⟩⟩,j,by simp,by simp,by simp,λb c=>by simp[Value.ownBlock] at c⟩ rfl,by simp[Value.ownBlock],by simp[Value.ownBlock],Below.refl _ _,Mem.ep I,g,λ_ _ _=>rfl⟩
  ·refine (Any8.slices_Grow_grow L d z B D j none 0 0 n [] w (by omega) (by omega) (by simpa using y) (by omega) (by simp) (λ_=>rfl) (λa h=>by cases h)).mono ?_;rintro e w' ⟨rfl,rfl⟩;have r:n<=grownCap w (0+n) 0 (ρ.t 25):=by have:=grownCap_ge w (0+n) 0 (ρ.t 25);omega
   have l:grownCap w (0+n) 0 (ρ.t 25)<=maxLen:=grownCap_le_maxLen w (0+n) 0 (ρ.t 25) (by unfold maxLen;omega);generalize grownCap w (0+n) 0 (ρ.t 25)=G at r l ⊢;have m:∀o:Obj,(w.drew.alloc o).heap=w.heap.push o:=λo=>rfl
   have k:∀o:Obj,Below w.heap.size w (w.drew.alloc o):=λo=>(Below.refl _ w).drew.alloc (Nat.le_refl _) o
   refine⟨_,_,[w.heap.size],I,rfl,rfl,?_,by simp,?_,k _,Mem.ep I,g.keep λb ⟨o,u,C⟩=>(k _).block b (g.lt C),λ_ _ _=>rfl⟩
   ·refine .row (.slice (some ⟨w.heap.size,0,none⟩) 0 G) _ _ _ [] ⟨⟨by simp,.inr ⟨w.heap.size,G,_,rfl,Nat.le_refl _,by rw[m];exact Array.getElem?_push_size,Nat.zero_le _,l,?_,by simp⟩⟩,j,by simp,by simp,by simp,λb c o=>?_⟩ rfl
    ·have e:(0+n-0)+(G-(0+n))=G:=by omega
     have p:([]:List Value).toArray.size=0:=rfl;rw[Array.size_append,Array.size_append,size_zeroCells,size_zeroCells,E,p,Nat.zero_add,<-Nat.add_mul,e]
    ·simp only[Value.ownBlock,cG] at c;subst c;cases s:I w.heap.size o with
     |none=>rfl
     |some u=>exact absurd (g.lt s) (Nat.lt_irrefl _)
   ·intro b c;simp only[List.mem_cons,List.not_mem_nil,or_false] at c;subst c;rw[m];simp
theorem Gj(L:Lays8.n4 P ρ)(g:gP P (ρ.f 4)=true){t e:TypeId}{sz a:Nat}(l:dA P t t=some (e,sz,a))(h:e=ρ.t 25)(n:Nat)(c:n * a<=140737488355328)(b:n<=4611686018427387904) :
  bw P (ρ.f 4) [.val (.slice none 0 0),.val (.int .i64 n)] (λv=>v = .row e sz []):=by
 obtain⟨_,_,o,_,i,z,j,m,k,d,p⟩:=nX l;subst h;have:=Zg L g i z j m (by omega) (by omega) n (by rw[d];exact c) b;rw[k] at this;exact this
end Go.cv
namespace Go.Proofs.YtnnpmiiegnedeaaGreat
open Go.cv
def Zh(l:List Int)(n:Int):Option (List Int):=gb (l=[]/\0<=n/\n<=1000000) []
theorem aru(l:List Int)(n:Int)(r:List Int)(h:Zh l n=some r):bw pw 82 [.val (.slice none 0 0),.val (.int .i64 n)] (λv=>v = .row 3 1 (r.map encI)):=by obtain⟨⟨_,a,b⟩,rfl⟩:=sg h;obtain⟨k,rfl⟩:∃k:Nat,n=k:=⟨n.toNat,by omega⟩;exact Gj Wp (by kernel_rfl) Ty.Vc rfl k (by omega) (by omega)
def mP(l:List aG)(n:Int):Option (List aG):=gb (l=[]/\0<=n/\n<=1000000) []
theorem xb(l:List aG)(n:Int)(r:List aG)(h:mP l n=some r):bw pw 114 [.val (.slice none 0 0),.val (.int .i64 n)] (λv=>v = .row 57 3 (r.map aB)):=by obtain⟨⟨_,a,b⟩,rfl⟩:=sg h;obtain⟨k,rfl⟩:∃k:Nat,n=k:=⟨n.toNat,by omega⟩;exact Gj Wr (by kernel_rfl) Ty.Vd rfl k (by omega) (by omega)
def kT(l:List aZ)(n:Int):Option (List aZ):=gb (l=[]/\0<=n/\n<=1000000) []
theorem vi(l:List aZ)(n:Int)(r:List aZ)(h:kT l n=some r):bw pw 131 [.val (.slice none 0 0),.val (.int .i64 n)] (λv=>v = .row 170 3 (r.map cB)):=by obtain⟨⟨_,a,b⟩,rfl⟩:=sg h;obtain⟨k,rfl⟩:∃k:Nat,n=k:=⟨n.toNat,by omega⟩;exact Gj Wt (by kernel_rfl) Ty.Ve rfl k (by omega) (by omega)
end Go.Proofs.YtnnpmiiegnedeaaGreat
namespace Go.cv
open Go.RowKit
variable{P:Program}{I:Mem}{L:bB}
mutual
def rR(id:Nat)(ps:List PV):AV->AV
 | .ptr i o=>if i=id then .p (.eF ps o) else .ptr i o
 | .row i v=>if i=id then .dead else .row i v
 | .jD i v j o=>if i=id then .dead else .jD i v j o
 | .eY i v=>if i=id then .dead else .eY i v
 | .kX i v j o=>if i=id then .dead else .kX i v j o
 | .kY i v j=>if i=id then .dead else .kY i v j
 | .nR i v j k o=>if i=id then .dead else .nR i v j k o
 | .eo i n=>if i=id then .dead else .eo i n
 | .iV i v o n m sz=>if i=id then .dead else .iV i v o n m sz
 | .agg cs=>.agg (qE id ps cs)
 | .dY cs=>.dY (qE id ps cs)
 | .iT f a b=>.iT f (qE id ps a) (qE id ps b)
 |x=>x
def qE(id:Nat)(ps:List PV):List AV->List AV
 | []=>[]
 |a :: r=>rR id ps a :: qE id ps r
end
theorem uO{id:Nat}{ps:List PV} : ∀ {cs:List AV} {j:Nat} {c:AV},(qE id ps cs)[j]? = some c->∃d,cs[j]? = some d/\c=rR id ps d
 | [],j,c,h=>by simp[qE] at h
 |a :: r,0,c,h=>by unfold qE at h;simp only[List.getElem?_cons_zero,cG] at h;exact⟨a,rfl,h.symm⟩
 |a :: r,j+1,c,h=>by unfold qE at h;exact uO (cs:=r) (by simpa using h)
theorem o8{id:Nat}{ps:List PV} : ∀cs:List AV,(qE id ps cs).length=cs.length
 | []=>rfl
 |a :: r=>by unfold qE;simp[o8 r]
def fixC(id:Nat)(ps:List PV):Chunk->Chunk
 | .box cs=>.box (qE id ps cs)
 |c=>c
def Cg(id:Nat)(ps:List PV):Option Chunk->Option Chunk
 |some c=>some (fixC id ps c)
 |none=>none
def Kx(id:Nat)(ps:List PV)(env:Env):Env:=λi=>rR id ps (env i)
def Ch(id:Nat)(ps:List PV)(H:az):az:=λi=>if i=id then none else Cg id ps (H i)
def Ax(L:bB)(id:Nat):bB:=λi=>if i=id then none else L i
theorem eP.fix{J:Mem}{id b:Nat}{ps:List PV}(hl:L id=some (.box b))(O:I.sub J)(D:∀off,VR J (.pointer (some ⟨b,off,none⟩)) (.eF ps off)){u:Value}{a:AV}(h:eP I L u a):eP J (Ax L id) u (rR id ps a):=by
 have r:∀i,i≠id->Ax L id i=L i:=λi E=>by simp[Ax,E]
 induction h with
 |p u x h=>unfold rR;exact .p u x (h.mono O)
 |row u i g o l B f k h q =>
  unfold rR;split
  ·exact .dead _
  ·exact .row u i g o l B ((r i (by assumption)).trans f) k h q
 |ptr i C off f =>
  unfold rR;split
  ·rename_i e;subst e;rw[hl] at f;simp only[cG,Loc.box.injEq] at f;subst f;exact .p _ _ (D off)
  ·exact .ptr i C off ((r i (by assumption)).trans f)
 |jD u i g o j off l B f k h q =>
  unfold rR;split
  ·exact .dead _
  ·exact .jD u i g o j off l B ((r i (by assumption)).trans f) k h q
 |eo i C n f =>
  unfold rR;split
  ·exact .dead _
  ·exact .eo i C n ((r i (by assumption)).trans f)
 |iV a i g o off n m c l B f k H G M h =>
  unfold rR;split
  ·exact .dead _
  ·exact .iV a i g o off n m c l B ((r i (by assumption)).trans f) k H G M h
 |agg us cs f _ K A=>unfold rR;refine .agg us _ (by rw[o8];exact f) (λj u c v s=>?_) K;obtain⟨d,t,rfl⟩:=uO s;exact A j u d v t
 |dY us cs f _ A=>unfold rR;refine .dY us _ (by rw[o8];exact f) (λj u c v s=>?_);obtain⟨d,t,rfl⟩:=uO s;exact A j u d v t
 |iT fn us vs P cs f F _ _ A N =>
  unfold rR;refine .iT fn us vs _ _ (by rw[o8];exact f) (by rw[o8];exact F) (λj u c v s=>?_) (λj u c v s=>?_)
  ·obtain⟨d,t,rfl⟩:=uO s;exact A j u d v t
  ·obtain⟨d,t,rfl⟩:=uO s;exact N j u d v t
 |eY u i g o l y z w n1 f k h q =>
  unfold rR;split
  ·exact .dead _
  ·exact .eY u i g o l y z w n1 ((r i (by assumption)).trans f) k h q
 |kX u i g o j off l y z w n1 f k h q =>
  unfold rR;split
  ·exact .dead _
  ·exact .kX u i g o j off l y z w n1 ((r i (by assumption)).trans f) k h q
 |kY u i g o j l y z w n1 f k h q =>
  unfold rR;split
  ·exact .dead _
  ·exact .kY u i g o j l y z w n1 ((r i (by assumption)).trans f) k h q
 |nR u i g o j m off l y z w n1 f k h q =>
  unfold rR;split
  ·exact .dead _
  ·exact .nR u i g o j m off l y z w n1 ((r i (by assumption)).trans f) k h q
 |dead u=>unfold rR;exact .dead u
def Mem.whole(I:Mem)(w:World)(a:Nat):Mem:=λb o=>if b=a then w.cell? ⟨b,o,none⟩ else I b o
theorem Zi{env:Env}{H:az}(id:Nat)(ps:List PV)(ba:id<1000000)(hH:H id=some (.box (ps.map AV.p))):dw env H (Kx id ps env) (Ch id ps H):=λC I L tm w r=>by
 obtain⟨b,arr,e,S,q2,q3,q4,q5,q6⟩:=r.chunk id _ hH;have Ak:C.L0 id=none:=by
  cases h:C.L0 id with
  |none=>rfl
  |some l=>have:=C.Ak id l h;omega
 let J:Mem:=I.whole w b;have ab:∀o,J b o=w.cell? ⟨b,o,none⟩:=λo=>by show I.whole w b b o=_;unfold Mem.whole;rw[if_pos rfl]
 have B:∀f,f≠b->∀o,J f o=I f o:=λf hn o=>by show I.whole w b f o=_;unfold Mem.whole;rw[if_neg hn]
 have A:I.sub J:=λf o u n=>by
  by_cases h:f=b
  ·subst h;rw[q6 o] at n;cases n
  ·rw[B f h];exact n
 have ap:J.en w:=λf o u n=>by
  by_cases h:f=b
  ·subst h;rw[ab] at n;exact n
  ·rw[B f h] at n;exact r.mem f o u n
 have P:∀i l f,i≠id->L i=some l->l.has f->f≠b:=λi l f k hl aq e=>k (r.apart i id l _ b hl S (e ▸ aq) rfl)
 have av:arr.toList.length=ps.length:=by simpa using q3
 have af:∀off,VR J (.pointer (some ⟨b,off,none⟩)) (.eF ps off):=λoff=>by
  have:=VR.eF (I:=J) b 0 ps arr.toList off av (λj u c n m=>by
   have:=(q4 j u (.p c) (by simpa using n) (by rw[List.getElem?_map,m];rfl)).oz;exact this.mono A) (λu n=>by
    obtain⟨j,M⟩:=List.mem_iff_getElem?.1 n;exact q5 j u (by simpa using M)) (λj u n=>by
     rw[Nat.zero_add,ab,gB q2];simpa using n)
  rwa [Nat.zero_add] at this
 have v:∀i,i≠id->Ax L id i=L i:=λi k=>by simp[Ax,k]
 have N:Ax L id id=none:=by simp[Ax]
 refine⟨J,Ax L id,?_⟩;exact
 {below:=r.below
  mem:=ap
  lH:=Mem.mD r.lH A
  mF:=λf s hf o=>by
   rw[B f (λe=>?_)]
   ·exact r.mF f s hf o
   ·subst e;rcases r.jQ id _ f S rfl with h|h
    ·omega
    ·exact hf h
  frame:=r.frame
  loc:=λi=>by
   by_cases k:i=id
   ·subst k;rw[Ak];trivial
   ·rw[v i k];exact r.loc i
  jQ:=λi l f hl s=>by
   by_cases k:i=id
   ·subst k;rw[N] at hl;cases hl
   ·rw[v i k] at hl;exact r.jQ i l f hl s
  size:=r.size
  env:=λt=>(r.env t).fix S A af
  dom:=λi l hl=>by
   by_cases k:i=id
   ·subst k;rw[N] at hl;cases hl
   ·rw[v i k] at hl;obtain⟨c,m⟩:=r.dom i l hl;exact⟨fixC id ps c,by unfold Ch;rw[if_neg k,m];rfl⟩
  chunk:=λi c m=>by
   by_cases k:i=id
   ·subst k;unfold Ch at m;rw[if_pos rfl] at m;cases m
   ·unfold Ch at m;rw[if_neg k] at m;cases U:H i with
    |none=>rw[U] at m;cases m
    |some X =>
     rw[U] at m;simp only[Cg,cG] at m;subst m;have G:=r.chunk i X U;cases X with
     |box cs =>
      obtain⟨f,al,e0,q,y,z,D,E,F⟩:=G;refine⟨f,al,e0,(v i k).trans q,y,by rw[o8];exact z,λj u c n m=>?_,E,λo=>?_⟩
      ·obtain⟨d,hd,rfl⟩:=uO m;exact (D j u d n hd).fix S A af
      ·rw[B f (P i _ f k q rfl)];exact F o
     |row T Y Q R=>obtain⟨K,V,q,y,z,D,E,F,O⟩:=G;exact⟨K,V,(v i k).trans q,y,z,D,λj u c n m=>(E j u c n m).mono A,F,λf s o=>by rw[B f (P i _ f k q s)];exact O f s o⟩
     |shut T R=>obtain⟨K,Q,q,y,z⟩:=G;exact⟨K,Q,(v i k).trans q,y.mono A,z⟩
     |blk W o1=>obtain⟨q,y,z⟩:=G;exact⟨(v i k).trans q,y,λo=>by rw[B W (P i _ W k q rfl)];exact z o⟩
     |tail T Y Q R=>obtain⟨g,o0,cap,arr,q,y,z,D,E,F,O,g8⟩:=G;exact⟨g,o0,cap,arr,(v i k).trans q,y,z,D,E,F,O.mono A,λj a b=>by rw[B g (P i _ g k q rfl)];exact g8 j a b⟩
     |deep T Y Q k1 e2 s2 R =>
      obtain⟨K,V,rO,q,y,z,D,E,F,O⟩:=G;have hk:∀f,(Loc.deep T K Q s2 rO R.length).has f->w.heap[f]? = w.heap[f]?/\∀o,J f o=I f o:=λf s=>⟨rfl,λo=>B f (P i _ f k q s) o⟩
      refine⟨K,V,rO,(v i k).trans q,y.keep A λf s=>hk f (.inl s),z,D,E,λj x hx=>?_,O⟩;obtain⟨l,a7,m1,m2,m3⟩:=F j x hx;exact⟨l,a7,m1,m2.keep A λf s=>hk f (.inr ⟨j,(List.getElem?_eq_some_iff.1 hx).1,s⟩),m3⟩
  gh:=λi l f hl s=>by
   by_cases k:i=id
   ·subst k;rw[N] at hl;cases hl
   ·rw[v i k] at hl;exact r.gh i l f hl s
  apart:=λi j li lj f k M sq vE=>by
   by_cases Z:i=id
   ·subst Z;rw[N] at k;cases k
   by_cases ej:j=id
   ·subst ej;rw[N] at M;cases M
   rw[v i Z] at k;rw[v j ej] at M;exact r.apart i j li lj f k M sq vE }
theorem Zj(id:Nat)(ps:List PV)(env:Env)(i:Nat):Kx id ps env i=rR id ps (env i):=rfl
theorem Zk(id:Nat)(ps:List PV)(H:az)(i:Nat):Ch id ps H i=if i=id then none else Cg id ps (H i):=rfl
theorem Zl(id:Nat)(ps:List PV)(c:Chunk):Cg id ps (some c)=some (fixC id ps c):=rfl
theorem Zm(id:Nat)(ps:List PV):Cg id ps none=none:=rfl
theorem Zn(id:Nat)(ps:List PV)(cs:List AV):fixC id ps (.box cs) = .box (qE id ps cs):=rfl
theorem Zo(id:Nat)(ps:List PV)(v:Nat)(e:TypeId)(sz:Nat)(es:List (List PV)):fixC id ps (.row v e sz es) = .row v e sz es:=rfl
theorem Zp(id:Nat)(ps:List PV):qE id ps []=[]:=by simp only[qE]
theorem Zq(id:Nat)(ps:List PV)(a:AV)(r:List AV):qE id ps (a :: r)=rR id ps a :: qE id ps r:=by simp only[qE]
theorem Zr(id:Nat)(ps:List PV)(x:PV):rR id ps (.p x) = .p x:=by simp only[rR]
theorem Zs(id:Nat)(ps:List PV)(i o:Nat):rR id ps (.ptr i o)=if i=id then .p (.eF ps o) else .ptr i o:=by simp only[rR]
theorem Zt(id:Nat)(ps:List PV)(i v:Nat):rR id ps (.row i v)=if i=id then .dead else .row i v:=by simp only[rR]
theorem Zu(id:Nat)(ps:List PV)(f:Fn)(a b:List AV):rR id ps (.iT f a b) = .iT f (qE id ps a) (qE id ps b):=by simp only[rR]
theorem Zv{o:Oper}{W:Env->az->Prop}{env tI:Env}{H H2:az}(hw:dw env H tI H2){k:FuncId}{ps:List PV}{b:Bool}{id v:Nat}{e:TypeId}{sz:Nat}{es es':List (List PV)}{fe:List AV}(c:kZ P k v e sz es ps λa c=>a = .row 1000000 (v+1)/\c=some (.row (v+1) e sz es'))
  (j:dL o (ev tI)=some (k,.row id v :: fe)) (g:H2 id=some (.row v e sz es))
  (m:eG (ia (vF H2 id)) fe=some (ps,b)) (l:b=true->(es'.all λx=>x.all isVal)=true) (i:W (cW tI o.dst (.row id (v+1))) (bn H2 id (.row (v+1) e sz es'))):j6 P o W env H :=
 uJ hw (.inl (.inr (.inr ⟨[],.inr ⟨k,id,v,e,sz,es,fe,ps,b,_,j,g,m,c,λa c ⟨d,f⟩=>by
  subst d f;exact⟨v+1,e,sz,es',.row id (v+1),rfl,rfl,λh=>⟨l h,rfl⟩,i⟩⟩⟩)))
attribute [go_sem] Zu Zj Zk Zl Zm Zn Zo Zp Zq Zr Zs Zt
end Go.cv
namespace Go.Proofs.YtnnpmiiegnedeaaGreat
open Go.cv
theorem Zw(n:ah)(id:Int):aS pw 113 [.agg (ag n),.eF [.val (.int .i64 id)] 0] (λv=>v = .val (.bool (decide (n.id=id)))):=by refine aR [] func113 ntmps113 results113 ?_;simp only[go_sem,ag]
theorem Zx(p:aH)(id:Int)(hl:p.ax.length<=1000000):aS pw 58 [.agg (aF p),.val (.int .i64 id)] (λv=>v = .val (.bool (p.ax.any λn=>decide (n.id=id)))):=by refine aR [] func58 ntmps58 results58 ?_;simp only[go_sem,aF];have a:=Ks (λn=>decide (n.id=id)) p.ax hl 113 [] [.eF [.val (.int .i64 id)] 0] (λx _=>Zw x id);refine aX (a) (by simp only[go_sem]<;>rfl) (cc rfl) ?_;simp only[go_sem]
theorem Zy(n:ah)(p:aH)(hl:p.ax.length<=1000000):aS pw 120 [.agg (ag n),.eF (aF p) 0] (λv=>v = .val (.bool (p.ax.any λm=>decide (m.id=n.id)))):=by refine aR [] func120 ntmps120 results120 ?_;simp only[go_sem,ag,aF];refine aX (Zx p n.id hl) (by simp only[go_sem,aF]<;>rfl) (cc rfl) ?_;simp only[go_sem,aF]
theorem Zz(y x:au):aS pw 124 [.agg (aj y),.eF (aj x) 0] (λv=>v = .val (.bool (decide (x.id=y.id)))):=by refine aR [] func124 ntmps124 results124 ?_;simp only[go_sem,aj]
theorem ZA(x:au)(p:aH)(hl:p.aA.length<=1000000):aS pw 123 [.agg (aj x),.eF (aF p) 0] (λv=>v = .val (.bool (p.aA.any λy=>decide (x.id=y.id)))):=by refine aR [] func123 ntmps123 results123 ?_;simp only[go_sem,aj,aF];have a:=Kt (λy=>decide (x.id=y.id)) p.aA hl 124 [] [.eF (aj x) 0] (λy _=>Zz y x);refine aX (a) (by simp only[go_sem,aj]<;>rfl) (cc rfl) ?_;simp only[go_sem,aj]
theorem ZB(w v:aQ):aS pw 129 [.agg (aI w),.eF (aI v) 0] (λr=>r = .val (.bool (decide (v.id=w.id)&&decide (v.attr=w.attr)))):=by
 refine aR [] func129 ntmps129 results129 ?_;simp only[go_sem,aI]
 repeat' first|done|(refine bT (λh=>?_) (λh=>?_)<;>try simp only[go_sem,h])|(refine bR (λh=>?_) (λh=>?_)<;>try simp only[go_sem,h])|(refine aW (λh=>?_) (λh=>?_)<;>try simp only[go_sem,h])|(refine aK (λh=>?_) (λh=>?_)<;>try simp only[go_sem,h])
theorem ZC(v:aQ)(p:aH)(hl:p.values.length<=1000000):aS pw 127 [.agg (aI v),.eF (aF p) 0] (λr=>r = .val (.bool (p.values.any λw=>decide (v.id=w.id)&&decide (v.attr=w.attr)))):=by refine aR [] func127 ntmps127 results127 ?_;simp only[go_sem,aI,aF];have a:=Y5 (λw=>decide (v.id=w.id)&&decide (v.attr=w.attr)) p.values hl 129 [] [.eF (aI v) 0] (λw _=>ZB w v);refine aX (a) (by simp only[go_sem,aI]<;>rfl) (cc rfl) ?_;simp only[go_sem,aI]
theorem ZD(l:List ah)(hl:l.length<=1000000):bw pw 119 [.aV (l.map ag)] (λr=>r = .row 86 3 (l.map ag)):=by
 by_cases b:l=[]
 ·subst b;refine bw.uu (by kernel_rfl) λc cap=>?_
  refine bF [5] func119 ntmps119 results119 ?_;simp only[go_sem];cases c with
  |none=>simp only[go_sem];exact⟨by decide,_,.nil _ _ (by decide),rfl⟩
  |some a=>simp only[go_sem];exact⟨λ_ h=>h.elim,by decide,_,.refl _,rfl⟩
 ·have d:l.map ag≠[]:=by simpa using b
  refine bF [5] func119 ntmps119 results119 ?_;simp only[go_sem,d];exact⟨⟨by omega,dJ (n:=3) (f:=ag) (λ_=>rfl) l⟩,by decide,_,.refl _,rfl⟩
theorem ZE(l:List au)(hl:l.length<=1000000):bw pw 122 [.aV (l.map aj)] (λr=>r = .row 88 4 (l.map aj)):=by
 by_cases b:l=[]
 ·subst b;refine bw.uu (by kernel_rfl) λc cap=>?_
  refine bF [5] func122 ntmps122 results122 ?_;simp only[go_sem];cases c with
  |none=>simp only[go_sem];exact⟨by decide,_,.nil _ _ (by decide),rfl⟩
  |some a=>simp only[go_sem];exact⟨λ_ h=>h.elim,by decide,_,.refl _,rfl⟩
 ·have d:l.map aj≠[]:=by simpa using b
  refine bF [5] func122 ntmps122 results122 ?_;simp only[go_sem,d];exact⟨⟨by omega,dJ (n:=4) (f:=aj) (λ_=>rfl) l⟩,by decide,_,.refl _,rfl⟩
theorem ZF(l:List aQ)(hl:l.length<=1000000):bw pw 126 [.aV (l.map aI)] (λr=>r = .row 91 4 (l.map aI)):=by
 by_cases b:l=[]
 ·subst b;refine bw.uu (by kernel_rfl) λc cap=>?_
  refine bF [5] func126 ntmps126 results126 ?_;simp only[go_sem];cases c with
  |none=>simp only[go_sem];exact⟨by decide,_,.nil _ _ (by decide),rfl⟩
  |some a=>simp only[go_sem];exact⟨λ_ h=>h.elim,by decide,_,.refl _,rfl⟩
 ·have d:l.map aI≠[]:=by simpa using b
  refine bF [5] func126 ntmps126 results126 ?_;simp only[go_sem,d];exact⟨⟨by omega,dJ (n:=4) (f:=aI) (λ_=>rfl) l⟩,by decide,_,.refl _,rfl⟩
def mQ(p q:aH):aH:={ q with
 ax:=q.ax.filter λn=>!p.ax.any λm=>decide (m.id=n.id)
 aA:=q.aA.filter λx=>!p.aA.any λy=>decide (x.id=y.id)
 values:=q.values.filter λv=>!p.values.any λw=>decide (v.id=w.id)&&decide (v.attr=w.attr) }
theorem ZG(p q:aH)(d:p.ax.length<=1000000)(e:p.aA.length<=1000000)(f:p.values.length<=1000000)(a:q.ax.length<=1000000)(b:q.aA.length<=1000000)(c:q.values.length<=1000000)(r:aH)(k:r=mQ p q) :
  bw pw 61 [.agg (aF p),.agg (aF q)] (λv=>v = .agg [.row 86 3 (r.ax.map ag),.row 88 4 (r.aA.map aj),.p (.aV (r.aP.map ag)),.p (.aV (r.aM.map aj)),.row 91 4 (r.values.map aI),.p (.val (.int .i64 r.next.x0)),.p (.val (.int .i64 r.next.x1))]):=by
 subst k;have g:=Y6 (λn=>p.ax.any λm=>decide (m.id=n.id)) q.ax a 0 120 [] [.eF (aF p) 0] (λx _=>Zy x p d);have i:=Y7 (λx=>p.aA.any λy=>decide (x.id=y.id)) q.aA b 0 123 [] [.eF (aF p) 0] (λx _=>ZA x p e);have j:=Y8 (λv=>p.values.any λw=>decide (v.id=w.id)&&decide (v.attr=w.attr)) q.values c 0 127 [] [.eF (aF p) 0] (λx _=>ZC x p f);refine bF [] func61 ntmps61 results61 ?_;simp only[go_sem,aF];refine w5 1000 (ZD q.ax a) (by simp only[go_sem]<;>rfl) (xl) (by simp only[go_sem]) ?_;simp only[go_sem];refine Zv (Zi 2 (aF p) (by decide) (by simp only[go_sem,aF])) g (by simp only[go_sem]<;>rfl) (by simp only[go_sem]<;>rfl) (by simp only[go_sem]<;>rfl) (λh=>by cases h) ?_;simp only[go_sem];refine w5 1001 (ZE q.aA b) (by simp only[go_sem]<;>rfl) (xl) (by simp only[go_sem]) ?_;simp only[go_sem];refine w6 i (by simp only[go_sem]<;>rfl) (by simp only[go_sem]<;>rfl) (by simp only[go_sem]<;>rfl) (λh=>by cases h) ?_;simp only[go_sem];refine w5 1002 (ZF q.values c) (by simp only[go_sem]<;>rfl) (xl) (by simp only[go_sem]) ?_;simp only[go_sem];refine w6 j (by simp only[go_sem]<;>rfl) (by simp only[go_sem]<;>rfl) (by simp only[go_sem]<;>rfl) (λh=>by cases h) ?_;simp only[go_sem];exact⟨by decide,_,.refl _,rfl⟩
theorem Ky{α:Type}(es:List α)(z:α)(i j:Nat)(c:i<j)(d:j<=es.length):(splice (splice es i ((es.drop j).take (es.length-j))) (i+(es.length-j)) (List.replicate (es.length-(i+(es.length-j))) z)).take (i+(es.length-j))=es.take i++es.drop j:=by
 have b:(es.drop j).take (es.length-j)=es.drop j:=List.take_of_length_le (by simp);rw[b];unfold splice;have a:(es.take i++es.drop j++es.drop (i+(es.drop j).length)).take (i+(es.length-j))=es.take i++es.drop j:=by
  have hl:(es.take i++es.drop j).length=i+(es.length-j):=by simp;omega
  rw[<-hl,List.take_left]
 rw[a,List.append_assoc];have hl:(es.take i++es.drop j).length=i+(es.length-j):=by simp;omega
 rw[<-hl,List.take_left]
theorem ZH(es:List (List PV))(i j:Nat)(v:Nat)(f:i<j)(g:j<=es.length)(h:es.length<=1000000):kZ pw 232 v 86 3 es [.val (.int .i64 i),.val (.int .i64 j)] (λa c=>a = .row 1000000 (v+1)/\c=some (.row (v+1) 86 3 (es.take i++es.drop j))):=by
 refine sI ?_;refine nk [] Ty.mixed func232 rfl (by kernel_rfl) (by simp[ntmps232]) ?_;rw[ntmps232,results232];simp only[go_sem];refine Kp 41 _ _ _ _ 0 1000000 v 86 3 es .i64 .i64 .i64 i j es.length rfl (by simp only[go_sem]) (by simp only[go_sem]) (by simp only[go_sem]) (by simp only[go_sem]) (by simp only[go_sem]) (by simp only[go_sem]) (by simp only[go_sem]) (by simp only[go_sem]) (by omega) ?_;simp only[go_sem];refine aK (λd=>?_) (λd=>?_)
 ·have:=b6 d;omega
 simp only[go_sem];refine dB [.p,.p,.p,.p,.p,.p,.t,.t] (by kernel_rfl) ?_;simp only[go_sem,Nat.sub_zero];refine⟨⟨by omega,by omega⟩,⟨by omega,by omega⟩,?_⟩;refine Km 41 41 _ _ 1000000 v i es.length j (es.length-j) (es.length-j) 86 3 _ es rfl (by simp only[go_sem]<;>rfl) (by simp only[go_sem]) (by simp only[go_sem]) (by simp only[go_sem]) (by omega) (by omega) (by omega) (by omega) ?_;simp only[go_sem];have e:(splice es i ((es.drop j).take (es.length-j))).length=es.length:=eD (by simp;omega);refine⟨⟨by omega,by omega⟩,?_⟩;refine sH 41 _ 1000000 v (i+(es.length-j)) (es.length-(i+(es.length-j))) _ 86 3 (splice es i ((es.drop j).take (es.length-j))) _ rfl (by simp only[go_sem]) (by simp only[go_sem]<;>rfl) rfl (by decide) rfl (by simp only[go_sem]<;>rfl) (by simp only[go_sem]) (by omega) (by omega) ?_;simp only[go_sem];have b:=Ky es ((cN pw 86).getD [] |>.map PV.val) i j f g;have hl:i+(es.length-j)<=(splice (splice es i ((es.drop j).take (es.length-j))) (i+(es.length-j)) (List.replicate (es.length-(i+(es.length-j))) ((cN pw 86).getD [] |>.map PV.val))).length:=by rw[eD (by rw[e,List.length_replicate];omega),e];omega
 rw[show (cN pw 86).getD []=_ from by simp only[go_sem]<;>rfl] at b hl;simp only[su,List.length_replicate,List.append_assoc,List.map_cons,List.map_nil] at b hl;exact⟨_,_,_,.inl rfl,rfl,hl,b⟩
theorem ZI(es:List (List PV))(i j:Nat)(v:Nat)(f:i<j)(g:j<=es.length)(h:es.length<=1000000):kZ pw 234 v 88 4 es [.val (.int .i64 i),.val (.int .i64 j)] (λa c=>a = .row 1000000 (v+1)/\c=some (.row (v+1) 88 4 (es.take i++es.drop j))):=by
 refine sI ?_;refine nk [] Ty.mixed func234 rfl (by kernel_rfl) (by simp[ntmps234]) ?_;rw[ntmps234,results234];simp only[go_sem];refine Kp 42 _ _ _ _ 0 1000000 v 88 4 es .i64 .i64 .i64 i j es.length rfl (by simp only[go_sem]) (by simp only[go_sem]) (by simp only[go_sem]) (by simp only[go_sem]) (by simp only[go_sem]) (by simp only[go_sem]) (by simp only[go_sem]) (by simp only[go_sem]) (by omega) ?_;simp only[go_sem];refine aK (λd=>?_) (λd=>?_)
 ·have:=b6 d;omega
 simp only[go_sem];refine dB [.p,.p,.p,.p,.p,.p,.t,.t] (by kernel_rfl) ?_;simp only[go_sem,Nat.sub_zero];refine⟨⟨by omega,by omega⟩,⟨by omega,by omega⟩,?_⟩;refine Km 42 42 _ _ 1000000 v i es.length j (es.length-j) (es.length-j) 88 4 _ es rfl (by simp only[go_sem]<;>rfl) (by simp only[go_sem]) (by simp only[go_sem]) (by simp only[go_sem]) (by omega) (by omega) (by omega) (by omega) ?_;simp only[go_sem];have e:(splice es i ((es.drop j).take (es.length-j))).length=es.length:=eD (by simp;omega);refine⟨⟨by omega,by omega⟩,?_⟩;refine sH 42 _ 1000000 v (i+(es.length-j)) (es.length-(i+(es.length-j))) _ 88 4 (splice es i ((es.drop j).take (es.length-j))) _ rfl (by simp only[go_sem]) (by simp only[go_sem]<;>rfl) rfl (by decide) rfl (by simp only[go_sem]<;>rfl) (by simp only[go_sem]) (by omega) (by omega) ?_;simp only[go_sem];have b:=Ky es ((cN pw 88).getD [] |>.map PV.val) i j f g;have hl:i+(es.length-j)<=(splice (splice es i ((es.drop j).take (es.length-j))) (i+(es.length-j)) (List.replicate (es.length-(i+(es.length-j))) ((cN pw 88).getD [] |>.map PV.val))).length:=by rw[eD (by rw[e,List.length_replicate];omega),e];omega
 rw[show (cN pw 88).getD []=_ from by simp only[go_sem]<;>rfl] at b hl;simp only[su,List.length_replicate,List.append_assoc,List.map_cons,List.map_nil] at b hl;exact⟨_,_,_,.inl rfl,rfl,hl,b⟩
theorem ZJ(n:ah)(id:Int):aS pw 286 [.agg (ag n),.eF [.val (.int .i64 id)] 0] (λv=>v = .val (.bool (decide (n.id=id)))):=by refine aR [] func286 ntmps286 results286 ?_;simp only[go_sem,ag]
theorem Gk(l:List ah)(hl:l.length<=1000000)(id:Int):aS pw 230 [.aV (l.map ag),.val (.int .i64 id)] (λv=>v = .val (.int .i64 (idxOf (λn=>decide (n.id=id)) l))):=by refine aR [] func230 ntmps230 results230 ?_;simp only[go_sem];have a:=Gg (λn=>decide (n.id=id)) l hl 286 [] [.eF [.val (.int .i64 id)] 0] (λx _=>ZJ x id);refine aX (a) (by simp only[go_sem]<;>rfl) (cc rfl) ?_;simp only[go_sem]
theorem ZK(n:au)(id:Int):aS pw 287 [.agg (aj n),.eF [.val (.int .i64 id)] 0] (λv=>v = .val (.bool (decide (n.id=id)))):=by refine aR [] func287 ntmps287 results287 ?_;simp only[go_sem,aj]
theorem Kz(l:List au)(hl:l.length<=1000000)(id:Int):aS pw 233 [.aV (l.map aj),.val (.int .i64 id)] (λv=>v = .val (.int .i64 (idxOf (λn=>decide (n.id=id)) l))):=by refine aR [] func233 ntmps233 results233 ?_;simp only[go_sem];have a:=Gh (λn=>decide (n.id=id)) l hl 287 [] [.eF [.val (.int .i64 id)] 0] (λx _=>ZK x id);refine aX (a) (by simp only[go_sem]<;>rfl) (cc rfl) ?_;simp only[go_sem]
def cD(x:ay)(i:Nat):ah:=⟨x.nodes.getD i default,x.host.graph.nodes.getD i default,x.host.values.getD i default⟩
def bA(x:ay):List ah:=(List.range x.nodes.length).map (cD x)
theorem ZL(x:ay)(k:x.nodes.length<=x.host.graph.nodes.length)(m:x.nodes.length<=x.host.values.length)(n:x.nodes.length<=1000000)(e:∀l∈x.host.values,l.length<=1000000) :
  bw pw 174 [.agg (aC x)] (λv=>v = .deep 86 3 2 3 1 ((bA x).map ag)):=by
 refine bF [31] func174 ntmps174 results174 ?_;simp only[go_sem,aC];refine bL (σ:=Nat) (λi=>(cK (cK (cK (cK (cK gv 1 (.ptr 1 0)) 3 (.eY 2000 i)) 7 (.p (.aV (x.nodes.map encI)))) 8 (.p (.val (.int .i64 x.nodes.length)))) 9 (.p (.val (.int .i64 i))))) (λi=>(bn (bn cu 1 (.box [.p (.aV (x.host.graph.nodes.map encI)),.p (.aV (x.host.graph.ak.map aY)),.p (.aV (x.host.values.map bI)),.p (.aV (x.nodes.map encI)),.p (.aV (x.ak.map encI)),.p (.val (.int .i64 x.next))])) 2000 (.deep i 86 3 2 3 1 (((bA x).take i).map ag))))
  (λi=>i<=x.nodes.length) (λi=>x.nodes.length-i) 0 (Nat.zero_le _) (dw.trans (Ym 3 2000 86 3 2 3 1 (by simp only[go_sem]) (by simp only[go_sem]) (by decide)) bY) ?_
 rintro i o;simp only[go_sem,aC];refine aK (λb=>?_) (λb=>?_)
 ·have a:i<x.nodes.length:=by have:=b6 b;omega
  have d:i<x.host.graph.nodes.length:=by omega
  have c:i<x.host.values.length:=by omega
  simp only[go_sem,getD_map encI a,encI];refine⟨a,?_⟩;refine dB [.p,.p,.q,.q,.q,.q,.p,.q,.q,.q,.q,.q,.p,.q,.q,.f,.p,.w,.t,.t] (by kernel_rfl) ?_;simp only[go_sem,getD_map encI d,getD_map bI c,encI,bI,br];refine⟨d,c,?_⟩;have j:x.host.values.getD i default∈x.host.values:=by simp[c]
  refine Dt 1464 (JC (x.host.values.getD i default) (e _ j)) (by simp only[go_sem]<;>rfl) (iL _) xl (by simp only[go_sem]) (by simp only[go_sem]) ?_;simp only[go_sem];refine Ki 41 41 _ _ 2000 31 1464 i 0 2 86 3 40 3 1 (((bA x).take i).map ag) ((x.host.values.getD i default).map encI) [.val (.int .i64 (x.nodes.getD i default)),.val (.int .i64 (x.host.graph.nodes.getD i default)),.val (.slice none 0 0)] rfl (by simp only[go_sem]<;>rfl) (by simp only[go_sem]) (by simp only[go_sem]) (by simp only[go_sem]) (by simp only[go_sem]) (by simp only[go_sem]) rfl (by decide) ?_ ?_
  ·simp;omega
  have g:((bA x).take i).map ag++[[.val (.int .i64 (x.nodes.getD i default)),.val (.int .i64 (x.host.graph.nodes.getD i default)),.aV ((x.host.values.getD i default).map encI)]]=((bA x).take (i+1)).map ag:=by
   have hl:i<(bA x).length:=by simp[bA];exact a
   rw[oG hl,List.map_append,List.map_cons,List.map_nil];have h:(bA x).getD i default=cD x i:=by simp[bA,a]
   rw[h];rfl
  simp only[go_sem,bz a (by omega)];refine bO (i+1) a (by omega) ?_;rw[g];exact bY
 ·have:i=x.nodes.length:=by have:=dK b;omega
  subst this;simp only[go_sem];exact⟨by decide,_,.refl _,by rw[List.take_of_length_le (by simp[bA])]⟩
def Du(a b:aG):Bool:=decide (a.kind=b.kind)&&(decide (a.id=b.id)&&decide (a.attr=b.attr))
theorem KA(a b:aG):Du a b=true↔a=b:=by cases a;cases b;simp[Du]
def fresh(l:List aG)(j:Nat):Bool:=decide (j=0) || !Du (l.getD j default) (l.getD (j-1) default)
theorem Dv{l:List aG}{j:Nat}{b:Bool}(a:1<=j)(h:Du (l.getD j default) (l.getD (j-1) default)=b):fresh l j = !b:=by unfold fresh;rw[h,gA (by omega),Bool.false_or]
def kept(l:List aG):Nat->List aG
 |0=>[]
 |j+1=>if fresh l j then kept l j++[l.getD j default] else kept l j
theorem Dw(l:List aG):∀j,j<=l.length->(∀i,i<j->fresh l i=true)->kept l j=l.take j
 |0,_,_=>rfl
 |j+1,b,h=>by rw[kept,if_pos (h j (by omega)),Dw l j (by omega) λi a=>h i (by omega),oG (by omega)]
theorem Gl(l:List aG):∀j,(kept l j).length<=j
 |0=>Nat.le_refl _
 |j+1=>by
  have:=Gl l j;unfold kept;split
  ·simp;omega
  ·omega
def lN(K g l:List aG)(j:Nat):List aG:=K++g++l.drop (j-1)
theorem ZM{K g l:List aG}{j:Nat}(h:K.length+g.length=j-1)(a:j<=l.length):(lN K g l j).length=l.length:=by simp[lN];omega
theorem KB{K g l:List aG}{j:Nat}(h:K.length+g.length=j-1)(i:Nat)(b:j-1<=i):(lN K g l j).getD i default=l.getD i default:=by
 have a:(K++g).length=j-1:=by rw[List.length_append];exact h
 simp only[lN,List.getD_eq_getElem?_getD];rw[List.getElem?_append_right (by omega),a,List.getElem?_drop,show j-1+(i-(j-1))=i by omega]
theorem ZN{K g l:List aG}{j:Nat}(b:1<=j)(c:j<l.length):lN K g l j=lN K (g++[l.getD (j-1) default]) l (j+1):=by
 have a:l.drop (j-1)=l.getD (j-1) default :: l.drop j:=by rw[List.drop_eq_getElem_cons (by omega)];simp[show j-1<l.length by omega,show j-1+1=j by omega]
 simp[lN,a]
theorem ZO{K g l:List aG}{j:Nat}(x:aG)(h:K.length+g.length=j-1)(c:1<=j)(d:j<l.length):∃a,(lN K g l j).set K.length x=lN (K++[x]) a l (j+1)/\(K++[x]).length+a.length=j+1-1:=by
 have b:l.drop (j-1)=l.getD (j-1) default :: l.drop j:=by rw[List.drop_eq_getElem_cons (by omega)];simp[show j-1<l.length by omega,show j-1+1=j by omega]
 cases g with
 |nil=>refine⟨[],?_,by simp at h ⊢;omega⟩;rw[lN,b,List.append_nil,List.set_append_right _ _ (Nat.le_refl _),Nat.sub_self];simp[lN]
 |cons y r=>refine⟨r++[l.getD (j-1) default],?_,by simp at h ⊢;omega⟩;rw[lN,b,List.append_assoc,List.set_append_right _ _ (Nat.le_refl _),Nat.sub_self];simp[lN]
theorem ZP(z:List PV)(K g l:List aG)(i:Nat)(b:K.length=i)(hl:(lN K g l l.length).length=l.length):(splice ((lN K g l l.length).map aB) i (List.replicate (l.length-i) z)).take i=K.map aB:=by
 unfold lN splice;rw[List.map_append,List.map_append,List.append_assoc,List.append_assoc];have a:(K.map aB).length=i:=by rw[List.length_map];exact b
 rw[<-a,List.take_left,List.take_left]
theorem ZQ(l:List aG)(hl:l.length<=1000000)(v:Nat):kZ pw 117 v 57 3 (l.map aB) []
  (λa c=>a = .row 1000000 (v+1)/\c=some (.row (v+1) 57 3 ((kept l l.length).map aB))):=by
 refine sI ?_;refine nk [] Ty.mixed func117 rfl (by kernel_rfl) (by simp[ntmps117]) ?_;rw[ntmps117,results117];simp only[go_sem];refine aK (λe=>?_) (λe=>?_)
 ·have T:l.length<2:=by have:=b6 e;omega
  simp only[go_sem];refine⟨_,_,0,rfl,rfl,Nat.le_refl _,?_⟩;rw[List.take_length,Dw l _ (Nat.le_refl _) (λi D=>by have w:i=0:=(by omega);subst w;rfl),List.take_length]
 have T:2<=l.length:=by have:=dK e;omega
 simp only[go_sem];refine bL (σ:=Nat) (λx=>(cK (cK gv 0 (.row 1000000 v)) 3 (.p (.val (.int .i64 x))))) (λx=>(bn cu 1000000 (.row v 57 3 (l.map aB))))
  (λx=>1<=x/\x<=l.length/\∀i,i<x->fresh l i=true) (λx=>l.length-x) 1 ⟨Nat.le_refl _,by omega,λi D=>by have w:i=0:=(by omega);subst w;rfl⟩ bY ?_
 rintro k ⟨I,V,F⟩;simp only[go_sem];refine aK (λe=>?_) (λe=>?_)
 ·have b:k<l.length:=by have:=b6 e;omega
  have hw:i64.wrap ((k:Int)-1)=((k-1:Nat):Int):=by rw[IntWalk.i64_in _ (by omega)];omega
  have d:k-1<l.length:=by omega
  simp only[go_sem,hw,getD_map aB b,getD_map aB d,aB];refine dB [.q,.q,.q,.q,.q,.q,.q,.q,.q,.q] (by kernel_rfl) ?_;simp only[go_sem,hw,getD_map aB b,getD_map aB d,aB];refine⟨b,b,by omega,d,?_⟩;refine aK (λy=>?_) (λy=>?_)
  ·have B:=Dv I y;simp only[go_sem,hw,getD_map aB b,getD_map aB d,aB];refine j8 _ _ (nZ 26 1000000 v 57 3 _ rfl rfl) (by simp only[go_sem,hw,getD_map aB b,getD_map aB d,aB]<;>rfl) ?_ ?_
   ·omega
   simp only[go_sem,hw,getD_map aB b,getD_map aB d,aB];refine bL (σ:=Nat×List aG×List aG) (λx=>(cK (cK (cK (cK gv 0 (.row 1000000 v)) 3 (.p (.val (.int .i64 x.2.1.length)))) 4 (.iV 1000000 v k (l.length-k) (l.length-k) 3)) 5 (.p (.val (.int .i64 x.1))))) (λx=>(bn cu 1000000 (.row v 57 3 ((lN x.2.1 x.2.2 l (k+x.1)).map aB))))
    (λx=>1<=x.1/\k+x.1<=l.length/\x.2.1=kept l (k+x.1)/\x.2.1.length+x.2.2.length=k+x.1-1) (λx=>l.length-(k+x.1)) (1,l.take k,[]) ⟨Nat.le_refl _,b,?_,?_⟩ ?_ ?_
   ·simp only;rw[kept,if_neg (by rw[B];simp),Dw l k (by omega) F]
   ·simp;omega
   ·have:lN (l.take k) [] l (k+1)=l:=by simp[lN]
    have U:(l.take k).length=k:=by simp;omega
    rw[this,U];exact bY
   rintro⟨x,K,g⟩ ⟨S,M,n,j⟩;simp only at S M n j;have f:=ZM j M;simp only[go_sem,hw,getD_map aB b,getD_map aB d,aB];refine aK (λG=>?_) (λG=>?_)
   ·have m:k+x<l.length:=by have:=b6 G;omega
    have u:i64.wrap ((x:Int)-1)=((x-1:Nat):Int):=by rw[IntWalk.i64_in _ (by omega)];omega
    have Q:k+x<(lN K g l (k+x)).length:=by omega
    have R:k+(x-1)<(lN K g l (k+x)).length:=by omega
    have r:((lN K g l (k+x)).map aB).getD (k+x) []=aB (l.getD (k+x) default):=by rw[getD_map aB Q,KB j _ (by omega)]
    have s:((lN K g l (k+x)).map aB).getD (k+(x-1)) []=aB (l.getD (k+x-1) default):=by rw[getD_map aB R,KB j _ (by omega),show k+(x-1)=k+x-1 by omega]
    simp only[go_sem,hw,getD_map aB b,getD_map aB d,aB,u,r,s,f];refine dB [.q,.q,.q,.q,.q,.q,.q,.q,.q,.q] (by kernel_rfl) ?_;simp only[go_sem,hw,getD_map aB b,getD_map aB d,aB,u,r,s,f];refine⟨⟨by omega,by omega⟩,by omega,⟨by omega,by omega⟩,by omega,?_⟩;refine aW (λz=>?_) (λz=>?_)
    ·have C:=Dv (show 1<=k+x by omega) z;simp only[go_sem,bz (show x<l.length by omega) (by omega),hw,getD_map aB b,getD_map aB d,aB,u,r,s,f];refine bO (x+1,K,g++[l.getD (k+x-1) default]) ⟨by omega,m,?_,by simp;omega⟩ (by simp only;omega) ?_
     ·show K=kept l (k+x+1);rw[kept,if_neg (by rw[C];simp)];exact n
     ·rw[ZN (by omega) m];exact bY
    ·have C:=Dv (show 1<=k+x by omega) z;obtain⟨H,N,O⟩:=ZO (l.getD (k+x) default) j (by omega) m;have L:((lN K g l (k+x)).map aB).set K.length (aB (l.getD (k+x) default))=(lN (K++[l.getD (k+x) default]) H l (k+x+1)).map aB:=by rw[<-N,List.map_set]
     have o:K.length<l.length:=by omega
     have P:((lN K g l (k+x)).map aB).getD K.length []=aB ((lN K g l (k+x)).getD K.length default):=getD_map aB (by omega);simp only[aB] at L;simp only[go_sem,bz (show x<l.length by omega) (by omega),bz o (by omega),P,hw,getD_map aB b,getD_map aB d,aB,u,r,s,f];refine⟨⟨by omega,by omega⟩,m,o,o,?_⟩;refine bO (x+1,K++[l.getD (k+x) default],H) ⟨by omega,m,?_,O⟩ (by simp only;omega) ?_
     ·show K++_=kept l (k+x+1);rw[kept,if_pos (by rw[C];rfl),n]
     ·rw[L];exact bY
   ·have J:k+x=l.length:=by have:=dK G;omega
    rw[J] at n j f;have o:K.length<l.length:=by omega
    have t:((lN K g l l.length).map aB).length=l.length:=by rw[List.length_map];exact f
    have A:=ZP [PV.val (.int .i64 0),PV.val (.int .i64 0),PV.val (.int .i64 0)] K g l K.length rfl f;simp only[su,List.length_replicate,List.append_assoc] at A;rw[J];generalize (lN K g l l.length).map aB=E at t A ⊢;simp only[go_sem,hw,getD_map aB b,getD_map aB d,aB];refine j8 _ _ (nZ 54 1000000 v 57 3 _ rfl rfl) (by simp only[go_sem,hw,getD_map aB b,getD_map aB d,aB]<;>rfl) ?_ ?_
    ·omega
    simp only[go_sem,t,hw,getD_map aB b,getD_map aB d,aB];refine sH 52 _ 1000000 v K.length (l.length-K.length) _ 57 3 E _ rfl (by simp only[go_sem,hw,getD_map aB b,getD_map aB d,aB]) (by simp only[go_sem,hw,getD_map aB b,getD_map aB d,aB]<;>rfl) rfl (by decide) rfl (by simp only[go_sem,hw,getD_map aB b,getD_map aB d,aB]<;>rfl) (by simp only[go_sem,hw,getD_map aB b,getD_map aB d,aB]) (by omega) (by omega) ?_;simp only[go_sem,hw,getD_map aB b,getD_map aB d,aB];refine j8 _ _ (nZ 57 1000000 v 57 3 _ rfl rfl) (by simp only[go_sem,hw,getD_map aB b,getD_map aB d,aB]<;>rfl) ?_ ?_
    ·simp[t];omega
    simp only[go_sem,hw,getD_map aB b,getD_map aB d,aB];exact⟨_,_,_,.inl rfl,rfl,by simp[t];omega,by rw[<-n];exact A⟩
  ·have B:=Dv I y;simp only[go_sem,bz b (by omega),hw,getD_map aB b,getD_map aB d,aB];refine bO (k+1) ⟨by omega,b,λi D=>?_⟩ (by omega) bY;rcases Nat.lt_succ_iff_lt_or_eq.1 D with h|h
   ·exact F i h
   ·rw[h,B];rfl
 ·have:k=l.length:=by have:=dK e;omega
  subst this;simp only[go_sem];exact⟨_,_,0,rfl,rfl,Nat.le_refl _,by rw[List.take_length,Dw l _ (Nat.le_refl _) F,List.take_length]⟩
def gN(x y:aG):Bool:=decide (x.id<y.id\/x.id=y.id/\x.attr<=y.attr)
def oL(x:aG):Prop:=-1000000<=x.id/\x.id<=1000000/\-1000000<=x.attr/\x.attr<=1000000
def gT(l:List aG):List aG:=kept (l.mergeSort gN) l.length
def kI(l:List ah)(m:List au)(id:Int):Bool:=(l.any λn=>decide (n.id=id))||m.any λe=>decide (e.id=id)
def dV(a b:ah):Bool:=decide (a.id=b.id)&&(decide (a.type=b.type)&&decide (a.values=b.values))
def mA:List ah->List ah->Nat->Bool×List ah×Nat
 |l,[],v=>(true,l,v)
 |l,n :: r,v=>match l.findIdx? λm=>decide (m.id=n.id) with
  |none=>(false,l,v)
  |some i=>if dV (l.getD i default) n then mA (l.take i++l.drop (i+1)) r (v+1) else (false,l,v)
def qK(a b:au):Bool:=decide (a.id=b.id)&&(decide (a.type=b.type)&&(decide (a.src=b.src)&&decide (a.dst=b.dst)))
def ot:List au->List au->Nat->Bool×List au×Nat
 |l,[],v=>(true,l,v)
 |l,n :: r,v=>match l.findIdx? λm=>decide (m.id=n.id) with
  |none=>(false,l,v)
  |some i=>if qK (l.getD i default) n then ot (l.take i++l.drop (i+1)) r (v+1) else (false,l,v)
def gw(l:List Int)(v:aQ):Bool:=!decide (v.attr<0)&&(!decide ((l.length:Int)<=v.attr)&&(decide (l.getD v.attr.toNat default=v.old) && !decide (v.new=v.old)))
def mB:List ah->List aQ->Bool×List ah
 |l,[]=>(true,l)
 |l,v :: r=>match l.findIdx? λm=>decide (m.id=v.id) with
  |none=>(false,l)
  |some i=>if gw (l.getD i default).values v then mB (l.set i { l.getD i default with values:=(l.getD i default).values.set v.attr.toNat v.new }) r else (false,l)
def gF(l:List ah)(m:List au)(p:aH):Bool:=(p.aP.any λn=>kI l m n.id)||p.aM.any λe=>kI l m e.id
def kU(l:List ah):List ah:=l.mergeSort λx y=>decide (x.id<=y.id)
def nt(l:List au):List au:=l.mergeSort λx y=>decide (x.id<=y.id)
def Bv{α:Type} [Inhabited α](f:α->Int)(d:List α):Prop:=∀i j,i<d.length->j<d.length->f (d.getD i default)=f (d.getD j default)->i=j
instance{α:Type} [Inhabited α](f:α->Int)(d:List α):Decidable (Bv f d):=decidable_of_iff (∀i,i<d.length->∀j,j<d.length->f (d.getD i default)=f (d.getD j default)->i=j) ⟨λh i j a b=>h i a j b,λh i a j b=>h i j a b⟩
def qY(a b:Int):Int:=if a<b then -1 else if a > b then 1 else 0
end Go.Proofs.YtnnpmiiegnedeaaGreat
namespace Go.cv
theorem ZR(id:Nat)(env:Env)(i:Nat):Dq id env i=mh id (env i):=rfl
theorem ZS(id:Nat)(H:az)(i:Nat):xZ id H i=if i=id then Dr (H i) else Cf id (H i):=rfl
theorem ZT(id:Nat)(x:PV):mh id (.p x) = .p x:=by simp only[mh]
theorem ZU(id i v:Nat):mh id (.eY i v)=if i=id then .row i v else .eY i v:=by simp only[mh]
theorem ZV(id i v:Nat):mh id (.row i v)=if i=id then .dead else .row i v:=by simp only[mh]
theorem ZW(id i o:Nat):mh id (.ptr i o)=if i=id then .dead else .ptr i o:=by simp only[mh]
theorem ZX(id:Nat):oh id []=[]:=by simp only[oh]
theorem ZY(id:Nat)(a:AV)(r:List AV):oh id (a :: r)=mh id a :: oh id r:=by simp only[oh]
theorem ZZ(id:Nat)(c:Chunk):Cf id (some c)=some (Bu id c):=rfl
theorem Z0(id:Nat):Cf id none=none:=rfl
theorem Z1(id:Nat)(cs:List AV):Bu id (.box cs) = .box (oh id cs):=rfl
theorem Z2(id v:Nat)(e:TypeId)(sz:Nat)(es:List (List PV)):Bu id (.row v e sz es) = .row v e sz es:=rfl
theorem Z3(id v:Nat)(e:TypeId)(sz k:Nat)(a:TypeId)(b:Nat)(es:List (List PV)):Bu id (.deep v e sz k a b es) = .deep v e sz k a b es:=rfl
theorem Z4(v:Nat)(e:TypeId)(sz k:Nat)(a:TypeId)(b:Nat)(es:List (List PV)):Dr (some (.deep v e sz k a b es))=some (.row v e sz es):=rfl
attribute [go_sem] ZR ZS ZT ZU ZV ZW ZX ZY ZZ Z0 Z1 Z2 Z3 Z4
theorem Z5{H:az}(id:Nat):oo H id 5=(H id=none/\oo H (id+1) 4):=rfl
theorem Z6{H:az}(id:Nat):oo H id 6=(H id=none/\oo H (id+1) 5):=rfl
theorem Z7{H:az}(id:Nat):oo H id 7=(H id=none/\oo H (id+1) 6):=rfl
theorem Z8{H:az}(id:Nat):oo H id 8=(H id=none/\oo H (id+1) 7):=rfl
theorem Z9{H:az}(id:Nat):oo H id 9=(H id=none/\oo H (id+1) 8):=rfl
theorem au2{H:az}(id:Nat):oo H id 10=(H id=none/\oo H (id+1) 9):=rfl
theorem ap9{own:List Nat}{ops:Array Oper}(id:Nat):Af own ops id 5=(me own ops id=false/\Af own ops (id+1) 4):=rfl
attribute [go_sem] Z5 Z6 Z7 Z8 Z9 au2 ap9
def Ay(n:Nat)(H:az):Prop:=∀i,n<=i->H i=none
theorem Dx(n:Nat):Ay n cu:=λ_ _=>rfl
theorem Dy{n i:Nat}{c:Chunk}{H:az}(b:i<n)(h:Ay n H):Ay n (bn H i c):=λj a=>by unfold bn;rw[if_neg (by omega)];exact h j a
theorem Dz{n s t:Nat}{H:az}(b:s<n)(c:t<n)(h:Ay n H):Ay n (Ad s t H):=λj a=>by unfold Ad sw;rw[if_neg (by omega),if_neg (by omega),h j a];rfl
theorem azk{n id:Nat}{H:az}(b:id<n)(h:Ay n H):Ay n (xZ id H):=λj a=>by unfold xZ;rw[if_neg (by omega),h j a];rfl
theorem keepTop{H b:az}(h:Ay 1000003 H)(c:H 1000000=none)(d:H 1000001=none)(e:H 1000002=none):mH H b:=λi f a=>by
 rcases Nat.lt_or_ge i 1000003 with h3|h3
 ·have:i=1000000\/i=1000001\/i=1000002:=by omega
  rcases this with rfl|rfl|rfl
  ·exact absurd c a
  ·exact absurd d a
  ·exact absurd e a
 ·exact absurd (h i h3) a
open Go.RowKit
variable{P:Program}{I:Mem}{L:bB}
theorem azl(a b c d e f:PV):iI [a,b,c,d,e,f]=cK (cK (cK (cK (cK (cK gv 0 (.p a)) 1 (.p b)) 2 (.p c)) 3 (.p d)) 4 (.p e)) 5 (.p f):=by funext t;unfold iI cK gv;rcases t with _|_|_|_|_|_|t<;>simp
theorem azm(a b c d e f g:PV):iI [a,b,c,d,e,f,g]=cK (cK (cK (cK (cK (cK (cK gv 0 (.p a)) 1 (.p b)) 2 (.p c)) 3 (.p d)) 4 (.p e)) 5 (.p f)) 6 (.p g):=by funext t;unfold iI cK gv;rcases t with _|_|_|_|_|_|_|t<;>simp
attribute [go_sem] azl azm
end Go.cv
namespace Go.cv
open Go.RowKit
theorem KC:∀ {a b c d:List (List PV)},lK a b->lK c d->lK (a++c) (b++d)
 | [],[],_,_,_,h=>h
 |_ :: _,_ :: _,_,_,h,k=>by unfold lK at h;rw[List.cons_append,List.cons_append];unfold lK;exact⟨h.1,KC h.2 k⟩
 | [],_ :: _,_,_,h,_=>by unfold lK at h;exact h.elim
 |_ :: _,[],_,_,h,_=>by unfold lK at h;exact h.elim
theorem aqa{α:Type}(E:α->List PV)(l m:List α){c:List (List PV)}(h:lK c (m.map E)):lK (l.map E++c) ((l++m).map E):=by rw[List.map_append];exact KC (xV _) h
theorem aqb{env:Env}{H:az}(id v:Nat)(e:TypeId)(sz:Nat)(es es':List (List PV))(z:H id=some (.row v e sz es))(G:lK es es'):dw env H env (bn H id (.row v e sz es')):=λC I L O w b=>by
 obtain⟨hl,B⟩:=tw es es' G;have F:es.length=es'.length:=by have:=congrArg List.length hl;simpa using this
 refine⟨I,L,{ b with dom:=λi l D=>?_,chunk:=λi f a=>?_ }⟩
 ·obtain⟨c,d⟩:=b.dom i l D;by_cases h:i=id
  ·exact⟨_,by unfold bn;rw[if_pos h]⟩
  ·exact⟨c,by unfold bn;rw[if_neg h];exact d⟩
 ·by_cases h:i=id
  ·subst h;have:Chunk.row v e sz es'=f:=by simpa[bn] using a
   subst this;obtain⟨A,us,o,p,q,r,s,t,y⟩:=b.chunk i _ z;refine⟨A,us,o,F ▸ p,q,λx K=>?_,λj u c J d=>?_,t,y⟩
   ·obtain⟨k,E,rfl⟩:=List.getElem_of_mem K;have g:(es.map (·.length))[k]? = (es'.map (·.length))[k]?:=by rw[hl]
    have m:k<es.length:=by omega
    simp only[List.getElem?_map,List.getElem?_eq_getElem E,List.getElem?_eq_getElem m,Option.map_some,cG] at g;rw[<-g];exact r _ (l8 m)
   ·obtain⟨n,M,N⟩:=B.at d;exact N I u (s j u n J M)
  ·exact b.chunk i f (by unfold bn at a;rw[if_neg h] at a;exact a)
theorem sJ{α:Type}{env:Env}{H:az}(id v:Nat)(e:TypeId)(sz:Nat)(E:α->List PV)(l m:List α){c:List (List PV)}(a:H id=some (.row v e sz (l.map E++c)))(b:lK c (m.map E)):dw env H env (bn H id (.row v e sz ((l++m).map E))):=aqb id v e sz _ _ a (aqa E l m b)
end Go.cv
namespace Go.Proofs.YtnnpmiiegnedeaaGreat
open Go.cv
attribute [go_sem] Nat.reduceEqDiff Nat.reduceLT Nat.reduceLeDiff Nat.reduceMul Nat.reduceAdd Nat.reduceBEq Nat.reduceSub Int.reduceToNat reduceIte reduceCtorEq FB List.cons_append List.nil_append
def Az(e:Env):List Nat->List (Nat×AV)->List (Nat×AV)
 | [],l=>l
 |t :: a,l=>(t,e t) :: Az e a l
theorem au3(e:Env)(l:List (Nat×AV)):Az e [] l=l:=rfl
theorem aqc(e:Env)(t:Nat)(a:List Nat)(l:List (Nat×AV)):Az e (t :: a) l=(t,e t) :: Az e a l:=rfl
def Bw(cs:List AV):List (Nat×AV)->List AV
 | []=>cs
 |(j,v) :: r=>Bw (cs.set j v) r
def bx(c:Option Chunk)(l:List (Nat×AV)):Chunk:=match c with
 |some (.box cs)=>.box (Bw cs l)
 |_=>.box []
def Gm:Option Chunk->Chunk
 |some c=>c
 |none=>.box []
def AA(H:az):List Nat->List (Nat×Chunk)->List (Nat×Chunk)
 | [],l=>l
 |t :: a,l=>(t,Gm (H t)) :: AA H a l
theorem aqd(H:az)(l:List (Nat×Chunk)):AA H [] l=l:=rfl
theorem amP(H:az)(t:Nat)(a:List Nat)(l:List (Nat×Chunk)):AA H (t :: a) l=(t,Gm (H t)) :: AA H a l:=rfl
theorem aCd(cs:List AV)(l:List (Nat×AV)):bx (some (.box cs)) l = .box (Bw cs l):=rfl
theorem aCe(cs:List AV):Bw cs []=cs:=rfl
theorem azn(cs:List AV)(j:Nat)(v:AV)(r:List (Nat×AV)):Bw cs ((j,v) :: r)=Bw (cs.set j v) r:=rfl
theorem azo(c:Chunk):Gm (some c)=c:=rfl
theorem aFD(x:PV):(RV.p x).pv=x:=rfl
theorem aCf(e:TypeId)(sz:Nat)(es:List (List PV)):(RV.row e sz es).pv = .aV es:=rfl
theorem aCg(rs:List RV):(RV.agg rs).pv = .agg (RV.kR rs):=rfl
theorem aCh(rs:List RV):(RV.dY rs).pv = .dY (RV.kR rs):=rfl
theorem azp:RV.kR []=[]:=rfl
theorem au4(r:RV)(rs:List RV):RV.kR (r :: rs)=r.pv :: RV.kR rs:=rfl
attribute [go_sem] au3 aqc aqd amP aCd aCe azn azo aFD aCf aCg aCh azp au4
def kR{α:Type}(e:α->List PV)(l:List α):PV:=.aV (l.map e)
attribute [go_sem] kR
section
variable{α β γ δ ε ζ R:Type}{k n:Nat}{fn:Func}{c:Code}{rs:Array ResultVar}
end
section
variable{α β R:Type}{p q F:Prop}{r:R}{P:Program}{k:FuncId}{ps:List PV}
theorem zV(z:q)(e:q->p:=by intro Z;(try simp -implicitDefEqProofs only[go_sem,F]);exact Z):p:=e z
theorem zX(e:q->p:=by intro Z;(try simp -implicitDefEqProofs only[go_sem,F]);exact Z)(z:q):p:=e z
theorem zF{A:Prop}(a:A)(f:F)(z:F/\A->p):p:=z ⟨f,a⟩
theorem zC{A:Prop} [Decidable A]{x:Option R}(f:F)(h:cL A x=some r)(z:F/\A->x=some r->p):p:=z ⟨f,(FT h).1⟩ (FT h).2
theorem zI{l:List α}{i:Nat}{g:α->Option R}(E:α->List PV)(f:F)(h:thn l[i]? g=some r)(z:∀x,F/\i<l.length/\(l.map E).getD i []=E x->g x=some r->p):p:=by obtain⟨x,a,b,_,d⟩:=JU E h;exact z x ⟨f,a,b⟩ d
theorem zJ{l:List α}{i:Nat}{g:α->Option R}(j:Int)(E:α->List PV)(f:F)(h:thn l[i]? g=some r)(z:∀x,F/\(i<l.length/\j<((l.length:Nat):Int)/\0<=j)/\(l.map E).getD i []=E x->g x=some r->p)(c:j=(i:Int):=by rfl):p:=by obtain⟨x,a,b,_,d⟩:=JU E h;exact z x ⟨f,⟨a,by omega,by omega⟩,b⟩ d
theorem zA{l:List α}{i:Int}{g:α->Option R}(E:α->List PV)(f:F)(h:thn (nr l i) g=some r)(z:∀x,F/\(0<=i/\i<((l.length:Nat):Int)/\i.toNat<l.length)/\(l.map E).getD i.toNat []=E x->g x=some r->p):p:=by obtain⟨x,a,b,c,_,d⟩:=JV E h;exact z x ⟨f,⟨a,b,toNat_lt a b⟩,c⟩ d
theorem Ci{l:List α}{i:Int}{g:α->Option R}(E:α->List PV)(f:F)(h:thn (nr l i) g=some r)(z:∀x,nr l i=some x->F/\(0<=i/\i<((l.length:Nat):Int)/\i.toNat<l.length)/\(l.map E).getD i.toNat []=E x->g x=some r->p):p:=by obtain⟨x,a,b,c,q,d⟩:=JV E h;exact z x q ⟨f,⟨a,b,toNat_lt a b⟩,c⟩ d
theorem aFE{l:List α}{i:Int}{x:α}(h:nr l i=some x):l[i.toNat]? = some x:=by
 unfold nr at h;split at h
 ·exact h
 ·cases h
theorem zU{o:Option α}{e:α}{g:α->Option R}(q:o=some e)(h:thn o g=some r)(z:g e=some r->p):p:=by subst q;exact z h
theorem zB{b:Bool}{x y:Option R}{c d:Prop}(f:F)(h:cond b x y=some r)(t:F/\b=true->x=some r->c)(u:F/\b=false->y=some r->d)
  (e:(b=true->c)->(b=false->d)->p:=by intro A B;(try simp -implicitDefEqProofs only[go_sem,F]);exact aK A B):p :=
 e (λa=>t ⟨f,a⟩ (As h a)) λa=>u ⟨f,a⟩ (Br h a)
theorem oM{b:Bool}{x y:Option R}{c d:Prop}(f:F)(h:cond b x y=some r)(t:F/\b=true->x=some r->c)(u:F/\b=false->y=some r->d)
  (e:(b=true->c)->(b=false->d)->p:=by intro A B;(try simp -implicitDefEqProofs only[go_sem,F]);exact aW A B):p :=
 e (λa=>t ⟨f,a⟩ (As h a)) λa=>u ⟨f,a⟩ (Br h a)
theorem nQ{b:Bool}{x y:Option R}{c d:Prop}(f:F)(h:cond b x y=some r)(t:F/\b=true->x=some r->c)(u:F/\b=false->y=some r->d)
  (e:(b=true->c)->(b=false->d)->p:=by intro A B;(try simp -implicitDefEqProofs only[go_sem,F]);exact bR A B):p :=
 e (λa=>t ⟨f,a⟩ (As h a)) λa=>u ⟨f,a⟩ (Br h a)
theorem rS{b:Bool}{x y:Option R}{c d:Prop}(f:F)(h:cond b x y=some r)(t:F/\b=true->x=some r->c)(u:F/\b=false->y=some r->d)
  (e:(b=true->c)->(b=false->d)->p:=by intro A B;(try simp -implicitDefEqProofs only[go_sem,F]);exact bT A B):p :=
 e (λa=>t ⟨f,a⟩ (As h a)) λa=>u ⟨f,a⟩ (Br h a)
theorem mE{b:Bool}{x y:Option R}{c d:Prop}(f:F)(h:cond b x y=some r)(t:F/\b=true->x=some r->c)(u:F/\b=false->y=some r->d)
  (e:(b=true->c)->(b=false->d)->p:=by intro A B;(try simp -implicitDefEqProofs only[go_sem,F]);exact oW A B):p :=
 e (λa=>t ⟨f,a⟩ (As h a)) λa=>u ⟨f,a⟩ (Br h a)
theorem AZ{b:Bool}{x y:Option R}{c d:Prop}(f:F)(h:cond b x y=some r)(t:F/\b=true->x=some r->c)(u:F/\b=false->y=some r->d)
  (e:(b=true->c)->(b=false->d)->p:=by intro A B;(try simp -implicitDefEqProofs only[go_sem,F]);exact pY A B):p :=
 e (λa=>t ⟨f,a⟩ (As h a)) λa=>u ⟨f,a⟩ (Br h a)
def Hint{α:Type}(_:α):Prop:=True
theorem aCi{x:PV}{env:Env}{H:az}{o:Oper}{W:Env->az->Prop}{a:List PV}{b:Bool}{ids:List Nat}(_:Hint ids)(c:aS P k ps λr=>r=x)(f:lp o (ev env) (eH ids H)=some (k,a,b))(g:rQ a ps)(e:b=true->x.scalar=true)(d:W (cW env o.dst (.p x)) (eH ids H)):j6 P o W env H:=XQ ids c f g e d
theorem aCj{env:Env}{H:az}{o:Oper}{W:Env->az->Prop}{a:List PV}{b:Bool}{id:Nat}(_:Hint id){x:RV}(c:bw P k ps λv=>v=x)(f:lp o (ev env) H=some (k,a,b))(h:rQ a ps)(e:b=true->x.flat=true)(g:oo H id ((dz id x).2-id))(d:W (cW env o.dst (dz id x).1) (iO id H x)):j6 P o W env H:=XP id c f h e g d
theorem azq{own:List Nat}{ops:Array Oper}{env:Env}{H:az}{o:Oper}{W:Env->az->Prop}{a:List PV}{b:Bool}{id:Nat}(_:Hint id){x:RV}(c:bw P k ps λv=>v=x)(f:lp o (ev env) (pW own ops H)=some (k,a,b))(i:rQ a ps)(e:b=true->x.flat=true)(g:oo H id ((dz id x).2-id))(h:Af own ops id ((dz id x).2-id))(d:W (cW env o.dst (dz id x).1) (iO id H x)):BZ P own ops o W env H:=Dt id c f i e g h d
theorem zK{X:α->PV}{o:Option α}{g:α->Option R}{q:α->Prop}(f:F)(h:thn o g=some r)(c:∀x,o=some x->aS P k ps λv=>v=X x)(z:∀x,g x=some r->q x)
  (e:∀x,(aS P k ps λv=>v=X x)->q x->p:=by intro x C Z;(try simp -implicitDefEqProofs only[go_sem,F]);exact Ca C (by simp -implicitDefEqProofs only[go_sem,F]<;>rfl) (by first|exact iL _|(simp -implicitDefEqProofs only[go_sem,F]<;>rfl)) (by first|exact y6|exact cc rfl) Z):p:=by
 obtain⟨x,a,b⟩:=oI h;exact e x (c x a) (z x b)
theorem si{X:α->PV}{o:Option α}{g:α->Option R}{q:α->Prop}(f:F)(h:thn o g=some r)(c:∀x,o=some x->aS P k ps λv=>v=X x)(z:∀x,g x=some r->q x)
  (e:∀x,(aS P k ps λv=>v=X x)->q x->p:=by intro x C Z;(try simp -implicitDefEqProofs only[go_sem,F]);exact FY C (by simp -implicitDefEqProofs only[go_sem,F]<;>rfl) (by first|exact iL _|(simp -implicitDefEqProofs only[go_sem,F]<;>rfl)) (by first|exact y6|exact cc rfl) Z):p:=by
 obtain⟨x,a,b⟩:=oI h;exact e x (c x a) (z x b)
theorem zT{X:α->RV}{o:Option α}{g:α->Option R}{q:α->Prop}(f:F)(h:thn o g=some r)(c:∀x,o=some x->bw P k ps λv=>v=X x)(z:∀x,g x=some r->q x)
  (e:∀x,(aS P k ps λv=>v=(X x).pv)->q x->p:=by intro x C Z;(try simp -implicitDefEqProofs only[go_sem,F]);exact Ca C (by simp -implicitDefEqProofs only[go_sem,F]<;>rfl) (by first|exact iL _|(simp -implicitDefEqProofs only[go_sem,F]<;>rfl)) (by first|exact y6|exact cc rfl) Z):p:=by
 obtain⟨x,a,b⟩:=oI h;exact e x ((c x a).CR) (z x b)
theorem eN{X:α->RV}{o:Option α}{g:α->Option R}{q:α->Prop}(f:F)(h:thn o g=some r)(c:∀x,o=some x->bw P k ps λv=>v=X x)(z:∀x,g x=some r->q x)
  (e:∀x,(aS P k ps λv=>v=(X x).pv)->q x->p:=by intro x C Z;(try simp -implicitDefEqProofs only[go_sem,F]);exact FY C (by simp -implicitDefEqProofs only[go_sem,F]<;>rfl) (by first|exact iL _|(simp -implicitDefEqProofs only[go_sem,F]<;>rfl)) (by first|exact y6|exact cc rfl) Z):p:=by
 obtain⟨x,a,b⟩:=oI h;exact e x ((c x a).CR) (z x b)
theorem DA{X:α->PV}{o:Option α}{g:α->Option R}{q:α->Prop}(id:List Nat)(f:F)(h:thn o g=some r)(c:∀x,o=some x->aS P k ps λv=>v=X x)(z:∀x,g x=some r->q x)
  (e:∀x,Hint id->(aS P k ps λv=>v=X x)->q x->p:=by intro x I C Z;(try simp -implicitDefEqProofs only[go_sem,F]);exact aCi I C (by simp -implicitDefEqProofs only[go_sem,F]<;>rfl) (by first|exact iL _|(simp -implicitDefEqProofs only[go_sem,F]<;>rfl)) (by first|exact y6|exact cc rfl) Z):p:=by
 obtain⟨x,a,b⟩:=oI h;exact e x trivial (c x a) (z x b)
theorem zG{X:α->RV}{o:Option α}{g:α->Option R}{q:α->Prop}(id:Nat)(f:F)(h:thn o g=some r)(c:∀x,o=some x->bw P k ps λv=>v=X x)(z:∀x,g x=some r->q x)
  (e:∀x,Hint id->(bw P k ps λv=>v=X x)->q x->p:=by intro x I C Z;(try simp -implicitDefEqProofs only[go_sem,F]);exact aCj I C (by simp -implicitDefEqProofs only[go_sem,F]<;>rfl) (by first|exact iL _|(simp -implicitDefEqProofs only[go_sem,F]<;>rfl)) (by first|exact xl|exact Df rfl|exact Df (by simp[RV.flat,RV.yQ,PV.scalar,isVal,go_sem])) (by simp -implicitDefEqProofs only[go_sem,F]) Z):p:=by
 obtain⟨x,a,b⟩:=oI h;exact e x trivial (c x a) (z x b)
theorem zH{X:α->RV}{o:Option α}{g:α->Option R}{q:α->Prop}(id:Nat)(f:F)(h:thn o g=some r)(c:∀x,o=some x->bw P k ps λv=>v=X x)(z:∀x,g x=some r->q x)
  (e:∀x,Hint id->(bw P k ps λv=>v=X x)->q x->p:=by intro x I C Z;(try simp -implicitDefEqProofs only[go_sem,F]);exact azq I C (by simp -implicitDefEqProofs only[go_sem,F]<;>rfl) (by first|exact iL _|(simp -implicitDefEqProofs only[go_sem,F]<;>rfl)) (by first|exact xl|exact Df rfl|exact Df (by simp[RV.flat,RV.yQ,PV.scalar,isVal,go_sem])) (by simp -implicitDefEqProofs only[go_sem,F]) (by simp -implicitDefEqProofs only[go_sem,F]) Z):p:=by
 obtain⟨x,a,b⟩:=oI h;exact e x trivial (c x a) (z x b)
theorem zP{X:α->PV}{o:Option α}{g:α->Option R}{q:α->Prop}(f:F)(h:thn o g=some r)(c:∀x,o=some x->aS P k ps λv=>v=X x)(z:∀x,g x=some r->q x)
  (e:∀x,(aS P k ps λv=>v=X x)->q x->p:=by intro x C Z;(try simp -implicitDefEqProofs only[go_sem,F]);exact Ca C (by simp -implicitDefEqProofs only[go_sem,F,ki,kg,Bool.or_false,Bool.false_or]<;>rfl) (iL _) (by first|exact y6|exact cc rfl) Z):p:=by
 obtain⟨x,a,b⟩:=oI h;exact e x (c x a) (z x b)
theorem Gn{X:α->PV}{o:Option α}{g:α->Option R}{q:α->Prop}(f:F)(h:thn o g=some r)(c:∀x,o=some x->aS P k ps λv=>v=X x)(z:∀x,g x=some r->q x)
  (e:∀x,(aS P k ps λv=>v=X x)->q x->p:=by intro x C Z;(try simp -implicitDefEqProofs only[go_sem,F]);exact FY C (by simp -implicitDefEqProofs only[go_sem,F,ki,kg,Bool.or_false,Bool.false_or]<;>rfl) (iL _) (by first|exact y6|exact cc rfl) Z):p:=by
 obtain⟨x,a,b⟩:=oI h;exact e x (c x a) (z x b)
theorem DB{v sz:Nat}{e:TypeId}{es:List (List PV)}{X:α->List (List PV)}{o:Option α}{g:α->Option R}{q:α->Prop}(f:F)(h:thn o g=some r)(c:∀x,o=some x->kZ P k v e sz (es) ps λa c=>a = .row 1000000 (v+1)/\c=some (.row (v+1) e sz (X x)))(z:∀x,g x=some r->q x)
  (e:∀x,(kZ P k v e sz (es) ps λa c=>a = .row 1000000 (v+1)/\c=some (.row (v+1) e sz (X x)))->q x->p:=by intro x C Z;(try simp -implicitDefEqProofs only[go_sem,F]);exact w6 C (by simp -implicitDefEqProofs only[go_sem,F]<;>rfl) (by simp -implicitDefEqProofs only[go_sem,F]<;>rfl) (by simp -implicitDefEqProofs only[go_sem,F]<;>rfl) (by first|exact λh=>by cases h|exact λ_=>WE (λ_=>rfl) _) Z):p:=by
 obtain⟨x,b,d⟩:=oI h;exact e x (c x b) (z x d)
theorem KD{N:Nat}{own:List Nat}{K:Env->az->Prop}{env:Env}{H:az}{l:List Oper}{cs:List oU}(_:Hint cs)(a:C9 N own l.toArray (masks l.toArray) cs=true)(hw:gD P N own l.toArray (l.zip cs) K env H):vW P N own l.toArray K env H:=dB cs a hw
theorem aFF{N:Nat}{own:List Nat}{K:Env->az->Prop}{env:Env}{H:az}{l:List Oper}{a:List (Nat×oU)}(_:Hint a)(b:Fs N own l a=true)(hw:gD P N own l.toArray (yI l a) K env H):vW P N own l.toArray K env H:=Ft a b hw
theorem zD(cs:List oU)(z:q)(e:Hint cs->q->p:=by intro I Z;(try simp -implicitDefEqProofs only[go_sem,F]);exact KD I (by kernel_rfl) Z):p:=e trivial z
def Gp:Nat->List oU->List oU
 |0,l=>l
 |n+1,l=>.q :: Gp n l
theorem eZ(n:Nat)(l:List oU){cs:List oU}(z:q)(a:Gp n l=cs:=by simp only[Gp];exact rfl)(e:Hint cs->q->p:=by intro I Z;(try simp -implicitDefEqProofs only[go_sem,F]);exact KD I (by kernel_rfl) Z):p:=e trivial z
theorem zE(a:List (Nat×oU))(z:q)(e:Hint a->q->p:=by intro I Z;(try simp -implicitDefEqProofs only[go_sem,F]);exact aFF I (by kernel_rfl) Z):p:=e trivial z
theorem zR{A:Prop}(h:A)(e:A->p:=by intro h;cases h;(try simp -implicitDefEqProofs only[go_sem,F]);all_goals(and_intros<;>first|rfl|omega)):p:=e h
theorem jx{A:Prop}(h:A)(e:A->p:=by intro h;cases h;(try simp -implicitDefEqProofs only[go_sem,F]);refine⟨by decide,_,.refl _,?_⟩;simp -implicitDefEqProofs only[go_sem,F]<;>and_intros<;>first|rfl|trivial):p:=e h
theorem zW{e:Env}{H:az}{l:List (Nat×AV)}{hl:List (Nat×Chunk)}(h:AU e l/\o6 H hl/\AW (cg hl) l/\y7 (cg hl) hl/\mH H (cg hl):=by simp -implicitDefEqProofs only[go_sem,F]<;>and_intros<;>rfl):dw e H (qq l) (cg hl):=yL h
end
section
variable{P:Program}{N:Nat}{own:List Nat}{σ γ O:Type}{c:Code}{K:qP}{env:Env}{H:az}{Kf:σ->Option O}{r:O}{F:Prop}
theorem zL{f:σ->(σ->Option O)->(σ->Option O)->Option O}{n:Nat}{s:σ}{L:σ×γ->List (Nat×AV)}{M:σ×γ->List (Nat×Chunk)}(l:F)(h:iter f n s Kf=some r)(b:γ)(q:List Nat)(j:σ×γ->List (Nat×AV))(p:List Nat)(k:σ×γ->az->List (Nat×Chunk))
  (o:∀s g (a:σ->Option O) (R:Env->az->Prop),F->(∀d i {e H},a d=some r->dw e H (qq (L (d,i))) (cg (M (d,i)))->R e H)->f s a Kf=some r->cw P N own c (tA R K) (qq (L (s,g))) (cg (M (s,g))))
  (t:∀x,Az env q (j x)=L x:=by intro x;(try simp -implicitDefEqProofs only[go_sem,F]);exact rfl) (u:∀x,AA H p (k x H)=M x:=by intro x;(try simp -implicitDefEqProofs only[go_sem,F]);exact rfl)
  (hw:dw env H (qq (L (s,b))) (cg (M (s,b))):=by exact yL (by simp -implicitDefEqProofs only[go_sem,F]<;>and_intros<;>rfl)):xg P N own c K env H :=
 Xe (λx=>qq (L x)) (λx=>cg (M x)) b h hw λs g a R m h=>o s g a R l m h
theorem zN{f:Nat->σ->(σ->Option O)->(σ->Option O)->Option O}{n i:Nat}{s:σ}{L:(Nat×σ)×γ->List (Nat×AV)}{M:(Nat×σ)×γ->List (Nat×Chunk)}(m:F)(h:cL (n<=fuel) (cq f (n-i) i s Kf)=some r)(b:γ)(y:List Nat)(p:(Nat×σ)×γ->List (Nat×AV))(w:List Nat)(q:(Nat×σ)×γ->az->List (Nat×Chunk))
  (v:∀j s g (a:σ->Option O) (R:Env->az->Prop),F/\(j<n/\n<=4611686018427387904)/\i64.wrap ((j:Int)+1)=((j+1:Nat):Int)->(∀l o {e H},a l=some r->dw e H (qq (L ((j+1,l),o))) (cg (M ((j+1,l),o)))->R e H)->f j s a Kf=some r->cw P N own c (tA R K) (qq (L ((j,s),g))) (cg (M ((j,s),g))))
  (u:∀j s g (R:Env->az->Prop),F/\¬ j<n->Kf s=some r->cw P N own c (tA R K) (qq (L ((j,s),g))) (cg (M ((j,s),g))))
  (z:∀x,Az env y (p x)=L x:=by intro x;(try simp -implicitDefEqProofs only[go_sem,F]);exact rfl) (A:∀x,AA H w (q x H)=M x:=by intro x;(try simp -implicitDefEqProofs only[go_sem,F]);exact rfl)
  (hw:dw env H (qq (L ((i,s),b))) (cg (M ((i,s),b))):=by exact yL (by simp -implicitDefEqProofs only[go_sem,F]<;>and_intros<;>rfl)):xg P N own c K env H:=by
 obtain⟨d,h⟩:=FT h;unfold fuel at d;exact Xf (λx=>qq (L x)) (λx=>cg (M x)) b h hw (λj s g a R k t h=>v j s g a R ⟨m,⟨k,d⟩,bz k d⟩ t h) λj s g R k h=>u j s g R ⟨m,by omega⟩ h
theorem zO{f:Nat->σ->(σ->Option O)->(σ->Option O)->Option O}{b:Int}{i:Nat}{s:σ}{L:(Nat×σ)×γ->List (Nat×AV)}{M:(Nat×σ)×γ->List (Nat×Chunk)}(u:F)(h:cL (b.toNat<=fuel) (cq f (b.toNat-i) i s Kf)=some r)(d:γ)(p:List Nat)(l:(Nat×σ)×γ->List (Nat×AV))(o:List Nat)(m:(Nat×σ)×γ->az->List (Nat×Chunk))
  (w:∀ (j:Nat) s g (a:σ->Option O) (R:Env->az->Prop),F/\((j:Int)<b/\j<b.toNat/\b.toNat<=4611686018427387904)/\i64.wrap ((j:Int)+1)=((j+1:Nat):Int)->(∀k n {e H},a k=some r->dw e H (qq (L ((j+1,k),n))) (cg (M ((j+1,k),n)))->R e H)->f j s a Kf=some r->cw P N own c (tA R K) (qq (L ((j,s),g))) (cg (M ((j,s),g))))
  (v:∀ (j:Nat) s g (R:Env->az->Prop),F/\¬ (j:Int)<b->Kf s=some r->cw P N own c (tA R K) (qq (L ((j,s),g))) (cg (M ((j,s),g))))
  (q:∀x,Az env p (l x)=L x:=by intro x;(try simp -implicitDefEqProofs only[go_sem,F]);exact rfl) (t:∀x,AA H o (m x H)=M x:=by intro x;(try simp -implicitDefEqProofs only[go_sem,F]);exact rfl)
  (hw:dw env H (qq (L ((i,s),d))) (cg (M ((i,s),d))):=by exact yL (by simp -implicitDefEqProofs only[go_sem,F]<;>and_intros<;>rfl)):xg P N own c K env H :=
 zN u h d p l o m (λj s g a R h=>w j s g a R ⟨h.1,⟨by omega,h.2.1⟩,h.2.2⟩) (λj s g R h=>v j s g R ⟨h.1,by omega⟩) q t hw
theorem zQ(b:Int){m:Nat}{f:Nat->σ->(σ->Option O)->(σ->Option O)->Option O}{i:Nat}{s:σ}{L:(Nat×σ)×γ->List (Nat×AV)}{M:(Nat×σ)×γ->List (Nat×Chunk)}(v:F)(h:cL (m<=fuel) (cq f (m-i) i s Kf)=some r)(d:γ)(q:List Nat)(l:(Nat×σ)×γ->List (Nat×AV))(p:List Nat)(n:(Nat×σ)×γ->az->List (Nat×Chunk))
  (y:∀ (j:Nat) s g (a:σ->Option O) (R:Env->az->Prop),F/\((j:Int)<b/\j<m/\m<=4611686018427387904)/\i64.wrap ((j:Int)+1)=((j+1:Nat):Int)->(∀k o {e H},a k=some r->dw e H (qq (L ((j+1,k),o))) (cg (M ((j+1,k),o)))->R e H)->f j s a Kf=some r->cw P N own c (tA R K) (qq (L ((j,s),g))) (cg (M ((j,s),g))))
  (w:∀ (j:Nat) s g (R:Env->az->Prop),F/\¬ (j:Int)<b->Kf s=some r->cw P N own c (tA R K) (qq (L ((j,s),g))) (cg (M ((j,s),g))))
  (z:b=(m:Int):=by rfl) (t:∀x,Az env q (l x)=L x:=by intro x;(try simp -implicitDefEqProofs only[go_sem,F]);exact rfl) (u:∀x,AA H p (n x H)=M x:=by intro x;(try simp -implicitDefEqProofs only[go_sem,F]);exact rfl)
  (hw:dw env H (qq (L ((i,s),d))) (cg (M ((i,s),d))):=by exact yL (by simp -implicitDefEqProofs only[go_sem,F]<;>and_intros<;>rfl)):xg P N own c K env H :=
 zN v h d q l p n (λj s g a R h=>y j s g a R ⟨h.1,⟨by omega,h.2.1⟩,h.2.2⟩) (λj s g R h=>w j s g R ⟨h.1,by omega⟩) t u hw
end
attribute [go_sem] FB List.cons_append List.nil_append aY aL encI br aJ bI cZ aF aj ag aI aC
noncomputable section
def eu(a:List ah)(f:ah->ah->Option Int):Option Bool :=
 cL (a.length<=fuel) <|
 cq (λb (h:Unit) c i =>
  thn (nr a (i64.wrap (((b:Nat):Int)-1))) λd =>
  thn (a[b]?) λe =>
  thn (f d e) λg =>
  cond (decide (0<=g)) (
   some false) <|
  c ())
 (a.length-1) 1 () λh =>
 some true
theorem nu(a:List ah)(e:ah->ah->Option Int)(d:FuncId)(c b:List PV)(i:∀x0 f r,e x0 f=some r->aS pw d (c++[.agg (ag x0),.agg (ag f)]++b) (λv=>v = .val (.int .i64 r)))(r:Bool)(h:eu a e=some r):aS pw 223 [.aV (a.map ag),.iT (.func d) c b] (λv=>v = .val (.bool r)):=by
 refine aS.oA ?_;refine aR [] func223 ntmps223 results223 ?_;unfold eu at h;have F:=trivial;refine zV ?_;refine zN F h () [0,1] (λx=>[(5,.p (.val (.int .i64 ((x.1.1:Nat):Int))))]) [] (λx H=>[]) ?_ ?_
 ·intro j l g _ _ F k h;try dsimp only at h
  refine eZ 12 [] ?_;refine zA ag F h λm F h=>?_
  refine zI ag F h λn F h=>?_
  refine Gn F h (i _ _) λo h=>?_
  refine zB F h (λF h=>?_) λF h=>?_
  ·exact zR h
  ·exact zX (z:=k _ () h zW)
 ·intro j l g _ F h;try dsimp only at h
  exact zR h
def jy(a:Int):Option Bool:=some (!(decide (a=a)))
theorem yN(a:Int)(r:Bool)(h:jy a=some r):aS pw 335 [.val (.int .i64 a)] (λv=>v = .val (.bool r)):=by refine aS.oA ?_;refine aR [] func335 ntmps335 results335 ?_;unfold jy at h;have F:=trivial;exact zR h
def iJ(a:Int)(b:Int):Option Int :=
 thn (jy a) λr2 =>
 thn (jy b) λc =>
 cond r2 (
  cond c (
   some 0) <|
  some (-1)) <|
 cond c (
  some 1) <|
 cond (decide (a<b)) (
  some (-1)) <|
 cond (decide (b<a)) (
  some 1) <|
 some 0
theorem ou(a:Int)(b:Int)(r:Int)(h:iJ a b=some r):aS pw 285 [.val (.int .i64 a),.val (.int .i64 b)] (λv=>v = .val (.int .i64 r)):=by
 refine aS.oA ?_;refine aR [] func285 ntmps285 results285 ?_;unfold iJ at h;have F:=trivial;refine zK F h (yN _) λr2 h=>?_
 refine zK F h (yN _) λc h=>?_
 refine zB F h (λF h=>?_) λF h=>?_
 ·refine zB F h (λF h=>?_) λF h=>?_
  ·exact zR h
  ·exact zR h
 ·refine zB F h (λF h=>?_) λF h=>?_
  ·exact zR h
  ·refine zB F h (λF h=>?_) λF h=>?_
   ·exact zR h
   ·refine zB F h (λF h=>?_) λF h=>?_
    ·exact zR h
    ·exact zR h
def ig(a:ah)(b:ah):Option Int :=
 thn (iJ a.id b.id) λr2 =>
 some r2
theorem xd(a:ah)(b:ah)(r:Int)(h:ig a b=some r):aS pw 224 [.agg (ag a),.agg (ag b)] (λv=>v = .val (.int .i64 r)):=by
 refine aS.oA ?_;refine aR [] func224 ntmps224 results224 ?_;unfold ig at h;have F:=trivial;refine zK F h (ou _ _) λr2 h=>?_
 exact zR h
def ew(a:List au)(f:au->au->Option Int):Option Bool :=
 cL (a.length<=fuel) <|
 cq (λb (h:Unit) c i =>
  thn (nr a (i64.wrap (((b:Nat):Int)-1))) λd =>
  thn (a[b]?) λe =>
  thn (f d e) λg =>
  cond (decide (0<=g)) (
   some false) <|
  c ())
 (a.length-1) 1 () λh =>
 some true
theorem nv(a:List au)(e:au->au->Option Int)(d:FuncId)(c b:List PV)(i:∀x0 f r,e x0 f=some r->aS pw d (c++[.agg (aj x0),.agg (aj f)]++b) (λv=>v = .val (.int .i64 r)))(r:Bool)(h:ew a e=some r):aS pw 225 [.aV (a.map aj),.iT (.func d) c b] (λv=>v = .val (.bool r)):=by
 refine aS.oA ?_;refine aR [] func225 ntmps225 results225 ?_;unfold ew at h;have F:=trivial;refine zV ?_;refine zN F h () [0,1] (λx=>[(5,.p (.val (.int .i64 ((x.1.1:Nat):Int))))]) [] (λx H=>[]) ?_ ?_
 ·intro j l g _ _ F k h;try dsimp only at h
  refine eZ 12 [] ?_;refine zA aj F h λm F h=>?_
  refine zI aj F h λn F h=>?_
  refine Gn F h (i _ _) λo h=>?_
  refine zB F h (λF h=>?_) λF h=>?_
  ·exact zR h
  ·exact zX (z:=k _ () h zW)
 ·intro j l g _ F h;try dsimp only at h
  exact zR h
def ij(a:au)(b:au):Option Int :=
 thn (iJ a.id b.id) λr2 =>
 some r2
theorem xe(a:au)(b:au)(r:Int)(h:ij a b=some r):aS pw 226 [.agg (aj a),.agg (aj b)] (λv=>v = .val (.int .i64 r)):=by
 refine aS.oA ?_;refine aR [] func226 ntmps226 results226 ?_;unfold ij at h;have F:=trivial;refine zK F h (ou _ _) λr2 h=>?_
 exact zR h
def fC(a:List aQ)(f:aQ->aQ->Option Int):Option Bool :=
 cL (a.length<=fuel) <|
 cq (λb (h:Unit) c i =>
  thn (nr a (i64.wrap (((b:Nat):Int)-1))) λd =>
  thn (a[b]?) λe =>
  thn (f d e) λg =>
  cond (decide (0<=g)) (
   some false) <|
  c ())
 (a.length-1) 1 () λh =>
 some true
theorem sK(a:List aQ)(e:aQ->aQ->Option Int)(d:FuncId)(c b:List PV)(i:∀x0 f r,e x0 f=some r->aS pw d (c++[.agg (aI x0),.agg (aI f)]++b) (λv=>v = .val (.int .i64 r)))(r:Bool)(h:fC a e=some r):aS pw 227 [.aV (a.map aI),.iT (.func d) c b] (λv=>v = .val (.bool r)):=by
 refine aS.oA ?_;refine aR [] func227 ntmps227 results227 ?_;unfold fC at h;have F:=trivial;refine zV ?_;refine zN F h () [0,1] (λx=>[(5,.p (.val (.int .i64 ((x.1.1:Nat):Int))))]) [] (λx H=>[]) ?_ ?_
 ·intro j l g _ _ F k h;try dsimp only at h
  refine eZ 12 [] ?_;refine zA aI F h λm F h=>?_
  refine zI aI F h λn F h=>?_
  refine Gn F h (i _ _) λo h=>?_
  refine zB F h (λF h=>?_) λF h=>?_
  ·exact zR h
  ·exact zX (z:=k _ () h zW)
 ·intro j l g _ F h;try dsimp only at h
  exact zR h
def qZ(a:List Int):Option Int :=
 cL (a.length<=fuel) <|
 cq (λc (e:Unit) d f =>
  thn (a[c]?) λb =>
  cond (decide (b=0)) (
   d ()) <|
  some b)
 (a.length-0) 0 () λe =>
 some 0
theorem aj3(a:List Int)(r:Int)(h:qZ a=some r):aS pw 184 [.aV (a.map encI)] (λv=>v = .val (.int .i64 r)):=by
 refine aS.oA ?_;refine aR [] func184 ntmps184 results184 ?_;unfold qZ at h;have F:=trivial;refine zV ?_;refine zN F h () [3,6,7] (λx=>[(8,.p (.val (.int .i64 ((x.1.1:Nat):Int))))]) [] (λx H=>[]) ?_ ?_
 ·intro d e c _ _ F b h;try dsimp only at h
  refine zI encI F h λf F h=>?_
  refine oM F h (λF h=>?_) λF h=>?_
  ·exact zX (z:=b _ () h zW)
  ·exact zR h
 ·intro d e c _ F h;try dsimp only at h
  exact zR h
def jq(a:aQ)(b:aQ):Option Int :=
 thn (iJ a.id b.id) λr2 =>
 thn (iJ a.attr b.attr) λc =>
 thn (qZ [r2,c]) λd =>
 some d
theorem acV(a:aQ)(b:aQ)(r:Int)(h:jq a b=some r):aS pw 228 [.agg (aI a),.agg (aI b)] (λv=>v = .val (.int .i64 r)):=by
 refine aS.oA ?_;refine aR [] func228 ntmps228 results228 ?_;unfold jq at h;have F:=trivial;refine eZ 10 [.p,.q,.q] ?_;refine si F h (ou _ _) λr2 h=>?_
 refine si F h (ou _ _) λc h=>?_
 refine si F h (aj3 _) λd h=>?_
 exact zR h
def mR(a:aH):Option Int :=
 cond (decide (500<(max (max (max (max ((a.ax.length:Nat):Int) ((a.aA.length:Nat):Int)) ((a.aP.length:Nat):Int)) ((a.aM.length:Nat):Int)) ((a.values.length:Nat):Int)))) (
  some 3) <|
 thn (eu a.ax (λg l=>ig g l)) λd =>
 cond d (
  thn (eu a.aP (λm n=>ig m n)) λe =>
  cond e (
   thn (ew a.aA (λo p=>ij o p)) λf =>
   cond f (
    thn (ew a.aM (λh i=>ij h i)) λb =>
    cond b (
     thn (fC a.values (λj k=>jq j k)) λc =>
     cond c (
      some 0) <|
     some 12) <|
    some 12) <|
   some 12) <|
  some 12) <|
 some 12
theorem ad1(l:aH)(r:Int)(h:mR l=some r):aS pw 173 [.agg (aF l)] (λv=>v = .val (.int .i64 r)):=by
 refine aS.oA ?_;refine aR [] func173 ntmps173 results173 ?_;unfold mR at h;have F:=trivial;refine zB F h (λF h=>?_) λF h=>?_
 ·exact zR h
 ·refine zK F h (nu _ (λa f=>ig a f) 224 [] [] (λa f r h=>xd a f r h)) λo h=>?_
  refine nQ F h (λF h=>?_) λF h=>?_
  ·refine zK F h (nu _ (λg i=>ig g i) 224 [] [] (λg i r h=>xd g i r h)) λp h=>?_
   refine nQ F h (λF h=>?_) λF h=>?_
   ·refine zK F h (nv _ (λj k=>ij j k) 226 [] [] (λj k r h=>xe j k r h)) λq h=>?_
    refine nQ F h (λF h=>?_) λF h=>?_
    ·refine zK F h (nv _ (λb c=>ij b c) 226 [] [] (λb c r h=>xe b c r h)) λm h=>?_
     refine nQ F h (λF h=>?_) λF h=>?_
     ·refine zK F h (sK _ (λd e=>jq d e) 228 [] [] (λd e r h=>acV d e r h)) λn h=>?_
      refine oM F h (λF h=>?_) λF h=>?_
      ·exact zR h
      ·exact zR h
     ·exact zR h
    ·exact zR h
   ·exact zR h
  ·exact zR h
def iW(a:List Int)(c:Int):Option Int :=
 cL (a.length<=fuel) <|
 cq (λb (f:Unit) d g =>
  thn (a[b]?) λe =>
  cond (decide (c=e)) (
   some ((b:Nat):Int)) <|
  d ())
 (a.length-0) 0 () λf =>
 some (-1)
theorem qu(a:List Int)(b:Int)(r:Int)(h:iW a b=some r):aS pw 222 [.aV (a.map encI),.val (.int .i64 b)] (λv=>v = .val (.int .i64 r)):=by
 refine aS.oA ?_;refine aR [] func222 ntmps222 results222 ?_;unfold iW at h;have F:=trivial;refine zV ?_;refine zN F h () [0,1,7] (λx=>[(8,.p (.val (.int .i64 ((x.1.1:Nat):Int))))]) [] (λx H=>[]) ?_ ?_
 ·intro d f c _ _ F e h;try dsimp only at h
  refine zI encI F h λg F h=>?_
  refine zB F h (λF h=>?_) λF h=>?_
  ·exact zR h
  ·exact zX (z:=e _ () h zW)
 ·intro d f c _ F h;try dsimp only at h
  exact zR h
def lP(d:List ah)(e:List au)(i:Int):Option (ay×Bool) :=
 cL (d.length<=fuel) <|
 cq (λk (a:(List Int)×(List (List Int))×(List Int)) j p =>
  thn (d[k]?) λf =>
  cL (a.2.2.length+1<=68719476736) <|
  cL (a.1.length+1<=68719476736) <|
  thn (qt f.values) λm =>
  cL (a.2.1.length+1<=68719476736) <|
  j ((a.1++[f.type]),(a.2.1++[m]),(a.2.2++[f.id])))
 (d.length-0) 0 (([]:List Int),([]:List (List Int)),([]:List Int)) λa =>
 cL (e.length<=fuel) <|
 cq (λl (b:(List Edge)×(List Int)) n o =>
  thn (e[l]?) λc =>
  thn (iW a.2.2 c.src) λg =>
  thn (iW a.2.2 c.dst) λh =>
  cond (decide (g<0)) (
   some ((⟨(⟨(⟨([]:List Int),([]:List Edge)⟩:eU),([]:List (List Int))⟩:Host),([]:List Int),([]:List Int),0⟩:ay),false)) <|
  cond (decide (h<0)) (
   some ((⟨(⟨(⟨([]:List Int),([]:List Edge)⟩:eU),([]:List (List Int))⟩:Host),([]:List Int),([]:List Int),0⟩:ay),false)) <|
  cL (b.2.length+1<=68719476736) <|
  cL (b.1.length+1<=68719476736) <|
  n ((b.1++[(⟨c.type,g,h⟩:Edge)]),(b.2++[c.id])))
 (e.length-0) 0 (([]:List Edge),([]:List Int)) λb =>
 some ((⟨⟨⟨a.1,b.1⟩,a.2.1⟩,a.2.2,b.2,i⟩:ay),true)
theorem acW(j:List ah)(k:List au)(l:Int)(r:ay×Bool)(h:lP j k l=some r):bw pw 179 [.aV (j.map ag),.aV (k.map aj),.val (.int .i64 l)] (λv=>v = .dY [.agg [.row 3 1 (r.1.host.graph.nodes.map encI),.row 150 3 (r.1.host.graph.ak.map aY),.row 32 1 (r.1.host.values.map bI),.row 3 1 (r.1.nodes.map encI),.row 3 1 (r.1.ak.map encI),.p (.val (.int .i64 r.1.next))],.p (.val (.bool r.2))]):=by
 refine bw.vg ?_;refine bF [28,37,44,45,80,92] func179 ntmps179 results179 ?_;unfold lP at h;have F:=trivial;refine zV ?_;refine zN F h ((0,0,0):Nat×Nat×Nat) [1,6,8,17,18] (λx=>[(19,.p (.val (.int .i64 ((x.1.1:Nat):Int))))]) [6] (λx H=>[(8,bx (H 8) [(0,.row 2441 x.2.1),(2,.row 2442 x.2.2.1),(3,.row 2443 x.2.2.2)]),(2441,.row x.2.1 3 1 (x.1.2.1.map encI)),(2442,.row x.2.2.1 32 1 (x.1.2.2.1.map bI)),(2443,.row x.2.2.2 3 1 (x.1.2.2.2.map encI))]) ?_ ?_ (hw:=by refine dw.trans (cz 8 0 2441 3 1 _ rfl rfl rfl (by decide)) ?_;refine dw.trans (cz 8 2 2442 32 1 _ rfl rfl rfl (by decide)) ?_;refine dw.trans (cz 8 3 2443 3 1 _ rfl rfl rfl (by decide)) ?_;exact zW)
 ·intro t a g _ _ F y h;try dsimp only at h
  refine zI ag F h λe F h=>?_
  refine zC F h λF h=>?_
  refine dc (a.2.2.length+1) 8 F λF=>?_
  refine zF (bt encI a.2.2 [e.id] (c:=[[.val (.int .i64 e.id)]]) rfl) F λF=>?_
  refine zE [(0,.p),(1,.p),(2,.p),(4,.q),(5,.q),(6,.p),(3,.q),(8,.b),(9,.b),(10,.b),(11,.b),(12,.b),(7,.w),(13,.q),(16,.b),(17,.b),(18,.b),(14,.w),(15,.w),(19,.w),(20,.q),(21,.q),(22,.w)] ?_;refine zC F h λF h=>?_
  refine dc (a.1.length+1) 8 F λF=>?_
  refine zF (bt encI a.1 [e.type] (c:=[[.val (.int .i64 e.type)]]) rfl) F λF=>?_
  refine eN F h (Zd _) λm h=>?_
  refine zC F h λF h=>?_
  refine dc (a.2.1.length+1) 24 F λF=>?_
  refine zF (bt bI a.2.1 [m] (c:=[[.aV (m.map encI)]]) rfl) F λF=>?_
  exact zX (z:=y _ (g.1+1,g.2.1+1,g.2.2+1) h zW)
 ·intro t a g _ F h;try dsimp only at h
  refine zV ?_;refine zN F h ((0,0):Nat×Nat) [6,8,52,53] (λx=>[(54,.p (.val (.int .i64 ((x.1.1:Nat):Int))))]) [6,2441,2442,2443] (λx H=>[(8,bx (H 8) [(1,.row 2508 x.2.1),(4,.row 2509 x.2.2)]),(2508,.row x.2.1 150 3 (x.1.2.1.map aY)),(2509,.row x.2.2 3 1 (x.1.2.2.map encI))]) ?_ ?_ (hw:=by refine dw.trans (cz 8 1 2508 150 3 _ rfl rfl rfl (by decide)) ?_;refine dw.trans (cz 8 4 2509 3 1 _ rfl rfl rfl (by decide)) ?_;exact zW)
  ·intro u d i _ _ F s h;try dsimp only at h
   refine zI aj F h λf F h=>?_
   refine eZ 12 [] ?_;refine si F h (qu _ _) λn h=>?_
   refine si F h (qu _ _) λo h=>?_
   refine rS F h (λF h=>?_) λF h=>?_
   ·exact jx h
   ·refine zB F h (λF h=>?_) λF h=>?_
    ·exact jx h
    ·refine zC F h λF h=>?_
     refine dc (d.2.length+1) 8 F λF=>?_
     refine zF (bt encI d.2 [f.id] (c:=[[.val (.int .i64 f.id)]]) rfl) F λF=>?_
     refine zC F h λF h=>?_
     refine dc (d.1.length+1) 24 F λF=>?_
     refine zF (bt aY d.1 [(⟨f.type,n,o⟩:Edge)] (c:=[[.val (.int .i64 f.type),.val (.int .i64 n),.val (.int .i64 o)]]) rfl) F λF=>?_
     exact zX (z:=s _ (i.1+1,i.2+1) h zW)
  ·intro u d i _ F h;try dsimp only at h
   exact jx h
def nT(a:ay):Option (List au) :=
 cL (a.ak.length<=fuel) <|
 cq (λd (b:(List au)) h i =>
  thn (a.ak[d]?) λe =>
  thn (a.host.graph.ak[d]?) λc =>
  thn (nr a.nodes c.src) λf =>
  thn (nr a.nodes c.dst) λg =>
  cL (b.length+1<=68719476736) <|
  h (b++[(⟨e,c.type,f,g⟩:au)]))
 (a.ak.length-0) 0 ([]:List au) λb =>
 some b
theorem ae5(b:ay)(r:(List au))(h:nT b=some r):bw pw 175 [.agg (aC b)] (λv=>v = .row 88 4 (r.map aj)):=by
 refine bw.vg ?_;refine bF [40] func175 ntmps175 results175 ?_;unfold nT at h;have F:=trivial;refine zV ?_;refine zN F h (0:Nat) [1,8,9] (λx=>[(3,.row 2576 x.2),(10,.p (.val (.int .i64 ((x.1.1:Nat):Int))))]) [1] (λx H=>[(2576,.row x.2 88 4 (x.1.2.map aj))]) ?_ ?_ (hw:=by refine dw.trans (jl 3 2576 88 4 rfl rfl (by decide)) ?_;exact zW)
 ·intro k a i _ _ F j h;try dsimp only at h
  refine zI encI F h λd F h=>?_
  refine zI aY F h λe F h=>?_
  refine zD [.p,.q,.q,.q,.q,.q,.q,.q,.q,.q,.q,.q,.q,.q,.q,.q,.q,.p,.w,.q] ?_;refine zA encI F h λf F h=>?_
  refine zA encI F h λg F h=>?_
  refine zC F h λF h=>?_
  refine dc (a.length+1) 32 F λF=>?_
  refine zF (bt aj a [(⟨d,e.type,f,g⟩:au)] (c:=[[.val (.int .i64 d),.val (.int .i64 e.type),.val (.int .i64 f),.val (.int .i64 g)]]) rfl) F λF=>?_
  exact zX (z:=j _ (i+1) h zW)
 ·intro k a i _ F h;try dsimp only at h
  exact jx h
def jc(a:List Int)(e:Int):Option Int :=
 cL (a.length<=fuel) <|
 cq (λc (g:Unit) d h =>
  thn (a[c]?) λb =>
  cond (decide (b<0)) (
   some 6) <|
  cond (decide (e<=b)) (
   some 6) <|
  cond (decide (0<((c:Nat):Int))) (
   thn (nr a (i64.wrap (((c:Nat):Int)-1))) λf =>
   cond (decide (b<=f)) (
    some 12) <|
   d ()) <|
  d ())
 (a.length-0) 0 () λg =>
 some 0
theorem tD(a:List Int)(b:Int)(r:Int)(h:jc a b=some r):aS pw 170 [.aV (a.map encI),.val (.int .i64 b)] (λv=>v = .val (.int .i64 r)):=by
 refine aS.oA ?_;refine aR [] func170 ntmps170 results170 ?_;unfold jc at h;have F:=trivial;refine zV ?_;refine zN F h () [0,1,7,8] (λx=>[(9,.p (.val (.int .i64 ((x.1.1:Nat):Int))))]) [] (λx H=>[]) ?_ ?_
 ·intro e f d _ _ F c h;try dsimp only at h
  refine zI encI F h λg F h=>?_
  refine rS F h (λF h=>?_) λF h=>?_
  ·exact zR h
  ·refine zB F h (λF h=>?_) λF h=>?_
   ·exact zR h
   ·refine nQ F h (λF h=>?_) λF h=>?_
    ·refine zA encI F h λi F h=>?_
     refine zB F h (λF h=>?_) λF h=>?_
     ·exact zR h
     ·exact zX (z:=c _ () h zW)
    ·exact zX (z:=c _ () h zW)
 ·intro e f d _ F h;try dsimp only at h
  exact zR h
def jr(a:List Int)(e:Int->Option Bool):Option Int :=
 cL (a.length<=fuel) <|
 cq (λb (g:Unit) c h =>
  thn (a[b]?) λd =>
  thn (e d) λf =>
  cond f (
   some ((b:Nat):Int)) <|
  c ())
 (a.length-0) 0 () λg =>
 some (-1)
theorem xY(a:List Int)(e:Int->Option Bool)(d:FuncId)(c b:List PV)(g:∀x0 r,e x0=some r->aS pw d (c++[.val (.int .i64 x0)]++b) (λv=>v = .val (.bool r)))(r:Int)(h:jr a e=some r):aS pw 83 [.aV (a.map encI),.iT (.func d) c b] (λv=>v = .val (.int .i64 r)):=by
 refine aS.oA ?_;refine aR [] func83 ntmps83 results83 ?_;unfold jr at h;have F:=trivial;refine zV ?_;refine zN F h () [0,1,7] (λx=>[(8,.p (.val (.int .i64 ((x.1.1:Nat):Int))))]) [] (λx H=>[]) ?_ ?_
 ·intro i k f _ _ F j h;try dsimp only at h
  refine zI encI F h λl F h=>?_
  refine zP F h (g _) λm h=>?_
  refine zB F h (λF h=>?_) λF h=>?_
  ·exact zR h
  ·exact zX (z:=j _ () h zW)
 ·intro i k f _ F h;try dsimp only at h
  exact zR h
def iB(a:List Int)(b:Int->Option Bool):Option Bool :=
 thn (jr a b) λr2 =>
 some (decide (0<=r2))
theorem vI(e:List Int)(d:Int->Option Bool)(c:FuncId)(b a:List PV)(f:∀x0 r,d x0=some r->aS pw c (b++[.val (.int .i64 x0)]++a) (λv=>v = .val (.bool r)))(r:Bool)(h:iB e d=some r):aS pw 40 [.aV (e.map encI),.iT (.func c) b a] (λv=>v = .val (.bool r)):=by
 refine aS.oA ?_;refine aR [] func40 ntmps40 results40 ?_;unfold iB at h;have F:=trivial;refine zK F h (xY _ d c b a f) λr2 h=>?_
 exact zR h
def jG(a:List Int)(b:Int):Option Bool :=
 thn (iW a b) λr2 =>
 some (decide (0<=r2))
theorem y8(a:List Int)(b:Int)(r:Bool)(h:jG a b=some r):aS pw 172 [.aV (a.map encI),.val (.int .i64 b)] (λv=>v = .val (.bool r)):=by
 refine aS.oA ?_;refine aR [] func172 ntmps172 results172 ?_;unfold jG at h;have F:=trivial;refine zK F h (qu _ _) λr2 h=>?_
 exact zR h
def lQ(a:Int)(b:ay):Option Bool :=
 thn (jG b.nodes a) λr2 =>
 some r2
theorem acX(a:Int)(b:ay)(r:Bool)(h:lQ a b=some r):aS pw 171 [.val (.int .i64 a),.eF (aC b) 0] (λv=>v = .val (.bool r)):=by
 refine aS.oA ?_;refine aR [] func171 ntmps171 results171 ?_;unfold lQ at h;have F:=trivial;refine zK F h (y8 _ _) λr2 h=>?_
 exact zR h
def kD(d:Types)(a:ay):Option Int :=
 thn (uA d a.host) λr2 =>
 cond (decide (r2.2=0)) (
  cond (decide (((a.nodes.length:Nat):Int)=((a.host.graph.nodes.length:Nat):Int))) (
   cond (decide (((a.ak.length:Nat):Int)=((a.host.graph.ak.length:Nat):Int))) (
    cond (decide (a.next<0)) (
     some 6) <|
    cond (decide (1000000<a.next)) (
     some 6) <|
    thn (jc a.nodes a.next) λb =>
    cond (decide (b=0)) (
     thn (jc a.ak a.next) λc =>
     cond (decide (c=0)) (
      thn (iB a.ak (λf=>lQ f (⟨a.host,a.nodes,a.ak,a.next⟩:ay))) λe =>
      cond e (
       some 5) <|
      some 0) <|
     some c) <|
    some b) <|
   some 20) <|
  some 20) <|
 some r2.2
theorem yO(b:Types)(a:ay)(r:Int)(h:kD b a=some r):aS pw 107 [.agg [.aV (b.nodes.map aJ),.aV (b.ak.map aL)],.agg (aC a)] (λv=>v = .val (.int .i64 r)):=by
 refine aS.oA ?_;refine aR [] func107 ntmps107 results107 ?_;unfold kD at h;have F:=trivial;refine zK F h (Kw _ _) λr2 h=>?_
 refine oM F h (λF h=>?_) λF h=>?_
 ·refine nQ F h (λF h=>?_) λF h=>?_
  ·refine oM F h (λF h=>?_) λF h=>?_
   ·refine rS F h (λF h=>?_) λF h=>?_
    ·exact zR h
    ·refine zB F h (λF h=>?_) λF h=>?_
     ·exact zR h
     ·refine zK F h (tD _ _) λd h=>?_
      refine oM F h (λF h=>?_) λF h=>?_
      ·refine zK F h (tD _ _) λe h=>?_
       refine oM F h (λF h=>?_) λF h=>?_
       ·refine zK F h (vI _ (λc=>lQ c (⟨a.host,a.nodes,a.ak,a.next⟩:ay)) 171 [] [.eF (aC (⟨a.host,a.nodes,a.ak,a.next⟩:ay)) 0] (λc r h=>acX c (⟨a.host,a.nodes,a.ak,a.next⟩:ay) r h)) λf h=>?_
        refine zB F h (λF h=>?_) λF h=>?_
        ·exact zR h
        ·exact zR h
       ·exact zR h
      ·exact zR h
   ·exact zR h
  ·exact zR h
 ·exact zR h
end
def kV:ay:=⟨⟨⟨[],[]⟩,[]⟩,[],[],0⟩
def kO(t:Types)(a:ay)(p:aH):Option (ay×Int) :=
 thn (mR p) λe =>
 cond (!decide (e=0)) (some (kV,e)) <|
 thn (gb (a.nodes.length<=a.host.graph.nodes.length/\a.nodes.length<=a.host.values.length/\a.nodes.length<=1000/\(∀l∈a.host.values,l.length<=1000000)/\p.ax.length<=1000/\p.aA.length<=1000/\p.aP.length<=1000/\p.aM.length<=1000/\p.values.length<=1000/\∀n∈p.ax,n.values.length<=1000000) ()) λ_ =>
 thn (nT a) λes =>
 thn (gb (es.length<=1000) ()) λ_ =>
 cond (!decide (p.next.x0=a.next)) (some (kV,11)) <|
 cond (!((mA (bA a) p.ax 0).1&&(ot es p.aA 0).1)) (some (kV,11)) <|
 thn (gb ((mA (bA a) p.ax 0).2.1.length<=1000/\(ot es p.aA 0).2.1.length<=1000) ()) λ_ =>
 cond (!(mB (mA (bA a) p.ax 0).2.1 p.values).1) (some (kV,11)) <|
 thn (gb ((mB (mA (bA a) p.ax 0).2.1 p.values).2.length<=1000/\(gF (mB (mA (bA a) p.ax 0).2.1 p.values).2 (ot es p.aA 0).2.1 p=false->Bv ah.id ((mB (mA (bA a) p.ax 0).2.1 p.values).2++p.aP)/\Bv au.id ((ot es p.aA 0).2.1++p.aM))) ()) λ_ =>
 cond (gF (mB (mA (bA a) p.ax 0).2.1 p.values).2 (ot es p.aA 0).2.1 p) (some (kV,11)) <|
 thn (lP (kU ((mB (mA (bA a) p.ax 0).2.1 p.values).2++p.aP)) (nt ((ot es p.aA 0).2.1++p.aM)) p.next.x1) λx =>
 cond (!x.2) (some (kV,1)) <|
 thn (kD t x.1) λb =>
 cond (!decide (b=0)) (some (kV,1)) (some (x.1,0))
noncomputable def fu(l:List aG):Option (List aG):=open Classical in gb (l.length<=1000000/\∃K,∀x∈l,x.kind=K/\oL x) (gT l)
theorem rj{l:List aG}(h:l.length<=1000000/\∃K,∀x∈l,x.kind=K/\oL x):fu l=some (gT l):=by unfold fu gb;rw[if_pos h]
def tL(p q:aH):Option aH:=gb (p.ax.length<=1000000/\p.aA.length<=1000000/\p.values.length<=1000000/\q.ax.length<=1000000/\q.aA.length<=1000000/\q.values.length<=1000000) (mQ p q)
attribute [go_sem] lM
noncomputable section
def iQ(a:eU):Option eU :=
 cL (a.nodes.length<=68719476736) <|
 cL (a.ak.length<=68719476736) <|
 some a
theorem p5(a:eU)(r:eU)(h:iQ a=some r):bw pw 86 [.agg [.aV (a.nodes.map encI),.aV (a.ak.map aY)]] (λv=>v = .agg [.row 3 1 (r.nodes.map encI),.row 150 3 (r.ak.map aY)]):=by
 refine bw.vg ?_;refine bF [3,6,7,10] func86 ntmps86 results86 ?_;unfold iQ at h;have F:=trivial;refine zE [(1,.q),(2,.q),(5,.b),(6,.b),(0,.w),(3,.s),(4,.w),(7,.s),(8,.q),(9,.w)] ?_;refine zC F h λF h=>?_
 refine dc a.nodes.length 8 F λF=>?_
 refine zF (eq_true (dJ (n:=1) (f:=encI) (λ_=>rfl) a.nodes)) F λF=>?_
 refine zC F h λF h=>?_
 refine dc a.ak.length 24 F λF=>?_
 refine zF (eq_true (dJ (n:=3) (f:=aY) (λ_=>rfl) a.ak)) F λF=>?_
 exact jx h
def cE(a:Host):Option Host :=
 thn (iQ a.graph) λr1 =>
 cL (a.values.length<=fuel) <|
 cq (λe (b:(List (List Int))) d f =>
  thn (a.values[e]?) λc =>
  cL (c.length<=68719476736) <|
  cL (b.length+1<=68719476736) <|
  d (b++[c]))
 (a.values.length-0) 0 ([]:List (List Int)) λb =>
 some (⟨r1,b⟩:Host)
theorem p6(e:Host)(r:Host)(h:cE e=some r):bw pw 44 [.agg (lM e)] (λv=>v = .agg [.row 3 1 (r.graph.nodes.map encI),.row 150 3 (r.graph.ak.map aY),.row 32 1 (r.values.map bI)]):=by
 refine bw.vg ?_;refine bF [25,26] func44 ntmps44 results44 ?_;unfold cE at h;have F:=trivial;refine zG 1112 F h (p5 _) λr1 h=>?_
 refine zV ?_;refine zN F h (0:Nat) [1,2,3] (λx=>[(4,.p (.val (.int .i64 ((x.1.1:Nat):Int))))]) [1,2,1112,1113] (λx H=>[(3,bx (H 3) [(2,.row 2096 x.2)]),(2096,.row x.2 32 1 (x.1.2.map bI))]) ?_ ?_ (hw:=by refine dw.trans (cz 3 2 2096 32 1 _ rfl rfl rfl (by decide)) ?_;exact zW)
 ·intro i d g _ _ F j h;try dsimp only at h
  refine zE [(0,.p),(2,.p),(1,.b),(3,.q),(4,.q),(5,.q),(6,.q),(7,.q),(8,.w),(9,.w),(10,.w),(11,.q),(12,.w)] ?_;refine zI bI F h λa F h=>?_
  refine zC F h λF h=>?_
  refine dc a.length 8 F λF=>?_
  refine zF (eq_true (dJ (n:=1) (f:=encI) (λ_=>rfl) a)) F λF=>?_
  refine zC F h λF h=>?_
  refine dc (d.length+1) 24 F λF=>?_
  refine zF (bt bI d [a] (c:=[[.aV (a.map encI)]]) rfl) F λF=>?_
  exact zX (z:=j _ (g+1) h zW)
 ·intro i d g _ F h;try dsimp only at h
  exact jx h
def dF(a:ay):Option ay :=
 thn (cE a.host) λr1 =>
 cL (a.nodes.length<=68719476736) <|
 cL (a.ak.length<=68719476736) <|
 some (⟨r1,a.nodes,a.ak,a.next⟩:ay)
theorem wH(a:ay)(r:ay)(h:dF a=some r):bw pw 91 [.agg (aC a)] (λv=>v = .agg [.row 3 1 (r.host.graph.nodes.map encI),.row 150 3 (r.host.graph.ak.map aY),.row 32 1 (r.host.values.map bI),.row 3 1 (r.nodes.map encI),.row 3 1 (r.ak.map encI),.p (.val (.int .i64 r.next))]):=by
 refine bw.vg ?_;refine bF [6,9,10,13] func91 ntmps91 results91 ?_;unfold dF at h;have F:=trivial;refine zE [(0,.q),(1,.q),(4,.q),(5,.q),(8,.b),(9,.b),(11,.b),(12,.b),(2,.f),(3,.w),(6,.s),(7,.w),(10,.s),(13,.q),(14,.w)] ?_;refine zH 1080 F h (p6 _) λr1 h=>?_
 refine zC F h λF h=>?_
 refine dc a.nodes.length 8 F λF=>?_
 refine zF (eq_true (dJ (n:=1) (f:=encI) (λ_=>rfl) a.nodes)) F λF=>?_
 refine zC F h λF h=>?_
 refine dc a.ak.length 8 F λF=>?_
 refine zF (eq_true (dJ (n:=1) (f:=encI) (λ_=>rfl) a.ak)) F λF=>?_
 exact jx h
end
end Go.Proofs.YtnnpmiiegnedeaaGreat
namespace Go.cv
end Go.cv
namespace Go.Proofs.YtnnpmiiegnedeaaGreat
open Go.cv
attribute [go_sem] aU jX ja er mM dW aB dD cB eR bZ
noncomputable section
def js(f:List dM)(g:List dM):Option Types :=
 iter (λ(a:Int×(List ic)) c i =>
  cond (decide (a.1=0)) (
   cond (decide (a.1<((f.length:Nat):Int))) (
    thn (nr f a.1) λd =>
    cL ((0:Int)<=a.1/\a.1<=(i64.wrap (a.1+1))/\(i64.wrap (a.1+1))<=((#[65,66,67,68,69,70]:Array UInt8).size:Int)) <|
    cL (¬ ((i64.wrap (a.1+1))=0)) <|
    cL ((0:Int)<=a.1/\a.1<=(i64.wrap (a.1+1))/\(i64.wrap (a.1+1))<=((#[117,118,119,120,121,122]:Array UInt8).size:Int)) <|
    cond (decide ((d.x1.tmod 4)=1)) (
     cL (a.2.length+1<=68719476736) <|
     c ((i64.wrap (a.1+1)),(a.2++[(⟨((⟨#[65,66,67,68,69,70]⟩:ByteArray).extract a.1.toNat (i64.wrap (a.1+1)).toNat),(i64.wrap (((i64.wrap d.x0).tmod (i64.wrap (a.1+1)))-1)),(decide (((IntKind.u8.wrap (d.x0.tdiv 16)).tmod 4)=3)),[(⟨((⟨#[117,118,119,120,121,122]⟩:ByteArray).extract a.1.toNat (i64.wrap (a.1+1)).toNat),(-3),(i64.wrap (3+((i64.wrap (IntKind.u8.wrap (d.x1.tdiv 4))).tmod 9))),([]:List ByteArray)⟩:Attr)]⟩:ic)]))) <|
    cond (decide ((d.x1.tmod 4)=2)) (
     cL (a.2.length+1<=68719476736) <|
     c ((i64.wrap (a.1+1)),(a.2++[(⟨((⟨#[65,66,67,68,69,70]⟩:ByteArray).extract a.1.toNat (i64.wrap (a.1+1)).toNat),(i64.wrap (((i64.wrap d.x0).tmod (i64.wrap (a.1+1)))-1)),(decide (((IntKind.u8.wrap (d.x0.tdiv 16)).tmod 4)=3)),[(⟨((⟨#[117,118,119,120,121,122]⟩:ByteArray).extract a.1.toNat (i64.wrap (a.1+1)).toNat),0,1,[(⟨#[111,102,102]⟩:ByteArray),(⟨#[111,110]⟩:ByteArray)]⟩:Attr)]⟩:ic)]))) <|
    cL (a.2.length+1<=68719476736) <|
    c ((i64.wrap (a.1+1)),(a.2++[(⟨((⟨#[65,66,67,68,69,70]⟩:ByteArray).extract a.1.toNat (i64.wrap (a.1+1)).toNat),(i64.wrap (((i64.wrap d.x0).tmod (i64.wrap (a.1+1)))-1)),(decide (((IntKind.u8.wrap (d.x0.tdiv 16)).tmod 4)=3)),([]:List Attr)⟩:ic)]))) <|
   cL ((0:Int)<=a.1/\a.1<=(i64.wrap (a.1+1))/\(i64.wrap (a.1+1))<=((#[65,66,67,68,69,70]:Array UInt8).size:Int)) <|
   cL (¬ ((i64.wrap (a.1+1))=0)) <|
   cL ((0:Int)<=a.1/\a.1<=(i64.wrap (a.1+1))/\(i64.wrap (a.1+1))<=((#[117,118,119,120,121,122]:Array UInt8).size:Int)) <|
   cond (decide (((0:Int).tmod 4)=1)) (
    cL (a.2.length+1<=68719476736) <|
    c ((i64.wrap (a.1+1)),(a.2++[(⟨((⟨#[65,66,67,68,69,70]⟩:ByteArray).extract a.1.toNat (i64.wrap (a.1+1)).toNat),(i64.wrap (((i64.wrap 0).tmod (i64.wrap (a.1+1)))-1)),(decide (((IntKind.u8.wrap ((0:Int).tdiv 16)).tmod 4)=3)),[(⟨((⟨#[117,118,119,120,121,122]⟩:ByteArray).extract a.1.toNat (i64.wrap (a.1+1)).toNat),(-3),(i64.wrap (3+((i64.wrap (IntKind.u8.wrap ((0:Int).tdiv 4))).tmod 9))),([]:List ByteArray)⟩:Attr)]⟩:ic)]))) <|
   cond (decide (((0:Int).tmod 4)=2)) (
    cL (a.2.length+1<=68719476736) <|
    c ((i64.wrap (a.1+1)),(a.2++[(⟨((⟨#[65,66,67,68,69,70]⟩:ByteArray).extract a.1.toNat (i64.wrap (a.1+1)).toNat),(i64.wrap (((i64.wrap 0).tmod (i64.wrap (a.1+1)))-1)),(decide (((IntKind.u8.wrap ((0:Int).tdiv 16)).tmod 4)=3)),[(⟨((⟨#[117,118,119,120,121,122]⟩:ByteArray).extract a.1.toNat (i64.wrap (a.1+1)).toNat),0,1,[(⟨#[111,102,102]⟩:ByteArray),(⟨#[111,110]⟩:ByteArray)]⟩:Attr)]⟩:ic)]))) <|
   cL (a.2.length+1<=68719476736) <|
   c ((i64.wrap (a.1+1)),(a.2++[(⟨((⟨#[65,66,67,68,69,70]⟩:ByteArray).extract a.1.toNat (i64.wrap (a.1+1)).toNat),(i64.wrap (((i64.wrap 0).tmod (i64.wrap (a.1+1)))-1)),(decide (((IntKind.u8.wrap ((0:Int).tdiv 16)).tmod 4)=3)),([]:List Attr)⟩:ic)]))) <|
  cond (decide (a.1<((f.length:Nat):Int))) (
   cond (decide (a.1<6)) (
    thn (nr f a.1) λe =>
    cL ((0:Int)<=a.1/\a.1<=(i64.wrap (a.1+1))/\(i64.wrap (a.1+1))<=((#[65,66,67,68,69,70]:Array UInt8).size:Int)) <|
    cL (¬ ((i64.wrap (a.1+1))=0)) <|
    cL ((0:Int)<=a.1/\a.1<=(i64.wrap (a.1+1))/\(i64.wrap (a.1+1))<=((#[117,118,119,120,121,122]:Array UInt8).size:Int)) <|
    cond (decide ((e.x1.tmod 4)=1)) (
     cL (a.2.length+1<=68719476736) <|
     c ((i64.wrap (a.1+1)),(a.2++[(⟨((⟨#[65,66,67,68,69,70]⟩:ByteArray).extract a.1.toNat (i64.wrap (a.1+1)).toNat),(i64.wrap (((i64.wrap e.x0).tmod (i64.wrap (a.1+1)))-1)),(decide (((IntKind.u8.wrap (e.x0.tdiv 16)).tmod 4)=3)),[(⟨((⟨#[117,118,119,120,121,122]⟩:ByteArray).extract a.1.toNat (i64.wrap (a.1+1)).toNat),(-3),(i64.wrap (3+((i64.wrap (IntKind.u8.wrap (e.x1.tdiv 4))).tmod 9))),([]:List ByteArray)⟩:Attr)]⟩:ic)]))) <|
    cond (decide ((e.x1.tmod 4)=2)) (
     cL (a.2.length+1<=68719476736) <|
     c ((i64.wrap (a.1+1)),(a.2++[(⟨((⟨#[65,66,67,68,69,70]⟩:ByteArray).extract a.1.toNat (i64.wrap (a.1+1)).toNat),(i64.wrap (((i64.wrap e.x0).tmod (i64.wrap (a.1+1)))-1)),(decide (((IntKind.u8.wrap (e.x0.tdiv 16)).tmod 4)=3)),[(⟨((⟨#[117,118,119,120,121,122]⟩:ByteArray).extract a.1.toNat (i64.wrap (a.1+1)).toNat),0,1,[(⟨#[111,102,102]⟩:ByteArray),(⟨#[111,110]⟩:ByteArray)]⟩:Attr)]⟩:ic)]))) <|
    cL (a.2.length+1<=68719476736) <|
    c ((i64.wrap (a.1+1)),(a.2++[(⟨((⟨#[65,66,67,68,69,70]⟩:ByteArray).extract a.1.toNat (i64.wrap (a.1+1)).toNat),(i64.wrap (((i64.wrap e.x0).tmod (i64.wrap (a.1+1)))-1)),(decide (((IntKind.u8.wrap (e.x0.tdiv 16)).tmod 4)=3)),([]:List Attr)⟩:ic)]))) <|
   i (a.1,a.2)) <|
  i (a.1,a.2))
 fuel (0,([]:List ic)) λa =>
 iter (λ(b:Int×(List mI)) k j =>
  cond (decide (b.1<((g.length:Nat):Int))) (
   cond (decide (b.1<5)) (
    cL ((0:Int)<=b.1/\b.1<=(i64.wrap (b.1+1))/\(i64.wrap (b.1+1))<=((#[101,102,103,104,105]:Array UInt8).size:Int)) <|
    thn (nr g b.1) λh =>
    cL (¬ (((a.2.length:Nat):Int)=0)) <|
    cL (¬ (((a.2.length:Nat):Int)=0)) <|
    cL (b.2.length+1<=68719476736) <|
    k ((i64.wrap (b.1+1)),(b.2++[(⟨((⟨#[101,102,103,104,105]⟩:ByteArray).extract b.1.toNat (i64.wrap (b.1+1)).toNat),((i64.wrap h.x0).tmod ((a.2.length:Nat):Int)),((i64.wrap h.x1).tmod ((a.2.length:Nat):Int)),0,(-1),0,(-1)⟩:mI)]))) <|
   j (b.1,b.2)) <|
  j (b.1,b.2))
 fuel (0,([]:List mI)) λb =>
 some (⟨a.2,b.2⟩:Types)
def gU(b:Types):Option (List Int) :=
 cL (b.nodes.length<=fuel) <|
 cq (λc (a:(List Int)) d f =>
  thn (b.nodes[c]?) λe =>
  cond e.abs (
   d a) <|
  cL (a.length+1<=68719476736) <|
  d (a++[((c:Nat):Int)]))
 (b.nodes.length-0) 0 ([]:List Int) λa =>
 some a
def iq(c:Types)(f:dO):Option Host :=
 thn (gU c) λr2 =>
 iter (λ(a:Int×(List Int)×(List (List Int))) q i =>
  cond (decide (a.1<((f.nodes.length:Nat):Int))) (
   cond (decide (a.1<8)) (
    cond (decide (0<((r2.length:Nat):Int))) (
     thn (nr f.nodes a.1) λl =>
     cL (¬ (((r2.length:Nat):Int)=0)) <|
     thn (nr r2 ((i64.wrap l.x0).tmod ((r2.length:Nat):Int))) λm =>
     thn (mO c m) λj =>
     cL (j.1.length<=fuel) <|
     cq (λn (h:(List Int)) o t =>
      thn (j.1[n]?) λe =>
      cL (¬ ((i64.wrap ((i64.wrap (e.high-e.low))+1))=0)) <|
      cL (h.length+1<=68719476736) <|
      o (h++[(i64.wrap (e.low+((i64.wrap ((i64.wrap l.x1)+(i64.wrap (7 * ((n:Nat):Int))))).tmod (i64.wrap ((i64.wrap (e.high-e.low))+1)))))]))
     (j.1.length-0) 0 ([]:List Int) λh =>
     cL (a.2.1.length+1<=68719476736) <|
     cL (a.2.2.length+1<=68719476736) <|
     q ((i64.wrap (a.1+1)),(a.2.1++[m]),(a.2.2++[h]))) <|
    i (a.1,a.2.1,a.2.2)) <|
   i (a.1,a.2.1,a.2.2)) <|
  i (a.1,a.2.1,a.2.2))
 fuel (0,([]:List Int),([]:List (List Int))) λa =>
 iter (λ(b:Int×(List Edge)) k g =>
  cond (decide (b.1<((f.ak.length:Nat):Int))) (
   cond (decide (b.1<10)) (
    cond (decide (0<((a.2.1.length:Nat):Int))) (
     cond (decide (0<((c.ak.length:Nat):Int))) (
      thn (nr f.ak b.1) λd =>
      cL (¬ (((c.ak.length:Nat):Int)=0)) <|
      cL (¬ (((a.2.1.length:Nat):Int)=0)) <|
      cL (¬ (((a.2.1.length:Nat):Int)=0)) <|
      thn (nr a.2.1 ((i64.wrap d.x1).tmod ((a.2.1.length:Nat):Int))) λp =>
      thn (nr a.2.1 ((i64.wrap d.x2).tmod ((a.2.1.length:Nat):Int))) λs =>
      thn (qX c ((i64.wrap d.x0).tmod ((c.ak.length:Nat):Int)) p s) λr =>
      cond r (
       cL (b.2.length+1<=68719476736) <|
       k ((i64.wrap (b.1+1)),(b.2++[(⟨((i64.wrap d.x0).tmod ((c.ak.length:Nat):Int)),((i64.wrap d.x1).tmod ((a.2.1.length:Nat):Int)),((i64.wrap d.x2).tmod ((a.2.1.length:Nat):Int))⟩:Edge)]))) <|
      k ((i64.wrap (b.1+1)),b.2)) <|
     g (b.1,b.2)) <|
    g (b.1,b.2)) <|
   g (b.1,b.2)) <|
  g (b.1,b.2))
 fuel (0,([]:List Edge)) λb =>
 some (⟨⟨a.2.1,b.2⟩,a.2.2⟩:Host)
def fQ(c:Int)(b:Int):Option (List Int) :=
 cL (b.toNat<=fuel) <|
 cq (λe (a:(List Int)) d f =>
  cL (a.length+1<=68719476736) <|
  d (a++[(i64.wrap (c+((e:Nat):Int)))]))
 (b.toNat-0) 0 ([]:List Int) λa =>
 some a
def jH(b:Types)(a:Host):Option (ay×Int) :=
 thn (kj b) λr2 =>
 cond (decide (r2.2=0)) (
  thn (fB b a) λc =>
  cond (decide (c.2=0)) (
   thn (cE a) λd =>
   thn (fQ 0 ((a.graph.nodes.length:Nat):Int)) λe =>
   thn (fQ ((a.graph.nodes.length:Nat):Int) (i64.wrap ((i64.wrap (((a.graph.nodes.length:Nat):Int)+((a.graph.ak.length:Nat):Int)))-((a.graph.nodes.length:Nat):Int)))) λf =>
   some ((⟨d,e,f,(i64.wrap (((a.graph.nodes.length:Nat):Int)+((a.graph.ak.length:Nat):Int)))⟩:ay),0)) <|
  some ((⟨(⟨(⟨([]:List Int),([]:List Edge)⟩:eU),([]:List (List Int))⟩:Host),([]:List Int),([]:List Int),0⟩:ay),c.2)) <|
 some ((⟨⟨⟨[],[]⟩,[]⟩,[],[],0⟩:ay),r2.2)
def ir(a:ay)(b:Int):Option ah :=
 thn (nr a.nodes b) λd =>
 thn (nr a.host.graph.nodes b) λe =>
 thn (nr a.host.values b) λc =>
 cL (c.length<=68719476736) <|
 some (⟨d,e,c⟩:ah)
def dG(a:ay)(c:Int):Option au :=
 thn (nr a.host.graph.ak c) λb =>
 thn (nr a.ak c) λd =>
 thn (nr a.nodes b.src) λe =>
 thn (nr a.nodes b.dst) λf =>
 some (⟨d,b.type,e,f⟩:au)
def fc(a:ay):Option aO :=
 cL (a.nodes.length<=fuel) <|
 cq (λe (b:(List ah)) g j =>
  thn (ir a ((e:Nat):Int)) λr2 =>
  cL (b.length+1<=68719476736) <|
  g (b++[r2]))
 (a.nodes.length-0) 0 ([]:List ah) λb =>
 cL (a.ak.length<=fuel) <|
 cq (λf (c:(List au)) d i =>
  thn (dG a ((f:Nat):Int)) λh =>
  cL (c.length+1<=68719476736) <|
  d (c++[h]))
 (a.ak.length-0) 0 ([]:List au) λc =>
 some (⟨b,c⟩:aO)
def cI(a:aO)(c:au):Option (aO×Bool) :=
 cL (a.ak.length<=fuel) <|
 cq (λb (f:Unit) e g =>
  thn (a.ak[b]?) λd =>
  cond (decide (d.id=c.id)&&(decide (d.type=c.type)&&(decide (d.src=c.src)&&decide (d.dst=c.dst)))) (
   cL ((0:Int)<=0/\0<=((b:Nat):Int)/\((b:Nat):Int)<=(a.ak.length:Int)) <|
   cL ((a.ak.take b).length<=68719476736) <|
   cL ((0:Int)<=(i64.wrap (((b:Nat):Int)+1))/\(i64.wrap (((b:Nat):Int)+1))<=((a.ak.length:Nat):Int)/\((a.ak.length:Nat):Int)<=(a.ak.length:Int)) <|
   cL ((a.ak.take b).length+(a.ak.drop (i64.wrap (((b:Nat):Int)+1)).toNat).length<=68719476736) <|
   some ((⟨a.nodes,((a.ak.take b)++(a.ak.drop (i64.wrap (((b:Nat):Int)+1)).toNat))⟩:aO),true)) <|
  e ())
 (a.ak.length-0) 0 () λf =>
 some (a,false)
def bW(a:List Int)(c:Int):Option Int :=
 cL (a.length<=fuel) <|
 cq (λb (f:Unit) d g =>
  thn (a[b]?) λe =>
  cond (decide (e=c)) (
   some ((b:Nat):Int)) <|
  d ())
 (a.length-0) 0 () λf =>
 some (-1)
def dg(c:aO)(f:Int):Option ay :=
 cL (c.nodes.length<=fuel) <|
 cq (λh (a:(List Int)×(List (List Int))×(List Int)) g n =>
  thn (c.nodes[h]?) λd =>
  cL (a.2.2.length+1<=68719476736) <|
  cL (a.1.length+1<=68719476736) <|
  cL (d.values.length<=68719476736) <|
  cL (a.2.1.length+1<=68719476736) <|
  g ((a.1++[d.type]),(a.2.1++[d.values]),(a.2.2++[d.id])))
 (c.nodes.length-0) 0 (([]:List Int),([]:List (List Int)),([]:List Int)) λa =>
 cL (c.ak.length<=fuel) <|
 cq (λi (b:(List Edge)×(List Int)) l m =>
  thn (c.ak[i]?) λe =>
  cL (b.2.length+1<=68719476736) <|
  thn (bW a.2.2 e.src) λj =>
  thn (bW a.2.2 e.dst) λk =>
  cL (b.1.length+1<=68719476736) <|
  l ((b.1++[(⟨e.type,j,k⟩:Edge)]),(b.2++[e.id])))
 (c.ak.length-0) 0 (([]:List Edge),([]:List Int)) λb =>
 some (⟨⟨⟨a.1,b.1⟩,a.2.1⟩,a.2.2,b.2,f⟩:ay)
def gV(a:List Int)(b:List Int):Option Bool :=
 cond (decide (((a.length:Nat):Int)=((b.length:Nat):Int))) (
  cL (a.length<=fuel) <|
  cq (λc (g:Unit) d h =>
   thn (a[c]?) λe =>
   thn (b[c]?) λf =>
   cond (decide (e=f)) (
    d ()) <|
   some false)
  (a.length-0) 0 () λg =>
  some true) <|
 some false
def gW(a:ah)(b:ah):Option Bool :=
 cond (decide (a.id=b.id)) (
  cond (decide (a.type=b.type)) (
   thn (gV a.values b.values) λr2 =>
   some r2) <|
  some false) <|
 some false
def cr(a:aO)(c:ah):Option (aO×Bool) :=
 cL (a.nodes.length<=fuel) <|
 cq (λb (g:Unit) d h =>
  thn (a.nodes[b]?) λe =>
  thn (gW e c) λf =>
  cond f (
   cL ((0:Int)<=0/\0<=((b:Nat):Int)/\((b:Nat):Int)<=(a.nodes.length:Int)) <|
   cL ((0:Int)<=(i64.wrap (((b:Nat):Int)+1))/\(i64.wrap (((b:Nat):Int)+1))<=((a.nodes.length:Nat):Int)/\((a.nodes.length:Nat):Int)<=(a.nodes.length:Int)) <|
   cL ((a.nodes.take b).length<=68719476736) <|
   cL ((a.nodes.take b).length+(a.nodes.drop (i64.wrap (((b:Nat):Int)+1)).toNat).length<=68719476736) <|
   some ((⟨((a.nodes.take b)++(a.nodes.drop (i64.wrap (((b:Nat):Int)+1)).toNat)),a.ak⟩:aO),true)) <|
  d ())
 (a.nodes.length-0) 0 () λg =>
 some (a,false)
def fR(b:ay)(d:Bool)(c:Int):Option ay :=
 thn (fc b) λa =>
 cond d (
  thn (nr a.ak c) λe =>
  thn (cI a e) λg =>
  thn (dg g.1 b.next) λh =>
  some h) <|
 thn (nr a.nodes c) λf =>
 thn (cr a f) λi =>
 thn (dg i.1 b.next) λj =>
 some j
def iC(e:Types)(b:ay)(c:jW):Option ay :=
 thn (dF b) λa =>
 cond (decide (((i64.wrap c.x0).tmod 5)=0)) (
  cond (decide (0<((b.nodes.length:Nat):Int))) (
   cL (¬ (((b.nodes.length:Nat):Int)=0)) <|
   thn (nr a.host.values ((i64.wrap c.x1).tmod ((b.nodes.length:Nat):Int))) λd =>
   cond (decide (0<((d.length:Nat):Int))) (
    cL (¬ (((d.length:Nat):Int)=0)) <|
    cL (¬ (((d.length:Nat):Int)=0)) <|
    thn (nr d ((i64.wrap c.x2).tmod ((d.length:Nat):Int))) λg =>
    some (⟨(⟨a.host.graph,(a.host.values.set (((i64.wrap c.x1).tmod ((b.nodes.length:Nat):Int)).toNat) (d.set (((i64.wrap c.x2).tmod ((d.length:Nat):Int)).toNat) (i64.wrap (g+1))))⟩:Host),a.nodes,a.ak,a.next⟩:ay)) <|
   some a) <|
  some a) <|
 cond (decide (((i64.wrap c.x0).tmod 5)=1)) (
  cond (decide (0<((b.nodes.length:Nat):Int))) (
   cL (¬ (((b.nodes.length:Nat):Int)=0)) <|
   thn (fR b false ((i64.wrap c.x1).tmod ((b.nodes.length:Nat):Int))) λi =>
   some i) <|
  some a) <|
 cond (decide (((i64.wrap c.x0).tmod 5)=2)) (
  cond (decide (0<((b.ak.length:Nat):Int))) (
   cL (¬ (((b.ak.length:Nat):Int)=0)) <|
   thn (fR b true ((i64.wrap c.x1).tmod ((b.ak.length:Nat):Int))) λj =>
   some j) <|
  some a) <|
 cond (decide (((i64.wrap c.x0).tmod 5)=3)) (
  thn (iq e (⟨[(⟨c.x1,c.x2⟩:dM)],[]⟩:dO)) λf =>
  cond (decide (((f.graph.nodes.length:Nat):Int)=1)) (
   thn (f.values[0]?) λh =>
   thn (f.graph.nodes[0]?) λk =>
   cL (a.host.graph.nodes.length+1<=68719476736) <|
   cL (a.host.values.length+1<=68719476736) <|
   cL (a.nodes.length+1<=68719476736) <|
   some (⟨(⟨(⟨(a.host.graph.nodes++[k]),a.host.graph.ak⟩:eU),(a.host.values++[h])⟩:Host),(a.nodes++[a.next]),a.ak,(i64.wrap (a.next+1))⟩:ay)) <|
  some a) <|
 cond (decide (((i64.wrap c.x0).tmod 5)=4)) (
  cond (decide (0<((b.nodes.length:Nat):Int))) (
   cond (decide (0<((e.ak.length:Nat):Int))) (
    cL (¬ (((e.ak.length:Nat):Int)=0)) <|
    cL (¬ (((b.nodes.length:Nat):Int)=0)) <|
    cL (¬ (((b.nodes.length:Nat):Int)=0)) <|
    cL (a.host.graph.ak.length+1<=68719476736) <|
    cL (a.ak.length+1<=68719476736) <|
    some (⟨(⟨(⟨a.host.graph.nodes,(a.host.graph.ak++[(⟨((i64.wrap c.x1).tmod ((e.ak.length:Nat):Int)),((i64.wrap ((i64.wrap c.x1).tdiv 5)).tmod ((b.nodes.length:Nat):Int)),((i64.wrap c.x2).tmod ((b.nodes.length:Nat):Int))⟩:Edge)])⟩:eU),a.host.values⟩:Host),a.nodes,(a.ak++[a.next]),(i64.wrap (a.next+1))⟩:ay)) <|
   some a) <|
  some a) <|
 some a
def iM(a:List Int)(e:Int):Option Int :=
 cL (a.length<=fuel) <|
 cq (λc (g:Unit) d h =>
  thn (a[c]?) λb =>
  cond (decide (b<0)) (
   some 6) <|
  cond (decide (e<=b)) (
   some 6) <|
  cond (decide (0<((c:Nat):Int))) (
   thn (nr a (i64.wrap (((c:Nat):Int)-1))) λf =>
   cond (decide (b<=f)) (
    some 12) <|
   d ()) <|
  d ())
 (a.length-0) 0 () λg =>
 some 0
def ck(b:Types)(a:ay):Option Int :=
 thn (kj b) λr2 =>
 cond (decide (r2.2=0)) (
  thn (fB b a.host) λc =>
  cond (decide (c.2=0)) (
   cond (decide (((a.nodes.length:Nat):Int)=((a.host.graph.nodes.length:Nat):Int))) (
    cond (decide (((a.ak.length:Nat):Int)=((a.host.graph.ak.length:Nat):Int))) (
     cond (decide (a.next<0)) (
      some 6) <|
     cond (decide (1000000<a.next)) (
      some 6) <|
     thn (iM a.nodes a.next) λd =>
     cond (decide (d=0)) (
      thn (iM a.ak a.next) λe =>
      cond (decide (e=0)) (
       cL (a.ak.length<=fuel) <|
       cq (λg (j:Unit) i k =>
        thn (a.ak[g]?) λf =>
        thn (bW a.nodes f) λh =>
        cond (decide (0<=h)) (
         some 5) <|
        i ())
       (a.ak.length-0) 0 () λj =>
       some 0) <|
      some e) <|
     some d) <|
    some 20) <|
   some 20) <|
  some c.2) <|
 some r2.2
def eL(e:Types)(c:ay)(d:List jW):Option ay :=
 cL (d.length<=fuel) <|
 cq (λh (a:(List Int)×(List Edge)×(List (List Int))×(List Int)×(List Int)×Int) f j =>
  thn (d[h]?) λg =>
  thn (iC e (⟨⟨⟨a.1,a.2.1⟩,a.2.2.1⟩,a.2.2.2.1,a.2.2.2.2.1,a.2.2.2.2.2⟩:ay) g) λb =>
  thn (ck e b) λi =>
  cond (decide (i=0)) (
   f (b.host.graph.nodes,b.host.graph.ak,b.host.values,b.nodes,b.ak,b.next)) <|
  f (a.1,a.2.1,a.2.2.1,a.2.2.2.1,a.2.2.2.2.1,a.2.2.2.2.2))
 (d.length-0) 0 (c.host.graph.nodes,c.host.graph.ak,c.host.values,c.nodes,c.ak,c.next) λa =>
 some (⟨⟨⟨a.1,a.2.1⟩,a.2.2.1⟩,a.2.2.2.1,a.2.2.2.2.1,a.2.2.2.2.2⟩:ay)
def jd(a:ay)(b:ay):Option Bool :=
 cL (a.nodes.length<=fuel) <|
 cq (λh (p:Unit) e s =>
  thn (a.nodes[h]?) λf =>
  thn (bW b.nodes f) λi =>
  thn (bW b.ak f) λo =>
  cond (decide (0<=o)) (
   some false) <|
  cond (decide (0<=i)) (
   thn (a.host.graph.nodes[h]?) λl =>
   thn (nr b.host.graph.nodes i) λm =>
   cond (decide (l=m)) (
    e ()) <|
   some false) <|
  e ())
 (a.nodes.length-0) 0 () λp =>
 cL (a.ak.length<=fuel) <|
 cq (λi8 (q:Unit) j r =>
  thn (a.ak[i8]?) λg =>
  thn (bW b.ak g) λk =>
  thn (bW b.nodes g) λn =>
  cond (decide (0<=n)) (
   some false) <|
  cond (decide (0<=k)) (
   thn (dG a ((i8:Nat):Int)) λc =>
   thn (dG b k) λd =>
   cond (decide (c.id=d.id)&&(decide (c.type=d.type)&&(decide (c.src=d.src)&&decide (c.dst=d.dst)))) (
    j ()) <|
   some false) <|
  j ())
 (a.ak.length-0) 0 () λq =>
 some true
def fS(a:ay)(d:ay):Option ((List ah)×(List au)) :=
 cL (a.nodes.length<=fuel) <|
 cq (λf (b:(List ah)) e p =>
  thn (a.nodes[f]?) λi =>
  thn (bW d.nodes i) λk =>
  cond (decide (k<0)) (
   thn (ir a ((f:Nat):Int)) λl =>
   cL (b.length+1<=68719476736) <|
   e (b++[l])) <|
  e b)
 (a.nodes.length-0) 0 ([]:List ah) λb =>
 cL (a.ak.length<=fuel) <|
 cq (λg (c:(List au)) h o =>
  thn (a.ak[g]?) λj =>
  thn (bW d.ak j) λm =>
  cond (decide (m<0)) (
   thn (dG a ((g:Nat):Int)) λn =>
   cL (c.length+1<=68719476736) <|
   h (c++[n])) <|
  h c)
 (a.ak.length-0) 0 ([]:List au) λc =>
 some (b,c)
def jt(b:ay)(c:ay):Option (aH×Bool) :=
 thn (jd b c) λr2 =>
 cond r2 (
  thn (fS b c) λh =>
  thn (fS c b) λi =>
  cL (b.nodes.length<=fuel) <|
  cq (λg (d:(List aQ)) k q =>
   thn (b.nodes[g]?) λe =>
   thn (bW c.nodes e) λj =>
   cond (decide (j<0)) (
    k d) <|
   iter (λ(a:Int×(List aQ)) m o =>
    thn (b.host.values[g]?) λf =>
    cond (decide (a.1<((f.length:Nat):Int))) (
     thn (nr f a.1) λl =>
     thn (nr c.host.values j) λp =>
     thn (nr p a.1) λn =>
     cond (decide (l=n)) (
      m ((i64.wrap (a.1+1)),a.2)) <|
     cL (a.2.length+1<=68719476736) <|
     m ((i64.wrap (a.1+1)),(a.2++[(⟨e,a.1,l,n⟩:aQ)]))) <|
    o (a.1,a.2))
   fuel (0,d) λa =>
   k a.2)
  (b.nodes.length-0) 0 ([]:List aQ) λd =>
  some ((⟨h.1,h.2,i.1,i.2,d,(⟨b.next,c.next⟩:dM)⟩:aH),true)) <|
 some ((⟨[],[],[],[],[],⟨0,0⟩⟩:aH),false)
def iu(a:Types)(b:ay)(c:ay):Option (aH×Int) :=
 thn (ck a b) λd =>
 cond (decide (d=0)) (
  thn (ck a c) λe =>
  cond (decide (e=0)) (
   thn (jt b c) λf =>
   cond f.2 (
    some (f.1,0)) <|
   some ((⟨([]:List ah),([]:List au),([]:List ah),([]:List au),([]:List aQ),(⟨0,0⟩:dM)⟩:aH),11)) <|
  some ((⟨([]:List ah),([]:List au),([]:List ah),([]:List au),([]:List aQ),(⟨0,0⟩:dM)⟩:aH),e)) <|
 some ((⟨[],[],[],[],[],⟨0,0⟩⟩:aH),d)
def dZ(a:List ah):Option Bool :=
 cL (a.length<=fuel) <|
 cq (λb (f:Unit) e g =>
  thn (a[b]?) λc =>
  thn (nr a (i64.wrap (((b:Nat):Int)-1))) λd =>
  cond (decide (c.id<=d.id)) (
   some false) <|
  e ())
 (a.length-1) 1 () λf =>
 some true
def ee(a:List au):Option Bool :=
 cL (a.length<=fuel) <|
 cq (λb (f:Unit) e g =>
  thn (a[b]?) λc =>
  thn (nr a (i64.wrap (((b:Nat):Int)-1))) λd =>
  cond (decide (c.id<=d.id)) (
   some false) <|
  e ())
 (a.length-1) 1 () λf =>
 some true
def fk(a:List aQ):Option Bool :=
 cL (a.length<=fuel) <|
 cq (λd (f:Unit) e g =>
  thn (a[d]?) λb =>
  thn (nr a (i64.wrap (((d:Nat):Int)-1))) λc =>
  cond (decide (b.id<c.id)) (
   some false) <|
  cond (decide (b.id=c.id)) (
   cond (decide (b.attr<=c.attr)) (
    some false) <|
   e ()) <|
  e ())
 (a.length-1) 1 () λf =>
 some true
def iD(a:aH):Option Int :=
 cond (decide (500<((a.ax.length:Nat):Int))) (
  some 3) <|
 cond (decide (500<((a.aA.length:Nat):Int))) (
  some 3) <|
 cond (decide (500<((a.aP.length:Nat):Int))) (
  some 3) <|
 cond (decide (500<((a.aM.length:Nat):Int))) (
  some 3) <|
 cond (decide (500<((a.values.length:Nat):Int))) (
  some 3) <|
 thn (dZ a.ax) λr1 =>
 cond r1 (
  thn (ee a.aA) λr2 =>
  cond r2 (
   thn (dZ a.aP) λb =>
   cond b (
    thn (ee a.aM) λc =>
    cond c (
     thn (fk a.values) λd =>
     cond d (
      some 0) <|
     some 12) <|
    some 12) <|
   some 12) <|
  some 12) <|
 some 12
def cV(e:aO)(c:aQ):Option (aO×Bool) :=
 cL (e.nodes.length<=fuel) <|
 cq (λg (a:(List ah)×Bool) d h =>
  thn (e.nodes[g]?) λb =>
  cond (decide (b.id=c.id)) (
   cond (decide (0<=c.attr)) (
    cond (decide (c.attr<((b.values.length:Nat):Int))) (
     thn (nr b.values c.attr) λf =>
     cond (decide (f=c.old)) (
      cond (decide (c.old=c.new)) (
       cL (a.1.length+1<=68719476736) <|
       d ((a.1++[b]),a.2)) <|
      cL (b.values.length<=68719476736) <|
      cL (a.1.length+1<=68719476736) <|
      d ((a.1++[(⟨b.id,b.type,(b.values.set c.attr.toNat c.new)⟩:ah)]),true)) <|
     cL (a.1.length+1<=68719476736) <|
     d ((a.1++[b]),a.2)) <|
    cL (a.1.length+1<=68719476736) <|
    d ((a.1++[b]),a.2)) <|
   cL (a.1.length+1<=68719476736) <|
   d ((a.1++[b]),a.2)) <|
  cL (a.1.length+1<=68719476736) <|
  d ((a.1++[b]),a.2))
 (e.nodes.length-0) 0 (([]:List ah),false) λa =>
 some ((⟨a.1,e.ak⟩:aO),a.2)
def gl(h:aO)(d:aH):Option (aO×Bool) :=
 iter (λ(a:Bool×Int×(List ah)×(List au)) l j =>
  cond (decide (a.2.1<((d.aA.length:Nat):Int))) (
   cond a.1 (
    thn (nr d.aA a.2.1) λm =>
    thn (cI (⟨a.2.2.1,a.2.2.2⟩:aO) m) λe =>
    l (e.2,(i64.wrap (a.2.1+1)),e.1.nodes,e.1.ak)) <|
   j (a.1,a.2.1,a.2.2.1,a.2.2.2)) <|
  j (a.1,a.2.1,a.2.2.1,a.2.2.2))
 fuel (true,0,h.nodes,h.ak) λa =>
 iter (λ(b:Bool×Int×(List ah)×(List au)) p k =>
  cond (decide (b.2.1<((d.ax.length:Nat):Int))) (
   cond b.1 (
    thn (nr d.ax b.2.1) λn =>
    thn (cr (⟨b.2.2.1,b.2.2.2⟩:aO) n) λf =>
    p (f.2,(i64.wrap (b.2.1+1)),f.1.nodes,f.1.ak)) <|
   k (b.1,b.2.1,b.2.2.1,b.2.2.2)) <|
  k (b.1,b.2.1,b.2.2.1,b.2.2.2))
 fuel (a.1,0,a.2.2.1,a.2.2.2) λb =>
 iter (λ(c:Bool×Int×(List ah)×(List au)) q i =>
  cond (decide (c.2.1<((d.values.length:Nat):Int))) (
   cond c.1 (
    thn (nr d.values c.2.1) λo =>
    thn (cV (⟨c.2.2.1,c.2.2.2⟩:aO) o) λg =>
    q (g.2,(i64.wrap (c.2.1+1)),g.1.nodes,g.1.ak)) <|
   i (c.1,c.2.1,c.2.2.1,c.2.2.2)) <|
  i (c.1,c.2.1,c.2.2.1,c.2.2.2))
 fuel (b.1,0,b.2.2.1,b.2.2.2) λc =>
 some ((⟨c.2.2.1,c.2.2.2⟩:aO),c.1)
def ff(a:aO)(b:Int):Option Bool :=
 cL (a.nodes.length<=fuel) <|
 cq (λf (h:Unit) c l =>
  thn (a.nodes[f]?) λd =>
  cond (decide (d.id=b)) (
   some true) <|
  c ())
 (a.nodes.length-0) 0 () λh =>
 cL (a.ak.length<=fuel) <|
 cq (λg (i:Unit) j k =>
  thn (a.ak[g]?) λe =>
  cond (decide (e.id=b)) (
   some true) <|
  j ())
 (a.ak.length-0) 0 () λi =>
 some false
def gm(c:aO)(f:aH):Option (aO×Bool) :=
 cL (f.aP.length<=fuel) <|
 cq (λx (C:Unit) q G =>
  thn (f.aP[x]?) λv =>
  thn (ff c v.id) λz =>
  cond z (
   some (c,false)) <|
  q ())
 (f.aP.length-0) 0 () λC =>
 cL (f.aM.length<=fuel) <|
 cq (λy (D:Unit) B H =>
  thn (f.aM[y]?) λw =>
  thn (ff c w.id) λA =>
  cond A (
   some (c,false)) <|
  B ())
 (f.aM.length-0) 0 () λD =>
 iter (λ(e:Int×Int×(List ah)) n o =>
  cond (decide (e.2.1<=((c.nodes.length:Nat):Int))) (
   iter (λ(a:Int×(List ah)) i j =>
    cond (decide (a.1<((f.aP.length:Nat):Int))) (
     cond (decide (e.2.1=((c.nodes.length:Nat):Int))) (
      thn (nr f.aP a.1) λE =>
      cL (a.2.length+1<=68719476736) <|
      i ((i64.wrap (a.1+1)),(a.2++[E]))) <|
     thn (nr f.aP a.1) λl =>
     thn (nr c.nodes e.2.1) λF =>
     cond (decide (l.id<F.id)) (
      cL (a.2.length+1<=68719476736) <|
      i ((i64.wrap (a.1+1)),(a.2++[l]))) <|
     j (a.1,a.2)) <|
    j (a.1,a.2))
   fuel (e.1,e.2.2) λa =>
   cond (decide (e.2.1<((c.nodes.length:Nat):Int))) (
    thn (nr c.nodes e.2.1) λr =>
    cL (a.2.length+1<=68719476736) <|
    n (a.1,(i64.wrap (e.2.1+1)),(a.2++[r]))) <|
   n (a.1,(i64.wrap (e.2.1+1)),a.2)) <|
  o (e.1,e.2.1,e.2.2))
 fuel (0,0,([]:List ah)) λe =>
 iter (λ(d:Int×Int×(List au)) g p =>
  cond (decide (d.2.1<=((c.ak.length:Nat):Int))) (
   iter (λ(b:Int×(List au)) h k =>
    cond (decide (b.1<((f.aM.length:Nat):Int))) (
     cond (decide (d.2.1=((c.ak.length:Nat):Int))) (
      thn (nr f.aM b.1) λs =>
      cL (b.2.length+1<=68719476736) <|
      h ((i64.wrap (b.1+1)),(b.2++[s]))) <|
     thn (nr f.aM b.1) λm =>
     thn (nr c.ak d.2.1) λt =>
     cond (decide (m.id<t.id)) (
      cL (b.2.length+1<=68719476736) <|
      h ((i64.wrap (b.1+1)),(b.2++[m]))) <|
     k (b.1,b.2)) <|
    k (b.1,b.2))
   fuel (d.1,d.2.2) λb =>
   cond (decide (d.2.1<((c.ak.length:Nat):Int))) (
    thn (nr c.ak d.2.1) λu =>
    cL (b.2.length+1<=68719476736) <|
    g (b.1,(i64.wrap (d.2.1+1)),(b.2++[u]))) <|
   g (b.1,(i64.wrap (d.2.1+1)),b.2)) <|
  p (d.1,d.2.1,d.2.2))
 fuel (0,0,([]:List au)) λd =>
 some ((⟨e.2.2,d.2.2⟩:aO),true)
def fT(c:Types)(a:ay)(b:aH):Option (ay×Int) :=
 thn (iD b) λd =>
 cond (decide (d=0)) (
  cond (decide (b.next.x0=a.next)) (
   thn (fc (⟨a.host,a.nodes,a.ak,a.next⟩:ay)) λh =>
   thn (gl h b) λe =>
   cond e.2 (
    thn (gm e.1 b) λf =>
    cond f.2 (
     thn (dg f.1 b.next.x1) λg =>
     thn (ck (⟨c.nodes,c.ak⟩:Types) g) λi =>
     cond (decide (i=0)) (
      some (g,0)) <|
     some ((⟨(⟨(⟨([]:List Int),([]:List Edge)⟩:eU),([]:List (List Int))⟩:Host),([]:List Int),([]:List Int),0⟩:ay),1)) <|
    some ((⟨(⟨(⟨([]:List Int),([]:List Edge)⟩:eU),([]:List (List Int))⟩:Host),([]:List Int),([]:List Int),0⟩:ay),11)) <|
   some ((⟨(⟨(⟨([]:List Int),([]:List Edge)⟩:eU),([]:List (List Int))⟩:Host),([]:List Int),([]:List Int),0⟩:ay),11)) <|
  some ((⟨(⟨(⟨([]:List Int),([]:List Edge)⟩:eU),([]:List (List Int))⟩:Host),([]:List Int),([]:List Int),0⟩:ay),11)) <|
 some ((⟨⟨⟨[],[]⟩,[]⟩,[],[],0⟩:ay),d)
def bX(b:Types)(a:ay)(e:aH):Option (ay×Int) :=
 thn (ck b a) λc =>
 cond (decide (c=0)) (
  thn (fT (⟨b.nodes,b.ak⟩:Types) (⟨a.host,a.nodes,a.ak,a.next⟩:ay) e) λd =>
  some (d.1,d.2)) <|
 some ((⟨⟨⟨[],[]⟩,[]⟩,[],[],0⟩:ay),c)
def gK(a:aH):Option Bool :=
 cL (a.aP.length<=fuel) <|
 cq (λe (h:Unit) g k =>
  thn (a.aP[e]?) λb =>
  cond (decide (b.id<a.next.x0)) (
   some false) <|
  g ())
 (a.aP.length-0) 0 () λh =>
 cL (a.aM.length<=fuel) <|
 cq (λf (i:Unit) d j =>
  thn (a.aM[f]?) λc =>
  cond (decide (c.id<a.next.x0)) (
   some false) <|
  d ())
 (a.aM.length-0) 0 () λi =>
 some (decide (a.next.x0<=a.next.x1))
def gL(b:Types)(a:ay)(d:aH)(c:aH):Option Int :=
 thn (bX (⟨b.nodes,b.ak⟩:Types) (⟨a.host,a.nodes,a.ak,a.next⟩:ay) d) λe =>
 cond (decide (e.2=0)) (
  thn (bX (⟨b.nodes,b.ak⟩:Types) (⟨a.host,a.nodes,a.ak,a.next⟩:ay) c) λf =>
  cond (decide (f.2=0)) (
   thn (gK d) λg =>
   cond g (
    thn (gK c) λh =>
    cond h (
     cond (decide (1000000<(i64.wrap ((i64.wrap (d.next.x1+c.next.x1))-c.next.x0)))) (
      some 6) <|
     some 0) <|
    some 8) <|
   some 8) <|
  some f.2) <|
 some e.2
def bD(a:aH)(b:Int):Option Bool :=
 cL (a.ax.length<=fuel) <|
 cq (λe (f:Unit) c g =>
  thn (a.ax[e]?) λd =>
  cond (decide (d.id=b)) (
   some true) <|
  c ())
 (a.ax.length-0) 0 () λf =>
 some false
def fW(a:aH)(b:Int):Option Bool :=
 cL (a.aM.length<=fuel) <|
 cq (λe (f:Unit) d g =>
  thn (a.aM[e]?) λc =>
  cond (decide (c.src=b)) (
   some true) <|
  cond (decide (c.dst=b)) (
   some true) <|
  d ())
 (a.aM.length-0) 0 () λf =>
 some false
def cm(a:aH)(d:Int)(e:Int):Option (aQ×Bool) :=
 cL (a.values.length<=fuel) <|
 cq (λf (g:Unit) c h =>
  thn (a.values[f]?) λb =>
  cond (decide (b.id=d)) (
   cond (decide (b.attr=e)) (
    some (b,true)) <|
   c ()) <|
  c ())
 (a.values.length-0) 0 () λg =>
 some ((⟨0,0,0,0⟩:aQ),false)
def eS(g:ay)(c:aH)(a:aH):Option (List aG) :=
 cL (g.nodes.length<=fuel) <|
 cq (λu (d:(List aG)) h H =>
  thn (g.nodes[u]?) λe =>
  thn (bD c e) λz =>
  cond z (
   thn (fW a e) λA =>
   cond A (
    cL (d.length+1<=68719476736) <|
    h (d++[(⟨1,e,(-1)⟩:aG)])) <|
   thn (bD a e) λB =>
   cond B (
    thn (fW c e) λC =>
    cond C (
     cL (d.length+1<=68719476736) <|
     h (d++[(⟨1,e,(-1)⟩:aG)])) <|
    h d) <|
   h d) <|
  thn (bD a e) λD =>
  cond D (
   thn (fW c e) λE =>
   cond E (
    cL (d.length+1<=68719476736) <|
    h (d++[(⟨1,e,(-1)⟩:aG)])) <|
   h d) <|
  h d)
 (g.nodes.length-0) 0 ([]:List aG) λd =>
 cL (g.nodes.length<=fuel) <|
 cq (λn (m:(List aG)) q F =>
  thn (g.nodes[n]?) λf =>
  iter (λ(b:Int×(List aG)) i r =>
   thn (g.host.values[n]?) λs =>
   cond (decide (b.1<((s.length:Nat):Int))) (
    thn (cm (⟨c.ax,c.aA,c.aP,c.aM,c.values,c.next⟩:aH) f b.1) λo =>
    thn (cm (⟨a.ax,a.aA,a.aP,a.aM,a.values,a.next⟩:aH) f b.1) λv =>
    thn (bD (⟨c.ax,c.aA,c.aP,c.aM,c.values,c.next⟩:aH) f) λw =>
    cond w (
     cond v.2 (
      cL (b.2.length+1<=68719476736) <|
      i ((i64.wrap (b.1+1)),(b.2++[(⟨2,f,b.1⟩:aG)]))) <|
     thn (bD (⟨a.ax,a.aA,a.aP,a.aM,a.values,a.next⟩:aH) f) λx =>
     cond x (
      cond o.2 (
       cL (b.2.length+1<=68719476736) <|
       i ((i64.wrap (b.1+1)),(b.2++[(⟨2,f,b.1⟩:aG)]))) <|
      i ((i64.wrap (b.1+1)),b.2)) <|
     i ((i64.wrap (b.1+1)),b.2)) <|
    thn (bD (⟨a.ax,a.aA,a.aP,a.aM,a.values,a.next⟩:aH) f) λy =>
    cond y (
     cond o.2 (
      cL (b.2.length+1<=68719476736) <|
      i ((i64.wrap (b.1+1)),(b.2++[(⟨2,f,b.1⟩:aG)]))) <|
     i ((i64.wrap (b.1+1)),b.2)) <|
    i ((i64.wrap (b.1+1)),b.2)) <|
   r (b.1,b.2))
  fuel (0,m) λb =>
  q b.2)
 (g.nodes.length-0) 0 d λm =>
 cL (c.values.length<=fuel) <|
 cq (λt (j:(List aG)) l G =>
  thn (c.values[t]?) λk =>
  thn (cm (⟨a.ax,a.aA,a.aP,a.aM,a.values,a.next⟩:aH) k.id k.attr) λp =>
  cond p.2 (
   cond (decide (p.1.new=k.new)) (
    l j) <|
   cL (j.length+1<=68719476736) <|
   l (j++[(⟨3,k.id,k.attr⟩:aG)])) <|
  l j)
 (c.values.length-0) 0 m λj =>
 some j
def eA(b:List ah):Option (List ah) :=
 cL (b.length<=fuel) <|
 cq (λd (a:(List ah)) e f =>
  thn (b[d]?) λc =>
  cL (c.values.length<=68719476736) <|
  cL (a.length+1<=68719476736) <|
  e (a++[c]))
 (b.length-0) 0 ([]:List ah) λa =>
 some a
def dH(a:aH):Option aH :=
 thn (eA a.ax) λr1 =>
 cL (a.aA.length<=68719476736) <|
 thn (eA a.aP) λr2 =>
 cL (a.aM.length<=68719476736) <|
 cL (a.values.length<=68719476736) <|
 some (⟨r1,a.aA,r2,a.aM,a.values,a.next⟩:aH)
def eB(a:Int)(b:Int)(c:Int):Option Int :=
 cond (decide (b<=a)) (
  some (i64.wrap (a+c))) <|
 some a
def eM(c:aH)(d:aH):Option aH :=
 thn (dH d) λr2 =>
 iter (λ(a:Int×(List ah)) h i =>
  cond (decide (a.1<((a.2.length:Nat):Int))) (
   thn (nr a.2 a.1) λf =>
   thn (eB f.id d.next.x0 (i64.wrap (c.next.x1-c.next.x0))) λj =>
   h ((i64.wrap (a.1+1)),(a.2.set a.1.toNat (⟨j,f.type,f.values⟩:ah)))) <|
  i (a.1,a.2))
 fuel (0,r2.aP) λa =>
 iter (λ(b:Int×(List au)) m g =>
  cond (decide (b.1<((b.2.length:Nat):Int))) (
   thn (nr b.2 b.1) λe =>
   thn (eB e.id d.next.x0 (i64.wrap (c.next.x1-c.next.x0))) λk =>
   thn (eB e.src d.next.x0 (i64.wrap (c.next.x1-c.next.x0))) λl =>
   thn (eB e.dst d.next.x0 (i64.wrap (c.next.x1-c.next.x0))) λn =>
   m ((i64.wrap (b.1+1)),(b.2.set b.1.toNat (⟨k,e.type,l,n⟩:au)))) <|
  g (b.1,b.2))
 fuel (0,r2.aM) λb =>
 some (⟨r2.ax,r2.aA,a.2,b.2,r2.values,⟨c.next.x1,(i64.wrap ((i64.wrap (c.next.x1+d.next.x1))-d.next.x0))⟩⟩:aH)
def jv(a:aH)(b:Int):Option Bool :=
 cL (a.aA.length<=fuel) <|
 cq (λe (f:Unit) c g =>
  thn (a.aA[e]?) λd =>
  cond (decide (d.id=b)) (
   some true) <|
  c ())
 (a.aA.length-0) 0 () λf =>
 some false
def iw(e:aH)(a:aH):Option aH :=
 thn (dH a) λr2 =>
 cL (a.ax.length<=fuel) <|
 cq (λl (b:(List ah)) j t =>
  thn (a.ax[l]?) λh =>
  thn (bD e h.id) λp =>
  cond p (
   j b) <|
  cL (b.length+1<=68719476736) <|
  j (b++[h]))
 (a.ax.length-0) 0 ([]:List ah) λb =>
 cL (a.aA.length<=fuel) <|
 cq (λm (c:(List au)) k s =>
  thn (a.aA[m]?) λi =>
  thn (jv e i.id) λq =>
  cond q (
   k c) <|
  cL (c.length+1<=68719476736) <|
  k (c++[i]))
 (a.aA.length-0) 0 ([]:List au) λc =>
 cL (a.values.length<=fuel) <|
 cq (λn (d:(List aQ)) g r =>
  thn (a.values[n]?) λf =>
  thn (cm e f.id f.attr) λo =>
  cond o.2 (
   g d) <|
  cL (d.length+1<=68719476736) <|
  g (d++[f]))
 (a.values.length-0) 0 ([]:List aQ) λd =>
 some (⟨b,c,r2.aP,r2.aM,d,r2.next⟩:aH)
def dS(h:aH)(c:ay):Option aH :=
 thn (dH h) λr2 =>
 iter (λ(a:Int×(List ah)) j k =>
  cond (decide (a.1<((a.2.length:Nat):Int))) (
   cL (c.nodes.length<=fuel) <|
   cq (λf (b:(List ah)) g l =>
    thn (c.nodes[f]?) λi =>
    thn (nr b a.1) λd =>
    cond (decide (i=d.id)) (
     thn (c.host.values[f]?) λe =>
     cL (e.length<=68719476736) <|
     g (b.set a.1.toNat (⟨d.id,d.type,e⟩:ah))) <|
    g b)
   (c.nodes.length-0) 0 a.2 λb =>
   j ((i64.wrap (a.1+1)),b)) <|
  k (a.1,a.2))
 fuel (0,r2.ax) λa =>
 some (⟨a.2,r2.aA,r2.aP,r2.aM,r2.values,r2.next⟩:aH)
def gx(d:Types)(f:ay)(a:aH)(g:aH):Option (ay×Int) :=
 thn (bX d f a) λb =>
 cond (decide (b.2=0)) (
  thn (eM (⟨a.ax,a.aA,a.aP,a.aM,a.values,a.next⟩:aH) g) λh =>
  thn (iw (⟨a.ax,a.aA,a.aP,a.aM,a.values,a.next⟩:aH) h) λi =>
  thn (dS i b.1) λc =>
  cond (decide (40<(i64.wrap ((i64.wrap (((b.1.nodes.length:Nat):Int)-((c.ax.length:Nat):Int)))+((c.aP.length:Nat):Int))))) (
   some ((⟨(⟨(⟨([]:List Int),([]:List Edge)⟩:eU),([]:List (List Int))⟩:Host),([]:List Int),([]:List Int),0⟩:ay),3)) <|
  cond (decide (80<(i64.wrap ((i64.wrap (((b.1.ak.length:Nat):Int)-((c.aA.length:Nat):Int)))+((c.aM.length:Nat):Int))))) (
   some ((⟨(⟨(⟨([]:List Int),([]:List Edge)⟩:eU),([]:List (List Int))⟩:Host),([]:List Int),([]:List Int),0⟩:ay),3)) <|
  thn (bX (⟨d.nodes,d.ak⟩:Types) b.1 c) λe =>
  some (e.1,e.2)) <|
 some ((⟨⟨⟨[],[]⟩,[]⟩,[],[],0⟩:ay),b.2)
def fD(c:eU)(f:Int)(e:Int)(g:Bool):Option Int :=
 cL (c.ak.length<=fuel) <|
 cq (λh (a:Int) b i =>
  thn (c.ak[h]?) λd =>
  cond (decide (d.type=f)) (
   cond g (
    cond (decide (d.src=e)) (
     b (i64.wrap (a+1))) <|
    b a) <|
   cond (decide (d.dst=e)) (
    b (i64.wrap (a+1))) <|
   b a) <|
  b a)
 (c.ak.length-0) 0 0 λa =>
 some a
def gX(g:Types)(a:Host):Option ((List cM)×Int) :=
 thn (fB g a) λr2 =>
 cond (decide (r2.2=0)) (
  cL (g.ak.length<=fuel) <|
  cq (λe (o:(List cM)) s x =>
   thn (g.ak[e]?) λd =>
   cL (2<=fuel) <|
   cq (λf (n:(List cM)) p y =>
    cond (decide (((f:Nat):Int)=1)) (
     cL (a.graph.nodes.length<=fuel) <|
     cq (λk (b:(List cM)) h v =>
      thn (a.graph.nodes[k]?) λr =>
      thn (iP g r d.dst) λu =>
      cond u (
       thn (fD a.graph ((e:Nat):Int) ((k:Nat):Int) (decide (((f:Nat):Int)=0))) λm =>
       cond (decide (m<d.tq)) (
        cL (b.length+1<=68719476736) <|
        h (b++[(⟨((e:Nat):Int),((k:Nat):Int),m,(decide (((f:Nat):Int)=0))⟩:cM)])) <|
       cond (decide (0<=d.og)) (
        cond (decide (d.og<m)) (
         cL (b.length+1<=68719476736) <|
         h (b++[(⟨((e:Nat):Int),((k:Nat):Int),m,(decide (((f:Nat):Int)=0))⟩:cM)])) <|
        h b) <|
       h b) <|
      h b)
     (a.graph.nodes.length-0) 0 n λb =>
     p b) <|
    cL (a.graph.nodes.length<=fuel) <|
    cq (λj (c:(List cM)) i w =>
     thn (a.graph.nodes[j]?) λq =>
     thn (iP g q d.src) λt =>
     cond t (
      thn (fD a.graph ((e:Nat):Int) ((j:Nat):Int) (decide (((f:Nat):Int)=0))) λl =>
      cond (decide (l<d.nI)) (
       cL (c.length+1<=68719476736) <|
       i (c++[(⟨((e:Nat):Int),((j:Nat):Int),l,(decide (((f:Nat):Int)=0))⟩:cM)])) <|
      cond (decide (0<=d.j9)) (
       cond (decide (d.j9<l)) (
        cL (c.length+1<=68719476736) <|
        i (c++[(⟨((e:Nat):Int),((j:Nat):Int),l,(decide (((f:Nat):Int)=0))⟩:cM)])) <|
       i c) <|
      i c) <|
     i c)
    (a.graph.nodes.length-0) 0 n λc =>
    p c)
   (2-0) 0 o λn =>
   s n)
  (g.ak.length-0) 0 ([]:List cM) λo =>
  some (o,0)) <|
 some (([]:List cM),r2.2)
def dI(d:Types)(c:ay):Option (List bJ) :=
 thn (gX d c.host) λr2 =>
 cL (r2.1.length<=fuel) <|
 cq (λg (a:(List bJ)) f h =>
  thn (r2.1[g]?) λb =>
  thn (nr c.nodes b.node) λe =>
  cL (a.length+1<=68719476736) <|
  f (a++[(⟨e,b.fq,b.out⟩:bJ)]))
 (r2.1.length-0) 0 ([]:List bJ) λa =>
 some a
def gY(a:List bJ)(b:bJ):Option Bool :=
 cL (a.length<=fuel) <|
 cq (λe (f:Unit) d g =>
  thn (a[e]?) λc =>
  cond (decide (c.id=b.id)&&(decide (c.fq=b.fq)&&(c.out == b.out))) (
   some true) <|
  d ())
 (a.length-0) 0 () λf =>
 some false
def iR(a:Types)(e:ay)(f:aH)(r:aH)(b:ay):Option (List aG) :=
 thn (bX a e f) λw =>
 thn (dF e) λi =>
 thn (eM f r) λx =>
 thn (bX a (⟨i.host,i.nodes,i.ak,f.next.x1⟩:ay) x) λy =>
 thn (dI a e) λj =>
 thn (dI a w.1) λl =>
 cL (j.length+l.length<=68719476736) <|
 thn (dI a y.1) λq =>
 cL (j.length+l.length+q.length<=68719476736) <|
 thn (dI a b) λh =>
 cL (b.nodes.length<=fuel) <|
 cq (λo (k:(List aG)) z C =>
  cL (a.ak.length<=fuel) <|
  cq (λp (c:(List aG)) n A =>
   cL (h.length<=fuel) <|
   cq (λu (m:Bool) d B =>
    cond m (
     d true) <|
    thn (h[u]?) λg =>
    thn (b.nodes[o]?) λs =>
    cond (decide (g.id=s)) (
     cond (decide (g.fq=((p:Nat):Int))) (
      thn (gY ((j++l)++q) g) λv =>
      d (!v)) <|
     d false) <|
    d false)
   (h.length-0) 0 false λm =>
   cond m (
    thn (b.nodes[o]?) λt =>
    cL (c.length+1<=68719476736) <|
    n (c++[(⟨4,t,((p:Nat):Int)⟩:aG)])) <|
   n c)
  (a.ak.length-0) 0 k λc =>
  z c)
 (b.nodes.length-0) 0 ([]:List aG) λk =>
 some k
def gG(c:Types)(b:ay)(a:aH)(d:aH):Option ((List aG)×Int) :=
 thn (gL (⟨c.nodes,c.ak⟩:Types) (⟨b.host,b.nodes,b.ak,b.next⟩:ay) a d) λf =>
 cond (decide (f=0)) (
  thn (eS (⟨b.host,b.nodes,b.ak,b.next⟩:ay) (⟨a.ax,a.aA,a.aP,a.aM,a.values,a.next⟩:aH) d) λg =>
  cond (decide (0<((g.length:Nat):Int))) (
   some (g,0)) <|
  thn (gx (⟨c.nodes,c.ak⟩:Types) b (⟨a.ax,a.aA,a.aP,a.aM,a.values,a.next⟩:aH) d) λe =>
  cond (decide (e.2=0)) (
   thn (iR c b a d e.1) λh =>
   some (h,0)) <|
  some (([]:List aG),e.2)) <|
 some (([]:List aG),f)
def fG(a:bS):Option (Types×bP×Bool) :=
 cond (decide (5<((a.nodes.length:Nat):Int))) (
  some ((⟨([]:List ic),([]:List mI)⟩:Types),(⟨(⟨(⟨(⟨([]:List Int),([]:List Edge)⟩:eU),([]:List (List Int))⟩:Host),([]:List Int),([]:List Int),0⟩:ay),(⟨([]:List ah),([]:List au),([]:List ah),([]:List au),([]:List aQ),(⟨0,0⟩:dM)⟩:aH),(⟨([]:List ah),([]:List au),([]:List ah),([]:List au),([]:List aQ),(⟨0,0⟩:dM)⟩:aH)⟩:bP),false)) <|
 cond (decide (5<((a.ak.length:Nat):Int))) (
  some ((⟨([]:List ic),([]:List mI)⟩:Types),(⟨(⟨(⟨(⟨([]:List Int),([]:List Edge)⟩:eU),([]:List (List Int))⟩:Host),([]:List Int),([]:List Int),0⟩:ay),(⟨([]:List ah),([]:List au),([]:List ah),([]:List au),([]:List aQ),(⟨0,0⟩:dM)⟩:aH),(⟨([]:List ah),([]:List au),([]:List ah),([]:List au),([]:List aQ),(⟨0,0⟩:dM)⟩:aH)⟩:bP),false)) <|
 cond (decide (6<((a.h.nodes.length:Nat):Int))) (
  some ((⟨([]:List ic),([]:List mI)⟩:Types),(⟨(⟨(⟨(⟨([]:List Int),([]:List Edge)⟩:eU),([]:List (List Int))⟩:Host),([]:List Int),([]:List Int),0⟩:ay),(⟨([]:List ah),([]:List au),([]:List ah),([]:List au),([]:List aQ),(⟨0,0⟩:dM)⟩:aH),(⟨([]:List ah),([]:List au),([]:List ah),([]:List au),([]:List aQ),(⟨0,0⟩:dM)⟩:aH)⟩:bP),false)) <|
 cond (decide (8<((a.h.ak.length:Nat):Int))) (
  some ((⟨([]:List ic),([]:List mI)⟩:Types),(⟨(⟨(⟨(⟨([]:List Int),([]:List Edge)⟩:eU),([]:List (List Int))⟩:Host),([]:List Int),([]:List Int),0⟩:ay),(⟨([]:List ah),([]:List au),([]:List ah),([]:List au),([]:List aQ),(⟨0,0⟩:dM)⟩:aH),(⟨([]:List ah),([]:List au),([]:List ah),([]:List au),([]:List aQ),(⟨0,0⟩:dM)⟩:aH)⟩:bP),false)) <|
 cond (decide (6<((a.first.length:Nat):Int))) (
  some ((⟨([]:List ic),([]:List mI)⟩:Types),(⟨(⟨(⟨(⟨([]:List Int),([]:List Edge)⟩:eU),([]:List (List Int))⟩:Host),([]:List Int),([]:List Int),0⟩:ay),(⟨([]:List ah),([]:List au),([]:List ah),([]:List au),([]:List aQ),(⟨0,0⟩:dM)⟩:aH),(⟨([]:List ah),([]:List au),([]:List ah),([]:List au),([]:List aQ),(⟨0,0⟩:dM)⟩:aH)⟩:bP),false)) <|
 cond (decide (6<((a.p.length:Nat):Int))) (
  some ((⟨([]:List ic),([]:List mI)⟩:Types),(⟨(⟨(⟨(⟨([]:List Int),([]:List Edge)⟩:eU),([]:List (List Int))⟩:Host),([]:List Int),([]:List Int),0⟩:ay),(⟨([]:List ah),([]:List au),([]:List ah),([]:List au),([]:List aQ),(⟨0,0⟩:dM)⟩:aH),(⟨([]:List ah),([]:List au),([]:List ah),([]:List au),([]:List aQ),(⟨0,0⟩:dM)⟩:aH)⟩:bP),false)) <|
 cond (decide (6<((a.q.length:Nat):Int))) (
  some ((⟨([]:List ic),([]:List mI)⟩:Types),(⟨(⟨(⟨(⟨([]:List Int),([]:List Edge)⟩:eU),([]:List (List Int))⟩:Host),([]:List Int),([]:List Int),0⟩:ay),(⟨([]:List ah),([]:List au),([]:List ah),([]:List au),([]:List aQ),(⟨0,0⟩:dM)⟩:aH),(⟨([]:List ah),([]:List au),([]:List ah),([]:List au),([]:List aQ),(⟨0,0⟩:dM)⟩:aH)⟩:bP),false)) <|
 thn (js a.nodes a.ak) λr1 =>
 thn (iq r1 a.h) λr2 =>
 thn (jH r1 r2) λe =>
 thn (eL r1 e.1 a.first) λb =>
 thn (eL r1 b a.p) λf =>
 thn (iu r1 b f) λc =>
 thn (eL r1 b a.q) λg =>
 thn (iu r1 b g) λd =>
 thn (gG r1 b c.1 d.1) λi =>
 cond (decide (c.2=0)) (
  cond (decide (d.2=0)) (
   some (r1,(⟨b,c.1,d.1⟩:bP),(decide (i.2=0)))) <|
  some (r1,(⟨b,c.1,d.1⟩:bP),false)) <|
 some (r1,(⟨b,c.1,d.1⟩:bP),false)
def iE  : Option Types:=some (⟨[(⟨⟨#[65,99,99,111,117,110,116]⟩,(-1),true,[(⟨⟨#[98,97,108,97,110,99,101]⟩,(-1000),1000,[]⟩:Attr)]⟩:ic),(⟨⟨#[67,97,115,104]⟩,0,false,[]⟩:ic),(⟨⟨#[76,111,97,110]⟩,0,false,[(⟨⟨#[115,116,97,116,101]⟩,0,1,[(⟨#[111,112,101,110]⟩:ByteArray),(⟨#[99,108,111,115,101,100]⟩:ByteArray)]⟩:Attr)]⟩:ic),(⟨⟨#[80,101,114,115,111,110]⟩,(-1),false,[]⟩:ic)],[(⟨⟨#[111,119,110,115]⟩,3,0,0,(-1),1,1⟩:mI),(⟨⟨#[112,97,121,115]⟩,1,1,0,(-1),0,(-1)⟩:mI)]⟩:Types)
def iy  : Option ay:=some (⟨⟨⟨[3,1,1],[(⟨0,0,1⟩:Edge),(⟨0,0,2⟩:Edge)]⟩,[([]:List Int),[10],[5]]⟩,[0,1,2],[3,4],5⟩:ay)
def fz(b:Types)(a:ay)(e:aH):Option (ay×Int) :=
 thn (kD (⟨b.nodes,b.ak⟩:Types) (⟨a.host,a.nodes,a.ak,a.next⟩:ay)) λc =>
 cond (decide (c=0)) (
  thn (kO (⟨b.nodes,b.ak⟩:Types) (⟨a.host,a.nodes,a.ak,a.next⟩:ay) e) λd =>
  some (d.1,d.2)) <|
 some ((⟨⟨⟨[],[]⟩,[]⟩,[],[],0⟩:ay),c)
def gn(a:List ah)(e:ah->Option Bool):Option Int :=
 cL (a.length<=fuel) <|
 cq (λb (g:Unit) c h =>
  thn (a[b]?) λd =>
  thn (e d) λf =>
  cond f (
   some ((b:Nat):Int)) <|
  c ())
 (a.length-0) 0 () λg =>
 some (-1)
def dU(a:List ah)(b:ah->Option Bool):Option Bool :=
 thn (gn a b) λr2 =>
 some (decide (0<=r2))
def nU(a:ah)(b:aH):Option Bool:=some (decide (a.id<b.next.x0))
def gr(a:List au)(e:au->Option Bool):Option Int :=
 cL (a.length<=fuel) <|
 cq (λb (g:Unit) c h =>
  thn (a[b]?) λd =>
  thn (e d) λf =>
  cond f (
   some ((b:Nat):Int)) <|
  c ())
 (a.length-0) 0 () λg =>
 some (-1)
def fm(a:List au)(b:au->Option Bool):Option Bool :=
 thn (gr a b) λr2 =>
 some (decide (0<=r2))
def nV(a:au)(b:aH):Option Bool:=some (decide (a.id<b.next.x0))
def n9(a:aH):Option Bool :=
 cond (decide (a.next.x0<=a.next.x1)) (
  thn (dU a.aP (λx1=>nU x1 (⟨a.ax,a.aA,a.aP,a.aM,a.values,a.next⟩:aH))) λr2 =>
  cond r2 (
   some false) <|
  thn (fm a.aM (λc=>nV c (⟨a.ax,a.aA,a.aP,a.aM,a.values,a.next⟩:aH))) λb =>
  some (!b)) <|
 some false
def lW(d:Types)(a:ay)(c:aH)(b:aH):Option Int :=
 thn (some [c,b]) λh =>
 cL (2<=fuel) <|
 cq (λg (l:Unit) k m =>
  thn (h[g]?) λf =>
  thn (fz (⟨d.nodes,d.ak⟩:Types) (⟨a.host,a.nodes,a.ak,a.next⟩:ay) f) λe =>
  cond (decide (e.2=0)) (
   k ()) <|
  some e.2)
 (2-0) 0 () λl =>
 thn (n9 c) λi =>
 cond i (
  thn (n9 b) λj =>
  cond j (
   cond (decide (1000000<(i64.wrap ((i64.wrap (c.next.x1+b.next.x1))-b.next.x0)))) (
    some 6) <|
   some 0) <|
  some 8) <|
 some 8
def lR(a:ah)(b:Int):Option Bool:=some (decide (a.id=b))
def jA(a:aH)(b:Int):Option Bool :=
 thn (dU a.ax (λd=>lR d b)) λc =>
 some c
def iF(a:List (List aG)):Option (List aG) :=
 cL (a.length<=fuel) <|
 cq (λf (b:Int) h l =>
  thn (a[f]?) λd =>
  cond (decide ((i64.wrap (b+((d.length:Nat):Int)))<0)) (
   none) <|
  h (i64.wrap (b+((d.length:Nat):Int))))
 (a.length-0) 0 0 λb =>
 thn (mP ([]:List aG) b) λi =>
 cL (a.length<=fuel) <|
 cq (λg (c:(List aG)) j k =>
  thn (a[g]?) λe =>
  cL (c.length+e.length<=68719476736) <|
  j (c++e))
 (a.length-0) 0 i λc =>
 some c
def jL(c:aH)(d:aH):Option (List aG) :=
 thn (some [(⟨c,d⟩:xX),(⟨d,c⟩:xX)]) λl2 =>
 cL (2<=fuel) <|
 cq (λv (g:(List aG)×(List aG)) s J =>
  thn (l2[v]?) λa =>
  cL (a.x1.aM.length<=fuel) <|
  cq (λw (l:(List aG)) D K =>
   thn (a.x1.aM[w]?) λo =>
   thn (some [o.src,o.dst]) λx =>
   cL (2<=fuel) <|
   cq (λi8 (h:(List aG)) q H =>
    thn (x[i8]?) λp =>
    thn (jA a.x0 p) λE =>
    cond E (
     cL (h.length+1<=68719476736) <|
     q (h++[(⟨1,p,(-1)⟩:aG)])) <|
    q h)
   (2-0) 0 l λh =>
   D h)
  (a.x1.aM.length-0) 0 g.1 λl =>
  cL (a.x1.values.length<=fuel) <|
  cq (λt (f:(List aG)) n F =>
   thn (a.x1.values[t]?) λm =>
   thn (jA a.x0 m.id) λy =>
   cond y (
    cL (f.length+1<=68719476736) <|
    n (f++[(⟨2,m.id,m.attr⟩:aG)])) <|
   n f)
  (a.x1.values.length-0) 0 g.2 λf =>
  s (l,f))
 (2-0) 0 (([]:List aG),([]:List aG)) λg =>
 cL (c.values.length<=fuel) <|
 cq (λu (k:(List aG)) r I =>
  thn (c.values[u]?) λe =>
  cL (d.values.length<=fuel) <|
  cq (λi16 (b:(List aG)) i G =>
   thn (d.values[i16]?) λj =>
   cond (decide (e.id=j.id)) (
    cond (decide (e.attr=j.attr)) (
     cond (decide (e.new=j.new)) (
      i b) <|
     cL (b.length+1<=68719476736) <|
     i (b++[(⟨3,e.id,e.attr⟩:aG)])) <|
    i b) <|
   i b)
  (d.values.length-0) 0 k λb =>
  r b)
 (c.values.length-0) 0 ([]:List aG) λk =>
 thn (fu g.1) λz =>
 thn (fu g.2) λA =>
 thn (fu k) λB =>
 thn (iF [z,A,B]) λC =>
 some C
def iK(a:Int)(b:aH)(c:Int):Option Int :=
 cond (decide (b.next.x0<=a)) (
  some (i64.wrap (a+c))) <|
 some a
def lF(b:aH)(a:aH):Option aH :=
 cL (a.aP.length<=fuel) <|
 cq (λh (d:(List ah)) g o =>
  thn (a.aP[h]?) λf =>
  thn (iK f.id a (i64.wrap (b.next.x1-b.next.x0))) λj =>
  cL (d.length+1<=68719476736) <|
  g (d++[(⟨j,f.type,f.values⟩:ah)]))
 (a.aP.length-0) 0 ([]:List ah) λd =>
 cL (a.aM.length<=fuel) <|
 cq (λi (e:(List au)) n p =>
  thn (a.aM[i]?) λc =>
  thn (iK c.id a (i64.wrap (b.next.x1-b.next.x0))) λk =>
  thn (iK c.src a (i64.wrap (b.next.x1-b.next.x0))) λl =>
  thn (iK c.dst a (i64.wrap (b.next.x1-b.next.x0))) λm =>
  cL (e.length+1<=68719476736) <|
  n (e++[(⟨k,c.type,l,m⟩:au)]))
 (a.aM.length-0) 0 ([]:List au) λe =>
 some (⟨a.ax,a.aA,d,e,a.values,⟨b.next.x1,(i64.wrap ((i64.wrap (b.next.x1+a.next.x1))-a.next.x0))⟩⟩:aH)
def mS(d:Types)(f:ay)(c:aH)(g:aH):Option (ay×ay×Int) :=
 thn (fz d f c) λa =>
 cond (decide (a.2=0)) (
  thn (lF c g) λh =>
  thn (tL c h) λb =>
  cond (decide (40<(i64.wrap ((i64.wrap (((a.1.nodes.length:Nat):Int)+((b.aP.length:Nat):Int)))-((b.ax.length:Nat):Int))))) (
   some ((⟨(⟨(⟨([]:List Int),([]:List Edge)⟩:eU),([]:List (List Int))⟩:Host),([]:List Int),([]:List Int),0⟩:ay),(⟨(⟨(⟨([]:List Int),([]:List Edge)⟩:eU),([]:List (List Int))⟩:Host),([]:List Int),([]:List Int),0⟩:ay),3)) <|
  cond (decide (80<(i64.wrap ((i64.wrap (((a.1.ak.length:Nat):Int)+((b.aM.length:Nat):Int)))-((b.aA.length:Nat):Int))))) (
   some ((⟨(⟨(⟨([]:List Int),([]:List Edge)⟩:eU),([]:List (List Int))⟩:Host),([]:List Int),([]:List Int),0⟩:ay),(⟨(⟨(⟨([]:List Int),([]:List Edge)⟩:eU),([]:List (List Int))⟩:Host),([]:List Int),([]:List Int),0⟩:ay),3)) <|
  thn (fz d a.1 b) λe =>
  some (a.1,e.1,e.2)) <|
 some ((⟨⟨⟨[],[]⟩,[]⟩,[],[],0⟩:ay),(⟨⟨⟨[],[]⟩,[]⟩,[],[],0⟩:ay),a.2)
def p7(d:Types)(b:ay)(e:aH)(f:aH):Option (ay×Int) :=
 thn (lF e f) λa =>
 thn (fz d b (⟨a.ax,a.aA,a.aP,a.aM,a.values,⟨b.next,a.next.x1⟩⟩:aH)) λc =>
 some (c.1,c.2)
def rz(a:Types)(b:Host):Option Int :=
 thn (uA a b) λr2 =>
 some r2.2
def vj(a:Types)(b:Int)(c:Int):Option Bool :=
 thn (wG a [b,c]) λd =>
 cond (decide (d=0)) (
  thn (Gi a b c) λe =>
  some e) <|
 some false
def lG(k:Types)(c:Host)(g:Int)(h:Bool)(l:Int)(m:Int)(j:Int):Option (List cM) :=
 cL (c.graph.nodes.length<=fuel) <|
 cq (λe (b:(List cM)) d q =>
  thn (c.graph.nodes[e]?) λn =>
  thn (vj k n l) λp =>
  cond p (
   cL (c.graph.ak.length<=fuel) <|
   cq (λo (a:Int) f r =>
    thn (c.graph.ak[o]?) λi =>
    cond (decide (i.type=g)) (
     cond h (
      cond (decide (i.src=((e:Nat):Int))) (
       f (i64.wrap (a+1))) <|
      f a) <|
     cond (decide (i.dst=((e:Nat):Int))) (
      f (i64.wrap (a+1))) <|
     f a) <|
    f a)
   (c.graph.ak.length-0) 0 0 λa =>
   cond (decide (a<m)) (
    cL (b.length+1<=68719476736) <|
    d (b++[(⟨g,((e:Nat):Int),a,h⟩:cM)])) <|
   cond (decide (0<=j)) (
    cond (decide (j<a)) (
     cL (b.length+1<=68719476736) <|
     d (b++[(⟨g,((e:Nat):Int),a,h⟩:cM)])) <|
    d b) <|
   d b) <|
  d b)
 (c.graph.nodes.length-0) 0 ([]:List cM) λb =>
 some b
def nW(a:Types)(d:Host):Option ((List cM)×Int) :=
 thn (rz a d) λr2 =>
 cond (decide (r2=0)) (
  cL (a.ak.length<=fuel) <|
  cq (λe (c:(List cM)) h i =>
   thn (a.ak[e]?) λb =>
   thn (lG a d ((e:Nat):Int) true b.src b.nI b.j9) λf =>
   cL (c.length+f.length<=68719476736) <|
   thn (lG a d ((e:Nat):Int) false b.dst b.tq b.og) λg =>
   cL (c.length+f.length+g.length<=68719476736) <|
   h ((c++f)++g))
  (a.ak.length-0) 0 ([]:List cM) λc =>
  some (c,0)) <|
 some (([]:List cM),r2)
def je(d:Types)(c:ay):Option (List aZ) :=
 thn (nW d c.host) λr2 =>
 cL (r2.1.length<=fuel) <|
 cq (λg (a:(List aZ)) f h =>
  thn (r2.1[g]?) λb =>
  thn (nr c.nodes b.node) λe =>
  cL (a.length+1<=68719476736) <|
  f (a++[(⟨e,b.fq,b.out⟩:aZ)]))
 (r2.1.length-0) 0 ([]:List aZ) λa =>
 some a
def gu(a:List (List aZ)):Option (List aZ) :=
 cL (a.length<=fuel) <|
 cq (λf (b:Int) h l =>
  thn (a[f]?) λd =>
  cond (decide ((i64.wrap (b+((d.length:Nat):Int)))<0)) (
   none) <|
  h (i64.wrap (b+((d.length:Nat):Int))))
 (a.length-0) 0 0 λb =>
 thn (kT ([]:List aZ) b) λi =>
 cL (a.length<=fuel) <|
 cq (λg (c:(List aZ)) j k =>
  thn (a[g]?) λe =>
  cL (c.length+e.length<=68719476736) <|
  j (c++e))
 (a.length-0) 0 i λc =>
 some c
def gH(a:List aZ)(b:aZ):Option Int :=
 cL (a.length<=fuel) <|
 cq (λd (f:Unit) e g =>
  thn (a[d]?) λc =>
  cond (decide (b.id=c.id)&&(decide (b.fq=c.fq)&&(b.out == c.out))) (
   some ((d:Nat):Int)) <|
  e ())
 (a.length-0) 0 () λf =>
 some (-1)
def fH(a:List aZ)(b:aZ):Option Bool :=
 thn (gH a b) λr2 =>
 some (decide (0<=r2))
def mT(a:Types)(f:ay)(h:aH)(i:aH)(j:ay)(k:ay):Option ((List aG)×Int) :=
 thn (p7 a f h i) λe =>
 cond (decide (e.2=0)) (
  thn (je a f) λo =>
  thn (je a j) λp =>
  thn (je a e.1) λq =>
  thn (gu [o,p,q]) λr =>
  thn (je a k) λd =>
  cL (d.length<=fuel) <|
  cq (λl (b:(List aG)) g s =>
   thn (d[l]?) λc =>
   thn (fH r c) λm =>
   cond m (
    g b) <|
   cL (b.length+1<=68719476736) <|
   g (b++[(⟨4,c.id,c.fq⟩:aG)]))
  (d.length-0) 0 ([]:List aG) λb =>
  thn (fu b) λn =>
  some (n,0)) <|
 some (([]:List aG),e.2)
def gI(b:Types)(a:ay)(c:aH)(d:aH):Option ((List aG)×Int) :=
 thn (lW (⟨b.nodes,b.ak⟩:Types) (⟨a.host,a.nodes,a.ak,a.next⟩:ay) c d) λf =>
 cond (decide (f=0)) (
  thn (jL c d) λg =>
  cond (decide (0<((g.length:Nat):Int))) (
   some (g,0)) <|
  thn (mS b a c d) λe =>
  cond (decide (e.2.2=0)) (
   thn (mT b a c d e.1 e.2.1) λh =>
   some (h.1,h.2)) <|
  some (([]:List aG),e.2.2)) <|
 some (([]:List aG),f)
def rA(c:Types)(d:ay)(e:aH)(f:aH):Option (ay×Int) :=
 thn (mS c d e f) λa =>
 cond (decide (a.2.2=0)) (
  thn (mT c d e f a.1 a.2.1) λb =>
  cond (decide (b.2=0)) (
   cond (decide (0<((b.1.length:Nat):Int))) (
    some ((⟨(⟨(⟨([]:List Int),([]:List Edge)⟩:eU),([]:List (List Int))⟩:Host),([]:List Int),([]:List Int),0⟩:ay),11)) <|
   some (a.2.1,0)) <|
  some ((⟨(⟨(⟨([]:List Int),([]:List Edge)⟩:eU),([]:List (List Int))⟩:Host),([]:List Int),([]:List Int),0⟩:ay),b.2)) <|
 some ((⟨⟨⟨[],[]⟩,[]⟩,[],[],0⟩:ay),a.2.2)
def gy(c:Types)(d:ay)(a:aH)(b:aH):Option (ay×Int) :=
 thn (lW c d a b) λe =>
 cond (decide (e=0)) (
  thn (jL a b) λg =>
  cond (decide (0<((g.length:Nat):Int))) (
   some ((⟨(⟨(⟨([]:List Int),([]:List Edge)⟩:eU),([]:List (List Int))⟩:Host),([]:List Int),([]:List Int),0⟩:ay),11)) <|
  thn (rA c d a b) λf =>
  some (f.1,f.2)) <|
 some ((⟨⟨⟨[],[]⟩,[]⟩,[],[],0⟩:ay),e)
def gz(a:List aG)(d:List aG):Option Bool :=
 cond (decide (((a.length:Nat):Int)=((d.length:Nat):Int))) (
  cL (a.length<=fuel) <|
  cq (λe (g:Unit) f h =>
   thn (a[e]?) λb =>
   thn (d[e]?) λc =>
   cond (decide (b.kind=c.kind)&&(decide (b.id=c.id)&&decide (b.attr=c.attr))) (
    f ()) <|
   some false)
  (a.length-0) 0 () λg =>
  some true) <|
 some false
def gZ(a:List Int)(b:List Int):Option Bool :=
 cond (decide (((a.length:Nat):Int)=((b.length:Nat):Int))) (
  cL (a.length<=fuel) <|
  cq (λc (g:Unit) d h =>
   thn (a[c]?) λe =>
   thn (b[c]?) λf =>
   cond (decide (e=f)) (
    d ()) <|
   some false)
  (a.length-0) 0 () λg =>
  some true) <|
 some false
def fI  : Option Bool :=
 thn (iE) λr1 =>
 thn (iy) λr2 =>
 thn (gI r1 r2 (⟨[(⟨1,1,[10]⟩:ah)],[(⟨3,0,0,1⟩:au)],[],[],[],⟨5,5⟩⟩:aH) (⟨[],[],[],[(⟨5,1,1,2⟩:au)],[],⟨5,6⟩⟩:aH)) λb =>
 thn (iy) λd =>
 thn (gy r1 d (⟨[(⟨1,1,[10]⟩:ah)],[(⟨3,0,0,1⟩:au)],[],[],[],⟨5,5⟩⟩:aH) (⟨[],[],[],[],[(⟨2,0,5,7⟩:aQ)],⟨5,5⟩⟩:aH)) λa =>
 cond (decide (b.2=0)) (
  thn (gz b.1 [(⟨1,1,(-1)⟩:aG)]) λe =>
  cond e (
   cond (decide (a.2=0)) (
    thn (gZ a.1.nodes [0,2]) λf =>
    cond f (
     cond (decide (((a.1.host.values.length:Nat):Int)=2)) (
      thn (a.1.host.values[1]?) λc =>
      thn (gZ c [7]) λg =>
      some g) <|
     some false) <|
    some false) <|
   some false) <|
  some false) <|
 some false
def jI(a:List Int)(b:Int):Option Bool :=
 cL (a.length<=fuel) <|
 cq (λe (f:Unit) c g =>
  thn (a[e]?) λd =>
  cond (decide (d=b)) (
   some true) <|
  c ())
 (a.length-0) 0 () λf =>
 some false
def dP(b:List Int)(c:List Int):Option Int :=
 iter (λ(a:Int) g f =>
  cond (decide (a<((b.length:Nat):Int))) (
   cond (decide (a<((c.length:Nat):Int))) (
    thn (nr b a) λd =>
    thn (nr c a) λe =>
    cond (decide (d=e)) (
     g (i64.wrap (a+1))) <|
    some (i64.wrap (d-e))) <|
   f a) <|
  f a)
 fuel 0 λa =>
 some (i64.wrap (((b.length:Nat):Int)-((c.length:Nat):Int)))
def b9(c:eU)(h:Int)(i:Int):Option (List Int) :=
 cL (c.ak.length<=fuel) <|
 cq (λf (a:(List Int)) e m =>
  thn (c.ak[f]?) λd =>
  cond (decide (d.src=h)) (
   cond (decide (d.dst=i)) (
    iter (λ(b:Int) l g =>
     cond (decide (0<b)) (
      thn (nr a (i64.wrap (b-1))) λj =>
      thn (nr c.ak j) λk =>
      cond (decide (d.type<k.type)) (
       l (i64.wrap (b-1))) <|
      g b) <|
     g b)
    fuel ((a.length:Nat):Int) λb =>
    cL ((0:Int)<=0/\0<=b/\b<=(a.length:Int)) <|
    cL ((a.take b.toNat).length<=68719476736) <|
    cL ((a.take b.toNat).length+1<=68719476736) <|
    cL ((0:Int)<=b/\b<=((a.length:Nat):Int)/\((a.length:Nat):Int)<=(a.length:Int)) <|
    cL ((a.take b.toNat).length+1+(a.drop b.toNat).length<=68719476736) <|
    e (((a.take b.toNat)++[((f:Nat):Int)])++(a.drop b.toNat))) <|
   e a) <|
  e a)
 (c.ak.length-0) 0 ([]:List Int) λa =>
 some a
def c9(c:eU)(a:List Int):Option (List Int) :=
 cL (a.length<=fuel) <|
 cq (λg (b:(List Int)) d h =>
  thn (a[g]?) λe =>
  thn (nr c.ak e) λf =>
  cL (b.length+1<=68719476736) <|
  d (b++[f.type]))
 (a.length-0) 0 [((a.length:Nat):Int)] λb =>
 some b
def iz:Nat->Host->Host->(List Int) ->  Option ((List Int)×Bool)
  |0,_,_,_=>none
  |n+1,d,c,b =>
    cond (decide (((b.length:Nat):Int)=((d.graph.nodes.length:Nat):Int))) (
     some (b,true)) <|
    cL (c.graph.nodes.length<=fuel) <|
    cq (λe (B:Unit) f C =>
     thn (jI b ((e:Nat):Int)) λz =>
     cond z (
      f ()) <|
     thn (d.graph.nodes[b.length]?) λk =>
     thn (c.graph.nodes[e]?) λl =>
     cond (decide (k=l)) (
      thn (d.values[b.length]?) λm =>
      thn (c.values[e]?) λo =>
      thn (dP m o) λA =>
      cond (decide (A=0)) (
       cL (b.length<=68719476736) <|
       cL (b.length+1<=68719476736) <|
       iter (λ(a:Bool×Int) j g =>
        cond (decide (a.2<=((b.length:Nat):Int))) (
         cond a.1 (
          thn (b9 d.graph a.2 ((b.length:Nat):Int)) λp =>
          thn (c9 d.graph p) λq =>
          thn (nr (b++[((e:Nat):Int)]) a.2) λh =>
          thn (b9 c.graph h ((e:Nat):Int)) λr =>
          thn (c9 c.graph r) λs =>
          thn (dP q s) λt =>
          cond (decide (t=0)) (
           thn (b9 d.graph ((b.length:Nat):Int) a.2) λu =>
           thn (c9 d.graph u) λv =>
           thn (b9 c.graph ((e:Nat):Int) h) λw =>
           thn (c9 c.graph w) λx =>
           thn (dP v x) λy =>
           j ((decide (y=0)),(i64.wrap (a.2+1)))) <|
          j (false,(i64.wrap (a.2+1)))) <|
         g (a.1,a.2)) <|
        g (a.1,a.2))
       fuel (true,0) λa =>
       cond a.1 (
        thn (iz n d c (b++[((e:Nat):Int)])) λi =>
        cond i.2 (
         some (i.1,true)) <|
        f ()) <|
       f ()) <|
      f ()) <|
     f ())
    (c.graph.nodes.length-0) 0 () λB =>
    some (([]:List Int),false)
def fZ(h:Types)(b:Host)(c:Host):Option (nK×Int) :=
 thn (fB h b) λm =>
 cond (decide (m.2=0)) (
  thn (fB h c) λn =>
  cond (decide (n.2=0)) (
   cond (decide (8<((b.graph.nodes.length:Nat):Int))) (
    some ((⟨([]:List Int),([]:List Int)⟩:nK),3)) <|
   cond (decide (8<((c.graph.nodes.length:Nat):Int))) (
    some ((⟨([]:List Int),([]:List Int)⟩:nK),3)) <|
   thn (iz fuel b c ([]:List Int)) λa =>
   cond a.2 (
    cond (decide (((b.graph.nodes.length:Nat):Int)=((c.graph.nodes.length:Nat):Int))) (
     cL (b.graph.ak.length<=68719476736) <|
     cL (a.1.length<=fuel) <|
     cq (λk (f:(List Int)) t x =>
      cL (a.1.length<=fuel) <|
      cq (λl (g:(List Int)) o v =>
       thn (b9 b.graph ((k:Nat):Int) ((l:Nat):Int)) λe =>
       thn (a.1[k]?) λr =>
       thn (a.1[l]?) λu =>
       thn (b9 c.graph r u) λs =>
       cL (e.length<=fuel) <|
       cq (λj (d:(List Int)) p w =>
        thn (e[j]?) λi =>
        thn (s[j]?) λq =>
        thn (nr d i) λy =>
        p (d.set i.toNat q))
       (e.length-0) 0 g λd =>
       o d)
      (a.1.length-0) 0 f λg =>
      t g)
     (a.1.length-0) 0 (List.replicate b.graph.ak.length 0) λf =>
     some ((⟨a.1,f⟩:nK),0)) <|
    some ((⟨([]:List Int),([]:List Int)⟩:nK),10)) <|
   some ((⟨([]:List Int),([]:List Int)⟩:nK),10)) <|
  some ((⟨([]:List Int),([]:List Int)⟩:nK),n.2)) <|
 some ((⟨[],[]⟩:nK),m.2)
def eV(h:bS):Option Bool :=
 thn (fG h) λr1 =>
 thn (fI) λr2 =>
 cond r2 (
  cond r1.2.2 (
   thn (gI r1.1 r1.2.1.a r1.2.1.p r1.2.1.q) λb =>
   thn (gI r1.1 r1.2.1.a r1.2.1.q r1.2.1.p) λc =>
   cond (decide (b.2=0)) (
    cond (decide (c.2=0)) (
     cond (decide (0<((b.1.length:Nat):Int))) (
      thn (b.1[0]?) λi =>
      cond (decide (i.kind<4)) (
       thn (gz b.1 c.1) λm =>
       some m) <|
      thn (gy r1.1 r1.2.1.a r1.2.1.p r1.2.1.q) λd =>
      thn (gy r1.1 r1.2.1.a r1.2.1.q r1.2.1.p) λg =>
      cond (decide (d.2=g.2)) (
       cond (decide (d.2=0)) (
        cond (decide (7<((d.1.nodes.length:Nat):Int))) (
         some (decide (((b.1.length:Nat):Int)=((c.1.length:Nat):Int)))) <|
        thn (fZ r1.1 d.1.host g.1.host) λn =>
        cond (decide (n.2=0)) (
         some (decide (d.1.next=g.1.next))) <|
        some false) <|
       some (decide (((b.1.length:Nat):Int)=((c.1.length:Nat):Int)))) <|
      some false) <|
     thn (gy r1.1 r1.2.1.a r1.2.1.p r1.2.1.q) λe =>
     thn (gy r1.1 r1.2.1.a r1.2.1.q r1.2.1.p) λf =>
     cond (decide (e.2=f.2)) (
      cond (decide (e.2=0)) (
       cond (decide (7<((e.1.nodes.length:Nat):Int))) (
        some (decide (((b.1.length:Nat):Int)=((c.1.length:Nat):Int)))) <|
       thn (fZ r1.1 e.1.host f.1.host) λj =>
       cond (decide (j.2=0)) (
        some (decide (e.1.next=f.1.next))) <|
       some false) <|
      some (decide (((b.1.length:Nat):Int)=((c.1.length:Nat):Int)))) <|
     some false) <|
    some false) <|
   some false) <|
  thn (fI) λk =>
  some k) <|
 thn (fI) λl =>
 some l
end
end Go.Proofs.YtnnpmiiegnedeaaGreat
namespace Go.SortM
open Go.cv
open Go.RowKit Go.Shelf Go.Sort Go.Proofs
variable{P:Program}{ρ:Ren}{α:Type} [Inhabited α]
def encV(enc:α->List Value)(x:α):List PV:=(enc x).map .val
omit [Inhabited α] in
theorem flat_encV(enc:α->List Value)(d:List α):(d.map (encV enc)).flatten=(d.flatMap enc).map .val:=by
 induction d with
 |nil=>rfl
 |cons x r a=>rw[List.map_cons,List.flatten_cons,a,List.flatMap_cons,List.map_append];rfl
omit [Inhabited α] in
theorem flatMap_eq(enc:α->List Value)(d:List α):d.flatMap enc=(d.map enc).flatten:=by rw[List.flatMap_def]
theorem flatK_list{enc:α->List Value}{k:Nat}(h:∀x,(enc x).length=k)(c:0<k)(d:List α):flatK enc k d.toArray=(d.flatMap enc).toArray:=by
 have g:∀e∈d.map enc,e.length=k:=λe r=>by obtain⟨x,_,rfl⟩:=List.mem_map.1 r;exact h x
 have s:(d.flatMap enc).length=d.length * k:=by rw[flatMap_eq,bG g,List.length_map]
 apply Array.ext
 ·simp[s]
 ·intro t f p;have j:t<d.length * k:=by simpa using f
  have b:t / k<d.length:=(Nat.div_lt_iff_lt_mul c).2 j;have i:t % k<k:=Nat.mod_lt _ c;have l:(flatK enc k d.toArray)[t]=(flatK enc k d.toArray)[t]!:=(getElem!_pos _ t f).symm;rw[l,get_flatK enc k d.toArray t (by simpa using j)];have a:=iH g (t / k) (t % k) (by simpa using b) i;rw[Nat.div_add_mod' t k,<-flatMap_eq] at a;have m:(d.map enc).getD (t / k) []=enc d[t / k]:=by simp[b]
  rw[m] at a;have n:d.toArray[t / k]! = d[t / k]:=by simp[b]
  rw[n];have hl:t % k<(enc d[t / k]).length:=by rw[h];exact i
  have q:t<(d.flatMap enc).length:=by simpa using p
  rw[List.getElem?_eq_getElem q,List.getElem?_eq_getElem hl] at a;have o:=Option.some.inj a;rw[getElem!_pos (enc d[t / k]) (t % k) hl];simpa using o.symm
theorem grown_sortWorldK(enc:α->List Value)(k:Nat)(w:World)(g n:Nat)(d:Array α)(os:Array Obj):w.grownBy (sortWorldK enc k w g 0 n d os) (some g) where
 os:=rfl
 tape:=rfl
 output:=rfl
 size:=by simp[sortWorldK,grow,putRowK,putRow,mapBlock,Sort.ahead]
 block:=λb a c=>by
  have:g≠b:=λh=>c (by rw[h])
  simp[sortWorldK,grow,putRowK,putRow,mapBlock,Sort.ahead,Array.getElem?_append,a,Array.getElem?_modify,this];rw[Array.getElem_modify,if_neg this]
theorem row_sortWorldK(enc:α->List Value)(k:Nat)(w:World)(g n m:Nat)(d:Array α)(l:Array Obj){a:Array Value}{e:TypeId}(c:w.heap[g]? = some (.cells a e (0,0)))(j:d.size * k=m)(q:m<=a.size) :
  ∃b,(sortWorldK enc k w g 0 n d l).heap[g]? = some (.cells b e (0,0))/\b.size=a.size/\b.toList.take m=(flatK enc k d).toList:=by
 have i:g<w.heap.size:=(Array.getElem?_eq_some_iff.1 c).1;refine⟨putCells id 0 (flatK enc k d) a,?_,by simp[putCells],?_⟩
 ·simp[sortWorldK,grow,putRowK,putRow,mapBlock,Sort.ahead,Array.getElem?_append,i,Array.getElem?_modify,c,onCells];rw[Array.getElem_modify,if_pos rfl,(Array.getElem?_eq_some_iff.1 c).2];rfl
 ·apply List.ext_getElem
  ·simp[putCells,j];omega
  ·intro t o h;have f:t<d.size * k:=by simpa using h
   have r:t<a.size:=by omega
   have p:t<(flatK enc k d).size:=by simpa using f
   simp[putCells,f]
theorem callM_sortFunc(L:SlLaysF0.n6 P ρ)(k:Nat)(D:0<k)(H:∀w,(isAgg (ρ.t 24)).run P w = .ok true w)(zE:∀w,(Go.sizeOf (ρ.t 24)).run P w = .ok k w)(enc:α->List Value)(o:∀x,(enc x).length=k)(E:∀x,∀v∈enc x,v.oneCell'=true)
  (h:α->α->Int) (T:SWO (ltOf h)) (U:∀x y,(ltOf h) x y=false->(ltOf h) y x=false->x=y) (g:FuncId) (N:∀args w,(callFunc g args).run P w = .ok (.enter g args) w)
  (Y:∀x y W,Calls P g #[.agg (enc x).toArray,.agg (enc y).toArray] W λe w'=>e = .returned (.int .i64 (h x y))/\∃q ax,w'=grow (W.drewN q) ax)
  (X:gP P (ρ.f 6)=true) (d:List α) (Z:d.length<4611686018427387904) (v:Nat) (e:TypeId) :
  kZ P (ρ.f 6) v e k (d.map (encV enc)) [.iT (.func g) [] []] (λa c=>a = .dY []/\c=some (.row v e k ((d.mergeSort λx y=>!(ltOf h) y x).map (encV enc)))):=by
 have ai:(d.mergeSort λx y=>!(ltOf h) y x).length=d.length:=List.length_mergeSort _;refine Wu (ws:=(d.mergeSort λx y=>!(ltOf h) y x).flatMap enc) X (by simp[ai]) (λx hx=>?_) (flat_encV enc _) (λu hu=>?_) ?_
 ·obtain⟨y,_,rfl⟩:=List.mem_map.1 hx;simp[encV,o]
 ·obtain⟨y,_,hy⟩:=List.mem_flatMap.1 hu;exact E y u hy
 intro B I w a4 us vs hB hI l a5 i;have am:vs=[.func (.func g) #[] #[]]:=by
  match vs,i with
  | [],i=>have:=i.1;simp at this
  | [x],i =>
   have:=i.2 0 x _ rfl rfl;cases this with
   |iT _ us vs _ _ hl ae _ _=>have K:us=[]:=List.length_eq_zero_iff.1 (by simpa using hl);have M:vs=[]:=List.length_eq_zero_iff.1 (by simpa using ae);subst K M;rfl
  |_ :: _ :: _,i=>have:=i.1;simp at this
 subst am;rcases l.own.2 with ⟨rfl,p⟩|⟨b,cap,r,rfl,g1,s,O,g4,g5,C⟩
 ·have aa:d=[]:=by simpa using p
  subst aa;refine (AnyF.slices_SortFunc_none L none 0 _ w).mono ?_;rintro x w' ⟨rfl,rfl⟩;exact⟨rfl,⟨rfl,rfl,rfl,Nat.le_refl _,λ_ _ _=>rfl⟩,λg z=>by cases z⟩
 ·have p:(d.map (encV enc)).length=d.length:=List.length_map _;rw[p] at O C ⊢;have al:us=d.flatMap enc:=by
   have hl:us.length=(d.flatMap enc).length:=by have Q:=l.own.1;have F:=bG l.all;rw[flat_encV,List.length_map] at F;rw[Q,F]
   apply List.ext_getElem hl;intro j j1 j2;have:=l.val j us[j] (.val (d.flatMap enc)[j]) (List.getElem?_eq_getElem j1) (by rw[flat_encV];simp[j2]);generalize us[j]=u,(d.flatMap enc)[j]=u' at this;cases this;rfl
  have S:HoldsK enc k w b 0 d.toArray:=by
   unfold HoldsK;rw[flatK_list o D,<-al];intro j hj;have G:j<us.length:=by simpa using hj
   refine⟨?_,frozen_of_row w b _ r _ s⟩;rw[Nat.zero_add,gB s];have:us[j]? = r.toList[j]?:=by rw[<-C,List.getElem?_take,if_pos];have:=l.own.1;rw[p] at this;omega
   have R:r[j]? = us[j]?:=by rw[this];simp
   rw[R,List.getElem?_eq_getElem G];simp[G]
  have V:b<w.heap.size:=(Array.getElem?_eq_some_iff.1 s).1;refine (AnyQ.slices_SortFunc_total L k H zE enc o E h T g #[] b 0 cap d.toArray w N (λm A dk _ x y=>Y x y _) S V (by simpa using Z) U).mono ?_;rintro x w' ⟨rfl,n,A,rfl⟩;refine⟨rfl,grown_sortWorldK enc k w b n _ A,λg z aA e' ab af=>?_⟩;have:b=g:=by simpa[Value.ownBlock] using z
  subst this;obtain⟨J,k1,k2,k3⟩:=row_sortWorldK enc k w b n (d.length * k) (d.toArray.toList.mergeSort λx y=>!(ltOf h) y x).toArray A ab (by simp) af;refine⟨J,k1,k2,?_⟩;rw[k3,flatK_list o D]
end Go.SortM
namespace Go.cv
open Go.RowKit
variable{P:Program}
theorem aqi{f:FuncId}{v:Nat}{e:TypeId}{sz:Nat}{es es':List (List PV)}{ps:List PV}(V:gP P f=true)(s:es'.length=es.length)(aa:∀x∈es',x.length=sz)
  (h:∀ (B:Nat) (I:Mem) (w:World) (m:Value) (us vs:List Value),B<=w.heap.size->I.en w->sZ w B I m e sz es us->m.oneCell'=true->qs I vs ps ->
   ∃ws:List Value,ws.length=es.length * sz/\(∀u∈ws,u.oneCell'=true)/\(∀ (j:Nat) u c,ws[j]? = some u->es'.flatten[j]? = some c->VR I u c) /\
   Calls P f (m :: vs).toArray w λx w'=>x = .returned (.tuple #[])/\JO w w' m (es.length * sz) ws) :
  kZ P f v e sz es ps (λa c=>a = .dY []/\c=some (.row v e sz es')):=by
 refine⟨V,λB I w m us vs E y q T hv=>?_⟩;obtain⟨ws,ae,Y,ad,J⟩:=h B I w m us vs E y q T hv;refine J.mono ?_;rintro x w' ⟨rfl,n,Z⟩;let L:bB:=λi=>if i=1000000 then some (.row v m sz) else none
 have r:∀i l,L i=some l->i=1000000/\l = .row v m sz:=λi l h=>by
  simp only[L] at h;split at h
  ·rename_i p;exact⟨p,by simpa using h.symm⟩
  ·cases h
 have F:∀b,m.ownBlock=some b->B<=b/\b<w.heap.size:=λb d=>wA q.own d
 refine⟨.tuple #[],.dY [],bn cu 1000000 (.row v e sz es'),I,L,rfl,⟨rfl,by simp[bn]⟩,.dY [] [] rfl (by simp),?_⟩;exact
 {below:=⟨n.os,n.tape,n.output,n.size,λk H=>n.block k (Nat.lt_of_lt_of_le H E) λd=>by have:=(F k d.symm).1;have:k<B:=H;omega⟩
  mem:=y.keep λb ⟨o,u,z⟩=>n.block b (y.lt z) λd=>by rw[q.free b d.symm o] at z;cases z
  lH:=Mem.ep I
  mF:=λ_ _ _ _=>rfl
  frame:=λb d X=>n.block b d λU=>X U.symm
  loc:=dQ.refl _
  jQ:=λid l b hl d=>by obtain⟨_,rfl⟩:=r id l hl;exact .inr d
  size:=rfl
  env:=λt=>.dead _
  dom:=λi l hl=>by obtain⟨rfl,rfl⟩:=r i l hl;exact⟨.row v e sz es',by simp[bn]⟩
  chunk:=λi A G=>by
   by_cases p:i=1000000
   ·subst p;have:Chunk.row v e sz es'=A:=by simpa[bn] using G
    subst this;refine⟨m,ws,by simp[L],⟨by rw[s];exact ae,?_⟩,q.pos,aa,ad,Y,q.free⟩;rcases q.own.2 with ⟨N,O⟩|⟨g,cap,K,rfl,Q,R,C,S,D,g6⟩
    ·exact .inl ⟨N,by rw[s];exact O⟩
    ·obtain⟨M,k1,k2,k3⟩:=Z g rfl K e R (by rw[D];exact Nat.mul_le_mul_right sz C);exact .inr ⟨g,cap,M,by rw[s],Q,k1,by rw[s];exact C,S,by rw[k2];exact D,by rw[s];exact k3⟩
   ·have:cu i=some A:=by simpa[bn,p] using G
    cases this
  gh:=λi l b hl d=>by obtain⟨rfl,rfl⟩:=r i l hl;have:=F b d;exact⟨this.1,Nat.lt_of_lt_of_le this.2 n.size⟩
  apart:=λi j li lj b p W _ _=>by rw[(r i li p).1,(r j lj W).1] }
end Go.cv
namespace Go.SortM
open Go.cv
open Go.RowKit Go.Shelf Go.Sort Go.Proofs
variable{P:Program}{ρ:Ren}{α:Type} [Inhabited α]
def Raw(enc:α->List PV)(k:Nat)(x:α)(xs:List Value):Prop:=xs.length=k/\∀ (j:Nat) u c,xs[j]? = some u->(enc x)[j]? = some c->∃I,VR I u c
theorem chunks_get{us:List Value}{n k:Nat}(h:us.length=n * k)(i j:Nat)(b:i<n)(a:j<k):((us.drop (i * k)).take k)[j]? = us[i * k+j]?:=by rw[List.getElem?_take,if_pos a,List.getElem?_drop]
theorem chunks_len{us:List Value}{n k:Nat}(h:us.length=n * k)(i:Nat)(a:i<n):((us.drop (i * k)).take k).length=k:=by have:(i+1) * k<=n * k:=Nat.mul_le_mul_right _ a;rw[Nat.add_mul] at this;rw[List.length_take,List.length_drop];omega
theorem chunks_all{us:List Value}{n k:Nat}(c:0<k)(h:us.length=n * k):(List.finRange n).flatMap (λi=>(us.drop (i.1 * k)).take k)=us:=by
 have d:∀e∈(List.finRange n).map λi=>(us.drop (i.1 * k)).take k,e.length=k:=λe j=>by obtain⟨i,_,rfl⟩:=List.mem_map.1 j;exact chunks_len h i.1 i.2
 rw[List.flatMap_def];apply List.ext_getElem?;intro t;rcases Nat.lt_or_ge t (n * k) with ht|ht
 ·have a:t / k<n:=(Nat.div_lt_iff_lt_mul c).2 ht;have f:t % k<k:=Nat.mod_lt _ c;have b:=iH d (t / k) (t % k) (by simpa using a) f;rw[Nat.div_add_mod' t k] at b;rw[b];have g:((List.finRange n).map λi=>(us.drop (i.1 * k)).take k).getD (t / k) []=(us.drop (t / k * k)).take k:=by simp[a]
  rw[g,chunks_get h _ _ a f,Nat.div_add_mod' t k]
 ·rw[List.getElem?_eq_none (by rw[bG d,List.length_map,List.length_finRange];exact ht),List.getElem?_eq_none (by omega)]
omit [Inhabited α] in
theorem rel_flatMap{I:Mem}{β:Type}(f:β->List Value)(g:β->List PV)(hl:∀x,(f x).length=(g x).length)(d:∀x,∀ (j:Nat) u c,(f x)[j]? = some u->(g x)[j]? = some c->VR I u c):∀l:List β,∀ (j:Nat) u c,(l.flatMap f)[j]? = some u->(l.map g).flatten[j]? = some c->VR I u c
 | [],j,u,c,h,_=>by simp at h
 |x :: r,j,u,c,b,a=>by rw[List.flatMap_cons] at b;rw[List.map_cons,List.flatten_cons] at a;exact Ev (hl x) (d x) (rel_flatMap f g hl d r) j u c b a
theorem callM_sortG(L:SlLaysF0.n6 P ρ)(k:Nat)(S:0<k)(aE:∀w,(isAgg (ρ.t 24)).run P w = .ok true w)(zE:∀w,(Go.sizeOf (ρ.t 24)).run P w = .ok k w)(enc:α->List PV)(X:∀x,(enc x).length=k)
  (A:α->α->Int) (T:SWO (ltOf A)) (g:FuncId) (eg:∀args w,(callFunc g args).run P w = .ok (.enter g args) w)
  (a3:∀x y xs ys W,Raw enc k x xs->Raw enc k y ys->Calls P g #[.agg xs.toArray,.agg ys.toArray] W λe w'=>e = .returned (.int .i64 (A x y))/\∃q bm,w'=grow (W.drewN q) bm)
  (G:gP P (ρ.f 6)=true) (d:List α) (hd:d.length<4611686018427387904) (hT:∀i j,i<d.length->j<d.length->(ltOf A) (d.getD i default) (d.getD j default)=false->(ltOf A) (d.getD j default) (d.getD i default)=false->i=j) (v:Nat) (e:TypeId) :
  kZ P (ρ.f 6) v e k (d.map enc) [.iT (.func g) [] []] (λa c=>a = .dY []/\c=some (.row v e k ((d.mergeSort λx y=>!(ltOf A) y x).map enc))):=by
 have a8:(d.mergeSort λx y=>!(ltOf A) y x).length=d.length:=List.length_mergeSort _;refine aqi G (by simp[a8]) (λx hx=>?_) ?_
 ·obtain⟨y,_,rfl⟩:=List.mem_map.1 hx;exact X y
 intro B I w bN us vs hB hI N b0 E;have bc:vs=[.func (.func g) #[] #[]]:=by
  match vs,E with
  | [],E=>have:=E.1;simp at this
  | [x],E =>
   have:=E.2 0 x _ rfl rfl;cases this with
   |iT _ us vs _ _ hl a7 _ _=>have Q:us=[]:=List.length_eq_zero_iff.1 (by simpa using hl);have J:vs=[]:=List.length_eq_zero_iff.1 (by simpa using a7);subst Q J;rfl
  |_ :: _ :: _,E=>have:=E.1;simp at this
 subst bc;have hn:(d.map enc).length=d.length:=List.length_map _;rcases N.own.2 with ⟨rfl,ba⟩|⟨b,cap,O,rfl,g1,R,g3,g4,g5,g6⟩
 ·have U:d=[]:=by simpa using ba
  subst U;refine⟨[],by simp,by simp,by simp,(AnyF.slices_SortFunc_none L none 0 _ w).mono ?_⟩;rintro x w' ⟨rfl,rfl⟩;exact⟨rfl,⟨rfl,rfl,rfl,Nat.le_refl _,λ_ _ _=>rfl⟩,λg K=>by cases K⟩
 ·rw[hn] at g3 g6 ⊢;rcases Nat.eq_zero_or_pos d.length with H|hpos
  ·have U:d=[]:=List.length_eq_zero_iff.1 H;subst U;refine⟨[],by simp,by simp,by simp,(AnyF.slices_SortFunc_none L (some ⟨b,0,none⟩) cap _ w).mono ?_⟩;rintro x w' ⟨rfl,rfl⟩;refine⟨rfl,⟨rfl,rfl,rfl,Nat.le_refl _,λ_ _ _=>rfl⟩,λg K ab e' V ai=>⟨ab,V,rfl,?_⟩⟩;simp
  have Y:us.length=d.length * k:=by have:=N.own.1;rw[hn] at this;exact this
  let h:Fin d.length->List Value:=λi=>(us.drop (i.1 * k)).take k
  let f:Fin d.length->α:=λi=>d.getD i.1 default
  have a5:(List.finRange d.length).map f=d:=by
   apply List.ext_getElem
   ·simp
   ·intro t F o;simp[f,o]
  haveI:Inhabited (Fin d.length):=⟨⟨0,hpos⟩⟩
  have D:∀i,(h i).length=k:=λi=>chunks_len Y i.1 i.2
  have ae:∀i,∀u∈h i,u.oneCell'=true:=λi u C=>N.one u (List.mem_of_mem_drop (List.mem_of_mem_take C))
  have a1:∀z∈d.map enc,z.length=k:=λz H=>by obtain⟨y,_,rfl⟩:=List.mem_map.1 H;exact X y
  have am:∀i:Fin d.length,∀ (j:Nat) u c,(h i)[j]? = some u->(enc (f i))[j]? = some c->VR I u c:=λi j u c C G=>by
   have M:j<k:=by have:=(List.getElem?_eq_some_iff.1 C).1;rw[D] at this;exact this
   have Q:us[i.1 * k+j]? = some u:=by rw[<-chunks_get Y i.1 j i.2 M];exact C
   have J:=iH a1 i.1 j (by simp) M;have e3:(d.map enc).getD i.1 []=enc (f i):=by simp[f]
   rw[e3,G] at J;exact N.val _ u c Q J
  have xK:∀i,Raw enc k (f i) (h i):=λi=>⟨D i,λj u c C G=>⟨I,am i j u c C G⟩⟩
  have a6:(List.finRange d.length).flatMap h=us:=chunks_all S Y;have hH:HoldsK h k w b 0 (List.finRange d.length).toArray:=by
   unfold HoldsK;rw[flatK_list D S,a6];intro j M;have af:j<us.length:=by simpa using M
   refine⟨?_,frozen_of_row w b _ O _ R⟩;rw[Nat.zero_add,gB R];have:us[j]? = O.toList[j]?:=by rw[<-g6,List.getElem?_take,if_pos];omega
   have h7:O[j]? = us[j]?:=by rw[this];simp
   rw[h7,List.getElem?_eq_getElem af];simp[af]
  have hb:b<w.heap.size:=(Array.getElem?_eq_some_iff.1 R).1;let p:Fin d.length->Fin d.length->Int:=λi j=>A (f i) (f j)
  have aN:SWO (ltOf p) :=
   {irrefl:=λx=>T.irrefl (f x)
    trans:=λx y z F o=>T.trans (f x) (f y) (f z) F o
    ntrans:=λx y z F o=>T.ntrans (f x) (f y) (f z) F o }
  have a0:∀x y,(ltOf p) x y=false->(ltOf p) y x=false->x=y:=λx y F o=>Fin.ext (hT x.1 y.1 x.2 y.2 F o)
  have a9:((List.finRange d.length).mergeSort λx y=>!(ltOf p) y x).map f=d.mergeSort λx y=>!(ltOf A) y x:=by have o:=List.map_mergeSort (r:=λx y=>!(ltOf p) y x) (s:=λx y=>!(ltOf A) y x) (f:=f) (l:=List.finRange d.length) (λa _ b _=>rfl);rw[a5] at o;exact o
  have bb:((List.finRange d.length).mergeSort λx y=>!(ltOf p) y x).length=d.length:=by rw[List.length_mergeSort,List.length_finRange]
  refine⟨((List.finRange d.length).mergeSort λx y=>!(ltOf p) y x).flatMap h,?_,λu C=>?_,?_,?_⟩
  ·have o:∀z∈((List.finRange d.length).mergeSort λx y=>!(ltOf p) y x).map h,z.length=k:=λz H=>by obtain⟨y,_,rfl⟩:=List.mem_map.1 H;exact D y
   rw[List.flatMap_def,bG o,List.length_map,bb]
  ·obtain⟨y,_,hy⟩:=List.mem_flatMap.1 C;exact ae y u hy
  ·rw[<-a9,List.map_map];exact rel_flatMap h (enc ∘ f) (λx=>by rw[D];exact (X _).symm) am _
  ·have al:(List.finRange d.length).toArray.size=d.length:=by simp
   have aa:=AnyQ.slices_SortFunc_total L k aE zE h D ae p aN g #[] b 0 cap (List.finRange d.length).toArray w eg (λm Z dk _ x y=>a3 (f x) (f y) (h x) (h y) _ (xK x) (xK y)) hH hb (by rw[al];exact hd) a0;rw[al] at aa;refine aa.mono ?_;rintro x w' ⟨rfl,n,Z,rfl⟩;refine⟨rfl,grown_sortWorldK h k w b n _ Z,λg K ab e' V ai=>?_⟩;have:b=g:=by simpa[Value.ownBlock] using K
   subst this;obtain⟨c2,k1,k2,k3⟩:=row_sortWorldK h k w b n (d.length * k) ((List.finRange d.length).toArray.toList.mergeSort λx y=>!(ltOf p) y x).toArray Z V (by simp) ai;refine⟨c2,k1,k2,?_⟩;rw[k3,flatK_list D S]
end Go.SortM
namespace Go.Proofs
open Go.Shelf Go.RowKit Go.Lib Go.Sort
theorem YtnnpmiiegnedeaaGreat.au5(a:Int)(W:World):Calls pw 335 #[.int .i64 a] W λe w'=>e = .returned (.bool false)/\w'=W:=by
 have b:(a != a)=false:=by simp
 go_enter func335,ntmps335
 go_wp2
 go_ret
 exact⟨rfl,rfl⟩
theorem YtnnpmiiegnedeaaGreat.KE(a b:Int)(W:World):Calls pw 285 #[.int .i64 a,.int .i64 b] W λe w'=>e = .returned (.int .i64 (YtnnpmiiegnedeaaGreat.qY a b))/\w'=W:=by
 have c:∀args w,(callFunc 335 args).run pw w = .ok (.enter 335 args) w:=enters_of func335 (by kernel_rfl) rfl
 go_enter func285,ntmps285
 go_wp2_with (go_at_call 335;refine (YtnnpmiiegnedeaaGreat.au5 _ _).mono ?_;rintro e w' ⟨rfl,rfl⟩)
 all_goals first
  |rw[show YtnnpmiiegnedeaaGreat.qY a b = -1 from if_pos (by assumption)];go_ret;exact⟨rfl,rfl⟩
  |rw[show YtnnpmiiegnedeaaGreat.qY a b=1 from by unfold YtnnpmiiegnedeaaGreat.qY;rw[if_neg (by omega),if_pos (by assumption)]];go_ret;exact⟨rfl,rfl⟩
  |rw[show YtnnpmiiegnedeaaGreat.qY a b=0 from by unfold YtnnpmiiegnedeaaGreat.qY;rw[if_neg (by omega),if_neg (by omega)]];go_ret;exact⟨rfl,rfl⟩
theorem YtnnpmiiegnedeaaGreat.aqj(x y:YtnnpmiiegnedeaaGreat.ah)(xs a:List Value)(W:World)(f:Go.SortM.Raw YtnnpmiiegnedeaaGreat.ag 3 x xs)(g:Go.SortM.Raw YtnnpmiiegnedeaaGreat.ag 3 y a) :
  Calls pw 224 #[.agg xs.toArray,.agg a.toArray] W λe w'=>e = .returned (.int .i64 (YtnnpmiiegnedeaaGreat.qY x.id y.id))/\∃q i,w'=grow (W.drewN q) i:=by
 have l:∀args w,(callFunc 285 args).run pw w = .ok (.enter 285 args) w:=enters_of func285 (by kernel_rfl) rfl;obtain⟨m,j⟩:=f;obtain⟨o,k⟩:=g;obtain⟨x0,n,rfl⟩:=List.exists_cons_of_length_pos (show 0<xs.length by omega);obtain⟨b,p,rfl⟩:=List.exists_cons_of_length_pos (show 0<a.length by omega);have c:x0 = .int .i64 x.id:=by obtain⟨I,h⟩:=j 0 x0 _ rfl rfl;cases h;rfl
 have d:b = .int .i64 y.id:=by obtain⟨I,h⟩:=k 0 b _ rfl rfl;cases h;rfl
 subst c d
 go_enter func224,ntmps224
 go_wp2_with (go_at_call 285;refine (YtnnpmiiegnedeaaGreat.KE _ _ _).mono ?_;rintro e w' ⟨rfl,rfl⟩)
 go_ret
 exact⟨rfl,0,_,by rw[alloc_eq_grow,alloc_eq_grow,grow_grow];rfl⟩
theorem YtnnpmiiegnedeaaGreat.aqk(x y:YtnnpmiiegnedeaaGreat.au)(xs a:List Value)(W:World)(f:Go.SortM.Raw YtnnpmiiegnedeaaGreat.aj 4 x xs)(g:Go.SortM.Raw YtnnpmiiegnedeaaGreat.aj 4 y a) :
  Calls pw 226 #[.agg xs.toArray,.agg a.toArray] W λe w'=>e = .returned (.int .i64 (YtnnpmiiegnedeaaGreat.qY x.id y.id))/\∃q i,w'=grow (W.drewN q) i:=by
 have l:∀args w,(callFunc 285 args).run pw w = .ok (.enter 285 args) w:=enters_of func285 (by kernel_rfl) rfl;obtain⟨m,j⟩:=f;obtain⟨o,k⟩:=g;obtain⟨x0,n,rfl⟩:=List.exists_cons_of_length_pos (show 0<xs.length by omega);obtain⟨b,p,rfl⟩:=List.exists_cons_of_length_pos (show 0<a.length by omega);have c:x0 = .int .i64 x.id:=by obtain⟨I,h⟩:=j 0 x0 _ rfl rfl;cases h;rfl
 have d:b = .int .i64 y.id:=by obtain⟨I,h⟩:=k 0 b _ rfl rfl;cases h;rfl
 subst c d
 go_enter func226,ntmps226
 go_wp2_with (go_at_call 285;refine (YtnnpmiiegnedeaaGreat.KE _ _ _).mono ?_;rintro e w' ⟨rfl,rfl⟩)
 go_ret
 exact⟨rfl,0,_,by rw[alloc_eq_grow,alloc_eq_grow,grow_grow];rfl⟩
theorem YtnnpmiiegnedeaaGreat.aD2(a b:Int)(B c:Nat)(W:World)(l:W.cell? ⟨B,0,none⟩=some (.int .i64 a))(m:W.cell? ⟨B,1,none⟩=some (.int .i64 b)) :
  Calls pw 184 #[.slice (some ⟨B,0,none⟩) 2 c] W λe w'=>e = .returned (.int .i64 (if a=0 then b else a))/\w'=W:=by
 go_enter func184,ntmps184
 go_wp2
 go_loop [8] (λi=>∃k:Nat,k<=2/\i = .int .i64 k/\(1<=k->a=0)/\(2<=k->b=0)) (λi=>2-(intOf i).toNat)
 case atStart=>exact⟨0,by omega,rfl,λh=>by omega,λh=>by omega⟩
 case round =>
  obtain⟨k,n,rfl,f,g⟩:=hrel;obtain rfl|rfl|rfl:k=0\/k=1\/k=2:=by omega
  ·go_wp2
   all_goals first
    |(go_ret;exact⟨rfl,rfl⟩)
    |exact⟨⟨1,by omega,rfl,λ_=>by simpa using ‹(a != 0)=false›,λh=>by omega⟩,by simp[intOf]⟩
    |(exfalso;simp_all;done)
  ·have d:=f (by omega);subst d
   go_wp2
   all_goals first
    |(go_ret;exact⟨rfl,rfl⟩)
    |exact⟨⟨2,by omega,rfl,λ_=>trivial,λ_=>by simpa using ‹(b != 0)=false›⟩,by simp[intOf]⟩
    |(exfalso;simp_all;done)
  ·have d:=f (by omega);have j:=g (by omega);subst d j
   go_wp2
   all_goals first
    |(go_ret;exact⟨rfl,rfl⟩)
    |(exfalso;simp_all;done)
theorem YtnnpmiiegnedeaaGreat.KF(W:World)(A B:Obj)(a:Array Value)(t:TypeId)(j:Nat){v:Option Value}(h:a[j]? = v):(((W.alloc A).alloc B).alloc (.cells a t)).cell? ⟨W.heap.size+1+1,j,none⟩=v:=by
 have e:W.heap.size+1+1=((W.alloc A).alloc B).heap.size:=by simp
 rw[e,<-h];simp only[World.cell?,World.alloc,Array.getElem?_push_size,Option.isSome_none,Bool.false_eq_true,if_false]
def YtnnpmiiegnedeaaGreat.Cj(x y:YtnnpmiiegnedeaaGreat.aG):Int:=if i64.wrap (x.id-y.id)=0 then i64.wrap (x.attr-y.attr) else i64.wrap (x.id-y.id)
theorem YtnnpmiiegnedeaaGreat.azu(x y:YtnnpmiiegnedeaaGreat.aG)(W:World):Calls pw 116 #[.agg #[.int .i64 x.kind,.int .i64 x.id,.int .i64 x.attr],.agg #[.int .i64 y.kind,.int .i64 y.id,.int .i64 y.attr]] W λe w'=>e = .returned (.int .i64 (YtnnpmiiegnedeaaGreat.Cj x y))/\∃q a,w'=grow (W.drewN q) a:=by
 have b:∀args w,(callFunc 184 args).run pw w = .ok (.enter 184 args) w:=enters_of func184 (by kernel_rfl) rfl;have hw:∀n,i64.wrap n=wrap64 n:=λn=>by unfold wrap64;rw[IntKind.wrap_i64]
 unfold YtnnpmiiegnedeaaGreat.Cj;simp only[hw]
 go_enter func116,ntmps116
 go_wp2_with (go_at_call 184;refine (YtnnpmiiegnedeaaGreat.aD2 _ _ _ _ _ (YtnnpmiiegnedeaaGreat.KF _ _ _ _ _ _ rfl) (YtnnpmiiegnedeaaGreat.KF _ _ _ _ _ _ rfl)).mono ?_;rintro e w' ⟨rfl,rfl⟩)
 all_goals
  go_ret
  exact⟨rfl,0,_,by rw[alloc_eq_grow,alloc_eq_grow,alloc_eq_grow,grow_grow,grow_grow];rfl⟩
namespace YtnnpmiiegnedeaaGreat
open Go.cv
theorem x6{α:Type}(f:α->Int)(x y:α):(ltOf λx y=>qY (f x) (f y)) x y=decide (f x<f y):=by
 show decide (qY (f x) (f y)<0)=_;unfold qY;apply decide_eq_decide.2;constructor
 ·intro h;split at h
  ·assumption
  ·split at h<;>omega
 ·intro h;rw[if_pos h];omega
theorem KG{α:Type}(f:α->Int):SWO (ltOf λx y=>qY (f x) (f y)) :=
 {irrefl:=λx=>by rw[x6 f];simp
  trans:=λx y z a b=>by rw[x6 f] at *;simp at *;omega
  ntrans:=λx y z a b=>by rw[x6 f] at *;simp at *;omega }
theorem aj8(d:List ah)(r:d.length<=1000000)(k:∀i j,i<d.length->j<d.length->(d.getD i default).id=(d.getD j default).id->i=j)(v:Nat):kZ pw 238 v 86 3 (d.map ag) [.iT (.func 224) [] []]
  (λa c=>a = .dY []/\c=some (.row v 86 3 ((d.mergeSort λx y=>decide (x.id<=y.id)).map ag))):=by
 have g:∀args w,(callFunc 224 args).run pw w = .ok (.enter 224 args) w:=enters_of func224 (by kernel_rfl) rfl;have n:(λx y:ah=>decide (x.id<=y.id))=λx y=>!(ltOf λx y:ah=>qY x.id y.id) y x:=by
  funext x y;rw[x6 (λx:ah=>x.id)];by_cases h:x.id<=y.id
  ·rw[dr h,gA (by omega)];rfl
  ·rw[gA h,dr (by omega)];rfl
 rw[n];exact Go.SortM.callM_sortG YtnnpmiiegnedeaaGreat.Wy 3 (by decide) isAgg86 sizeOf86 ag (λ_=>rfl) (λx y=>qY x.id y.id) (KG λx:ah=>x.id) 224 g (λx y xs q W o p=>aqj x y xs q W o p) (by kernel_rfl) d (by omega)
  (λi j l m e f=>k i j l m (by rw[x6 (λx:ah=>x.id)] at e f;have a:=dK e;have b:=dK f;omega)) v 86
theorem aj9(d:List au)(r:d.length<=1000000)(k:∀i j,i<d.length->j<d.length->(d.getD i default).id=(d.getD j default).id->i=j)(v:Nat):kZ pw 239 v 88 4 (d.map aj) [.iT (.func 226) [] []]
  (λa c=>a = .dY []/\c=some (.row v 88 4 ((d.mergeSort λx y=>decide (x.id<=y.id)).map aj))):=by
 have g:∀args w,(callFunc 226 args).run pw w = .ok (.enter 226 args) w:=enters_of func226 (by kernel_rfl) rfl;have n:(λx y:au=>decide (x.id<=y.id))=λx y=>!(ltOf λx y:au=>qY x.id y.id) y x:=by
  funext x y;rw[x6 (λx:au=>x.id)];by_cases h:x.id<=y.id
  ·rw[dr h,gA (by omega)];rfl
  ·rw[gA h,dr (by omega)];rfl
 rw[n];exact Go.SortM.callM_sortG YtnnpmiiegnedeaaGreat.WA 4 (by decide) isAgg88 sizeOf88 aj (λ_=>rfl) (λx y=>qY x.id y.id) (KG λx:au=>x.id) 226 g (λx y xs q W o p=>aqk x y xs q W o p) (by kernel_rfl) d (by omega)
  (λi j l m e f=>k i j l m (by rw[x6 (λx:au=>x.id)] at e f;have a:=dK e;have b:=dK f;omega)) v 88
abbrev SC(K:Int):={x:aG // x.kind=K/\oL x}
instance(K:Int):Inhabited (SC K):=⟨⟨⟨K,0,0⟩,rfl,by simp[oL]⟩⟩
theorem aCk{x y:aG}(c:oL x)(d:oL y):decide (Cj x y<0) = !gN y x:=by obtain⟨e,f,g,h⟩:=c;obtain⟨i,j,k,l⟩:=d;have a:i64.wrap (x.id-y.id)=x.id-y.id:=IntWalk.i64_in _ (by omega);have b:i64.wrap (x.attr-y.attr)=x.attr-y.attr:=IntWalk.i64_in _ (by omega);unfold Cj gN;rw[a,b,<-decide_not];apply decide_eq_decide.2;split<;>omega
theorem KH{α:Type}{p:α->Prop} : ∀l:List α,(∀x∈l,p x)->∃d:List {x // p x},d.map Subtype.val=l
 | [],_=>⟨[],rfl⟩
 |x :: r,h=>by
  obtain⟨d,a⟩:=KH r λy b=>h y (List.mem_cons_of_mem _ b)
  exact⟨⟨x,h x List.mem_cons_self⟩ :: d,by rw[List.map_cons,a]⟩
theorem amT(K:Int)(l:List aG)(hl:l.length<=1000000)(A:∀x∈l,x.kind=K/\oL x)(v:Nat):kZ pw 115 v 57 3 (l.map aB) [.iT (.func 116) [] []]
  (λa c=>a = .dY []/\c=some (.row v 57 3 ((l.mergeSort gN).map aB))):=by
 have t:∀args w,(callFunc 116 args).run pw w = .ok (.enter 116 args) w:=enters_of func116 (by kernel_rfl) rfl;obtain⟨d,n⟩:=KH l A;let g:SC K->SC K->Int:=λx y=>Cj x.1 y.1
 have j:∀x y:SC K,ltOf g x y = !gN y.1 x.1:=λx y=>aCk x.2.2 y.2.2
 have u:SWO (ltOf g) :=
  {irrefl:=λx=>by rw[j];simp[gN]
   trans:=λx y z m e=>by rw[j] at *;simp[gN] at *;omega
   ntrans:=λx y z m e=>by rw[j] at *;simp[gN] at *;omega }
 have h:=Go.SortM.callM_sortFunc YtnnpmiiegnedeaaGreat.Ww 3 (by decide) isAgg57 sizeOf57 (λx:SC K=>[Value.int .i64 x.1.kind,Value.int .i64 x.1.id,Value.int .i64 x.1.attr]) (λ_=>rfl) (λx v q=>by simp at q;rcases q with rfl|rfl|rfl<;>rfl) g
  u (λx y m e=>by
   rw[j] at m e;simp[gN] at m e;apply Subtype.ext;have o:=x.2.1;have p:=y.2.1;obtain⟨⟨k,i,a⟩,_⟩:=x;obtain⟨⟨D,C,B⟩,_⟩:=y;simp only[aG.mk.injEq] at *;omega) 116 t (λx y W=>azu x.1 y.1 W) (by kernel_rfl) d (by rw[<-n,List.length_map] at hl;omega) v 57
 have o:d.map (Go.SortM.encV λx:SC K=>[Value.int .i64 x.1.kind,Value.int .i64 x.1.id,Value.int .i64 x.1.attr])=l.map aB:=by rw[<-n,List.map_map];rfl
 have p:(d.mergeSort λx y=>!(ltOf g) y x).map (Go.SortM.encV λx:SC K=>[Value.int .i64 x.1.kind,Value.int .i64 x.1.id,Value.int .i64 x.1.attr])=(l.mergeSort gN).map aB:=by have e:=List.map_mergeSort (r:=λx y:SC K=>!(ltOf g) y x) (s:=gN) (f:=Subtype.val) (l:=d) (λa _ b _=>by rw[j];simp);rw[n] at e;rw[<-e,List.map_map];rfl
 rw[o,p] at h;exact h
end YtnnpmiiegnedeaaGreat
end Go.Proofs
namespace Go.Proofs.YtnnpmiiegnedeaaGreat
open Go.cv
theorem aql(K:Int)(l:List aG)(hl:l.length<=1000000)(b:∀x∈l,x.kind=K/\oL x)(v:Nat):kZ pw 60 v 57 3 (l.map aB) []
  (λa c=>a = .row 1000000 (v+1)/\c=some (.row (v+1) 57 3 ((gT l).map aB))):=by
 have d:(l.mergeSort gN).length=l.length:=List.length_mergeSort _;refine nk [] Ty.mixed func60 rfl (by kernel_rfl) (by simp[ntmps60]) ?_;rw[ntmps60,results60];simp only[go_sem];refine De (amT K l hl b v) (by simp only[go_sem]<;>rfl) (by simp only[go_sem]<;>rfl) (by simp only[go_sem]<;>rfl) (λh=>by cases h) ?_;simp only[go_sem];refine w6 (ZQ (l.mergeSort gN) (by omega) v) (by simp only[go_sem]<;>rfl) (by simp only[go_sem]<;>rfl) (by simp only[go_sem]<;>rfl) (λh=>by cases h) ?_;simp only[go_sem];unfold gT;rw[d]
theorem KI(l:List ah)(m:List au)(hl:l.length<=1000000)(c:m.length<=1000000)(id:Int):aS pw 236 [.eF [.aV (l.map ag),.aV (m.map aj)] 0,.val (.int .i64 id)] (λv=>v = .val (.bool (kI l m id))):=by
 have d:=lD (p:=λn:ah=>decide (n.id=id)) (l:=l);have b:=lD (p:=λn:au=>decide (n.id=id)) (l:=m);unfold kI;rw[<-d,<-b];refine aR [] func236 ntmps236 results236 ?_;simp only[go_sem];refine aX (Gk l hl id) (by simp only[go_sem]<;>rfl) (cc rfl) ?_;simp only[go_sem];cases a:decide (0<=idxOf (λn:ah=>decide (n.id=id)) l)
 ·simp only[go_sem,a];refine aX (Kz m c id) (by simp only[go_sem]<;>rfl) (cc rfl) ?_;simp only[go_sem,a]
 ·simp only[go_sem,a]
theorem aCl(x:ah)(l:List ah)(m:List au)(hl:l.length<=1000000)(a:m.length<=1000000):aS pw 235 [.agg (ag x),.eF [.eF [.aV (l.map ag),.aV (m.map aj)] 0] 0] (λv=>v = .val (.bool (kI l m x.id))):=by refine aR [] func235 ntmps235 results235 ?_;simp only[go_sem,ag];refine aX (KI l m hl a x.id) (by simp only[go_sem]<;>rfl) (cc rfl) ?_;simp only[go_sem]
theorem aCm(x:au)(l:List ah)(m:List au)(hl:l.length<=1000000)(a:m.length<=1000000):aS pw 237 [.agg (aj x),.eF [.eF [.aV (l.map ag),.aV (m.map aj)] 0] 0] (λv=>v = .val (.bool (kI l m x.id))):=by refine aR [] func237 ntmps237 results237 ?_;simp only[go_sem,aj];refine aX (KI l m hl a x.id) (by simp only[go_sem]<;>rfl) (cc rfl) ?_;simp only[go_sem]
theorem azv(a b:List Int)(n:a.length<=1000000)(o:b.length<=1000000):aS pw 23 [.aV (a.map encI),.aV (b.map encI)] (λv=>v = .val (.bool (decide (a=b)))):=by
 refine aR [] func23 ntmps23 results23 ?_;simp only[go_sem];refine aW (λf=>?_) (λf=>?_)
 ·have hl:a.length=b.length:=by have:=b6 f;omega
  simp only[go_sem];refine bL (σ:=Nat) (λx=>(cK (cK (cK (cK gv 0 (.p (.aV (a.map encI)))) 1 (.p (.aV (b.map encI)))) 12 (.p (.val (.int .i64 a.length)))) 13 (.p (.val (.int .i64 x))))) (λx=>cu)
   (λx=>x<=a.length/\∀j,j<x->a.getD j default=b.getD j default) (λx=>a.length-x) 0 ⟨Nat.zero_le _,λj k=>absurd k (Nat.not_lt_zero j)⟩ bY ?_
  rintro x ⟨r,m⟩;simp only[go_sem];refine aK (λl=>?_) (λl=>?_)
  ·have c:x<a.length:=by have:=b6 l;omega
   have d:x<b.length:=by omega
   simp only[go_sem];refine dB [.p,.p,.q,.q,.p,.p,.q,.q,.p] (by kernel_rfl) ?_;simp only[go_sem,getD_map encI c,getD_map encI d,encI];refine⟨c,d,?_⟩;refine aW (λg=>?_) (λg=>?_)
   ·have i:=b6 g;simp only[go_sem,bz c (by omega)];refine bO (x+1) ⟨c,λj k=>?_⟩ (by omega) bY;rcases Nat.lt_succ_iff_lt_or_eq.1 k with h|h
    ·exact m j h
    ·rw[h];exact i
   ·have i:=dK g;simp only[go_sem];have:decide (a=b)=false:=gA λe=>i (by rw[e])
    rw[this]
  ·have:x=a.length:=by have:=dK l;omega
   subst this;simp only[go_sem];have:decide (a=b)=true:=by apply dr;apply List.ext_getElem hl;intro j c d;have:=m j c;simpa[c,d] using this
   rw[this]
 ·have hl:a.length≠b.length:=by have:=dK f;omega
  simp only[go_sem];have:decide (a=b)=false:=gA λe=>hl (by rw[e])
  rw[this]
theorem aCn(a b:ah)(e:a.values.length<=1000000)(f:b.values.length<=1000000):aS pw 231 [.agg (ag a),.agg (ag b)] (λv=>v = .val (.bool (dV a b))):=by
 unfold dV;refine aR [] func231 ntmps231 results231 ?_;simp only[go_sem,ag];cases c:decide (a.id=b.id)
 ·simp only[go_sem,c]
 ·simp only[go_sem,c];cases d:decide (a.type=b.type)
  ·simp only[go_sem,d]
  ·simp only[go_sem,d];refine aX (azv a.values b.values e f) (by simp only[go_sem]<;>rfl) (cc rfl) ?_;simp only[go_sem]
end Go.Proofs.YtnnpmiiegnedeaaGreat
