/- Joined texts, part 8: lemmas for the statement. No condition. -/
import Derived.Test.YtnnpmiiegnedeaaGreatJ7
set_option maxHeartbeats 4000000
set_option linter.unusedSimpArgs false
set_option linter.unusedVariables false
open Nat (reduceEqDiff reduceLT reduceLeDiff reduceMul reduceAdd reduceSub)
open Go.IntKind (i64)
open Go.Proofs.Tryz
namespace Go.Proofs.YtnnpmiiegnedeaaGreat
open Go.cv
def gi(t:Types)(x:ay):List aZ:=(s6 t x.host).map λy=>⟨x.nodes.getD y.node.toNat default,y.fq,y.out⟩
def j3(v:aZ):bJ:=⟨v.id,v.fq,v.out⟩
section
variable{t:Types}{x:ay}
theorem DX{h:Host}{y:cM}(hy:y∈s6 t h):∃k i:Nat,k<t.ak.length/\i<h.graph.nodes.length/\y.fq=(k:Int)/\y.node=(i:Int):=by
 unfold s6 r8 qj at hy;obtain⟨k,a,hy⟩:=List.mem_flatMap.1 hy;have a:=List.mem_range.1 a;rcases List.mem_append.1 hy with hy|hy
 ·obtain⟨i,b,rfl⟩:=List.mem_map.1 hy;exact⟨k,i,a,List.mem_range.1 (List.mem_filter.1 b).1,rfl,rfl⟩
 ·obtain⟨i,b,rfl⟩:=List.mem_map.1 hy;exact⟨k,i,a,List.mem_range.1 (List.mem_filter.1 b).1,rfl,rfl⟩
theorem G6(a:fK t)(b:eX t x):(s6 t x.host).length<=100000:=by
 have e:=a.ak;have f:=b.host.graph.nodes;have:=DL (r8 t x.host.graph) (List.range t.ak.length) [] 80 λk _=>by unfold r8;rw[List.length_append];have c:=lT (t:=t) x.host.graph (k:Int) true (t.ak.getD k default).src (t.ak.getD k default).nI (t.ak.getD k default).j9;have d:=lT (t:=t) x.host.graph (k:Int) false (t.ak.getD k default).dst (t.ak.getD k default).tq (t.ak.getD k default).og;omega
 rw[uR,List.length_range] at this;simp only[List.nil_append,List.length_nil] at this;unfold s6;omega
theorem sV(a:fK t)(b:eX t x):(gi t x).length<=100000:=by unfold gi;rw[List.length_map];exact G6 a b
theorem wk(g:eX t x){v:aZ}(a:v∈gi t x):v.id∈x.nodes/\∃k:Nat,k<t.ak.length/\v.fq=(k:Int):=by
 unfold gi at a;obtain⟨y,h,rfl⟩:=List.mem_map.1 a;obtain⟨k,i,f,d,b,c⟩:=DX h;have e:i<x.nodes.length:=by rw[g.qJ];exact d
 refine⟨?_,k,f,b⟩;rw[c];simp[e]
theorem pq(b:fK t)(a:eX t x)(e:lX x):je t x=some (gi t x):=by
 have hl:=G6 b a;unfold je gi;rw[aT (aqw b a.host e.host),bC (bl (by simp only;omega))];rw[j4 (s6 t x.host) (λy=>[(⟨x.nodes.getD y.node.toNat default,y.fq,y.out⟩:aZ)]) 1 (λ_ _=>by simp) λi c s h l=>?_,GX]
 ·rfl
 ·obtain⟨k,j,n,f,m,d⟩:=DX (l8 c);have g:j<x.nodes.length:=by rw[a.qJ];exact f
  simp only[List.length_nil] at h;rw[b8 c,gO (by omega) (by omega),bC (by omega)];simp[d,g]
theorem wm(b:fK t)(a:eX t x)(e:lX x):dI t x=some ((gi t x).map j3):=by
 have hl:=G6 b a;unfold dI gi;rw[aT (ana b a.host e.host),bC (bl (by simp only;omega))];rw[j4 (s6 t x.host) (λy=>[(⟨x.nodes.getD y.node.toNat default,y.fq,y.out⟩:bJ)]) 1 (λ_ _=>by simp) λi c s h l=>?_,GX]
 ·rw[List.map_map];rfl
 ·obtain⟨k,j,n,f,m,d⟩:=DX (l8 c);have g:j<x.nodes.length:=by rw[a.qJ];exact f
  simp only[List.length_nil] at h;rw[b8 c,gO (by omega) (by omega),bC (by omega)];simp[d,g]
end
def o5(v w:aZ):Bool:=decide (v.id=w.id)&&(decide (v.fq=w.fq)&&(v.out == w.out))
theorem azV(v w:aZ):o5 v w=o5 w v:=by unfold o5;rw[Bool.eq_iff_iff];simp only[Bool.and_eq_true,decide_eq_true_eq,beq_iff_eq];exact⟨λ⟨a,b,c⟩=>⟨a.symm,b.symm,c.symm⟩,λ⟨a,b,c⟩=>⟨a.symm,b.symm,c.symm⟩⟩
def nj(t:Types)(a x z:ay)(v:aZ):Bool:=(gi t a++gi t x++gi t z).any λw=>o5 v w
def A5(t:Types)(a x z y:ay):List aG:=((gi t y).filter λv=>!nj t a x z v).map λv=>⟨4,v.id,v.fq⟩
def ud(t:Types)(a x z y:ay):List aG:=(List.range y.nodes.length).flatMap λi=>((List.range t.ak.length).filter λk:Nat=>(gi t y).any λv=>decide (v.id=y.nodes.getD i default)&&(decide (v.fq=(k:Int)) && !nj t a x z v)).map λk:Nat=>⟨4,y.nodes.getD i default,(k:Int)⟩
section
variable{t:Types}{a x y z:ay}{p q:aH}
theorem G7(s:eX t y):gT (A5 t a x z y)=ud t a x z y:=by
 refine vv (K:=4) (λc l=>?_) ?_ λc=>?_
 ·obtain⟨v,_,rfl⟩:=List.mem_map.1 l;rfl
 ·unfold ud;rw[List.pairwise_flatMap];constructor
  ·intro i _;rw[List.pairwise_map];exact (List.Pairwise.sublist List.filter_sublist List.pairwise_lt_range).imp λh=>.inr ⟨rfl,by simp only;omega⟩
  ·refine List.Pairwise.imp_of_mem ?_ (List.pairwise_lt_range (n:=y.nodes.length));intro i j b f C c l d B;have b:=List.mem_range.1 b;have f:=List.mem_range.1 f;obtain⟨k,_,rfl⟩:=List.mem_map.1 l;obtain⟨m,_,rfl⟩:=List.mem_map.1 B;left;have:=s.ze.2.Ag C f;simpa[b,f] using this
 ·unfold A5 ud;simp only[List.mem_map,List.mem_filter,List.mem_flatMap,List.mem_range,List.any_eq_true,Bool.and_eq_true,decide_eq_true_eq];constructor
  ·rintro⟨v,⟨g,o⟩,rfl⟩;obtain⟨A,k,r,p⟩:=wk s g;obtain⟨i,b,e⟩:=List.getElem_of_mem A;have q:y.nodes.getD i default=v.id:=by rw[<-e];simp[b]
   exact⟨i,b,k,⟨r,v,g,q.symm,p,o⟩,by rw[q,p]⟩
  ·rintro⟨i,b,k,⟨r,v,g,u,w,o⟩,rfl⟩;exact⟨v,⟨g,o⟩,by rw[u,w]⟩
theorem ahC{l:List aZ}(hl:l.length<=1000000)(v:aZ):fH l v=some (l.any λw=>o5 v w):=by
 unfold fH;rw[aT (show gH l v=some (mN (λw=>o5 v w) l) by
  unfold gH;rw[bC (bl (by omega))];exact xq l _ (λi a b=>by rw[b8 a];rfl) rfl),ye]
theorem aJK{l:List aZ}(hl:l.length<=1000000)(v:aZ):gY (l.map j3) (j3 v)=some (l.any λw=>o5 v w):=by
 unfold gY;rw[bC (bl (by rw[List.length_map];omega))];rw[DJ (b:=λw=>o5 v ⟨w.id,w.fq,w.out⟩) (λi a c=>?_) rfl,List.any_map]
 ·rfl
 ·rw[b8 a];congr 1;have:=azV v ⟨(l.map j3)[i].id,(l.map j3)[i].fq,(l.map j3)[i].out⟩;rw[this];rfl
theorem avm{n:Int}(h:0<=n/\n<=1000000):kT ([]:List aZ) n=some []:=uc ⟨rfl,by omega⟩
theorem aqz(x y z:List aZ)(h:x.length<=300000/\y.length<=300000/\z.length<=300000):gu [x,y,z]=some (x++y++z):=by unfold gu;rw[bC (bl (by simp))];show cq _ 3 0 0 _=_;simp only[cq,List.getElem?_cons_zero,List.getElem?_cons_succ,mX];rw[dy (n:=0+((x.length:Nat):Int)) (by omega),gA (by omega),cond_false];rw[dy (n:=0+((x.length:Nat):Int)+((y.length:Nat):Int)) (by omega),gA (by omega),cond_false];rw[dy (n:=0+((x.length:Nat):Int)+((y.length:Nat):Int)+((z.length:Nat):Int)) (by omega),gA (by omega),cond_false];rw[aT (avm (by omega)),bC (bl (by simp))];show cq _ 3 0 [] _=_;simp only[cq,List.getElem?_cons_zero,List.getElem?_cons_succ,mX];rw[bC (by simp;omega),bC (by simp;omega),bC (by simp;omega)];simp
theorem j0.LS(h:j0 t a p q)(b:lX a)(c:jJ q):lX (jk a p q):=by have:=h.aq.A4 b.host c;rw[(DW h).1];exact⟨this.host,by simp only[List.length_map];exact this.nodes,by simp only[List.length_map];exact this.ak⟩
def xA(t:Types)(a:ay)(p q:aH)(y:ay):List aG:=ud t a (bf a p) (jk a p q) y
theorem LU(b:fK t)(h:j0 t a p q)(f:lX a)(g:jJ p)(j:jJ q)(d:eX t y)(m:lX y):mT t a p q (bf a p) y=some (xA t a p q y,0):=by
 have x:=h.ap.A4 f.host g;have z:=h.LS f j;have n1:=sV b h.ap.tk;have F:=sV b h.ap.ok;have G:=sV b (xz h);have H:=sV b d;unfold mT xA;rw[aT (ahB b h f g j),dr rfl,cond_true,aT (pq b h.ap.tk f),aT (pq b h.ap.ok x),aT (pq b (xz h) z),aT (aqz _ _ _ ⟨by omega,by omega,by omega⟩),aT (pq b d m),bC (bl (by omega))];have r:(gi t a++gi t (bf a p)++gi t (jk a p q)).length<=1000000:=by rw[List.length_append,List.length_append];omega
 rw[j4 (gi t y) (λv=>if nj t a (bf a p) (jk a p q) v=true then [] else [(⟨4,v.id,v.fq⟩:aG)]) 1 (λ_ _=>by split<;>simp) λi o s u A=>?_]
 ·have e:((gi t y).flatMap λv=>if nj t a (bf a p) (jk a p q) v=true then [] else [(⟨4,v.id,v.fq⟩:aG)])=A5 t a (bf a p) (jk a p q) y:=by unfold A5;rw[<-l6];congr 1;funext v;cases nj t a (bf a p) (jk a p q) v<;>rfl
  rw[List.nil_append,e];rw[aT (show fu (A5 t a (bf a p) (jk a p q) y)=_ from rj ⟨by
   unfold A5;rw[List.length_map];exact Nat.le_trans (List.length_filter_le _ _) (by omega),4,λc n=>by
    obtain⟨v,w,rfl⟩:=List.mem_map.1 n;obtain⟨l,k,E,B⟩:=wk d (List.mem_filter.1 w).1;have C:=d.small l;have D:=b.ak;exact⟨rfl,by unfold oL;simp only;omega⟩⟩),G7 d]
 ·simp only[List.length_nil] at u;rw[b8 o,aT (ahC r _),bC (by omega)];show cond (nj t a (bf a p) (jk a p q) (gi t y)[i]) _ _=_;cases nj t a (bf a p) (jk a p q) (gi t y)[i]<;>simp
theorem G8{x:ay}(a:lX x):dF x=some x:=by
 have e:=a.nodes;have f:=a.ak;have g:=a.host.graph.nodes;have h:=a.host.graph.ak;have j:=a.host.values;unfold dF;rw[aT (show cE x.host=some x.host by
  unfold cE;rw[aT (show iQ x.host.graph=some x.host.graph by unfold iQ;rw[bC (by omega),bC (by omega)]),bC (bl (by omega))];rw[j4 x.host.values (λl=>[l]) 1 (λ_ _=>by simp) λi b s c d=>?_]
  ·simp
  ·have:=a.host.row _ (l8 b);simp only[List.length_nil] at c;rw[b8 b,bC (by omega),bC (by omega)]),bC (by omega),bC (by omega)]
theorem azW(c:fK t)(h:j0 t a p q)(d:lX a)(A:jJ p)(w:jJ q)(x:eX t y)(G:lX y):iR t a p q y=some (xA t a p q y):=by
  have P:=h.ap.A4 d.host A;have Q:=h.LS d w;have n1:=sV c h.ap.tk;have Z:=sV c h.ap.ok;have n3:=sV c (xz h);have n4:=sV c x;have U:=c.ak;have Y:=x.n40;unfold iR xA;rw[aT (xx c d A),pn h.ap,aT (G8 d),aT (LL h.DR w),aT (azU c h d w)];rw[aT (wm c h.ap.tk d),aT (wm c h.ap.ok P),bC (by simp only[List.length_map];omega),aT (wm c (xz h) Q),bC (by simp only[List.length_map];omega),aT (wm c x G),bC (bl (by omega))];have L:(gi t a++gi t (bf a p)++gi t (jk a p q)).length<=1000000:=by rw[List.length_append,List.length_append];omega
  have M:(gi t a).map j3++(gi t (bf a p)).map j3++(gi t (jk a p q)).map j3=(gi t a++gi t (bf a p)++gi t (jk a p q)).map j3:=by rw[List.map_append,List.map_append]
  rw[M];unfold ud;rw[oe y.nodes.length (λi=>((List.range t.ak.length).filter λk:Nat=>(gi t y).any λv=>decide (v.id=y.nodes.getD i default)&&(decide (v.fq=(k:Int)) && !nj t a (bf a p) (jk a p q) v)).map λk:Nat=>(⟨4,y.nodes.getD i default,(k:Int)⟩:aG)) 1000 (λi o=>by
    rw[List.length_map];refine Nat.le_trans (List.length_filter_le _ _) ?_;rw[List.length_range];omega) λi o s N m=>?_]
  · rfl
  · have H:y.nodes.getD i default=y.nodes[i]:=by simp[o]
    simp only[List.length_nil] at N;have W:s.length<=100000:=by have:1000 * i<=1000 * 40:=Nat.mul_le_mul_left _ (by omega);omega
    rw[H,bC (bl (by omega))];rw[oe t.ak.length (λk=>if ((gi t y).any λv=>decide (v.id=y.nodes[i])&&(decide (v.fq=(k:Int)) && !nj t a (bf a p) (jk a p q) v))=true then [(⟨4,y.nodes[i],(k:Int)⟩:aG)] else []) 1 (λ_ _=>by split<;>simp) λk V z X m=>?_,l6];rw[bC (bl (by rw[List.length_map];omega))];have S:=(sN (O:=List aG) (K:=λr =>
   cond r (
    thn (y.nodes[i]?) λB =>
    cL (z.length+1<=68719476736) <|
    m (z++[(⟨4,B,((k:Nat):Int)⟩:aG)])) <|
   m z) (s:=false) (f:=λC (r:Bool) n T =>
    cond r (
     n true) <|
    thn (((gi t y).map j3)[C]?) λu =>
    thn (y.nodes[i]?) λD =>
    cond (decide (u.id=D)) (
     cond (decide (u.fq=((k:Nat):Int))) (
      thn (gY ((gi t a++gi t (bf a p)++gi t (jk a p q)).map j3) u) λE =>
      n (!E)) <|
     n false) <|
    n false) ((gi t y).map j3) (λb e=>b||(decide (e.id=y.nodes[i])&&(decide (e.fq=(k:Int)) && !nj t a (bf a p) (jk a p q) ⟨e.id,e.fq,e.out⟩))) (λ_ _=>True) trivial λj J b _=>by
      refine⟨λm=>?_,trivial⟩;cases b with
      |true=>rfl
      |false =>
        rw[cond_false,b8 J,b8 o,Bool.false_or];have I:=aJK L ⟨((gi t y).map j3)[j].id,((gi t y).map j3)[j].fq,((gi t y).map j3)[j].out⟩;rw[aT (show gY _ ((gi t y).map j3)[j]=_ from I)];show cond _ (cond _ (m (!nj t a (bf a p) (jk a p q) ⟨((gi t y).map j3)[j].id,((gi t y).map j3)[j].fq,((gi t y).map j3)[j].out⟩)) _) _=_;cases decide (((gi t y).map j3)[j].id=y.nodes[i])<;>cases decide (((gi t y).map j3)[j].fq=(k:Int))<;>rfl).1
    rw[S];have F:∀ (l:List bJ) (b:Bool) (g:bJ->Bool),l.foldl (λb e=>b||g e) b=(b||l.any g):=λl b g=>by
      induction l generalizing b with
      |nil=>simp
      |cons e l R=>rw[List.foldl_cons,R,List.any_cons,Bool.or_assoc]
    rw[F,Bool.false_or,List.any_map];show cond ((gi t y).any λv=>decide (v.id=y.nodes[i])&&(decide (v.fq=(k:Int)) && !nj t a (bf a p) (jk a p q) v)) _ _=_;rw[b8 o,bC (by omega)];cases (gi t y).any λv=>decide (v.id=y.nodes[i])&&(decide (v.fq=(k:Int)) && !nj t a (bf a p) (jk a p q) v)<;>simp
theorem xB(h:(fL t a p q).2=0):fL t a p q=(bf (bf a p) (bK p q),0)/\bH t (bf a p) (bK p q):=by
 unfold fL at h ⊢;split at h
 ·cases h
 ·rename_i b;rw[if_neg b];exact⟨pn (oc.1 h),oc.1 h⟩
def oS(t:Types)(a:ay)(p q:aH):List aG×Int :=
 if oP t a p q≠0 then ([],oP t a p q)
 else if 0<(ji a p q).length then (ji a p q,0)
 else if (fL t a p q).2≠0 then ([],(fL t a p q).2)
 else (xA t a p q (fL t a p q).1,0)
def Bz(t:Types)(a:ay)(p q:aH):ay×Int :=
 if (fL t a p q).2≠0 then (kV,(fL t a p q).2)
 else if 0<(xA t a p q (fL t a p q).1).length then (kV,11)
 else ((fL t a p q).1,0)
def AE(t:Types)(a:ay)(p q:aH):ay×Int :=
 if oP t a p q≠0 then (kV,oP t a p q)
 else if 0<(ji a p q).length then (kV,11)
 else Bz t a p q
theorem vC(c:lX a)(h:j0 t a p q)(f:jJ p)(g:jJ q)(d:(fL t a p q).2=0):eX t (fL t a p q).1/\lX (fL t a p q).1:=by obtain⟨e,b⟩:=xB d;rw[e];exact⟨b.ok,b.A4 (h.ap.A4 c.host f).host (wj (oR g))⟩
theorem G9(i:fK t)(d:lX a)(f:jJ p)(g:jJ q):gI t a p q=some (oS t a p q):=by
 unfold gI oS;rw[aT (show lW ⟨t.nodes,t.ak⟩ ⟨a.host,a.nodes,a.ak,a.next⟩ p q=_ from Lw i d f g),bh];by_cases c:oP t a p q=0;rotate_left
 ·rw[if_neg c,if_pos c]
 have h:=kL.1 c;rw[if_pos c,if_neg (λh=>h c),aT (vz h.ap h.aq d.host),sP h.ap h.aq,bh];by_cases j:0<(ji a p q).length
 ·rw[if_pos (by omega),if_pos j]
 rw[if_neg (by omega),if_neg j];obtain⟨x,e,k⟩:=LP i h d f g;rw[aT e,bh];by_cases b:(fL t a p q).2=0
 ·rw[if_pos b,if_neg (λh=>h b),k b];obtain⟨l,m⟩:=vC d h f g b;rw[aT (LU i h d f g l m)]
 ·rw[if_neg b,if_pos b]
theorem aqA(h:j0 t a p q)(b:¬ 0<(ji a p q).length):G0 p q:=(xy (List.eq_nil_of_length_eq_zero (by omega)) h.ap h.aq).1
theorem akj(i:fK t)(d:lX a)(e:jJ p)(f:jJ q):gG t a p q=some (oS t a p q):=by
 unfold gG oS;rw[aT (show gL ⟨t.nodes,t.ak⟩ ⟨a.host,a.nodes,a.ak,a.next⟩ p q=_ from azL i d e f),bh];by_cases b:oP t a p q=0;rotate_left
 ·rw[if_neg b,if_pos b]
 have h:=kL.1 b;rw[if_pos b,if_neg (λh=>h b),aT (show eS ⟨a.host,a.nodes,a.ak,a.next⟩ ⟨p.ax,p.aA,p.aP,p.aM,p.values,p.next⟩ q=some (ji a p q) from ahA h.ap.tk d.host e f),bh];by_cases g:0<(ji a p q).length
 ·rw[if_pos (by omega),if_pos g]
 rw[if_neg (by omega),if_neg g];rw[aT (show gx ⟨t.nodes,t.ak⟩ a ⟨p.ax,p.aA,p.aP,p.aM,p.values,p.next⟩ q=_ from avl i h d e f (aqA h g)),bh];by_cases c:(fL t a p q).2=0
 ·rw[if_pos c,if_neg (λh=>h c)];obtain⟨j,k⟩:=vC d h e f c;rw[aT (azW i h d e f j k)]
 ·rw[if_neg c,if_pos c]
theorem He(i:fK t)(d:lX a)(f:jJ p)(g:jJ q):gy t a p q=some (AE t a p q):=by
 unfold gy AE;rw[aT (Lw i d f g),bh];by_cases c:oP t a p q=0;rotate_left
 ·rw[if_neg c,if_pos c];rfl
 have h:=kL.1 c;rw[if_pos c,if_neg (λh=>h c),aT (vz h.ap h.aq d.host),sP h.ap h.aq,bh];by_cases j:0<(ji a p q).length
 ·rw[if_pos (by omega),if_pos j];rfl
 rw[if_neg (by omega),if_neg j];rw[aT (show rA t a p q=some (Bz t a p q) by
  unfold rA Bz;obtain⟨x,e,l⟩:=LP i h d f g;rw[aT e,bh];by_cases b:(fL t a p q).2=0
  ·rw[if_pos b,if_neg (λh=>h b),l b];obtain⟨m,n⟩:=vC d h f g b;rw[aT (LU i h d f g m n),dr rfl,cond_true,bh];by_cases k:0<(xA t a p q (fL t a p q).1).length
   ·rw[if_pos (by simp only;omega),if_pos k];rfl
   ·rw[if_neg (by simp only;omega),if_neg k]
  ·rw[if_neg b,if_pos b];rfl)]
end
theorem hU{α:Type} [Inhabited α]{l:List α}{i:Nat}(h:i<l.length):l.getD i default=l[i]:=by simp[h]
theorem Cs{α:Type} [Inhabited α]{l:List α}{x:α}(h:x∈l):∃j,j<l.length/\l.getD j default=x:=by obtain⟨j,a,rfl⟩:=List.getElem_of_mem h;exact⟨j,a,by simp[a]⟩
structure aJL(t:Types):Prop where
 attrs:∀n∈t.nodes,n.attrs.length<=1125899906842624
theorem LV{α O:Type}{Q:O->Prop}{f:Nat->Unit->(Unit->Option O)->(Unit->Option O)->Option O}{K:Unit->Option O}(l:List α)(p:α->Prop)
  (m:∀j (a:Unit->Option O) (d:j<l.length),(p l[j]->Ok (a ()) Q)->Ok (f j () a K) Q) (e:(∀x∈l,p x)->Ok (K ()) Q):Ok (cq f (l.length-0) 0 () K) Q:=by
 refine mz (λj _=>∀i (h:i<l.length),i<j->p l[i]) (Nat.zero_le _) (λi _ h=>absurd h (Nat.not_lt_zero i)) (λj s a _ d c g=>?_) (λs c=>?_)
 ·refine m j a d λk=>g () λi h b=>?_
  rcases Nat.lt_succ_iff_lt_or_eq.1 b with h'|h'
  ·exact c i h h'
  ·subst h';exact k
 ·refine e λx n=>?_
  obtain⟨i,b,rfl⟩:=List.mem_iff_getElem.1 n;exact c i b b
structure aJM(x:ay):Prop where
 nodes:x.nodes.length<=1125899906842624
 ak:x.ak.length<=1125899906842624
structure Fit3(t:Types)(x:bP):Prop where
 t:aJL t
 a:aJM x.a
theorem LW{l:List aG}(h:l.length<=1000000):gz l l=some true:=by refine Ok.eq ?_;unfold gz;refine r6 (dr rfl) (bU (bl (by omega)) ?_);refine LV l (λ_=>True) (λi c a b=>?_) (λ_=>.mk rfl);exact oK a (oK a (r6 (by simp) (b trivial)))
theorem LX{l:List Int}(h:l.length<=1000000):gZ l l=some true:=by refine Ok.eq ?_;unfold gZ;refine r6 (dr rfl) (bU (bl (by omega)) ?_);refine LV l (λ_=>True) (λi c a b=>?_) (λ_=>.mk rfl);exact oK a (oK a (r6 (by simp) (b trivial)))
section
variable{t:Types}{a:ay}{p q:aH}
theorem az0(h:j0 t a p q)(g:qW a.host):(ji a p q).length<=1000000:=by
 have b:∀l:List aG,(gT l).length<=l.length:=λl=>by unfold gT;exact Gl _ _
 have j:=DM (p:=p) h.aq.small;have k:=DM (p:=q) h.ap.small;have e:=DN (p:=p) h.aq.small;have f:=DN (p:=q) h.ap.small;have m:=LG h.ap.small h.aq.small;have c:=b (rI p q++rI q p);have d:=b (rJ p q++rJ q p);have i:=b (ni p q);rw[List.length_append] at c d;rw[<-sP h.ap h.aq];unfold tK;rw[List.length_append,List.length_append];omega
end
theorem aqB{l:List ah}(h:iS ah.id l):kU l=l:=(GD h.oN).ext h λ_=>oa
theorem aqC{l:List au}(h:iS au.id l):nt l=l:=(GF h.oN).ext h λ_=>uQ
theorem yq{a:ay}{p:aH}(b:iS ah.id (jh a p++p.aP))(c:iS au.id (lB a p++p.aM)):bf a p=c8 (jh a p++p.aP) (lB a p++p.aM) p.next.x1:=by unfold bf;rw[aqB b,aqC c]
def nw:Types:=(iE).get rfl
theorem aEb:iE=some nw:=rfl
theorem LY:fK nw:=⟨by decide +kernel,by decide +kernel,by decide +kernel,by decide +kernel,by decide +kernel,by decide +kernel,by decide +kernel,by decide +kernel⟩
def fE:ay:=(iy).get rfl
theorem LZ:iy=some fE:=rfl
def oD:aH:=⟨[⟨1,1,[10]⟩],[⟨3,0,0,1⟩],[],[],[],⟨5,5⟩⟩
def sS:aH:=⟨[],[],[],[⟨5,1,1,2⟩],[],⟨5,6⟩⟩
def kE:aH:=⟨[],[],[],[],[⟨2,0,5,7⟩],⟨5,5⟩⟩
theorem L2:lX fE:=⟨⟨⟨by decide,by decide⟩,by decide,by decide⟩,by decide,by decide⟩
theorem Hf:eX nw fE:=eC.1 (by decide +kernel)
theorem L3:jJ oD:=⟨by decide,by decide,by decide,by decide,by decide,by decide,by decide⟩
theorem L4:bf fE oD=c8 (jh fE oD++oD.aP) (lB fE oD++oD.aM) oD.next.x1:=yq (by decide +kernel) (by decide +kernel)
theorem L5:bH nw fE oD:=⟨Hf,⟨by decide,by decide,by decide,by decide,by decide⟩,⟨by decide,by decide,by decide,by decide,by decide⟩,by decide,by decide +kernel,by decide +kernel,by decide +kernel,by decide +kernel,by rw[L4];exact eC.1 (by decide +kernel)⟩
theorem L6:AB oD:=⟨by decide,by decide,by decide⟩
theorem aCu:jJ sS:=⟨by decide,by decide,by decide,by decide,by decide,by decide,by decide⟩
theorem avn:bf fE sS=c8 (jh fE sS++sS.aP) (lB fE sS++sS.aM) sS.next.x1:=yq (by decide +kernel) (by decide +kernel)
theorem aCv:bH nw fE sS:=⟨Hf,⟨by decide,by decide,by decide,by decide,by decide⟩,⟨by decide,by decide,by decide,by decide,by decide⟩,by decide,by decide +kernel,by decide +kernel,by decide +kernel,by decide +kernel,by rw[avn];exact eC.1 (by decide +kernel)⟩
theorem avo:AB sS:=⟨by decide,by decide,by decide⟩
theorem aCw:jJ kE:=⟨by decide,by decide,by decide,by decide,by decide,by decide,by decide⟩
theorem L7:bf fE kE=c8 (jh fE kE++kE.aP) (lB fE kE++kE.aM) kE.next.x1:=yq (by decide +kernel) (by decide +kernel)
theorem aCx:bH nw fE kE:=⟨Hf,⟨by decide,by decide,by decide,by decide,by decide⟩,⟨by decide,by decide,by decide,by decide,by decide⟩,by decide,by decide +kernel,by decide +kernel,by decide +kernel,by decide +kernel,by rw[L7];exact eC.1 (by decide +kernel)⟩
theorem avp:AB kE:=⟨by decide,by decide,by decide⟩
theorem aJN:j0 nw fE oD sS:=⟨L5,aCv,L6,avo,by decide⟩
theorem L8:j0 nw fE oD kE:=⟨L5,aCx,L6,avp,by decide⟩
theorem avq:ji fE oD sS=[⟨1,1,-1⟩]:=by kernel_rfl
theorem avr:ji fE oD kE=[]:=by kernel_rfl
theorem aqE:oS nw fE oD sS=([⟨1,1,-1⟩],0):=by unfold oS;rw[if_neg (λh=>h (kL.2 aJN)),avq];rfl
def Hg:ay:=⟨⟨⟨[3,1],[⟨0,0,1⟩]⟩,[[],[5]]⟩,[0,2],[4],5⟩
theorem L9:bf fE oD=Hg:=by rw[L4];kernel_rfl
def DY:ay:=⟨⟨⟨[3,1],[⟨0,0,1⟩]⟩,[[],[7]]⟩,[0,2],[4],5⟩
theorem Ma:bf Hg (bK oD kE)=DY:=by rw[yq (by decide +kernel) (by decide +kernel)];kernel_rfl
theorem aCy:bH nw Hg (bK oD kE):=⟨eC.1 (by decide +kernel),⟨by decide,by decide,by decide,by decide,by decide⟩,⟨by decide +kernel,by decide +kernel,by decide +kernel,by decide +kernel,by decide +kernel⟩,by decide +kernel,by decide +kernel,by decide +kernel,by decide +kernel,by decide +kernel,by rw[Ma];exact eC.1 (by decide +kernel)⟩
theorem ang:fL nw fE oD kE=(DY,0):=by unfold fL tooMany;rw[L9,if_neg (by decide +kernel),pn aCy,Ma]
theorem aqF:jk fE oD kE=⟨⟨⟨[3,1,1],[⟨0,0,1⟩,⟨0,0,2⟩]⟩,[[],[10],[7]]⟩,[0,1,2],[3,4],5⟩:=by rw[(DW L8).1,L7];kernel_rfl
theorem az4:xA nw fE oD kE DY=[]:=by unfold xA;rw[L9,aqF];kernel_rfl
theorem aqG:AE nw fE oD kE=(DY,0):=by unfold AE Bz;rw[if_neg (λh=>h (kL.2 L8)),avr,ang,az4];rfl
theorem Mb:fI=some true:=by unfold fI;rw[aT aEb,aT LZ];show thn (gI nw fE oD sS) _=_;rw[aT (show gI nw fE oD sS=_ from G9 LY L2 L3 aCu),aqE];rw[aT LZ];show thn (gy nw fE oD kE) _=_;rw[aT (show gy nw fE oD kE=_ from He LY L2 L3 aCw),aqG];rw[dr rfl,cond_true,aT (LW (by simp)),cond_true,cond_true];show thn (gZ [0,2] [0,2]) _=_;rw[aT (LX (by simp))];show thn (gZ [7] [7]) (λr=>some r)=_;rw[aT (LX (by simp))]
theorem Mc{σ O:Type}{f:Nat->σ->(σ->Option O)->(σ->Option O)->Option O}{K:σ->Option O}{bad:Option O}(n:Nat)(ok:Nat->Bool)(step:σ->Nat->σ)(a:Nat->σ->Prop)
  (h:∀i s,i<n->a i s->(ok i=true->a (i+1) (step s i))/\∀b,f i s b K=cond (ok i) (b (step s i)) bad):∀ (k i:Nat) (s:σ),i+k=n->a i s ->
  cq f k i s K=cond ((List.range' i k).all ok) (K ((List.range' i k).foldl step s)) bad
 |0,i,s,_,_=>rfl
 |k+1,i,s,j,e=>by
  obtain⟨c,d⟩:=h i s (by omega) e;rw[cq,d,List.range'_succ,List.all_cons,List.foldl_cons];cases g:ok i with
  |false=>rfl
  |true=>rw[Bool.true_and,cond_true];exact Mc n ok step a h k (i+1) _ (by omega) (c g)
theorem Md{σ O:Type}{f:Nat->σ->(σ->Option O)->(σ->Option O)->Option O}{K:σ->Option O}{bad:Option O}{s:σ}(n:Nat)(ok:Nat->Bool)(step:σ->Nat->σ)(a:Nat->σ->Prop)(c:a 0 s)
  (h:∀i s,i<n->a i s->(ok i=true->a (i+1) (step s i))/\∀b,f i s b K=cond (ok i) (b (step s i)) bad) :
  cq f (n-0) 0 s K=cond ((List.range n).all ok) (K ((List.range n).foldl step s)) bad:=by
 rw[Mc n ok step a h (n-0) 0 s (by omega) c,Nat.sub_zero,List.range_eq_range']
theorem aCz{α:Type}{q:α->Bool}{l:List α}(h:0<=mN q l):(mN q l).toNat<l.length:=by
 unfold mN at *;cases a:l.findIdx? q with
 |none=>rw[a] at h;exact absurd h (by decide)
 |some i=>obtain⟨b,_⟩:=List.findIdx?_eq_some_iff_getElem.1 a;simpa using b
def qn(ids:List Int)(n:Int):Bool:=decide (cA ids n<0)
def BA(a b:ay):List ah:=((List.range a.nodes.length).filter λi=>qn b.nodes (cD a i).id).map (cD a)
def Ct(a b:ay):List au:=((List.range a.ak.length).filter λi=>qn b.ak (fJ a i).id).map (fJ a)
def l9(a b:ay)(i:Nat):Bool:=!decide (0<=cA b.ak (cD a i).id)&&(!decide (0<=cA b.nodes (cD a i).id)||decide ((cD b (cA b.nodes (cD a i).id).toNat).type=(cD a i).type))
def DZ(a b:ay)(i:Nat):Bool:=!decide (0<=cA b.nodes (fJ a i).id)&&(!decide (0<=cA b.ak (fJ a i).id)||qK (fJ b (cA b.ak (fJ a i).id).toNat) (fJ a i))
def A6(id:Int)(l m:List Int)(k:Nat):List aQ:=if l.getD k default=m.getD k default then [] else [⟨id,(k:Int),l.getD k default,m.getD k default⟩]
def Cu(a b:ay)(i:Nat):List aQ:=(List.range (cD a i).values.length).flatMap (A6 (cD a i).id (cD a i).values (cD b (cA b.nodes (cD a i).id).toNat).values)
def Hh(a b:ay):List aQ:=((List.range a.nodes.length).filter λi=>!qn b.nodes (cD a i).id).flatMap (Cu a b)
def x5:aH:=⟨[],[],[],[],[],⟨0,0⟩⟩
def BB(a b:ay):Bool:=(List.range a.nodes.length).all (l9 a b)&&(List.range a.ak.length).all (DZ a b)
def BC(a b:ay):aH×Bool:=if BB a b=true then (⟨BA a b,Ct a b,BA b a,Ct b a,Hh a b,⟨a.next,b.next⟩⟩,true) else (x5,false)
def BD(t:Types)(a b:ay):aH×Int :=
 if nO t a≠0 then (x5,nO t a)
 else if nO t b≠0 then (x5,nO t b)
 else if BB a b=true then ((BC a b).1,0) else (x5,11)
section
variable{t:Types}{a b:ay}
theorem sQ{ids:List Int}{n:Int}(h:0<=cA ids n):(cA ids n).toNat<ids.length:=aCz h
theorem az7(e:eX t a)(f:eX t b){i j:Nat}(l:i<a.nodes.length)(m:j<b.nodes.length)(g:(cD b j).type=(cD a i).type):(cD b j).values.length=(cD a i).values.length:=by
 have d:∀ {x:ay},eX t x->∀ {k:Nat},k<x.nodes.length->(cD x k).values.length=(bg t (cD x k).type.toNat).length:=λ{x} c {k} n=>by
  have:=c.host.node k (by rw[<-c.qJ];exact n);unfold lJ at this;split at this
  ·cases this
  ·split at this
   ·cases this
   ·split at this
    ·cases this
    ·rename_i h;exact Decidable.of_not_not h
 rw[d e l,d f m,g]
theorem Me(h:eX t a)(b:qW a.host){i:Nat}(c:i<a.nodes.length):(cD a i).values.length<=1000:=jC h b _ (List.mem_map.2 ⟨i,List.mem_range.2 c,rfl⟩)
theorem az8(id:Int)(l m:List Int)(k:Nat):(A6 id l m k).length<=1:=by unfold A6;split<;>simp
theorem Mf(h:eX t a)(c:qW a.host){i:Nat}(d:i<a.nodes.length):(Cu a b i).length<=1000:=by
 have:=Me h c d;unfold Cu;have e:∀l:List Nat,(l.flatMap (A6 (cD a i).id (cD a i).values (cD b (cA b.nodes (cD a i).id).toNat).values)).length<=l.length:=λl=>by
  induction l with
  |nil=>simp
  |cons x r g=>have f:=az8 (cD a i).id (cD a i).values (cD b (cA b.nodes (cD a i).id).toNat).values x;rw[List.flatMap_cons,List.length_append,List.length_cons];omega
 have:=e (List.range (cD a i).values.length);rw[List.length_range] at this;omega
end
section
variable{t:Types}{a b:ay}
theorem Hi{a:ay}{i:Nat}(h:i<a.nodes.length):(cD a i).id=a.nodes[i]:=by unfold cD;simp[h]
theorem Mg{a:ay}{i:Nat}(h:i<a.ak.length):(fJ a i).id=a.ak[i]:=by unfold fJ;simp[h]
theorem Mh(d:eX t a)(f:eX t b)(g:lX a):fS a b=some (BA a b,Ct a b):=by
 have n1:=d.n40;have j:=d.hG;have k:=f.n40;have m:=f.hG;have r1:∀l∈a.host.values,l.length<=1000000:=λl hl=>Nat.le_trans (g.host.row l hl) (by decide)
 unfold fS;rw[bC (bl (by omega)),oe a.nodes.length (λi=>if qn b.nodes (cD a i).id=true then [cD a i] else []) 1 (λi _=>by split<;>simp) λi c s e h=>by
  rw[List.length_nil] at e;rw[b8 c,aT (dm (by omega) _),aT (Lf d c r1),bC (by omega),<-Hi c];show cond (qn b.nodes (cD a i).id) _ _=_;cases qn b.nodes (cD a i).id
  ·simp
  ·simp]
 rw[List.nil_append,l6,bC (bl (by omega)),oe a.ak.length (λi=>if qn b.ak (fJ a i).id=true then [fJ a i] else []) 1 (λi _=>by split<;>simp) λi c s e h=>by
  rw[List.length_nil] at e;rw[b8 c,aT (dm (by omega) _),aT (DD d c),bC (by omega),<-Mg c];show cond (qn b.ak (fJ a i).id) _ _=_;cases qn b.ak (fJ a i).id
  ·simp
  ·simp]
 rw[List.nil_append,l6];rfl
theorem aCA(g:eX t a)(j:eX t b):jd a b=some (BB a b):=by
 have n1:=g.n40;have x:=g.hG;have y:=j.n40;have z:=j.hG;unfold jd BB;rw[bC (bl (by omega)),Md (bad:=some false) a.nodes.length (l9 a b) (λs _=>s) (λ_ _=>True) trivial λi s d r=>⟨λ_=>trivial,λo=>by
  have m:i<a.host.graph.nodes.length:=by rw[<-g.qJ];exact d
  rw[b8 d,aT (dm (by omega) _),aT (dm (by omega) _),<-Hi d];show cond (decide (0<=cA b.ak (cD a i).id)) _ (cond (decide (0<=cA b.nodes (cD a i).id)) (thn a.host.graph.nodes[i]? λu=>thn (nr b.host.graph.nodes (cA b.nodes (cD a i).id)) _) _)=_;unfold l9;by_cases e:0<=cA b.ak (cD a i).id
  ·rw[dr e,cond_true];rfl
  rw[gA e,cond_false,Bool.not_false,Bool.true_and];by_cases c:0<=cA b.nodes (cD a i).id
  ·have k:=sQ c;have n:(cA b.nodes (cD a i).id).toNat<b.host.graph.nodes.length:=by rw[<-j.qJ];exact k
   rw[dr c,cond_true,b8 m,gO c n,Bool.not_true,Bool.false_or];have p:(cD a i).type=a.host.graph.nodes[i]:=by unfold cD;simp[m]
   have q:(cD b (cA b.nodes (cD a i).id).toNat).type=b.host.graph.nodes[(cA b.nodes (cD a i).id).toNat]:=by show b.host.graph.nodes.getD _ default=_;simp[n]
   rw[p,q];by_cases f:a.host.graph.nodes[i]=b.host.graph.nodes[(cA b.nodes (cD a i).id).toNat]
   ·rw[dr f,dr f.symm]
   ·rw[gA f,gA λh=>f h.symm]
  ·rw[gA c,cond_false,Bool.not_false,Bool.true_or,cond_true]⟩]
 cases w:(List.range a.nodes.length).all (l9 a b) with
 |false=>rfl
 |true =>
 rw[cond_true,bC (bl (by omega)),Md (bad:=some false) a.ak.length (DZ a b) (λs _=>s) (λ_ _=>True) trivial λi s d r=>⟨λ_=>trivial,λo=>by
  rw[b8 d,aT (dm (by omega) _),aT (dm (by omega) _),<-Mg d];show cond (decide (0<=cA b.nodes (fJ a i).id)) _ (cond (decide (0<=cA b.ak (fJ a i).id)) (thn (dG a i) λv=>thn (dG b (cA b.ak (fJ a i).id)) _) _)=_;unfold DZ;by_cases e:0<=cA b.nodes (fJ a i).id
  ·rw[dr e,cond_true];rfl
  rw[gA e,cond_false,Bool.not_false,Bool.true_and];by_cases c:0<=cA b.ak (fJ a i).id
  ·have k:=sQ c;have l:=DD j k;rw[show (((cA b.ak (fJ a i).id).toNat:Nat):Int)=cA b.ak (fJ a i).id by omega] at l;rw[dr c,cond_true,aT (DD g d),aT l,Bool.not_true,Bool.false_or];have:(decide ((fJ a i).id=(fJ b (cA b.ak (fJ a i).id).toNat).id)&&(decide ((fJ a i).type=(fJ b (cA b.ak (fJ a i).id).toNat).type)&&(decide ((fJ a i).src=(fJ b (cA b.ak (fJ a i).id).toNat).src)&&decide ((fJ a i).dst=(fJ b (cA b.ak (fJ a i).id).toNat).dst))))=qK (fJ b (cA b.ak (fJ a i).id).toNat) (fJ a i):=by unfold qK;simp only[eq_comm]
   rw[this]
  ·rw[gA c,cond_false,Bool.not_false,Bool.true_or,cond_true]⟩]
 cases (List.range a.ak.length).all (DZ a b)<;>rfl
theorem Hj{O:Type}(id:Int)(l m:List Int)(e:m.length=l.length)(hl:l.length<=1000000){f:Int×List aQ->(Int×List aQ->Option O)->(Int×List aQ->Option O)->Option O}{K:Int×List aQ->Option O}
  (h:∀k s a,(c:k<l.length)->(t:k<m.length)->s.length<=2000000->f ((k:Int),s) a K=cond (decide (l[k]=m[k])) (a (i64.wrap ((k:Int)+1),s)) (a (i64.wrap ((k:Int)+1),s++[⟨id,(k:Int),l[k],m[k]⟩]))) (b:∀s a,f ((l.length:Int),s) a K=K ((l.length:Int),s)) :
  ∀ (d k:Nat) (s:List aQ) (n:Nat),k+d=l.length->d<n->s.length<=1000000+k->iter f n ((k:Int),s) K=K ((l.length:Int),s++(List.range' k d).flatMap (A6 id l m))
 |0,k,s,n,o,p,q=>by
  obtain⟨n,rfl⟩:∃j,n=j+1:=⟨n-1,by omega⟩;rw[iter];obtain rfl:k=l.length:=by omega
  rw[b];simp
 |d+1,k,s,n,o,p,q=>by
  obtain⟨n,rfl⟩:∃j,n=j+1:=⟨n-1,by omega⟩;have c:k<l.length:=by omega
  rw[iter,h k s _ c (by omega) (by omega),dy (by omega),bh,List.range'_succ,List.flatMap_cons];have g:l.getD k default=l[k]:=by simp[c]
  have i:m.getD k default=m[k]'(by omega):=by simp[show k<m.length by omega]
  have r:A6 id l m k=if l[k]=m[k]'(by omega) then [] else [⟨id,(k:Int),l[k],m[k]'(by omega)⟩]:=by unfold A6;rw[g,i]
  rw[r,show ((k:Int)+1)=((k+1:Nat):Int) by omega];split
  ·rw[Hj id l m e hl h b d (k+1) _ n (by omega) (by omega) (by omega),List.nil_append]
  ·rw[Hj id l m e hl h b d (k+1) _ n (by omega) (by omega) (by rw[List.length_append,List.length_singleton];omega),List.append_assoc]
theorem Mi{α c:Type}(b:α->Bool)(g:α->List c):∀l:List α,l.flatMap (λa=>if b a=true then [] else g a)=(l.filter λa=>!b a).flatMap g
 | []=>rfl
 |a :: r=>by rw[List.flatMap_cons,Mi b g r,List.filter_cons];cases b a<;>simp
theorem az9(d:(List.range a.nodes.length).all (l9 a b)=true){i:Nat}(e:i<a.nodes.length)(c:0<=cA b.nodes (cD a i).id):(cD b (cA b.nodes (cD a i).id).toNat).type=(cD a i).type:=by have:=List.all_eq_true.1 d i (List.mem_range.2 e);unfold l9 at this;rw[dr c,Bool.not_true,Bool.false_or,Bool.and_eq_true] at this;exact b6 this.2
theorem aEc(d:eX t a)(e:eX t b)(h:lX a)(bb:lX b):jt a b=some (BC a b):=by
  have n1:=d.n40;have L:=d.hG;have M:=e.n40;have N:=e.hG;unfold jt BC;rw[aT (aCA d e)];cases m:BB a b with
  |false=>rw[cond_false];rfl
  |true =>
  have C:(List.range a.nodes.length).all (l9 a b)=true:=by unfold BB at m;rw[Bool.and_eq_true] at m;exact m.1
  rw[cond_true,aT (Mh d e h),aT (Mh e d bb),bC (bl (by omega)),if_pos rfl];rw[oe a.nodes.length (λi=>if qn b.nodes (cD a i).id=true then [] else Cu a b i) 1000 (λi g=>by
    have:=Mf (b:=b) d h.host g;split
    · simp
    · exact this) λi g s F A=>by
    rw[List.length_nil] at F;have l:i<a.host.values.length:=by rw[d.host.sn,<-d.qJ];exact g
    have I:=Me d h.host g;rw[b8 g,aT (dm (by omega) _),<-Hi g];show cond (qn b.nodes (cD a i).id) _ (iter _ fuel (0,s) _)=_;by_cases j:0<=cA b.nodes (cD a i).id
    · have n:qn b.nodes (cD a i).id=false:=gA (by omega);have v:=sQ j;have w:(cA b.nodes (cD a i).id).toNat<b.host.values.length:=by rw[e.host.sn,<-e.qJ];exact v
      have G:=az9 C g j;have hl:=az7 d e g v G;have u:a.host.values[i]=(cD a i).values:=by unfold cD;simp[l]
      have B:b.host.values[(cA b.nodes (cD a i).id).toNat]=(cD b (cA b.nodes (cD a i).id).toNat).values:=by show _=b.host.values.getD _ default;simp[w]
      rw[n,cond_false,if_neg (by decide)];have:=Hj (O:=aH×Bool) (cD a i).id (cD a i).values _ hl (by omega) (K:=λc=>A c.2) (f:=λ(c:Int×(List aQ)) r x =>
    thn (a.host.values[i]?) λo =>
    cond (decide (c.1<((o.length:Nat):Int))) (
     thn (nr o c.1) λp =>
     thn (nr b.host.values (cA b.nodes (cD a i).id)) λy =>
     thn (nr y c.1) λq =>
     cond (decide (p=q)) (
      r ((i64.wrap (c.1+1)),c.2)) <|
     cL (c.2.length+1<=68719476736) <|
     r ((i64.wrap (c.1+1)),(c.2++[(⟨(cD a i).id,c.1,p,q⟩:aQ)]))) <|
    x (c.1, c.2)) (fun k H z D E J => by
        dsimp only;rw[b8 l,u,dr (by omega),cond_true,gO (by omega) (by simpa using D),gO j w,B,gO (by omega) (by simpa using E),bC (by omega)];rfl) (λH z=>by
        dsimp only;rw[b8 l,u,gA (by omega),cond_false]) (cD a i).values.length 0 s fuel (by omega) (by unfold fuel;omega) (by omega)
      rw[<-List.range_eq_range'] at this;exact this
    · have n:qn b.nodes (cD a i).id=true:=dr (by omega);rw[n,cond_true,if_pos rfl,List.append_nil]]
  rw[List.nil_append,Mi];rfl
theorem Mj(f:fK t)(e:lX a)(bb:lX b):iu t a b=some (BD t a b):=by
 unfold iu BD;rw[aT (show ck t a=_ from nc f e),bh];by_cases c:nO t a=0;rotate_left
 ·rw[if_neg c,if_pos c];rfl
 rw[if_pos c,if_neg (λh=>h c),aT (show ck t b=_ from nc f bb),bh];by_cases d:nO t b=0;rotate_left
 ·rw[if_neg d,if_pos d];rfl
 rw[if_pos d,if_neg (λh=>h d),aT (aEc (eC.1 c) (eC.1 d) e bb)];unfold BC;split
 ·rfl
 ·rfl
variable{p q:aH}
structure Mk(p:aH):Prop where
 rn:p.ax.length<=1000000
 re:p.aA.length<=1000000
 an:p.aP.length<=1000000
 ae:p.aM.length<=1000000
 va:p.values.length<=1000000
 rr:∀n∈p.ax,n.values.length<=1000000
 ar:∀n∈p.aP,n.values.length<=1000000
theorem Hl:Mk x5:=⟨by simp[x5],by simp[x5],by simp[x5],by simp[x5],by simp[x5],λn a=>(by cases a),λn a=>(by cases a)⟩
theorem D0{n:ah}(h:n∈BA a b):n∈bA a:=by obtain⟨i,c,rfl⟩:=List.mem_map.1 h;exact List.mem_map.2 ⟨i,(List.mem_filter.1 c).1,rfl⟩
theorem Ml:(BA a b).length<=a.nodes.length:=by unfold BA;rw[List.length_map];exact Nat.le_trans (List.length_filter_le _ _) (by simp)
theorem Mm:(Ct a b).length<=a.ak.length:=by unfold Ct;rw[List.length_map];exact Nat.le_trans (List.length_filter_le _ _) (by simp)
theorem Mn{α c:Type}(g:α->List c)(k:Nat):∀l:List α,(∀a∈l,(g a).length<=k)->(l.flatMap g).length<=k * l.length
 | [],_=>by simp
 |a :: r,h=>by
  have d:=h a (List.mem_cons_self ..);have e:=Mn g k r λx b=>h x (List.mem_cons_of_mem _ b)
  rw[List.flatMap_cons,List.length_append,List.length_cons,Nat.mul_add];omega
theorem avs(c:eX t a)(d:lX a):(Hh a b).length<=40000:=by
 have n1:=c.n40;have:=Mn (Cu a b) 1000 ((List.range a.nodes.length).filter λi=>!qn b.nodes (cD a i).id) λi f=>Mf c d.host (List.mem_range.1 (List.mem_filter.1 f).1)
 have e:=List.length_filter_le (λi=>!qn b.nodes (cD a i).id) (List.range a.nodes.length);rw[List.length_range] at e;unfold Hh;omega
theorem avt(f:lX a)(bb:lX b):Mk (BD t a b).1:=by
 unfold BD;split
 ·exact Hl
 rename_i g;split
 ·exact Hl
 rename_i h;have c:=eC.1 (Decidable.of_not_not g);have d:=eC.1 (Decidable.of_not_not h);have n1:=c.n40;have m:=c.hG;have o:=d.n40;have p:=d.hG;split
 ·rename_i i;unfold BC;rw[if_pos i];have l1:=@Ml a b;have l2:=@Mm a b;have j:=@Ml b a;have k:=@Mm b a;have l:=avs (b:=b) c f;exact⟨by dsimp only;omega,by dsimp only;omega,by dsimp only;omega,by dsimp only;omega,by dsimp only;omega,λn e=>Nat.le_trans (jC c f.host n (D0 e)) (by decide),λn e=>Nat.le_trans (jC d bb.host n (D0 e)) (by decide)⟩
 ·exact Hl
end
section
variable{t:Types}{a b:ay}
theorem Mo{ids:List Int}{n:Int}(h:0<=cA ids n):ids[(cA ids n).toNat]? = some n:=by
 unfold cA mN at *;cases a:ids.findIdx? λy=>decide (y=n) with
 |none=>rw[a] at h;exact absurd h (by decide)
 |some i=>obtain⟨c,b,_⟩:=List.findIdx?_eq_some_iff_getElem.1 a;show ids[((i:Nat):Int).toNat]? = some n;rw[Int.toNat_natCast,List.getElem?_eq_getElem c,b6 b]
theorem Mp{ids:List Int}{n:Int}(h:0<=cA ids n):ids[(cA ids n).toNat]'(sQ h)=n:=by have:=Mo h;rw[List.getElem?_eq_getElem (sQ h)] at this;exact Option.some.inj this
theorem avu{ids:List Int}(h:iS id ids){i:Nat}(b:i<ids.length):cA ids ids[i]=(i:Int):=by have a:0<=cA ids ids[i]:=DP.2 (l8 b);have c:=Mp a;have:=h.tS (sQ a) b c;omega
theorem qI{i:Nat}(h:i<a.nodes.length):cD a i∈bA a:=List.mem_map.2 ⟨i,List.mem_range.2 h,rfl⟩
theorem Mq{i:Nat}(h:i<a.ak.length):fJ a i∈cC a:=List.mem_map.2 ⟨i,List.mem_range.2 h,rfl⟩
theorem Mr{i:Nat}(h:kQ t i=0):(bg t i).length<=8:=by
 unfold kQ at h;split at h
 ·cases h
 split at h
 ·cases h
 split at h
 ·cases h
 split at h
 ·cases h
 split at h
 ·cases h
 ·omega
theorem take_set{l m:List Int}{k:Nat}(a:k<l.length)(b:k<m.length):(m.take k++l.drop k).set k m[k]=m.take (k+1)++l.drop (k+1):=by rw[List.set_append,if_neg (by rw[List.length_take];omega),List.length_take,Nat.min_eq_left (by omega),Nat.sub_self,List.drop_eq_getElem_cons a,List.set_cons_zero,List.take_succ_eq_append_getElem b,List.append_assoc];rfl
theorem aqI{l:List ah}{m:List au}{n:Int} : kI l m n=true↔(∃x∈l,x.id=n)\/∃x∈m,x.id=n:=by unfold kI;rw[Bool.or_eq_true,List.any_eq_true,List.any_eq_true];simp only[decide_eq_true_eq]
end
theorem aAb{α:Type}{q:α->α->Bool}{l:List α} : less q l []=l:=by unfold less;exact List.filter_eq_self.2 λ_ _=>rfl
section
variable{t:Types}{a:ay}{p:aH}
theorem Ho{α:Type}{f:α->Int}{q:α->α->Bool}(d:∀a b,q a b=true↔a=b):∀ (r l:List α),iS f l->r.Pairwise (λa b=>f a≠f b)->kA q l r=true->(less q l r).length+r.length=l.length
 | [],l,_,_,_=>by rw[aAb];rfl
 |n :: r,l,hl,s,c=>by
  obtain⟨t,u⟩:=List.pairwise_cons.1 s;have p:n∈l:=GR d c n (List.mem_cons_self ..);obtain⟨v,w⟩:=Gz (f:=f) d (l:=l) (r:=r) (n:=n) t;have j:kA q l r=true:=by unfold kA at c ⊢;rw[List.all_cons,Bool.and_eq_true] at c;exact c.2
  have e:=Ho d r (l.filter λm=>!q m n) (hl.sub List.filter_sublist) u (v.trans j);rw[w] at e;obtain⟨i,k,o⟩:=List.getElem_of_mem p;have g:=erase_filter d hl k o;have h:=congrArg List.length g;rw[List.length_append,List.length_take,List.length_drop] at h;rw[List.length_cons];omega
end
def ue:ByteArray:=⟨#[65,66,67,68,69,70]⟩
def uf:ByteArray:=⟨#[117,118,119,120,121,122]⟩
def Ai:ByteArray:=⟨#[101,102,103,104,105]⟩
def Hp:List ByteArray:=[⟨#[111,102,102]⟩,⟨#[111,110]⟩]
structure x7(i:Nat)(x:Attr):Prop where
 name:x.name=uf.extract i (i+1)
 how:(x.names=[]/\x.low = -3/\3<=x.high/\x.high<=11)\/(x.names=Hp/\x.low=0/\x.high=1)
structure x8(i:Nat)(n:ic):Prop where
 name:n.name=ue.extract i (i+1)
 par : -1<=n.parent/\n.parent<i
 attrs:n.attrs=[]\/∃x,x7 i x/\n.attrs=[x]
structure Cv(n i:Nat)(e:mI):Prop where
 name:e.name=Ai.extract i (i+1)
 src:0<=e.src/\e.src<n
 dst:0<=e.dst/\e.dst<n
 bounds:(e.nI=0/\e.j9 = -1)/\e.tq=0/\e.og = -1
structure oT(t:Types):Prop where
 pos:0<t.nodes.length
 n6:t.nodes.length<=6
 m5:t.ak.length<=5
 node:∀i,i<t.nodes.length->x8 i (t.nodes.getD i default)
 fq:∀i,i<t.ak.length->Cv t.nodes.length i (t.ak.getD i default)
theorem uS{P:Nat->Prop}(h:P 0/\P 1/\P 2/\P 3/\P 4/\P 5){i:Nat}(g:i<6):P i:=by
 obtain⟨a,b,c,d,e,f⟩:=h
 match i,g with
 |0,_=>exact a
 |1,_=>exact b
 |2,_=>exact c
 |3,_=>exact d
 |4,_=>exact e
 |5,_=>exact f
theorem Hq{P:Nat->Prop}(h:P 0/\P 1/\P 2/\P 3/\P 4){i:Nat}(f:i<5):P i:=by
 obtain⟨a,b,c,d,e⟩:=h
 match i,f with
 |0,_=>exact a
 |1,_=>exact b
 |2,_=>exact c
 |3,_=>exact d
 |4,_=>exact e
theorem aAd{i:Nat}(a:i<6):mg (ue.extract i (i+1))=true:=uS (P:=λi=>mg (ue.extract i (i+1))=true) ⟨by kernel_rfl,by kernel_rfl,by kernel_rfl,by kernel_rfl,by kernel_rfl,by kernel_rfl⟩ a
theorem avv{i:Nat}(a:i<6):mg (uf.extract i (i+1))=true:=uS (P:=λi=>mg (uf.extract i (i+1))=true) ⟨by kernel_rfl,by kernel_rfl,by kernel_rfl,by kernel_rfl,by kernel_rfl,by kernel_rfl⟩ a
theorem avw{i:Nat}(a:i<5):mg (Ai.extract i (i+1))=true:=Hq (P:=λi=>mg (Ai.extract i (i+1))=true) ⟨by kernel_rfl,by kernel_rfl,by kernel_rfl,by kernel_rfl,by kernel_rfl⟩ a
theorem Ms{i:Nat}(a:i<6):mb (ue.extract i (i+1)) 0=65+(i:Int):=uS (P:=λi=>mb (ue.extract i (i+1)) 0=65+(i:Int)) ⟨by kernel_rfl,by kernel_rfl,by kernel_rfl,by kernel_rfl,by kernel_rfl,by kernel_rfl⟩ a
theorem Mt{i:Nat}(a:i<6):mb (uf.extract i (i+1)) 0=117+(i:Int):=uS (P:=λi=>mb (uf.extract i (i+1)) 0=117+(i:Int)) ⟨by kernel_rfl,by kernel_rfl,by kernel_rfl,by kernel_rfl,by kernel_rfl,by kernel_rfl⟩ a
theorem Mu{i:Nat}(a:i<5):mb (Ai.extract i (i+1)) 0=101+(i:Int):=Hq (P:=λi=>mb (Ai.extract i (i+1)) 0=101+(i:Int)) ⟨by kernel_rfl,by kernel_rfl,by kernel_rfl,by kernel_rfl,by kernel_rfl⟩ a
theorem aAf{i:Nat}(a:i<6):(ue.extract i (i+1)).size<=40:=uS (P:=λi=>(ue.extract i (i+1)).size<=40) ⟨by decide,by decide,by decide,by decide,by decide,by decide⟩ a
theorem avx{i:Nat}(a:i<6):(uf.extract i (i+1)).size<=40:=uS (P:=λi=>(uf.extract i (i+1)).size<=40) ⟨by decide,by decide,by decide,by decide,by decide,by decide⟩ a
theorem avy{i:Nat}(a:i<5):(Ai.extract i (i+1)).size<=40:=Hq (P:=λi=>(Ai.extract i (i+1)).size<=40) ⟨by decide,by decide,by decide,by decide,by decide⟩ a
theorem aCB{i j:Nat}(b:i<6)(c:j<6)(e:ue.extract i (i+1)=ue.extract j (j+1)):i=j:=by have a:=Ms b;rw[e,Ms c] at a;omega
theorem aAg{i j:Nat}(b:i<6)(c:j<6)(e:uf.extract i (i+1)=uf.extract j (j+1)):i=j:=by have a:=Mt b;rw[e,Mt c] at a;omega
theorem aAh{i j:Nat}(b:i<5)(c:j<5)(e:Ai.extract i (i+1)=Ai.extract j (j+1)):i=j:=by have a:=Mu b;rw[e,Mu c] at a;omega
section
variable{t:Types}
theorem x8.Cw{i:Nat}{n:ic}(h:x8 i n){x:Attr}(a:x∈n.attrs):x7 i x:=by
 rcases h.attrs with e|⟨y,b,e⟩
 ·rw[e] at a;cases a
 ·rw[e] at a;rcases List.mem_cons.1 a with rfl|h
  ·exact b
  ·cases h
theorem x8.Hr{i:Nat}{n:ic}(h:x8 i n):n.attrs.length<=1:=by rcases h.attrs with e|⟨y,a,e⟩<;>rw[e]<;>simp
theorem ann{s:ByteArray}(h:s∈Hp):s.size<=40:=by
 unfold Hp at h;rcases List.mem_cons.1 h with rfl|h
 ·decide
 rcases List.mem_cons.1 h with rfl|h
 ·decide
 ·cases h
theorem x7.Mv{i:Nat}{x:Attr}(h:x7 i x):x.names.length<=25/\∀s∈x.names,s.size<=40:=by
 rcases h.how with ⟨e,_⟩|⟨e,_⟩
 ·rw[e];exact⟨by simp,λs a=>(by cases a)⟩
 ·rw[e];exact⟨by decide,λs a=>ann a⟩
theorem oT.mem(h:oT t){n:ic}(d:n∈t.nodes):∃i,i<6/\x8 i n:=by
 obtain⟨i,b,e⟩:=List.getElem_of_mem d;have a:=h.node i b;have c:t.nodes.getD i default=t.nodes[i]:=by simp[b]
 rw[c,e] at a;have:=h.n6;exact⟨i,by omega,a⟩
theorem oT.aJO(h:oT t){n:mI}(d:n∈t.ak):∃i,i<5/\Cv t.nodes.length i n:=by
 obtain⟨i,b,e⟩:=List.getElem_of_mem d;have a:=h.fq i b;have c:t.ak.getD i default=t.ak[i]:=by simp[b]
 rw[c,e] at a;have:=h.m5;exact⟨i,by omega,a⟩
theorem oT.vG(h:oT t):fK t where
 nodes:=by have:=h.n6;omega
 ak:=by have:=h.m5;omega
 attrs:=λn c=>by obtain⟨i,_,b⟩:=h.mem c;have:=b.Hr;omega
 name:=λn c=>by obtain⟨i,d,b⟩:=h.mem c;rw[b.name];exact aAf d
 Nh:=λn c a f=>by obtain⟨i,d,b⟩:=h.mem c;rw[(b.Cw f).name];exact avx d
 names:=λn c a f=>by obtain⟨i,d,b⟩:=h.mem c;exact (b.Cw f).Mv.1
 word:=λn c a f=>by obtain⟨i,d,b⟩:=h.mem c;exact (b.Cw f).Mv.2
 HK:=λe g=>by obtain⟨i,d,b⟩:=h.aJO g;rw[b.name];exact avy d
theorem oT.par(h:oT t){n:Nat}(b:n<=t.nodes.length):qT t n:=λj a=>(h.node j (by omega)).par
theorem wo(h:oT t):∀ (k a:Nat),a<t.nodes.length->(∀x∈pO t k a,∃j,j<=a/\x7 j x)/\(pO t k a).length<=a+1
 |0,a,_=>by unfold pO;exact⟨λx hx=>(by cases hx),by simp⟩
 |k+1,a,c=>by
  have b:=h.node a c;have hl:=b.Hr;unfold pO;split
  ·rename_i f;have g:=b.par;obtain⟨e,l⟩:=wo h k (t.nodes.getD a default).parent.toNat (by omega);refine⟨λx hx=>?_,by rw[List.length_append];omega⟩;rcases List.mem_append.1 hx with hx|hx
   ·obtain⟨j,i,d⟩:=e x hx;exact⟨j,by omega,d⟩
   ·exact⟨a,Nat.le_refl _,b.Cw hx⟩
  ·exact⟨λx hx=>⟨a,Nat.le_refl _,b.Cw hx⟩,by rw[List.nil_append];omega⟩
theorem aqJ{i:Nat}{x:Attr}(h:x7 i x):u9 x=0:=by
 unfold u9;have d:AR x=true:=by
  rw[sE];rcases h.how with ⟨e,a,b,f⟩|⟨e,a,b⟩
  ·right;rw[e,a];exact⟨rfl,by decide,by omega,by omega⟩
  ·left;rw[e,a,b];exact⟨by decide,rfl,by decide⟩
 have c:Ar x.names=0:=by
  rcases h.how with ⟨e,_⟩|⟨e,_⟩
  ·rw[e];rfl
  ·rw[e];kernel_rfl
 rw[if_neg (by rw[c];simp),if_pos d]
theorem avz(h:oT t){i:Nat}(p:i<t.nodes.length):kQ t i=0:=by
 have g:=h.node i p;have F:=h.n6;have hl:=g.Hr;have D:=g.par;unfold kQ;have u:mg (t.nodes.getD i default).name=true:=by rw[g.name];exact aAd (by omega)
 have v:¬ (t.nodes.take i).any (λy=>decide (y.name=(t.nodes.getD i default).name))=true:=by
  intro c;rw[List.any_eq_true] at c;obtain⟨y,f,b⟩:=c;obtain⟨j,q,e⟩:=List.getElem_of_mem f;rw[List.length_take] at q;rw[List.getElem_take] at e;have r:=h.node j (by omega);have s:t.nodes.getD j default=t.nodes[j]:=by simp[show j<t.nodes.length by omega]
  rw[s,e] at r;have b:=b6 b;rw[r.name,g.name] at b;have:=aCB (by omega) (by omega) b;omega
 rw[if_neg (by rw[u];decide),if_neg v,if_neg (λc=>c D),if_neg (by omega)];obtain⟨_,o⟩:=wo h (i+1) i p;have o:(bg t i).length<=i+1:=o;rw[if_neg (by omega)];refine qz λk m G=>?_
 have l:=qp (t:=t) (a:=i) (h.par (by omega));have d:=congrArg List.length l;rw[List.length_append] at d;rcases g.attrs with e|⟨x,n,e⟩
 ·rw[e] at d m;simp only[List.length_nil] at d m;omega
 ·rw[e] at d m l;simp only[List.length_cons,List.length_nil] at d m;generalize w:(if 0<=(t.nodes.getD i default).parent then bg t (t.nodes.getD i default).parent.toNat else [])=P at l d;have z:k=P.length:=by omega
  subst z;rw[l,List.take_left,show (P++[x]).getD P.length default=x by simp];unfold tu;have B:mg x.name=true:=by rw[n.name];exact avv (by omega)
  have C:¬ P.any (λy=>decide (y.name=x.name))=true:=by
   intro c;rw[List.any_eq_true] at c;obtain⟨y,f,b⟩:=c;rw[<-w] at f;split at f
   ·rename_i E;obtain⟨j,q,A⟩:=(wo h _ _ (by omega)).1 y f;have b:=b6 b;rw[A.name,n.name] at b;have:=aAg (by omega) (by omega) b;omega
   ·cases f
  rw[if_neg (by rw[B];decide),if_neg C,aqJ n]
theorem avA(h:oT t){i:Nat}(p:i<t.ak.length):oq t i=0:=by
 have a:=h.fq i p;have s:=h.m5;unfold oq;have n:mg (t.ak.getD i default).name=true:=by rw[a.name];exact avw (by omega)
 have o:¬ (t.ak.take i).any (λy=>decide (y.name=(t.ak.getD i default).name))=true:=by
  intro c;rw[List.any_eq_true] at c;obtain⟨y,r,b⟩:=c;obtain⟨j,q,e⟩:=List.getElem_of_mem r;rw[List.length_take] at q;rw[List.getElem_take] at e;have d:=h.fq j (by omega);have m:t.ak.getD j default=t.ak[j]:=by simp[show j<t.ak.length by omega]
  rw[m,e] at d;have b:=b6 b;rw[d.name,a.name] at b;have:=aAh (by omega) (by omega) b;omega
 obtain⟨⟨f,g⟩,k,l⟩:=a.bounds;rw[if_neg (by rw[n];decide),if_neg o,if_pos];rw[f,g,k,l,xU.2 a.src,xU.2 a.dst];decide
theorem oT.valid(h:oT t):(gR t).2=0:=by have b:=h.pos;have c:=h.n6;have d:=h.m5;unfold gR;rw[if_neg (by omega),if_neg (by omega),gQ λj _ a=>avz h a];dsimp only;rw[gQ λj _ a=>avA h a]
theorem oT.ok(h:oT t):eE t:=qU h.vG h.valid
theorem oT.range(h:oT t){a:Nat}(d:a<t.nodes.length){x:Attr}(f:x∈bg t a) : -3<=x.low/\x.low<=x.high/\x.high<=11:=by obtain⟨j,_,e⟩:=(wo h _ _ d).1 x f;rcases e.how with ⟨_,b,c,g⟩|⟨_,b,c⟩<;>omega
end
theorem Mw(N:List ah)(E:List au)(next:Int):bA (c8 N E next)=N:=by
 unfold bA c8 cD;refine List.ext_getElem (by simp) λi b a=>?_
 simp[a]
theorem wq:∀ (r:List aQ) (l:List ah) (n:ah) (k:Nat),n∈l->(∀v∈r,v.id=n.id->v.attr≠(k:Int))->∃m∈(eW l r).1,m.id=n.id/\m.values[k]? = n.values[k]?
 | [],l,n,k,h,_=>⟨n,h,rfl,rfl⟩
 |v :: r,l,n,k,h,f=>by
  have d:mZ v n∈l.map (mZ v):=List.mem_map_of_mem h;have c:(mZ v n).values[k]? = n.values[k]?:=by
   unfold mZ;split
   ·rename_i a;unfold jB gw at a;simp only[Bool.and_eq_true,Bool.not_eq_true',decide_eq_true_eq,decide_eq_false_iff_not] at a;have b:=f v (List.mem_cons_self ..) a.1.symm;show (n.values.set v.attr.toNat v.new)[k]? = _;rw[List.getElem?_set_ne (by omega)]
   ·rfl
  have j:∀w∈r,w.id=(mZ v n).id->w.attr≠(k:Int):=λw hw e=>f w (List.mem_cons_of_mem _ hw) (by rw[pg] at e;exact e)
  rw[eW];split
  ·obtain⟨m,b,g,i⟩:=wq r _ _ k d j;exact⟨m,b,by rw[g,pg],by rw[i,c]⟩
  ·exact⟨_,d,pg v n,c⟩
theorem Hs:∀ (r:List aQ) (l:List ah),r.Pairwise fF->(eW l r).2=true->∀v∈r,∃m∈(eW l r).1,m.id=v.id/\0<=v.attr/\m.values[v.attr.toNat]? = some v.new
 | [],l,_,_,v,hv=>by cases hv
 |w :: r,l,o,h,v,hv=>by
  obtain⟨q,s⟩:=List.pairwise_cons.1 o;rw[eW] at h ⊢;split at h;rotate_left
  ·cases h
  rename_i b;rw[if_pos b];rcases List.mem_cons.1 hv with e|hv
  ·subst e;obtain⟨n,k,a⟩:=List.any_eq_true.1 b;have i:=a;unfold jB gw at a;simp only[Bool.and_eq_true,Bool.not_eq_true',decide_eq_true_eq,decide_eq_false_iff_not] at a;have g:mZ v n={ n with values:=n.values.set v.attr.toNat v.new }:=by unfold mZ;rw[if_pos i]
   have j:mZ v n∈l.map (mZ v):=List.mem_map_of_mem k;obtain⟨m,c,d,f⟩:=wq r _ _ v.attr.toNat j λx p e=>by rw[pg] at e;rcases q x p with h4|h4<;>omega
   refine⟨m,c,by rw[d,pg];exact a.1,by omega,?_⟩;rw[f,g];show (n.values.set v.attr.toNat v.new)[v.attr.toNat]? = _;rw[List.getElem?_set_self (by omega)]
  ·exact Hs r _ s h v hv
def Cx(m:ay)(l:List aQ):Prop:=∀v∈l,∃n∈bA m,n.id=v.id/\0<=v.attr/\n.values[v.attr.toNat]? = some v.new
section
variable{t:Types}{a:ay}{p q:aH}
theorem uE:bA (bf a p)=kU (jh a p++p.aP):=Mw ..
theorem Mx(h:bH t a p):Cx (bf a p) p.values:=λv d=>by obtain⟨m,b,c⟩:=Hs p.values _ h.ord.va h.va v d;exact⟨m,by rw[uE];exact oa.2 (List.mem_append_left _ b),c⟩
theorem My(h:j0 t a p q)(B:ji a p q=[])(D:bH t (bf a p) (bK p q)):Cx (bf (bf a p) (bK p q)) p.values/\Cx (bf (bf a p) (bK p q)) q.values:=by
 obtain⟨s,_,_,u⟩:=xy B h.ap h.aq;have l:Cx (bf (bf a p) (bK p q)) p.values:=λv b=>by
  obtain⟨n,f,c,g,i⟩:=Mx h.ap v b;have hl:n∈less dV (bA (bf a p)) (bK p q).ax:=by
   refine List.mem_filter.2 ⟨f,?_⟩;rw[Bool.not_eq_true',List.any_eq_false];intro x j e;have e:=kz.1 e;have j:n∈(bK p q).ax:=by rw[e];exact j
   have C:n∈q.ax:=(List.mem_filter.1 j).1;have:=s.2 v b;rw[lS.2 ⟨n,C,c⟩] at this;cases this
  obtain⟨m,y,z,A⟩:=wq (bK p q).values _ n v.attr.toNat hl λw hw e d=>by obtain⟨_,r⟩:=List.mem_filter.1 hw;rw[Bool.not_eq_true',List.any_eq_false] at r;refine r v b ?_;rw[Bool.and_eq_true];exact⟨dr (by omega),dr (by omega)⟩
  exact⟨m,by rw[uE];exact oa.2 (List.mem_append_left _ y),by rw[z,c],g,by rw[A,i]⟩
 refine⟨l,λv b=>?_⟩;cases o:p.values.any λw=>decide (v.id=w.id)&&decide (v.attr=w.attr) with
 |true=>obtain⟨w,hw,e⟩:=List.any_eq_true.1 o;rw[Bool.and_eq_true] at e;have k:=b6 e.1;have d:=b6 e.2;obtain⟨n,f,c,g,i⟩:=l w hw;rw[k,d,<-u w hw v b k.symm d.symm];exact⟨n,f,c,g,i⟩
 |false=>exact Mx D v (List.mem_filter.2 ⟨b,by rw[Bool.not_eq_true'];exact o⟩)
end
structure uo(a b:ay):Prop where
 next:a.next<=b.next
 node:∀n∈bA b,a.next<=n.id\/∃m∈bA a,m.id=n.id/\m.type=n.type
 fq:∀e∈cC b,a.next<=e.id\/e∈cC a
theorem uo.refl(a:ay):uo a a:=⟨Int.le_refl _,λn c=>.inr ⟨n,c,rfl,rfl⟩,λe b=>.inr b⟩
theorem uo.trans{a b c:ay}(h:uo a b)(k:uo b c):uo a c:=by
 refine⟨Int.le_trans h.next k.next,λn p=>?_,λe j=>?_⟩
 ·rcases k.node n p with h1|⟨m,l,d,f⟩
  ·exact .inl (Int.le_trans h.next h1)
  ·rcases h.node m l with h1|⟨q,o,g,i⟩
   ·exact .inl (by rw[<-d];exact h1)
   ·exact .inr ⟨q,o,g.trans d,i.trans f⟩
 ·rcases k.fq e j with h1|h1
  ·exact .inl (Int.le_trans h.next h1)
  ·exact h.fq e h1
section
variable{t:Types}{a b:ay}
end
section
variable{t:Types}{a:ay}{p q:aH}
theorem Mz{N:List ah}{E:List au}{next:Int}(h:∀e∈E,0<=cA (N.map ah.id) e.src/\0<=cA (N.map ah.id) e.dst):cC (c8 N E next)=E:=by
 unfold cC;refine List.ext_getElem (by simp[c8]) λi k a=>?_
 obtain⟨f,j⟩:=h _ (l8 a);rw[List.getElem_map,List.getElem_range];have g:∀n,0<=cA (N.map ah.id) n->(N.map ah.id).getD (cA (N.map ah.id) n).toNat default=n:=λn d=>by rw[List.getD_eq_getElem?_getD,Mo d];rfl
 have b:(E.map au.id).getD i default=E[i].id:=by simp[a]
 have c:(E.map (jZ (N.map ah.id))).getD i default=jZ (N.map ah.id) E[i]:=by simp[a]
 show (⟨(E.map au.id).getD i default,((E.map (jZ (N.map ah.id))).getD i default).type,(N.map ah.id).getD ((E.map (jZ (N.map ah.id))).getD i default).src.toNat default,(N.map ah.id).getD ((E.map (jZ (N.map ah.id))).getD i default).dst.toNat default⟩:au)=_;rw[b,c];unfold jZ;rw[g _ f,g _ j]
theorem akn(h:eX t (bf a p)):cC (bf a p)=nt (lB a p++p.aM):=by
 refine Mz λe d=>?_
 obtain⟨i,f,rfl⟩:=List.getElem_of_mem d;have hl:(bf a p).host.graph.ak.length=(nt (lB a p++p.aM)).length:=by simp[bf,c8]
 have b:=h.host.graph.fq i (by omega);have c:(bf a p).host.graph.ak.getD i default=jZ ((kU (jh a p++p.aP)).map ah.id) (nt (lB a p++p.aM))[i]:=by simp[bf,c8,f]
 rw[c] at b;exact⟨b.2.1.1,b.2.2.1⟩
theorem x4.mem{l m:List ah}(h:x4 l m){n:ah}(b:n∈l):∃x∈m,x.id=n.id/\x.type=n.type:=by
 have a:(n.id,n.type,n.values.length)∈l.map λn=>(n.id,n.type,n.values.length):=List.mem_map_of_mem (f:=λn:ah=>(n.id,n.type,n.values.length)) b
 rw[show l.map (λn=>(n.id,n.type,n.values.length))=m.map λn=>(n.id,n.type,n.values.length) from h] at a;obtain⟨x,c,e⟩:=List.mem_map.1 a;simp only[iU] at e;exact⟨x,c,e.1,e.2.1⟩
theorem Ht(h:j0 t a p q):AB (bK p q):=by
 have d:p.next.x0=q.next.x0:=by rw[h.ap.next,h.aq.next]
 have f:=h.gq.next
 refine⟨by show p.next.x1<=p.next.x1+q.next.x1-q.next.x0;omega,λn c=>?_,λn c=>?_⟩
 ·obtain⟨m,b,rfl⟩:=List.mem_map.1 c;have:=h.gq.n m b;show p.next.x1<=dR q.next.x0 (p.next.x1-p.next.x0) m.id
  unfold dR;rw[if_pos this];omega
 ·obtain⟨m,b,rfl⟩:=List.mem_map.1 c;have:=h.gq.e m b;show p.next.x1<=dR q.next.x0 (p.next.x1-p.next.x0) m.id
  unfold dR;rw[if_pos this];omega
end
def Cy(l:List dM):Prop:=∀x∈l,(0<=x.x0/\x.x0<=255)/\(0<=x.x1/\x.x1<=255)
theorem xD{a b:Int}(c:0<=a)(d:0<b):0<=a.tmod b/\a.tmod b<b:=⟨Int.tmod_nonneg _ c,Int.tmod_lt_of_pos _ d⟩
theorem aGj{a b:Int}(c:0<=a)(d:0<b):0<=a.tdiv b/\a.tdiv b<=a:=by rw[Int.tdiv_eq_ediv_of_nonneg c];exact⟨Int.ediv_nonneg c (by omega),Int.ediv_le_self _ c⟩
theorem avB{x:Int}(h:0<=x/\x<=255):3<=i64.wrap (3+(i64.wrap (IntKind.u8.wrap (x.tdiv 4))).tmod 9)/\i64.wrap (3+(i64.wrap (IntKind.u8.wrap (x.tdiv 4))).tmod 9)<=11:=by have a:=aGj (b:=4) h.1 (by decide);rw[aD5 (by omega),dy (n:=x.tdiv 4) (by omega)];have c:=xD (b:=9) a.1 (by decide);rw[dy (by omega)];omega
theorem Hu{i:Nat}{x:Int}(h:0<=x/\x<=255):x7 i ⟨uf.extract i (i+1),-3,i64.wrap (3+(i64.wrap (IntKind.u8.wrap (x.tdiv 4))).tmod 9),[]⟩:=⟨rfl,.inl ⟨rfl,rfl,avB h⟩⟩
theorem Hv{i:Nat} : x7 i ⟨uf.extract i (i+1),0,1,[(⟨#[111,102,102]⟩:ByteArray),(⟨#[111,110]⟩:ByteArray)]⟩:=⟨rfl,.inr ⟨rfl,rfl,rfl⟩⟩
theorem aEd{i:Nat}{x:Int}(e:i<6)(h:0<=x/\x<=255){c:Bool}{a:List Attr}(d:a=[]\/∃x,x7 i x/\a=[x]) :
  x8 i ⟨ue.extract i (i+1),i64.wrap ((i64.wrap x).tmod ((i:Int)+1)-1),c,a⟩:=by
 refine⟨rfl,?_,d⟩;have:=xD (b:=(i:Int)+1) h.1 (by omega);dsimp only;rw[dy (n:=x) (by omega),dy (by omega)];omega
theorem MA{α:Type} [Inhabited α]{P:Nat->α->Prop}{l:List α}{x:α}(h:∀i,i<l.length->P i (l.getD i default))(c:P l.length x):∀i,i<(l++[x]).length->P i ((l++[x]).getD i default):=λi a=>by
 rw[List.length_append] at a;simp only[List.length_cons,List.length_nil] at a;rcases Nat.lt_or_ge i l.length with h1|h1
 ·have e:(l++[x]).getD i default=l.getD i default:=by simp[List.getD_eq_getElem?_getD,List.getElem?_append_left h1]
  rw[e];exact h i h1
 ·have b:i=l.length:=by omega
  subst b;have e:(l++[x]).getD l.length default=x:=by simp
  rw[e];exact c
theorem aCC{ns es:List dM}(H:Cy ns)(J:Cy es):Ok (js ns es) oT:=by
 unfold js;have K:(((#[65,66,67,68,69,70]:Array UInt8).size:Nat):Int)=6:=rfl;have L:(((#[117,118,119,120,121,122]:Array UInt8).size:Nat):Int)=6:=rfl;have M:(((#[101,102,103,104,105]:Array UInt8).size:Nat):Int)=5:=rfl;refine xo (λs:Int×List ic=>s.1=s.2.length/\s.2.length<=6/\∀i,i<s.2.length->x8 i (s.2.getD i default))
  (λs=>(0<s.2.length/\s.2.length<=6)/\∀i,i<s.2.length->x8 i (s.2.getD i default)) (λs=>6-s.2.length) ⟨rfl,by decide,λi y=>absurd y (Nat.not_lt_zero i)⟩ (by unfold fuel;simp) ?_ ?_
 ·rintro⟨k,l⟩ D v ⟨F,j,g⟩ r q;dsimp only at F j g r q ⊢;subst F;have A:i64.wrap ((l.length:Int)+1)=(l.length:Int)+1:=dy (by omega);have B:((l.length:Int)+1).toNat=l.length+1:=by omega
  have go : ∀ (x0 x1 : Int) (C : Bool), (0 ≤ x0 ∧ x0 ≤ 255) → (0 ≤ x1 ∧ x1 ≤ 255) → l.length < 6 → ∀ t : List Attr, (t = [] ∨ ∃ x, x7 l.length x ∧ t = [x]) →
    Ok (D ((l.length:Int)+1,l++[⟨ue.extract l.length (l.length+1),i64.wrap ((i64.wrap x0).tmod ((l.length:Int)+1)-1),C,t⟩])) oT:=λx0 x1 C I N hl t has =>
   r _ ⟨by simp,by simp;omega,MA (P:=x8) g (aEd hl I has)⟩ (by simp;omega)
  rw[A,K,L,Int.toNat_natCast,B];refine bV (λh=>?_) (λh=>?_)
  ·have h:=b6 h;have hl:l.length<6:=by omega
   refine bV (λd=>?_) (λd=>?_)
   ·have d:=b6 d;have f:((l.length:Int)).toNat<ns.length:=by omega
    refine kS (by omega) f ?_;obtain⟨c,a⟩:=H _ (l8 f);generalize ns[((l.length:Int)).toNat]=e at c a ⊢;refine bU (by omega) (bU (by omega) (bU (by omega) ?_));refine bV (λ_=>bU (by omega) (go _ _ _ c a hl _ (.inr ⟨_,Hu a,rfl⟩))) (λ_=>?_);exact bV (λ_=>bU (by omega) (go _ _ _ c a hl _ (.inr ⟨_,Hv,rfl⟩))) (λ_=>bU (by omega) (go _ _ _ c a hl _ (.inl rfl)))
   ·have z:(0:Int)<=0/\(0:Int)<=255:=by decide
    refine bU (by omega) (bU (by omega) (bU (by omega) ?_));refine bV (λ_=>bU (by omega) (go _ _ _ z z hl _ (.inr ⟨_,Hu z,rfl⟩))) (λ_=>?_);exact bV (λ_=>bU (by omega) (go _ _ _ z z hl _ (.inr ⟨_,Hv,rfl⟩))) (λ_=>bU (by omega) (go _ _ _ z z hl _ (.inl rfl)))
  ·have h:=dK h;have p:Ok (v ((l.length:Int),l)) oT:=q _ ⟨⟨by dsimp only;omega,j⟩,g⟩;refine bV (λd=>?_) (λ_=>p);have d:=b6 d;refine bV (λw=>?_) (λ_=>p);have hl:l.length<6:=by have:=b6 w;omega
   have f:((l.length:Int)).toNat<ns.length:=by omega
   refine kS (by omega) f ?_;obtain⟨c,a⟩:=H _ (l8 f);generalize ns[((l.length:Int)).toNat]=e at c a ⊢;refine bU (by omega) (bU (by omega) (bU (by omega) ?_));refine bV (λ_=>bU (by omega) (go _ _ _ c a hl _ (.inr ⟨_,Hu a,rfl⟩))) (λ_=>?_);exact bV (λ_=>bU (by omega) (go _ _ _ c a hl _ (.inr ⟨_,Hv,rfl⟩))) (λ_=>bU (by omega) (go _ _ _ c a hl _ (.inl rfl)))
 ·rintro⟨k,l⟩ ⟨⟨E,j⟩,g⟩;dsimp only at E j g ⊢;refine xo (λs:Int×List mI=>s.1=s.2.length/\s.2.length<=5/\∀i,i<s.2.length->Cv l.length i (s.2.getD i default))
   (λs=>s.2.length<=5/\∀i,i<s.2.length->Cv l.length i (s.2.getD i default)) (λs=>5-s.2.length) ⟨rfl,by decide,λi y=>absurd y (Nat.not_lt_zero i)⟩ (by unfold fuel;simp) ?_ ?_
  ·rintro⟨k,m⟩ D v ⟨G,u,o⟩ r q;dsimp only at G u o r q ⊢;subst G;have A:i64.wrap ((m.length:Int)+1)=(m.length:Int)+1:=dy (by omega);have B:((m.length:Int)+1).toNat=m.length+1:=by omega
   have p:Ok (v ((m.length:Int),m)) oT:=q _ ⟨u,o⟩;rw[A,M,Int.toNat_natCast,B];refine bV (λd=>?_) (λ_=>p);have d:=b6 d;refine bV (λw=>?_) (λ_=>p);have hl:m.length<5:=by have:=b6 w;omega
   have f:((m.length:Int)).toNat<es.length:=by omega
   refine bU (by omega) ?_;refine kS (by omega) f ?_;obtain⟨c,a⟩:=J _ (l8 f);generalize es[((m.length:Int)).toNat]=e at c a ⊢;refine bU (by omega) (bU (by omega) (bU (by omega) ?_));have t0:=xD (b:=(l.length:Int)) c.1 (by omega);have t1:=xD (b:=(l.length:Int)) a.1 (by omega);rw[dy (n:=e.x0) (by omega),dy (n:=e.x1) (by omega)];exact r _ ⟨by simp,by simp;omega,MA (P:=Cv l.length) o ⟨rfl,t0,t1,⟨rfl,rfl⟩,rfl,rfl⟩⟩ (by simp;omega)
  ·rintro⟨k,m⟩ ⟨u,o⟩;exact .mk ⟨E,j,u,g,o⟩
def Hw(d:dO):Prop:=(∀x∈d.nodes,(0<=x.x0/\x.x0<=255)/\(0<=x.x1/\x.x1<=255))/\(∀x∈d.ak,(0<=x.x0/\x.x0<=255)/\(0<=x.x1/\x.x1<=255)/\(0<=x.x2/\x.x2<=255))
structure Roomy(t:Types):Prop where
 vG:fK t
 valid:(gR t).2=0
 room:∀a,a<t.nodes.length->∀x∈bg t a,-1000000<=x.low/\x.low<=x.high/\x.high<=1000000
theorem oT.roomy{t:Types}(h:oT t):Roomy t:=⟨h.vG,h.valid,λa b x c=>by have:=h.range b c;omega⟩
section
variable{t:Types}
theorem Roomy.ok(h:Roomy t):eE t:=qU h.vG h.valid
theorem Roomy.aEe(h:Roomy t){a:Nat}(b:a<t.nodes.length):(bg t a).length<=8:=Mr (h.ok.node a b)
theorem anp(h:Roomy t):Ok (gU t) (λl=>∀k∈l,(0<=k/\k<t.nodes.length)/\(t.nodes.getD k.toNat default).abs=false):=by
 have j:=h.vG.nodes;unfold gU;refine bU (bl (by omega)) ?_;refine mz (λi (l:List Int)=>l.length<=i/\∀k∈l,(0<=k/\k<t.nodes.length)/\(t.nodes.getD k.toNat default).abs=false) (Nat.zero_le _) ⟨by simp,λk hk=>(by cases hk)⟩ ?_ ?_
 ·rintro i l f _ b ⟨g,a⟩ d;refine oK b (bV (λ_=>d _ ⟨by omega,a⟩) (λc=>bU (by omega) (d _ ⟨by simp;omega,λk hk=>?_⟩)));rcases List.mem_append.1 hk with hk|hk
  ·exact a k hk
  ·simp only[List.mem_cons,List.not_mem_nil,or_false] at hk;subst hk;refine⟨⟨by omega,by omega⟩,?_⟩;rw[Int.toNat_natCast];have e:t.nodes.getD i default=t.nodes[i]:=by simp[b]
   rw[e];exact c
 ·rintro l ⟨_,a⟩;exact .mk a
def D1(t:Types)(k:Int)(v:List Int):Prop:=(0<=k/\k<t.nodes.length)/\lJ t k v=0
theorem aCD{k:Int}{v:List Int}(c:0<=k/\k<t.nodes.length)(a:(t.nodes.getD k.toNat default).abs=false)(hl:v.length=(bg t k.toNat).length)(d:∀j,j<v.length->((bg t k.toNat).getD j default).low<=v.getD j default/\v.getD j default<=((bg t k.toNat).getD j default).high):D1 t k v:=by
 refine⟨c,?_⟩;unfold lJ;rw[if_neg (by omega),if_neg (by rw[a];decide),if_neg (λh=>h hl)];refine qz λj _ b=>?_
 have:=d j b;unfold mK;rw[if_neg (by omega)]
theorem kK{α:Type} [Inhabited α]{l:List α}{x:α}{i:Nat}(h:i<l.length):(l++[x]).getD i default=l.getD i default:=by simp[List.getD_eq_getElem?_getD,List.getElem?_append_left h]
theorem rL{α:Type} [Inhabited α]{l:List α}{x:α} : (l++[x]).getD l.length default=x:=by simp
theorem uI{α:Type} [Inhabited α]{l:List α}{i:Nat}(h:i<l.length):l.getD i default=l[i]:=by simp[h]
structure MB(t:Types)(h:Host):Prop where
 ok:lY t h
 n8:h.graph.nodes.length<=8
 m10:h.graph.ak.length<=10
theorem aAi(f:Roomy t){ns:List Int}{vs:List (List Int)}{es:List Edge}(q:ns.length<=8)(r:vs.length=ns.length)(h:∀j,j<ns.length->D1 t (ns.getD j default) (vs.getD j default))(s:es.length<=10)
  (l:∀e∈es,(0<=e.type/\e.type<t.ak.length)/\(0<=e.src/\e.src<ns.length)/\(0<=e.dst/\e.dst<ns.length)/\qA t e.type (ns.getD e.src.toNat default) (ns.getD e.dst.toNat default)=true):MB t ⟨⟨ns,es⟩,vs⟩:=by
 have n12:=f.ok.n12;have m20:=f.ok.m20;refine⟨⟨f.valid,?_,r,λi b=>(h i b).2,λi b=>?_⟩,q,s⟩
 ·unfold pP;rw[if_neg (by dsimp only;omega),if_neg,if_neg]
  ·intro c;obtain⟨e,u,a⟩:=List.any_eq_true.1 c;obtain⟨g,n,o,_⟩:=l e u;rw[Bool.not_eq_true'] at a;unfold tZ rY at a;rw[dr g.1,dr (by omega:e.type<=99),dr n.1,dr (by dsimp only;omega:e.src<=(_:Int)-1),dr o.1,dr (by dsimp only;omega:e.dst<=(_:Int)-1)] at a;cases a
  ·intro c;obtain⟨k,d,a⟩:=List.any_eq_true.1 c;have d:k∈ns:=d;obtain⟨j,m,rfl⟩:=List.getElem_of_mem d;have:=(h j m).1;rw[uI m] at this;rw[Bool.not_eq_true'] at a;unfold rY at a;rw[dr this.1,dr (by omega:ns[j]<=99)] at a;cases a
 ·have b:i<es.length:=b;obtain⟨g,_,_,p⟩:=l _ (l8 b);unfold rZ;dsimp only;rw[uI b,if_neg (by omega),if_pos p]
theorem MC(w:Roomy t){d:dO}(O:Hw d):Ok (iq t d) (MB t):=by
 have H:=w.ok;have n12:=H.n12;have m20:=H.m20;unfold iq;refine mL (anp w) λC hC=>?_
 refine xo (λs:Int×List Int×List (List Int)=>s.1=s.2.1.length/\s.2.1.length<=8/\s.2.2.length=s.2.1.length/\∀j,j<s.2.1.length->D1 t (s.2.1.getD j default) (s.2.2.getD j default))
  (λs=>s.2.1.length<=8/\s.2.2.length=s.2.1.length/\∀j,j<s.2.1.length->D1 t (s.2.1.getD j default) (s.2.2.getD j default)) (λs=>8-s.2.1.length) ⟨rfl,by decide,rfl,λi B=>absurd B (Nat.not_lt_zero i)⟩ (by unfold fuel;simp) ?_ ?_
 ·rintro⟨k,ns,vs⟩ W V ⟨M,q,o,p⟩ u f;dsimp only at M q o p u f ⊢;subst M;refine bV (λy=>?_) (λ_=>f _ ⟨q,o,p⟩);refine bV (λz=>?_) (λ_=>f _ ⟨q,o,p⟩);refine bV (λl=>?_) (λ_=>f _ ⟨q,o,p⟩);have y:=b6 y;have z:=b6 z;have l:=b6 l;have P:((ns.length:Int)).toNat<d.nodes.length:=by omega
  refine kS (by omega) P ?_;obtain⟨E,F⟩:=O.1 _ (l8 P);generalize d.nodes[((ns.length:Int)).toNat]=e at E F ⊢;refine bU (by omega) ?_;rw[dy (n:=e.x0) (by omega)];have t0:=xD (b:=(C.length:Int)) E.1 l;have N:(e.x0.tmod (C.length:Int)).toNat<C.length:=by omega
  refine kS t0.1 N ?_;obtain⟨m,c⟩:=hC _ (l8 N);generalize C[(e.x0.tmod (C.length:Int)).toNat]=D at m c ⊢;refine ok_eq (show mO t D=some (bg t D.toNat,0) from uc ⟨H,m⟩) ?_;have U:D.toNat<t.nodes.length:=by omega
  have Z:=w.aEe U;have Q:=w.room D.toNat U;dsimp only;generalize hA:bg t D.toNat=A at Z Q ⊢;refine bU (bl (by omega)) ?_;refine mz (λi (v:List Int)=>v.length=i/\∀j,j<i->(A.getD j default).low<=v.getD j default/\v.getD j default<=(A.getD j default).high) (Nat.zero_le _) ⟨rfl,λj g=>absurd g (Nat.not_lt_zero j)⟩ ?_ ?_
  ·rintro i v am _ B ⟨I,J⟩ ad;refine oK B ?_;have r:=Q _ (l8 B);have w1:i64.wrap (i64.wrap (A[i].high-A[i].low)+1)=A[i].high-A[i].low+1:=by rw[dy (n:=A[i].high-A[i].low) (by omega),dy (by omega)]
   have w2:i64.wrap (i64.wrap e.x1+i64.wrap (7 * ((i:Nat):Int)))=e.x1+7 * (i:Int):=by rw[dy (n:=e.x1) (by omega),dy (n:=7 * ((i:Nat):Int)) (by omega),dy (by omega)]
   rw[w1,w2];have t1:=xD (a:=e.x1+7 * (i:Int)) (b:=A[i].high-A[i].low+1) (by omega) (by omega);refine bU (by omega) (bU (by omega) ?_);rw[dy (n:=A[i].low+(e.x1+7 * (i:Int)).tmod (A[i].high-A[i].low+1)) (by omega)];refine ad _ ⟨by simp;omega,λj g=>?_⟩;rcases Nat.lt_or_ge j i with hji|hji
   ·rw[kK (by omega)];exact J j hji
   ·have:j=i:=by omega
    subst this;subst I;rw[rL,uI B];omega
  ·rintro v ⟨I,J⟩;refine bU (by omega) (bU (by omega) ?_);rw[dy (n:=(ns.length:Int)+1) (by omega)];refine u _ ⟨by simp,by simp;omega,by simp;omega,λj g=>?_⟩ (by simp;omega);dsimp only at g ⊢;rw[List.length_append] at g;simp only[List.length_cons,List.length_nil] at g;rcases Nat.lt_or_ge j ns.length with hji|hji
   ·rw[kK hji,kK (by omega)];exact p j hji
   ·have X:j=ns.length:=by omega
    subst X;have Y:(vs++[v]).getD ns.length default=v:=by rw[<-o];exact rL
    rw[rL,Y];subst hA;exact aCD m c I λj g=>J j (by omega)
 ·rintro⟨k,ns,vs⟩ ⟨q,o,p⟩;dsimp only at q o p ⊢;refine xo (λs:Int×List Edge=>(0<=s.1/\s.1<=10/\s.2.length<=s.1)/\∀e∈s.2,(0<=e.type/\e.type<t.ak.length)/\(0<=e.src/\e.src<ns.length)/\(0<=e.dst/\e.dst<ns.length)/\qA t e.type (ns.getD e.src.toNat default) (ns.getD e.dst.toNat default)=true)
   (λs=>s.2.length<=10/\∀e∈s.2,(0<=e.type/\e.type<t.ak.length)/\(0<=e.src/\e.src<ns.length)/\(0<=e.dst/\e.dst<ns.length)/\qA t e.type (ns.getD e.src.toNat default) (ns.getD e.dst.toNat default)=true)
   (λs=>(10-s.1).toNat) ⟨by simp,by simp⟩ (by unfold fuel;simp) ?_ ?_
  ·rintro⟨j,es⟩ W V ⟨m,c⟩ u f;dsimp only at m c u f ⊢;refine bV (λy=>?_) (λ_=>f _ ⟨by simp only;omega,c⟩);refine bV (λz=>?_) (λ_=>f _ ⟨by simp only;omega,c⟩);refine bV (λl=>?_) (λ_=>f _ ⟨by simp only;omega,c⟩);refine bV (λG=>?_) (λ_=>f _ ⟨by simp only;omega,c⟩);have y:=b6 y;have z:=b6 z;have l:=b6 l;have G:=b6 G;have g:j.toNat<d.ak.length:=by omega
   refine kS m.1 g ?_;obtain⟨E,F,T⟩:=O.2 _ (l8 g);generalize d.ak[j.toNat]=e at E F T ⊢;refine bU (by omega) (bU (by omega) (bU (by omega) ?_));rw[dy (n:=e.x0) (by omega),dy (n:=e.x1) (by omega),dy (n:=e.x2) (by omega),dy (n:=j+1) (by omega)];have m0:=xD (b:=(t.ak.length:Int)) E.1 G;have R:=xD (b:=(ns.length:Int)) F.1 l;have S:=xD (b:=(ns.length:Int)) T.1 l;have K:(e.x1.tmod (ns.length:Int)).toNat<ns.length:=by omega
   have L:(e.x2.tmod (ns.length:Int)).toNat<ns.length:=by omega
   refine kS R.1 K (kS S.1 L ?_);refine ok_eq (uc w.vG) ?_;refine bV (λf1=>?_) (λ_=>u _ ⟨by simp only;omega,c⟩ (by simp only;omega));refine bU (by omega) ?_;refine u _ ⟨by simp only[List.length_append,List.length_cons,List.length_nil];omega,λx hx=>?_⟩ (by simp only;omega);rcases List.mem_append.1 hx with h|h
   ·exact c x h
   ·simp only[List.mem_cons,List.not_mem_nil,or_false] at h;subst h;refine⟨m0,R,S,?_⟩;dsimp only;rw[uI K,uI L];exact f1
  ·rintro⟨j,es⟩ ⟨m,c⟩;exact .mk (aAi w q o p m c)
end
section
variable{t:Types}{x y:ay}
theorem MD(b:eE t){k:Int}{v:List Int}(e:0<=k)(h:lJ t k v=0):v.length<=8:=by
 unfold lJ at h;split at h
 ·cases h
 rename_i c;split at h
 ·cases h
 split at h
 ·cases h
 rename_i a;have a:=Decidable.of_not_not a;have d:=Mr (b.node k.toNat (by omega));omega
theorem lY.yJ(d:fK t){h:Host}(a:lY t h):qW h:=by have b:=a.graph;have f:=b.nodes;have g:=b.ak;have j:=a.sn;refine⟨⟨by omega,by omega⟩,by omega,λl hl=>?_⟩;obtain⟨i,e,rfl⟩:=List.getElem_of_mem hl;have c:=a.node i (by omega);rw[uI e] at c;have:=MD (qU d a.types) (b.kind i (by omega)).1 c;omega
theorem eX.yJ(a:fK t)(h:eX t x):lX x:=⟨h.host.yJ a,by have:=h.n40;omega,by have:=h.hG;omega⟩
theorem ag0{N:List ah}{E:List au}{next:Int}(h:eX t (c8 N E next)):cC (c8 N E next)=E:=by
 refine Mz λe c=>?_
 obtain⟨i,d,rfl⟩:=List.getElem_of_mem c;have hl:(c8 N E next).host.graph.ak.length=E.length:=by simp[c8]
 have a:=h.host.graph.fq i (by omega);have b:(c8 N E next).host.graph.ak.getD i default=jZ (N.map ah.id) E[i]:=by simp[c8,d]
 rw[b] at a;exact⟨a.2.1.1,a.2.2.1⟩
theorem avC{N:List ah}{E:List au}{next:Int}(a:N.length<=1000)(b:E.length<=1000)(c:Rows N):lX (c8 N E next):=by refine⟨⟨⟨by simpa[c8] using a,by simpa[c8] using b⟩,by simpa[c8] using a,λl hl=>?_⟩,by simp[c8];omega,by simp[c8];omega⟩;obtain⟨n,d,rfl⟩:=List.mem_map.1 hl;exact c n d
def BE(t:Types)(x y:ay):Prop:=lX y/\(eX t y->uo x y)
theorem avD(a:fK t)(b:eX t x):BE t x x:=⟨b.yJ a,λ_=>uo.refl x⟩
theorem aqM(c:fK t)(m:eX t x){i j:Nat}(d:i<x.host.values.length)(v:Int):BE t x ⟨⟨x.host.graph,x.host.values.set i ((x.host.values[i]).set j v)⟩,x.nodes,x.ak,x.next⟩:=by
 have a:=m.yJ c;refine⟨⟨⟨a.host.graph,by simpa using a.host.values,λl hl=>?_⟩,a.nodes,a.ak⟩,λo=>⟨Int.le_refl _,λn g=>?_,λe b=>.inr b⟩⟩
 ·rcases List.mem_or_eq_of_mem_set hl with h|h
  ·exact a.host.row l h
  ·rw[h,List.length_set];exact a.host.row _ (l8 d)
 ·obtain⟨k,f,rfl⟩:=sO g;exact .inr ⟨cD x k,qI f,rfl,rfl⟩
theorem ME(j:fK t)(b:eX t x){N:List ah}{E:List au}(c:N.Sublist (bA x))(d:E.Sublist (cC x)):BE t x (c8 N E x.next):=by
 have i:=b.yJ j;have g:=c.length_le;have h:=d.length_le;have n1:=b.n40;have l:=b.hG;rw[lZ] at g;rw[kW] at h;refine⟨avC (by omega) (by omega) (λn a=>jC b i.host n (c.subset a)),λk=>⟨Int.le_refl _,λn a=>?_,λe f=>?_⟩⟩
 ·rw[Mw] at a;exact .inr ⟨n,c.subset a,rfl,rfl⟩
 ·rw[ag0 k] at f;exact .inr (d.subset f)
theorem avE(g:fK t)(b:eX t x)(k:Int){v:List Int}(o:v.length<=8):BE t x ⟨⟨⟨x.host.graph.nodes++[k],x.host.graph.ak⟩,x.host.values++[v]⟩,x.nodes++[x.next],x.ak,x.next+1⟩:=by
 have c:=b.yJ g;have n1:=b.n40;have q:=b.qJ;have r:=b.host.sn;refine⟨⟨⟨⟨by simp;omega,c.host.graph.ak⟩,by simp;omega,λl hl=>?_⟩,by simp;omega,c.ak⟩,λp=>⟨by dsimp only;omega,λn i=>?_,λe f=>?_⟩⟩
 ·rcases List.mem_append.1 hl with h|h
  ·exact c.host.row l h
  ·simp only[List.mem_cons,List.not_mem_nil,or_false] at h;subst h;omega
 ·obtain⟨j,a,rfl⟩:=sO i;dsimp only at a;rw[List.length_append] at a;simp only[List.length_cons,List.length_nil] at a;rcases Nat.lt_or_ge j x.nodes.length with h|h
  ·refine .inr ⟨cD x j,qI h,?_,?_⟩
   ·show x.nodes.getD j default=(x.nodes++[x.next]).getD j default;rw[kK h]
   ·show x.host.graph.nodes.getD j default=(x.host.graph.nodes++[k]).getD j default;rw[kK (by omega)]
  ·have d:j=x.nodes.length:=by omega
   subst d;refine .inl ?_;show x.next<=(x.nodes++[x.next]).getD x.nodes.length default
   rw[rL];exact Int.le_refl _
 ·obtain⟨j,a,rfl⟩:=List.mem_map.1 f;have a:j<x.ak.length:=List.mem_range.1 a;have m:=b.host.graph.fq j (by rw[<-b.ru];exact a);refine .inr ?_;have e:fJ ⟨⟨⟨x.host.graph.nodes++[k],x.host.graph.ak⟩,x.host.values++[v]⟩,x.nodes++[x.next],x.ak,x.next+1⟩ j=fJ x j:=by unfold fJ;dsimp only;rw[kK (by omega),kK (by omega)]
  rw[e];exact Mq a
theorem avF(i:fK t)(c:eX t x)(e:Edge):BE t x ⟨⟨⟨x.host.graph.nodes,x.host.graph.ak++[e]⟩,x.host.values⟩,x.nodes,x.ak++[x.next],x.next+1⟩:=by
 have b:=c.yJ i;have n1:=c.hG;have p:=c.ru;refine⟨⟨⟨⟨b.host.graph.nodes,by simp;omega⟩,b.host.values,b.host.row⟩,b.nodes,by simp;omega⟩,λo=>⟨by dsimp only;omega,λn m=>?_,λf g=>?_⟩⟩
 ·obtain⟨k,l,rfl⟩:=sO m;exact .inr ⟨cD x k,qI l,rfl,rfl⟩
 ·obtain⟨j,a,rfl⟩:=List.mem_map.1 g;have a:=List.mem_range.1 a;dsimp only at a;rw[List.length_append] at a;simp only[List.length_cons,List.length_nil] at a;rcases Nat.lt_or_ge j x.ak.length with h|h
  ·refine .inr ?_;have e:fJ ⟨⟨⟨x.host.graph.nodes,x.host.graph.ak++[e]⟩,x.host.values⟩,x.nodes,x.ak++[x.next],x.next+1⟩ j=fJ x j:=by unfold fJ;dsimp only;rw[kK h,kK (by omega)]
   rw[e];exact Mq h
  ·have d:j=x.ak.length:=by omega
   subst d;refine .inl ?_;show x.next<=(x.ak++[x.next]).getD x.ak.length default
   rw[rL];exact Int.le_refl _
def Cz(l:List jW):Prop:=∀x∈l,(0<=x.x0/\x.x0<=255)/\(0<=x.x1/\x.x1<=255)/\(0<=x.x2/\x.x2<=255)
theorem avG(v:Roomy t)(a:eX t x){c:jW}(m:(0<=c.x0/\c.x0<=255)/\(0<=c.x1/\c.x1<=255)/\(0<=c.x2/\c.x2<=255)):Ok (iC t x c) (BE t x):=by
 have g:=v.vG;have k:=a.yJ g;have n1:=a.n40;have F:=a.hG;have G:=a.qJ;have H:=a.ru;have I:=a.host.sn;have J:=a.next
 have f:=avD g a;have A:∀l∈x.host.values,l.length<=1000000:=λl hl=>Nat.le_trans (k.host.row l hl) (by decide)
 have C:∀n∈bA x,n.values.length<=1000000:=λn s=>Nat.le_trans (jC a k.host n s) (by decide)
 unfold iC;refine ok_eq (G8 k) ?_;rw[dy (n:=c.x0) (by omega),dy (n:=c.x1) (by omega),dy (n:=c.x2) (by omega)];refine bV (λ_=>?_) (λ_=>?_)
 ·refine bV (λe=>?_) (λ_=>.mk f);have e:=b6 e;have o:=xD (b:=(x.nodes.length:Int)) m.2.1.1 e;refine bU (by omega) ?_;have i:(c.x1.tmod (x.nodes.length:Int)).toNat<x.host.values.length:=by omega
  refine kS o.1 i ?_;refine bV (λh=>?_) (λ_=>.mk f);have h:=b6 h;have D:=xD (b:=((x.host.values[(c.x1.tmod (x.nodes.length:Int)).toNat]).length:Int)) m.2.2.1 h;refine bU (by omega) (bU (by omega) ?_);refine kS D.1 (by omega) ?_;exact .mk (aqM g a i _)
 refine bV (λ_=>?_) (λ_=>?_)
 ·refine bV (λe=>?_) (λ_=>.mk f);have e:=b6 e;have o:=xD (b:=(x.nodes.length:Int)) m.2.1.1 e;refine bU (by omega) ?_;unfold fR;rw[aT (GH a A),cond_false];have i:(c.x1.tmod (x.nodes.length:Int)).toNat<(bA x).length:=by rw[lZ];omega
  rw[gO o.1 i,aT (Li ⟨bA x,cC x⟩ _ (by rw[lZ];omega) C)];have j:=Co (q:=dV) (l:=bA x) (n:=(bA x)[(c.x1.tmod (x.nodes.length:Int)).toNat]);have hl:=j.length_le;rw[lZ] at hl;rw[aT (tX _ x.next (by dsimp only;omega) (by dsimp only;rw[kW];omega) (λn s=>jC a k.host n (j.subset s)))];exact .mk (ME g a j (List.Sublist.refl _))
 refine bV (λ_=>?_) (λ_=>?_)
 ·refine bV (λe=>?_) (λ_=>.mk f);have e:=b6 e;have o:=xD (b:=(x.ak.length:Int)) m.2.1.1 e;refine bU (by omega) ?_;unfold fR;rw[aT (GH a A),cond_true];have i:(c.x1.tmod (x.ak.length:Int)).toNat<(cC x).length:=by rw[kW];omega
  rw[gO o.1 i,aT (Lh ⟨bA x,cC x⟩ _ (by rw[kW];omega))];have j:=Co (q:=qK) (l:=cC x) (n:=(cC x)[(c.x1.tmod (x.ak.length:Int)).toNat]);have hl:=j.length_le;rw[kW] at hl;rw[aT (tX _ x.next (by dsimp only;rw[lZ];omega) (by dsimp only;omega) (jC a k.host))];exact .mk (ME g a (List.Sublist.refl _) j)
 refine bV (λ_=>?_) (λ_=>?_)
 ·refine mL (MC v (d:=⟨[⟨c.x1,c.x2⟩],[]⟩) ⟨λz r=>?_,λz r=>by cases r⟩) λp u=>?_
  ·simp only[List.mem_cons,List.not_mem_nil,or_false] at r;subst r;exact m.2
  refine bV (λe=>?_) (λ_=>.mk f);have e:=b6 e;have E:=u.ok.sn;have y:0<p.graph.nodes.length:=by omega
  refine oK (by omega) (oK (by omega) ?_);refine bU (by omega) (bU (by omega) (bU (by omega) ?_));rw[dy (n:=x.next+1) (by omega)];have w:=u.ok.node 0 y;have B:=(u.ok.graph.kind 0 y).1;rw[uI (l:=p.values) (by omega)] at w;exact .mk (avE g a _ (MD v.ok B w))
 refine bV (λ_=>?_) (λ_=>.mk f);refine bV (λe=>?_) (λ_=>.mk f);refine bV (λh=>?_) (λ_=>.mk f);have e:=b6 e;have h:=b6 h;refine bU (by omega) (bU (by omega) (bU (by omega) (bU (by omega) (bU (by omega) ?_))));rw[dy (n:=x.next+1) (by omega)];exact .mk (avF g a _)
theorem Hx(f:Roomy t)(k:eX t x){l:List jW}(hl:l.length<=1000000)(j:Cz l):Ok (eL t x l) (λy=>eX t y/\uo x y):=by
 unfold eL;refine bU (bl (by omega)) ?_;refine mz (λ_ (s:List Int×List Edge×List (List Int)×List Int×List Int×Int)=>eX t ⟨⟨⟨s.1,s.2.1⟩,s.2.2.1⟩,s.2.2.2.1,s.2.2.2.2.1,s.2.2.2.2.2⟩/\uo x ⟨⟨⟨s.1,s.2.1⟩,s.2.2.1⟩,s.2.2.2.1,s.2.2.2.2.1,s.2.2.2.2.2⟩) (Nat.zero_le _) ⟨k,uo.refl x⟩ ?_ ?_
 ·rintro i s m _ c ⟨a,b⟩ e;refine oK c ?_;refine mL (avG f a (j _ (l8 c))) λy g=>?_
  refine ok_eq (nc f.vG g.1) ?_;refine bV (λh=>?_) (λ_=>e _ ⟨a,b⟩);have d:=eC.1 (b6 h);exact e _ ⟨d,b.trans (g.2 d)⟩
 ·rintro s ⟨a,b⟩;exact .mk ⟨a,b⟩
end
section
variable{t:Types}{a b:ay}{p q:aH}
theorem MF(s:Int)(n:Nat)(e:0<=s/\s<=1000000)(d:n<=1000000):fQ s (n:Int)=some ((List.range n).map λi:Nat=>s+(i:Int)):=by refine Ok.eq ?_;unfold fQ;rw[Int.toNat_natCast];refine bU (bl (by omega)) ?_;refine mz (λi (l:List Int)=>l=(List.range i).map λi:Nat=>s+(i:Int)) (Nat.zero_le _) rfl ?_ (λl h=>.mk h);rintro i l b _ c rfl a;refine bU (by simp;omega) ?_;rw[dy (by omega)];exact a _ (by rw[List.range_succ,List.map_append];rfl)
def yl(h:Host):ay:=⟨h,(List.range h.graph.nodes.length).map λi:Nat=>(i:Int),(List.range h.graph.ak.length).map λi:Nat=>(h.graph.nodes.length:Int)+(i:Int),(h.graph.nodes.length:Int)+(h.graph.ak.length:Int)⟩
theorem MG(s:Int)(n:Nat):iS id ((List.range n).map λi:Nat=>s+(i:Int)):=by refine List.pairwise_map.2 (List.Pairwise.imp (λ{i j} h=>?_) List.pairwise_lt_range);show s+(i:Int)<s+(j:Int);omega
theorem aEf{h:Host}(c:lY t h):eX t (yl h):=by
 have n1:=c.graph.nodes;have g:=c.graph.ak;refine⟨c,by simp[yl],by simp[yl],⟨by simp only[yl];omega,by simp only[yl];omega⟩,⟨λn a=>?_,?_⟩,⟨λn a=>?_,MG _ _⟩,λe d a=>?_⟩
 ·obtain⟨i,b,rfl⟩:=List.mem_map.1 a;have:=List.mem_range.1 b;simp only[yl];omega
 ·have:=MG 0 h.graph.nodes.length;simpa[yl] using this
 ·obtain⟨i,b,rfl⟩:=List.mem_map.1 a;have:=List.mem_range.1 b;simp only[yl];omega
 ·obtain⟨i,b,rfl⟩:=List.mem_map.1 d;obtain⟨j,f,e⟩:=List.mem_map.1 a;have:=List.mem_range.1 f;omega
theorem akp{h:Host}(b:qW h):cE h=some h:=by
 have c:lX ⟨h,[],[],0⟩:=⟨b,by simp,by simp⟩;have:=G8 c;unfold dF at this;cases a:cE h with
 |none=>rw[a] at this;cases this
 |some r=>rw[show cE (⟨h,[],[],0⟩:ay).host=some r from a,mX,bC (by simp),bC (by simp)] at this;have:=Option.some.inj this;rw[ay.mk.injEq] at this;rw[<-this.1]
def newR(t:Types)(h:Host):ay×Int:=if (kC t h).2≠0 then (kV,(kC t h).2) else (yl h,0)
theorem aEg(d:fK t){h:Host}(c:qW h):jH t h=some (newR t h):=by
 unfold jH newR;rw[aT (yU d),bh];by_cases b:(gR t).2=0;rotate_left
 ·rw[if_neg b,La b,if_pos b];rfl
 rw[if_pos b,aT (qc d c),bh];by_cases a:(kC t h).2=0;rotate_left
 ·rw[if_neg a,if_pos a];rfl
 rw[if_pos a,if_neg (λh=>h a)];have f:=nA.1 a;have n1:=f.graph.nodes;have g:=f.graph.ak;rw[dy (n:=(((h.graph.nodes.length:Nat):Int)+((h.graph.ak.length:Nat):Int))) (by omega),dy (n:=(((h.graph.nodes.length:Nat):Int)+((h.graph.ak.length:Nat):Int))-((h.graph.nodes.length:Nat):Int)) (by omega)];rw[show ((h.graph.nodes.length:Nat):Int)+((h.graph.ak.length:Nat):Int)-((h.graph.nodes.length:Nat):Int)=((h.graph.ak.length:Nat):Int) by omega];rw[aT (akp c),aT (MF 0 _ (by omega) (by omega)),aT (MF _ _ (by omega) (by omega))];have e:((List.range h.graph.nodes.length).map λi:Nat=>(0:Int)+(i:Int))=(List.range h.graph.nodes.length).map λi:Nat=>(i:Int):=List.map_congr_left λi _=>Int.zero_add _
 rw[e];rfl
theorem aAj{h:Host}(b:lY t h):newR t h=(yl h,0):=by unfold newR;rw[if_neg (λa=>a (nA.2 b))]
theorem MH(e:lX a)(bb:lX b):jJ (BD t a b).1:=by
 have d:=avt (t:=t) e bb;refine⟨d.rn,d.re,d.an,d.ae,d.va,λn c=>?_,λn c=>?_⟩;all_goals
  unfold BD at c;split at c
  ·cases c
  rename_i f;split at c
  ·cases c
  rename_i g;have i:=eC.1 (Decidable.of_not_not f);have j:=eC.1 (Decidable.of_not_not g);split at c
  ·rename_i h;unfold BC at c;rw[if_pos h] at c
   first
    |exact jC i e.host n (D0 c)
    |exact jC j bb.host n (D0 c)
  ·cases c
structure Hy(d:bS):Prop where
 nodes:Cy d.nodes
 ak:Cy d.ak
 h:Hw d.h
 first:Cz d.first
 p:Cz d.p
 q:Cz d.q
structure MI(R:Types×bP×Bool):Prop where
 vG:fK R.1
 yJ:lX R.2.1.a
 bp:jJ R.2.1.p
 bq:jJ R.2.1.q
 both:j0 R.1 R.2.1.a R.2.1.p R.2.1.q
 merged:ji R.2.1.a R.2.1.p R.2.1.q=[]->(fL R.1 R.2.1.a R.2.1.p R.2.1.q).2=0
 aKQ:(oS R.1 R.2.1.a R.2.1.p R.2.1.q).2=0
theorem MJ(h:(oS t a p q).2=0):j0 t a p q/\(ji a p q=[]->(fL t a p q).2=0):=by
 unfold oS at h;split at h
 ·rename_i b;exact absurd h b
 rename_i b;refine⟨kL.1 (Decidable.of_not_not b),λd=>?_⟩;rw[d,if_neg (by simp)] at h;split at h
 ·rename_i c;exact absurd h c
 ·rename_i c;exact Decidable.of_not_not c
theorem aCE{d:bS}(f:Hy d):Ok (fG d) (λR=>R.2.2=true->MI R):=by
 have e:∀ {Q:Prop},(false=true->Q):=λh=>by cases h
 unfold fG;refine bV (λ_=>.mk e) (λ_=>bV (λ_=>.mk e) (λ_=>bV (λ_=>.mk e) (λ_=>bV (λ_=>.mk e) (λ_=>bV (λ_=>.mk e) (λk=>bV (λ_=>.mk e) (λl=>bV (λ_=>.mk e) (λm=>?_)))))));have k:=dK k;have l:=dK l;have m:=dK m;refine mL (aCC f.nodes f.ak) λt r=>?_
 have b:=r.roomy;refine mL (MC b f.h) λh g=>?_
 refine ok_eq (aEg b.vG (g.ok.yJ b.vG)) ?_;rw[aAj g.ok];refine mL (Hx b (aEf g.ok) (by omega) f.first) λa c=>?_
 have c:=c.1;refine mL (Hx b c (by omega) f.p) λx n=>?_
 refine ok_eq (Mj b.vG (c.yJ b.vG) (n.1.yJ b.vG)) ?_;refine mL (Hx b c (by omega) f.q) λy o=>?_
 refine ok_eq (Mj b.vG (c.yJ b.vG) (o.1.yJ b.vG)) ?_;have i:=MH (t:=t) (c.yJ b.vG) (n.1.yJ b.vG);have j:=MH (t:=t) (c.yJ b.vG) (o.1.yJ b.vG);refine ok_eq (akj b.vG (c.yJ b.vG) i j) ?_;refine bV (λ_=>bV (λ_=>.mk λh=>?_) (λ_=>.mk e)) (λ_=>.mk e);have h:=b6 h;exact⟨b.vG,c.yJ b.vG,i,j,(MJ h).1,(MJ h).2,h⟩
end
theorem CA{n:Int}(h:G5 n):0<=n/\n<=255:=h
theorem Hz{l:List dM}(h:Ck l):Cy l:=λx a=>⟨CA (h.1 x a).1,CA (h.1 x a).2.1⟩
theorem D2{l:List jW}(h:Bx l):Cz l:=λx a=>⟨CA (h.1 x a).1,CA (h.1 x a).2.1,CA (h.1 x a).2.2.1⟩
theorem aCF{d:dO}(h:Gw d):Hw d:=⟨Hz h.1,D2 h.2.1⟩
theorem aAl{d:bS}(h:Cl d):Hy d:=⟨Hz h.1,Hz h.2.1,aCF h.2.2.1,D2 h.2.2.2.1,D2 h.2.2.2.2.1,D2 h.2.2.2.2.2.1⟩
def A7(t:Types)(ty:Int)(k:Nat)(c:Int):Prop:=((bg t ty.toNat).getD k default).low<=c/\c<=((bg t ty.toNat).getD k default).high
theorem aqN{f:Nat->Int}{n:Nat}(h:nJ f 0 n=0):∀j,j<n->f j=0:=by
 unfold nJ at h;split at h
 ·rename_i k a;exact absurd h (tv a)
 ·rename_i a;exact vb a
theorem xE{t:Types}{k:Int}{v:List Int} : lJ t k v=0↔(k<(t.nodes.length:Int)/\(t.nodes.getD k.toNat default).abs=false/\v.length=(bg t k.toNat).length)/\∀j,j<v.length->A7 t k j (v.getD j default):=by
 unfold lJ;constructor
 ·intro h;split at h
  ·cases h
  rename_i e;split at h
  ·cases h
  rename_i a;split at h
  ·cases h
  rename_i b;refine⟨⟨by omega,by simpa using a,Decidable.of_not_not b⟩,λj c=>?_⟩;have:=aqN h j c;unfold mK at this;split at this
  ·cases this
  ·rename_i d;unfold A7;omega
 ·rintro⟨⟨e,a,b⟩,d⟩;rw[if_neg (by omega),if_neg (by rw[a];decide),if_neg (λh=>h b)];refine qz λj _ c=>?_
  have:=d j c;unfold A7 at this;unfold mK;rw[if_neg (by omega)]
def AF(t:Types)(n:ah):Prop:=0<=n.type/\lJ t n.type n.values=0
def BF(t:Types)(N:List ah)(e:au):Prop:=(0<=e.type/\e.type<t.ak.length)/\∃n∈N,∃m∈N,n.id=e.src/\m.id=e.dst/\qA t e.type n.type m.type=true
theorem avH{ns:List Int}{es:List Edge}(l:ns.length<=40)(m:es.length<=80)(g:∀k∈ns,0<=k/\k<=99)(h:∀e∈es,(0<=e.type/\e.type<=99)/\(0<=e.src/\e.src<ns.length)/\(0<=e.dst/\e.dst<ns.length)):pP ⟨ns,es⟩=0:=by
 unfold pP;dsimp only;rw[if_neg (by omega),if_neg,if_neg]
 ·intro b;obtain⟨e,i,a⟩:=List.any_eq_true.1 b;obtain⟨c,d,f⟩:=h e i;rw[Bool.not_eq_true'] at a;unfold tZ rY at a;rw[dr c.1,dr c.2,dr d.1,dr (by omega:e.src<=(ns.length:Int)-1),dr f.1,dr (by omega:e.dst<=(ns.length:Int)-1)] at a;cases a
 ·intro b;obtain⟨k,j,a⟩:=List.any_eq_true.1 b;have:=g k j;rw[Bool.not_eq_true'] at a;unfold rY at a;rw[dr this.1,dr this.2] at a;cases a
section
variable{t:Types}{x a:ay}{p q:aH}
theorem HA(h:eX t x){n:ah}(b:n∈bA x):AF t n:=by
 obtain⟨i,a,rfl⟩:=sO b;have a:i<x.host.graph.nodes.length:=by rw[<-h.qJ];exact a
 exact⟨(h.host.graph.kind i a).1,h.host.node i a⟩
theorem D3(h:eX t x){e:au}(f:e∈cC x):BF t (bA x) e:=by
 obtain⟨i,b,rfl⟩:=List.mem_map.1 f;have b:i<x.host.graph.ak.length:=by rw[<-h.ru];exact List.mem_range.1 b
 have d:=h.host.graph.fq i b;have a:=h.host.fq i b;unfold rZ at a;split at a
 ·cases a
 rename_i g;split at a;rotate_left
 ·cases a
 rename_i c;have n1:=h.qJ;exact⟨⟨d.1.1,by show (x.host.graph.ak.getD i default).type<_;omega⟩,cD x (x.host.graph.ak.getD i default).src.toNat,qI (by omega),cD x (x.host.graph.ak.getD i default).dst.toNat,qI (by omega),rfl,rfl,c⟩
theorem aAm(h:fK t)(B:(gR t).2=0){N:List ah}{E:List au}{next:Int}(n40:N.length<=40)(hG:E.length<=80)(u:iS ah.id N)(C:iS au.id E)(J:0<=next/\next<=1000000)
  (G:∀n∈N,0<=n.id/\n.id<next) (F:∀e∈E,0<=e.id/\e.id<next) (D:∀e∈E,∀n∈N,e.id≠n.id) (x:∀n∈N,AF t n) (w:∀e∈E,BF t N e):eX t (c8 N E next):=by
 have A:=qU h B;have n12:=A.n12;have m20:=A.m20;have l:∀s,(∃n∈N,n.id=s)->0<=cA (N.map ah.id) s/\(cA (N.map ah.id) s).toNat<N.length:=λs ⟨n,a,e⟩=>by have j:0<=cA (N.map ah.id) s:=DP.2 (e ▸ List.mem_map_of_mem a);have d:=sQ j;rw[List.length_map] at d;exact⟨j,d⟩
 have v:∀n∈N,(N.map ah.type).getD (cA (N.map ah.id) n.id).toNat default=n.type:=λn a=>by obtain⟨j,d⟩:=l n.id ⟨n,a,rfl⟩;have z:=Mp j;rw[List.getElem_map] at z;rw[uI (by rw[List.length_map];exact d),List.getElem_map,u.inj (l8 d) a z]
 refine⟨⟨B,avH (by rw[List.length_map];exact n40) (by rw[List.length_map];exact hG) (λk I=>?_) (λe r=>?_),by simp[c8],λi b=>?_,λi b=>?_⟩,by simp[c8],by simp[c8],J,⟨λn a=>?_,List.pairwise_map.2 u⟩,⟨λn a=>?_,List.pairwise_map.2 C⟩,λe r a=>?_⟩
 ·obtain⟨n,a,rfl⟩:=List.mem_map.1 I;obtain⟨y,q⟩:=x n a;have:=(xE.1 q).1.1;omega
 ·obtain⟨f,h,rfl⟩:=List.mem_map.1 r;obtain⟨y,n,a,m,c,o,p,_⟩:=w f h;obtain⟨K,L⟩:=l f.src ⟨n,a,o⟩;obtain⟨M,O⟩:=l f.dst ⟨m,c,p⟩;rw[List.length_map];unfold jZ;dsimp only;omega
 ·have b:i<N.length:=by simpa[c8] using b
  have g:=(x _ (l8 b)).2;show lJ t ((N.map ah.type).getD i default) ((N.map ah.values).getD i default)=0;rw[uI (by rw[List.length_map];exact b),uI (by rw[List.length_map];exact b),List.getElem_map,List.getElem_map];exact g
 ·have b:i<E.length:=by simpa[c8] using b
  obtain⟨y,n,a,m,c,o,p,q⟩:=w _ (l8 b);have H:(E.map (jZ (N.map ah.id))).getD i default=jZ (N.map ah.id) E[i]:=by rw[uI (by rw[List.length_map];exact b),List.getElem_map]
  unfold rZ;show (if (t.ak.length:Int)<=((E.map (jZ (N.map ah.id))).getD i default).type then 6 else if qA t ((E.map (jZ (N.map ah.id))).getD i default).type ((N.map ah.type).getD ((E.map (jZ (N.map ah.id))).getD i default).src.toNat default) ((N.map ah.type).getD ((E.map (jZ (N.map ah.id))).getD i default).dst.toNat default)=true then 0 else 13)=(0:Int);rw[H];unfold jZ;dsimp only;rw[<-o,<-p,v n a,v m c,if_neg (by omega),if_pos q]
 ·obtain⟨m,c,rfl⟩:=List.mem_map.1 a;exact G m c
 ·obtain⟨m,c,rfl⟩:=List.mem_map.1 a;exact F m c
 ·obtain⟨f,h,rfl⟩:=List.mem_map.1 r;obtain⟨m,c,e⟩:=List.mem_map.1 a;exact D f h m c e.symm
theorem xF:∀ (r:List aQ) (l:List ah) (n:ah),n∈(eW l r).1->∃m∈l,m.id=n.id/\m.type=n.type/\n.values.length=m.values.length/\∀k:Nat,n.values[k]? = m.values[k]?\/∃v∈r,v.id=n.id/\v.attr=(k:Int)/\n.values[k]? = some v.new
 | [],l,n,h=>⟨n,h,rfl,rfl,rfl,λk=>.inl rfl⟩
 |v :: r,l,n,h=>by
  have put:∀m:ah,∀k:Nat,(mZ v m).values[k]? = m.values[k]?\/(v.id=m.id/\v.attr=(k:Int)/\(mZ v m).values[k]? = some v.new):=λm k=>by
   unfold mZ;split
   ·rename_i d;unfold jB gw at d;simp only[Bool.and_eq_true,Bool.not_eq_true',decide_eq_true_eq,decide_eq_false_iff_not] at d;by_cases i:v.attr=(k:Int)
    ·refine .inr ⟨d.1.symm,i,?_⟩;show (m.values.set v.attr.toNat v.new)[k]? = _;rw[i,Int.toNat_natCast,List.getElem?_set_self (by omega)]
    ·refine .inl ?_;show (m.values.set v.attr.toNat v.new)[k]? = _;rw[List.getElem?_set_ne (by omega)]
   ·exact .inl rfl
  rw[eW] at h;split at h
  ·obtain⟨t,s,f,j,o,p⟩:=xF r _ n h;obtain⟨m,e,rfl⟩:=List.mem_map.1 s;refine⟨m,e,by rw[<-f,pg],by rw[<-j,GC],by rw[o,Cn],λk=>?_⟩;rcases p k with g|⟨w,hw,q⟩
   ·rcases put m k with a|⟨a,b,c⟩
    ·exact .inl (g.trans a)
    ·exact .inr ⟨v,List.mem_cons_self ..,by rw[a,<-f,pg],b,g.trans c⟩
   ·exact .inr ⟨w,List.mem_cons_of_mem _ hw,q⟩
  ·obtain⟨m,e,rfl⟩:=List.mem_map.1 h;refine⟨m,e,(pg v m).symm,(GC v m).symm,Cn v m,λk=>?_⟩;rcases put m k with a|⟨a,b,c⟩
   ·exact .inl a
   ·exact .inr ⟨v,List.mem_cons_self ..,by rw[a,pg],b,c⟩
theorem aAn{m n:ah}(i:AF t m)(l:m.type=n.type)(hl:n.values.length=m.values.length)(g:∀k:Nat,n.values[k]? = m.values[k]?\/∃c,n.values[k]? = some c/\A7 t n.type k c):AF t n:=by
 obtain⟨b,d⟩:=i;rw[l] at b d;obtain⟨a,e⟩:=xE.1 d;refine⟨b,xE.2 ⟨⟨a.1,a.2.1,by rw[hl];exact a.2.2⟩,λj o=>?_⟩⟩;rcases g j with h|⟨c,h,f⟩
 ·have:=e j (by omega);rw[List.getD_eq_getElem?_getD] at this ⊢;rw[h];exact this
 ·rw[List.getD_eq_getElem?_getD,h];exact f
theorem D4{n:ah}(g:n∈jh a p):∃m∈bA a,m.id=n.id/\m.type=n.type/\m ∉ p.ax:=by obtain⟨m,f,c,d⟩:=(qH _ _).mem g;obtain⟨e,b⟩:=List.mem_filter.1 f;refine⟨m,e,c,d,λh=>?_⟩;rw[List.any_eq_true.2 ⟨m,h,kz.2 rfl⟩] at b;cases b
theorem ans(h:bH t a q){v:aQ}(l:v∈q.values):∃m∈bA a,m.id=v.id/\0<=v.attr/\A7 t m.type v.attr.toNat v.new/\m ∉ q.ax:=by
 obtain⟨n,c,d,e,b⟩:=Hs q.values _ h.ord.va h.va v l;obtain⟨m,k,f,g,i⟩:=D4 (p:=q) c;have j:=HA h.ok (n:=n) (by rw[uE];exact oa.2 (List.mem_append_left _ c));have hl:v.attr.toNat<n.values.length:=by
  rcases Nat.lt_or_ge v.attr.toNat n.values.length with h|h
  ·exact h
  ·rw[List.getElem?_eq_none h] at b;cases b
 have:=(xE.1 j.2).2 _ hl;rw[List.getD_eq_getElem?_getD,b] at this;exact⟨m,k,f.trans d,e,by rw[g];exact this,i⟩
structure MK(q' q:aH):Prop where
 rn:q'.ax.Sublist q.ax
 re:q'.aA=q.aA
 an:q'.aP=q.aP
 ae:q'.aM.Sublist q.aM
 va:q'.values.Sublist q.values
 next:q'.next=q.next
theorem MK.refl(q:aH):MK q q:=⟨List.Sublist.refl _,rfl,rfl,List.Sublist.refl _,List.Sublist.refl _,rfl⟩
theorem aAo{v w:aQ}(h:fF w v\/fF v w)(n:ah):jB v (mZ w n)=jB v n:=by
 unfold mZ;split
 ·rename_i a;unfold jB gw at a ⊢;simp only[Bool.and_eq_true,Bool.not_eq_true',decide_eq_true_eq,decide_eq_false_iff_not] at a;by_cases c:n.id=v.id
  ·have d:v.attr≠w.attr:=by rcases h with h|h<;>unfold fF at h<;>omega
   by_cases b:v.attr<0
   ·simp[b]
   have e:(n.values.set w.attr.toNat w.new).getD v.attr.toNat default=n.values.getD v.attr.toNat default:=by rw[List.getD_eq_getElem?_getD,List.getD_eq_getElem?_getD,List.getElem?_set_ne (by omega)]
   dsimp only;rw[e,List.length_set]
  ·simp[c]
 ·rfl
theorem wu:∀ (r:List aQ) (l:List ah),r.Pairwise fF->((eW l r).2=true↔∀v∈r,l.any (jB v)=true)
 | [],l,_=>⟨λ_ v f=>(by cases f),λ_=>rfl⟩
 |v :: r,l,h=>by
  obtain⟨c,b⟩:=List.pairwise_cons.1 h;have e:∀w∈r,(l.map (mZ v)).any (jB w)=l.any (jB w):=λw hw=>by rw[List.any_map];congr 1;funext n;exact aAo (.inl (c w hw)) n
  rw[eW];constructor
  ·intro a;split at a;rotate_left
   ·cases a
   rename_i d;intro w hw;rcases List.mem_cons.1 hw with rfl|hw
   ·exact d
   ·rw[<-e w hw];exact (wu r _ b).1 a w hw
  ·intro a;rw[if_pos (a v (List.mem_cons_self ..))];exact (wu r _ b).2 λw hw=>by rw[e w hw];exact a w (List.mem_cons_of_mem _ hw)
theorem D5{l r:List ah}{n:ah}(a:n∈l)(b:n ∉ r):n∈less dV l r:=by refine List.mem_filter.2 ⟨a,?_⟩;rw[Bool.not_eq_true',List.any_eq_false];intro m c e;exact b (kz.1 e ▸ c)
theorem xG{l r:List au}{n:au}(a:n∈l)(b:n ∉ r):n∈less qK l r:=by refine List.mem_filter.2 ⟨a,?_⟩;rw[Bool.not_eq_true',List.any_eq_false];intro m c e;exact b (yf.1 e ▸ c)
theorem D6{l r:List au}{n:au}(h:n∈less qK l r):n∈l/\n ∉ r:=by obtain⟨b,a⟩:=List.mem_filter.1 h;refine⟨b,λc=>?_⟩;rw[List.any_eq_true.2 ⟨n,c,yf.2 rfl⟩] at a;cases a
theorem CB{m:ah}(d:m∈bA a)(e:m ∉ p.ax):∃n∈jh a p,n.id=m.id/\n.type=m.type:=by obtain⟨n,f,b,c⟩:=x4.mem (qH p.values (less dV (bA a) p.ax)).symm (D5 d e);exact⟨n,f,b,c⟩
end
section
variable{t:Types}{a:ay}{p q q':aH}
theorem yt(h:eX t a){n:ah}(b:n∈jh a p):0<=n.id/\n.id<a.next:=h.ze.1 _ (DT b)
theorem CC(h:eX t a){n:au}(b:n∈lB a p):0<=n.id/\n.id<a.next:=h.r9.1 _ (DU b)
theorem ML(h:eX t a):iS ah.id (jh a p):=yg _ _ (vr h.wL)
theorem MM(h:eX t a):iS au.id (lB a p):=vr h.rq
theorem MN(h:eX t a)(d:Ordered p)(e:kA dV (bA a) p.ax=true):(jh a p).length+p.ax.length=a.nodes.length:=by have b:=Ho (f:=ah.id) (λ_ _=>kz) p.ax (bA a) h.wL (GP d) e;have c:=(qH p.values (less dV (bA a) p.ax)).len;rw[lZ] at b;exact (congrArg (· + p.ax.length) c).trans b
theorem MO(h:eX t a)(c:Ordered p)(d:kA qK (cC a) p.aA=true):(lB a p).length+p.aA.length=a.ak.length:=by have b:=Ho (f:=au.id) (λ_ _=>yf) p.aA (cC a) h.rq (GQ c) d;rw[kW] at b;exact b
theorem aAp(w:fK t)(h:eX t a)(g:Ordered p)(D:p.next.x0=a.next)(C:p.next.x1<=1000000)(b:AB p)(o:∀n∈p.aP,n.id<p.next.x1)(m:∀n∈p.aM,n.id<p.next.x1)(j:∀e∈p.aM,∀n∈p.aP,e.id≠n.id)
  (n40:(jh a p).length+p.aP.length<=40) (hG:(lB a p).length+p.aM.length<=80) (s:∀n∈jh a p,AF t n) (v:∀n∈p.aP,AF t n)
  (r:∀e∈lB a p,BF t (jh a p++p.aP) e) (u:∀e∈p.aM,BF t (jh a p++p.aP) e):eX t (bf a p):=by
 have E:=h.next
 have B:=b.next
 have z:kU (jh a p++p.aP)=jh a p++p.aP:=G2 (ML h) g.an λx d y f=>by have:=yt h d;have:=b.n y f;omega
 have A:nt (lB a p++p.aM)=lB a p++p.aM:=G3 (MM h) g.ae λx d y f=>by have:=CC h d;have:=b.e y f;omega
 unfold bf;rw[z,A];refine aAm w h.host.types (by rw[List.length_append];exact n40) (by rw[List.length_append];exact hG) ((ML h).app g.an λx d y f=>by have:=yt h d;have:=b.n y f;omega) ((MM h).app g.ae λx d y f=>by have:=CC h d;have:=b.e y f;omega) (by omega) (λn c=>?_) (λn c=>?_) (λe i n c=>?_) (λn c=>?_) (λe i=>?_)
 ·rcases List.mem_append.1 c with k|k
  ·have:=yt h k;omega
  ·have:=b.n n k;have:=o n k;omega
 ·rcases List.mem_append.1 c with k|k
  ·have:=CC h k;omega
  ·have:=b.e n k;have:=m n k;omega
 ·rcases List.mem_append.1 i with k|k<;>rcases List.mem_append.1 c with l|l
  ·exact λq=>h.apart _ (DU k) (q ▸ DT l)
  ·have:=CC h k;have:=b.n n l;omega
  ·have:=b.e e k;have:=yt h l;omega
  ·exact j e k n l
 ·rcases List.mem_append.1 c with k|k
  ·exact s n k
  ·exact v n k
 ·rcases List.mem_append.1 i with k|k
  ·exact r e k
  ·exact u e k
theorem aAq(h:eX t a)(r:∀v∈p.values,∀m∈bA a,m.id=v.id->A7 t m.type v.attr.toNat v.new){n:ah}(q:n∈jh a p):AF t n:=by
 obtain⟨m,o,d,b,e,f⟩:=xF p.values _ n q;have c:=(List.mem_filter.1 o).1;refine aAn (HA h c) b e λk=>?_
 rcases f k with g|⟨v,s,i,j,l⟩
 ·exact .inl g
 ·refine .inr ⟨v.new,l,?_⟩;have:=r v s m c (d.trans i.symm);rw[<-b];rw[j,Int.toNat_natCast] at this;exact this
theorem iN(h:bH t a q){n:ah} : n∈bA (bf a q)↔n∈jh a q\/n∈q.aP:=by rw[uE,oa,List.mem_append]
theorem jO(h:bH t a q){e:au} : e∈cC (bf a q)↔e∈lB a q\/e∈q.aM:=by rw[akn h.ok,uQ,List.mem_append]
theorem aqO{N M:List ah}{e:au}(h:BF t N e)(c:∀n∈N,(n.id=e.src\/n.id=e.dst)->∃m∈M,m.id=n.id/\m.type=n.type):BF t M e:=by obtain⟨d,n,j,m,g,a,b,f⟩:=h;obtain⟨s,k,l,o⟩:=c n j (.inl a);obtain⟨r,i,p,q⟩:=c m g (.inr b);exact⟨d,s,k,r,i,l.trans a,p.trans b,by rw[o,q];exact f⟩
def aGl(p q:aH):Prop:=(∀id,cF p id=true->ug q id=false)/\∀id,cF q id=true->ug p id=false
theorem HB{id:Int} : cF p id=true↔∃n∈p.ax,n.id=id:=lS
theorem aCG(hf:fK t)(h:j0 t a p q)(U:aGl p q)(b:tooMany a p q=false)(d:kA dV (bA (bf a p)) (bK p q).ax=true)(he:kA qK (cC (bf a p)) (bK p q).aA=true):eX t (bf (bf a p) (bK p q)):=by
 have o:=h.ap;have c:=h.aq;have u:=o.tk;have F:=o.ok;have e0:p.next.x0=q.next.x0:=by rw[o.next,c.next]
 have d0:0<=p.next.x1-p.next.x0:=by have:=h.gp.next;omega
 have aw:=Ht h;have bj:=h.next
 have O:Ordered (bK p q):=⟨c.ord.rn.sub List.filter_sublist,c.ord.re.sub List.filter_sublist,iS.map (List.Pairwise.imp (λk=>kM d0 k) c.ord.an),iS.map (List.Pairwise.imp (λk=>kM d0 k) c.ord.ae),List.Pairwise.sublist List.filter_sublist c.ord.va⟩;have aN:(bK p q).next.x0=(bf a p).next:=rfl
 have x:(bK p q).next.x1=p.next.x1+q.next.x1-q.next.x0:=rfl
 have a7:∀n∈jh a q,cF p n.id=false->∃m∈jh (bf a p) (bK p q),m.id=n.id/\m.type=n.type:=λn d i=>by
  obtain⟨m,b,j,l,B⟩:=D4 d;obtain⟨R,D,H,Y⟩:=CB (p:=p) b λk=>by rw[HB.2 ⟨m,k,j⟩] at i;cases i
  obtain⟨m2,N,Z,e7⟩:=CB (a:=bf a p) (p:=bK p q) ((iN o).2 (.inl D)) λk=>by have k:=(List.mem_filter.1 k).1;have s:=c.sY k;have:=u.wL.inj s b H;exact B (this ▸ k)
  exact⟨m2,N,Z.trans (H.trans j),e7.trans (Y.trans l)⟩
 have ad:∀n∈bA (bf a p),cF q n.id=false->∃m∈jh (bf a p) (bK p q),m.id=n.id/\m.type=n.type:=λn d i=>CB d λk=>by have k:n∈q.ax:=(List.mem_filter.1 k).1;rw[HB.2 ⟨n,k,rfl⟩] at i;cases i
 have add:∀n∈q.aP,nP q.next.x0 (p.next.x1-p.next.x0) n∈(bK p q).aP:=λn d=>List.mem_map_of_mem d
 have l1:=MN F O d;have l2:=MO F O he;unfold tooMany at b;rw[Bool.or_eq_false_iff] at b;have t1:=dK b.1;have t2:=dK b.2;have S:=c.ids;have V:∀m,q.next.x0<=m->m<q.next.x1->dR q.next.x0 (p.next.x1-p.next.x0) m<p.next.x1+q.next.x1-q.next.x0:=λm h1 h2=>by unfold dR;rw[if_pos h1];omega
 refine aAp hf F O aN (by rw[x];omega) aw (λn d=>?_) (λn d=>?_) (λe C n E=>?_) (by omega) (by omega) (λn d=>aAq F (λv hv m b e=>?_) d) (λn d=>?_) (λe C=>?_) (λe C=>?_)
 ·obtain⟨m,b,rfl⟩:=List.mem_map.1 d;rw[x];exact V _ (h.gq.n m b) (S.1 m b).2
 ·obtain⟨m,b,rfl⟩:=List.mem_map.1 d;rw[x];exact V _ (h.gq.e m b) (S.2 m b).2
 ·obtain⟨f,J,rfl⟩:=List.mem_map.1 C;obtain⟨m,b,rfl⟩:=List.mem_map.1 E;intro k;have k:=yp d0 (show dR q.next.x0 (p.next.x1-p.next.x0) f.id=dR q.next.x0 (p.next.x1-p.next.x0) m.id from k);exact c.ok.apart _ (Cr ((jO c).2 (.inr J))) (k ▸ vu ((iN c).2 (.inr b)))
 ·-- a value of q at a node bd p
  have a2:=(List.mem_filter.1 hv).1;obtain⟨m0,T,j,_,h3,_⟩:=ans c a2;rcases (iN o).1 b with k|k
  ·obtain⟨R,D,l,B,_⟩:=D4 k;have:=u.wL.inj T D (j.trans (e.symm.trans l.symm));subst this;rw[<-B];exact h3
  ·have:=h.gp.n m k;have s:=(u.ze.1 _ (vu T)).2;have Q:=o.next
   omega
 ·obtain⟨m,b,rfl⟩:=List.mem_map.1 d;exact (HA c.ok ((iN c).2 (.inr b)):AF t m)
 ·-- an fq a8 bb
  obtain⟨A,s⟩:=D6 C;have av:=D3 F A;refine aqO av λn E L=>?_
  have X:cF q n.id=false:=by
   rcases (jO o).1 A with g|g
   ·obtain⟨I,g2⟩:=D6 g;have aM:e ∉ q.aA:=λi=>s (List.mem_filter.2 ⟨i,by
     rw[Bool.not_eq_true',List.any_eq_false];intro y K M;have M:=b6 M;have:=u.rq.inj I (o.DG K) M;exact g2 (this ▸ K)⟩)
    obtain⟨_,n1,aE,R,D,j,l,_⟩:=D3 c.ok ((jO c).2 (.inl (xG I aM)));have low:n.id<a.next:=by have:=G4 u g;rcases L with k|k<;>omega
    have G:∀z∈bA (bf a q),z.id=n.id->cF q n.id=false:=λz P ez=>by
     rw[Bool.eq_false_iff];intro i;obtain⟨r,x,a0⟩:=HB.1 i;rcases (iN c).1 P with w|w
     ·obtain⟨m,b,B,_,H⟩:=D4 w;have:=u.wL.inj (c.sY x) b (a0.trans (ez.symm.trans B.symm));exact H (this ▸ x)
     ·have:=h.gq.n z w;have Q:=c.next
      omega
    rcases L with k|k
    ·exact G n1 aE (j.trans k.symm)
    ·exact G R D (l.trans k.symm)
   ·rw[Bool.eq_false_iff];intro i;have:=U.2 _ i;unfold ug at this;rw[List.any_eq_false] at this;refine this e g ?_;rw[Bool.or_eq_true];rcases L with k|k
    ·exact .inl (dr k.symm)
    ·exact .inr (dr k.symm)
  obtain⟨m,b,j,l⟩:=ad n E X;exact⟨m,List.mem_append_left _ b,j,l⟩
 ·-- an fq a8 q bc
  obtain⟨f,J,rfl⟩:=List.mem_map.1 C;obtain⟨g0,n,E,m,N,j,l,I⟩:=D3 c.ok ((jO c).2 (.inr J));have G:∀z∈bA (bf a q),(z.id=f.src\/z.id=f.dst)->∃y∈jh (bf a p) (bK p q)++(bK p q).aP,y.id=dR q.next.x0 (p.next.x1-p.next.x0) z.id/\y.type=z.type:=λz P ao=>by
   rcases (iN c).1 P with w|w
   ·have W:z.id<q.next.x0:=by rw[c.next];exact (yt u w).2
    have i:cF p z.id=false:=by
     rw[Bool.eq_false_iff];intro i;have:=U.1 _ i;unfold ug at this;rw[List.any_eq_false] at this;refine this f J ?_;rw[Bool.or_eq_true];rcases ao with k|k
     ·exact .inl (dr k.symm)
     ·exact .inr (dr k.symm)
    obtain⟨y,K,A,s⟩:=a7 z w i;exact⟨y,List.mem_append_left _ K,by rw[A,vB W],s⟩
   ·exact⟨_,List.mem_append_right _ (add z w),rfl,rfl⟩
  obtain⟨y1,a3,A,s⟩:=G n E (.inl j);obtain⟨y2,a4,Q,k4⟩:=G m N (.inr l);exact⟨g0,y1,a3,y2,a4,by rw[A,j];rfl,by rw[Q,l];rfl,by rw[s,k4];exact I⟩
end
section
variable{t:Types}{a:ay}{p q:aH}
theorem j0.symm(h:j0 t a p q):j0 t a q p:=⟨h.aq,h.ap,h.gq,h.gp,by
 have e:p.next.x0=q.next.x0:=by rw[h.ap.next,h.aq.next]
 have:=h.next
 omega⟩
theorem yu{K:Int}{l m:List aG}(hl:∀x∈l,x.kind=K)(a:∀x∈m,x.kind=K)(h:∀x,x∈l↔x∈m):gT l=gT m:=vv hl (jT a).1 λx=>(h x).trans ((jT a).2 x).symm
theorem HC{x:aG}(h:x∈rI p q++rI q p):x.kind=1:=by rcases List.mem_append.1 h with h|h<;>(obtain⟨id,_,_,rfl⟩:=qd.1 h;rfl)
theorem HD{x:aG}(h:x∈rJ p q++rJ q p):x.kind=2:=by rcases List.mem_append.1 h with h|h<;>(obtain⟨id,_,_,rfl⟩:=qf.1 h;rfl)
theorem HE{x:aG}(h:x∈ni p q):x.kind=3:=by obtain⟨v,_,w,_,_,_,_,rfl⟩:=rK.1 h;rfl
theorem MP{x:aG}(h:x∈ni p q):x∈ni q p:=by obtain⟨v,d,w,hw,a,b,c,rfl⟩:=rK.1 h;exact rK.2 ⟨w,hw,v,d,a.symm,b.symm,λe=>c e.symm,by rw[a,b]⟩
theorem aAr{x:aG} : x∈tK p q↔(x∈rI p q++rI q p\/x∈rJ p q++rJ q p)\/x∈ni p q:=by unfold tK;rw[List.mem_append,List.mem_append];rw[(jT (K:=1) λx a=>by rcases List.mem_append.1 a with h|h<;>(obtain⟨id,_,_,rfl⟩:=qd.1 h;rfl)).2 x];rw[(jT (K:=2) λx a=>by rcases List.mem_append.1 a with h|h<;>(obtain⟨id,_,_,rfl⟩:=qf.1 h;rfl)).2 x];rw[(jT (K:=3) λx a=>by obtain⟨v,_,_,_,_,_,_,rfl⟩:=rK.1 a;rfl).2 x]
theorem aqP:tK p q=tK q p:=by unfold tK;rw[yu (l:=rI p q++rI q p) (m:=rI q p++rI p q) (λx a=>HC a) (λx a=>HC a) (λx=>by rw[List.mem_append,List.mem_append,or_comm]),yu (l:=rJ p q++rJ q p) (m:=rJ q p++rJ p q) (λx a=>HD a) (λx a=>HD a) (λx=>by rw[List.mem_append,List.mem_append,or_comm]),yu (l:=ni p q) (m:=ni q p) (λx a=>HE a) (λx a=>HE a) (λx=>⟨MP,MP⟩)]
theorem sR(h:j0 t a p q):ji a q p=ji a p q:=by rw[<-sP h.aq h.ap,<-sP h.ap h.aq,aqP]
theorem aqQ(h:j0 t a p q):∀x∈ji a p q,x.kind<4:=λx hx=>by
 rw[<-sP h.ap h.aq] at hx;rcases aAr.1 hx with (hx|hx)|hx
 ·rw[HC hx];decide
 ·rw[HD hx];decide
 ·rw[HE hx];decide
theorem MQ{α:Type}{f:α->α->Bool}(b:∀a,f a a=true){l r:List α}(h:∀x∈r,x∈l):kA f l r=true:=List.all_eq_true.2 λx c=>List.any_eq_true.2 ⟨x,h x c,b x⟩
theorem aCH(h:j0 t a p q)(f:ji a p q=[]):(∀n∈(bK p q).ax,n∈jh a p)/\∀e∈(bK p q).aA,e∈lB a p:=by
 obtain⟨d,_,_,_⟩:=xy f h.ap h.aq;refine⟨λn i=>?_,λe g=>?_⟩
 ·obtain⟨b,c⟩:=List.mem_filter.1 i;have b:n∈q.ax:=b;refine h.ap.keep (h.aq.sY b) ?_ λv j e=>?_
  ·rw[Bool.not_eq_true'] at c;exact c
  ·have:=d.2 v j;rw[lS.2 ⟨n,b,e.symm⟩] at this;cases this
 ·obtain⟨b,c⟩:=List.mem_filter.1 g;refine xG (h.aq.DG b) λk=>?_
  rw[Bool.not_eq_true',List.any_eq_false] at c;exact c e k (dr rfl)
theorem aqR(h:j0 t a p q)(z:ji a p q=[]):(eW (less dV (bA (bf a p)) (bK p q).ax) (bK p q).values).2=true:=by
 obtain⟨y,_,_,_⟩:=xy z h.ap h.aq;refine (wu _ _ (List.Pairwise.sublist List.filter_sublist h.aq.ord.va)).2 λv B=>?_
 obtain⟨k,l⟩:=List.mem_filter.1 B;rw[Bool.not_eq_true',List.any_eq_false] at l;obtain⟨m,A,b⟩:=List.any_eq_true.1 ((wu _ _ h.aq.ord.va).1 h.aq.va v k);obtain⟨s,u⟩:=List.mem_filter.1 A;unfold jB at b;rw[Bool.and_eq_true] at b;have j:=b6 b.1;have d:=b.2;unfold gw at d;simp only[Bool.and_eq_true,Bool.not_eq_true',decide_eq_false_iff_not,decide_eq_true_eq] at d;obtain⟨f1,f2,f3,f4⟩:=d;have o:v.attr.toNat<m.values.length:=by omega
 have r:cF p m.id=false:=by rw[j];exact y.1 v k
 obtain⟨n,n1,x,c⟩:=wq p.values (less dV (bA a) p.ax) m v.attr.toNat (D5 s λf=>by rw[lS.2 ⟨m,f,rfl⟩] at r;cases r) λw hw e D=>l w hw (by
  rw[Bool.and_eq_true];exact⟨dr (by rw[e,j]),dr (by omega)⟩)
 have f:n∈bA (bf a p):=(iN h.ap).2 (.inl n1);refine List.any_eq_true.2 ⟨n,D5 f λC=>?_,?_⟩
 ·have i:=(List.mem_filter.1 C).1;have e:=h.ap.tk.wL.inj (h.aq.sY i) s x;rw[e] at i;rw[Bool.not_eq_true',List.any_eq_false] at u;exact u m i (kz.2 rfl)
 ·rw[List.getElem?_eq_getElem o] at c;have E:v.attr.toNat<n.values.length:=by
   rcases Nat.lt_or_ge v.attr.toNat n.values.length with g|g
   ·exact g
   ·rw[List.getElem?_eq_none g] at c;cases c
  have e:n.values.getD v.attr.toNat default=v.old:=by rw[<-f3,List.getD_eq_getElem?_getD,c,List.getD_eq_getElem?_getD,List.getElem?_eq_getElem o]
  unfold jB gw;simp only[Bool.and_eq_true,Bool.not_eq_true',decide_eq_false_iff_not,decide_eq_true_eq];exact⟨x.trans j,f1,by omega,e,f4⟩
theorem avI(h:j0 t a p q):gF (jh (bf a p) (bK p q)) (lB (bf a p) (bK p q)) (bK p q)=false:=by
 have d:=Ht h;have c:∀m,p.next.x1<=m->kI (jh (bf a p) (bK p q)) (lB (bf a p) (bK p q)) m=false:=λm g=>by
  rw[Bool.eq_false_iff];intro b;rcases aqI.1 b with ⟨x,b,e⟩|⟨x,b,e⟩
  ·have:=(yt h.ap.ok b).2;have f:(bf a p).next=p.next.x1:=rfl
   omega
  ·have:=(CC h.ap.ok b).2;have f:(bf a p).next=p.next.x1:=rfl
   omega
 unfold gF;rw[Bool.or_eq_false_iff,List.any_eq_false,List.any_eq_false];exact⟨λx b=>by rw[c _ (d.n x b)];simp,λx b=>by rw[c _ (d.e x b)];simp⟩
theorem MR(m:fK t)(h:j0 t a p q)(e:ji a p q=[]):(fL t a p q).2=0↔tooMany a p q=false:=by
 obtain⟨s,j,l,_⟩:=xy e h.ap h.aq;constructor
 ·intro d;cases c:tooMany a p q with
  |false=>rfl
  |true=>unfold fL at d;rw[c,if_pos rfl] at d;cases d
 ·intro c;have b:=h.aq;have d0:0<=p.next.x1-p.next.x0:=by have:=h.gp.next;omega
  have o:Ordered (bK p q):=⟨b.ord.rn.sub List.filter_sublist,b.ord.re.sub List.filter_sublist,iS.map (List.Pairwise.imp (λk=>kM d0 k) b.ord.an),iS.map (List.Pairwise.imp (λk=>kM d0 k) b.ord.ae),List.Pairwise.sublist List.filter_sublist b.ord.va⟩;have r:Small (bK p q):=⟨Nat.le_trans (List.length_filter_le _ _) b.small.rn,Nat.le_trans (List.length_filter_le _ _) b.small.re,by simp[bK,mQ,jN];exact b.small.an,by simp[bK,mQ,jN];exact b.small.ae,Nat.le_trans (List.length_filter_le _ _) b.small.va⟩;obtain⟨r1,r2⟩:=aCH h e;have g:kA dV (bA (bf a p)) (bK p q).ax=true:=MQ (λa=>kz.2 rfl) λn f=>(iN h.ap).2 (.inl (r1 n f))
  have i:kA qK (cC (bf a p)) (bK p q).aA=true:=MQ (λa=>yf.2 rfl) λn f=>(jO h.ap).2 (.inl (r2 n f))
  have A:bH t (bf a p) (bK p q):=⟨h.ap.ok,r,o,rfl,g,i,aqR h e,avI h,aCG m h ⟨j,l⟩ c g i⟩;unfold fL;rw[c,if_neg (by decide),pn A]
theorem MS{α:Type}(b:α->Bool)(l:List α):(l.filter b).length+(l.filter λx=>!b x).length=l.length:=by
 induction l with
 |nil=>rfl
 |cons x l a=>rw[List.filter_cons,List.filter_cons];cases b x<;>simp<;>omega
theorem MT{α:Type}{f:α->Int}{l m:List α}(hl:(l.map f).Nodup)(g:(m.map f).Nodup):l.length+(m.filter λn=>!l.any λk=>decide (f k=f n)).length=m.length+(l.filter λn=>!m.any λk=>decide (f k=f n)).length:=by
 have e:((m.filter λn=>l.any λk=>decide (f k=f n)).map f).Perm ((l.filter λn=>m.any λk=>decide (f k=f n)).map f):=by
  refine (List.perm_ext_iff_of_nodup (g.sublist (List.filter_sublist.map f)) (hl.sublist (List.filter_sublist.map f))).2 λx=>?_
  simp only[List.mem_map,List.mem_filter,List.any_eq_true,decide_eq_true_eq];constructor
  ·rintro⟨y,⟨b,k,c,a⟩,rfl⟩;exact⟨k,⟨c,y,b,a.symm⟩,a⟩
  ·rintro⟨y,⟨b,k,c,a⟩,rfl⟩;exact⟨k,⟨c,y,b,a.symm⟩,a⟩
 have d:=e.length_eq;rw[List.length_map,List.length_map] at d;have h:=MS (λn=>l.any λk=>decide (f k=f n)) m;have i:=MS (λn=>m.any λk=>decide (f k=f n)) l;omega
theorem akq(h:j0 t a p q):tooMany a q p=tooMany a p q:=by
 have b:∀ {p q:aH},j0 t a p q->((bf a p).nodes.length:Int)+(bK p q).aP.length-(bK p q).ax.length=(a.nodes.length:Int)+p.aP.length+q.aP.length-(p.ax.length+(bK p q).ax.length:Nat)/\((bf a p).ak.length:Int)+(bK p q).aM.length-(bK p q).aA.length=(a.ak.length:Int)+p.aM.length+q.aM.length-(p.aA.length+(bK p q).aA.length:Nat):=λ{p q} h=>by
  have l1:=MN h.ap.tk h.ap.ord h.ap.rn;have l2:=MO h.ap.tk h.ap.ord h.ap.re;obtain⟨r1,r2,_,_⟩:=GZ p q;have n1:(bf a p).nodes.length=(jh a p).length+p.aP.length:=by unfold bf c8;rw[List.length_map,K6,List.length_append]
  have r:(bf a p).ak.length=(lB a p).length+p.aM.length:=by unfold bf c8;rw[List.length_map,K7,List.length_append]
  rw[n1,r,r1,r2];omega
 obtain⟨g,i⟩:=b h;obtain⟨j,o⟩:=b h.symm;have c:p.ax.length+(bK p q).ax.length=q.ax.length+(bK q p).ax.length:=MT (f:=ah.id) h.ap.ord.rn.oN h.aq.ord.rn.oN;have d:=MT (f:=au.id) h.ap.ord.re.oN h.aq.ord.re.oN;have e:p.aA.length+(bK p q).aA.length=q.aA.length+(bK q p).aA.length:=by
  have sw:∀l m:List au,(m.filter λn=>!l.any λk=>decide (n.id=k.id))=m.filter λn=>!l.any λk=>decide (k.id=n.id):=λl m=>List.filter_congr λn _=>by congr 2;funext k;exact decide_eq_decide.2 eq_comm
  show p.aA.length+(q.aA.filter λn=>!p.aA.any λk=>decide (n.id=k.id)).length=q.aA.length+(p.aA.filter λn=>!q.aA.any λk=>decide (n.id=k.id)).length;rw[sw,sw];exact d
 unfold tooMany;rw[g,i,j,o,c,e];congr 1<;>exact decide_eq_decide.2 (by omega)
theorem MU(c:fK t)(h:j0 t a p q)(b:ji a p q=[])(d:(fL t a p q).2=0):(fL t a q p).2=0:=by rw[MR c h.symm (by rw[sR h];exact b),akq h];exact (MR c h b).1 d
end
def ey(p q:aH)(i:Int):Int:=if i<p.next.x0 then i else if i<p.next.x1 then i+(q.next.x1-q.next.x0) else i-(p.next.x1-p.next.x0)
abbrev jP(a:ay)(p q:aH):ay:=bf (bf a p) (bK p q)
section
variable{t:Types}{a:ay}{p q:aH}
theorem j0.x0(h:j0 t a p q):p.next.x0=q.next.x0/\p.next.x0=a.next:=⟨by rw[h.ap.next,h.aq.next],h.ap.next⟩
theorem MV(h:bH t a p){v:aQ}(c:v∈p.values):v.id<a.next:=by obtain⟨n,b,e,_⟩:=h.value c;rw[<-e];exact (h.tk.ze.1 _ (vu b)).2
theorem anz(h:bH t a p){n:ah}(b:n∈p.ax):n.id<a.next:=(h.tk.ze.1 _ (vu (h.sY b))).2
theorem akr(h:bH t a p){n:au}(b:n∈p.aA):n.id<a.next:=(h.tk.r9.1 _ (Cr (h.DG b))).2
theorem aAs{x y:ah}(a:x.id=y.id)(b:x.type=y.type)(c:∀k:Nat,x.values[k]? = y.values[k]?):x=y:=by obtain⟨d,e,f⟩:=x;obtain⟨g,h,i⟩:=y;dsimp only at a b c;have:=List.ext_getElem? c;rw[a,b,this]
theorem MW(h:j0 t a p q)(s:bH t (bf a p) (bK p q)){x:ah}(hx:x∈bA (jP a p q))(hl:x.id<a.next) :
  ∃o∈bA a,o.id=x.id/\o.type=x.type/\o ∉ p.ax/\o ∉ q.ax/\∀k:Nat,(∀v∈p.values,v.id=x.id->v.attr≠(k:Int))->(∀v∈q.values,v.id=x.id->v.attr≠(k:Int))->x.values[k]? = o.values[k]?:=by
 have O:=h.x0;have N:=h.gp.next
 rcases (iN s).1 hx with hx|hx
 rotate_left
 ·have:=(Ht h).n _ hx;have e:(bK p q).next.x0=p.next.x1:=rfl
  omega
 obtain⟨y,H,j,z,_,A⟩:=xF _ _ _ hx;obtain⟨y1,w⟩:=List.mem_filter.1 H;rcases (iN h.ap).1 y1 with y1|y1
 rotate_left
 ·have:=h.gp.n _ y1;omega
 obtain⟨o,E,l,B,_,C⟩:=xF _ _ _ y1;obtain⟨u,c⟩:=List.mem_filter.1 E;rw[Bool.not_eq_true',List.any_eq_false] at w c;refine⟨o,u,l.trans j,B.trans z,λb=>c o b (kz.2 rfl),λb=>?_,λk F G=>?_⟩
 ·-- q M I: then I P not Q
  have D:cF p o.id=false:=by rw[Bool.eq_false_iff];intro J;obtain⟨r,r1,r2⟩:=lS.1 J;have:=h.ap.tk.wL.inj (h.ap.sY r1) u r2;exact c r r1 (kz.2 this.symm)
  have m:o∈(bK p q).ax:=List.mem_filter.2 ⟨b,by rw[Bool.not_eq_true'];exact D⟩;have:=h.ap.ok.wL.inj (s.sY m) ((iN h.ap).2 (.inl y1)) l;exact w o m (kz.2 this.symm)
 ·have K:x.values[k]? = y.values[k]?:=by
   rcases A k with g|⟨v,d,f,i,_⟩
   ·exact g
   ·exact absurd i (G v (List.mem_filter.1 d).1 f)
  have L:y.values[k]? = o.values[k]?:=by
   rcases C k with g|⟨v,d,f,i,_⟩
   ·exact g
   ·exact absurd i (F v d (f.trans j))
  exact K.trans L
theorem aAt(h:j0 t a p q)(i:bH t (bf a p) (bK p q)){x:ah}(hx:x∈bA (jP a p q))(hl:¬ x.id<a.next):x∈p.aP\/∃y∈q.aP,x=nP q.next.x0 (p.next.x1-p.next.x0) y:=by
 rcases (iN i).1 hx with hx|hx
 rotate_left
 ·obtain⟨y,b,e⟩:=List.mem_map.1 hx;exact .inr ⟨y,b,e.symm⟩
 obtain⟨y,b,c,d,_,f⟩:=xF _ _ _ hx;have y1:=(List.mem_filter.1 b).1;rcases (iN h.ap).1 y1 with y1|y1
 ·have:=(yt h.ap.tk y1).2;omega
 ·refine .inl ?_;rw[aAs (x:=x) (y:=y) c.symm d.symm λk=>?_]
  ·exact y1
  ·rcases f k with g|⟨v,j,l,_,_⟩
   ·exact g
   ·have:=MV h.aq (List.mem_filter.1 j).1;omega
theorem aAu(h:j0 t a p q)(d:bH t (bf a p) (bK p q)){x:ah}(b:x∈p.aP):x∈bA (jP a p q):=by
 have hl:=h.gp.n x b;have g:=h.x0;refine (iN d).2 (.inl (G1 _ _ x (D5 ((iN h.ap).2 (.inr b)) λc=>?_) λv f e=>?_))
 ·have:=anz h.aq (List.mem_filter.1 c).1;omega
 ·have:=MV h.aq (List.mem_filter.1 f).1;omega
theorem avJ(h:j0 t a p q)(b:bH t (bf a p) (bK p q)){x:ah}(c:x∈q.aP):nP q.next.x0 (p.next.x1-p.next.x0) x∈bA (jP a p q):=(iN b).2 (.inr (List.mem_map_of_mem c))
theorem aEi(h:j0 t a p q)(g:bH t (bf a p) (bK p q)){o:ah}(c:o∈bA a)(e:o ∉ p.ax)(f:o ∉ q.ax):∃x∈bA (jP a p q),x.id=o.id/\x.type=o.type:=by
 obtain⟨y,l,d,m⟩:=CB (p:=p) c e;obtain⟨x,i,j,k⟩:=CB (a:=bf a p) (p:=bK p q) ((iN h.ap).2 (.inl l)) λb=>by have b:=(List.mem_filter.1 b).1;have:=h.ap.tk.wL.inj (h.aq.sY b) c d;exact f (this ▸ b)
 exact⟨x,(iN g).2 (.inl i),j.trans d,k.trans m⟩
structure HF(m n:ay)(f:Int->Int):Prop where
 node:∀x∈bA m,∃y∈bA n,y.id=f x.id/\y.type=x.type/\y.values=x.values
 fq:∀e∈cC m,∃g∈cC n,g.id=f e.id/\g.type=e.type/\g.src=f e.src/\g.dst=f e.dst
theorem D7{m:ay}(c:eX t m){l:List aQ}(b:Cx m l){x:ah}(f:x∈bA m){v:aQ}(d:v∈l)(e:v.id=x.id){k:Nat}(a:v.attr=(k:Int)):x.values[k]? = some v.new:=by obtain⟨n,n1,g,i,h⟩:=b v d;have:=c.wL.inj n1 f (g.trans e);rw[<-this,<-h,a,Int.toNat_natCast]
theorem avK(h:j0 t a p q)(r:ji a p q=[])(i:bH t (bf a p) (bK p q))(e:bH t (bf a q) (bK q p)){x:ah}(j:x∈bA (jP a p q)):∃y∈bA (jP a q p),y.id=ey p q x.id/\y.type=x.type/\y.values=x.values:=by
 have Q:=h.x0;have gp:=h.gp.next
 have gq:=h.gq.next
 by_cases hl:x.id<a.next
 ·obtain⟨o,A,I,J,K,L,M⟩:=MW h i j hl;obtain⟨y,f,B,O⟩:=aEi h.symm e A L K;have P:y.id<a.next:=by omega
  obtain⟨R,r1,r2,S,T,U,N⟩:=MW h.symm e f P;have C:=h.ap.tk.wL.inj r1 A (r2.trans B);subst C;obtain⟨D,E⟩:=My h r i;obtain⟨F,G⟩:=My h.symm (by rw[sR h];exact r) e;have g:y.id=x.id:=B.trans I;refine⟨y,f,?_,O.trans J,List.ext_getElem? λk=>?_⟩
  ·unfold ey;rw[if_pos (by omega),g]
  ·by_cases s:∃v∈p.values,v.id=x.id/\v.attr=(k:Int)
   ·obtain⟨v,b,c,d⟩:=s;rw[D7 i.ok D j b c d,D7 e.ok G f b (c.trans g.symm) d]
   ·by_cases w:∃v∈q.values,v.id=x.id/\v.attr=(k:Int)
    ·obtain⟨v,b,c,d⟩:=w;rw[D7 i.ok E j b c d,D7 e.ok F f b (c.trans g.symm) d]
    ·have u:∀v∈p.values,v.id=x.id->v.attr≠(k:Int):=λv b c d=>s ⟨v,b,c,d⟩
     have z:∀v∈q.values,v.id=x.id->v.attr≠(k:Int):=λv b c d=>w ⟨v,b,c,d⟩
     rw[M k u z,N k (by rw[g];exact z) (by rw[g];exact u)]
 ·rcases aAt h i j hl with l|⟨y,f,rfl⟩
  ·have m:=h.gp.n x l;have H:=(h.ap.ids.1 x l).2;refine⟨_,avJ h.symm e l,?_,rfl,rfl⟩;show dR p.next.x0 (q.next.x1-q.next.x0) x.id=_
   unfold dR ey;rw[if_pos m,if_neg (by omega),if_pos H]
  ·have m:=h.gq.n y f;refine⟨y,aAu h.symm e f,?_,rfl,rfl⟩;show y.id=ey p q (dR q.next.x0 (p.next.x1-p.next.x0) y.id);unfold dR ey;rw[if_pos m,if_neg (by omega),if_neg (by omega)];omega
theorem vD(h:eX t a){e:au}(d:e∈cC a):e.src<a.next/\e.dst<a.next:=by obtain⟨_,n,g,m,f,b,c,_⟩:=D3 h d;rw[<-b,<-c];exact⟨(h.ze.1 _ (vu g)).2,(h.ze.1 _ (vu f)).2⟩
theorem D8(h:j0 t a p q){i:Int}(c:i<p.next.x1):dR p.next.x0 (q.next.x1-q.next.x0) i=ey p q i:=by
 unfold dR ey;by_cases b:p.next.x0<=i
 ·rw[if_pos b,if_neg (by omega),if_pos c]
 ·rw[if_neg b,if_pos (by omega)]
theorem HG(h:j0 t a p q)(i:Int):ey p q (dR q.next.x0 (p.next.x1-p.next.x0) i)=i:=by
 have c:=h.x0;have gp:=h.gp.next
 unfold dR ey;by_cases b:q.next.x0<=i
 ·rw[if_pos b,if_neg (by omega),if_neg (by omega)];omega
 ·rw[if_neg b,if_pos (by omega)]
theorem avL(h:j0 t a p q)(w:bH t (bf a p) (bK p q))(d:bH t (bf a q) (bK q p)){e:au}(he:e∈cC (jP a p q)):∃g∈cC (jP a q p),g.id=ey p q e.id/\g.type=e.type/\g.src=ey p q e.src/\g.dst=ey p q e.dst:=by
 have B:=h.x0;have gp:=h.gp.next
 have gq:=h.gq.next
 rcases (jO w).1 he with he|he
 ·obtain⟨o,r⟩:=D6 he;rcases (jO h.ap).1 o with e3|e3
  ·obtain⟨c,j⟩:=D6 e3;have s:e ∉ q.aA:=λb=>r (List.mem_filter.2 ⟨b,by
    rw[Bool.not_eq_true',List.any_eq_false];intro y l u;have:=h.ap.tk.rq.inj c (h.ap.DG l) (b6 u);exact j (this ▸ l)⟩)
   have hl:=(h.ap.tk.r9.1 _ (Cr c)).2;obtain⟨m,n⟩:=vD h.ap.tk c;have f:∀i,i<a.next->i=ey p q i:=λi A=>by unfold ey;rw[if_pos (by omega)]
   exact⟨e,(jO d).2 (.inl (xG ((jO h.aq).2 (.inl (xG c s))) λb=>j (List.mem_filter.1 b).1)),f _ hl,rfl,f _ m,f _ n⟩
  ·have v:=(h.ap.ids.2 e e3).2;obtain⟨m,n⟩:=vD h.ap.ok ((jO h.ap).2 (.inr e3));have x:(bf a p).next=p.next.x1:=rfl
   exact⟨_,(jO d).2 (.inr (List.mem_map_of_mem e3)),D8 h v,rfl,D8 h (by omega),D8 h (by omega)⟩
 ·obtain⟨g,k,rfl⟩:=List.mem_map.1 he;have z:=h.gq.e g k;refine⟨g,(jO d).2 (.inl (xG ((jO h.aq).2 (.inr k)) λb=>?_)),(HG h g.id).symm,rfl,(HG h g.src).symm,(HG h g.dst).symm⟩;have:=akr h.ap (List.mem_filter.1 b).1;omega
theorem MX(h:j0 t a p q)(d:ji a p q=[])(b:bH t (bf a p) (bK p q))(c:bH t (bf a q) (bK q p)):HF (jP a p q) (jP a q p) (ey p q):=⟨λ_ f=>avK h d b c f,λ_ e=>avL h b c e⟩
theorem D9(h:j0 t a p q){i:Int}(d:i<p.next.x1+q.next.x1-q.next.x0):ey q p (ey p q i)=i:=by
 have e:=h.x0;have gp:=h.gp.next
 have gq:=h.gq.next
 unfold ey;by_cases b:i<p.next.x0
 ·rw[if_pos b,if_pos (by omega)]
 ·rw[if_neg b];by_cases c:i<p.next.x1
  ·rw[if_pos c,if_neg (by omega),if_neg (by omega)];omega
  ·rw[if_neg c,if_neg (by omega),if_pos (by omega)];omega
end
structure zf(t:Types)(m n:ay)(f g:Int->Int):Prop where
 gJ:eX t m
 l9:eX t n
 to:HF m n f
 back:HF n m g
 gf:∀i,i<m.next->g (f i)=i
 fg:∀i,i<n.next->f (g i)=i
def vH(f:Int->Int)(e:au):au:=⟨f e.id,e.type,f e.src,f e.dst⟩
def Ea(f:Int->Int)(x:ah):ah:=⟨f x.id,x.type,x.values⟩
section
variable{t:Types}{m n:ay}{f g:Int->Int}
theorem zf.symm(h:zf t m n f g):zf t n m g f:=⟨h.l9,h.gJ,h.back,h.to,h.fg,h.gf⟩
theorem aEk(h:eX t m){x:ah}(a:x∈bA m):x.id<m.next:=(h.ze.1 _ (vu a)).2
theorem HH(h:eX t m){x:au}(a:x∈cC m):x.id<m.next:=(h.r9.1 _ (Cr a)).2
theorem zf.node(h:zf t m n f g){x:ah}(j:x∈bA m):Ea f x∈bA n:=by
 obtain⟨y,k,d,e,i⟩:=h.to.node x j;have:y=Ea f x:=by obtain⟨a,b,c⟩:=y;dsimp only at d e i;rw[d,e,i];rfl
 rwa [<-this]
theorem zf.fq(h:zf t m n f g){x:au}(l:x∈cC m):vH f x∈cC n:=by
 obtain⟨y,o,e,i,j,k⟩:=h.to.fq x l;have:y=vH f x:=by obtain⟨a,b,c,d⟩:=y;dsimp only at e i j k;rw[e,i,j,k];rfl
 rwa [<-this]
theorem zf.inj(h:zf t m n f g){i j:Int}(a:i<m.next)(b:j<m.next)(e:f i=f j):i=j:=by rw[<-h.gf i a,<-h.gf j b,e]
theorem aAv{α:Type}{k:α->Int}{l:List α}(h:iS k l):l.Nodup:=List.Pairwise.imp (λ{a b} (h:k a<k b) e=>by subst e;omega) h
theorem zf.perm(h:zf t m n f g):(cC n).Perm ((cC m).map (vH f)):=by
 refine (List.perm_ext_iff_of_nodup (aAv h.l9.rq) ?_).2 λy=>⟨λc=>?_,λc=>?_⟩
 ·refine List.pairwise_map.2 (List.Pairwise.imp_of_mem (λ{a b} d i o e=>?_) h.gJ.rq);have:=h.inj (HH h.gJ d) (HH h.gJ i) (congrArg au.id e);omega
 ·refine List.mem_map.2 ⟨vH g y,h.symm.fq c,?_⟩;obtain⟨k,l⟩:=vD h.l9 c;unfold vH;dsimp only;rw[h.fg _ (HH h.l9 c),h.fg _ k,h.fg _ l]
 ·obtain⟨x,j,rfl⟩:=List.mem_map.1 c;exact h.fq j
def BG(a:Bool)(id:Int)(e:au):Bool:=if a=true then decide (e.src=id) else decide (e.dst=id)
def CD(m:ay)(k id:Int)(a:Bool):Nat:=((cC m).filter λe=>decide (e.type=k)&&BG a id e).length
theorem MY(h:eX t m){i:Nat}(d:i<m.nodes.length)(k:Int)(a:Bool):qm m.host.graph k (i:Int) a=(CD m k (m.nodes.getD i default) a:Nat):=by
 unfold qm CD cC;rw[List.filter_map,List.length_map];have e:m.host.graph.ak=(List.range m.ak.length).map λj=>m.host.graph.ak.getD j default:=by rw[h.ru,yj]
 have n1:=h.qJ;have g:=h.ru;have tS:∀s:Int,0<=s/\s<m.host.graph.nodes.length->(s=(i:Int)↔m.nodes.getD s.toNat default=m.nodes.getD i default):=λs f=>by
  constructor
  ·intro q;rw[q,Int.toNat_natCast]
  ·intro q;rw[hU (show s.toNat<m.nodes.length by omega),hU d] at q;have:=h.ze.2.tS (show s.toNat<m.nodes.length by omega) d q;omega
 suffices f:(m.host.graph.ak.filter λe=>decide (e.type=k)&&(if a=true then decide (e.src=(i:Int)) else decide (e.dst=(i:Int)))).length=((List.range m.ak.length).filter ((λe:au=>decide (e.type=k)&&BG a (m.nodes.getD i default) e) ∘ fJ m)).length by rw[f]
 rw[e,List.filter_map,List.length_map];congr 1;refine List.filter_congr λj b=>?_
 have b:j<m.host.graph.ak.length:=by rw[<-g];exact List.mem_range.1 b
 have c:=(h.host.graph.fq j b).2;show (decide ((m.host.graph.ak.getD j default).type=k)&&_)=(decide ((m.host.graph.ak.getD j default).type=k)&&BG a (m.nodes.getD i default) (fJ m j));congr 1;unfold BG fJ;cases a
 ·exact decide_eq_decide.2 (tS _ c.2)
 ·exact decide_eq_decide.2 (tS _ c.1)
theorem aAy(h:zf t m n f g){id:Int}(b:id<m.next)(k:Int)(a:Bool):CD n k (f id) a=CD m k id a:=by
 unfold CD;rw[(h.perm.filter _).length_eq,List.filter_map,List.length_map];congr 1;refine List.filter_congr λe c=>?_
 obtain⟨d,i⟩:=vD h.gJ c;show (decide (e.type=k)&&BG a (f id) (vH f e))=_;congr 1;unfold BG vH;cases a
 ·exact decide_eq_decide.2 ⟨λq=>h.inj i b q,λq=>congrArg f q⟩
 ·exact decide_eq_decide.2 ⟨λq=>h.inj d b q,λq=>congrArg f q⟩
def MZ(t:Types)(k:Nat)(a:Bool):Int:=if a=true then (t.ak.getD k default).src else (t.ak.getD k default).dst
def M0(t:Types)(k:Nat)(a:Bool):Int:=if a=true then (t.ak.getD k default).nI else (t.ak.getD k default).tq
def M1(t:Types)(k:Nat)(a:Bool):Int:=if a=true then (t.ak.getD k default).j9 else (t.ak.getD k default).og
theorem M3(h:eX t m){v:aZ} : v∈gi t m↔∃k i:Nat,k<t.ak.length/\i<m.nodes.length/\v.id=m.nodes.getD i default/\v.fq=(k:Int)/\AD t m.host.graph (k:Int) v.out (MZ t k v.out) (M0 t k v.out) (M1 t k v.out) i=true:=by
 have n1:=h.qJ;unfold gi s6 r8 qj;simp only[List.mem_map,List.mem_flatMap,List.mem_append,List.mem_range,List.mem_filter];constructor
 ·rintro⟨y,⟨k,b,⟨i,⟨e,a⟩,rfl⟩|⟨i,⟨e,a⟩,rfl⟩⟩,rfl⟩
  ·exact⟨k,i,b,by omega,rfl,rfl,a⟩
  ·exact⟨k,i,b,by omega,rfl,rfl,a⟩
 ·rintro⟨k,i,b,e,c,d,a⟩;obtain⟨g,j,f⟩:=v;dsimp only at c d a;subst c d;cases f
  ·exact⟨_,⟨k,b,.inr ⟨i,⟨by omega,a⟩,rfl⟩⟩,rfl⟩
  ·exact⟨_,⟨k,b,.inl ⟨i,⟨by omega,a⟩,rfl⟩⟩,rfl⟩
def Aj(f:Int->Int)(v:aZ):aZ:=⟨f v.id,v.fq,v.out⟩
theorem aEl(h:zf t m n f g){v:aZ}(s:v∈gi t m):Aj f v∈gi t n:=by
 obtain⟨k,i,r,d,p,q,c⟩:=(M3 h.gJ).1 s;have l:=qI (a:=m) d;obtain⟨j,e,b⟩:=sO (h.node l);have o:n.nodes.getD j default=f (m.nodes.getD i default):=(congrArg ah.id b).symm;have u:n.host.graph.nodes.getD j default=m.host.graph.nodes.getD i default:=(congrArg ah.type b).symm;have hl:m.nodes.getD i default<m.next:=aEk h.gJ l
 refine (M3 h.l9).2 ⟨k,j,r,e,?_,q,?_⟩
 ·rw[o,<-p];rfl
 ·show AD t n.host.graph (k:Int) v.out (MZ t k v.out) (M0 t k v.out) (M1 t k v.out) j=true;unfold AD at c ⊢;rw[u,MY h.l9 e,o,aAy h hl,<-MY h.gJ d];exact c
theorem avN{a x z:ay}{v:aZ} : nj t a x z v=true↔v∈gi t a\/v∈gi t x\/v∈gi t z:=by
 unfold nj;rw[List.any_eq_true];have b:∀w,o5 v w=true↔v=w:=λw=>by obtain⟨c,d,f⟩:=v;obtain⟨g,i,j⟩:=w;simp[o5]
 constructor
 ·rintro⟨w,hw,e⟩;rw[(b w).1 e];rcases List.mem_append.1 hw with hw|hw
  ·exact (List.mem_append.1 hw).elim .inl λk=>.inr (.inl k)
  ·exact .inr (.inr hw)
 ·rintro (h|h|h)
  ·exact⟨v,List.mem_append_left _ (List.mem_append_left _ h),(b v).2 rfl⟩
  ·exact⟨v,List.mem_append_left _ (List.mem_append_right _ h),(b v).2 rfl⟩
  ·exact⟨v,List.mem_append_right _ h,(b v).2 rfl⟩
theorem CE{a x z:ay}(f:eX t m){c:aG} : c∈ud t a x z m↔∃v∈gi t m,¬ nj t a x z v=true/\c=⟨4,v.id,v.fq⟩:=by
 rw[<-G7 f,(jT (K:=4) λc e=>by obtain⟨v,_,rfl⟩:=List.mem_map.1 e;rfl).2 c];unfold A5;rw[List.mem_map];constructor
 ·rintro⟨v,g,rfl⟩;obtain⟨b,d⟩:=List.mem_filter.1 g;exact⟨v,b,by simpa using d,rfl⟩
 ·rintro⟨v,b,d,rfl⟩;exact⟨v,List.mem_filter.2 ⟨b,by simpa using d⟩,rfl⟩
theorem aqS{a x z:ay}(f:eX t m):(ud t a x z m).Nodup:=by rw[<-G7 f];exact List.Pairwise.imp (λ{a b} (h:l7 a b) e=>by subst e;exact Lx a h) (jT (K:=4) λc d=>by obtain⟨v,_,rfl⟩:=List.mem_map.1 d;rfl).1
theorem M4{a x z k l:ay}(h:zf t m n f g)(s:∀v∈gi t m,nj t a k l (Aj f v)=true->nj t a x z v=true):(ud t a x z m).length<=(ud t a k l n).length:=by
 have u:((ud t a x z m).map λc:aG=>(⟨4,f c.id,c.attr⟩:aG)).Nodup:=by refine List.pairwise_map.2 (List.Pairwise.imp_of_mem (λ{c d} i j r e=>r ?_) (aqS (a:=a) (x:=x) (z:=z) h.gJ));obtain⟨v,b,_,rfl⟩:=(CE h.gJ).1 i;obtain⟨w,A,_,rfl⟩:=(CE h.gJ).1 j;have l1:=(h.gJ.ze.1 _ (wk h.gJ b).1).2;have l2:=(h.gJ.ze.1 _ (wk h.gJ A).1).2;have o:v.id=w.id:=h.inj l1 l2 (congrArg aG.id e);have p:v.fq=w.fq:=congrArg aG.attr e;rw[o,p]
 have:=List.Nodup.length_le_of_subset u (l₂:=ud t a k l n) λc i=>by obtain⟨d,j,rfl⟩:=List.mem_map.1 i;obtain⟨v,b,y,rfl⟩:=(CE h.gJ).1 j;exact (CE h.l9).2 ⟨Aj f v,aEl h b,λq=>y (s v b q),rfl⟩
 rwa [List.length_map] at this
end
section
variable{t:Types}{a:ay}{p q:aH}
theorem M5(h:j0 t a p q)(d:ji a p q=[])(b:bH t (bf a p) (bK p q))(c:bH t (bf a q) (bK q p)):zf t (jP a p q) (jP a q p) (ey p q) (ey q p):=by
 have j:=h.x0;have f:(jP a p q).next=p.next.x1+q.next.x1-q.next.x0:=rfl
 have g:(jP a q p).next=q.next.x1+p.next.x1-p.next.x0:=rfl
 exact⟨b.ok,c.ok,MX h d b c,MX h.symm (by rw[sR h];exact d) c b,λi e=>D9 h (by omega),λi e=>D9 h.symm (by omega)⟩
theorem M6(h:j0 t a p q):gi t (jk a p q)=(gi t (bf a q)).map (Aj (dR q.next.x0 (p.next.x1-p.next.x0))):=by
 rw[(DW h).1];unfold gi;rw[List.map_map];refine List.map_congr_left λy e=>?_
 obtain⟨k,i,g,d,f,c⟩:=DX e;have b:i<(bf a q).nodes.length:=by rw[h.aq.ok.qJ];exact d
 show (⟨((bf a q).nodes.map _).getD y.node.toNat default,y.fq,y.out⟩:aZ)=Aj _ ⟨(bf a q).nodes.getD y.node.toNat default,y.fq,y.out⟩;unfold Aj;dsimp only;rw[c,Int.toNat_natCast,hU (l:=(bf a q).nodes.map _) (by rw[List.length_map];exact b),List.getElem_map,hU b]
theorem M7(h:j0 t a p q)(m:bH t (bf a p) (bK p q)){v:aZ}(r:v∈gi t (jP a p q))(hk:nj t a (bf a q) (jk a q p) (Aj (ey p q) v)=true):nj t a (bf a p) (jk a p q) v=true:=by
 have B:=h.x0;have gp:=h.gp.next
 have gq:=h.gq.next
 have hl:=(m.ok.ze.1 _ (wk m.ok r).1).2;have A:(jP a p q).next=p.next.x1+q.next.x1-q.next.x0:=rfl
 obtain⟨b,d,f⟩:=v;have hl:b<p.next.x1+q.next.x1-q.next.x0:=hl
 rw[avN] at hk ⊢;rcases hk with hk|hk|hk
 ·have:=(h.ap.tk.ze.1 _ (wk h.ap.tk hk).1).2;have this:ey p q b<a.next:=this
  have e:ey p q b=b:=by
   unfold ey at this ⊢;split at this
   ·rename_i c;rw[if_pos c]
   ·split at this<;>omega
  refine .inl ?_;rw[show Aj (ey p q) ⟨b,d,f⟩=⟨b,d,f⟩ from by unfold Aj;rw[e]] at hk;exact hk
 ·have:=(h.aq.ok.ze.1 _ (wk h.aq.ok hk).1).2;have this:ey p q b<q.next.x1:=this
  refine .inr (.inr ?_);rw[M6 h];refine List.mem_map.2 ⟨_,hk,?_⟩;show (⟨dR q.next.x0 (p.next.x1-p.next.x0) (ey p q b),d,f⟩:aZ)=⟨b,d,f⟩;have e:dR q.next.x0 (p.next.x1-p.next.x0) (ey p q b)=b:=by
   unfold ey at this ⊢;unfold dR;split at this
   ·rename_i c;rw[if_pos c,if_neg (by omega)]
   ·rename_i c;split at this
    ·omega
    ·rename_i o;rw[if_neg c,if_neg o,if_pos (by omega)];omega
  rw[e]
 ·rw[M6 h.symm] at hk;obtain⟨w,j,l⟩:=List.mem_map.1 hk;have g:=(h.ap.ok.ze.1 _ (wk h.ap.ok j).1).2;have g:w.id<p.next.x1:=g
  obtain⟨k,y,z⟩:=w;dsimp only at g;have n:dR p.next.x0 (q.next.x1-q.next.x0) k=ey p q b:=congrArg aZ.id l
  have s:y=d:=congrArg aZ.fq l;have u:z=f:=congrArg aZ.out l;rw[D8 h g] at n;have x:k=b:=by rw[<-D9 h (i:=k) (by omega),<-D9 h (i:=b) (by omega),n]
  rw[s,u,x] at j;exact .inr (.inl j)
theorem M8(h:j0 t a p q)(f:ji a p q=[])(d:bH t (bf a p) (bK p q))(e:bH t (bf a q) (bK q p)):(xA t a q p (jP a q p)).length=(xA t a p q (jP a p q)).length:=by have I:=M5 h f d e;exact Nat.le_antisymm (M4 I.symm λv c b=>M7 h.symm e c b) (M4 I λv c b=>M7 h d c b)
end
def rM(g:eU)(s d:Int):List Int:=(g.ak.filter λe=>decide (e.src=s)&&decide (e.dst=d)).map Edge.type
def mq(l:List Int):List Int:=l.mergeSort λx y=>decide (x<=y)
theorem M9(l:List Int):(mq l).Pairwise (·<=·):=List.Pairwise.imp (λh=>b6 h) (List.pairwise_mergeSort (le:=λx y:Int=>decide (x<=y)) (λa b c d e=>dr (Int.le_trans (b6 d) (b6 e))) (λa b=>by simp only[Bool.or_eq_true,decide_eq_true_eq];omega) l)
theorem Na{l m:List Int}(e:m.Pairwise (·<=·))(f:m.Perm l):m=mq l:=List.Perm.eq_of_pairwise (λa b _ _ c d=>Int.le_antisymm c d) e (M9 l) (f.trans (List.mergeSort_perm l _).symm)
theorem aqT{l m:List Int}(a:l.Perm m):mq l=mq m:=Na (M9 l) ((List.mergeSort_perm l _).trans a)
structure HI(a b:Host)(f:Nat->Nat):Prop where
 len:a.graph.nodes.length=b.graph.nodes.length
 to:∀i,i<a.graph.nodes.length->f i<b.graph.nodes.length
 inj:∀i j,i<a.graph.nodes.length->j<a.graph.nodes.length->f i=f j->i=j
 kind:∀i,i<a.graph.nodes.length->b.graph.nodes.getD (f i) default=a.graph.nodes.getD i default
 vals:∀i,i<a.graph.nodes.length->b.values.getD (f i) default=a.values.getD i default
 rM:∀i j,i<a.graph.nodes.length->j<a.graph.nodes.length->mq (rM b.graph (f i:Nat) (f j:Nat))=mq (rM a.graph (i:Nat) (j:Nat))
section
variable{t:Types}{m n:ay}{f g:Int->Int}
def CF(m:ay)(s d:Int):List Int:=((cC m).filter λe=>decide (e.src=s)&&decide (e.dst=d)).map au.type
theorem Nb(h:eX t m){i j:Nat}(a:i<m.nodes.length)(k:j<m.nodes.length):rM m.host.graph (i:Int) (j:Int)=CF m (m.nodes.getD i default) (m.nodes.getD j default):=by
 unfold rM CF cC;rw[List.filter_map,List.map_map];have e:m.host.graph.ak=(List.range m.ak.length).map λj=>m.host.graph.ak.getD j default:=by rw[h.ru,yj]
 have n1:=h.qJ;have f:=h.ru;have tS:∀ (s:Int) (i:Nat) (a:i<m.nodes.length),0<=s/\s<m.host.graph.nodes.length->(s=(i:Int)↔m.nodes.getD s.toNat default=m.nodes.getD i default):=λs i a d=>by
  constructor
  ·intro q;rw[q,Int.toNat_natCast]
  ·intro q;rw[hU (show s.toNat<m.nodes.length by omega),hU a] at q;have:=h.ze.2.tS (show s.toNat<m.nodes.length by omega) a q;omega
 suffices d:(m.host.graph.ak.filter λe=>decide (e.src=(i:Int))&&decide (e.dst=(j:Int))).map Edge.type=((List.range m.ak.length).filter ((λe:au=>decide (e.src=m.nodes.getD i default)&&decide (e.dst=m.nodes.getD j default)) ∘ fJ m)).map (au.type ∘ fJ m) from d
 rw[e,List.filter_map,List.map_map];have g:(List.range m.ak.length).filter ((λe:Edge=>decide (e.src=(i:Int))&&decide (e.dst=(j:Int))) ∘ λj=>m.host.graph.ak.getD j default)=(List.range m.ak.length).filter ((λe:au=>decide (e.src=m.nodes.getD i default)&&decide (e.dst=m.nodes.getD j default)) ∘ fJ m):=List.filter_congr λx b=>by
  have b:x<m.host.graph.ak.length:=by rw[<-f];exact List.mem_range.1 b
  have c:=(h.host.graph.fq x b).2;show (decide ((m.host.graph.ak.getD x default).src=(i:Int))&&decide ((m.host.graph.ak.getD x default).dst=(j:Int)))=(decide ((fJ m x).src=m.nodes.getD i default)&&decide ((fJ m x).dst=m.nodes.getD j default));rw[decide_eq_decide.2 (tS _ i a c.1),decide_eq_decide.2 (tS _ j k c.2)];rfl
 rw[g];rfl
theorem aAC(h:zf t m n f g){s d:Int}(c:s<m.next)(a:d<m.next):(CF n (f s) (f d)).Perm (CF m s d):=by
 unfold CF;refine ((h.perm.filter _).map _).trans ?_;rw[List.filter_map,List.map_map];have e:(cC m).filter ((λe:au=>decide (e.src=f s)&&decide (e.dst=f d)) ∘ vH f)=(cC m).filter λe=>decide (e.src=s)&&decide (e.dst=d):=List.filter_congr λe b=>by obtain⟨i,j⟩:=vD h.gJ b;show (decide (f e.src=f s)&&decide (f e.dst=f d))=_;rw[decide_eq_decide.2 ⟨λq=>h.inj i c q,λq=>congrArg f q⟩,decide_eq_decide.2 ⟨λq=>h.inj j a q,λq=>congrArg f q⟩]
 rw[e];exact List.Perm.refl _
theorem Nc(h:zf t m n f g):m.nodes.length<=n.nodes.length:=by
 have q:(m.nodes.map f).Nodup:=List.pairwise_map.2 (List.Pairwise.imp_of_mem (λ{a b} d l (j:id a<id b) e=>by
  have:=h.inj (h.gJ.ze.1 a d).2 (h.gJ.ze.1 b l).2 e;subst this;exact absurd j (Int.lt_irrefl _)) h.gJ.ze.2)
 have:=List.Nodup.length_le_of_subset q (l₂:=n.nodes) λx p=>by obtain⟨i,o,rfl⟩:=List.mem_map.1 p;obtain⟨k,c,rfl⟩:=List.getElem_of_mem o;have:=vu (h.node (qI (a:=m) c));rw[show (Ea f (cD m k)).id=f (m.nodes.getD k default) from rfl,hU c] at this;exact this
 rwa [List.length_map] at this
theorem aEn(h:zf t m n f g):HI m.host n.host (λi=>(cA n.nodes (f (m.nodes.getD i default))).toNat):=by
 have n1:=h.gJ.qJ;have w:=h.l9.qJ;have l1:=Nc h;have l2:=Nc h.symm;have low:∀i,i<m.nodes.length->m.nodes.getD i default<m.next:=λi b=>by rw[hU b];exact (h.gJ.ze.1 _ (l8 b)).2
 have d:∀i,i<m.nodes.length->∃j,j<n.nodes.length/\(cA n.nodes (f (m.nodes.getD i default))).toNat=j/\n.nodes.getD j default=f (m.nodes.getD i default)/\Ea f (cD m i)=cD n j:=λi b=>by obtain⟨j,c,q⟩:=sO (h.node (qI (a:=m) b));have e:n.nodes.getD j default=f (m.nodes.getD i default):=(congrArg ah.id q).symm;refine⟨j,c,?_,e,q⟩;rw[<-e,hU c,avu h.l9.ze.2 c,Int.toNat_natCast]
 refine⟨by omega,λi b=>?_,λi j b c e=>?_,λi b=>?_,λi b=>?_,λi j b c=>?_⟩
 ·obtain⟨j,c,e,_⟩:=d i (by omega);omega
 ·obtain⟨u,r,k,l,_⟩:=d i (by omega);obtain⟨v,s,o,p,_⟩:=d j (by omega);have:u=v:=by omega
  rw[this,p] at l;have:=h.inj (low j (by omega)) (low i (by omega)) l;rw[hU (show j<m.nodes.length by omega),hU (show i<m.nodes.length by omega)] at this;exact (h.gJ.ze.2.tS (show j<m.nodes.length by omega) (show i<m.nodes.length by omega) this).symm
 ·obtain⟨j,c,k,l,o⟩:=d i (by omega);rw[k];exact (congrArg ah.type o).symm
 ·obtain⟨j,c,k,l,o⟩:=d i (by omega);rw[k];exact (congrArg ah.values o).symm
 ·obtain⟨u,r,k,l,_⟩:=d i (by omega);obtain⟨v,s,o,p,_⟩:=d j (by omega);rw[k,o,Nb h.l9 r s,Nb h.gJ (by omega) (by omega),l,p];exact aqT (aAC h (low i (by omega)) (low j (by omega)))
end
theorem aqU{T:List Int}{ty:Int}{k:Nat}(g:T.Pairwise (·<=·))(e:∀x∈T.take k,x<=ty)(f:∀x∈T.drop k,ty<=x):(T.take k++[ty]++T.drop k).Pairwise (·<=·):=by
 have d:=g;rw[<-List.take_append_drop k T,List.pairwise_append] at d;refine List.pairwise_append.2 ⟨List.pairwise_append.2 ⟨d.1,List.pairwise_singleton _ _,λa ha b c=>?_⟩,d.2.1,λa ha b c=>?_⟩
 ·rw[List.mem_singleton.1 c];exact e a ha
 ·rcases List.mem_append.1 ha with ha|ha
  ·exact d.2.2 a ha b c
  ·rw[List.mem_singleton.1 ha];exact f b c
theorem aAD{T:List Int}{ty:Int}{k:Nat} : (T.take k++[ty]++T.drop k).Perm (T++[ty]):=by rw[List.append_assoc];refine (List.Perm.append_left _ List.perm_append_comm).trans ?_;rw[<-List.append_assoc,List.take_append_drop]
theorem aAE{T:List Int}{ty:Int}{k:Nat}(c:T.Pairwise (·<=·))(f:k<=T.length)(h:0<k->T.getD (k-1) default<=ty):∀x∈T.take k,x<=ty:=by
 intro x d;obtain⟨i,a,rfl⟩:=List.getElem_of_mem d;rw[List.length_take] at a;have b:0<k:=by omega
 have:=h b;rw[hU (show k-1<T.length by omega)] at this;rw[List.getElem_take];by_cases e:i=k-1
 ·subst e;exact this
 ·exact Int.le_trans (List.pairwise_iff_getElem.1 c i (k-1) (by omega) (by omega) (by omega)) this
def fM(g:eU)(l:List Int):List Int:=l.map λx=>(g.ak.getD x.toNat default).type
theorem HJ{a b:List Int}(w:a.length<=1000000)(y:b.length<=1000000)(o:∀x∈a,-1000000<=x/\x<=1000000)(p:∀x∈b,-1000000<=x/\x<=1000000):Ok (dP a b) (λc=>c=0↔a=b):=by
 unfold dP;refine Ds (λs:Int=>(0<=s/\s<=a.length/\s<=b.length)/\∀i,i<s.toNat->a[i]? = b[i]?) (λs=>a.length-s.toNat) ⟨⟨by omega,by omega,by omega⟩,λi m=>absurd m (by simp)⟩ (by show a.length-(0:Int).toNat<4611686018427387904;omega) ?_;rintro s v ⟨n,l⟩ r;have k:¬ (s<a.length/\s<b.length)->Ok (some (i64.wrap (((a.length:Nat):Int)-((b.length:Nat):Int)))) (λc=>c=0↔a=b):=λh=>.mk ⟨λq=>?_,λq=>?_⟩
 ·refine bV (λe=>?_) λe=>k λq=>dK e q.1
  refine bV (λf=>?_) λf=>k λq=>dK f q.2
  have e:=b6 e;have f:=b6 f;have g:s.toNat<a.length:=by omega
  have j:s.toNat<b.length:=by omega
  refine kS n.1 g (kS n.1 j ?_);refine bV (λd=>?_) (λd=>.mk ⟨λq=>?_,λq=>?_⟩)
  ·have d:=b6 d;rw[dy (by omega)];refine r _ ⟨⟨by omega,by omega,by omega⟩,λi m=>?_⟩ (by omega);rcases Nat.lt_or_ge i s.toNat with h|h
   ·exact l i h
   ·have:i=s.toNat:=by omega
    subst this;rw[List.getElem?_eq_getElem g,List.getElem?_eq_getElem j,d]
  ·have d:=dK d;have t:=o _ (l8 g);have u:=p _ (l8 j);rw[dy (by omega)] at q;omega
  ·have d:=dK d;exact absurd (by simp only[q]) d
 ·have hl:a.length=b.length:=by rw[dy (by omega)] at q;omega
  refine List.ext_getElem? λi=>?_
  rcases Nat.lt_or_ge i s.toNat with h3|h3
  ·exact l i h3
  ·rw[List.getElem?_eq_none (by omega),List.getElem?_eq_none (by omega)]
 ·rw[q,dy (by omega)];omega
section
variable{g:eU}
theorem Eb(hl:g.ak.length<=1000){l:List Int}(f:l.length<=1000)(h:∀x∈l,0<=x/\x<g.ak.length):c9 g l=some (((l.length:Nat):Int) :: fM g l):=by refine Ok.eq ?_;unfold c9;refine bU (bl (by omega)) (mz (λj s=>s=((l.length:Nat):Int) :: fM g (l.take j)) (Nat.zero_le _) rfl (λj s e _ b a c=>oK b ?_) λs a=>.mk (by rw[a,List.take_length]));have d:=h _ (l8 b);subst a;refine kS d.1 (by omega) (bU (by unfold fM;rw[List.length_cons,List.length_map,List.length_take];omega) (c _ ?_));unfold fM;rw[List.take_add_one,List.getElem?_eq_getElem b,Option.toList_some,List.map_append,List.cons_append,List.map_singleton,hU (show (l[j]).toNat<g.ak.length by omega)]
theorem uT(hl:g.ak.length<=1000)(s d:Int):Ok (b9 g s d) (λl=>l.length<=1000/\(∀x∈l,0<=x/\x<g.ak.length)/\fM g l=mq (rM g s d)):=by
 unfold b9;refine bU (bl (by omega)) (mz (λj (a:List Int)=>(a.length<=j/\∀x∈a,(0:Int)<=x/\x<g.ak.length)/\(fM g a).Pairwise (·<=·)/\(fM g a).Perm (((g.ak.take j).filter λe=>decide (e.src=s)&&decide (e.dst=d)).map Edge.type)) (Nat.zero_le _) ⟨⟨Nat.le_refl _,λx hx=>by cases hx⟩,List.Pairwise.nil,List.Perm.refl _⟩ (λj a A _ p f w=>oK p ?_) λa f=>.mk ⟨by omega,f.1.2,?_⟩)
 ·obtain⟨⟨l1,l2⟩,t,y⟩:=f;have v:∀b:Bool,(decide (g.ak[j].src=s)&&decide (g.ak[j].dst=d))=b->((g.ak.take (j+1)).filter λe=>decide (e.src=s)&&decide (e.dst=d)).map Edge.type=((g.ak.take j).filter λe=>decide (e.src=s)&&decide (e.dst=d)).map Edge.type++if b=true then [g.ak[j].type] else []:=λb o=>by rw[List.take_add_one,List.getElem?_eq_getElem p,Option.toList_some,List.filter_append,List.map_append];congr 1;rw[List.filter_cons,o];cases b<;>rfl
  have skip:(decide (g.ak[j].src=s)&&decide (g.ak[j].dst=d))=false->Ok (A a) (λl=>l.length<=1000/\(∀x∈l,0<=x/\x<g.ak.length)/\fM g l=mq (rM g s d)):=λo=>w _ ⟨⟨by omega,l2⟩,t,by rw[v _ o,if_neg (by decide),List.append_nil];exact y⟩
  refine bV (λi=>bV (λn=>?_) λn=>skip (by rw[i,n];rfl)) λi=>skip (by rw[i];rfl)
  have z:(fM g a).length=a.length:=List.length_map ..;refine xo (λk:Int=>(0<=k/\k<=a.length)/\∀x∈(fM g a).drop k.toNat,g.ak[j].type<=x) (λk:Int=>((0<=k/\k<=a.length)/\∀x∈(fM g a).drop k.toNat,g.ak[j].type<=x)/\(0<k->(fM g a).getD (k.toNat-1) default<=g.ak[j].type)) (λk=>k.toNat) ⟨by omega,λx hx=>?_⟩ (by show ((a.length:Nat):Int).toNat<4611686018427387904;omega) (λk G E h B u=>?_) λk h=>?_
  ·rw[Int.toNat_natCast,<-z,List.drop_length] at hx;cases hx
  ·refine bV (λm=>?_) λm=>u _ ⟨h,λq=>absurd q (dK m)⟩
   have m:=b6 m;rw[dy (by omega)];have r:(k-1).toNat<a.length:=by omega
   have hx:=l2 _ (l8 r);have ev:(fM g a)[(k-1).toNat]'(by rw[z];exact r)=(g.ak[(a[(k-1).toNat]).toNat]'(by omega)).type:=by unfold fM;rw[List.getElem_map,hU (show (a[(k-1).toNat]).toNat<g.ak.length by omega)]
   refine kS (by omega) r (kS hx.1 (by omega) (bV (λc=>?_) λc=>u _ ⟨h,λ_=>?_⟩))
   ·have c:=b6 c;refine B _ ⟨by omega,λx hx2=>?_⟩ (by omega);rw[List.drop_eq_getElem_cons (show (k-1).toNat<(fM g a).length by omega),show (k-1).toNat+1=k.toNat by omega] at hx2;rcases List.mem_cons.1 hx2 with rfl|hx2
    ·rw[ev];omega
    ·exact h.2 x hx2
   ·have c:=dK c;rw[show k.toNat-1=(k-1).toNat by omega,hU (show (k-1).toNat<(fM g a).length by omega),ev];omega
  ·obtain⟨⟨F,C⟩,D⟩:=h;have H:(a.take k.toNat).length=k.toNat:=by rw[List.length_take];omega
   have I:(a.drop k.toNat).length=a.length-k.toNat:=List.length_drop;refine bU (by omega) (bU (by omega) (bU (by omega) (bU (by omega) (bU (by omega) (w _ ⟨⟨?_,λx hx=>?_⟩,?_,?_⟩)))))
   ·rw[List.length_append,List.length_append,List.length_singleton];omega
   ·rcases List.mem_append.1 hx with hx|hx
    ·rcases List.mem_append.1 hx with hx|hx
     ·exact l2 x (List.mem_of_mem_take hx)
     ·rw[List.mem_singleton.1 hx];omega
    ·exact l2 x (List.mem_of_mem_drop hx)
   all_goals
    have es:fM g ((a.take k.toNat++[((j:Nat):Int)])++a.drop k.toNat)=(fM g a).take k.toNat++[g.ak[j].type]++(fM g a).drop k.toNat:=by unfold fM;rw[List.map_append,List.map_append,List.map_singleton,List.map_take,List.map_drop,Int.toNat_natCast,hU p]
   ·rw[es];exact aqU t (aAE t (by omega) λq=>D (by omega)) C
   ·rw[es,v true (by rw[i,n];rfl),if_pos rfl];exact aAD.trans (y.append_right _)
 ·refine Na f.2.1 ?_;have:=f.2.2;rwa [List.take_length] at this
theorem Nd{h:eU}{l m:List Int} : (((l.length:Nat):Int) :: fM g l=((m.length:Nat):Int) :: fM h m)↔fM g l=fM h m:=by
 constructor
 ·intro q;exact (List.cons.inj q).2
 ·intro q;have:l.length=m.length:=by have:=congrArg List.length q;unfold fM at this;rwa [List.length_map,List.length_map] at this
  rw[this,q]
end
theorem avO{f:Nat->Int}{s n:Nat}(h:nJ f s n=0):∀j,s<=j->j<n->f j=0:=by
 intro j b c;unfold nJ at h;unfold kH at h;split at h
 ·rename_i k a;have:=List.find?_some a;exact absurd h (by simpa using this)
 ·rename_i a;have:=List.find?_eq_none.1 a j (by rw[List.mem_range'_1];omega);simpa using this
theorem avP{t:Types}(d:eE t){a:Nat}(e:a<t.nodes.length){x:Attr}(m:x∈bg t a):(-1000000<=x.low/\x.high<=1000000)/\x.low<=x.high:=by
 obtain⟨n,k,h⟩:=FG d.vG _ a e (d.par' e) x m;obtain⟨j,g,rfl⟩:=Cs k;obtain⟨i,p,rfl⟩:=Cs h;have b:=d.node j g;have o:=d.vG.names _ k _ h;have f:=qp (d.par' g);unfold kQ at b;split at b
 ·cases b
 split at b
 ·cases b
 split at b
 ·cases b
 split at b
 ·cases b
 split at b
 ·cases b
 have hl:(bg t j).length=(if 0<=(t.nodes.getD j default).parent then bg t (t.nodes.getD j default).parent.toNat else []).length+(t.nodes.getD j default).attrs.length:=by
  conv=>lhs;rw[f]
  rw[List.length_append]
 have c:=avO b ((bg t j).length-(t.nodes.getD j default).attrs.length+i) (by omega) (by omega);have l:(bg t j).getD ((bg t j).length-(t.nodes.getD j default).attrs.length+i) default=(t.nodes.getD j default).attrs.getD i default:=by
  rw[show (bg t j).length-(t.nodes.getD j default).attrs.length+i=(if 0<=(t.nodes.getD j default).parent then bg t (t.nodes.getD j default).parent.toNat else []).length+i by omega]
  conv=>lhs;rw[f]
  simp[List.getD_eq_getElem?_getD,List.getElem?_append_right]
 rw[l] at c;unfold tu at c;split at c
 ·cases c
 split at c
 ·cases c
 unfold u9 at c;split at c
 ·rename_i q;exact absurd c q
 split at c
 ·rename_i q;rw[sE] at q;omega
 ·cases c
theorem Nf{t:Types}{h:Host}(d:fK t)(b:lY t h):∀row∈h.values,∀x∈row,-1000000<=x/\x<=1000000:=by intro row g x k;obtain⟨i,c,rfl⟩:=Cs g;obtain⟨j,e,rfl⟩:=Cs k;rw[b.sn] at c;have f:=b.node i c;obtain⟨⟨n1,_,p⟩,m⟩:=xE.1 f;have n:=(b.graph.kind i c).1;have:=m j e;unfold A7 at this;have o:=avP (qU d b.types) (a:=(h.graph.nodes.getD i default).toNat) (by omega) (iA (l:=bg t (h.graph.nodes.getD i default).toNat) (a:=j) (by omega));omega
section
variable{t:Types}{a b:Host}{f:Nat->Nat}
structure Ec(a b:Host)(l:List Int):Prop where
 len:l.length<=a.graph.nodes.length
 rng:∀x∈l,0<=x/\x<b.graph.nodes.length
 typ:∀i j,i<l.length->j<l.length->mq (rM b.graph (l.getD i default) (l.getD j default))=mq (rM a.graph (i:Nat) (j:Nat))
def yP(f:Nat->Nat)(l:List Int):Prop:=∀j,j<l.length->l.getD j default=(f j:Nat)
theorem Ed(b:B8 a.graph){l:List Int}(h:∀x∈l,0<=x/\x<a.graph.ak.length):∀x∈fM a.graph l,0<=x/\x<=99:=by intro x c;obtain⟨y,d,rfl⟩:=List.mem_map.1 c;have:=h y d;exact (b.fq y.toNat (by omega)).1
theorem aAG{O:Type}{Q:O->Prop}{k:Int->Option O}(j:B8 a.graph)(n:B8 b.graph)(s d i f:Int)(h:∀c:Int,(c=0↔mq (rM a.graph s d)=mq (rM b.graph i f))->Ok (k c) Q) :
  Ok (thn (b9 a.graph s d) λr1=>thn (c9 a.graph r1) λr2=>thn (b9 b.graph i f) λp=>thn (c9 b.graph p) λq=>thn (dP r2 q) k) Q:=by
 have n1:=j.ak;have w:=n.ak;refine mL (uT (g:=a.graph) (by omega) s d) λl hl=>ok_eq (Eb (by omega) hl.1 hl.2.1) (mL (uT (g:=b.graph) (by omega) i f) λm e=>ok_eq (Eb (by omega) e.1 e.2.1) ?_)
 have t1:=Ed j hl.2.1;have t2:=Ed n e.2.1;have u:=hl.1;have v:=e.1;have r:(fM a.graph l).length=l.length:=List.length_map ..;have t:(fM b.graph m).length=m.length:=List.length_map ..;refine mL (HJ (by rw[List.length_cons];omega) (by rw[List.length_cons];omega) (λx hx=>?_) (λx hx=>?_)) λc o=>h c ?_
 ·rcases List.mem_cons.1 hx with rfl|hx
  ·omega
  ·have:=t1 x hx;omega
 ·rcases List.mem_cons.1 hx with rfl|hx
  ·omega
  ·have:=t2 x hx;omega
 ·rw[o,Nd,hl.2.2,e.2.2]
theorem aEo{l:List Int}(hl:l.length<=1000000)(x:Int):Ok (jI l x) (λc=>c=true↔x∈l):=by
 unfold jI;refine bU (bl (by omega)) (mz (λj _=>x ∉ l.take j) (Nat.zero_le _) (λh=>by cases h) (λj s e _ b a d=>oK b (bV (λc=>.mk ⟨λ_=>b6 c ▸ l8 b,λ_=>rfl⟩) λc=>d _ λh=>?_)) λs a=>.mk ⟨λq=>(by cases q),λq=>absurd (by rwa [List.take_length]) a⟩);rw[List.take_add_one,List.getElem?_eq_getElem b,Option.toList_some] at h;rcases List.mem_append.1 h with h|h
 ·exact a h
 ·exact dK c (List.mem_singleton.1 h).symm
theorem Ng(w:lY t a)(y:lY t b)(ta:∀row∈a.values,∀x∈row,-1000000<=x/\x<=1000000)(tb:∀row∈b.values,∀x∈row,-1000000<=x/\x<=1000000)(Q:qW a)(bb:qW b)(P:HI a b f) :
  ∀ (n:Nat) (l:List Int),Ec a b l->a.graph.nodes.length+1<=n+l.length->Ok (iz n a b l) (λr=>(r.2=true->Ec a b r.1/\r.1.length=a.graph.nodes.length)/\(yP f l->r.2=true))
 |0,l,I,h=>by have:=I.len;omega
 |n+1,l,I,h=>by
  have g1:=w.graph.nodes;have g2:=y.graph.nodes;have v1:=w.sn;have v2:=y.sn;have a5:=I.len;rw[iz];refine bV (λc=>.mk ⟨λ_=>⟨I,by have:=b6 c;show l.length=_;omega⟩,λ_=>rfl⟩) λc=>?_
  have c:=dK c;have o:l.length<a.graph.nodes.length:=by omega
  refine bU (bl (by omega)) (mz (λi _=>yP f l->i<=f l.length) (Nat.zero_le _) (λ_=>Nat.zero_le _) (λi s cH _ Y L hn=>?_) λs L=>.mk ⟨λq=>(by cases q),λq=>?_⟩);rotate_left
  ·have:=L q;have:=P.to _ o;omega
  have skip:(yP f l->i≠f l.length)->Ok (cH ()) (λr=>(r.2=true->Ec a b r.1/\r.1.length=a.graph.nodes.length)/\(yP f l->r.2=true)):=λD=>hn _ λq=>by have:=L q;have:=D q;omega
  refine mL (aEo (by omega) _) λr H=>bV (λR=>skip λq e=>?_) λR=>?_
  ·obtain⟨j,m,U⟩:=Cs (H.1 R);have:=q j m;have:=P.inj j l.length (by omega) o (by omega);omega
  refine oK o (oK Y (bV (λS=>?_) λS=>skip λq e=>?_));rotate_left
  ·have:=P.kind _ o;rw[<-e,hU Y,hU o] at this;exact dK S this.symm
  have G:l.length<a.values.length:=by omega
  have F:i<b.values.length:=by omega
  refine oK G (oK F (mL (HJ (by have:=Q.row _ (l8 G);omega) (by have:=bb.row _ (l8 F);omega) (ta _ (l8 G)) (tb _ (l8 F))) λc3 h3=>bV (λT=>?_) λT=>skip λq e=>?_));rotate_left
  ·have:=P.vals _ o;rw[<-e,hU F,hU G] at this;exact dK T (h3.2 this.symm)
  refine bU (by omega) (bU (by omega) ?_);have lg:(l++[((i:Nat):Int)]).length=l.length+1:=by simp
  have v:∀j,j<=l.length->(l++[((i:Nat):Int)]).getD j default=if j<l.length then l.getD j default else (i:Int):=λj m=>by
   by_cases h:j<l.length
   ·rw[if_pos h];simp[List.getElem?_append_left h]
   ·have:j=l.length:=by omega
    subst this;rw[if_neg h];simp
  refine xo (λs:Bool×Int=>(0<=s.2/\s.2<=l.length+1)/\(s.1=true->∀j:Nat,(j:Int)<s.2->mq (rM a.graph (j:Nat) (l.length:Nat))=mq (rM b.graph ((l++[((i:Nat):Int)]).getD j default) (i:Nat))/\mq (rM a.graph (l.length:Nat) (j:Nat))=mq (rM b.graph (i:Nat) ((l++[((i:Nat):Int)]).getD j default)))/\(s.1=false->yP f l->i≠f l.length))
   (λs:Bool×Int=>(s.1=true->∀j:Nat,j<=l.length->mq (rM a.graph (j:Nat) (l.length:Nat))=mq (rM b.graph ((l++[((i:Nat):Int)]).getD j default) (i:Nat))/\mq (rM a.graph (l.length:Nat) (j:Nat))=mq (rM b.graph (i:Nat) ((l++[((i:Nat):Int)]).getD j default)))/\(s.1=false->yP f l->i≠f l.length))
   (λs=>l.length+1-s.2.toNat) ⟨⟨by omega,by omega⟩,λ_ j m=>absurd m (by omega),λq=>by cases q⟩ (by show l.length+1-(0:Int).toNat<4611686018427387904;omega) (λs nx aE D Z N=>?_) λs D=>?_
  ·obtain⟨s1,d⟩:=s;obtain⟨⟨q1,q2⟩,A,B⟩:=D;dsimp only at q1 q2 A B ⊢;refine bV (λd1=>bV (λd2=>?_) λd2=>N _ ⟨λe=>?_,λ_=>B d2⟩) λd1=>N _ ⟨λe j m=>A e j (by have:=dK d1;omega),B⟩
   rotate_left
   ·rw[d2] at e;cases e
   have d1:=b6 d1;subst d2;have aa:d.toNat<(l++[((i:Nat):Int)]).length:=by omega
   have J:((d.toNat:Nat):Int)=d:=by omega
   have O:yP f l->i=f l.length->(l++[((i:Nat):Int)]).getD d.toNat default=(f d.toNat:Nat):=λp e=>by
    rw[v _ (by omega)];split
    ·rename_i u;exact p _ u
    ·have:d.toNat=l.length:=by omega
     rw[this,e]
   have K:(l++[((i:Nat):Int)])[d.toNat]=(l++[((i:Nat):Int)]).getD d.toNat default:=(hU aa).symm;have al:¬ mq (rM a.graph d (l.length:Nat))=mq (rM b.graph ((l++[((i:Nat):Int)])[d.toNat]) (i:Nat))->yP f l->i≠f l.length:=λM p e=>M (by
    rw[K,O p e,e,P.rM d.toNat l.length (by omega) o,J])
   have am:¬ mq (rM a.graph (l.length:Nat) d)=mq (rM b.graph (i:Nat) ((l++[((i:Nat):Int)])[d.toNat]))->yP f l->i≠f l.length:=λM p e=>M (by
    rw[K,O p e,e,P.rM l.length d.toNat o (by omega),J])
   have n1:=w.graph.ak;have n2:=y.graph.ak;refine mL (uT (g:=a.graph) (by omega) _ _) λl1 E=>ok_eq (Eb (by omega) E.1 E.2.1) (kS q1 aa (mL (uT (g:=b.graph) (by omega) _ _) λm1 C=>ok_eq (Eb (by omega) C.1 C.2.1) ?_))
   have t1:=Ed w.graph E.2.1;have t2:=Ed y.graph C.2.1;have b1:=E.1;have b2:=C.1;have e1:(fM a.graph l1).length=l1.length:=List.length_map ..;have e2:(fM b.graph m1).length=m1.length:=List.length_map ..;refine mL (HJ (by rw[List.length_cons];omega) (by rw[List.length_cons];omega) (λx hx=>?_) (λx hx=>?_)) λc5 u=>?_
   ·rcases List.mem_cons.1 hx with rfl|hx
    ·omega
    ·have:=t1 x hx;omega
   ·rcases List.mem_cons.1 hx with rfl|hx
    ·omega
    ·have:=t2 x hx;omega
   rw[Nd,E.2.2,C.2.2] at u;refine bV (λd3=>?_) λd3=>?_
   ·have p1:=u.1 (b6 d3);refine aAG w.graph y.graph _ _ _ _ λc6 X=>?_
    rw[dy (by omega)];refine Z _ ⟨⟨by omega,by omega⟩,λe j m=>?_,λe=>?_⟩ (by show l.length+1-(d+1).toNat<l.length+1-d.toNat;omega)
    ·have p2:=X.1 (b6 e);by_cases U:(j:Int)<d
     ·exact A rfl j U
     ·have:j=d.toNat:=by omega
      subst this;rw[J,<-K];exact⟨p1,p2⟩
    ·exact am λq=>dK e (X.2 q)
   ·rw[dy (by omega)];exact Z _ ⟨⟨by omega,by omega⟩,λe=>(by cases e),λ_=>al λq=>dK d3 (u.2 q)⟩ (by show l.length+1-(d+1).toNat<l.length+1-d.toNat;omega)
  ·obtain⟨s1,d⟩:=s;obtain⟨A,B⟩:=D;dsimp only at A B ⊢;refine bV (λd1=>?_) λd1=>skip (B d1)
   have I2:Ec a b (l++[((i:Nat):Int)]):=by
    refine⟨by omega,λx hx=>?_,λj k m a4=>?_⟩
    ·rcases List.mem_append.1 hx with hx|hx
     ·exact I.rng x hx
     ·rw[List.mem_singleton.1 hx];omega
    ·have z:∀j,j<=l.length->mq (rM a.graph (j:Nat) (l.length:Nat))=mq (rM b.graph ((l++[((i:Nat):Int)]).getD j default) (i:Nat))/\mq (rM a.graph (l.length:Nat) (j:Nat))=mq (rM b.graph (i:Nat) ((l++[((i:Nat):Int)]).getD j default)):=λj m=>A d1 j m
     by_cases V:j<l.length
     ·by_cases W:k<l.length
      ·rw[v j (by omega),v k (by omega),if_pos V,if_pos W];exact I.typ j k V W
      ·have:k=l.length:=by omega
       subst this;rw[v l.length (by omega),if_neg (by omega)];exact (z j (by omega)).1.symm
     ·have:j=l.length:=by omega
      subst this;rw[v l.length (by omega),if_neg (by omega)];exact (z k (by omega)).2.symm
   refine mL (Ng w y ta tb Q bb P n _ I2 (by omega)) λr H=>bV (λd2=>.mk ⟨λ_=>H.1 d2,λ_=>rfl⟩) λd2=>skip λq e=>?_
   have:yP f (l++[((i:Nat):Int)]):=λj m=>by
    rw[v j (by omega)];split
    ·rename_i u;exact q j u
    ·have:j=l.length:=by omega
     rw[this,e]
   rw[H.2 this] at d2;cases d2
theorem aEp(o:fK t)(h:lY t a)(n:lY t b)(u:qW a)(bb:qW b)(P:HI a b f)(J:a.graph.nodes.length<=8):Ok (fZ t a b) (λr=>r.2=0):=by
 have n1:=h.graph.ak;have M:=n.graph.ak;have hl:=P.len;unfold fZ;refine ok_eq (qc o u) (r6 (dr (nA.2 h)) (ok_eq (qc o bb) (r6 (dr (nA.2 n)) (AY (gA (by omega)) (AY (gA (by omega)) ?_)))));refine mL (Ng h n (Nf o h) (Nf o n) u bb P fuel [] ⟨Nat.zero_le _,λx p=>(by cases p),λi j d=>absurd d (Nat.not_lt_zero i)⟩ (by show _<=4611686018427387904+0;omega)) λr z=>?_
 have w:=z.2 λj e=>absurd e (Nat.not_lt_zero j)
 obtain⟨I,K⟩:=z.1 w;refine r6 w (r6 (dr (by omega)) (bU (by omega) (bU (bl (by omega)) ?_)));refine mz (λ_ s=>s.length=a.graph.ak.length) (Nat.zero_le _) List.length_replicate (λi s H _ d c D=>bU (bl (by omega)) ?_) λs c=>.mk rfl
 refine mz (λ_ s=>s.length=a.graph.ak.length) (Nat.zero_le _) c (λj s G _ e c E=>?_) λs c=>D _ c
 refine mL (uT (g:=a.graph) (by omega) _ _) λl q=>oK d (oK e (mL (uT (g:=b.graph) (by omega) _ _) λm C=>bU (bl (by have:=q.1;omega)) ?_))
 have A:(fM a.graph l).length=l.length:=List.length_map ..;have B:(fM b.graph m).length=m.length:=List.length_map ..;have v:=I.typ i j d e;rw[hU d,hU e,<-q.2.2,<-C.2.2] at v;have L:m.length=l.length:=by rw[<-A,<-B,v]
 refine mz (λ_ s=>s.length=a.graph.ak.length) (Nat.zero_le _) c (λk s N _ y c F=>?_) λs c=>E _ c
 have p:=q.2.1 _ (l8 y);exact oK y (oK (by omega) (kS p.1 (by omega) (F _ (by rw[List.length_set];exact c))))
end
theorem aAI{R:Types×bP×Bool}(P:MI R)(c:ji R.2.1.a R.2.1.p R.2.1.q=[]){l1 l2:List aG}(hl:l1.length=l2.length) :
  (thn (gy R.1 R.2.1.a R.2.1.p R.2.1.q) λr1=>thn (gy R.1 R.2.1.a R.2.1.q R.2.1.p) λr2=>cond (decide (r1.2=r2.2)) (cond (decide (r1.2=0)) (cond (decide (7<((r1.1.nodes.length:Nat):Int))) (some (decide (((l1.length:Nat):Int)=((l2.length:Nat):Int)))) <| thn (fZ R.1 r1.1.host r2.1.host) λr=>cond (decide (r.2=0)) (some (decide (r1.1.next=r2.1.next))) <| some false) <| some (decide (((l1.length:Nat):Int)=((l2.length:Nat):Int)))) <| some false)=some true:=by
 have h:=P.both;have o:=h.symm;have A:ji R.2.1.a R.2.1.q R.2.1.p=[]:=by rw[sR h];exact c
 have f:=P.merged c;have k:=MU P.vG h c f;obtain⟨l,d⟩:=xB f;obtain⟨m,g⟩:=xB k;have i:=vC P.yJ h P.bp P.bq f;have j:=vC P.yJ o P.bq P.bp k;have v:¬ oP R.1 R.2.1.a R.2.1.p R.2.1.q≠0:=λb=>b (kL.2 h)
 have w:¬ oP R.1 R.2.1.a R.2.1.q R.2.1.p≠0:=λb=>b (kL.2 o)
 have n1:¬ 0<(ji R.2.1.a R.2.1.p R.2.1.q).length:=by rw[c];simp
 have z:¬ 0<(ji R.2.1.a R.2.1.q R.2.1.p).length:=by rw[A];simp
 have t:=M8 h c d g;have x:AE R.1 R.2.1.a R.2.1.p R.2.1.q=if 0<(xA R.1 R.2.1.a R.2.1.p R.2.1.q (jP R.2.1.a R.2.1.p R.2.1.q)).length then (kV,11) else (jP R.2.1.a R.2.1.p R.2.1.q,0):=by unfold AE Bz;rw[if_neg v,if_neg n1,if_neg (λb=>b f),l]
 have y:AE R.1 R.2.1.a R.2.1.q R.2.1.p=if 0<(xA R.1 R.2.1.a R.2.1.q R.2.1.p (jP R.2.1.a R.2.1.q R.2.1.p)).length then (kV,11) else (jP R.2.1.a R.2.1.q R.2.1.p,0):=by unfold AE Bz;rw[if_neg w,if_neg z,if_neg (λb=>b k),m]
 rw[l] at i;rw[m] at j;dsimp only at i j;rw[aT (He P.vG P.yJ P.bp P.bq),aT (He P.vG P.yJ P.bq P.bp),x,y,t];have s:decide (((l1.length:Nat):Int)=((l2.length:Nat):Int))=true:=dr (by omega);by_cases e:0<(xA R.1 R.2.1.a R.2.1.p R.2.1.q (jP R.2.1.a R.2.1.p R.2.1.q)).length
 ·rw[if_pos e,if_pos e,s];rfl
 ·rw[if_neg e,if_neg e,s,dr rfl,cond_true,cond_true];dsimp only;by_cases n:(7:Int)<(((jP R.2.1.a R.2.1.p R.2.1.q).nodes.length:Nat):Int)
  ·rw[dr n,cond_true]
  ·rw[gA n,cond_false];have I:=M5 h c d g;have B:(jP R.2.1.a R.2.1.p R.2.1.q).nodes.length=(jP R.2.1.a R.2.1.p R.2.1.q).host.graph.nodes.length:=d.ok.qJ;obtain⟨r,r1,r2⟩:=aEp P.vG d.ok.host g.ok.host i.2.host j.2.host (aEn I) (by show (jP R.2.1.a R.2.1.p R.2.1.q).host.graph.nodes.length<=8;omega);have u:(jP R.2.1.a R.2.1.p R.2.1.q).next=(jP R.2.1.a R.2.1.q R.2.1.p).next:=by
    have:=h.x0;show R.2.1.p.next.x1+R.2.1.q.next.x1-R.2.1.q.next.x0=R.2.1.q.next.x1+R.2.1.p.next.x1-R.2.1.p.next.x0
    omega
   rw[aT r1,dr r2,cond_true,dr u]
theorem aet{d:bS}(x:Hy d):eV d=some true:=by
 obtain⟨R,e,u⟩:=aCE x;unfold eV;rw[aT e,aT Mb,cond_true];cases w:R.2.2 with
 |false=>rw[cond_false,aT Mb]
 |true =>
 have P:=u w;have h:=P.both;have y:=h.symm;have m:¬ oP R.1 R.2.1.a R.2.1.p R.2.1.q≠0:=λc=>c (kL.2 h)
 have n:¬ oP R.1 R.2.1.a R.2.1.q R.2.1.p≠0:=λc=>c (kL.2 y)
 rw[cond_true,aT (G9 P.vG P.yJ P.bp P.bq),aT (G9 P.vG P.yJ P.bq P.bp)];by_cases f:ji R.2.1.a R.2.1.p R.2.1.q=[]
 ·have B:ji R.2.1.a R.2.1.q R.2.1.p=[]:=by rw[sR h];exact f
  have i:=P.merged f;have o:=MU P.vG h f i;obtain⟨s,l⟩:=xB i;obtain⟨t,r⟩:=xB o;have n1:¬ 0<(ji R.2.1.a R.2.1.p R.2.1.q).length:=by rw[f];simp
  have A:¬ 0<(ji R.2.1.a R.2.1.q R.2.1.p).length:=by rw[B];simp
  have g:=M8 h f l r;have j:oS R.1 R.2.1.a R.2.1.p R.2.1.q=(xA R.1 R.2.1.a R.2.1.p R.2.1.q (jP R.2.1.a R.2.1.p R.2.1.q),0):=by unfold oS;rw[if_neg m,if_neg n1,if_neg (λc=>c i),s]
  have k:oS R.1 R.2.1.a R.2.1.q R.2.1.p=(xA R.1 R.2.1.a R.2.1.q R.2.1.p (jP R.2.1.a R.2.1.q R.2.1.p),0):=by unfold oS;rw[if_neg n,if_neg A,if_neg (λc=>c o),t]
  rw[j,k];have T:=aAI P f (l1:=xA R.1 R.2.1.a R.2.1.p R.2.1.q (jP R.2.1.a R.2.1.p R.2.1.q)) (l2:=xA R.1 R.2.1.a R.2.1.q R.2.1.p (jP R.2.1.a R.2.1.q R.2.1.p)) g.symm;dsimp only;rw[dr rfl,cond_true,cond_true];by_cases b:0<(xA R.1 R.2.1.a R.2.1.p R.2.1.q (jP R.2.1.a R.2.1.p R.2.1.q)).length
  ·rw[dr (by omega),cond_true,b8 b];have C:((xA R.1 R.2.1.a R.2.1.p R.2.1.q (jP R.2.1.a R.2.1.p R.2.1.q))[0]).kind=4:=by obtain⟨v,_,_,ev⟩:=(CE l.ok).1 (l8 b);exact congrArg aG.kind ev
   rw[gA (by omega),cond_false];exact T
  ·rw[gA (by omega),cond_false];exact T
 ·have b:0<(ji R.2.1.a R.2.1.p R.2.1.q).length:=List.length_pos_iff.2 f;have j:oS R.1 R.2.1.a R.2.1.p R.2.1.q=(ji R.2.1.a R.2.1.p R.2.1.q,0):=by unfold oS;rw[if_neg m,if_pos b]
  have k:oS R.1 R.2.1.a R.2.1.q R.2.1.p=(ji R.2.1.a R.2.1.p R.2.1.q,0):=by unfold oS;rw[if_neg n,sR h,if_pos b]
  have z:=aqQ h _ (l8 b);have g:=az0 h P.yJ.host;rw[j,k];dsimp only;rw[dr rfl,cond_true,cond_true,dr (by omega),cond_true,b8 b,dr z,cond_true,aT (LW g)]
end Go.Proofs.YtnnpmiiegnedeaaGreat
