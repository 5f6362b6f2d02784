/- Joined texts, part 4: lemmas for the statement. No condition. -/
import Derived.Shelf.Spec.SlicesGrow
import Derived.Test.YtimojjnmmlhijaaGreatJ1
import Derived.Test.YtimojjnmmlhijaaGreatJ3
import Derived.Test.YtimojjnmmlhijaaGreatJ2
import Derived.ArgAppend
import Derived.Laws.Slices
set_option linter.unusedSimpArgs false
set_option linter.unusedVariables false
open Nat (reduceEqDiff reduceLT reduceLeDiff reduceMul reduceAdd reduceSub)
namespace Go.Abs
open Go.RowKit Go.Shelf Go.Proofs
variable {P:Program} {ρ:Ren}

theorem z1c (L : Lays8.n4 P ρ) (hc : callable P (ρ.f 4) = true) (i0 : TypeInfo) (z : Value) (hi0 : P.info? (ρ.t 25) = some i0) (hz0 : i0.zero = some z) (hs0 : 0 < i0.size) (hzs : z.cells.size = i0.size)
  (n:Nat) (hbig:n * i0.bytes≤140737488355328) (h63:n≤4611686018427387904) :
  CallF P (ρ.f 4) [.val (.slice none 0 0),.val (.int .i64 n)] (fun v=>v = .row (ρ.t 25) i0.size []):=by
 refine ⟨hc,fun I w vs hI hv=>?_⟩
 obtain ⟨hl,hv⟩:=hv
 match vs,hl with
 | [a,b],_ =>
  have ha:a = .slice none 0 0:=by
   have:=hv 0 a _ rfl rfl
   cases this
   rfl
  have hb:b = .int .i64 n:=by
   have:=hv 1 b _ rfl rfl
   cases this
   rfl
  subst ha hb
  by_cases h0:n=0
  ·subst h0
   refine (Any8.slices_Grow_room L none 0 0 0 w (by omega) (by omega) (by omega) (by omega)).mono ?_
   rintro e w' ⟨rfl,rfl⟩
   refine ⟨_,_,_,I,rfl,rfl,.row _ _ _ _ [] ⟨⟨by simp,.inl ⟨rfl,rfl⟩⟩,hs0,by simp,by simp,by simp,fun b hb=>by simp [Value.ownBlock] at hb⟩ rfl,by simp [Value.ownBlock],by simp [Value.ownBlock],Below.refl _ _,Mem.sub_refl I,hI,fun _ _ _=>rfl⟩
  ·refine (Any8.slices_Grow_grow L i0 z hi0 hz0 hs0 none 0 0 n [] w (by omega) (by omega) (by simpa using hbig) (by omega) (by simp) (fun _=>rfl) (fun a h=>by cases h)).mono ?_
   rintro e w' ⟨rfl,rfl⟩
   have hG:n≤grownCap w (0+n) 0 (ρ.t 25):=by
    have:=grownCap_ge w (0+n) 0 (ρ.t 25)
    omega
   have hG2:grownCap w (0+n) 0 (ρ.t 25)≤maxLen:=grownCap_le_maxLen w (0+n) 0 (ρ.t 25) (by unfold maxLen; omega)
   generalize grownCap w (0+n) 0 (ρ.t 25)=G at hG hG2 ⊢
   have hheap:∀ o:Obj,(w.drew.alloc o).heap=w.heap.push o:=fun o=>rfl
   have bel:∀ o:Obj,Below w.heap.size w (w.drew.alloc o):=fun o=>(Below.refl _ w).drew.alloc (Nat.le_refl _) o
   refine ⟨_,_,[w.heap.size],I,rfl,rfl,?_,by simp,?_,bel _,Mem.sub_refl I,hI.keep fun b ⟨o,u,hu⟩=>(bel _).block b (hI.lt hu),fun _ _ _=>rfl⟩
   ·refine .row (.slice (some ⟨w.heap.size,0,none⟩) 0 G) _ _ _ [] ⟨⟨by simp,.inr ⟨w.heap.size,G,_,rfl,Nat.le_refl _,by rw [hheap]; exact Array.getElem?_push_size,Nat.zero_le _,hG2,?_,by simp⟩⟩,hs0,by simp,by simp,by simp,fun b hb o=>?_⟩ rfl
    ·have e:(0+n - 0)+(G - (0+n))=G:=by omega
     have e0:([]:List Value).toArray.size=0:=rfl
     rw [Array.size_append,Array.size_append,size_zeroCells,size_zeroCells,hzs,e0,Nat.zero_add,← Nat.add_mul,e]
    ·simp only [Value.ownBlock,Option.some.injEq] at hb
     subst hb
     cases hI0:I w.heap.size o with
     | none=>rfl
     | some u=>exact absurd (hI.lt hI0) (Nat.lt_irrefl _)
   ·intro b hb
    simp only [List.mem_cons,List.not_mem_nil,or_false] at hb
    subst hb
    rw [hheap]
    simp
theorem zyt (L : Lays8.n4 P ρ) (hc : callable P (ρ.f 4) = true) {t e : TypeId} {sz by' : Nat} (ht : appTypes P t t = some (e, sz, by')) (he : e = ρ.t 25) (n : Nat) (hbig : n * by' ≤ 140737488355328) (h63 : n ≤ 4611686018427387904) :
  CallF P (ρ.f 4) [.val (.slice none 0 0),.val (.int .i64 n)] (fun v=>v = .row e sz []):=by
 obtain ⟨_,_,hpos,_,i,z,hi,hz,hsz,hby,hzc⟩:=zh7 ht
 subst he
 have:=z1c L hc i z hi hz (by omega) (by omega) n (by rw [hby]; exact hbig) h63
 rw [hsz] at this
 exact this
end Go.Abs
namespace Go.Proofs.YtimojjnmmlhijaaGreat
open Go.Abs

noncomputable def zlg (l:List Int) (n:Int):Option (List Int):=giv (l=[]∧0≤n∧n≤1000000) []
theorem zrc (l:List Int) (n:Int) (r:List Int) (h:zlg l n=some r):CallF Tryz.prog 73 [.val (.slice none 0 0),.val (.int .i64 n)] (fun v=>v = .row 3 1 (r.map encI)):=by
 obtain ⟨⟨_,h0,h1⟩,rfl⟩:=giv_s h
 obtain ⟨k,rfl⟩:∃ k:Nat,n=k:=⟨n.toNat,by omega⟩
 exact zyt growInt (by kernel_rfl) Ty.app34 rfl k (by omega) (by omega)
end Go.Proofs.YtimojjnmmlhijaaGreat
namespace Go.Abs
open Go.RowKit

variable {P:Program} {I:Mem} {L:zbc}

theorem Sim.turnI {C : Ctx} {env : Env} {H : AHeap} {I I' : Mem} {L : zbc} {tmps : Array Value} {w w' : World} (h : Sim C env H I L tmps w)
  (hb:Below C.B w w') {id:Nat} {l l':Loc} (hl:L id=some l) (hk:∀ b,b < w.heap.size→l.blk≠some b→w'.heap[b]? = w.heap[b]?)
  (hle:LocLe L (lset L id l')) (hsub:I.sub I') (hI':I'.inW w') (hIo:∀ b,b < w.heap.size→l.blk≠some b→∀ o,I' b o=I b o) (ch:Chunk)
  (hch:zkx I' (lset L id l') w' C.B id ch) (hl':∀ b,l'.blk=some b→l.blk=some b∨(w.heap.size≤b∧b < w'.heap.size)):Sim C env (hset H id ch) I' (lset L id l') tmps w' where
 below:=h.below.trans hb
 mem:=hI'
 memC:=Mem.sub_trans h.memC hsub
 memN:=fun b hlt hf o=>by
  rw [hIo b (Nat.lt_of_lt_of_le hlt h.below.size) fun e=>?_]
  ·exact h.memN b hlt hf o
  ·rcases h.blkF id l b hl e with h1 | h1
   ·omega
   ·exact hf h1
 frame:=fun b hlt hf=>by
  have hlt':=Nat.lt_of_lt_of_le hlt h.below.size
  refine (hk b hlt' fun e=>?_).trans (h.frame b hlt hf)
  rcases h.blkF id l b hl e with h1 | h1
  ·omega
  ·exact hf h1
 loc:=h.loc.trans hle
 blkF:=fun i li b hi hlb=>by
  by_cases e:i=id
  ·subst e
   have:l'=li:=by simpa [lset] using hi
   subst this
   rcases hl' b hlb with k | k
   ·exact h.blkF i l b hl k
   ·exact .inl (Nat.le_trans h.below.size k.1)
  ·exact h.blkF i li b (by simpa [lset,e] using hi) hlb
 size:=h.size
 env:=fun t=>(h.env t).mono hsub hle
 dom:=fun i li hi=>by
  by_cases e:i=id
  ·exact ⟨ch,by simp [hset,e]⟩
  ·obtain ⟨c,hc⟩:=h.dom i li (by simpa [lset,e] using hi)
   exact ⟨c,by simpa [hset,e] using hc⟩
 chunk:=fun i c hc=>by
  by_cases e:i=id
  ·subst e
   have:ch=c:=by simpa [hset] using hc
   subst this; exact hch
  ·refine (h.chunk i c (by simpa [hset,e] using hc)).keep hsub hle (by simp [lset,e]) fun li b hi hbi=>?_
   have hne:l.blk≠some b:=fun eb=>e (h.apart i id li l b hi hl hbi eb)
   exact ⟨hk b (h.blkB i li b hi hbi).2 hne,hIo b (h.blkB i li b hi hbi).2 hne⟩
 blkB:=fun i li b hi hlb=>by
  by_cases e:i=id
  ·subst e
   have:l'=li:=by simpa [lset] using hi
   subst this
   rcases hl' b hlb with k | k
   ·exact ⟨(h.blkB i l b hl k).1,Nat.lt_of_lt_of_le (h.blkB i l b hl k).2 hb.size⟩
   ·exact ⟨Nat.le_trans h.leB k.1,k.2⟩
  ·have:=h.blkB i li b (by simpa [lset,e] using hi) hlb
   exact ⟨this.1,Nat.lt_of_lt_of_le this.2 hb.size⟩
 apart:=fun i j li lj b hi hj hbi hbj=>by
  by_cases ei:i=id <;> by_cases ej:j=id
  ·rw [ei,ej]
  ·subst ei
   have:l'=li:=by simpa [lset] using hi
   subst this
   have h2:=h.blkB j lj b (by simpa [lset,ej] using hj) hbj
   rcases hl' b hbi with k | k
   ·exact h.apart i j l lj b hl (by simpa [lset,ej] using hj) k hbj
   ·omega
  ·subst ej
   have:l'=lj:=by simpa [lset] using hj
   subst this
   have h2:=h.blkB i li b (by simpa [lset,ei] using hi) hbi
   rcases hl' b hbj with k | k
   ·exact h.apart i j li l b (by simpa [lset,ei] using hi) hl hbi k
   ·omega
  ·exact h.apart i j li lj b (by simpa [lset,ei] using hi) (by simpa [lset,ej] using hj) hbi hbj

def Mem.add (I:Mem) (b lo:Nat) (us:List Value):Mem:=fun c o=>if c=b∧lo≤o∧o < lo+us.length then us[o - lo]? else I c o
theorem VR.lst_inv {I : Mem} {u : Value} {es : List (List PV)} (h : VR I u (.lst es)) : ∃ ao cap, ∃ us : List Value, u = .slice ao es.length cap ∧ us.length = es.flatten.length ∧ (∀ (j : Nat) u c, us[j]? = some u → es.flatten[j]? = some c → VR I u c) ∧
  (∀ u∈us,u.oneCell'=true)∧(us=[]∨∃ b off,ao=some ⟨b,off,none⟩∧∀ (j:Nat) u,us[j]? = some u→I b (off+j)=some u)∧es.length≤cap:=by
 cases h with
 | lst ao n cap _ us sz hn hsz hl hv hone hm hnil hcap=>subst hn; exact ⟨ao,cap,us,rfl,hl,hv,hone,hm,hcap⟩
theorem Mem.sub_add {I:Mem} {b lo:Nat} {us:List Value} (h:∀ o,lo≤o→o < lo+us.length→I b o=none):I.sub (I.add b lo us):=fun c o u hu=>by
 unfold Mem.add
 split
 ·rename_i hc
  obtain ⟨rfl,h1,h2⟩:=hc
  rw [h o h1 h2] at hu; cases hu
 ·exact hu
theorem Mem.add_at {I:Mem} {b lo:Nat} {us:List Value} {j:Nat} {u:Value} (h:us[j]? = some u):I.add b lo us b (lo+j)=some u:=by
 have hj:=(List.getElem?_eq_some_iff.1 h).1
 unfold Mem.add
 rw [if_pos ⟨rfl,by omega,by omega⟩,show lo+j - lo=j by omega]
 exact h
theorem Mem.add_other {I:Mem} {b lo:Nat} {us:List Value} {c o:Nat} (h:c≠b∨o < lo∨lo+us.length≤o):I.add b lo us c o=I c o:=by
 unfold Mem.add
 rw [if_neg (by omega)]
theorem Mem.add_inW {I:Mem} {b lo:Nat} {us:List Value} {w:World} (h:∀ c o u,I c o=some u→(c=b→o < lo∨lo+us.length≤o)→w.cell? ⟨c,o,none⟩=some u) (hu:∀ (j:Nat) u,us[j]? = some u→w.cell? ⟨b,lo+j,none⟩=some u):(I.add b lo us).inW w:=fun c o u h1=>by
 unfold Mem.add at h1
 split at h1
 ·rename_i hc
  obtain ⟨rfl,h2,h3⟩:=hc
  have:=hu _ u h1
  rwa [show lo+(o - lo)=o by omega] at this
 ·exact h c o u h1 (by omega)

theorem zgs {H' H:AHeap} {id v:Nat} {e:TypeId} {sz:Nat} {es:List (List PV)} (h:zi1 H' H):zi1 (hset H' id (.tail v e sz es)) H:=fun i c' hi=>by
 unfold hset at hi
 split at hi
 ·cases hi
 ·exact h i c' hi
theorem z5y {env:Env} {H:AHeap} (id v:Nat) (e:TypeId) (sz:Nat) (es:List (List PV)) (hH:H id=some (.row v e sz es)) (hne:es≠[]):Weak env H env (hset H id (.tail v e sz es)):=fun C I L tm w hs=>by
 obtain ⟨hdr,us,h1,h2,h3,h4,h5,h6,h7⟩:=hs.chunk id _ hH
 rcases h2.2 with ⟨_,hn⟩ | ⟨g,cap,cur,rfl,hb,hg,hnc,hcm,hcs,htake⟩
 ·exact absurd (List.length_eq_zero_iff.1 hn) hne
 have hfree:=h7 g rfl
 have hus:us.length=es.length * sz:=h2.1
 have hlen:us.length=es.flatten.length:=by rw [zbw h4]; exact hus
 have hcell:∀ (j:Nat) u,us[j]? = some u→w.cell? ⟨g,0+j,none⟩=some u:=fun j u hu=>by
  rw [Nat.zero_add,zec hg]
  rw [← htake,List.getElem?_take] at hu
  split at hu
  ·simpa using hu
  ·cases hu
 have hsub:I.sub (I.add g 0 us):=Mem.sub_add fun o _ _=>hfree o
 refine ⟨I.add g 0 us,lset L id (.row v (.slice (some ⟨g,0,none⟩) es.length cap) sz),hs.turnI (Below.refl _ _) h1 (fun _ _ _=>rfl) (LocLe.lset_same h1) hsub (Mem.add_inW (fun c o u hu _=>hs.mem c o u hu) hcell) (fun b _ hb o=>Mem.add_other (.inl fun e=>hb (by rw [e]; rfl))) _ ?_ (fun b hb=>.inl hb)⟩
 refine ⟨g,0,cap,cur,by simp [lset],hg,by omega,hnc,h3,h4,?_,fun j hj _=>?_⟩
 ·exact .lst _ _ _ es us sz rfl h4 hlen (fun j u c hu hc=>(h5 j u c hu hc).mono hsub) h6 (.inr ⟨g,0,rfl,fun j u hu=>Mem.add_at hu⟩) (by simp) hnc
 ·rw [Mem.add_other (by omega)]
  exact hfree j

theorem zv3 (w : World) (t ty e : TypeId) (i : TypeInfo) (ht : P.underlying t = some (.slice e)) (hi : P.info? e = some i)
  (b o sLen sCap:Nat) (cur:Array Value) (hg:w.heap[b]? = some (.cells cur e (0,0))) (a:Addr) (m c:Nat) (news:List Value) (hl:news.length=m * i.size) (hnews:∀ j u,news[j]? = some u→w.cell? (a.add j)=some u) (h1:∀ u∈news,u.oneCell'=true)
  (hroom:sLen+m≤sCap) (hc:o+sLen * i.size+news.length≤cur.size) :
  (Builtin.append_ #[t,t] ty #[.slice (some ⟨b,o,none⟩) sLen sCap,.slice (some a) m c]).run P w = .ok (.slice (some ⟨b,o,none⟩) (sLen+m) sCap) (w.setRow b (splice cur.toList (o+sLen * i.size) news).toArray):=by
 have hfc:=run_firstCells_some (P:=P) w i.size m a m c news hl hnews
 have hst:=run_storeCells_at (P:=P) b (o+sLen * i.size) e news 0 cur w hg (by omega) h1
 simp only [Nat.add_zero] at hst
 simp [Builtin.append_,run_underlying ht,sizeOf,typeInfo,hi,Builtin.lenOf,hroom,hfc,Addr.add_lit,hst,splice]

theorem zom {α:Type} {cs:List α} {off:Nat} {new:List α} (h:off+new.length≤cs.length) (j:Nat):(splice cs off new)[j]? = if off≤j∧j < off+new.length then new[j - off]? else cs[j]?:=by
 unfold splice
 rw [List.append_assoc,List.getElem?_append,List.length_take,List.getElem?_append,List.getElem?_take,List.getElem?_drop]
 by_cases h1:j < off
 ·rw [if_pos (by omega),if_pos h1,if_neg (by omega)]
 ·rw [if_neg (by omega)]
  by_cases h2:j < off+new.length
  ·rw [if_pos (by omega),if_pos (by omega),show j - min off cs.length=j - off by omega]
  ·rw [if_neg (by omega),if_neg (by omega),show off+new.length+(j - min off cs.length - new.length)=j by omega]

theorem z87 {o : Oper} {W : Env → AHeap → Prop} {env : Env} {H : AHeap} (t1 t2 : TypeId) (x y : Operand) (id v : Nat) (e : TypeId) (sz by' : Nat) (es ns : List (List PV)) (hop : o.op = .call ⟨.builtin .append, #[x, y], #[t1, t2]⟩)
  (ht:appTypes P t1 t2=some (e,sz,by')) (hx:ev env x = .row id v) (hy:ev env y = .p (.lst ns)) (hH:H id=some (.tail v e sz es)) (hns:ns≠[]) (hall:∀ x∈ns,x.length=sz) (hb:(es.length+ns.length) * by'≤140737488355328)
  (hW:W (putA env o.dst (.row id (v+1))) (hset H id (.tail (v+1) e sz (es++ns)))):callK P o W env H:=by
 refine .inr (.inr ⟨_,_,hW,fun C I L tm w σ hs hσ=>?_⟩)
 have hxv:=hσ x
 have hyv:=hσ y
 rw [hx] at hxv
 rw [hy] at hyv
 obtain ⟨rfl,hu,hpos,hbpos,i,z,hi,hz,hsz,hby,hzc⟩:=zh7 ht
 have hs':∀ w,(execOp σ o).run P w=((Builtin.append_ #[t1,t1] o.type #[σ x,σ y]).run P w).andThen fun u w'=>.ok (.value u) w':=fun w=>by
  unfold execOp
  rw [hop]
  simp [resolve,invoke,builtin,Result.andThen]
 obtain ⟨g,of',cap,arr,q1,q2,q3,q4,q5,q6,q7,q8⟩:=hs.chunk id _ hH
 have hmax:es.length+ns.length≤maxLen:=by
  have:=Nat.le_mul_of_pos_right (es.length+ns.length) hbpos
  simp only [maxLen]; omega
 generalize σ x=ux at *
 generalize σ y=uy at *
 cases hxv with
 | row _ _ _ v1 hdr1 sz1 hl hle hh hone =>
  rw [q1] at hl
  simp only [Option.some.injEq,Loc.row.injEq] at hl
  obtain ⟨r1,r2,r3⟩:=hl
  subst r1 r2 r3
  have hxe:=hh rfl
  subst hxe
  have hnfl:=zbw hall
  cases hyv.of_p with
  | lst bo n ncap _ nus nsz hlen hnsz hnl hnv hnone hnm hnnil hncap =>
   subst hlen
   have hnl':nus.length=ns.length * sz:=by rw [hnl,hnfl]
   have hnpos:0 < ns.length:=List.length_pos_iff.2 hns
   rcases hnm with rfl | ⟨bb,off,rfl,hI⟩
   ·have:0 < ns.length * sz:=Nat.mul_pos hnpos hpos
    simp at hnl'; omega
   have hnews:∀ (j:Nat) v,nus[j]? = some v→w.cell? ((⟨bb,off,none⟩:Addr).add j)=some v:=fun j v hj=>by rw [Addr.add_mid]; exact hs.mem _ _ _ (hI j v hj)
   obtain ⟨ao,cap',us,he7,hul,huv,huone,hum,hucap⟩:=q7.lst_inv
   simp only [Value.slice.injEq] at he7
   obtain ⟨rfl,_,rfl⟩:=he7
   have hfl:=zbw q6
   have hul':us.length=es.length * sz:=by rw [hul,hfl]
   have hIus:∀ (j:Nat) u,us[j]? = some u→I g (of'+j)=some u:=by
    rcases hum with rfl | ⟨b2,o2,e2,k⟩
    ·intro j u hu; simp at hu
    ·simp only [Option.some.injEq,Addr.mk.injEq] at e2
     obtain ⟨rfl,rfl,_⟩:=e2
     exact k
   have hvals:∀ {J:Mem},I.sub J→∀ (j:Nat) u c,(us++nus)[j]? = some u→(es++ns).flatten[j]? = some c→VR J u c:=fun hJ=>by
    rw [List.flatten_append]
    exact zsg (by rw [hul]) (fun j u c hu hc=>(huv j u c hu hc).mono hJ) (fun j u c hu hc=>(hnv j u c hu hc).mono hJ)
   have hone2:∀ u∈us++nus,u.oneCell'=true:=fun u hu=>(List.mem_append.1 hu).elim (huone u) (hnone u)
   have hall2:∀ x∈es++ns,x.length=sz:=fun x hx=>(List.mem_append.1 hx).elim (q6 x) (hall x)
   have hlen2:(us++nus).length=(es++ns).flatten.length:=by rw [List.length_append,List.flatten_append,List.length_append,hul,hnl]
   by_cases hr:es.length+ns.length≤cap
   ·subst hsz
    have hmul:(es.length+ns.length) * i.size≤cap * i.size:=Nat.mul_le_mul_right _ hr
    rw [Nat.add_mul] at hmul
    have hrun:=zv3 (P:=P) w t1 o.type e i hu hi g of' es.length cap arr q2 ⟨bb,off,none⟩ ns.length ncap nus hnl' hnews hnone hr (by omega)
    have hsp:∀ j,(w.setRow g (splice arr.toList (of'+es.length * i.size) nus).toArray).cell? ⟨g,j,none⟩=if of'+es.length * i.size≤j∧j < of'+es.length * i.size+nus.length then nus[j - (of'+es.length * i.size)]? else arr[j]?:=fun j=>by
     rw [cell_setRow_same w g j arr _ e (0,0) q2]
     have:=zom (cs:=arr.toList) (off:=of'+es.length * i.size) (new:=nus) (by simp; omega) j
     simpa using this
    have hsub:I.sub (I.add g (of'+es.length * i.size) nus):=Mem.sub_add fun k h1 h2=>q8 k h1 (by omega)
    refine ⟨_,_,I.add g (of'+es.length * i.size) nus,lset L id (.row (v+1) (.slice (some ⟨g,of',none⟩) (es.length+ns.length) cap) i.size),.inl (by rw [hs',hrun]; rfl),.row _ _ _ (v+1) _ i.size (by simp [lset]) (Nat.le_refl _) (fun _=>rfl) rfl,fun env tm hs=>?_⟩
    have hgB:=(hs.blkB id _ g q1 rfl).1
    refine hs.turnI (zjh _ hgB) q1 (fun k _ hk=>setRow_other w g k _ (fun e=>hk (by rw [e]; rfl))) (LocLe.lset_older q1) hsub (Mem.add_inW (fun c k u hu hc=>?_) (fun j u hj=>?_)) (fun k _ hk o=>Mem.add_other (.inl fun e=>hk (by rw [e]; rfl))) _ ?_ (fun k hk=>.inl hk)
    ·by_cases hcg:c=g
     ·subst hcg
      rw [hsp,if_neg (by have:=hc rfl; omega)]
      have:=hs.mem _ _ _ hu
      rwa [zec q2] at this
     ·rw [cell_setRow_other _ _ _ _ hcg]
      exact hs.mem _ _ _ hu
    ·have hj':=(List.getElem?_eq_some_iff.1 hj).1
     rw [hsp,if_pos ⟨by omega,by omega⟩,show of'+es.length * i.size+j - (of'+es.length * i.size)=j by omega]
     exact hj
    ·refine ⟨g,of',cap,_,by simp [lset],setRow_heap w g arr _ e (0,0) q2,?_,by simpa using hr,q5,hall2,?_,fun j h1 h2=>?_⟩
     ·simp only [List.size_toArray]
      rw [zdw (by simp; omega)]
      simpa using q3
     ·refine .lst _ _ _ _ (us++nus) i.size rfl hall2 hlen2 (hvals hsub) hone2 (.inr ⟨g,of',rfl,fun j u hj=>?_⟩) (by simp) (by simpa using hr)
      rw [List.getElem?_append] at hj
      split at hj
      ·exact hsub _ _ _ (hIus j u hj)
      ·have:=Mem.add_at (I:=I) (b:=g) (lo:=of'+es.length * i.size) hj
       rwa [show of'+es.length * i.size+(j - us.length)=of'+j by omega] at this
     ·rw [List.length_append,Nat.add_mul] at h1
      rw [Mem.add_other (.inr (.inr (by omega)))]
      exact q8 j (by omega) h2
   ·obtain ⟨v',w',hrun,r1,r2⟩:=run_append_arg_grows (P:=P) w t1 o.type e i z sz by' hu hi hz hsz hby hzc hpos ⟨g,of',none⟩ es.length cap us hul' (fun j u hj=>by rw [Addr.add_mid]; exact hs.mem _ _ _ (hIus j u hj)) ⟨bb,off,none⟩ ns.length ncap nus hnl' hnews (by omega) hmax hb
    rcases r1.2 with ⟨_,hn0⟩ | ⟨g',cap',cur,rfl,hbg,hgg,hnc,hcm,hcs,htake⟩
    ·omega
    have hg':g' < w'.heap.size:=(Array.getElem?_eq_some_iff.1 hgg).1
    have hIg:∀ k,I g' k=none:=fun k=>by
     cases hI:I g' k with
     | none=>rfl
     | some u=>exact absurd (hs.mem.lt hI) (by omega)
    have hcell:∀ (j:Nat) u,(us++nus)[j]? = some u→w'.cell? ⟨g',0+j,none⟩=some u:=fun j u hu=>by
     rw [Nat.zero_add,zec hgg]
     rw [← htake,List.getElem?_take] at hu
     split at hu
     ·simpa using hu
     ·cases hu
    have hsub:I.sub (I.add g' 0 (us++nus)):=Mem.sub_add fun k _ _=>hIg k
    refine ⟨_,_,I.add g' 0 (us++nus),lset L id (.row (v+1) (.slice (some ⟨g',0,none⟩) (es.length+ns.length) cap') sz),.inl (by rw [hs',hrun]; rfl),.row _ _ _ (v+1) _ sz (by simp [lset]) (Nat.le_refl _) (fun _=>rfl) rfl,fun env tm hs=>?_⟩
    refine hs.turnI (Below.grown (Below.refl _ _) r2 hs.leB fun k hk=>by cases hk) q1 (fun k hk _=>r2.block k hk (by simp)) (LocLe.lset_older q1) hsub (Mem.add_inW (fun c k u hu _=>?_) hcell) (fun k hk _ o=>Mem.add_other (.inl (by omega))) _ ?_ (fun k hk=>.inr ?_)
    ·have hlt:=hs.mem.lt hu
     rw [World.cell?_of_block (w:=w) (r2.block c hlt (by simp))]
     exact hs.mem _ _ _ hu
    ·refine ⟨g',0,cap',cur,by simp [lset],hgg,by omega,by simpa using hnc,q5,hall2,?_,fun j h1 h2=>?_⟩
     ·rw [List.length_append]
      exact .lst _ _ _ _ (us++nus) sz (by simp) hall2 hlen2 (hvals hsub) hone2 (.inr ⟨g',0,rfl,fun j u hj=>Mem.add_at hj⟩) (by simp) hnc
     ·rw [List.length_append,Nat.add_mul] at h1
      rw [Mem.add_other (.inr (.inr (by rw [List.length_append]; omega)))]
      exact hIg j
    ·simp [Loc.blk,Value.ownBlock] at hk
     omega

theorem z26 {o : Oper} {W : Env → AHeap → Prop} {env : Env} {H : AHeap} (t : TypeId) (x lo : Operand) (id v : Nat) (e : TypeId) (sz : Nat) (es : List (List PV)) (k : IntKind) (n : Int) (hop : o.op = .slice t x (some lo) none none)
  (ht:slElem P t=some e) (hsz:tySize P e=some sz) (hx:ev env x = .row id v) (hlo:ev env lo = .p (.val (.int k n))) (hH:H id=some (.tail v e sz es)) (hn:0≤n∧n.toNat≤es.length)
  (hW:W (putA env o.dst (.row id (v+1))) (hset H id (.tail (v+1) e sz (es.drop n.toNat)))):callK P o W env H:=by
 refine .inr (.inr ⟨_,_,hW,fun C I L tm w σ hs hσ=>?_⟩)
 have hxv:=hσ x
 have hlv:=hσ lo
 rw [hx] at hxv
 rw [hlo] at hlv
 have hu:=zef ht
 obtain ⟨hn0,hn1⟩:=hn
 obtain ⟨m,rfl⟩:=Int.eq_ofNat_of_zero_le hn0
 simp only [Int.toNat_natCast] at hn1 hW ⊢
 obtain ⟨g,of',cap,arr,q1,q2,q3,q4,q5,q6,q7,q8⟩:=hs.chunk id _ hH
 have hs':(execOp σ o).run P w=((Instr.sliceAt t (σ x) (some (σ lo)) none none).run P w).andThen fun u w'=>.ok (.value u) w':=by
  unfold execOp
  rw [hop]
  simp only [Option.map_some,Option.map_none]
  exact zdk _ w
 generalize σ x=ux at *
 obtain ⟨e1,_⟩:=hlv.of_val
 rw [e1] at hs'
 cases hxv with
 | row _ _ _ v1 hdr1 sz1 hl hle hh hone =>
  rw [q1] at hl
  simp only [Option.some.injEq,Loc.row.injEq] at hl
  obtain ⟨r1,r2,r3⟩:=hl
  subst r1 r2 r3
  have hxe:=hh rfl
  subst hxe
  have hrun:(Instr.sliceAt t (.slice (some ⟨g,of',none⟩) es.length cap) (some (.int k (m:Int))) none none).run P w = .ok (sliced (some ⟨g,of',none⟩) m es.length cap sz) w:=by
   have h3:(m:Int)≤(es.length:Int):=by omega
   simp [Instr.sliceAt,Instr.slice,run_underlying hu,Instr.sliceBounds,zc5,sliced,zct hsz,h3]
  have hms:m * sz≤es.length * sz:=Nat.mul_le_mul_right _ hn1
  have hcs:es.length * sz≤cap * sz:=Nat.mul_le_mul_right _ q4
  have hdl:(es.drop m).length=es.length - m:=List.length_drop
  have hdm:(es.length - m) * sz=es.length * sz - m * sz:=Nat.sub_mul _ _ _
  have hcm':(cap - m) * sz=cap * sz - m * sz:=Nat.sub_mul _ _ _
  obtain ⟨ao,cap',us,he7,hul,huv,huone,hum,hucap⟩:=q7.lst_inv
  simp only [Value.slice.injEq] at he7
  obtain ⟨rfl,_,rfl⟩:=he7
  have hfl:=zbw q6
  have hul':us.length=es.length * sz:=by rw [hul,hfl]
  have hIus:∀ (j:Nat) u,us[j]? = some u→I g (of'+j)=some u:=by
   rcases hum with rfl | ⟨b2,o2,e2,k⟩
   ·intro j u hu; simp at hu
   ·simp only [Option.some.injEq,Addr.mk.injEq] at e2
    obtain ⟨rfl,rfl,_⟩:=e2
    exact k
  have hdall:∀ x∈es.drop m,x.length=sz:=fun x hx=>q6 x (List.mem_of_mem_drop hx)
  have hdfl:(es.drop m).flatten=es.flatten.drop (m * sz):=by
   have h1:es.flatten=(es.take m).flatten++(es.drop m).flatten:=by rw [← List.flatten_append,List.take_append_drop]
   have h2:(es.take m).flatten.length=m * sz:=by
    rw [zbw (sz:=sz) fun x hx=>q6 x (List.mem_of_mem_take hx),List.length_take,Nat.min_eq_left hn1]
   rw [h1,← h2,List.drop_left]
  by_cases hc:cap=m
  ·have hml:m=es.length:=by omega
   have hdr:sliced (some ⟨g,of',none⟩) m es.length cap sz = .slice (some ⟨g,of',none⟩) 0 0:=by
    simp [sliced,hc,hml]
   rw [hdr] at hrun
   have hd0:es.drop m=[]:=by rw [hml]; simp
   rw [hd0]
   refine ⟨_,w,I,lset L id (.row (v+1) (.slice (some ⟨g,of',none⟩) 0 0) sz),.inl (by rw [hs',hrun]; rfl),.row _ _ _ (v+1) _ sz (by simp [lset]) (Nat.le_refl _) (fun _=>rfl) rfl,fun env tm hs=>?_⟩
   refine hs.turnI (Below.refl _ _) q1 (fun _ _ _=>rfl) (LocLe.lset_older q1) (Mem.sub_refl I) hs.mem (fun _ _ _ _=>rfl) _ ?_ (fun k hk=>.inl hk)
   refine ⟨g,of',0,arr,by simp [lset],q2,by omega,Nat.le_refl _,q5,by simp,?_,fun j h1 h2=>by simp at h2; omega⟩
   exact .lst _ _ _ [] [] sz rfl (by simp) rfl (by simp) (by simp) (.inl rfl) (by simp) (Nat.le_refl _)
  ·have hdr:sliced (some ⟨g,of',none⟩) m es.length cap sz = .slice (some ⟨g,of'+m * sz,none⟩) (es.length - m) (cap - m):=by
    simp [sliced,hc,Addr.add_mid]
   rw [hdr] at hrun
   refine ⟨_,w,I,lset L id (.row (v+1) (.slice (some ⟨g,of'+m * sz,none⟩) (es.length - m) (cap - m)) sz),.inl (by rw [hs',hrun]; rfl),.row _ _ _ (v+1) _ sz (by simp [lset]) (Nat.le_refl _) (fun _=>rfl) rfl,fun env tm hs=>?_⟩
   refine hs.turnI (Below.refl _ _) q1 (fun _ _ _=>rfl) (LocLe.lset_older q1) (Mem.sub_refl I) hs.mem (fun _ _ _ _=>rfl) _ ?_ (fun k hk=>.inl hk)
   refine ⟨g,of'+m * sz,cap - m,arr,by simp [lset],q2,by omega,by omega,q5,hdall,?_,fun j h1 h2=>q8 j (by rw [hdl,hdm] at h1; omega) (by omega)⟩
   rw [hdl]
   refine .lst _ _ _ _ (us.drop (m * sz)) sz hdl hdall (by rw [hdfl,List.length_drop,List.length_drop,hul]) (fun j u c hu hc=>?_) (fun u hu=>huone u (List.mem_of_mem_drop hu)) (.inr ⟨g,of'+m * sz,rfl,fun j u hu=>?_⟩) (by simp) (by omega)
   ·rw [List.getElem?_drop] at hu
    rw [hdfl,List.getElem?_drop] at hc
    exact huv _ u c hu hc
   ·rw [List.getElem?_drop] at hu
    rw [Nat.add_assoc]
    exact hIus _ u hu
end Go.Abs
namespace Go.Abs
open Go.RowKit

variable {P:Program} {I:Mem} {L:zbc}

theorem zzz (w : World) (dT sT ty e : TypeId) (b o dLen dCap : Nat) (cur : Array Value) (a : Addr) (sLen sCap : Nat) (cs : List Value) (hg : w.heap[b]? = some (.cells cur e (0, 0)))
  (hu:P.underlying dT=some (.slice e)) (hs:tySize P e=some 1) (hn:cs.length=Nat.min sLen dLen)
  (hsrc:∀ j v,cs[j]? = some v→w.cell? (a.add j)=some v) (hc:o+cs.length≤cur.size) (h1:∀ v∈cs,v.oneCell'=true) :
  (Builtin.copy_ #[dT,sT] ty #[.slice (some ⟨b,o,none⟩) dLen dCap,.slice (some a) sLen sCap]).run P w = .ok (goInt cs.length) (w.setRow b (splice cur.toList o cs).toArray):=by
 have hl:=run_loadCells_list (P:=P) w a cs hsrc
 have hst:=run_storeCells_at (P:=P) b o e cs 0 cur w hg (by omega) h1
 simp only [Nat.add_zero] at hst
 cases hq:P.info? e with
 | none=>simp [tySize,hq] at hs
 | some i =>
  have hi:i.size=1:=by simpa [tySize,hq] using hs
  simp [Builtin.copy_,run_underlying hu,Builtin.lenOf,Builtin.firstCells,sizeOf,typeInfo,hq,hi,← hn,hl,hst,splice]

theorem zp0 {α:Type} (ps:List α):(ps.map fun p=>[p]).flatten=ps:=by
 induction ps with
 | nil=>rfl
 | cons a r ih=>rw [List.map_cons,List.flatten_cons,ih]; rfl
theorem ztv {α:Type} {es:List (List α)} (h:∀ x∈es,x.length=1) (o:Nat) (ps:List α):(splice es o (ps.map fun p=>[p])).flatten=splice es.flatten o ps:=by
 have h1:∀ (n:Nat),(es.take n).flatten=es.flatten.take n∧(es.drop n).flatten=es.flatten.drop n:=by
  intro n
  induction es generalizing n with
  | nil=>simp
  | cons a r ih =>
   obtain ⟨p,rfl⟩:∃ p,a=[p]:=List.length_eq_one_iff.1 (h a List.mem_cons_self)
   cases n with
   | zero=>simp
   | succ n =>
    have:=ih (fun x hx=>h x (List.mem_cons_of_mem _ hx)) n
    simpa using this
 unfold splice
 rw [List.flatten_append,List.flatten_append,zp0,(h1 o).1,List.length_map,(h1 _).2]

theorem zsh {C : Ctx} {env : Env} {H : AHeap} {tm : Array Value} {w : World} (hs : Sim C env H I L tm w) {op : Oper} {σ : Operand → Value} (x y : Operand) (t1 t2 : TypeId) (hop : op.op = .call ⟨.builtin .copy, #[x, y], #[t1, t2]⟩)
  {id v:Nat} {e:TypeId} {es:List (List PV)} (hH:H id=some (.row v e 1 es)) {g n cap:Nat} (hL:L id=some (.row v (.slice (some ⟨g,0,none⟩) n cap) 1)) (hu:P.underlying t1=some (.slice e)) (hsz:tySize P e=some 1)
  {o dLen dCap:Nat} (hx:σ x = .slice (some ⟨g,o,none⟩) dLen dCap) {a:Addr} {sLen sCap:Nat} (hy:σ y = .slice (some a) sLen sCap) (cs:List Value) (ps:List PV) (hn:cs.length=Nat.min sLen dLen) (hps:ps.length=cs.length) (ho:o+cs.length≤es.length)
  (hsrc:∀ j v,cs[j]? = some v→w.cell? (a.add j)=some v) (h1:∀ v∈cs,v.oneCell'=true) (hv:∀ (j:Nat) u c,cs[j]? = some u→ps[j]? = some c→VR I u c) :
  Yield P C H I L w ((execOp σ op).run P w) (.p (.val (.int .i64 (cs.length:Nat)))) (hset H id (.row v e 1 (splice es o (ps.map fun p=>[p])))):=by
 obtain ⟨hdr,us,q1,q2,q3,q4,q5,q6,q7⟩:=hs.chunk id _ hH
 rw [hL] at q1
 simp only [Option.some.injEq,Loc.row.injEq,true_and,and_true] at q1
 subst q1
 rcases q2.2 with ⟨hbad,_⟩ | ⟨g',cp,cur,heq,hbg,hgg,hnc,hcm,hcz,htake⟩
 ·cases hbad
 simp only [Value.slice.injEq,Option.some.injEq,Addr.mk.injEq] at heq
 obtain ⟨⟨e3,_⟩,e4,e5⟩:=heq
 subst e3 e4 e5
 simp only [Nat.mul_one] at hcz htake
 have hr:=zzz (P:=P) w t1 t2 op.type e g o dLen dCap cur a sLen sCap cs hgg hu hsz hn hsrc (by omega) h1
 have hs':∀ w,(execOp σ op).run P w=((Builtin.copy_ #[t1,t2] op.type #[σ x,σ y]).run P w).andThen fun u w'=>.ok (.value u) w':=fun w=>by
  unfold execOp
  rw [hop]
  simp [resolve,invoke,builtin,Result.andThen]
 refine ⟨_,_,I,lset L id (.row v (.slice (some ⟨g,0,none⟩) es.length cap) 1),.inl (by rw [hs',hx,hy,hr]; rfl),.p _ _ (.val _ rfl),fun env tm hs=>?_⟩
 refine hs.turn (zjh _ (hs.blkB id _ g hL rfl).1) hL (fun k hk hne=>setRow_other w g k _ (fun e=>hne (by rw [e]; rfl))) (LocLe.lset_same hL) (fun k hk=>q7 k hk) _ ?_ (fun k hk=>.inl hk)
 have hcl:us.length=es.length:=by have:=q2.1; omega
 have hfl:=zbw q4
 have hpl:(ps.map fun p=>[p]).length=cs.length:=by rw [List.length_map,hps]
 have hsl:(splice es o (ps.map fun p=>[p])).length=es.length:=zdw (by omega)
 have htk:(splice cur.toList o cs).take es.length=splice us o cs:=by
  rw [zrj (by omega) (by simp; omega),htake]
 refine ⟨.slice (some ⟨g,0,none⟩) es.length cap,splice us o cs,by simp [lset],⟨?_,.inr ⟨g,cap,(splice cur.toList o cs).toArray,by rw [hsl],hbg,setRow_heap w g cur _ e _ hgg,by rw [hsl]; exact hnc,hcm,?_,?_⟩⟩,q3,?_,?_,zoz q6 h1,q7⟩
 ·rw [hsl,zdw (by omega),Nat.mul_one]; exact hcl
 ·simp only [List.size_toArray]
  rw [zdw (by simp; omega)]
  simp; omega
 ·rw [hsl,Nat.mul_one]
  simpa using htk
 ·intro z hz
  rcases List.mem_append.1 hz with h | h
  ·rcases List.mem_append.1 h with h | h
   ·exact q4 z (List.mem_of_mem_take h)
   ·obtain ⟨p,_,rfl⟩:=List.mem_map.1 h; rfl
  ·exact q4 z (List.mem_of_mem_drop h)
 ·rw [ztv q4]
  intro j u c hu hc
  rw [zom (by omega)] at hu
  rw [zom (by omega)] at hc
  rw [hps] at hc
  split at hu
  ·rename_i h; rw [if_pos h] at hc; exact hv _ u c hu hc
  ·rename_i h; rw [if_neg h] at hc; exact q5 _ u c hu hc

theorem zfz {o:Option Tmp} {xs:Array Operand} {ts:Array TypeId} {ty:TypeId} {pos:String} {af:Array Edge} {g:Option (Nat×Bool)} {ρ:Operand→AV} {H:AHeap} : exM P ⟨o,.call ⟨.builtin .copy,xs,ts⟩,ty,pos,af,g⟩ ρ H=none:=by
 simp [exM,exP,exQ,exW,exS,builtinX]
theorem zbdp {o : Oper} {W : Env → AHeap → Prop} {env : Env} {H : AHeap} (t1 t2 : TypeId) (x y : Operand) (id v : Nat) (e : TypeId) (es : List (List PV)) (ps : List PV) (hop : o.op = .call ⟨.builtin .copy, #[x, y], #[t1, t2]⟩) (hu : P.underlying t1 = some (.slice e)) (hsz : tySize P e = some 1)
  (hx:ev env x = .row id v) (hy:ev env y = .p (.lst (ps.map fun p=>[p]))) (hH:H id=some (.row v e 1 es)) (h0:0 < ps.length) (hl:ps.length≤es.length)
  (hW:W (putA env o.dst (.p (.val (.int .i64 (ps.length:Nat))))) (hset H id (.row v e 1 (splice es 0 (ps.map fun p=>[p]))))):callK P o W env H:=by
 refine .inr (.inr ⟨_,_,hW,fun C I L tm w σ hs hσ=>?_⟩)
 have hxv:=hσ x
 have hyv:=hσ y
 rw [hx] at hxv
 rw [hy] at hyv
 obtain ⟨hdr,us,q1,q2,q3,q4,q5,q6,q7⟩:=hs.chunk id _ hH
 rcases q2.2 with ⟨_,hn⟩ | ⟨g,cp,cur,heq,hbg,hgg,hnc,hcm,hcz,htake⟩
 ·omega
 subst heq
 have e1:σ x = .slice (some ⟨g,0,none⟩) es.length cp:=by
  generalize σ x=ux at hxv
  cases hxv with
  | row _ _ _ v1 hdr1 sz1 hl1 hle hh hone =>
   rw [q1] at hl1
   simp only [Option.some.injEq,Loc.row.injEq] at hl1
   obtain ⟨r1,r2,r3⟩:=hl1
   subst r1 r2 r3
   exact hh rfl
 obtain ⟨ao,cap,cs,e2,hcl,hcv,hcone,hcm2,hccap⟩:=hyv.of_p.lst_inv
 rw [zp0] at hcl hcv
 have hne:cs≠[]:=fun e=>by subst e; simp at hcl; omega
 rcases hcm2 with h | ⟨b,off,rfl,hI⟩
 ·exact absurd h hne
 rw [← hcl]
 refine zsh hs x y t1 t2 hop hH q1 hu hsz e1 e2 cs ps ?_ hcl.symm (by omega) (fun j u hj=>?_) hcone hcv
 ·rw [List.length_map,hcl]; exact (Nat.min_eq_left hl).symm
 ·rw [Addr.add_mid]; exact hs.mem _ _ _ (hI j u hj)
theorem zbdw {H : AHeap} {C : Ctx} {env : Env} {tm : Array Value} {w : World} (hs : Sim C env H I L tm w) {id v : Nat} {e : TypeId} {es : List (List PV)} (hH : H id = some (.row v e 1 es)) (h0 : 0 < es.length) :
  ∃ g cap,∃ us:List Value,L id=some (.row v (.slice (some ⟨g,0,none⟩) es.length cap) 1)∧es.length≤cap∧us.length=es.length∧(∀ (j:Nat) u c,us[j]? = some u→es.flatten[j]? = some c→VR I u c)∧(∀ u∈us,u.oneCell'=true)∧(∀ (j:Nat) u,us[j]? = some u→w.cell? ⟨g,j,none⟩=some u)∧(∀ x∈es,x.length=1):=by
 obtain ⟨hdr,us,q1,q2,q3,q4,q5,q6,q7⟩:=hs.chunk id _ hH
 rcases q2.2 with ⟨_,hn⟩ | ⟨g,cp,cur,heq,hbg,hgg,hnc,hcm,hcz,htake⟩
 ·omega
 subst heq
 refine ⟨g,cp,us,q1,hnc,by have:=q2.1; omega,q5,q6,fun j u hu=>?_,q4⟩
 rw [zec hgg]
 rw [← htake,List.getElem?_take] at hu
 split at hu
 ·simpa using hu
 ·cases hu
theorem AVR.row_of {u:Value} {id v:Nat} {hdr:Value} {sz:Nat} (h:AVR I L u (.row id v)) (hL:L id=some (.row v hdr sz)):u=hdr:=by
 cases h with
 | row _ _ _ v1 hdr1 sz1 hl1 hle hh hone =>
  rw [hL] at hl1
  simp only [Option.some.injEq,Loc.row.injEq] at hl1
  obtain ⟨r1,r2,r3⟩:=hl1
  subst r1 r2 r3
  exact hh rfl
theorem zkt {o:Oper} {σ:Operand→Value} {x:Operand} {v:Value} (hop:o.op = .move x) (hx:σ x=v) (w:World):(execOp σ o).run P w = .ok (.value v) w:=by
 unfold execOp
 rw [hop]
 simp [hx]
theorem zz6 {o : Oper} {σ : Operand → Value} {t e : TypeId} {x lo : Operand} {g n cap m : Nat} (hop : o.op = .slice t x (some lo) none none) (ht : slElem P t = some e) (hsz : tySize P e = some 1) (hx : σ x = .slice (some ⟨g, 0, none⟩) n cap) (hlo : σ lo = .int .i64 (m : Nat)) (hm : m ≤ n) (hc : m < cap) (w : World) :
  (execOp σ o).run P w = .ok (.value (.slice (some ⟨g,m,none⟩) (n - m) (cap - m))) w:=by
 unfold execOp
 rw [hop]
 simp only [Option.map_some,Option.map_none,hx,hlo]
 have hrun:(Instr.sliceAt t (.slice (some ⟨g,0,none⟩) n cap) (some (.int .i64 (m:Nat))) none none).run P w = .ok (sliced (some ⟨g,0,none⟩) m n cap 1) w:=by
  have h3:(m:Int)≤(n:Int):=by omega
  simp [Instr.sliceAt,Instr.slice,run_underlying (zef ht),Instr.sliceBounds,zc5,sliced,zct hsz,h3]
 have hd:sliced (some ⟨g,0,none⟩) m n cap 1 = .slice (some ⟨g,m,none⟩) (n - m) (cap - m):=by
  simp [sliced,Addr.add_mid]
  omega
 rw [zdk,hrun,hd]
 rfl
theorem zyq {o : Oper} {σ : Operand → Value} {t e : TypeId} {x hi : Operand} {g n cap m : Nat} (hop : o.op = .slice t x none (some hi) none) (ht : slElem P t = some e) (hsz : tySize P e = some 1) (hx : σ x = .slice (some ⟨g, 0, none⟩) n cap) (hhi : σ hi = .int .i64 (m : Nat)) (hm : m ≤ cap) (w : World) :
  (execOp σ o).run P w = .ok (.value (.slice (some ⟨g,0,none⟩) m cap)) w:=by
 unfold execOp
 rw [hop]
 simp only [Option.map_some,Option.map_none,hx,hhi]
 have hrun:(Instr.sliceAt t (.slice (some ⟨g,0,none⟩) n cap) none (some (.int .i64 (m:Nat))) none).run P w = .ok (sliced (some ⟨g,0,none⟩) 0 m cap 1) w:=by
  have h3:(m:Int)≤(cap:Int):=by omega
  simp [Instr.sliceAt,Instr.slice,run_underlying (zef ht),Instr.sliceBounds,zc5,sliced,zct hsz,h3]
 have hd:sliced (some ⟨g,0,none⟩) 0 m cap 1 = .slice (some ⟨g,0,none⟩) m cap:=by
  simp [sliced,Addr.add_mid]
 rw [zdk,hrun,hd]
 rfl
section
variable {ops:Array Oper} {Q:Exit→Act→World→Prop} {C:Ctx} {env:Env} {H:AHeap} {tm:Array Value} {w:World} {fuel:Nat} {listed:Array Bool}
theorem anyTake (i : Nat) (o : Oper) (v : Value) (hi : ops[i]? = some o) (hsel : Region.noSelect ops = true) (hf : Region.free .any ops listed i = true) (hr : (Region.ready .any ops listed).contains i = true) (hQ : ∀ c a w, ¬ Q (.panic c) a w)
  (hg:guardA ops o env=some true) (hd:dstOk C.n o.dst) (h1:v.oneCell'=true) (hs:Sim C env H I L tm w)
  (hy:∀ σ:Operand→Value,(∀ x,AVR I L (σ x) (ev env x))→∀ w,(execOp σ o).run P w = .ok (.value v) w)
  (hk:∀ tm',Sim C (putA env o.dst (.p (.val v))) H I L tm' w→wpAny P .any ops Q fuel (listed.setIfInBounds i true) ⟨tm',[]⟩ w):wpAny P .any ops Q (fuel+1) listed ⟨tm,[]⟩ w:=by
 have e:(Act.put ⟨tm,[]⟩ o.dst v:Act)=⟨(Act.put ⟨tm,[]⟩ o.dst v).tmps,[]⟩:=by cases o.dst <;> rfl
 refine wpAny_take (v:=v) hi hsel hf hr (fun c a w h=>absurd h (hQ c _ w)) (.inl ⟨zhn hg hs,hy _ (fun x=>ziv hs [] x)⟩) ?_
 rw [e]
 exact hk _ (hs.putA hd (.p _ _ (.val _ h1)) [])
theorem anyOne (i : Nat) (o : Oper) {v : AV} {H' : AHeap} (hi : ops[i]? = some o) (hr : Region.ready .any ops listed = [i]) (hg : guardA ops o env = some true) (hd : dstOk C.n o.dst) (hs : Sim C env H I L tm w)
  (hy:∀ σ:Operand→Value,(∀ x,AVR I L (σ x) (ev env x))→Yield P C H I L w ((execOp σ o).run P w) v H')
  (hk:∀ I' L' tm' w',Fr C I L H w I' L' H' w'→Sim C (putA env o.dst v) H' I' L' tm' w'→wpAny P .any ops Q fuel (listed.setIfInBounds i true) ⟨tm',[]⟩ w'):wpAny P .any ops Q (fuel+1) listed ⟨tm,[]⟩ w:=by
 refine wpAny_all hr (by simp) fun j hj=>?_
 have:j=i:=by simpa using hj
 subst this
 unfold wpOp
 rw [hi]
 simp only []
 rw [if_pos (zhn hg hs)]
 refine .inl ?_
 unfold Oper.wp
 refine (hy _ (fun x=>ziv hs [] x)).upon fun u w' I' L' ha hf=>?_
 have e:(Act.put ⟨tm,[]⟩ o.dst u:Act)=⟨(Act.put ⟨tm,[]⟩ o.dst u).tmps,[]⟩:=by cases o.dst <;> rfl
 rw [e]
 exact hk I' L' _ w' hf ((hf env tm hs).putA hd ha [])
end
end Go.Abs
namespace Go.Proofs.YtimojjnmmlhijaaGreat
open Go.Abs

noncomputable def zph (l:List Int) (n:Int):Option (List Int):=giv (1≤n∧n≤1000000∧l.length=1) (List.replicate n.toNat (l.getD 0 0))
def distStep (q:Int) (s:List Int×List Int) (d:zbm):List Int×List Int :=
 if d.dst=q∧s.1.getD d.src.toNat 0 < 0 then (s.1.set d.src.toNat (s.1.getD q.toNat 0+1),s.2++[d.src]) else s
def distGo (all:List zbm):Nat→List Int×List Int→Option (List Int)
 | _,(out,[])=>some out
 | 0,(_,_ :: _)=>none
 | n+1,(out,q :: rest) =>
  let s:=all.foldl (distStep q) (out,q :: rest)
  distGo all n (s.1,s.2.drop 1)
noncomputable def zfk (all:List zbm) (to n:Int):Option (List Int) :=
 thn (giv (0≤to∧to < n∧n≤1000∧all.length≤1000000∧∀ d∈all,0≤d.src∧d.src < n) ()) fun _ =>
 distGo all (n.toNat+1) ((List.replicate n.toNat (-1)).set to.toNat 0,[to])

end Go.Proofs.YtimojjnmmlhijaaGreat
namespace Go.Proofs.YtimojjnmmlhijaaGreat
open Go.Abs

theorem z96 {P:Program} {t:TypeId} {k:IntKind} {a b:Int} : binX P .and t (.p (.val (.int k a))) (.p (.val (.int k b)))=some (True,.p (.val (.int k (k.wrap (BitVec.ofInt k.bits a &&& BitVec.ofInt k.bits b).toNat)))):=by simp [binX,binV]
theorem z93 (n:Nat) (h:n≤1000000):IntKind.u64.wrap ((BitVec.ofInt 64 (n:Int) &&& BitVec.ofInt 64 4294967295).toNat:Int)=n:=by
 have e:(BitVec.ofInt 64 (n:Int) &&& BitVec.ofInt 64 4294967295).toNat=n:=by
  rw [BitVec.toNat_and]
  have e1:(BitVec.ofInt 64 (n:Int)).toNat=n:=by
   rw [BitVec.toNat_ofInt]
   omega
  have e2:(BitVec.ofInt 64 4294967295).toNat=2 ^ 32 - 1:=by decide
  rw [e1,e2,Nat.and_two_pow_sub_one_eq_mod]
  omega
 rw [e]
 exact IntWalk.u64_in _ (by omega)
theorem zbee:IntKind.u64.wrap ((BitVec.ofInt 64 1 &&& BitVec.ofInt 64 4294967295).toNat:Int)=1:=by decide
theorem zbbq:IntKind.u64.wrap ((BitVec.ofInt 64 0 &&& BitVec.ofInt 64 4294967295).toNat:Int)=0:=by decide
theorem and_u {P:Program} {t:TypeId} (a b:Int) (h:IntKind.u64.wrap ((BitVec.ofInt 64 a &&& BitVec.ofInt 64 4294967295).toNat:Int)=b):binX P .and t (.p (.val (.int .u64 a))) (.p (.val (.int .u64 4294967295)))=some (True,.p (.val (.int .u64 b))):=by
 subst h; exact z96
set_option maxRecDepth 20000 in
theorem zba2 (n:Nat) (hn:n≤1000000):CallV Tryz.prog 158 [.val (.int .u64 1),.val (.int .u64 n)] (fun v=>v = .tup [.val (.int .u64 0),.val (.int .u64 n)]):=by
 have hw:IntKind.u64.wrap (n:Int)=n:=IntWalk.u64_in _ (by omega)
 have hw0:IntKind.u64.wrap 0=0:=by decide
 have hf:(n:Int).fdiv (2 ^ 32)=0:=by rw [Int.fdiv_eq_ediv_of_nonneg _ (by decide)]; omega
 have hf1:(1:Int).fdiv (2 ^ 32)=0:=by decide
 have hf0:(0:Int).fdiv (2 ^ 32)=0:=by decide
 have hm:min 32 64=32:=rfl
 have a1:=fun t=>and_u (P:=Tryz.prog) (t:=t) n n (z93 n hn)
 have a2:=fun t=>and_u (P:=Tryz.prog) (t:=t) 1 1 zbee
 have a3:=fun t=>and_u (P:=Tryz.prog) (t:=t) 0 0 zbbq
 have hw1:IntKind.u64.wrap 1=1:=by decide
 
 refine zc [] Ty.mixed Tryz.func158 rfl (by kernel_rfl) (by simp [Tryz.ntmps158]) ?_; rw [Tryz.ntmps158,Tryz.results158]
 simp -implicitDefEqProofs only [go_sem,a1,a2,a3,hw1,hw,hw0,hf,hf1,hf0,hm,Int.one_mul,Int.zero_mul,Int.mul_zero,Int.add_zero,Int.zero_add]
 decide
set_option maxRecDepth 20000 in
theorem zbe6 (n:Nat) (hn:n≤1000000):CallV Tryz.prog 122 [.val (.int .u64 1),.val (.int .u64 n)] (fun v=>v = .tup [.val (.int .u64 0),.val (.int .u64 n)]):=by
 refine zc [] Ty.mixed Tryz.func122 rfl (by kernel_rfl) (by simp [Tryz.ntmps122]) ?_; rw [Tryz.ntmps122,Tryz.results122]
 simp -implicitDefEqProofs only [go_sem]
 refine zw (zba2 n hn) (by simp -implicitDefEqProofs only [go_sem] <;> rfl) (pers) ?_
 simp -implicitDefEqProofs only [go_sem]
def repL (N k:Nat) (a:Int):List (List PV):=List.replicate k [.val (.int .i64 a)]++List.replicate (N - k) [.val (.int .i64 0)]
theorem zh3 (N k:Nat) (a:Int) (h:k≤N):(repL N k a).length=N:=by simp [repL]; omega
theorem z9x (N:Nat) (a:Int):[PV.val (.int .i64 a)] :: List.drop 1 (List.replicate N [PV.val (.int .i64 0)])=repL N 1 a:=by
 simp [repL]
theorem z76 (N k c:Nat) (a:Int) (h:k+c≤N):splice (repL N k a) k ((List.replicate c (PV.val (.int .i64 a))).map fun p=>[p])=repL N (k+c) a:=by
 unfold splice repL
 rw [List.take_left' (by simp),List.map_replicate,List.length_replicate,← List.drop_drop,List.drop_left' (by simp),List.drop_replicate,List.replicate_append_replicate,show N - k - c=N - (k+c) by omega]
set_option maxRecDepth 20000 in
set_option maxHeartbeats 4000000 in
theorem zpk (l:List Int) (n:Int) (r:List Int) (h:zph l n=some r):CallF Tryz.prog 89 [.lst (l.map encI),.val (.int .i64 n)] (fun v=>v = .row 3 1 (r.map encI)):=by
 obtain ⟨⟨h0,h1,h2⟩,rfl⟩:=giv_s h
 obtain ⟨a,rfl⟩:∃ a,l=[a]:=List.length_eq_one_iff.1 h2
 obtain ⟨N,rfl⟩:∃ N:Nat,n=N:=⟨n.toNat,by omega⟩
 simp only [Int.toNat_natCast]
 refine zbl [30] Ty.mixed Tryz.func89 rfl (by kernel_rfl) (by simp [Tryz.ntmps89]) ?_; rw [Tryz.ntmps89,Tryz.results89]
 simp -implicitDefEqProofs only [go_sem]
 refine zb (fun hc=>?_) (fun hc=>?_)
 ·have:=of_decide_eq_true hc; omega
 have hw1:IntKind.u64.wrap (N:Int)=N:=IntWalk.u64_in _ (by omega)
 have hw2:IntKind.i64.wrap (N:Int)=N:=wrapI (by omega)
 have hwl:IntKind.u64.wrap 1=1:=rfl
 
 simp -implicitDefEqProofs only [go_sem,hw1,hw2,hwl,Int.toNat_natCast]
 refine zw (zbe6 N (by omega)) (by simp -implicitDefEqProofs only [go_sem,hw1,hw2,hwl,Int.toNat_natCast] <;> rfl) (pers) ?_
 have hlt:decide ((9223372036854775807:Int) < N)=false:=decide_eq_false (by omega)
 have hz:decide ((0:Int) < 0)=false:=rfl
 
 simp -implicitDefEqProofs only [go_sem,hw1,hw2,hwl,Int.toNat_natCast,hlt,hz,Bool.not_false,zfz]
 refine ⟨by omega,?_⟩
 refine zbdp 34 34 (.tmp 31) (.tmp 32) 30 0 3 (List.replicate N [.val (.int .i64 0)]) [.val (.int .i64 a)] rfl (by kernel_rfl) (by kernel_rfl) (by simp -implicitDefEqProofs only [go_sem,hw1,hw2,hwl,Int.toNat_natCast,hlt,hz,Bool.not_false,zfz]) (by simp -implicitDefEqProofs only [go_sem,hw1,hw2,hwl,Int.toNat_natCast,hlt,hz,Bool.not_false,zfz] <;> rfl) (by simp -implicitDefEqProofs only [go_sem,hw1,hw2,hwl,Int.toNat_natCast,hlt,hz,Bool.not_false,zfz]) (by simp) (by simp; omega) ?_
 simp -implicitDefEqProofs only [go_sem,hw1,hw2,hwl,Int.toNat_natCast,hlt,hz,Bool.not_false,zfz]
 refine zbz (σ:=Nat) (fun k=>(upd (upd env0 7 (.row 30 0)) 8 (.p (.val (.int .i64 k))))) (fun k=>(hset heap0 30 (.row 0 3 1 (repL N k a)))) (fun k=>1≤k∧k≤N) (fun k=>N - k) 1 ⟨by omega,by omega⟩ ?_ ?_
 ·rw [z9x N a]
  exact (zbg (by repeat (first | exact zba _ | refine zbf ?_ (by first | rfl | simp [upd]))) (by repeat (first | exact hsub0 _ | refine z2 ?_ (by first | rfl | simp [hset]))) (by repeat (first | exact zbb _ | refine zbh ?_ (by simp [idsOk,idsOkL,hset]))) (by repeat (first | exact boxIds0 _ | refine zu ?_ | refine zp ?_ | refine zgs ?_ | refine zv ?_ (by simp [idsOk,idsOkL,hset]))) (by repeat (first | exact keep0 _ | refine z8 (by decide) ?_ | refine zz (by simp [hset]) ?_)))
 rintro k ⟨hk1,hk2⟩
 
 simp -implicitDefEqProofs only [go_sem,hw1,hw2,hwl,Int.toNat_natCast,hlt,hz,Bool.not_false,zfz,zh3 N k a hk2]
 refine zb (fun hc=>?_) (fun hc=>?_)
 ·have hk3:k < N:=by have:=of_decide_eq_true hc; omega
  simp -implicitDefEqProofs only [go_sem,hw1,hw2,hwl,Int.toNat_natCast,hlt,hz,Bool.not_false,zfz,zh3 N k a hk2]
  intro C I L tm w hC hs
  have hs0:=(Fr.drew C I L _ w) _ tm hs
  have hlen:(repL N k a).length=N:=zh3 N k a hk2
  obtain ⟨g,cap,us,hL,hcap,husl,husv,hus1,husc,hone⟩:=zbdw hs0 (id:=30) (v:=0) (e:=3) (es:=repL N k a) (by simp -implicitDefEqProofs only [go_sem,hw1,hw2,hwl,Int.toNat_natCast,hlt,hz,Bool.not_false,zfz,zh3 N k a hk2]) (by omega)
  rw [hlen] at hL hcap husl
  refine anyTake (fuel:=9) 0 _ (.int .i64 k) rfl (by kernel_rfl) (by kernel_rfl) (by kernel_rfl) (fun _ _ _ h=>by cases h.2.1) rfl (by rw [hC]; show 38 < 48; decide) rfl hs0 (fun σ hσ w=>zkt rfl (AVR.of_val (show AVR I L (σ (.tmp 8)) (.p (.val (.int .i64 k))) from hσ (.tmp 8))).1 w) fun tm1 hs1=>?_
  refine anyTake (fuel:=8) 1 _ (.slice (some ⟨g,0,none⟩) N cap) rfl (by kernel_rfl) (by kernel_rfl) (by kernel_rfl) (fun _ _ _ h=>by cases h.2.1) rfl (by rw [hC]; show 39 < 48; decide) rfl hs1 (fun σ hσ w=>zkt rfl (AVR.row_of (show AVR I L (σ (.tmp 7)) (.row 30 0) from hσ (.tmp 7)) hL) w) fun tm2 hs2=>?_
  refine anyTake (fuel:=7) 2 _ (.int .i64 k) rfl (by kernel_rfl) (by kernel_rfl) (by kernel_rfl) (fun _ _ _ h=>by cases h.2.1) rfl (by rw [hC]; show 40 < 48; decide) rfl hs2 (fun σ hσ w=>zkt rfl (AVR.of_val (show AVR I L (σ (.tmp 8)) (.p (.val (.int .i64 k))) from hσ (.tmp 8))).1 w) fun tm3 hs3=>?_
  refine anyTake (fuel:=6) 3 _ (.slice (some ⟨g,k,none⟩) (N - k) (cap - k)) rfl (by kernel_rfl) (by kernel_rfl) (by kernel_rfl) (fun _ _ _ h=>by cases h.2.1) rfl (by rw [hC]; show 41 < 48; decide) rfl hs3 (fun σ hσ w=>zz6 (P:=Tryz.prog) (e:=3) rfl (by kernel_rfl) (by kernel_rfl) (AVR.of_val (show AVR I L (σ (.tmp 39)) (.p (.val (.slice (some ⟨g,0,none⟩) N cap))) from hσ (.tmp 39))).1 (AVR.of_val (show AVR I L (σ (.tmp 40)) (.p (.val (.int .i64 k))) from hσ (.tmp 40))).1 hk2 (by omega) w) fun tm4 hs4=>?_
  refine anyTake (fuel:=5) 4 _ (.slice (some ⟨g,0,none⟩) N cap) rfl (by kernel_rfl) (by kernel_rfl) (by kernel_rfl) (fun _ _ _ h=>by cases h.2.1) rfl (by rw [hC]; show 42 < 48; decide) rfl hs4 (fun σ hσ w=>zkt rfl (AVR.row_of (show AVR I L (σ (.tmp 7)) (.row 30 0) from hσ (.tmp 7)) hL) w) fun tm5 hs5=>?_
  refine anyTake (fuel:=4) 5 _ (.int .i64 k) rfl (by kernel_rfl) (by kernel_rfl) (by kernel_rfl) (fun _ _ _ h=>by cases h.2.1) rfl (by rw [hC]; show 43 < 48; decide) rfl hs5 (fun σ hσ w=>zkt rfl (AVR.of_val (show AVR I L (σ (.tmp 8)) (.p (.val (.int .i64 k))) from hσ (.tmp 8))).1 w) fun tm6 hs6=>?_
  refine anyTake (fuel:=3) 6 _ (.slice (some ⟨g,0,none⟩) k cap) rfl (by kernel_rfl) (by kernel_rfl) (by kernel_rfl) (fun _ _ _ h=>by cases h.2.1) rfl (by rw [hC]; show 44 < 48; decide) rfl hs6 (fun σ hσ w=>zyq (P:=Tryz.prog) (e:=3) rfl (by kernel_rfl) (by kernel_rfl) (AVR.of_val (show AVR I L (σ (.tmp 42)) (.p (.val (.slice (some ⟨g,0,none⟩) N cap))) from hσ (.tmp 42))).1 (AVR.of_val (show AVR I L (σ (.tmp 43)) (.p (.val (.int .i64 k))) from hσ (.tmp 43))).1 (by omega) w) fun tm7 hs7=>?_
  have hcl:(us.take (min k (N - k))).length=min k (N - k):=by rw [List.length_take,husl]; omega
  have hfl:(repL N k a).flatten=List.replicate k (PV.val (.int .i64 a))++List.replicate (N - k) (PV.val (.int .i64 0)):=by simp [repL,List.flatten_append]
  have hft:(repL N k a).flatten.take (min k (N - k))=List.replicate (min k (N - k)) (PV.val (.int .i64 a)):=by
   rw [hfl,List.take_append_of_le_length (by simp; omega),List.take_replicate]
   congr 1
   omega
  refine anyOne (fuel:=2) 7 _ rfl (by kernel_rfl) rfl (by rw [hC]; show 45 < 48; decide) hs7 (fun σ hσ=>zsh hs7 (.tmp 41) (.tmp 44) 34 34 rfl (id:=30) (v:=0) (e:=3) (es:=repL N k a) (by simp -implicitDefEqProofs only [go_sem,hw1,hw2,hwl,Int.toNat_natCast,hlt,hz,Bool.not_false,zfz,zh3 N k a hk2]) hL (by kernel_rfl) (by kernel_rfl) (AVR.of_val (show AVR I L (σ (.tmp 41)) (.p (.val (.slice (some ⟨g,k,none⟩) (N - k) (cap - k)))) from hσ (.tmp 41))).1 (AVR.of_val (show AVR I L (σ (.tmp 44)) (.p (.val (.slice (some ⟨g,0,none⟩) k cap))) from hσ (.tmp 44))).1 (us.take (min k (N - k))) (List.replicate (min k (N - k)) (PV.val (.int .i64 a))) ?_ ?_ ?_ ?_ ?_ ?_) ?_
  ·exact hcl
  ·rw [hcl,List.length_replicate]
  ·rw [hcl,hlen]; omega
  ·intro j u hj
   rw [List.getElem?_take] at hj
   split at hj
   ·rw [Addr.add_mid,Nat.zero_add]; exact husc j u hj
   ·cases hj
  ·intro u hu
   exact hus1 u (List.mem_of_mem_take hu)
  ·intro j u c hj hc
   rw [← hft] at hc
   rw [List.getElem?_take] at hj hc
   split at hj
   ·rename_i h; rw [if_pos h] at hc; exact husv j u c hj hc
   ·cases hj
  intro I8 L8 tm8 w8 _ hs8
  have hw3:IntKind.i64.wrap ((k:Int)+((min k (N - k):Nat):Int))=((k+min k (N - k):Nat):Int):=by rw [wrapI (by omega)]; omega
  refine anyOne (fuel:=1) 8 _ rfl (by kernel_rfl) rfl (by rw [hC]; show 46 < 48; decide) hs8 (fun σ hσ=>zjv (v:=.p (.val (.int .i64 ((k+min k (N - k):Nat):Int)))) (pre:=True) (by simp -implicitDefEqProofs only [go_sem,hcl,hw3,List.getElem_toArray,List.getElem_cons_succ,List.getElem_cons_zero,hw1,hw2,hwl,Int.toNat_natCast,hlt,hz,Bool.not_false,zfz,zh3 N k a hk2]; try rfl) trivial hs8 hσ) ?_
  intro I9 L9 tm9 w9 _ hs9
  refine anyOne (fuel:=0) 9 _ rfl (by kernel_rfl) rfl (by rw [hC]; show 8 < 48; decide) hs9 (fun σ hσ=>zjv (v:=.p (.val (.int .i64 ((k+min k (N - k):Nat):Int)))) (pre:=True) (by simp -implicitDefEqProofs only [go_sem,List.getElem_toArray,List.getElem_cons_succ,List.getElem_cons_zero,hw1,hw2,hwl,Int.toNat_natCast,hlt,hz,Bool.not_false,zfz,zh3 N k a hk2]; try rfl) trivial hs9 hσ) ?_
  intro I10 L10 tm10 w10 _ hs10
  refine wpAny_done (by kernel_rfl) ⟨rfl,rfl,_,_,_,_,?_,hs10⟩ 0
  have hsp:=z76 N k (min k (N - k)) a (by omega)
  simp only [splice,List.length_map,List.length_replicate,List.append_assoc] at hsp
  simp -implicitDefEqProofs only [go_sem,List.getElem_toArray,List.getElem_cons_succ,List.getElem_cons_zero,hsp,List.append_assoc,List.length_map,List.length_replicate,hw1,hw2,hwl,Int.toNat_natCast,hlt,hz,Bool.not_false,zfz,zh3 N k a hk2]
  exact zbx (k+min k (N - k)) ⟨by omega,by omega⟩ (by omega) (zbg (by repeat (first | exact zba _ | refine zbf ?_ (by first | rfl | simp [upd]))) (by repeat (first | exact hsub0 _ | refine z2 ?_ (by first | rfl | simp [hset]))) (by repeat (first | exact zbb _ | refine zbh ?_ (by simp [idsOk,idsOkL,hset]))) (by repeat (first | exact boxIds0 _ | refine zu ?_ | refine zp ?_ | refine zgs ?_ | refine zv ?_ (by simp [idsOk,idsOkL,hset]))) (by repeat (first | exact keep0 _ | refine z8 (by decide) ?_ | refine zz (by simp [hset]) ?_)))
 ·have hk3:k=N:=by have:=of_decide_eq_false hc; omega
  simp -implicitDefEqProofs only [go_sem,hw1,hw2,hwl,Int.toNat_natCast,hlt,hz,Bool.not_false,zfz,zh3 N k a hk2]
  refine ⟨by decide,_,.refl _,?_⟩
  rw [hk3]
  simp [repL,encI]
end Go.Proofs.YtimojjnmmlhijaaGreat
namespace Go.Proofs.YtimojjnmmlhijaaGreat
open Go.Abs

structure DInv (N B M:Nat) (s:List Int×List Int):Prop where
 len:s.1.length=N
 val:∀ x∈s.1,-1≤x∧x≤B
 que:∀ x∈s.2,0≤x∧x < (N:Int)
 many:s.2.length≤M
 set:∀ x∈s.2,0≤s.1.getD x.toNat 0
theorem zx2 {l:List Int} {i:Nat} {x a:Int} (h:a∈l.set i x):a∈l∨a=x:=by
 rcases List.mem_or_eq_of_mem_set h with h | h
 ·exact .inl h
 ·exact .inr h
theorem zwr {N B M : Nat} {s : List Int × List Int} {d : zbm} {q : Int} (h : DInv N (B + 1) M s) (hq : 0 ≤ q ∧ q < (N : Int)) (hqv : s.1.getD q.toNat 0 ≤ B) (hq0 : 0 ≤ s.1.getD q.toNat 0) (hd : 0 ≤ d.src ∧ d.src < (N : Int)) :
  DInv N (B+1) (M+1) (distStep q s d)∧(distStep q s d).1.getD q.toNat 0=s.1.getD q.toNat 0:=by
 unfold distStep
 split
 ·rename_i hc
  have hdl:d.src.toNat < s.1.length:=by rw [h.len]; omega
  have hset:∀ y:Int,0≤s.1.getD y.toNat 0→(s.1.set d.src.toNat (s.1.getD q.toNat 0+1)).getD y.toNat 0=s.1.getD y.toNat 0:=fun y hy=>by
   have hne:d.src.toNat≠y.toNat:=fun e=>by
    have:=hc.2
    rw [e] at this
    omega
   simp [List.getD_eq_getElem?_getD,List.getElem?_set,hne]
  refine ⟨⟨by simpa using h.len,fun x hx=>?_,fun x hx=>?_,by simp; exact h.many,fun x hx=>?_⟩,hset q hq0⟩
  ·rcases zx2 hx with hx | hx
   ·exact h.val x hx
   ·subst hx; omega
  ·rcases List.mem_append.1 hx with hx | hx
   ·exact h.que x hx
   ·simp at hx; subst hx; exact hd
  ·rcases List.mem_append.1 hx with hx | hx
   ·have:=h.set x hx
    simp only
    rw [hset x this]; exact this
   ·simp at hx; subst hx
    simp only [List.getD_eq_getElem?_getD,List.getElem?_set_self hdl,Option.getD_some]
    rw [← List.getD_eq_getElem?_getD]; omega
 ·exact ⟨⟨h.len,h.val,h.que,Nat.le_succ_of_le h.many,h.set⟩,rfl⟩
theorem z66 {N B : Nat} {q : Int} (hq : 0 ≤ q ∧ q < (N : Int)) (all : List zbm) (hall : ∀ d ∈ all, 0 ≤ d.src ∧ d.src < (N : Int)) : ∀ (s : List Int × List Int) (M : Nat), DInv N (B + 1) M s → s.1.getD q.toNat 0 ≤ B → 0 ≤ s.1.getD q.toNat 0 →
  DInv N (B+1) (M+all.length) (all.foldl (distStep q) s)∧(all.foldl (distStep q) s).1.getD q.toNat 0=s.1.getD q.toNat 0:=by
 induction all with
 | nil=>intro s M h _ _; exact ⟨h,rfl⟩
 | cons d all ih =>
  intro s M h h1 h2
  obtain ⟨k1,k2⟩:=zwr h hq h1 h2 (hall d List.mem_cons_self)
  obtain ⟨m1,m2⟩:=ih (fun x hx=>hall x (List.mem_cons_of_mem _ hx)) (distStep q s d) (M+1) k1 (by rw [k2]; exact h1) (by rw [k2]; exact h2)
  refine ⟨?_,by rw [List.foldl_cons,m2,k2]⟩
  rw [List.foldl_cons,List.length_cons,show M+(all.length+1)=M+1+all.length by omega]
  exact m1
theorem zyg (q:Int) (s:List Int×List Int) (d:zbm) (l:List Int) (h:∃ r,s.2=l++r):∃ r,(distStep q s d).2=l++r:=by
 obtain ⟨r,h⟩:=h
 unfold distStep
 split
 ·exact ⟨r++[d.src],by simp [h]⟩
 ·exact ⟨r,h⟩
theorem zbdj (q:Int) (l:List Int) (all:List zbm):∀ (s:List Int×List Int),(∃ r,s.2=l++r)→∃ r,(all.foldl (distStep q) s).2=l++r:=by
 induction all with
 | nil=>intro s h; exact h
 | cons d all ih=>intro s h; exact ih _ (zyg q s d l h)

theorem zyi (all:List zbm) (k:Nat) (out:List Int) (q:Int) (rest:List Int) (r:List Int) (h:distGo all k (out,q :: rest)=some r):∃ k',k=k'+1∧distGo all k' ((all.foldl (distStep q) (out,q :: rest)).1,(all.foldl (distStep q) (out,q :: rest)).2.drop 1)=some r:=by
 cases k with
 | zero=>cases h
 | succ k=>exact ⟨k,rfl,h⟩
theorem z17 (all:List zbm) (k:Nat) (out r:List Int) (h:distGo all k (out,[])=some r):out=r:=by
 cases k <;> (simp only [distGo,Option.some.injEq] at h; exact h)
theorem zuc (l:List Int) (i:Nat) (h:i < l.length):(l.map encI).getD i []=[PV.val (.int .i64 (l.getD i 0))]:=by
 rw [zg encI h]; rfl
theorem z4a {N B M:Nat} {s:List Int×List Int} (h:DInv N B M s):DInv N B M (s.1,s.2.drop 1) :=
 ⟨h.len,h.val,fun x hx=>h.que x (List.mem_of_mem_drop hx),by simp; have:=h.many; omega,fun x hx=>h.set x (List.mem_of_mem_drop hx)⟩
theorem zuj {N B B' M M':Nat} {s:List Int×List Int} (h:DInv N B M s) (hB:B≤B') (hM:M≤M'):DInv N B' M' s :=
 ⟨h.len,fun x hx=>by have:=h.val x hx; omega,h.que,by have:=h.many; omega,h.set⟩

set_option maxHeartbeats 4000000 in
theorem zoq (all:List zbm) (to n:Int) (r:List Int) (h:zfk all to n=some r):CallF Tryz.prog 60 [.lst (all.map zq),.val (.int .i64 to),.val (.int .i64 n)] (fun v=>v = .row 3 1 (r.map encI)):=by
 unfold zfk at h
 obtain ⟨_,hg,h⟩:=thn_s h
 obtain ⟨⟨h0,h1,h2,h3,h4⟩,_⟩:=giv_s hg
 obtain ⟨N,rfl⟩:∃ N:Nat,n=N:=⟨n.toNat,by omega⟩
 obtain ⟨q0,rfl⟩:∃ q0:Nat,to=q0:=⟨to.toNat,by omega⟩
 simp only [Int.toNat_natCast] at h
 refine zbl [18] Ty.mixed Tryz.func60 rfl (by kernel_rfl) (by simp [Tryz.ntmps60]) ?_; rw [Tryz.ntmps60,Tryz.results60]
 simp -implicitDefEqProofs only [go_sem]
 refine zo2 100 (zpk [-1] N (List.replicate N (-1)) (giv_t ⟨by omega,by omega,rfl⟩)) (by simp -implicitDefEqProofs only [go_sem] <;> rfl) (persF) (by simp -implicitDefEqProofs only [go_sem]) ?_
 have hq0:(List.map encI (List.replicate N (-1))).getD q0 []=[PV.val (.int .i64 (-1))]:=by rw [zuc _ _ (by simp; omega)]; simp [show q0 < N by omega]
 
 simp -implicitDefEqProofs only [go_sem,Int.toNat_natCast,List.length_map,List.length_replicate,hq0,zb4]
 refine ⟨by omega,by omega,?_⟩
 refine zbz (σ:=Nat×(List Int×List Int)×Nat) (fun x=>(upd (upd (upd env0 0 (.p (.lst (all.map zq)))) 7 (.row 100 0)) 8 (.row 18 x.2.2))) (fun x=>(hset (hset heap0 100 (.row 0 3 1 (x.2.1.1.map encI))) 18 (.tail x.2.2 3 1 (x.2.1.2.map encI))))
  (fun x=>distGo all x.1 x.2.1=some r∧DInv N (N+1 - x.1) ((N+2 - x.1) * 1000001) x.2.1∧x.1≤N+1) (fun x=>x.1) (N+1,((List.replicate N (-1)).set q0 0,[(q0:Int)]),0) ⟨h,?_,Nat.le_refl _⟩ (.trans (z5y 18 0 3 1 [[.val (.int .i64 q0)]] (by simp -implicitDefEqProofs only [go_sem,Int.toNat_natCast,List.length_map,List.length_replicate,hq0,zb4]) (by simp)) (zbg (by repeat (first | exact zba _ | refine zbf ?_ (by first | rfl | simp [upd]))) (by repeat (first | exact hsub0 _ | refine z2 ?_ (by first | rfl | simp [hset]))) (by repeat (first | exact zbb _ | refine zbh ?_ (by simp [idsOk,idsOkL,hset]))) (by repeat (first | exact boxIds0 _ | refine zu ?_ | refine zp ?_ | refine zgs ?_ | refine zv ?_ (by simp [idsOk,idsOkL,hset]))) (by repeat (first | exact keep0 _ | refine z8 (by decide) ?_ | refine zz (by simp [hset]) ?_)))) ?_
 ·refine ⟨by simp,fun x hx=>?_,fun x hx=>?_,by simp only [List.length_singleton]; omega,fun x hx=>?_⟩
  ·rcases zx2 hx with hx | hx
   ·have:=List.eq_of_mem_replicate hx; omega
   ·omega
  ·simp at hx; omega
  ·simp at hx; subst hx
   simp [show q0 < N by omega]
 rintro ⟨k,⟨out,q⟩,ver⟩ ⟨hk,hI,hkn⟩
 simp only at hk hI hkn
 simp -implicitDefEqProofs only [go_sem,Int.toNat_natCast,List.length_map,List.length_replicate,hq0,zb4]
 cases q with
 | nil =>
  have:=z17 all k out r hk
  subst this
  refine zb (fun hc=>?_) (fun hc=>?_)
  ·simp at hc
  simp -implicitDefEqProofs only [go_sem,Int.toNat_natCast,List.length_map,List.length_replicate,hq0,zb4]
  exact ⟨by decide,_,.refl _,rfl⟩
 | cons hd rest =>
  obtain ⟨k,rfl,hk'⟩:=zyi all k out hd rest r hk
  refine zb (fun hc=>?_) (fun hc=>?_)
  ·have hhd:=hI.que hd List.mem_cons_self
   have hst0:0≤out.getD hd.toNat 0:=hI.set hd List.mem_cons_self
   have hhl:hd.toNat < out.length:=by rw [hI.len]; omega
   have hval:out.getD hd.toNat 0≤((N - k:Nat):Int):=by
    have:=(hI.val _ (zdh (l:=out) hhl)).2
    have e:out.getD hd.toNat default=out.getD hd.toNat 0:=rfl
    rw [e] at this
    omega
   have hI':DInv N (N - k+1) ((N+1 - k) * 1000001) (out,hd :: rest):=zuj hI (by omega) (Nat.mul_le_mul_right _ (by omega))
   simp -implicitDefEqProofs only [go_sem,Int.toNat_natCast,List.length_map,List.length_replicate,hq0,zb4]
   refine zbz (σ:=Nat×(List Int×List Int)×Nat) (fun x=>(upd (upd (upd (upd (upd (upd env0 0 (.p (.lst (all.map zq)))) 7 (.row 100 0)) 8 (.row 18 x.2.2)) 24 (.p (.lst (all.map zq)))) 25 (.p (.val (.int .i64 all.length)))) 26 (.p (.val (.int .i64 x.1))))) (fun x=>(hset (hset heap0 100 (.row 0 3 1 (x.2.1.1.map encI))) 18 (.tail x.2.2 3 1 (x.2.1.2.map encI))))
    (fun x=>x.1≤all.length∧x.2.1=(all.take x.1).foldl (distStep hd) (out,hd :: rest)) (fun x=>all.length - x.1) (0,(out,hd :: rest),ver) ⟨Nat.zero_le _,rfl⟩ (zbg (by repeat (first | exact zba _ | refine zbf ?_ (by first | rfl | simp [upd]))) (by repeat (first | exact hsub0 _ | refine z2 ?_ (by first | rfl | simp [hset]))) (by repeat (first | exact zbb _ | refine zbh ?_ (by simp [idsOk,idsOkL,hset]))) (by repeat (first | exact boxIds0 _ | refine zu ?_ | refine zp ?_ | refine zgs ?_ | refine zv ?_ (by simp [idsOk,idsOkL,hset]))) (by repeat (first | exact keep0 _ | refine z8 (by decide) ?_ | refine zz (by simp [hset]) ?_))) ?_
   rintro ⟨i,s,v2⟩ ⟨hi,hs⟩
   simp only at hi hs
   obtain ⟨hIs,hvs⟩:=z66 (B:=N - k) hhd (all.take i) (fun d hd=>h4 d (List.mem_of_mem_take hd)) (out,hd :: rest) _ hI' hval hst0
   rw [← hs] at hIs hvs
   obtain ⟨r2,hr2⟩:=zbdj hd [hd] (all.take i) (out,hd :: rest) ⟨rest,rfl⟩
   rw [← hs] at hr2
   obtain ⟨o2,q2⟩:=s
   simp only at hr2 hvs
   subst hr2
   
   simp -implicitDefEqProofs only [go_sem,Int.toNat_natCast,List.length_map,List.length_replicate,hq0,zb4]
   refine zb (fun hc2=>?_) (fun hc2=>?_)
   ·have hi2:i < all.length:=by have:=of_decide_eq_true hc2; omega
    have hD:(all.map zq).getD i []=zq all[i]:=by simp [hi2]
    have hd4:=h4 all[i] (List.getElem_mem hi2)
    have hst:((all.take (i+1)).foldl (distStep hd) (out,hd :: rest))=distStep hd (o2,[hd]++r2) all[i]:=by
     rw [List.take_add_one,List.getElem?_eq_getElem hi2,Option.toList_some,List.foldl_append,← hs]; rfl
    have hol:o2.length=N:=hIs.len
    have hsl:all[i].src.toNat < o2.length:=by rw [hol]; omega
    have hh2:hd.toNat < o2.length:=by rw [hol]; omega
    have hO:(o2.map encI).getD all[i].src.toNat []=[PV.val (.int .i64 (o2.getD all[i].src.toNat 0))]:=zuc _ _ hsl
    have hH:(o2.map encI).getD hd.toNat []=[PV.val (.int .i64 (o2.getD hd.toNat 0))]:=zuc _ _ hh2
    have hQ:∀ x:Int,(encI x :: List.map encI r2).getD 0 []=[PV.val (.int .i64 x)]:=fun _=>rfl
    have hw:IntKind.i64.wrap (o2.getD hd.toNat 0+1)=o2.getD hd.toNat 0+1:=wrapI (by rw [hvs]; omega)
    have hwi:=zk hi2 (show all.length≤4611686018427387904 by omega)
    have hql:=hIs.many
    have hN1:(N+1 - k) * 1000001≤1002 * 1000001:=Nat.mul_le_mul_right _ (by omega)
    have htl:(all.take i).length≤all.length:=by simp; omega
    generalize hdd:all[i]=d at *
    obtain ⟨d0,d1,d2,d3⟩:=d
    simp only at hd4 hsl hO
    
    simp -implicitDefEqProofs only [go_sem,Int.toNat_natCast,List.length_map,List.length_replicate,hq0,zb4,hD,hO,hH,hQ,zq,hw,hwi,List.length_append,List.length_singleton]
    refine ⟨hi2,?_⟩
    by_cases c1:d2=hd
    ·subst c1
     by_cases c2:o2.getD d1.toNat 0 < 0
     ·
      refine zbd [.q,.q,.q,.q,.q,.q,.q,.q,.q,.q,.q,.q,.q,.q] (by kernel_rfl) ?_
      simp -implicitDefEqProofs only [go_sem,Int.toNat_natCast,List.length_map,List.length_replicate,hq0,zb4,hD,hO,hH,hQ,zq,hw,hwi,List.length_append,List.length_singleton,c2,decide_true,and_self,and_true,true_and,eq_self]
      refine ⟨⟨Int.le_refl _,by omega⟩,⟨hd4.1,by omega⟩,hsl,?_⟩
      refine zbd [.q,.q,.q,.q,.q,.q,.q,.q,.q,.q,.q,.w] (by kernel_rfl) ?_
      simp -implicitDefEqProofs only [go_sem,Int.toNat_natCast,List.length_map,List.length_replicate,hq0,zb4,hD,hO,hH,hQ,zq,hw,hwi,List.length_append,List.length_singleton,c2,decide_true,and_self,and_true,true_and,eq_self]
      refine ⟨⟨Int.le_refl _,by omega⟩,⟨by omega,by omega⟩,hh2,⟨hd4.1,by omega⟩,hsl,?_⟩
      refine z87 34 34 (.tmp 55) (.tmp 58) 18 v2 3 1 8 (encI d2 :: List.map encI r2) [[.val (.int .i64 d1)]] rfl Ty.app34 (by simp -implicitDefEqProofs only [go_sem,Int.toNat_natCast,List.length_map,List.length_replicate,hq0,zb4,hD,hO,hH,hQ,zq,hw,hwi,List.length_append,List.length_singleton,c2,decide_true,and_self,and_true,true_and,eq_self]) (by simp -implicitDefEqProofs only [go_sem,Int.toNat_natCast,List.length_map,List.length_replicate,hq0,zb4,hD,hO,hH,hQ,zq,hw,hwi,List.length_append,List.length_singleton,c2,decide_true,and_self,and_true,true_and,eq_self]) (by simp -implicitDefEqProofs only [go_sem,Int.toNat_natCast,List.length_map,List.length_replicate,hq0,zb4,hD,hO,hH,hQ,zq,hw,hwi,List.length_append,List.length_singleton,c2,decide_true,and_self,and_true,true_and,eq_self]) (by simp) (by intro x hx; simp at hx; subst hx; rfl) (by simp at hql ⊢; omega) ?_
      simp -implicitDefEqProofs only [go_sem,Int.toNat_natCast,List.length_map,List.length_replicate,hq0,zb4,hD,hO,hH,hQ,zq,hw,hwi,List.length_append,List.length_singleton,c2,decide_true,and_self,and_true,true_and,eq_self]
      have hm:List.map encI r2++[[PV.val (.int .i64 d1)]]=List.map encI (r2++[d1]):=by rw [List.map_append]; rfl
      rw [hm]
      exact zbx (i+1,(o2.set d1.toNat (o2.getD d2.toNat 0+1),d2 :: (r2++[d1])),v2+1) ⟨by simp only; omega,by simp only [hst]; unfold distStep; rw [if_pos ⟨rfl,c2⟩]; rfl⟩ (by simp only; omega) (zbg (by repeat (first | exact zba _ | refine zbf ?_ (by first | rfl | simp [upd]))) (by repeat (first | exact hsub0 _ | refine z2 ?_ (by first | rfl | simp [hset]))) (by repeat (first | exact zbb _ | refine zbh ?_ (by simp [idsOk,idsOkL,hset]))) (by repeat (first | exact boxIds0 _ | refine zu ?_ | refine zp ?_ | refine zgs ?_ | refine zv ?_ (by simp [idsOk,idsOkL,hset]))) (by repeat (first | exact keep0 _ | refine z8 (by decide) ?_ | refine zz (by simp [hset]) ?_)))
     ·have c2':decide (o2.getD d1.toNat 0 < 0)=false:=decide_eq_false c2
      
      refine zbd [.q,.q,.q,.q,.q,.q,.q,.q,.q,.q,.q,.q,.q,.q] (by kernel_rfl) ?_
      simp -implicitDefEqProofs only [go_sem,Int.toNat_natCast,List.length_map,List.length_replicate,hq0,zb4,hD,hO,hH,hQ,zq,hw,hwi,List.length_append,List.length_singleton,c2,decide_true,and_self,and_true,true_and,eq_self,c2']
      refine ⟨⟨Int.le_refl _,by omega⟩,⟨hd4.1,by omega⟩,hsl,?_⟩
      exact zbx (i+1,(o2,d2 :: r2),v2) ⟨by simp only; omega,by simp only [hst]; unfold distStep; rw [if_neg (by simp only; omega)]; rfl⟩ (by simp only; omega) (zbg (by repeat (first | exact zba _ | refine zbf ?_ (by first | rfl | simp [upd]))) (by repeat (first | exact hsub0 _ | refine z2 ?_ (by first | rfl | simp [hset]))) (by repeat (first | exact zbb _ | refine zbh ?_ (by simp [idsOk,idsOkL,hset]))) (by repeat (first | exact boxIds0 _ | refine zu ?_ | refine zp ?_ | refine zgs ?_ | refine zv ?_ (by simp [idsOk,idsOkL,hset]))) (by repeat (first | exact keep0 _ | refine z8 (by decide) ?_ | refine zz (by simp [hset]) ?_)))
    ·have c1':decide (d2=hd)=false:=decide_eq_false c1
     
     refine zbd [.q,.q,.q,.q,.q,.q,.q,.q,.q,.q,.q,.q,.q,.q] (by kernel_rfl) ?_
     simp -implicitDefEqProofs only [go_sem,Int.toNat_natCast,List.length_map,List.length_replicate,hq0,zb4,hD,hO,hH,hQ,zq,hw,hwi,List.length_append,List.length_singleton,c1']
     refine ⟨⟨Int.le_refl _,by omega⟩,?_⟩
     exact zbx (i+1,(o2,hd :: r2),v2) ⟨by simp only; omega,by simp only [hst]; unfold distStep; rw [if_neg (by simp only; omega)]; rfl⟩ (by simp only; omega) (zbg (by repeat (first | exact zba _ | refine zbf ?_ (by first | rfl | simp [upd]))) (by repeat (first | exact hsub0 _ | refine z2 ?_ (by first | rfl | simp [hset]))) (by repeat (first | exact zbb _ | refine zbh ?_ (by simp [idsOk,idsOkL,hset]))) (by repeat (first | exact boxIds0 _ | refine zu ?_ | refine zp ?_ | refine zgs ?_ | refine zv ?_ (by simp [idsOk,idsOkL,hset]))) (by repeat (first | exact keep0 _ | refine z8 (by decide) ?_ | refine zz (by simp [hset]) ?_)))
   ·have hi2:i=all.length:=by have:=of_decide_eq_false hc2; omega
    subst hi2
    rw [List.take_length] at hs
    simp -implicitDefEqProofs only [go_sem,Int.toNat_natCast,List.length_map,List.length_replicate,hq0,zb4]
    refine z26 34 (.tmp 22) (.const (.int .i64 1)) 18 v2 3 1 (encI hd :: List.map encI r2) .i64 1 rfl (by kernel_rfl) (by kernel_rfl) (by simp -implicitDefEqProofs only [go_sem,Int.toNat_natCast,List.length_map,List.length_replicate,hq0,zb4]) rfl (by simp -implicitDefEqProofs only [go_sem,Int.toNat_natCast,List.length_map,List.length_replicate,hq0,zb4]) ⟨by omega,by simp⟩ ?_
    simp -implicitDefEqProofs only [go_sem,Int.toNat_natCast,List.length_map,List.length_replicate,hq0,zb4]
    rw [← hs] at hk'
    simp only [List.singleton_append,List.drop_succ_cons,List.drop_zero] at hk'
    have hD2:=z4a hIs
    simp only [List.singleton_append,List.drop_succ_cons,List.drop_zero] at hD2
    refine zbx (k,(o2,r2),v2+1) ⟨hk',zuj hD2 (by simp only; omega) ?_,by simp only; omega⟩ (by simp only; omega) (zbg (by repeat (first | exact zba _ | refine zbf ?_ (by first | rfl | simp [upd]))) (by repeat (first | exact hsub0 _ | refine z2 ?_ (by first | rfl | simp [hset]))) (by repeat (first | exact zbb _ | refine zbh ?_ (by simp [idsOk,idsOkL,hset]))) (by repeat (first | exact boxIds0 _ | refine zu ?_ | refine zp ?_ | refine zgs ?_ | refine zv ?_ (by simp [idsOk,idsOkL,hset]))) (by repeat (first | exact keep0 _ | refine z8 (by decide) ?_ | refine zz (by simp [hset]) ?_)))
    simp only [List.take_length]
    rw [show N+2 - k=N+1 - k+1 by omega,Nat.add_mul]
    omega
  ·simp at hc
end Go.Proofs.YtimojjnmmlhijaaGreat
set_option maxRecDepth 20000
namespace Go.Proofs.YtimojjnmmlhijaaGreat
open Go.Abs



end Go.Proofs.YtimojjnmmlhijaaGreat
set_option maxRecDepth 20000
namespace Go.Proofs.YtimojjnmmlhijaaGreat
open Go.Abs

attribute [go_sem] List.cons_append List.nil_append encAttr encEdge encEdgeT encI encInts encNode encRow encS encStrs zg9 zq zc7 zbq z6 zbk zbv zy enc_b

noncomputable section
def zd2  : Option Types :=
 some (⟨[(⟨(⟨#[65,99,99,111,117,110,116]⟩:ByteArray),(-1),true,[(⟨(⟨#[98,97,108,97,110,99,101]⟩:ByteArray),(-1000),1000,([]:List ByteArray)⟩:Attr)]⟩:NodeT),(⟨(⟨#[67,97,115,104]⟩:ByteArray),0,false,([]:List Attr)⟩:NodeT),(⟨(⟨#[76,111,97,110]⟩:ByteArray),0,false,[(⟨(⟨#[115,116,97,116,101]⟩:ByteArray),0,1,[(⟨#[111,112,101,110]⟩:ByteArray),(⟨#[99,108,111,115,101,100]⟩:ByteArray)]⟩:Attr)]⟩:NodeT),(⟨(⟨#[80,101,114,115,111,110]⟩:ByteArray),(-1),false,([]:List Attr)⟩:NodeT)],[(⟨(⟨#[111,119,110,115]⟩:ByteArray),3,0,0,(-1),1,1⟩:EdgeT),(⟨(⟨#[112,97,121,115]⟩:ByteArray),1,1,0,(-1),0,(-1)⟩:EdgeT)]⟩:Types)

def zb2 (a0:Int):Option zm :=
 cond (decide (a0=0)) (
  some (⟨(⟨#[112,97,121,115]⟩:ByteArray),(⟨(⟨[1,1],[(⟨1,0,1⟩:Edge)]⟩:Graph),([]:List zbs),0,([]:List zcq)⟩:zx),(⟨(⟨[1,1],([]:List Edge)⟩:Graph),([]:List zbs),0,([]:List zcq)⟩:zx),(⟨[0,1],([]:List Int)⟩:zcr),(⟨[0,1],([]:List Int)⟩:zbo),false,(⟨1,([]:List zi),(⟨([]:List Int),([]:List Int)⟩:zbo),(⟨(⟨([]:List Int),([]:List Edge)⟩:Graph),([]:List zbs),0,([]:List zcq)⟩:zx)⟩:zi)⟩:zm)) <|
 cond (decide (a0=1)) (
  some (⟨(⟨#[112,97,121,115]⟩:ByteArray),(⟨(⟨[1,1],[(⟨1,0,1⟩:Edge)]⟩:Graph),([]:List zbs),0,([]:List zcq)⟩:zx),(⟨(⟨[1,2],([]:List Edge)⟩:Graph),([]:List zbs),0,([]:List zcq)⟩:zx),(⟨[0],([]:List Int)⟩:zcr),(⟨[0],([]:List Int)⟩:zbo),false,(⟨1,([]:List zi),(⟨([]:List Int),([]:List Int)⟩:zbo),(⟨(⟨([]:List Int),([]:List Edge)⟩:Graph),([]:List zbs),0,([]:List zcq)⟩:zx)⟩:zi)⟩:zm)) <|
 cond (decide (a0=2)) (
  some (⟨(⟨#[112,97,121,115]⟩:ByteArray),(⟨(⟨[1,1],[(⟨1,0,1⟩:Edge)]⟩:Graph),([]:List zbs),0,([]:List zcq)⟩:zx),(⟨(⟨[1,1],[(⟨1,0,1⟩:Edge)]⟩:Graph),([]:List zbs),0,([]:List zcq)⟩:zx),(⟨[0,1],([]:List Int)⟩:zcr),(⟨[0,1],([]:List Int)⟩:zbo),false,(⟨1,([]:List zi),(⟨([]:List Int),([]:List Int)⟩:zbo),(⟨(⟨([]:List Int),([]:List Edge)⟩:Graph),([]:List zbs),0,([]:List zcq)⟩:zx)⟩:zi)⟩:zm)) <|
 some (⟨(⟨#[112,97,121,115]⟩:ByteArray),(⟨(⟨[1,1],[(⟨1,0,1⟩:Edge)]⟩:Graph),([]:List zbs),0,([]:List zcq)⟩:zx),(⟨(⟨([]:List Int),([]:List Edge)⟩:Graph),([]:List zbs),0,([]:List zcq)⟩:zx),(⟨([]:List Int),([]:List Int)⟩:zcr),(⟨([]:List Int),([]:List Int)⟩:zbo),false,(⟨1,([]:List zi),(⟨([]:List Int),([]:List Int)⟩:zbo),(⟨(⟨([]:List Int),([]:List Edge)⟩:Graph),([]:List zbs),0,([]:List zcq)⟩:zx)⟩:zi)⟩:zm)

def zev (a0:List Int) (p1:Int→Option Bool):Option Int :=
 chk (a0.length≤fuel) <|
 forN (fun i45 (s45:Unit) nxts45 brks45 =>
  thn (a0[i45]?) fun e49 =>
  thn (p1 e49) fun r50 =>
  cond r50 (
   some ((i45:Nat):Int)) <|
  nxts45 ())
 (a0.length - 0) 0 () fun s45 =>
 some (-1)

def zby (a0:List Int) (p1:Int→Option Bool):Option Bool :=
 thn (zev a0 p1) fun r52 =>
 some (decide (0≤r52))

def zfx (a0:Int) (a1:Types):Option Bool :=
 some (decide (((a1.nodes.length:Nat):Int)≤a0))

def zek (a0:List Edge) (p1:Edge→Option Bool):Option Int :=
 chk (a0.length≤fuel) <|
 forN (fun i61 (s61:Unit) nxts61 brks61 =>
  thn (a0[i61]?) fun e65 =>
  thn (p1 e65) fun r66 =>
  cond r66 (
   some ((i61:Nat):Int)) <|
  nxts61 ())
 (a0.length - 0) 0 () fun s61 =>
 some (-1)

def zc4 (a0:List Edge) (p1:Edge→Option Bool):Option Bool :=
 thn (zek a0 p1) fun r68 =>
 some (decide (0≤r68))

def zfw (a0:Edge) (a1:Types):Option Bool :=
 some (decide (((a1.edges.length:Nat):Int)≤a0.type))

def zda (a0:Int) (a1:Int) (a2:Int):Option Bool :=
 cond (decide (a1≤a0)) (
  some (decide (a0≤a2))) <|
 some false

def zgw (a0:Types) (a1:zx) (a2:zbs):Option (Attr×Bool) :=
 thn (zda a2.node 0 (IntKind.i64.wrap (((a1.graph.nodes.length:Nat):Int) - 1))) fun r97 =>
 cond r97 (
  thn (atZ a1.graph.nodes a2.node) fun e99 =>
  thn (zjk a0 e99) fun r100 =>
  thn (zda a2.attr 0 (IntKind.i64.wrap (((r100.1.length:Nat):Int) - 1))) fun r101 =>
  cond r101 (
   thn (atZ r100.1 a2.attr) fun e103 =>
   some (e103,true)) <|
  some ((⟨(⟨#[]⟩:ByteArray),0,0,([]:List ByteArray)⟩:Attr),false)) <|
 some ((⟨(⟨#[]⟩:ByteArray),0,0,([]:List ByteArray)⟩:Attr),false)

def zdz (a0:Int) (a1:zic):Option Bool :=
 cond (decide ((-1)≤a1.var)) (
  cond (decide (a1.var < a0)) (
   cond (decide ((-1000000)≤a1.add)) (
    some (decide (a1.add≤1000000))) <|
   some false) <|
  some false) <|
 some false

def zgx (a0:Int) (a1:zcq):Option Int :=
 cond (decide (a1.kind=1)) (
  thn (zdz a0 a1.left) fun r144 =>
  cond r144 (
   thn (zdz a0 a1.right) fun r146 =>
   cond r146 (
    some 0) <|
   some 6) <|
  some 6) <|
 cond (decide (a1.kind=2)) (
  thn (zdz a0 a1.left) fun r149 =>
  cond r149 (
   thn (zdz a0 a1.right) fun r151 =>
   cond r151 (
    some 0) <|
   some 6) <|
  some 6) <|
 some 1

def zgc (a0:Int) (a1:List zcq):Option Int :=
 cond (decide (a0 < 0)) (
  some 6) <|
 cond (decide (12 < a0)) (
  some 6) <|
 cond (decide (40 < ((a1.length:Nat):Int))) (
  some 3) <|
 chk (a1.length≤fuel) <|
 forN (fun i155 (s155:Unit) nxts155 brks155 =>
  thn (a1[i155]?) fun e159 =>
  thn (zgx a0 e159) fun r160 =>
  cond (decide (r160=0)) (
   nxts155 ()) <|
  some r160)
 (a1.length - 0) 0 () fun s155 =>
 some 0

def zg0 (a0:List Bool) (a1:Bool):Option Int :=
 chk (a0.length≤fuel) <|
 forN (fun i168 (s168:Unit) nxts168 brks168 =>
  thn (a0[i168]?) fun e171 =>
  cond (a1 == e171) (
   some ((i168:Nat):Int)) <|
  nxts168 ())
 (a0.length - 0) 0 () fun s168 =>
 some (-1)

def zew (a0:List Bool) (a1:Bool):Option Bool :=
 thn (zg0 a0 a1) fun r173 =>
 some (decide (0≤r173))

def zer (a0:Types) (a1:zx):Option Int :=
 thn (zib a0) fun r77 =>
 cond (decide (r77.2=0)) (
  thn (zdv a1.graph) fun r79 =>
  cond (decide (r79=0)) (
   thn (zby a1.graph.nodes (fun x82=>zfx x82 a0)) fun r81 =>
   cond r81 (
    some 13) <|
   thn (zc4 a1.graph.edges (fun x85=>zfw x85 a0)) fun r84 =>
   cond r84 (
    some 13) <|
   thn (zda a1.vars 0 12) fun r87 =>
   cond r87 (
    cond (decide (10 < ((a1.slots.length:Nat):Int))) (
     some 3) <|
    cond (decide (10 < ((a1.tests.length:Nat):Int))) (
     some 3) <|
    chk (0≤a1.vars∧a1.vars≤68719476736) <|
    chk (a1.slots.length≤fuel) <|
    forN (fun i113 (s113:(List Bool)) nxts113 brks113 =>
     thn (a1.slots[i113]?) fun e124 =>
     thn (zgw a0 a1 e124) fun r125 =>
     cond r125.2 (
      thn (zda e124.term.var (-1) (IntKind.i64.wrap (a1.vars - 1))) fun r127 =>
      cond r127 (
       thn (zda e124.term.add (-1000000) 1000000) fun r129 =>
       cond r129 (
        cond (decide (0≤e124.term.var)) (
         thn (atZ s113 e124.term.var) fun e132 =>
         nxts113 (s113.set e124.term.var.toNat true)) <|
        nxts113 s113) <|
       some 6) <|
      some 6) <|
     some 6)
    (a1.slots.length - 0) 0 (List.replicate a1.vars.toNat false) fun s113 =>
    thn (zgc a1.vars a1.tests) fun r162 =>
    cond (decide (r162=0)) (
     thn (zew s113 false) fun r174 =>
     cond r174 (
      some 9) <|
     some 0) <|
    some r162) <|
   some 6) <|
  some r79) <|
 some r77.2

def zhl (a0:Int) (a1:Types):Option Bool :=
 some (decide (((a1.nodes.length:Nat):Int)≤a0))

def zhk (a0:Edge) (a1:Types):Option Bool :=
 some (decide (((a1.edges.length:Nat):Int)≤a0.type))

def zi3 (a0:Types) (a1:Graph):Option Bool :=
 thn (zby a1.nodes (fun x181=>zhl x181 (⟨a0.nodes,a0.edges⟩:Types))) fun r180 =>
 cond r180 (
  some false) <|
 thn (zc4 a1.edges (fun x184=>zhk x184 (⟨a0.nodes,a0.edges⟩:Types))) fun r183 =>
 some (!r183)

def zeo (a0:List zbs) (p1:zbs→Option Bool):Option Int :=
 chk (a0.length≤fuel) <|
 forN (fun i209 (s209:Unit) nxts209 brks209 =>
  thn (a0[i209]?) fun e213 =>
  thn (p1 e213) fun r214 =>
  cond r214 (
   some ((i209:Nat):Int)) <|
  nxts209 ())
 (a0.length - 0) 0 () fun s209 =>
 some (-1)

def zci (a0:List zbs) (p1:zbs→Option Bool):Option Bool :=
 thn (zeo a0 p1) fun r216 =>
 some (decide (0≤r216))

def zg4 (a0:zbs) (a1:zbs):Option Bool :=
 cond (decide (a0.node=a1.node)) (
  some (decide (a0.attr=a1.attr))) <|
 some false

def zjg (a0:Types) (a1:zm) (a2:Int):Option Int :=
 thn (atZ a1.right.slots a2) fun e192 =>
 cond (decide (e192.node < 0)) (
  some 6) <|
 cond (decide (((a1.right.graph.nodes.length:Nat):Int)≤e192.node)) (
  some 6) <|
 thn (atZ a1.right.graph.nodes e192.node) fun e195 =>
 thn (zjk a0 e195) fun r196 =>
 cond (decide (e192.attr < 0)) (
  some 6) <|
 cond (decide (((r196.1.length:Nat):Int)≤e192.attr)) (
  some 6) <|
 cond (decide (e192.term.var < (-1))) (
  some 6) <|
 cond (decide (a1.right.vars≤e192.term.var)) (
  some 6) <|
 cond (decide (e192.term.add < (-1000000))) (
  some 6) <|
 cond (decide (1000000 < e192.term.add)) (
  some 6) <|
 chk ((0:Int)≤0∧0≤a2∧a2≤(a1.right.slots.length:Int)) <|
 thn (zci (a1.right.slots.take a2.toNat) (fun x219=>zg4 x219 e192)) fun r217 =>
 cond r217 (
  some 5) <|
 some 0

def zix (a0:Types) (a1:zm):Option Int :=
 thn (zdv a1.right.graph) fun r178 =>
 cond (decide (r178=0)) (
  thn (zi3 (⟨a0.nodes,a0.edges⟩:Types) a1.right.graph) fun r185 =>
  cond r185 (
   cond (decide (a1.right.vars=a1.left.vars)) (
    cond (decide (0 < ((a1.right.tests.length:Nat):Int))) (
     some 1) <|
    cond (decide (10 < ((a1.right.slots.length:Nat):Int))) (
     some 3) <|
    chk (a1.right.slots.length≤fuel) <|
    forN (fun i223 (s223:Unit) nxts223 brks223 =>
     thn (zjg (⟨a0.nodes,a0.edges⟩:Types) (⟨a1.name,a1.left,a1.right,a1.keep,a1.into,a1.injective,a1.condition⟩:zm) ((i223:Nat):Int)) fun r226 =>
     cond (decide (r226=0)) (
      nxts223 ()) <|
     some r226)
    (a1.right.slots.length - 0) 0 () fun s223 =>
    some 0) <|
   some 1) <|
  some 13) <|
 some r178

def zgg (a0:List Int) (a1:Int):Option Int :=
 chk (a0.length≤fuel) <|
 forN (fun i240 (s240:Unit) nxts240 brks240 =>
  thn (a0[i240]?) fun e247 =>
  cond (decide (e247 < 0)) (
   some 6) <|
  cond (decide (a1≤e247)) (
   some 6) <|
  cond (decide (0 < ((i240:Nat):Int))) (
   thn (atZ a0 (IntKind.i64.wrap (((i240:Nat):Int) - 1))) fun e251 =>
   cond (decide (e247≤e251)) (
    some 12) <|
   nxts240 ()) <|
  nxts240 ())
 (a0.length - 0) 0 () fun s240 =>
 some 0

def zgh (a0:Int):Option Bool :=
 some (!(decide (a0=a0)))

def zho (a0:Int) (a1:Int):Option Bool :=
 thn (zgh a0) fun r266 =>
 cond r266 (
  thn (zgh a1) fun r268 =>
  cond r268 (
   some (decide (a0 < a1))) <|
  some true) <|
 some (decide (a0 < a1))

def ze6 (a0:Int):Option Bool :=
 some (!(decide (a0=a0)))

def zcn (a0:List Int) (a1:Int):Option (Int×Bool) :=
 iter (fun (s272:Int×Int) nxts272 brks272 =>
  cond (decide (s272.1 < s272.2)) (
   thn (atZ a0 (IntKind.i64.wrap ((IntKind.u64.wrap (IntKind.i64.wrap (s272.1+s272.2))).fdiv (2 ^ 1)))) fun e282 =>
   thn (zho e282 a1) fun r283 =>
   cond r283 (
    nxts272 ((IntKind.i64.wrap ((IntKind.i64.wrap ((IntKind.u64.wrap (IntKind.i64.wrap (s272.1+s272.2))).fdiv (2 ^ 1)))+1)),s272.2)) <|
   nxts272 (s272.1,(IntKind.i64.wrap ((IntKind.u64.wrap (IntKind.i64.wrap (s272.1+s272.2))).fdiv (2 ^ 1))))) <|
  brks272 (s272.1,s272.2))
 fuel (0,((a0.length:Nat):Int)) fun s272 =>
 cond (decide (s272.1 < ((a0.length:Nat):Int))) (
  thn (atZ a0 s272.1) fun e292 =>
  cond (decide (e292=a1)) (
   some (s272.1,true)) <|
  thn (ze6 e292) fun r294 =>
  cond r294 (
   thn (ze6 a1) fun r296 =>
   some (s272.1,r296)) <|
  some (s272.1,false)) <|
 some (s272.1,false)

def zff (a0:List Int) (a1:Int):Option Bool :=
 thn (zcn a0 a1) fun r297 =>
 some r297.2

def zg7 (a0:Graph) (a1:zcr):Option Int :=
 thn (zgg a1.nodes ((a0.nodes.length:Nat):Int)) fun r253 =>
 cond (decide (r253=0)) (
  thn (zgg a1.edges ((a0.edges.length:Nat):Int)) fun r255 =>
  cond (decide (r255=0)) (
   chk (a1.edges.length≤fuel) <|
   forN (fun i302 (s302:Unit) nxts302 brks302 =>
    thn (a1.edges[i302]?) fun e309 =>
    thn (atZ a0.edges e309) fun e310 =>
    thn (zff a1.nodes e310.src) fun r311 =>
    cond r311 (
     thn (zff a1.nodes e310.dst) fun r313 =>
     cond r313 (
      nxts302 ()) <|
     some 14) <|
    some 14)
   (a1.edges.length - 0) 0 () fun s302 =>
   some 0) <|
  some r255) <|
 some r253

def zf3 (a0:Graph) (a1:zcr):Option Int :=
 thn (zdv a0) fun r230 =>
 cond (decide (r230=0)) (
  thn (zg7 (⟨a0.nodes,a0.edges⟩:Graph) (⟨a1.nodes,a1.edges⟩:zcr)) fun r315 =>
  some r315) <|
 some r230

def zed (a0:Graph) (a1:zcr):Option (Graph×zbo×Int) :=
 thn (zf3 a0 a1) fun r488 =>
 cond (decide (r488=0)) (
  chk (a1.nodes.length≤fuel) <|
  forN (fun i500 (s500:(List Int)) nxts500 brks500 =>
   thn (a1.nodes[i500]?) fun e510 =>
   thn (atZ a0.nodes e510) fun e515 =>
   chk (s500.length+1≤68719476736) <|
   nxts500 (s500++[e515]))
  (a1.nodes.length - 0) 0 ([]:List Int) fun s500 =>
  chk (a1.edges.length≤fuel) <|
  forN (fun i528 (s528:(List Edge)) nxts528 brks528 =>
   thn (a1.edges[i528]?) fun e536 =>
   thn (atZ a0.edges e536) fun e537 =>
   thn (zcn a1.nodes e537.src) fun r538 =>
   thn (zcn a1.nodes e537.dst) fun r539 =>
   chk (s528.length+1≤68719476736) <|
   nxts528 (s528++[(⟨e537.type,r538.1,r539.1⟩:Edge)]))
  (a1.edges.length - 0) 0 ([]:List Edge) fun s528 =>
  thn (zgb a1.nodes) fun r543 =>
  thn (zgb a1.edges) fun r544 =>
  some ((⟨s500,s528⟩:Graph),(⟨r543,r544⟩:zbo),0)) <|
 some ((⟨([]:List Int),([]:List Edge)⟩:Graph),(⟨([]:List Int),([]:List Int)⟩:zbo),r488)

def ze3 (a0:Graph) (a1:Graph) (a2:zbo):Option Int :=
 thn (zdv a0) fun r547 =>
 cond (decide (r547=0)) (
  thn (zdv a1) fun r549 =>
  cond (decide (r549=0)) (
   cond (decide (((a2.nodes.length:Nat):Int)=((a0.nodes.length:Nat):Int))) (
    cond (decide (((a2.edges.length:Nat):Int)=((a0.edges.length:Nat):Int))) (
     chk (a2.nodes.length≤fuel) <|
     forN (fun i561 (s561:Unit) nxts561 brks561 =>
      thn (a2.nodes[i561]?) fun e568 =>
      cond (decide (e568 < 0)) (
       some 6) <|
      cond (decide (((a1.nodes.length:Nat):Int)≤e568)) (
       some 6) <|
      thn (atZ a1.nodes e568) fun e571 =>
      thn (a0.nodes[i561]?) fun e572 =>
      cond (decide (e571=e572)) (
       nxts561 ()) <|
      some 13)
     (a2.nodes.length - 0) 0 () fun s561 =>
     chk (a2.edges.length≤fuel) <|
     forN (fun i586 (s586:Unit) nxts586 brks586 =>
      thn (a2.edges[i586]?) fun e597 =>
      cond (decide (e597 < 0)) (
       some 6) <|
      cond (decide (((a1.edges.length:Nat):Int)≤e597)) (
       some 6) <|
      thn (a0.edges[i586]?) fun e600 =>
      thn (atZ a1.edges e597) fun e601 =>
      cond (decide (e600.type=e601.type)) (
       thn (atZ a2.nodes e600.src) fun e603 =>
       cond (decide (e603=e601.src)) (
        thn (atZ a2.nodes e600.dst) fun e605 =>
        cond (decide (e605=e601.dst)) (
         nxts586 ()) <|
        some 11) <|
       some 11) <|
      some 13)
     (a2.edges.length - 0) 0 () fun s586 =>
     some 0) <|
    some 20) <|
   some 20) <|
  some r549) <|
 some r547

def zfq (a0:List Int):Option Int :=
 thn (zgb a0) fun r611 =>
 thn (zgj r611) fun r612 =>
 thn (zfn r612) fun r613 =>
 some ((r613.length:Nat):Int)

def zeg (a0:Graph) (a1:Graph) (a2:zbo):Option Bool :=
 thn (ze3 a0 a1 a2) fun r609 =>
 cond (decide (r609=0)) (
  thn (zfq a2.nodes) fun r614 =>
  cond (decide (r614=((a2.nodes.length:Nat):Int))) (
   thn (zfq a2.edges) fun r616 =>
   some (decide (r616=((a2.edges.length:Nat):Int)))) <|
  some false) <|
 some false

def zii (a0:zm):Option Int :=
 thn (zed a0.left.graph a0.keep) fun r545 =>
 cond (decide (r545.2.2=0)) (
  thn (ze3 r545.1 a0.right.graph a0.into) fun r607 =>
  cond (decide (r607=0)) (
   thn (zeg r545.1 a0.right.graph a0.into) fun r617 =>
   cond r617 (
    some 0) <|
   some 11) <|
  some r607) <|
 some r545.2.2

def zg8 (a0:List Int) (a1:Int):Option Int :=
 chk (a0.length≤fuel) <|
 forN (fun i627 (s627:Unit) nxts627 brks627 =>
  thn (a0[i627]?) fun e630 =>
  cond (decide (a1=e630)) (
   some ((i627:Nat):Int)) <|
  nxts627 ())
 (a0.length - 0) 0 () fun s627 =>
 some (-1)

def ze9 (a0:List Int) (a1:Int):Option Bool :=
 thn (zg8 a0 a1) fun r632 =>
 some (decide (0≤r632))

def zfs (a0:List Int) (a1:Int):Option (List Int) :=
 chk (a1.toNat≤fuel) <|
 forN (fun i647 (s647:(List Int)) nxts647 brks647 =>
  thn (ze9 a0 ((i647:Nat):Int)) fun r653 =>
  cond r653 (
   nxts647 s647) <|
  chk (s647.length+1≤68719476736) <|
  nxts647 (s647++[((i647:Nat):Int)]))
 (a1.toNat - 0) 0 ([]:List Int) fun s647 =>
 some s647

def zf2 (a0:zm):Option ((List Int)×(List Int)) :=
 thn (zfs a0.into.nodes ((a0.right.graph.nodes.length:Nat):Int)) fun r662 =>
 thn (zfs a0.into.edges ((a0.right.graph.edges.length:Nat):Int)) fun r663 =>
 some (r662,r663)

def zf4 (a0:Int) (a1:Types) (a2:Graph):Option Bool :=
 thn (atZ a2.nodes a0) fun e666 =>
 thn (atZ a1.nodes e666) fun e667 =>
 some e667.abs

def zf5 (a0:Int) (a1:Graph) (a2:Types):Option Bool :=
 thn (atZ a1.edges a0) fun e671 =>
 thn (atZ a1.nodes e671.src) fun e672 =>
 thn (atZ a1.nodes e671.dst) fun e673 =>
 thn (zly a2 e671.type e672 e673) fun r674 =>
 some (!r674)

def zgu (a0:Types) (a1:Graph) (a2:List Int) (a3:List Int):Option Bool :=
 thn (zby a2 (fun x668=>zf4 x668 (⟨a0.nodes,a0.edges⟩:Types) (⟨a1.nodes,a1.edges⟩:Graph))) fun r665 =>
 cond r665 (
  some false) <|
 thn (zby a3 (fun x675=>zf5 x675 a1 (⟨a0.nodes,a0.edges⟩:Types))) fun r670 =>
 some (!r670)

def zea (a0:zi):Option Bool :=
 cond (decide ((IntKind.i64.wrap ((IntKind.i64.wrap ((IntKind.i64.wrap ((IntKind.i64.wrap ((IntKind.i64.wrap (((a0.map.nodes.length:Nat):Int)+((a0.map.edges.length:Nat):Int)))+((a0.pattern.graph.nodes.length:Nat):Int)))+((a0.pattern.graph.edges.length:Nat):Int)))+((a0.pattern.slots.length:Nat):Int)))+((a0.pattern.tests.length:Nat):Int)))=0)) (
  some (decide (a0.pattern.vars=0))) <|
 some false

def zdi (a0:List zi) (p1:zi→Option Bool):Option Int :=
 chk (a0.length≤fuel) <|
 forN (fun i690 (s690:Unit) nxts690 brks690 =>
  thn (a0[i690]?) fun e694 =>
  thn (p1 e694) fun r695 =>
  cond r695 (
   some ((i690:Nat):Int)) <|
  nxts690 ())
 (a0.length - 0) 0 () fun s690 =>
 some (-1)

def zbu (a0:List zi) (p1:zi→Option Bool):Option Bool :=
 thn (zdi a0 p1) fun r697 =>
 some (decide (0≤r697))

def zbp (rec245:zi→Option Bool) (a0:zi):Option Bool :=
 thn (rec245 a0) fun r704 =>
 some (!r704)

def zbe:Nat→zi →  Option Bool
  | 0,_=>none
  | n+1,a0 =>
    cond (decide (a0.kind=1)) (
     cond (decide (((a0.kids.length:Nat):Int)=0)) (
      thn (zea a0) fun r701 =>
      cond r701 (
       thn (zbu a0.kids (fun x705=>zbp (fun y0=>zbe n y0) x705)) fun r703 =>
       some (!r703)) <|
      some false) <|
     some false) <|
    cond (decide (a0.kind=2)) (
     cond (decide (((a0.kids.length:Nat):Int)=1)) (
      thn (zea a0) fun r708 =>
      cond r708 (
       thn (zbu a0.kids (fun x711=>zbp (fun y0=>zbe n y0) x711)) fun r710 =>
       some (!r710)) <|
      some false) <|
     some false) <|
    cond (decide (a0.kind=3)) (
     cond (decide (1≤((a0.kids.length:Nat):Int))) (
      thn (zea a0) fun r714 =>
      cond r714 (
       thn (zbu a0.kids (fun x717=>zbp (fun y0=>zbe n y0) x717)) fun r716 =>
       some (!r716)) <|
      some false) <|
     some false) <|
    cond (decide (a0.kind=4)) (
     cond (decide (1≤((a0.kids.length:Nat):Int))) (
      thn (zea a0) fun r720 =>
      cond r720 (
       thn (zbu a0.kids (fun x723=>zbp (fun y0=>zbe n y0) x723)) fun r722 =>
       some (!r722)) <|
      some false) <|
     some false) <|
    cond (decide (a0.kind=5)) (
     cond (decide (((a0.kids.length:Nat):Int)=1)) (
      thn (zbu a0.kids (fun x727=>zbp (fun y0=>zbe n y0) x727)) fun r726 =>
      some (!r726)) <|
     some false) <|
    some false

def zcw:Nat→zi →  Option (Int×Int)
  | 0,_=>none
  | n+1,a0 =>
    chk (a0.kids.length≤fuel) <|
    forN (fun i737 (s737:Int×Int) nxts737 brks737 =>
     thn (a0.kids[i737]?) fun e740 =>
     thn (zcw n e740) fun r741 =>
     nxts737 ((IntKind.i64.wrap (s737.1+r741.1)),(max s737.2 r741.2)))
    (a0.kids.length - 0) 0 (1,0) fun s737 =>
    cond (decide (a0.kind=5)) (
     some (s737.1,(IntKind.i64.wrap (s737.2+1)))) <|
    some (s737.1,s737.2)

def zgo (a0:zi):Option Int :=
 thn (zbe fuel a0) fun r728 =>
 cond r728 (
  thn (zcw fuel a0) fun r743 =>
  cond (decide (12 < r743.1)) (
   some 3) <|
  cond (decide (3 < r743.2)) (
   some 3) <|
  some 0) <|
 some 1

def ze7 (a0:zbs) (a1:Int):Option Bool :=
 some (decide (a0.term.var=a1))

def zdg (a0:Types) (a1:zx) (a2:Int):Option Int :=
 thn (zer a0 a1) fun r750 =>
 cond (decide (r750=9)) (
  iter (fun (s757:Int) nxts757 brks757 =>
   cond (decide (s757 < a1.vars)) (
    thn (zci a1.slots (fun x764=>ze7 x764 s757)) fun r763 =>
    cond r763 (
     nxts757 (IntKind.i64.wrap (s757+1))) <|
    some r750) <|
   brks757 s757)
  fuel a2 fun s757 =>
  some 0) <|
 some r750

def zb8:Nat→Types→zx→zi →  Option Int
  | 0,_,_,_=>none
  | n+1,a0,a1,a2 =>
    cond (decide (a2.kind=5)) (
     cond (decide (a2.pattern.vars < a1.vars)) (
      some 20) <|
     thn (zdg a0 a2.pattern a1.vars) fun r777 =>
     cond (decide (r777=0)) (
      thn (ze3 a1.graph a2.pattern.graph a2.map) fun r779 =>
      cond (decide (r779=0)) (
       thn (zeg a1.graph a2.pattern.graph a2.map) fun r781 =>
       cond r781 (
        chk (a2.kids.length≤fuel) <|
        forN (fun i788 (s788:Unit) nxts788 brks788 =>
         thn (a2.kids[i788]?) fun e792 =>
         thn (zb8 n a0 a2.pattern e792) fun r793 =>
         cond (decide (r793=0)) (
          nxts788 ()) <|
         some r793)
        (a2.kids.length - 0) 0 () fun s788 =>
        some 0) <|
       some 1) <|
      some r779) <|
     some r777) <|
    chk (a2.kids.length≤fuel) <|
    forN (fun i800 (s800:Unit) nxts800 brks800 =>
     thn (a2.kids[i800]?) fun e804 =>
     thn (zb8 n a0 a1 e804) fun r805 =>
     cond (decide (r805=0)) (
      nxts800 ()) <|
     some r805)
    (a2.kids.length - 0) 0 () fun s800 =>
    some 0

def zgn (a0:Types) (a1:zx) (a2:zi):Option Int :=
 thn (zer a0 a1) fun r678 =>
 cond (decide (r678=0)) (
  thn (zgo a2) fun r746 =>
  cond (decide (r746=0)) (
   thn (zb8 fuel a0 a1 a2) fun r807 =>
   some r807) <|
  some r746) <|
 some r678

def zgd (a0:Types) (a1:zm):Option Int :=
 thn (zib a0) fun r32 =>
 cond (decide (r32.2=0)) (
  thn (zki a1.name) fun r34 =>
  cond r34 (
   thn (zer (⟨a0.nodes,a0.edges⟩:Types) a1.left) fun r176 =>
   cond (decide (r176=0)) (
    thn (zix (⟨a0.nodes,a0.edges⟩:Types) (⟨a1.name,a1.left,a1.right,a1.keep,a1.into,a1.injective,a1.condition⟩:zm)) fun r228 =>
    cond (decide (r228=0)) (
     thn (zii (⟨a1.name,a1.left,a1.right,a1.keep,a1.into,a1.injective,a1.condition⟩:zm)) fun r619 =>
     cond (decide (r619=0)) (
      thn (zf2 (⟨a1.name,a1.left,a1.right,a1.keep,a1.into,a1.injective,a1.condition⟩:zm)) fun r664 =>
      thn (zgu (⟨a0.nodes,a0.edges⟩:Types) a1.right.graph r664.1 r664.2) fun r676 =>
      cond r676 (
       thn (zgn a0 a1.left a1.condition) fun r808 =>
       some r808) <|
      some 13) <|
     some r619) <|
    some r228) <|
   some r176) <|
  some 2) <|
 some r32.2

def zgv (a0:zm):Option ((List Int)×(List Int)) :=
 thn (zfs a0.keep.nodes ((a0.left.graph.nodes.length:Nat):Int)) fun r815 =>
 thn (zfs a0.keep.edges ((a0.left.graph.edges.length:Nat):Int)) fun r816 =>
 some (r815,r816)

def zhq (a0:Types) (a1:zm):Option ((List Int)×(List Int)×Int) :=
 thn (zgd a0 (⟨a1.name,a1.left,a1.right,a1.keep,a1.into,a1.injective,a1.condition⟩:zm)) fun r809 =>
 cond (decide (r809=0)) (
  thn (zgv (⟨a1.name,a1.left,a1.right,a1.keep,a1.into,a1.injective,a1.condition⟩:zm)) fun r817 =>
  some (r817.1,r817.2,0)) <|
 some (([]:List Int),([]:List Int),r809)

def zdn (a0:List NodeT) (p1:NodeT→Option Bool):Option Int :=
 chk (a0.length≤fuel) <|
 forN (fun i828 (s828:Unit) nxts828 brks828 =>
  thn (a0[i828]?) fun e832 =>
  thn (p1 e832) fun r833 =>
  cond r833 (
   some ((i828:Nat):Int)) <|
  nxts828 ())
 (a0.length - 0) 0 () fun s828 =>
 some (-1)

def zdb (a0:List NodeT) (p1:NodeT→Option Bool):Option Bool :=
 thn (zdn a0 p1) fun r835 =>
 some (decide (0≤r835))

def zg5 (a0:NodeT) (a1:zm) (a2:Int):Option Bool :=
 thn (atZ a1.left.graph.nodes a2) fun e837 =>
 some (decide (a0.parent=e837))

def zgt (a0:Types) (a1:zm):Option ((List Int)×(List Int)×Int) :=
 thn (zgd a0 a1) fun r849 =>
 cond (decide (r849=0)) (
  thn (zf2 a1) fun r851 =>
  some (r851.1,r851.2,0)) <|
 some (([]:List Int),([]:List Int),r849)

def zd0 (a0:Types) (a1:Graph) (a2:List Int) (a3:List Int):Option (List Int) :=
 chk (a2.length≤fuel) <|
 forN (fun i869 (s869:(List Int)) nxts869 brks869 =>
  thn (a2[i869]?) fun e875 =>
  thn (atZ a1.nodes e875) fun e876 =>
  chk (s869.length+1≤68719476736) <|
  nxts869 (s869++[e876]))
 (a2.length - 0) 0 ([]:List Int) fun s869 =>
 chk (a3.length≤fuel) <|
 forN (fun i891 (s891:(List Int)) nxts891 brks891 =>
  thn (a3[i891]?) fun e901 =>
  thn (atZ a1.edges e901) fun e906 =>
  chk (s891.length+1≤68719476736) <|
  nxts891 (s891++[(IntKind.i64.wrap (((a0.nodes.length:Nat):Int)+e906.type))]))
 (a3.length - 0) 0 s869 fun s891 =>
 thn (zgj s891) fun r910 =>
 thn (zfn r910) fun r911 =>
 some r911

def zia (a0:Types) (a1:zm):Option (zl×Int) :=
 thn (zhq a0 a1) fun r939 =>
 cond (decide (r939.2.2=0)) (
  chk (r939.1.length≤fuel) <|
  forN (fun i947 (s947:Unit) nxts947 brks947 =>
   thn (r939.1[i947]?) fun e952 =>
   thn (zdb a0.nodes (fun x954=>zg5 x954 a1 e952)) fun r953 =>
   cond r953 (
    some ((⟨([]:List Int),([]:List Int)⟩:zl),13)) <|
   nxts947 ())
  (r939.1.length - 0) 0 () fun s947 =>
  thn (zgt a0 a1) fun r956 =>
  thn (zd0 a0 a1.left.graph r939.1 r939.2.1) fun r961 =>
  thn (zd0 a0 a1.right.graph r956.1 r956.2.1) fun r962 =>
  some ((⟨r961,r962⟩:zl),0)) <|
 some ((⟨([]:List Int),([]:List Int)⟩:zl),r939.2.2)

def ze1 (a0:Types) (a1:List zm):Option ((List zl)×Int) :=
 thn (zib a0) fun r971 =>
 cond (decide (r971.2=0)) (
  cond (decide (6 < ((a1.length:Nat):Int))) (
   some (([]:List zl),3)) <|
  chk (a1.length≤fuel) <|
  forN (fun i982 (s982:(List zl)) nxts982 brks982 =>
   thn (a1[i982]?) fun e989 =>
   thn (zia a0 e989) fun r990 =>
   cond (decide (r990.2=0)) (
    chk (s982.length+1≤68719476736) <|
    nxts982 (s982++[r990.1])) <|
   some (([]:List zl),r990.2))
  (a1.length - 0) 0 ([]:List zl) fun s982 =>
  some (s982,0)) <|
 some (([]:List zl),r971.2)

def zb7 (a0:List zl) (p1:zl→Option Bool):Option Int :=
 chk (a0.length≤fuel) <|
 forN (fun i1009 (s1009:Unit) nxts1009 brks1009 =>
  thn (a0[i1009]?) fun e1013 =>
  thn (p1 e1013) fun r1014 =>
  cond r1014 (
   some ((i1009:Nat):Int)) <|
  nxts1009 ())
 (a0.length - 0) 0 () fun s1009 =>
 some (-1)

def zce (a0:List zl) (p1:zl→Option Bool):Option Bool :=
 thn (zb7 a0 p1) fun r1016 =>
 some (decide (0≤r1016))

def zf8 (a0:zl):Option Bool :=
 some (decide (((a0.deletes.length:Nat):Int)=0))

def zgz (a0:List zl) (a1:Int):Option ((List Int)×(List Int)×Bool) :=
 chk (a0.length≤68719476736) <|
 chk (0≤a1∧a1≤68719476736) <|
 thn (zce a0 (fun x1018=>zf8 x1018)) fun r1017 =>
 cond r1017 (
  some (([]:List Int),([]:List Int),false)) <|
 iter (fun (s1141:Bool×(List Int)×(List Int)) nxts1141 brks1141 =>
  cond s1141.1 (
   chk (a0.length≤fuel) <|
   forN (fun i1305 (s1305:Bool×(List Int)×(List Int)) nxts1305 brks1305 =>
    thn (a0[i1305]?) fun e1345 =>
    chk (e1345.deletes.length≤fuel) <|
    forN (fun i1353 (s1353:Bool×(List Int)) nxts1353 brks1353 =>
     thn (e1345.deletes[i1353]?) fun e1359 =>
     thn (atZ s1305.2.1 e1359) fun e1360 =>
     thn (s1353.2[i1305]?) fun e1361 =>
     cond (decide (e1361 < e1360)) (
      nxts1353 (true,(s1353.2.set i1305 e1360))) <|
     nxts1353 (s1353.1,s1353.2))
    (e1345.deletes.length - 0) 0 (s1305.1,s1305.2.2) fun s1353 =>
    chk (e1345.creates.length≤fuel) <|
    forN (fun i1371 (s1371:Bool×(List Int)) nxts1371 brks1371 =>
     thn (e1345.creates[i1371]?) fun e1377 =>
     thn (atZ s1371.2 e1377) fun e1378 =>
     thn (s1353.2[i1305]?) fun e1379 =>
     cond (decide (e1378≤e1379)) (
      nxts1371 (true,(s1371.2.set e1377.toNat (IntKind.i64.wrap (e1379+1))))) <|
     nxts1371 (s1371.1,s1371.2))
    (e1345.creates.length - 0) 0 (s1353.1,s1305.2.1) fun s1371 =>
    thn (s1353.2[i1305]?) fun e1382 =>
    cond (decide (100 < e1382)) (
     some (([]:List Int),([]:List Int),false)) <|
    nxts1305 (s1371.1,s1371.2,s1353.2))
   (a0.length - 0) 0 (false,s1141.2.1,s1141.2.2) fun s1305 =>
   nxts1141 (s1305.1,s1305.2.1,s1305.2.2)) <|
  brks1141 (s1141.1,s1141.2.1,s1141.2.2))
 fuel (true,(List.replicate a1.toNat 0),(List.replicate a0.length 0)) fun s1141 =>
 some (s1141.2.2,s1141.2.1,true)

def zdl (a0:Types) (a1:List zm):Option (zbr×Int) :=
 thn (ze1 a0 a1) fun r995 =>
 cond (decide (r995.2=0)) (
  thn (zgz r995.1 (IntKind.i64.wrap (((a0.nodes.length:Nat):Int)+((a0.edges.length:Nat):Int)))) fun r1384 =>
  cond r1384.2.2 (
   chk ((0:Int)≤0∧0≤((a0.nodes.length:Nat):Int)∧((a0.nodes.length:Nat):Int)≤((a0.nodes.length:Nat):Int)∧((a0.nodes.length:Nat):Int)≤(r1384.2.1.length:Int)) <|
   chk ((0:Int)≤((a0.nodes.length:Nat):Int)∧((a0.nodes.length:Nat):Int)≤((r1384.2.1.length:Nat):Int)∧((r1384.2.1.length:Nat):Int)≤(r1384.2.1.length:Int)) <|
   some ((⟨r1384.1,(r1384.2.1.take a0.nodes.length),(r1384.2.1.drop a0.nodes.length)⟩:zbr),0)) <|
  some ((⟨([]:List Int),([]:List Int),([]:List Int)⟩:zbr),10)) <|
 some ((⟨([]:List Int),([]:List Int),([]:List Int)⟩:zbr),r995.2)

def zfy (a0:zl):Option Bool :=
 some (decide (((a0.deletes.length:Nat):Int)=0))

def zg6 (a0:List zl):Option (List zbm) :=
 chk (a0.length≤fuel) <|
 forN (fun i1486 (s1486:(List zbm)) nxts1486 brks1486 =>
  thn (a0[i1486]?) fun e1539 =>
  chk (e1539.deletes.length≤fuel) <|
  forN (fun i1558 (s1558:(List zbm)) nxts1558 brks1558 =>
   thn (e1539.deletes[i1558]?) fun e1575 =>
   chk (e1539.creates.length≤fuel) <|
   forN (fun i1582 (s1582:(List zbm)) nxts1582 brks1582 =>
    thn (e1539.creates[i1582]?) fun e1587 =>
    chk (s1582.length+1≤68719476736) <|
    nxts1582 (s1582++[(⟨((i1486:Nat):Int),e1575,e1587,1⟩:zbm)]))
   (e1539.creates.length - 0) 0 s1558 fun s1582 =>
   nxts1558 s1582)
  (e1539.deletes.length - 0) 0 s1486 fun s1558 =>
  nxts1486 s1558)
 (a0.length - 0) 0 ([]:List zbm) fun s1486 =>
 some s1486

def zfi (a0:List zbm) (p1:zbm→Option Bool):Option Int :=
 chk (a0.length≤fuel) <|
 forN (fun i1609 (s1609:Unit) nxts1609 brks1609 =>
  thn (a0[i1609]?) fun e1613 =>
  thn (p1 e1613) fun r1614 =>
  cond r1614 (
   some ((i1609:Nat):Int)) <|
  nxts1609 ())
 (a0.length - 0) 0 () fun s1609 =>
 some (-1)

def zes (a0:zbm) (a1:Int) (a2:List Int):Option Bool :=
 cond (decide (a0.src=a1)) (
  thn (atZ a2 a0.dst) fun e1618 =>
  cond (decide (0≤e1618)) (
   thn (atZ a2 a1) fun e1620 =>
   some (decide (e1618=(IntKind.i64.wrap (e1620 - 1))))) <|
  some false) <|
 some false

def zgk (a0:List zbm) (a1:Int):Option (List zbm) :=
 chk (a0.length≤fuel) <|
 forN (fun i1772 (s1772:(List zbm)) nxts1772 brks1772 =>
  thn (a0[i1772]?) fun e1845 =>
  thn (zfk a0 e1845.src a1) fun r1846 =>
  thn (atZ r1846 e1845.dst) fun e1847 =>
  cond (decide (e1847 < 0)) (
   nxts1772 s1772) <|
  cond (decide (0 < ((s1772.length:Nat):Int))) (
   cond (decide (((s1772.length:Nat):Int)≤(IntKind.i64.wrap (e1847+1)))) (
    nxts1772 s1772) <|
   iter (fun (s1861:Int×(List zbm)) nxts1861 brks1861 =>
    cond (decide (s1861.1=e1845.src)) (
     brks1861 (s1861.1,s1861.2)) <|
    thn (zfi a0 (fun x1875=>zes x1875 s1861.1 r1846)) fun r1874 =>
    thn (atZ a0 r1874) fun e1880 =>
    chk (s1861.2.length+1≤68719476736) <|
    nxts1861 (e1880.dst,(s1861.2++[e1880])))
   fuel (e1845.dst,[e1845]) fun s1861 =>
   nxts1772 s1861.2) <|
  iter (fun (s1894:Int×(List zbm)) nxts1894 brks1894 =>
   cond (decide (s1894.1=e1845.src)) (
    brks1894 (s1894.1,s1894.2)) <|
   thn (zfi a0 (fun x1908=>zes x1908 s1894.1 r1846)) fun r1907 =>
   thn (atZ a0 r1907) fun e1913 =>
   chk (s1894.2.length+1≤68719476736) <|
   nxts1894 (e1913.dst,(s1894.2++[e1913])))
  fuel (e1845.dst,[e1845]) fun s1894 =>
  nxts1772 s1894.2)
 (a0.length - 0) 0 ([]:List zbm) fun s1772 =>
 some s1772

def zgm (a0:Types) (a1:List zm):Option ((List zbm)×Int) :=
 thn (ze1 a0 a1) fun r1412 =>
 cond (decide (r1412.2=0)) (
  thn (zb7 r1412.1 (fun x1415=>zfy x1415)) fun r1414 =>
  cond (decide (0≤r1414)) (
   some ([(⟨r1414,(-1),(-1),0⟩:zbm)],0)) <|
  thn (zg6 r1412.1) fun r1918 =>
  thn (zgk r1918 (IntKind.i64.wrap (((a0.nodes.length:Nat):Int)+((a0.edges.length:Nat):Int)))) fun r1919 =>
  cond (decide (((r1919.length:Nat):Int)=0)) (
   some (([]:List zbm),10)) <|
  some (r1919,0)) <|
 some (([]:List zbm),r1412.2)

def zf9 (a0:List Int) (a1:List Int):Option Bool :=
 cond (decide (((a0.length:Nat):Int)=((a1.length:Nat):Int))) (
  chk (a0.length≤fuel) <|
  forN (fun i1931 (s1931:Unit) nxts1931 brks1931 =>
   thn (a0[i1931]?) fun e1935 =>
   thn (a1[i1931]?) fun e1936 =>
   cond (decide (e1935=e1936)) (
    nxts1931 ()) <|
   some false)
  (a0.length - 0) 0 () fun s1931 =>
  some true) <|
 some false

def zhm (a0:List zbm) (a1:List zbm):Option Bool :=
 cond (decide (((a0.length:Nat):Int)=((a1.length:Nat):Int))) (
  chk (a0.length≤fuel) <|
  forN (fun i1950 (s1950:Unit) nxts1950 brks1950 =>
   thn (a0[i1950]?) fun e1954 =>
   thn (a1[i1950]?) fun e1955 =>
   cond (decide (e1954.rule=e1955.rule) && (decide (e1954.src=e1955.src) && (decide (e1954.dst=e1955.dst) && decide (e1954.strict=e1955.strict)))) (
    nxts1950 ()) <|
   some false)
  (a0.length - 0) 0 () fun s1950 =>
  some true) <|
 some false

def zc1  : Option Bool :=
 thn (zd2) fun r1391 =>
 thn (zb2 0) fun r1400 =>
 thn (zdl r1391 [r1400]) fun r1401 =>
 thn (zb2 1) fun r1404 =>
 thn (zdl r1391 [r1404]) fun r1405 =>
 thn (zb2 2) fun r1922 =>
 thn (zgm r1391 [r1922]) fun r1923 =>
 cond (decide (r1401.2=0)) (
  thn (zf9 r1401.1.rules [0]) fun r1938 =>
  cond r1938 (
   cond (decide (r1405.2=0)) (
    thn (zf9 r1405.1.nodes [0,0,1,0]) fun r1941 =>
    cond r1941 (
     cond (decide (r1923.2=0)) (
      thn (zhm r1923.1 [(⟨0,5,5,1⟩:zbm)]) fun r1957 =>
      some r1957) <|
     some false) <|
    some false) <|
   some false) <|
  some false) <|
 some false

def ze8 (a0:Types):Option Bool :=
 cond (decide (20 < ((a0.nodes.length:Nat):Int))) (
  some false) <|
 cond (decide (30 < ((a0.edges.length:Nat):Int))) (
  some false) <|
 chk (a0.nodes.length≤fuel) <|
 forN (fun i2006 (s2006:Int) nxts2006 brks2006 =>
  thn (a0.nodes[i2006]?) fun e2049 =>
  cond (decide (30 < (IntKind.i64.wrap (s2006+((e2049.attrs.length:Nat):Int))))) (
   some false) <|
  cond (decide (40 < ((e2049.name.size:Nat):Int))) (
   some false) <|
  chk (e2049.attrs.length≤fuel) <|
  forN (fun i2066 (s2066:Unit) nxts2066 brks2066 =>
   thn (e2049.attrs[i2066]?) fun e2079 =>
   cond (decide (40 < ((e2079.name.size:Nat):Int))) (
    some false) <|
   cond (decide (25 < ((e2079.names.length:Nat):Int))) (
    some false) <|
   chk (e2079.names.length≤fuel) <|
   forN (fun i2086 (s2086:Unit) nxts2086 brks2086 =>
    thn (e2079.names[i2086]?) fun e2089 =>
    cond (decide (40 < ((e2089.size:Nat):Int))) (
     some false) <|
    nxts2086 ())
   (e2079.names.length - 0) 0 () fun s2086 =>
   nxts2066 ())
  (e2049.attrs.length - 0) 0 () fun s2066 =>
  nxts2006 (IntKind.i64.wrap (s2006+((e2049.attrs.length:Nat):Int))))
 (a0.nodes.length - 0) 0 0 fun s2006 =>
 chk (a0.edges.length≤fuel) <|
 forN (fun i2095 (s2095:Unit) nxts2095 brks2095 =>
  thn (a0.edges[i2095]?) fun e2098 =>
  cond (decide (40 < ((e2098.name.size:Nat):Int))) (
   some false) <|
  nxts2095 ())
 (a0.edges.length - 0) 0 () fun s2095 =>
 some true

def zfb (a0:Graph):Option Bool :=
 cond (decide (((a0.nodes.length:Nat):Int)≤45)) (
  some (decide (((a0.edges.length:Nat):Int)≤90))) <|
 some false

def zdj (a0:zx):Option Bool :=
 thn (zfb a0.graph) fun r2108 =>
 cond r2108 (
  cond (decide (((a0.slots.length:Nat):Int)≤15)) (
   some (decide (((a0.tests.length:Nat):Int)≤15))) <|
  some false) <|
 some false

def zfc (a0:zcr) (a1:Int):Option Bool :=
 some (decide ((IntKind.i64.wrap (((a0.nodes.length:Nat):Int)+((a0.edges.length:Nat):Int)))≤a1))

def zd5 (a0:zbo) (a1:Int):Option Bool :=
 some (decide ((IntKind.i64.wrap (((a0.nodes.length:Nat):Int)+((a0.edges.length:Nat):Int)))≤a1))

def zdy:Nat→zi→Int →  Option Int
  | 0,_,_=>none
  | n+1,a0,a1 =>
    thn (zdj a0.pattern) fun r2128 =>
    cond r2128 (
     thn (zd5 a0.map 140) fun r2130 =>
     cond r2130 (
      iter (fun (s2138:Int×Int) nxts2138 brks2138 =>
       cond (decide (s2138.2 < ((a0.kids.length:Nat):Int))) (
        cond (decide (0≤s2138.1)) (
         thn (atZ a0.kids s2138.2) fun e2146 =>
         thn (zdy n e2146 s2138.1) fun r2147 =>
         nxts2138 (r2147,(IntKind.i64.wrap (s2138.2+1)))) <|
        brks2138 (s2138.1,s2138.2)) <|
       brks2138 (s2138.1,s2138.2))
      fuel ((IntKind.i64.wrap (a1 - 1)),0) fun s2138 =>
      some s2138.1) <|
     some (-1)) <|
    some (-1)

def zge (a0:zi):Option Bool :=
 thn (zdy fuel a0 40) fun r2148 =>
 some (decide (0≤r2148))

def zfh (a0:zm):Option Bool :=
 cond (decide (((a0.name.size:Nat):Int)≤60)) (
  thn (zdj a0.left) fun r2111 =>
  cond r2111 (
   thn (zdj a0.right) fun r2113 =>
   cond r2113 (
    thn (zfc a0.keep 140) fun r2115 =>
    cond r2115 (
     thn (zd5 a0.into 140) fun r2117 =>
     cond r2117 (
      thn (zge a0.condition) fun r2149 =>
      some r2149) <|
     some false) <|
    some false) <|
   some false) <|
  some false) <|
 some false

def zd6 (a0:Types) (a1:List zm):Option Bool :=
 thn (ze8 a0) fun r2100 =>
 cond r2100 (
  cond (decide (8 < ((a1.length:Nat):Int))) (
   some false) <|
  chk (a1.length≤fuel) <|
  forN (fun i2152 (s2152:Unit) nxts2152 brks2152 =>
   thn (a1[i2152]?) fun e2156 =>
   thn (zfh e2156) fun r2157 =>
   cond r2157 (
    nxts2152 ()) <|
   some false)
  (a1.length - 0) 0 () fun s2152 =>
  some true) <|
 some false

noncomputable def zij (l:List zm):Option (List zm):=giv (l.length≤1000000) l

def zdu (a0:Types) (a1:Graph):Option Bool :=
 chk (a1.nodes.length≤fuel) <|
 forN (fun i2182 (s2182:Unit) nxts2182 brks2182 =>
  thn (a1.nodes[i2182]?) fun e2186 =>
  cond (decide (e2186 < 0)) (
   some false) <|
  cond (decide (((a0.nodes.length:Nat):Int)≤e2186)) (
   some false) <|
  nxts2182 ())
 (a1.nodes.length - 0) 0 () fun s2182 =>
 chk (a1.edges.length≤fuel) <|
 forN (fun i2194 (s2194:Unit) nxts2194 brks2194 =>
  thn (a1.edges[i2194]?) fun e2198 =>
  cond (decide (e2198.type < 0)) (
   some false) <|
  cond (decide (((a0.edges.length:Nat):Int)≤e2198.type)) (
   some false) <|
  nxts2194 ())
 (a1.edges.length - 0) 0 () fun s2194 =>
 some true

def zet (a0:Types) (a1:zx) (a2:Int) (a3:Int):Option (Attr×Bool) :=
 cond (decide (a2 < 0)) (
  some ((⟨(⟨#[]⟩:ByteArray),0,0,([]:List ByteArray)⟩:Attr),false)) <|
 cond (decide (((a1.graph.nodes.length:Nat):Int)≤a2)) (
  some ((⟨(⟨#[]⟩:ByteArray),0,0,([]:List ByteArray)⟩:Attr),false)) <|
 thn (atZ a1.graph.nodes a2) fun e2212 =>
 thn (zft a0 e2212) fun r2213 =>
 cond (decide (r2213.2=0)) (
  cond (decide (a3 < 0)) (
   some ((⟨(⟨#[]⟩:ByteArray),0,0,([]:List ByteArray)⟩:Attr),false)) <|
  cond (decide (((r2213.1.length:Nat):Int)≤a3)) (
   some ((⟨(⟨#[]⟩:ByteArray),0,0,([]:List ByteArray)⟩:Attr),false)) <|
  thn (atZ r2213.1 a3) fun e2217 =>
  some (e2217,true)) <|
 some ((⟨(⟨#[]⟩:ByteArray),0,0,([]:List ByteArray)⟩:Attr),false)

def zfj (a0:Int):Option Bool :=
 cond (decide ((-1000000)≤a0)) (
  some (decide (a0≤1000000))) <|
 some false

def zcg (a0:Int) (a1:zic):Option Int :=
 cond (decide (a1.var < (-1))) (
  some 6) <|
 cond (decide (a0≤a1.var)) (
  some 6) <|
 cond (decide (a1.add < (-1000000))) (
  some 6) <|
 cond (decide (1000000 < a1.add)) (
  some 6) <|
 some 0

def zfg (a0:Int) (a1:zcq):Option Int :=
 cond (decide (a1.kind=1)) (
  thn (zcg a0 a1.left) fun r2251 =>
  cond (decide (r2251=0)) (
   thn (zcg a0 a1.right) fun r2253 =>
   some r2253) <|
  some r2251) <|
 cond (decide (a1.kind=2)) (
  thn (zcg a0 a1.left) fun r2255 =>
  cond (decide (r2255=0)) (
   thn (zcg a0 a1.right) fun r2257 =>
   some r2257) <|
  some r2255) <|
 some 1

def zei (a0:Int) (a1:List zcq):Option Int :=
 cond (decide (a0 < 0)) (
  some 6) <|
 cond (decide (12 < a0)) (
  some 6) <|
 cond (decide (40 < ((a1.length:Nat):Int))) (
  some 3) <|
 chk (a1.length≤fuel) <|
 forN (fun i2260 (s2260:Unit) nxts2260 brks2260 =>
  thn (a1[i2260]?) fun e2264 =>
  thn (zfg a0 e2264) fun r2265 =>
  cond (decide (r2265=0)) (
   nxts2260 ()) <|
  some r2265)
 (a1.length - 0) 0 () fun s2260 =>
 some 0

def zeb (a0:zx) (a1:Int):Option Bool :=
 chk (a0.slots.length≤fuel) <|
 forN (fun i2275 (s2275:Unit) nxts2275 brks2275 =>
  thn (a0.slots[i2275]?) fun e2278 =>
  cond (decide (e2278.term.var=a1)) (
   some true) <|
  nxts2275 ())
 (a0.slots.length - 0) 0 () fun s2275 =>
 some false

def zc2 (a0:Types) (a1:zx):Option Int :=
 thn (zdt a0) fun r2173 =>
 cond (decide (r2173.2=0)) (
  thn (zc0 a1.graph) fun r2175 =>
  cond (decide (r2175=0)) (
   thn (zdu a0 a1.graph) fun r2201 =>
   cond r2201 (
    cond (decide (a1.vars < 0)) (
     some 6) <|
    cond (decide (12 < a1.vars)) (
     some 6) <|
    cond (decide (10 < ((a1.slots.length:Nat):Int))) (
     some 3) <|
    cond (decide (10 < ((a1.tests.length:Nat):Int))) (
     some 3) <|
    chk (a1.slots.length≤fuel) <|
    forN (fun i2225 (s2225:Unit) nxts2225 brks2225 =>
     thn (a1.slots[i2225]?) fun e2233 =>
     thn (zet (⟨a0.nodes,a0.edges⟩:Types) a1 e2233.node e2233.attr) fun r2234 =>
     cond r2234.2 (
      cond (decide (e2233.term.var < (-1))) (
       some 6) <|
      cond (decide (a1.vars≤e2233.term.var)) (
       some 6) <|
      thn (zfj e2233.term.add) fun r2238 =>
      cond r2238 (
       nxts2225 ()) <|
      some 6) <|
     some 6)
    (a1.slots.length - 0) 0 () fun s2225 =>
    thn (zei a1.vars a1.tests) fun r2267 =>
    cond (decide (r2267=0)) (
     chk (a1.vars.toNat≤fuel) <|
     forN (fun i2282 (s2282:Unit) nxts2282 brks2282 =>
      thn (zeb (⟨a1.graph,a1.slots,a1.vars,a1.tests⟩:zx) ((i2282:Nat):Int)) fun r2285 =>
      cond r2285 (
       nxts2282 ()) <|
      some 9)
     (a1.vars.toNat - 0) 0 () fun s2282 =>
     some 0) <|
    some r2267) <|
   some 13) <|
  some r2175) <|
 some r2173.2

def zeu (a0:Types) (a1:zx) (a2:Int):Option Int :=
 thn (atZ a1.slots a2) fun e2298 =>
 cond (decide (e2298.node < 0)) (
  some 6) <|
 cond (decide (((a1.graph.nodes.length:Nat):Int)≤e2298.node)) (
  some 6) <|
 thn (atZ a1.graph.nodes e2298.node) fun e2301 =>
 thn (zft a0 e2301) fun r2302 =>
 cond (decide (e2298.attr < 0)) (
  some 6) <|
 cond (decide (((r2302.1.length:Nat):Int)≤e2298.attr)) (
  some 6) <|
 cond (decide (e2298.term.var < (-1))) (
  some 6) <|
 cond (decide (a1.vars≤e2298.term.var)) (
  some 6) <|
 cond (decide (e2298.term.add < (-1000000))) (
  some 6) <|
 cond (decide (1000000 < e2298.term.add)) (
  some 6) <|
 chk (a2.toNat≤fuel) <|
 forN (fun i2314 (s2314:Unit) nxts2314 brks2314 =>
  thn (a1.slots[i2314]?) fun e2318 =>
  cond (decide (e2318.node=e2298.node)) (
   cond (decide (e2318.attr=e2298.attr)) (
    some 5) <|
   nxts2314 ()) <|
  nxts2314 ())
 (a2.toNat - 0) 0 () fun s2314 =>
 some 0

def zen (a0:Types) (a1:zm):Option Int :=
 thn (zc0 a1.right.graph) fun r2289 =>
 cond (decide (r2289=0)) (
  thn (zdu a0 a1.right.graph) fun r2291 =>
  cond r2291 (
   cond (decide (a1.right.vars=a1.left.vars)) (
    cond (decide (0 < ((a1.right.tests.length:Nat):Int))) (
     some 1) <|
    cond (decide (10 < ((a1.right.slots.length:Nat):Int))) (
     some 3) <|
    chk (a1.right.slots.length≤fuel) <|
    forN (fun i2323 (s2323:Unit) nxts2323 brks2323 =>
     thn (zeu a0 a1.right ((i2323:Nat):Int)) fun r2326 =>
     cond (decide (r2326=0)) (
      nxts2323 ()) <|
     some r2326)
    (a1.right.slots.length - 0) 0 () fun s2323 =>
    some 0) <|
   some 1) <|
  some 13) <|
 some r2289

def zdm (a0:List Int) (a1:Int):Option Int :=
 chk (a0.length≤fuel) <|
 forN (fun i2340 (s2340:Unit) nxts2340 brks2340 =>
  thn (a0[i2340]?) fun e2347 =>
  cond (decide (e2347 < 0)) (
   some 6) <|
  cond (decide (a1≤e2347)) (
   some 6) <|
  cond (decide (0 < ((i2340:Nat):Int))) (
   thn (atZ a0 (IntKind.i64.wrap (((i2340:Nat):Int) - 1))) fun e2351 =>
   cond (decide (e2347≤e2351)) (
    some 12) <|
   nxts2340 ()) <|
  nxts2340 ())
 (a0.length - 0) 0 () fun s2340 =>
 some 0

def zcx (a0:List Int) (a1:Int):Option Bool :=
 chk (a0.length≤fuel) <|
 forN (fun i2365 (s2365:Unit) nxts2365 brks2365 =>
  thn (a0[i2365]?) fun e2368 =>
  cond (decide (e2368=a1)) (
   some true) <|
  nxts2365 ())
 (a0.length - 0) 0 () fun s2365 =>
 some false

def zc3 (a0:Graph) (a1:zcr):Option Int :=
 thn (zdm a1.nodes ((a0.nodes.length:Nat):Int)) fun r2353 =>
 cond (decide (r2353=0)) (
  thn (zdm a1.edges ((a0.edges.length:Nat):Int)) fun r2355 =>
  cond (decide (r2355=0)) (
   chk (a1.edges.length≤fuel) <|
   forN (fun i2374 (s2374:Unit) nxts2374 brks2374 =>
    thn (a1.edges[i2374]?) fun e2381 =>
    thn (atZ a0.edges e2381) fun e2382 =>
    thn (zcx a1.nodes e2382.src) fun r2383 =>
    cond r2383 (
     thn (zcx a1.nodes e2382.dst) fun r2385 =>
     cond r2385 (
      nxts2374 ()) <|
     some 14) <|
    some 14)
   (a1.edges.length - 0) 0 () fun s2374 =>
   some 0) <|
  some r2355) <|
 some r2353

def zcc (a0:Graph) (a1:zcr):Option Int :=
 thn (zc0 a0) fun r2330 =>
 cond (decide (r2330=0)) (
  thn (zc3 (⟨a0.nodes,a0.edges⟩:Graph) (⟨a1.nodes,a1.edges⟩:zcr)) fun r2387 =>
  some r2387) <|
 some r2330

def zdp (a0:List Int) (a1:Int):Option Int :=
 chk (a0.length≤fuel) <|
 forN (fun i2447 (s2447:Unit) nxts2447 brks2447 =>
  thn (a0[i2447]?) fun e2450 =>
  cond (decide (e2450=a1)) (
   some ((i2447:Nat):Int)) <|
  nxts2447 ())
 (a0.length - 0) 0 () fun s2447 =>
 some (-1)

def zd3 (a0:Graph) (a1:zcr):Option (Graph×zbo×Int) :=
 thn (zcc a0 a1) fun r2768 =>
 cond (decide (r2768=0)) (
  chk (a1.nodes.length≤fuel) <|
  forN (fun i2781 (s2781:(List Int)) nxts2781 brks2781 =>
   thn (a1.nodes[i2781]?) fun e2797 =>
   thn (atZ a0.nodes e2797) fun e2798 =>
   chk (s2781.length+1≤68719476736) <|
   nxts2781 (s2781++[e2798]))
  (a1.nodes.length - 0) 0 ([]:List Int) fun s2781 =>
  chk (a1.edges.length≤fuel) <|
  forN (fun i2815 (s2815:(List Edge)) nxts2815 brks2815 =>
   thn (a1.edges[i2815]?) fun e2828 =>
   thn (atZ a0.edges e2828) fun e2829 =>
   thn (zdp a1.nodes e2829.src) fun r2835 =>
   thn (zdp a1.nodes e2829.dst) fun r2836 =>
   chk (s2815.length+1≤68719476736) <|
   nxts2815 (s2815++[(⟨e2829.type,r2835,r2836⟩:Edge)]))
  (a1.edges.length - 0) 0 ([]:List Edge) fun s2815 =>
  chk (a1.nodes.length≤68719476736) <|
  chk (a1.edges.length≤68719476736) <|
  some ((⟨s2781,s2815⟩:Graph),(⟨a1.nodes,a1.edges⟩:zbo),0)) <|
 some ((⟨([]:List Int),([]:List Edge)⟩:Graph),(⟨([]:List Int),([]:List Int)⟩:zbo),r2768)

def zbn (a0:Graph) (a1:Graph) (a2:zbo):Option Int :=
 thn (zc0 a0) fun r2847 =>
 cond (decide (r2847=0)) (
  thn (zc0 a1) fun r2849 =>
  cond (decide (r2849=0)) (
   cond (decide (((a2.nodes.length:Nat):Int)=((a0.nodes.length:Nat):Int))) (
    cond (decide (((a2.edges.length:Nat):Int)=((a0.edges.length:Nat):Int))) (
     chk (a0.nodes.length≤fuel) <|
     forN (fun i2861 (s2861:Unit) nxts2861 brks2861 =>
      thn (a2.nodes[i2861]?) fun e2868 =>
      cond (decide (e2868 < 0)) (
       some 6) <|
      cond (decide (((a1.nodes.length:Nat):Int)≤e2868)) (
       some 6) <|
      thn (atZ a1.nodes e2868) fun e2871 =>
      thn (a0.nodes[i2861]?) fun e2872 =>
      cond (decide (e2871=e2872)) (
       nxts2861 ()) <|
      some 13)
     (a0.nodes.length - 0) 0 () fun s2861 =>
     chk (a0.edges.length≤fuel) <|
     forN (fun i2886 (s2886:Unit) nxts2886 brks2886 =>
      thn (a2.edges[i2886]?) fun e2897 =>
      cond (decide (e2897 < 0)) (
       some 6) <|
      cond (decide (((a1.edges.length:Nat):Int)≤e2897)) (
       some 6) <|
      thn (a0.edges[i2886]?) fun e2900 =>
      thn (atZ a1.edges e2897) fun e2901 =>
      cond (decide (e2900.type=e2901.type)) (
       thn (atZ a2.nodes e2900.src) fun e2903 =>
       cond (decide (e2903=e2901.src)) (
        thn (atZ a2.nodes e2900.dst) fun e2905 =>
        cond (decide (e2905=e2901.dst)) (
         nxts2886 ()) <|
        some 11) <|
       some 11) <|
      some 13)
     (a0.edges.length - 0) 0 () fun s2886 =>
     some 0) <|
    some 20) <|
   some 20) <|
  some r2849) <|
 some r2847

def zb5 (a0:zm):Option Int :=
 thn (zcc a0.left.graph a0.keep) fun r2388 =>
 cond (decide (r2388=0)) (
  thn (zd3 a0.left.graph a0.keep) fun r2846 =>
  thn (zbn r2846.1 a0.right.graph a0.into) fun r2907 =>
  some r2907) <|
 some r2388

def zb9 (a0:List Int):Option Bool :=
 chk (a0.length≤fuel) <|
 forN (fun i2923 (s2923:Unit) nxts2923 brks2923 =>
  chk (i2923≤fuel) <|
  forN (fun i2941 (s2941:Unit) nxts2941 brks2941 =>
   thn (a0[i2923]?) fun e2945 =>
   thn (a0[i2941]?) fun e2946 =>
   cond (decide (e2945=e2946)) (
    some false) <|
   nxts2941 ())
  (i2923 - 0) 0 () fun s2941 =>
  nxts2923 ())
 (a0.length - 0) 0 () fun s2923 =>
 some true

def zfa (a0:List Int) (a1:Int):Option Bool :=
 chk (a0.length≤fuel) <|
 forN (fun i2958 (s2958:Unit) nxts2958 brks2958 =>
  thn (a0[i2958]?) fun e2961 =>
  cond (decide (e2961=a1)) (
   some true) <|
  nxts2958 ())
 (a0.length - 0) 0 () fun s2958 =>
 some false

def zcs (a0:Int) (a1:List Int):Option (List Int) :=
 chk (a0.toNat≤fuel) <|
 forN (fun i2977 (s2977:(List Int)) nxts2977 brks2977 =>
  thn (zfa a1 ((i2977:Nat):Int)) fun r2983 =>
  cond r2983 (
   nxts2977 s2977) <|
  chk (s2977.length+1≤68719476736) <|
  nxts2977 (s2977++[((i2977:Nat):Int)]))
 (a0.toNat - 0) 0 ([]:List Int) fun s2977 =>
 some s2977

def zcd (a0:zm):Option ((List Int)×(List Int)) :=
 thn (zcs ((a0.right.graph.nodes.length:Nat):Int) a0.into.nodes) fun r2992 =>
 thn (zcs ((a0.right.graph.edges.length:Nat):Int) a0.into.edges) fun r2993 =>
 some (r2992,r2993)

def zd7 (a0:Types) (a1:Graph) (a2:List Int) (a3:List Int):Option Bool :=
 chk (a2.length≤fuel) <|
 forN (fun i3001 (s3001:Unit) nxts3001 brks3001 =>
  thn (a2[i3001]?) fun e3006 =>
  thn (atZ a1.nodes e3006) fun e3007 =>
  thn (atZ a0.nodes e3007) fun e3008 =>
  cond e3008.abs (
   some false) <|
  nxts3001 ())
 (a2.length - 0) 0 () fun s3001 =>
 chk (a3.length≤fuel) <|
 forN (fun i3018 (s3018:Unit) nxts3018 brks3018 =>
  thn (a3[i3018]?) fun e3025 =>
  thn (atZ a1.edges e3025) fun e3026 =>
  thn (atZ a1.nodes e3026.src) fun e3027 =>
  thn (atZ a1.nodes e3026.dst) fun e3028 =>
  thn (zhc a0 e3026.type e3027 e3028) fun r3029 =>
  cond r3029 (
   nxts3018 ()) <|
  some false)
 (a3.length - 0) 0 () fun s3018 =>
 some true

def zcf (a0:zi):Option Bool :=
 cond (decide ((IntKind.i64.wrap ((IntKind.i64.wrap ((IntKind.i64.wrap (((a0.map.nodes.length:Nat):Int)+((a0.map.edges.length:Nat):Int)))+((a0.pattern.graph.nodes.length:Nat):Int)))+((a0.pattern.graph.edges.length:Nat):Int)))=0)) (
  cond (decide ((IntKind.i64.wrap (((a0.pattern.slots.length:Nat):Int)+((a0.pattern.tests.length:Nat):Int)))=0)) (
   some (decide (a0.pattern.vars=0))) <|
  some false) <|
 some false

def zep (a0:zi):Option Bool :=
 cond (decide (a0.kind=1)) (
  cond (decide (((a0.kids.length:Nat):Int)=0)) (
   thn (zcf a0) fun r3039 =>
   some r3039) <|
  some false) <|
 cond (decide (a0.kind=2)) (
  cond (decide (((a0.kids.length:Nat):Int)=1)) (
   thn (zcf a0) fun r3042 =>
   some r3042) <|
  some false) <|
 cond (decide (a0.kind=3)) (
  cond (decide (0 < ((a0.kids.length:Nat):Int))) (
   thn (zcf a0) fun r3045 =>
   some r3045) <|
  some false) <|
 cond (decide (a0.kind=4)) (
  cond (decide (0 < ((a0.kids.length:Nat):Int))) (
   thn (zcf a0) fun r3048 =>
   some r3048) <|
  some false) <|
 cond (decide (a0.kind=5)) (
  some (decide (((a0.kids.length:Nat):Int)=1))) <|
 some false

def zcb:Nat→zi →  Option Bool
  | 0,_=>none
  | n+1,a0 =>
    thn (zep a0) fun r3055 =>
    cond r3055 (
     chk (a0.kids.length≤fuel) <|
     forN (fun i3062 (s3062:Unit) nxts3062 brks3062 =>
      thn (a0.kids[i3062]?) fun e3066 =>
      thn (zcb n e3066) fun r3067 =>
      cond r3067 (
       nxts3062 ()) <|
      some false)
     (a0.kids.length - 0) 0 () fun s3062 =>
     some true) <|
    some false

def zdd:Nat→zi →  Option (Int×Int)
  | 0,_=>none
  | n+1,a0 =>
    chk (a0.kids.length≤fuel) <|
    forN (fun i3078 (s3078:Int×Int) nxts3078 brks3078 =>
     thn (a0.kids[i3078]?) fun e3081 =>
     thn (zdd n e3081) fun r3082 =>
     nxts3078 ((IntKind.i64.wrap (s3078.1+r3082.1)),(max s3078.2 r3082.2)))
    (a0.kids.length - 0) 0 (1,0) fun s3078 =>
    cond (decide (a0.kind=5)) (
     some (s3078.1,(IntKind.i64.wrap (s3078.2+1)))) <|
    some (s3078.1,s3078.2)

def zdr (a0:zi):Option Int :=
 thn (zcb fuel a0) fun r3069 =>
 cond r3069 (
  thn (zdd fuel a0) fun r3084 =>
  cond (decide (12 < r3084.1)) (
   some 3) <|
  cond (decide (3 < r3084.2)) (
   some 3) <|
  some 0) <|
 some 1

def zd8 (a0:zx) (a1:Int):Option Bool :=
 chk (a0.slots.length≤fuel) <|
 forN (fun i3099 (s3099:Unit) nxts3099 brks3099 =>
  thn (a0.slots[i3099]?) fun e3102 =>
  cond (decide (e3102.term.var=a1)) (
   some true) <|
  nxts3099 ())
 (a0.slots.length - 0) 0 () fun s3099 =>
 some false

def zck (a0:Types) (a1:Int) (a2:zx):Option Int :=
 cond (decide (a2.vars < a1)) (
  some 20) <|
 thn (zc2 a0 a2) fun r3091 =>
 cond (decide (r3091=9)) (
  iter (fun (s3106:Int) nxts3106 brks3106 =>
   cond (decide (s3106 < a2.vars)) (
    thn (zd8 a2 s3106) fun r3111 =>
    cond r3111 (
     nxts3106 (IntKind.i64.wrap (s3106+1))) <|
    some r3091) <|
   brks3106 s3106)
  fuel a1 fun s3106 =>
  some 0) <|
 some r3091

def zdo (a0:Graph) (a1:Graph) (a2:zbo):Option Bool :=
 thn (zbn a0 a1 a2) fun r3117 =>
 cond (decide (r3117=0)) (
  thn (zb9 a2.nodes) fun r3119 =>
  cond r3119 (
   thn (zb9 a2.edges) fun r3121 =>
   some r3121) <|
  some false) <|
 some false

def zb0:Nat→Types→zx→zi →  Option Int
  | 0,_,_,_=>none
  | n+1,a0,a1,a2 =>
    cond (decide (a2.kind=5)) (
     thn (zck a0 a1.vars a2.pattern) fun r3128 =>
     cond (decide (r3128=0)) (
      thn (zbn a1.graph a2.pattern.graph a2.map) fun r3130 =>
      cond (decide (r3130=0)) (
       thn (zdo a1.graph a2.pattern.graph a2.map) fun r3132 =>
       cond r3132 (
        chk (a2.kids.length≤fuel) <|
        forN (fun i3139 (s3139:Unit) nxts3139 brks3139 =>
         thn (a2.kids[i3139]?) fun e3143 =>
         thn (zb0 n a0 a2.pattern e3143) fun r3144 =>
         cond (decide (r3144=0)) (
          nxts3139 ()) <|
         some r3144)
        (a2.kids.length - 0) 0 () fun s3139 =>
        some 0) <|
       some 1) <|
      some r3130) <|
     some r3128) <|
    chk (a2.kids.length≤fuel) <|
    forN (fun i3151 (s3151:Unit) nxts3151 brks3151 =>
     thn (a2.kids[i3151]?) fun e3155 =>
     thn (zb0 n a0 a1 e3155) fun r3156 =>
     cond (decide (r3156=0)) (
      nxts3151 ()) <|
     some r3156)
    (a2.kids.length - 0) 0 () fun s3151 =>
    some 0

def zcj (a0:Types) (a1:zx) (a2:zi):Option Int :=
 thn (zc2 a0 a1) fun r3033 =>
 cond (decide (r3033=0)) (
  thn (zdr a2) fun r3087 =>
  cond (decide (r3087=0)) (
   thn (zb0 fuel a0 a1 a2) fun r3158 =>
   some r3158) <|
  some r3087) <|
 some r3033

def zb1 (a0:Types) (a1:zm):Option Int :=
 thn (zdt a0) fun r2169 =>
 cond (decide (r2169.2=0)) (
  thn (zgy a1.name) fun r2171 =>
  cond r2171 (
   thn (zc2 (⟨a0.nodes,a0.edges⟩:Types) a1.left) fun r2287 =>
   cond (decide (r2287=0)) (
    thn (zen a0 (⟨a1.name,a1.left,a1.right,a1.keep,a1.into,a1.injective,a1.condition⟩:zm)) fun r2328 =>
    cond (decide (r2328=0)) (
     thn (zb5 (⟨a1.name,a1.left,a1.right,a1.keep,a1.into,a1.injective,a1.condition⟩:zm)) fun r2908 =>
     cond (decide (r2908=0)) (
      thn (zb9 a1.into.nodes) fun r2948 =>
      cond r2948 (
       thn (zb9 a1.into.edges) fun r2950 =>
       cond r2950 (
        thn (zcd (⟨a1.name,a1.left,a1.right,a1.keep,a1.into,a1.injective,a1.condition⟩:zm)) fun r2994 =>
        thn (zd7 a0 a1.right.graph r2994.1 r2994.2) fun r3031 =>
        cond r3031 (
         thn (zcj a0 a1.left a1.condition) fun r3159 =>
         some r3159) <|
        some 13) <|
       some 11) <|
      some 11) <|
     some r2908) <|
    some r2328) <|
   some r2287) <|
  some 2) <|
 some r2169.2

def zdf (a0:zm):Option ((List Int)×(List Int)) :=
 thn (zcs ((a0.left.graph.nodes.length:Nat):Int) a0.keep.nodes) fun r3166 =>
 thn (zcs ((a0.left.graph.edges.length:Nat):Int) a0.keep.edges) fun r3167 =>
 some (r3166,r3167)

def zde (a0:Types) (a1:zm):Option ((List Int)×(List Int)×Int) :=
 thn (zb1 a0 (⟨a1.name,a1.left,a1.right,a1.keep,a1.into,a1.injective,a1.condition⟩:zm)) fun r3160 =>
 cond (decide (r3160=0)) (
  thn (zdf (⟨a1.name,a1.left,a1.right,a1.keep,a1.into,a1.injective,a1.condition⟩:zm)) fun r3168 =>
  some (r3168.1,r3168.2,0)) <|
 some (([]:List Int),([]:List Int),r3160)

def zfm (a0:Int) (a1:Int) (a2:Int):Option Bool :=
 cond (decide (a1≤a0)) (
  some (decide (a0≤a2))) <|
 some false

def zel (a0:Types) (a1:Int) (a2:Int):Option Int :=
 thn (zdt a0) fun r3175 =>
 cond (decide (r3175.2=0)) (
  thn (zfm a1 0 (IntKind.i64.wrap (((a0.nodes.length:Nat):Int) - 1))) fun r3178 =>
  cond r3178 (
   thn (zfm a2 0 (IntKind.i64.wrap (((a0.nodes.length:Nat):Int) - 1))) fun r3180 =>
   cond r3180 (
    some 0) <|
   some 6) <|
  some 6) <|
 some r3175.2

def zcv:Nat→Types→Int→Int →  Option Bool
  | 0,_,_,_=>none
  | n+1,a0,a1,a2 =>
    cond (decide (a1=a2)) (
     some true) <|
    cond (decide (0≤a1)) (
     thn (atZ a0.nodes a1) fun e3191 =>
     thn (zcv n a0 e3191.parent a2) fun r3192 =>
     some r3192) <|
    some false

def zem (a0:Types) (a1:Int):Option ((List Int)×Int) :=
 thn (zel a0 a1 a1) fun r3200 =>
 cond (decide (r3200=0)) (
  chk (a0.nodes.length≤fuel) <|
  forN (fun i3209 (s3209:(List Int)) nxts3209 brks3209 =>
   thn (zcv fuel a0 ((i3209:Nat):Int) a1) fun r3215 =>
   cond r3215 (
    chk (s3209.length+1≤68719476736) <|
    nxts3209 (s3209++[((i3209:Nat):Int)])) <|
   nxts3209 s3209)
  (a0.nodes.length - 0) 0 ([]:List Int) fun s3209 =>
  some (s3209,0)) <|
 some (([]:List Int),r3200)

def zej (a0:Types) (a1:List zm):Option Int :=
 thn (zdt a0) fun r2163 =>
 cond (decide (r2163.2=0)) (
  cond (decide (6 < ((a1.length:Nat):Int))) (
   some 3) <|
  chk (a1.length≤fuel) <|
  forN (fun i3231 (s3231:Unit) nxts3231 brks3231 =>
   thn (a1[i3231]?) fun e3250 =>
   thn (zde a0 e3250) fun r3251 =>
   cond (decide (r3251.2.2=0)) (
    chk (r3251.1.length≤fuel) <|
    forN (fun i3259 (s3259:Unit) nxts3259 brks3259 =>
     thn (r3251.1[i3259]?) fun e3264 =>
     thn (atZ e3250.left.graph.nodes e3264) fun e3265 =>
     thn (zem a0 e3265) fun r3266 =>
     cond (decide (1 < ((r3266.1.length:Nat):Int))) (
      some 13) <|
     nxts3259 ())
    (r3251.1.length - 0) 0 () fun s3259 =>
    nxts3231 ()) <|
   some r3251.2.2)
  (a1.length - 0) 0 () fun s3231 =>
  some 0) <|
 some r2163.2

def zch (a0:Types) (a1:Graph) (a2:List Int) (a3:List Int):Option (List Int) :=
 chk ((IntKind.i64.wrap (((a0.nodes.length:Nat):Int)+((a0.edges.length:Nat):Int))).toNat≤fuel) <|
 forN (fun i3356 (s3356:(List Int)) nxts3356 brks3356 =>
  chk (a2.length≤fuel) <|
  forN (fun i3388 (s3388:Bool) nxts3388 brks3388 =>
   cond s3388 (
    nxts3388 true) <|
   thn (a2[i3388]?) fun e3393 =>
   thn (atZ a1.nodes e3393) fun e3394 =>
   nxts3388 (decide (e3394=((i3356:Nat):Int))))
  (a2.length - 0) 0 false fun s3388 =>
  chk (a3.length≤fuel) <|
  forN (fun i3400 (s3400:Bool) nxts3400 brks3400 =>
   cond s3400 (
    nxts3400 true) <|
   thn (a3[i3400]?) fun e3405 =>
   thn (atZ a1.edges e3405) fun e3406 =>
   nxts3400 (decide ((IntKind.i64.wrap (((a0.nodes.length:Nat):Int)+e3406.type))=((i3356:Nat):Int))))
  (a3.length - 0) 0 s3388 fun s3400 =>
  cond s3400 (
   chk (s3356.length+1≤68719476736) <|
   nxts3356 (s3356++[((i3356:Nat):Int)])) <|
  nxts3356 s3356)
 (((IntKind.i64.wrap (((a0.nodes.length:Nat):Int)+((a0.edges.length:Nat):Int))).toNat) - 0) 0 ([]:List Int) fun s3356 =>
 some s3356

def zcm (a0:Types) (a1:zm):Option (List Int) :=
 thn (zde a0 a1) fun r3273 =>
 thn (zch a0 a1.left.graph r3273.1 r3273.2.1) fun r3411 =>
 some r3411

def zd4 (a0:Types) (a1:zm):Option ((List Int)×(List Int)×Int) :=
 thn (zb1 a0 a1) fun r3445 =>
 cond (decide (r3445=0)) (
  thn (zcd a1) fun r3447 =>
  some (r3447.1,r3447.2,0)) <|
 some (([]:List Int),([]:List Int),r3445)

def zdc (a0:Types) (a1:zm):Option (List Int) :=
 thn (zd4 a0 a1) fun r3448 =>
 thn (zch a0 a1.right.graph r3448.1 r3448.2.1) fun r3449 =>
 some r3449

def zds (a0:Types) (a1:List zm) (a2:List Int):Option ((List Int)×(List Int)) :=
 chk (a2.length≤68719476736) <|
 chk (a1.length≤fuel) <|
 forN (fun i3542 (s3542:(List Int)×(List Int)) nxts3542 brks3542 =>
  thn (a1[i3542]?) fun e3570 =>
  thn (zcm a0 e3570) fun r3571 =>
  thn (zdc a0 e3570) fun r3572 =>
  chk (r3571.length≤fuel) <|
  forN (fun i3577 (s3577:Int) nxts3577 brks3577 =>
   thn (r3571[i3577]?) fun e3580 =>
   thn (atZ a2 e3580) fun e3581 =>
   nxts3577 (max s3577 e3581))
  (r3571.length - 0) 0 0 fun s3577 =>
  chk (s3542.1.length+1≤68719476736) <|
  chk (r3572.length≤fuel) <|
  forN (fun i3590 (s3590:(List Int)) nxts3590 brks3590 =>
   thn (r3572[i3590]?) fun e3594 =>
   thn (atZ s3590 e3594) fun e3595 =>
   nxts3590 (s3590.set e3594.toNat (max e3595 (IntKind.i64.wrap (s3577+1)))))
  (r3572.length - 0) 0 s3542.2 fun s3590 =>
  nxts3542 ((s3542.1++[s3577]),s3590))
 (a1.length - 0) 0 (([]:List Int),a2) fun s3542 =>
 some (s3542.1,s3542.2)

def zca (a0:List Int) (a1:List Int):Option Bool :=
 cond (decide (((a0.length:Nat):Int)=((a1.length:Nat):Int))) (
  chk (a0.length≤fuel) <|
  forN (fun i3604 (s3604:Unit) nxts3604 brks3604 =>
   thn (a0[i3604]?) fun e3608 =>
   thn (a1[i3604]?) fun e3609 =>
   cond (decide (e3608=e3609)) (
    nxts3604 ()) <|
   some false)
  (a0.length - 0) 0 () fun s3604 =>
  some true) <|
 some false

def zdq (a0:Types) (a1:List zm):Option (zbr×Bool) :=
 chk (a1.length≤fuel) <|
 forN (fun i3426 (s3426:Unit) nxts3426 brks3426 =>
  thn (a1[i3426]?) fun e3430 =>
  thn (zcm a0 e3430) fun r3431 =>
  cond (decide (((r3431.length:Nat):Int)=0)) (
   some ((⟨([]:List Int),([]:List Int),([]:List Int)⟩:zbr),false)) <|
  nxts3426 ())
 (a1.length - 0) 0 () fun s3426 =>
 chk (0≤(IntKind.i64.wrap (((a0.nodes.length:Nat):Int)+((a0.edges.length:Nat):Int)))∧(IntKind.i64.wrap (((a0.nodes.length:Nat):Int)+((a0.edges.length:Nat):Int)))≤68719476736) <|
 iter (fun (s3626:(List Int)×Int) nxts3626 brks3626 =>
  cond (decide (s3626.2≤(IntKind.i64.wrap ((IntKind.i64.wrap (((a0.nodes.length:Nat):Int)+((a0.edges.length:Nat):Int)))+1)))) (
   thn (zds (⟨a0.nodes,a0.edges⟩:Types) a1 s3626.1) fun r3636 =>
   thn (zca s3626.1 r3636.2) fun r3637 =>
   cond r3637 (
    chk ((0:Int)≤0∧0≤((a0.nodes.length:Nat):Int)∧((a0.nodes.length:Nat):Int)≤(s3626.1.length:Int)) <|
    chk ((0:Int)≤((a0.nodes.length:Nat):Int)∧((a0.nodes.length:Nat):Int)≤((s3626.1.length:Nat):Int)∧((s3626.1.length:Nat):Int)≤(s3626.1.length:Int)) <|
    some ((⟨r3636.1,(s3626.1.take a0.nodes.length),(s3626.1.drop a0.nodes.length)⟩:zbr),true)) <|
   nxts3626 (r3636.2,(IntKind.i64.wrap (s3626.2+1)))) <|
  brks3626 (s3626.1,s3626.2))
 fuel ((List.replicate ((IntKind.i64.wrap (((a0.nodes.length:Nat):Int)+((a0.edges.length:Nat):Int))).toNat) 0),0) fun s3626 =>
 some ((⟨([]:List Int),([]:List Int),([]:List Int)⟩:zbr),false)

def zdx (a0:Types) (a1:List zm):Option (zbr×Int) :=
 thn (zej a0 a1) fun r3268 =>
 cond (decide (r3268=0)) (
  thn (zdq (⟨a0.nodes,a0.edges⟩:Types) a1) fun r3643 =>
  cond r3643.2 (
   some (r3643.1,0)) <|
  some ((⟨([]:List Int),([]:List Int),([]:List Int)⟩:zbr),10)) <|
 some ((⟨([]:List Int),([]:List Int),([]:List Int)⟩:zbr),r3268)

def zc8 (a0:zbr) (a1:zbr):Option Bool :=
 thn (zca a0.rules a1.rules) fun r3647 =>
 cond r3647 (
  thn (zca a0.nodes a1.nodes) fun r3649 =>
  cond r3649 (
   thn (zca a0.edges a1.edges) fun r3651 =>
   some r3651) <|
  some false) <|
 some false

def zeh (a0:Int):Option Bool :=
 cond (decide (a0 < 0)) (
  some true) <|
 some (decide (100 < a0))

def zee (a0:List Int) (a1:Int):Option Bool :=
 cond (decide (((a0.length:Nat):Int)=a1)) (
  thn (zby a0 (fun x3660=>zeh x3660)) fun r3658 =>
  some (!r3658)) <|
 some false

def zfv (a0:List (List Int)):Option (List Int) :=
 chk (a0.length≤fuel) <|
 forN (fun i3671 (s3671:Int) nxts3671 brks3671 =>
  thn (a0[i3671]?) fun e3674 =>
  cond (decide ((IntKind.i64.wrap (s3671+((e3674.length:Nat):Int))) < 0)) (
   none) <|
  nxts3671 (IntKind.i64.wrap (s3671+((e3674.length:Nat):Int))))
 (a0.length - 0) 0 0 fun s3671 =>
 thn (zlg ([]:List Int) s3671) fun r3676 =>
 chk (a0.length≤fuel) <|
 forN (fun i3683 (s3683:(List Int)) nxts3683 brks3683 =>
  thn (a0[i3683]?) fun e3688 =>
  chk (s3683.length+e3688.length≤68719476736) <|
  nxts3683 (s3683++e3688))
 (a0.length - 0) 0 r3676 fun s3683 =>
 some s3683

def zfe (a0:Int) (a1:List Int) (a2:zbr) (a3:Int):Option Bool :=
 thn (atZ a1 a0) fun e3698 =>
 thn (atZ a2.rules a3) fun e3699 =>
 some (decide (e3699 < e3698))

def ze4 (a0:Int) (a1:List Int) (a2:zbr) (a3:Int):Option Bool :=
 thn (atZ a1 a0) fun e3703 =>
 thn (atZ a2.rules a3) fun e3704 =>
 some (decide (e3703≤e3704))

def zf1 (a0:Types) (a1:List zm) (a2:zbr):Option Bool :=
 thn (ze1 a0 a1) fun r3655 =>
 cond (decide (r3655.2=0)) (
  thn (zee a2.rules ((a1.length:Nat):Int)) fun r3661 =>
  cond r3661 (
   thn (zee a2.nodes ((a0.nodes.length:Nat):Int)) fun r3663 =>
   cond r3663 (
    thn (zee a2.edges ((a0.edges.length:Nat):Int)) fun r3665 =>
    cond r3665 (
     thn (zfv [a2.nodes,a2.edges]) fun r3692 =>
     chk (r3655.1.length≤fuel) <|
     forN (fun i3707 (s3707:Unit) nxts3707 brks3707 =>
      thn (r3655.1[i3707]?) fun e3716 =>
      cond (decide (((e3716.deletes.length:Nat):Int)=0)) (
       some false) <|
      thn (zby e3716.deletes (fun x3719=>zfe x3719 r3692 a2 ((i3707:Nat):Int))) fun r3718 =>
      cond r3718 (
       some false) <|
      thn (zby e3716.creates (fun x3722=>ze4 x3722 r3692 a2 ((i3707:Nat):Int))) fun r3721 =>
      cond r3721 (
       some false) <|
      nxts3707 ())
     (r3655.1.length - 0) 0 () fun s3707 =>
     some true) <|
    some false) <|
   some false) <|
  some false) <|
 some false

def zc9 (a0:Types) (a1:List zm):Option Bool :=
 thn (zc1) fun r1958 =>
 cond r1958 (
  thn (zd6 (⟨a0.nodes,a0.edges⟩:Types) a1) fun r2159 =>
  cond r2159 (
   thn (zij a1) fun r2161 =>
   thn (zdl (⟨a0.nodes,a0.edges⟩:Types) r2161) fun r2162 =>
   thn (zdx (⟨a0.nodes,a0.edges⟩:Types) a1) fun r3645 =>
   cond (decide (r2162.2=r3645.2)) (
    thn (zc8 r2162.1 r3645.1) fun r3652 =>
    cond r3652 (
     cond (decide (r2162.2=0)) (
      thn (zf1 (⟨a0.nodes,a0.edges⟩:Types) a1 r2162.1) fun r3724 =>
      some r3724) <|
     some true) <|
    some false) <|
   some false) <|
  thn (zc1) fun r3725 =>
  some r3725) <|
 thn (zc1) fun r3726 =>
 some r3726

end
end Go.Proofs.YtimojjnmmlhijaaGreat
namespace Go.Proofs.YtimojjnmmlhijaaGreat
open Go.Abs

theorem memD {α:Type} [Inhabited α] {l:List α} {x:α} (h:x∈l):∃ j,j < l.length∧l.getD j default=x:=by
 obtain ⟨j,hj,rfl⟩:=List.mem_iff_getElem.1 h
 exact ⟨j,hj,by simp [hj]⟩
theorem zbi {n:Nat} (h:n≤4000000000000000000):n≤fuel:=by unfold fuel; omega
theorem zm7 {l:List Int} {p:Int→Option Bool} (q:Int→Bool) (hl:l.length≤1000000) (hp:∀ x∈l,p x=some (q x)):zev l p=some (idxQ q l):=by
 unfold zev
 rw [chk_t (zbi (by omega))]
 refine zhz l q (fun i hi nxt=>?_) rfl
 rw [zb3 hi,zh (hp _ (List.getElem_mem hi))]
theorem zmd {l:List Edge} {p:Edge→Option Bool} (q:Edge→Bool) (hl:l.length≤1000000) (hp:∀ x∈l,p x=some (q x)):zek l p=some (idxQ q l):=by
 unfold zek
 rw [chk_t (zbi (by omega))]
 refine zhz l q (fun i hi nxt=>?_) rfl
 rw [zb3 hi,zh (hp _ (List.getElem_mem hi))]
theorem zml {l:List zbs} {p:zbs→Option Bool} (q:zbs→Bool) (hl:l.length≤1000000) (hp:∀ x∈l,p x=some (q x)):zeo l p=some (idxQ q l):=by
 unfold zeo
 rw [chk_t (zbi (by omega))]
 refine zhz l q (fun i hi nxt=>?_) rfl
 rw [zb3 hi,zh (hp _ (List.getElem_mem hi))]
theorem zkw {l:List NodeT} {p:NodeT→Option Bool} (q:NodeT→Bool) (hl:l.length≤1000000) (hp:∀ x∈l,p x=some (q x)):zdn l p=some (idxQ q l):=by
 unfold zdn
 rw [chk_t (zbi (by omega))]
 refine zhz l q (fun i hi nxt=>?_) rfl
 rw [zb3 hi,zh (hp _ (List.getElem_mem hi))]
theorem zgp {l:List zl} {p:zl→Option Bool} (q:zl→Bool) (hl:l.length≤1000000) (hp:∀ x∈l,p x=some (q x)):zb7 l p=some (idxQ q l):=by
 unfold zb7
 rw [chk_t (zbi (by omega))]
 refine zhz l q (fun i hi nxt=>?_) rfl
 rw [zb3 hi,zh (hp _ (List.getElem_mem hi))]
theorem zkj {l:List zi} {p:zi→Option Bool} (q:zi→Bool) (hl:l.length≤1000000) (hp:∀ x∈l,p x=some (q x)):zdi l p=some (idxQ q l):=by
 unfold zdi
 rw [chk_t (zbi (by omega))]
 refine zhz l q (fun i hi nxt=>?_) rfl
 rw [zb3 hi,zh (hp _ (List.getElem_mem hi))]
theorem zcl {l:List Int} {p:Int→Option Bool} (q:Int→Bool) (hl:l.length≤1000000) (hp:∀ x∈l,p x=some (q x)):zby l p=some (l.any q):=by
 unfold zby
 rw [zh (zm7 q hl hp),zjw]
theorem zie {l:List Edge} {p:Edge→Option Bool} (q:Edge→Bool) (hl:l.length≤1000000) (hp:∀ x∈l,p x=some (q x)):zc4 l p=some (l.any q):=by
 unfold zc4
 rw [zh (zmd q hl hp),zjw]
theorem zh9 {l:List zbs} {p:zbs→Option Bool} (q:zbs→Bool) (hl:l.length≤1000000) (hp:∀ x∈l,p x=some (q x)):zci l p=some (l.any q):=by
 unfold zci
 rw [zh (zml q hl hp),zjw]
theorem zkf {l:List NodeT} {p:NodeT→Option Bool} (q:NodeT→Bool) (hl:l.length≤1000000) (hp:∀ x∈l,p x=some (q x)):zdb l p=some (l.any q):=by
 unfold zdb
 rw [zh (zkw q hl hp),zjw]
theorem zio {l:List zl} {p:zl→Option Bool} (q:zl→Bool) (hl:l.length≤1000000) (hp:∀ x∈l,p x=some (q x)):zce l p=some (l.any q):=by
 unfold zce
 rw [zh (zgp q hl hp),zjw]
theorem zj3 {l:List zi} {p:zi→Option Bool} (q:zi→Bool) (hl:l.length≤1000000) (hp:∀ x∈l,p x=some (q x)):zbu l p=some (l.any q):=by
 unfold zbu
 rw [zh (zkj q hl hp),zjw]
theorem zl2 (n a b:Int):zda n a b=some (decide (a≤n) && decide (n≤b)):=by
 unfold zda
 cases decide (a≤n) <;> rfl

theorem zk9 {t:Types} (h:FewT t):zib t=some (validT t):=giv_t h
theorem zhj {t:Types} (h:FewT t):zdt t=some (validT t):=giv_t h
theorem zlc {g:Graph} (h:FewG g):zdv g=some (validG g):=giv_t h
theorem zc6 {g:Graph} (h:FewG g):zc0 g=some (validG g):=giv_t h
theorem zbb4 {s:ByteArray} (h:s.size≤1000000):zki s=some (nameB s):=giv_t h
theorem zve {s:ByteArray} (h:s.size≤1000000):zgy s=some (nameB s):=giv_t h
theorem zbfc {t:Types} (h:FewT t) (e a b:Int):zly t e a b=some (fitsT t e a b):=giv_t h
theorem zbed {t:Types} (h:FewT t) (e a b:Int):zhc t e a b=some (fitsT t e a b):=giv_t h

def termB (n:Int) (x:zic):Bool:=decide (-1≤x.var) && (decide (x.var < n) && (decide (-1000000≤x.add) && decide (x.add≤1000000)))
def testE (n:Int) (x:zcq):Int:=if x.kind=1∨x.kind=2 then (if (termB n x.left && termB n x.right)=true then 0 else 6) else 1
def testsE (n:Int) (l:List zcq):Int:=if n < 0∨12 < n then 6 else if 40 < l.length then 3 else errL (testE n) l
theorem zbfj (n:Int) (x:zic):zdz n x=some (termB n x):=by
 unfold zdz termB
 cases decide (-1≤x.var) <;> cases decide (x.var < n) <;> cases decide (-1000000≤x.add) <;> rfl
theorem z7t (n:Int) (x:zic):zcg n x=some (if termB n x=true then 0 else 6):=by
 unfold zcg termB
 simp only [zo,Bool.and_eq_true,decide_eq_true_eq]
 by_cases h1:x.var < -1
 ·rw [if_pos h1,if_neg (by omega)]
 rw [if_neg h1]
 by_cases h2:n≤x.var
 ·rw [if_pos h2,if_neg (by omega)]
 rw [if_neg h2]
 by_cases h3:x.add < -1000000
 ·rw [if_pos h3,if_neg (by omega)]
 rw [if_neg h3]
 by_cases h4:1000000 < x.add
 ·rw [if_pos h4,if_neg (by omega)]
 ·rw [if_neg h4,if_pos (by omega)]
theorem l_one (n:Int) (x:zcq):zgx n x=some (testE n x):=by
 unfold zgx testE
 simp only [zh (zbfj n _),zo]
 by_cases h1:x.kind=1
 ·rw [if_pos h1,if_pos (.inl h1)]
  cases termB n x.left <;> cases termB n x.right <;> rfl
 ·rw [if_neg h1]
  by_cases h2:x.kind=2
  ·rw [if_pos h2,if_pos (.inr h2)]
   cases termB n x.left <;> cases termB n x.right <;> rfl
  ·rw [if_neg h2,if_neg (by omega)]
theorem zbff (n:Int) (x:zcq):zfg n x=some (testE n x):=by
 unfold zfg testE
 simp only [zh (z7t n _),zo]
 by_cases h1:x.kind=1
 ·rw [if_pos h1,if_pos (show x.kind=1∨x.kind=2 from .inl h1)]
  cases termB n x.left <;> cases termB n x.right <;> rfl
 ·rw [if_neg h1]
  by_cases h2:x.kind=2
  ·rw [if_pos h2,if_pos (show x.kind=1∨x.kind=2 from .inr h2)]
   cases termB n x.left <;> cases termB n x.right <;> rfl
  ·rw [if_neg h2,if_neg (show ¬ (x.kind=1∨x.kind=2) by omega)]
theorem zbdq (n:Int) (l:List zcq) (hl:l.length≤1000000):zgc n l=some (testsE n l):=by
 unfold zgc testsE
 simp only [zo]
 by_cases h1:n < 0
 ·rw [if_pos h1,if_pos (.inl h1)]
 rw [if_neg h1]
 by_cases h2:12 < n
 ·rw [if_pos h2,if_pos (.inr h2)]
 rw [if_neg h2,if_neg (show ¬ (n < 0∨12 < n) by omega)]
 by_cases h3:40 < l.length
 ·rw [if_pos (show (40:Int) < ((l.length:Nat):Int) by omega),if_pos h3]
 rw [if_neg (show ¬ (40:Int) < ((l.length:Nat):Int) by omega),if_neg h3,chk_t (zbi (by omega))]
 rw [zcp l (fun x=>decide (testE n x=0)) (fun x=>some (testE n x)) (fun i hi nxt=>by rw [zb3 hi,zh (l_one n _),← zo])]
 exact zhv rfl
theorem zbbi (n:Int) (l:List zcq) (hl:l.length≤1000000):zei n l=some (testsE n l):=by
 unfold zei testsE
 simp only [zo]
 by_cases h1:n < 0
 ·rw [if_pos h1,if_pos (.inl h1)]
 rw [if_neg h1]
 by_cases h2:12 < n
 ·rw [if_pos h2,if_pos (.inr h2)]
 rw [if_neg h2,if_neg (show ¬ (n < 0∨12 < n) by omega)]
 by_cases h3:40 < l.length
 ·rw [if_pos (show (40:Int) < ((l.length:Nat):Int) by omega),if_pos h3]
 rw [if_neg (show ¬ (40:Int) < ((l.length:Nat):Int) by omega),if_neg h3,chk_t (zbi (by omega))]
 rw [zcp l (fun x=>decide (testE n x=0)) (fun x=>some (testE n x)) (fun i hi nxt=>by rw [zb3 hi,zh (zbff n _),← zo])]
 exact zhv rfl

def typedB (t:Types) (g:Graph):Bool:=g.nodes.all (fun n=>decide (n < t.nodes.length)) && g.edges.all (fun e=>decide (e.type < t.edges.length))
theorem zjf {α:Type} (l:List α) (p:α→Bool):l.any (fun x=>!p x) = !l.all p:=by
 induction l with
 | nil=>rfl
 | cons a l ih=>simp [ih]
theorem zum (t:Types) (l:List Int):(l.any fun n=>decide (((t.nodes.length:Nat):Int)≤n)) = !l.all fun n=>decide (n < t.nodes.length):=by
 rw [← zjf]
 congr 1
 funext n
 by_cases h:n < t.nodes.length
 ·simp [h,Int.not_le.2 h]
 ·simp [h,Int.not_lt.1 h]
theorem zun (t:Types) (l:List Edge):(l.any fun e=>decide (((t.edges.length:Nat):Int)≤e.type)) = !l.all fun e=>decide (e.type < t.edges.length):=by
 rw [← zjf]
 congr 1
 funext n
 by_cases h:n.type < t.edges.length
 ·simp [h,Int.not_le.2 h]
 ·simp [h,Int.not_lt.1 h]
theorem zbcy (t:Types) {g:Graph} (hg:FewG g):zi3 t g=some (typedB t g):=by
 have h1:=hg.nodes
 have h2:=hg.edges
 unfold zi3 typedB
 rw [zh (zcl (p:=fun x=>zhl x ⟨t.nodes,t.edges⟩) (fun n=>decide (((t.nodes.length:Nat):Int)≤n)) (by omega) fun x _=>rfl),zh (zie (p:=fun x=>zhk x ⟨t.nodes,t.edges⟩) (fun e=>decide (((t.edges.length:Nat):Int)≤e.type)) (by omega) fun x _=>rfl)]
 rw [zum,zun]
 cases g.nodes.all _ <;> simp
theorem OkG.nn {g:Graph} (h:OkG g):(∀ n∈g.nodes,0≤n)∧∀ e∈g.edges,0≤e.type:=by
 refine ⟨fun n hn=>?_,fun e he=>?_⟩
 ·obtain ⟨j,hj,rfl⟩:=memD hn
  exact (h.kind j hj).1
 ·obtain ⟨j,hj,rfl⟩:=memD he
  exact (h.edge j hj).1.1
theorem zwv (t:Types) {g:Graph} (hg:OkG g):zdu t g=some (typedB t g):=by
 have h1:=hg.nodes
 have h2:=hg.edges
 obtain ⟨h3,h4⟩:=hg.nn
 unfold zdu typedB
 rw [chk_t (zbi (by omega)),chk_t (zbi (by omega))]
 rw [zcp g.nodes (fun n=>decide (n < t.nodes.length)) (fun _=>some false) (fun i hi nxt=>?_),zd1]
 ·rw [zcp g.edges (fun e=>decide (e.type < t.edges.length)) (fun _=>some false) (fun i hi nxt=>?_),zd1]
  ·cases g.nodes.all _ <;> cases g.edges.all _ <;> rfl
  ·rw [zb3 hi]
   have:=h4 _ (List.getElem_mem hi)
   rw [zo,if_neg (by omega),zo,zo]
   by_cases h:g.edges[i].type < t.edges.length
   ·rw [if_pos h,if_neg (by omega)]
   ·rw [if_neg h,if_pos (by omega)]
 ·rw [zb3 hi]
  have:=h3 _ (List.getElem_mem hi)
  rw [zo,if_neg (by omega),zo,zo]
  by_cases h:g.nodes[i] < t.nodes.length
  ·rw [if_pos h,if_neg (by omega)]
  ·rw [if_neg h,if_pos (by omega)]

def attrsN (t:Types) (g:Graph) (n:Int):List Attr:=attrsAt t (g.nodes.getD n.toNat default).toNat
def slotB (t:Types) (g:Graph) (vars:Int) (s:zbs):Bool:=(decide (0≤s.node) && decide (s.node < g.nodes.length)) && ((decide (0≤s.attr) && decide (s.attr < (attrsN t g s.node).length)) && termB vars s.term)
theorem zjl {t:Types} {g:Graph} (h:typedB t g=true) (ho:OkG g) {i:Nat} (hi:i < g.nodes.length):0≤g.nodes[i]∧g.nodes[i] < t.nodes.length:=by
 unfold typedB at h
 rw [Bool.and_eq_true] at h
 have h1:=List.all_eq_true.1 h.1 _ (List.getElem_mem hi)
 exact ⟨ho.nn.1 _ (List.getElem_mem hi),of_decide_eq_true h1⟩
theorem z2p {t:Types} (ht:OkT t) {a:Int} (h0:0≤a) (h1:a < t.nodes.length):(attrsAt t a.toNat).length≤1000:=by
 have:=zhd ht.few (a:=a.toNat) (by omega) (ht.par' (by omega))
 omega
theorem zb6 {α:Type} [Inhabited α] {l:List α} {i:Nat} (h:i < l.length):l.getD i default=l[i]:=by simp [h]
theorem z0u {t:Types} (ht:OkT t) {a:Int} (h:0≤a∧a < t.nodes.length):zjk t a=some (attrsAt t a.toNat,0):=giv_t ⟨ht,h.1,h.2⟩
theorem zwp {t:Types} (ht:OkT t) {a:Int} (h:0≤a∧a < t.nodes.length):zft t a=some (attrsAt t a.toNat,0):=giv_t ⟨ht,h.1,h.2⟩
def attrB (t:Types) (g:Graph) (n a:Int):Bool:=(decide (0≤n) && decide (n < g.nodes.length)) && (decide (0≤a) && decide (a < (attrsN t g n).length))
theorem zbe8 {t:Types} (ht:OkT t) {p:zx} (hg:OkG p.graph) (hb:typedB t p.graph=true) (s:zbs):∃ x,zgw t p s=some (x,attrB t p.graph s.node s.attr):=by
 have h1:=hg.nodes
 unfold zgw attrB
 rw [zh (zl2 _ _ _),wrapI (by omega)]
 have e1:decide (s.node≤((p.graph.nodes.length:Nat):Int) - 1)=decide (s.node < (p.graph.nodes.length:Int)):=by congr 1; exact propext (by omega)
 rw [e1]
 cases hn:decide (0≤s.node) with
 | false=>exact ⟨_,rfl⟩
 | true =>
  cases hn2:decide (s.node < (p.graph.nodes.length:Int)) with
  | false=>exact ⟨_,rfl⟩
  | true =>
   have hn:=of_decide_eq_true hn
   have hn2:=of_decide_eq_true hn2
   have hi:s.node.toNat < p.graph.nodes.length:=by omega
   have hk:=zjl hb hg hi
   rw [Bool.and_self,cond_true,zig hn hi,zh (z0u ht hk),zh (zl2 _ _ _)]
   have hlen:=z2p ht hk.1 hk.2
   simp only [attrsN,zb6 hi,Bool.true_and]
   rw [wrapI (by omega)]
   have e2:decide (s.attr≤(((attrsAt t (p.graph.nodes[s.node.toNat]).toNat).length:Nat):Int) - 1)=decide (s.attr < ((attrsAt t (p.graph.nodes[s.node.toNat]).toNat).length:Int)):=by congr 1; exact propext (by omega)
   rw [e2]
   cases ha:decide (0≤s.attr) with
   | false=>exact ⟨_,rfl⟩
   | true =>
    cases ha2:decide (s.attr < ((attrsAt t (p.graph.nodes[s.node.toNat]).toNat).length:Int)) with
    | false=>exact ⟨_,rfl⟩
    | true =>
     have ha:=of_decide_eq_true ha
     have ha2:=of_decide_eq_true ha2
     rw [Bool.and_self,cond_true,zig ha (by omega)]
     exact ⟨_,rfl⟩
theorem zbel {t:Types} (ht:OkT t) {p:zx} (hg:OkG p.graph) (hb:typedB t p.graph=true) (n a:Int):∃ x,zet t p n a=some (x,attrB t p.graph n a):=by
 unfold zet attrB
 simp only [zo]
 by_cases hn:n < 0
 ·rw [if_pos hn,decide_eq_false (by omega:¬ 0≤n)]; exact ⟨_,rfl⟩
 rw [if_neg hn,decide_eq_true (by omega:0≤n)]
 by_cases hn2:(p.graph.nodes.length:Int)≤n
 ·rw [if_pos hn2,decide_eq_false (by omega:¬ n < (p.graph.nodes.length:Int))]; exact ⟨_,rfl⟩
 rw [if_neg hn2,decide_eq_true (by omega:n < (p.graph.nodes.length:Int))]
 have hi:n.toNat < p.graph.nodes.length:=by omega
 have hk:=zjl hb hg hi
 rw [zig (by omega) hi,zh (zwp ht hk),if_pos rfl]
 simp only [attrsN,zb6 hi,Bool.true_and]
 by_cases ha:a < 0
 ·rw [if_pos ha,decide_eq_false (by omega:¬ 0≤a)]; exact ⟨_,rfl⟩
 rw [if_neg ha,decide_eq_true (by omega:0≤a)]
 by_cases ha2:((attrsAt t (p.graph.nodes[n.toNat]).toNat).length:Int)≤a
 ·rw [if_pos ha2,decide_eq_false (by omega:¬ a < ((attrsAt t (p.graph.nodes[n.toNat]).toNat).length:Int))]; exact ⟨_,rfl⟩
 rw [if_neg ha2,decide_eq_true (by omega:a < ((attrsAt t (p.graph.nodes[n.toNat]).toNat).length:Int)),zig (by omega) (by omega)]
 exact ⟨_,rfl⟩
theorem zxe (t:Types) (g:Graph) (vars:Int) (s:zbs):slotB t g vars s=(attrB t g s.node s.attr && termB vars s.term):=by
 unfold slotB attrB
 cases decide (0≤s.node) <;> cases decide (s.node < (g.nodes.length:Int)) <;> cases decide (0≤s.attr) <;> cases decide (s.attr < ((attrsN t g s.node).length:Int)) <;> rfl
end Go.Proofs.YtimojjnmmlhijaaGreat
namespace Go.Proofs.YtimojjnmmlhijaaGreat
open Go.Abs

structure FewP (p:zx):Prop where
 graph:FewG p.graph
 slots:p.slots.length≤15
 tests:p.tests.length≤15
def occB (l:List zbs) (v:Int):Bool:=l.any fun s=>decide (s.term.var=v)
def allOcc (p:zx) (lo:Nat):Bool:=(List.range' lo (p.vars.toNat - lo)).all fun v:Nat=>occB p.slots (v:Int)
def patE (t:Types) (p:zx):Int :=
 if (validT t).2≠0 then (validT t).2 else if validG p.graph≠0 then validG p.graph else if typedB t p.graph=false then 13
 else if p.vars < 0∨12 < p.vars then 6 else if 10 < p.slots.length∨10 < p.tests.length then 3
 else if p.slots.all (slotB t p.graph p.vars)=false then 6 else if testsE p.vars p.tests≠0 then testsE p.vars p.tests
 else if allOcc p 0=false then 9 else 0

theorem z95 (p:zx) (hp:p.slots.length≤1000000) (v:Int):zeb p v=some (occB p.slots v):=by
 unfold zeb occB
 rw [chk_t (zbi (by omega))]
 rw [zcp p.slots (fun s=>!decide (s.term.var=v)) (fun _=>some true) (fun i hi nxt=>by
  rw [zb3 hi]
  cases decide (p.slots[i].term.var=v) <;> rfl),zd1]
 rw [← Bool.not_not (List.any _ _),← List.not_any_eq_all_not]
 simp only [Bool.not_not]
 cases p.slots.any fun s=>decide (s.term.var=v) <;> simp
def usedL (n:Nat) (l:List zbs):List Bool:=(List.range n).map fun v:Nat=>occB l (v:Int)
theorem zul (n:Nat) (l:List zbs):(usedL n l).length=n:=by simp [usedL]
theorem z2e (n:Nat) (l:List zbs) (s:zbs) (h:s.term.var < n) (h0:0≤s.term.var):(usedL n l).set s.term.var.toNat true=usedL n (l++[s]):=by
 refine List.ext_getElem (by simp [usedL]) fun i h1 h2=>?_
 simp only [usedL,List.getElem_set,List.getElem_map,List.getElem_range,occB,List.any_append,List.any_cons,List.any_nil,Bool.or_false]
 by_cases hi:s.term.var.toNat=i
 ·rw [if_pos hi,decide_eq_true (by omega:s.term.var=(i:Int)),Bool.or_true]
 ·rw [if_neg hi,decide_eq_false (by omega:¬ s.term.var=(i:Int)),Bool.or_false]
theorem z5s (n:Nat) (l:List zbs) (s:zbs) (h0:¬ 0≤s.term.var):usedL n l=usedL n (l++[s]):=by
 refine List.ext_getElem (by simp [usedL]) fun i h1 h2=>?_
 simp only [usedL,List.getElem_map,List.getElem_range,occB,List.any_append,List.any_cons,List.any_nil,Bool.or_false]
 rw [decide_eq_false (by omega:¬ s.term.var=(i:Int)),Bool.or_false]
theorem zs5 (l:List Bool) (hl:l.length≤1000000):zew l false=some (!l.all id):=by
 unfold zew zg0
 rw [chk_t (zbi (by omega))]
 rw [zh (zhz l (fun b=>!b) (fun i hi nxt=>by
  rw [zb3 hi]
  cases l[i] <;> rfl) rfl),zjw]
 congr 1
 induction l with
 | nil=>rfl
 | cons a l ih =>
  simp only [List.length_cons] at hl
  rw [List.any_cons,List.all_cons,ih (by omega)]
  cases a <;> simp
theorem z8e (n:Nat) (l:List zbs):(usedL n l).all id=(List.range n).all fun v:Nat=>occB l (v:Int):=by
 unfold usedL
 rw [List.all_map]
 rfl
theorem z4j {t:Types} {g:Graph} {n:Int} {s:zbs} (h:slotB t g n s=true) : -1≤s.term.var∧s.term.var < n:=by
 unfold slotB termB at h
 simp only [Bool.and_eq_true,decide_eq_true_eq] at h
 omega
theorem z3e {f : Nat → List Bool → (List Bool → Option Int) → (List Bool → Option Int) → Option Int} {K : List Bool → Option Int} (l : List zbs) (n : Nat) (p : zbs → Bool) (hp : ∀ s ∈ l, p s = true → s.term.var < n)
  (h:∀ i (hi:i < l.length) s nxt,s.length=n→f i s nxt K=cond (p l[i]) (if 0≤l[i].term.var then nxt (s.set l[i].term.var.toNat true) else nxt s) (some 6)) :
  forN f (l.length - 0) 0 (usedL n []) K=if l.all p=false then some 6 else K (usedL n l):=by
 have key:∀ (k i:Nat),i+k=l.length→forN f k i (usedL n (l.take i)) K=if (l.drop i).all p=false then some 6 else K (usedL n l):=by
  intro k
  induction k with
  | zero =>
   intro i hk
   rw [List.drop_eq_nil_of_le (by omega),List.take_of_length_le (by omega)]
   rfl
  | succ k ih =>
   intro i hk
   have hi:i < l.length:=by omega
   rw [forN,h i hi _ _ (zul _ _),List.drop_eq_getElem_cons hi,List.all_cons]
   cases hq:p l[i] with
   | false=>simp
   | true =>
    have h1:=ih (i+1) (by omega)
    rw [List.take_add_one,List.getElem?_eq_getElem hi,Option.toList_some] at h1
    rw [cond_true,Bool.true_and]
    split
    ·rename_i h0
     rw [z2e n _ _ (hp _ (List.getElem_mem hi) hq) h0]
     exact h1
    ·rename_i h0
     rw [z5s n _ _ h0]
     exact h1
 have:=key (l.length - 0) 0 (by omega)
 simpa using this
theorem zhh {t:Types} (hf:FewT t) {p:zx} (hp:FewP p):zer t p=some (patE t p):=by
 have hs:=hp.slots
 have hts:=hp.tests
 have hgn:=hp.graph.nodes
 have hge:=hp.graph.edges
 unfold zer patE
 rw [zh (zk9 hf),zo]
 by_cases h1:¬ ((validT t).2=0)
 ·rw [if_neg h1,if_pos h1]
 have h1:(validT t).2=0:=Decidable.of_not_not h1
 have ht:=okTypes hf h1
 rw [if_pos h1,if_neg (by simp [h1]),zh (zlc hp.graph),zo]
 by_cases h2:¬ (validG p.graph=0)
 ·rw [if_neg h2,if_pos h2]
 have h2:validG p.graph=0:=Decidable.of_not_not h2
 have hg:=okG h2
 rw [if_pos h2,if_neg (by simp [h2])]
 rw [zh (zcl (p:=fun x=>zfx x t) (fun n=>decide (((t.nodes.length:Nat):Int)≤n)) (by omega) fun x _=>rfl),zh (zie (p:=fun x=>zfw x t) (fun e=>decide (((t.edges.length:Nat):Int)≤e.type)) (by omega) fun x _=>rfl)]
 rw [zum,zun]
 by_cases h3:typedB t p.graph=false
 ·rw [if_pos h3]
  unfold typedB at h3
  revert h3
  cases p.graph.nodes.all _ <;> cases p.graph.edges.all _ <;> simp
 rw [if_neg h3]
 have h3:typedB t p.graph=true:=by simpa using h3
 have h3':=h3
 unfold typedB at h3'
 rw [Bool.and_eq_true] at h3'
 rw [h3'.1,h3'.2,Bool.not_true,cond_false,cond_false,zh (zl2 _ _ _)]
 by_cases h4:p.vars < 0∨12 < p.vars
 ·rw [if_pos h4]
  have:(decide (0≤p.vars) && decide (p.vars≤12))=false:=by
   rw [Bool.and_eq_false_iff]
   rcases h4 with h4 | h4
   ·exact .inl (decide_eq_false (by omega))
   ·exact .inr (decide_eq_false (by omega))
  rw [this]; rfl
 rw [if_neg h4]
 obtain ⟨n,hn⟩:∃ n:Nat,p.vars=n:=⟨p.vars.toNat,by omega⟩
 rw [decide_eq_true (by omega:0≤p.vars),decide_eq_true (by omega:p.vars≤12),Bool.and_self,cond_true,zo,zo]
 by_cases h5:10 < p.slots.length
 ·rw [if_pos (show (10:Int) < ((p.slots.length:Nat):Int) by omega),if_pos (show 10 < p.slots.length∨10 < p.tests.length from .inl h5)]
 rw [if_neg (show ¬ (10:Int) < ((p.slots.length:Nat):Int) by omega)]
 by_cases h6:10 < p.tests.length
 ·rw [if_pos (show (10:Int) < ((p.tests.length:Nat):Int) by omega),if_pos (show 10 < p.slots.length∨10 < p.tests.length from .inr h6)]
 rw [if_neg (show ¬ (10:Int) < ((p.tests.length:Nat):Int) by omega),if_neg (show ¬ (10 < p.slots.length∨10 < p.tests.length) by omega),chk_t (by omega),chk_t (zbi (by omega))]
 have e0:List.replicate p.vars.toNat false=usedL n []:=by
  rw [hn,Int.toNat_natCast]
  refine List.ext_getElem (by simp [usedL]) fun i h1 h2=>?_
  simp [usedL,occB]
 rw [e0,z3e p.slots n (slotB t p.graph p.vars) (fun s _ h=>by have:=(z4j h).2; omega) (fun i hi s nxt hl=>?_)]
 ·by_cases h7:p.slots.all (slotB t p.graph p.vars)=false
  ·rw [if_pos h7,if_pos h7]
  rw [if_neg h7,if_neg h7,zh (zbdq _ _ (by omega)),zo]
  by_cases h8:¬ (testsE p.vars p.tests=0)
  ·rw [if_neg h8,if_pos h8]
  have h8:testsE p.vars p.tests=0:=Decidable.of_not_not h8
  rw [if_pos h8,if_neg (by simp [h8]),zh (zs5 _ (by rw [zul]; omega)),z8e]
  have e1:((List.range n).all fun v:Nat=>occB p.slots (v:Int))=allOcc p 0:=by
   unfold allOcc
   rw [hn,Int.toNat_natCast,Nat.sub_zero,List.range_eq_range']
  rw [e1]
  cases allOcc p 0 <;> rfl
 ·rw [zb3 hi]
  obtain ⟨x,hx⟩:=zbe8 ht hg h3 p.slots[i]
  rw [zh hx,zxe]
  simp only
  cases ha:attrB t p.graph p.slots[i].node p.slots[i].attr with
  | false=>rfl
  | true =>
   rw [cond_true,zh (zl2 _ _ _),wrapI (by omega),zh (zl2 _ _ _),Bool.true_and]
   unfold termB
   have e2:decide (p.slots[i].term.var≤p.vars - 1)=decide (p.slots[i].term.var < p.vars):=by congr 1; exact propext (by omega)
   rw [e2,zo]
   cases hv1:decide (-1≤p.slots[i].term.var) with
   | false=>rfl
   | true =>
    cases hv2:decide (p.slots[i].term.var < p.vars) with
    | false=>rfl
    | true =>
     have hv2:=of_decide_eq_true hv2
     cases decide (-1000000≤p.slots[i].term.add) <;> cases decide (p.slots[i].term.add≤1000000) <;> try rfl
     simp only [Bool.and_self,cond_true]
     split
     ·rename_i h0
      rw [zig h0 (by rw [hl]; omega)]
     ·rfl
theorem zf7 {t:Types} (hf:FewT t) {p:zx} (hp:FewP p):zc2 t p=some (patE t p):=by
 have hs:=hp.slots
 have hts:=hp.tests
 unfold zc2 patE
 rw [zh (zhj hf),zo]
 by_cases h1:¬ ((validT t).2=0)
 ·rw [if_neg h1,if_pos h1]
 have h1:(validT t).2=0:=Decidable.of_not_not h1
 have ht:=okTypes hf h1
 rw [if_pos h1,if_neg (by simp [h1]),zh (zc6 hp.graph),zo]
 by_cases h2:¬ (validG p.graph=0)
 ·rw [if_neg h2,if_pos h2]
 have h2:validG p.graph=0:=Decidable.of_not_not h2
 have hg:=okG h2
 rw [if_pos h2,if_neg (by simp [h2]),zh (zwv t hg)]
 cases h3:typedB t p.graph with
 | false=>rfl
 | true =>
 rw [cond_true,if_neg (by simp)]
 simp only [zo]
 by_cases h4:p.vars < 0
 ·rw [if_pos h4,if_pos (show p.vars < 0∨12 < p.vars from .inl h4)]
 rw [if_neg h4]
 by_cases h4':12 < p.vars
 ·rw [if_pos h4',if_pos (show p.vars < 0∨12 < p.vars from .inr h4')]
 rw [if_neg h4',if_neg (show ¬ (p.vars < 0∨12 < p.vars) by omega)]
 obtain ⟨n,hn⟩:∃ n:Nat,p.vars=n:=⟨p.vars.toNat,by omega⟩
 by_cases h5:10 < p.slots.length
 ·rw [if_pos (show (10:Int) < ((p.slots.length:Nat):Int) by omega),if_pos (show 10 < p.slots.length∨10 < p.tests.length from .inl h5)]
 rw [if_neg (show ¬ (10:Int) < ((p.slots.length:Nat):Int) by omega)]
 by_cases h6:10 < p.tests.length
 ·rw [if_pos (show (10:Int) < ((p.tests.length:Nat):Int) by omega),if_pos (show 10 < p.slots.length∨10 < p.tests.length from .inr h6)]
 rw [if_neg (show ¬ (10:Int) < ((p.tests.length:Nat):Int) by omega),if_neg (show ¬ (10 < p.slots.length∨10 < p.tests.length) by omega),chk_t (zbi (by omega))]
 rw [zcp p.slots (slotB t p.graph p.vars) (fun _=>some 6) (fun i hi nxt=>?_),zd1]
 ·cases h7:p.slots.all (slotB t p.graph p.vars) with
  | false=>rfl
  | true =>
  rw [if_pos rfl,if_neg (by simp),zh (zbbi _ _ (by omega))]
  by_cases h8:¬ (testsE p.vars p.tests=0)
  ·rw [if_neg h8,if_pos h8]
  have h8:testsE p.vars p.tests=0:=Decidable.of_not_not h8
  rw [if_pos h8,if_neg (by simp [h8]),chk_t (zbi (by omega))]
  rw [zi4 (fun v:Nat=>occB p.slots (v:Int)) (fun _=>some 9) (fun j hj nxt=>by rw [zh (z95 _ (by simp only; omega) _)])]
  rw [zd1]
  unfold allOcc
  rw [Nat.sub_zero,← List.range_eq_range']
  cases (List.range p.vars.toNat).all fun v:Nat=>occB p.slots (v:Int) <;> rfl
 ·rw [zb3 hi]
  obtain ⟨x,hx⟩:=zbel ht hg h3 p.slots[i].node p.slots[i].attr
  rw [zh hx,zxe]
  simp only
  cases ha:attrB t p.graph p.slots[i].node p.slots[i].attr with
  | false=>rfl
  | true =>
   rw [cond_true,Bool.true_and]
   unfold termB zfj
   by_cases hv1:p.slots[i].term.var < -1
   ·rw [if_pos hv1,decide_eq_false (by omega:¬ -1≤p.slots[i].term.var)]; rfl
   rw [if_neg hv1,decide_eq_true (by omega : -1≤p.slots[i].term.var)]
   by_cases hv2:p.vars≤p.slots[i].term.var
   ·rw [if_pos hv2,decide_eq_false (by omega:¬ p.slots[i].term.var < p.vars)]; rfl
   rw [if_neg hv2,decide_eq_true (by omega:p.slots[i].term.var < p.vars)]
   cases decide (-1000000≤p.slots[i].term.add) <;> cases decide (p.slots[i].term.add≤1000000) <;> rfl
end Go.Proofs.YtimojjnmmlhijaaGreat
namespace Go.Proofs.YtimojjnmmlhijaaGreat
open Go.Abs

def sameSlot (s y:zbs):Bool:=decide (y.node=s.node) && decide (y.attr=s.attr)
def slotRS (t:Types) (r:zx) (i:Nat) (s:zbs):Int:=if slotB t r.graph r.vars s=false then 6 else if (r.slots.take i).any (sameSlot s)=true then 5 else 0
def slotRE (t:Types) (r:zx) (i:Nat):Int:=match r.slots[i]? with
 | none=>0
 | some s=>slotRS t r i s
def rightE (t:Types) (r:zm):Int :=
 if validG r.right.graph≠0 then validG r.right.graph else if typedB t r.right.graph=false then 13 else if r.right.vars≠r.left.vars then 1
 else if 0 < r.right.tests.length then 1 else if 10 < r.right.slots.length then 3 else errL (slotRE t r.right) (List.range r.right.slots.length)
theorem zus {t:Types} {r:zx} {i:Nat} (hi:i < r.slots.length):slotRE t r i=slotRS t r i r.slots[i]:=by
 unfold slotRE; rw [List.getElem?_eq_getElem hi]
theorem z0w {α:Type} {l:List α} {i:Nat} (h:i < l.length):atZ l (i:Int)=some l[i]:=by
 unfold atZ; rw [if_pos (by omega)]; simp [h]
theorem zsr {α : Type} (t : Types) (g : Graph) (hg : OkG g) (hb : typedB t g = true) (vars : Int) (s : zbs) (F G : α) :
  (if s.node < 0 then F else if (g.nodes.length:Int)≤s.node then F else if s.attr < 0 then F else if ((attrsN t g s.node).length:Int)≤s.attr then F else if s.term.var < -1 then F else if vars≤s.term.var then F else if s.term.add < -1000000 then F else if 1000000 < s.term.add then F else G)=if slotB t g vars s=false then F else G:=by
 unfold slotB termB
 by_cases h1:s.node < 0
 ·rw [if_pos h1,decide_eq_false (by omega:¬ 0≤s.node)]; simp
 rw [if_neg h1,decide_eq_true (by omega:0≤s.node)]
 by_cases h2:(g.nodes.length:Int)≤s.node
 ·rw [if_pos h2,decide_eq_false (by omega:¬ s.node < (g.nodes.length:Int))]; simp
 rw [if_neg h2,decide_eq_true (by omega:s.node < (g.nodes.length:Int))]
 by_cases h3:s.attr < 0
 ·rw [if_pos h3,decide_eq_false (by omega:¬ 0≤s.attr)]; simp
 rw [if_neg h3,decide_eq_true (by omega:0≤s.attr)]
 by_cases h4:((attrsN t g s.node).length:Int)≤s.attr
 ·rw [if_pos h4,decide_eq_false (by omega:¬ s.attr < ((attrsN t g s.node).length:Int))]; simp
 rw [if_neg h4,decide_eq_true (by omega:s.attr < ((attrsN t g s.node).length:Int))]
 by_cases h5:s.term.var < -1
 ·rw [if_pos h5,decide_eq_false (by omega:¬ -1≤s.term.var)]; simp
 rw [if_neg h5,decide_eq_true (by omega : -1≤s.term.var)]
 by_cases h6:vars≤s.term.var
 ·rw [if_pos h6,decide_eq_false (by omega:¬ s.term.var < vars)]; simp
 rw [if_neg h6,decide_eq_true (by omega:s.term.var < vars)]
 by_cases h7:s.term.add < -1000000
 ·rw [if_pos h7,decide_eq_false (by omega:¬ -1000000≤s.term.add)]; simp
 rw [if_neg h7,decide_eq_true (by omega : -1000000≤s.term.add)]
 by_cases h8:1000000 < s.term.add
 ·rw [if_pos h8,decide_eq_false (by omega:¬ s.term.add≤1000000)]; simp
 rw [if_neg h8,decide_eq_true (by omega:s.term.add≤1000000)]; simp
theorem zzk {t:Types} (ht:OkT t) {r:zm} (hg:OkG r.right.graph) (hb:typedB t r.right.graph=true) (hs:r.right.slots.length≤15) {i:Nat} (hi:i < r.right.slots.length):zjg t r (i:Int)=some (slotRE t r.right i):=by
 rw [zus hi]
 unfold zjg
 rw [zh (z0w hi)]
 generalize r.right.slots[i]=s
 unfold slotRS
 simp only [zo]
 rw [← zsr t r.right.graph hg hb r.right.vars s]
 by_cases h1:s.node < 0
 ·rw [if_pos h1,if_pos h1]
 rw [if_neg h1,if_neg h1]
 by_cases h2:(r.right.graph.nodes.length:Int)≤s.node
 ·rw [if_pos h2,if_pos h2]
 rw [if_neg h2,if_neg h2]
 have hi2:s.node.toNat < r.right.graph.nodes.length:=by omega
 rw [zig (by omega) hi2,zh (z0u ht (zjl hb hg hi2))]
 rw [chk_t (by omega),zh (zh9 (p:=fun x=>zg4 x s) (sameSlot s) (by simp; omega) fun x _=>by
  unfold zg4 sameSlot
  cases decide (x.node=s.node) <;> rfl)]
 simp only [attrsN,zb6 hi2,Int.toNat_natCast]
 split <;> try rfl
 split <;> try rfl
 split <;> try rfl
 split <;> try rfl
 split <;> try rfl
 split <;> try rfl
 cases (r.right.slots.take i).any (sameSlot s) <;> rfl
theorem zxx {t:Types} (ht:OkT t) {r:zx} (hg:OkG r.graph) (hb:typedB t r.graph=true) (hs:r.slots.length≤15) {i:Nat} (hi:i < r.slots.length):zeu t r (i:Int)=some (slotRE t r i):=by
 rw [zus hi]
 unfold zeu
 rw [zh (z0w hi)]
 generalize r.slots[i]=s
 unfold slotRS
 simp only [zo]
 rw [← zsr t r.graph hg hb r.vars s]
 by_cases h1:s.node < 0
 ·rw [if_pos h1,if_pos h1]
 rw [if_neg h1,if_neg h1]
 by_cases h2:(r.graph.nodes.length:Int)≤s.node
 ·rw [if_pos h2,if_pos h2]
 rw [if_neg h2,if_neg h2]
 have hi2:s.node.toNat < r.graph.nodes.length:=by omega
 rw [zig (by omega) hi2,zh (zwp ht (zjl hb hg hi2)),Int.toNat_natCast,chk_t (zbi (by omega))]
 have hl:(r.slots.take i).length=i:=by simp; omega
 have key:=zcp (f:=fun i2314 (s2314:Unit) nxts2314 brks2314=>thn (r.slots[i2314]?) fun e2318=>if e2318.node=s.node then (if e2318.attr=s.attr then some 5 else nxts2314 ()) else nxts2314 ()) (K:=fun _=>some (0:Int)) (r.slots.take i) (fun y=>!sameSlot s y) (fun _=>some 5) (fun j hj nxt=>by
  have hj2:j < r.slots.length:=by omega
  rw [zb3 hj2,List.getElem_take]
  unfold sameSlot
  by_cases c1:r.slots[j].node=s.node
  ·by_cases c2:r.slots[j].attr=s.attr <;> simp [c1,c2]
  ·simp [c1])
 rw [hl] at key
 rw [key,zd1]
 simp only [attrsN,zb6 hi2]
 split <;> try rfl
 split <;> try rfl
 split <;> try rfl
 split <;> try rfl
 split <;> try rfl
 split <;> try rfl
 rw [← Bool.not_not (List.any _ _),← List.not_any_eq_all_not]
 simp only [Bool.not_not]
 cases (r.slots.take i).any (sameSlot s) <;> simp
structure FewR0 (r:zm):Prop where
 name:r.name.size≤60
 left:FewP r.left
 right:FewP r.right
 keep:r.keep.nodes.length+r.keep.edges.length≤140
 into:r.into.nodes.length+r.into.edges.length≤140
theorem zwb {t:Types} (ht:OkT t) {r:zm} (hr:FewR0 r):zix t r=some (rightE t r):=by
 have hs:=hr.right.slots
 have hts:=hr.right.tests
 unfold zix rightE
 rw [zh (zlc hr.right.graph),zo]
 by_cases h1:¬ (validG r.right.graph=0)
 ·rw [if_neg h1,if_pos h1]
 have h1:validG r.right.graph=0:=Decidable.of_not_not h1
 have hg:=okG h1
 rw [if_pos h1,if_neg (by simp [h1]),zh (zbcy t hr.right.graph)]
 cases h2:typedB t r.right.graph with
 | false=>rfl
 | true =>
 rw [cond_true,if_neg (by simp)]
 simp only [zo]
 by_cases h3:¬ (r.right.vars=r.left.vars)
 ·rw [if_neg h3,if_pos h3]
 have h3:r.right.vars=r.left.vars:=Decidable.of_not_not h3
 rw [if_pos h3,if_neg (show ¬ (r.right.vars≠r.left.vars) from fun h=>h h3)]
 by_cases h4:0 < r.right.tests.length
 ·rw [if_pos (show (0:Int) < ((r.right.tests.length:Nat):Int) by omega),if_pos h4]
 rw [if_neg (show ¬ (0:Int) < ((r.right.tests.length:Nat):Int) by omega),if_neg h4]
 by_cases h5:10 < r.right.slots.length
 ·rw [if_pos (show (10:Int) < ((r.right.slots.length:Nat):Int) by omega),if_pos h5]
 rw [if_neg (show ¬ (10:Int) < ((r.right.slots.length:Nat):Int) by omega),if_neg h5,chk_t (zbi (by omega))]
 rw [zi4 (fun j=>decide (slotRE t r.right j=0)) (fun j=>some (slotRE t r.right j)) (fun j hj nxt=>by rw [zh (zzk (r:=r) ht hg h2 hs hj),zo])]
 exact zhv rfl
theorem zo8 {t:Types} (ht:OkT t) {r:zm} (hr:FewR0 r):zen t r=some (rightE t r):=by
 have hs:=hr.right.slots
 have hts:=hr.right.tests
 unfold zen rightE
 rw [zh (zc6 hr.right.graph),zo]
 by_cases h1:¬ (validG r.right.graph=0)
 ·rw [if_neg h1,if_pos h1]
 have h1:validG r.right.graph=0:=Decidable.of_not_not h1
 have hg:=okG h1
 rw [if_pos h1,if_neg (by simp [h1]),zh (zwv t hg)]
 cases h2:typedB t r.right.graph with
 | false=>rfl
 | true =>
 rw [cond_true,if_neg (by simp)]
 simp only [zo]
 by_cases h3:¬ (r.right.vars=r.left.vars)
 ·rw [if_neg h3,if_pos h3]
 have h3:r.right.vars=r.left.vars:=Decidable.of_not_not h3
 rw [if_pos h3,if_neg (show ¬ (r.right.vars≠r.left.vars) from fun h=>h h3)]
 by_cases h4:0 < r.right.tests.length
 ·rw [if_pos (show (0:Int) < ((r.right.tests.length:Nat):Int) by omega),if_pos h4]
 rw [if_neg (show ¬ (0:Int) < ((r.right.tests.length:Nat):Int) by omega),if_neg h4]
 by_cases h5:10 < r.right.slots.length
 ·rw [if_pos (show (10:Int) < ((r.right.slots.length:Nat):Int) by omega),if_pos h5]
 rw [if_neg (show ¬ (10:Int) < ((r.right.slots.length:Nat):Int) by omega),if_neg h5,chk_t (zbi (by omega))]
 rw [zi4 (fun j=>decide (slotRE t r.right j=0)) (fun j=>some (slotRE t r.right j)) (fun j hj nxt=>by rw [zh (zxx ht hg h2 hs hj),zo])]
 exact zhv rfl
theorem zup {t:Types} {r:zm} (h:rightE t r=0):OkG r.right.graph∧typedB t r.right.graph=true:=by
 unfold rightE at h
 split at h
 ·rename_i h1; exact absurd h h1
 split at h
 ·cases h
 rename_i h1 h2
 exact ⟨okG (Decidable.of_not_not h1),by simpa using h2⟩

structure AscL (l:List Int) (n:Int):Prop where
 range:∀ x∈l,0≤x∧x < n
 asc:l.Pairwise (· < ·)
def ascAt (l:List Int) (n:Int) (i:Nat):Int:=match l[i]? with
 | none=>0
 | some x=>if x < 0 then 6 else if n≤x then 6 else if 0 < i then (if x≤l.getD (i - 1) 0 then 12 else 0) else 0
def ascE (l:List Int) (n:Int):Int:=errL (ascAt l n) (List.range l.length)
theorem zv8 (l:List Int) (n:Int) (hl:l.length≤1000000):zgg l n=some (ascE l n):=by
 unfold zgg ascE
 rw [chk_t (zbi (by omega))]
 rw [zi4 (fun j=>decide (ascAt l n j=0)) (fun j=>some (ascAt l n j)) (fun j hj nxt=>?_)]
 ·exact zhv rfl
 ·rw [zb3 hj,zo]
  unfold ascAt
  simp only [zo,List.getElem?_eq_getElem hj]
  by_cases h1:l[j] < 0
  ·rw [if_pos h1,if_pos h1]; rfl
  rw [if_neg h1,if_neg h1]
  by_cases h2:n≤l[j]
  ·rw [if_pos h2,if_pos h2]; rfl
  rw [if_neg h2,if_neg h2]
  by_cases h3:0 < j
  ·rw [if_pos (show (0:Int) < ((j:Nat):Int) by omega),if_pos h3]
   have hw:IntKind.i64.wrap (((j:Nat):Int) - 1)=((j - 1:Nat):Int):=by rw [wrapI (by omega)]; omega
   have hj1:j - 1 < l.length:=by omega
   rw [hw,zig (by omega) (by simpa using hj1)]
   simp only [Int.toNat_natCast]
   have:l.getD (j - 1) 0=l[j - 1]:=by simp [hj1]
   rw [this]
   by_cases h4:l[j]≤l[j - 1]
   ·rw [if_pos h4,if_pos h4]; rfl
   ·rw [if_neg h4,if_neg h4]; rfl
  ·rw [if_neg (show ¬ (0:Int) < ((j:Nat):Int) by omega),if_neg h3]; rfl
theorem z0r (l:List Int) (n:Int) (hl:l.length≤1000000):zdm l n=some (ascE l n):=zv8 l n hl
theorem ascL {l:List Int} {n:Int} (h:ascE l n=0):AscL l n:=by
 have h1:=zk6.1 h
 have h2:∀ i (hi:i < l.length),(0≤l[i]∧l[i] < n)∧(0 < i→l.getD (i - 1) 0 < l[i]):=fun i hi=>by
  have:=h1 i (List.mem_range.2 hi)
  unfold ascAt at this
  simp only [List.getElem?_eq_getElem hi] at this
  split at this
  ·cases this
  split at this
  ·cases this
  refine ⟨by omega,fun h0=>?_⟩
  rw [if_pos h0] at this
  split at this
  ·cases this
  ·omega
 refine ⟨fun x hx=>?_,?_⟩
 ·obtain ⟨i,hi,rfl⟩:=List.mem_iff_getElem.1 hx
  exact (h2 i hi).1
 ·rw [List.pairwise_iff_getElem]
  intro i j hi hj hij
  induction j with
  | zero=>omega
  | succ j ih =>
   have h3:=(h2 (j+1) hj).2 (by omega)
   have hj':j < l.length:=by omega
   have e:l.getD (j+1 - 1) 0=l[j]:=by simp [hj']
   rw [e] at h3
   rcases Nat.lt_or_ge i j with h4 | h4
   ·have:=ih hj' h4; omega
   ·have:i=j:=by omega
    subst this
    exact h3
end Go.Proofs.YtimojjnmmlhijaaGreat
namespace Go.Proofs.YtimojjnmmlhijaaGreat
open Go.Abs

def posA (l:List Int) (x:Int):Nat:=l.countP fun y=>decide (y < x)
theorem zbc9 (l:List Int) (x:Int):posA l x≤l.length:=List.countP_le_length
theorem zlq {l:List Int} (h:l.Pairwise (· < ·)) (x:Int):∀ i (hi:i < l.length),(i < posA l x↔l[i] < x):=by
 unfold posA
 induction l with
 | nil=>intro i hi; simp at hi
 | cons a l ih =>
  rw [List.pairwise_cons] at h
  intro i hi
  rw [List.countP_cons]
  cases i with
  | zero =>
   simp only [List.getElem_cons_zero]
   by_cases ha:a < x
   ·simp [ha]
   ·have:l.countP (fun y=>decide (y < x))=0:=by
     rw [List.countP_eq_zero]
     intro y hy
     have:=h.1 y hy
     simp; omega
    simp [ha,this]
  | succ i =>
   simp only [List.getElem_cons_succ]
   simp only [List.length_cons] at hi
   rw [← ih h.2 i (by omega)]
   by_cases ha:a < x
   ·simp [ha]
   ·have h1:l.countP (fun y=>decide (y < x))=0:=by
     rw [List.countP_eq_zero]
     intro y hy
     have:=h.1 y hy
     simp; omega
    simp [ha,h1]
theorem zr1 {l:List Int} (h:l.Pairwise (· < ·)) {x:Int} (hx:x∈l):∃ hi:posA l x < l.length,l[posA l x]=x:=by
 obtain ⟨i,hi,rfl⟩:=List.mem_iff_getElem.1 hx
 have e:posA l l[i]=i:=by
  rcases Nat.lt_trichotomy (posA l l[i]) i with h1 | h1 | h1
  ·have h2:=zlq h l[i] (posA l l[i]) (by omega)
   have h3:=(List.pairwise_iff_getElem.1 h) _ i (by omega) hi h1
   have:=h2.2 h3
   omega
  ·exact h1
  ·have:=(zlq h l[i] i hi).1 h1
   omega
 exact ⟨by rw [e]; exact hi,by simp only [e]⟩
theorem zbby (a:Int):zgh a=some false:=by simp [zgh]
theorem z4u (a:Int):ze6 a=some false:=by simp [ze6]
theorem zbdz (a b:Int):zho a b=some (decide (a < b)):=by
 unfold zho
 rw [zh (zbby a)]; rfl
theorem zbet {m:Int} (h:0≤m∧m≤4000000):IntKind.i64.wrap ((IntKind.u64.wrap (IntKind.i64.wrap m)).fdiv (2 ^ 1))=m / 2:=by
 rw [wrapI (n:=m) (by omega),IntWalk.u64_in m (by omega)]
 have e:m.fdiv (2 ^ 1)=m / 2:=by
  rw [Int.fdiv_eq_ediv_of_nonneg _ (by decide)]
  rfl
 rw [e,wrapI (by omega)]
theorem zqs {l:List Int} (h:l.Pairwise (· < ·)) (hl:l.length≤1000) (x:Int):zcn l x=some ((posA l x:Int),decide (x∈l)):=by
 refine Ok.eq ?_
 have hple:=zbc9 l x
 unfold zcn
 refine zlw (fun s:Int×Int=>0≤s.1∧s.1≤posA l x∧(posA l x:Int)≤s.2∧s.2≤l.length) (fun s:Int×Int=>(s.2 - s.1).toNat) ⟨by simp,by simp,by simp; omega,by simp⟩ (by unfold fuel; simp; omega) ?_
 rintro ⟨i,j⟩ nxt ⟨h1,h2,h3,h4⟩ hn
 simp only at h1 h2 h3 h4 hn ⊢
 refine zbt (fun hc=>?_) (fun hc=>?_)
 ·have hc':=of_decide_eq_true hc
  rw [zbet (by omega)]
  have b1:i≤(i+j) / 2:=by omega
  have b2:(i+j) / 2 < j:=by omega
  have hi:((i+j) / 2).toNat < l.length:=by omega
  have hs:=zlq h x ((i+j) / 2).toNat hi
  refine zi2 (by omega) hi ?_
  refine ok_eq (zbdz _ _) ?_
  refine zbt (fun hd=>?_) (fun hd=>?_)
  ·have:=hs.2 (of_decide_eq_true hd)
   rw [wrapI (by omega)]
   exact hn _ ⟨by simp only; omega,by simp only; omega,h3,h4⟩ (by simp only; omega)
  ·have hd':=of_decide_eq_false hd
   have:¬ ((i+j) / 2).toNat < posA l x:=fun h=>hd' (hs.1 h)
   exact hn _ ⟨h1,h2,by simp only; omega,by simp only; omega⟩ (by simp only; omega)
 ·have hc':=of_decide_eq_false hc
  have hi:i=posA l x:=by omega
  subst hi
  refine zbt (fun hd=>?_) (fun hd=>?_)
  ·have hd':=of_decide_eq_true hd
   have hlt:posA l x < l.length:=by omega
   refine zi2 (by omega) (by simpa using hlt) ?_
   simp only [Int.toNat_natCast]
   refine zbt (fun he=>?_) (fun he=>?_)
   ·have he':=of_decide_eq_true he
    refine .mk ?_
    rw [decide_eq_true (he' ▸ List.getElem_mem hlt)]
   ·have he':=of_decide_eq_false he
    refine ok_eq (z4u _) ?_
    refine ok_f rfl (.mk ?_)
    rw [decide_eq_false fun hm=>?_]
    obtain ⟨_,hq⟩:=zr1 h hm
    exact he' hq
  ·have hd':=of_decide_eq_false hd
   refine .mk ?_
   rw [decide_eq_false fun hm=>?_]
   obtain ⟨hq,_⟩:=zr1 h hm
   omega
theorem z50 {l:List Int} (h:l.Pairwise (· < ·)) (hl:l.length≤1000) (x:Int):zff l x=some (decide (x∈l)):=by
 unfold zff
 rw [zh (zqs h hl x)]
theorem zt4 (l:List Int) (x:Int):(l.any fun y=>decide (y=x))=decide (x∈l):=by
 by_cases h:x∈l
 ·rw [decide_eq_true h,List.any_eq_true]
  exact ⟨x,h,by simp⟩
 ·rw [decide_eq_false h]
  rw [Bool.eq_false_iff]
  intro h2
  obtain ⟨y,hy,he⟩:=List.any_eq_true.1 h2
  exact h (of_decide_eq_true he ▸ hy)
theorem zj1 {l:List Int} (hl:l.length≤1000000) (x:Int):zcx l x=some (decide (x∈l)):=by
 unfold zcx
 rw [chk_t (zbi (by omega))]
 rw [zcp l (fun y=>!decide (y=x)) (fun _=>some true) (fun i hi nxt=>by
  rw [zb3 hi]
  cases decide (l[i]=x) <;> rfl),zd1]
 rw [← zt4,← Bool.not_not (List.any _ _),← List.not_any_eq_all_not]
 simp only [Bool.not_not]
 cases l.any fun y=>decide (y=x) <;> simp
theorem znz {l:List Int} (hl:l.length≤1000000) (x:Int):zfa l x=some (decide (x∈l)):=by
 unfold zfa
 rw [chk_t (zbi (by omega))]
 rw [zcp l (fun y=>!decide (y=x)) (fun _=>some true) (fun i hi nxt=>by
  rw [zb3 hi]
  cases decide (l[i]=x) <;> rfl),zd1]
 rw [← zt4,← Bool.not_not (List.any _ _),← List.not_any_eq_all_not]
 simp only [Bool.not_not]
 cases l.any fun y=>decide (y=x) <;> simp
theorem zxv {l:List Int} (h:l.Pairwise (· < ·)) (hl:l.length≤1000) {x:Int} (hx:x∈l):zdp l x=some (posA l x:Int):=by
 unfold zdp
 rw [chk_t (zbi (by omega))]
 rw [zhz l (fun y=>decide (y=x)) (fun i hi nxt=>by rw [zb3 hi]) rfl]
 obtain ⟨hi,he⟩:=zr1 h hx
 unfold idxQ
 have:l.findIdx? (fun y=>decide (y=x))=some (posA l x):=by
  rw [List.findIdx?_eq_some_iff_getElem]
  refine ⟨hi,by simp [he],fun j hj=>?_⟩
  have:=(zlq h x j (by omega)).1 hj
  simp; omega
 rw [this]

structure PartG (g:Graph) (p:zcr):Prop where
 nodes:AscL p.nodes g.nodes.length
 edges:AscL p.edges g.edges.length
 ends:∀ e∈p.edges,(g.edges.getD e.toNat default).src∈p.nodes∧(g.edges.getD e.toNat default).dst∈p.nodes
theorem zlx {l:List Int} {n:Nat} (h:AscL l n) {i:Nat} (hi:i < l.length):0≤l[i]∧l[i].toNat < n:=by
 have:=h.range _ (List.getElem_mem hi)
 omega
theorem z7z {g:Graph} {p:zcr} (hp:p.nodes.length≤1000∧p.edges.length≤1000):∃ e,zg7 g p=some e∧zc3 g p=some e∧(e=0→PartG g p):=by
 unfold zg7 zc3
 rw [zh (zv8 _ _ (by omega)),zh (z0r _ _ (by omega))]
 simp only [zo]
 by_cases h1:¬ (ascE p.nodes (g.nodes.length:Int)=0)
 ·rw [if_neg h1,if_neg h1]
  exact ⟨_,rfl,rfl,fun h=>absurd h h1⟩
 have h1:=Decidable.of_not_not h1
 rw [if_pos h1,if_pos h1,zh (zv8 _ _ (by omega)),zh (z0r _ _ (by omega))]
 by_cases h2:¬ (ascE p.edges (g.edges.length:Int)=0)
 ·rw [if_neg h2,if_neg h2]
  exact ⟨_,rfl,rfl,fun h=>absurd h h2⟩
 have h2:=Decidable.of_not_not h2
 have a1:=ascL h1
 have a2:=ascL h2
 have hfl:p.edges.length≤fuel:=zbi (by omega)
 rw [if_pos h2,if_pos h2,chk_t hfl,chk_t hfl]
 have b1:=zcp (f:=fun i302 (s302:Unit) nxts302 brks302=>thn (p.edges[i302]?) fun e309=>thn (atZ g.edges e309) fun e310=>thn (zff p.nodes e310.src) fun r311=>cond r311 (thn (zff p.nodes e310.dst) fun r313=>cond r313 (nxts302 ()) <| some 14) <| some 14) (K:=fun _=>some (0:Int)) p.edges
  (fun e=>decide ((g.edges.getD e.toNat default).src∈p.nodes) && decide ((g.edges.getD e.toNat default).dst∈p.nodes)) (fun _=>some 14) (fun i hi nxt=>by
   obtain ⟨c1,c2⟩:=zlx a2 hi
   rw [zb3 hi,zig c1 c2,zh (z50 a1.asc hp.1 _),zb6 c2]
   cases decide ((g.edges[p.edges[i].toNat]).src∈p.nodes) with
   | false=>rfl
   | true=>rw [cond_true,zh (z50 a1.asc hp.1 _),Bool.true_and])
 have b2:=zcp (f:=fun i302 (s302:Unit) nxts302 brks302=>thn (p.edges[i302]?) fun e309=>thn (atZ g.edges e309) fun e310=>thn (zcx p.nodes e310.src) fun r311=>cond r311 (thn (zcx p.nodes e310.dst) fun r313=>cond r313 (nxts302 ()) <| some 14) <| some 14) (K:=fun _=>some (0:Int)) p.edges
  (fun e=>decide ((g.edges.getD e.toNat default).src∈p.nodes) && decide ((g.edges.getD e.toNat default).dst∈p.nodes)) (fun _=>some 14) (fun i hi nxt=>by
   obtain ⟨c1,c2⟩:=zlx a2 hi
   rw [zb3 hi,zig c1 c2,zh (zj1 (by omega) _),zb6 c2]
   cases decide ((g.edges[p.edges[i].toNat]).src∈p.nodes) with
   | false=>rfl
   | true=>rw [cond_true,zh (zj1 (by omega) _),Bool.true_and])
 rw [b1,b2,zd1]
 split
 ·rename_i h3
  refine ⟨0,rfl,rfl,fun _=>⟨a1,a2,fun e he=>?_⟩⟩
  have:=List.all_eq_true.1 h3 e he
  simpa using this
 ·exact ⟨14,rfl,rfl,fun h=>by cases h⟩
theorem zst {g:Graph} (hg:FewG g) {p:zcr} (hp:p.nodes.length≤1000∧p.edges.length≤1000):∃ e,zf3 g p=some e∧zcc g p=some e∧(e=0→PartG g p∧OkG g):=by
 unfold zf3 zcc
 rw [zh (zlc hg),zh (zc6 hg)]
 simp only [zo]
 by_cases h1:¬ (validG g=0)
 ·rw [if_neg h1,if_neg h1]
  exact ⟨_,rfl,rfl,fun h=>absurd h h1⟩
 have h1:=Decidable.of_not_not h1
 obtain ⟨e,h2,h3,h4⟩:=z7z (g:=g) hp
 rw [if_pos h1,if_pos h1,zh h2,zh h3]
 exact ⟨e,rfl,rfl,fun h=>⟨h4 h,okG h1⟩⟩

def extP (g:Graph) (p:zcr):Graph:=⟨p.nodes.map (fun n=>g.nodes.getD n.toNat default),p.edges.map (fun n=>⟨(g.edges.getD n.toNat default).type,posA p.nodes (g.edges.getD n.toNat default).src,posA p.nodes (g.edges.getD n.toNat default).dst⟩)⟩
theorem zbfd {g:Graph} {p:zcr} (h:PartG g p) (hp:p.nodes.length≤1000∧p.edges.length≤1000) (hv:zf3 g p=some 0):zed g p=some (extP g p,⟨p.nodes,p.edges⟩,0):=by
 refine Ok.eq ?_
 unfold zed
 refine ok_eq hv ?_
 refine ok_t rfl ?_
 refine zcz (zbi (by omega)) ?_
 refine zs2 p.nodes (fun n=>g.nodes.getD n.toNat default) (fun j s nxt hj hsl hn=>?_) ?_
 ·obtain ⟨h0,hi⟩:=zlx h.nodes hj
  refine ok_at hj ?_
  refine zi2 h0 hi ?_
  refine zcz (by omega) ?_
  rw [zb6 hi] at hn
  exact hn
 refine zcz (zbi (by omega)) ?_
 refine zs2 p.edges (fun n=>(⟨(g.edges.getD n.toNat default).type,posA p.nodes (g.edges.getD n.toNat default).src,posA p.nodes (g.edges.getD n.toNat default).dst⟩:Edge)) (fun j s nxt hj hsl hn=>?_) ?_
 ·obtain ⟨h0,hi⟩:=zlx h.edges hj
  refine ok_at hj ?_
  refine zi2 h0 hi ?_
  refine ok_eq (zqs h.nodes.asc hp.1 _) ?_
  refine ok_eq (zqs h.nodes.asc hp.1 _) ?_
  refine zcz (by omega) ?_
  rw [zb6 hi] at hn
  exact hn
 refine ok_eq (r:=p.nodes) (giv_t (by omega)) ?_
 refine ok_eq (r:=p.edges) (giv_t (by omega)) ?_
 exact .mk rfl
theorem z0p {g:Graph} {p:zcr} (h:PartG g p) (hp:p.nodes.length≤1000∧p.edges.length≤1000) (hv:zcc g p=some 0):zd3 g p=some (extP g p,⟨p.nodes,p.edges⟩,0):=by
 refine Ok.eq ?_
 unfold zd3
 refine ok_eq hv ?_
 refine ok_t rfl ?_
 refine zcz (zbi (by omega)) ?_
 refine zs2 p.nodes (fun n=>g.nodes.getD n.toNat default) (fun j s nxt hj hsl hn=>?_) ?_
 ·obtain ⟨h0,hi⟩:=zlx h.nodes hj
  refine ok_at hj ?_
  refine zi2 h0 hi ?_
  refine zcz (by omega) ?_
  rw [zb6 hi] at hn
  exact hn
 refine zcz (zbi (by omega)) ?_
 refine zs2 p.edges (fun n=>(⟨(g.edges.getD n.toNat default).type,posA p.nodes (g.edges.getD n.toNat default).src,posA p.nodes (g.edges.getD n.toNat default).dst⟩:Edge)) (fun j s nxt hj hsl hn=>?_) ?_
 ·obtain ⟨h0,hi⟩:=zlx h.edges hj
  have he:=h.ends _ (List.getElem_mem hj)
  rw [zb6 hi] at he
  refine ok_at hj ?_
  refine zi2 h0 hi ?_
  refine ok_eq (zxv h.nodes.asc hp.1 he.1) ?_
  refine ok_eq (zxv h.nodes.asc hp.1 he.2) ?_
  refine zcz (by omega) ?_
  rw [zb6 hi] at hn
  exact hn
 refine zcz (by omega) ?_
 refine zcz (by omega) ?_
 exact .mk rfl

structure MorG (a b:Graph) (m:zbo):Prop where
 nlen:m.nodes.length=a.nodes.length
 elen:m.edges.length=a.edges.length
 node:∀ i (h:i < m.nodes.length),0≤m.nodes[i]∧m.nodes[i].toNat < b.nodes.length
 edge:∀ i (h:i < m.edges.length),0≤m.edges[i]∧m.edges[i].toNat < b.edges.length
theorem zw6 (a b:Graph) (m:zbo):ze3 a b m=zbn a b m:=by
 unfold ze3 zbn
 show (thn (zdv a) fun r=>_)=(thn (zdv a) fun r=>_)
 congr 1
 funext r
 congr 1
 show (thn (zdv b) fun r=>_)=(thn (zdv b) fun r=>_)
 congr 1
 funext r
 congr 1
 by_cases h1:((m.nodes.length:Nat):Int)=(a.nodes.length:Int)
 ·by_cases h2:((m.edges.length:Nat):Int)=(a.edges.length:Int)
  ·have h1':m.nodes.length=a.nodes.length:=by omega
   have h2':m.edges.length=a.edges.length:=by omega
   rw [h1',h2']
  ·simp only [zo,if_neg h2]
 ·simp only [zo,if_neg h1]
theorem z6k {a b:Graph} (ha:FewG a) (hb:FewG b) {m:zbo} : ∃ e,zbn a b m=some e∧(e=0→MorG a b m∧OkG a∧OkG b):=by
 show Ok _ _
 have ha1:=ha.nodes
 have ha2:=ha.edges
 unfold zbn
 refine ok_eq (zc6 ha) ?_
 refine zbt (fun h1=>?_) (fun h1=>.mk fun h=>absurd h (of_decide_eq_false h1))
 have h1:=of_decide_eq_true h1
 refine ok_eq (zc6 hb) ?_
 refine zbt (fun h2=>?_) (fun h2=>.mk fun h=>absurd h (of_decide_eq_false h2))
 have h2:=of_decide_eq_true h2
 have ga:=okG h1
 have gb:=okG h2
 refine zbt (fun h3=>?_) (fun _=>.mk fun h=>by cases h)
 refine zbt (fun h4=>?_) (fun _=>.mk fun h=>by cases h)
 have h3:m.nodes.length=a.nodes.length:=by have:=of_decide_eq_true h3; omega
 have h4:m.edges.length=a.edges.length:=by have:=of_decide_eq_true h4; omega
 refine zcz (zbi (by omega)) ?_
 refine zgf (fun j _=>∀ i (h:i < m.nodes.length),i < j→0≤m.nodes[i]∧m.nodes[i].toNat < b.nodes.length) (Nat.zero_le _) (fun i _ h=>by omega) (fun j s nxt _ hj hI hn=>?_) (fun s hI=>?_)
 ·refine ok_at (by omega) ?_
  refine zbt (fun _=>.mk fun h=>by cases h) (fun c1=>?_)
  refine zbt (fun _=>.mk fun h=>by cases h) (fun c2=>?_)
  have c1:=of_decide_eq_false c1
  have c2:=of_decide_eq_false c2
  refine zi2 (by omega) (by omega) ?_
  refine ok_at hj ?_
  refine zbt (fun _=>hn _ fun i hi hij=>?_) (fun _=>.mk fun h=>by cases h)
  rcases Nat.lt_or_ge i j with h5 | h5
  ·exact hI i hi h5
  ·have:i=j:=by omega
   subst this
   omega
 refine zcz (zbi (by omega)) ?_
 refine zgf (fun j _=>∀ i (h:i < m.edges.length),i < j→0≤m.edges[i]∧m.edges[i].toNat < b.edges.length) (Nat.zero_le _) (fun i _ h=>by omega) (fun j s nxt _ hj hI2 hn=>?_) (fun s hI2=>.mk fun _=>⟨⟨h3,h4,fun i hi=>hI i hi (by omega),fun i hi=>hI2 i hi (by omega)⟩,ga,gb⟩)
 refine ok_at (by omega) ?_
 refine zbt (fun _=>.mk fun h=>by cases h) (fun c1=>?_)
 refine zbt (fun _=>.mk fun h=>by cases h) (fun c2=>?_)
 have c1:=of_decide_eq_false c1
 have c2:=of_decide_eq_false c2
 refine ok_at hj ?_
 refine zi2 (by omega) (by omega) ?_
 have he:=ga.edge j hj
 rw [zb6 hj] at he
 refine zbt (fun _=>?_) (fun _=>.mk fun h=>by cases h)
 refine zi2 he.2.1.1 (by omega) ?_
 refine zbt (fun _=>?_) (fun _=>.mk fun h=>by cases h)
 refine zi2 he.2.2.1 (by omega) ?_
 refine zbt (fun _=>hn _ fun i hi hij=>?_) (fun _=>.mk fun h=>by cases h)
 rcases Nat.lt_or_ge i j with h5 | h5
 ·exact hI2 i hi h5
 ·have:i=j:=by omega
  subst this
  omega
end Go.Proofs.YtimojjnmmlhijaaGreat
namespace Go.Proofs.YtimojjnmmlhijaaGreat
open Go.Abs

theorem zw5 {zs:List Int} (h:zs.Pairwise (·≤·)):∀ m,m≤zs.length→(Lib.compactUpTo zs.toArray m).Pairwise (· < ·)∧∀ x,x∈Lib.compactUpTo zs.toArray m↔∃ j,∃ hj:j < zs.length,j < m∧zs[j]=x:=by
 intro m
 induction m with
 | zero=>intro _; simp [Lib.compactUpTo]
 | succ m ih =>
  intro hm
  obtain ⟨i1,i2⟩:=ih (by omega)
  have hget:∀ j (hj:j < zs.length),zs.toArray[j]! = zs[j]:=fun j hj=>by simp [hj]
  rw [Lib.compactUpTo_succ]
  by_cases hk:Lib.keeps zs.toArray m=true
  ·rw [if_pos hk,hget m (by omega)]
   have hlt:∀ j (hj:j < zs.length),j < m→zs[j] < zs[m]:=fun j hj hjm=>by
    have hk':=hk
    unfold Lib.keeps at hk'
    rw [decide_eq_true_eq] at hk'
    rcases hk' with h0 | h0
    ·omega
    ·rw [hget m (by omega),hget (m - 1) (by omega)] at h0
     have h1:zs[m - 1]≤zs[m]:=(List.pairwise_iff_getElem.1 h) (m - 1) m (by omega) (by omega) (by omega)
     have h2:zs[j]≤zs[m - 1]:=by
      rcases Nat.lt_or_ge j (m - 1) with h3 | h3
      ·exact (List.pairwise_iff_getElem.1 h) j (m - 1) hj (by omega) h3
      ·have:j=m - 1:=by omega
       subst this
       exact Int.le_refl _
     omega
   refine ⟨?_,fun x=>?_⟩
   ·rw [List.pairwise_append]
    refine ⟨i1,by simp,fun a ha b hb=>?_⟩
    obtain ⟨j,hj,hjm,rfl⟩:=(i2 a).1 ha
    simp at hb
    subst hb
    exact hlt j hj hjm
   ·rw [List.mem_append,i2,List.mem_singleton]
    constructor
    ·rintro (⟨j,hj,hjm,rfl⟩ | rfl)
     ·exact ⟨j,hj,by omega,rfl⟩
     ·exact ⟨m,by omega,by omega,rfl⟩
    ·rintro ⟨j,hj,hjm,rfl⟩
     rcases Nat.lt_or_ge j m with h3 | h3
     ·exact .inl ⟨j,hj,h3,rfl⟩
     ·have:j=m:=by omega
      subst this
      exact .inr rfl
  ·rw [if_neg hk,List.append_nil]
   refine ⟨i1,fun x=>?_⟩
   rw [i2]
   constructor
   ·rintro ⟨j,hj,hjm,rfl⟩
    exact ⟨j,hj,by omega,rfl⟩
   ·rintro ⟨j,hj,hjm,rfl⟩
    rcases Nat.lt_or_ge j m with h3 | h3
    ·exact ⟨j,hj,h3,rfl⟩
    ·have:j=m:=by omega
     subst this
     unfold Lib.keeps at hk
     rw [decide_eq_true_eq] at hk
     have h0:¬ j=0:=fun e=>hk (.inl e)
     have h1:zs.toArray[j]! = zs.toArray[j - 1]!:=Decidable.of_not_not fun e=>hk (.inr e)
     rw [hget j hj,hget (j - 1) (by omega)] at h1
     exact ⟨j - 1,by omega,by omega,h1.symm⟩
theorem zrf {zs:List Int} (h:zs.Pairwise (·≤·)):(Lib.compact zs).Pairwise (· < ·)∧∀ x,x∈Lib.compact zs↔x∈zs:=by
 obtain ⟨h1,h2⟩:=zw5 h zs.length (Nat.le_refl _)
 refine ⟨h1,fun x=>(h2 x).trans ?_⟩
 rw [List.mem_iff_getElem]
 constructor
 ·rintro ⟨j,hj,_,rfl⟩; exact ⟨j,hj,rfl⟩
 ·rintro ⟨j,hj,rfl⟩; exact ⟨j,hj,hj,rfl⟩
theorem z0d {zs:List Int} (h:zs.Pairwise (·≤·)):(Lib.compact zs).length=zs.length↔zs.Nodup:=by
 constructor
 ·intro hl
  have hall:∀ j,j < zs.length→Lib.keeps zs.toArray j=true:=by
   unfold Lib.compact Lib.compactUpTo at hl
   rw [List.length_map] at hl
   have hr:(List.range zs.length).length=zs.length:=List.length_range
   have h1:=List.length_filter_eq_length_iff.1 (hl.trans hr.symm)
   exact fun j hj=>h1 j (List.mem_range.2 hj)
  have h2:=(zrf h).1
  rw [Lib.compact_all zs hall] at h2
  exact h2.imp fun h=>by omega
 ·intro hn
  rw [Lib.compact_all zs fun j hj=>?_]
  unfold Lib.keeps
  rw [decide_eq_true_eq]
  by_cases h0:j=0
  ·exact .inl h0
  ·refine .inr fun e=>?_
   have e1:zs.toArray[j]! = zs[j]:=by simp [hj]
   have e2:zs.toArray[j - 1]! = zs[j - 1]'(by omega):=by simp [show j - 1 < zs.length by omega]
   rw [e1,e2] at e
   exact (List.pairwise_iff_getElem.1 hn) (j - 1) j (by omega) hj (by omega) e.symm
def sortI (l:List Int):List Int:=l.mergeSort fun x y=>decide (x≤y)
theorem zqu (l:List Int):(sortI l).Pairwise (·≤·):=by
 have:=List.pairwise_mergeSort (le:=fun x y:Int=>decide (x≤y)) (fun a b c h1 h2=>by simp at *; omega) (fun a b=>by simp; omega) l
 exact this.imp fun h=>by simpa using h
theorem zon (l:List Int):(sortI l).Perm l:=List.mergeSort_perm l _
theorem zqh (l:List Int):(sortI l).length=l.length:=(zon l).length_eq
theorem z65 {l:List Int} (h:l.length≤1000000):zgj l=some (sortI l):=giv_t h
theorem zu1 {l:List Int} (h:l.length≤1000000):zfn l=some (Lib.compact l):=giv_t h
theorem zbd3 {l:List Int} (h:l.length≤1000000):zgb l=some l:=giv_t h
theorem zbev {a b:List Int} (ha:a.Pairwise (· < ·)) (hb:b.Pairwise (· < ·)) (h:∀ x,x∈a↔x∈b):a=b:=by
 refine List.Perm.eq_of_pairwise (le:=(·≤·)) (fun a b _ _ h1 h2=>by omega) (ha.imp fun h=>by omega) (hb.imp fun h=>by omega) ?_
 exact (List.perm_ext_iff_of_nodup (ha.imp fun h=>by omega) (hb.imp fun h=>by omega)).2 h
theorem zxw {l:List Int} (h:l.length≤1000000):zfq l=some (((Lib.compact (sortI l)).length:Nat):Int):=by
 unfold zfq
 rw [zh (zbd3 h),zh (z65 h),zh (zu1 (by rw [zqh]; exact h))]
theorem zqv {l:List Int} : (((Lib.compact (sortI l)).length:Nat):Int)=((l.length:Nat):Int)↔l.Nodup:=by
 rw [Int.natCast_inj,← zqh l,z0d (zqu l)]
 exact (zon l).nodup_iff
theorem zi6 {l:List Int} (h:l.length≤1000000):zb9 l=some (decide l.Nodup):=by
 refine Ok.eq ?_
 unfold zb9
 refine zcz (zbi (by omega)) ?_
 refine zgf (fun j _=>(l.take j).Nodup) (Nat.zero_le _) (by simp) (fun i s nxt _ hi hI hn=>?_) (fun s hI=>.mk ?_)
 ·refine zcz (zbi (by omega)) ?_
  refine zgf (fun j _=>∀ k (hk:k < l.length),k < j→l[k]≠l[i]) (Nat.zero_le _) (fun k _ h=>by omega) (fun j s2 nxt2 _ hj hI2 hn2=>?_) (fun s2 hI2=>hn _ ?_)
  ·refine ok_at hi ?_
   refine ok_at (by omega) ?_
   refine zbt (fun hc=>.mk ?_) (fun hc=>hn2 _ fun k hk hkj=>?_)
   ·have hc:=of_decide_eq_true hc
    refine (decide_eq_false fun hnd=>?_).symm
    exact (List.pairwise_iff_getElem.1 hnd) j i (by omega) hi hj hc.symm
   ·rcases Nat.lt_or_ge k j with h1 | h1
    ·exact hI2 k hk h1
    ·have:k=j:=by omega
     subst this
     exact fun e=>of_decide_eq_false hc e.symm
  ·rw [List.take_add_one,List.getElem?_eq_getElem hi,Option.toList_some,List.nodup_append]
   refine ⟨hI,by simp,fun a ha b hb=>?_⟩
   simp at hb
   subst hb
   obtain ⟨k,hk,rfl⟩:=List.mem_iff_getElem.1 ha
   rw [List.getElem_take]
   have hk2:k < i∧k < l.length:=by rw [List.length_take] at hk; omega
   exact hI2 k hk2.2 hk2.1
 ·rw [List.take_length] at hI
  exact (decide_eq_true hI).symm
theorem zx6 {a b : Graph} (ha : FewG a) (hb : FewG b) {m : zbo} (hm : m.nodes.length ≤ 1000 ∧ m.edges.length ≤ 1000) (hv : zbn a b m = some 0) :
  zeg a b m=some (decide m.nodes.Nodup && decide m.edges.Nodup)∧zdo a b m=some (decide m.nodes.Nodup && decide m.edges.Nodup):=by
 unfold zeg zdo
 rw [zw6,zh hv,zh hv,decide_eq_true rfl,cond_true,cond_true,zh (zxw (by omega)),zh (zxw (by omega)),zh (zi6 (by omega)),zh (zi6 (by omega))]
 have e1:decide ((((Lib.compact (sortI m.nodes)).length:Nat):Int)=((m.nodes.length:Nat):Int))=decide m.nodes.Nodup:=by congr 1; exact propext zqv
 have e2:decide ((((Lib.compact (sortI m.edges)).length:Nat):Int)=((m.edges.length:Nat):Int))=decide m.edges.Nodup:=by congr 1; exact propext zqv
 rw [e1,e2]
 cases decide m.nodes.Nodup <;> simp

def restL (n:Nat) (l:List Int):List Int:=((List.range n).filter fun i:Nat=>!decide ((i:Int)∈l)).map fun i:Nat=>(i:Int)
theorem z5g {n:Nat} {l:List Int} {x:Int} : x∈restL n l↔(0≤x∧x < n)∧x ∉ l:=by
 unfold restL
 simp only [List.mem_map,List.mem_filter,List.mem_range,Bool.not_eq_true',decide_eq_false_iff_not]
 constructor
 ·rintro ⟨i,⟨h1,h2⟩,rfl⟩; exact ⟨⟨by omega,by omega⟩,h2⟩
 ·rintro ⟨⟨h1,h2⟩,h3⟩; exact ⟨x.toNat,⟨by omega,by rwa [Int.toNat_of_nonneg h1]⟩,by omega⟩
theorem zhu (n:Nat) (l:List Int):(restL n l).length≤n:=by
 unfold restL
 rw [List.length_map]
 exact Nat.le_trans (List.length_filter_le _ _) (by simp)
theorem zuy {f : Nat → List Int → (List Int → Option (List Int)) → (List Int → Option (List Int)) → Option (List Int)} {K : List Int → Option (List Int)} {n : Nat} {l : List Int} (h : ∀ i, i < n → ∀ s nxt, s.length ≤ i → f i s nxt K = cond (decide ((i : Int) ∈ l)) (nxt s) (nxt (s ++ [(i : Int)]))) :
  forN f (n - 0) 0 [] K=K (restL n l):=by
 have e:=zgr (K:=K) (s:=([]:List Int)) (f:=f) (List.range n) (fun (s:List Int) (i:Nat)=>if (!decide ((i:Int)∈l))=true then s++[(i:Int)] else s) (fun i s=>s.length≤i) (Nat.le_refl _) (fun i hi s hs=>⟨fun nxt=>?_,?_⟩)
 ·rw [List.length_range] at e
  rw [e.1]
  congr 1
  unfold restL
  have:∀ (q:List Nat) (s:List Int),q.foldl (fun (s:List Int) (i:Nat)=>if (!decide ((i:Int)∈l))=true then s++[(i:Int)] else s) s=s++(q.filter fun i:Nat=>!decide ((i:Int)∈l)).map fun i:Nat=>(i:Int):=by
   intro q
   induction q with
   | nil=>intro s; simp
   | cons a q ih =>
    intro s
    rw [List.foldl_cons,ih,List.filter_cons]
    split <;> simp
  rw [this,List.nil_append]
 ·have hi':i < n:=by simpa using hi
  rw [h i hi' s nxt hs,List.getElem_range]
  cases decide ((i:Int)∈l) <;> simp
 ·rw [List.getElem_range]
  split
  ·simp; omega
  ·omega
theorem zt3 {l:List Int} (hl:l.length≤1000000) (x:Int):ze9 l x=some (decide (x∈l)):=by
 unfold ze9 zg8
 rw [chk_t (zbi (by omega))]
 rw [zh (zhz l (fun y=>decide (x=y)) (fun i hi nxt=>by rw [zb3 hi]) rfl),zjw]
 rw [← zt4]
 congr 2
 funext y
 congr 1
 exact propext eq_comm
theorem zn9 {l:List Int} (hl:l.length≤1000000) (n:Nat) (hn:n≤1000000):zfs l (n:Int)=some (restL n l):=by
 unfold zfs
 rw [Int.toNat_natCast,chk_t (zbi (by omega))]
 exact zuy (l:=l) fun i hi s nxt hs=>by rw [zh (zt3 hl _),chk_t (by omega)]
theorem zs0 {l:List Int} (hl:l.length≤1000000) (n:Nat) (hn:n≤1000000):zcs (n:Int) l=some (restL n l):=by
 unfold zcs
 rw [Int.toNat_natCast,chk_t (zbi (by omega))]
 exact zuy (l:=l) fun i hi s nxt hs=>by rw [zh (znz hl _),chk_t (by omega)]
def madeN (r:zm):List Int:=restL r.right.graph.nodes.length r.into.nodes
def madeE (r:zm):List Int:=restL r.right.graph.edges.length r.into.edges
def goneN (r:zm):List Int:=restL r.left.graph.nodes.length r.keep.nodes
def goneE (r:zm):List Int:=restL r.left.graph.edges.length r.keep.edges
theorem zkv {r:zm} (hr:FewR0 r):zf2 r=some (madeN r,madeE r)∧zcd r=some (madeN r,madeE r):=by
 have h1:=hr.into
 have h2:=hr.right.graph.nodes
 have h3:=hr.right.graph.edges
 unfold zf2 zcd
 rw [zh (zn9 (by omega) _ (by omega)),zh (zn9 (by omega) _ (by omega)),zh (zs0 (by omega) _ (by omega)),zh (zs0 (by omega) _ (by omega))]
 exact ⟨rfl,rfl⟩
theorem zud {r:zm} (hr:FewR0 r):zgv r=some (goneN r,goneE r)∧zdf r=some (goneN r,goneE r):=by
 have h1:=hr.keep
 have h2:=hr.left.graph.nodes
 have h3:=hr.left.graph.edges
 unfold zgv zdf
 rw [zh (zn9 (by omega) _ (by omega)),zh (zn9 (by omega) _ (by omega)),zh (zs0 (by omega) _ (by omega)),zh (zs0 (by omega) _ (by omega))]
 exact ⟨rfl,rfl⟩
def makeB (t:Types) (g:Graph) (nodes edges:List Int):Bool:=nodes.all (fun n=>!(t.nodes.getD (g.nodes.getD n.toNat default).toNat default).abs) && edges.all fun n=>fitsT t (g.edges.getD n.toNat default).type (g.nodes.getD (g.edges.getD n.toNat default).src.toNat default) (g.nodes.getD (g.edges.getD n.toNat default).dst.toNat default)
theorem zvf {t : Types} (ht : FewT t) {g : Graph} (hg : OkG g) (hb : typedB t g = true) {nodes edges : List Int} (hn : ∀ x ∈ nodes, 0 ≤ x ∧ x < g.nodes.length) (he : ∀ x ∈ edges, 0 ≤ x ∧ x < g.edges.length) (hnl : nodes.length ≤ 1000) (hel : edges.length ≤ 1000) :
  zgu t g nodes edges=some (makeB t g nodes edges)∧zd7 t g nodes edges=some (makeB t g nodes edges):=by
 have a1:∀ x∈nodes,atZ g.nodes x=some (g.nodes.getD x.toNat default)∧atZ t.nodes (g.nodes.getD x.toNat default)=some (t.nodes.getD (g.nodes.getD x.toNat default).toNat default):=fun x hx=>by
  have:=hn x hx
  have hi:x.toNat < g.nodes.length:=by omega
  have hk:=zjl hb hg hi
  have hi2:g.nodes[x.toNat].toNat < t.nodes.length:=by omega
  constructor
  ·unfold atZ; rw [if_pos this.1,List.getElem?_eq_getElem hi,zb6 hi]
  ·rw [zb6 hi]; unfold atZ; rw [if_pos hk.1,List.getElem?_eq_getElem hi2,zb6 hi2]
 have a2:∀ x∈edges,atZ g.edges x=some (g.edges.getD x.toNat default)∧atZ g.nodes (g.edges.getD x.toNat default).src=some (g.nodes.getD (g.edges.getD x.toNat default).src.toNat default)∧atZ g.nodes (g.edges.getD x.toNat default).dst=some (g.nodes.getD (g.edges.getD x.toNat default).dst.toNat default):=fun x hx=>by
  have:=he x hx
  have hi:x.toNat < g.edges.length:=by omega
  have hk:=hg.edge _ hi
  refine ⟨?_,?_,?_⟩
  ·unfold atZ; rw [if_pos this.1,List.getElem?_eq_getElem hi,zb6 hi]
  ·have hi2:(g.edges.getD x.toNat default).src.toNat < g.nodes.length:=by omega
   unfold atZ; rw [if_pos hk.2.1.1,List.getElem?_eq_getElem hi2,zb6 hi2]
  ·have hi2:(g.edges.getD x.toNat default).dst.toNat < g.nodes.length:=by omega
   unfold atZ; rw [if_pos hk.2.2.1,List.getElem?_eq_getElem hi2,zb6 hi2]
 constructor
 ·unfold zgu makeB
  rw [zh (zcl (p:=fun x=>zf4 x ⟨t.nodes,t.edges⟩ ⟨g.nodes,g.edges⟩) (fun n=>!(fun n=>!(t.nodes.getD (g.nodes.getD n.toNat default).toNat default).abs) n) (by omega) fun x hx=>by
   unfold zf4
   obtain ⟨b1,b2⟩:=a1 x hx
   rw [zh b1,zh b2,Bool.not_not]),zjf]
  cases nodes.all fun n=>!(t.nodes.getD (g.nodes.getD n.toNat default).toNat default).abs with
  | false=>rfl
  | true =>
   rw [Bool.not_true,cond_false,Bool.true_and]
   rw [zh (zcl (p:=fun x=>zf5 x g ⟨t.nodes,t.edges⟩) (fun n=>!(fun n=>fitsT t (g.edges.getD n.toNat default).type (g.nodes.getD (g.edges.getD n.toNat default).src.toNat default) (g.nodes.getD (g.edges.getD n.toNat default).dst.toNat default)) n) (by omega) fun x hx=>by
    unfold zf5
    obtain ⟨b1,b2,b3⟩:=a2 x hx
    rw [zh b1,zh b2,zh b3,zh (zbfc ht _ _ _)]),zjf,Bool.not_not]
 ·unfold zd7 makeB
  rw [chk_t (zbi (by omega))]
  rw [zcp nodes (fun n=>!(t.nodes.getD (g.nodes.getD n.toNat default).toNat default).abs) (fun _=>some false) (fun i hi nxt=>by
   obtain ⟨b1,b2⟩:=a1 _ (List.getElem_mem hi)
   rw [zb3 hi,zh b1,zh b2,zmx]),zd1]
  cases nodes.all fun n=>!(t.nodes.getD (g.nodes.getD n.toNat default).toNat default).abs with
  | false=>rfl
  | true =>
   rw [if_pos rfl,Bool.true_and,chk_t (zbi (by omega))]
   rw [zcp edges (fun n=>fitsT t (g.edges.getD n.toNat default).type (g.nodes.getD (g.edges.getD n.toNat default).src.toNat default) (g.nodes.getD (g.edges.getD n.toNat default).dst.toNat default)) (fun _=>some false) (fun i hi nxt=>by
    obtain ⟨b1,b2,b3⟩:=a2 _ (List.getElem_mem hi)
    rw [zb3 hi,zh b1,zh b2,zh b3,zh (zbed ht _ _ _)]),zd1]
   cases edges.all _ <;> rfl
end Go.Proofs.YtimojjnmmlhijaaGreat
namespace Go.Proofs.YtimojjnmmlhijaaGreat
open Go.Abs

mutual
def cSize:zi→Nat
 | ⟨_,kids,_,_⟩=>cSizeL kids+1
def cSizeL:List zi→Nat
 | []=>0
 | a :: r=>cSize a+cSizeL r
end
mutual
def cFew:zi→Prop
 | ⟨_,kids,m,p⟩=>FewP p∧m.nodes.length+m.edges.length≤140∧cFewL kids
def cFewL:List zi→Prop
 | []=>True
 | a :: r=>cFew a∧cFewL r
end
theorem zop (c:zi):cSize c=cSizeL c.kids+1:=by cases c; rw [cSize]
theorem z2q {l:List zi} {k:zi} (h:k∈l):cSize k≤cSizeL l:=by
 induction l with
 | nil=>cases h
 | cons a r ih =>
  rw [cSizeL]
  rcases List.mem_cons.1 h with rfl | h
  ·omega
  ·have:=ih h; omega
theorem zmr (c:zi):0 < cSize c:=by rw [zop]; omega
theorem z3y (l:List zi):l.length≤cSizeL l:=by
 induction l with
 | nil=>simp
 | cons a r ih =>
  rw [cSizeL,List.length_cons]
  have:=zmr a
  omega
theorem zq2 {c:zi} (h:cFew c):FewP c.pattern∧c.map.nodes.length+c.map.edges.length≤140∧cFewL c.kids:=by cases c; rw [cFew] at h; exact h
theorem zvk {l:List zi} (h:cFewL l) {k:zi} (hk:k∈l):cFew k:=by
 induction l with
 | nil=>cases hk
 | cons a r ih =>
  rw [cFewL] at h
  rcases List.mem_cons.1 hk with rfl | hk
  ·exact h.1
  ·exact ih h.2 hk
theorem cKid {c k:zi} (h:k∈c.kids):cSize k < cSize c:=by
 rw [zop c]
 have:=z2q h
 omega
theorem cKids {c:zi} : c.kids.length < cSize c:=by
 rw [zop]
 have:=z3y c.kids
 omega

def bareB (c:zi):Bool:=decide (c.map.nodes.length+c.map.edges.length+c.pattern.graph.nodes.length+c.pattern.graph.edges.length+c.pattern.slots.length+c.pattern.tests.length=0) && decide (c.pattern.vars=0)
theorem zbfi {c:zi} (h:cFew c):zea c=some (bareB c):=by
 obtain ⟨⟨⟨h1,h2⟩,h3,h4⟩,h5,_⟩:=zq2 h
 unfold zea bareB
 rw [wrapI (n:=((c.map.nodes.length:Nat):Int)+((c.map.edges.length:Nat):Int)) (by omega),wrapI (n:=((c.map.nodes.length:Nat):Int)+((c.map.edges.length:Nat):Int)+((c.pattern.graph.nodes.length:Nat):Int)) (by omega),
  wrapI (n:=((c.map.nodes.length:Nat):Int)+((c.map.edges.length:Nat):Int)+((c.pattern.graph.nodes.length:Nat):Int)+((c.pattern.graph.edges.length:Nat):Int)) (by omega),
  wrapI (n:=((c.map.nodes.length:Nat):Int)+((c.map.edges.length:Nat):Int)+((c.pattern.graph.nodes.length:Nat):Int)+((c.pattern.graph.edges.length:Nat):Int)+((c.pattern.slots.length:Nat):Int)) (by omega),
  wrapI (by omega)]
 by_cases h0:c.map.nodes.length+c.map.edges.length+c.pattern.graph.nodes.length+c.pattern.graph.edges.length+c.pattern.slots.length+c.pattern.tests.length=0
 ·rw [decide_eq_true h0,decide_eq_true (by omega)]; rfl
 ·rw [decide_eq_false h0,decide_eq_false (by omega)]; rfl
theorem zbag {c:zi} (h:cFew c):zcf c=some (bareB c):=by
 obtain ⟨⟨⟨h1,h2⟩,h3,h4⟩,h5,_⟩:=zq2 h
 unfold zcf bareB
 rw [wrapI (n:=((c.map.nodes.length:Nat):Int)+((c.map.edges.length:Nat):Int)) (by omega),wrapI (n:=((c.map.nodes.length:Nat):Int)+((c.map.edges.length:Nat):Int)+((c.pattern.graph.nodes.length:Nat):Int)) (by omega),
  wrapI (n:=((c.map.nodes.length:Nat):Int)+((c.map.edges.length:Nat):Int)+((c.pattern.graph.nodes.length:Nat):Int)+((c.pattern.graph.edges.length:Nat):Int)) (by omega),wrapI (n:=((c.pattern.slots.length:Nat):Int)+((c.pattern.tests.length:Nat):Int)) (by omega)]
 simp only [zo]
 by_cases h0:c.map.nodes.length+c.map.edges.length+c.pattern.graph.nodes.length+c.pattern.graph.edges.length+c.pattern.slots.length+c.pattern.tests.length=0
 ·rw [decide_eq_true h0,if_pos (by omega),if_pos (by omega)]; rfl
 ·rw [decide_eq_false h0]
  split
  ·rw [if_neg (by omega)]; rfl
  ·rfl
def kindB2 (c:zi):Bool:=if c.kind=1 then decide (c.kids.length=0) && bareB c else if c.kind=2 then decide (c.kids.length=1) && bareB c else if c.kind=3∨c.kind=4 then decide (0 < c.kids.length) && bareB c else if c.kind=5 then decide (c.kids.length=1) else false
theorem z7m {c:zi} (h:cFew c):zep c=some (kindB2 c):=by
 unfold zep kindB2
 simp only [zo,zh (zbag h)]
 by_cases h1:c.kind=1
 ·rw [if_pos h1,if_pos h1]
  by_cases h0:c.kids.length=0
  ·rw [if_pos (by omega),decide_eq_true h0,Bool.true_and]
  ·rw [if_neg (by omega),decide_eq_false h0,Bool.false_and]
 rw [if_neg h1,if_neg h1]
 by_cases h2:c.kind=2
 ·rw [if_pos h2,if_pos h2]
  by_cases h0:c.kids.length=1
  ·rw [if_pos (by omega),decide_eq_true h0,Bool.true_and]
  ·rw [if_neg (by omega),decide_eq_false h0,Bool.false_and]
 rw [if_neg h2,if_neg h2]
 by_cases h3:c.kind=3
 ·rw [if_pos h3,if_pos (show c.kind=3∨c.kind=4 from .inl h3)]
  by_cases h0:0 < c.kids.length
  ·rw [if_pos (by omega),decide_eq_true h0,Bool.true_and]
  ·rw [if_neg (by omega),decide_eq_false h0,Bool.false_and]
 rw [if_neg h3]
 by_cases h4:c.kind=4
 ·rw [if_pos h4,if_pos (show c.kind=3∨c.kind=4 from .inr h4)]
  by_cases h0:0 < c.kids.length
  ·rw [if_pos (by omega),decide_eq_true h0,Bool.true_and]
  ·rw [if_neg (by omega),decide_eq_false h0,Bool.false_and]
 rw [if_neg h4,if_neg (show ¬ (c.kind=3∨c.kind=4) by omega)]
 by_cases h5:c.kind=5
 ·rw [if_pos h5,if_pos h5]
  congr 1
  by_cases h0:c.kids.length=1
  ·rw [decide_eq_true h0,decide_eq_true (by omega)]
  ·rw [decide_eq_false h0,decide_eq_false (by omega)]
 ·rw [if_neg h5,if_neg h5]
theorem zbda:∀ (n:Nat) (c:zi),cSize c≤n→cSize c≤1000→cFew c→∃ b,zbe n c=some b∧zcb n c=some b:=by
 intro n
 induction n with
 | zero=>intro c h; have:=zmr c; omega
 | succ n ih =>
  intro c hc h1000 hf
  have hkl:=cKids (c:=c)
  have hk:∀ k∈c.kids,∃ b,zbe n k=some b∧zcb n k=some b:=fun k hk=>by
   have:=cKid hk
   exact ih k (by omega) (by omega) (zvk (zq2 hf).2.2 hk)
  let w:zi→Bool:=fun k=>(zbe n k).getD false
  have hw1:∀ k∈c.kids,zbe n k=some (w k):=fun k hk'=>by
   obtain ⟨b,h1,_⟩:=hk k hk'
   simp only [w,h1,Option.getD_some]
  have hw2:∀ k∈c.kids,zcb n k=some (w k):=fun k hk'=>by
   obtain ⟨b,h1,h2⟩:=hk k hk'
   simp only [w,h1,h2,Option.getD_some]
  refine ⟨kindB2 c && c.kids.all w,?_,?_⟩
  ·have hcf:zbu c.kids (fun x=>zbp (fun y0=>zbe n y0) x)=some (c.kids.any fun k=>!w k):=zj3 _ (by omega) fun x hx=>by
    unfold zbp
    rw [zh (hw1 x hx)]
   rw [zjf] at hcf
   unfold zbe kindB2
   simp only [zo,zh (zbfi hf),zh hcf,Bool.not_not]
   by_cases h1:c.kind=1
   ·rw [if_pos h1,if_pos h1]
    by_cases h0:c.kids.length=0
    ·rw [if_pos (by omega),decide_eq_true h0,Bool.true_and]
     cases bareB c <;> simp
    ·rw [if_neg (by omega),decide_eq_false h0]; rfl
   rw [if_neg h1,if_neg h1]
   by_cases h2:c.kind=2
   ·rw [if_pos h2,if_pos h2]
    by_cases h0:c.kids.length=1
    ·rw [if_pos (by omega),decide_eq_true h0,Bool.true_and]
     cases bareB c <;> simp
    ·rw [if_neg (by omega),decide_eq_false h0]; rfl
   rw [if_neg h2,if_neg h2]
   by_cases h3:c.kind=3
   ·rw [if_pos h3,if_pos (show c.kind=3∨c.kind=4 from .inl h3)]
    by_cases h0:0 < c.kids.length
    ·rw [if_pos (by omega),decide_eq_true h0,Bool.true_and]
     cases bareB c <;> simp
    ·rw [if_neg (by omega),decide_eq_false h0]; rfl
   rw [if_neg h3]
   by_cases h4:c.kind=4
   ·rw [if_pos h4,if_pos (show c.kind=3∨c.kind=4 from .inr h4)]
    by_cases h0:0 < c.kids.length
    ·rw [if_pos (by omega),decide_eq_true h0,Bool.true_and]
     cases bareB c <;> simp
    ·rw [if_neg (by omega),decide_eq_false h0]; rfl
   rw [if_neg h4,if_neg (show ¬ (c.kind=3∨c.kind=4) by omega)]
   by_cases h5:c.kind=5
   ·rw [if_pos h5,if_pos h5]
    by_cases h0:c.kids.length=1
    ·rw [if_pos (by omega),decide_eq_true h0,Bool.true_and]
    ·rw [if_neg (by omega),decide_eq_false h0]; rfl
   ·rw [if_neg h5,if_neg h5]; rfl
  ·unfold zcb
   rw [zh (z7m hf)]
   cases kindB2 c with
   | false=>rfl
   | true =>
    rw [cond_true,chk_t (zbi (by omega)),Bool.true_and]
    rw [zcp c.kids w (fun _=>some false) (fun i hi nxt=>by rw [zb3 hi,zh (hw2 _ (List.getElem_mem hi))]),zd1]
    cases c.kids.all w <;> rfl
theorem z3k:∀ (n:Nat) (c:zi),zcw n c=zdd n c:=by
 intro n
 induction n with
 | zero=>intro c; rfl
 | succ n ih =>
  intro c
  unfold zcw zdd
  simp only [ih]
theorem z1a:∀ (n:Nat) (c:zi),cSize c≤n→cSize c≤1000→∃ r,zcw n c=some r:=by
 intro n
 induction n with
 | zero=>intro c h; have:=zmr c; omega
 | succ n ih =>
  intro c hc h1000
  have hkl:=cKids (c:=c)
  suffices h:Ok (zcw (n+1) c) (fun _=>True) from ⟨_,h.choose_spec.1⟩
  unfold zcw
  refine zcz (zbi (by omega)) ?_
  refine zgf (fun j _=>True) (Nat.zero_le _) trivial (fun j s nxt _ hj _ hn=>?_) (fun s _=>?_)
  ·refine ok_at hj ?_
   have hk:=cKid (List.getElem_mem hj)
   obtain ⟨r,hr⟩:=ih c.kids[j] (by omega) (by omega)
   exact ok_eq hr (hn _ trivial)
  ·exact zbt (fun _=>.mk trivial) (fun _=>.mk trivial)
theorem z2n {c:zi} (hc:cSize c≤1000) (hf:cFew c):∃ e,zgo c=some e∧zdr c=some e:=by
 obtain ⟨b,h1,h2⟩:=zbda fuel c (zbi (by omega)) hc hf
 obtain ⟨r,h3⟩:=z1a fuel c (zbi (by omega)) hc
 have h4:=h3
 rw [z3k] at h4
 unfold zgo zdr
 rw [zh h1,zh h2]
 cases b with
 | false=>exact ⟨_,rfl,rfl⟩
 | true =>
  rw [cond_true,cond_true,zh h3,zh h4]
  cases decide (12 < r.1) <;> cases decide (3 < r.2) <;> exact ⟨_,rfl,rfl⟩

theorem zvd {t:Types} {p:zx} (h:patE t p=0∨patE t p=9):0≤p.vars∧p.vars≤12∨(validT t).2=9∨validG p.graph=9:=by
 unfold patE at h
 split at h
 ·rename_i h1; exact .inr (.inl (h.resolve_left h1))
 split at h
 ·rename_i h1; exact .inr (.inr (h.resolve_left h1))
 split at h
 ·rcases h with h | h <;> cases h
 split at h
 ·rcases h with h | h <;> cases h
 ·exact .inl (by omega)
theorem zre (g:Graph):validG g≠9:=by
 unfold validG
 split
 ·decide
 split
 ·decide
 split <;> decide
theorem z13 {t:Types} (ht:OkT t) {q:zx} (hq:FewP q) {v:Int} (hv:0≤v∧v≤12) (hvq:¬ q.vars < v):∃ e,zdg t q v=some e∧zck t v q=some e∧(e=0→0≤q.vars∧q.vars≤12):=by
 have hs:=hq.slots
 have hocc:∀ s:Int,zci q.slots (fun x=>ze7 x s)=some (occB q.slots s):=fun s=>zh9 _ (by omega) fun x _=>rfl
 have hocc2:∀ s:Int,zd8 q s=some (occB q.slots s):=fun s=>by
  unfold zd8 occB
  rw [chk_t (zbi (by omega))]
  rw [zcp q.slots (fun y=>!decide (y.term.var=s)) (fun _=>some true) (fun i hi nxt=>by
   rw [zb3 hi]
   cases decide (q.slots[i].term.var=s) <;> rfl),zd1]
  rw [← Bool.not_not (List.any _ _),← List.not_any_eq_all_not]
  simp only [Bool.not_not]
  cases q.slots.any fun y=>decide (y.term.var=s) <;> simp
 have heq:zck t v q=zdg t q v:=by
  unfold zck zdg
  rw [zo,if_neg hvq,zh (zhh ht.few hq),zh (zf7 ht.few hq)]
  simp only [zh (hocc _),zh (hocc2 _)]
 rw [heq]
 suffices h:Ok (zdg t q v) (fun e=>e=0→0≤q.vars∧q.vars≤12) from ⟨_,h.choose_spec.1,h.choose_spec.1,h.choose_spec.2⟩
 have hvT:=ht.valid
 have key:patE t q=0∨patE t q=9→0≤q.vars∧q.vars≤12:=fun h=>by
  rcases zvd h with h | h | h
  ·exact h
  ·rw [hvT] at h; cases h
  ·exact absurd h (zre _)
 unfold zdg
 refine ok_eq (zhh ht.few hq) ?_
 refine zbt (fun h9=>?_) (fun _=>.mk fun h=>key (.inl h))
 have hvars:=key (.inr (of_decide_eq_true h9))
 refine zlw (fun s:Int=>0≤s∧s≤12) (fun s=>(q.vars - s).toNat) hv (by unfold fuel; omega) ?_
 intro s nxt hsv hn
 refine zbt (fun hc=>?_) (fun _=>.mk fun _=>hvars)
 have hc:=of_decide_eq_true hc
 refine ok_eq (hocc s) ?_
 refine zbt (fun _=>?_) (fun _=>.mk fun h=>key (.inl h))
 rw [wrapI (by omega)]
 exact hn _ ⟨by omega,by omega⟩ (by omega)
theorem zu6 {n : Nat} {t : Types} {p : zx} {l : List zi} (hl : l.length ≤ 1000) (h : ∀ k ∈ l, ∃ e, zb8 n t p k = some e ∧ zb0 n t p k = some e) :
  ∃ e,(chk (l.length≤fuel) <| forN (fun i (s:Unit) nxts brks=>thn (l[i]?) fun e792=>thn (zb8 n t p e792) fun r793=>cond (decide (r793=0)) (nxts ()) <| some r793) (l.length - 0) 0 () fun s=>some (0:Int))=some e ∧
   (chk (l.length≤fuel) <| forN (fun i (s:Unit) nxts brks=>thn (l[i]?) fun e792=>thn (zb0 n t p e792) fun r793=>cond (decide (r793=0)) (nxts ()) <| some r793) (l.length - 0) 0 () fun s=>some (0:Int))=some e:=by
 let w:zi→Int:=fun k=>(zb8 n t p k).getD 0
 have hw1:∀ k∈l,zb8 n t p k=some (w k):=fun k hk'=>by
  obtain ⟨b,h1,_⟩:=h k hk'
  simp only [w,h1,Option.getD_some]
 have hw2:∀ k∈l,zb0 n t p k=some (w k):=fun k hk'=>by
  obtain ⟨b,h1,h2⟩:=h k hk'
  simp only [w,h1,h2,Option.getD_some]
 have hfl:l.length≤fuel:=zbi (by omega)
 refine ⟨errL w l,?_,?_⟩
 ·rw [chk_t hfl,zcp l (fun k=>decide (w k=0)) (fun k=>some (w k)) (fun i hi nxt=>by rw [zb3 hi,zh (hw1 _ (List.getElem_mem hi))])]
  exact zhv rfl
 ·rw [chk_t hfl,zcp l (fun k=>decide (w k=0)) (fun k=>some (w k)) (fun i hi nxt=>by rw [zb3 hi,zh (hw2 _ (List.getElem_mem hi))])]
  exact zhv rfl
theorem zyz {t:Types} (ht:OkT t):∀ (n:Nat) (c:zi) (p:zx),cSize c≤n→cSize c≤1000→cFew c→FewG p.graph→0≤p.vars∧p.vars≤12→∃ e,zb8 n t p c=some e∧zb0 n t p c=some e:=by
 intro n
 induction n with
 | zero=>intro c p h; have:=zmr c; omega
 | succ n ih =>
  intro c p hc h1000 hf hpg hpv
  have hkl:=cKids (c:=c)
  obtain ⟨hq,hm,hkf⟩:=zq2 hf
  have hkid:∀ (p':zx),FewG p'.graph→0≤p'.vars∧p'.vars≤12→∀ k∈c.kids,∃ e,zb8 n t p' k=some e∧zb0 n t p' k=some e:=fun p' h1 h2 k hk=>by
   have:=cKid hk
   exact ih k p' (by omega) (by omega) (zvk hkf hk) h1 h2
  unfold zb8 zb0
  rw [zo (p:=c.kind=5),zo (p:=c.kind=5)]
  by_cases h5:c.kind=5
  ·rw [if_pos h5,if_pos h5,zo (p:=c.pattern.vars < p.vars)]
   by_cases hv:c.pattern.vars < p.vars
   ·rw [if_pos hv]
    have hi:zck t p.vars c.pattern=some 20:=by
     unfold zck
     rw [zo,if_pos hv]
    rw [zh hi]
    exact ⟨_,rfl,rfl⟩
   ·rw [if_neg hv]
    obtain ⟨e,he1,he2,he3⟩:=z13 ht hq hpv hv
    rw [zh he1,zh he2,zo (p:=e=0),zo (p:=e=0)]
    by_cases h0:¬ (e=0)
    ·rw [if_neg h0,if_neg h0]; exact ⟨_,rfl,rfl⟩
    have h0:=Decidable.of_not_not h0
    rw [if_pos h0,if_pos h0]
    obtain ⟨e2,hm1,_⟩:=z6k hpg hq.graph (m:=c.map)
    rw [zw6,zh hm1,zh hm1,zo (p:=e2=0),zo (p:=e2=0)]
    by_cases h2:¬ (e2=0)
    ·rw [if_neg h2,if_neg h2]; exact ⟨_,rfl,rfl⟩
    have h2:=Decidable.of_not_not h2
    subst h2
    rw [if_pos rfl,if_pos rfl]
    obtain ⟨i1,i2⟩:=zx6 hpg hq.graph (m:=c.map) ⟨by omega,by omega⟩ hm1
    rw [zh i1,zh i2]
    cases decide c.map.nodes.Nodup && decide c.map.edges.Nodup with
    | false=>exact ⟨_,rfl,rfl⟩
    | true=>exact zu6 (by omega) (hkid _ hq.graph (he3 h0))
  ·rw [if_neg h5,if_neg h5]
   exact zu6 (by omega) (hkid _ hpg hpv)
theorem z7b {t:Types} (ht:OkT t) {p:zx} (hp:FewP p) {c:zi} (hc:cSize c≤1000) (hf:cFew c):∃ e,zgn t p c=some e∧zcj t p c=some e:=by
 unfold zgn zcj
 rw [zh (zhh ht.few hp),zh (zf7 ht.few hp),zo (p:=patE t p=0),zo (p:=patE t p=0)]
 by_cases h0:¬ (patE t p=0)
 ·rw [if_neg h0,if_neg h0]; exact ⟨_,rfl,rfl⟩
 have h0:=Decidable.of_not_not h0
 rw [if_pos h0,if_pos h0]
 obtain ⟨e,h1,h2⟩:=z2n hc hf
 rw [zh h1,zh h2,zo (p:=e=0),zo (p:=e=0)]
 by_cases h3:¬ (e=0)
 ·rw [if_neg h3,if_neg h3]; exact ⟨_,rfl,rfl⟩
 have h3:=Decidable.of_not_not h3
 rw [if_pos h3,if_pos h3]
 have hv:0≤p.vars∧p.vars≤12:=by
  rcases zvd (.inl h0) with h | h | h
  ·exact h
  ·rw [ht.valid] at h; cases h
  ·exact absurd h (zre _)
 obtain ⟨e2,h4,h5⟩:=zyz ht fuel c p (zbi (by omega)) hc hf hp.graph hv
 rw [zh h4,zh h5]
 exact ⟨_,rfl,rfl⟩
end Go.Proofs.YtimojjnmmlhijaaGreat
