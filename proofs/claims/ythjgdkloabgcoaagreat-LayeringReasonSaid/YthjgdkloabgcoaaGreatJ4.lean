/- Joined texts, part 4: lemmas for the statement. No condition. -/
import Derived.Test.YthjgdkloabgcoaaGreatJ3
import Derived.ArgAppend
import Derived.Laws.Slices
set_option maxHeartbeats 4000000
set_option linter.unusedSimpArgs false
set_option linter.unusedVariables false
open Nat (reduceEqDiff reduceLT reduceLeDiff reduceMul reduceAdd reduceSub)
namespace Go.Abs
open Go.RowKit

variable {P:Program} {I:Mem} {L:zbl}

theorem Sim.turnI {C : Ctx} {env : Env} {H : za} {I I' : Mem} {L : zbl} {tmps : Array Value} {w w' : World} (h : Sim C env H I L tmps w)
  (hb:Below C.B w w') {id:Nat} {l l':Loc} (hl:L id=some l) (hk:∀b,b<w.heap.size→l.blk≠some b→w'.heap[b]? = w.heap[b]?)
  (hle:zcd L (lset L id l')) (hsub:I.sub I') (hI':I'.inW w') (hIo:∀b,b<w.heap.size→l.blk≠some b→∀o,I' b o=I b o) (ch:zcb)
  (hch:zmd I' (lset L id l') w' C.B id ch) (hl':∀b,l'.blk=some b→l.blk=some b∨(w.heap.size≤b∧b<w'.heap.size)):Sim C env (hset H id ch) I' (lset L id l') tmps w' where
 below:=h.below.trans hb
 mem:=hI'
 memC:=Mem.sub_trans h.memC hsub
 memN:=fun b hlt hf o=>by
  rw[hIo b (Nat.lt_of_lt_of_le hlt h.below.size) fun e=>?_]
  ·exact h.memN b hlt hf o
  ·rcases h.blkF id l b hl e with h1 | h1
   ·omega
   ·exact hf h1
 frame:=fun b hlt hf=>by
  have hlt':=Nat.lt_of_lt_of_le hlt h.below.size
  refine (hk b hlt' fun e=>?_).trans (h.frame b hlt hf)
  rcases h.blkF id l b hl e with h1 | h1
  ·omega
  ·exact hf h1
 loc:=h.loc.trans hle
 blkF:=fun i li b hi hlb=>by
  by_cases e:i=id
  ·subst e
   have:l'=li:=by simpa[lset] using hi
   subst this
   rcases hl' b hlb with k | k
   ·exact h.blkF i l b hl k
   ·exact .inl (Nat.le_trans h.below.size k.1)
  ·exact h.blkF i li b (by simpa[lset,e] using hi) hlb
 size:=h.size
 env:=fun t=>(h.env t).mono hsub hle
 dom:=fun i li hi=>by
  by_cases e:i=id
  ·exact⟨ch,by simp[hset,e]⟩
  ·obtain⟨c,hc⟩:=h.dom i li (by simpa[lset,e] using hi)
   exact⟨c,by simpa[hset,e] using hc⟩
 chunk:=fun i c hc=>by
  by_cases e:i=id
  ·subst e
   have:ch=c:=by simpa[hset] using hc
   subst this; exact hch
  ·refine (h.chunk i c (by simpa[hset,e] using hc)).keep hsub hle (by simp[lset,e]) fun li b hi hbi=>?_
   have hne:l.blk≠some b:=fun eb=>e (h.apart i id li l b hi hl hbi eb)
   exact⟨hk b (h.blkB i li b hi hbi).2 hne,hIo b (h.blkB i li b hi hbi).2 hne⟩
 blkB:=fun i li b hi hlb=>by
  by_cases e:i=id
  ·subst e
   have:l'=li:=by simpa[lset] using hi
   subst this
   rcases hl' b hlb with k | k
   ·exact⟨(h.blkB i l b hl k).1,Nat.lt_of_lt_of_le (h.blkB i l b hl k).2 hb.size⟩
   ·exact⟨Nat.le_trans h.leB k.1,k.2⟩
  ·have:=h.blkB i li b (by simpa[lset,e] using hi) hlb
   exact⟨this.1,Nat.lt_of_lt_of_le this.2 hb.size⟩
 apart:=fun i j li lj b hi hj hbi hbj=>by
  by_cases ei:i=id<;>by_cases ej:j=id
  ·rw[ei,ej]
  ·subst ei
   have:l'=li:=by simpa[lset] using hi
   subst this
   have h2:=h.blkB j lj b (by simpa[lset,ej] using hj) hbj
   rcases hl' b hbi with k | k
   ·exact h.apart i j l lj b hl (by simpa[lset,ej] using hj) k hbj
   ·omega
  ·subst ej
   have:l'=lj:=by simpa[lset] using hj
   subst this
   have h2:=h.blkB i li b (by simpa[lset,ei] using hi) hbi
   rcases hl' b hbj with k | k
   ·exact h.apart i j li l b (by simpa[lset,ei] using hi) hl hbi k
   ·omega
  ·exact h.apart i j li lj b (by simpa[lset,ei] using hi) (by simpa[lset,ej] using hj) hbi hbj

def Mem.add (I:Mem) (b lo:Nat) (us:List Value):Mem:=fun c o=>if c=b∧lo≤o∧o<lo+us.length then us[o - lo]? else I c o
theorem VR.lst_inv {I : Mem} {u : Value} {es : List (List PV)} (h : VR I u (.lst es)) : ∃ ao cap, ∃ us : List Value, u = .slice ao es.length cap ∧ us.length = es.flatten.length ∧ (∀ (j : Nat) u c, us[j]? = some u → es.flatten[j]? = some c → VR I u c) ∧
  (∀u∈us,u.oneCell'=true)∧(us=[]∨∃b off,ao=some ⟨b,off,none⟩∧∀ (j:Nat) u,us[j]? = some u→I b (off+j)=some u)∧es.length≤cap:=by
 cases h with
 | lst ao n cap _ us sz hn hsz hl hv hone hm hnil hcap=>subst hn; exact⟨ao,cap,us,rfl,hl,hv,hone,hm,hcap⟩
theorem Mem.sub_add {I:Mem} {b lo:Nat} {us:List Value} (h:∀o,lo≤o→o<lo+us.length→I b o=none):I.sub (I.add b lo us):=fun c o u hu=>by
 unfold Mem.add
 split
 ·rename_i hc
  obtain⟨rfl,h1,h2⟩:=hc
  rw[h o h1 h2] at hu; cases hu
 ·exact hu
theorem Mem.add_at {I:Mem} {b lo:Nat} {us:List Value} {j:Nat} {u:Value} (h:us[j]? = some u):I.add b lo us b (lo+j)=some u:=by
 have hj:=(List.getElem?_eq_some_iff.1 h).1
 unfold Mem.add
 rw[if_pos ⟨rfl,by omega,by omega⟩,show lo+j - lo=j by omega]
 exact h
theorem Mem.add_other {I:Mem} {b lo:Nat} {us:List Value} {c o:Nat} (h:c≠b∨o<lo∨lo+us.length≤o):I.add b lo us c o=I c o:=by
 unfold Mem.add
 rw[if_neg (by omega)]
theorem Mem.add_inW {I:Mem} {b lo:Nat} {us:List Value} {w:World} (h:∀c o u,I c o=some u→(c=b→o<lo∨lo+us.length≤o)→w.cell? ⟨c,o,none⟩=some u) (hu:∀ (j:Nat) u,us[j]? = some u→w.cell? ⟨b,lo+j,none⟩=some u):(I.add b lo us).inW w:=fun c o u h1=>by
 unfold Mem.add at h1
 split at h1
 ·rename_i hc
  obtain⟨rfl,h2,h3⟩:=hc
  have:=hu _ u h1
  rwa [show lo+(o - lo)=o by omega] at this
 ·exact h c o u h1 (by omega)

theorem zx {H' H:za} {id v:Nat} {e:TypeId} {sz:Nat} {es:List (List PV)} (h:zjm H' H):zjm (hset H' id (.tail v e sz es)) H:=fun i c' hi=>by
 unfold hset at hi
 split at hi
 ·cases hi
 ·exact h i c' hi
theorem z99 {env:Env} {H:za} (id v:Nat) (e:TypeId) (sz:Nat) (es:List (List PV)) (hH:H id=some (.row v e sz es)) (hne:es≠[]):Weak env H env (hset H id (.tail v e sz es)):=fun C I L tm w hs=>by
 obtain⟨hdr,us,h1,h2,h3,h4,h5,h6,h7⟩:=hs.chunk id _ hH
 rcases h2.2 with ⟨_,hn⟩ | ⟨g,cap,cur,rfl,hb,hg,hnc,hcm,hcs,htake⟩
 ·exact absurd (List.length_eq_zero_iff.1 hn) hne
 have hfree:=h7 g rfl
 have hus:us.length=es.length * sz:=h2.1
 have hlen:us.length=es.flatten.length:=by rw[zb8 h4]; exact hus
 have hcell:∀ (j:Nat) u,us[j]? = some u→w.cell? ⟨g,0+j,none⟩=some u:=fun j u hu=>by
  rw[Nat.zero_add,zev hg]
  rw[←htake,List.getElem?_take] at hu
  split at hu
  ·simpa using hu
  ·cases hu
 have hsub:I.sub (I.add g 0 us):=Mem.sub_add fun o _ _=>hfree o
 refine⟨I.add g 0 us,lset L id (.row v (.slice (some ⟨g,0,none⟩) es.length cap) sz),hs.turnI (Below.refl _ _) h1 (fun _ _ _=>rfl) (zcd.lset_same h1) hsub (Mem.add_inW (fun c o u hu _=>hs.mem c o u hu) hcell) (fun b _ hb o=>Mem.add_other (.inl fun e=>hb (by rw[e]; rfl))) _ ?_ (fun b hb=>.inl hb)⟩
 refine⟨g,0,cap,cur,by simp[lset],hg,by omega,hnc,h3,h4,?_,fun j hj _=>?_⟩
 ·exact .lst _ _ _ es us sz rfl h4 hlen (fun j u c hu hc=>(h5 j u c hu hc).mono hsub) h6 (.inr ⟨g,0,rfl,fun j u hu=>Mem.add_at hu⟩) (by simp) hnc
 ·rw[Mem.add_other (by omega)]
  exact hfree j

theorem zxn (w : World) (t ty e : TypeId) (i : TypeInfo) (ht : P.underlying t = some (.slice e)) (hi : P.info? e = some i)
  (b o sLen sCap:Nat) (cur:Array Value) (hg:w.heap[b]? = some (.cells cur e (0,0))) (a:Addr) (m c:Nat) (news:List Value) (hl:news.length=m * i.size) (hnews:∀j u,news[j]? = some u→w.cell? (a.add j)=some u) (h1:∀u∈news,u.oneCell'=true)
  (hroom:sLen+m≤sCap) (hc:o+sLen * i.size+news.length≤cur.size) :
  (Builtin.append_ #[t,t] ty #[.slice (some ⟨b,o,none⟩) sLen sCap,.slice (some a) m c]).run P w = .ok (.slice (some ⟨b,o,none⟩) (sLen+m) sCap) (w.setRow b (splice cur.toList (o+sLen * i.size) news).toArray):=by
 have hfc:=run_firstCells_some (P:=P) w i.size m a m c news hl hnews
 have hst:=run_storeCells_at (P:=P) b (o+sLen * i.size) e news 0 cur w hg (by omega) h1
 simp only[Nat.add_zero] at hst
 simp[Builtin.append_,run_underlying ht,sizeOf,typeInfo,hi,Builtin.lenOf,hroom,hfc,Addr.add_lit,hst,splice]

theorem zpw {α:Type} {cs:List α} {off:Nat} {new:List α} (h:off+new.length≤cs.length) (j:Nat):(splice cs off new)[j]? = if off≤j∧j<off+new.length then new[j - off]? else cs[j]?:=by
 unfold splice
 rw[List.append_assoc,List.getElem?_append,List.length_take,List.getElem?_append,List.getElem?_take,List.getElem?_drop]
 by_cases h1:j<off
 ·rw[if_pos (by omega),if_pos h1,if_neg (by omega)]
 ·rw[if_neg (by omega)]
  by_cases h2:j<off+new.length
  ·rw[if_pos (by omega),if_pos (by omega),show j - min off cs.length=j - off by omega]
  ·rw[if_neg (by omega),if_neg (by omega),show off+new.length+(j - min off cs.length - new.length)=j by omega]

theorem zbb0 {o : Oper} {W : Env → za → Prop} {env : Env} {H : za} (t1 t2 : TypeId) (x y : Operand) (id v : Nat) (e : TypeId) (sz by' : Nat) (es ns : List (List PV)) (hop : o.op = .call ⟨.builtin .append, #[x, y], #[t1, t2]⟩)
  (ht:appTypes P t1 t2=some (e,sz,by')) (hx:ev env x = .row id v) (hy:ev env y = .p (.lst ns)) (hH:H id=some (.tail v e sz es)) (hns:ns≠[]) (hall:∀x∈ns,x.length=sz) (hb:(es.length+ns.length) * by'≤140737488355328)
  (hW:W (putA env o.dst (.row id (v+1))) (hset H id (.tail (v+1) e sz (es++ns)))):callK P o W env H:=by
 refine .inr (.inr ⟨_,_,hW,fun C I L tm w σ hs hσ=>?_⟩)
 have hxv:=hσ x
 have hyv:=hσ y
 rw[hx] at hxv
 rw[hy] at hyv
 obtain⟨rfl,hu,hpos,hbpos,i,z,hi,hz,hsz,hby,hzc⟩:=zka ht
 have hs':∀w,(execOp σ o).run P w=((Builtin.append_ #[t1,t1] o.type #[σ x,σ y]).run P w).andThen fun u w'=>.ok (.value u) w':=fun w=>by
  unfold execOp
  rw[hop]
  simp[resolve,invoke,builtin,Result.andThen]
 obtain⟨g,of',cap,arr,q1,q2,q3,q4,q5,q6,q7,q8⟩:=hs.chunk id _ hH
 have hmax:es.length+ns.length≤maxLen:=by
  have:=Nat.le_mul_of_pos_right (es.length+ns.length) hbpos
  simp only[maxLen]; omega
 generalize σ x=ux at *
 generalize σ y=uy at *
 cases hxv with
 | row _ _ _ v1 hdr1 sz1 hl hle hh hone =>
  rw[q1] at hl
  simp only[Option.some.injEq,Loc.row.injEq] at hl
  obtain⟨r1,r2,r3⟩:=hl
  subst r1 r2 r3
  have hxe:=hh rfl
  subst hxe
  have hnfl:=zb8 hall
  cases hyv.of_p with
  | lst bo n ncap _ nus nsz hlen hnsz hnl hnv hnone hnm hnnil hncap =>
   subst hlen
   have hnl':nus.length=ns.length * sz:=by rw[hnl,hnfl]
   have hnpos:0<ns.length:=List.length_pos_iff.2 hns
   rcases hnm with rfl | ⟨bb,off,rfl,hI⟩
   ·have:0<ns.length * sz:=Nat.mul_pos hnpos hpos
    simp at hnl'; omega
   have hnews:∀ (j:Nat) v,nus[j]? = some v→w.cell? ((⟨bb,off,none⟩:Addr).add j)=some v:=fun j v hj=>by rw[Addr.add_mid]; exact hs.mem _ _ _ (hI j v hj)
   obtain⟨ao,cap',us,he7,hul,huv,huone,hum,hucap⟩:=q7.lst_inv
   simp only[Value.slice.injEq] at he7
   obtain⟨rfl,_,rfl⟩:=he7
   have hfl:=zb8 q6
   have hul':us.length=es.length * sz:=by rw[hul,hfl]
   have hIus:∀ (j:Nat) u,us[j]? = some u→I g (of'+j)=some u:=by
    rcases hum with rfl | ⟨b2,o2,e2,k⟩
    ·intro j u hu; simp at hu
    ·simp only[Option.some.injEq,Addr.mk.injEq] at e2
     obtain⟨rfl,rfl,_⟩:=e2
     exact k
   have hvals:∀ {J:Mem},I.sub J→∀ (j:Nat) u c,(us++nus)[j]? = some u→(es++ns).flatten[j]? = some c→VR J u c:=fun hJ=>by
    rw[List.flatten_append]
    exact zt3 (by rw[hul]) (fun j u c hu hc=>(huv j u c hu hc).mono hJ) (fun j u c hu hc=>(hnv j u c hu hc).mono hJ)
   have hone2:∀u∈us++nus,u.oneCell'=true:=fun u hu=>(List.mem_append.1 hu).elim (huone u) (hnone u)
   have hall2:∀x∈es++ns,x.length=sz:=fun x hx=>(List.mem_append.1 hx).elim (q6 x) (hall x)
   have hlen2:(us++nus).length=(es++ns).flatten.length:=by rw[List.length_append,List.flatten_append,List.length_append,hul,hnl]
   by_cases hr:es.length+ns.length≤cap
   ·subst hsz
    have hmul:(es.length+ns.length) * i.size≤cap * i.size:=Nat.mul_le_mul_right _ hr
    rw[Nat.add_mul] at hmul
    have hrun:=zxn (P:=P) w t1 o.type e i hu hi g of' es.length cap arr q2 ⟨bb,off,none⟩ ns.length ncap nus hnl' hnews hnone hr (by omega)
    have hsp:∀j,(w.setRow g (splice arr.toList (of'+es.length * i.size) nus).toArray).cell? ⟨g,j,none⟩=if of'+es.length * i.size≤j∧j<of'+es.length * i.size+nus.length then nus[j - (of'+es.length * i.size)]? else arr[j]?:=fun j=>by
     rw[cell_setRow_same w g j arr _ e (0,0) q2]
     have:=zpw (cs:=arr.toList) (off:=of'+es.length * i.size) (new:=nus) (by simp; omega) j
     simpa using this
    have hsub:I.sub (I.add g (of'+es.length * i.size) nus):=Mem.sub_add fun k h1 h2=>q8 k h1 (by omega)
    refine⟨_,_,I.add g (of'+es.length * i.size) nus,lset L id (.row (v+1) (.slice (some ⟨g,of',none⟩) (es.length+ns.length) cap) i.size),.inl (by rw[hs',hrun]; rfl),.row _ _ _ (v+1) _ i.size (by simp[lset]) (Nat.le_refl _) (fun _=>rfl) rfl,fun env tm hs=>?_⟩
    have hgB:=(hs.blkB id _ g q1 rfl).1
    refine hs.turnI (zke _ hgB) q1 (fun k _ hk=>setRow_other w g k _ (fun e=>hk (by rw[e]; rfl))) (zcd.lset_older q1) hsub (Mem.add_inW (fun c k u hu hc=>?_) (fun j u hj=>?_)) (fun k _ hk o=>Mem.add_other (.inl fun e=>hk (by rw[e]; rfl))) _ ?_ (fun k hk=>.inl hk)
    ·by_cases hcg:c=g
     ·subst hcg
      rw[hsp,if_neg (by have:=hc rfl; omega)]
      have:=hs.mem _ _ _ hu
      rwa [zev q2] at this
     ·rw[cell_setRow_other _ _ _ _ hcg]
      exact hs.mem _ _ _ hu
    ·have hj':=(List.getElem?_eq_some_iff.1 hj).1
     rw[hsp,if_pos ⟨by omega,by omega⟩,show of'+es.length * i.size+j - (of'+es.length * i.size)=j by omega]
     exact hj
    ·refine⟨g,of',cap,_,by simp[lset],setRow_heap w g arr _ e (0,0) q2,?_,by simpa using hr,q5,hall2,?_,fun j h1 h2=>?_⟩
     ·simp only[List.size_toArray]
      rw[zeh (by simp; omega)]
      simpa using q3
     ·refine .lst _ _ _ _ (us++nus) i.size rfl hall2 hlen2 (hvals hsub) hone2 (.inr ⟨g,of',rfl,fun j u hj=>?_⟩) (by simp) (by simpa using hr)
      rw[List.getElem?_append] at hj
      split at hj
      ·exact hsub _ _ _ (hIus j u hj)
      ·have:=Mem.add_at (I:=I) (b:=g) (lo:=of'+es.length * i.size) hj
       rwa [show of'+es.length * i.size+(j - us.length)=of'+j by omega] at this
     ·rw[List.length_append,Nat.add_mul] at h1
      rw[Mem.add_other (.inr (.inr (by omega)))]
      exact q8 j (by omega) h2
   ·obtain⟨v',w',hrun,r1,r2⟩:=run_append_arg_grows (P:=P) w t1 o.type e i z sz by' hu hi hz hsz hby hzc hpos ⟨g,of',none⟩ es.length cap us hul' (fun j u hj=>by rw[Addr.add_mid]; exact hs.mem _ _ _ (hIus j u hj)) ⟨bb,off,none⟩ ns.length ncap nus hnl' hnews (by omega) hmax hb
    rcases r1.2 with ⟨_,hn0⟩ | ⟨g',cap',cur,rfl,hbg,hgg,hnc,hcm,hcs,htake⟩
    ·omega
    have hg':g'<w'.heap.size:=(Array.getElem?_eq_some_iff.1 hgg).1
    have hIg:∀k,I g' k=none:=fun k=>by
     cases hI:I g' k with
     | none=>rfl
     | some u=>exact absurd (hs.mem.lt hI) (by omega)
    have hcell:∀ (j:Nat) u,(us++nus)[j]? = some u→w'.cell? ⟨g',0+j,none⟩=some u:=fun j u hu=>by
     rw[Nat.zero_add,zev hgg]
     rw[←htake,List.getElem?_take] at hu
     split at hu
     ·simpa using hu
     ·cases hu
    have hsub:I.sub (I.add g' 0 (us++nus)):=Mem.sub_add fun k _ _=>hIg k
    refine⟨_,_,I.add g' 0 (us++nus),lset L id (.row (v+1) (.slice (some ⟨g',0,none⟩) (es.length+ns.length) cap') sz),.inl (by rw[hs',hrun]; rfl),.row _ _ _ (v+1) _ sz (by simp[lset]) (Nat.le_refl _) (fun _=>rfl) rfl,fun env tm hs=>?_⟩
    refine hs.turnI (Below.grown (Below.refl _ _) r2 hs.leB fun k hk=>by cases hk) q1 (fun k hk _=>r2.block k hk (by simp)) (zcd.lset_older q1) hsub (Mem.add_inW (fun c k u hu _=>?_) hcell) (fun k hk _ o=>Mem.add_other (.inl (by omega))) _ ?_ (fun k hk=>.inr ?_)
    ·have hlt:=hs.mem.lt hu
     rw[World.cell?_of_block (w:=w) (r2.block c hlt (by simp))]
     exact hs.mem _ _ _ hu
    ·refine⟨g',0,cap',cur,by simp[lset],hgg,by omega,by simpa using hnc,q5,hall2,?_,fun j h1 h2=>?_⟩
     ·rw[List.length_append]
      exact .lst _ _ _ _ (us++nus) sz (by simp) hall2 hlen2 (hvals hsub) hone2 (.inr ⟨g',0,rfl,fun j u hj=>Mem.add_at hj⟩) (by simp) hnc
     ·rw[List.length_append,Nat.add_mul] at h1
      rw[Mem.add_other (.inr (.inr (by rw[List.length_append]; omega)))]
      exact hIg j
    ·simp[Loc.blk,Value.ownBlock] at hk
     omega

theorem z5x {o : Oper} {W : Env → za → Prop} {env : Env} {H : za} (t : TypeId) (x lo : Operand) (id v : Nat) (e : TypeId) (sz : Nat) (es : List (List PV)) (k : IntKind) (n : Int) (hop : o.op = .slice t x (some lo) none none)
  (ht:slElem P t=some e) (hsz:tySize P e=some sz) (hx:ev env x = .row id v) (hlo:ev env lo = .p (.val (.int k n))) (hH:H id=some (.tail v e sz es)) (hn:0≤n∧n.toNat≤es.length)
  (hW:W (putA env o.dst (.row id (v+1))) (hset H id (.tail (v+1) e sz (es.drop n.toNat)))):callK P o W env H:=by
 refine .inr (.inr ⟨_,_,hW,fun C I L tm w σ hs hσ=>?_⟩)
 have hxv:=hσ x
 have hlv:=hσ lo
 rw[hx] at hxv
 rw[hlo] at hlv
 have hu:=ze2 ht
 obtain⟨hn0,hn1⟩:=hn
 obtain⟨m,rfl⟩:=Int.eq_ofNat_of_zero_le hn0
 simp only[Int.toNat_natCast] at hn1 hW ⊢
 obtain⟨g,of',cap,arr,q1,q2,q3,q4,q5,q6,q7,q8⟩:=hs.chunk id _ hH
 have hs':(execOp σ o).run P w=((Instr.sliceAt t (σ x) (some (σ lo)) none none).run P w).andThen fun u w'=>.ok (.value u) w':=by
  unfold execOp
  rw[hop]
  simp only[Option.map_some,Option.map_none]
  exact zd5 _ w
 generalize σ x=ux at *
 obtain⟨e1,_⟩:=hlv.of_val
 rw[e1] at hs'
 cases hxv with
 | row _ _ _ v1 hdr1 sz1 hl hle hh hone =>
  rw[q1] at hl
  simp only[Option.some.injEq,Loc.row.injEq] at hl
  obtain⟨r1,r2,r3⟩:=hl
  subst r1 r2 r3
  have hxe:=hh rfl
  subst hxe
  have hrun:(Instr.sliceAt t (.slice (some ⟨g,of',none⟩) es.length cap) (some (.int k (m:Int))) none none).run P w = .ok (sliced (some ⟨g,of',none⟩) m es.length cap sz) w:=by
   have h3:(m:Int)≤(es.length:Int):=by omega
   simp[Instr.sliceAt,Instr.slice,run_underlying hu,Instr.sliceBounds,zdq,sliced,zde hsz,h3]
  have hms:m * sz≤es.length * sz:=Nat.mul_le_mul_right _ hn1
  have hcs:es.length * sz≤cap * sz:=Nat.mul_le_mul_right _ q4
  have hdl:(es.drop m).length=es.length - m:=List.length_drop
  have hdm:(es.length - m) * sz=es.length * sz - m * sz:=Nat.sub_mul _ _ _
  have hcm':(cap - m) * sz=cap * sz - m * sz:=Nat.sub_mul _ _ _
  obtain⟨ao,cap',us,he7,hul,huv,huone,hum,hucap⟩:=q7.lst_inv
  simp only[Value.slice.injEq] at he7
  obtain⟨rfl,_,rfl⟩:=he7
  have hfl:=zb8 q6
  have hul':us.length=es.length * sz:=by rw[hul,hfl]
  have hIus:∀ (j:Nat) u,us[j]? = some u→I g (of'+j)=some u:=by
   rcases hum with rfl | ⟨b2,o2,e2,k⟩
   ·intro j u hu; simp at hu
   ·simp only[Option.some.injEq,Addr.mk.injEq] at e2
    obtain⟨rfl,rfl,_⟩:=e2
    exact k
  have hdall:∀x∈es.drop m,x.length=sz:=fun x hx=>q6 x (List.mem_of_mem_drop hx)
  have hdfl:(es.drop m).flatten=es.flatten.drop (m * sz):=by
   have h1:es.flatten=(es.take m).flatten++(es.drop m).flatten:=by rw[←List.flatten_append,List.take_append_drop]
   have h2:(es.take m).flatten.length=m * sz:=by
    rw[zb8 (sz:=sz) fun x hx=>q6 x (List.mem_of_mem_take hx),List.length_take,Nat.min_eq_left hn1]
   rw[h1,←h2,List.drop_left]
  by_cases hc:cap=m
  ·have hml:m=es.length:=by omega
   have hdr:sliced (some ⟨g,of',none⟩) m es.length cap sz = .slice (some ⟨g,of',none⟩) 0 0:=by
    simp[sliced,hc,hml]
   rw[hdr] at hrun
   have hd0:es.drop m=[]:=by rw[hml]; simp
   rw[hd0]
   refine⟨_,w,I,lset L id (.row (v+1) (.slice (some ⟨g,of',none⟩) 0 0) sz),.inl (by rw[hs',hrun]; rfl),.row _ _ _ (v+1) _ sz (by simp[lset]) (Nat.le_refl _) (fun _=>rfl) rfl,fun env tm hs=>?_⟩
   refine hs.turnI (Below.refl _ _) q1 (fun _ _ _=>rfl) (zcd.lset_older q1) (Mem.sub_refl I) hs.mem (fun _ _ _ _=>rfl) _ ?_ (fun k hk=>.inl hk)
   refine⟨g,of',0,arr,by simp[lset],q2,by omega,Nat.le_refl _,q5,by simp,?_,fun j h1 h2=>by simp at h2; omega⟩
   exact .lst _ _ _ [] [] sz rfl (by simp) rfl (by simp) (by simp) (.inl rfl) (by simp) (Nat.le_refl _)
  ·have hdr:sliced (some ⟨g,of',none⟩) m es.length cap sz = .slice (some ⟨g,of'+m * sz,none⟩) (es.length - m) (cap - m):=by
    simp[sliced,hc,Addr.add_mid]
   rw[hdr] at hrun
   refine⟨_,w,I,lset L id (.row (v+1) (.slice (some ⟨g,of'+m * sz,none⟩) (es.length - m) (cap - m)) sz),.inl (by rw[hs',hrun]; rfl),.row _ _ _ (v+1) _ sz (by simp[lset]) (Nat.le_refl _) (fun _=>rfl) rfl,fun env tm hs=>?_⟩
   refine hs.turnI (Below.refl _ _) q1 (fun _ _ _=>rfl) (zcd.lset_older q1) (Mem.sub_refl I) hs.mem (fun _ _ _ _=>rfl) _ ?_ (fun k hk=>.inl hk)
   refine⟨g,of'+m * sz,cap - m,arr,by simp[lset],q2,by omega,by omega,q5,hdall,?_,fun j h1 h2=>q8 j (by rw[hdl,hdm] at h1; omega) (by omega)⟩
   rw[hdl]
   refine .lst _ _ _ _ (us.drop (m * sz)) sz hdl hdall (by rw[hdfl,List.length_drop,List.length_drop,hul]) (fun j u c hu hc=>?_) (fun u hu=>huone u (List.mem_of_mem_drop hu)) (.inr ⟨g,of'+m * sz,rfl,fun j u hu=>?_⟩) (by simp) (by omega)
   ·rw[List.getElem?_drop] at hu
    rw[hdfl,List.getElem?_drop] at hc
    exact huv _ u c hu hc
   ·rw[List.getElem?_drop] at hu
    rw[Nat.add_assoc]
    exact hIus _ u hu
end Go.Abs
namespace Go.Abs
open Go.RowKit

variable {P:Program} {I:Mem} {L:zbl}

theorem z1z (w : World) (dT sT ty e : TypeId) (b o dLen dCap : Nat) (cur : Array Value) (a : Addr) (sLen sCap : Nat) (cs : List Value) (hg : w.heap[b]? = some (.cells cur e (0, 0)))
  (hu:P.underlying dT=some (.slice e)) (hs:tySize P e=some 1) (hn:cs.length=Nat.min sLen dLen)
  (hsrc:∀j v,cs[j]? = some v→w.cell? (a.add j)=some v) (hc:o+cs.length≤cur.size) (h1:∀v∈cs,v.oneCell'=true) :
  (Builtin.copy_ #[dT,sT] ty #[.slice (some ⟨b,o,none⟩) dLen dCap,.slice (some a) sLen sCap]).run P w = .ok (goInt cs.length) (w.setRow b (splice cur.toList o cs).toArray):=by
 have hl:=run_loadCells_list (P:=P) w a cs hsrc
 have hst:=run_storeCells_at (P:=P) b o e cs 0 cur w hg (by omega) h1
 simp only[Nat.add_zero] at hst
 cases hq:P.info? e with
 | none=>simp[tySize,hq] at hs
 | some i =>
  have hi:i.size=1:=by simpa[tySize,hq] using hs
  simp[Builtin.copy_,run_underlying hu,Builtin.lenOf,Builtin.firstCells,sizeOf,typeInfo,hq,hi,←hn,hl,hst,splice]

theorem zrh {α:Type} (ps:List α):(ps.map fun p=>[p]).flatten=ps:=by
 induction ps with
 | nil=>rfl
 | cons a r ih=>rw[List.map_cons,List.flatten_cons,ih]; rfl
theorem zu1 {α:Type} {es:List (List α)} (h:∀x∈es,x.length=1) (o:Nat) (ps:List α):(splice es o (ps.map fun p=>[p])).flatten=splice es.flatten o ps:=by
 have h1:∀ (n:Nat),(es.take n).flatten=es.flatten.take n∧(es.drop n).flatten=es.flatten.drop n:=by
  intro n
  induction es generalizing n with
  | nil=>simp
  | cons a r ih =>
   obtain⟨p,rfl⟩:∃p,a=[p]:=List.length_eq_one_iff.1 (h a List.mem_cons_self)
   cases n with
   | zero=>simp
   | succ n =>
    have:=ih (fun x hx=>h x (List.mem_cons_of_mem _ hx)) n
    simpa using this
 unfold splice
 rw[List.flatten_append,List.flatten_append,zrh,(h1 o).1,List.length_map,(h1 _).2]

theorem zt6 {C : Ctx} {env : Env} {H : za} {tm : Array Value} {w : World} (hs : Sim C env H I L tm w) {op : Oper} {σ : Operand → Value} (x y : Operand) (t1 t2 : TypeId) (hop : op.op = .call ⟨.builtin .copy, #[x, y], #[t1, t2]⟩)
  {id v:Nat} {e:TypeId} {es:List (List PV)} (hH:H id=some (.row v e 1 es)) {g n cap:Nat} (hL:L id=some (.row v (.slice (some ⟨g,0,none⟩) n cap) 1)) (hu:P.underlying t1=some (.slice e)) (hsz:tySize P e=some 1)
  {o dLen dCap:Nat} (hx:σ x = .slice (some ⟨g,o,none⟩) dLen dCap) {a:Addr} {sLen sCap:Nat} (hy:σ y = .slice (some a) sLen sCap) (cs:List Value) (ps:List PV) (hn:cs.length=Nat.min sLen dLen) (hps:ps.length=cs.length) (ho:o+cs.length≤es.length)
  (hsrc:∀j v,cs[j]? = some v→w.cell? (a.add j)=some v) (h1:∀v∈cs,v.oneCell'=true) (hv:∀ (j:Nat) u c,cs[j]? = some u→ps[j]? = some c→VR I u c) :
  zg1 P C H I L w ((execOp σ op).run P w) (.p (.val (.int .i64 (cs.length:Nat)))) (hset H id (.row v e 1 (splice es o (ps.map fun p=>[p])))):=by
 obtain⟨hdr,us,q1,q2,q3,q4,q5,q6,q7⟩:=hs.chunk id _ hH
 rw[hL] at q1
 simp only[Option.some.injEq,Loc.row.injEq,true_and,and_true] at q1
 subst q1
 rcases q2.2 with ⟨hbad,_⟩ | ⟨g',cp,cur,heq,hbg,hgg,hnc,hcm,hcz,htake⟩
 ·cases hbad
 simp only[Value.slice.injEq,Option.some.injEq,Addr.mk.injEq] at heq
 obtain⟨⟨e3,_⟩,e4,e5⟩:=heq
 subst e3 e4 e5
 simp only[Nat.mul_one] at hcz htake
 have hr:=z1z (P:=P) w t1 t2 op.type e g o dLen dCap cur a sLen sCap cs hgg hu hsz hn hsrc (by omega) h1
 have hs':∀w,(execOp σ op).run P w=((Builtin.copy_ #[t1,t2] op.type #[σ x,σ y]).run P w).andThen fun u w'=>.ok (.value u) w':=fun w=>by
  unfold execOp
  rw[hop]
  simp[resolve,invoke,builtin,Result.andThen]
 refine⟨_,_,I,lset L id (.row v (.slice (some ⟨g,0,none⟩) es.length cap) 1),.inl (by rw[hs',hx,hy,hr]; rfl),.p _ _ (.val _ rfl),fun env tm hs=>?_⟩
 refine hs.turn (zke _ (hs.blkB id _ g hL rfl).1) hL (fun k hk hne=>setRow_other w g k _ (fun e=>hne (by rw[e]; rfl))) (zcd.lset_same hL) (fun k hk=>q7 k hk) _ ?_ (fun k hk=>.inl hk)
 have hcl:us.length=es.length:=by have:=q2.1; omega
 have hfl:=zb8 q4
 have hpl:(ps.map fun p=>[p]).length=cs.length:=by rw[List.length_map,hps]
 have hsl:(splice es o (ps.map fun p=>[p])).length=es.length:=zeh (by omega)
 have htk:(splice cur.toList o cs).take es.length=splice us o cs:=by
  rw[zsn (by omega) (by simp; omega),htake]
 refine⟨.slice (some ⟨g,0,none⟩) es.length cap,splice us o cs,by simp[lset],⟨?_,.inr ⟨g,cap,(splice cur.toList o cs).toArray,by rw[hsl],hbg,setRow_heap w g cur _ e _ hgg,by rw[hsl]; exact hnc,hcm,?_,?_⟩⟩,q3,?_,?_,zqj q6 h1,q7⟩
 ·rw[hsl,zeh (by omega),Nat.mul_one]; exact hcl
 ·simp only[List.size_toArray]
  rw[zeh (by simp; omega)]
  simp; omega
 ·rw[hsl,Nat.mul_one]
  simpa using htk
 ·intro z hz
  rcases List.mem_append.1 hz with h | h
  ·rcases List.mem_append.1 h with h | h
   ·exact q4 z (List.mem_of_mem_take h)
   ·obtain⟨p,_,rfl⟩:=List.mem_map.1 h; rfl
  ·exact q4 z (List.mem_of_mem_drop h)
 ·rw[zu1 q4]
  intro j u c hu hc
  rw[zpw (by omega)] at hu
  rw[zpw (by omega)] at hc
  rw[hps] at hc
  split at hu
  ·rename_i h; rw[if_pos h] at hc; exact hv _ u c hu hc
  ·rename_i h; rw[if_neg h] at hc; exact q5 _ u c hu hc

theorem zgk {o:Option Tmp} {xs:Array Operand} {ts:Array TypeId} {ty:TypeId} {pos:String} {af:Array Edge} {g:Option (Nat×Bool)} {ρ:Operand→AV} {H:za} : exM P ⟨o,.call ⟨.builtin .copy,xs,ts⟩,ty,pos,af,g⟩ ρ H=none:=by
 simp[exM,exP,exQ,exW,exS,builtinX]
theorem zbgu {o : Oper} {W : Env → za → Prop} {env : Env} {H : za} (t1 t2 : TypeId) (x y : Operand) (id v : Nat) (e : TypeId) (es : List (List PV)) (ps : List PV) (hop : o.op = .call ⟨.builtin .copy, #[x, y], #[t1, t2]⟩) (hu : P.underlying t1 = some (.slice e)) (hsz : tySize P e = some 1)
  (hx:ev env x = .row id v) (hy:ev env y = .p (.lst (ps.map fun p=>[p]))) (hH:H id=some (.row v e 1 es)) (h0:0<ps.length) (hl:ps.length≤es.length)
  (hW:W (putA env o.dst (.p (.val (.int .i64 (ps.length:Nat))))) (hset H id (.row v e 1 (splice es 0 (ps.map fun p=>[p]))))):callK P o W env H:=by
 refine .inr (.inr ⟨_,_,hW,fun C I L tm w σ hs hσ=>?_⟩)
 have hxv:=hσ x
 have hyv:=hσ y
 rw[hx] at hxv
 rw[hy] at hyv
 obtain⟨hdr,us,q1,q2,q3,q4,q5,q6,q7⟩:=hs.chunk id _ hH
 rcases q2.2 with ⟨_,hn⟩ | ⟨g,cp,cur,heq,hbg,hgg,hnc,hcm,hcz,htake⟩
 ·omega
 subst heq
 have e1:σ x = .slice (some ⟨g,0,none⟩) es.length cp:=by
  generalize σ x=ux at hxv
  cases hxv with
  | row _ _ _ v1 hdr1 sz1 hl1 hle hh hone =>
   rw[q1] at hl1
   simp only[Option.some.injEq,Loc.row.injEq] at hl1
   obtain⟨r1,r2,r3⟩:=hl1
   subst r1 r2 r3
   exact hh rfl
 obtain⟨ao,cap,cs,e2,hcl,hcv,hcone,hcm2,hccap⟩:=hyv.of_p.lst_inv
 rw[zrh] at hcl hcv
 have hne:cs≠[]:=fun e=>by subst e; simp at hcl; omega
 rcases hcm2 with h | ⟨b,off,rfl,hI⟩
 ·exact absurd h hne
 rw[←hcl]
 refine zt6 hs x y t1 t2 hop hH q1 hu hsz e1 e2 cs ps ?_ hcl.symm (by omega) (fun j u hj=>?_) hcone hcv
 ·rw[List.length_map,hcl]; exact (Nat.min_eq_left hl).symm
 ·rw[Addr.add_mid]; exact hs.mem _ _ _ (hI j u hj)
theorem zbgl {H : za} {C : Ctx} {env : Env} {tm : Array Value} {w : World} (hs : Sim C env H I L tm w) {id v : Nat} {e : TypeId} {es : List (List PV)} (hH : H id = some (.row v e 1 es)) (h0 : 0 < es.length) :
  ∃g cap,∃us:List Value,L id=some (.row v (.slice (some ⟨g,0,none⟩) es.length cap) 1)∧es.length≤cap∧us.length=es.length∧(∀ (j:Nat) u c,us[j]? = some u→es.flatten[j]? = some c→VR I u c)∧(∀u∈us,u.oneCell'=true)∧(∀ (j:Nat) u,us[j]? = some u→w.cell? ⟨g,j,none⟩=some u)∧(∀x∈es,x.length=1):=by
 obtain⟨hdr,us,q1,q2,q3,q4,q5,q6,q7⟩:=hs.chunk id _ hH
 rcases q2.2 with ⟨_,hn⟩ | ⟨g,cp,cur,heq,hbg,hgg,hnc,hcm,hcz,htake⟩
 ·omega
 subst heq
 refine⟨g,cp,us,q1,hnc,by have:=q2.1; omega,q5,q6,fun j u hu=>?_,q4⟩
 rw[zev hgg]
 rw[←htake,List.getElem?_take] at hu
 split at hu
 ·simpa using hu
 ·cases hu
theorem AVR.row_of {u:Value} {id v:Nat} {hdr:Value} {sz:Nat} (h:AVR I L u (.row id v)) (hL:L id=some (.row v hdr sz)):u=hdr:=by
 cases h with
 | row _ _ _ v1 hdr1 sz1 hl1 hle hh hone =>
  rw[hL] at hl1
  simp only[Option.some.injEq,Loc.row.injEq] at hl1
  obtain⟨r1,r2,r3⟩:=hl1
  subst r1 r2 r3
  exact hh rfl
theorem zly {o:Oper} {σ:Operand→Value} {x:Operand} {v:Value} (hop:o.op = .move x) (hx:σ x=v) (w:World):(execOp σ o).run P w = .ok (.value v) w:=by
 unfold execOp
 rw[hop]
 simp[hx]
theorem z02 {o : Oper} {σ : Operand → Value} {t e : TypeId} {x lo : Operand} {g n cap m : Nat} (hop : o.op = .slice t x (some lo) none none) (ht : slElem P t = some e) (hsz : tySize P e = some 1) (hx : σ x = .slice (some ⟨g, 0, none⟩) n cap) (hlo : σ lo = .int .i64 (m : Nat)) (hm : m ≤ n) (hc : m < cap) (w : World) :
  (execOp σ o).run P w = .ok (.value (.slice (some ⟨g,m,none⟩) (n - m) (cap - m))) w:=by
 unfold execOp
 rw[hop]
 simp only[Option.map_some,Option.map_none,hx,hlo]
 have hrun:(Instr.sliceAt t (.slice (some ⟨g,0,none⟩) n cap) (some (.int .i64 (m:Nat))) none none).run P w = .ok (sliced (some ⟨g,0,none⟩) m n cap 1) w:=by
  have h3:(m:Int)≤(n:Int):=by omega
  simp[Instr.sliceAt,Instr.slice,run_underlying (ze2 ht),Instr.sliceBounds,zdq,sliced,zde hsz,h3]
 have hd:sliced (some ⟨g,0,none⟩) m n cap 1 = .slice (some ⟨g,m,none⟩) (n - m) (cap - m):=by
  simp[sliced,Addr.add_mid]
  omega
 rw[zd5,hrun,hd]
 rfl
theorem z1l {o : Oper} {σ : Operand → Value} {t e : TypeId} {x hi : Operand} {g n cap m : Nat} (hop : o.op = .slice t x none (some hi) none) (ht : slElem P t = some e) (hsz : tySize P e = some 1) (hx : σ x = .slice (some ⟨g, 0, none⟩) n cap) (hhi : σ hi = .int .i64 (m : Nat)) (hm : m ≤ cap) (w : World) :
  (execOp σ o).run P w = .ok (.value (.slice (some ⟨g,0,none⟩) m cap)) w:=by
 unfold execOp
 rw[hop]
 simp only[Option.map_some,Option.map_none,hx,hhi]
 have hrun:(Instr.sliceAt t (.slice (some ⟨g,0,none⟩) n cap) none (some (.int .i64 (m:Nat))) none).run P w = .ok (sliced (some ⟨g,0,none⟩) 0 m cap 1) w:=by
  have h3:(m:Int)≤(cap:Int):=by omega
  simp[Instr.sliceAt,Instr.slice,run_underlying (ze2 ht),Instr.sliceBounds,zdq,sliced,zde hsz,h3]
 have hd:sliced (some ⟨g,0,none⟩) 0 m cap 1 = .slice (some ⟨g,0,none⟩) m cap:=by
  simp[sliced,Addr.add_mid]
 rw[zd5,hrun,hd]
 rfl
section
variable {ops:Array Oper} {Q:Exit→Act→World→Prop} {C:Ctx} {env:Env} {H:za} {tm:Array Value} {w:World} {fuel:Nat} {listed:Array Bool}
theorem anyTake (i : Nat) (o : Oper) (v : Value) (hi : ops[i]? = some o) (hsel : Region.noSelect ops = true) (hf : Region.free .any ops listed i = true) (hr : (Region.ready .any ops listed).contains i = true) (hQ : ∀ c a w, ¬ Q (.panic c) a w)
  (hg:guardA ops o env=some true) (hd:dstOk C.n o.dst) (h1:v.oneCell'=true) (hs:Sim C env H I L tm w)
  (hy:∀σ:Operand→Value,(∀x,AVR I L (σ x) (ev env x))→∀w,(execOp σ o).run P w = .ok (.value v) w)
  (hk:∀tm',Sim C (putA env o.dst (.p (.val v))) H I L tm' w→wpAny P .any ops Q fuel (listed.setIfInBounds i true) ⟨tm',[]⟩ w):wpAny P .any ops Q (fuel+1) listed ⟨tm,[]⟩ w:=by
 have e:(Act.put ⟨tm,[]⟩ o.dst v:Act)=⟨(Act.put ⟨tm,[]⟩ o.dst v).tmps,[]⟩:=by cases o.dst<;>rfl
 refine wpAny_take (v:=v) hi hsel hf hr (fun c a w h=>absurd h (hQ c _ w)) (.inl ⟨zib hg hs,hy _ (fun x=>zji hs [] x)⟩) ?_
 rw[e]
 exact hk _ (hs.putA hd (.p _ _ (.val _ h1)) [])
theorem anyOne (i : Nat) (o : Oper) {v : AV} {H' : za} (hi : ops[i]? = some o) (hr : Region.ready .any ops listed = [i]) (hg : guardA ops o env = some true) (hd : dstOk C.n o.dst) (hs : Sim C env H I L tm w)
  (hy:∀σ:Operand→Value,(∀x,AVR I L (σ x) (ev env x))→zg1 P C H I L w ((execOp σ o).run P w) v H')
  (hk:∀I' L' tm' w',Fr C I L H w I' L' H' w'→Sim C (putA env o.dst v) H' I' L' tm' w'→wpAny P .any ops Q fuel (listed.setIfInBounds i true) ⟨tm',[]⟩ w'):wpAny P .any ops Q (fuel+1) listed ⟨tm,[]⟩ w:=by
 refine wpAny_all hr (by simp) fun j hj=>?_
 have:j=i:=by simpa using hj
 subst this
 unfold wpOp
 rw[hi]
 simp only[]
 rw[if_pos (zib hg hs)]
 refine .inl ?_
 unfold Oper.wp
 refine (hy _ (fun x=>zji hs [] x)).upon fun u w' I' L' ha hf=>?_
 have e:(Act.put ⟨tm,[]⟩ o.dst u:Act)=⟨(Act.put ⟨tm,[]⟩ o.dst u).tmps,[]⟩:=by cases o.dst<;>rfl
 rw[e]
 exact hk I' L' _ w' hf ((hf env tm hs).putA hd ha [])
end
end Go.Abs
namespace Go.Proofs.YthjgdkloabgcoaaGreat
open Go.Abs

noncomputable def zqw (l:List Int) (n:Int):Option (List Int):=giv (1≤n∧n≤1000000∧l.length=1) (List.replicate n.toNat (l.getD 0 0))
def distStep (q:Int) (s:List Int×List Int) (d:zi):List Int×List Int :=
 if d.dst=q∧s.1.getD d.src.toNat 0<0 then (s.1.set d.src.toNat (s.1.getD q.toNat 0+1),s.2++[d.src]) else s
def distGo (all:List zi):Nat→List Int×List Int→Option (List Int)
 | _,(out,[])=>some out
 | 0,(_,_ :: _)=>none
 | n+1,(out,q :: rest) =>
  let s:=all.foldl (distStep q) (out,q :: rest)
  distGo all n (s.1,s.2.drop 1)
noncomputable def zdd (all:List zi) (to n:Int):Option (List Int) :=
 thn (giv (0≤to∧to<n∧n≤1000∧all.length≤1000000∧∀d∈all,0≤d.src∧d.src<n) ()) fun _ =>
 distGo all (n.toNat+1) ((List.replicate n.toNat (-1)).set to.toNat 0,[to])

end Go.Proofs.YthjgdkloabgcoaaGreat
namespace Go.Proofs.YthjgdkloabgcoaaGreat
open Go.Abs

theorem zbbm {P:Program} {t:TypeId} {k:IntKind} {a b:Int} : binX P .and t (.p (.val (.int k a))) (.p (.val (.int k b)))=some (True,.p (.val (.int k (k.wrap (BitVec.ofInt k.bits a &&& BitVec.ofInt k.bits b).toNat)))):=by simp[binX,binV]
theorem zbcl (n:Nat) (h:n≤1000000):IntKind.u64.wrap ((BitVec.ofInt 64 (n:Int) &&& BitVec.ofInt 64 4294967295).toNat:Int)=n:=by
 have e:(BitVec.ofInt 64 (n:Int) &&& BitVec.ofInt 64 4294967295).toNat=n:=by
  rw[BitVec.toNat_and]
  have e1:(BitVec.ofInt 64 (n:Int)).toNat=n:=by
   rw[BitVec.toNat_ofInt]
   omega
  have e2:(BitVec.ofInt 64 4294967295).toNat=2 ^ 32 - 1:=by decide
  rw[e1,e2,Nat.and_two_pow_sub_one_eq_mod]
  omega
 rw[e]
 exact IntWalk.u64_in _ (by omega)
theorem zbgy:IntKind.u64.wrap ((BitVec.ofInt 64 1 &&& BitVec.ofInt 64 4294967295).toNat:Int)=1:=by decide
theorem zbc2:IntKind.u64.wrap ((BitVec.ofInt 64 0 &&& BitVec.ofInt 64 4294967295).toNat:Int)=0:=by decide
theorem z3e {P:Program} {t:TypeId} (a b:Int) (h:IntKind.u64.wrap ((BitVec.ofInt 64 a &&& BitVec.ofInt 64 4294967295).toNat:Int)=b):binX P .and t (.p (.val (.int .u64 a))) (.p (.val (.int .u64 4294967295)))=some (True,.p (.val (.int .u64 b))):=by
 subst h; exact zbbm
set_option maxRecDepth 20000 in
theorem zbe7 (n:Nat) (hn:n≤1000000):zh Tryz.prog 158 [.val (.int .u64 1),.val (.int .u64 n)] (fun v=>v = .tup [.val (.int .u64 0),.val (.int .u64 n)]):=by
 have hw:IntKind.u64.wrap (n:Int)=n:=IntWalk.u64_in _ (by omega)
 have hw0:IntKind.u64.wrap 0=0:=by decide
 have hf:(n:Int).fdiv (2 ^ 32)=0:=by rw[Int.fdiv_eq_ediv_of_nonneg _ (by decide)]; omega
 have hf1:(1:Int).fdiv (2 ^ 32)=0:=by decide
 have hf0:(0:Int).fdiv (2 ^ 32)=0:=by decide
 have hm:min 32 64=32:=rfl
 have a1:=fun t=>z3e (P:=Tryz.prog) (t:=t) n n (zbcl n hn)
 have a2:=fun t=>z3e (P:=Tryz.prog) (t:=t) 1 1 zbgy
 have a3:=fun t=>z3e (P:=Tryz.prog) (t:=t) 0 0 zbc2
 have hw1:IntKind.u64.wrap 1=1:=by decide
 
 refine zf [] Ty.mixed Tryz.func158 rfl (by kernel_rfl) (by simp[Tryz.ntmps158]) ?_; rw[Tryz.ntmps158,Tryz.results158]
 simp -implicitDefEqProofs only[go_sem,a1,a2,a3,hw1,hw,hw0,hf,hf1,hf0,hm,Int.one_mul,Int.zero_mul,Int.mul_zero,Int.add_zero,Int.zero_add]
 decide
set_option maxRecDepth 20000 in
theorem zbhy (n:Nat) (hn:n≤1000000):zh Tryz.prog 122 [.val (.int .u64 1),.val (.int .u64 n)] (fun v=>v = .tup [.val (.int .u64 0),.val (.int .u64 n)]):=by
 refine zf [] Ty.mixed Tryz.func122 rfl (by kernel_rfl) (by simp[Tryz.ntmps122]) ?_; rw[Tryz.ntmps122,Tryz.results122]
 simp -implicitDefEqProofs only[go_sem]
 refine zba (zbe7 n hn) (by simp -implicitDefEqProofs only[go_sem]<;>rfl) (pers) ?_
 simp -implicitDefEqProofs only[go_sem]
def repL (N k:Nat) (a:Int):List (List PV):=List.replicate k [.val (.int .i64 a)]++List.replicate (N - k) [.val (.int .i64 0)]
theorem zin (N k:Nat) (a:Int) (h:k≤N):(repL N k a).length=N:=by simp[repL]; omega
theorem zbbu (N:Nat) (a:Int):[PV.val (.int .i64 a)] :: List.drop 1 (List.replicate N [PV.val (.int .i64 0)])=repL N 1 a:=by
 simp[repL]
theorem z74 (N k c:Nat) (a:Int) (h:k+c≤N):splice (repL N k a) k ((List.replicate c (PV.val (.int .i64 a))).map fun p=>[p])=repL N (k+c) a:=by
 unfold splice repL
 rw[List.take_left' (by simp),List.map_replicate,List.length_replicate,←List.drop_drop,List.drop_left' (by simp),List.drop_replicate,List.replicate_append_replicate,show N - k - c=N - (k+c) by omega]
set_option maxRecDepth 20000 in
theorem zq0 (l:List Int) (n:Int) (r:List Int) (h:zqw l n=some r):zbt Tryz.prog 89 [.lst (l.map encI),.val (.int .i64 n)] (fun v=>v = .row 3 1 (r.map encI)):=by
 obtain⟨⟨h0,h1,h2⟩,rfl⟩:=zh4 h
 obtain⟨a,rfl⟩:∃a,l=[a]:=List.length_eq_one_iff.1 h2
 obtain⟨N,rfl⟩:∃N:Nat,n=N:=⟨n.toNat,by omega⟩
 simp only[Int.toNat_natCast]
 refine zbx [30] Ty.mixed Tryz.func89 rfl (by kernel_rfl) (by simp[Tryz.ntmps89]) ?_; rw[Tryz.ntmps89,Tryz.results89]
 simp -implicitDefEqProofs only[go_sem]
 refine zc (fun hc=>?_) (fun hc=>?_)
 ·have:=of_decide_eq_true hc; omega
 have hw1:IntKind.u64.wrap (N:Int)=N:=IntWalk.u64_in _ (by omega)
 have hw2:IntKind.i64.wrap (N:Int)=N:=wrapI (by omega)
 have hwl:IntKind.u64.wrap 1=1:=rfl
 
 simp -implicitDefEqProofs only[go_sem,hw1,hw2,hwl,Int.toNat_natCast]
 refine zba (zbhy N (by omega)) (by simp -implicitDefEqProofs only[go_sem,hw1,hw2,hwl,Int.toNat_natCast]<;>rfl) (pers) ?_
 have hlt:decide ((9223372036854775807:Int)<N)=false:=decide_eq_false (by omega)
 have hz:decide ((0:Int)<0)=false:=rfl
 
 simp -implicitDefEqProofs only[go_sem,hw1,hw2,hwl,Int.toNat_natCast,hlt,hz,Bool.not_false,zgk]
 refine⟨by omega,?_⟩
 refine zbgu 34 34 (.tmp 31) (.tmp 32) 30 0 3 (List.replicate N [.val (.int .i64 0)]) [.val (.int .i64 a)] rfl (by kernel_rfl) (by kernel_rfl) (by simp -implicitDefEqProofs only[go_sem,hw1,hw2,hwl,Int.toNat_natCast,hlt,hz,Bool.not_false,zgk]) (by simp -implicitDefEqProofs only[go_sem,hw1,hw2,hwl,Int.toNat_natCast,hlt,hz,Bool.not_false,zgk]<;>rfl) (by simp -implicitDefEqProofs only[go_sem,hw1,hw2,hwl,Int.toNat_natCast,hlt,hz,Bool.not_false,zgk]) (by simp) (by simp; omega) ?_
 simp -implicitDefEqProofs only[go_sem,hw1,hw2,hwl,Int.toNat_natCast,hlt,hz,Bool.not_false,zgk]
 refine zca (σ:=Nat) (fun k=>(upd (upd env0 7 (.row 30 0)) 8 (.p (.val (.int .i64 k))))) (fun k=>(hset heap0 30 (.row 0 3 1 (repL N k a)))) (fun k=>1≤k∧k≤N) (fun k=>N - k) 1 ⟨by omega,by omega⟩ ?_ ?_
 ·rw[zbbu N a]
  exact (zbq (by repeat (first | exact zbk _ | refine zbp ?_ (by first | rfl | simp[upd]))) (by repeat (first | exact hsub0 _ | refine zbb ?_ (by first | rfl | simp[hset]))) (by repeat (first | exact zbi _ | refine zbo ?_ (by simp[idsOk,idsOkL,hset]))) (by repeat (first | exact boxIds0 _ | refine z6 ?_ | refine zy ?_ | refine zx ?_ | refine z2 ?_ (by simp[idsOk,idsOkL,hset]))) (by repeat (first | exact keep0 _ | refine zbh (by decide) ?_ | refine zbc (by simp[hset]) ?_)))
 rintro k ⟨hk1,hk2⟩
 
 simp -implicitDefEqProofs only[go_sem,hw1,hw2,hwl,Int.toNat_natCast,hlt,hz,Bool.not_false,zgk,zin N k a hk2]
 refine zc (fun hc=>?_) (fun hc=>?_)
 ·have hk3:k<N:=by have:=of_decide_eq_true hc; omega
  simp -implicitDefEqProofs only[go_sem,hw1,hw2,hwl,Int.toNat_natCast,hlt,hz,Bool.not_false,zgk,zin N k a hk2]
  intro C I L tm w hC hs
  have hs0:=(Fr.drew C I L _ w) _ tm hs
  have hlen:(repL N k a).length=N:=zin N k a hk2
  obtain⟨g,cap,us,hL,hcap,husl,husv,hus1,husc,hone⟩:=zbgl hs0 (id:=30) (v:=0) (e:=3) (es:=repL N k a) (by simp -implicitDefEqProofs only[go_sem,hw1,hw2,hwl,Int.toNat_natCast,hlt,hz,Bool.not_false,zgk,zin N k a hk2]) (by omega)
  rw[hlen] at hL hcap husl
  refine anyTake (fuel:=9) 0 _ (.int .i64 k) rfl (by kernel_rfl) (by kernel_rfl) (by kernel_rfl) (fun _ _ _ h=>by cases h.2.1) rfl (by rw[hC]; show 38<48; decide) rfl hs0 (fun σ hσ w=>zly rfl (AVR.of_val (show AVR I L (σ (.tmp 8)) (.p (.val (.int .i64 k))) from hσ (.tmp 8))).1 w) fun tm1 hs1=>?_
  refine anyTake (fuel:=8) 1 _ (.slice (some ⟨g,0,none⟩) N cap) rfl (by kernel_rfl) (by kernel_rfl) (by kernel_rfl) (fun _ _ _ h=>by cases h.2.1) rfl (by rw[hC]; show 39<48; decide) rfl hs1 (fun σ hσ w=>zly rfl (AVR.row_of (show AVR I L (σ (.tmp 7)) (.row 30 0) from hσ (.tmp 7)) hL) w) fun tm2 hs2=>?_
  refine anyTake (fuel:=7) 2 _ (.int .i64 k) rfl (by kernel_rfl) (by kernel_rfl) (by kernel_rfl) (fun _ _ _ h=>by cases h.2.1) rfl (by rw[hC]; show 40<48; decide) rfl hs2 (fun σ hσ w=>zly rfl (AVR.of_val (show AVR I L (σ (.tmp 8)) (.p (.val (.int .i64 k))) from hσ (.tmp 8))).1 w) fun tm3 hs3=>?_
  refine anyTake (fuel:=6) 3 _ (.slice (some ⟨g,k,none⟩) (N - k) (cap - k)) rfl (by kernel_rfl) (by kernel_rfl) (by kernel_rfl) (fun _ _ _ h=>by cases h.2.1) rfl (by rw[hC]; show 41<48; decide) rfl hs3 (fun σ hσ w=>z02 (P:=Tryz.prog) (e:=3) rfl (by kernel_rfl) (by kernel_rfl) (AVR.of_val (show AVR I L (σ (.tmp 39)) (.p (.val (.slice (some ⟨g,0,none⟩) N cap))) from hσ (.tmp 39))).1 (AVR.of_val (show AVR I L (σ (.tmp 40)) (.p (.val (.int .i64 k))) from hσ (.tmp 40))).1 hk2 (by omega) w) fun tm4 hs4=>?_
  refine anyTake (fuel:=5) 4 _ (.slice (some ⟨g,0,none⟩) N cap) rfl (by kernel_rfl) (by kernel_rfl) (by kernel_rfl) (fun _ _ _ h=>by cases h.2.1) rfl (by rw[hC]; show 42<48; decide) rfl hs4 (fun σ hσ w=>zly rfl (AVR.row_of (show AVR I L (σ (.tmp 7)) (.row 30 0) from hσ (.tmp 7)) hL) w) fun tm5 hs5=>?_
  refine anyTake (fuel:=4) 5 _ (.int .i64 k) rfl (by kernel_rfl) (by kernel_rfl) (by kernel_rfl) (fun _ _ _ h=>by cases h.2.1) rfl (by rw[hC]; show 43<48; decide) rfl hs5 (fun σ hσ w=>zly rfl (AVR.of_val (show AVR I L (σ (.tmp 8)) (.p (.val (.int .i64 k))) from hσ (.tmp 8))).1 w) fun tm6 hs6=>?_
  refine anyTake (fuel:=3) 6 _ (.slice (some ⟨g,0,none⟩) k cap) rfl (by kernel_rfl) (by kernel_rfl) (by kernel_rfl) (fun _ _ _ h=>by cases h.2.1) rfl (by rw[hC]; show 44<48; decide) rfl hs6 (fun σ hσ w=>z1l (P:=Tryz.prog) (e:=3) rfl (by kernel_rfl) (by kernel_rfl) (AVR.of_val (show AVR I L (σ (.tmp 42)) (.p (.val (.slice (some ⟨g,0,none⟩) N cap))) from hσ (.tmp 42))).1 (AVR.of_val (show AVR I L (σ (.tmp 43)) (.p (.val (.int .i64 k))) from hσ (.tmp 43))).1 (by omega) w) fun tm7 hs7=>?_
  have hcl:(us.take (min k (N - k))).length=min k (N - k):=by rw[List.length_take,husl]; omega
  have hfl:(repL N k a).flatten=List.replicate k (PV.val (.int .i64 a))++List.replicate (N - k) (PV.val (.int .i64 0)):=by simp[repL,List.flatten_append]
  have hft:(repL N k a).flatten.take (min k (N - k))=List.replicate (min k (N - k)) (PV.val (.int .i64 a)):=by
   rw[hfl,List.take_append_of_le_length (by simp; omega),List.take_replicate]
   congr 1
   omega
  refine anyOne (fuel:=2) 7 _ rfl (by kernel_rfl) rfl (by rw[hC]; show 45<48; decide) hs7 (fun σ hσ=>zt6 hs7 (.tmp 41) (.tmp 44) 34 34 rfl (id:=30) (v:=0) (e:=3) (es:=repL N k a) (by simp -implicitDefEqProofs only[go_sem,hw1,hw2,hwl,Int.toNat_natCast,hlt,hz,Bool.not_false,zgk,zin N k a hk2]) hL (by kernel_rfl) (by kernel_rfl) (AVR.of_val (show AVR I L (σ (.tmp 41)) (.p (.val (.slice (some ⟨g,k,none⟩) (N - k) (cap - k)))) from hσ (.tmp 41))).1 (AVR.of_val (show AVR I L (σ (.tmp 44)) (.p (.val (.slice (some ⟨g,0,none⟩) k cap))) from hσ (.tmp 44))).1 (us.take (min k (N - k))) (List.replicate (min k (N - k)) (PV.val (.int .i64 a))) ?_ ?_ ?_ ?_ ?_ ?_) ?_
  ·exact hcl
  ·rw[hcl,List.length_replicate]
  ·rw[hcl,hlen]; omega
  ·intro j u hj
   rw[List.getElem?_take] at hj
   split at hj
   ·rw[Addr.add_mid,Nat.zero_add]; exact husc j u hj
   ·cases hj
  ·intro u hu
   exact hus1 u (List.mem_of_mem_take hu)
  ·intro j u c hj hc
   rw[←hft] at hc
   rw[List.getElem?_take] at hj hc
   split at hj
   ·rename_i h; rw[if_pos h] at hc; exact husv j u c hj hc
   ·cases hj
  intro I8 L8 tm8 w8 _ hs8
  have hw3:IntKind.i64.wrap ((k:Int)+((min k (N - k):Nat):Int))=((k+min k (N - k):Nat):Int):=by rw[wrapI (by omega)]; omega
  refine anyOne (fuel:=1) 8 _ rfl (by kernel_rfl) rfl (by rw[hC]; show 46<48; decide) hs8 (fun σ hσ=>zko (v:=.p (.val (.int .i64 ((k+min k (N - k):Nat):Int)))) (pre:=True) (by simp -implicitDefEqProofs only[go_sem,hcl,hw3,List.getElem_toArray,List.getElem_cons_succ,List.getElem_cons_zero,hw1,hw2,hwl,Int.toNat_natCast,hlt,hz,Bool.not_false,zgk,zin N k a hk2]; try rfl) trivial hs8 hσ) ?_
  intro I9 L9 tm9 w9 _ hs9
  refine anyOne (fuel:=0) 9 _ rfl (by kernel_rfl) rfl (by rw[hC]; show 8<48; decide) hs9 (fun σ hσ=>zko (v:=.p (.val (.int .i64 ((k+min k (N - k):Nat):Int)))) (pre:=True) (by simp -implicitDefEqProofs only[go_sem,List.getElem_toArray,List.getElem_cons_succ,List.getElem_cons_zero,hw1,hw2,hwl,Int.toNat_natCast,hlt,hz,Bool.not_false,zgk,zin N k a hk2]; try rfl) trivial hs9 hσ) ?_
  intro I10 L10 tm10 w10 _ hs10
  refine wpAny_done (by kernel_rfl) ⟨rfl,rfl,_,_,_,_,?_,hs10⟩ 0
  have hsp:=z74 N k (min k (N - k)) a (by omega)
  simp only[splice,List.length_map,List.length_replicate,List.append_assoc] at hsp
  simp -implicitDefEqProofs only[go_sem,List.getElem_toArray,List.getElem_cons_succ,List.getElem_cons_zero,hsp,List.append_assoc,List.length_map,List.length_replicate,hw1,hw2,hwl,Int.toNat_natCast,hlt,hz,Bool.not_false,zgk,zin N k a hk2]
  exact zb9 (k+min k (N - k)) ⟨by omega,by omega⟩ (by omega) (zbq (by repeat (first | exact zbk _ | refine zbp ?_ (by first | rfl | simp[upd]))) (by repeat (first | exact hsub0 _ | refine zbb ?_ (by first | rfl | simp[hset]))) (by repeat (first | exact zbi _ | refine zbo ?_ (by simp[idsOk,idsOkL,hset]))) (by repeat (first | exact boxIds0 _ | refine z6 ?_ | refine zy ?_ | refine zx ?_ | refine z2 ?_ (by simp[idsOk,idsOkL,hset]))) (by repeat (first | exact keep0 _ | refine zbh (by decide) ?_ | refine zbc (by simp[hset]) ?_)))
 ·have hk3:k=N:=by have:=of_decide_eq_false hc; omega
  simp -implicitDefEqProofs only[go_sem,hw1,hw2,hwl,Int.toNat_natCast,hlt,hz,Bool.not_false,zgk,zin N k a hk2]
  refine⟨by decide,_,.refl _,?_⟩
  rw[hk3]
  simp[repL,encI]
end Go.Proofs.YthjgdkloabgcoaaGreat
namespace Go.Proofs.YthjgdkloabgcoaaGreat
open Go.Abs

structure DInv (N B M:Nat) (s:List Int×List Int):Prop where
 len:s.1.length=N
 val:∀x∈s.1,-1≤x∧x≤B
 que:∀x∈s.2,0≤x∧x<(N:Int)
 many:s.2.length≤M
 set:∀x∈s.2,0≤s.1.getD x.toNat 0
theorem zy8 {l:List Int} {i:Nat} {x a:Int} (h:a∈l.set i x):a∈l∨a=x:=by
 rcases List.mem_or_eq_of_mem_set h with h | h
 ·exact .inl h
 ·exact .inr h
theorem zy7 {N B M : Nat} {s : List Int × List Int} {d : zi} {q : Int} (h : DInv N (B + 1) M s) (hq : 0 ≤ q ∧ q < (N : Int)) (hqv : s.1.getD q.toNat 0 ≤ B) (hq0 : 0 ≤ s.1.getD q.toNat 0) (hd : 0 ≤ d.src ∧ d.src < (N : Int)) :
  DInv N (B+1) (M+1) (distStep q s d)∧(distStep q s d).1.getD q.toNat 0=s.1.getD q.toNat 0:=by
 unfold distStep
 split
 ·rename_i hc
  have hdl:d.src.toNat<s.1.length:=by rw[h.len]; omega
  have hset:∀y:Int,0≤s.1.getD y.toNat 0→(s.1.set d.src.toNat (s.1.getD q.toNat 0+1)).getD y.toNat 0=s.1.getD y.toNat 0:=fun y hy=>by
   have hne:d.src.toNat≠y.toNat:=fun e=>by
    have:=hc.2
    rw[e] at this
    omega
   simp[List.getD_eq_getElem?_getD,List.getElem?_set,hne]
  refine⟨⟨by simpa using h.len,fun x hx=>?_,fun x hx=>?_,by simp; exact h.many,fun x hx=>?_⟩,hset q hq0⟩
  ·rcases zy8 hx with hx | hx
   ·exact h.val x hx
   ·subst hx; omega
  ·rcases List.mem_append.1 hx with hx | hx
   ·exact h.que x hx
   ·simp at hx; subst hx; exact hd
  ·rcases List.mem_append.1 hx with hx | hx
   ·have:=h.set x hx
    simp only
    rw[hset x this]; exact this
   ·simp at hx; subst hx
    simp only[List.getD_eq_getElem?_getD,List.getElem?_set_self hdl,Option.getD_some]
    rw[←List.getD_eq_getElem?_getD]; omega
 ·exact⟨⟨h.len,h.val,h.que,Nat.le_succ_of_le h.many,h.set⟩,rfl⟩
theorem z8y {N B : Nat} {q : Int} (hq : 0 ≤ q ∧ q < (N : Int)) (all : List zi) (hall : ∀ d ∈ all, 0 ≤ d.src ∧ d.src < (N : Int)) : ∀ (s : List Int × List Int) (M : Nat), DInv N (B + 1) M s → s.1.getD q.toNat 0 ≤ B → 0 ≤ s.1.getD q.toNat 0 →
  DInv N (B+1) (M+all.length) (all.foldl (distStep q) s)∧(all.foldl (distStep q) s).1.getD q.toNat 0=s.1.getD q.toNat 0:=by
 induction all with
 | nil=>intro s M h _ _; exact⟨h,rfl⟩
 | cons d all ih =>
  intro s M h h1 h2
  obtain⟨k1,k2⟩:=zy7 h hq h1 h2 (hall d List.mem_cons_self)
  obtain⟨m1,m2⟩:=ih (fun x hx=>hall x (List.mem_cons_of_mem _ hx)) (distStep q s d) (M+1) k1 (by rw[k2]; exact h1) (by rw[k2]; exact h2)
  refine⟨?_,by rw[List.foldl_cons,m2,k2]⟩
  rw[List.foldl_cons,List.length_cons,show M+(all.length+1)=M+1+all.length by omega]
  exact m1
theorem z1p (q:Int) (s:List Int×List Int) (d:zi) (l:List Int) (h:∃r,s.2=l++r):∃r,(distStep q s d).2=l++r:=by
 obtain⟨r,h⟩:=h
 unfold distStep
 split
 ·exact⟨r++[d.src],by simp[h]⟩
 ·exact⟨r,h⟩
theorem zbf2 (q:Int) (l:List Int) (all:List zi):∀ (s:List Int×List Int),(∃r,s.2=l++r)→∃r,(all.foldl (distStep q) s).2=l++r:=by
 induction all with
 | nil=>intro s h; exact h
 | cons d all ih=>intro s h; exact ih _ (z1p q s d l h)

theorem z1n (all:List zi) (k:Nat) (out:List Int) (q:Int) (rest:List Int) (r:List Int) (h:distGo all k (out,q :: rest)=some r):∃k',k=k'+1∧distGo all k' ((all.foldl (distStep q) (out,q :: rest)).1,(all.foldl (distStep q) (out,q :: rest)).2.drop 1)=some r:=by
 cases k with
 | zero=>cases h
 | succ k=>exact⟨k,rfl,h⟩
theorem z37 (all:List zi) (k:Nat) (out r:List Int) (h:distGo all k (out,[])=some r):out=r:=by
 cases k<;>(simp only[distGo,Option.some.injEq] at h; exact h)
theorem zur (l:List Int) (i:Nat) (h:i<l.length):(l.map encI).getD i []=[PV.val (.int .i64 (l.getD i 0))]:=by
 rw[zj encI h]; rfl
theorem z97 {N B M:Nat} {s:List Int×List Int} (h:DInv N B M s):DInv N B M (s.1,s.2.drop 1) :=
 ⟨h.len,h.val,fun x hx=>h.que x (List.mem_of_mem_drop hx),by simp; have:=h.many; omega,fun x hx=>h.set x (List.mem_of_mem_drop hx)⟩
theorem zvr {N B B' M M':Nat} {s:List Int×List Int} (h:DInv N B M s) (hB:B≤B') (hM:M≤M'):DInv N B' M' s :=
 ⟨h.len,fun x hx=>by have:=h.val x hx; omega,h.que,by have:=h.many; omega,h.set⟩

theorem zqh (all:List zi) (to n:Int) (r:List Int) (h:zdd all to n=some r):zbt Tryz.prog 60 [.lst (all.map zn),.val (.int .i64 to),.val (.int .i64 n)] (fun v=>v = .row 3 1 (r.map encI)):=by
 unfold zdd at h
 obtain⟨_,hg,h⟩:=zm h
 obtain⟨⟨h0,h1,h2,h3,h4⟩,_⟩:=zh4 hg
 obtain⟨N,rfl⟩:∃N:Nat,n=N:=⟨n.toNat,by omega⟩
 obtain⟨q0,rfl⟩:∃q0:Nat,to=q0:=⟨to.toNat,by omega⟩
 simp only[Int.toNat_natCast] at h
 refine zbx [18] Ty.mixed Tryz.func60 rfl (by kernel_rfl) (by simp[Tryz.ntmps60]) ?_; rw[Tryz.ntmps60,Tryz.results60]
 simp -implicitDefEqProofs only[go_sem]
 refine zpq 100 (zq0 [-1] N (List.replicate N (-1)) (zha ⟨by omega,by omega,rfl⟩)) (by simp -implicitDefEqProofs only[go_sem]<;>rfl) (persF) (by simp -implicitDefEqProofs only[go_sem]) ?_
 have hq0:(List.map encI (List.replicate N (-1))).getD q0 []=[PV.val (.int .i64 (-1))]:=by rw[zur _ _ (by simp; omega)]; simp[show q0<N by omega]
 
 simp -implicitDefEqProofs only[go_sem,Int.toNat_natCast,List.length_map,List.length_replicate,hq0,zch]
 refine⟨by omega,by omega,?_⟩
 refine zca (σ:=Nat×(List Int×List Int)×Nat) (fun x=>(upd (upd (upd env0 0 (.p (.lst (all.map zn)))) 7 (.row 100 0)) 8 (.row 18 x.2.2))) (fun x=>(hset (hset heap0 100 (.row 0 3 1 (x.2.1.1.map encI))) 18 (.tail x.2.2 3 1 (x.2.1.2.map encI))))
  (fun x=>distGo all x.1 x.2.1=some r∧DInv N (N+1 - x.1) ((N+2 - x.1) * 1000001) x.2.1∧x.1≤N+1) (fun x=>x.1) (N+1,((List.replicate N (-1)).set q0 0,[(q0:Int)]),0) ⟨h,?_,Nat.le_refl _⟩ (.trans (z99 18 0 3 1 [[.val (.int .i64 q0)]] (by simp -implicitDefEqProofs only[go_sem,Int.toNat_natCast,List.length_map,List.length_replicate,hq0,zch]) (by simp)) (zbq (by repeat (first | exact zbk _ | refine zbp ?_ (by first | rfl | simp[upd]))) (by repeat (first | exact hsub0 _ | refine zbb ?_ (by first | rfl | simp[hset]))) (by repeat (first | exact zbi _ | refine zbo ?_ (by simp[idsOk,idsOkL,hset]))) (by repeat (first | exact boxIds0 _ | refine z6 ?_ | refine zy ?_ | refine zx ?_ | refine z2 ?_ (by simp[idsOk,idsOkL,hset]))) (by repeat (first | exact keep0 _ | refine zbh (by decide) ?_ | refine zbc (by simp[hset]) ?_)))) ?_
 ·refine⟨by simp,fun x hx=>?_,fun x hx=>?_,by simp only[List.length_singleton]; omega,fun x hx=>?_⟩
  ·rcases zy8 hx with hx | hx
   ·have:=List.eq_of_mem_replicate hx; omega
   ·omega
  ·simp at hx; omega
  ·simp at hx; subst hx
   simp[show q0<N by omega]
 rintro⟨k,⟨out,q⟩,ver⟩ ⟨hk,hI,hkn⟩
 simp only at hk hI hkn
 simp -implicitDefEqProofs only[go_sem,Int.toNat_natCast,List.length_map,List.length_replicate,hq0,zch]
 cases q with
 | nil =>
  have:=z37 all k out r hk
  subst this
  refine zc (fun hc=>?_) (fun hc=>?_)
  ·simp at hc
  simp -implicitDefEqProofs only[go_sem,Int.toNat_natCast,List.length_map,List.length_replicate,hq0,zch]
  exact⟨by decide,_,.refl _,rfl⟩
 | cons hd rest =>
  obtain⟨k,rfl,hk'⟩:=z1n all k out hd rest r hk
  refine zc (fun hc=>?_) (fun hc=>?_)
  ·have hhd:=hI.que hd List.mem_cons_self
   have hst0:0≤out.getD hd.toNat 0:=hI.set hd List.mem_cons_self
   have hhl:hd.toNat<out.length:=by rw[hI.len]; omega
   have hval:out.getD hd.toNat 0≤((N - k:Nat):Int):=by
    have:=(hI.val _ (zd7 (l:=out) hhl)).2
    have e:out.getD hd.toNat default=out.getD hd.toNat 0:=rfl
    rw[e] at this
    omega
   have hI':DInv N (N - k+1) ((N+1 - k) * 1000001) (out,hd :: rest):=zvr hI (by omega) (Nat.mul_le_mul_right _ (by omega))
   simp -implicitDefEqProofs only[go_sem,Int.toNat_natCast,List.length_map,List.length_replicate,hq0,zch]
   refine zca (σ:=Nat×(List Int×List Int)×Nat) (fun x=>(upd (upd (upd (upd (upd (upd env0 0 (.p (.lst (all.map zn)))) 7 (.row 100 0)) 8 (.row 18 x.2.2)) 24 (.p (.lst (all.map zn)))) 25 (.p (.val (.int .i64 all.length)))) 26 (.p (.val (.int .i64 x.1))))) (fun x=>(hset (hset heap0 100 (.row 0 3 1 (x.2.1.1.map encI))) 18 (.tail x.2.2 3 1 (x.2.1.2.map encI))))
    (fun x=>x.1≤all.length∧x.2.1=(all.take x.1).foldl (distStep hd) (out,hd :: rest)) (fun x=>all.length - x.1) (0,(out,hd :: rest),ver) ⟨Nat.zero_le _,rfl⟩ (zbq (by repeat (first | exact zbk _ | refine zbp ?_ (by first | rfl | simp[upd]))) (by repeat (first | exact hsub0 _ | refine zbb ?_ (by first | rfl | simp[hset]))) (by repeat (first | exact zbi _ | refine zbo ?_ (by simp[idsOk,idsOkL,hset]))) (by repeat (first | exact boxIds0 _ | refine z6 ?_ | refine zy ?_ | refine zx ?_ | refine z2 ?_ (by simp[idsOk,idsOkL,hset]))) (by repeat (first | exact keep0 _ | refine zbh (by decide) ?_ | refine zbc (by simp[hset]) ?_))) ?_
   rintro⟨i,s,v2⟩ ⟨hi,hs⟩
   simp only at hi hs
   obtain⟨hIs,hvs⟩:=z8y (B:=N - k) hhd (all.take i) (fun d hd=>h4 d (List.mem_of_mem_take hd)) (out,hd :: rest) _ hI' hval hst0
   rw[←hs] at hIs hvs
   obtain⟨r2,hr2⟩:=zbf2 hd [hd] (all.take i) (out,hd :: rest) ⟨rest,rfl⟩
   rw[←hs] at hr2
   obtain⟨o2,q2⟩:=s
   simp only at hr2 hvs
   subst hr2
   
   simp -implicitDefEqProofs only[go_sem,Int.toNat_natCast,List.length_map,List.length_replicate,hq0,zch]
   refine zc (fun hc2=>?_) (fun hc2=>?_)
   ·have hi2:i<all.length:=by have:=of_decide_eq_true hc2; omega
    have hD:(all.map zn).getD i []=zn all[i]:=by simp[hi2]
    have hd4:=h4 all[i] (List.getElem_mem hi2)
    have hst:((all.take (i+1)).foldl (distStep hd) (out,hd :: rest))=distStep hd (o2,[hd]++r2) all[i]:=by
     rw[List.take_add_one,List.getElem?_eq_getElem hi2,Option.toList_some,List.foldl_append,←hs]; rfl
    have hol:o2.length=N:=hIs.len
    have hsl:all[i].src.toNat<o2.length:=by rw[hol]; omega
    have hh2:hd.toNat<o2.length:=by rw[hol]; omega
    have hO:(o2.map encI).getD all[i].src.toNat []=[PV.val (.int .i64 (o2.getD all[i].src.toNat 0))]:=zur _ _ hsl
    have hH:(o2.map encI).getD hd.toNat []=[PV.val (.int .i64 (o2.getD hd.toNat 0))]:=zur _ _ hh2
    have hQ:∀x:Int,(encI x :: List.map encI r2).getD 0 []=[PV.val (.int .i64 x)]:=fun _=>rfl
    have hw:IntKind.i64.wrap (o2.getD hd.toNat 0+1)=o2.getD hd.toNat 0+1:=wrapI (by rw[hvs]; omega)
    have hwi:=zt hi2 (show all.length≤4611686018427387904 by omega)
    have hql:=hIs.many
    have hN1:(N+1 - k) * 1000001≤1002 * 1000001:=Nat.mul_le_mul_right _ (by omega)
    have htl:(all.take i).length≤all.length:=by simp; omega
    generalize hdd:all[i]=d at *
    obtain⟨d0,d1,d2,d3⟩:=d
    simp only at hd4 hsl hO
    
    simp -implicitDefEqProofs only[go_sem,Int.toNat_natCast,List.length_map,List.length_replicate,hq0,zch,hD,hO,hH,hQ,zn,hw,hwi,List.length_append,List.length_singleton]
    refine⟨hi2,?_⟩
    by_cases c1:d2=hd
    ·subst c1
     by_cases c2:o2.getD d1.toNat 0<0
     ·
      refine zbn [.q,.q,.q,.q,.q,.q,.q,.q,.q,.q,.q,.q,.q,.q] (by kernel_rfl) ?_
      simp -implicitDefEqProofs only[go_sem,Int.toNat_natCast,List.length_map,List.length_replicate,hq0,zch,hD,hO,hH,hQ,zn,hw,hwi,List.length_append,List.length_singleton,c2,decide_true,and_self,and_true,true_and,eq_self]
      refine⟨⟨Int.le_refl _,by omega⟩,⟨hd4.1,by omega⟩,hsl,?_⟩
      refine zbn [.q,.q,.q,.q,.q,.q,.q,.q,.q,.q,.q,.w] (by kernel_rfl) ?_
      simp -implicitDefEqProofs only[go_sem,Int.toNat_natCast,List.length_map,List.length_replicate,hq0,zch,hD,hO,hH,hQ,zn,hw,hwi,List.length_append,List.length_singleton,c2,decide_true,and_self,and_true,true_and,eq_self]
      refine⟨⟨Int.le_refl _,by omega⟩,⟨by omega,by omega⟩,hh2,⟨hd4.1,by omega⟩,hsl,?_⟩
      refine zbb0 34 34 (.tmp 55) (.tmp 58) 18 v2 3 1 8 (encI d2 :: List.map encI r2) [[.val (.int .i64 d1)]] rfl Ty.app34 (by simp -implicitDefEqProofs only[go_sem,Int.toNat_natCast,List.length_map,List.length_replicate,hq0,zch,hD,hO,hH,hQ,zn,hw,hwi,List.length_append,List.length_singleton,c2,decide_true,and_self,and_true,true_and,eq_self]) (by simp -implicitDefEqProofs only[go_sem,Int.toNat_natCast,List.length_map,List.length_replicate,hq0,zch,hD,hO,hH,hQ,zn,hw,hwi,List.length_append,List.length_singleton,c2,decide_true,and_self,and_true,true_and,eq_self]) (by simp -implicitDefEqProofs only[go_sem,Int.toNat_natCast,List.length_map,List.length_replicate,hq0,zch,hD,hO,hH,hQ,zn,hw,hwi,List.length_append,List.length_singleton,c2,decide_true,and_self,and_true,true_and,eq_self]) (by simp) (by intro x hx; simp at hx; subst hx; rfl) (by simp at hql ⊢; omega) ?_
      simp -implicitDefEqProofs only[go_sem,Int.toNat_natCast,List.length_map,List.length_replicate,hq0,zch,hD,hO,hH,hQ,zn,hw,hwi,List.length_append,List.length_singleton,c2,decide_true,and_self,and_true,true_and,eq_self]
      have hm:List.map encI r2++[[PV.val (.int .i64 d1)]]=List.map encI (r2++[d1]):=by rw[List.map_append]; rfl
      rw[hm]
      exact zb9 (i+1,(o2.set d1.toNat (o2.getD d2.toNat 0+1),d2 :: (r2++[d1])),v2+1) ⟨by simp only; omega,by simp only[hst]; unfold distStep; rw[if_pos ⟨rfl,c2⟩]; rfl⟩ (by simp only; omega) (zbq (by repeat (first | exact zbk _ | refine zbp ?_ (by first | rfl | simp[upd]))) (by repeat (first | exact hsub0 _ | refine zbb ?_ (by first | rfl | simp[hset]))) (by repeat (first | exact zbi _ | refine zbo ?_ (by simp[idsOk,idsOkL,hset]))) (by repeat (first | exact boxIds0 _ | refine z6 ?_ | refine zy ?_ | refine zx ?_ | refine z2 ?_ (by simp[idsOk,idsOkL,hset]))) (by repeat (first | exact keep0 _ | refine zbh (by decide) ?_ | refine zbc (by simp[hset]) ?_)))
     ·have c2':decide (o2.getD d1.toNat 0<0)=false:=decide_eq_false c2
      
      refine zbn [.q,.q,.q,.q,.q,.q,.q,.q,.q,.q,.q,.q,.q,.q] (by kernel_rfl) ?_
      simp -implicitDefEqProofs only[go_sem,Int.toNat_natCast,List.length_map,List.length_replicate,hq0,zch,hD,hO,hH,hQ,zn,hw,hwi,List.length_append,List.length_singleton,c2,decide_true,and_self,and_true,true_and,eq_self,c2']
      refine⟨⟨Int.le_refl _,by omega⟩,⟨hd4.1,by omega⟩,hsl,?_⟩
      exact zb9 (i+1,(o2,d2 :: r2),v2) ⟨by simp only; omega,by simp only[hst]; unfold distStep; rw[if_neg (by simp only; omega)]; rfl⟩ (by simp only; omega) (zbq (by repeat (first | exact zbk _ | refine zbp ?_ (by first | rfl | simp[upd]))) (by repeat (first | exact hsub0 _ | refine zbb ?_ (by first | rfl | simp[hset]))) (by repeat (first | exact zbi _ | refine zbo ?_ (by simp[idsOk,idsOkL,hset]))) (by repeat (first | exact boxIds0 _ | refine z6 ?_ | refine zy ?_ | refine zx ?_ | refine z2 ?_ (by simp[idsOk,idsOkL,hset]))) (by repeat (first | exact keep0 _ | refine zbh (by decide) ?_ | refine zbc (by simp[hset]) ?_)))
    ·have c1':decide (d2=hd)=false:=decide_eq_false c1
     
     refine zbn [.q,.q,.q,.q,.q,.q,.q,.q,.q,.q,.q,.q,.q,.q] (by kernel_rfl) ?_
     simp -implicitDefEqProofs only[go_sem,Int.toNat_natCast,List.length_map,List.length_replicate,hq0,zch,hD,hO,hH,hQ,zn,hw,hwi,List.length_append,List.length_singleton,c1']
     refine⟨⟨Int.le_refl _,by omega⟩,?_⟩
     exact zb9 (i+1,(o2,hd :: r2),v2) ⟨by simp only; omega,by simp only[hst]; unfold distStep; rw[if_neg (by simp only; omega)]; rfl⟩ (by simp only; omega) (zbq (by repeat (first | exact zbk _ | refine zbp ?_ (by first | rfl | simp[upd]))) (by repeat (first | exact hsub0 _ | refine zbb ?_ (by first | rfl | simp[hset]))) (by repeat (first | exact zbi _ | refine zbo ?_ (by simp[idsOk,idsOkL,hset]))) (by repeat (first | exact boxIds0 _ | refine z6 ?_ | refine zy ?_ | refine zx ?_ | refine z2 ?_ (by simp[idsOk,idsOkL,hset]))) (by repeat (first | exact keep0 _ | refine zbh (by decide) ?_ | refine zbc (by simp[hset]) ?_)))
   ·have hi2:i=all.length:=by have:=of_decide_eq_false hc2; omega
    subst hi2
    rw[List.take_length] at hs
    simp -implicitDefEqProofs only[go_sem,Int.toNat_natCast,List.length_map,List.length_replicate,hq0,zch]
    refine z5x 34 (.tmp 22) (.const (.int .i64 1)) 18 v2 3 1 (encI hd :: List.map encI r2) .i64 1 rfl (by kernel_rfl) (by kernel_rfl) (by simp -implicitDefEqProofs only[go_sem,Int.toNat_natCast,List.length_map,List.length_replicate,hq0,zch]) rfl (by simp -implicitDefEqProofs only[go_sem,Int.toNat_natCast,List.length_map,List.length_replicate,hq0,zch]) ⟨by omega,by simp⟩ ?_
    simp -implicitDefEqProofs only[go_sem,Int.toNat_natCast,List.length_map,List.length_replicate,hq0,zch]
    rw[←hs] at hk'
    simp only[List.singleton_append,List.drop_succ_cons,List.drop_zero] at hk'
    have hD2:=z97 hIs
    simp only[List.singleton_append,List.drop_succ_cons,List.drop_zero] at hD2
    refine zb9 (k,(o2,r2),v2+1) ⟨hk',zvr hD2 (by simp only; omega) ?_,by simp only; omega⟩ (by simp only; omega) (zbq (by repeat (first | exact zbk _ | refine zbp ?_ (by first | rfl | simp[upd]))) (by repeat (first | exact hsub0 _ | refine zbb ?_ (by first | rfl | simp[hset]))) (by repeat (first | exact zbi _ | refine zbo ?_ (by simp[idsOk,idsOkL,hset]))) (by repeat (first | exact boxIds0 _ | refine z6 ?_ | refine zy ?_ | refine zx ?_ | refine z2 ?_ (by simp[idsOk,idsOkL,hset]))) (by repeat (first | exact keep0 _ | refine zbh (by decide) ?_ | refine zbc (by simp[hset]) ?_)))
    simp only[List.take_length]
    rw[show N+2 - k=N+1 - k+1 by omega,Nat.add_mul]
    omega
  ·simp at hc
end Go.Proofs.YthjgdkloabgcoaaGreat
set_option maxRecDepth 20000
namespace Go.Proofs.YthjgdkloabgcoaaGreat
open Go.Abs



end Go.Proofs.YthjgdkloabgcoaaGreat
set_option maxRecDepth 20000
namespace Go.Proofs.YthjgdkloabgcoaaGreat
open Go.Abs

attribute [go_sem] List.cons_append List.nil_append encAttr encEdge encEdgeT encI encInts encNode encS encStrs zht zn zll zb2 zbj zbs zb7 zbd zk2

noncomputable section
def zen  : Option zl :=
 some (⟨[(⟨(⟨#[65,99,99,111,117,110,116]⟩:ByteArray),(-1),true,[(⟨(⟨#[98,97,108,97,110,99,101]⟩:ByteArray),(-1000),1000,([]:List ByteArray)⟩:Attr)]⟩:zd0),(⟨(⟨#[67,97,115,104]⟩:ByteArray),0,false,([]:List Attr)⟩:zd0),(⟨(⟨#[76,111,97,110]⟩:ByteArray),0,false,[(⟨(⟨#[115,116,97,116,101]⟩:ByteArray),0,1,[(⟨#[111,112,101,110]⟩:ByteArray),(⟨#[99,108,111,115,101,100]⟩:ByteArray)]⟩:Attr)]⟩:zd0),(⟨(⟨#[80,101,114,115,111,110]⟩:ByteArray),(-1),false,([]:List Attr)⟩:zd0)],[(⟨(⟨#[111,119,110,115]⟩:ByteArray),3,0,0,(-1),1,1⟩:zh2),(⟨(⟨#[112,97,121,115]⟩:ByteArray),1,1,0,(-1),0,(-1)⟩:zh2)]⟩:zl)

def zci (a0:Int):Option zu :=
 cond (decide (a0=0)) (
  some (⟨(⟨#[112,97,121,115]⟩:ByteArray),(⟨(⟨[1,1],[(⟨1,0,1⟩:Edge)]⟩:z8),([]:List zb4),0,([]:List zc3)⟩:z7),(⟨(⟨[1,1],([]:List Edge)⟩:z8),([]:List zb4),0,([]:List zc3)⟩:z7),(⟨[0,1],([]:List Int)⟩:zdb),(⟨[0,1],([]:List Int)⟩:zby),false,(⟨1,([]:List zp),(⟨([]:List Int),([]:List Int)⟩:zby),(⟨(⟨([]:List Int),([]:List Edge)⟩:z8),([]:List zb4),0,([]:List zc3)⟩:z7)⟩:zp)⟩:zu)) <|
 cond (decide (a0=1)) (
  some (⟨(⟨#[112,97,121,115]⟩:ByteArray),(⟨(⟨[1,1],[(⟨1,0,1⟩:Edge)]⟩:z8),([]:List zb4),0,([]:List zc3)⟩:z7),(⟨(⟨[1,2],([]:List Edge)⟩:z8),([]:List zb4),0,([]:List zc3)⟩:z7),(⟨[0],([]:List Int)⟩:zdb),(⟨[0],([]:List Int)⟩:zby),false,(⟨1,([]:List zp),(⟨([]:List Int),([]:List Int)⟩:zby),(⟨(⟨([]:List Int),([]:List Edge)⟩:z8),([]:List zb4),0,([]:List zc3)⟩:z7)⟩:zp)⟩:zu)) <|
 cond (decide (a0=2)) (
  some (⟨(⟨#[112,97,121,115]⟩:ByteArray),(⟨(⟨[1,1],[(⟨1,0,1⟩:Edge)]⟩:z8),([]:List zb4),0,([]:List zc3)⟩:z7),(⟨(⟨[1,1],[(⟨1,0,1⟩:Edge)]⟩:z8),([]:List zb4),0,([]:List zc3)⟩:z7),(⟨[0,1],([]:List Int)⟩:zdb),(⟨[0,1],([]:List Int)⟩:zby),false,(⟨1,([]:List zp),(⟨([]:List Int),([]:List Int)⟩:zby),(⟨(⟨([]:List Int),([]:List Edge)⟩:z8),([]:List zb4),0,([]:List zc3)⟩:z7)⟩:zp)⟩:zu)) <|
 some (⟨(⟨#[112,97,121,115]⟩:ByteArray),(⟨(⟨[1,1],[(⟨1,0,1⟩:Edge)]⟩:z8),([]:List zb4),0,([]:List zc3)⟩:z7),(⟨(⟨([]:List Int),([]:List Edge)⟩:z8),([]:List zb4),0,([]:List zc3)⟩:z7),(⟨([]:List Int),([]:List Int)⟩:zdb),(⟨([]:List Int),([]:List Int)⟩:zby),false,(⟨1,([]:List zp),(⟨([]:List Int),([]:List Int)⟩:zby),(⟨(⟨([]:List Int),([]:List Edge)⟩:z8),([]:List zb4),0,([]:List zc3)⟩:z7)⟩:zp)⟩:zu)

def zfj (a0:List Int) (p1:Int→Option Bool):Option Int :=
 chk (a0.length≤fuel) <|
 forN (fun i2 (s2:Unit) nxts2 brks2 =>
  thn (a0[i2]?) fun e3 =>
  thn (p1 e3) fun r4 =>
  cond r4 (
   some ((i2:Nat):Int)) <|
  nxts2 ())
 (a0.length - 0) 0 () fun s2 =>
 some (-1)

def zcy (a0:List Int) (p1:Int→Option Bool):Option Bool :=
 thn (zfj a0 p1) fun r2 =>
 some (decide (0≤r2))

def zgj (a0:Int) (a1:zl):Option Bool :=
 some (decide (((a1.nodes.length:Nat):Int)≤a0))

def ze7 (a0:List Edge) (p1:Edge→Option Bool):Option Int :=
 chk (a0.length≤fuel) <|
 forN (fun i2 (s2:Unit) nxts2 brks2 =>
  thn (a0[i2]?) fun e3 =>
  thn (p1 e3) fun r4 =>
  cond r4 (
   some ((i2:Nat):Int)) <|
  nxts2 ())
 (a0.length - 0) 0 () fun s2 =>
 some (-1)

def zdr (a0:List Edge) (p1:Edge→Option Bool):Option Bool :=
 thn (ze7 a0 p1) fun r2 =>
 some (decide (0≤r2))

def zgi (a0:Edge) (a1:zl):Option Bool :=
 some (decide (((a1.edges.length:Nat):Int)≤a0.type))

def zdu (a0:Int) (a1:Int) (a2:Int):Option Bool :=
 cond (decide (a1≤a0)) (
  some (decide (a0≤a2))) <|
 some false

def zhh (a0:zl) (a1:z7) (a2:zb4):Option (Attr×Bool) :=
 thn (zdu a2.node 0 (IntKind.i64.wrap (((a1.graph.nodes.length:Nat):Int) - 1))) fun r3 =>
 cond r3 (
  thn (atZ a1.graph.nodes a2.node) fun e4 =>
  thn (zkb a0 e4) fun r5 =>
  thn (zdu a2.attr 0 (IntKind.i64.wrap (((r5.1.length:Nat):Int) - 1))) fun r6 =>
  cond r6 (
   thn (atZ r5.1 a2.attr) fun e7 =>
   some (e7,true)) <|
  some ((⟨(⟨#[]⟩:ByteArray),0,0,([]:List ByteArray)⟩:Attr),false)) <|
 some ((⟨(⟨#[]⟩:ByteArray),0,0,([]:List ByteArray)⟩:Attr),false)

def zek (a0:Int) (a1:zie):Option Bool :=
 cond (decide ((-1)≤a1.var)) (
  cond (decide (a1.var<a0)) (
   cond (decide ((-1000000)≤a1.add)) (
    some (decide (a1.add≤1000000))) <|
   some false) <|
  some false) <|
 some false

def zhk (a0:Int) (a1:zc3):Option Int :=
 cond (decide (a1.kind=1)) (
  thn (zek a0 a1.left) fun r2 =>
  cond r2 (
   thn (zek a0 a1.right) fun r3 =>
   cond r3 (
    some 0) <|
   some 6) <|
  some 6) <|
 cond (decide (a1.kind=2)) (
  thn (zek a0 a1.left) fun r4 =>
  cond r4 (
   thn (zek a0 a1.right) fun r5 =>
   cond r5 (
    some 0) <|
   some 6) <|
  some 6) <|
 some 1

def zgx (a0:Int) (a1:List zc3):Option Int :=
 cond (decide (a0<0)) (
  some 6) <|
 cond (decide (12<a0)) (
  some 6) <|
 cond (decide (40<((a1.length:Nat):Int))) (
  some 3) <|
 chk (a1.length≤fuel) <|
 forN (fun i2 (s2:Unit) nxts2 brks2 =>
  thn (a1[i2]?) fun e3 =>
  thn (zhk a0 e3) fun r4 =>
  cond (decide (r4=0)) (
   nxts2 ()) <|
  some r4)
 (a1.length - 0) 0 () fun s2 =>
 some 0

def zhl (a0:List Bool) (a1:Bool):Option Int :=
 chk (a0.length≤fuel) <|
 forN (fun i2 (s2:Unit) nxts2 brks2 =>
  thn (a0[i2]?) fun e3 =>
  cond (a1 == e3) (
   some ((i2:Nat):Int)) <|
  nxts2 ())
 (a0.length - 0) 0 () fun s2 =>
 some (-1)

def zfk (a0:List Bool) (a1:Bool):Option Bool :=
 thn (zhl a0 a1) fun r2 =>
 some (decide (0≤r2))

def zfe (a0:zl) (a1:z7):Option Int :=
 thn (zix a0) fun r2 =>
 cond (decide (r2.2=0)) (
  thn (zeg a1.graph) fun r3 =>
  cond (decide (r3=0)) (
   thn (zcy a1.graph.nodes (fun x4=>zgj x4 a0)) fun r5 =>
   cond r5 (
    some 13) <|
   thn (zdr a1.graph.edges (fun x6=>zgi x6 a0)) fun r7 =>
   cond r7 (
    some 13) <|
   thn (zdu a1.vars 0 12) fun r8 =>
   cond r8 (
    cond (decide (10<((a1.slots.length:Nat):Int))) (
     some 3) <|
    cond (decide (10<((a1.tests.length:Nat):Int))) (
     some 3) <|
    chk (0≤a1.vars∧a1.vars≤68719476736) <|
    chk (a1.slots.length≤fuel) <|
    forN (fun i9 (s9:(List Bool)) nxts9 brks9 =>
     thn (a1.slots[i9]?) fun e10 =>
     thn (zhh a0 a1 e10) fun r11 =>
     cond r11.2 (
      thn (zdu e10.term.var (-1) (IntKind.i64.wrap (a1.vars - 1))) fun r12 =>
      cond r12 (
       thn (zdu e10.term.add (-1000000) 1000000) fun r13 =>
       cond r13 (
        cond (decide (0≤e10.term.var)) (
         thn (atZ s9 e10.term.var) fun e14 =>
         nxts9 (s9.set e10.term.var.toNat true)) <|
        nxts9 s9) <|
       some 6) <|
      some 6) <|
     some 6)
    (a1.slots.length - 0) 0 (List.replicate a1.vars.toNat false) fun s9 =>
    thn (zgx a1.vars a1.tests) fun r15 =>
    cond (decide (r15=0)) (
     thn (zfk s9 false) fun r16 =>
     cond r16 (
      some 9) <|
     some 0) <|
    some r15) <|
   some 6) <|
  some r3) <|
 some r2.2

def zia (a0:Int) (a1:zl):Option Bool :=
 some (decide (((a1.nodes.length:Nat):Int)≤a0))

def zih (a0:Edge) (a1:zl):Option Bool :=
 some (decide (((a1.edges.length:Nat):Int)≤a0.type))

def zjj (a0:zl) (a1:z8):Option Bool :=
 thn (zcy a1.nodes (fun x2=>zia x2 (⟨a0.nodes,a0.edges⟩:zl))) fun r3 =>
 cond r3 (
  some false) <|
 thn (zdr a1.edges (fun x4=>zih x4 (⟨a0.nodes,a0.edges⟩:zl))) fun r5 =>
 some (!r5)

def ze5 (a0:List zb4) (p1:zb4→Option Bool):Option Int :=
 chk (a0.length≤fuel) <|
 forN (fun i2 (s2:Unit) nxts2 brks2 =>
  thn (a0[i2]?) fun e3 =>
  thn (p1 e3) fun r4 =>
  cond r4 (
   some ((i2:Nat):Int)) <|
  nxts2 ())
 (a0.length - 0) 0 () fun s2 =>
 some (-1)

def zc6 (a0:List zb4) (p1:zb4→Option Bool):Option Bool :=
 thn (ze5 a0 p1) fun r2 =>
 some (decide (0≤r2))

def zhq (a0:zb4) (a1:zb4):Option Bool :=
 cond (decide (a0.node=a1.node)) (
  some (decide (a0.attr=a1.attr))) <|
 some false

def zj7 (a0:zl) (a1:zu) (a2:Int):Option Int :=
 thn (atZ a1.right.slots a2) fun e3 =>
 cond (decide (e3.node<0)) (
  some 6) <|
 cond (decide (((a1.right.graph.nodes.length:Nat):Int)≤e3.node)) (
  some 6) <|
 thn (atZ a1.right.graph.nodes e3.node) fun e4 =>
 thn (zkb a0 e4) fun r5 =>
 cond (decide (e3.attr<0)) (
  some 6) <|
 cond (decide (((r5.1.length:Nat):Int)≤e3.attr)) (
  some 6) <|
 cond (decide (e3.term.var<(-1))) (
  some 6) <|
 cond (decide (a1.right.vars≤e3.term.var)) (
  some 6) <|
 cond (decide (e3.term.add<(-1000000))) (
  some 6) <|
 cond (decide (1000000<e3.term.add)) (
  some 6) <|
 chk ((0:Int)≤0∧0≤a2∧a2≤(a1.right.slots.length:Int)) <|
 thn (zc6 (a1.right.slots.take a2.toNat) (fun x6=>zhq x6 e3)) fun r7 =>
 cond r7 (
  some 5) <|
 some 0

def zjq (a0:zl) (a1:zu):Option Int :=
 thn (zeg a1.right.graph) fun r2 =>
 cond (decide (r2=0)) (
  thn (zjj (⟨a0.nodes,a0.edges⟩:zl) a1.right.graph) fun r3 =>
  cond r3 (
   cond (decide (a1.right.vars=a1.left.vars)) (
    cond (decide (0<((a1.right.tests.length:Nat):Int))) (
     some 1) <|
    cond (decide (10<((a1.right.slots.length:Nat):Int))) (
     some 3) <|
    chk (a1.right.slots.length≤fuel) <|
    forN (fun i4 (s4:Unit) nxts4 brks4 =>
     thn (zj7 (⟨a0.nodes,a0.edges⟩:zl) (⟨a1.name,a1.left,a1.right,a1.keep,a1.into,a1.injective,a1.condition⟩:zu) ((i4:Nat):Int)) fun r5 =>
     cond (decide (r5=0)) (
      nxts4 ()) <|
     some r5)
    (a1.right.slots.length - 0) 0 () fun s4 =>
    some 0) <|
   some 1) <|
  some 13) <|
 some r2

def zg0 (a0:List Int) (a1:Int):Option Int :=
 chk (a0.length≤fuel) <|
 forN (fun i2 (s2:Unit) nxts2 brks2 =>
  thn (a0[i2]?) fun e3 =>
  cond (decide (e3<0)) (
   some 6) <|
  cond (decide (a1≤e3)) (
   some 6) <|
  cond (decide (0<((i2:Nat):Int))) (
   thn (atZ a0 (IntKind.i64.wrap (((i2:Nat):Int) - 1))) fun e4 =>
   cond (decide (e3≤e4)) (
    some 12) <|
   nxts2 ()) <|
  nxts2 ())
 (a0.length - 0) 0 () fun s2 =>
 some 0

def zgz (a0:Int):Option Bool :=
 some (!(decide (a0=a0)))

def zif (a0:Int) (a1:Int):Option Bool :=
 thn (zgz a0) fun r2 =>
 cond r2 (
  thn (zgz a1) fun r3 =>
  cond r3 (
   some (decide (a0<a1))) <|
  some true) <|
 some (decide (a0<a1))

def zfv (a0:Int):Option Bool :=
 some (!(decide (a0=a0)))

def zdc (a0:List Int) (a1:Int):Option (Int×Bool) :=
 iter (fun (s2:Int×Int) nxts2 brks2 =>
  cond (decide (s2.1<s2.2)) (
   thn (atZ a0 (IntKind.i64.wrap ((IntKind.u64.wrap (IntKind.i64.wrap (s2.1+s2.2))).fdiv (2 ^ 1)))) fun e3 =>
   thn (zif e3 a1) fun r4 =>
   cond r4 (
    nxts2 ((IntKind.i64.wrap ((IntKind.i64.wrap ((IntKind.u64.wrap (IntKind.i64.wrap (s2.1+s2.2))).fdiv (2 ^ 1)))+1)),s2.2)) <|
   nxts2 (s2.1,(IntKind.i64.wrap ((IntKind.u64.wrap (IntKind.i64.wrap (s2.1+s2.2))).fdiv (2 ^ 1))))) <|
  brks2 (s2.1,s2.2))
 fuel (0,((a0.length:Nat):Int)) fun s2 =>
 cond (decide (s2.1<((a0.length:Nat):Int))) (
  thn (atZ a0 s2.1) fun e5 =>
  cond (decide (e5=a1)) (
   some (s2.1,true)) <|
  thn (zfv e5) fun r6 =>
  cond r6 (
   thn (zfv a1) fun r7 =>
   some (s2.1,r7)) <|
  some (s2.1,false)) <|
 some (s2.1,false)

def zfy (a0:List Int) (a1:Int):Option Bool :=
 thn (zdc a0 a1) fun r2 =>
 some r2.2

def zhw (a0:z8) (a1:zdb):Option Int :=
 thn (zg0 a1.nodes ((a0.nodes.length:Nat):Int)) fun r2 =>
 cond (decide (r2=0)) (
  thn (zg0 a1.edges ((a0.edges.length:Nat):Int)) fun r3 =>
  cond (decide (r3=0)) (
   chk (a1.edges.length≤fuel) <|
   forN (fun i4 (s4:Unit) nxts4 brks4 =>
    thn (a1.edges[i4]?) fun e5 =>
    thn (atZ a0.edges e5) fun e6 =>
    thn (zfy a1.nodes e6.src) fun r7 =>
    cond r7 (
     thn (zfy a1.nodes e6.dst) fun r8 =>
     cond r8 (
      nxts4 ()) <|
     some 14) <|
    some 14)
   (a1.edges.length - 0) 0 () fun s4 =>
   some 0) <|
  some r3) <|
 some r2

def zgq (a0:z8) (a1:zdb):Option Int :=
 thn (zeg a0) fun r2 =>
 cond (decide (r2=0)) (
  thn (zhw (⟨a0.nodes,a0.edges⟩:z8) (⟨a1.nodes,a1.edges⟩:zdb)) fun r3 =>
  some r3) <|
 some r2

def zew (a0:z8) (a1:zdb):Option (z8×zby×Int) :=
 thn (zgq a0 a1) fun r2 =>
 cond (decide (r2=0)) (
  chk (a1.nodes.length≤fuel) <|
  forN (fun i3 (s3:(List Int)) nxts3 brks3 =>
   thn (a1.nodes[i3]?) fun e4 =>
   thn (atZ a0.nodes e4) fun e5 =>
   chk (s3.length+1≤68719476736) <|
   nxts3 (s3++[e5]))
  (a1.nodes.length - 0) 0 ([]:List Int) fun s3 =>
  chk (a1.edges.length≤fuel) <|
  forN (fun i6 (s6:(List Edge)) nxts6 brks6 =>
   thn (a1.edges[i6]?) fun e7 =>
   thn (atZ a0.edges e7) fun e8 =>
   thn (zdc a1.nodes e8.src) fun r9 =>
   thn (zdc a1.nodes e8.dst) fun r10 =>
   chk (s6.length+1≤68719476736) <|
   nxts6 (s6++[(⟨e8.type,r9.1,r10.1⟩:Edge)]))
  (a1.edges.length - 0) 0 ([]:List Edge) fun s6 =>
  thn (zgt a1.nodes) fun r11 =>
  thn (zgt a1.edges) fun r12 =>
  some ((⟨s3,s6⟩:z8),(⟨r11,r12⟩:zby),0)) <|
 some ((⟨([]:List Int),([]:List Edge)⟩:z8),(⟨([]:List Int),([]:List Int)⟩:zby),r2)

def zfp (a0:z8) (a1:z8) (a2:zby):Option Int :=
 thn (zeg a0) fun r3 =>
 cond (decide (r3=0)) (
  thn (zeg a1) fun r4 =>
  cond (decide (r4=0)) (
   cond (decide (((a2.nodes.length:Nat):Int)=((a0.nodes.length:Nat):Int))) (
    cond (decide (((a2.edges.length:Nat):Int)=((a0.edges.length:Nat):Int))) (
     chk (a2.nodes.length≤fuel) <|
     forN (fun i5 (s5:Unit) nxts5 brks5 =>
      thn (a2.nodes[i5]?) fun e6 =>
      cond (decide (e6<0)) (
       some 6) <|
      cond (decide (((a1.nodes.length:Nat):Int)≤e6)) (
       some 6) <|
      thn (atZ a1.nodes e6) fun e7 =>
      thn (a0.nodes[i5]?) fun e8 =>
      cond (decide (e7=e8)) (
       nxts5 ()) <|
      some 13)
     (a2.nodes.length - 0) 0 () fun s5 =>
     chk (a2.edges.length≤fuel) <|
     forN (fun i9 (s9:Unit) nxts9 brks9 =>
      thn (a2.edges[i9]?) fun e10 =>
      cond (decide (e10<0)) (
       some 6) <|
      cond (decide (((a1.edges.length:Nat):Int)≤e10)) (
       some 6) <|
      thn (a0.edges[i9]?) fun e11 =>
      thn (atZ a1.edges e10) fun e12 =>
      cond (decide (e11.type=e12.type)) (
       thn (atZ a2.nodes e11.src) fun e13 =>
       cond (decide (e13=e12.src)) (
        thn (atZ a2.nodes e11.dst) fun e14 =>
        cond (decide (e14=e12.dst)) (
         nxts9 ()) <|
        some 11) <|
       some 11) <|
      some 13)
     (a2.edges.length - 0) 0 () fun s9 =>
     some 0) <|
    some 20) <|
   some 20) <|
  some r4) <|
 some r3

def zgd (a0:List Int):Option Int :=
 thn (zgt a0) fun r1 =>
 thn (zg5 r1) fun r2 =>
 thn (zf9 r2) fun r3 =>
 some ((r3.length:Nat):Int)

def ze3 (a0:z8) (a1:z8) (a2:zby):Option Bool :=
 thn (zfp a0 a1 a2) fun r3 =>
 cond (decide (r3=0)) (
  thn (zgd a2.nodes) fun r4 =>
  cond (decide (r4=((a2.nodes.length:Nat):Int))) (
   thn (zgd a2.edges) fun r5 =>
   some (decide (r5=((a2.edges.length:Nat):Int)))) <|
  some false) <|
 some false

def zi8 (a0:zu):Option Int :=
 thn (zew a0.left.graph a0.keep) fun r1 =>
 cond (decide (r1.2.2=0)) (
  thn (zfp r1.1 a0.right.graph a0.into) fun r2 =>
  cond (decide (r2=0)) (
   thn (ze3 r1.1 a0.right.graph a0.into) fun r3 =>
   cond r3 (
    some 0) <|
   some 11) <|
  some r2) <|
 some r1.2.2

def zhu (a0:List Int) (a1:Int):Option Int :=
 chk (a0.length≤fuel) <|
 forN (fun i2 (s2:Unit) nxts2 brks2 =>
  thn (a0[i2]?) fun e3 =>
  cond (decide (a1=e3)) (
   some ((i2:Nat):Int)) <|
  nxts2 ())
 (a0.length - 0) 0 () fun s2 =>
 some (-1)

def zfr (a0:List Int) (a1:Int):Option Bool :=
 thn (zhu a0 a1) fun r2 =>
 some (decide (0≤r2))

def zge (a0:List Int) (a1:Int):Option (List Int) :=
 chk (a1.toNat≤fuel) <|
 forN (fun i2 (s2:(List Int)) nxts2 brks2 =>
  thn (zfr a0 ((i2:Nat):Int)) fun r3 =>
  cond r3 (
   nxts2 s2) <|
  chk (s2.length+1≤68719476736) <|
  nxts2 (s2++[((i2:Nat):Int)]))
 (a1.toNat - 0) 0 ([]:List Int) fun s2 =>
 some s2

def zgo (a0:zu):Option ((List Int)×(List Int)) :=
 thn (zge a0.into.nodes ((a0.right.graph.nodes.length:Nat):Int)) fun r1 =>
 thn (zge a0.into.edges ((a0.right.graph.edges.length:Nat):Int)) fun r2 =>
 some (r1,r2)

def zgp (a0:Int) (a1:zl) (a2:z8):Option Bool :=
 thn (atZ a2.nodes a0) fun e3 =>
 thn (atZ a1.nodes e3) fun e4 =>
 some e4.abs

def zgn (a0:Int) (a1:z8) (a2:zl):Option Bool :=
 thn (atZ a1.edges a0) fun e3 =>
 thn (atZ a1.nodes e3.src) fun e4 =>
 thn (atZ a1.nodes e3.dst) fun e5 =>
 thn (znk a2 e3.type e4 e5) fun r6 =>
 some (!r6)

def zhe (a0:zl) (a1:z8) (a2:List Int) (a3:List Int):Option Bool :=
 thn (zcy a2 (fun x4=>zgp x4 (⟨a0.nodes,a0.edges⟩:zl) (⟨a1.nodes,a1.edges⟩:z8))) fun r5 =>
 cond r5 (
  some false) <|
 thn (zcy a3 (fun x6=>zgn x6 a1 (⟨a0.nodes,a0.edges⟩:zl))) fun r7 =>
 some (!r7)

def zet (a0:zp):Option Bool :=
 cond (decide ((IntKind.i64.wrap ((IntKind.i64.wrap ((IntKind.i64.wrap ((IntKind.i64.wrap ((IntKind.i64.wrap (((a0.map.nodes.length:Nat):Int)+((a0.map.edges.length:Nat):Int)))+((a0.pattern.graph.nodes.length:Nat):Int)))+((a0.pattern.graph.edges.length:Nat):Int)))+((a0.pattern.slots.length:Nat):Int)))+((a0.pattern.tests.length:Nat):Int)))=0)) (
  some (decide (a0.pattern.vars=0))) <|
 some false

def zd4 (a0:List zp) (p1:zp→Option Bool):Option Int :=
 chk (a0.length≤fuel) <|
 forN (fun i2 (s2:Unit) nxts2 brks2 =>
  thn (a0[i2]?) fun e3 =>
  thn (p1 e3) fun r4 =>
  cond r4 (
   some ((i2:Nat):Int)) <|
  nxts2 ())
 (a0.length - 0) 0 () fun s2 =>
 some (-1)

def zb6 (a0:List zp) (p1:zp→Option Bool):Option Bool :=
 thn (zd4 a0 p1) fun r2 =>
 some (decide (0≤r2))

def zb0 (rec1:zp→Option Bool) (a0:zp):Option Bool :=
 thn (rec1 a0) fun r2 =>
 some (!r2)

def zbm:Nat→zp →  Option Bool
  | 0,_=>none
  | n+1,a0 =>
    cond (decide (a0.kind=1)) (
     cond (decide (((a0.kids.length:Nat):Int)=0)) (
      thn (zet a0) fun r1 =>
      cond r1 (
       thn (zb6 a0.kids (fun x2=>zb0 (fun y0=>zbm n y0) x2)) fun r3 =>
       some (!r3)) <|
      some false) <|
     some false) <|
    cond (decide (a0.kind=2)) (
     cond (decide (((a0.kids.length:Nat):Int)=1)) (
      thn (zet a0) fun r4 =>
      cond r4 (
       thn (zb6 a0.kids (fun x5=>zb0 (fun y0=>zbm n y0) x5)) fun r6 =>
       some (!r6)) <|
      some false) <|
     some false) <|
    cond (decide (a0.kind=3)) (
     cond (decide (1≤((a0.kids.length:Nat):Int))) (
      thn (zet a0) fun r7 =>
      cond r7 (
       thn (zb6 a0.kids (fun x8=>zb0 (fun y0=>zbm n y0) x8)) fun r9 =>
       some (!r9)) <|
      some false) <|
     some false) <|
    cond (decide (a0.kind=4)) (
     cond (decide (1≤((a0.kids.length:Nat):Int))) (
      thn (zet a0) fun r10 =>
      cond r10 (
       thn (zb6 a0.kids (fun x11=>zb0 (fun y0=>zbm n y0) x11)) fun r12 =>
       some (!r12)) <|
      some false) <|
     some false) <|
    cond (decide (a0.kind=5)) (
     cond (decide (((a0.kids.length:Nat):Int)=1)) (
      thn (zb6 a0.kids (fun x13=>zb0 (fun y0=>zbm n y0) x13)) fun r14 =>
      some (!r14)) <|
     some false) <|
    some false

def zdk:Nat→zp →  Option (Int×Int)
  | 0,_=>none
  | n+1,a0 =>
    chk (a0.kids.length≤fuel) <|
    forN (fun i1 (s1:Int×Int) nxts1 brks1 =>
     thn (a0.kids[i1]?) fun e2 =>
     thn (zdk n e2) fun r3 =>
     nxts1 ((IntKind.i64.wrap (s1.1+r3.1)),(max s1.2 r3.2)))
    (a0.kids.length - 0) 0 (1,0) fun s1 =>
    cond (decide (a0.kind=5)) (
     some (s1.1,(IntKind.i64.wrap (s1.2+1)))) <|
    some (s1.1,s1.2)

def zg7 (a0:zp):Option Int :=
 thn (zbm fuel a0) fun r1 =>
 cond r1 (
  thn (zdk fuel a0) fun r2 =>
  cond (decide (12<r2.1)) (
   some 3) <|
  cond (decide (3<r2.2)) (
   some 3) <|
  some 0) <|
 some 1

def zf3 (a0:zb4) (a1:Int):Option Bool :=
 some (decide (a0.term.var=a1))

def zd2 (a0:zl) (a1:z7) (a2:Int):Option Int :=
 thn (zfe a0 a1) fun r3 =>
 cond (decide (r3=9)) (
  iter (fun (s4:Int) nxts4 brks4 =>
   cond (decide (s4<a1.vars)) (
    thn (zc6 a1.slots (fun x5=>zf3 x5 s4)) fun r6 =>
    cond r6 (
     nxts4 (IntKind.i64.wrap (s4+1))) <|
    some r3) <|
   brks4 s4)
  fuel a2 fun s4 =>
  some 0) <|
 some r3

def zcp:Nat→zl→z7→zp →  Option Int
  | 0,_,_,_=>none
  | n+1,a0,a1,a2 =>
    cond (decide (a2.kind=5)) (
     cond (decide (a2.pattern.vars<a1.vars)) (
      some 20) <|
     thn (zd2 a0 a2.pattern a1.vars) fun r3 =>
     cond (decide (r3=0)) (
      thn (zfp a1.graph a2.pattern.graph a2.map) fun r4 =>
      cond (decide (r4=0)) (
       thn (ze3 a1.graph a2.pattern.graph a2.map) fun r5 =>
       cond r5 (
        chk (a2.kids.length≤fuel) <|
        forN (fun i6 (s6:Unit) nxts6 brks6 =>
         thn (a2.kids[i6]?) fun e7 =>
         thn (zcp n a0 a2.pattern e7) fun r8 =>
         cond (decide (r8=0)) (
          nxts6 ()) <|
         some r8)
        (a2.kids.length - 0) 0 () fun s6 =>
        some 0) <|
       some 1) <|
      some r4) <|
     some r3) <|
    chk (a2.kids.length≤fuel) <|
    forN (fun i9 (s9:Unit) nxts9 brks9 =>
     thn (a2.kids[i9]?) fun e10 =>
     thn (zcp n a0 a1 e10) fun r11 =>
     cond (decide (r11=0)) (
      nxts9 ()) <|
     some r11)
    (a2.kids.length - 0) 0 () fun s9 =>
    some 0

def zg6 (a0:zl) (a1:z7) (a2:zp):Option Int :=
 thn (zfe a0 a1) fun r3 =>
 cond (decide (r3=0)) (
  thn (zg7 a2) fun r4 =>
  cond (decide (r4=0)) (
   thn (zcp fuel a0 a1 a2) fun r5 =>
   some r5) <|
  some r4) <|
 some r3

def zgv (a0:zl) (a1:zu):Option Int :=
 thn (zix a0) fun r2 =>
 cond (decide (r2.2=0)) (
  thn (zlk a1.name) fun r3 =>
  cond r3 (
   thn (zfe (⟨a0.nodes,a0.edges⟩:zl) a1.left) fun r4 =>
   cond (decide (r4=0)) (
    thn (zjq (⟨a0.nodes,a0.edges⟩:zl) (⟨a1.name,a1.left,a1.right,a1.keep,a1.into,a1.injective,a1.condition⟩:zu)) fun r5 =>
    cond (decide (r5=0)) (
     thn (zi8 (⟨a1.name,a1.left,a1.right,a1.keep,a1.into,a1.injective,a1.condition⟩:zu)) fun r6 =>
     cond (decide (r6=0)) (
      thn (zgo (⟨a1.name,a1.left,a1.right,a1.keep,a1.into,a1.injective,a1.condition⟩:zu)) fun r7 =>
      thn (zhe (⟨a0.nodes,a0.edges⟩:zl) a1.right.graph r7.1 r7.2) fun r8 =>
      cond r8 (
       thn (zg6 a0 a1.left a1.condition) fun r9 =>
       some r9) <|
      some 13) <|
     some r6) <|
    some r5) <|
   some r4) <|
  some 2) <|
 some r2.2

def zhd (a0:zu):Option ((List Int)×(List Int)) :=
 thn (zge a0.keep.nodes ((a0.left.graph.nodes.length:Nat):Int)) fun r1 =>
 thn (zge a0.keep.edges ((a0.left.graph.edges.length:Nat):Int)) fun r2 =>
 some (r1,r2)

def zh9 (a0:zl) (a1:zu):Option ((List Int)×(List Int)×Int) :=
 thn (zgv a0 (⟨a1.name,a1.left,a1.right,a1.keep,a1.into,a1.injective,a1.condition⟩:zu)) fun r2 =>
 cond (decide (r2=0)) (
  thn (zhd (⟨a1.name,a1.left,a1.right,a1.keep,a1.into,a1.injective,a1.condition⟩:zu)) fun r3 =>
  some (r3.1,r3.2,0)) <|
 some (([]:List Int),([]:List Int),r2)

def zd9 (a0:List zd0) (p1:zd0→Option Bool):Option Int :=
 chk (a0.length≤fuel) <|
 forN (fun i2 (s2:Unit) nxts2 brks2 =>
  thn (a0[i2]?) fun e3 =>
  thn (p1 e3) fun r4 =>
  cond r4 (
   some ((i2:Nat):Int)) <|
  nxts2 ())
 (a0.length - 0) 0 () fun s2 =>
 some (-1)

def zdw (a0:List zd0) (p1:zd0→Option Bool):Option Bool :=
 thn (zd9 a0 p1) fun r2 =>
 some (decide (0≤r2))

def zhr (a0:zd0) (a1:zu) (a2:Int):Option Bool :=
 thn (atZ a1.left.graph.nodes a2) fun e3 =>
 some (decide (a0.parent=e3))

def zhc (a0:zl) (a1:zu):Option ((List Int)×(List Int)×Int) :=
 thn (zgv a0 a1) fun r2 =>
 cond (decide (r2=0)) (
  thn (zgo a1) fun r3 =>
  some (r3.1,r3.2,0)) <|
 some (([]:List Int),([]:List Int),r2)

def zej (a0:zl) (a1:z8) (a2:List Int) (a3:List Int):Option (List Int) :=
 chk (a2.length≤fuel) <|
 forN (fun i4 (s4:(List Int)) nxts4 brks4 =>
  thn (a2[i4]?) fun e5 =>
  thn (atZ a1.nodes e5) fun e6 =>
  chk (s4.length+1≤68719476736) <|
  nxts4 (s4++[e6]))
 (a2.length - 0) 0 ([]:List Int) fun s4 =>
 chk (a3.length≤fuel) <|
 forN (fun i7 (s7:(List Int)) nxts7 brks7 =>
  thn (a3[i7]?) fun e8 =>
  thn (atZ a1.edges e8) fun e9 =>
  chk (s7.length+1≤68719476736) <|
  nxts7 (s7++[(IntKind.i64.wrap (((a0.nodes.length:Nat):Int)+e9.type))]))
 (a3.length - 0) 0 s4 fun s7 =>
 thn (zg5 s7) fun r10 =>
 thn (zf9 r10) fun r11 =>
 some r11

def zi0 (a0:zl) (a1:zu):Option (zo×Int) :=
 thn (zh9 a0 a1) fun r2 =>
 cond (decide (r2.2.2=0)) (
  chk (r2.1.length≤fuel) <|
  forN (fun i3 (s3:Unit) nxts3 brks3 =>
   thn (r2.1[i3]?) fun e4 =>
   thn (zdw a0.nodes (fun x5=>zhr x5 a1 e4)) fun r6 =>
   cond r6 (
    some ((⟨([]:List Int),([]:List Int)⟩:zo),13)) <|
   nxts3 ())
  (r2.1.length - 0) 0 () fun s3 =>
  thn (zhc a0 a1) fun r7 =>
  thn (zej a0 a1.left.graph r2.1 r2.2.1) fun r8 =>
  thn (zej a0 a1.right.graph r7.1 r7.2.1) fun r9 =>
  some ((⟨r8,r9⟩:zo),0)) <|
 some ((⟨([]:List Int),([]:List Int)⟩:zo),r2.2.2)

def zfo (a0:zl) (a1:List zu):Option ((List zo)×Int) :=
 thn (zix a0) fun r2 =>
 cond (decide (r2.2=0)) (
  cond (decide (6<((a1.length:Nat):Int))) (
   some (([]:List zo),3)) <|
  chk (a1.length≤fuel) <|
  forN (fun i3 (s3:(List zo)) nxts3 brks3 =>
   thn (a1[i3]?) fun e4 =>
   thn (zi0 a0 e4) fun r5 =>
   cond (decide (r5.2=0)) (
    chk (s3.length+1≤68719476736) <|
    nxts3 (s3++[r5.1])) <|
   some (([]:List zo),r5.2))
  (a1.length - 0) 0 ([]:List zo) fun s3 =>
  some (s3,0)) <|
 some (([]:List zo),r2.2)

def zcm (a0:List zo) (p1:zo→Option Bool):Option Int :=
 chk (a0.length≤fuel) <|
 forN (fun i2 (s2:Unit) nxts2 brks2 =>
  thn (a0[i2]?) fun e3 =>
  thn (p1 e3) fun r4 =>
  cond r4 (
   some ((i2:Nat):Int)) <|
  nxts2 ())
 (a0.length - 0) 0 () fun s2 =>
 some (-1)

def zcz (a0:List zo) (p1:zo→Option Bool):Option Bool :=
 thn (zcm a0 p1) fun r2 =>
 some (decide (0≤r2))

def zgs (a0:zo):Option Bool :=
 some (decide (((a0.deletes.length:Nat):Int)=0))

def zhg (a0:List zo) (a1:Int):Option ((List Int)×(List Int)×Bool) :=
 chk (a0.length≤68719476736) <|
 chk (0≤a1∧a1≤68719476736) <|
 thn (zcz a0 (fun x2=>zgs x2)) fun r3 =>
 cond r3 (
  some (([]:List Int),([]:List Int),false)) <|
 iter (fun (s4:Bool×(List Int)×(List Int)) nxts4 brks4 =>
  cond s4.1 (
   chk (a0.length≤fuel) <|
   forN (fun i5 (s5:Bool×(List Int)×(List Int)) nxts5 brks5 =>
    thn (a0[i5]?) fun e6 =>
    chk (e6.deletes.length≤fuel) <|
    forN (fun i7 (s7:Bool×(List Int)) nxts7 brks7 =>
     thn (e6.deletes[i7]?) fun e8 =>
     thn (atZ s5.2.1 e8) fun e9 =>
     thn (s7.2[i5]?) fun e10 =>
     cond (decide (e10<e9)) (
      nxts7 (true,(s7.2.set i5 e9))) <|
     nxts7 (s7.1,s7.2))
    (e6.deletes.length - 0) 0 (s5.1,s5.2.2) fun s7 =>
    chk (e6.creates.length≤fuel) <|
    forN (fun i11 (s11:Bool×(List Int)) nxts11 brks11 =>
     thn (e6.creates[i11]?) fun e12 =>
     thn (atZ s11.2 e12) fun e13 =>
     thn (s7.2[i5]?) fun e14 =>
     cond (decide (e13≤e14)) (
      nxts11 (true,(s11.2.set e12.toNat (IntKind.i64.wrap (e14+1))))) <|
     nxts11 (s11.1,s11.2))
    (e6.creates.length - 0) 0 (s7.1,s5.2.1) fun s11 =>
    thn (s7.2[i5]?) fun e15 =>
    cond (decide (100<e15)) (
     some (([]:List Int),([]:List Int),false)) <|
    nxts5 (s11.1,s11.2,s7.2))
   (a0.length - 0) 0 (false,s4.2.1,s4.2.2) fun s5 =>
   nxts4 (s5.1,s5.2.1,s5.2.2)) <|
  brks4 (s4.1,s4.2.1,s4.2.2))
 fuel (true,(List.replicate a1.toNat 0),(List.replicate a0.length 0)) fun s4 =>
 some (s4.2.2,s4.2.1,true)

def zeq (a0:zl) (a1:List zu):Option (zed×Int) :=
 thn (zfo a0 a1) fun r2 =>
 cond (decide (r2.2=0)) (
  thn (zhg r2.1 (IntKind.i64.wrap (((a0.nodes.length:Nat):Int)+((a0.edges.length:Nat):Int)))) fun r3 =>
  cond r3.2.2 (
   chk ((0:Int)≤0∧0≤((a0.nodes.length:Nat):Int)∧((a0.nodes.length:Nat):Int)≤((a0.nodes.length:Nat):Int)∧((a0.nodes.length:Nat):Int)≤(r3.2.1.length:Int)) <|
   chk ((0:Int)≤((a0.nodes.length:Nat):Int)∧((a0.nodes.length:Nat):Int)≤((r3.2.1.length:Nat):Int)∧((r3.2.1.length:Nat):Int)≤(r3.2.1.length:Int)) <|
   some ((⟨r3.1,(r3.2.1.take a0.nodes.length),(r3.2.1.drop a0.nodes.length)⟩:zed),0)) <|
  some ((⟨([]:List Int),([]:List Int),([]:List Int)⟩:zed),10)) <|
 some ((⟨([]:List Int),([]:List Int),([]:List Int)⟩:zed),r2.2)

def zff (a0:zo):Option Bool :=
 some (decide (((a0.deletes.length:Nat):Int)=0))

def zdt (a0:List zo):Option (List zi) :=
 chk (a0.length≤fuel) <|
 forN (fun i1 (s1:(List zi)) nxts1 brks1 =>
  thn (a0[i1]?) fun e2 =>
  chk (e2.deletes.length≤fuel) <|
  forN (fun i3 (s3:(List zi)) nxts3 brks3 =>
   thn (e2.deletes[i3]?) fun e4 =>
   chk (e2.creates.length≤fuel) <|
   forN (fun i5 (s5:(List zi)) nxts5 brks5 =>
    thn (e2.creates[i5]?) fun e6 =>
    chk (s5.length+1≤68719476736) <|
    nxts5 (s5++[(⟨((i1:Nat):Int),e4,e6,1⟩:zi)]))
   (e2.creates.length - 0) 0 s3 fun s5 =>
   nxts3 s5)
  (e2.deletes.length - 0) 0 s1 fun s3 =>
  nxts1 s3)
 (a0.length - 0) 0 ([]:List zi) fun s1 =>
 some s1

def zcx (a0:List zi) (p1:zi→Option Bool):Option Int :=
 chk (a0.length≤fuel) <|
 forN (fun i2 (s2:Unit) nxts2 brks2 =>
  thn (a0[i2]?) fun e3 =>
  thn (p1 e3) fun r4 =>
  cond r4 (
   some ((i2:Nat):Int)) <|
  nxts2 ())
 (a0.length - 0) 0 () fun s2 =>
 some (-1)

def zc5 (a0:zi) (a1:Int) (a2:List Int):Option Bool :=
 cond (decide (a0.src=a1)) (
  thn (atZ a2 a0.dst) fun e3 =>
  cond (decide (0≤e3)) (
   thn (atZ a2 a1) fun e4 =>
   some (decide (e3=(IntKind.i64.wrap (e4 - 1))))) <|
  some false) <|
 some false

def zfb (a0:List zi) (a1:Int):Option (List zi) :=
 chk (a0.length≤fuel) <|
 forN (fun i2 (s2:(List zi)) nxts2 brks2 =>
  thn (a0[i2]?) fun e3 =>
  thn (zdd a0 e3.src a1) fun r4 =>
  thn (atZ r4 e3.dst) fun e5 =>
  cond (decide (e5<0)) (
   nxts2 s2) <|
  cond (decide (0<((s2.length:Nat):Int))) (
   cond (decide (((s2.length:Nat):Int)≤(IntKind.i64.wrap (e5+1)))) (
    nxts2 s2) <|
   iter (fun (s6:Int×(List zi)) nxts6 brks6 =>
    cond (decide (s6.1=e3.src)) (
     brks6 (s6.1,s6.2)) <|
    thn (zcx a0 (fun x7=>zc5 x7 s6.1 r4)) fun r8 =>
    thn (atZ a0 r8) fun e9 =>
    chk (s6.2.length+1≤68719476736) <|
    nxts6 (e9.dst,(s6.2++[e9])))
   fuel (e3.dst,[e3]) fun s6 =>
   nxts2 s6.2) <|
  iter (fun (s10:Int×(List zi)) nxts10 brks10 =>
   cond (decide (s10.1=e3.src)) (
    brks10 (s10.1,s10.2)) <|
   thn (zcx a0 (fun x11=>zc5 x11 s10.1 r4)) fun r12 =>
   thn (atZ a0 r12) fun e13 =>
   chk (s10.2.length+1≤68719476736) <|
   nxts10 (e13.dst,(s10.2++[e13])))
  fuel (e3.dst,[e3]) fun s10 =>
  nxts2 s10.2)
 (a0.length - 0) 0 ([]:List zi) fun s2 =>
 some s2

def zel (a0:zl) (a1:List zu):Option ((List zi)×Int) :=
 thn (zfo a0 a1) fun r2 =>
 cond (decide (r2.2=0)) (
  thn (zcm r2.1 (fun x3=>zff x3)) fun r4 =>
  cond (decide (0≤r4)) (
   some ([(⟨r4,(-1),(-1),0⟩:zi)],0)) <|
  thn (zdt r2.1) fun r5 =>
  thn (zfb r5 (IntKind.i64.wrap (((a0.nodes.length:Nat):Int)+((a0.edges.length:Nat):Int)))) fun r6 =>
  cond (decide (((r6.length:Nat):Int)=0)) (
   some (([]:List zi),10)) <|
  some (r6,0)) <|
 some (([]:List zi),r2.2)

def zgy (a0:List Int) (a1:List Int):Option Bool :=
 cond (decide (((a0.length:Nat):Int)=((a1.length:Nat):Int))) (
  chk (a0.length≤fuel) <|
  forN (fun i2 (s2:Unit) nxts2 brks2 =>
   thn (a0[i2]?) fun e3 =>
   thn (a1[i2]?) fun e4 =>
   cond (decide (e3=e4)) (
    nxts2 ()) <|
   some false)
  (a0.length - 0) 0 () fun s2 =>
  some true) <|
 some false

def zer (a0:List zi) (a1:List zi):Option Bool :=
 cond (decide (((a0.length:Nat):Int)=((a1.length:Nat):Int))) (
  chk (a0.length≤fuel) <|
  forN (fun i2 (s2:Unit) nxts2 brks2 =>
   thn (a0[i2]?) fun e3 =>
   thn (a1[i2]?) fun e4 =>
   cond (decide (e3.rule=e4.rule)&&(decide (e3.src=e4.src)&&(decide (e3.dst=e4.dst)&&decide (e3.strict=e4.strict)))) (
    nxts2 ()) <|
   some false)
  (a0.length - 0) 0 () fun s2 =>
  some true) <|
 some false

def zdo  : Option Bool :=
 thn (zen) fun r1 =>
 thn (zci 0) fun r2 =>
 thn (zeq r1 [r2]) fun r3 =>
 thn (zci 1) fun r4 =>
 thn (zeq r1 [r4]) fun r5 =>
 thn (zci 2) fun r6 =>
 thn (zel r1 [r6]) fun r7 =>
 cond (decide (r3.2=0)) (
  thn (zgy r3.1.rules [0]) fun r8 =>
  cond r8 (
   cond (decide (r5.2=0)) (
    thn (zgy r5.1.nodes [0,0,1,0]) fun r9 =>
    cond r9 (
     cond (decide (r7.2=0)) (
      thn (zer r7.1 [(⟨0,5,5,1⟩:zi)]) fun r10 =>
      some r10) <|
     some false) <|
    some false) <|
   some false) <|
  some false) <|
 some false

def zfu (a0:zl):Option Bool :=
 cond (decide (20<((a0.nodes.length:Nat):Int))) (
  some false) <|
 cond (decide (30<((a0.edges.length:Nat):Int))) (
  some false) <|
 chk (a0.nodes.length≤fuel) <|
 forN (fun i1 (s1:Int) nxts1 brks1 =>
  thn (a0.nodes[i1]?) fun e2 =>
  cond (decide (30<(IntKind.i64.wrap (s1+((e2.attrs.length:Nat):Int))))) (
   some false) <|
  cond (decide (40<((e2.name.size:Nat):Int))) (
   some false) <|
  chk (e2.attrs.length≤fuel) <|
  forN (fun i3 (s3:Unit) nxts3 brks3 =>
   thn (e2.attrs[i3]?) fun e4 =>
   cond (decide (40<((e4.name.size:Nat):Int))) (
    some false) <|
   cond (decide (25<((e4.names.length:Nat):Int))) (
    some false) <|
   chk (e4.names.length≤fuel) <|
   forN (fun i5 (s5:Unit) nxts5 brks5 =>
    thn (e4.names[i5]?) fun e6 =>
    cond (decide (40<((e6.size:Nat):Int))) (
     some false) <|
    nxts5 ())
   (e4.names.length - 0) 0 () fun s5 =>
   nxts3 ())
  (e2.attrs.length - 0) 0 () fun s3 =>
  nxts1 (IntKind.i64.wrap (s1+((e2.attrs.length:Nat):Int))))
 (a0.nodes.length - 0) 0 0 fun s1 =>
 chk (a0.edges.length≤fuel) <|
 forN (fun i7 (s7:Unit) nxts7 brks7 =>
  thn (a0.edges[i7]?) fun e8 =>
  cond (decide (40<((e8.name.size:Nat):Int))) (
   some false) <|
  nxts7 ())
 (a0.edges.length - 0) 0 () fun s7 =>
 some true

def zf1 (a0:z8):Option Bool :=
 cond (decide (((a0.nodes.length:Nat):Int)≤45)) (
  some (decide (((a0.edges.length:Nat):Int)≤90))) <|
 some false

def zd6 (a0:z7):Option Bool :=
 thn (zf1 a0.graph) fun r1 =>
 cond r1 (
  cond (decide (((a0.slots.length:Nat):Int)≤15)) (
   some (decide (((a0.tests.length:Nat):Int)≤15))) <|
  some false) <|
 some false

def zf0 (a0:zdb) (a1:Int):Option Bool :=
 some (decide ((IntKind.i64.wrap (((a0.nodes.length:Nat):Int)+((a0.edges.length:Nat):Int)))≤a1))

def zes (a0:zby) (a1:Int):Option Bool :=
 some (decide ((IntKind.i64.wrap (((a0.nodes.length:Nat):Int)+((a0.edges.length:Nat):Int)))≤a1))

def zei:Nat→zp→Int →  Option Int
  | 0,_,_=>none
  | n+1,a0,a1 =>
    thn (zd6 a0.pattern) fun r2 =>
    cond r2 (
     thn (zes a0.map 140) fun r3 =>
     cond r3 (
      iter (fun (s4:Int×Int) nxts4 brks4 =>
       cond (decide (s4.2<((a0.kids.length:Nat):Int))) (
        cond (decide (0≤s4.1)) (
         thn (atZ a0.kids s4.2) fun e5 =>
         thn (zei n e5 s4.1) fun r6 =>
         nxts4 (r6,(IntKind.i64.wrap (s4.2+1)))) <|
        brks4 (s4.1,s4.2)) <|
       brks4 (s4.1,s4.2))
      fuel ((IntKind.i64.wrap (a1 - 1)),0) fun s4 =>
      some s4.1) <|
     some (-1)) <|
    some (-1)

def zg2 (a0:zp):Option Bool :=
 thn (zei fuel a0 40) fun r1 =>
 some (decide (0≤r1))

def zf2 (a0:zu):Option Bool :=
 cond (decide (((a0.name.size:Nat):Int)≤60)) (
  thn (zd6 a0.left) fun r1 =>
  cond r1 (
   thn (zd6 a0.right) fun r2 =>
   cond r2 (
    thn (zf0 a0.keep 140) fun r3 =>
    cond r3 (
     thn (zes a0.into 140) fun r4 =>
     cond r4 (
      thn (zg2 a0.condition) fun r5 =>
      some r5) <|
     some false) <|
    some false) <|
   some false) <|
  some false) <|
 some false

def zfz (a0:zl) (a1:List zu):Option Bool :=
 thn (zfu a0) fun r2 =>
 cond r2 (
  cond (decide (8<((a1.length:Nat):Int))) (
   some false) <|
  chk (a1.length≤fuel) <|
  forN (fun i3 (s3:Unit) nxts3 brks3 =>
   thn (a1[i3]?) fun e4 =>
   thn (zf2 e4) fun r5 =>
   cond r5 (
    nxts3 ()) <|
   some false)
  (a1.length - 0) 0 () fun s3 =>
  some true) <|
 some false

noncomputable def zi9 (l:List zu):Option (List zu):=giv (l.length≤1000000) l

def zeb (a0:zl) (a1:z8):Option Bool :=
 chk (a1.nodes.length≤fuel) <|
 forN (fun i2 (s2:Unit) nxts2 brks2 =>
  thn (a1.nodes[i2]?) fun e3 =>
  cond (decide (e3<0)) (
   some false) <|
  cond (decide (((a0.nodes.length:Nat):Int)≤e3)) (
   some false) <|
  nxts2 ())
 (a1.nodes.length - 0) 0 () fun s2 =>
 chk (a1.edges.length≤fuel) <|
 forN (fun i4 (s4:Unit) nxts4 brks4 =>
  thn (a1.edges[i4]?) fun e5 =>
  cond (decide (e5.type<0)) (
   some false) <|
  cond (decide (((a0.edges.length:Nat):Int)≤e5.type)) (
   some false) <|
  nxts4 ())
 (a1.edges.length - 0) 0 () fun s4 =>
 some true

def zfi (a0:zl) (a1:z7) (a2:Int) (a3:Int):Option (Attr×Bool) :=
 cond (decide (a2<0)) (
  some ((⟨(⟨#[]⟩:ByteArray),0,0,([]:List ByteArray)⟩:Attr),false)) <|
 cond (decide (((a1.graph.nodes.length:Nat):Int)≤a2)) (
  some ((⟨(⟨#[]⟩:ByteArray),0,0,([]:List ByteArray)⟩:Attr),false)) <|
 thn (atZ a1.graph.nodes a2) fun e4 =>
 thn (zgf a0 e4) fun r5 =>
 cond (decide (r5.2=0)) (
  cond (decide (a3<0)) (
   some ((⟨(⟨#[]⟩:ByteArray),0,0,([]:List ByteArray)⟩:Attr),false)) <|
  cond (decide (((r5.1.length:Nat):Int)≤a3)) (
   some ((⟨(⟨#[]⟩:ByteArray),0,0,([]:List ByteArray)⟩:Attr),false)) <|
  thn (atZ r5.1 a3) fun e6 =>
  some (e6,true)) <|
 some ((⟨(⟨#[]⟩:ByteArray),0,0,([]:List ByteArray)⟩:Attr),false)

def zf6 (a0:Int):Option Bool :=
 cond (decide ((-1000000)≤a0)) (
  some (decide (a0≤1000000))) <|
 some false

def zcj (a0:Int) (a1:zie):Option Int :=
 cond (decide (a1.var<(-1))) (
  some 6) <|
 cond (decide (a0≤a1.var)) (
  some 6) <|
 cond (decide (a1.add<(-1000000))) (
  some 6) <|
 cond (decide (1000000<a1.add)) (
  some 6) <|
 some 0

def zd8 (a0:Int) (a1:zc3):Option Int :=
 cond (decide (a1.kind=1)) (
  thn (zcj a0 a1.left) fun r2 =>
  cond (decide (r2=0)) (
   thn (zcj a0 a1.right) fun r3 =>
   some r3) <|
  some r2) <|
 cond (decide (a1.kind=2)) (
  thn (zcj a0 a1.left) fun r4 =>
  cond (decide (r4=0)) (
   thn (zcj a0 a1.right) fun r5 =>
   some r5) <|
  some r4) <|
 some 1

def zdn (a0:Int) (a1:List zc3):Option Int :=
 cond (decide (a0<0)) (
  some 6) <|
 cond (decide (12<a0)) (
  some 6) <|
 cond (decide (40<((a1.length:Nat):Int))) (
  some 3) <|
 chk (a1.length≤fuel) <|
 forN (fun i2 (s2:Unit) nxts2 brks2 =>
  thn (a1[i2]?) fun e3 =>
  thn (zd8 a0 e3) fun r4 =>
  cond (decide (r4=0)) (
   nxts2 ()) <|
  some r4)
 (a1.length - 0) 0 () fun s2 =>
 some 0

def zex (a0:z7) (a1:Int):Option Bool :=
 chk (a0.slots.length≤fuel) <|
 forN (fun i2 (s2:Unit) nxts2 brks2 =>
  thn (a0.slots[i2]?) fun e3 =>
  cond (decide (e3.term.var=a1)) (
   some true) <|
  nxts2 ())
 (a0.slots.length - 0) 0 () fun s2 =>
 some false

def zcs (a0:zl) (a1:z7):Option Int :=
 thn (zc9 a0) fun r2 =>
 cond (decide (r2.2=0)) (
  thn (zct a1.graph) fun r3 =>
  cond (decide (r3=0)) (
   thn (zeb a0 a1.graph) fun r4 =>
   cond r4 (
    cond (decide (a1.vars<0)) (
     some 6) <|
    cond (decide (12<a1.vars)) (
     some 6) <|
    cond (decide (10<((a1.slots.length:Nat):Int))) (
     some 3) <|
    cond (decide (10<((a1.tests.length:Nat):Int))) (
     some 3) <|
    chk (a1.slots.length≤fuel) <|
    forN (fun i5 (s5:Unit) nxts5 brks5 =>
     thn (a1.slots[i5]?) fun e6 =>
     thn (zfi (⟨a0.nodes,a0.edges⟩:zl) a1 e6.node e6.attr) fun r7 =>
     cond r7.2 (
      cond (decide (e6.term.var<(-1))) (
       some 6) <|
      cond (decide (a1.vars≤e6.term.var)) (
       some 6) <|
      thn (zf6 e6.term.add) fun r8 =>
      cond r8 (
       nxts5 ()) <|
      some 6) <|
     some 6)
    (a1.slots.length - 0) 0 () fun s5 =>
    thn (zdn a1.vars a1.tests) fun r9 =>
    cond (decide (r9=0)) (
     chk (a1.vars.toNat≤fuel) <|
     forN (fun i10 (s10:Unit) nxts10 brks10 =>
      thn (zex (⟨a1.graph,a1.slots,a1.vars,a1.tests⟩:z7) ((i10:Nat):Int)) fun r11 =>
      cond r11 (
       nxts10 ()) <|
      some 9)
     (a1.vars.toNat - 0) 0 () fun s10 =>
     some 0) <|
    some r9) <|
   some 13) <|
  some r3) <|
 some r2.2

def zdx (a0:zl) (a1:z7) (a2:Int):Option Int :=
 thn (atZ a1.slots a2) fun e3 =>
 cond (decide (e3.node<0)) (
  some 6) <|
 cond (decide (((a1.graph.nodes.length:Nat):Int)≤e3.node)) (
  some 6) <|
 thn (atZ a1.graph.nodes e3.node) fun e4 =>
 thn (zgf a0 e4) fun r5 =>
 cond (decide (e3.attr<0)) (
  some 6) <|
 cond (decide (((r5.1.length:Nat):Int)≤e3.attr)) (
  some 6) <|
 cond (decide (e3.term.var<(-1))) (
  some 6) <|
 cond (decide (a1.vars≤e3.term.var)) (
  some 6) <|
 cond (decide (e3.term.add<(-1000000))) (
  some 6) <|
 cond (decide (1000000<e3.term.add)) (
  some 6) <|
 chk (a2.toNat≤fuel) <|
 forN (fun i6 (s6:Unit) nxts6 brks6 =>
  thn (a1.slots[i6]?) fun e7 =>
  cond (decide (e7.node=e3.node)) (
   cond (decide (e7.attr=e3.attr)) (
    some 5) <|
   nxts6 ()) <|
  nxts6 ())
 (a2.toNat - 0) 0 () fun s6 =>
 some 0

def zdp (a0:zl) (a1:zu):Option Int :=
 thn (zct a1.right.graph) fun r2 =>
 cond (decide (r2=0)) (
  thn (zeb a0 a1.right.graph) fun r3 =>
  cond r3 (
   cond (decide (a1.right.vars=a1.left.vars)) (
    cond (decide (0<((a1.right.tests.length:Nat):Int))) (
     some 1) <|
    cond (decide (10<((a1.right.slots.length:Nat):Int))) (
     some 3) <|
    chk (a1.right.slots.length≤fuel) <|
    forN (fun i4 (s4:Unit) nxts4 brks4 =>
     thn (zdx a0 a1.right ((i4:Nat):Int)) fun r5 =>
     cond (decide (r5=0)) (
      nxts4 ()) <|
     some r5)
    (a1.right.slots.length - 0) 0 () fun s4 =>
    some 0) <|
   some 1) <|
  some 13) <|
 some r2

def zc2 (a0:List Int) (a1:Int):Option Int :=
 chk (a0.length≤fuel) <|
 forN (fun i2 (s2:Unit) nxts2 brks2 =>
  thn (a0[i2]?) fun e3 =>
  cond (decide (e3<0)) (
   some 6) <|
  cond (decide (a1≤e3)) (
   some 6) <|
  cond (decide (0<((i2:Nat):Int))) (
   thn (atZ a0 (IntKind.i64.wrap (((i2:Nat):Int) - 1))) fun e4 =>
   cond (decide (e3≤e4)) (
    some 12) <|
   nxts2 ()) <|
  nxts2 ())
 (a0.length - 0) 0 () fun s2 =>
 some 0

def zdl (a0:List Int) (a1:Int):Option Bool :=
 chk (a0.length≤fuel) <|
 forN (fun i2 (s2:Unit) nxts2 brks2 =>
  thn (a0[i2]?) fun e3 =>
  cond (decide (e3=a1)) (
   some true) <|
  nxts2 ())
 (a0.length - 0) 0 () fun s2 =>
 some false

def zc8 (a0:z8) (a1:zdb):Option Int :=
 thn (zc2 a1.nodes ((a0.nodes.length:Nat):Int)) fun r2 =>
 cond (decide (r2=0)) (
  thn (zc2 a1.edges ((a0.edges.length:Nat):Int)) fun r3 =>
  cond (decide (r3=0)) (
   chk (a1.edges.length≤fuel) <|
   forN (fun i4 (s4:Unit) nxts4 brks4 =>
    thn (a1.edges[i4]?) fun e5 =>
    thn (atZ a0.edges e5) fun e6 =>
    thn (zdl a1.nodes e6.src) fun r7 =>
    cond r7 (
     thn (zdl a1.nodes e6.dst) fun r8 =>
     cond r8 (
      nxts4 ()) <|
     some 14) <|
    some 14)
   (a1.edges.length - 0) 0 () fun s4 =>
   some 0) <|
  some r3) <|
 some r2

def zcf (a0:z8) (a1:zdb):Option Int :=
 thn (zct a0) fun r2 =>
 cond (decide (r2=0)) (
  thn (zc8 (⟨a0.nodes,a0.edges⟩:z8) (⟨a1.nodes,a1.edges⟩:zdb)) fun r3 =>
  some r3) <|
 some r2

def zec (a0:List Int) (a1:Int):Option Int :=
 chk (a0.length≤fuel) <|
 forN (fun i2 (s2:Unit) nxts2 brks2 =>
  thn (a0[i2]?) fun e3 =>
  cond (decide (e3=a1)) (
   some ((i2:Nat):Int)) <|
  nxts2 ())
 (a0.length - 0) 0 () fun s2 =>
 some (-1)

def zeo (a0:z8) (a1:zdb):Option (z8×zby×Int) :=
 thn (zcf a0 a1) fun r2 =>
 cond (decide (r2=0)) (
  chk (a1.nodes.length≤fuel) <|
  forN (fun i3 (s3:(List Int)) nxts3 brks3 =>
   thn (a1.nodes[i3]?) fun e4 =>
   thn (atZ a0.nodes e4) fun e5 =>
   chk (s3.length+1≤68719476736) <|
   nxts3 (s3++[e5]))
  (a1.nodes.length - 0) 0 ([]:List Int) fun s3 =>
  chk (a1.edges.length≤fuel) <|
  forN (fun i6 (s6:(List Edge)) nxts6 brks6 =>
   thn (a1.edges[i6]?) fun e7 =>
   thn (atZ a0.edges e7) fun e8 =>
   thn (zec a1.nodes e8.src) fun r9 =>
   thn (zec a1.nodes e8.dst) fun r10 =>
   chk (s6.length+1≤68719476736) <|
   nxts6 (s6++[(⟨e8.type,r9,r10⟩:Edge)]))
  (a1.edges.length - 0) 0 ([]:List Edge) fun s6 =>
  chk (a1.nodes.length≤68719476736) <|
  chk (a1.edges.length≤68719476736) <|
  some ((⟨s3,s6⟩:z8),(⟨a1.nodes,a1.edges⟩:zby),0)) <|
 some ((⟨([]:List Int),([]:List Edge)⟩:z8),(⟨([]:List Int),([]:List Int)⟩:zby),r2)

def zbr (a0:z8) (a1:z8) (a2:zby):Option Int :=
 thn (zct a0) fun r3 =>
 cond (decide (r3=0)) (
  thn (zct a1) fun r4 =>
  cond (decide (r4=0)) (
   cond (decide (((a2.nodes.length:Nat):Int)=((a0.nodes.length:Nat):Int))) (
    cond (decide (((a2.edges.length:Nat):Int)=((a0.edges.length:Nat):Int))) (
     chk (a0.nodes.length≤fuel) <|
     forN (fun i5 (s5:Unit) nxts5 brks5 =>
      thn (a2.nodes[i5]?) fun e6 =>
      cond (decide (e6<0)) (
       some 6) <|
      cond (decide (((a1.nodes.length:Nat):Int)≤e6)) (
       some 6) <|
      thn (atZ a1.nodes e6) fun e7 =>
      thn (a0.nodes[i5]?) fun e8 =>
      cond (decide (e7=e8)) (
       nxts5 ()) <|
      some 13)
     (a0.nodes.length - 0) 0 () fun s5 =>
     chk (a0.edges.length≤fuel) <|
     forN (fun i9 (s9:Unit) nxts9 brks9 =>
      thn (a2.edges[i9]?) fun e10 =>
      cond (decide (e10<0)) (
       some 6) <|
      cond (decide (((a1.edges.length:Nat):Int)≤e10)) (
       some 6) <|
      thn (a0.edges[i9]?) fun e11 =>
      thn (atZ a1.edges e10) fun e12 =>
      cond (decide (e11.type=e12.type)) (
       thn (atZ a2.nodes e11.src) fun e13 =>
       cond (decide (e13=e12.src)) (
        thn (atZ a2.nodes e11.dst) fun e14 =>
        cond (decide (e14=e12.dst)) (
         nxts9 ()) <|
        some 11) <|
       some 11) <|
      some 13)
     (a0.edges.length - 0) 0 () fun s9 =>
     some 0) <|
    some 20) <|
   some 20) <|
  some r4) <|
 some r3

def zcc (a0:zu):Option Int :=
 thn (zcf a0.left.graph a0.keep) fun r1 =>
 cond (decide (r1=0)) (
  thn (zeo a0.left.graph a0.keep) fun r2 =>
  thn (zbr r2.1 a0.right.graph a0.into) fun r3 =>
  some r3) <|
 some r1

def zcr (a0:List Int):Option Bool :=
 chk (a0.length≤fuel) <|
 forN (fun i1 (s1:Unit) nxts1 brks1 =>
  chk (i1≤fuel) <|
  forN (fun i2 (s2:Unit) nxts2 brks2 =>
   thn (a0[i1]?) fun e3 =>
   thn (a0[i2]?) fun e4 =>
   cond (decide (e3=e4)) (
    some false) <|
   nxts2 ())
  (i1 - 0) 0 () fun s2 =>
  nxts1 ())
 (a0.length - 0) 0 () fun s1 =>
 some true

def zft (a0:List Int) (a1:Int):Option Bool :=
 chk (a0.length≤fuel) <|
 forN (fun i2 (s2:Unit) nxts2 brks2 =>
  thn (a0[i2]?) fun e3 =>
  cond (decide (e3=a1)) (
   some true) <|
  nxts2 ())
 (a0.length - 0) 0 () fun s2 =>
 some false

def zdf (a0:Int) (a1:List Int):Option (List Int) :=
 chk (a0.toNat≤fuel) <|
 forN (fun i2 (s2:(List Int)) nxts2 brks2 =>
  thn (zft a1 ((i2:Nat):Int)) fun r3 =>
  cond r3 (
   nxts2 s2) <|
  chk (s2.length+1≤68719476736) <|
  nxts2 (s2++[((i2:Nat):Int)]))
 (a0.toNat - 0) 0 ([]:List Int) fun s2 =>
 some s2

def zcu (a0:zu):Option ((List Int)×(List Int)) :=
 thn (zdf ((a0.right.graph.nodes.length:Nat):Int) a0.into.nodes) fun r1 =>
 thn (zdf ((a0.right.graph.edges.length:Nat):Int) a0.into.edges) fun r2 =>
 some (r1,r2)

def ze0 (a0:zl) (a1:z8) (a2:List Int) (a3:List Int):Option Bool :=
 chk (a2.length≤fuel) <|
 forN (fun i4 (s4:Unit) nxts4 brks4 =>
  thn (a2[i4]?) fun e5 =>
  thn (atZ a1.nodes e5) fun e6 =>
  thn (atZ a0.nodes e6) fun e7 =>
  cond e7.abs (
   some false) <|
  nxts4 ())
 (a2.length - 0) 0 () fun s4 =>
 chk (a3.length≤fuel) <|
 forN (fun i8 (s8:Unit) nxts8 brks8 =>
  thn (a3[i8]?) fun e9 =>
  thn (atZ a1.edges e9) fun e10 =>
  thn (atZ a1.nodes e10.src) fun e11 =>
  thn (atZ a1.nodes e10.dst) fun e12 =>
  thn (zhy a0 e10.type e11 e12) fun r13 =>
  cond r13 (
   nxts8 ()) <|
  some false)
 (a3.length - 0) 0 () fun s8 =>
 some true

def zc1 (a0:zp):Option Bool :=
 cond (decide ((IntKind.i64.wrap ((IntKind.i64.wrap ((IntKind.i64.wrap (((a0.map.nodes.length:Nat):Int)+((a0.map.edges.length:Nat):Int)))+((a0.pattern.graph.nodes.length:Nat):Int)))+((a0.pattern.graph.edges.length:Nat):Int)))=0)) (
  cond (decide ((IntKind.i64.wrap (((a0.pattern.slots.length:Nat):Int)+((a0.pattern.tests.length:Nat):Int)))=0)) (
   some (decide (a0.pattern.vars=0))) <|
  some false) <|
 some false

def ze4 (a0:zp):Option Bool :=
 cond (decide (a0.kind=1)) (
  cond (decide (((a0.kids.length:Nat):Int)=0)) (
   thn (zc1 a0) fun r1 =>
   some r1) <|
  some false) <|
 cond (decide (a0.kind=2)) (
  cond (decide (((a0.kids.length:Nat):Int)=1)) (
   thn (zc1 a0) fun r2 =>
   some r2) <|
  some false) <|
 cond (decide (a0.kind=3)) (
  cond (decide (0<((a0.kids.length:Nat):Int))) (
   thn (zc1 a0) fun r3 =>
   some r3) <|
  some false) <|
 cond (decide (a0.kind=4)) (
  cond (decide (0<((a0.kids.length:Nat):Int))) (
   thn (zc1 a0) fun r4 =>
   some r4) <|
  some false) <|
 cond (decide (a0.kind=5)) (
  some (decide (((a0.kids.length:Nat):Int)=1))) <|
 some false

def zcq:Nat→zp →  Option Bool
  | 0,_=>none
  | n+1,a0 =>
    thn (ze4 a0) fun r1 =>
    cond r1 (
     chk (a0.kids.length≤fuel) <|
     forN (fun i2 (s2:Unit) nxts2 brks2 =>
      thn (a0.kids[i2]?) fun e3 =>
      thn (zcq n e3) fun r4 =>
      cond r4 (
       nxts2 ()) <|
      some false)
     (a0.kids.length - 0) 0 () fun s2 =>
     some true) <|
    some false

def zd1:Nat→zp →  Option (Int×Int)
  | 0,_=>none
  | n+1,a0 =>
    chk (a0.kids.length≤fuel) <|
    forN (fun i1 (s1:Int×Int) nxts1 brks1 =>
     thn (a0.kids[i1]?) fun e2 =>
     thn (zd1 n e2) fun r3 =>
     nxts1 ((IntKind.i64.wrap (s1.1+r3.1)),(max s1.2 r3.2)))
    (a0.kids.length - 0) 0 (1,0) fun s1 =>
    cond (decide (a0.kind=5)) (
     some (s1.1,(IntKind.i64.wrap (s1.2+1)))) <|
    some (s1.1,s1.2)

def zda (a0:zp):Option Int :=
 thn (zcq fuel a0) fun r1 =>
 cond r1 (
  thn (zd1 fuel a0) fun r2 =>
  cond (decide (12<r2.1)) (
   some 3) <|
  cond (decide (3<r2.2)) (
   some 3) <|
  some 0) <|
 some 1

def ze1 (a0:z7) (a1:Int):Option Bool :=
 chk (a0.slots.length≤fuel) <|
 forN (fun i2 (s2:Unit) nxts2 brks2 =>
  thn (a0.slots[i2]?) fun e3 =>
  cond (decide (e3.term.var=a1)) (
   some true) <|
  nxts2 ())
 (a0.slots.length - 0) 0 () fun s2 =>
 some false

def zck (a0:zl) (a1:Int) (a2:z7):Option Int :=
 cond (decide (a2.vars<a1)) (
  some 20) <|
 thn (zcs a0 a2) fun r3 =>
 cond (decide (r3=9)) (
  iter (fun (s4:Int) nxts4 brks4 =>
   cond (decide (s4<a2.vars)) (
    thn (ze1 a2 s4) fun r5 =>
    cond r5 (
     nxts4 (IntKind.i64.wrap (s4+1))) <|
    some r3) <|
   brks4 s4)
  fuel a1 fun s4 =>
  some 0) <|
 some r3

def zea (a0:z8) (a1:z8) (a2:zby):Option Bool :=
 thn (zbr a0 a1 a2) fun r3 =>
 cond (decide (r3=0)) (
  thn (zcr a2.nodes) fun r4 =>
  cond r4 (
   thn (zcr a2.edges) fun r5 =>
   some r5) <|
  some false) <|
 some false

def zb1:Nat→zl→z7→zp →  Option Int
  | 0,_,_,_=>none
  | n+1,a0,a1,a2 =>
    cond (decide (a2.kind=5)) (
     thn (zck a0 a1.vars a2.pattern) fun r3 =>
     cond (decide (r3=0)) (
      thn (zbr a1.graph a2.pattern.graph a2.map) fun r4 =>
      cond (decide (r4=0)) (
       thn (zea a1.graph a2.pattern.graph a2.map) fun r5 =>
       cond r5 (
        chk (a2.kids.length≤fuel) <|
        forN (fun i6 (s6:Unit) nxts6 brks6 =>
         thn (a2.kids[i6]?) fun e7 =>
         thn (zb1 n a0 a2.pattern e7) fun r8 =>
         cond (decide (r8=0)) (
          nxts6 ()) <|
         some r8)
        (a2.kids.length - 0) 0 () fun s6 =>
        some 0) <|
       some 1) <|
      some r4) <|
     some r3) <|
    chk (a2.kids.length≤fuel) <|
    forN (fun i9 (s9:Unit) nxts9 brks9 =>
     thn (a2.kids[i9]?) fun e10 =>
     thn (zb1 n a0 a1 e10) fun r11 =>
     cond (decide (r11=0)) (
      nxts9 ()) <|
     some r11)
    (a2.kids.length - 0) 0 () fun s9 =>
    some 0

def zcl (a0:zl) (a1:z7) (a2:zp):Option Int :=
 thn (zcs a0 a1) fun r3 =>
 cond (decide (r3=0)) (
  thn (zda a2) fun r4 =>
  cond (decide (r4=0)) (
   thn (zb1 fuel a0 a1 a2) fun r5 =>
   some r5) <|
  some r4) <|
 some r3

def zb5 (a0:zl) (a1:zu):Option Int :=
 thn (zc9 a0) fun r2 =>
 cond (decide (r2.2=0)) (
  thn (zhj a1.name) fun r3 =>
  cond r3 (
   thn (zcs (⟨a0.nodes,a0.edges⟩:zl) a1.left) fun r4 =>
   cond (decide (r4=0)) (
    thn (zdp a0 (⟨a1.name,a1.left,a1.right,a1.keep,a1.into,a1.injective,a1.condition⟩:zu)) fun r5 =>
    cond (decide (r5=0)) (
     thn (zcc (⟨a1.name,a1.left,a1.right,a1.keep,a1.into,a1.injective,a1.condition⟩:zu)) fun r6 =>
     cond (decide (r6=0)) (
      thn (zcr a1.into.nodes) fun r7 =>
      cond r7 (
       thn (zcr a1.into.edges) fun r8 =>
       cond r8 (
        thn (zcu (⟨a1.name,a1.left,a1.right,a1.keep,a1.into,a1.injective,a1.condition⟩:zu)) fun r9 =>
        thn (ze0 a0 a1.right.graph r9.1 r9.2) fun r10 =>
        cond r10 (
         thn (zcl a0 a1.left a1.condition) fun r11 =>
         some r11) <|
        some 13) <|
       some 11) <|
      some 11) <|
     some r6) <|
    some r5) <|
   some r4) <|
  some 2) <|
 some r2.2

def zdy (a0:zu):Option ((List Int)×(List Int)) :=
 thn (zdf ((a0.left.graph.nodes.length:Nat):Int) a0.keep.nodes) fun r1 =>
 thn (zdf ((a0.left.graph.edges.length:Nat):Int) a0.keep.edges) fun r2 =>
 some (r1,r2)

def zdz (a0:zl) (a1:zu):Option ((List Int)×(List Int)×Int) :=
 thn (zb5 a0 (⟨a1.name,a1.left,a1.right,a1.keep,a1.into,a1.injective,a1.condition⟩:zu)) fun r2 =>
 cond (decide (r2=0)) (
  thn (zdy (⟨a1.name,a1.left,a1.right,a1.keep,a1.into,a1.injective,a1.condition⟩:zu)) fun r3 =>
  some (r3.1,r3.2,0)) <|
 some (([]:List Int),([]:List Int),r2)

def zf8 (a0:Int) (a1:Int) (a2:Int):Option Bool :=
 cond (decide (a1≤a0)) (
  some (decide (a0≤a2))) <|
 some false

def zfa (a0:zl) (a1:Int) (a2:Int):Option Int :=
 thn (zc9 a0) fun r3 =>
 cond (decide (r3.2=0)) (
  thn (zf8 a1 0 (IntKind.i64.wrap (((a0.nodes.length:Nat):Int) - 1))) fun r4 =>
  cond r4 (
   thn (zf8 a2 0 (IntKind.i64.wrap (((a0.nodes.length:Nat):Int) - 1))) fun r5 =>
   cond r5 (
    some 0) <|
   some 6) <|
  some 6) <|
 some r3.2

def zdg:Nat→zl→Int→Int →  Option Bool
  | 0,_,_,_=>none
  | n+1,a0,a1,a2 =>
    cond (decide (a1=a2)) (
     some true) <|
    cond (decide (0≤a1)) (
     thn (atZ a0.nodes a1) fun e3 =>
     thn (zdg n a0 e3.parent a2) fun r4 =>
     some r4) <|
    some false

def ze6 (a0:zl) (a1:Int):Option ((List Int)×Int) :=
 thn (zfa a0 a1 a1) fun r2 =>
 cond (decide (r2=0)) (
  chk (a0.nodes.length≤fuel) <|
  forN (fun i3 (s3:(List Int)) nxts3 brks3 =>
   thn (zdg fuel a0 ((i3:Nat):Int) a1) fun r4 =>
   cond r4 (
    chk (s3.length+1≤68719476736) <|
    nxts3 (s3++[((i3:Nat):Int)])) <|
   nxts3 s3)
  (a0.nodes.length - 0) 0 ([]:List Int) fun s3 =>
  some (s3,0)) <|
 some (([]:List Int),r2)

def ze9 (a0:zl) (a1:List zu):Option Int :=
 thn (zc9 a0) fun r2 =>
 cond (decide (r2.2=0)) (
  cond (decide (6<((a1.length:Nat):Int))) (
   some 3) <|
  chk (a1.length≤fuel) <|
  forN (fun i3 (s3:Unit) nxts3 brks3 =>
   thn (a1[i3]?) fun e4 =>
   thn (zdz a0 e4) fun r5 =>
   cond (decide (r5.2.2=0)) (
    chk (r5.1.length≤fuel) <|
    forN (fun i6 (s6:Unit) nxts6 brks6 =>
     thn (r5.1[i6]?) fun e7 =>
     thn (atZ e4.left.graph.nodes e7) fun e8 =>
     thn (ze6 a0 e8) fun r9 =>
     cond (decide (1<((r9.1.length:Nat):Int))) (
      some 13) <|
     nxts6 ())
    (r5.1.length - 0) 0 () fun s6 =>
    nxts3 ()) <|
   some r5.2.2)
  (a1.length - 0) 0 () fun s3 =>
  some 0) <|
 some r2.2

def zc0 (a0:zl) (a1:z8) (a2:List Int) (a3:List Int):Option (List Int) :=
 chk ((IntKind.i64.wrap (((a0.nodes.length:Nat):Int)+((a0.edges.length:Nat):Int))).toNat≤fuel) <|
 forN (fun i4 (s4:(List Int)) nxts4 brks4 =>
  chk (a2.length≤fuel) <|
  forN (fun i5 (s5:Bool) nxts5 brks5 =>
   cond s5 (
    nxts5 true) <|
   thn (a2[i5]?) fun e6 =>
   thn (atZ a1.nodes e6) fun e7 =>
   nxts5 (decide (e7=((i4:Nat):Int))))
  (a2.length - 0) 0 false fun s5 =>
  chk (a3.length≤fuel) <|
  forN (fun i8 (s8:Bool) nxts8 brks8 =>
   cond s8 (
    nxts8 true) <|
   thn (a3[i8]?) fun e9 =>
   thn (atZ a1.edges e9) fun e10 =>
   nxts8 (decide ((IntKind.i64.wrap (((a0.nodes.length:Nat):Int)+e10.type))=((i4:Nat):Int))))
  (a3.length - 0) 0 s5 fun s8 =>
  cond s8 (
   chk (s4.length+1≤68719476736) <|
   nxts4 (s4++[((i4:Nat):Int)])) <|
  nxts4 s4)
 (((IntKind.i64.wrap (((a0.nodes.length:Nat):Int)+((a0.edges.length:Nat):Int))).toNat) - 0) 0 ([]:List Int) fun s4 =>
 some s4

def zcg (a0:zl) (a1:zu):Option (List Int) :=
 thn (zdz a0 a1) fun r2 =>
 thn (zc0 a0 a1.left.graph r2.1 r2.2.1) fun r3 =>
 some r3

def zem (a0:zl) (a1:zu):Option ((List Int)×(List Int)×Int) :=
 thn (zb5 a0 a1) fun r2 =>
 cond (decide (r2=0)) (
  thn (zcu a1) fun r3 =>
  some (r3.1,r3.2,0)) <|
 some (([]:List Int),([]:List Int),r2)

def zcv (a0:zl) (a1:zu):Option (List Int) :=
 thn (zem a0 a1) fun r2 =>
 thn (zc0 a0 a1.right.graph r2.1 r2.2.1) fun r3 =>
 some r3

def zgg (a0:zl) (a1:List zu) (a2:List Int):Option ((List Int)×(List Int)) :=
 chk (a2.length≤68719476736) <|
 chk (a1.length≤fuel) <|
 forN (fun i3 (s3:(List Int)×(List Int)) nxts3 brks3 =>
  thn (a1[i3]?) fun e4 =>
  thn (zcg a0 e4) fun r5 =>
  thn (zcv a0 e4) fun r6 =>
  chk (r5.length≤fuel) <|
  forN (fun i7 (s7:Int) nxts7 brks7 =>
   thn (r5[i7]?) fun e8 =>
   thn (atZ a2 e8) fun e9 =>
   nxts7 (max s7 e9))
  (r5.length - 0) 0 0 fun s7 =>
  chk (s3.1.length+1≤68719476736) <|
  chk (r6.length≤fuel) <|
  forN (fun i10 (s10:(List Int)) nxts10 brks10 =>
   thn (r6[i10]?) fun e11 =>
   thn (atZ s10 e11) fun e12 =>
   nxts10 (s10.set e11.toNat (max e12 (IntKind.i64.wrap (s7+1)))))
  (r6.length - 0) 0 s3.2 fun s10 =>
  nxts3 ((s3.1++[s7]),s10))
 (a1.length - 0) 0 (([]:List Int),a2) fun s3 =>
 some (s3.1,s3.2)

def zg3 (a0:List Int) (a1:List Int):Option Bool :=
 cond (decide (((a0.length:Nat):Int)=((a1.length:Nat):Int))) (
  chk (a0.length≤fuel) <|
  forN (fun i2 (s2:Unit) nxts2 brks2 =>
   thn (a0[i2]?) fun e3 =>
   thn (a1[i2]?) fun e4 =>
   cond (decide (e3=e4)) (
    nxts2 ()) <|
   some false)
  (a0.length - 0) 0 () fun s2 =>
  some true) <|
 some false

def zj1 (a0:zl) (a1:List zu):Option (zed×Bool) :=
 chk (a1.length≤fuel) <|
 forN (fun i2 (s2:Unit) nxts2 brks2 =>
  thn (a1[i2]?) fun e3 =>
  thn (zcg a0 e3) fun r4 =>
  cond (decide (((r4.length:Nat):Int)=0)) (
   some ((⟨([]:List Int),([]:List Int),([]:List Int)⟩:zed),false)) <|
  nxts2 ())
 (a1.length - 0) 0 () fun s2 =>
 chk (0≤(IntKind.i64.wrap (((a0.nodes.length:Nat):Int)+((a0.edges.length:Nat):Int)))∧(IntKind.i64.wrap (((a0.nodes.length:Nat):Int)+((a0.edges.length:Nat):Int)))≤68719476736) <|
 iter (fun (s5:(List Int)×Int) nxts5 brks5 =>
  cond (decide (s5.2≤(IntKind.i64.wrap ((IntKind.i64.wrap (((a0.nodes.length:Nat):Int)+((a0.edges.length:Nat):Int)))+1)))) (
   thn (zgg (⟨a0.nodes,a0.edges⟩:zl) a1 s5.1) fun r6 =>
   thn (zg3 s5.1 r6.2) fun r7 =>
   cond r7 (
    chk ((0:Int)≤0∧0≤((a0.nodes.length:Nat):Int)∧((a0.nodes.length:Nat):Int)≤(s5.1.length:Int)) <|
    chk ((0:Int)≤((a0.nodes.length:Nat):Int)∧((a0.nodes.length:Nat):Int)≤((s5.1.length:Nat):Int)∧((s5.1.length:Nat):Int)≤(s5.1.length:Int)) <|
    some ((⟨r6.1,(s5.1.take a0.nodes.length),(s5.1.drop a0.nodes.length)⟩:zed),true)) <|
   nxts5 (r6.2,(IntKind.i64.wrap (s5.2+1)))) <|
  brks5 (s5.1,s5.2))
 fuel ((List.replicate ((IntKind.i64.wrap (((a0.nodes.length:Nat):Int)+((a0.edges.length:Nat):Int))).toNat) 0),0) fun s5 =>
 some ((⟨([]:List Int),([]:List Int),([]:List Int)⟩:zed),false)

def zk3 (a0:List Int):Option Bool :=
 chk (a0.length≤fuel) <|
 forN (fun i1 (s1:Unit) nxts1 brks1 =>
  thn (a0[i1]?) fun e2 =>
  cond (decide (e2<0)) (
   some false) <|
  cond (decide (100<e2)) (
   some false) <|
  nxts1 ())
 (a0.length - 0) 0 () fun s1 =>
 some true

def zfs (a0:List zi) (a1:zi):Option Int :=
 chk (a0.length≤fuel) <|
 forN (fun i2 (s2:Unit) nxts2 brks2 =>
  thn (a0[i2]?) fun e3 =>
  cond (decide (a1.rule=e3.rule)&&(decide (a1.src=e3.src)&&(decide (a1.dst=e3.dst)&&decide (a1.strict=e3.strict)))) (
   some ((i2:Nat):Int)) <|
  nxts2 ())
 (a0.length - 0) 0 () fun s2 =>
 some (-1)

def zdh (a0:List zi) (a1:zi):Option Bool :=
 thn (zfs a0 a1) fun r2 =>
 some (decide (0≤r2))

def zfh (a0:zl) (a1:List zu) (a2:List zi):Option Bool :=
 thn (zfo a0 a1) fun r3 =>
 cond (decide (r3.2=0)) (
  cond (decide (((a2.length:Nat):Int)=0)) (
   some false) <|
  cond (decide (40<((a2.length:Nat):Int))) (
   some false) <|
  thn (a2[0]?) fun e4 =>
  cond (decide (((a2.length:Nat):Int)=1)) (
   cond (decide (e4.strict=0)) (
    cond (decide (e4.src=(-1))) (
     cond (decide (e4.dst=(-1))) (
      cond (decide (0≤e4.rule)) (
       cond (decide (e4.rule<((r3.1.length:Nat):Int))) (
        thn (atZ r3.1 e4.rule) fun e5 =>
        some (decide (((e5.deletes.length:Nat):Int)=0))) <|
       some false) <|
      some false) <|
     some false) <|
    some false) <|
   thn (zdt r3.1) fun r6 =>
   thn (atZ a2 (IntKind.i64.wrap (((a2.length:Nat):Int) - 1))) fun e7 =>
   chk (a2.length≤fuel) <|
   forN (fun i8 (s8:Int) nxts8 brks8 =>
    thn (a2[i8]?) fun e9 =>
    thn (zdh r6 e9) fun r10 =>
    cond r10 (
     cond (decide (e9.src=s8)) (
      nxts8 e9.dst) <|
     some false) <|
    some false)
   (a2.length - 0) 0 e7.dst fun s8 =>
   some true) <|
  thn (zdt r3.1) fun r11 =>
  thn (atZ a2 (IntKind.i64.wrap (((a2.length:Nat):Int) - 1))) fun e12 =>
  chk (a2.length≤fuel) <|
  forN (fun i13 (s13:Int) nxts13 brks13 =>
   thn (a2[i13]?) fun e14 =>
   thn (zdh r11 e14) fun r15 =>
   cond r15 (
    cond (decide (e14.src=s13)) (
     nxts13 e14.dst) <|
    some false) <|
   some false)
  (a2.length - 0) 0 e12.dst fun s13 =>
  some true) <|
 some false

def zep (a0:zl) (a1:List zu):Option (List zi) :=
 chk (a1.length≤fuel) <|
 forN (fun i2 (s2:(List zi)) nxts2 brks2 =>
  thn (a1[i2]?) fun e3 =>
  thn (zcg a0 e3) fun r4 =>
  thn (zcv a0 e3) fun r5 =>
  chk (r4.length≤fuel) <|
  forN (fun i6 (s6:(List zi)) nxts6 brks6 =>
   chk (r5.length≤fuel) <|
   forN (fun i7 (s7:(List zi)) nxts7 brks7 =>
    thn (r4[i6]?) fun e8 =>
    thn (r5[i7]?) fun e9 =>
    chk (s7.length+1≤68719476736) <|
    nxts7 (s7++[(⟨((i2:Nat):Int),e8,e9,1⟩:zi)]))
   (r5.length - 0) 0 s6 fun s7 =>
   nxts6 s7)
  (r4.length - 0) 0 s2 fun s6 =>
  nxts2 s6)
 (a1.length - 0) 0 ([]:List zi) fun s2 =>
 some s2

def zc4 (a0:List Int) (a1:Int):Option Bool :=
 chk (a0.length≤fuel) <|
 forN (fun i2 (s2:Unit) nxts2 brks2 =>
  thn (a0[i2]?) fun e3 =>
  cond (decide (e3=a1)) (
   some true) <|
  nxts2 ())
 (a0.length - 0) 0 () fun s2 =>
 some false

def zcw (a0:List zi) (a1:Int) (a2:Int) (a3:Int):Option Bool :=
 chk (a3.toNat≤fuel) <|
 forN (fun i4 (s4:(List Int)) nxts4 brks4 =>
  chk (a0.length≤fuel) <|
  forN (fun i5 (s5:(List Int)) nxts5 brks5 =>
   thn (a0[i5]?) fun e6 =>
   thn (zc4 s4 e6.src) fun r7 =>
   cond r7 (
    thn (zc4 s5 e6.dst) fun r8 =>
    cond r8 (
     nxts5 s5) <|
    chk (s5.length+1≤68719476736) <|
    nxts5 (s5++[e6.dst])) <|
   nxts5 s5)
  (a0.length - 0) 0 ([]:List Int) fun s5 =>
  nxts4 s5)
 (a3.toNat - 0) 0 [a1] fun s4 =>
 thn (zc4 s4 a2) fun r9 =>
 some r9

def zc7:Nat→(List zi)→Int→Int→Int →  Option (List zi)
  | 0,_,_,_,_=>none
  | n+1,a0,a1,a2,a3 =>
    chk (a0.length≤fuel) <|
    forN (fun i4 (s4:Unit) nxts4 brks4 =>
     thn (a0[i4]?) fun e5 =>
     cond (decide (e5.src=a1)) (
      cond (decide (a3=1)) (
       cond (decide (e5.dst=a2)) (
        some [e5]) <|
       nxts4 ()) <|
      thn (zcw a0 e5.dst a2 (IntKind.i64.wrap (a3 - 1))) fun r6 =>
      cond r6 (
       thn (zc7 n a0 e5.dst a2 (IntKind.i64.wrap (a3 - 1))) fun r7 =>
       chk (1+r7.length≤68719476736) <|
       some ([e5]++r7)) <|
      nxts4 ()) <|
     nxts4 ())
    (a0.length - 0) 0 () fun s4 =>
    some ([]:List zi)

def zez (a0:zl) (a1:List zu):Option ((List zi)×Int) :=
 thn (ze9 a0 a1) fun r2 =>
 cond (decide (r2=0)) (
  chk (a1.length≤fuel) <|
  forN (fun i3 (s3:Unit) nxts3 brks3 =>
   thn (a1[i3]?) fun e4 =>
   thn (zcg a0 e4) fun r5 =>
   cond (decide (((r5.length:Nat):Int)=0)) (
    some ([(⟨((i3:Nat):Int),(-1),(-1),0⟩:zi)],0)) <|
   nxts3 ())
  (a1.length - 0) 0 () fun s3 =>
  thn (zep a0 a1) fun r6 =>
  iter (fun (s7:Int) nxts7 brks7 =>
   cond (decide (s7≤(IntKind.i64.wrap (((a0.nodes.length:Nat):Int)+((a0.edges.length:Nat):Int))))) (
    chk (r6.length≤fuel) <|
    forN (fun i8 (s8:Unit) nxts8 brks8 =>
     cond (decide (s7=1)) (
      thn (r6[i8]?) fun e9 =>
      cond (decide (e9.src=e9.dst)) (
       chk ((0:Int)≤((i8:Nat):Int)∧((i8:Nat):Int)≤(IntKind.i64.wrap (((i8:Nat):Int)+1))∧(IntKind.i64.wrap (((i8:Nat):Int)+1))≤(r6.length:Int)) <|
       some (((r6.take (IntKind.i64.wrap (((i8:Nat):Int)+1)).toNat).drop i8),0)) <|
      nxts8 ()) <|
     thn (r6[i8]?) fun e10 =>
     thn (zcw r6 e10.dst e10.src (IntKind.i64.wrap (s7 - 1))) fun r11 =>
     cond r11 (
      thn (zc7 fuel r6 e10.dst e10.src (IntKind.i64.wrap (s7 - 1))) fun r12 =>
      chk (1+r12.length≤68719476736) <|
      some (([e10]++r12),0)) <|
     nxts8 ())
    (r6.length - 0) 0 () fun s8 =>
    nxts7 (IntKind.i64.wrap (s7+1))) <|
   brks7 s7)
  fuel 1 fun s7 =>
  some (([]:List zi),10)) <|
 some (([]:List zi),r2)

def zdj (a0:zl) (a1:List zu):Option Bool :=
 thn (zdo) fun r2 =>
 cond r2 (
  thn (zfz a0 a1) fun r3 =>
  cond r3 (
   thn (zi9 a1) fun r4 =>
   thn (zel a0 r4) fun r5 =>
   thn (zez a0 a1) fun r6 =>
   cond (decide (r5.2=r6.2)) (
    thn (zer r5.1 r6.1) fun r7 =>
    cond r7 (
     thn (zeq a0 a1) fun r8 =>
     cond (decide (r5.2=0)) (
      cond (decide (r8.2=10)) (
       thn (zfh a0 a1 r5.1) fun r9 =>
       some r9) <|
      some false) <|
     cond (decide (r5.2=10)) (
      some (decide (r8.2=0))) <|
     some (decide (r8.2=r5.2))) <|
    some false) <|
   some false) <|
  thn (zdo) fun r10 =>
  some r10) <|
 thn (zdo) fun r11 =>
 some r11
end
end Go.Proofs.YthjgdkloabgcoaaGreat
namespace Go.Proofs.YthjgdkloabgcoaaGreat
open Go.Abs

theorem memD {α:Type} [Inhabited α] {l:List α} {x:α} (h:x∈l):∃j,j<l.length∧l.getD j default=x:=by
 obtain⟨j,hj,rfl⟩:=List.mem_iff_getElem.1 h
 exact⟨j,hj,by simp[hj]⟩
theorem zbf {n:Nat} (h:n≤4000000000000000000):n≤fuel:=by unfold fuel; omega
theorem zop {l:List Int} {p:Int→Option Bool} (q:Int→Bool) (hl:l.length≤1000000) (hp:∀x∈l,p x=some (q x)):zfj l p=some (idxQ q l):=by
 unfold zfj
 rw[zbw (zbf (by omega))]
 refine zhf l q (fun i hi nxt=>?_) rfl
 rw[zbz hi,zk (hp _ (List.getElem_mem hi))]
theorem zns {l:List Edge} {p:Edge→Option Bool} (q:Edge→Bool) (hl:l.length≤1000000) (hp:∀x∈l,p x=some (q x)):ze7 l p=some (idxQ q l):=by
 unfold ze7
 rw[zbw (zbf (by omega))]
 refine zhf l q (fun i hi nxt=>?_) rfl
 rw[zbz hi,zk (hp _ (List.getElem_mem hi))]
theorem znx {l:List zb4} {p:zb4→Option Bool} (q:zb4→Bool) (hl:l.length≤1000000) (hp:∀x∈l,p x=some (q x)):ze5 l p=some (idxQ q l):=by
 unfold ze5
 rw[zbw (zbf (by omega))]
 refine zhf l q (fun i hi nxt=>?_) rfl
 rw[zbz hi,zk (hp _ (List.getElem_mem hi))]
theorem zlw {l:List zd0} {p:zd0→Option Bool} (q:zd0→Bool) (hl:l.length≤1000000) (hp:∀x∈l,p x=some (q x)):zd9 l p=some (idxQ q l):=by
 unfold zd9
 rw[zbw (zbf (by omega))]
 refine zhf l q (fun i hi nxt=>?_) rfl
 rw[zbz hi,zk (hp _ (List.getElem_mem hi))]
theorem zfd {l:List zo} {p:zo→Option Bool} (q:zo→Bool) (hl:l.length≤1000000) (hp:∀x∈l,p x=some (q x)):zcm l p=some (idxQ q l):=by
 unfold zcm
 rw[zbw (zbf (by omega))]
 refine zhf l q (fun i hi nxt=>?_) rfl
 rw[zbz hi,zk (hp _ (List.getElem_mem hi))]
theorem zmq {l:List zi} {p:zi→Option Bool} (q:zi→Bool) (hl:l.length≤1000000) (hp:∀x∈l,p x=some (q x)):zcx l p=some (idxQ q l):=by
 unfold zcx
 rw[zbw (zbf (by omega))]
 refine zhf l q (fun i hi nxt=>?_) rfl
 rw[zbz hi,zk (hp _ (List.getElem_mem hi))]
theorem zlh {l:List zp} {p:zp→Option Bool} (q:zp→Bool) (hl:l.length≤1000000) (hp:∀x∈l,p x=some (q x)):zd4 l p=some (idxQ q l):=by
 unfold zd4
 rw[zbw (zbf (by omega))]
 refine zhf l q (fun i hi nxt=>?_) rfl
 rw[zbz hi,zk (hp _ (List.getElem_mem hi))]
theorem zf4 {l:List Int} {p:Int→Option Bool} (q:Int→Bool) (hl:l.length≤1000000) (hp:∀x∈l,p x=some (q x)):zcy l p=some (l.any q):=by
 unfold zcy
 rw[zk (zop q hl hp),zi6]
theorem zi1 {l:List Edge} {p:Edge→Option Bool} (q:Edge→Bool) (hl:l.length≤1000000) (hp:∀x∈l,p x=some (q x)):zdr l p=some (l.any q):=by
 unfold zdr
 rw[zk (zns q hl hp),zi6]
theorem zi2 {l:List zb4} {p:zb4→Option Bool} (q:zb4→Bool) (hl:l.length≤1000000) (hp:∀x∈l,p x=some (q x)):zc6 l p=some (l.any q):=by
 unfold zc6
 rw[zk (znx q hl hp),zi6]
theorem zla {l:List zd0} {p:zd0→Option Bool} (q:zd0→Bool) (hl:l.length≤1000000) (hp:∀x∈l,p x=some (q x)):zdw l p=some (l.any q):=by
 unfold zdw
 rw[zk (zlw q hl hp),zi6]
theorem zjg {l:List zo} {p:zo→Option Bool} (q:zo→Bool) (hl:l.length≤1000000) (hp:∀x∈l,p x=some (q x)):zcz l p=some (l.any q):=by
 unfold zcz
 rw[zk (zfd q hl hp),zi6]
theorem zkz {l:List zp} {p:zp→Option Bool} (q:zp→Bool) (hl:l.length≤1000000) (hp:∀x∈l,p x=some (q x)):zb6 l p=some (l.any q):=by
 unfold zb6
 rw[zk (zlh q hl hp),zi6]
theorem zm9 (n a b:Int):zdu n a b=some (decide (a≤n)&&decide (n≤b)):=by
 unfold zdu
 cases decide (a≤n)<;>rfl

theorem zmg {t:zl} (h:FewT t):zix t=some (validT t):=zha h
theorem zh7 {t:zl} (h:FewT t):zc9 t=some (validT t):=zha h
theorem zmh {g:z8} (h:FewG g):zeg g=some (validG g):=zha h
theorem zds {g:z8} (h:FewG g):zct g=some (validG g):=zha h
theorem zbc8 {s:ByteArray} (h:s.size≤1000000):zlk s=some (nameB s):=zha h
theorem zww {s:ByteArray} (h:s.size≤1000000):zhj s=some (nameB s):=zha h
theorem zbh1 {t:zl} (h:FewT t) (e a b:Int):znk t e a b=some (fitsT t e a b):=zha h
theorem zbgd {t:zl} (h:FewT t) (e a b:Int):zhy t e a b=some (fitsT t e a b):=zha h

def termB (n:Int) (x:zie):Bool:=decide (-1≤x.var)&&(decide (x.var<n)&&(decide (-1000000≤x.add)&&decide (x.add≤1000000)))
def testE (n:Int) (x:zc3):Int:=if x.kind=1∨x.kind=2 then (if (termB n x.left&&termB n x.right)=true then 0 else 6) else 1
def testsE (n:Int) (l:List zc3):Int:=if n<0∨12<n then 6 else if 40<l.length then 3 else errL (testE n) l
theorem zbim (n:Int) (x:zie):zek n x=some (termB n x):=by
 unfold zek termB
 cases decide (-1≤x.var)<;>cases decide (x.var<n)<;>cases decide (-1000000≤x.add)<;>rfl
theorem z6a (n:Int) (x:zie):zcj n x=some (if termB n x=true then 0 else 6):=by
 unfold zcj termB
 simp only[zv,Bool.and_eq_true,decide_eq_true_eq]
 by_cases h1:x.var < -1
 ·rw[if_pos h1,if_neg (by omega)]
 rw[if_neg h1]
 by_cases h2:n≤x.var
 ·rw[if_pos h2,if_neg (by omega)]
 rw[if_neg h2]
 by_cases h3:x.add < -1000000
 ·rw[if_pos h3,if_neg (by omega)]
 rw[if_neg h3]
 by_cases h4:1000000<x.add
 ·rw[if_pos h4,if_neg (by omega)]
 ·rw[if_neg h4,if_pos (by omega)]
theorem zbiu (n:Int) (x:zc3):zhk n x=some (testE n x):=by
 unfold zhk testE
 simp only[zk (zbim n _),zv]
 by_cases h1:x.kind=1
 ·rw[if_pos h1,if_pos (.inl h1)]
  cases termB n x.left<;>cases termB n x.right<;>rfl
 ·rw[if_neg h1]
  by_cases h2:x.kind=2
  ·rw[if_pos h2,if_pos (.inr h2)]
   cases termB n x.left<;>cases termB n x.right<;>rfl
  ·rw[if_neg h2,if_neg (by omega)]
theorem zbh9 (n:Int) (x:zc3):zd8 n x=some (testE n x):=by
 unfold zd8 testE
 simp only[zk (z6a n _),zv]
 by_cases h1:x.kind=1
 ·rw[if_pos h1,if_pos (show x.kind=1∨x.kind=2 from .inl h1)]
  cases termB n x.left<;>cases termB n x.right<;>rfl
 ·rw[if_neg h1]
  by_cases h2:x.kind=2
  ·rw[if_pos h2,if_pos (show x.kind=1∨x.kind=2 from .inr h2)]
   cases termB n x.left<;>cases termB n x.right<;>rfl
  ·rw[if_neg h2,if_neg (show ¬ (x.kind=1∨x.kind=2) by omega)]
theorem zbg3 (n:Int) (l:List zc3) (hl:l.length≤1000000):zgx n l=some (testsE n l):=by
 unfold zgx testsE
 simp only[zv]
 by_cases h1:n<0
 ·rw[if_pos h1,if_pos (.inl h1)]
 rw[if_neg h1]
 by_cases h2:12<n
 ·rw[if_pos h2,if_pos (.inr h2)]
 rw[if_neg h2,if_neg (show ¬ (n<0∨12<n) by omega)]
 by_cases h3:40<l.length
 ·rw[if_pos (show (40:Int)<((l.length:Nat):Int) by omega),if_pos h3]
 rw[if_neg (show ¬ (40:Int)<((l.length:Nat):Int) by omega),if_neg h3,zbw (zbf (by omega))]
 rw[zco l (fun x=>decide (testE n x=0)) (fun x=>some (testE n x)) (fun i hi nxt=>by rw[zbz hi,zk (zbiu n _),←zv])]
 exact zik rfl
theorem zbcb (n:Int) (l:List zc3) (hl:l.length≤1000000):zdn n l=some (testsE n l):=by
 unfold zdn testsE
 simp only[zv]
 by_cases h1:n<0
 ·rw[if_pos h1,if_pos (.inl h1)]
 rw[if_neg h1]
 by_cases h2:12<n
 ·rw[if_pos h2,if_pos (.inr h2)]
 rw[if_neg h2,if_neg (show ¬ (n<0∨12<n) by omega)]
 by_cases h3:40<l.length
 ·rw[if_pos (show (40:Int)<((l.length:Nat):Int) by omega),if_pos h3]
 rw[if_neg (show ¬ (40:Int)<((l.length:Nat):Int) by omega),if_neg h3,zbw (zbf (by omega))]
 rw[zco l (fun x=>decide (testE n x=0)) (fun x=>some (testE n x)) (fun i hi nxt=>by rw[zbz hi,zk (zbh9 n _),←zv])]
 exact zik rfl

def typedB (t:zl) (g:z8):Bool:=g.nodes.all (fun n=>decide (n<t.nodes.length))&&g.edges.all (fun e=>decide (e.type<t.edges.length))
theorem zj9 {α:Type} (l:List α) (p:α→Bool):l.any (fun x=>!p x) = !l.all p:=by
 induction l with
 | nil=>rfl
 | cons a l ih=>simp[ih]
theorem zw1 (t:zl) (l:List Int):(l.any fun n=>decide (((t.nodes.length:Nat):Int)≤n)) = !l.all fun n=>decide (n<t.nodes.length):=by
 rw[←zj9]
 congr 1
 funext n
 by_cases h:n<t.nodes.length
 ·simp[h,Int.not_le.2 h]
 ·simp[h,Int.not_lt.1 h]
theorem zv5 (t:zl) (l:List Edge):(l.any fun e=>decide (((t.edges.length:Nat):Int)≤e.type)) = !l.all fun e=>decide (e.type<t.edges.length):=by
 rw[←zj9]
 congr 1
 funext n
 by_cases h:n.type<t.edges.length
 ·simp[h,Int.not_le.2 h]
 ·simp[h,Int.not_lt.1 h]
theorem zbgb (t:zl) {g:z8} (hg:FewG g):zjj t g=some (typedB t g):=by
 have h1:=hg.nodes
 have h2:=hg.edges
 unfold zjj typedB
 rw[zk (zf4 (p:=fun x=>zia x ⟨t.nodes,t.edges⟩) (fun n=>decide (((t.nodes.length:Nat):Int)≤n)) (by omega) fun x _=>rfl),zk (zi1 (p:=fun x=>zih x ⟨t.nodes,t.edges⟩) (fun e=>decide (((t.edges.length:Nat):Int)≤e.type)) (by omega) fun x _=>rfl)]
 rw[zw1,zv5]
 cases g.nodes.all _<;>simp
theorem OkG.nn {g:z8} (h:OkG g):(∀n∈g.nodes,0≤n)∧∀e∈g.edges,0≤e.type:=by
 refine⟨fun n hn=>?_,fun e he=>?_⟩
 ·obtain⟨j,hj,rfl⟩:=memD hn
  exact (h.kind j hj).1
 ·obtain⟨j,hj,rfl⟩:=memD he
  exact (h.edge j hj).1.1
theorem zzy (t:zl) {g:z8} (hg:OkG g):zeb t g=some (typedB t g):=by
 have h1:=hg.nodes
 have h2:=hg.edges
 obtain⟨h3,h4⟩:=hg.nn
 unfold zeb typedB
 rw[zbw (zbf (by omega)),zbw (zbf (by omega))]
 rw[zco g.nodes (fun n=>decide (n<t.nodes.length)) (fun _=>some false) (fun i hi nxt=>?_),zee]
 ·rw[zco g.edges (fun e=>decide (e.type<t.edges.length)) (fun _=>some false) (fun i hi nxt=>?_),zee]
  ·cases g.nodes.all _<;>cases g.edges.all _<;>rfl
  ·rw[zbz hi]
   have:=h4 _ (List.getElem_mem hi)
   rw[zv,if_neg (by omega),zv,zv]
   by_cases h:g.edges[i].type<t.edges.length
   ·rw[if_pos h,if_neg (by omega)]
   ·rw[if_neg h,if_pos (by omega)]
 ·rw[zbz hi]
  have:=h3 _ (List.getElem_mem hi)
  rw[zv,if_neg (by omega),zv,zv]
  by_cases h:g.nodes[i]<t.nodes.length
  ·rw[if_pos h,if_neg (by omega)]
  ·rw[if_neg h,if_pos (by omega)]

def attrsN (t:zl) (g:z8) (n:Int):List Attr:=attrsAt t (g.nodes.getD n.toNat default).toNat
def slotB (t:zl) (g:z8) (vars:Int) (s:zb4):Bool:=(decide (0≤s.node)&&decide (s.node<g.nodes.length))&&((decide (0≤s.attr)&&decide (s.attr<(attrsN t g s.node).length))&&termB vars s.term)
theorem zkl {t:zl} {g:z8} (h:typedB t g=true) (ho:OkG g) {i:Nat} (hi:i<g.nodes.length):0≤g.nodes[i]∧g.nodes[i]<t.nodes.length:=by
 unfold typedB at h
 rw[Bool.and_eq_true] at h
 have h1:=List.all_eq_true.1 h.1 _ (List.getElem_mem hi)
 exact⟨ho.nn.1 _ (List.getElem_mem hi),of_decide_eq_true h1⟩
theorem z2z {t:zl} (ht:OkT t) {a:Int} (h0:0≤a) (h1:a<t.nodes.length):(attrsAt t a.toNat).length≤1000:=by
 have:=zh1 ht.few (a:=a.toNat) (by omega) (ht.par' (by omega))
 omega
theorem zcn {α:Type} [Inhabited α] {l:List α} {i:Nat} (h:i<l.length):l.getD i default=l[i]:=by simp[h]
theorem z2j {t:zl} (ht:OkT t) {a:Int} (h:0≤a∧a<t.nodes.length):zkb t a=some (attrsAt t a.toNat,0):=zha ⟨ht,h.1,h.2⟩
theorem zyy {t:zl} (ht:OkT t) {a:Int} (h:0≤a∧a<t.nodes.length):zgf t a=some (attrsAt t a.toNat,0):=zha ⟨ht,h.1,h.2⟩
def attrB (t:zl) (g:z8) (n a:Int):Bool:=(decide (0≤n)&&decide (n<g.nodes.length))&&(decide (0≤a)&&decide (a<(attrsN t g n).length))
theorem zbid {t:zl} (ht:OkT t) {p:z7} (hg:OkG p.graph) (hb:typedB t p.graph=true) (s:zb4):∃x,zhh t p s=some (x,attrB t p.graph s.node s.attr):=by
 have h1:=hg.nodes
 unfold zhh attrB
 rw[zk (zm9 _ _ _),wrapI (by omega)]
 have e1:decide (s.node≤((p.graph.nodes.length:Nat):Int) - 1)=decide (s.node<(p.graph.nodes.length:Int)):=by congr 1; exact propext (by omega)
 rw[e1]
 cases hn:decide (0≤s.node) with
 | false=>exact⟨_,rfl⟩
 | true =>
  cases hn2:decide (s.node<(p.graph.nodes.length:Int)) with
  | false=>exact⟨_,rfl⟩
  | true =>
   have hn:=of_decide_eq_true hn
   have hn2:=of_decide_eq_true hn2
   have hi:s.node.toNat<p.graph.nodes.length:=by omega
   have hk:=zkl hb hg hi
   rw[Bool.and_self,cond_true,zi5 hn hi,zk (z2j ht hk),zk (zm9 _ _ _)]
   have hlen:=z2z ht hk.1 hk.2
   simp only[attrsN,zcn hi,Bool.true_and]
   rw[wrapI (by omega)]
   have e2:decide (s.attr≤(((attrsAt t (p.graph.nodes[s.node.toNat]).toNat).length:Nat):Int) - 1)=decide (s.attr<((attrsAt t (p.graph.nodes[s.node.toNat]).toNat).length:Int)):=by congr 1; exact propext (by omega)
   rw[e2]
   cases ha:decide (0≤s.attr) with
   | false=>exact⟨_,rfl⟩
   | true =>
    cases ha2:decide (s.attr<((attrsAt t (p.graph.nodes[s.node.toNat]).toNat).length:Int)) with
    | false=>exact⟨_,rfl⟩
    | true =>
     have ha:=of_decide_eq_true ha
     have ha2:=of_decide_eq_true ha2
     rw[Bool.and_self,cond_true,zi5 ha (by omega)]
     exact⟨_,rfl⟩
theorem zbhn {t:zl} (ht:OkT t) {p:z7} (hg:OkG p.graph) (hb:typedB t p.graph=true) (n a:Int):∃x,zfi t p n a=some (x,attrB t p.graph n a):=by
 unfold zfi attrB
 simp only[zv]
 by_cases hn:n<0
 ·rw[if_pos hn,decide_eq_false (by omega:¬ 0≤n)]; exact⟨_,rfl⟩
 rw[if_neg hn,decide_eq_true (by omega:0≤n)]
 by_cases hn2:(p.graph.nodes.length:Int)≤n
 ·rw[if_pos hn2,decide_eq_false (by omega:¬ n<(p.graph.nodes.length:Int))]; exact⟨_,rfl⟩
 rw[if_neg hn2,decide_eq_true (by omega:n<(p.graph.nodes.length:Int))]
 have hi:n.toNat<p.graph.nodes.length:=by omega
 have hk:=zkl hb hg hi
 rw[zi5 (by omega) hi,zk (zyy ht hk),if_pos rfl]
 simp only[attrsN,zcn hi,Bool.true_and]
 by_cases ha:a<0
 ·rw[if_pos ha,decide_eq_false (by omega:¬ 0≤a)]; exact⟨_,rfl⟩
 rw[if_neg ha,decide_eq_true (by omega:0≤a)]
 by_cases ha2:((attrsAt t (p.graph.nodes[n.toNat]).toNat).length:Int)≤a
 ·rw[if_pos ha2,decide_eq_false (by omega:¬ a<((attrsAt t (p.graph.nodes[n.toNat]).toNat).length:Int))]; exact⟨_,rfl⟩
 rw[if_neg ha2,decide_eq_true (by omega:a<((attrsAt t (p.graph.nodes[n.toNat]).toNat).length:Int)),zi5 (by omega) (by omega)]
 exact⟨_,rfl⟩
theorem zx9 (t:zl) (g:z8) (vars:Int) (s:zb4):slotB t g vars s=(attrB t g s.node s.attr&&termB vars s.term):=by
 unfold slotB attrB
 cases decide (0≤s.node)<;>cases decide (s.node<(g.nodes.length:Int))<;>cases decide (0≤s.attr)<;>cases decide (s.attr<((attrsN t g s.node).length:Int))<;>rfl
end Go.Proofs.YthjgdkloabgcoaaGreat
namespace Go.Proofs.YthjgdkloabgcoaaGreat
open Go.Abs

structure FewP (p:z7):Prop where
 graph:FewG p.graph
 slots:p.slots.length≤15
 tests:p.tests.length≤15
def occB (l:List zb4) (v:Int):Bool:=l.any fun s=>decide (s.term.var=v)
def allOcc (p:z7) (lo:Nat):Bool:=(List.range' lo (p.vars.toNat - lo)).all fun v:Nat=>occB p.slots (v:Int)
def patE (t:zl) (p:z7):Int :=
 if (validT t).2≠0 then (validT t).2 else if validG p.graph≠0 then validG p.graph else if typedB t p.graph=false then 13
 else if p.vars<0∨12<p.vars then 6 else if 10<p.slots.length∨10<p.tests.length then 3
 else if p.slots.all (slotB t p.graph p.vars)=false then 6 else if testsE p.vars p.tests≠0 then testsE p.vars p.tests
 else if allOcc p 0=false then 9 else 0

theorem zbdf (p:z7) (hp:p.slots.length≤1000000) (v:Int):zex p v=some (occB p.slots v):=by
 unfold zex occB
 rw[zbw (zbf (by omega))]
 rw[zco p.slots (fun s=>!decide (s.term.var=v)) (fun _=>some true) (fun i hi nxt=>by
  rw[zbz hi]
  cases decide (p.slots[i].term.var=v)<;>rfl),zee]
 rw[←Bool.not_not (List.any _ _),←List.not_any_eq_all_not]
 simp only[Bool.not_not]
 cases p.slots.any fun s=>decide (s.term.var=v)<;>simp
def usedL (n:Nat) (l:List zb4):List Bool:=(List.range n).map fun v:Nat=>occB l (v:Int)
theorem zvv (n:Nat) (l:List zb4):(usedL n l).length=n:=by simp[usedL]
theorem z5v (n:Nat) (l:List zb4) (s:zb4) (h:s.term.var<n) (h0:0≤s.term.var):(usedL n l).set s.term.var.toNat true=usedL n (l++[s]):=by
 refine List.ext_getElem (by simp[usedL]) fun i h1 h2=>?_
 simp only[usedL,List.getElem_set,List.getElem_map,List.getElem_range,occB,List.any_append,List.any_cons,List.any_nil,Bool.or_false]
 by_cases hi:s.term.var.toNat=i
 ·rw[if_pos hi,decide_eq_true (by omega:s.term.var=(i:Int)),Bool.or_true]
 ·rw[if_neg hi,decide_eq_false (by omega:¬ s.term.var=(i:Int)),Bool.or_false]
theorem z8e (n:Nat) (l:List zb4) (s:zb4) (h0:¬ 0≤s.term.var):usedL n l=usedL n (l++[s]):=by
 refine List.ext_getElem (by simp[usedL]) fun i h1 h2=>?_
 simp only[usedL,List.getElem_map,List.getElem_range,occB,List.any_append,List.any_cons,List.any_nil,Bool.or_false]
 rw[decide_eq_false (by omega:¬ s.term.var=(i:Int)),Bool.or_false]
theorem zua (l:List Bool) (hl:l.length≤1000000):zfk l false=some (!l.all id):=by
 unfold zfk zhl
 rw[zbw (zbf (by omega))]
 rw[zk (zhf l (fun b=>!b) (fun i hi nxt=>by
  rw[zbz hi]
  cases l[i]<;>rfl) rfl),zi6]
 congr 1
 induction l with
 | nil=>rfl
 | cons a l ih =>
  simp only[List.length_cons] at hl
  rw[List.any_cons,List.all_cons,ih (by omega)]
  cases a<;>simp
theorem z6u (n:Nat) (l:List zb4):(usedL n l).all id=(List.range n).all fun v:Nat=>occB l (v:Int):=by
 unfold usedL
 rw[List.all_map]
 rfl
theorem z9x {t:zl} {g:z8} {n:Int} {s:zb4} (h:slotB t g n s=true) : -1≤s.term.var∧s.term.var<n:=by
 unfold slotB termB at h
 simp only[Bool.and_eq_true,decide_eq_true_eq] at h
 omega
theorem z40 {f : Nat → List Bool → (List Bool → Option Int) → (List Bool → Option Int) → Option Int} {K : List Bool → Option Int} (l : List zb4) (n : Nat) (p : zb4 → Bool) (hp : ∀ s ∈ l, p s = true → s.term.var < n)
  (h:∀i (hi:i<l.length) s nxt,s.length=n→f i s nxt K=cond (p l[i]) (if 0≤l[i].term.var then nxt (s.set l[i].term.var.toNat true) else nxt s) (some 6)) :
  forN f (l.length - 0) 0 (usedL n []) K=if l.all p=false then some 6 else K (usedL n l):=by
 have key:∀ (k i:Nat),i+k=l.length→forN f k i (usedL n (l.take i)) K=if (l.drop i).all p=false then some 6 else K (usedL n l):=by
  intro k
  induction k with
  | zero =>
   intro i hk
   rw[List.drop_eq_nil_of_le (by omega),List.take_of_length_le (by omega)]
   rfl
  | succ k ih =>
   intro i hk
   have hi:i<l.length:=by omega
   rw[forN,h i hi _ _ (zvv _ _),List.drop_eq_getElem_cons hi,List.all_cons]
   cases hq:p l[i] with
   | false=>simp
   | true =>
    have h1:=ih (i+1) (by omega)
    rw[List.take_add_one,List.getElem?_eq_getElem hi,Option.toList_some] at h1
    rw[cond_true,Bool.true_and]
    split
    ·rename_i h0
     rw[z5v n _ _ (hp _ (List.getElem_mem hi) hq) h0]
     exact h1
    ·rename_i h0
     rw[z8e n _ _ h0]
     exact h1
 have:=key (l.length - 0) 0 (by omega)
 simpa using this
theorem zh3 {t:zl} (hf:FewT t) {p:z7} (hp:FewP p):zfe t p=some (patE t p):=by
 have hs:=hp.slots
 have hts:=hp.tests
 have hgn:=hp.graph.nodes
 have hge:=hp.graph.edges
 unfold zfe patE
 rw[zk (zmg hf),zv]
 by_cases h1:¬ ((validT t).2=0)
 ·rw[if_neg h1,if_pos h1]
 have h1:(validT t).2=0:=Decidable.of_not_not h1
 have ht:=okTypes hf h1
 rw[if_pos h1,if_neg (by simp[h1]),zk (zmh hp.graph),zv]
 by_cases h2:¬ (validG p.graph=0)
 ·rw[if_neg h2,if_pos h2]
 have h2:validG p.graph=0:=Decidable.of_not_not h2
 have hg:=okG h2
 rw[if_pos h2,if_neg (by simp[h2])]
 rw[zk (zf4 (p:=fun x=>zgj x t) (fun n=>decide (((t.nodes.length:Nat):Int)≤n)) (by omega) fun x _=>rfl),zk (zi1 (p:=fun x=>zgi x t) (fun e=>decide (((t.edges.length:Nat):Int)≤e.type)) (by omega) fun x _=>rfl)]
 rw[zw1,zv5]
 by_cases h3:typedB t p.graph=false
 ·rw[if_pos h3]
  unfold typedB at h3
  revert h3
  cases p.graph.nodes.all _<;>cases p.graph.edges.all _<;>simp
 rw[if_neg h3]
 have h3:typedB t p.graph=true:=by simpa using h3
 have h3':=h3
 unfold typedB at h3'
 rw[Bool.and_eq_true] at h3'
 rw[h3'.1,h3'.2,Bool.not_true,cond_false,cond_false,zk (zm9 _ _ _)]
 by_cases h4:p.vars<0∨12<p.vars
 ·rw[if_pos h4]
  have:(decide (0≤p.vars)&&decide (p.vars≤12))=false:=by
   rw[Bool.and_eq_false_iff]
   rcases h4 with h4 | h4
   ·exact .inl (decide_eq_false (by omega))
   ·exact .inr (decide_eq_false (by omega))
  rw[this]; rfl
 rw[if_neg h4]
 obtain⟨n,hn⟩:∃n:Nat,p.vars=n:=⟨p.vars.toNat,by omega⟩
 rw[decide_eq_true (by omega:0≤p.vars),decide_eq_true (by omega:p.vars≤12),Bool.and_self,cond_true,zv,zv]
 by_cases h5:10<p.slots.length
 ·rw[if_pos (show (10:Int)<((p.slots.length:Nat):Int) by omega),if_pos (show 10<p.slots.length∨10<p.tests.length from .inl h5)]
 rw[if_neg (show ¬ (10:Int)<((p.slots.length:Nat):Int) by omega)]
 by_cases h6:10<p.tests.length
 ·rw[if_pos (show (10:Int)<((p.tests.length:Nat):Int) by omega),if_pos (show 10<p.slots.length∨10<p.tests.length from .inr h6)]
 rw[if_neg (show ¬ (10:Int)<((p.tests.length:Nat):Int) by omega),if_neg (show ¬ (10<p.slots.length∨10<p.tests.length) by omega),zbw (by omega),zbw (zbf (by omega))]
 have e0:List.replicate p.vars.toNat false=usedL n []:=by
  rw[hn,Int.toNat_natCast]
  refine List.ext_getElem (by simp[usedL]) fun i h1 h2=>?_
  simp[usedL,occB]
 rw[e0,z40 p.slots n (slotB t p.graph p.vars) (fun s _ h=>by have:=(z9x h).2; omega) (fun i hi s nxt hl=>?_)]
 ·by_cases h7:p.slots.all (slotB t p.graph p.vars)=false
  ·rw[if_pos h7,if_pos h7]
  rw[if_neg h7,if_neg h7,zk (zbg3 _ _ (by omega)),zv]
  by_cases h8:¬ (testsE p.vars p.tests=0)
  ·rw[if_neg h8,if_pos h8]
  have h8:testsE p.vars p.tests=0:=Decidable.of_not_not h8
  rw[if_pos h8,if_neg (by simp[h8]),zk (zua _ (by rw[zvv]; omega)),z6u]
  have e1:((List.range n).all fun v:Nat=>occB p.slots (v:Int))=allOcc p 0:=by
   unfold allOcc
   rw[hn,Int.toNat_natCast,Nat.sub_zero,List.range_eq_range']
  rw[e1]
  cases allOcc p 0<;>rfl
 ·rw[zbz hi]
  obtain⟨x,hx⟩:=zbid ht hg h3 p.slots[i]
  rw[zk hx,zx9]
  simp only
  cases ha:attrB t p.graph p.slots[i].node p.slots[i].attr with
  | false=>rfl
  | true =>
   rw[cond_true,zk (zm9 _ _ _),wrapI (by omega),zk (zm9 _ _ _),Bool.true_and]
   unfold termB
   have e2:decide (p.slots[i].term.var≤p.vars - 1)=decide (p.slots[i].term.var<p.vars):=by congr 1; exact propext (by omega)
   rw[e2,zv]
   cases hv1:decide (-1≤p.slots[i].term.var) with
   | false=>rfl
   | true =>
    cases hv2:decide (p.slots[i].term.var<p.vars) with
    | false=>rfl
    | true =>
     have hv2:=of_decide_eq_true hv2
     cases decide (-1000000≤p.slots[i].term.add)<;>cases decide (p.slots[i].term.add≤1000000)<;>try rfl
     simp only[Bool.and_self,cond_true]
     split
     ·rename_i h0
      rw[zi5 h0 (by rw[hl]; omega)]
     ·rfl
theorem zgu {t:zl} (hf:FewT t) {p:z7} (hp:FewP p):zcs t p=some (patE t p):=by
 have hs:=hp.slots
 have hts:=hp.tests
 unfold zcs patE
 rw[zk (zh7 hf),zv]
 by_cases h1:¬ ((validT t).2=0)
 ·rw[if_neg h1,if_pos h1]
 have h1:(validT t).2=0:=Decidable.of_not_not h1
 have ht:=okTypes hf h1
 rw[if_pos h1,if_neg (by simp[h1]),zk (zds hp.graph),zv]
 by_cases h2:¬ (validG p.graph=0)
 ·rw[if_neg h2,if_pos h2]
 have h2:validG p.graph=0:=Decidable.of_not_not h2
 have hg:=okG h2
 rw[if_pos h2,if_neg (by simp[h2]),zk (zzy t hg)]
 cases h3:typedB t p.graph with
 | false=>rfl
 | true =>
 rw[cond_true,if_neg (by simp)]
 simp only[zv]
 by_cases h4:p.vars<0
 ·rw[if_pos h4,if_pos (show p.vars<0∨12<p.vars from .inl h4)]
 rw[if_neg h4]
 by_cases h4':12<p.vars
 ·rw[if_pos h4',if_pos (show p.vars<0∨12<p.vars from .inr h4')]
 rw[if_neg h4',if_neg (show ¬ (p.vars<0∨12<p.vars) by omega)]
 obtain⟨n,hn⟩:∃n:Nat,p.vars=n:=⟨p.vars.toNat,by omega⟩
 by_cases h5:10<p.slots.length
 ·rw[if_pos (show (10:Int)<((p.slots.length:Nat):Int) by omega),if_pos (show 10<p.slots.length∨10<p.tests.length from .inl h5)]
 rw[if_neg (show ¬ (10:Int)<((p.slots.length:Nat):Int) by omega)]
 by_cases h6:10<p.tests.length
 ·rw[if_pos (show (10:Int)<((p.tests.length:Nat):Int) by omega),if_pos (show 10<p.slots.length∨10<p.tests.length from .inr h6)]
 rw[if_neg (show ¬ (10:Int)<((p.tests.length:Nat):Int) by omega),if_neg (show ¬ (10<p.slots.length∨10<p.tests.length) by omega),zbw (zbf (by omega))]
 rw[zco p.slots (slotB t p.graph p.vars) (fun _=>some 6) (fun i hi nxt=>?_),zee]
 ·cases h7:p.slots.all (slotB t p.graph p.vars) with
  | false=>rfl
  | true =>
  rw[if_pos rfl,if_neg (by simp),zk (zbcb _ _ (by omega))]
  by_cases h8:¬ (testsE p.vars p.tests=0)
  ·rw[if_neg h8,if_pos h8]
  have h8:testsE p.vars p.tests=0:=Decidable.of_not_not h8
  rw[if_pos h8,if_neg (by simp[h8]),zbw (zbf (by omega))]
  rw[zk1 (fun v:Nat=>occB p.slots (v:Int)) (fun _=>some 9) (fun j hj nxt=>by rw[zk (zbdf _ (by simp only; omega) _)])]
  rw[zee]
  unfold allOcc
  rw[Nat.sub_zero,←List.range_eq_range']
  cases (List.range p.vars.toNat).all fun v:Nat=>occB p.slots (v:Int)<;>rfl
 ·rw[zbz hi]
  obtain⟨x,hx⟩:=zbhn ht hg h3 p.slots[i].node p.slots[i].attr
  rw[zk hx,zx9]
  simp only
  cases ha:attrB t p.graph p.slots[i].node p.slots[i].attr with
  | false=>rfl
  | true =>
   rw[cond_true,Bool.true_and]
   unfold termB zf6
   by_cases hv1:p.slots[i].term.var < -1
   ·rw[if_pos hv1,decide_eq_false (by omega:¬ -1≤p.slots[i].term.var)]; rfl
   rw[if_neg hv1,decide_eq_true (by omega : -1≤p.slots[i].term.var)]
   by_cases hv2:p.vars≤p.slots[i].term.var
   ·rw[if_pos hv2,decide_eq_false (by omega:¬ p.slots[i].term.var<p.vars)]; rfl
   rw[if_neg hv2,decide_eq_true (by omega:p.slots[i].term.var<p.vars)]
   cases decide (-1000000≤p.slots[i].term.add)<;>cases decide (p.slots[i].term.add≤1000000)<;>rfl
end Go.Proofs.YthjgdkloabgcoaaGreat
namespace Go.Proofs.YthjgdkloabgcoaaGreat
open Go.Abs

def sameSlot (s y:zb4):Bool:=decide (y.node=s.node)&&decide (y.attr=s.attr)
def slotRS (t:zl) (r:z7) (i:Nat) (s:zb4):Int:=if slotB t r.graph r.vars s=false then 6 else if (r.slots.take i).any (sameSlot s)=true then 5 else 0
def slotRE (t:zl) (r:z7) (i:Nat):Int:=match r.slots[i]? with
 | none=>0
 | some s=>slotRS t r i s
def rightE (t:zl) (r:zu):Int :=
 if validG r.right.graph≠0 then validG r.right.graph else if typedB t r.right.graph=false then 13 else if r.right.vars≠r.left.vars then 1
 else if 0<r.right.tests.length then 1 else if 10<r.right.slots.length then 3 else errL (slotRE t r.right) (List.range r.right.slots.length)
theorem zv8 {t:zl} {r:z7} {i:Nat} (hi:i<r.slots.length):slotRE t r i=slotRS t r i r.slots[i]:=by
 unfold slotRE; rw[List.getElem?_eq_getElem hi]
theorem z2k {α:Type} {l:List α} {i:Nat} (h:i<l.length):atZ l (i:Int)=some l[i]:=by
 unfold atZ; rw[if_pos (by omega)]; simp[h]
theorem zuk {α : Type} (t : zl) (g : z8) (hg : OkG g) (hb : typedB t g = true) (vars : Int) (s : zb4) (F G : α) :
  (if s.node<0 then F else if (g.nodes.length:Int)≤s.node then F else if s.attr<0 then F else if ((attrsN t g s.node).length:Int)≤s.attr then F else if s.term.var < -1 then F else if vars≤s.term.var then F else if s.term.add < -1000000 then F else if 1000000<s.term.add then F else G)=if slotB t g vars s=false then F else G:=by
 unfold slotB termB
 by_cases h1:s.node<0
 ·rw[if_pos h1,decide_eq_false (by omega:¬ 0≤s.node)]; simp
 rw[if_neg h1,decide_eq_true (by omega:0≤s.node)]
 by_cases h2:(g.nodes.length:Int)≤s.node
 ·rw[if_pos h2,decide_eq_false (by omega:¬ s.node<(g.nodes.length:Int))]; simp
 rw[if_neg h2,decide_eq_true (by omega:s.node<(g.nodes.length:Int))]
 by_cases h3:s.attr<0
 ·rw[if_pos h3,decide_eq_false (by omega:¬ 0≤s.attr)]; simp
 rw[if_neg h3,decide_eq_true (by omega:0≤s.attr)]
 by_cases h4:((attrsN t g s.node).length:Int)≤s.attr
 ·rw[if_pos h4,decide_eq_false (by omega:¬ s.attr<((attrsN t g s.node).length:Int))]; simp
 rw[if_neg h4,decide_eq_true (by omega:s.attr<((attrsN t g s.node).length:Int))]
 by_cases h5:s.term.var < -1
 ·rw[if_pos h5,decide_eq_false (by omega:¬ -1≤s.term.var)]; simp
 rw[if_neg h5,decide_eq_true (by omega : -1≤s.term.var)]
 by_cases h6:vars≤s.term.var
 ·rw[if_pos h6,decide_eq_false (by omega:¬ s.term.var<vars)]; simp
 rw[if_neg h6,decide_eq_true (by omega:s.term.var<vars)]
 by_cases h7:s.term.add < -1000000
 ·rw[if_pos h7,decide_eq_false (by omega:¬ -1000000≤s.term.add)]; simp
 rw[if_neg h7,decide_eq_true (by omega : -1000000≤s.term.add)]
 by_cases h8:1000000<s.term.add
 ·rw[if_pos h8,decide_eq_false (by omega:¬ s.term.add≤1000000)]; simp
 rw[if_neg h8,decide_eq_true (by omega:s.term.add≤1000000)]; simp
theorem z1r {t:zl} (ht:OkT t) {r:zu} (hg:OkG r.right.graph) (hb:typedB t r.right.graph=true) (hs:r.right.slots.length≤15) {i:Nat} (hi:i<r.right.slots.length):zj7 t r (i:Int)=some (slotRE t r.right i):=by
 rw[zv8 hi]
 unfold zj7
 rw[zk (z2k hi)]
 generalize r.right.slots[i]=s
 unfold slotRS
 simp only[zv]
 rw[←zuk t r.right.graph hg hb r.right.vars s]
 by_cases h1:s.node<0
 ·rw[if_pos h1,if_pos h1]
 rw[if_neg h1,if_neg h1]
 by_cases h2:(r.right.graph.nodes.length:Int)≤s.node
 ·rw[if_pos h2,if_pos h2]
 rw[if_neg h2,if_neg h2]
 have hi2:s.node.toNat<r.right.graph.nodes.length:=by omega
 rw[zi5 (by omega) hi2,zk (z2j ht (zkl hb hg hi2))]
 rw[zbw (by omega),zk (zi2 (p:=fun x=>zhq x s) (sameSlot s) (by simp; omega) fun x _=>by
  unfold zhq sameSlot
  cases decide (x.node=s.node)<;>rfl)]
 simp only[attrsN,zcn hi2,Int.toNat_natCast]
 split<;>try rfl
 split<;>try rfl
 split<;>try rfl
 split<;>try rfl
 split<;>try rfl
 split<;>try rfl
 cases (r.right.slots.take i).any (sameSlot s)<;>rfl
theorem zxw {t:zl} (ht:OkT t) {r:z7} (hg:OkG r.graph) (hb:typedB t r.graph=true) (hs:r.slots.length≤15) {i:Nat} (hi:i<r.slots.length):zdx t r (i:Int)=some (slotRE t r i):=by
 rw[zv8 hi]
 unfold zdx
 rw[zk (z2k hi)]
 generalize r.slots[i]=s
 unfold slotRS
 simp only[zv]
 rw[←zuk t r.graph hg hb r.vars s]
 by_cases h1:s.node<0
 ·rw[if_pos h1,if_pos h1]
 rw[if_neg h1,if_neg h1]
 by_cases h2:(r.graph.nodes.length:Int)≤s.node
 ·rw[if_pos h2,if_pos h2]
 rw[if_neg h2,if_neg h2]
 have hi2:s.node.toNat<r.graph.nodes.length:=by omega
 rw[zi5 (by omega) hi2,zk (zyy ht (zkl hb hg hi2)),Int.toNat_natCast,zbw (zbf (by omega))]
 have hl:(r.slots.take i).length=i:=by simp; omega
 have key:=zco (f:=fun i2314 (s2314:Unit) nxts2314 brks2314=>thn (r.slots[i2314]?) fun e2318=>if e2318.node=s.node then (if e2318.attr=s.attr then some 5 else nxts2314 ()) else nxts2314 ()) (K:=fun _=>some (0:Int)) (r.slots.take i) (fun y=>!sameSlot s y) (fun _=>some 5) (fun j hj nxt=>by
  have hj2:j<r.slots.length:=by omega
  rw[zbz hj2,List.getElem_take]
  unfold sameSlot
  by_cases c1:r.slots[j].node=s.node
  ·by_cases c2:r.slots[j].attr=s.attr<;>simp[c1,c2]
  ·simp[c1])
 rw[hl] at key
 rw[key,zee]
 simp only[attrsN,zcn hi2]
 split<;>try rfl
 split<;>try rfl
 split<;>try rfl
 split<;>try rfl
 split<;>try rfl
 split<;>try rfl
 rw[←Bool.not_not (List.any _ _),←List.not_any_eq_all_not]
 simp only[Bool.not_not]
 cases (r.slots.take i).any (sameSlot s)<;>simp
structure zps (r:zu):Prop where
 name:r.name.size≤60
 left:FewP r.left
 right:FewP r.right
 keep:r.keep.nodes.length+r.keep.edges.length≤140
 into:r.into.nodes.length+r.into.edges.length≤140
theorem zzm {t:zl} (ht:OkT t) {r:zu} (hr:zps r):zjq t r=some (rightE t r):=by
 have hs:=hr.right.slots
 have hts:=hr.right.tests
 unfold zjq rightE
 rw[zk (zmh hr.right.graph),zv]
 by_cases h1:¬ (validG r.right.graph=0)
 ·rw[if_neg h1,if_pos h1]
 have h1:validG r.right.graph=0:=Decidable.of_not_not h1
 have hg:=okG h1
 rw[if_pos h1,if_neg (by simp[h1]),zk (zbgb t hr.right.graph)]
 cases h2:typedB t r.right.graph with
 | false=>rfl
 | true =>
 rw[cond_true,if_neg (by simp)]
 simp only[zv]
 by_cases h3:¬ (r.right.vars=r.left.vars)
 ·rw[if_neg h3,if_pos h3]
 have h3:r.right.vars=r.left.vars:=Decidable.of_not_not h3
 rw[if_pos h3,if_neg (show ¬ (r.right.vars≠r.left.vars) from fun h=>h h3)]
 by_cases h4:0<r.right.tests.length
 ·rw[if_pos (show (0:Int)<((r.right.tests.length:Nat):Int) by omega),if_pos h4]
 rw[if_neg (show ¬ (0:Int)<((r.right.tests.length:Nat):Int) by omega),if_neg h4]
 by_cases h5:10<r.right.slots.length
 ·rw[if_pos (show (10:Int)<((r.right.slots.length:Nat):Int) by omega),if_pos h5]
 rw[if_neg (show ¬ (10:Int)<((r.right.slots.length:Nat):Int) by omega),if_neg h5,zbw (zbf (by omega))]
 rw[zk1 (fun j=>decide (slotRE t r.right j=0)) (fun j=>some (slotRE t r.right j)) (fun j hj nxt=>by rw[zk (z1r (r:=r) ht hg h2 hs hj),zv])]
 exact zik rfl
theorem zqr {t:zl} (ht:OkT t) {r:zu} (hr:zps r):zdp t r=some (rightE t r):=by
 have hs:=hr.right.slots
 have hts:=hr.right.tests
 unfold zdp rightE
 rw[zk (zds hr.right.graph),zv]
 by_cases h1:¬ (validG r.right.graph=0)
 ·rw[if_neg h1,if_pos h1]
 have h1:validG r.right.graph=0:=Decidable.of_not_not h1
 have hg:=okG h1
 rw[if_pos h1,if_neg (by simp[h1]),zk (zzy t hg)]
 cases h2:typedB t r.right.graph with
 | false=>rfl
 | true =>
 rw[cond_true,if_neg (by simp)]
 simp only[zv]
 by_cases h3:¬ (r.right.vars=r.left.vars)
 ·rw[if_neg h3,if_pos h3]
 have h3:r.right.vars=r.left.vars:=Decidable.of_not_not h3
 rw[if_pos h3,if_neg (show ¬ (r.right.vars≠r.left.vars) from fun h=>h h3)]
 by_cases h4:0<r.right.tests.length
 ·rw[if_pos (show (0:Int)<((r.right.tests.length:Nat):Int) by omega),if_pos h4]
 rw[if_neg (show ¬ (0:Int)<((r.right.tests.length:Nat):Int) by omega),if_neg h4]
 by_cases h5:10<r.right.slots.length
 ·rw[if_pos (show (10:Int)<((r.right.slots.length:Nat):Int) by omega),if_pos h5]
 rw[if_neg (show ¬ (10:Int)<((r.right.slots.length:Nat):Int) by omega),if_neg h5,zbw (zbf (by omega))]
 rw[zk1 (fun j=>decide (slotRE t r.right j=0)) (fun j=>some (slotRE t r.right j)) (fun j hj nxt=>by rw[zk (zxw ht hg h2 hs hj),zv])]
 exact zik rfl
theorem zwf {t:zl} {r:zu} (h:rightE t r=0):OkG r.right.graph∧typedB t r.right.graph=true:=by
 unfold rightE at h
 split at h
 ·rename_i h1; exact absurd h h1
 split at h
 ·cases h
 rename_i h1 h2
 exact⟨okG (Decidable.of_not_not h1),by simpa using h2⟩

structure AscL (l:List Int) (n:Int):Prop where
 range:∀x∈l,0≤x∧x<n
 asc:l.Pairwise (· < ·)
def ascAt (l:List Int) (n:Int) (i:Nat):Int:=match l[i]? with
 | none=>0
 | some x=>if x<0 then 6 else if n≤x then 6 else if 0<i then (if x≤l.getD (i - 1) 0 then 12 else 0) else 0
def ascE (l:List Int) (n:Int):Int:=errL (ascAt l n) (List.range l.length)
theorem zx5 (l:List Int) (n:Int) (hl:l.length≤1000000):zg0 l n=some (ascE l n):=by
 unfold zg0 ascE
 rw[zbw (zbf (by omega))]
 rw[zk1 (fun j=>decide (ascAt l n j=0)) (fun j=>some (ascAt l n j)) (fun j hj nxt=>?_)]
 ·exact zik rfl
 ·rw[zbz hj,zv]
  unfold ascAt
  simp only[zv,List.getElem?_eq_getElem hj]
  by_cases h1:l[j]<0
  ·rw[if_pos h1,if_pos h1]; rfl
  rw[if_neg h1,if_neg h1]
  by_cases h2:n≤l[j]
  ·rw[if_pos h2,if_pos h2]; rfl
  rw[if_neg h2,if_neg h2]
  by_cases h3:0<j
  ·rw[if_pos (show (0:Int)<((j:Nat):Int) by omega),if_pos h3]
   have hw:IntKind.i64.wrap (((j:Nat):Int) - 1)=((j - 1:Nat):Int):=by rw[wrapI (by omega)]; omega
   have hj1:j - 1<l.length:=by omega
   rw[hw,zi5 (by omega) (by simpa using hj1)]
   simp only[Int.toNat_natCast]
   have:l.getD (j - 1) 0=l[j - 1]:=by simp[hj1]
   rw[this]
   by_cases h4:l[j]≤l[j - 1]
   ·rw[if_pos h4,if_pos h4]; rfl
   ·rw[if_neg h4,if_neg h4]; rfl
  ·rw[if_neg (show ¬ (0:Int)<((j:Nat):Int) by omega),if_neg h3]; rfl
theorem z2l (l:List Int) (n:Int) (hl:l.length≤1000000):zc2 l n=some (ascE l n):=zx5 l n hl
theorem ascL {l:List Int} {n:Int} (h:ascE l n=0):AscL l n:=by
 have h1:=zlv.1 h
 have h2:∀i (hi:i<l.length),(0≤l[i]∧l[i]<n)∧(0<i→l.getD (i - 1) 0<l[i]):=fun i hi=>by
  have:=h1 i (List.mem_range.2 hi)
  unfold ascAt at this
  simp only[List.getElem?_eq_getElem hi] at this
  split at this
  ·cases this
  split at this
  ·cases this
  refine⟨by omega,fun h0=>?_⟩
  rw[if_pos h0] at this
  split at this
  ·cases this
  ·omega
 refine⟨fun x hx=>?_,?_⟩
 ·obtain⟨i,hi,rfl⟩:=List.mem_iff_getElem.1 hx
  exact (h2 i hi).1
 ·rw[List.pairwise_iff_getElem]
  intro i j hi hj hij
  induction j with
  | zero=>omega
  | succ j ih =>
   have h3:=(h2 (j+1) hj).2 (by omega)
   have hj':j<l.length:=by omega
   have e:l.getD (j+1 - 1) 0=l[j]:=by simp[hj']
   rw[e] at h3
   rcases Nat.lt_or_ge i j with h4 | h4
   ·have:=ih hj' h4; omega
   ·have:i=j:=by omega
    subst this
    exact h3
end Go.Proofs.YthjgdkloabgcoaaGreat
namespace Go.Proofs.YthjgdkloabgcoaaGreat
open Go.Abs

def posA (l:List Int) (x:Int):Nat:=l.countP fun y=>decide (y<x)
theorem zbhj (l:List Int) (x:Int):posA l x≤l.length:=List.countP_le_length
theorem zmv {l:List Int} (h:l.Pairwise (· < ·)) (x:Int):∀i (hi:i<l.length),(i<posA l x↔l[i]<x):=by
 unfold posA
 induction l with
 | nil=>intro i hi; simp at hi
 | cons a l ih =>
  rw[List.pairwise_cons] at h
  intro i hi
  rw[List.countP_cons]
  cases i with
  | zero =>
   simp only[List.getElem_cons_zero]
   by_cases ha:a<x
   ·simp[ha]
   ·have:l.countP (fun y=>decide (y<x))=0:=by
     rw[List.countP_eq_zero]
     intro y hy
     have:=h.1 y hy
     simp; omega
    simp[ha,this]
  | succ i =>
   simp only[List.getElem_cons_succ]
   simp only[List.length_cons] at hi
   rw[←ih h.2 i (by omega)]
   by_cases ha:a<x
   ·simp[ha]
   ·have h1:l.countP (fun y=>decide (y<x))=0:=by
     rw[List.countP_eq_zero]
     intro y hy
     have:=h.1 y hy
     simp; omega
    simp[ha,h1]
theorem ztf {l:List Int} (h:l.Pairwise (· < ·)) {x:Int} (hx:x∈l):∃hi:posA l x<l.length,l[posA l x]=x:=by
 obtain⟨i,hi,rfl⟩:=List.mem_iff_getElem.1 hx
 have e:posA l l[i]=i:=by
  rcases Nat.lt_trichotomy (posA l l[i]) i with h1 | h1 | h1
  ·have h2:=zmv h l[i] (posA l l[i]) (by omega)
   have h3:=(List.pairwise_iff_getElem.1 h) _ i (by omega) hi h1
   have:=h2.2 h3
   omega
  ·exact h1
  ·have:=(zmv h l[i] i hi).1 h1
   omega
 exact⟨by rw[e]; exact hi,by simp only[e]⟩
theorem zbdn (a:Int):zgz a=some false:=by simp[zgz]
theorem z76 (a:Int):zfv a=some false:=by simp[zfv]
theorem zbf8 (a b:Int):zif a b=some (decide (a<b)):=by
 unfold zif
 rw[zk (zbdn a)]; rfl
theorem zbfh {m:Int} (h:0≤m∧m≤4000000):IntKind.i64.wrap ((IntKind.u64.wrap (IntKind.i64.wrap m)).fdiv (2 ^ 1))=m / 2:=by
 rw[wrapI (n:=m) (by omega),IntWalk.u64_in m (by omega)]
 have e:m.fdiv (2 ^ 1)=m / 2:=by
  rw[Int.fdiv_eq_ediv_of_nonneg _ (by decide)]
  rfl
 rw[e,wrapI (by omega)]
theorem zry {l:List Int} (h:l.Pairwise (· < ·)) (hl:l.length≤1000) (x:Int):zdc l x=some ((posA l x:Int),decide (x∈l)):=by
 refine Ok.eq ?_
 have hple:=zbhj l x
 unfold zdc
 refine zlo (fun s:Int×Int=>0≤s.1∧s.1≤posA l x∧(posA l x:Int)≤s.2∧s.2≤l.length) (fun s:Int×Int=>(s.2 - s.1).toNat) ⟨by simp,by simp,by simp; omega,by simp⟩ (by unfold fuel; simp; omega) ?_
 rintro⟨i,j⟩ nxt ⟨h1,h2,h3,h4⟩ hn
 simp only at h1 h2 h3 h4 hn ⊢
 refine zb3 (fun hc=>?_) (fun hc=>?_)
 ·have hc':=of_decide_eq_true hc
  rw[zbfh (by omega)]
  have b1:i≤(i+j) / 2:=by omega
  have b2:(i+j) / 2<j:=by omega
  have hi:((i+j) / 2).toNat<l.length:=by omega
  have hs:=zmv h x ((i+j) / 2).toNat hi
  refine zjk (by omega) hi ?_
  refine zef (zbf8 _ _) ?_
  refine zb3 (fun hd=>?_) (fun hd=>?_)
  ·have:=hs.2 (of_decide_eq_true hd)
   rw[wrapI (by omega)]
   exact hn _ ⟨by simp only; omega,by simp only; omega,h3,h4⟩ (by simp only; omega)
  ·have hd':=of_decide_eq_false hd
   have:¬ ((i+j) / 2).toNat<posA l x:=fun h=>hd' (hs.1 h)
   exact hn _ ⟨h1,h2,by simp only; omega,by simp only; omega⟩ (by simp only; omega)
 ·have hc':=of_decide_eq_false hc
  have hi:i=posA l x:=by omega
  subst hi
  refine zb3 (fun hd=>?_) (fun hd=>?_)
  ·have hd':=of_decide_eq_true hd
   have hlt:posA l x<l.length:=by omega
   refine zjk (by omega) (by simpa using hlt) ?_
   simp only[Int.toNat_natCast]
   refine zb3 (fun he=>?_) (fun he=>?_)
   ·have he':=of_decide_eq_true he
    refine .mk ?_
    rw[decide_eq_true (he' ▸ List.getElem_mem hlt)]
   ·have he':=of_decide_eq_false he
    refine zef (z76 _) ?_
    refine ok_f rfl (.mk ?_)
    rw[decide_eq_false fun hm=>?_]
    obtain⟨_,hq⟩:=ztf h hm
    exact he' hq
  ·have hd':=of_decide_eq_false hd
   refine .mk ?_
   rw[decide_eq_false fun hm=>?_]
   obtain⟨hq,_⟩:=ztf h hm
   omega
theorem z61 {l:List Int} (h:l.Pairwise (· < ·)) (hl:l.length≤1000) (x:Int):zfy l x=some (decide (x∈l)):=by
 unfold zfy
 rw[zk (zry h hl x)]
theorem zsg (l:List Int) (x:Int):(l.any fun y=>decide (y=x))=decide (x∈l):=by
 by_cases h:x∈l
 ·rw[decide_eq_true h,List.any_eq_true]
  exact⟨x,h,by simp⟩
 ·rw[decide_eq_false h]
  rw[Bool.eq_false_iff]
  intro h2
  obtain⟨y,hy,he⟩:=List.any_eq_true.1 h2
  exact h (of_decide_eq_true he ▸ hy)
theorem zkp {l:List Int} (hl:l.length≤1000000) (x:Int):zdl l x=some (decide (x∈l)):=by
 unfold zdl
 rw[zbw (zbf (by omega))]
 rw[zco l (fun y=>!decide (y=x)) (fun _=>some true) (fun i hi nxt=>by
  rw[zbz hi]
  cases decide (l[i]=x)<;>rfl),zee]
 rw[←zsg,←Bool.not_not (List.any _ _),←List.not_any_eq_all_not]
 simp only[Bool.not_not]
 cases l.any fun y=>decide (y=x)<;>simp
theorem zpc {l:List Int} (hl:l.length≤1000000) (x:Int):zft l x=some (decide (x∈l)):=by
 unfold zft
 rw[zbw (zbf (by omega))]
 rw[zco l (fun y=>!decide (y=x)) (fun _=>some true) (fun i hi nxt=>by
  rw[zbz hi]
  cases decide (l[i]=x)<;>rfl),zee]
 rw[←zsg,←Bool.not_not (List.any _ _),←List.not_any_eq_all_not]
 simp only[Bool.not_not]
 cases l.any fun y=>decide (y=x)<;>simp
theorem zza {l:List Int} (h:l.Pairwise (· < ·)) (hl:l.length≤1000) {x:Int} (hx:x∈l):zec l x=some (posA l x:Int):=by
 unfold zec
 rw[zbw (zbf (by omega))]
 rw[zhf l (fun y=>decide (y=x)) (fun i hi nxt=>by rw[zbz hi]) rfl]
 obtain⟨hi,he⟩:=ztf h hx
 unfold idxQ
 have:l.findIdx? (fun y=>decide (y=x))=some (posA l x):=by
  rw[List.findIdx?_eq_some_iff_getElem]
  refine⟨hi,by simp[he],fun j hj=>?_⟩
  have:=(zmv h x j (by omega)).1 hj
  simp; omega
 rw[this]

structure zui (g:z8) (p:zdb):Prop where
 nodes:AscL p.nodes g.nodes.length
 edges:AscL p.edges g.edges.length
 ends:∀e∈p.edges,(g.edges.getD e.toNat default).src∈p.nodes∧(g.edges.getD e.toNat default).dst∈p.nodes
theorem zm6 {l:List Int} {n:Nat} (h:AscL l n) {i:Nat} (hi:i<l.length):0≤l[i]∧l[i].toNat<n:=by
 have:=h.range _ (List.getElem_mem hi)
 omega
theorem z57 {g:z8} {p:zdb} (hp:p.nodes.length≤1000∧p.edges.length≤1000):∃e,zhw g p=some e∧zc8 g p=some e∧(e=0→zui g p):=by
 unfold zhw zc8
 rw[zk (zx5 _ _ (by omega)),zk (z2l _ _ (by omega))]
 simp only[zv]
 by_cases h1:¬ (ascE p.nodes (g.nodes.length:Int)=0)
 ·rw[if_neg h1,if_neg h1]
  exact⟨_,rfl,rfl,fun h=>absurd h h1⟩
 have h1:=Decidable.of_not_not h1
 rw[if_pos h1,if_pos h1,zk (zx5 _ _ (by omega)),zk (z2l _ _ (by omega))]
 by_cases h2:¬ (ascE p.edges (g.edges.length:Int)=0)
 ·rw[if_neg h2,if_neg h2]
  exact⟨_,rfl,rfl,fun h=>absurd h h2⟩
 have h2:=Decidable.of_not_not h2
 have a1:=ascL h1
 have a2:=ascL h2
 have hfl:p.edges.length≤fuel:=zbf (by omega)
 rw[if_pos h2,if_pos h2,zbw hfl,zbw hfl]
 have b1:=zco (f:=fun i302 (s302:Unit) nxts302 brks302=>thn (p.edges[i302]?) fun e309=>thn (atZ g.edges e309) fun e310=>thn (zfy p.nodes e310.src) fun r311=>cond r311 (thn (zfy p.nodes e310.dst) fun r313=>cond r313 (nxts302 ()) <| some 14) <| some 14) (K:=fun _=>some (0:Int)) p.edges
  (fun e=>decide ((g.edges.getD e.toNat default).src∈p.nodes)&&decide ((g.edges.getD e.toNat default).dst∈p.nodes)) (fun _=>some 14) (fun i hi nxt=>by
   obtain⟨c1,c2⟩:=zm6 a2 hi
   rw[zbz hi,zi5 c1 c2,zk (z61 a1.asc hp.1 _),zcn c2]
   cases decide ((g.edges[p.edges[i].toNat]).src∈p.nodes) with
   | false=>rfl
   | true=>rw[cond_true,zk (z61 a1.asc hp.1 _),Bool.true_and])
 have b2:=zco (f:=fun i302 (s302:Unit) nxts302 brks302=>thn (p.edges[i302]?) fun e309=>thn (atZ g.edges e309) fun e310=>thn (zdl p.nodes e310.src) fun r311=>cond r311 (thn (zdl p.nodes e310.dst) fun r313=>cond r313 (nxts302 ()) <| some 14) <| some 14) (K:=fun _=>some (0:Int)) p.edges
  (fun e=>decide ((g.edges.getD e.toNat default).src∈p.nodes)&&decide ((g.edges.getD e.toNat default).dst∈p.nodes)) (fun _=>some 14) (fun i hi nxt=>by
   obtain⟨c1,c2⟩:=zm6 a2 hi
   rw[zbz hi,zi5 c1 c2,zk (zkp (by omega) _),zcn c2]
   cases decide ((g.edges[p.edges[i].toNat]).src∈p.nodes) with
   | false=>rfl
   | true=>rw[cond_true,zk (zkp (by omega) _),Bool.true_and])
 rw[b1,b2,zee]
 split
 ·rename_i h3
  refine⟨0,rfl,rfl,fun _=>⟨a1,a2,fun e he=>?_⟩⟩
  have:=List.all_eq_true.1 h3 e he
  simpa using this
 ·exact⟨14,rfl,rfl,fun h=>by cases h⟩
theorem zt1 {g:z8} (hg:FewG g) {p:zdb} (hp:p.nodes.length≤1000∧p.edges.length≤1000):∃e,zgq g p=some e∧zcf g p=some e∧(e=0→zui g p∧OkG g):=by
 unfold zgq zcf
 rw[zk (zmh hg),zk (zds hg)]
 simp only[zv]
 by_cases h1:¬ (validG g=0)
 ·rw[if_neg h1,if_neg h1]
  exact⟨_,rfl,rfl,fun h=>absurd h h1⟩
 have h1:=Decidable.of_not_not h1
 obtain⟨e,h2,h3,h4⟩:=z57 (g:=g) hp
 rw[if_pos h1,if_pos h1,zk h2,zk h3]
 exact⟨e,rfl,rfl,fun h=>⟨h4 h,okG h1⟩⟩

def extP (g:z8) (p:zdb):z8:=⟨p.nodes.map (fun n=>g.nodes.getD n.toNat default),p.edges.map (fun n=>⟨(g.edges.getD n.toNat default).type,posA p.nodes (g.edges.getD n.toNat default).src,posA p.nodes (g.edges.getD n.toNat default).dst⟩)⟩
theorem zbhp {g:z8} {p:zdb} (h:zui g p) (hp:p.nodes.length≤1000∧p.edges.length≤1000) (hv:zgq g p=some 0):zew g p=some (extP g p,⟨p.nodes,p.edges⟩,0):=by
 refine Ok.eq ?_
 unfold zew
 refine zef hv ?_
 refine ok_t rfl ?_
 refine zdv (zbf (by omega)) ?_
 refine zud p.nodes (fun n=>g.nodes.getD n.toNat default) (fun j s nxt hj hsl hn=>?_) ?_
 ·obtain⟨h0,hi⟩:=zm6 h.nodes hj
  refine zg9 hj ?_
  refine zjk h0 hi ?_
  refine zdv (by omega) ?_
  rw[zcn hi] at hn
  exact hn
 refine zdv (zbf (by omega)) ?_
 refine zud p.edges (fun n=>(⟨(g.edges.getD n.toNat default).type,posA p.nodes (g.edges.getD n.toNat default).src,posA p.nodes (g.edges.getD n.toNat default).dst⟩:Edge)) (fun j s nxt hj hsl hn=>?_) ?_
 ·obtain⟨h0,hi⟩:=zm6 h.edges hj
  refine zg9 hj ?_
  refine zjk h0 hi ?_
  refine zef (zry h.nodes.asc hp.1 _) ?_
  refine zef (zry h.nodes.asc hp.1 _) ?_
  refine zdv (by omega) ?_
  rw[zcn hi] at hn
  exact hn
 refine zef (r:=p.nodes) (zha (by omega)) ?_
 refine zef (r:=p.edges) (zha (by omega)) ?_
 exact .mk rfl
theorem z2c {g:z8} {p:zdb} (h:zui g p) (hp:p.nodes.length≤1000∧p.edges.length≤1000) (hv:zcf g p=some 0):zeo g p=some (extP g p,⟨p.nodes,p.edges⟩,0):=by
 refine Ok.eq ?_
 unfold zeo
 refine zef hv ?_
 refine ok_t rfl ?_
 refine zdv (zbf (by omega)) ?_
 refine zud p.nodes (fun n=>g.nodes.getD n.toNat default) (fun j s nxt hj hsl hn=>?_) ?_
 ·obtain⟨h0,hi⟩:=zm6 h.nodes hj
  refine zg9 hj ?_
  refine zjk h0 hi ?_
  refine zdv (by omega) ?_
  rw[zcn hi] at hn
  exact hn
 refine zdv (zbf (by omega)) ?_
 refine zud p.edges (fun n=>(⟨(g.edges.getD n.toNat default).type,posA p.nodes (g.edges.getD n.toNat default).src,posA p.nodes (g.edges.getD n.toNat default).dst⟩:Edge)) (fun j s nxt hj hsl hn=>?_) ?_
 ·obtain⟨h0,hi⟩:=zm6 h.edges hj
  have he:=h.ends _ (List.getElem_mem hj)
  rw[zcn hi] at he
  refine zg9 hj ?_
  refine zjk h0 hi ?_
  refine zef (zza h.nodes.asc hp.1 he.1) ?_
  refine zef (zza h.nodes.asc hp.1 he.2) ?_
  refine zdv (by omega) ?_
  rw[zcn hi] at hn
  exact hn
 refine zdv (by omega) ?_
 refine zdv (by omega) ?_
 exact .mk rfl

structure MorG (a b:z8) (m:zby):Prop where
 nlen:m.nodes.length=a.nodes.length
 elen:m.edges.length=a.edges.length
 node:∀i (h:i<m.nodes.length),0≤m.nodes[i]∧m.nodes[i].toNat<b.nodes.length
 edge:∀i (h:i<m.edges.length),0≤m.edges[i]∧m.edges[i].toNat<b.edges.length
theorem zx1 (a b:z8) (m:zby):zfp a b m=zbr a b m:=by
 unfold zfp zbr
 show (thn (zeg a) fun r=>_)=(thn (zeg a) fun r=>_)
 congr 1
 funext r
 congr 1
 show (thn (zeg b) fun r=>_)=(thn (zeg b) fun r=>_)
 congr 1
 funext r
 congr 1
 by_cases h1:((m.nodes.length:Nat):Int)=(a.nodes.length:Int)
 ·by_cases h2:((m.edges.length:Nat):Int)=(a.edges.length:Int)
  ·have h1':m.nodes.length=a.nodes.length:=by omega
   have h2':m.edges.length=a.edges.length:=by omega
   rw[h1',h2']
  ·simp only[zv,if_neg h2]
 ·simp only[zv,if_neg h1]
theorem z8t {a b:z8} (ha:FewG a) (hb:FewG b) {m:zby} : ∃e,zbr a b m=some e∧(e=0→MorG a b m∧OkG a∧OkG b):=by
 show Ok _ _
 have ha1:=ha.nodes
 have ha2:=ha.edges
 unfold zbr
 refine zef (zds ha) ?_
 refine zb3 (fun h1=>?_) (fun h1=>.mk fun h=>absurd h (of_decide_eq_false h1))
 have h1:=of_decide_eq_true h1
 refine zef (zds hb) ?_
 refine zb3 (fun h2=>?_) (fun h2=>.mk fun h=>absurd h (of_decide_eq_false h2))
 have h2:=of_decide_eq_true h2
 have ga:=okG h1
 have gb:=okG h2
 refine zb3 (fun h3=>?_) (fun _=>.mk fun h=>by cases h)
 refine zb3 (fun h4=>?_) (fun _=>.mk fun h=>by cases h)
 have h3:m.nodes.length=a.nodes.length:=by have:=of_decide_eq_true h3; omega
 have h4:m.edges.length=a.edges.length:=by have:=of_decide_eq_true h4; omega
 refine zdv (zbf (by omega)) ?_
 refine zgl (fun j _=>∀i (h:i<m.nodes.length),i<j→0≤m.nodes[i]∧m.nodes[i].toNat<b.nodes.length) (Nat.zero_le _) (fun i _ h=>by omega) (fun j s nxt _ hj hI hn=>?_) (fun s hI=>?_)
 ·refine zg9 (by omega) ?_
  refine zb3 (fun _=>.mk fun h=>by cases h) (fun c1=>?_)
  refine zb3 (fun _=>.mk fun h=>by cases h) (fun c2=>?_)
  have c1:=of_decide_eq_false c1
  have c2:=of_decide_eq_false c2
  refine zjk (by omega) (by omega) ?_
  refine zg9 hj ?_
  refine zb3 (fun _=>hn _ fun i hi hij=>?_) (fun _=>.mk fun h=>by cases h)
  rcases Nat.lt_or_ge i j with h5 | h5
  ·exact hI i hi h5
  ·have:i=j:=by omega
   subst this
   omega
 refine zdv (zbf (by omega)) ?_
 refine zgl (fun j _=>∀i (h:i<m.edges.length),i<j→0≤m.edges[i]∧m.edges[i].toNat<b.edges.length) (Nat.zero_le _) (fun i _ h=>by omega) (fun j s nxt _ hj hI2 hn=>?_) (fun s hI2=>.mk fun _=>⟨⟨h3,h4,fun i hi=>hI i hi (by omega),fun i hi=>hI2 i hi (by omega)⟩,ga,gb⟩)
 refine zg9 (by omega) ?_
 refine zb3 (fun _=>.mk fun h=>by cases h) (fun c1=>?_)
 refine zb3 (fun _=>.mk fun h=>by cases h) (fun c2=>?_)
 have c1:=of_decide_eq_false c1
 have c2:=of_decide_eq_false c2
 refine zg9 hj ?_
 refine zjk (by omega) (by omega) ?_
 have he:=ga.edge j hj
 rw[zcn hj] at he
 refine zb3 (fun _=>?_) (fun _=>.mk fun h=>by cases h)
 refine zjk he.2.1.1 (by omega) ?_
 refine zb3 (fun _=>?_) (fun _=>.mk fun h=>by cases h)
 refine zjk he.2.2.1 (by omega) ?_
 refine zb3 (fun _=>hn _ fun i hi hij=>?_) (fun _=>.mk fun h=>by cases h)
 rcases Nat.lt_or_ge i j with h5 | h5
 ·exact hI2 i hi h5
 ·have:i=j:=by omega
  subst this
  omega
end Go.Proofs.YthjgdkloabgcoaaGreat
namespace Go.Proofs.YthjgdkloabgcoaaGreat
open Go.Abs

theorem zyl {zs:List Int} (h:zs.Pairwise (·≤·)):∀m,m≤zs.length→(Lib.compactUpTo zs.toArray m).Pairwise (· < ·)∧∀x,x∈Lib.compactUpTo zs.toArray m↔∃j,∃hj:j<zs.length,j<m∧zs[j]=x:=by
 intro m
 induction m with
 | zero=>intro _; simp[Lib.compactUpTo]
 | succ m ih =>
  intro hm
  obtain⟨i1,i2⟩:=ih (by omega)
  have hget:∀j (hj:j<zs.length),zs.toArray[j]! = zs[j]:=fun j hj=>by simp[hj]
  rw[Lib.compactUpTo_succ]
  by_cases hk:Lib.keeps zs.toArray m=true
  ·rw[if_pos hk,hget m (by omega)]
   have hlt:∀j (hj:j<zs.length),j<m→zs[j]<zs[m]:=fun j hj hjm=>by
    have hk':=hk
    unfold Lib.keeps at hk'
    rw[decide_eq_true_eq] at hk'
    rcases hk' with h0 | h0
    ·omega
    ·rw[hget m (by omega),hget (m - 1) (by omega)] at h0
     have h1:zs[m - 1]≤zs[m]:=(List.pairwise_iff_getElem.1 h) (m - 1) m (by omega) (by omega) (by omega)
     have h2:zs[j]≤zs[m - 1]:=by
      rcases Nat.lt_or_ge j (m - 1) with h3 | h3
      ·exact (List.pairwise_iff_getElem.1 h) j (m - 1) hj (by omega) h3
      ·have:j=m - 1:=by omega
       subst this
       exact Int.le_refl _
     omega
   refine⟨?_,fun x=>?_⟩
   ·rw[List.pairwise_append]
    refine⟨i1,by simp,fun a ha b hb=>?_⟩
    obtain⟨j,hj,hjm,rfl⟩:=(i2 a).1 ha
    simp at hb
    subst hb
    exact hlt j hj hjm
   ·rw[List.mem_append,i2,List.mem_singleton]
    constructor
    ·rintro (⟨j,hj,hjm,rfl⟩ | rfl)
     ·exact⟨j,hj,by omega,rfl⟩
     ·exact⟨m,by omega,by omega,rfl⟩
    ·rintro⟨j,hj,hjm,rfl⟩
     rcases Nat.lt_or_ge j m with h3 | h3
     ·exact .inl ⟨j,hj,h3,rfl⟩
     ·have:j=m:=by omega
      subst this
      exact .inr rfl
  ·rw[if_neg hk,List.append_nil]
   refine⟨i1,fun x=>?_⟩
   rw[i2]
   constructor
   ·rintro⟨j,hj,hjm,rfl⟩
    exact⟨j,hj,by omega,rfl⟩
   ·rintro⟨j,hj,hjm,rfl⟩
    rcases Nat.lt_or_ge j m with h3 | h3
    ·exact⟨j,hj,h3,rfl⟩
    ·have:j=m:=by omega
     subst this
     unfold Lib.keeps at hk
     rw[decide_eq_true_eq] at hk
     have h0:¬ j=0:=fun e=>hk (.inl e)
     have h1:zs.toArray[j]! = zs.toArray[j - 1]!:=Decidable.of_not_not fun e=>hk (.inr e)
     rw[hget j hj,hget (j - 1) (by omega)] at h1
     exact⟨j - 1,by omega,by omega,h1.symm⟩
theorem zsw {zs:List Int} (h:zs.Pairwise (·≤·)):(Lib.compact zs).Pairwise (· < ·)∧∀x,x∈Lib.compact zs↔x∈zs:=by
 obtain⟨h1,h2⟩:=zyl h zs.length (Nat.le_refl _)
 refine⟨h1,fun x=>(h2 x).trans ?_⟩
 rw[List.mem_iff_getElem]
 constructor
 ·rintro⟨j,hj,_,rfl⟩; exact⟨j,hj,rfl⟩
 ·rintro⟨j,hj,rfl⟩; exact⟨j,hj,hj,rfl⟩
theorem z1s {zs:List Int} (h:zs.Pairwise (·≤·)):(Lib.compact zs).length=zs.length↔zs.Nodup:=by
 constructor
 ·intro hl
  have hall:∀j,j<zs.length→Lib.keeps zs.toArray j=true:=by
   unfold Lib.compact Lib.compactUpTo at hl
   rw[List.length_map] at hl
   have hr:(List.range zs.length).length=zs.length:=List.length_range
   have h1:=List.length_filter_eq_length_iff.1 (hl.trans hr.symm)
   exact fun j hj=>h1 j (List.mem_range.2 hj)
  have h2:=(zsw h).1
  rw[Lib.compact_all zs hall] at h2
  exact h2.imp fun h=>by omega
 ·intro hn
  rw[Lib.compact_all zs fun j hj=>?_]
  unfold Lib.keeps
  rw[decide_eq_true_eq]
  by_cases h0:j=0
  ·exact .inl h0
  ·refine .inr fun e=>?_
   have e1:zs.toArray[j]! = zs[j]:=by simp[hj]
   have e2:zs.toArray[j - 1]! = zs[j - 1]'(by omega):=by simp[show j - 1<zs.length by omega]
   rw[e1,e2] at e
   exact (List.pairwise_iff_getElem.1 hn) (j - 1) j (by omega) hj (by omega) e.symm
def sortI (l:List Int):List Int:=l.mergeSort fun x y=>decide (x≤y)
theorem zro (l:List Int):(sortI l).Pairwise (·≤·):=by
 have:=List.pairwise_mergeSort (le:=fun x y:Int=>decide (x≤y)) (fun a b c h1 h2=>by simp at *; omega) (fun a b=>by simp; omega) l
 exact this.imp fun h=>by simpa using h
theorem zqf (l:List Int):(sortI l).Perm l:=List.mergeSort_perm l _
theorem zrs (l:List Int):(sortI l).length=l.length:=(zqf l).length_eq
theorem z6j {l:List Int} (h:l.length≤1000000):zg5 l=some (sortI l):=zha h
theorem zv1 {l:List Int} (h:l.length≤1000000):zf9 l=some (Lib.compact l):=zha h
theorem zbfd {l:List Int} (h:l.length≤1000000):zgt l=some l:=zha h
theorem zbfm {a b:List Int} (ha:a.Pairwise (· < ·)) (hb:b.Pairwise (· < ·)) (h:∀x,x∈a↔x∈b):a=b:=by
 refine List.Perm.eq_of_pairwise (le:=(·≤·)) (fun a b _ _ h1 h2=>by omega) (ha.imp fun h=>by omega) (hb.imp fun h=>by omega) ?_
 exact (List.perm_ext_iff_of_nodup (ha.imp fun h=>by omega) (hb.imp fun h=>by omega)).2 h
theorem zyd {l:List Int} (h:l.length≤1000000):zgd l=some (((Lib.compact (sortI l)).length:Nat):Int):=by
 unfold zgd
 rw[zk (zbfd h),zk (z6j h),zk (zv1 (by rw[zrs]; exact h))]
theorem zr2 {l:List Int} : (((Lib.compact (sortI l)).length:Nat):Int)=((l.length:Nat):Int)↔l.Nodup:=by
 rw[Int.natCast_inj,←zrs l,z1s (zro l)]
 exact (zqf l).nodup_iff
theorem zjz {l:List Int} (h:l.length≤1000000):zcr l=some (decide l.Nodup):=by
 refine Ok.eq ?_
 unfold zcr
 refine zdv (zbf (by omega)) ?_
 refine zgl (fun j _=>(l.take j).Nodup) (Nat.zero_le _) (by simp) (fun i s nxt _ hi hI hn=>?_) (fun s hI=>.mk ?_)
 ·refine zdv (zbf (by omega)) ?_
  refine zgl (fun j _=>∀k (hk:k<l.length),k<j→l[k]≠l[i]) (Nat.zero_le _) (fun k _ h=>by omega) (fun j s2 nxt2 _ hj hI2 hn2=>?_) (fun s2 hI2=>hn _ ?_)
  ·refine zg9 hi ?_
   refine zg9 (by omega) ?_
   refine zb3 (fun hc=>.mk ?_) (fun hc=>hn2 _ fun k hk hkj=>?_)
   ·have hc:=of_decide_eq_true hc
    refine (decide_eq_false fun hnd=>?_).symm
    exact (List.pairwise_iff_getElem.1 hnd) j i (by omega) hi hj hc.symm
   ·rcases Nat.lt_or_ge k j with h1 | h1
    ·exact hI2 k hk h1
    ·have:k=j:=by omega
     subst this
     exact fun e=>of_decide_eq_false hc e.symm
  ·rw[List.take_add_one,List.getElem?_eq_getElem hi,Option.toList_some,List.nodup_append]
   refine⟨hI,by simp,fun a ha b hb=>?_⟩
   simp at hb
   subst hb
   obtain⟨k,hk,rfl⟩:=List.mem_iff_getElem.1 ha
   rw[List.getElem_take]
   have hk2:k<i∧k<l.length:=by rw[List.length_take] at hk; omega
   exact hI2 k hk2.2 hk2.1
 ·rw[List.take_length] at hI
  exact (decide_eq_true hI).symm
theorem zyc {a b : z8} (ha : FewG a) (hb : FewG b) {m : zby} (hm : m.nodes.length ≤ 1000 ∧ m.edges.length ≤ 1000) (hv : zbr a b m = some 0) :
  ze3 a b m=some (decide m.nodes.Nodup&&decide m.edges.Nodup)∧zea a b m=some (decide m.nodes.Nodup&&decide m.edges.Nodup):=by
 unfold ze3 zea
 rw[zx1,zk hv,zk hv,decide_eq_true rfl,cond_true,cond_true,zk (zyd (by omega)),zk (zyd (by omega)),zk (zjz (by omega)),zk (zjz (by omega))]
 have e1:decide ((((Lib.compact (sortI m.nodes)).length:Nat):Int)=((m.nodes.length:Nat):Int))=decide m.nodes.Nodup:=by congr 1; exact propext zr2
 have e2:decide ((((Lib.compact (sortI m.edges)).length:Nat):Int)=((m.edges.length:Nat):Int))=decide m.edges.Nodup:=by congr 1; exact propext zr2
 rw[e1,e2]
 cases decide m.nodes.Nodup<;>simp

def restL (n:Nat) (l:List Int):List Int:=((List.range n).filter fun i:Nat=>!decide ((i:Int)∈l)).map fun i:Nat=>(i:Int)
theorem z9z {n:Nat} {l:List Int} {x:Int} : x∈restL n l↔(0≤x∧x<n)∧x ∉ l:=by
 unfold restL
 simp only[List.mem_map,List.mem_filter,List.mem_range,Bool.not_eq_true',decide_eq_false_iff_not]
 constructor
 ·rintro⟨i,⟨h1,h2⟩,rfl⟩; exact⟨⟨by omega,by omega⟩,h2⟩
 ·rintro⟨⟨h1,h2⟩,h3⟩; exact⟨x.toNat,⟨by omega,by rwa [Int.toNat_of_nonneg h1]⟩,by omega⟩
theorem zil (n:Nat) (l:List Int):(restL n l).length≤n:=by
 unfold restL
 rw[List.length_map]
 exact Nat.le_trans (List.length_filter_le _ _) (by simp)
theorem zv4 {f : Nat → List Int → (List Int → Option (List Int)) → (List Int → Option (List Int)) → Option (List Int)} {K : List Int → Option (List Int)} {n : Nat} {l : List Int} (h : ∀ i, i < n → ∀ s nxt, s.length ≤ i → f i s nxt K = cond (decide ((i : Int) ∈ l)) (nxt s) (nxt (s ++ [(i : Int)]))) :
  forN f (n - 0) 0 [] K=K (restL n l):=by
 have e:=zd3 (K:=K) (s:=([]:List Int)) (f:=f) (List.range n) (fun (s:List Int) (i:Nat)=>if (!decide ((i:Int)∈l))=true then s++[(i:Int)] else s) (fun i s=>s.length≤i) (Nat.le_refl _) (fun i hi s hs=>⟨fun nxt=>?_,?_⟩)
 ·rw[List.length_range] at e
  rw[e.1]
  congr 1
  unfold restL
  have:∀ (q:List Nat) (s:List Int),q.foldl (fun (s:List Int) (i:Nat)=>if (!decide ((i:Int)∈l))=true then s++[(i:Int)] else s) s=s++(q.filter fun i:Nat=>!decide ((i:Int)∈l)).map fun i:Nat=>(i:Int):=by
   intro q
   induction q with
   | nil=>intro s; simp
   | cons a q ih =>
    intro s
    rw[List.foldl_cons,ih,List.filter_cons]
    split<;>simp
  rw[this,List.nil_append]
 ·have hi':i<n:=by simpa using hi
  rw[h i hi' s nxt hs,List.getElem_range]
  cases decide ((i:Int)∈l)<;>simp
 ·rw[List.getElem_range]
  split
  ·simp; omega
  ·omega
theorem zuw {l:List Int} (hl:l.length≤1000000) (x:Int):zfr l x=some (decide (x∈l)):=by
 unfold zfr zhu
 rw[zbw (zbf (by omega))]
 rw[zk (zhf l (fun y=>decide (x=y)) (fun i hi nxt=>by rw[zbz hi]) rfl),zi6]
 rw[←zsg]
 congr 2
 funext y
 congr 1
 exact propext eq_comm
theorem zqe {l:List Int} (hl:l.length≤1000000) (n:Nat) (hn:n≤1000000):zge l (n:Int)=some (restL n l):=by
 unfold zge
 rw[Int.toNat_natCast,zbw (zbf (by omega))]
 exact zv4 (l:=l) fun i hi s nxt hs=>by rw[zk (zuw hl _),zbw (by omega)]
theorem ztv {l:List Int} (hl:l.length≤1000000) (n:Nat) (hn:n≤1000000):zdf (n:Int) l=some (restL n l):=by
 unfold zdf
 rw[Int.toNat_natCast,zbw (zbf (by omega))]
 exact zv4 (l:=l) fun i hi s nxt hs=>by rw[zk (zpc hl _),zbw (by omega)]
def madeN (r:zu):List Int:=restL r.right.graph.nodes.length r.into.nodes
def madeE (r:zu):List Int:=restL r.right.graph.edges.length r.into.edges
def goneN (r:zu):List Int:=restL r.left.graph.nodes.length r.keep.nodes
def goneE (r:zu):List Int:=restL r.left.graph.edges.length r.keep.edges
theorem zl6 {r:zu} (hr:zps r):zgo r=some (madeN r,madeE r)∧zcu r=some (madeN r,madeE r):=by
 have h1:=hr.into
 have h2:=hr.right.graph.nodes
 have h3:=hr.right.graph.edges
 unfold zgo zcu
 rw[zk (zqe (by omega) _ (by omega)),zk (zqe (by omega) _ (by omega)),zk (ztv (by omega) _ (by omega)),zk (ztv (by omega) _ (by omega))]
 exact⟨rfl,rfl⟩
theorem zwd {r:zu} (hr:zps r):zhd r=some (goneN r,goneE r)∧zdy r=some (goneN r,goneE r):=by
 have h1:=hr.keep
 have h2:=hr.left.graph.nodes
 have h3:=hr.left.graph.edges
 unfold zhd zdy
 rw[zk (zqe (by omega) _ (by omega)),zk (zqe (by omega) _ (by omega)),zk (ztv (by omega) _ (by omega)),zk (ztv (by omega) _ (by omega))]
 exact⟨rfl,rfl⟩
def makeB (t:zl) (g:z8) (nodes edges:List Int):Bool:=nodes.all (fun n=>!(t.nodes.getD (g.nodes.getD n.toNat default).toNat default).abs)&&edges.all fun n=>fitsT t (g.edges.getD n.toNat default).type (g.nodes.getD (g.edges.getD n.toNat default).src.toNat default) (g.nodes.getD (g.edges.getD n.toNat default).dst.toNat default)
theorem zw5 {t : zl} (ht : FewT t) {g : z8} (hg : OkG g) (hb : typedB t g = true) {nodes edges : List Int} (hn : ∀ x ∈ nodes, 0 ≤ x ∧ x < g.nodes.length) (he : ∀ x ∈ edges, 0 ≤ x ∧ x < g.edges.length) (hnl : nodes.length ≤ 1000) (hel : edges.length ≤ 1000) :
  zhe t g nodes edges=some (makeB t g nodes edges)∧ze0 t g nodes edges=some (makeB t g nodes edges):=by
 have a1:∀x∈nodes,atZ g.nodes x=some (g.nodes.getD x.toNat default)∧atZ t.nodes (g.nodes.getD x.toNat default)=some (t.nodes.getD (g.nodes.getD x.toNat default).toNat default):=fun x hx=>by
  have:=hn x hx
  have hi:x.toNat<g.nodes.length:=by omega
  have hk:=zkl hb hg hi
  have hi2:g.nodes[x.toNat].toNat<t.nodes.length:=by omega
  constructor
  ·unfold atZ; rw[if_pos this.1,List.getElem?_eq_getElem hi,zcn hi]
  ·rw[zcn hi]; unfold atZ; rw[if_pos hk.1,List.getElem?_eq_getElem hi2,zcn hi2]
 have a2:∀x∈edges,atZ g.edges x=some (g.edges.getD x.toNat default)∧atZ g.nodes (g.edges.getD x.toNat default).src=some (g.nodes.getD (g.edges.getD x.toNat default).src.toNat default)∧atZ g.nodes (g.edges.getD x.toNat default).dst=some (g.nodes.getD (g.edges.getD x.toNat default).dst.toNat default):=fun x hx=>by
  have:=he x hx
  have hi:x.toNat<g.edges.length:=by omega
  have hk:=hg.edge _ hi
  refine⟨?_,?_,?_⟩
  ·unfold atZ; rw[if_pos this.1,List.getElem?_eq_getElem hi,zcn hi]
  ·have hi2:(g.edges.getD x.toNat default).src.toNat<g.nodes.length:=by omega
   unfold atZ; rw[if_pos hk.2.1.1,List.getElem?_eq_getElem hi2,zcn hi2]
  ·have hi2:(g.edges.getD x.toNat default).dst.toNat<g.nodes.length:=by omega
   unfold atZ; rw[if_pos hk.2.2.1,List.getElem?_eq_getElem hi2,zcn hi2]
 constructor
 ·unfold zhe makeB
  rw[zk (zf4 (p:=fun x=>zgp x ⟨t.nodes,t.edges⟩ ⟨g.nodes,g.edges⟩) (fun n=>!(fun n=>!(t.nodes.getD (g.nodes.getD n.toNat default).toNat default).abs) n) (by omega) fun x hx=>by
   unfold zgp
   obtain⟨b1,b2⟩:=a1 x hx
   rw[zk b1,zk b2,Bool.not_not]),zj9]
  cases nodes.all fun n=>!(t.nodes.getD (g.nodes.getD n.toNat default).toNat default).abs with
  | false=>rfl
  | true =>
   rw[Bool.not_true,cond_false,Bool.true_and]
   rw[zk (zf4 (p:=fun x=>zgn x g ⟨t.nodes,t.edges⟩) (fun n=>!(fun n=>fitsT t (g.edges.getD n.toNat default).type (g.nodes.getD (g.edges.getD n.toNat default).src.toNat default) (g.nodes.getD (g.edges.getD n.toNat default).dst.toNat default)) n) (by omega) fun x hx=>by
    unfold zgn
    obtain⟨b1,b2,b3⟩:=a2 x hx
    rw[zk b1,zk b2,zk b3,zk (zbh1 ht _ _ _)]),zj9,Bool.not_not]
 ·unfold ze0 makeB
  rw[zbw (zbf (by omega))]
  rw[zco nodes (fun n=>!(t.nodes.getD (g.nodes.getD n.toNat default).toNat default).abs) (fun _=>some false) (fun i hi nxt=>by
   obtain⟨b1,b2⟩:=a1 _ (List.getElem_mem hi)
   rw[zbz hi,zk b1,zk b2,zij]),zee]
  cases nodes.all fun n=>!(t.nodes.getD (g.nodes.getD n.toNat default).toNat default).abs with
  | false=>rfl
  | true =>
   rw[if_pos rfl,Bool.true_and,zbw (zbf (by omega))]
   rw[zco edges (fun n=>fitsT t (g.edges.getD n.toNat default).type (g.nodes.getD (g.edges.getD n.toNat default).src.toNat default) (g.nodes.getD (g.edges.getD n.toNat default).dst.toNat default)) (fun _=>some false) (fun i hi nxt=>by
    obtain⟨b1,b2,b3⟩:=a2 _ (List.getElem_mem hi)
    rw[zbz hi,zk b1,zk b2,zk b3,zk (zbgd ht _ _ _)]),zee]
   cases edges.all _<;>rfl
end Go.Proofs.YthjgdkloabgcoaaGreat
namespace Go.Proofs.YthjgdkloabgcoaaGreat
open Go.Abs

mutual
def cSize:zp→Nat
 | ⟨_,kids,_,_⟩=>cSizeL kids+1
def cSizeL:List zp→Nat
 | []=>0
 | a :: r=>cSize a+cSizeL r
end
mutual
def cFew:zp→Prop
 | ⟨_,kids,m,p⟩=>FewP p∧m.nodes.length+m.edges.length≤140∧cFewL kids
def cFewL:List zp→Prop
 | []=>True
 | a :: r=>cFew a∧cFewL r
end
theorem zp0 (c:zp):cSize c=cSizeL c.kids+1:=by cases c; rw[cSize]
theorem z30 {l:List zp} {k:zp} (h:k∈l):cSize k≤cSizeL l:=by
 induction l with
 | nil=>cases h
 | cons a r ih =>
  rw[cSizeL]
  rcases List.mem_cons.1 h with rfl | h
  ·omega
  ·have:=ih h; omega
theorem zoa (c:zp):0<cSize c:=by rw[zp0]; omega
theorem z3a (l:List zp):l.length≤cSizeL l:=by
 induction l with
 | nil=>simp
 | cons a r ih =>
  rw[cSizeL,List.length_cons]
  have:=zoa a
  omega
theorem zr5 {c:zp} (h:cFew c):FewP c.pattern∧c.map.nodes.length+c.map.edges.length≤140∧cFewL c.kids:=by cases c; rw[cFew] at h; exact h
theorem zwy {l:List zp} (h:cFewL l) {k:zp} (hk:k∈l):cFew k:=by
 induction l with
 | nil=>cases hk
 | cons a r ih =>
  rw[cFewL] at h
  rcases List.mem_cons.1 hk with rfl | hk
  ·exact h.1
  ·exact ih h.2 hk
theorem cKid {c k:zp} (h:k∈c.kids):cSize k<cSize c:=by
 rw[zp0 c]
 have:=z30 h
 omega
theorem cKids {c:zp} : c.kids.length<cSize c:=by
 rw[zp0]
 have:=z3a c.kids
 omega

def bareB (c:zp):Bool:=decide (c.map.nodes.length+c.map.edges.length+c.pattern.graph.nodes.length+c.pattern.graph.edges.length+c.pattern.slots.length+c.pattern.tests.length=0)&&decide (c.pattern.vars=0)
theorem zbhu {c:zp} (h:cFew c):zet c=some (bareB c):=by
 obtain⟨⟨⟨h1,h2⟩,h3,h4⟩,h5,_⟩:=zr5 h
 unfold zet bareB
 rw[wrapI (n:=((c.map.nodes.length:Nat):Int)+((c.map.edges.length:Nat):Int)) (by omega),wrapI (n:=((c.map.nodes.length:Nat):Int)+((c.map.edges.length:Nat):Int)+((c.pattern.graph.nodes.length:Nat):Int)) (by omega),
  wrapI (n:=((c.map.nodes.length:Nat):Int)+((c.map.edges.length:Nat):Int)+((c.pattern.graph.nodes.length:Nat):Int)+((c.pattern.graph.edges.length:Nat):Int)) (by omega),
  wrapI (n:=((c.map.nodes.length:Nat):Int)+((c.map.edges.length:Nat):Int)+((c.pattern.graph.nodes.length:Nat):Int)+((c.pattern.graph.edges.length:Nat):Int)+((c.pattern.slots.length:Nat):Int)) (by omega),
  wrapI (by omega)]
 by_cases h0:c.map.nodes.length+c.map.edges.length+c.pattern.graph.nodes.length+c.pattern.graph.edges.length+c.pattern.slots.length+c.pattern.tests.length=0
 ·rw[decide_eq_true h0,decide_eq_true (by omega)]; rfl
 ·rw[decide_eq_false h0,decide_eq_false (by omega)]; rfl
theorem zbd5 {c:zp} (h:cFew c):zc1 c=some (bareB c):=by
 obtain⟨⟨⟨h1,h2⟩,h3,h4⟩,h5,_⟩:=zr5 h
 unfold zc1 bareB
 rw[wrapI (n:=((c.map.nodes.length:Nat):Int)+((c.map.edges.length:Nat):Int)) (by omega),wrapI (n:=((c.map.nodes.length:Nat):Int)+((c.map.edges.length:Nat):Int)+((c.pattern.graph.nodes.length:Nat):Int)) (by omega),
  wrapI (n:=((c.map.nodes.length:Nat):Int)+((c.map.edges.length:Nat):Int)+((c.pattern.graph.nodes.length:Nat):Int)+((c.pattern.graph.edges.length:Nat):Int)) (by omega),wrapI (n:=((c.pattern.slots.length:Nat):Int)+((c.pattern.tests.length:Nat):Int)) (by omega)]
 simp only[zv]
 by_cases h0:c.map.nodes.length+c.map.edges.length+c.pattern.graph.nodes.length+c.pattern.graph.edges.length+c.pattern.slots.length+c.pattern.tests.length=0
 ·rw[decide_eq_true h0,if_pos (by omega),if_pos (by omega)]; rfl
 ·rw[decide_eq_false h0]
  split
  ·rw[if_neg (by omega)]; rfl
  ·rfl
def kindB2 (c:zp):Bool:=if c.kind=1 then decide (c.kids.length=0)&&bareB c else if c.kind=2 then decide (c.kids.length=1)&&bareB c else if c.kind=3∨c.kind=4 then decide (0<c.kids.length)&&bareB c else if c.kind=5 then decide (c.kids.length=1) else false
theorem z6o {c:zp} (h:cFew c):ze4 c=some (kindB2 c):=by
 unfold ze4 kindB2
 simp only[zv,zk (zbd5 h)]
 by_cases h1:c.kind=1
 ·rw[if_pos h1,if_pos h1]
  by_cases h0:c.kids.length=0
  ·rw[if_pos (by omega),decide_eq_true h0,Bool.true_and]
  ·rw[if_neg (by omega),decide_eq_false h0,Bool.false_and]
 rw[if_neg h1,if_neg h1]
 by_cases h2:c.kind=2
 ·rw[if_pos h2,if_pos h2]
  by_cases h0:c.kids.length=1
  ·rw[if_pos (by omega),decide_eq_true h0,Bool.true_and]
  ·rw[if_neg (by omega),decide_eq_false h0,Bool.false_and]
 rw[if_neg h2,if_neg h2]
 by_cases h3:c.kind=3
 ·rw[if_pos h3,if_pos (show c.kind=3∨c.kind=4 from .inl h3)]
  by_cases h0:0<c.kids.length
  ·rw[if_pos (by omega),decide_eq_true h0,Bool.true_and]
  ·rw[if_neg (by omega),decide_eq_false h0,Bool.false_and]
 rw[if_neg h3]
 by_cases h4:c.kind=4
 ·rw[if_pos h4,if_pos (show c.kind=3∨c.kind=4 from .inr h4)]
  by_cases h0:0<c.kids.length
  ·rw[if_pos (by omega),decide_eq_true h0,Bool.true_and]
  ·rw[if_neg (by omega),decide_eq_false h0,Bool.false_and]
 rw[if_neg h4,if_neg (show ¬ (c.kind=3∨c.kind=4) by omega)]
 by_cases h5:c.kind=5
 ·rw[if_pos h5,if_pos h5]
  congr 1
  by_cases h0:c.kids.length=1
  ·rw[decide_eq_true h0,decide_eq_true (by omega)]
  ·rw[decide_eq_false h0,decide_eq_false (by omega)]
 ·rw[if_neg h5,if_neg h5]
theorem zbfr:∀ (n:Nat) (c:zp),cSize c≤n→cSize c≤1000→cFew c→∃b,zbm n c=some b∧zcq n c=some b:=by
 intro n
 induction n with
 | zero=>intro c h; have:=zoa c; omega
 | succ n ih =>
  intro c hc h1000 hf
  have hkl:=cKids (c:=c)
  have hk:∀k∈c.kids,∃b,zbm n k=some b∧zcq n k=some b:=fun k hk=>by
   have:=cKid hk
   exact ih k (by omega) (by omega) (zwy (zr5 hf).2.2 hk)
  let w:zp→Bool:=fun k=>(zbm n k).getD false
  have hw1:∀k∈c.kids,zbm n k=some (w k):=fun k hk'=>by
   obtain⟨b,h1,_⟩:=hk k hk'
   simp only[w,h1,Option.getD_some]
  have hw2:∀k∈c.kids,zcq n k=some (w k):=fun k hk'=>by
   obtain⟨b,h1,h2⟩:=hk k hk'
   simp only[w,h1,h2,Option.getD_some]
  refine⟨kindB2 c&&c.kids.all w,?_,?_⟩
  ·have hcf:zb6 c.kids (fun x=>zb0 (fun y0=>zbm n y0) x)=some (c.kids.any fun k=>!w k):=zkz _ (by omega) fun x hx=>by
    unfold zb0
    rw[zk (hw1 x hx)]
   rw[zj9] at hcf
   unfold zbm kindB2
   simp only[zv,zk (zbhu hf),zk hcf,Bool.not_not]
   by_cases h1:c.kind=1
   ·rw[if_pos h1,if_pos h1]
    by_cases h0:c.kids.length=0
    ·rw[if_pos (by omega),decide_eq_true h0,Bool.true_and]
     cases bareB c<;>simp
    ·rw[if_neg (by omega),decide_eq_false h0]; rfl
   rw[if_neg h1,if_neg h1]
   by_cases h2:c.kind=2
   ·rw[if_pos h2,if_pos h2]
    by_cases h0:c.kids.length=1
    ·rw[if_pos (by omega),decide_eq_true h0,Bool.true_and]
     cases bareB c<;>simp
    ·rw[if_neg (by omega),decide_eq_false h0]; rfl
   rw[if_neg h2,if_neg h2]
   by_cases h3:c.kind=3
   ·rw[if_pos h3,if_pos (show c.kind=3∨c.kind=4 from .inl h3)]
    by_cases h0:0<c.kids.length
    ·rw[if_pos (by omega),decide_eq_true h0,Bool.true_and]
     cases bareB c<;>simp
    ·rw[if_neg (by omega),decide_eq_false h0]; rfl
   rw[if_neg h3]
   by_cases h4:c.kind=4
   ·rw[if_pos h4,if_pos (show c.kind=3∨c.kind=4 from .inr h4)]
    by_cases h0:0<c.kids.length
    ·rw[if_pos (by omega),decide_eq_true h0,Bool.true_and]
     cases bareB c<;>simp
    ·rw[if_neg (by omega),decide_eq_false h0]; rfl
   rw[if_neg h4,if_neg (show ¬ (c.kind=3∨c.kind=4) by omega)]
   by_cases h5:c.kind=5
   ·rw[if_pos h5,if_pos h5]
    by_cases h0:c.kids.length=1
    ·rw[if_pos (by omega),decide_eq_true h0,Bool.true_and]
    ·rw[if_neg (by omega),decide_eq_false h0]; rfl
   ·rw[if_neg h5,if_neg h5]; rfl
  ·unfold zcq
   rw[zk (z6o hf)]
   cases kindB2 c with
   | false=>rfl
   | true =>
    rw[cond_true,zbw (zbf (by omega)),Bool.true_and]
    rw[zco c.kids w (fun _=>some false) (fun i hi nxt=>by rw[zbz hi,zk (hw2 _ (List.getElem_mem hi))]),zee]
    cases c.kids.all w<;>rfl
theorem z5i:∀ (n:Nat) (c:zp),zdk n c=zd1 n c:=by
 intro n
 induction n with
 | zero=>intro c; rfl
 | succ n ih =>
  intro c
  unfold zdk zd1
  simp only[ih]
theorem z5d:∀ (n:Nat) (c:zp),cSize c≤n→cSize c≤1000→∃r,zdk n c=some r:=by
 intro n
 induction n with
 | zero=>intro c h; have:=zoa c; omega
 | succ n ih =>
  intro c hc h1000
  have hkl:=cKids (c:=c)
  suffices h:Ok (zdk (n+1) c) (fun _=>True) from ⟨_,h.choose_spec.1⟩
  unfold zdk
  refine zdv (zbf (by omega)) ?_
  refine zgl (fun j _=>True) (Nat.zero_le _) trivial (fun j s nxt _ hj _ hn=>?_) (fun s _=>?_)
  ·refine zg9 hj ?_
   have hk:=cKid (List.getElem_mem hj)
   obtain⟨r,hr⟩:=ih c.kids[j] (by omega) (by omega)
   exact zef hr (hn _ trivial)
  ·exact zb3 (fun _=>.mk trivial) (fun _=>.mk trivial)
theorem z27 {c:zp} (hc:cSize c≤1000) (hf:cFew c):∃e,zg7 c=some e∧zda c=some e:=by
 obtain⟨b,h1,h2⟩:=zbfr fuel c (zbf (by omega)) hc hf
 obtain⟨r,h3⟩:=z5d fuel c (zbf (by omega)) hc
 have h4:=h3
 rw[z5i] at h4
 unfold zg7 zda
 rw[zk h1,zk h2]
 cases b with
 | false=>exact⟨_,rfl,rfl⟩
 | true =>
  rw[cond_true,cond_true,zk h3,zk h4]
  cases decide (12<r.1)<;>cases decide (3<r.2)<;>exact⟨_,rfl,rfl⟩

theorem zw3 {t:zl} {p:z7} (h:patE t p=0∨patE t p=9):0≤p.vars∧p.vars≤12∨(validT t).2=9∨validG p.graph=9:=by
 unfold patE at h
 split at h
 ·rename_i h1; exact .inr (.inl (h.resolve_left h1))
 split at h
 ·rename_i h1; exact .inr (.inr (h.resolve_left h1))
 split at h
 ·rcases h with h | h<;>cases h
 split at h
 ·rcases h with h | h<;>cases h
 ·exact .inl (by omega)
theorem zsu (g:z8):validG g≠9:=by
 unfold validG
 split
 ·decide
 split
 ·decide
 split<;>decide
theorem z5g {t:zl} (ht:OkT t) {q:z7} (hq:FewP q) {v:Int} (hv:0≤v∧v≤12) (hvq:¬ q.vars<v):∃e,zd2 t q v=some e∧zck t v q=some e∧(e=0→0≤q.vars∧q.vars≤12):=by
 have hs:=hq.slots
 have hocc:∀s:Int,zc6 q.slots (fun x=>zf3 x s)=some (occB q.slots s):=fun s=>zi2 _ (by omega) fun x _=>rfl
 have hocc2:∀s:Int,ze1 q s=some (occB q.slots s):=fun s=>by
  unfold ze1 occB
  rw[zbw (zbf (by omega))]
  rw[zco q.slots (fun y=>!decide (y.term.var=s)) (fun _=>some true) (fun i hi nxt=>by
   rw[zbz hi]
   cases decide (q.slots[i].term.var=s)<;>rfl),zee]
  rw[←Bool.not_not (List.any _ _),←List.not_any_eq_all_not]
  simp only[Bool.not_not]
  cases q.slots.any fun y=>decide (y.term.var=s)<;>simp
 have heq:zck t v q=zd2 t q v:=by
  unfold zck zd2
  rw[zv,if_neg hvq,zk (zh3 ht.few hq),zk (zgu ht.few hq)]
  simp only[zk (hocc _),zk (hocc2 _)]
 rw[heq]
 suffices h:Ok (zd2 t q v) (fun e=>e=0→0≤q.vars∧q.vars≤12) from ⟨_,h.choose_spec.1,h.choose_spec.1,h.choose_spec.2⟩
 have hvT:=ht.valid
 have key:patE t q=0∨patE t q=9→0≤q.vars∧q.vars≤12:=fun h=>by
  rcases zw3 h with h | h | h
  ·exact h
  ·rw[hvT] at h; cases h
  ·exact absurd h (zsu _)
 unfold zd2
 refine zef (zh3 ht.few hq) ?_
 refine zb3 (fun h9=>?_) (fun _=>.mk fun h=>key (.inl h))
 have hvars:=key (.inr (of_decide_eq_true h9))
 refine zlo (fun s:Int=>0≤s∧s≤12) (fun s=>(q.vars - s).toNat) hv (by unfold fuel; omega) ?_
 intro s nxt hsv hn
 refine zb3 (fun hc=>?_) (fun _=>.mk fun _=>hvars)
 have hc:=of_decide_eq_true hc
 refine zef (hocc s) ?_
 refine zb3 (fun _=>?_) (fun _=>.mk fun h=>key (.inl h))
 rw[wrapI (by omega)]
 exact hn _ ⟨by omega,by omega⟩ (by omega)
theorem zwl {n : Nat} {t : zl} {p : z7} {l : List zp} (hl : l.length ≤ 1000) (h : ∀ k ∈ l, ∃ e, zcp n t p k = some e ∧ zb1 n t p k = some e) :
  ∃e,(chk (l.length≤fuel) <| forN (fun i (s:Unit) nxts brks=>thn (l[i]?) fun e792=>thn (zcp n t p e792) fun r793=>cond (decide (r793=0)) (nxts ()) <| some r793) (l.length - 0) 0 () fun s=>some (0:Int))=some e ∧
   (chk (l.length≤fuel) <| forN (fun i (s:Unit) nxts brks=>thn (l[i]?) fun e792=>thn (zb1 n t p e792) fun r793=>cond (decide (r793=0)) (nxts ()) <| some r793) (l.length - 0) 0 () fun s=>some (0:Int))=some e:=by
 let w:zp→Int:=fun k=>(zcp n t p k).getD 0
 have hw1:∀k∈l,zcp n t p k=some (w k):=fun k hk'=>by
  obtain⟨b,h1,_⟩:=h k hk'
  simp only[w,h1,Option.getD_some]
 have hw2:∀k∈l,zb1 n t p k=some (w k):=fun k hk'=>by
  obtain⟨b,h1,h2⟩:=h k hk'
  simp only[w,h1,h2,Option.getD_some]
 have hfl:l.length≤fuel:=zbf (by omega)
 refine⟨errL w l,?_,?_⟩
 ·rw[zbw hfl,zco l (fun k=>decide (w k=0)) (fun k=>some (w k)) (fun i hi nxt=>by rw[zbz hi,zk (hw1 _ (List.getElem_mem hi))])]
  exact zik rfl
 ·rw[zbw hfl,zco l (fun k=>decide (w k=0)) (fun k=>some (w k)) (fun i hi nxt=>by rw[zbz hi,zk (hw2 _ (List.getElem_mem hi))])]
  exact zik rfl
theorem z1g {t:zl} (ht:OkT t):∀ (n:Nat) (c:zp) (p:z7),cSize c≤n→cSize c≤1000→cFew c→FewG p.graph→0≤p.vars∧p.vars≤12→∃e,zcp n t p c=some e∧zb1 n t p c=some e:=by
 intro n
 induction n with
 | zero=>intro c p h; have:=zoa c; omega
 | succ n ih =>
  intro c p hc h1000 hf hpg hpv
  have hkl:=cKids (c:=c)
  obtain⟨hq,hm,hkf⟩:=zr5 hf
  have hkid:∀ (p':z7),FewG p'.graph→0≤p'.vars∧p'.vars≤12→∀k∈c.kids,∃e,zcp n t p' k=some e∧zb1 n t p' k=some e:=fun p' h1 h2 k hk=>by
   have:=cKid hk
   exact ih k p' (by omega) (by omega) (zwy hkf hk) h1 h2
  unfold zcp zb1
  rw[zv (p:=c.kind=5),zv (p:=c.kind=5)]
  by_cases h5:c.kind=5
  ·rw[if_pos h5,if_pos h5,zv (p:=c.pattern.vars<p.vars)]
   by_cases hv:c.pattern.vars<p.vars
   ·rw[if_pos hv]
    have hi:zck t p.vars c.pattern=some 20:=by
     unfold zck
     rw[zv,if_pos hv]
    rw[zk hi]
    exact⟨_,rfl,rfl⟩
   ·rw[if_neg hv]
    obtain⟨e,he1,he2,he3⟩:=z5g ht hq hpv hv
    rw[zk he1,zk he2,zv (p:=e=0),zv (p:=e=0)]
    by_cases h0:¬ (e=0)
    ·rw[if_neg h0,if_neg h0]; exact⟨_,rfl,rfl⟩
    have h0:=Decidable.of_not_not h0
    rw[if_pos h0,if_pos h0]
    obtain⟨e2,hm1,_⟩:=z8t hpg hq.graph (m:=c.map)
    rw[zx1,zk hm1,zk hm1,zv (p:=e2=0),zv (p:=e2=0)]
    by_cases h2:¬ (e2=0)
    ·rw[if_neg h2,if_neg h2]; exact⟨_,rfl,rfl⟩
    have h2:=Decidable.of_not_not h2
    subst h2
    rw[if_pos rfl,if_pos rfl]
    obtain⟨i1,i2⟩:=zyc hpg hq.graph (m:=c.map) ⟨by omega,by omega⟩ hm1
    rw[zk i1,zk i2]
    cases decide c.map.nodes.Nodup&&decide c.map.edges.Nodup with
    | false=>exact⟨_,rfl,rfl⟩
    | true=>exact zwl (by omega) (hkid _ hq.graph (he3 h0))
  ·rw[if_neg h5,if_neg h5]
   exact zwl (by omega) (hkid _ hpg hpv)
theorem z96 {t:zl} (ht:OkT t) {p:z7} (hp:FewP p) {c:zp} (hc:cSize c≤1000) (hf:cFew c):∃e,zg6 t p c=some e∧zcl t p c=some e:=by
 unfold zg6 zcl
 rw[zk (zh3 ht.few hp),zk (zgu ht.few hp),zv (p:=patE t p=0),zv (p:=patE t p=0)]
 by_cases h0:¬ (patE t p=0)
 ·rw[if_neg h0,if_neg h0]; exact⟨_,rfl,rfl⟩
 have h0:=Decidable.of_not_not h0
 rw[if_pos h0,if_pos h0]
 obtain⟨e,h1,h2⟩:=z27 hc hf
 rw[zk h1,zk h2,zv (p:=e=0),zv (p:=e=0)]
 by_cases h3:¬ (e=0)
 ·rw[if_neg h3,if_neg h3]; exact⟨_,rfl,rfl⟩
 have h3:=Decidable.of_not_not h3
 rw[if_pos h3,if_pos h3]
 have hv:0≤p.vars∧p.vars≤12:=by
  rcases zw3 (.inl h0) with h | h | h
  ·exact h
  ·rw[ht.valid] at h; cases h
  ·exact absurd h (zsu _)
 obtain⟨e2,h4,h5⟩:=z1g ht fuel c p (zbf (by omega)) hc hf hp.graph hv
 rw[zk h4,zk h5]
 exact⟨_,rfl,rfl⟩
end Go.Proofs.YthjgdkloabgcoaaGreat
namespace Go.Proofs.YthjgdkloabgcoaaGreat
open Go.Abs

theorem z2f {l:List Int} {n:Nat} (h:AscL l n):l.length≤n:=by
 have key:∀i (hi:i<l.length),(i:Int)≤l[i]:=by
  intro i
  induction i with
  | zero=>intro hi; exact (h.range _ (List.getElem_mem hi)).1
  | succ i ih =>
   intro hi
   have h1:=ih (by omega)
   have h2:=(List.pairwise_iff_getElem.1 h.asc) i (i+1) (by omega) hi (by omega)
   omega
 rcases Nat.eq_zero_or_pos l.length with h0 | h0
 ·omega
 ·have h1:=key (l.length - 1) (by omega)
  have h2:=(h.range _ (List.getElem_mem (show l.length - 1<l.length by omega))).2
  omega
structure FewR (r:zu):Prop where
 base:zps r
 cond:cFew r.condition
 size:cSize r.condition≤1000
theorem z9r {r:zu} (hr:zps r):∃e,zcc r=some e∧zi8 r=some (if e=0 then (if (decide r.into.nodes.Nodup&&decide r.into.edges.Nodup)=true then 0 else 11) else e)∧(e=0→zui r.left.graph r.keep∧OkG r.left.graph∧MorG (extP r.left.graph r.keep) r.right.graph r.into):=by
 have hk:=hr.keep
 have hi:=hr.into
 obtain⟨e,h1,h2,h3⟩:=zt1 hr.left.graph (p:=r.keep) ⟨by omega,by omega⟩
 unfold zcc zi8
 by_cases h0:¬ (e=0)
 ·have hx:zew r.left.graph r.keep=some ((⟨[],[]⟩:z8),(⟨[],[]⟩:zby),e):=by
   unfold zew
   rw[zk h1,zv,if_neg h0]
  rw[zk h2,zk hx,zv (p:=e=0),zv (p:=e=0),if_neg h0,if_neg h0]
  exact⟨e,rfl,by rw[if_neg h0],fun h=>absurd h h0⟩
 have h0:=Decidable.of_not_not h0
 subst h0
 obtain⟨hp,hg⟩:=h3 rfl
 have hx:=zbhp hp ⟨by omega,by omega⟩ h1
 have hy:=z2c hp ⟨by omega,by omega⟩ h2
 rw[zk h2,zk hx,decide_eq_true rfl,cond_true,cond_true,zk hy]
 have hfe:FewG (extP r.left.graph r.keep):=by
  have a1:=z2f hp.nodes
  have a2:=z2f hp.edges
  have b1:=hg.nodes
  have b2:=hg.edges
  exact⟨by simp[extP]; omega,by simp[extP]; omega⟩
 obtain⟨e2,hm1,hm2⟩:=z8t hfe hr.right.graph (m:=r.into)
 simp only[zx1]
 rw[zk hm1,zk hm1]
 refine⟨e2,rfl,?_,fun h=>⟨hp,hg,(hm2 h).1⟩⟩
 rw[zv]
 by_cases h4:¬ (e2=0)
 ·rw[if_neg h4,if_neg h4]
 have h4:=Decidable.of_not_not h4
 subst h4
 rw[if_pos rfl,if_pos rfl,zk (zyc hfe hr.right.graph ⟨by omega,by omega⟩ hm1).1]
 cases decide r.into.nodes.Nodup&&decide r.into.edges.Nodup<;>rfl
theorem z2b {t:zl} {p:z7} (h:patE t p=0):OkG p.graph∧typedB t p.graph=true:=by
 unfold patE at h
 split at h
 ·rename_i h1; exact absurd h h1
 split at h
 ·rename_i h1; exact absurd h h1
 split at h
 ·cases h
 rename_i _ h1 h2
 exact⟨okG (Decidable.of_not_not h1),by simpa using h2⟩
structure OkR (t:zl) (r:zu):Prop where
 types:OkT t
 left:OkG r.left.graph
 right:OkG r.right.graph
 ltyped:typedB t r.left.graph=true
 rtyped:typedB t r.right.graph=true
theorem zjp {n:Nat} {l:List Int} : ∀x∈restL n l,0≤x∧x<n:=fun _ hx=>(z9z.1 hx).1
noncomputable def ruleE (t:zl) (r:zu):Int:=(zb5 t r).getD 0
theorem zjv {t:zl} (ht:FewT t) {r:zu} (hr:FewR r):zgv t r=some (ruleE t r)∧zb5 t r=some (ruleE t r)∧(ruleE t r=0→OkR t r):=by
 suffices h:∃e,zgv t r=some e∧zb5 t r=some e∧(e=0→OkR t r) by
  obtain⟨e,h1,h2,h3⟩:=h
  have:ruleE t r=e:=by unfold ruleE; rw[h2]; rfl
  rw[this]
  exact⟨h1,h2,h3⟩
 have hb:=hr.base
 unfold zgv zb5
 rw[zk (zmg ht),zk (zh7 ht),zv (p:=(validT t).2=0),zv (p:=(validT t).2=0)]
 by_cases h1:¬ ((validT t).2=0)
 ·rw[if_neg h1,if_neg h1]; exact⟨_,rfl,rfl,fun h=>absurd h h1⟩
 have h1:=Decidable.of_not_not h1
 have hT:=okTypes ht h1
 rw[if_pos h1,if_pos h1,zk (zbc8 (by have:=hb.name; omega)),zk (zww (by have:=hb.name; omega))]
 cases nameB r.name with
 | false=>exact⟨_,rfl,rfl,fun h=>by cases h⟩
 | true =>
 rw[cond_true,cond_true,zk (zh3 ht hb.left),zk (zgu ht hb.left),zv (p:=patE t r.left=0),zv (p:=patE t r.left=0)]
 by_cases h2:¬ (patE t r.left=0)
 ·rw[if_neg h2,if_neg h2]; exact⟨_,rfl,rfl,fun h=>absurd h h2⟩
 have h2:=Decidable.of_not_not h2
 rw[if_pos h2,if_pos h2,zk (zzm (r:=r) hT hb),zk (zqr (r:=r) hT hb),zv (p:=rightE t r=0),zv (p:=rightE t r=0)]
 by_cases h3:¬ (rightE t r=0)
 ·rw[if_neg h3,if_neg h3]; exact⟨_,rfl,rfl,fun h=>absurd h h3⟩
 have h3:=Decidable.of_not_not h3
 obtain⟨g1,g2⟩:=z2b h2
 obtain⟨g3,g4⟩:=zwf h3
 have hOk:OkR t r:=⟨hT,g1,g3,g2,g4⟩
 obtain⟨e,k1,k2,k3⟩:=z9r hb
 have hi:=hb.into
 rw[if_pos h3,if_pos h3,zk (show zi8 ⟨r.name,r.left,r.right,r.keep,r.into,r.injective,r.condition⟩=_ from k2),zk (show zcc ⟨r.name,r.left,r.right,r.keep,r.into,r.injective,r.condition⟩=_ from k1),zv (p:=e=0),zk (zjz (by omega)),zv (p:=r.into.nodes.Nodup)]
 by_cases h4:¬ (e=0)
 ·rw[if_neg h4,if_neg h4,zv,if_neg h4]; exact⟨_,rfl,rfl,fun h=>absurd h h4⟩
 have h4:=Decidable.of_not_not h4
 rw[if_pos h4,if_pos h4,zk (zjz (by omega)),zv (p:=r.into.edges.Nodup)]
 by_cases n1:¬ r.into.nodes.Nodup
 ·rw[if_neg n1,decide_eq_false n1]; exact⟨_,rfl,rfl,fun h=>by cases h⟩
 have n1:=Decidable.of_not_not n1
 by_cases n2:¬ r.into.edges.Nodup
 ·rw[if_pos n1,if_neg n2,decide_eq_false n2,Bool.and_false]; exact⟨_,rfl,rfl,fun h=>by cases h⟩
 have n2:=Decidable.of_not_not n2
 rw[if_pos n1,if_pos n2,decide_eq_true n1,decide_eq_true n2,Bool.and_self,if_pos rfl,decide_eq_true rfl,cond_true]
 rw[zk (show zgo ⟨r.name,r.left,r.right,r.keep,r.into,r.injective,r.condition⟩=_ from (zl6 hb).1),zk (show zcu ⟨r.name,r.left,r.right,r.keep,r.into,r.injective,r.condition⟩=_ from (zl6 hb).2)]
 have hrn:=hb.right.graph.nodes
 have hre:=hb.right.graph.edges
 have l1:=zil r.right.graph.nodes.length r.into.nodes
 have l2:=zil r.right.graph.edges.length r.into.edges
 obtain⟨m1,m2⟩:=zw5 ht g3 g4 (nodes:=madeN r) (edges:=madeE r) zjp zjp (by unfold madeN; omega) (by unfold madeE; omega)
 rw[zk (show zhe ⟨t.nodes,t.edges⟩ r.right.graph (madeN r) (madeE r)=_ from m1),zk m2]
 cases makeB t r.right.graph (madeN r) (madeE r) with
 | false=>exact⟨_,rfl,rfl,fun h=>by cases h⟩
 | true =>
 obtain⟨e2,c1,c2⟩:=z96 hT hb.left hr.size hr.cond
 rw[cond_true,cond_true,zk c1,zk c2]
 exact⟨e2,rfl,rfl,fun _=>hOk⟩
theorem zr0 {t:zl} (ht:FewT t) {r:zu} (hr:FewR r):zh9 t r=some (if ruleE t r=0 then (goneN r,goneE r,0) else ([],[],ruleE t r))∧zdz t r=some (if ruleE t r=0 then (goneN r,goneE r,0) else ([],[],ruleE t r)):=by
 obtain⟨h1,h2,_⟩:=zjv ht hr
 unfold zh9 zdz
 rw[zk (show zgv t ⟨r.name,r.left,r.right,r.keep,r.into,r.injective,r.condition⟩=_ from h1),zk (show zb5 t ⟨r.name,r.left,r.right,r.keep,r.into,r.injective,r.condition⟩=_ from h2),zv (p:=ruleE t r=0),zv (p:=ruleE t r=0)]
 rw[zk (show zhd ⟨r.name,r.left,r.right,r.keep,r.into,r.injective,r.condition⟩=_ from (zwd hr.base).1),zk (show zdy ⟨r.name,r.left,r.right,r.keep,r.into,r.injective,r.condition⟩=_ from (zwd hr.base).2)]
 constructor<;>split<;>rfl
theorem zwm {t:zl} (ht:FewT t) {r:zu} (hr:FewR r):zhc t r=some (if ruleE t r=0 then (madeN r,madeE r,0) else ([],[],ruleE t r))∧zem t r=some (if ruleE t r=0 then (madeN r,madeE r,0) else ([],[],ruleE t r)):=by
 obtain⟨h1,h2,_⟩:=zjv ht hr
 unfold zhc zem
 rw[zk h1,zk h2,zv (p:=ruleE t r=0),zv (p:=ruleE t r=0),zk (zl6 hr.base).1,zk (zl6 hr.base).2]
 constructor<;>split<;>rfl

def rawL (t:zl) (g:z8) (nodes edges:List Int):List Int:=nodes.map (fun n=>g.nodes.getD n.toNat default)++edges.map fun n=>(t.nodes.length:Int)+(g.edges.getD n.toNat default).type
def placesL (t:zl) (g:z8) (nodes edges:List Int):List Int:=((List.range (t.nodes.length+t.edges.length)).filter fun p:Nat=>decide ((p:Int)∈rawL t g nodes edges)).map fun p:Nat=>(p:Int)
theorem z1m (t:zl) (g:z8) (nodes edges:List Int):(placesL t g nodes edges).Pairwise (· < ·):=by
 unfold placesL
 rw[List.pairwise_map]
 exact ((List.pairwise_lt_range).filter _).imp fun h=>by omega
theorem zox {t:zl} {g:z8} {nodes edges:List Int} {x:Int} : x∈placesL t g nodes edges↔(0≤x∧x<(t.nodes.length+t.edges.length:Nat))∧x∈rawL t g nodes edges:=by
 unfold placesL
 simp only[List.mem_map,List.mem_filter,List.mem_range,decide_eq_true_eq]
 constructor
 ·rintro⟨i,⟨h1,h2⟩,rfl⟩; exact⟨⟨by omega,by omega⟩,h2⟩
 ·rintro⟨⟨h1,h2⟩,h3⟩; exact⟨x.toNat,⟨by omega,by rwa [Int.toNat_of_nonneg h1]⟩,by omega⟩
theorem zss (t:zl) (g:z8) (nodes edges:List Int):(placesL t g nodes edges).length≤t.nodes.length+t.edges.length:=by
 unfold placesL
 rw[List.length_map]
 exact Nat.le_trans (List.length_filter_le _ _) (by simp)
theorem z2n {t:zl} (ht:OkT t) {g:z8} (hg:OkG g) (hb:typedB t g=true) {nodes edges:List Int} (hn:∀x∈nodes,0≤x∧x<g.nodes.length) (he:∀x∈edges,0≤x∧x<g.edges.length):∀x∈rawL t g nodes edges,0≤x∧x<(t.nodes.length+t.edges.length:Nat):=by
 intro x hx
 unfold rawL at hx
 rcases List.mem_append.1 hx with hx | hx
 ·obtain⟨i,hi,rfl⟩:=List.mem_map.1 hx
  have h1:=hn i hi
  have h2:i.toNat<g.nodes.length:=by omega
  have:=zkl hb hg h2
  rw[zcn h2]
  omega
 ·obtain⟨i,hi,rfl⟩:=List.mem_map.1 hx
  have h1:=he i hi
  have h2:i.toNat<g.edges.length:=by omega
  have h3:=(hg.edge _ h2).1
  unfold typedB at hb
  rw[Bool.and_eq_true] at hb
  have h4:=of_decide_eq_true (List.all_eq_true.1 hb.2 _ (List.getElem_mem h2))
  rw[zcn h2] at h3 ⊢
  omega
theorem zse {g:z8} {x:Int} (h:0≤x∧x<g.nodes.length):atZ g.nodes x=some (g.nodes.getD x.toNat default):=by
 have hi:x.toNat<g.nodes.length:=by omega
 unfold atZ; rw[if_pos h.1,List.getElem?_eq_getElem hi,zcn hi]
theorem z2h {g:z8} {x:Int} (h:0≤x∧x<g.edges.length):atZ g.edges x=some (g.edges.getD x.toNat default):=by
 have hi:x.toNat<g.edges.length:=by omega
 unfold atZ; rw[if_pos h.1,List.getElem?_eq_getElem hi,zcn hi]
section
variable {t:zl} (ht:OkT t) {g:z8} (hg:OkG g) (hb:typedB t g=true) {nodes edges:List Int} (hn:∀x∈nodes,0≤x∧x<g.nodes.length) (he:∀x∈edges,0≤x∧x<g.edges.length) (hnl:nodes.length≤1000) (hel:edges.length≤1000)
include ht hg hb hn he
theorem wrapType {x:Int} (hx:x∈edges):IntKind.i64.wrap (((t.nodes.length:Nat):Int)+(g.edges.getD x.toNat default).type)=(t.nodes.length:Int)+(g.edges.getD x.toNat default).type:=by
 have h1:=z2n ht hg hb hn he ((t.nodes.length:Int)+(g.edges.getD x.toNat default).type) (by unfold rawL; exact List.mem_append_right _ (List.mem_map.2 ⟨x,hx,rfl⟩))
 have:=ht.n12
 have:=ht.m20
 exact wrapI (by omega)
include hnl hel
theorem zxv:zej t g nodes edges=some (placesL t g nodes edges):=by
 unfold zej
 rw[zbw (zbf (by omega))]
 rw[(zd3 nodes (fun s n=>s++[g.nodes.getD n.toNat default]) (fun i s=>s.length=i) rfl (fun i hi s hs=>⟨fun nxt=>by rw[zbz hi,zk (zse (hn _ (List.getElem_mem hi))),zbw (by omega)],by simp[hs]⟩)).1]
 rw[zmr,List.nil_append,zbw (zbf (by omega))]
 rw[(zd3 edges (fun s n=>s++[(t.nodes.length:Int)+(g.edges.getD n.toNat default).type]) (fun i s=>s.length=nodes.length+i) (by simp) (fun i hi s hs=>⟨fun nxt=>by
  rw[zbz hi,zk (z2h (he _ (List.getElem_mem hi))),zbw (by omega),wrapType ht hg hb hn he (List.getElem_mem hi)],by simp[hs]; omega⟩)).1]
 rw[zmr]
 have hl:(rawL t g nodes edges).length≤1000000:=by simp[rawL]; omega
 show (thn (zg5 (rawL t g nodes edges)) fun r=>thn (zf9 r) fun r=>some r)=_
 rw[zk (z6j hl),zk (zv1 (by rw[zrs]; exact hl))]
 congr 1
 obtain⟨h1,h2⟩:=zsw (zro (rawL t g nodes edges))
 refine zbfm h1 (z1m _ _ _ _) fun x=>?_
 rw[h2,(zqf _).mem_iff,zox]
 exact⟨fun h=>⟨z2n ht hg hb hn he x h,h⟩,fun h=>h.2⟩
theorem zwh:zc0 t g nodes edges=some (placesL t g nodes edges):=by
 have h12:=ht.n12
 have h20:=ht.m20
 have hw:(IntKind.i64.wrap (((t.nodes.length:Nat):Int)+((t.edges.length:Nat):Int))).toNat=t.nodes.length+t.edges.length:=by rw[wrapI (by omega)]; omega
 unfold zc0
 rw[hw,zbw (zbf (by omega))]
 have anyfold:∀ (q:Int→Bool) (l:List Int) (b:Bool),l.foldl (fun s a=>s||q a) b=(b||l.any q):=by
  intro q l
  induction l with
  | nil=>intro b; simp
  | cons a l ih=>intro b; rw[List.foldl_cons,ih,List.any_cons,Bool.or_assoc]
 have e:=zd3 (K:=fun s3356=>some s3356) (s:=([]:List Int)) (List.range (t.nodes.length+t.edges.length)) (fun (s:List Int) (p:Nat)=>if decide ((p:Int)∈rawL t g nodes edges)=true then s++[(p:Int)] else s) (fun i s=>s.length≤i) (Nat.le_refl _)
  (f:=fun i3356 (s3356:(List Int)) nxts3356 brks3356=>chk (nodes.length≤fuel) <| forN (fun i3388 (s3388:Bool) nxts3388 brks3388=>cond s3388 (nxts3388 true) <| thn (nodes[i3388]?) fun e3393=>thn (atZ g.nodes e3393) fun e3394=>nxts3388 (decide (e3394=((i3356:Nat):Int)))) (nodes.length - 0) 0 false fun s3388=>chk (edges.length≤fuel) <| forN (fun i3400 (s3400:Bool) nxts3400 brks3400=>cond s3400 (nxts3400 true) <| thn (edges[i3400]?) fun e3405=>thn (atZ g.edges e3405) fun e3406=>nxts3400 (decide ((IntKind.i64.wrap (((t.nodes.length:Nat):Int)+e3406.type))=((i3356:Nat):Int)))) (edges.length - 0) 0 s3388 fun s3400=>cond s3400 (chk (s3356.length+1≤68719476736) <| nxts3356 (s3356++[((i3356:Nat):Int)])) <| nxts3356 s3356)
  (fun i hi s hs=>⟨fun nxt=>?_,?_⟩)
 ·rw[List.length_range] at e
  rw[e.1]
  congr 1
  unfold placesL
  have:∀ (q:List Nat) (s:List Int),q.foldl (fun (s:List Int) (p:Nat)=>if decide ((p:Int)∈rawL t g nodes edges)=true then s++[(p:Int)] else s) s=s++(q.filter fun p:Nat=>decide ((p:Int)∈rawL t g nodes edges)).map fun p:Nat=>(p:Int):=by
   intro q
   induction q with
   | nil=>intro s; simp
   | cons a q ih =>
    intro s
    rw[List.foldl_cons,ih,List.filter_cons]
    split<;>simp
  rw[this,List.nil_append]
 ·rw[List.getElem_range,zbw (zbf (by omega))]
  rw[(zd3 nodes (fun (s:Bool) n=>s||decide (g.nodes.getD n.toNat default=(i:Int))) (fun _ _=>True) trivial (fun j hj s _=>⟨fun nxt=>by
   cases s with
   | true=>rfl
   | false=>rw[cond_false,zbz hj,zk (zse (hn _ (List.getElem_mem hj))),Bool.false_or],trivial⟩)).1]
  rw[anyfold,Bool.false_or,zbw (zbf (by omega))]
  rw[(zd3 edges (fun (s:Bool) n=>s||decide ((t.nodes.length:Int)+(g.edges.getD n.toNat default).type=(i:Int))) (fun _ _=>True) trivial (fun j hj s _=>⟨fun nxt=>by
   cases s with
   | true=>rfl
   | false=>rw[cond_false,zbz hj,zk (z2h (he _ (List.getElem_mem hj))),wrapType ht hg hb hn he (List.getElem_mem hj),Bool.false_or],trivial⟩)).1]
  rw[anyfold]
  have hi':i<t.nodes.length+t.edges.length:=by simpa using hi
  have hm:(nodes.any (fun n=>decide (g.nodes.getD n.toNat default=(i:Int)))||edges.any fun n=>decide ((t.nodes.length:Int)+(g.edges.getD n.toNat default).type=(i:Int)))=decide ((i:Int)∈rawL t g nodes edges):=by
   rw[Bool.eq_iff_iff]
   unfold rawL
   simp only[Bool.or_eq_true,List.any_eq_true,decide_eq_true_eq,List.mem_append,List.mem_map]
  rw[hm]
  cases decide ((i:Int)∈rawL t g nodes edges) with
  | true=>rw[cond_true,if_pos rfl,zbw (by omega)]
  | false=>simp
 ·rw[List.getElem_range]
  split
  ·simp; omega
  ·omega
end
end Go.Proofs.YthjgdkloabgcoaaGreat
