/- Joined texts, part 4: lemmas for the statement. No condition. -/
import Derived.Shelf.Slices.In.SortAlone
import Derived.Shelf.Slices.In.SortNone
import Derived.Shelf.Slices.CompactI
import Derived.Sort.OwnSortedInts
import Derived.Test.YtldllhbhnpjlcaaGreatJ3
import Derived.Ground.NamesProg
import Derived.Ground.Names2Prog
import Derived.Test.YtldllhbhnpjlcaaGreatProg
import Derived.ChangeArms
import Derived.SizedLaws
import Derived.Test.YtldllhbhnpjlcaaGreatJ1
import Derived.OpenShut
import Derived.ProofKit
import Derived.Carry
import Derived.Shelf.Spec.SlicesGrow
import Derived.Test.YtldllhbhnpjlcaaGreatJ2
import Derived.ArgAppend
import Derived.Laws.Slices
import Derived.RangeFuncGives
import Derived.RangeFuncBound
import Derived.RangeFuncBox
import Derived.RangeFuncLeaves
import Derived.Maps.AppendAt
import Derived.Maps.RangeWalk
import Derived.RegionIn
import Derived.Shelf.Abstract
import Derived.WalkKit
import Derived.OwnWalkIn
import Derived.TacticsInMore
import Derived.LoopNIn
import Derived.LoopIn
set_option maxHeartbeats 4000000
set_option linter.unusedSimpArgs false
set_option linter.unusedVariables false
open Nat (reduceEqDiff reduceLT reduceLeDiff reduceMul reduceAdd reduceSub)
open Go.IntKind (i64)
open Go.Proofs.Tryz
open Go.Proofs.Tryz renaming prog → pw
set_option maxRecDepth 20000
namespace Go.bP
open Go.RowKit
variable{P:Program}
def xD(hdr:Value)(n:Nat):Value:=match hdr with
 | .slice a _ cap=>.slice a n cap
 |v=>v
theorem aov{f:FuncId}{v:Nat}{e:TypeId}{sz:Nat}{es es':List (List PV)}{ps:List PV}{ws:List Value}(hc:gl P f=true)(hlen:es'.length<=es.length)(hsz:∀x∈es',x.length=sz)
  (hfl:es'.flatten=ws.map PV.val) (hone:∀u∈ws,u.oneCell'=true)
  (h:∀ (B:Nat) (I:Mem) (w:World) (hdr:Value) (us vs:List Value),B<=w.heap.size->I.inW w->rq w B I hdr e sz es us->hdr.oneCell'=true->VRs I vs ps ->
   Calls P f (hdr :: vs).toArray w λx w'=>x = .returned (xD hdr es'.length)/\apK w w' hdr (es'.length * sz) ws) :
  pH P f v e sz es ps (λa c=>a = .row 1000000 (v+1)/\c=some (.row (v+1) e sz es')):=by
 refine⟨hc,λB I w hdr us vs hB hI hr h1 hv=>(h B I w hdr us vs hB hI hr h1 hv).mono ?_⟩;rintro x w' ⟨rfl,hg,hrow⟩;have hwl:ws.length=es'.length * sz:=by have h2:=b5 hsz;rw[hfl,List.length_map] at h2;exact h2
 have hbl:(xD hdr es'.length).ownBlock=hdr.ownBlock:=by rcases hr.own.2 with ⟨rfl,_⟩|⟨g,cap,cur,rfl,_⟩<;>rfl
 have yB:(xD hdr es'.length).oneCell'=true:=by rcases hr.own.2 with ⟨rfl,_⟩|⟨g,cap,cur,rfl,_⟩<;>rfl
 let L:bg:=λi=>if i=1000000 then some (.row (v+1) (xD hdr es'.length) sz) else none
 have hL:∀i l,L i=some l->i=1000000/\l = .row (v+1) (xD hdr es'.length) sz:=λi l h=>by
  simp only[L] at h;split at h
  ·rename_i hi;exact⟨hi,by simpa using h.symm⟩
  ·cases h
 have hblk:∀b,hdr.ownBlock=some b->B<=b/\b<w.heap.size:=λb hb=>vC hr.own hb
 refine⟨xD hdr es'.length,.row 1000000 (v+1),bh cv 1000000 (.row (v+1) e sz es'),I,L,rfl,⟨rfl,by simp[bh]⟩,.row _ 1000000 (v+1) (v+1) (xD hdr es'.length) sz (by simp[L]) (Nat.le_refl _) (λ_=>rfl) yB,?_⟩;exact
 {below:=⟨hg.os,hg.tape,hg.output,hg.size,λk hk=>hg.block k (Nat.lt_of_lt_of_le hk hB) λhb=>by have:=(hblk k hb.symm).1;have:k<B:=hk;omega⟩
  mem:=hI.keep λb ⟨o,u,hu⟩=>hg.block b (hI.lt hu) λhb=>by rw[hr.free b hb.symm o] at hu;cases hu
  mw:=Mem.ew I
  m8:=λ_ _ _ _=>rfl
  frame:=λb hb hn=>hg.block b hb λhb'=>hn hb'.symm
  loc:=λi=>by
   by_cases hi:i=1000000
   ·subst hi;simp only[Ctx.am1,if_true];exact⟨v+1,xD hdr es'.length,by simp[L],by omega,λe=>by omega⟩
   ·simp only[Ctx.am1,if_neg hi]
  j9:=λid l b hl hb=>by obtain⟨_,rfl⟩:=hL id l hl;exact .inr (show hdr.ownBlock=some b from hbl ▸ hb)
  size:=rfl
  env:=λt=>.dead _
  dom:=λi l hl=>by obtain⟨rfl,rfl⟩:=hL i l hl;exact⟨.row (v+1) e sz es',by simp[bh]⟩
  chunk:=λi ch hch=>by
   by_cases hi:i=1000000
   ·subst hi;have:Chunk.row (v+1) e sz es'=ch:=by simpa[bh] using hch
    subst this;refine⟨xD hdr es'.length,ws,by simp[L],⟨hwl,?_⟩,hr.pos,hsz,λj u c hu hc=>?_,hone,λb hb=>hr.free b (hbl ▸ hb)⟩
    ·rcases hr.own.2 with ⟨e1,e2⟩|⟨g,cap,cur,rfl,g1,g2,g3,g4,g5,g6⟩
     ·have h0:es'.length=0:=by omega
      exact .inl ⟨by rw[e1,h0];rfl,h0⟩
     ·obtain⟨cur',k1,k2,k3⟩:=hrow g rfl cur e g2 (by rw[g5];exact Nat.mul_le_mul_right sz (by omega));exact .inr ⟨g,cap,cur',rfl,g1,k1,by omega,g4,by rw[k2];exact g5,k3⟩
    ·rw[hfl] at hc;simp only[List.getElem?_map,hu,Option.map_some,cm] at hc;subst hc;exact .val u (hone u (List.mem_of_getElem? hu))
   ·have:cv i=some ch:=by simpa[bh,hi] using hch
    cases this
  fO:=λi l b hl hb=>by obtain⟨rfl,rfl⟩:=hL i l hl;have:=hblk b (hbl ▸ hb);exact⟨this.1,Nat.lt_of_lt_of_le this.2 hg.size⟩
  apart:=λi j li lj b hi hj _ _=>by rw[(hL i li hi).1,(hL j lj hj).1] }
end Go.bP
namespace Go.SortM
open Go.bP Go.RowKit Go.Shelf Go.Sort Go.Proofs
variable{P:Program}{ρ:Ren}
def encN(n:Int):List PV:=[.val (.int .i64 n)]
theorem flat_encN(d:List Int):(d.map encN).flatten=(d.map (Value.int .i64)).map .val:=by
 induction d with
 |nil=>rfl
 |cons x r ih=>rw[List.map_cons,List.flatten_cons,ih];rfl
theorem one_ints(d:List Int):∀u∈d.map (Value.int .i64),u.oneCell'=true:=λu hu=>by obtain⟨y,_,rfl⟩:=List.mem_map.1 hu;rfl
theorem us_ints{w:World}{B:Nat}{I:Mem}{hdr:Value}{e:TypeId}{d:List Int}{us:List Value}(hr:rq w B I hdr e 1 (d.map encN) us):us=d.map (Value.int .i64):=by
 have hl:us.length=(d.map (Value.int .i64)).length:=by have h2:=hr.own.1;simp only[List.length_map] at h2 ⊢;omega
 apply List.ext_getElem hl;intro j j1 j2;have:=hr.val j us[j] (.val (d.map (Value.int .i64))[j]) (List.getElem?_eq_getElem j1) (by rw[flat_encN];simp[j2]);generalize us[j]=u,(d.map (Value.int .i64))[j]=u' at this;cases this;rfl
theorem holds_row{w:World}{B:Nat}{I:Mem}{g n cap:Nat}{e:TypeId}{d:List Int}{us:List Value}{cur:Array Value}(hr:rq w B I (.slice (some ⟨g,0,none⟩) n cap) e 1 (d.map encN) us)(hg:w.heap[g]? = some (.cells cur e (0,0)))
  (ht:cur.toList.take ((d.map encN).length * 1)=us):Holds (Value.int .i64) w g 0 d.toArray:=by
 refine holds_of_blockI hg ?_;rw[us_ints hr] at ht;simpa using ht
theorem callM_sortInt(L:Lays.n189 P ρ)(hc:gl P (ρ.f 189)=true)(d:List Int)(hd:d.length<4611686018427387904)(v:Nat)(e:TypeId) :
  pH P (ρ.f 189) v e 1 (d.map encN) [] (λa c=>a = .dg []/\c=some (.row v e 1 ((d.mergeSort λx y=>decide (x<=y)).map encN))):=by
 have hlen:(d.mergeSort λx y=>decide (x<=y)).length=d.length:=List.length_mergeSort _;refine ar9 (ws:=(d.mergeSort λx y=>decide (x<=y)).map (Value.int .i64)) hc (by simp[hlen]) (λx hx=>?_) (flat_encN _) (one_ints _) ?_
 ·obtain⟨y,_,rfl⟩:=List.mem_map.1 hx;rfl
 intro B I w hdr us vs hB hI hr hone hv;have hvs:vs=[]:=List.length_eq_zero_iff.1 (by simpa using hv.1);subst hvs;rcases hr.own.2 with ⟨rfl,hn⟩|⟨g,cap,cur,rfl,g1,g2,g3,g4,g5,g6⟩
 ·have hd0:d=[]:=by simpa using hn
  subst hd0;refine (Any.slices_Sort_int_none L none 0 w).mono ?_;rintro x w' ⟨rfl,rfl⟩;exact⟨rfl,⟨rfl,rfl,rfl,Nat.le_refl _,λ_ _ _=>rfl⟩,λg hg=>by cases hg⟩
 ·have hH:=holds_row hr g2 g6;have hb:g<w.heap.size:=(Array.getElem?_eq_some_iff.1 g2).1;have avA:=calls_of_every_depth λD=>AnyS.slices_Sort_int_alone L D g 0 cap d w hH hb hd
  have hn:(d.map encN).length=d.length:=List.length_map _;rw[hn];refine avA.mono ?_;rintro x w' ⟨rfl,n,os,rfl⟩;refine⟨rfl,grownBy_sortedI _,λg' hg cur' e' hg' hle=>?_⟩;have:g=g':=by simpa[Value.ownBlock] using hg
  subst this;refine⟨_,heap_sortedI _ hg',by simp[putCells],?_⟩;have h3:=take_putCellsI cur' (d.mergeSort λx y=>decide (x<=y)) (by omega);rw[hlen] at h3;simpa using h3
theorem heap_putI{w:World}{g n:Nat}{cur:Array Value}{e:TypeId}{fr:Nat×Nat}(d:Array Int)(hb:w.heap[g]? = some (.cells cur e fr)) :
  (putRow (Value.int .i64) (Sort.ahead w n) g 0 d).heap[g]? = some (.cells (putCells (Value.int .i64) 0 d cur) e fr):=by
 simp[putRow,mapBlock,Sort.ahead,Array.getElem?_modify,hb,onCells]
theorem grownBy_putI{w:World}{g n:Nat}(d:Array Int):w.grownBy (putRow (Value.int .i64) (Sort.ahead w n) g 0 d) (some g):=by
 refine⟨rfl,rfl,rfl,by simp[putRow,mapBlock,Sort.ahead],λk hk hne=>?_⟩;have:g≠k:=λe=>hne (by rw[e])
 simp[putRow,mapBlock,Sort.ahead,Array.getElem?_modify,this]
theorem compact_le(d:List Int):(Lib.compact d).length<=d.length:=by unfold Lib.compact Lib.compactUpTo;rw[List.length_map];refine Nat.le_trans (List.length_filter_le _ _) ?_;simp
theorem callM_compactInt(L:Lays2.n20 P ρ)(hc:gl P (ρ.f 20)=true)(d:List Int)(hd:d.length<4611686018427387904)(v:Nat)(e:TypeId) :
  pH P (ρ.f 20) v e 1 (d.map encN) [] (λa c=>a = .row 1000000 (v+1)/\c=some (.row (v+1) e 1 ((Lib.compact d).map encN))):=by
 have hle:=compact_le d;refine aov (ws:=(Lib.compact d).map (Value.int .i64)) hc (by simpa using hle) (λx hx=>?_) (flat_encN _) (one_ints _) ?_
 ·obtain⟨y,_,rfl⟩:=List.mem_map.1 hx;rfl
 intro B I w hdr us vs hB hI hr hone hv;have hvs:vs=[]:=List.length_eq_zero_iff.1 (by simpa using hv.1);subst hvs;have hn:(d.map encN).length=d.length:=List.length_map _;have hn':((Lib.compact d).map encN).length=(Lib.compact d).length:=List.length_map _;rcases hr.own.2 with ⟨rfl,h0⟩|⟨g,cap,cur,rfl,g1,g2,g3,g4,g5,g6⟩
 ·have hd0:d=[]:=by simpa using h0
  subst hd0;refine (Any.slices_Compact_int_empty L none 0 w).mono ?_;rintro x w' ⟨rfl,rfl⟩;exact⟨rfl,⟨rfl,rfl,rfl,Nat.le_refl _,λ_ _ _=>rfl⟩,λg hg=>by cases hg⟩
 ·have hH:=holds_row hr g2 g6;rw[hn] at g3 g6;rw[hn,hn'];refine (Any.slices_Compact_int L g 0 cap d w hH (by omega) g3).mono ?_;rintro x w' ⟨rfl,q,rfl⟩;refine⟨rfl,grownBy_putI _,λg' hg cur' e' hg' hle'=>?_⟩;have:g=g':=by simpa[Value.ownBlock] using hg
  subst this;have e0:cur=cur'/\e=e':=by rw[g2] at hg';simpa using hg'
  obtain⟨rfl,rfl⟩:=e0;refine⟨_,heap_putI _ hg',by simp[putCells],?_⟩;have hl2:(Lib.compact d++List.replicate (d.length-(Lib.compact d).length) 0).length=d.length:=by simp;omega
  have h3:=take_putCellsI cur (Lib.compact d++List.replicate (d.length-(Lib.compact d).length) 0) (by rw[hl2,g5];omega);rw[hl2] at h3;have h4:=congrArg (List.take (Lib.compact d).length) h3;rw[List.take_take,Nat.min_eq_left hle,List.map_append,List.take_left' (by simp)] at h4;simpa using h4
end Go.SortM
namespace Go.Proofs
open Go.Shelf
def YtldllhbhnpjlcaaGreat.alH:Go.Shelf.Ren:=⟨λ| 189=>190|125=>272|257=>271|128=>348|129=>349|294=>340|295=>341|296=>342|297=>343|298=>344|299=>345|216=>218|300=>346|301=>347|328=>388|329=>389|330=>390|331=>391|332=>392|215=>301|343=>421|n=>n,λ| 28=>35|3=>3|46=>290|0=>0|51=>398|53=>85|4=>4|183=>392|182=>391|131=>233|5=>5|9=>9|218=>424|222=>428|228=>449|229=>285|n=>n,λ| n=>n⟩
theorem YtldllhbhnpjlcaaGreat.sortInt:Go.Proofs.Lays.n189 pw YtldllhbhnpjlcaaGreat.alH:={
 mixed:=by kernel_rfl
 f125:=Tryz.func272.trans (congrArg some (by kernel_rfl))
 f128:=Tryz.func348.trans (congrArg some (by kernel_rfl))
 f129:=Tryz.func349.trans (congrArg some (by kernel_rfl))
 f189:=Tryz.func190.trans (congrArg some (by kernel_rfl))
 f215:=Tryz.func301.trans (congrArg some (by kernel_rfl))
 f216:=Tryz.func218.trans (congrArg some (by kernel_rfl))
 f257:=Tryz.func271.trans (congrArg some (by kernel_rfl))
 f294:=Tryz.func340.trans (congrArg some (by kernel_rfl))
 f295:=Tryz.func341.trans (congrArg some (by kernel_rfl))
 f296:=Tryz.func342.trans (congrArg some (by kernel_rfl))
 f297:=Tryz.func343.trans (congrArg some (by kernel_rfl))
 f298:=Tryz.func344.trans (congrArg some (by kernel_rfl))
 f299:=Tryz.func345.trans (congrArg some (by kernel_rfl))
 f300:=Tryz.func346.trans (congrArg some (by kernel_rfl))
 f301:=Tryz.func347.trans (congrArg some (by kernel_rfl))
 f328:=Tryz.func388.trans (congrArg some (by kernel_rfl))
 f329:=Tryz.func389.trans (congrArg some (by kernel_rfl))
 f330:=Tryz.func390.trans (congrArg some (by kernel_rfl))
 f331:=Tryz.func391.trans (congrArg some (by kernel_rfl))
 f332:=Tryz.func392.trans (congrArg some (by kernel_rfl))
 f343:=Tryz.func421.trans (congrArg some (by kernel_rfl))
 t0:=underlying0
 a0:=isAgg0
 z0:=sizeOf0
 v0:=zeroValue0
 t3:=underlying3
 a3:=isAgg3
 z3:=sizeOf3
 v3:=zeroValue3
 t4:=underlying4
 a4:=isAgg4
 z4:=sizeOf4
 v4:=zeroValue4
 t5:=underlying5
 a5:=isAgg5
 z5:=sizeOf5
 v5:=zeroValue5
 t9:=underlying9
 a9:=isAgg9
 z9:=sizeOf9
 v9:=zeroValue9
 t28:=underlying35
 a28:=isAgg35
 z28:=sizeOf35
 v28:=zeroValue35
 t46:=underlying290
 a46:=isAgg290
 z46:=sizeOf290
 v46:=zeroValue290
 t51:=underlying398
 a51:=isAgg398
 z51:=sizeOf398
 v51:=zeroValue398
 t53:=underlying85
 a53:=isAgg85
 z53:=sizeOf85
 v53:=zeroValue85
 t131:=underlying233
 a131:=isAgg233
 z131:=sizeOf233
 v131:=zeroValue233
 t182:=underlying391
 a182:=isAgg391
 z182:=sizeOf391
 v182:=zeroValue391
 t183:=underlying392
 a183:=isAgg392
 z183:=sizeOf392
 v183:=zeroValue392
 t218:=underlying424
 a218:=isAgg424
 z218:=sizeOf424
 v218:=zeroValue424
 t222:=underlying428
 a222:=isAgg428
 z222:=sizeOf428
 v222:=zeroValue428
 t228:=underlying449
 a228:=isAgg449
 z228:=sizeOf449
 v228:=zeroValue449
 t229:=underlying285
 a229:=isAgg285
 z229:=sizeOf285
 v229:=zeroValue285 }
def YtldllhbhnpjlcaaGreat.afF:Go.Shelf.Ren:=⟨λ| 20=>191|n=>n,λ| 22=>35|3=>3|4=>4|0=>0|n=>n,λ| n=>n⟩
theorem YtldllhbhnpjlcaaGreat.abF:Go.Proofs.Lays2.n20 pw YtldllhbhnpjlcaaGreat.afF:={
 mixed:=by kernel_rfl
 f20:=Tryz.func191.trans (congrArg some (by kernel_rfl))
 t0:=underlying0
 a0:=isAgg0
 z0:=sizeOf0
 v0:=zeroValue0
 t3:=underlying3
 a3:=isAgg3
 z3:=sizeOf3
 v3:=zeroValue3
 t4:=underlying4
 a4:=isAgg4
 z4:=sizeOf4
 v4:=zeroValue4
 t22:=underlying35
 a22:=isAgg35
 z22:=sizeOf35
 v22:=zeroValue35
 i3:=by kernel_rfl }
end Go.Proofs
namespace Go.bP
open Go.RowKit
variable{P:Program}{w:World}{H:Type}{enc:TypeId×Value->H}
def qG(w:World)(cs:List Value)(ps:List PV):Prop:=cs.length=ps.length/\(∀ (j:Nat) u c,cs[j]? = some u->ps[j]? = some c->VR (snap w) u c)/\∀u∈cs,u.oneCell'=true
def avB(P:Program)(t:TypeId)(d:DataW H):Prop:=∀n∈d.weights P t,n<=reachBytes
structure mB(P:Program)(w:World){H:Type}(enc:TypeId×Value->H){α:Type}(t:TypeId)(sz:Nat)(e:α->List PV)(G:α->Prop):Prop where
 len:∀a,(e a).length=sz
 dec:∀ (sp:Nat->Bool) (hd:Bool) (fuel:Nat) (cs:List Value) (x:DataW H×List MemPlace),DataW.trod enc P w 0 sp hd fuel t cs=some x->avB P t x.1->∃a,G a/\qG w cs (e a)
theorem qG.one{u:Value}{p:PV}(h:VR (snap w) u p)(h1:u.oneCell'=true):qG w [u] [p] :=
 ⟨rfl,λj u' c hu hc=>by
  cases j with
  |zero=>simp at hu hc;subst hu hc;exact h
  |succ j=>simp at hu,λu' hu=>by simp at hu;subst hu;exact h1⟩
theorem mB.int{t:TypeId}(ht:P.underlying t=some (.int .i64)):mB P w enc t 1 (λn:Int=>[.val (.int .i64 n)]) (λ_=>True) :=
 ⟨λ_=>rfl,λsp hd fuel cs x h _=>by
  obtain⟨n,rfl,_⟩:=DataW.trod_int ht h;exact⟨n,trivial,.one (.val _ rfl) rfl⟩⟩
theorem mB.str{t:TypeId}(ht:P.underlying t=some .string):mB P w enc t 1 (λs:ByteArray=>[.val (.string s)]) (λ_=>True) :=
 ⟨λ_=>rfl,λsp hd fuel cs x h _=>by
  obtain⟨n,rfl,_⟩:=DataW.trod_string ht h;exact⟨n,trivial,.one (.val _ rfl) rfl⟩⟩
theorem mB.bool{t:TypeId}(ht:P.underlying t=some .bool):mB P w enc t 1 (λb:Bool=>[.val (.bool b)]) (λ_=>True) :=
 ⟨λ_=>rfl,λsp hd fuel cs x h _=>by
  obtain⟨n,rfl,_⟩:=DataW.trod_bool ht h;exact⟨n,trivial,.one (.val _ rfl) rfl⟩⟩
theorem mB.map{α β:Type}{t:TypeId}{sz:Nat}{e:α->List PV}{G:α->Prop}{e':β->List PV}{G':β->Prop}(g:α->β)(f:β->α)(hgf:∀b,e (f b)=e' b)(hg:∀a,e' (g a)=e a)(hG:∀a,G a->G' (g a))(h:mB P w enc t sz e G):mB P w enc t sz e' G' :=
 ⟨λb=>by rw[<-hgf];exact h.len _,λsp hd fuel cs x hx hw=>by
  obtain⟨a,h1,h2⟩:=h.dec sp hd fuel cs x hx hw;exact⟨g a,hG a h1,by rw[hg];exact h2⟩⟩
theorem tO{e:TypeId} : ∀ {ds:List (DataW H)} {d:DataW H},d∈ds->∀n∈d.weights P e,n∈DataW.weightsAll P e ds
 |d0 :: r,d,hd,n,hn=>by
  rw[DataW.weightsAll,List.mem_append];rcases List.mem_cons.1 hd with rfl|h
  ·exact .inl hn
  ·exact .inr (tO h n hn)
theorem mapM_some{α β:Type}{f:α->Option β} : ∀ {l:List α} {r:List β},l.mapM f=some r->r.length=l.length/\∀ (i:Nat) a,l[i]? = some a->r[i]? = f a:=by
 intro l
 induction l with
 |nil=>intro r h;simp at h;subst h;exact⟨rfl,by simp⟩
 |cons a l ih =>
  intro r h;rw[List.mapM_cons] at h;cases ha:f a with
  |none=>rw[ha] at h;cases h
  |some b =>
   rw[ha] at h;cases hl:l.mapM f with
   |none=>rw[hl] at h;cases h
   |some r' =>
    rw[hl] at h;have:r=b :: r':=by simpa using h.symm
    subst this;obtain⟨h1,h2⟩:=ih hl;refine⟨by simp[h1],λi x hx=>?_⟩;cases i with
    |zero=>simp at hx;subst hx;simp[ha]
    |succ i=>simpa using h2 i x (by simpa using hx)
theorem abG{a:Addr}{n:Nat}{cs:List Value}(h:w.cells? 0 a n=some cs):cs.length=n/\(∀ (i:Nat) u,cs[i]? = some u->w.cell? (a.add i)=some u):=by
 unfold World.cells? at h;rw[if_pos (Nat.zero_le _)] at h;obtain⟨h1,h2⟩:=mapM_some h;refine⟨by simpa using h1,λi u hu=>?_⟩;have hi:i<n:=by have:=(List.getElem?_eq_some_iff.1 hu).1;simpa[h1] using this
 rw[<-h2 i i (by simp[hi]),hu]
theorem asa{a:Addr}{u:Value}(h:w.cell? a=some u):a.spot=none:=by
 unfold World.cell? at h;split at h
 ·split at h
  ·cases h
  ·rename_i hs;cases hsp:a.spot with
   |none=>rfl
   |some _=>simp[hsp] at hs
 ·cases h
theorem ad0{α:Type}{n:Nat}{Q:Nat->α->Prop}(h:∀i,i<n->∃a,Q i a):∃l:List α,l.length=n/\∀ (i:Nat) a,l[i]? = some a->Q i a:=by
 induction n with
 |zero=>exact⟨[],rfl,by simp⟩
 |succ n ih =>
  obtain⟨l,h1,h2⟩:=ih λi hi=>h i (by omega)
  obtain⟨a,ha⟩:=h n (by omega);refine⟨l++[a],by simp[h1],λi b hb=>?_⟩;rcases Nat.lt_or_ge i l.length with hi|hi
  ·rw[List.getElem?_append_left hi] at hb;exact h2 i b hb
  ·rw[List.getElem?_append_right hi] at hb;have:i-l.length=0:=by have:=(List.getElem?_eq_some_iff.1 hb).1;simp at this;omega
   rw[this] at hb;simp at hb;subst hb;have:i=n:=by omega
   subst this;exact ha
end Go.bP
namespace Go.bP
open Go.RowKit
theorem PLe.aE{es' es:List (List PV)}(hl:es'.map (·.length)=es.map (·.length))(hf:rC es'.flatten es.flatten):PLe (.aE es') (.aE es):=λI v hv=>by
 cases hv with
 |aE ao n cap _ us sz hn hsz hu hv hone hm hnil hcap =>
  have hlen:es'.length=es.length:=by have:=congrArg List.length hl;simpa using this
  refine .aE ao _ cap es us sz (by rw[<-hlen];exact hn) (λe he=>?_) (hu.trans hf.len) (λj u c hu hc=>?_) hone hm hnil hcap
  ·obtain⟨i,hi,rfl⟩:=List.getElem_of_mem he;have h1:(es'.map (·.length))[i]? = (es.map (·.length))[i]?:=by rw[hl]
   have hi':i<es'.length:=by omega
   simp only[List.getElem?_map,List.getElem?_eq_getElem hi,List.getElem?_eq_getElem hi',Option.map_some,cm] at h1;rw[<-h1];exact hsz _ (pz hi')
  ·obtain⟨c',h1,h2⟩:=hf.at hc;exact h2 I u (hv j u c' hu h1)
variable{P:Program}{w:World}{H:Type}{enc:TypeId×Value->H}
theorem alI{a:Addr}(h:a.spot=none)(n:Nat):a.add n=⟨a.block,a.off+n,none⟩:=by
 obtain⟨b,o,s⟩:=a;simp only at h;subst h;unfold Addr.add;split
 ·rename_i hn;simp[hn]
 ·rfl
theorem alJ{α:Type}{ec:α->List PV}{sz:Nat}(h0:0<sz)(hlen:∀a,(ec a).length=sz){a:Addr}{len cap:Nat}(hcap:len<=cap){l:List (α×List Value)}(hl:l.length=len)
  (h:∀ (i:Nat) (x:α×List Value),l[i]? = some x->w.cells? 0 (a.add (i * sz)) sz=some x.2/\qG w x.2 (ec x.1)):VR (snap w) (.slice (some a) len cap) (.aE ((l.map (·.1)).map ec)):=by
 have hall:∀e∈(l.map (·.1)).map ec,e.length=sz:=λe he=>by obtain⟨x,_,rfl⟩:=List.mem_map.1 he;exact hlen x
 have hcs:∀c∈l.map (·.2),c.length=sz:=λc hc=>by obtain⟨x,hx,rfl⟩:=List.mem_map.1 hc;obtain⟨i,hi⟩:=List.mem_iff_getElem?.1 hx;exact (abG (h i x hi).1).1
 have at':∀ (j:Nat) u,(l.map (·.2)).flatten[j]? = some u->∃x,l[j / sz]? = some x/\x.2[j % sz]? = some u:=λj u hu=>by have hj:j<(l.map (·.2)).flatten.length:=(List.getElem?_eq_some_iff.1 hu).1;rw[b5 hcs,List.length_map] at hj;have hd:j / sz<l.length:=(Nat.div_lt_iff_lt_mul h0).2 hj;have e2:=kD hcs (j / sz) (j % sz) (by simpa using hd) (Nat.mod_lt _ h0);rw[Nat.div_add_mod' j sz,hu] at e2;refine⟨l[j / sz],List.getElem?_eq_getElem hd,?_⟩;rw[e2];simp[hd]
 refine .aE (some a) len cap _ (l.map (·.2)).flatten sz (by simp[hl]) hall ?_ (λj u c hu hc=>?_) (λu hu=>?_) ?_ (by simp) hcap
 ·rw[b5 hcs,b5 hall];simp
 ·obtain⟨x,hx,hxu⟩:=at' j u hu;have hd:j / sz<l.length:=(List.getElem?_eq_some_iff.1 hx).1;have e2:=kD hall (j / sz) (j % sz) (by simpa using hd) (Nat.mod_lt _ h0);rw[Nat.div_add_mod' j sz,hc] at e2;have e3:((l.map (·.1)).map ec).getD (j / sz) []=ec x.1:=by
   have:l[j / sz]=x:=by have:=List.getElem?_eq_getElem hd;rw[hx] at this;exact (Option.some.inj this).symm
   simp[hd,this]
  rw[e3] at e2;exact (h _ x hx).2.2.1 _ u c hxu e2.symm
 ·obtain⟨c,hc,huc⟩:=List.mem_flatten.1 hu;obtain⟨x,hx,rfl⟩:=List.mem_map.1 hc;obtain⟨i,hi⟩:=List.mem_iff_getElem?.1 hx;exact (h i x hi).2.2.2 u huc
 ·by_cases hn:(l.map (·.2)).flatten=[]
  ·exact .inl hn
  ·right;have hpos:0<l.length:=by
    rcases Nat.eq_zero_or_pos l.length with h'|h'
    ·exact absurd (by rw[List.length_eq_zero_iff.1 h'];rfl) hn
    ·exact h'
   have hsp:a.spot=none:=by
    have hx:=h 0 l[0] (List.getElem?_eq_getElem hpos);obtain⟨k1,k2⟩:=abG hx.1;have h00:0<l[0].2.length:=by rw[k1];exact h0
    have:=k2 0 l[0].2[0] (List.getElem?_eq_getElem h00);have:=asa this;simpa[Addr.add] using this
   refine⟨a.block,a.off,?_,λj u hu=>?_⟩
   ·obtain⟨b,o,s⟩:=a;simp only at hsp;subst hsp;rfl
   ·obtain⟨x,hx,hxu⟩:=at' j u hu;have:=(abG (h _ x hx).1).2 _ u hxu;rw[alI hsp,alI rfl] at this;simp only at this;rw[Nat.add_assoc,Nat.div_add_mod' j sz] at this;exact this
theorem mB.slice{α:Type}{t e:TypeId}{sz:Nat}{ec:α->List PV}{G:α->Prop}(ht:P.underlying t=some (.slice e))(hc:P.cellsOf e=sz)(h0:0<sz)(hb:0<P.bytesOf e)(he:mB P w enc e sz ec G) :
  mB P w enc t 1 (λl:List α=>[.aE (l.map ec)]) (λl=>(∀a∈l,G a)/\l.length<=reachBytes) :=
 ⟨λ_=>rfl,λsp hd fuel cs x h hw=>by
  rcases DataW.trod_slice ht h with ⟨rfl,rfl⟩|⟨a,len,cap,elems,rest,n,_,rfl,rfl,_,hle,_,hlen,hel,_,_⟩
  ·exact⟨[],⟨by simp,by simp⟩,.one (.aE none 0 0 [] [] 1 rfl (by simp) rfl (by simp) (by simp) (.inl rfl) (λ_=>⟨rfl,rfl⟩) (Nat.le_refl _)) rfl⟩
  ·have hwt:∀k,k∈((elems.map (·.1)).length+(rest.map (·.1)).length) * P.bytesOf e :: (DataW.weightsAll P e (elems.map (·.1))++DataW.weightsAll P e (rest.map (·.1)))->k<=reachBytes:=λk hk=>by refine hw k ?_;simp only[DataW.weights,ht];exact hk
   obtain⟨l,l1,l2⟩:=ad0 (n:=len) (Q:=λi (x:α×List Value)=>G x.1/\w.cells? 0 (a.add (i * sz)) sz=some x.2/\qG w x.2 (ec x.1)) λi hi=>by
    have h1:=hel i hi;have hi':i<elems.length:=by omega
    rw[List.getElem?_eq_getElem hi',hc] at h1;obtain⟨cs',h2,h3⟩:=Option.bind_eq_some_iff.1 h1;obtain⟨b,h4,h5⟩:=he.dec sp hd n cs' _ h3 λk hk=>hwt k (List.mem_cons_of_mem _ (List.mem_append_left _ (tO (List.mem_map.2 ⟨elems[i],pz hi',rfl⟩) k hk)))
    exact⟨(b,cs'),h4,h2,h5⟩
   refine⟨l.map (·.1),⟨λb hb'=>?_,?_⟩,.one (alJ h0 he.len hle l1 λi x hx=>(l2 i x hx).2) rfl⟩
   ·obtain⟨x,hx,rfl⟩:=List.mem_map.1 hb';obtain⟨i,hi⟩:=List.mem_iff_getElem?.1 hx;exact (l2 i x hi).1
   ·have:=hwt _ (List.mem_cons_self ..);rw[List.length_map,List.length_map,hlen] at this;rw[List.length_map,l1];exact Nat.le_trans (Nat.le_trans (Nat.le_add_right len rest.length) (Nat.le_mul_of_pos_right _ hb)) this⟩
structure afG(P:Program)(w:World){H:Type}(enc:TypeId×Value->H){α:Type}(fs:List Field)(off sz:Nat)(e:α->List PV)(G:α->Prop):Prop where
 len:∀a,(e a).length=sz
 dec:∀ (sp:Nat->Bool) (hd:Bool) (n:Nat) (cs:List Value) (ds:List (DataW H)),ds.length=fs.length->cs.length=off+sz->(∀ (i:Nat) f,fs[i]? = some f->∃ps,DataW.trod enc P w 0 sp hd n f.type ((cs.drop f.offset).take (P.cellsOf f.type))=(ds[i]?).map λd=>(d,ps)) ->
  (∀k∈DataW.weightsEach P (fs.map (·.type)) ds,k<=reachBytes)->∃a,G a/\qG w (cs.drop off) (e a)
theorem afG.nil(off:Nat):afG P w enc [] off 0 (λ_:Unit=>[]) (λ_=>True) :=
 ⟨λ_=>rfl,λsp hd n cs ds _ hl _ _=>⟨(),trivial,by
  have:cs.drop off=[]:=List.drop_eq_nil_of_le (by omega);rw[this];exact⟨rfl,by simp,by simp⟩⟩⟩
theorem qG.append{cs ds:List Value}{ps qs:List PV}(h:qG w cs ps)(k:qG w ds qs):qG w (cs++ds) (ps++qs):=by
 refine⟨by simp[h.1,k.1],λj u c hu hc=>?_,λu hu=>?_⟩
 ·rcases Nat.lt_or_ge j cs.length with hj|hj
  ·rw[List.getElem?_append_left hj] at hu;rw[List.getElem?_append_left (by rw[<-h.1];exact hj)] at hc;exact h.2.1 j u c hu hc
  ·rw[List.getElem?_append_right hj] at hu;rw[List.getElem?_append_right (by rw[<-h.1];exact hj),<-h.1] at hc;exact k.2.1 _ u c hu hc
 ·rcases List.mem_append.1 hu with hu|hu
  ·exact h.2.2 u hu
  ·exact k.2.2 u hu
theorem afG.cons{α β:Type}{f:Field}{fs:List Field}{off sz sz':Nat}{e:α->List PV}{G:α->Prop}{e':β->List PV}{G':β->Prop}(ho:f.offset=off)(hc:P.cellsOf f.type=sz)(h:mB P w enc f.type sz e G)(hr:afG P w enc fs (off+sz) sz' e' G') :
  afG P w enc (f :: fs) off (sz+sz') (λx:α×β=>e x.1++e' x.2) (λx=>G x.1/\G' x.2) :=
 ⟨λx=>by rw[List.length_append,h.len,hr.len],λsp hd n cs ds hl hcs hall hw=>by
  match ds,hl with
  | [],hl=>simp at hl
  |d :: ds,hl =>
   rw[List.map_cons,DataW.weightsEach] at hw;obtain⟨ps,h0⟩:=hall 0 f rfl;simp only[List.getElem?_cons_zero,Option.map_some] at h0;obtain⟨a,a1,a2⟩:=h.dec sp hd n _ _ h0 λk hk=>hw k (List.mem_append_left _ hk)
   obtain⟨b,b1,b2⟩:=hr.dec sp hd n cs ds (by simpa using hl) (by omega) (λi g hg=>by simpa using hall (i+1) g (by simpa using hg)) λk hk=>hw k (List.mem_append_right _ hk)
   refine⟨(a,b),⟨a1,b1⟩,?_⟩;have e1:cs.drop off=(cs.drop off).take sz++cs.drop (off+sz):=by rw[<-List.drop_drop,List.take_append_drop]
   rw[e1];rw[ho,hc] at a2;exact a2.append b2⟩
theorem mB.struct{α:Type}{t:TypeId}{fs:Array Field}{sz:Nat}{e:α->List PV}{G:α->Prop}(ht:P.underlying t=some (.struct fs))(hc:P.cellsOf t=sz)(h:afG P w enc fs.toList 0 sz e G):mB P w enc t sz e G :=
 ⟨h.len,λsp hd fuel cs x hx hw=>by
  obtain⟨xs,n,_,rfl,hl,hxs,hf⟩:=DataW.trod_struct ht hx;obtain⟨a,a1,a2⟩:=h.dec sp hd n cs (xs.map (·.1)) (by simp[hxs]) (by rw[hl,hc,Nat.zero_add]) (λi f hi=>by
   have h1:=hf i f (by simpa using hi);have hlt:i<xs.length:=by have:=(List.getElem?_eq_some_iff.1 hi).1;rw[hxs];simpa using this
   refine⟨xs[i].2,?_⟩;rw[h1];simp[hlt]) λk hk=>hw k (by
    simp only[DataW.weights,ht];exact hk)
  exact⟨a,a1,by simpa using a2⟩⟩
end Go.bP
namespace Go.bP
open Go.RowKit
variable{P:Program}{w:World}{H:Type}{enc:TypeId×Value->H}
theorem mB.aFj{t:TypeId}(k:IntKind)(ht:P.underlying t=some (.int k)):mB P w enc t 1 (λn:Int=>[.val (.int k n)]) (λn=>k.min<=n/\n<=k.max) :=
 ⟨λ_=>rfl,λsp hd fuel cs x h _=>by
  obtain⟨n,rfl,_,hw⟩:=DataW.trod_int ht h;refine⟨n,?_,.one (.val _ rfl) rfl⟩;simpa[Lit.wf] using hw⟩
def aBW (e:TypeId) (off:Nat):Field:={ name := "",type:=e,offset:=off,embedded:=false,tag := "",pkgPath := "",byteOffset:=0 }
def ahA(n:Nat)(e:TypeId)(sz:Nat):List Field:=(List.range n).map λi=>aBW e (i * sz)
theorem yE{e:TypeId} : ∀ (n:Nat) (ds:List (DataW H)),ds.length=n->DataW.weightsEach P (List.replicate n e) ds=DataW.weightsAll P e ds
 |0,[],_=>rfl
 |n+1,d :: r,h=>by rw[List.replicate_succ,DataW.weightsEach,DataW.weightsAll,yE n r (by simpa using h)]
 |n+1,[],h=>by simp at h
 |0,d :: r,h=>by simp at h
theorem mB.array{α:Type}{t e:TypeId}{n sz sz0:Nat}{ec:α->List PV}{G:α->Prop}(ht:P.underlying t=some (.array n e))(hc:P.cellsOf t=sz)(h0:P.cellsOf e=sz0)(h:afG P w enc (ahA n e sz0) 0 sz ec G):mB P w enc t sz ec G :=
 ⟨h.len,λsp hd fuel cs x hx hw=>by
  obtain⟨xs,m,_,rfl,hl,hxs,hf⟩:=DataW.trod_array ht hx;obtain⟨a,a1,a2⟩:=h.dec sp hd m cs (xs.map (·.1)) (by simp[hxs,ahA]) (by rw[hl,hc,Nat.zero_add]) (λi f hi=>by
   have hlt:i<n:=by have:=(List.getElem?_eq_some_iff.1 hi).1;simpa[ahA] using this
   have hfe:f=aBW e (i * sz0):=by simpa[ahA,hlt] using hi.symm
   subst hfe;have h1:=hf i hlt;refine⟨(xs[i]'(by omega)).2,?_⟩;subst h0;show DataW.trod enc P w 0 sp hd m e (List.take (P.cellsOf e) (List.drop (i * P.cellsOf e) cs))=_;rw[h1];simp[hxs,hlt]) λk hk=>hw k (by
    simp only[DataW.weights,ht];have e1:(ahA n e sz0).map (·.type)=List.replicate n e:=by unfold ahA;rw[List.map_map];exact (List.map_const' ..).trans (by rw[List.length_range])
    rw[e1,yE n _ (by simp[hxs])] at hk;exact hk)
  exact⟨a,a1,by simpa using a2⟩⟩
end Go.bP
namespace Go.bP
open Go.ChangeShapes Go.WideShapes Go.ChangeAt Go.RowKit
variable{P:Program}{W:World}{H:Type}{enc:TypeId×Value->H}{α β:Type}
structure xE(P:Program)(W:World){H:Type}(enc:TypeId×Value->H){α:Type}(t:TypeId)(e:α->PV)(G:α->Prop):Prop where
 dec:∀b0 v d ps,Value.okWide P W .any b0 t v->DataW.Trod enc P W 0 (λ_=>true) true t v d ps->avB P t d->∃a,G a/\VR (snap W) v (e a)
 read:P.readableRec t=true
 size:t<P.types.size
theorem xE.struct{t:TypeId}{fs:Array Field}{sz:Nat}{e:α->List PV}{G:α->Prop}(ht:P.underlying t=some (.struct fs))(avC:mB P W enc t sz e G)(hr:P.readableRec t=true)(hs:t<P.types.size):xE P W enc t (λa=>.agg (e a)) G :=
 ⟨λb0 v d ps hval h hw=>by
  unfold Value.okWide at hval;rw[ht] at hval;obtain⟨cs,rfl,_⟩:=hval;obtain⟨fuel,hf⟩:=h;obtain⟨a,h1,h2⟩:=avC.dec _ _ fuel _ _ hf hw;refine⟨a,h1,?_⟩;have:VR (snap W) (.agg (cs.toList).toArray) (.agg (e a)):=.agg cs.toList (e a) h2.1 h2.2.1 h2.2.2;simpa using this,hr,hs⟩
theorem xE.array{t e':TypeId}{n sz:Nat}{e:α->List PV}{G:α->Prop}(ht:P.underlying t=some (.array n e'))(avC:mB P W enc t sz e G)(hr:P.readableRec t=true)(hs:t<P.types.size):xE P W enc t (λa=>.agg (e a)) G :=
 ⟨λb0 v d ps hval h hw=>by
  unfold Value.okWide at hval;rw[ht] at hval;obtain⟨cs,rfl,_⟩:=hval;obtain⟨fuel,hf⟩:=h;obtain⟨a,h1,h2⟩:=avC.dec _ _ fuel _ _ hf hw;refine⟨a,h1,?_⟩;have:VR (snap W) (.agg (cs.toList).toArray) (.agg (e a)):=.agg cs.toList (e a) h2.1 h2.2.1 h2.2.2;simpa using this,hr,hs⟩
theorem xE.one{t:TypeId}{e:α->PV}{G:α->Prop}(ht:∀b0 v,Value.okWide P W .any b0 t v->v.cells.toList=[v])(avC:mB P W enc t 1 (λa=>[e a]) G)(hr:P.readableRec t=true)(hs:t<P.types.size):xE P W enc t e G :=
 ⟨λb0 v d ps hval h hw=>by
  obtain⟨fuel,hf⟩:=h;rw[ht b0 v hval] at hf;obtain⟨a,h1,h2⟩:=avC.dec _ _ fuel _ _ hf hw;exact⟨a,h1,h2.2.1 0 v (e a) rfl rfl⟩,hr,hs⟩
theorem ad1:∀ {ts:List TypeId} {vs:List Value} {ds:List (DataW H)} {ps:List MemPlace},DataW.TrodAll enc P W 0 (λ_=>true) true ts vs ds ps->ds.length=ts.length
 | [],vs,ds,ps,h=>by obtain⟨rfl,rfl,rfl⟩:=trodAll_nil h;rfl
 |t :: ts,vs,ds,ps,h=>by obtain⟨v,vs',d,ds',p,q,rfl,rfl,rfl,h1,h2⟩:=trodAll_cons h;rw[List.length_cons,List.length_cons,ad1 h2]
structure ahB(P:Program)(W:World){H:Type}(enc:TypeId×Value->H){α:Type}(ts:List TypeId)(e:α->List PV)(G:α->Prop):Prop where
 dec:∀b0 vs ds ps,(∀ (j:Nat) t v,ts[j]? = some t->vs[j]? = some v->Value.okWide P W .any b0 t v)->DataW.TrodAll enc P W 0 (λ_=>true) true ts vs ds ps->(∀n∈DataW.weightsEach P ts ds,n<=reachBytes) ->
  ∃a,G a/\vs.length=(e a).length/\∀ (j:Nat) u x,vs[j]? = some u->(e a)[j]? = some x->VR (snap W) u x
 stay:laidOutB P=true->∀vs ds ps W',DataW.TrodAll enc P W 0 (λ_=>true) true ts vs ds ps->Below W.heap.size W W'->(∀x∈ps,x.block<W.heap.size)->DataW.TrodAll enc P W' 0 (λb=>decide (b<W.heap.size)) true ts vs ds ps
theorem ahB.nil:ahB P W enc [] (λ_:Unit=>[]) (λ_=>True) :=
 ⟨λb0 vs ds ps _ h _=>by
  obtain⟨rfl,rfl,rfl⟩:=trodAll_nil h;exact⟨(),trivial,rfl,λj u x hu=>by simp at hu⟩,λ_ vs ds ps W' h _ _=>by
  obtain⟨rfl,rfl,rfl⟩:=trodAll_nil h;exact trodAll_mk0⟩
theorem ahB.cons{t:TypeId}{ts:List TypeId}{e:α->PV}{G:α->Prop}{e':β->List PV}{G':β->Prop}(h:xE P W enc t e G)(hr:ahB P W enc ts e' G') :
  ahB P W enc (t :: ts) (λx:α×β=>e x.1 :: e' x.2) (λx=>G x.1/\G' x.2) :=
 ⟨λb0 vs ds ps hv ht hw=>by
  obtain⟨v,vs',d,ds',p,q,rfl,rfl,rfl,h1,h2⟩:=trodAll_cons ht;rw[DataW.weightsEach] at hw;obtain⟨a,a1,a2⟩:=h.dec b0 v d p (hv 0 t v rfl rfl) h1 λn hn=>hw n (List.mem_append_left _ hn)
  obtain⟨b,b1,b2,b3⟩:=hr.dec b0 vs' ds' q (λj t v ht yz=>hv (j+1) t v (by simpa using ht) (by simpa using yz)) h2 λn hn=>hw n (List.mem_append_right _ hn)
  refine⟨(a,b),⟨a1,b1⟩,by simp[b2],λj u x hu hx=>?_⟩;cases j with
  |zero=>simp at hu hx;subst hu hx;exact a2
  |succ j=>exact b3 j u x (by simpa using hu) (by simpa using hx),λhl vs ds ps W' ht hb hlt=>by
  obtain⟨v,vs',d,ds',p,q,rfl,rfl,rfl,h1,h2⟩:=trodAll_cons ht;exact⟨p,q,Below.trod hl h.read h.size h1 hb λx hx=>hlt x (List.mem_append_left _ hx),hr.stay hl vs' ds' q W' h2 hb λx hx=>hlt x (List.mem_append_right _ hx),rfl⟩⟩
theorem alK{C:Checked}{os:Os}{f:FuncId}{fn:Func}{s:ChangeSpec}{conds:List PathCond}{apart fresh handsOn:Bool}{e:α->List PV}{G:α->Prop}{tb:TypeId}
  (own:ownKnob C.prog.godebug=none) (laid:laidOutB C.prog=true) (started:os.Started) (noInit:C.prog.inits.idxOf? f=none) (hfn:C.prog.funcs[f]? = some fn)
  (witness:∃ (w:World) (tape:Tape) (i:Input),w.os=os/\(w.forCall tape i).Shaped C.prog/\i.vars=[]/\Input.okWide C.prog (w.forCall tape i) .any w.heap.size f i /\
   s.pre6 enc C.prog fn conds apart (w.forCall tape i).memory i.args/\({} : Assume).holds C.prog (lone (Frame.enter C.prog f i.args .normal) [] (w.forCall tape i)))
  (hres:fn.resultTypes = #[tb]) (hb:C.prog.underlying tb=some .bool) (hv:s.vars=[]) (hs:∀ds:List (DataW H),ds.length=fn.params.size->(s.fn H ds).results=[.lit (.bool true)]/\(s.fn H ds).args=ds/\(s.fn H ds).vars=[])
  (hd:∀W,ahB C.prog W enc fn.params.toList e G) (ok:∀a,G a->aB C.prog f (e a) λr=>r = .val (.bool true)) :
  ReturnsInHanded {} C os f .any (s.pre6 enc C.prog fn conds apart) (s.post enc C.prog fn apart fresh handsOn false):=by
 refine returnsInHanded_of_change_sized (C:=C) own started noInit hfn witness ?_;intro W base args ds gs before hval hW _ hz _;have hW':=hW;obtain⟨p,q,hA,hV,rfl,hfz,hnd⟩:=hW;rw[hv] at hV;have hg:gs=[]/\q=[]:=by
  cases gs with
  |nil=>exact⟨rfl,hV⟩
  |cons=>exact hV.elim
 obtain⟨rfl,rfl⟩:=hg;have hvt:s.plain.varTypes C.prog=[]:=by have:s.plain.vars=[]:=hv;unfold DataSpec.varTypes;rw[this];rfl
 rw[hvt,List.append_nil,List.append_nil] at hz;have hw:∀n∈DataW.weightsEach C.prog fn.params.toList ds,n<=reachBytes:=λn hn=>by have:=List.all_eq_true.1 hz n hn;simpa using this
 obtain⟨a,a1,a2,a3⟩:=(hd W).dec base args.toList ds p (λj t v ht yz=>hval j t v (by simpa using ht) (by simpa using yz)) hA hw;have hlt:∀x∈p,x.block<W.heap.size:=λx hx=>hW'.lt x (List.mem_append_left _ hx)
 obtain⟨s1,s2,s3⟩:=hs ds (by
  have:=ad1 hA;simpa using this)
 refine ((ok a a1).2 (snap W) W args.toList (aeW W) ⟨a2,a3⟩).mono ?_;rintro e' W' ⟨v,r,I',rfl,rfl,yz,bel,_⟩;have hvb:v = .bool true:=by cases yz;rfl
 subst hvb;refine⟨_,rfl,ds,[],p++[],[],p,[],hW',?_,?_,?_,bel.frame _,λh=>by cases h⟩
 ·rw[List.append_nil,s1,hres];exact trodAll_mk1 (shut_bool hb true)
 ·rw[List.append_nil,s2];exact (hd W).stay laid _ _ _ _ hA bel hlt
 ·rw[List.append_nil,s3,hv];rfl
end Go.bP
namespace Go.bP
open Go.RowKit
variable{P:Program}{w:World}{H:Type}{enc:TypeId×Value->H}
structure zU(P:Program)(w:World){H:Type}(enc:TypeId×Value->H)(N:Nat){α:Type}(t:TypeId)(sz:Nat)(e:α->List PV)(G:α->Prop):Prop where
 len:∀a,(e a).length=sz
 dec:∀ (sp:Nat->Bool) (hd:Bool) (fuel:Nat),fuel<N->∀ (cs:List Value) (x:DataW H×List MemPlace),DataW.trod enc P w 0 sp hd fuel t cs=some x->avB P t x.1->∃a,G a/\qG w cs (e a)
theorem mB.toN{α:Type}{t:TypeId}{sz:Nat}{e:α->List PV}{G:α->Prop}(h:mB P w enc t sz e G)(N:Nat):zU P w enc N t sz e G:=⟨h.len,λsp hd fuel _=>h.dec sp hd fuel⟩
theorem mB.ofN{α:Type}{t:TypeId}{sz:Nat}{e:α->List PV}{G:α->Prop}(h:∀N,zU P w enc N t sz e G):mB P w enc t sz e G:=⟨(h 0).len,λsp hd fuel=>(h (fuel+1)).dec sp hd fuel (Nat.lt_succ_self _)⟩
theorem zU.zero{α:Type}{t:TypeId}{sz:Nat}{e:α->List PV}{G:α->Prop}(h:∀a,(e a).length=sz):zU P w enc 0 t sz e G:=⟨h,λ_ _ _ h=>absurd h (Nat.not_lt_zero _)⟩
theorem zU.map{N:Nat}{α β:Type}{t:TypeId}{sz:Nat}{e:α->List PV}{G:α->Prop}{e':β->List PV}{G':β->Prop}(g:α->β)(f:β->α)(hgf:∀b,e (f b)=e' b)(hg:∀a,e' (g a)=e a)(hG:∀a,G a->G' (g a))(h:zU P w enc N t sz e G):zU P w enc N t sz e' G' :=
 ⟨λb=>by rw[<-hgf];exact h.len _,λsp hd fuel hf cs x hx hw=>by
  obtain⟨a,h1,h2⟩:=h.dec sp hd fuel hf cs x hx hw;exact⟨g a,hG a h1,by rw[hg];exact h2⟩⟩
theorem zU.slice{N:Nat}{α:Type}{t e:TypeId}{sz:Nat}{ec:α->List PV}{G:α->Prop}(ht:P.underlying t=some (.slice e))(hc:P.cellsOf e=sz)(h0:0<sz)(hb:0<P.bytesOf e)(he:zU P w enc N e sz ec G) :
  zU P w enc N t 1 (λl:List α=>[.aE (l.map ec)]) (λl=>(∀a∈l,G a)/\l.length<=reachBytes) :=
 ⟨λ_=>rfl,λsp hd fuel hN cs x h hw=>by
  rcases DataW.trod_slice ht h with ⟨rfl,rfl⟩|⟨a,len,cap,elems,rest,n,hfn,rfl,rfl,_,hle,_,hlen,hel,_,_⟩
  ·exact⟨[],⟨by simp,by simp⟩,.one (.aE none 0 0 [] [] 1 rfl (by simp) rfl (by simp) (by simp) (.inl rfl) (λ_=>⟨rfl,rfl⟩) (Nat.le_refl _)) rfl⟩
  ·have hn:n<N:=by omega
   have hwt:∀k,k∈((elems.map (·.1)).length+(rest.map (·.1)).length) * P.bytesOf e :: (DataW.weightsAll P e (elems.map (·.1))++DataW.weightsAll P e (rest.map (·.1)))->k<=reachBytes:=λk hk=>by refine hw k ?_;simp only[DataW.weights,ht];exact hk
   obtain⟨l,l1,l2⟩:=ad0 (n:=len) (Q:=λi (x:α×List Value)=>G x.1/\w.cells? 0 (a.add (i * sz)) sz=some x.2/\qG w x.2 (ec x.1)) λi hi=>by
    have h1:=hel i hi;have hi':i<elems.length:=by omega
    rw[List.getElem?_eq_getElem hi',hc] at h1;obtain⟨cs',h2,h3⟩:=Option.bind_eq_some_iff.1 h1;obtain⟨b,h4,h5⟩:=he.dec sp hd n hn cs' _ h3 λk hk=>hwt k (List.mem_cons_of_mem _ (List.mem_append_left _ (tO (List.mem_map.2 ⟨elems[i],pz hi',rfl⟩) k hk)))
    exact⟨(b,cs'),h4,h2,h5⟩
   refine⟨l.map (·.1),⟨λb hb'=>?_,?_⟩,.one (alJ h0 he.len hle l1 λi x hx=>(l2 i x hx).2) rfl⟩
   ·obtain⟨x,hx,rfl⟩:=List.mem_map.1 hb';obtain⟨i,hi⟩:=List.mem_iff_getElem?.1 hx;exact (l2 i x hi).1
   ·have:=hwt _ (List.mem_cons_self ..);rw[List.length_map,List.length_map,hlen] at this;rw[List.length_map,l1];exact Nat.le_trans (Nat.le_trans (Nat.le_add_right len rest.length) (Nat.le_mul_of_pos_right _ hb)) this⟩
structure adl(P:Program)(w:World){H:Type}(enc:TypeId×Value->H)(N:Nat){α:Type}(fs:List Field)(off sz:Nat)(e:α->List PV)(G:α->Prop):Prop where
 len:∀a,(e a).length=sz
 dec:∀ (sp:Nat->Bool) (hd:Bool) (n:Nat),n<N->∀ (cs:List Value) (ds:List (DataW H)),ds.length=fs.length->cs.length=off+sz->(∀ (i:Nat) f,fs[i]? = some f->∃ps,DataW.trod enc P w 0 sp hd n f.type ((cs.drop f.offset).take (P.cellsOf f.type))=(ds[i]?).map λd=>(d,ps)) ->
  (∀k∈DataW.weightsEach P (fs.map (·.type)) ds,k<=reachBytes)->∃a,G a/\qG w (cs.drop off) (e a)
theorem adl.nil{N:Nat}(off:Nat):adl P w enc N [] off 0 (λ_:Unit=>[]) (λ_=>True) :=
 ⟨λ_=>rfl,λsp hd n _ cs ds _ hl _ _=>⟨(),trivial,by
  have:cs.drop off=[]:=List.drop_eq_nil_of_le (by omega);rw[this];exact⟨rfl,by simp,by simp⟩⟩⟩
theorem adl.cons{N:Nat}{α β:Type}{f:Field}{fs:List Field}{off sz sz':Nat}{e:α->List PV}{G:α->Prop}{e':β->List PV}{G':β->Prop}(ho:f.offset=off)(hc:P.cellsOf f.type=sz)(h:zU P w enc N f.type sz e G)(hr:adl P w enc N fs (off+sz) sz' e' G') :
  adl P w enc N (f :: fs) off (sz+sz') (λx:α×β=>e x.1++e' x.2) (λx=>G x.1/\G' x.2) :=
 ⟨λx=>by rw[List.length_append,h.len,hr.len],λsp hd n hn cs ds hl hcs hall hw=>by
  match ds,hl with
  | [],hl=>simp at hl
  |d :: ds,hl =>
   rw[List.map_cons,DataW.weightsEach] at hw;obtain⟨ps,h0⟩:=hall 0 f rfl;simp only[List.getElem?_cons_zero,Option.map_some] at h0;obtain⟨a,a1,a2⟩:=h.dec sp hd n hn _ _ h0 λk hk=>hw k (List.mem_append_left _ hk)
   obtain⟨b,b1,b2⟩:=hr.dec sp hd n hn cs ds (by simpa using hl) (by omega) (λi g hg=>by simpa using hall (i+1) g (by simpa using hg)) λk hk=>hw k (List.mem_append_right _ hk)
   refine⟨(a,b),⟨a1,b1⟩,?_⟩;have e1:cs.drop off=(cs.drop off).take sz++cs.drop (off+sz):=by rw[<-List.drop_drop,List.take_append_drop]
   rw[e1];rw[ho,hc] at a2;exact a2.append b2⟩
theorem zU.struct{N:Nat}{α:Type}{t:TypeId}{fs:Array Field}{sz:Nat}{e:α->List PV}{G:α->Prop}(ht:P.underlying t=some (.struct fs))(hc:P.cellsOf t=sz)(h:adl P w enc N fs.toList 0 sz e G):zU P w enc (N+1) t sz e G :=
 ⟨h.len,λsp hd fuel hN cs x hx hw=>by
  obtain⟨xs,n,hfn,rfl,hl,hxs,hf⟩:=DataW.trod_struct ht hx;obtain⟨a,a1,a2⟩:=h.dec sp hd n (by omega) cs (xs.map (·.1)) (by simp[hxs]) (by rw[hl,hc,Nat.zero_add]) (λi f hi=>by
   have h1:=hf i f (by simpa using hi);have hlt:i<xs.length:=by have:=(List.getElem?_eq_some_iff.1 hi).1;rw[hxs];simpa using this
   refine⟨xs[i].2,?_⟩;rw[h1];simp[hlt]) λk hk=>hw k (by
    simp only[DataW.weights,ht];exact hk)
  exact⟨a,a1,by simpa using a2⟩⟩
end Go.bP
namespace Go.bP
open Go.RowKit
def cA{α:Type}(p:Prop) [Decidable p](x:Option α):Option α:=if p then x else none
def thn{α β:Type}(x:Option α)(k:α->Option β):Option β:=match x with
 |some a=>k a
 |none=>none
def jd{α:Type}(l:List α)(i:Int):Option α:=if 0<=i then l[i.toNat]? else none
theorem avD{α:Type}{p:Prop} [Decidable p]{x:Option α}{r:α}(h:cA p x=some r):p/\x=some r:=by
 unfold cA at h;split at h
 ·exact⟨by assumption,h⟩
 ·cases h
theorem rF{α β:Type}{x:Option α}{k:α->Option β}{r:β}(h:thn x k=some r):∃a,x=some a/\k a=some r:=by
 unfold thn at h;split at h
 ·exact⟨_,rfl,h⟩
 ·cases h
theorem adm{α:Type}{b:Bool}{x y:Option α}{r:α}(h:cond b x y=some r)(hb:b=true):x=some r:=by subst hb;exact h
theorem adn{α:Type}{b:Bool}{x y:Option α}{r:α}(h:cond b x y=some r)(hb:b=false):y=some r:=by subst hb;exact h
theorem azD{α β:Type}{l:List α}{i:Nat}{k:α->Option β}{r:β}(f:α->List PV)(h:thn l[i]? k=some r):∃a,i<l.length/\(l.map f).getD i []=f a/\l[i]? = some a/\k a=some r:=by obtain⟨a,h1,h2⟩:=rF h;exact⟨a,(List.getElem?_eq_some_iff.1 h1).1,by simp[h1],h1,h2⟩
theorem aBX{α β:Type}{l:List α}{i:Int}{k:α->Option β}{r:β}(f:α->List PV)(h:thn (jd l i) k=some r) :
  ∃a,0<=i/\i<(l.length:Int)/\(l.map f).getD i.toNat []=f a/\jd l i=some a/\k a=some r:=by
 obtain⟨a,h1,h2⟩:=rF h;have yB:=h1;unfold jd at h1;split at h1
 ·rename_i h0;have:=(List.getElem?_eq_some_iff.1 h1).1;exact⟨a,h0,by omega,by simp[h1],yB,h2⟩
 ·cases h1
theorem eu{α:Type}{f:α->List PV}{n:Nat}(h:∀a,(f a).length=n)(l:List α):∀x∈l.map f,x.length=n:=by intro x hx;obtain⟨a,_,rfl⟩:=List.mem_map.1 hx;exact h a
theorem apL{α:Type}{f:α->List PV}(h:∀a,(f a).all isVal=true)(l:List α):((l.map f).all λx=>x.all isVal)=true:=by simp[h]
theorem asb{α β:Type}(f:α->β)(l:List α)(n:Nat):(l.map f).take n=(l.take n).map f:=(List.map_take ..).symm
theorem asd{α β:Type}(f:α->β)(l:List α)(n:Nat):(l.map f).drop n=(l.drop n).map f:=(List.map_drop ..).symm
theorem avE{α β:Type}(f:α->β)(l m:List α):l.map f++m.map f=(l++m).map f:=(List.map_append ..).symm
theorem bK{α β:Type}(f:α->β)(l m:List α){c:List β}(h:m.map f=c):l.map f++c=(l++m).map f:=by rw[List.map_append,h]
theorem vj{α β:Type}(f:α->β)(n:Nat)(a:α){c:β}(h:f a=c):List.replicate n c=(List.replicate n a).map f:=by rw[List.map_replicate,h]
theorem mC{α β:Type}(f:α->β)(l:List α)(i:Nat)(a:α){c:β}(h:f a=c):(l.map f).set i c=(l.set i a).map f:=by rw[List.map_set,<-h]
attribute [go_sem] asb asd avE List.take_length List.length_set List.length_replicate List.set_cons_zero List.set_cons_succ Nat.le_refl Nat.not_lt_zero Nat.zero_le Nat.zero_lt_succ decide_true decide_false Bool.not_not
mutual
def rG:PV->PV->Prop
 | .val (.slice none 0 0),.aE es=>es=[]
 | .emp,.aE es=>es=[]
 | .aE a,.aE b=>qq a b
 | .agg a,.agg b=>qf a b
 | .dg a,.dg b=>qf a b
 |a,b=>a=b
def qf:List PV->List PV->Prop
 | [],[]=>True
 |a :: r,b :: s=>rG a b/\qf r s
 |_,_=>False
def qq:List (List PV)->List (List PV)->Prop
 | [],[]=>True
 |a :: r,b :: s=>qf a b/\qq r s
 |_,_=>False
end
theorem rC.app:∀ {a b c d:List PV},rC a b->rC c d->rC (a++c) (b++d)
 | [],[],_,_,_,h=>h
 | [],_ :: _,_,_,h,_=>h.elim
 |_ :: _,[],_,_,h,_=>h.elim
 |_ :: _,_ :: _,_,_,h,k=>⟨h.1,rC.app h.2 k⟩
mutual
theorem ajd:∀ (a b:PV),rG a b->PLe a b:=by
 intro a b h;unfold rG at h;split at h
 ·subst h;exact .nil
 ·subst h;exact .emp
 ·exact .aE (tP _ _ h).1 (tP _ _ h).2
 ·exact .agg (sM _ _ h)
 ·exact .dg (sM _ _ h)
 ·subst h;exact .refl _
theorem sM:∀ (a b:List PV),qf a b->rC a b
 | [],[],_=>trivial
 |a :: r,b :: s,h=>⟨ajd a b (by unfold qf at h;exact h.1),sM r s (by unfold qf at h;exact h.2)⟩
 | [],_ :: _,h=>by unfold qf at h;exact h
 |_ :: _,[],h=>by unfold qf at h;exact h
theorem tP:∀ (a b:List (List PV)),qq a b->a.map (·.length)=b.map (·.length)/\rC a.flatten b.flatten
 | [],[],_=>⟨rfl,trivial⟩
 |a :: r,b :: s,h=>by unfold qq at h;have h1:=sM a b h.1;have h2:=tP r s h.2;exact⟨by rw[List.map_cons,List.map_cons,h2.1,h1.len],by rw[List.flatten_cons,List.flatten_cons];exact h1.app h2.2⟩
 | [],_ :: _,h=>by unfold qq at h;exact h.elim
 |_ :: _,[],h=>by unfold qq at h;exact h.elim
end
theorem aB.eV{P:Program}{f:FuncId}{args:List PV}{t:PV}(h:aB P f args (λv=>rG v t)):aB P f args (λv=>v=t):=h.le λr hr=>⟨t,ajd r t hr,rfl⟩
mutual
def tQ:RV->RV->Prop
 | .p (.val (.slice none 0 0)),.row _ sz es=>es=[]/\0<sz
 | .p (.val (.slice none 0 0)),.p (.aE es)=>es=[]
 | .row e sz es,.row e' sz' es'=>e=e'/\sz=sz'/\qq es es'
 | .p (.aE a),.p (.aE b)=>qq a b
 | .agg a,.agg b=>aci a b
 | .dg a,.dg b=>aci a b
 | .p (.agg a),.agg b=>aer a b
 |a,b=>a=b
def aci:List RV->List RV->Prop
 | [],[]=>True
 |a :: r,b :: s=>tQ a b/\aci r s
 |_,_=>False
def aer:List PV->List RV->Prop
 | [],[]=>True
 |a :: r,b :: s=>tQ (.p a) b/\aer r s
 |_,_=>False
end
theorem xq.aBY{w:World}{B:Nat}{J:Mem}{u:Value}{bs:List Nat}{e:TypeId}{sz:Nat}{es es':List (List PV)}(hl:es.map (·.length)=es'.map (·.length))(hf:rC es.flatten es'.flatten)(h:xq w B J u (.row e sz es) bs):xq w B J u (.row e sz es') bs:=by
 cases h with
 |row _ _ _ _ us h h1 =>
  have hlen:es.length=es'.length:=by have:=congrArg List.length hl;simpa using this
  refine .row u e sz es' us ⟨hlen ▸ h.own,h.pos,λx hx=>?_,λj u c hu hc=>?_,h.one,h.free⟩ h1
  ·obtain⟨i,hi,rfl⟩:=List.getElem_of_mem hx;have h2:(es.map (·.length))[i]? = (es'.map (·.length))[i]?:=by rw[hl]
   have hi':i<es.length:=by omega
   simp only[List.getElem?_map,List.getElem?_eq_getElem hi,List.getElem?_eq_getElem hi',Option.map_some,cm] at h2;rw[<-h2];exact h.all _ (pz hi')
  ·obtain⟨c',q1,q2⟩:=hf.at hc;exact q2 J u (h.val j u c' hu q1)
theorem xq.aAj{w:World}{B:Nat}{J:Mem}{u:Value}{bs:List Nat}(e:TypeId){sz:Nat}(hsz:0<sz)(h:xq w B J u (.p (.val (.slice none 0 0))) bs):xq w B J u (.row e sz []) bs:=(RLe.nil e sz hsz).sound h
theorem xq.aAk{w:World}{B:Nat}{J:Mem}{u:Value}{bs:List Nat}(h:xq w B J u (.p (.val (.slice none 0 0))) bs):xq w B J u (.p (.aE [])) bs:=RLe.aA3.sound h
def RLs(w:World)(B:Nat)(J:Mem)(us:List Value)(rs:List RV)(bs:List (List Nat)):Prop:=us.length=rs.length/\us.length=bs.length/\∀ (j:Nat) u r b,us[j]? = some u->rs[j]? = some r->bs[j]? = some b->xq w B J u r b
theorem RLs.cons{w:World}{B:Nat}{J:Mem}{u:Value}{us:List Value}{r r':RV}{rs rs':List RV}{b:List Nat}{bs:List (List Nat)}(h:RLs w B J (u :: us) (r :: rs) (b :: bs))
  (h1:xq w B J u r b->xq w B J u r' b) (h2:RLs w B J us rs bs->RLs w B J us rs' bs):RLs w B J (u :: us) (r' :: rs') (b :: bs):=by
 obtain⟨a1,a2,a3⟩:=h;obtain⟨c1,c2,c3⟩:=h2 ⟨by simpa using a1,by simpa using a2,λj u r b hu hr hb=>a3 (j+1) u r b (by simpa using hu) (by simpa using hr) (by simpa using hb)⟩;refine⟨by simpa using c1,by simpa using c2,λj u r b hu hr hb=>?_⟩;cases j with
 |zero=>simp at hu hr hb;subst hu hr hb;exact h1 (a3 0 _ _ _ rfl rfl rfl)
 |succ j=>exact c3 j u r b (by simpa using hu) (by simpa using hr) (by simpa using hb)
mutual
theorem aje:∀ (r t:RV),tQ r t->∀ {w:World} {B:Nat} {J:Mem} {u:Value} {bs:List Nat},xq w B J u r bs->xq w B J u t bs:=by
 intro r t h w B J u bs hr;unfold tQ at h;split at h
 ·obtain⟨rfl,h2⟩:=h;exact hr.aAj _ h2
 ·subst h;exact hr.aAk
 ·obtain⟨rfl,rfl,h⟩:=h;exact hr.aBY (tP _ _ h).1 (tP _ _ h).2
 ·cases hr with
  |p _ _ hx=>exact .p _ _ ((PLe.aE (tP _ _ h).1 (tP _ _ h).2) _ _ hx)
 ·cases hr with
  |agg us rs bs q1 q2 q3 q4=>obtain⟨c1,c2,c3⟩:=ajf _ _ h (w:=w) (B:=B) (J:=J) ⟨q1,q2,q3⟩;exact .agg us _ bs c1 c2 c3 q4
 ·cases hr with
  |dg us rs bs q1 q2 q3=>obtain⟨c1,c2,c3⟩:=ajf _ _ h (w:=w) (B:=B) (J:=J) ⟨q1,q2,q3⟩;exact .dg us _ bs c1 c2 c3
 ·cases hr with
  |p u x hx =>
   cases hx with
   |agg us cs q1 q2 q3 =>
    obtain⟨c1,c2,c3⟩:=apM _ _ h (w:=w) (B:=B) (J:=J) (us:=us) ⟨q1,q2⟩;have:((us.map λ_=>([]:List Nat))).flatten=[]:=by simp
    have h2:=xq.agg us _ (us.map λ_=>[]) c1 c2 c3 q3;rw[this] at h2;exact h2
 ·subst h;exact hr
termination_by r t=>SizeOf.sizeOf t
theorem ajf:∀ (a b:List RV),aci a b->∀ {w:World} {B:Nat} {J:Mem} {us:List Value} {bs:List (List Nat)},RLs w B J us a bs->RLs w B J us b bs
 | [],[],_,_,_,_,_,_,h=>h
 | [],_ :: _,h,_,_,_,_,_,_=>by unfold aci at h;exact h.elim
 |_ :: _,[],h,_,_,_,_,_,_=>by unfold aci at h;exact h.elim
 |a :: r,b :: s,h,w,B,J,us,bs,hr=>by
  unfold aci at h
  match us,bs,hr with
  |u :: us,c :: bs,hr=>exact hr.cons (aje a b h.1) (ajf r s h.2)
  | [],_,hr=>have:=hr.1;simp at this
  |_ :: _,[],hr=>have:=hr.2.1;simp at this
termination_by a b=>SizeOf.sizeOf b
theorem apM:∀ (a:List PV) (b:List RV),aer a b->∀ {w:World} {B:Nat} {J:Mem} {us:List Value},VRs J us a->RLs w B J us b (us.map λ_=>[])
 | [],[],_,_,_,_,us,h=>by
  have h1:us=[]:=by have:=h.1;simpa using this
  subst h1;exact⟨rfl,rfl,λj u r b hu=>by simp at hu⟩
 | [],_ :: _,h,_,_,_,_,_=>by unfold aer at h;exact h.elim
 |_ :: _,[],h,_,_,_,_,_=>by unfold aer at h;exact h.elim
 |a :: r,b :: s,h,w,B,J,us,hr=>by
  unfold aer at h
  match us,hr with
  |u :: us,hr =>
   have ih:=apM r s h.2 (w:=w) (B:=B) (J:=J) (us:=us) ⟨by have:=hr.1;simpa using this,λj u c hu hc=>hr.2 (j+1) u c (by simpa using hu) (by simpa using hc)⟩;have h1:=aje (.p a) b h.1 (w:=w) (B:=B) (.p u a (hr.2 0 u a rfl rfl));refine⟨by simpa using ih.1,by simp,λj u r b hu hr hb=>?_⟩;cases j with
   |zero=>simp at hu hr hb;subst hu hr hb;exact h1
   |succ j=>exact ih.2.2 j u r b (by simpa using hu) (by simpa using hr) (by simpa using hb)
  | [],hr=>have:=hr.1;simp at this
termination_by a b=>SizeOf.sizeOf b
end
theorem aZ.tj{P:Program}{f:FuncId}{args:List PV}{t:RV}(h:aZ P f args (λv=>tQ v t)):aZ P f args (λv=>v=t):=⟨h.1,λI w vs hI hv=>(h.2 I w vs hI hv).mono λ_ _ ⟨v,r,bs,I',h1,h2,h3,h4⟩=>⟨v,t,bs,I',h1,rfl,aje r t h2 h3,h4⟩⟩
theorem avF(a b:List PV):rG (.agg a) (.agg b)=qf a b:=by simp only[rG]
theorem avG(a b:List PV):rG (.dg a) (.dg b)=qf a b:=by simp only[rG]
theorem avH(es:List (List PV)):rG (.val (.slice none 0 0)) (.aE es)=(es=[]):=by simp only[rG]
theorem avI(es:List (List PV)):rG .emp (.aE es)=(es=[]):=by simp only[rG]
theorem avJ(a b:List (List PV)):rG (.aE a) (.aE b)=qq a b:=by simp only[rG]
theorem alL(a b:Value):rG (.val a) (.val b)=(a=b):=by unfold rG;split<;>first|(rename_i h _;cases h;done)|(rename_i h;cases h;done)|simp_all
mutual
theorem ahC:∀a:PV,rG a a
 | .agg a=>by simp only[rG];exact lC a
 | .dg a=>by simp only[rG];exact lC a
 | .val v=>by rw[alL]
 | .aE a=>by simp only[rG];exact abH a
 | .emp=>by simp only[rG]
 | .fq _ _=>by simp only[rG]
 | .jF _ _ _=>by simp only[rG]
theorem lC:∀a:List PV,qf a a
 | []=>by unfold qf;trivial
 |a :: r=>by unfold qf;exact⟨ahC a,lC r⟩
@[refl] theorem abH:∀a:List (List PV),qq a a
 | []=>by unfold qq;trivial
 |a :: r=>by unfold qq;exact⟨lC a,abH r⟩
end
theorem aow(a:List (List PV)):qq a a=True:=eq_true (abH a)
theorem aox(a b:List PV)(r s:List (List PV)):qq (a :: r) (b :: s)=(qf a b/\qq r s):=by simp only[qq]
attribute [go_sem] aow aox
theorem avK:qf [] []=True:=by simp only[qf]
theorem ase(a b:PV)(r s:List PV):qf (a :: r) (b :: s)=(rG a b/\qf r s):=by simp only[qf]
theorem avL(a b:List RV):tQ (.agg a) (.agg b)=aci a b:=by simp only[tQ]
theorem avM(a b:List RV):tQ (.dg a) (.dg b)=aci a b:=by simp only[tQ]
theorem asf(a:List PV)(b:List RV):tQ (.p (.agg a)) (.agg b)=aer a b:=by simp only[tQ]
theorem alM(e:TypeId)(sz:Nat)(es:List (List PV)):tQ (.p (.val (.slice none 0 0))) (.row e sz es)=(es=[]/\0<sz):=by simp only[tQ]
theorem alN(es:List (List PV)):tQ (.p (.val (.slice none 0 0))) (.p (.aE es))=(es=[]):=by simp only[tQ]
theorem avN(e e':TypeId)(sz sz':Nat)(es es':List (List PV)):tQ (.row e sz es) (.row e' sz' es')=(e=e'/\sz=sz'/\qq es es'):=by simp only[tQ]
theorem avO(a b:Value):tQ (.p (.val a)) (.p (.val b))=(a=b):=by unfold tQ;split<;>first|(rename_i h _;cases h;done)|(rename_i h;cases h;done)|simp_all
theorem avP(a b:List (List PV)):tQ (.p (.aE a)) (.p (.aE b))=qq a b:=by simp only[tQ]
theorem avQ:aci [] []=True:=by simp only[aci]
theorem asg(a b:RV)(r s:List RV):aci (a :: r) (b :: s)=(tQ a b/\aci r s):=by simp only[aci]
theorem avR:aer [] []=True:=by simp only[aer]
theorem ash(a:PV)(b:RV)(r:List PV)(s:List RV):aer (a :: r) (b :: s)=(tQ (.p a) b/\aer r s):=by simp only[aer]
attribute [go_sem] avF avG avH avI avJ alL avK ase avL avM asf alM alN avN avO avP avQ asg avR ash
section
variable{σ O:Type}
def bH(f:Nat->σ->(σ->Option O)->(σ->Option O)->Option O):Nat->Nat->σ->(σ->Option O)->Option O
 |0,_,s,K=>K s
 |k+1,i,s,K=>f i s (λs'=>bH f k (i+1) s' K) K
def iter(f:σ->(σ->Option O)->(σ->Option O)->Option O):Nat->σ->(σ->Option O)->Option O
 |0,_,_=>none
 |k+1,s,K=>f s (λs'=>iter f k s' K) K
end
def fuel:Nat:=4611686018427387904
section
variable{P:Program}{N:Nat}{own:List Nat}{σ γ O:Type}{c:Code}{K:pJ}{env:Env}{H:aq}
def tR(R:Env->aq->Prop)(K:pJ):pJ:=λe env H=>match e with
 | .normal=>R env H
 |e=>K e env H
theorem ajg{R:Env->aq->Prop} : tR R K .normal env H=R env H:=rfl
theorem aoy{R:Env->aq->Prop}{id:Nat} : tR R K (.exit id) env H=K (.exit id) env H:=rfl
theorem asi{R:Env->aq->Prop} : tR R K .ret env H=K .ret env H:=rfl
attribute [go_sem] ajg aoy asi
def alO(inv:σ×γ->Env)(jA:σ×γ->aq)(Nx:σ->Prop)(e:Env)(H:aq):Prop:=∃s' g,Nx s'/\fE e H (inv (s',g)) (jA (s',g))
theorem alP{inv:σ×γ->Env}{jA:σ×γ->aq}{Nx:σ->Prop}{e:Env}{H:aq}(s':σ)(g:γ)(h:Nx s')(hw:fE e H (inv (s',g)) (jA (s',g))):alO inv jA Nx e H:=⟨s',g,h,hw⟩
theorem afH{R R':Env->aq->Prop}(h:∀e H,R e H↔R' e H):tR R K=(λz e' H'=>match z with
  | .normal=>R' e' H'
  |z=>K z e' H'):=by
 funext z e' H';cases z<;>first|rfl|exact propext (h e' H')
theorem asj{f:σ->(σ->Option O)->(σ->Option O)->Option O}{Kf:σ->Option O}{r:O}(inv:σ×γ->Env)(jA:σ×γ->aq)(g0:γ){k:Nat}{s:σ}(h:iter f k s Kf=some r)
  (hw:fE env H (inv (s,g0)) (jA (s,g0)))
  (hr:∀s g (eF:σ->Option O) (Nx:σ->Prop),(∀s',eF s'=some r->Nx s')->f s eF Kf=some r->cw P N own c (tR (alO inv jA Nx) K) (inv (s,g)) (jA (s,g))):ab3 P N own c K env H:=by
 refine⟨λn e H=>∃s g,iter f n s Kf=some r/\e=inv (s,g)/\H=jA (s,g),⟨k,_,_,⟨s,g0,h,rfl,rfl⟩,hw⟩,?_⟩;rintro n e H ⟨s,g,hs,rfl,rfl⟩;cases n with
 |zero=>cases hs
 |succ n =>
  have:=hr s g _ (λs'=>∃m,m<n+1/\iter f m s' Kf=some r) (λs' h'=>⟨n,Nat.lt_succ_self n,h'⟩) hs;rw[afH (R':=λe' H'=>∃m e2 H2,m<n+1/\(∃s g,iter f m s Kf=some r/\e2=inv (s,g)/\H2=jA (s,g))/\fE e' H' e2 H2)] at this
  ·exact this
  ·intro e' H';constructor
   ·rintro⟨s',g',⟨m,h1,h2⟩,h3⟩;exact⟨m,_,_,h1,⟨s',g',h2,rfl,rfl⟩,h3⟩
   ·rintro⟨m,e2,H2,h1,⟨s',g',h2,rfl,rfl⟩,h3⟩;exact⟨s',g',⟨m,h1,h2⟩,h3⟩
theorem asl{f:Nat->σ->(σ->Option O)->(σ->Option O)->Option O}{Kf:σ->Option O}{r:O}(inv:(Nat×σ)×γ->Env)(jA:(Nat×σ)×γ->aq)(g0:γ){n i:Nat}{s:σ}(h:bH f (n-i) i s Kf=some r)
  (hw:fE env H (inv ((i,s),g0)) (jA ((i,s),g0)))
  (hr:∀j s g (eF:σ->Option O) (Nx:Nat×σ->Prop),j<n->(∀s',eF s'=some r->Nx (j+1,s'))->f j s eF Kf=some r->cw P N own c (tR (alO inv jA Nx) K) (inv ((j,s),g)) (jA ((j,s),g)))
  (he:∀j s g (Nx:Nat×σ->Prop),n<=j->Kf s=some r->cw P N own c (tR (alO inv jA Nx) K) (inv ((j,s),g)) (jA ((j,s),g))):ab3 P N own c K env H:=by
 refine⟨λm e H=>∃ (x:Nat×σ) (g:γ),(n-x.1=m/\bH f (n-x.1) x.1 x.2 Kf=some r)/\e=inv (x,g)/\H=jA (x,g),⟨n-i,_,_,⟨(i,s),g0,⟨rfl,h⟩,rfl,rfl⟩,hw⟩,?_⟩;rintro m e H ⟨⟨j,s⟩,g,⟨hm,hs⟩,rfl,rfl⟩;have key:∀R:Nat×σ->Prop,(∀x,R x↔n-x.1<m/\bH f (n-x.1) x.1 x.2 Kf=some r)->∀e' H',alO inv jA R e' H'↔∃m' e2 H2,m'<m/\(∃ (x:Nat×σ) (g:γ),(n-x.1=m'/\bH f (n-x.1) x.1 x.2 Kf=some r)/\e2=inv (x,g)/\H2=jA (x,g))/\fE e' H' e2 H2:=by
  intro R hR e' H';constructor
  ·rintro⟨x,g',h1,h3⟩;obtain⟨h1,h2⟩:=(hR x).1 h1;exact⟨_,_,_,h1,⟨x,g',⟨rfl,h2⟩,rfl,rfl⟩,h3⟩
  ·rintro⟨m',e2,H2,h1,⟨x,g',⟨h4,h2⟩,rfl,rfl⟩,h3⟩;exact⟨x,g',(hR x).2 ⟨by omega,h2⟩,h3⟩
 simp only at hm hs;by_cases hj:j<n
 ·obtain⟨k,hk⟩:∃k,n-j=k+1:=⟨n-j-1,by omega⟩;have hk':n-(j+1)=k:=by omega
  rw[hk] at hs;have:=hr j s g _ (λx=>n-x.1<m/\bH f (n-x.1) x.1 x.2 Kf=some r) hj (λs' h'=>⟨by simp only;omega,by simp only[hk'];exact h'⟩) hs;rw[afH (key _ λx=>Iff.rfl)] at this;exact this
 ·have h0:n-j=0:=by omega
  rw[h0] at hs;have:=he j s g (λx=>n-x.1<m/\bH f (n-x.1) x.1 x.2 Kf=some r) (by omega) hs;rw[afH (key _ λx=>Iff.rfl)] at this;exact this
end
theorem ayx{P:Program}{N:Nat}{own:List Nat}{σ γ O:Type}{c:Code}{K:pJ}{env:Env}{H:aq}{f:σ->(σ->Option O)->(σ->Option O)->Option O}{Kf:σ->Option O}{r:O}(inv:σ×γ->Env)(jA:σ×γ->aq)(g0:γ){k:Nat}{s:σ}(h:iter f k s Kf=some r)
  (hw:fE env H (inv (s,g0)) (jA (s,g0)))
  (hr:∀s g (eF:σ->Option O) (R:Env->aq->Prop),(∀s' g' {e H},eF s'=some r->fE e H (inv (s',g')) (jA (s',g'))->R e H)->f s eF Kf=some r->cw P N own c (tR R K) (inv (s,g)) (jA (s,g))):ab3 P N own c K env H :=
 asj inv jA g0 h hw λs g eF Nx hN hf=>hr s g eF _ (λs' g' _ _ h1 h2=>alP s' g' (hN s' h1) h2) hf
theorem ayy{P:Program}{N:Nat}{own:List Nat}{σ γ O:Type}{c:Code}{K:pJ}{env:Env}{H:aq}{f:Nat->σ->(σ->Option O)->(σ->Option O)->Option O}{Kf:σ->Option O}{r:O}(inv:(Nat×σ)×γ->Env)(jA:(Nat×σ)×γ->aq)(g0:γ){n i:Nat}{s:σ}(h:bH f (n-i) i s Kf=some r)
  (hw:fE env H (inv ((i,s),g0)) (jA ((i,s),g0)))
  (hr:∀j s g (eF:σ->Option O) (R:Env->aq->Prop),j<n->(∀s' g' {e H},eF s'=some r->fE e H (inv ((j+1,s'),g')) (jA ((j+1,s'),g'))->R e H)->f j s eF Kf=some r->cw P N own c (tR R K) (inv ((j,s),g)) (jA ((j,s),g)))
  (he:∀j s g (R:Env->aq->Prop),n<=j->Kf s=some r->cw P N own c (tR R K) (inv ((j,s),g)) (jA ((j,s),g))):ab3 P N own c K env H :=
 asl inv jA g0 h hw (λj s g eF Nx hj hN hf=>hr j s g eF _ hj (λs' g' _ _ h1 h2=>alP (j+1,s') g' (hN s' h1) h2) hf) (λj s g Nx hj hk=>he j s g _ hj hk)
section
variable{P:Program}{env:Env}{H:aq}{o:Oper}{W:Env->aq->Prop}{k:FuncId}{ps ps':List PV}{b:Bool}
theorem aZ.args{f:FuncId}{ps ps':List PV}{Q:RV->Prop}(h:aZ P f ps Q)(hp:rC ps' ps):aZ P f ps' Q:=⟨h.1,λI w vs hI hv=>h.2 I w vs hI (hp.vrs hv)⟩
theorem azE{x:PV}(c:aB P k ps λr=>r=x)(he:kr o (ev env) H=some (k,ps',b))(hp:qf ps' ps)(hb:b=true->x.scalar=true)
  (hW:W (bZ env o.dst (.p x)) H):kf P o W env H:=aU (c.args (sM _ _ hp)) he hb hW
theorem avS{x:PV}(c:aB P k ps λr=>r=x)(he:kr o (ev env) H=some (k,ps',b))(hp:qf ps' ps)(hb:b=true->x.scalar=true)
  (hW:W (bZ env o.dst (.p x)) H):ahl P o W env H:=nk (c.args (sM _ _ hp)) he hb hW
end
section
variable{P:Program}{t:TypeId}{kk:IntKind}{n:Int}{H:aq}
end
mutual
def mb:AV->AV->Prop
 | .p a,.p b=>rG a b
 | .agg a,.agg b=>ow a b
 | .dg a,.dg b=>ow a b
 |a,b=>a=b
def ow:List AV->List AV->Prop
 | [],[]=>True
 |a :: r,b :: s=>mb a b/\ow r s
 |_,_=>False
end
theorem aAl(a b:PV):mb (.p a) (.p b)=rG a b:=by simp only[mb]
theorem avT(i v j u:Nat):mb (.row i v) (.row j u)=(i=j/\v=u):=by simp only[mb,AV.row.injEq]
theorem avU(i v j u:Nat):mb (.ptr i v) (.ptr j u)=(i=j/\v=u):=by simp only[mb,AV.ptr.injEq]
theorem avV(a b:List AV):mb (.agg a) (.agg b)=ow a b:=by simp only[mb]
theorem avW(a b:List AV):mb (.dg a) (.dg b)=ow a b:=by simp only[mb]
theorem asm:ow [] []=True:=by simp only[ow]
theorem aoz(a b:AV)(r s:List AV):ow (a :: r) (b :: s)=(mb a b/\ow r s):=by simp only[ow]
theorem qH:∀ {as' bs:List AV},ow as' bs->as'.length=bs.length/\∀ (j:Nat) a b,as'[j]? = some a->bs[j]? = some b->mb a b
 | [],[],_=>⟨rfl,λj a b h=>by simp at h⟩
 |a :: r,b :: s,h=>by
  unfold ow at h;obtain⟨h1,h2⟩:=qH h.2;refine⟨by simp[h1],λj x y hx hy=>?_⟩;cases j with
  |zero=>simp at hx hy;subst hx hy;exact h.1
  |succ j=>exact h2 j x y (by simpa using hx) (by simpa using hy)
 | [],_ :: _,h=>by unfold ow at h;exact h.elim
 |_ :: _,[],h=>by unfold ow at h;exact h.elim
theorem xF{I:Mem}{L:bg}{u:Value}{a:AV}(h:di I L u a):∀ {b:AV},mb a b->di I L u b:=by
 induction h with
 |p u x h =>
  intro b hb;unfold mb at hb;split at hb
  ·rename_i e;cases e;exact .p _ _ (ajd _ _ hb _ _ h)
  ·rename_i e;cases e
  ·rename_i e;cases e
  ·subst hb;exact .p _ _ h
 |agg us cs hl hv hone ih =>
  intro b hb;unfold mb at hb;split at hb
  ·rename_i e;cases e
  ·rename_i e;cases e;obtain⟨q1,q2⟩:=qH hb;refine .agg us _ (hl.trans q1) (λj u c hu hc=>?_) hone;obtain⟨a,ha⟩:∃a,cs[j]? = some a:=by have hj:j<us.length:=(List.getElem?_eq_some_iff.1 hu).1;exact⟨cs[j]'(by omega),by simp[hl ▸ hj]⟩
   exact ih j u a hu ha (q2 j a c ha hc)
  ·rename_i e;cases e
  ·subst hb;exact .agg us cs hl hv hone
 |dg us cs hl hv ih =>
  intro b hb;unfold mb at hb;split at hb
  ·rename_i e;cases e
  ·rename_i e;cases e
  ·rename_i e;cases e;obtain⟨q1,q2⟩:=qH hb;refine .dg us _ (hl.trans q1) (λj u c hu hc=>?_);obtain⟨a,ha⟩:∃a,cs[j]? = some a:=by have hj:j<us.length:=(List.getElem?_eq_some_iff.1 hu).1;exact⟨cs[j]'(by omega),by simp[hl ▸ hj]⟩
   exact ih j u a hu ha (q2 j a c ha hc)
  ·subst hb;exact .dg us cs hl hv
 |row u id aW v hdr sz hl hle h h1=>intro b hb;unfold mb at hb;subst hb;exact .row u id aW v hdr sz hl hle h h1
 |ptr id b' off hl=>intro b hb;unfold mb at hb;subst hb;exact .ptr id b' off hl
 |iY u id aW v i off hdr sz hl hle h h1=>intro b hb;unfold mb at hb;subst hb;exact .iY u id aW v i off hdr sz hl hle h h1
 |jF fn us vs fs cs hl hl' hv yz=>intro b hb;unfold mb at hb;subst hb;exact .jF fn us vs fs cs hl hl' hv yz
 |dead u=>intro b hb;unfold mb at hb;subst hb;exact .dead u
 |bsl id b n hl=>intro b hb;unfold mb at hb;subst hb;exact .bsl _ _ _ hl
 |nP a id aW v off n m c hdr sz hl hle hn hm hz h=>intro b hb;unfold mb at hb;subst hb;exact .nP _ id aW v off n _ _ hdr sz hl hle hn hm hz h
 |kP u id aW v hdr sz sz' eT n hl hle h h1=>intro b hb;unfold mb at hb;subst hb;exact .kP u id aW v hdr sz sz' eT n hl hle h h1
 |lz u id aW v i off hdr sz sz' eT n hl hle h h1=>intro b hb;unfold mb at hb;subst hb;exact .lz u id aW v i off hdr sz sz' eT n hl hle h h1
 |mu u id aW v i hdr sz sz' eT n hl hle h h1=>intro b hb;unfold mb at hb;subst hb;exact .mu u id aW v i hdr sz sz' eT n hl hle h h1
 |om u id aW v i j off hdr sz sz' eT n hl hle h h1=>intro b hb;unfold mb at hb;subst hb;exact .om u id aW v i j off hdr sz sz' eT n hl hle h h1
def rX:List (Nat×AV)->Env
 | []=>gU
 |(d,v) :: r=>cD (rX r) d v
def bq:List (Nat×Chunk)->aq
 | []=>cv
 |(d,c) :: r=>bh (bq r) d c
theorem avX:rX []=gU:=rfl
theorem asn(d:Nat)(v:AV)(r:List (Nat×AV)):rX ((d,v) :: r)=cD (rX r) d v:=rfl
theorem aso:bq []=cv:=rfl
theorem aoA(d:Nat)(c:Chunk)(r:List (Nat×Chunk)):bq ((d,c) :: r)=bh (bq r) d c:=rfl
def aoB(e:Env):List (Nat×AV)->Prop
 | []=>True
 |(d,v) :: r=>mb (e d) v/\aoB e r
def aoC:Option Chunk->Chunk->Prop
 |some (.box cs),.box ds=>ow cs ds
 |some c,d=>c=d
 |none,_=>False
def vJ(H:aq):List (Nat×Chunk)->Prop
 | []=>True
 |(d,c) :: r=>aoC (H d) c/\vJ H r
def aoD(G:aq):List (Nat×AV)->Prop
 | []=>True
 |(_,v) :: r=>lU G v/\aoD G r
def wo(G:aq):List (Nat×Chunk)->Prop
 | []=>True
 |(_,.box cs) :: r=>l9 G cs/\wo G r
 |_ :: r=>wo G r
theorem avY(e:Env):aoB e []=True:=rfl
theorem asp(e:Env)(d:Nat)(v:AV)(r:List (Nat×AV)):aoB e ((d,v) :: r)=(mb (e d) v/\aoB e r):=rfl
theorem avZ(cs ds:List AV):aoC (some (.box cs)) (.box ds)=ow cs ds:=rfl
theorem av0(v:Nat)(e:TypeId)(sz:Nat)(es:List (List PV))(v':Nat)(e':TypeId)(sz':Nat)(es':List (List PV)):aoC (some (.row v e sz es)) (.row v' e' sz' es')=(v=v'/\e=e'/\sz=sz'/\es=es'):=by simp only[aoC,Chunk.row.injEq]
theorem av1(H:aq):vJ H []=True:=rfl
theorem asq(H:aq)(d:Nat)(c:Chunk)(r:List (Nat×Chunk)):vJ H ((d,c) :: r)=(aoC (H d) c/\vJ H r):=rfl
theorem av2(G:aq):aoD G []=True:=rfl
theorem asr(G:aq)(d:Nat)(v:AV)(r:List (Nat×AV)):aoD G ((d,v) :: r)=(lU G v/\aoD G r):=rfl
theorem av3(G:aq):wo G []=True:=rfl
theorem av4(G:aq)(d:Nat)(cs:List AV)(r:List (Nat×Chunk)):wo G ((d,.box cs) :: r)=(l9 G cs/\wo G r):=rfl
theorem av5(G:aq)(d:Nat)(v:Nat)(e:TypeId)(sz:Nat)(es:List (List PV))(r:List (Nat×Chunk)):wo G ((d,.row v e sz es) :: r)=wo G r:=rfl
theorem ayz(G:aq)(x:PV):lU G (.p x)=True:=by simp only[lU]
theorem ahD(G:aq)(i v:Nat):lU G (.row i v)=(G i≠none):=by simp only[lU]
theorem ahE(G:aq)(i v:Nat):lU G (.ptr i v)=(G i≠none):=by simp only[lU]
theorem afI(G:aq)(i v:Nat):lU G (.kP i v)=(G i≠none):=by simp only[lU]
theorem ass(G:aq)(cs:List AV):lU G (.agg cs)=l9 G cs:=by simp only[lU]
theorem ast(G:aq)(cs:List AV):lU G (.dg cs)=l9 G cs:=by simp only[lU]
theorem aoE(G:aq):l9 G []=True:=by simp only[l9]
theorem alQ(G:aq)(a:AV)(r:List AV):l9 G (a :: r)=(lU G a/\l9 G r):=by simp only[l9]
theorem aAm(H':aq):kG cv H'=True:=eq_true (azw H')
theorem av6{H H':aq}{i:Nat}{c:Chunk}(hi:i<1000000):kG (bh H i c) H'=kG H H':=by refine propext ⟨λh j hj hn=>h j hj ?_,akP hi⟩;unfold bh;rw[if_neg (by omega)];exact hn
theorem asu{H H':aq}{i:Nat}{c:Chunk}(hi:1000000<=i):kG (bh H i c) H'=(H' i≠none/\kG H H'):=by
 refine propext ⟨λh=>⟨h i hi (by unfold bh;rw[if_pos rfl];simp),λj hj hn=>h j hj ?_⟩,λh=>ag9 h.1 h.2⟩;unfold bh;split
 ·simp
 ·exact hn
attribute [go_sem] afI aAl avT avU avV avW asm aoz avX asn aso aoA avY asp avZ av0 av1 asq av2 asr av3 av4 av5 ayz ahD ahE ass ast aoE alQ aAm av6 asu
theorem apN{e:Env} : ∀ {l:List (Nat×AV)},aoB e l->∀t,rX l t = .dead\/mb (e t) (rX l t)
 | [],_,t=>.inl rfl
 |(d,v) :: r,h,t=>by
  unfold rX cD;split
  ·rename_i ht;subst ht;exact .inr h.1
  ·exact apN h.2 t
theorem acj{H:aq} : ∀ {l:List (Nat×Chunk)},vJ H l->∀i c',bq l i=some c'->∃c,H i=some c/\aoC (some c) c'
 | [],_,i,c',h=>by cases h
 |(d,v) :: r,h,i,c',hi=>by
  unfold bq bh at hi;split at hi
  ·rename_i ht;subst ht;simp only[cm] at hi;subst hi;have h1:=h.1;cases hH:H i with
   |none=>rw[hH] at h1;exact h1.elim
   |some c=>rw[hH] at h1;exact⟨c,rfl,h1⟩
  ·exact acj h.2 i c' hi
theorem apO{G:aq} : ∀ {l:List (Nat×AV)},aoD G l->ac7 (rX l) G
 | [],_,t=>trivial
 |(d,v) :: r,h,t=>by
  unfold rX cD;split
  ·exact h.1
  ·exact apO h.2 t
theorem ajh{G:aq} : ∀ {l:List (Nat×Chunk)},wo G l->pL (bq l) G
 | [],_,i,cs,h=>by cases h
 |(d,c) :: r,h,i,cs,hi=>by
  have hr:wo G r:=by
   cases c with
   |box cs=>exact h.2
   |row=>exact h
   |shut=>exact h
   |tail=>exact h
   |deep=>exact h
  unfold bq bh at hi;split at hi
  ·simp only[cm] at hi;subst hi;exact h.1
  ·exact ajh hr i cs hi
theorem afJ{e:Env}{H:aq}{l:List (Nat×AV)}{hl:List (Nat×Chunk)}(h:aoB e l/\vJ H hl/\aoD (bq hl) l/\wo (bq hl) hl/\kG H (bq hl)):fE e H (rX l) (bq hl):=λC I L tm w hs=>by
 obtain⟨h1,h2,h3,h4,h5⟩:=h;have w0:fE e H e H:=fE.refl _ _;refine⟨I,L.to (bq hl),?_⟩;exact
 {below:=hs.below
  mem:=hs.mem
  mw:=hs.mw
  m8:=hs.m8
  frame:=hs.frame
  loc:=λi=>by
   cases hi:C.L0 i with
   |none=>trivial
   |some l0 =>
    have h0:=hs.loc i;rw[hi] at h0;have hL:L i≠none:=by
     cases l0 with
     |box b=>intro e;rw[e] at h0;cases h0
     |row v hdr sz=>obtain⟨_,_,h0,_⟩:=h0;intro e;rw[e] at h0;cases h0
     |deep v hdr sz sz' eT n=>obtain⟨_,_,_,_,h0,_⟩:=h0;intro e;rw[e] at h0;cases h0
    have hH:H i≠none:=by
     cases hLi:L i with
     |none=>exact absurd hLi hL
     |some l=>obtain⟨c,hc⟩:=hs.dom i l hLi;rw[hc];simp
    have e:=ld (L:=L) (h5 i (C.hL0 i l0 hi) hH);rw[e];exact h0
  j9:=λid l b hl hb=>hs.j9 id l b (to_eq hl).1 hb
  size:=hs.size
  env:=λt=>by
   rcases apN h1 t with h|h
   ·rw[h];exact .dead _
   ·exact (xF (hs.env t) h).to (apO h3 t)
  dom:=λid l hl=>(to_eq hl).2
  chunk:=λid ch hch=>by
   obtain⟨c,hc1,hc2⟩:=acj h2 id ch hch;have hc:=hs.chunk id c hc1;have hid:L.to (bq hl) id=L id:=ld (by rw[hch];simp);cases c with
   |box cs =>
    cases ch with
    |box ds =>
     have hq:ow cs ds:=hc2;obtain⟨q1,q2⟩:=qH hq;obtain⟨b,arr,e,g1,g2,g3,g4,g5,g6⟩:=hc;refine⟨b,arr,e,hid.trans g1,g2,g3.trans q1,λj u c hu hc=>?_,g5,g6⟩;obtain⟨a,ha⟩:∃a,cs[j]? = some a:=by have hj:j<arr.size:=(Array.getElem?_eq_some_iff.1 hu).1;exact⟨cs[j]'(by omega),by simp[g3 ▸ hj]⟩
     exact (xF (g4 j u a hu ha) (q2 j a c ha hc)).to (nj (ajh h4 id ds hch) j c hc)
    |row=>cases hc2
    |shut=>cases hc2
    |tail=>cases hc2
    |deep=>cases hc2
   |row aW e sz es =>
    have hq:Chunk.row aW e sz es=ch:=by cases ch<;>exact hc2
    subst hq;obtain⟨hdr,us,g1,g2⟩:=hc;exact⟨hdr,us,hid.trans g1,g2⟩
   |shut aW es =>
    have hq:Chunk.shut aW es=ch:=by cases ch<;>exact hc2
    subst hq;obtain⟨hdr,sz,g1,g2⟩:=hc;exact⟨hdr,sz,hid.trans g1,g2⟩
   |tail aW e sz es =>
    have hq:Chunk.tail aW e sz es=ch:=by cases ch<;>exact hc2
    subst hq;obtain⟨g,o,cap,arr,g1,g2⟩:=hc;exact⟨g,o,cap,arr,hid.trans g1,g2⟩
   |deep aW e sz k e' sz' es =>
    have hq:Chunk.deep aW e sz k e' sz' es=ch:=by cases ch<;>exact hc2
    subst hq;obtain⟨hdr,us,eT,g1,g2⟩:=hc;exact⟨hdr,us,eT,hid.trans g1,g2⟩
  fO:=λid l b hl hb=>hs.fO id l b (to_eq hl).1 hb
  apart:=λi j li lj b hi hj u5 xg=>hs.apart i j li lj b (to_eq hi).1 (to_eq hj).1 u5 xg }
theorem asv{own:List Nat}{env:Env}{d:Option Tmp}{t:TypeId}{pos:String}{af:Array Edge}{g:Option (Nat×Bool)}(a:Nat)(s:Operand)(t1 t2:TypeId) :
  ahm own ⟨d,.call ⟨.builtin .append,#[.tmp a,s],#[t1,t2]⟩,t,pos,af,g⟩ env=((∃v,env a = .row (oI own a) v)/\∃x,ev env s = .p x):=rfl
theorem aAn(i j v:Nat):(∃u,AV.row i v = .row j u)=(i=j):=by
 apply propext;constructor
 ·rintro⟨u,h⟩;cases h;rfl
 ·rintro rfl;exact⟨v,rfl⟩
attribute [go_sem] asv aAn exists_eq'
section
variable{P:Program}{env:Env}{H:aq}{o:Oper}{W:Env->aq->Prop}{k:FuncId}{ps ps':List PV}{b:Bool}
theorem aAo(id:Nat){r:RV}(c:aZ P k ps λx=>x=r)(he:kr o (ev env) H=some (k,ps',b))(hp:qf ps' ps)(hb:b=true->r.flat=true)
  (hf:oT H id ((cq id r).2-id)) (hW:W (bZ env o.dst (cq id r).1) (fU id H r)):kf P o W env H:=afr id (c.args (sM _ _ hp)) he hb hf hW
theorem ayA(ids:List Nat)(id:Nat){r:RV}(c:aZ P k ps λx=>x=r)(he:kr o (ev env) (cY ids H)=some (k,ps',b))(hp:qf ps' ps)(hb:b=true->r.flat=true)
  (hf:oT (cY ids H) id ((cq id r).2-id)) (hW:W (bZ env o.dst (cq id r).1) (fU id (cY ids H) r)):kf P o W env H:=aoa ids id (c.args (sM _ _ hp)) he hb hf hW
end
def giv{α:Type}(p:Prop) [Decidable p](x:α):Option α:=if p then some x else none
theorem oV{α:Type}{p:Prop} [Decidable p]{x r:α}(h:giv p x=some r):p/\x=r:=by
 unfold giv at h;split at h
 ·exact⟨by assumption,by simpa using h⟩
 ·cases h
def Ok{α:Type}(x:Option α)(Q:α->Prop):Prop:=∃r,x=some r/\Q r
section
variable{α β σ O:Type}{Q:O->Prop}
theorem Ok.mk{r:O}(h:Q r):Ok (some r) Q:=⟨r,rfl,h⟩
theorem Ok.eq{x:Option α}{r:α}(h:Ok x (λy=>y=r)):x=some r:=by obtain⟨y,h1,rfl⟩:=h;exact h1
theorem Ok.of{x:Option α}{r:α}(h:x=some r):Ok x (λy=>y=r):=⟨r,h,rfl⟩
theorem Ok.mono{x:Option O}{Q':O->Prop}(h:Ok x Q)(hq:∀r,Q r->Q' r):Ok x Q':=by obtain⟨r,h1,h2⟩:=h;exact⟨r,h1,hq r h2⟩
theorem cr{p:Prop} [Decidable p]{x:Option O}(hp:p)(h:Ok x Q):Ok (cA p x) Q:=by unfold cA;rw[if_pos hp];exact h
theorem bD{b:Bool}{x y:Option O}(h1:b=true->Ok x Q)(h2:b=false->Ok y Q):Ok (cond b x y) Q:=by
 cases b
 ·exact h2 rfl
 ·exact h1 rfl
theorem sN{b:Bool}{x y:Option O}(hb:b=true)(h1:Ok x Q):Ok (cond b x y) Q:=by subst hb;exact h1
theorem abI{b:Bool}{x y:Option O}(hb:b=false)(h1:Ok y Q):Ok (cond b x y) Q:=by subst hb;exact h1
theorem qI{x:Option α}{k:α->Option O}{R:α->Prop}(h:Ok x R)(hk:∀r,R r->Ok (k r) Q):Ok (thn x k) Q:=by obtain⟨r,rfl,h2⟩:=h;exact hk r h2
theorem ok_eq{x:Option α}{k:α->Option O}{r:α}(h:x=some r)(hk:Ok (k r) Q):Ok (thn x k) Q:=by subst h;exact hk
theorem lX{l:List α}{k:α->Option O}{i:Nat}(hi:i<l.length)(h:Ok (k l[i]) Q):Ok (thn l[i]? k) Q:=ok_eq (List.getElem?_eq_getElem hi) h
theorem iQ{l:List α}{k:α->Option O}{i:Int}(h0:0<=i)(hi:i.toNat<l.length)(h:Ok (k l[i.toNat]) Q):Ok (thn (jd l i) k) Q:=ok_eq (by unfold jd;rw[if_pos h0];exact List.getElem?_eq_getElem hi) h
theorem fX{f:Nat->σ->(σ->Option O)->(σ->Option O)->Option O}{K:σ->Option O}(φ:Nat->σ->Prop){n i:Nat}{s:σ}(hi:i<=n)(h0:φ i s)
  (hr:∀j s (eF:σ->Option O),i<=j->j<n->φ j s->(∀s',φ (j+1) s'->Ok (eF s') Q)->Ok (f j s eF K) Q) (he:∀s,φ n s->Ok (K s) Q):Ok (bH f (n-i) i s K) Q:=by
 have key:∀k j s,j+k=n->i<=j->φ j s->Ok (bH f k j s K) Q:=by
  intro k
  induction k with
  |zero =>
   intro j s hj _ h;have:j=n:=by omega
   subst this;exact he s h
  |succ k ih=>intro j s hj hij h;exact hr j s _ hij (by omega) h λs' h'=>ih (j+1) s' (by omega) (by omega) h'
 exact key (n-i) i s (by omega) (Nat.le_refl _) h0
theorem aji{f:σ->(σ->Option O)->(σ->Option O)->Option O}{K:σ->Option O}(φ:σ->Prop)(μ:σ->Nat){n:Nat}{s:σ}(h0:φ s)(hm:μ s<n)
  (hr:∀s (eF:σ->Option O),φ s->(∀s',φ s'->μ s'<μ s->Ok (eF s') Q)->Ok (f s eF K) Q):Ok (iter f n s K) Q:=by
 have key:∀n s,φ s->μ s<n->Ok (iter f n s K) Q:=by
  intro n
  induction n with
  |zero=>intro s _ h;omega
  |succ n ih=>intro s h hm;exact hr s _ h λs' h' hlt=>ih s' h' (by omega)
 exact key n s h0 hm
theorem gm{n:Int}(h : -9223372036854775808<=n/\n<=9223372036854775807):i64.wrap n=n:=IntWalk.i64_in n (by omega)
end
theorem qt{α:Type}{p:Prop} [Decidable p]{x:α}(h:p):giv p x=some x:=by unfold giv;rw[if_pos h]
theorem ajj{α β O:Type}{Q:O->Prop}{f:Nat->List β->(List β->Option O)->(List β->Option O)->Option O}{K:List β->Option O}(l:List α)(g:α->β)
  (hr:∀j (s:List β) (eF:List β->Option O) (hj:j<l.length),s.length=j->Ok (eF (s++[g l[j]])) Q->Ok (f j s eF K) Q) (he:Ok (K (l.map g)) Q):Ok (bH f (l.length-0) 0 [] K) Q:=by
 refine fX (λj s=>j<=l.length/\s=(l.take j).map g) (Nat.zero_le _) ⟨Nat.zero_le _,rfl⟩ ?_ ?_
 ·rintro j s eF _ hj ⟨_,rfl⟩ hn;refine hr j _ eF hj (by simp;omega) (hn _ ⟨hj,?_⟩);rw[List.take_add_one,List.getElem?_eq_getElem hj,Option.toList_some,List.map_append];rfl
 ·rintro s ⟨_,rfl⟩;rw[List.take_length];exact he
variable{P:Program}{N:Nat}{own:List Nat}
theorem mI{ops:Array Oper}{K:Env->aq->Prop}{env:Env}{H:aq}(id v:Nat)(e:TypeId)(sz:Nat)(es:List (List PV))(ts:List Nat)(hH:H id=some (.row v e sz es))(ht:holds env id v ts)(hn:ts.Nodup)
  (hw:vf P N own ops K (axu (.p (.aE es)) ts env) (bh H id (.shut v es))):vf P N own ops K env H:=by
 intro C I L tm w hN hs;have h1:=Fr.shut C I L w hH env tm hs;exact hw C _ L tm w hN (ag7 (by simp[bh]) ts _ hn h1 ht)
theorem toNat_lt{i:Int}{n:Nat}(h:0<=i)(k:i<(n:Int)):i.toNat<n:=by omega
def afK(own:List Nat)(ops:Array Oper)(id:Nat):Nat->Prop
 |0=>True
 |n+1=>mA own ops id=false/\afK own ops (id+1) n
variable{ops:Array Oper}
theorem asw(id:Nat):afK own ops id 1=(mA own ops id=false/\True):=rfl
theorem asx(id:Nat):afK own ops id 2=(mA own ops id=false/\mA own ops (id+1)=false/\True):=rfl
theorem alR(id:Nat):afK own ops id 3=(mA own ops id=false/\mA own ops (id+1)=false/\mA own ops (id+1+1)=false/\True):=rfl
theorem afL:∀ (n id:Nat),afK own ops id n->∀i,id<=i->i<id+n->mA own ops i=false
 |0,id,_,i,h1,h2=>by omega
 |n+1,id,h,i,h1,h2=>by
  rcases Nat.lt_or_ge id i with h'|h'
  ·exact afL n (id+1) h.2 i (by omega) (by omega)
  ·have:i=id:=by omega
   subst this;exact h.1
theorem ayB{env:Env}{H:aq}{o:Oper}{W:Env->aq->Prop}{k:FuncId}{ps ps':List PV}{b:Bool}(id:Nat){r:RV}(c:aZ P k ps λx=>x=r)(he:kr o (ev env) (ou own ops H)=some (k,ps',b))(hp:qf ps' ps)(hb:b=true->r.flat=true)
  (hf:oT H id ((cq id r).2-id)) (hn:afK own ops id ((cq id r).2-id)) (hW:W (bZ env o.dst (cq id r).1) (fU id H r)):afm P own ops o W env H:=by
 have c':aZ P k ps' λx=>x=r:=c.args (sM _ _ hp)
 have hle:=zo r id;unfold kr at he;cases ha:cB o (ev env) with
 |none=>rw[ha] at he;cases he
 |some q =>
  obtain⟨k',dP⟩:=q;rw[ha] at he;simp only[] at he;cases hl:dO (fW (ou own ops H)) dP with
  |none=>rw[hl] at he;cases he
  |some q=>obtain⟨qs,b'⟩:=q;rw[hl] at he;simp only[cm,gD] at he;obtain⟨rfl,rfl,rfl⟩:=he;exact⟨_,_,⟨_,dP,_,_,r,id,ha,hl,c',hb,λi h1 h2=>⟨abD _ id hf i h1 (by omega),afL _ id hn i h1 (by omega)⟩,rfl,rfl⟩,hW⟩
attribute [go_sem] asw asx alR
end Go.bP
namespace Go.Proofs.YtldllhbhnpjlcaaGreat
open Go.bP
structure afM where
 x0:Int
 x1:Int
structure zY where
 x0:Int
 x1:Int
 x2:Int
structure wq where
 nodes:List Int
 ag:List zY
structure alS where
 x0:Int
 x1:Int
 x2:Int
 x3:Int
structure wu where
 graph:wq
 slots:List zY
 tests:List alS
structure wv where
 left:wu
 keep:Int
 nodes:List Int
 ag:List zY
 slots:List zY
 plain:Bool
 injective:Bool
 aFk:alS
 order:List Int
structure wz where
 nodes:List afM
 ag:List zY
structure ahF where
 nodes:List afM
 ag:List afM
 rules:List wv
 host:wz
structure pP where
 var:Int
 add:Int
structure aG where
 node:Int
 attr:Int
 term:pP
structure aH where
 kind:Int
 left:pP
 right:pP
structure ah where
 nodes:List Int
 ag:List Int
structure ak where
 graph:au
 slots:List aG
 vars:Int
 tests:List aH
structure aj where
 kind:Int
 kids:List aj
 map:ah
 pattern:ak
structure aO where
 nodes:List Int
 ag:List Int
structure aF where
 name:ByteArray
 left:ak
 right:ak
 keep:aO
 into:ah
 injective:Bool
 condition:aj
def aL(x:aG):List PV:=[.val (.int .i64 x.node),.val (.int .i64 x.attr),.val (.int .i64 x.term.var),.val (.int .i64 x.term.add)]
def aM(x:aH):List PV:=[.val (.int .i64 x.kind),.val (.int .i64 x.left.var),.val (.int .i64 x.left.add),.val (.int .i64 x.right.var),.val (.int .i64 x.right.add)]
mutual
def aI:aj->List PV
 |⟨v_kind,v_kids,v_map,v_pattern⟩=>[.val (.int .i64 v_kind),.aE (kI v_kids),.aE (v_map.nodes.map encI),.aE (v_map.ag.map encI),.aE (v_pattern.graph.nodes.map encI),.aE (v_pattern.graph.ag.map ay),.aE (v_pattern.slots.map aL),.val (.int .i64 v_pattern.vars),.aE (v_pattern.tests.map aM)]
def kI:List aj->List (List PV)
 | []=>[]
 |a :: r=>aI a :: kI r
end
theorem aaO(l:List aj):kI l=l.map aI:=by
 induction l with
 |nil=>simp[kI]
 |cons a r ih=>simp[kI,ih]
theorem jV(x:aj):aI x=[.val (.int .i64 x.kind),.aE (x.kids.map aI),.aE (x.map.nodes.map encI),.aE (x.map.ag.map encI),.aE (x.pattern.graph.nodes.map encI),.aE (x.pattern.graph.ag.map ay),.aE (x.pattern.slots.map aL),.val (.int .i64 x.pattern.vars),.aE (x.pattern.tests.map aM)]:=by cases x;simp[aI,aaO]
def aQ(x:aF):List PV:=[.val (.string x.name),.aE (x.left.graph.nodes.map encI),.aE (x.left.graph.ag.map ay),.aE (x.left.slots.map aL),.val (.int .i64 x.left.vars),.aE (x.left.tests.map aM),.aE (x.right.graph.nodes.map encI),.aE (x.right.graph.ag.map ay),.aE (x.right.slots.map aL),.val (.int .i64 x.right.vars),.aE (x.right.tests.map aM),.aE (x.keep.nodes.map encI),.aE (x.keep.ag.map encI),.aE (x.into.nodes.map encI),.aE (x.into.ag.map encI),.val (.bool x.injective),.val (.int .i64 x.condition.kind),.aE (x.condition.kids.map aI),.aE (x.condition.map.nodes.map encI),.aE (x.condition.map.ag.map encI),.aE (x.condition.pattern.graph.nodes.map encI),.aE (x.condition.pattern.graph.ag.map ay),.aE (x.condition.pattern.slots.map aL),.val (.int .i64 x.condition.pattern.vars),.aE (x.condition.pattern.tests.map aM)]
structure eW where
 pQ:List Int
 ack:List Int
def bL(x:ak):List PV:=[.aE (x.graph.nodes.map encI),.aE (x.graph.ag.map ay),.aE (x.slots.map aL),.val (.int .i64 x.vars),.aE (x.tests.map aM)]
def gY(b:Bool):List PV:=[.val (.bool b)]
structure aoF where
 rules:List Int
 nodes:List Int
 ag:List Int
structure av7 where
 rule:Int
 src:Int
 dst:Int
 strict:Int
def oW(x:au):List PV:=[.aE (x.nodes.map encI),.aE (x.ag.map ay)]
structure cM where
 graph:au
 left:ah
 right:ah
def kR(x:cM):List PV:=[.aE (x.graph.nodes.map encI),.aE (x.graph.ag.map ay),.aE (x.left.nodes.map encI),.aE (x.left.ag.map encI),.aE (x.right.nodes.map encI),.aE (x.right.ag.map encI)]
structure dB where
 a:aF
 b:aF
def iE(x:dB):List PV:=[.val (.string x.a.name),.aE (x.a.left.graph.nodes.map encI),.aE (x.a.left.graph.ag.map ay),.aE (x.a.left.slots.map aL),.val (.int .i64 x.a.left.vars),.aE (x.a.left.tests.map aM),.aE (x.a.right.graph.nodes.map encI),.aE (x.a.right.graph.ag.map ay),.aE (x.a.right.slots.map aL),.val (.int .i64 x.a.right.vars),.aE (x.a.right.tests.map aM),.aE (x.a.keep.nodes.map encI),.aE (x.a.keep.ag.map encI),.aE (x.a.into.nodes.map encI),.aE (x.a.into.ag.map encI),.val (.bool x.a.injective),.val (.int .i64 x.a.condition.kind),.aE (x.a.condition.kids.map aI),.aE (x.a.condition.map.nodes.map encI),.aE (x.a.condition.map.ag.map encI),.aE (x.a.condition.pattern.graph.nodes.map encI),.aE (x.a.condition.pattern.graph.ag.map ay),.aE (x.a.condition.pattern.slots.map aL),.val (.int .i64 x.a.condition.pattern.vars),.aE (x.a.condition.pattern.tests.map aM),.val (.string x.b.name),.aE (x.b.left.graph.nodes.map encI),.aE (x.b.left.graph.ag.map ay),.aE (x.b.left.slots.map aL),.val (.int .i64 x.b.left.vars),.aE (x.b.left.tests.map aM),.aE (x.b.right.graph.nodes.map encI),.aE (x.b.right.graph.ag.map ay),.aE (x.b.right.slots.map aL),.val (.int .i64 x.b.right.vars),.aE (x.b.right.tests.map aM),.aE (x.b.keep.nodes.map encI),.aE (x.b.keep.ag.map encI),.aE (x.b.into.nodes.map encI),.aE (x.b.into.ag.map encI),.val (.bool x.b.injective),.val (.int .i64 x.b.condition.kind),.aE (x.b.condition.kids.map aI),.aE (x.b.condition.map.nodes.map encI),.aE (x.b.condition.map.ag.map encI),.aE (x.b.condition.pattern.graph.nodes.map encI),.aE (x.b.condition.pattern.graph.ag.map ay),.aE (x.b.condition.pattern.slots.map aL),.val (.int .i64 x.b.condition.pattern.vars),.aE (x.b.condition.pattern.tests.map aM)]
def jW(x:Host):List PV:=[.aE (x.graph.nodes.map encI),.aE (x.graph.ag.map ay),.aE (x.values.map dw)]
structure aS where
 aK:ah
 vars:List Int
def gG(x:aS):List PV:=[.aE (x.aK.nodes.map encI),.aE (x.aK.ag.map encI),.aE (x.vars.map encI)]
def qJ(l:List Bool):List PV:=[.aE (l.map gY)]
structure cE where
 l:au
 g:au
 keep:aO
 m:ah
def fe(x:cE):List PV:=[.aE (x.l.nodes.map encI),.aE (x.l.ag.map ay),.aE (x.g.nodes.map encI),.aE (x.g.ag.map ay),.aE (x.keep.nodes.map encI),.aE (x.keep.ag.map encI),.aE (x.m.nodes.map encI),.aE (x.m.ag.map encI)]
structure jq where
 t:Types
 h:Host
 injective:Bool
def j5(x:jq):List PV:=[.aE (x.t.nodes.map az),.aE (x.t.ag.map aA),.aE (x.h.graph.nodes.map encI),.aE (x.h.graph.ag.map ay),.aE (x.h.values.map dw),.val (.bool x.injective)]
structure eX where
 choice:Int
 cg:aS
 kids:List eX
mutual
def ji:eX->List PV
 |⟨v_choice,v_mtch,v_kids⟩=>[.val (.int .i64 v_choice),.aE (v_mtch.aK.nodes.map encI),.aE (v_mtch.aK.ag.map encI),.aE (v_mtch.vars.map encI),.aE (oz v_kids)]
def oz:List eX->List (List PV)
 | []=>[]
 |a :: r=>ji a :: oz r
end
theorem aes(l:List eX):oz l=l.map ji:=by
 induction l with
 |nil=>simp[oz]
 |cons a r ih=>simp[oz,ih]
theorem nt(x:eX):ji x=[.val (.int .i64 x.choice),.aE (x.cg.aK.nodes.map encI),.aE (x.cg.aK.ag.map encI),.aE (x.cg.vars.map encI),.aE (x.kids.map ji)]:=by cases x;simp[ji,aes]
structure bB where
 rule:aF
 cg:aS
 before:Host
 after:Host
 lD:ah
 iZ:ah
attribute [local go_sem] Nat.reduceEqDiff Nat.reduceLT Nat.reduceLeDiff Nat.reduceMul Nat.reduceAdd Nat.reduceBEq Nat.reduceSub Int.reduceToNat reduceIte reduceCtorEq List.cons_append List.nil_append aN ay aA encI bR qJ az sL dw cz oW jW jV gG kR bL nt nt aQ aL aM fe j5 gY
noncomputable section
end
end Go.Proofs.YtldllhbhnpjlcaaGreat
namespace Go.Proofs.YtldllhbhnpjlcaaGreat
open Go.bP
def kS(t:Types):Option (ByteArray×Int):=giv (jB t) (cZ t)
theorem oA(t:Types)(r:ByteArray×Int)(h:kS t=some r):aB pw 100 [ax t] (λv=>v = .dg [.val (.string r.1),.val (.int .i64 r.2)]):=by obtain⟨h1,rfl⟩:=oV h;exact afB t h1
def gH(t:Types):Option (ByteArray×Int):=giv (jB t) (cZ t)
theorem lE(t:Types)(r:ByteArray×Int)(h:gH t=some r):aB pw 56 [ax t] (λv=>v = .dg [.val (.string r.1),.val (.int .i64 r.2)]):=by obtain⟨h1,rfl⟩:=oV h;exact ahu t h1
def eL(g:au):Option Int:=giv (ajc g) (cL g)
theorem kT(g:au)(r:Int)(h:eL g=some r):aB pw 136 [dL g] (λv=>v = .val (.int .i64 r)):=by obtain⟨h1,rfl⟩:=oV h;exact ahz g h1
def bM(g:au):Option Int:=giv (ajc g) (cL g)
theorem cN(g:au)(r:Int)(h:bM g=some r):aB pw 86 [dL g] (λv=>v = .val (.int .i64 r)):=by obtain⟨h1,rfl⟩:=oV h;exact aou g h1
def sO(t:Types)(h:Host):Option (Int×Int):=giv (jB t/\ayv h) (adk t h)
theorem xG(t:Types)(h:Host)(r:Int×Int)(hr:sO t h=some r):aB pw 175 [ax t,gz h] (λv=>v = .dg [.val (.int .i64 r.1),.val (.int .i64 r.2)]):=by obtain⟨⟨h1,h2⟩,rfl⟩:=oV hr;exact ar8 t h1 h h2
def tS(s:ByteArray):Option Bool:=giv (s.size<=1000000) (kX s)
theorem afN(s:ByteArray)(r:Bool)(h:tS s=some r):aB pw 193 [.val (.string s)] (λv=>v = .val (.bool r)):=by obtain⟨h1,rfl⟩:=oV h;exact wk s h1
def kU(s:ByteArray):Option Bool:=giv (s.size<=1000000) (kX s)
theorem vK(s:ByteArray)(r:Bool)(h:kU s=some r):aB pw 57 [.val (.string s)] (λv=>v = .val (.bool r)):=by obtain⟨h1,rfl⟩:=oV h;exact tH s h1
def xH(t:Types)(e a b:Int):Option Bool:=giv (jB t) (n7 t e a b)
theorem ajk(t:Types)(e a b:Int)(r:Bool)(h:xH t e a b=some r):aB pw 251 [ax t,.val (.int .i64 e),.val (.int .i64 a),.val (.int .i64 b)] (λv=>v = .val (.bool r)):=by obtain⟨h1,rfl⟩:=oV h;exact apJ t h1 e a b
def mc(t:Types)(e a b:Int):Option Bool:=giv (jB t) (n7 t e a b)
theorem xI(t:Types)(e a b:Int)(r:Bool)(h:mc t e a b=some r):aB pw 99 [ax t,.val (.int .i64 e),.val (.int .i64 a),.val (.int .i64 b)] (λv=>v = .val (.bool r)):=by obtain⟨h1,rfl⟩:=oV h;exact avv t h1 e a b
def oB(t:Types)(a:Int):Option (List Attr×Int):=giv (yQ t/\0<=a/\a<t.nodes.length) (aR t a.toNat,0)
theorem vL(t:Types)(a:Int)(r:List Attr×Int)(h:oB t a=some r):aB pw 263 [ax t,.val (.int .i64 a)] (λv=>v = .dg [.aE (r.1.map aN),.val (.int .i64 r.2)]):=by obtain⟨⟨h1,h2,h3⟩,rfl⟩:=oV h;obtain⟨n,rfl⟩:=Int.eq_ofNat_of_zero_le h2;exact ahy t h1 n (by omega)
def jr(t:Types)(a:Int):Option (List Attr×Int):=giv (yQ t/\0<=a/\a<t.nodes.length) (aR t a.toNat,0)
theorem oX(t:Types)(a:Int)(r:List Attr×Int)(h:jr t a=some r):aB pw 98 [ax t,.val (.int .i64 a)] (λv=>v = .dg [.aE (r.1.map aN),.val (.int .i64 r.2)]):=by obtain⟨⟨h1,h2,h3⟩,rfl⟩:=oV h;obtain⟨n,rfl⟩:=Int.eq_ofNat_of_zero_le h2;exact aor t h1 n (by omega)
def bp(l:List Int):Option (List Int):=giv (l.length<=1000000) l
theorem bE(l:List Int)(r:List Int)(h:bp l=some r):aZ pw 73 [.aE (l.map encI)] (λv=>v = .row 3 1 (r.map encI)):=by obtain⟨h1,rfl⟩:=oV h;exact ar4 l h1
def iA(l:List Edge):Option (List Edge):=giv (l.length<=1000000) l
theorem lf(l:List Edge)(r:List Edge)(h:iA l=some r):aZ pw 74 [.aE (l.map ay)] (λv=>v = .row 165 3 (r.map ay)):=by obtain⟨h1,rfl⟩:=oV h;exact aop l h1
def aba(t:Types)(l:List Int):Option Int:=giv (jB t/\l.length<=1000000) (rW t l)
theorem agP(t:Types)(l:List Int)(r:Int)(h:aba t l=some r):aB pw 326 [ax t,.aE (l.map encI)] (λv=>v = .val (.int .i64 r)):=by obtain⟨⟨h1,h2⟩,rfl⟩:=oV h;exact afE t h1 l h2
def afO(t:Types)(a b:Int):Option Bool:=giv (yQ t/\0<=a/\a<t.nodes.length) (isB t a b)
theorem aoG(t:Types)(a b:Int)(r:Bool)(h:afO t a b=some r):aB pw 327 [ax t,.val (.int .i64 a),.val (.int .i64 b)] (λv=>v = .val (.bool r)):=by obtain⟨⟨h1,h2,h3⟩,rfl⟩:=oV h;obtain⟨n,rfl⟩:=Int.eq_ofNat_of_zero_le h2;exact aoq t h1 n (by omega) b
end Go.Proofs.YtldllhbhnpjlcaaGreat
namespace Go.bP
open Go.RowKit Go.Shelf Go.Proofs
variable{P:Program}{ρ:Ren}
theorem aoH(L:Lays8.n4 P ρ)(hc:gl P (ρ.f 4)=true)(i0:TypeInfo)(z:Value)(hi0:P.info? (ρ.t 25)=some i0)(hz0:i0.zero=some z)(hs0:0<i0.size)(hzs:z.cells.size=i0.size)
  (n:Nat) (hbig:n * i0.bytes<=140737488355328) (h63:n<=4611686018427387904) :
  aZ P (ρ.f 4) [.val (.slice none 0 0),.val (.int .i64 n)] (λv=>v = .row (ρ.t 25) i0.size []):=by
 refine⟨hc,λI w vs hI hv=>?_⟩;obtain⟨hl,hv⟩:=hv
 match vs,hl with
 | [a,b],_ =>
  have ha:a = .slice none 0 0:=by have:=hv 0 a _ rfl rfl;cases this;rfl
  have hb:b = .int .i64 n:=by have:=hv 1 b _ rfl rfl;cases this;rfl
  subst ha hb;by_cases h0:n=0
  ·subst h0;refine (Any8.slices_Grow_room L none 0 0 0 w (by omega) (by omega) (by omega) (by omega)).mono ?_;rintro e w' ⟨rfl,rfl⟩;refine⟨_,_,_,I,rfl,rfl,.row _ _ _ _ [] ⟨⟨by simp,.inl ⟨rfl,rfl⟩⟩,hs0,by simp,by simp,by simp,λb hb=>by simp[Value.ownBlock] at hb⟩ rfl,by simp[Value.ownBlock],by simp[Value.ownBlock],Below.refl _ _,Mem.ew I,hI,λ_ _ _=>rfl⟩
  ·refine (Any8.slices_Grow_grow L i0 z hi0 hz0 hs0 none 0 0 n [] w (by omega) (by omega) (by simpa using hbig) (by omega) (by simp) (λ_=>rfl) (λa h=>by cases h)).mono ?_;rintro e w' ⟨rfl,rfl⟩;have hG:n<=grownCap w (0+n) 0 (ρ.t 25):=by have:=grownCap_ge w (0+n) 0 (ρ.t 25);omega
   have hG2:grownCap w (0+n) 0 (ρ.t 25)<=maxLen:=grownCap_le_maxLen w (0+n) 0 (ρ.t 25) (by unfold maxLen;omega);generalize grownCap w (0+n) 0 (ρ.t 25)=G at hG hG2 ⊢;have hheap:∀o:Obj,(w.drew.alloc o).heap=w.heap.push o:=λo=>rfl
   have bel:∀o:Obj,Below w.heap.size w (w.drew.alloc o):=λo=>(Below.refl _ w).drew.alloc (Nat.le_refl _) o
   refine⟨_,_,[w.heap.size],I,rfl,rfl,?_,by simp,?_,bel _,Mem.ew I,hI.keep λb ⟨o,u,hu⟩=>(bel _).block b (hI.lt hu),λ_ _ _=>rfl⟩
   ·refine .row (.slice (some ⟨w.heap.size,0,none⟩) 0 G) _ _ _ [] ⟨⟨by simp,.inr ⟨w.heap.size,G,_,rfl,Nat.le_refl _,by rw[hheap];exact Array.getElem?_push_size,Nat.zero_le _,hG2,?_,by simp⟩⟩,hs0,by simp,by simp,by simp,λb hb o=>?_⟩ rfl
    ·have e:(0+n-0)+(G-(0+n))=G:=by omega
     have e0:([]:List Value).toArray.size=0:=rfl;rw[Array.size_append,Array.size_append,size_zeroCells,size_zeroCells,hzs,e0,Nat.zero_add,<-Nat.add_mul,e]
    ·simp only[Value.ownBlock,cm] at hb;subst hb;cases hI0:I w.heap.size o with
     |none=>rfl
     |some u=>exact absurd (hI.lt hI0) (Nat.lt_irrefl _)
   ·intro b hb;simp only[List.mem_cons,List.not_mem_nil,or_false] at hb;subst hb;rw[hheap];simp
theorem alT(L:Lays8.n4 P ρ)(hc:gl P (ρ.f 4)=true){t e:TypeId}{sz sy:Nat}(ht:eU P t t=some (e,sz,sy))(he:e=ρ.t 25)(n:Nat)(hbig:n * sy<=140737488355328)(h63:n<=4611686018427387904) :
  aZ P (ρ.f 4) [.val (.slice none 0 0),.val (.int .i64 n)] (λv=>v = .row e sz []):=by
 obtain⟨_,_,hpos,_,i,z,hi,hz,hsz,hby,hzc⟩:=qX ht;subst he;have:=aoH L hc i z hi hz (by omega) (by omega) n (by rw[hby];exact hbig) h63;rw[hsz] at this;exact this
end Go.bP
namespace Go.Proofs.YtldllhbhnpjlcaaGreat
open Go.bP
def vk(l:List Int)(n:Int):Option (List Int):=giv (l=[]/\0<=n/\n<=1000000) []
theorem acm(l:List Int)(n:Int)(r:List Int)(h:vk l n=some r):aZ pw 105 [.val (.slice none 0 0),.val (.int .i64 n)] (λv=>v = .row 3 1 (r.map encI)):=by obtain⟨⟨_,h0,h1⟩,rfl⟩:=oV h;obtain⟨k,rfl⟩:∃k:Nat,n=k:=⟨n.toNat,by omega⟩;exact alT ayw (by kernel_rfl) Ty.aBi rfl k (by omega) (by omega)
end Go.Proofs.YtldllhbhnpjlcaaGreat
namespace Go.bP
open Go.RowKit
variable{P:Program}{I:Mem}{L:bg}
def Ctx.abb(w:World)(I:Mem)(n B:Nat)(L0:bg)(hB:B<=w.heap.size)(hL:∀i l,L0 i=some l->1000000<=i):Ctx:=⟨w,I,n,B,λb=>∃i l,L0 i=some l/\l.has b,L0,hB,hL⟩
def yF(P:Program)(f:FuncId)(G:aq)(dP:List AV)(Q:AV->aq->Prop):Prop :=
 gl P f=true/\∀ (B:Nat) (I:Mem) (L0:bg) (w:World) (vs:List Value) (hB:B<=w.heap.size) (hL:∀i l,L0 i=some l->1000000<=i),fV (Ctx.abb w I 0 B L0 hB hL) gU G I L0 #[] w->ng I L0 vs dP ->
  Calls P f vs.toArray w λx w'=>∃u a H' I' L',x = .returned u/\Q a H'/\di I' L' u a/\fV (Ctx.abb w I 0 B L0 hB hL) gU H' I' L' #[] w'
theorem yF.mono{f:FuncId}{G:aq}{dP:List AV}{Q Q':AV->aq->Prop}(h:yF P f G dP Q)(hq:∀a c,Q a c->Q' a c):yF P f G dP Q':=⟨h.1,λB I L0 w vs hB hL hs hv=>(h.2 B I L0 w vs hB hL hs hv).mono λ_ _ ⟨u,a,H',I',L',q1,q2,q3⟩=>⟨u,a,H',I',L',q1,hq _ _ q2,q3⟩⟩
def aAp(P:Program)(rs:List ResultVar)(Q:AV->aq->Prop):pJ:=λe env H=>match e with
 | .normal | .ret=>(match ni P env H rs with
  |some a=>Q a H
  |none=>False)
 |_=>False
theorem ad2{f:FuncId}{fn:Func}{c:Code}{G:aq}{dP:List AV}{Q:AV->aq->Prop}(own:List Nat)(hm:P.follows .mixedOrders=true)(hf:P.funcs[f]? = some fn)(hb:fn.body=some c)
  (hc:gl P f=true) (hn:dP.length<=fn.ntmps) (h:cw P fn.ntmps own c (aAp P fn.results.toList Q) (adT dP) G):yF P f G dP Q:=by
 refine⟨hc,λB I L0 w vs hB hL hs0 hv=>calls_of_wp hf hb ?_⟩;let C:Ctx:=Ctx.abb w I fn.ntmps B L0 hB hL;have hlen:vs.length<=fn.ntmps:=by rw[hv.1];exact hn
 have hs:fV C (adT dP) G I L0 (vs.toArray++Array.replicate (fn.ntmps-vs.toArray.size) undef) w :=
  {below:=hs0.below
   mem:=hs0.mem
   mw:=hs0.mw
   m8:=hs0.m8
   frame:=hs0.frame
   loc:=hs0.loc
   j9:=hs0.j9
   size:=by simp only[Array.size_append,List.size_toArray,Array.size_replicate];show vs.length+(fn.ntmps-vs.length)=fn.ntmps;omega
   env:=λt=>by
    unfold adT;split
    ·rename_i a ha;have htl:t<vs.length:=by have:=(List.getElem?_eq_some_iff.1 ha).1;rw[hv.1];exact this
     have aiM:(vs.toArray++Array.replicate (fn.ntmps-vs.toArray.size) undef).getD t undef=vs[t]:=by simp only[Array.getD_eq_getD_getElem?,Array.getElem?_append,List.size_toArray,if_pos htl,List.getElem?_toArray,List.getElem?_eq_getElem htl,Option.getD_some]
     rw[aiM];exact hv.2 t _ a (by simp[htl]) ha
    ·exact .dead _
   dom:=hs0.dom
   chunk:=hs0.chunk
   fO:=hs0.fO
   apart:=hs0.apart }
 refine wp_mono (oq hm c _ C rfl _ _ I L0 _ w h hs) ?_;rintro x a w' ⟨hd,env',H',I',L',hk,hs'⟩;have fin:(match ni P env' H' fn.results.toList with
  |some a=>Q a H'
  |none=>False)->bodyPost P fn (λx w'=>∃u a H' I' L',x = .returned u/\Q a H'/\di I' L' u a/\fV (Ctx.abb w I 0 B L0 hB hL) gU H' I' L' #[] w') .normal a w':=by
  intro hk;split at hk
  ·rename_i av hav;obtain⟨u,hru,hua⟩:=vg hs' hav;refine⟨hd,u,hru,u,av,H',I',L',rfl,hk,hua,?_⟩;exact
   {below:=hs'.below
    mem:=hs'.mem
    mw:=hs'.mw
    m8:=hs'.m8
    frame:=hs'.frame
    loc:=hs'.loc
    j9:=hs'.j9
    size:=rfl
    env:=λt=>.dead _
    dom:=hs'.dom
    chunk:=hs'.chunk
    fO:=hs'.fO
    apart:=hs'.apart }
  ·exact hk.elim
 cases x with
 |normal=>exact fin hk
 |ret=>exact fin hk
 |exit id=>exact hk.elim
 |goto l=>exact hk.elim
 |panic c=>exact hk.elim
 |outgrown=>exact hk.elim
theorem alU{w:World}{B:Nat}{hl:List (Nat×Chunk)}{id:Nat}{c ch:Chunk}(hc:qx I L w B id c)(hc2:aoC (some c) ch)(hch:bq hl id=some ch)(h4:wo (bq hl) hl):qx I (L.to (bq hl)) w B id ch:=by
 have hid:L.to (bq hl) id=L id:=ld (by rw[hch];simp);cases c with
 |box cs =>
  cases ch with
  |box ds =>
   have hq:ow cs ds:=hc2;obtain⟨q1,q2⟩:=qH hq;obtain⟨b,arr,e,g1,g2,g3,g4,g5,g6⟩:=hc;refine⟨b,arr,e,hid.trans g1,g2,g3.trans q1,λj u c hu hc=>?_,g5,g6⟩;obtain⟨a,ha⟩:∃a,cs[j]? = some a:=by have hj:j<arr.size:=(Array.getElem?_eq_some_iff.1 hu).1;exact⟨cs[j]'(by omega),by simp[g3 ▸ hj]⟩
   exact (xF (g4 j u a hu ha) (q2 j a c ha hc)).to (nj (ajh h4 id ds hch) j c hc)
  |row=>cases hc2
  |shut=>cases hc2
  |tail=>cases hc2
  |deep=>cases hc2
 |row aW e sz es =>
  have hq:Chunk.row aW e sz es=ch:=by cases ch<;>exact hc2
  subst hq;obtain⟨hdr,us,g1,g2⟩:=hc;exact⟨hdr,us,hid.trans g1,g2⟩
 |shut aW es =>
  have hq:Chunk.shut aW es=ch:=by cases ch<;>exact hc2
  subst hq;obtain⟨hdr,sz,g1,g2⟩:=hc;exact⟨hdr,sz,hid.trans g1,g2⟩
 |tail aW e sz es =>
  have hq:Chunk.tail aW e sz es=ch:=by cases ch<;>exact hc2
  subst hq;obtain⟨g,o,cap,arr,g1,g2⟩:=hc;exact⟨g,o,cap,arr,hid.trans g1,g2⟩
 |deep aW e sz k e' sz' es =>
  have hq:Chunk.deep aW e sz k e' sz' es=ch:=by cases ch<;>exact hc2
  subst hq;obtain⟨hdr,us,eT,g1,g2⟩:=hc;exact⟨hdr,us,eT,hid.trans g1,g2⟩
def over(l:List (Nat×Chunk))(H:aq):aq:=match l with
 | []=>H
 |(d,c) :: r=>bh (over r H) d c
theorem alV(H:aq):over [] H=H:=rfl
theorem ahG(d:Nat)(c:Chunk)(r:List (Nat×Chunk))(H:aq):over ((d,c) :: r) H=bh (over r H) d c:=rfl
theorem ajl(H:aq)(i:Nat):∀l:List (Nat×Chunk),over l H i=match bq l i with
  |some c=>some c
  |none=>H i
 | []=>rfl
 |(d,c) :: r=>by
  unfold over bq bh;by_cases hi:i=d
  ·simp[hi]
  ·simp only[if_neg hi];exact ajl H i r
def hiL:List (Nat×Chunk)->Prop
 | []=>True
 |(d,_) :: r=>1000000<=d/\hiL r
def xJ(G:aq):List (Nat×Chunk)->Prop
 | []=>True
 |(d,_) :: r=>G d≠none/\xJ G r
def newL(G H:aq):List (Nat×Chunk)->Prop
 | []=>True
 |(d,_) :: r=>(G d≠none\/H d=none)/\newL G H r
theorem ayC:hiL []=True:=rfl
theorem av8(d:Nat)(c:Chunk)(r:List (Nat×Chunk)):hiL ((d,c) :: r)=(1000000<=d/\hiL r):=rfl
theorem aoI(G:aq):xJ G []=True:=rfl
theorem alW(G:aq)(d:Nat)(c:Chunk)(r:List (Nat×Chunk)):xJ G ((d,c) :: r)=(G d≠none/\xJ G r):=rfl
theorem av9(G H:aq):newL G H []=True:=rfl
theorem asy(G H:aq)(d:Nat)(c:Chunk)(r:List (Nat×Chunk)):newL G H ((d,c) :: r)=((G d≠none\/H d=none)/\newL G H r):=rfl
theorem awa:∀ {l:List (Nat×Chunk)},hiL l->∀i,bq l i≠none->1000000<=i
 | [],_,i,h=>absurd rfl h
 |(d,c) :: r,hh,i,h=>by
  unfold bq bh at h;split at h
  ·rename_i e;rw[e];exact hh.1
  ·exact awa hh.2 i h
theorem ado{G:aq} : ∀ {l:List (Nat×Chunk)},xJ G l->∀i,bq l i≠none->G i≠none
 | [],_,i,h=>absurd rfl h
 |(d,c) :: r,hh,i,h=>by
  unfold bq bh at h;split at h
  ·rename_i e;rw[e];exact hh.1
  ·exact ado hh.2 i h
theorem apP{G H:aq} : ∀ {l:List (Nat×Chunk)},newL G H l->∀i,bq l i≠none->G i≠none\/H i=none
 | [],_,i,h=>absurd rfl h
 |(d,c) :: r,hh,i,h=>by
  unfold bq bh at h;split at h
  ·rename_i e;rw[e];exact hh.1
  ·exact apP hh.2 i h
section
variable{C:Ctx}{env:Env}{H H':aq}{tm:Array Value}{w w':World}{I':Mem}{L':bg}{l0 l1:List (Nat×Chunk)}
theorem apQ(hh:hiL l0):∀i l,L.to (bq l0) i=some l->1000000<=i:=λi l hl=>awa hh i (by
 obtain⟨c,hc⟩:=(to_eq hl).2;rw[hc];simp)
theorem fV.abb(h:fV C env H I L tm w)(h0:vJ H l0)(hi:wo (bq l0) l0)(hh:hiL l0):fV (Ctx.abb w I 0 C.B (L.to (bq l0)) h.leB (apQ hh)) gU (bq l0) I (L.to (bq l0)) #[] w :=
 {below:=Below.refl _ _
  mem:=h.mem
  mw:=Mem.ew I
  m8:=λ_ _ _ _=>rfl
  frame:=λ_ _ _=>rfl
  loc:=dN.refl _
  j9:=λid l b hl hb=>.inr ⟨id,l,hl,hb⟩
  size:=rfl
  env:=λ_=>.dead _
  dom:=λid l hl=>(to_eq hl).2
  chunk:=λid ch hch=>by obtain⟨c,hc1,hc2⟩:=acj h0 id ch hch;exact alU (h.chunk id c hc1) hc2 hch hi
  fO:=λid l b hl hb=>h.fO id l b (to_eq hl).1 hb
  apart:=λi j li lj b hi hj u5 xg=>h.apart i j li lj b (to_eq hi).1 (to_eq hj).1 u5 xg }
def yG(l1:List (Nat×Chunk))(L' L:bg):bg:=λi=>match bq l1 i with
 |some _=>L' i
 |none=>L i
theorem tT{i:Nat}(h:bq l1 i≠none):yG l1 L' L i=L' i:=by
 unfold yG;cases hc:bq l1 i with
 |none=>exact absurd hc h
 |some c=>rfl
theorem oY{i:Nat}(h:bq l1 i=none):yG l1 L' L i=L i:=by unfold yG;rw[h]
theorem alX:dN (L'.to (bq l1)) (yG l1 L' L):=λi=>by
 cases hl:L'.to (bq l1) i with
 |none=>trivial
 |some l =>
  obtain⟨e,c,hc⟩:=to_eq hl;have hb:yG l1 L' L i=some l:=by rw[tT (by rw[hc];simp)];exact e
  cases l with
  |box b=>exact hb
  |row v hdr sz=>exact⟨v,hdr,hb,Nat.le_refl _,λ_=>rfl⟩
  |deep v hdr sz sz' eT n=>exact⟨v,hdr,eT,n,hb,Nat.le_refl _,λ_=>⟨rfl,rfl,rfl⟩⟩
theorem fV.azF(h:fV C env H I L tm w)(h0:vJ H l0)(hh:hiL l0)
  (hs':fV (Ctx.abb w I 0 C.B (L.to (bq l0)) h.leB (apQ hh)) gU H' I' L' #[] w')
  (h1:vJ H' l1) (hi:wo (bq l1) l1) (hst:xJ (bq l1) l0) (hnw:newL (bq l0) H l1) :
  fV C env (over l1 H) I' (yG l1 L' L) tm w'/\dN (L'.to (bq l1)) (yG l1 L' L):=by
 have hin0:∀i,bq l0 i≠none->H i≠none:=λi hi=>by
  cases hc:bq l0 i with
  |none=>exact absurd hc hi
  |some c=>obtain⟨c',h2,_⟩:=acj h0 i c hc;rw[h2];simp
 have hmem:∀i,bq l1 i≠none->H i≠none->bq l0 i≠none:=λi hi hH=>(apP hnw i hi).elim id λe=>absurd e hH
 have hLH:∀i l,L i=some l->H i≠none:=λi l hl=>by obtain⟨c,hc⟩:=h.dom i l hl;rw[hc];simp
 have hloc:dN L (yG l1 L' L):=λi=>by
  by_cases hi:bq l1 i=none
  ·rw[oY hi];exact dN.refl L i
  ·rw[tT hi];cases hL:L i with
   |none=>trivial
   |some l=>have h2:=hmem i hi (hLH i l hL);have h3:L.to (bq l0) i=L i:=ld h2;have h4:=hs'.loc i;simp only[Ctx.abb,h3,hL] at h4;exact h4
 have awb:∀b,(∃i l,L.to (bq l0) i=some l/\l.has b)->∃i l,bq l0 i≠none/\L i=some l/\l.has b:=λb ⟨i,l,hl,hb⟩=>by obtain⟨e,c,hc⟩:=to_eq hl;exact⟨i,l,by rw[hc];simp,e,hb⟩
 have hfr:∀b,b<w.heap.size->(¬ ∃i l,L.to (bq l0) i=some l/\l.has b)->w'.heap[b]? = w.heap[b]?/\∀o,I' b o=I b o:=λb hb hn=>⟨hs'.frame b hb hn,λo=>hs'.m8 b hb hn o⟩
 have hout:∀b,b<C.w0.heap.size->¬ C.amN b->¬ ∃i l,L.to (bq l0) i=some l/\l.has b:=λb hb hn hx=>by
  obtain⟨i,l,_,hl,hlb⟩:=awb b hx;rcases h.j9 i l b hl hlb with h2|h2
  ·omega
  ·exact hn h2
 have hback:∀i l b,yG l1 L' L i=some l->bq l1 i≠none->l.has b->w.heap.size<=b\/∃i l,bq l0 i≠none/\L i=some l/\l.has b:=λi l b hl hi hb=>by rw[tT hi] at hl;exact (hs'.j9 i l b hl hb).imp id (awb b)
 refine⟨?_,alX⟩;exact
 {below:=h.below.trans hs'.below
  mem:=hs'.mem
  mw:=Mem.nO h.mw hs'.mw
  m8:=λb hb hf o=>by rw[(hfr b (Nat.lt_of_lt_of_le hb h.below.size) (hout b hb hf)).2 o];exact h.m8 b hb hf o
  frame:=λb hb hf=>((hfr b (Nat.lt_of_lt_of_le hb h.below.size) (hout b hb hf)).1).trans (h.frame b hb hf)
  loc:=h.loc.trans hloc
  j9:=λi l b hl hb=>by
   by_cases hi:bq l1 i=none
   ·rw[oY hi] at hl;exact h.j9 i l b hl hb
   ·rcases hback i l b hl hi hb with h2|⟨j,lj,_,h3,h4⟩
    ·exact .inl (Nat.le_trans h.below.size h2)
    ·exact h.j9 j lj b h3 h4
  size:=h.size
  env:=λt=>(h.env t).mono hs'.mw hloc
  dom:=λi l hl=>by
   rw[ajl];cases hc:bq l1 i with
   |some c=>exact⟨c,rfl⟩
   |none=>rw[oY hc] at hl;exact h.dom i l hl
  chunk:=λi c hc=>by
   rw[ajl] at hc;cases hc1:bq l1 i with
   |some c1=>rw[hc1] at hc;simp only[cm] at hc;subst hc;obtain⟨c',g1,g2⟩:=acj h1 i c1 hc1;exact (alU (hs'.chunk i c' g1) g2 hc1 hi).keep (Mem.ew I') alX (by rw[tT (by rw[hc1];simp),ld (by rw[hc1];simp)]) λ_ _ _ _=>⟨rfl,λ_=>rfl⟩
   |none =>
    rw[hc1] at hc;refine (h.chunk i c hc).keep hs'.mw hloc (oY hc1) λl b hl hb=>hfr b (h.fO i l b hl hb).2 λhx=>?_
    obtain⟨j,lj,h2,h3,h4⟩:=awb b hx;have:=h.apart i j l lj b hl h3 hb h4;subst this;exact ado hst i h2 hc1
  fO:=λi l b hl hb=>by
   by_cases hi:bq l1 i=none
   ·rw[oY hi] at hl;exact⟨(h.fO i l b hl hb).1,Nat.lt_of_lt_of_le (h.fO i l b hl hb).2 hs'.below.size⟩
   ·rw[tT hi] at hl;exact hs'.fO i l b hl hb
  apart:=λi j li lj b hi hj u5 xg=>by
   have one:∀i j li lj,yG l1 L' L i=some li->yG l1 L' L j=some lj->li.has b->lj.has b->bq l1 i≠none->bq l1 j=none->False:=λi j li lj hi hj u5 xg h2 h3=>by
    have hj':=hj;rw[oY h3] at hj';rcases hback i li b hi h2 u5 with h4|⟨k,lk,h4,h5,h6⟩
    ·have:=(h.fO j lj b hj' xg).2;omega
    ·have:=h.apart k j lk lj b h5 hj' h6 xg;subst this;exact ado hst k h4 h3
   by_cases h2:bq l1 i=none<;>by_cases h3:bq l1 j=none
   ·rw[oY h2] at hi;rw[oY h3] at hj;exact h.apart i j li lj b hi hj u5 xg
   ·exact (one j i lj li hj hi xg u5 h3 h2).elim
   ·exact (one i j li lj hi hj u5 xg h2 h3).elim
   ·rw[tT h2] at hi;rw[tT h3] at hj;exact hs'.apart i j li lj b hi hj u5 xg }
end
def isIn(c:Option Chunk)(a:AV)(r:Option AV):Option AV:=match c with
 |some _=>some a
 |none=>r
def ahH(r:Option (PV×Bool)):Option AV:=match r with
 |some (x,false)=>some (.p x)
 |_=>none
def zZ(G H:aq):AV->Option AV
 | .ptr id off=>isIn (G id) (.ptr id off) none
 | .row id v=>isIn (G id) (.row id v) (ahH (fW H (.row id v)))
 | .kP id v=>isIn (G id) (.kP id v) none
 |a=>ahH (fW H a)
def xK(G H:aq):List AV->Option (List AV)
 | []=>some []
 |a :: r=>match zZ G H a,xK G H r with
  |some x,some xs=>some (x :: xs)
  |_,_=>none
theorem asz(c:Chunk)(a:AV)(r:Option AV):isIn (some c) a r=some a:=rfl
theorem aoJ(x:PV):ahH (some (x,false))=some (.p x):=rfl
theorem asA(G H:aq)(id off:Nat):zZ G H (.ptr id off)=isIn (G id) (.ptr id off) none:=rfl
theorem ayD(G H:aq)(x:PV):zZ G H (.p x)=some (.p x):=rfl
theorem asB(G H:aq)(cs:List AV):zZ G H (.agg cs)=ahH (fW H (.agg cs)):=rfl
theorem aoK(G H:aq):xK G H []=some []:=rfl
theorem alY(G H:aq)(a:AV)(r:List AV):xK G H (a :: r)=match zZ G H a,xK G H r with
  |some x,some xs=>some (x :: xs)
  |_,_=>none:=rfl
theorem alZ{C:Ctx}{H G:aq}{env:Env}{tm:Array Value}{w:World}(hs:fV C env H I L tm w){u:Value}{a x:AV}(hu:di I L u a)(h:zZ G H a=some x):di I (L.to G) u x:=by
 have hp:∀a,di I L u a->ahH (fW H a)=some x->di I (L.to G) u x:=λa hu h=>by
  unfold ahH at h;split at h
  ·rename_i y he;simp only[cm] at h;subst h;exact .p _ _ ((pG hs (ta H) (mz hs.mem) ((tc L w).g H) u a y false hu he).2 rfl)
  ·cases h
 unfold zZ at h;split at h
 ·rename_i id off;unfold isIn at h;split at h
  ·rename_i c hc;simp only[cm] at h;subst h;exact hu.to (by rw[ahE,hc];simp)
  ·cases h
 ·rename_i id v;unfold isIn at h;split at h
  ·rename_i c hc;simp only[cm] at h;subst h;exact hu.to (by rw[ahD,hc];simp)
  ·exact hp _ hu h
 ·rename_i id v;unfold isIn at h;split at h
  ·rename_i c hc;simp only[cm] at h;subst h;exact hu.to (by rw[afI,hc];simp)
  ·cases h
 ·exact hp _ hu h
theorem ahI{C:Ctx}{H G:aq}{env:Env}{tm:Array Value}{w:World}(hs:fV C env H I L tm w):∀ {us:List Value} {dP xs:List AV},ng I L us dP->xK G H dP=some xs->ng I (L.to G) us xs
 |us,[],xs,hu,h=>by simp only[xK,cm] at h;subst h;exact⟨by simpa using hu.1,by simp⟩
 | [],a :: r,xs,hu,h=>by have:=hu.1;simp at this
 |u :: us,a :: r,xs,hu,h=>by
  unfold xK at h;split at h
  ·rename_i x ys h1 h2;simp only[cm] at h;subst h;have k:=ahI hs (us:=us) (dP:=r) ⟨by have:=hu.1;simpa using this,λj u c hj hc=>hu.2 (j+1) u c hj hc⟩ h2;refine⟨by simp[k.1],λj u' c hj hc=>?_⟩;cases j with
   |zero=>simp at hj hc;subst hj hc;exact alZ hs (hu.2 0 u a rfl rfl) h1
   |succ j=>exact k.2 j u' c (by simpa using hj) (by simpa using hc)
  ·cases h
end Go.bP
namespace Go.bP
open Go.RowKit
variable{P:Program}{I:Mem}{L:bg}
def Mem.add(I:Mem)(b lo:Nat)(us:List Value):Mem:=λc o=>if c=b/\lo<=o/\o<lo+us.length then us[o-lo]? else I c o
theorem VR.apR{I:Mem}{u:Value}{es:List (List PV)}(h:VR I u (.aE es)):∃ao cap,∃us:List Value,u = .slice ao es.length cap/\us.length=es.flatten.length/\(∀ (j:Nat) u c,us[j]? = some u->es.flatten[j]? = some c->VR I u c) /\
  (∀u∈us,u.oneCell'=true)/\(us=[]\/∃b off,ao=some ⟨b,off,none⟩/\∀ (j:Nat) u,us[j]? = some u->I b (off+j)=some u)/\es.length<=cap:=by
 cases h with
 |aE ao n cap _ us sz hn hsz hl hv hone hm hnil hcap=>subst hn;exact⟨ao,cap,us,rfl,hl,hv,hone,hm,hcap⟩
theorem alr{H' H:aq}{id v:Nat}{e:TypeId}{sz:Nat}{es:List (List PV)}(h:pL H' H):pL (bh H' id (.tail v e sz es)) H:=λi c' hi=>by
 unfold bh at hi;split at hi
 ·cases hi
 ·exact h i c' hi
theorem afP{α:Type}{cs:List α}{off:Nat}{new:List α}(h:off+new.length<=cs.length)(j:Nat):(splice cs off new)[j]? = if off<=j/\j<off+new.length then new[j-off]? else cs[j]?:=by
 unfold splice;rw[List.append_assoc,List.getElem?_append,List.length_take,List.getElem?_append,List.getElem?_take,List.getElem?_drop];by_cases h1:j<off
 ·rw[if_pos (by omega),if_pos h1,if_neg (by omega)]
 ·rw[if_neg (by omega)];by_cases h2:j<off+new.length
  ·rw[if_pos (by omega),if_pos (by omega),show j-min off cs.length=j-off by omega]
  ·rw[if_neg (by omega),if_neg (by omega),show off+new.length+(j-min off cs.length-new.length)=j by omega]
end Go.bP
namespace Go.bP
open Go.RowKit
variable{P:Program}{I:Mem}{L:bg}
def sw(s t i:Nat):Nat:=if i=s then t else if i=t then s else i
theorem kJ(s t i:Nat):sw s t (sw s t i)=i:=by
 unfold sw;split
 ·rename_i h;subst h;split
  ·assumption
  ·rw[if_pos rfl]
 ·split
  ·rename_i h;subst h;rw[if_pos rfl]
  ·rfl
mutual
def fy(s t:Nat):AV->AV
 | .row id v=>.row (sw s t id) v
 | .ptr id o=>.ptr (sw s t id) o
 | .iY id v i o=>.iY (sw s t id) v i o
 | .agg cs=>.agg (kY s t cs)
 | .dg cs=>.dg (kY s t cs)
 | .jF f a b=>.jF f (kY s t a) (kY s t b)
 | .kP id v=>.kP (sw s t id) v
 | .lz id v i o=>.lz (sw s t id) v i o
 | .mu id v i=>.mu (sw s t id) v i
 | .om id v i j o=>.om (sw s t id) v i j o
 | .bsl id n=>.bsl (sw s t id) n
 | .nP id v o n m z=>.nP (sw s t id) v o n m z
 |x=>x
def kY(s t:Nat):List AV->List AV
 | []=>[]
 |a :: r=>fy s t a :: kY s t r
end
theorem tq{s t:Nat} : ∀ {cs:List AV} {j:Nat} {c:AV},(kY s t cs)[j]? = some c->∃d,cs[j]? = some d/\c=fy s t d
 | [],j,c,h=>by simp[kY] at h
 |a :: r,0,c,h=>by unfold kY at h;simp only[List.getElem?_cons_zero,cm] at h;exact⟨a,rfl,h.symm⟩
 |a :: r,j+1,c,h=>by unfold kY at h;exact tq (cs:=r) (by simpa using h)
theorem nT{s t:Nat} : ∀cs:List AV,(kY s t cs).length=cs.length
 | []=>rfl
 |a :: r=>by unfold kY;simp[nT r]
def aet(s t:Nat):Chunk->Chunk
 | .box cs=>.box (kY s t cs)
 |c=>c
def adp(s t:Nat):Option Chunk->Option Chunk
 |some c=>some (aet s t c)
 |none=>none
def sP(s t:Nat)(env:Env):Env:=λi=>fy s t (env i)
def sQ(s t:Nat)(H:aq):aq:=λi=>adp s t (H (sw s t i))
def abJ(s t:Nat)(L:bg):bg:=λi=>L (sw s t i)
theorem di.ren{s t:Nat}{u:Value}{a:AV}(h:di I L u a):di I (abJ s t L) u (fy s t a):=by
 induction h with
 |p u x h=>unfold fy;exact .p u x h
 |row u id aW v hdr sz hl hle h h1=>unfold fy;exact .row u _ aW v hdr sz (by unfold abJ;rw[kJ];exact hl) hle h h1
 |ptr id b off hl=>unfold fy;exact .ptr _ b off (by unfold abJ;rw[kJ];exact hl)
 |iY u id aW v i off hdr sz hl hle h h1=>unfold fy;exact .iY u _ aW v i off hdr sz (by unfold abJ;rw[kJ];exact hl) hle h h1
 |agg us cs hl _ hone ih=>unfold fy;refine .agg us _ (by rw[nT];exact hl) (λj u c hu hc=>?_) hone;obtain⟨d,hd,rfl⟩:=tq hc;exact ih j u d hu hd
 |dg us cs hl _ ih=>unfold fy;refine .dg us _ (by rw[nT];exact hl) (λj u c hu hc=>?_);obtain⟨d,hd,rfl⟩:=tq hc;exact ih j u d hu hd
 |jF fn us vs fs cs hl hl' _ _ ih ih' =>
  unfold fy;refine .jF fn us vs _ _ (by rw[nT];exact hl) (by rw[nT];exact hl') (λj u c hu hc=>?_) (λj u c hu hc=>?_)
  ·obtain⟨d,hd,rfl⟩:=tq hc;exact ih j u d hu hd
  ·obtain⟨d,hd,rfl⟩:=tq hc;exact ih' j u d hu hd
 |dead u=>unfold fy;exact .dead u
 |bsl id b n hl=>unfold fy;exact .bsl _ b n (by unfold abJ;rw[kJ];exact hl)
 |nP a id aW v off n m c hdr sz hl hle hn hm hz h=>unfold fy;exact .nP a _ aW v off n m c hdr sz (by unfold abJ;rw[kJ];exact hl) hle hn hm hz h
 |kP u id aW v hdr sz sz' eT n hl hle h h1=>unfold fy;exact .kP u _ aW v hdr sz sz' eT n (by unfold abJ;rw[kJ];exact hl) hle h h1
 |lz u id aW v i off hdr sz sz' eT n hl hle h h1=>unfold fy;exact .lz u _ aW v i off hdr sz sz' eT n (by unfold abJ;rw[kJ];exact hl) hle h h1
 |mu u id aW v i hdr sz sz' eT n hl hle h h1=>unfold fy;exact .mu u _ aW v i hdr sz sz' eT n (by unfold abJ;rw[kJ];exact hl) hle h h1
 |om u id aW v i j off hdr sz sz' eT n hl hle h h1=>unfold fy;exact .om u _ aW v i j off hdr sz sz' eT n (by unfold abJ;rw[kJ];exact hl) hle h h1
theorem qx.ren{s t:Nat}{w:World}{B id:Nat}{c:Chunk}(h:qx I L w B (sw s t id) c):qx I (abJ s t L) w B id (aet s t c):=by
 cases c with
 |box cs=>obtain⟨b,arr,e,g1,g2,g3,g4,g5,g6⟩:=h;refine⟨b,arr,e,g1,g2,by rw[nT];exact g3,λj u c hu hc=>?_,g5,g6⟩;obtain⟨d,hd,rfl⟩:=tq hc;exact (g4 j u d hu hd).ren
 |row aW e sz es=>exact h
 |shut aW es=>exact h
 |tail aW e sz es=>exact h
 |deep aW e sz k e' sz' es=>exact h
theorem ayE(s t:Nat)(env:Env)(i:Nat):sP s t env i=fy s t (env i):=rfl
theorem sR(s t:Nat)(H:aq)(i:Nat):sQ s t H i=adp s t (H (sw s t i)):=rfl
theorem aBZ(s t i:Nat):sw s t i=if i=s then t else if i=t then s else i:=rfl
theorem awc(s t id v:Nat):fy s t (.row id v) = .row (sw s t id) v:=by simp only[fy]
theorem awd(s t id v:Nat):fy s t (.ptr id v) = .ptr (sw s t id) v:=by simp only[fy]
theorem aAq(s t:Nat)(x:PV):fy s t (.p x) = .p x:=by simp only[fy]
theorem awe(s t:Nat)(cs:List AV):fy s t (.agg cs) = .agg (kY s t cs):=by simp only[fy]
theorem asC(s t:Nat):kY s t []=[]:=by simp only[kY]
theorem aoL(s t:Nat)(a:AV)(r:List AV):kY s t (a :: r)=fy s t a :: kY s t r:=by simp only[kY]
theorem asD(s t:Nat)(c:Chunk):adp s t (some c)=some (aet s t c):=rfl
theorem ahJ(s t:Nat):adp s t none=none:=rfl
theorem awf(s t:Nat)(cs:List AV):aet s t (.box cs) = .box (kY s t cs):=rfl
theorem awg(s t v:Nat)(e:TypeId)(sz:Nat)(es:List (List PV)):aet s t (.row v e sz es) = .row v e sz es:=rfl
theorem asE(s t v:Nat)(es:List (List PV)):aet s t (.shut v es) = .shut v es:=rfl
attribute [go_sem] ayE sR aBZ awc awd aAq awe asC aoL asD ahJ awf awg asE alV ahG ayC av8 aoI alW av9 asy asz aoJ asA ayD asB aoK alY
end Go.bP
namespace Go.bP
open Go.RowKit
variable{P:Program}{I:Mem}{L:bg}
theorem fV.change{C:Ctx}{env:Env}{H H':aq}{I':Mem}{L':bg}{tm:Array Value}{w w':World}(h:fV C env H I L tm w)(hb:Below C.B w w')(S:Nat->Prop)
  (hk:∀b,b<w.heap.size->(¬ ∃i l,S i/\L i=some l/\l.has b)->w'.heap[b]? = w.heap[b]?/\∀o,I' b o=I b o) (hle:dN L L') (hsub:I.sub I') (hIw:I'.inW w')
  (hS:∀i,¬ S i->L' i=L i/\H' i=H i) (hdom:∀i l,S i->L' i=some l->∃c,H' i=some c) (hch:∀i c,S i->H' i=some c->qx I' L' w' C.B i c)
  (hblk:∀i l b,S i->L' i=some l->l.has b->(∃j lj,S j/\L j=some lj/\lj.has b)\/(w.heap.size<=b/\b<w'.heap.size))
  (hap:∀i j li lj b,S i->S j->L' i=some li->L' j=some lj->li.has b->lj.has b->i=j):fV C env H' I' L' tm w':=by
 have hold:∀b,b<C.w0.heap.size->¬ C.amN b->¬ ∃i l,S i/\L i=some l/\l.has b:=λb hb hn ⟨i,l,_,hl,hlb⟩=>by
  rcases h.j9 i l b hl hlb with h2|h2
  ·omega
  ·exact hn h2
 have hlt:∀b,b<C.w0.heap.size->b<w.heap.size:=λb hb=>Nat.lt_of_lt_of_le hb h.below.size
 have aeu:∀i l b,¬ S i->L i=some l->l.has b->¬ ∃j lj,S j/\L j=some lj/\lj.has b:=λi l b hi hl hlb ⟨j,lj,hj,hlj,hjb⟩=>by have:=h.apart i j l lj b hl hlj hlb hjb;subst this;exact hi hj
 exact
 {below:=h.below.trans hb
  mem:=hIw
  mw:=Mem.nO h.mw hsub
  m8:=λb hb hf o=>by rw[(hk b (hlt b hb) (hold b hb hf)).2 o];exact h.m8 b hb hf o
  frame:=λb hb hf=>((hk b (hlt b hb) (hold b hb hf)).1).trans (h.frame b hb hf)
  loc:=h.loc.trans hle
  j9:=λi l b hl hlb=>by
   by_cases hi:S i
   ·rcases hblk i l b hi hl hlb with ⟨j,lj,_,hj,hjb⟩|h2
    ·exact h.j9 j lj b hj hjb
    ·exact .inl (Nat.le_trans h.below.size h2.1)
   ·rw[(hS i hi).1] at hl;exact h.j9 i l b hl hlb
  size:=h.size
  env:=λt=>(h.env t).mono hsub hle
  dom:=λi l hl=>by
   by_cases hi:S i
   ·exact hdom i l hi hl
   ·rw[(hS i hi).1] at hl;rw[(hS i hi).2];exact h.dom i l hl
  chunk:=λi c hc=>by
   by_cases hi:S i
   ·exact hch i c hi hc
   ·rw[(hS i hi).2] at hc;exact (h.chunk i c hc).keep hsub hle (hS i hi).1 λl b hl hlb=>hk b (h.fO i l b hl hlb).2 (aeu i l b hi hl hlb)
  fO:=λi l b hl hlb=>by
   by_cases hi:S i
   ·rcases hblk i l b hi hl hlb with ⟨j,lj,_,hj,hjb⟩|h2
    ·exact⟨(h.fO j lj b hj hjb).1,Nat.lt_of_lt_of_le (h.fO j lj b hj hjb).2 hb.size⟩
    ·exact⟨Nat.le_trans h.leB h2.1,h2.2⟩
   ·rw[(hS i hi).1] at hl;exact⟨(h.fO i l b hl hlb).1,Nat.lt_of_lt_of_le (h.fO i l b hl hlb).2 hb.size⟩
  apart:=λi j li lj b hi hj u5 xg=>by
   have one:∀i j li lj,S i->¬ S j->L' i=some li->L' j=some lj->li.has b->lj.has b->False:=λi j li lj hi hj hli hlj u5 xg=>by
    rw[(hS j hj).1] at hlj;rcases hblk i li b hi hli u5 with hx|h2
    ·exact aeu j lj b hj hlj xg hx
    ·have:=(h.fO j lj b hlj xg).2;omega
   by_cases h1:S i<;>by_cases h2:S j
   ·exact hap i j li lj b h1 h2 hi hj u5 xg
   ·exact (one i j li lj h1 h2 hi hj u5 xg).elim
   ·exact (one j i lj li h2 h1 hj hi xg u5).elim
   ·rw[(hS i h1).1] at hi;rw[(hS j h2).1] at hj;exact h.apart i j li lj b hi hj u5 xg }
theorem fV.ren{C:Ctx}{env:Env}{H:aq}{tm:Array Value}{w:World}(hs:fV C env H I L tm w){s t:Nat}(h0s:C.L0 s=none)(h0t:C.L0 t=none):fV C (sP s t env) (sQ s t H) I (abJ s t L) tm w :=
 {below:=hs.below
  mem:=hs.mem
  mw:=hs.mw
  m8:=hs.m8
  frame:=hs.frame
  loc:=λi=>by
   by_cases h1:i=s
   ·subst h1;rw[h0s];trivial
   ·by_cases h2:i=t
    ·subst h2;rw[h0t];trivial
    ·have:abJ s t L i=L i:=by unfold abJ sw;rw[if_neg h1,if_neg h2]
     rw[this];exact hs.loc i
  j9:=λid l b hl hb=>hs.j9 _ l b hl hb
  size:=hs.size
  env:=λi=>(hs.env i).ren
  dom:=λid l hl=>by obtain⟨c,hc⟩:=hs.dom _ l hl;exact⟨_,by unfold sQ;rw[hc];rfl⟩
  chunk:=λid ch hch=>by
   unfold sQ at hch;cases hc:H (sw s t id) with
   |none=>rw[hc] at hch;cases hch
   |some c=>rw[hc] at hch;simp only[adp,cm] at hch;subst hch;exact (hs.chunk _ c hc).ren
  fO:=λid l b hl hb=>hs.fO _ l b hl hb
  apart:=λi j li lj b hi hj u5 xg=>by
   have:=hs.apart _ _ li lj b hi hj u5 xg;have h2:=congrArg (sw s t) this;rwa [kJ,kJ] at h2 }
mutual
theorem ahK(s t:Nat):∀a:AV,fy s t (fy s t a)=a
 | .p _=>by simp only[fy]
 | .row _ _=>by simp only[fy,kJ]
 | .ptr _ _=>by simp only[fy,kJ]
 | .iY _ _ _ _=>by simp only[fy,kJ]
 | .agg cs=>by simp only[fy,rH s t cs]
 | .dg cs=>by simp only[fy,rH s t cs]
 | .jF _ a b=>by simp only[fy,rH s t a,rH s t b]
 | .kP _ _=>by simp only[fy,kJ]
 | .lz _ _ _ _=>by simp only[fy,kJ]
 | .mu _ _ _=>by simp only[fy,kJ]
 | .om _ _ _ _ _=>by simp only[fy,kJ]
 | .bsl _ _=>by simp only[fy,kJ]
 | .nP _ _ _ _ _ _=>by simp only[fy,kJ]
 | .dead=>by simp only[fy]
theorem rH(s t:Nat):∀l:List AV,kY s t (kY s t l)=l
 | []=>by simp only[kY]
 |a :: r=>by simp only[kY,ahK s t a,rH s t r]
end
theorem ahL(s t:Nat)(env:Env):sP s t (sP s t env)=env:=by funext i;simp only[sP,ahK]
theorem asF(s t:Nat)(env:Env)(d:Option Tmp)(a:AV):sP s t (bZ env d a)=bZ (sP s t env) d (fy s t a):=by
 cases d with
 |none=>rfl
 |some k=>funext i;show fy s t (cD env k a i)=cD (sP s t env) k (fy s t a) i;unfold cD;split<;>rfl
theorem aAr(s t:Nat)(env:Env)(x:Operand):ev (sP s t env) x=fy s t (ev env x):=by
 cases x with
 |tmp k=>rfl
 |const v =>
  show zf v=fy s t (zf v);have:∃p,zf v = .p p\/zf v = .dead:=by unfold zf;split<;>first|exact⟨_,.inl rfl⟩|exact⟨default,.inr rfl⟩|(split<;>first|exact⟨_,.inl rfl⟩|exact⟨default,.inr rfl⟩)
  obtain⟨p,h|h⟩:=this<;>rw[h]<;>simp only[fy]
 |global g=>simp only[ev,fy]
 |func f=>simp only[ev,fy]
theorem adq{o:Oper}{W:Env->aq->Prop}{env:Env}{H:aq}(s t:Nat)(hs1:s<1000000)(ht:H t=none)(h:aa3 P o (λe G=>W (sP s t e) (sQ s t G)) (sP s t env) (sQ s t H)):aa3 P o W env H:=λC I L tm w σ hs hσ=>by
 have hLt:L t=none:=hs.tr ht;have h0t:C.L0 t=none:=by
  cases h:C.L0 t with
  |none=>rfl
  |some l =>
   have:=hs.loc t;rw[h] at this;cases l with
   |box b=>rw[hLt] at this;cases this
   |row v hdr sz=>obtain⟨_,_,h2,_⟩:=this;rw[hLt] at h2;cases h2
   |deep v hdr sz sz' eT n=>obtain⟨_,_,_,_,h2,_⟩:=this;rw[hLt] at h2;cases h2
 have h0s:C.L0 s=none:=by
  cases h:C.L0 s with
  |none=>rfl
  |some l=>have:=C.hL0 s l h;omega
 obtain⟨k,args,q1,q2⟩:=h C I _ tm w σ (hs.ren h0s h0t) λx=>by rw[aAr];exact (hσ x).ren
 refine⟨k,args,q1,q2.mono λe w' ⟨v,I',L',a,H',m1,m2,m3,m4⟩=>⟨v,I',abJ s t L',fy s t a,sQ s t H',m1,?_,m3.ren,?_⟩⟩
 ·have:sP s t (bZ (sP s t env) o.dst a)=bZ env o.dst (fy s t a):=by rw[asF,ahL]
  rw[<-this];exact m2
 ·have:=m4.ren h0s h0t;rwa [ahL] at this
mutual
def rI(id:Nat):AV->AV
 | .kP i v=>if i=id then .row i v else .kP i v
 | .lz i v j o=>if i=id then .dead else .lz i v j o
 | .mu i v j=>if i=id then .dead else .mu i v j
 | .om i v j k o=>if i=id then .dead else .om i v j k o
 | .row i v=>if i=id then .dead else .row i v
 | .iY i v j o=>if i=id then .dead else .iY i v j o
 | .ptr i o=>if i=id then .dead else .ptr i o
 | .bsl i n=>if i=id then .dead else .bsl i n
 | .nP i v o n m sz=>if i=id then .dead else .nP i v o n m sz
 | .agg cs=>.agg (tU id cs)
 | .dg cs=>.dg (tU id cs)
 | .jF f a b=>.jF f (tU id a) (tU id b)
 |x=>x
def tU(id:Nat):List AV->List AV
 | []=>[]
 |a :: r=>rI id a :: tU id r
end
theorem tV{id:Nat} : ∀ {cs:List AV} {j:Nat} {c:AV},(tU id cs)[j]? = some c->∃d,cs[j]? = some d/\c=rI id d
 | [],j,c,h=>by simp[tU] at h
 |a :: r,0,c,h=>by unfold tU at h;simp only[List.getElem?_cons_zero,cm] at h;exact⟨a,rfl,h.symm⟩
 |a :: r,j+1,c,h=>by unfold tU at h;exact tV (cs:=r) (by simpa using h)
theorem oC{id:Nat} : ∀cs:List AV,(tU id cs).length=cs.length
 | []=>rfl
 |a :: r=>by unfold tU;simp[oC r]
theorem di.flat{J:Mem}{id v:Nat}{hdr:Value}{sz sz':Nat}{eT:Nat->Value}{n:Nat}(hl:L id=some (.deep v hdr sz sz' eT n))(hIJ:I.sub J){u:Value}{a:AV}(h:di I L u a):di J (cu L id (.row v hdr sz)) u (rI id a):=by
 have aeu:∀i,i≠id->cu L id (.row v hdr sz) i=L i:=λi hi=>by simp[cu,hi]
 induction h with
 |p u x h=>unfold rI;exact .p u x (h.mono hIJ)
 |row u i aW v1 m9 sz1 ql hle h h1 =>
  unfold rI;split
  ·exact .dead _
  ·exact .row u i aW v1 m9 sz1 ((aeu i (by assumption)).trans ql) hle h h1
 |ptr i b off ql =>
  unfold rI;split
  ·exact .dead _
  ·exact .ptr i b off ((aeu i (by assumption)).trans ql)
 |iY u i aW v1 j off m9 sz1 ql hle h h1 =>
  unfold rI;split
  ·exact .dead _
  ·exact .iY u i aW v1 j off m9 sz1 ((aeu i (by assumption)).trans ql) hle h h1
 |bsl i b n ql =>
  unfold rI;split
  ·exact .dead _
  ·exact .bsl i b n ((aeu i (by assumption)).trans ql)
 |nP a i aW v1 off n m c m9 sz1 ql hle hn hm hz h =>
  unfold rI;split
  ·exact .dead _
  ·exact .nP a i aW v1 off n m c m9 sz1 ((aeu i (by assumption)).trans ql) hle hn hm hz h
 |agg us cs ql _ hone ih=>unfold rI;refine .agg us _ (by rw[oC];exact ql) (λj u c hu hc=>?_) hone;obtain⟨d,hd,rfl⟩:=tV hc;exact ih j u d hu hd
 |dg us cs ql _ ih=>unfold rI;refine .dg us _ (by rw[oC];exact ql) (λj u c hu hc=>?_);obtain⟨d,hd,rfl⟩:=tV hc;exact ih j u d hu hd
 |jF fn us vs fs cs ql hl2 _ _ ih ih' =>
  unfold rI;refine .jF fn us vs _ _ (by rw[oC];exact ql) (by rw[oC];exact hl2) (λj u c hu hc=>?_) (λj u c hu hc=>?_)
  ·obtain⟨d,hd,rfl⟩:=tV hc;exact ih j u d hu hd
  ·obtain⟨d,hd,rfl⟩:=tV hc;exact ih' j u d hu hd
 |kP u i aW v1 m9 s1 s2 aeO n1 ql hle h h1 =>
  unfold rI;split
  ·rename_i e;subst e;rw[hl] at ql;simp only[cm,Loc.deep.injEq] at ql;obtain⟨e1,e2,e3,_⟩:=ql;subst e1 e2 e3;exact .row u i aW v hdr sz (by simp[cu]) hle h h1
  ·exact .kP u i aW v1 m9 s1 s2 aeO n1 ((aeu i (by assumption)).trans ql) hle h h1
 |lz u i aW v1 j off m9 s1 s2 aeO n1 ql hle h h1 =>
  unfold rI;split
  ·exact .dead _
  ·exact .lz u i aW v1 j off m9 s1 s2 aeO n1 ((aeu i (by assumption)).trans ql) hle h h1
 |mu u i aW v1 j m9 s1 s2 aeO n1 ql hle h h1 =>
  unfold rI;split
  ·exact .dead _
  ·exact .mu u i aW v1 j m9 s1 s2 aeO n1 ((aeu i (by assumption)).trans ql) hle h h1
 |om u i aW v1 j m off m9 s1 s2 aeO n1 ql hle h h1 =>
  unfold rI;split
  ·exact .dead _
  ·exact .om u i aW v1 j m off m9 s1 s2 aeO n1 ((aeu i (by assumption)).trans ql) hle h h1
 |dead u=>unfold rI;exact .dead u
open Classical in
noncomputable def Mem.inner(I:Mem)(w:World)(eT:Nat->Value)(n:Nat):Mem:=λb o=>if ∃i,i<n/\(eT i).ownBlock=some b then w.cell? ⟨b,o,none⟩ else I b o
end Go.bP
namespace Go.bP
open Go.RowKit
variable{P:Program}{I:Mem}{L:bg}
theorem al0(w:World)(dT sT ty e:TypeId)(b o dLen dCap:Nat)(cur:Array Value)(a:Addr)(sLen sCap:Nat)(cs:List Value)(hg:w.heap[b]? = some (.cells cur e (0,0)))
  (hu:P.underlying dT=some (.slice e)) (hs:bf P e=some 1) (hn:cs.length=Nat.min sLen dLen)
  (hsrc:∀j v,cs[j]? = some v->w.cell? (a.add j)=some v) (hc:o+cs.length<=cur.size) (h1:∀v∈cs,v.oneCell'=true) :
  (Builtin.copy_ #[dT,sT] ty #[.slice (some ⟨b,o,none⟩) dLen dCap,.slice (some a) sLen sCap]).run P w = .ok (goInt cs.length) (w.setRow b (splice cur.toList o cs).toArray):=by
 have hl:=run_loadCells_list (P:=P) w a cs hsrc;have hst:=run_storeCells_at (P:=P) b o e cs 0 cur w hg (by omega) h1;simp only[Nat.add_zero] at hst;cases hq:P.info? e with
 |none=>simp[bf,hq] at hs
 |some i =>
  have hi:i.size=1:=by simpa[bf,hq] using hs
  simp[Builtin.copy_,run_underlying hu,Builtin.lenOf,Builtin.firstCells,sizeOf,typeInfo,hq,hi,<-hn,hl,hst,splice]
theorem acn{α:Type}(ps:List α):(ps.map λp=>[p]).flatten=ps:=by
 induction ps with
 |nil=>rfl
 |cons a r ih=>rw[List.map_cons,List.flatten_cons,ih];rfl
theorem afQ{α:Type}{es:List (List α)}(h:∀x∈es,x.length=1)(o:Nat)(ps:List α):(splice es o (ps.map λp=>[p])).flatten=splice es.flatten o ps:=by
 have h1:∀ (n:Nat),(es.take n).flatten=es.flatten.take n/\(es.drop n).flatten=es.flatten.drop n:=by
  intro n
  induction es generalizing n with
  |nil=>simp
  |cons a r ih =>
   obtain⟨p,rfl⟩:∃p,a=[p]:=List.length_eq_one_iff.1 (h a List.mem_cons_self);cases n with
   |zero=>simp
   |succ n=>have:=ih (λx hx=>h x (List.mem_cons_of_mem _ hx)) n;simpa using this
 unfold splice;rw[List.flatten_append,List.flatten_append,acn,(h1 o).1,List.length_map,(h1 _).2]
theorem afR{C:Ctx}{env:Env}{H:aq}{tm:Array Value}{w:World}(hs:fV C env H I L tm w){op:Oper}{σ:Operand->Value}(x y:Operand)(t1 t2:TypeId)(hop:op.op = .call ⟨.builtin .copy,#[x,y],#[t1,t2]⟩)
  {id v:Nat} {e:TypeId} {es:List (List PV)} (hH:H id=some (.row v e 1 es)) {g n cap:Nat} (hL:L id=some (.row v (.slice (some ⟨g,0,none⟩) n cap) 1)) (hu:P.underlying t1=some (.slice e)) (hsz:bf P e=some 1)
  {o dLen dCap:Nat} (hx:σ x = .slice (some ⟨g,o,none⟩) dLen dCap) {a:Addr} {sLen sCap:Nat} (hy:σ y = .slice (some a) sLen sCap) (cs:List Value) (ps:List PV) (hn:cs.length=Nat.min sLen dLen) (hps:ps.length=cs.length) (ho:o+cs.length<=es.length)
  (hsrc:∀j v,cs[j]? = some v->w.cell? (a.add j)=some v) (h1:∀v∈cs,v.oneCell'=true) (hv:∀ (j:Nat) u c,cs[j]? = some u->ps[j]? = some c->VR I u c) :
  mR P C H I L w ((execOp σ op).run P w) (.p (.val (.int .i64 (cs.length:Nat)))) (bh H id (.row v e 1 (splice es o (ps.map λp=>[p])))):=by
 obtain⟨hdr,us,q1,q2,q3,q4,q5,q6,q7⟩:=hs.chunk id _ hH;rw[hL] at q1;simp only[cm,Loc.row.injEq,true_and,and_true] at q1;subst q1;rcases q2.2 with ⟨atn,_⟩|⟨g',cp,cur,heq,hbg,hgg,hnc,hcm,hcz,nh⟩
 ·cases atn
 simp only[Value.slice.injEq,cm,Addr.mk.injEq] at heq;obtain⟨⟨e3,_⟩,e4,e5⟩:=heq;subst e3 e4 e5;simp only[Nat.mul_one] at hcz nh;have hr:=al0 (P:=P) w t1 t2 op.type e g o dLen dCap cur a sLen sCap cs hgg hu hsz hn hsrc (by omega) h1;have hs':∀w,(execOp σ op).run P w=((Builtin.copy_ #[t1,t2] op.type #[σ x,σ y]).run P w).andThen λu w'=>.ok (.value u) w':=λw=>by unfold execOp;rw[hop];simp[resolve,invoke,builtin,Result.andThen]
 refine⟨_,_,I,cu L id (.row v (.slice (some ⟨g,0,none⟩) es.length cap) 1),.inl (by rw[hs',hx,hy,hr];rfl),.p _ _ (.val _ rfl),λenv tm hs=>?_⟩;refine hs.turn (vB _ (hs.fO id _ g hL rfl).1) hL (λk hk hne=>setRow_other w g k _ (λe=>hne (by rw[e];rfl))) (dN.aay hL) (λk hk=>q7 k hk) _ ?_ (λk hk=>.inl hk);have hcl:us.length=es.length:=by have:=q2.1;omega
 have hfl:=b5 q4;have hpl:(ps.map λp=>[p]).length=cs.length:=by rw[List.length_map,hps]
 have hsl:(splice es o (ps.map λp=>[p])).length=es.length:=gV (by omega);have htk:(splice cur.toList o cs).take es.length=splice us o cs:=by rw[adO (by omega) (by simp;omega),nh]
 refine⟨.slice (some ⟨g,0,none⟩) es.length cap,splice us o cs,by simp[cu],⟨?_,.inr ⟨g,cap,(splice cur.toList o cs).toArray,by rw[hsl],hbg,setRow_heap w g cur _ e _ hgg,by rw[hsl];exact hnc,hcm,?_,?_⟩⟩,q3,?_,?_,abq q6 h1,q7⟩
 ·rw[hsl,gV (by omega),Nat.mul_one];exact hcl
 ·simp only[List.size_toArray];rw[gV (by simp;omega)];simp;omega
 ·rw[hsl,Nat.mul_one];simpa using htk
 ·intro z hz;rcases List.mem_append.1 hz with h|h
  ·rcases List.mem_append.1 h with h|h
   ·exact q4 z (List.mem_of_mem_take h)
   ·obtain⟨p,_,rfl⟩:=List.mem_map.1 h;rfl
  ·exact q4 z (List.mem_of_mem_drop h)
 ·rw[afQ q4];intro j u c hu hc;rw[afP (by omega)] at hu;rw[afP (by omega)] at hc;rw[hps] at hc;split at hu
  ·rename_i h;rw[if_pos h] at hc;exact hv _ u c hu hc
  ·rename_i h;rw[if_neg h] at hc;exact q5 _ u c hu hc
theorem gZ{o:Option Tmp}{xs:Array Operand}{ts:Array TypeId}{ty:TypeId}{pos:String}{af:Array Edge}{g:Option (Nat×Bool)}{ρ:Operand->AV}{H:aq} : jU P ⟨o,.call ⟨.builtin .copy,xs,ts⟩,ty,pos,af,g⟩ ρ H=none:=by simp[jU,uO,xp,lZ,xh,yO,vY,xu,tv]
theorem ayF{o:Oper}{W:Env->aq->Prop}{env:Env}{H:aq}(t1 t2:TypeId)(x y:Operand)(id v:Nat)(e:TypeId)(es:List (List PV))(ps:List PV)(hop:o.op = .call ⟨.builtin .copy,#[x,y],#[t1,t2]⟩)(hu:P.underlying t1=some (.slice e))(hsz:bf P e=some 1)
  (hx:ev env x = .row id v) (hy:ev env y = .p (.aE (ps.map λp=>[p]))) (hH:H id=some (.row v e 1 es)) (h0:0<ps.length) (hl:ps.length<=es.length)
  (hW:W (bZ env o.dst (.p (.val (.int .i64 (ps.length:Nat))))) (bh H id (.row v e 1 (splice es 0 (ps.map λp=>[p]))))):kf P o W env H:=by
 refine .inr (.inr (.inl ⟨_,_,hW,λC I L tm w σ hs hσ=>?_⟩));have hxv:=hσ x;have hyv:=hσ y;rw[hx] at hxv;rw[hy] at hyv;obtain⟨hdr,us,q1,q2,q3,q4,q5,q6,q7⟩:=hs.chunk id _ hH;rcases q2.2 with ⟨_,hn⟩|⟨g,cp,cur,heq,hbg,hgg,hnc,hcm,hcz,nh⟩
 ·omega
 subst heq;have e1:σ x = .slice (some ⟨g,0,none⟩) es.length cp:=by
  generalize σ x=ux at hxv;cases hxv with
  |row _ _ _ v1 m9 sz1 ql hle hh hone=>rw[q1] at ql;simp only[cm,Loc.row.injEq] at ql;obtain⟨r1,r2,r3⟩:=ql;subst r1 r2 r3;exact hh rfl
 obtain⟨ao,cap,cs,e2,hcl,hcv,aB0,aFl,aGu⟩:=hyv.nc.apR;rw[acn] at hcl hcv;have hne:cs≠[]:=λe=>by subst e;simp at hcl;omega
 rcases aFl with h|⟨b,off,rfl,hI⟩
 ·exact absurd h hne
 rw[<-hcl];refine afR hs x y t1 t2 hop hH q1 hu hsz e1 e2 cs ps ?_ hcl.symm (by omega) (λj u hj=>?_) aB0 hcv
 ·rw[List.length_map,hcl];exact (Nat.min_eq_left hl).symm
 ·rw[Addr.add_mid];exact hs.mem _ _ _ (hI j u hj)
theorem ayG{H:aq}{C:Ctx}{env:Env}{tm:Array Value}{w:World}(hs:fV C env H I L tm w){id v:Nat}{e:TypeId}{es:List (List PV)}(hH:H id=some (.row v e 1 es))(h0:0<es.length) :
  ∃g cap,∃us:List Value,L id=some (.row v (.slice (some ⟨g,0,none⟩) es.length cap) 1)/\es.length<=cap/\us.length=es.length/\(∀ (j:Nat) u c,us[j]? = some u->es.flatten[j]? = some c->VR I u c)/\(∀u∈us,u.oneCell'=true)/\(∀ (j:Nat) u,us[j]? = some u->w.cell? ⟨g,j,none⟩=some u)/\(∀x∈es,x.length=1):=by
 obtain⟨hdr,us,q1,q2,q3,q4,q5,q6,q7⟩:=hs.chunk id _ hH;rcases q2.2 with ⟨_,hn⟩|⟨g,cp,cur,heq,hbg,hgg,hnc,hcm,hcz,nh⟩
 ·omega
 subst heq;refine⟨g,cp,us,q1,hnc,by have:=q2.1;omega,q5,q6,λj u hu=>?_,q4⟩;rw[gW hgg];rw[<-nh,List.getElem?_take] at hu;split at hu
 ·simpa using hu
 ·cases hu
theorem di.awh{u:Value}{id v:Nat}{hdr:Value}{sz:Nat}(h:di I L u (.row id v))(hL:L id=some (.row v hdr sz)):u=hdr:=by
 cases h with
 |row _ _ _ v1 m9 sz1 ql hle hh hone=>rw[hL] at ql;simp only[cm,Loc.row.injEq] at ql;obtain⟨r1,r2,r3⟩:=ql;subst r1 r2 r3;exact hh rfl
theorem wA{o:Oper}{σ:Operand->Value}{x:Operand}{v:Value}(hop:o.op = .move x)(hx:σ x=v)(w:World):(execOp σ o).run P w = .ok (.value v) w:=by unfold execOp;rw[hop];simp[hx]
theorem al1{o:Oper}{σ:Operand->Value}{t e:TypeId}{x lo:Operand}{g n cap m:Nat}(hop:o.op = .slice t x (some lo) none none)(ht:cW P t=some e)(hsz:bf P e=some 1)(hx:σ x = .slice (some ⟨g,0,none⟩) n cap)(hlo:σ lo = .int .i64 (m:Nat))(hm:m<=n)(hc:m<cap)(w:World) :
  (execOp σ o).run P w = .ok (.value (.slice (some ⟨g,m,none⟩) (n-m) (cap-m))) w:=by
 unfold execOp;rw[hop];simp only[Option.map_some,Option.map_none,hx,hlo];have hrun:(Instr.sliceAt t (.slice (some ⟨g,0,none⟩) n cap) (some (.int .i64 (m:Nat))) none none).run P w = .ok (sliced (some ⟨g,0,none⟩) m n cap 1) w:=by
  have h3:(m:Int)<=(n:Int):=by omega
  simp[Instr.sliceAt,Instr.slice,run_underlying (ey ht),Instr.sliceBounds,run_sliceBound,sliced,cR hsz,h3]
 have hd:sliced (some ⟨g,0,none⟩) m n cap 1 = .slice (some ⟨g,m,none⟩) (n-m) (cap-m):=by simp[sliced,Addr.add_mid];omega
 rw[run_lift,hrun,hd];rfl
theorem al2{o:Oper}{σ:Operand->Value}{t e:TypeId}{x hi:Operand}{g n cap m:Nat}(hop:o.op = .slice t x none (some hi) none)(ht:cW P t=some e)(hsz:bf P e=some 1)(hx:σ x = .slice (some ⟨g,0,none⟩) n cap)(hhi:σ hi = .int .i64 (m:Nat))(hm:m<=cap)(w:World) :
  (execOp σ o).run P w = .ok (.value (.slice (some ⟨g,0,none⟩) m cap)) w:=by
 unfold execOp;rw[hop];simp only[Option.map_some,Option.map_none,hx,hhi];have hrun:(Instr.sliceAt t (.slice (some ⟨g,0,none⟩) n cap) none (some (.int .i64 (m:Nat))) none).run P w = .ok (sliced (some ⟨g,0,none⟩) 0 m cap 1) w:=by
  have h3:(m:Int)<=(cap:Int):=by omega
  simp[Instr.sliceAt,Instr.slice,run_underlying (ey ht),Instr.sliceBounds,run_sliceBound,sliced,cR hsz,h3]
 have hd:sliced (some ⟨g,0,none⟩) 0 m cap 1 = .slice (some ⟨g,0,none⟩) m cap:=by simp[sliced,Addr.add_mid]
 rw[run_lift,hrun,hd];rfl
section
variable{ops:Array Oper}{Q:Exit->Act->World->Prop}{C:Ctx}{env:Env}{H:aq}{tm:Array Value}{w:World}{fuel:Nat}{listed:Array Bool}
theorem xL(i:Nat)(o:Oper)(v:Value)(hi:ops[i]? = some o)(hsel:Region.noSelect ops=true)(hf:Region.free .any ops listed i=true)(hr:(Region.ready .any ops listed).contains i=true)(hQ:∀c a w,¬ Q (.panic c) a w)
  (hg:lB ops o env=some true) (hd:tB C.n o.dst) (h1:v.oneCell'=true) (hs:fV C env H I L tm w)
  (hy:∀σ:Operand->Value,(∀x,di I L (σ x) (ev env x))->∀w,(execOp σ o).run P w = .ok (.value v) w)
  (hk:∀tm',fV C (bZ env o.dst (.p (.val v))) H I L tm' w->wpAny P .any ops Q fuel (listed.setIfInBounds i true) ⟨tm',[]⟩ w):wpAny P .any ops Q (fuel+1) listed ⟨tm,[]⟩ w:=by
 have e:(Act.put ⟨tm,[]⟩ o.dst v:Act)=⟨(Act.put ⟨tm,[]⟩ o.dst v).tmps,[]⟩:=by cases o.dst<;>rfl
 refine wpAny_take (v:=v) hi hsel hf hr (λc a w h=>absurd h (hQ c _ w)) (.inl ⟨l7 hg hs,hy _ (λx=>pE hs [] x)⟩) ?_;rw[e];exact hk _ (hs.bZ hd (.p _ _ (.val _ h1)) [])
theorem aoM(i:Nat)(o:Oper){v:AV}{H':aq}(hi:ops[i]? = some o)(hr:Region.ready .any ops listed=[i])(hg:lB ops o env=some true)(hd:tB C.n o.dst)(hs:fV C env H I L tm w)
  (hy:∀σ:Operand->Value,(∀x,di I L (σ x) (ev env x))->mR P C H I L w ((execOp σ o).run P w) v H')
  (hk:∀I' L' tm' w',Fr C I L H w I' L' H' w'->fV C (bZ env o.dst v) H' I' L' tm' w'->wpAny P .any ops Q fuel (listed.setIfInBounds i true) ⟨tm',[]⟩ w'):wpAny P .any ops Q (fuel+1) listed ⟨tm,[]⟩ w:=by
 refine wpAny_all hr (by simp) λj hj=>?_
 have:j=i:=by simpa using hj
 subst this;unfold wpOp;rw[hi];simp only[];rw[if_pos (l7 hg hs)];refine .inl ?_;unfold Oper.wp;refine (hy _ (λx=>pE hs [] x)).upon λu w' I' L' ha hf=>?_
 have e:(Act.put ⟨tm,[]⟩ o.dst u:Act)=⟨(Act.put ⟨tm,[]⟩ o.dst u).tmps,[]⟩:=by cases o.dst<;>rfl
 rw[e];exact hk I' L' _ w' hf ((hf env tm hs).bZ hd ha [])
end
end Go.bP
namespace Go.bP
open Go.RowKit
variable{P:Program}{I:Mem}{L:bg}
variable{t:TypeId}
end Go.bP
namespace Go.bP
open Go.RowKit
variable{P:Program}{t:TypeId}
theorem asG(H:aq)(id aW:Nat):cK H id aW=(match H id with
 |some (.deep v _ _ k _ _ es)=>if v=aW then some (k,es) else none
 |_=>none):=by
 unfold cK;cases H id with
 |none=>rfl
 |some c=>cases c<;>rfl
theorem aoN(H:aq)(id aW i off:Nat):ag8 P t (.lz id aW i off) H=(match cK H id aW with
   |some (k,es)=>(match ry P t (ac0 id aW i k (es.getD i [])) off with|some v=>some (i<es.length,v,H)|none=>none)
   |none=>none):=rfl
theorem alu{H' H:aq}{id v:Nat}{e:TypeId}{sz k:Nat}{e':TypeId}{sz':Nat}{es:List (List PV)}(h:pL H' H):pL (bh H' id (.deep v e sz k e' sz' es)) H:=λi c' hi=>by
 unfold bh at hi;split at hi
 ·cases hi
 ·exact h i c' hi
def bcA(P:Program)(e:Option TypeId)(n:Nat)(parts:List (Nat×AV)):Option (TypeId×List AV):=match e with
 |some e=>(match bf P e,dn P e with
  | some sz, some zs => if zs.length = sz ∧ 0 < sz ∧ n * sz ≤ 16777216 ∧ zs.all (·.oneCell') = true then
    (match qm (λi=>some (i * sz,sz)) (gE zs n) parts with
    |some cs=>some (e,cs)
    |none=>none)
   else none
  |_,_=>none)
 |none=>none
theorem aoO(n:Nat)(parts:List (Nat×AV)):vc P t n parts=bcA P (cW P t) n parts:=by
 unfold vc bcA;cases cW P t with
 |none=>rfl
 |some e=>simp only[];all_goals(cases bf P e<;>cases dn P e<;>rfl)
theorem awi(e:TypeId)(n:Nat)(parts:List (Nat×AV)):bcA P (some e) n parts=(match bf P e,dn P e with
  | some sz, some zs => if zs.length = sz ∧ 0 < sz ∧ n * sz ≤ 16777216 ∧ zs.all (·.oneCell') = true then
    (match qm (λi=>some (i * sz,sz)) (gE zs n) parts with
    |some cs=>some (e,cs)
    |none=>none)
   else none
  |_,_=>none):=rfl
attribute [go_sem] aoO awi
theorem awj(id off:Nat):atj (.ptr id off)=some (True,.ptr id off):=rfl
attribute [go_sem] awj
def awk(a:Option AV)(H:aq)(Q:AV->aq->Prop):Prop:=match a with
 |some a=>Q a H
 |none=>False
theorem awl(rs:List ResultVar)(Q:AV->aq->Prop)(env:Env)(H:aq):aAp P rs Q .ret env H=awk (ni P env H rs) H Q:=rfl
theorem al3(rs:List ResultVar)(Q:AV->aq->Prop)(env:Env)(H:aq):aAp P rs Q .normal env H=awk (ni P env H rs) H Q:=rfl
theorem aoP(a:AV)(H:aq)(Q:AV->aq->Prop):awk (some a) H Q=Q a H:=rfl
attribute [go_sem] awl al3 aoP
attribute [go_sem] asG aoN
end Go.bP
namespace Go.bP
open Go.RowKit
variable{P:Program}{I:Mem}{L:bg}
mutual
def aFm(id:Nat)(ps:List PV):AV->AV
 | .ptr i o=>if i=id then .p (.fq ps o) else .ptr i o
 | .row i v=>if i=id then .dead else .row i v
 | .iY i v j o=>if i=id then .dead else .iY i v j o
 | .kP i v=>if i=id then .dead else .kP i v
 | .lz i v j o=>if i=id then .dead else .lz i v j o
 | .mu i v j=>if i=id then .dead else .mu i v j
 | .om i v j k o=>if i=id then .dead else .om i v j k o
 | .bsl i n=>if i=id then .dead else .bsl i n
 | .nP i v o n m sz=>if i=id then .dead else .nP i v o n m sz
 | .agg cs=>.agg (al4 id ps cs)
 | .dg cs=>.dg (al4 id ps cs)
 | .jF f a b=>.jF f (al4 id ps a) (al4 id ps b)
 |x=>x
def al4(id:Nat)(ps:List PV):List AV->List AV
 | []=>[]
 |a :: r=>aFm id ps a :: al4 id ps r
end
def Mem.whole(I:Mem)(w:World)(b0:Nat):Mem:=λb o=>if b=b0 then w.cell? ⟨b,o,none⟩ else I b o
end Go.bP
namespace Go.bP
theorem aoQ{H:aq}(id:Nat):oT H id 5=(H id=none/\oT H (id+1) 4):=rfl
theorem asH{H:aq}(id:Nat):oT H id 6=(H id=none/\oT H (id+1) 5):=rfl
attribute [go_sem] aoQ asH
open Go.RowKit
variable{P:Program}{I:Mem}{L:bg}
theorem awm(a b c d e f:PV):iD [a,b,c,d,e,f]=cD (cD (cD (cD (cD (cD gU 0 (.p a)) 1 (.p b)) 2 (.p c)) 3 (.p d)) 4 (.p e)) 5 (.p f):=by funext t;unfold iD cD gU;rcases t with _|_|_|_|_|_|t<;>simp
attribute [go_sem] awm
end Go.bP
namespace Go.bP
open Go.RowKit
end Go.bP
namespace Go.Proofs.YtldllhbhnpjlcaaGreat
open Go.bP
attribute [go_sem] Nat.reduceEqDiff Nat.reduceLT Nat.reduceLeDiff Nat.reduceMul Nat.reduceAdd Nat.reduceBEq Nat.reduceSub Int.reduceToNat reduceIte reduceCtorEq List.cons_append List.nil_append
theorem aoR{P:Program}{env:Env}{H:aq}(r s t u:ResultVar):ni P env H [r,s,t,u]=(match sK P env H r with|some a=>(match sK P env H s with|some b=>(match sK P env H t with|some c=>(match sK P env H u with|some d=>some (.dg [a,b,c,d])|none=>none)|none=>none)|none=>none)|none=>none):=by simp only[ni,aiL];cases sK P env H r<;>cases sK P env H s<;>cases sK P env H t<;>cases sK P env H u<;>rfl
theorem awn(H:aq)(i:Nat):oT H i 12=(H i=none/\H (i+1)=none/\H (i+2)=none/\H (i+3)=none/\H (i+4)=none/\H (i+5)=none/\H (i+6)=none/\H (i+7)=none/\H (i+8)=none/\H (i+9)=none/\H (i+10)=none/\H (i+11)=none/\True):=rfl
attribute [go_sem] aoR awn
def afS(e:Env):List Nat->List (Nat×AV)->List (Nat×AV)
 | [],l=>l
 |t :: ts,l=>(t,e t) :: afS e ts l
theorem asI(e:Env)(l:List (Nat×AV)):afS e [] l=l:=rfl
theorem aoS(e:Env)(t:Nat)(ts:List Nat)(l:List (Nat×AV)):afS e (t :: ts) l=(t,e t) :: afS e ts l:=rfl
def bxl(cs:List AV):List (Nat×AV)->List AV
 | []=>cs
 |(j,v) :: r=>bxl (cs.set j v) r
def bx(c:Option Chunk)(l:List (Nat×AV)):Chunk:=match c with
 |some (.box cs)=>.box (bxl cs l)
 |_=>.box []
def chG:Option Chunk->Chunk
 |some c=>c
 |none=>.box []
def abK(H:aq):List Nat->List (Nat×Chunk)->List (Nat×Chunk)
 | [],l=>l
 |t :: ts,l=>(t,chG (H t)) :: abK H ts l
theorem aoT(H:aq)(l:List (Nat×Chunk)):abK H [] l=l:=rfl
theorem al5(H:aq)(t:Nat)(ts:List Nat)(l:List (Nat×Chunk)):abK H (t :: ts) l=(t,chG (H t)) :: abK H ts l:=rfl
theorem ayH(cs:List AV)(l:List (Nat×AV)):bx (some (.box cs)) l = .box (bxl cs l):=rfl
theorem ayI(cs:List AV):bxl cs []=cs:=rfl
theorem awo(cs:List AV)(j:Nat)(v:AV)(r:List (Nat×AV)):bxl cs ((j,v) :: r)=bxl (cs.set j v) r:=rfl
theorem awp(c:Chunk):chG (some c)=c:=rfl
theorem aB1(x:PV):(RV.p x).pv=x:=rfl
theorem ayJ(e:TypeId)(sz:Nat)(es:List (List PV)):(RV.row e sz es).pv = .aE es:=rfl
theorem ayK(rs:List RV):(RV.agg rs).pv = .agg (RV.pvL rs):=rfl
theorem ayL(rs:List RV):(RV.dg rs).pv = .dg (RV.pvL rs):=rfl
theorem awq:RV.pvL []=[]:=rfl
theorem asJ(r:RV)(rs:List RV):RV.pvL (r :: rs)=r.pv :: RV.pvL rs:=rfl
attribute [go_sem] asI aoS aoT al5 ayH ayI awo awp aB1 ayJ ayK ayL awq asJ
section
variable{α β R:Type}{p q F:Prop}{r:R}{P:Program}{k:FuncId}{ps:List PV}
theorem zV(z:q)(e:q->p:=by intro Z;(try simp -implicitDefEqProofs only[go_sem,F]);exact Z):p:=e z
theorem zX(e:q->p:=by intro Z;(try simp -implicitDefEqProofs only[go_sem,F]);exact Z)(z:q):p:=e z
theorem zF{A:Prop}(a:A)(f:F)(z:F/\A->p):p:=z ⟨f,a⟩
theorem zC{A:Prop} [Decidable A]{x:Option R}(f:F)(h:cA A x=some r)(z:F/\A->x=some r->p):p:=z ⟨f,(avD h).1⟩ (avD h).2
theorem zI{l:List α}{i:Nat}{g:α->Option R}(E:α->List PV)(f:F)(h:thn l[i]? g=some r)(z:∀x,F/\i<l.length/\(l.map E).getD i []=E x->g x=some r->p):p:=by obtain⟨x,a,b,_,d⟩:=azD E h;exact z x ⟨f,a,b⟩ d
theorem zJ{l:List α}{i:Nat}{g:α->Option R}(j:Int)(E:α->List PV)(f:F)(h:thn l[i]? g=some r)(z:∀x,F/\(i<l.length/\j<((l.length:Nat):Int)/\0<=j)/\(l.map E).getD i []=E x->g x=some r->p)(hj:j=(i:Int):=by rfl):p:=by obtain⟨x,a,b,_,d⟩:=azD E h;exact z x ⟨f,⟨a,by omega,by omega⟩,b⟩ d
theorem zA{l:List α}{i:Int}{g:α->Option R}(E:α->List PV)(f:F)(h:thn (jd l i) g=some r)(z:∀x,F/\(0<=i/\i<((l.length:Nat):Int)/\i.toNat<l.length)/\(l.map E).getD i.toNat []=E x->g x=some r->p):p:=by obtain⟨x,a,b,c,_,d⟩:=aBX E h;exact z x ⟨f,⟨a,b,toNat_lt a b⟩,c⟩ d
theorem zB{b:Bool}{x y:Option R}{q1 q2:Prop}(f:F)(h:cond b x y=some r)(t:F/\b=true->x=some r->q1)(u:F/\b=false->y=some r->q2)
  (e:(b=true->q1)->(b=false->q2)->p:=by intro A B;(try simp -implicitDefEqProofs only[go_sem,F]);exact aJ A B):p :=
 e (λhb=>t ⟨f,hb⟩ (adm h hb)) λhb=>u ⟨f,hb⟩ (adn h hb)
theorem cG{b:Bool}{x y:Option R}{q1 q2:Prop}(f:F)(h:cond b x y=some r)(t:F/\b=true->x=some r->q1)(u:F/\b=false->y=some r->q2)
  (e:(b=true->q1)->(b=false->q2)->p:=by intro A B;(try simp -implicitDefEqProofs only[go_sem,F]);exact aV A B):p :=
 e (λhb=>t ⟨f,hb⟩ (adm h hb)) λhb=>u ⟨f,hb⟩ (adn h hb)
theorem eZ{b:Bool}{x y:Option R}{q1 q2:Prop}(f:F)(h:cond b x y=some r)(t:F/\b=true->x=some r->q1)(u:F/\b=false->y=some r->q2)
  (e:(b=true->q1)->(b=false->q2)->p:=by intro A B;(try simp -implicitDefEqProofs only[go_sem,F]);exact bA A B):p :=
 e (λhb=>t ⟨f,hb⟩ (adm h hb)) λhb=>u ⟨f,hb⟩ (adn h hb)
theorem jj{b:Bool}{x y:Option R}{q1 q2:Prop}(f:F)(h:cond b x y=some r)(t:F/\b=true->x=some r->q1)(u:F/\b=false->y=some r->q2)
  (e:(b=true->q1)->(b=false->q2)->p:=by intro A B;(try simp -implicitDefEqProofs only[go_sem,F]);exact bJ A B):p :=
 e (λhb=>t ⟨f,hb⟩ (adm h hb)) λhb=>u ⟨f,hb⟩ (adn h hb)
theorem zBd{b:Bool}{x y:Option R}{q1 q2:Prop}(f:F)(h:cond b x y=some r)(t:F/\b=true->x=some r->q1)(u:F/\b=false->y=some r->q2)
  (e:(b=true->q1)->(b=false->q2)->p:=by intro A B;(try simp -implicitDefEqProofs only[go_sem,F]);exact nS A B):p :=
 e (λhb=>t ⟨f,hb⟩ (adm h hb)) λhb=>u ⟨f,hb⟩ (adn h hb)
theorem ayM{b:Bool}{x y:Option R}{q1 q2:Prop}(f:F)(h:cond b x y=some r)(t:F/\b=true->x=some r->q1)(u:F/\b=false->y=some r->q2)
  (e:(b=true->q1)->(b=false->q2)->p:=by intro A B;(try simp -implicitDefEqProofs only[go_sem,F]);exact qZ A B):p :=
 e (λhb=>t ⟨f,hb⟩ (adm h hb)) λhb=>u ⟨f,hb⟩ (adn h hb)
def Hint{α:Type}(_:α):Prop:=True
theorem ayN{env:Env}{H:aq}{o:Oper}{W:Env->aq->Prop}{ps':List PV}{b:Bool}{id:Nat}(_:Hint id){x:RV}(c:aZ P k ps λv=>v=x)(he:kr o (ev env) H=some (k,ps',b))(hp:qf ps' ps)(hb:b=true->x.flat=true)(hf:oT H id ((cq id x).2-id))(hW:W (bZ env o.dst (cq id x).1) (fU id H x)):kf P o W env H:=aAo id c he hp hb hf hW
theorem awr{env:Env}{H:aq}{o:Oper}{W:Env->aq->Prop}{ps':List PV}{b:Bool}{ids:List Nat}{id:Nat}(_:Hint (ids,id)){x:RV}(c:aZ P k ps λv=>v=x)(he:kr o (ev env) (cY ids H)=some (k,ps',b))(hp:qf ps' ps)(hb:b=true->x.flat=true)(hf:oT (cY ids H) id ((cq id x).2-id))(hW:W (bZ env o.dst (cq id x).1) (fU id (cY ids H) x)):kf P o W env H:=ayA ids id c he hp hb hf hW
theorem aws{own:List Nat}{ops:Array Oper}{env:Env}{H:aq}{o:Oper}{W:Env->aq->Prop}{ps':List PV}{b:Bool}{id:Nat}(_:Hint id){x:RV}(c:aZ P k ps λv=>v=x)(he:kr o (ev env) (ou own ops H)=some (k,ps',b))(hp:qf ps' ps)(hb:b=true->x.flat=true)(hf:oT H id ((cq id x).2-id))(hn:afK own ops id ((cq id x).2-id))(hW:W (bZ env o.dst (cq id x).1) (fU id H x)):afm P own ops o W env H:=ayB id c he hp hb hf hn hW
theorem zK{X:α->PV}{o:Option α}{g:α->Option R}{q:α->Prop}(f:F)(h:thn o g=some r)(c:∀x,o=some x->aB P k ps λv=>v=X x)(z:∀x,g x=some r->q x)
  (e:∀x,(aB P k ps λv=>v=X x)->q x->p:=by intro x C Z;(try simp -implicitDefEqProofs only[go_sem,F]);exact azE C (by simp -implicitDefEqProofs only[go_sem,F]<;>rfl) (by first|exact lC _|(simp -implicitDefEqProofs only[go_sem,F]<;>rfl)) (by first|exact abB|exact cF rfl) Z):p:=by
 obtain⟨x,h1,h2⟩:=rF h;exact e x (c x h1) (z x h2)
theorem zKd{X:α->PV}{o:Option α}{g:α->Option R}{q:α->Prop}(f:F)(h:thn o g=some r)(c:∀x,o=some x->aB P k ps λv=>v=X x)(z:∀x,g x=some r->q x)
  (e:∀x,(aB P k ps λv=>v=X x)->q x->p:=by intro x C Z;(try simp -implicitDefEqProofs only[go_sem,F]);exact avS C (by simp -implicitDefEqProofs only[go_sem,F]<;>rfl) (by first|exact lC _|(simp -implicitDefEqProofs only[go_sem,F]<;>rfl)) (by first|exact abB|exact cF rfl) Z):p:=by
 obtain⟨x,h1,h2⟩:=rF h;exact e x (c x h1) (z x h2)
theorem yH{X:α->RV}{o:Option α}{g:α->Option R}{q:α->Prop}(f:F)(h:thn o g=some r)(c:∀x,o=some x->aZ P k ps λv=>v=X x)(z:∀x,g x=some r->q x)
  (e:∀x,(aB P k ps λv=>v=(X x).pv)->q x->p:=by intro x C Z;(try simp -implicitDefEqProofs only[go_sem,F]);exact avS C (by simp -implicitDefEqProofs only[go_sem,F]<;>rfl) (by first|exact lC _|(simp -implicitDefEqProofs only[go_sem,F]<;>rfl)) (by first|exact abB|exact cF rfl) Z):p:=by
 obtain⟨x,h1,h2⟩:=rF h;exact e x ((c x h1).aAZ) (z x h2)
theorem zG{X:α->RV}{o:Option α}{g:α->Option R}{q:α->Prop}(id:Nat)(f:F)(h:thn o g=some r)(c:∀x,o=some x->aZ P k ps λv=>v=X x)(z:∀x,g x=some r->q x)
  (e:∀x,Hint id->(aZ P k ps λv=>v=X x)->q x->p:=by intro x I C Z;(try simp -implicitDefEqProofs only[go_sem,F]);exact ayN I C (by simp -implicitDefEqProofs only[go_sem,F]<;>rfl) (by first|exact lC _|(simp -implicitDefEqProofs only[go_sem,F]<;>rfl)) (by first|exact aln|exact ahq rfl|exact ahq (by simp[RV.flat,RV.aa2,PV.scalar,isVal,go_sem])) (by simp -implicitDefEqProofs only[go_sem,F]) Z):p:=by
 obtain⟨x,h1,h2⟩:=rF h;exact e x trivial (c x h1) (z x h2)
theorem zH{X:α->RV}{o:Option α}{g:α->Option R}{q:α->Prop}(id:Nat)(f:F)(h:thn o g=some r)(c:∀x,o=some x->aZ P k ps λv=>v=X x)(z:∀x,g x=some r->q x)
  (e:∀x,Hint id->(aZ P k ps λv=>v=X x)->q x->p:=by intro x I C Z;(try simp -implicitDefEqProofs only[go_sem,F]);exact aws I C (by simp -implicitDefEqProofs only[go_sem,F]<;>rfl) (by first|exact lC _|(simp -implicitDefEqProofs only[go_sem,F]<;>rfl)) (by first|exact aln|exact ahq rfl|exact ahq (by simp[RV.flat,RV.aa2,PV.scalar,isVal,go_sem])) (by simp -implicitDefEqProofs only[go_sem,F]) (by simp -implicitDefEqProofs only[go_sem,F]) Z):p:=by
 obtain⟨x,h1,h2⟩:=rF h;exact e x trivial (c x h1) (z x h2)
theorem zGs{X:α->RV}{o:Option α}{g:α->Option R}{q:α->Prop}(id:List Nat×Nat)(f:F)(h:thn o g=some r)(c:∀x,o=some x->aZ P k ps λv=>v=X x)(z:∀x,g x=some r->q x)
  (e:∀x,Hint id->(aZ P k ps λv=>v=X x)->q x->p:=by intro x I C Z;(try simp -implicitDefEqProofs only[go_sem,F]);exact awr I C (by simp -implicitDefEqProofs only[go_sem,F]<;>rfl) (by first|exact lC _|(simp -implicitDefEqProofs only[go_sem,F]<;>rfl)) (by first|exact aln|exact ahq rfl|exact ahq (by simp[RV.flat,RV.aa2,PV.scalar,isVal,go_sem])) (by simp -implicitDefEqProofs only[go_sem,F]) Z):p:=by
 obtain⟨x,h1,h2⟩:=rF h;exact e x trivial (c x h1) (z x h2)
theorem zP{X:α->PV}{o:Option α}{g:α->Option R}{q:α->Prop}(f:F)(h:thn o g=some r)(c:∀x,o=some x->aB P k ps λv=>v=X x)(z:∀x,g x=some r->q x)
  (e:∀x,(aB P k ps λv=>v=X x)->q x->p:=by intro x C Z;(try simp -implicitDefEqProofs only[go_sem,F]);exact azE C (by simp -implicitDefEqProofs only[go_sem,F,qC,qB,Bool.or_false,Bool.false_or]<;>rfl) (lC _) (by first|exact abB|exact cF rfl) Z):p:=by
 obtain⟨x,h1,h2⟩:=rF h;exact e x (c x h1) (z x h2)
theorem zM{v sz:Nat}{e:TypeId}{es:List (List PV)}{X:α->List (List PV)}{o:Option α}{g:α->Option R}{q:α->Prop}(f:F)(h:thn o g=some r)(c:∀x,o=some x->pH P k v e sz (es) ps λa c=>a = .dg []/\c=some (.row v e sz (X x)))(z:∀x,g x=some r->q x)
  (e:∀x,(pH P k v e sz (es) ps λa c=>a = .dg []/\c=some (.row v e sz (X x)))->q x->p:=by intro x C Z;(try simp -implicitDefEqProofs only[go_sem,F]);exact alm C (by simp -implicitDefEqProofs only[go_sem,F]<;>rfl) (by simp -implicitDefEqProofs only[go_sem,F]<;>rfl) (by simp -implicitDefEqProofs only[go_sem,F]<;>rfl) (by first|exact λh=>by cases h|exact λ_=>apL (λ_=>rfl) _) Z):p:=by
 obtain⟨x,h1,h2⟩:=rF h;exact e x (c x h1) (z x h2)
theorem zMb{v sz:Nat}{e:TypeId}{es:List (List PV)}{X:α->List (List PV)}{o:Option α}{g:α->Option R}{q:α->Prop}(f:F)(h:thn o g=some r)(c:∀x,o=some x->pH P k v e sz (es) ps λa c=>a = .row 1000000 (v+1)/\c=some (.row (v+1) e sz (X x)))(z:∀x,g x=some r->q x)
  (e:∀x,(pH P k v e sz (es) ps λa c=>a = .row 1000000 (v+1)/\c=some (.row (v+1) e sz (X x)))->q x->p:=by intro x C Z;(try simp -implicitDefEqProofs only[go_sem,F]);exact arX C (by simp -implicitDefEqProofs only[go_sem,F]<;>rfl) (by simp -implicitDefEqProofs only[go_sem,F]<;>rfl) (by simp -implicitDefEqProofs only[go_sem,F]<;>rfl) (by first|exact λh=>by cases h|exact λ_=>apL (λ_=>rfl) _) Z):p:=by
 obtain⟨x,h1,h2⟩:=rF h;exact e x (c x h1) (z x h2)
theorem aB2{N:Nat}{own:List Nat}{K:Env->aq->Prop}{env:Env}{H:aq}{l:List Oper}{cs:List oh}(_:Hint cs)(hok:ab8 N own l.toArray (masks l.toArray) cs=true)(hw:er P N own l.toArray (l.zip cs) K env H):vf P N own l.toArray K env H:=jh cs hok hw
theorem aB3{N:Nat}{own:List Nat}{K:Env->aq->Prop}{env:Env}{H:aq}{l:List Oper}{pc:List (Nat×oh)}(_:Hint pc)(hok:anV N own l pc=true)(hw:er P N own l.toArray (yC l pc) K env H):vf P N own l.toArray K env H:=apE pc hok hw
theorem zD(cs:List oh)(z:q)(e:Hint cs->q->p:=by intro I Z;(try simp -implicitDefEqProofs only[go_sem,F]);exact aB2 I (by kernel_rfl) Z):p:=e trivial z
theorem zE(pc:List (Nat×oh))(z:q)(e:Hint pc->q->p:=by intro I Z;(try simp -implicitDefEqProofs only[go_sem,F]);exact aB3 I (by kernel_rfl) Z):p:=e trivial z
theorem zR{A:Prop}(h:A)(e:A->p:=by intro h;cases h;(try simp -implicitDefEqProofs only[go_sem,F]);all_goals(and_intros<;>first|rfl|omega)):p:=e h
theorem fQ{A:Prop}(h:A)(e:A->p:=by intro h;cases h;(try simp -implicitDefEqProofs only[go_sem,F]);refine⟨by decide,_,.refl _,?_⟩;simp -implicitDefEqProofs only[go_sem,F]<;>and_intros<;>first|rfl|trivial):p:=e h
theorem zW{e:Env}{H:aq}{l:List (Nat×AV)}{hl:List (Nat×Chunk)}(h:aoB e l/\vJ H hl/\aoD (bq hl) l/\wo (bq hl) hl/\kG H (bq hl):=by simp -implicitDefEqProofs only[go_sem,F]<;>and_intros<;>rfl):fE e H (rX l) (bq hl):=afJ h
end
section
variable{P:Program}{N:Nat}{own:List Nat}{σ γ O:Type}{c:Code}{K:pJ}{env:Env}{H:aq}{Kf:σ->Option O}{r:O}{F:Prop}
theorem zL{f:σ->(σ->Option O)->(σ->Option O)->Option O}{n:Nat}{s:σ}{L:σ×γ->List (Nat×AV)}{M:σ×γ->List (Nat×Chunk)}(fF:F)(h:iter f n s Kf=some r)(g0:γ)(ts:List Nat)(de:σ×γ->List (Nat×AV))(is:List Nat)(dh:σ×γ->aq->List (Nat×Chunk))
  (hr:∀s g (eF:σ->Option O) (R:Env->aq->Prop),F->(∀s' g' {e H},eF s'=some r->fE e H (rX (L (s',g'))) (bq (M (s',g')))->R e H)->f s eF Kf=some r->cw P N own c (tR R K) (rX (L (s,g))) (bq (M (s,g))))
  (e1:∀x,afS env ts (de x)=L x:=by intro x;(try simp -implicitDefEqProofs only[go_sem,F]);exact rfl) (e2:∀x,abK H is (dh x H)=M x:=by intro x;(try simp -implicitDefEqProofs only[go_sem,F]);exact rfl)
  (hw:fE env H (rX (L (s,g0))) (bq (M (s,g0))):=by exact afJ (by simp -implicitDefEqProofs only[go_sem,F]<;>and_intros<;>rfl)):ab3 P N own c K env H :=
 ayx (λx=>rX (L x)) (λx=>bq (M x)) g0 h hw λs g eF R hN h=>hr s g eF R fF hN h
theorem zN{f:Nat->σ->(σ->Option O)->(σ->Option O)->Option O}{n i:Nat}{s:σ}{L:(Nat×σ)×γ->List (Nat×AV)}{M:(Nat×σ)×γ->List (Nat×Chunk)}(fF:F)(h:cA (n<=fuel) (bH f (n-i) i s Kf)=some r)(g0:γ)(ts:List Nat)(de:(Nat×σ)×γ->List (Nat×AV))(is:List Nat)(dh:(Nat×σ)×γ->aq->List (Nat×Chunk))
  (hr:∀j s g (eF:σ->Option O) (R:Env->aq->Prop),F/\(j<n/\n<=4611686018427387904)/\i64.wrap ((j:Int)+1)=((j+1:Nat):Int)->(∀s' g' {e H},eF s'=some r->fE e H (rX (L ((j+1,s'),g'))) (bq (M ((j+1,s'),g')))->R e H)->f j s eF Kf=some r->cw P N own c (tR R K) (rX (L ((j,s),g))) (bq (M ((j,s),g))))
  (he:∀j s g (R:Env->aq->Prop),F/\¬ j<n->Kf s=some r->cw P N own c (tR R K) (rX (L ((j,s),g))) (bq (M ((j,s),g))))
  (e1:∀x,afS env ts (de x)=L x:=by intro x;(try simp -implicitDefEqProofs only[go_sem,F]);exact rfl) (e2:∀x,abK H is (dh x H)=M x:=by intro x;(try simp -implicitDefEqProofs only[go_sem,F]);exact rfl)
  (hw:fE env H (rX (L ((i,s),g0))) (bq (M ((i,s),g0))):=by exact afJ (by simp -implicitDefEqProofs only[go_sem,F]<;>and_intros<;>rfl)):ab3 P N own c K env H:=by
 obtain⟨hf,h⟩:=avD h;unfold fuel at hf;exact ayy (λx=>rX (L x)) (λx=>bq (M x)) g0 h hw (λj s g eF R hj hN h=>hr j s g eF R ⟨fF,⟨hj,hf⟩,bX hj hf⟩ hN h) λj s g R hj h=>he j s g R ⟨fF,by omega⟩ h
theorem zO{f:Nat->σ->(σ->Option O)->(σ->Option O)->Option O}{b:Int}{i:Nat}{s:σ}{L:(Nat×σ)×γ->List (Nat×AV)}{M:(Nat×σ)×γ->List (Nat×Chunk)}(fF:F)(h:cA (b.toNat<=fuel) (bH f (b.toNat-i) i s Kf)=some r)(g0:γ)(ts:List Nat)(de:(Nat×σ)×γ->List (Nat×AV))(is:List Nat)(dh:(Nat×σ)×γ->aq->List (Nat×Chunk))
  (hr:∀ (j:Nat) s g (eF:σ->Option O) (R:Env->aq->Prop),F/\((j:Int)<b/\j<b.toNat/\b.toNat<=4611686018427387904)/\i64.wrap ((j:Int)+1)=((j+1:Nat):Int)->(∀s' g' {e H},eF s'=some r->fE e H (rX (L ((j+1,s'),g'))) (bq (M ((j+1,s'),g')))->R e H)->f j s eF Kf=some r->cw P N own c (tR R K) (rX (L ((j,s),g))) (bq (M ((j,s),g))))
  (he:∀ (j:Nat) s g (R:Env->aq->Prop),F/\¬ (j:Int)<b->Kf s=some r->cw P N own c (tR R K) (rX (L ((j,s),g))) (bq (M ((j,s),g))))
  (e1:∀x,afS env ts (de x)=L x:=by intro x;(try simp -implicitDefEqProofs only[go_sem,F]);exact rfl) (e2:∀x,abK H is (dh x H)=M x:=by intro x;(try simp -implicitDefEqProofs only[go_sem,F]);exact rfl)
  (hw:fE env H (rX (L ((i,s),g0))) (bq (M ((i,s),g0))):=by exact afJ (by simp -implicitDefEqProofs only[go_sem,F]<;>and_intros<;>rfl)):ab3 P N own c K env H :=
 zN fF h g0 ts de is dh (λj s g eF R h=>hr j s g eF R ⟨h.1,⟨by omega,h.2.1⟩,h.2.2⟩) (λj s g R h=>he j s g R ⟨h.1,by omega⟩) e1 e2 hw
end
def sC(l:List Int)(n:Int):Option (List Int):=giv (0<=n/\n<=1000000/\l.length=1) (List.replicate n.toNat (l.getD 0 0))
end Go.Proofs.YtldllhbhnpjlcaaGreat
namespace Go.bP
def aoU(a:Int):List Int->List Int
 | []=>[a]
 |b :: l=>if a<=b then a :: b :: l else b :: aoU a l
def adr:List Int->List Int
 | []=>[]
 |a :: l=>aoU a (adr l)
theorem ads(a:Int):∀l:List Int,(aoU a l).Perm (a :: l)
 | []=>.refl _
 |b :: l=>by
  unfold aoU;split
  ·exact .refl _
  ·exact ((ads a l).cons b).trans (.swap a b l)
theorem ad3:∀l:List Int,(adr l).Perm l
 | []=>.refl _
 |a :: l=>(ads a _).trans ((ad3 l).cons a)
theorem ad4(a:Int):∀l:List Int,l.Pairwise (·<=·)->(aoU a l).Pairwise (·<=·)
 | [],_=>by simp[aoU]
 |b :: l,h=>by
  have h1:=List.pairwise_cons.1 h;unfold aoU;split
  ·rename_i hab;refine List.pairwise_cons.2 ⟨λx hx=>?_,h⟩;rcases List.mem_cons.1 hx with rfl|hx
   ·exact hab
   ·exact Int.le_trans hab (h1.1 x hx)
  ·rename_i hab;refine List.pairwise_cons.2 ⟨λx hx=>?_,ad4 a l h1.2⟩;rcases List.mem_cons.1 ((ads a l).mem_iff.1 hx) with rfl|hx
   ·omega
   ·exact h1.1 x hx
theorem abc:∀l:List Int,(adr l).Pairwise (·<=·)
 | []=>.nil
 |a :: l=>ad4 a _ (abc l)
theorem adt(l:List Int):adr l=l.mergeSort λx y=>decide (x<=y):=by have h:=List.pairwise_mergeSort (le:=λx y:Int=>decide (x<=y)) (λa b c h1 h2=>by simp at *;omega) (λa b=>by simp;omega) l;exact ((ad3 l).trans (List.mergeSort_perm l _).symm).eq_of_pairwise (le:=(·<=·)) (λa b _ _ h1 h2=>by omega) (abc l) (h.imp λh=>by simpa using h)
end Go.bP
namespace Go.Proofs.YtldllhbhnpjlcaaGreat
open Go.bP
def mS(l:List Int):Option (List Int):=giv (l.length<=1000000) (adr l)
theorem vl(v:Nat)(l r:List Int)(h:mS l=some r):pH pw 190 v 3 1 (l.map encI) [] (λa c=>a = .dg []/\c=some (.row v 3 1 (r.map encI))):=by obtain⟨h1,rfl⟩:=oV h;rw[adt];exact Go.SortM.callM_sortInt sortInt (by kernel_rfl) l (by omega) v 3
def kK(l:List Int):Option (List Int):=giv (l.length<=1000000) (Lib.compact l)
theorem rJ(v:Nat)(l r:List Int)(h:kK l=some r):pH pw 191 v 3 1 (l.map encI) [] (λa c=>a = .row 1000000 (v+1)/\c=some (.row (v+1) 3 1 (r.map encI))):=by obtain⟨h1,rfl⟩:=oV h;exact Go.SortM.callM_compactInt abF (by kernel_rfl) l (by omega) v 3
open Go.RowKit Go.Maps Go.Sort Go.Shelf Go.Proofs
attribute [local go_sem] Oper.semAt_some
theorem awt:Tryz.prog.underlying 35=some (.slice 3):=by kernel_rfl
def upto{α:Type}(f:Nat->α)(k:Nat):List α:=(List.range k).map f
theorem ahM{α:Type}(f:Nat->α)(k:Nat):upto f (k+1)=upto f k++[f k]:=by simp[upto,List.range_succ]
theorem al6{α:Type}(f:Nat->α)(k:Nat):(upto f k).length=k:=by simp[upto]
theorem awu(zs:List Int):upto (λj=>zs[j]?.getD 0) zs.length=zs:=by
 apply List.ext_getElem
 ·simp[upto]
 ·intro i h1 h2;simp[upto,h2]
set_option maxRecDepth 100000 in
theorem aoV(F:Fence)(n:Nat)(h7:F.fn 414)(hro:F.round=none)(hn:1<=n)(l Bs n₀ b off len cap:Nat)(zs:List Int)(awv:len * 8<=140737488351232)(hb:b<n₀)(J Jx:List Int->World->Prop)
  (hY:∀pre x W,J pre W->pre.length<len->YieldAt F (n-1) pw l #[.int .i64 x] W λe W' =>
   (e = .returned (.bool true)/\J (pre++[x]) W'/\Below n₀ W W')\/(e = .returned (.bool false)/\Jx (pre++[x]) W'))
  (W:World) (hBs:W.cell? ⟨Bs,0,none⟩=some (.slice (some ⟨b,off,none⟩) len cap)) (hc:∀j,j<len->W.cell? ⟨b,off+j,none⟩=some (.int .i64 (zs[j]?.getD 0))) (h0:J [] W) :
  CallsIn F n pw 414 #[.func (.yield l) #[] #[],.pointer (some ⟨Bs,0,none⟩)] W λe W'=>(∃v,e = .returned v) /\
   ((∃ys,ys=upto (λj=>zs[j]?.getD 0) len/\J ys W')\/(∃pre,(∃k,k<=len/\pre=upto (λj=>zs[j]?.getD 0) k)/\Jx pre W')):=by
 refine callsIn_of_wp func414 rfl h7 ?_ hro;simp only[ntmps414,List.size_toArray,List.length_cons,List.length_nil,Nat.reduceAdd,Nat.reduceSub,Array.replicate_succ,Array.replicate_zero,List.push_toArray,List.append_toArray,List.nil_append,List.cons_append]
 gi_wp2
 gi_loopw [7] (λi wr=>∃k:Nat,k<=len/\i = .int .i64 k/\J (upto (λj=>zs[j]?.getD 0) k) wr/\Below n₀ W wr)
  (λi _=>len-(intOf i).toNat)
 case atStart=>exact⟨0,Nat.zero_le _,rfl,h0,Below.refl _ _⟩
 case round =>
  obtain⟨k,hk,rfl,hJs,hnx⟩:=hrel;have hcx:k<len->wr.cell? ⟨b,off+k,none⟩=some (.int .i64 (zs[k]?.getD 0)):=λh=>(hnx.cell (p:=⟨b,off+k,none⟩) hb).trans (hc k h)
  by_cases hlt:k<len
  ·obtain⟨fn,tmps,assign,body,hy,hR⟩:=hY _ (zs[k]?.getD 0) wr hJs (by rw[al6];exact hlt);have hcx':=hcx hlt
   gi_wp2
   refine hR.mono ?_;rintro e W3 (⟨rfl,hJ3,hk3⟩|⟨rfl,aFn⟩)
   ·-- THE aGw GOES ON
    gi_wp2
    go_roundw
    case rel=>exact⟨k+1,by omega,by simp,by rw[ahM];exact hJ3,hnx.trans hk3⟩
    case measure=>simp[intOf];omega
   ·gi_wp2
    refine bodyPost_ret (results_none rfl _ _ _) rfl ?_;exact⟨⟨_,rfl⟩,.inr ⟨_,⟨k+1,by omega,(ahM _ _).symm⟩,aFn⟩⟩
  ·obtain rfl:k=len:=by omega
   gi_wp2
   go_end0
   exact⟨⟨_,rfl⟩,.inl ⟨_,rfl,hJs⟩⟩
def Ints(n₀:Nat)(W:World)(sv:Value)(zs:List Int):Prop:=((∃a cap,sv = .slice a 0 cap)/\zs=[])\/∃b off cap,sv = .slice (some ⟨b,off,none⟩) zs.length cap/\b<n₀/\∀j,j<zs.length->W.cell? ⟨b,off+j,none⟩=some (.int .i64 (zs[j]?.getD 0))
theorem Ints.below{n₀:Nat}{A B:World}(h:Below n₀ A B){sv:Value}{zs:List Int} : Ints n₀ A sv zs->Ints n₀ B sv zs
 | .inl e=>.inl e
 | .inr ⟨b,off,cap,e,hb,hc⟩=>.inr ⟨b,off,cap,e,hb,λj hj=>(h.cell (p:=⟨b,off+j,none⟩) hb).trans (hc j hj)⟩
set_option maxRecDepth 100000 in
theorem afT(F:Fence)(n:Nat)(h7:F.fn 414)(hro:F.round=none)(l Bs:Nat)(J:List Int->World->Prop)(W:World)(a:Option Addr)(cap:Nat)(hBs:W.cell? ⟨Bs,0,none⟩=some (.slice a 0 cap))(h0:J [] W) :
  CallsIn F n pw 414 #[.func (.yield l) #[] #[],.pointer (some ⟨Bs,0,none⟩)] W λe W'=>(∃v,e = .returned v)/\J [] W':=by
 refine callsIn_of_wp func414 rfl h7 ?_ hro;simp only[ntmps414,List.size_toArray,List.length_cons,List.length_nil,Nat.reduceAdd,Nat.reduceSub,Array.replicate_succ,Array.replicate_zero,List.push_toArray,List.append_toArray,List.nil_append,List.cons_append]
 gi_wp2
 gi_loopw [7] (λi wr=>i = .int .i64 0/\J [] wr) (λ_ _=>0)
 case atStart=>exact⟨rfl,h0⟩
 case round =>
  obtain⟨rfl,hJs⟩:=hrel
  gi_wp2
  go_end0
  exact⟨⟨_,rfl⟩,hJs⟩
theorem asK(F:Fence)(n:Nat)(h5:F.fn 381)(hro:F.round=none)(a:Option Addr)(len cap:Nat)(w:World) :
  CallsIn F n pw 381 #[.slice a len cap] w λe w'=>e = .returned (.func (.func 414) #[] #[.pointer (some ⟨w.heap.size,0,none⟩)])/\w'=w.alloc (.cells #[.slice a len cap] 35):=by
 refine callsIn_of_wp func381 rfl h5 ?_ hro;simp only[ntmps381,List.size_toArray,List.length_cons,List.length_nil,Nat.reduceAdd,Nat.reduceSub,Array.replicate_succ,Array.replicate_zero,List.push_toArray,List.append_toArray,List.nil_append,List.cons_append]
 gi_wp2
 go_ret
 exact⟨rfl,rfl⟩
def afU:Code:=(Code.region 2 #[{ dst:=some 5,op:=Op.assign (Operand.tmp 7),type:=3,pos := "iter.go:51",after:=#[],guard:=none }] false)
def aoW:Code:=(Code.block 1 (Code.region 3 #[{ dst:=some 8,op:=Op.load 35 (Operand.tmp 2),type:=35,pos := "iter.go:52",after:=#[],guard:=none },{ dst:=some 9,op:=Op.move (Operand.tmp 5),type:=3,pos := "iter.go:52",after:=#[],guard:=none },{ dst:=some 10,op:=Op.buildSlice 35 1 #[(0,Operand.tmp 9)],type:=35,pos := "iter.go:52",after:=#[{ on:=1,ground:=Ground.data }],guard:=none },{ dst:=some 11,op:=Op.call { callee:=Callee.builtin Builtin.append,args:=#[Operand.tmp 8,Operand.tmp 10],argTypes:=#[35,35] },type:=35,pos := "iter.go:52",after:=#[{ on:=0,ground:=Ground.data },{ on:=2,ground:=Ground.data }],guard:=none },{ dst:=none,op:=Op.store 35 (Operand.tmp 2) (Operand.tmp 11),type:=0,pos := "iter.go:52",after:=#[{ on:=3,ground:=Ground.data },{ on:=3,ground:=Ground.chain },{ on:=0,ground:=Ground.phase },{ on:=1,ground:=Ground.phase },{ on:=2,ground:=Ground.phase },{ on:=3,ground:=Ground.phase }],guard:=none }] false))
def z6(fn:FuncId)(sv:Value)(Bs D:Nat)(st:LoopState)(aFo:Option Code):Loop :=
 {state:=st,pending:=aFo,fn,tmps:=#[.slice none 0 0,sv,.pointer (some ⟨Bs,0,none⟩),undef,.slice none 0 0,undef,sv,undef,undef,undef,undef,undef,undef],params:=#[7],assign:=afU,body:=aoW,defers:=D }
structure ayO(w0:World)(fn:FuncId)(sv:Value)(Bs l D:Nat)(ss:List Int)(W:World):Prop where
 box:∃v,W.heap[Bs]? = some (.cells #[v] 35 (0,0))/\W.ownsRow w0.heap.size 3 1 v ss.length (ss.map (Value.int .i64))/\(v = .slice none 0 0↔ss=[])
 L:W.heap[l]? = some (.loop (z6 fn sv Bs D .ready none))
 K:W.heap[D]? = some (.deferred (some []))
 below:Below w0.heap.size w0 W
theorem jX(W:World)(l:Nat)(o:Obj):W.grownBy (W.putObj l o) (some l):=⟨rfl,rfl,rfl,by simp,λk _ hk=>World.putObj_heap_other (λe=>hk (by rw[e]))⟩
theorem adu(W:World)(b:Nat)(v:Value):W.grownBy (W.setCell ⟨b,0,none⟩ v) (some b):=⟨rfl,rfl,rfl,(KeepsWalks.setCell W _ v).size,λk _ hk=>Below.heap_setCell _ _ _ k (λe=>hk (by rw[e]))⟩
theorem qK{W:World}{base:Nat}{e:TypeId}{size:Nat}{v:Value}{k:Nat}{xs:List Value}(h:W.ownsRow base e size v k xs){j:Nat}{o:Obj}(hj:W.heap[j]? = some o)(hno:∀cur,o≠.cells cur e (0,0)) :
  v.ownBlock=none\/v.ownBlock≠some j:=by
 rcases h.2 with ⟨rfl,_⟩|⟨g,cap,cur,rfl,_,hgb,_⟩
 ·exact .inl rfl
 ·refine .inr λe'=>?_
  have:g=j:=by simpa[Value.ownBlock] using e'
  subst this;rw[hgb] at hj;cases hj;exact hno cur rfl
theorem z7{W:World}{B:Nat}{v:Value}{t:TypeId}(h:W.heap[B]? = some (.cells #[v] t (0,0))):W.cell? ⟨B,0,none⟩=some v/\W.frozen? ⟨B,0,none⟩=false:=by constructor<;>simp[World.cell?,World.frozen?,h]
theorem adv{W:World}{B:Nat}{v:Value}{t:TypeId}(v':Value)(h:W.heap[B]? = some (.cells #[v] t (0,0))):(W.setCell ⟨B,0,none⟩ v').heap[B]? = some (.cells #[v'] t (0,0)):=by obtain⟨hlt,hk⟩:=Array.getElem?_eq_some_iff.1 h;show (W.heap.modify B _)[B]? = _;rw[Array.getElem?_eq_getElem (by rw[Array.size_modify];exact hlt),Array.getElem_modify_self,hk];rfl
theorem aww:(Tryz.prog.info? 3).map (λi=>(i.zero,i.size,i.bytes))=some (some (.int .i64 0),1,8):=by kernel_rfl
set_option maxRecDepth 100000 in
theorem ayP(F:Fence)(m:Nat)(w0:World)(fn:FuncId)(hfn:F.fn fn)(sv:Value)(Bs l D:Nat)(hBl:Bs≠l)(hDl:D≠l)(hDB:D≠Bs)(h0B:w0.heap.size<=Bs)(h0l:w0.heap.size<=l)
    (N:Nat) (hN:N<=maxLen) (hNb:N * 8<=140737488355328) (ss:List Int) (x:Int) (W:World) (h:ayO w0 fn sv Bs l D ss W) (hlen:ss.length<N) :
    YieldAt F m pw l #[Value.int .i64 x] W λe W'=>e = .returned (.bool true)/\ayO w0 fn sv Bs l D (ss++[x]) W'/\RowKit.Below w0.heap.size W W':=by
  obtain⟨i0,hi,hz0,hz1,hz2⟩:=info_parts aww;obtain⟨v,hv,hrow,_⟩:=h.box;refine⟨fn,#[.slice none 0 0,sv,.pointer (some ⟨Bs,0,none⟩),undef,.slice none 0 0,undef,sv,Value.int .i64 x,undef,undef,undef,undef,undef],afU,aoW,by simpa[z6] using run_yield (P:=pw) (args:=#[Value.int .i64 x]) h.L rfl,roundIn_of_wpIn hfn ?_⟩;have hl:l<W.heap.size:=(Array.getElem?_eq_some_iff.1 h.L).1;have hbr:=run_beginRound (P:=pw) h.L rfl;obtain⟨W2,hW2⟩:∃W2,W.putObj l (.loop { z6 fn sv Bs D .ready none with state:=.busy })=W2:=⟨_,rfl⟩;rw[hW2] at hbr;have hg2:W.grownBy W2 (some l):=by rw[<-hW2];exact jX _ _ _
  have hk2:RowKit.Below w0.heap.size W W2:=(RowKit.Below.refl _ W).grown hg2 h.below.size (λk e=>by cases e;exact h0l);have hv2:W2.heap[Bs]? = some (.cells #[v] 35 (0,0)):=by rw[<-hW2];exact (World.putObj_heap_other hBl).trans hv
  have hK2:W2.heap[D]? = some (.deferred (some [])):=by rw[<-hW2];exact (World.putObj_heap_other hDl).trans h.K
  have hL2:W2.heap[l]? = some (.loop { z6 fn sv Bs D .ready none with state:=.busy }):=by rw[<-hW2];exact World.putObj_heap_same hl
  have apS:W2.ownsRow w0.heap.size 3 1 v ss.length (ss.map (Value.int .i64)):=hrow.kept hg2 (qK hrow h.L (λcur e=>by cases e));have hb2:Below w0.heap.size w0 W2:=h.below.grown hg2 h.below.size (λk e=>by cases e;exact h0l);obtain⟨hc2,hf2⟩:=z7 hv2;have aFp:Bs<W2.heap.size:=(Array.getElem?_eq_some_iff.1 hv2).1;have hl2:l<W2.heap.size:=(Array.getElem?_eq_some_iff.1 hL2).1;have aFq:D<W2.heap.size:=(Array.getElem?_eq_some_iff.1 hK2).1;have ne_of:∀ {j:Nat} {o:Obj},W2.heap[j]? = some o->(∀cur,o≠.cells cur 3 (0,0))->some j≠v.ownBlock:=λhj hno=>by
    rcases qK apS hj hno with e|e
    · rw[e];simp
    · exact λe'=>e e'.symm
  clear hW2;unfold afU
  gi_wp2_with (rw[Oper.semAt_eq _ _ _ (λc h=>by cases h)];go_simp;try go_bits)
  unfold aoW
  gi_wp2_with (first
    | (gi_at_builtin; refine wpListIn_append_own _ rfl _ _ 35 rfl w0.heap.size 3 i0 (.int .i64 0) 1 8 awt hi hz0 hz1 hz2 rfl (by decide) _ _ _ rfl (apS.alloc _) ⟨W2.heap.size, 0, none⟩ 1 1 [(Value.int .i64) x] rfl rfl (cell_one_new _ _ _) (by simp [Value.oneCell']) (by omega) (by omega) (by have := hb2.size; simp; omega) ?_; intro v' w3 hown' hg3 aGx
       have hv3:w3.heap[Bs]? = some (.cells #[v] 35 (0,0)):=(hg3.block Bs (by simp;omega) (ne_of hv2 (λcur e=>by cases e))).trans ((Below.heap_alloc _ _ Bs aFp).trans hv2);obtain⟨hc3,hf3⟩:=z7 hv3;obtain⟨g',cap',cur',rfl,aFr,hgb',hr1,hr2,hr3,hr4⟩:∃g' cap' cur',v' = .slice (some ⟨g',0,none⟩) (ss.length+1) cap'/\w0.heap.size<=g'/\w3.heap[g']? = some (.cells cur' 3 (0,0))/\ss.length+1<=cap'/\cap'<=maxLen/\cur'.size=cap' * 1/\cur'.toList.take ((ss.length+1) * 1)=ss.map (Value.int .i64)++[(Value.int .i64) x]:=by
         rcases hown'.2 with ⟨_,h0⟩|h'
         · exact absurd h0 (by omega)
         · exact h'
       go_frame)
    |(rw[Oper.semAt_eq _ _ _ (λc h=>by cases h)];go_simp;try go_bits))
  have ayQ:(W2.alloc (.cells #[Value.int .i64 x] 3)).grownBy w3 v.ownBlock:=hg3;have hL3:w3.heap[l]? = some (.loop { z6 fn sv Bs D .ready none with state:=.busy }):=(ayQ.block l (by simp;omega) (ne_of hL2 (λcur e=>by cases e))).trans ((Below.heap_alloc _ _ l hl2).trans hL2);have hK3:w3.heap[D]? = some (.deferred (some [])):=(ayQ.block D (by simp;omega) (ne_of hK2 (λcur e=>by cases e))).trans ((Below.heap_alloc _ _ D aFq).trans hK2);obtain⟨w4,hw4⟩:∃w4,w3.setCell ⟨Bs,0,none⟩ (.slice (some ⟨g',0,none⟩) (ss.length+1) cap')=w4:=⟨_,rfl⟩;rw[hw4];have hg4:w3.grownBy w4 (some Bs):=by rw[<-hw4];exact adu _ _ _
  have hv4:w4.heap[Bs]? = some (.cells #[.slice (some ⟨g',0,none⟩) (ss.length+1) cap'] 35 (0,0)):=by rw[<-hw4];exact adv _ hv3
  have hL4:w4.heap[l]? = some (.loop { z6 fn sv Bs D .ready none with state:=.busy }):=(hg4.block l (Array.getElem?_eq_some_iff.1 hL3).1 (λe=>hBl (by cases e;rfl))).trans hL3;have hK4:w4.heap[D]? = some (.deferred (some [])):=(hg4.block D (Array.getElem?_eq_some_iff.1 hK3).1 (λe=>hDB (by cases e;rfl))).trans hK3;have azG:=hown'.kept hg4 (qK hown' hv3 (λcur e=>by cases e));have hl4:l<w4.heap.size:=(Array.getElem?_eq_some_iff.1 hL4).1;have hb3:Below w0.heap.size w0 w3:=(hb2.alloc hb2.size _).grown ayQ (by have:=hb2.size;simp;omega) (λk e=>(apS.lt k e).1);have hb4:Below w0.heap.size w0 w4:=hb3.grown hg4 hb3.size (λk e=>by cases e;exact h0B);have hk4:RowKit.Below w0.heap.size W w4:=((hk2.alloc hb2.size _).grown ayQ (by have:=hb2.size;simp;omega) (λk e=>(apS.lt k e).1)).grown hg4 hb3.size (λk e=>by cases e;exact h0B);clear hw4;refine⟨_,_,run_endRound none hL4,rfl,⟨⟨_,(World.putObj_heap_other hBl).trans hv4,?_,by simp⟩,World.putObj_heap_same hl4,(World.putObj_heap_other hDl).trans hK4,hb4.grown (jX _ _ _) hb4.size (λk e=>by cases e;exact h0l)⟩,hk4.grown (jX _ _ _) hb4.size (λk e=>by cases e;exact h0l)⟩;have:=azG.kept (jX w4 l (.loop { { z6 fn sv Bs D .ready none with state:=.busy } with state:=if (none:Option Code).isNone then .ready else .done,pending:=none })) (qK azG hL4 (λcur e=>by cases e));simpa using this
set_option maxRecDepth 100000 in
theorem ajm(F:Fence)(n:Nat)(h11:F.fn 431)(hro:F.round=none)(hn:2<=n)(g:Nat)(lb:Array Value)(hFg:F.fn g)(eg:∀args w,(callFunc g args).run pw w = .ok (.enter g args) w)
    (S:List Int->Prop) (N:Nat) (hN:N<=maxLen) (hNb:N * 8<=140737488355328) (w:World) (hseq:∀ (l:Nat) (J:List Int->World->Prop) (W:World),RowKit.Below w.heap.size w W->(∀pre x W1,J pre W1->pre.length<N->YieldAt F (n-1-1) pw l #[Value.int .i64 x] W1 λe W'=>e = .returned (.bool true)/\J (pre++[x]) W'/\RowKit.Below w.heap.size W1 W')->J [] W->CallsIn F (n-1) pw g (#[.func (.yield l) #[] #[]]++lb) W λe W'=>(∃v,e = .returned v)/\∃xs,S xs/\J xs W') :
    CallsIn F n pw 431 #[.slice none 0 0,.func (.func g) #[] lb] w λe w'=>∃ (v:Value) (ss:List Int),e = .returned v/\S ss/\w'.ownsRow w.heap.size 3 1 v ss.length (ss.map (Value.int .i64))/\(v = .slice none 0 0↔ss=[])/\Below w.heap.size w w':=by
  have h1:1<=n:=by omega
  refine callsIn_of_wp_marks func431 rfl h11 ?_ hro;simp only[ntmps431,List.size_toArray,List.length_cons,List.length_nil,Nat.reduceAdd,Nat.reduceSub,Array.replicate_succ,Array.replicate_zero,List.push_toArray,List.append_toArray,List.nil_append,List.cons_append]
  gi_wp2
  refine wpIn_rangeFunc ?_;intro fn hfn;rw[hro];obtain⟨W0,hW0⟩:∃W0,w.alloc (.cells #[.slice none 0 0] 35)=W0:=⟨_,rfl⟩;have hs0:W0.heap.size=w.heap.size+1:=by rw[<-hW0];simp
  have hv0:W0.heap[w.heap.size]? = some (.cells #[.slice none 0 0] 35 (0,0)):=by rw[<-hW0];exact World.alloc_heap_new w _
  have hb0:Below w.heap.size w W0:=by rw[<-hW0];exact (Below.refl _ w).alloc (Nat.le_refl _) _
  rw[hW0];obtain⟨W1,hW1⟩:∃W1,(W0.alloc (.deferred (some []))).alloc (.loop (z6 fn (.func (.func g) #[] lb) w.heap.size W0.heap.size .ready none))=W1:=⟨_,rfl⟩;have hold:∀k,k<W0.heap.size->W1.heap[k]? = W0.heap[k]?:=λk hk=>by rw[<-hW1];exact (Below.heap_alloc _ _ k (by simp;omega)).trans (Below.heap_alloc _ _ k hk)
  have hb1:Below w.heap.size w W1:=by rw[<-hW1];exact (hb0.alloc hb0.size _).alloc (by have:=hb0.size;simp;omega) _
  have hs1:W1.heap.size=W0.heap.size+2:=by rw[<-hW1];simp
  have hM:ayO w fn (.func (.func g) #[] lb) w.heap.size (W0.heap.size+1) W0.heap.size [] W1 :=
    ⟨⟨_,(hold w.heap.size (by omega)).trans hv0,⟨rfl,.inl ⟨rfl,rfl⟩⟩,by simp⟩,
     by rw[<-hW1];have:=World.alloc_heap_new (W0.alloc (.deferred (some []))) (.loop (z6 fn (.func (.func g) #[] lb) w.heap.size W0.heap.size .ready none));rwa [World.size_alloc] at this,
     by rw[<-hW1];exact (Below.heap_alloc _ _ _ (by simp)).trans (World.alloc_heap_new W0 _),hb1⟩
  refine⟨W0.heap.size+1,[{ target:=.collected W0.heap.size,args:=#[] }],W1,{ target:=.fn (.func g) lb,args:=#[.func (.yield (W0.heap.size+1)) #[] #[]] },W1,g,
    #[.func (.yield (W0.heap.size+1)) #[] #[]]++lb,W1,?_,?_,?_,?_,λ_=>h1,?_⟩
  · rw[<-hW1];exact run_enterLoop_outer _ _ _ _ _
  · simp[resolve,go_sem]
  · intro f' hf';simp[Target.leads] at hf';subst hf';exact hFg
  · simp[invoke,go_sem,eg]
  · refine (hseq (W0.heap.size+1) (ayO w fn (.func (.func g) #[] lb) w.heap.size (W0.heap.size+1) W0.heap.size) W1 hb1
      (λpre x W hJ hl=>ayP F (n-1-1) w fn hfn _ w.heap.size (W0.heap.size+1) W0.heap.size (by omega) (by omega) (by omega) (Nat.le_refl _) (by omega) N hN hNb pre x W hJ hl) hM).mono ?_
    rintro e W2 ⟨⟨v0,rfl⟩,ss,hS,h2⟩;obtain⟨v,hv,hrow,hnil⟩:=h2.box;have hend:=run_endLoop (P:=pw) h2.L (by simp[z6]);obtain⟨W3,hW3⟩:∃W3,W2.putObj (W0.heap.size+1) (.loop { z6 fn (.func (.func g) #[] lb) w.heap.size W0.heap.size .ready none with state:=.exhausted })=W3:=⟨_,rfl⟩;rw[hW3] at hend;have hg3:W2.grownBy W3 (some (W0.heap.size+1)):=by rw[<-hW3];exact jX _ _ _
    have hv3:W3.heap[w.heap.size]? = some (.cells #[v] 35 (0,0)):=by rw[<-hW3];exact (World.putObj_heap_other (by omega)).trans hv
    have hK3:W3.heap[W0.heap.size]? = some (.deferred (some [])):=by rw[<-hW3];exact (World.putObj_heap_other (by omega)).trans h2.K
    have azH:=hrow.kept hg3 (qK hrow h2.L (λcur e=>by cases e));have hb3:Below w.heap.size w W3:=h2.below.grown hg3 h2.below.size (λk e=>by cases e;omega);obtain⟨hc3,hf3⟩:=z7 hv3;clear hW3;refine⟨none,W3,hend,?_⟩
    gi_wp2
    rw[<-hs0];refine⟨by simp,.inl ⟨_,_,rfl,run_takeDeferred hK3,?_⟩⟩;exact⟨_,results_tmp rfl _ _ _,v,ss,rfl,hS,azH.kept (jX _ _ _) (qK azH hK3 (λcur e=>by cases e)),hnil,hb3.grown (jX _ _ _) hb3.size (λk e=>by cases e;omega)⟩
theorem aoX(F:Fence)(n:Nat)(h8:F.fn 413)(h11:F.fn 431)(hro:F.round=none)(hn:3<=n)(g:Nat)(lb:Array Value)(hFg:F.fn g)(eg:∀args w,(callFunc g args).run pw w = .ok (.enter g args) w)
  (S:List Int->Prop) (N:Nat) (hN:N<=maxLen) (hNb:N * 8<=140737488355328) (w:World) (hseq:∀ (l:Nat) (J:List Int->World->Prop) (W:World),RowKit.Below w.heap.size w W->(∀pre x W1,J pre W1->pre.length<N->YieldAt F (n-1-1-1) pw l #[Value.int .i64 x] W1 λe W'=>e = .returned (.bool true)/\J (pre++[x]) W'/\RowKit.Below w.heap.size W1 W')->J [] W->CallsIn F (n-1-1) pw g (#[.func (.yield l) #[] #[]]++lb) W λe W'=>(∃v,e = .returned v)/\∃xs,S xs/\J xs W') :
  CallsIn F n pw 413 #[.func (.func g) #[] lb] w λe w'=>∃ (v:Value) (ss:List Int),e = .returned v/\S ss/\w'.ownsRow w.heap.size 3 1 v ss.length (ss.map (Value.int .i64))/\(v = .slice none 0 0↔ss=[])/\Below w.heap.size w w':=by
 have h1:1<=n:=by omega
 refine callsIn_of_wp func413 rfl h8 ?_ hro;simp only[ntmps413,List.size_toArray,List.length_cons,List.length_nil,Nat.reduceAdd,Nat.reduceSub,Array.replicate_succ,Array.replicate_zero,List.push_toArray,List.append_toArray,List.nil_append,List.cons_append]
 gi_wp2_with (gi_at_call 431;refine (ajm F (n-1) h11 hro (by omega) g lb hFg eg S N hN hNb _ hseq).mono ?_;rintro e w' ⟨v,ss,rfl,hS,hrow,hnil,hb⟩)
 go_ret
 exact⟨v,ss,rfl,hS,hrow,hnil,hb⟩
theorem ajn(F:Fence)(n:Nat)(h7:F.fn 414)(hro:F.round=none)(hn:1<=n)(Bs:Nat)(sv:Value)(zs:List Int)(awv:zs.length * 8<=140737488351232)(w w0:World)(hBs:Bs<w.heap.size)(h0:w0.heap.size<=w.heap.size)
  (hc:w.cell? ⟨Bs,0,none⟩=some sv) (hI:Ints w0.heap.size w sv zs) (l:Nat) (J:List Int->World->Prop) (W:World) (hW:RowKit.Below w.heap.size w W)
  (hY:∀pre x W1,J pre W1->pre.length<zs.length->YieldAt F (n-1) pw l #[Value.int .i64 x] W1 λe W'=>e = .returned (.bool true)/\J (pre++[x]) W'/\RowKit.Below w0.heap.size W1 W') (hj:J [] W) :
  CallsIn F n pw 414 (#[.func (.yield l) #[] #[]] ++ #[.pointer (some ⟨Bs,0,none⟩)]) W λe W'=>(∃v,e = .returned v)/\J zs W':=by
 have yP:=(hW.cell (p:=⟨Bs,0,none⟩) hBs).trans hc;rcases hI.below (hW.mono h0) with ⟨⟨a,cap,rfl⟩,rfl⟩|⟨b,off,cap,rfl,hb,hcs⟩
 ·exact (afT F n h7 hro l Bs J W a cap yP hj).mono λe W' ⟨he,hj⟩=>⟨he,hj⟩
 ·refine (aoV F n h7 hro hn l Bs w0.heap.size b off zs.length cap zs awv hb J (λ_ _=>False) (λpre x W1 h1 h2=>(hY pre x W1 h1 h2).mono λe W' h=>.inl h) W yP hcs hj).mono ?_;rintro e W' ⟨he,⟨ys,rfl,hj⟩|⟨pre,_,hf⟩⟩
  ·exact⟨he,by rwa [awu] at hj⟩
  ·exact hf.elim
set_option maxRecDepth 100000 in
theorem aoY(n:Nat)(hn:4<=n)(g:Nat)(lb:Array Value)(eg:∀args w,(callFunc g args).run pw w = .ok (.enter g args) w)
  (zs:List Int) (hN:zs.length<=1000000000) (w:World) (hseq:∀ (l:Nat) (J:List Int->World->Prop) (W:World),RowKit.Below w.heap.size w W->(∀pre x W1,J pre W1->pre.length<zs.length->YieldAt Fence.wide (n-1-1-1-1) pw l #[Value.int .i64 x] W1 λe W'=>e = .returned (.bool true)/\J (pre++[x]) W'/\RowKit.Below w.heap.size W1 W')->J [] W->CallsIn Fence.wide (n-1-1-1) pw g (#[.func (.yield l) #[] #[]]++lb) W λe W'=>(∃v,e = .returned v)/\∃xs,xs=zs/\J xs W') :
  CallsIn Fence.wide n pw 380 #[.func (.func g) #[] lb] w λe w'=>∃v:Value,e = .returned v /\
   w'.ownsRow w.heap.size 3 1 v zs.length ((zs.mergeSort (λx y=>decide (x<=y))).map (Value.int .i64))/\RowKit.Below w.heap.size w w':=by
 have h1:1<=n:=by omega
 refine callsIn_of_wp func380 rfl trivial ?_ rfl;simp only[ntmps380,List.size_toArray,List.length_cons,List.length_nil,Nat.reduceAdd,Nat.reduceSub,Array.replicate_succ,Array.replicate_zero,List.push_toArray,List.append_toArray,List.nil_append,List.cons_append]
 gi_wp2_with (refine⟨trivial,?_⟩;gi_at_call 413;refine (aoX Fence.wide (n-1) trivial trivial rfl (by omega) g lb trivial eg (λxs=>xs=zs) zs.length (by unfold maxLen;omega) (by omega) _ hseq).mono ?_;rintro e W ⟨v,ss,rfl,rfl,hrow,hnil,hb⟩)
 rcases hrow.2 with ⟨rfl,hz⟩|⟨gb,cap,cur,rfl,hbase,hgb,r1,r2,r3,r4⟩
 ·have hss:ss=[]:=List.eq_nil_of_length_eq_zero hz;subst hss
  gi_wp2_with (refine⟨trivial,?_⟩;gi_at_call 190;refine (callsIn_wide.2 (Any.slices_Sort_int_none sortInt none 0 W)).mono ?_;rintro e w' ⟨rfl,rfl⟩)
  go_ret
  exact⟨.slice none 0 0,rfl,by simpa using hrow,hb⟩
 ·have hH:Holds (Value.int .i64) W gb 0 ss.toArray:=holds_of_blockI hgb (by simpa using r4);have hgl:gb<W.heap.size:=(Array.getElem?_eq_some_iff.1 hgb).1;have avA:=calls_of_every_depth λD=>AnyS.slices_Sort_int_alone sortInt D gb 0 cap ss W hH hgl (by omega)
  gi_wp2_with (refine⟨trivial,?_⟩;gi_at_call 190;refine (callsIn_wide.2 avA).mono ?_;rintro e w' ⟨rfl,nn,os,rfl⟩)
  go_ret
  exact⟨_,rfl,ownsRow_sortedI (by simp) hbase hgb r1 r2 r3,hb.grown (grownBy_sortedI _) hb.size (λj hj=>by cases hj;exact hbase)⟩
set_option maxRecDepth 100000 in
theorem asL(a:Option Addr)(cap:Nat)(zs:List Int)(hN:zs.length<=1000000000)(w:World)(hI:Ints w.heap.size w (.slice a zs.length cap) zs) :
  Calls pw 328 #[.slice a zs.length cap] w λe w'=>e = .returned (.bool (decide ((Lib.compact (zs.mergeSort λx y=>decide (x<=y))).length<zs.length)))/\RowKit.Below w.heap.size w w':=by
 refine (callsIn_wide (n:=8)).1 ?_;refine callsIn_of_wp func328 rfl trivial ?_ rfl;simp only[ntmps328,List.size_toArray,List.length_cons,List.length_nil,Nat.reduceAdd,Nat.reduceSub,Array.replicate_succ,Array.replicate_zero,List.push_toArray,List.append_toArray,List.nil_append,List.cons_append];have hseq:∀ (l:Nat) (J:List Int->World->Prop) (W:World),RowKit.Below (w.alloc (.cells #[.slice a zs.length cap] 35)).heap.size (w.alloc (.cells #[.slice a zs.length cap] 35)) W->(∀pre x W1,J pre W1->pre.length<zs.length->YieldAt Fence.wide 3 pw l #[Value.int .i64 x] W1 λe W'=>e = .returned (.bool true)/\J (pre++[x]) W'/\RowKit.Below (w.alloc (.cells #[.slice a zs.length cap] 35)).heap.size W1 W')->J [] W->CallsIn Fence.wide 4 pw 414 (#[.func (.yield l) #[] #[]] ++ #[.pointer (some ⟨w.heap.size,0,none⟩)]) W λe W'=>(∃v,e = .returned v)/\∃xs,xs=zs/\J xs W':=λl J W hW hY hj=>by
  have hb0:RowKit.Below w.heap.size w (w.alloc (.cells #[.slice a zs.length cap] 35)):=(RowKit.Below.refl _ w).alloc (Nat.le_refl _) _;have hI2:Ints (w.alloc (.cells #[.slice a zs.length cap] 35)).heap.size (w.alloc (.cells #[.slice a zs.length cap] 35)) (.slice a zs.length cap) zs:=by
   rcases hI.below hb0 with h|⟨b,off,cap',e,hb,hc⟩
   ·exact .inl h
   ·exact .inr ⟨b,off,cap',e,by simp;omega,hc⟩
  refine (ajn Fence.wide 4 trivial rfl (by omega) w.heap.size _ zs (by omega) _ (w.alloc (.cells #[.slice a zs.length cap] 35)) (by simp) (Nat.le_refl _) (by simp) hI2 l J W hW hY hj).mono ?_;rintro e W' ⟨h1,h2⟩;exact⟨h1,_,rfl,h2⟩
 gi_wp2_with (first
  |(refine⟨trivial,?_⟩;gi_at_call 381;refine (asK Fence.wide 7 trivial rfl _ _ _ _).mono ?_;rintro e w' ⟨rfl,rfl⟩)
  |(refine⟨trivial,?_⟩;gi_at_call 380;refine (aoY 7 (by omega) 414 _ (enters_of func414 (by kernel_rfl) rfl) zs hN _ hseq).mono ?_;rintro e W ⟨v,rfl,hrow,hb⟩))
 have hsl:(zs.mergeSort λx y=>decide (x<=y)).length=zs.length:=List.length_mergeSort _;have hb0:RowKit.Below w.heap.size w W:=((RowKit.Below.refl _ w).alloc (Nat.le_refl _) _).trans (hb.mono (by simp));rcases hrow.2 with ⟨rfl,hz⟩|⟨gb,aFs,cur,rfl,hbase,hgb,r1,r2,r3,r4⟩
 ·have hss:zs=[]:=List.eq_nil_of_length_eq_zero hz;subst hss
  gi_wp2_with (refine⟨trivial,?_⟩;gi_at_call 191;refine (callsIn_wide.2 (Any.slices_Compact_int_empty abF none 0 W)).mono ?_;rintro e w' ⟨rfl,rfl⟩)
  go_ret
  refine⟨?_,hb0⟩;simp
 ·have hH:Holds (Value.int .i64) W gb 0 (zs.mergeSort λx y=>decide (x<=y)).toArray:=holds_of_blockI hgb (by rw[hsl];simpa using r4);have hc:=Any.slices_Compact_int abF gb 0 aFs (zs.mergeSort λx y=>decide (x<=y)) W hH (by omega) (by omega);rw[hsl] at hc
  gi_wp2_with (refine⟨trivial,?_⟩;gi_at_call 191;refine (callsIn_wide.2 hc).mono ?_;rintro e w' ⟨rfl,q,rfl⟩)
  go_ret
  refine⟨?_,hb0.grown (Go.SortM.grownBy_putI _) hb0.size (λk e=>by cases e;simp at hbase;omega)⟩;simp
def aAs(zs:List Int):Bool:=decide ((Lib.compact (zs.mergeSort λx y=>decide (x<=y))).length<zs.length)
open Go.bP in
theorem awx(zs:List Int)(hN:zs.length<=1000000):aB pw 328 [.aE (zs.map encI)] (λv=>v = .val (.bool (aAs zs))):=⟨by kernel_rfl,λI w vs hI hv=>by
 obtain⟨v,rfl⟩:∃v,vs=[v]:=by
  have h1:=hv.1
  match vs,h1 with
  | [v],_=>exact⟨v,rfl⟩
 have hv0:VR I v (.aE (zs.map encI)):=hv.2 0 v _ rfl rfl;cases hv0 with
 |aE ao n cap es us sz hn hsz hl hvv hone hm hnil hcap =>
  have hlen:n=zs.length:=by rw[<-hn];simp
  have hfl:(zs.map encI).flatten=(zs.map (Value.int .i64)).map PV.val:=Go.SortM.flat_encN zs;rw[hfl] at hl hvv;simp only[List.length_map] at hl;subst hlen;have hus:∀ (j:Nat) (hj:j<zs.length),us[j]? = some (.int .i64 zs[j]):=λj hj=>by
   have hj':j<us.length:=by omega
   have:=hvv j us[j] (.val (.int .i64 zs[j])) (List.getElem?_eq_getElem hj') (by simp[hj]);rw[List.getElem?_eq_getElem hj'];generalize us[j]=u at this;cases this;rfl
  have hI2:Ints w.heap.size w (.slice ao zs.length cap) zs:=by
   by_cases h0:zs=[]
   ·subst h0;exact .inl ⟨⟨ao,cap,rfl⟩,rfl⟩
   ·have hp:0<zs.length:=List.length_pos_iff.2 h0;rcases hm with rfl|⟨b,off,rfl,hmem⟩
    ·simp at hl;omega
    ·have hc:∀j (hj:j<zs.length),I b (off+j)=some (.int .i64 zs[j]):=λj hj=>hmem j _ (hus j hj)
     exact .inr ⟨b,off,cap,rfl,hI.lt (hc 0 hp),λj hj=>by rw[hI _ _ _ (hc j hj)];simp[hj]⟩
  refine (asL ao cap zs (by omega) w hI2).mono ?_;rintro e w' ⟨rfl,hb⟩;exact⟨_,_,I,rfl,rfl,.val _ rfl,hb,Mem.ew _,hI.keep λb ⟨o,u,hu⟩=>hb.block b (hI.lt hu),λ_ _ _=>rfl⟩⟩
open Go.bP in
def tW(l:List Int):Option Bool:=giv (l.length<=1000000) (decide ((Lib.compact (adr l)).length<l.length))
open Go.bP in
theorem z8(l:List Int)(r:Bool)(h:tW l=some r):aB pw 328 [.aE (l.map encI)] (λv=>v = .val (.bool r)):=by obtain⟨h1,rfl⟩:=oV h;rw[adt];exact awx l h1
end Go.Proofs.YtldllhbhnpjlcaaGreat
namespace Go.bP
open Go.Proofs.YtldllhbhnpjlcaaGreat
section
variable{P:Program}{k:FuncId}{α γ R:Type}{r:R}{F p:Prop}
theorem asM{o:Oper}{W:Env->aq->Prop}{env:Env}{H:aq}{dP xs ys:List AV}{A:AV}{l0:List (Nat×Chunk)}{l1:γ->List (Nat×Chunk)}
  (c:yF P k (bq l0) ys λa H=>∃v,mb a A/\vJ H (l1 v)) (ha:cB o (ev env)=some (k,dP)) (hx:xK (bq l0) H dP=some xs) (hy:ow xs ys)
  (hh:hiL l0) (h0:vJ H l0/\wo (bq l0) l0) (h1:∀v,wo (bq (l1 v)) (l1 v)/\lU (bq (l1 v)) A) (hst:∀v,xJ (bq (l1 v)) l0) (hnw:∀v,newL (bq l0) H (l1 v))
  (hW:∀v,W (bZ env o.dst A) (over (l1 v) H)):aa3 P o W env H:=λC I L tm w σ hs hσ=>by
 obtain⟨us,hr,hu⟩:=nQ ha c.1 hσ w;refine⟨k,_,hr,?_⟩;have hv:=ahI hs hu hx;obtain⟨q1,q2⟩:=qH hy;have yz:ng I (L.to (bq l0)) us ys:=⟨hv.1.trans q1,λj u c hj hc=>by
  obtain⟨a,ha⟩:∃a,xs[j]? = some a:=by have hj:j<us.length:=(List.getElem?_eq_some_iff.1 hj).1;have hl:=hv.1;exact⟨xs[j]'(by omega),by simp[hl ▸ hj]⟩
  exact xF (hv.2 j u a hj ha) (q2 j a c ha hc)⟩
 refine (c.2 C.B I _ w us hs.leB (apQ hh) (hs.abb h0.1 h0.2 hh) yz).mono λx w' ⟨u,a,H',I',L',m1,⟨v,m2,m3⟩,m4,m5⟩=>?_
 obtain⟨n1,n2⟩:=hs.azF h0.1 hh m5 m3 (h1 v).1 (hst v) (hnw v);exact⟨u,I',_,A,_,m1,hW v,((xF m4 m2).to (h1 v).2).mono (Mem.ew _) n2,n1⟩
theorem asN{o:Oper}{W:Env->aq->Prop}{env:Env}{H:aq}{dP xs ys:List AV}{A:AV}{l0:List (Nat×Chunk)}{l1:γ->List (Nat×Chunk)}{b:Nat}(_:Hint b)(hb:b<1000000)(hn:H 1000000=none)
  (c:yF P k (bq l0) ys λa H=>∃v,mb a A/\vJ H (l1 v)) (ha:cB o (ev (sP b 1000000 env))=some (k,dP)) (hx:xK (bq l0) (sQ b 1000000 H) dP=some xs) (hy:ow xs ys)
  (hh:hiL l0) (h0:vJ (sQ b 1000000 H) l0/\wo (bq l0) l0) (h1:∀v,wo (bq (l1 v)) (l1 v)/\lU (bq (l1 v)) A) (hst:∀v,xJ (bq (l1 v)) l0) (hnw:∀v,newL (bq l0) (sQ b 1000000 H) (l1 v))
  (hW:∀v,W (sP b 1000000 (bZ (sP b 1000000 env) o.dst A)) (sQ b 1000000 (over (l1 v) (sQ b 1000000 H)))):kf P o W env H :=
 .inr (.inr (.inr (adq b 1000000 hb hn (asM c ha hx hy hh h0 h1 hst hnw hW))))
theorem zCH{ys:List AV}{A:AV}{l0:List (Nat×Chunk)}{X:α->γ->List (Nat×Chunk)}{o:Option α}{g:α->Option R}{q:α->γ->Prop}(b:Nat)(f:F)(h:thn o g=some r)(c:∀x,o=some x->yF P k (bq l0) ys λa H=>∃v,mb a A/\vJ H (X x v))(z:∀x v,g x=some r->q x v)
  (e:∀x,Hint b->(yF P k (bq l0) ys λa H=>∃v,mb a A/\vJ H (X x v))->(∀v,q x v)->p:=by
   intro x I C Z
   (try simp -implicitDefEqProofs only[go_sem,F])
   exact asN I (by decide) (by simp -implicitDefEqProofs only[go_sem,F]) C (by simp -implicitDefEqProofs only[go_sem,F]<;>rfl) (by simp -implicitDefEqProofs only[go_sem,F]<;>rfl) (by simp -implicitDefEqProofs only[go_sem,F]<;>and_intros<;>rfl) (by simp -implicitDefEqProofs only[go_sem,F]<;>and_intros<;>decide) (by simp -implicitDefEqProofs only[go_sem,F]<;>and_intros<;>rfl) (by intro v;simp -implicitDefEqProofs only[go_sem,F]) (by intro v;simp -implicitDefEqProofs only[go_sem,F]) (by intro v;simp -implicitDefEqProofs only[go_sem,F]) Z):p:=by
 obtain⟨x,h1,h2⟩:=rF h;exact e x trivial (c x h1) (λv=>z x v h2)
end
end Go.bP
namespace Go.Proofs.YtldllhbhnpjlcaaGreat
open Go.bP
attribute [local go_sem] Nat.reduceEqDiff Nat.reduceLT Nat.reduceLeDiff Nat.reduceMul Nat.reduceAdd Nat.reduceBEq Nat.reduceSub Int.reduceToNat reduceIte reduceCtorEq List.cons_append List.nil_append ay encI jV aQ aL aM
noncomputable section
def fz(a0:List Int)(a1:Int):Option Int :=
 cA (a0.length<=fuel) <|
 bH (λi8 (s8:Unit) afV awy =>
  thn (a0[i8]?) λe11 =>
  cond (decide (a1=e11)) (
   some ((i8:Nat):Int)) <|
  afV ())
 (a0.length-0) 0 () λs8 =>
 some (-1)
theorem oL(a0:List Int)(a1:Int)(r:Int)(h:fz a0 a1=some r):aB pw 142 [.aE (a0.map encI),.val (.int .i64 a1)] (λv=>v = .val (.int .i64 r)):=by
 refine aB.eV ?_;refine aC [] func142 ?_;rw[ntmps142,results142];unfold fz at h;have F:=trivial;refine zV ?_;refine zN F h () [0,1,7] (λx=>[(8,.p (.val (.int .i64 ((x.1.1:Nat):Int))))]) [] (λx H=>[]) ?_ ?_
 ·intro i8 s8 g8 _ _ F Ns8 h;try dsimp only at h
  refine zI encI F h λe11 F h=>?_
  refine zB F h (λF h=>?_) λF h=>?_
  ·exact zR h
  ·exact zX (z:=Ns8 _ () h zW)
 ·intro i8 s8 g8 _ F h;try dsimp only at h
  exact zR h
def bC(a0:List Int)(a1:Int):Option Bool :=
 thn (fz a0 a1) λaB4 =>
 some (decide (0<=aB4))
theorem cc(a0:List Int)(a1:Int)(r:Bool)(h:bC a0 a1=some r):aB pw 139 [.aE (a0.map encI),.val (.int .i64 a1)] (λv=>v = .val (.bool r)):=by
 refine aB.eV ?_;refine aC [] func139 ?_;rw[ntmps139,results139];unfold bC at h;have F:=trivial;refine zK F h (oL _ _) λaB4 h=>?_
 exact zR h
def gn(a0:au)(a1:aF)(a2:ah)(a3:aO):Option ((List Int)×(List Edge)) :=
 cA (a1.right.graph.nodes.length<=fuel) <|
 bH (λi71 (s71:(List Int)×(List Int)) awz aFt =>
  thn (a1.right.graph.nodes[i71]?) λe99 =>
  thn (fz a1.into.nodes ((i71:Nat):Int)) λaAt =>
  cond (decide (0<=aAt)) (
   thn (jd a1.keep.nodes aAt) λaB5 =>
   thn (jd a2.nodes aB5) λaB6 =>
   thn (fz a3.nodes aB6) λayR =>
   cA (s71.1.length+1<=68719476736) <|
   awz ((s71.1++[ayR]),s71.2)) <|
  cA (s71.1.length+1<=68719476736) <|
  cA (s71.2.length+1<=68719476736) <|
  awz ((s71.1++[((s71.2.length:Nat):Int)]),(s71.2++[e99])))
 (a1.right.graph.nodes.length-0) 0 (([]:List Int),a0.nodes) λs71 =>
 cA (a1.right.graph.ag.length<=fuel) <|
 bH (λi147 (ajo:(List Edge)) apT aDV =>
  thn (a1.right.graph.ag[i147]?) λasO =>
  thn (bC a1.into.ag ((i147:Nat):Int)) λaB7 =>
  cond aB7 (
   apT ajo) <|
  thn (jd s71.1 asO.src) λayS =>
  thn (jd s71.1 asO.dst) λayT =>
  cA (ajo.length+1<=68719476736) <|
  apT (ajo++[(⟨asO.type,ayS,ayT⟩:Edge)]))
 (a1.right.graph.ag.length-0) 0 a0.ag λajo =>
 some (s71.2,ajo)
theorem aaa(u0 u1:Nat)(a0:au)(a1:aF)(a2:ah)(a3:aO)(r:(List Int)×(List Edge))(h:gn a0 a1 a2 a3=some r):yF pw 71 (bq [(1000000,.row u0 3 1 (a0.nodes.map encI)),(1000001,.row u1 165 3 (a0.ag.map ay))]) [.agg [.row 1000000 u0,.row 1000001 u1],.p (.agg (aQ a1)),.p (.agg [.aE (a2.nodes.map encI),.aE (a2.ag.map encI)]),.p (.agg [.aE (a3.nodes.map encI),.aE (a3.ag.map encI)])] (λa H=>∃v:Nat×Nat,mb a (.agg [.row 1000000 v.1,.row 1000001 v.2])/\vJ H [(1000000,.row v.1 3 1 (r.1.map encI)),(1000001,.row v.2 165 3 (r.2.map ay))]):=by
 refine ad2 [47] Ty.mixed func71 rfl (by kernel_rfl) (by simp[ntmps71]) ?_;rw[ntmps71,results71];unfold gn at h;have F:=trivial;refine zV ?_;refine zN F h ((0,u0):Nat×Nat) [4,5,6,7,8,18,19] (λx=>[(9,.row 2069 x.2.1),(20,.p (.val (.int .i64 ((x.1.1:Nat):Int))))]) [5,6,7,8,1000001] (λx H=>[(4,bx (H 4) [(0,.row 1000000 x.2.2)]),(2069,.row x.2.1 3 1 (x.1.2.1.map encI)),(1000000,.row x.2.2 3 1 (x.1.2.2.map encI))]) ?_ ?_ (hw:=by refine fE.trans (jg 9 2069 3 1 rfl rfl (by decide)) ?_;exact zW)
 ·intro i71 s71 g71 _ _ F aB8 h;try dsimp only at h
  refine zI encI F h λe99 F h=>?_
  refine zK F h (oL _ _) λaAt h=>?_
  refine zB F h (λF h=>?_) λF h=>?_
  ·refine zD [.p,.q,.q,.q,.q,.q,.q,.q,.q,.q,.q,.q,.q,.q,.p,.w,.q] ?_;refine zA encI F h λaB5 F h=>?_
   refine zA encI F h λaB6 F h=>?_
   refine zKd F h (oL _ _) λayR h=>?_
   refine zC F h λF h=>?_
   refine zF (eq_true (show (s71.1.length+1) * 8<=140737488355328 by omega)) F λF=>?_
   refine zF (bK encI s71.1 [ayR] (c:=[[.val (.int .i64 ayR)]]) rfl) F λF=>?_
   exact zX (z:=aB8 _ (g71.1+1,g71.2) h zW)
  ·refine zC F h λF h=>?_
   refine zF (eq_true (show (s71.1.length+1) * 8<=140737488355328 by omega)) F λF=>?_
   refine zF (bK encI s71.1 [((s71.2.length:Nat):Int)] (c:=[[.val (.int .i64 ((s71.2.length:Nat):Int))]]) rfl) F λF=>?_
   refine zC F h λF h=>?_
   refine zF (eq_true (show (s71.2.length+1) * 8<=140737488355328 by omega)) F λF=>?_
   refine zF (bK encI s71.2 [e99] (c:=[[.val (.int .i64 e99)]]) rfl) F λF=>?_
   exact zX (z:=aB8 _ (g71.1+1,g71.2+1) h zW)
 ·intro i71 s71 g71 _ F h;try dsimp only at h
  refine zV ?_;refine zN F h (u1:Nat) [4,5,8,9,64,65] (λx=>[(66,.p (.val (.int .i64 ((x.1.1:Nat):Int))))]) [5,8,2069,1000000] (λx H=>[(4,bx (H 4) [(1,.row 1000001 x.2)]),(1000001,.row x.2 165 3 (x.1.2.map ay))]) ?_ ?_
  ·intro i147 ajo ayU _ _ F azI h;try dsimp only at h
   refine zI ay F h λasO F h=>?_
   refine zK F h (cc _ _) λaB7 h=>?_
   refine cG F h (λF h=>?_) λF h=>?_
   ·exact zX (z:=azI _ ayU h zW)
   ·refine zE [(0,.p),(2,.q),(3,.q),(4,.q),(5,.q),(6,.q),(7,.q),(8,.q),(9,.q),(10,.q),(11,.q),(12,.q),(13,.q),(14,.q),(15,.p),(1,.q),(16,.w),(17,.q),(18,.w)] ?_;refine zA encI F h λayS F h=>?_
    refine zA encI F h λayT F h=>?_
    refine zC F h λF h=>?_
    refine zF (eq_true (show (ajo.length+1) * 24<=140737488355328 by omega)) F λF=>?_
    refine zF (bK ay ajo [(⟨asO.type,ayS,ayT⟩:Edge)] (c:=[[.val (.int .i64 asO.type),.val (.int .i64 ayS),.val (.int .i64 ayT)]]) rfl) F λF=>?_
    exact zX (z:=azI _ (ayU+1) h zW)
  ·intro i147 ajo ayU _ F h;try dsimp only at h
   refine zV ?_;refine⟨(g71.2,ayU),?_⟩;exact zR h
end
end Go.Proofs.YtldllhbhnpjlcaaGreat
namespace Go.Proofs.YtldllhbhnpjlcaaGreat
open Go.bP
def tX(x:bB):List PV:=[.val (.string x.rule.name),.aE (x.rule.left.graph.nodes.map encI),.aE (x.rule.left.graph.ag.map ay),.aE (x.rule.left.slots.map aL),.val (.int .i64 x.rule.left.vars),.aE (x.rule.left.tests.map aM),.aE (x.rule.right.graph.nodes.map encI),.aE (x.rule.right.graph.ag.map ay),.aE (x.rule.right.slots.map aL),.val (.int .i64 x.rule.right.vars),.aE (x.rule.right.tests.map aM),.aE (x.rule.keep.nodes.map encI),.aE (x.rule.keep.ag.map encI),.aE (x.rule.into.nodes.map encI),.aE (x.rule.into.ag.map encI),.val (.bool x.rule.injective),.val (.int .i64 x.rule.condition.kind),.aE (x.rule.condition.kids.map aI),.aE (x.rule.condition.map.nodes.map encI),.aE (x.rule.condition.map.ag.map encI),.aE (x.rule.condition.pattern.graph.nodes.map encI),.aE (x.rule.condition.pattern.graph.ag.map ay),.aE (x.rule.condition.pattern.slots.map aL),.val (.int .i64 x.rule.condition.pattern.vars),.aE (x.rule.condition.pattern.tests.map aM),.aE (x.cg.aK.nodes.map encI),.aE (x.cg.aK.ag.map encI),.aE (x.cg.vars.map encI),.aE (x.before.graph.nodes.map encI),.aE (x.before.graph.ag.map ay),.aE (x.before.values.map dw),.aE (x.after.graph.nodes.map encI),.aE (x.after.graph.ag.map ay),.aE (x.after.values.map dw),.aE (x.lD.nodes.map encI),.aE (x.lD.ag.map encI),.aE (x.iZ.nodes.map encI),.aE (x.iZ.ag.map encI)]
end Go.Proofs.YtldllhbhnpjlcaaGreat
